/- Part Gs14. -/
import Derived.Test.YthdbingomfdeoaaGreatDoorGs13

set_option linter.all false
set_option maxRecDepth 100000
set_option maxHeartbeats 100000000
namespace Go.Proofs.YthdbingomfdeoaaGreatDoor
open Tryz Go Go.RowKit
variable {p:Addr} {cs:Array Value} {gs xss:List (List Int)} {m:List (List Int×Value)} {rows:List (List Value)} {xs:List Int} {RM b b' base c cg co k n ng no:Nat} {a a' ag ao:Option Addr} {row:Option Nat} {e e':TypeId} {v:Value} {w w':World}
theorem Fp:prog.underlying 77=some (.map 57 9):=by kernel_rfl
theorem He(w:World):(zeroValue 9).run prog w = .ok (.string ⟨#[]⟩) w:=by kernel_rfl
theorem TB:Cq prog 57 An 6 48:=⟨by kernel_rfl,rfl,by omega⟩
theorem V7(b:w.grownBy w' row)(hp:w.cell? p=some v)(a:some p.block≠row):w'.cell? p=some v:=by
 rw[il (b.block _ (gT w p hp) a),hp]
theorem Hf{r:Nat}(h:AE w base e k a n c rows)(hi:AB w r m):blk a≠some r:=by
 cases a with
 | none=>simp[blk]
 | some ad =>
  rcases h.2.2 with⟨b,_⟩|⟨g,d,f,b,_⟩
  · simp at b
  · simp only[fd,fc]at b;obtain⟨rfl,_⟩:=b;have:=Fe h hi;simpa[blk]using this
theorem DA{m c':Nat}{cs:List Value}(h:Own w b e a n c cs)(f:AE w b' e' k a' m c' rows)(l:e≠e'):blk a=none\/blk a≠blk a':=by
 cases a' with
 | none =>
  cases o:blk a with
  | none=>exact Or.inl rfl
  | some g=>exact Or.inr (by simp[blk])
 | some ad =>
  have hp:∃ g,ad=⟨g,0,none⟩:=by
   rcases f.2.2 with⟨d,_⟩|⟨g,i,j,d,_⟩
   · simp at d
   · simp only[fd,fc]at d;exact⟨g,d.1⟩
  obtain⟨g,rfl⟩:=hp;exact Or.inr (by have:=Fg h f l;simpa[blk]using this)
structure Av1(w w2 wr:World)(RM:Nat)(K:List Pl.Tm)(ao:Option Addr)(no co:Nat):Prop where
 ext:Ext w2 wr
 mp:AB wr RM (Eg K)
 ow:AE wr w2.heap.size 57 6 ao no co (K.map fun p=>p.1.map (Value.int .i64))
 len:no=K.length
 gm:w2.heap.size<=RM
theorem Av1.ex{a wr b:World}{K:List Pl.Tm}(h:Av1 w a wr RM K ao no co)(e:Ext wr b):Av1 w a b RM K ao no co:=⟨h.ext.trans e,h.mp.ext e,h.ow.ext e,h.len,h.gm⟩
theorem FL(L:List Pl.Tm):(L.map fun p=>p.1.map (Value.int .i64))=(L.map (·.1)).map fun e=>e.map (Value.int .i64):=by rw[j4];rfl
theorem La{A q:Nat}{ts:List Tx}{l:List Pl.Tm}(hT:Bk w)(hg:SlL w ag q cg gs)(hG:isG gs)(cs:BL gs A)(ha:CP w a n c ts)(hr:rdP (A:Int) ts=some l)(sa:∀ t∈ts,t.1.length<=570)(cp:Tf gs A l) :
 Calls prog 15 #[.slice ag q cg,.agg #[.int .i64 (A:Int),.slice a n c]] w (Lv w (resQ A ((avT gs A (sumK gs A l)).map Cr))):=by
 have hq:gs.length=q:=hg.len;have cu:0<q:=by have:=hG.pos;omega
 have bp:A<=6:=by have:=(Pv.of hr).v0;omega
 have eT:n<=4096:=by have h1:=(CH hr).2.1;have h2:=ha.len;omega
 have eR:=FH hr;have eV:q<=1000:=by have:=cp.gl;omega
 have dp:=fun(o:World) (f:Ext w o)=>qh (by have h:=Gh (hg.ext f) (by omega);rw[ID hG]at h;exact h);have br:=fun(o:World) (f:Ext w o)=>qh (by have h:=Gs (vars:=(A:Int)) (hT.ext f) (ha.ext f) sa;rw[hr]at h;exact h)
 have dW:Hid (∀ i,i<n->(ts.getD i tm0).2.length=A/\ts.getD i tm0=(txt (l.getD i ([],0)).2,(ts.getD i tm0).2)/\(l.getD i ([],0)).1=Ab (ts.getD i tm0).2):=qh fun i hi=>by
  obtain⟨p1,_,p3,_,p5⟩:=BC (J8 hr (i:=i) (by have:=ha.len;omega));exact⟨by omega,by rw[<-Ie p1],p5⟩
 have dM:Hid (∀ t∈l,t.1.length=6):=qh fun t ht=>(Fk hr t ht).1;have R:=qh cp;obtain⟨RQ,c0⟩:∃ r,resQ (A:Int) ((avT gs A (sumK gs A l)).map Cr)=r:=⟨_,rfl⟩;rw[c0];have dY:=qh c0;have bJ:=qh hq;have eW:(A != A)=false:=by simp
 clear sa cp hr c0 hq
 go_enter func15,ntmps15
 go_upto_region 1 with(fail)
 refine PK ?_;intro w0 bO bM cT ey;have dr:=bM.c 0 rfl;have ds:=bM.c 1 rfl;have hR:Arr w0 (w.heap.size+1) 24 (AF 0 none 0 0):=cT;clear bM cT
 go_wp2_with fail
 refine(dp _ bO).out.mono ?_;rintro e w1 ⟨rfl,aF⟩;have bx:=bO.trans aF;have cM:=aF.cell dr;have cN:=aF.cell ds
 go_wp2_with fail
 refine(br _ bx).out.mono ?_;rintro e w2 ⟨rfl,aG⟩;have aA:=bx.trans aG;have bh:=hR.ext (aF.trans aG);have b3:=aG.cell cM;have b4:=aG.cell cN;have cw:w.heap.size+2<=w2.heap.size:=by have:=(aF.trans aG).size;omega
 clear dr ds cM cN hR dp br bO aF aG ey bx;simp only[kJ];obtain⟨bg,og,eO,eC,eP,rfl,cS,du⟩:=(hg.ext aA).at cu;have es:A=eC:=by
  have h1:=du.len;have h2:=(cs (gs.getD 0 []) (by rw[gqq,eZ (by rw[bJ.out];exact cu)];exact fE _)).2;omega
 subst es;rw[gE]at cS
 go_upto_region 3 with(fail)
 go_region
 have aI:Ext w2 w2.drew:=(Ext.refl w2).drew;replace aA:=aA.trans aI;replace bh:=bh.ext aI;replace b3:=aI.cell b3;replace b4:=aI.cell b4;replace cw:w.heap.size+2<=w2.drew.heap.size:=ft cw aI.size;clear aI cS du;generalize w2.drew=w3 at *
 go_upto_region 7 with(refine Fx rfl rfl ?_;intro w4 bS a6 T)
 obtain⟨RM,d6⟩:∃ g,w3.heap.size=g:=⟨_,rfl⟩;rw[d6]at bS T |-;have hA4:Av1 w w3 w4 RM (sumK gs A (l.take 0)) none 0 0:=⟨a6,bS,AE.nil _ _ _ _,rfl,kH d6⟩;obtain⟨dI,hS,cH,dj⟩:=ha;have HQ:=qh dj;have b8:=qh cH;have dG:=a6.cell b3;have dH:=a6.cell b4;clear bS cH dj;go_wp2
 go_loopw[6,44] (fun ov iv wr=>∃ (k:Nat) (ao:Option Addr) (no co:Nat),ov = .slice ao no co/\iv = .int .i64 k/\k<=n/\Av1 w w3 wr RM (sumK gs A (l.take k)) ao no co) (fun _ iv _=>n-(intOf iv).toNat)
 case atStart=>exact⟨0,none,0,0,rfl,rfl,fu _,hA4⟩
 case round =>
  clear hA4 a6 dG dH T;obtain⟨k,ao,no,co,rfl,rfl,hk,G⟩:=hrel;have hE:=G.ext;have an:=aA.trans hE;by_cases cl:k<n
  · have ca:=hS.ext an;obtain⟨bq,eX,rfl,el⟩:=ca.rd (by omega);obtain⟨s,ax,nx,bL,aB,bu,bv⟩:=HQ.out k cl;have hY:=Arr.new wr 46 (tmL ⟨#[]⟩ none 0 0);have cy:dI.getD k []=tmL s ax nx bL:=aB
    go_upto_region 10 with(first
     | (refine Dz rfl rfl CQ rfl ca cl ?_;rw[cy])
     | (refine Aa (vs:=tmL s ax nx bL) rfl rfl rfl rfl rfl CQ hY rfl (FG _ _ _ _) ?_;intro w5 Z aT))
    have ah:Ext wr w5:=((Ext.refl wr).alloc _).grownR aT (lrf _);obtain⟨X,hX⟩:∃ x,wr.heap.size=x:=⟨_,rfl⟩;rw[hX]at Z |-;obtain⟨r1,r2,r3⟩:=dW.out k cl;obtain⟨t,e8⟩:∃ t,Hid (ts.getD k tm0=t):=⟨_,qh rfl⟩;rw[e8.out]at bu bv r1 r2 r3;obtain⟨t1,t2⟩:=t;simp only at bu bv r1 r3;have cF:X<w5.heap.size:=Z.lt;have y0:=Z.c 0 rfl;have y1:=Z.c 1 rfl;have bA:=an.trans ah;have bF:SlI w5 ax nx bL t2:=bv.ext bA;have et:A=nx:=by have h1:=bF.len;omega
    subst et;have aN:=Rr (gs:=gs) (n:=A) (k:=k) (l:=l) (by have:=b8.out;omega);have dm:rk gs A (l.getD k ([],0)).1=Ab (Br gs t2):=by
     rw[r3];unfold rk;have h1:=CR (l:=t2);rw[r1]at h1;rw[h1]
    rw[dm]at aN;have bt : .string s=F3 (txt (l.getD k ([],0)).2):=by
     rw[<-Rq s,bu];exact fM (fun x:Tx=>F3 x.1) r2
    obtain⟨QT,bZ⟩:∃ x,(l.getD k ([],0)).2=x:=⟨_,rfl⟩;have cd:Pl.RB 400 QT:=by
     rw[<-bZ];exact R.out.cb _ (by rw[gqq,eZ (by have:=b8.out;omega)];exact fE _)
    have b0:=R.out.rb k (Ab (Br gs t2));have dF:=R.out.rb (k+1) (Ab (Br gs t2));rw[bZ]at aN bt;obtain⟨K,V⟩:∃ K,sumK gs A (l.take k)=K:=⟨_,rfl⟩;rw[V]at aN G b0;have cA:=qh aN;have bG:=qh V;have eM:no<=4096:=by
     have h1:=Kc gs A (l.take k);have h2:=G.len;rw[V,go]at h1;omega
    have ac:(Ab (Br gs t2)).length=6:=AA (by unfold Br;rw[DF];omega);have bm:Bg (Ab (Br gs t2)) = .agg ((Ab (Br gs t2)).map (Value.int .i64)).toArray:=rfl;clear hY aT Z aB cy el ca bv bu aN dm r2 r3 bZ V
    go_wp2_with fail
    refine(Cl bF bp).mono ?_;rintro e w6 ⟨rfl,a0⟩
    go_wp2_with fail
    refine(Fy (hg.ext (bA.trans a0)) cs r1 bp).mono ?_;rintro e w7 ⟨rfl,ai⟩;obtain⟨E,ez⟩:∃ E,Ab (Br gs t2)=E:=⟨_,rfl⟩;rw[bm];rw[ez]at ac bm cA b0 dF |-;have hA7:=Arr.new w7 57 An;obtain⟨I,J,M,N,O,Q,ap⟩:=FE ac;obtain⟨KI,eb⟩:∃ KI:List Value,KI=[.int .i64 I,.int .i64 J,.int .i64 M,.int .i64 N,.int .i64 O,.int .i64 Q]:=⟨_,rfl⟩;have W:E.map (Value.int .i64)=[.int .i64 I,.int .i64 J,.int .i64 M,.int .i64 N,.int .i64 O,.int .i64 Q]:=by rw[ap];rfl
    rw[W];have ck:([.int .i64 I,.int .i64 J,.int .i64 M,.int .i64 N,.int .i64 O,.int .i64 Q]:List Value).toArray=#[.int .i64 I,.int .i64 J,.int .i64 M,.int .i64 N,.int .i64 O,.int .i64 Q]:=rfl;have a3:Agg prog 57 ([.int .i64 I,.int .i64 J,.int .i64 M,.int .i64 N,.int .i64 O,.int .i64 Q]:List Value).length:=Cg;have aX:∀ u∈([.int .i64 I,.int .i64 J,.int .i64 M,.int .i64 N,.int .i64 O,.int .i64 Q]:List Value),u.oneCell'=true:=by rw[<-W];exact A4 _
    have dh:(Value.agg #[.int .i64 I,.int .i64 J,.int .i64 M,.int .i64 N,.int .i64 O,.int .i64 Q])=Bg E:=by rw[bm,W]
    have al:=qh dh;have e9:=qh ap;have bH:=qh W;clear eb KI dh bm W ck ap
    go_upto_region 11 with(refine Aa (vs:=[.int .i64 I,.int .i64 J,.int .i64 M,.int .i64 N,.int .i64 O,.int .i64 Q]) rfl rfl rfl rfl rfl a3 hA7 rfl aX ?_;intro w8 ae dd)
    obtain⟨Y,cc⟩:∃ y,w7.heap.size=y:=⟨_,rfl⟩;rw[cc]at ae |-;have bj:∀ g,blk ao=some g->g<X:=fun g h=>by have h1:=(G.ow.lt h).2;omega
    have ej:X<Y:=by have h1:=ah.size;have h2:=(a0.trans ai).size;have h3:=cF;omega
    have aH:Ext w7 w8:=((Ext.refl w7).alloc _).grownR dd (lrf _);have h58:=(a0.trans ai).trans aH;have dl:=ah.trans h58;have B:=G.ex dl;replace y0:=h58.cell y0;replace y1:=h58.cell y1;have aa:=B.mp;clear hA7 dd aH ai a0 ah h58 dl G bF hE an bA;have ad:∀ b:Bool,decide (E∈K.map (·.1))=b->RP (Eg K) E=b:=fun b hb=>by rw[Td];exact hb
    by_cases D:E∈K.map (·.1)
    case' pos =>
     obtain⟨SA,ak⟩:∃ SA:ByteArray,F3 (txt (Pl.getK 0 K E)) = .string SA:=⟨_,rfl⟩;have U:=NJ D;rw[ak]at U;have cR:Hid ((⟨(txt (Pl.getK 0 K E)).toArray⟩:ByteArray)=SA):=qh (by unfold F3 at ak;injection ak);have aV:=ad true (gn D)
     go_upto_region 12 with(first
      | (refine Bm rfl rfl a3 rfl ae ?_)
      | (refine C6 (k:=E) rfl rfl Fp Ba He rfl al.out aa ac ?_;rw[fG rfl,U,aV]))
     clear U aV ad ak
     go_upto_region 15 with(fail)
     have be:AE w8 w3.heap.size 57 6 ao no co ((Pl.putK K E (Pl.getK 0 K E+QT)).map fun p=>p.1.map (Value.int .i64)):=by
      rw[FL,G7,fG D,<-FL];exact B.ow
     have bn:no=(Pl.putK K E (Pl.getK 0 K E+QT)).length:=by
      have h1:=fM List.length (G7 (k:=E) (q:=Pl.getK 0 K E+QT) (L:=K));rw[fG D,fq,fq]at h1;rw[h1];exact B.len
     have bz:=B.ext;have cC:=B.mp;have H:=ae;have ch:=B.gm;obtain⟨aD,e1⟩:∃ x,x=ao:=⟨_,rfl⟩;obtain⟨dq,e2⟩:∃ x,x=no:=⟨_,rfl⟩;obtain⟨aE,e3⟩:∃ x,x=co:=⟨_,rfl⟩;obtain⟨az,e4⟩:∃ x,x=w8:=⟨_,rfl⟩;subst e1 e2 e3 e4;clear D aa B ae
    case' neg =>
     obtain⟨LV,U⟩:∃ v,Dr (.string ⟨#[]⟩) (Eg K) E=v:=⟨_,rfl⟩;have aV:=ad false (fK D)
     go_upto_region 12 with(first
      | (refine Bm rfl rfl a3 rfl ae ?_)
      | (refine C6 (k:=E) rfl rfl Fp Ba He rfl al.out aa ac ?_;rw[fG rfl,U,aV]))
     clear U aV ad;have dz:Hid ((⟨(txt (Pl.getK 0 K E)).toArray⟩:ByteArray)=⟨#[48]⟩):=qh (by rw[Ql D,N2.2 rfl]);have bc:=B.ow.ext ((Ext.refl w8).alloc (.cells #[.int .i64 I,.int .i64 J,.int .i64 M,.int .i64 N,.int .i64 O,.int .i64 Q] 57));have cY:=Ey (k:=6) (Arr.new w8 57 [.int .i64 I,.int .i64 J,.int .i64 M,.int .i64 N,.int .i64 O,.int .i64 Q]) rfl
     go_upto_region 15 with(first
      | (refine Bm rfl rfl a3 rfl ae ?_)
      | (refine Nd rfl rfl (by kernel_rfl) TB rfl bc rfl cY (by intro r hr u hu;rw[fi.1 hr]at hu;exact aX u hu) (by unfold maxLen;omega) (by omega) (by have:=B.ext.size;simp;omega) ?_;intro aD aE az aM C bD))
     have cV:Ext w3 (w8.alloc (.cells #[.int .i64 I,.int .i64 J,.int .i64 M,.int .i64 N,.int .i64 O,.int .i64 Q] 57)):=B.ext.alloc _;have cL:∀ g,blk ao=some g->w3.heap.size<=g:=fun g h=>(bc.lt h).1;have be:AE az w3.heap.size 57 6 aD (no+1) aE ((Pl.putK K E (Pl.getK 0 K E+QT)).map fun p=>p.1.map (Value.int .i64)):=by
      rw[FL,G7,fl D,fY,<-FL];show AE _ _ _ _ _ _ _ (_ ++ [E.map (Value.int .i64)]);rw[bH.out];exact aM
     have bn:no+1=(Pl.putK K E (Pl.getK 0 K E+QT)).length:=by
      have h1:=fM List.length (G7 (k:=E) (q:=Pl.getK 0 K E+QT) (L:=K));rw[fl D,fq,fo,fq]at h1;rw[h1,<-B.len];rfl
     have bz:Ext w3 az:=cV.grown C cL;have cC:=(aa.ext ((Ext.refl w8).alloc (.cells #[.int .i64 I,.int .i64 J,.int .i64 M,.int .i64 N,.int .i64 O,.int .i64 Q] 57))).kept C (fun h=>Hf bc (aa.ext ((Ext.refl w8).alloc _)) h.symm);have H:=(ae.alloc (.cells #[.int .i64 I,.int .i64 J,.int .i64 M,.int .i64 N,.int .i64 O,.int .i64 Q] 57)).kept C (fun h=>by have:=bj _ h.symm;omega);have ch:=B.gm
     replace y0:=V7 C (((Ext.refl w8).alloc (.cells #[.int .i64 I,.int .i64 J,.int .i64 M,.int .i64 N,.int .i64 O,.int .i64 Q] 57)).cell y0) (fun h=>lJ X (bj X h.symm));replace y1:=V7 C (((Ext.refl w8).alloc (.cells #[.int .i64 I,.int .i64 J,.int .i64 M,.int .i64 N,.int .i64 O,.int .i64 Q] 57)).cell y1) (fun h=>lJ X (bj X h.symm));obtain⟨SA,ak⟩:∃ SA:ByteArray,(⟨#[48]⟩:ByteArray)=SA:=⟨_,rfl⟩;rw[ak];have cR:Hid ((⟨(txt (Pl.getK 0 K E)).toArray⟩:ByteArray)=SA):=qh (dz.out.trans ak);obtain⟨dq,e2⟩:∃ x,no+1=x:=⟨_,rfl⟩
     rw[e2]at be bn |-;clear D aa B ae bc cY aM C bD ak e2 cV cL
    all_goals
     have z0:=H.c 0 rfl;have z1:=H.c 1 rfl;have z2:=H.c 2 rfl;have z3:=H.c 3 rfl;have z4:=H.c 4 rfl;have z5:=H.c 5 rfl;have dv:=aA.trans bz;have e7:Hid ((⟨(txt QT).toArray⟩:ByteArray)=s):=qh (by unfold F3 at bt;injection bt with h;exact h.symm);have bC:=fun(o:World) (f:Ext w o)=>qh (Tw (b:=400) (hT.ext f) (by omega) b0 cd (R.out.tb _ b0) (R.out.tb _ cd));rw[cR.out,e7.out]at bC;obtain⟨SN,c6⟩:∃ SN:ByteArray,(⟨(txt (Pl.getK 0 K E+QT)).toArray⟩:ByteArray)=SN:=⟨_,rfl⟩;rw[c6]at bC;have dx:=qh bn
     have e5:Hid (F3 (txt (Pl.getK 0 K E+QT)) = .string SN):=qh (by unfold F3;rw[c6]);clear H b0 cd bt c6 bj ej cF bn;have cO:=fun(o:World) (f:Ext az o)=>qh (And.intro (f.cell z0) (And.intro (f.cell z1) (And.intro (f.cell z2) (And.intro (f.cell z3) (And.intro (f.cell z4) (And.intro (f.cell z5) (f.cell y0)))))))
     refine Ad
      [he (.map (some RM)),he (.agg #[.int .i64 I,.int .i64 J,.int .i64 M,.int .i64 N,.int .i64 O,.int .i64 Q]),he (.string SA),hdP X 0,he (.string s),hp (fun v o=>v = .string SN)]
      ⟨fun _ _ _ _ h=>h,trivial⟩ ⟨?o0,?o1,?o2,?o3,?o4,?o5,trivial⟩ ?fin
     case o0 | o2=>exact omv
     case o3=>exact ofa (d:=0)
     case o4=>exact ol
     case o1 =>
      refine BB rfl fun ρ o f F h => ?_;have e0:_=_:=h.1;obtain⟨aq,ar,au,av,aw,ay,eA⟩:=(cO o f).out;go_simp
     case o5 =>
      refine Ai rfl fun ρ o f F dc h => ?_;have e1:_=_:=h.2.1;have e2:_=_:=h.2.2.1;obtain⟨aq,ar,au,av,aw,ay,eA⟩:=(cO o f).out;refine⟨35,#[.string SA,.string s],by go_simp,((bC o (dv.trans f)).out).mono ?_⟩;rintro e w' ⟨rfl,aR⟩;exact⟨_,rfl,aR,rfl⟩
     case fin =>
      intro o f;rintro _ rfl;change wpList _ _ _ _ _ _;simp only[CB];have ab:=cC.ext f
      go_wp2_with(refine Iy (k:=E) (v := .string SN) rfl (Or.inl rfl) Fp Ba rfl al.out rfl ab ac ?_;intro eY dB cG)
      go_roundw
      case rel =>
       refine⟨k+1,aD,dq,aE,rfl,by go_num,by omega,?_⟩;rw[cA.out];refine⟨(bz.trans f).grown cG (fun g h=>by cases h;exact ch),?_,(be.ext f).kept cG (Or.inr (Hf (be.ext f) ab)),dx.out,ch⟩;rw[<-U0,e5.out];exact dB
      case measure=>simp[intOf];omega
  · have ep:n=k:=by omega
    subst ep;have bQ:sumK gs A (l.take n)=sumK gs A l:=by rw[f9 (by have:=b8.out;omega)]
    rw[bQ]at G;obtain⟨K,V⟩:∃ K,sumK gs A l=K:=⟨_,rfl⟩
    have dX:Hid (∀ e,Pl.RB 400 (Pl.getK 0 K e)):=qh fun e=>by
     have h:=R.out.rb n e;rw[bQ,V]at h;exact h
    have eo:K.length<=4096:=by have:=Kc gs A l;rw[V]at this;have:=b8.out;omega
    rw[V]at G;have bG:=qh V;have aO:Hid ((avT gs A K).length<=4096/\(∀ t∈avT gs A K,Gt A t)/\(∀ t∈avT gs A K,t.1.length<=570)/\Lw ((avT gs A K).map Cr)):=qh (by rw[<-V];exact⟨R.out.len,R.out.mkt,R.out.tx,R.out.fin⟩);clear bQ V;have bI:=qh G.len;obtain⟨wA,b2⟩:∃ x,x=wr:=⟨_,rfl⟩;subst b2;have ba:=G.ext;have d4:=G.ow;have d1:=G.mp;have cW:(K.map (·.1)).Nodup:=by have h:=d1.nodup;rw[DD]at h;exact h
    have bH:=qh (fun(j:Nat) (hj:j<K.length)=>U1 cW hj)
    have dL:Hid (∀ j,j<K.length->∃ m:List Int,m.length=A/\(K.getD j ([],0)).1=Ab m):=qh fun j hj=>by
     have h:=LC (gs:=gs) (n:=A) (l:=l) bp dM.out;rw[bG.out]at h;exact h _ (by rw[gqq,eZ hj];exact fE _)
    have b2:=aA.trans ba;have dt:=ba.cell b3;have eD:=ba.cell b4;have eg:=bh.ext ba;have eh:=d4.slk (by omega);have eQ:=fun g (h:blk ao=some g)=>(d4.lt h).2;clear cW b3 b4 bh G hk cw hS HQ
    go_upto_region 18 with(fail)
    have eU:no<=4096:=by rw[bI.out];exact eo
    go_wp2
    go_loopw[13,74] (fun tv iv wr=>∃ (j:Nat) (aP:Option Addr) (nt ct:Nat),tv = .slice aP nt ct/\iv = .int .i64 j/\j<=no/\Ext wA wr/\TmO wr wA.heap.size aP nt ct (avT gs A (K.take j))) (fun _ iv _=>no-(intOf iv).toNat)
    case atStart=>exact⟨0,none,0,0,rfl,rfl,fu _,Ext.refl _,TmO.nil _ _⟩
    case round =>
     obtain⟨j,aP,nt,ct,rfl,rfl,hj,am,aJ⟩:=hrel;have an:=b2.trans am;by_cases dg:j<no
     · have c8:=eh.ext am;obtain⟨bk,ok,rfl,dC⟩:=c8.rd (by omega);have aW:j<K.length:=by rw[<-bI.out];exact dg
       obtain⟨m,bo,ad⟩:=dL.out j aW;have aU:=bH.out j aW;have b7:=qh (Te (gs:=gs) (n:=A) (k:=j) (K:=K) aW);have aB:(K.map fun p=>p.1.map (Value.int .i64)).getD j []=(Ab m).map (Value.int .i64):=by
        rw[<-ad];simp[aW]
       obtain⟨P,hP⟩:∃ P,K.getD j ([],0)=P:=⟨_,rfl⟩;rw[hP]at ad aU b7;obtain⟨E,QK⟩:=P;simp only at ad aU;subst ad;have ac:(Ab m).length=6:=AA (by omega);obtain⟨I,J,M,N,O,Q,ap⟩:=FE ac;have W:(Ab m).map (Value.int .i64)=[.int .i64 I,.int .i64 J,.int .i64 M,.int .i64 N,.int .i64 O,.int .i64 Q]:=by rw[ap];rfl
       rw[W]at aB;have al:Hid ((Value.agg #[.int .i64 I,.int .i64 J,.int .i64 M,.int .i64 N,.int .i64 O,.int .i64 Q])=Bg (Ab m)):=qh (by unfold Bg;rw[W]);have ck:([.int .i64 I,.int .i64 J,.int .i64 M,.int .i64 N,.int .i64 O,.int .i64 Q]:List Value).toArray=#[.int .i64 I,.int .i64 J,.int .i64 M,.int .i64 N,.int .i64 O,.int .i64 Q]:=rfl;have a3:Agg prog 57 ([.int .i64 I,.int .i64 J,.int .i64 M,.int .i64 N,.int .i64 O,.int .i64 Q]:List Value).length:=Cg
       have aX:∀ u∈([.int .i64 I,.int .i64 J,.int .i64 M,.int .i64 N,.int .i64 O,.int .i64 Q]:List Value),u.oneCell'=true:=by rw[<-W];exact A4 _
       have d9:=Arr.new wr 57 An;have e9:=qh ap;have eN:=qh W;have ef:=qh hP;clear W ap dC hP
       go_upto_region 21 with(first
        | (refine Dz rfl rfl Cg rfl c8 dg ?_;rw[aB])
        | (refine Aa (vs:=[.int .i64 I,.int .i64 J,.int .i64 M,.int .i64 N,.int .i64 O,.int .i64 Q]) rfl rfl rfl rfl rfl a3 d9 rfl aX ?_;intro w5 Z aT))
       obtain⟨Y,cc⟩:∃ y,wr.heap.size=y:=⟨_,rfl⟩;rw[cc]at Z |-;have ah:Ext wr w5:=((Ext.refl wr).alloc _).grownR aT (lrf _);have b5:=am.trans ah;have cD:=aJ.ext ah;have bT:=d1.ext b5;have D:Ab m∈K.map (·.1):=by
        have h1:=fM Prod.fst ef.out;have h2:K.getD j ([],0)∈K:=by rw[gqq,eZ aW];exact fE _
        exact fy.2 ⟨_,h2,h1⟩
       obtain⟨SQ,bi⟩:∃ S:ByteArray,(⟨(txt QK).toArray⟩:ByteArray)=S:=⟨_,rfl⟩;have U:=NJ D;rw[aU]at U;unfold F3 at U;rw[bi]at U;have bs:Pl.RB 400 QK:=by rw[<-aU];exact dX.out _
       have cv:=qh (Rx (q:=QK) (hT.ext (b2.trans b5)) (R.out.tb _ bs));rw[bi]at cv;have e6:=qh bi;have cP:=qh U;clear d9 aT ah am aJ D bi U aU aB an c8
       go_wp2_with(first
        | (refine Bm rfl rfl a3 rfl Z ?_)
        | (refine C6 (k:=Ab m) rfl rfl Fp Ba He rfl al.out bT ac ?_;rw[fl (by simp),cP.out]))
       refine cv.out.mono ?_;rintro e w6 ⟨⟨r,rfl,hr⟩,a0⟩;have aL:=b5.trans a0;have bB:=cD.ext a0;have d0:=bT.ext a0;have cU:=Z.ext a0;clear cv b5 cD bT Z a0;by_cases aK:QK=0
       · have dn:(r == 0)=true:=by simp[hr.2 aK]
         have bK:Hid (avT gs A (K.take (j+1))=avT gs A (K.take j)):=qh (by
          rw[b7.out];unfold orbT
          rw[fG aK,iO])
         clear hr aK;go_wp2;go_roundw
         case rel=>exact⟨j+1,aP,nt,ct,rfl,by go_num,by omega,aL,by rw[bK.out];exact bB⟩
         case measure=>simp[intOf];omega
       · have dn:(r == 0)=false:=by simpa using fun h=>aK (hr.1 h)
         have dU:=qh aK;clear hr aK
         go_upto_region 23 with(refine Fx rfl rfl ?_;intro w7 bU ai eq)
         obtain⟨RO,d7⟩:∃ g,w6.heap.size=g:=⟨_,rfl⟩;rw[d7]at bU eq |-;have dK:Hid (∀ i,i<q->Af (gs.getD i [])=true/\(gs.getD i []).length=A):=qh fun i hi=>cs _ (by rw[gqq,eZ (by rw[bJ.out];exact hi)];exact fE _);clear dn;go_wp2
         go_loopw[86] (fun iv o=>∃ i:Nat,iv = .int .i64 i/\i<=q/\Ext w6 o/\AB o RO (B1 (B5 gs m i))) (fun iv _=>q-(intOf iv).toNat)
         case atStart=>exact⟨0,rfl,fu _,ai,bU⟩
         case round =>
          clear bU;obtain⟨i,rfl,hi,a8,ab⟩:=hrel;have b6:=(b2.trans aL).trans a8;have af:=cU.ext a8;have ci:=hg.ext b6
          have aY:∀ x∈B5 gs m i,x.length=A:=fun x hx=>by
           obtain⟨j,_,rfl⟩:=(Fo i x).1 hx;rw[AV];exact bo
          by_cases df:i<q
          · obtain⟨b1,o1,a1,n1,c1,da,g1,s1⟩:=ci.at df;simp only[fc,gz,ij]at da;obtain⟨rfl,rfl⟩:=da;obtain⟨gp,gl⟩:=dK.out i df;have er:A=n1:=by have h1:=s1.len;omega
            subst er;have cm:=EM s1 gp bo;rw[<-al.out]at cm;have dR:=qh cm;have en:(Ab (mvd (gs.getD i []) m)).length=6:=AA (by rw[AV];omega);clear cm ci s1
            go_wp2_with(first
             | (refine Bm rfl rfl a3 rfl af ?_))
            refine dR.out.mono ?_;rintro e w8 ⟨rfl,aH⟩;have aa:=ab.ext aH
            go_upto_region 27 with(refine Iy (k:=Ab (mvd (gs.getD i []) m)) (v := .bool true) rfl (Or.inl rfl) Cz Ba rfl rfl rfl aa en ?_;intro w9 bV bl)
            have em:w6.heap.size<=RO:=kH d7
            have dP:Hid (AB w9 RO (B1 (B5 gs m (i+1)))):=qh (by
             rw[Rs aY (by rw[AV];exact bo)]at bV
             exact bV)
            have dJ:=qh ((a8.trans aH).grown bl (fun g h=>by cases h;exact em));clear bV bl aa ab aH a8 aY g1;go_wp2;go_roundw
            case rel=>exact⟨i+1,by go_num,by omega,dJ.out,dP.out⟩
            case measure=>simp[intOf];omega
          · have dD:q=i:=by omega
            subst dD;obtain⟨L,hL⟩:∃ L,B5 gs m q=L:=⟨_,rfl⟩;have cZ:L.Nodup:=by rw[<-hL];exact DJ q
            have ec:L.length<=q:=by rw[<-hL];exact JF q
            have bR:0<L.length:=by
             rw[<-hL];exact gW ((Fo q _).2 ⟨0,cu,rfl⟩)
            rw[hL]at ab aY;have dO:=qh hL;clear hL ci
            go_upto_region 28 with(fail)
            have z0:=af.c 0 rfl;have z1:=af.c 1 rfl;have z2:=af.c 2 rfl;have z3:=af.c 3 rfl;have z4:=af.c 4 rfl;have z5:=af.c 5 rfl;have d2:=d0.ext a8
            have cI:∀ o,Ext wr o->(Instr.lookup 77 (.map (some RM)) (.agg #[.int .i64 I,.int .i64 J,.int .i64 M,.int .i64 N,.int .i64 O,.int .i64 Q]) false).run prog o = .ok (.string SQ) o:=fun o f=>by
             rw[al.out,EL Fp Ba (He o) (d2.ext f) ac false,fl (by simp),cP.out]
            have cJ:∀ o,Ext wr o->(Builtin.len_ #[53] 3 #[.map (some RO)]).run prog o = .ok (.int .i64 (L.length:Int)) o:=fun o f=>by
             have h:=KD (P:=prog) (ty:=3) Cz (ab.ext f).obj;have h2:(BZ 0 (B1 L)).toArray.size=L.length:=by simp[CL,B1]
             rw[h2]at h;exact h
            obtain⟨SL,c5⟩:∃ S:ByteArray,(⟨(txt ((L.length:Int):Rat)).toArray⟩:ByteArray)=S:=⟨_,rfl⟩;obtain⟨SD,c3⟩:∃ S:ByteArray,(⟨(txt (QK*(((L.length:Nat):Int):Rat)⁻¹)).toArray⟩:ByteArray)=S:=⟨_,rfl⟩;have cf:=fun(o:World) (f:Ext wr o)=>qh (MB (z:=(L.length:Int)) (hT.ext (b6.trans f)) (by omega) (by omega));have ce:=fun(o:World) (f:Ext wr o)=>qh (TA (x:=QK) (m:=L.length) (b:=400) (hT.ext (b6.trans f)) bR (by omega) (by omega) bs (R.out.tb _ bs));rw[c5]at cf;rw[c5,e6.out,c3]at ce;have dZ:=qh c3;clear c5 c3
            have aC:=fun(o:World) (f:Ext wr o)=>qh (And.intro (f.cell z0) (And.intro (f.cell z1) (And.intro (f.cell z2) (And.intro (f.cell z3) (And.intro (f.cell z4) (f.cell z5))))))
            refine Ad
             [he (.map (some RM)),he (.agg #[.int .i64 I,.int .i64 J,.int .i64 M,.int .i64 N,.int .i64 O,.int .i64 Q]),he (.string SQ),he (.map (some RO)),hdI (L.length:Int),hp (fun v o=>v = .string SL),hp (fun v o=>v = .tuple #[.string SD,.bool true]),he (.tuple #[.string SD,.bool true]),he (.string SD),hdB true,he (.string SD),hdB true]
             ⟨fun _ _ _ _ h=>h,fun _ _ _ _ h=>h,trivial⟩ ⟨?o0,?o1,?o2,?o3,?o4,?o5,?o6,?o7,?o8,?o9,?o10,?o11,trivial⟩ ?fin
            case o0 | o3=>exact omv
            case o10 | o11=>exact oas
            case o2 =>
             refine BB rfl fun ρ o f F h => ?_
             try have e0:_=_:=h.1
             try have e1:_=_:=h.2.1
             try have e2:_=_:=h.2.2.1
             have k0:=cI o f;go_simp
             try (first | (intros;omega) | exact fO _ (by omega))
            case o4 =>
             refine BB rfl fun ρ o f F h => ?_
             try have e0:_=_:=h.1
             try have e1:_=_:=h.2.1
             try have e2:_=_:=h.2.2.1
             have k0:=cJ o f;go_simp
             try (first | (intros;omega) | exact fO _ (by omega))
            case o1 =>
             refine BB rfl fun ρ o f F h => ?_;have e0:_=_:=h.1;obtain⟨aq,ar,au,av,aw,ay⟩:=(aC o f).out;go_simp
            case o5 =>
             refine Ai rfl fun ρ o f F dc h => ?_;have e1:_=_:=h.2.1;obtain⟨aq,ar,au,av,aw,ay⟩:=(aC o f).out;refine⟨39,#[.int .i64 (L.length:Int)],by go_simp,((cf o f).out).mono ?_⟩;rintro e w' ⟨rfl,aR⟩;exact⟨_,rfl,aR,rfl⟩
            case o6 =>
             refine Ai rfl fun ρ o f F dc h => ?_;have e1:_=_:=h.2.1;obtain⟨v2,e2,rfl⟩:=h.2.2.1;obtain⟨aq,ar,au,av,aw,ay⟩:=(aC o f).out;refine⟨38,#[.string SQ,.string SL],by go_simp,((ce o f).out).mono ?_⟩;rintro e w' ⟨rfl,aR⟩;exact⟨_,rfl,aR,rfl⟩
            case o7 =>
             refine BB rfl fun ρ o f F h => ?_;obtain⟨v0,e0,rfl⟩:=h.1;obtain⟨aq,ar,au,av,aw,ay⟩:=(aC o f).out;go_simp
            case o8 =>
             refine BB rfl fun ρ o f F h => ?_;have e0:_=_:=h.1;obtain⟨aq,ar,au,av,aw,ay⟩:=(aC o f).out;go_simp
            case o9 =>
             refine BB rfl fun ρ o f F h => ?_;have e0:_=_:=h.1;obtain⟨aq,ar,au,av,aw,ay⟩:=(aC o f).out;go_simp
            case fin =>
             intro o f;rintro _ rfl;rintro _ rfl;change wpList _ _ _ _ _ _;simp only[CB];have eE:=((aL.trans a8).trans f).cell dt
             go_wp2_with fail
             have d3:=ab.ext f;refine(Dg d3 bp aY (by omega) bR).mono ?_;rintro e w9 ⟨ps,⟨a9,n9,c9,bw,rfl,bP,cn,bd,bY⟩,cr,bE⟩;have cq:ps.length=L.length:=cr.length_eq;rw[<-cq]at bE;have di:=U2 cZ cr bE;clear bE cr cI cJ cf ce d3 d2 bs eE z0 z1 z2 z3 z4 z5;have bN:=(aL.trans a8).trans f;have cB:=bN.trans bP;have cE:=((bB.ext a8).ext f).ext bP;obtain⟨B9,aQ⟩:∃ b,o.heap.size=b:=⟨_,rfl⟩;rw[aQ]at bd bY;have ek:wA.heap.size<=B9:=by rw[<-aQ];exact bN.size
             obtain⟨OT,bX⟩:∃ OT,ps.map (fun e=>((txt (QK*(((L.length:Nat):Int):Rat)⁻¹),e):Tx))=OT:=⟨_,rfl⟩
             have cQ:Hid (orbT gs A (Ab m,QK)=OT):=qh (by
              have h1:=CR (l:=m);rw[bo]at h1;unfold orbT;show(if QK=0 then []else(srtL (B5 gs ((Ab m).take A) gs.length)).map fun e=>(txt (QK*((((B5 gs ((Ab m).take A) gs.length).length:Nat):Int):Rat)⁻¹),e))=_
              rw[fl dU.out,h1,bJ.out,dO.out,<-di,bX])
             have b9:Hid (OT.length=n9/\∀ i,i<n9->OT.getD i tm0=(txt (QK*(((L.length:Nat):Int):Rat)⁻¹),ps.getD i [])):=qh (by
              rw[<-bX]
              exact⟨by rw[fq,cn],fun i hi=>by simp[show i<ps.length by omega]⟩)
             have dN:Hid ((avT gs A (K.take j)).length+n9<=4096):=qh (by
              have h1:=NK gs A (j+1) K;rw[b7.out,cQ.out,fo,b9.out.1]at h1;have:=aO.out.1
              omega)
             have dE:0<n9:=by omega
             have eL:n9<=1000:=by omega
             obtain⟨g9,rfl,eF,eG⟩:=bd.place dE;have dS:=qh cn;clear di cq bX cn ab aY cZ ec bR bP f a8 cU af d0 bB aL aQ bN b6 a3 ck aX;go_wp2
             go_loopw[13,110] (fun tv iv o=>∃ (i:Nat) (a4:Option Addr) (n4 c4:Nat),tv = .slice a4 n4 c4/\iv = .int .i64 i/\i<=n9/\Ext wA o/\TmO o wA.heap.size a4 n4 c4 (avT gs A (K.take j) ++ OT.take i)/\Own o B9 35 (some ⟨g9,0,none⟩) n9 c9 bw/\QEl o B9 bw ps) (fun _ iv _=>n9-(intOf iv).toNat)
             case atStart=>exact⟨0,aP,nt,ct,rfl,rfl,fu _,cB,by rw[jc,iO];exact cE,bd,bY⟩
             case round =>
              clear cE bd bY cB;obtain⟨i,a4,n4,c4,rfl,rfl,hi,a6,ei,aS,bf⟩:=hrel;obtain⟨cz,bb,T,aZ⟩:=ei;have eJ:(avT gs A (K.take j)).length+i=n4:=by
               rw[fo,go]at T;have:=b9.out.1;omega
              have eS:n4<=4096:=by have:=dN.out;omega
              by_cases cj:i<n9
              · obtain⟨a1,n1,c1,db,bW⟩:=bf i (by rw[<-dS.out];exact cj);have gc:=Own.cellAt aS (j:=i) cj;rw[db]at gc;have a5:=(Ext.refl wr).alloc (.cells #[.string SD,.slice a1 n1 c1] 46);have aj:=bb.ext a5;have cX:=Ey (k:=2) (Arr.new wr 46 (tmL SD a1 n1 c1)) rfl
                go_upto_region 33 with(refine Nd rfl rfl (by kernel_rfl) Im rfl aj rfl cX (by intro r hr u hu;rw[fi.1 hr]at hu;exact FG _ _ _ _ u hu) (by unfold maxLen;omega) (by omega) (by have:=a6.size;simp;omega) ?_;intro aD aE az aM C bD)
                have cK:∀ g,blk a4=some g->wA.heap.size<=g:=fun g h=>(aj.lt h).1;have dw:=qh ((a6.trans a5).grown C cK);have dT:=qh ((aS.ext a5).kept C (DA (aS.ext a5) aj (by decide)))
                have dV:Hid (QEl az B9 bw ps):=qh fun i' de=>by
                 obtain⟨a2,n2,c2,e1,e2⟩:=(bf.ext a5) i' de;exact⟨a2,n2,c2,e1,Own.kept e2 C (DA e2 aj (by decide))⟩
                have dA:Hid (TmO az wA.heap.size aD (n4+1) aE (avT gs A (K.take j) ++ OT.take (i+1))):=qh (by
                 have ev:=aj.len (by omega);have ee:=b9.out;have ew:OT.take (i+1)=OT.take i ++ [OT.getD i tm0]:=by
                  rw[ff (by omega)];simp[show i<OT.length by omega]
                 rw[ew,<-ge];refine⟨cz ++ [tmL SD a1 n1 c1],aM,by rw[fo,T];rfl,fun i' de => ?_⟩;by_cases hx:i'=n4
                 · subst hx;rw[gqq,gd (by omega),ev,jo,gqq,gd (by omega),T,jo];show Jm _ _ (tmL SD a1 n1 c1) (OT.getD i tm0);rw[ee.2 i cj];refine⟨SD,a1,n1,c1,rfl,by rw[<-dZ.out,AO],?_⟩;exact Own.mono (Own.kept (Own.ext bW a5) C (DA (Own.ext bW a5) aj (by decide))) ek
                 · rw[gqq,fj (by omega),<-gqq,gqq (l:=_ ++ [_]),fj (by omega),<-gqq];obtain⟨s9,a9,eB,ea,e1,e2,e3⟩:=(aZ i' (by omega)).ext a5
                   exact⟨s9,a9,eB,ea,e1,e2,e3.kept C (DA e3 aj (by decide))⟩)
                clear aj cX bb aZ aM C bD aS bf bW gc db a5 a6 cK T;go_wp2;go_roundw
                case rel=>exact⟨i+1,aD,n4+1,aE,rfl,by go_num,by omega,dw.out,dA.out,dT.out,dV.out⟩
                case measure=>simp[intOf];omega
              · have eH:n9=i:=by omega
                have bK:Hid (TmO wr wA.heap.size a4 n4 c4 (avT gs A (K.take (j+1)))):=qh (by
                 rw[b7.out,cQ.out];have h1:OT.take i=OT:=f9 (by have:=b9.out.1;omega);rw[h1]at T aZ
                 exact⟨cz,bb,T,aZ⟩)
                have eK:¬ ((4096:Int)<(n4:Int)):=by omega
                clear bb aZ T aS bf;go_wp2;go_roundw
                case rel=>exact⟨j+1,a4,n4,c4,rfl,by go_num,by omega,a6,bK.out⟩
                case measure=>simp[intOf];omega
     · have eI:no=j:=by omega
       have d8:avT gs A (K.take j)=avT gs A K:=by rw[f9 (by have:=bI.out;omega)]
       rw[d8]at aJ;have T:(avT gs A K).length=nt:=by obtain⟨_,_,h,_⟩:=aJ;exact h
       have cx:=qh (Rk (vars:=(A:Int)) (hT.ext an) aJ.sl aO.out.2.2.1 (by have:=aO.out.1;omega) (fun _ _ _=>aO.out.2.2.2));have q0:=am.cell dt;have q1:=am.cell eD;have dQ:=qh aO.out.2.1;have dy:Hid (resQ (A:Int) ((avT gs A K).map Cr)=RQ):=qh (by rw[<-bG.out];exact dY.out);clear aJ T d8
       go_wp2_with fail
       refine cx.out.mono ?_;rintro e w5 eu;have h3:Lv wr RQ e w5:=by
        rcases eu with⟨h1,_⟩|⟨_,_,h1,_⟩|⟨_,_,_,h1⟩
        · exact absurd ⟨by omega,by omega⟩ h1
        · exact absurd dQ.out h1
        · rw[dy.out]at h1;exact h1
       obtain⟨a7,n7,c7,rfl,ai,ed⟩:=h3;have d5:=eg.ext (am.trans ai);have br:Qe RQ.1 a7 n7 c7 = .agg #[.int .i64 RQ.1,.slice a7 n7 c7]:=rfl;rw[br];have cq:(AF RQ.1 a7 n7 c7).toArray=#[.int .i64 RQ.1,.slice a7 n7 c7]:=rfl;clear cx
       go_wp2_with(refine Aa (vs:=AF RQ.1 a7 n7 c7) rfl rfl rfl rfl rfl Ax d5 rfl (AW _ _ _ _) ?_;intro w9 aQ bl)
       refine fh (Az rfl Ax rfl rfl aQ) rfl ?_;exact NA an ai ed d5 bl (by omega)
theorem Fq{m:Nat}(q:SlI w a n c xs)(l:m<=6) :
 Calls prog 14 #[.slice a n c,.int .i64 m] w (fun e g=>∃ b d p,e = .returned (.slice b m d)/\Ext w g/\SlI g b m d p/\Af p=true/\p.length=m):=by
 refine(Jj q (by omega)).mono ?_;rintro e s ⟨i,r,j,rfl,k,f⟩;have o:r=m:=by have:=f.sl.len;rw[Eb]at this;exact this.symm
 subst o;exact⟨i,j,_,rfl,k,f.sl,Px xs l,Eb xs _⟩
theorem Hg(N:SlL w ag ng cg gs)(J:n<=6)(hp:BL gs n)(h16:ng<=16)
 (h12:∀ L:List (List Int),L.Nodup->(∀ p,p∈L<->Bq gs n p)->L.length<=12) :
 Calls prog 13 #[.int .i64 n,.slice ag ng cg] w (fun e w'=>∃ o,LW w o 0 e w'/\o.Nodup/\(∀ p,p∈o<->Bq gs n p)/\Dt o 0 o.length):=by
 have K:=f8 N.len;have y:=f8 hp;have z:=f8 h12;clear hp h12
 go_enter func13,ntmps13
 go_wp2
 go_loopw[21] (fun i wr=>∃ k:Nat,k<=ng/\i = .int .i64 k/\Ext w wr) (fun i _=>ng-(intOf i).toNat)
 case atStart=>exact⟨0,fu _,rfl,Ext.refl _⟩
 case round =>
  obtain⟨k,W,rfl,D⟩:=hrel;have l:=N.ext D;by_cases c:k<ng
  · obtain⟨R,og,B,m,C,rfl,I,d⟩:=l.at c;have hv:Af (gs.getD k [])=true:=(y.out _ (by simp[K.out,c])).1;generalize gs.getD k []=gk at *
    go_wp2_with fail
    refine(AU d).mono ?_;rintro e w1 ⟨rfl,g⟩;go_wp2;go_roundw
    case rel=>exact⟨k+1,by omega,by go_num,D.trans g⟩
    case measure=>simp[intOf];omega
  · obtain⟨O,rfl⟩:∃ O:World,O=wr:=⟨_,rfl⟩;go_wp2
    go_loop[31] (fun i=>∃ k:Nat,k<=ng/\i = .int .i64 k) (fun i=>ng-(intOf i).toNat)
    case atStart=>exact⟨0,fu _,rfl⟩
    case round =>
     clear c;obtain⟨k,W,rfl⟩:=hrel;by_cases c:k<ng
     · obtain⟨R,og,B,m,C,rfl,I,d⟩:=l.at c;have X:(gs.getD k []).length=n:=(y.out _ (by simp[K.out,c])).2;have q:m=n:=by have:=d.len;omega
       have Y:((m:Int) != (n:Int))=false:=by simp[q]
       clear X q d;go_wp2;go_round
       case rel=>exact⟨k+1,by omega,by go_num⟩
       case measure=>simp[intOf];omega
     · go_wp2_with fail
       refine(Cd l J y.out).mono ?_;rintro e w1 ⟨r,L,rfl,g,hr,U,t,b⟩;have M:=z.out L t b;have F:0<L.length:=gW ((b _).2 (CT gs n))
       go_wp2_with fail
       refine(Dg U J (fun x Z=>(Bi J y.out ((b x).1 Z)).2) (by omega) F).mono ?_;rintro e w2 ⟨o,⟨Q,n2,T,f,rfl,E,s,G,H⟩,a,v⟩;have A:=f8 s;clear s;go_wp2
       go_ret2
       have j:=D.trans g;refine⟨o,⟨Q,n2,T,f,rfl,j.trans E,A.out,Own.mono G j.size,?_⟩,a.nodup_iff.2 t,fun p=>by rw[a.mem_iff,b],by rw[a.length_eq];exact v⟩;intro i V;obtain⟨P,n',S,h1,h2⟩:=H i V;exact⟨P,n',S,h1,Own.mono h2 j.size⟩
def awG:List (List Int):=[[1,2,0]]
def awE:List (List Int):=[[0,1,2],[1,2,0],[2,0,1]]
theorem Qs(p:List Int):p∈awE<->Bq awG 3 p:=by
 constructor
 · intro h;simp only[awE,fV,ib,kx]at h;rcases h with rfl|rfl|rfl
   · exact⟨[],by simp,by decide⟩
   · exact⟨[[1,2,0]],by simp[awG],by decide⟩
   · exact⟨[[1,2,0],[1,2,0]],by simp[awG],by decide⟩
 · rintro⟨a,h1,rfl⟩
   induction a with
   | nil=>decide
   | cons g a ih =>
    have b:g=[1,2,0]:=by simpa[awG]using h1 g (by simp)
    have:=ih (fun x c=>h1 x (by simp[c]));subst b;rw[jg];revert this;generalize List.foldr comp (idn 3) a=q;intro this;simp only[awE,fV,ib,kx]at this;rcases this with rfl|rfl|rfl <;> decide
theorem Gv(a:cs.size=n)(h6:n<=1000000)(h:cs.toList=xs.map (Value.int .i64)):SlI (w.alloc (.cells cs 3)) (some ⟨w.heap.size,0,none⟩) n n xs:=by
 have:=(Au w 0 3 cs n a (fu _) h6).sl;rw[h]at this;exact this
theorem JH(f:cs.size=n)(h6:n<=1000000)(e:xss.length=n)(h:∀ i,i<n->∃ a c b,cs.toList.getD i undef = .slice a c b/\SlI w a c b (xss.getD i [])) :
 SlL (w.alloc (.cells cs 35)) (some ⟨w.heap.size,0,none⟩) n n xss:=by
 refine⟨e,cs.toList,(Au w 0 35 cs n f (fu _) h6).sl,fun i d => ?_⟩;obtain⟨a,c,b,h1,h2⟩:=h i d;exact⟨a,c,b,h1,h2.ext ((Ext.refl w).alloc _)⟩
theorem N3:∀ L:List (List Int),L.Nodup->(∀ p,p∈L<->Bq awG 3 p)->L.length<=12:=by
 intro L b a;have:=nodup_le L awE b (fun x c=>(Qs x).2 ((a x).1 c));simp[awE]at this;omega
theorem N4:BL awG 3:=by
 intro g a;have:g=[1,2,0]:=by simpa[awG]using a
 subst this;exact⟨by decide,rfl⟩
theorem U9:Dt awE 0 awE.length:=by
 intro i j h1 h2 h3;have:j<3:=h3;have:(i=0/\j=1)\/(i=0/\j=2)\/(i=1/\j=2):=by omega
 rcases this with⟨rfl,rfl⟩|⟨rfl,rfl⟩|⟨rfl,rfl⟩ <;> decide
theorem Dn:Calls prog 7 #[] w fun e V=>e = .returned (.bool true)/\Ext w V:=by
 go_enter func7,ntmps7
 go_wp2_with fail
 have s1:SlI ((w.alloc (.cells #[.int .i64 1,.int .i64 0,.int .i64 2] 3)).alloc (.cells #[.int .i64 0,.int .i64 2,.int .i64 1] 3)) (some ⟨w.heap.size,0,none⟩) 3 3 [1,0,2]:=(Gv (w:=w) (cs:=#[.int .i64 1,.int .i64 0,.int .i64 2]) (xs:=[1,0,2]) (n:=3) rfl (by omega) rfl).ext ((Ext.refl _).alloc _);have O:SlI ((w.alloc (.cells #[.int .i64 1,.int .i64 0,.int .i64 2] 3)).alloc (.cells #[.int .i64 0,.int .i64 2,.int .i64 1] 3)) (some ⟨w.heap.size+1,0,none⟩) 3 3 [0,2,1]:=by
  have:=Gv (w:=w.alloc (.cells #[.int .i64 1,.int .i64 0,.int .i64 2] 3)) (cs:=#[.int .i64 0,.int .i64 2,.int .i64 1]) (xs:=[0,2,1]) (n:=3) rfl (by omega) rfl;simpa using this
 have r:Ext w ((w.alloc (.cells #[.int .i64 1,.int .i64 0,.int .i64 2] 3)).alloc (.cells #[.int .i64 0,.int .i64 2,.int .i64 1] 3)):=((Ext.refl w).alloc _).alloc _;refine(K6 s1 O).mono ?_;rintro e b ⟨W,n1,Y,rfl,s,p⟩;have B:Bs [1,0,2] [0,2,1]=([1,2,0],0):=by decide
 rw[B]at p |-;have d:=r.trans s;have k:=p.sl;clear s1 O r s p B
 go_wp2_with fail
 have P:SlL ((b.alloc (.cells #[.int .i64 1,.int .i64 2,.int .i64 0] 3)).alloc (.cells #[.slice (some ⟨b.heap.size,0,none⟩) 3 3] 35)) (some ⟨b.heap.size+1,0,none⟩) 1 1 awG:=by
  have:=JH (w:=b.alloc (.cells #[.int .i64 1,.int .i64 2,.int .i64 0] 3)) (cs:=#[.slice (some ⟨b.heap.size,0,none⟩) 3 3]) (xss:=awG) (n:=1) rfl (by omega) rfl (by
   intro i T;have:i=0:=by omega
   subst this
   exact⟨_,_,_,rfl,Gv (w:=b) (cs:=#[.int .i64 1,.int .i64 2,.int .i64 0]) (xs:=[1,2,0]) (n:=3) rfl (by omega) rfl⟩)
  simpa using this
 have m:Ext b ((b.alloc (.cells #[.int .i64 1,.int .i64 2,.int .i64 0] 3)).alloc (.cells #[.slice (some ⟨b.heap.size,0,none⟩) 3 3] 35)):=((Ext.refl b).alloc _).alloc _;refine(Hg (n:=3) P (by omega) N4 (by omega) N3).mono ?_;rintro e H ⟨U,⟨X,n2,Z,I,rfl,o,D,y,z⟩,E,g,j⟩;have J:U=awE:=EO E (by decide) (fun x=>by rw[g,Qs]) j U9;subst J;have l:=MO D y z;have f:=d.trans (m.trans o);have F:=k.ext (m.trans o);clear D y z E g j m o d k P
 go_wp2_with fail
 have c:Ext H (H.alloc (.cells #[.int .i64 1,.int .i64 2,.int .i64 0] 3)):=(Ext.refl H).alloc _;refine(FF (F.ext c) (Gv (w:=H) (cs:=#[.int .i64 1,.int .i64 2,.int .i64 0]) (xs:=[1,2,0]) (n:=3) rfl (by omega) rfl)).mono ?_;rintro e a ⟨rfl,q⟩;have C:decide (([1,2,0]:List Int)=[1,2,0])=true:=by decide
 rw[C];have t:=f.trans (c.trans q.ext);have G:=l.ext (c.trans q.ext);clear f c q F l C
 go_wp2_with fail
 have N:=Gv (w:=a) (cs:=#[.int .i64 0,.int .i64 1,.int .i64 2]) (xs:=[0,1,2]) (n:=3) rfl (by omega) rfl;have K:=Gv (w:=a.alloc (.cells #[.int .i64 0,.int .i64 1,.int .i64 2] 3)) (cs:=#[.int .i64 1,.int .i64 2,.int .i64 0]) (xs:=[1,2,0]) (n:=3) rfl (by omega) rfl;have L:=Gv (w:=(a.alloc (.cells #[.int .i64 0,.int .i64 1,.int .i64 2] 3)).alloc (.cells #[.int .i64 1,.int .i64 2,.int .i64 0] 3)) (cs:=#[.int .i64 2,.int .i64 0,.int .i64 1]) (xs:=[2,0,1]) (n:=3) rfl (by omega) rfl
 have Q:(a.alloc (.cells #[.int .i64 0,.int .i64 1,.int .i64 2] 3)).heap.size=a.heap.size+1:=by simp
 have R:((a.alloc (.cells #[.int .i64 0,.int .i64 1,.int .i64 2] 3)).alloc (.cells #[.int .i64 1,.int .i64 2,.int .i64 0] 3)).heap.size=a.heap.size+1+1:=by simp
 have S:(((a.alloc (.cells #[.int .i64 0,.int .i64 1,.int .i64 2] 3)).alloc (.cells #[.int .i64 1,.int .i64 2,.int .i64 0] 3)).alloc (.cells #[.int .i64 2,.int .i64 0,.int .i64 1] 3)).heap.size=a.heap.size+1+1+1:=by simp
 rw[Q]at K;rw[R]at L
 have M:=JH (w:=((a.alloc (.cells #[.int .i64 0,.int .i64 1,.int .i64 2] 3)).alloc (.cells #[.int .i64 1,.int .i64 2,.int .i64 0] 3)).alloc (.cells #[.int .i64 2,.int .i64 0,.int .i64 1] 3))
  (cs:=#[.slice (some ⟨a.heap.size,0,none⟩) 3 3,.slice (some ⟨a.heap.size+1,0,none⟩) 3 3,.slice (some ⟨a.heap.size+1+1,0,none⟩) 3 3]) (xss:=awE) (n:=3) rfl (by omega) rfl (by
   intro i T;have:i=0\/i=1\/i=2:=by omega
   rcases this with rfl|rfl|rfl
   · exact⟨_,_,_,rfl,(N.ext ((Ext.refl _).alloc _)).ext ((Ext.refl _).alloc _)⟩
   · exact⟨_,_,_,rfl,K.ext ((Ext.refl _).alloc _)⟩
   · exact⟨_,_,_,rfl,L⟩)
 rw[S]at M;refine(O4 (G.ext ((((Ext.refl a).alloc _).alloc _).alloc _ |>.alloc _)) M).mono ?_;rintro e w4 ⟨rfl,A⟩;have C:decide (awE=awE)=true:=by decide
 rw[C];have v:=(t.trans ((((Ext.refl a).alloc _).alloc _).alloc _ |>.alloc _)).trans A.ext;clear N K L Q R S M A G C;go_wp2;go_ret;exact⟨rfl,v⟩
end Go.Proofs.YthdbingomfdeoaaGreatDoor
namespace Go.Proofs.YthdbingomfdeoaaGreatDoor
variable {a e f:List Int} {j k n:Nat}
abbrev PLs:=List Pl.Tm
def mvL(a:List Int)(l:PLs):PLs:=l.map fun t=>(mvd a t.1,t.2)
theorem Kg(hp:Af a=true)(he:e.length=a.length)(d:f.length=a.length)(h:mvd a e=mvd a f):e=f:=by
 apply iQ (by omega);intro i g j;have b:=Dx hp he (i:=i) (by omega);have c:=Dx hp d (i:=i) (by omega);rw[h,c]at b;simpa[g,j]using b.symm
theorem TC(hp:Af a=true)(he:e.length=a.length):∃ f:List Int,f.length=a.length/\mvd a f=e:=by
 refine⟨comp e a,Bl e a,?_⟩;refine Kv (d:=0) hp (by rw[AV,Bl]) he fun i b => ?_;rw[Dx hp (Bl e a) b,QA b]
theorem Qu(b:n<=6)(he:e.length=n):mvd (idn n) e=e:=by
 have hp:=CS b;refine Kv (d:=0) hp (by rw[AV,AY,he]) (by rw[AY,he]) fun i a => ?_;rw[AY]at a;rw[Dx hp (by rw[AY,he]) (by rw[AY];exact a),Fv a];rfl
theorem Kh{x:PLs}(hp:Af a=true)(b:∀ t∈x,t.1.length=a.length){e:List Int}(he:e.length=a.length):Pl.coef (mvL a x) (mvd a e)=Pl.coef x e:=by
 induction x with
 | nil=>rfl
 | cons t r ih =>
  have h1:=b t (by simp);have h2:=ih (fun s c=>b s (by simp[c]));show(if mvd a t.1=mvd a e then t.2 else 0)+Pl.coef (mvL a r) (mvd a e)=(if t.1=e then t.2 else 0)+Pl.coef r e;rw[h2];by_cases h:t.1=e
  · rw[fG h,fG (by rw[h])]
  · rw[fl h,fl (fun h3=>h (Kg hp h1 he h3))]
theorem Ki{x:PLs}(b:Pl.Canon n x){e:List Int}(he:e.length≠n):Pl.coef x e=0 :=
 Pl.coef_absent fun t a h=>he (by rw[<-h,b.len t a])
def Rl(a:List Int)(x y:PLs):Prop:=∀ e,Pl.coef (mvL a x) e=Pl.coef y e
section
variable {n:Nat} {a b:List Int} {x y z:PLs}
theorem Rl.at(h:Rl a x y)(hp:Af a=true)(b:a.length=n)(d:Pl.Canon n x){e:List Int}(he:e.length=n):Pl.coef y (mvd a e)=Pl.coef x e:=by
 rw[<-h,Kh hp (fun t c=>by rw[d.len t c,b]) (by rw[he,b])]
theorem Rl.mk(hp:Af a=true)(b:a.length=n)(g:Pl.Canon n x)(k:Pl.Canon n y)(h:∀ e,e.length=n->Pl.coef y (mvd a e)=Pl.coef x e):Rl a x y:=fun e=>by
 by_cases he:e.length=n
 · obtain⟨f,d,rfl⟩:=TC hp (e:=e) (by rw[he,b]);rw[Kh hp (fun t c=>by rw[g.len t c,b]) d,h f (by rw[d,b])]
 · rw[Ki k he];refine Pl.coef_absent fun t c i=>he ?_;obtain⟨s,j,rfl⟩:=fy.1 c;rw[<-i];show(mvd a s.1).length=n;rw[AV,g.len s j]
theorem Rl.det(h1:Rl a x y)(h2:Rl a x z)(b:Pl.Canon n y)(c:Pl.Canon n z):y=z :=
 Pl.canon_ext b c fun e=>by rw[<-h1,<-h2]
theorem Rl.inj(h1:Rl a x z)(h2:Rl a y z)(hp:Af a=true)(d:a.length=n)(b:Pl.Canon n x)(c:Pl.Canon n y):x=y :=
 Pl.canon_ext b c fun e=>by
  by_cases he:e.length=n
  · rw[<-h1.at hp d b he,<-h2.at hp d c he]
  · rw[Ki b he,Ki c he]
theorem Rl.comp(h1:Rl b x y)(h2:Rl a y z)(pa:Af a=true)(c:Af b=true)(j:a.length=n)(f:b.length=n)(d:Pl.Canon n x)(g:Pl.Canon n y)(i:Pl.Canon n z):Rl (comp a b) x z :=
 Rl.mk (C3 pa c (by omega)) (by rw[Bl,f]) d i fun e he=>by
  rw[<-MK pa c (by omega) (by omega),h2.at pa j g (by rw[AV,he]),h1.at c f d he]
theorem Rl.one(a:n<=6)(b:Pl.Canon n x):Rl (idn n) x x :=
 Rl.mk (CS a) (AY n) b b fun e he=>by rw[Qu a he]
theorem Fr(a:Pl.Canon n x):(x.map (·.1)).Nodup:=by
 rw[List.nodup_iff_pairwise_ne,iV];refine a.desc.imp fun {s t} h e => ?_;rw[e,Pl.ordE_self]at h;omega
theorem Cu(a:Pl.Canon n x){t:Pl.Tm}(b:t∈x):Pl.coef x t.1=t.2:=by
 induction x with
 | nil=>cases b
 | cons s r ih =>
  rcases fV.1 b with rfl|h
  · exact a.head
  · have h1:=ih a.tail h;have h2:=Fr a;rw[gD,gG]at h2;show(if s.1=t.1 then s.2 else 0)+Pl.coef r t.1=t.2;rw[fl (fun e=>h2.1 (by rw[e];exact gJ h)),h1]
    grind
theorem Ph(hp:Af a=true)(d:a.length=n)(c:Pl.Canon n x):((mvL a x).map (·.1)).Nodup:=by
 have h:=Fr c;rw[List.nodup_iff_pairwise_ne,iV]at h |-;unfold mvL;rw[iV];refine List.Pairwise.imp_of_mem ?_ h;intro s t f g b e;exact b (Kg hp (by rw[c.len s f,d]) (by rw[c.len t g,d]) e)
def Mvs(a:List Int)(x y:PLs):Prop:=x.length=y.length/\∀ t∈x,Pl.coef y (mvd a t.1)=t.2
theorem MC(hp:Af a=true)(g:a.length=n)(c:Pl.Canon n x)(m:Pl.Canon n y):Mvs a x y<->Rl a x y:=by
 have i:((mvL a x).map (·.1)).length=x.length:=by simp[mvL]
 constructor
 · rintro⟨w,h⟩;have j:∀ k∈(mvL a x).map (·.1),k∈y.map (·.1):=by
    intro k d;obtain⟨t,b,rfl⟩:=fy.1 d;obtain⟨s,f,rfl⟩:=fy.1 b;have h1:Pl.coef y (mvd a s.1)≠0:=by rw[h s f];exact c.nz s f
    obtain⟨u,hu,e⟩:=Pl.coef_present h1;exact fy.2 ⟨u,hu,e⟩
   refine Rl.mk hp g c m fun e he => ?_;by_cases o:∃ t∈x,t.1=e
   · obtain⟨t,b,rfl⟩:=o;rw[h t b,Cu c b]
   · rw[Pl.coef_absent (l:=x) (fun t b v=>o ⟨t,b,v⟩)];refine fR fun h1 => ?_;obtain⟨u,hu,q⟩:=Pl.coef_present h1;have p:mvd a e ∉ (mvL a x).map (·.1):=by
      intro d;obtain⟨t,b,r⟩:=fy.1 d;obtain⟨s,f,rfl⟩:=fy.1 b;exact o ⟨s,f,Kg hp (by rw[c.len s f,g]) (by rw[he,g]) r⟩
     have h2:=nodup_le (mvd a e :: (mvL a x).map (·.1)) (y.map (·.1)) (gG.2 ⟨p,Ph hp g c⟩) (by
      intro k d;rcases fV.1 d with rfl|d
      · exact fy.2 ⟨u,hu,q⟩
      · exact j k d)
     rw[fP,i,fq]at h2;omega
 · intro h;refine⟨?_,fun t b=>by rw[h.at hp g c (c.len t b),Cu c b]⟩
   have h1:=nodup_le ((mvL a x).map (·.1)) (y.map (·.1)) (Ph hp g c) (by
    intro k d;obtain⟨t,b,rfl⟩:=fy.1 d;obtain⟨s,f,rfl⟩:=fy.1 b;have h1:Pl.coef y (mvd a s.1)≠0:=by rw[h.at hp g c (c.len s f),Cu c f];exact c.nz s f
    obtain⟨u,hu,e⟩:=Pl.coef_present h1
    exact fy.2 ⟨u,hu,e⟩)
   have h2:=nodup_le (y.map (·.1)) ((mvL a x).map (·.1)) (Fr m) (by
    intro k d;obtain⟨t,b,rfl⟩:=fy.1 d;have h1:Pl.coef (mvL a x) t.1≠0:=by rw[h,Cu m b];exact m.nz t b
    obtain⟨u,hu,e⟩:=Pl.coef_present h1
    exact fy.2 ⟨u,hu,e⟩)
   rw[i,fq]at h1;rw[i,fq]at h2;omega
theorem Rl.perm(h:Rl a x y)(hp:Af a=true)(m:a.length=n)(d:Pl.Canon n x)(f:Pl.Canon n y):(mvL a x).Perm y:=by
 have o:∀ {l:PLs},(l.map (·.1)).Nodup->l.Nodup:=fun {l} i=>by
  rw[List.nodup_iff_pairwise_ne]at i |-;rw[iV]at i;exact i.imp fun j e=>j (by rw[e])
 refine(List.perm_ext_iff_of_nodup (o (Ph hp m d)) (o (Fr f))).2 fun t => ?_;have g:∀ s∈x,Pl.coef y (mvd a s.1)=s.2:=fun s b=>by rw[h.at hp m d (d.len s b),Cu d b]
 constructor
 · intro c;obtain⟨s,b,rfl⟩:=fy.1 c;obtain⟨u,hu,e⟩:=Pl.coef_present (l:=y) (e:=mvd a s.1) (by rw[g s b];exact d.nz s b);have h2:=Cu f hu;rw[e,g s b]at h2;have:u=(mvd a s.1,s.2):=Prod.ext e h2.symm;rw[<-this];exact hu
 · intro c;obtain⟨u,hu,e⟩:=Pl.coef_present (l:=mvL a x) (e:=t.1) (by rw[h,Cu f c];exact f.nz t c);obtain⟨s,b,rfl⟩:=fy.1 hu;have h2:=g s b;have k:mvd a s.1=t.1:=e;rw[k,Cu f c]at h2;have:t=(mvd a s.1,s.2):=Prod.ext k.symm h2;rw[this];exact hu
end
def Kep(a:List Int)(L:List PLs):Prop:=∀ p∈L,∃ q∈L,Rl a p q/\L.count p=L.count q
def N5(n:Nat)(L:List PLs):Prop:=∀ x∈L,Pl.Canon n x
section
variable {n:Nat} {a b:List Int} {L:List PLs}
theorem Kep.one(b:n<=6)(a:N5 n L):Kep (idn n) L:=fun p hp=>⟨p,hp,Rl.one b (a p hp),rfl⟩
theorem Kep.comp(h1:Kep b L)(h2:Kep a L)(pa:Af a=true)(k:Af b=true)(i:a.length=n)(j:b.length=n)(c:N5 n L):Kep (comp a b) L:=fun p hp=>by
 obtain⟨q,d,l,f⟩:=h1 p hp;obtain⟨r,e,m,g⟩:=h2 q d;exact⟨r,e,l.comp m pa k i j (c p hp) (c q d) (c r e),f.trans g⟩
theorem Ry{L:List PLs}(a:j<L.length):L.getD j []∈L:=by
 rw[gqq,eZ a];exact fE _
structure CU(L:List PLs)(M:List (PLs×Nat)):Prop where
 nodup:(M.map (·.1)).Nodup
 mem:∀ x,x∈M.map (·.1)<->x∈L
 cnt:∀ p∈M,p.2=L.count p.1
theorem CU.nil:CU [] []:=⟨by simp,by simp,by simp⟩
theorem CU.old{M:List (PLs×Nat)}{x:PLs}(h:CU L M)(j:k<M.length)(c:(M.getD k ([],0)).1=x):CU (L ++ [x]) (M.set k (x,(M.getD k ([],0)).2+1)):=by
 have l:M.getD k ([],0)=M[k]:=by simp[j]
 rw[l]at c |-;have a:(M.set k (x,M[k].2+1)).map (·.1)=M.map (·.1):=by
  rw[km];apply iQ (by simp);intro i m n;rw[List.getElem_set];split
  · subst_vars;simp
  · rfl
 have f:x∈M.map (·.1):=fy.2 ⟨M[k],fE _,c⟩;refine⟨by rw[a];exact h.nodup,fun y => ?_,fun p hp => ?_⟩
 · rw[a,h.mem,fL,fi];constructor
   · exact Or.inl
   · rintro(h1|rfl)
     · exact h1
     · exact(h.mem _).1 f
 · obtain⟨i,g,rfl⟩:=gK hp;simp only[iC]at g;rw[List.getElem_set];by_cases b:k=i
   · subst b;rw[fG rfl];have:=h.cnt M[k] (fE _);rw[c]at this;simp[List.count_append,this]
   · rw[fl b];have h1:=h.cnt M[i] (fE _)
     have d:M[i].1≠x:=fun e=>by
      have h2:(M.map (·.1))[k]'(by simpa using j)=(M.map (·.1))[i]'(by simpa using g):=by simp[c,e]
      exact b ((List.getElem_inj h.nodup).1 h2)
     rw[List.count_append,List.count_singleton,h1,fl (by simpa using d.symm)];rfl
theorem CU.new{M:List (PLs×Nat)}{x:PLs}(h:CU L M)(b:x ∉ M.map (·.1)):CU (L ++ [x]) (M ++ [(x,1)]):=by
 refine⟨?_,fun y => ?_,fun p hp => ?_⟩
 · rw[fY,iq];refine⟨h.nodup,by simp,?_⟩;intro u hu v c e;have:v=x:=by simpa using c
   rw[e,this]at hu;exact b hu
 · rw[fY,fL,h.mem,fL];simp
 · rcases fL.1 hp with hp|hp
   · have a:p.1≠x:=fun e=>b (by rw[<-e];exact gJ hp);rw[List.count_append,List.count_singleton,h.cnt p hp,fl (by simpa using a.symm)];rfl
   · have:p=(x,1):=by simpa using hp
     subst this;have:L.count x=0:=List.count_eq_zero.2 fun e=>b ((h.mem x).2 e);simp[List.count_append,this]
theorem CU.kept{M:List (PLs×Nat)}(h:CU L M):Kep a L<->∀ p∈M,∃ q∈M,Rl a p.1 q.1/\p.2=q.2:=by
 constructor
 · intro e p hp;obtain⟨q,d,g,f⟩:=e p.1 ((h.mem _).1 (gJ hp));obtain⟨j,c,rfl⟩:=fy.1 ((h.mem q).2 d);exact⟨j,c,g,by rw[h.cnt p hp,h.cnt j c,f]⟩
 · intro e p hp;obtain⟨i,b,rfl⟩:=fy.1 ((h.mem p).2 hp);obtain⟨q,d,g,f⟩:=e i b;exact⟨q.1,(h.mem _).1 (gJ d),g,by rw[<-h.cnt i b,<-h.cnt q d,f]⟩
end
def Aut(n:Nat)(Ls:List (List PLs))(a:List Int):Prop:=Af a=true/\a.length=n/\∀ L∈Ls,Kep a L
section
variable {n:Nat} {Ls:List (List PLs)} {gs V:List (List Int)} {a p:List Int}
theorem Aut.comp{b:List Int}(d:∀ L∈Ls,N5 n L)(h1:Aut n Ls a)(h2:Aut n Ls b):Aut n Ls (comp a b) :=
 ⟨C3 h1.1 h2.1 (by rw[h1.2.1,h2.2.1]),by rw[Bl,h2.2.1],fun L c=>(h2.2.2 L c).comp (h1.2.2 L c) h1.1 h2.1 h1.2.1 h2.2.1 (d L c)⟩
theorem Aut.reach(b:n<=6)(a:∀ L∈Ls,N5 n L)(d:∀ g∈gs,Aut n Ls g)(h:Bq gs n p):Aut n Ls p:=by
 obtain⟨c,h1,rfl⟩:=h
 induction c with
 | nil=>exact⟨CS b,AY n,fun L e=>Kep.one b (a L e)⟩
 | cons g c ih=>exact Aut.comp a (d g (h1 g (by simp))) (ih fun x f=>h1 x (by simp[f]))
theorem Pi(h:Bq gs n p):Bq (gs ++ [a]) n p:=by
 obtain⟨c,h1,rfl⟩:=h;exact⟨c,fun g b=>List.mem_append_left _ (h1 g b),rfl⟩
structure VI(n:Nat)(Ls:List (List PLs))(V gs:List (List Int)):Prop where
 gens:∀ g∈gs,Aut n Ls g
 seen:∀ a∈V,Aut n Ls a->Bq gs n a
theorem VI.start(n:Nat)(a:List (List PLs)):VI n a [] []:=⟨by simp,by simp⟩
theorem VI.known(h:VI n Ls V gs)(e:Bq gs n a):VI n Ls (V ++ [a]) gs :=
 ⟨h.gens,fun b c d=>by
  rcases fL.1 c with c|c
  · exact h.seen b c d
  · rw[fi.1 c];exact e⟩
theorem VI.out(h:VI n Ls V gs)(e:¬ Aut n Ls a):VI n Ls (V ++ [a]) gs :=
 ⟨h.gens,fun b c d=>by
  rcases fL.1 c with c|c
  · exact h.seen b c d
  · rw[fi.1 c]at d;exact absurd d e⟩
theorem VI.gen(h:VI n Ls V gs)(e:Aut n Ls a):VI n Ls (V ++ [a]) (gs ++ [a]) :=
 ⟨fun g d=>by
  rcases fL.1 d with d|d
  · exact h.gens g d
  · rw[fi.1 d];exact e,fun b c f=>by
  rcases fL.1 c with c|c
  · exact Pi (h.seen b c f)
  · rw[fi.1 c];refine⟨[a],by simp,?_⟩;show a=Go.Proofs.YthdbingomfdeoaaGreatDoor.comp a (idn n)
    rw[<-e.2.1,Cx]⟩
theorem VI.perms(h:VI n Ls V gs):BL gs n:=fun g a=>⟨(h.gens g a).1,(h.gens g a).2.1⟩
theorem VI.done(h:VI n Ls V gs)(d:n<=6)(b:∀ L∈Ls,N5 n L)(c:∀ p,Af p=true->p.length=n->p∈V):∀ p,Bq gs n p<->Aut n Ls p :=
 fun p=>⟨Aut.reach d b h.gens,fun a=>h.seen p (c p a.1 a.2.1) a⟩
end
def prm(n:Nat):Nat->List Int->List (List Int)
 | 0,pre=>[pre]
 | k+1,pre=>(idn n).flatMap fun x=>if x∈pre then []else prm n k (pre ++ [x])
theorem Va:∀ n,n<5->prm n n []=gen n (idn n):=by decide +kernel
theorem Pj:∀ n,n<5->(∀ p∈gen n (idn n),Af p=true/\p.length=n)/\(gen n (idn n)).Pairwise (fun a b=>A8 a b<0):=by decide +kernel
theorem N6(a:n<5){p:List Int}:p∈gen n (idn n)<->Af p=true/\p.length=n:=by
 refine⟨(Pj n a).1 p,fun⟨h1,h2⟩=>FN n (idn n) p h2 (Ap h1).2.2 fun x b=>FO.2 ?_⟩;have:=(Ap h1).2.1 x b;rw[h2]at this;exact this
open Classical in
noncomputable def autL (n:Nat) (Ls:List (List PLs)):List (List Int):=(gen n (idn n)).filter fun a=>decide (Aut n Ls a)
theorem Fs(b:n<5){a:List (List PLs)}{p:List Int}:p∈autL n a<->Aut n a p:=by
 classical
 unfold autL;rw[ig,N6 b];simp only[gV];exact⟨fun h=>h.2,fun h=>⟨⟨h.1,h.2.1⟩,h⟩⟩
theorem Vb(k:n<5){c:List (List PLs)}{ps:List (List Int)}(l:ps.Nodup)(q:Dt ps 0 ps.length)(o:∀ p,p∈ps<->Aut n c p):ps=autL n c:=by
 classical
 have f:(autL n c).Pairwise (fun a b=>A8 a b<0):=(Pj n k).2.filter _;refine EO l ?_ (fun x=>by rw[o,Fs k]) q ?_
 · refine f.imp fun {a b} h e => ?_;rw[e]at h;have:=BE b b;omega
 · intro i j _ d g;rw[gt]at f;have:=f i j (by omega) g d;have m:i<(autL n c).length:=by omega
   simp only[gqq,eZ m,eZ g,fW];omega
end Go.Proofs.YthdbingomfdeoaaGreatDoor
namespace Go.Proofs.YthdbingomfdeoaaGreatDoor
open Tryz Go Go.RowKit
variable {f:Act} {p:Addr} {ops:Array Oper} {cur:Array Value} {s:ByteArray} {Q:Exit->Act->World->Prop} {m:List (List Int×Value)} {rows:List (List Value)} {a b l xs:List Int} {rest:List Oper} {cs:List Value} {B base c cx g k n nx r:Nat} {o:Oper} {u y:Operand} {x:Option Addr} {row:Option Nat} {q:Rat} {T e et kt mt t ty vt:TypeId} {v z:Value} {w w':World}
def TD(x:Int):Int :=
 bits .xor .u64 (IntKind.u64.wrap (bits .xor .u64 (IntKind.u64.wrap (bits .xor .u64 x (x/1073741824)*13787848793156543929)) (IntKind.u64.wrap (bits .xor .u64 x (x/1073741824)*13787848793156543929)/134217728)*10723151780598845931)) (IntKind.u64.wrap (bits .xor .u64 (IntKind.u64.wrap (bits .xor .u64 x (x/1073741824)*13787848793156543929)) (IntKind.u64.wrap (bits .xor .u64 x (x/1073741824)*13787848793156543929)/134217728)*10723151780598845931)/2147483648)
def I0(x:Int)(b:UInt8):Int:=IntKind.u64.wrap (IntKind.u64.wrap (x*1099511628211)+IntKind.u64.wrap b.toNat)
def CI(l:List UInt8):Int:=TD (l.foldl I0 l.length)
theorem Pk(s:ByteArray)(k:Nat)(h:k<s.size):(Ah s).take (k+1)=(Ah s).take k ++ [s[k]]:=by
 unfold Ah;rw[ff (by simpa using h)];simp;rfl
theorem Rz(h:k<s.size)(x:Int):((Ah s).take (k+1)).foldl I0 x=I0 (((Ah s).take k).foldl I0 x) s[k]:=by
 rw[Pk s k h,kS];rfl
theorem LF{x:Int}:Calls prog 73 #[.int .u64 x] w fun e a=>e = .returned (.int .u64 (TD x))/\Ext w a:=by
 go_enter func73,ntmps73
 go_wp2;go_ret;exact⟨rfl,Ext.refl _⟩
theorem Pm(t:s.size<=1000000):Calls prog 71 #[.string s] w fun e o=>e = .returned (.int .u64 (CI (Ah s)))/\Ext w o:=by
 have a:(Ah s).length=s.size:=AD s;have b:Hid (CI (Ah s)=TD ((Ah s).foldl I0 s.size)):=f8 (by unfold CI;rw[a]);rw[b.out];have l:=f8 a;clear a
 go_enter func71,ntmps71
 go_wp2
 go_loopw[3,10] (fun p g wr=>∃ (k:Nat) (x:Int),k<=s.size/\g = .int .i64 k/\p = .int .u64 x/\Ext w wr/\Hid (x=((Ah s).take k).foldl I0 s.size)) (fun _ g _=>s.size-(intOf g).toNat)
 case atStart=>exact⟨0,_,fu _,rfl,rfl,Ext.refl _,f8 rfl⟩
 case round =>
  obtain⟨k,x,r,rfl,rfl,i,c⟩:=hrel;by_cases f:k<s.size
  · have m:Hid (((Ah s).take (k+1)).foldl I0 s.size=IntKind.u64.wrap (IntKind.u64.wrap (x*1099511628211)+IntKind.u64.wrap s[k].toNat)):=f8 (by rw[Rz f,c.out];rfl);generalize n:s[k].toNat=q at *
    clear c;go_wp2;go_roundw
    case rel=>exact⟨k+1,_,by omega,by go_num,rfl,i,f8 m.out.symm⟩
    case measure=>simp[intOf];omega
  · have j:Hid (x=(Ah s).foldl I0 s.size):=f8 (by rw[c.out,f9 (by rw[l.out];omega)])
    go_wp2_with fail
    refine LF.mono ?_;rintro e v ⟨rfl,d⟩;go_wp2;go_ret;exact⟨by rw[<-j.out];rfl,i.trans d⟩
def Cv:Nat->List (Int×Value)->List MapEntry
 | _,[]=>[]
 | i,(k,v) :: r=>{ key:=(.int .u64 k),val:=v,born:=i } :: Cv (i+1) r
structure Bf(w:World)(r:Nat)(m:List (Int×Value)):Prop where
 obj:w.heap[r]?=some (.map (Cv 0 m).toArray m.length)
 nodup:(m.map (·.1)).Nodup
def BW(k:Int):Nat->List (Int×Value)->Option (Nat×Value)
 | _,[]=>none
 | i,(k',v) :: r=>if k=k' then some (i,v)else BW k (i+1) r
theorem Do{k:Int}:∀ {i:Nat} {m:List (Int×Value)},BW k i m=none<->k ∉ m.map (·.1)
 | _,[]=>by simp[BW]
 | i,(k',v) :: r=>by
  unfold BW;by_cases h:k=k'
  · simp[h]
  · simp[h,Do (i:=i+1) (m:=r)]
theorem EE:∀ (i:Nat) (m:List (Int×Value)),(Cv i m).length=m.length
 | _,[]=>rfl
 | i,(_,_) :: r=>by simp[Cv,EE (i+1) r]
theorem Hh:∀ (i:Nat) (m:List (Int×Value)) (k:Int) (v:Value),Cv i (m ++ [(k,v)])=Cv i m ++ [{ key:=(.int .u64 k),val:=v,born:=i+m.length }]
 | _,[],_,_=>rfl
 | i,(_,_) :: r,k,v=>by
  simp only[jh,Cv,Hh (i+1) r k v,fP];rw[iU,jp 1]
section
variable {P:Program} {kt:TypeId} (w:World)
theorem I1(k:Int):∀ (m:List (Int×Value)) (b i:Nat),Instr.findNow (.int .u64) (.int .u64 k) (Cv b m) i=some (BW k i m)
 | [],_,_=>rfl
 | (k',v) :: r,b,i=>by
  unfold Cv BW Instr.findNow;by_cases h:k=k'
  · simp[Instr.sameNow,h]
  · have hb:(k == k')=false:=by simpa using h
    simp[Instr.sameNow,h,hb,I1 k r (b+1) (i+1)]
theorem Hi{k:Int}(a:P.underlying kt=some (.int .u64))(m:List (Int×Value)):(Instr.findKey kt (.int .u64 k) (Cv 0 m)).run P w = .ok (BW k 0 m) w:=by
 simp only[Instr.findKey,fC,fT a,fe,I1];rfl
end
theorem MD(k:Int):Instr.sameBits 10000 (.int .u64 k) (.int .u64 k)=true:=by
 show Instr.sameBits (9999+1) _ _=true;simp[Instr.sameBits]
theorem Bf.lt{m:List (Int×Value)}(h:Bf w r m):r<w.heap.size:=by
 rcases fS r w.heap.size with b|a
 · exact b
 · have:=h.obj;rw[gQ a]at this;cases this
theorem Bf.of_block{m:List (Int×Value)}(h:Bf w r m)(e:w'.heap[r]?=w.heap[r]?):Bf w' r m:=⟨e.trans h.obj,h.nodup⟩
theorem Bf.ext{m:List (Int×Value)}(h:Bf w r m)(e:Ext w w'):Bf w' r m:=h.of_block (e.block h.lt)
theorem Bf.kept{m:List (Int×Value)}(h:Bf w r m)(b:w.grownBy w' row)(a:some r≠row):Bf w' r m:=h.of_block (b.block r h.lt a)
def Gw(z:Value)(m:List (Int×Value))(k:Int):Value:=((BW k 0 m).map (·.2)).getD z
def V8(m:List (Int×Value))(k:Int):Bool:=(BW k 0 m).isSome
def D1(m:List (Int×Value))(k:Int)(v:Value):List (Int×Value) :=
 match BW k 0 m with
 | some (i,_)=>m.set i (k,v)
 | none=>m ++ [(k,v)]
theorem CJ{k:Int}:∀ {j:Nat} {m:List (Int×Value)} {i:Nat} {v:Value},BW k j m=some (i,v)->j<=i/\m[i-j]?=some (k,v)
 | _,[],_,_,h=>by simp[BW]at h
 | j,(k',v') :: r,i,v,h=>by
  unfold BW at h;by_cases hk:k=k'
  · rw[fG hk]at h;simp only[fc,jk]at h;obtain⟨rfl,rfl⟩:=h;subst hk;simp
  · rw[fl hk]at h;obtain⟨h1,h2⟩:=CJ h;refine⟨by omega,?_⟩;rw[show i-j=(i-(j+1))+1 by omega];simpa using h2
theorem FM:∀ (j:Nat) (m:List (Int×Value)) (i:Nat),(Cv j m)[i]?=(m[i]?).map (fun p=>{ key:=(.int .u64 p.1),val:=p.2,born:=j+i })
 | _,[],_=>by simp[Cv]
 | j,(k,v) :: r,0=>by simp[Cv]
 | j,(k,v) :: r,i+1=>by
  simp only[Cv,jA,FM (j+1) r i];rw[iU,jp 1 i]
theorem RA:∀ (j:Nat) (m:List (Int×Value)) (i:Nat) (k:Int) (v:Value),i<m.length->Cv j (m.set i (k,v))=(Cv j m).set i { key:=(.int .u64 k),val:=v,born:=j+i }:=by
 intro j m i k v b;apply iw;intro t;rw[FM,ir,ir,EE];by_cases a:i=t
 · subst a;simp[b]
 · simp[a,FM]
section
variable {P:Program} {kt mt vt:TypeId} {w:World}
theorem I2(g:P.underlying mt=some (.map kt vt))(f:P.underlying kt=some (.int .u64)){z:Value}(j:(zeroValue vt).run P w = .ok z w){r:Nat}{m:List (Int×Value)}(h:Bf w r m){k:Int}(b:Bool) :
 (Instr.lookup mt (.map (some r)) (.int .u64 k) b).run P w = .ok (if b then .tuple #[Gw z m k,.bool (V8 m k)]else Gw z m k) w:=by
 have d:∀ c,(Instr.checkKey c 10000 kt (.int .u64 k)).run P w = .ok () w:=fun c=>by rw[Instr.checkKey];simp[fT f]
 have e:=Hi (k:=k) w f m;have i:=h.obj;unfold Gw V8;simp only[Instr.lookup,fC,fT g,fe,getObj,Sem.run,i];cases a:BW k 0 m with
 | none=>cases b <;> simp[j,d,e,a]
 | some p=>cases b <;> simp[d,e,a]
theorem TE(I:P.underlying mt=some (.map kt vt))(H:P.underlying kt=some (.int .u64)){r:Nat}{m:List (Int×Value)}(h:Bf w r m){k:Int}(v:Value) :
 ∃ C,(Instr.mapUpdate mt (.map (some r)) (.int .u64 k) v).run P w = .ok () C/\Bf C r (D1 m k v)/\w.grownBy C (some r):=by
 have F:∀ D,(Instr.checkKey D 10000 kt (.int .u64 k)).run P w = .ok () w:=fun D=>by rw[Instr.checkKey];simp[fT H]
 have G:=Hi (k:=k) w H m;have y:=h.obj;have z:=h.lt;have l:∀ o:Obj,w.grownBy { w with heap:=w.heap.setIfInBounds r o } (some r):=by
  intro o;refine⟨rfl,rfl,rfl,by simp,fun j _ B => ?_⟩;have:r≠j:=by rintro rfl;exact B rfl
  simp only;rw[jX this]
 have s:∀ o:Obj,({ w with heap:=w.heap.setIfInBounds r o }:World).heap[r]?=some o:=by
  intro o;simp only;rw[ko z]
 unfold D1;cases c:BW k 0 m with
 | none =>
  refine⟨_,?_,⟨s (.map (Cv 0 (m ++ [(k,v)])).toArray (m.length+1)) |>.trans (by simp),?_⟩,l _⟩
  · simp only[Instr.mapUpdate,fC,fT I,fe,getObj,setObj,Sem.run,y,F];rw[G];simp[c,Sem.run,y,Hh]
  · rw[fY,iq];refine⟨h.nodup,by simp,?_⟩;intro a K b E;simp only[gD,iF,fi]at E;subst E;rintro rfl;exact Do.1 c K
 | some p =>
  obtain⟨i,J⟩:=p;obtain⟨_,n⟩:=CJ c;rw[jn]at n;have d:i<m.length:=by
   rcases fS i m.length with h|h
   · exact h
   · simp[fH h]at n
  have g:(m.set i (k,v)).map (·.1)=m.map (·.1):=by
   rw[km];apply iw;intro t;rw[ir];by_cases x:i=t
   · subst x;have A:m[i]=(k,J):=by rw[eZ d]at n;simpa using n
     simp[d,A]
   · simp[x]
  refine⟨_,?_,⟨s (.map (Cv 0 (m.set i (k,v))).toArray m.length) |>.trans (by simp),?_⟩,l _⟩
  · simp only[Instr.mapUpdate,fC,fT I,fe,getObj,Sem.run,y,F];rw[G];have f:(Cv 0 m)[i]?=some { key:=(.int .u64 k),val:=J,born:=0+i }:=by
     rw[FM,n];rfl
    have q:((Cv 0 m).modify i fun e=>{ key:=(.int .u64 k),val:=v,born:=e.born })=Cv 0 (m.set i (k,v)):=by
     rw[RA _ _ _ _ _ d];apply iw;intro t;rw[List.getElem?_modify,ir,EE];by_cases x:i=t
     · subst x;simp[f,d]
     · simp[x]
    simp[c,f,Instr.keyThatStays,MD,setObj,Sem.run,y,q]
  · rw[g];exact h.nodup
end
section
variable {P:Program} {kt mt vt:TypeId} {w:World}
theorem RC(c:o.guard=none)(e:o.op = .makeMap mt none)
 (d:∀ a,Bf a w.heap.size []->Ext w a->w.heap.size<a.heap.size->wpList P ops Q rest (f.put o.dst (.map (some w.heap.size))) a):wpList P ops Q (o :: rest) f w:=by
 refine gI c fun K b => ?_;unfold Oper.wp execOp;have g:(Instr.makeMap mt none).run P w = .ok (.map (some w.heap.size)) (w.alloc (.map #[] 0)):=by
  simp[Instr.makeMap,newObj,Sem.run]
 simp only[e,kI,fC,g,fe,fQ,Oper.upon];exact b _ _ (d _ ⟨kD w _,by simp⟩ ((Ext.refl w).alloc _) (by simp))
theorem Vc{x:Operand}(e:o.guard=none)(c:o.op = .mapUpdate mt x y u\/o.op = .insert mt x y u)
 (j:P.underlying mt=some (.map kt vt)) (i:P.underlying kt=some (.int .u64)) {r:Nat} {m:List (Int×Value)} {k:Int} {v:Value}
 (l:f.eval x = .map (some r)) (n:f.eval y=(.int .u64 k)) (hu:f.eval u=v) (h:Bf w r m)
 (g:∀ b,Bf b r (D1 m k v)->w.grownBy b (some r)->wpList P ops Q rest (f.put o.dst undef) b):wpList P ops Q (o :: rest) f w:=by
 refine gI e fun K d => ?_;obtain⟨b,a,h2,h3⟩:=TE (k:=k) j i h v;unfold Oper.wp execOp;rcases c with c|c
 all_goals
  simp only[c,l,n,hu,fC,a,fe,fQ,Oper.upon];exact d _ _ (g b h2 h3)
end
section
variable {P:Program} {ops:Array Oper} {hs:List Hd} {a0:Act} {W:World} {i:Nat} {o:Oper}
theorem olA{t:Tmp}(j:BQ hs o=some true)(b:o.op = .load T (.tmp t))(k:∀ a w,Et ops hs a0 o a w (.tmp t)->a (.tmp t) = .pointer (some ⟨g,0,none⟩))(e:Agg P T cs.length)(c:Arr W g ty cs)(f:v = .agg cs.toArray):obl P (fun l=>Ext W l) ops hs a0 i o (he v) :=
 B4 j fun a w hp d h=>by
  rw[b]at h;simp only[execOp,b,k a w h.1,fC,I5 e (c.ext d),fe,fQ,f]
theorem olC{C:World->Prop}{t:Tmp}(f:BQ hs o=some true)(b:o.op = .load T (.tmp t))(g:∀ a w,Et ops hs a0 o a w (.tmp t)->a (.tmp t) = .pointer (some p))(d:QL P T=true)(e:∀ w,C w->w.cell? p=some v):obl P C ops hs a0 i o (he v) :=
 B4 f fun a w hp c h=>by
  rw[b]at h;simp only[execOp,b,g a w h.1,fC,QM d (e w c),fe,fQ]
theorem XZ{C:World->Prop}{t u:Tmp}{m:List (Int×Value)}{k:Int}(j:BQ hs o=some true)(b:o.op = .lookup mt (.tmp t) (.tmp u) false)(l:∀ a w,Et ops hs a0 o a w (.tmp t)->a (.tmp t) = .map (some r))(n:∀ a w,Et ops hs a0 o a w (.tmp u)->a (.tmp u) = .int .u64 k)
 (f:P.underlying mt=some (.map kt vt)) (e:P.underlying kt=some (.int .u64)) (p:∀ w,(zeroValue vt).run P w = .ok z w) (d:∀ w,C w->Bf w r m) (g:Gw z m k=v):obl P C ops hs a0 i o (he v) :=
 B4 j fun a w hp c h=>by
  rw[b]at h;simp only[execOp,b,l a w h.1,n a w h.2.1,fC,I2 f e (p w) (d w c) false,fe,fQ,g,iI,jZ]
theorem olk{t u:Tmp}{k:List Int}(j:BQ hs o=some true)(b:o.op = .lookup mt (.tmp t) (.tmp u) false)(l:∀ a w,Et ops hs a0 o a w (.tmp t)->a (.tmp t) = .map (some r))(n:∀ a w,Et ops hs a0 o a w (.tmp u)->a (.tmp u)=Bg k)
 (f:P.underlying mt=some (.map kt vt)) (e:F7 P kt et) (p:∀ w,(zeroValue vt).run P w = .ok z w) (d:AB W r m) (h6:k.length=6) (g:Dr z m k=v):obl P (fun q=>Ext W q) ops hs a0 i o (he v) :=
 B4 j fun a w hp c h=>by
  rw[b]at h;simp only[execOp,b,l a w h.1,n a w h.2.1,fC,EL f e (p w) (d.ext c) h6 false,fe,fQ,g,iI,jZ]
theorem olu{t u:Tmp}{m:List (Int×Value)}{k:Int}(j:BQ hs o=some true)(b:o.op = .lookup mt (.tmp t) (.tmp u) false)(l:∀ a w,Et ops hs a0 o a w (.tmp t)->a (.tmp t) = .map (some r))(n:∀ a w,Et ops hs a0 o a w (.tmp u)->a (.tmp u) = .int .u64 k)
 (f:P.underlying mt=some (.map kt vt)) (e:P.underlying kt=some (.int .u64)) (p:∀ w,(zeroValue vt).run P w = .ok z w) (d:Bf W r m) (g:Gw z m k=v):obl P (fun q=>Ext W q) ops hs a0 i o (he v) :=
 B4 j fun a w hp c h=>by
  rw[b]at h;simp only[execOp,b,l a w h.1,n a w h.2.1,fC,I2 f e (p w) (d.ext c) false,fe,fQ,g,iI,jZ]
end
def ofL(l:List UInt8):ByteArray:=⟨l.toArray⟩
theorem TF(s:ByteArray):ofL (Ah s)=s:=QR (AO _)
theorem Kj:prog.underlying 77=some (.map 57 9):=by kernel_rfl
theorem LG(w:World):(zeroValue 9).run prog w = .ok (.string ⟨#[]⟩) w:=by kernel_rfl
def kvT(t:Pl.Tm):List Int×Value:=(Ab t.1,.string (ofL (txt t.2)))
def F4(t:Pl.Tm):List Value:=(Ab t.1).map (.int .i64)
def LH(t:Pl.Tm):Value := .int .u64 (CI (txt t.2))
structure MbP(w:World)(base r:Nat)(ae:Option Addr)(ce:Nat)(am:Option Addr)(cm:Nat)(l:PLs):Prop where
 mpm:AB w r (l.map kvT)
 mpk:AE w base 57 6 ae l.length ce (l.map F4)
 mpn:Own w base 101 am l.length cm (l.map LH)
 mpr:base<=r
def mbL(r:Nat)(ae:Option Addr)(ne ce:Nat)(am:Option Addr)(nm cm:Nat)(c:Nat):List Value:=[.map (some r),.slice ae ne ce,.slice am nm cm,.int .i64 c]
def MbA(w:World)(base B:Nat)(l:PLs)(c:Nat):Prop:=∃ r ae ce am cm,Arr w B 100 (mbL r ae l.length ce am l.length cm c)/\MbP w base r ae ce am cm l
theorem MbP.ext{w f:World}{base r:Nat}{a:Option Addr}{c:Nat}{b:Option Addr}{d:Nat}{l:PLs}(h:MbP w base r a c b d l)(e:Ext w f):MbP f base r a c b d l:=⟨h.mpm.ext e,h.mpk.ext e,h.mpn.ext e,h.mpr⟩
theorem MbA.ext{w a:World}{base B:Nat}{l:PLs}{c:Nat}(h:MbA w base B l c)(e:Ext w a):MbA a base B l c:=by
 obtain⟨r,b,f,d,g,h1,h2⟩:=h;exact⟨r,b,f,d,g,h1.ext e,h2.ext e⟩
theorem MbA.lt{w:World}{base B:Nat}{l:PLs}{c:Nat}(h:MbA w base B l c):B<w.heap.size:=by
 obtain⟨r,a,d,b,e,h1,h2⟩:=h;exact h1.lt
theorem MbA.mono{w:World}{base a B:Nat}{l:PLs}{c:Nat}(h:MbA w base B l c)(b:a<=base):MbA w a B l c:=by
 obtain⟨r,d,f,e,g,h1,h2⟩:=h;exact⟨r,d,f,e,g,h1,h2.mpm,h2.mpk.mono b,h2.mpn.mono b,ft b h2.mpr⟩
theorem AK{a:Option Addr}{j:Nat×Nat}(h:Own w base e a n c cs)(f:w.heap[g]?=some (.cells cur t j))(o:e≠t):blk a=none\/blk a≠some g:=by
 rcases h.2 with⟨b,_⟩|⟨k,i,d,b,_,m,_⟩
 · simp only[fd]at b;left;rw[b.1];rfl
 · simp only[fd]at b;right;rw[b.1];intro l;have:k=g:=by simpa[blk]using l
   subst this;rw[m]at f;injection f with h2;injection h2 with _ h3;exact o h3
theorem Cw{a:Option Addr}{j:Nat×Nat}(h:AE w base e k a n c rows)(f:w.heap[g]?=some (.cells cur t j))(p:e≠t):blk a=none\/blk a≠some g:=by
 rcases h.2.2 with⟨b,_⟩|⟨l,i,d,b,_,o,_⟩
 · simp only[fd]at b;left;rw[b.1];rfl
 · simp only[fd]at b;right;rw[b.1];intro m;have:l=g:=by simpa[blk]using m
   subst this;rw[o]at f;injection f with h2;injection h2 with _ h3;exact p h3
theorem MbA.kept{w i:World}{base B g:Nat}{l:PLs}{c:Nat}{t:TypeId}{f:Array Value}{o:Nat×Nat}(h:MbA w base B l c)(b:w.heap[g]?=some (.cells f t o))(h1:57≠t)(h2:101≠t)(p:B≠g)(d:w.grownBy i (some g)):MbA i base B l c:=by
 obtain⟨r,j,m,k,n,q,a⟩:=h;refine⟨r,j,m,k,n,q.kept d (fun e=>p (fD e)),a.mpm.kept d (fun e => ?_),a.mpk.kept d (Cw a.mpk b h1),a.mpn.kept d (AK a.mpn b h2),a.mpr⟩;have:r=g:=fD e;subst this;rw[a.mpm.obj]at b;cases b
theorem MbA.keptMap{l:PLs}{x:Array MapEntry}(h:MbA w base B l c)(o:w.heap[g]?=some (.map x k))(z:g<base)(f:w.grownBy w' (some g)):MbA w' base B l c:=by
 obtain⟨r,j,s,q,v,p,d⟩:=h
 have i:∀ {t:TypeId} {m:List Value} {n c:Nat} {a:Option Addr},Own w base t a n c m->blk a=none\/blk a≠some g:=fun {t m n c a} y=>by
  cases b:blk a with
  | none=>exact .inl rfl
  | some g'=>exact .inr (fun e=>by have h3:=(y.lt b).1;have h4:=fD e;omega)
 refine⟨r,j,s,q,v,p.kept f (fun e => ?_),d.mpm.kept f (fun e => ?_),d.mpk.kept f ?_,d.mpn.kept f (i d.mpn),d.mpr⟩
 · have:B=g:=fD e;subst this;have h3:w.heap[B]?=_:=p;rw[h3]at o;cases o
 · have h3:r=g:=fD e;have:=d.mpr;omega
 · cases b:blk j with
   | none=>exact .inl rfl
   | some g'=>exact .inr (fun e=>by have h3:=(d.mpk.lt b).1;have h4:=fD e;omega)
noncomputable def lkS (l:PLs) (e:List Int):List UInt8:=if Pl.coef l e=0 then []else txt (Pl.coef l e)
theorem Qv{l:PLs}(a:Pl.Canon n l){e:List Int}(he:e.length=n):Dr (.string ⟨#[]⟩) (l.map kvT) (Ab e) = .string (ofL (lkS l e)):=by
 unfold Dr;cases d:Bw (Ab e) 0 (l.map kvT)with
 | none =>
  have h1:=Bh.1 d
  have h2:Pl.coef l e=0:=Pl.coef_absent fun t c h=>h1 (by
   rw[j4]
   exact fy.2 ⟨t,c,by show Ab t.1=Ab e;rw[h]⟩)
  unfold lkS;rw[fG h2];rfl
 | some q =>
  obtain⟨i,v⟩:=q;obtain⟨_,f⟩:=C5 d;rw[jn,jD,Option.map_eq_some_iff]at f;obtain⟨t,c,h1⟩:=f;have b:=gS c;have h2:Ab t.1=Ab e:=fM Prod.fst h1;have h3:Value.string (ofL (txt t.2))=v:=fM Prod.snd h1;have h4:t.1=e:=Ei (by rw[a.len t b,he]) h2;have h5:Pl.coef l e=t.2:=by rw[<-h4];exact Cu a b
  unfold lkS;rw[fl (by rw[h5];exact a.nz t b),h5];exact h3.symm
theorem WC(q:Rat):txt q≠[]:=fun h=>by
 have h1:=A6 q;rw[h]at h1;have h2:Bn []=none:=by rfl
 rw[h2]at h1;cases h1
theorem Vd{p:Rat}(h:txt p=txt q):p=q:=by
 have h1:=A6 p;rw[h,A6]at h1;exact(fD h1).symm
theorem Pn{l:PLs}{e:List Int}(b:q≠0):lkS l e=txt q<->Pl.coef l e=q:=by
 unfold lkS;by_cases h:Pl.coef l e=0
 · rw[fG h,h];exact⟨fun a=>absurd a.symm (WC q),fun a=>absurd a.symm b⟩
 · rw[fl h];exact⟨Vd,fun a=>by rw[a]⟩
theorem Kk(l:List UInt8):(ofL l).toList=l:=by rw[li];rfl
theorem WD(a b:List UInt8):((ofL a).toList == (ofL b).toList)=decide (a=b):=by
 rw[Kk,Kk];by_cases h:a=b
 · subst h;simp
 · simp[h]
def fpT(m:Int)(es:List Int):Int:=TD (es.foldl (fun x v=>IntKind.u64.wrap (IntKind.u64.wrap (x*31)+IntKind.u64.wrap v)) m)
noncomputable def fpI (a:List Int) (l:PLs):Int:=l.foldl (fun s t=>IntKind.u64.wrap (s+fpT (CI (txt t.2)) (Ab (mvd a t.1)))) 0
theorem TG{l:PLs}(h:k<l.length):fpI a (l.take (k+1))=IntKind.u64.wrap (fpI a (l.take k)+fpT (CI (txt (l.getD k ([],0)).2)) (Ab (mvd a (l.getD k ([],0)).1))):=by
 unfold fpI;rw[ff h,kS,gqq,eZ h];rfl
theorem LI(g:Pl.Tm->Int):∀ (l:PLs) (s:Int),l.foldl (fun s t=>IntKind.u64.wrap (s+g t)) (IntKind.u64.wrap s)=IntKind.u64.wrap (s+(l.map g).sum)
 | [],s=>by simp
 | t :: r,s=>by
  rw[jG];have h1:IntKind.u64.wrap (IntKind.u64.wrap s+g t)=IntKind.u64.wrap (s+g t):=by
   rw[gN,gN,gN,Int.emod_add_emod]
  rw[h1,LI g r (s+g t),gD,jN,Int.add_assoc]
theorem RD(h:a.Perm b):a.sum=b.sum:=by
 induction h with
 | nil=>rfl
 | cons x _ ih=>rw[jN,jN,ih]
 | swap x y l=>simp only[jN];omega
 | trans _ _ i1 i2=>rw[i1,i2]
theorem Qw(a:List Int)(l:PLs):fpI a l=IntKind.u64.wrap ((l.map fun t=>fpT (CI (txt t.2)) (Ab (mvd a t.1))).sum):=by
 have h:=LI (fun t=>fpT (CI (txt t.2)) (Ab (mvd a t.1))) l 0;have h0:IntKind.u64.wrap 0=0:=by rw[gN];rfl
 rw[h0,Int.zero_add]at h;exact h
theorem WE{x y:PLs}(d:n<=6)(h:Rl a x y)(hp:Af a=true)(c:a.length=n)(f:Pl.Canon n x)(b:Pl.Canon n y):fpI a x=fpI (idn n) y:=by
 have h1:=h.perm hp c f b;rw[Qw,Qw];have h2:(x.map fun t=>fpT (CI (txt t.2)) (Ab (mvd a t.1)))=(mvL a x).map fun t=>fpT (CI (txt t.2)) (Ab t.1):=by
  unfold mvL;rw[j4];rfl
 have h3:(y.map fun t=>fpT (CI (txt t.2)) (Ab (mvd (idn n) t.1)))=y.map fun t=>fpT (CI (txt t.2)) (Ab t.1) :=
  gZ fun t e=>by rw[Qu d (b.len t e)]
 rw[h2,h3,RD (h1.map _)]
theorem RE(h:k<l.length)(g:Int->Int->Int)(s:Int):(l.take (k+1)).foldl g s=g ((l.take k).foldl g s) (l.getD k 0):=by
 rw[ff h,kS,gqq,eZ h];rfl
theorem D2{N:Nat}{l:PLs}(hM:MbA w base B l c)(hx:SlI w x nx cx xs)(hp:Af xs=true)(hl:xs.length=N)(hc:Pl.Canon N l)(hb:l.length<=4096) :
 Calls prog 47 #[.pointer (some ⟨B,0,none⟩),.slice x nx cx] w fun e w'=>e = .returned (.int .u64 (fpI xs l))/\Ext w w':=by
 obtain⟨r,ae,ce,am,cm,hA,E⟩:=hM;obtain⟨nl,I⟩:∃ k,l.length=k:=⟨_,rfl⟩;have hK:=E.mpk.slk (by omega);have hN:=E.mpn.sl;rw[I]at hA hK hN hb;have b1:=hA.c 1 rfl;have b2:=hA.c 2 rfl;have J:=qh I;have HC:=qh hc;have HP:=qh hp;have HL:=qh hl;have W:=hx.len;have a2:=qh W;obtain⟨a8,g⟩:∃ s,fpI xs l=s:=⟨_,rfl⟩;have K:=qh g;rw[g];clear E I hc hp hl W g hA
 go_enter func47,ntmps47
 go_wp2
 go_loopw[5,16] (fun sv iv wr=>∃ (k:Nat) (s:Int),iv = .int .i64 k/\k<=nl/\Ext w wr/\sv = .int .u64 s/\Hid (s=fpI xs (l.take k))) (fun _ iv _=>nl-(intOf iv).toNat)
 case atStart=>exact⟨0,0,rfl,fu _,Ext.refl _,rfl,qh rfl⟩
 case round =>
  obtain⟨k,s,rfl,hk,hE,rfl,HS⟩:=hrel;by_cases H:k<nl
  case neg =>
   have HF:Hid (s=a8):=qh (by rw[HS.out,f9 (by rw[J.out];omega)];exact K.out);clear HS;go_wp2;go_ret;exact⟨by rw[<-HF.out];rfl,hE⟩
  have d:k<l.length:=by rw[J.out];exact H
  have Z:l.getD k ([],0)∈l:=by
   rw[gqq,eZ d];exact fE _
  have n:Hid (fpI xs (l.take (k+1))=IntKind.u64.wrap (s+fpT (CI (txt (l.getD k ([],0)).2)) (Ab (mvd xs (l.getD k ([],0)).1)))):=qh (by rw[HS.out];exact TG d);have Y:=HC.out.len _ Z;have D:=hK.ext hE;have Q:=hN.ext hE;obtain⟨be,oe,rfl,a6⟩:=D.rd (by omega);obtain⟨bm,om,rfl,R⟩:=Q.rd (by omega);have i:(l.map F4).getD k []=F4 (l.getD k ([],0)):=by simp[d]
  have L:=R k H;have U:(l.map LH).getD k undef = .int .u64 (CI (txt (l.getD k ([],0)).2)):=by simp[d,LH]
  rw[U]at L;obtain⟨t,ht⟩:∃ t,l.getD k ([],0)=t:=⟨_,rfl⟩;rw[ht]at i L n Y;obtain⟨mk,o⟩:∃ m,CI (txt t.2)=m:=⟨_,rfl⟩;rw[o]at L n;have hY:=Arr.new wr 57 An;have f:(F4 t).length=6:=by
   unfold F4;rw[fq];have:=HL.out;have h6:=(Ap HP.out).1;exact AA (by omega)
  have z:Agg prog 57 (F4 t).length:=by rw[f];exact Cg
  have a1:An.length=(F4 t).length:=by rw[f];rfl
  have a3:=qh a1;have p:∀ v∈F4 t,v.oneCell'=true:=A4 _;clear a6 R ht Z U o d f a1
  go_upto_region 5 with(first
   | (refine Dz rfl rfl Cg rfl D H ?_;rw[i])
   | (refine Aa (vs:=F4 t) rfl rfl rfl rfl rfl z hY a3.out p ?_;intro w5 A S))
  have C:Ext wr w5:=((Ext.refl wr).alloc _).grownR S (lrf _);obtain⟨X,hX⟩:∃ x,wr.heap.size=x:=⟨_,rfl⟩;rw[hX]at A |-;have a:=hE.trans C;have g2:=C.cell L;have c2:=a.cell b2;have T:Value.agg (F4 t).toArray=Bg (Ab t.1):=rfl;have a0:=hx.ext a;have V:=qh (fun(wy:World) (hy:Ext w5 wy)=>EM (m:=t.1) (a0.ext hy) HP.out (by have h1:=a2.out;have h2:=HL.out;omega));clear hY S i D Q L hX a0
  go_wp2_with(first
   | (refine Bm rfl rfl z rfl A ?_;rw[T])
   | fail)
  refine(V.out w5 (Ext.refl _)).mono ?_;rintro e w6 ⟨rfl,M⟩;obtain⟨b,F⟩:∃ b,Ab (mvd xs t.1)=b:=⟨_,rfl⟩;have a7:b.length=6:=by
   rw[<-F];have h6:=(Ap HP.out).1;have:=HL.out;exact AA (by rw[AV];omega)
  rw[F]at n |-;have q:=qh a7;unfold Bg;have P:=a.trans M;clear V F Y p z A T g2 c2 C M a;go_wp2;obtain⟨wo,rfl⟩:∃ wo:World,wo=w6:=⟨_,rfl⟩
  go_loopw[8,31] (fun xv jv wi=>∃ (j:Nat) (x:Int),jv = .int .i64 j/\j<=6/\Ext wo wi/\xv = .int .u64 x/\Hid (x=(b.take j).foldl (fun x v=>IntKind.u64.wrap (IntKind.u64.wrap (x*31)+IntKind.u64.wrap v)) mk)) (fun _ jv _=>6-(intOf jv).toNat)
  case atStart=>exact⟨0,mk,rfl,by omega,Ext.refl _,rfl,qh rfl⟩
  case round =>
   obtain⟨j,xv,rfl,hj,O,rfl,HX⟩:=hrel;by_cases G:j<6
   · have HN:Hid ((b.take (j+1)).foldl (fun x v=>IntKind.u64.wrap (IntKind.u64.wrap (x*31)+IntKind.u64.wrap v)) mk=IntKind.u64.wrap (IntKind.u64.wrap (xv*31)+IntKind.u64.wrap (b.getD j 0))):=qh (by rw[RE (by rw[q.out];exact G),<-HX.out]);have a5:(b.map (Value.int .i64)).toArray[j]?=some (.int .i64 (b.getD j 0)):=by
      have h1:j<b.length:=by rw[q.out];exact G
      simp[h1]
     clear HX;generalize b.getD j 0=y at *
     go_wp2_with(refine Wm rfl rfl Ba (k:=j) rfl rfl G a5 ?_)
     go_roundw
     case rel=>exact⟨j+1,_,by go_num,by omega,O,rfl,qh HN.out.symm⟩
     case measure=>simp[intOf];omega
   · have HF:Hid (TD xv=fpT mk b):=qh (by
      rw[HX.out,f9 (by rw[q.out];omega)]
      rfl)
     clear HX
     go_wp2_with fail
     refine LF.mono ?_;rintro e w7 ⟨rfl,a4⟩;go_wp2;go_roundw
     case rel=>exact⟨k+1,_,by go_num,by omega,(P.trans O).trans a4,rfl,qh (by rw[n.out,HF.out])⟩
     case measure=>simp[intOf];omega
end Go.Proofs.YthdbingomfdeoaaGreatDoor
