/- Part PqRpt. -/
import Derived.Test.YtlbmnokpiilfpaaGreatDoorPqBCx1
import Derived.Test.YtlbmnokpiilfpaaGreatDoorPqCx1

set_option linter.all false
set_option maxRecDepth 100000
set_option maxHeartbeats 100000000
namespace Go.Proofs.YtlbmnokpiilfpaaGreatDoor
open Tryz Go Go.RowKit
variable {f:Act} {ops:Array Oper} {Q:Exit->Act->World->Prop} {B:Int} {rest:List Oper} {N i k:Nat} {o:Oper} {y:Operand} {t ty:TypeId}
section
variable {P:Program} {w:World}
theorem Tg{x:Operand}(a:o.guard=none)(d:o.op = .build ty #[(0,x),(1,y)])
 {r0 r1 r2 r3:Value} {e:Option Addr} {k c:Nat} (g:(Instr.build ty #[(0,.agg #[r0,r1,r2,r3]),(1,.slice e k c)]).run P w = .ok (.agg #[r0,r1,r2,r3,.slice e k c]) w) (i:f.eval x = .agg #[r0,r1,r2,r3]) (j:f.eval y = .slice e k c)
 (h:wpList P ops Q rest (f.put o.dst (.agg #[r0,r1,r2,r3,.slice e k c])) w):wpList P ops Q (o :: rest) f w:=by
 refine jf a fun _ b => ?_;unfold Oper.wp execOp;simp only[d,jH,ja,jE,i,j,ij,g,gS,iF];exact b _ _ h
theorem Vd{x:Operand}(b:o.guard=none)(d:o.op = .buildSlice t 1 #[(0,x)])
 {r0 r1 r2 r3 r4:Value} {e:TypeId} {zs:List Value} {bytes:Nat} (g:P.underlying t=some (.slice e)) (a:BV P e zs 5 bytes) (i:f.eval x = .agg #[r0,r1,r2,r3,r4])
 (h:wpList P ops Q rest (f.put o.dst (.slice (some ⟨w.heap.size,0,none⟩) 1 1)) (w.alloc (.cells #[r0,r1,r2,r3,r4] e))):wpList P ops Q (o :: rest) f w:=by
 refine jf b fun _ c => ?_;unfold Oper.wp execOp;simp only[d,jH,ja,jE,i,ij,EK g a,gS,iF];exact c _ _ h
end
def AlQ(w0:World)(v:Value)(w:World):Prop:=∃ g,v = .pointer (some ⟨g,0,none⟩)/\w0.heap.size<=g/\Arr w g 99 (Al false none 0 0 false none 0 0)
theorem AlQ.x(w0:World):∀ (v:Value) (w a:World),Ext w a->AlQ w0 v w->AlQ w0 v a:=fun _ _ _ e ⟨g,h1,h2,h3⟩=>⟨g,h1,h2,h3.ext e⟩
theorem Zh(a:o.op = .alloc 99)(b:Operand->Value)(w:World):(execOp b o).run prog w = .ok (.value (.pointer (some ⟨w.heap.size,0,none⟩))) (w.alloc (.cells (Al false none 0 0 false none 0 0).toArray 99)):=by
 simp only[execOp,a];kernel_rfl
theorem YE:P2 41=2199023255552:=by unfold P2;decide
theorem WO:P2 21=2097152:=by unfold P2;decide
theorem Th{l:List Pl.Tm}(a:k<l.length):Pl.derT i (l.take (k+1))=Pl.derT i (l.take k) ++ (if 0<(l.getD k tz).1.getD i 0 then [(Pl.decE i (l.getD k tz).1,(l.getD k tz).2*(((l.getD k tz).1.getD i 0:Int):Rat))]else []):=by
 have e:l.getD k tz=l[k]:=by rw[gqq,gD a];rfl
 rw[gM a,Pl.derT_snoc,e]
theorem Ve{x:List Int}(h:∀ y∈x,0<=y/\y<=B)(h0:0<x.getD i 0):∀ y∈Pl.decE i x,0<=y/\y<=B:=by
 intro y b;rcases j7 b with h1|rfl
 · exact h y h1
 · have h2:x.getD i 0∈x:=by
    rcases iH i x.length with a|a
    · exact Y6 a
    · rw[gqq,ig a]at h0;exact absurd h0 (by decide)
   have:=h _ h2;omega
theorem TBb.der{l:List Pl.Tm}(h:TBb B N l):TBb B N (Pl.derT i l):=fun t b=>by
 obtain⟨s,a,h0,rfl⟩:=Cv b;obtain⟨h1,h2⟩:=h s a;exact⟨by show(Pl.decE i s.1).length=N;unfold Pl.decE;rw[kA];exact h1,Ve h2 h0⟩
theorem LD{b0 I:Nat}(hN:N<=12){B:Int}{a:Option Addr}{n c:Nat}{la:List Pl.Tm}{w:World}(ha:TSl w b0 a n c la)(ba:TBb B N la)(hI:I<N)(hB:0<=B/\B<=1099511627776)(hw:b0<=w.heap.size)(hn:n<=10000)(ra:∀ s∈la,Pl.RB 1000000 s.2)(hs:Pl.SubOK (Pl.derT I la)) :
 Calls prog 86 #[.agg (pL (N:Int) a n c).toArray,.int .i64 (I:Int)] w (OM w b0 (N:Int) N (Pl.derT I la)):=by
 have P:=ha.len
 go_enter func86,ntmps86
 go_upto_region 1 with(fail)
 refine Cf ?_;intro w0 aG a9 aE bJ;have bu:Arr w0 (w.heap.size+1) 44 (pL 0 none 0 0):=aE;have p0:=a9.c 0 rfl;have p1:=a9.c 1 rfl;clear a9 aE bJ;go_wp2
 go_loopw[5,6] (fun lv iv wr=>∃ (k no:Nat) (ao:Option Addr) (co:Nat),lv = .slice ao no co/\iv = .int .i64 k/\k<=n/\no<=k/\Ext w0 wr/\Hid (TO wr b0 w0.heap.size ao no co (Pl.derT I (la.take k)))) (fun _ iv _=>n-(intOf iv).toNat)
 case atStart=>exact⟨0,0,none,0,rfl,rfl,gO _,gO _,Ext.refl _,by rw[jw];exact qh (TO.nil _ _ _)⟩
 case round =>
  obtain⟨k,no,ao,co,rfl,rfl,hk,bR,hE,HO⟩:=hrel;have a0:=aG.trans hE;have bS:=hE.cell p0;have al:=hE.cell p1;by_cases H:k<n
  case neg =>
   have b8:¬ (k:Int)<n:=by omega
   have bB:k=n:=by omega
   have hT:TO wr b0 w0.heap.size ao no co (Pl.derT I la):=by
    have h1:=HO.out;rw[gG (by omega)]at h1;exact h1
   have aX:=qh (EL (N:=N) (b0:=b0) hN (vars:=(N:Int)) hT.sl ((ba.der).tb hB.2) (gJ hw a0.size) (by omega) hs);have hR:=bu.ext hE;have bb:=qh hw;clear HO hT hs bB P ba hB
   go_wp2_with fail
   refine aX.out.mono ?_;rintro e w1 ⟨a1,n1,c1,bK,rfl,aH,br,aW,am,aP⟩;have aL:=hR.ext aH;have HX:=qh am;have HY:=qh aP;have bc:=qh aW;have e1:(pL (N:Int) a1 n1 c1).toArray=#[.int .i64 (N:Int),.slice a1 n1 c1]:=rfl;clear aX am aP aW hR
   go_wp2_with(refine Aa (vs:=pL (N:Int) a1 n1 c1) rfl rfl rfl rfl rfl AJ aL rfl (AT _ _ _ _) ?_;intro w9 bk aT)
   exact gF (Ap rfl AJ rfl bk) rfl ⟨a1,n1,c1,bK,rfl,(a0.trans aH).grownR aT (by omega),(br.keptA aL (by decide) (by decide) (by decide) (by have:=bb.out;omega) aT).mono a0.size,bc.out,HX.out,HY.out⟩
  have b8:(k:Int)<n:=by omega
  have O:k<la.length:=by omega
  obtain⟨A,C,bM,s1,x1,m1,d1,y1,g1,h1,bf,q,f1,rfl,F,b,aw,aV,aQ,af⟩:=(ha.ext a0).row H;have Q:la.getD k tz∈la:=im (getD_some O);have aN:=ba _ Q;have b7:q=N:=by have q1:=af.1.len;omega
  subst b7;have az:wr.cell? ⟨A,C+k*5,none⟩=some (.bool s1):=by have:=F.cl H (j:=0) (by omega);rw[b]at this;exact this
  have aA:wr.cell? ⟨A,C+k*5+1,none⟩=some (.slice x1 m1 d1):=by have:=F.cl H (j:=1) (by omega);rw[b]at this;exact this
  have aB:wr.cell? ⟨A,C+k*5+2,none⟩=some (.bool false):=by have:=F.cl H (j:=2) (by omega);rw[b]at this;exact this
  have aC:wr.cell? ⟨A,C+k*5+3,none⟩=some (.slice y1 g1 h1):=by have:=F.cl H (j:=3) (by omega);rw[b]at this;exact this
  have aD:wr.cell? ⟨A,C+k*5+4,none⟩=some (.slice bf q f1):=by have:=F.cl H (j:=4) (by omega);rw[b]at this;exact this
  have D:=qh (Th (i:=I) O);have R:=qh (fun(wy:World) (m:Ext wr wy) (v':Value) (z:Rat) (hv:QV wy v' z) (hz:Pl.RB 1000000 z)=>KH (v := .agg #[.bool s1,.slice x1 m1 d1,.bool false,.slice y1 g1 h1]) (p:=(la.getD k tz).2) ⟨s1,x1,m1,d1,y1,g1,h1,rfl,aw,aV.ext m,aQ.ext m⟩ (v':=v') hv (ra _ Q) hz);have ag:=af.1;have ar:=qh P;generalize la.getD k tz=u at *
  obtain⟨J,b2⟩:∃ J,u.1=J:=⟨_,rfl⟩;rw[b2]at ag aN D;obtain⟨ad,aO⟩:=aN;have bI:=aO _ (Y6 (l:=J) (k:=I) (by rw[ad];exact hI));have au:=qh ad;clear F b Q aV aQ af aw P O b2 ad aO;have hA:Ext wr (wr.alloc (.cells #[] 3)):=(Ext.refl wr).alloc _;have hO:=AB wr wr.heap.size 3 #[] 0 rfl (lrf _) (by omega);have bL:=hA.cell al;have bg:=hA.cell aD
  go_upto_region 6 with(refine B5 rfl rfl underlying24 MG rfl rfl hO rfl (ag.ext hA) (Cc _) (by unfold maxLen;omega) (by omega) (by simp) ?_;intro a2 Z T E aR bx)
  have y:Ext wr T:=hA.grown aR (fun g hg=>(hO.lt hg).1);replace E:Own T wr.heap.size 3 a2 q Z (J.map (Value.int .i64)):=by simpa using E
  obtain⟨G,rfl,bO,bP⟩:=E.place (by omega);have a5:T.cell? ⟨G,I,none⟩=some (.int .i64 (J.getD I 0)):=by
   have h9:=E.cellAt hI;rw[gqq,me,gD (by rw[au.out];exact hI)]at h9;rw[h9,gqq,gD (by rw[au.out];exact hI)];rfl
  have a7:Hid (TO T b0 w0.heap.size ao no co (Pl.derT I (la.take k))):=qh (HO.out.ext y);have ap:Hid (Pl.decE I J=J.set I (J.getD I 0-1)):=qh rfl;rw[ap.out]at D;obtain⟨X,hX⟩:∃ x,J.getD I 0=x:=⟨_,rfl⟩;rw[hX]at a5 D bI;clear hX ap hO hA aR bx ag bL bg;have aJ:=hE.trans y;by_cases an:0<X
  case neg =>
   have HN:Hid (Pl.derT I (la.take (k+1))=Pl.derT I (la.take k)):=qh (by rw[D.out,gT an,jL]);have P:=ar.out;clear D R;go_wp2;go_roundw
   case rel=>exact⟨k+1,no,ao,co,rfl,by go_num,by omega,by omega,aJ,by rw[HN.out];exact a7⟩
   case measure=>simp[intOf];omega
  have HN:Hid (Pl.derT I (la.take (k+1))=Pl.derT I (la.take k) ++ [(J.set I (X-1),u.2*(X:Rat))]):=qh (by rw[D.out,gY an]);have q1:=y.cell al;have r0:=y.cell az;have r1:=y.cell aA;have r2:=y.cell aB;have r3:=y.cell aC;have bF:=qh (RI (z:=X) (w:=T));have aM:Pl.RB 1000000 (X:Rat):=⟨Af (a:=41) (by show X.natAbs<P2 41;rw[YE];omega) (by omega),Cu (by omega)⟩;have ay:=qh aM;clear D az aA aB aC aD al aM
  go_upto_region 7 with(fail)
  have U:=fun(f:World) (m:Ext T f)=>qh (And.intro (m.cell q1) (And.intro (m.cell r0) (And.intro (m.cell r1) (And.intro (m.cell r2) (And.intro (m.cell r3) (m.cell a5))))))
  refine Ab (by kernel_rfl) (fun f=>Ext T f)
   [he (.pointer (some ⟨w.heap.size,1,none⟩)),
 he (.slice (some ⟨A,C,none⟩) n c),
 he (.int .i64 (k:Int)),
 he (.pointer (some ⟨A,(C+k*5),none⟩)),
 he (.pointer (some ⟨A,(C+k*5),none⟩)),
 he (.agg #[.bool s1,.slice x1 m1 d1,.bool false,.slice y1 g1 h1]),
 he (.slice (some ⟨G,0,none⟩) q Z),
 he (.int .i64 (I:Int)),
 he (.pointer (some ⟨G,I,none⟩)),
 he (.int .i64 X),
 hp (fun v f=>QV f v (X:Rat)),
 hp (fun v f=>QV f v (u.2*(X:Rat))),
 hp (fun v f=>AlQ T v f)]
   (by kernel_rfl) (fun _ _ e h=>h.trans e) ((Ext.refl T).drew) ⟨trivial,trivial,trivial,trivial,trivial,trivial,trivial,trivial,trivial,trivial,fun v w w' e h=>QV.ext h e,fun v w w' e h=>QV.ext h e,AlQ.x _,trivial⟩ ⟨?o0,?o1,?o2,?o3,?o4,?o5,?o6,?o7,?o8,?o9,?o10,?o11,?o12,trivial⟩ ?fin
  case o0=>exact ofa (d:=1)
  case o1 | o9=>exact ol
  case o2 | o6 | o7=>exact omv
  case o4=>exact ofa (d:=0)
  case o5=>exact ol4
  case o3 =>
   refine Aj rfl fun S f m M h => ?_;have e0:S (.tmp 30)=(.slice (some ⟨A,C,none⟩) n c):=h.1;have e1:S (.tmp 31)=(.int .i64 (k:Int)):=h.2.1;obtain⟨kq,ah,ai,aj,ak,kc⟩:=(U f m).out;go_simp
   try (first | (intros;omega) | exact gI _ (by omega))
  case o8 =>
   refine Aj rfl fun S f m M h => ?_;have e0:S (.tmp 35)=(.slice (some ⟨G,0,none⟩) q Z):=h.1;have e1:S (.tmp 36)=(.int .i64 (I:Int)):=h.2.1;obtain⟨kq,ah,ai,aj,ak,kc⟩:=(U f m).out;go_simp
   try (first | (intros;omega) | exact gI _ (by omega))
  case o10 =>
   refine Ag rfl fun S f m M bz h => ?_;have e1:S (.tmp 38)=(.int .i64 X):=h.2.1;obtain⟨kq,ah,ai,aj,ak,kc⟩:=(U f m).out;refine⟨118,#[.int .i64 X],by go_simp,(RI (z:=X) (by omega)).mono ?_⟩;rintro e w' ⟨s',a',n',c',b',m',d',rfl,aa,bh,bi,bj⟩;exact⟨_,rfl,aa,s',a',n',c',b',m',d',rfl,bh,bi,bj⟩
  case o11 =>
   refine Ag rfl fun S f m M bz h => ?_;have e1:S (.tmp 34)=(.agg #[.bool s1,.slice x1 m1 d1,.bool false,.slice y1 g1 h1]):=h.2.1;obtain⟨v2,e2,i2⟩:=h.2.2.1;obtain⟨kq,ah,ai,aj,ak,kc⟩:=(U f m).out;refine⟨167,#[.agg #[.bool s1,.slice x1 m1 d1,.bool false,.slice y1 g1 h1],v2],by go_simp,(R.out f (y.trans m) v2 _ i2 ay.out).mono ?_⟩;rintro e w' ⟨s',a',n',c',b',m',d',rfl,aa,bG,bE,bD⟩;exact⟨_,rfl,aa,s',a',n',c',b',m',d',rfl,bG,bE,bD⟩
  case o12 =>
   exact AE rfl fun S f _ m _=>⟨_,_,Zh rfl S f,(Ext.refl f).alloc _,f.heap.size,rfl,m.size,Arr.new f _ _⟩
  case fin =>
   intro f m;rintro _ _;rintro _ ⟨sq,V,nq,cq,W,mq,dq,rfl,ax,b1,b5⟩;rintro _ ⟨Y,rfl,aU,a4⟩;change wpList _ _ _ _ _ _;simp only[lq,lw,lx,lz,Act.put,lj,lk,ly];have bC:(Al sq V nq cq false W mq dq).toArray=#[.bool sq,.slice V nq cq,.bool false,.slice W mq dq]:=rfl
   go_upto_region 8 with(refine Aa (vs:=Al sq V nq cq false W mq dq) rfl rfl rfl rfl rfl By a4 rfl (Aq _ _ _ _ _ _ _ _) ?_;intro w4 aF a6)
   have o:Ext T w4:=m.grownR a6 aU;have a3:=E.ext o;have aY:=b1.keptA a4 (by decide) a6;have b3:=b5.keptA a4 (by decide) a6;have bd:=qh (a7.out.ext o);have bl:=aJ.trans o;have bw:Y≠G:=by omega
   have bN:G<w4.heap.size:=by have:=o.size;omega
   have b6:=o.cell a5;have bA:=a3.frozenAt I;have bH:IntKind.i64.wrap (X-1)=X-1:=gI _ (by omega);have ae:∀ g,some G=some g->∃ cs t fr,w4.heap[g]?=some (.cells cs t fr)/\241≠t:=fun g hg=>by obtain⟨cs,fr,h1⟩:=Own.ty a3 g hg;exact⟨cs,_,fr,h1,by decide⟩
   clear a4 bC a6 aU q1 r0 r1 r2 r3 a5 b1 b5 bF R m a7 ay E
   go_upto_region 9 with(fail)
   have ac:=Ar w4 G I (.int .i64 (X-1));have bs:Za (w4.setCell ⟨G,I,none⟩ (.int .i64 (X-1))) wr.heap.size (some ⟨G,0,none⟩) q Z (J.set I (X-1)):=by
    have h9:=a3.stored I (.int .i64 (X-1));unfold Za;rw[mw];exact h9
   have ab:Ext wr (w4.setCell ⟨G,I,none⟩ (.int .i64 (X-1))):=(y.trans o).setCell (by show wr.heap.size<=G;omega) _;have aZ:=aY.kept ac ae;have b4:=b3.kept ac ae;have K:=aF.far (p:=⟨G,I,none⟩) bw (.int .i64 (X-1));have be:=qh (HO.out.ext ab);have aI:=hE.trans ab;clear ac ae a3 aY b3 aF bd o bl b6 bA bH ab HO y;generalize w4.setCell ⟨G,I,none⟩ (.int .i64 (X-1))=w5 at *
   have z0:=K.c 0 rfl;have z1:=K.c 1 rfl;have z2:=K.c 2 rfl;have z3:=K.c 3 rfl;have L:Ext w5 (w5.alloc (.cells #[.bool sq,.slice V nq cq,.bool false,.slice W mq dq,.slice (some ⟨G,0,none⟩) q Z] 103)):=(Ext.refl w5).alloc _;have bv:TC w5 b0 (tL sq V nq cq W mq dq (some ⟨G,0,none⟩) q Z) (J.set I (X-1),u.2*(X:Rat)):=⟨sq,V,nq,cq,W,mq,dq,_,_,_,rfl,ax,aZ,b4,Vh bs⟩
   have bn:Arr (w5.alloc (.cells #[.bool sq,.slice V nq cq,.bool false,.slice W mq dq,.slice (some ⟨G,0,none⟩) q Z] 103)) w5.heap.size 103 (tL sq V nq cq W mq dq (some ⟨G,0,none⟩) q Z):=Arr.new w5 103 (tL sq V nq cq W mq dq (some ⟨G,0,none⟩) q Z);obtain⟨bT,hK,bp,bo⟩:=be.out;have aK:=hK.ext L;have hL:=BT (k:=5) bn rfl;have b9:=(aI.trans L).size;clear K aZ b4 ax
   go_wp2_with(first | (refine Tg rfl rfl GE rfl rfl ?_) | (refine Vd rfl rfl underlying42 B8 rfl ?_) | (refine Dn rfl rfl underlying42 B8 rfl aK rfl hL (by intro r hr v hv;rw[gL.1 hr]at hv;exact FM v hv) (by unfold maxLen;omega) (by omega) b9 ?_;intro a8 c8 w8 bt aS bQ))
   have av:=TO.grow aK bp (fun j hj=>(bo j hj).ext L) (bv.ext L) (gJ hw aG.size) bt aS;rw[<-HN.out]at av;have bm:Ext w0 w8:=(aI.trans L).grown aS (fun g hg=>(hK.lt hg).1);have P:=ar.out;go_roundw
   case rel=>exact⟨k+1,no+1,a8,c8,rfl,by go_num,by omega,by omega,bm,qh av⟩
   case measure=>simp[intOf];omega
end Go.Proofs.YtlbmnokpiilfpaaGreatDoor
