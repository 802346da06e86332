/- Part PqABx1. -/
import Derived.Test.YtlbmnokpiilfpaaGreatDoorPq31
import Derived.Test.YtlbmnokpiilfpaaGreatDoorPqABCx1

set_option linter.all false
set_option maxRecDepth 100000
set_option maxHeartbeats 100000000
namespace Go.Proofs.YtlbmnokpiilfpaaGreatDoor
open Tryz Go Go.RowKit
variable {va vars:Int} {N b0 c k n:Nat} {A:Option Addr} {q:Rat} {w:World}
theorem SU(w:World)(base:Nat)(e:TypeId)(k:Nat)(a:base<=w.heap.size):AR (w.alloc (.cells #[] e)) base e k (some ⟨w.heap.size,0,none⟩) 0 0 []:=by
 have h:=oF (base:=base) (e:=e) (size:=k) w #[] 0 a (gO _) (by simp);exact⟨(fun _ h=>by cases h),h⟩
theorem UJ{l:List Pl.Tm}(a:k<l.length):Pl.scl q (l.take k) ++ [((l.getD k tz).1,q*(l.getD k tz).2)]=Pl.scl q (l.take (k+1)):=by
 unfold Pl.scl;rw[gM a,iJ,gqq,gD a];rfl
theorem TB.scl_{a:List Pl.Tm}(b:TB N a)(q:Rat):TB N (Pl.scl q a):=fun t d=>by
 obtain⟨s,c,rfl⟩:=ie.1 d;exact b s c
theorem K3(hN:N<=12){va vb:Int}{a b:Option Addr}{n c m d:Nat}{la lb:List Pl.Tm}{v:Value}{q:Rat}{w:World}(ha:TSl w b0 a n c la)(hq:QV w v q)(hb:TSl w b0 b m d lb)(ba:TB N la)(bb:TB N lb)(hw:b0<=w.heap.size)(hn:n<=10000)(hm:m<=10000)(rq:Pl.RB 1000000 q)(rb:∀ t∈lb,Pl.RB 1000000 t.2)(hs:Pl.SubOK (la ++ Pl.scl q lb)) :
 Calls prog 119 #[.agg (pL va a n c).toArray,v,.agg (pL vb b m d).toArray] w (OM w b0 va N (la ++ Pl.scl q lb)):=by
 have G:=ha.len;have P:=hb.len;obtain⟨sq,xq,I,cq,yq,mq,dq,rfl,aG,b4,b5⟩:=hq
 go_enter func119,ntmps119
 go_upto_region 1 with(fail)
 refine V9 ?_;intro K M W E a5 a6 b6;have aW:Arr K (w.heap.size+3) 44 (pL 0 none 0 0):=a6;have p0:=W.c 0 rfl;have p1:=W.c 1 rfl;have u0:=E.c 0 rfl;have u1:=E.c 1 rfl;have u2:=E.c 2 rfl;have u3:=E.c 3 rfl;have v1:=a5.c 1 rfl;clear W E a5 a6 b6;have aX:=ha.ext M;obtain⟨ra,X,_,Y⟩:=aX;have H:ra.length=n:=X.len;have z:=(Ext.refl K).alloc (.cells #[] 103);have O:=SU K K.heap.size 103 5 (lrf _);have A:=X.ext z;have H1:=OQ H Y;have T:=z.size;have q1:=z.cell p1;have a3:=qh Y;clear Y ha
 go_upto_region 2 with(refine OP rfl rfl underlying42 B8 rfl O rfl A H1 (by unfold maxLen;omega) (by omega) T ?_;intro a7 c7 w7 ab Z aY)
 have a9:Ext K w7:=z.grown Z (fun k hk=>(O.lt hk).1);have V:=TO.app (l:=[]) O rfl (fun i hi=>absurd hi (by omega)) G H (fun i hi=>(a3.out i hi).ext z) (gJ hw M.size) ab Z;rw[jo,iz]at V;have HO:=qh V;clear O A H1 ab Z aY z X a3 H T V q1
 try simp only[iz]
 go_wp2
 go_loopw[7,8] (fun lv iv wr=>∃ (k:Nat) (ao:Option Addr) (co:Nat),lv = .slice ao (n+k) co/\iv = .int .i64 k/\k<=m/\Ext K wr/\Hid (TO wr b0 K.heap.size ao (n+k) co (la ++ Pl.scl q (lb.take k)))) (fun _ iv _=>m-(intOf iv).toNat)
 case atStart=>exact⟨0,a7,c7,by go_num,by go_num,gO _,a9,by rw[jw];show Hid (TO w7 b0 K.heap.size a7 (n+0) c7 (la ++ []));rw[jL];exact HO⟩
 case round =>
  clear HO a9;obtain⟨k,ao,co,rfl,rfl,hk,J,HO⟩:=hrel;have C:=M.trans J;have b8:=J.cell v1;by_cases D:k<m
  case neg =>
   have az:¬ (k:Int)<m:=by omega
   have aZ:k=m:=by omega
   have hT:TO wr b0 K.heap.size ao (n+k) co (la ++ Pl.scl q lb):=by
    have h1:=HO.out;rw[gG (by omega)]at h1;exact h1
   have ak:=qh (EL (N:=N) (b0:=b0) hN (vars:=va) hT.sl (ba.app (bb.scl_ q)) (gJ hw C.size) (by omega) hs);have bf:=J.cell p0;have hR:=aW.ext J;have aC:=qh hw;clear HO hT hs aZ G P ba bb
   go_wp2_with fail
   refine ak.out.mono ?_;rintro e w1 ⟨a1,n1,c1,b7,rfl,z,aU,aj,Q,ae⟩;have ac:=hR.ext z;have HX:=qh Q;have HY:=qh ae;have aF:=qh aj;clear ak Q ae aj hR
   go_wp2_with(refine Aa (vs:=pL va a1 n1 c1) rfl rfl rfl rfl rfl AJ ac rfl (AT _ _ _ _) ?_;intro w9 aO ah)
   exact gF (Ap rfl AJ rfl aO) rfl ⟨a1,n1,c1,b7,rfl,(C.trans z).grownR ah (by omega),(aU.keptA ac (by decide) (by decide) (by decide) (by have:=aC.out;omega) ah).mono C.size,aF.out,HX.out,HY.out⟩
  have az:(k:Int)<m:=by omega
  have F:k<lb.length:=by omega
  obtain⟨o,y,b9,s1,x1,m1,d1,y1,g1,h1,a4,ay,f1,rfl,A,s,a2,ai,af,al⟩:=(hb.ext C).row D;have aJ:wr.cell? ⟨o,y+k*5,none⟩=some (.bool s1):=by have:=A.cl D (j:=0) (by omega);rw[s]at this;exact this
  have aK:wr.cell? ⟨o,y+k*5+1,none⟩=some (.slice x1 m1 d1):=by have:=A.cl D (j:=1) (by omega);rw[s]at this;exact this
  have aL:wr.cell? ⟨o,y+k*5+2,none⟩=some (.bool false):=by have:=A.cl D (j:=2) (by omega);rw[s]at this;exact this
  have aM:wr.cell? ⟨o,y+k*5+3,none⟩=some (.slice y1 g1 h1):=by have:=A.cl D (j:=3) (by omega);rw[s]at this;exact this
  have aN:wr.cell? ⟨o,y+k*5+4,none⟩=some (.slice a4 ay f1):=by have:=A.cl D (j:=4) (by omega);rw[s]at this;exact this
  have aH:=qh (UJ (q:=q) F);have S:lb.getD k tz∈lb:=im (getD_some F);have aA:=qh (fun(wy:World) (f:Ext wr wy)=>KH (v := .agg #[.bool sq,.slice xq I cq,.bool false,.slice yq mq dq]) (p:=q) ⟨sq,xq,I,cq,yq,mq,dq,rfl,aG,(b4.ext C).ext f,(b5.ext C).ext f⟩ (v' := .agg #[.bool s1,.slice x1 m1 d1,.bool false,.slice y1 g1 h1]) (q:=(lb.getD k tz).2) ⟨s1,x1,m1,d1,y1,g1,h1,rfl,a2,ai.ext f,af.ext f⟩ rq (rb _ S));have aI:=qh al;have aD:=qh P;have aE:=qh G;generalize lb.getD k tz=t at *
  have c0:=J.cell u0;have c1:=J.cell u1;have c2:=J.cell u2;have c3:=J.cell u3;clear A s S ai af al a2 P G F
  go_upto_region 5 with(fail)
  have U:=fun(B:World) (f:Ext wr B)=>qh (And.intro (f.cell c0) (And.intro (f.cell c1) (And.intro (f.cell c2) (And.intro (f.cell c3) (And.intro (f.cell aJ) (And.intro (f.cell aK) (And.intro (f.cell aL) (And.intro (f.cell aM) (And.intro (f.cell aN) (f.cell b8))))))))))
  refine Ab (by kernel_rfl) (fun B=>Ext wr B)
   [he (.slice ao (n+k) co),
 he (.agg #[.bool sq,.slice xq I cq,.bool false,.slice yq mq dq]),
 he (.pointer (some ⟨(w.heap.size+2),1,none⟩)),
 he (.slice (some ⟨o,y,none⟩) m d),
 he (.int .i64 (k:Int)),
 he (.pointer (some ⟨o,(y+k*5),none⟩)),
 he (.pointer (some ⟨o,(y+k*5),none⟩)),
 he (.agg #[.bool s1,.slice x1 m1 d1,.bool false,.slice y1 g1 h1]),
 hp (fun v B=>QV B v (q*t.2)),
 he (.pointer (some ⟨(w.heap.size+2),1,none⟩)),
 he (.slice (some ⟨o,y,none⟩) m d),
 he (.int .i64 (k:Int)),
 he (.pointer (some ⟨o,(y+k*5),none⟩)),
 he (.pointer (some ⟨o,((y+k*5)+4),none⟩)),
 he (.slice a4 ay f1),
 hp (fun v B=>Hc B b0 v (t.1,q*t.2)),
 hp (fun v B=>KL B b0 v (t.1,q*t.2))]
   (by kernel_rfl) (fun _ _ e h=>h.trans e) ((Ext.refl wr).drew) ⟨trivial,trivial,trivial,trivial,trivial,trivial,trivial,trivial,fun v w w' e h=>QV.ext h e,trivial,trivial,trivial,trivial,trivial,trivial,Hc.x _ _,KL.x _ _,trivial⟩ ⟨?o0,?o1,?o2,?o3,?o4,?o5,?o6,?o7,?o8,?o9,?o10,?o11,?o12,?o13,?o14,?o15,?o16,trivial⟩ ?fin
  case o0 | o4 | o11=>exact omv
  case o1 | o7=>exact ol4
  case o2 | o9=>exact ofa (d:=1)
  case o3 | o10 | o14=>exact ol
  case o6=>exact ofa (d:=0)
  case o13=>exact ofa (d:=4)
  case o5 =>
   refine Aj rfl fun L B f R h => ?_;have e0:L (.tmp 23)=(.slice (some ⟨o,y,none⟩) m d):=h.1;have e1:L (.tmp 24)=(.int .i64 (k:Int)):=h.2.1;obtain⟨am,an,ap,aq,ar,au,av,aw,ax,kv⟩:=(U B f).out;go_simp
   try (first | (intros;omega) | exact gI _ (by omega))
  case o8 =>
   refine Ag rfl fun L B f R be h => ?_;have e1:L (.tmp 21)=(.agg #[.bool sq,.slice xq I cq,.bool false,.slice yq mq dq]):=h.2.1;have e2:L (.tmp 27)=(.agg #[.bool s1,.slice x1 m1 d1,.bool false,.slice y1 g1 h1]):=h.2.2.1;obtain⟨am,an,ap,aq,ar,au,av,aw,ax,kv⟩:=(U B f).out;refine⟨167,#[.agg #[.bool sq,.slice xq I cq,.bool false,.slice yq mq dq],.agg #[.bool s1,.slice x1 m1 d1,.bool false,.slice y1 g1 h1]],by go_simp,(aA.out B f).mono ?_⟩;rintro e w' ⟨s',a',n',c',b',m',d',rfl,aP,b3,b2,b1⟩;exact⟨_,rfl,aP,s',a',n',c',b',m',d',rfl,b3,b2,b1⟩
  case o12 =>
   refine Aj rfl fun L B f R h => ?_;have e0:L (.tmp 30)=(.slice (some ⟨o,y,none⟩) m d):=h.1;have e1:L (.tmp 31)=(.int .i64 (k:Int)):=h.2.1;obtain⟨am,an,ap,aq,ar,au,av,aw,ax,kv⟩:=(U B f).out;go_simp
   try (first | (intros;omega) | exact gI _ (by omega))
  case o15 =>
   refine WD rfl rfl GE ?_;rintro L B hp f ⟨⟨v0,e0,i0⟩,h1,-⟩;exact⟨by rw[e0];exact i0,_,_,_,h1,aI.out.ext f⟩
  case o16 =>
   refine Ui rfl rfl underlying42 B8 ?_;rintro L B hp f ⟨⟨v0,e0,i0⟩,-⟩;rw[e0];exact i0
  case fin =>
   intro B f;rintro _ _;rintro _ _;rintro _ ⟨g9,bc,rfl,aR,ad⟩;change wpList _ _ _ _ _ _;simp only[lq,lw,lx,lz,Act.put,lj,lk,ly];obtain⟨bg,hK,aT,aS⟩:=HO.out;have aa:=hK.ext f;obtain⟨h5,h6⟩:=ad.five;have hL:=BT (k:=5) aR h5;have aB:=(J.trans f).size
   go_wp2_with(refine Dn rfl rfl underlying42 B8 rfl aa rfl hL (by intro r hr u hu;rw[gL.1 hr]at hu;exact h6 u hu) (by unfold maxLen;omega) (by omega) aB ?_;intro a8 c8 w8 aV ag bd)
   have a0:=TO.grow aa aT (fun j hj=>(aS j hj).ext f) ad (gJ hw M.size) aV ag;rw[iQ,aH.out]at a0;have aQ:Ext K w8:=(J.trans f).grown ag (fun g hg=>(hK.lt hg).1);have P:=aD.out;have G:=aE.out;go_roundw
   case rel=>exact⟨k+1,a8,c8,by go_num,by go_num,by omega,aQ,qh a0⟩
   case measure=>simp[intOf];omega
theorem Dy{ts:List Tx}(h:AH w A n c ts)(v:∀ t∈ts,t.1.length<=10000) :
 Calls prog 28 #[.agg #[.int .i64 vars,.slice A n c]] w fun e G=>e = .returned (.bool (rdR vars ts).isSome)/\Ext w G:=by
 obtain⟨o,r⟩:∃ o,rdR vars ts=o:=⟨_,rfl⟩;rw[r]
 go_enter func28,ntmps28
 go_upto_region 1 with(fail)
 refine AP ?_;intro H g a D;have E:=a.c 0 rfl;have F:=a.c 1 rfl;have d:=qh (Bv (vars:=vars) h g v);rw[r]at d;clear a h v r
 go_wp2_with fail
 refine d.out.mono ?_;rintro e y ⟨k,s,l,rfl,m,p⟩;obtain⟨j,i⟩:∃ j,(if o.isSome=true then vars else 0)=j:=⟨_,rfl⟩;rw[i];have B:=Arr.new y 44 (pL 0 none 0 0);obtain⟨x,b⟩:∃ x,o.isSome=x:=⟨_,rfl⟩;rw[b];have f:=qh b;have C:(pL j k s l).toArray=#[.int .i64 j,.slice k s l]:=rfl;clear d p b i E F
 go_wp2_with(refine Aa (vs:=pL j k s l) rfl rfl rfl rfl rfl AJ B rfl (AT _ _ _ _) ?_;intro I z q)
 go_ret;exact⟨by rw[f.out];rfl,(g.trans m).trans (((Ext.refl y).alloc _).grownR q (lrf _))⟩
theorem Qr{ts:List Tx}{l:List Pl.Tm}(h:rdR va ts=some l):TB va.toNat l:=fun t a=>by
 have h1:=AU h;refine⟨(Dk h).len t a,?_⟩;rw[h1.1]at a;obtain⟨s,c,rfl⟩:=ie.1 a;obtain⟨i,b,rfl⟩:=kP c;have h2:=h1.2.2.2.2.1 i b;rw[gqq,gD b,gP]at h2;intro x d;have:=(CU h2).2 x d;omega
end Go.Proofs.YtlbmnokpiilfpaaGreatDoor
