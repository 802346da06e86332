/- Part PaRau. -/
import Derived.Test.YthdbingomfdeoaaGreatDoorPaRsy
import Derived.Test.YthdbingomfdeoaaGreatDoorPa14

set_option linter.all false
set_option maxRecDepth 100000
set_option maxHeartbeats 100000000
namespace Go.Proofs.YthdbingomfdeoaaGreatDoor
open Tryz Go Go.RowKit
variable {va:Int} {r s:List (List Value)} {N base c n:Nat} {a a1 a2:Option Addr} {w:World}
theorem Tz(e:TypeId)(k:Nat)(a:base<=w.heap.size):AE (w.alloc (.cells #[] e)) base e k (some ⟨w.heap.size,0,none⟩) 0 0 [] :=
 ⟨fun _ h=>(by cases h),by simp,.inr ⟨w.heap.size,0,#[],rfl,a,ji w _,lrf _,f8 _,by simp,by simp⟩⟩
theorem PRO.prs{b0:Nat}{ls:List (Int×List Pl.Tm)}(h:PRO w b0 base a n c ls)(o:∀ p∈ls,p.1=(N:Int)):PRs w b0 N a n c (ls.map (·.2)):=by
 obtain⟨e,h1,h2,h3⟩:=h;refine⟨e,h1.slk (by omega),by rw[ft,h2],fun i l => ?_⟩;obtain⟨A,m,d,g,j⟩:=h3 i l;have b:i<ls.length:=by omega
 have f:ls.getD i PRz=ls[i]:=by simp[b]
 have k:(ls.map (·.2)).getD i []=ls[i].2:=by simp[b]
 rw[f,o _ (fu _)]at g;rw[f]at j;exact⟨A,m,d,g,by rw[k];exact j.sl⟩
def PRv(rows:List (List Value))(ls:List (Int×List Pl.Tm)):Prop:=rows.length=ls.length/\∀ i,i<ls.length->∃ A m d,rows.getD i []=pL (ls.getD i PRz).1 A m d
theorem PRv.app{P Q:List (Int×List Pl.Tm)}(h:PRv r P)(k:PRv s Q):PRv (r ++ s) (P ++ Q):=by
 refine⟨by rw[ff,ff,h.1,k.1],fun i d => ?_⟩;rw[ff]at d;by_cases a:i<P.length
 · have b:(r ++ s).getD i []=r.getD i []:=by simp[f4,h.1,a]
   have c:(P ++ Q).getD i PRz=P.getD i PRz:=by simp[f4,a]
   rw[b,c];exact h.2 i a
 · have b:(r ++ s).getD i []=s.getD (i-P.length) []:=by rw[gqq,fF (by rw[h.1];omega),h.1,<-gqq]
   have c:(P ++ Q).getD i PRz=Q.getD (i-P.length) PRz:=by rw[gqq,fF (by omega),<-gqq]
   rw[b,c];exact k.2 _ (by omega)
theorem PRv.one_{P:List (Int×List Pl.Tm)}(h:PRv r P):∀ x∈r,∀ u∈x,u.oneCell'=true:=fun x b=>by
 obtain⟨i,a,rfl⟩:=fR b;obtain⟨A,m,d,h1⟩:=h.2 i (by have:=h.1;omega);have e:r.getD i []=r[i]:=by simp[a]
 rw[e]at h1;rw[h1];exact AX _ _ _ _
theorem PRO.rows{w:World}{b0 base:Nat}{a:Option Addr}{n c:Nat}{ls:List (Int×List Pl.Tm)}(h:PRO w b0 base a n c ls):∃ b,SlK w 2 a n c b/\PRv b ls/\n=ls.length:=by
 obtain⟨b,h1,h2,h3⟩:=h;have h4:=h1.slk (by omega);exact⟨b,h4,⟨by rw[h4.len,h2],fun i f=>by obtain⟨A,m,d,e,_⟩:=h3 i (by omega);exact⟨A,m,d,e⟩⟩,h2.symm⟩
theorem CN{ps:List (Int×List Tx)}:(rdAllR ps).isSome=true<->∀ p∈ps,(rdP p.1 p.2).isSome=true:=by
 unfold rdAllR;constructor
 · intro h p hp;split at h
   · rename_i h1;rw[<-BV];exact h1 p hp
   · cases h
 · intro h;rw[fE fun p hp=>by rw[BV];exact h p hp];rfl
theorem Jr{ps:List (Int×List Tx)}(h:(rdAllR ps).isSome=true):(rdAllR ps).getD []=ps.map fun p=>(p.1,unR p.2):=by
 have h1:=CN.1 h;unfold rdAllR;rw[fE fun p hp=>by rw[BV];exact h1 p hp];rfl
theorem TA{ts:List Tx}(h:(rdR va ts).isSome=true):(rdR va ts).getD []=unR ts:=by
 obtain⟨l,a⟩:=gD.1 h;rw[a];exact LF a
theorem UK{ts:List Tx}(h:(rdP (N:Int) ts).isSome=true)(b:ts.length<=100)(c:∀ t∈ts,t.1.length<=12):ShP N (unR ts):=by
 rw[<-BV]at h;obtain⟨l,a⟩:=gD.1 h;have e:unR ts=l:=(LF a).symm;refine⟨?_,by unfold unR;rw[ft];exact b,?_,?_⟩
 · rw[e];exact J0 a
 · rw[e];exact T5 a c
 · rw[e];exact T4 a
theorem Sf{ts:List Tx}{ps qs:List (Int×List Tx)}(h:(rdR va ts).isSome=false\/(rdAllR ps).isSome=false\/(rdAllR qs).isSome=false):autR va ts ps qs=([],1):=by
 classical
 unfold autR;rw[fl];intro H;rcases h with h|h|h
 · have:=H (va,ts) (List.mem_cons_self ..);rw[<-BV]at this;rw[this]at h;cases h
 · have:(rdAllR ps).isSome=true:=CN.2 fun p hp=>H p (fX _ (List.mem_append_left _ hp));rw[this]at h;cases h
 · have:(rdAllR qs).isSome=true:=CN.2 fun p hp=>H p (fX _ (List.mem_append_right _ hp));rw[this]at h;cases h
theorem Fd{m n1 c1 n2 c2:Nat}{ts:List Tx}{ps qs:List (Int×List Tx)}(hp:CS w a m c ts)(h1:PSl w a1 n1 c1 ps)(h2:PSl w a2 n2 c2 qs)(sp:∀ p∈(va,ts) :: (ps ++ qs),p.2.length<=100/\∀ t∈p.2,t.1.length<=12)(b1:n1<=10)(b2:n2<=10)(hv:va<=4\/6<va) :
 Calls prog 9 #[.agg #[.int .i64 va,.slice a m c],.slice a1 n1 c1,.slice a2 n2 c2] w (Er w (autR va ts ps qs).1 (autR va ts ps qs).2):=by
 classical
 obtain⟨rs,an⟩:∃ r,autR va ts ps qs=r:=⟨_,rfl⟩;have J:=qh an;rw[an];have aA:=qh sp;have b0:ps.length=n1:=by obtain⟨_,_,h,_⟩:=h1;exact h
 have b3:qs.length=n2:=by obtain⟨_,_,h,_⟩:=h2;exact h
 have W:=qh (And.intro b0 b3);have ax:∀ t∈ts,t.1.length<=10000:=fun t ht=>by have:=(sp (va,ts) (List.mem_cons_self ..)).2 t ht;omega
 have ay:∀ p∈ps,∀ t∈p.2,t.1.length<=10000:=fun p hp t ht=>by have:=(sp p (fX _ (List.mem_append_left _ hp))).2 t ht;omega
 have az:∀ p∈qs,∀ t∈p.2,t.1.length<=10000:=fun p hp t ht=>by have:=(sp p (fX _ (List.mem_append_right _ hp))).2 t ht;omega
 have am:=qh (fun(wx:World) (hC:Ext w wx)=>Iu (vars:=va) hp hC ax);have T:=qh (fun(wx:World) (hC:Ext w wx)=>Fr h1 hC ay (by omega));have U:=qh (fun(wx:World) (hC:Ext w wx)=>Fr h2 hC az (by omega));obtain⟨o1,ag⟩:∃ o,rdR va ts=o:=⟨_,rfl⟩;obtain⟨o2,ah⟩:∃ o,rdAllR ps=o:=⟨_,rfl⟩;obtain⟨o3,ai⟩:∃ o,rdAllR qs=o:=⟨_,rfl⟩;rw[ag]at am;rw[ah]at T;rw[ai]at U;have I:=qh (And.intro ag (And.intro ah ai));clear sp b0 b3 ax ay az ag ah ai hp h1 h2 an
 go_enter func9,ntmps9
 go_upto_region 1 with(fail)
 refine AK ?_;intro w0 aF a8 bo;have p0:=a8.c 0 rfl;have p1:=a8.c 1 rfl;clear a8 bo
 go_wp2_with fail
 refine(am.out w0 aF).mono ?_;rintro e w1 ⟨A1,M1,D1,rfl,aG,aI⟩;have aq:=aF.trans aG;obtain⟨v1,ap⟩:∃ v,(if o1.isSome then va else 0)=v:=⟨_,rfl⟩;rw[ap];have bg:=qh ap;have hY:=Arr.new w1 65 (pL 0 none 0 0);clear am p0 p1 aG ap
 go_upto_region 2 with(refine Aa (vs:=pL v1 A1 M1 D1) rfl rfl rfl rfl rfl Av hY rfl (AX _ _ _ _) ?_;intro w2 a9 aV)
 have ab:Ext w1 w2:=((Ext.refl w1).alloc _).grownR aV (lrf _);obtain⟨X,hX⟩:∃ x,w1.heap.size=x:=⟨_,rfl⟩;rw[hX]at a9 |-;have B:=aq.trans ab;have aQ:=aI.ext ab;clear hY aV hX ab aI aq
 go_wp2_with fail
 refine(T.out w2 B).mono ?_;rintro e w3 ⟨x1,k1,d1,rfl,Z,aJ⟩;have C:=B.trans Z;have aR:=aQ.ext Z;have aD:=a9.ext Z;have ar:=aJ.mono B.size;clear T Z aQ a9 B aJ
 go_wp2_with fail
 refine(U.out w3 C).mono ?_;rintro e w4 ⟨x2,k2,d2,rfl,O,aK⟩;have f:=C.trans O;have ad:=aR.ext O;have aE:=aD.ext O;have s:=ar.ext O;have y:=aK.mono C.size;clear U O aR aD C aK ar;obtain⟨q1,aj⟩:∃ b,o1.isSome=b:=⟨_,rfl⟩;obtain⟨q2,ak⟩:∃ b,o2.isSome=b:=⟨_,rfl⟩;obtain⟨q3,al⟩:∃ b,o3.isSome=b:=⟨_,rfl⟩;rw[aj,ak,al];have V:=qh (And.intro aj (And.intro ak al));clear aj ak al
 have z:Hid ((q1=false\/q2=false\/q3=false)->rs=([],1)):=qh (fun h=>by
  rw[<-J.out];refine Sf ?_;rw[I.out.1,I.out.2.1,I.out.2.2,V.out.1,V.out.2.1,V.out.2.2]
  exact h)
 cases q1 with
 | false =>
  have HZ:=qh (z.out (.inl rfl));clear z;go_wp2
  go_ret2
  rw[HZ.out];exact Er.err f
 | true =>
 cases q2 with
 | false =>
  have HZ:=qh (z.out (.inr (.inl rfl)));clear z;go_wp2
  go_ret2
  rw[HZ.out];exact Er.err f
 | true =>
 cases q3 with
 | false =>
  have HZ:=qh (z.out (.inr (.inr rfl)));clear z;go_wp2
  go_ret2
  rw[HZ.out];exact Er.err f
 | true =>
 clear z
 have F:∀ p∈(va,ts) :: (ps ++ qs),(rdP p.1 p.2).isSome=true:=fun p hp=>by
  rcases fS.1 hp with rfl|h
  · rw[<-BV,I.out.1];exact V.out.1
  · rcases fo.1 h with h|h
    · exact CN.1 (by rw[I.out.2.1];exact V.out.2.1) p h
    · exact CN.1 (by rw[I.out.2.2];exact V.out.2.2) p h
 have a6:=qh F;have bn:∃ n:Nat,va=(n:Int):=by
  obtain⟨l,hl⟩:=gD.1 (F (va,ts) (List.mem_cons_self ..));exact⟨va.toNat,by have:=(FQ hl).1;omega⟩
 have bm:va<=6:=by
  obtain⟨l,hl⟩:=gD.1 (F (va,ts) (List.mem_cons_self ..));exact(FQ hl).2
 have H:v1=va:=by rw[<-bg.out,V.out.1];rfl
 subst H;obtain⟨N,rfl⟩:=bn;have be:N<=4:=by omega
 have e1:o1.getD []=unR ts:=by rw[<-I.out.1];exact TA (by rw[I.out.1];exact V.out.1)
 have e2:o2.getD []=ps.map fun p=>(p.1,unR p.2):=by rw[<-I.out.2.1];exact Jr (by rw[I.out.2.1];exact V.out.2.1)
 have e3:o3.getD []=qs.map fun p=>(p.1,unR p.2):=by rw[<-I.out.2.2];exact Jr (by rw[I.out.2.2];exact V.out.2.2)
 rw[e1]at ad;rw[e2]at s;rw[e3]at y;obtain⟨R1,aM,Q,aY⟩:=s.rows;obtain⟨R2,aN,R,aZ⟩:=y.rows;have b7:k1=n1:=by rw[aY,ft,W.out.1]
 have b8:k2=n2:=by rw[aZ,ft,W.out.2]
 subst b7 b8;obtain⟨G,hG⟩:∃ G,(ps.map fun p=>(p.1,unR p.2)) ++ (qs.map fun p=>(p.1,unR p.2))=G:=⟨_,rfl⟩;have bc:Hid (PRv (R1 ++ R2) G):=qh (by rw[<-hG];exact Q.app R);have a3:=qh (And.intro Q.one_ R.one_);have aH:G.length=k1+k2:=by rw[<-hG,ff,ft,ft,W.out.1,W.out.2]
 have HG:=qh (And.intro hG aH);have ac:=Tz (w:=w4) 65 2 (lrf _);have ae:Ext w4 (w4.alloc (.cells #[] 65)):=(Ext.refl w4).alloc _;have b9:=f.size;clear F bm e1 e2 e3 Q R aY aZ hG aH hv
 go_upto_region 7 with(first
  | (refine FI rfl rfl (by kernel_rfl) N6 rfl ac rfl (aM.ext ae) a3.out.1 (by unfold maxLen;omega) (by omega) (by simp) ?_;intro a5 c5 w5 P aW bh;have a0:Ext w4 w5:=ae.grown aW (fun g hg=>(ac.lt hg).1);rw[fP]at P;rw[iI]at P;rw[fP];have ba:=a0.size)
  | (refine FI rfl rfl (by kernel_rfl) N6 rfl P rfl (aN.ext a0) a3.out.2 (by unfold maxLen;omega) (by omega) (by omega) ?_;intro a7 c7 w7 aL aX bi))
 have i:Ext w4 w7:=a0.grown aX (fun g hg=>(P.lt hg).1);have L:=f.trans i;have aS:=ad.ext i;have aa:=aE.ext i;have au:=s.ext i;have av:=y.ext i;have aO:=aL.slk (by omega);have a4:=qh (And.intro aS (And.intro au av));have f0:=aa.c 0 rfl;have f1:=aa.c 1 rfl;clear P aW bh aL aX bi ac ae a0 ba aM aN a3 aS au av ad aE s y aa i f b9;go_wp2
 go_loopw[15] (fun iv wr=>∃ (k:Nat),iv = .int .i64 k/\k<=k1+k2/\Ext w7 wr/\Hid (∀ j,j<k->(G.getD j PRz).1=(N:Int))) (fun iv _=>k1+k2-(intOf iv).toNat)
 case atStart=>exact⟨0,rfl,f8 _,Ext.refl _,qh fun j hj=>absurd hj (by omega)⟩
 case round =>
  obtain⟨k,rfl,hk,K,HV⟩:=hrel;by_cases af:k<k1+k2
  · have aP:=aO.ext K;obtain⟨bq,bp,rfl,aU⟩:=aP.rd (by omega);obtain⟨A,m',d,aw⟩:=bc.out.2 k (by rw[HG.out.2];exact af);obtain⟨v',ao⟩:∃ v,(G.getD k PRz).1=v:=⟨_,rfl⟩;have g0:wr.cell? ⟨bq,bp+k*2,none⟩=some (.int .i64 v'):=by have:=aU k af 0 (by omega);rw[aw,ao]at this;exact this
    have g1:=K.cell f0;have aC:=qh ao;clear aU ao aw aP;by_cases H:v'=(N:Int)
    · have bb:Hid (∀ j,j<k+1->(G.getD j PRz).1=(N:Int)):=qh (fun j hj=>by
       by_cases bj:j<k
       · exact HV.out j bj
       · have:j=k:=by omega
         subst this;rw[aC.out]
         exact H)
      have b6:(v' != (N:Int))=false:=by simpa using H
      go_wp2
      go_quiet (fail)
      go_wp2;go_roundw
      case rel=>exact⟨k+1,by go_num,by omega,K.drewN _,bb⟩
      case measure=>simp[intOf];omega
    · have HZ:Hid (rs=([],4)):=qh (by
       rw[<-J.out];unfold autR;rw[fE a6.out,fl];intro h;have bk:k<G.length:=by rw[HG.out.2];exact af
       have D:∀ p∈G,p.1=(N:Int):=fun p hp=>by
        rw[<-HG.out.1]at hp;rcases fo.1 hp with h1|h1
        · obtain⟨q,S,rfl⟩:=fh.1 h1;exact h q (fX _ (List.mem_append_left _ S))
        · obtain⟨q,S,rfl⟩:=fh.1 h1;exact h q (fX _ (List.mem_append_right _ S))
       have h1:=D (G.getD k PRz) (by rw[gqq,eQ bk];exact fu _);rw[aC.out]at h1
       exact H h1)
      have b6:(v' != (N:Int))=true:=by simpa using H
      go_wp2
      go_quiet (fail)
      go_wp2
      go_ret2
      rw[HZ.out];exact Er.err (L.trans (K.drewN _))
  have bl:k=k1+k2:=by omega
  have Y:Hid (∀ p∈((N:Int),ts) :: (ps ++ qs),p.1=(N:Int)):=qh (fun p hp=>by
   have D:∀ p∈G,p.1=(N:Int):=fun p hp=>by
    obtain⟨j,hj,rfl⟩:=fR hp;have h1:=HV.out j (by rw[bl,<-HG.out.2];exact hj);rw[gqq,eQ hj]at h1;exact h1
   rcases fS.1 hp with rfl|h
   · rfl
   · rcases fo.1 h with h|h
     · exact D (p.1,unR p.2) (by rw[<-HG.out.1];exact List.mem_append_left _ (fh.2 ⟨p,h,rfl⟩))
     · exact D (p.1,unR p.2) (by rw[<-HG.out.1];exact List.mem_append_right _ (fh.2 ⟨p,h,rfl⟩)))
  have HR:Hid (rs=(symL N (unR ts) (ps.map fun p=>unR p.2) (qs.map fun p=>unR p.2),0)):=qh (by
   rw[<-J.out,TD (by omega)];unfold autR
   rw[fE a6.out,fE Y.out,jA])
  have E:∀ p∈((N:Int),ts) :: (ps ++ qs),ShP N (unR p.2):=fun p hp=>by
   have h1:=a6.out p hp;rw[Y.out p hp]at h1;exact UK h1 (aA.out p hp).1 (aA.out p hp).2
  have aT:=a4.out.1.ext K;have s:=(a4.out.2.1.prs (N:=N) (fun p hp=>by obtain⟨q,S,rfl⟩:=fh.1 hp;exact Y.out q (fX _ (List.mem_append_left _ S)))).ext K;have y:=(a4.out.2.2.prs (N:=N) (fun p hp=>by obtain⟨q,S,rfl⟩:=fh.1 hp;exact Y.out q (fX _ (List.mem_append_right _ S)))).ext K;rw[jY]at s y;have M:=L.trans K
  have b4:=qh (GU (L1:=ps.map fun p=>unR p.2) (L2:=qs.map fun p=>unR p.2) be aT.sl (E _ (List.mem_cons_self ..)) s y (fun l hl=>by obtain⟨q,S,rfl⟩:=fh.1 hl;exact E q (fX _ (List.mem_append_left _ S))) (fun l hl=>by obtain⟨q,S,rfl⟩:=fh.1 hl;exact E q (fX _ (List.mem_append_right _ S))) (by omega) (by omega) M.size);have y0:=K.cell f0;have y1:=K.cell f1;have aB:=qh M.size;clear E aT s y HV aO f0 f1 L K
  go_wp2_with fail
  refine b4.out.mono ?_;rintro e w9 ⟨b,kk,dd,rfl,bd,bf⟩;clear b4;go_wp2
  go_ret2
  rw[HR.out];obtain⟨b5,z1,z2,z3⟩:=bf;exact⟨b,kk,dd,b5,rfl,M.trans bd,z3,Own.mono z1 aB.out,z2.mono aB.out⟩
end Go.Proofs.YthdbingomfdeoaaGreatDoor
