/- Part GsLgs. -/
import Derived.Test.YthdbingomfdeoaaGreatDoorGs1
import Derived.Test.YthdbingomfdeoaaGreatDoorGsSyl

set_option linter.all false
set_option maxRecDepth 100000
set_option maxHeartbeats 100000000
namespace Go.Proofs.YthdbingomfdeoaaGreatDoor
open Tryz Go Go.RowKit
variable {err v vp:Int} {gs hs:List (List Int)} {g xs ys:List Int} {k:Nat} {a ag x y:Option Addr} {w:World}
theorem PSl.nil{w:World}:PSl w none 0 0 []:=⟨[],SlK.nil _ _,rfl,fun i a=>absurd a (by omega)⟩
section
variable {n:Nat} {gs:List (List Int)} {tp tm:List Tx} {lp lm:List Pl.Tm}
theorem VT(c:AvS n gs tm lp lm)(b:gs.length<=24)(o:n<=4)(hp:rdP (n:Int) tp=some lp)(h4:tp.length<=4):tm.length<=100:=by
 have d:=D0 c.G (Mq hp);have e:resQ (n:Int) (avP gs n lp)=((n:Int),tm,0):=c.r1;obtain⟨_,a⟩:=Mr (v:=(n:Int)) (p:=avP gs n lp) ⟨by omega,by omega⟩ (by rw[ix];exact d) (by rw[e]);rw[e]at a;simp only at a;have g:=fM List.length (JI a).1;have i:=fM List.length (JI hp).1;rw[TT,fq]at g i;have j:=G5 (p:=avP gs n lp) (fun t f=>(d t f).1);have k:=JG (gs:=gs) (n:=n) (l:=lp) b;have m:(avP gs n lp).length=(avT gs n (sumK gs n lp)).length:=by unfold avP;rw[fq]
 omega
theorem VU(a:AvS n gs tm lp lm):Pl.Canon n (unR tm):=by
 have h:=(Ps (va:=(n:Int)) (ts:=tm) (by rw[a.rm];rfl)).1
 rwa[ix]at h
theorem VV(a:AvS n gs tm lp lm)(b:n<5):autR (n:Int) tm [((n:Int),tm),((n:Int),tm)] []=(autL n [[unR tm],[unR tm,unR tm],[]],0):=by
 have h:∀ p∈((n:Int),tm) :: ([((n:Int),tm),((n:Int),tm)] ++ []),p=((n:Int),tm):=fun p hp=>by simpa using hp
 unfold autR;rw[fG (fun p hp=>by rw[h p hp,a.rm];rfl),fG (fun p hp=>by rw[h p hp]),ix];rfl
theorem XR(b:AvS n gs tm lp lm)(d:n<5):isG (autL n [[unR tm],[unR tm,unR tm],[]]) :=
 Xc d fun L a x c=>by
  have:x=unR tm:=by
   simp only[fV,ib,kx]at a;rcases a with rfl|rfl|rfl <;> simpa using c
  rw[this];exact VU b
theorem VW(a:AvS n gs tm lp lm)(c:n<5):∀ g∈gs,g∈autL n [[unR tm],[unR tm,unR tm],[]]:=fun g b =>
 VX c (a.G.p g b).1 (a.G.p g b).2 (Sr (by omega) (a.G.p g b).1 (a.G.p g b).2 a.rm (a.act g b))
theorem Sq:∀ n,n<5->(gen n (idn n)).length<=24:=by decide +kernel
theorem UI(n:Nat)(b:n<5)(a:List (List PLs)):(autL n a).length<=24:=ft (List.length_filter_le _ _) (Sq n b)
end
theorem UJ(a:k<hs.length):decide (g∈hs.take (k+1))=(decide (g∈hs.take k) || decide (g=hs.getD k [])):=by
 have e:(g∈hs.take (k+1))=(g∈hs.take k\/g=hs.getD k []):=by
  rw[ff a,fL,fi,gqq,eZ a];rfl
 rw[mr];simp only[gV,jW];exact iff_of_eq e
theorem K4{b q cg n c:Nat}{ts t:List Tx}{l:List Pl.Tm}(h:resQ (b:Int) ((avT gs b (sumK gs b l)).map Cr)=(v,t,err))(i:Bk w)(j:CP w a n c ts)(k:SlL w ag q cg gs)(G:GNs gs b)(m:rdP (b:Int) ts=some l)(sa:∀ t∈ts,t.1.length<=570)(d:Tf gs b l) :
 Calls prog 15 #[.slice ag q cg,.agg #[.int .i64 (b:Int),.slice a n c]] w (Xk w v t err) :=
 (La i k G.g G.p j m sa d).mono fun e o f=>by
  rw[h]at f;exact Mo.v f
theorem GL{nx cx ny cy na ca:Nat}{tp:List Tx}(hT:Bk w)(hx:SlI w x nx cx xs)(hy:SlI w y ny cy ys)(ha:CP w a na ca tp) :
 Calls prog 4 #[.slice x nx cx,.slice y ny cy,.agg #[.int .i64 vp,.slice a na ca]] w (UZ w):=by
 go_enter func4,ntmps4
 go_upto_region 1 with(fail)
 refine Bv ?_;intro w0 a3 al aH
 have s1:=JH (w:=w0) (cs:=#[.slice x nx cx,.slice y ny cy]) (xss:=[xs,ys]) (n:=2) rfl (by omega) rfl (by
  intro i hi;have:i=0\/i=1:=by omega
  rcases this with rfl|rfl
  · exact⟨_,_,_,rfl,hx.ext a3⟩
  · exact⟨_,_,_,rfl,hy.ext a3⟩)
 have l:=PBx.one a3 al ha;clear al aH ha
 go_wp2_with fail
 refine(UL s1).mono ?_;rintro e w1 ⟨rfl,rfl⟩;have hF:Ext w0 (w0.alloc (.cells #[.slice x nx cx,.slice y ny cy] 35)):=(Ext.refl w0).alloc _;replace l:=l.ext hF;clear hF s1;generalize w0.alloc (.cells #[.slice x nx cx,.slice y ny cy] 35)=w2 at *
 generalize [xs,ys].all (fun x=>decide (x.length<=20))=fw;cases fw with
 | false =>
  go_wp2_with fail
  refine Dn.mono ?_;rintro e aT ⟨rfl,hF⟩;go_wp2;go_ret;exact⟨rfl,l.e.trans hF⟩
 | true =>
  by_cases s1:Dv tp 4 6;rotate_left
  · obtain⟨E,L⟩:=l.c (i:=0) rfl;have r:=qh (Fm (va:=vp) (nt:=4) (d:=6) (l.t (i:=0) rfl));rw[fK s1]at r;clear s1
    go_wp2_with fail
    refine r.out.mono ?_;rintro e aU ⟨rfl,hF⟩;replace l:=l.ext hF;clear r hF E L
    go_wp2_with fail
    refine Dn.mono ?_;rintro e aV ⟨rfl,hF⟩;go_wp2;go_ret;exact⟨rfl,l.e.trans hF⟩
  obtain⟨E,L⟩:=l.c (i:=0) rfl;have r:=qh (Fm (va:=vp) (nt:=4) (d:=6) (l.t (i:=0) rfl));rw[gn s1]at r;have P:=qh s1;clear s1
  go_wp2_with fail
  refine r.out.mono ?_;rintro e aW ⟨rfl,hF⟩;replace l:=l.ext hF;clear r hF E L;obtain⟨E,L⟩:=l.c (i:=0) rfl;have r:=qh (Gs (vars:=vp) (hT.ext l.e) (l.t (i:=0) rfl) (NG P.out (by omega)));obtain⟨p,hp⟩:∃ o,rdP vp tp=o:=⟨_,rfl⟩;rw[hp]at r
  go_wp2_with fail
  refine r.out.mono ?_;rintro e aq ⟨rfl,hF⟩;replace l:=l.ext hF;clear r hF E L;cases p with
  | none =>
   simp only[mK]
   go_wp2_with fail
   refine Dn.mono ?_;rintro e aX ⟨rfl,hF⟩;go_wp2;go_ret;exact⟨rfl,l.e.trans hF⟩
  | some lp =>
   simp only[kJ];have Hp:=qh hp;clear hp;obtain⟨E,L⟩:=l.c (i:=0) rfl;by_cases c1:vp<1
   · go_wp2_with fail
     refine Dn.mono ?_;rintro e aY ⟨rfl,hF⟩;go_wp2;go_ret;exact⟨rfl,l.e.trans hF⟩
   by_cases c2:(4:Int)<vp
   · go_wp2_with fail
     refine Dn.mono ?_;rintro e aZ ⟨rfl,hF⟩;go_wp2;go_ret;exact⟨rfl,l.e.trans hF⟩
   obtain⟨n,rfl⟩:∃ k:Nat,vp=(k:Int):=⟨vp.toNat,by omega⟩;have n4:n<=4:=by omega
   have HX:=qh (fun(j:World) (D:Ext aq j)=>hx.ext (l.e.trans D));have HY:=qh (fun(j:World) (D:Ext aq j)=>hy.ext (l.e.trans D))
   go_upto_region 3 with(fail)
   clear c1 c2
   refine Ad
    [hdP w.heap.size 0,hdI n,hdS x nx cx,hdP w.heap.size 0,hdI n,hp (fun v j=>∃ F M A,v = .slice F n M/\SlI j F n M A/\Af A=true/\A.length=n),hdS y ny cy,hdP w.heap.size 0,hdI n,hp (fun v j=>∃ F M A,v = .slice F n M/\SlI j F n M A/\Af A=true/\A.length=n),hp (fun v j=>∃ F A B,v = .slice F 2 2/\SlL j F 2 2 [A,B]/\(Af A=true/\A.length=n)/\(Af B=true/\B.length=n)),hp (fun v j=>∃ s q z b,v = .tuple #[.slice s q z,.int .i64 0]/\SlL j s q z b/\GNs b n/\b.length∣24),hp (fun v j=>∃ s q z b,v = .tuple #[.slice s q z,.int .i64 0]/\SlL j s q z b/\GNs b n/\b.length∣24),hp (fun v j=>∃ s q z b,v = .slice s q z/\SlL j s q z b/\GNs b n/\b.length∣24),hp (fun v j=>v = .int .i64 0),hp (fun v j=>∃ s q z b,v = .slice s q z/\SlL j s q z b/\GNs b n/\b.length∣24),hdI 0]
    ⟨fun v w Z e ⟨F,M,A,J,K,O⟩=>⟨F,M,A,J,K.ext e,O⟩,fun v w Z e ⟨F,M,A,J,K,O⟩=>⟨F,M,A,J,K.ext e,O⟩,fun v w Z e ⟨F,A,B,J,K,O⟩=>⟨F,A,B,J,K.ext e,O⟩,fun v w Z e ⟨s,q,z,b,J,K,O⟩=>⟨s,q,z,b,J,K.ext e,O⟩,fun v w Z e ⟨s,q,z,b,J,K,O⟩=>⟨s,q,z,b,J,K.ext e,O⟩,fun v w Z e ⟨s,q,z,b,J,K,O⟩=>⟨s,q,z,b,J,K.ext e,O⟩,fun _ _ _ _ h=>h,fun v w Z e ⟨s,q,z,b,J,K,O⟩=>⟨s,q,z,b,J,K.ext e,O⟩,trivial⟩ ⟨?o0,?o1,?o2,?o3,?o4,?o5,?o6,?o7,?o8,?o9,?o10,?o11,?o12,?o13,?o14,?o15,?o16,trivial⟩ ?fin
   case o0 | o3 | o7=>exact ofa (d:=0)
   case o1 | o4 | o8=>exact ol
   case o2 | o6=>exact omv
   case o5 =>
    refine Ai rfl fun ρ j D C I h => ?_;have e1:_=_:=h.2.1;have e2:_=_:=h.2.2.1;refine⟨14,#[.slice x nx cx,.int .i64 (n:Int)],by go_simp,(Fq (HX.out j D) (by omega)).mono ?_⟩;rintro e Z ⟨F,M,A,rfl,Q,hA,pA,lA⟩;exact⟨_,rfl,Q,F,M,A,rfl,hA,pA,lA⟩
   case o9 =>
    refine Ai rfl fun ρ j D C I h => ?_;have e1:_=_:=h.2.1;have e2:_=_:=h.2.2.1;refine⟨14,#[.slice y ny cy,.int .i64 (n:Int)],by go_simp,(Fq (HY.out j D) (by omega)).mono ?_⟩;rintro e Z ⟨F,M,A,rfl,Q,hA,pA,lA⟩;exact⟨_,rfl,Q,F,M,A,rfl,hA,pA,lA⟩
   case o10 =>
    refine Bj rfl ?_;intro ρ j hp D h;have C:=hp.const;have I:=hp.func;obtain⟨v0,e0,a0,c0,A0,rfl,q0,r0,z0⟩:=h.1;obtain⟨v1,e1,a1,c1,A1,rfl,J,r1,z1⟩:=h.2.1;have kn:=D.cell E
    exact⟨.slice (some ⟨j.heap.size,0,none⟩) 2 2,j.alloc (.cells #[.slice a0 n c0,.slice a1 n c1] 35),by go_simp,(Ext.refl _).alloc _,_,A0,A1,rfl,JH (w:=j) (cs:=#[.slice a0 n c0,.slice a1 n c1]) (xss:=[A0,A1]) (n:=2) rfl (by omega) rfl (by
     intro i hi;have:i=0\/i=1:=by omega
     rcases this with rfl|rfl
     · exact⟨_,_,_,rfl,q0⟩
     · exact⟨_,_,_,rfl,J⟩),⟨r0,z0⟩,⟨r1,z1⟩⟩
   case o11 =>
    refine Ai rfl fun ρ j D C I h => ?_;have e1:_=_:=h.2.1;obtain⟨v2,e2,a2,A2,B2,rfl,K,r2,z2⟩:=h.2.2.1;obtain⟨b,aE,G,az⟩:=U8 n4 r2.1 z2.1 r2.2 z2.2;refine⟨13,#[.int .i64 (n:Int),.slice a2 2 2],by go_simp,(Ke K).mono ?_⟩;rw[show genS (n:Int) [A2,B2]=(b,0) from aE];rintro e Z ⟨s,q,z,rfl,Q,aA⟩;exact⟨_,rfl,Q,s,q,z,b,rfl,aA,G,az⟩
   case o12 =>
    refine Bj rfl ?_;intro ρ j hp D h;have C:=hp.const;have I:=hp.func;obtain⟨v0,e0,s,q,z,b,rfl,z1,z2,z3⟩:=h.1;exact⟨_,j,by go_simp,Ext.refl _,s,q,z,b,rfl,z1,z2,z3⟩
   case o13 =>
    refine Bj rfl ?_;intro ρ j hp D h;have C:=hp.const;have I:=hp.func;obtain⟨v0,e0,s,q,z,b,rfl,z1,z2,z3⟩:=h.1;exact⟨_,j,by go_simp,Ext.refl _,s,q,z,b,rfl,z1,z2,z3⟩
   case o14 =>
    refine Bj rfl ?_;intro ρ j hp D h;have C:=hp.const;have I:=hp.func;obtain⟨v0,e0,s,q,z,b,rfl,z1,z2,z3⟩:=h.1;exact⟨_,j,by go_simp,Ext.refl _,rfl⟩
   case o15 =>
    refine Bj rfl ?_;intro ρ j hp D h;have C:=hp.const;have I:=hp.func;obtain⟨v0,e0,s,q,z,b,rfl,z1,z2,z3⟩:=h.1;exact⟨_,j,by go_simp,Ext.refl _,s,q,z,b,rfl,z1,z2,z3⟩
   case o16 =>
    refine BB rfl fun ρ j D C h => ?_;obtain⟨v0,e0,rfl⟩:=h.1;have kn:=D.cell E;go_simp
   case fin =>
    intro j D;rintro _ ⟨_,_,_,rfl,_,_,_⟩;rintro _ ⟨_,_,_,rfl,_,_,_⟩;rintro _ ⟨_,_,_,rfl,_,_,_⟩;rintro _ ⟨_,_,_,_,rfl,_,_,_⟩;rintro _ ⟨_,_,_,_,rfl,_,_,_⟩;rintro _ ⟨_,_,_,_,rfl,_,_,_⟩;rintro _ rfl;rintro _ ⟨s,q,z,b,rfl,hG,a5,aa⟩;change wpList _ _ _ _ _ _;simp only[CB];have aP:=qh (And.intro a5 aa);have hq:b.length=q:=hG.len;have aS:0<q:=by rw[<-hq];exact a5.g.pos
    have aO:q<=24:=by rw[<-hq];exact kL (by omega) aa
    have ab:Dv tp 5 6:=⟨by have:=P.out.1;omega,P.out.2⟩;have h4:=P.out.1;obtain⟨tm,lm,T⟩:=avS a5 (by omega) n4 Hp.out ab;have ae:=qh (VT T (by omega) n4 Hp.out h4);have af:=qh (VV T (by omega));have ai:=qh (XR T (by omega));have ak:=qh (VW T (by omega));have aj:=qh (UI n (by omega) [[unR tm],[unR tm,unR tm],[]]);have HQ:=qh hq;clear hq h4;replace l:=l.ext D;have R:=hT.ext l.e;obtain⟨aw,ax⟩:=l.c (i:=0) rfl;have r:=qh (K4 T.r1 R (l.t (i:=0) rfl) hG T.G Hp.out (NG P.out (by omega)) T.o1)
    clear E L D HX HY
    go_wp2_with fail
    refine r.out.mono ?_;rintro e ar ⟨U,Y,V,rfl,hF,hO⟩;have hY:=Arr.new ar 24 (AF 0 none 0 0);clear r aw ax
    go_upto_region 5 with(refine UY rfl rfl rfl rfl hY rfl ?_;intro S hB hg)
    have a9:=(hG.ext hF).ext (((Ext.refl ar).alloc _).grownR hg (lrf _));replace l:=l.new hF hO hB hg;clear hY hB hg hF hO hG R;have R:=hT.ext l.e;obtain⟨aK,aL⟩:=l.c (i:=1) rfl;have H:Ext S (S.alloc (.cells #[.int .i64 (n:Int),.slice U Y V,.int .i64 (n:Int),.slice U Y V] 24)):=(Ext.refl _).alloc _
    have r:=qh (F6 (va:=(n:Int)) (R.ext H) ((l.t (i:=1) rfl).ext H) (PSl.two (Arr.new S 24 (AF (n:Int) U Y V ++ AF (n:Int) U Y V)) ((l.t (i:=1) rfl).ext H) ((l.t (i:=1) rfl).ext H)) PSl.nil (fun p hp=>by
     have:p=((n:Int),tm):=by simpa using hp
     subst this
     exact⟨ae.out,T.xm⟩) (by omega) (by omega) (Or.inl (by omega)))
    rw[af.out]at r;have HE:=l.e;generalize autL n [[unR tm],[unR tm,unR tm],[]]=X at *
    clear af ae l R Hp T ab
    go_wp2_with(refine TK rfl rfl underlying25 CY rfl rfl ?_)
    refine r.out.mono ?_;rintro e b0 ⟨ah,m,ch,aM,rfl,a4,a7,ao,ap⟩;have hH:=MO a7 ao ap;have am:=(a9.ext H).ext a4;have ac:=(HE.trans H).trans a4;have aN:m<=24:=by rw[a7];exact aj.out
    clear r ao ap a7 a9 HE H a4 aK aL;have a6:=qh (Gh hH (by omega));rw[ID ai.out]at a6;clear ai aj
    go_wp2_with fail
    refine a6.out.mono ?_;rintro e aJ ⟨rfl,W⟩;have aB:=am.ext W;have an:=hH.ext W;have ay:=ac.trans W;clear a6 am hH ac W;have HM:Hid (∀ g∈b,g∈X):=ak;have ad:=qh an.len;clear ak;go_wp2
    go_loopw[12] (fun iv wr=>∃ i:Nat,iv = .int .i64 i/\i<=q/\Ext aJ wr) (fun iv _=>q-(intOf iv).toNat)
    case atStart=>exact⟨0,rfl,fu _,Ext.refl _⟩
    case round =>
     obtain⟨i,rfl,hi,hE⟩:=hrel;by_cases aG:i<q
     case neg =>
      have av:¬ (i:Int)<q:=by omega
      go_wp2_with fail
      refine Dn.mono ?_;rintro e b3 ⟨rfl,hF⟩;go_wp2;go_ret;exact⟨rfl,(ay.trans hE).trans hF⟩
     have av:(i:Int)<q:=by omega
     obtain⟨wo,rfl⟩:∃ wo,wo=wr:=⟨_,rfl⟩;obtain⟨b1,o1,a1,n1,c1,rfl,g1,s1⟩:=(aB.ext hE).at aG
     have aD:Hid (b.getD i []∈X):=qh (HM.out _ (by
      have:=HQ.out;rw[gqq,eZ (show i<b.length by omega),fW]
      exact fE _))
     generalize b.getD i []=gi at *
     have aC:=an.ext hE;go_wp2
     go_loopw[13,14] (fun fv kv j=>∃ k:Nat,fv = .bool (decide (gi∈X.take k))/\kv = .int .i64 k/\k<=m/\Ext wo j) (fun _ kv _=>m-(intOf kv).toNat)
     case atStart=>exact⟨0,by simp,rfl,fu _,Ext.refl _⟩
     case round =>
      obtain⟨k,rfl,rfl,hk,N⟩:=hrel;by_cases aF:k<m
      case neg =>
       have au:¬ (k:Int)<m:=by omega
       have hd:decide (gi∈X.take k)=true:=by
        rw[f9 (by have:=ad.out;omega)];exact gn aD.out
       rw[hd];clear hd;go_wp2;go_roundw
       case rel=>exact⟨i+1,by go_num,by omega,hE.trans N⟩
       case measure=>simp[intOf];omega
      have au:(k:Int)<m:=by omega
      have a8:Hid (decide (gi∈X.take (k+1))=(decide (gi∈X.take k) || decide (gi=X.getD k []))):=qh (UJ (by have:=ad.out;omega));obtain⟨b2,o2,a2,n2,c2,rfl,g2,s2⟩:=(aC.ext N).at aF;generalize X.getD k []=aR at *
      have aQ:=N.cell g1;have aI:=s1.ext N;obtain⟨f,hf⟩:∃ f,decide (gi∈X.take k)=f:=⟨_,rfl⟩;rw[hf]at a8 |-;clear hf;cases f with
      | true =>
       go_upto_region 17 with(fail)
       go_quiet (fail)
       go_wp2;go_roundw
       case rel=>exact⟨k+1,by rw[a8.out];rfl,by go_num,by omega,N.drewN _⟩
       case measure=>simp[intOf];omega
      | false =>
       go_upto_region 17 with(fail)
       go_quiet ((go_at_call 17;exact jR (FF (aI.ext ((Ext.refl _).drewN _)) (s2.ext ((Ext.refl _).drewN _)))))
       go_wp2;go_roundw
       case rel=>exact⟨k+1,by rw[a8.out];rfl,by go_num,by omega,N.drewN _⟩
       case measure=>simp[intOf];omega
end Go.Proofs.YthdbingomfdeoaaGreatDoor
