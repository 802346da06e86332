/- Part PqAx1. -/
import Derived.Test.YtlbmnokpiilfpaaGreatDoorPqACx1
import Derived.Test.YtlbmnokpiilfpaaGreatDoorPqABx1
import Derived.Test.YtlbmnokpiilfpaaGreatDoorPqACDx2

set_option linter.all false
set_option maxRecDepth 100000
set_option maxHeartbeats 100000000
namespace Go.Proofs.YtlbmnokpiilfpaaGreatDoor
open Tryz Go Go.RowKit
variable {s:ByteArray} {va vb:Int} {C N c d m n:Nat} {A b:Option Addr} {q:Rat} {v:Value} {w w':World}
def BO(q:Rat)(l:List Pl.Tm):List Pl.Tm:=if q=0 then []else l.map (fun t=>(t.1,t.2*q))
theorem K5{l:List Pl.Tm}(hT:AM w)(h:BU w v q)(hL:Bn w A N C l)(hN:N<=1000000)(hq:Pl.RB 2400 q)(hl:∀ t∈l,Pl.RB 2400 t.2):Calls prog 121 #[v,.slice A N C] w (J4 w (BO q l)):=by
 obtain⟨_,rfl,s,a,n,c,b,m,d,rfl,HS,hx,hy⟩:=h;obtain⟨aP,hS,V,hR⟩:=hL;have HR:=qh hR;have aA:=qh hl;have aa:=qh hq;have a2:=qh V;clear hR hl hq V
 go_enter func121,ntmps121
 go_upto_region 1 with(fail)
 refine AP ?_;intro w0 a4 F aN;have p0:=F.c 0 rfl;have p1:=F.c 1 rfl;have p2:=F.c 2 rfl;have p3:=F.c 3 rfl;have ag:=qh (DU (w:=w0) (v := .agg #[.bool s,.slice a n c,.bool false,.slice b m d]) (q:=q) ⟨Al s a n c false b m d,rfl,s,a,n,c,b,m,d,rfl,HS,hx.ext a4,hy.ext a4⟩ rfl);clear F aN
 go_wp2_with fail
 refine ag.out.mono ?_;rintro e w1 ⟨rfl,H⟩;have p0:=H.cell p0;have p1:=H.cell p1;have p2:=H.cell p2;have p3:=H.cell p3;have I:=a4.trans H;clear ag;by_cases D:q=0
 · rw[iA D];have HC:Hid (BO q l=[]):=qh (gY D);clear D;go_wp2;go_ret;rw[HC.out];exact⟨none,0,0,rfl,I,C1.nil _ _⟩
 · rw[gR D];have HC:Hid (BO q l=l.map (fun t=>(t.1,t.2*q))):=qh (gT D);clear D;have W:nuR (List.replicate N (As [0,0,0,0,0,0] false none 0 0 none 0 0)):=fun r hr u hu=>by rw[(jb.1 hr).2]at hu;exact AV u hu
   go_upto_region 4 with(refine E0 rfl rfl (by kernel_rfl) Bs rfl rfl (by omega) (by unfold maxLen;omega) ?_;intro w2 ad ac)
   have aM:w.heap.size<=w1.heap.size:=I.size;have J:=ad.mono aM;obtain⟨G,hG⟩:∃ G,w1.heap.size=G:=⟨_,rfl⟩;rw[hG]at J |-;clear ad;go_wp2
   go_loopw[15] (fun iv wr=>∃ (k:Nat) (rs:List (List Value)),iv = .int .i64 k/\k<=N/\Ext w1 wr/\AR wr w.heap.size 92 10 (some ⟨G,0,none⟩) N N rs/\nuR rs/\Hid (∀ i,i<k->BB wr (rs.getD i []) ((l.map (fun t=>(t.1,t.2*q))).getD i ([],0)))) (fun iv _=>N-(intOf iv).toNat)
   case atStart=>exact⟨0,_,rfl,gO _,ac,J,W,qh (fun i hi=>absurd hi (by omega))⟩
   case round =>
    clear J ac W;obtain⟨k,rs,rfl,hk,hE,hO,a7,a0⟩:=hrel;by_cases B:k<N
    · have a5:=hS.ext (I.trans hE);obtain⟨bb,aS,rfl,_⟩:=a5.rd (by omega);obtain⟨sx,ax,nx,cx,bx,mx,dx,K,h6,a8⟩:=HR.out k B;have HM:Hid ((l.map (fun t=>(t.1,t.2*q))).getD k ([],0)=((l.getD k ([],0)).1,(l.getD k ([],0)).2*q)):=qh (by simp[a2.out,B]);have a3:Hid (Pl.RB 2400 (l.getD k ([],0)).2):=qh (aA.out _ (by simp[a2.out,B]));generalize l.getD k ([],0)=t at *
      obtain⟨te,tq⟩:=t;obtain⟨Z,x1,x2,x3,x4,x5,ab⟩:=Bt h6;simp only at ab K HM a8 a3;subst ab;have hY:=Arr.new wr 92 (As [0,0,0,0,0,0] false none 0 0 none 0 0)
      go_upto_region 7 with(first
       | (refine Bg rfl rfl At rfl a5 B ?_;rw[K])
       | (refine Aa (vs:=(As [Z,x1,x2,x3,x4,x5] sx ax nx cx bx mx dx)) rfl rfl rfl rfl rfl At hY rfl AI ?_;intro w3 j af))
      have S:Ext wr w3:=((Ext.refl wr).alloc _).grownR af (lrf _);have T:=hO.ext S;have az:Hid (∀ i,i<k->BB w3 (rs.getD i []) ((l.map (fun t=>(t.1,t.2*q))).getD i ([],0))):=qh fun i hi=>(a0.out i hi).ext S;have o:=hE.trans S;have z:=I.trans o;have Y:=a8.ext z;have aB:=qh (T.len (by omega));have aF:=T.noU a7;clear hY af hO hE S K h6 a5 a0 a8;generalize wr.heap.size=X at *
      have c0:=j.c 0 rfl;have c1:=j.c 1 rfl;have c2:=j.c 2 rfl;have c3:=j.c 3 rfl;have c4:=j.c 4 rfl;have c5:=j.c 5 rfl;have c6:=j.c 6 rfl;have c7:=j.c 7 rfl;have c8:=j.c 8 rfl;have E:=j.c 9 rfl;have q0:=o.cell p0;have q1:=o.cell p1;have q2:=o.cell p2;have q3:=o.cell p3
      have ay:=fun(y:World) (hq:Ext w3 y)=>qh (Nx ((hT.ext z).ext hq) (v := .agg #[.bool sx,.slice ax nx cx,.bool false,.slice bx mx dx]) (p:=tq) ⟨Al sx ax nx cx false bx mx dx,rfl,Y.ext hq⟩ (v' := .agg #[.bool s,.slice a n c,.bool false,.slice b m d]) (q:=q) ⟨Al s a n c false b m d,rfl,s,a,n,c,b,m,d,rfl,HS,(hx.ext z).ext hq,(hy.ext z).ext hq⟩ a3.out.1 a3.out.2 aa.out.1 aa.out.2);clear Y
      have a1:=fun(y:World) (f:Ext w3 y)=>qh (And.intro (f.cell c0) (And.intro (f.cell c1) (And.intro (f.cell c2) (And.intro (f.cell c3) (And.intro (f.cell c4) (And.intro (f.cell c5) (And.intro (f.cell c6) (And.intro (f.cell c7) (And.intro (f.cell c8) (And.intro (f.cell E) (And.intro (f.cell q0) (And.intro (f.cell q1) (And.intro (f.cell q2) (f.cell q3))))))))))))))
      refine Ab (by kernel_rfl) (fun y=>Ext w3 y)
       [he (.slice (some ⟨G,0,none⟩) N N),
 he (.int .i64 k),
 he (.pointer (some ⟨X,0,none⟩)),
 he (.agg #[.int .i64 Z,.int .i64 x1,.int .i64 x2,.int .i64 x3,.int .i64 x4,.int .i64 x5]),
 he (.pointer (some ⟨X,6,none⟩)),
 he (.agg #[.bool sx,.slice ax nx cx,.bool false,.slice bx mx dx]),
 he (.agg #[.bool s,.slice a n c,.bool false,.slice b m d]),
 hp (fun v y=>NR (tq*q) v y),
 hp (fun v y=>NEn [Z,x1,x2,x3,x4,x5] (tq*q) v y)]
       (by kernel_rfl) (fun _ _ e h=>h.trans e) ((Ext.refl w3).drew) ⟨trivial,trivial,trivial,trivial,trivial,trivial,trivial,NR.x _,NEn.x _ _,trivial⟩ ⟨?o0,?o1,?o2,?o3,?o4,?o5,?o6,?o7,?o8,trivial⟩ ?fin
      case o0 | o1=>exact omv
      case o2=>exact ofa (d:=0)
      case o4=>exact ofa (d:=6)
      case o5 | o6=>exact ol4
      case o3 =>
       refine Aj rfl fun ρ y f U h => ?_;have e0:ρ (.tmp 22)=(.pointer (some ⟨X,0,none⟩)):=h.1;obtain⟨al,am,an,ao,ap,aq,ar,au,av,aw,ah,ai,aj,ak⟩:=(a1 y f).out;go_simp
      case o7 =>
       refine Ag rfl fun ρ y f U aG h => ?_;have e1:ρ (.tmp 25)=(.agg #[.bool sx,.slice ax nx cx,.bool false,.slice bx mx dx]):=h.2.1;have e2:ρ (.tmp 26)=(.agg #[.bool s,.slice a n c,.bool false,.slice b m d]):=h.2.2.1;obtain⟨al,am,an,ao,ap,aq,ar,au,av,aw,ah,ai,aj,ak⟩:=(a1 y f).out;refine⟨85,#[.agg #[.bool sx,.slice ax nx cx,.bool false,.slice bx mx dx],.agg #[.bool s,.slice a n c,.bool false,.slice b m d]],by go_simp,((ay y f).out).mono ?_⟩;rintro e w' ⟨cs,rfl,aC,aK⟩;exact⟨_,rfl,aC,cs,rfl,aK⟩
      case o8 =>
       refine AE rfl ?_;intro ρ y hp f h;have U:=hp.const;have aG:=hp.func;have e0:ρ (.tmp 23)=(.agg #[.int .i64 Z,.int .i64 x1,.int .i64 x2,.int .i64 x3,.int .i64 x4,.int .i64 x5]):=h.1;obtain⟨v1,e1,aQ,rfl,r1⟩:=h.2.1;obtain⟨al,am,an,ao,ap,aq,ar,au,av,aw,ah,ai,aj,ak⟩:=(a1 y f).out;obtain⟨R,L,Q,E,M,P,O,rfl,z1,z2,z3⟩:=r1;have aJ:(Al R L Q E false M P O).toArray=#[.bool R,.slice L Q E,.bool false,.slice M P O]:=rfl;rw[aJ]at e1
       refine⟨.agg #[.int .i64 Z,.int .i64 x1,.int .i64 x2,.int .i64 x3,.int .i64 x4,.int .i64 x5,.bool R,.slice L Q E,.bool false,.slice M P O],y,by go_simp,Ext.refl _,R,L,Q,E,M,P,O,rfl,R,L,Q,E,M,P,O,rfl,z1,z2,z3⟩
      case fin =>
       intro y f;rintro _ ⟨_,rfl,_⟩;rintro _ ⟨R,L,Q,E,M,P,O,rfl,aL⟩;change wpList _ _ _ _ _ _;simp only[lq,lw,lx,lz,Act.put,lj,lk,ly];have aE:=T.ext f;have aO:(k:Int)<N:=by omega
       have aR:(As [Z,x1,x2,x3,x4,x5] R L Q E M P O).toArray=#[.int .i64 Z,.int .i64 x1,.int .i64 x2,.int .i64 x3,.int .i64 x4,.int .i64 x5,.bool R,.slice L Q E,.bool false,.slice M P O]:=rfl
       go_wp2_with(refine Id (vs:=As [Z,x1,x2,x3,x4,x5] R L Q E M P O) rfl rfl (by omega) At rfl rfl rfl aE B rfl AI ?_;intro w4 aD a6)
       go_roundw
       case rel =>
        have ae:=aF.ext (T.lt (g:=G) rfl).2 f;refine⟨k+1,_,by go_num,by omega,(o.trans f).grownR a6 (by omega),aD,?_,qh fun i hi => ?_⟩
        · intro r hr u hu;rcases j7 hr with h|h
          · exact a7 r h u hu
          · rw[h]at hu;exact AV u hu
        · by_cases aH:i=k
          · subst aH;rw[HM.out,gqq,jF (by rw[aB.out];exact B)];exact BB.keptU ⟨R,L,Q,E,M,P,O,rfl,rfl,aL⟩ ae a6
          · rw[gqq,iT (by omega),<-gqq];exact((az.out i (by omega)).ext f).keptU ae a6
       case measure=>simp[intOf];omega
    · have aI:k=N:=by omega
      subst aI;go_wp2;go_ret;rw[HC.out];refine⟨_,k,k,rfl,I.trans hE,rs,hO,fun g hg => ?_,by simp[a2.out],a0.out⟩;have:G=g:=by simpa[blk]using hg
      subst this;exact hO.noU a7
theorem UN{l:List Pl.Tm}(h:Pl.Nrm l):Pl.Nrm (BO q l):=by
 unfold BO;split
 · exact Pl.Nrm.nil
 · rename_i c;refine⟨fun t b => ?_,fun t b => ?_,?_⟩
   · obtain⟨s,a,rfl⟩:=ie.1 b;exact h.len s a
   · obtain⟨s,a,rfl⟩:=ie.1 b;have h0:=h.nz s a;intro h1;rcases mY.1 h1 with h2|h2
     · exact h0 h2
     · exact c h2
   · rw[jO];exact h.nodup
def NLL(ls:List (List Pl.Tm))(v:Value)(w:World):Prop:=∃ a n c,v = .slice a n c/\n<=1000/\GU w a n c ls
theorem NLL.x(ls:List (List Pl.Tm)):StX (NLL ls):=fun _ _ _ x ⟨a,n,c,h1,h2,h3⟩=>⟨a,n,c,h1,h2,h3.ext x⟩
theorem My{a:Option Addr}{la lb:List Pl.Tm}(f:Bn w a n c la)(g:Bn w b m d lb):GU (w.alloc (.cells #[.slice a n c,.slice b m d] 80)) (some ⟨w.heap.size,0,none⟩) 2 2 [la,lb]:=by
 have e:=(Ext.refl w).alloc (.cells #[.slice a n c,.slice b m d] 80);refine⟨[.slice a n c,.slice b m d],(AB w w.heap.size 80 #[.slice a n c,.slice b m d] 2 rfl (lrf _) (by omega)).sl,rfl,fun i j => ?_⟩;have h01:i=0\/i=1:=by omega
 rcases h01 with rfl|rfl
 · exact⟨_,n,c,rfl,f.ext e⟩
 · exact⟨_,m,d,rfl,g.ext e⟩
def M5(w:World)(va vb:Int)(oa ob:Option (List Pl.Tm))(e:Ending)(w':World):Prop :=
 (∃ la lb,oa=some la/\ob=some lb/\va=vb/\Cd w (resQ va (la ++ lb)) e w') \/
 ((oa.isSome && ob.isSome)=true/\va≠vb/\Cl w 0 [] 4 e w')\/((oa.isSome && ob.isSome)=false/\Cl w 0 [] 1 e w')
theorem UO{a:Option Addr}{ta tb:List Tx}(hT:AM w)(ha:AH w a n c ta)(hb:AH w b m d tb)(sa:∀ t∈ta,t.1.length<=570)(sb:∀ t∈tb,t.1.length<=570)
 (F:∀ i l,rdP va ta=some i->rdP vb tb=some l->va=vb->EH (i ++ l)) :
 Calls prog 51 #[.agg #[.int .i64 va,.slice a n c],.agg #[.int .i64 vb,.slice b m d]] w (M5 w va vb (rdP va ta) (rdP vb tb)):=by
 have G:=fun(f:World) (g:Ext w f)=>qh (Fd (va:=va) (vb:=vb) (hT.ext g) (ha.ext g) (hb.ext g) sa sb);have W:∀ i,rdP va ta=some i->0<=va/\va<=6:=fun i h=>Kl h;obtain⟨oa,aa⟩:∃ o,rdP va ta=o:=⟨_,rfl⟩;obtain⟨ob,ab⟩:∃ o,rdP vb tb=o:=⟨_,rfl⟩;rw[aa]at G F W |-;rw[ab]at G F |-;have a0:=qh F;clear aa ab sa sb ha hb F
 go_enter func51,ntmps51
 go_upto_region 1 with(fail)
 refine CO ?_;intro w0 Q N O a5 am;have ac:=N.c 0 rfl;have ao:=N.c 1 rfl;have ap:=O.c 0 rfl;have aq:=O.c 1 rfl;have hR:Arr w0 (w.heap.size+2) 28 (Ah 0 none 0 0):=a5;have aw:(Ah 0 none 0 0).toArray=#[.int .i64 0,.slice none 0 0]:=rfl;clear N O a5 am
 go_wp2_with fail
 refine(G _ Q).out.mono ?_;rintro e Y ⟨a1,n1,c1,b1,m1,d1,ar,rfl,R,U⟩;have j:=Q.trans R;have T:=hR.ext R;have ac:=R.cell ac;have ax:=Q.size;clear G ao ap aq;rcases U with⟨i,l,rfl,rfl,hv,rfl,ah,ai⟩|⟨hs,hv,rfl⟩|⟨hs,rfl⟩
 · have HM:=qh (a0.out i l rfl rfl hv);have ay:=W i rfl;clear a0 W;obtain⟨vn,rfl⟩:∃ k:Nat,va=(k:Int):=⟨va.toNat,by omega⟩;have HV:=qh hv;clear hv;have s:[i,l].flatten=i ++ l:=by simp
   have J:=fun(f:World) (h:Ext Y f) (a':Option Addr) (n' c':Nat) (ak:n'<=1000) (hl:GU f a' n' c' [i,l])=>qh (Ff ((hT.ext j).ext h) hl ak (by rw[s];exact HM.out.fits.len) (by rw[s];exact HM.out.pre) (by rw[s];exact HM.out.each));rw[s]at J;have ae:Hid (Cj (i ++ l)):=qh HM.out.fits;clear s;go_wp2;obtain⟨I,a2⟩:∃ r,Hid (resQ (vn:Int) (i ++ l)=r):=⟨_,qh rfl⟩
   refine Ab (by kernel_rfl) (fun f=>Ext Y f)
    [he (.pointer (some ⟨w.heap.size,0,none⟩)),
 he (.int .i64 (vn:Int)),
 he (.slice a1 n1 c1),
 he (.slice b1 m1 d1),
 hu 5 (fun v f=>NLL [i,l] v f),
 hu 6 (fun v f=>I7 Y (i ++ l) v f),
 hmp (fun v f=>NPE Y I v f),
 hp (fun v f=>NPo Y I v f),
 he (.int .i64 I.2.2)]
    (by kernel_rfl) (fun _ _ e h=>h.trans e) ((Ext.refl Y).drew) ⟨trivial,trivial,trivial,trivial,NLL.x _,I7.x _ _,NPE.x _ _,NPo.x _ _,trivial,trivial⟩ ⟨?o0,?o1,?o2,?o3,?o4,?o5,?o6,?o7,?o8,trivial⟩ ?fin
   case o0=>exact ofa (d:=0)
   case o1=>exact ol
   case o2 | o3=>exact omv
   case o4 =>
    refine AE rfl ?_;intro Z f hp g h;have K:=hp.const;have e0:Z (.tmp 22)=(.slice a1 n1 c1):=h.1;have e1:Z (.tmp 23)=(.slice b1 m1 d1):=h.2.1;refine⟨.slice (some ⟨f.heap.size,0,none⟩) 2 2,f.alloc (.cells #[.slice a1 n1 c1,.slice b1 m1 d1] 80),by go_simp,(Ext.refl _).alloc _,some ⟨f.heap.size,0,none⟩,2,2,rfl,by omega,My (ah.ext g) (ai.ext g)⟩
   case o5 =>
    refine Ag rfl fun Z f g K aj h => ?_;obtain⟨v1,e1,B,H,C,rfl,D,E⟩:=h.2.1;refine⟨70,#[.slice B H C],by go_simp,((J f g B H C D E).out).mono ?_⟩;rintro e w' ⟨an,⟨y,A,z,rfl,S,p⟩,h1,h2⟩;exact⟨_,rfl,S,y,A,z,an,rfl,p.mono g.size,h1,h2⟩
   case o6 =>
    refine EG rfl ?_;intro Z f hp g h;have K:=hp.const;have aj:=hp.func;have e0:Z (.tmp 21)=(.int .i64 (vn:Int)):=h.2.1;obtain⟨v1,e1,B,H,C,az,rfl,D,E,a4⟩:=h.2.2.1;have a8:=ae.out.out E a4;have au:=D.len;refine⟨69,#[.int .i64 (vn:Int),.slice B H C],by go_simp,(B6 (vars:=vn) (w0:=Y) (hT.ext j) g D (by omega) a8.1 a8.2.1 (by omega)).mono ?_⟩;intro e w' hw;have hq:=Fw.q hw E a4;rw[a2.out]at hq;obtain⟨y,A,z,rfl,S,p⟩:=hq
    exact⟨_,rfl,S,⟨trivial,trivial,trivial,trivial,trivial,trivial,trivial,trivial,trivial,trivial⟩,y,A,z,rfl,p⟩
   case o7 =>
    refine AE rfl ?_;intro Z f hp g h;obtain⟨v0,e0,L,X,M,rfl,a3⟩:=h.1;exact⟨BS I.1 L X M,f,by go_simp,Ext.refl _,L,X,M,rfl,a3⟩
   case o8 =>
    refine BN rfl ?_;intro Z f hp g h;obtain⟨v0,e0,L,X,M,rfl,a3⟩:=h.1;go_simp
   case fin =>
    intro f g;rintro _;rintro _;rintro _ h42;rintro _ h43;change wpList _ _ _ _ _ _;simp only[lq,lw,lx,lz,Act.put,lj,lk,ly];obtain⟨y,A,z,rfl,p⟩:=h43;clear h42;have ag:=j.trans g;have a6:=T.ext g;have al:BS I.1 y A z = .agg #[.int .i64 I.1,.slice y A z]:=rfl;rw[al];have av:(Ah I.1 y A z).toArray=#[.int .i64 I.1,.slice y A z]:=rfl
    go_wp2_with(refine Aa (vs:=Ah I.1 y A z) rfl rfl rfl rfl rfl Ad a6 rfl (Am _ _ _ _) ?_;intro w8 af a9)
    refine gF (Ao rfl Ad rfl rfl af) rfl ?_;exact Or.inl ⟨i,l,rfl,rfl,HV.out,by rw[a2.out];exact⟨y,A,z,rfl,ag.grownR a9 (by omega),(p.mono j.size).keptA a6 a9⟩⟩
 · have ad:((4:Int) != 0)=true:=by decide
   go_wp2_with(refine Aa (vs:=Ah 0 none 0 0) rfl rfl rfl rfl rfl Ad T rfl (Am _ _ _ _) ?_;intro w9 P V)
   refine gF (Ao rfl Ad rfl rfl P) rfl ?_;exact Or.inr (Or.inl ⟨hs,hv,none,0,0,rfl,j.grownR V (by omega),TmO.nil _ _⟩)
 · have ad:((1:Int) != 0)=true:=by decide
   go_wp2_with(refine Aa (vs:=Ah 0 none 0 0) rfl rfl rfl rfl rfl Ad T rfl (Am _ _ _ _) ?_;intro w9 P V)
   refine gF (Ao rfl Ad rfl rfl P) rfl ?_;exact Or.inr (Or.inr ⟨hs,none,0,0,rfl,j.grownR V (by omega),TmO.nil _ _⟩)
theorem Wj(h:0<=va/\va<=6):rdP va []=some []:=by
 obtain⟨k,rfl⟩:∃ k:Nat,va=(k:Int):=⟨va.toNat,by omega⟩;have:=Kv (vars:=k) (l:=[]) (by omega) (Pl.Canon.nil 6) ⟨by simp,fun t r e=>by cases e⟩ (by simp);exact this
theorem M5.a{oa ob:Option (List Pl.Tm)}{e:Ending}(h:M5 w va vb oa ob e w'):Cd w (addA va vb oa ob) e w':=by
 unfold addA;rcases h with⟨d,f,rfl,rfl,c,h⟩|⟨b,c,h⟩|⟨b,h⟩
 · simp only[gY c];exact h
 · cases oa <;> cases ob <;> simp at b;simp only[gT c];exact h
 · cases oa <;> cases ob <;> simp at b <;> exact h
def NSE(l:List Pl.Tm)(v:Value)(w:World):Prop:=∃ a n c,v = .slice a n c/\Bn w a n c l
theorem NSE.x(l:List Pl.Tm):StX (NSE l):=fun _ _ _ x ⟨a,n,c,h1,h2⟩=>⟨a,n,c,h1,h2.ext x⟩
def NRr(q:Rat)(v:Value)(w:World):Prop:=BU w v q
theorem NRr.x(q:Rat):StX (NRr q):=fun _ _ _ x h=>BU.ext h x
theorem YB:Pl.RB 2400 (-1):=⟨Cu (by omega),Cu (by omega)⟩
theorem UP{a:Option Addr}{ta tb:List Tx}(hT:AM w)(ha:AH w a n c ta)(hb:AH w b m d tb)(sa:∀ t∈ta,t.1.length<=570)(sb:∀ t∈tb,t.1.length<=570)
 (I:∀ j i,rdP va ta=some j->rdP vb tb=some i->va=vb->EH (j ++ BO (-1) i)) :
 Calls prog 53 #[.agg #[.int .i64 va,.slice a n c],.agg #[.int .i64 vb,.slice b m d]] w (M5 w va vb (rdP va ta) ((rdP vb tb).map (BO (-1)))):=by
 have J:=fun(f:World) (g:Ext w f)=>qh (Fd (va:=va) (vb:=vb) (hT.ext g) (ha.ext g) (hb.ext g) sa sb);have a3:∀ j,rdP va ta=some j->0<=va/\va<=6:=fun j h=>Kl h;have X:∀ i,rdP vb tb=some i->(∀ t∈i,Pl.RB 2400 t.2)/\i.length<=4096:=fun i h=>⟨fun t ht=>(Eu h sb t ht).mono (by omega),by rw[BH h];exact(AW h).2.1⟩;obtain⟨oa,ah⟩:∃ o,rdP va ta=o:=⟨_,rfl⟩;obtain⟨ob,ai⟩:∃ o,rdP vb tb=o:=⟨_,rfl⟩;rw[ah]at J I a3 |-;rw[ai]at J I X |-;have a8:=qh I;have a6:=qh X;clear ah ai sa sb ha hb I X
 go_enter func53,ntmps53
 go_upto_region 1 with(fail)
 refine CO ?_;intro w0 U R S ac ax;have aj:=R.c 0 rfl;have aA:=R.c 1 rfl;have aB:=S.c 0 rfl;have aC:=S.c 1 rfl;have hR:Arr w0 (w.heap.size+2) 28 (Ah 0 none 0 0):=ac;have aG:(Ah 0 none 0 0).toArray=#[.int .i64 0,.slice none 0 0]:=rfl;clear R S ac ax
 go_wp2_with fail
 refine(J _ U).out.mono ?_;rintro e O ⟨a1,n1,c1,b1,m1,d1,aD,rfl,V,Y⟩;have l:=U.trans V;have W:=hR.ext V;have aj:=V.cell aj;have aH:=U.size;clear J aA aB aC;rcases Y with⟨j,i,rfl,rfl,hv,rfl,au,ad⟩|⟨hs,hv,rfl⟩|⟨hs,rfl⟩
 · have HM:=qh (a8.out j i rfl rfl hv);have aI:=a3 j rfl;have a5:=qh (a6.out i rfl);clear a8 a3 a6;obtain⟨vn,rfl⟩:∃ k:Nat,va=(k:Int):=⟨va.toNat,by omega⟩;have HV:=qh hv;clear hv;have an:Hid (i.length=m1):=qh ad.len;have al:=fun(f:World) (g:Ext O f) (v:Value) (hv:BU f v (-1))=>qh (K5 ((hT.ext l).ext g) hv (ad.ext g) (by have:=a5.out.2;have:=an.out;omega) YB a5.out.1);have D:[j,BO (-1) i].flatten=j ++ BO (-1) i:=by simp
   have N:=fun(f:World) (h:Ext O f) (a':Option Addr) (n' c':Nat) (av:n'<=1000) (hl:GU f a' n' c' [j,BO (-1) i])=>qh (Ff ((hT.ext l).ext h) hl av (by rw[D];exact HM.out.fits.len) (by rw[D];exact HM.out.pre) (by rw[D];exact HM.out.each));rw[D]at N;have am:Hid (Cj (j ++ BO (-1) i)):=qh HM.out.fits;clear D;go_wp2;obtain⟨L,a9⟩:∃ r,Hid (resQ (vn:Int) (j ++ BO (-1) i)=r):=⟨_,qh rfl⟩
   refine Ab (by kernel_rfl) (fun f=>Ext O f)
    [he (.pointer (some ⟨w.heap.size,0,none⟩)),
 he (.int .i64 (vn:Int)),
 he (.slice a1 n1 c1),
 hu 5 (fun v f=>NRr (-1) v f),
 he (.slice b1 m1 d1),
 hu 6 (fun v f=>NSE (BO (-1) i) v f),
 hu 7 (fun v f=>NLL [j,BO (-1) i] v f),
 hu 8 (fun v f=>I7 O (j ++ BO (-1) i) v f),
 hmp (fun v f=>NPE O L v f),
 hp (fun v f=>NPo O L v f),
 he (.int .i64 L.2.2)]
    (by kernel_rfl) (fun _ _ e h=>h.trans e) ((Ext.refl O).drew) ⟨trivial,trivial,trivial,NRr.x _,trivial,NSE.x _,NLL.x _,I7.x _ _,NPE.x _ _,NPo.x _ _,trivial,trivial⟩ ⟨?o0,?o1,?o2,?o3,?o4,?o5,?o6,?o7,?o8,?o9,?o10,trivial⟩ ?fin
   case o0=>exact ofa (d:=0)
   case o1=>exact ol
   case o2 | o4=>exact omv
   case o3 =>
    refine Ag rfl fun M f g s Z h => ?_;refine⟨78,#[.int .i64 (-1)],by go_simp,(F0 (z := -1) (w:=f) (by omega) (by omega)).mono ?_⟩;rintro e w' ⟨cs,rfl,ap,h'⟩;exact⟨_,rfl,ap,cs,rfl,h'⟩
   case o5 =>
    refine Ag rfl fun M f g s Z h => ?_;obtain⟨v1,e1,f1⟩:=h.2.1;have e2:M (.tmp 24)=(.slice b1 m1 d1):=h.2.2.1;refine⟨121,#[v1,.slice b1 m1 d1],by go_simp,(al f g v1 f1).out.mono ?_⟩;rintro e w' ⟨y,B,A,rfl,C,p⟩;exact⟨_,rfl,C,y,B,A,rfl,p.sl⟩
   case o6 =>
    refine AE rfl ?_;intro M f hp g h;have s:=hp.const;have e0:M (.tmp 22)=(.slice a1 n1 c1):=h.1;obtain⟨v1,e1,aq,ay,cq,rfl,f1⟩:=h.2.1;refine⟨.slice (some ⟨f.heap.size,0,none⟩) 2 2,f.alloc (.cells #[.slice a1 n1 c1,.slice aq ay cq] 80),by go_simp,(Ext.refl _).alloc _,some ⟨f.heap.size,0,none⟩,2,2,rfl,by omega,My (au.ext g) f1⟩
   case o7 =>
    refine Ag rfl fun M f g s Z h => ?_;obtain⟨v1,e1,E,K,F,rfl,G,H⟩:=h.2.1;refine⟨70,#[.slice E K F],by go_simp,((N f g E K F G H).out).mono ?_⟩;rintro e w' ⟨az,⟨y,B,A,rfl,C,p⟩,h1,h2⟩;exact⟨_,rfl,C,y,B,A,az,rfl,p.mono g.size,h1,h2⟩
   case o8 =>
    refine EG rfl ?_;intro M f hp g h;have s:=hp.const;have Z:=hp.func;have e0:M (.tmp 21)=(.int .i64 (vn:Int)):=h.2.1;obtain⟨v1,e1,E,K,F,aJ,rfl,G,H,ab⟩:=h.2.2.1;have af:=am.out.out H ab;have aE:=G.len;refine⟨69,#[.int .i64 (vn:Int),.slice E K F],by go_simp,(B6 (vars:=vn) (w0:=O) (hT.ext l) g G (by omega) af.1 af.2.1 (by omega)).mono ?_⟩;intro e w' hw;have hq:=Fw.q hw H ab;rw[a9.out]at hq;obtain⟨y,B,A,rfl,C,p⟩:=hq
    exact⟨_,rfl,C,⟨trivial,trivial,trivial,trivial,trivial,trivial,trivial,trivial,trivial,trivial,trivial,trivial⟩,y,B,A,rfl,p⟩
   case o9 =>
    refine AE rfl ?_;intro M f hp g h;obtain⟨v0,e0,P,a4,Q,rfl,aa⟩:=h.1;exact⟨BS L.1 P a4 Q,f,by go_simp,Ext.refl _,P,a4,Q,rfl,aa⟩
   case o10 =>
    refine BN rfl ?_;intro M f hp g h;obtain⟨v0,e0,P,a4,Q,rfl,aa⟩:=h.1;go_simp
   case fin =>
    intro f g;rintro _;rintro _;rintro _;rintro _;rintro _ h42;rintro _ h43;change wpList _ _ _ _ _ _;simp only[lq,lw,lx,lz,Act.put,lj,lk,ly];obtain⟨y,B,A,rfl,p⟩:=h43;clear h42;have ar:=l.trans g;have ae:=W.ext g;have aw:BS L.1 y B A = .agg #[.int .i64 L.1,.slice y B A]:=rfl;rw[aw];have aF:(Ah L.1 y B A).toArray=#[.int .i64 L.1,.slice y B A]:=rfl
    go_wp2_with(refine Aa (vs:=Ah L.1 y B A) rfl rfl rfl rfl rfl Ad ae rfl (Am _ _ _ _) ?_;intro w8 ao ag)
    refine gF (Ao rfl Ad rfl rfl ao) rfl ?_;exact Or.inl ⟨j,_,rfl,rfl,HV.out,by rw[a9.out];exact⟨y,B,A,rfl,ar.grownR ag (by omega),(p.mono l.size).keptA ae ag⟩⟩
 · have ak:((4:Int) != 0)=true:=by decide
   have a2:(oa.isSome && (ob.map (BO (-1))).isSome)=true:=by rw[Option.isSome_map];exact hs
   go_wp2_with(refine Aa (vs:=Ah 0 none 0 0) rfl rfl rfl rfl rfl Ad W rfl (Am _ _ _ _) ?_;intro w9 T a0)
   refine gF (Ao rfl Ad rfl rfl T) rfl ?_;exact Or.inr (Or.inl ⟨a2,hv,none,0,0,rfl,l.grownR a0 (by omega),TmO.nil _ _⟩)
 · have ak:((1:Int) != 0)=true:=by decide
   have a2:(oa.isSome && (ob.map (BO (-1))).isSome)=false:=by rw[Option.isSome_map];exact hs
   go_wp2_with(refine Aa (vs:=Ah 0 none 0 0) rfl rfl rfl rfl rfl Ad W rfl (Am _ _ _ _) ?_;intro w9 T a0)
   refine gF (Ao rfl Ad rfl rfl T) rfl ?_;exact Or.inr (Or.inr ⟨a2,none,0,0,rfl,l.grownR a0 (by omega),TmO.nil _ _⟩)
theorem Wk(q:Rat)(l:List Pl.Tm):(Pl.scl q l).length=l.length:=iM ..
section
variable {va vb:Int} {a b:Option Addr} {n c m d:Nat} {ta tb:List Tx} {w:World} {v err:Int} {t:List Tx}
theorem SW(o:addA va vb (rdP va ta) (rdP vb tb)=(v,t,err))(j:AM w)(k:AH w a n c ta)(l:AH w b m d tb)(sa:∀ t∈ta,t.1.length<=570)(sb:∀ t∈tb,t.1.length<=570)
 (f:∀ g i,rdP va ta=some g->rdP vb tb=some i->va=vb->EH (g ++ i)) :
 Calls prog 51 #[.agg #[.int .i64 va,.slice a n c],.agg #[.int .i64 vb,.slice b m d]] w (Jc w v t err) :=
 (UO j k l sa sb f).mono fun e p h=>by
  have h:=h.a;rw[o]at h;exact Cl.v h
end
def Qw(w:World)(va:Int)(oq:Option Rat)(ol:Option (List Pl.Tm))(e:Ending)(w':World):Prop :=
 (∃ q l,oq=some q/\ol=some l/\Cd w (resQ va (BO q l)) e w')\/((oq.isSome && ol.isSome)=false/\Cl w 0 [] 1 e w')
theorem K6{a:Option Addr}{ts:List Tx}(hT:AM w)(ha:AH w a n c ts)(hs:s.size<=570)(sa:∀ t∈ts,t.1.length<=570)
 (aj:∀ q l,AD (An s)=some q->rdP va ts=some l->Cj (BO q l)) :
 Calls prog 55 #[.string s,.agg #[.int .i64 va,.slice a n c]] w (Qw w va (AD (An s)) (rdP va ts)):=by
 have Y:=fun(b:World) (f:Ext w b)=>qh (GQ (s:=s) (hT.ext f) hs);have W:=fun(b:World) (f:Ext w b)=>qh (Db (vars:=va) (hT.ext f) (ha.ext f) sa)
 have HB:Hid (∀ q l,AD (An s)=some q->rdP va ts=some l->Pl.RB 2400 q/\(∀ t∈l,Pl.RB 2400 t.2)/\Cj (BO q l)/\Pl.Nrm (BO q l)/\l.length<=4096/\0<=va/\va<=6):=qh (fun q l h1 h2=>by
  refine⟨?_,fun t ht=>(Eu h2 sa t ht).mono (by omega),aj q l h1 h2,UN (Dh (BW h2)),?_,(AW h2).1⟩
  · have h3:=Cp h1;exact(Ko (k:=570) (by rw[<-h3,Ay];exact hs)).mono (by omega)
  · rw[BH h2];exact(AW h2).2.1)
 obtain⟨oq,al⟩:∃ o,AD (An s)=o:=⟨_,rfl⟩;obtain⟨ol,ak⟩:∃ o,rdP va ts=o:=⟨_,rfl⟩;rw[al]at Y HB |-;rw[ak]at W HB |-;clear al ak sa hs ha aj
 go_enter func55,ntmps55
 go_upto_region 1 with(fail)
 refine Cf ?_;intro w0 H Q ac aD;have M:=Q.c 0 rfl;have a4:=Q.c 1 rfl;have hR:Arr w0 (w.heap.size+1) 28 (Ah 0 none 0 0):=ac;have aH:(Ah 0 none 0 0).toArray=#[.int .i64 0,.slice none 0 0]:=rfl;clear Q ac aD
 go_wp2_with fail
 refine(Y _ H).out.mono ?_;rintro e w1 ⟨_,rfl,ad,s1,D,L,F,E,K,G,rfl,a6,am,ao⟩;have hY:=Arr.new w1 85 (Al false none 0 0 false none 0 0);have aB:(Al s1 D L F false E K G).toArray=#[.bool s1,.slice D L F,.bool false,.slice E K G]:=rfl
 go_upto_region 2 with(refine Aa (vs:=Al s1 D L F false E K G) rfl rfl rfl rfl rfl Ak hY rfl (Aq _ _ _ _ _ _ _ _) ?_;intro w2 R ah)
 have I:Ext w1 w2:=((Ext.refl w1).alloc _).grownR ah (lrf _);have g:=ad.trans I;have y:=H.trans g;have an:=am.ext I;have ap:=ao.ext I;have aI:=H.size;have ae:=hR.ext g;have M:=g.cell M;have a4:=g.cell a4;obtain⟨X,hX⟩:∃ x,w1.heap.size=x:=⟨_,rfl⟩;rw[hX]at R |-;clear Y hY ah ad I am ao hR hX aB H
 go_wp2_with fail
 refine(W _ y).out.mono ?_;rintro e w3 ⟨a3,n3,c3,rfl,i,J⟩;have j:=y.trans i;have U:=ae.ext i;have p:=R.ext i;have Z:=an.ext i;have a0:=ap.ext i;have M:=i.cell M;clear a4 ae R an ap W g y;cases oq with
 | none =>
  simp only[jz]
  go_wp2_with(refine Aa (vs:=Ah 0 none 0 0) rfl rfl rfl rfl rfl Ad U rfl (Am _ _ _ _) ?_;intro w9 S V)
  refine gF (Ao rfl Ad rfl rfl S) rfl ?_;exact Or.inr ⟨rfl,none,0,0,rfl,j.grownR V (by omega),TmO.nil _ _⟩
 | some q =>
  cases ol with
  | none =>
   simp only[jz,jr]
   go_wp2_with(refine Aa (vs:=Ah 0 none 0 0) rfl rfl rfl rfl rfl Ad U rfl (Am _ _ _ _) ?_;intro w9 S V)
   refine gF (Ao rfl Ad rfl rfl S) rfl ?_;exact Or.inr ⟨rfl,none,0,0,rfl,j.grownR V (by omega),TmO.nil _ _⟩
  | some l =>
   simp only[jr,gP]at J Z a0 a6 |-;have aJ:=(HB.out q l rfl rfl).2.2.2.2.2;have av:Hid (l.length=n3):=qh J.len;have m:=qh (HB.out q l rfl rfl);obtain⟨vn,rfl⟩:∃ k:Nat,va=(k:Int):=⟨va.toNat,by omega⟩;have ar:=fun(b:World) (f:Ext w3 b)=>qh (K5 ((hT.ext j).ext f) (v := .agg #[.bool s1,.slice D L F,.bool false,.slice E K G]) (q:=q) ⟨Al s1 D L F false E K G,rfl,s1,D,L,F,E,K,G,rfl,a6,Z.ext f,a0.ext f⟩ (J.ext f) (by have:=m.out.2.2.2.2.1;have:=av.out;omega) m.out.1 m.out.2.1)
   have au:Hid (Cj (BO q l)):=qh m.out.2.2.1;have y0:=p.c 0 rfl;have y1:=p.c 1 rfl;have y2:=p.c 2 rfl;have y3:=p.c 3 rfl;clear HB p Z a0 J;go_wp2;obtain⟨N,a5⟩:∃ r,Hid (resQ (vn:Int) (BO q l)=r):=⟨_,qh rfl⟩
   refine Ab (by kernel_rfl) (fun b=>Ext w3 b)
    [he (.pointer (some ⟨w.heap.size,0,none⟩)),
 he (.int .i64 (vn:Int)),
 he (.agg #[.bool s1,.slice D L F,.bool false,.slice E K G]),
 he (.slice a3 n3 c3),
 hu 5 (fun v b=>I7 w3 (BO q l) v b),
 hmp (fun v b=>NPE w3 N v b),
 hp (fun v b=>NPo w3 N v b),
 he (.int .i64 N.2.2)]
    (by kernel_rfl) (fun _ _ e h=>h.trans e) ((Ext.refl w3).drew) ⟨trivial,trivial,trivial,trivial,I7.x _ _,NPE.x _ _,NPo.x _ _,trivial,trivial⟩ ⟨?o0,?o1,?o2,?o3,?o4,?o5,?o6,?o7,trivial⟩ ?fin
   case o0=>exact ofa (d:=0)
   case o1=>exact ol
   case o2=>exact ol4
   case o3=>exact omv
   case o4 =>
    refine Ag rfl fun ρ b f aq aA h => ?_;have e0:ρ (.tmp 29)=(.agg #[.bool s1,.slice D L F,.bool false,.slice E K G]):=h.2.1;have e1:ρ (.tmp 30)=(.slice a3 n3 c3):=h.2.2.1;refine⟨121,#[.agg #[.bool s1,.slice D L F,.bool false,.slice E K G],.slice a3 n3 c3],by go_simp,((ar b f).out).mono ?_⟩;rintro e w' ⟨A,C,B,rfl,T,z⟩;exact⟨_,rfl,T,A,C,B,BO q l,rfl,z.mono f.size,m.out.2.2.2.1,fun _=>rfl⟩
   case o5 =>
    refine EG rfl ?_;intro ρ b hp f h;have aq:=hp.const;have aA:=hp.func;have e0:ρ (.tmp 28)=(.int .i64 (vn:Int)):=h.2.1;obtain⟨v1,e1,aw,aE,ax,aK,rfl,a9,aa,ab⟩:=h.2.2.1;have ag:=au.out.out aa ab;have aF:=a9.len;refine⟨69,#[.int .i64 (vn:Int),.slice aw aE ax],by go_simp,(B6 (vars:=vn) (w0:=w3) (hT.ext j) f a9 (by omega) ag.1 ag.2.1 (by omega)).mono ?_⟩;intro e w' hw;have hq:=Fw.q hw aa ab;rw[a5.out]at hq;obtain⟨A,C,B,rfl,T,z⟩:=hq
    exact⟨_,rfl,T,⟨trivial,trivial,trivial,trivial,trivial,trivial,trivial,trivial,trivial⟩,A,C,B,rfl,z⟩
   case o6 =>
    refine AE rfl ?_;intro ρ b hp f h;obtain⟨v0,e0,O,a2,P,rfl,a8⟩:=h.1;exact⟨BS N.1 O a2 P,b,by go_simp,Ext.refl _,O,a2,P,rfl,a8⟩
   case o7 =>
    refine BN rfl ?_;intro ρ b hp f h;obtain⟨v0,e0,O,a2,P,rfl,a8⟩:=h.1;go_simp
   case fin =>
    intro b f;rintro _;rintro _ h42;rintro _ h43;change wpList _ _ _ _ _ _;simp only[lq,lw,lx,lz,Act.put,lj,lk,ly];obtain⟨A,C,B,rfl,z⟩:=h43;clear h42;have az:=j.trans f;have af:=U.ext f;have aC:BS N.1 A C B = .agg #[.int .i64 N.1,.slice A C B]:=rfl;rw[aC];have aG:(Ah N.1 A C B).toArray=#[.int .i64 N.1,.slice A C B]:=rfl
    go_wp2_with(refine Aa (vs:=Ah N.1 A C B) rfl rfl rfl rfl rfl Ad af rfl (Am _ _ _ _) ?_;intro w8 ay ai)
    refine gF (Ao rfl Ad rfl rfl ay) rfl ?_;exact Or.inl ⟨q,l,rfl,rfl,by rw[a5.out];exact⟨A,C,B,rfl,az.grownR ai (by omega),(z.mono j.size).keptA af ai⟩⟩
theorem S0(q:Rat)(l:List Pl.Tm)(e:List Int):Pl.coef (BO q l) e=q*Pl.coef l e:=by
 unfold BO;split
 · rename_i h;rw[h,Rat.zero_mul];rfl
 · rw[<-Pl.coef_scl];congr 1;unfold Pl.scl;exact kh fun t _=>by rw[nZ]
noncomputable def sclA (va:Int) (q:Rat) (o:Option (List Pl.Tm)):Int×List Tx×Int:=match o with | some l=>resQ va (BO q l) | none=>(0,[],1)
theorem Qx:txt (-1)=[45,49]:=by
 have h:AD [45,49]=some (-1):=by decide
 exact(Cp h).symm
section
variable {va:Int} {a:Option Addr} {n c:Nat} {ta:List Tx} {w:World} {v err:Int} {t:List Tx} {q:Rat}
theorem Pb(d:sclA va q (rdP va ta)=(v,t,err))(j:AM w)(k:AH w a n c ta)(m:(txt q).length<=570)(sa:∀ t∈ta,t.1.length<=570)(f:∀ l,rdP va ta=some l->Cj (BO q l)) :
 Calls prog 55 #[.string ⟨(txt q).toArray⟩,.agg #[.int .i64 va,.slice a n c]] w (Cl w v t err):=by
 have i:AD (An ⟨(txt q).toArray⟩)=some q:=by rw[Cw];exact Cx q
 refine(K6 (s:=⟨(txt q).toArray⟩) (va:=va) j k (by rw[<-Ay,Cw];exact m) sa (fun p l h1 h2=>by
  rw[i]at h1;cases h1
  exact f l h2)).mono fun e o h => ?_
 rw[i]at h;rcases h with⟨p,l,h1,h2,h3⟩|⟨h1,h2⟩
 · cases h1;rw[h2]at d;have b:resQ va (BO q l)=(v,t,err):=d;rw[b]at h3;exact h3
 · cases g:rdP va ta with
   | none =>
    rw[g]at d;have b:((0:Int),([]:List Tx),(1:Int))=(v,t,err):=d;cases b;exact h2
   | some l =>
    rw[g]at h1;simp at h1
theorem Mz(I:sclA va (-1) (rdP va ta)=(v,t,err))(E:AM w)(F:AH w a n c ta)(sa:∀ t∈ta,t.1.length<=570)(x:∀ l,rdP va ta=some l->Cj (BO (-1) l)) :
 Calls prog 54 #[.agg #[.int .i64 va,.slice a n c]] w (Jc w v t err):=by
 have b:=fun(K:World) (C:Ext w K)=>qh (Pb I (E.ext C) (F.ext C) (by rw[Qx];decide) sa x);rw[Qx]at b;have G:(⟨([45,49]:List UInt8).toArray⟩:ByteArray)=⟨#[45,49]⟩:=rfl;rw[G]at b
 go_enter func54,ntmps54
 go_upto_region 1 with(fail)
 refine Cf ?_;intro J j d i z;have A:=d.c 0 rfl;have B:=d.c 1 rfl;have D:Arr J (w.heap.size+1) 28 (Ah 0 none 0 0):=i;clear d i z
 go_wp2_with fail
 refine(b _ j).out.mono ?_;rintro e L ⟨f,o,g,rfl,k,q⟩;have y:BS v f o g = .agg #[.int .i64 v,.slice f o g]:=rfl;rw[y];have m:=D.ext k;have H:(Ah v f o g).toArray=#[.int .i64 v,.slice f o g]:=rfl;clear A B D b
 go_wp2_with(refine Aa (vs:=Ah v f o g) rfl rfl rfl rfl rfl Ad m rfl (Am _ _ _ _) ?_;intro M p s)
 refine gF (Ao rfl Ad rfl rfl p) rfl ?_;exact Cl.v (Kr (r:=(v,t,err)) j k q m s (by omega))
end
end Go.Proofs.YtlbmnokpiilfpaaGreatDoor
