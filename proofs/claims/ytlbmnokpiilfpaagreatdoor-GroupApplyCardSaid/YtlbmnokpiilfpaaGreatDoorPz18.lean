/- Part Pz18. -/
import Derived.Test.YtlbmnokpiilfpaaGreatDoorPz17
import Derived.Test.YtlbmnokpiilfpaaGreatDoorPz12
import Derived.BigQuiet
import Derived.Deep.LoopGhost
set_option linter.all false
set_option maxRecDepth 100000
set_option maxHeartbeats 100000000
namespace Go.Proofs.YtlbmnokpiilfpaaGreatDoor
open Tryz Go Go.RowKit
variable {f:Act} {ops:Array Oper} {s:ByteArray} {Q:Exit->Act->World->Prop} {va vars:Int} {L L' gs ls q q':List (List Int)} {l p xs ys:List Int} {rest:List Oper} {cs qc:List Value} {b0 base c cg d j k m n ng:Nat} {o:Oper} {y:Operand} {A a ag b:Option Addr} {P:Program} {e t:TypeId} {w w' wA:World}
open Classical in
noncomputable def rdN (vars:Int) (ts:List Tx):Option (List Pl.Tm):=if 0<=vars/\vars<=6/\okT vars ts ts.length then some (ts.map rdU)else none
def C7(b0:Nat)(w:World)(vars:Int)(o:Option (List Pl.Tm))(e:Ending)(w':World):Prop:=∃ a n c,e = .returned (.tuple #[.agg (pL (if o.isSome then vars else 0) a n c).toArray,.bool o.isSome])/\Ext w w'/\TO w' b0 w.heap.size a n c (o.getD [])
theorem C7.no{o:Option (List Pl.Tm)}(h:o=none)(e:Ext w w'):C7 b0 w vars o (.returned (.tuple #[.agg (pL 0 none 0 0).toArray,.bool false])) w':=by
 subst h;exact⟨none,0,0,rfl,e,TO.nil _ _ _⟩
theorem SG{t:Tx}{q:Rat}(h1:AD t.1=some q)(h2:q≠0)(h3:(t.2.length:Int)=vars)(h4:∀ e∈t.2,0<=e/\e<=1048576):(AS vars t).isSome=true:=by
 unfold AS;rw[h1];simp only;rw[pP ⟨h2,h3,h4⟩];rfl
theorem Gd{t:Tx}(h:∀ q,AD t.1=some q->q≠0->(t.2.length:Int)=vars->¬ ∀ e∈t.2,0<=e/\e<=1048576):(AS vars t).isSome=false:=by
 unfold AS;cases b:AD t.1 with
 | none=>rfl
 | some q =>
  simp only;rw[pC (fun a=>h q b a.1 a.2.1 a.2.2)];rfl
theorem VV{ts:List Tx}(a:k<ts.length)(h:(AS vars (ts.getD k tm0)).isSome=false):rdN vars ts=none:=by
 unfold rdN;rw[pC];rintro⟨_,_,h1,_⟩;have:=h1 k a;rw[h]at this;cases this
theorem VW{ts:List Tx}(a:k+1<ts.length)(h:¬ 0<Pl.ordE (ts.getD k tm0).2 (ts.getD (k+1) tm0).2):rdN vars ts=none:=by
 unfold rdN;rw[pC];rintro⟨_,_,_,h1⟩;exact h (h1 k a)
theorem okT.step{ts:List Tx}(h:okT vars ts k)(h1:(AS vars (ts.getD k tm0)).isSome=true)(h2:∀ j,k=j+1->0<Pl.ordE (ts.getD j tm0).2 (ts.getD (j+1) tm0).2):okT vars ts (k+1):=by
 refine⟨fun i b => ?_,fun i b => ?_⟩
 · by_cases a:i<k
   · exact h.1 i a
   · have:i=k:=by omega
     subst this;exact h1
 · by_cases a:i+1<k
   · exact h.2 i a
   · exact h2 i (by omega)
theorem Uo(h:∀ i,i<l.length->0<=l.getD i 0/\l.getD i 0<=1048576):∀ x∈l,0<=x/\x<=1048576:=fun x b=>by
 obtain⟨i,a,rfl⟩:=ti b;have:=h i a
 rwa[gqq,oO a,pY]at this
theorem KP{ts:List Tx}(h:AH wA A n c ts)(hA:Ext wA w)(hs:∀ t∈ts,t.1.length<=10000)(hn:n<=100000) :
 Calls prog 88 #[.agg #[.int .i64 vars,.slice A n c]] w (C7 wA.heap.size w vars (rdN vars ts)):=by
 have c8:=h.len;obtain⟨eo,hS,_,hq⟩:=h;have HQ:=qh hq;have HL:=qh c8;have HS:=qh hs;obtain⟨r,hr⟩:∃ r,rdN vars ts=r:=⟨_,rfl⟩;rw[hr];have HR:=qh hr;clear hr hq c8 hs
 go_enter func88,ntmps88
 go_upto_region 1 with(fail)
 refine Cf ?_;intro w0 O bt cl c4;have aa:Arr w0 (w.heap.size+1) 44 (pL 0 none 0 0):=cl;have p0:=bt.c 0 rfl;have p1:=bt.c 1 rfl;have b0:=Arr.new w0 44 (pL vars none 0 0);have a6:=(Ext.refl w0).alloc (.cells (pL vars none 0 0).toArray 44);clear bt cl
 go_upto_region 2 with(fail)
 change Code.wp _ _ _ _ (w0.alloc (.cells (pL vars none 0 0).toArray 44));generalize w0.alloc (.cells (pL vars none 0 0).toArray 44)=w2 at *
 have bq:Hid (w0.heap.size<=w.heap.size+2):=qh (vj c4);rw[c4]at b0;obtain⟨OB,bz⟩:∃ OB,w.heap.size+2=OB:=⟨_,rfl⟩;rw[bz]at b0 bq;simp only[bz];clear bz c4;have q0:=a6.cell p0;by_cases hv:0<=vars/\vars<=6
 case neg =>
  have HF:Hid (r=none):=qh (by rw[<-HR.out];unfold rdN;rw[pC (fun h=>hv ⟨h.1,h.2.1⟩)]);have e5:vars<0\/¬ vars<0/\6<vars:=by omega
  have dJ:=aa.ext a6;have aA:=O.trans a6;clear p0 p1;rcases e5 with c1|⟨c1,c2⟩
  all_goals
   go_wp2_with(refine Aa (vs:=pL 0 none 0 0) rfl rfl rfl rfl rfl AJ dJ rfl (AT _ _ _ _) ?_;intro w9 z o)
   exact py (Ao rfl AJ rfl rfl z) rfl (C7.no HF.out (aA.grownR o (by omega)))
 obtain⟨eg,ei⟩:=hv;obtain⟨vn,rfl⟩:∃ k:Nat,vars=(k:Int):=⟨vars.toNat,by omega⟩;have c1:¬ ((vn:Int)<0):=by omega
 have c2:¬ ((6:Int)<(vn:Int)):=by omega
 go_wp2;clear q0 c1 c2
 go_loopg [5] n (fun gk iv wr=>∃ (k:Nat) (ao:Option Addr) (co:Nat),iv = .int .i64 k/\k<=n/\n<=k+gk/\Ext w0 wr/\Arr wr OB 44 (pL vn ao k co)/\Hid (TO wr wA.heap.size w0.heap.size ao k co ((ts.take k).map rdU))/\Hid (okT vn ts k))
 case atStart=>exact⟨0,none,0,rfl,pE _,by omega,a6,b0,qh (by rw[rf];exact TO.nil _ _ _),qh ⟨fun i hi=>absurd hi (by omega),fun i hi=>absurd hi (by omega)⟩⟩
 case round =>
  clear a6 b0;obtain⟨k,ao,co,rfl,hk,eq,hE,a9,HO,HK⟩:=hrel;have aA:=O.trans hE;have ay:=hA.trans aA;have d6:=hE.cell p0;have d7:=hE.cell p1;by_cases bL:k<n
  case neg =>
   have db:¬ (k:Int)<n:=by omega
   have hT:TO wr wA.heap.size w0.heap.size ao k co (ts.map rdU):=by
    have h1:=HO.out;rw[pu (by have:=HL.out;omega)]at h1;exact h1
   have HT:=qh hT
   have HF:Hid (r=some (ts.map rdU)):=qh (by
    rw[<-HR.out];unfold rdN
    rw[pP ⟨eg,ei,by rw[HL.out,<-show k=n by omega];exact HK.out⟩])
   have z0:=a9.c 0 rfl;have z1:=a9.c 1 rfl;have cr:=aa.ext hE;clear HO HK hT a9 hk
   go_wp2_with(refine Aa (vs:=pL vn ao k co) rfl rfl rfl rfl rfl AJ cr rfl (AT _ _ _ _) ?_;intro w9 z o)
   refine py (Ao rfl AJ rfl rfl z) rfl ?_;rw[HF.out];exact⟨ao,k,co,rfl,aA.grownR o (by omega),(HT.out.keptA cr (by decide) (by decide) (by decide) (by have:=hA.size;omega) o).mono O.size⟩
  have db:(k:Int)<n:=by omega
  have cs:=hS.ext ay;obtain⟨b,M,rfl,b4⟩:=cs.rd (by omega);obtain⟨s,ax,I,cx,bn,bW,bf⟩:=HQ.out k bL;have ac:k<ts.length:=by have:=HL.out;omega
  have c5:Hid (ts.getD k tm0∈ts):=qh (by rw[gqq,oO ac,pY];exact qG ac);have gs:wr.cell? ⟨b,M+k*2,none⟩=some (.string s):=by have:=b4 k bL 0 (by omega);rw[bn]at this;exact this
  have gx:wr.cell? ⟨b,M+k*2+1,none⟩=some (.slice ax I cx):=by have:=b4 k bL 1 (by omega);rw[bn]at this;exact this
  have cT:=qh ((Xw bf).ext ay);have ah:=bf.ext ay;have bN:=bf.len;have cQ:s.size<=10000:=by rw[<-Ay,bW];exact HS.out _ c5.out
  have b9:=qh (OO (w:=wr) cQ);rw[bW]at b9;have ce:=qh (Uk ac);have m:=fun h=>qh (VV (vars:=(vn:Int)) ac h);have p:=fun h h2=>qh (HK.out.step (k:=k) h h2)
  have Z:Hid (∀ j,k=j+1->∃ ap cp,wr.cell? ⟨b,M+j*2+1,none⟩=some (.slice ap vn cp)/\SlI wr ap vn cp (ts.getD j tm0).2/\∀ x∈(ts.getD j tm0).2,0<=x/\x<=1048576):=qh (fun j hj=>by
   obtain⟨sp,ap,np,cp,d9,_,ag⟩:=HQ.out j (by omega);have h1:=CU (HK.out.1 j (by omega));have h2:=ag.len;have h3:np=vn:=by omega
   subst h3;have h4:=b4 j (by omega) 1 (by omega);rw[d9]at h4
   exact⟨ap,cp,h4,ag.ext ay,h1.2⟩)
  have B:=fun j (hj:k=j+1) h=>qh (VW (vars:=(vn:Int)) (ts:=ts) (k:=j) (by omega) h);rw[HR.out]at m B;obtain⟨t,bs⟩:∃ t,Hid (ts.getD k tm0=t):=⟨_,qh rfl⟩;rw[bs.out]at b9 cT ah bN c5 ce m p;have a5:=qh bN;clear b4 bn bf bW cQ cs ac HK bN
  go_wp2_with fail
  refine b9.out.mono ?_;rintro e w3 ⟨X,Q,W,T,R,V,U,rfl,cn,c0⟩;have cv:=Arr.new w3 99 (Al false none 0 0 false none 0 0);have ea:(Al X Q W T false R V U).toArray=#[.bool X,.slice Q W T,.bool false,.slice R V U]:=rfl
  go_upto_region 8 with(refine Aa (vs:=Al X Q W T false R V U) rfl rfl rfl rfl rfl By cv rfl (Aq _ _ _ _ _ _ _ _) ?_;intro w4 a0 cA)
  have aj:Ext w3 w4:=((Ext.refl w3).alloc _).grownR cA (lrf _);have K:=cn.trans aj;have J:=hE.trans K;have bi:=K.cell d6;have bj:=K.cell d7;have av:=K.cell gx;obtain⟨Y,ct⟩:∃ x,w3.heap.size=x:=⟨_,rfl⟩;rw[ct]at a0 |-;have z0:=a0.c 0 rfl;have z1:=a0.c 1 rfl;have z2:=a0.c 2 rfl;have z3:=a0.c 3 rfl;clear cv cA ea b9 a0 ct gs gx d6 d7;cases ad:AD t.1 with
  | none =>
   have G:Hid (r=none):=qh (m (Gd (fun q hq=>by rw[ad]at hq;cases hq))).out;have H:=aa.ext J;have L:=O.trans J;simp only[xd];clear ad c0 Z B p m ah
   go_upto_region 8 with(fail)
   go_quiet (fail)
   go_wp2_with(refine Aa (vs:=pL 0 none 0 0) rfl rfl rfl rfl rfl AJ H rfl (AT _ _ _ _) ?_;intro w9 z o)
   exact py (Ao rfl AJ rfl rfl z) rfl (C7.no G.out ((L.drewN _).grownR o (by omega)))
  | some q =>
   obtain⟨cd,cR,d0⟩:=c0 q ad;have bd:=cR.ext aj;have bg:=d0.ext aj;simp only[vC];have ar:=qh ad;obtain⟨S,ab⟩:∃ S,q.num.sign=S:=⟨_,rfl⟩;have bR:=qh (fun(f:World) (a:Ext w4 f)=>Md (v := .agg #[.bool X,.slice Q W T,.bool false,.slice R V U]) (q:=q) ⟨X,Q,W,T,R,V,U,rfl,cd,bd.ext a,bg.ext a⟩ ab);clear ad c0 cR d0;by_cases a1:q=0
   case pos =>
    have e3:S=0:=by rw[<-ab,a1];rfl
    have G:Hid (r=none):=qh (m (Gd (fun q' b8 eb=>by rw[ar.out]at b8;injection b8 with b8;exact absurd (b8.symm.trans a1) eb))).out;subst e3;clear ab a1 Z B p m bd bg ah
    go_upto_region 8 with(fail)
    have a4:=fun(f:World) (a:Ext w4 f)=>qh (And.intro (a.cell z0) (And.intro (a.cell z1) (And.intro (a.cell z2) (And.intro (a.cell z3) (And.intro (a.cell av) (And.intro (a.cell bi) (a.cell bj)))))))
    refine B0
     [hdB true,hdB false,hdB false,he (.agg #[.bool X,.slice Q W T,.bool false,.slice R V U]),hp (fun v f=>v = .int .i64 0),hdB true,hdB true,hdB true,hdU,hdU,hdU,hdU,hdU,hdU,hdU,hdU,hdU,hdU,hdB true]
     ⟨fun v w w' e h=>h,trivial⟩ ⟨?o0,?o1,?o2,?o3,?o4,?o5,?o6,?o7,?o8,?o9,?o10,?o11,?o12,?o13,?o14,?o15,?o16,?o17,?o18,trivial⟩ ?fin
    case o0 | o2 | o7=>exact omv
    case o3=>exact ol4
    case o8 | o9 | o10 | o11 | o12 | o13 | o14 | o15 | o16 | o17=>exact O5 rfl
    case o1 =>
     refine Aj rfl fun ρ f a l h => ?_;have e0:_=_:=h.1;obtain⟨C,D,E,F,kx,ka,kb⟩:=(a4 f a).out;go_simp
    case o4 =>
     refine Ag rfl fun ρ f a l cz h => ?_;have e1:_=_:=h.2.1;obtain⟨C,D,E,F,kx,ka,kb⟩:=(a4 f a).out;refine⟨132,#[.agg #[.bool X,.slice Q W T,.bool false,.slice R V U]],by go_simp,(bR.out f a).mono ?_⟩;rintro e w' ⟨rfl,bv⟩;exact⟨_,rfl,bv,rfl⟩
    case o5 =>
     refine Aj rfl fun ρ f a l h => ?_;obtain⟨v0,e0,rfl⟩:=h.1;obtain⟨C,D,E,F,kx,ka,kb⟩:=(a4 f a).out;go_simp
     try (first | (intros;omega) | exact pq _ (by omega))
    case o6 =>
     refine Aj rfl fun ρ f a l h => ?_;have e0:_=_:=h.1;have e2:_=_:=h.2.2.1;obtain⟨C,D,E,F,kx,ka,kb⟩:=(a4 f a).out;go_simp
    case o18 =>
     refine Aj rfl fun ρ f a l h => ?_;have e0:_=_:=h.1;have e2:_=_:=h.2.2.1;obtain⟨C,D,E,F,kx,ka,kb⟩:=(a4 f a).out;go_simp
    case fin =>
     intro f a;rintro _ rfl;change wpList _ _ _ _ _ _;simp only[Ci];have H:=(aa.ext J).ext a;have L:=(O.trans J).trans a
     go_wp2_with(refine Aa (vs:=pL 0 none 0 0) rfl rfl rfl rfl rfl AJ H rfl (AT _ _ _ _) ?_;intro w9 z o)
     exact py (Ao rfl AJ rfl rfl z) rfl (C7.no G.out (L.grownR o (by omega)))
   have ef:((S:Int) == 0)=false:=by rw[<-ab];simpa using IR a1
   obtain⟨bb,b2⟩:∃ bb,((I:Int) != (vn:Int))=bb:=⟨_,rfl⟩;clear ab
   go_upto_region 8 with(fail)
   have N:=fun(f:World) (a:Ext w4 f)=>qh (And.intro (a.cell z0) (And.intro (a.cell z1) (And.intro (a.cell z2) (And.intro (a.cell z3) (And.intro (a.cell av) (And.intro (a.cell bi) (a.cell bj)))))))
   refine B0
    [hdB true,hdB false,hdB false,he (.agg #[.bool X,.slice Q W T,.bool false,.slice R V U]),hp (fun v f=>v = .int .i64 S),hdB false,hdB false,hdB false,hdP w.heap.size 1,hdS (some ⟨b,M,none⟩) n c,hdI k,hdP b (M+k*2),hdP b ((M+k*2)+1),hdS ax I cx,hdI I,hdP w.heap.size 0,hdI vn,hdB bb,hdB bb]
    ⟨fun v w w' e h=>h,trivial⟩ ⟨?o0,?o1,?o2,?o3,?o4,?o5,?o6,?o7,?o8,?o9,?o10,?o11,?o12,?o13,?o14,?o15,?o16,?o17,?o18,trivial⟩ ?fin
   case o0 | o2 | o7 | o10=>exact omv
   case o3=>exact ol4
   case o8 | o12=>exact ofa (d:=1)
   case o9 | o13 | o16=>exact ol
   case o15=>exact ofa (d:=0)
   case o1 =>
    refine Aj rfl fun ρ f a l h => ?_;have e0:_=_:=h.1;obtain⟨C,D,E,F,kx,ka,kb⟩:=(N f a).out;go_simp
   case o4 =>
    refine Ag rfl fun ρ f a l cz h => ?_;have e1:_=_:=h.2.1;obtain⟨C,D,E,F,kx,ka,kb⟩:=(N f a).out;refine⟨132,#[.agg #[.bool X,.slice Q W T,.bool false,.slice R V U]],by go_simp,(bR.out f a).mono ?_⟩;rintro e w' ⟨rfl,bv⟩;exact⟨_,rfl,bv,rfl⟩
   case o5 =>
    refine Aj rfl fun ρ f a l h => ?_;obtain⟨v0,e0,rfl⟩:=h.1;obtain⟨C,D,E,F,kx,ka,kb⟩:=(N f a).out;go_simp
    try (first | (intros;omega) | exact pq _ (by omega))
   case o6 =>
    refine Aj rfl fun ρ f a l h => ?_;have e0:_=_:=h.1;have e2:_=_:=h.2.2.1;obtain⟨C,D,E,F,kx,ka,kb⟩:=(N f a).out;go_simp
   case o11 =>
    refine Aj rfl fun ρ f a l h => ?_;have e0:_=_:=h.1;have e1:_=_:=h.2.1;obtain⟨C,D,E,F,kx,ka,kb⟩:=(N f a).out;go_simp
    try (first | (intros;omega) | exact pq _ (by omega))
   case o14 =>
    refine Aj rfl fun ρ f a l h => ?_;have e0:_=_:=h.1;obtain⟨C,D,E,F,kx,ka,kb⟩:=(N f a).out;go_simp
   case o17 =>
    refine Aj rfl fun ρ f a l h => ?_;have e0:_=_:=h.1;have e1:_=_:=h.2.1;obtain⟨C,D,E,F,kx,ka,kb⟩:=(N f a).out;go_simp
    try (first | (intros;omega) | exact pq _ (by omega))
   case o18 =>
    refine Aj rfl fun ρ f a l h => ?_;have e0:_=_:=h.1;have e2:_=_:=h.2.2.1;obtain⟨C,D,E,F,kx,ka,kb⟩:=(N f a).out;go_simp
   case fin =>
    intro f a;rintro _ rfl;change wpList _ _ _ _ _ _;simp only[Ci];generalize ek:f=w5 at *
    clear ek;have c6:=J.trans a;have H:=aa.ext c6;have L:=O.trans c6;have el:=a.cell bi;have d8:=a.cell bj;have gy:=a.cell av;have ai:=K.trans a;have P:=ah.ext ai;have y0:=a.cell z0;have y1:=a.cell z1;have y2:=a.cell z2;have y3:=a.cell z3;have ch:=qh (bd.ext a);have ck:=qh (bg.ext a);clear z0 z1 z2 z3 bi bj av bR bd bg a ef ah K J cn aj;cases bb with
    | true =>
     have b7:¬ (I:Int)=vn:=by simpa using b2
     have G:Hid (r=none):=qh (m (Gd (fun q' _ _ h3=>absurd (by rw[<-a5.out];exact h3) b7))).out;clear b2 b7 Z B p m P
     go_wp2_with(refine Aa (vs:=pL 0 none 0 0) rfl rfl rfl rfl rfl AJ H rfl (AT _ _ _ _) ?_;intro w9 z o)
     exact py (Ao rfl AJ rfl rfl z) rfl (C7.no G.out (L.grownR o (by omega)))
    | false =>
     have ed:(I:Int)=vn:=by simpa using b2
     have ec:I=vn:=by omega
     have a5:=a5.out;subst ec;have bp:=qh a5;clear b2 ed a5;go_wp2
     go_loop[8] (fun kv=>∃ j:Nat,kv = .int .i64 j/\j<=I/\Hid (∀ i,i<j->0<=t.2.getD i 0/\t.2.getD i 0<=1048576)) (fun kv=>I-(intOf kv).toNat)
     case atStart=>exact⟨0,rfl,pE _,qh (fun i hi=>absurd hi (by omega))⟩
     case round =>
      obtain⟨j,rfl,hj,HJ⟩:=hrel;by_cases b6:j<I
      · have da:(j:Int)<I:=by omega
        obtain⟨b',en,rfl,hc⟩:=P.at b6;have c1:=hc j b6;have HM:Hid (t.2.getD j 0∈t.2):=qh (Y6 (by rw[bp.out];exact b6))
        have al:Hid (0<=t.2.getD j 0->t.2.getD j 0<=1048576->∀ i,i<j+1->0<=t.2.getD i 0/\t.2.getD i 0<=1048576):=qh (fun h1 h2 i hi=>by
         by_cases e7:i<j
         · exact HJ.out i e7
         · have:i=j:=by omega
           subst this
           exact⟨h1,h2⟩)
        have a2:Hid (¬ (0<=t.2.getD j 0/\t.2.getD j 0<=1048576)->r=none):=qh (fun h=>(m (Gd (fun _ _ _ _ h4=>h (h4 _ HM.out)))).out);clear hc HM Z B p m P HJ;generalize t.2.getD j 0=x at *
        by_cases es:x<0
        · have G:Hid (r=none):=qh (a2.out (by omega));clear al a2
          go_upto_region 14 with(fail)
          go_wp2_with(have hq:=H;clear H;refine Aa (vs:=pL 0 none 0 0) rfl rfl rfl rfl rfl AJ hq rfl (AT _ _ _ _) ?_;intro w9 z o)
          have h9:=L.grownR o (by omega);exact py (Ao rfl AJ rfl rfl z) rfl (C7.no G.out h9)
        by_cases et:1048576<x
        · have G:Hid (r=none):=qh (a2.out (by omega));clear al a2
          go_upto_region 14 with(fail)
          go_wp2_with(have hq:=H;clear H;refine Aa (vs:=pL 0 none 0 0) rfl rfl rfl rfl rfl AJ hq rfl (AT _ _ _ _) ?_;intro w9 z o)
          have h9:=L.grownR o (by omega);exact py (Ao rfl AJ rfl rfl z) rfl (C7.no G.out h9)
        have dd:=qh (al.out (by omega) (by omega));clear al a2;go_wp2;go_round
        case rel=>exact⟨j+1,by go_num,by omega,dd⟩
        case measure=>simp[intOf];omega
      have da:¬ (j:Int)<I:=by omega
      have HB:Hid (∀ x∈t.2,0<=x/\x<=1048576):=qh (Uo (fun i hi=>HJ.out i (by rw[bp.out]at hi;omega)));have cg:Hid ((AS (I:Int) t).isSome=true):=qh (SG ar.out a1 (by rw[bp.out]) HB.out);have dj:Hid (rdU t=(t.2,q)):=by show _=_;unfold rdU;rw[ar.out];rfl
      clear HJ hj b6 m a1 ar;have e6:k=0\/∃ j,k=j+1:=by cases k;exact .inl rfl;exact .inr ⟨_,rfl⟩
      go_upto_region 15 with(fail)
      rcases e6 with e9|⟨j,bK⟩
      case' inl =>
       have cc:Hid (okT I ts (k+1)):=qh (p cg.out (fun j hj=>by omega)).out;have b5:¬ (0:Int)<k:=by omega
       have bl:¬ 0<k:=by omega
       have bm:decide ((0:Int)<k)=false:=pN b5;clear e9 Z B p
       go_quiet (fail)
       clear bl bm
      case' inr =>
       obtain⟨ap,cp,gp,ag,cy⟩:=Z.out j bK;have ak:=fun(f:World) (hq:Ext w5 f)=>qh (FN ((ag.ext ai).ext hq) (P.ext hq) (by omega) (fun x hx=>by have:=cy x hx;omega) (fun x hx=>by have:=HB.out x hx;omega));have ds:=ai.cell gp;obtain⟨v,HV⟩:∃ v,Hid (Pl.ordE (ts.getD j tm0).2 t.2=v):=⟨_,qh rfl⟩;rw[HV.out]at ak;have ej:IntKind.i64.wrap ((k:Int)-1)=(j:Int):=by rw[show(k:Int)-1=(j:Int) by omega];exact pq _ (by omega)
       have b5:(0:Int)<k:=by omega
       have bl:0<k:=by omega
       have bm:decide ((0:Int)<k)=true:=qC b5;have e8:(j:Int)<n:=by omega
       have aq:=qh bK;clear bK gp cy ag Z;by_cases c9:0<v
       case neg =>
        have G:Hid (r=none):=qh (B j aq.out (by rw[<-aq.out,bs.out,HV.out];omega)).out;have ba:v<=0:=by omega
        have ca:decide (v<=0)=true:=qC ba;clear B p
        go_quiet (exact sV (ak _ ((Ext.refl w5).drewN _)).out)
        have dT:=H.ext ((Ext.refl w5).drewN nq);have dw:=L.drewN nq;generalize w5.drewN nq=w6 at *
        go_wp2_with(refine Aa (vs:=pL 0 none 0 0) rfl rfl rfl rfl rfl AJ dT rfl (AT _ _ _ _) ?_;intro w9 z o)
        exact py (Ao rfl AJ rfl rfl z) rfl (C7.no G.out (dw.grownR o (by omega)))
       have cc:Hid (okT I ts (k+1)):=qh (p cg.out (fun j' er=>by
        have h1:j'=j:=by have:=aq.out;omega
        rw[h1,<-aq.out,bs.out,HV.out]
        exact c9)).out
       have ba:¬ v<=0:=by omega
       have ca:decide (v<=0)=false:=pN ba;clear B p
       go_quiet (exact sV (ak _ ((Ext.refl w5).drewN _)).out)
       clear ak ds ej e8 c9 bl bm ba ca
      all_goals
       have y:Ext w5 (w5.drewN nq):=(Ext.refl w5).drewN nq;generalize w5.drewN nq=w6 at *
       have bk:=ai.trans y;have pp:w6.cell? ⟨OB,1,none⟩=some (.slice ao k co):=(a9.ext bk).cell (i:=1) (by simp[pL]);have em:=y.cell d8;have gz:=y.cell gy;have u0:=y.cell y0;have u1:=y.cell y1;have u2:=y.cell y2;have u3:=y.cell y3;have dn:=qh (cT.out.ext bk);have dl:=qh (ch.out.ext y);have dq:=qh (ck.out.ext y);clear el d8 gy y0 y1 y2 y3 ch ck y P H L b5
       go_upto_region 17 with(fail)
       have bo:=fun(f:World) (a:Ext w6 f)=>qh (And.intro (a.cell u0) (And.intro (a.cell u1) (And.intro (a.cell u2) (And.intro (a.cell u3) (And.intro (a.cell pp) (And.intro (a.cell em) (a.cell gz)))))))
       refine B0
        [hdP OB 1,hdS ao k co,he (.agg #[.bool X,.slice Q W T,.bool false,.slice R V U]),hdP w.heap.size 1,hdS (some ⟨b,M,none⟩) n c,hdI k,hdP b (M+k*2),hdP b ((M+k*2)+1),hdS ax I cx,he (.agg #[.bool X,.slice Q W T,.bool false,.slice R V U,.slice ax I cx]),hp (fun v f=>∃ g,v = .slice (some ⟨g,0,none⟩) 1 1/\Arr f g 103 (tL X Q W T R V U ax I cx))]
        ⟨fun v w w' e ⟨g,h1,h2⟩=>⟨g,h1,h2.ext e⟩,trivial⟩ ⟨?o0,?o1,?o2,?o3,?o4,?o5,?o6,?o7,?o8,?o9,?o10,trivial⟩ ?fin
       case o0 | o3 | o7=>exact ofa (d:=1)
       case o1 | o4 | o8=>exact ol
       case o2=>exact ol4
       case o5=>exact omv
       case o6 =>
        refine Aj rfl fun ρ f a l h => ?_;have e0:_=_:=h.1;have e1:_=_:=h.2.1;obtain⟨d1,d2,d4,d5,kp,kq,kg⟩:=(bo f a).out;go_simp
        try (first | (intros;omega) | exact pq _ (by omega))
       case o9 =>
        refine Aj rfl fun ρ f a l h => ?_;have e0:_=_:=h.1;have e1:_=_:=h.2.1;obtain⟨d1,d2,d4,d5,kp,kq,kg⟩:=(bo f a).out;go_simp
       case o10 =>
        refine AE rfl ?_;intro ρ f hp a h;have l:=hp.const;have cz:=hp.func;have e0:_=_:=h.1;obtain⟨d1,d2,d4,d5,kp,kq,kg⟩:=(bo f a).out;refine⟨_,_,?_,(Ext.refl f).alloc (.cells (tL X Q W T R V U ax I cx).toArray 103),f.heap.size,rfl,Arr.new f 103 (tL X Q W T R V U ax I cx)⟩;simp[execOp,e0,EK underlying42 B8];rfl
       case fin =>
        intro f a;rintro _ ⟨g9,rfl,dx⟩;change wpList _ _ _ _ _ _;simp only[Ci];obtain⟨eu,hK,dA,dy⟩:=HO.out;have a8:=bk.trans a;have bx:=hK.ext a8;have hL:=BT (k:=5) dx rfl;have cq:=a9.ext a8;have b7:=bx.ne cq (by decide);have dc:=(hE.trans a8).size;have e4:wA.heap.size<=OB:=pD hA.size (pD O.size bq.out)
        go_wp2_with(refine Dn rfl rfl underlying42 B8 rfl bx rfl hL (by intro r hr u hu;rw[pF.1 hr]at hu;exact FM u hu) (by unfold maxLen;omega) (by omega) dc ?_;intro a7 c7 w7 dB bG ep;have b1:=cq.kept bG b7;have ex:=b1.frozen 1;have ev:w7.cell? ⟨OB,1,none⟩=some (.slice ao k co):=b1.cell (i:=1) (by simp[pL]))
        have cb:=TO.grow bx dA (fun j hj=>(dy j hj).ext a8) (⟨X,Q,W,T,R,V,U,ax,I,cx,rfl,cd,dl.out.ext a,dq.out.ext a,dn.out.ext a⟩:TC _ wA.heap.size (tL X Q W T R V U ax I cx) (t.2,q)) (pD hA.size O.size) dB bG;rw[<-dj.out,ce.out]at cb;have dt:Ext w0 w7:=(hE.trans a8).grown bG (fun g hg=>(hK.lt hg).1);have cP:=Ar w7 OB 1 (.slice a7 (k+1) c7);have dI:Arr (w7.setCell ⟨OB,1,none⟩ (.slice a7 (k+1) c7)) OB 44 (pL I a7 (k+1) c7):=b1.set 1 _;have de:=cb.keptA b1 (by decide) (by decide) (by decide) e4 cP
        have dv:=dt.grownR cP bq.out
        go_roundg (n-(k+1))
        case rel=>exact⟨k+1,a7,c7,by go_num,by omega,by omega,dv,dI,qh de,cc⟩
        case measure=>omega
open Classical in
noncomputable def rdR (vars:Int) (ts:List Tx):Option (List Pl.Tm):=if ts.length<=4096/\∀ t r,ts=t :: r->A3 t.2=true then rdN vars ts else none
theorem Qj{ts:List Tx}{l:List Pl.Tm}(h:rdN vars ts=some l):l=ts.map rdU:=by
 unfold rdN at h;split at h
 · injection h with h;exact h.symm
 · cases h
theorem Up{ts:List Tx}(h:rdN vars ts=none):rdR vars ts=none:=by
 unfold rdR;rw[h];split <;> rfl
theorem VZ{ts:List Tx}{l:List Pl.Tm}(h:rdN vars ts=some l)(h0:l.length=0):rdR vars ts=some l:=by
 have h1:=Qj h;have h2:ts=[]:=by
  rw[h1,pH]at h0;exact pG h0
 unfold rdR;rw[h,pP];exact⟨by rw[h2];exact pE _,fun t r a=>by rw[h2]at a;cases a⟩
theorem Uq{ts:List Tx}{l:List Pl.Tm}(h:rdN vars ts=some l)(h0:0<l.length)(c:ts.length<=4096):rdR vars ts=if A3 (l.getD 0 tz).1=true then some l else none:=by
 have h1:=Qj h;subst h1
 match ts,h0,c,h with
 | t :: r,_,c,h =>
 unfold rdR;rw[h];have e:((t :: r).map rdU).getD 0 tz=rdU t:=rfl;rw[e];by_cases a:A3 t.2=true
 · rw[pP (show A3 (rdU t).1=true from a),pP];exact⟨c,fun f d b=>by injection b with h2 h3;rw[<-h2];exact a⟩
 · rw[pC (show ¬ A3 (rdU t).1=true from a),pC];rintro⟨_,b⟩;exact a (b t r rfl)
theorem Bv{ts:List Tx}(h:AH wA A n c ts)(hA:Ext wA w)(hs:∀ t∈ts,t.1.length<=10000) :
 Calls prog 25 #[.agg #[.int .i64 vars,.slice A n c]] w (C7 wA.heap.size w vars (rdR vars ts)):=by
 have j:=h.len;by_cases hn:n<=4096
 case neg =>
  have q:Hid (rdR vars ts=none):=qh (by unfold rdR;exact pC (fun hc=>hn (by rw[j]at hc;exact hc.1)))
  go_enter func25,ntmps25
  go_upto_region 1 with(fail)
  refine Cf ?_;intro w0 y k r a3;have I:Arr w0 (w.heap.size+1) 44 (pL 0 none 0 0):=r;have p1:=k.c 1 rfl;have R:(4096:Int)<n:=by omega
  clear k r j
  go_wp2_with(refine Aa (vs:=pL 0 none 0 0) rfl rfl rfl rfl rfl AJ I rfl (AT _ _ _ _) ?_;intro H f g)
  exact py (Ao rfl AJ rfl rfl f) rfl (C7.no q.out (y.grownR g (by omega)))
 have HL:=qh j;clear j
 go_enter func25,ntmps25
 go_upto_region 1 with(fail)
 refine Cf ?_;intro w0 y k r a3;have I:Arr w0 (w.heap.size+1) 44 (pL 0 none 0 0):=r;have p0:=k.c 0 rfl;have p1:=k.c 1 rfl;have R:¬ (4096:Int)<n:=by omega
 have M:=qh (KP (vars:=vars) h (hA.trans y) hs (by omega));obtain⟨o,ho⟩:∃ o,rdN vars ts=o:=⟨_,rfl⟩;rw[ho]at M;have W:=qh ho;clear k r h hs ho
 go_wp2_with fail
 refine M.out.mono ?_;rintro e N ⟨D,p,B,rfl,O,J⟩;have P:=I.ext O;have U:=Arr.new N 44 (pL 0 none 0 0);have G:=y.trans O;clear M p0 p1 R;cases o with
 | none =>
  have q:=qh (Up W.out);simp only[xd,si,tJ];have K:(pL 0 D p B).toArray=#[.int .i64 0,.slice D p B]:=rfl
  go_upto_region 4 with(refine Aa (vs:=pL 0 D p B) rfl rfl rfl rfl rfl AJ U rfl (AT _ _ _ _) ?_;intro V v z)
  have d:Ext N V:=((Ext.refl N).alloc _).grownR z (lrf _);have a:=P.ext d;have i:=G.trans d;clear U z K
  go_upto_region 5 with(fail)
  go_wp2_with(have L:=a;clear a;refine Aa (vs:=pL 0 none 0 0) rfl rfl rfl rfl rfl AJ L rfl (AT _ _ _ _) ?_;intro H f g)
  exact py (Ao rfl AJ rfl rfl f) rfl (C7.no q.out (i.grownR g (by omega)))
 | some l =>
  simp only[vC,tM,pY]at J |-;have K:(pL vars D p B).toArray=#[.int .i64 vars,.slice D p B]:=rfl
  go_upto_region 4 with(refine Aa (vs:=pL vars D p B) rfl rfl rfl rfl rfl AJ U rfl (AT _ _ _ _) ?_;intro V v z)
  have d:Ext N V:=((Ext.refl N).alloc _).grownR z (lrf _);have a:=P.ext d;have i:=G.trans d;have C:=qh (J.ext d);obtain⟨Y,Q⟩:∃ x,N.heap.size=x:=⟨_,rfl⟩;rw[Q]at v |-;have z0:=v.c 0 rfl;have z1:=v.c 1 rfl;clear U z K v Q J
  have F:Hid (rdR vars ts=some l->∀ H,V.grownBy H (some (w.heap.size+1))->C7 wA.heap.size w vars (rdR vars ts) (.returned (.tuple #[.agg (pL vars D p B).toArray,.bool true])) H):=qh (fun hr H hg=>by
   rw[hr]
   exact⟨D,p,B,rfl,i.grownR hg (by omega),(C.out.keptA a (by decide) (by decide) (by decide) (by have:=hA.size;omega) hg).mono y.size⟩)
  by_cases h0:0<p
  case neg =>
   have Z:¬ (0:Int)<p:=by omega
   have X:=qh (VZ W.out (by have:=C.out.sl.len;omega));clear h0
   go_upto_region 6 with(fail)
   go_wp2_with(have L:=a;clear a;refine Aa (vs:=pL vars D p B) rfl rfl rfl rfl rfl AJ L rfl (AT _ _ _ _) ?_;intro H f g)
   refine py (Ao rfl AJ rfl rfl f) rfl ?_;exact F.out X.out _ g
  have Z:(0:Int)<p:=by omega
  obtain⟨b,a4,a0,s,a2,n2,c2,b2,m2,d2,e2,k2,f2,-,-,-,-,g4,-,-,-,S⟩:=C.out.sl.at h0;subst a0;have E:=qh (IT S.1);have T:=qh (Uq W.out (by have:=C.out.sl.len;omega) (by rw[HL.out];exact hn));rw[r7,qy]at g4;clear S h0;cases m:A3 (l.getD 0 tz).1 with
  | false =>
   have q:Hid (rdR vars ts=none):=by have:=T.out;rw[m]at this;exact qh this
   rw[m]at E;clear m T
   go_wp2_with fail
   refine E.out.mono ?_;rintro e w5 ⟨rfl,rfl⟩
   go_upto_region 5 with(fail)
   go_wp2_with(have L:=a;clear a;refine Aa (vs:=pL 0 none 0 0) rfl rfl rfl rfl rfl AJ L rfl (AT _ _ _ _) ?_;intro H f g)
   exact py (Ao rfl AJ rfl rfl f) rfl (C7.no q.out (i.grownR g (by omega)))
  | true =>
   have X:Hid (rdR vars ts=some l):=by have:=T.out;rw[m]at this;exact qh this
   rw[m]at E;clear m T
   go_wp2_with fail
   refine E.out.mono ?_;rintro e w5 ⟨rfl,rfl⟩
   go_upto_region 6 with(fail)
   go_wp2_with(have L:=a;clear a;refine Aa (vs:=pL vars (some ⟨b,a4,none⟩) p B) rfl rfl rfl rfl rfl AJ L rfl (AT _ _ _ _) ?_;intro H f g)
   refine py (Ao rfl AJ rfl rfl f) rfl ?_;exact F.out X.out _ g
theorem AU{ts:List Tx}{l:List Pl.Tm}(h:rdR va ts=some l):l=ts.map rdU/\ts.length<=4096/\0<=va/\va<=6/\okT va ts ts.length:=by
 unfold rdR at h;split at h
 · rename_i h1;have h2:=Qj h;unfold rdN at h;split at h
   · rename_i h3;exact⟨h2,h1.1,h3⟩
   · cases h
 · cases h
theorem BQ(va:Int)(ts:List Tx):(rdR va ts).isSome=(rdP va ts).isSome:=by
 unfold rdR rdP rdN rdWF;by_cases h1:ts.length<=4096/\∀ t r,ts=t :: r->A3 t.2=true
 · rw[pP h1,pP h1];by_cases h2:0<=va/\va<=6/\okT va ts ts.length
   · rw[pP h2,pP h2];rfl
   · rw[pC h2,pC h2]
 · rw[pC h1,pC h1]
theorem FT(va:Int)(ts:List Tx):rdP va ts=(rdR va ts).map AC:=by
 have h:=BQ va ts;cases a:rdR va ts with
 | none =>
  rw[a]at h;cases hp:rdP va ts with
  | none=>rfl
  | some l=>rw[hp]at h;cases h
 | some l =>
  rw[a]at h;cases hp:rdP va ts with
  | none=>rw[hp]at h;cases h
  | some l' =>
   rw[(Rv hp).1,(AU a).1];rfl
theorem Dk{ts:List Tx}{l:List Pl.Tm}(h:rdR va ts=some l):Pl.Canon va.toNat l:=by
 have h1:rdP va ts=some (AC l):=by rw[FT,h];rfl
 have h2:=(Rv h1).2
 rwa[<-(AU h).1]at h2
theorem Qr{ts:List Tx}{l:List Pl.Tm}(h:rdR va ts=some l):TB va.toNat l:=fun t a=>by
 have h1:=AU h;refine⟨(Dk h).len t a,?_⟩;rw[h1.1]at a;obtain⟨s,c,rfl⟩:=pU.1 a;obtain⟨i,b,rfl⟩:=ti c;have h2:=h1.2.2.2.2.1 i b;rw[gqq,oO b,pY]at h2;intro x d;have:=(CU h2).2 x d;omega
theorem Et{ts:List Tx}{l:List Pl.Tm}(h:rdR va ts=some l)(e:∀ t∈ts,t.1.length<=k):∀ t∈l,Pl.RB (4*k) t.2:=fun t c=>by
 rw[(AU h).1]at c;obtain⟨s,a,rfl⟩:=pU.1 c;have h1:=AU h;obtain⟨i,b,he⟩:=ti a;have h2:=h1.2.2.2.2.1 i b;rw[gqq,oO b,pY,he]at h2;obtain⟨m,d⟩:=sP.1 h2;have h3:=(Bm d).1;have h4:(rdU s).2=m.2:=by unfold rdU;rw[h3];rfl
 rw[h4];refine Ko ?_;rw[<-Cp h3];exact e s a
theorem Y7{ts:List Tx}{l:List Pl.Tm}(h:rdR va ts=some l):TBb 1048576 va.toNat l:=fun t a=>by
 have h1:=AU h;refine⟨(Dk h).len t a,?_⟩;rw[h1.1]at a;obtain⟨s,c,rfl⟩:=pU.1 a;obtain⟨i,b,rfl⟩:=ti c;have h2:=h1.2.2.2.2.1 i b;rw[gqq,oO b,pY]at h2;exact(CU h2).2
def NSm(b0 base N:Nat)(l:List Pl.Tm)(v:Value)(w:World):Prop:=∃ a n c out,v = .agg (pL (N:Int) a n c).toArray/\TO w b0 base a n c out/\n<=l.length/\Pl.Canon N out/\∀ e,Pl.coef out e=Pl.coef l e
theorem NSm.x(b0 base N:Nat)(l:List Pl.Tm):StX (NSm b0 base N l):=fun _ _ _ x ⟨a,n,c,b,h1,h2,h3⟩=>⟨a,n,c,b,h1,h2.ext x,h3⟩
theorem dZ(g:SlI w a n c xs)(i:SlI w b m d ys) :
 Calls prog 183 #[.slice a n c,.slice b m d] w fun e j=>e = .returned (.bool (decide (H3 xs ys<0)))/\Qt w j:=by
 go_enter func183,ntmps183
 go_wp2_with fail
 refine(Zt g i).mono ?_;rintro e k ⟨rfl,f⟩;go_wp2;go_ret;exact⟨rfl,f⟩
theorem eR(v:SlL w a n c ls)(z:SlI w b m d p)(F:ZW ls)(Q:n<=1000000) :
 Calls prog 174 #[.slice a n c,.slice b m d] w fun e T=>∃ k:Nat,e = .returned (.tuple #[.int .i64 k,.bool (decide (p∈ls))])/\Qt w T/\k<=n/\plI ls p k k:=by
 have x:=lz v.len;have A:=lz F;clear F
 go_enter func174,ntmps174
 go_wp2
 go_loopw[6,7] (fun i j wr=>∃ l f:Nat,i = .int .i64 l/\j = .int .i64 f/\l<=f/\f<=n/\Qt w wr/\Hid (plI ls p l f)) (fun i j _=>(intOf j).toNat-(intOf i).toNat)
 case atStart=>exact⟨0,n,rfl,rfl,pE _,lrf _,Qt.refl w,lz ⟨fun i f=>by omega,fun i h1 h2=>by have:=x.out;omega⟩⟩
 case round =>
  obtain⟨l,f,rfl,rfl,M,C,r,s⟩:=hrel;have v:=v.ext r.ext;have z:=z.ext r.ext;by_cases N:l<f
  · obtain⟨g,t⟩:∃ g:Nat,g=(l+f)/2:=⟨_,rfl⟩;have O:l<=g:=by omega
    have P:g<f:=by omega
    have W:(((l:Int)+(f:Int)).tdiv 2)=(g:Int):=by rw[qI (by omega)];omega
    obtain⟨J,S,I,R,K,rfl,L,s1⟩:=v.at (k:=g) (by omega);have V:=lz t;clear t;have H:=lz (fun h=>s.out.up (m:=g) A.out (by have:=x.out;omega) h);have G:=lz (fun h=>s.out.down (m:=g) A.out h);generalize ls.getD g []=q at *
    go_wp2_with fail
    refine(dZ s1 z).mono ?_;rintro e U ⟨rfl,o⟩;by_cases y:H3 q p<0
    · have B:decide (H3 q p<0)=true:=by simp[y]
      rw[B];go_wp2;go_roundw
      case rel=>exact⟨g+1,f,by go_num,rfl,by omega,C,r.trans o,lz (H.out y)⟩
      case measure=>simp[intOf];omega
    · have B:decide (H3 q p<0)=false:=by simp[y]
      rw[B];go_wp2;go_roundw
      case rel=>exact⟨l,g,rfl,rfl,by omega,by omega,r.trans o,lz (G.out y)⟩
      case measure=>simp[intOf];omega
  · have e:f=l:=by omega
    subst e;have E:=lz (s.out.found A.out);by_cases D:f<n
    · obtain⟨J,S,I,R,K,rfl,L,s1⟩:=v.at (k:=f) D
      go_wp2_with fail
      refine(bD s1 z).mono ?_;rintro e U ⟨rfl,o⟩;go_wp2
      go_ret2
      refine⟨f,?_,r.trans o,by omega,s.out⟩;have:decide (ls.getD f []=p)=decide (p∈ls):=by
       rw[rV,E.out];have:=x.out;constructor
       · intro h;exact⟨by omega,h⟩
       · exact fun h=>h.2
      rw[<-this];simp
    · go_wp2
      go_ret2
      refine⟨f,?_,r,by omega,s.out⟩;have:decide (p∈ls)=false:=by
       rw[decide_eq_false_iff_not,E.out];have:=x.out;omega
      rw[this];rfl
theorem an.perm(h:an gs n L q)(a:L'.Perm L)(b:q'.Perm q):an gs n L' q' :=
 ⟨a.nodup_iff.2 h.nodup,fun p hp=>h.reach p (a.mem_iff.1 hp),a.mem_iff.2 h.one,fun p hp=>a.mem_iff.2 (h.sub p (b.mem_iff.1 hp)),
  fun p hp d g c=>a.mem_iff.2 (h.closed p (a.mem_iff.1 hp) (fun x=>d (b.mem_iff.2 x)) g c),by rw[a.length_eq,b.length_eq];exact h.short⟩
theorem aT.perm{a:List Int}(h:aT gs n L q a j)(b:L'.Perm L):aT gs n L' q a j :=
 ⟨b.nodup_iff.2 h.nodup,fun p hp=>h.reach p (b.mem_iff.1 hp),b.mem_iff.2 h.one,fun p hp=>b.mem_iff.2 (h.sub p hp),b.mem_iff.2 h.mem,
  fun p hp e d g c=>b.mem_iff.2 (h.closed p (b.mem_iff.1 hp) e d g c),fun g c=>b.mem_iff.2 (h.part g c),by rw[b.length_eq];exact h.short⟩
def gr(L:List (List Int))(k:Nat)(b:List Int):List (List Int):=L.take k ++ [b] ++ L.drop k
theorem eS(L:List (List Int))(k:Nat)(b:List Int):(gr L k b).Perm (L ++ [b]):=by
 unfold gr;rw[qi];refine(List.Perm.append_left (L.take k) vF).trans ?_;rw[<-qi,rB]
theorem cu(L:List (List Int))(k:Nat)(b:List Int):(gr L k b).length=L.length+1:=by
 have:=(eS L k b).length_eq;simpa using this
theorem ft(c:k<=L.length)(b:List Int)(i:Nat):(gr L k b).getD i []=if i<k then L.getD i []else if i=k then b else L.getD (i-1) []:=by
 unfold gr;simp only[gqq];by_cases h1:i<k
 · rw[pP h1,qi,pO (by simp;omega),sj h1]
 · rw[pC h1,qi,pW (by simp;omega)];have a:(L.take k).length=k:=by simp;omega
   rw[a];by_cases h2:i=k
   · rw[pP h2];subst h2;simp
   · rw[pC h2,pW (by simp;omega),se];congr 2;simp;omega
theorem iY{b:List Int}(f:k<=L.length)(d:ZW L)(h:plI L b k k)(g:b ∉ L):ZW (gr L k b):=by
 have a:∀ i,k<=i->i<L.length->H3 b (L.getD i [])<0:=by
  intro i h1 h2;have h3:=h.2 i h1 h2;have h4:=SZ (L.getD i []) b;have h5:H3 (L.getD i []) b≠0:=by
   intro e;apply g;rw[<-bT e,gqq,oO h2];exact qG h2
  omega
 intro i j c l;rw[cu]at l;rw[ft f,ft f];by_cases h1:i<k
 · rw[pP h1];by_cases h2:j<k
   · rw[pP h2];exact d i j c (by omega)
   · rw[pC h2];by_cases h3:j=k
     · rw[pP h3];exact h.1 i h1
     · rw[pC h3];exact d i (j-1) (by omega) (by omega)
 · rw[pC h1,pC (by omega:¬ j<k),pC (by omega:¬ j=k)];by_cases h3:i=k
   · rw[pP h3];exact a (j-1) (by omega) (by omega)
   · rw[pC h3];exact d (i-1) (j-1) (by omega) (by omega)
theorem Own.uptoR(h:Own w base e a n c cs){k:Nat}(i:k<=n)(h0:0<n):Own w base e a k c (cs.take k):=by
 refine⟨by have:=h.len;simp;omega,?_⟩;rcases h.2 with⟨d,h1⟩|⟨g,f,b,d,h1,h2,h3,h4,h5,h6⟩
 · omega
 · simp only[pI]at d;obtain⟨rfl,_,rfl⟩:=d;refine Or.inr ⟨g,c,b,rfl,h1,h2,by omega,h4,h5,?_⟩;rw[<-h6];simp only[sH];rw[x9,rA i]
theorem jJ{x:Operand}(g:o.guard=none)(m:o.op = .slice t x none (some y) none)
 {e:TypeId} {z:Value} {bytes base:Nat} {a:Option Addr} {n c k:Nat} {cs:List Value}
 (p:P.underlying t=some (.slice e)) (b:Ca P e z bytes) (q:f.eval x = .slice a n c) (r:f.eval y = .int .i64 k) (i:Own w base e a n c cs) (j:k<=n) (h0:0<n)
 (l:Own w base e a k c (cs.take k)->wpList P ops Q rest (f.put o.dst (.slice a k c)) w):wpList P ops Q (o :: rest) f w:=by
 refine qT g fun K d => ?_;unfold Oper.wp execOp;simp only[m,q,r,qU,oW,q8,Fc p b (pD j i.cap),pK,qz,Oper.upon];exact d _ _ (l (i.uptoR j h0))
theorem QEl.upto(h:QEl w base qc q)(k:Nat):QEl w base (qc.take k) (q.take k):=by
 intro i d;have b:i<k:=by simp at d;omega
 obtain⟨a,n,c,h1,h2⟩:=h i (by simp at d;omega);refine⟨a,n,c,?_,?_⟩
 · rw[<-h1];simp[sj b]
 · simpa[sj b]using h2
theorem QEl.ins(h:QEl w base qc q)(g:qc.length=q.length)(f:k<=q.length)(hp:Za w base a n c p) :
 QEl w base (qc.take k ++ [.slice a n c] ++ qc.drop k) (gr q k p):=by
 intro i d;rw[cu]at d;rw[ft f];have e:(qc.take k ++ [Value.slice a n c] ++ qc.drop k).getD i undef=if i<k then qc.getD i undef else if i=k then .slice a n c else qc.getD (i-1) undef:=by
  simp only[gqq];by_cases h1:i<k
  · rw[pP h1,qi,pO (by simp;omega),sj h1]
  · rw[pC h1,qi,pW (by simp;omega)];have b:(qc.take k).length=k:=by simp;omega
    rw[b];by_cases h2:i=k
    · rw[pP h2];subst h2;simp
    · rw[pC h2,pW (by simp;omega),se];congr 2;simp;omega
 rw[e];by_cases h1:i<k
 · rw[pP h1,pP h1];exact h i (by omega)
 · rw[pC h1,pC h1];by_cases h2:i=k
   · rw[pP h2,pP h2];exact⟨a,n,c,rfl,hp⟩
   · rw[pC h2,pC h2];exact h (i-1) (by omega)
theorem gX(h:QEl w base qc q)(d:qc.length=q.length):∀ u∈qc,u.oneCell'=true:=by
 intro u hu;obtain⟨i,b,rfl⟩:=r9.1 hu;obtain⟨a,n,c,h1,_⟩:=h i (by omega);rw[gqq,oO b,pY]at h1;rw[h1];rfl
structure RcS(w wr:World)(L q:List (List Int))(ao:Option Addr)(no co:Nat)(oc:List Value)(aq:Option Addr)(nq cq:Nat)(qc:List Value):Prop where
 ext:Ext w wr
 lo:no=L.length
 lq:nq=q.length
 own:Own wr w.heap.size 24 ao no co oc
 els:QEl wr w.heap.size oc L
 ownq:Own wr w.heap.size 24 aq nq cq qc
 elsq:QEl wr w.heap.size qc q
 apart:blk ao=none\/blk ao≠blk aq
 sort:ZW L
theorem BO(hg:SlL w ag ng cg gs)(hn:n<=6)(hp:Zs gs n) :
 Calls prog 102 #[.int .i64 n,.slice ag ng cg] w (fun e w'=>∃ ps,jq w ps e w'/\ZW ps/\∀ p,p∈ps<->Zz gs n p):=by
 have HG:=lz hg.len;have HP:=lz hp;have cz:=hg.le;clear hp
 go_enter func102,ntmps102
 go_wp2_with fail
 refine(dW (by omega)).mono ?_;rintro e w1 ⟨D,n1,F,rfl,W,A⟩;have Y:Ext w1 (w1.alloc (.cells #[.slice D n1 F] 24)):=(Ext.refl w1).alloc _;have b2:=AB w1 w.heap.size 24 #[.slice D n1 F] 1 rfl W.size (by omega)
 go_wp2_with fail
 refine(dW (by omega)).mono ?_;rintro e w2 ⟨a2,n2,c2,rfl,N,b4⟩;have Z:Ext w2 (w2.alloc (.cells #[.slice a2 n2 c2] 24)):=(Ext.refl w2).alloc _;have b3:=AB w2 w.heap.size 24 #[.slice a2 n2 c2] 1 rfl ((W.trans Y).trans N).size (by omega);have bn:∃ E I G oc V nq M qc,Value.slice (some ⟨w1.heap.size,0,none⟩) 1 1 = .slice E I G/\Value.slice (some ⟨w2.heap.size,0,none⟩) 1 1 = .slice V nq M/\RcS w (w2.alloc (.cells #[.slice a2 n2 c2] 24)) [idn n] [idn n] E I G oc V nq M qc:=by
  refine⟨_,_,_,[.slice D n1 F],_,_,_,[.slice a2 n2 c2],rfl,rfl,⟨((W.trans Y).trans N).trans Z,rfl,rfl,(b2.ext N).ext Z,?_,b3,?_,?_,?_⟩⟩
  · intro i hi;have:i=0:=by simpa using hi
    subst this;exact⟨D,n1,F,rfl,((A.ext Y).ext N).ext Z⟩
  · intro i hi;have:i=0:=by simpa using hi
    subst this;refine⟨a2,n2,c2,rfl,Za.ext (Own.mono b4 ?_) Z⟩;exact(W.trans Y).size
  · right;have h1:=N.size;simp at h1;simp[blk];omega
  · intro i j h1 h2;simp at h2;omega
 clear A b4 b2 b3 Y Z W N
 go_wp2_with fail
 go_loopw[5,6] (fun v u wr=>∃ L q E I G oc V nq M qc,v = .slice E I G/\u = .slice V nq M/\RcS w wr L q E I G oc V nq M qc/\an gs n L q) (fun v u _=>2*(720-dG v)+dG u)
 case atStart =>
  obtain⟨E,I,G,oc,V,nq,M,qc,e1,e2,h⟩:=bn;exact⟨_,_,E,I,G,oc,V,nq,M,qc,e1,e2,h,an.start gs n⟩
 case round =>
  clear bn;obtain⟨L,q,E,I,G,oc,V,nq,M,qc,rfl,rfl,a,H⟩:=hrel;have bv:=lz a.lo;have C:=lz a.lq;have hb:=ZI hn HP.out H.nodup H.reach;by_cases hz:0<nq
  · obtain⟨m,hm⟩:∃ m,nq=m+1:=⟨nq-1,by omega⟩;subst hm;have cy:m<=720:=by have:=H.short;have h2:=C.out;omega
    obtain⟨gq,c8,cx,_⟩:=a.ownq.place (by omega);subst c8;have ba:=Own.cellAt a.ownq (j:=m) (by omega);obtain⟨ap,np,cp,bk,O⟩:=a.elsq m (by rw[<-C.out];omega);rw[bk]at ba;have bq:=Own.cap a.ownq;have em:((m:Int)+1-1)=(m:Int):=by omega
    go_wp2_with(refine jJ (k:=m) rfl rfl underlying54 Q5 rfl rfl a.ownq (by omega) (by omega) ?_;intro b7)
    have bj:(q.getD m [] :: q.take m).Perm q:=by
     have hl:q.length=m+1:=C.out.symm;have e:q=q.take m ++ [q.getD m []]:=by
      rw[gqq,oO (by omega),pY]
      conv=>lhs;rw[<-pu (vj hl),pB (by omega)]
     conv=>rhs;rw[e]
     exact vF (l₁:=[q.getD m []])
    have b1:=aT.start (H.perm (vJ L) bj)
    have b8:RcS w wr L (q.take m) E I G oc (some ⟨gq,0,none⟩) m M (qc.take m) :=
     ⟨a.ext,a.lo,by have:=C.out;simp;omega,a.own,a.els,b7,a.elsq.upto m,a.apart,a.sort⟩
    have HM:Hid (2*(720-dG (.slice E I G))+dG (.slice (some ⟨gq,0,none⟩) (m+1) M)=2*(720-L.length)+m+1):=by
     show _=_;simp only[dG];rw[bv.out];omega
    have bl:(q.take m).length=m:=by have:=C.out;simp;omega
    have ax:=lz bl;clear bl bj H a b7 ba bk bq em C;generalize q.getD m []=T at *
    generalize q.take m=q0 at *
    obtain⟨wo,rfl⟩:∃ wo:World,wo=wr:=⟨_,rfl⟩
    go_loopw[5,6,8] (fun v u i wr=>∃ S q1 E I G oc V nq M qc,∃ j:Nat,v = .slice E I G/\u = .slice V nq M/\i = .int .i64 j/\j<=ng/\RcS w wr S q1 E I G oc V nq M qc/\aT gs n S q1 T j/\Za wr w.heap.size ap np cp T /\
     Hid (2*(720-S.length)+q1.length<=2*(720-L.length)+m)) (fun _ _ i _=>ng-(intOf i).toNat)
    case atStart=>exact⟨L,q0,E,I,G,oc,_,_,_,_,0,rfl,rfl,rfl,pE _,b8,b1,O,lz (by rw[ax.out];exact lrf _)⟩
    case round =>
     clear b8 b1 O ax;obtain⟨S,q1,z,s,t,y,K,a4,aa,aj,j,rfl,rfl,rfl,hj,a,H,O,a9⟩:=hrel;have b:=lz a.lo;have J:=lz a.lq;have bW:=ZI hn HP.out H.nodup H.reach;by_cases av:j<ng
     · have c9:=hg.ext a.ext;obtain⟨bg,og,cs,ch,ct,rfl,cv,b9⟩:=c9.at av;have ai:j<gs.length:=by rw[HG.out];exact av
       have c6:gs.getD j []∈gs:=by simp[ai]
       obtain⟨cA,ck⟩:=HP.out _ c6;obtain⟨cl,bo⟩:=Zq hn HP.out (H.reach T H.mem);have al:=H.old ai;have ak:=H.new ai;generalize c4:gs.getD j []=gj at *
       have bs:ch=n:=by have:=b9.len;omega
       have cb:np=n:=by have:=O.sl.len;omega
       subst bs;subst cb;have bp:=lz al;have U:=lz ak;have ay:=lz bo;clear al ak c4 ck bo;have cn:s<=720:=by rw[b.out];exact bW
       have cr:a4<=720:=by have:=H.short;have h2:=J.out;omega
       go_wp2_with fail
       refine(cS b9 O.sl ?_ (by omega)).mono ?_
       · intro i hi;have:=Zm cl (i:=i) (by rw[ay.out];exact hi);rw[ay.out]at this;exact this
       rintro e w3 ⟨a3,n3,c3,rfl,a6,ad⟩;have ar:=gP b.out (a.own.ext a6) (a.els.ext a6)
       go_wp2_with fail
       refine(eR ar ad.sl a.sort (by omega)).mono ?_;rintro e R ⟨k,rfl,ah,a0,bi⟩;have d:=a6.trans ah.ext;have bx:=lz bi;clear bi ar;have b5:Za R w.heap.size a3 n3 c3 (comp gj T):=Own.mono (Own.ext ad ah.ext) a.ext.size;have X:=O.ext d;clear ad ah;by_cases r:comp gj T∈S
       · have hd:decide (comp gj T∈S)=true:=by simp[r]
         rw[hd];go_wp2;go_roundw
         case rel=>exact⟨S,q1,z,s,t,y,K,a4,aa,aj,j+1,rfl,rfl,by go_num,by omega,⟨a.ext.trans d,a.lo,a.lq,a.own.ext d,a.els.ext d,a.ownq.ext d,a.elsq.ext d,a.apart,a.sort⟩,bp.out r,X,a9⟩
         case measure=>simp[intOf];omega
       · have hd:decide (comp gj T∈S)=false:=by simp[r]
         rw[hd];have hs:=iY (by rw[<-b.out];exact a0) a.sort bx.out r;have bz:=lz hs;clear hs;have l:RcS w R S q1 z s t y K a4 aa aj:=⟨a.ext.trans d,a.lo,a.lq,a.own.ext d,a.els.ext d,a.ownq.ext d,a.elsq.ext d,a.apart,a.sort⟩;clear a d a6;have ca:k<=t:=by have:=l.own.cap;omega
         have bm:=l.own.sl;have bf:=l.own.len;have aA:=gX l.els (by rw[bf,b.out])
         go_upto_region 12 with(fail)
         have o:∀ f,Ext R f->R.heap.size<=f.heap.size:=fun f e=>e.size
         refine Be (by kernel_rfl) (fun f=>Ext R f)
          [hu 4 (fun v f=>∃ g,v = .slice (some ⟨g,0,none⟩) 0 0/\Own f R.heap.size 24 (some ⟨g,0,none⟩) 0 0 []),
           he (.slice z s t),he (.int .i64 k),he (.slice z k t),
           hmu 7 (fun v f=>∃ D F,v = .slice D k F/\Own f R.heap.size 24 D k F (y.take k)),
           he (.slice a3 n3 c3),hu 7 (fun v f=>∃ g,v = .slice (some ⟨g,0,none⟩) 1 1/\Own f R.heap.size 24 (some ⟨g,0,none⟩) 1 1 [.slice a3 n3 c3]),
           hmu 11 (fun v f=>∃ D F,v = .slice D (k+1) F/\Own f R.heap.size 24 D (k+1) F (y.take k ++ [.slice a3 n3 c3])),
           he (.slice z s t),he (.int .i64 k),he (.slice (if t=k then z else z.map (fun x=>x.add k)) (s-k) (t-k)),
           hmp (fun v f=>∃ D F,v = .slice D (s+1) F/\Own f R.heap.size 24 D (s+1) F (y.take k ++ [.slice a3 n3 c3] ++ y.drop k))]
          (by kernel_rfl) (fun _ _ e h=>h.trans e) ((Ext.refl R).drew) ?stab ⟨?o0,?o1,?o2,?o3,?o4,?o5,?o6,?o7,?o8,?o9,?o10,?o11,trivial⟩ ?fin
         case stab =>
          exact⟨fun v w w' e ⟨g,h1,h2⟩=>⟨g,h1,h2.ext e⟩,trivial,trivial,trivial,fun v w w' e ⟨g,c,h1,h2⟩=>⟨g,c,h1,h2.ext e⟩,trivial,fun v w w' e ⟨g,h1,h2⟩=>⟨g,h1,h2.ext e⟩,
           fun v w w' e ⟨g,c,h1,h2⟩=>⟨g,c,h1,h2.ext e⟩,trivial,trivial,trivial,fun v w w' e ⟨g,c,h1,h2⟩=>⟨g,c,h1,h2.ext e⟩,trivial⟩
         case o0=>exact UK rfl rfl underlying54 Q5 o
         case o1 | o2 | o5 | o8 | o9=>exact fJ rfl rfl (fun _ _ _ h=>h.1)
         case o3=>exact bS rfl rfl underlying54 Q5 (fun _ _ _ h=>⟨h.1,h.2.1⟩) ca
         case o6=>exact fK rfl rfl underlying54 Q5 rfl rfl o (fun _ _ _ h=>h.1)
         case o10=>exact aS rfl rfl underlying54 Q5 (fun _ _ _ h=>⟨h.1,h.2.1⟩) a0
         case o4 =>
          refine Wi rfl rfl underlying54 Q5 rfl (n:=0) (m:=k) (fun u hu=>aA u (rF hu)) (by omega) (by unfold maxLen;omega) (by omega) (qR _) o ?_;rintro ρ f hp B ⟨⟨v0,e0,g,rfl,ac⟩,h1,-⟩;refine⟨_,_,_,_,e0,ac,h1,(bm.ext B).upto a0,fun w' hg=>⟨B.grown hg ?_,?_⟩⟩
          · intro k hk;exact(Own.lt ac hk).1
          · refine L6 (j:=6) (by kernel_rfl) ?_;rintro v ⟨g6,rfl,a8⟩;exact⟨g6,rfl,Own.kept a8 hg (Or.inr (by simpa[blk]using Ne.symm (ji ac a8 (by omega))))⟩
         case o7 =>
          refine Wi rfl rfl underlying54 Q5 rfl (n:=k) (m:=1) (news:=[.slice a3 n3 c3]) (by simp[Value.oneCell']) rfl (by unfold maxLen;omega) (by omega) rfl o ?_;rintro ρ f hp B ⟨⟨v0,e0,D,F,rfl,A⟩,⟨v1,e1,g,rfl,a8⟩,-⟩;refine⟨_,_,_,_,e0,A,e1,a8.sl,fun w' hg=>⟨B.grown hg ?_,aG (by kernel_rfl)⟩⟩;intro k hk;exact(Own.lt A hk).1
         case o11 =>
          refine Wi rfl rfl underlying54 Q5 rfl (n:=k+1) (m:=s-k) (xs:=y.take k ++ [.slice a3 n3 c3]) (news:=y.drop k) (fun u hu=>aA u (tC hu)) (by omega) (by unfold maxLen;omega) (by omega) rfl o ?_;rintro ρ f hp B ⟨⟨v0,e0,D,F,rfl,A⟩,e1,-⟩;refine⟨_,_,_,_,e0,A,e1,(bm.ext B).from a0,fun w' hg=>⟨B.grown hg ?_,aG (by kernel_rfl)⟩⟩;intro k hk;exact(Own.lt A hk).1
         case fin =>
          intro f B;rintro v0 v4 v6 v7 cP ⟨a5,c5,rfl,b6⟩;simp only[lw,lj,lk,lp,Act.put,lB,lC,lD,eK];have ab:=l.ext.trans B;have hA6:Ext f (f.alloc (.cells #[.slice a3 n3 c3] 24)):=(Ext.refl f).alloc _;have bR:=(AB f w.heap.size 24 #[.slice a3 n3 c3] 1 rfl ab.size (by omega)).sl;have Q:=(l.ownq.ext B).ext hA6
          go_wp2_with(refine B5 rfl rfl underlying54 Q5 rfl rfl Q rfl bR (by simp[Value.oneCell']) (by unfold maxLen;omega) (by omega) (by have:=ab.size;simp;omega) ?_;intro a7 c7 w7 bK P c0)
          go_roundw
          case rel =>
           have cd:∀ k,blk K=some k->w.heap.size<=k:=fun k hk=>(Q.lt hk).1;have bt:∀ k,blk K=some k->k<R.heap.size:=fun k hk=>(l.ownq.lt hk).2;have bd:∀ k,blk a5=some k->R.heap.size<=k/\k<f.heap.size:=fun k hk=>b6.lt hk;have bb:blk a5=none\/blk a5≠blk K:=by
            rcases hb5:blk a5 with _|g
            · exact Or.inl rfl
            · right;intro e;have h1:=(bd g hb5).1;have h2:=bt g e.symm;omega
           have b0:Za w7 w.heap.size a3 n3 c3 (comp gj T):=Own.kept (Own.ext (Own.ext b5 B) hA6) P (Xg (Own.ext (Own.ext b5 B) hA6) Q (by decide));have bL:Za w7 w.heap.size ap np cp T:=Own.kept (Own.ext (Own.ext X B) hA6) P (Xg (Own.ext (Own.ext X B) hA6) Q (by decide));have bG:=((l.els.ext B).ext hA6).kept P (fun _ _ _ _ h=>Xg h Q (by decide));have bN:=((l.elsq.ext B).ext hA6).kept P (fun _ _ _ _ h=>Xg h Q (by decide))
           refine⟨gr S k (comp gj T),q1 ++ [comp gj T],a5,s+1,c5,_,a7,a4+1,c7,_,j+1,rfl,rfl,by go_num,by omega,
            ⟨(ab.trans hA6).grown P cd,by rw[cu,b.out],by rw[J.out];simp,Own.mono (Own.kept (b6.ext hA6) P bb) l.ext.size,bG.ins (by rw[bf,b.out]) (by rw[<-b.out];exact a0) b0,bK,bN.snoc (by rw[l.ownq.len,J.out]) b0,?_,bz.out⟩,(U.out r).perm (eS S k (comp gj T)),bL,?_⟩
           · rcases hb5:blk a5 with _|g
             · exact Or.inl rfl
             · right;intro e;rcases c0 with h7|h7
               · rw[h7]at e;rcases bb with h|h
                 · rw[hb5]at h;cases h
                 · exact h (by rw[hb5];exact e)
               · rw[h7]at e;have h1:=(bd g hb5).2;simp at e;omega
           · have h1:=a9.out;have h2:=(U.out r).nodup;have h3:=ZI hn HP.out h2 (U.out r).reach;show _<=_;rw[cu];simp at h3 |-;omega
          case measure=>simp[intOf];omega
     · have ej:j=ng:=by omega
       go_wp2;go_roundw
       case rel=>exact⟨S,q1,z,s,t,y,K,a4,aa,aj,rfl,rfl,a,H.fin (by rw[HG.out];omega)⟩
       case measure =>
        have h1:=HM.out;have h2:=a9.out;have h3:=b.out;have h4:=J.out;simp only[dG]at h1 |-;simp[dG]at *
        omega
  · have ce:nq=0:=by omega
    subst ce;have cc:q=[]:=pG C.out.symm;subst cc;go_wp2;go_ret;exact⟨L,⟨E,I,G,oc,rfl,a.ext,a.lo,a.own,a.els⟩,a.sort,H.done⟩
theorem gY(i:SlL w a n c ls)(q:SlI w b m d p)(o:ZW ls)(f:n<=1000000) :
 Calls prog 174 #[.slice a n c,.slice b m d] w fun e r=>e = .returned (.tuple #[.int .i64 (posL ls p),.bool (decide (p∈ls))])/\Qt w r:=by
 refine(eR i q o f).mono ?_;rintro e s ⟨k,rfl,j,l,g⟩;rw[ke (by rw[i.len];exact l) g];exact⟨rfl,j⟩
theorem gu(hx:SlL w a n c ls) :
 Calls prog 116 #[.slice a n c] w (fun e G=>e = .returned (.bool (isGB ls))/\Ext w G):=by
 have T:=lz hx.len;have bd:=hx.le
 go_enter func116,ntmps116
 go_upto_region 1 with(fail)
 go_cut [34] (fun s g=>∃ b,s = .bool b/\Ext w g/\Hid (b=false->0<n/\n<=720/\G1 (ls.getD 0 [])=true/\ls.getD 0 []=idn (ls.getD 0 []).length)/\Hid (b=true->¬ isG ls))
 case first =>
  by_cases h0:n=0
  · subst h0
    go_quiet (fail)
    go_wp2
    go_meet
    exact⟨true,rfl,(Ext.refl w).drewN _,lz (fun h=>by cases h),lz (fun _ h=>by have:=h.pos;rw[T.out]at this;omega)⟩
  · obtain⟨z,o1,R,F,S,rfl,g0,s1⟩:=hx.at (k:=0) (by omega);have Z:w.cell? ⟨z,o1,none⟩=some (.slice R F S):=g0;clear g0;cases L:G1 (ls.getD 0 [])with
    | false =>
     refine B0
      [hdS (some ⟨z,o1,none⟩) n c,hdI n,hdB false,hdB false,hdS (some ⟨z,o1,none⟩) n c,hdP z o1,hdS R F S,hp (fun v g=>v = .bool false),hdB true,hdB true,hdB true,hdU,hdU,hdU,hdB true,hdB true,hdU,hdU,hdU,hdU,hdU,hdU,hdU,hdU,hdU,hdU,hdB true]
      ⟨fun v w G e h=>h,trivial⟩ ⟨?o0,?o1,?o2,?o3,?o4,?o5,?o6,?o7,?o8,?o9,?o10,?o11,?o12,?o13,?o14,?o15,?o16,?o17,?o18,?o19,?o20,?o21,?o22,?o23,?o24,?o25,?o26,trivial⟩ ?fin
     case o0 | o3 | o4 | o10 | o15=>exact omv
     case o11 | o12 | o13 | o16 | o17 | o18 | o19 | o20 | o21 | o22 | o23 | o24 | o25=>exact O5 rfl
     case o1 | o2 | o5 | o6 | o9 | o14 | o26 =>
      refine Aj rfl fun r g d f h => ?_
      try have e0:_=_:=h.1
      try have D:_=_:=h.2.1
      try have J:_=_:=h.2.2.1
      have W:=d.cell Z;have C:=s1.ext d;go_simp
      try (first | (intros;omega) | exact pq _ (by omega))
     case o7 =>
      refine Ag rfl fun r g d f H h => ?_;have D:_=_:=h.2.1;have C:=s1.ext d;refine⟨106,#[.slice R F S],by go_simp,(S1 C).mono ?_⟩;rintro e G ⟨rfl,B⟩;exact⟨_,rfl,B,by rw[L]⟩
     case o8 =>
      refine Aj rfl fun r g d f h => ?_;obtain⟨v0,e0,rfl⟩:=h.1;have W:=d.cell Z;have C:=s1.ext d;go_simp
     case fin =>
      intro g d;rintro _ rfl;change wpList _ _ _ _ _ _;simp only[Ci];go_wp2
      go_meet
      exact⟨true,rfl,d,lz (fun h=>by cases h),lz (fun _ h=>by have:=(h.perms _ (H6 h.pos)).1;rw[L]at this;cases this)⟩
    | true =>
     by_cases h7:720<(n:Int)
     ·
      refine B0
       [hdS (some ⟨z,o1,none⟩) n c,hdI n,hdB false,hdB false,hdS (some ⟨z,o1,none⟩) n c,hdP z o1,hdS R F S,hp (fun v g=>v = .bool true),hdB false,hdB false,hdB false,hdS (some ⟨z,o1,none⟩) n c,hdI n,hdB true,hdB true,hdB true,hdU,hdU,hdU,hdU,hdU,hdU,hdU,hdU,hdU,hdU,hdB true]
       ⟨fun v w G e h=>h,trivial⟩ ⟨?o0,?o1,?o2,?o3,?o4,?o5,?o6,?o7,?o8,?o9,?o10,?o11,?o12,?o13,?o14,?o15,?o16,?o17,?o18,?o19,?o20,?o21,?o22,?o23,?o24,?o25,?o26,trivial⟩ ?fin
      case o0 | o3 | o4 | o10 | o11 | o15=>exact omv
      case o16 | o17 | o18 | o19 | o20 | o21 | o22 | o23 | o24 | o25=>exact O5 rfl
      case o1 | o2 | o5 | o6 | o9 | o12 | o13 | o14 | o26 =>
       refine Aj rfl fun r g d f h => ?_
       try have e0:_=_:=h.1
       try have D:_=_:=h.2.1
       try have J:_=_:=h.2.2.1
       have W:=d.cell Z;have C:=s1.ext d;go_simp
       try (first | (intros;omega) | exact pq _ (by omega))
      case o7 =>
       refine Ag rfl fun r g d f H h => ?_;have D:_=_:=h.2.1;have C:=s1.ext d;refine⟨106,#[.slice R F S],by go_simp,(S1 C).mono ?_⟩;rintro e G ⟨rfl,B⟩;exact⟨_,rfl,B,by rw[L]⟩
      case o8 =>
       refine Aj rfl fun r g d f h => ?_;obtain⟨v0,e0,rfl⟩:=h.1;have W:=d.cell Z;have C:=s1.ext d;go_simp
      case fin =>
       intro g d;rintro _ rfl;change wpList _ _ _ _ _ _;simp only[Ci];go_wp2
       go_meet
       exact⟨true,rfl,d,lz (fun h=>by cases h),lz (fun _ h=>by have:=h.few;rw[T.out]at this;omega)⟩
     · have bb:F<=6:=by have:=(G3 L).1;have:=s1.len;omega
       obtain⟨bq,a4⟩:∃ bq,decide (ls.getD 0 []=idn F)=bq:=⟨_,rfl⟩
       refine B0
        [hdS (some ⟨z,o1,none⟩) n c,hdI n,hdB false,hdB false,hdS (some ⟨z,o1,none⟩) n c,hdP z o1,hdS R F S,hp (fun v g=>v = .bool true),hdB false,hdB false,hdB false,hdS (some ⟨z,o1,none⟩) n c,hdI n,hdB false,hdB false,hdB false,hdS (some ⟨z,o1,none⟩) n c,hdP z o1,hdS R F S,hdS (some ⟨z,o1,none⟩) n c,hdP z o1,hdS R F S,hdI F,hp (fun v g=>∃ U X V,v = .slice U X V/\SlI g U X V (idn F)),hp (fun v g=>v = .bool bq),hdB (!bq),hdB (!bq)]
        ⟨fun v w G e h=>h,fun v w G e ⟨U,X,V,h1,h2⟩=>⟨U,X,V,h1,h2.ext e⟩,fun v w G e h=>h,trivial⟩ ⟨?o0,?o1,?o2,?o3,?o4,?o5,?o6,?o7,?o8,?o9,?o10,?o11,?o12,?o13,?o14,?o15,?o16,?o17,?o18,?o19,?o20,?o21,?o22,?o23,?o24,?o25,?o26,trivial⟩ ?fin
       case o0 | o3 | o4 | o10 | o11 | o15 | o16 | o19=>exact omv
       case o1 | o2 | o5 | o6 | o9 | o12 | o13 | o14 | o17 | o18 | o20 | o21 | o22 | o26 =>
        refine Aj rfl fun r g d f h => ?_
        try have e0:_=_:=h.1
        try have D:_=_:=h.2.1
        try have J:_=_:=h.2.2.1
        have W:=d.cell Z;have C:=s1.ext d;go_simp
        try (first | (intros;omega) | exact pq _ (by omega))
       case o7 =>
        refine Ag rfl fun r g d f H h => ?_;have D:_=_:=h.2.1;have C:=s1.ext d;refine⟨106,#[.slice R F S],by go_simp,(S1 C).mono ?_⟩;rintro e G ⟨rfl,B⟩;exact⟨_,rfl,B,by rw[L]⟩
       case o8 =>
        refine Aj rfl fun r g d f h => ?_;obtain⟨v0,e0,rfl⟩:=h.1;have W:=d.cell Z;have C:=s1.ext d;go_simp
       case o23 =>
        refine Ag rfl fun r g d f H h => ?_;have D:_=_:=h.2.1;have C:=s1.ext d;refine⟨172,#[.int .i64 F],by go_simp,(dW (by omega)).mono ?_⟩;rintro e G ⟨U,X,V,rfl,B,ad⟩;exact⟨_,rfl,B,U,X,V,rfl,ad.sl⟩
       case o24 =>
        refine Ag rfl fun r g d f H h => ?_;have D:_=_:=h.2.1;obtain⟨v2,J,N,M,O,rfl,t⟩:=h.2.2.1;have C:=s1.ext d;refine⟨92,#[.slice R F S,.slice N M O],by go_simp,(BP C t).mono ?_⟩;rintro e G ⟨rfl,a0⟩;exact⟨_,rfl,a0.ext,by rw[a4]⟩
       case o25 =>
        refine Aj rfl fun r g d f h => ?_;obtain⟨v0,e0,rfl⟩:=h.1;have W:=d.cell Z;have C:=s1.ext d;go_simp
       case fin =>
        intro g d;rintro _ rfl;rintro _ ⟨b6,bf,b8,rfl,bi⟩;rintro _ rfl;change wpList _ _ _ _ _ _;simp only[Ci];go_wp2
        go_meet
        refine⟨!bq,rfl,d,lz (fun h => ?_),lz (fun h hg => ?_)⟩
        · have Y:bq=true:=by cases bq <;> simp at h |-
          rw[Y,qX]at a4;exact⟨by omega,by omega,L,by rw[s1.len];exact a4⟩
        · have Y:bq=false:=by cases bq <;> simp at h |-
          rw[Y,decide_eq_false_iff_not]at a4;have:=hg.first;rw[s1.len]at this;exact a4 this
 case rest =>
  obtain⟨b,rfl,a7,HF,HT⟩:=hcut;cases b with
  | true =>
   have HG:=lz (X1 (HT.out rfl));clear HT HF;go_wp2;go_ret;exact⟨YJ HG.out,a7⟩
  | false =>
   obtain⟨h0,h7,L,ao⟩:=HF.out rfl;have ay:=lz ao;clear HT HF ao;have hx:=hx.ext a7;go_wp2
   go_loopw[3] (fun i wr=>∃ k:Nat,i = .int .i64 ((k+1:Nat):Int)/\k+1<=n/\Ext wc wr/\Hid (cW ls (k+1))) (fun i _=>n-(intOf i).toNat)
   case atStart=>exact⟨0,rfl,by omega,Ext.refl _,lz (cW.one L)⟩
   case round =>
    obtain⟨k,rfl,hk,hE,HK⟩:=hrel;have P:=hx.ext hE;by_cases b4:k+1<n
    · obtain⟨z,o1,R,F,S,rfl,g0,s1⟩:=P.at (k:=0) (by omega);have Z:wr.cell? ⟨z,o1,none⟩=some (.slice R F S):=g0;obtain⟨b2,o2,N,M,O,J,g2,t⟩:=P.at (k:=k+1) b4;simp only[pz,qq,qO]at J;obtain⟨rfl,rfl⟩:=J;obtain⟨b3,o3,a3,n3,c3,e3,g3,s3⟩:=P.at (k:=k) (by omega);simp only[pz,qq,qO]at e3;obtain⟨rfl,rfl⟩:=e3;clear g0
      go_upto_region 6 with(fail)
      go_cut [71] from 35 to 71 (fun s g=>∃ b,s = .bool b/\Ext wc g/\Hid (b=false->cW ls (k+2))/\Hid (b=true->¬ isG ls))
      case first =>
       cases a6:G1 (ls.getD (k+1) [])with
       | false =>
        have I:=fun(g:World) (d:Ext wr g)=>lz (And.intro (d.cell Z) (And.intro (d.cell g2) (d.cell g3)))
        refine B0
         [hdS (some ⟨z,o1,none⟩) n c,hdI ((k+1:Nat):Int),hdP z (o1+(k+1)),hdS N M O,hp (fun v g=>v = .bool false),hdB true,hdB true,hdU,hdU,hdU,hdU,hdU,hdU,hdU,hdU,hdU,hdU,hdB true,hdB true,hdU,hdU,hdU,hdU,hdU,hdU,hdU,hdU,hdU,hdU,hdU,hdB true]
         ⟨fun v w G e h=>h,trivial⟩ ⟨?o0,?o1,?o2,?o3,?o4,?o5,?o6,?o7,?o8,?o9,?o10,?o11,?o12,?o13,?o14,?o15,?o16,?o17,?o18,?o19,?o20,?o21,?o22,?o23,?o24,?o25,?o26,?o27,?o28,?o29,?o30,trivial⟩ ?fin
        case o0 | o1 | o6 | o18=>exact omv
        case o7 | o8 | o9 | o10 | o11 | o12 | o13 | o14 | o15 | o16 | o19 | o20 | o21 | o22 | o23 | o24 | o25 | o26 | o27 | o28 | o29=>exact O5 rfl
        case o2 =>
         refine Aj rfl fun r g d f h => ?_;have e0:_=_:=h.1;have D:_=_:=h.2.1;obtain⟨q,l,o⟩:=(I g d).out;have p:=t.ext d;go_simp
         try (first | (intros;omega) | exact pq _ (by omega))
        case o3 =>
         refine Aj rfl fun r g d f h => ?_;have e0:_=_:=h.1;obtain⟨q,l,o⟩:=(I g d).out;have p:=t.ext d;go_simp
        case o4 =>
         refine Ag rfl fun r g d f H h => ?_;have D:_=_:=h.2.1;obtain⟨q,l,o⟩:=(I g d).out;have p:=t.ext d;refine⟨106,#[.slice N M O],by go_simp,(S1 p).mono ?_⟩;rintro e G ⟨rfl,B⟩;exact⟨_,rfl,B,by rw[a6]⟩
        case o5 =>
         refine Aj rfl fun r g d f h => ?_;obtain⟨v0,e0,rfl⟩:=h.1;obtain⟨q,l,o⟩:=(I g d).out;have p:=t.ext d;go_simp
        case o17 =>
         refine Aj rfl fun r g d f h => ?_;have e0:_=_:=h.1;have J:_=_:=h.2.2.1;obtain⟨q,l,o⟩:=(I g d).out;have p:=t.ext d;go_simp
        case o30 =>
         refine Aj rfl fun r g d f h => ?_;have e0:_=_:=h.1;have J:_=_:=h.2.2.1;obtain⟨q,l,o⟩:=(I g d).out;have p:=t.ext d;go_simp
        case fin =>
         intro g d;rintro _ rfl;change wpList _ _ _ _ _ _;simp only[Ci];go_wp2
         go_meet
         exact⟨true,rfl,hE.trans d,lz (fun h=>by cases h),lz (fun _ h=>by have:=(h.perms _ (H6 (i:=k+1) (by have:=T.out;omega))).1;rw[a6]at this;cases this)⟩
       | true =>
        by_cases ap:(M:Int)=F
        · have b5:((M:Int) != (F:Int))=false:=by simp[ap]
          obtain⟨bl,a5⟩:∃ bl,decide (H3 (ls.getD k []) (ls.getD (k+1) [])<0)=bl:=⟨_,rfl⟩;have A:=fun(g:World) (d:Ext wr g)=>lz (And.intro (d.cell Z) (And.intro (d.cell g2) (d.cell g3)))
          refine B0
           [hdS (some ⟨z,o1,none⟩) n c,hdI ((k+1:Nat):Int),hdP z (o1+(k+1)),hdS N M O,hp (fun v g=>v = .bool true),hdB false,hdB false,hdS (some ⟨z,o1,none⟩) n c,hdI ((k+1:Nat):Int),hdP z (o1+(k+1)),hdS N M O,hdI M,hdS (some ⟨z,o1,none⟩) n c,hdP z o1,hdS R F S,hdI F,hdB false,hdB false,hdB false,hdS (some ⟨z,o1,none⟩) n c,hdI ((k+1:Nat):Int),hdI k,hdP z (o1+k),hdS a3 n3 c3,hdS (some ⟨z,o1,none⟩) n c,hdI ((k+1:Nat):Int),hdP z (o1+(k+1)),hdS N M O,hp (fun v g=>v = .bool bl),hdB (!bl),hdB (!bl)]
           ⟨fun v w G e h=>h,fun v w G e h=>h,trivial⟩ ⟨?o0,?o1,?o2,?o3,?o4,?o5,?o6,?o7,?o8,?o9,?o10,?o11,?o12,?o13,?o14,?o15,?o16,?o17,?o18,?o19,?o20,?o21,?o22,?o23,?o24,?o25,?o26,?o27,?o28,?o29,?o30,trivial⟩ ?fin
          case o0 | o1 | o6 | o7 | o8 | o12 | o18 | o19 | o20 | o24 | o25=>exact omv
          case o2 =>
           refine Aj rfl fun r g d f h => ?_;have e0:_=_:=h.1;have D:_=_:=h.2.1;obtain⟨q,l,o⟩:=(A g d).out;have p:=t.ext d;go_simp
           try (first | (intros;omega) | exact pq _ (by omega))
          case o3 =>
           refine Aj rfl fun r g d f h => ?_;have e0:_=_:=h.1;obtain⟨q,l,o⟩:=(A g d).out;have p:=t.ext d;go_simp
          case o4 =>
           refine Ag rfl fun r g d f H h => ?_;have D:_=_:=h.2.1;obtain⟨q,l,o⟩:=(A g d).out;have p:=t.ext d;refine⟨106,#[.slice N M O],by go_simp,(S1 p).mono ?_⟩;rintro e G ⟨rfl,B⟩;exact⟨_,rfl,B,by rw[a6]⟩
          case o5 =>
           refine Aj rfl fun r g d f h => ?_;obtain⟨v0,e0,rfl⟩:=h.1;obtain⟨q,l,o⟩:=(A g d).out;have p:=t.ext d;go_simp
          case o9 =>
           refine Aj rfl fun r g d f h => ?_;have e0:_=_:=h.1;have D:_=_:=h.2.1;obtain⟨q,l,o⟩:=(A g d).out;have p:=t.ext d;go_simp
           try (first | (intros;omega) | exact pq _ (by omega))
          case o10 =>
           refine Aj rfl fun r g d f h => ?_;have e0:_=_:=h.1;obtain⟨q,l,o⟩:=(A g d).out;have p:=t.ext d;go_simp
          case o11 =>
           refine Aj rfl fun r g d f h => ?_;have e0:_=_:=h.1;obtain⟨q,l,o⟩:=(A g d).out;have p:=t.ext d;go_simp
          case o13 =>
           refine Aj rfl fun r g d f h => ?_;have e0:_=_:=h.1;obtain⟨q,l,o⟩:=(A g d).out;have p:=t.ext d;go_simp
           try (first | (intros;omega) | exact pq _ (by omega))
          case o14 =>
           refine Aj rfl fun r g d f h => ?_;have e0:_=_:=h.1;obtain⟨q,l,o⟩:=(A g d).out;have p:=t.ext d;go_simp
          case o15 =>
           refine Aj rfl fun r g d f h => ?_;have e0:_=_:=h.1;obtain⟨q,l,o⟩:=(A g d).out;have p:=t.ext d;go_simp
          case o16 =>
           refine Aj rfl fun r g d f h => ?_;have e0:_=_:=h.1;have D:_=_:=h.2.1;obtain⟨q,l,o⟩:=(A g d).out;have p:=t.ext d;go_simp
           try (first | (intros;omega) | exact pq _ (by omega))
          case o17 =>
           refine Aj rfl fun r g d f h => ?_;have e0:_=_:=h.1;have J:_=_:=h.2.2.1;obtain⟨q,l,o⟩:=(A g d).out;have p:=t.ext d;go_simp
          case o21 =>
           refine Aj rfl fun r g d f h => ?_;have e0:_=_:=h.1;obtain⟨q,l,o⟩:=(A g d).out;have p:=t.ext d;go_simp
           try (first | (intros;omega) | exact pq _ (by omega))
          case o22 =>
           refine Aj rfl fun r g d f h => ?_;have e0:_=_:=h.1;have D:_=_:=h.2.1;obtain⟨q,l,o⟩:=(A g d).out;have p:=t.ext d;go_simp
           try (first | (intros;omega) | exact pq _ (by omega))
          case o23 =>
           refine Aj rfl fun r g d f h => ?_;have e0:_=_:=h.1;obtain⟨q,l,o⟩:=(A g d).out;have p:=t.ext d;go_simp
          case o26 =>
           refine Aj rfl fun r g d f h => ?_;have e0:_=_:=h.1;have D:_=_:=h.2.1;obtain⟨q,l,o⟩:=(A g d).out;have p:=t.ext d;go_simp
           try (first | (intros;omega) | exact pq _ (by omega))
          case o27 =>
           refine Aj rfl fun r g d f h => ?_;have e0:_=_:=h.1;obtain⟨q,l,o⟩:=(A g d).out;have p:=t.ext d;go_simp
          case o28 =>
           refine Ag rfl fun r g d f H h => ?_;have D:_=_:=h.2.1;have J:_=_:=h.2.2.1;obtain⟨q,l,o⟩:=(A g d).out;have p:=t.ext d;refine⟨183,#[.slice a3 n3 c3,.slice N M O],by go_simp,(dZ (s3.ext d) (t.ext d)).mono ?_⟩;rintro e G ⟨rfl,a0⟩;exact⟨_,rfl,a0.ext,by rw[a5]⟩
          case o29 =>
           refine Aj rfl fun r g d f h => ?_;obtain⟨v0,e0,rfl⟩:=h.1;obtain⟨q,l,o⟩:=(A g d).out;have p:=t.ext d;go_simp
          case o30 =>
           refine Aj rfl fun r g d f h => ?_;have e0:_=_:=h.1;have J:_=_:=h.2.2.1;obtain⟨q,l,o⟩:=(A g d).out;have p:=t.ext d;go_simp
          case fin =>
           intro g d;rintro _ rfl;rintro _ rfl;change wpList _ _ _ _ _ _;simp only[Ci];go_wp2
           go_meet
           refine⟨!bl,rfl,hE.trans d,lz (fun h => ?_),lz (fun h hg => ?_)⟩
           · have Y:bl=true:=by cases bl <;> simp at h |-
             rw[Y,qX]at a5;exact HK.out.succ ⟨a6,by have D:=s1.len;have J:=t.len;omega⟩ a5
           · have Y:bl=false:=by cases bl <;> simp at h |-
             rw[Y,decide_eq_false_iff_not]at a5;exact a5 (hg.sort k (k+1) (by omega) (by have:=T.out;omega))
        · have b5:((M:Int) != (F:Int))=true:=by simp[ap]
          have E:=fun(g:World) (d:Ext wr g)=>lz (And.intro (d.cell Z) (And.intro (d.cell g2) (d.cell g3)))
          refine B0
           [hdS (some ⟨z,o1,none⟩) n c,hdI ((k+1:Nat):Int),hdP z (o1+(k+1)),hdS N M O,hp (fun v g=>v = .bool true),hdB false,hdB false,hdS (some ⟨z,o1,none⟩) n c,hdI ((k+1:Nat):Int),hdP z (o1+(k+1)),hdS N M O,hdI M,hdS (some ⟨z,o1,none⟩) n c,hdP z o1,hdS R F S,hdI F,hdB true,hdB true,hdB true,hdU,hdU,hdU,hdU,hdU,hdU,hdU,hdU,hdU,hdU,hdU,hdB true]
           ⟨fun v w G e h=>h,trivial⟩ ⟨?o0,?o1,?o2,?o3,?o4,?o5,?o6,?o7,?o8,?o9,?o10,?o11,?o12,?o13,?o14,?o15,?o16,?o17,?o18,?o19,?o20,?o21,?o22,?o23,?o24,?o25,?o26,?o27,?o28,?o29,?o30,trivial⟩ ?fin
          case o0 | o1 | o6 | o7 | o8 | o12 | o18=>exact omv
          case o19 | o20 | o21 | o22 | o23 | o24 | o25 | o26 | o27 | o28 | o29=>exact O5 rfl
          case o2 =>
           refine Aj rfl fun r g d f h => ?_;have e0:_=_:=h.1;have D:_=_:=h.2.1;obtain⟨q,l,o⟩:=(E g d).out;have p:=t.ext d;go_simp
           try (first | (intros;omega) | exact pq _ (by omega))
          case o3 =>
           refine Aj rfl fun r g d f h => ?_;have e0:_=_:=h.1;obtain⟨q,l,o⟩:=(E g d).out;have p:=t.ext d;go_simp
          case o4 =>
           refine Ag rfl fun r g d f H h => ?_;have D:_=_:=h.2.1;obtain⟨q,l,o⟩:=(E g d).out;have p:=t.ext d;refine⟨106,#[.slice N M O],by go_simp,(S1 p).mono ?_⟩;rintro e G ⟨rfl,B⟩;exact⟨_,rfl,B,by rw[a6]⟩
          case o5 =>
           refine Aj rfl fun r g d f h => ?_;obtain⟨v0,e0,rfl⟩:=h.1;obtain⟨q,l,o⟩:=(E g d).out;have p:=t.ext d;go_simp
          case o9 =>
           refine Aj rfl fun r g d f h => ?_;have e0:_=_:=h.1;have D:_=_:=h.2.1;obtain⟨q,l,o⟩:=(E g d).out;have p:=t.ext d;go_simp
           try (first | (intros;omega) | exact pq _ (by omega))
          case o10 =>
           refine Aj rfl fun r g d f h => ?_;have e0:_=_:=h.1;obtain⟨q,l,o⟩:=(E g d).out;have p:=t.ext d;go_simp
          case o11 =>
           refine Aj rfl fun r g d f h => ?_;have e0:_=_:=h.1;obtain⟨q,l,o⟩:=(E g d).out;have p:=t.ext d;go_simp
          case o13 =>
           refine Aj rfl fun r g d f h => ?_;have e0:_=_:=h.1;obtain⟨q,l,o⟩:=(E g d).out;have p:=t.ext d;go_simp
           try (first | (intros;omega) | exact pq _ (by omega))
          case o14 =>
           refine Aj rfl fun r g d f h => ?_;have e0:_=_:=h.1;obtain⟨q,l,o⟩:=(E g d).out;have p:=t.ext d;go_simp
          case o15 =>
           refine Aj rfl fun r g d f h => ?_;have e0:_=_:=h.1;obtain⟨q,l,o⟩:=(E g d).out;have p:=t.ext d;go_simp
          case o16 =>
           refine Aj rfl fun r g d f h => ?_;have e0:_=_:=h.1;have D:_=_:=h.2.1;obtain⟨q,l,o⟩:=(E g d).out;have p:=t.ext d;go_simp
           try (first | (intros;omega) | exact pq _ (by omega))
          case o17 =>
           refine Aj rfl fun r g d f h => ?_;have e0:_=_:=h.1;have J:_=_:=h.2.2.1;obtain⟨q,l,o⟩:=(E g d).out;have p:=t.ext d;go_simp
          case o30 =>
           refine Aj rfl fun r g d f h => ?_;have e0:_=_:=h.1;have J:_=_:=h.2.2.1;obtain⟨q,l,o⟩:=(E g d).out;have p:=t.ext d;go_simp
          case fin =>
           intro g d;rintro _ rfl;change wpList _ _ _ _ _ _;simp only[Ci];go_wp2
           go_meet
           exact⟨true,rfl,hE.trans d,lz (fun h=>by cases h),lz (fun _ h=>by have:=(h.perms _ (H6 (i:=k+1) (by have:=T.out;omega))).2;have D:=s1.len;have J:=t.len;omega)⟩
      case rest =>
       obtain⟨b,rfl,aj,I,ai⟩:=hcut;cases b with
       | true =>
        have HG:=lz (X1 (ai.out rfl));clear ai I;go_wp2;go_ret;exact⟨YJ HG.out,a7.trans aj⟩
       | false =>
        go_wp2;go_roundw
        case rel=>exact⟨k+1,by go_num,by omega,aj,lz (I.out rfl)⟩
        case measure=>simp[intOf];omega
    · obtain⟨aq,K⟩:=HK.out.all (by have:=T.out;omega);have ac:=lz aq;have ah:=lz K;have ba:(ls.getD 0 []).length<=6:=(G3 L).1;have ek:k+1=n:=by omega
      clear HK aq K ek;have al:=a7.trans hE;obtain⟨wo,rfl⟩:∃ wo:World,wo=wr:=⟨_,rfl⟩;go_wp2
      go_loopw[4] (fun iv wr=>∃ i:Nat,iv = .int .i64 i/\i<=n/\Ext wo wr/\Hid (∀ x y,x<i->y<n->comp (ls.getD x []) (ls.getD y [])∈ls)) (fun iv _=>n-(intOf iv).toNat)
      case atStart=>exact⟨0,rfl,pE _,Ext.refl _,lz (fun x y h=>by omega)⟩
      case round =>
       obtain⟨i,rfl,hi,a8,HC⟩:=hrel;by_cases ag:i<n
       · obtain⟨aa,rfl⟩:∃ aa:World,aa=wr:=⟨_,rfl⟩;go_wp2
         go_loopw[5] (fun kv wr=>∃ k:Nat,kv = .int .i64 k/\k<=n/\Ext aa wr/\Hid (∀ y,y<k->comp (ls.getD i []) (ls.getD y [])∈ls)) (fun kv _=>n-(intOf kv).toNat)
         case atStart=>exact⟨0,rfl,pE _,Ext.refl _,lz (fun y h=>by omega)⟩
         case round =>
          obtain⟨k,rfl,hk,hE,HD⟩:=hrel;have P:=(P.ext a8).ext hE;by_cases b0:k<n
          · obtain⟨z,o1,N,m,O,rfl,g2,t⟩:=P.at (k:=i) ag;obtain⟨b3,o3,a3,m3,c3,e3,g3,s3⟩:=P.at (k:=k) b0;simp only[pz,qq,qO]at e3;obtain⟨rfl,rfl⟩:=e3;have q1:=ac.out _ (H6 (i:=i) (by have:=T.out;omega));have q2:=ac.out _ (H6 (i:=k) (by have:=T.out;omega));have em:m3=m:=by have D:=t.len;have J:=s3.len;omega
            subst em;have hm:m3<=6:=by have D:=t.len;omega
            have ax:=lz (fun(h:comp (ls.getD i []) (ls.getD k [])∈ls) y (hy:y<k+1)=>show comp (ls.getD i []) (ls.getD y [])∈ls from by
             by_cases he:y=k
             · subst he;exact h
             · exact HD.out y (by omega))
            have aA:=lz (fun(h:comp (ls.getD i []) (ls.getD k []) ∉ ls) (hg:isG ls)=>h (hg.comp (by have:=T.out;omega) (by have:=T.out;omega)));generalize ls.getD i []=pi at *
            generalize ls.getD k []=pk at *
            have ag:∀ j,j<m3->0<=pk.getD j 0/\pk.getD j 0<m3:=by
             intro j hj;have J:=s3.len;have:=Zm q2.1 (i:=j) (by omega);omega
            have K:=ah.out;obtain⟨fb,a9⟩:∃ fb,decide (comp pi pk∈ls)=fb:=⟨_,rfl⟩
            go_upto_region 14 with(fail)
            go_cut [7] from 78 to 99 (fun s g=>∃ b,s = .bool b/\Ext aa g/\decide (comp pi pk∈ls)=b)
            case first =>
             have Q:=fun(g:World) (d:Ext wr g)=>lz (And.intro (d.cell g2) (d.cell g3))
             refine B0
              [hdS (some ⟨z,o1,none⟩) n c,hdS (some ⟨z,o1,none⟩) n c,hdI i,hdP z (o1+i),hdS N m3 O,hdS (some ⟨z,o1,none⟩) n c,hdI k,hdP z (o1+k),hdS a3 m3 c3,hp (fun v g=>∃ U X V,v = .slice U X V/\SlI g U X V (comp pi pk)),hp (fun v g=>v = .tuple #[.int .i64 (posL ls (comp pi pk)),.bool fb]),he (.tuple #[.int .i64 (posL ls (comp pi pk)),.bool fb]),hdI (posL ls (comp pi pk)),hdB fb,hdI (posL ls (comp pi pk)),hdB fb]
              ⟨fun v w G e ⟨U,X,V,h1,h2⟩=>⟨U,X,V,h1,h2.ext e⟩,fun v w G e h=>h,trivial⟩ ⟨?o0,?o1,?o2,?o3,?o4,?o5,?o6,?o7,?o8,?o9,?o10,?o11,?o12,?o13,?o14,?o15,trivial⟩ ?fin
             case o0 | o1 | o2 | o5 | o6=>exact omv
             case o4 | o8=>exact ol
             case o14 | o15=>exact oas
             case o3 =>
              refine Aj rfl fun r g d f h => ?_;have e0:_=_:=h.1;have D:_=_:=h.2.1;obtain⟨l,o⟩:=(Q g d).out;go_simp
              try (first | (intros;omega) | exact pq _ (by omega))
             case o7 =>
              refine Aj rfl fun r g d f h => ?_;have e0:_=_:=h.1;have D:_=_:=h.2.1;obtain⟨l,o⟩:=(Q g d).out;go_simp
              try (first | (intros;omega) | exact pq _ (by omega))
             case o9 =>
              refine Ag rfl fun r g d f H h => ?_;have D:_=_:=h.2.1;have J:_=_:=h.2.2.1;obtain⟨l,o⟩:=(Q g d).out;refine⟨173,#[.slice N m3 O,.slice a3 m3 c3],by go_simp,(cS (t.ext d) (s3.ext d) ag (by omega)).mono ?_⟩;rintro e G ⟨U,X,V,rfl,B,ad⟩;exact⟨_,rfl,B,U,X,V,rfl,ad.sl⟩
             case o10 =>
              refine Ag rfl fun r g d f H h => ?_;have D:_=_:=h.2.1;obtain⟨v2,J,N,M,O,rfl,t⟩:=h.2.2.1;obtain⟨l,o⟩:=(Q g d).out;refine⟨174,#[.slice (some ⟨z,o1,none⟩) n c,.slice N M O],by go_simp,(gY (P.ext d) t K (by omega)).mono ?_⟩;rintro e G ⟨rfl,a0⟩;exact⟨_,rfl,a0.ext,by rw[a9]⟩
             case o11 =>
              refine Aj rfl fun r g d f h => ?_;obtain⟨v0,e0,rfl⟩:=h.1;obtain⟨l,o⟩:=(Q g d).out;go_simp
             case o12 =>
              refine Aj rfl fun r g d f h => ?_;have e0:_=_:=h.1;obtain⟨l,o⟩:=(Q g d).out;go_simp
             case o13 =>
              refine Aj rfl fun r g d f h => ?_;have e0:_=_:=h.1;obtain⟨l,o⟩:=(Q g d).out;go_simp
             case fin =>
              intro g d;rintro _ ⟨b7,bg,b9,rfl,bj⟩;rintro _ rfl;change wpList _ _ _ _ _ _;simp only[Ci];go_wp2
              go_meet
              exact⟨fb,rfl,hE.trans d,a9⟩
            case rest =>
             obtain⟨b,rfl,ak,Y⟩:=hcut;cases b with
             | false =>
              have HG:=lz (X1 (aA.out (by simpa using Y)));clear Y a9;go_wp2;go_ret;exact⟨YJ HG.out,(al.trans a8).trans ak⟩
             | true =>
              have av:=lz (ax.out (by simpa using Y));clear Y a9;go_wp2;go_roundw
              case rel=>exact⟨k+1,by go_num,by omega,ak,av⟩
              case measure=>simp[intOf];omega
          · have ek:k=n:=by omega
            have ab:=HD.out;rw[ek]at ab
            have ar:=lz (fun x y (hx:x<i+1) (hy:y<n)=>show comp (ls.getD x []) (ls.getD y [])∈ls from by
             by_cases he:x=i
             · subst he;exact ab y hy
             · exact HC.out x y (by omega) hy)
            clear ab HD ek;go_wp2;go_roundw
            case rel=>exact⟨i+1,by go_num,by omega,a8.trans hE,ar⟩
            case measure=>simp[intOf];omega
       · have HG:=lz (au (kQ (by have:=T.out;omega) ay.out ac.out ah.out (fun x y hx hy=>HC.out x y (by have:=T.out;omega) (by have:=T.out;omega))));go_wp2;go_ret;exact⟨YJ HG.out,al.trans a8⟩
theorem gZ(s:ByteArray)(k:Nat)(h:k<s.size):(An s).take (k+1)=(An s).take k ++ [s[k]]:=by
 unfold An;rw[pB (by simpa using h)];rfl
theorem aO(n:W.digs (An s))(F:s.size<=9) :
 Calls prog 267 #[.string s] w fun e D=>e = .returned (.int .i64 ((W.decV (An s):Nat):Int))/\D=w:=by
 have p:=qh n;have b:(An s).length=s.size:=Ay s;have r:=qh b;clear b n
 go_enter func267,ntmps267
 go_wp2
 go_loop[3,7] (fun C j=>∃ k m:Nat,k<=s.size/\j = .int .i64 k/\C = .int .i64 (m:Int)/\m<10^k/\Hid (m=W.decV ((An s).take k))) (fun _ j=>s.size-(intOf j).toNat)
 case atStart=>exact⟨0,0,pE _,rfl,rfl,by decide,qh rfl⟩
 case round =>
  obtain⟨k,m,E,rfl,rfl,o,l⟩:=hrel;by_cases i:k<s.size
  · have a:=gZ s k i
    have f:W.isDig s[k]:=p.out _ (by
     have:s[k]∈(An s).take (k+1):=by rw[a];simp
     exact rF this)
    have y:48<=s[k].toNat:=f.1;have z:s[k].toNat<=57:=f.2;have t:Hid (W.decV ((An s).take (k+1))=10*m+(s[k].toNat-48)):=qh (by rw[a,W.decV_snoc,l.out]);have d:10^k<=10^8:=pR (by omega) (by omega);have B:(m:Int)<100000000:=by
     have:(10:Nat)^8=100000000:=by decide
     omega
    have c:10^(k+1)=10*10^k:=by rw[qB,pM]
    have v:=qh (And.intro o c);generalize A:s[k].toNat=x at *
    clear a f d o c;go_wp2;go_round
    case rel=>exact⟨k+1,10*m+(x-48),by omega,by go_num,by congr 1;omega,by have:=v.out;omega,qh (by rw[t.out])⟩
    case measure=>simp[intOf];omega
  · have g:k=s.size:=by omega
    subst g;have q:Hid (m=W.decV (An s)):=qh (by rw[l.out,pu (by rw[r.out];exact lrf _)]);go_wp2;go_ret;refine⟨?_,rfl⟩;show Ending.returned (.int .i64 (m:Int))=_;rw[q.out]
theorem gA{x y:Nat}(p:x<=9223372036854775807)(q:y<=9223372036854775807) :
 Calls prog 226 #[.int .i64 (x:Int),.int .i64 (y:Int)] w fun e r=>e = .returned (.int .i64 ((Nat.gcd x y:Nat):Int))/\Qt w r:=by
 go_enter func226,ntmps226
 go_wp2
 go_loopw[0,1] (fun j f wr=>∃ a b:Nat,j = .int .i64 (a:Int)/\f = .int .i64 (b:Int)/\a<=9223372036854775807/\b<=9223372036854775807/\Hid (Nat.gcd a b=Nat.gcd x y)/\Qt w wr) (fun _ f _=>(intOf f).toNat)
 case atStart=>exact⟨x,y,rfl,rfl,p,q,qh rfl,Qt.refl _⟩
 case round =>
  obtain⟨a,b,rfl,rfl,s,k,g,i⟩:=hrel;by_cases c:b=0
  · have d:Hid (a=Nat.gcd x y):=qh (by rw[<-g.out,c,tS]);subst c;go_wp2;go_ret;refine⟨?_,i⟩;show Ending.returned (.int .i64 (a:Int))=_;rw[d.out]
  · have n:((b:Int) != 0)=true:=by simp;omega
    have m:((b:Int) == 0)=false:=by simp;omega
    have l:(0:Int)<(b:Int):=by omega
    have d:Hid (Nat.gcd b (a%b)=Nat.gcd x y):=qh (by rw[<-g.out,sd b,<-wD,sd]);have o:a%b<b:=qf _ (by omega);go_wp2
    go_quiet (fail)
    go_wp2;go_roundw
    case rel=>exact⟨b,a%b,rfl,by first | rfl | (congr 1),k,by omega,d,i.drewN _⟩
    case measure=>simp[intOf];omega
end Go.Proofs.YtlbmnokpiilfpaaGreatDoor
