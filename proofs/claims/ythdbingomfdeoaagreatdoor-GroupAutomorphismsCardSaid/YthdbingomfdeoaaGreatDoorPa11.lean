/- Part Pa11. -/
import Derived.Test.YthdbingomfdeoaaGreatDoorPa10
import Derived.BigQuiet
import Derived.Deep.LoopGhost
import Derived.BigRegion
import Derived.WalkSpells
import Derived.Maps.RangeWalk
set_option linter.all false
set_option maxRecDepth 100000
set_option maxHeartbeats 100000000
namespace Go.Proofs.YthdbingomfdeoaaGreatDoor
open Tryz Go Go.RowKit
def jV:=@List.getElem?_map
def l8:=@Option.isSome_none
variable {f:Act} {ops:Array Oper} {Q:Exit->Act->World->Prop} {va vars:Int} {L gs l ps ps0 q qs:List (List Int)} {m:List (List Int×Value)} {g p xs ys:List Int} {seen:List Nat} {rest:List Oper} {cells cs cs' qc:List Value} {N b0 base base' c c' cg i it j k n n' ng r:Nat} {o:Oper} {x y:Operand} {A a a' ag b:Option Addr} {cons:Option Nat} {P:Program} {e e' t:TypeId} {v:Value} {w w' wA:World}
open Classical in
noncomputable def rdN (vars:Int) (ts:List Tx):Option (List Pl.Tm):=if 0<=vars/\vars<=6/\okT vars ts ts.length then some (ts.map rdU)else none
def CX(b0:Nat)(w:World)(vars:Int)(o:Option (List Pl.Tm))(e:Ending)(w':World):Prop:=∃ a n c,e = .returned (.tuple #[.agg (pL (if o.isSome then vars else 0) a n c).toArray,.bool o.isSome])/\Ext w w'/\TO w' b0 w.heap.size a n c (o.getD [])
theorem CX.no{o:Option (List Pl.Tm)}(h:o=none)(e:Ext w w'):CX b0 w vars o (.returned (.tuple #[.agg (pL 0 none 0 0).toArray,.bool false])) w':=by
 subst h;exact⟨none,0,0,rfl,e,TO.nil _ _ _⟩
theorem PE{t:Tx}{q:Rat}(h1:AZ t.1=some q)(h2:q≠0)(h3:(t.2.length:Int)=vars)(h4:∀ e∈t.2,0<=e/\e<=1048576):(Ay vars t).isSome=true:=by
 unfold Ay;rw[h1];simp only;rw[fE ⟨h2,h3,h4⟩];rfl
theorem EP{t:Tx}(h:∀ q,AZ t.1=some q->q≠0->(t.2.length:Int)=vars->¬ ∀ e∈t.2,0<=e/\e<=1048576):(Ay vars t).isSome=false:=by
 unfold Ay;cases b:AZ t.1 with
 | none=>rfl
 | some q =>
  simp only;rw[fl (fun a=>h q b a.1 a.2.1 a.2.2)];rfl
theorem SE{ts:List Tx}(a:k<ts.length)(h:(Ay vars (ts.getD k tm0)).isSome=false):rdN vars ts=none:=by
 unfold rdN;rw[fl];rintro⟨_,_,h1,_⟩;have:=h1 k a;rw[h]at this;cases this
theorem SF{ts:List Tx}(a:k+1<ts.length)(h:¬ 0<Pl.ordE (ts.getD k tm0).2 (ts.getD (k+1) tm0).2):rdN vars ts=none:=by
 unfold rdN;rw[fl];rintro⟨_,_,_,h1⟩;exact h (h1 k a)
theorem okT.step{ts:List Tx}(h:okT vars ts k)(h1:(Ay vars (ts.getD k tm0)).isSome=true)(h2:∀ j,k=j+1->0<Pl.ordE (ts.getD j tm0).2 (ts.getD (j+1) tm0).2):okT vars ts (k+1):=by
 refine⟨fun i b => ?_,fun i b => ?_⟩
 · by_cases a:i<k
   · exact h.1 i a
   · have:i=k:=by omega
     subst this;exact h1
 · by_cases a:i+1<k
   · exact h.2 i a
   · exact h2 i (by omega)
theorem QX{l:List Int}(h:∀ i,i<l.length->0<=l.getD i 0/\l.getD i 0<=1048576):∀ x∈l,0<=x/\x<=1048576:=fun x b=>by
 obtain⟨i,a,rfl⟩:=fR b;have:=h i a
 rwa[gqq,eQ a,fC]at this
theorem M8{ts:List Tx}(h:CS wA A n c ts)(hA:Ext wA w)(hs:∀ t∈ts,t.1.length<=10000)(hn:n<=100000) :
 Calls prog 50 #[.agg #[.int .i64 vars,.slice A n c]] w (CX wA.heap.size w vars (rdN vars ts)):=by
 have b6:=h.len;obtain⟨cm,hS,_,hq⟩:=h;have HQ:=qh hq;have HL:=qh b6;have HS:=qh hs;obtain⟨r,hr⟩:∃ r,rdN vars ts=r:=⟨_,rfl⟩;rw[hr];have HR:=qh hr;clear hr hq b6 hs
 go_enter func50,ntmps50
 go_upto_region 1 with(fail)
 refine I6 ?_;intro w0 O aR bh b2;have aa:Arr w0 (w.heap.size+1) 65 (pL 0 none 0 0):=bh;have p0:=aR.c 0 rfl;have p1:=aR.c 1 rfl;have ar:=Arr.new w0 65 (pL vars none 0 0);have a6:=(Ext.refl w0).alloc (.cells (pL vars none 0 0).toArray 65);clear aR bh
 go_upto_region 2 with(fail)
 change Code.wp _ _ _ _ (w0.alloc (.cells (pL vars none 0 0).toArray 65));generalize w0.alloc (.cells (pL vars none 0 0).toArray 65)=w2 at *
 have aP:Hid (w0.heap.size<=w.heap.size+2):=qh (kV b2);rw[b2]at ar;obtain⟨OB,aU⟩:∃ OB,w.heap.size+2=OB:=⟨_,rfl⟩;rw[aU]at ar aP;simp only[aU];clear aU b2;have q0:=a6.cell p0;by_cases hv:0<=vars/\vars<=6
 case neg =>
  have HF:Hid (r=none):=qh (by rw[<-HR.out];unfold rdN;rw[fl (fun h=>hv ⟨h.1,h.2.1⟩)]);have c4:vars<0\/¬ vars<0/\6<vars:=by omega
  have bX:=aa.ext a6;have aq:=O.trans a6;clear p0 p1;rcases c4 with c1|⟨c1,c2⟩
  all_goals
   go_wp2_with(refine Aa (vs:=pL 0 none 0 0) rfl rfl rfl rfl rfl Av bX rfl (AX _ _ _ _) ?_;intro w9 z o)
   exact eZ (Ap rfl Av rfl rfl z) rfl (CX.no HF.out (aq.grownR o (by omega)))
 obtain⟨cf,cg⟩:=hv;obtain⟨vn,rfl⟩:∃ k:Nat,vars=(k:Int):=⟨vars.toNat,by omega⟩;have c1:¬ ((vn:Int)<0):=by omega
 have c2:¬ ((6:Int)<(vn:Int)):=by omega
 go_wp2;clear q0 c1 c2
 go_loopg [5] n (fun gk iv wr=>∃ (k:Nat) (ao:Option Addr) (co:Nat),iv = .int .i64 k/\k<=n/\n<=k+gk/\Ext w0 wr/\Arr wr OB 65 (pL vn ao k co)/\Hid (TO wr wA.heap.size w0.heap.size ao k co ((ts.take k).map rdU))/\Hid (okT vn ts k))
 case atStart=>exact⟨0,none,0,rfl,f8 _,by omega,a6,ar,qh (by rw[gZ];exact TO.nil _ _ _),qh ⟨fun i hi=>absurd hi (by omega),fun i hi=>absurd hi (by omega)⟩⟩
 case round =>
  clear a6 ar;obtain⟨k,ao,co,rfl,hk,cq,hE,a9,HO,HK⟩:=hrel;have aq:=O.trans hE;have an:=hA.trans aq;have bB:=hE.cell p0;have bC:=hE.cell p1;by_cases aX:k<n
  case neg =>
   have bG:¬ (k:Int)<n:=by omega
   have hT:TO wr wA.heap.size w0.heap.size ao k co (ts.map rdU):=by
    have h1:=HO.out;rw[eR (by have:=HL.out;omega)]at h1;exact h1
   have HT:=qh hT
   have HF:Hid (r=some (ts.map rdU)):=qh (by
    rw[<-HR.out];unfold rdN
    rw[fE ⟨cf,cg,by rw[HL.out,<-show k=n by omega];exact HK.out⟩])
   have z0:=a9.c 0 rfl;have z1:=a9.c 1 rfl;have bk:=aa.ext hE;clear HO HK hT a9 hk
   go_wp2_with(refine Aa (vs:=pL vn ao k co) rfl rfl rfl rfl rfl Av bk rfl (AX _ _ _ _) ?_;intro w9 z o)
   refine eZ (Ap rfl Av rfl rfl z) rfl ?_;rw[HF.out];exact⟨ao,k,co,rfl,aq.grownR o (by omega),(HT.out.keptA bk (by decide) (by decide) (by decide) (by have:=hA.size;omega) o).mono O.size⟩
  have bG:(k:Int)<n:=by omega
  have bl:=hS.ext an;obtain⟨b,M,rfl,aw⟩:=bl.rd (by omega);obtain⟨s,ax,I,cx,aM,b0,aF⟩:=HQ.out k aX;have ac:k<ts.length:=by have:=HL.out;omega
  have b4:Hid (ts.getD k tm0∈ts):=qh (by rw[gqq,eQ ac,fC];exact fu ac);have gs:wr.cell? ⟨b,M+k*2,none⟩=some (.string s):=by have:=aw k aX 0 (by omega);rw[aM]at this;exact this
  have gx:wr.cell? ⟨b,M+k*2+1,none⟩=some (.slice ax I cx):=by have:=aw k aX 1 (by omega);rw[aM]at this;exact this
  have bu:=qh ((T3 aF).ext an);have af:=aF.ext an;have aY:=aF.len;have bs:s.size<=10000:=by rw[<-Al,b0];exact HS.out _ b4.out
  have aC:=qh (Qu (w:=wr) bs);rw[b0]at aC;have bd:=qh (QW ac);have m:=fun h=>qh (SE (vars:=(vn:Int)) ac h);have p:=fun h h2=>qh (HK.out.step (k:=k) h h2)
  have Z:Hid (∀ j,k=j+1->∃ ap cp,wr.cell? ⟨b,M+j*2+1,none⟩=some (.slice ap vn cp)/\SlI wr ap vn cp (ts.getD j tm0).2/\∀ x∈(ts.getD j tm0).2,0<=x/\x<=1048576):=qh (fun j hj=>by
   obtain⟨sp,ap,np,cp,bE,_,ae⟩:=HQ.out j (by omega);have h1:=Dg (HK.out.1 j (by omega));have h2:=ae.len;have h3:np=vn:=by omega
   subst h3;have h4:=aw j (by omega) 1 (by omega);rw[bE]at h4
   exact⟨ap,cp,h4,ae.ext an,h1.2⟩)
  have B:=fun j (hj:k=j+1) h=>qh (SF (vars:=(vn:Int)) (ts:=ts) (k:=j) (by omega) h);rw[HR.out]at m B;obtain⟨t,aQ⟩:∃ t,Hid (ts.getD k tm0=t):=⟨_,qh rfl⟩;rw[aQ.out]at aC bu af aY b4 bd m p;have a5:=qh aY;clear aw aM aF b0 bs bl ac HK aY
  go_wp2_with fail
  refine aC.out.mono ?_;rintro e w3 ⟨X,Q,W,T,R,V,U,rfl,bi,b1⟩;have bn:=Arr.new w3 109 (Ar false none 0 0 false none 0 0);have ca:(Ar X Q W T false R V U).toArray=#[.bool X,.slice Q W T,.bool false,.slice R V U]:=rfl
  go_upto_region 8 with(refine Aa (vs:=Ar X Q W T false R V U) rfl rfl rfl rfl rfl A5 bn rfl (Ao _ _ _ _ _ _ _ _) ?_;intro w4 a0 bq)
  have ah:Ext w3 w4:=((Ext.refl w3).alloc _).grownR bq (lrf _);have K:=bi.trans ah;have J:=hE.trans K;have aH:=K.cell bB;have aI:=K.cell bC;have am:=K.cell gx;obtain⟨Y,bm⟩:∃ x,w3.heap.size=x:=⟨_,rfl⟩;rw[bm]at a0 |-;have z0:=a0.c 0 rfl;have z1:=a0.c 1 rfl;have z2:=a0.c 2 rfl;have z3:=a0.c 3 rfl;clear bn bq ca aC a0 bm gs gx bB bC;cases ad:AZ t.1 with
  | none =>
   have G:Hid (r=none):=qh (m (EP (fun q hq=>by rw[ad]at hq;cases hq))).out;have H:=aa.ext J;have L:=O.trans J;simp only[l8];clear ad b1 Z B p m af
   go_upto_region 8 with(fail)
   go_quiet (fail)
   go_wp2_with(refine Aa (vs:=pL 0 none 0 0) rfl rfl rfl rfl rfl Av H rfl (AX _ _ _ _) ?_;intro w9 z o)
   exact eZ (Ap rfl Av rfl rfl z) rfl (CX.no G.out ((L.drewN _).grownR o (by omega)))
  | some q =>
   obtain⟨bc,bt,bv⟩:=b1 q ad;have aE:=bt.ext ah;have aG:=bv.ext ah;simp only[kE];have al:=qh ad;obtain⟨S,ab⟩:∃ S,q.num.sign=S:=⟨_,rfl⟩;have aZ:=qh (fun(f:World) (a:Ext w4 f)=>KG (v := .agg #[.bool X,.slice Q W T,.bool false,.slice R V U]) (q:=q) ⟨X,Q,W,T,R,V,U,rfl,bc,aE.ext a,aG.ext a⟩ ab);clear ad b1 bt bv;by_cases a1:q=0
   case pos =>
    have bZ:S=0:=by rw[<-ab,a1];rfl
    have G:Hid (r=none):=qh (m (EP (fun q' aB cb=>by rw[al.out]at aB;injection aB with aB;exact absurd (aB.symm.trans a1) cb))).out;subst bZ;clear ab a1 Z B p m aE aG af
    go_upto_region 8 with(fail)
    have a4:=fun(f:World) (a:Ext w4 f)=>qh (And.intro (a.cell z0) (And.intro (a.cell z1) (And.intro (a.cell z2) (And.intro (a.cell z3) (And.intro (a.cell am) (And.intro (a.cell aH) (a.cell aI)))))))
    refine Ac
     [hdB true,hdB false,hdB false,he (.agg #[.bool X,.slice Q W T,.bool false,.slice R V U]),hp (fun v f=>v = .int .i64 0),hdB true,hdB true,hdB true,hdU,hdU,hdU,hdU,hdU,hdU,hdU,hdU,hdU,hdU,hdB true]
     ⟨fun v w w' e h=>h,trivial⟩ ⟨?o0,?o1,?o2,?o3,?o4,?o5,?o6,?o7,?o8,?o9,?o10,?o11,?o12,?o13,?o14,?o15,?o16,?o17,?o18,trivial⟩ ?fin
    case o0 | o2 | o7=>exact omv
    case o3=>exact ol4
    case o8 | o9 | o10 | o11 | o12 | o13 | o14 | o15 | o16 | o17=>exact Gh rfl
    case o1 =>
     refine Ae rfl fun ρ f a l h => ?_;have e0:_=_:=h.1;obtain⟨C,D,E,F,kx,ka,kb⟩:=(a4 f a).out;go_simp
    case o4 =>
     refine Ah rfl fun ρ f a l bp h => ?_;have e1:_=_:=h.2.1;obtain⟨C,D,E,F,kx,ka,kb⟩:=(a4 f a).out;refine⟨78,#[.agg #[.bool X,.slice Q W T,.bool false,.slice R V U]],by go_simp,(aZ.out f a).mono ?_⟩;rintro e w' ⟨rfl,aS⟩;exact⟨_,rfl,aS,rfl⟩
    case o5 =>
     refine Ae rfl fun ρ f a l h => ?_;obtain⟨v0,e0,rfl⟩:=h.1;obtain⟨C,D,E,F,kx,ka,kb⟩:=(a4 f a).out;go_simp
     try (first | (intros;omega) | exact eT _ (by omega))
    case o6 =>
     refine Ae rfl fun ρ f a l h => ?_;have e0:_=_:=h.1;have e2:_=_:=h.2.2.1;obtain⟨C,D,E,F,kx,ka,kb⟩:=(a4 f a).out;go_simp
    case o18 =>
     refine Ae rfl fun ρ f a l h => ?_;have e0:_=_:=h.1;have e2:_=_:=h.2.2.1;obtain⟨C,D,E,F,kx,ka,kb⟩:=(a4 f a).out;go_simp
    case fin =>
     intro f a;rintro _ rfl;change wpList _ _ _ _ _ _;simp only[Bs];have H:=(aa.ext J).ext a;have L:=(O.trans J).trans a
     go_wp2_with(refine Aa (vs:=pL 0 none 0 0) rfl rfl rfl rfl rfl Av H rfl (AX _ _ _ _) ?_;intro w9 z o)
     exact eZ (Ap rfl Av rfl rfl z) rfl (CX.no G.out (L.grownR o (by omega)))
   have ce:((S:Int) == 0)=false:=by rw[<-ab];simpa using GV a1
   obtain⟨bb,av⟩:∃ bb,((I:Int) != (vn:Int))=bb:=⟨_,rfl⟩;clear ab
   go_upto_region 8 with(fail)
   have N:=fun(f:World) (a:Ext w4 f)=>qh (And.intro (a.cell z0) (And.intro (a.cell z1) (And.intro (a.cell z2) (And.intro (a.cell z3) (And.intro (a.cell am) (And.intro (a.cell aH) (a.cell aI)))))))
   refine Ac
    [hdB true,hdB false,hdB false,he (.agg #[.bool X,.slice Q W T,.bool false,.slice R V U]),hp (fun v f=>v = .int .i64 S),hdB false,hdB false,hdB false,hdP w.heap.size 1,hdS (some ⟨b,M,none⟩) n c,hdI k,hdP b (M+k*2),hdP b ((M+k*2)+1),hdS ax I cx,hdI I,hdP w.heap.size 0,hdI vn,hdB bb,hdB bb]
    ⟨fun v w w' e h=>h,trivial⟩ ⟨?o0,?o1,?o2,?o3,?o4,?o5,?o6,?o7,?o8,?o9,?o10,?o11,?o12,?o13,?o14,?o15,?o16,?o17,?o18,trivial⟩ ?fin
   case o0 | o2 | o7 | o10=>exact omv
   case o3=>exact ol4
   case o8 | o12=>exact ofa (d:=1)
   case o9 | o13 | o16=>exact ol
   case o15=>exact ofa (d:=0)
   case o1 =>
    refine Ae rfl fun ρ f a l h => ?_;have e0:_=_:=h.1;obtain⟨C,D,E,F,kx,ka,kb⟩:=(N f a).out;go_simp
   case o4 =>
    refine Ah rfl fun ρ f a l bp h => ?_;have e1:_=_:=h.2.1;obtain⟨C,D,E,F,kx,ka,kb⟩:=(N f a).out;refine⟨78,#[.agg #[.bool X,.slice Q W T,.bool false,.slice R V U]],by go_simp,(aZ.out f a).mono ?_⟩;rintro e w' ⟨rfl,aS⟩;exact⟨_,rfl,aS,rfl⟩
   case o5 =>
    refine Ae rfl fun ρ f a l h => ?_;obtain⟨v0,e0,rfl⟩:=h.1;obtain⟨C,D,E,F,kx,ka,kb⟩:=(N f a).out;go_simp
    try (first | (intros;omega) | exact eT _ (by omega))
   case o6 =>
    refine Ae rfl fun ρ f a l h => ?_;have e0:_=_:=h.1;have e2:_=_:=h.2.2.1;obtain⟨C,D,E,F,kx,ka,kb⟩:=(N f a).out;go_simp
   case o11 =>
    refine Ae rfl fun ρ f a l h => ?_;have e0:_=_:=h.1;have e1:_=_:=h.2.1;obtain⟨C,D,E,F,kx,ka,kb⟩:=(N f a).out;go_simp
    try (first | (intros;omega) | exact eT _ (by omega))
   case o14 =>
    refine Ae rfl fun ρ f a l h => ?_;have e0:_=_:=h.1;obtain⟨C,D,E,F,kx,ka,kb⟩:=(N f a).out;go_simp
   case o17 =>
    refine Ae rfl fun ρ f a l h => ?_;have e0:_=_:=h.1;have e1:_=_:=h.2.1;obtain⟨C,D,E,F,kx,ka,kb⟩:=(N f a).out;go_simp
    try (first | (intros;omega) | exact eT _ (by omega))
   case o18 =>
    refine Ae rfl fun ρ f a l h => ?_;have e0:_=_:=h.1;have e2:_=_:=h.2.2.1;obtain⟨C,D,E,F,kx,ka,kb⟩:=(N f a).out;go_simp
   case fin =>
    intro f a;rintro _ rfl;change wpList _ _ _ _ _ _;simp only[Bs];generalize ci:f=w5 at *
    clear ci;have b5:=J.trans a;have H:=aa.ext b5;have L:=O.trans b5;have cj:=a.cell aH;have bD:=a.cell aI;have gy:=a.cell am;have ag:=K.trans a;have P:=af.ext ag;have y0:=a.cell z0;have y1:=a.cell z1;have y2:=a.cell z2;have y3:=a.cell z3;have bf:=qh (aE.ext a);have bg:=qh (aG.ext a);clear z0 z1 z2 z3 aH aI am aZ aE aG a ce af K J bi ah;cases bb with
    | true =>
     have aA:¬ (I:Int)=vn:=by simpa using av
     have G:Hid (r=none):=qh (m (EP (fun q' _ _ h3=>absurd (by rw[<-a5.out];exact h3) aA))).out;clear av aA Z B p m P
     go_wp2_with(refine Aa (vs:=pL 0 none 0 0) rfl rfl rfl rfl rfl Av H rfl (AX _ _ _ _) ?_;intro w9 z o)
     exact eZ (Ap rfl Av rfl rfl z) rfl (CX.no G.out (L.grownR o (by omega)))
    | false =>
     have cd:(I:Int)=vn:=by simpa using av
     have cc:I=vn:=by omega
     have a5:=a5.out;subst cc;have aO:=qh a5;clear av cd a5;go_wp2
     go_loop[8] (fun kv=>∃ j:Nat,kv = .int .i64 j/\j<=I/\Hid (∀ i,i<j->0<=t.2.getD i 0/\t.2.getD i 0<=1048576)) (fun kv=>I-(intOf kv).toNat)
     case atStart=>exact⟨0,rfl,f8 _,qh (fun i hi=>absurd hi (by omega))⟩
     case round =>
      obtain⟨j,rfl,hj,HJ⟩:=hrel;by_cases az:j<I
      · have bF:(j:Int)<I:=by omega
        obtain⟨b',cl,rfl,hc⟩:=P.at az;have c1:=hc j az;have HM:Hid (t.2.getD j 0∈t.2):=qh (R7 (by rw[aO.out];exact az))
        have aj:Hid (0<=t.2.getD j 0->t.2.getD j 0<=1048576->∀ i,i<j+1->0<=t.2.getD i 0/\t.2.getD i 0<=1048576):=qh (fun h1 h2 i hi=>by
         by_cases c6:i<j
         · exact HJ.out i c6
         · have:i=j:=by omega
           subst this
           exact⟨h1,h2⟩)
        have a2:Hid (¬ (0<=t.2.getD j 0/\t.2.getD j 0<=1048576)->r=none):=qh (fun h=>(m (EP (fun _ _ _ _ h4=>h (h4 _ HM.out)))).out);clear hc HM Z B p m P HJ;generalize t.2.getD j 0=x at *
        by_cases cs:x<0
        · have G:Hid (r=none):=qh (a2.out (by omega));clear aj a2
          go_upto_region 14 with(fail)
          go_wp2_with(have hq:=H;clear H;refine Aa (vs:=pL 0 none 0 0) rfl rfl rfl rfl rfl Av hq rfl (AX _ _ _ _) ?_;intro w9 z o)
          have h9:=L.grownR o (by omega);exact eZ (Ap rfl Av rfl rfl z) rfl (CX.no G.out h9)
        by_cases ct:1048576<x
        · have G:Hid (r=none):=qh (a2.out (by omega));clear aj a2
          go_upto_region 14 with(fail)
          go_wp2_with(have hq:=H;clear H;refine Aa (vs:=pL 0 none 0 0) rfl rfl rfl rfl rfl Av hq rfl (AX _ _ _ _) ?_;intro w9 z o)
          have h9:=L.grownR o (by omega);exact eZ (Ap rfl Av rfl rfl z) rfl (CX.no G.out h9)
        have bI:=qh (aj.out (by omega) (by omega));clear aj a2;go_wp2;go_round
        case rel=>exact⟨j+1,by go_num,by omega,bI⟩
        case measure=>simp[intOf];omega
      have bF:¬ (j:Int)<I:=by omega
      have HB:Hid (∀ x∈t.2,0<=x/\x<=1048576):=qh (QX (fun i hi=>HJ.out i (by rw[aO.out]at hi;omega)));have be:Hid ((Ay (I:Int) t).isSome=true):=qh (PE al.out a1 (by rw[aO.out]) HB.out);have bK:Hid (rdU t=(t.2,q)):=by show _=_;unfold rdU;rw[al.out];rfl
      clear HJ hj az m a1 al;have c5:k=0\/∃ j,k=j+1:=by cases k;exact .inl rfl;exact .inr ⟨_,rfl⟩
      go_upto_region 15 with(fail)
      rcases c5 with c9|⟨j,aW⟩
      case' inl =>
       have ba:Hid (okT I ts (k+1)):=qh (p be.out (fun j hj=>by omega)).out;have ay:¬ (0:Int)<k:=by omega
       have aK:¬ 0<k:=by omega
       have aL:decide ((0:Int)<k)=false:=fw ay;clear c9 Z B p
       go_quiet (fail)
       clear aK aL
      case' inr =>
       obtain⟨ap,cp,gp,ae,bo⟩:=Z.out j aW;have ai:=fun(f:World) (hq:Ext w5 f)=>qh (EJ ((ae.ext ag).ext hq) (P.ext hq) (by omega) (fun x hx=>by have:=bo x hx;omega) (fun x hx=>by have:=HB.out x hx;omega));have bO:=ag.cell gp;obtain⟨v,HV⟩:∃ v,Hid (Pl.ordE (ts.getD j tm0).2 t.2=v):=⟨_,qh rfl⟩;rw[HV.out]at ai;have ch:IntKind.i64.wrap ((k:Int)-1)=(j:Int):=by rw[show(k:Int)-1=(j:Int) by omega];exact eT _ (by omega)
       have ay:(0:Int)<k:=by omega
       have aK:0<k:=by omega
       have aL:decide ((0:Int)<k)=true:=gl ay;have c8:(j:Int)<n:=by omega
       have ak:=qh aW;clear aW gp bo ae Z;by_cases b7:0<v
       case neg =>
        have G:Hid (r=none):=qh (B j ak.out (by rw[<-ak.out,aQ.out,HV.out];omega)).out;have aD:v<=0:=by omega
        have b8:decide (v<=0)=true:=gl aD;clear B p
        go_quiet (exact jl (ai _ ((Ext.refl w5).drewN _)).out)
        have bY:=H.ext ((Ext.refl w5).drewN nq);have bR:=L.drewN nq;generalize w5.drewN nq=w6 at *
        go_wp2_with(refine Aa (vs:=pL 0 none 0 0) rfl rfl rfl rfl rfl Av bY rfl (AX _ _ _ _) ?_;intro w9 z o)
        exact eZ (Ap rfl Av rfl rfl z) rfl (CX.no G.out (bR.grownR o (by omega)))
       have ba:Hid (okT I ts (k+1)):=qh (p be.out (fun j' cr=>by
        have h1:j'=j:=by have:=ak.out;omega
        rw[h1,<-ak.out,aQ.out,HV.out]
        exact b7)).out
       have aD:¬ v<=0:=by omega
       have b8:decide (v<=0)=false:=fw aD;clear B p
       go_quiet (exact jl (ai _ ((Ext.refl w5).drewN _)).out)
       clear ai bO ch c8 b7 aK aL aD b8
      all_goals
       have y:Ext w5 (w5.drewN nq):=(Ext.refl w5).drewN nq;generalize w5.drewN nq=w6 at *
       have aJ:=ag.trans y;have pp:w6.cell? ⟨OB,1,none⟩=some (.slice ao k co):=(a9.ext aJ).cell (i:=1) (by simp[pL]);have ck:=y.cell bD;have gz:=y.cell gy;have u0:=y.cell y0;have u1:=y.cell y1;have u2:=y.cell y2;have u3:=y.cell y3;have bM:=qh (bu.out.ext aJ);have bL:=qh (bf.out.ext y);have bN:=qh (bg.out.ext y);clear cj bD gy y0 y1 y2 y3 bf bg y P H L ay
       go_upto_region 17 with(fail)
       have aN:=fun(f:World) (a:Ext w6 f)=>qh (And.intro (a.cell u0) (And.intro (a.cell u1) (And.intro (a.cell u2) (And.intro (a.cell u3) (And.intro (a.cell pp) (And.intro (a.cell ck) (a.cell gz)))))))
       refine Ac
        [hdP OB 1,hdS ao k co,he (.agg #[.bool X,.slice Q W T,.bool false,.slice R V U]),hdP w.heap.size 1,hdS (some ⟨b,M,none⟩) n c,hdI k,hdP b (M+k*2),hdP b ((M+k*2)+1),hdS ax I cx,he (.agg #[.bool X,.slice Q W T,.bool false,.slice R V U,.slice ax I cx]),hp (fun v f=>∃ g,v = .slice (some ⟨g,0,none⟩) 1 1/\Arr f g 111 (tL X Q W T R V U ax I cx))]
        ⟨fun v w w' e ⟨g,h1,h2⟩=>⟨g,h1,h2.ext e⟩,trivial⟩ ⟨?o0,?o1,?o2,?o3,?o4,?o5,?o6,?o7,?o8,?o9,?o10,trivial⟩ ?fin
       case o0 | o3 | o7=>exact ofa (d:=1)
       case o1 | o4 | o8=>exact ol
       case o2=>exact ol4
       case o5=>exact omv
       case o6 =>
        refine Ae rfl fun ρ f a l h => ?_;have e0:_=_:=h.1;have e1:_=_:=h.2.1;obtain⟨bw,bx,bz,bA,kp,kq,kg⟩:=(aN f a).out;go_simp
        try (first | (intros;omega) | exact eT _ (by omega))
       case o9 =>
        refine Ae rfl fun ρ f a l h => ?_;have e0:_=_:=h.1;have e1:_=_:=h.2.1;obtain⟨bw,bx,bz,bA,kp,kq,kg⟩:=(aN f a).out;go_simp
       case o10 =>
        refine Cv rfl ?_;intro ρ f hp a h;have l:=hp.const;have bp:=hp.func;have e0:_=_:=h.1;obtain⟨bw,bx,bz,bA,kp,kq,kg⟩:=(aN f a).out;refine⟨_,_,?_,(Ext.refl f).alloc (.cells (tL X Q W T R V U ax I cx).toArray 111),f.heap.size,rfl,Arr.new f 111 (tL X Q W T R V U ax I cx)⟩;simp[execOp,e0,Gt underlying63 BZ];rfl
       case fin =>
        intro f a;rintro _ ⟨g9,rfl,bS⟩;change wpList _ _ _ _ _ _;simp only[Bs];obtain⟨cu,hK,bU,bT⟩:=HO.out;have a8:=aJ.trans a;have aT:=hK.ext a8;have hL:=BA (k:=5) bS rfl;have bj:=a9.ext a8;have aA:=aT.ne bj (by decide);have bH:=(hE.trans a8).size;have c0:wA.heap.size<=OB:=eW hA.size (eW O.size aP.out)
        go_wp2_with(refine CC rfl rfl underlying63 BZ rfl aT rfl hL (by intro r hr u hu;rw[eV.1 hr]at hu;exact FF u hu) (by unfold maxLen;omega) (by omega) bH ?_;intro a7 c7 w7 bV aV cn;have au:=bj.kept aV aA;have cw:=au.frozen 1;have cv:w7.cell? ⟨OB,1,none⟩=some (.slice ao k co):=au.cell (i:=1) (by simp[pL]))
        have b9:=TO.grow aT bU (fun j hj=>(bT j hj).ext a8) (⟨X,Q,W,T,R,V,U,ax,I,cx,rfl,bc,bL.out.ext a,bN.out.ext a,bM.out.ext a⟩:TC _ wA.heap.size (tL X Q W T R V U ax I cx) (t.2,q)) (eW hA.size O.size) bV aV;rw[<-bK.out,bd.out]at b9;have bP:Ext w0 w7:=(hE.trans a8).grown aV (fun g hg=>(hK.lt hg).1);have br:=Ab w7 OB 1 (.slice a7 (k+1) c7);have bW:Arr (w7.setCell ⟨OB,1,none⟩ (.slice a7 (k+1) c7)) OB 65 (pL I a7 (k+1) c7):=au.set 1 _;have bJ:=b9.keptA au (by decide) (by decide) (by decide) c0 br
        have bQ:=bP.grownR br aP.out
        go_roundg (n-(k+1))
        case rel=>exact⟨k+1,a7,c7,by go_num,by omega,by omega,bQ,bW,qh bJ,ba⟩
        case measure=>omega
open Classical in
noncomputable def rdR (vars:Int) (ts:List Tx):Option (List Pl.Tm):=if ts.length<=4096/\∀ t r,ts=t :: r->B3 t.2=true then rdN vars ts else none
theorem KZ{ts:List Tx}{l:List Pl.Tm}(h:rdN vars ts=some l):l=ts.map rdU:=by
 unfold rdN at h;split at h
 · injection h with h;exact h.symm
 · cases h
theorem QY{ts:List Tx}(h:rdN vars ts=none):rdR vars ts=none:=by
 unfold rdR;rw[h];split <;> rfl
theorem SG{ts:List Tx}{l:List Pl.Tm}(h:rdN vars ts=some l)(h0:l.length=0):rdR vars ts=some l:=by
 have h1:=KZ h;have h2:ts=[]:=by
  rw[h1,ft]at h0;exact fa h0
 unfold rdR;rw[h,fE];exact⟨by rw[h2];exact f8 _,fun t r a=>by rw[h2]at a;cases a⟩
theorem QZ{ts:List Tx}{l:List Pl.Tm}(h:rdN vars ts=some l)(h0:0<l.length)(c:ts.length<=4096):rdR vars ts=if B3 (l.getD 0 tz).1=true then some l else none:=by
 have h1:=KZ h;subst h1
 match ts,h0,c,h with
 | t :: r,_,c,h =>
 unfold rdR;rw[h];have e:((t :: r).map rdU).getD 0 tz=rdU t:=rfl;rw[e];by_cases a:B3 t.2=true
 · rw[fE (show B3 (rdU t).1=true from a),fE];exact⟨c,fun f d b=>by injection b with h2 h3;rw[<-h2];exact a⟩
 · rw[fl (show ¬ B3 (rdU t).1=true from a),fl];rintro⟨_,b⟩;exact a (b t r rfl)
theorem Iu{ts:List Tx}(h:CS wA A n c ts)(hA:Ext wA w)(hs:∀ t∈ts,t.1.length<=10000) :
 Calls prog 28 #[.agg #[.int .i64 vars,.slice A n c]] w (CX wA.heap.size w vars (rdR vars ts)):=by
 have j:=h.len;by_cases hn:n<=4096
 case neg =>
  have q:Hid (rdR vars ts=none):=qh (by unfold rdR;exact fl (fun hc=>hn (by rw[j]at hc;exact hc.1)))
  go_enter func28,ntmps28
  go_upto_region 1 with(fail)
  refine I6 ?_;intro w0 y k r a3;have I:Arr w0 (w.heap.size+1) 65 (pL 0 none 0 0):=r;have p1:=k.c 1 rfl;have R:(4096:Int)<n:=by omega
  clear k r j
  go_wp2_with(refine Aa (vs:=pL 0 none 0 0) rfl rfl rfl rfl rfl Av I rfl (AX _ _ _ _) ?_;intro H f g)
  exact eZ (Ap rfl Av rfl rfl f) rfl (CX.no q.out (y.grownR g (by omega)))
 have HL:=qh j;clear j
 go_enter func28,ntmps28
 go_upto_region 1 with(fail)
 refine I6 ?_;intro w0 y k r a3;have I:Arr w0 (w.heap.size+1) 65 (pL 0 none 0 0):=r;have p0:=k.c 0 rfl;have p1:=k.c 1 rfl;have R:¬ (4096:Int)<n:=by omega
 have M:=qh (M8 (vars:=vars) h (hA.trans y) hs (by omega));obtain⟨o,ho⟩:∃ o,rdN vars ts=o:=⟨_,rfl⟩;rw[ho]at M;have W:=qh ho;clear k r h hs ho
 go_wp2_with fail
 refine M.out.mono ?_;rintro e N ⟨D,p,B,rfl,O,J⟩;have P:=I.ext O;have U:=Arr.new N 65 (pL 0 none 0 0);have G:=y.trans O;clear M p0 p1 R;cases o with
 | none =>
  have q:=qh (QY W.out);simp only[l8,iz,ja];have K:(pL 0 D p B).toArray=#[.int .i64 0,.slice D p B]:=rfl
  go_upto_region 4 with(refine Aa (vs:=pL 0 D p B) rfl rfl rfl rfl rfl Av U rfl (AX _ _ _ _) ?_;intro V v z)
  have d:Ext N V:=((Ext.refl N).alloc _).grownR z (lrf _);have a:=P.ext d;have i:=G.trans d;clear U z K
  go_upto_region 5 with(fail)
  go_wp2_with(have L:=a;clear a;refine Aa (vs:=pL 0 none 0 0) rfl rfl rfl rfl rfl Av L rfl (AX _ _ _ _) ?_;intro H f g)
  exact eZ (Ap rfl Av rfl rfl f) rfl (CX.no q.out (i.grownR g (by omega)))
 | some l =>
  simp only[kE,j0,fC]at J |-;have K:(pL vars D p B).toArray=#[.int .i64 vars,.slice D p B]:=rfl
  go_upto_region 4 with(refine Aa (vs:=pL vars D p B) rfl rfl rfl rfl rfl Av U rfl (AX _ _ _ _) ?_;intro V v z)
  have d:Ext N V:=((Ext.refl N).alloc _).grownR z (lrf _);have a:=P.ext d;have i:=G.trans d;have C:=qh (J.ext d);obtain⟨Y,Q⟩:∃ x,N.heap.size=x:=⟨_,rfl⟩;rw[Q]at v |-;have z0:=v.c 0 rfl;have z1:=v.c 1 rfl;clear U z K v Q J
  have F:Hid (rdR vars ts=some l->∀ H,V.grownBy H (some (w.heap.size+1))->CX wA.heap.size w vars (rdR vars ts) (.returned (.tuple #[.agg (pL vars D p B).toArray,.bool true])) H):=qh (fun hr H hg=>by
   rw[hr]
   exact⟨D,p,B,rfl,i.grownR hg (by omega),(C.out.keptA a (by decide) (by decide) (by decide) (by have:=hA.size;omega) hg).mono y.size⟩)
  by_cases h0:0<p
  case neg =>
   have Z:¬ (0:Int)<p:=by omega
   have X:=qh (SG W.out (by have:=C.out.sl.len;omega));clear h0
   go_upto_region 6 with(fail)
   go_wp2_with(have L:=a;clear a;refine Aa (vs:=pL vars D p B) rfl rfl rfl rfl rfl Av L rfl (AX _ _ _ _) ?_;intro H f g)
   refine eZ (Ap rfl Av rfl rfl f) rfl ?_;exact F.out X.out _ g
  have Z:(0:Int)<p:=by omega
  obtain⟨b,a4,a0,s,a2,n2,c2,b2,m2,d2,e2,k2,f2,-,-,-,-,g4,-,-,-,S⟩:=C.out.sl.at h0;subst a0;have E:=qh (LS S.1);have T:=qh (QZ W.out (by have:=C.out.sl.len;omega) (by rw[HL.out];exact hn));rw[ic,gd]at g4;clear S h0;cases m:B3 (l.getD 0 tz).1 with
  | false =>
   have q:Hid (rdR vars ts=none):=by have:=T.out;rw[m]at this;exact qh this
   rw[m]at E;clear m T
   go_wp2_with fail
   refine E.out.mono ?_;rintro e w5 ⟨rfl,rfl⟩
   go_upto_region 5 with(fail)
   go_wp2_with(have L:=a;clear a;refine Aa (vs:=pL 0 none 0 0) rfl rfl rfl rfl rfl Av L rfl (AX _ _ _ _) ?_;intro H f g)
   exact eZ (Ap rfl Av rfl rfl f) rfl (CX.no q.out (i.grownR g (by omega)))
  | true =>
   have X:Hid (rdR vars ts=some l):=by have:=T.out;rw[m]at this;exact qh this
   rw[m]at E;clear m T
   go_wp2_with fail
   refine E.out.mono ?_;rintro e w5 ⟨rfl,rfl⟩
   go_upto_region 6 with(fail)
   go_wp2_with(have L:=a;clear a;refine Aa (vs:=pL vars (some ⟨b,a4,none⟩) p B) rfl rfl rfl rfl rfl Av L rfl (AX _ _ _ _) ?_;intro H f g)
   refine eZ (Ap rfl Av rfl rfl f) rfl ?_;exact F.out X.out _ g
structure Bx where
 g:Nat
 v:Int
 a:Option Addr
 n:Nat
 c:Nat
 ts:List Tx
def SH(w:World)(e:Ending)(w':World):Prop:=e = .returned (.bool true)/\Ext w w'
theorem Eq{ts:List Tx}{l:List Pl.Tm}(h:rdR va ts=some l):l=ts.map rdU/\ts.length<=4096/\0<=va/\va<=6/\okT va ts ts.length:=by
 unfold rdR at h;split at h
 · rename_i h1;have h2:=KZ h;unfold rdN at h;split at h
   · rename_i h3;exact⟨h2,h1.1,h3⟩
   · cases h
 · cases h
theorem BV(va:Int)(ts:List Tx):(rdR va ts).isSome=(rdP va ts).isSome:=by
 unfold rdR rdP rdN rdWF;by_cases h1:ts.length<=4096/\∀ t r,ts=t :: r->B3 t.2=true
 · rw[fE h1,fE h1];by_cases h2:0<=va/\va<=6/\okT va ts ts.length
   · rw[fE h2,fE h2];rfl
   · rw[fl h2,fl h2]
 · rw[fl h1,fl h1]
theorem UT(va:Int)(ts:List Tx):rdP va ts=(rdR va ts).map SD:=by
 have h:=BV va ts;cases a:rdR va ts with
 | none =>
  rw[a]at h;cases hp:rdP va ts with
  | none=>rfl
  | some l=>rw[hp]at h;cases h
 | some l =>
  rw[a]at h;cases hp:rdP va ts with
  | none=>rw[hp]at h;cases h
  | some l' =>
   rw[(KX hp).1,(Eq a).1];rfl
theorem J0{ts:List Tx}{l:List Pl.Tm}(h:rdR va ts=some l):Pl.Canon va.toNat l:=by
 have h1:rdP va ts=some (SD l):=by rw[UT,h];rfl
 have h2:=(KX h1).2
 rwa[<-(Eq h).1]at h2
theorem T4{ts:List Tx}{l:List Pl.Tm}(h:rdR va ts=some l):TB va.toNat l:=fun t a=>by
 have h1:=Eq h;refine⟨(J0 h).len t a,?_⟩;rw[h1.1]at a;obtain⟨s,c,rfl⟩:=fh.1 a;obtain⟨i,b,rfl⟩:=fR c;have h2:=h1.2.2.2.2.1 i b;rw[gqq,eQ b,fC]at h2;intro x d;have:=(Dg h2).2 x d;omega
theorem T5{ts:List Tx}{l:List Pl.Tm}(h:rdR va ts=some l)(e:∀ t∈ts,t.1.length<=k):∀ t∈l,Pl.RB (4*k) t.2:=fun t c=>by
 rw[(Eq h).1]at c;obtain⟨s,a,rfl⟩:=fh.1 c;have h1:=Eq h;obtain⟨i,b,he⟩:=fR a;have h2:=h1.2.2.2.2.1 i b;rw[gqq,eQ b,fC,he]at h2;obtain⟨m,d⟩:=gD.1 h2;have h3:=(A6 d).1;have h4:(rdU s).2=m.2:=by unfold rdU;rw[h3];rfl
 rw[h4];refine TY ?_;rw[<-DA h3];exact e s a
theorem T6{v:Int} :(Instr.field 65 (.agg #[.int .i64 v,.slice a n c]) 1).run prog w = .ok (.slice a n c) w:=by kernel_rfl
section
variable {P:Program} {ops:Array Oper} {hs:List Hd} {a0:Act} {C:World->Prop} {i:Nat} {o:Oper}
theorem LT{p:Value->World->Prop}(e:Bg hs o=some true)
 (h:∀ a w,Dd a->C w->Cf ops hs a0 o a w o.op.operands.toList->∃ v b,(execOp a o).run P w = .ok (.value v) b/\Ext w b/\p v b) :
 obl P C ops hs a0 i o ⟨false,.pr p,cons⟩:=by
 unfold obl;rw[e];intro a w hp c f;obtain⟨v,b,d,h1,h2⟩:=h a w hp c f;rw[d];exact⟨h1,h2⟩
end
def PV4(va:Int)(r:Bool)(v:Value):Prop:=∃ a n c,v = .agg (pL va a n c).toArray/\(n=0<->r=true)
def PV5(r:Bool)(v:Value):Prop:=∃ a n c,v = .slice a n c/\(n=0<->r=true)
def PV6(r:Bool)(v:Value):Prop:=∃ n:Nat,v = .int .i64 n/\(n=0<->r=true)
open Classical in
noncomputable def sameB (la lb:List Pl.Tm):Bool:=decide (∀ x,Pl.coef (la ++ Pl.scl (-1) lb) x=0)
theorem Q2:Pl.RB 48 (-1):=⟨RT (by omega),RT (by omega)⟩
theorem T7:Pl.RB 1000000 (-1):=Q2.mono (by omega)
open Classical in
theorem M9(hN:N<=12){va vb:Int}{a b:Option Addr}{n c m d:Nat}{D lb:List Pl.Tm}{w:World}(ha:TSl w b0 a n c D)(hb:TSl w b0 b m d lb)(V:va=vb->TB N D)(W:va=vb->TB N lb)(hw:b0<=w.heap.size)(hn:n<=10000)(hm:m<=10000)(rb:∀ t∈lb,Pl.RB 1000000 t.2)(hs:va=vb->Pl.SubOK (D ++ Pl.scl (-1) lb)) :
 Calls prog 53 #[.agg (pL va a n c).toArray,.agg (pL vb b m d).toArray] w fun e E=>e = .returned (.bool (decide (va=vb) && sameB D lb))/\Ext w E:=by
 obtain⟨i,o⟩:∃ r,(decide (va=vb) && sameB D lb)=r:=⟨_,rfl⟩;rw[o];have j:=qh o;clear o
 go_enter func53,ntmps53
 go_upto_region 1 with(fail)
 refine I6 ?_;intro w0 l y A a4;have p0:=y.c 0 rfl;have p1:=y.c 1 rfl;have q0:=A.c 0 rfl;have q1:=A.c 1 rfl;clear y A a4;by_cases R:va=vb
 case neg =>
  have he:(va == vb)=false:=by simpa using R
  have S:Hid (i=false):=qh (by rw[<-j.out,fw R];rfl);clear R V W hs j;go_wp2
  go_quiet (fail)
  go_wp2;go_ret;exact⟨by rw[S.out];rfl,l.drewN _⟩
 subst R;have hr:sameB D lb=i:=by have h1:=j.out;rwa[gl rfl,Bool.true_and]at h1
 clear j;have HP:=qh (fun(f:World) (g:Ext w0 f) (v:Value) (hq:QV f v (-1))=>MV hN (va:=va) (vb:=va) (ha.ext (l.trans g)) hq (hb.ext (l.trans g)) (V rfl) (W rfl) (eW hw (l.trans g).size) hn hm T7 rb (hs rfl))
 have T:Hid (∀ p:List Pl.Tm,Pl.Canon N p->(∀ x,Pl.coef p x=Pl.coef (D ++ Pl.scl (-1) lb) x)->(p.length=0<->i=true)):=qh (fun p G H=>by
  rw[<-hr];unfold sameB;rw[iY];constructor
  · intro h0 x;rw[<-H x,fa h0];rfl
  · intro hz;have h1:p=[]:=Pl.canon_ext G (Pl.Canon.nil _) (fun x=>by rw[H x,hz x];rfl);rw[h1]
    rfl)
 clear hr ha hb V W hs rb;have s:=fun(f:World) (g:Ext w0 f)=>qh (And.intro (g.cell p0) (And.intro (g.cell p1) (And.intro (g.cell q0) (g.cell q1))))
 refine Ac
  [hdP w.heap.size 0,hdI va,hdP (w.heap.size+1) 0,hdI va,hdB true,hdB true,he (.agg #[.int .i64 va,.slice a n c]),hp (fun v f=>QV f v (-1)),he (.agg #[.int .i64 va,.slice b m d]),hp (fun v f=>PV4 va i v),hp (fun v f=>PV5 i v),hp (fun v f=>PV6 i v),hdB i,hdB i]
  ⟨fun v w E e h=>QV.ext h e,fun v w E e h=>h,fun v w E e h=>h,fun v w E e h=>h,trivial⟩ ⟨?o0,?o1,?o2,?o3,?o4,?o5,?o6,?o7,?o8,?o9,?o10,?o11,?o12,?o13,trivial⟩ ?fin
 case o0 | o2=>exact ofa (d:=0)
 case o1 | o3=>exact ol
 case o5=>exact omv
 case o6 | o8=>exact ol2
 case o13 =>
  refine Ae rfl fun F f g k h => ?_
  try have e0:_=_:=h.1
  try have e1:_=_:=h.2.1
  try have e2:_=_:=h.2.2.1
  go_simp
  try (first | (intros;omega) | exact eT _ (by omega))
 case o4 =>
  refine Ae rfl fun F f g k h => ?_;have e0:_=_:=h.1;have e1:_=_:=h.2.1;obtain⟨J,K,L,M⟩:=(s f g).out;go_simp
  try (first | (intros;omega) | exact eT _ (by omega))
 case o7 =>
  refine Ah rfl fun F f g k a3 h => ?_;obtain⟨J,K,L,M⟩:=(s f g).out;refine⟨82,#[.int .i64 (-1)],by go_simp,(Va (z := -1) (by omega)).mono ?_⟩;rintro e E ⟨s',U,n',X,b',m',d',rfl,B,Z,a0,a1⟩;exact⟨_,rfl,B,s',U,n',X,b',m',d',rfl,Z,a0,a1⟩
 case o9 =>
  refine Ah rfl fun F f g k a3 h => ?_;have e1:_=_:=h.2.1;obtain⟨v2,e2,i2⟩:=h.2.2.1;have e3:_=_:=h.2.2.2.1;obtain⟨J,K,L,M⟩:=(s f g).out;refine⟨81,#[.agg #[.int .i64 va,.slice a n c],v2,.agg #[.int .i64 va,.slice b m d]],by go_simp,(HP.out f g v2 i2).mono ?_⟩;rintro e E ⟨U,n',X,O,rfl,B,a2,-,C,I⟩;exact⟨_,rfl,B,U,n',X,rfl,by rw[<-a2.sl.len];exact T.out O C I⟩
 case o10 =>
  refine LT rfl ?_;intro F f hp g h;obtain⟨v0,e0,P,q,Q,rfl,h7⟩:=h.1;refine⟨.slice P q Q,f,?_,Ext.refl f,P,q,Q,rfl,h7⟩;have Y:F (.tmp 14) = .agg #[.int .i64 va,.slice P q Q]:=e0;clear e0;simp[execOp,Y,T6]
 case o11 =>
  refine LT rfl ?_;intro F f hp g h;obtain⟨v0,e0,P,q,Q,rfl,h7⟩:=h.1;refine⟨.int .i64 q,f,?_,Ext.refl f,q,rfl,h7⟩;go_simp
 case o12 =>
  refine Ae rfl fun F f g k h => ?_;obtain⟨v0,e0,q,rfl,h7⟩:=h.1;have hb:((q:Int) == 0)=i:=by
   cases i with
   | true=>simp[h7.2 rfl]
   | false=>simp;intro h9;have:=h7.1 (by omega);cases this
  go_simp
 case fin =>
  intro f g;rintro _ _;rintro _ _;rintro _ _;rintro _ _;change wpList _ _ _ _ _ _;simp only[Bs];go_wp2;go_ret;exact⟨rfl,l.trans g⟩
abbrev pz:Int×List Tx:=(0,[])
def PSl(w:World)(a:Option Addr)(n c:Nat)(ps:List (Int×List Tx)):Prop:=∃ rows,SlK w 2 a n c rows/\ps.length=n/\∀ i,i<n->∃ A m d,rows.getD i []=B4 (ps.getD i pz).1 A m d/\CS w A m d (ps.getD i pz).2
theorem CU:Bu prog 24 [.int .i64 0,.slice none 0 0] 2 32:=⟨by kernel_rfl,rfl,by omega⟩
def BI(gs:List (List Int))(n:Nat)(p:List Int):Prop:=∃ ws:List (List Int),(∀ g∈ws,g∈gs)/\p=ws.foldr comp (idn n)
theorem Iv(gs:List (List Int))(n:Nat):BI gs n (idn n):=⟨[],by simp,rfl⟩
theorem Na(b:g∈gs)(h:BI gs n p):BI gs n (comp g p):=by
 obtain⟨c,h1,rfl⟩:=h;refine⟨g :: c,?_,rfl⟩;intro x a;rcases fS.1 a with rfl|a
 · exact b
 · exact h1 x a
def GC(gs:List (List Int))(n:Nat):Prop:=∀ g∈gs,Ak g=true/\g.length=n
theorem Ci(d:n<=6)(c:GC gs n){p:List Int}(h:BI gs n p):Ak p=true/\p.length=n:=by
 obtain⟨b,h1,rfl⟩:=h
 induction b with
 | nil=>exact⟨Dj d,AC n⟩
 | cons g b ih =>
  obtain⟨f,a⟩:=ih (fun x e=>h1 x (by simp[e]));obtain⟨i,j⟩:=c g (h1 g (by simp));exact⟨EO i f (by rw[j,a]),by rw[List.foldr_cons,Bj,a]⟩
structure G1(gs:List (List Int))(n:Nat)(L q:List (List Int)):Prop where
 nodup:L.Nodup
 reach:∀ p∈L,BI gs n p
 one:idn n∈L
 sub:∀ p∈q,p∈L
 closed:∀ p∈L,p ∉ q->∀ g∈gs,comp g p∈L
 short:q.length<=L.length
theorem G1.start(gs:List (List Int))(n:Nat):G1 gs n [idn n] [idn n] :=
 ⟨by simp,by simp[Iv],by simp,by simp,by simp,by simp⟩
theorem G1.done(h:G1 gs n L [])(p:List Int):p∈L<->BI gs n p:=by
 refine⟨h.reach p,?_⟩;rintro⟨a,h1,rfl⟩
 induction a with
 | nil=>exact h.one
 | cons g a ih=>exact h.closed _ (ih (fun x b=>h1 x (by simp[b]))) (by simp) g (h1 g (by simp))
structure Hj(gs:List (List Int))(n:Nat)(L q:List (List Int))(a:List Int)(j:Nat):Prop where
 nodup:L.Nodup
 reach:∀ p∈L,BI gs n p
 one:idn n∈L
 sub:∀ p∈q,p∈L
 mem:a∈L
 closed:∀ p∈L,p ∉ q->p≠a->∀ g∈gs,comp g p∈L
 part:∀ g∈gs.take j,comp g a∈L
 short:q.length<=L.length
theorem Hj.start{a:List Int}(h:G1 gs n L (a :: q)):Hj gs n L q a 0 :=
 ⟨h.nodup,h.reach,h.one,fun p hp=>h.sub p (by simp[hp]),h.sub a (by simp),fun p hp d b g c=>h.closed p hp (by simp[d,b]) g c,by simp,by have:=h.short;simp only[fW]at this;omega⟩
theorem Hj.fin{a:List Int}(h:Hj gs n L q a j)(d:gs.length<=j):G1 gs n L q:=by
 refine⟨h.nodup,h.reach,h.one,h.sub,fun p hp e g c => ?_,h.short⟩;by_cases b:p=a
 · subst b;exact h.part g (by rw[eR d];exact c)
 · exact h.closed p hp e b g c
theorem Fh(a:j<gs.length){g:List Int}(h:g∈gs.take (j+1)):g∈gs.take j\/g=gs.getD j []:=by
 rw[eU a,fo]at h;rcases h with h|h
 · exact Or.inl h
 · right;simp only[eV]at h;simp[a,h]
theorem Hj.old{a:List Int}(h:Hj gs n L q a j)(d:j<gs.length)(b:comp (gs.getD j []) a∈L):Hj gs n L q a (j+1):=by
 refine⟨h.nodup,h.reach,h.one,h.sub,h.mem,h.closed,fun g c => ?_,h.short⟩;rcases Fh d c with h1|rfl
 · exact h.part g h1
 · exact b
theorem Hj.new{a:List Int}(h:Hj gs n L q a j)(e:j<gs.length)(i:comp (gs.getD j []) a ∉ L) :
 Hj gs n (L ++ [comp (gs.getD j []) a]) (q ++ [comp (gs.getD j []) a]) a (j+1):=by
 have b:gs.getD j []∈gs:=by simp[e]
 refine⟨?_,?_,by simp[h.one],?_,by simp[h.mem],?_,?_,by have:=h.short;simp;omega⟩
 · rw[io];refine⟨h.nodup,by simp,?_⟩;intro x k y f;simp only[eV]at f;subst f;rintro rfl;exact i k
 · intro p hp;rcases fo.1 hp with hp|hp
   · exact h.reach p hp
   · simp only[eV]at hp;subst hp;exact Na b (h.reach a h.mem)
 · intro p hp;rcases fo.1 hp with hp|hp
   · simp[h.sub p hp]
   · exact List.mem_append_right _ hp
 · intro p hp d c g b;simp only[fo,eV,not_or]at d;rcases fo.1 hp with hp|hp
   · simp[h.closed p hp d.1 c g b]
   · simp only[eV]at hp;exact absurd hp d.2
 · intro g b;rcases Fh e b with h1|rfl
   · simp[h.part g h1]
   · simp
theorem nodup_le:∀ (L M:List (List Int)),L.Nodup->(∀ x∈L,x∈M)->L.length<=M.length
 | [],_,_,_=>by simp
 | x :: L,M,hn,hs=>by
  rw[iH]at hn;have hx:x∈M:=hs x (by simp);have:=nodup_le L (M.erase x) hn.2 (fun y a=>(List.mem_erase_of_ne (by rintro rfl;exact hn.1 a)).2 (hs y (by simp[a])));rw[List.length_erase_of_mem hx]at this;have:0<M.length:=j4 hx;simp only[fW];omega
theorem SK:∀ n,n<7->(gen n (idn n)).length<=720:=by decide +kernel
theorem CF(c:n<=6)(b:GC gs n){L:List (List Int)}(a:L.Nodup)(d:∀ p∈L,BI gs n p):L.length<=720:=by
 refine eW (nodup_le L (gen n (idn n)) a fun p hp => ?_) (SK n (by omega));obtain⟨h1,h2⟩:=Ci c b (d p hp);refine FK n (idn n) p h2 (At h1).2.2 fun x e=>FL.2 ?_;have:=(At h1).2.1 x e;rw[h2]at this;exact this
def Cj(L:List (List Int)):List (List Int×Value):=L.map (fun p=>(An p,Value.bool true))
theorem GD(L:List (List Int)):(Cj L).map (·.1)=L.map An:=by simp[Cj]
theorem K0(a:∀ x∈L,x.length=n)(hp:p.length=n):An p∈L.map An<->p∈L:=by
 rw[fh];constructor
 · rintro⟨x,b,e⟩
   rwa[<-Jq (by rw[a x b,hp]) e]
 · intro h;exact⟨p,h,rfl⟩
theorem Q3{k:List Int}(h:BF k 0 (Cj L)=some (i,v)):v = .bool true:=by
 obtain⟨_,h2⟩:=DC h;have:=gT h2;simp only[Cj,fh]at this;obtain⟨x,_,e⟩:=this;exact((j7 ..).mp e).2.symm
theorem J1(b:∀ x∈L,x.length=n)(hp:p.length=n):Fg (.bool false) (Cj L) (An p) = .bool (decide (p∈L)):=by
 unfold Fg;cases h:BF (An p) 0 (Cj L)with
 | none =>
  have:=BU.1 h;rw[GD,K0 b hp]at this;simp[this]
 | some q =>
  obtain⟨i,v⟩:=q;have d:=Q3 h;have c:p∈L:=by
   rw[<-K0 b hp,<-GD];by_cases a:An p∈(Cj L).map (·.1)
   · exact a
   · rw[<-BU (i:=0)]at a;rw[h]at a;cases a
  simp[d,c]
theorem Q4(a:∀ x∈L,x.length=n)(hp:p.length=n)(b:p ∉ L):LM (Cj L) (An p) (.bool true)=Cj (L ++ [p]):=by
 have:BF (An p) 0 (Cj L)=none:=by
  rw[BU,GD,K0 a hp];exact b
 unfold LM;rw[this];simp[Cj]
def QEl(w:World)(base:Nat)(qc:List Value)(q:List (List Int)):Prop:=∀ i,i<q.length->∃ a n c,qc.getD i undef = .slice a n c/\AD w base a n c (q.getD i [])
theorem QEl.ext{w d:World}{base:Nat}{b:List Value}{q:List (List Int)}(h:QEl w base b q)(e:Ext w d):QEl d base b q :=
 fun i f=>let ⟨a,n,c,h1,h2⟩:=h i f;⟨a,n,c,h1,h2.ext e⟩
theorem BW(h:Own w base e a n c cs)(j:AB w r m):blk a=none\/blk a≠some r:=by
 rcases h.2 with⟨b,_⟩|⟨g,d,f,b,_,i,_⟩
 · simp only[eY]at b;left;rw[b.1];rfl
 · simp only[eY]at b;right;rw[b.1];intro he;have:g=r:=by simpa[blk]using he
   subst this;have:=j.obj;rw[i]at this;cases this
theorem C9(h:Own w base e a n c cs)(o:BG w base' e' a' n' c' cs')(i:e≠e'):blk a=none\/blk a≠blk a':=by
 rcases h.2 with⟨d,_⟩|⟨g,k,l,d,_,p,_⟩
 · simp only[eY]at d;left;rw[d.1];rfl
 · simp only[eY]at d;right;rw[d.1];rcases o.2.2.2 with⟨f,_⟩|⟨m,q,j,f,_,b,_⟩
   · subst f;simp[blk]
   · subst f;intro he;have:g=m:=by simpa[blk]using he
     subst this;rw[p]at b;simp only[fc,jp]at b;exact i b.2.1
theorem G2(h:BG w base e a n c cs)(i:AB w r m):blk a=none\/blk a≠some r:=by
 rcases h.2.2.2 with⟨b,_⟩|⟨g,j,d,b,_,f,_⟩
 · subst b;exact Or.inl rfl
 · subst b;right;intro he;have:g=r:=by simpa[blk]using he
   subst this;have:=i.obj;rw[f]at this;cases this
theorem QEl.kept{w e:World}{base:Nat}{d:List Value}{q:List (List Int)}{row:Option Nat}(h:QEl w base d q)(f:w.grownBy e row)(b:∀ a n c j,AD w base a n c j->blk a=none\/blk a≠row):QEl e base d q :=
 fun i g=>let ⟨a,n,c,h1,h2⟩:=h i g;⟨a,n,c,h1,Own.kept h2 f (b _ _ _ _ h2)⟩
theorem QEl.tail(h:QEl w base qc (p :: q)):QEl w base (qc.drop 1) q:=by
 intro i b;obtain⟨a,n,c,h1,h2⟩:=h (i+1) (by simpa using b);refine⟨a,n,c,?_,by simpa using h2⟩;rw[<-h1];simp
theorem QEl.snoc(h:QEl w base qc q)(f:qc.length=q.length)(hp:AD w base a n c p):QEl w base (qc ++ [.slice a n c]) (q ++ [p]):=by
 intro i e;simp only[ff,List.length_singleton]at e;by_cases h1:i<q.length
 · obtain⟨b,g,d,h2,h3⟩:=h i h1;refine⟨b,g,d,?_,?_⟩
   · rw[<-h2];simp[f4 (show i<qc.length by omega)]
   · simpa[f4 h1]using h3
 · have:i=q.length:=by omega
   subst this;refine⟨a,n,c,?_,?_⟩
   · simp[<-f]
   · simpa using hp
theorem SL(j:o.guard=none)(p:o.op = .slice t x (some y) none none)
 {e:TypeId} {z:Value} {bytes base:Nat} {a:Option Addr} {n c k:Nat} {cs:List Value} (q:P.underlying t=some (.slice e)) (d:AR P e z bytes) (r:f.eval x = .slice a n c) (s:f.eval y = .int .i64 k) (h:BG w base e a n c cs) (l:k<=n)
 (m:∀ g,blk g=blk a->BG w base e g (n-k) (c-k) (cs.drop k)->wpList P ops Q rest (f.put o.dst (.slice g (n-k) (c-k))) w):wpList P ops Q (o :: rest) f w:=by
 refine gu j fun K i => ?_;unfold Oper.wp execOp;simp only[p,r,s,i8,km,fq,IY q d l,eX,fO,Oper.upon];refine i _ _ (m _ ?_ (h.from l));split
 · rfl
 · cases a with
   | none=>rfl
   | some b=>simp[blk,Addr.add];split <;> rfl
theorem Ck:AR prog 35 (.slice none 0 0) 24:=by unfold AR;kernel_rfl
theorem EQ:prog.underlying 53=some (.map 57 4):=by kernel_rfl
theorem GE(w:World):(zeroValue 4).run prog w = .ok (.bool false) w:=by kernel_rfl
def GF(w:World)(r:Nat):Nat:=match w.heap[r]? with | some (.map es _)=>es.size | _=>0
theorem J2(h:AB w r m):GF w r=m.length:=by
 unfold GF;rw[h.obj];simp[C7]
def SM:Value->Nat | .slice _ n _=>n | _=>0
def ClR(w0:World)(gs:List (List Int))(n r:Nat)(v:Value)(wr:World):Prop :=
 ∃ L q aq nq cq qc,v = .slice aq nq cq/\nq=q.length/\Ext w0 wr/\w0.heap.size<=r/\AB wr r (Cj L)/\BG wr w0.heap.size 35 aq nq cq qc/\QEl wr w0.heap.size qc q/\G1 gs n L q
def Vh(w0:World)(gs:List (List Int))(n r:Nat)(a:List Int)(aa:Option Addr)(na ca:Nat)(M:Nat)(v i:Value)(wr:World):Prop :=
 ∃ L q aq nq cq qc,∃ j:Nat,v = .slice aq nq cq/\nq=q.length/\i = .int .i64 j/\j<=gs.length/\Ext w0 wr/\w0.heap.size<=r/\AB wr r (Cj L)/\BG wr w0.heap.size 35 aq nq cq qc/\QEl wr w0.heap.size qc q /\
  AD wr w0.heap.size aa na ca a/\Hj gs n L q a j/\2*(720-L.length)+q.length<=M
def Vi(w:World)(gs:List (List Int))(n:Nat)(e:Ending)(w':World):Prop :=
 ∃ r L,e = .returned (.map (some r))/\Ext w w'/\w.heap.size<=r/\AB w' r (Cj L)/\L.Nodup/\∀ p,p∈L<->BI gs n p
theorem Di(hg:SlL w ag ng cg gs)(Q:n<=6)(hp:GC gs n) :
 Calls prog 21 #[.int .i64 n,.slice ag ng cg] w (Vi w gs n):=by
 have bd:=hg.le;have HG:=eP hg.len;have aY:(idn n).length<=6:=by rw[AC];exact Q
 have HP:=eP hp;clear hp
 go_enter func21,ntmps21
 go_wp2_with fail
 refine(Ek (by omega)).mono ?_;rintro e w1 ⟨a1,s,c1,rfl,a0,S⟩;have b0:s=n:=by have:=S.sl.len;rw[AC]at this;omega
 subst b0
 go_wp2_with(refine LO rfl rfl ?_;intro w2 y d b6)
 refine(CE (S.sl.ext d) Q).mono ?_;rintro e w3 ⟨rfl,a⟩;have o:=(S.ext d).ext a;have a2:=y.ext a;have ar:Ext w w3:=(a0.trans d).trans a;have b2:w.heap.size<=w1.heap.size:=a0.size;generalize w1.heap.size=r at *
 clear y S a d a0
 go_wp2_with(refine M2 rfl (Or.inr rfl) EQ BH rfl rfl rfl a2 (AV aY) ?_;intro w4 m aa)
 have X:AB w4 r (Cj [idn s]):=m;have b:Ext w w4:=ar.grown aa (by intro k hk;simp at hk;omega);have C:AD w4 w.heap.size a1 s c1 (idn s):=Own.kept o aa (BW o a2);clear m aa a2 o ar;go_wp2
 go_loopw[7] (fun v wr=>ClR w gs s r v wr) (fun v wr=>2*(720-GF wr r)+SM v)
 case atStart =>
  have aS:=Ag w4 w.heap.size 35 #[.slice a1 s c1] 1 rfl b.size (by omega);refine⟨[idn s],[idn s],_,_,_,_,rfl,rfl,b.alloc _,b2,X.ext ((Ext.refl w4).alloc _),BG.of aS,?_,G1.start gs s⟩;intro i hi;have:i=0:=by simpa using hi
  subst this;exact⟨a1,s,c1,rfl,Own.alloc C _⟩
 case round =>
  clear X b C;obtain⟨L,q,aq,nq,cq,qc,rfl,aF,hE,hr,hM,hO,hQ,hI⟩:=hrel;have F:=eP aF;clear aF;have hb:=CF Q HP.out hI.nodup hI.reach;have ah:GF wr r=L.length:=by rw[J2 hM];simp[Cj]
  have V:=eP ah;clear ah;cases q with
  | nil =>
   have hz:nq=0:=F.out;subst hz;go_wp2;go_ret;exact⟨r,L,rfl,hE,hr,hM,hI.nodup,hI.done⟩
  | cons p q =>
   have aj:0<nq:=by rw[F.out];simp
   have bf:nq<=720:=by have:=hI.short;have h2:=F.out;omega
   obtain⟨ap,np,cp,ak,ax⟩:=hQ 0 (by simp);obtain⟨bq,oq,rfl,aC⟩:=hO.sl.rd aj;have aB:=aC 0 aj;rw[ak,gd]at aB;have b5:=hO.sl.cap;have aZ:=hO.sl.max;unfold maxLen at aZ;clear aC ak
   go_wp2_with(refine SL rfl rfl underlying29 Ck rfl rfl (k:=1) hO (by omega) ?_;intro a7 ba f)
   obtain⟨wo,rfl⟩:∃ wo:World,wo=wr:=⟨_,rfl⟩
   go_loopw[7,30] (fun v i wr=>Vh w gs s r p ap np cp (2*(720-L.length)+q.length) v i wr) (fun _ i _=>gs.length-(intOf i).toNat)
   case atStart =>
    refine⟨L,q,a7,nq-1,cq-1,qc.drop 1,0,rfl,by rw[F.out];simp,rfl,f8 _,hE,hr,hM,f,hQ.tail,ax,Hj.start hI,lrf _⟩
   case round =>
    have aN:Hid (2*(720-GF wo r)+SM (.slice (some ⟨bq,oq,none⟩) nq cq)=2*(720-L.length)+(q.length+1)):=by
     show _=_;rw[V.out];simp only[SM];rw[F.out];rfl
    clear hO hQ ax hM hI f aB V;obtain⟨L2,q2,an,U,ao,aH,j,rfl,P,rfl,hj,d,_,y,a4,a6,A,l,aJ⟩:=hrel;have g:=eP P;clear P;have b9:=CF Q HP.out l.nodup l.reach;have au:∀ x∈L2,x.length=s:=fun x hx=>(Ci Q HP.out (l.reach x hx)).2;have O:GF wr r=L2.length:=by rw[J2 y];simp[Cj]
    have aI:=eP O;have al:=eP au;clear O au;have aX:=hg.ext d;have be:j<=ng:=by rw[<-HG.out];exact hj
    by_cases af:j<ng
    · obtain⟨bg,og,b7,b3,b8,rfl,bc,az⟩:=aX.at af;have T:j<gs.length:=by rw[HG.out];exact af
      have aD:gs.getD j []∈gs:=by simp[T]
      obtain⟨bh,b4⟩:=HP.out _ aD;obtain⟨aG,ac⟩:=Ci Q HP.out (l.reach p l.mem);have ad:=l.old T;have Y:=l.new T;have aA:(comp (gs.getD j []) p).length=s:=by rw[Bj];exact ac
      generalize aW:gs.getD j []=gj at *
      have ai:b3=s:=by have:=az.len;omega
      have aE:np=s:=by have:=A.sl.len;omega
      have aK:=eP ad;have E:=eP Y;have R:=eP aA;have PP:=eP aG;have aP:=eP ac;have aO:=eP ai;have am:=eP aE;clear ad Y aA aW b4 aG ac ai aE T aD
      go_wp2_with fail
      refine(Ff az A.sl ?_ (by have:=am.out;omega)).mono ?_
      · intro i hi;have h1:=am.out;have h2:=aO.out;have h3:=aP.out;have:=Cs PP.out (i:=i) (by omega);omega
      rintro e w3 ⟨a3,n3,c3,rfl,a,o⟩;have b1:n3=s:=by have:=o.sl.len;rw[R.out]at this;exact this.symm
      subst b1
      go_wp2_with fail
      refine(CE o.sl Q).mono ?_;rintro e w4 ⟨rfl,b⟩;have m:=(y.ext a).ext b;have C:=(a4.ext a).ext b;have a9:=(a6.ext a).ext b;have K:=(A.ext a).ext b;have I:AD w4 w.heap.size a3 n3 c3 (comp gj p):=Own.mono (Own.ext o b) d.size;have G:=(d.trans a).trans b;clear y a4 a6 A o a b d;have ab:(An (comp gj p)).length=6:=AV (by rw[R.out];exact Q);have c:=J1 al.out R.out;by_cases z:comp gj p∈L2
      · simp only[z,jU]at c
        go_wp2_with(refine JW rfl rfl EQ BH GE rfl rfl m ab ?_;simp only[iz,ja];rw[c])
        go_roundw
        case rel=>exact⟨L2,q2,an,U,ao,aH,j+1,rfl,g.out,by go_num,by have:=HG.out;omega,G,hr,m,C,a9,K,aK.out z,aJ⟩
        case measure=>have:=HG.out;simp[intOf];omega
      · simp only[z,kD]at c
        go_wp2_with(refine JW rfl rfl EQ BH GE rfl rfl m ab ?_;simp only[iz,ja];rw[c])
        refine(CE I.sl Q).mono ?_;rintro e w5 ⟨rfl,t⟩;have B:=m.ext t;have a5:=C.ext t;have ay:=a9.ext t;have M:=K.ext t;have J:=I.ext t;have W:=G.trans t;clear m C a9 K I t G c
        go_upto_region 13 with(refine M2 (v := .bool true) rfl (Or.inl rfl) EQ BH rfl rfl rfl B ab ?_;intro w6 av D)
        rw[Q4 al.out R.out z]at av;have aQ:=a5.kept D (G2 a5 B);have aT:=ay.kept D (fun _ _ _ _ h=>BW h B);have ae:AD w6 w.heap.size ap np cp p:=Own.kept M D (BW M B);have Z:AD w6 w.heap.size a3 n3 c3 (comp gj p):=Own.kept J D (BW J B);have H:Ext w w6:=W.grown D (by intro k hk;simp at hk;omega);have P:U<=720:=by have:=l.short;have h2:=g.out;omega
        clear B a5 ay M J W D;have hA7:Ext w6 (w6.alloc (.cells #[.slice a3 n3 c3] 35)):=(Ext.refl w6).alloc _;have aV:=(Ag w6 w.heap.size 35 #[.slice a3 n3 c3] 1 rfl H.size (by omega)).sl;have f:=aQ.ext hA7
        go_wp2_with(refine Sr rfl rfl underlying29 Ck rfl rfl f rfl aV (by simp[Value.oneCell']) (by unfold maxLen;omega) (by omega) (by have:=H.size;simp;omega) (by omega) ?_;intro a8 c8 w8 aR N bb)
        go_roundw
        case rel =>
         have aL:=H.trans hA7;refine⟨L2 ++ [comp gj p],q2 ++ [comp gj p],a8,U+1,c8,_,j+1,rfl,by rw[g.out];simp,by go_num,by have:=HG.out;omega,aL.grown N (fun k hk=>(f.lt hk).1),hr,?_,aR,?_,?_,E.out z,?_⟩
         · have aw:=av.ext hA7;refine aw.kept N ?_;rcases G2 f aw with h|h
           · rw[h];simp
           · exact fun h2=>h h2.symm
         · have aU:=(aT.ext hA7).kept N (fun _ _ _ _ h=>C9 h f (by decide));have aM:AD _ w.heap.size a3 n3 c3 (comp gj p):=Own.kept (Own.ext Z hA7) N (C9 (Own.ext Z hA7) f (by decide));exact aU.snoc (by rw[f.len,g.out]) aM
         · exact Own.kept (Own.ext ae hA7) N (C9 (Own.ext ae hA7) f (by decide))
         · have:=CF Q HP.out (E.out z).nodup (E.out z).reach;simp only[ff,List.length_singleton]at this |-;omega
        case measure=>have:=HG.out;simp[intOf];omega
    · go_wp2;go_roundw
      case rel=>exact⟨L2,q2,an,U,ao,aH,rfl,g.out,d,hr,y,a4,a6,l.fin (by have:=HG.out;omega)⟩
      case measure =>
       have h1:=aN.out;have h2:=aI.out;have h3:=g.out;simp[SM]at h1 |-;omega
def cmpI(x y:Int):Int:=if x<y then -1 else if y<x then 1 else 0
def Bc:List Int->List Int->Int
 | [],[]=>0
 | [],_ :: _ => -1
 | _ :: _,[]=>1
 | x :: xs,y :: ys=>if x<y then -1 else if y<x then 1 else Bc xs ys
theorem J3:∀ a:List Int,Bc a a=0
 | []=>rfl
 | x :: a=>by simp[Bc,J3 a]
theorem K1:∀ {a b:List Int},Bc a b=0->a=b
 | [],[],_=>rfl
 | [],_ :: _,h=>by simp[Bc]at h
 | _ :: _,[],h=>by simp[Bc]at h
 | x :: a,y :: b,h=>by
  unfold Bc at h;by_cases h1:x<y
  · simp[h1]at h
  · by_cases h2:y<x
    · simp[h1,h2]at h
    · simp only[h1,h2,ja]at h;have:x=y:=by omega
      rw[this,K1 h]
theorem Bv:∀ a b:List Int,Bc b a = - Bc a b
 | [],[]=>rfl
 | [],_ :: _=>rfl
 | _ :: _,[]=>rfl
 | x :: a,y :: b=>by
  unfold Bc;by_cases h1:x<y
  · have h2:¬ y<x:=by omega
    simp[h1,h2]
  · by_cases h2:y<x
    · simp[h1,h2]
    · simp[h1,h2,Bv a b]
theorem DD:∀ {a b c:List Int},Bc a b<=0->Bc b c<=0->Bc a c<=0
 | [],_,[],_,_=>by simp[Bc]
 | [],_,_ :: _,_,_=>by simp[Bc]
 | _ :: _,[],_,h,_=>by simp[Bc]at h
 | _ :: _,_ :: _,[],_,h=>by simp[Bc]at h
 | x :: a,y :: b,z :: c,h1,h2=>by
  unfold Bc at h1 h2 |-;by_cases xy:x<y
  · by_cases yz:y<z
    · simp[show x<z by omega]
    · by_cases zy:z<y
      · simp[yz,zy]at h2
      · simp[show x<z by omega]
  · by_cases yx:y<x
    · simp[xy,yx]at h1
    · simp only[xy,yx,ja]at h1;by_cases yz:y<z
      · simp[show x<z by omega]
      · by_cases zy:z<y
        · simp[yz,zy]at h2
        · simp only[yz,zy,ja]at h2;have e1:¬ x<z:=by omega
          have d:¬ z<x:=by omega
          simp only[e1,d,ja];exact DD h1 h2
theorem CG:∀ (k:Nat) (a b:List Int),a.take k=b.take k->k<=a.length->k<=b.length->Bc a b=Bc (a.drop k) (b.drop k)
 | 0,_,_,_,_,_=>rfl
 | k+1,x :: a,y :: b,h,h1,h2=>by
  simp only[ks,jw]at h;obtain⟨rfl,h⟩:=h;simp only[fW]at h1 h2;rw[ij,ij,<-CG k a b h (by omega) (by omega)];simp[Bc]
 | k+1,[],_,_,h1,_=>by simp at h1
 | k+1,_ :: _,[],_,_,h2=>by simp at h2
theorem GG(x:Int)(w:World):Calls prog 109 #[.int .i64 x] w fun e a=>e = .returned (.bool false)/\w=a:=by
 have h:(x != x)=false:=by simp
 go_enter func109,ntmps109
 go_wp2;go_ret;exact⟨rfl,rfl⟩
theorem G3(x y:Int)(w:World):Calls prog 70 #[.int .i64 x,.int .i64 y] w fun e b=>e = .returned (.int .i64 (cmpI x y))/\w=b:=by
 by_cases h1:x<y
 · have H:Hid (cmpI x y = -1):=by show _=_;simp[cmpI,h1]
   go_enter func70,ntmps70
   go_wp2_with(go_at_call 109;refine(GG _ _).mono ?_;rintro e a ⟨rfl,rfl⟩)
   go_ret;exact⟨Cd H.out,rfl⟩
 · by_cases h2:y<x
   · have H:Hid (cmpI x y=1):=by show _=_;simp[cmpI,h1,h2]
     go_enter func70,ntmps70
     go_wp2_with(go_at_call 109;refine(GG _ _).mono ?_;rintro e a ⟨rfl,rfl⟩)
     go_ret;exact⟨Cd H.out,rfl⟩
   · have H:Hid (cmpI x y=0):=by show _=_;simp[cmpI,h1,h2]
     go_enter func70,ntmps70
     go_wp2_with(go_at_call 109;refine(GG _ _).mono ?_;rintro e a ⟨rfl,rfl⟩)
     go_ret;exact⟨Cd H.out,rfl⟩
theorem SN{xs ys:List Int}{k:Nat}(hp:xs.take k=ys.take k)(h1:k<xs.length)(h2:k<ys.length)(a:cmpI (xs.getD k 0) (ys.getD k 0)≠0):Bc xs ys=cmpI (xs.getD k 0) (ys.getD k 0):=by
 rw[CG k xs ys hp (by omega) (by omega),fD h1,fD h2];simp only[gqq,eQ h1,eQ h2,fC]at a |-;unfold cmpI at a |-;unfold Bc;by_cases b:xs[k]<ys[k]
 · simp[b]
 · by_cases c:ys[k]<xs[k]
   · simp[b,c]
   · simp[b,c]at a
theorem cmpI_zero{x y:Int}(h:cmpI x y=0):x=y:=by
 unfold cmpI at h;by_cases a:x<y
 · simp[a]at h
 · by_cases b:y<x
   · simp[a,b]at h
   · omega
theorem Iw{m d:Nat}(v:SlI w a n c xs)(y:SlI w b m d ys) :
 Calls prog 41 #[.slice a n c,.slice b m d] w fun e K=>e = .returned (.int .i64 (Bc xs ys))/\Qt w K:=by
 have S:=v.le;have J:=y.le;have f:=eP v.len;have g:=eP y.len
 go_enter func41,ntmps41
 go_wp2
 go_loopw[11] (fun i wr=>∃ k:Nat,k<=n/\k<=m/\i = .int .i64 k/\Qt w wr/\xs.take k=ys.take k) (fun i _=>n-(intOf i).toNat)
 case atStart=>exact⟨0,f8 _,f8 _,rfl,Qt.refl _,rfl⟩
 case round =>
  obtain⟨k,R,H,rfl,o,hp⟩:=hrel;have p:=eP hp;clear hp;have v:=v.ext o.ext;have y:=y.ext o.ext;by_cases t:k<n
  · obtain⟨M,T,rfl,q⟩:=v.at t;have P:=q k t;clear q;by_cases j:k<m
    · obtain⟨N,U,rfl,r⟩:=y.at j;have Q:=r k j;clear r;have s:=@SN xs ys k p.out (by have:=f.out;omega) (by have:=g.out;omega);generalize x:xs.getD k 0=F at *
      generalize z:ys.getD k 0=G at *
      have C:=eP x;have D:=eP z;have A:=eP s;clear x z s;by_cases he:cmpI F G=0
      · have E:(cmpI F G != 0)=false:=by simp[he]
        have B:=eP he;clear he
        go_wp2_with(go_at_call 70;refine(G3 _ _ _).mono ?_;rintro e L ⟨rfl,rfl⟩)
        go_roundw
        case rel=>exact⟨k+1,by omega,by omega,by go_num,o,KH p.out (by have:=f.out;omega) (by have:=g.out;omega) (by rw[C.out,D.out,cmpI_zero B.out];simp)⟩
        case measure=>simp[intOf];omega
      · have E:(cmpI F G != 0)=true:=by simp[he]
        have B:=eP he;clear he
        go_wp2_with(go_at_call 70;refine(G3 _ _ _).mono ?_;rintro e L ⟨rfl,rfl⟩)
        go_ret;exact⟨Cd (A.out B.out),o⟩
    · go_wp2;go_ret;refine⟨Cd ?_,o⟩;rw[CG k xs ys p.out (by have:=f.out;omega) (by have:=g.out;omega),fK (l:=ys) (by have:=g.out;omega),fD (l:=xs) (by have:=f.out;omega)];rfl
  · have O:k=n:=by omega
    by_cases I:n<m
    · go_wp2;go_ret;refine⟨Cd ?_,o⟩;rw[CG k xs ys p.out (by have:=f.out;omega) (by have:=g.out;omega),fK (l:=xs) (by have:=f.out;omega),fD (l:=ys) (by have:=g.out;omega)];rfl
    · go_wp2;go_ret;refine⟨Cd ?_,o⟩;rw[CG k xs ys p.out (by have:=f.out;omega) (by have:=g.out;omega),fK (l:=xs) (by have:=f.out;omega),fK (l:=ys) (by have:=g.out;omega)];rfl
def FV(l:List (List Int))(i j:Nat):List (List Int):=(l.set i (l.getD j [])).set j (l.getD i [])
theorem J4(l:List (List Int))(i j:Nat):(FV l i j).length=l.length:=by simp[FV]
theorem Ix{l:List (List Int)}{i j:Nat}(hi:i<l.length)(a:j<l.length)(k:Nat):(FV l i j).getD k []=if k=j then l.getD i []else if k=i then l.getD j []else l.getD k []:=by
 simp only[FV,gqq,ip];by_cases h1:j=k
 · subst h1;simp[a]
 · by_cases h2:i=k
   · subst h2;simp[h1,hi,Ne.symm h1]
   · simp[h1,h2,Ne.symm h1,Ne.symm h2]
theorem Nb(hi:i<l.length)(a:j<l.length):(FV l i j).Perm l:=by
 have h:=Array.swap_perm (xs:=l.toArray) (i:=i) (j:=j) (by simpa using hi) (by simpa using a);have h2:=Array.perm_iff_toList_perm.1 h;simpa[FV,hi,a]using h2
def Srt(w:World)(base g n c:Nat)(ps:List (List Int)):Prop :=
 ps.length=n/\∃ cells,Own w base 35 (some ⟨g,0,none⟩) n c cells/\QEl w base cells ps
theorem CY(h:Own w base e a n c cs)(d:Own w base' e' a' n' c' cs')(b:e≠e'):blk a=none\/blk a≠blk a' :=
 C9 h (BG.of d) b
section
variable {w w':World} {base g n c:Nat} {ps:List (List Int)}
theorem Srt.len(h:Srt w base g n c ps):ps.length=n:=h.1
theorem Srt.le(h:Srt w base g n c ps):n<=9223372036854775807:=by
 obtain⟨_,a,h1,_⟩:=h;have:=h1.sl.max;have h2:=h1.cap;unfold maxLen at this;omega
theorem Srt.at(h:Srt w base g n c ps){k:Nat}(f:k<n):∃ a m b,w.cell? ⟨g,k,none⟩=some (.slice a m b)/\SlI w a m b (ps.getD k [])/\w.frozen? ⟨g,k,none⟩=false:=by
 obtain⟨h0,d,h1,h2⟩:=h;obtain⟨a,m,b,e,h3⟩:=h2 k (by omega);exact⟨a,m,b,by rw[h1.cellAt f,e],h3.sl,h1.frozenAt k⟩
theorem Srt.swap(h:Srt w base g n c ps){i j:Nat}{u v:Value}(hi:i<n)(y:j<n)(hu:w.cell? ⟨g,i,none⟩=some u)(B:w.cell? ⟨g,j,none⟩=some v) :
 Srt ((w.setCell ⟨g,i,none⟩ v).setCell ⟨g,j,none⟩ u) base g n c (FV ps i j)/\w.grownBy ((w.setCell ⟨g,i,none⟩ v).setCell ⟨g,j,none⟩ u) (some g):=by
 obtain⟨h0,b,h1,h2⟩:=h;have s:=Ab w g i v;have x:=Ab (w.setCell ⟨g,i,none⟩ v) g j u
 have p:w.grownBy ((w.setCell ⟨g,i,none⟩ v).setCell ⟨g,j,none⟩ u) (some g) :=
  ⟨rfl,rfl,rfl,eW s.size x.size,fun k q r=>(x.block k (fG q s.size) r).trans (s.block k q r)⟩
 refine⟨⟨by rw[J4];exact h0,(b.set i v).set j u,(h1.stored i v).stored j u,?_⟩,p⟩;have o:=h1.len;have z:b.getD i undef=u:=by have:=h1.cellAt hi;rw[hu]at this;simpa using this.symm
 have A:b.getD j undef=v:=by have:=h1.cellAt y;rw[B]at this;simpa using this.symm
 have t:=h2.kept p (fun _ _ _ _ C=>CY C h1 (by decide));intro k q;rw[J4]at q;rw[Ix (by omega) (by omega)];by_cases d:k=j
 · subst d;obtain⟨a,m,f,l,h3⟩:=t i (by omega);refine⟨a,m,f,?_,by simpa using h3⟩;rw[<-l,z];simp[o,y]
 · by_cases e:k=i
   · subst e;obtain⟨a,m,f,l,h3⟩:=t j (by omega);refine⟨a,m,f,?_,by simpa[d]using h3⟩;rw[<-l,A];simp[o,hi,Ne.symm d]
   · obtain⟨a,m,f,l,h3⟩:=t k q;refine⟨a,m,f,?_,by simpa[d,e]using h3⟩;rw[<-l];simp[Ne.symm d,Ne.symm e]
end
def Ed(ps:List (List Int))(a b:Nat):Prop:=∀ i j,a<=i->i<j->j<b->Bc (ps.getD i []) (ps.getD j [])<=0
def ER(ps0 ps:List (List Int))(a b:Nat):Prop:=ps.Perm ps0/\∀ i,(i<a\/b<=i)->ps.getD i []=ps0.getD i []
theorem ER.refl(ps:List (List Int))(a b:Nat):ER ps ps a b:=⟨kL _,fun _ _=>rfl⟩
theorem ER.swap{a b:Nat}(h:ER ps0 ps a b)(hi:i<ps.length)(c:j<ps.length)(e:a<=i)(g:i<b)(f:a<=j)(l:j<b):ER ps0 (FV ps i j) a b:=by
 refine⟨(Nb hi c).trans h.1,fun k d => ?_⟩;rw[Ix hi c,fl (by omega),fl (by omega)];exact h.2 k d
structure Nc(ps:List (List Int))(a j i:Nat):Prop where
 lo:Ed ps a j
 hi:Ed ps j (i+1)
 mid:∀ x y,a<=x->x<j->j<y->y<=i->Bc (ps.getD x []) (ps.getD y [])<=0
theorem Nc.start{a:Nat}(h:Ed ps a i):Nc ps a i i:=⟨h,fun x y h1 h2 h3=>by omega,fun x y _ _ _ _=>by omega⟩
theorem Nc.stop{a:Nat}(h:Nc ps a j i)(d:a<=j)(e:j<=i)(f:j=a\/(0<j/\¬ Bc (ps.getD j []) (ps.getD (j-1) [])<0)):Ed ps a (i+1):=by
 intro x y h1 h2 h3;by_cases g:j<=x
 · exact h.hi x y g h2 h3
 · by_cases k:y<j
   · exact h.lo x y h1 h2 k
   · by_cases c:y=j
     · subst c;rcases f with h4|⟨_,h4⟩
       · omega
       · have h5:Bc (ps.getD (y-1) []) (ps.getD y [])<=0:=by rw[Bv];omega
         by_cases b:x=y-1
         · rw[b];exact h5
         · exact DD (h.lo x (y-1) h1 (by omega) (by omega)) h5
     · exact h.mid x y h1 (by omega) (by omega) (by omega)
theorem Nc.step{a:Nat}(h:Nc ps a j i)(f:a<j)(k:j<=i)(g:i<ps.length)(l:Bc (ps.getD j []) (ps.getD (j-1) [])<0):Nc (FV ps j (j-1)) a (j-1) i:=by
 have e:=@Ix ps j (j-1) (by omega) (by omega);refine⟨?_,?_,?_⟩
 · intro x y h1 h2 h3;rw[e,e,fl (by omega),fl (by omega),fl (by omega),fl (by omega)];exact h.lo x y h1 h2 (by omega)
 · intro x y h1 h2 h3;rw[e,e];by_cases d:x=j-1
   · rw[fE d,fl (show ¬ y=j-1 by omega)];by_cases c:y=j
     · rw[fE c];omega
     · rw[fl c];exact h.hi j y (lrf _) (by omega) h3
   · rw[fl d,fl (show ¬ y=j-1 by omega),fl (show ¬ y=j by omega)];by_cases b:x=j
     · rw[fE b];exact h.mid (j-1) y (by omega) (by omega) (by omega) (by omega)
     · rw[fl b];exact h.hi x y (by omega) h2 h3
 · intro x y h1 h2 h3 h4;rw[e,e,fl (show ¬ x=j-1 by omega),fl (show ¬ x=j by omega),fl (show ¬ y=j-1 by omega)];by_cases c:y=j
   · rw[fE c];exact h.lo x (j-1) h1 h2 (by omega)
   · rw[fl c];exact h.mid x y h1 (by omega) (by omega) h4
def SO(w:World)(base g n c:Nat)(ps:List (List Int))(a b:Nat)(e:Ending)(w':World):Prop :=
 e = .returned (.tuple #[])/\∃ ps',Srt w' base g n c ps'/\ER ps ps' a b/\Ed ps' a b/\w.grownBy w' (some g)
theorem DE(i:SlI w a n c xs)(t:n<=1000000)(b:a=none->c=0) :
 Calls prog 26 #[.slice a n c] w (N9 w xs):=by
 cases a with
 | none =>
  have h0:c=0:=b rfl;subst h0;have h1:n=0:=by have:=Sl.cap i;omega
  subst h1;have d:xs=[]:=fa i.len;have o:=eP d;clear d;have f:=fun j:World=>Lib.run_eql_slice_nil (P:=prog) j 35 3 none 0 0 0 0 underlying35
  go_enter func26,ntmps26
  go_wp2;go_ret;exact⟨none,0,0,rfl,Ext.refl w,by rw[o.out];exact Own.nil _ _ _⟩
 | some ad =>
  have f:=fun j:World=>Lib.run_eql_slice_nil (P:=prog) j 35 3 (some ad) n c 0 0 underlying35
  go_enter func26,ntmps26
  go_upto_region 3 with(fail)
  have l:Ext w (w.alloc (.cells #[] 3)):=(Ext.refl w).alloc _;have m:=Ag w w.heap.size 3 #[] 0 rfl (lrf _) (by omega)
  go_wp2_with(refine AU rfl rfl underlying35 Cc rfl rfl m rfl (i.ext l) (BN _) (by unfold maxLen;omega) (by omega) (by simp) ?_;intro p q v e g r)
  go_ret;refine⟨p,n,q,rfl,l.grown g (fun k s=>(m.lt s).1),?_⟩;simpa[AD]using e
def UU(w:World)(ps:List (List Int))(e:Ending)(w':World):Prop :=
 ∃ a n c cells,e = .returned (.slice a n c)/\Ext w w'/\n=ps.length/\Own w' w.heap.size 35 a n c cells/\QEl w' w.heap.size cells ps
def FW(w:World)(it:Nat):Nat:=match w.heap[it]? with | some (.mapIter _ _ seen _)=>seen.size | _=>0
theorem Iy(h:AF w it r n seen):FW w it=seen.length:=by
 unfold FW;unfold AF at h;rw[h];simp
def SoR(w0:World)(L:List (List Int))(r it:Nat)(v:Value)(wr:World):Prop :=
 ∃ seen al nl cl cells,v = .slice al nl cl/\nl=seen.length/\Ext w0 wr/\w0.heap.size<=it/\AB wr r (Cj L)/\AF wr it r L.length seen/\seen.Nodup/\(∀ i∈seen,i<L.length) /\
  Own wr w0.heap.size 35 al nl cl cells/\QEl wr w0.heap.size cells (seen.map (fun i=>L.getD i []))
theorem Da(h:Own w base e a n c cs)(hi:AF w it r k seen):blk a=none\/blk a≠some it:=by
 rcases h.2 with⟨b,_⟩|⟨g,d,f,b,_,i,_⟩
 · simp only[eY]at b;left;rw[b.1];rfl
 · simp only[eY]at b;right;rw[b.1];intro he;have:g=it:=by simpa[blk]using he
   subst this;unfold AF at hi;rw[i]at hi;cases hi
theorem LU{r':Nat}(h:AB w r m)(hi:AF w it r' k seen):some r≠some it:=by
 intro he;have:r=it:=by simpa using he
 subst this;unfold AF at hi;rw[h.obj]at hi;cases hi
theorem G4{c:Type}[BEq c][LawfulBEq c]{l k:List c}(f:l.Nodup)(e:k.Nodup)(h:∀ a,a∈l<->a∈k):l.Perm k:=by
 rw[List.perm_iff_count];intro a;have h1:=List.nodup_iff_count.1 f a;have h2:=List.nodup_iff_count.1 e a;have h3:0<l.count a<->a∈l:=List.count_pos_iff;have h4:0<k.count a<->a∈k:=List.count_pos_iff;have:=h a;by_cases b:a∈l
 · have:=h3.2 b;have:=h4.2 ((h a).1 b);omega
 · have g:¬ 0<l.count a:=fun h=>b (h3.1 h);have i:¬ 0<k.count a:=fun d=>b ((h a).2 (h4.1 d));omega
theorem Iz(L:List (List Int)):(List.range L.length).map (fun i=>L.getD i [])=L:=by
 apply j6
 · simp
 · intro i h1 h2;simp[h2]
theorem Q5(c:seen.Nodup)(d:∀ i∈seen,i<L.length)(b:∀ i,i<L.length->i∈seen):(seen.map (fun i=>L.getD i [])).Perm L/\seen.length=L.length:=by
 have hp:seen.Perm (List.range L.length):=G4 c List.nodup_range (fun a=>by
  rw[iA]
  exact⟨d a,b a⟩)
 refine⟨?_,by simpa using hp.length_eq⟩;have:=hp.map (fun i=>L.getD i [])
 rwa[Iz]at this
theorem Q6{k:List Int}(h:(Cj L)[i]?=some (k,v)):i<L.length/\k=An (L.getD i []):=by
 unfold Cj at h;rw[jV]at h;cases a:L[i]? with
 | none=>rw[a]at h;cases h
 | some p =>
  rw[a]at h;have c:i<L.length:=by
   rcases fL i L.length with b | b
   · exact b
   · simp[fi b]at a
  refine⟨c,?_⟩;simp only[i8,fc,j7]at h;rw[gqq,a];exact h.1.symm
theorem ES:∀ (L M:List Nat),L.Nodup->(∀ x∈L,x∈M)->L.length<=M.length
 | [],_,_,_=>by simp
 | x :: L,M,hn,hs=>by
  rw[iH]at hn;have hx:x∈M:=hs x (by simp);have:=ES L (M.erase x) hn.2 (fun y a=>(List.mem_erase_of_ne (by rintro rfl;exact hn.1 a)).2 (hs y (by simp[a])));rw[List.length_erase_of_mem hx]at this;have:0<M.length:=j4 hx;simp only[fW];omega
def Er(w:World)(ps:List (List Int))(er:Int)(e:Ending)(w':World):Prop :=
 ∃ a n c cells,e = .returned (.tuple #[.slice a n c,.int .i64 er])/\Ext w w'/\n=ps.length/\Own w' w.heap.size 35 a n c cells/\QEl w' w.heap.size cells ps
theorem GH(g:n=ps.length)(e:Own w base 35 a n c cells)(f:QEl w base cells ps):SlL w a n c ps:=by
 refine⟨g.symm,cells,e.sl,fun i k => ?_⟩;obtain⟨b,j,d,h1,h2⟩:=f i (by omega);exact⟨b,j,d,h1,h2.sl⟩
theorem IA(hp:ps.Nodup)(k:qs.Nodup)(h:∀ x,x∈ps<->x∈qs)(op:Ed ps 0 ps.length)(oq:Ed qs 0 qs.length):ps=qs:=by
 have c:∀ {l:List (List Int)},Ed l 0 l.length->l.Pairwise (fun a b=>Bc a b<=0):=by
  intro l g;rw[gH];intro i j f e d;have:=g i j (f8 _) d e;simpa[f,e]using this
 refine List.Perm.eq_of_pairwise ?_ (c op) (c oq) (G4 hp k h);intro a b _ _ h1 h2;have:=Bv a b;exact K1 (by omega)
end Go.Proofs.YthdbingomfdeoaaGreatDoor
