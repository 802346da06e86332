/- Part Pq31. -/
import Derived.Test.YtlbmnokpiilfpaaGreatDoorPq30
import Derived.BigQuiet
import Derived.Deep.LoopGhost
import Derived.ProofKit
import Derived.Lib.LaidTab
import Derived.Stop.LaidErr
import Derived.MakeChecks
set_option linter.all false
set_option maxRecDepth 100000
set_option maxHeartbeats 100000000
namespace Go.Proofs.YtlbmnokpiilfpaaGreatDoor
open Tryz Go Go.RowKit
variable {va vars:Int} {l:List Int} {b b0 g k m n:Nat} {A a:Option Addr} {q:Rat} {w w' wA:World}
open Classical in
noncomputable def rdN (vars:Int) (ts:List Tx):Option (List Pl.Tm):=if 0<=vars/\vars<=6/\okT vars ts ts.length then some (ts.map rdU)else none
def C7(b0:Nat)(w:World)(vars:Int)(o:Option (List Pl.Tm))(e:Ending)(w':World):Prop:=∃ a n c,e = .returned (.tuple #[.agg (pL (if o.isSome then vars else 0) a n c).toArray,.bool o.isSome])/\Ext w w'/\TO w' b0 w.heap.size a n c (o.getD [])
theorem C7.no{o:Option (List Pl.Tm)}(h:o=none)(e:Ext w w'):C7 b0 w vars o (.returned (.tuple #[.agg (pL 0 none 0 0).toArray,.bool false])) w':=by
 subst h;exact⟨none,0,0,rfl,e,TO.nil _ _ _⟩
theorem SG{t:Tx}(h1:AD t.1=some q)(h2:q≠0)(h3:(t.2.length:Int)=vars)(h4:∀ e∈t.2,0<=e/\e<=1048576):(AS vars t).isSome=true:=by
 unfold AS;rw[h1];simp only;rw[gY ⟨h2,h3,h4⟩];rfl
theorem Gd{t:Tx}(h:∀ q,AD t.1=some q->q≠0->(t.2.length:Int)=vars->¬ ∀ e∈t.2,0<=e/\e<=1048576):(AS vars t).isSome=false:=by
 unfold AS;cases b:AD t.1 with
 | none=>rfl
 | some q =>
  simp only;rw[gT (fun a=>h q b a.1 a.2.1 a.2.2)];rfl
theorem VV{ts:List Tx}(a:k<ts.length)(h:(AS vars (ts.getD k tm0)).isSome=false):rdN vars ts=none:=by
 unfold rdN;rw[gT];rintro⟨_,_,h1,_⟩;have:=h1 k a;rw[h]at this;cases this
theorem VW{ts:List Tx}(a:k+1<ts.length)(h:¬ 0<Pl.ordE (ts.getD k tm0).2 (ts.getD (k+1) tm0).2):rdN vars ts=none:=by
 unfold rdN;rw[gT];rintro⟨_,_,_,h1⟩;exact h (h1 k a)
theorem okT.step{ts:List Tx}(h:okT vars ts k)(h1:(AS vars (ts.getD k tm0)).isSome=true)(h2:∀ j,k=j+1->0<Pl.ordE (ts.getD j tm0).2 (ts.getD (j+1) tm0).2):okT vars ts (k+1):=by
 refine⟨fun i b => ?_,fun i b => ?_⟩
 · by_cases a:i<k
   · exact h.1 i a
   · have:i=k:=by omega
     subst this;exact h1
 · by_cases a:i+1<k
   · exact h.2 i a
   · exact h2 i (by omega)
theorem Uo(h:∀ i,i<l.length->0<=l.getD i 0/\l.getD i 0<=1048576):∀ x∈l,0<=x/\x<=1048576:=fun x b=>by
 obtain⟨i,a,rfl⟩:=kP b;have:=h i a
 rwa[gqq,gD a,gP]at this
theorem KP{c:Nat}{ts:List Tx}(h:AH wA A n c ts)(hA:Ext wA w)(hs:∀ t∈ts,t.1.length<=10000)(hn:n<=100000) :
 Calls prog 88 #[.agg #[.int .i64 vars,.slice A n c]] w (C7 wA.heap.size w vars (rdN vars ts)):=by
 have b7:=h.len;obtain⟨cn,hS,_,hq⟩:=h;have HQ:=qh hq;have HL:=qh b7;have HS:=qh hs;obtain⟨r,hr⟩:∃ r,rdN vars ts=r:=⟨_,rfl⟩;rw[hr];have HR:=qh hr;clear hr hq b7 hs
 go_enter func88,ntmps88
 go_upto_region 1 with(fail)
 refine Cf ?_;intro w0 X aS bi b4;have ab:Arr w0 (w.heap.size+1) 44 (pL 0 none 0 0):=bi;have p0:=aS.c 0 rfl;have p1:=aS.c 1 rfl;have au:=Arr.new w0 44 (pL vars none 0 0);have a8:=(Ext.refl w0).alloc (.cells (pL vars none 0 0).toArray 44);clear aS bi
 go_upto_region 2 with(fail)
 change Code.wp _ _ _ _ (w0.alloc (.cells (pL vars none 0 0).toArray 44));generalize w0.alloc (.cells (pL vars none 0 0).toArray 44)=w2 at *
 have aQ:Hid (w0.heap.size<=w.heap.size+2):=qh (lH b4);rw[b4]at au;obtain⟨OB,aV⟩:∃ OB,w.heap.size+2=OB:=⟨_,rfl⟩;rw[aV]at au aQ;simp only[aV];clear aV b4;have q0:=a8.cell p0;by_cases hv:0<=vars/\vars<=6
 case neg =>
  have HF:Hid (r=none):=qh (by rw[<-HR.out];unfold rdN;rw[gT (fun h=>hv ⟨h.1,h.2.1⟩)]);have c5:vars<0\/¬ vars<0/\6<vars:=by omega
  have bY:=ab.ext a8;have ar:=X.trans a8;clear p0 p1;rcases c5 with c1|⟨c1,c2⟩
  all_goals
   go_wp2_with(refine Aa (vs:=pL 0 none 0 0) rfl rfl rfl rfl rfl AJ bY rfl (AT _ _ _ _) ?_;intro w9 B p)
   exact gF (Ao rfl AJ rfl rfl B) rfl (C7.no HF.out (ar.grownR p (by omega)))
 obtain⟨cg,ch⟩:=hv;obtain⟨vn,rfl⟩:∃ k:Nat,vars=(k:Int):=⟨vars.toNat,by omega⟩;have c1:¬ ((vn:Int)<0):=by omega
 have c2:¬ ((6:Int)<(vn:Int)):=by omega
 go_wp2;clear q0 c1 c2
 go_loopg [5] n (fun gk iv wr=>∃ (k:Nat) (ao:Option Addr) (co:Nat),iv = .int .i64 k/\k<=n/\n<=k+gk/\Ext w0 wr/\Arr wr OB 44 (pL vn ao k co)/\Hid (TO wr wA.heap.size w0.heap.size ao k co ((ts.take k).map rdU))/\Hid (okT vn ts k))
 case atStart=>exact⟨0,none,0,rfl,gO _,by omega,a8,au,qh (by rw[jw];exact TO.nil _ _ _),qh ⟨fun i hi=>absurd hi (by omega),fun i hi=>absurd hi (by omega)⟩⟩
 case round =>
  clear a8 au;obtain⟨k,ao,co,rfl,hk,cr,hE,aa,HO,HK⟩:=hrel;have ar:=X.trans hE;have aq:=hA.trans ar;have bC:=hE.cell p0;have bD:=hE.cell p1;by_cases aY:k<n
  case neg =>
   have bH:¬ (k:Int)<n:=by omega
   have hT:TO wr wA.heap.size w0.heap.size ao k co (ts.map rdU):=by
    have h1:=HO.out;rw[gG (by have:=HL.out;omega)]at h1;exact h1
   have HT:=qh hT
   have HF:Hid (r=some (ts.map rdU)):=qh (by
    rw[<-HR.out];unfold rdN
    rw[gY ⟨cg,ch,by rw[HL.out,<-show k=n by omega];exact HK.out⟩])
   have z0:=aa.c 0 rfl;have z1:=aa.c 1 rfl;have bl:=ab.ext hE;clear HO HK hT aa hk
   go_wp2_with(refine Aa (vs:=pL vn ao k co) rfl rfl rfl rfl rfl AJ bl rfl (AT _ _ _ _) ?_;intro w9 B p)
   refine gF (Ao rfl AJ rfl rfl B) rfl ?_;rw[HF.out];exact⟨ao,k,co,rfl,ar.grownR p (by omega),(HT.out.keptA bl (by decide) (by decide) (by decide) (by have:=hA.size;omega) p).mono X.size⟩
  have bH:(k:Int)<n:=by omega
  have bm:=hS.ext aq;obtain⟨b,K,rfl,ay⟩:=bm.rd (by omega);obtain⟨s,ax,D,cx,aN,b1,aG⟩:=HQ.out k aY;have ad:k<ts.length:=by have:=HL.out;omega
  have b5:Hid (ts.getD k tm0∈ts):=qh (by rw[gqq,gD ad,gP];exact jl ad);have gs:wr.cell? ⟨b,K+k*2,none⟩=some (.string s):=by have:=ay k aY 0 (by omega);rw[aN]at this;exact this
  have gx:wr.cell? ⟨b,K+k*2+1,none⟩=some (.slice ax D cx):=by have:=ay k aY 1 (by omega);rw[aN]at this;exact this
  have bv:=qh ((Xw aG).ext aq);have ag:=aG.ext aq;have aZ:=aG.len;have bt:s.size<=10000:=by rw[<-Ay,b1];exact HS.out _ b5.out
  have aD:=qh (OO (w:=wr) bt);rw[b1]at aD;have be:=qh (Uk ad);have o:=fun h=>qh (VV (vars:=(vn:Int)) ad h);have y:=fun h h2=>qh (HK.out.step (k:=k) h h2)
  have a0:Hid (∀ j,k=j+1->∃ ap cp,wr.cell? ⟨b,K+j*2+1,none⟩=some (.slice ap vn cp)/\SlI wr ap vn cp (ts.getD j tm0).2/\∀ x∈(ts.getD j tm0).2,0<=x/\x<=1048576):=qh (fun j hj=>by
   obtain⟨sp,ap,np,cp,bF,_,af⟩:=HQ.out j (by omega);have h1:=CU (HK.out.1 j (by omega));have h2:=af.len;have h3:np=vn:=by omega
   subst h3;have h4:=ay j (by omega) 1 (by omega);rw[bF]at h4
   exact⟨ap,cp,h4,af.ext aq,h1.2⟩)
  have C:=fun j (hj:k=j+1) h=>qh (VW (vars:=(vn:Int)) (ts:=ts) (k:=j) (by omega) h);rw[HR.out]at o C;obtain⟨t,aR⟩:∃ t,Hid (ts.getD k tm0=t):=⟨_,qh rfl⟩;rw[aR.out]at aD bv ag aZ b5 be o y;have a6:=qh aZ;clear ay aN aG b1 bt bm ad HK aZ
  go_wp2_with fail
  refine aD.out.mono ?_;rintro e w3 ⟨U,L,T,N,M,R,O,rfl,bj,b2⟩;have bo:=Arr.new w3 99 (Al false none 0 0 false none 0 0);have cb:(Al U L T N false M R O).toArray=#[.bool U,.slice L T N,.bool false,.slice M R O]:=rfl
  go_upto_region 8 with(refine Aa (vs:=Al U L T N false M R O) rfl rfl rfl rfl rfl By bo rfl (Aq _ _ _ _ _ _ _ _) ?_;intro w4 a1 br)
  have ai:Ext w3 w4:=((Ext.refl w3).alloc _).grownR br (lrf _);have Q:=bj.trans ai;have P:=hE.trans Q;have aI:=Q.cell bC;have aJ:=Q.cell bD;have an:=Q.cell gx;obtain⟨Y,bn⟩:∃ x,w3.heap.size=x:=⟨_,rfl⟩;rw[bn]at a1 |-;have z0:=a1.c 0 rfl;have z1:=a1.c 1 rfl;have z2:=a1.c 2 rfl;have z3:=a1.c 3 rfl;clear bo br cb aD a1 bn gs gx bC bD;cases ae:AD t.1 with
  | none =>
   have I:Hid (r=none):=qh (o (Gd (fun q hq=>by rw[ae]at hq;cases hq))).out;have J:=ab.ext P;have V:=X.trans P;simp only[jz];clear ae b2 a0 C y o ag
   go_upto_region 8 with(fail)
   go_quiet (fail)
   go_wp2_with(refine Aa (vs:=pL 0 none 0 0) rfl rfl rfl rfl rfl AJ J rfl (AT _ _ _ _) ?_;intro w9 B p)
   exact gF (Ao rfl AJ rfl rfl B) rfl (C7.no I.out ((V.drewN _).grownR p (by omega)))
  | some q =>
   obtain⟨bd,bu,bw⟩:=b2 q ae;have aF:=bu.ext ai;have aH:=bw.ext ai;simp only[jr];have am:=qh ae;obtain⟨S,ac⟩:∃ S,q.num.sign=S:=⟨_,rfl⟩;have b0:=qh (fun(f:World) (a:Ext w4 f)=>Md (v := .agg #[.bool U,.slice L T N,.bool false,.slice M R O]) (q:=q) ⟨U,L,T,N,M,R,O,rfl,bd,aF.ext a,aH.ext a⟩ ac);clear ae b2 bu bw;by_cases a2:q=0
   case pos =>
    have c0:S=0:=by rw[<-ac,a2];rfl
    have I:Hid (r=none):=qh (o (Gd (fun q' aC cc=>by rw[am.out]at aC;injection aC with aC;exact absurd (aC.symm.trans a2) cc))).out;subst c0;clear ac a2 a0 C y o aF aH ag
    go_upto_region 8 with(fail)
    have a5:=fun(f:World) (a:Ext w4 f)=>qh (And.intro (a.cell z0) (And.intro (a.cell z1) (And.intro (a.cell z2) (And.intro (a.cell z3) (And.intro (a.cell an) (And.intro (a.cell aI) (a.cell aJ)))))))
    refine Ab (by kernel_rfl) (fun f=>Ext w4 f)
     [he (.bool true),
 he (.bool false),
 he (.bool false),
 he (.agg #[.bool U,.slice L T N,.bool false,.slice M R O]),
 hp (fun v f=>v = .int .i64 0),
 he (.bool true),
 he (.bool true),
 he (.bool true),
 he undef,
 he undef,
 he undef,
 he undef,
 he undef,
 he undef,
 he undef,
 he undef,
 he undef,
 he undef,
 he (.bool true)]
     (by kernel_rfl) (fun _ _ e h=>h.trans e) ((Ext.refl w4).drew) ⟨trivial,trivial,trivial,trivial,fun v w w' e h=>h,trivial,trivial,trivial,trivial,trivial,trivial,trivial,trivial,trivial,trivial,trivial,trivial,trivial,trivial,trivial⟩ ⟨?o0,?o1,?o2,?o3,?o4,?o5,?o6,?o7,?o8,?o9,?o10,?o11,?o12,?o13,?o14,?o15,?o16,?o17,?o18,trivial⟩ ?fin
    case o0 | o2 | o7=>exact omv
    case o3=>exact ol4
    case o8 | o9 | o10 | o11 | o12 | o13 | o14 | o15 | o16 | o17=>exact O5 rfl
    case o1 =>
     refine Aj rfl fun m f a l h => ?_;have e0:m (.tmp 38)=(.bool true):=h.1;obtain⟨E,F,G,H,kx,ka,kb⟩:=(a5 f a).out;go_simp
    case o4 =>
     refine Ag rfl fun m f a l bq h => ?_;have e1:m (.tmp 41)=(.agg #[.bool U,.slice L T N,.bool false,.slice M R O]):=h.2.1;obtain⟨E,F,G,H,kx,ka,kb⟩:=(a5 f a).out;refine⟨132,#[.agg #[.bool U,.slice L T N,.bool false,.slice M R O]],by go_simp,(b0.out f a).mono ?_⟩;rintro e w' ⟨rfl,aT⟩;exact⟨_,rfl,aT,rfl⟩
    case o5 =>
     refine Aj rfl fun m f a l h => ?_;obtain⟨v0,e0,rfl⟩:=h.1;obtain⟨E,F,G,H,kx,ka,kb⟩:=(a5 f a).out;go_simp
     try (first | (intros;omega) | exact gI _ (by omega))
    case o6 =>
     refine Aj rfl fun m f a l h => ?_;have e0:m (.tmp 40)=(.bool false):=h.1;have e2:m (.tmp 43)=(.bool true):=h.2.2.1;obtain⟨E,F,G,H,kx,ka,kb⟩:=(a5 f a).out;go_simp
    case o18 =>
     refine Aj rfl fun m f a l h => ?_;have e0:m (.tmp 45)=(.bool true):=h.1;have e2:m (.tmp 55)=undef:=h.2.2.1;obtain⟨E,F,G,H,kx,ka,kb⟩:=(a5 f a).out;go_simp
    case fin =>
     intro f a;rintro _ rfl;change wpList _ _ _ _ _ _;simp only[lq,lw,lx,lz,Act.put,lj,lk,ly];have J:=(ab.ext P).ext a;have V:=(X.trans P).trans a
     go_wp2_with(refine Aa (vs:=pL 0 none 0 0) rfl rfl rfl rfl rfl AJ J rfl (AT _ _ _ _) ?_;intro w9 B p)
     exact gF (Ao rfl AJ rfl rfl B) rfl (C7.no I.out (V.grownR p (by omega)))
   have cf:((S:Int) == 0)=false:=by rw[<-ac];simpa using IR a2
   obtain⟨bb,aw⟩:∃ bb,((D:Int) != (vn:Int))=bb:=⟨_,rfl⟩;clear ac
   go_upto_region 8 with(fail)
   have W:=fun(f:World) (a:Ext w4 f)=>qh (And.intro (a.cell z0) (And.intro (a.cell z1) (And.intro (a.cell z2) (And.intro (a.cell z3) (And.intro (a.cell an) (And.intro (a.cell aI) (a.cell aJ)))))))
   refine Ab (by kernel_rfl) (fun f=>Ext w4 f)
    [he (.bool true),
 he (.bool false),
 he (.bool false),
 he (.agg #[.bool U,.slice L T N,.bool false,.slice M R O]),
 hp (fun v f=>v = .int .i64 S),
 he (.bool false),
 he (.bool false),
 he (.bool false),
 he (.pointer (some ⟨w.heap.size,1,none⟩)),
 he (.slice (some ⟨b,K,none⟩) n c),
 he (.int .i64 (k:Int)),
 he (.pointer (some ⟨b,(K+k*2),none⟩)),
 he (.pointer (some ⟨b,((K+k*2)+1),none⟩)),
 he (.slice ax D cx),
 he (.int .i64 D),
 he (.pointer (some ⟨w.heap.size,0,none⟩)),
 he (.int .i64 (vn:Int)),
 he (.bool bb),
 he (.bool bb)]
    (by kernel_rfl) (fun _ _ e h=>h.trans e) ((Ext.refl w4).drew) ⟨trivial,trivial,trivial,trivial,fun v w w' e h=>h,trivial,trivial,trivial,trivial,trivial,trivial,trivial,trivial,trivial,trivial,trivial,trivial,trivial,trivial,trivial⟩ ⟨?o0,?o1,?o2,?o3,?o4,?o5,?o6,?o7,?o8,?o9,?o10,?o11,?o12,?o13,?o14,?o15,?o16,?o17,?o18,trivial⟩ ?fin
   case o0 | o2 | o7 | o10=>exact omv
   case o3=>exact ol4
   case o8 | o12=>exact ofa (d:=1)
   case o9 | o13 | o16=>exact ol
   case o15=>exact ofa (d:=0)
   case o1 =>
    refine Aj rfl fun m f a l h => ?_;have e0:m (.tmp 38)=(.bool true):=h.1;obtain⟨E,F,G,H,kx,ka,kb⟩:=(W f a).out;go_simp
   case o4 =>
    refine Ag rfl fun m f a l bq h => ?_;have e1:m (.tmp 41)=(.agg #[.bool U,.slice L T N,.bool false,.slice M R O]):=h.2.1;obtain⟨E,F,G,H,kx,ka,kb⟩:=(W f a).out;refine⟨132,#[.agg #[.bool U,.slice L T N,.bool false,.slice M R O]],by go_simp,(b0.out f a).mono ?_⟩;rintro e w' ⟨rfl,aT⟩;exact⟨_,rfl,aT,rfl⟩
   case o5 =>
    refine Aj rfl fun m f a l h => ?_;obtain⟨v0,e0,rfl⟩:=h.1;obtain⟨E,F,G,H,kx,ka,kb⟩:=(W f a).out;go_simp
    try (first | (intros;omega) | exact gI _ (by omega))
   case o6 =>
    refine Aj rfl fun m f a l h => ?_;have e0:m (.tmp 40)=(.bool false):=h.1;have e2:m (.tmp 43)=(.bool false):=h.2.2.1;obtain⟨E,F,G,H,kx,ka,kb⟩:=(W f a).out;go_simp
   case o11 =>
    refine Aj rfl fun m f a l h => ?_;have e0:m (.tmp 47)=(.slice (some ⟨b,K,none⟩) n c):=h.1;have e1:m (.tmp 48)=(.int .i64 (k:Int)):=h.2.1;obtain⟨E,F,G,H,kx,ka,kb⟩:=(W f a).out;go_simp
    try (first | (intros;omega) | exact gI _ (by omega))
   case o14 =>
    refine Aj rfl fun m f a l h => ?_;have e0:m (.tmp 51)=(.slice ax D cx):=h.1;obtain⟨E,F,G,H,kx,ka,kb⟩:=(W f a).out;go_simp
   case o17 =>
    refine Aj rfl fun m f a l h => ?_;have e0:m (.tmp 52)=(.int .i64 D):=h.1;have e1:m (.tmp 54)=(.int .i64 (vn:Int)):=h.2.1;obtain⟨E,F,G,H,kx,ka,kb⟩:=(W f a).out;go_simp
    try (first | (intros;omega) | exact gI _ (by omega))
   case o18 =>
    refine Aj rfl fun m f a l h => ?_;have e0:m (.tmp 45)=(.bool false):=h.1;have e2:m (.tmp 55)=(.bool bb):=h.2.2.1;obtain⟨E,F,G,H,kx,ka,kb⟩:=(W f a).out;go_simp
   case fin =>
    intro f a;rintro _ rfl;change wpList _ _ _ _ _ _;simp only[lq,lw,lx,lz,Act.put,lj,lk,ly];generalize cj:f=w5 at *
    clear cj;have b6:=P.trans a;have J:=ab.ext b6;have V:=X.trans b6;have ck:=a.cell aI;have bE:=a.cell aJ;have gy:=a.cell an;have ah:=Q.trans a;have Z:=ag.ext ah;have y0:=a.cell z0;have y1:=a.cell z1;have y2:=a.cell z2;have y3:=a.cell z3;have bg:=qh (aF.ext a);have bh:=qh (aH.ext a);clear z0 z1 z2 z3 aI aJ an b0 aF aH a cf ag Q P bj ai;cases bb with
    | true =>
     have aB:¬ (D:Int)=vn:=by simpa using aw
     have I:Hid (r=none):=qh (o (Gd (fun q' _ _ h3=>absurd (by rw[<-a6.out];exact h3) aB))).out;clear aw aB a0 C y o Z
     go_wp2_with(refine Aa (vs:=pL 0 none 0 0) rfl rfl rfl rfl rfl AJ J rfl (AT _ _ _ _) ?_;intro w9 B p)
     exact gF (Ao rfl AJ rfl rfl B) rfl (C7.no I.out (V.grownR p (by omega)))
    | false =>
     have ce:(D:Int)=vn:=by simpa using aw
     have cd:D=vn:=by omega
     have a6:=a6.out;subst cd;have aP:=qh a6;clear aw ce a6;go_wp2
     go_loop[8] (fun kv=>∃ j:Nat,kv = .int .i64 j/\j<=D/\Hid (∀ i,i<j->0<=t.2.getD i 0/\t.2.getD i 0<=1048576)) (fun kv=>D-(intOf kv).toNat)
     case atStart=>exact⟨0,rfl,gO _,qh (fun i hi=>absurd hi (by omega))⟩
     case round =>
      obtain⟨j,rfl,hj,HJ⟩:=hrel;by_cases aA:j<D
      · have bG:(j:Int)<D:=by omega
        obtain⟨b',cm,rfl,hc⟩:=Z.at aA;have c1:=hc j aA;have HM:Hid (t.2.getD j 0∈t.2):=qh (Y6 (by rw[aP.out];exact aA))
        have ak:Hid (0<=t.2.getD j 0->t.2.getD j 0<=1048576->∀ i,i<j+1->0<=t.2.getD i 0/\t.2.getD i 0<=1048576):=qh (fun h1 h2 i hi=>by
         by_cases c8:i<j
         · exact HJ.out i c8
         · have:i=j:=by omega
           subst this
           exact⟨h1,h2⟩)
        have a4:Hid (¬ (0<=t.2.getD j 0/\t.2.getD j 0<=1048576)->r=none):=qh (fun h=>(o (Gd (fun _ _ _ _ h4=>h (h4 _ HM.out)))).out);clear hc HM a0 C y o Z HJ;generalize t.2.getD j 0=x at *
        by_cases ct:x<0
        · have I:Hid (r=none):=qh (a4.out (by omega));clear ak a4
          go_upto_region 14 with(fail)
          go_wp2_with(have hq:=J;clear J;refine Aa (vs:=pL 0 none 0 0) rfl rfl rfl rfl rfl AJ hq rfl (AT _ _ _ _) ?_;intro w9 B p)
          have h9:=V.grownR p (by omega);exact gF (Ao rfl AJ rfl rfl B) rfl (C7.no I.out h9)
        by_cases cu:1048576<x
        · have I:Hid (r=none):=qh (a4.out (by omega));clear ak a4
          go_upto_region 14 with(fail)
          go_wp2_with(have hq:=J;clear J;refine Aa (vs:=pL 0 none 0 0) rfl rfl rfl rfl rfl AJ hq rfl (AT _ _ _ _) ?_;intro w9 B p)
          have h9:=V.grownR p (by omega);exact gF (Ao rfl AJ rfl rfl B) rfl (C7.no I.out h9)
        have bJ:=qh (ak.out (by omega) (by omega));clear ak a4;go_wp2;go_round
        case rel=>exact⟨j+1,by go_num,by omega,bJ⟩
        case measure=>simp[intOf];omega
      have bG:¬ (j:Int)<D:=by omega
      have HB:Hid (∀ x∈t.2,0<=x/\x<=1048576):=qh (Uo (fun i hi=>HJ.out i (by rw[aP.out]at hi;omega)));have bf:Hid ((AS (D:Int) t).isSome=true):=qh (SG am.out a2 (by rw[aP.out]) HB.out);have bL:Hid (rdU t=(t.2,q)):=by show _=_;unfold rdU;rw[am.out];rfl
      clear HJ hj aA o a2 am;have c6:k=0\/∃ j,k=j+1:=by cases k;exact .inl rfl;exact .inr ⟨_,rfl⟩
      go_upto_region 15 with(fail)
      rcases c6 with ca|⟨j,aX⟩
      case' inl =>
       have bc:Hid (okT D ts (k+1)):=qh (y bf.out (fun j hj=>by omega)).out;have az:¬ (0:Int)<k:=by omega
       have aL:¬ 0<k:=by omega
       have aM:decide ((0:Int)<k)=false:=gR az;clear ca a0 C y
       go_quiet (fail)
       clear aL aM
      case' inr =>
       obtain⟨ap,cp,gp,af,bp⟩:=a0.out j aX;have aj:=fun(f:World) (hq:Ext w5 f)=>qh (FN ((af.ext ah).ext hq) (Z.ext hq) (by omega) (fun x hx=>by have:=bp x hx;omega) (fun x hx=>by have:=HB.out x hx;omega));have bP:=ah.cell gp;obtain⟨v,HV⟩:∃ v,Hid (Pl.ordE (ts.getD j tm0).2 t.2=v):=⟨_,qh rfl⟩;rw[HV.out]at aj;have ci:IntKind.i64.wrap ((k:Int)-1)=(j:Int):=by rw[show(k:Int)-1=(j:Int) by omega];exact gI _ (by omega)
       have az:(0:Int)<k:=by omega
       have aL:0<k:=by omega
       have aM:decide ((0:Int)<k)=true:=iA az;have c9:(j:Int)<n:=by omega
       have al:=qh aX;clear aX gp bp af a0;by_cases b8:0<v
       case neg =>
        have I:Hid (r=none):=qh (C j al.out (by rw[<-al.out,aR.out,HV.out];omega)).out;have aE:v<=0:=by omega
        have b9:decide (v<=0)=true:=iA aE;clear C y
        go_quiet (exact lS (aj _ ((Ext.refl w5).drewN _)).out)
        have bZ:=J.ext ((Ext.refl w5).drewN nq);have bS:=V.drewN nq;generalize w5.drewN nq=w6 at *
        go_wp2_with(refine Aa (vs:=pL 0 none 0 0) rfl rfl rfl rfl rfl AJ bZ rfl (AT _ _ _ _) ?_;intro w9 B p)
        exact gF (Ao rfl AJ rfl rfl B) rfl (C7.no I.out (bS.grownR p (by omega)))
       have bc:Hid (okT D ts (k+1)):=qh (y bf.out (fun j' cs=>by
        have h1:j'=j:=by have:=al.out;omega
        rw[h1,<-al.out,aR.out,HV.out]
        exact b8)).out
       have aE:¬ v<=0:=by omega
       have b9:decide (v<=0)=false:=gR aE;clear C y
       go_quiet (exact lS (aj _ ((Ext.refl w5).drewN _)).out)
       clear aj bP ci c9 b8 aL aM aE b9
      all_goals
       have z:Ext w5 (w5.drewN nq):=(Ext.refl w5).drewN nq;generalize w5.drewN nq=w6 at *
       have aK:=ah.trans z;have pp:w6.cell? ⟨OB,1,none⟩=some (.slice ao k co):=(aa.ext aK).cell (i:=1) (by simp[pL]);have cl:=z.cell bE;have gz:=z.cell gy;have u0:=z.cell y0;have u1:=z.cell y1;have u2:=z.cell y2;have u3:=z.cell y3;have bN:=qh (bv.out.ext aK);have bM:=qh (bg.out.ext z);have bO:=qh (bh.out.ext z);clear ck bE gy y0 y1 y2 y3 bg bh z Z J V az
       go_upto_region 17 with(fail)
       have aO:=fun(f:World) (a:Ext w6 f)=>qh (And.intro (a.cell u0) (And.intro (a.cell u1) (And.intro (a.cell u2) (And.intro (a.cell u3) (And.intro (a.cell pp) (And.intro (a.cell cl) (a.cell gz)))))))
       refine Ab (by kernel_rfl) (fun f=>Ext w6 f)
        [he (.pointer (some ⟨OB,1,none⟩)),
 he (.slice ao k co),
 he (.agg #[.bool U,.slice L T N,.bool false,.slice M R O]),
 he (.pointer (some ⟨w.heap.size,1,none⟩)),
 he (.slice (some ⟨b,K,none⟩) n c),
 he (.int .i64 (k:Int)),
 he (.pointer (some ⟨b,(K+k*2),none⟩)),
 he (.pointer (some ⟨b,((K+k*2)+1),none⟩)),
 he (.slice ax D cx),
 he (.agg #[.bool U,.slice L T N,.bool false,.slice M R O,.slice ax D cx]),
 hp (fun v f=>∃ g,v = .slice (some ⟨g,0,none⟩) 1 1/\Arr f g 103 (tL U L T N M R O ax D cx))]
        (by kernel_rfl) (fun _ _ e h=>h.trans e) ((Ext.refl w6).drew) ⟨trivial,trivial,trivial,trivial,trivial,trivial,trivial,trivial,trivial,trivial,fun v w w' e ⟨g,h1,h2⟩=>⟨g,h1,h2.ext e⟩,trivial⟩ ⟨?o0,?o1,?o2,?o3,?o4,?o5,?o6,?o7,?o8,?o9,?o10,trivial⟩ ?fin
       case o0 | o3 | o7=>exact ofa (d:=1)
       case o1 | o4 | o8=>exact ol
       case o2=>exact ol4
       case o5=>exact omv
       case o6 =>
        refine Aj rfl fun m f a l h => ?_;have e0:m (.tmp 111)=(.slice (some ⟨b,K,none⟩) n c):=h.1;have e1:m (.tmp 112)=(.int .i64 (k:Int)):=h.2.1;obtain⟨bx,bz,bA,bB,kp,kq,kg⟩:=(aO f a).out;go_simp
        try (first | (intros;omega) | exact gI _ (by omega))
       case o9 =>
        refine Aj rfl fun m f a l h => ?_;have e0:m (.tmp 109)=(.agg #[.bool U,.slice L T N,.bool false,.slice M R O]):=h.1;have e1:m (.tmp 115)=(.slice ax D cx):=h.2.1;obtain⟨bx,bz,bA,bB,kp,kq,kg⟩:=(aO f a).out;go_simp
       case o10 =>
        refine AE rfl ?_;intro m f hp a h;have l:=hp.const;have bq:=hp.func;have e0:m (.tmp 116)=(.agg #[.bool U,.slice L T N,.bool false,.slice M R O,.slice ax D cx]):=h.1;obtain⟨bx,bz,bA,bB,kp,kq,kg⟩:=(aO f a).out;refine⟨_,_,?_,(Ext.refl f).alloc (.cells (tL U L T N M R O ax D cx).toArray 103),f.heap.size,rfl,Arr.new f 103 (tL U L T N M R O ax D cx)⟩;simp[execOp,e0,EK underlying42 B8];rfl
       case fin =>
        intro f a;rintro _ ⟨g9,rfl,bT⟩;change wpList _ _ _ _ _ _;simp only[lq,lw,lx,lz,Act.put,lj,lk,ly];obtain⟨cv,hK,bV,bU⟩:=HO.out;have a9:=aK.trans a;have aU:=hK.ext a9;have hL:=BT (k:=5) bT rfl;have bk:=aa.ext a9;have aB:=aU.ne bk (by decide);have bI:=(hE.trans a9).size;have c4:wA.heap.size<=OB:=gJ hA.size (gJ X.size aQ.out)
        go_wp2_with(refine Dn rfl rfl underlying42 B8 rfl aU rfl hL (by intro r hr u hu;rw[gL.1 hr]at hu;exact FM u hu) (by unfold maxLen;omega) (by omega) bI ?_;intro a7 c7 w7 bW aW cq;have av:=bk.kept aW aB;have cy:=av.frozen 1;have cw:w7.cell? ⟨OB,1,none⟩=some (.slice ao k co):=av.cell (i:=1) (by simp[pL]))
        have ba:=TO.grow aU bV (fun j hj=>(bU j hj).ext a9) (⟨U,L,T,N,M,R,O,ax,D,cx,rfl,bd,bM.out.ext a,bO.out.ext a,bN.out.ext a⟩:TC _ wA.heap.size (tL U L T N M R O ax D cx) (t.2,q)) (gJ hA.size X.size) bW aW;rw[<-bL.out,be.out]at ba;have bQ:Ext w0 w7:=(hE.trans a9).grown aW (fun g hg=>(hK.lt hg).1);have bs:=Ar w7 OB 1 (.slice a7 (k+1) c7);have bX:Arr (w7.setCell ⟨OB,1,none⟩ (.slice a7 (k+1) c7)) OB 44 (pL D a7 (k+1) c7):=av.set 1 _;have bK:=ba.keptA av (by decide) (by decide) (by decide) c4 bs
        have bR:=bQ.grownR bs aQ.out
        go_roundg (n-(k+1))
        case rel=>exact⟨k+1,a7,c7,by go_num,by omega,by omega,bR,bX,qh bK,bc⟩
        case measure=>omega
open Classical in
noncomputable def rdR (vars:Int) (ts:List Tx):Option (List Pl.Tm):=if ts.length<=4096/\∀ t r,ts=t :: r->A3 t.2=true then rdN vars ts else none
theorem Qj{ts:List Tx}{l:List Pl.Tm}(h:rdN vars ts=some l):l=ts.map rdU:=by
 unfold rdN at h;split at h
 · injection h with h;exact h.symm
 · cases h
theorem Up{ts:List Tx}(h:rdN vars ts=none):rdR vars ts=none:=by
 unfold rdR;rw[h];split <;> rfl
theorem VZ{ts:List Tx}{l:List Pl.Tm}(h:rdN vars ts=some l)(h0:l.length=0):rdR vars ts=some l:=by
 have h1:=Qj h;have h2:ts=[]:=by
  rw[h1,iM]at h0;exact gQ h0
 unfold rdR;rw[h,gY];exact⟨by rw[h2];exact gO _,fun t r a=>by rw[h2]at a;cases a⟩
theorem Uq{ts:List Tx}{l:List Pl.Tm}(h:rdN vars ts=some l)(h0:0<l.length)(c:ts.length<=4096):rdR vars ts=if A3 (l.getD 0 tz).1=true then some l else none:=by
 have h1:=Qj h;subst h1
 match ts,h0,c,h with
 | t :: r,_,c,h =>
 unfold rdR;rw[h];have e:((t :: r).map rdU).getD 0 tz=rdU t:=rfl;rw[e];by_cases a:A3 t.2=true
 · rw[gY (show A3 (rdU t).1=true from a),gY];exact⟨c,fun f d b=>by injection b with h2 h3;rw[<-h2];exact a⟩
 · rw[gT (show ¬ A3 (rdU t).1=true from a),gT];rintro⟨_,b⟩;exact a (b t r rfl)
theorem Bv{c:Nat}{ts:List Tx}(h:AH wA A n c ts)(hA:Ext wA w)(hs:∀ t∈ts,t.1.length<=10000) :
 Calls prog 25 #[.agg #[.int .i64 vars,.slice A n c]] w (C7 wA.heap.size w vars (rdR vars ts)):=by
 have j:=h.len;by_cases hn:n<=4096
 case neg =>
  have q:Hid (rdR vars ts=none):=qh (by unfold rdR;exact gT (fun hc=>hn (by rw[j]at hc;exact hc.1)))
  go_enter func25,ntmps25
  go_upto_region 1 with(fail)
  refine Cf ?_;intro w0 y k r a3;have I:Arr w0 (w.heap.size+1) 44 (pL 0 none 0 0):=r;have p1:=k.c 1 rfl;have R:(4096:Int)<n:=by omega
  clear k r j
  go_wp2_with(refine Aa (vs:=pL 0 none 0 0) rfl rfl rfl rfl rfl AJ I rfl (AT _ _ _ _) ?_;intro H f g)
  exact gF (Ao rfl AJ rfl rfl f) rfl (C7.no q.out (y.grownR g (by omega)))
 have HL:=qh j;clear j
 go_enter func25,ntmps25
 go_upto_region 1 with(fail)
 refine Cf ?_;intro w0 y k r a3;have I:Arr w0 (w.heap.size+1) 44 (pL 0 none 0 0):=r;have p0:=k.c 0 rfl;have p1:=k.c 1 rfl;have R:¬ (4096:Int)<n:=by omega
 have M:=qh (KP (vars:=vars) h (hA.trans y) hs (by omega));obtain⟨o,ho⟩:∃ o,rdN vars ts=o:=⟨_,rfl⟩;rw[ho]at M;have W:=qh ho;clear k r h hs ho
 go_wp2_with fail
 refine M.out.mono ?_;rintro e N ⟨D,p,B,rfl,O,J⟩;have P:=I.ext O;have U:=Arr.new N 44 (pL 0 none 0 0);have G:=y.trans O;clear M p0 p1 R;cases o with
 | none =>
  have q:=qh (Up W.out);simp only[jz,lA,mV];have K:(pL 0 D p B).toArray=#[.int .i64 0,.slice D p B]:=rfl
  go_upto_region 4 with(refine Aa (vs:=pL 0 D p B) rfl rfl rfl rfl rfl AJ U rfl (AT _ _ _ _) ?_;intro V v z)
  have d:Ext N V:=((Ext.refl N).alloc _).grownR z (lrf _);have a:=P.ext d;have i:=G.trans d;clear U z K
  go_upto_region 5 with(fail)
  go_wp2_with(have L:=a;clear a;refine Aa (vs:=pL 0 none 0 0) rfl rfl rfl rfl rfl AJ L rfl (AT _ _ _ _) ?_;intro H f g)
  exact gF (Ao rfl AJ rfl rfl f) rfl (C7.no q.out (i.grownR g (by omega)))
 | some l =>
  simp only[jr,li,gP]at J |-;have K:(pL vars D p B).toArray=#[.int .i64 vars,.slice D p B]:=rfl
  go_upto_region 4 with(refine Aa (vs:=pL vars D p B) rfl rfl rfl rfl rfl AJ U rfl (AT _ _ _ _) ?_;intro V v z)
  have d:Ext N V:=((Ext.refl N).alloc _).grownR z (lrf _);have a:=P.ext d;have i:=G.trans d;have C:=qh (J.ext d);obtain⟨Y,Q⟩:∃ x,N.heap.size=x:=⟨_,rfl⟩;rw[Q]at v |-;have z0:=v.c 0 rfl;have z1:=v.c 1 rfl;clear U z K v Q J
  have F:Hid (rdR vars ts=some l->∀ H,V.grownBy H (some (w.heap.size+1))->C7 wA.heap.size w vars (rdR vars ts) (.returned (.tuple #[.agg (pL vars D p B).toArray,.bool true])) H):=qh (fun hr H hg=>by
   rw[hr]
   exact⟨D,p,B,rfl,i.grownR hg (by omega),(C.out.keptA a (by decide) (by decide) (by decide) (by have:=hA.size;omega) hg).mono y.size⟩)
  by_cases h0:0<p
  case neg =>
   have Z:¬ (0:Int)<p:=by omega
   have X:=qh (VZ W.out (by have:=C.out.sl.len;omega));clear h0
   go_upto_region 6 with(fail)
   go_wp2_with(have L:=a;clear a;refine Aa (vs:=pL vars D p B) rfl rfl rfl rfl rfl AJ L rfl (AT _ _ _ _) ?_;intro H f g)
   refine gF (Ao rfl AJ rfl rfl f) rfl ?_;exact F.out X.out _ g
  have Z:(0:Int)<p:=by omega
  obtain⟨b,a4,a0,s,a2,n2,c2,b2,m2,d2,e2,k2,f2,-,-,-,-,g4,-,-,-,S⟩:=C.out.sl.at h0;subst a0;have E:=qh (IT S.1);have T:=qh (Uq W.out (by have:=C.out.sl.len;omega) (by rw[HL.out];exact hn));rw[jg,iO]at g4;clear S h0;cases m:A3 (l.getD 0 tz).1 with
  | false =>
   have q:Hid (rdR vars ts=none):=by have:=T.out;rw[m]at this;exact qh this
   rw[m]at E;clear m T
   go_wp2_with fail
   refine E.out.mono ?_;rintro e w5 ⟨rfl,rfl⟩
   go_upto_region 5 with(fail)
   go_wp2_with(have L:=a;clear a;refine Aa (vs:=pL 0 none 0 0) rfl rfl rfl rfl rfl AJ L rfl (AT _ _ _ _) ?_;intro H f g)
   exact gF (Ao rfl AJ rfl rfl f) rfl (C7.no q.out (i.grownR g (by omega)))
  | true =>
   have X:Hid (rdR vars ts=some l):=by have:=T.out;rw[m]at this;exact qh this
   rw[m]at E;clear m T
   go_wp2_with fail
   refine E.out.mono ?_;rintro e w5 ⟨rfl,rfl⟩
   go_upto_region 6 with(fail)
   go_wp2_with(have L:=a;clear a;refine Aa (vs:=pL vars (some ⟨b,a4,none⟩) p B) rfl rfl rfl rfl rfl AJ L rfl (AT _ _ _ _) ?_;intro H f g)
   refine gF (Ao rfl AJ rfl rfl f) rfl ?_;exact F.out X.out _ g
theorem DC{a:Nat}(h:a<b):P2 a<P2 b:=Nat.pow_lt_pow_right (by omega) h
structure Bd(v:Int)(N d y:Nat)(l:List Pl.Tm):Prop where
 pv:Pv v l
 lo:Lo l
 len:l.length<=N
 sb:∃ D,0<D/\D<P2 d/\Pl.SB D (P2 y) l
section
variable {v:Int} {N M d e y z:Nat} {la lb:List Pl.Tm} {ts:List Tx}
theorem Bd.of{nt k B:Nat}(h:rdP v ts=some la)(a:Av ts nt k)(c:3<=k)(b:10^k<=P2 B):Bd v nt (4*(k-2)*nt+1) (B+(4*(k-2)*nt+1)) la :=
 ⟨Pv.of h,A5 h,by rw[BH h];exact a.1,T8 h a c b⟩
theorem Lo.of{l:List Pl.Tm}(h:rdP v ts=some l):Lo l:=A5 h
theorem Bd.prod{k:Nat}(a:Bd v N d y la)(b:Bd v M e z lb)(h:rdP v ts=some (cnP (Pl.prodT la lb)))(j:N*M<=P2 k):Bd v (N*M) (d+e) (k+(y+z)) (cnP (Pl.prodT la lb)):=by
 have h6:∀ t∈Pl.prodT la lb,t.1.length=6:=fun t l=>(EI a.pv.inv b.pv.inv t l).1;have c:(Pl.prodT la lb).length<=N*M:=by rw[Dg];exact j5 a.len b.len
 obtain⟨D,h1,h2,h3⟩:=a.sb;obtain⟨E,f,g,i⟩:=b.sb;refine⟨a.pv.prod b.pv,A5 h,gJ (Jr h6) c,D*E,m6 h1 f,BJ h2 g,(SB.cn h6 (h3.prod i)).mono ?_⟩;rw[Bw k,Bw y];exact gH _ (gJ c j)
theorem Bd.app1(f:Bd v N d y la)(g:Bd v M e z lb)(h1:y+e<m)(h2:z+d<m):(la ++ lb).length<=N+M/\∃ D,0<D/\D<P2 (d+e)/\Pl.SB D (P2 m) (la ++ lb):=by
 obtain⟨D,i,b,j⟩:=f.sb;obtain⟨E,k,c,l⟩:=g.sb;refine⟨by have:=f.len;have:=g.len;rw[iD];omega,D*E,m6 i k,BJ b c,(j.app2 l).mono ?_⟩;have n:P2 y*E<=P2 (m-1):=by
  refine gJ ?_ (Hq (a:=y+e) (by omega));rw[Bw];exact iB _ (ko c)
 have o:P2 z*D<=P2 (m-1):=by
  refine gJ ?_ (Hq (a:=z+d) (by omega));rw[Bw];exact iB _ (ko b)
 have p:P2 m=P2 (m-1)*2:=by
  conv=>lhs;rw[show m=m-1+1 by omega,Bw]
  rfl
 omega
theorem Bd.app{k m:Nat}(a:Bd v N d y la)(b:Bd v M e z lb)(h:rdP v ts=some (cnP (la ++ lb)))(h1:y+e<m)(h2:z+d<m)(j:N+M<=P2 k):Bd v (N+M) (d+e) (k+m) (cnP (la ++ lb)):=by
 have h6:∀ t∈la ++ lb,t.1.length=6:=fun t l=>(Na a.pv.inv b.pv.inv t l).1;obtain⟨c,D,f,g,i⟩:=a.app1 b h1 h2;refine⟨a.pv.app b.pv,A5 h,gJ (Jr h6) c,D,f,g,(SB.cn h6 i).mono ?_⟩;rw[Bw];exact gH _ (gJ c j)
theorem Bd.mul(a:Bd v N d y la)(c:Bd v M e z lb)(n:N*M<=P2 k)(h1:d<=256/\e<=256)(h2:y<1000/\z<1000)(h3:N<=1000/\M<=1000)(h4:k+(y+z)<1920):CF la lb:=by
 obtain⟨D,f,g,i⟩:=a.sb;obtain⟨E,j,l,m⟩:=c.sb;refine T6 (b:=1920) i m f j (Af g h1.1) (Af l h1.2) (DC h2.1) (DC h2.2) a.lo c.lo (by have:=a.len;omega) (by have:=c.len;omega) ?_ (by omega) (by omega);refine gN ?_ (DC h4);rw[Bw k,Bw y];exact gH _ (gJ (j5 a.len c.len) n)
theorem Bd.sum(a:Bd v N d y la)(c:Bd v M e z lb)(h1:y+e<m)(h2:z+d<m)(j:N+M<=P2 k)(h3:N+M<=1000)(h4:k+m<1920)(h5:d+e<=1920):EH (la ++ lb):=by
 obtain⟨l,D,f,g,i⟩:=a.app1 c h1 h2;refine T7 (b:=1920) i f (Af g h5) ?_ (by omega) (fun t n=>(iw.1 n).elim (a.lo t) (c.lo t)) (by omega);refine gN ?_ (DC h4);rw[Bw];exact gH _ (gJ l j)
theorem Bd.text(f:Bd v N d y la)(h:rdP v ts=some la)(h1:d<=840)(h2:y<840):∀ t∈ts,t.1.length<=570:=by
 intro t a;obtain⟨D,b,c,e⟩:=f.sb;have i:=Ra h;rw[<-i]at a;obtain⟨m,g,rfl⟩:=ie.1 a;have:=VJ ((e m g).rb b (Af c h1) (DC h2));show(txt m.2).length<=570;omega
end
structure Bx where
 g:Nat
 v:Int
 a:Option Addr
 n:Nat
 c:Nat
 ts:List Tx
def PBx(w0 w:World)(l:List Bx):Prop:=Ext w0 w/\∀ p∈l,Arr w p.g 28 (Ah p.v p.a p.n p.c)/\AH w p.a p.n p.c p.ts
section
variable {w0 w w1 w':World} {l:List Bx} {i:Nat}
theorem PBx.e(h:PBx w0 w l):Ext w0 w:=h.1
theorem PBx.at{v:Int}{c:Nat}{ts:List Tx}(h:PBx w0 w l)(hi:l[i]?=some ⟨g,v,a,n,c,ts⟩):Arr w g 28 (Ah v a n c)/\AH w a n c ts:=h.2 _ (im hi)
theorem PBx.c{g:Nat}{v:Int}{a:Option Addr}{n c:Nat}{ts:List Tx}(h:PBx w0 w l)(hi:l[i]?=some ⟨g,v,a,n,c,ts⟩):w.cell? ⟨g,0,none⟩=some (.int .i64 v)/\w.cell? ⟨g,1,none⟩=some (.slice a n c) :=
 ⟨(h.at hi).1.cell (i:=0) (by simp[Ah]),(h.at hi).1.cell (i:=1) (by simp[Ah])⟩
theorem PBx.t{v:Int}{c:Nat}{ts:List Tx}(h:PBx w0 w l)(hi:l[i]?=some ⟨g,v,a,n,c,ts⟩):AH w a n c ts:=(h.at hi).2
theorem PBx.ext(h:PBx w0 w l)(e:Ext w w'):PBx w0 w' l:=⟨h.1.trans e,fun p hp=>⟨(h.2 p hp).1.ext e,(h.2 p hp).2.ext e⟩⟩
theorem PBx.one{v:Int}{c:Nat}{ts:List Tx}(b:Ext w0 w)(d:Arr w g 28 (Ah v a n c))(e:AH w0 a n c ts):PBx w0 w [⟨g,v,a,n,c,ts⟩] :=
 ⟨b,fun p hp=>by rw[gL.1 hp];exact⟨d,e.ext b⟩⟩
theorem PBx.app{a:List Bx}(h:PBx w0 w l)(b:PBx w0 w a):PBx w0 w (l ++ a):=⟨h.1,fun p hp=>(iw.1 hp).elim (h.2 p) (b.2 p)⟩
theorem PBx.new{v:Int}{c:Nat}{ts:List Tx}{o:Obj}(h:PBx w0 w l)(d:Ext w w1)(e:AH w1 a n c ts)(b:Arr w' w1.heap.size 28 (Ah v a n c))(f:(w1.alloc o).grownBy w' (some w1.heap.size)):PBx w0 w' (l ++ [⟨w1.heap.size,v,a,n,c,ts⟩]):=by
 have hF:Ext w1 w':=((Ext.refl w1).alloc _).grownR f (lrf _);have h1:=h.ext (d.trans hF);refine⟨h1.1,fun p hp => ?_⟩;rcases iw.1 hp with hp|hp
 · exact h1.2 p hp
 · rw[gL.1 hp];exact⟨b,e.ext hF⟩
end
def Jz(w:World)(e:Ending)(w':World):Prop:=e = .returned (.bool true)/\Ext w w'
def Jc(w0:World)(v:Int)(ts:List Tx)(err:Int)(e:Ending)(w':World):Prop:=∃ a n c,e = .returned (.tuple #[.agg #[.int .i64 v,.slice a n c],.int .i64 err])/\Ext w0 w'/\AH w' a n c ts
theorem Cl.v{w0:World}{v:Int}{ts:List Tx}{b:Int}{e:Ending}{d:World}(h:Cl w0 v ts b e d):Jc w0 v ts b e d:=by
 obtain⟨a,n,c,h1,h2,h3⟩:=h;exact⟨a,n,c,h1,h2,h3.sl⟩
theorem AU{ts:List Tx}{l:List Pl.Tm}(h:rdR va ts=some l):l=ts.map rdU/\ts.length<=4096/\0<=va/\va<=6/\okT va ts ts.length:=by
 unfold rdR at h;split at h
 · rename_i h1;have h2:=Qj h;unfold rdN at h;split at h
   · rename_i h3;exact⟨h2,h1.1,h3⟩
   · cases h
 · cases h
theorem BQ(va:Int)(ts:List Tx):(rdR va ts).isSome=(rdP va ts).isSome:=by
 unfold rdR rdP rdN rdWF;by_cases h1:ts.length<=4096/\∀ t r,ts=t :: r->A3 t.2=true
 · rw[gY h1,gY h1];by_cases h2:0<=va/\va<=6/\okT va ts ts.length
   · rw[gY h2,gY h2];rfl
   · rw[gT h2,gT h2]
 · rw[gT h1,gT h1]
theorem FT(va:Int)(ts:List Tx):rdP va ts=(rdR va ts).map AC:=by
 have h:=BQ va ts;cases a:rdR va ts with
 | none =>
  rw[a]at h;cases hp:rdP va ts with
  | none=>rfl
  | some l=>rw[hp]at h;cases h
 | some l =>
  rw[a]at h;cases hp:rdP va ts with
  | none=>rw[hp]at h;cases h
  | some l' =>
   rw[(Rv hp).1,(AU a).1];rfl
theorem Dk{ts:List Tx}{l:List Pl.Tm}(h:rdR va ts=some l):Pl.Canon va.toNat l:=by
 have h1:rdP va ts=some (AC l):=by rw[FT,h];rfl
 have h2:=(Rv h1).2
 rwa[<-(AU h).1]at h2
theorem Et{ts:List Tx}{l:List Pl.Tm}(h:rdR va ts=some l)(e:∀ t∈ts,t.1.length<=k):∀ t∈l,Pl.RB (4*k) t.2:=fun t c=>by
 rw[(AU h).1]at c;obtain⟨s,a,rfl⟩:=ie.1 c;have h1:=AU h;obtain⟨i,b,he⟩:=kP a;have h2:=h1.2.2.2.2.1 i b;rw[gqq,gD b,gP,he]at h2;obtain⟨m,d⟩:=iY.1 h2;have h3:=(Bm d).1;have h4:(rdU s).2=m.2:=by unfold rdU;rw[h3];rfl
 rw[h4];refine Ko ?_;rw[<-Cp h3];exact e s a
end Go.Proofs.YtlbmnokpiilfpaaGreatDoor
namespace Go.Proofs.YtlbmnokpiilfpaaGreatDoor
open Tryz Go Go.RowKit Go.ChangeShapes Go.WideShapes Go.ChangeAt
variable {x y:Addr} {held:Bool} {zs:List Int} {cs:List Value} {base cap fuel k len:Nat} {a:Option Addr} {v:Value} {w:World}
theorem Mn(h:w.cell? x=some v):x.spot=none:=by
 unfold World.cell? at h;split at h
 · cases a:x.spot with
   | none=>rfl
   | some s=>rw[a]at h;simp at h
 · cases h
theorem KQ{b a i:Nat}:Addr.add ⟨b,a,none⟩ i=⟨b,a+i,none⟩:=by
 unfold Addr.add;split
 · next h=>subst h;rfl
 · rfl
theorem Rw 
 (h:(a=none/\len=0/\cap=0/\zs=[])\/∃ x,a=some x/\len<=cap/\cap<=maxLen/\zs.length=cap/\(∀ i,i<zs.length->w.cell? (x.add i)=some (.int .i64 (zs.getD i 0)))) :
 SlI w a len cap (zs.take len):=by
 rcases h with⟨rfl,rfl,rfl,rfl⟩|⟨x,rfl,h1,h2,h3,h4⟩
 · exact Sl.nil w
 · refine⟨by simp;omega,h1,h2,fun g => ?_⟩;have h0:=h4 0 (by omega);have e:x.spot=none:=Mn (x:=x) (by simpa[Addr.add]using h0);obtain⟨b,d,j⟩:=x;simp only at e;subst e;refine⟨b,d,rfl,fun i f => ?_⟩;have:=h4 i (by omega);rw[KQ]at this;rw[this];have c:i<zs.length:=by omega
   simp[f,c]
theorem KR{Q:Nat->List Value->Tx->Prop}:∀ n:Nat,(∀ i,i<n->∃ r t,Q i r t)->∃ (a:List (List Value)) (b:List Tx),a.length=n/\b.length=n/\∀ i,i<n->Q i (a.getD i []) (b.getD i tm0)
 | 0,_=>⟨[],[],rfl,rfl,fun i c=>absurd c (by omega)⟩
 | n+1,h=>by
  obtain⟨a,b,h1,h2,h3⟩:=KR n (fun i c=>h i (by omega));obtain⟨r,t,h4⟩:=h n (by omega);refine⟨a ++ [r],b ++ [t],by simp[h1],by simp[h2],fun i c => ?_⟩;by_cases e:i=n
  · subst e;have d:(a ++ [r]).getD i []=r:=by rw[gqq,iu (by omega),h1,ju];rfl
    have f:(b ++ [t]).getD i tm0=t:=by rw[gqq,iu (by omega),h2,ju];rfl
    rw[d,f];exact h4
  · rw[gqq,gZ (by omega),<-gqq,gqq (l:=b ++ [t]),gZ (by omega),<-gqq];exact h3 i (by omega)
theorem Ur(h:w.cells? base y k=some cs):cs.length=k/\∀ j,j<k->∃ v,cs[j]?=some v/\w.cell? (y.add j)=some v:=by
 unfold World.cells? at h;split at h
 · refine⟨by have:=Lib.mapM_length h;simpa using this,fun j a => ?_⟩;obtain⟨b,h1,h2⟩:=Lib.mapM_at h j j (by simp[a]);exact⟨b,h1,h2⟩
 · cases h
theorem Qk:prog.cellsOf 26=2:=by kernel_rfl
theorem SH:prog.cellsOf 9=1:=by kernel_rfl
theorem Mo:prog.cellsOf 3=1:=by kernel_rfl
theorem Ql:prog.cellsOf 24=1:=by kernel_rfl
theorem OU:prog.cellsOf 22=1:=by kernel_rfl
theorem KS{H:Type}{enc:TypeId×Value->H}{x:DataW H×List MemPlace}
 (h:DataW.trod enc prog w base (fun _=>true) held fuel 24 cs=some x):∃ a n c j,cs=[.slice a n c]/\SlI w a n c j:=by
 rcases open_ints underlying24 underlying3 Mo h with⟨d,_⟩|⟨y,l,c,zs,d,_,e,f,i,_,b,g⟩
 · exact⟨none,0,0,_,d,Rw (zs:=[]) (.inl ⟨rfl,rfl,rfl,rfl⟩)⟩
 · exact⟨_,_,_,_,d,Rw (zs:=zs) (.inr ⟨_,rfl,e,f,by simpa using i,b⟩)⟩
theorem Qm{H:Type}{enc:TypeId×Value->H}{x:DataW H×List MemPlace}
 (h:DataW.trod enc prog w base (fun _=>true) held fuel 22 cs=some x):∃ a n c J,cs=[.slice a n c]/\AH w a n c J:=by
 rcases DataW.trod_slice underlying22 h with⟨g,_⟩|⟨y,l,B,C,N,T,_,g,_,U,O,P,L,p,_,_⟩
 · exact⟨none,0,0,[],g,[],SlK.nil w 2,rfl,fun i d=>absurd d (by omega)⟩
 · rw[Qk]at p;have F:∀ i,i<l->∃ (r:List Value) (t:Tx),r.length=2/\Sh w r t/\∀ j,j<2->w.cell? ((y.add (i*2)).add j)=some (r.getD j undef):=by
    intro i d;have h1:=p i d;rw[gD (by omega),Option.bind_eq_some_iff]at h1;obtain⟨e,h2,h3⟩:=h1;obtain⟨D,f⟩:=Ur h2;obtain⟨W,X,k,_,_,u0,u1⟩:=trod_struct2 underlying26 h3;obtain⟨s,e0,_,_⟩:=DataW.trod_string underlying9 u0;obtain⟨z,G,A,S,K,R⟩:=KS u1;have m:(e.drop 0).take (prog.cellsOf 9)=[.string s]:=e0;have o:(e.drop 1).take (prog.cellsOf 24)=[.slice z G A]:=K;rw[SH]at m;rw[Ql]at o;clear e0 K u0 u1 h3
    match e,D,m,o with
    | [v0,v1],_,m,o =>
     simp only[ji,lg,oB,jw,lh,jp]at m o;subst m;subst o;refine⟨[.string s,.slice z G A],(An s,S),rfl,⟨s,z,G,A,rfl,rfl,R⟩,fun j E => ?_⟩;obtain⟨v,h4,h5⟩:=f j E;rw[h5,gqq,h4];rfl
   obtain⟨q,J,h1,h2,h3⟩:=KR l F;refine⟨some y,l,B,J,g,q,⟨h1,O,P,fun r Q => ?_,fun h0 => ?_⟩,h2,fun i d=>(h3 i d).2.1⟩
   · obtain⟨i,d,rfl⟩:=jX.1 Q;have:=(h3 i (by omega)).1;simpa[d]using this
   · have M:y.spot=none:=by
      have h4:=(h3 0 h0).2.2 0 (by omega);have h5:=Mn h4;simpa[Addr.add]using h5
     obtain⟨b,I,V⟩:=y;simp only at M;subst M;refine⟨b,I,rfl,fun i d j E => ?_⟩;have h4:=(h3 i d).2.2 j E
     rwa[KQ,KQ]at h4
theorem Dl{H:Type}{enc:TypeId×Value->H}{x:DataW H×List MemPlace}
 (h:DataW.trod enc prog w base (fun _=>true) held fuel 28 cs=some x):∃ b a n c i,cs=[.int .i64 b,.slice a n c]/\(-9223372036854775808<=b/\b<=9223372036854775807)/\AH w a n c i:=by
 obtain⟨p,q,k,_,l,u0,u1⟩:=trod_struct2 underlying28 h;obtain⟨b,e0,_,f⟩:=DataW.trod_int underlying3 u0;have g : -9223372036854775808<=b/\b<=9223372036854775807:=by
  simp only[Lit.wf,jn,jV]at f;exact f
 obtain⟨a,n,c,i,j,o⟩:=Qm u1;have m:prog.cellsOf 28=2:=by kernel_rfl
 rw[m]at l;have d:(cs.drop 0).take (prog.cellsOf 3)=[.int .i64 b]:=e0;have e:(cs.drop 1).take (prog.cellsOf 22)=[.slice a n c]:=j;rw[Mo]at d;rw[OU]at e;clear e0 j u0 u1 h
 match cs,l,d,e with
 | [v0,v1],_,d,e =>
  simp only[ji,lg,oB,jw,lh,jp]at d e;subst d;subst e;exact⟨b,a,n,c,i,rfl,g,o⟩
end Go.Proofs.YtlbmnokpiilfpaaGreatDoor
