/- Part Gs16. -/
import Derived.Test.YthdbingomfdeoaaGreatDoorGs15
import Derived.Deep.QuietTactic
import Derived.BigQuiet
set_option linter.all false
set_option maxRecDepth 100000
set_option maxHeartbeats 100000000
namespace Go.Proofs.YthdbingomfdeoaaGreatDoor
open Tryz Go Go.RowKit
variable {V:List (List Int)} {xs:List Int} {fs:List Nat} {cs cs':List Value} {U b b' base c cx fp g h j n nx q r u y0 y1:Nat} {a a' x:Option Addr} {row:Option Nat} {e e' t t':TypeId} {w w' w0:World}
def EH(w:World)(fp n:Nat)(L:List PLs):Prop:=∃ base M ps a c rB fm,Ft w base fp n M ps a c rB fm/\CU L M
theorem EH.ext{w f:World}{d n:Nat}{L:List PLs}(h:EH w d n L)(e:Ext w f):EH f d n L:=by
 obtain⟨b,M,i,a,c,j,g,h1,h2⟩:=h;exact⟨b,M,i,a,c,j,g,h1.ext e,h2⟩
open Classical in
noncomputable def KpB (xs:List Int) (L:List PLs):Bool:=decide (Kep xs L)
theorem WG{L:List PLs}{M:FMs}(h:CU L M):kpB xs M=KpB xs L:=by
 classical
 unfold kpB KpB;refine jJ.2 ?_;rw[h.kept]
 have c:∀ {i:Nat},i<M.length->M.getD i fz∈M:=fun {i} a=>by
  rw[gqq,eZ a];exact fE _
 constructor
 · intro H p hp;obtain⟨i,a,rfl⟩:=gK hp;obtain⟨j,b,h1,h2⟩:=H i a;have e:M.getD i fz=M[i]:=by simp[a]
   rw[e]at h1 h2;exact⟨_,c b,h1,h2⟩
 · intro H i a;obtain⟨q,d,h1,h2⟩:=H _ (c a);obtain⟨j,b,rfl⟩:=gK d;have e:M.getD j fz=M[j]:=by simp[b]
   exact⟨j,b,by rw[e];exact h1,by rw[e];exact h2⟩
theorem Od{L:List PLs}(h:EH w fp n L)(f:SlI w x nx cx xs)(hp:Af xs=true)(d:xs.length=n) :
 Calls prog 25 #[.pointer (some ⟨fp,0,none⟩),.slice x nx cx] w fun e g=>e = .returned (.bool (KpB xs L))/\Ext w g:=by
 obtain⟨b,M,j,a,c,k,i,h1,h2⟩:=h;rw[<-WG h2];exact Po h1 h2.nodup f hp d
theorem RH{a:List (List PLs)}(b:j<a.length):a.getD j []∈a:=by
 rw[gqq,eZ b];exact fE _
theorem Oe{j c':Nat}(h:Own w b e a n c cs)(d:Own w b' e' a' j c' cs')(i:e≠e'):blk a=none\/blk a≠blk a':=by
 cases f:blk a' with
 | none=>cases h1:blk a with | none=>exact .inl rfl | some g=>exact .inr (by simp)
 | some g =>
  obtain⟨cs',k,h1⟩:=EG d f;exact AK h h1 i
theorem BF.mono{w:World}{base b:Nat}{a:Option Addr}{n c:Nat}{xs:List Int}(h:BF w base a n c xs)(d:b<=base):BF w b a n c xs:=Own.mono h d
def Lb(w0:World)(n:Nat)(Ls:List (List PLs))(kB gB:Nat)(V:List (List Int))(w:World):Prop :=
 ∃ r L gs ag ng cg gc,Ext w0 w/\Arr w kB 53 [.map (some r)]/\Arr w gB 29 [.slice ag ng cg]/\AB w r (B1 L)/\L.Nodup/\(∀ p,p∈L<->Bq gs n p)/\Own w w0.heap.size 35 ag ng cg gc/\QEl w w0.heap.size gc gs/\ng=gs.length/\VI n Ls V gs/\gs.Nodup
theorem Lb.ext{w0 w b:World}{n:Nat}{a:List (List PLs)}{kB gB:Nat}{V:List (List Int)}(h:Lb w0 n a kB gB V w)(e:Ext w b):Lb w0 n a kB gB V b:=by
 obtain⟨r,L,g,c,i,d,f,h1,h2,h3,h4,h5,h6,h7,h8,h9,h10,h11⟩:=h;exact⟨r,L,g,c,i,d,f,h1.trans e,h2.ext e,h3.ext e,h4.ext e,h5,h6,h7.ext e,h8.ext e,h9,h10,h11⟩
theorem RI{kB fB gB nB sB:Nat}{E:List (List PLs)}(hn:n<=6)(bo:w0.heap.size<=kB)(bn:w0.heap.size<=gB)
 (bc:Arr w0 fB 52 [.slice (some ⟨sB,0,none⟩) 3 3]) (bd:∀ i,i<3->w0.cell? ⟨sB,i,none⟩=some (.pointer (some ⟨fs.getD i 0,0,none⟩))) (aT:∀ i,i<3->EH w0 (fs.getD i 0) n (E.getD i [])) (h3:E.length=3) (bg:Arr w0 nB 3 [.int .i64 n])
 (hV:Lb w0 n E kB gB V w) (U:BF w base a n c xs) (hp:Af xs=true) :
 Calls prog 23 #[.slice a n c,.pointer (some ⟨kB,0,none⟩),.pointer (some ⟨fB,0,none⟩),.pointer (some ⟨gB,0,none⟩),.pointer (some ⟨nB,0,none⟩)] w fun e w'=>e = .returned (.tuple #[])/\Lb w0 n E kB gB (V ++ [xs]) w'/\KI w w':=by
 classical
 obtain⟨r,L,gs,ag,I,cg,gc,ah,hK,hG,hM,aW,am,aj,aY,aX,an,aU⟩:=hV;have ao:=U.sl.len;have bh:(Ab xs).length=6:=AA (by omega);have aM:∀ x∈L,x.length=n:=fun x hx=>(Bi hn an.perms ((am x).1 hx)).2;have be:=IA aM ao;have k0:=hK.c 0 rfl;have f0:=bc.c 0 rfl;have n0:=bg.c 0 rfl;have aG:=qh aW;have Z:=qh am;have aa:=qh aY;have J:=qh aX;have H:=qh an;have Y:=qh aU;have HP:=qh hp;have ad:=qh ao;have b6:=qh aT;have aF:=qh h3;clear aW am aY aX an aU hp aT h3 aM ao
 go_enter func23,ntmps23
 go_upto_region 0 with(fail)
 refine Ad
  [he (.map (some r)),hdS a n c,hp (fun v G=>v=Bg (Ab xs)),hdB (decide (xs∈L))]
  ⟨fun _ _ _ _ h=>h,trivial⟩ ⟨?o0,?o1,?o2,?o3,trivial⟩ ?fin
 case o0=>exact ol
 case o1=>exact omv
 case o2 =>
  refine Ai rfl fun ρ G y aB aR h => ?_;have e1:_=_:=h.2.1;refine⟨24,#[.slice a n c],by go_simp,(Cl (U.sl.ext y) hn).mono ?_⟩;rintro e w' ⟨rfl,ae⟩;exact⟨_,rfl,ae,rfl⟩
 case o3 =>
  exact olk (k:=Ab xs) rfl rfl (fun _ _=>id) (fun _ _ h=>by obtain⟨v0,e0,rfl⟩:=h;exact e0) Cz Ba El hM bh be
 case fin =>
  intro G y;rintro _ rfl;change wpList _ _ _ _ _ _;simp only[CB];cases a5:decide (xs∈L)with
  | true =>
   have b7:Hid (VI n E (V ++ [xs]) gs):=qh (H.out.known ((Z.out xs).1 (gX a5)));have ab:Hid (Lb w0 n E kB gB (V ++ [xs]) G):=qh ⟨r,L,gs,ag,I,cg,gc,ah.trans y,hK.ext y,hG.ext y,hM.ext y,aG.out,Z.out,aj.ext y,aa.out.ext y,J.out,b7.out,Y.out⟩;have ai:=y.ki;clear a5;go_wp2
   (first | go_end0 | (simp only[Exit.inBlock,Exit.then];refine fh (results_none rfl _ _ _) rfl ?_) | refine fh (results_none rfl _ _ _) rfl ?_)
   exact⟨rfl,ab.out,ai⟩
  | false =>
   have aH:Hid (¬ Bq gs n xs):=qh fun h=>of_decide_eq_false a5 ((Z.out xs).2 h);clear a5;have aJ:=ah.trans y;have s0:=aJ.cell f0;go_wp2
   go_loopw[14] (fun iv wr=>∃ k:Nat,iv = .int .i64 k/\k<=3/\Ext G wr/\Hid (∀ i,i<k->Kep xs (E.getD i []))) (fun iv _=>3-(intOf iv).toNat)
   case atStart=>exact⟨0,rfl,by omega,Ext.refl _,qh (fun i hi=>absurd hi (by omega))⟩
   case round =>
    obtain⟨k,rfl,hk,af,HI⟩:=hrel;have a1:=aJ.trans af;have s:=y.trans af;by_cases al:k<3
    case pos =>
     have gk:=a1.cell (bd k al);obtain⟨fp,aS⟩:∃ p,fs.getD k 0=p:=⟨_,rfl⟩;have ak:=qh (Od ((b6.out k al).ext a1) (U.sl.ext s) HP.out ad.out);rw[aS]at gk ak;clear aS
     go_wp2_with fail
     refine ak.out.mono ?_;rintro e w4 ⟨rfl,aI⟩;clear ak gk;have C:=s.trans aI;cases a6:KpB xs (E.getD k [])with
     | false =>
      have aZ:Hid (VI n E (V ++ [xs]) gs):=qh (H.out.out fun hA=>of_decide_eq_false a6 (hA.2.2 _ (RH (by rw[aF.out];exact al))));have ab:Hid (Lb w0 n E kB gB (V ++ [xs]) w4):=qh ⟨r,L,gs,ag,I,cg,gc,ah.trans C,hK.ext C,hG.ext C,hM.ext C,aG.out,Z.out,aj.ext C,aa.out.ext C,J.out,aZ.out,Y.out⟩;have ai:=C.ki;clear a6 HI;go_wp2
      (first | go_end0 | (simp only[Exit.inBlock,Exit.then];refine fh (results_none rfl _ _ _) rfl ?_) | refine fh (results_none rfl _ _ _) rfl ?_)
      exact⟨rfl,ab.out,ai⟩
     | true =>
      have HN:Hid (∀ i,i<k+1->Kep xs (E.getD i [])):=qh fun i hi=>by
       by_cases h:i<k
       · exact HI.out i h
       · have:i=k:=by omega
         subst this;exact gX a6
      clear a6 HI;go_wp2;go_roundw
      case rel=>exact⟨k+1,by go_num,by omega,af.trans aI,HN⟩
      case measure=>simp[intOf];omega
    case neg =>
     have aE:Hid (Aut n E xs):=qh ⟨HP.out,ad.out,fun M hM=>by
      obtain⟨i,hi,rfl⟩:=gK hM;have h1:=HI.out i (by have:=aF.out;omega)
      simpa[hi]using h1⟩
     clear HI;have Q:=hK.ext s;have a2:=hG.ext s;have ax:=aj.ext s;have au:=qh (aa.out.ext s);have b0:=a2.c 0 rfl;have aA:=qh (fun(wy:World) (hy:Ext wr wy)=>EN ((U.sl.ext s).ext hy) (by omega) (U.nilc));have bj:I<=720:=by rw[J.out];exact CM hn H.out.perms Y.out (fun g z=>⟨[g],by simpa using z,by show g=comp g (idn n);rw[<-(H.out.gens g z).2.1,Cx]⟩)
     go_upto_region 6 with(fail)
     refine Ad
      [hdS ag I cg,hdS a n c,hp (fun v G=>∃ K N,v = .slice K n N/\BF G wr.heap.size K n N xs),hp (fun v G=>∃ K N,ME G v 35 [.slice K n N]/\BF G wr.heap.size K n N xs)]
      ⟨fun v w w' e ⟨K,N,h1,h2⟩=>⟨K,N,h1,h2.ext e⟩,fun v w w' e ⟨K,N,h1,h2⟩=>⟨K,N,ME.x _ _ _ _ _ e h1,h2.ext e⟩,trivial⟩ ⟨?o0,?o1,?o2,?o3,trivial⟩ ?fin
     case o0=>exact ol
     case o1=>exact omv
     case o2 =>
      refine Ai rfl fun ρ G y aB aR h => ?_;have e1:_=_:=h.2.1;refine⟨26,#[.slice a n c],by go_simp,((aA.out G y)).mono ?_⟩;rintro e w' ⟨K,n4,N,rfl,ae,aO⟩;have bf:n4=n:=by have h1:=aO.sl.len;have h2:=ad.out;omega
      subst bf;exact⟨_,rfl,ae,K,N,rfl,aO.mono y.size⟩
     case o3 =>
      refine Bj rfl ?_;intro ρ G hp y h;have aB:=hp.const;have aR:=hp.func;obtain⟨v0,e0,a0,c0,rfl,i0⟩:=h.1;have bq:=y.cell b0;exact⟨.slice (some ⟨G.heap.size,0,none⟩) 1 1,G.alloc (.cells #[.slice a0 n c0] 35),by go_simp,(Ext.refl _).alloc _,_,_,⟨_,rfl,Arr.new _ _ _⟩,i0.ext ((Ext.refl _).alloc _)⟩
     case fin =>
      intro wy q;rintro _ ⟨a8,c8,rfl,bb⟩;rintro _ ⟨a9,c9,aN,aP⟩;change wpList _ _ _ _ _ _;simp only[CB];obtain⟨g9,rfl,aL⟩:=id aN;have f:=ax.ext q;have a3:=a2.ext q;have bk:=q.size;have b3:=a3.c 0 rfl;have b5:=a1.size
      go_upto_region 7 with(refine BS rfl rfl underlying29 Ek rfl rfl f rfl (aL.sl (k:=1) (by simp) (by unfold maxLen;simp)) (by simp[Value.oneCell']) (by unfold maxLen;omega) (by omega) (by omega) ?_;intro A B t S l b2;have j:=a3.kept l (CK f a3 (by decide));have b9:t.cell? ⟨gB,0,none⟩=some (.slice ag I cg):=j.cell (i:=0) (by simp);have b4:=j.frozen 0)
      have az:=fun(cs:Array Value) (fr:Nat×Nat) (g:Nat) (z:blk ag=some g) (e:wy.heap[g]?=some (Obj.cells cs 3 fr))=>(by obtain⟨bl,bm,h1⟩:=EG f z;rw[e]at h1;injection h1 with h3;injection h3 with _ h4;exact absurd h4 (by decide):False);have D:=fun(a0:Option Addr) (n0 c0:Nat) (ap:List Int) (ho:BF wy w0.heap.size a0 n0 c0 ap)=>Oe ho f (by decide);have ay:=(au.out.ext q).kept l D;have T:=(aP.mono b5);have aw:BF t w0.heap.size a9 n c9 xs:=Own.kept T l (D _ _ _ _ T);have X:=ay.snoc (by rw[f.len,J.out]) aw
      have o:=Aj t gB 0 (.slice A (I+1) B);have W:=X.kept o (fun a0 n0 c0 ap ho=>AK ho j (by decide));have F:=Own.kept S o (AK S j (by decide));have P:Arr (t.setCell ⟨gB,0,none⟩ (.slice A (I+1) B)) gB 29 [.slice A (I+1) B]:=j.set 0 _;have O:Ext w0 (t.setCell ⟨gB,0,none⟩ (.slice A (I+1) B)):=((a1.trans q).grown l (fun g z=>(f.lt z).1)).grown o (fun g z=>by have h1:=fD z;omega)
      have av:KI w (t.setCell ⟨gB,0,none⟩ (.slice A (I+1) B)):=((s.trans q).ki.trans (KI.grown l (fun g z cs fr e=>az cs fr g z e))).trans (KI.grown o (fun g z cs fr e=>by have h1:=fD z;rw[<-h1]at e;have h2:t.heap[gB]?=_:=j;rw[e]at h2;injection h2 with h3;injection h3 with _ h4;exact absurd h4 (by decide)));have aV:kB≠gB:=fun e=>by rw[e]at Q;exact absurd (Km Q a2) (by decide)
      have aK:=((Q.ext q).kept l (CK f (Q.ext q) (by decide))).kept o (fun e=>aV (fD e));have ac:Hid (VI n E (V ++ [xs]) (gs ++ [xs])):=qh (H.out.gen aE.out);have aq:Hid ((gs ++ [xs]).Nodup):=qh (by rw[iq];exact⟨Y.out,by simp,fun u hu v hv e=>aH.out ⟨[u],by simpa using hu,by show xs=comp u (idn n);rw[<-(H.out.gens u hu).2.1,Cx,e];exact(fi.1 hv).symm⟩⟩);have ar:Hid (I+1=(gs ++ [xs]).length):=qh (by rw[fo,J.out];rfl)
      clear f a3 b3 S l b2 j b9 b4 az D ay T aw X o aN aL bb aP ax a2 Q aA b0 au aE aH;generalize t.setCell ⟨gB,0,none⟩ (.slice A (I+1) B)=W1 at *
      have n1:=O.cell n0;have b1:=P.c 0 rfl;have aQ:=qh (Cd (MO ar.out F W) hn ac.out.perms)
      go_wp2_with fail
      refine aQ.out.mono ?_;rintro e a7 ⟨r2,L2,rfl,b,_,R,aC,aD⟩;have d:=aK.ext b;have bp:=d.c 0 rfl;have bi:=d.frozen 0;have m:=Aj a7 kB 0 (.map (some r2))
      have b8:Hid (Lb w0 n E kB gB (V ++ [xs]) (a7.setCell ⟨kB,0,none⟩ (.map (some r2)))):=qh ⟨r2,L2,gs ++ [xs],A,I+1,B,_,(O.trans b).grown m (fun g z=>by have h1:=fD z;omega),d.set 0 _,(P.ext b).kept m (fun e=>aV (fD e).symm),R.kept m (fun e=>EF d R (fD e).symm),aC,aD,(F.ext b).kept m (AK (F.ext b) d (by decide)),(W.ext b).kept m (fun a0 n0 c0 ap ho=>AK ho d (by decide)),ar.out,ac.out,aq.out⟩
      have ba:KI w (a7.setCell ⟨kB,0,none⟩ (.map (some r2))):=(av.trans b.ki).trans (KI.grown m (fun g z cs fr e=>by have h1:=fD z;rw[<-h1]at e;have h2:a7.heap[kB]?=_:=d;rw[e]at h2;injection h2 with h3;injection h3 with _ h4;exact absurd h4 (by decide)));clear aQ b R aC aD m W F P O av aK ac aq n1 b1 d;go_wp2
      (first | go_end0 | (simp only[Exit.inBlock,Exit.then];refine fh (results_none rfl _ _ _) rfl ?_) | refine fh (results_none rfl _ _ _) rfl ?_)
      exact⟨rfl,b8.out,ba⟩
structure Est(b y1 U q h r:Nat):Prop where
 eq:h*y1+r=U
 lo:q<=h
 hi:h<=b+1
theorem Est.start(h1:b<=2*y1)(h0:y0<b)(d:U<=y1*b+y0)(a:q*(y1*b+y0)<=U*b+u)(hu:u<b):Est b y1 U q (U/y1) (U%y1):=by
 have c:0<y1:=by omega
 have e:U/y1*y1+U%y1=U:=Nat.div_add_mod' U y1;refine⟨e,W.guess_hi e a hu (gx _ c),?_⟩;rcases fS (b+1) (U/y1)with h|h
 · exfalso;have h2:(b+2)*y1<=U/y1*y1:=fa _ h;have h4:(b+2)*y1=y1*b+2*y1:=by grind
   omega
 · exact h
theorem Est.down(E:Est b y1 U q h r)(d:q*(y1*b+y0)<=U*b+u)(a:q<b)(c:b<=h\/b*r+u<h*y0):0<h/\h-1<=b/\Est b y1 U q (h-1) (r+y1):=by
 have h1:=W.guess_down E.eq d a c;have h2:=E.hi;refine⟨by omega,by omega,?_,by omega,by omega⟩;have h3:=E.eq;obtain⟨k,rfl⟩:∃ k,h=k+1:=⟨h-1,by omega⟩;rw[ip,k8]at h3;rw[jq];omega
theorem Est.done{d D P lo a:Nat}(E:Est b y1 U q h r)(k:h*y0<=b*r+u)(h1:b<=2*y1)(g:2<=b)(f:d=(U*b+u)*P+lo)(e:D=(y1*b+y0)*P+a)(c:a < P)(i:d<(q+1)*D)(j:q<b):h<=q+1:=by
 have h2:h*(y1*b+y0)<=U*b+u:=by
  have h2:h*(y1*b+y0)=h*y1*b+h*y0:=by grind
  have h3:U*b=h*y1*b+r*b:=by rw[<-E.eq];grind
  have h4:b*r=r*b:=fJ _ _;omega
 refine W.digit_lo (by omega) f e c i h2 ?_;have h3:1*b<=y1*b:=fa _ (by omega);omega
def TyS(w:World)(a:Option Addr)(t:TypeId):Prop:=∀ g,blk a=some g->∃ cs fr,w.heap[g]?=some (.cells cs t fr)
theorem TyS.ext(h:TyS w a t)(e:Ext w w'):TyS w' a t:=fun g d=>by
 obtain⟨b,c,h1⟩:=h g d;exact⟨b,c,by rw[e.block (gA.1 h1).1];exact h1⟩
theorem TyS.kept(h:TyS w a t)(f:w.grownBy w' row)(c:blk a=none\/blk a≠row):TyS w' a t:=fun g b=>by
 obtain⟨d,e,h1⟩:=h g b;have i:some g≠row:=by
  rcases c with h2|h2
  · rw[h2]at b;cases b
  · rw[b]at h2;exact h2
 exact⟨d,e,by rw[f.block g (gA.1 h1).1 i];exact h1⟩
theorem TyS.none(w:World)(t:TypeId):TyS w none t:=fun g h=>by cases h
theorem Own.ty(h:Own w base e a n c cs):TyS w a e:=fun k d=>by
 rcases h.2 with⟨b,_⟩|⟨g,f,i,b,l,j,_⟩
 · simp only[fd]at b;rw[b.1]at d;cases d
 · simp only[fd]at b;rw[b.1]at d;have:g=k:=by simpa[blk]using d
   subst this;exact⟨_,_,j⟩
theorem Ay.ty{k:IntKind}{w:World}{base:Nat}{e:TypeId}{g n c:Nat}{xs:List Nat}(h:Ay k w base e g n c xs):TyS w (some ⟨g,0,Option.none⟩) e:=Own.ty h
theorem TyS.ne{cs:Array Value}{c:Nat×Nat}(h:TyS w a t)(e:w.heap[g]?=some (.cells cs t' c))(i:t≠t'):blk a≠some g:=fun f=>by
 obtain⟨b,d,h1⟩:=h g f;rw[e]at h1;simp only[fc,jm]at h1;exact i h1.2.1.symm
def Mg(w:World)(a:Option Addr)(n c:Nat)(x:Nat):Prop:=∃ xs,SlN .u32 w a n c xs/\Num 4294967296 xs x/\TyS w a 187
theorem Mg.ext{w b:World}{a:Option Addr}{n c x:Nat}(h:Mg w a n c x)(e:Ext w b):Mg b a n c x:=by
 obtain⟨d,h1,h2,h3⟩:=h;exact⟨d,h1.ext e,h2,h3.ext e⟩
theorem Mg.kept{w i:World}{a:Option Addr}{n c x:Nat}{row:Option Nat}(h:Mg w a n c x)(f:w.grownBy i row)(j:∀ g,row=some g->∃ d t e,w.heap[g]?=some (.cells d t e)/\187≠t):Mg i a n c x:=by
 obtain⟨k,h1,h2,h3⟩:=h;have b:blk a=none\/blk a≠row:=by
  cases row with
  | none=>cases h:blk a <;> simp
  | some g =>
   obtain⟨d,t,e,h4,h5⟩:=j g rfl;exact Or.inr (h3.ne h4 h5)
 exact⟨k,h1.kept f b,h2,h3.kept f b⟩
theorem Mg.keptA{x:Nat}(h:Mg w a n c x)(d:Arr w g t cs)(f:187≠t)(e:w.grownBy w' (some g)):Mg w' a n c x :=
 h.kept e fun k b=>by
  injection b with b;subst b;exact⟨_,_,_,d,f⟩
theorem Mg.nil(w:World):Mg w none 0 0 0:=⟨[],SlN.nil _ _,Num.nil _,TyS.none _ _⟩
theorem Mg.zero{x:Nat}(h:Mg w a n c x):n=0<->x=0:=by
 obtain⟨b,h1,h2,-⟩:=h;have h3:=W.nrm_zero (B:=4294967296) (by omega) h2.nrm;rw[h2.val]at h3;have h4:=h1.len;constructor
 · intro h0;exact h3.2 (fk (by omega))
 · intro h0;rw[h3.1 h0]at h4;exact h4.symm
end Go.Proofs.YthdbingomfdeoaaGreatDoor
