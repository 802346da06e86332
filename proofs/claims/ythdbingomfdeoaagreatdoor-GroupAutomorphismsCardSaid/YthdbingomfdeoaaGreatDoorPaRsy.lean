/- Part PaRsy. -/
import Derived.Test.YthdbingomfdeoaaGreatDoorPa1
import Derived.Test.YthdbingomfdeoaaGreatDoorPaRkp
import Derived.Test.YthdbingomfdeoaaGreatDoorPaRpm

set_option linter.all false
set_option maxRecDepth 100000
set_option maxHeartbeats 100000000
namespace Go.Proofs.YthdbingomfdeoaaGreatDoor
open Tryz Go Go.RowKit
variable {O R:List (List Int)} {p xs:List Int} {cl co cs:List Value} {B1 B2 N base c c0 d d2 k lb m n n0:Nat} {a a0 b b' x1 x2:Option Addr} {e:TypeId} {w w':World}
theorem Jt{a out lb:PLs}[Decidable (Rl xs a lb)](h:Rl xs a out):sameB out lb=decide (Rl xs a lb):=by
 obtain⟨h1,h2⟩:=O9 (lb:=lb) h;cases b:sameB out lb with
 | true=>exact(gl (h1 b)).symm
 | false=>exact(fw (h2 b)).symm
open Classical in
noncomputable def symB (lf:PLs) (L1 L2:List PLs) (p:List Int):Bool:=decide (Rl p lf lf) && (KepR p L1 && KepR p L2)
noncomputable def symL (N:Nat) (lf:PLs) (L1 L2:List PLs):List (List Int):=(Et N N).filter (symB lf L1 L2)
theorem Pb{a:PLs}:Kep p [a]<->Rl p a a:=by
 constructor
 · intro h;obtain⟨q,b,c,_⟩:=h a (eV.2 rfl);rw[eV.1 b]at c;exact c
 · intro h q b;rw[eV.1 b];exact⟨a,eV.2 rfl,h,rfl⟩
theorem TD(b:N<5)(c:PLs)(L1 L2:List PLs):symL N c L1 L2=autL N [[c],L1,L2]:=by
 classical
 unfold symL autL;rw[LY N b];refine List.filter_congr fun p hp => ?_;obtain⟨h1,h2⟩:=(FX b).1 hp;unfold symB KepR;rw[lM];simp only[gJ,iY];constructor
 · rintro⟨d,e,f⟩;refine⟨h1,h2,fun L a => ?_⟩;simp only[fS,ia,jL]at a;rcases a with rfl|rfl|rfl
   · exact Pb.2 d
   · exact e
   · exact f
 · rintro⟨_,_,q⟩;exact⟨Pb.1 (q _ (by simp)),q _ (by simp),q _ (by simp)⟩
theorem LG{f:List Int->Bool}(h:f p=false):[p].filter f=[]:=by simp[h]
theorem Si{f:List Int->Bool}(h:f p=true):[p].filter f=[p]:=by simp[h]
theorem Vf(h:Own w base e a n c cs)(h0:0<n):∃ g,a=some ⟨g,0,none⟩:=by
 rcases h.2 with⟨b,_⟩|⟨i,d,f,b,_⟩
 · simp only[eY]at b;omega
 · simp only[eY]at b;exact⟨i,b.1⟩
theorem Qk(h:AD w base none n c xs):n=0:=by
 by_cases h0:0<n
 · obtain⟨g,a⟩:=Vf h h0;cases a
 · omega
def SyS(w:World)(B1 B2 lb m d:Nat)(cl:List Value)(R:List (List Int))(b:Option Addr)(k d2:Nat)(co:List Value)(O:List (List Int)):Prop :=
 Own w B1 35 (some ⟨lb,0,none⟩) m d cl/\QEl w B1 cl R/\Own w B2 35 b k d2 co/\QEl w B1 co O/\k=O.length
theorem SyS.ext{w j:World}{a c lb m d:Nat}{f:List Value}{R:List (List Int)}{b:Option Addr}{k i:Nat}{g:List Value}{O:List (List Int)}(h:SyS w a c lb m d f R b k i g O)(e:Ext w j):SyS j a c lb m d f R b k i g O :=
 ⟨h.1.ext e,h.2.1.ext e,h.2.2.1.ext e,h.2.2.2.1.ext e,h.2.2.2.2⟩
theorem SyS.app{c:Nat}(q:Own w B1 35 (some ⟨lb,0,none⟩) m d cl)(o:QEl w B1 cl R)(r:lb<B2)(j:Own w B2 35 b k d2 co)(s:QEl w B1 co O)(l:k=O.length)(hp:AD w B1 a0 n0 c0 p)
 (i:Own w' B2 35 b' (k+1) c (co ++ [.slice a0 n0 c0])) (f:w.grownBy w' (blk b)):SyS w' B1 B2 lb m d cl R b' (k+1) c (co ++ [.slice a0 n0 c0]) (O ++ [p]):=by
 have a:∀ (g:Option Addr) (t n:Nat) (v:List Int),AD w B1 g t n v->blk g=none\/blk g≠blk b:=fun _ _ _ _ h=>EM h j (by decide);refine⟨q.kept f (.inr fun e => ?_),o.kept f a,i,(s.kept f a).snoc (by rw[j.len,l]) (Own.kept hp f (a _ _ _ _ hp)),by rw[ff,<-l];rfl⟩;have h1:=(j.lt (k:=lb) e.symm).1;omega
theorem SyS.put{i:Nat}(x:Own w B1 35 (some ⟨lb,0,none⟩) m d cl)(z:QEl w B1 cl R)(y:Own w B2 35 b k d2 co)(E:QEl w B1 co O)(D:lb<B2)(hp:Own w B1 3 a0 n0 c0 [])(t:p=[])(A:R.getD i []=p)(hi:i<cl.length)
 (q:w.grownBy (w.setCell ⟨lb,i,none⟩ (.slice a0 n0 c0)) (some lb)):QEl (w.setCell ⟨lb,i,none⟩ (.slice a0 n0 c0)) B1 (cl.set i (.slice a0 n0 c0)) R/\Own (w.setCell ⟨lb,i,none⟩ (.slice a0 n0 c0)) B2 35 b k d2 co/\QEl (w.setCell ⟨lb,i,none⟩ (.slice a0 n0 c0)) B1 co O/\AD (w.setCell ⟨lb,i,none⟩ (.slice a0 n0 c0)) B1 a0 n0 c0 p/\(w.setCell ⟨lb,i,none⟩ (.slice a0 n0 c0)).cell? ⟨lb,i,none⟩=some (.slice a0 n0 c0):=by
 subst t;have a:∀ (f:Option Addr) (v r:Nat) (H:List Int),AD w B1 f v r H->blk f=none\/blk f≠some lb:=fun _ _ _ _ h=>EM h x (by decide);have n:AD w B1 a0 n0 c0 []:=hp;have o:AD (w.setCell ⟨lb,i,none⟩ (.slice a0 n0 c0)) B1 a0 n0 c0 []:=Own.kept n q (a _ _ _ _ n);have c:=Own.stored x i (.slice a0 n0 c0);refine⟨fun j C => ?_,y.kept q ?_,E.kept q a,o,?_⟩
 · by_cases l:i=j
   · subst l;refine⟨a0,n0,c0,by simp[hi],?_⟩;rw[A];exact o
   · obtain⟨f,v,r,F,G⟩:=z.kept q a j C;refine⟨f,v,r,?_,G⟩;rw[<-F];simp[ge l]
 · cases B:blk b with
   | none=>exact .inl rfl
   | some g =>
    refine .inr fun e => ?_;have h1:=(y.lt B).1;have h2:=fe e;omega
 · obtain⟨I,J,he,s⟩:=c.sl.rd (by have:=c.len;rw[gL]at this;omega);cases he;have h1:=s i (by have:=c.len;rw[gL]at this;omega);rw[fP]at h1;rw[h1];simp[hi]
theorem TE(n c:Nat)(w:World):Sem.run prog (binOp BinOp.eql 35 (.slice none n c) (.slice none 0 0)) w = .ok (.bool true) w:=by kernel_rfl
theorem Sj(a:Addr)(n c:Nat)(w:World):Sem.run prog (binOp BinOp.eql 35 (.slice (some a) n c) (.slice none 0 0)) w = .ok (.bool false) w:=by kernel_rfl
theorem GU{b0 n1 n2 c1 c2:Nat}{G:PLs}{L1 L2:List PLs}(bk:N<=4)(a3:TSl w b0 a n c G)(bc:ShP N G)(b5:PRs w b0 N x1 n1 c1 L1)(b6:PRs w b0 N x2 n2 c2 L2)(b2:∀ l∈L1,ShP N l)(b3:∀ l∈L2,ShP N l)(bp:n1<=100)(bq:n2<=100)(bt:b0<=w.heap.size) :
 Calls prog 30 #[.agg #[.int .i64 (N:Int),.slice a n c],.slice x1 n1 c1,.slice x2 n2 c2] w fun e J=>∃ b k d,e = .returned (.slice b k d)/\Ext w J/\OLs J w.heap.size b k d (symL N G L1 L2):=by
 classical
 have hN:N<=6:=by omega
 have af:=qh bc;have aW:=qh (And.intro b2 b3);have aH:=qh (And.intro a3 (And.intro b5 b6));have HF:=qh (MP N (by omega) N (lrf _));have HM:Hid (∀ p∈Et N N,Ak p=true/\p.length=N):=qh (fun p hp=>by rw[LY N (by omega)]at hp;exact(FX (by omega)).1 hp);clear bc b2 b3 a3 b5 b6
 go_enter func30,ntmps30
 go_upto_region 1 with(fail)
 refine AK ?_;intro V a4 aj bv;obtain⟨X,hX⟩:∃ x,w.heap.size=x:=⟨_,rfl⟩;have bB:X<V.heap.size:=by omega
 have bm:b0<=V.heap.size:=by omega
 rw[hX]at aj |-;have p0:=aj.c 0 rfl;have p1:=aj.c 1 rfl;have bA:=qh hX;clear aj bv hX bt;have bf:=qh (FH (w:=V) bk)
 go_wp2_with fail
 refine bf.out.mono ?_;rintro e w2 ⟨al,m,d,rfl,y,b4⟩;obtain⟨R,hR⟩:∃ R,Et N N=R:=⟨_,rfl⟩;have aX:=qh hR;rw[hR]at b4 HF HM;obtain⟨aZ,ae,aT,aN⟩:=b4;have bz:m<=24:=by rw[aN];exact HF.out.1
 have aE:=qh aN;have aS:=y.size;clear bf hR aN HF;have hmp:0<m:=by
  rw[aE.out,<-aX.out];have:∀ n,n<5->0<(Et n n).length:=by decide +kernel
  exact this N (by omega)
 obtain⟨F,rfl⟩:=Vf ae hmp;have aA:=ae.lt (k:=F) rfl;have az:F<w2.heap.size:=aA.2;have bx:V.heap.size<=F:=aA.1;have b7:SyS w2 V.heap.size w2.heap.size F m d aZ R none 0 0 [] []:=⟨ae,aT,Own.nil _ _ _,fun i hi=>absurd hi (by simp),rfl⟩;clear ae aT aA;go_wp2
 go_loopw[7,9] (fun ov iv wr=>∃ (i k:Nat) (b:Option Addr) (d2:Nat) (cl co:List Value),ov = .slice b k d2/\iv = .int .i64 i/\i<=m/\Ext V wr/\w2.heap.size<=wr.heap.size/\k<=i/\SyS wr V.heap.size w2.heap.size F m d cl R b k d2 co ((R.take i).filter (symB G L1 L2))) (fun _ iv _=>m-(intOf iv).toNat)
 case atStart=>exact⟨0,0,none,0,aZ,[],rfl,rfl,f8 _,y,lrf _,lrf _,by rw[gZ];exact b7⟩
 case round =>
  clear b7 y;obtain⟨i,k,b,d2,cl,co,rfl,rfl,hi,hE,ac,bC,hS⟩:=hrel;by_cases b9:i<m
  case neg =>
   have HZ:Hid ((R.take i).filter (symB G L1 L2)=symL N G L1 L2):=qh (by
    rw[eR (by rw[<-aE.out];omega)];unfold symL
    rw[aX.out])
   rw[HZ.out]at hS;go_wp2;go_ret;exact⟨b,k,d2,rfl,a4.trans hE,co,Own.mono hS.2.2.1 (by have h1:=a4.size;omega),hS.2.2.2.1.mono a4.size,hS.2.2.2.2⟩
  have a9:i<R.length:=by rw[<-aE.out];exact b9
  obtain⟨H,ni,D,b8,ak⟩:=hS.2.1 i a9;obtain⟨p,hp⟩:∃ p,R.getD i []=p:=⟨_,rfl⟩;have hR:=qh hp;have bd:p∈R:=by rw[<-hp,gqq,eQ a9];exact fu _
  obtain⟨be,aO⟩:=HM.out p bd;have bg:R.take (i+1)=R.take i ++ [p]:=by
   rw[eU a9,<-hp];simp[a9]
  have ah:=qh bg;have a6:=qh (And.intro be aO);rw[hp]at ak;have br:N=ni:=by have h1:=Own.len ak;rw[ft,aO]at h1;exact h1
  subst br;have k0:wr.cell? ⟨F,i,none⟩=some (.slice H N D):=by
   obtain⟨bb,oo,he,aL⟩:=hS.1.sl.rd hmp;cases he;have h1:=aL i b9;rw[fP,b8]at h1;exact h1
  have g0:=hE.cell p0;have g1:=hE.cell p1;have hw:b0<=wr.heap.size:=eW bm hE.size;have ag:Hid (∀ f,Ext wr f->AD f V.heap.size H N D p):=qh fun f j=>Own.ext ak j;have a3:Hid (∀ f,Ext wr f->TSl f b0 a n c G):=qh fun f j=>aH.out.1.ext ((a4.trans hE).trans j)
  have ax:Hid (∀ f,Ext wr f->Calls prog 54 #[.slice H N D,.agg #[.int .i64 (N:Int),.slice a n c]] f fun e J=>∃ B E C q,e = .returned (.agg #[.int .i64 (N:Int),.slice B E C])/\Ext f J/\TO J b0 V.heap.size B E C q/\Rl p G q/\ShP N q):=qh fun f j=>Js hN (ag.out f j).sl a6.out.1 (a3.out f j) af.out (eW hw j.size) (hE.trans j).size
  have ba:Hid (∀ f,Ext wr f->Calls prog 55 #[.slice H N D,.slice x1 n1 c1] f fun e J=>e = .returned (.bool (KepR p L1))/\Ext f J):=qh fun f j=>Hg hN (ag.out f j).sl a6.out.1 a6.out.2 (aH.out.2.1.ext ((a4.trans hE).trans j)) aW.out.1 bp (eW hw j.size);have bo:Hid (∀ f,Ext wr f->Calls prog 55 #[.slice H N D,.slice x2 n2 c2] f fun e J=>e = .returned (.bool (KepR p L2))/\Ext f J):=qh fun f j=>Hg hN (ag.out f j).sl a6.out.1 a6.out.2 (aH.out.2.2.ext ((a4.trans hE).trans j)) aW.out.2 bq (eW hw j.size)
  clear a9 b8 ak hp bd be aO bg;obtain⟨s1,aP⟩:∃ s,decide (Rl p G G)=s:=⟨_,rfl⟩;obtain⟨s2,aQ⟩:∃ s,KepR p L1=s:=⟨_,rfl⟩;obtain⟨s3,T⟩:∃ s,KepR p L2=s:=⟨_,rfl⟩;have aG:=qh aP;have aY:=qh aQ;have bi:=qh T;have M:Hid (symB G L1 L2 p=(s1 && (s2 && s3))):=qh (by rw[<-aP,<-aQ,<-T];rfl);clear aP aQ T;cases s1 with
  | false =>
   rw[Bool.false_and]at M
   go_upto_region 6 with(fail)
   refine Ac
    [hdS (some ⟨F,0,none⟩) m d,hdI i,hdP F i,hdS H N D,he (.agg #[.int .i64 (N:Int),.slice a n c]),hp (fun v f=>∃ B E C q,v = .agg #[.int .i64 (N:Int),.slice B E C]/\TO f b0 V.heap.size B E C q/\Rl p G q/\ShP N q),he (.agg #[.int .i64 (N:Int),.slice a n c]),hp (fun v f=>v = .bool false),hdB false,hdU,hdU,hdU,hdU,hdU,hdU,hdB false,hdB false,hdU,hdU,hdU,hdU,hdU,hdU,hdB false]
    ⟨fun v w J e ⟨B,E,C,q,q1,q2,q3⟩=>⟨B,E,C,q,q1,q2.ext e,q3⟩,fun _ _ _ _ h=>h,trivial⟩ ⟨?o0,?o1,?o2,?o3,?o4,?o5,?o6,?o7,?o8,?o9,?o10,?o11,?o12,?o13,?o14,?o15,?o16,?o17,?o18,?o19,?o20,?o21,?o22,?o23,trivial⟩ ?fin
   case o0 | o1 | o16=>exact omv
   case o3=>exact ol
   case o9 | o10 | o11 | o12 | o13 | o14 | o17 | o18 | o19 | o20 | o21 | o22=>exact Gh rfl
   case o2 | o15 | o23 =>
    refine Ae rfl fun W f j o h => ?_
    try have e0:_=_:=h.1
    try have e1:_=_:=h.2.1
    try have e2:_=_:=h.2.2.1
    have ku:=j.cell k0;go_simp
    try (first | (intros;omega) | exact eT _ (by omega))
   case o4 =>
    exact ol2 rfl rfl (fun _ _=>id) Av g0 g1
   case o5 =>
    refine Ah rfl fun W f j o Q h => ?_;have e1:_=_:=h.2.1;have e2:_=_:=h.2.2.1;refine⟨54,#[.slice H N D,(.agg #[.int .i64 (N:Int),.slice a n c])],by go_simp,((ax.out f j)).mono ?_⟩;rintro e J ⟨B,E,C,o',rfl,r,a8,aa,ab⟩;exact⟨_,rfl,r,B,E,C,o',rfl,a8,aa,ab⟩
   case o6 =>
    exact ol2 rfl rfl (fun _ _=>id) Av g0 g1
   case o7 =>
    refine Ah rfl fun W f j o Q h => ?_;obtain⟨v1,e1,A1,M1,D1,o1,rfl,q1,r1,z1⟩:=h.2.1;have e2:_=_:=h.2.2.1;have b1:=j;refine⟨53,#[.agg #[.int .i64 (N:Int),.slice A1 M1 D1],(.agg #[.int .i64 (N:Int),.slice a n c])],by go_simp,(Dh hN q1.sl (a3.out f j) z1 af.out (eW hw j.size)).mono ?_⟩;rintro e J ⟨rfl,r⟩;exact⟨_,rfl,r,by rw[Jt r1,aG.out]⟩
   case o8 =>
    refine Ae rfl fun W f j o h => ?_;obtain⟨v0,e0,rfl⟩:=h.1;have ku:=j.cell k0;go_simp
   case fin =>
    intro f j;rintro _ ⟨_,_,_,_,rfl,_,_,_⟩;rintro _ rfl;change wpList _ _ _ _ _ _;simp only[Bs];have HN:Hid ((R.take (i+1)).filter (symB G L1 L2)=(R.take i).filter (symB G L1 L2)):=qh (by rw[ah.out,List.filter_append,LG M.out,gR]);have U:=j.size;have y:=hE.trans j;have a5:=hS.ext j;clear j hE hS k0 g0 g1;go_wp2;go_roundw
    case rel=>exact⟨i+1,k,b,d2,cl,co,rfl,by go_num,by omega,y,eW ac U,by omega,by rw[HN.out];exact a5⟩
    case measure=>simp[intOf];omega
  | true =>
   rw[Bool.true_and]at M;cases s2 with
   | false =>
    rw[Bool.false_and]at M
    go_upto_region 6 with(fail)
    refine Ac
     [hdS (some ⟨F,0,none⟩) m d,hdI i,hdP F i,hdS H N D,he (.agg #[.int .i64 (N:Int),.slice a n c]),hp (fun v f=>∃ B E C q,v = .agg #[.int .i64 (N:Int),.slice B E C]/\TO f b0 V.heap.size B E C q/\Rl p G q/\ShP N q),he (.agg #[.int .i64 (N:Int),.slice a n c]),hp (fun v f=>v = .bool true),hdB true,hdS (some ⟨F,0,none⟩) m d,hdI i,hdP F i,hdS H N D,hdS x1 n1 c1,hp (fun v f=>v = .bool false),hdB false,hdB false,hdU,hdU,hdU,hdU,hdU,hdU,hdB false]
     ⟨fun v w J e ⟨B,E,C,q,q1,q2,q3⟩=>⟨B,E,C,q,q1,q2.ext e,q3⟩,fun _ _ _ _ h=>h,fun _ _ _ _ h=>h,trivial⟩ ⟨?o0,?o1,?o2,?o3,?o4,?o5,?o6,?o7,?o8,?o9,?o10,?o11,?o12,?o13,?o14,?o15,?o16,?o17,?o18,?o19,?o20,?o21,?o22,?o23,trivial⟩ ?fin
    case o0 | o1 | o9 | o10 | o13 | o16=>exact omv
    case o3 | o12=>exact ol
    case o17 | o18 | o19 | o20 | o21 | o22=>exact Gh rfl
    case o2 | o11 | o23 =>
     refine Ae rfl fun W f j o h => ?_
     try have e0:_=_:=h.1
     try have e1:_=_:=h.2.1
     try have e2:_=_:=h.2.2.1
     have ku:=j.cell k0;go_simp
     try (first | (intros;omega) | exact eT _ (by omega))
    case o4 =>
     exact ol2 rfl rfl (fun _ _=>id) Av g0 g1
    case o5 =>
     refine Ah rfl fun W f j o Q h => ?_;have e1:_=_:=h.2.1;have e2:_=_:=h.2.2.1;refine⟨54,#[.slice H N D,(.agg #[.int .i64 (N:Int),.slice a n c])],by go_simp,((ax.out f j)).mono ?_⟩;rintro e J ⟨B,E,C,o',rfl,r,a8,aa,ab⟩;exact⟨_,rfl,r,B,E,C,o',rfl,a8,aa,ab⟩
    case o6 =>
     exact ol2 rfl rfl (fun _ _=>id) Av g0 g1
    case o7 =>
     refine Ah rfl fun W f j o Q h => ?_;obtain⟨v1,e1,A1,M1,D1,o1,rfl,q1,r1,z1⟩:=h.2.1;have e2:_=_:=h.2.2.1;have b1:=j;refine⟨53,#[.agg #[.int .i64 (N:Int),.slice A1 M1 D1],(.agg #[.int .i64 (N:Int),.slice a n c])],by go_simp,(Dh hN q1.sl (a3.out f j) z1 af.out (eW hw j.size)).mono ?_⟩;rintro e J ⟨rfl,r⟩;exact⟨_,rfl,r,by rw[Jt r1,aG.out]⟩
    case o8 =>
     refine Ae rfl fun W f j o h => ?_;obtain⟨v0,e0,rfl⟩:=h.1;have ku:=j.cell k0;go_simp
    case o14 =>
     refine Ah rfl fun W f j o Q h => ?_;have e1:_=_:=h.2.1;have e2:_=_:=h.2.2.1;refine⟨55,#[.slice H N D,.slice x1 n1 c1],by go_simp,((ba.out f j)).mono ?_⟩;rintro e J ⟨rfl,r⟩;exact⟨_,rfl,r,by rw[aY.out]⟩
    case o15 =>
     refine Ae rfl fun W f j o h => ?_;have e0:_=_:=h.1;obtain⟨v1,e1,rfl⟩:=h.2.1;go_simp
    case fin =>
     intro f j;rintro _ ⟨_,_,_,_,rfl,_,_,_⟩;rintro _ rfl;rintro _ rfl;change wpList _ _ _ _ _ _;simp only[Bs];have HN:Hid ((R.take (i+1)).filter (symB G L1 L2)=(R.take i).filter (symB G L1 L2)):=qh (by rw[ah.out,List.filter_append,LG M.out,gR]);have U:=j.size;have y:=hE.trans j;have a5:=hS.ext j;clear j hE hS k0 g0 g1;go_wp2;go_roundw
     case rel=>exact⟨i+1,k,b,d2,cl,co,rfl,by go_num,by omega,y,eW ac U,by omega,by rw[HN.out];exact a5⟩
     case measure=>simp[intOf];omega
   | true =>
    rw[Bool.true_and]at M
    go_upto_region 6 with(fail)
    refine Ac
     [hdS (some ⟨F,0,none⟩) m d,hdI i,hdP F i,hdS H N D,he (.agg #[.int .i64 (N:Int),.slice a n c]),hp (fun v f=>∃ B E C q,v = .agg #[.int .i64 (N:Int),.slice B E C]/\TO f b0 V.heap.size B E C q/\Rl p G q/\ShP N q),he (.agg #[.int .i64 (N:Int),.slice a n c]),hp (fun v f=>v = .bool true),hdB true,hdS (some ⟨F,0,none⟩) m d,hdI i,hdP F i,hdS H N D,hdS x1 n1 c1,hp (fun v f=>v = .bool true),hdB true,hdB true,hdS (some ⟨F,0,none⟩) m d,hdI i,hdP F i,hdS H N D,hdS x2 n2 c2,hp (fun v f=>v = .bool s3),hdB s3]
     ⟨fun v w J e ⟨B,E,C,q,q1,q2,q3⟩=>⟨B,E,C,q,q1,q2.ext e,q3⟩,fun _ _ _ _ h=>h,fun _ _ _ _ h=>h,fun _ _ _ _ h=>h,trivial⟩ ⟨?o0,?o1,?o2,?o3,?o4,?o5,?o6,?o7,?o8,?o9,?o10,?o11,?o12,?o13,?o14,?o15,?o16,?o17,?o18,?o19,?o20,?o21,?o22,?o23,trivial⟩ ?fin
    case o0 | o1 | o9 | o10 | o13 | o16 | o17 | o18 | o21=>exact omv
    case o3 | o12 | o20=>exact ol
    case o2 | o11 | o19 =>
     refine Ae rfl fun W f j o h => ?_
     try have e0:_=_:=h.1
     try have e1:_=_:=h.2.1
     try have e2:_=_:=h.2.2.1
     have ku:=j.cell k0;go_simp
     try (first | (intros;omega) | exact eT _ (by omega))
    case o4 =>
     exact ol2 rfl rfl (fun _ _=>id) Av g0 g1
    case o5 =>
     refine Ah rfl fun W f j o Q h => ?_;have e1:_=_:=h.2.1;have e2:_=_:=h.2.2.1;refine⟨54,#[.slice H N D,(.agg #[.int .i64 (N:Int),.slice a n c])],by go_simp,((ax.out f j)).mono ?_⟩;rintro e J ⟨B,E,C,o',rfl,r,a8,aa,ab⟩;exact⟨_,rfl,r,B,E,C,o',rfl,a8,aa,ab⟩
    case o6 =>
     exact ol2 rfl rfl (fun _ _=>id) Av g0 g1
    case o7 =>
     refine Ah rfl fun W f j o Q h => ?_;obtain⟨v1,e1,A1,M1,D1,o1,rfl,q1,r1,z1⟩:=h.2.1;have e2:_=_:=h.2.2.1;have b1:=j;refine⟨53,#[.agg #[.int .i64 (N:Int),.slice A1 M1 D1],(.agg #[.int .i64 (N:Int),.slice a n c])],by go_simp,(Dh hN q1.sl (a3.out f j) z1 af.out (eW hw j.size)).mono ?_⟩;rintro e J ⟨rfl,r⟩;exact⟨_,rfl,r,by rw[Jt r1,aG.out]⟩
    case o8 =>
     refine Ae rfl fun W f j o h => ?_;obtain⟨v0,e0,rfl⟩:=h.1;have ku:=j.cell k0;go_simp
    case o14 =>
     refine Ah rfl fun W f j o Q h => ?_;have e1:_=_:=h.2.1;have e2:_=_:=h.2.2.1;refine⟨55,#[.slice H N D,.slice x1 n1 c1],by go_simp,((ba.out f j)).mono ?_⟩;rintro e J ⟨rfl,r⟩;exact⟨_,rfl,r,by rw[aY.out]⟩
    case o15 =>
     refine Ae rfl fun W f j o h => ?_;have e0:_=_:=h.1;obtain⟨v1,e1,rfl⟩:=h.2.1;go_simp
    case o22 =>
     refine Ah rfl fun W f j o Q h => ?_;have e1:_=_:=h.2.1;have e2:_=_:=h.2.2.1;refine⟨55,#[.slice H N D,.slice x2 n2 c2],by go_simp,((bo.out f j)).mono ?_⟩;rintro e J ⟨rfl,r⟩;exact⟨_,rfl,r,by rw[bi.out]⟩
    case o23 =>
     refine Ae rfl fun W f j o h => ?_;have e0:_=_:=h.1;obtain⟨v1,e1,rfl⟩:=h.2.1;go_simp
    case fin =>
     intro f j;rintro _ ⟨_,_,_,_,rfl,_,_,_⟩;rintro _ rfl;rintro _ rfl;rintro _ rfl;change wpList _ _ _ _ _ _;simp only[Bs];have U:=j.size;have y:=hE.trans j;have a5:=hS.ext j;have k1:=j.cell k0;cases T:s3 with
     | false =>
      have HN:Hid ((R.take (i+1)).filter (symB G L1 L2)=(R.take i).filter (symB G L1 L2)):=qh (by rw[ah.out,List.filter_append,LG (by rw[M.out,T]),gR]);clear j hE hS k0 g0 g1 k1 T;go_wp2;go_roundw
      case rel=>exact⟨i+1,k,b,d2,cl,co,rfl,by go_num,by omega,y,eW ac U,by omega,by rw[HN.out];exact a5⟩
      case measure=>simp[intOf];omega
     | true =>
      have HN:Hid ((R.take (i+1)).filter (symB G L1 L2)=(R.take i).filter (symB G L1 L2) ++ [p]):=qh (by rw[ah.out,List.filter_append,Si (by rw[M.out,T])]);obtain⟨I,a1,a0,a2,am⟩:=a5;have K:w2.heap.size<=f.heap.size:=eW ac j.size;have S:AD f V.heap.size H N D p:=ag.out f j;clear j hE hS k0 g0 g1 T;by_cases aK:H=none
      · subst aK;have bj:Hid (N=0):=qh (Qk S);have bh:Hid (p=[]):=qh (by have h1:=Own.len S;rw[bj.out,ft]at h1;exact List.length_eq_zero_iff.1 h1);have L:Ext f (f.alloc (.cells #[] 3)):=(Ext.refl f).alloc _;have bn:=Own.frozenAt (I.ext L) i;have k8:=L.cell k1;have bs:=TE N D
        go_upto_region 9 with(fail)
        have aM:=Ab (f.alloc (.cells #[] 3)) F i (.slice (some ⟨f.heap.size,0,none⟩) 0 0);have ap:=Own.stored (I.ext L) i (.slice (some ⟨f.heap.size,0,none⟩) 0 0);have aV:=Ag f V.heap.size 3 #[] 0 rfl y.size (by omega);have aU:=a1.ext L;have aL:i<cl.length:=by have:=I.len;omega
        have bl:=SyS.put (I.ext L) aU (a0.ext L) (a2.ext L) az aV bh.out hR.out aL aM;obtain⟨ar,aq,au,aB,bw⟩:=bl;have O:Ext V ((f.alloc (.cells #[] 3)).setCell ⟨F,i,none⟩ (.slice (some ⟨f.heap.size,0,none⟩) 0 0)):=(y.alloc _).grown aM (fun g hg=>by have h1:=fe hg;omega);have Y:w2.heap.size<=((f.alloc (.cells #[] 3)).setCell ⟨F,i,none⟩ (.slice (some ⟨f.heap.size,0,none⟩) 0 0)).heap.size:=by have h1:=L.size;simp;omega
        obtain⟨Z,hZ⟩:∃ z,f.heap.size=z:=⟨_,rfl⟩;rw[hZ]at ar aq au aB bw O Y ap |-;clear L bn k8 aM aV aU I a1 a0 a2 S y k1 K hZ;generalize (f.alloc (.cells #[] 3)).setCell ⟨F,i,none⟩ (.slice (some ⟨Z,0,none⟩) 0 0)=WW at *
        have I:=ap;have a1:=ar;have a0:=aq;have a2:=au;have S:=aB;have K:=Y;clear ap ar aq au aB Y;have aF:=qh a2;have aD:=qh am;have t:Ext WW (WW.alloc (.cells #[.slice (some ⟨Z,0,none⟩) 0 0] 35)):=(Ext.refl WW).alloc _;have hA9:=Own.alloc a0 (.cells #[.slice (some ⟨Z,0,none⟩) 0 0] 35);have aC:=O.size;have a7:=(Ag WW w2.heap.size 35 #[.slice (some ⟨Z,0,none⟩) 0 0] 1 rfl K (by omega)).sl;clear am a2
        go_wp2_with(refine AU rfl rfl underlying29 Ck rfl rfl hA9 rfl a7 (by simp[Value.oneCell']) (by unfold maxLen;omega) (by omega) (by simp;omega) ?_;intro aI aJ aR P A ay)
        have an:=A.size;have aw:=t;have av:=SyS.app (I.ext t) (a1.ext t) az hA9 (aF.out.ext t) aD.out (S.ext t) P A;have ao:Ext V aR:=(O.trans t).grown A (fun g hg=>eW aS (hA9.lt hg).1);clear I a1 hA9 t a7 P A ay S O aC a0;go_roundw
        case rel=>exact⟨i+1,k+1,aI,aJ,_,_,rfl,by go_num,by omega,ao,eW K (eW aw.size an),by omega,by rw[HN.out];exact av⟩
        case measure=>simp[intOf];omega
      · obtain⟨ad,rfl⟩:∃ ad,H=some ad:=by
         cases H with
         | none=>exact absurd rfl aK
         | some ad=>exact⟨ad,rfl⟩
        have bs:=Sj ad N D;have O:=y;generalize bu:f=WW at *
        clear bu y aK;have aF:=qh a2;have aD:=qh am;have t:Ext WW (WW.alloc (.cells #[.slice (some ad) N D] 35)):=(Ext.refl WW).alloc _;have hA9:=Own.alloc a0 (.cells #[.slice (some ad) N D] 35);have aC:=O.size;have a7:=(Ag WW w2.heap.size 35 #[.slice (some ad) N D] 1 rfl K (by omega)).sl;clear am a2
        go_wp2_with(refine AU rfl rfl underlying29 Ck rfl rfl hA9 rfl a7 (by simp[Value.oneCell']) (by unfold maxLen;omega) (by omega) (by simp;omega) ?_;intro aI aJ aR P A ay)
        have an:=A.size;have aw:=t;have av:=SyS.app (I.ext t) (a1.ext t) az hA9 (aF.out.ext t) aD.out (S.ext t) P A;have ao:Ext V aR:=(O.trans t).grown A (fun g hg=>eW aS (hA9.lt hg).1);clear I a1 hA9 t a7 P A ay S O aC a0;go_roundw
        case rel=>exact⟨i+1,k+1,aI,aJ,_,_,rfl,by go_num,by omega,ao,eW K (eW aw.size an),by omega,by rw[HN.out];exact av⟩
        case measure=>simp[intOf];omega
end Go.Proofs.YthdbingomfdeoaaGreatDoor
