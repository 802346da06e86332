/- Part PaRpm. -/
import Derived.Test.YthdbingomfdeoaaGreatDoorPa12

set_option linter.all false
set_option maxRecDepth 100000
set_option maxHeartbeats 100000000
namespace Go.Proofs.YthdbingomfdeoaaGreatDoor
open Tryz Go Go.RowKit
variable {l:List (List Int)} {cs cs':List Value} {b b' base c i n v:Nat} {a a':Option Addr} {e e':TypeId} {w:World}
def rpG(p:List Int)(x:Int):List (List Int):=if x∈p then []else [p ++ [x]]
def rpF(n:Nat)(p:List Int):List (List Int):=(idn n).flatMap (rpG p)
theorem Qj(n k:Nat):Et n (k+1)=(Et n k).flatMap (rpF n):=rfl
theorem MP:∀ n,n<5->∀ k,k<=n->(Et n k).length<=24/\∀ p∈Et n k,p.length<=4:=by decide +kernel
theorem Sg(hi:i<l.length):(l.take i).flatMap (rpF n) ++ rpF n (l.getD i [])=(l.take (i+1)).flatMap (rpF n):=by
 rw[eU hi,List.flatMap_append,gqq,eQ hi];simp
theorem Sh(a:v<n)(p:List Int):((idn n).take (v+1)).flatMap (rpG p)=((idn n).take v).flatMap (rpG p) ++ rpG p (v:Int):=by
 rw[eU (by rw[AC];exact a),List.flatMap_append];have:(idn n)[v]'(by rw[AC];exact a)=(v:Int):=by simp[idn]
 rw[this];simp
theorem QEl.mono{w:World}{base b:Nat}{d:List Value}{q:List (List Int)}(h:QEl w base d q)(e:b<=base):QEl w b d q:=fun i f=>by
 obtain⟨a,n,c,h1,h2⟩:=h i f;exact⟨a,n,c,h1,Own.mono h2 e⟩
def OLs(w:World)(base:Nat)(a:Option Addr)(n c:Nat)(q:List (List Int)):Prop:=∃ cells,Own w base 35 a n c cells/\QEl w base cells q/\n=q.length
theorem OLs.ext{w d:World}{base:Nat}{a:Option Addr}{n c:Nat}{q:List (List Int)}(h:OLs w base a n c q)(e:Ext w d):OLs d base a n c q:=by
 obtain⟨b,h1,h2,h3⟩:=h;exact⟨b,h1.ext e,h2.ext e,h3⟩
theorem OLs.mono{w:World}{base b:Nat}{a:Option Addr}{n c:Nat}{q:List (List Int)}(h:OLs w base a n c q)(e:b<=base):OLs w b a n c q:=by
 obtain⟨d,h1,h2,h3⟩:=h;exact⟨d,Own.mono h1 e,h2.mono e,h3⟩
theorem OLs.nil(w:World)(base:Nat):OLs w base none 0 0 []:=⟨[],Own.nil _ _ _,fun i a=>absurd a (by simp),rfl⟩
theorem Pa{g:Nat}(h:Own w base e a n c cs)(f:blk a=some g):∃ b j,w.heap[g]?=some (Obj.cells b e j):=by
 rcases h.2 with⟨d,_⟩|⟨k,i,b,d,_,l,_⟩
 · simp only[eY]at d;rw[d.1]at f;cases f
 · simp only[eY]at d;rw[d.1]at f;have:k=g:=by simpa[blk]using f
   subst this;exact⟨_,_,l⟩
theorem EM{j c':Nat}(h:Own w b e a n c cs)(d:Own w b' e' a' j c' cs')(i:e≠e'):blk a=none\/blk a≠blk a':=by
 cases f:blk a with
 | none=>exact .inl rfl
 | some g =>
  refine .inr fun h1 => ?_;obtain⟨k,m,h2⟩:=Pa h f;obtain⟨l,o,h3⟩:=Pa d h1.symm;rw[h2]at h3;injection h3 with h4;injection h4 with _ h5;exact i h5
theorem OLs.snoc{w g:World}{base:Nat}{a i j:Option Addr}{n c c' r k:Nat}{b:List Value}{q:List (List Int)}{p:List Int}(l:Own w base 35 a n c b)(t:QEl w base b q)(o:n=q.length)(hp:AD w base j r k p)
 (f:Own g base 35 i (n+1) c' (b ++ [.slice j r k])) (m:w.grownBy g (blk a)):OLs g base i (n+1) c' (q ++ [p]):=by
 have d:∀ (e:Option Addr) (x s:Nat) (y:List Int),AD w base e x s y->blk e=none\/blk e≠blk a:=fun _ _ _ _ v=>EM v l (by decide);exact⟨_,f,(t.kept m d).snoc (by rw[l.len,o]) (Own.kept hp m (d _ _ _ _ hp)),by rw[ff,<-o];rfl⟩
theorem FH(hn:n<=4):Calls prog 52 #[.int .i64 n] w fun e w'=>∃ a m c,e = .returned (.slice a m c)/\Ext w w'/\OLs w' w.heap.size a m c (Et n n):=by
 have HF:=eP (MP n (by omega))
 go_enter func52,ntmps52
 go_wp2
 go_loopw[3,4] (fun ov kv wr=>∃ (k:Nat) (a:Option Addr) (m c:Nat),ov = .slice a m c/\kv = .int .i64 k/\k<=n/\Ext w wr/\OLs wr w.heap.size a m c (Et n k)) (fun _ kv _=>n-(intOf kv).toNat)
 case atStart =>
  have hO:=Ag w w.heap.size 35 #[.slice none 0 0] 1 rfl (lrf _) (by omega);refine⟨0,_,_,_,rfl,rfl,f8 _,(Ext.refl w).alloc _,_,hO,fun i hi => ?_,rfl⟩;have:i=0:=by have:(Et n 0).length=1:=rfl;omega
  subst this;exact⟨none,0,0,rfl,Own.nil _ _ _⟩
 case round =>
  obtain⟨k,a,m,c,rfl,rfl,hk,hE,hL⟩:=hrel;by_cases aG:k<n
  case neg =>
   have:k=n:=by omega
   subst this;go_wp2;go_ret;exact⟨a,m,c,rfl,hE,hL⟩
  obtain⟨q,rfl⟩:∃ q:World,q=wr:=⟨_,rfl⟩;obtain⟨an,ad⟩:=HF.out k hk;obtain⟨az,hO,hQ,hm⟩:=hL;have HQ:=eP hQ;have HM:=eP hm;have S:=eP ad;have aA:m<=24:=by omega
  have HS:Hid (Et n (k+1)=(Et n k).flatMap (rpF n)):=eP (Qj n k);obtain⟨R,hR⟩:∃ R,Et n k=R:=⟨_,rfl⟩;rw[hR]at HQ HM S HS;have aw:=hE.size;clear hQ hm an ad hR HF;go_wp2
  go_loopw[5,6] (fun nv iv wr=>∃ (i:Nat) (V:Option Addr) (O X:Nat),nv = .slice V O X/\iv = .int .i64 i/\i<=m/\Ext q wr/\OLs wr q.heap.size V O X ((R.take i).flatMap (rpF n))/\O<=5*i) (fun _ iv _=>m-(intOf iv).toNat)
  case atStart=>exact⟨0,none,0,0,rfl,rfl,f8 _,Ext.refl _,by rw[gZ];exact OLs.nil _ _,by omega⟩
  case round =>
   obtain⟨i,V,O,X,rfl,rfl,hi,I,J,am⟩:=hrel;by_cases au:i<m
   case neg =>
    have HZ:Hid ((R.take i).flatMap (rpF n)=Et n (k+1)):=eP (by rw[eR (by have:=HM.out;omega),HS.out]);go_wp2;go_roundw
    case rel=>exact⟨k+1,V,O,X,rfl,by go_num,by omega,hE.trans I,by rw[<-HZ.out];exact J.mono aw⟩
    case measure=>simp[intOf];omega
   have B:i<R.length:=by have:=HM.out;omega
   have T:=eP (Sg (n:=n) B);obtain⟨ap,P,cp,ac,M⟩:=HQ.out i B;have af:(R.getD i []).length<=4:=S.out _ (by rw[gqq,eQ B];exact fu _);obtain⟨p,hp⟩:∃ p,R.getD i []=p:=⟨_,rfl⟩;rw[hp]at M af T;have aH:P<=4:=by have:=M.sl.len;omega
   have ai:Hid ((idn n).flatMap (rpG p)=rpF n p):=eP rfl;have ao:q.cell? ⟨0,0,none⟩=q.cell? ⟨0,0,none⟩:=rfl;obtain⟨b9,o9,rfl,ab⟩:=hO.sl.rd (by omega);have gi:=ab i au;rw[ac]at gi;clear ab ac hp af B ao;go_wp2
   go_loopw[5,7] (fun nv vv wr=>∃ (v:Nat) (W:Option Addr) (N Y:Nat),nv = .slice W N Y/\vv = .int .i64 v/\v<=n/\Ext q wr/\OLs wr q.heap.size W N Y ((R.take i).flatMap (rpF n) ++ ((idn n).take v).flatMap (rpG p))/\N<=5*i+v) (fun _ vv _=>n-(intOf vv).toNat)
   case atStart=>exact⟨0,V,O,X,rfl,rfl,f8 _,I,by rw[gZ];simpa using J,by omega⟩
   case round =>
    clear J am I;obtain⟨v,W,N,Y,rfl,rfl,hv,d,y,aD⟩:=hrel;by_cases av:v<n
    case neg =>
     have HZ:Hid ((R.take i).flatMap (rpF n) ++ ((idn n).take v).flatMap (rpG p)=(R.take (i+1)).flatMap (rpF n)):=eP (by
      have e:(idn n).take v=idn n:=eR (by rw[AC];omega)
      rw[e,ai.out,T.out])
     go_wp2;go_roundw
     case rel=>exact⟨i+1,W,N,Y,rfl,by go_num,by omega,d,by rw[<-HZ.out];exact y,by omega⟩
     case measure=>simp[intOf];omega
    have g3:=d.cell gi;have K:=M.ext d;have U:=eP (Sh av p);have l:=eP (CO (x:=(v:Int)) K.sl (by omega));by_cases f:(v:Int)∈p
    · have G:=eP (gl f);have HG:Hid (rpG p (v:Int)=[]):=eP (fE f);clear f
      go_wp2_with fail
      refine l.out.mono ?_;rintro e r ⟨rfl,b⟩;rw[G.out];go_wp2;go_roundw
      case rel=>exact⟨v+1,W,N,Y,rfl,by go_num,by omega,d.trans b,by rw[U.out,HG.out,gR];exact y.ext b,by omega⟩
      case measure=>simp[intOf];omega
    · have G:=eP (fw f);have HG:Hid (rpG p (v:Int)=[p ++ [(v:Int)]]):=eP (fl f);clear f
      go_wp2_with fail
      refine l.out.mono ?_;rintro e r ⟨rfl,b⟩;rw[G.out];have j:=d.trans b;have g4:=b.cell g3;have a6:=K.ext b;have a0:=y.ext b;have ah:=j.size;have hA:=Ag r r.heap.size 3 #[] 0 rfl (lrf _) (by omega);have z:Ext r (r.alloc (.cells #[] 3)):=(Ext.refl r).alloc _;have al:=z.cell g4;clear l b g3 K y d
      go_wp2_with(first
       | (refine AU rfl rfl underlying35 Cc rfl rfl hA rfl (a6.ext z).sl (BN _) (by unfold maxLen;omega) (by omega) (by simp) ?_;intro a5 c5 w5 L aq aE;have s:Ext r w5:=z.grown aq (fun g hg=>(hA.lt hg).1);rw[fP]at L;have E:AD w5 r.heap.size a5 P c5 p:=(by simpa[AD]using L);have a1:=(Ag w5 r.heap.size 3 #[.int .i64 (v:Int)] 1 rfl s.size (by omega)).sl;have hA6:=Own.alloc E (.cells #[.int .i64 (v:Int)] 3);have aB:=s.size;rw[fP];clear L)
       | (refine AU rfl rfl underlying35 Cc rfl rfl hA6 rfl a1 (by simp[Value.oneCell']) (by unfold maxLen;omega) (by omega) (by simp;omega) ?_;intro a7 c7 Q a8 ar aF;have t:Ext r Q:=(s.alloc _).grown ar (fun g hg=>(hA6.lt hg).1);have F:AD Q q.heap.size a7 (P+1) c7 (p ++ [(v:Int)]):=(by have h1:=Own.mono a8 ah;unfold AD;rw[fM];exact h1);obtain⟨ay,a9,aa,ae⟩:=a0.ext t;have H:=eP (And.intro aa ae);have A:Ext Q (Q.alloc (.cells #[.slice a7 (P+1) c7] 35)):=(Ext.refl Q).alloc _;have aC:=t.size;have a4:=(Ag Q q.heap.size 35 #[.slice a7 (P+1) c7] 1 rfl (by omega) (by omega)).sl;have hA9:=Own.alloc a9 (.cells #[.slice a7 (P+1) c7] 35);clear a8 aa ae)
       | (refine AU rfl rfl underlying29 Ck rfl rfl hA9 rfl a4 (by simp[Value.oneCell']) (by unfold maxLen;omega) (by omega) (by simp;omega) ?_;intro aj ak ax D o ag))
      have Z:Ext q ax:=(j.trans (t.trans A)).grown o (fun g hg=>(hA9.lt hg).1);have C:=OLs.snoc hA9 (H.out.1.ext A) H.out.2 (F.ext A) D o;rw[fZ]at C;clear D o ag hA9 a4 A F a9 H t j hA6 a1 E s a0 a6 g4 hA z al;go_roundw
      case rel=>exact⟨v+1,aj,N+1,ak,rfl,by go_num,by omega,Z,by rw[U.out,HG.out];exact C,by omega⟩
      case measure=>simp[intOf];omega
end Go.Proofs.YthdbingomfdeoaaGreatDoor
