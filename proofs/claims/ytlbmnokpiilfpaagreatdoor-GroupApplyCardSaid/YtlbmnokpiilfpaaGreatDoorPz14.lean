/- Part Pz14. -/
import Derived.Test.YtlbmnokpiilfpaaGreatDoorPz6
import Derived.Deep.QuietTactic
import Derived.BigQuiet
set_option linter.all false
set_option maxRecDepth 100000
set_option maxHeartbeats 100000000
namespace Go.Proofs.YtlbmnokpiilfpaaGreatDoor
open Tryz Go Go.RowKit
def rp:=@List.getElem?_set_ne
def x8:=@Nat.div_lt_of_lt_mul
variable {neg:Bool} {z:Int} {l xs:List Nat} {cs:List Value} {B D R U V base c c' cy d dd g h k m n o p q s u x y y0 y1:Nat} {a b:Option Addr} {row:Option Nat} {e t t':TypeId} {v v':Value} {w w' w1 w9:World}
theorem BF(xs:List Nat)(k:Nat):W.val B (xs.take (k+1))=W.val B (xs.take k)+B^k*xs.getD k 0:=by
 by_cases h:k<xs.length
 · exact W.val_take_succ h
 · rw[pu (by omega),pu (by omega),gqq,pV (by omega)];simp
theorem Js(hp:p<l.length)(h:W.val B l+c*B^p=V)(e:s+B*c'=l.getD p 0+D+c):W.val B (l.set p s)+c'*B^(p+1)=V+D*B^p:=by
 have h1:=W.val_set (B:=B) (xs:=l) (i:=p) (v:=s) hp;have h2:B^p*(s+B*c')=B^p*(l.getD p 0+D+c):=by rw[e]
 rw[rM,rM,rM]at h2;have h3:B^p*(B*c')=c'*B^(p+1):=by rw[qB,<-rT,pM]
 have h4:B^p*D=D*B^p:=pM _ _;have h5:B^p*c=c*B^p:=pM _ _;omega
theorem P9{Y A:Nat}(hp:p<l.length)(h:W.val B l+Y=V+c*B^p)(e:s+D+c=l.getD p 0+A+B*c'):W.val B (l.set p s)+(Y+D*B^p)=(V+A*B^p)+c'*B^(p+1):=by
 have h1:=W.val_set (B:=B) (xs:=l) (i:=p) (v:=s) hp;have h2:B^p*(s+D+c)=B^p*(l.getD p 0+A+B*c'):=by rw[e]
 rw[rM,rM,rM,rM]at h2;have h3:B^p*(B*c')=c'*B^(p+1):=by rw[qB,<-rT,pM]
 have h4:B^p*D=D*B^p:=pM _ _;have h5:B^p*c=c*B^p:=pM _ _;have h6:B^p*A=A*B^p:=pM _ _;omega
theorem Ha(h:∀ j,k<=j->l.getD j 0=0):∀ j,k+1<=j->(l.set k s).getD j 0=0:=by
 intro j a;rw[gqq,rp (by omega),<-gqq];exact h j (by omega)
theorem EJ(n j:Nat):(List.replicate n 0).getD j 0=0:=by
 rw[gqq,List.getElem?_replicate];split <;> rfl
theorem Ga(a:0<B)(n:Nat):W.bnd B (List.replicate n 0):=fun x b=>by rw[(qS.1 b).2];exact a
theorem Do(h:x<18446744073709551616):IntKind.u64.wrap (x:Int)=(x:Int):=by
 show(x:Int)%18446744073709551616=x;omega
theorem Jt(x:Nat):IntKind.u32.wrap (x:Int)=((x%4294967296:Nat):Int):=by
 show(x:Int)%4294967296=_;omega
theorem Ye{v:Nat}(hu:u<4294967296)(d:v<4294967296)(b:o<4294967296)(a:c<4294967296):u*v+o+c<18446744073709551616:=by
 have:u*v<=4294967295*4294967295:=qK (by omega) (by omega);omega
structure Est(b y1 U q h r:Nat):Prop where
 eq:h*y1+r=U
 lo:q<=h
 hi:h<=b+1
theorem Est.start{b:Nat}(h1:b<=2*y1)(h0:y0<b)(d:U<=y1*b+y0)(a:q*(y1*b+y0)<=U*b+u)(hu:u<b):Est b y1 U q (U/y1) (U%y1):=by
 have c:0<y1:=by omega
 have e:U/y1*y1+U%y1=U:=Nat.div_add_mod' U y1;refine⟨e,W.guess_hi e a hu (qf _ c),?_⟩;rcases qx (b+1) (U/y1)with h|h
 · exfalso;have h2:(b+2)*y1<=U/y1*y1:=px _ h;have h4:(b+2)*y1=y1*b+2*y1:=by grind
   omega
 · exact h
theorem Est.down{b r:Nat}(E:Est b y1 U q h r)(d:q*(y1*b+y0)<=U*b+u)(a:q<b)(c:b<=h\/b*r+u<h*y0):0<h/\h-1<=b/\Est b y1 U q (h-1) (r+y1):=by
 have h1:=W.guess_down E.eq d a c;have h2:=E.hi;refine⟨by omega,by omega,?_,by omega,by omega⟩;have h3:=E.eq;obtain⟨k,rfl⟩:∃ k,h=k+1:=⟨h-1,by omega⟩;rw[qJ,sk]at h3;rw[vW];omega
theorem Est.done{b r d P lo a:Nat}(E:Est b y1 U q h r)(k:h*y0<=b*r+u)(h1:b<=2*y1)(g:2<=b)(f:d=(U*b+u)*P+lo)(e:D=(y1*b+y0)*P+a)(c:a < P)(i:d<(q+1)*D)(j:q<b):h<=q+1:=by
 have h2:h*(y1*b+y0)<=U*b+u:=by
  have h2:h*(y1*b+y0)=h*y1*b+h*y0:=by grind
  have h3:U*b=h*y1*b+r*b:=by rw[<-E.eq];grind
  have h4:b*r=r*b:=pM _ _;omega
 refine W.digit_lo (by omega) f e c i h2 ?_;have h3:1*b<=y1*b:=px _ (by omega);omega
theorem T9{w:Nat}(hp:o+k<l.length)(h:W.val B l+c*B^(o+k)=V+w*W.val B (xs.take k)*B^o)(e:s+B*c'=l.getD (o+k) 0+w*xs.getD k 0+c):W.val B (l.set (o+k) s)+c'*B^(o+(k+1))=V+w*W.val B (xs.take (k+1))*B^o:=by
 have h1:=Js (D:=w*xs.getD k 0) hp h e;rw[BF,rM,qJ];have h2:w*(B^k*xs.getD k 0)*B^o=w*xs.getD k 0*B^(o+k):=by rw[sG];grind
 rw[show o+(k+1)=o+k+1 by omega];omega
theorem Xn{w:Nat}(hp:o+k<l.length)(h:W.val B l+w*W.val B (xs.take k)*B^o=V+c*B^(o+k))(e:s+w*xs.getD k 0+c=l.getD (o+k) 0+B*c'):W.val B (l.set (o+k) s)+w*W.val B (xs.take (k+1))*B^o=V+c'*B^(o+(k+1)):=by
 have h1:=P9 (D:=w*xs.getD k 0) (A:=0) hp h (by omega);rw[BF,rM,qJ];have h2:w*(B^k*xs.getD k 0)*B^o=w*xs.getD k 0*B^(o+k):=by rw[sG];grind
 rw[show o+(k+1)=o+k+1 by omega];rw[r7]at h1;omega
theorem Cs:Ca prog 241 (.int .u32 0) 4:=by unfold Ca;kernel_rfl
def TyS(w:World)(a:Option Addr)(t:TypeId):Prop:=∀ g,blk a=some g->∃ cs fr,w.heap[g]?=some (.cells cs t fr)
theorem TyS.ext(h:TyS w a t)(e:Ext w w'):TyS w' a t:=fun g d=>by
 obtain⟨b,c,h1⟩:=h g d;exact⟨b,c,by rw[e.block (qH.1 h1).1];exact h1⟩
theorem TyS.kept(h:TyS w a t)(f:w.grownBy w' row)(c:blk a=none\/blk a≠row):TyS w' a t:=fun g b=>by
 obtain⟨d,e,h1⟩:=h g b;have i:some g≠row:=by
  rcases c with h2|h2
  · rw[h2]at b;cases b
  · rw[b]at h2;exact h2
 exact⟨d,e,by rw[f.block g (qH.1 h1).1 i];exact h1⟩
theorem TyS.none(w:World)(t:TypeId):TyS w none t:=fun g h=>by cases h
theorem Own.ty(h:Own w base e a n c cs):TyS w a e:=fun k d=>by
 rcases h.2 with⟨b,_⟩|⟨g,f,i,b,l,j,_⟩
 · simp only[pI]at b;rw[b.1]at d;cases d
 · simp only[pI]at b;rw[b.1]at d;have:g=k:=by simpa[blk]using d
   subst this;exact⟨_,_,j⟩
theorem Az.ty{k:IntKind}{w:World}{base:Nat}{e:TypeId}{g n c:Nat}{xs:List Nat}(h:Az k w base e g n c xs):TyS w (some ⟨g,0,Option.none⟩) e:=Own.ty h
theorem TyS.ne{cs:Array Value}{c:Nat×Nat}(h:TyS w a t)(e:w.heap[g]?=some (.cells cs t' c))(i:t≠t'):blk a≠some g:=fun f=>by
 obtain⟨b,d,h1⟩:=h g f;rw[e]at h1;simp only[pz,rW]at h1;exact i h1.2.1.symm
def Mg(w:World)(a:Option Addr)(n c:Nat)(x:Nat):Prop:=∃ xs,SlN .u32 w a n c xs/\Num 4294967296 xs x/\TyS w a 241
theorem Mg.ext{w b:World}{a:Option Addr}{n c x:Nat}(h:Mg w a n c x)(e:Ext w b):Mg b a n c x:=by
 obtain⟨d,h1,h2,h3⟩:=h;exact⟨d,h1.ext e,h2,h3.ext e⟩
theorem Mg.kept{w i:World}{a:Option Addr}{n c x:Nat}{row:Option Nat}(h:Mg w a n c x)(f:w.grownBy i row)(j:∀ g,row=some g->∃ d t e,w.heap[g]?=some (.cells d t e)/\241≠t):Mg i a n c x:=by
 obtain⟨k,h1,h2,h3⟩:=h;have b:blk a=none\/blk a≠row:=by
  cases row with
  | none=>cases h:blk a <;> simp
  | some g =>
   obtain⟨d,t,e,h4,h5⟩:=j g rfl;exact Or.inr (h3.ne h4 h5)
 exact⟨k,h1.kept f b,h2,h3.kept f b⟩
theorem Mg.keptA(h:Mg w a n c x)(d:Arr w g t cs)(f:241≠t)(e:w.grownBy w' (some g)):Mg w' a n c x :=
 h.kept e fun k b=>by
  injection b with b;subst b;exact⟨_,_,_,d,f⟩
theorem Mg.nil(w:World):Mg w none 0 0 0:=⟨[],SlN.nil _ _,Num.nil _,TyS.none _ _⟩
theorem Mg.zero(h:Mg w a n c x):n=0<->x=0:=by
 obtain⟨b,h1,h2,-⟩:=h;have h3:=W.nrm_zero (B:=4294967296) (by omega) h2.nrm;rw[h2.val]at h3;have h4:=h1.len;constructor
 · intro h0;exact h3.2 (pG (by omega))
 · intro h0;rw[h3.1 h0]at h4;exact h4.symm
def Ua(w:World)(x:Nat)(e:Ending)(w':World):Prop:=∃ a n c,e = .returned (.slice a n c)/\Ext w w'/\Mg w' a n c x
theorem Dp{v:Nat}(i:SlN .u32 w a n c xs)(b:TyS w a 241)(e:m<=n)(f:W.trim xs=xs.take m)(d:W.bnd 4294967296 xs)(g:W.val 4294967296 xs=v):Mg w a m c v :=
 ⟨W.trim xs,by rw[f];exact i.upto e,Num.trim d g,b⟩
theorem Ce(g:SlN .u32 w a n c xs) :
 Calls prog 212 #[.slice a n c] w fun e B=>∃ m,e = .returned (.slice a m c)/\w=B/\m<=n/\W.trim xs=xs.take m:=by
 have q:=lz g.len;have x:=g.le;have p:=g.cap
 go_enter func212,ntmps212
 go_wp2
 go_loop[0] (fun v=>∃ k:Nat,k<=n/\v = .slice a k c/\Hid (W.trim xs=W.trimTo xs k)) (fun v=>match v with | .slice _ k _=>k | _=>0)
 case atStart=>exact⟨n,lrf _,rfl,lz (by unfold W.trim;rw[q.out])⟩
 case round =>
  obtain⟨k,D,rfl,i⟩:=hrel;cases k with
  | zero =>
   go_wp2;go_ret;exact⟨0,rfl,rfl,by omega,by rw[i.out];rfl⟩
  | succ k =>
   have z:=fun C:World=>Fc (P:=prog) (w:=C) (a:=a) (n:=k+1) underlying95 Cs (k:=k) (c:=c) (by omega);obtain⟨b,o,rfl,l⟩:=g.at (j:=k) (by omega);have r:=l k (by omega);have E:IntKind.i64.wrap (((k+1:Nat):Int)-1)=k:=by rw[qe,Int.natCast_one,oE];exact pq _ (by omega)
   have A:IntKind.i64.wrap ((k:Int)+1-1)=k:=by rw[oE];exact pq _ (by omega)
   have s:(k:Int)<(k:Int)+1:=by omega
   by_cases f:xs.getD k 0=0
   · have d:Hid (W.trim xs=W.trimTo xs k):=by
      show _=_;rw[i.out];exact pP f
     rw[f]at r;clear f l;go_wp2;go_round
     case rel=>exact⟨k,by omega,rfl,d⟩
     case measure=>simp
   · have d:Hid (W.trim xs=xs.take (k+1)):=by
      show _=_;rw[i.out];exact pC f
     have t:(((xs.getD k 0:Nat):Int) == 0)=false:=by simpa using f
     generalize xs.getD k 0=y at *
     clear f l;go_wp2;go_ret;exact⟨k+1,rfl,rfl,by omega,d.out⟩
theorem Fi(E:Mg w a n c x)(F:Mg w b m d y) :
 Calls prog 259 #[.slice a n c,.slice b m d] w fun e Y=>e = .returned (.int .i64 (AZ x y))/\Qt w Y:=by
 obtain⟨xs,E,N,-⟩:=E;obtain⟨ys,F,O,-⟩:=F;have p:=lz E.len;have q:=lz F.len;have X:=E.le;have V:=F.le;have r:=lz N;have s:=lz O;clear N O;by_cases D:n=m
 · have J:((n:Int) != (m:Int))=false:=by simp[D]
   have H:=lz D;clear D
   go_enter func259,ntmps259
   go_wp2
   go_loopw[5] (fun v wr=>∃ k:Nat,k<=n/\v = .int .i64 ((k:Int)-1)/\Qt w wr/\Hid (xs.drop k=ys.drop k)) (fun v _=>(intOf v+1).toNat)
   case atStart=>exact⟨n,lrf _,by go_num,Qt.refl _,lz (by rw[qm (by rw[p.out];exact lrf _),qm (by rw[q.out,H.out];exact lrf _)])⟩
   case round =>
    obtain⟨k,hk,rfl,A,G⟩:=hrel;cases k with
    | zero =>
     have P:Hid (x=y):=by
      have:=G.out;rw[qN,qN]at this;show x=y;rw[<-r.out.val,<-s.out.val,this]
     go_wp2;go_ret;exact⟨DF (by rw[P.out,Q9]),A⟩
    | succ k =>
     have g:k<m:=by have:=H.out;omega
     obtain⟨Z,o1,rfl,t⟩:=(E.ext A.ext).at (j:=k) (by omega);obtain⟨b2,o2,rfl,z⟩:=(F.ext A.ext).at (j:=k) g;have L:=t k (by omega);have M:=z k g;have K:((k+1:Nat):Int)-1=k:=by omega
     rw[K];by_cases he:xs.getD k 0=ys.getD k 0
     · have S:(((xs.getD k 0:Nat):Int) != ((ys.getD k 0:Nat):Int))=false:=Ox he;have I:Hid (xs.drop k=ys.drop k):=by
        show _=_;rw[qo (l:=xs) (by rw[p.out];omega),qo (l:=ys) (by rw[q.out];exact g),G.out];simp only[gqq,oO (show k<xs.length by rw[p.out];omega),oO (show k<ys.length by rw[q.out];exact g),pY]at he;rw[he]
       generalize xs.getD k 0=u at *
       generalize ys.getD k 0=v at *
       clear he t z;go_wp2
       go_quiet (fail)
       go_wp2;go_roundw
       case rel=>exact⟨k,by omega,by go_num,A.drewN _,I⟩
       case measure=>simp[intOf]
     · have S:(((xs.getD k 0:Nat):Int) != ((ys.getD k 0:Nat):Int))=true:=Kh he;have f:Hid (AZ x y=if xs.getD k 0<ys.getD k 0 then -1 else 1):=by
        show _=_;rcases Jn he with⟨h1,h2⟩|⟨h1,h2⟩
        · have:=M2 (B:=4294967296) (by rw[p.out,q.out,H.out]) (by rw[p.out];omega) G.out r.out.bnd h1;rw[r.out.val,s.out.val]at this;rw[G7 (by omega),pP h1]
        · have:=M2 (B:=4294967296) (xs:=ys) (ys:=xs) (by rw[p.out,q.out,H.out]) (by rw[q.out];omega) G.out.symm s.out.bnd h1;rw[r.out.val,s.out.val]at this;rw[G8 (by omega),pC (by omega)]
       generalize xs.getD k 0=u at *
       generalize ys.getD k 0=v at *
       clear he t z;have U:(k:Int)<n:=by omega
       have T:(k:Int)<m:=by omega
       go_wp2
       go_quiet (fail)
       go_wp2;have Q:(wr.drewN nq).cell? _=_:=L;have R:(wr.drewN nq).cell? _=_:=M;have C:=A.drewN nq;generalize wr.drewN nq=wq at *
       clear L M;by_cases o:u<v
       · have i:(u:Int)<(v:Int):=by omega
         rw[pP o]at f;clear o
         go_quiet (fail)
         go_wp2;go_ret;exact⟨DF f.out,C.drewN _⟩
       · have i:¬ (u:Int)<(v:Int):=by omega
         rw[pC o]at f;clear o
         go_quiet (fail)
         go_wp2;go_ret;exact⟨DF f.out,C.drewN _⟩
 · have J:((n:Int) != (m:Int))=true:=by simp;omega
   have f:Hid (AZ x y=if n<m then -1 else 1):=by
    show _=_;rcases Jn D with⟨h1,h2⟩|⟨h1,h2⟩
    · have:=W.len_lt (B:=4294967296) (by omega) r.out.bnd s.out.nrm (by rw[p.out,q.out];exact h1);rw[r.out.val,s.out.val]at this;rw[G7 (by omega),pP h1]
    · have:=W.len_lt (B:=4294967296) (by omega) s.out.bnd r.out.nrm (by rw[p.out,q.out];exact h1);rw[r.out.val,s.out.val]at this;rw[G8 (by omega),pC (by omega)]
   clear D;by_cases i:n<m
   · rw[pP i]at f
     go_enter func259,ntmps259
     go_wp2;go_ret;exact⟨DF f.out,Qt.refl _⟩
   · rw[pC i]at f
     go_enter func259,ntmps259
     go_wp2;go_ret;exact⟨DF f.out,Qt.refl _⟩
theorem Ro(hp:p<l.length)(h0:l.getD p 0=0)(h:W.val B l+c*B^p=V):W.val B (l.set p c)=V:=by
 have:=Js (B:=B) (D:=0) (s:=c) (c':=0) hp h (by rw[h0];omega);omega
theorem Kw(K:Mg w a n c x)(L:Mg w b m d y)(bn:n<=100000)(bm:m<=100000) :
 Calls prog 210 #[.slice a n c,.slice b m d] w (Ua w (x+y)):=by
 obtain⟨xs,K,O,-⟩:=K;obtain⟨ys,L,Q,-⟩:=L;by_cases hl:n<m
 case' pos =>
  have V:n<=m:=by omega
  have HV:Hid (x+y=W.val 4294967296 ys+W.val 4294967296 xs):=lz (by rw[O.val,Q.val,rO]);have BX:=Q.bnd;have BY:=O.bnd;have hX:=L;have hY:=K;have bN:=bm;clear K L O Q bm bn;generalize b=A,m=N,d=C,ys=X,a=P,n=M,c=D,xs=Y at *
  have q1:(M:Int)<N:=by omega
  go_enter func210,ntmps210
  go_upto_region 3 with(fail)
  clear q1
 case' neg =>
  have V:m<=n:=by omega
  have HV:Hid (x+y=W.val 4294967296 xs+W.val 4294967296 ys):=lz (by rw[O.val,Q.val]);have BX:=O.bnd;have BY:=Q.bnd;have hX:=K;have hY:=L;have bN:=bn;clear K L O Q bm bn;generalize a=A,n=N,c=C,xs=X,b=P,m=M,d=D,ys=Y at *
  have q1:¬ (N:Int)<M:=by omega
  go_enter func210,ntmps210
  go_upto_region 3 with(fail)
  clear q1
 all_goals
  clear hl;generalize x+y=z at *
  have HX:=lz hX.len;have HY:=lz hY.len
  go_upto_region 4 with(at_make;refine C6 (n:=N+1) rfl rfl underlying95 Cs rfl rfl rfl (by omega) (by unfold maxLen;omega) ?_;intro w1 Z U)
  go_wp2
  go_loopw[6,7] (fun cv iv wr=>∃ (k f:Nat) (t:List Nat),cv = .int .u64 f/\iv = .int .i64 k/\k<=N/\f<=1/\Ext w wr/\Az .u32 wr w.heap.size 241 w.heap.size (N+1) (N+1) t/\W.bnd 4294967296 t/\Hid (W.val 4294967296 t+f*4294967296^k=W.val 4294967296 (X.take k)+W.val 4294967296 (Y.take k))/\Hid (∀ j,k<=j->t.getD j 0=0)) (fun _ iv _=>N-(intOf iv).toNat)
  case atStart=>exact⟨0,0,List.replicate (N+1) 0,rfl,rfl,pE _,by omega,U,Az.of_zeros Z,Ga (by omega) _,lz (by rw[W.val_zeros];simp[W.val]),lz (fun j _=>EJ _ j)⟩
  case round =>
   clear Z U;obtain⟨k,f,t,rfl,rfl,hk,a7,J,o,bz,I,R⟩:=hrel;by_cases G:k<N
   · obtain⟨b1,o1,rfl,a0⟩:=(hX.ext J).at (j:=k) G;have g1:=a0 k G;have g3:=o.frozen k;have g4:=o.cell (i:=k) (by omega);have a9:=W.bnd_at BX (i:=k) (by rw[HX.out];exact G);have a8:(k:Int)<N:=by omega
     generalize hu:X.getD k 0=u at *
     clear a0;have r:=R.out k (lrf _);by_cases F:k<M
     · have a2:(k:Int)<M:=by omega
       obtain⟨b2,o2,rfl,a1⟩:=(hY.ext J).at (j:=k) F;have g2:=a1 k F;have aa:=W.bnd_at BY (i:=k) (by rw[HY.out];exact F);generalize hv:Y.getD k 0=v at *
       clear a1;have S:=lz (Js (B:=4294967296) (l:=t) (p:=k) (D:=u+v) (s:=(f+u+v)%4294967296) (c':=(f+u+v)/4294967296) (by rw[o.len];omega) I.out (by rw[r,sX];omega));have e1:((f:Int)+u+v)%4294967296=(((f+u+v)%4294967296:Nat):Int):=by omega
       have e2:((f:Int)+u+v)/4294967296=(((f+u+v)/4294967296:Nat):Int):=by omega
       have e3:(f+u+v)/4294967296<=1:=by omega
       have e4:(f+u+v)%4294967296<4294967296:=qf _ (by omega);generalize (f+u+v)%4294967296=s at *
       generalize (f+u+v)/4294967296=T at *
       have E:Hid (W.val 4294967296 (t.set k s)+T*4294967296^(k+1)=W.val 4294967296 (X.take (k+1))+W.val 4294967296 (Y.take (k+1))):=by
        show _=_;rw[S.out,BF,BF,hu,hv,qJ,pM u,pM v];omega
       clear S hu hv I;go_wp2;go_roundw
       case rel=>exact⟨k+1,T,t.set k s,rfl,by go_num,by omega,e3,J.setCell (lrf _) _,o.set k s,W.bnd_set bz e4,E,lz (Ha R.out)⟩
       case measure=>simp[intOf];omega
     · have a2:¬ (k:Int)<M:=by omega
       have hv:Y.getD k 0=0:=by rw[gqq,pV (by rw[HY.out];omega)];rfl
       have S:=lz (Js (B:=4294967296) (l:=t) (p:=k) (D:=u+0) (s:=(f+u)%4294967296) (c':=(f+u)/4294967296) (by rw[o.len];omega) I.out (by rw[r,sX];omega));have e1:((f:Int)+u)%4294967296=(((f+u)%4294967296:Nat):Int):=by omega
       have e2:((f:Int)+u)/4294967296=(((f+u)/4294967296:Nat):Int):=by omega
       have e3:(f+u)/4294967296<=1:=by omega
       have e4:(f+u)%4294967296<4294967296:=qf _ (by omega);generalize (f+u)%4294967296=s at *
       generalize (f+u)/4294967296=T at *
       have E:Hid (W.val 4294967296 (t.set k s)+T*4294967296^(k+1)=W.val 4294967296 (X.take (k+1))+W.val 4294967296 (Y.take (k+1))):=by
        show _=_;rw[S.out,BF,BF,hu,hv,qJ,pM u,pM 0];omega
       clear S hu hv I;go_wp2;go_roundw
       case rel=>exact⟨k+1,T,t.set k s,rfl,by go_num,by omega,e3,J.setCell (lrf _) _,o.set k s,W.bnd_set bz e4,E,lz (Ha R.out)⟩
       case measure=>simp[intOf];omega
   · have a5:k=N:=by omega
     subst a5;have g3:=o.frozen k;have g4:=o.cell (i:=k) (by omega);have r:=R.out k (lrf _);have g:=lz (Ro (by rw[o.len];omega) r I.out);have a6:(f:Int)%4294967296=(f:Int):=by omega
     rw[pu (by rw[HX.out];exact lrf _),pu (by rw[HY.out];exact V),<-HV.out]at g;clear I R r
     go_upto_region 14 with(fail)
     have H:=o.set k f;have a3:=W.bnd_set bz (i:=k) (v:=f) (by omega);have a4:=J.setCell (p:=⟨w.heap.size,k,none⟩) (lrf _) (.int .u32 (f:Int));generalize wr.setCell ⟨w.heap.size,k,none⟩ (.int .u32 (f:Int))=w5 at *
     clear o bz J g3 g4
     go_wp2_with fail
     refine(Ce H.sl).mono ?_;rintro e w6 ⟨q,rfl,rfl,hq,ht⟩;go_wp2;go_ret;exact⟨_,q,_,rfl,a4,Dp H.sl H.ty hq ht a3 g.out⟩
theorem BZ(x:Int):IntKind.u64.wrap x=x%18446744073709551616:=rfl
theorem Ub{v:Nat}(hu:u<4294967296)(c:v<4294967296)(b:cy<=1):∃ s a:Nat,s<4294967296/\a<=1/\s+v+cy=u+4294967296*a/\IntKind.u64.wrap (IntKind.u64.wrap ((u:Int)-cy)-v)%4294967296=s/\bits BinOp.and IntKind.u64 (IntKind.u64.wrap (IntKind.u64.wrap ((u:Int)-cy)-v)/4294967296) 1=a:=by
 rw[BZ,BZ];by_cases h:v+cy<=u
 · have h1:((u:Int)-cy)%18446744073709551616-v=((u-cy-v:Nat):Int):=by omega
   have h2:(((u:Int)-cy)%18446744073709551616-v)%18446744073709551616=((u-cy-v:Nat):Int):=by omega
   rw[h2];refine⟨u-cy-v,0,by omega,by omega,by omega,by omega,?_⟩;rw[show((u-cy-v:Nat):Int)/4294967296=0 by omega];rfl
 · have h2:(((u:Int)-cy)%18446744073709551616-v)%18446744073709551616=((18446744073709551616+u-cy-v:Nat):Int):=by omega
   rw[h2];refine⟨4294967296+u-cy-v,1,by omega,by omega,by omega,by omega,?_⟩;rw[show((18446744073709551616+u-cy-v:Nat):Int)/4294967296=4294967295 by omega];rfl
theorem Xo(hu:u<4294967296)(b:cy<=1):∃ s a:Nat,s<4294967296/\a<=1/\s+0+cy=u+4294967296*a/\IntKind.u64.wrap ((u:Int)-cy)%4294967296=s/\bits BinOp.and IntKind.u64 (IntKind.u64.wrap ((u:Int)-cy)/4294967296) 1=a:=by
 obtain⟨s,a,h1,h2,h3,h4,h5⟩:=Ub hu (v:=0) (by omega) b;rw[BZ]at h4 h5;have h6:(IntKind.u64.wrap ((u:Int)-cy)-((0:Nat):Int))%18446744073709551616=IntKind.u64.wrap ((u:Int)-cy):=by
  rw[BZ];omega
 rw[h6]at h4 h5;exact⟨s,a,h1,h2,h3,h4,h5⟩
theorem Kx(R:Mg w a n c x)(T:Mg w b m d y)(bn:n<=100000)(P:y<=x) :
 Calls prog 260 #[.slice a n c,.slice b m d] w (Ua w (x-y)):=by
 obtain⟨Y,R,V,-⟩:=R;obtain⟨G,T,X,-⟩:=T;have a1:m<=n:=by
  refine pQ fun hc => ?_;have:=W.len_lt (B:=4294967296) (by omega) V.bnd X.nrm (by rw[R.len,T.len];omega);rw[V.val,X.val]at this;omega
 have BX:=V.bnd;have BY:=X.bnd;have VX:=lz V.val;have VY:=lz X.val;have HX:=lz R.len;have HY:=lz T.len;have HL:=lz P;clear V X P
 go_enter func260,ntmps260
 go_upto_region 2 with(at_make;refine C6 (n:=n) rfl rfl underlying95 Cs rfl rfl rfl (by omega) (by unfold maxLen;omega) ?_;intro w1 K J)
 go_wp2
 go_loopw[6,7] (fun cv iv wr=>∃ (k t:Nat) (f:List Nat),cv = .int .u64 t/\iv = .int .i64 k/\k<=n/\t<=1/\Ext w wr/\Az .u32 wr w.heap.size 241 w.heap.size n n f/\W.bnd 4294967296 f/\Hid (W.val 4294967296 f+W.val 4294967296 (G.take k)=W.val 4294967296 (Y.take k)+t*4294967296^k)/\Hid (∀ j,k<=j->f.getD j 0=0)) (fun _ iv _=>n-(intOf iv).toNat)
 case atStart=>exact⟨0,0,List.replicate n 0,rfl,rfl,pE _,by omega,J,Az.of_zeros K,Ga (by omega) _,lz (by rw[W.val_zeros];simp[W.val]),lz (fun j _=>EJ _ j)⟩
 case round =>
  clear K J;obtain⟨k,t,f,rfl,rfl,hk,N,I,g,bz,F,Z⟩:=hrel;by_cases E:k<n
  · obtain⟨b1,o1,rfl,L⟩:=(R.ext I).at (j:=k) E;have g1:=L k E;have g3:=g.frozen k;have g4:=g.cell (i:=k) (by omega);have S:=W.bnd_at BX (i:=k) (by rw[HX.out];exact E);have a3:(k:Int)<n:=by omega
    generalize hu:Y.getD k 0=u at *
    clear L;have U:=Z.out k (lrf _);by_cases z:k<m
    · have O:(k:Int)<m:=by omega
      obtain⟨b2,o2,rfl,M⟩:=(T.ext I).at (j:=k) z;have g2:=M k z;have a2:=W.bnd_at BY (i:=k) (by rw[HY.out];exact z);generalize Q:G.getD k 0=v at *
      clear M;obtain⟨s,r,e4,e3,e0,e1,e2⟩:=Ub S a2 N;have H:=lz (P9 (B:=4294967296) (l:=f) (p:=k) (D:=v) (A:=u) (s:=s) (c':=r) (by rw[g.len];omega) F.out (by rw[U];omega));have o:Hid (W.val 4294967296 (f.set k s)+W.val 4294967296 (G.take (k+1))=W.val 4294967296 (Y.take (k+1))+r*4294967296^(k+1)):=by
       show _=_;rw[BF,BF,hu,Q,pM _ u,pM _ v];exact H.out
      clear H hu Q F e0;go_wp2;go_roundw
      case rel=>exact⟨k+1,r,f.set k s,rfl,by go_num,by omega,e3,I.setCell (lrf _) _,g.set k s,W.bnd_set bz e4,o,lz (Ha Z.out)⟩
      case measure=>simp[intOf];omega
    · have O:¬ (k:Int)<m:=by omega
      have Q:G.getD k 0=0:=by rw[gqq,pV (by rw[HY.out];omega)];rfl
      obtain⟨s,r,e4,e3,e0,e1,e2⟩:=Xo S N;have H:=lz (P9 (B:=4294967296) (l:=f) (p:=k) (D:=0) (A:=u) (s:=s) (c':=r) (by rw[g.len];omega) F.out (by rw[U];omega));have o:Hid (W.val 4294967296 (f.set k s)+W.val 4294967296 (G.take (k+1))=W.val 4294967296 (Y.take (k+1))+r*4294967296^(k+1)):=by
       show _=_;rw[BF,BF,hu,Q,pM _ u,pM _ 0];exact H.out
      clear H hu Q F e0;go_wp2;go_roundw
      case rel=>exact⟨k+1,r,f.set k s,rfl,by go_num,by omega,e3,I.setCell (lrf _) _,g.set k s,W.bnd_set bz e4,o,lz (Ha Z.out)⟩
      case measure=>simp[intOf];omega
  · have a0:k=n:=by omega
    subst a0;have C:Hid (W.val 4294967296 f=x-y):=by
     show _=_;have h1:=F.out;rw[pu (l:=G) (by rw[HY.out];exact a1),pu (l:=Y) (by rw[HX.out];exact lrf _),VX.out,VY.out]at h1;have h2:=W.val_lt bz;rw[g.len]at h2;have h3:=HL.out;have h4:t=0:=by
      rcases pT t with h|h
      · exact h
      · exfalso;have:t=1:=by omega
        rw[this,sk]at h1;omega
     rw[h4,r7]at h1;omega
    clear F Z
    go_wp2_with fail
    refine(Ce g.sl).mono ?_;rintro e w6 ⟨q,rfl,rfl,hq,ht⟩;go_wp2;go_ret;exact⟨_,q,_,rfl,I,Dp g.sl g.ty hq ht bz C.out⟩
theorem Ky(U:Mg w a n c x)(V:Mg w b m d y)(bn:n<=100000)(bm:m<=100000) :
 Calls prog 211 #[.slice a n c,.slice b m d] w (Ua w (x*y)):=by
 have z1:=U.zero;have z2:=V.zero;obtain⟨xs,U,nx,-⟩:=U;obtain⟨H,V,ny,-⟩:=V;by_cases h0:n=0\/m=0
 · have HZ:Hid (x*y=0):=by
    show _=_;rcases h0 with h0|h0
    · rw[z1.1 h0,r7]
    · rw[z2.1 h0,tQ]
   have G:((n:Int) == 0)=true\/(((n:Int) == 0)=false/\((m:Int) == 0)=true):=by
    by_cases h1:n=0
    · left;simp[h1]
    · right;exact⟨by simpa using h1,by simp;omega⟩
   clear h0 z1 z2;rcases G with hp|⟨hp,ah⟩
   all_goals
    go_enter func211,ntmps211
    go_wp2;go_ret;exact⟨none,0,0,rfl,Ext.refl w,by rw[HZ.out];exact Mg.nil w⟩
 · have a1:((n:Int) == 0)=false:=by simp;omega
   have a2:((m:Int) == 0)=false:=by simp;omega
   have BX:=nx.bnd;have BY:=ny.bnd;have VX:=lz nx.val;have VY:=lz ny.val;have HX:=lz U.len;have HY:=lz V.len;clear h0 z1 z2 nx ny
   go_enter func211,ntmps211
   go_upto_region 4 with(at_make;refine C6 (n:=n+m) rfl rfl underlying95 Cs rfl rfl rfl (by omega) (by unfold maxLen;omega) ?_;intro w1 M L)
   clear a1 a2;go_wp2
   go_loopw[6] (fun iv wr=>∃ (i:Nat) (f:List Nat),iv = .int .i64 i/\i<=n/\Ext w wr/\Az .u32 wr w.heap.size 241 w.heap.size (n+m) (n+m) f/\W.bnd 4294967296 f/\Hid (W.val 4294967296 f=W.val 4294967296 (xs.take i)*y)/\Hid (∀ j,i+m<=j->f.getD j 0=0)) (fun iv _=>n-(intOf iv).toNat)
   case atStart=>exact⟨0,List.replicate (n+m) 0,rfl,pE _,L,Az.of_zeros M,Ga (by omega) _,lz (by rw[W.val_zeros];simp[W.val]),lz (fun j _=>EJ _ j)⟩
   case round =>
    clear M L;obtain⟨i,X,rfl,hi,D,r,C,A,I⟩:=hrel;by_cases F:i<n
    · have R:(i:Int)<n:=by omega
      obtain⟨b1,o1,rfl,N⟩:=(U.ext (Ext.refl w)).at (j:=i) F;have gx:=N i F;have a7:=W.bnd_at BX (i:=i) (by rw[HX.out];exact F);have HT:Hid (W.val 4294967296 (xs.take (i+1))=W.val 4294967296 (xs.take i)+4294967296^i*xs.getD i 0):=lz (BF xs i);generalize xs.getD i 0=u at *
      clear N;go_wp2
      go_loopw[7,8] (fun cv kv wr=>∃ (k p:Nat) (f:List Nat),cv = .int .u64 p/\kv = .int .i64 k/\k<=m/\p<4294967296/\Ext w wr/\Az .u32 wr w.heap.size 241 w.heap.size (n+m) (n+m) f/\W.bnd 4294967296 f/\Hid (W.val 4294967296 f+p*4294967296^(i+k)=W.val 4294967296 (xs.take i)*y+u*W.val 4294967296 (H.take k)*4294967296^i)/\Hid (∀ j,i+m<=j->f.getD j 0=0)) (fun _ kv _=>m-(intOf kv).toNat)
      case atStart=>exact⟨0,0,X,rfl,rfl,pE _,by omega,D,r,C,lz (by rw[A.out];simp[W.val]),I⟩
      case round =>
       clear D r C A I;obtain⟨k,p,f,rfl,rfl,hk,P,K,z,bz,Y,Z⟩:=hrel;by_cases E:k<m
       · have ab:(k:Int)<m:=by omega
         obtain⟨b2,o2,rfl,O⟩:=(V.ext K).at (j:=k) E;have g1:=K.cell gx;have g2:=O k E;have g3:=z.cell (i:=i+k) (by omega);have g4:=z.frozen (i+k);have a8:=W.bnd_at BY (i:=k) (by rw[HY.out];exact E);have a9:=W.bnd_at bz (i:=i+k) (by rw[z.len];omega);have Q:=Ye a7 a8 a9 P;have HS:=lz (T9 (B:=4294967296) (l:=f) (xs:=H) (k:=k) (o:=i) (w:=u) (s:=(u*H.getD k 0+f.getD (i+k) 0+p)%4294967296) (c':=(u*H.getD k 0+f.getD (i+k) 0+p)/4294967296) (by rw[z.len];omega) Y.out (by rw[sX];omega))
         have a6:IntKind.i64.wrap ((i:Int)+k)=((i+k:Nat):Int):=by rw[<-qe];exact pq _ (by omega)
         obtain⟨t,T⟩:∃ t,u*H.getD k 0+f.getD (i+k) 0+p=t:=⟨_,rfl⟩;rw[T]at HS Q;generalize H.getD k 0=v at *
         generalize f.getD (i+k) 0=o at *
         have a3:t/4294967296<4294967296:=by omega
         have a5:t%4294967296<4294967296:=qf _ (by omega);have J:Hid (IntKind.u64.wrap ((p:Int)+IntKind.u64.wrap (IntKind.u64.wrap ((u:Int)*v)+o))=(t:Int)):=by
          show _=_;rw[<-q7,Do (by omega),<-qe,Do (by omega),<-qe,rO,T,Do (by omega)]
         clear T O;have f1:(t:Int)%4294967296=((t%4294967296:Nat):Int):=by omega
         have f2:(t:Int)/4294967296=((t/4294967296:Nat):Int):=by omega
         have a4:(i:Int)+k<n+m:=by omega
         go_upto_region 11 with(fail)
         go_quiet (fail)
         rw[J.out];have a0:=K.drewN nq;have aa:=z.drewN nq;have ac:(wr.drewN nq).cell? _=_:=g3;have ad:(wr.drewN nq).frozen? _=_:=g4;generalize wr.drewN nq=wq at *
         generalize t%4294967296=s at *
         generalize t/4294967296=c2 at *
         clear J g1 g2 g3 g4 K z Y;go_wp2;go_roundw
         case rel=>exact⟨k+1,c2,f.set (i+k) s,rfl,by go_num,by omega,a3,a0.setCell (lrf _) _,aa.set (i+k) s,W.bnd_set bz a5,HS,lz (fun j hj=>by rw[gqq,rp (by omega),<-gqq];exact Z.out j hj)⟩
         case measure=>simp[intOf];omega
       · have S:k=m:=by omega
         subst S;have g3:=z.cell (i:=i+k) (by omega);have g4:=z.frozen (i+k);have g:=lz (Ro (by rw[z.len];omega) (Z.out (i+k) (by omega)) Y.out);have a6:IntKind.i64.wrap ((i:Int)+k)=((i+k:Nat):Int):=by rw[<-qe];exact pq _ (by omega)
         have a4:(i:Int)+k<n+k:=by omega
         have ag:(p:Int)%4294967296=(p:Int):=by omega
         go_wp2;go_roundw
         case rel =>
          refine⟨i+1,f.set (i+k) p,by go_num,by omega,K.setCell (lrf _) _,z.set (i+k) p,W.bnd_set bz P,?_,lz (fun j hj=>by rw[gqq,rp (by omega),<-gqq];exact Z.out j (by omega))⟩;show _=_;rw[g.out,HT.out,pu (l:=H) (by rw[HY.out];exact lrf _),VY.out,qJ,pM (4294967296^i) u,Nat.mul_right_comm]
         case measure=>simp[intOf];omega
    · have R:i=n:=by omega
      subst R;have g:Hid (W.val 4294967296 X=x*y):=by
       show _=_;rw[A.out,pu (by rw[HX.out];exact lrf _),VX.out]
      go_wp2_with fail
      refine(Ce r.sl).mono ?_;rintro e w6 ⟨q,rfl,rfl,hq,T⟩;go_wp2;go_ret;exact⟨_,q,_,rfl,D,Dp r.sl r.ty hq T C g.out⟩
theorem Xp{r:Nat}(a:r<4294967296)(hu:u<4294967296):bits BinOp.or IntKind.u64 ((r:Int)*4294967296) (u:Int)=((r*4294967296+u:Nat):Int):=by
 have h:=wQ (r*4294967296) u (by omega) (by omega);rw[oR 32 (r*4294967296) u (by omega) (by omega)]at h;rw[<-h,q7];rfl
theorem Gm(v:Mg w a n c x)(bn:n<=100000)(h0:0<dd)(hd:dd<4294967296) :
 Calls prog 223 #[.slice a n c,.int .u32 dd] w fun e M=>∃ L K,e = .returned (.tuple #[.slice (some ⟨w.heap.size,0,none⟩) L K,.int .u32 ((x%dd:Nat):Int)])/\Ext w M/\Mg M (some ⟨w.heap.size,0,none⟩) L K (x/dd):=by
 obtain⟨xs,v,I,-⟩:=v;have N:=I.bnd;have S:=lz I.val;have z:=lz v.len;have O:=lz h0;clear I
 go_enter func223,ntmps223
 go_upto_region 2 with(at_make;refine C6 (n:=n) rfl rfl underlying95 Cs rfl rfl rfl (by omega) (by unfold maxLen;omega) ?_;intro w1 l g)
 go_wp2
 go_loopw[7,8] (fun Z H wr=>∃ (k r:Nat) (zs:List Nat),Z = .int .u64 r/\H = .int .i64 ((k:Int)-1)/\k<=n/\r<dd/\Ext w wr/\Az .u32 wr w.heap.size 241 w.heap.size n n zs/\W.bnd 4294967296 zs/\Hid (W.val 4294967296 (xs.drop k)=W.val 4294967296 (zs.drop k)*dd+r)) (fun _ H _=>(intOf H+1).toNat)
 case atStart=>exact⟨n,0,List.replicate n 0,rfl,by go_num,lrf _,h0,g,Az.of_zeros l,Ga (by omega) _,lz (by rw[qm (by rw[z.out];exact lrf _),qm (by simp)];simp[W.val])⟩
 case round =>
  clear l g;obtain⟨k,r,zs,rfl,rfl,hk,D,A,f,J,s⟩:=hrel;cases k with
  | zero =>
   have C:W.val 4294967296 zs=x/dd/\r=x%dd:=by
    have h1:=s.out;rw[qN,qN,S.out]at h1;rw[h1];constructor
    · rw[pM,tH (O.out),rH D,qy]
    · rw[pM,v8,rG D]
   obtain⟨o,b⟩:=C;have Q:=lz o;have R:=lz b;clear o b s;have X:(r:Int)%4294967296=(r:Int):=by omega
   go_wp2_with fail
   refine(Ce f.sl).mono ?_;rintro e w6 ⟨q,rfl,rfl,C,p⟩;go_wp2
   go_ret2
   exact⟨q,_,by rw[R.out];rfl,A,Dp f.sl f.ty C p J Q.out⟩
  | succ k =>
   obtain⟨b1,o1,rfl,m⟩:=(v.ext A).at (j:=k) (by omega);have g1:=m k (by omega);have g3:=f.frozen k;have g4:=f.cell (i:=k) (by omega);have G:=W.bnd_at N (i:=k) (by rw[z.out];omega);have F:((k+1:Nat):Int)-1=k:=by omega
   rw[F];have U:(k:Int)<n:=by omega
   generalize hu:xs.getD k 0=u at *
   clear m;obtain⟨t,p⟩:∃ t,r*4294967296+u=t:=⟨_,rfl⟩;have e1:bits BinOp.or IntKind.u64 ((r:Int)*4294967296) (u:Int)=(t:Int):=by rw[Xp (by omega) G,p]
   have e2:(t:Int).tdiv (dd:Int)=((t/dd:Nat):Int):=by rw[qI (by omega)];rfl
   have e3:(t:Int).tmod (dd:Int)=((t%dd:Nat):Int):=by rw[rt (by omega)];rfl
   have hd0:((dd:Int) == 0)=false:=by simp;omega
   have T:¬ (dd:Int)=0:=by omega
   have E:t%dd<dd:=qf _ h0;have b:t/dd<4294967296:=by
    refine x8 ?_;have h1:(r+1)*4294967296<=dd*4294967296:=px _ D;omega
   have P:=lz (KT (B:=4294967296) (xs:=xs) (zs:=zs) (k:=k) (q:=t/dd) (r':=t%dd) (d:=dd) (by rw[z.out];omega) (by rw[f.len];omega) s.out (by rw[hu,p,pM];exact(qM t dd).symm));generalize t%dd=Y at *
   generalize t/dd=y at *
   have V:(y:Int)%4294967296=(y:Int):=by omega
   clear p s hu;go_wp2;go_roundw
   case rel=>exact⟨k,Y,zs.set k y,rfl,by go_num,by omega,E,A.setCell (lrf _) _,f.set k y,W.bnd_set J b,P⟩
   case measure=>simp[intOf]
theorem Nc(k:Mg w a n c x)(i:n<=100000)(h0:0<dd)(j:dd<4294967296) :
 Calls prog 223 #[.slice a n c,.int .u32 dd] w fun e g=>∃ f d b,e = .returned (.tuple #[.slice f d b,.int .u32 ((x%dd:Nat):Int)])/\Ext w g/\Mg g f d b (x/dd) :=
 (Gm k i h0 j).mono fun _ _ ⟨d,b,h⟩=>⟨_,d,b,h⟩
theorem Mb(a:s<=32):2^(32-s)*2^s=4294967296:=by rw[<-sG,show 32-s+s=32 by omega]
theorem Yf(a:s<=31)(hu:u<4294967296):∃ L V:Nat,u*2^s=V*4294967296+L/\L<4294967296/\V<2^s/\L%2^s=0/\V=u*2^s/4294967296/\L=u*2^s%4294967296/\u*2^s<18446744073709551616:=by
 have hp:=Mb (s:=s) (by omega);have h1:u*2^s<4294967296*2^s:=rh hu (qr s);have h2:2^s<=2^31:=pR (by omega) a;have h3:4294967296*2^s<=4294967296*2^31:=qp _ h2;refine⟨u*2^s%4294967296,u*2^s/4294967296,?_,qf _ (by omega),?_,?_,rfl,rfl,by omega⟩
 · rw[pM (u*2^s/4294967296)];exact(qM _ _).symm
 · exact x8 h1
 · rw[<-hp,Nat.mod_mul_left_mod,wW]
theorem Gn(U:SlN .u32 w a n c xs)(Y:W.bnd 4294967296 xs)(bn:n<=100000)(hs:s<=31) :
 Calls prog 299 #[.slice a n c,.int .u64 s] w fun e X=>∃ b,e = .returned (.slice (some ⟨w.heap.size,0,none⟩) (n+1) (n+1))/\Ext w X/\Az .u32 X w.heap.size 241 w.heap.size (n+1) (n+1) b/\W.bnd 4294967296 b/\W.val 4294967296 b=W.val 4294967296 xs*2^s:=by
 have I:=lz U.len
 go_enter func299,ntmps299
 go_upto_region 2 with(at_make;refine C6 (n:=n+1) rfl rfl underlying95 Cs rfl rfl rfl (by omega) (by unfold maxLen;omega) ?_;intro w1 r m)
 go_wp2
 go_loopw[6] (fun R wr=>∃ (k:Nat) (b:List Nat),R = .int .i64 k/\k<=n/\Ext w wr/\Az .u32 wr w.heap.size 241 w.heap.size (n+1) (n+1) b/\W.bnd 4294967296 b/\Hid (W.val 4294967296 b=W.val 4294967296 (xs.take k)*2^s)/\Hid (∀ j,k<j->b.getD j 0=0)/\Hid (b.getD k 0<2^s)) (fun R _=>n-(intOf R).toNat)
 case atStart=>exact⟨0,List.replicate (n+1) 0,rfl,pE _,m,Az.of_zeros r,Ga (by omega) _,lz (by rw[W.val_zeros];simp[W.val]),lz (fun j _=>EJ _ j),lz (by rw[EJ];exact qr s)⟩
 case round =>
  clear r m;obtain⟨k,b,rfl,hk,K,f,J,H,C,S⟩:=hrel;by_cases d:k<n
  · obtain⟨b1,o1,rfl,y⟩:=(U.ext K).at (j:=k) d;have g1:=y k d;have g2:=f.cell (i:=k) (by omega);have g3:=f.frozen k;have g4:=f.frozen (k+1);have g5:=f.cell (i:=k+1) (by omega);rw[C.out (k+1) (by omega)]at g5;have P:=W.bnd_at Y (i:=k) (by rw[I.out];exact d);obtain⟨L,V,g,o,M,A,x,p,q⟩:=Yf hs P;have Z:=lz (OV (B:=4294967296) (l:=b) (xs:=xs) (k:=k) (s:=s) (L:=L) (V:=V) (by rw[f.len];omega) (by rw[I.out];exact d) H.out (C.out _ (by omega)) g);have Q:b.getD k 0<4294967296:=W.bnd_at J (i:=k) (by rw[f.len];omega)
    have F:Hid (∀ v j,k+1<j->((b.set k v).set (k+1) V).getD j 0=0):=by
     show ∀ v j,k+1<j->((b.set k v).set (k+1) V).getD j 0=0;intro v j hj;rw[gqq,rp (by omega),rp (by omega),<-gqq];exact C.out j (by omega)
    have G:Hid (∀ v,((b.set k v).set (k+1) V).getD (k+1) 0<2^s):=by
     show ∀ v,((b.set k v).set (k+1) V).getD (k+1) 0<2^s;intro v;rw[gqq,List.getElem?_set_self (by rw[ve,f.len];omega)];exact M
    have O:b.getD k 0+L<4294967296:=by
     have h1:=Mb (s:=s) (by omega);have h2:L/2^s*2^s+L%2^s=L:=Nat.div_add_mod' L (2^s);have h3:L/2^s<2^(32-s):=x8 (by rw[pM,h1];exact o);have h4:(L/2^s+1)*2^s<=2^(32-s)*2^s:=px _ h3;rw[qJ,sk]at h4;have h5:=S.out;omega
    have e3:bits BinOp.or IntKind.u32 ((b.getD k 0:Nat):Int) (L:Int)=((b.getD k 0+L:Nat):Int):=by
     rw[u32_or_nat _ L Q o,oX,oR s L (b.getD k 0) A S.out,rO]
    generalize xs.getD k 0=u at *
    obtain⟨t,D⟩:∃ t,u*2^s=t:=⟨_,rfl⟩;have e1:IntKind.u64.wrap ((u:Int)*2^s)=(t:Int):=by
     have:=Do q;rw[D]at this;rw[<-this,<-D];push_cast;rfl
    rw[D]at g x p q;have e2:(t:Int)%4294967296=(L:Int):=by omega
    have e4:(t:Int)/4294967296=(V:Int):=by omega
    have N:V<4294967296:=by omega
    have a0:(V:Int)%4294967296=(V:Int):=by omega
    generalize b.getD k 0+L=E at *
    generalize b.getD k 0=z at *
    have a1:(k:Int)<n:=by omega
    have T:(k:Int)<(n:Int)+1:=by omega
    clear y g x p D H C;go_wp2;go_roundw
    case rel=>exact⟨k+1,(b.set k E).set (k+1) V,by go_num,by omega,(K.setCell (lrf _) _).setCell (lrf _) _,(f.set k E).set (k+1) V,W.bnd_set (W.bnd_set J O) N,Z,lz (F.out E),lz (G.out E)⟩
    case measure=>simp[intOf];omega
  · have ek:k=n:=by omega
    have hv:W.val 4294967296 b=W.val 4294967296 xs*2^s:=by
     have h1:=H.out;rw[ek,pu (by rw[I.out];exact lrf _)]at h1;exact h1
    go_wp2;go_ret;exact⟨b,rfl,K,f,J,hv⟩
def Ju(w:World)(q r:Nat)(e:Ending)(w':World):Prop:=∃ a n c b m d,e = .returned (.tuple #[.slice a n c,.slice b m d])/\Ext w w'/\Mg w' a n c q/\Mg w' b m d r
theorem Lp(l:Mg w a n c x)(J:Mg w b m d y)(N:n<=100000)(i:x<y) :
 Calls prog 258 #[.slice a n c,.slice b m d] w (Ju w (x/y) (x%y)):=by
 have r:=lz (Fi l J);have G:AZ (x:Int) (y:Int)<0:=Dw.2 i;rw[rH i,rG i]
 go_enter func258,ntmps258
 go_wp2_with fail
 refine r.out.mono ?_;rintro e o ⟨rfl,D⟩;generalize AZ (x:Int) (y:Int)=O at *
 have F:=fun L:World=>Ow (P:=prog) (w:=L) underlying95 Cs;obtain⟨M,l,K,-⟩:=l;have f:=D.ext;have t:=l.ext (f.trans ((Ext.refl o).alloc (.cells #[] 241)));have q:=AB o o.heap.size 241 #[] 0 rfl (lrf _) (by omega)
 go_wp2_with(refine B5 rfl rfl underlying95 Cs rfl rfl q rfl t (by intro v I;obtain⟨z,_,rfl⟩:=pU.1 I;rfl) (by unfold maxLen;omega) (by omega) (by simp) ?_;intro B C A k s E)
 have j:=(Ext.refl o).alloc (.cells #[] 241)
 have p:Ext w A:=(f.trans j).grown s fun g h=>by
  simp only[blk,qU,pz]at h;have:=f.size;have:=j.size;omega
 have H:Mg A B n C x:=⟨M,by have h1:=k.sl;rw[qA]at h1;exact h1,K,k.ty⟩
 go_ret2
 exact⟨none,0,0,B,n,C,rfl,p,Mg.nil A,H⟩
theorem Kz(E:Mg w a n c x)(C:Mg w b 1 d y)(F:n<=100000)(L:y<=x)(h0:0<y) :
 Calls prog 258 #[.slice a n c,.slice b 1 d] w (Ju w (x/y) (x%y)):=by
 have A:=lz (Fi E C);have J:¬ AZ (x:Int) (y:Int)<0:=by rw[Dw];omega
 have m:y<4294967296:=by
  obtain⟨D,h1,h2,-⟩:=C;have h3:=W.val_lt h2.bnd;rw[h2.val,h1.len]at h3;exact h3
 obtain⟨f,o,rfl,G⟩:∃ f o,b=some ⟨f,o,none⟩/\w.cell? ⟨f,o,none⟩=some (.int .u32 (y:Int)):=by
  obtain⟨D,h1,h2,-⟩:=C;obtain⟨f,o,rfl,I⟩:=h1.at (j:=0) (by omega);refine⟨f,o,rfl,?_⟩;have h3:=I 0 (by omega);have h4:D.getD 0 0=y:=by
   have h5:=h1.len
   match D,h5 with
   | [z],_=>have h6:=h2.val;simp[W.val]at h6;simpa using h6
  rw[h4]at h3;exact h3
 go_enter func258,ntmps258
 go_wp2_with fail
 refine A.out.mono ?_;rintro e V ⟨rfl,s⟩;generalize AZ (x:Int) (y:Int)=T at *
 have H:=s.ext.cell G;have B:=lz (Nc (E.ext s.ext) F h0 m)
 go_wp2_with fail
 refine B.out.mono ?_;rintro e p ⟨R,U,S,rfl,q,N⟩;have O:x%y<4294967296:=vP (qf _ h0) m;generalize x%y=r at *
 go_upto_region 5 with(fail)
 have i:=(AB p p.heap.size 241 #[.int .u32 (r:Int)] 1 rfl (lrf _) (by omega));have l:SlN .u32 (p.alloc (.cells #[.int .u32 (r:Int)] 241)) (some ⟨p.heap.size,0,none⟩) 1 1 [r]:=i.sl
 go_wp2_with fail
 refine(Ce l).mono ?_;rintro e X ⟨k,rfl,rfl,K,P⟩;have t:W.bnd 4294967296 [r]:=fun z Q=>by rw[pF.1 Q];exact O
 have M:=Dp l i.ty K P t (v:=r) (by simp[W.val]);have g:=(Ext.refl p).alloc (.cells #[.int .u32 (r:Int)] 241);go_wp2
 go_ret2
 exact⟨_,_,_,_,_,_,rfl,(s.ext.trans q).trans g,N.ext g,M⟩
theorem A6:Agg prog 97 2:=⟨by kernel_rfl,by kernel_rfl⟩
theorem Mg.len{w:World}{a:Option Addr}{n c x:Nat}(h:Mg w a n c x){k:Nat}(b:x<P2 (32*k)):n<=k:=by
 obtain⟨d,h1,h2,-⟩:=h;unfold P2 at b;rw[vM]at b;have h3:=W.nrm_len (B:=4294967296) (by omega) h2.nrm (by rw[h2.val];exact b);rw[h1.len]at h3;exact h3
theorem Mg.pos(h:Mg w a n c x)(h0:0<x):0<n:=by
 have:=h.zero;omega
def ZR(w:World)(v:Value)(z:Int):Prop:=∃ s a n c,v = .agg (Ac s a n c).toArray/\Hid (decide (z<0)=s)/\Mg w a n c z.natAbs
theorem ZR.ext{w b:World}{v:Value}{z:Int}(h:ZR w v z)(e:Ext w b):ZR b v z:=by
 obtain⟨s,a,n,c,h1,d,h2⟩:=h;exact⟨s,a,n,c,h1,d,h2.ext e⟩
def Nd(w:World)(z:Int)(e:Ending)(w':World):Prop:=∃ s a n c,e = .returned (.agg (Ac s a n c).toArray)/\Ext w w'/\Hid (decide (z<0)=s)/\Mg w' a n c z.natAbs
theorem Nd.r{e:Ending}(h:Nd w z e w'):∃ v,e = .returned v/\Ext w w'/\ZR w' v z:=by
 obtain⟨s,a,n,c,h1,h2,h3,h4⟩:=h;exact⟨_,h1,h2,s,a,n,c,rfl,h3,h4⟩
theorem DK{s:Bool}(e:Ext w w1)(f:Arr w1 R t cs)(g:241≠t)(b:w1.grownBy w9 (some R))(i:w.heap.size<=R)(d:Hid (decide (z<0)=s))(j:Mg w1 a n c z.natAbs):Nd w z (.returned (.agg (Ac s a n c).toArray)) w9 :=
 ⟨s,a,n,c,rfl,e.grownR b i,d,j.keptA f g b⟩
def Yh(w:World)(z y:Int)(e:Ending)(w':World):Prop:=∃ s a n c t b m d,e = .returned (.tuple #[.agg (Ac s a n c).toArray,.agg (Ac t b m d).toArray])/\Ext w w'/\(Hid (decide (z<0)=s)/\Mg w' a n c z.natAbs)/\(Hid (decide (y<0)=t)/\Mg w' b m d y.natAbs)
def Yi(w:World)(a:Option Addr)(n c:Nat)(z:Int)(e:Ending)(w':World):Prop:=∃ s,e = .returned (.agg (Ac s a n c).toArray)/\Ext w w'/\Hid (decide (z<0)=s)/\Mg w' a n c z.natAbs
theorem KA(k:Mg w a n c x){z:Int}(i:z=if neg=true then -(x:Int)else x) :
 Calls prog 149 #[.bool neg,.slice a n c] w (Yi w a n c z):=by
 have g:=k.zero;have m:Hid (z.natAbs=x):=by show _=_;rw[i];split <;> omega
 cases neg with
 | true =>
  have j:Hid (decide (z<0)=decide (0<n)):=by show _=_;rw[i,pP rfl];apply rV.2;omega
  clear g i
  go_enter func149,ntmps149
  go_upto_region 1 with(fail)
  refine AP ?_;intro o b e l
  go_wp2_with(refine Aa (vs:=Ac _ a n c) rfl rfl rfl rfl rfl A6 e rfl (Ae _ _ _ _) ?_;intro p f d)
  refine py (v := .agg (Ac (decide (0<n)) a n c).toArray) (Ap rfl A6 rfl f) rfl ⟨_,rfl,b.grownR d (lrf _),j,by rw[m.out];exact k.ext (b.grownR d (lrf _))⟩
 | false =>
  have j:Hid (decide (z<0)=false):=by show _=_;rw[i,pC (by simp)];simp
  clear g i
  go_enter func149,ntmps149
  go_upto_region 1 with(fail)
  refine AP ?_;intro o b e l
  go_wp2_with(refine Aa (vs:=Ac _ a n c) rfl rfl rfl rfl rfl A6 e rfl (Ae _ _ _ _) ?_;intro p f d)
  refine py (v := .agg (Ac false a n c).toArray) (Ap rfl A6 rfl f) rfl ⟨_,rfl,b.grownR d (lrf _),j,by rw[m.out];exact k.ext (b.grownR d (lrf _))⟩
theorem Ch(b:Mg w a n c x){z:Int}(d:z=if neg=true then -(x:Int)else x) :
 Calls prog 149 #[.bool neg,.slice a n c] w (Nd w z) :=
 (KA b d).mono fun _ _ ⟨s,h1,h2,h3,h4⟩=>⟨s,a,n,c,h1,h2,h3,h4⟩
theorem KB(h:ZR w v z){r:Int}(g:z.sign=r):Calls prog 150 #[v] w fun e y=>e = .returned (.int .i64 r)/\Ext w y:=by
 obtain⟨s,a,n,c,rfl,o,x⟩:=h;have f:=x.zero;cases s with
 | true =>
  have j:z<0:=by simpa using o.out
  have i:Hid (r = -1):=by show _=_;rw[<-g,p8 j]
  clear g j f
  go_enter func150,ntmps150
  go_upto_region 1 with(fail)
  refine AP ?_;intro p d b k;have l:=b.c 0 rfl;have m:=b.c 1 rfl;go_wp2;go_ret;exact⟨by rw[i.out];rfl,d⟩
 | false =>
  have j:¬ z<0:=by simpa using o.out
  by_cases h0:z=0
  · have q:n=0:=f.2 (by omega);have i:Hid (r=0):=by show _=_;rw[<-g,h0];rfl
    subst q;clear g h0 f j
    go_enter func150,ntmps150
    go_upto_region 1 with(fail)
    refine AP ?_;intro p d b k;have l:=b.c 0 rfl;have m:=b.c 1 rfl;go_wp2;go_ret;exact⟨by rw[i.out];rfl,d⟩
  · have t:((n:Int) == 0)=false:=by
     have:n≠0:=fun h=>h0 (by have:=f.1 h;omega);simpa using this
    have i:Hid (r=1):=by show _=_;rw[<-g,vB (by omega)]
    clear g j f h0
    go_enter func150,ntmps150
    go_upto_region 1 with(fail)
    refine AP ?_;intro p d b k;have l:=b.c 0 rfl;have m:=b.c 1 rfl;go_wp2;go_ret;exact⟨by rw[i.out];rfl,d⟩
theorem Gb{y:Int}(h:ZR w v z)(h':ZR w v' y)(Z:z.natAbs<P2 3200000)(A:y.natAbs<P2 3200000):Calls prog 184 #[v,v'] w (Nd w (z*y)):=by
 obtain⟨s,a,n,c,rfl,HS,hx⟩:=h;obtain⟨t,b,m,d,rfl,HT,hy⟩:=h';have E:=hx.len (k:=100000) Z;have F:=hy.len (k:=100000) A
 go_enter func184,ntmps184
 go_upto_region 1 with(fail)
 refine CO ?_;intro Y r B C M S;have T:=B.c 0 rfl;have U:=B.c 1 rfl;have V:=C.c 0 rfl;have W:=C.c 1 rfl;have hR:Arr Y (w.heap.size+2) 97 (Ac false none 0 0):=M;have G:=fun(g:World) (f:Ext Y g)=>qh (Ky ((hx.ext r).ext f) ((hy.ext r).ext f) E F);clear S Z A E F;have p:=fun(g:World) (f:Ext Y g)=>qh (And.intro (f.cell T) (And.intro (f.cell U) (And.intro (f.cell V) (f.cell W))))
 refine B0
  [hdP w.heap.size 0,hdB s,hdP (w.heap.size+1) 0,hdB t,hdB (s != t),hdP w.heap.size 1,hdS a n c,hdP (w.heap.size+1) 1,hdS b m d,hp (fun v g=>∃ i o j,v = .slice i o j/\Mg g i o j (z.natAbs*y.natAbs)),hp (fun v g=>ZR g v (z*y))]
  ⟨fun v w X e ⟨i,o,j,h1,h2⟩=>⟨i,o,j,h1,h2.ext e⟩,fun v w X e h=>ZR.ext h e,trivial⟩ ⟨?o0,?o1,?o2,?o3,?o4,?o5,?o6,?o7,?o8,?o9,?o10,trivial⟩ ?fin
 case o0 | o2=>exact ofa (d:=0)
 case o1 | o3 | o6 | o8=>exact ol
 case o5 | o7=>exact ofa (d:=1)
 case o4 =>
  refine Aj rfl fun ρ g f l h => ?_;have e0:_=_:=h.1;have e1:_=_:=h.2.1;obtain⟨H,I,J,K⟩:=(p g f).out;go_simp;cases s <;> cases t <;> rfl
 case o9 =>
  refine Ag rfl fun ρ g f l O h => ?_;have e1:_=_:=h.2.1;have e2:_=_:=h.2.2.1;obtain⟨H,I,J,K⟩:=(p g f).out;refine⟨211,#[.slice a n c,.slice b m d],by go_simp,((G g f).out).mono ?_⟩;rintro e X ⟨i,o,j,rfl,q,x⟩;exact⟨_,rfl,q,i,o,j,rfl,x⟩
 case o10 =>
  refine Ag rfl fun ρ g f l O h => ?_;have e1:_=_:=h.2.1;obtain⟨v2,e2,a2,n2,c2,rfl,d2⟩:=h.2.2.1;obtain⟨H,I,J,K⟩:=(p g f).out;refine⟨149,#[.bool (s != t),.slice a2 n2 c2],by go_simp,(Ch d2 (z:=z*y) (Nw HS.out HT.out)).mono ?_⟩;rintro e X ⟨s',i,o,j,rfl,q,Q,x⟩;exact⟨_,rfl,q,s',i,o,j,rfl,Q,x⟩
 case fin =>
  intro g f;rintro _ ⟨_,_,_,rfl,_⟩;rintro _ ⟨s1,a1,n1,c1,rfl,L,R⟩;change wpList _ _ _ _ _ _;simp only[Ci];have D:=hR.ext f
  go_wp2_with(refine Aa (vs:=Ac s1 a1 n1 c1) rfl rfl rfl rfl rfl A6 D rfl (Ae _ _ _ _) ?_;intro w9 N P)
  exact py (Ap rfl A6 rfl N) rfl (DK (r.trans f) D (by decide) P (by omega) L R)
theorem Rp{y:Int}(h:ZR w v z)(h':ZR w v' y)(bz:z.natAbs<P2 3200000)(W:y.natAbs<P2 3200000):Calls prog 216 #[v,v'] w (Nd w (z+y)):=by
 obtain⟨s,a,n,c,rfl,HS,hx⟩:=h;obtain⟨t,b,m,d,rfl,HT,hy⟩:=h';have O:=hx.len (k:=100000) bz;have P:=hy.len (k:=100000) W;have ag:=fun(g:World) (f:Ext w g)=>qh (Kw (hx.ext f) (hy.ext f) O P);have ai:=fun(g:World) (f:Ext w g) (x:y.natAbs<=z.natAbs)=>qh (Kx (hx.ext f) (hy.ext f) O x);have aj:=fun(g:World) (f:Ext w g) (x:z.natAbs<=y.natAbs)=>qh (Kx (hy.ext f) (hx.ext f) P x);have ah:=fun(g:World) (f:Ext w g)=>qh (Fi (hx.ext f) (hy.ext f));clear bz W O P
 go_enter func216,ntmps216
 go_upto_region 1 with(fail)
 refine CO ?_;intro w0 L a0 a3 ak ap;have a6:=a0.c 0 rfl;have a7:=a0.c 1 rfl;have a8:=a3.c 0 rfl;have a9:=a3.c 1 rfl;have hR:Arr w0 (w.heap.size+2) 97 (Ac false none 0 0):=ak;clear ap;by_cases N:s=t
 · subst N;have al:(s == s)=true:=by simp
   go_wp2;have R:=fun(g:World) (f:Ext w0 g)=>qh (And.intro (f.cell a6) (And.intro (f.cell a7) (And.intro (f.cell a8) (f.cell a9))))
   refine B0
    [hdP w.heap.size 0,hdB s,hdP w.heap.size 1,hdS a n c,hdP (w.heap.size+1) 1,hdS b m d,hp (fun v g=>∃ i l j,v = .slice i l j/\Mg g i l j (z.natAbs+y.natAbs)),hp (fun v g=>ZR g v (z+y))]
    ⟨fun v w K e ⟨i,l,j,h1,h2⟩=>⟨i,l,j,h1,h2.ext e⟩,fun v w K e h=>ZR.ext h e,trivial⟩ ⟨?o0,?o1,?o2,?o3,?o4,?o5,?o6,?o7,trivial⟩ ?fin
   case o0=>exact ofa (d:=0)
   case o1 | o3 | o5=>exact ol
   case o2 | o4=>exact ofa (d:=1)
   case o6 =>
    refine Ag rfl fun ρ g f r C h => ?_;have e1:_=_:=h.2.1;have e2:_=_:=h.2.2.1;obtain⟨G,H,I,J⟩:=(R g f).out;refine⟨210,#[.slice a n c,.slice b m d],by go_simp,((ag g (L.trans f)).out).mono ?_⟩;rintro e K ⟨i,l,j,rfl,o,p⟩;exact⟨_,rfl,o,i,l,j,rfl,p⟩
   case o7 =>
    refine Ag rfl fun ρ g f r C h => ?_;have e1:_=_:=h.2.1;obtain⟨v2,e2,V,n2,Y,rfl,Z⟩:=h.2.2.1;obtain⟨G,H,I,J⟩:=(R g f).out;refine⟨149,#[.bool s,.slice V n2 Y],by go_simp,(Ch Z (z:=z+y) (UC HS.out HT.out)).mono ?_⟩;rintro e K ⟨s',i,l,j,rfl,o,E,p⟩;exact⟨_,rfl,o,s',i,l,j,rfl,E,p⟩
   case fin =>
    intro g f;rintro _ ⟨_,_,_,rfl,_⟩;rintro _ ⟨s1,U,n1,X,rfl,A,F⟩;change wpList _ _ _ _ _ _;simp only[Ci];have q:=hR.ext f
    go_wp2_with(refine Aa (vs:=Ac s1 U n1 X) rfl rfl rfl rfl rfl A6 q rfl (Ae _ _ _ _) ?_;intro w9 B D)
    exact py (Ap rfl A6 rfl B) rfl (DK (L.trans f) q (by decide) D (by omega) A F)
 · have al:(s == t)=false:=by simpa using N
   go_wp2_with fail
   refine(ah _ L).out.mono ?_;rintro e w1 ⟨rfl,Q⟩;have M:=L.trans Q.ext;have a4:=hR.ext Q.ext;have aa:=Q.ext.cell a6;have ab:=Q.ext.cell a7;have ac:=Q.ext.cell a8;have ad:=Q.ext.cell a9;by_cases x:y.natAbs<=z.natAbs
   · have ao:(0:Int)<=AZ (z.natAbs:Int) (y.natAbs:Int):=CZ.2 x;generalize AZ (z.natAbs:Int) (y.natAbs:Int)=cv at *
     go_wp2;have S:=fun(g:World) (f:Ext w1 g)=>qh (And.intro (f.cell aa) (And.intro (f.cell ab) (And.intro (f.cell ac) (f.cell ad))))
     refine B0
      [hdP w.heap.size 0,hdB s,hdP w.heap.size 1,hdS a n c,hdP (w.heap.size+1) 1,hdS b m d,hp (fun v g=>∃ i l j,v = .slice i l j/\Mg g i l j (z.natAbs-y.natAbs)),hp (fun v g=>ZR g v (z+y))]
      ⟨fun v w K e ⟨i,l,j,h1,h2⟩=>⟨i,l,j,h1,h2.ext e⟩,fun v w K e h=>ZR.ext h e,trivial⟩ ⟨?o0,?o1,?o2,?o3,?o4,?o5,?o6,?o7,trivial⟩ ?fin
     case o0=>exact ofa (d:=0)
     case o1 | o3 | o5=>exact ol
     case o2 | o4=>exact ofa (d:=1)
     case o6 =>
      refine Ag rfl fun ρ g f r C h => ?_;have e1:_=_:=h.2.1;have e2:_=_:=h.2.2.1;obtain⟨G,H,I,J⟩:=(S g f).out;refine⟨260,#[.slice a n c,.slice b m d],by go_simp,((ai g (M.trans f) x).out).mono ?_⟩;rintro e K ⟨i,l,j,rfl,o,p⟩;exact⟨_,rfl,o,i,l,j,rfl,p⟩
     case o7 =>
      refine Ag rfl fun ρ g f r C h => ?_;have e1:_=_:=h.2.1;obtain⟨v2,e2,V,n2,Y,rfl,Z⟩:=h.2.2.1;obtain⟨G,H,I,J⟩:=(S g f).out;refine⟨149,#[.bool s,.slice V n2 Y],by go_simp,(Ch Z (z:=z+y) (RF HS.out HT.out N x)).mono ?_⟩;rintro e K ⟨s',i,l,j,rfl,o,E,p⟩;exact⟨_,rfl,o,s',i,l,j,rfl,E,p⟩
     case fin =>
      intro g f;rintro _ ⟨_,_,_,rfl,_⟩;rintro _ ⟨s1,U,n1,X,rfl,A,F⟩;change wpList _ _ _ _ _ _;simp only[Ci];have q:=a4.ext f
      go_wp2_with(refine Aa (vs:=Ac s1 U n1 X) rfl rfl rfl rfl rfl A6 q rfl (Ae _ _ _ _) ?_;intro w9 B D)
      exact py (Ap rfl A6 rfl B) rfl (DK (M.trans f) q (by decide) D (by omega) A F)
   · have ao:AZ (z.natAbs:Int) (y.natAbs:Int)<0:=by have:=mt CZ.1 x;omega
     have a5:z.natAbs<y.natAbs:=by omega
     generalize AZ (z.natAbs:Int) (y.natAbs:Int)=cv at *
     go_wp2;have T:=fun(g:World) (f:Ext w1 g)=>qh (And.intro (f.cell aa) (And.intro (f.cell ab) (And.intro (f.cell ac) (f.cell ad))))
     refine B0
      [hdP (w.heap.size+1) 0,hdB t,hdP (w.heap.size+1) 1,hdS b m d,hdP w.heap.size 1,hdS a n c,hp (fun v g=>∃ i l j,v = .slice i l j/\Mg g i l j (y.natAbs-z.natAbs)),hp (fun v g=>ZR g v (z+y))]
      ⟨fun v w K e ⟨i,l,j,h1,h2⟩=>⟨i,l,j,h1,h2.ext e⟩,fun v w K e h=>ZR.ext h e,trivial⟩ ⟨?o0,?o1,?o2,?o3,?o4,?o5,?o6,?o7,trivial⟩ ?fin
     case o0=>exact ofa (d:=0)
     case o1 | o3 | o5=>exact ol
     case o2 | o4=>exact ofa (d:=1)
     case o6 =>
      refine Ag rfl fun ρ g f r C h => ?_;have e1:_=_:=h.2.1;have e2:_=_:=h.2.2.1;obtain⟨G,H,I,J⟩:=(T g f).out;refine⟨260,#[.slice b m d,.slice a n c],by go_simp,((aj g (M.trans f) (sI a5)).out).mono ?_⟩;rintro e K ⟨i,l,j,rfl,o,p⟩;exact⟨_,rfl,o,i,l,j,rfl,p⟩
     case o7 =>
      refine Ag rfl fun ρ g f r C h => ?_;have e1:_=_:=h.2.1;obtain⟨v2,e2,V,n2,Y,rfl,Z⟩:=h.2.2.1;obtain⟨G,H,I,J⟩:=(T g f).out;refine⟨149,#[.bool t,.slice V n2 Y],by go_simp,(Ch Z (z:=z+y) (RG HS.out HT.out N a5)).mono ?_⟩;rintro e K ⟨s',i,l,j,rfl,o,E,p⟩;exact⟨_,rfl,o,s',i,l,j,rfl,E,p⟩
     case fin =>
      intro g f;rintro _ ⟨_,_,_,rfl,_⟩;rintro _ ⟨s1,U,n1,X,rfl,A,F⟩;change wpList _ _ _ _ _ _;simp only[Ci];have q:=a4.ext f
      go_wp2_with(refine Aa (vs:=Ac s1 U n1 X) rfl rfl rfl rfl rfl A6 q rfl (Ae _ _ _ _) ?_;intro w9 B D)
      exact py (Ap rfl A6 rfl B) rfl (DK (M.trans f) q (by decide) D (by omega) A F)
end Go.Proofs.YtlbmnokpiilfpaaGreatDoor
