/- Part Py15. -/
import Derived.Test.YtlbmnokpiilfpaaGreatDoorPy3
import Derived.Deep.QuietTactic
import Derived.BigQuiet
set_option linter.all false
set_option maxRecDepth 100000
set_option maxHeartbeats 100000000
namespace Go.Proofs.YtlbmnokpiilfpaaGreatDoor
open Tryz Go Go.RowKit
def iO:=@List.getElem?_set_ne
def nm:=@Nat.div_lt_of_lt_mul
variable {l xs:List Nat} {cs:List Value} {B D U V base c c' cy d dd g h k m n o p q r s u v x y y0 y1:Nat} {a b:Option Addr} {row:Option Nat} {e t t':TypeId} {w w':World}
theorem Br(xs:List Nat)(k:Nat):W.val B (xs.take (k+1))=W.val B (xs.take k)+B^k*xs.getD k 0:=by
 by_cases h:k<xs.length
 · exact W.val_take_succ h
 · rw[oL (by omega),oL (by omega),gqq,pu (by omega)];simp
theorem Iw(hp:p<l.length)(h:W.val B l+c*B^p=V)(e:s+B*c'=l.getD p 0+D+c):W.val B (l.set p s)+c'*B^(p+1)=V+D*B^p:=by
 have h1:=W.val_set (B:=B) (xs:=l) (i:=p) (v:=s) hp;have h2:B^p*(s+B*c')=B^p*(l.getD p 0+D+c):=by rw[e]
 rw[iE,iE,iE]at h2;have h3:B^p*(B*c')=c'*B^(p+1):=by rw[gG,<-iQ,oU]
 have h4:B^p*D=D*B^p:=oU _ _;have h5:B^p*c=c*B^p:=oU _ _;omega
theorem N0{Y A:Nat}(hp:p<l.length)(h:W.val B l+Y=V+c*B^p)(e:s+D+c=l.getD p 0+A+B*c'):W.val B (l.set p s)+(Y+D*B^p)=(V+A*B^p)+c'*B^(p+1):=by
 have h1:=W.val_set (B:=B) (xs:=l) (i:=p) (v:=s) hp;have h2:B^p*(s+D+c)=B^p*(l.getD p 0+A+B*c'):=by rw[e]
 rw[iE,iE,iE,iE]at h2;have h3:B^p*(B*c')=c'*B^(p+1):=by rw[gG,<-iQ,oU]
 have h4:B^p*D=D*B^p:=oU _ _;have h5:B^p*c=c*B^p:=oU _ _;have h6:B^p*A=A*B^p:=oU _ _;omega
theorem Gd(h:∀ j,k<=j->l.getD j 0=0):∀ j,k+1<=j->(l.set k s).getD j 0=0:=by
 intro j a;rw[gqq,iO (by omega),<-gqq];exact h j (by omega)
theorem DQ(n j:Nat):(List.replicate n 0).getD j 0=0:=by
 rw[gqq,List.getElem?_replicate];split <;> rfl
theorem Fk(a:0<B)(n:Nat):W.bnd B (List.replicate n 0):=fun x b=>by rw[(ir.1 b).2];exact a
theorem CW(h:x<18446744073709551616):IntKind.u64.wrap (x:Int)=(x:Int):=by
 show(x:Int)%18446744073709551616=x;omega
theorem Ix(x:Nat):IntKind.u32.wrap (x:Int)=((x%4294967296:Nat):Int):=by
 show(x:Int)%4294967296=_;omega
theorem VC(hu:u<4294967296)(d:v<4294967296)(b:o<4294967296)(a:c<4294967296):u*v+o+c<18446744073709551616:=by
 have:u*v<=4294967295*4294967295:=iu (by omega) (by omega);omega
structure Est(b y1 U q h r:Nat):Prop where
 eq:h*y1+r=U
 lo:q<=h
 hi:h<=b+1
theorem Est.start{b:Nat}(h1:b<=2*y1)(h0:y0<b)(d:U<=y1*b+y0)(a:q*(y1*b+y0)<=U*b+u)(hu:u<b):Est b y1 U q (U/y1) (U%y1):=by
 have c:0<y1:=by omega
 have e:U/y1*y1+U%y1=U:=Nat.div_add_mod' U y1;refine⟨e,W.guess_hi e a hu (gE _ c),?_⟩;rcases gQ (b+1) (U/y1)with h|h
 · exfalso;have h2:(b+2)*y1<=U/y1*y1:=oO _ h;have h4:(b+2)*y1=y1*b+2*y1:=by grind
   omega
 · exact h
theorem Est.down{b:Nat}(E:Est b y1 U q h r)(d:q*(y1*b+y0)<=U*b+u)(a:q<b)(c:b<=h\/b*r+u<h*y0):0<h/\h-1<=b/\Est b y1 U q (h-1) (r+y1):=by
 have h1:=W.guess_down E.eq d a c;have h2:=E.hi;refine⟨by omega,by omega,?_,by omega,by omega⟩;have h3:=E.eq;obtain⟨k,rfl⟩:∃ k,h=k+1:=⟨h-1,by omega⟩;rw[iy,jy]at h3;rw[jS];omega
theorem Est.done{b d P lo a:Nat}(E:Est b y1 U q h r)(k:h*y0<=b*r+u)(h1:b<=2*y1)(g:2<=b)(f:d=(U*b+u)*P+lo)(e:D=(y1*b+y0)*P+a)(c:a < P)(i:d<(q+1)*D)(j:q<b):h<=q+1:=by
 have h2:h*(y1*b+y0)<=U*b+u:=by
  have h2:h*(y1*b+y0)=h*y1*b+h*y0:=by grind
  have h3:U*b=h*y1*b+r*b:=by rw[<-E.eq];grind
  have h4:b*r=r*b:=oU _ _;omega
 refine W.digit_lo (by omega) f e c i h2 ?_;have h3:1*b<=y1*b:=oO _ (by omega);omega
theorem RJ{w:Nat}(hp:o+k<l.length)(h:W.val B l+c*B^(o+k)=V+w*W.val B (xs.take k)*B^o)(e:s+B*c'=l.getD (o+k) 0+w*xs.getD k 0+c):W.val B (l.set (o+k) s)+c'*B^(o+(k+1))=V+w*W.val B (xs.take (k+1))*B^o:=by
 have h1:=Iw (D:=w*xs.getD k 0) hp h e;rw[Br,iE,iy];have h2:w*(B^k*xs.getD k 0)*B^o=w*xs.getD k 0*B^(o+k):=by rw[iW];grind
 rw[show o+(k+1)=o+k+1 by omega];omega
theorem UV{w:Nat}(hp:o+k<l.length)(h:W.val B l+w*W.val B (xs.take k)*B^o=V+c*B^(o+k))(e:s+w*xs.getD k 0+c=l.getD (o+k) 0+B*c'):W.val B (l.set (o+k) s)+w*W.val B (xs.take (k+1))*B^o=V+c'*B^(o+(k+1)):=by
 have h1:=N0 (D:=w*xs.getD k 0) (A:=0) hp h (by omega);rw[Br,iE,iy];have h2:w*(B^k*xs.getD k 0)*B^o=w*xs.getD k 0*B^(o+k):=by rw[iW];grind
 rw[show o+(k+1)=o+k+1 by omega];rw[pw]at h1;omega
theorem B5:BM prog 241 (.int .u32 0) 4:=by unfold BM;kernel_rfl
def TyS(w:World)(a:Option Addr)(t:TypeId):Prop:=∀ g,blk a=some g->∃ cs fr,w.heap[g]?=some (.cells cs t fr)
theorem TyS.ext(h:TyS w a t)(e:Ext w w'):TyS w' a t:=fun g d=>by
 obtain⟨b,c,h1⟩:=h g d;exact⟨b,c,by rw[e.block (gW.1 h1).1];exact h1⟩
theorem TyS.kept(h:TyS w a t)(f:w.grownBy w' row)(c:blk a=none\/blk a≠row):TyS w' a t:=fun g b=>by
 obtain⟨d,e,h1⟩:=h g b;have i:some g≠row:=by
  rcases c with h2|h2
  · rw[h2]at b;cases b
  · rw[b]at h2;exact h2
 exact⟨d,e,by rw[f.block g (gW.1 h1).1 i];exact h1⟩
theorem TyS.none(w:World)(t:TypeId):TyS w none t:=fun g h=>by cases h
theorem Own.ty(h:Own w base e a n c cs):TyS w a e:=fun k d=>by
 rcases h.2 with⟨b,_⟩|⟨g,f,i,b,l,j,_⟩
 · simp only[pk]at b;rw[b.1]at d;cases d
 · simp only[pk]at b;rw[b.1]at d;have:g=k:=by simpa[blk]using d
   subst this;exact⟨_,_,j⟩
theorem Av.ty{k:IntKind}{w:World}{base:Nat}{e:TypeId}{g n c:Nat}{xs:List Nat}(h:Av k w base e g n c xs):TyS w (some ⟨g,0,Option.none⟩) e:=Own.ty h
theorem TyS.ne{cs:Array Value}{c:Nat×Nat}(h:TyS w a t)(e:w.heap[g]?=some (.cells cs t' c))(i:t≠t'):blk a≠some g:=fun f=>by
 obtain⟨b,d,h1⟩:=h g f;rw[e]at h1;simp only[oQ,Obj.cells.injEq]at h1;exact i h1.2.1.symm
def Mg(w:World)(a:Option Addr)(n c:Nat)(x:Nat):Prop:=∃ xs,SlN .u32 w a n c xs/\Num 4294967296 xs x/\TyS w a 241
theorem Mg.ext{w b:World}{a:Option Addr}{n c x:Nat}(h:Mg w a n c x)(e:Ext w b):Mg b a n c x:=by
 obtain⟨d,h1,h2,h3⟩:=h;exact⟨d,h1.ext e,h2,h3.ext e⟩
theorem Mg.kept{w i:World}{a:Option Addr}{n c x:Nat}{row:Option Nat}(h:Mg w a n c x)(f:w.grownBy i row)(j:∀ g,row=some g->∃ d t e,w.heap[g]?=some (.cells d t e)/\241≠t):Mg i a n c x:=by
 obtain⟨k,h1,h2,h3⟩:=h;have b:blk a=none\/blk a≠row:=by
  cases row with
  | none=>cases h:blk a <;> simp
  | some g =>
   obtain⟨d,t,e,h4,h5⟩:=j g rfl;exact Or.inr (h3.ne h4 h5)
 exact⟨k,h1.kept f b,h2,h3.kept f b⟩
theorem Mg.keptA(h:Mg w a n c x)(d:Arr w g t cs)(f:241≠t)(e:w.grownBy w' (some g)):Mg w' a n c x :=
 h.kept e fun k b=>by
  injection b with b;subst b;exact⟨_,_,_,d,f⟩
theorem Mg.nil(w:World):Mg w none 0 0 0:=⟨[],SlN.nil _ _,Num.nil _,TyS.none _ _⟩
theorem Mg.zero(h:Mg w a n c x):n=0<->x=0:=by
 obtain⟨b,h1,h2,-⟩:=h;have h3:=W.nrm_zero (B:=4294967296) (by omega) h2.nrm;rw[h2.val]at h3;have h4:=h1.len;constructor
 · intro h0;exact h3.2 (oX (by omega))
 · intro h0;rw[h3.1 h0]at h4;exact h4.symm
def RK(w:World)(x:Nat)(e:Ending)(w':World):Prop:=∃ a n c,e = .returned (.slice a n c)/\Ext w w'/\Mg w' a n c x
theorem CX(i:SlN .u32 w a n c xs)(b:TyS w a 241)(e:m<=n)(f:W.trim xs=xs.take m)(d:W.bnd 4294967296 xs)(g:W.val 4294967296 xs=v):Mg w a m c v :=
 ⟨W.trim xs,by rw[f];exact i.upto e,Num.trim d g,b⟩
theorem BN(g:SlN .u32 w a n c xs) :
 Calls prog 212 #[.slice a n c] w fun e B=>∃ m,e = .returned (.slice a m c)/\w=B/\m<=n/\W.trim xs=xs.take m:=by
 have q:=oK g.len;have x:=g.le;have p:=g.cap
 go_enter func212,ntmps212
 go_wp2
 go_loop[0] (fun v=>∃ k:Nat,k<=n/\v = .slice a k c/\Hid (W.trim xs=W.trimTo xs k)) (fun v=>match v with | .slice _ k _=>k | _=>0)
 case atStart=>exact⟨n,lrf _,rfl,oK (by unfold W.trim;rw[q.out])⟩
 case round =>
  obtain⟨k,D,rfl,i⟩:=hrel;cases k with
  | zero =>
   go_wp2;go_ret;exact⟨0,rfl,rfl,by omega,by rw[i.out];rfl⟩
  | succ k =>
   have z:=fun C:World=>Ek (P:=prog) (w:=C) (a:=a) (n:=k+1) underlying95 B5 (k:=k) (c:=c) (by omega);obtain⟨b,o,rfl,l⟩:=g.at (j:=k) (by omega);have r:=l k (by omega);have E:IntKind.i64.wrap (((k+1:Nat):Int)-1)=k:=by rw[gK,Int.natCast_one,nH];exact oP _ (by omega)
   have A:IntKind.i64.wrap ((k:Int)+1-1)=k:=by rw[nH];exact oP _ (by omega)
   have s:(k:Int)<(k:Int)+1:=by omega
   by_cases f:xs.getD k 0=0
   · have d:Hid (W.trim xs=W.trimTo xs k):=by
      show _=_;rw[i.out];exact pq f
     rw[f]at r;clear f l;go_wp2;go_round
     case rel=>exact⟨k,by omega,rfl,d⟩
     case measure=>simp
   · have d:Hid (W.trim xs=xs.take (k+1)):=by
      show _=_;rw[i.out];exact pf f
     have t:(((xs.getD k 0:Nat):Int) == 0)=false:=by simpa using f
     generalize xs.getD k 0=y at *
     clear f l;go_wp2;go_ret;exact⟨k+1,rfl,rfl,by omega,d.out⟩
theorem Er(E:Mg w a n c x)(F:Mg w b m d y) :
 Calls prog 259 #[.slice a n c,.slice b m d] w fun e Y=>e = .returned (.int .i64 (AW x y))/\Qt w Y:=by
 obtain⟨xs,E,N,-⟩:=E;obtain⟨ys,F,O,-⟩:=F;have p:=oK E.len;have q:=oK F.len;have X:=E.le;have V:=F.le;have r:=oK N;have s:=oK O;clear N O;by_cases D:n=m
 · have J:((n:Int) != (m:Int))=false:=by simp[D]
   have H:=oK D;clear D
   go_enter func259,ntmps259
   go_wp2
   go_loopw[5] (fun v wr=>∃ k:Nat,k<=n/\v = .int .i64 ((k:Int)-1)/\Qt w wr/\Hid (xs.drop k=ys.drop k)) (fun v _=>(intOf v+1).toNat)
   case atStart=>exact⟨n,lrf _,by go_num,Qt.refl _,oK (by rw[gZ (by rw[p.out];exact lrf _),gZ (by rw[q.out,H.out];exact lrf _)])⟩
   case round =>
    obtain⟨k,hk,rfl,A,G⟩:=hrel;cases k with
    | zero =>
     have P:Hid (x=y):=by
      have:=G.out;rw[iw,iw]at this;show x=y;rw[<-r.out.val,<-s.out.val,this]
     go_wp2;go_ret;exact⟨Dj (by rw[P.out,OT]),A⟩
    | succ k =>
     have g:k<m:=by have:=H.out;omega
     obtain⟨Z,o1,rfl,t⟩:=(E.ext A.ext).at (j:=k) (by omega);obtain⟨b2,o2,rfl,z⟩:=(F.ext A.ext).at (j:=k) g;have L:=t k (by omega);have M:=z k g;have K:((k+1:Nat):Int)-1=k:=by omega
     rw[K];by_cases he:xs.getD k 0=ys.getD k 0
     · have S:(((xs.getD k 0:Nat):Int) != ((ys.getD k 0:Nat):Int))=false:=Mk he;have I:Hid (xs.drop k=ys.drop k):=by
        show _=_;rw[ig (l:=xs) (by rw[p.out];omega),ig (l:=ys) (by rw[q.out];exact g),G.out];simp only[gqq,oN (show k<xs.length by rw[p.out];omega),oN (show k<ys.length by rw[q.out];exact g),pg]at he;rw[he]
       generalize xs.getD k 0=u at *
       generalize ys.getD k 0=v at *
       clear he t z;go_wp2
       go_quiet (fail)
       go_wp2;go_roundw
       case rel=>exact⟨k,by omega,by go_num,A.drewN _,I⟩
       case measure=>simp[intOf]
     · have S:(((xs.getD k 0:Nat):Int) != ((ys.getD k 0:Nat):Int))=true:=IX he;have f:Hid (AW x y=if xs.getD k 0<ys.getD k 0 then -1 else 1):=by
        show _=_;rcases Iv he with⟨h1,h2⟩|⟨h1,h2⟩
        · have:=Lj (B:=4294967296) (by rw[p.out,q.out,H.out]) (by rw[p.out];omega) G.out r.out.bnd h1;rw[r.out.val,s.out.val]at this;rw[F0 (by omega),pq h1]
        · have:=Lj (B:=4294967296) (xs:=ys) (ys:=xs) (by rw[p.out,q.out,H.out]) (by rw[q.out];omega) G.out.symm s.out.bnd h1;rw[r.out.val,s.out.val]at this;rw[F3 (by omega),pf (by omega)]
       generalize xs.getD k 0=u at *
       generalize ys.getD k 0=v at *
       clear he t z;have U:(k:Int)<n:=by omega
       have T:(k:Int)<m:=by omega
       go_wp2
       go_quiet (fail)
       go_wp2;have Q:(wr.drewN nq).cell? _=_:=L;have R:(wr.drewN nq).cell? _=_:=M;have C:=A.drewN nq;generalize wr.drewN nq=wq at *
       clear L M;by_cases o:u<v
       · have i:(u:Int)<(v:Int):=by omega
         rw[pq o]at f;clear o
         go_quiet (fail)
         go_wp2;go_ret;exact⟨Dj f.out,C.drewN _⟩
       · have i:¬ (u:Int)<(v:Int):=by omega
         rw[pf o]at f;clear o
         go_quiet (fail)
         go_wp2;go_ret;exact⟨Dj f.out,C.drewN _⟩
 · have J:((n:Int) != (m:Int))=true:=by simp;omega
   have f:Hid (AW x y=if n<m then -1 else 1):=by
    show _=_;rcases Iv D with⟨h1,h2⟩|⟨h1,h2⟩
    · have:=W.len_lt (B:=4294967296) (by omega) r.out.bnd s.out.nrm (by rw[p.out,q.out];exact h1);rw[r.out.val,s.out.val]at this;rw[F0 (by omega),pq h1]
    · have:=W.len_lt (B:=4294967296) (by omega) s.out.bnd r.out.nrm (by rw[p.out,q.out];exact h1);rw[r.out.val,s.out.val]at this;rw[F3 (by omega),pf (by omega)]
   clear D;by_cases i:n<m
   · rw[pq i]at f
     go_enter func259,ntmps259
     go_wp2;go_ret;exact⟨Dj f.out,Qt.refl _⟩
   · rw[pf i]at f
     go_enter func259,ntmps259
     go_wp2;go_ret;exact⟨Dj f.out,Qt.refl _⟩
theorem O9(hp:p<l.length)(h0:l.getD p 0=0)(h:W.val B l+c*B^p=V):W.val B (l.set p c)=V:=by
 have:=Iw (B:=B) (D:=0) (s:=c) (c':=0) hp h (by rw[h0];omega);omega
theorem Jg(K:Mg w a n c x)(L:Mg w b m d y)(bn:n<=100000)(bm:m<=100000) :
 Calls prog 210 #[.slice a n c,.slice b m d] w (RK w (x+y)):=by
 obtain⟨xs,K,O,-⟩:=K;obtain⟨ys,L,Q,-⟩:=L;by_cases hl:n<m
 case' pos =>
  have V:n<=m:=by omega
  have HV:Hid (x+y=W.val 4294967296 ys+W.val 4294967296 xs):=oK (by rw[O.val,Q.val,ju]);have BX:=Q.bnd;have BY:=O.bnd;have hX:=L;have hY:=K;have bN:=bm;clear K L O Q bm bn;generalize b=A,m=N,d=C,ys=X,a=P,n=M,c=D,xs=Y at *
  have q1:(M:Int)<N:=by omega
  go_enter func210,ntmps210
  go_upto_region 3 with(fail)
  clear q1
 case' neg =>
  have V:m<=n:=by omega
  have HV:Hid (x+y=W.val 4294967296 xs+W.val 4294967296 ys):=oK (by rw[O.val,Q.val]);have BX:=O.bnd;have BY:=Q.bnd;have hX:=K;have hY:=L;have bN:=bn;clear K L O Q bm bn;generalize a=A,n=N,c=C,xs=X,b=P,m=M,d=D,ys=Y at *
  have q1:¬ (N:Int)<M:=by omega
  go_enter func210,ntmps210
  go_upto_region 3 with(fail)
  clear q1
 all_goals
  clear hl;generalize x+y=z at *
  have HX:=oK hX.len;have HY:=oK hY.len
  go_upto_region 4 with(at_make;refine C1 (n:=N+1) rfl rfl underlying95 B5 rfl rfl rfl (by omega) (by unfold maxLen;omega) ?_;intro w1 Z U)
  go_wp2
  go_loopw[6,7] (fun cv iv wr=>∃ (k f:Nat) (t:List Nat),cv = .int .u64 f/\iv = .int .i64 k/\k<=N/\f<=1/\Ext w wr/\Av .u32 wr w.heap.size 241 w.heap.size (N+1) (N+1) t/\W.bnd 4294967296 t/\Hid (W.val 4294967296 t+f*4294967296^k=W.val 4294967296 (X.take k)+W.val 4294967296 (Y.take k))/\Hid (∀ j,k<=j->t.getD j 0=0)) (fun _ iv _=>N-(intOf iv).toNat)
  case atStart=>exact⟨0,0,List.replicate (N+1) 0,rfl,rfl,oY _,by omega,U,Av.of_zeros Z,Fk (by omega) _,oK (by rw[W.val_zeros];simp[W.val]),oK (fun j _=>DQ _ j)⟩
  case round =>
   clear Z U;obtain⟨k,f,t,rfl,rfl,hk,a7,J,o,bz,I,R⟩:=hrel;by_cases G:k<N
   · obtain⟨b1,o1,rfl,a0⟩:=(hX.ext J).at (j:=k) G;have g1:=a0 k G;have g3:=o.frozen k;have g4:=o.cell (i:=k) (by omega);have a9:=W.bnd_at BX (i:=k) (by rw[HX.out];exact G);have a8:(k:Int)<N:=by omega
     generalize hu:X.getD k 0=u at *
     clear a0;have r:=R.out k (lrf _);by_cases F:k<M
     · have a2:(k:Int)<M:=by omega
       obtain⟨b2,o2,rfl,a1⟩:=(hY.ext J).at (j:=k) F;have g2:=a1 k F;have aa:=W.bnd_at BY (i:=k) (by rw[HY.out];exact F);generalize hv:Y.getD k 0=v at *
       clear a1;have S:=oK (Iw (B:=4294967296) (l:=t) (p:=k) (D:=u+v) (s:=(f+u+v)%4294967296) (c':=(f+u+v)/4294967296) (by rw[o.len];omega) I.out (by rw[r,jR];omega));have e1:((f:Int)+u+v)%4294967296=(((f+u+v)%4294967296:Nat):Int):=by omega
       have e2:((f:Int)+u+v)/4294967296=(((f+u+v)/4294967296:Nat):Int):=by omega
       have e3:(f+u+v)/4294967296<=1:=by omega
       have e4:(f+u+v)%4294967296<4294967296:=gE _ (by omega);generalize (f+u+v)%4294967296=s at *
       generalize (f+u+v)/4294967296=T at *
       have E:Hid (W.val 4294967296 (t.set k s)+T*4294967296^(k+1)=W.val 4294967296 (X.take (k+1))+W.val 4294967296 (Y.take (k+1))):=by
        show _=_;rw[S.out,Br,Br,hu,hv,iy,oU u,oU v];omega
       clear S hu hv I;go_wp2;go_roundw
       case rel=>exact⟨k+1,T,t.set k s,rfl,by go_num,by omega,e3,J.setCell (lrf _) _,o.set k s,W.bnd_set bz e4,E,oK (Gd R.out)⟩
       case measure=>simp[intOf];omega
     · have a2:¬ (k:Int)<M:=by omega
       have hv:Y.getD k 0=0:=by rw[gqq,pu (by rw[HY.out];omega)];rfl
       have S:=oK (Iw (B:=4294967296) (l:=t) (p:=k) (D:=u+0) (s:=(f+u)%4294967296) (c':=(f+u)/4294967296) (by rw[o.len];omega) I.out (by rw[r,jR];omega));have e1:((f:Int)+u)%4294967296=(((f+u)%4294967296:Nat):Int):=by omega
       have e2:((f:Int)+u)/4294967296=(((f+u)/4294967296:Nat):Int):=by omega
       have e3:(f+u)/4294967296<=1:=by omega
       have e4:(f+u)%4294967296<4294967296:=gE _ (by omega);generalize (f+u)%4294967296=s at *
       generalize (f+u)/4294967296=T at *
       have E:Hid (W.val 4294967296 (t.set k s)+T*4294967296^(k+1)=W.val 4294967296 (X.take (k+1))+W.val 4294967296 (Y.take (k+1))):=by
        show _=_;rw[S.out,Br,Br,hu,hv,iy,oU u,oU 0];omega
       clear S hu hv I;go_wp2;go_roundw
       case rel=>exact⟨k+1,T,t.set k s,rfl,by go_num,by omega,e3,J.setCell (lrf _) _,o.set k s,W.bnd_set bz e4,E,oK (Gd R.out)⟩
       case measure=>simp[intOf];omega
   · have a5:k=N:=by omega
     subst a5;have g3:=o.frozen k;have g4:=o.cell (i:=k) (by omega);have r:=R.out k (lrf _);have g:=oK (O9 (by rw[o.len];omega) r I.out);have a6:(f:Int)%4294967296=(f:Int):=by omega
     rw[oL (by rw[HX.out];exact lrf _),oL (by rw[HY.out];exact V),<-HV.out]at g;clear I R r
     go_upto_region 14 with(fail)
     have H:=o.set k f;have a3:=W.bnd_set bz (i:=k) (v:=f) (by omega);have a4:=J.setCell (p:=⟨w.heap.size,k,none⟩) (lrf _) (.int .u32 (f:Int));generalize wr.setCell ⟨w.heap.size,k,none⟩ (.int .u32 (f:Int))=w5 at *
     clear o bz J g3 g4
     go_wp2_with fail
     refine(BN H.sl).mono ?_;rintro e w6 ⟨q,rfl,rfl,hq,ht⟩;go_wp2;go_ret;exact⟨_,q,_,rfl,a4,CX H.sl H.ty hq ht a3 g.out⟩
theorem BC(x:Int):IntKind.u64.wrap x=x%18446744073709551616:=rfl
theorem RL(hu:u<4294967296)(c:v<4294967296)(b:cy<=1):∃ s a:Nat,s<4294967296/\a<=1/\s+v+cy=u+4294967296*a/\IntKind.u64.wrap (IntKind.u64.wrap ((u:Int)-cy)-v)%4294967296=s/\bits BinOp.and IntKind.u64 (IntKind.u64.wrap (IntKind.u64.wrap ((u:Int)-cy)-v)/4294967296) 1=a:=by
 rw[BC,BC];by_cases h:v+cy<=u
 · have h1:((u:Int)-cy)%18446744073709551616-v=((u-cy-v:Nat):Int):=by omega
   have h2:(((u:Int)-cy)%18446744073709551616-v)%18446744073709551616=((u-cy-v:Nat):Int):=by omega
   rw[h2];refine⟨u-cy-v,0,by omega,by omega,by omega,by omega,?_⟩;rw[show((u-cy-v:Nat):Int)/4294967296=0 by omega];rfl
 · have h2:(((u:Int)-cy)%18446744073709551616-v)%18446744073709551616=((18446744073709551616+u-cy-v:Nat):Int):=by omega
   rw[h2];refine⟨4294967296+u-cy-v,1,by omega,by omega,by omega,by omega,?_⟩;rw[show((18446744073709551616+u-cy-v:Nat):Int)/4294967296=4294967295 by omega];rfl
theorem UW(hu:u<4294967296)(b:cy<=1):∃ s a:Nat,s<4294967296/\a<=1/\s+0+cy=u+4294967296*a/\IntKind.u64.wrap ((u:Int)-cy)%4294967296=s/\bits BinOp.and IntKind.u64 (IntKind.u64.wrap ((u:Int)-cy)/4294967296) 1=a:=by
 obtain⟨s,a,h1,h2,h3,h4,h5⟩:=RL hu (v:=0) (by omega) b;rw[BC]at h4 h5;have h6:(IntKind.u64.wrap ((u:Int)-cy)-((0:Nat):Int))%18446744073709551616=IntKind.u64.wrap ((u:Int)-cy):=by
  rw[BC];omega
 rw[h6]at h4 h5;exact⟨s,a,h1,h2,h3,h4,h5⟩
theorem Jh(R:Mg w a n c x)(T:Mg w b m d y)(bn:n<=100000)(P:y<=x) :
 Calls prog 260 #[.slice a n c,.slice b m d] w (RK w (x-y)):=by
 obtain⟨Y,R,V,-⟩:=R;obtain⟨G,T,X,-⟩:=T;have a1:m<=n:=by
  refine pm fun hc => ?_;have:=W.len_lt (B:=4294967296) (by omega) V.bnd X.nrm (by rw[R.len,T.len];omega);rw[V.val,X.val]at this;omega
 have BX:=V.bnd;have BY:=X.bnd;have VX:=oK V.val;have VY:=oK X.val;have HX:=oK R.len;have HY:=oK T.len;have HL:=oK P;clear V X P
 go_enter func260,ntmps260
 go_upto_region 2 with(at_make;refine C1 (n:=n) rfl rfl underlying95 B5 rfl rfl rfl (by omega) (by unfold maxLen;omega) ?_;intro w1 K J)
 go_wp2
 go_loopw[6,7] (fun cv iv wr=>∃ (k t:Nat) (f:List Nat),cv = .int .u64 t/\iv = .int .i64 k/\k<=n/\t<=1/\Ext w wr/\Av .u32 wr w.heap.size 241 w.heap.size n n f/\W.bnd 4294967296 f/\Hid (W.val 4294967296 f+W.val 4294967296 (G.take k)=W.val 4294967296 (Y.take k)+t*4294967296^k)/\Hid (∀ j,k<=j->f.getD j 0=0)) (fun _ iv _=>n-(intOf iv).toNat)
 case atStart=>exact⟨0,0,List.replicate n 0,rfl,rfl,oY _,by omega,J,Av.of_zeros K,Fk (by omega) _,oK (by rw[W.val_zeros];simp[W.val]),oK (fun j _=>DQ _ j)⟩
 case round =>
  clear K J;obtain⟨k,t,f,rfl,rfl,hk,N,I,g,bz,F,Z⟩:=hrel;by_cases E:k<n
  · obtain⟨b1,o1,rfl,L⟩:=(R.ext I).at (j:=k) E;have g1:=L k E;have g3:=g.frozen k;have g4:=g.cell (i:=k) (by omega);have S:=W.bnd_at BX (i:=k) (by rw[HX.out];exact E);have a3:(k:Int)<n:=by omega
    generalize hu:Y.getD k 0=u at *
    clear L;have U:=Z.out k (lrf _);by_cases z:k<m
    · have O:(k:Int)<m:=by omega
      obtain⟨b2,o2,rfl,M⟩:=(T.ext I).at (j:=k) z;have g2:=M k z;have a2:=W.bnd_at BY (i:=k) (by rw[HY.out];exact z);generalize Q:G.getD k 0=v at *
      clear M;obtain⟨s,r,e4,e3,e0,e1,e2⟩:=RL S a2 N;have H:=oK (N0 (B:=4294967296) (l:=f) (p:=k) (D:=v) (A:=u) (s:=s) (c':=r) (by rw[g.len];omega) F.out (by rw[U];omega));have o:Hid (W.val 4294967296 (f.set k s)+W.val 4294967296 (G.take (k+1))=W.val 4294967296 (Y.take (k+1))+r*4294967296^(k+1)):=by
       show _=_;rw[Br,Br,hu,Q,oU _ u,oU _ v];exact H.out
      clear H hu Q F e0;go_wp2;go_roundw
      case rel=>exact⟨k+1,r,f.set k s,rfl,by go_num,by omega,e3,I.setCell (lrf _) _,g.set k s,W.bnd_set bz e4,o,oK (Gd Z.out)⟩
      case measure=>simp[intOf];omega
    · have O:¬ (k:Int)<m:=by omega
      have Q:G.getD k 0=0:=by rw[gqq,pu (by rw[HY.out];omega)];rfl
      obtain⟨s,r,e4,e3,e0,e1,e2⟩:=UW S N;have H:=oK (N0 (B:=4294967296) (l:=f) (p:=k) (D:=0) (A:=u) (s:=s) (c':=r) (by rw[g.len];omega) F.out (by rw[U];omega));have o:Hid (W.val 4294967296 (f.set k s)+W.val 4294967296 (G.take (k+1))=W.val 4294967296 (Y.take (k+1))+r*4294967296^(k+1)):=by
       show _=_;rw[Br,Br,hu,Q,oU _ u,oU _ 0];exact H.out
      clear H hu Q F e0;go_wp2;go_roundw
      case rel=>exact⟨k+1,r,f.set k s,rfl,by go_num,by omega,e3,I.setCell (lrf _) _,g.set k s,W.bnd_set bz e4,o,oK (Gd Z.out)⟩
      case measure=>simp[intOf];omega
  · have a0:k=n:=by omega
    subst a0;have C:Hid (W.val 4294967296 f=x-y):=by
     show _=_;have h1:=F.out;rw[oL (l:=G) (by rw[HY.out];exact a1),oL (l:=Y) (by rw[HX.out];exact lrf _),VX.out,VY.out]at h1;have h2:=W.val_lt bz;rw[g.len]at h2;have h3:=HL.out;have h4:t=0:=by
      rcases oV t with h|h
      · exact h
      · exfalso;have:t=1:=by omega
        rw[this,jy]at h1;omega
     rw[h4,pw]at h1;omega
    clear F Z
    go_wp2_with fail
    refine(BN g.sl).mono ?_;rintro e w6 ⟨q,rfl,rfl,hq,ht⟩;go_wp2;go_ret;exact⟨_,q,_,rfl,I,CX g.sl g.ty hq ht bz C.out⟩
theorem Ji(U:Mg w a n c x)(V:Mg w b m d y)(bn:n<=100000)(bm:m<=100000) :
 Calls prog 211 #[.slice a n c,.slice b m d] w (RK w (x*y)):=by
 have z1:=U.zero;have z2:=V.zero;obtain⟨xs,U,nx,-⟩:=U;obtain⟨H,V,ny,-⟩:=V;by_cases h0:n=0\/m=0
 · have HZ:Hid (x*y=0):=by
    show _=_;rcases h0 with h0|h0
    · rw[z1.1 h0,pw]
    · rw[z2.1 h0,km]
   have G:((n:Int) == 0)=true\/(((n:Int) == 0)=false/\((m:Int) == 0)=true):=by
    by_cases h1:n=0
    · left;simp[h1]
    · right;exact⟨by simpa using h1,by simp;omega⟩
   clear h0 z1 z2;rcases G with hp|⟨hp,af⟩
   all_goals
    go_enter func211,ntmps211
    go_wp2;go_ret;exact⟨none,0,0,rfl,Ext.refl w,by rw[HZ.out];exact Mg.nil w⟩
 · have a1:((n:Int) == 0)=false:=by simp;omega
   have a2:((m:Int) == 0)=false:=by simp;omega
   have BX:=nx.bnd;have BY:=ny.bnd;have VX:=oK nx.val;have VY:=oK ny.val;have HX:=oK U.len;have HY:=oK V.len;clear h0 z1 z2 nx ny
   go_enter func211,ntmps211
   go_upto_region 4 with(at_make;refine C1 (n:=n+m) rfl rfl underlying95 B5 rfl rfl rfl (by omega) (by unfold maxLen;omega) ?_;intro w1 M L)
   clear a1 a2;go_wp2
   go_loopw[6] (fun iv wr=>∃ (i:Nat) (f:List Nat),iv = .int .i64 i/\i<=n/\Ext w wr/\Av .u32 wr w.heap.size 241 w.heap.size (n+m) (n+m) f/\W.bnd 4294967296 f/\Hid (W.val 4294967296 f=W.val 4294967296 (xs.take i)*y)/\Hid (∀ j,i+m<=j->f.getD j 0=0)) (fun iv _=>n-(intOf iv).toNat)
   case atStart=>exact⟨0,List.replicate (n+m) 0,rfl,oY _,L,Av.of_zeros M,Fk (by omega) _,oK (by rw[W.val_zeros];simp[W.val]),oK (fun j _=>DQ _ j)⟩
   case round =>
    clear M L;obtain⟨i,X,rfl,hi,D,r,C,A,I⟩:=hrel;by_cases F:i<n
    · have R:(i:Int)<n:=by omega
      obtain⟨b1,o1,rfl,N⟩:=(U.ext (Ext.refl w)).at (j:=i) F;have gx:=N i F;have a7:=W.bnd_at BX (i:=i) (by rw[HX.out];exact F);have HT:Hid (W.val 4294967296 (xs.take (i+1))=W.val 4294967296 (xs.take i)+4294967296^i*xs.getD i 0):=oK (Br xs i);generalize xs.getD i 0=u at *
      clear N;go_wp2
      go_loopw[7,8] (fun cv kv wr=>∃ (k p:Nat) (f:List Nat),cv = .int .u64 p/\kv = .int .i64 k/\k<=m/\p<4294967296/\Ext w wr/\Av .u32 wr w.heap.size 241 w.heap.size (n+m) (n+m) f/\W.bnd 4294967296 f/\Hid (W.val 4294967296 f+p*4294967296^(i+k)=W.val 4294967296 (xs.take i)*y+u*W.val 4294967296 (H.take k)*4294967296^i)/\Hid (∀ j,i+m<=j->f.getD j 0=0)) (fun _ kv _=>m-(intOf kv).toNat)
      case atStart=>exact⟨0,0,X,rfl,rfl,oY _,by omega,D,r,C,oK (by rw[A.out];simp[W.val]),I⟩
      case round =>
       clear D r C A I;obtain⟨k,p,f,rfl,rfl,hk,P,K,z,bz,Y,Z⟩:=hrel;by_cases E:k<m
       · have ab:(k:Int)<m:=by omega
         obtain⟨b2,o2,rfl,O⟩:=(V.ext K).at (j:=k) E;have g1:=K.cell gx;have g2:=O k E;have g3:=z.cell (i:=i+k) (by omega);have g4:=z.frozen (i+k);have a8:=W.bnd_at BY (i:=k) (by rw[HY.out];exact E);have a9:=W.bnd_at bz (i:=i+k) (by rw[z.len];omega);have Q:=VC a7 a8 a9 P;have HS:=oK (RJ (B:=4294967296) (l:=f) (xs:=H) (k:=k) (o:=i) (w:=u) (s:=(u*H.getD k 0+f.getD (i+k) 0+p)%4294967296) (c':=(u*H.getD k 0+f.getD (i+k) 0+p)/4294967296) (by rw[z.len];omega) Y.out (by rw[jR];omega))
         have a6:IntKind.i64.wrap ((i:Int)+k)=((i+k:Nat):Int):=by rw[<-gK];exact oP _ (by omega)
         obtain⟨t,T⟩:∃ t,u*H.getD k 0+f.getD (i+k) 0+p=t:=⟨_,rfl⟩;rw[T]at HS Q;generalize H.getD k 0=v at *
         generalize f.getD (i+k) 0=o at *
         have a3:t/4294967296<4294967296:=by omega
         have a5:t%4294967296<4294967296:=gE _ (by omega);have J:Hid (IntKind.u64.wrap ((p:Int)+IntKind.u64.wrap (IntKind.u64.wrap ((u:Int)*v)+o))=(t:Int)):=by
          show _=_;rw[<-gH,CW (by omega),<-gK,CW (by omega),<-gK,ju,T,CW (by omega)]
         clear T O;have f1:(t:Int)%4294967296=((t%4294967296:Nat):Int):=by omega
         have f2:(t:Int)/4294967296=((t/4294967296:Nat):Int):=by omega
         have a4:(i:Int)+k<n+m:=by omega
         go_upto_region 11 with(fail)
         go_quiet (fail)
         rw[J.out];have a0:=K.drewN nq;have aa:=z.drewN nq;have ac:(wr.drewN nq).cell? _=_:=g3;have ad:(wr.drewN nq).frozen? _=_:=g4;generalize wr.drewN nq=wq at *
         generalize t%4294967296=s at *
         generalize t/4294967296=c2 at *
         clear J g1 g2 g3 g4 K z Y;go_wp2;go_roundw
         case rel=>exact⟨k+1,c2,f.set (i+k) s,rfl,by go_num,by omega,a3,a0.setCell (lrf _) _,aa.set (i+k) s,W.bnd_set bz a5,HS,oK (fun j hj=>by rw[gqq,iO (by omega),<-gqq];exact Z.out j hj)⟩
         case measure=>simp[intOf];omega
       · have S:k=m:=by omega
         subst S;have g3:=z.cell (i:=i+k) (by omega);have g4:=z.frozen (i+k);have g:=oK (O9 (by rw[z.len];omega) (Z.out (i+k) (by omega)) Y.out);have a6:IntKind.i64.wrap ((i:Int)+k)=((i+k:Nat):Int):=by rw[<-gK];exact oP _ (by omega)
         have a4:(i:Int)+k<n+k:=by omega
         have ae:(p:Int)%4294967296=(p:Int):=by omega
         go_wp2;go_roundw
         case rel =>
          refine⟨i+1,f.set (i+k) p,by go_num,by omega,K.setCell (lrf _) _,z.set (i+k) p,W.bnd_set bz P,?_,oK (fun j hj=>by rw[gqq,iO (by omega),<-gqq];exact Z.out j (by omega))⟩;show _=_;rw[g.out,HT.out,oL (l:=H) (by rw[HY.out];exact lrf _),VY.out,iy,oU (4294967296^i) u,Nat.mul_right_comm]
         case measure=>simp[intOf];omega
    · have R:i=n:=by omega
      subst R;have g:Hid (W.val 4294967296 X=x*y):=by
       show _=_;rw[A.out,oL (by rw[HX.out];exact lrf _),VX.out]
      go_wp2_with fail
      refine(BN r.sl).mono ?_;rintro e w6 ⟨q,rfl,rfl,hq,T⟩;go_wp2;go_ret;exact⟨_,q,_,rfl,D,CX r.sl r.ty hq T C g.out⟩
theorem UX(a:r<4294967296)(hu:u<4294967296):bits BinOp.or IntKind.u64 ((r:Int)*4294967296) (u:Int)=((r*4294967296+u:Nat):Int):=by
 have h:=mE (r*4294967296) u (by omega) (by omega);rw[nT 32 (r*4294967296) u (by omega) (by omega)]at h;rw[<-h,gH];rfl
theorem Fz(v:Mg w a n c x)(bn:n<=100000)(h0:0<dd)(hd:dd<4294967296) :
 Calls prog 223 #[.slice a n c,.int .u32 dd] w fun e M=>∃ L K,e = .returned (.tuple #[.slice (some ⟨w.heap.size,0,none⟩) L K,.int .u32 ((x%dd:Nat):Int)])/\Ext w M/\Mg M (some ⟨w.heap.size,0,none⟩) L K (x/dd):=by
 obtain⟨xs,v,I,-⟩:=v;have N:=I.bnd;have S:=oK I.val;have z:=oK v.len;have O:=oK h0;clear I
 go_enter func223,ntmps223
 go_upto_region 2 with(at_make;refine C1 (n:=n) rfl rfl underlying95 B5 rfl rfl rfl (by omega) (by unfold maxLen;omega) ?_;intro w1 l g)
 go_wp2
 go_loopw[7,8] (fun Z H wr=>∃ (k r:Nat) (zs:List Nat),Z = .int .u64 r/\H = .int .i64 ((k:Int)-1)/\k<=n/\r<dd/\Ext w wr/\Av .u32 wr w.heap.size 241 w.heap.size n n zs/\W.bnd 4294967296 zs/\Hid (W.val 4294967296 (xs.drop k)=W.val 4294967296 (zs.drop k)*dd+r)) (fun _ H _=>(intOf H+1).toNat)
 case atStart=>exact⟨n,0,List.replicate n 0,rfl,by go_num,lrf _,h0,g,Av.of_zeros l,Fk (by omega) _,oK (by rw[gZ (by rw[z.out];exact lrf _),gZ (by simp)];simp[W.val])⟩
 case round =>
  clear l g;obtain⟨k,r,zs,rfl,rfl,hk,D,A,f,J,s⟩:=hrel;cases k with
  | zero =>
   have C:W.val 4294967296 zs=x/dd/\r=x%dd:=by
    have h1:=s.out;rw[iw,iw,S.out]at h1;rw[h1];constructor
    · rw[oU,kG (O.out),j8 D,gP]
    · rw[oU,kQ,jd D]
   obtain⟨o,b⟩:=C;have Q:=oK o;have R:=oK b;clear o b s;have X:(r:Int)%4294967296=(r:Int):=by omega
   go_wp2_with fail
   refine(BN f.sl).mono ?_;rintro e w6 ⟨q,rfl,rfl,C,p⟩;go_wp2
   go_ret2
   exact⟨q,_,by rw[R.out];rfl,A,CX f.sl f.ty C p J Q.out⟩
  | succ k =>
   obtain⟨b1,o1,rfl,m⟩:=(v.ext A).at (j:=k) (by omega);have g1:=m k (by omega);have g3:=f.frozen k;have g4:=f.cell (i:=k) (by omega);have G:=W.bnd_at N (i:=k) (by rw[z.out];omega);have F:((k+1:Nat):Int)-1=k:=by omega
   rw[F];have U:(k:Int)<n:=by omega
   generalize hu:xs.getD k 0=u at *
   clear m;obtain⟨t,p⟩:∃ t,r*4294967296+u=t:=⟨_,rfl⟩;have e1:bits BinOp.or IntKind.u64 ((r:Int)*4294967296) (u:Int)=(t:Int):=by rw[UX (by omega) G,p]
   have e2:(t:Int).tdiv (dd:Int)=((t/dd:Nat):Int):=by rw[ib (by omega)];rfl
   have e3:(t:Int).tmod (dd:Int)=((t%dd:Nat):Int):=by rw[iJ (by omega)];rfl
   have hd0:((dd:Int) == 0)=false:=by simp;omega
   have T:¬ (dd:Int)=0:=by omega
   have E:t%dd<dd:=gE _ h0;have b:t/dd<4294967296:=by
    refine nm ?_;have h1:(r+1)*4294967296<=dd*4294967296:=oO _ D;omega
   have P:=oK (Jx (B:=4294967296) (xs:=xs) (zs:=zs) (k:=k) (q:=t/dd) (r':=t%dd) (d:=dd) (by rw[z.out];omega) (by rw[f.len];omega) s.out (by rw[hu,p,oU];exact(ij t dd).symm));generalize t%dd=Y at *
   generalize t/dd=y at *
   have V:(y:Int)%4294967296=(y:Int):=by omega
   clear p s hu;go_wp2;go_roundw
   case rel=>exact⟨k,Y,zs.set k y,rfl,by go_num,by omega,E,A.setCell (lrf _) _,f.set k y,W.bnd_set J b,P⟩
   case measure=>simp[intOf]
theorem LB(k:Mg w a n c x)(i:n<=100000)(h0:0<dd)(j:dd<4294967296) :
 Calls prog 223 #[.slice a n c,.int .u32 dd] w fun e g=>∃ f d b,e = .returned (.tuple #[.slice f d b,.int .u32 ((x%dd:Nat):Int)])/\Ext w g/\Mg g f d b (x/dd) :=
 (Fz k i h0 j).mono fun _ _ ⟨d,b,h⟩=>⟨_,d,b,h⟩
theorem KC(a:s<=32):2^(32-s)*2^s=4294967296:=by rw[<-iW,show 32-s+s=32 by omega]
theorem VD(a:s<=31)(hu:u<4294967296):∃ L V:Nat,u*2^s=V*4294967296+L/\L<4294967296/\V<2^s/\L%2^s=0/\V=u*2^s/4294967296/\L=u*2^s%4294967296/\u*2^s<18446744073709551616:=by
 have hp:=KC (s:=s) (by omega);have h1:u*2^s<4294967296*2^s:=iX hu (gJ s);have h2:2^s<=2^31:=oT (by omega) a;have h3:4294967296*2^s<=4294967296*2^31:=gD _ h2;refine⟨u*2^s%4294967296,u*2^s/4294967296,?_,gE _ (by omega),?_,?_,rfl,rfl,by omega⟩
 · rw[oU (u*2^s/4294967296)];exact(ij _ _).symm
 · exact nm h1
 · rw[<-hp,Nat.mod_mul_left_mod,mQ]
theorem FA(U:SlN .u32 w a n c xs)(Y:W.bnd 4294967296 xs)(bn:n<=100000)(hs:s<=31) :
 Calls prog 299 #[.slice a n c,.int .u64 s] w fun e X=>∃ b,e = .returned (.slice (some ⟨w.heap.size,0,none⟩) (n+1) (n+1))/\Ext w X/\Av .u32 X w.heap.size 241 w.heap.size (n+1) (n+1) b/\W.bnd 4294967296 b/\W.val 4294967296 b=W.val 4294967296 xs*2^s:=by
 have I:=oK U.len
 go_enter func299,ntmps299
 go_upto_region 2 with(at_make;refine C1 (n:=n+1) rfl rfl underlying95 B5 rfl rfl rfl (by omega) (by unfold maxLen;omega) ?_;intro w1 r m)
 go_wp2
 go_loopw[6] (fun R wr=>∃ (k:Nat) (b:List Nat),R = .int .i64 k/\k<=n/\Ext w wr/\Av .u32 wr w.heap.size 241 w.heap.size (n+1) (n+1) b/\W.bnd 4294967296 b/\Hid (W.val 4294967296 b=W.val 4294967296 (xs.take k)*2^s)/\Hid (∀ j,k<j->b.getD j 0=0)/\Hid (b.getD k 0<2^s)) (fun R _=>n-(intOf R).toNat)
 case atStart=>exact⟨0,List.replicate (n+1) 0,rfl,oY _,m,Av.of_zeros r,Fk (by omega) _,oK (by rw[W.val_zeros];simp[W.val]),oK (fun j _=>DQ _ j),oK (by rw[DQ];exact gJ s)⟩
 case round =>
  clear r m;obtain⟨k,b,rfl,hk,K,f,J,H,C,S⟩:=hrel;by_cases d:k<n
  · obtain⟨b1,o1,rfl,y⟩:=(U.ext K).at (j:=k) d;have g1:=y k d;have g2:=f.cell (i:=k) (by omega);have g3:=f.frozen k;have g4:=f.frozen (k+1);have g5:=f.cell (i:=k+1) (by omega);rw[C.out (k+1) (by omega)]at g5;have P:=W.bnd_at Y (i:=k) (by rw[I.out];exact d);obtain⟨L,V,g,o,M,A,x,p,q⟩:=VD hs P;have Z:=oK (MO (B:=4294967296) (l:=b) (xs:=xs) (k:=k) (s:=s) (L:=L) (V:=V) (by rw[f.len];omega) (by rw[I.out];exact d) H.out (C.out _ (by omega)) g);have Q:b.getD k 0<4294967296:=W.bnd_at J (i:=k) (by rw[f.len];omega)
    have F:Hid (∀ v j,k+1<j->((b.set k v).set (k+1) V).getD j 0=0):=by
     show ∀ v j,k+1<j->((b.set k v).set (k+1) V).getD j 0=0;intro v j hj;rw[gqq,iO (by omega),iO (by omega),<-gqq];exact C.out j (by omega)
    have G:Hid (∀ v,((b.set k v).set (k+1) V).getD (k+1) 0<2^s):=by
     show ∀ v,((b.set k v).set (k+1) V).getD (k+1) 0<2^s;intro v;rw[gqq,List.getElem?_set_self (by rw[List.length_set,f.len];omega)];exact M
    have O:b.getD k 0+L<4294967296:=by
     have h1:=KC (s:=s) (by omega);have h2:L/2^s*2^s+L%2^s=L:=Nat.div_add_mod' L (2^s);have h3:L/2^s<2^(32-s):=nm (by rw[oU,h1];exact o);have h4:(L/2^s+1)*2^s<=2^(32-s)*2^s:=oO _ h3;rw[iy,jy]at h4;have h5:=S.out;omega
    have e3:bits BinOp.or IntKind.u32 ((b.getD k 0:Nat):Int) (L:Int)=((b.getD k 0+L:Nat):Int):=by
     rw[u32_or_nat _ L Q o,og,nT s L (b.getD k 0) A S.out,ju]
    generalize xs.getD k 0=u at *
    obtain⟨t,D⟩:∃ t,u*2^s=t:=⟨_,rfl⟩;have e1:IntKind.u64.wrap ((u:Int)*2^s)=(t:Int):=by
     have:=CW q;rw[D]at this;rw[<-this,<-D];push_cast;rfl
    rw[D]at g x p q;have e2:(t:Int)%4294967296=(L:Int):=by omega
    have e4:(t:Int)/4294967296=(V:Int):=by omega
    have N:V<4294967296:=by omega
    have a0:(V:Int)%4294967296=(V:Int):=by omega
    generalize b.getD k 0+L=E at *
    generalize b.getD k 0=z at *
    have a1:(k:Int)<n:=by omega
    have T:(k:Int)<(n:Int)+1:=by omega
    clear y g x p D H C;go_wp2;go_roundw
    case rel=>exact⟨k+1,(b.set k E).set (k+1) V,by go_num,by omega,(K.setCell (lrf _) _).setCell (lrf _) _,(f.set k E).set (k+1) V,W.bnd_set (W.bnd_set J O) N,Z,oK (F.out E),oK (G.out E)⟩
    case measure=>simp[intOf];omega
  · have ek:k=n:=by omega
    have hv:W.val 4294967296 b=W.val 4294967296 xs*2^s:=by
     have h1:=H.out;rw[ek,oL (by rw[I.out];exact lrf _)]at h1;exact h1
    go_wp2;go_ret;exact⟨b,rfl,K,f,J,hv⟩
def Iy(w:World)(q r:Nat)(e:Ending)(w':World):Prop:=∃ a n c b m d,e = .returned (.tuple #[.slice a n c,.slice b m d])/\Ext w w'/\Mg w' a n c q/\Mg w' b m d r
theorem J7(l:Mg w a n c x)(J:Mg w b m d y)(N:n<=100000)(i:x<y) :
 Calls prog 258 #[.slice a n c,.slice b m d] w (Iy w (x/y) (x%y)):=by
 have r:=oK (Er l J);have G:AW (x:Int) (y:Int)<0:=C3.2 i;rw[j8 i,jd i]
 go_enter func258,ntmps258
 go_wp2_with fail
 refine r.out.mono ?_;rintro e o ⟨rfl,D⟩;generalize AW (x:Int) (y:Int)=O at *
 have F:=fun L:World=>Mi (P:=prog) (w:=L) underlying95 B5;obtain⟨M,l,K,-⟩:=l;have f:=D.ext;have t:=l.ext (f.trans ((Ext.refl o).alloc (.cells #[] 241)));have q:=Ay o o.heap.size 241 #[] 0 rfl (lrf _) (by omega)
 go_wp2_with(refine BB rfl rfl underlying95 B5 rfl rfl q rfl t (by intro v I;obtain⟨z,_,rfl⟩:=gT.1 I;rfl) (by unfold maxLen;omega) (by omega) (by simp) ?_;intro B C A k s E)
 have j:=(Ext.refl o).alloc (.cells #[] 241)
 have p:Ext w A:=(f.trans j).grown s fun g h=>by
  simp only[blk,jm,oQ]at h;have:=f.size;have:=j.size;omega
 have H:Mg A B n C x:=⟨M,by have h1:=k.sl;rw[gL]at h1;exact h1,K,k.ty⟩
 go_ret2
 exact⟨none,0,0,B,n,C,rfl,p,Mg.nil A,H⟩
theorem Jj(E:Mg w a n c x)(C:Mg w b 1 d y)(F:n<=100000)(L:y<=x)(h0:0<y) :
 Calls prog 258 #[.slice a n c,.slice b 1 d] w (Iy w (x/y) (x%y)):=by
 have A:=oK (Er E C);have J:¬ AW (x:Int) (y:Int)<0:=by rw[C3];omega
 have m:y<4294967296:=by
  obtain⟨D,h1,h2,-⟩:=C;have h3:=W.val_lt h2.bnd;rw[h2.val,h1.len]at h3;exact h3
 obtain⟨f,o,rfl,G⟩:∃ f o,b=some ⟨f,o,none⟩/\w.cell? ⟨f,o,none⟩=some (.int .u32 (y:Int)):=by
  obtain⟨D,h1,h2,-⟩:=C;obtain⟨f,o,rfl,I⟩:=h1.at (j:=0) (by omega);refine⟨f,o,rfl,?_⟩;have h3:=I 0 (by omega);have h4:D.getD 0 0=y:=by
   have h5:=h1.len
   match D,h5 with
   | [z],_=>have h6:=h2.val;simp[W.val]at h6;simpa using h6
  rw[h4]at h3;exact h3
 go_enter func258,ntmps258
 go_wp2_with fail
 refine A.out.mono ?_;rintro e V ⟨rfl,s⟩;generalize AW (x:Int) (y:Int)=T at *
 have H:=s.ext.cell G;have B:=oK (LB (E.ext s.ext) F h0 m)
 go_wp2_with fail
 refine B.out.mono ?_;rintro e p ⟨R,U,S,rfl,q,N⟩;have O:x%y<4294967296:=Nat.lt_trans (gE _ h0) m;generalize x%y=r at *
 go_upto_region 5 with(fail)
 have i:=(Ay p p.heap.size 241 #[.int .u32 (r:Int)] 1 rfl (lrf _) (by omega));have l:SlN .u32 (p.alloc (.cells #[.int .u32 (r:Int)] 241)) (some ⟨p.heap.size,0,none⟩) 1 1 [r]:=i.sl
 go_wp2_with fail
 refine(BN l).mono ?_;rintro e X ⟨k,rfl,rfl,K,P⟩;have t:W.bnd 4294967296 [r]:=fun z Q=>by rw[oZ.1 Q];exact O
 have M:=CX l i.ty K P t (v:=r) (by simp[W.val]);have g:=(Ext.refl p).alloc (.cells #[.int .u32 (r:Int)] 241);go_wp2
 go_ret2
 exact⟨_,_,_,_,_,_,rfl,(s.ext.trans q).trans g,N.ext g,M⟩
end Go.Proofs.YtlbmnokpiilfpaaGreatDoor
