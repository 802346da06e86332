/- Part Py14. -/
import Derived.Test.YtlbmnokpiilfpaaGreatDoorPy13

set_option linter.all false
set_option maxRecDepth 100000
set_option maxHeartbeats 100000000
namespace Go.Proofs.YtlbmnokpiilfpaaGreatDoor
open Tryz Go Go.RowKit
def kI:=@List.getElem_of_mem
variable {f:Act} {ops:Array Oper} {s:Bool} {Q:Exit->Act->World->Prop} {va vb:Int} {te:List Int} {rest:List Oper} {B D E X Y Z b d g k m n nt:Nat} {o:Oper} {x y:Operand} {p q:Rat} {w w':World}
abbrev pz:Int×List Tx:=(0,[])
def PSl(w:World)(a:Option Addr)(n c:Nat)(ps:List (Int×List Tx)):Prop:=∃ rows,SlK w 2 a n c rows/\ps.length=n/\∀ i,i<n->∃ A m d,rows.getD i []=As (ps.getD i pz).1 A m d/\Be w A m d (ps.getD i pz).2
theorem Fi:BT prog 28 [.int .i64 0,.slice none 0 0] 2 32:=⟨by kernel_rfl,rfl,by omega⟩
theorem Qi{a:Option Addr}{c:Nat}{ps:List (Int×List Tx)}(h:PSl w a n c ps)(V:n<=10) :
 Calls prog 19 #[.slice a n c] w fun e S=>e = .returned (.bool (decide (∀ p∈ps,Bf p.2 8 12)))/\Ext w S:=by
 obtain⟨M,O,K,L⟩:=h;have N:=qh L;have H:=qh K;obtain⟨r,E⟩:∃ r,decide (∀ p∈ps,Bf p.2 8 12)=r:=⟨_,rfl⟩;rw[E];have J:=qh E;clear E L K
 go_enter func19,ntmps19
 go_wp2
 go_loopw[3] (fun F wr=>∃ k:Nat,F = .int .i64 k/\k<=n/\Ext w wr/\Hid (∀ i,i<k->Bf (ps.getD i pz).2 8 12)) (fun F _=>n-(intOf F).toNat)
 case atStart=>exact⟨0,rfl,oY _,Ext.refl _,qh (fun i z=>absurd z (by omega))⟩
 case round =>
  obtain⟨k,rfl,U,s,x⟩:=hrel;by_cases o:k<n
  case neg =>
   have t:¬ (k:Int)<n:=by omega
   have B:Hid (r=true):=qh (by
    rw[<-J.out];refine gX fun p hp => ?_;obtain⟨i,z,rfl⟩:=kI hp;have h1:=x.out i (by have:=H.out;omega)
    rwa[gqq,oN z,pg]at h1)
   clear x;go_wp2;go_ret;exact⟨by rw[B.out];rfl,s⟩
  have t:(k:Int)<n:=by omega
  have l:=O.ext s;obtain⟨b,Q,rfl,_⟩:=l.rd (by omega);obtain⟨A,m,d,f,v⟩:=N.out k o;have I:Hid (ps.getD k pz∈ps):=qh (by have:=H.out;rw[gqq,oN (by omega),pg];exact iF _)
  have y:Hid (Bf (ps.getD k pz).2 8 12->∀ i,i<k+1->Bf (ps.getD i pz).2 8 12):=qh (fun h1 i z=>by
   by_cases D:i<k
   · exact x.out i D
   · have:i=k:=by omega
     subst this
     exact h1)
  generalize ps.getD k pz=p at *
  obtain⟨G,R⟩:=p;have g:=qh (Ja (va:=G) (nt:=8) (d:=12) (v.ext s));have P:(As G A m d).toArray=#[.int .i64 G,.slice A m d]:=rfl;simp only at f I y;clear v x;by_cases q:Bf R 8 12
  · have C:=qh (y.out q);rw[gX q]at g;clear q y
    go_wp2_with(refine Bz rfl rfl An rfl l o ?_;rw[f])
    refine g.out.mono ?_;rintro e T ⟨rfl,j⟩;go_wp2;go_roundw
    case rel=>exact⟨k+1,by go_num,by omega,s.trans j,C⟩
    case measure=>simp[intOf];omega
  · have B:Hid (r=false):=qh (by
     rw[<-J.out]
     exact pb fun h1=>q (h1 _ I.out))
    rw[pb q]at g;clear q y
    go_wp2_with(refine Bz rfl rfl An rfl l o ?_;rw[f])
    refine g.out.mono ?_;rintro e T ⟨rfl,j⟩;go_wp2;go_ret;exact⟨by rw[B.out];rfl,s.trans j⟩
theorem RD{b:Type}{l:List (List b)}{p:List b->Bool}(a:k<l.length)(h:(l.take k).all p=true)(h1:p (l.getD k [])=true):(l.take (k+1)).all p=true:=by
 rw[oW a,List.all_append,h];simp[a]at h1;simp[h1]
theorem UQ{b:Type}{l:List (List b)}{p:List b->Bool}(a:k<l.length)(h1:p (l.getD k [])=false):l.all p=false:=by
 simp[a]at h1;rw[List.all_eq_false];exact⟨l[k],iF a,by simp[h1]⟩
theorem Jb{a:Option Addr}{c:Nat}{xs:List (List UInt8)}(A:Db w a n c xs) :
 Calls prog 56 #[.int .i64 (m:Int),.slice a n c] w fun e C=>e = .returned (.bool (xs.all (fun x=>decide (x.length<=m))))/\w=C:=by
 obtain⟨D,o,t,p⟩:=A;have z:n<=maxLen:=oS o.cap o.max;unfold maxLen at z;have l:=qh t;have v:=qh p;clear t p
 go_enter func56,ntmps56
 go_wp2
 go_loop[5] (fun i=>∃ k:Nat,k<=n/\i = .int .i64 k/\(xs.take k).all (fun x=>decide (x.length<=m))=true) (fun i=>n-(intOf i).toNat)
 case atStart=>exact⟨0,oY _,rfl,rfl⟩
 case round =>
  obtain⟨k,E,rfl,hp⟩:=hrel;have q:=qh hp;clear hp;by_cases g:k<n
  · obtain⟨b,B,rfl,d⟩:=o.rd (by omega);obtain⟨s,f,j⟩:=v.out k g;have y:=d k g;rw[f]at y;have r:Hid ((xs.getD k []).length=s.size):=qh (by rw[<-j,Ax]);clear j d f;by_cases p:(m:Int)<(s.size:Int)
    · go_wp2;go_ret;refine⟨Uu ?_,rfl⟩;rw[UQ (k:=k) (by have:=l.out;omega) (by rw[r.out];simp;omega)]
    · go_wp2;go_round
      case rel=>exact⟨k+1,by omega,by go_num,RD (by have:=l.out;omega) q.out (by rw[r.out];simp;omega)⟩
      case measure=>simp[intOf];omega
  · go_wp2;go_ret;refine⟨Uu ?_,rfl⟩;have h1:=q.out
    rwa[oL (by have:=l.out;omega)]at h1
theorem Be.nil(w:World):Be w none 0 0 []:=⟨[],SlK.nil w 2,rfl,fun i a=>absurd a (by omega)⟩
theorem Tg(h:(txt q).length<=k+2)(h1:1<=k):q.den<P2 (4*k):=by
 have e:(16:Nat)^k=P2 (4*k):=by unfold P2;rw[jO]
 have b:10^k<=16^k:=iV (by omega) _;rw[<-e];by_cases a:q.den=1
 · rw[a];exact Nat.one_lt_pow (by omega) (by omega)
 · have h3:=Ga q.den;have h4:(Lib.decDigits q.den).length<=k:=by
    unfold txt at h;rw[pf a]at h;have h5:0<(Lib.itoa q.num).length:=by
     unfold Lib.itoa;split
     · simp
     · exact List.length_pos_iff.2 (W.dec_ne _)
    simp at h;omega
   exact ph h3 (oS (oT (by omega) h4) b)
section
variable {va:Int} {ts:List Tx} {l:List Pl.Tm}
theorem Jc(b:Bf ts nt d)(a:d<=570):∀ t∈ts,t.1.length<=570:=fun t c=>oS (b.2 t c).1 a
end
namespace Pl
theorem plE_len{a b:List Int}(h:a.length=b.length):(plE a b).length=a.length:=by
 unfold plE;rw[List.length_zipWith,h,Nat.min_self]
end Pl
namespace Pl
def QB(D Y:Nat)(q:Rat):Prop:=∃ z:Int,q*(D:Rat)=(z:Rat)/\z.natAbs<=Y
theorem QB.zero(D Y:Nat):QB D Y 0:=⟨0,by rw[Rat.zero_mul];rfl,by simp⟩
theorem QB.add(hp:QB D Y p)(a:QB D Z q):QB D (Y+Z) (p+q):=by
 obtain⟨x,h1,h2⟩:=hp;obtain⟨y,h3,h4⟩:=a;refine⟨x+y,by rw[Rat.add_mul,h1,h3,oc],?_⟩;have:=mH x y;omega
theorem QB.mul(hp:QB D Y p)(a:QB E Z q):QB (D*E) (Y*Z) (p*q):=by
 obtain⟨x,h1,h2⟩:=hp;obtain⟨y,h3,h4⟩:=a;refine⟨x*y,?_,by rw[iq];exact iu h2 h4⟩;rw[kl,oH,<-h1,<-h3]
 grind
theorem QB.neg(h:QB D Y q):QB D Y (-q):=by
 obtain⟨x,h1,h2⟩:=h;exact⟨-x,by rw[Rat.neg_mul,h1,Rat.intCast_neg],by rw[ki];exact h2⟩
theorem QB.mono(h:QB D Y q)(a:Y<=Z):QB D Z q:=by
 obtain⟨x,h1,h2⟩:=h;exact⟨x,h1,by omega⟩
theorem QB.scale(h:QB D Y q)(k:Nat):QB (D*k) (Y*k) q:=by
 obtain⟨x,h1,h2⟩:=h;refine⟨x*k,?_,by rw[iq];exact iu h2 (lrf _)⟩;rw[kl,oH,<-h1,<-iB];rfl
theorem QB.parts(h:QB D Y q)(c:0<D):q.num.natAbs<=Y/\q.den∣D:=by
 obtain⟨z,h1,h2⟩:=h;have h0:(D:Rat)≠0:=fun h=>by have:=mL.1 h;omega
 have e:q=mkRat z D:=by
  rw[GO,<-h1,iB,lM _ h0,kO]
 obtain⟨b,a⟩:=rat_frac (n:=z) (d:=D) (by omega);rw[e];refine⟨oS (mkRat_le (by omega)).1 h2,?_⟩;rw[a];exact Nat.div_dvd_of_dvd (jA _ _)
theorem QB.rb(h:QB D Y q)(a:0<D)(h1:D<P2 b)(h2:Y<P2 b):RB b q :=
 ⟨oR (h.parts a).1 h2,oR (kM a (h.parts a).2) h1⟩
theorem QB.of(a:q.den∣D)(b:q.num.natAbs<=Y):QB D (Y*D) q:=by
 refine⟨zsc q D,(NE a).symm,?_⟩;unfold zsc;rw[iq];exact iu b (gM _ _)
def SB(D Y:Nat)(l:List Tm):Prop:=∀ t∈l,QB D Y t.2
theorem SB.coef{D Y:Nat}(e:List Int):∀ {l:List Tm},SB D Y l->QB D (l.length*Y) (coef l e)
 | [],_=>QB.zero _ _
 | t :: r,h=>by
  have h1:QB D Y (if t.1=e then t.2 else 0):=by
   split
   · exact h t (by simp)
   · exact QB.zero _ _
  have h2:=QB.add h1 (SB.coef e (l:=r) (fun s a=>h s (by simp[a])));exact h2.mono (by rw[io,iy];omega)
theorem SB.mono{D Y Z:Nat}{l:List Tm}(h:SB D Y l)(b:Y<=Z):SB D Z l:=fun t a=>(h t a).mono b
theorem SB.scale{D Y:Nat}{l:List Tm}(h:SB D Y l)(k:Nat):SB (D*k) (Y*k) l:=fun t a=>(h t a).scale k
theorem SB.app{a b:List Tm}(c:SB D Y a)(d:SB D Y b):SB D Y (a ++ b):=fun t e=>(il.1 e).elim (c t) (d t)
theorem SB.app2{a b:List Tm}(c:SB D Y a)(d:SB E Z b):SB (D*E) (Y*E+Z*D) (a ++ b):=by
 refine SB.app ((c.scale E).mono (by omega)) ?_;rw[oU D E];exact(d.scale D).mono (by omega)
theorem UR(a b:Nat):a*(b/Nat.gcd a b)=Nat.lcm a b:=by
 unfold Nat.lcm;rw[mG _ (jA a b)]
theorem ME{l:List Rat}(h:∀ q∈l,q.den∣D):Bi l∣D:=by
 have c:∀ (l:List Rat) (a:Nat),a∣D->(∀ q∈l,q.den∣D)->l.foldl (fun a q=>a*(q.den/Nat.gcd a q.den)) a∣D:=by
  intro l
  induction l with
  | nil=>intro a b _;exact b
  | cons q r ih =>
   intro a b h;rw[kT,UR];exact ih _ (Nat.lcm_dvd b (h q (by simp))) (fun s d=>h s (by simp[d]))
 exact c l 1 (Nat.one_dvd _) h
theorem SB.lcm{l:List Tm}(h:SB D Y l)(a:0<D):Bi (l.map (·.2))<=D:=by
 refine kM a (ME fun q b => ?_);obtain⟨t,c,rfl⟩:=gT.1 b;exact((h t c).parts a).2
theorem SB.of{Y:Nat}{l:List Tm}(h:∀ t∈l,t.2.num.natAbs<=Y):SB (Bi (l.map (·.2))) (Y*Bi (l.map (·.2))) l :=
 fun t a=>QB.of (F6 (jl a)) (h t a)
end Pl
theorem Lw{p:List Pl.Tm}(h6:∀ t∈p,t.1.length=6):(cnP p).length<=p.length:=by
 have h:=Pl.nodup_le ((cnP p).map (·.1)) (p.map (·.1)) (CO (Dn h6).1).nodup (fun e he=>by
  obtain⟨t,b,rfl⟩:=gT.1 he;obtain⟨s,a,e⟩:=Lr h6 b;rw[<-e]
  exact jl a)
 simpa using h
theorem SB.cn{p:List Pl.Tm}(h6:∀ t∈p,t.1.length=6)(h:Pl.SB D Y p):Pl.SB D (p.length*Y) (cnP p):=by
 intro t a;obtain⟨h1,h2⟩:=Dn h6;rw[<-Pl.coef_mem (CO h1).nodup a,h2];exact h.coef t.1
def Lo(l:List Pl.Tm):Prop:=∀ t∈l,t.1.length=6/\∀ x∈t.1,0<=x/\x<=1048576
theorem Ti{p:List Pl.Tm}(h:Pl.SB D Y p)(a:0<D)(h1:D<P2 b)(h2:p.length*Y<P2 b)(c:b<=1920)(d:∀ t∈p,t.1.length=6/\∀ x∈t.1,0<=x/\x<=1099511627776)(f:p.length<=1000000):DD p:=by
 refine⟨fun e he => ?_,f⟩;obtain⟨t,g,rfl⟩:=Pl.coef_present he;exact⟨RB.str ((h.coef t.1).rb a h1 h2) c,d t g⟩
theorem RE{p:List Pl.Tm}(h:Pl.SB D Y p)(d:0<D)(h1:D<P2 b)(h2:p.length*Y<P2 b)(j:b<=1920)(g:Lo p)(l:p.length<=1000):Mv p where
 pre:=fun a s e x=>by
  have i:Pl.SB D Y a:=fun t c=>h t (by rw[<-e];simp[c]);have f:a.length<=p.length:=by rw[<-e];simp
  exact((i.coef x).rb d h1 (oR (oO _ f) h2)).mono (by omega)
 each:=fun t c=>((h t c).rb d h1 (oR (by
  have:1<=p.length:=mU c;have:=oO Y this
  omega) h2)).mono (by omega)
 fits:=Ti h d h1 h2 j (fun t c=>⟨(g t c).1,fun x k=>by have:=(g t c).2 x k;omega⟩) (by omega)
theorem Tj(h:(txt q).length<=k):q.num.natAbs<10^k :=
 ph (Lq q).1 (oT (by omega) h)
theorem US{ts:List Tx}{l:List Pl.Tm}(h:rdP va ts=some l)(g:Bf ts nt d)(o:3<=d)(n:10^d<=P2 B) :
 ∃ D,0<D/\D<P2 (4*(d-2)*nt+1)/\Pl.SB D (P2 (B+(4*(d-2)*nt+1))) l:=by
 have e:∀ t∈l,(txt t.2).length<=d:=by
  intro m e;obtain⟨t,c,j⟩:=Eq h e;have h1:=Du (Bp j).1;rw[<-h1];exact(g.2 t c).1
 have a:=Dd h;have f:Bi (l.map (·.2))<P2 (4*(d-2)*nt+1):=by
  have h1:=MA (l:=l.map (·.2)) (b:=4*(d-2)) (fun q i=>by
   obtain⟨t,c,rfl⟩:=gT.1 i
   exact Tg (k:=d-2) (by have:=e t c;omega) (by omega))
  refine Aj h1 ?_;have h2:l.length<=nt:=by rw[a];exact g.1
  have:=gD (4*(d-2)) h2;rw[iM];omega
 refine⟨_,BU (l.map (·.2)),f,(Pl.SB.of (Y:=P2 B) (fun t c => ?_)).mono ?_⟩
 · have:=Tj (e t c);omega
 · rw[DL];exact gD _ (jc f)
open Classical in
noncomputable def mulA (va vb:Int) (oa ob:Option (List Pl.Tm)):Int×List Tx×Int :=
 match oa,ob with
 | some la,some lb=>if va=vb then(if la≠[]/\lb≠[]/\24<DJ la+DJ lb then(0,[],2)else resQ va (Pl.prodT la lb))else(0,[],4)
 | _,_=>(0,[],1)
theorem NK.a{oa ob:Option (List Pl.Tm)}{e:Ending}(h:NK w va vb oa ob e w'):DP w (mulA va vb oa ob) e w':=by
 unfold mulA;rcases h with⟨f,g,rfl,rfl,d,h⟩|⟨c,d,h⟩|⟨c,h⟩
 · simp only[pq d];rcases h with⟨b,h⟩|⟨b,h⟩
   · rw[pf b];exact h
   · rw[pq b];exact h
 · cases oa <;> cases ob <;> simp at c;simp only[pf d];exact h
 · cases oa <;> cases ob <;> simp at c <;> exact h
theorem Tk{v:Int}{p:List Pl.Tm}(a:0<=v/\v<=6)(hi:∀ t∈p,InV v.toNat t.1)(h:(resQ v p).2.2=0):(resQ v p).1=v/\rdP v (resQ v p).2.1=some (cnP p):=by
 obtain⟨k,rfl⟩:∃ k:Nat,v=(k:Int):=⟨v.toNat,by omega⟩;rw[jf]at hi;rcases Qe (vars:=k) (by omega) hi with⟨h1,h2,h3⟩|⟨h1,h2⟩
 · rw[h2];exact⟨rfl,h3⟩
 · rw[h2]at h;cases h
structure Pv(v:Int)(l:List Pl.Tm):Prop where
 v0:0<=v/\v<=6
 can:Pl.Canon 6 l
 inv:∀ t∈l,InV v.toNat t.1
theorem Pv.of{v:Int}{ts:List Tx}{l:List Pl.Tm}(h:rdP v ts=some l):Pv v l:=by
 have a:=(Bl h).1;refine⟨a,BW h,?_⟩;obtain⟨k,rfl⟩:∃ k:Nat,v=(k:Int):=⟨v.toNat,by omega⟩;rw[jf];exact Ta h
theorem InV.pl{a b:List Int}(r:InV n a)(s:InV n b):InV n (Pl.plE a b):=by
 obtain⟨i,m,j⟩:=r;obtain⟨o,p,k⟩:=s;refine⟨by rw[Pl.plE_len (by omega),i],fun x c => ?_,?_⟩
 · have f:∀ {a b:List Int},(∀ x∈a,0<=x)->(∀ x∈b,0<=x)->∀ x∈Pl.plE a b,0<=x:=by
    intro a
    induction a with
    | nil=>intro b _ _ x c;simp[Pl.plE]at c
    | cons u a ih =>
     intro b h1 h2 x c;cases b with
     | nil=>simp[Pl.plE]at c
     | cons w b =>
      have d:x=u+w\/x∈Pl.plE a b:=by simpa[Pl.plE]using c
      rcases d with rfl|c
      · have:=h1 u (by simp);have:=h2 w (by simp);omega
      · exact ih (fun z e=>h1 z (by simp[e])) (fun z e=>h2 z (by simp[e])) x c
   exact f m p x c
 · unfold BA at j k |-;have q:(Pl.plE a b).take n=Pl.plE (a.take n) (b.take n):=by unfold Pl.plE;rw[List.take_zipWith]
   have g:(a.take n).length=(b.take n).length:=by simp[i,o]
   have l:Pl.plE (a.take n ++ List.replicate (6-(a.take n).length) 0) (b.take n ++ List.replicate (6-(b.take n).length) 0)=Pl.plE (a.take n) (b.take n) ++ List.replicate (6-(a.take n).length) 0:=by
    unfold Pl.plE;rw[List.zipWith_append g,<-g];congr 1;rw[List.zipWith_replicate];simp
   rw[j,k]at l;rw[q,l,Pl.plE_len g]
theorem Lx{a b:List Pl.Tm}(c:∀ t∈a,InV n t.1)(d:∀ t∈b,InV n t.1):∀ t∈a ++ b,InV n t.1:=fun t e=>(il.1 e).elim (c t) (d t)
theorem Pv.app{v:Int}{a b:List Pl.Tm}(c:Pv v a)(d:Pv v b):Pv v (cnP (a ++ b)) :=
 ⟨c.v0,(Dn fun t e=>(Lx c.inv d.inv t e).1).1,Ls (Lx c.inv d.inv)⟩
theorem Qj{v:Int}{p:List Pl.Tm}(hi:∀ t∈p,InV v.toNat t.1)(c:p.length<=4096)(d:∀ t∈p,t.1.sum<=24):(resQ v p).2.2=0:=by
 have h6:∀ t∈p,t.1.length=6:=fun t f=>(hi t f).1;unfold resQ;rw[pq];refine⟨oS (Lw h6) c,fun t r e => ?_⟩;obtain⟨s,a,b⟩:=Lr h6 (t:=t) (by rw[e];simp);rw[<-b];exact FJ.2 ⟨by rw[h6 s a];omega,(hi s a).2.1,d s a⟩
theorem Ly{a:Nat}(h:a<b):P2 a<P2 b:=Nat.pow_lt_pow_right (by omega) h
structure Bd(v:Int)(N d y:Nat)(l:List Pl.Tm):Prop where
 pv:Pv v l
 lo:Lo l
 len:l.length<=N
 sb:∃ D,0<D/\D<P2 d/\Pl.SB D (P2 y) l
section
variable {v:Int} {N M d e y z:Nat} {la lb:List Pl.Tm} {ts:List Tx}
theorem Bd.of{nt k B:Nat}(h:rdP v ts=some la)(a:Bf ts nt k)(c:3<=k)(b:10^k<=P2 B):Bd v nt (4*(k-2)*nt+1) (B+(4*(k-2)*nt+1)) la :=
 ⟨Pv.of h,Dm h,by rw[Dd h];exact a.1,US h a c b⟩
theorem Lo.of{l:List Pl.Tm}(h:rdP v ts=some l):Lo l:=Dm h
theorem Bd.app1(f:Bd v N d y la)(g:Bd v M e z lb)(h1:y+e<m)(h2:z+d<m):(la ++ lb).length<=N+M/\∃ D,0<D/\D<P2 (d+e)/\Pl.SB D (P2 m) (la ++ lb):=by
 obtain⟨D,i,b,j⟩:=f.sb;obtain⟨E,k,c,l⟩:=g.sb;refine⟨by have:=f.len;have:=g.len;rw[iD];omega,D*E,kF i k,BF b c,(j.app2 l).mono ?_⟩;have n:P2 y*E<=P2 (m-1):=by
  refine oS ?_ (Pq (a:=y+e) (by omega));rw[DL];exact gD _ (jc c)
 have o:P2 z*D<=P2 (m-1):=by
  refine oS ?_ (Pq (a:=z+d) (by omega));rw[DL];exact gD _ (jc b)
 have p:P2 m=P2 (m-1)*2:=by
  conv=>lhs;rw[show m=m-1+1 by omega,DL]
  rfl
 omega
theorem Bd.app{k m:Nat}(a:Bd v N d y la)(b:Bd v M e z lb)(h:rdP v ts=some (cnP (la ++ lb)))(h1:y+e<m)(h2:z+d<m)(j:N+M<=P2 k):Bd v (N+M) (d+e) (k+m) (cnP (la ++ lb)):=by
 have h6:∀ t∈la ++ lb,t.1.length=6:=fun t l=>(Lx a.pv.inv b.pv.inv t l).1;obtain⟨c,D,f,g,i⟩:=a.app1 b h1 h2;refine⟨a.pv.app b.pv,Dm h,oS (Lw h6) c,D,f,g,(SB.cn h6 i).mono ?_⟩;rw[DL];exact oO _ (oS c j)
theorem Bd.sum(a:Bd v N d y la)(c:Bd v M e z lb)(h1:y+e<m)(h2:z+d<m)(j:N+M<=P2 k)(h3:N+M<=1000)(h4:k+m<1920)(h5:d+e<=1920):Mv (la ++ lb):=by
 obtain⟨l,D,f,g,i⟩:=a.app1 c h1 h2;refine RE (b:=1920) i f (Aj g h5) ?_ (by omega) (fun t n=>(il.1 n).elim (a.lo t) (c.lo t)) (by omega);refine oR ?_ (Ly h4);rw[DL];exact oO _ (oS l j)
end
structure Bx where
 g:Nat
 v:Int
 a:Option Addr
 n:Nat
 c:Nat
 ts:List Tx
def PBx(w0 w:World)(l:List Bx):Prop:=Ext w0 w/\∀ p∈l,Arr w p.g 28 (As p.v p.a p.n p.c)/\Be w p.a p.n p.c p.ts
section
variable {w0 w w1 w':World} {l:List Bx} {i:Nat}
theorem PBx.e(h:PBx w0 w l):Ext w0 w:=h.1
theorem PBx.at{v:Int}{a:Option Addr}{c:Nat}{ts:List Tx}(h:PBx w0 w l)(hi:l[i]?=some ⟨g,v,a,n,c,ts⟩):Arr w g 28 (As v a n c)/\Be w a n c ts:=h.2 _ (gY hi)
theorem PBx.c{g:Nat}{v:Int}{a:Option Addr}{n c:Nat}{ts:List Tx}(h:PBx w0 w l)(hi:l[i]?=some ⟨g,v,a,n,c,ts⟩):w.cell? ⟨g,0,none⟩=some (.int .i64 v)/\w.cell? ⟨g,1,none⟩=some (.slice a n c) :=
 ⟨(h.at hi).1.cell (i:=0) (by simp[As]),(h.at hi).1.cell (i:=1) (by simp[As])⟩
theorem PBx.t{v:Int}{a:Option Addr}{c:Nat}{ts:List Tx}(h:PBx w0 w l)(hi:l[i]?=some ⟨g,v,a,n,c,ts⟩):Be w a n c ts:=(h.at hi).2
theorem PBx.ext(h:PBx w0 w l)(e:Ext w w'):PBx w0 w' l:=⟨h.1.trans e,fun p hp=>⟨(h.2 p hp).1.ext e,(h.2 p hp).2.ext e⟩⟩
theorem PBx.one{v:Int}{a:Option Addr}{c:Nat}{ts:List Tx}(b:Ext w0 w)(d:Arr w g 28 (As v a n c))(e:Be w0 a n c ts):PBx w0 w [⟨g,v,a,n,c,ts⟩] :=
 ⟨b,fun p hp=>by rw[oZ.1 hp];exact⟨d,e.ext b⟩⟩
theorem PBx.app{a:List Bx}(h:PBx w0 w l)(b:PBx w0 w a):PBx w0 w (l ++ a):=⟨h.1,fun p hp=>(il.1 hp).elim (h.2 p) (b.2 p)⟩
theorem PBx.new{v:Int}{a:Option Addr}{c:Nat}{ts:List Tx}{o:Obj}(h:PBx w0 w l)(d:Ext w w1)(e:Be w1 a n c ts)(b:Arr w' w1.heap.size 28 (As v a n c))(f:(w1.alloc o).grownBy w' (some w1.heap.size)):PBx w0 w' (l ++ [⟨w1.heap.size,v,a,n,c,ts⟩]):=by
 have hF:Ext w1 w':=((Ext.refl w1).alloc _).grownR f (lrf _);have h1:=h.ext (d.trans hF);refine⟨h1.1,fun p hp => ?_⟩;rcases il.1 hp with hp|hp
 · exact h1.2 p hp
 · rw[oZ.1 hp];exact⟨b,e.ext hF⟩
end
section
variable {P:Program} {w:World}
theorem O8(b:o.guard=none)(j:o.op = .store 28 x y)
 {g:Nat} {t:TypeId} {cs:List Value} {v:Int} {a:Option Addr} {n c:Nat} (k:f.eval x = .pointer (some ⟨g,0,none⟩)) (l:f.eval y = .agg #[.int .i64 v,.slice a n c]) (h:Arr w g t cs) (i:cs.length=2)
 (e:∀ d,Arr d g t (As v a n c)->w.grownBy d (some g)->wpList Tryz.prog ops Q rest (f.put o.dst undef) d):wpList Tryz.prog ops Q (o :: rest) f w :=
 Aa (vs:=As v a n c) b j k l rfl An h i (AB _ _ _ _) e
end
def Tl(w:World)(e:Ending)(w':World):Prop:=e = .returned (.bool true)/\Ext w w'
def UT(w0:World)(v:Int)(ts:List Tx)(err:Int)(e:Ending)(w':World):Prop:=∃ a n c,e = .returned (.tuple #[.agg #[.int .i64 v,.slice a n c],.int .i64 err])/\Ext w0 w'/\Be w' a n c ts
theorem EH.v{w0:World}{v:Int}{ts:List Tx}{b:Int}{e:Ending}{d:World}(h:EH w0 v ts b e d):UT w0 v ts b e d:=by
 obtain⟨a,n,c,h1,h2,h3⟩:=h;exact⟨a,n,c,h1,h2,h3.sl⟩
namespace Pl
def Mlt(c q:Rat):Prop:=∃ z:Int,q=c*(z:Rat)
theorem Mlt.zero(c:Rat):Mlt c 0:=⟨0,by simp⟩
theorem Mlt.refl(c:Rat):Mlt c c:=⟨1,by simp⟩
theorem Mlt.add{c:Rat}(h:Mlt c p)(k:Mlt c q):Mlt c (p+q):=by
 obtain⟨x,rfl⟩:=h;obtain⟨y,rfl⟩:=k;exact⟨x+y,by rw[oc];grind⟩
theorem Mlt.mul{c d:Rat}(h:Mlt c p)(k:Mlt d q):Mlt (c*d) (p*q):=by
 obtain⟨x,rfl⟩:=h;obtain⟨y,rfl⟩:=k;exact⟨x*y,by rw[oH];grind⟩
theorem Mlt.int{c:Rat}(h:Mlt c p)(z:Int):Mlt c (p*(z:Rat)):=by
 obtain⟨x,rfl⟩:=h;exact⟨x*z,by rw[oH];grind⟩
theorem Mlt.trans{c d:Rat}(h:Mlt c d)(k:Mlt d q):Mlt c q:=by
 obtain⟨x,rfl⟩:=h;obtain⟨y,rfl⟩:=k;exact⟨x*y,by rw[oH];grind⟩
def gcdN(l:List Tm):Nat:=l.foldl (fun a t=>Nat.gcd a t.2.num.natAbs) 0
def cont(l:List Tm):Rat:=mkRat (gcdN l) (Bi (l.map (·.2)))
theorem GZ:∀ (l:List Tm) (a:Nat),(l.foldl (fun a t=>Nat.gcd a t.2.num.natAbs) a∣a/\∀ t∈l,l.foldl (fun a t=>Nat.gcd a t.2.num.natAbs) a∣t.2.num.natAbs)/\∀ d,d∣a->(∀ t∈l,d∣t.2.num.natAbs)->d∣l.foldl (fun a t=>Nat.gcd a t.2.num.natAbs) a
 | [],a=>⟨⟨Nat.dvd_refl a,by simp⟩,fun d h _=>h⟩
 | t :: r,a=>by
  obtain⟨⟨h1,h2⟩,h3⟩:=GZ r (Nat.gcd a t.2.num.natAbs);rw[kT];refine⟨⟨kh h1 (jM _ _),fun s b => ?_⟩,fun d e c=>h3 d (Nat.dvd_gcd e (c t (by simp))) (fun s b=>c s (by simp[b]))⟩;rcases gV.1 b with rfl|b
  · exact kh h1 (jA _ _)
  · exact h2 s b
theorem gcdN_dvd{l:List Tm}{t:Tm}(h:t∈l):gcdN l∣t.2.num.natAbs:=(GZ l 0).1.2 t h
theorem RF{l:List Tm}(h:∀ t∈l,d∣t.2.num.natAbs):d∣gcdN l:=(GZ l 0).2 d (Nat.dvd_zero d) h
theorem RG{l:List Tm}(a:l≠[])(h:∀ t∈l,t.2≠0):0<gcdN l:=by
 obtain⟨t,r,rfl⟩:=ji a;refine iU fun h0 => ?_;have h1:=gcdN_dvd (l:=t :: r) (t:=t) (by simp);rw[h0]at h1;have h2:=Nat.eq_zero_of_zero_dvd h1;exact h t (by simp) (rat_num_den_zero.1 (by omega))
theorem natR_ne(h:0<n):((n:Nat):Rat)≠0:=fun e=>by have:=mL.1 e;omega
theorem cont_is(l:List Tm):cont l=((gcdN l:Nat):Rat)*((Bi (l.map (·.2)):Nat):Rat)⁻¹:=by
 unfold cont;rw[GO];rfl
theorem cont_pos{l:List Tm}(a:l≠[])(h:∀ t∈l,t.2≠0):0<cont l:=by
 rw[cont_is];exact Rat.mul_pos (Rat.natCast_pos.2 (RG a h)) (Rat.inv_pos.2 (Rat.natCast_pos.2 (BU _)))
theorem cont_all{l:List Tm}{t:Tm}(a:t∈l):Mlt (cont l) t.2:=by
 have c:t.2.den∣Bi (l.map (·.2)):=F6 (jl a);obtain⟨k,d⟩:=gcdN_dvd a;have h1:=NE c;have b:=natR_ne (BU (l.map (·.2)));have f:∃ x:Int,t.2.num=(gcdN l:Int)*x:=by
  have:((gcdN l:Nat):Int)∣t.2.num:=Int.ofNat_dvd_left.2 ⟨k,d⟩;exact this
 obtain⟨x,e⟩:=f;refine⟨x*((Bi (l.map (·.2))/t.2.den:Nat):Int),?_⟩;unfold zsc at h1;rw[e]at h1;have h2:t.2=t.2*((Bi (l.map (·.2)):Nat):Rat)*((Bi (l.map (·.2)):Nat):Rat)⁻¹:=by
  rw[iB,lM _ b,kO]
 refine h2.trans ?_;rw[<-h1,cont_is];rw[oH,oH,oH,Rat.intCast_natCast,Rat.intCast_natCast];clear h1 h2 e d c b a;generalize ((Bi (l.map (·.2)):Nat):Rat)⁻¹=E;generalize ((gcdN l:Nat):Rat)=g;generalize ((Bi (l.map (·.2))/t.2.den:Nat):Rat)=k;generalize (x:Rat)=x
 grind
theorem cont_min{l:List Tm}{d:Rat}(h:∀ t∈l,t.2≠0/\Mlt d t.2):Mlt d (cont l):=by
 have b:∀ t∈l,d.num.natAbs∣t.2.num.natAbs/\t.2.den∣d.den:=by
  intro t a;obtain⟨h0,z,r⟩:=h t a;have k:t.2.num*(d.den:Int)=d.num*z*(t.2.den:Int):=by
   have i:=q_den t.2;have c:=q_den d;have j:((t.2.num*(d.den:Int):Int):Rat)=((d.num*z*(t.2.den:Int):Int):Rat):=by
    rw[oH,oH,oH,<-i,<-c];simp only[Rat.intCast_natCast]
    conv=>lhs;rw[r]
    conv=>rhs;rw[show((t.2.den:Nat):Rat)=((t.2.den:Nat):Rat) from rfl]
    grind
   exact Rat.intCast_inj.1 j
  have g:t.2.num.natAbs*d.den=d.num.natAbs*(z.natAbs*t.2.den):=by
   have:=gR Int.natAbs k;simpa[iq,iQ]using this
  constructor
  · have e:Nat.Coprime d.num.natAbs d.den:=d.reduced;exact e.dvd_of_dvd_mul_right ⟨_,g⟩
  · have e:Nat.Coprime t.2.den t.2.num.natAbs:=t.2.reduced.symm;exact e.dvd_of_dvd_mul_left ⟨d.num.natAbs*z.natAbs,by rw[g,oU t.2.den,iQ]⟩
 obtain⟨x,o⟩:=RF (fun t a=>(b t a).1)
 obtain⟨y,p⟩:Bi (l.map (·.2))∣d.den:=ME fun q n=>by
  obtain⟨t,a,rfl⟩:=gT.1 n;exact(b t a).2
 have m:=natR_ne (BU (l.map (·.2)));have c:=q_den d;rw[cont_is,o];have f:∃ s:Int,(d.num.natAbs:Int)=d.num*s:=by
  rcases Int.natAbs_eq d.num with h|h
  · exact⟨1,by omega⟩
  · exact⟨-1,by omega⟩
 obtain⟨s,f⟩:=f;refine⟨s*x*y,?_⟩;have h3:((d.num.natAbs*x:Nat):Rat)=(d.num:Rat)*(s:Rat)*(x:Rat):=by
  rw[kl,<-Rat.intCast_natCast d.num.natAbs,f,oH]
 have h4:((d.den:Nat):Rat)=((Bi (l.map (·.2)):Nat):Rat)*(y:Rat):=by
  rw[<-kl,<-p]
 rw[h3,<-c,h4];simp only[oH,Rat.intCast_natCast];have h5:=lM _ m;generalize ((Bi (l.map (·.2)):Nat):Rat)=D at *
 generalize D⁻¹=E at *
 grind
end Pl
theorem UU{a b:Option Addr}{c:Nat}(h:Arr w X 92 (Ap te s a n c b m d))(h6:te.length=6):w.cell? ⟨X,6,none⟩=some (.bool s)/\w.cell? ⟨X,7,none⟩=some (.slice a n c)/\w.cell? ⟨X,8,none⟩=some (.bool false)/\w.cell? ⟨X,9,none⟩=some (.slice b m d):=by
 obtain⟨e,f,g,j,k,l,rfl⟩:=Cs h6;exact⟨h.cell (i:=6) (by simp[Ap,Ah,Ab]),h.cell (i:=7) (by simp[Ap,Ah,Ab]),h.cell (i:=8) (by simp[Ap,Ah,Ab]),h.cell (i:=9) (by simp[Ap,Ah,Ab])⟩
theorem Qk{l:List Pl.Tm}(h:k<l.length):Pl.gcdN (l.take (k+1))=Nat.gcd (Pl.gcdN (l.take k)) (l.getD k ([],0)).2.num.natAbs:=by
 unfold Pl.gcdN;rw[oW h,kU];simp[h]
theorem Lz{l:List Pl.Tm}(b:0<B)(h:∀ t∈l,t.2.num.natAbs<B)(d:∀ t∈l,t.2≠0)(k:Nat):Pl.gcdN (l.take k)<B:=by
 cases c:l.take k with
 | nil=>exact b
 | cons t r =>
  have a:t∈l:=iZ (by rw[c];simp);have h1:=Pl.gcdN_dvd (l:=t :: r) (t:=t) (by simp);have h2:0<t.2.num.natAbs:=by
   have:=d t a;have h3:t.2.num≠0:=fun e=>this (Pl.rat_num_den_zero.1 e);omega
  exact oR (kM h2 h1) (h t a)
theorem Gb{a:Option Addr}{c:Nat}{l:List Pl.Tm}(hT:AV w)(hL:BJ w a n c l)(hn:n<=1000000)(hb:∀ t∈l,Pl.RB 2280 t.2)(hz:∀ t∈l,t.2≠0)(hd:Bi (l.map (·.2))<P2 9600) :
 Calls Tryz.prog 127 #[.slice a n c] w (Fb w (Pl.cont l)):=by
 have af:=fun(b:World) (f:Ext w b)=>qh (Fc (hT.ext f) (hL.ext f) hn (fun q y=>by
  obtain⟨t,ht,rfl⟩:=gT.1 y
  exact Aj (hb t ht).2 (by omega)) (fun k=>oR (F7 k) hd))
 have HD:=qh (And.intro (BU (l.map (·.2))) hd);have HC:Hid (Pl.cont l=mkRat ((Pl.gcdN l:Nat):Int) (Bi (l.map (·.2)))):=qh rfl;have HG:=qh (Lz (B:=P2 2280) (Ha _) (fun t ht=>(hb t ht).1) hz);have aj:=qh hb;obtain⟨aB,hS,K,ad⟩:=hL;have HR:=qh ad;have O:=qh K;clear ad K hb hz hd
 go_enter Tryz.func127,Tryz.ntmps127
 go_upto_region 2 with(fail)
 refine Ch ?_;intro w0 aa a6 a7 aA;have hR:Arr w0 w.heap.size 85 (Ah false none 0 0 false none 0 0):=a6;have hN:Arr w0 (w.heap.size+1) 83 (Ab false none 0 0):=a7;clear aA a6 a7;go_wp2
 go_loopw[8] (fun iv wr=>∃ (k:Nat) (F:Bool) (i:Option Addr) (E j:Nat),iv = .int .i64 k/\k<=n/\Ext w wr/\Arr wr w.heap.size 85 (Ah false none 0 0 false none 0 0)/\Arr wr (w.heap.size+1) 83 (Ab F i E j)/\Hid (decide (((Pl.gcdN (l.take k):Nat):Int)<0)=F)/\Wd wr i E j (Pl.gcdN (l.take k))) (fun iv _=>n-(intOf iv).toNat)
 case atStart=>exact⟨0,false,none,0,0,rfl,oY _,aa,hR,hN,qh (by simp[Pl.gcdN]),Wd.nil _⟩
 case round =>
  obtain⟨k,F,i,E,j,rfl,hk,hE,hR,hN,HS,hx⟩:=hrel;clear aa;by_cases I:k<n
  · have V:=hS.ext hE;obtain⟨bb,aC,rfl,_⟩:=V.rd (by omega);obtain⟨sx,Q,nx,S,R,mx,T,C,h6,Z⟩:=HR.out k I;have HK:=qh (Qk (l:=l) (k:=k) (by rw[O.out];exact I));have L:l.getD k ([],0)∈l:=by simp[O.out,I]
    have a4:=qh (aj.out _ L);have H:=qh (HG.out k);clear L;generalize l.getD k ([],0)=t at *
    obtain⟨te,tq⟩:=t;simp only at h6 C Z a4 HK;have ab:(Ap [0,0,0,0,0,0] false none 0 0 none 0 0).length=(Ap te sx Q nx S R mx T).length:=by rw[B8 te,h6];rfl
    have a5:Agg Tryz.prog 92 (Ap te sx Q nx S R mx T).length:=by rw[B8 te,h6];exact Au
    have hY:=Arr.new wr 92 (Ap [0,0,0,0,0,0] false none 0 0 none 0 0)
    go_upto_region 5 with(first
     | (refine Bz rfl rfl Au rfl V I ?_;rw[C])
     | (refine Aa (vs:=Ap te sx Q nx S R mx T) rfl rfl rfl rfl rfl a5 hY ab AY ?_;intro w4 a8 ag))
    have p:Ext wr w4:=((Ext.refl wr).alloc _).grownR ag (lrf _);have m:=hE.trans p;have ai:=Z.ext m;have an:=hR.ext p;have U:=hN.ext p;have ay:=hx.ext p;obtain⟨c6,c7,c8,G⟩:=UU a8 h6;have q0:=U.c 0 rfl;have q1:=U.c 1 rfl;clear hY ag hE p C V Z hx hR hN a8 ab a5 h6;generalize wr.heap.size=X at *
    generalize hA:Pl.gcdN (l.take k)=A at *
    have av:=fun(b:World) (y:Ext w4 b)=>qh (PG (v := .agg #[.bool sx,.slice Q nx S,.bool false,.slice R mx T]) (q:=tq) ⟨Ah sx Q nx S false R mx T,rfl,ai.ext y⟩);have ah:=fun(b:World) (y:Ext w4 b) (v:Value) (hv:AD b v tq.num)=>qh (Ez ((hT.ext m).ext y) (v := .agg (Ab F i E j).toArray) (z:=(A:Int)) ⟨F,i,E,j,rfl,HS,ay.ext y⟩ hv (Aj (by simpa using H.out) (by omega)) (Aj a4.out.1 (by omega)));simp only[pe,<-HK.out]at ah;generalize hA2:Pl.gcdN (l.take (k+1))=A2 at *
    go_wp2;have a1:=fun(b:World) (f:Ext w4 b)=>qh (And.intro (f.cell c6) (And.intro (f.cell c7) (And.intro (f.cell c8) (And.intro (f.cell G) (And.intro (f.cell q0) (f.cell q1))))))
    refine Ac
     [he (.agg #[.bool F,.slice i E j]),hdP X 6,he (.agg #[.bool sx,.slice Q nx S,.bool false,.slice R mx T]),hp (fun v b=>NI tq.num v b),hp (fun v b=>NI ((A2:Nat):Int) v b)]
     ⟨NI.x _,NI.x _,trivial⟩ ⟨?o0,?o1,?o2,?o3,?o4,trivial⟩ ?fin
    case o0=>exact ol2
    case o1=>exact ofa (d:=6)
    case o2=>exact ol4
    case o3 =>
     refine Ae rfl fun ρ b f r W h => ?_;have e1:_=_:=h.2.1;obtain⟨k6,k7,k8,k9,k0,k1⟩:=(a1 b f).out;refine⟨188,#[.agg #[.bool sx,.slice Q nx S,.bool false,.slice R mx T]],by go_simp,((av b f).out).mono ?_⟩;rintro e w' ⟨s,a,n,c,rfl,g,h1,h2⟩;exact⟨_,rfl,g,s,a,n,c,rfl,h1,h2⟩
    case o4 =>
     refine Ae rfl fun ρ b f r W h => ?_;have e1:_=_:=h.2.1;obtain⟨v2,e2,s2,a2,n2,c2,rfl,i2,j2⟩:=h.2.2.1;obtain⟨k6,k7,k8,k9,k0,k1⟩:=(a1 b f).out;refine⟨141,#[.agg #[.bool F,.slice i E j],.agg (Ab s2 a2 n2 c2).toArray],by go_simp,((ah b f _ ⟨s2,a2,n2,c2,rfl,i2,j2⟩).out).mono ?_⟩;rintro e w' ⟨s,a,n,c,rfl,g,h1,h2⟩;exact⟨_,rfl,g,s,a,n,c,rfl,h1,h2⟩
    case fin =>
     intro b f;rintro _ ⟨_,_,_,_,rfl,_,_⟩;rintro _ ⟨N,J,M,G,rfl,P,a0⟩;change wpList _ _ _ _ _ _;simp only[A0];have ac:=U.ext f;have au:(Ab N J M G).toArray=#[.bool N,.slice J M G]:=rfl
     go_wp2_with(refine Aa (vs:=Ab N J M G) rfl rfl rfl rfl rfl Ak ac rfl (Ad _ _ _ _) ?_;intro w7 al Y)
     go_roundw
     case rel=>exact⟨k+1,N,J,M,G,by go_num,by omega,(m.trans f).grownR Y (by omega),(an.ext f).kept Y (by simp),al,by rw[hA2];exact P,by rw[hA2];exact(by simpa using a0:Wd _ _ _ _ _).kept ac (At _ _ _ _) Y⟩
     case measure=>simp[intOf];omega
  · have ar:k=n:=by omega
    subst ar;have ak:Hid (l.take k=l):=qh (oL (by rw[O.out];exact lrf _));have H:=qh (HG.out k);rw[ak.out]at HS hx H;generalize Pl.gcdN l=A at *
    generalize Bi (l.map (·.2))=D at *
    have q0:=hN.c 0 rfl;have q1:=hN.c 1 rfl;have ap:=fun(b:World) (y:Ext wr b) (v:Value) (hv:AD b v (D:Int))=>qh (GE ((hT.ext hE).ext y) (v := .agg (Ab F i E j).toArray) (x:=(A:Int)) ⟨F,i,E,j,rfl,HS,hx.ext y⟩ hv (Aj (by simpa using H.out) (by omega)) HD.out.2 (by have:=HD.out.1;omega));have ao:=fun(b:World) (y:Ext wr b)=>af b (hE.trans y);clear af;go_wp2;have a3:=fun(b:World) (f:Ext wr b)=>qh (And.intro (f.cell q0) (f.cell q1))
    refine Ac
     [he (.agg #[.bool F,.slice i E j]),hdS a k c,hp (fun v b=>NI (D:Int) v b),hp (fun v b=>NR (mkRat (A:Int) D) v b)]
     ⟨NI.x _,NR.x _,trivial⟩ ⟨?o0,?o1,?o2,?o3,trivial⟩ ?fin
    case o0=>exact ol2
    case o1=>exact omv
    case o2 =>
     refine Ae rfl fun ρ b f r W h => ?_;have e1:_=_:=h.2.1;obtain⟨k0,k1⟩:=(a3 b f).out;refine⟨157,#[.slice a k c],by go_simp,((ao b f).out).mono ?_⟩;rintro e w' ⟨s,a,n,c,rfl,g,h1,h2⟩;exact⟨_,rfl,g,s,a,n,c,rfl,h1,h2⟩
    case o3 =>
     refine Ae rfl fun ρ b f r W h => ?_;have e1:_=_:=h.2.1;obtain⟨v2,e2,s2,a2,n2,c2,rfl,i2,j2⟩:=h.2.2.1;obtain⟨k0,k1⟩:=(a3 b f).out;refine⟨191,#[.agg #[.bool F,.slice i E j],.agg (Ab s2 a2 n2 c2).toArray],by go_simp,((ap b f _ ⟨s2,a2,n2,c2,rfl,i2,j2⟩).out).mono ?_⟩;rintro e w' ⟨cs,rfl,g,aw⟩;exact⟨_,rfl,g,cs,rfl,aw⟩
    case fin =>
     intro b f;rintro _ ⟨_,_,_,_,rfl,_,_⟩;rintro _ ⟨_,rfl,N,J,M,G,b9,m9,d9,rfl,P,a0,az⟩;change wpList _ _ _ _ _ _;simp only[A0];have ae:=hR.ext f;have au:(Ah N J M G false b9 m9 d9).toArray=#[.bool N,.slice J M G,.bool false,.slice b9 m9 d9]:=rfl
     go_wp2_with(refine Aa (vs:=Ah N J M G false b9 m9 d9) rfl rfl rfl rfl rfl Af ae rfl (Ag _ _ _ _ _ _ _ _) ?_;intro w9 am aq)
     refine oM (Ai rfl Af rfl am) rfl ?_;rw[HC.out];exact Bc (hE.trans f) ae (AC _ _ _ _ _ _ _ _) aq (by omega) P a0 az
noncomputable def contA (o:Option (List Pl.Tm)):List UInt8×Int:=match o with | some l=>(txt (Pl.cont l),0) | none=>([],1)
structure CP(l:List Pl.Tm):Prop where
 lcm:Bi (l.map (·.2))<P2 1900
 num:∀ t∈l,t.2.num.natAbs<P2 1900
theorem Jd(l:List Pl.Tm):(Pl.cont l).num.natAbs<=Pl.gcdN l/\(Pl.cont l).den<=Bi (l.map (·.2)):=by
 have h:=Pl.mkRat_le (n:=(Pl.gcdN l:Int)) (d:=Bi (l.map (·.2))) (by have:=BU (l.map (·.2));omega);exact⟨h.1,h.2⟩
theorem CP.rb{l:List Pl.Tm}(h:CP l)(a:∀ t∈l,t.2≠0):Pl.RB 1900 (Pl.cont l):=by
 have h1:=Lz (Ha 1900) h.num a l.length;rw[kw]at h1;have h2:=Jd l;exact⟨oR h2.1 h1,oR h2.2 h.lcm⟩
theorem LA{a:Option Addr}{c:Nat}{ts:List Tx}(B:AV w)(J:Be w a n c ts)(sa:∀ t∈ts,t.1.length<=570)(q:∀ l,rdP va ts=some l->CP l) :
 Calls Tryz.prog 59 #[.agg #[.int .i64 va,.slice a n c]] w fun e L=>e = .returned (.tuple #[.string ⟨(contA (rdP va ts)).1.toArray⟩,.int .i64 (contA (rdP va ts)).2])/\Ext w L:=by
 have k:=fun(N:World) (I:Ext w N)=>qh (Dh (vars:=va) (B.ext I) (J.ext I) sa)
 have v:Hid (∀ l,rdP va ts=some l->(∀ t∈l,Pl.RB 2280 t.2)/\(∀ t∈l,t.2≠0)/\l.length<=4096/\CP l):=qh (fun l h2=>by
  refine⟨fun t K=>(NV h2 sa t K).mono (by omega),(BW h2).nz,?_,q l h2⟩
  rw[Dd h2];exact(Bl h2).2.1)
 obtain⟨ol,r⟩:∃ o,rdP va ts=o:=⟨_,rfl⟩;rw[r]at k v |-;clear r sa J q
 go_enter Tryz.func59,Tryz.ntmps59
 go_upto_region 1 with(fail)
 refine AM ?_;intro R m g E;have F:=g.c 0 rfl;have G:=g.c 1 rfl;clear g E
 go_wp2_with fail
 refine(k _ m).out.mono ?_;rintro e S ⟨O,Q,P,rfl,y,d⟩;have i:=m.trans y;clear k F G;cases ol with
 | none =>
  simp only[jQ];go_wp2
  go_ret2
  exact⟨rfl,i⟩
 | some l =>
  simp only[jD,pg]at d |-;have b:=qh (v.out l rfl);have C:=d.len;have p:=qh (Gb (B.ext i) d (by have:=b.out.2.2.1;omega) b.out.1 b.out.2.1 (Aj b.out.2.2.2.lcm (by omega)));have j:=b.out.2.2.2.rb b.out.2.1;have x:Hid (Da (Pl.cont l)):=qh (GR (Aj j.1 (by omega)) (Aj j.2 (by omega)));clear v d C j
  go_wp2_with fail
  refine p.out.mono ?_;rintro e M ⟨H,rfl,z,s⟩;have f:=i.trans z;have D:=qh (x.out M (.agg H.toArray) (B.ext f) ⟨H,rfl,s⟩);clear p s
  go_wp2_with fail
  refine D.out.mono ?_;rintro e T ⟨rfl,A⟩;go_wp2
  go_ret2
  exact⟨rfl,f.trans A⟩
noncomputable def primF (l:List Pl.Tm):Rat:=if 0<l.length/\(l.getD 0 ([],0)).2.num<0 then -(Pl.cont l)⁻¹ else(Pl.cont l)⁻¹
noncomputable def primA (va:Int) (o:Option (List Pl.Tm)):Int×List Tx×Int:=match o with | some l=>resQ va (BH (primF l) l) | none=>(0,[],1)
theorem RB.inv(h:Pl.RB b q)(d:1<=b):Pl.RB b q⁻¹:=by
 rcases Int.lt_trichotomy q.num 0 with h1|h1|h1
 · obtain⟨a,c⟩:=Pl.rat_inv_neg h1;exact⟨by rw[a];simpa using h.2,by rw[c];exact h.1⟩
 · have:q=0:=Pl.rat_num_den_zero.1 h1;rw[this,Pl.rat_inv_zero];exact Pl.RB.zero d
 · obtain⟨a,c⟩:=Pl.rat_inv_pos h1;exact⟨by rw[a];simpa using h.2,by rw[c];exact h.1⟩
theorem RH{l:List Pl.Tm}(h:CP l)(a:∀ t∈l,t.2≠0):Pl.RB 1900 (primF l):=by
 have h1:=RB.inv (h.rb a) (by omega);unfold primF;split
 · exact h1.neg
 · exact h1
theorem Je{a:Option Addr}{c:Nat}{ts:List Tx}(hT:AV w)(ha:Be w a n c ts)(sa:∀ t∈ts,t.1.length<=570)(a8:∀ l,rdP va ts=some l->CP l/\DD (BH (primF l) l)) :
 Calls Tryz.prog 61 #[.agg #[.int .i64 va,.slice a n c]] w (DP w (primA va (rdP va ts))):=by
 have ah:=fun(D:World) (C:Ext w D)=>qh (Dh (vars:=va) (hT.ext C) (ha.ext C) sa)
 have HB:Hid (∀ l,rdP va ts=some l->(∀ t∈l,Pl.RB 2280 t.2)/\(∀ t∈l,t.2≠0)/\l.length<=4096/\CP l/\(0<=va/\va<=6)/\DD (BH (primF l) l)/\Pl.Nrm (BH (primF l) l)/\Pl.RB 2400 (primF l)):=qh (fun l h2=>by
  refine⟨fun t ht=>(NV h2 sa t ht).mono (by omega),(BW h2).nz,?_,(a8 l h2).1,(Bl h2).1,(a8 l h2).2,Rt (CO (BW h2)),(RH (a8 l h2).1 (BW h2).nz).mono (by omega)⟩
  rw[Dd h2];exact(Bl h2).2.1)
 obtain⟨ol,aG⟩:∃ o,rdP va ts=o:=⟨_,rfl⟩;rw[aG]at ah HB |-;clear aG sa ha a8
 go_enter Tryz.func61,Tryz.ntmps61
 go_upto_region 1 with(fail)
 refine Ch ?_;intro w0 a0 Z aq b2;have H:=Z.c 0 rfl;have b5:=Z.c 1 rfl;have hR:Arr w0 (w.heap.size+1) 28 (As 0 none 0 0):=aq;have hP:Arr w0 w.heap.size 28 (As va a n c):=Z;have bc:(As 0 none 0 0).toArray=#[.int .i64 0,.slice none 0 0]:=rfl;clear Z aq b2;have be:=a0.size
 go_wp2_with fail
 refine(ah _ a0).out.mono ?_;rintro e w1 ⟨a3,n3,c3,rfl,N,E⟩;have O:=a0.trans N;have a6:=hR.ext N;have H:=N.cell H;have hP:=hP.ext N;clear b5 hR ah a0 N;cases ol with
 | none =>
  simp only[jQ]
  go_wp2_with(refine Aa (vs:=As 0 none 0 0) rfl rfl rfl rfl rfl An a6 rfl (AB _ _ _ _) ?_;intro w9 aS aX)
  refine oM (Ar rfl An rfl rfl aS) rfl ?_;exact⟨none,0,0,rfl,O.grownR aX (by omega),TmO.nil _ _⟩
 | some l =>
  simp only[jD,pg]at E |-;have k:=qh (HB.out l rfl);have aK:=k.out.2.2.2.2.1;have aE:=E.len;have b9:n3<=4096:=by have:=k.out.2.2.1;omega
  obtain⟨vn,rfl⟩:∃ j:Nat,va=(j:Int):=⟨va.toNat,by omega⟩;have az:=qh (Gb (hT.ext O) E (by omega) k.out.1 k.out.2.1 (Aj k.out.2.2.2.1.lcm (by omega)));have ak:=qh aE;clear HB aE aK
  go_wp2_with fail
  refine az.out.mono ?_;rintro e w2 ⟨cs,rfl,au,aH⟩;have aD:=qh (Nd (v := .agg cs.toArray) (q:=Pl.cont l) (w:=w2) ⟨cs,rfl,aH⟩);clear az aH
  go_wp2_with fail
  refine aD.out.mono ?_;rintro e w3 ⟨_,rfl,av,s1,m,B,s,p,A,y,rfl,M,S,T⟩;have I:=au.trans av;have hY:=Arr.new w3 85 (Ah false none 0 0 false none 0 0);have af:(Ah s1 m B s false p A y).toArray=#[.bool s1,.slice m B s,.bool false,.slice p A y]:=rfl;clear aD au av
  go_upto_region 5 with(refine Aa (vs:=Ah s1 m B s false p A y) rfl rfl rfl rfl rfl Af hY rfl (Ag _ _ _ _ _ _ _ _) ?_;intro K f aB)
  have a2:Ext w3 K:=((Ext.refl w3).alloc _).grownR aB (lrf _);have b:=I.trans a2;have Q:=a6.ext b;have a5:=E.ext b;have H:=b.cell H;have hP:=hP.ext b;have z:=O.trans b;have G:CU K (Ah s1 m B s false p A y) (Pl.cont l)⁻¹:=⟨s1,m,B,s,p,A,y,rfl,M,S.ext a2,T.ext a2⟩;have aU:=f.lt;obtain⟨X,hX⟩:∃ x,w3.heap.size=x:=⟨_,rfl⟩;have b7:w.heap.size+1<X:=by rw[<-hX];exact(a6.ext I).lt
  have aV:w1.heap.size<=X:=by rw[<-hX];exact I.size
  rw[hX]at f aU |-;clear hY aB a6 a5 I S T M hX af a2;rcases oV n3 with F|F
  case' inl =>
   have a9:Hid (primF l=(Pl.cont l)⁻¹):=qh (pf (by have:=ak.out;omega));have hq:decide (0<n3)=false:=pb (by omega);have b0:¬ 0<n3:=by omega
   clear F;go_wp2;clear hq b0
  case' inr =>
   obtain⟨b6,hS,aM,aw⟩:=E.ext b;obtain⟨sx,ax,nx,cx,bx,mx,dx,R,h6,ag⟩:=aw 0 F
   have L:Hid (primF l=if(l.getD 0 ([],0)).2.num<0 then -(Pl.cont l)⁻¹ else(Pl.cont l)⁻¹):=qh (by
    unfold primF;have h0:0<l.length:=by have:=ak.out;omega
    simp only[h0,lh])
   generalize l.getD 0 ([],0)=t at *
   obtain⟨te,tq⟩:=t;simp only at R h6 ag L;obtain⟨bb,b4,rfl,i⟩:=hS.rd (by omega);obtain⟨x0,x1,x2,x3,x4,x5,rfl⟩:=Cs h6;have e6:=i 0 F 6 (by omega);have e7:=i 0 F 7 (by omega);have e8:=i 0 F 8 (by omega);have e9:=i 0 F 9 (by omega);rw[R]at e6 e7 e8 e9;simp only[Ap,Ah,Ab,iz,jg,jW,iA,kc,jZ,pw,gP]at e6 e7 e8 e9;have hq:decide ((0:Int)<(n3:Int))=true:=gX (by omega);have bd:(0:Int)<(n3:Int):=by omega
   obtain⟨sg,ai⟩:∃ x,tq.num.sign=x:=⟨_,rfl⟩;have aJ:=qh (SJ (v := .agg #[.bool sx,.slice ax nx cx,.bool false,.slice bx mx dx]) (q:=tq) (w:=K) ⟨Ah sx ax nx cx false bx mx dx,rfl,ag⟩ ai);have Y:Hid (sg<0<->tq.num<0):=qh (by rw[<-ai];exact Int.sign_neg_iff);clear aw aM R i ag hS h6 ai
   go_wp2_with fail
   refine aJ.out.mono ?_;rintro e K ⟨rfl,g⟩;have z:=z.trans g;have b:=b.trans g;have f:=f.ext g;have Q:=Q.ext g;have G:=G.ext g;have H:=g.cell H;have hP:=hP.ext g;clear aJ g e6 e7 e8 e9;generalize (some (⟨bb,b4,none⟩:Addr))=a3 at *
   by_cases hs:sg<0
   case' pos =>
    have a9:Hid (primF l = -(Pl.cont l)⁻¹):=qh (by rw[L.out,pq (Y.out.1 hs)]);have ae:decide (sg<0)=true:=gX hs;have y0:=f.c 0 rfl;have y1:=f.c 1 rfl;have y2:=f.c 2 rfl;have y3:=f.c 3 rfl;have aF:=qh (TX (v := .agg #[.bool s1,.slice m B s,.bool false,.slice p A y]) (q:=(Pl.cont l)⁻¹) (w:=K) ⟨Ah s1 m B s false p A y,rfl,G⟩);clear L Y
    go_wp2_with fail
    refine aF.out.mono ?_;rintro e w5 ⟨_,rfl,g,s1,m,B,s,p,A,y,rfl,M,S,T⟩;have ac:=f.ext g;have af:(Ah s1 m B s false p A y).toArray=#[.bool s1,.slice m B s,.bool false,.slice p A y]:=rfl;clear aF y0 y1 y2 y3 ae hs
    go_upto_region 7 with(refine Aa (vs:=Ah s1 m B s false p A y) rfl rfl rfl rfl rfl Af ac rfl (Ag _ _ _ _ _ _ _ _) ?_;intro K ar J)
    have aY:=AC;have aI:CU K (Ah s1 m B s false p A y) (-(Pl.cont l)⁻¹):=by
     exact CU.keptU ⟨s1,m,B,s,p,A,y,rfl,M,S,T⟩ (ac.noU (AC _ _ _ _ _ _ _ _)) J
    have G:=aI;have z:=(z.trans g).grownR J (by omega);have b:=(b.trans g).grownR J aV;have Q:=(Q.ext g).kept J (by simp;omega);have hP:=(hP.ext g).kept J (by simp;omega);have H:=hP.c 0 rfl;have f:=ar;clear ar aI af J ac g M S T aY
   case' neg =>
    have a9:Hid (primF l=(Pl.cont l)⁻¹):=qh (by rw[L.out,pf (fun h=>hs (Y.out.2 h))]);have ae:decide (sg<0)=false:=pb hs;clear L Y;go_wp2;clear ae hs
  all_goals
   rw[<-a9.out]at G;have a4:=z;have a5:=E.ext b;have aO:Hid (DD (BH (primF l) l)):=qh k.out.2.2.2.2.2.1;have aK:=k.out.2.2.2.2.1;have y0:=f.c 0 rfl;have y1:=f.c 1 rfl;have y2:=f.c 2 rfl;have y3:=f.c 3 rfl;have aN:=fun(D:World) (C:Ext K D)=>qh (NH ((hT.ext a4).ext C) (v := .agg #[.bool s1,.slice m B s,.bool false,.slice p A y]) (q:=primF l) ⟨Ah s1 m B s false p A y,rfl,G.ext C⟩ (a5.ext C) (by omega) k.out.2.2.2.2.2.2.2 (fun t ht=>(k.out.1 t ht).mono (by omega)));clear f G a5 b E;go_wp2
   obtain⟨rr,al⟩:∃ r,Hid (resQ (vn:Int) (BH (primF l) l)=r):=⟨_,qh rfl⟩
   refine Ac
    [hdP w.heap.size 0,hdI vn,he (.agg #[.bool s1,.slice m B s,.bool false,.slice p A y]),hdS a3 n3 c3,hu 5 (fun v D=>Mt K (BH (primF l) l) v D),hmp (fun v D=>NPE K rr v D),hp (fun v D=>NPo K rr v D),hdI rr.2.2]
    ⟨Mt.x _ _,NPE.x _ _,NPo.x _ _,trivial⟩ ⟨?o0,?o1,?o2,?o3,?o4,?o5,?o6,?o7,trivial⟩ ?fin
   case o0=>exact ofa (d:=0)
   case o1=>exact ol
   case o2=>exact ol4
   case o3=>exact omv
   case o4 =>
    refine Ae rfl fun ρ D C aL aW h => ?_;have e0:_=_:=h.2.1;have e1:_=_:=h.2.2.1;refine⟨121,#[.agg #[.bool s1,.slice m B s,.bool false,.slice p A y],.slice a3 n3 c3],by go_simp,((aN D C).out).mono ?_⟩;rintro e w' ⟨U,W,V,rfl,ad,P⟩;exact⟨_,rfl,ad,U,W,V,BH (primF l) l,rfl,P.mono C.size,k.out.2.2.2.2.2.2.1,fun _=>rfl⟩
   case o5 =>
    refine GV rfl ?_;intro ρ D hp C h;have aL:=hp.const;have aW:=hp.func;have e0:_=_:=h.2.1;obtain⟨v1,e1,aP,b3,aQ,bf,rfl,an,ao,ap⟩:=h.2.2.1;have aA:=aO.out.out ao ap;have b8:=an.len;refine⟨69,#[.int .i64 (vn:Int),.slice aP b3 aQ],by go_simp,(Dl (vars:=vn) (w0:=K) (hT.ext a4) C an (by omega) aA.1 aA.2.1 (by omega)).mono ?_⟩;intro e w' hw;have hq:=Hq.q hw ao ap;rw[al.out]at hq;obtain⟨U,W,V,rfl,ad,P⟩:=hq;exact⟨_,rfl,ad,⟨trivial,trivial,trivial,trivial,trivial,trivial,trivial,trivial,trivial⟩,U,W,V,rfl,P⟩
   case o6 =>
    refine AR rfl ?_;intro ρ D hp C h;obtain⟨v0,e0,aa,aj,ab,rfl,am⟩:=h.1;exact⟨C2 rr.1 aa aj ab,D,by go_simp,Ext.refl _,aa,aj,ab,rfl,am⟩
   case o7 =>
    refine BR rfl ?_;intro ρ D hp C h;obtain⟨v0,e0,aa,aj,ab,rfl,am⟩:=h.1;go_simp
   case fin =>
    intro D C;rintro _;rintro _ h42;rintro _ h43;change wpList _ _ _ _ _ _;simp only[A0];obtain⟨U,W,V,rfl,P⟩:=h43;clear h42;have aT:=a4.trans C;have ay:=Q.ext C;have aZ:C2 rr.1 U W V = .agg #[.int .i64 rr.1,.slice U W V]:=rfl;rw[aZ];have ba:(As rr.1 U W V).toArray=#[.int .i64 rr.1,.slice U W V]:=rfl
    go_wp2_with(refine Aa (vs:=As rr.1 U W V) rfl rfl rfl rfl rfl An ay rfl (AB _ _ _ _) ?_;intro w8 aR aC)
    refine oM (Ar rfl An rfl rfl aR) rfl ?_;show DP _ (primA _ _) _ _;rw[show primA (vn:Int) (some l)=resQ (vn:Int) (BH (primF l) l) from rfl,al.out];exact⟨U,W,V,rfl,aT.grownR aC (by omega),(P.mono a4.size).keptA ay aC⟩
theorem Fj(q:Rat)(l:List Pl.Tm)(e:List Int):Pl.coef (BH q l) e=q*Pl.coef l e:=by
 unfold BH;split
 · rename_i h;rw[h,Rat.zero_mul];rfl
 · rw[<-Pl.coef_scl];congr 1;unfold Pl.scl;exact mo fun t _=>by rw[kY]
noncomputable def sclA (va:Int) (q:Rat) (o:Option (List Pl.Tm)):Int×List Tx×Int:=match o with | some l=>resQ va (BH q l) | none=>(0,[],1)
theorem Jf(q:Rat)(l:List Pl.Tm):(BH q l).length<=l.length:=by
 unfold BH;split
 · simp
 · simp
theorem MF{l:List Pl.Tm}:∀ u∈BH q l,∃ t∈l,t.1=u.1:=by
 intro u hu;unfold BH at hu;split at hu
 · cases hu
 · obtain⟨t,a,rfl⟩:=gT.1 hu;exact⟨t,a,rfl⟩
theorem RI{l:List Pl.Tm}(h:∀ t∈l,InV n t.1):∀ u∈BH q l,InV n u.1:=by
 intro u hu;obtain⟨t,a,e⟩:=MF u hu;rw[<-e];exact h t a
structure Rb(v:Int)(b:Nat)(l:List Pl.Tm):Prop where
 pv:Pv v l
 lo:Lo l
 len:l.length<=4096
 sum:∀ t∈l,t.1.sum<=24
 rb:∀ t∈l,Pl.RB b t.2
section
variable {v:Int} {b c:Nat} {l:List Pl.Tm} {ts:List Tx} {q:Rat}
theorem Gc(h:rdP v ts=some l):∀ t∈l,t.1.sum<=24:=by
 have a:=BW h;have b:=O1 h;cases l with
 | nil=>intro t d;cases d
 | cons t r =>
  intro s c;have h1:=KA a s c;have h2:=(FJ.1 (b.2 t r rfl)).2.2;omega
theorem Rb.coef(h:Rb v b l){e:List Int}(he:Pl.coef l e≠0):∃ t∈l,t.1=e/\t.2=Pl.coef l e:=by
 obtain⟨t,a,rfl⟩:=Pl.coef_present he;exact⟨t,a,rfl,(Pl.coef_mem (CO h.pv.can).nodup a).symm⟩
theorem Rb.fits(h:Rb v b l)(i:Pl.RB c q)(g:b+c<=1920):DD (BH q l):=by
 refine⟨fun e he => ?_,by have:=Jf q l;have:=h.len;omega⟩;rw[Fj]at he |-;have a:Pl.coef l e≠0:=fun h0=>he (by rw[h0,Rat.mul_zero]);obtain⟨t,d,rfl,f⟩:=h.coef a;rw[<-f];refine⟨RB.str (b:=b+c) (by rw[kY];exact(h.rb t d).mul i) g,(h.lo t d).1,fun x j => ?_⟩;have:=(h.lo t d).2 x j;omega
theorem Rb.scl(h:Rb v b l)(p:Pl.RB c q){ol:Option (List Pl.Tm)}(k:ol=some l):∃ t,sclA v q ol=(v,t,0)/\rdP v t=some (cnP (BH q l))/\Rb v (b+c) (cnP (BH q l))/\∀ e,Pl.coef (cnP (BH q l)) e=q*Pl.coef l e:=by
 subst k;have f:=RI (q:=q) h.pv.inv;have h6:∀ t∈BH q l,t.1.length=6:=fun t d=>(f t d).1
 have h0:(resQ v (BH q l)).2.2=0:=Qj f (oS (Jf q l) h.len) (fun u hu=>by
  obtain⟨t,d,e⟩:=MF u hu;rw[<-e]
  exact h.sum t d)
 obtain⟨o,i⟩:=Tk h.pv.v0 f h0;have a:∀ e,Pl.coef (cnP (BH q l)) e=q*Pl.coef l e:=fun e=>by rw[(Dn h6).2 e,Fj]
 have m:Pv v (cnP (BH q l)):=⟨h.pv.v0,(Dn h6).1,Ls f⟩;refine⟨(resQ v (BH q l)).2.1,?_,i,⟨m,Dm i,oS (Lw h6) (oS (Jf q l) h.len),Gc i,fun u hu => ?_⟩,a⟩
 · show resQ v (BH q l)=_
   conv=>lhs;rw[<-Prod.eta (resQ v (BH q l)),<-Prod.eta (resQ v (BH q l)).2,o,h0]
 · have g:=Pl.coef_mem (CO m.can).nodup hu;rw[a]at g;have j:Pl.coef l u.1≠0:=fun h0=>m.can.nz u hu (by rw[<-g,h0,Rat.mul_zero]);obtain⟨t,d,r,n⟩:=h.coef j;rw[<-g,<-n,kY];exact(h.rb t d).mul p
end
section
variable {v:Int} {N d y b:Nat} {la:List Pl.Tm} {ts:List Tx}
theorem Bd.cont(e:Bd v N d y la)(h1:d<=1900)(h2:y<1900):CP la:=by
 obtain⟨D,a,c,b⟩:=e.sb;exact⟨oR (b.lcm a) (Aj c h1),fun t f=>oR ((b t f).parts a).1 (Ly h2)⟩
theorem Bd.crb(e:Bd v N d y la)(h1:d<=b)(h2:y<b):Pl.RB b (Pl.cont la):=by
 obtain⟨D,a,f,c⟩:=e.sb;have h3:=Lz (Ha b) (fun t g=>oR ((c t g).parts a).1 (Ly h2)) e.pv.can.nz la.length;rw[kw]at h3;have h4:=Jd la;exact⟨oR h4.1 h3,oR h4.2 (oR (c.lcm a) (Aj f h1))⟩
theorem Bd.rbs(a:Bd v N d y la)(h:rdP v ts=some la)(h1:d<=b)(h2:y<b)(h3:N<=4096):Rb v b la:=by
 obtain⟨D,c,e,f⟩:=a.sb;exact⟨a.pv,a.lo,oS a.len h3,Gc h,fun t g=>(f t g).rb c (Aj e h1) (Ly h2)⟩
end
end Go.Proofs.YtlbmnokpiilfpaaGreatDoor
