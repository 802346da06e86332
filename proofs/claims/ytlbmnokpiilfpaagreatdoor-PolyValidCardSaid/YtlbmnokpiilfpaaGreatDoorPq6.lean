/- Part Pq6. -/
import Derived.Test.YtlbmnokpiilfpaaGreatDoorPq5

set_option linter.all false
set_option maxRecDepth 100000
set_option maxHeartbeats 100000000
namespace Go.Proofs.YtlbmnokpiilfpaaGreatDoor
open Tryz Go Go.RowKit
def gF:=@bodyPost_ret
def iM:=@List.length_map
def jV:=@decide_eq_true_eq
def kC:=@List.not_mem_nil
def kR:=@Array.getElem?_eq_getElem
def kT:=@getD_replicate_false
def lQ:=@List.mem_range
def lT:=@Classical.epsilon_spec
def mU:=@or_false
def nf:=@List.take_set_of_le
def oy:=@List.drop_drop
def ox:=@List.take_take
def pf:=@wp_region_any
variable {odd:Bool} {xs ys zs:List Nat} {l:List Oper} {cs:List Value} {B base d k m n s x y:Nat} {a b:Option Addr} {cons:Option Nat} {e:TypeId} {c:Value} {w wb:World}
theorem CW:Agg prog 268 5:=⟨by kernel_rfl,by kernel_rfl⟩
def C4(u0 u1 v0 v1:Nat)(odd:Bool):List Value:=[.int .u64 u0,.int .u64 u1,.int .u64 v0,.int .u64 v1,.bool odd]
theorem Fn(u0 u1 c v1:Nat)(a:Bool):∀ v∈C4 u0 u1 c v1 a,v.oneCell'=true:=by
 intro v b;simp only[C4,iE,kC,mU]at b;rcases b with rfl|rfl|rfl|rfl|rfl <;> rfl
theorem Ge(a:s<=63):18446744073709551616=2^s*2^(64-s):=by rw[<-jQ,show s+(64-s)=64 by omega]
theorem Nq{t1 t0:Nat}(a:s<=63)(h0:t0<18446744073709551616):t1*2^s ||| t0/2^(64-s)=t1*2^s+t0/2^(64-s):=by
 have h:t0/2^(64-s)<2^s:=by
  rw[jm (iC _),<-Ge a];exact h0
 have:=Nat.shiftLeft_add_eq_or_of_lt h t1;rw[Nat.shiftLeft_eq]at this;exact this.symm
def YU(w:World)(x y:Nat)(e:Ending)(w':World):Prop :=
 ∃ u0 u1 v0 v1 odd,e = .returned (.agg (C4 u0 u1 v0 v1 odd).toArray)/\Ext w w'/\u0<18446744073709551616/\u1<18446744073709551616/\v0<18446744073709551616/\v1<18446744073709551616/\(v0=0\/∃ p q,W.Steps x y u0 u1 v0 v1 odd p q)
theorem Hm{c:Nat}(hx:SlN .u64 w a n c xs)(hy:SlN .u64 w b m d ys)(nx:Num 18446744073709551616 xs x)(ny:Num 18446744073709551616 ys y)(hn:n<=100000)(ar:y<=x){nn:Nat}(av:n=nn+2) :
 Calls prog 239 #[.slice a n c,.slice b m d] w (YU w x y):=by
 have HX:=gE hx.len;have HY:=gE hy.len;have bg:m<=n:=by
  refine ia fun hc => ?_;have:=W.len_lt (B:=18446744073709551616) (by omega) nx.bnd ny.nrm (by rw[HX.out,HY.out];omega);rw[nx.val,ny.val]at this;omega
 have ah:xs≠[]:=by intro h;have:=HX.out;rw[h]at this;simp at this;omega
 have ag:0<xs.getD (nn+1) 0:=by
  have h1:=nx.nrm ah;rw[kI]at h1;have h2:xs.length-1=nn+1:=by rw[HX.out];omega
  have h3:nn+1<xs.length:=by rw[HX.out];omega
  have h4:xs.getD (nn+1) 0=xs[xs.length-1]'(by omega):=by
   simp[h2,h3]
  omega
 have ax:=W.bnd_at nx.bnd (i:=nn+1) (by rw[HX.out];omega);have aw:=W.bnd_at nx.bnd (i:=nn) (by rw[HX.out];omega);obtain⟨s,hs,au,aO,a9⟩:=Nl ag ax;have D:=fun wx:World=>Qh ax wx;rw[au]at D;obtain⟨P,hP⟩:∃ P,18446744073709551616^nn*2^(64-s)=P:=⟨_,rfl⟩;have am:0<P:=by rw[<-hP];exact m6 (kG (by omega)) (iC _)
 have hA:x/P=xs.getD (nn+1) 0*2^s+xs.getD nn 0/2^(64-s):=by
  rw[<-hP];refine W.head_of (Ge hs) (iC _) (lo:=W.val 18446744073709551616 (xs.take nn)) ?_ ?_
  · rw[<-nx.val];exact Hl (by rw[HX.out];omega)
  · exact Ck nx.bnd (by rw[HX.out];omega)
 have aj:xs.getD (nn+1) 0*2^s+xs.getD nn 0/2^(64-s)<18446744073709551616:=by
  rw[<-Nq hs aw];exact Nm a9 (by have:=iI (xs.getD nn 0) (2^(64-s));omega)
 have ak:y/P<=x/P:=Nat.div_le_div_right ar;have O:m=nn+2->y/P=ys.getD (nn+1) 0*2^s+ys.getD nn 0/2^(64-s):=by
  intro J;rw[<-hP];refine W.head_of (Ge hs) (iC _) (lo:=W.val 18446744073709551616 (ys.take nn)) ?_ ?_
  · rw[<-ny.val];exact Hl (by rw[HY.out];omega)
  · exact Ck ny.bnd (by rw[HY.out];omega)
 have Q:m=nn+1->y/P=ys.getD nn 0/2^(64-s):=by
  intro J;rw[<-hP]
  have:=W.head_of (t1:=0) (Ge hs) (iC _) (a:=y) (t0:=ys.getD nn 0) (M:=18446744073709551616^nn) (lo:=W.val 18446744073709551616 (ys.take nn)) (by
   rw[<-ny.val,jg,iz];have:=Ed (B:=18446744073709551616) (l:=ys) (m:=nn) (by rw[HY.out];omega)
   rw[this]) (Ck ny.bnd (by rw[HY.out];omega))
  rw[this,jg,iz]
 have R:m<=nn->y/P=0:=by
  intro J;apply jy;have h1:=W.val_lt ny.bnd;rw[ny.val,HY.out]at h1;have h2:18446744073709551616^m<=18446744073709551616^nn:=ic (by omega) J;have h3:18446744073709551616^nn*1<=18446744073709551616^nn*2^(64-s):=iB _ (iC _);omega
 have a8:=gE (W.Sim.start am ar);obtain⟨A,a3⟩:∃ A,x/P=A:=⟨_,rfl⟩;obtain⟨Bb,a5⟩:∃ Bb,y/P=Bb:=⟨_,rfl⟩;rw[a3,a5]at a8;rw[a3]at hA ak;rw[a5]at ak O Q R;generalize x%P=α at *
 generalize y%P=β at *
 clear a3 a5 hP am ah;have aZ:A<18446744073709551616:=by rw[hA];exact aj
 have b0:Bb<18446744073709551616:=by omega
 obtain⟨b1,o1,rfl,H⟩:=hx.at (j:=0) (by omega);have g1:=H (nn+1) (by omega);have g0:=H nn (by omega);have fA:bits BinOp.or IntKind.u64 ((xs.getD (nn+1) 0*2^s:Nat):Int) ((xs.getD nn 0/2^(64-s):Nat):Int)=(A:Int):=by
  rw[nG _ _ a9 (by have:=iI (xs.getD nn 0) (2^(64-s));omega),Nq hs aw,hA]
 have a0:IntKind.u64.wrap (((xs.getD (nn+1) 0:Nat):Int)*2^s)=((xs.getD (nn+1) 0*2^s:Nat):Int):=Au (by push_cast;rfl) a9;have N:((xs.getD nn 0:Nat):Int)/2^(64-s)=((xs.getD nn 0/2^(64-s):Nat):Int):=by push_cast;rfl
 generalize xs.getD nn 0/2^(64-s)=q0 at *
 generalize xs.getD (nn+1) 0 * 2^s=q1 at *
 generalize xs.getD (nn+1) 0=t1 at *
 generalize xs.getD nn 0=t0 at *
 have aV:IntKind.i64.wrap ((n:Int)-1)=((nn+1:Nat):Int):=by rw[show(n:Int)-1=((nn+1:Nat):Int) by omega];exact gI _ (by omega)
 have bh:IntKind.i64.wrap ((n:Int)-2)=((nn:Nat):Int):=by rw[show(n:Int)-2=((nn:Nat):Int) by omega];exact gI _ (by omega)
 have aQ:((nn+1:Nat):Int)<(n:Int):=by omega
 have bd:((nn:Nat):Int)<(n:Int):=by omega
 have bj:IntKind.u64.wrap (64-(s:Int))=((64-s:Nat):Int):=by rw[jU];omega
 have HN:Hid (n=nn+2):=gE av;obtain⟨N1,a7⟩:∃ N1,nn+1=N1:=⟨_,rfl⟩;rw[a7]at g1 aV aQ;have L:=gE a7;clear H au hA aj aO ag av a7
 go_enter func239,ntmps239
 go_upto_region 1 with(fail)
 refine AP ?_;intro w0 T an aB;have aI:=T.cell g1;have aH:=T.cell g0;have aA:=hy.ext T;clear g1 g0 hx hy
 go_wp2_with fail
 refine(D _).mono ?_;rintro e w2 ⟨rfl,rfl⟩;go_wp2
 go_quiet (fail)
 have E:=T.drewN nq;have F:=an.drewN nq;have Z:=aA.ext ((Ext.refl w2).drewN nq);have aC:(w2.drewN nq).heap.size=w.heap.size+1:=aB;generalize w2.drewN nq=w3 at *
 clear aA T an aB aI aH fA a0 N D;have z:w.heap.size<w3.heap.size:=by omega
 have ba:=gE aC;clear aC;have aE:m=nn+2\/m=nn+1\/m<=nn:=by have:=HN.out;omega
 rcases aE with J|J|J
 case' inl =>
  obtain⟨b2,o2,rfl,C⟩:=Z.at (j:=0) (by omega);have e1:=O J;have k1:=W.bnd_at ny.bnd (i:=nn+1) (by rw[HY.out];omega);have k0:=W.bnd_at ny.bnd (i:=nn) (by rw[HY.out];omega);have g1:=C (nn+1) (by omega);have g0:=C nn (by omega);rw[L.out]at g1;have aa:ys.getD (nn+1) 0*2^s<18446744073709551616:=by
   have h1:ys.getD (nn+1) 0*2^s<=Bb:=by rw[e1];exact lP _ _
   omega
  have fA:bits BinOp.or IntKind.u64 ((ys.getD (nn+1) 0*2^s:Nat):Int) ((ys.getD nn 0/2^(64-s):Nat):Int)=(Bb:Int):=by
   rw[nG _ _ aa (by have:=iI (ys.getD nn 0) (2^(64-s));omega),Nq hs k0,e1]
  have a0:IntKind.u64.wrap (((ys.getD (nn+1) 0:Nat):Int)*2^s)=((ys.getD (nn+1) 0*2^s:Nat):Int):=Au (by push_cast;rfl) aa;have N:((ys.getD nn 0:Nat):Int)/2^(64-s)=((ys.getD nn 0/2^(64-s):Nat):Int):=by push_cast;rfl
  rw[L.out]at fA a0;clear e1 aa O Q R;generalize ys.getD nn 0/2^(64-s)=p0 at *
  generalize ys.getD N1 0 * 2^s=p1 at *
  generalize ys.getD N1 0=y1 at *
  generalize ys.getD nn 0=y0 at *
  have X:((m:Int) == (n:Int))=true:=by have:=HN.out;simp;omega
  have aR:((N1:Nat):Int)<(m:Int):=by have:=L.out;omega
  have ac:((nn:Nat):Int)<(m:Int):=by omega
  clear J C;go_wp2
  go_quiet (fail)
  go_upto_region 10 with(fail)
  have a1:=E.drewN nq;have a2:=F.drewN nq;have aD:w.heap.size<(w3.drewN nq).heap.size:=z;generalize w3.drewN nq=w4 at *
  clear g1 g0 fA a0 N X aR ac k0 k1 E F z Z;have E1:Hid True:=gE trivial
 case' inr.inl =>
  obtain⟨b2,o2,rfl,C⟩:=Z.at (j:=0) (by omega);have e1:=Q J;have g0:=C nn (by omega);have N:((ys.getD nn 0:Nat):Int)/2^(64-s)=(Bb:Int):=by rw[e1];push_cast;rfl
  clear e1 O Q R;generalize ys.getD nn 0=y0 at *
  have X:((m:Int) == (n:Int))=false:=by have:=HN.out;simp;omega
  have Y:((m:Int) == ((N1:Nat):Int))=true:=by have:=L.out;simp;omega
  have ac:((nn:Nat):Int)<(m:Int):=by omega
  clear J C
  go_upto_region 10 with(fail)
  have a1:=E;have a2:=F;have aD:=z;clear g0 N X Y ac E F z Z;generalize hw:w3=w4 at *
  clear hw;have E1:Hid True:=gE trivial
 case' inr.inr =>
  have E1:=gE (R J);clear O Q R;have X:((m:Int) == (n:Int))=false:=by have:=HN.out;simp;omega
  have Y:((m:Int) == ((N1:Nat):Int))=false:=by have:=L.out;simp;omega
  clear J
  go_upto_region 10 with(fail)
  have a1:=E;have a2:=F;have aD:=z;clear X Y E F z Z;generalize hw:w3=w4 at *
  clear hw
 all_goals
  go_wp2;refine AP ?_;intro w5 a6 ap aW;have ao:Arr w5 w.heap.size 268 (C4 0 0 0 0 false):=a2.ext a6;have aq:Arr w5 w4.heap.size 268 (C4 0 1 0 0 false):=ap;have al:=a1.trans a6;clear a2 ap a1 a6;generalize I:w4.heap.size=S at *
  have b9:=gE I;clear I aW
  go_loopw[7,8,10,11] (fun fv gv uv vv wr=>∃ (f g u0 u1 u2 v0 t k:Nat) (o:Bool),fv = .int .u64 f/\gv = .int .u64 g/\uv = .int .u64 u2/\vv = .int .u64 k/\Ext w wr/\Arr wr w.heap.size 268 (C4 0 0 0 0 false)/\Arr wr S 268 (C4 u0 u1 v0 t o)/\Hid (W.Sim x y A Bb P α β f g u0 u1 u2 v0 t k o)/\(f<18446744073709551616/\g<18446744073709551616)/\(u0<18446744073709551616/\u1<18446744073709551616/\u2<18446744073709551616)/\(v0<18446744073709551616/\t<18446744073709551616/\k<18446744073709551616)) (fun _ gv _ _ _=>(intOf gv).toNat)
  case atStart=>exact⟨A,Bb,0,1,0,0,0,1,false,rfl,by first | rfl | rw[E1.out];rfl,rfl,rfl,al,ao,aq,a8,⟨by omega,by omega⟩,⟨by omega,by omega,by omega⟩,⟨by omega,by omega,by omega⟩⟩
  case round =>
   clear al ao aq a8;obtain⟨f,g,u0,u1,u2,v0,t,k,o,rfl,rfl,rfl,rfl,hE,hR,I,HS,⟨hf,hg⟩,⟨ay,ad,aT⟩,⟨az,ae,aU⟩⟩:=hrel;have b7:=HS.out.leh.v2p;have bc:=HS.out.leh.gf;have af:(v0=0\/∃ p q,W.Steps x y u0 u1 v0 t o p q):=HS.out.good;have K:=gE af;clear af;have s0:=I.c 0 rfl;have s1:=I.c 1 rfl;have s2:=I.c 2 rfl;have s3:=I.c 3 rfl;have s4:=I.c 4 rfl;by_cases H:k<=g
   · obtain⟨k1,k2,k3⟩:=HS.out.bound (by omega);have bk:IntKind.u64.wrap ((t:Int)+k)=((t+k:Nat):Int):=Au (by push_cast;rfl) (by omega);have b8:IntKind.u64.wrap ((f:Int)-g)=((f-g:Nat):Int):=Au (by omega) (by omega);have be:(k:Int)<=(g:Int):=by omega
     by_cases C:t+k<=f-g
     · obtain⟨ai,kv,ku,bf⟩:=HS.out.step H C;have bb:((g:Int) == 0)=false:=by simp;omega
       have b5:(f:Int).tdiv g=((f/g:Nat):Int):=by rw[j3 (by omega)];push_cast;rfl
       have aX:(f:Int)/g=((f/g:Nat):Int):=by push_cast;rfl
       have b6:(f:Int).tmod g=((f%g:Nat):Int):=by rw[jx (by omega)];push_cast;rfl
       have aY:(f:Int)%g=((f%g:Nat):Int):=by push_cast;rfl
       have b4:((t+k:Nat):Int)<=((f-g:Nat):Int):=by omega
       have aG:=gE ai;have aS:f/g<=f:=iI _ _;clear ai HS K;generalize f/g=q at *
       generalize f%g=r at *
       have bi:IntKind.u64.wrap (q:Int)=(q:Int):=Au rfl (by omega);have m1:IntKind.u64.wrap ((q:Int)*u2)=((q*u2:Nat):Int):=Au (by push_cast;rfl) (by omega);have m2:IntKind.u64.wrap ((q:Int)*k)=((q*k:Nat):Int):=Au (by push_cast;rfl) (by omega);have m3:IntKind.u64.wrap ((u1:Int)+((q*u2:Nat):Int))=((u1+q*u2:Nat):Int):=Au (by omega) (by omega);have m4:IntKind.u64.wrap ((t:Int)+((q*k:Nat):Int))=((t+q*k:Nat):Int):=Au (by omega) (by omega);generalize hU:u1+q * u2=U at *
       generalize hV:t+q * k=V at *
       generalize q * u2=qu at *
       generalize q * k=qv at *
       generalize t+k=vs at *
       generalize f-g=fg at *
       clear hU hV aS;go_wp2
       go_quiet (fail)
       have G:=I.drewN nq;have aM:=hR.drewN nq;have aK:=hE.drewN nq;have t0:(wr.drewN nq).cell? ⟨S,0,none⟩=_:=s0;have t1:(wr.drewN nq).cell? ⟨S,1,none⟩=_:=s1;have t2:(wr.drewN nq).cell? ⟨S,2,none⟩=_:=s2;have t3:(wr.drewN nq).cell? ⟨S,3,none⟩=_:=s3;have t4:(wr.drewN nq).cell? ⟨S,4,none⟩=_:=s4;generalize wr.drewN nq=wq at *
       clear s0 s1 s2 s3 s4 I hR hE;have aN:=((((G.set 0 (.int .u64 u1)).set 1 (.int .u64 u2)).set 2 (.int .u64 t)).set 3 (.int .u64 k)).set 4 (.bool (!o));have aL:=((((aM.far (p:=⟨S,0,none⟩) (by show w.heap.size≠S;omega) (.int .u64 u1)).far (p:=⟨S,1,none⟩) (by show w.heap.size≠S;omega) (.int .u64 u2)).far (p:=⟨S,2,none⟩) (by show w.heap.size≠S;omega) (.int .u64 t)).far (p:=⟨S,3,none⟩) (by show w.heap.size≠S;omega) (.int .u64 k)).far (p:=⟨S,4,none⟩) (by show w.heap.size≠S;omega) (.bool (!o))
       have aJ:=((((aK.setCell (p:=⟨S,0,none⟩) (by show w.heap.size<=S;omega) (.int .u64 u1)).setCell (p:=⟨S,1,none⟩) (by show w.heap.size<=S;omega) (.int .u64 u2)).setCell (p:=⟨S,2,none⟩) (by show w.heap.size<=S;omega) (.int .u64 t)).setCell (p:=⟨S,3,none⟩) (by show w.heap.size<=S;omega) (.int .u64 k)).setCell (p:=⟨S,4,none⟩) (by show w.heap.size<=S;omega) (.bool (!o));have z0:=G.frozen 0;have z1:=G.frozen 1;have z2:=G.frozen 2;have z3:=G.frozen 3;have z4:=G.frozen 4;go_wp2;go_roundw
       case rel=>exact⟨g,r,u1,u2,U,t,k,V,!o,rfl,rfl,rfl,rfl,aJ,aL,aN,aG,⟨hg,by omega⟩,⟨ad,aT,by omega⟩,⟨ae,aU,by omega⟩⟩
       case measure=>simp[intOf];omega
     · have aP:¬ (((t+k:Nat):Int)<=((f-g:Nat):Int)):=by omega
       have aF:((f-g:Nat):Int)<((t+k:Nat):Int):=by omega
       have b3:decide (t+k<=f-g)=false:=by simp;omega
       generalize t+k=vs at *
       generalize f-g=fg at *
       clear C HS
       go_upto_region 19 with(fail)
       go_wp2_with(first
        | (refine Ev rfl rfl CW rfl I ?_)
        | (refine Aa rfl rfl rfl rfl rfl CW hR rfl (Fn _ _ _ _ _) ?_;intro w9 a4 ab))
       refine gF (v := .agg (C4 u0 u1 v0 t o).toArray) (Ap rfl CW rfl a4) rfl ⟨u0,u1,v0,t,o,rfl,hE.grownR ab (lrf _),ay,ad,az,ae,K.out⟩
   · have aP:¬ ((k:Int)<=(g:Int)):=by omega
     have aF:(g:Int)<(k:Int):=by omega
     clear H HS
     go_upto_region 19 with(fail)
     go_wp2_with(first
      | (refine Ev rfl rfl CW rfl I ?_)
      | (refine Aa rfl rfl rfl rfl rfl CW hR rfl (Fn _ _ _ _ _) ?_;intro w9 a4 ab))
     refine gF (v := .agg (C4 u0 u1 v0 t o).toArray) (Ap rfl CW rfl a4) rfl ⟨u0,u1,v0,t,o,rfl,hE.grownR ab (lrf _),ay,ad,az,ae,K.out⟩
theorem Own.upto{c:Nat}(h:Own w base e a n c cs){k:Nat}(r:k<=n):Own w base e a k c (cs.take k):=by
 have s:=h.len;refine⟨by simp;omega,?_⟩;rcases h.2 with⟨b,h0⟩|⟨g,d,f,b,j,l,o,m,p,q⟩
 · subst h0;have i:k=0:=by omega
   subst i;simp only[gW]at b;exact Or.inl ⟨by rw[b.1,b.2.2],rfl⟩
 · simp only[gW]at b;refine Or.inr ⟨g,d,f,by rw[b.1,b.2.2],j,l,by omega,m,p,?_⟩;rw[<-q,ox];congr 1;omega
theorem Az.upto{k:IntKind}{w:World}{base:Nat}{e:TypeId}{g n c:Nat}{xs:List Nat}(h:Az k w base e g n c xs){m:Nat}(a:m<=n):Az k w base e g m c (xs.take m):=by
 have:=Own.upto h a;rw[<-pg]at this;exact this
def Yr(x y c:Nat)(w:World)(e:Ending)(w':World):Prop:=∃ l h:Nat,e = .returned (.tuple #[.int .u64 l,.int .u64 h])/\w=w'/\l<18446744073709551616/\h<18446744073709551616/\l+18446744073709551616*h=x*y+c
theorem Cg{c:Nat}(r:x<18446744073709551616)(s:y<18446744073709551616)(t:c<18446744073709551616) :
 Calls prog 290 #[.int .u64 x,.int .u64 y,.int .u64 c] w (Yr x y c w):=by
 have p:=Jw r s;have hp:x*y<=18446744073709551615*18446744073709551615:=j5 (by omega) (by omega);have i:Hid (x*y%18446744073709551616+18446744073709551616*(x*y/18446744073709551616)=x*y):=gE (kH _ _);have z:x*y%18446744073709551616<18446744073709551616:=io _ (by omega);have v:x*y/18446744073709551616<=18446744073709551614:=by omega
 generalize x * y/18446744073709551616=d at *
 generalize x * y%18446744073709551616=a at *
 have k:∀ f:World,(callFunc 300 #[.int .u64 (a:Int),.int .u64 (c:Int),.int .u64 0]).run prog f = .ok (.value (.tuple #[.int .u64 (((a+c+0)%18446744073709551616:Nat):Int),.int .u64 (((a+c+0)/18446744073709551616:Nat):Int)])) f:=fun f=>Cz a c 0 (by omega) f;have j:Hid ((a+c+0)%18446744073709551616+18446744073709551616*((a+c+0)/18446744073709551616)=a+c):=gE (kH _ _);have q:(a+c+0)%18446744073709551616<18446744073709551616:=io _ (by omega);have n:(a+c+0)/18446744073709551616<=1:=by omega
 generalize (a+c+0)%18446744073709551616=l at *
 generalize (a+c+0)/18446744073709551616=b at *
 have A:IntKind.u64.wrap ((d:Int)+(b:Int))=((d+b:Nat):Int):=Au (by omega) (by omega);have m:Hid (l+18446744073709551616*(d+b)=x*y+c):=by show _=_;have h1:=i.out;have h2:=j.out;omega
 have o:d+b<18446744073709551616:=by omega
 generalize d+b=g at *
 clear i j hp
 go_enter func290,ntmps290
 go_wp2_with fail
 refine(p _).mono ?_;rintro e B ⟨rfl,rfl⟩;go_wp2
 go_ret2
 exact⟨l,g,rfl,rfl,q,o,m.out⟩
theorem Hn{u v c1 c2 c1' c2':Nat}(a:k<zs.length)(g:k<xs.length)(i:k<ys.length)(h:W.val B (zs.take k)+u*W.val B (xs.take k)+c1*B^k=v*W.val B (ys.take k)+c2*B^k)(e:d+xs.getD k 0*u+c2+B*c1'=ys.getD k 0*v+c1+B*c2') :
 W.val B ((zs.set k d).take (k+1))+u*W.val B (xs.take (k+1))+c1'*B^(k+1)=v*W.val B (ys.take (k+1))+c2'*B^(k+1):=by
 have h1:=W.comb_step h e;have b:W.val B ((zs.set k d).take (k+1))=W.val B (zs.take k)+B^k*d:=by
  rw[W.val_take_succ (by simpa using a)];congr 1
  · rw[nf (lrf _)]
  · simp[a]
 rw[b,W.val_take_succ g,W.val_take_succ i,ip];have c:u*(W.val B (xs.take k)+B^k*xs.getD k 0)=u*W.val B (xs.take k)+B^k*(xs.getD k 0*u):=by grind
 have f:v*(W.val B (ys.take k)+B^k*ys.getD k 0)=v*W.val B (ys.take k)+B^k*(ys.getD k 0*v):=by grind
 rw[c,f];exact h1
theorem EN(h:zs.drop k=xs.drop k):(zs.set k d).drop (k+1)=xs.drop (k+1):=by
 rw[List.drop_set_of_lt (by omega),<-oy,<-oy,h]
theorem Fo(h:zs.drop k=xs.drop k):zs.getD k 0=xs.getD k 0:=by
 have:=iP (fun l:List Nat=>l.getD 0 0) h;simpa using this
def YV(wb:World)(ga n ca gb cb p q:Nat)(e:Ending)(w':World):Prop :=
 e = .returned (.tuple #[])/\Ext wb w'/\∃ zs ts,Az .u64 w' wb.heap.size 238 ga n ca zs/\Az .u64 w' wb.heap.size 238 gb n cb ts/\W.bnd 18446744073709551616 zs/\W.bnd 18446744073709551616 ts/\W.val 18446744073709551616 zs=p/\W.val 18446744073709551616 ts=q
theorem Mv{g m ca cb u0 u1 V v1 p q:Nat}(ah:Ext wb w)(hx:Az .u64 w wb.heap.size 238 g n ca xs)(hy:Az .u64 w wb.heap.size 238 m n cb ys)(aT:g≠m)(bx:W.bnd 18446744073709551616 xs)(a1:W.bnd 18446744073709551616 ys)(vx:W.val 18446744073709551616 xs=x)(vy:W.val 18446744073709551616 ys=y)(aF:u0<18446744073709551616)(aG:u1<18446744073709551616)(aH:V<18446744073709551616)(aI:v1<18446744073709551616)(al:W.Steps x y u0 u1 V v1 odd p q)(hn:n<=1000000) :
 Calls prog 241 #[.agg (C4 u0 u1 V v1 odd).toArray,.slice (some ⟨g,0,none⟩) n ca,.slice (some ⟨m,0,none⟩) n cb] w (YV wb g n ca m cb p q):=by
 have HX:=gE hx.len;have HY:=gE hy.len;have ag:=gE vx;have a0:=gE vy;have K:=gE al;have BX:=gE bx;have BY:=gE a1;have aM:=hx.lt;have aN:=hy.lt;have ae:=hx.lo;have af:=hy.lo;clear vx vy al
 go_enter func241,ntmps241
 go_upto_region 1 with(fail)
 refine AP ?_;intro w1 R aj aJ;have ak:Arr w1 w.heap.size 268 (C4 u0 u1 V v1 odd):=aj;have an:=hx.ext R;have ap:=hy.ext R;have ai:=ah.trans R;generalize ay:w.heap.size=S at *
 clear aj hx hy ah R aJ ay;go_wp2
 go_loopw[6,7,8,9,10,11,21] (fun a6 a7 a8 a9 aw ax iv wr=>∃ (k cP cQ cR cT b f:Nat) (zs j:List Nat),a6 = .int .u64 cP/\a7 = .int .u64 cQ/\a8 = .int .u64 cR/\a9 = .int .u64 cT/\aw = .int .u64 b/\ax = .int .u64 f/\iv = .int .i64 k/\k<=n/\(cP<18446744073709551616/\cQ<18446744073709551616/\cR<18446744073709551616/\cT<18446744073709551616)/\b<=1/\f<=1/\Ext wb wr/\Arr wr S 268 (C4 u0 u1 V v1 odd)/\Az .u64 wr wb.heap.size 238 g n ca zs/\Az .u64 wr wb.heap.size 238 m n cb j/\W.bnd 18446744073709551616 zs/\W.bnd 18446744073709551616 j/\Hid (zs.drop k=xs.drop k)/\Hid (j.drop k=ys.drop k)/\Hid (if odd=true then W.val 18446744073709551616 (zs.take k)+V*W.val 18446744073709551616 (ys.take k)+cP*18446744073709551616^k=u0*W.val 18446744073709551616 (xs.take k)+(cQ+b)*18446744073709551616^k else W.val 18446744073709551616 (zs.take k)+u0*W.val 18446744073709551616 (xs.take k)+cQ*18446744073709551616^k=V*W.val 18446744073709551616 (ys.take k)+(cP+b)*18446744073709551616^k)/\Hid (if odd=true then W.val 18446744073709551616 (j.take k)+u1*W.val 18446744073709551616 (xs.take k)+cR*18446744073709551616^k=v1*W.val 18446744073709551616 (ys.take k)+(cT+f)*18446744073709551616^k else W.val 18446744073709551616 (j.take k)+v1*W.val 18446744073709551616 (ys.take k)+cT*18446744073709551616^k=u1*W.val 18446744073709551616 (xs.take k)+(cR+f)*18446744073709551616^k)) (fun _ _ _ _ _ _ iv _=>n-(intOf iv).toNat)
 case atStart=>exact⟨0,0,0,0,0,0,0,xs,ys,rfl,rfl,rfl,rfl,rfl,rfl,rfl,gO _,⟨by omega,by omega,by omega,by omega⟩,by omega,by omega,ai,ak,an,ap,bx,a1,gE rfl,gE rfl,gE (by simp[W.val]),gE (by simp[W.val])⟩
 case round =>
  clear ai ak an ap bx a1;obtain⟨k,cP,cQ,cR,cT,b,f,zs,j,rfl,rfl,rfl,rfl,rfl,rfl,rfl,hk,⟨az,aA,aB,aC⟩,T,U,hE,hS,J,I,bz,bt,DZ,DT,H1,H2⟩:=hrel;have aK:S≠g:=by omega
  have aL:S≠m:=by omega
  by_cases a:k<n
  · have c1:=J.cell (i:=k) a;have c2:=I.cell (i:=k) a;have f1:=J.frozen k;have f2:=I.frozen k;have s0:=hS.c 0 rfl;have s1:=hS.c 1 rfl;have s2:=hS.c 2 rfl;have s3:=hS.c 3 rfl;have s4:=hS.c 4 rfl;have b1:=W.bnd_at bz (i:=k) (by rw[J.len];exact a);have b2:=W.bnd_at bt (i:=k) (by rw[I.len];exact a);have ao:zs.getD k 0=xs.getD k 0:=Fo DZ.out;have aq:j.getD k 0=ys.getD k 0:=Fo DT.out;have L:=gE ao;have M:=gE aq;clear ao aq;generalize zs.getD k 0=xk at *
    generalize j.getD k 0=yk at *
    have aO:(k:Int)<n:=by omega
    go_wp2_with fail
    refine(Cg b1 aF az).mono ?_;rintro e w2 ⟨r,N,rfl,rfl,aP,X,E⟩;have E1:=gE E;clear E
    go_wp2_with fail
    refine(Cg b2 aH aA).mono ?_;rintro e w2 ⟨s,O,rfl,rfl,aQ,Y,E⟩;have E2:=gE E;clear E
    go_wp2_with fail
    refine(Cg b2 aI aB).mono ?_;rintro e w2 ⟨t,P,rfl,rfl,aR,Z,E⟩;have E3:=gE E;clear E
    go_wp2_with fail
    refine(Cg b1 aG aC).mono ?_;rintro e w2 ⟨z,Q,rfl,rfl,aS,ad,E⟩;have E4:=gE E;clear E;cases odd with
    | true =>
     have au:=Df r s b T;have av:=Df t z f U;have d1:=TM (x:=r) (y:=s) (c:=b) (by omega) (by omega) T;have d2:=TM (x:=t) (y:=z) (c:=f) (by omega) (by omega) U;have q1:(r+18446744073709551616-s-b)%18446744073709551616<18446744073709551616:=io _ (by omega);have q2:(t+18446744073709551616-z-f)%18446744073709551616<18446744073709551616:=io _ (by omega);have r1:=Ss (x:=r) (y:=s) (c:=b);have r2:=Ss (x:=t) (y:=z) (c:=f);generalize (r+18446744073709551616-s-b)%18446744073709551616=l at *
     generalize (t+18446744073709551616-z-f)%18446744073709551616=o at *
     generalize (if r<s+b then 1 else 0)=D at *
     generalize (if t<z+f then 1 else 0)=H at *
     have a2:=J.set k l;have a3:=(I.kept (Ar wr g k (.int .u64 (l:Int))) (by simp;omega)).set k o;have a4:=a2.kept (Ar (wr.setCell ⟨g,k,none⟩ (.int .u64 (l:Int))) m k (.int .u64 (o:Int))) (by simp;omega);have a5:=(hS.far (p:=⟨g,k,none⟩) (by show S≠g;omega) (.int .u64 (l:Int))).far (p:=⟨m,k,none⟩) (by show S≠m;omega) (.int .u64 (o:Int));have aa:=(hE.setCell (p:=⟨g,k,none⟩) ae (.int .u64 (l:Int))).setCell (p:=⟨m,k,none⟩) af (.int .u64 (o:Int))
     have A:=gE (Hn (B:=18446744073709551616) (zs:=zs) (xs:=ys) (ys:=xs) (k:=k) (d:=l) (u:=V) (v:=u0) (c1:=cP) (c2:=cQ+b) (c1':=N) (c2':=O+D) (by rw[J.len];exact a) (by rw[HY.out];exact a) (by rw[HX.out];exact a) (by have:=H1.out;rw[gY rfl]at this;exact this) (by rw[<-L.out,<-M.out];have:=E1.out;have:=E2.out;omega))
     have C:=gE (Hn (B:=18446744073709551616) (zs:=j) (xs:=xs) (ys:=ys) (k:=k) (d:=o) (u:=u1) (v:=v1) (c1:=cR) (c2:=cT+f) (c1':=P) (c2':=Q+H) (by rw[I.len];exact a) (by rw[HX.out];exact a) (by rw[HY.out];exact a) (by have:=H2.out;rw[gY rfl]at this;exact this) (by rw[<-L.out,<-M.out];have:=E3.out;have:=E4.out;omega));clear d1 d2 E1 E2 E3 E4 H1 H2;go_wp2;go_roundw
     case rel=>exact⟨k+1,N,O,P,Q,D,H,zs.set k l,j.set k o,rfl,rfl,rfl,rfl,rfl,rfl,by go_num,by omega,⟨X,Y,Z,ad⟩,r1,r2,aa,a5,a4,a3,W.bnd_set bz q1,W.bnd_set bt q2,gE (EN DZ.out),gE (EN DT.out),gE (by first | exact A.out | (rw[gY rfl];exact A.out)),gE (by first | exact C.out | (rw[gY rfl];exact C.out))⟩
     case measure=>simp[intOf];omega
    | false =>
     have au:=Df s r b T;have av:=Df z t f U;have d1:=TM (x:=s) (y:=r) (c:=b) (by omega) (by omega) T;have d2:=TM (x:=z) (y:=t) (c:=f) (by omega) (by omega) U;have q1:(s+18446744073709551616-r-b)%18446744073709551616<18446744073709551616:=io _ (by omega);have q2:(z+18446744073709551616-t-f)%18446744073709551616<18446744073709551616:=io _ (by omega);have r1:=Ss (x:=s) (y:=r) (c:=b);have r2:=Ss (x:=z) (y:=t) (c:=f);generalize (s+18446744073709551616-r-b)%18446744073709551616=l at *
     generalize (z+18446744073709551616-t-f)%18446744073709551616=o at *
     generalize (if s<r+b then 1 else 0)=D at *
     generalize (if z<t+f then 1 else 0)=H at *
     have a2:=J.set k l;have a3:=(I.kept (Ar wr g k (.int .u64 (l:Int))) (by simp;omega)).set k o;have a4:=a2.kept (Ar (wr.setCell ⟨g,k,none⟩ (.int .u64 (l:Int))) m k (.int .u64 (o:Int))) (by simp;omega);have a5:=(hS.far (p:=⟨g,k,none⟩) (by show S≠g;omega) (.int .u64 (l:Int))).far (p:=⟨m,k,none⟩) (by show S≠m;omega) (.int .u64 (o:Int));have aa:=(hE.setCell (p:=⟨g,k,none⟩) ae (.int .u64 (l:Int))).setCell (p:=⟨m,k,none⟩) af (.int .u64 (o:Int))
     have A:=gE (Hn (B:=18446744073709551616) (zs:=zs) (xs:=xs) (ys:=ys) (k:=k) (d:=l) (u:=u0) (v:=V) (c1:=cQ) (c2:=cP+b) (c1':=O) (c2':=N+D) (by rw[J.len];exact a) (by rw[HX.out];exact a) (by rw[HY.out];exact a) (by have:=H1.out;rw[gT (by simp)]at this;exact this) (by rw[<-L.out,<-M.out];have:=E1.out;have:=E2.out;omega))
     have C:=gE (Hn (B:=18446744073709551616) (zs:=j) (xs:=ys) (ys:=xs) (k:=k) (d:=o) (u:=v1) (v:=u1) (c1:=cT) (c2:=cR+f) (c1':=Q) (c2':=P+H) (by rw[I.len];exact a) (by rw[HY.out];exact a) (by rw[HX.out];exact a) (by have:=H2.out;rw[gT (by simp)]at this;exact this) (by rw[<-L.out,<-M.out];have:=E3.out;have:=E4.out;omega));clear d1 d2 E1 E2 E3 E4 H1 H2;go_wp2;go_roundw
     case rel=>exact⟨k+1,N,O,P,Q,D,H,zs.set k l,j.set k o,rfl,rfl,rfl,rfl,rfl,rfl,by go_num,by omega,⟨X,Y,Z,ad⟩,r1,r2,aa,a5,a4,a3,W.bnd_set bz q1,W.bnd_set bt q2,gE (EN DZ.out),gE (EN DT.out),gE (by first | exact A.out | (rw[gT (by simp)];exact A.out)),gE (by first | exact C.out | (rw[gT (by simp)];exact C.out))⟩
     case measure=>simp[intOf];omega
  · have ek:k=n:=by omega
    have ar:zs.take k=zs:=gG (by rw[J.len];omega);have am:j.take k=j:=gG (by rw[I.len];omega);have ab:xs.take k=xs:=gG (by rw[HX.out];omega);have ac:ys.take k=ys:=gG (by rw[HY.out];omega);have h1:=H1.out;have h2:=H2.out;rw[ar,ab,ac,ag.out,a0.out,ek]at h1;rw[am,ab,ac,ag.out,a0.out,ek]at h2;have l1:=W.val_lt bz;have l2:=W.val_lt bt;have l3:=W.val_lt BY.out;rw[J.len]at l1;rw[I.len]at l2;rw[HY.out,a0.out]at l3;have aD:=K.out.le;have aE:=K.out.lt;have F:=K.out.ep
    have G:=K.out.eq;have HF:Hid (W.val 18446744073709551616 zs=p/\W.val 18446744073709551616 j=q):=by
     show _/\_;cases odd with
     | true =>
      rw[gY rfl]at h1 h2 F G;exact⟨W.comb_end h1 F l1 (by omega),W.comb_end h2 G l2 (by omega)⟩
     | false =>
      rw[gT (by simp)]at h1 h2 F G;exact⟨W.comb_end h1 F l1 (by omega),W.comb_end h2 G l2 (by omega)⟩
    clear h1 h2 F G l1 l2 l3 ar am ab ac ek aD aE;go_wp2
    go_end0
    exact⟨rfl,hE,zs,j,J,I,bz,bt,HF.out.1,HF.out.2⟩
theorem Iv{c:Nat}(i:SlN .u64 w a n c xs)(e:SlN .u64 w b m d ys)(j:Num 18446744073709551616 xs x)(f:Num 18446744073709551616 ys y)(p:n<=100000)(h0:0<y) :
 Calls prog 289 #[.slice a n c,.slice b m d] w (O0 .u64 18446744073709551616 w (x/y) (x%y)):=by
 by_cases g:x<y
 · exact Fm i e j f g
 · have l:=e.len;rcases iH m 2 with h2|h2
   · have o:m=1:=by
      rcases gX m with h|h
      · subst h;have:ys=[]:=gQ l;have k:=f.val;rw[this]at k;simp only[W.val]at k;omega
      · omega
     subst o;exact Fy i e j f (by omega) (by omega) h0
   · exact Fz i e j f p (by omega) (mm:=m-2) (by omega)
theorem DD{c:Nat}(t:SlN .u64 w a n c xs)(v:SlN .u64 w b m d ys)(z:Num 18446744073709551616 xs x)(A:Num 18446744073709551616 ys y)(s:n<=100000)(D:m<=100000)(h0:0<y)(C:m<80\/n<m+80) :
 Calls prog 240 #[.slice a n c,.slice b m d] w (O0 .u64 18446744073709551616 w (x/y) (x%y)):=by
 have r:=Iv t v z A s h0;have q:=gE r;clear r;have E:IntKind.i64.wrap ((n:Int)-m)=(n:Int)-m:=gI _ (by omega);by_cases h1:m<80
 · have h2:¬ ((80:Int)<=(m:Int)):=by omega
   go_enter func240,ntmps240
   go_wp2_with fail
   refine q.out.mono ?_;rintro e B ⟨i,o,k,f,j,p,l,g,rfl,h⟩;have H:=gE h;clear h;go_wp2
   go_ret2
   exact⟨i,o,k,f,j,p,l,g,rfl,H.out⟩
 · have h2:(80:Int)<=(m:Int):=by omega
   have h3:¬ ((80:Int)<=(n:Int)-m):=by omega
   go_enter func240,ntmps240
   go_wp2_with fail
   refine q.out.mono ?_;rintro e B ⟨i,o,k,f,j,p,l,g,rfl,h⟩;have H:=gE h;clear h;go_wp2
   go_ret2
   exact⟨i,o,k,f,j,p,l,g,rfl,H.out⟩
def Uw(w:World)(n:Nat)(xs:List Nat)(e:Ending)(w':World):Prop:=∃ a' c',e = .returned (.slice a' n c')/\Ext w w'/\Own w' w.heap.size 238 a' n c' (xs.map (BL .u64))
theorem CP{c:Nat}(i:SlN .u64 w a n c xs)(y:n<=1000000) :
 Calls prog 238 #[.slice a n c] w (Uw w n xs):=by
 rcases gX n with h0|h0
 · subst h0;have j:xs=[]:=gQ i.len;subst j;have v:=fun m:World=>Lib.run_eql_slice_nil (P:=prog) m 81 238 a 0 c 0 0 underlying81;cases a with
   | none =>
    go_enter func238,ntmps238
    go_wp2;go_ret;exact⟨none,0,rfl,Ext.refl w,Own.nil _ _ _⟩
   | some p =>
    go_enter func238,ntmps238
    go_upto_region 3 with(fail)
    have l:Ext w (w.alloc (.cells #[] 238)):=(Ext.refl w).alloc _;have b:=AB w w.heap.size 238 #[] 0 rfl (lrf _) (by omega)
    go_wp2_with(refine B5 (news:=[]) rfl rfl underlying81 AK rfl rfl b rfl (i.ext l) (by simp) (by unfold maxLen;omega) (by omega) (by simp) ?_;intro o r z d f t)
    go_ret;exact⟨o,r,rfl,l.grown f (fun k x=>(b.lt x).1),d⟩
 · refine(Ul i y h0).mono ?_;rintro e m ⟨g,q,rfl,s,b⟩;exact⟨_,q,rfl,s,b⟩
section
variable {P:Program} {ops:Array Oper} {hs:List Hd} {a0:Act} {C:World->Prop} {i:Nat} {o:Oper}
theorem BN(d:Cr hs o=some true)(h:∀ a w,DE a->C w->Cq ops hs a0 o a w o.op.operands.toList->(execOp a o).run P w = .ok (.value c) w) :
 obl P C ops hs a0 i o (he c):=by
 unfold obl;rw[d];intro a w hp b e;rw[h a w hp b e];exact⟨rfl,rfl⟩
theorem O5(a:Cr hs o=some false):obl P C ops hs a0 i o (he undef):=by
 unfold obl;rw[a];exact fun w _=>rfl
theorem Iw{x:Operand}(e:Cr hs o=some true)(a:o.op = .move x\/o.op = .assign x)(h:∀ b w,DE b->Cq ops hs a0 o b w [x]->b x=c):obl P C ops hs a0 i o (he c) :=
 BN e fun b w hp _ d=>by
  rcases a with a|a <;>
  · rw[a]at d;simp only[execOp,a,h b w hp d];rfl
theorem Ux{p:Value->World->Prop}(k:Cr hs o=some true)
 (h:∀ b w,DE b->C w->Cq ops hs a0 o b w o.op.operands.toList->∃ f a,(execOp b o).run P w = .ok (.enter f a) w/\Calls P f a w (fun e c=>∃ u,e = .returned u/\Ext w c/\p u c)) :
 obl P C ops hs a0 i o ⟨false,.pr p,cons⟩:=by
 unfold obl;rw[k];intro b w hp d l;obtain⟨f,a,j,g⟩:=h b w hp d l;rw[j];exact g
theorem Aj(d:Cr hs o=some true)(h:∀ a w,C w->(∀ v,a (.const v)=v)->Cq ops hs a0 o a w o.op.operands.toList->(execOp a o).run P w = .ok (.value c) w):obl P C ops hs a0 i o (he c):=BN d fun a w hp b e=>h a w b hp.const e
theorem Ag{p:Value->World->Prop}(g:Cr hs o=some true)(h:∀ b w,C w->(∀ v,b (.const v)=v)->(∀ f,b (.func f) = .func (.func f) #[] #[])->Cq ops hs a0 o b w o.op.operands.toList->∃ f a,(execOp b o).run P w = .ok (.enter f a) w/\Calls P f a w (fun e c=>∃ u,e = .returned u/\Ext w c/\p u c)):obl P C ops hs a0 i o ⟨false,.pr p,cons⟩:=Ux g fun b w hp d j=>h b w d hp.const hp.func j
end
def Ho(ops:Array Oper)(n:Nat)(i:Nat)(o:Oper):Bool :=
 (List.range n).all (fun j=>(anc ops 12 (B4 o)).contains j) || (B4 o).any (fun k=>n<=k && k<i)
def CX(ops:Array Oper)(cons:List (Option Nat))(size:Nat):Bool :=
 let n:=cons.length
 decide (n<=ops.size) && (List.range ops.size).all (fun i=>match ops[i]? with | some o=>if i<n then PX ops cons n size i o else Ho ops n i o | none=>false) &&
 cons.all (fun k=>match k with | some k=>k<n | none=>true) &&
 Region.seqB .any ops (ops.size-n) n ((Array.range ops.size).map (fun j=>decide (j<n)))
section
variable {P:Program} {Q:Exit->Act->World->Prop}
theorem Hp{a:Act}(C:World->Prop)(b:List Hd)
 (N:CX l.toArray (b.map (·.cons)) a.tmps.size=true)
 (a3:∀ w f,Ext w f->C w->C f) (hC:C w.drew) (a9:GZ b)
 (Z:MX P C l.toArray b a 0 l b)
 (T:∀ f,C f->EE f (fun x=>wpList P l.toArray Q (l.drop b.length) x f) l b a):wpAny P .any l.toArray Q l.toArray.size (Array.replicate l.toArray.size false) a w.drew:=by
 unfold CX at N;simp only[jn,iM,jV]at N;obtain⟨⟨⟨hn,O⟩,ac⟩,I⟩:=N;have ad:l.toArray.size=l.length:=by simp
 have g:∀ i o,l.toArray[i]?=some o->(i<b.length->EF l.toArray (b.map (·.cons)) b.length a.tmps.size i o)/\(b.length<=i->Ho l.toArray b.length i o=true):=by
  intro i o s;have G:i<l.toArray.size:=(iS.1 s).1;have:=jI.1 O i (by simpa using G);rw[s]at this;simp only at this;refine⟨fun h => ?_,fun h => ?_⟩
  · rw[gY h]at this;exact IJ this
  · rw[gT (by omega)]at this;exact this
 have ab:∀ m listed x f,unl listed b.length=m->I6 l.toArray b a C listed x f->wpAny P .any l.toArray Q (m+(l.toArray.size-b.length)) listed x f:=by
  intro m
  induction m with
  | zero =>
   intro listed x f hu e;have q:=G5 hu;have L:listed=(Array.range l.toArray.size).map (fun j=>decide (j<b.length)):=by
    apply Array.ext
    · rw[e.size];simp
    · intro i h1 h2;simp only[Array.getElem_map,Array.getElem_range];by_cases G:i<b.length
      · have:=q i G;simp[h1]at this;simp[this,G]
      · have:=e.tailF i (by omega);simp[h1]at this;simp[this,G]
   -- the frame
   have ha:x=De (fun j=>match Bf l.toArray j with | some d=>x.tmps.getD d undef | none=>Classical.epsilon (fun v=>(AQ b j).ty.ok v f)) 0 l b a:=by
    apply Q7
    · rw[Gl];exact e.defers
    · rw[IK];exact e.tmps
    · intro t;by_cases J:∃ j o,j<b.length/\l[j]?=some o/\o.dst=some t
      · obtain⟨j,o,H,s,r⟩:=J;have X:l.toArray[j]?=some o:=by simpa using s
        have A:=(g j o X).1 H
        rw[Kg b l 0 a j o H s r (A.dst t r) (by
         intro k' o' a7 M a4;have Y:l.toArray[k']?=some o':=by simpa using M
         by_cases W:k'=j
         · exact W
         · have:=A.apart k' a7 W (by rw[B7 Y,a4,r]);rw[r]at this
           cases this)]
        rw[iz,B7 X,r]
      · rw[Fb b l 0 a (fun k o D s r=>J ⟨k,o,D,s,r⟩)];refine e.frame t fun j H _ r=>J ?_;unfold Bf at r;cases s:l.toArray[j]? with
        | none=>rw[s]at r;cases r
        | some o=>rw[s]at r;exact⟨j,o,H,by simpa using s,r⟩
   have F:=Kf (vs:=fun j=>match Bf l.toArray j with | some d=>x.tmps.getD d undef | none=>Classical.epsilon (fun v=>(AQ b j).ty.ok v f)) b l 0 a (T f e.world)
    (by
     intro k D c R;rw[iz];cases r:Bf l.toArray k with
     | some d=>exact e.values k c D (q k D) R d r
     | none =>
      have:(AQ b k).ty.ok (Classical.epsilon (fun v=>(AQ b k).ty.ok v f)) f:=by
       apply lT (p:=fun v=>(AQ b k).ty.ok v f);refine⟨c,?_⟩;rw[show(AQ b k).ty = .eq c from R];rfl
      have h2:(AQ b k).ty = .eq c:=R;rw[h2]at this;simp only[Ty.ok]at this;rw[h2]
      exact this)
    (by
     intro k D p hp R;rw[iz]
     obtain⟨v,hv,aa⟩:=e.facts k D (q k D) (by
      intro k' S;have h1:(AQ b k).cons=none:=R;rw[h1]at S
      cases S)
     have h2:(AQ b k).ty = .pr p:=hp;cases r:Bf l.toArray k with
     | some d =>
      simp only;rw[aa d r];rw[h2]at hv;exact hv
     | none =>
      have:(AQ b k).ty.ok (Classical.epsilon (fun v=>(AQ b k).ty.ok v f)) f:=lT (p:=fun v=>(AQ b k).ty.ok v f) ⟨v,hv⟩;simp only;rw[h2]at this |-
      exact this)
   rw[<-ha]at F;rw[iz];have hl:(l.drop b.length).length=l.toArray.size-b.length:=by simp
   rw[<-hl];rw[<-hl,<-L]at I;exact wpAny_of_seq (l.drop b.length) b.length listed x f (by intro j;simp) I F
  | succ m ih =>
   intro listed x f hu e;rw[show m+1+(l.toArray.size-b.length)=(m+(l.toArray.size-b.length))+1 by omega];refine⟨fun z => ?_,fun i G => ?_⟩
   · obtain⟨j,H,B,a6⟩:=G6 (listed:=listed) (n:=b.length) (by omega);have V:j<l.toArray.size:=by omega
     have s:l.toArray[j]?=some l.toArray[j]:=kR V;have A:=(g j _ s).1 H
     have:j∈Region.ready .any l.toArray listed:=Ot (by
      have:j<listed.size:=by rw[e.size];exact V
      simpa[this]using B) s (fun p hp=>a6 p (A.lt p hp))
     rw[z]at this;cases this
   · obtain⟨h0,o,s,a0⟩:=E9 G;have U:i<listed.size:=by rw[e.size];exact(iS.1 s).1
     have a5:listed.getD i false=false:=by simpa[U]using h0
     have K:i<b.length:=by
      rcases iH i b.length with h|h
      · exact h
      · exfalso;have ht:=(g i o s).2 h;unfold Ho at ht;simp only[mH,jI,lQ,jA,List.any_eq_true,jn,jV]at ht;rcases ht with ht|⟨k,D,a8,_⟩
        · obtain⟨j,H,B,_⟩:=G6 (listed:=listed) (n:=b.length) (by omega);rw[CM e.closed 12 (B4 o) a0 j (ht j H)]at B;cases B
        · have:=a0 k D;rw[e.tailF k a8]at this;cases this
     refine TL (by simpa using Z) a9 a3 e G K (fun o' M=>(g i o' M).1 K) fun a2 w2 a1 => ?_;refine ih _ a2 w2 ?_ a1;have:=MZ U a5 K;omega
 have E:I6 l.toArray b a C (Array.replicate l.toArray.size false) a w.drew:=by
  have A:∀ j,(Array.replicate l.toArray.size false).getD j false=false:=fun j=>kT _ j;refine⟨by simp,fun j _=>A j,(fun j h=>by rw[A j]at h;cases h),hC,rfl,rfl,fun _ _=>rfl,(fun j _ h=>by rw[A j]at h;cases h),(fun j c _ h=>by rw[A j]at h;cases h)⟩
 have y:unl (Array.replicate l.toArray.size false) b.length=b.length:=by
  have:∀ n,unl (Array.replicate l.toArray.size false) n=n:=by
   intro n
   induction n with
   | zero=>rfl
   | succ n ih=>rw[unl,ih,kT];simp
  exact this _
 have:=ab b.length _ a w.drew y E
 rwa[show b.length+(l.toArray.size-b.length)=l.toArray.size by omega]at this
theorem Ab{id:Nat}{a:Act}(m:P.follows .mixedOrders=true)(C:World->Prop)(b:List Hd)
 (g:CX l.toArray (b.map (·.cons)) a.tmps.size=true)
 (f:∀ w c,Ext w c->C w->C c) (k:C w.drew) (i:GZ b)
 (e:MX P C l.toArray b a 0 l b)
 (d:∀ c,C c->EE c (fun j=>wpList P l.toArray Q (l.drop b.length) j c) l b a):(Code.region id l.toArray true).wp P Q a w :=
 pf m (Hp C b g f k i e d)
end
end Go.Proofs.YtlbmnokpiilfpaaGreatDoor
