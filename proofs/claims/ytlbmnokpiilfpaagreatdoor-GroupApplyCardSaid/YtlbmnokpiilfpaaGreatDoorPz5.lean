/- Part Pz5. -/
import Derived.Test.YtlbmnokpiilfpaaGreatDoorPz4
import Derived.Deep.LoopGhost
set_option linter.all false
set_option maxRecDepth 100000
set_option maxHeartbeats 100000000
namespace Go.Proofs.YtlbmnokpiilfpaaGreatDoor
open Tryz Go Go.RowKit
def p8:=@Int.sign_eq_neg_one_of_neg
def qW:=@Int.natAbs_mul
def ql:=@List.mem_of_getElem?
def rD:=@List.append_nil
def rV:=@decide_eq_decide
def sI:=@Nat.le_of_lt
def tY:=@List.replicate_succ'
def vB:=@Int.sign_eq_one_of_pos
def vM:=@Nat.pow_mul
def vP:=@Nat.lt_trans
def vQ:=@or_false
def wE:=@List.take_set_of_le
def wF:=@List.replicate_zero
def x9:=@List.take_take
variable {p q:Addr} {neg odd s:Bool} {z:Int} {xs ys zs:List Nat} {cs:List Value} {B N R X base c d k m n off x y:Nat} {a b:Option Addr} {T e t:TypeId} {u v v':Value} {w w' w1 w9 wb:World}
theorem CW:Agg prog 268 5:=⟨by kernel_rfl,by kernel_rfl⟩
def C4(u0 u1 v0 v1:Nat)(odd:Bool):List Value:=[.int .u64 u0,.int .u64 u1,.int .u64 v0,.int .u64 v1,.bool odd]
theorem Fn(u0 u1 c v1:Nat)(a:Bool):∀ v∈C4 u0 u1 c v1 a,v.oneCell'=true:=by
 intro v b;simp only[C4,qj,rI,vQ]at b;rcases b with rfl|rfl|rfl|rfl|rfl <;> rfl
theorem Ge{s:Nat}(a:s<=63):18446744073709551616=2^s*2^(64-s):=by rw[<-sG,show s+(64-s)=64 by omega]
theorem Nq{t1 t0 s:Nat}(a:s<=63)(h0:t0<18446744073709551616):t1*2^s ||| t0/2^(64-s)=t1*2^s+t0/2^(64-s):=by
 have h:t0/2^(64-s)<2^s:=by
  rw[re (qr _),<-Ge a];exact h0
 have:=Nat.shiftLeft_add_eq_or_of_lt h t1;rw[Nat.shiftLeft_eq]at this;exact this.symm
def YU(w:World)(x y:Nat)(e:Ending)(w':World):Prop :=
 ∃ u0 u1 v0 v1 odd,e = .returned (.agg (C4 u0 u1 v0 v1 odd).toArray)/\Ext w w'/\u0<18446744073709551616/\u1<18446744073709551616/\v0<18446744073709551616/\v1<18446744073709551616/\(v0=0\/∃ p q,W.Steps x y u0 u1 v0 v1 odd p q)
theorem Hm(hx:SlN .u64 w a n c xs)(hy:SlN .u64 w b m d ys)(nx:Num 18446744073709551616 xs x)(ny:Num 18446744073709551616 ys y)(hn:n<=100000)(aA:y<=x){nn:Nat}(b3:n=nn+2) :
 Calls prog 239 #[.slice a n c,.slice b m d] w (YU w x y):=by
 have HX:=lz hx.len;have HY:=lz hy.len;have cd:m<=n:=by
  refine pQ fun hc => ?_;have:=W.len_lt (B:=18446744073709551616) (by omega) nx.bnd ny.nrm (by rw[HX.out,HY.out];omega);rw[nx.val,ny.val]at this;omega
 have aj:xs≠[]:=by intro h;have:=HX.out;rw[h]at this;simp at this;omega
 have ai:0<xs.getD (nn+1) 0:=by
  have h1:=nx.nrm aj;rw[sY]at h1;have h2:xs.length-1=nn+1:=by rw[HX.out];omega
  have h3:nn+1<xs.length:=by rw[HX.out];omega
  have h4:xs.getD (nn+1) 0=xs[xs.length-1]'(by omega):=by
   simp[h2,h3]
  omega
 have b5:=W.bnd_at nx.bnd (i:=nn+1) (by rw[HX.out];omega);have b4:=W.bnd_at nx.bnd (i:=nn) (by rw[HX.out];omega);obtain⟨s,hs,b0,bp,a9⟩:=Nl ai b5;have D:=fun wx:World=>Qh b5 wx;rw[b0]at D;obtain⟨P,hP⟩:∃ P,18446744073709551616^nn*2^(64-s)=P:=⟨_,rfl⟩;have aq:0<P:=by rw[<-hP];exact tA (tw (by omega)) (qr _)
 have hA:x/P=xs.getD (nn+1) 0*2^s+xs.getD nn 0/2^(64-s):=by
  rw[<-hP];refine W.head_of (Ge hs) (qr _) (lo:=W.val 18446744073709551616 (xs.take nn)) ?_ ?_
  · rw[<-nx.val];exact Hl (by rw[HX.out];omega)
  · exact Ck nx.bnd (by rw[HX.out];omega)
 have al:xs.getD (nn+1) 0*2^s+xs.getD nn 0/2^(64-s)<18446744073709551616:=by
  rw[<-Nq hs b4];exact Nm a9 (by have:=qE (xs.getD nn 0) (2^(64-s));omega)
 have ao:y/P<=x/P:=Nat.div_le_div_right aA;have O:m=nn+2->y/P=ys.getD (nn+1) 0*2^s+ys.getD nn 0/2^(64-s):=by
  intro J;rw[<-hP];refine W.head_of (Ge hs) (qr _) (lo:=W.val 18446744073709551616 (ys.take nn)) ?_ ?_
  · rw[<-ny.val];exact Hl (by rw[HY.out];omega)
  · exact Ck ny.bnd (by rw[HY.out];omega)
 have Q:m=nn+1->y/P=ys.getD nn 0/2^(64-s):=by
  intro J;rw[<-hP]
  have:=W.head_of (t1:=0) (Ge hs) (qr _) (a:=y) (t0:=ys.getD nn 0) (M:=18446744073709551616^nn) (lo:=W.val 18446744073709551616 (ys.take nn)) (by
   rw[<-ny.val,r7,qA];have:=Ed (B:=18446744073709551616) (l:=ys) (m:=nn) (by rw[HY.out];omega)
   rw[this]) (Ck ny.bnd (by rw[HY.out];omega))
  rw[this,r7,qA]
 have R:m<=nn->y/P=0:=by
  intro J;apply rH;have h1:=W.val_lt ny.bnd;rw[ny.val,HY.out]at h1;have h2:18446744073709551616^m<=18446744073709551616^nn:=pR (by omega) J;have h3:18446744073709551616^nn*1<=18446744073709551616^nn*2^(64-s):=qp _ (qr _);omega
 have a8:=lz (W.Sim.start aq aA);obtain⟨A,a3⟩:∃ A,x/P=A:=⟨_,rfl⟩;obtain⟨Bb,a5⟩:∃ Bb,y/P=Bb:=⟨_,rfl⟩;rw[a3,a5]at a8;rw[a3]at hA ao;rw[a5]at ao O Q R;generalize x%P=α at *
 generalize y%P=β at *
 clear a3 a5 hP aq aj;have bR:A<18446744073709551616:=by rw[hA];exact al
 have bW:Bb<18446744073709551616:=by omega
 obtain⟨b1,o1,rfl,H⟩:=hx.at (j:=0) (by omega);have g1:=H (nn+1) (by omega);have g0:=H nn (by omega);have fA:bits BinOp.or IntKind.u64 ((xs.getD (nn+1) 0*2^s:Nat):Int) ((xs.getD nn 0/2^(64-s):Nat):Int)=(A:Int):=by
  rw[wQ _ _ a9 (by have:=qE (xs.getD nn 0) (2^(64-s));omega),Nq hs b4,hA]
 have a0:IntKind.u64.wrap (((xs.getD (nn+1) 0:Nat):Int)*2^s)=((xs.getD (nn+1) 0*2^s:Nat):Int):=Au (by push_cast;rfl) a9;have N:((xs.getD nn 0:Nat):Int)/2^(64-s)=((xs.getD nn 0/2^(64-s):Nat):Int):=by push_cast;rfl
 generalize xs.getD nn 0/2^(64-s)=q0 at *
 generalize xs.getD (nn+1) 0 * 2^s=q1 at *
 generalize xs.getD (nn+1) 0=t1 at *
 generalize xs.getD nn 0=t0 at *
 have bG:IntKind.i64.wrap ((n:Int)-1)=((nn+1:Nat):Int):=by rw[show(n:Int)-1=((nn+1:Nat):Int) by omega];exact pq _ (by omega)
 have ce:IntKind.i64.wrap ((n:Int)-2)=((nn:Nat):Int):=by rw[show(n:Int)-2=((nn:Nat):Int) by omega];exact pq _ (by omega)
 have bs:((nn+1:Nat):Int)<(n:Int):=by omega
 have ca:((nn:Nat):Int)<(n:Int):=by omega
 have ch:IntKind.u64.wrap (64-(s:Int))=((64-s:Nat):Int):=by rw[rz];omega
 have HN:Hid (n=nn+2):=lz b3;obtain⟨N1,a7⟩:∃ N1,nn+1=N1:=⟨_,rfl⟩;rw[a7]at g1 bG bs;have L:=lz a7;clear H b0 hA al bp ai b3 a7
 go_enter func239,ntmps239
 go_upto_region 1 with(fail)
 refine AP ?_;intro w0 T ar b9;have bj:=T.cell g1;have bi:=T.cell g0;have b8:=hy.ext T;clear g1 g0 hx hy
 go_wp2_with fail
 refine(D _).mono ?_;rintro e w2 ⟨rfl,rfl⟩;go_wp2
 go_quiet (fail)
 have E:=T.drewN nq;have F:=ar.drewN nq;have Z:=b8.ext ((Ext.refl w2).drewN nq);have ba:(w2.drewN nq).heap.size=w.heap.size+1:=b9;generalize w2.drewN nq=w3 at *
 clear b8 T ar b9 bj bi fA a0 N D;have z:w.heap.size<w3.heap.size:=by omega
 have c7:=lz ba;clear ba;have bd:m=nn+2\/m=nn+1\/m<=nn:=by have:=HN.out;omega
 rcases bd with J|J|J
 case' inl =>
  obtain⟨b2,o2,rfl,C⟩:=Z.at (j:=0) (by omega);have e1:=O J;have k1:=W.bnd_at ny.bnd (i:=nn+1) (by rw[HY.out];omega);have k0:=W.bnd_at ny.bnd (i:=nn) (by rw[HY.out];omega);have g1:=C (nn+1) (by omega);have g0:=C nn (by omega);rw[L.out]at g1;have aa:ys.getD (nn+1) 0*2^s<18446744073709551616:=by
   have h1:ys.getD (nn+1) 0*2^s<=Bb:=by rw[e1];exact vr _ _
   omega
  have fA:bits BinOp.or IntKind.u64 ((ys.getD (nn+1) 0*2^s:Nat):Int) ((ys.getD nn 0/2^(64-s):Nat):Int)=(Bb:Int):=by
   rw[wQ _ _ aa (by have:=qE (ys.getD nn 0) (2^(64-s));omega),Nq hs k0,e1]
  have a0:IntKind.u64.wrap (((ys.getD (nn+1) 0:Nat):Int)*2^s)=((ys.getD (nn+1) 0*2^s:Nat):Int):=Au (by push_cast;rfl) aa;have N:((ys.getD nn 0:Nat):Int)/2^(64-s)=((ys.getD nn 0/2^(64-s):Nat):Int):=by push_cast;rfl
  rw[L.out]at fA a0;clear e1 aa O Q R;generalize ys.getD nn 0/2^(64-s)=p0 at *
  generalize ys.getD N1 0 * 2^s=p1 at *
  generalize ys.getD N1 0=y1 at *
  generalize ys.getD nn 0=y0 at *
  have X:((m:Int) == (n:Int))=true:=by have:=HN.out;simp;omega
  have bt:((N1:Nat):Int)<(m:Int):=by have:=L.out;omega
  have ac:((nn:Nat):Int)<(m:Int):=by omega
  clear J C;go_wp2
  go_quiet (fail)
  go_upto_region 10 with(fail)
  have a1:=E.drewN nq;have a2:=F.drewN nq;have bb:w.heap.size<(w3.drewN nq).heap.size:=z;generalize w3.drewN nq=w4 at *
  clear g1 g0 fA a0 N X bt ac k0 k1 E F z Z;have E1:Hid True:=lz trivial
 case' inr.inl =>
  obtain⟨b2,o2,rfl,C⟩:=Z.at (j:=0) (by omega);have e1:=Q J;have g0:=C nn (by omega);have N:((ys.getD nn 0:Nat):Int)/2^(64-s)=(Bb:Int):=by rw[e1];push_cast;rfl
  clear e1 O Q R;generalize ys.getD nn 0=y0 at *
  have X:((m:Int) == (n:Int))=false:=by have:=HN.out;simp;omega
  have Y:((m:Int) == ((N1:Nat):Int))=true:=by have:=L.out;simp;omega
  have ac:((nn:Nat):Int)<(m:Int):=by omega
  clear J C
  go_upto_region 10 with(fail)
  have a1:=E;have a2:=F;have bb:=z;clear g0 N X Y ac E F z Z;generalize hw:w3=w4 at *
  clear hw;have E1:Hid True:=lz trivial
 case' inr.inr =>
  have E1:=lz (R J);clear O Q R;have X:((m:Int) == (n:Int))=false:=by have:=HN.out;simp;omega
  have Y:((m:Int) == ((N1:Nat):Int))=false:=by have:=L.out;simp;omega
  clear J
  go_upto_region 10 with(fail)
  have a1:=E;have a2:=F;have bb:=z;clear X Y E F z Z;generalize hw:w3=w4 at *
  clear hw
 all_goals
  go_wp2;refine AP ?_;intro w5 a6 ax bK;have av:Arr w5 w.heap.size 268 (C4 0 0 0 0 false):=a2.ext a6;have ay:Arr w5 w4.heap.size 268 (C4 0 1 0 0 false):=ax;have ap:=a1.trans a6;clear a2 ax a1 a6;generalize I:w4.heap.size=S at *
  have c6:=lz I;clear I bK
  go_loopw[7,8,10,11] (fun fv gv uv vv wr=>∃ (f g u0 u1 u2 v0 t k:Nat) (o:Bool),fv = .int .u64 f/\gv = .int .u64 g/\uv = .int .u64 u2/\vv = .int .u64 k/\Ext w wr/\Arr wr w.heap.size 268 (C4 0 0 0 0 false)/\Arr wr S 268 (C4 u0 u1 v0 t o)/\Hid (W.Sim x y A Bb P α β f g u0 u1 u2 v0 t k o)/\(f<18446744073709551616/\g<18446744073709551616)/\(u0<18446744073709551616/\u1<18446744073709551616/\u2<18446744073709551616)/\(v0<18446744073709551616/\t<18446744073709551616/\k<18446744073709551616)) (fun _ gv _ _ _=>(intOf gv).toNat)
  case atStart=>exact⟨A,Bb,0,1,0,0,0,1,false,rfl,by first | rfl | rw[E1.out];rfl,rfl,rfl,ap,av,ay,a8,⟨by omega,by omega⟩,⟨by omega,by omega,by omega⟩,⟨by omega,by omega,by omega⟩⟩
  case round =>
   clear ap av ay a8;obtain⟨f,g,u0,u1,u2,v0,t,k,o,rfl,rfl,rfl,rfl,hE,hR,I,HS,⟨hf,hg⟩,⟨b6,ad,bx⟩,⟨b7,ag,bz⟩⟩:=hrel;have c4:=HS.out.leh.v2p;have c9:=HS.out.leh.gf;have ah:(v0=0\/∃ p q,W.Steps x y u0 u1 v0 t o p q):=HS.out.good;have K:=lz ah;clear ah;have s0:=I.c 0 rfl;have s1:=I.c 1 rfl;have s2:=I.c 2 rfl;have s3:=I.c 3 rfl;have s4:=I.c 4 rfl;by_cases H:k<=g
   · obtain⟨k1,k2,k3⟩:=HS.out.bound (by omega);have ck:IntKind.u64.wrap ((t:Int)+k)=((t+k:Nat):Int):=Au (by push_cast;rfl) (by omega);have c5:IntKind.u64.wrap ((f:Int)-g)=((f-g:Nat):Int):=Au (by omega) (by omega);have cb:(k:Int)<=(g:Int):=by omega
     by_cases C:t+k<=f-g
     · obtain⟨ak,kv,ku,cc⟩:=HS.out.step H C;have c8:((g:Int) == 0)=false:=by simp;omega
       have c2:(f:Int).tdiv g=((f/g:Nat):Int):=by rw[qI (by omega)];push_cast;rfl
       have bL:(f:Int)/g=((f/g:Nat):Int):=by push_cast;rfl
       have c3:(f:Int).tmod g=((f%g:Nat):Int):=by rw[rt (by omega)];push_cast;rfl
       have bN:(f:Int)%g=((f%g:Nat):Int):=by push_cast;rfl
       have c1:((t+k:Nat):Int)<=((f-g:Nat):Int):=by omega
       have bg:=lz ak;have bv:f/g<=f:=qE _ _;clear ak HS K;generalize f/g=q at *
       generalize f%g=r at *
       have cg:IntKind.u64.wrap (q:Int)=(q:Int):=Au rfl (by omega);have m1:IntKind.u64.wrap ((q:Int)*u2)=((q*u2:Nat):Int):=Au (by push_cast;rfl) (by omega);have m2:IntKind.u64.wrap ((q:Int)*k)=((q*k:Nat):Int):=Au (by push_cast;rfl) (by omega);have m3:IntKind.u64.wrap ((u1:Int)+((q*u2:Nat):Int))=((u1+q*u2:Nat):Int):=Au (by omega) (by omega);have m4:IntKind.u64.wrap ((t:Int)+((q*k:Nat):Int))=((t+q*k:Nat):Int):=Au (by omega) (by omega);generalize hU:u1+q * u2=U at *
       generalize hV:t+q * k=V at *
       generalize q * u2=qu at *
       generalize q * k=qv at *
       generalize t+k=vs at *
       generalize f-g=fg at *
       clear hU hV bv;go_wp2
       go_quiet (fail)
       have G:=I.drewN nq;have bn:=hR.drewN nq;have bl:=hE.drewN nq;have t0:(wr.drewN nq).cell? ⟨S,0,none⟩=_:=s0;have t1:(wr.drewN nq).cell? ⟨S,1,none⟩=_:=s1;have t2:(wr.drewN nq).cell? ⟨S,2,none⟩=_:=s2;have t3:(wr.drewN nq).cell? ⟨S,3,none⟩=_:=s3;have t4:(wr.drewN nq).cell? ⟨S,4,none⟩=_:=s4;generalize wr.drewN nq=wq at *
       clear s0 s1 s2 s3 s4 I hR hE;have bo:=((((G.set 0 (.int .u64 u1)).set 1 (.int .u64 u2)).set 2 (.int .u64 t)).set 3 (.int .u64 k)).set 4 (.bool (!o));have bm:=((((bn.far (p:=⟨S,0,none⟩) (by show w.heap.size≠S;omega) (.int .u64 u1)).far (p:=⟨S,1,none⟩) (by show w.heap.size≠S;omega) (.int .u64 u2)).far (p:=⟨S,2,none⟩) (by show w.heap.size≠S;omega) (.int .u64 t)).far (p:=⟨S,3,none⟩) (by show w.heap.size≠S;omega) (.int .u64 k)).far (p:=⟨S,4,none⟩) (by show w.heap.size≠S;omega) (.bool (!o))
       have bk:=((((bl.setCell (p:=⟨S,0,none⟩) (by show w.heap.size<=S;omega) (.int .u64 u1)).setCell (p:=⟨S,1,none⟩) (by show w.heap.size<=S;omega) (.int .u64 u2)).setCell (p:=⟨S,2,none⟩) (by show w.heap.size<=S;omega) (.int .u64 t)).setCell (p:=⟨S,3,none⟩) (by show w.heap.size<=S;omega) (.int .u64 k)).setCell (p:=⟨S,4,none⟩) (by show w.heap.size<=S;omega) (.bool (!o));have z0:=G.frozen 0;have z1:=G.frozen 1;have z2:=G.frozen 2;have z3:=G.frozen 3;have z4:=G.frozen 4;go_wp2;go_roundw
       case rel=>exact⟨g,r,u1,u2,U,t,k,V,!o,rfl,rfl,rfl,rfl,bk,bm,bo,bg,⟨hg,by omega⟩,⟨ad,bx,by omega⟩,⟨ag,bz,by omega⟩⟩
       case measure=>simp[intOf];omega
     · have bq:¬ (((t+k:Nat):Int)<=((f-g:Nat):Int)):=by omega
       have bf:((f-g:Nat):Int)<((t+k:Nat):Int):=by omega
       have c0:decide (t+k<=f-g)=false:=by simp;omega
       generalize t+k=vs at *
       generalize f-g=fg at *
       clear C HS
       go_upto_region 19 with(fail)
       go_wp2_with(first
        | (refine Ev rfl rfl CW rfl I ?_)
        | (refine Aa rfl rfl rfl rfl rfl CW hR rfl (Fn _ _ _ _ _) ?_;intro w9 a4 ab))
       refine py (v := .agg (C4 u0 u1 v0 t o).toArray) (Ap rfl CW rfl a4) rfl ⟨u0,u1,v0,t,o,rfl,hE.grownR ab (lrf _),b6,ad,b7,ag,K.out⟩
   · have bq:¬ ((k:Int)<=(g:Int)):=by omega
     have bf:(g:Int)<(k:Int):=by omega
     clear H HS
     go_upto_region 19 with(fail)
     go_wp2_with(first
      | (refine Ev rfl rfl CW rfl I ?_)
      | (refine Aa rfl rfl rfl rfl rfl CW hR rfl (Fn _ _ _ _ _) ?_;intro w9 a4 ab))
     refine py (v := .agg (C4 u0 u1 v0 t o).toArray) (Ap rfl CW rfl a4) rfl ⟨u0,u1,v0,t,o,rfl,hE.grownR ab (lrf _),b6,ad,b7,ag,K.out⟩
theorem Own.upto(h:Own w base e a n c cs){k:Nat}(r:k<=n):Own w base e a k c (cs.take k):=by
 have s:=h.len;refine⟨by simp;omega,?_⟩;rcases h.2 with⟨b,h0⟩|⟨g,d,f,b,j,l,o,m,p,q⟩
 · subst h0;have i:k=0:=by omega
   subst i;simp only[pI]at b;exact Or.inl ⟨by rw[b.1,b.2.2],rfl⟩
 · simp only[pI]at b;refine Or.inr ⟨g,d,f,by rw[b.1,b.2.2],j,l,by omega,m,p,?_⟩;rw[<-q,x9];congr 1;omega
theorem Az.upto{k:IntKind}{w:World}{base:Nat}{e:TypeId}{g n c:Nat}{xs:List Nat}(h:Az k w base e g n c xs){m:Nat}(a:m<=n):Az k w base e g m c (xs.take m):=by
 have:=Own.upto h a;rw[<-pg]at this;exact this
def Yr(x y c:Nat)(w:World)(e:Ending)(w':World):Prop:=∃ l h:Nat,e = .returned (.tuple #[.int .u64 l,.int .u64 h])/\w=w'/\l<18446744073709551616/\h<18446744073709551616/\l+18446744073709551616*h=x*y+c
theorem Cg(r:x<18446744073709551616)(s:y<18446744073709551616)(t:c<18446744073709551616) :
 Calls prog 290 #[.int .u64 x,.int .u64 y,.int .u64 c] w (Yr x y c w):=by
 have p:=Jw r s;have hp:x*y<=18446744073709551615*18446744073709551615:=qK (by omega) (by omega);have i:Hid (x*y%18446744073709551616+18446744073709551616*(x*y/18446744073709551616)=x*y):=lz (sX _ _);have z:x*y%18446744073709551616<18446744073709551616:=qf _ (by omega);have v:x*y/18446744073709551616<=18446744073709551614:=by omega
 generalize x * y/18446744073709551616=d at *
 generalize x * y%18446744073709551616=a at *
 have k:∀ f:World,(callFunc 300 #[.int .u64 (a:Int),.int .u64 (c:Int),.int .u64 0]).run prog f = .ok (.value (.tuple #[.int .u64 (((a+c+0)%18446744073709551616:Nat):Int),.int .u64 (((a+c+0)/18446744073709551616:Nat):Int)])) f:=fun f=>Cz a c 0 (by omega) f;have j:Hid ((a+c+0)%18446744073709551616+18446744073709551616*((a+c+0)/18446744073709551616)=a+c):=lz (sX _ _);have q:(a+c+0)%18446744073709551616<18446744073709551616:=qf _ (by omega);have n:(a+c+0)/18446744073709551616<=1:=by omega
 generalize (a+c+0)%18446744073709551616=l at *
 generalize (a+c+0)/18446744073709551616=b at *
 have A:IntKind.u64.wrap ((d:Int)+(b:Int))=((d+b:Nat):Int):=Au (by omega) (by omega);have m:Hid (l+18446744073709551616*(d+b)=x*y+c):=by show _=_;have h1:=i.out;have h2:=j.out;omega
 have o:d+b<18446744073709551616:=by omega
 generalize d+b=g at *
 clear i j hp
 go_enter func290,ntmps290
 go_wp2_with fail
 refine(p _).mono ?_;rintro e B ⟨rfl,rfl⟩;go_wp2
 go_ret2
 exact⟨l,g,rfl,rfl,q,o,m.out⟩
theorem Hn{u v c1 c2 c1' c2':Nat}(a:k<zs.length)(g:k<xs.length)(i:k<ys.length)(h:W.val B (zs.take k)+u*W.val B (xs.take k)+c1*B^k=v*W.val B (ys.take k)+c2*B^k)(e:d+xs.getD k 0*u+c2+B*c1'=ys.getD k 0*v+c1+B*c2') :
 W.val B ((zs.set k d).take (k+1))+u*W.val B (xs.take (k+1))+c1'*B^(k+1)=v*W.val B (ys.take (k+1))+c2'*B^(k+1):=by
 have h1:=W.comb_step h e;have b:W.val B ((zs.set k d).take (k+1))=W.val B (zs.take k)+B^k*d:=by
  rw[W.val_take_succ (by simpa using a)];congr 1
  · rw[wE (lrf _)]
  · simp[a]
 rw[b,W.val_take_succ g,W.val_take_succ i,qB];have c:u*(W.val B (xs.take k)+B^k*xs.getD k 0)=u*W.val B (xs.take k)+B^k*(xs.getD k 0*u):=by grind
 have f:v*(W.val B (ys.take k)+B^k*ys.getD k 0)=v*W.val B (ys.take k)+B^k*(ys.getD k 0*v):=by grind
 rw[c,f];exact h1
theorem EN(h:zs.drop k=xs.drop k):(zs.set k d).drop (k+1)=xs.drop (k+1):=by
 rw[List.drop_set_of_lt (by omega),<-wP,<-wP,h]
theorem Fo(h:zs.drop k=xs.drop k):zs.getD k 0=xs.getD k 0:=by
 have:=q9 (fun l:List Nat=>l.getD 0 0) h;simpa using this
def YV(wb:World)(ga n ca gb cb p q:Nat)(e:Ending)(w':World):Prop :=
 e = .returned (.tuple #[])/\Ext wb w'/\∃ zs ts,Az .u64 w' wb.heap.size 238 ga n ca zs/\Az .u64 w' wb.heap.size 238 gb n cb ts/\W.bnd 18446744073709551616 zs/\W.bnd 18446744073709551616 ts/\W.val 18446744073709551616 zs=p/\W.val 18446744073709551616 ts=q
theorem Mv{g m ca cb u0 u1 V v1 p q:Nat}(aj:Ext wb w)(hx:Az .u64 w wb.heap.size 238 g n ca xs)(hy:Az .u64 w wb.heap.size 238 m n cb ys)(bL:g≠m)(bx:W.bnd 18446744073709551616 xs)(a1:W.bnd 18446744073709551616 ys)(vx:W.val 18446744073709551616 xs=x)(vy:W.val 18446744073709551616 ys=y)(bf:u0<18446744073709551616)(bg:u1<18446744073709551616)(bi:V<18446744073709551616)(bj:v1<18446744073709551616)(ap:W.Steps x y u0 u1 V v1 odd p q)(hn:n<=1000000) :
 Calls prog 241 #[.agg (C4 u0 u1 V v1 odd).toArray,.slice (some ⟨g,0,none⟩) n ca,.slice (some ⟨m,0,none⟩) n cb] w (YV wb g n ca m cb p q):=by
 have HX:=lz hx.len;have HY:=lz hy.len;have ai:=lz vx;have a0:=lz vy;have K:=lz ap;have BX:=lz bx;have BY:=lz a1;have bn:=hx.lt;have bp:=hy.lt;have ag:=hx.lo;have ah:=hy.lo;clear vx vy ap
 go_enter func241,ntmps241
 go_upto_region 1 with(fail)
 refine AP ?_;intro w1 R al bk;have ao:Arr w1 w.heap.size 268 (C4 u0 u1 V v1 odd):=al;have ar:=hx.ext R;have ax:=hy.ext R;have ak:=aj.trans R;generalize b6:w.heap.size=S at *
 clear al hx hy aj R bk b6;go_wp2
 go_loopw[6,7,8,9,10,11,21] (fun a6 a7 a8 a9 b4 b5 iv wr=>∃ (k cP cQ cR cT b f:Nat) (zs j:List Nat),a6 = .int .u64 cP/\a7 = .int .u64 cQ/\a8 = .int .u64 cR/\a9 = .int .u64 cT/\b4 = .int .u64 b/\b5 = .int .u64 f/\iv = .int .i64 k/\k<=n/\(cP<18446744073709551616/\cQ<18446744073709551616/\cR<18446744073709551616/\cT<18446744073709551616)/\b<=1/\f<=1/\Ext wb wr/\Arr wr S 268 (C4 u0 u1 V v1 odd)/\Az .u64 wr wb.heap.size 238 g n ca zs/\Az .u64 wr wb.heap.size 238 m n cb j/\W.bnd 18446744073709551616 zs/\W.bnd 18446744073709551616 j/\Hid (zs.drop k=xs.drop k)/\Hid (j.drop k=ys.drop k)/\Hid (if odd=true then W.val 18446744073709551616 (zs.take k)+V*W.val 18446744073709551616 (ys.take k)+cP*18446744073709551616^k=u0*W.val 18446744073709551616 (xs.take k)+(cQ+b)*18446744073709551616^k else W.val 18446744073709551616 (zs.take k)+u0*W.val 18446744073709551616 (xs.take k)+cQ*18446744073709551616^k=V*W.val 18446744073709551616 (ys.take k)+(cP+b)*18446744073709551616^k)/\Hid (if odd=true then W.val 18446744073709551616 (j.take k)+u1*W.val 18446744073709551616 (xs.take k)+cR*18446744073709551616^k=v1*W.val 18446744073709551616 (ys.take k)+(cT+f)*18446744073709551616^k else W.val 18446744073709551616 (j.take k)+v1*W.val 18446744073709551616 (ys.take k)+cT*18446744073709551616^k=u1*W.val 18446744073709551616 (xs.take k)+(cR+f)*18446744073709551616^k)) (fun _ _ _ _ _ _ iv _=>n-(intOf iv).toNat)
 case atStart=>exact⟨0,0,0,0,0,0,0,xs,ys,rfl,rfl,rfl,rfl,rfl,rfl,rfl,pE _,⟨by omega,by omega,by omega,by omega⟩,by omega,by omega,ak,ao,ar,ax,bx,a1,lz rfl,lz rfl,lz (by simp[W.val]),lz (by simp[W.val])⟩
 case round =>
  clear ak ao ar ax bx a1;obtain⟨k,cP,cQ,cR,cT,b,f,zs,j,rfl,rfl,rfl,rfl,rfl,rfl,rfl,hk,⟨b7,b8,b9,ba⟩,T,U,hE,hS,J,I,bz,bt,DZ,DT,H1,H2⟩:=hrel;have bl:S≠g:=by omega
  have bm:S≠m:=by omega
  by_cases a:k<n
  · have c1:=J.cell (i:=k) a;have c2:=I.cell (i:=k) a;have f1:=J.frozen k;have f2:=I.frozen k;have s0:=hS.c 0 rfl;have s1:=hS.c 1 rfl;have s2:=hS.c 2 rfl;have s3:=hS.c 3 rfl;have s4:=hS.c 4 rfl;have b1:=W.bnd_at bz (i:=k) (by rw[J.len];exact a);have b2:=W.bnd_at bt (i:=k) (by rw[I.len];exact a);have av:zs.getD k 0=xs.getD k 0:=Fo DZ.out;have ay:j.getD k 0=ys.getD k 0:=Fo DT.out;have L:=lz av;have M:=lz ay;clear av ay;generalize zs.getD k 0=xk at *
    generalize j.getD k 0=yk at *
    have bq:(k:Int)<n:=by omega
    go_wp2_with fail
    refine(Cg b1 bf b7).mono ?_;rintro e w2 ⟨r,N,rfl,rfl,bs,X,E⟩;have E1:=lz E;clear E
    go_wp2_with fail
    refine(Cg b2 bi b8).mono ?_;rintro e w2 ⟨s,O,rfl,rfl,bv,Y,E⟩;have E2:=lz E;clear E
    go_wp2_with fail
    refine(Cg b2 bj b9).mono ?_;rintro e w2 ⟨t,P,rfl,rfl,bG,Z,E⟩;have E3:=lz E;clear E
    go_wp2_with fail
    refine(Cg b1 bg ba).mono ?_;rintro e w2 ⟨z,Q,rfl,rfl,bK,ad,E⟩;have E4:=lz E;clear E;cases odd with
    | true =>
     have b0:=Df r s b T;have b3:=Df t z f U;have d1:=TM (x:=r) (y:=s) (c:=b) (by omega) (by omega) T;have d2:=TM (x:=t) (y:=z) (c:=f) (by omega) (by omega) U;have q1:(r+18446744073709551616-s-b)%18446744073709551616<18446744073709551616:=qf _ (by omega);have q2:(t+18446744073709551616-z-f)%18446744073709551616<18446744073709551616:=qf _ (by omega);have r1:=Ss (x:=r) (y:=s) (c:=b);have r2:=Ss (x:=t) (y:=z) (c:=f);generalize (r+18446744073709551616-s-b)%18446744073709551616=l at *
     generalize (t+18446744073709551616-z-f)%18446744073709551616=o at *
     generalize (if r<s+b then 1 else 0)=D at *
     generalize (if t<z+f then 1 else 0)=H at *
     have a2:=J.set k l;have a3:=(I.kept (Ar wr g k (.int .u64 (l:Int))) (by simp;omega)).set k o;have a4:=a2.kept (Ar (wr.setCell ⟨g,k,none⟩ (.int .u64 (l:Int))) m k (.int .u64 (o:Int))) (by simp;omega);have a5:=(hS.far (p:=⟨g,k,none⟩) (by show S≠g;omega) (.int .u64 (l:Int))).far (p:=⟨m,k,none⟩) (by show S≠m;omega) (.int .u64 (o:Int));have aa:=(hE.setCell (p:=⟨g,k,none⟩) ag (.int .u64 (l:Int))).setCell (p:=⟨m,k,none⟩) ah (.int .u64 (o:Int))
     have A:=lz (Hn (B:=18446744073709551616) (zs:=zs) (xs:=ys) (ys:=xs) (k:=k) (d:=l) (u:=V) (v:=u0) (c1:=cP) (c2:=cQ+b) (c1':=N) (c2':=O+D) (by rw[J.len];exact a) (by rw[HY.out];exact a) (by rw[HX.out];exact a) (by have:=H1.out;rw[pP rfl]at this;exact this) (by rw[<-L.out,<-M.out];have:=E1.out;have:=E2.out;omega))
     have C:=lz (Hn (B:=18446744073709551616) (zs:=j) (xs:=xs) (ys:=ys) (k:=k) (d:=o) (u:=u1) (v:=v1) (c1:=cR) (c2:=cT+f) (c1':=P) (c2':=Q+H) (by rw[I.len];exact a) (by rw[HX.out];exact a) (by rw[HY.out];exact a) (by have:=H2.out;rw[pP rfl]at this;exact this) (by rw[<-L.out,<-M.out];have:=E3.out;have:=E4.out;omega));clear d1 d2 E1 E2 E3 E4 H1 H2;go_wp2;go_roundw
     case rel=>exact⟨k+1,N,O,P,Q,D,H,zs.set k l,j.set k o,rfl,rfl,rfl,rfl,rfl,rfl,by go_num,by omega,⟨X,Y,Z,ad⟩,r1,r2,aa,a5,a4,a3,W.bnd_set bz q1,W.bnd_set bt q2,lz (EN DZ.out),lz (EN DT.out),lz (by first | exact A.out | (rw[pP rfl];exact A.out)),lz (by first | exact C.out | (rw[pP rfl];exact C.out))⟩
     case measure=>simp[intOf];omega
    | false =>
     have b0:=Df s r b T;have b3:=Df z t f U;have d1:=TM (x:=s) (y:=r) (c:=b) (by omega) (by omega) T;have d2:=TM (x:=z) (y:=t) (c:=f) (by omega) (by omega) U;have q1:(s+18446744073709551616-r-b)%18446744073709551616<18446744073709551616:=qf _ (by omega);have q2:(z+18446744073709551616-t-f)%18446744073709551616<18446744073709551616:=qf _ (by omega);have r1:=Ss (x:=s) (y:=r) (c:=b);have r2:=Ss (x:=z) (y:=t) (c:=f);generalize (s+18446744073709551616-r-b)%18446744073709551616=l at *
     generalize (z+18446744073709551616-t-f)%18446744073709551616=o at *
     generalize (if s<r+b then 1 else 0)=D at *
     generalize (if z<t+f then 1 else 0)=H at *
     have a2:=J.set k l;have a3:=(I.kept (Ar wr g k (.int .u64 (l:Int))) (by simp;omega)).set k o;have a4:=a2.kept (Ar (wr.setCell ⟨g,k,none⟩ (.int .u64 (l:Int))) m k (.int .u64 (o:Int))) (by simp;omega);have a5:=(hS.far (p:=⟨g,k,none⟩) (by show S≠g;omega) (.int .u64 (l:Int))).far (p:=⟨m,k,none⟩) (by show S≠m;omega) (.int .u64 (o:Int));have aa:=(hE.setCell (p:=⟨g,k,none⟩) ag (.int .u64 (l:Int))).setCell (p:=⟨m,k,none⟩) ah (.int .u64 (o:Int))
     have A:=lz (Hn (B:=18446744073709551616) (zs:=zs) (xs:=xs) (ys:=ys) (k:=k) (d:=l) (u:=u0) (v:=V) (c1:=cQ) (c2:=cP+b) (c1':=O) (c2':=N+D) (by rw[J.len];exact a) (by rw[HX.out];exact a) (by rw[HY.out];exact a) (by have:=H1.out;rw[pC (by simp)]at this;exact this) (by rw[<-L.out,<-M.out];have:=E1.out;have:=E2.out;omega))
     have C:=lz (Hn (B:=18446744073709551616) (zs:=j) (xs:=ys) (ys:=xs) (k:=k) (d:=o) (u:=v1) (v:=u1) (c1:=cT) (c2:=cR+f) (c1':=Q) (c2':=P+H) (by rw[I.len];exact a) (by rw[HY.out];exact a) (by rw[HX.out];exact a) (by have:=H2.out;rw[pC (by simp)]at this;exact this) (by rw[<-L.out,<-M.out];have:=E3.out;have:=E4.out;omega));clear d1 d2 E1 E2 E3 E4 H1 H2;go_wp2;go_roundw
     case rel=>exact⟨k+1,N,O,P,Q,D,H,zs.set k l,j.set k o,rfl,rfl,rfl,rfl,rfl,rfl,by go_num,by omega,⟨X,Y,Z,ad⟩,r1,r2,aa,a5,a4,a3,W.bnd_set bz q1,W.bnd_set bt q2,lz (EN DZ.out),lz (EN DT.out),lz (by first | exact A.out | (rw[pC (by simp)];exact A.out)),lz (by first | exact C.out | (rw[pC (by simp)];exact C.out))⟩
     case measure=>simp[intOf];omega
  · have ek:k=n:=by omega
    have aA:zs.take k=zs:=pu (by rw[J.len];omega);have aq:j.take k=j:=pu (by rw[I.len];omega);have ab:xs.take k=xs:=pu (by rw[HX.out];omega);have ac:ys.take k=ys:=pu (by rw[HY.out];omega);have h1:=H1.out;have h2:=H2.out;rw[aA,ab,ac,ai.out,a0.out,ek]at h1;rw[aq,ab,ac,ai.out,a0.out,ek]at h2;have l1:=W.val_lt bz;have l2:=W.val_lt bt;have l3:=W.val_lt BY.out;rw[J.len]at l1;rw[I.len]at l2;rw[HY.out,a0.out]at l3;have bb:=K.out.le;have bd:=K.out.lt;have F:=K.out.ep
    have G:=K.out.eq;have HF:Hid (W.val 18446744073709551616 zs=p/\W.val 18446744073709551616 j=q):=by
     show _/\_;cases odd with
     | true =>
      rw[pP rfl]at h1 h2 F G;exact⟨W.comb_end h1 F l1 (by omega),W.comb_end h2 G l2 (by omega)⟩
     | false =>
      rw[pC (by simp)]at h1 h2 F G;exact⟨W.comb_end h1 F l1 (by omega),W.comb_end h2 G l2 (by omega)⟩
    clear h1 h2 F G l1 l2 l3 aA aq ab ac ek bb bd;go_wp2
    go_end0
    exact⟨rfl,hE,zs,j,J,I,bz,bt,HF.out.1,HF.out.2⟩
theorem Iv(i:SlN .u64 w a n c xs)(e:SlN .u64 w b m d ys)(j:Num 18446744073709551616 xs x)(f:Num 18446744073709551616 ys y)(p:n<=100000)(h0:0<y) :
 Calls prog 289 #[.slice a n c,.slice b m d] w (Cv a .u64 18446744073709551616 w (x/y) (x%y)):=by
 by_cases g:x<y
 · exact Fm i e j f g
 · have l:=e.len;rcases qx m 2 with h2|h2
   · have o:m=1:=by
      rcases pT m with h|h
      · subst h;have:ys=[]:=pG l;have k:=f.val;rw[this]at k;simp only[W.val]at k;omega
      · omega
     subst o;exact Fy i e j f (by omega) (by omega) h0
   · exact Fz i e j f p (by omega) (mm:=m-2) (by omega)
theorem CF(t:SlN .u64 w a n c xs)(v:SlN .u64 w b m d ys)(z:Num 18446744073709551616 xs x)(A:Num 18446744073709551616 ys y)(s:n<=100000)(D:m<=100000)(h0:0<y)(C:m<80\/n<m+80) :
 Calls prog 240 #[.slice a n c,.slice b m d] w (Cv a .u64 18446744073709551616 w (x/y) (x%y)):=by
 have r:=Iv t v z A s h0;have q:=lz r;clear r;have E:IntKind.i64.wrap ((n:Int)-m)=(n:Int)-m:=pq _ (by omega);by_cases h1:m<80
 · have h2:¬ ((80:Int)<=(m:Int)):=by omega
   go_enter func240,ntmps240
   go_wp2_with fail
   refine q.out.mono ?_;rintro e B ⟨i,o,k,f,j,p,l,g,rfl,h⟩;have H:=lz h;clear h;go_wp2
   go_ret2
   exact⟨i,o,k,f,j,p,l,g,rfl,H.out⟩
 · have h2:(80:Int)<=(m:Int):=by omega
   have h3:¬ ((80:Int)<=(n:Int)-m):=by omega
   go_enter func240,ntmps240
   go_wp2_with fail
   refine q.out.mono ?_;rintro e B ⟨i,o,k,f,j,p,l,g,rfl,h⟩;have H:=lz h;clear h;go_wp2
   go_ret2
   exact⟨i,o,k,f,j,p,l,g,rfl,H.out⟩
theorem DD(i:SlN .u64 w a n c xs)(j:SlN .u64 w b m d ys)(k:Num 18446744073709551616 xs x)(l:Num 18446744073709551616 ys y)(g:n<=100000)(f:m<=100000)(h0:0<y)(e:m<80\/n<m+80) :
 Calls prog 240 #[.slice a n c,.slice b m d] w (O0 .u64 18446744073709551616 w (x/y) (x%y)) :=
 (CF i j k l g f h0 e).mono fun _ _ h=>h.q
def Uw(w:World)(n:Nat)(xs:List Nat)(e:Ending)(w':World):Prop:=∃ a' c',e = .returned (.slice a' n c')/\Ext w w'/\Own w' w.heap.size 238 a' n c' (xs.map (BL .u64))
theorem CP(i:SlN .u64 w a n c xs)(y:n<=1000000) :
 Calls prog 238 #[.slice a n c] w (Uw w n xs):=by
 rcases pT n with h0|h0
 · subst h0;have j:xs=[]:=pG i.len;subst j;have v:=fun m:World=>Lib.run_eql_slice_nil (P:=prog) m 81 238 a 0 c 0 0 underlying81;cases a with
   | none =>
    go_enter func238,ntmps238
    go_wp2;go_ret;exact⟨none,0,rfl,Ext.refl w,Own.nil _ _ _⟩
   | some p =>
    go_enter func238,ntmps238
    go_upto_region 3 with(fail)
    have l:Ext w (w.alloc (.cells #[] 238)):=(Ext.refl w).alloc _;have b:=AB w w.heap.size 238 #[] 0 rfl (lrf _) (by omega)
    go_wp2_with(refine B5 (news:=[]) rfl rfl underlying81 AK rfl rfl b rfl (i.ext l) (by simp) (by unfold maxLen;omega) (by omega) (by simp) ?_;intro o r z d f t)
    go_ret;exact⟨o,r,rfl,l.grown f (fun k x=>(b.lt x).1),d⟩
 · refine(Ul i y h0).mono ?_;rintro e m ⟨g,q,rfl,s,b⟩;exact⟨_,q,rfl,s,b⟩
structure IW(w wr:World)(N G:Nat)(aa:Option Addr)(na ca:Nat)(ab:Option Addr)(nb cb X Y:Nat)(xs ys:List Nat):Prop where
 ext:Ext w wr
 own1:Own wr w.heap.size 238 aa na ca (xs.map (BL .u64))
 own2:Own wr w.heap.size 238 ab nb cb (ys.map (BL .u64))
 ne:0<nb->blk aa≠blk ab
 n1:Num 18446744073709551616 xs X
 n2:Num 18446744073709551616 ys Y
 le:Y<=X
 pos:0<X
 gcd:Nat.gcd X Y=G
 bnd:X<18446744073709551616^N
theorem DL(h:Num 18446744073709551616 xs X)(a:X<18446744073709551616^N):xs.length<=N :=
 W.nrm_len (B:=18446744073709551616) (by omega) h.nrm (by rw[h.val];exact a)
theorem RC(h:Num 18446744073709551616 xs X)(hp:0<X):0<xs.length:=by
 rcases pT xs.length with h0|h0
 · have:xs=[]:=pG h0;have a:=h.val;rw[this]at a;simp only[W.val]at a;omega
 · exact h0
theorem EO(h:Num 18446744073709551616 xs X)(hp:xs.length=0):X=0:=by
 have:xs=[]:=pG hp;have a:=h.val;rw[this]at a;exact a.symm
theorem Nr(h:Num 18446744073709551616 xs X)(hp:xs.length=1):xs.getD 0 0=X/\X<18446744073709551616/\0<X:=by
 match xs,hp with
 | [u],_ =>
  have a:=h.val;have b:=h.bnd u (by simp);have c:=h.nrm (by simp);simp[W.val]at a c;subst a;exact⟨rfl,b,by omega⟩
theorem Je(hT:AM w)(hx:SlN .u64 w a n c xs)(hy:SlN .u64 w b m d ys)(nx:Num 18446744073709551616 xs x)(ny:Num 18446744073709551616 ys y)(hn:n<=150)(hm:m<=150)(ds:y<=x) :
 Calls prog 204 #[.slice a n c,.slice b m d] w (Hy .u64 18446744073709551616 w (Nat.gcd x y)):=by
 have b9:=lz (Bl hx hy nx ny);have HX:=lz hx.len;have HY:=lz hy.len;have NX:=lz nx;have NY:=lz ny;have b7:x<18446744073709551616^n:=by have:=W.val_lt nx.bnd;rw[nx.val,hx.len]at this;exact this
 have HB:=lz b7;have ap:y<=x:=by omega
 have HC:Hid (¬ AZ (x:Int) (y:Int)<0):=lz (by rw[Dw];omega);clear b7 nx ny
 go_enter func204,ntmps204
 go_wp2_with fail
 refine b9.out.mono ?_;rintro e w0 ⟨rfl,R⟩;have hc:=HC.out;generalize AZ (x:Int) (y:Int)=cv at *
 have dj:(0:Int)<=cv:=by omega
 have ak:=hx.ext R.ext;have bl:=hy.ext R.ext;have D:=R.ext;clear HC b9 R;by_cases A:m=0
 · have ay:y=0:=EO NY.out (by rw[HY.out];exact A);have f:Hid (Nat.gcd x y=x):=by show _=_;rw[ay];exact tS _
   have ck:((m:Int) == 0)=true:=by simp[A]
   clear ay A;go_wp2;go_ret;exact⟨a,n,c,xs,rfl,D,ak,by rw[f.out];exact NX.out⟩
 have ck:((m:Int) == 0)=false:=by simpa using A
 have d2:0<y:=by
  rcases pT y with h|h
  · exfalso;have h1:W.val 18446744073709551616 ys=0:=by rw[NY.out.val,h]
    have h2:=(W.nrm_zero (B:=18446744073709551616) (by omega) NY.out.nrm).1 h1;have h3:=HY.out;rw[h2]at h3;exact A h3.symm
  · exact h
 clear A
 go_wp2_with fail
 refine(CP ak (by omega)).mono ?_;rintro e w1 ⟨a1,c1,rfl,Q,a5⟩
 go_wp2_with fail
 refine(CP (bl.ext Q) (by omega)).mono ?_;rintro e w2 ⟨a2,c2,rfl,a3,a8⟩;have I:IW w w2 n (Nat.gcd x y) a1 n c1 a2 m c2 x y xs ys:=by
  refine⟨(D.trans Q).trans a3,(a5.mono D.size).ext a3,a8.mono (D.trans Q).size,fun h0 he => ?_,NX.out,NY.out,ap,by omega,rfl,HB.out⟩;obtain⟨g2,rfl,dl,_⟩:=a8.place h0;have:=(a5.lt (k:=g2) (by rw[he];rfl)).2;omega
 have f:=lz I;clear I a5 a8 Q a3 ak bl D;go_wp2
 go_loopg [5,6] (x+y) (fun gk av bv wr=>∃ (aa C:Option Addr) (o K i O X Y:Nat) (us M:List Nat),av = .slice aa o K/\bv = .slice C i O/\o<=150/\i<=o/\X+Y<=gk/\Hid (IW w wr n (Nat.gcd x y) aa o K C i O X Y us M))
 case atStart =>
  refine⟨a1,a2,n,c1,m,c2,x,y,xs,ys,rfl,rfl,by omega,?_,lrf _,f⟩;have h1:=DL NY.out (pJ ap HB.out);rw[HY.out]at h1;exact h1
 case round =>
  clear f;obtain⟨aa,C,o,K,i,O,X,Y,us,M,rfl,rfl,dx,cn,dt,f⟩:=hrel;have HU:Hid (us.length=o):=lz (by have:=f.out.own1.len;simpa using this);have HV:Hid (M.length=i):=lz (by have:=f.out.own2.len;simpa using this);have cd:=f.out.pos;have T:=f.out.le;have aq:0<o:=by have:=RC f.out.n1 cd;rw[HU.out]at this;exact this
  have H:SlN .u64 wr aa o K us:=f.out.own1.sl;have U:SlN .u64 wr C i O M:=f.out.own2.sl;obtain⟨L,rfl,d5,bn⟩:=f.out.own1.place aq;by_cases h1:i<=1
  · by_cases h0:i=0
    · have b5:Y=0:=EO f.out.n2 (by rw[HV.out];exact h0);have HF:Hid (Num 18446744073709551616 us (Nat.gcd x y)):=by
       have h2:=f.out.gcd;rw[b5,tS]at h2;have h3:=f.out.n1;rw[h2]at h3;exact lz h3
      have P:=f.out.ext;subst h0;clear b5 h1;go_wp2;go_ret;exact⟨_,o,K,us,rfl,P,H,HF.out⟩
    · have h11:i=1:=by omega
      subst h11;obtain⟨k1,k2,k3⟩:=Nr f.out.n2 HV.out;obtain⟨b2,o2,rfl,F⟩:=U.at (j:=0) (by omega);have g1:=F 0 (by omega);rw[k1,qy]at g1;have HF:Hid (Nat.gcd Y (X%Y)=Nat.gcd x y):=by
       show _=_;rw[<-f.out.gcd,sd X Y,wD Y X,sd]
      have P:=f.out.ext;have c9:=hT.ext P;have ch:Nat.gcd Y (X%Y)<18446744073709551616:=by have:=tR k3 (sZ Y (X%Y));omega
      have cs:=fun(r:World) (h:Ext wr r)=>Eo (d:=Y) (H.ext h) f.out.n1.bnd f.out.n1.val k2 k3 (by omega);clear F h1 h0 k1;have bq:X%Y<18446744073709551616:=by have:=qf X k3;omega
      go_wp2
      refine B0
       [hdS (some ⟨b2,o2,none⟩) 1 O,hdP b2 o2,he (.int .u64 (Y:Int)),hdS (some ⟨L,0,none⟩) o K,hdS (some ⟨b2,o2,none⟩) 1 O,hdP b2 o2,he (.int .u64 (Y:Int)),hp (fun v r=>v = .int .u64 ((X%Y:Nat):Int)),hp (fun v r=>v = .int .u64 ((Nat.gcd Y (X%Y):Nat):Int)),hp (fun v r=>∃ a' n' c' V,v = .slice a' n' c'/\SlN .u64 r a' n' c' V/\Num 18446744073709551616 V (Nat.gcd Y (X%Y)))]
       ⟨fun v w w' e h=>h,fun v w w' e h=>h,fun v w w' e ⟨a',n',c',V,h1,h2,h3⟩=>⟨a',n',c',V,h1,h2.ext e,h3⟩,trivial⟩ ⟨?o0,?o1,?o2,?o3,?o4,?o5,?o6,?o7,?o8,?o9,trivial⟩ ?fin
      case o0 | o3 | o4=>exact Iw rfl (.inl rfl) (fun _ _ _ h=>h.1)
      case o1 | o2 | o5 | o6 =>
       refine Aj rfl fun ρ r Z G h => ?_
       try have e0:_=_:=h.1
       try have e1:_=_:=h.2.1
       try have e2:_=_:=h.2.2.1
       have dq:=Z.cell g1;go_simp
       try (first | (intros;omega) | exact pq _ (by omega))
      case o7 =>
       refine Ag rfl fun ρ r Z G bd h => ?_;have e1:_=_:=h.2.1;have e2:_=_:=h.2.2.1;refine⟨243,#[.slice (some ⟨L,0,none⟩) o K,.int .u64 (Y:Int)],by go_simp,(cs r Z).mono ?_⟩;rintro e w' ⟨rfl,c5⟩;exact⟨_,rfl,c5.ext,rfl⟩
      case o8 =>
       refine Ag rfl fun ρ r Z G bd h => ?_;have e1:_=_:=h.2.1;obtain⟨v2,e2,rfl⟩:=h.2.2.1;refine⟨242,#[.int .u64 (Y:Int),.int .u64 ((X%Y:Nat):Int)],by go_simp,(IV (c9.ext Z) k2 bq).mono ?_⟩;rintro e w' ⟨rfl,rfl⟩;exact⟨_,rfl,Ext.refl _,rfl⟩
      case o9 =>
       refine Ag rfl fun ρ r Z G bd h => ?_;obtain⟨v1,e1,rfl⟩:=h.2.1;refine⟨217,#[.int .u64 ((Nat.gcd Y (X%Y):Nat):Int)],by go_simp,(DJ ch).mono ?_⟩;rintro e w' ⟨a',n',c',V,rfl,bR,ct,cl⟩;exact⟨_,rfl,bR,a',n',c',V,rfl,ct,cl⟩
      case fin =>
       intro r Z;rintro _ rfl;rintro _ rfl;rintro _ ⟨bK,cQ,bL,d1,rfl,cT,d0⟩;change wpList _ _ _ _ _ _;simp only[Ci];go_wp2;go_ret;exact⟨bK,cQ,bL,d1,rfl,P.trans Z,cT,by rw[<-HF.out];exact d0⟩
  · have ce:(1:Int)<i:=by omega
    obtain⟨gb,rfl,d8,bo⟩:=f.out.own2.place (by omega);have dy:L≠gb:=by have:=f.out.ne (by omega);simpa[blk]using this
    have P:=f.out.ext
    go_wp2_with fail
    refine(Hm H U f.out.n1 f.out.n2 (by omega) T (nn:=o-2) (by omega)).mono ?_;rintro e w3 ⟨u0,u1,v0,v1,bm,rfl,E,cx,cy,cz,cA,I⟩;have b0:=lz I;clear I
    go_upto_region 8 with(refine Aa rfl rfl rfl rfl rfl CW (Arr.new _ _ _) rfl (Fn _ _ _ _ _) ?_;intro w4 a9 bf)
    have b1:Ext w3 w4:=((Ext.refl w3).alloc _).grownR bf (lrf _);have g:=E.trans b1;have o1:=f.out.own1.ext g;have o2:=f.out.own2.ext g;have s2:=a9.c 2 rfl;by_cases J:v0=0
    · subst J;have z:0<Y:=by
       rcases pT Y with h|h
       · exfalso;have h2:=(W.nrm_zero (B:=18446744073709551616) (by omega) f.out.n2.nrm).1 (by rw[f.out.n2.val,h]);have h3:=HV.out;rw[h2]at h3;simp at h3;omega
       · exact h
      have ba:=DD (H.ext g) (U.ext g) f.out.n1 f.out.n2 (by omega) (by omega) z (by omega)
      go_wp2_with fail
      refine ba.mono ?_;rintro e w5 ⟨p1,p2,p3,p4,ar,nr,cr,rs,rfl,t,_,_,ah,al,_⟩;have dA:nr<=150:=by
       have h1:=DL al (vP (qf X z) (pJ T f.out.bnd));rw[ah.len]at h1;omega
      have cq:nr<=i:=by
       have h1:=W.val_lt f.out.n2.bnd;rw[f.out.n2.val,HV.out]at h1;have h2:=DL al (vP (qf X z) h1);rw[ah.len]at h2;exact h2
      clear ba
      go_wp2_with fail
      refine(CP ah (by omega)).mono ?_;rintro e w6 ⟨a6,c6,rfl,bW,b3⟩;have ao:=(g.trans t).trans bW;have a0:Hid (IW w w6 n (Nat.gcd x y) (some ⟨gb,0,none⟩) i O a6 nr c6 Y (X%Y) M rs):=by
       refine lz ⟨P.trans ao,f.out.own2.ext ao,b3.mono ((P.trans g).trans t).size,fun h0 he => ?_,f.out.n2,al,sI (qf X z),z,?_,pJ T f.out.bnd⟩
       · obtain⟨g6,rfl,dn,_⟩:=b3.place h0;simp only[blk,qU,pz]at he;have:=g.size;have:=t.size;omega
       · rw[<-f.out.gcd,sd X Y,wD Y X,sd]
      have dw:Y+X%Y<X+Y:=by have:=qf X z;omega
      go_wp2
      go_roundg (Y+X%Y)
      case rel=>exact⟨_,a6,i,O,nr,c6,Y,X%Y,M,rs,rfl,rfl,by omega,cq,lrf _,a0⟩
      case measure=>omega
    · have dc:((v0:Int) == 0)=false:=by simpa using J
      have bG:∃ p q,W.Steps X Y u0 u1 v0 v1 bm p q:=by
       rcases b0.out with h|h
       · exact absurd h J
       · exact h
      obtain⟨p,q,bj⟩:=bG;have N:=lz bj;clear bj b0;have d9:gb<w3.heap.size:=pS bo E.size;have d7:L<w3.heap.size:=pS bn E.size;have de:w.heap.size<=w3.heap.size:=(P.trans E).size;have t:=P.trans g;clear H U ce b1 bf g E;generalize w3.heap.size=S at *
      go_wp2;clear s2;obtain⟨wo,cP⟩:∃ wo:World,wo=wr:=⟨_,rfl⟩;subst cP
      go_loopw[6] (fun bv r=>∃ (C:Option Addr) (s cc:Nat),bv = .slice C s cc/\i<=s/\s<=o/\Ext w r/\Own r w.heap.size 238 (some ⟨L,0,none⟩) o K (us.map (BL .u64))/\Own r w.heap.size 238 C s cc ((M ++ List.replicate (s-i) 0).map (BL .u64))/\blk C≠some L/\Arr r S 268 (C4 u0 u1 v0 v1 bm)/\blk C≠some S) (fun bv _=>match bv with | .slice _ k _=>o-k | _=>0)
      case atStart=>exact⟨_,i,O,rfl,lrf _,cn,t,o1,by rw[ro,wF,rD];exact o2,by simp[blk];omega,a9,by simp[blk];omega⟩
      case round =>
       clear o1 o2 a9 t;obtain⟨C,s,cc,rfl,da,db,a4,o1,o2,ad,l,b8⟩:=hrel;by_cases dv:s<o
       · have hA:=o2.alloc (.cells #[.int .u64 0] 238);have hL:=(AB wr w.heap.size 238 #[.int .u64 0] 1 rfl a4.size (by omega)).sl;have cg:∀ k,blk C=some k->w.heap.size<=k:=fun k hk=>(o2.lt hk).1;have d6:=(o1.lt (k:=L) rfl).2;have dd:=l.lt
         go_wp2_with(refine B5 rfl rfl underlying81 AK rfl rfl hA rfl hL (by simp[Value.oneCell']) (by unfold maxLen;omega) (by omega) (by simp;omega) ?_;intro a7 c7 w7 b4 ag ac)
         have c0:Ext w w7:=(a4.alloc _).grown ag cg;have cR:=(o1.alloc (.cells #[.int .u64 0] 238)).kept ag (Or.inr (fun h=>ad h.symm));have c8:=(l.alloc (.cells #[.int .u64 0] 238)).kept ag (fun h=>b8 h.symm);have bs:blk a7≠some L:=by
          rcases ac with h|h
          · rw[h];exact ad
          · rw[h];simp;omega
         have bx:blk a7≠some S:=by
          rcases ac with h|h
          · rw[h];exact b8
          · rw[h];simp;omega
         have c4:Own w7 w.heap.size 238 a7 (s+1) c7 ((M ++ List.replicate (s+1-i) 0).map (BL .u64)):=by
          have e1:s+1-i=s-i+1:=by omega
          rw[e1,tY,<-qi,qw];exact b4
         clear b4 hA hL ac;go_roundw
         case rel=>exact⟨a7,s+1,c7,rfl,by omega,by omega,c0,cR,c4,bs,c8,bx⟩
         case measure=>simp;omega
       · have bN:s=o:=by omega
         subst bN;obtain⟨g2,rfl,d3,d4⟩:=o2.place aq;have ax:L≠g2:=by intro h;subst h;exact ad rfl
         have vb:W.val 18446744073709551616 (M ++ List.replicate (s-i) 0)=Y:=by rw[He,f.out.n2.val]
         have bb:W.bnd 18446744073709551616 (M ++ List.replicate (s-i) 0):=Jy (by omega) f.out.n2.bnd _;have b6:=Mv a4 o1 o2 ax f.out.n1.bnd bb f.out.n1.val vb cx cy cz cA N.out (by omega);have aA:=lz b6;clear b6 vb bb;have s0:=l.c 0 rfl;have s1:=l.c 1 rfl;have s2:=l.c 2 rfl;have s3:=l.c 3 rfl;have s4:=l.c 4 rfl
         go_wp2_with fail
         refine aA.out.mono ?_;rintro e w8 ⟨rfl,c3,V,ts,oz,ot,bz,bt,vz,vt⟩;clear s0 s1 s2 s3 s4 l aA
         go_wp2_with fail
         refine(Bq oz.sl).mono ?_;rintro e w9 ⟨m1,rfl,rfl,bg,ai⟩
         go_wp2_with fail
         refine(Bq ot.sl).mono ?_;rintro e w9 ⟨m2,rfl,rfl,bi,aj⟩;obtain⟨t1,t2⟩:=BE oz.sl bg ai bz vz;obtain⟨t3,t4⟩:=BE ot.sl bi aj bt vt;have o3:=oz.upto bg;have o4:=ot.upto bi;rw[<-ai]at o3;rw[<-aj]at o4;have bk:=N.out.lt;have co:=N.out.le;have cp:p<18446744073709551616^n:=pJ (pD co T) f.out.bnd;have bp:m2<=m1:=by
          have h1:=W.val_lt t2.bnd;rw[t2.val,t1.len]at h1;have h2:=DL t4 (vP bk h1);rw[t3.len]at h2;exact h2
         have a0:Hid (IW w w8 n (Nat.gcd x y) (some ⟨L,0,none⟩) m1 K (some ⟨g2,0,none⟩) m2 cc p q (W.trim V) (W.trim ts)) :=
          lz ⟨c3,o3,o4,fun _=>by simpa[blk]using ax,t2,t4,sI bk,by omega,by rw[N.out.gcd,f.out.gcd],cp⟩
         clear ai aj t1 t2 t3 t4 o3 o4 oz ot bz bt vz vt o1 o2;go_wp2
         go_roundg (p+q)
         case rel=>exact⟨_,_,m1,K,m2,cc,p,q,W.trim V,W.trim ts,rfl,rfl,by omega,bp,lrf _,a0⟩
         case measure=>omega
theorem Jf(hT:AM w)(hx:SlN .u64 w a n c xs)(hy:SlN .u64 w b m d ys)(nx:Num 18446744073709551616 xs x)(ny:Num 18446744073709551616 ys y)(hn:n<=150)(hm:m<=150)(ds:x<y) :
 Calls prog 204 #[.slice a n c,.slice b m d] w (Hy .u64 18446744073709551616 w (Nat.gcd x y)):=by
 have b9:=lz (Bl hx hy nx ny);have HX:=lz hy.len;have HY:=lz hx.len;have NX:=lz ny;have NY:=lz nx;have b7:y<18446744073709551616^m:=by have:=W.val_lt ny.bnd;rw[ny.val,hy.len]at this;exact this
 have HB:=lz b7;have ap:x<=y:=by omega
 have HC:Hid (AZ (x:Int) (y:Int)<0):=lz (by rw[Dw];omega);clear b7 nx ny
 go_enter func204,ntmps204
 go_wp2_with fail
 refine b9.out.mono ?_;rintro e w0 ⟨rfl,R⟩;have hc:=HC.out;generalize AZ (x:Int) (y:Int)=cv at *
 have dj:cv<0:=by omega
 have ak:=hy.ext R.ext;have bl:=hx.ext R.ext;have D:=R.ext;clear HC b9 R;by_cases A:n=0
 · have ay:x=0:=EO NY.out (by rw[HY.out];exact A);have f:Hid (Nat.gcd x y=y):=by show _=_;rw[ay];exact Nat.gcd_zero_left _
   have ck:((n:Int) == 0)=true:=by simp[A]
   clear ay A;go_wp2;go_ret;exact⟨b,m,d,ys,rfl,D,ak,by rw[f.out];exact NX.out⟩
 have ck:((n:Int) == 0)=false:=by simpa using A
 have d2:0<x:=by
  rcases pT x with h|h
  · exfalso;have h1:W.val 18446744073709551616 xs=0:=by rw[NY.out.val,h]
    have h2:=(W.nrm_zero (B:=18446744073709551616) (by omega) NY.out.nrm).1 h1;have h3:=HY.out;rw[h2]at h3;exact A h3.symm
  · exact h
 clear A
 go_wp2_with fail
 refine(CP ak (by omega)).mono ?_;rintro e w1 ⟨a1,c1,rfl,Q,a5⟩
 go_wp2_with fail
 refine(CP (bl.ext Q) (by omega)).mono ?_;rintro e w2 ⟨a2,c2,rfl,a3,a8⟩;have I:IW w w2 m (Nat.gcd x y) a1 m c1 a2 n c2 y x ys xs:=by
  refine⟨(D.trans Q).trans a3,(a5.mono D.size).ext a3,a8.mono (D.trans Q).size,fun h0 he => ?_,NX.out,NY.out,ap,by omega,sd _ _,HB.out⟩;obtain⟨g2,rfl,dl,_⟩:=a8.place h0;have:=(a5.lt (k:=g2) (by rw[he];rfl)).2;omega
 have f:=lz I;clear I a5 a8 Q a3 ak bl D;go_wp2
 go_loopg [5,6] (y+x) (fun gk av bv wr=>∃ (aa C:Option Addr) (o K i O X Y:Nat) (us M:List Nat),av = .slice aa o K/\bv = .slice C i O/\o<=150/\i<=o/\X+Y<=gk/\Hid (IW w wr m (Nat.gcd x y) aa o K C i O X Y us M))
 case atStart =>
  refine⟨a1,a2,m,c1,n,c2,y,x,ys,xs,rfl,rfl,by omega,?_,lrf _,f⟩;have h1:=DL NY.out (pJ ap HB.out);rw[HY.out]at h1;exact h1
 case round =>
  clear f;obtain⟨aa,C,o,K,i,O,X,Y,us,M,rfl,rfl,dx,cn,dt,f⟩:=hrel;have HU:Hid (us.length=o):=lz (by have:=f.out.own1.len;simpa using this);have HV:Hid (M.length=i):=lz (by have:=f.out.own2.len;simpa using this);have cd:=f.out.pos;have T:=f.out.le;have aq:0<o:=by have:=RC f.out.n1 cd;rw[HU.out]at this;exact this
  have H:SlN .u64 wr aa o K us:=f.out.own1.sl;have U:SlN .u64 wr C i O M:=f.out.own2.sl;obtain⟨L,rfl,d5,bn⟩:=f.out.own1.place aq;by_cases h1:i<=1
  · by_cases h0:i=0
    · have b5:Y=0:=EO f.out.n2 (by rw[HV.out];exact h0);have HF:Hid (Num 18446744073709551616 us (Nat.gcd x y)):=by
       have h2:=f.out.gcd;rw[b5,tS]at h2;have h3:=f.out.n1;rw[h2]at h3;exact lz h3
      have P:=f.out.ext;subst h0;clear b5 h1;go_wp2;go_ret;exact⟨_,o,K,us,rfl,P,H,HF.out⟩
    · have h11:i=1:=by omega
      subst h11;obtain⟨k1,k2,k3⟩:=Nr f.out.n2 HV.out;obtain⟨b2,o2,rfl,F⟩:=U.at (j:=0) (by omega);have g1:=F 0 (by omega);rw[k1,qy]at g1;have HF:Hid (Nat.gcd Y (X%Y)=Nat.gcd x y):=by
       show _=_;rw[<-f.out.gcd,sd X Y,wD Y X,sd]
      have P:=f.out.ext;have c9:=hT.ext P;have ch:Nat.gcd Y (X%Y)<18446744073709551616:=by have:=tR k3 (sZ Y (X%Y));omega
      have cs:=fun(r:World) (h:Ext wr r)=>Eo (d:=Y) (H.ext h) f.out.n1.bnd f.out.n1.val k2 k3 (by omega);clear F h1 h0 k1;have bq:X%Y<18446744073709551616:=by have:=qf X k3;omega
      go_wp2
      refine B0
       [hdS (some ⟨b2,o2,none⟩) 1 O,hdP b2 o2,he (.int .u64 (Y:Int)),hdS (some ⟨L,0,none⟩) o K,hdS (some ⟨b2,o2,none⟩) 1 O,hdP b2 o2,he (.int .u64 (Y:Int)),hp (fun v r=>v = .int .u64 ((X%Y:Nat):Int)),hp (fun v r=>v = .int .u64 ((Nat.gcd Y (X%Y):Nat):Int)),hp (fun v r=>∃ a' n' c' V,v = .slice a' n' c'/\SlN .u64 r a' n' c' V/\Num 18446744073709551616 V (Nat.gcd Y (X%Y)))]
       ⟨fun v w w' e h=>h,fun v w w' e h=>h,fun v w w' e ⟨a',n',c',V,h1,h2,h3⟩=>⟨a',n',c',V,h1,h2.ext e,h3⟩,trivial⟩ ⟨?o0,?o1,?o2,?o3,?o4,?o5,?o6,?o7,?o8,?o9,trivial⟩ ?fin
      case o0 | o3 | o4=>exact Iw rfl (.inl rfl) (fun _ _ _ h=>h.1)
      case o1 | o2 | o5 | o6 =>
       refine Aj rfl fun ρ r Z G h => ?_
       try have e0:_=_:=h.1
       try have e1:_=_:=h.2.1
       try have e2:_=_:=h.2.2.1
       have dq:=Z.cell g1;go_simp
       try (first | (intros;omega) | exact pq _ (by omega))
      case o7 =>
       refine Ag rfl fun ρ r Z G bd h => ?_;have e1:_=_:=h.2.1;have e2:_=_:=h.2.2.1;refine⟨243,#[.slice (some ⟨L,0,none⟩) o K,.int .u64 (Y:Int)],by go_simp,(cs r Z).mono ?_⟩;rintro e w' ⟨rfl,c5⟩;exact⟨_,rfl,c5.ext,rfl⟩
      case o8 =>
       refine Ag rfl fun ρ r Z G bd h => ?_;have e1:_=_:=h.2.1;obtain⟨v2,e2,rfl⟩:=h.2.2.1;refine⟨242,#[.int .u64 (Y:Int),.int .u64 ((X%Y:Nat):Int)],by go_simp,(IV (c9.ext Z) k2 bq).mono ?_⟩;rintro e w' ⟨rfl,rfl⟩;exact⟨_,rfl,Ext.refl _,rfl⟩
      case o9 =>
       refine Ag rfl fun ρ r Z G bd h => ?_;obtain⟨v1,e1,rfl⟩:=h.2.1;refine⟨217,#[.int .u64 ((Nat.gcd Y (X%Y):Nat):Int)],by go_simp,(DJ ch).mono ?_⟩;rintro e w' ⟨a',n',c',V,rfl,bR,ct,cl⟩;exact⟨_,rfl,bR,a',n',c',V,rfl,ct,cl⟩
      case fin =>
       intro r Z;rintro _ rfl;rintro _ rfl;rintro _ ⟨bK,cQ,bL,d1,rfl,cT,d0⟩;change wpList _ _ _ _ _ _;simp only[Ci];go_wp2;go_ret;exact⟨bK,cQ,bL,d1,rfl,P.trans Z,cT,by rw[<-HF.out];exact d0⟩
  · have ce:(1:Int)<i:=by omega
    obtain⟨gb,rfl,d8,bo⟩:=f.out.own2.place (by omega);have dy:L≠gb:=by have:=f.out.ne (by omega);simpa[blk]using this
    have P:=f.out.ext
    go_wp2_with fail
    refine(Hm H U f.out.n1 f.out.n2 (by omega) T (nn:=o-2) (by omega)).mono ?_;rintro e w3 ⟨u0,u1,v0,v1,bm,rfl,E,cx,cy,cz,cA,I⟩;have b0:=lz I;clear I
    go_upto_region 8 with(refine Aa rfl rfl rfl rfl rfl CW (Arr.new _ _ _) rfl (Fn _ _ _ _ _) ?_;intro w4 a9 bf)
    have b1:Ext w3 w4:=((Ext.refl w3).alloc _).grownR bf (lrf _);have g:=E.trans b1;have o1:=f.out.own1.ext g;have o2:=f.out.own2.ext g;have s2:=a9.c 2 rfl;by_cases J:v0=0
    · subst J;have z:0<Y:=by
       rcases pT Y with h|h
       · exfalso;have h2:=(W.nrm_zero (B:=18446744073709551616) (by omega) f.out.n2.nrm).1 (by rw[f.out.n2.val,h]);have h3:=HV.out;rw[h2]at h3;simp at h3;omega
       · exact h
      have ba:=DD (H.ext g) (U.ext g) f.out.n1 f.out.n2 (by omega) (by omega) z (by omega)
      go_wp2_with fail
      refine ba.mono ?_;rintro e w5 ⟨p1,p2,p3,p4,ar,nr,cr,rs,rfl,t,_,_,ah,al,_⟩;have dA:nr<=150:=by
       have h1:=DL al (vP (qf X z) (pJ T f.out.bnd));rw[ah.len]at h1;omega
      have cq:nr<=i:=by
       have h1:=W.val_lt f.out.n2.bnd;rw[f.out.n2.val,HV.out]at h1;have h2:=DL al (vP (qf X z) h1);rw[ah.len]at h2;exact h2
      clear ba
      go_wp2_with fail
      refine(CP ah (by omega)).mono ?_;rintro e w6 ⟨a6,c6,rfl,bW,b3⟩;have ao:=(g.trans t).trans bW;have a0:Hid (IW w w6 m (Nat.gcd x y) (some ⟨gb,0,none⟩) i O a6 nr c6 Y (X%Y) M rs):=by
       refine lz ⟨P.trans ao,f.out.own2.ext ao,b3.mono ((P.trans g).trans t).size,fun h0 he => ?_,f.out.n2,al,sI (qf X z),z,?_,pJ T f.out.bnd⟩
       · obtain⟨g6,rfl,dn,_⟩:=b3.place h0;simp only[blk,qU,pz]at he;have:=g.size;have:=t.size;omega
       · rw[<-f.out.gcd,sd X Y,wD Y X,sd]
      have dw:Y+X%Y<X+Y:=by have:=qf X z;omega
      go_wp2
      go_roundg (Y+X%Y)
      case rel=>exact⟨_,a6,i,O,nr,c6,Y,X%Y,M,rs,rfl,rfl,by omega,cq,lrf _,a0⟩
      case measure=>omega
    · have dc:((v0:Int) == 0)=false:=by simpa using J
      have bG:∃ p q,W.Steps X Y u0 u1 v0 v1 bm p q:=by
       rcases b0.out with h|h
       · exact absurd h J
       · exact h
      obtain⟨p,q,bj⟩:=bG;have N:=lz bj;clear bj b0;have d9:gb<w3.heap.size:=pS bo E.size;have d7:L<w3.heap.size:=pS bn E.size;have de:w.heap.size<=w3.heap.size:=(P.trans E).size;have t:=P.trans g;clear H U ce b1 bf g E;generalize w3.heap.size=S at *
      go_wp2;clear s2;obtain⟨wo,cP⟩:∃ wo:World,wo=wr:=⟨_,rfl⟩;subst cP
      go_loopw[6] (fun bv r=>∃ (C:Option Addr) (s cc:Nat),bv = .slice C s cc/\i<=s/\s<=o/\Ext w r/\Own r w.heap.size 238 (some ⟨L,0,none⟩) o K (us.map (BL .u64))/\Own r w.heap.size 238 C s cc ((M ++ List.replicate (s-i) 0).map (BL .u64))/\blk C≠some L/\Arr r S 268 (C4 u0 u1 v0 v1 bm)/\blk C≠some S) (fun bv _=>match bv with | .slice _ k _=>o-k | _=>0)
      case atStart=>exact⟨_,i,O,rfl,lrf _,cn,t,o1,by rw[ro,wF,rD];exact o2,by simp[blk];omega,a9,by simp[blk];omega⟩
      case round =>
       clear o1 o2 a9 t;obtain⟨C,s,cc,rfl,da,db,a4,o1,o2,ad,l,b8⟩:=hrel;by_cases dv:s<o
       · have hA:=o2.alloc (.cells #[.int .u64 0] 238);have hL:=(AB wr w.heap.size 238 #[.int .u64 0] 1 rfl a4.size (by omega)).sl;have cg:∀ k,blk C=some k->w.heap.size<=k:=fun k hk=>(o2.lt hk).1;have d6:=(o1.lt (k:=L) rfl).2;have dd:=l.lt
         go_wp2_with(refine B5 rfl rfl underlying81 AK rfl rfl hA rfl hL (by simp[Value.oneCell']) (by unfold maxLen;omega) (by omega) (by simp;omega) ?_;intro a7 c7 w7 b4 ag ac)
         have c0:Ext w w7:=(a4.alloc _).grown ag cg;have cR:=(o1.alloc (.cells #[.int .u64 0] 238)).kept ag (Or.inr (fun h=>ad h.symm));have c8:=(l.alloc (.cells #[.int .u64 0] 238)).kept ag (fun h=>b8 h.symm);have bs:blk a7≠some L:=by
          rcases ac with h|h
          · rw[h];exact ad
          · rw[h];simp;omega
         have bx:blk a7≠some S:=by
          rcases ac with h|h
          · rw[h];exact b8
          · rw[h];simp;omega
         have c4:Own w7 w.heap.size 238 a7 (s+1) c7 ((M ++ List.replicate (s+1-i) 0).map (BL .u64)):=by
          have e1:s+1-i=s-i+1:=by omega
          rw[e1,tY,<-qi,qw];exact b4
         clear b4 hA hL ac;go_roundw
         case rel=>exact⟨a7,s+1,c7,rfl,by omega,by omega,c0,cR,c4,bs,c8,bx⟩
         case measure=>simp;omega
       · have bN:s=o:=by omega
         subst bN;obtain⟨g2,rfl,d3,d4⟩:=o2.place aq;have ax:L≠g2:=by intro h;subst h;exact ad rfl
         have vb:W.val 18446744073709551616 (M ++ List.replicate (s-i) 0)=Y:=by rw[He,f.out.n2.val]
         have bb:W.bnd 18446744073709551616 (M ++ List.replicate (s-i) 0):=Jy (by omega) f.out.n2.bnd _;have b6:=Mv a4 o1 o2 ax f.out.n1.bnd bb f.out.n1.val vb cx cy cz cA N.out (by omega);have aA:=lz b6;clear b6 vb bb;have s0:=l.c 0 rfl;have s1:=l.c 1 rfl;have s2:=l.c 2 rfl;have s3:=l.c 3 rfl;have s4:=l.c 4 rfl
         go_wp2_with fail
         refine aA.out.mono ?_;rintro e w8 ⟨rfl,c3,V,ts,oz,ot,bz,bt,vz,vt⟩;clear s0 s1 s2 s3 s4 l aA
         go_wp2_with fail
         refine(Bq oz.sl).mono ?_;rintro e w9 ⟨m1,rfl,rfl,bg,ai⟩
         go_wp2_with fail
         refine(Bq ot.sl).mono ?_;rintro e w9 ⟨m2,rfl,rfl,bi,aj⟩;obtain⟨t1,t2⟩:=BE oz.sl bg ai bz vz;obtain⟨t3,t4⟩:=BE ot.sl bi aj bt vt;have o3:=oz.upto bg;have o4:=ot.upto bi;rw[<-ai]at o3;rw[<-aj]at o4;have bk:=N.out.lt;have co:=N.out.le;have cp:p<18446744073709551616^m:=pJ (pD co T) f.out.bnd;have bp:m2<=m1:=by
          have h1:=W.val_lt t2.bnd;rw[t2.val,t1.len]at h1;have h2:=DL t4 (vP bk h1);rw[t3.len]at h2;exact h2
         have a0:Hid (IW w w8 m (Nat.gcd x y) (some ⟨L,0,none⟩) m1 K (some ⟨g2,0,none⟩) m2 cc p q (W.trim V) (W.trim ts)) :=
          lz ⟨c3,o3,o4,fun _=>by simpa[blk]using ax,t2,t4,sI bk,by omega,by rw[N.out.gcd,f.out.gcd],cp⟩
         clear ai aj t1 t2 t3 t4 o3 o4 oz ot bz bt vz vt o1 o2;go_wp2
         go_roundg (p+q)
         case rel=>exact⟨_,_,m1,K,m2,cc,p,q,W.trim V,W.trim ts,rfl,rfl,by omega,bp,lrf _,a0⟩
         case measure=>omega
theorem Ns(e:AM w)(i:SlN .u64 w a n c xs)(j:SlN .u64 w b m d ys)(k:Num 18446744073709551616 xs x)(l:Num 18446744073709551616 ys y)(g:n<=150)(f:m<=150) :
 Calls prog 204 #[.slice a n c,.slice b m d] w (Hy .u64 18446744073709551616 w (Nat.gcd x y)):=by
 by_cases h:x<y
 · exact Jf e i j k l g f h
 · exact Je e i j k l g f (by omega)
def Uy(P:Program)(T:TypeId):Bool:=match P.underlying T with
 | none | some (.struct _) | some (.array _ _)=>false
 | _=>true
def Xz(P:Program)(T:TypeId)(k:Nat):Option Nat:=match P.underlying T with
 | some (.struct fs)=>(fs[k]?).bind fun f=>(match (P.info? f.type).map (·.size)with | some (_+1)=>some f.offset | _=>none)
 | _=>none
section
variable {P:Program} {w:World}
theorem Wa(a:Uy P T=true)(c:w.cell? p=some v):(Instr.loadAt T (.pointer (some p))).run P w = .ok v w:=by
 unfold Uy at a;cases h:P.underlying T with
 | none=>rw[h]at a;cases a
 | some d =>
  rw[h]at a;have b:(isAgg T).run P w = .ok false w:=by
   simp only[isAgg,q8,qF h,pK];cases d <;> first | rfl | cases a
  simp[Instr.loadAt,Instr.sureAddr,loadVar,b,c]
theorem RD{b:Nat}(e:Agg P T cs.length)(f:∀ j v,cs[j]?=some v->w.cell? ⟨b,off+j,none⟩=some v):(Instr.loadAt T (.pointer (some ⟨b,off,none⟩))).run P w = .ok (.agg cs.toArray) w:=by
 obtain⟨d,hu,g,a⟩:=e.parts;have h1:(isAgg T).run P w = .ok true w:=by
  simp only[isAgg,q8,qF hu,pK];cases d <;> first | rfl | exact absurd g (by simp)
 obtain⟨i,c,l⟩:∃ i,P.info? T=some i/\i.size=cs.length:=by
  cases h:P.info? T with
  | none=>rw[h]at a;cases a
  | some i=>rw[h]at a;exact⟨i,rfl,by simpa using a⟩
 have h2:=run_loadCells_list (P:=P) w ⟨b,off,none⟩ cs (fun j v k=>by
  have:=f j v k;unfold Addr.add;split
  · rename_i h0;rw[h0,qy]at this;exact this
  · exact this)
 simp[Instr.loadAt,Instr.sureAddr,loadVar,h1,sizeOf,typeInfo,c,l,h2]
theorem XA{b:Nat}(h:Xz P T k=some d):(Instr.fieldAt T (.pointer (some ⟨b,off,none⟩)) k).run P w = .ok (.pointer (some ⟨b,off+d,none⟩)) w:=by
 unfold Xz at h;split at h
 · rename_i j hu;cases c:j[k]? with
   | none=>rw[c]at h;cases h
   | some f =>
    rw[c]at h;simp only[tr]at h;split at h
    · rename_i n a;cases h;obtain⟨i,g,l⟩:∃ i,P.info? f.type=some i/\i.size=n+1:=by
       cases h:P.info? f.type with
       | none=>rw[h]at a;cases a
       | some i=>rw[h]at a;exact⟨i,rfl,by simpa using a⟩
      have e:(⟨b,off,none⟩:Addr).add f.offset=⟨b,off+f.offset,none⟩:=by
       unfold Addr.add;split
       · rename_i h0;rw[h0,qy]
       · rfl
      simp[Instr.fieldAt,qF hu,c,Instr.sureAddr,fieldPlace,sizeOf,typeInfo,g,l,e]
    · cases h
 · cases h
end
section
variable {P:Program} {ops:Array Oper} {hs:List Hd} {a0:Act} {W:World} {i:Nat} {o:Oper}
theorem ol{t:Tmp}(f:Cr hs o=some true:=by rfl)(b:o.op = .load T (.tmp t):=by rfl)(g:∀ a w,Ln ops hs a0 o a w (.tmp t)->a (.tmp t) = .pointer (some p):=by exact fun _ _=>id)(d:Uy P T=true:=by kernel_rfl)(e:W.cell? p=some v:=by assumption):obl P (fun j=>Ext W j) ops hs a0 i o (he v) :=
 BN f fun a w hp c h=>by
  rw[b]at h;simp only[execOp,b,g a w h.1,q8,Wa d (c.cell e),pK,qz]
theorem ol2{t:Tmp}{b:Nat}(k:Cr hs o=some true:=by rfl)(e:o.op = .load T (.tmp t):=by rfl)(l:∀ c w,Ln ops hs a0 o c w (.tmp t)->c (.tmp t) = .pointer (some ⟨b,off,none⟩):=by exact fun _ _=>id)(f:Agg P T 2:=by exact⟨by kernel_rfl,by kernel_rfl⟩)(h0:W.cell? ⟨b,off,none⟩=some u:=by assumption)(h1:W.cell? ⟨b,off+1,none⟩=some v:=by assumption):obl P (fun m=>Ext W m) ops hs a0 i o (he (.agg #[u,v])) :=
 BN k fun c w hp d h=>by
  rw[e]at h
  have g:(Instr.loadAt T (.pointer (some ⟨b,off,none⟩))).run P w = .ok (.agg [u,v].toArray) w:=RD (cs:=[u,v]) f (fun j x a=>by
   match j,a with
   | 0,a=>cases a;exact d.cell h0
   | 1,a=>cases a;exact d.cell h1
   | j+2,a=>simp at a)
  simp only[execOp,e,l c w h.1,q8,g,pK,qz]
theorem ol4{t:Tmp}{b:Nat}{x y:Value}(k:Cr hs o=some true:=by rfl)(e:o.op = .load T (.tmp t):=by rfl)(l:∀ d w,Ln ops hs a0 o d w (.tmp t)->d (.tmp t) = .pointer (some ⟨b,off,none⟩):=by exact fun _ _=>id)(f:Agg P T 4:=by exact⟨by kernel_rfl,by kernel_rfl⟩)(h0:W.cell? ⟨b,off,none⟩=some u:=by assumption)(h1:W.cell? ⟨b,off+1,none⟩=some v:=by assumption)(h2:W.cell? ⟨b,off+2,none⟩=some x:=by assumption)(h3:W.cell? ⟨b,off+3,none⟩=some y:=by assumption):obl P (fun m=>Ext W m) ops hs a0 i o (he (.agg #[u,v,x,y])) :=
 BN k fun d w hp c h=>by
  rw[e]at h
  have g:(Instr.loadAt T (.pointer (some ⟨b,off,none⟩))).run P w = .ok (.agg [u,v,x,y].toArray) w:=RD (cs:=[u,v,x,y]) f (fun j z a=>by
   match j,a with
   | 0,a=>cases a;exact c.cell h0
   | 1,a=>cases a;exact c.cell h1
   | 2,a=>cases a;exact c.cell h2
   | 3,a=>cases a;exact c.cell h3
   | j+4,a=>simp at a)
  simp only[execOp,e,l d w h.1,q8,g,pK,qz]
theorem ofa{t:Tmp}{b:Nat}(g:Cr hs o=some true:=by rfl)(c:o.op = .fieldAddr T (.tmp t) k:=by rfl)(j:∀ a w,Ln ops hs a0 o a w (.tmp t)->a (.tmp t) = .pointer (some ⟨b,off,none⟩):=by exact fun _ _=>id)(e:Xz P T k=some d:=by kernel_rfl)(f:q=⟨b,off+d,none⟩:=by rfl){C:World->Prop}:obl P C ops hs a0 i o (he (.pointer (some q))) :=
 BN g fun a w hp l h=>by
  rw[c]at h;simp only[execOp,c,j a w h.1,q8,XA e,pK,qz,f]
theorem omv{t:Tmp}{c:Value}(d:Cr hs o=some true:=by rfl)(b:o.op = .move (.tmp t):=by rfl)(e:∀ a w,Ln ops hs a0 o a w (.tmp t)->a (.tmp t)=c:=by exact fun _ _=>id){C:World->Prop}:obl P C ops hs a0 i o (he c) :=
 Iw d (.inl b) fun a w _ h=>e a w h.1
theorem oas{t:Tmp}{c:Value}(d:Cr hs o=some true:=by rfl)(b:o.op = .assign (.tmp t):=by rfl)(e:∀ a w,Ln ops hs a0 o a w (.tmp t)->a (.tmp t)=c:=by exact fun _ _=>id){C:World->Prop}:obl P C ops hs a0 i o (he c) :=
 Iw d (.inr b) fun a w _ h=>e a w h.1
end
def P2(b:Nat):Nat:=2^b
theorem KW(b:Nat):0<P2 b:=qr b
theorem Bw(a b:Nat):P2 (a+b)=P2 a*P2 b:=sG 2 a b
theorem Hq{a b:Nat}(h:a<=b):P2 a<=P2 b:=pR (by omega) h
theorem O6(k:Nat):P2 (64*k)=18446744073709551616^k:=by unfold P2;rw[vM]
theorem BJ{a b:Nat}(c:x<P2 a)(d:y<P2 b):x*y<P2 (a+b):=by
 rw[Bw];exact Nat.mul_lt_mul'' c d
theorem KX{a:Nat}(b:x<P2 a)(c:y<P2 a):x+y<P2 (a+1):=by
 rw[Bw];show x+y<P2 a*2;omega
theorem Af{a b:Nat}(c:x<P2 a)(h:a<=b):x<P2 b:=pS c (Hq h)
theorem Ai:Agg prog 83 2:=⟨by kernel_rfl,by kernel_rfl⟩
theorem qh{p:Prop}(h:p):Hid p:=lz h
def Ac(neg:Bool)(a:Option Addr)(n c:Nat):List Value:=[.bool neg,.slice a n c]
theorem Ae(neg:Bool)(a:Option Addr)(n c:Nat):∀ v∈Ac neg a n c,v.oneCell'=true:=by
 intro v b;simp only[Ac,qj,rI,vQ]at b;rcases b with rfl|rfl <;> rfl
def Wd(w:World)(a:Option Addr)(n c:Nat)(x:Nat):Prop:=∃ xs,SlN .u64 w a n c xs/\Num 18446744073709551616 xs x
theorem Wd.ext{w b:World}{a:Option Addr}{n c x:Nat}(h:Wd w a n c x)(e:Ext w b):Wd b a n c x:=by
 obtain⟨d,h1,h2⟩:=h;exact⟨d,h1.ext e,h2⟩
theorem Wd.len{w:World}{a:Option Addr}{n c x:Nat}(h:Wd w a n c x){k:Nat}(b:x<P2 (64*k)):n<=k:=by
 obtain⟨d,h1,h2⟩:=h;rw[O6]at b;have:=DL h2 b;rw[h1.len]at this;exact this
theorem Wd.nil(w:World):Wd w none 0 0 0:=⟨[],SlN.nil _ _,Num.nil _⟩
theorem Wd.zero(h:Wd w a n c x):n=0<->x=0:=by
 obtain⟨b,h1,h2⟩:=h;constructor
 · intro h0;exact EO h2 (by rw[h1.len];exact h0)
 · intro h0;have h3:=(W.nrm_zero (B:=18446744073709551616) (by omega) h2.nrm).1 (by rw[h2.val,h0]);rw[<-h1.len,h3];rfl
theorem Wd.one(h:Wd w a 1 c x):∃ b o,a=some ⟨b,o,none⟩/\w.cell? ⟨b,o,none⟩=some (.int .u64 (x:Int))/\x<18446744073709551616/\0<x:=by
 obtain⟨i,h1,h2⟩:=h;obtain⟨e,f,g⟩:=Nr h2 h1.len;obtain⟨b,o,rfl,d⟩:=h1.at (j:=0) (by omega);have:=d 0 (by omega);rw[e,qy]at this;exact⟨b,o,rfl,this,f,g⟩
theorem Wd.big(h:Wd w a n c x)(e:2<=n):18446744073709551616<=x:=by
 obtain⟨d,h1,h2⟩:=h;have b:d≠[]:=by intro h;have:=h1.len;rw[h]at this;simp at this;omega
 have:=W.nrm_pos (B:=18446744073709551616) (by omega) h2.nrm b;rw[h1.len,h2.val]at this;have h3:18446744073709551616^1<=18446744073709551616^(n-1):=pR (by omega) (by omega);omega
def Lu(w:World)(x:Nat)(e:Ending)(w':World):Prop:=∃ a n c,e = .returned (.slice a n c)/\Ext w w'/\Wd w' a n c x
theorem Hy.wd{e:Ending}(h:Hy .u64 18446744073709551616 w x e w'):Lu w x e w':=by
 obtain⟨a,n,c,b,h1,h2,h3,h4⟩:=h;exact⟨a,n,c,h1,h2,b,h3,h4⟩
theorem WE(j:AM w)(f:Wd w a n c x)(g:Wd w b m d y)(i:x<P2 9600)(e:y<P2 9600) :
 Calls prog 204 #[.slice a n c,.slice b m d] w (Lu w (Nat.gcd x y)):=by
 have h1:=f.len (k:=150) i;have h2:=g.len (k:=150) e;obtain⟨l,h3,h4⟩:=f;obtain⟨o,h5,h6⟩:=g;exact(Ns j h3 h5 h4 h6 h1 h2).mono fun _ _ h=>h.wd
def AF(w:World)(v:Value)(z:Int):Prop:=∃ s a n c,v = .agg (Ac s a n c).toArray/\Hid (decide (z<0)=s)/\Wd w a n c z.natAbs
theorem AF.ext{w b:World}{v:Value}{z:Int}(h:AF w v z)(e:Ext w b):AF b v z:=by
 obtain⟨s,a,n,c,h1,d,h2⟩:=h;exact⟨s,a,n,c,h1,d,h2.ext e⟩
def EP(w:World)(z:Int)(e:Ending)(w':World):Prop:=∃ s a n c,e = .returned (.agg (Ac s a n c).toArray)/\Ext w w'/\Hid (decide (z<0)=s)/\Wd w' a n c z.natAbs
theorem EP.r{e:Ending}(h:EP w z e w'):∃ v,e = .returned v/\Ext w w'/\AF w' v z:=by
 obtain⟨s,a,n,c,h1,h2,h3,h4⟩:=h;exact⟨_,h1,h2,s,a,n,c,rfl,h3,h4⟩
theorem Wd.kept{w f:World}{a:Option Addr}{n c x R:Nat}{t:TypeId}{cs:List Value}(h:Wd w a n c x)(e:Arr w R t cs)(d:∀ v∈cs,∀ i,v ≠ .int .u64 i)(k:w.grownBy f (some R)):Wd f a n c x:=by
 obtain⟨l,h1,h2⟩:=h;refine⟨l,?_,h2⟩;rcases pT n with h0|h0
 · subst h0;exact⟨Sl.len h1,Sl.cap h1,Sl.max h1,fun h=>absurd h (wu _)⟩
 · refine h1.kept k (Or.inr fun he => ?_);obtain⟨b,o,rfl,g⟩:=h1.at (j:=0) h0;simp only[blk,qU,pz]at he;subst he;have h3:=g 0 h0;have h4:w.cell? ⟨b,o+0,none⟩=cs[o+0]?:=by
    unfold Arr at e;simp[World.cell?,e]
   rw[h4]at h3;exact d _ (ql h3) _ rfl
theorem Ax(s:Bool)(a:Option Addr)(n c:Nat):∀ v∈Ac s a n c,∀ i,v ≠ .int .u64 i:=by
 intro v b i;simp only[Ac,qj,rI,vQ]at b;rcases b with rfl|rfl <;> simp
theorem XB{S:Nat->Prop}(o:Wd w a n c x)(p:Wd w b m d y)(B:x<P2 9600)(r:y<P2 9600)(E:x<P2 2496\/y<P2 2496)(h1:0<n->∀ g,blk a=some g->S g)(h2:0<m->∀ g,blk b=some g->S g) :
 Calls prog 222 #[.slice a n c,.slice b m d] w fun e q=>∃ f i j,e = .returned (.slice f i j)/\Ext w q/\Wd q f i j (x*y)/\Hg w.heap.size S f i:=by
 have J:=o.len (k:=150) B;have K:=p.len (k:=150) r;have G:=o.zero;have H:=p.zero;have h0:n<40\/m<40:=by
  rcases E with h|h
  · left;have:=o.len (k:=39) h;omega
  · right;have:=p.len (k:=39) h;omega
 obtain⟨L,h3,h4⟩:=o;obtain⟨M,h5,h6⟩:=p;refine(Ec h3 h5 h4 h6 (by omega) (by omega) h0).mono ?_;rintro e q ⟨f,i,j,A,rfl,C,v,z,l⟩;refine⟨f,i,j,rfl,C,⟨A,v,z⟩,fun I g D => ?_⟩;have F:Wd q f i j (x*y):=⟨A,v,z⟩;have hp:¬ x*y=0:=fun h=>by have:=F.zero.2 h;omega
 have s:0<n:=by
  rcases pT n with h|h
  · exact absurd (by rw[G.1 h,r7]) hp
  · exact h
 have t:0<m:=by
  rcases pT m with h|h
  · exact absurd (by rw[H.1 h,tQ]) hp
  · exact h
 rcases l g D with h|h|h
 · exact Or.inl h
 · exact Or.inr (h1 s g h)
 · exact Or.inr (h2 t g h)
def Ys(w:World)(a:Option Addr)(n c:Nat)(z:Int)(e:Ending)(w':World):Prop:=∃ s,e = .returned (.agg (Ac s a n c).toArray)/\Ext w w'/\Hid (decide (z<0)=s)/\Wd w' a n c z.natAbs
theorem FV(k:Wd w a n c x){z:Int}(i:z=if neg=true then -(x:Int)else x) :
 Calls prog 203 #[.bool neg,.slice a n c] w (Ys w a n c z):=by
 have g:=k.zero;have m:Hid (z.natAbs=x):=by show _=_;rw[i];split <;> omega
 cases neg with
 | true =>
  have j:Hid (decide (z<0)=decide (0<n)):=by show _=_;rw[i,pP rfl];apply rV.2;omega
  clear g i
  go_enter func203,ntmps203
  go_upto_region 1 with(fail)
  refine AP ?_;intro o b e l
  go_wp2_with(refine Aa (vs:=Ac _ a n c) rfl rfl rfl rfl rfl Ai e rfl (Ae _ _ _ _) ?_;intro p f d)
  refine py (v := .agg (Ac (decide (0<n)) a n c).toArray) (Ap rfl Ai rfl f) rfl ⟨_,rfl,b.grownR d (lrf _),j,by rw[m.out];exact k.ext (b.grownR d (lrf _))⟩
 | false =>
  have j:Hid (decide (z<0)=false):=by show _=_;rw[i,pC (by simp)];simp
  clear g i
  go_enter func203,ntmps203
  go_upto_region 1 with(fail)
  refine AP ?_;intro o b e l
  go_wp2_with(refine Aa (vs:=Ac _ a n c) rfl rfl rfl rfl rfl Ai e rfl (Ae _ _ _ _) ?_;intro p f d)
  refine py (v := .agg (Ac false a n c).toArray) (Ap rfl Ai rfl f) rfl ⟨_,rfl,b.grownR d (lrf _),j,by rw[m.out];exact k.ext (b.grownR d (lrf _))⟩
theorem BR(b:Wd w a n c x){z:Int}(d:z=if neg=true then -(x:Int)else x) :
 Calls prog 203 #[.bool neg,.slice a n c] w (EP w z) :=
 (FV b d).mono fun _ _ ⟨s,h1,h2,h3,h4⟩=>⟨s,a,n,c,h1,h2,h3,h4⟩
theorem Yu(f:Wd w a n c x)(g:Wd w b m d y)(i:x<P2 9600)(e:y<P2 9600) :
 Calls prog 255 #[.slice a n c,.slice b m d] w (Lu w (x+y)):=by
 have h1:=f.len (k:=150) i;have h2:=g.len (k:=150) e;obtain⟨j,h3,h4⟩:=f;obtain⟨l,h5,h6⟩:=g;exact(Nk h3 h5 h4 h6 (by omega) (by omega)).mono fun _ _ h=>h.wd
theorem WF(f:Wd w a n c x)(i:Wd w b m d y)(g:x<P2 9600)(e:y<=x) :
 Calls prog 256 #[.slice a n c,.slice b m d] w (Lu w (x-y)):=by
 have h1:=f.len (k:=150) g;obtain⟨j,h3,h4⟩:=f;obtain⟨l,h5,h6⟩:=i;exact(Hf h3 h5 h4 h6 (by omega) e).mono fun _ _ h=>h.wd
theorem WG(f:Wd w a n c x)(g:Wd w b m d y) :
 Calls prog 232 #[.slice a n c,.slice b m d] w fun e i=>e = .returned (.int .i64 (AZ x y))/\Qt w i:=by
 obtain⟨j,h3,h4⟩:=f;obtain⟨k,h5,h6⟩:=g;exact Bl h3 h5 h4 h6
def Yv(w:World)(q r:Nat)(e:Ending)(w':World):Prop:=∃ a n c a' n' c',e = .returned (.tuple #[.slice a n c,.slice a' n' c'])/\Ext w w'/\Wd w' a n c q/\Wd w' a' n' c' r/\Hg w.heap.size (fun _=>False) a n
theorem WH(l:Wd w a n c x)(o:Wd w b m d y)(r:x<P2 9600)(g:y<P2 9600)(h0:0<y) :
 Calls prog 240 #[.slice a n c,.slice b m d] w (Yv w (x/y) (x%y)):=by
 have h1:=l.len (k:=150) r;have h2:=o.len (k:=150) g;obtain⟨F,h3,h4⟩:=l;obtain⟨G,h5,h6⟩:=o;refine(DD h3 h5 h4 h6 (by omega) (by omega) h0 (by omega)).mono ?_;rintro e E ⟨p,B,s,i,q,C,t,j,rfl,v,s1,z,D,A,f⟩;exact⟨p,B,s,q,C,t,rfl,v,⟨i,s1,z⟩,⟨j,D,A⟩,f⟩
def KZ(w:World)(S:Nat->Prop)(z:Int)(e:Ending)(w':World):Prop:=∃ s a n c,e = .returned (.agg (Ac s a n c).toArray)/\Ext w w'/\Hid (decide (z<0)=s)/\Wd w' a n c z.natAbs/\Hg w.heap.size S a n
theorem KZ.plain{S:Nat->Prop}{e:Ending}(h:KZ w S z e w'):EP w z e w':=by
 obtain⟨s,a,n,c,h1,h2,h3,h4,_⟩:=h;exact⟨s,a,n,c,h1,h2,h3,h4⟩
def Ix(S:Nat->Prop)(v:Value):Prop:=∀ s a n c,v = .agg (Ac s a n c).toArray->0<n->∀ g,blk a=some g->S g
theorem Ix.at{S:Nat->Prop}(h:Ix S (.agg (Ac s a n c).toArray)):0<n->∀ g,blk a=some g->S g:=h s a n c rfl
theorem WI(a:x<18446744073709551616):Calls prog 217 #[.int .u64 x] w (Lu w x):=(DJ a).mono fun _ _ h=>h.wd
theorem FX{S:Nat->Prop}(f:Ext w w1)(g:Arr w1 R t cs)(b:∀ v∈cs,∀ i,v ≠ .int .u64 i)(d:w1.grownBy w9 (some R))(k:w.heap.size<=R)(e:Hid (decide (z<0)=s))(l:Wd w1 a n c z.natAbs)(j:Hg w.heap.size S a n):KZ w S z (.returned (.agg (Ac s a n c).toArray)) w9 :=
 ⟨s,a,n,c,rfl,f.grownR d k,e,l.kept g b d,j⟩
theorem BA(f:Ext w w1)(g:Arr w1 R t cs)(b:∀ v∈cs,∀ i,v ≠ .int .u64 i)(d:w1.grownBy w9 (some R))(j:w.heap.size<=R)(e:Hid (decide (z<0)=s))(k:Wd w1 a n c z.natAbs):EP w z (.returned (.agg (Ac s a n c).toArray)) w9 :=
 ⟨s,a,n,c,rfl,f.grownR d j,e,k.kept g b d⟩
theorem Wb(h:AF w v z):Calls prog 140 #[v] w (EP w (-z)):=by
 obtain⟨s,a,n,c,rfl,q,y⟩:=h
 go_enter func140,ntmps140
 go_upto_region 1 with(fail)
 refine Cf ?_;intro D d b j p;have B:=b.c 0 rfl;have C:=b.c 1 rfl;have m:=qh (BR (neg := !s) (y.ext d) (z := -z) (by rw[<-q.out];by_cases h:z<0 <;> simp[h] <;> omega));have x:Arr D (w.heap.size+1) 83 (Ac false none 0 0):=j;clear p
 go_wp2_with fail
 refine m.out.mono ?_;rintro e E ⟨s1,r,A,t,rfl,f,i,o⟩;have g:=x.ext f
 go_wp2_with(refine Aa (vs:=Ac s1 r A t) rfl rfl rfl rfl rfl Ai g rfl (Ae _ _ _ _) ?_;intro F k l)
 exact py (Ap rfl Ai rfl k) rfl (BA (d.trans f) g (Ax _ _ _ _) l (by omega) i o)
theorem AA(h:AF w v z){r:Bool}(f:decide (z=0)=r):Calls prog 162 #[v] w fun e m=>e = .returned (.bool r)/\Ext w m:=by
 obtain⟨s,a,n,c,rfl,o,i⟩:=h;have g:((n:Int) == 0)=r:=by
  have:=i.zero;rw[<-f,Bool.eq_iff_iff];simp;omega
 clear f
 go_enter func162,ntmps162
 go_upto_region 1 with(fail)
 refine AP ?_;intro p d b j;have k:=b.c 0 rfl;have l:=b.c 1 rfl;go_wp2;go_ret;exact⟨rfl,d⟩
theorem UB(h:AF w v z){r:Int}(g:z.sign=r):Calls prog 198 #[v] w fun e y=>e = .returned (.int .i64 r)/\Ext w y:=by
 obtain⟨s,a,n,c,rfl,o,x⟩:=h;have f:=x.zero;by_cases h0:z=0
 · have q:n=0:=f.2 (by omega);have i:Hid (r=0):=by show _=_;rw[<-g,h0];rfl
   subst q;clear g h0 f
   go_enter func198,ntmps198
   go_upto_region 1 with(fail)
   refine AP ?_;intro p d b j;have k:=b.c 0 rfl;have l:=b.c 1 rfl;go_wp2;go_ret;exact⟨by rw[i.out];rfl,d⟩
 · have t:((n:Int) == 0)=false:=by
    have:n≠0:=fun h=>h0 (by have:=f.1 h;omega);simpa using this
   clear f;cases s with
   | true =>
    have m:z<0:=by simpa using o.out
    have i:Hid (r = -1):=by show _=_;rw[<-g,p8 m]
    clear g h0 m
    go_enter func198,ntmps198
    go_upto_region 1 with(fail)
    refine AP ?_;intro p d b j;have k:=b.c 0 rfl;have l:=b.c 1 rfl;go_wp2;go_ret;exact⟨by rw[i.out];rfl,d⟩
   | false =>
    have m:¬ z<0:=by simpa using o.out
    have i:Hid (r=1):=by show _=_;rw[<-g,vB (by omega)]
    clear g h0 m
    go_enter func198,ntmps198
    go_upto_region 1 with(fail)
    refine AP ?_;intro p d b j;have k:=b.c 0 rfl;have l:=b.c 1 rfl;go_wp2;go_ret;exact⟨by rw[i.out];rfl,d⟩
theorem CY(h:AF w v z){r:Bool}(i:decide (z=1)=r):Calls prog 142 #[v] w fun e F=>e = .returned (.bool r)/\Ext w F:=by
 obtain⟨s,a,n,c,rfl,t,q⟩:=h;cases s with
 | true =>
  have m:z<0:=by simpa using t.out
  have p:Hid (r=false):=by show _=_;rw[<-i];simp;omega
  clear i m
  go_enter func142,ntmps142
  go_upto_region 1 with(fail)
  refine AP ?_;intro B f d g;have j:=d.c 0 rfl;have l:=d.c 1 rfl;go_wp2;go_ret;exact⟨by rw[p.out];rfl,f⟩
 | false =>
  have m:¬ z<0:=by simpa using t.out
  by_cases A:n=1
  · subst A;obtain⟨b,o,rfl,y,G,H⟩:=q.one;have E:((z.natAbs:Int) == 1)=r:=by
     rw[<-i,Bool.eq_iff_iff];simp;omega
    clear i m;generalize z.natAbs=x at *
    go_enter func142,ntmps142
    go_upto_region 1 with(fail)
    refine AP ?_;intro B f d g;have j:=d.c 0 rfl;have l:=d.c 1 rfl;have C:=f.cell y;clear g y;go_wp2;go_ret;exact⟨rfl,f⟩
  · have D:((n:Int) == 1)=false:=by simp;omega
    have p:Hid (r=false):=by
     show _=_;rw[<-i];have h1:z≠1:=by
      intro h1;have h2:=q.len (k:=1) (by rw[h1,O6];decide);have h3:=q.zero;omega
     simp[h1]
    clear i m A
    go_enter func142,ntmps142
    go_upto_region 1 with(fail)
    refine AP ?_;intro B f d g;have j:=d.c 0 rfl;have l:=d.c 1 rfl;go_wp2;go_ret;exact⟨by rw[p.out];rfl,f⟩
theorem Nu(h1 : -9223372036854775808<=z)(h2:z<=9223372036854775807):Calls prog 156 #[.int .i64 z] w (EP w z):=by
 by_cases r:z<0
 · have k:Hid (decide (z<0)=true):=qh (by simpa using r);have s:IntKind.u64.wrap (-IntKind.u64.wrap z)=(z.natAbs:Int):=by rw[rz,rz];omega
   have o:z.natAbs<18446744073709551616:=by omega
   go_enter func156,ntmps156
   go_upto_region 1 with(fail)
   refine AP ?_;intro q f c j;have n:Arr q w.heap.size 83 (Ac false none 0 0):=c;clear j
   go_wp2_with fail
   refine(WI o).mono ?_;rintro e t ⟨l,p,m,rfl,a,i⟩;have b:=n.ext a
   go_wp2_with(refine Aa (vs:=Ac true l p m) rfl rfl rfl rfl rfl Ai b rfl (Ae _ _ _ _) ?_;intro v d g)
   exact py (Ap rfl Ai rfl d) rfl (BA (f.trans a) b (Ax _ _ _ _) g (by omega) k i)
 · have k:Hid (decide (z<0)=false):=qh (by simpa using r);have s:IntKind.u64.wrap z=(z.natAbs:Int):=by rw[rz];omega
   have o:z.natAbs<18446744073709551616:=by omega
   go_enter func156,ntmps156
   go_upto_region 1 with(fail)
   refine AP ?_;intro q f c j;have n:Arr q w.heap.size 83 (Ac false none 0 0):=c;clear j
   go_wp2_with fail
   refine(WI o).mono ?_;rintro e t ⟨l,p,m,rfl,a,i⟩;have b:=n.ext a
   go_wp2_with(refine Aa (vs:=Ac false l p m) rfl rfl rfl rfl rfl Ai b rfl (Ae _ _ _ _) ?_;intro v d g)
   exact py (Ap rfl Ai rfl d) rfl (BA (f.trans a) b (Ax _ _ _ _) g (by omega) k i)
theorem Gf{y:Int}(G:AM w)(h:AF w v z)(E:AF w v' y)(C:z.natAbs<P2 9600)(o:y.natAbs<P2 9600):Calls prog 141 #[v,v'] w (EP w ((Nat.gcd z.natAbs y.natAbs:Nat):Int)):=by
 obtain⟨s,a,n,c,rfl,Q,I⟩:=h;obtain⟨t,b,m,d,rfl,R,J⟩:=E
 go_enter func141,ntmps141
 go_upto_region 1 with(fail)
 refine CO ?_;intro P f g i p A;have L:=g.c 0 rfl;have M:=g.c 1 rfl;have N:=i.c 0 rfl;have O:=i.c 1 rfl;have F:Arr P (w.heap.size+2) 83 (Ac false none 0 0):=p;have H:=qh (WE (G.ext f) (I.ext f) (J.ext f) C o);have l:Hid (decide (((Nat.gcd z.natAbs y.natAbs:Nat):Int)<0)=false):=qh (by simp);clear A
 go_wp2_with fail
 refine H.out.mono ?_;rintro e S ⟨B,K,D,rfl,j,x⟩;have k:=F.ext j
 go_wp2_with(refine Aa (vs:=Ac false B K D) rfl rfl rfl rfl rfl Ai k rfl (Ae _ _ _ _) ?_;intro T q r)
 exact py (Ap rfl Ai rfl q) rfl (BA (f.trans j) k (Ax _ _ _ _) r (by omega) l x)
theorem Nw{y:Int}{t:Bool}(a:decide (z<0)=s)(b:decide (y<0)=t):z*y=if(s != t)=true then -((z.natAbs*y.natAbs:Nat):Int)else((z.natAbs*y.natAbs:Nat):Int):=by
 rw[<-qW];subst a;subst b;by_cases h1:z<0 <;> by_cases h2:y<0 <;> simp[h1,h2]
 · have:=Int.mul_nonneg_of_nonpos_of_nonpos (vk h1) (vk h2);omega
 · have:=Int.mul_nonpos_of_nonpos_of_nonneg (vk h1) (show 0<=y by omega);omega
 · have:=Int.mul_nonpos_of_nonneg_of_nonpos (show 0<=z by omega) (vk h2);omega
 · have:=tX (show 0<=z by omega) (show 0<=y by omega);omega
theorem K0{S:Nat->Prop}{y:Int}(h:AF w v z)(h':AF w v' y)(bz:z.natAbs<P2 9600)(A:y.natAbs<P2 9600)(H:z.natAbs<P2 2496\/y.natAbs<P2 2496)(E:Ix S v)(F:Ix S v'):Calls prog 163 #[v,v'] w (KZ w S (z*y)):=by
 obtain⟨s,a,n,c,rfl,HS,hx⟩:=h;obtain⟨t,b,m,d,rfl,HT,hy⟩:=h';have V:=E.at
 have W:=F.at
 clear E F
 go_enter func163,ntmps163
 go_upto_region 1 with(fail)
 refine CO ?_;intro w0 l B C N Y;have Z:=B.c 0 rfl;have a0:=B.c 1 rfl;have a3:=C.c 0 rfl;have a4:=C.c 1 rfl;have hR:Arr w0 (w.heap.size+2) 83 (Ac false none 0 0):=N;have G:=fun(g:World) (f:Ext w0 g)=>qh (XB ((hx.ext l).ext f) ((hy.ext l).ext f) bz A H V W);clear Y bz A H;have p:=fun(g:World) (f:Ext w0 g)=>qh (And.intro (f.cell Z) (And.intro (f.cell a0) (And.intro (f.cell a3) (f.cell a4))))
 refine B0
  [hdP w.heap.size 0,hdB s,hdP (w.heap.size+1) 0,hdB t,hdB (s != t),hdP w.heap.size 1,hdS a n c,hdP (w.heap.size+1) 1,hdS b m d,hp (fun v g=>∃ i j k,v = .slice i j k/\Wd g i j k (z.natAbs*y.natAbs)/\Hg w.heap.size S i j),hp (fun v g=>∃ x i j k,v = .agg (Ac x i j k).toArray/\Hid (decide (z*y<0)=x)/\Wd g i j k (z*y).natAbs/\Hg w.heap.size S i j)]
  ⟨fun v w w' e ⟨i,j,k,h1,h2,h3⟩=>⟨i,j,k,h1,h2.ext e,h3⟩,fun v w w' e ⟨x,i,j,k,h1,h2,h3,h4⟩=>⟨x,i,j,k,h1,h2,h3.ext e,h4⟩,trivial⟩ ⟨?o0,?o1,?o2,?o3,?o4,?o5,?o6,?o7,?o8,?o9,?o10,trivial⟩ ?fin
 case o0 | o2=>exact ofa (d:=0)
 case o1 | o3 | o6 | o8=>exact ol
 case o5 | o7=>exact ofa (d:=1)
 case o4 =>
  refine Aj rfl fun ρ g f o h => ?_;have e0:_=_:=h.1;have e1:_=_:=h.2.1;obtain⟨I,J,K,L⟩:=(p g f).out;go_simp;cases s <;> cases t <;> rfl
 case o9 =>
  refine Ag rfl fun ρ g f o R h => ?_;have e1:_=_:=h.2.1;have e2:_=_:=h.2.2.1;obtain⟨I,J,K,L⟩:=(p g f).out;refine⟨222,#[.slice a n c,.slice b m d],by go_simp,((G g f).out).mono ?_⟩;rintro e w' ⟨i,j,k,rfl,q,r,P⟩;exact⟨_,rfl,q,i,j,k,rfl,r,P.of (l.trans f).size (fun _ h=>Or.inr h)⟩
 case o10 =>
  refine Ag rfl fun ρ g f o R h => ?_;have e1:_=_:=h.2.1;obtain⟨v2,e2,a2,n2,c2,rfl,d2,f2⟩:=h.2.2.1;obtain⟨I,J,K,L⟩:=(p g f).out;refine⟨203,#[.bool (s != t),.slice a2 n2 c2],by go_simp,(FV d2 (z:=z*y) (Nw HS.out HT.out)).mono ?_⟩;rintro e w' ⟨x,rfl,q,U,r⟩;exact⟨_,rfl,q,x,a2,n2,c2,rfl,U,r,f2⟩
 case fin =>
  intro g f;rintro _ ⟨_,_,_,rfl,_,_⟩;rintro _ ⟨s1,a1,n1,c1,rfl,M,X,Q⟩;change wpList _ _ _ _ _ _;simp only[Ci];have D:=hR.ext f
  go_wp2_with(refine Aa (vs:=Ac s1 a1 n1 c1) rfl rfl rfl rfl rfl Ai D rfl (Ae _ _ _ _) ?_;intro w9 O T)
  exact py (Ap rfl Ai rfl O) rfl (FX (l.trans f) D (Ax _ _ _ _) T (by omega) M X Q)
theorem CA{y:Int}(h:AF w v z)(d:AF w v' y)(c:z.natAbs<P2 9600)(a:y.natAbs<P2 9600)(b:z.natAbs<P2 2496\/y.natAbs<P2 2496):Calls prog 163 #[v,v'] w (EP w (z*y)) :=
 (K0 (S:=fun _=>True) h d c a b (fun _ _ _ _ _ _ _ _=>trivial) (fun _ _ _ _ _ _ _ _=>trivial)).mono fun _ _ h=>h.plain
end Go.Proofs.YtlbmnokpiilfpaaGreatDoor
