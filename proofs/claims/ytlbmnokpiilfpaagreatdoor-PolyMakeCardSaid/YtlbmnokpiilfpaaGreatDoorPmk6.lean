/- Part Pmk6. -/
import Derived.Test.YtlbmnokpiilfpaaGreatDoorPmk5
import Derived.Test.YtlbmnokpiilfpaaGreatDoorPmk2
set_option maxRecDepth 100000
set_option maxHeartbeats 100000000
namespace Go.Proofs.YtlbmnokpiilfpaaGreatDoor
open Tryz Go Go.RowKit
variable {odd:Bool} {xs ys zs:List Nat} {l:List Oper} {cs:List Value} {B base d k m n s x y:Nat} {a b:Option Addr} {cons:Option Nat} {e:TypeId} {c:Value} {w wb:World}
theorem AH:Agg prog 268 5:=⟨by kernel_rfl,by kernel_rfl⟩
def A4 (u0 u1 v0 v1:Nat) (odd:Bool):List Value:=[.int .u64 u0, .int .u64 u1, .int .u64 v0, .int .u64 v1, .bool odd]
theorem BQ (u0 u1 c v1:Nat) (a:Bool):∀ v∈A4 u0 u1 c v1 a,v.oneCell'=true:=by
 intro v b;simp only [A4,List.mem_cons,List.not_mem_nil,or_false] at b;rcases b with rfl|rfl|rfl|rfl|rfl <;> rfl
theorem EX (a:s<=63):18446744073709551616=2^s*2^(64-s):=by rw [<-Nat.pow_add,show s+(64-s)=64 by omega]
theorem Lc {t1 t0:Nat} (a:s<=63) (h0:t0<18446744073709551616):t1*2^s ||| t0/2^(64-s)=t1*2^s+t0/2^(64-s):=by
 have h:t0/2^(64-s)<2^s:=by
  rw [Nat.div_lt_iff_lt_mul (Nat.two_pow_pos _),<-EX a];exact h0
 have:=Nat.shiftLeft_add_eq_or_of_lt h t1;rw [Nat.shiftLeft_eq] at this;exact this.symm
def UI (w:World) (x y:Nat) (e:Ending) (w':World):Prop :=
 ∃ u0 u1 v0 v1 odd,e = .returned (.agg (A4 u0 u1 v0 v1 odd).toArray)/\Ext w w'/\u0<18446744073709551616/\u1<18446744073709551616/\v0<18446744073709551616/\v1<18446744073709551616/\(v0=0\/∃ p q,W.Steps x y u0 u1 v0 v1 odd p q)
theorem F6 {c:Nat} (hx:SlN .u64 w a n c xs) (hy:SlN .u64 w b m d ys) (nx:Num 18446744073709551616 xs x) (ny:Num 18446744073709551616 ys y) (hn:n<=100000) (aS:y<=x) {nn:Nat} (aX:n=nn+2) :
 Calls prog 239 #[.slice a n c, .slice b m d] w (UI w x y):=by
 have HX:=Lib.hid hx.len;have HY:=Lib.hid hy.len;have bk:m<=n:=by
  refine Classical.byContradiction fun hc => ?_;have:=W.len_lt (B:=18446744073709551616) (by omega) nx.bnd ny.nrm (by rw [HX.out,HY.out]; omega);rw [nx.val,ny.val] at this;omega
 have aL:xs≠[]:=by intro h; have:=HX.out; rw [h] at this; simp at this; omega
 have aI:0<xs.getD (nn+1) 0:=by
  have h1:=nx.nrm aL;rw [List.getLast_eq_getElem] at h1;have h2:xs.length-1=nn+1:=by rw [HX.out]; omega
  have h3:nn+1<xs.length:=by rw [HX.out]; omega
  have h4:xs.getD (nn+1) 0=xs[xs.length-1]'(by omega):=by
   simp [h2,h3]
  omega
 have aZ:=W.bnd_at nx.bnd (i:=nn+1) (by rw [HX.out]; omega);have aY:=W.bnd_at nx.bnd (i:=nn) (by rw [HX.out]; omega);obtain ⟨s,hs,aW,bb,az⟩:=K1 aI aZ;have au:=fun wx:World=>Nw aZ wx;rw [aW] at au;obtain ⟨P,hP⟩:∃ P,18446744073709551616^nn*2^(64-s)=P:=⟨_,rfl⟩;have aP:0<P:=by rw [<-hP]; exact Nat.mul_pos (Nat.pow_pos (by omega)) (Nat.two_pow_pos _)
 have hA:x/P=xs.getD (nn+1) 0*2^s+xs.getD nn 0/2^(64-s):=by
  rw [<-hP];refine W.head_of (EX hs) (Nat.two_pow_pos _) (lo:=W.val 18446744073709551616 (xs.take nn)) ?_ ?_
  · rw [<-nx.val];exact F5 (by rw [HX.out]; omega)
  · exact BK nx.bnd (by rw [HX.out]; omega)
 have aN:xs.getD (nn+1) 0*2^s+xs.getD nn 0/2^(64-s)<18446744073709551616:=by
  rw [<-Lc hs aY];exact K9 az (by have:=Nat.div_le_self (xs.getD nn 0) (2^(64-s)); omega)
 have aO:y/P<=x/P:=Nat.div_le_div_right aS;have ab:m=nn+2->y/P=ys.getD (nn+1) 0*2^s+ys.getD nn 0/2^(64-s):=by
  intro hm;rw [<-hP];refine W.head_of (EX hs) (Nat.two_pow_pos _) (lo:=W.val 18446744073709551616 (ys.take nn)) ?_ ?_
  · rw [<-ny.val];exact F5 (by rw [HY.out]; omega)
  · exact BK ny.bnd (by rw [HY.out]; omega)
 have ac:m=nn+1->y/P=ys.getD nn 0/2^(64-s):=by
  intro hm;rw [<-hP]
  have:=W.head_of (t1:=0) (EX hs) (Nat.two_pow_pos _) (a:=y) (t0:=ys.getD nn 0) (M:=18446744073709551616^nn) (lo:=W.val 18446744073709551616 (ys.take nn)) (by
   rw [<-ny.val,Nat.zero_mul,Nat.zero_add];have:=Dd (B:=18446744073709551616) (l:=ys) (m:=nn) (by rw [HY.out]; omega)
   rw [this]) (BK ny.bnd (by rw [HY.out]; omega))
  rw [this,Nat.zero_mul,Nat.zero_add]
 have ad:m<=nn->y/P=0:=by
  intro hm;apply Nat.div_eq_of_lt;have h1:=W.val_lt ny.bnd;rw [ny.val,HY.out] at h1;have h2:18446744073709551616^m<=18446744073709551616^nn:=Nat.pow_le_pow_right (by omega) hm;have h3:18446744073709551616^nn*1<=18446744073709551616^nn*2^(64-s):=Nat.mul_le_mul_left _ (Nat.two_pow_pos _);omega
 have a4:=Lib.hid (W.Sim.start aP aS);obtain ⟨A,aw⟩:∃ A,x/P=A:=⟨_,rfl⟩;obtain ⟨Bb,ax⟩:∃ Bb,y/P=Bb:=⟨_,rfl⟩;rw [aw,ax] at a4;rw [aw] at hA aO;rw [ax] at aO ab ac ad;generalize x%P=α at *
 generalize y%P=β at *
 clear aw ax hP aP aL;have bg:A<18446744073709551616:=by rw [hA]; exact aN
 have bh:Bb<18446744073709551616:=by omega
 obtain ⟨b1,o1,rfl,I⟩:=hx.at (j:=0) (by omega);have g1:=I (nn+1) (by omega);have g0:=I nn (by omega);have fA:bits BinOp.or IntKind.u64 ((xs.getD (nn+1) 0*2^s:Nat):Int) ((xs.getD nn 0/2^(64-s):Nat):Int)=(A:Int):=by
  rw [u64_or_nat _ _ az (by have:=Nat.div_le_self (xs.getD nn 0) (2^(64-s)); omega),Lc hs aY,hA]
 have ar:IntKind.u64.wrap (((xs.getD (nn+1) 0:Nat):Int)*2^s)=((xs.getD (nn+1) 0*2^s:Nat):Int):=Ak (by push_cast; rfl) az;have aa:((xs.getD nn 0:Nat):Int)/2^(64-s)=((xs.getD nn 0/2^(64-s):Nat):Int):=by push_cast; rfl
 generalize xs.getD nn 0/2^(64-s)=q0 at *
 generalize xs.getD (nn+1) 0 * 2^s=q1 at *
 generalize xs.getD (nn+1) 0=t1 at *
 generalize xs.getD nn 0=t0 at *
 have be:IntKind.i64.wrap ((n:Int)-1)=((nn+1:Nat):Int):=by rw [show (n:Int)-1=((nn+1:Nat):Int) by omega]; exact IntWalk.i64_in _ (by omega)
 have bl:IntKind.i64.wrap ((n:Int)-2)=((nn:Nat):Int):=by rw [show (n:Int)-2=((nn:Nat):Int) by omega]; exact IntWalk.i64_in _ (by omega)
 have bc:((nn+1:Nat):Int)<(n:Int):=by omega
 have bj:((nn:Nat):Int)<(n:Int):=by omega
 have bm:IntKind.u64.wrap (64-(s:Int))=((64-s:Nat):Int):=by rw [IntKind.wrap_u64]; omega
 have HN:Hid (n=nn+2):=Lib.hid aX;obtain ⟨N1,ay⟩:∃ N1,nn+1=N1:=⟨_,rfl⟩;rw [ay] at g1 be bc;have a8:=Lib.hid ay;clear I aW hA aN bb aI aX ay
 go_enter func239,ntmps239
 go_upto_region 1 with (fail)
 refine AE ?_;intro w0 ae aQ b5;have ba:=ae.cell g1;have b9:=ae.cell g0;have b4:=hy.ext ae;clear g1 g0 hx hy
 go_wp2_with fail
 refine (au _).mono ?_;rintro e w2 ⟨rfl,rfl⟩;go_wp2
 go_quiet (fail)
 have a5:=ae.drewN nq;have a6:=aQ.drewN nq;have ap:=b4.ext ((Ext.refl w2).drewN nq);have b6:(w2.drewN nq).heap.size=w.heap.size+1:=b5;generalize w2.drewN nq=w3 at *
 clear b4 ae aQ b5 ba b9 fA ar aa au;have Q:w.heap.size<w3.heap.size:=by omega
 have bi:=Lib.hid b6;clear b6;have b8:m=nn+2\/m=nn+1\/m<=nn:=by have:=HN.out; omega
 rcases b8 with hm|hm|hm
 · obtain ⟨b2,o2,rfl,F⟩:=ap.at (j:=0) (by omega);have e1:=ab hm;have k1:=W.bnd_at ny.bnd (i:=nn+1) (by rw [HY.out]; omega);have k0:=W.bnd_at ny.bnd (i:=nn) (by rw [HY.out]; omega);have g1:=F (nn+1) (by omega);have g0:=F nn (by omega);rw [a8.out] at g1;have aA:ys.getD (nn+1) 0*2^s<18446744073709551616:=by
    have h1:ys.getD (nn+1) 0*2^s<=Bb:=by rw [e1]; exact Nat.le_add_right _ _
    omega
   have fA:bits BinOp.or IntKind.u64 ((ys.getD (nn+1) 0*2^s:Nat):Int) ((ys.getD nn 0/2^(64-s):Nat):Int)=(Bb:Int):=by
    rw [u64_or_nat _ _ aA (by have:=Nat.div_le_self (ys.getD nn 0) (2^(64-s)); omega),Lc hs k0,e1]
   have ar:IntKind.u64.wrap (((ys.getD (nn+1) 0:Nat):Int)*2^s)=((ys.getD (nn+1) 0*2^s:Nat):Int):=Ak (by push_cast; rfl) aA;have aa:((ys.getD nn 0:Nat):Int)/2^(64-s)=((ys.getD nn 0/2^(64-s):Nat):Int):=by push_cast; rfl
   rw [a8.out] at fA ar;clear e1 aA ab ac ad;generalize ys.getD nn 0/2^(64-s)=p0 at *
   generalize ys.getD N1 0 * 2^s=p1 at *
   generalize ys.getD N1 0=y1 at *
   generalize ys.getD nn 0=y0 at *
   have al:((m:Int) == (n:Int))=true:=by have:=HN.out; simp; omega
   have bd:((N1:Nat):Int)<(m:Int):=by have:=a8.out; omega
   have aB:((nn:Nat):Int)<(m:Int):=by omega
   clear hm F;go_wp2
   go_quiet (fail)
   go_upto_region 10 with (fail)
   have T:=a5.drewN nq;have Y:=a6.drewN nq;have b7:w.heap.size<(w3.drewN nq).heap.size:=Q;generalize w3.drewN nq=w4 at *
   clear g1 g0 fA ar aa al bd aB k0 k1 a5 a6 Q ap;go_wp2;refine AE ?_;intro w5 K a0 aq;have Z:Arr w5 w.heap.size 268 (A4 0 0 0 0 false):=Y.ext K;have a1:Arr w5 w4.heap.size 268 (A4 0 1 0 0 false):=a0;have X:=T.trans K;clear Y a0 T K;generalize C:w4.heap.size=S at *
   have aM:=Lib.hid C;clear C aq
   go_loopw [7,8,10,11] (fun fv gv uv vv wr=>∃ (f g u0 u1 u2 E t k:Nat) (o:Bool),fv = .int .u64 f/\gv = .int .u64 g/\uv = .int .u64 u2/\vv = .int .u64 k/\Ext w wr/\Arr wr w.heap.size 268 (A4 0 0 0 0 false)/\Arr wr S 268 (A4 u0 u1 E t o)/\Hid (W.Sim x y A Bb P α β f g u0 u1 u2 E t k o)/\(f<18446744073709551616/\g<18446744073709551616)/\(u0<18446744073709551616/\u1<18446744073709551616/\u2<18446744073709551616)/\(E<18446744073709551616/\t<18446744073709551616/\k<18446744073709551616)) (fun _ gv _ _ _=>(intOf gv).toNat)
   case atStart=>exact ⟨A,Bb,0,1,0,0,0,1,false,rfl,rfl,rfl,rfl,X,Z,a1,a4,⟨by omega,by omega⟩,⟨by omega,by omega,by omega⟩,⟨by omega,by omega,by omega⟩⟩
   case round =>
    clear X Z a1 a4;obtain ⟨f,g,u0,u1,u2,E,t,k,o,rfl,rfl,rfl,rfl,hE,hR,C,G,⟨hf,hg⟩,⟨a2,N,an⟩,⟨a3,O,ao⟩⟩:=hrel;have aJ:=G.out.leh.v2p;have aT:=G.out.leh.gf;have H:(E=0\/∃ p q,W.Steps x y u0 u1 E t o p q):=G.out.good;have D:=Lib.hid H;clear H;have s0:=C.c 0 rfl;have s1:=C.c 1 rfl;have s2:=C.c 2 rfl;have s3:=C.c 3 rfl;have s4:=C.c 4 rfl;by_cases I:k<=g
    · obtain ⟨k1,k2,k3⟩:=G.out.bound (by omega);have b3:IntKind.u64.wrap ((t:Int)+k)=((t+k:Nat):Int):=Ak (by push_cast; rfl) (by omega);have aK:IntKind.u64.wrap ((f:Int)-g)=((f-g:Nat):Int):=Ak (by omega) (by omega);have aU:(k:Int)<=(g:Int):=by omega
      by_cases F:t+k<=f-g
      · obtain ⟨R,kv,ku,aV⟩:=G.out.step I F;have aR:((g:Int) == 0)=false:=by simp; omega
        have aG:(f:Int).tdiv g=((f/g:Nat):Int):=by rw [Int.tdiv_eq_ediv_of_nonneg (by omega)]; push_cast; rfl
        have aC:(f:Int)/g=((f/g:Nat):Int):=by push_cast; rfl
        have aH:(f:Int).tmod g=((f%g:Nat):Int):=by rw [Int.tmod_eq_emod_of_nonneg (by omega)]; push_cast; rfl
        have aD:(f:Int)%g=((f%g:Nat):Int):=by push_cast; rfl
        have aF:((t+k:Nat):Int)<=((f-g:Nat):Int):=by omega
        have a9:=Lib.hid R;have am:f/g<=f:=Nat.div_le_self _ _;clear R G D;generalize f/g=q at *
        generalize f%g=r at *
        have b0:IntKind.u64.wrap (q:Int)=(q:Int):=Ak rfl (by omega);have m1:IntKind.u64.wrap ((q:Int)*u2)=((q*u2:Nat):Int):=Ak (by push_cast; rfl) (by omega);have m2:IntKind.u64.wrap ((q:Int)*k)=((q*k:Nat):Int):=Ak (by push_cast; rfl) (by omega);have m3:IntKind.u64.wrap ((u1:Int)+((q*u2:Nat):Int))=((u1+q*u2:Nat):Int):=Ak (by omega) (by omega);have m4:IntKind.u64.wrap ((t:Int)+((q*k:Nat):Int))=((t+q*k:Nat):Int):=Ak (by omega) (by omega);generalize hU:u1+q * u2=U at *
        generalize hV:t+q * k=V at *
        generalize q * u2=qu at *
        generalize q * k=qv at *
        generalize t+k=vs at *
        generalize f-g=fg at *
        clear hU hV am;go_wp2
        go_quiet (fail)
        have z:=C.drewN nq;have ai:=hR.drewN nq;have ag:=hE.drewN nq;have t0:(wr.drewN nq).cell? ⟨S,0,none⟩=_:=s0;have t1:(wr.drewN nq).cell? ⟨S,1,none⟩=_:=s1;have t2:(wr.drewN nq).cell? ⟨S,2,none⟩=_:=s2;have t3:(wr.drewN nq).cell? ⟨S,3,none⟩=_:=s3;have t4:(wr.drewN nq).cell? ⟨S,4,none⟩=_:=s4;generalize wr.drewN nq=wq at *
        clear s0 s1 s2 s3 s4 C hR hE;have aj:=((((z.set 0 (.int .u64 u1)).set 1 (.int .u64 u2)).set 2 (.int .u64 t)).set 3 (.int .u64 k)).set 4 (.bool (!o));have ah:=((((ai.far (p:=⟨S,0,none⟩) (by show w.heap.size≠S; omega) (.int .u64 u1)).far (p:=⟨S,1,none⟩) (by show w.heap.size≠S; omega) (.int .u64 u2)).far (p:=⟨S,2,none⟩) (by show w.heap.size≠S; omega) (.int .u64 t)).far (p:=⟨S,3,none⟩) (by show w.heap.size≠S; omega) (.int .u64 k)).far (p:=⟨S,4,none⟩) (by show w.heap.size≠S; omega) (.bool (!o))
        have af:=((((ag.setCell (p:=⟨S,0,none⟩) (by show w.heap.size<=S; omega) (.int .u64 u1)).setCell (p:=⟨S,1,none⟩) (by show w.heap.size<=S; omega) (.int .u64 u2)).setCell (p:=⟨S,2,none⟩) (by show w.heap.size<=S; omega) (.int .u64 t)).setCell (p:=⟨S,3,none⟩) (by show w.heap.size<=S; omega) (.int .u64 k)).setCell (p:=⟨S,4,none⟩) (by show w.heap.size<=S; omega) (.bool (!o));have z0:=z.frozen 0;have z1:=z.frozen 1;have z2:=z.frozen 2;have z3:=z.frozen 3;have z4:=z.frozen 4;go_wp2;go_roundw
        case rel=>exact ⟨g,r,u1,u2,U,t,k,V,!o,rfl,rfl,rfl,rfl,af,ah,aj,a9,⟨hg,by omega⟩,⟨N,an,by omega⟩,⟨O,ao,by omega⟩⟩
        case measure=>simp [intOf]; omega
      · have ak:¬ (((t+k:Nat):Int)<=((f-g:Nat):Int)):=by omega
        have a7:((f-g:Nat):Int)<((t+k:Nat):Int):=by omega
        have aE:decide (t+k<=f-g)=false:=by simp; omega
        generalize t+k=vs at *
        generalize f-g=fg at *
        clear F G
        go_upto_region 19 with (fail)
        go_wp2_with (first
         | (refine Ch rfl rfl AH rfl C ?_)
         | (refine Aa rfl rfl rfl rfl rfl AH hR rfl (BQ _ _ _ _ _) ?_; intro w9 J L))
        refine bodyPost_ret (v := .agg (A4 u0 u1 E t o).toArray) (Al rfl AH rfl J) rfl ⟨u0,u1,E,t,o,rfl,hE.grownR L (lrf _),a2,N,a3,O,D.out⟩
    · have ak:¬ ((k:Int)<=(g:Int)):=by omega
      have a7:(g:Int)<(k:Int):=by omega
      clear I G
      go_upto_region 19 with (fail)
      go_wp2_with (first
       | (refine Ch rfl rfl AH rfl C ?_)
       | (refine Aa rfl rfl rfl rfl rfl AH hR rfl (BQ _ _ _ _ _) ?_; intro w9 J L))
      refine bodyPost_ret (v := .agg (A4 u0 u1 E t o).toArray) (Al rfl AH rfl J) rfl ⟨u0,u1,E,t,o,rfl,hE.grownR L (lrf _),a2,N,a3,O,D.out⟩
 · obtain ⟨b2,o2,rfl,F⟩:=ap.at (j:=0) (by omega);have e1:=ac hm;have g0:=F nn (by omega);have aa:((ys.getD nn 0:Nat):Int)/2^(64-s)=(Bb:Int):=by rw [e1]; push_cast; rfl
   clear e1 ab ac ad;generalize ys.getD nn 0=y0 at *
   have al:((m:Int) == (n:Int))=false:=by have:=HN.out; simp; omega
   have av:((m:Int) == ((N1:Nat):Int))=true:=by have:=a8.out; simp; omega
   have aB:((nn:Nat):Int)<(m:Int):=by omega
   clear hm F
   go_upto_region 10 with (fail)
   obtain ⟨w4,bf⟩:∃ w4,w3=w4:=⟨_,rfl⟩;subst bf;have T:=a5;have Y:=a6;have b7:=Q;clear g0 aa al av aB a5 a6 Q ap;go_wp2;refine AE ?_;intro w5 K a0 aq;have Z:Arr w5 w.heap.size 268 (A4 0 0 0 0 false):=Y.ext K;have a1:Arr w5 w3.heap.size 268 (A4 0 1 0 0 false):=a0;have X:=T.trans K;clear Y a0 T K;generalize C:w3.heap.size=S at *
   have aM:=Lib.hid C;clear C aq
   go_loopw [7,8,10,11] (fun fv gv uv vv wr=>∃ (f g u0 u1 u2 E t k:Nat) (o:Bool),fv = .int .u64 f/\gv = .int .u64 g/\uv = .int .u64 u2/\vv = .int .u64 k/\Ext w wr/\Arr wr w.heap.size 268 (A4 0 0 0 0 false)/\Arr wr S 268 (A4 u0 u1 E t o)/\Hid (W.Sim x y A Bb P α β f g u0 u1 u2 E t k o)/\(f<18446744073709551616/\g<18446744073709551616)/\(u0<18446744073709551616/\u1<18446744073709551616/\u2<18446744073709551616)/\(E<18446744073709551616/\t<18446744073709551616/\k<18446744073709551616)) (fun _ gv _ _ _=>(intOf gv).toNat)
   case atStart=>exact ⟨A,Bb,0,1,0,0,0,1,false,rfl,rfl,rfl,rfl,X,Z,a1,a4,⟨by omega,by omega⟩,⟨by omega,by omega,by omega⟩,⟨by omega,by omega,by omega⟩⟩
   case round =>
    clear X Z a1 a4;obtain ⟨f,g,u0,u1,u2,E,t,k,o,rfl,rfl,rfl,rfl,hE,hR,C,G,⟨hf,hg⟩,⟨a2,N,an⟩,⟨a3,O,ao⟩⟩:=hrel;have aJ:=G.out.leh.v2p;have aT:=G.out.leh.gf;have H:(E=0\/∃ p q,W.Steps x y u0 u1 E t o p q):=G.out.good;have D:=Lib.hid H;clear H;have s0:=C.c 0 rfl;have s1:=C.c 1 rfl;have s2:=C.c 2 rfl;have s3:=C.c 3 rfl;have s4:=C.c 4 rfl;by_cases I:k<=g
    · obtain ⟨k1,k2,k3⟩:=G.out.bound (by omega);have b3:IntKind.u64.wrap ((t:Int)+k)=((t+k:Nat):Int):=Ak (by push_cast; rfl) (by omega);have aK:IntKind.u64.wrap ((f:Int)-g)=((f-g:Nat):Int):=Ak (by omega) (by omega);have aU:(k:Int)<=(g:Int):=by omega
      by_cases F:t+k<=f-g
      · obtain ⟨R,kv,ku,aV⟩:=G.out.step I F;have aR:((g:Int) == 0)=false:=by simp; omega
        have aG:(f:Int).tdiv g=((f/g:Nat):Int):=by rw [Int.tdiv_eq_ediv_of_nonneg (by omega)]; push_cast; rfl
        have aC:(f:Int)/g=((f/g:Nat):Int):=by push_cast; rfl
        have aH:(f:Int).tmod g=((f%g:Nat):Int):=by rw [Int.tmod_eq_emod_of_nonneg (by omega)]; push_cast; rfl
        have aD:(f:Int)%g=((f%g:Nat):Int):=by push_cast; rfl
        have aF:((t+k:Nat):Int)<=((f-g:Nat):Int):=by omega
        have a9:=Lib.hid R;have am:f/g<=f:=Nat.div_le_self _ _;clear R G D;generalize f/g=q at *
        generalize f%g=r at *
        have b0:IntKind.u64.wrap (q:Int)=(q:Int):=Ak rfl (by omega);have m1:IntKind.u64.wrap ((q:Int)*u2)=((q*u2:Nat):Int):=Ak (by push_cast; rfl) (by omega);have m2:IntKind.u64.wrap ((q:Int)*k)=((q*k:Nat):Int):=Ak (by push_cast; rfl) (by omega);have m3:IntKind.u64.wrap ((u1:Int)+((q*u2:Nat):Int))=((u1+q*u2:Nat):Int):=Ak (by omega) (by omega);have m4:IntKind.u64.wrap ((t:Int)+((q*k:Nat):Int))=((t+q*k:Nat):Int):=Ak (by omega) (by omega);generalize hU:u1+q * u2=U at *
        generalize hV:t+q * k=V at *
        generalize q * u2=qu at *
        generalize q * k=qv at *
        generalize t+k=vs at *
        generalize f-g=fg at *
        clear hU hV am;go_wp2
        go_quiet (fail)
        have z:=C.drewN nq;have ai:=hR.drewN nq;have ag:=hE.drewN nq;have t0:(wr.drewN nq).cell? ⟨S,0,none⟩=_:=s0;have t1:(wr.drewN nq).cell? ⟨S,1,none⟩=_:=s1;have t2:(wr.drewN nq).cell? ⟨S,2,none⟩=_:=s2;have t3:(wr.drewN nq).cell? ⟨S,3,none⟩=_:=s3;have t4:(wr.drewN nq).cell? ⟨S,4,none⟩=_:=s4;generalize wr.drewN nq=wq at *
        clear s0 s1 s2 s3 s4 C hR hE;have aj:=((((z.set 0 (.int .u64 u1)).set 1 (.int .u64 u2)).set 2 (.int .u64 t)).set 3 (.int .u64 k)).set 4 (.bool (!o));have ah:=((((ai.far (p:=⟨S,0,none⟩) (by show w.heap.size≠S; omega) (.int .u64 u1)).far (p:=⟨S,1,none⟩) (by show w.heap.size≠S; omega) (.int .u64 u2)).far (p:=⟨S,2,none⟩) (by show w.heap.size≠S; omega) (.int .u64 t)).far (p:=⟨S,3,none⟩) (by show w.heap.size≠S; omega) (.int .u64 k)).far (p:=⟨S,4,none⟩) (by show w.heap.size≠S; omega) (.bool (!o))
        have af:=((((ag.setCell (p:=⟨S,0,none⟩) (by show w.heap.size<=S; omega) (.int .u64 u1)).setCell (p:=⟨S,1,none⟩) (by show w.heap.size<=S; omega) (.int .u64 u2)).setCell (p:=⟨S,2,none⟩) (by show w.heap.size<=S; omega) (.int .u64 t)).setCell (p:=⟨S,3,none⟩) (by show w.heap.size<=S; omega) (.int .u64 k)).setCell (p:=⟨S,4,none⟩) (by show w.heap.size<=S; omega) (.bool (!o));have z0:=z.frozen 0;have z1:=z.frozen 1;have z2:=z.frozen 2;have z3:=z.frozen 3;have z4:=z.frozen 4;go_wp2;go_roundw
        case rel=>exact ⟨g,r,u1,u2,U,t,k,V,!o,rfl,rfl,rfl,rfl,af,ah,aj,a9,⟨hg,by omega⟩,⟨N,an,by omega⟩,⟨O,ao,by omega⟩⟩
        case measure=>simp [intOf]; omega
      · have ak:¬ (((t+k:Nat):Int)<=((f-g:Nat):Int)):=by omega
        have a7:((f-g:Nat):Int)<((t+k:Nat):Int):=by omega
        have aE:decide (t+k<=f-g)=false:=by simp; omega
        generalize t+k=vs at *
        generalize f-g=fg at *
        clear F G
        go_upto_region 19 with (fail)
        go_wp2_with (first
         | (refine Ch rfl rfl AH rfl C ?_)
         | (refine Aa rfl rfl rfl rfl rfl AH hR rfl (BQ _ _ _ _ _) ?_; intro w9 J L))
        refine bodyPost_ret (v := .agg (A4 u0 u1 E t o).toArray) (Al rfl AH rfl J) rfl ⟨u0,u1,E,t,o,rfl,hE.grownR L (lrf _),a2,N,a3,O,D.out⟩
    · have ak:¬ ((k:Int)<=(g:Int)):=by omega
      have a7:(g:Int)<(k:Int):=by omega
      clear I G
      go_upto_region 19 with (fail)
      go_wp2_with (first
       | (refine Ch rfl rfl AH rfl C ?_)
       | (refine Aa rfl rfl rfl rfl rfl AH hR rfl (BQ _ _ _ _ _) ?_; intro w9 J L))
      refine bodyPost_ret (v := .agg (A4 u0 u1 E t o).toArray) (Al rfl AH rfl J) rfl ⟨u0,u1,E,t,o,rfl,hE.grownR L (lrf _),a2,N,a3,O,D.out⟩
 · have e1:=ad hm;subst e1;clear ab ac ad;have al:((m:Int) == (n:Int))=false:=by have:=HN.out; simp; omega
   have av:((m:Int) == ((N1:Nat):Int))=false:=by have:=a8.out; simp; omega
   clear hm
   go_upto_region 10 with (fail)
   have T:=a5;have Y:=a6;have b7:=Q;clear al av a5 a6 Q ap;go_wp2;refine AE ?_;intro w5 K a0 aq;have Z:Arr w5 w.heap.size 268 (A4 0 0 0 0 false):=Y.ext K;have a1:Arr w5 w3.heap.size 268 (A4 0 1 0 0 false):=a0;have X:=T.trans K;clear Y a0 T K;generalize C:w3.heap.size=S at *
   have aM:=Lib.hid C;clear C aq
   go_loopw [7,8,10,11] (fun fv gv uv vv wr=>∃ (f g u0 u1 u2 E t k:Nat) (o:Bool),fv = .int .u64 f/\gv = .int .u64 g/\uv = .int .u64 u2/\vv = .int .u64 k/\Ext w wr/\Arr wr w.heap.size 268 (A4 0 0 0 0 false)/\Arr wr S 268 (A4 u0 u1 E t o)/\Hid (W.Sim x y A 0 P α β f g u0 u1 u2 E t k o)/\(f<18446744073709551616/\g<18446744073709551616)/\(u0<18446744073709551616/\u1<18446744073709551616/\u2<18446744073709551616)/\(E<18446744073709551616/\t<18446744073709551616/\k<18446744073709551616)) (fun _ gv _ _ _=>(intOf gv).toNat)
   case atStart=>exact ⟨A,0,0,1,0,0,0,1,false,rfl,rfl,rfl,rfl,X,Z,a1,a4,⟨by omega,by omega⟩,⟨by omega,by omega,by omega⟩,⟨by omega,by omega,by omega⟩⟩
   case round =>
    clear X Z a1 a4;obtain ⟨f,g,u0,u1,u2,E,t,k,o,rfl,rfl,rfl,rfl,hE,hR,C,G,⟨hf,hg⟩,⟨a2,N,an⟩,⟨a3,O,ao⟩⟩:=hrel;have aJ:=G.out.leh.v2p;have aT:=G.out.leh.gf;have H:(E=0\/∃ p q,W.Steps x y u0 u1 E t o p q):=G.out.good;have D:=Lib.hid H;clear H;have s0:=C.c 0 rfl;have s1:=C.c 1 rfl;have s2:=C.c 2 rfl;have s3:=C.c 3 rfl;have s4:=C.c 4 rfl;by_cases I:k<=g
    · obtain ⟨k1,k2,k3⟩:=G.out.bound (by omega);have b3:IntKind.u64.wrap ((t:Int)+k)=((t+k:Nat):Int):=Ak (by push_cast; rfl) (by omega);have aK:IntKind.u64.wrap ((f:Int)-g)=((f-g:Nat):Int):=Ak (by omega) (by omega);have aU:(k:Int)<=(g:Int):=by omega
      by_cases F:t+k<=f-g
      · obtain ⟨R,kv,ku,aV⟩:=G.out.step I F;have aR:((g:Int) == 0)=false:=by simp; omega
        have aG:(f:Int).tdiv g=((f/g:Nat):Int):=by rw [Int.tdiv_eq_ediv_of_nonneg (by omega)]; push_cast; rfl
        have aC:(f:Int)/g=((f/g:Nat):Int):=by push_cast; rfl
        have aH:(f:Int).tmod g=((f%g:Nat):Int):=by rw [Int.tmod_eq_emod_of_nonneg (by omega)]; push_cast; rfl
        have aD:(f:Int)%g=((f%g:Nat):Int):=by push_cast; rfl
        have aF:((t+k:Nat):Int)<=((f-g:Nat):Int):=by omega
        have a9:=Lib.hid R;have am:f/g<=f:=Nat.div_le_self _ _;clear R G D;generalize f/g=q at *
        generalize f%g=r at *
        have b0:IntKind.u64.wrap (q:Int)=(q:Int):=Ak rfl (by omega);have m1:IntKind.u64.wrap ((q:Int)*u2)=((q*u2:Nat):Int):=Ak (by push_cast; rfl) (by omega);have m2:IntKind.u64.wrap ((q:Int)*k)=((q*k:Nat):Int):=Ak (by push_cast; rfl) (by omega);have m3:IntKind.u64.wrap ((u1:Int)+((q*u2:Nat):Int))=((u1+q*u2:Nat):Int):=Ak (by omega) (by omega);have m4:IntKind.u64.wrap ((t:Int)+((q*k:Nat):Int))=((t+q*k:Nat):Int):=Ak (by omega) (by omega);generalize hU:u1+q * u2=U at *
        generalize hV:t+q * k=V at *
        generalize q * u2=qu at *
        generalize q * k=qv at *
        generalize t+k=vs at *
        generalize f-g=fg at *
        clear hU hV am;go_wp2
        go_quiet (fail)
        have z:=C.drewN nq;have ai:=hR.drewN nq;have ag:=hE.drewN nq;have t0:(wr.drewN nq).cell? ⟨S,0,none⟩=_:=s0;have t1:(wr.drewN nq).cell? ⟨S,1,none⟩=_:=s1;have t2:(wr.drewN nq).cell? ⟨S,2,none⟩=_:=s2;have t3:(wr.drewN nq).cell? ⟨S,3,none⟩=_:=s3;have t4:(wr.drewN nq).cell? ⟨S,4,none⟩=_:=s4;generalize wr.drewN nq=wq at *
        clear s0 s1 s2 s3 s4 C hR hE;have aj:=((((z.set 0 (.int .u64 u1)).set 1 (.int .u64 u2)).set 2 (.int .u64 t)).set 3 (.int .u64 k)).set 4 (.bool (!o));have ah:=((((ai.far (p:=⟨S,0,none⟩) (by show w.heap.size≠S; omega) (.int .u64 u1)).far (p:=⟨S,1,none⟩) (by show w.heap.size≠S; omega) (.int .u64 u2)).far (p:=⟨S,2,none⟩) (by show w.heap.size≠S; omega) (.int .u64 t)).far (p:=⟨S,3,none⟩) (by show w.heap.size≠S; omega) (.int .u64 k)).far (p:=⟨S,4,none⟩) (by show w.heap.size≠S; omega) (.bool (!o))
        have af:=((((ag.setCell (p:=⟨S,0,none⟩) (by show w.heap.size<=S; omega) (.int .u64 u1)).setCell (p:=⟨S,1,none⟩) (by show w.heap.size<=S; omega) (.int .u64 u2)).setCell (p:=⟨S,2,none⟩) (by show w.heap.size<=S; omega) (.int .u64 t)).setCell (p:=⟨S,3,none⟩) (by show w.heap.size<=S; omega) (.int .u64 k)).setCell (p:=⟨S,4,none⟩) (by show w.heap.size<=S; omega) (.bool (!o));have z0:=z.frozen 0;have z1:=z.frozen 1;have z2:=z.frozen 2;have z3:=z.frozen 3;have z4:=z.frozen 4;go_wp2;go_roundw
        case rel=>exact ⟨g,r,u1,u2,U,t,k,V,!o,rfl,rfl,rfl,rfl,af,ah,aj,a9,⟨hg,by omega⟩,⟨N,an,by omega⟩,⟨O,ao,by omega⟩⟩
        case measure=>simp [intOf]; omega
      · have ak:¬ (((t+k:Nat):Int)<=((f-g:Nat):Int)):=by omega
        have a7:((f-g:Nat):Int)<((t+k:Nat):Int):=by omega
        have aE:decide (t+k<=f-g)=false:=by simp; omega
        generalize t+k=vs at *
        generalize f-g=fg at *
        clear F G
        go_upto_region 19 with (fail)
        go_wp2_with (first
         | (refine Ch rfl rfl AH rfl C ?_)
         | (refine Aa rfl rfl rfl rfl rfl AH hR rfl (BQ _ _ _ _ _) ?_; intro w9 J L))
        refine bodyPost_ret (v := .agg (A4 u0 u1 E t o).toArray) (Al rfl AH rfl J) rfl ⟨u0,u1,E,t,o,rfl,hE.grownR L (lrf _),a2,N,a3,O,D.out⟩
    · have ak:¬ ((k:Int)<=(g:Int)):=by omega
      have a7:(g:Int)<(k:Int):=by omega
      clear I G
      go_upto_region 19 with (fail)
      go_wp2_with (first
       | (refine Ch rfl rfl AH rfl C ?_)
       | (refine Aa rfl rfl rfl rfl rfl AH hR rfl (BQ _ _ _ _ _) ?_; intro w9 J L))
      refine bodyPost_ret (v := .agg (A4 u0 u1 E t o).toArray) (Al rfl AH rfl J) rfl ⟨u0,u1,E,t,o,rfl,hE.grownR L (lrf _),a2,N,a3,O,D.out⟩
theorem Own.upto {c:Nat} (h:Own w base e a n c cs) {k:Nat} (r:k<=n):Own w base e a k c (cs.take k):=by
 have s:=h.len;refine ⟨by simp; omega, ?_⟩;rcases h.2 with ⟨b,h0⟩|⟨g,d,f,b,j,l,o,m,p,q⟩
 · subst h0;have i:k=0:=by omega
   subst i;simp only [Value.slice.injEq] at b;exact Or.inl ⟨by rw [b.1,b.2.2],rfl⟩
 · simp only [Value.slice.injEq] at b;refine Or.inr ⟨g,d,f,by rw [b.1,b.2.2],j,l,by omega,m,p, ?_⟩;rw [<-q,List.take_take];congr 1;omega
theorem Av.upto {k:IntKind} {w:World} {base:Nat} {e:TypeId} {g n c:Nat} {xs:List Nat} (h:Av k w base e g n c xs) {m:Nat} (a:m<=n):Av k w base e g m c (xs.take m):=by
 have:=Own.upto h a;rw [<-List.map_take] at this;exact this
def Uq (x y c:Nat) (w:World) (e:Ending) (w':World):Prop:=∃ l h:Nat,e = .returned (.tuple #[.int .u64 l, .int .u64 h])/\w=w'/\l<18446744073709551616/\h<18446744073709551616/\l+18446744073709551616*h=x*y+c
theorem BC {c:Nat} (r:x<18446744073709551616) (s:y<18446744073709551616) (t:c<18446744073709551616) :
 Calls prog 290 #[.int .u64 x, .int .u64 y, .int .u64 c] w (Uq x y c w):=by
 have p:=Hs r s;have hp:x*y<=18446744073709551615*18446744073709551615:=Nat.mul_le_mul (by omega) (by omega);have i:Hid (x*y%18446744073709551616+18446744073709551616*(x*y/18446744073709551616)=x*y):=Lib.hid (Nat.mod_add_div _ _);have z:x*y%18446744073709551616<18446744073709551616:=Nat.mod_lt _ (by omega);have v:x*y/18446744073709551616<=18446744073709551614:=by omega
 generalize x * y/18446744073709551616=d at *
 generalize x * y%18446744073709551616=a at *
 have k:∀ f:World,(callFunc 300 #[.int .u64 (a:Int), .int .u64 (c:Int), .int .u64 0]).run prog f = .ok (.value (.tuple #[.int .u64 (((a+c+0)%18446744073709551616:Nat):Int), .int .u64 (((a+c+0)/18446744073709551616:Nat):Int)])) f:=fun f=>Bs a c 0 (by omega) f;have j:Hid ((a+c+0)%18446744073709551616+18446744073709551616*((a+c+0)/18446744073709551616)=a+c):=Lib.hid (Nat.mod_add_div _ _);have q:(a+c+0)%18446744073709551616<18446744073709551616:=Nat.mod_lt _ (by omega);have n:(a+c+0)/18446744073709551616<=1:=by omega
 generalize (a+c+0)%18446744073709551616=l at *
 generalize (a+c+0)/18446744073709551616=b at *
 have A:IntKind.u64.wrap ((d:Int)+(b:Int))=((d+b:Nat):Int):=Ak (by omega) (by omega);have m:Hid (l+18446744073709551616*(d+b)=x*y+c):=by show _=_; have h1:=i.out; have h2:=j.out; omega
 have o:d+b<18446744073709551616:=by omega
 generalize d+b=g at *
 clear i j hp
 go_enter func290,ntmps290
 go_wp2_with fail
 refine (p _).mono ?_;rintro e B ⟨rfl,rfl⟩;go_wp2
 go_ret2
 exact ⟨l,g,rfl,rfl,q,o,m.out⟩
theorem F7 {u v c1 c2 c1' c2':Nat} (a:k<zs.length) (g:k<xs.length) (i:k<ys.length) (h:W.val B (zs.take k)+u*W.val B (xs.take k)+c1*B^k=v*W.val B (ys.take k)+c2*B^k) (e:d+xs.getD k 0*u+c2+B*c1'=ys.getD k 0*v+c1+B*c2') :
 W.val B ((zs.set k d).take (k+1))+u*W.val B (xs.take (k+1))+c1'*B^(k+1)=v*W.val B (ys.take (k+1))+c2'*B^(k+1):=by
 have h1:=W.comb_step h e;have b:W.val B ((zs.set k d).take (k+1))=W.val B (zs.take k)+B^k*d:=by
  rw [W.val_take_succ (by simpa using a)];congr 1
  · rw [List.take_set_of_le (lrf _)]
  · simp [a]
 rw [b,W.val_take_succ g,W.val_take_succ i,Nat.pow_succ];have c:u*(W.val B (xs.take k)+B^k*xs.getD k 0)=u*W.val B (xs.take k)+B^k*(xs.getD k 0*u):=by grind
 have f:v*(W.val B (ys.take k)+B^k*ys.getD k 0)=v*W.val B (ys.take k)+B^k*(ys.getD k 0*v):=by grind
 rw [c,f];exact h1
theorem DG (h:zs.drop k=xs.drop k):(zs.set k d).drop (k+1)=xs.drop (k+1):=by
 rw [List.drop_set_of_lt (by omega),<-List.drop_drop,<-List.drop_drop,h]
theorem Eh (h:zs.drop k=xs.drop k):zs.getD k 0=xs.getD k 0:=by
 have:=congrArg (fun l:List Nat=>l.getD 0 0) h;simpa using this
def UJ (wb:World) (ga n ca gb cb p q:Nat) (e:Ending) (w':World):Prop :=
 e = .returned (.tuple #[])/\Ext wb w'/\∃ zs ts,Av .u64 w' wb.heap.size 238 ga n ca zs/\Av .u64 w' wb.heap.size 238 gb n cb ts/\W.bnd 18446744073709551616 zs/\W.bnd 18446744073709551616 ts/\W.val 18446744073709551616 zs=p/\W.val 18446744073709551616 ts=q
theorem Kj {g m ca cb u0 u1 V v1 p q:Nat} (ah:Ext wb w) (hx:Av .u64 w wb.heap.size 238 g n ca xs) (hy:Av .u64 w wb.heap.size 238 m n cb ys) (aT:g≠m) (bx:W.bnd 18446744073709551616 xs) (a1:W.bnd 18446744073709551616 ys) (vx:W.val 18446744073709551616 xs=x) (vy:W.val 18446744073709551616 ys=y) (aF:u0<18446744073709551616) (aG:u1<18446744073709551616) (aH:V<18446744073709551616) (aI:v1<18446744073709551616) (al:W.Steps x y u0 u1 V v1 odd p q) (hn:n<=1000000) :
 Calls prog 241 #[.agg (A4 u0 u1 V v1 odd).toArray, .slice (some ⟨g,0,none⟩) n ca, .slice (some ⟨m,0,none⟩) n cb] w (UJ wb g n ca m cb p q):=by
 have HX:=Lib.hid hx.len;have HY:=Lib.hid hy.len;have ag:=Lib.hid vx;have a0:=Lib.hid vy;have K:=Lib.hid al;have BX:=Lib.hid bx;have BY:=Lib.hid a1;have aM:=hx.lt;have aN:=hy.lt;have ae:=hx.lo;have af:=hy.lo;clear vx vy al
 go_enter func241,ntmps241
 go_upto_region 1 with (fail)
 refine AE ?_;intro w1 R aj aJ;have ak:Arr w1 w.heap.size 268 (A4 u0 u1 V v1 odd):=aj;have an:=hx.ext R;have ap:=hy.ext R;have ai:=ah.trans R;generalize ay:w.heap.size=S at *
 clear aj hx hy ah R aJ ay;go_wp2
 go_loopw [6,7,8,9,10,11,21] (fun a6 a7 a8 a9 aw ax iv wr=>∃ (k cP cQ cR cT b f:Nat) (zs j:List Nat),a6 = .int .u64 cP/\a7 = .int .u64 cQ/\a8 = .int .u64 cR/\a9 = .int .u64 cT/\aw = .int .u64 b/\ax = .int .u64 f/\iv = .int .i64 k/\k<=n/\(cP<18446744073709551616/\cQ<18446744073709551616/\cR<18446744073709551616/\cT<18446744073709551616)/\b<=1/\f<=1/\Ext wb wr/\Arr wr S 268 (A4 u0 u1 V v1 odd)/\Av .u64 wr wb.heap.size 238 g n ca zs/\Av .u64 wr wb.heap.size 238 m n cb j/\W.bnd 18446744073709551616 zs/\W.bnd 18446744073709551616 j/\Hid (zs.drop k=xs.drop k)/\Hid (j.drop k=ys.drop k)/\Hid (if odd=true then W.val 18446744073709551616 (zs.take k)+V*W.val 18446744073709551616 (ys.take k)+cP*18446744073709551616^k=u0*W.val 18446744073709551616 (xs.take k)+(cQ+b)*18446744073709551616^k else W.val 18446744073709551616 (zs.take k)+u0*W.val 18446744073709551616 (xs.take k)+cQ*18446744073709551616^k=V*W.val 18446744073709551616 (ys.take k)+(cP+b)*18446744073709551616^k)/\Hid (if odd=true then W.val 18446744073709551616 (j.take k)+u1*W.val 18446744073709551616 (xs.take k)+cR*18446744073709551616^k=v1*W.val 18446744073709551616 (ys.take k)+(cT+f)*18446744073709551616^k else W.val 18446744073709551616 (j.take k)+v1*W.val 18446744073709551616 (ys.take k)+cT*18446744073709551616^k=u1*W.val 18446744073709551616 (xs.take k)+(cR+f)*18446744073709551616^k)) (fun _ _ _ _ _ _ iv _=>n-(intOf iv).toNat)
 case atStart=>exact ⟨0,0,0,0,0,0,0,xs,ys,rfl,rfl,rfl,rfl,rfl,rfl,rfl,Nat.zero_le _,⟨by omega,by omega,by omega,by omega⟩,by omega,by omega,ai,ak,an,ap,bx,a1,Lib.hid rfl,Lib.hid rfl,Lib.hid (by simp [W.val]),Lib.hid (by simp [W.val])⟩
 case round =>
  clear ai ak an ap bx a1;obtain ⟨k,cP,cQ,cR,cT,b,f,zs,j,rfl,rfl,rfl,rfl,rfl,rfl,rfl,hk,⟨az,aA,aB,aC⟩,T,U,hE,hS,J,I,bz,bt,DZ,DT,H1,H2⟩:=hrel;have aK:S≠g:=by omega
  have aL:S≠m:=by omega
  by_cases a:k<n
  · have c1:=J.cell (i:=k) a;have c2:=I.cell (i:=k) a;have f1:=J.frozen k;have f2:=I.frozen k;have s0:=hS.c 0 rfl;have s1:=hS.c 1 rfl;have s2:=hS.c 2 rfl;have s3:=hS.c 3 rfl;have s4:=hS.c 4 rfl;have b1:=W.bnd_at bz (i:=k) (by rw [J.len]; exact a);have b2:=W.bnd_at bt (i:=k) (by rw [I.len]; exact a);have ao:zs.getD k 0=xs.getD k 0:=Eh DZ.out;have aq:j.getD k 0=ys.getD k 0:=Eh DT.out;have L:=Lib.hid ao;have M:=Lib.hid aq;clear ao aq;generalize zs.getD k 0=xk at *
    generalize j.getD k 0=yk at *
    have aO:(k:Int)<n:=by omega
    go_wp2_with fail
    refine (BC b1 aF az).mono ?_;rintro e w2 ⟨r,N,rfl,rfl,aP,X,E⟩;have E1:=Lib.hid E;clear E
    go_wp2_with fail
    refine (BC b2 aH aA).mono ?_;rintro e w2 ⟨s,O,rfl,rfl,aQ,Y,E⟩;have E2:=Lib.hid E;clear E
    go_wp2_with fail
    refine (BC b2 aI aB).mono ?_;rintro e w2 ⟨t,P,rfl,rfl,aR,Z,E⟩;have E3:=Lib.hid E;clear E
    go_wp2_with fail
    refine (BC b1 aG aC).mono ?_;rintro e w2 ⟨z,Q,rfl,rfl,aS,ad,E⟩;have E4:=Lib.hid E;clear E;cases odd with
    | true =>
     have au:=CA r s b T;have av:=CA t z f U;have d1:=Qy (x:=r) (y:=s) (c:=b) (by omega) (by omega) T;have d2:=Qy (x:=t) (y:=z) (c:=f) (by omega) (by omega) U;have q1:(r+18446744073709551616-s-b)%18446744073709551616<18446744073709551616:=Nat.mod_lt _ (by omega);have q2:(t+18446744073709551616-z-f)%18446744073709551616<18446744073709551616:=Nat.mod_lt _ (by omega);have r1:=Pu (x:=r) (y:=s) (c:=b);have r2:=Pu (x:=t) (y:=z) (c:=f);generalize (r+18446744073709551616-s-b)%18446744073709551616=l at *
     generalize (t+18446744073709551616-z-f)%18446744073709551616=o at *
     generalize (if r<s+b then 1 else 0)=D at *
     generalize (if t<z+f then 1 else 0)=H at *
     have a2:=J.set k l;have a3:=(I.kept (Af wr g k (.int .u64 (l:Int))) (by simp; omega)).set k o;have a4:=a2.kept (Af (wr.setCell ⟨g,k,none⟩ (.int .u64 (l:Int))) m k (.int .u64 (o:Int))) (by simp; omega);have a5:=(hS.far (p:=⟨g,k,none⟩) (by show S≠g; omega) (.int .u64 (l:Int))).far (p:=⟨m,k,none⟩) (by show S≠m; omega) (.int .u64 (o:Int));have aa:=(hE.setCell (p:=⟨g,k,none⟩) ae (.int .u64 (l:Int))).setCell (p:=⟨m,k,none⟩) af (.int .u64 (o:Int))
     have A:=Lib.hid (F7 (B:=18446744073709551616) (zs:=zs) (xs:=ys) (ys:=xs) (k:=k) (d:=l) (u:=V) (v:=u0) (c1:=cP) (c2:=cQ+b) (c1':=N) (c2':=O+D) (by rw [J.len]; exact a) (by rw [HY.out]; exact a) (by rw [HX.out]; exact a) (by have:=H1.out; rw [if_pos rfl] at this; exact this) (by rw [<-L.out,<-M.out]; have:=E1.out; have:=E2.out; omega))
     have C:=Lib.hid (F7 (B:=18446744073709551616) (zs:=j) (xs:=xs) (ys:=ys) (k:=k) (d:=o) (u:=u1) (v:=v1) (c1:=cR) (c2:=cT+f) (c1':=P) (c2':=Q+H) (by rw [I.len]; exact a) (by rw [HX.out]; exact a) (by rw [HY.out]; exact a) (by have:=H2.out; rw [if_pos rfl] at this; exact this) (by rw [<-L.out,<-M.out]; have:=E3.out; have:=E4.out; omega));clear d1 d2 E1 E2 E3 E4 H1 H2;go_wp2;go_roundw
     case rel=>exact ⟨k+1,N,O,P,Q,D,H,zs.set k l,j.set k o,rfl,rfl,rfl,rfl,rfl,rfl,by go_num,by omega,⟨X,Y,Z,ad⟩,r1,r2,aa,a5,a4,a3,W.bnd_set bz q1,W.bnd_set bt q2,Lib.hid (DG DZ.out),Lib.hid (DG DT.out),Lib.hid (by first | exact A.out | (rw [if_pos rfl]; exact A.out)),Lib.hid (by first | exact C.out | (rw [if_pos rfl]; exact C.out))⟩
     case measure=>simp [intOf]; omega
    | false =>
     have au:=CA s r b T;have av:=CA z t f U;have d1:=Qy (x:=s) (y:=r) (c:=b) (by omega) (by omega) T;have d2:=Qy (x:=z) (y:=t) (c:=f) (by omega) (by omega) U;have q1:(s+18446744073709551616-r-b)%18446744073709551616<18446744073709551616:=Nat.mod_lt _ (by omega);have q2:(z+18446744073709551616-t-f)%18446744073709551616<18446744073709551616:=Nat.mod_lt _ (by omega);have r1:=Pu (x:=s) (y:=r) (c:=b);have r2:=Pu (x:=z) (y:=t) (c:=f);generalize (s+18446744073709551616-r-b)%18446744073709551616=l at *
     generalize (z+18446744073709551616-t-f)%18446744073709551616=o at *
     generalize (if s<r+b then 1 else 0)=D at *
     generalize (if z<t+f then 1 else 0)=H at *
     have a2:=J.set k l;have a3:=(I.kept (Af wr g k (.int .u64 (l:Int))) (by simp; omega)).set k o;have a4:=a2.kept (Af (wr.setCell ⟨g,k,none⟩ (.int .u64 (l:Int))) m k (.int .u64 (o:Int))) (by simp; omega);have a5:=(hS.far (p:=⟨g,k,none⟩) (by show S≠g; omega) (.int .u64 (l:Int))).far (p:=⟨m,k,none⟩) (by show S≠m; omega) (.int .u64 (o:Int));have aa:=(hE.setCell (p:=⟨g,k,none⟩) ae (.int .u64 (l:Int))).setCell (p:=⟨m,k,none⟩) af (.int .u64 (o:Int))
     have A:=Lib.hid (F7 (B:=18446744073709551616) (zs:=zs) (xs:=xs) (ys:=ys) (k:=k) (d:=l) (u:=u0) (v:=V) (c1:=cQ) (c2:=cP+b) (c1':=O) (c2':=N+D) (by rw [J.len]; exact a) (by rw [HX.out]; exact a) (by rw [HY.out]; exact a) (by have:=H1.out; rw [if_neg (by simp)] at this; exact this) (by rw [<-L.out,<-M.out]; have:=E1.out; have:=E2.out; omega))
     have C:=Lib.hid (F7 (B:=18446744073709551616) (zs:=j) (xs:=ys) (ys:=xs) (k:=k) (d:=o) (u:=v1) (v:=u1) (c1:=cT) (c2:=cR+f) (c1':=Q) (c2':=P+H) (by rw [I.len]; exact a) (by rw [HY.out]; exact a) (by rw [HX.out]; exact a) (by have:=H2.out; rw [if_neg (by simp)] at this; exact this) (by rw [<-L.out,<-M.out]; have:=E3.out; have:=E4.out; omega));clear d1 d2 E1 E2 E3 E4 H1 H2;go_wp2;go_roundw
     case rel=>exact ⟨k+1,N,O,P,Q,D,H,zs.set k l,j.set k o,rfl,rfl,rfl,rfl,rfl,rfl,by go_num,by omega,⟨X,Y,Z,ad⟩,r1,r2,aa,a5,a4,a3,W.bnd_set bz q1,W.bnd_set bt q2,Lib.hid (DG DZ.out),Lib.hid (DG DT.out),Lib.hid (by first | exact A.out | (rw [if_neg (by simp)]; exact A.out)),Lib.hid (by first | exact C.out | (rw [if_neg (by simp)]; exact C.out))⟩
     case measure=>simp [intOf]; omega
  · have ek:k=n:=by omega
    have ar:zs.take k=zs:=List.take_of_length_le (by rw [J.len]; omega);have am:j.take k=j:=List.take_of_length_le (by rw [I.len]; omega);have ab:xs.take k=xs:=List.take_of_length_le (by rw [HX.out]; omega);have ac:ys.take k=ys:=List.take_of_length_le (by rw [HY.out]; omega);have h1:=H1.out;have h2:=H2.out;rw [ar,ab,ac,ag.out,a0.out,ek] at h1;rw [am,ab,ac,ag.out,a0.out,ek] at h2;have l1:=W.val_lt bz;have l2:=W.val_lt bt;have l3:=W.val_lt BY.out;rw [J.len] at l1;rw [I.len] at l2;rw [HY.out,a0.out] at l3;have aD:=K.out.le;have aE:=K.out.lt;have F:=K.out.ep
    have G:=K.out.eq;have HF:Hid (W.val 18446744073709551616 zs=p/\W.val 18446744073709551616 j=q):=by
     show _/\_;cases odd with
     | true =>
      rw [if_pos rfl] at h1 h2 F G;exact ⟨W.comb_end h1 F l1 (by omega),W.comb_end h2 G l2 (by omega)⟩
     | false =>
      rw [if_neg (by simp)] at h1 h2 F G;exact ⟨W.comb_end h1 F l1 (by omega),W.comb_end h2 G l2 (by omega)⟩
    clear h1 h2 F G l1 l2 l3 ar am ab ac ek aD aE;go_wp2
    go_end0
    exact ⟨rfl,hE,zs,j,J,I,bz,bt,HF.out.1,HF.out.2⟩
theorem GI {c:Nat} (i:SlN .u64 w a n c xs) (e:SlN .u64 w b m d ys) (j:Num 18446744073709551616 xs x) (f:Num 18446744073709551616 ys y) (p:n<=100000) (h0:0<y) :
 Calls prog 289 #[.slice a n c, .slice b m d] w (MC .u64 18446744073709551616 w (x/y) (x%y)):=by
 by_cases g:x<y
 · exact Eg i e j f g
 · have l:=e.len;rcases Nat.lt_or_ge m 2 with h2|h2
   · have o:m=1:=by
      rcases Nat.eq_zero_or_pos m with h|h
      · subst h;have:ys=[]:=List.eq_nil_of_length_eq_zero l;have k:=f.val;rw [this] at k;simp only [W.val] at k;omega
      · omega
     subst o;exact El i e j f (by omega) (by omega) h0
   · exact Em i e j f p (by omega) (mm:=m-2) (by omega)
theorem CT {c:Nat} (t:SlN .u64 w a n c xs) (v:SlN .u64 w b m d ys) (z:Num 18446744073709551616 xs x) (A:Num 18446744073709551616 ys y) (s:n<=100000) (D:m<=100000) (h0:0<y) (C:m<80\/n<m+80) :
 Calls prog 240 #[.slice a n c, .slice b m d] w (MC .u64 18446744073709551616 w (x/y) (x%y)):=by
 have r:=GI t v z A s h0;have q:=Lib.hid r;clear r;have E:IntKind.i64.wrap ((n:Int)-m)=(n:Int)-m:=IntWalk.i64_in _ (by omega);by_cases h1:m<80
 · have h2:¬ ((80:Int)<=(m:Int)):=by omega
   go_enter func240,ntmps240
   go_wp2_with fail
   refine q.out.mono ?_;rintro e B ⟨i,o,k,f,j,p,l,g,rfl,h⟩;have H:=Lib.hid h;clear h;go_wp2
   go_ret2
   exact ⟨i,o,k,f,j,p,l,g,rfl,H.out⟩
 · have h2:(80:Int)<=(m:Int):=by omega
   have h3:¬ ((80:Int)<=(n:Int)-m):=by omega
   go_enter func240,ntmps240
   go_wp2_with fail
   refine q.out.mono ?_;rintro e B ⟨i,o,k,f,j,p,l,g,rfl,h⟩;have H:=Lib.hid h;clear h;go_wp2
   go_ret2
   exact ⟨i,o,k,f,j,p,l,g,rfl,H.out⟩
def Rp (w:World) (n:Nat) (xs:List Nat) (e:Ending) (w':World):Prop:=∃ a' c',e = .returned (.slice a' n c')/\Ext w w'/\Own w' w.heap.size 238 a' n c' (xs.map (Bi .u64))
theorem B8 {c:Nat} (i:SlN .u64 w a n c xs) (y:n<=1000000) :
 Calls prog 238 #[.slice a n c] w (Rp w n xs):=by
 rcases Nat.eq_zero_or_pos n with h0|h0
 · subst h0;have j:xs=[]:=List.eq_nil_of_length_eq_zero i.len;subst j;have v:=fun m:World=>Lib.run_eql_slice_nil (P:=prog) m 81 238 a 0 c 0 0 underlying81;cases a with
   | none =>
    go_enter func238,ntmps238
    go_wp2;go_ret;exact ⟨none,0,rfl,Ext.refl w,Own.nil _ _ _⟩
   | some p =>
    go_enter func238,ntmps238
    go_upto_region 3 with (fail)
    have l:Ext w (w.alloc (.cells #[] 238)):=(Ext.refl w).alloc _;have b:=Az w w.heap.size 238 #[] 0 rfl (lrf _) (by omega)
    go_wp2_with (refine Bj (news:=[]) rfl rfl underlying81 AA rfl rfl b rfl (i.ext l) (by simp) (by unfold maxLen; omega) (by omega) (by simp) ?_; intro o r z d f t)
    go_ret;exact ⟨o,r,rfl,l.grown f (fun k x=>(b.lt x).1),d⟩
 · refine (Q7 i y h0).mono ?_;rintro e m ⟨g,q,rfl,s,b⟩;exact ⟨_,q,rfl,s,b⟩
section
variable {P:Program} {ops:Array Oper} {hs:List Hd} {a0:Act} {C:World->Prop} {i:Nat} {o:Oper}
theorem BE (d:BA hs o=some true) (h:∀ a w,Di a->C w->B0 ops hs a0 o a w o.op.operands.toList->(execOp a o).run P w = .ok (.value c) w) :
 obl P C ops hs a0 i o (he c):=by
 unfold obl;rw [d];intro a w hp b e;rw [h a w hp b e];exact ⟨rfl,rfl⟩
theorem Rq (a:BA hs o=some false):obl P C ops hs a0 i o (he undef):=by
 unfold obl;rw [a];exact fun w _=>rfl
theorem GJ {x:Operand} (e:BA hs o=some true) (a:o.op = .move x\/o.op = .assign x) (h:∀ b w,Di b->B0 ops hs a0 o b w [x]->b x=c):obl P C ops hs a0 i o (he c) :=
 BE e fun b w hp _ d=>by
  rcases a with a|a <;>
  · rw [a] at d;simp only [execOp,a,h b w hp d];rfl
theorem Rr {p:Value->World->Prop} (k:BA hs o=some true)
 (h:∀ b w,Di b->C w->B0 ops hs a0 o b w o.op.operands.toList->∃ f a,(execOp b o).run P w = .ok (.enter f a) w/\Calls P f a w (fun e c=>∃ u,e = .returned u/\Ext w c/\p u c)) :
 obl P C ops hs a0 i o ⟨false, .pr p,cons⟩:=by
 unfold obl;rw [k];intro b w hp d l;obtain ⟨f,a,j,g⟩:=h b w hp d l;rw [j];exact g
theorem An (d:BA hs o=some true) (h:∀ a w,C w->(∀ v,a (.const v)=v)->B0 ops hs a0 o a w o.op.operands.toList->(execOp a o).run P w = .ok (.value c) w):obl P C ops hs a0 i o (he c):=BE d fun a w hp b e=>h a w b hp.const e
theorem Am {p:Value->World->Prop} (g:BA hs o=some true) (h:∀ b w,C w->(∀ v,b (.const v)=v)->(∀ f,b (.func f) = .func (.func f) #[] #[])->B0 ops hs a0 o b w o.op.operands.toList->∃ f a,(execOp b o).run P w = .ok (.enter f a) w/\Calls P f a w (fun e c=>∃ u,e = .returned u/\Ext w c/\p u c)):obl P C ops hs a0 i o ⟨false, .pr p,cons⟩:=Rr g fun b w hp d j=>h b w d hp.const hp.func j
end
def F8 (ops:Array Oper) (n:Nat) (i:Nat) (o:Oper):Bool :=
 (List.range n).all (fun j=>(anc ops 12 (Bz o)).contains j) || (Bz o).any (fun k=>n<=k && k<i)
def Cf (ops:Array Oper) (cons:List (Option Nat)) (size:Nat):Bool :=
 let n:=cons.length
 decide (n<=ops.size) && (List.range ops.size).all (fun i=>match ops[i]? with | some o=>if i<n then M5 ops cons n size i o else F8 ops n i o | none=>false) &&
 cons.all (fun k=>match k with | some k=>k<n | none=>true) &&
 Region.seqB .any ops (ops.size-n) n ((Array.range ops.size).map (fun j=>decide (j<n)))
section
variable {P:Program} {Q:Exit->Act->World->Prop}
theorem F9 {a:Act} (C:World->Prop) (b:List Hd)
 (N:Cf l.toArray (b.map (·.cons)) a.tmps.size=true)
 (a3:∀ w f,Ext w f->C w->C f) (hC:C w.drew) (a9:FH b)
 (Z:KC P C l.toArray b a 0 l b)
 (T:∀ f,C f->DA f (fun x=>wpList P l.toArray Q (l.drop b.length) x f) l b a):wpAny P .any l.toArray Q l.toArray.size (Array.replicate l.toArray.size false) a w.drew:=by
 unfold Cf at N;simp only [Bool.and_eq_true,List.length_map,decide_eq_true_eq] at N;obtain ⟨⟨⟨hn,O⟩,ac⟩,I⟩:=N;have ad:l.toArray.size=l.length:=by simp
 have g:∀ i o,l.toArray[i]?=some o->(i<b.length->DC l.toArray (b.map (·.cons)) b.length a.tmps.size i o)/\(b.length<=i->F8 l.toArray b.length i o=true):=by
  intro i o s;have G:i<l.toArray.size:=(Array.getElem?_eq_some_iff.1 s).1;have:=List.all_eq_true.1 O i (by simpa using G);rw [s] at this;simp only at this;refine ⟨fun h => ?_,fun h => ?_⟩
  · rw [if_pos h] at this;exact GU this
  · rw [if_neg (by omega)] at this;exact this
 have ab:∀ m listed x f,unl listed b.length=m->Ha l.toArray b a C listed x f->wpAny P .any l.toArray Q (m+(l.toArray.size-b.length)) listed x f:=by
  intro m
  induction m with
  | zero =>
   intro listed x f hu e;have q:=FK hu;have L:listed=(Array.range l.toArray.size).map (fun j=>decide (j<b.length)):=by
    apply Array.ext
    · rw [e.size]; simp
    · intro i h1 h2;simp only [Array.getElem_map,Array.getElem_range];by_cases G:i<b.length
      · have:=q i G;simp [h1] at this;simp [this,G]
      · have:=e.tailF i (by omega);simp [h1] at this;simp [this,G]
   -- the frame
   have ha:x=Cz (fun j=>match A1 l.toArray j with | some d=>x.tmps.getD d undef | none=>Classical.epsilon (fun v=>(AD b j).ty.ok v f)) 0 l b a:=by
    apply Oh
    · rw [E6]; exact e.defers
    · rw [GV]; exact e.tmps
    · intro t;by_cases J:∃ j o,j<b.length/\l[j]?=some o/\o.dst=some t
      · obtain ⟨j,o,H,s,r⟩:=J;have X:l.toArray[j]?=some o:=by simpa using s
        have A:=(g j o X).1 H
        rw [ID b l 0 a j o H s r (A.dst t r) (by
         intro k' o' a7 M a4;have Y:l.toArray[k']?=some o':=by simpa using M
         by_cases W:k'=j
         · exact W
         · have:=A.apart k' a7 W (by rw [Bw Y,a4,r]);rw [r] at this
           cases this)]
        rw [Nat.zero_add,Bw X,r]
      · rw [D7 b l 0 a (fun k o D s r=>J ⟨k,o,D,s,r⟩)];refine e.frame t fun j H _ r=>J ?_;unfold A1 at r;cases s:l.toArray[j]? with
        | none=>rw [s] at r; cases r
        | some o=>rw [s] at r; exact ⟨j,o,H,by simpa using s,r⟩
   have F:=IC (vs:=fun j=>match A1 l.toArray j with | some d=>x.tmps.getD d undef | none=>Classical.epsilon (fun v=>(AD b j).ty.ok v f)) b l 0 a (T f e.world)
    (by
     intro k D c R;rw [Nat.zero_add];cases r:A1 l.toArray k with
     | some d=>exact e.values k c D (q k D) R d r
     | none =>
      have:(AD b k).ty.ok (Classical.epsilon (fun v=>(AD b k).ty.ok v f)) f:=by
       apply Classical.epsilon_spec (p:=fun v=>(AD b k).ty.ok v f);refine ⟨c, ?_⟩;rw [show (AD b k).ty = .eq c from R];rfl
      have h2:(AD b k).ty = .eq c:=R;rw [h2] at this;simp only [Ty.ok] at this;rw [h2]
      exact this)
    (by
     intro k D p hp R;rw [Nat.zero_add]
     obtain ⟨v,hv,aa⟩:=e.facts k D (q k D) (by
      intro k' S;have h1:(AD b k).cons=none:=R;rw [h1] at S
      cases S)
     have h2:(AD b k).ty = .pr p:=hp;cases r:A1 l.toArray k with
     | some d =>
      simp only;rw [aa d r];rw [h2] at hv;exact hv
     | none =>
      have:(AD b k).ty.ok (Classical.epsilon (fun v=>(AD b k).ty.ok v f)) f:=Classical.epsilon_spec (p:=fun v=>(AD b k).ty.ok v f) ⟨v,hv⟩;simp only;rw [h2] at this |-
      exact this)
   rw [<-ha] at F;rw [Nat.zero_add];have hl:(l.drop b.length).length=l.toArray.size-b.length:=by simp
   rw [<-hl];rw [<-hl,<-L] at I;exact wpAny_of_seq (l.drop b.length) b.length listed x f (by intro j; simp) I F
  | succ m ih =>
   intro listed x f hu e;rw [show m+1+(l.toArray.size-b.length)=(m+(l.toArray.size-b.length))+1 by omega];refine ⟨fun z => ?_,fun i G => ?_⟩
   · obtain ⟨j,H,B,a6⟩:=FL (listed:=listed) (n:=b.length) (by omega);have V:j<l.toArray.size:=by omega
     have s:l.toArray[j]?=some l.toArray[j]:=Array.getElem?_eq_getElem V;have A:=(g j _ s).1 H
     have:j∈Region.ready .any l.toArray listed:=LT (by
      have:j<listed.size:=by rw [e.size]; exact V
      simpa [this] using B) s (fun p hp=>a6 p (A.lt p hp))
     rw [z] at this;cases this
   · obtain ⟨h0,o,s,a0⟩:=D0 G;have U:i<listed.size:=by rw [e.size]; exact (Array.getElem?_eq_some_iff.1 s).1
     have a5:listed.getD i false=false:=by simpa [U] using h0
     have K:i<b.length:=by
      rcases Nat.lt_or_ge i b.length with h|h
      · exact h
      · exfalso;have ht:=(g i o s).2 h;unfold F8 at ht;simp only [Bool.or_eq_true,List.all_eq_true,List.mem_range,List.contains_iff_mem,List.any_eq_true,Bool.and_eq_true,decide_eq_true_eq] at ht;rcases ht with ht|⟨k,D,a8,_⟩
        · obtain ⟨j,H,B,_⟩:=FL (listed:=listed) (n:=b.length) (by omega);rw [B6 e.closed 12 (Bz o) a0 j (ht j H)] at B;cases B
        · have:=a0 k D;rw [e.tailF k a8] at this;cases this
     refine Qw (by simpa using Z) a9 a3 e G K (fun o' M=>(g i o' M).1 K) fun a2 w2 a1 => ?_;refine ih _ a2 w2 ?_ a1;have:=KE U a5 K;omega
 have E:Ha l.toArray b a C (Array.replicate l.toArray.size false) a w.drew:=by
  have A:∀ j,(Array.replicate l.toArray.size false).getD j false=false:=fun j=>getD_replicate_false _ j;refine ⟨by simp,fun j _=>A j,(fun j h=>by rw [A j] at h; cases h),hC,rfl,rfl,fun _ _=>rfl,(fun j _ h=>by rw [A j] at h; cases h),(fun j c _ h=>by rw [A j] at h; cases h)⟩
 have y:unl (Array.replicate l.toArray.size false) b.length=b.length:=by
  have:∀ n,unl (Array.replicate l.toArray.size false) n=n:=by
   intro n
   induction n with
   | zero=>rfl
   | succ n ih=>rw [unl,ih,getD_replicate_false]; simp
  exact this _
 have:=ab b.length _ a w.drew y E
 rwa [show b.length+(l.toArray.size-b.length)=l.toArray.size by omega] at this
theorem Ab {id:Nat} {a:Act} (m:P.follows .mixedOrders=true) (C:World->Prop) (b:List Hd)
 (g:Cf l.toArray (b.map (·.cons)) a.tmps.size=true)
 (f:∀ w c,Ext w c->C w->C c) (k:C w.drew) (i:FH b)
 (e:KC P C l.toArray b a 0 l b)
 (d:∀ c,C c->DA c (fun j=>wpList P l.toArray Q (l.drop b.length) j c) l b a):(Code.region id l.toArray true).wp P Q a w :=
 wp_region_any m (F9 C b g f k i e d)
end
end Go.Proofs.YtlbmnokpiilfpaaGreatDoor
