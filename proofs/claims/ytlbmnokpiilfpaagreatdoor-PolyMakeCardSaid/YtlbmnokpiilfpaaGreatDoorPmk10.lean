/- Part Pmk10. -/
import Derived.Test.YtlbmnokpiilfpaaGreatDoorPmk9
import Derived.Test.YtlbmnokpiilfpaaGreatDoorPmk1
set_option maxRecDepth 100000
set_option maxHeartbeats 100000000
namespace Go.Proofs.YtlbmnokpiilfpaaGreatDoor
open Tryz Go Go.RowKit
variable {f:Act} {ops:Array Oper} {ok:Bool} {Q:Exit->Act->World->Prop} {z:Int} {m:List (List Int×Value)} {k:List Int} {seen xs ys:List Nat} {rest:List Oper} {N base c it n p r y:Nat} {o:Oper} {u x:Operand} {a b:Option Addr} {qa qb row:Option Nat} {et t:TypeId} {v:Value} {w w':World}
theorem RC {x:Nat} (b:x<18446744073709551616) (w:World):Calls prog 253 #[.int .u64 x] w fun e a=>e = .returned (.int .i64 (Lib.bitLen x))/\w=a:=by
 have:=Any.bits_Len64 Tf (x:Int) w (by omega) (by omega);rw [Int.toNat_natCast] at this;exact this.mono fun _ _ h=>⟨h.1,h.2.symm⟩
theorem TP {x:Nat} (b:x<18446744073709551616) (w:World):Calls prog 206 #[.int .u64 x] w fun e a=>e = .returned (.int .i64 (Lib.bitLen x))/\w=a:=by
 have:=Any.bits_Len UL (x:Int) w (by omega) (by omega);rw [Int.toNat_natCast] at this;exact this.mono fun _ _ h=>⟨h.1,h.2.symm⟩
theorem Lm (a:y<18446744073709551616):Lib.bitLen y<=64/\y<2^Lib.bitLen y/\(0<y->0<Lib.bitLen y/\2^(Lib.bitLen y-1)<=y):=by
 rcases Nat.eq_zero_or_pos y with h0|h0
 · subst h0;exact ⟨by decide,by decide,by omega⟩
 · obtain ⟨h1,h2,h3⟩:=Lib.bitLenAux_bounds 64 y (by omega) (by omega);have h4:Lib.bitLenAux 64 y<=64:=Lib.bitLen_le y 64 (by omega) (by omega);exact ⟨h4,h3,fun _=>⟨h1,h2⟩⟩
def TQ (w:World) (x:Nat) (e:Ending) (w':World):Prop:=∃ L:Nat,e = .returned (.int .i64 (L:Int))/\Ext w w'/\L<=10000/\x<P2 L/\(0<x->0<L/\P2 (L-1)<=x)
theorem Jc {x:Nat} (F:Wd w a n c x) (C:x<P2 9600):Calls prog 220 #[.slice a n c] w (TQ w x):=by
 have P:=F.len (k:=150) C;obtain ⟨d,h1,h2⟩:=F;clear C;rcases Nat.eq_zero_or_pos n with h0|h0
 · subst h0;have z:x=0:=DH h2 h1.len
   go_enter func220,ntmps220
   go_wp2;go_ret;exact ⟨0,rfl,Ext.refl w,by omega,by rw [z]; exact Lf 0,by omega⟩
 · obtain ⟨m,rfl⟩:∃ m,n=m+1:=⟨n-1,by omega⟩;obtain ⟨b,o,rfl,D⟩:=h1.at (j:=0) (by omega);have O:=D m (by omega);have g:=W.bnd_at h2.bnd (i:=m) (by rw [h1.len]; omega);have p:=Dd (B:=18446744073709551616) (l:=d) (m:=m) h1.len;have r:=BK h2.bnd (m:=m) (by rw [h1.len]; omega);rw [h2.val] at p;have v:0<d.getD m 0:=by
    have s:d≠[]:=by intro h; have:=h1.len; rw [h] at this; simp at this
    have h3:=h2.nrm s;rw [List.getLast_eq_getElem] at h3;have h4:d.length-1=m:=by rw [h1.len]; omega
    have h5:m<d.length:=by rw [h1.len]; omega
    have h6:d.getD m 0=d[d.length-1]'(by omega):=by simp [h4,h5]
    omega
   obtain ⟨Q,N,G⟩:=Lm g;obtain ⟨R,H⟩:=G v;have f:=RC g;have A:Hid (x<P2 (64*m+Lib.bitLen (d.getD m 0))/\P2 (64*m+Lib.bitLen (d.getD m 0)-1)<=x):=by
    show _/\_;generalize Lib.bitLen (d.getD m 0)=L at *
    generalize d.getD m 0=t at *
    generalize W.val 18446744073709551616 (d.take m)=S at *
    constructor
    · rw [Co,MI,p];have h5:(t+1)*18446744073709551616^m<=2^L*18446744073709551616^m:=Nat.mul_le_mul_right _ (by omega);rw [Nat.add_mul,Nat.one_mul] at h5;have q:18446744073709551616^m*P2 L=2^L*18446744073709551616^m:=Nat.mul_comm _ _;rw [q];omega
    · rw [show 64*m+L-1=64*m+(L-1) by omega,Co,MI,p];have h5:2^(L-1)*18446744073709551616^m<=t*18446744073709551616^m:=Nat.mul_le_mul_right _ H;have q:18446744073709551616^m*P2 (L-1)=2^(L-1)*18446744073709551616^m:=Nat.mul_comm _ _;rw [q];omega
   generalize Lib.bitLen (d.getD m 0)=L at *
   generalize d.getD m 0=t at *
   clear p r N G H D;have I:(((m+1:Nat):Int) == 0)=false:=by simp; omega
   have J:IntKind.i64.wrap (((m+1:Nat):Int)-1)=(m:Int):=by rw [show ((m+1:Nat):Int)-1=(m:Int) by omega]; exact IntWalk.i64_in _ (by omega)
   have E:IntKind.i64.wrap ((m:Int)+1-1)=(m:Int):=by rw [show (m:Int)+1-1=(m:Int) by omega]; exact IntWalk.i64_in _ (by omega)
   have y:IntKind.i64.wrap (m:Int)=(m:Int):=IntWalk.i64_in _ (by omega);have K:IntKind.i64.wrap (64*(m:Int))=64*(m:Int):=IntWalk.i64_in _ (by omega);have M:IntKind.i64.wrap (64*(m:Int)+(L:Int))=((64*m+L:Nat):Int):=by rw [show 64*(m:Int)+(L:Int)=((64*m+L:Nat):Int) by omega]; exact IntWalk.i64_in _ (by omega)
   go_enter func220,ntmps220
   go_wp2_with fail
   refine (f _).mono ?_;rintro e T ⟨rfl,rfl⟩;go_wp2;go_ret;exact ⟨64*m+L,CU (by omega),Ext.refl _,by omega,A.out.1,fun _=>⟨by omega,A.out.2⟩⟩
theorem HH (h:AB w v z) (j:z.natAbs<P2 9600):Calls prog 158 #[v] w (TQ w z.natAbs):=by
 obtain ⟨s,a,n,c,rfl,q,l⟩:=h;have g:=fun (p:World) (k:Ext w p)=>qh (Jc (l.ext k) j);clear j
 go_enter func158,ntmps158
 go_upto_region 1 with (fail)
 refine AE ?_;intro r d b i;have m:=b.c 0 rfl;have o:=b.c 1 rfl;clear i
 go_wp2_with fail
 refine (g _ d).out.mono ?_;rintro e t ⟨L,rfl,f,h1,h2,h3⟩;go_wp2;go_ret;exact ⟨L,rfl,d.trans f,h1,h2,h3⟩
theorem P3 {x k:Nat}:x^(n/2^k)=(if n/2^k%2=1 then x^(n/2^(k+1))*x^(n/2^(k+1))*x else x^(n/2^(k+1))*x^(n/2^(k+1))):=by
 have h:n/2^(k+1)=n/2^k/2:=by rw [Nat.pow_succ,Nat.div_div_eq_div_mul]
 rw [h];generalize n/2^k=m;split
 · rename_i h1;rw [<-Nat.pow_add,<-Nat.pow_succ];congr 1;omega
 · rw [<-Nat.pow_add];congr 1;omega
theorem H4 {x m:Nat} (h:m<=n):x^m<=x^n+1:=by
 rcases Nat.eq_zero_or_pos x with h0|h0
 · subst h0;rcases Nat.eq_zero_or_pos m with h1|h1
   · subst h1; simp
   · rw [Nat.zero_pow h1]; exact Nat.zero_le _
 · have:=Nat.pow_le_pow_right h0 h;omega
theorem Kk {a:Nat} (h:1<=a):1<P2 a:=by
 obtain ⟨b,rfl⟩:∃ b,a=b+1:=⟨a-1,by omega⟩;have:=Lf b;rw [Co];show 1<P2 b*2;omega
theorem TR {a:Nat} (h:r*r<P2 (a+a)):r<P2 a:=by
 rw [Co] at h;rcases Nat.lt_or_ge r (P2 a) with h1|h1
 · exact h1
 · have:=Nat.mul_le_mul h1 h1;omega
theorem H5 {x e:Nat} (hx:Wd w a n c x) (Z:x<P2 2496) (he:e<18446744073709551616) (R:x^e<P2 4990):Calls prog 230 #[.slice a n c, .int .u64 e] w (Jv w (x^e)):=by
 obtain ⟨l1,l2,_⟩:=Lm he;have o:=TP he
 have r:∀ k,x^(e/2^k)<P2 4991:=fun k=>by
  have:=H4 (x:=x) (Nat.div_le_self e (2^k));exact Nat.lt_of_le_of_lt this (I8 R (Kk (by omega)))
 have F:∀ k,x^(e/2^(k+1))<P2 2496:=fun k=>by
  apply TR;have h1:=r k;have h2:e/2^(k+1)=e/2^k/2:=by rw [Nat.pow_succ,Nat.div_div_eq_div_mul]
  rw [h2,<-Nat.pow_add];have h3:=H4 (x:=x) (m:=e/2^k/2+e/2^k/2) (n:=e) (by have:=Nat.div_le_self e (2^k); omega);have h4:x^e+1<P2 (4990+1):=I8 R (Kk (by omega));exact Ah (Nat.lt_of_le_of_lt h3 h4) (by omega)
 have a0:=qh r;have O:=qh F;have Y:=qh Z;have K:=qh l2;clear r F Z R l2;generalize Lib.bitLen e=L at *
 have T:IntKind.i64.wrap ((L:Int)-1)=(L:Int)-1:=IntWalk.i64_in _ (by omega)
 go_enter func230,ntmps230
 go_wp2_with fail
 refine (o _).mono ?_;rintro e2 X ⟨rfl,rfl⟩;go_wp2;refine AE ?_;intro X B A U;have l:Wd X (some ⟨w.heap.size,0,none⟩) 1 1 1:=by
  have hA:Bu .u64 X w.heap.size 238 [1]:=A;have h1:=hA.sl (n:=1) (c:=1) (by simp) (by omega) (by unfold maxLen; omega);exact ⟨[1],h1,fun y hy=>by simp at hy; omega,W.nrm_single (by omega),by simp [W.val]⟩
 have z:Hid (x^(e/2^L)=1):=by show _=_; rw [Nat.div_eq_of_lt K.out,Nat.pow_zero]
 clear U A o
 go_loopw [5,6] (fun rv V wr=>∃ (k:Nat) (H:Option Addr) (J I:Nat),rv = .slice H J I/\V = .int .i64 ((k:Int)-1)/\k<=L/\Ext w wr/\Wd wr H J I (x^(e/2^k))) (fun _ V _=>(intOf V+1).toNat)
 case atStart=>exact ⟨L,_,1,1,rfl,rfl,lrf _,B,by rw [z.out]; exact l⟩
 case round =>
  clear l z B T;obtain ⟨k,H,J,I,rfl,rfl,hk,hE,G⟩:=hrel;cases k with
  | zero =>
   go_wp2;go_ret;exact ⟨H,J,I,rfl,hE,by rw [Nat.pow_zero,Nat.div_one] at G; exact G⟩
  | succ k =>
   have l:((k+1:Nat):Int)-1=(k:Int):=by omega
   rw [l];have d:=O.out k;have i:=qh (Rt G G (Ah d (by omega)) (Ah d (by omega)) (Or.inl d));have E:=P3 (x:=x) (n:=e) (k:=k);have f:=qh E;have p:x^(e/2^(k+1))*x^(e/2^(k+1))<P2 9600:=Ah (B9 d d) (by omega);have N:=qh p;have S:(e:Int)/2^k=((e/2^k:Nat):Int):=by push_cast; rfl
   have D:e/2^k<18446744073709551616:=Nat.lt_of_le_of_lt (Nat.div_le_self _ _) he;have g:bits BinOp.and IntKind.u64 ((e/2^k:Nat):Int) 1=((e/2^k%2:Nat):Int):=by
    have:=bits_and_u64_nat (e/2^k) 1 D (by omega);rw [Nat.and_one_is_mod] at this;exact this
   clear E p d;obtain ⟨t,s⟩:∃ t,e/2^k=t:=⟨_,rfl⟩;rw [s] at g S f D;have v:=qh s;clear s
   go_wp2_with fail
   refine i.out.mono ?_;rintro e2 w2 ⟨qa,qn,qc,rfl,P,hq⟩;have q:=hE.trans P;by_cases b:t%2=1
   · rw [b] at g;have j:=qh (Rt hq (hx.ext q) N.out (Ah Y.out (by omega)) (Or.inr Y.out));have M:Hid (x^t=x^(e/2^(k+1))*x^(e/2^(k+1))*x):=by
      show _=_;have:=f.out;rw [if_pos b] at this;exact this
     clear b i f
     go_wp2_with fail
     refine j.out.mono ?_;rintro e2 w3 ⟨pa,pn,pc,rfl,Q,hp⟩;clear j;go_wp2;go_roundw
     case rel=>exact ⟨k,pa,pn,pc,rfl,by go_num,by omega,q.trans Q,by rw [v.out,M.out]; exact hp⟩
     case measure=>simp [intOf]
   · have C:t%2=0:=by omega
     rw [C] at g;have M:Hid (x^t=x^(e/2^(k+1))*x^(e/2^(k+1))):=by
      show _=_;have:=f.out;rw [if_neg b] at this;exact this
     clear C b i f;go_wp2;go_roundw
     case rel=>exact ⟨k,qa,qn,qc,rfl,by go_num,by omega,q,by rw [v.out,M.out]; exact hq⟩
     case measure=>simp [intOf]
theorem SZ (w:World):Wd (w.alloc (.cells #[.int .u64 1] 238)) (some ⟨w.heap.size,0,none⟩) 1 1 1:=by
 refine ⟨[1],(Az w w.heap.size 238 #[.int .u64 1] 1 rfl (lrf _) (by omega)).sl,⟨fun x a=>by simp at a; omega,W.nrm_single (by omega),by simp [W.val]⟩⟩
theorem RD {x:Int} (C:BR w base p qa qb N z) (r:AB w v x) (I:GK (fun g=>qa≠some g/\qb≠some g) v) (E:x.natAbs<P2 9600) (F:N<=100000000) (G:base<=w.heap.size) :
 Calls prog 190 #[.pointer (some ⟨p,0,none⟩),v] w (SU w base p qa qb N (z+x)):=by
 obtain ⟨s,a,n,c,rfl,D,r⟩:=r
 go_enter func190,ntmps190
 go_upto_region 1 with (fail)
 refine AE ?_;intro l f b t;have K:=b.c 0 rfl;have L:=b.c 1 rfl;have o:=(Ext.refl l).alloc (.cells #[.int .u64 1] 238);have d:=f.trans o;have k:=SZ l;have j:=C.lt;have H:=f.size
 have i:=De (C.ext d) (v := .agg (Ac s a n c).toArray) ⟨s,a,n,c,rfl,D,r.ext d⟩ (v' := .agg (Ac false (some ⟨l.heap.size,0,none⟩) 1 1).toArray) (y:=1) ⟨false,_,1,1,rfl,qh rfl,k⟩ I (C2 fun _ g q=>by
  have:l.heap.size=g:=by simpa [blk] using q
  subst this;refine ⟨fun h => ?_,fun h => ?_⟩
  · have:=(j.2.1 _ h).2; omega
  · have:=(j.2.2 _ h).2; omega) E (Kk (by omega)) (Or.inr (Kk (by omega))) F (Nat.le_trans G d.size)
 have m:=qh i;clear i k b t
 go_wp2_with fail
 refine m.out.mono ?_;rintro e M ⟨rfl,A,B,h1,h2,h3,h4⟩;go_wp2
 go_end0
 rw [Int.mul_one] at h1;have J:=d.size;refine ⟨rfl,A,B,h1,(Kp.ofExt d).trans h2 (fun _ _ h=>h), ?_, ?_⟩
 · rcases h3 with h|⟨g,h,q⟩
   · exact Or.inl h
   · exact Or.inr ⟨g,h,by omega⟩
 · rcases h4 with h|⟨g,h,q⟩
   · exact Or.inl h
   · exact Or.inr ⟨g,h,by omega⟩
theorem C5 {m d:Nat} {x:Nat} (H:SlN .u64 w a n c xs) (I:SlN .u64 w b m d ys) (K:Num 18446744073709551616 xs x) (L:Num 18446744073709551616 ys y) (X:n<=200000000) (v:y<=x) (P:∀ g,blk b=some g->g<w.heap.size) :
 Calls prog 233 #[.slice a n c, .slice b m d] w (Gf .u64 18446744073709551616 w (x-y)):=by
 have j:=qh H.len;have M:=qh I.len;have k:=qh K;have l:=qh L;have i:=qh v;clear K L v;have E:m<=n:=by
  refine Classical.byContradiction fun V => ?_;have:=W.len_lt (B:=18446744073709551616) (by omega) k.out.bnd l.out.nrm (by rw [j.out,M.out]; omega);rw [k.out.val,l.out.val] at this;have:=i.out;omega
 go_enter func233,ntmps233
 go_upto_region 2 with (at_make; refine Cs (n:=n) rfl rfl underlying81 AA rfl rfl rfl (by omega) (by unfold maxLen; omega) ?_; intro Y r f)
 have hA1:=(Av.of_zeros r).arr
 go_upto_region 3 with (refine Jw (sT:=81) rfl rfl underlying81 AA rfl rfl hA1 (H.ext f) (lrf _) (by simp) (Ht _) ?_; intro z o s)
 have hA2:Bu .u64 z w.heap.size 238 xs:=by
  have:=Kf (w:=z) (g:=w.heap.size) (N:=n) (xs:=xs) (t:=238) (by rw [j.out]; exact o);rw [j.out,Nat.sub_self] at this;simpa using this
 have p:Ext w z:=f.grownR s (lrf _);have C:Av .u64 z w.heap.size 238 w.heap.size n n xs:=by
  have:=Bu.own hA2 (lrf _) (by rw [j.out]; unfold maxLen; omega);rw [j.out] at this;exact this
 have F:blk b=none\/blk b≠some w.heap.size:=by
  cases D:blk b with
  | none=>exact Or.inl rfl
  | some g=>right; have:=P g D; simp; omega
 clear hA1 o s hA2 r f
 go_wp2_with fail
 refine (DE C (I.ext p) F k.out.bnd l.out.bnd E (by rw [k.out.val,l.out.val]; exact i.out)).mono ?_;rintro e Z ⟨rfl,Q,zs,J,O,G⟩;rw [k.out.val,l.out.val] at G;have A:=p.grownR Q (lrf _)
 go_wp2_with fail
 refine (A3 J.sl).mono ?_;rintro e w4 ⟨q,rfl,rfl,R,S⟩;obtain ⟨T,U⟩:=Be J.sl R S O G;go_wp2;go_ret;exact ⟨_,q,_,_,rfl,A,T,U⟩
theorem Jx (b:SlN .u64 w a n c xs) :
 Calls prog 231 #[.slice a n c] w fun e d=>e = .returned (.slice a (W.trim xs).length c)/\d=w:=by
 refine (A3 b).mono ?_;rintro e d ⟨m,rfl,rfl,f,g⟩;refine ⟨?_,rfl⟩;rw [g,List.length_take,b.len,Nat.min_eq_left f]
theorem NQ (f:SlN .u64 w a n c xs):SlN .u64 w a (W.trim xs).length c (W.trim xs):=by
 obtain ⟨k,g,e⟩:=W.trimTo_prefix (xs:=xs) (lrf xs.length);have d:W.trim xs=xs.take k:=e;have b:k<=n:=by rw [<-f.len]; exact g
 have h:=f.upto b;have i:(W.trim xs).length=k:=by rw [d,List.length_take]; omega
 rw [i,d];exact h
theorem Jy (hS:BR w base p qa qb N z) (hN:N<=100000000) :
 Calls prog 192 #[.pointer (some ⟨p,0,none⟩)] w (DI w z):=by
 obtain ⟨B,pn,Y,A,nn,X,q,o,hA,aj,ak,a6,a5,bp,bn,ah,ai,ao,am,hz,ap⟩:=hS;have y:SlN .u64 w B pn Y q:=a6.sl;have t:SlN .u64 w A nn X o:=a5.sl;have ag:∀ g,blk B=some g->g<w.heap.size:=fun g M=>(a6.lt M).2;have af:∀ g,blk A=some g->g<w.heap.size:=fun g M=>(a5.lt M).2;have np:Num 18446744073709551616 (W.trim q) (W.val 18446744073709551616 q):=Num.trim bp rfl;have a9:Num 18446744073709551616 (W.trim o) (W.val 18446744073709551616 o):=Num.trim bn rfl;have aq:(W.trim q).length<=pn:=by
  obtain ⟨k,hk,e⟩:=W.trimTo_prefix (xs:=q) (lrf q.length);have e':W.trim q=q.take k:=e;rw [e',List.length_take,y.len]; omega
 have an:(W.trim o).length<=nn:=by
  obtain ⟨k,hk,e⟩:=W.trimTo_prefix (xs:=o) (lrf o.length);have e':W.trim o=o.take k:=e;rw [e',List.length_take,t.len]; omega
 have S:=NQ y;have R:=NQ t;have a1:=fun (a:World) (b:Ext w a)=>qh (Jx (y.ext b));have a0:=fun (a:World) (b:Ext w a)=>qh (Jx (t.ext b));generalize W.val 18446744073709551616 q=P at *
 generalize W.val 18446744073709551616 o=s at *
 have E:=qh np;have D:=qh a9;generalize W.trim q=tp at *
 generalize W.trim o=tn at *
 generalize ab:tp.length=lp at *
 generalize aa:tn.length=ln at *
 have HZ:=qh hz;clear np a9 hz bp bn ah ai aj ak ab aa
 go_enter func192,ntmps192
 go_upto_region 1 with (fail)
 refine AE ?_;intro w0 f a2 al;have u0:w0.cell? ⟨p,0,none⟩=some (.slice B pn Y):=(hA.ext f).cell (i:=0) (by simp [Gc]);have u1:w0.cell? ⟨p,1,none⟩=some (.slice A nn X):=(hA.ext f).cell (i:=1) (by simp [Gc]);have hR:Arr w0 w.heap.size 83 (Ac false none 0 0):=a2;clear a2 al hA;have r:=fun (a:World) (b:Ext w0 a)=>qh (And.intro (b.cell u0) (b.cell u1))
 refine Ab (by kernel_rfl) (fun a=>Ext w0 a)
  [he (.pointer (some ⟨p,0,none⟩)),
 he (.pointer (some ⟨p,0,none⟩)),
 he (.pointer (some ⟨p,0,none⟩)),
 he (.slice B pn Y),
 hp (fun v a=>v = .slice B lp Y),
 he (.pointer (some ⟨p,0,none⟩)),
 he (.pointer (some ⟨p,0,none⟩)),
 he (.pointer (some ⟨p,1,none⟩)),
 he (.slice A nn X),
 hp (fun v a=>v = .slice A ln X),
 hp (fun v a=>v = .slice B lp Y),
 hp (fun v a=>v = .slice A ln X)]
  (by kernel_rfl) (fun _ _ e h=>h.trans e) ((Ext.refl w0).drew) ⟨trivial,trivial,trivial,trivial,fun _ _ _ _ h=>h,trivial,trivial,trivial,trivial,fun _ _ _ _ h=>h,fun _ _ _ _ h=>h,fun _ _ _ _ h=>h,trivial⟩ ⟨?o0, ?o1, ?o2, ?o3, ?o4, ?o5, ?o6, ?o7, ?o8, ?o9, ?o10, ?o11,trivial⟩ ?fin
 case o0 | o5=>exact omv
 case o1 | o6=>exact onc
 case o2=>exact ofa (d:=0)
 case o3 | o8=>exact ol
 case o7=>exact ofa (d:=1)
 case o4 =>
  refine Am rfl fun ρ a b n L h => ?_;have e1:ρ (.tmp 8)=(.slice B pn Y):=h.2.1;obtain ⟨k0,k1⟩:=(r a b).out;refine ⟨231,#[.slice B pn Y],by go_simp,((a1 a (f.trans b)).out).mono ?_⟩;rintro e w' ⟨rfl,rfl⟩;exact ⟨_,rfl,Ext.refl _,rfl⟩
 case o9 =>
  refine Am rfl fun ρ a b n L h => ?_;have e1:ρ (.tmp 13)=(.slice A nn X):=h.2.1;obtain ⟨k0,k1⟩:=(r a b).out;refine ⟨231,#[.slice A nn X],by go_simp,((a0 a (f.trans b)).out).mono ?_⟩;rintro e w' ⟨rfl,rfl⟩;exact ⟨_,rfl,Ext.refl _,rfl⟩
 case o10 =>
  refine AY rfl ?_;intro ρ a hp b h;have n:=hp.const;have L:=hp.func;obtain ⟨v0,e0,rfl⟩:=h.1;obtain ⟨k0,k1⟩:=(r a b).out;exact ⟨_,a,by go_simp,Ext.refl _,rfl⟩
 case o11 =>
  refine AY rfl ?_;intro ρ a hp b h;have n:=hp.const;have L:=hp.func;obtain ⟨v0,e0,rfl⟩:=h.1;obtain ⟨k0,k1⟩:=(r a b).out;exact ⟨_,a,by go_simp,Ext.refl _,rfl⟩
 case fin =>
  intro a b;rintro _ rfl;rintro _ rfl;rintro _ rfl;rintro _ rfl;change wpList _ _ _ _ _ _;simp only [la,lb,ld,lz,Act.put,lq,ly,lx];have K:=f.trans b;have ac:=hR.ext b;clear a1 a0 u0 u1 f hR y t b;obtain ⟨w1,rfl⟩:∃ x:World,x=a:=⟨_,rfl⟩;have a8:=A0 (S.ext K) (R.ext K) E.out D.out
  go_wp2_with fail
  refine a8.mono ?_;rintro e w2 ⟨rfl,hQ⟩;have c:=K.trans hQ.ext;have a7:=ac.ext hQ.ext;clear a8;by_cases Q:s<=P
  · have ad:0<=AN (P:Int) (s:Int):=Cg.2 Q;have C:=qh (C5 (S.ext c) (R.ext c) E.out D.out (by omega) Q (fun g M=>Nat.lt_of_lt_of_le (af g M) c.size));have G:Hid (z=if (false=true) then -((P-s:Nat):Int) else ((P-s:Nat):Int)):=qh (by rw [HZ.out]; simp; omega);generalize AN (P:Int) (s:Int)=cv at *
    go_wp2_with fail
    refine C.out.mono ?_;intro e w3 hr;obtain ⟨a3,n3,c3,rfl,j,T⟩:=hr.wd
    go_wp2_with fail
    refine (Bm T G.out).mono ?_;rintro e w4 ⟨Z,H,V,I,rfl,l,F,U⟩;have ae:(Ac Z H V I).toArray=#[.bool Z, .slice H V I]:=rfl;have m:=(a7.ext j).ext l
    go_wp2_with (refine Aa (vs:=Ac Z H V I) rfl rfl rfl rfl rfl Ag m rfl (Ad _ _ _ _) ?_; intro w9 J O)
    exact bodyPost_ret (Al rfl Ag rfl J) rfl (Bc ((c.trans j).trans l) m (Ay _ _ _ _) O (lrf _) F U)
  · have ad:¬ 0<=AN (P:Int) (s:Int):=fun h=>Q (Cg.1 h);have C:=qh (C5 (R.ext c) (S.ext c) D.out E.out (by omega) (by omega) (fun g M=>Nat.lt_of_lt_of_le (ag g M) c.size));have G:Hid (z=if (true=true) then -((s-P:Nat):Int) else ((s-P:Nat):Int)):=qh (by rw [HZ.out]; simp; omega);generalize AN (P:Int) (s:Int)=cv at *
    go_wp2_with fail
    refine C.out.mono ?_;intro e w3 hr;obtain ⟨a3,n3,c3,rfl,j,T⟩:=hr.wd
    go_wp2_with fail
    refine (Bm T G.out).mono ?_;rintro e w4 ⟨Z,H,V,I,rfl,l,F,U⟩;have ae:(Ac Z H V I).toArray=#[.bool Z, .slice H V I]:=rfl;have m:=(a7.ext j).ext l
    go_wp2_with (refine Aa (vs:=Ac Z H V I) rfl rfl rfl rfl rfl Ag m rfl (Ad _ _ _ _) ?_; intro w9 J O)
    exact bodyPost_ret (Al rfl Ag rfl J) rfl (Bc ((c.trans j).trans l) m (Ay _ _ _ _) O (lrf _) F U)
def Bp (k:List Int):Value := .agg (k.map (Value.int .i64)).toArray
structure Fs (P:Program) (kt et:TypeId):Prop where
 arr:P.underlying kt=some (.array 6 et)
 int:P.underlying et=some (.int .i64)
 size:(P.info? et).map (·.size)=some 1
theorem six (h:k.length=6):∃ a b c d e f,k=[a,b,c,d,e,f]:=by
 match k,h with
 | [a,b,c,d,e,f],_=>exact ⟨a,b,c,d,e,f,rfl⟩
section
variable {P:Program} {kt et:TypeId} (w:World)
theorem AO (a:Fs P kt et) (cs:Array Value) (i:Nat) (v:Value) (h:cs[i]?=some v):(part et cs i).run P w = .ok v w:=by
 simp [part,isAgg,run_underlying a.int,h]
theorem G6 (c:Fs P kt et) (d:Nat) (a b:Int):(Op.equalIn (d+1) et (.int .i64 a) (.int .i64 b)).run P w = .ok (a == b) w:=by
 simp [Op.equalIn,run_underlying c.int]
theorem Jd (l:Fs P kt et) (d:Nat) {a b:List Int} (A:a.length=6) (B:b.length=6) :
 (Op.equalIn (d+2) kt (Bp a) (Bp b)).run P w = .ok (decide (a=b)) w:=by
 obtain ⟨m,n,o,p,q,r,rfl⟩:=six A;obtain ⟨s,t,v,x,y,z,rfl⟩:=six B;obtain ⟨i,C,F⟩:∃ i,P.info? et=some i/\i.size=1:=by
  have:=l.size;cases h:P.info? et with
  | none=>rw [h] at this; cases this
  | some i=>rw [h] at this; exact ⟨i,rfl,by simpa using this⟩
 have D:List.range' 0 6=[0,1,2,3,4,5]:=rfl;have he:=fun (a b:Int) (w:World)=>G6 w l d a b;have G:∀ (c e f g j k:Value) (w:World),(part et #[c,e,f,g,j,k] 0).run P w = .ok c w:=fun _ _ _ _ _ _ w=>AO w l _ 0 _ rfl;have H:∀ (c e f g j k:Value) (w:World),(part et #[c,e,f,g,j,k] 1).run P w = .ok e w:=fun _ _ _ _ _ _ w=>AO w l _ 1 _ rfl;have I:∀ (c e f g j k:Value) (w:World),(part et #[c,e,f,g,j,k] 2).run P w = .ok f w:=fun _ _ _ _ _ _ w=>AO w l _ 2 _ rfl
 have J:∀ (c e f g j k:Value) (w:World),(part et #[c,e,f,g,j,k] 3).run P w = .ok g w:=fun _ _ _ _ _ _ w=>AO w l _ 3 _ rfl;have K:∀ (c e f g j k:Value) (w:World),(part et #[c,e,f,g,j,k] 4).run P w = .ok j w:=fun _ _ _ _ _ _ w=>AO w l _ 4 _ rfl;have L:∀ (c e f g j k:Value) (w:World),(part et #[c,e,f,g,j,k] 5).run P w = .ok k w:=fun _ _ _ _ _ _ w=>AO w l _ 5 _ rfl;rw [Op.equalIn];simp only [Bp,Sem.run_bind,run_underlying l.arr,Result.andThen_ok];generalize M:Op.equalIn (d+1) et=E at *
 simp [sizeOf,typeInfo,C,F,D,G,H,I,J,K,L,he];by_cases h0:m=s <;> simp [h0];by_cases h1:n=t <;> simp [h1];by_cases h2:o=v <;> simp [h2];by_cases h3:p=x <;> simp [h3];by_cases h4:q=y <;> simp [h4];by_cases h5:r=z <;> simp [h5]
theorem Gh (c:Fs P kt et) (b:Bool) (d:Nat) (a:Int):(Instr.checkKey b (d+1) et (.int .i64 a)).run P w = .ok () w:=by
 rw [Instr.checkKey];simp [run_underlying c.int]
theorem Ft (k:Fs P kt et) (l:Bool) (d:Nat) {a:List Int} (m:a.length=6):(Instr.checkKey l (d+2) kt (Bp a)).run P w = .ok () w:=by
 obtain ⟨y,z,A,B,C,D,rfl⟩:=six m;obtain ⟨i,n,p⟩:∃ i,P.info? et=some i/\i.size=1:=by
  have:=k.size;cases h:P.info? et with
  | none=>rw [h] at this; cases this
  | some i=>rw [h] at this; exact ⟨i,rfl,by simpa using this⟩
 have o:List.range' 0 6=[0,1,2,3,4,5]:=rfl;have he:=fun (a:Int) (w:World)=>Gh w k l d a;have q:∀ (b c e f g j:Value) (w:World),(part et #[b,c,e,f,g,j] 0).run P w = .ok b w:=fun _ _ _ _ _ _ w=>AO w k _ 0 _ rfl;have r:∀ (b c e f g j:Value) (w:World),(part et #[b,c,e,f,g,j] 1).run P w = .ok c w:=fun _ _ _ _ _ _ w=>AO w k _ 1 _ rfl;have s:∀ (b c e f g j:Value) (w:World),(part et #[b,c,e,f,g,j] 2).run P w = .ok e w:=fun _ _ _ _ _ _ w=>AO w k _ 2 _ rfl
 have t:∀ (b c e f g j:Value) (w:World),(part et #[b,c,e,f,g,j] 3).run P w = .ok f w:=fun _ _ _ _ _ _ w=>AO w k _ 3 _ rfl;have v:∀ (b c e f g j:Value) (w:World),(part et #[b,c,e,f,g,j] 4).run P w = .ok g w:=fun _ _ _ _ _ _ w=>AO w k _ 4 _ rfl;have x:∀ (b c e f g j:Value) (w:World),(part et #[b,c,e,f,g,j] 5).run P w = .ok j w:=fun _ _ _ _ _ _ w=>AO w k _ 5 _ rfl;rw [Instr.checkKey];simp only [Bp,Sem.run_bind,run_underlying k.arr,Result.andThen_ok];generalize F:Instr.checkKey l (d+1) et=E at *
 simp [sizeOf,typeInfo,n,p,o,q,r,s,t,v,x,he]
end
def By:Nat->List (List Int×Value)->List MapEntry
 | _,[]=>[]
 | i,(k,v) :: r=>{ key:=Bp k,val:=v,born:=i } :: By (i+1) r
structure A5 (w:World) (r:Nat) (m:List (List Int×Value)):Prop where
 obj:w.heap[r]?=some (.map (By 0 m).toArray m.length)
 six:∀ p∈m,p.1.length=6
 nodup:(m.map (·.1)).Nodup
def Ca (k:List Int):Nat->List (List Int×Value)->Option (Nat×Value)
 | _,[]=>none
 | i,(k',v) :: r=>if k=k' then some (i,v) else Ca k (i+1) r
theorem Fc {k:List Int}:∀ {i:Nat} {m:List (List Int×Value)},Ca k i m=none<->k ∉ m.map (·.1)
 | _,[]=>by simp [Ca]
 | i,(k',v) :: r=>by
  unfold Ca;by_cases h:k=k'
  · simp [h]
  · simp [h,Fc (i:=i+1) (m:=r)]
theorem Df:∀ (i:Nat) (m:List (List Int×Value)),(By i m).length=m.length
 | _,[]=>rfl
 | i,(_,_) :: r=>by simp [By,Df (i+1) r]
theorem GL:∀ (i:Nat) (m:List (List Int×Value)) (k:List Int) (v:Value),By i (m ++ [(k,v)])=By i m ++ [{ key:=Bp k,val:=v,born:=i+m.length }]
 | _,[],_,_=>rfl
 | i,(_,_) :: r,k,v=>by
  simp only [List.cons_append,By,GL (i+1) r k v,List.length_cons];rw [Nat.add_assoc,Nat.add_comm 1]
section
variable {P:Program} {kt et:TypeId} (w:World)
theorem En (d:Fs P kt et) {k:List Int} (h6:k.length=6):∀ (m:List (List Int×Value)) (b i:Nat),(∀ p∈m,p.1.length=6) ->
 (Instr.findAsking kt (Bp k) (By b m) i).run P w = .ok (Ca k i m) w
 | [],_,_,_=>by simp [Instr.findAsking,By,Ca]
 | (k',v) :: r,b,i,h=>by
  have h1:k'.length=6:=h (k',v) (by simp);have c:(Op.equal kt (Bp k) (Bp k')).run P w = .ok (decide (k=k')) w:=Jd w d 9998 h6 h1;have e:=En d h6 r (b+1) (i+1) (fun p hp=>h p (by simp [hp]));unfold By Ca;rw [Instr.findAsking];simp only [Sem.run_bind,c,Result.andThen_ok];by_cases a:k=k'
  · simp [a]
  · simp [a,e]
theorem GM (a:Fs P kt et) {k:List Int} (h6:k.length=6) (m:List (List Int×Value)) (h:∀ p∈m,p.1.length=6) :
 (Instr.findKey kt (Bp k) (By 0 m)).run P w = .ok (Ca k 0 m) w:=by
 have c:Instr.findNow (.array 6 et) (Bp k) (By 0 m) 0=if m=[] then some none else none:=by
  cases m with
  | nil=>rfl
  | cons p r=>obtain ⟨d,v⟩:=p; simp [By,Instr.findNow,Instr.sameNow]
 simp only [Instr.findKey,Sem.run_bind,run_underlying a.arr,Result.andThen_ok,c];by_cases b:m=[]
 · subst b; simp [Ca]
 · simp [b,En w a h6 m 0 0 h]
end
theorem A5.lt (h:A5 w r m):r<w.heap.size:=by
 rcases Nat.lt_or_ge r w.heap.size with b|a
 · exact b
 · have:=h.obj; rw [Array.getElem?_eq_none a] at this; cases this
theorem A5.of_block (h:A5 w r m) (e:w'.heap[r]?=w.heap[r]?):A5 w' r m:=⟨e.trans h.obj,h.six,h.nodup⟩
theorem A5.ext (h:A5 w r m) (e:Ext w w'):A5 w' r m:=h.of_block (e.block h.lt)
theorem A5.kept (h:A5 w r m) (b:w.grownBy w' row) (a:some r≠row):A5 w' r m:=h.of_block (b.block r h.lt a)
def Eo (z:Value) (m:List (List Int×Value)) (k:List Int):Value:=((Ca k 0 m).map (·.2)).getD z
def S0 (m:List (List Int×Value)) (k:List Int):Bool:=(Ca k 0 m).isSome
def Ln (m:List (List Int×Value)) (k:List Int) (v:Value):List (List Int×Value) :=
 match Ca k 0 m with
 | some (i,_)=>m.set i (k,v)
 | none=>m ++ [(k,v)]
theorem H6 {k:List Int}:∀ {j:Nat} {m:List (List Int×Value)} {i:Nat} {v:Value},Ca k j m=some (i,v)->j<=i/\m[i-j]?=some (k,v)
 | _,[],_,_,h=>by simp [Ca] at h
 | j,(k',v') :: r,i,v,h=>by
  unfold Ca at h;by_cases hk:k=k'
  · rw [if_pos hk] at h;simp only [Option.some.injEq,Prod.mk.injEq] at h;obtain ⟨rfl,rfl⟩:=h;subst hk;simp
  · rw [if_neg hk] at h;obtain ⟨h1,h2⟩:=H6 h;refine ⟨by omega, ?_⟩;rw [show i-j=(i-(j+1))+1 by omega];simpa using h2
theorem Dn:∀ (j:Nat) (m:List (List Int×Value)) (i:Nat),(By j m)[i]?=(m[i]?).map (fun p=>{ key:=Bp p.1,val:=p.2,born:=j+i })
 | _,[],_=>by simp [By]
 | j,(k,v) :: r,0=>by simp [By]
 | j,(k,v) :: r,i+1=>by
  simp only [By,List.getElem?_cons_succ,Dn (j+1) r i];rw [Nat.add_assoc,Nat.add_comm 1 i]
theorem P4:∀ (j:Nat) (m:List (List Int×Value)) (i:Nat) (k:List Int) (v:Value),i<m.length->By j (m.set i (k,v))=(By j m).set i { key:=Bp k,val:=v,born:=j+i }:=by
 intro j m i k v b;apply List.ext_getElem?;intro t;rw [Dn,List.getElem?_set,List.getElem?_set,Df];by_cases a:i=t
 · subst a;simp [b]
 · simp [a,Dn]
theorem Kl (k:List Int):Instr.sameBits 10000 (Bp k) (Bp k)=true:=by
 have h:∀ (l:List Value) (n:Nat),(∀ v∈l,∃ a,v=Value.int .i64 a)->(l.zip l).all (fun x=>Instr.sameBits n x.1 x.2)=true:=by
  intro l n
  induction l with
  | nil=>intro _; rfl
  | cons v r ih =>
   intro b;obtain ⟨a,rfl⟩:=b v (by simp);simp only [List.zip_cons_cons,List.all_cons,Bool.and_eq_true];refine ⟨?_,ih (fun u hu=>b u (by simp [hu]))⟩;cases n <;> simp [Instr.sameBits]
 show Instr.sameBits (9999+1) (.agg _) (.agg _)=true;rw [Instr.sameBits];simp only [beq_self_eq_true,Bool.true_and];exact h _ 9999 (by intro v b; simp only [List.mem_map] at b; obtain ⟨a,_,rfl⟩:=b; exact ⟨a,rfl⟩)
section
variable {P:Program} {kt et mt vt:TypeId} {w:World}
theorem H7 (g:P.underlying mt=some (.map kt vt)) (f:Fs P kt et) {z:Value} (j:(zeroValue vt).run P w = .ok z w) {r:Nat} {m:List (List Int×Value)} (h:A5 w r m) {k:List Int} (h6:k.length=6) (b:Bool) :
 (Instr.lookup mt (.map (some r)) (Bp k) b).run P w = .ok (if b then .tuple #[Eo z m k, .bool (S0 m k)] else Eo z m k) w:=by
 have d:∀ c,(Instr.checkKey c 10000 kt (Bp k)).run P w = .ok () w:=fun c=>Ft w f c 9998 h6;have e:=GM w f h6 m h.six;have i:=h.obj;unfold Eo S0;simp only [Instr.lookup,Sem.run_bind,run_underlying g,Result.andThen_ok,getObj,Sem.run,i];cases a:Ca k 0 m with
 | none=>cases b <;> simp [j,d,e,a]
 | some p=>cases b <;> simp [d,e,a]
theorem RE (J:P.underlying mt=some (.map kt vt)) (I:Fs P kt et) {r:Nat} {m:List (List Int×Value)} (h:A5 w r m) {k:List Int} (h6:k.length=6) (v:Value) :
 ∃ E,(Instr.mapUpdate mt (.map (some r)) (Bp k) v).run P w = .ok () E/\A5 E r (Ln m k v)/\w.grownBy E (some r):=by
 have G:∀ A,(Instr.checkKey A 10000 kt (Bp k)).run P w = .ok () w:=fun A=>Ft w I A 9998 h6;have H:=GM w I h6 m h.six;have z:=h.obj;have B:=h.lt;have l:∀ o:Obj,w.grownBy { w with heap:=w.heap.setIfInBounds r o } (some r):=by
  intro o;refine ⟨rfl,rfl,rfl,by simp,fun j _ D => ?_⟩;have:r≠j:=by rintro rfl; exact D rfl
  simp only;rw [Array.getElem?_setIfInBounds_ne this]
 have x:∀ o:Obj,({ w with heap:=w.heap.setIfInBounds r o }:World).heap[r]?=some o:=by
  intro o;simp only;rw [Array.getElem?_setIfInBounds_self_of_lt B]
 unfold Ln;cases d:Ca k 0 m with
 | none =>
  refine ⟨_, ?_,⟨x (.map (By 0 (m ++ [(k,v)])).toArray (m.length+1)) |>.trans (by simp), ?_, ?_⟩,l _⟩
  · simp only [Instr.mapUpdate,Sem.run_bind,run_underlying J,Result.andThen_ok,getObj,setObj,Sem.run,z,G];rw [H];simp [d,Sem.run,z,GL]
  · intro p hp;rcases List.mem_append.1 hp with hp|hp
    · exact h.six p hp
    · simp only [List.mem_singleton] at hp;subst hp;exact h6
  · rw [List.map_append,List.nodup_append];refine ⟨h.nodup,by simp, ?_⟩;intro a L b F;simp only [List.map_cons,List.map_nil,List.mem_singleton] at F;subst F;rintro rfl;exact Fc.1 d L
 | some p =>
  obtain ⟨i,K⟩:=p;obtain ⟨_,n⟩:=H6 d;rw [Nat.sub_zero] at n;have f:i<m.length:=by
   rcases Nat.lt_or_ge i m.length with h|h
   · exact h
   · simp [List.getElem?_eq_none h] at n
  have c:(m.set i (k,v)).map (·.1)=m.map (·.1):=by
   rw [List.map_set];apply List.ext_getElem?;intro t;rw [List.getElem?_set];by_cases y:i=t
   · subst y;have C:m[i]=(k,K):=by rw [List.getElem?_eq_getElem f] at n; simpa using n
     simp [f,C]
   · simp [y]
  refine ⟨_, ?_,⟨x (.map (By 0 (m.set i (k,v))).toArray m.length) |>.trans (by simp), ?_, ?_⟩,l _⟩
  · simp only [Instr.mapUpdate,Sem.run_bind,run_underlying J,Result.andThen_ok,getObj,Sem.run,z,G];rw [H];have g:(By 0 m)[i]?=some { key:=Bp k,val:=K,born:=0+i }:=by
     rw [Dn,n];rfl
    have s:((By 0 m).modify i fun e=>{ key:=Bp k,val:=v,born:=e.born })=By 0 (m.set i (k,v)):=by
     rw [P4 _ _ _ _ _ f];apply List.ext_getElem?;intro t;rw [List.getElem?_modify,List.getElem?_set,Df];by_cases y:i=t
     · subst y;simp [g,f]
     · simp [y]
    simp [d,g,Instr.keyThatStays,Kl,setObj,Sem.run,z,s]
  · intro p hp;have:p.1∈(m.set i (k,v)).map (·.1):=List.mem_map_of_mem hp;rw [c] at this;obtain ⟨q,M,e⟩:=List.mem_map.1 this;rw [<-e];exact h.six q M
  · rw [c]; exact h.nodup
end
def AG (w:World) (it r n:Nat) (seen:List Nat):Prop:=w.heap[it]?=some (.mapIter (some r) n seen.toArray n)
theorem AG.lt (h:AG w it r n seen):it<w.heap.size:=by
 rcases Nat.lt_or_ge it w.heap.size with b|a
 · exact b
 · unfold AG at h; rw [Array.getElem?_eq_none a] at h; cases h
theorem AG.ext (h:AG w it r n seen) (e:Ext w w'):AG w' it r n seen:=(e.block h.lt).trans h
theorem AG.kept (h:AG w it r n seen) (b:w.grownBy w' row) (a:some it≠row):AG w' it r n seen:=(b.block it h.lt a).trans h
theorem Lp {e:MapEntry} (h:e∈By 0 m):∃ i k v,m[i]?=some (k,v)/\e={ key:=Bp k,val:=v,born:=i }:=by
 obtain ⟨i,a⟩:=List.mem_iff_getElem?.1 h;rw [Dn] at a;cases b:m[i]? with
 | none=>rw [b] at a; cases a
 | some p =>
  rw [b] at a;refine ⟨i,p.1,p.2,b, ?_⟩;simpa using a.symm
theorem Fu {e:MapEntry} (h:e∈By 0 m):e.born<m.length:=by
 obtain ⟨i,k,v,a,rfl⟩:=Lp h;rcases Nat.lt_or_ge i m.length with h|h
 · exact h
 · simp [List.getElem?_eq_none h] at a
theorem Jz:∀ (j:Nat) (m:List (List Int×Value)) (i:Nat) (k:List Int) (v:Value),m[i]?=some (k,v)->(By j m).find? (fun e=>e.born == j+i)=some { key:=Bp k,val:=v,born:=j+i }
 | _,[],_,_,_,h=>by simp at h
 | j,(k',v') :: r,0,k,v,h=>by
  simp only [List.getElem?_cons_zero,Option.some.injEq,Prod.mk.injEq] at h;obtain ⟨rfl,rfl⟩:=h;simp [By]
 | j,(k',v') :: r,i+1,k,v,h=>by
  have a:=Jz (j+1) r i k v (by simpa using h);rw [show j+(i+1)=j+1+i by omega];unfold By;rw [List.find?_cons_of_neg (by simp; omega)];exact a
section
variable {P:Program} {mt kt vt:TypeId} {w:World}
theorem OW (a:P.underlying mt=some (.map kt vt)) {r:Nat} {m:List (List Int×Value)} (h:A5 w r m) :
 (Instr.range mt (.map (some r))).run P w = .ok (.pointer (some ⟨w.heap.size,0,none⟩)) (w.alloc (.mapIter (some r) m.length #[] m.length)):=by
 have b:=h.obj;simp [Instr.range,run_underlying a,getObj,Sem.run,b,newObj]
theorem P5 (h:A5 w r m) (hi:AG w it r m.length seen) :
 ((∀ i,i<m.length->i∈seen)/\(Instr.next (.pointer (some ⟨it,0,none⟩)) false t).run P w = .ok (.tuple #[.bool false]) w) \/
 ∃ i k v J,i<m.length/\i ∉ seen/\m[i]?=some (k,v)/\(Instr.next (.pointer (some ⟨it,0,none⟩)) false t).run P w = .ok (.tuple #[.bool true,Bp k,v]) J /\
  AG J it r m.length (seen ++ [i])/\w.grownBy J (some it):=by
 have L:=h.obj;have x:w.heap[it]?=some (.mapIter (some r) m.length seen.toArray m.length):=hi;have g:(!seen.toArray.isEmpty && !(By 0 m).toArray.isEmpty && (By 0 m).toArray.all (fun e=>decide (e.born >= m.length)))=false:=by
  cases m with
  | nil=>simp [By]
  | cons p q =>
   obtain ⟨k,v⟩:=p;simp [By]
 have n:((By 0 m).toArray.filter (fun e => !seen.toArray.contains e.born)).filter (fun e=>decide (e.born<m.length))=(By 0 m).toArray.filter (fun e => !seen.toArray.contains e.born):=by
  apply Array.ext';simp only [Array.toList_filter];rw [List.filter_eq_self];intro e he;have:=(List.mem_filter.1 he).1;simpa using Fu (by simpa using this)
 have l:((By 0 m).toArray.filter (fun e => !seen.toArray.contains e.born)).filter (fun e=>decide (e.born >= m.length))=#[]:=by
  apply Array.ext';simp only [Array.toList_filter];rw [List.filter_eq_nil_iff];intro e he;have:=(List.mem_filter.1 he).1;have:=Fu (by simpa using this);simp;omega
 generalize B:(By 0 m).toArray.filter (fun e => !seen.toArray.contains e.born)=left at *
 have y:∀ e∈left,∃ i k v,m[i]?=some (k,v)/\i ∉ seen/\e={ key:=Bp k,val:=v,born:=i }:=by
  intro e he;rw [<-B] at he;obtain ⟨h1,h2⟩:=Array.mem_filter.1 he;obtain ⟨i,k,v,C,rfl⟩:=Lp (by simpa using h1);exact ⟨i,k,v,C,by simpa using h2,rfl⟩
 by_cases a:left=#[]
 · left;refine ⟨?_, ?_⟩
   · intro i F;by_cases D:i∈seen
     · exact D
     · exfalso;have:({ key:=Bp m[i].1,val:=m[i].2,born:=i }:MapEntry)∈left:=by
        rw [<-B,Array.mem_filter];refine ⟨?_,by simpa using D⟩;rw [List.mem_toArray,List.mem_iff_getElem?];exact ⟨i,by rw [Dn,List.getElem?_eq_getElem F]; simp⟩
       rw [a] at this;simp at this
   · simp only [Instr.next,Sem.run_bind,getObj,Sem.run,x,L,Result.andThen_ok];simp only [g,B,n,l];simp [a,choose,Sem.run,Question.forced]
 · right;have o:0<left.size:=by
    rcases Nat.eq_zero_or_pos left.size with h0|h0
    · exact absurd (Array.eq_empty_of_size_eq_zero h0) a
    · exact h0
   obtain ⟨c,d,K,E,f⟩:∃ c d,c<left.size/\(choose (.mapNext left.size)).run P w = .ok c d/\(d=w\/d=w.drew):=by
    by_cases h1:left.size<=1
    · exact ⟨0,w,o,by simp [choose,Sem.run,Question.forced,h1], .inl rfl⟩
    · refine ⟨w.tape w.drawn (.mapNext left.size)%left.size,w.drew,Nat.mod_lt _ o, ?_, .inr rfl⟩;simp [choose,Sem.run,Question.forced,h1,Question.cut]
   obtain ⟨i,k,v,C,D,he⟩:=y left[c] (Array.getElem_mem K);have G:i<m.length:=by
    rcases Nat.lt_or_ge i m.length with h|h
    · exact h
    · simp [List.getElem?_eq_none h] at C
   have b:d.heap=w.heap:=by rcases f with rfl | rfl <;> rfl
   have A:d.heap[it]?=some (.mapIter (some r) m.length seen.toArray m.length):=by rw [b]; exact x
   refine ⟨i,k,v,{ d with heap:=d.heap.setIfInBounds it (.mapIter (some r) m.length (seen.toArray.push i) m.length) },G,D,C, ?_, ?_, ?_⟩
   · simp only [Instr.next,Sem.run_bind,getObj,Sem.run,x,L,Result.andThen_ok];simp only [g,B,n,l];have s:((if left.isEmpty=true then #[none] else #[]) ++ (left ++ #[]).map some)=left.map some:=by
      simp [a]
     simp only [s];have I:(left.map some).size=left.size:=by simp
     simp only [I,Bool.false_eq_true,if_false,Sem.run_bind,Result.andThen_ok,E];have z:(left.map some)[c]?=some (some { key:=Bp k,val:=v,born:=i }):=by
      rw [Array.getElem?_map,Array.getElem?_eq_getElem K,he];rfl
     simp only [z];simp [setObj,Sem.run,A]
   · show ({ d with heap:=d.heap.setIfInBounds it _ }:World).heap[it]?=_;have:it<d.heap.size:=by rw [b]; exact hi.lt
     simp only;rw [Array.getElem?_setIfInBounds_self_of_lt this];simp
   · refine ⟨by rcases f with rfl | rfl <;> rfl,by rcases f with rfl | rfl <;> rfl,by rcases f with rfl | rfl <;> rfl,by simp [b],fun j _ H => ?_⟩;have:it≠j:=by rintro rfl; exact H rfl
     simp only;rw [Array.getElem?_setIfInBounds_ne this,b]
theorem OX {i:Nat} (h:A5 w r m) (hi:AG w it r m.length (seen ++ [i])) (c:m[i]?=some (k,v)) :
 (Instr.entry (.pointer (some ⟨it,0,none⟩))).run P w = .ok (.tuple #[Bp k,v]) w:=by
 have d:=h.obj;have a:w.heap[it]?=some (.mapIter (some r) m.length (seen ++ [i]).toArray m.length):=hi;have b:=Jz 0 m i k v c;rw [Nat.zero_add] at b;simp [Instr.entry,getObj,Sem.run,a,d,b]
theorem Lq (c:o.guard=none) (e:o.op = .makeMap mt none)
 (d:∀ a,A5 a w.heap.size []->Ext w a->w.heap.size<a.heap.size->wpList P ops Q rest (f.put o.dst (.map (some w.heap.size))) a):wpList P ops Q (o :: rest) f w:=by
 refine wpList_plain c fun K b => ?_;unfold Oper.wp execOp;have g:(Instr.makeMap mt none).run P w = .ok (.map (some w.heap.size)) (w.alloc (.map #[] 0)):=by
  simp [Instr.makeMap,newObj,Sem.run]
 simp only [e,Option.map_none,Sem.run_bind,g,Result.andThen_ok,Sem.run_pure,Oper.upon];exact b _ _ (d _ ⟨heap_alloc_new w _,by simp,by simp⟩ ((Ext.refl w).alloc _) (by simp))
theorem JA {y:Operand} (b:o.guard=none) (g:o.op = .lookup mt x y ok)
 (e:P.underlying mt=some (.map kt vt)) (d:Fs P kt et) {z:Value} (l:∀ w,(zeroValue vt).run P w = .ok z w) {r:Nat} {m:List (List Int×Value)} {k:List Int}
 (i:f.eval x = .map (some r)) (j:f.eval y=Bp k) (h:A5 w r m) (h6:k.length=6)
 (c:wpList P ops Q rest (f.put o.dst (if ok then .tuple #[Eo z m k, .bool (S0 m k)] else Eo z m k)) w):wpList P ops Q (o :: rest) f w:=by
 refine wpList_plain b fun K a => ?_;unfold Oper.wp execOp;simp only [g,i,j,Sem.run_bind,H7 e d (l w) h h6 ok,Result.andThen_ok,Sem.run_pure,Oper.upon];exact a _ _ c
theorem P6 {y:Operand} (e:o.guard=none) (c:o.op = .mapUpdate mt x y u\/o.op = .insert mt x y u)
 (j:P.underlying mt=some (.map kt vt)) (i:Fs P kt et) {r:Nat} {m:List (List Int×Value)} {k:List Int} {v:Value}
 (l:f.eval x = .map (some r)) (n:f.eval y=Bp k) (hu:f.eval u=v) (h:A5 w r m) (h6:k.length=6)
 (g:∀ b,A5 b r (Ln m k v)->w.grownBy b (some r)->wpList P ops Q rest (f.put o.dst undef) b):wpList P ops Q (o :: rest) f w:=by
 refine wpList_plain e fun K d => ?_;obtain ⟨b,a,h2,h3⟩:=RE j i h h6 v;unfold Oper.wp execOp;rcases c with c|c
 all_goals
  simp only [c,l,n,hu,Sem.run_bind,a,Result.andThen_ok,Sem.run_pure,Oper.upon];exact d _ _ (g b h2 h3)
theorem Lr (c:o.guard=none) (g:o.op = .range mt x)
 (e:P.underlying mt=some (.map kt vt)) {r:Nat} {m:List (List Int×Value)} (i:f.eval x = .map (some r)) (h:A5 w r m)
 (d:∀ a,AG a w.heap.size r m.length []->Ext w a->w.heap.size<a.heap.size->wpList P ops Q rest (f.put o.dst (.pointer (some ⟨w.heap.size,0,none⟩))) a):wpList P ops Q (o :: rest) f w:=by
 refine wpList_plain c fun K b => ?_;unfold Oper.wp execOp;simp only [g,i,Sem.run_bind,OW e h,Result.andThen_ok,Sem.run_pure,Oper.upon];exact b _ _ (d _ (heap_alloc_new w _) ((Ext.refl w).alloc _) (by simp))
theorem Hj (e:o.guard=none) (j:o.op = .next x false)
 {r d:Nat} {m:List (List Int×Value)} {a:List Nat} (l:f.eval x = .pointer (some ⟨d,0,none⟩)) (h:A5 w r m) (hi:AG w d r m.length a)
 (h1:(∀ i,i<m.length->i∈a)->wpList P ops Q rest (f.put o.dst (.tuple #[.bool false])) w)
 (h2:∀ i k v c,i<m.length->i ∉ a->m[i]?=some (k,v)->AG c d r m.length (a ++ [i])->w.grownBy c (some d)->wpList P ops Q rest (f.put o.dst (.tuple #[.bool true,Bp k,v])) c) :
 wpList P ops Q (o :: rest) f w:=by
 refine wpList_plain e fun K b => ?_;unfold Oper.wp execOp;rcases P5 (P:=P) (t:=o.type) h hi with ⟨z,g⟩|⟨i,k,v,c,n,p,q,g,s,y⟩
 · simp only [j,l,Sem.run_bind,g,Result.andThen_ok,Sem.run_pure,Oper.upon];exact b _ _ (h1 z)
 · simp only [j,l,Sem.run_bind,g,Result.andThen_ok,Sem.run_pure,Oper.upon];exact b _ _ (h2 i k v c n p q s y)
theorem Ls (c:o.guard=none) (j:o.op = .entry x)
 {r d i:Nat} {m:List (List Int×Value)} {a:List Nat} {k:List Int} {v:Value} (l:f.eval x = .pointer (some ⟨d,0,none⟩)) (h:A5 w r m) (hi:AG w d r m.length (a ++ [i])) (g:m[i]?=some (k,v))
 (e:wpList P ops Q rest (f.put o.dst (.tuple #[Bp k,v])) w):wpList P ops Q (o :: rest) f w:=by
 refine wpList_plain c fun K b => ?_;unfold Oper.wp execOp;simp only [j,l,Sem.run_bind,OX h hi g,Result.andThen_ok,Sem.run_pure,Oper.upon];exact b _ _ e
end
end Go.Proofs.YtlbmnokpiilfpaaGreatDoor
