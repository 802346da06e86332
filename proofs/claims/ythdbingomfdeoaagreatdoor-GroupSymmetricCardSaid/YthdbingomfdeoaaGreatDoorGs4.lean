/- Part Gs4. -/
import Derived.Test.YthdbingomfdeoaaGreatDoorGs3
import Derived.Laws.BitsAllLaws
import Derived.Lib.ItoaNum
set_option linter.all false
set_option maxRecDepth 100000
set_option maxHeartbeats 100000000
namespace Go.Proofs.YthdbingomfdeoaaGreatDoor
open Tryz Go Go.RowKit
def fU:=@Int.natCast_mul
def gH:=@Int.natCast_add
def gM:=@Nat.div_add_mod
def gR:=@List.mem_replicate
def gh:=@Nat.two_pow_pos
def gy:=@Nat.div_le_self
def iX:=@Nat.lt_of_mul_lt_mul_right
def iZ:=@Int.tdiv_eq_ediv_of_nonneg
def ie:=@Nat.div_lt_iff_lt_mul
def ix:=@Int.toNat_natCast
def j8:=@Nat.mod_eq_of_lt
def jE:=@Nat.mul_lt_mul_of_pos_right
def jL:=@Nat.dvd_mul_left
def ji:=@Int.tmod_eq_emod_of_nonneg
def jw:=@Nat.div_eq_of_lt
def k8:=@Nat.one_mul
def kK:=@Nat.mul_div_cancel_left
def kN:=@Nat.add_sub_cancel_left
def kb:=@Nat.le_add_right
def kk:=@Nat.mul_add_mod
def kl:=@Nat.mul_add_div
def ky:=@Nat.eq_of_mul_eq_mul_right
def lO:=@List.length_eq_one_iff
def lT:=@u64_or_nat
def lr:=@Nat.mul_zero
def lz:=@Nat.lt_of_mul_lt_mul_left
def m5:=@Nat.dvd_add_right
def mb:=@Nat.and_two_pow_sub_one_eq_mod
def mh:=@Int.natCast_ediv
variable {ds l ls xs ys zs zs':List Nat} {B D L M N P U V Wn Y c c' cy d d2 g hi k lo lo' m n o p r s u w3 wd x y z:Nat} {a b:Option Addr} {t:TypeId} {w:World}
theorem MV(xs:List Nat):∀ v∈xs.map (B7 .u64),v.oneCell'=true:=by
 intro u hu;obtain⟨x,_,rfl⟩:=fy.1 hu;rfl
theorem JM(B:Nat)(xs:List Nat)(n:Nat):W.val B (xs ++ List.replicate n 0)=W.val B xs:=by
 rw[W.val_app,W.val_zeros];simp
theorem MW(a:0<B){xs:List Nat}(h:W.bnd B xs)(n:Nat):W.bnd B (xs ++ List.replicate n 0):=by
 refine W.bnd_app h ?_;intro x b;rw[(gR.1 b).2];exact a
theorem PF(h:Arr w g t ((List.map (B7 .u64) (List.replicate N 0)).take 0 ++ xs.map (B7 .u64) ++ (List.map (B7 .u64) (List.replicate N 0)).drop (0+xs.length))):Ce .u64 w g t (xs ++ List.replicate (N-xs.length) 0):=by
 unfold Ce;rw[fY];simpa using h
theorem Jc(t:SlN .u64 w a n c xs)(p:SlN .u64 w b m d ys)(q:Num 18446744073709551616 xs x)(r:Num 18446744073709551616 ys y)(l:m<=n)(E:n<=1000000)(h0:0<m){k:World}{g:Nat}(f:w.heap.size<=g)(i:Ext w k)(hA1:Ce .u64 k g 101 (xs ++ List.replicate 1 0)) :
 Calls prog 167 #[.slice (some ⟨g,0,none⟩) (n+1) (n+1),.slice b m d] k fun e v=>e = .returned (.tuple #[])/\Ext w v/\∃ j,Ay .u64 v w.heap.size 101 g (n+1) (n+1) j/\W.bnd 18446744073709551616 j/\W.val 18446744073709551616 j=x+y:=by
 have s:(xs ++ List.replicate 1 0).length=n+1:=by simp[t.len]
 have A:Ay .u64 k w.heap.size 101 g (n+1) (n+1) (xs ++ List.replicate 1 0):=by
  have:=Ce.own hA1 f (by rw[s];unfold maxLen;omega);rw[s]at this;exact this
 have C:W.val 18446744073709551616 (xs ++ List.replicate 1 0)=x:=by rw[JM,q.val]
 refine(Ox A (p.ext i) (Or.inr (p.fresh f h0)) (MW (by omega) q.bnd 1) r.bnd (by omega) ?_).mono ?_
 · have h1:=W.val_lt q.bnd;have h2:=W.val_lt r.bnd;rw[t.len]at h1;rw[p.len]at h2;have h3:18446744073709551616^m<=18446744073709551616^n:=fx (by omega) l;have h4:18446744073709551616^(n+1)=18446744073709551616^n*18446744073709551616:=gr _ _;rw[JM];omega
 · rintro e F ⟨rfl,B,j,D,z,o⟩;exact⟨rfl,i.grownR B f,j,D,z,by rw[o,C,r.val]⟩
theorem MX(s:SlN .u64 w a n c xs)(t:SlN .u64 w b m d ys)(K:Num 18446744073709551616 xs x)(L:Num 18446744073709551616 ys y)(N:n<=1000000)(M:m<=1000000) :
 Calls prog 132 #[.slice a n c,.slice b m d] w (Ou .u64 18446744073709551616 w (x+y)):=by
 have A:=f8 s.len;have B:=f8 t.len;have p:=f8 K;have r:=f8 L;clear K L;by_cases S:n<m
 · go_enter func132,ntmps132
   by_cases h0:n=0
   · have C:Hid (x+y=y):=by
      show _=_;have h1:xs=[]:=fk (by rw[A.out,h0]);have h2:=p.out.val;rw[h1]at h2;simp only[W.val]at h2;omega
     subst h0;go_wp2;go_ret;exact⟨b,m,d,ys,rfl,Ext.refl w,t,⟨r.out.bnd,r.out.nrm,by rw[r.out.val,C.out]⟩⟩
   · have E:((n:Int) == 0)=false:=by simp;omega
     have o:0<n:=by omega
     clear h0
     go_upto_region 6 with(at_make;refine EX (n:=m+1) rfl rfl underlying98 AP rfl rfl rfl (by omega) (by unfold maxLen;omega) ?_;intro O i f)
     have hA1:=(Ay.of_zeros i).arr
     go_upto_region 7 with(refine LS (sT:=98) rfl rfl underlying98 AP rfl rfl hA1 (t.ext f) (by omega) (by simp) (MV _) ?_;intro z g j)
     have hA2:Ce .u64 z w.heap.size 101 (ys ++ List.replicate 1 0):=by
      rw[<-show m+1-ys.length=1 from by rw[B.out];omega];refine PF ?_;rw[B.out];exact g
     have k:Ext w z:=f.grownR j (lrf _);clear i f hA1 g j
     go_wp2_with fail
     refine(Jc t s r.out p.out (by omega) M o (lrf _) k hA2).mono ?_;rintro e P ⟨rfl,l,R,v,D,H⟩
     go_wp2_with fail
     refine(BM v.sl).mono ?_;rintro e Q ⟨q,rfl,rfl,F,G⟩;obtain⟨I,J⟩:=B8 v.sl F G D H;go_wp2;go_ret;exact⟨_,q,_,_,rfl,l,I,by rw[jp];exact J⟩
 · go_enter func132,ntmps132
   by_cases h0:m=0
   · have C:Hid (x+y=x):=by
      show _=_;have h1:ys=[]:=fk (by rw[B.out,h0]);have h2:=r.out.val;rw[h1]at h2;simp only[W.val]at h2;omega
     subst h0;go_wp2;go_ret;exact⟨a,n,c,xs,rfl,Ext.refl w,s,⟨p.out.bnd,p.out.nrm,by rw[p.out.val,C.out]⟩⟩
   · have E:((m:Int) == 0)=false:=by simp;omega
     have o:0<m:=by omega
     clear h0
     go_upto_region 6 with(at_make;refine EX (n:=n+1) rfl rfl underlying98 AP rfl rfl rfl (by omega) (by unfold maxLen;omega) ?_;intro O i f)
     have hA1:=(Ay.of_zeros i).arr
     go_upto_region 7 with(refine LS (sT:=98) rfl rfl underlying98 AP rfl rfl hA1 (s.ext f) (by omega) (by simp) (MV _) ?_;intro z g j)
     have hA2:Ce .u64 z w.heap.size 101 (xs ++ List.replicate 1 0):=by
      rw[<-show n+1-xs.length=1 from by rw[A.out];omega];refine PF ?_;rw[A.out];exact g
     have k:Ext w z:=f.grownR j (lrf _);clear i f hA1 g j
     go_wp2_with fail
     refine(Jc s t p.out r.out (by omega) N o (lrf _) k hA2).mono ?_;rintro e P ⟨rfl,l,R,v,D,H⟩
     go_wp2_with fail
     refine(BM v.sl).mono ?_;rintro e Q ⟨q,rfl,rfl,F,G⟩;obtain⟨I,J⟩:=B8 v.sl F G D H;go_wp2;go_ret;exact⟨_,q,_,_,rfl,l,I,by exact J⟩
theorem Hx(v:SlN .u64 w a n c xs)(z:SlN .u64 w b m d ys)(E:Num 18446744073709551616 xs x)(F:Num 18446744073709551616 ys y)(L:n<=1000000)(o:y<=x) :
 Calls prog 134 #[.slice a n c,.slice b m d] w (Ou .u64 18446744073709551616 w (x-y)):=by
 have G:=f8 v.len;have A:=f8 z.len;have f:=f8 E;have i:=f8 F;have j:=f8 o;clear E F o
 go_enter func134,ntmps134
 by_cases h0:m=0
 · have H:Hid (x-y=x):=by
    show _=_;have h1:ys=[]:=fk (by rw[A.out,h0]);have h2:=i.out.val;rw[h1]at h2;simp only[W.val]at h2;omega
   subst h0;go_wp2;go_ret;exact⟨a,n,c,xs,rfl,Ext.refl w,v,⟨f.out.bnd,f.out.nrm,by rw[f.out.val,H.out]⟩⟩
 · have J:((m:Int) == 0)=false:=by simp;omega
   have s:0<m:=by omega
   have t:m<=n:=by
    refine fR fun R => ?_;have:=W.len_lt (B:=18446744073709551616) (by omega) f.out.bnd i.out.nrm (by rw[G.out,A.out];omega);rw[f.out.val,i.out.val]at this;have:=j.out;omega
   clear h0
   go_wp2_with fail
   refine(Uf v L (by omega)).mono ?_;rintro e S ⟨g,Q,rfl,k,l⟩;have p:=l.lo
   go_wp2_with fail
   refine(IF l (z.ext k) (Or.inr (z.fresh p s)) f.out.bnd i.out.bnd t (by rw[f.out.val,i.out.val];exact j.out)).mono ?_;rintro e T ⟨rfl,K,V,D,I,C⟩;rw[f.out.val,i.out.val]at C;have r:=k.grownR K p
   go_wp2_with fail
   refine(BM D.sl).mono ?_;rintro e U ⟨q,rfl,rfl,M,N⟩;obtain⟨O,P⟩:=B8 D.sl M N I C;go_wp2;go_ret;exact⟨_,q,_,_,rfl,r,O,P⟩
theorem FA(n j:Nat):(List.replicate n 0).getD j 0=0:=by
 rw[gqq,List.getElem?_replicate];split <;> rfl
theorem Oy{X i:Nat}(c:i+n<zs'.length)(e:W.val B zs=X*V)(h:W.val B zs'+cy*B^(i+n)=W.val B zs+wd*X*B^i)(h0:zs'.getD (i+n) 0=0) :
 W.val B (zs'.set (i+n) cy)=X*(V+B^i*wd):=by
 have h1:=W.val_set (B:=B) (xs:=zs') (i:=i+n) (v:=cy) c;rw[h0]at h1;generalize W.val B (zs'.set (i+n) cy)=a at *
 generalize W.val B zs'=b at *
 generalize W.val B zs=d at *
 generalize B^(i+n)=p at *
 generalize B^i=q at *
 grind
theorem DO(T:SlN .u64 w a n c xs)(U:SlN .u64 w b m d ys)(nx:Num 18446744073709551616 xs x)(ny:Num 18446744073709551616 ys y)(hn:n<=1000000)(hm:m<=1000000)(a7:n<40\/m<40) :
 Calls prog 135 #[.slice a n c,.slice b m d] w (Ov .u64 18446744073709551616 w (fun g=>blk a=some g\/blk b=some g) (x*y)):=by
 have Z:=f8 T.len;have HY:=f8 U.len;have E:=f8 nx;have F:=f8 ny;clear nx ny;by_cases hs:n<m
 · go_enter func135,ntmps135
   by_cases h0:n=0
   · have J:Hid (x*y=0):=by
      show _=_;have h1:xs=[]:=fk (by rw[Z.out,h0]);have h2:=E.out.val;rw[h1]at h2;simp only[W.val]at h2;rw[<-h2];simp
     subst h0;go_wp2;go_ret;exact⟨none,0,0,[],rfl,Ext.refl w,SlN.nil _ _,by rw[J.out];exact Num.nil _,fun g h=>by cases h⟩
   · have a0:((n:Int) == 0)=false:=by simp;omega
     have D:0<n:=by omega
     obtain⟨b0,o0,v,l⟩:=T.at D;have g0:=l 0 D;rw[gE]at g0;by_cases h1:n=1/\xs.getD 0 0=1
     · have J:Hid (x*y=y):=by
        show _=_;have h2:=E.out.val;obtain⟨z,r⟩:=lO.1 (Z.out.trans h1.1);have h3:=h1.2;rw[r]at h2 h3;simp[W.val]at h2 h3;subst h3;rw[<-h2];simp
       have e1:=h1.1;rw[h1.2]at g0;subst e1;subst v;clear l;go_wp2;go_ret;exact⟨b,m,d,ys,rfl,Ext.refl w,U,⟨F.out.bnd,F.out.nrm,by rw[F.out.val,J.out]⟩,fun g h=>Or.inr (Or.inr h)⟩
     · have p:(((n:Int) == 1)=false)\/(((n:Int) == 1)=true/\(((xs.getD 0 0:Nat):Int) == 1)=false):=by
        by_cases h2:n=1
        · exact Or.inr ⟨by simp[h2],Ow (b:=1) (fun h=>h1 ⟨h2,h⟩)⟩
        · exact Or.inl (by simp;omega)
       subst v;generalize xs.getD 0 0=y0 at *
       clear l h1 h0;have h40:(n:Int)<40:=by omega
       rcases p with hp|⟨hp,a3⟩
       all_goals
        go_upto_region 10 with(at_make;refine EX (n:=m+n) rfl rfl underlying98 AP rfl rfl rfl (by omega) (by unfold maxLen;omega) ?_;intro w1 t s)
        go_wp2
        go_loopw[55] (fun S wr=>∃ (i:Nat) (zs:List Nat),S = .int .i64 i/\i<=n/\Ext w wr/\Ay .u64 wr w.heap.size 101 w.heap.size (m+n) (m+n) zs/\W.bnd 18446744073709551616 zs/\Hid (W.val 18446744073709551616 zs=y*W.val 18446744073709551616 (xs.take i))/\Hid (∀ j,i+m<=j->zs.getD j 0=0)) (fun S _=>n-(intOf S).toNat)
        case atStart=>exact⟨0,List.replicate (m+n) 0,rfl,fu _,s,Ay.of_zeros t,fun z r=>by rw[(gR.1 r).2];omega,f8 (by rw[W.val_zeros];simp[W.val]),f8 (fun j _=>FA _ j)⟩
        case round =>
         clear t s;obtain⟨i,zs,rfl,hi,G,r,bz,Y,V⟩:=hrel;by_cases f:i<n
         · obtain⟨b9,o9,e9,A⟩:=(T.ext G).at (j:=i) f;simp only[fc,gz,ij]at e9;obtain⟨rfl,rfl⟩:=e9;have g9:=A i f;have R:=W.bnd_at E.out.bnd (i:=i) (by rw[Z.out];exact f);have HT:=f8 (W.val_take_succ (B:=18446744073709551616) (xs:=xs) (i:=i) (by rw[Z.out];exact f))
           have a4:∀ H:World,(Instr.sliceAt 98 (.slice (some ⟨w.heap.size,0,none⟩) (m+n) (m+n)) (some (.int .i64 i)) (some (.int .i64 ((i:Int)+m))) none).run prog H = .ok (.slice (some ⟨w.heap.size,i,none⟩) m (m+n-i)) H:=fun H=>by
            have:=Dh (P:=prog) (w:=H) (g:=w.heap.size) (n:=m+n) (c:=m+n) (lo:=i) (hi:=i+m) underlying98 AP (by omega) (by omega) (by omega);rw[kN,gH]at this;exact this
           have a6:IntKind.i64.wrap ((i:Int)+m)=(i:Int)+m:=fO _ (by omega);generalize xs.getD i 0=wd at *
           have hp:=Fz (w:=wr) (o:=i) (c':=m+n-i) r (U.ext G) (Or.inr (U.fresh (lrf _) (by omega))) (by omega) bz F.out.bnd R;clear A
           go_wp2_with fail
           refine hp.mono ?_;rintro e w2 ⟨cy,zs',rfl,M,N,k,K,Q,C⟩;have a1:=k.cell (i:=i+m) (by omega);have a2:=k.frozen (i+m);have HS:=f8 (Oy (B:=18446744073709551616) (zs:=zs) (zs':=zs') (X:=y) (i:=i) (n:=m) (cy:=cy) (by rw[k.len];omega) Y.out (by rw[<-F.out.val];exact Q) (by rw[C _ (lrf _)];exact V.out _ (lrf _)));have I:Hid (∀ j,i+1+m<=j->(zs'.set (i+m) cy).getD j 0=0):=by
            show ∀ j,i+1+m<=j->(zs'.set (i+m) cy).getD j 0=0;intro j hj;have O:¬ i+m=j:=by omega
            have h1:=C j (by omega);rw[V.out j (by omega)]at h1;simpa[O]using h1
           have L:=G.grownR N (lrf _);have a5:((i:Int)+m).toNat=i+m:=by omega
           go_wp2;go_roundw
           case rel=>exact⟨i+1,zs'.set (i+m) cy,by go_num,by omega,L.setCell (lrf _) _,k.set (i+m) cy,W.bnd_set K M,f8 (by rw[HT.out];exact HS.out),I⟩
           case measure=>simp[intOf];omega
         · have ei:i=n:=by omega
           have hv:W.val 18446744073709551616 zs=x*y:=by
            have h1:=Y.out;rw[ei,f9 (by rw[Z.out];exact lrf _),E.out.val]at h1;rw[h1,fJ]
           go_wp2_with fail
           refine(BM r.sl).mono ?_;rintro e w4 ⟨q,rfl,rfl,hq,ht⟩;obtain⟨t1,t2⟩:=B8 r.sl hq ht bz hv;go_wp2;go_ret;exact⟨_,q,_,_,rfl,G,t1,t2,fun g h=>Or.inl (by cases h;exact lrf _)⟩
 · go_enter func135,ntmps135
   by_cases h0:m=0
   · have J:Hid (x*y=0):=by
      show _=_;have h1:ys=[]:=fk (by rw[HY.out,h0]);have h2:=F.out.val;rw[h1]at h2;simp only[W.val]at h2;rw[<-h2];simp
     subst h0;go_wp2;go_ret;exact⟨none,0,0,[],rfl,Ext.refl w,SlN.nil _ _,by rw[J.out];exact Num.nil _,fun g h=>by cases h⟩
   · have a0:((m:Int) == 0)=false:=by simp;omega
     have D:0<m:=by omega
     obtain⟨b0,o0,v,l⟩:=U.at D;have g0:=l 0 D;rw[gE]at g0;by_cases h1:m=1/\ys.getD 0 0=1
     · have J:Hid (x*y=x):=by
        show _=_;have h2:=F.out.val;obtain⟨z,r⟩:=lO.1 (HY.out.trans h1.1);have h3:=h1.2;rw[r]at h2 h3;simp[W.val]at h2 h3;subst h3;rw[<-h2];simp
       have e1:=h1.1;rw[h1.2]at g0;subst e1;subst v;clear l;go_wp2;go_ret;exact⟨a,n,c,xs,rfl,Ext.refl w,T,⟨E.out.bnd,E.out.nrm,by rw[E.out.val,J.out]⟩,fun g h=>Or.inr (Or.inl h)⟩
     · have p:(((m:Int) == 1)=false)\/(((m:Int) == 1)=true/\(((ys.getD 0 0:Nat):Int) == 1)=false):=by
        by_cases h2:m=1
        · exact Or.inr ⟨by simp[h2],Ow (b:=1) (fun h=>h1 ⟨h2,h⟩)⟩
        · exact Or.inl (by simp;omega)
       subst v;generalize ys.getD 0 0=y0 at *
       clear l h1 h0;have h40:(m:Int)<40:=by omega
       rcases p with hp|⟨hp,a3⟩
       all_goals
        go_upto_region 10 with(at_make;refine EX (n:=n+m) rfl rfl underlying98 AP rfl rfl rfl (by omega) (by unfold maxLen;omega) ?_;intro w1 t s)
        go_wp2
        go_loopw[55] (fun S wr=>∃ (i:Nat) (zs:List Nat),S = .int .i64 i/\i<=m/\Ext w wr/\Ay .u64 wr w.heap.size 101 w.heap.size (n+m) (n+m) zs/\W.bnd 18446744073709551616 zs/\Hid (W.val 18446744073709551616 zs=x*W.val 18446744073709551616 (ys.take i))/\Hid (∀ j,i+n<=j->zs.getD j 0=0)) (fun S _=>m-(intOf S).toNat)
        case atStart=>exact⟨0,List.replicate (n+m) 0,rfl,fu _,s,Ay.of_zeros t,fun z r=>by rw[(gR.1 r).2];omega,f8 (by rw[W.val_zeros];simp[W.val]),f8 (fun j _=>FA _ j)⟩
        case round =>
         clear t s;obtain⟨i,zs,rfl,hi,G,r,bz,Y,V⟩:=hrel;by_cases f:i<m
         · obtain⟨b9,o9,e9,A⟩:=(U.ext G).at (j:=i) f;simp only[fc,gz,ij]at e9;obtain⟨rfl,rfl⟩:=e9;have g9:=A i f;have R:=W.bnd_at F.out.bnd (i:=i) (by rw[HY.out];exact f);have HT:=f8 (W.val_take_succ (B:=18446744073709551616) (xs:=ys) (i:=i) (by rw[HY.out];exact f))
           have a4:∀ H:World,(Instr.sliceAt 98 (.slice (some ⟨w.heap.size,0,none⟩) (n+m) (n+m)) (some (.int .i64 i)) (some (.int .i64 ((i:Int)+n))) none).run prog H = .ok (.slice (some ⟨w.heap.size,i,none⟩) n (n+m-i)) H:=fun H=>by
            have:=Dh (P:=prog) (w:=H) (g:=w.heap.size) (n:=n+m) (c:=n+m) (lo:=i) (hi:=i+n) underlying98 AP (by omega) (by omega) (by omega);rw[kN,gH]at this;exact this
           have a6:IntKind.i64.wrap ((i:Int)+n)=(i:Int)+n:=fO _ (by omega);generalize ys.getD i 0=wd at *
           have hp:=Fz (w:=wr) (o:=i) (c':=n+m-i) r (T.ext G) (Or.inr (T.fresh (lrf _) (by omega))) (by omega) bz E.out.bnd R;clear A
           go_wp2_with fail
           refine hp.mono ?_;rintro e w2 ⟨cy,zs',rfl,M,N,k,K,Q,C⟩;have a1:=k.cell (i:=i+n) (by omega);have a2:=k.frozen (i+n);have HS:=f8 (Oy (B:=18446744073709551616) (zs:=zs) (zs':=zs') (X:=x) (i:=i) (n:=n) (cy:=cy) (by rw[k.len];omega) Y.out (by rw[<-E.out.val];exact Q) (by rw[C _ (lrf _)];exact V.out _ (lrf _)));have I:Hid (∀ j,i+1+n<=j->(zs'.set (i+n) cy).getD j 0=0):=by
            show ∀ j,i+1+n<=j->(zs'.set (i+n) cy).getD j 0=0;intro j hj;have O:¬ i+n=j:=by omega
            have h1:=C j (by omega);rw[V.out j (by omega)]at h1;simpa[O]using h1
           have L:=G.grownR N (lrf _);have a5:((i:Int)+n).toNat=i+n:=by omega
           go_wp2;go_roundw
           case rel=>exact⟨i+1,zs'.set (i+n) cy,by go_num,by omega,L.setCell (lrf _) _,k.set (i+n) cy,W.bnd_set K M,f8 (by rw[HT.out];exact HS.out),I⟩
           case measure=>simp[intOf];omega
         · have ei:i=m:=by omega
           have hv:W.val 18446744073709551616 zs=x*y:=by
            have h1:=Y.out;rw[ei,f9 (by rw[HY.out];exact lrf _),F.out.val]at h1;exact h1
           go_wp2_with fail
           refine(BM r.sl).mono ?_;rintro e w4 ⟨q,rfl,rfl,hq,ht⟩;obtain⟨t1,t2⟩:=B8 r.sl hq ht bz hv;go_wp2;go_ret;exact⟨_,q,_,_,rfl,G,t1,t2,fun g h=>Or.inl (by cases h;exact lrf _)⟩
theorem PG(b:x<18446744073709551616)(w:World):Calls prog 206 #[.int .u64 x] w fun e a=>e = .returned (.int .i64 (64-Lib.bitLen x))/\a=w:=by
 have:=Any.bits_LeadingZeros64 Xx (x:Int) w (by omega) (by omega);rw[ix]at this;exact this
theorem MY(h0:0<y)(a:y<18446744073709551616):∃ s:Nat,s<=63/\(64-(Lib.bitLen y:Int))=s/\9223372036854775808<=y*2^s/\y*2^s<18446744073709551616:=by
 obtain⟨h1,h2,h3⟩:=Lib.bitLenAux_bounds 64 y (by omega) (by omega);have h4:Lib.bitLenAux 64 y<=64:=Lib.bitLen_le y 64 (by omega) (by omega);refine⟨64-Lib.bitLen y,?_,?_,?_,?_⟩
 · unfold Lib.bitLen;omega
 · unfold Lib.bitLen;omega
 · unfold Lib.bitLen;generalize Lib.bitLenAux 64 y=k at *
   have e:2^(k-1)*2^(64-k)=2^63:=by rw[<-j9];congr 1;omega
   have:=fa (2^(64-k)) h2;rw[e]at this;omega
 · unfold Lib.bitLen;generalize Lib.bitLenAux 64 y=k at *
   have e:2^k*2^(64-k)=2^64:=by rw[<-j9];congr 1;omega
   have:=jE h3 (gh (64-k));rw[e]at this;omega
theorem Js(g:y<18446744073709551616)(a:lo<18446744073709551616)(h0:0<y) :
 Calls prog 211 #[.int .u64 0,.int .u64 lo,.int .u64 y] w fun e d=>e = .returned (.tuple #[.int .u64 ((lo/y:Nat):Int),.int .u64 ((lo%y:Nat):Int)])/\Qt w d:=by
 have f:((y:Int) == 0)=false:=by simp;omega
 have b:IntKind.u64.wrap ((lo:Int)/(y:Int))=((lo/y:Nat):Int):=by
  rw[<-mh];have h1:=gy lo y;generalize lo/y=q at *
  exact wrap_u64 (by omega) (by omega)
 have c:(lo:Int)%(y:Int)=((lo%y:Nat):Int):=(Int.natCast_emod _ _).symm;generalize lo/y=q at *
 generalize lo%y=r at *
 go_enter func211,ntmps211
 go_wp2
 go_quiet (fail)
 go_wp2
 go_ret2
 exact⟨by rw[<-b,<-c];rfl,(Qt.refl w).drewN _⟩
theorem PH{u1 u0 Q1 R1 Q0 R0:Nat}(k:Y=y*2^s)(i:L=u1*4294967296+u0)(j:U*18446744073709551616+L=N*2^s)(f:U*4294967296+u1=Q1*Y+R1)(d:R1*4294967296+u0=Q0*Y+R0)(b:R0<Y) :
 N/y=Q1*4294967296+Q0/\N%y=R0/2^s:=by
 have hp:0<2^s:=gh s;have e:N*2^s=(Q1*4294967296+Q0)*Y+R0:=by
  rw[<-j,i];have h1:U*18446744073709551616+(u1*4294967296+u0)=(U*4294967296+u1)*4294967296+u0:=by grind
  rw[h1,f];have h2:(Q1*Y+R1)*4294967296+u0=Q1*Y*4294967296+(R1*4294967296+u0):=by grind
  rw[h2,d]
  grind
 subst k;have m:0<y:=by
  rcases fF y with h|h
  · rw[h]at b;simp at b
  · exact h
 -- the rest is a multiple of the power
 have l:2^s∣R0:=by
  have h1:2^s∣N*2^s:=jL _ _;rw[e]at h1;refine(m5 ?_).1 h1;exact⟨(Q1*4294967296+Q0)*y,by grind⟩
 obtain⟨r,c⟩:=l;subst c;have g:N=(Q1*4294967296+Q0)*y+r:=by
  apply ky hp;rw[e]
  grind
 have c:r<y:=by
  rw[fJ]at b;exact iX b
 rw[kK _ hp];generalize Q1*4294967296+Q0=q at g |-;subst g;refine⟨?_,?_⟩
 · rw[fJ,kl m,jw c,gE]
 · rw[fJ,kk,j8 c]
theorem LY(b:s<=63)(a:lo<18446744073709551616):∃ L V:Nat,lo*2^s=V*18446744073709551616+L/\L<18446744073709551616/\V=lo/2^(64-s)/\V<2^s/\L=lo*2^s%18446744073709551616:=by
 have e:2^(64-s)*2^s=18446744073709551616:=by rw[<-j9,show 64-s+s=64 by omega]
 refine⟨lo*2^s%18446744073709551616,lo/2^(64-s),?_,gx _ (by omega),rfl,?_,rfl⟩
 · have h1:lo*2^s/18446744073709551616=lo/2^(64-s):=by
    rw[<-e,Nat.mul_div_mul_right _ _ (gh s)]
   have h2:=gM (lo*2^s) 18446744073709551616;rw[h1,fJ 18446744073709551616]at h2;exact h2.symm
 · rw[ie (gh _),fJ,e];exact a
theorem Hy(h:x%18446744073709551616=M):IntKind.u64.wrap (x:Int)=(M:Int):=by
 rw[gN,<-h];omega
theorem LZ{Q R:Nat}(h:U*4294967296+u=Q*Y+R)(b:R<18446744073709551616):IntKind.u64.wrap (IntKind.u64.wrap (IntKind.u64.wrap ((U:Int)*4294967296)+u)-IntKind.u64.wrap ((Q:Int)*Y))=(R:Int):=by
 have a:((Q*Y:Nat):Int)=(Q:Int)*Y:=fU Q Y;rw[<-a];generalize Q * Y=z at *
 simp only[gN];omega
theorem L3(h:U=g*y+r)(b:r<18446744073709551616):IntKind.u64.wrap ((U:Int)-IntKind.u64.wrap ((g:Int)*y))=(r:Int):=by
 have a:((g*y:Nat):Int)=(g:Int)*y:=fU g y;rw[<-a];generalize g * y=z at *
 simp only[gN];omega
theorem Al{x:Int}(h:x=(n:Int))(a:n<18446744073709551616):IntKind.u64.wrap x=(n:Int):=by
 rw[h];exact wrap_u64 (by omega) (by omega)
theorem KH(hy:y<18446744073709551616)(aJ:lo<18446744073709551616)(hh:hi<y)(h0:0<hi) :
 Calls prog 211 #[.int .u64 hi,.int .u64 lo,.int .u64 y] w fun e w'=>e = .returned (.tuple #[.int .u64 (((hi*18446744073709551616+lo)/y:Nat):Int),.int .u64 (((hi*18446744073709551616+lo)%y:Nat):Int)])/\Qt w w':=by
 have hb:((y:Int) == 0)=false:=by simp;omega
 have aZ:((hi:Int) == 0)=false:=by simp;omega
 obtain⟨s,hs,av,aI,a7⟩:=MY (by omega) hy;obtain⟨Y,hY⟩:∃ Y,y*2^s=Y:=⟨_,rfl⟩;rw[hY]at aI a7;have e1:IntKind.u64.wrap ((y:Int)*2^s)=(Y:Int):=Al (by rw[<-hY];push_cast;rfl) a7;obtain⟨L,V,al,aF,ao,ap,am⟩:=LY hs aJ;obtain⟨H,hH⟩:∃ H,hi*2^s=H:=⟨_,rfl⟩;have aE:H+2^s<=Y:=by
  rw[<-hH,<-hY];have:=fa (2^s) hh;rw[Nat.succ_mul]at this;exact this
 obtain⟨U,hU⟩:∃ U,H+V=U:=⟨_,rfl⟩;have e4:IntKind.u64.wrap ((hi:Int)*2^s)=(H:Int):=Al (by rw[<-hH];push_cast;rfl) (by omega);have e5:bits BinOp.or IntKind.u64 (H:Int) ((lo:Int)/2^(64-s))=(U:Int):=by
  have:(lo:Int)/2^(64-s)=(V:Int):=by rw[ao];push_cast;rfl
  rw[this,lT H V (by omega) (by omega),nat_join s H V (by rw[<-hH];exact Nat.mul_mod_left _ _) ap,hU]
 have e6:IntKind.u64.wrap ((lo:Int)*2^s)=(L:Int):=by
  have:=Hy (x:=lo*2^s) (M:=L) am.symm;push_cast at this;exact this
 have hN:U*18446744073709551616+L=(hi*18446744073709551616+lo)*2^s:=by
  rw[<-hU,<-hH];have h1:(hi*18446744073709551616+lo)*2^s=hi*2^s*18446744073709551616+lo*2^s:=by grind
  rw[h1,al]
  grind
 obtain⟨y1,aL⟩:∃ y1,Y/4294967296=y1:=⟨_,rfl⟩;obtain⟨y0,aC⟩:∃ y0,Y%4294967296=y0:=⟨_,rfl⟩;obtain⟨u1,aK⟩:∃ u1,L/4294967296=u1:=⟨_,rfl⟩;obtain⟨u0,ax⟩:∃ u0,L%4294967296=u0:=⟨_,rfl⟩;have e2:(Y:Int)/4294967296=(y1:Int):=by omega
 have e3:bits BinOp.and IntKind.u64 (Y:Int) 4294967295=(y0:Int):=by
  have:=u64_and_nat Y 4294967295 a7 (by omega);rw[mb Y 32]at this;rw[<-aC];exact this
 have e7:(L:Int)/4294967296=(u1:Int):=by omega
 have e8:bits BinOp.and IntKind.u64 (L:Int) 4294967295=(u0:Int):=by
  have:=u64_and_nat L 4294967295 aF (by omega);rw[mb L 32]at this;rw[<-ax];exact this
 have aY:U<Y:=by omega
 have aU:2147483648<=y1/\y1<4294967296:=by omega
 have aT:y0<4294967296:=by omega
 have aS:u1<4294967296:=by omega
 have aR:u0<4294967296:=by omega
 have f:Hid (Y=y1*4294967296+y0):=by show _=_;omega
 obtain⟨Q1,ae⟩:∃ Q1,(U*4294967296+u1)/Y=Q1:=⟨_,rfl⟩;obtain⟨R1,S⟩:∃ R1,(U*4294967296+u1)%Y=R1:=⟨_,rfl⟩;have a6:U*4294967296+u1=Q1*Y+R1:=by
  have:=gM (U*4294967296+u1) Y;rw[ae,S,fJ]at this;exact this.symm
 have aX:R1<Y:=by rw[<-S];exact gx _ (by omega)
 obtain⟨Q0,ad⟩:∃ Q0,(R1*4294967296+u0)/Y=Q0:=⟨_,rfl⟩;obtain⟨R0,P⟩:∃ R0,(R1*4294967296+u0)%Y=R0:=⟨_,rfl⟩;have a5:R1*4294967296+u0=Q0*Y+R0:=by
  have:=gM (R1*4294967296+u0) Y;rw[ad,P,fJ]at this;exact this.symm
 have aH:R0<Y:=by rw[<-P];exact gx _ (by omega)
 obtain⟨f1,f2⟩:=PH (N:=hi*18446744073709551616+lo) (y:=y) (Y:=Y) (U:=U) (L:=L) (s:=s) (u1:=u1) (u0:=u0) (Q1:=Q1) (R1:=R1) (Q0:=Q0) (R0:=R0) hY.symm (by omega) hN a6 a5 aH;obtain⟨QQ,aG⟩:∃ QQ,Q1*4294967296+Q0=QQ:=⟨_,rfl⟩;obtain⟨RR,an⟩:∃ RR,R0/2^s=RR:=⟨_,rfl⟩;rw[aG]at f1;rw[an]at f2;have F1:=f8 f1;have F2:=f8 f2;have kr:(R0:Int)/2^s=(RR:Int):=by rw[<-an];push_cast;rfl
 have aW:=f8 a6;have aV:=f8 a5;have n:Hid (Q1*(y1*4294967296+y0)<=U*4294967296+u1):=by show _<=_;rw[<-f.out];omega
 have F:Hid (U*4294967296+u1<(Q1+1)*(y1*4294967296+y0)):=by show _<_;rw[<-f.out,ip];omega
 have d:Hid (Q0*(y1*4294967296+y0)<=R1*4294967296+u0):=by show _<=_;rw[<-f.out];omega
 have m:Hid (R1*4294967296+u0<(Q0+1)*(y1*4294967296+y0)):=by show _<_;rw[<-f.out,ip];omega
 have ai:Hid (U<y1*4294967296+y0):=by show _<_;rw[<-f.out];omega
 have J:Hid (R1<y1*4294967296+y0):=by show _<_;rw[<-f.out];omega
 have aQ:=W.digit_lt (b:=4294967296) (y:=y1*4294967296+y0) (U:=U) (u:=u1) ai.out (by omega) n.out;have aP:=W.digit_lt (b:=4294967296) (y:=y1*4294967296+y0) (U:=R1) (u:=u0) J.out (by omega) d.out;have aO:IntKind.u64.wrap ((Q1:Int)*4294967296)=(Q1:Int)*4294967296:=wrap_u64 (by omega) (by omega);have kq:IntKind.u64.wrap ((Q1:Int)*4294967296+(Q0:Int))=(QQ:Int):=Al (by omega) (by omega);obtain⟨gU,Z⟩:∃ gU,U/y1=gU:=⟨_,rfl⟩;obtain⟨rU,a9⟩:∃ rU,U%y1=rU:=⟨_,rfl⟩;have aa:gU*y1+rU=U:=by rw[<-Z,<-a9,fJ];exact gM _ _
 have b1:rU<y1:=by rw[<-a9];exact gx _ (by omega)
 have aM:gU<=U:=by rw[<-Z];exact gy _ _
 have k1:IntKind.u64.wrap ((U:Int)/(y1:Int))=(gU:Int):=Al (by rw[<-Z];exact(mh _ _).symm) (by omega);have b0:IntKind.u64.wrap ((U:Int).tdiv (y1:Int))=(gU:Int):=by rw[iZ (by omega)];exact k1
 have k2:IntKind.u64.wrap ((U:Int)-IntKind.u64.wrap ((gU:Int)*(y1:Int)))=(rU:Int):=L3 aa.symm (by omega);have aj:=f8 aa;have aD:Hid (gU<=4294967297):=by have:=W.guess_le (b:=4294967296) (y1:=y1) (y0:=y0) (U:=U) (by omega) (by omega) (by rw[<-f.out];omega);rw[Z]at this;exact this
 clear aa aM Z a9;obtain⟨C,X⟩:∃ C,R1/y1=C:=⟨_,rfl⟩;obtain⟨rR,a8⟩:∃ rR,R1%y1=rR:=⟨_,rfl⟩;have ab:C*y1+rR=R1:=by rw[<-X,<-a8,fJ];exact gM _ _
 have b3:rR<y1:=by rw[<-a8];exact gx _ (by omega)
 have aN:C<=R1:=by rw[<-X];exact gy _ _
 have k3:IntKind.u64.wrap ((R1:Int)/(y1:Int))=(C:Int):=Al (by rw[<-X];exact(mh _ _).symm) (by omega);have b2:IntKind.u64.wrap ((R1:Int).tdiv (y1:Int))=(C:Int):=by rw[iZ (by omega)];exact k3
 have k4:IntKind.u64.wrap ((R1:Int)-IntKind.u64.wrap ((C:Int)*(y1:Int)))=(rR:Int):=L3 ab.symm (by omega);have a4:=f8 ab;have ac:Hid (C<=4294967297):=by have:=W.guess_le (b:=4294967296) (y1:=y1) (y0:=y0) (U:=R1) (by omega) (by omega) (by rw[<-f.out];omega);rw[X]at this;exact this
 clear ab aN X a8;have k5:=LZ (U:=U) (u:=u1) (Q:=Q1) (Y:=Y) (R:=R1) a6 (by omega);have k6:=LZ (U:=R1) (u:=u0) (Q:=Q0) (Y:=Y) (R:=R0) a5 (by omega);rw[f1,f2];clear al ao ap am hH aE hU hN aL aC aK ax ae S ad P f1 f2 hY
 go_enter func211,ntmps211
 generalize hK:(4294967296:Int)=K at aO kq k5 k6 |-;have o:=f8 hK;clear hK
 go_wp2_with fail
 refine(PG hy _).mono ?_;rintro e w1 ⟨rfl,rfl⟩;rw[av];clear av;clear a6 a5;go_wp2
 go_loop[15,16] (fun O rv=>∃ g r:Nat,O = .int .u64 g/\rv = .int .u64 r/\Hid (g*y1+r=U)/\Hid (Q1<=g)/\Hid (g<=4294967297/\r<4294967296)) (fun O _=>(intOf O).toNat)
 case atStart=>exact⟨gU,rU,rfl,rfl,aj,f8 (W.guess_hi (b:=4294967296) (y1:=y1) (y0:=y0) (U:=U) (u:=u1) (q:=Q1) (g:=gU) (r:=rU) aj.out n.out (by omega) (by omega)),f8 ⟨aD.out,by omega⟩⟩
 case round =>
  obtain⟨g,r,rfl,rfl,E,G,HB⟩:=hrel;obtain⟨ar,aw⟩:=HB.out;obtain⟨p,hp⟩:∃ p,g*y0=p:=⟨_,rfl⟩;obtain⟨l,B⟩:∃ l,4294967296*r+u1=l:=⟨_,rfl⟩;have aB:IntKind.u64.wrap (K*(r:Int))=K*(r:Int):=by rw[<-show(4294967296:Int)=K from o.out];exact wrap_u64 (by omega) (by omega)
  have ag:IntKind.u64.wrap (K*(r:Int)+(u1:Int))=(l:Int):=by rw[<-show(4294967296:Int)=K from o.out];exact Al (by omega) (by omega)
  have k:=f8 hp;have v:=f8 B;clear hp B;have I:Hid (Q1<4294967296):=W.digit_lt (b:=4294967296) (y:=y1*4294967296+y0) (U:=U) (u:=u1) ai.out (by omega) n.out;by_cases T:4294967296<=g\/(g<4294967296/\l<p)
  · have HD:Hid (Q1<g):=W.guess_down (b:=4294967296) (y1:=y1) (y0:=y0) (U:=U) (u:=u1) E.out n.out I.out (by rw[k.out,v.out];omega);obtain⟨a,rfl⟩:∃ a,g=a+1:=⟨g-1,by have:=HD.out;omega⟩;have ay:IntKind.u64.wrap ((a:Int)+1-1)=a:=Al (by omega) (by omega);have af:IntKind.u64.wrap (a:Int)=a:=Al (by omega) (by omega);obtain⟨i,j⟩:∃ i,r+y1=i:=⟨_,rfl⟩;have az:IntKind.u64.wrap ((r:Int)+(y1:Int))=(i:Int):=Al (by omega) (by omega);have t:Hid (a*y1+i=U):=by
     have h1:=E.out;show _=_;rw[<-j,<-h1]
     grind
    have z:Hid (Q1<=a):=by have:=HD.out;show _<=_;omega
    have ah:=f8 j;clear j;have c:K<=(a:Int)+1\/((a:Int)+1<K/\IntKind.u64.wrap (((a:Int)+1)*(y0:Int))=(p:Int)/\(l:Int)<p):=by
     have ak:=o.out;rcases T with h|⟨h1,h2⟩
     · left;omega
     · right;refine⟨by omega,Al (by rw[<-k.out];push_cast;rfl) ?_,by omega⟩;rw[<-k.out];have:(a+1)*y0<=4294967295*4294967295:=gL (by omega) (by omega);omega
    clear T;by_cases a3:4294967296<=i
    · have D:Hid (a=Q1):=by
       show _=_;have h1:=W.guess_done (b:=4294967296) (y1:=y1) (y0:=y0) (U:=U) (u:=u1) (q:=Q1) t.out F.out (W.guess_over a3 (by omega) (by omega));have h2:=z.out;omega
      have hF:=D.out;subst hF;have A:K<=(i:Int):=by have:=o.out;omega
      rcases c with hk|⟨a0,a1,a2⟩
      all_goals
       go_wp2
       go_loop[18,16] (fun O rv=>∃ g r:Nat,O = .int .u64 g/\rv = .int .u64 r/\Hid (g*y1+r=R1)/\Hid (Q0<=g)/\Hid (g<=4294967297/\r<4294967296)) (fun O _=>(intOf O).toNat)
       case atStart=>exact⟨C,rR,rfl,rfl,a4,f8 (W.guess_hi (b:=4294967296) (y1:=y1) (y0:=y0) (U:=R1) (u:=u0) (q:=Q0) (g:=C) (r:=rR) a4.out d.out (by omega) (by omega)),f8 ⟨ac.out,by omega⟩⟩
       case round =>
        obtain⟨g,r,rfl,rfl,E,G,HB⟩:=hrel;obtain⟨ar,aw⟩:=HB.out;obtain⟨p,hp⟩:∃ p,g*y0=p:=⟨_,rfl⟩;obtain⟨l,B⟩:∃ l,4294967296*r+u0=l:=⟨_,rfl⟩;have aB:IntKind.u64.wrap (K*(r:Int))=K*(r:Int):=by rw[<-show(4294967296:Int)=K from o.out];exact wrap_u64 (by omega) (by omega)
        have ag:IntKind.u64.wrap (K*(r:Int)+(u0:Int))=(l:Int):=by rw[<-show(4294967296:Int)=K from o.out];exact Al (by omega) (by omega)
        have k:=f8 hp;have v:=f8 B;clear hp B;have I:Hid (Q0<4294967296):=W.digit_lt (b:=4294967296) (y:=y1*4294967296+y0) (U:=R1) (u:=u0) J.out (by omega) d.out;by_cases T:4294967296<=g\/(g<4294967296/\l<p)
        · have HD:Hid (Q0<g):=W.guess_down (b:=4294967296) (y1:=y1) (y0:=y0) (U:=R1) (u:=u0) E.out d.out I.out (by rw[k.out,v.out];omega);obtain⟨a,rfl⟩:∃ a,g=a+1:=⟨g-1,by have:=HD.out;omega⟩;have ay:IntKind.u64.wrap ((a:Int)+1-1)=a:=Al (by omega) (by omega);have af:IntKind.u64.wrap (a:Int)=a:=Al (by omega) (by omega);obtain⟨i,j⟩:∃ i,r+y1=i:=⟨_,rfl⟩;have az:IntKind.u64.wrap ((r:Int)+(y1:Int))=(i:Int):=Al (by omega) (by omega);have t:Hid (a*y1+i=R1):=by
           have h1:=E.out;show _=_;rw[<-j,<-h1]
           grind
          have z:Hid (Q0<=a):=by have:=HD.out;show _<=_;omega
          have ah:=f8 j;clear j;have c:K<=(a:Int)+1\/((a:Int)+1<K/\IntKind.u64.wrap (((a:Int)+1)*(y0:Int))=(p:Int)/\(l:Int)<p):=by
           have ak:=o.out;rcases T with h|⟨h1,h2⟩
           · left;omega
           · right;refine⟨by omega,Al (by rw[<-k.out];push_cast;rfl) ?_,by omega⟩;rw[<-k.out];have:(a+1)*y0<=4294967295*4294967295:=gL (by omega) (by omega);omega
          clear T;by_cases a3:4294967296<=i
          · have D:Hid (a=Q0):=by
             show _=_;have h1:=W.guess_done (b:=4294967296) (y1:=y1) (y0:=y0) (U:=R1) (u:=u0) (q:=Q0) t.out m.out (W.guess_over a3 (by omega) (by omega));have h2:=z.out;omega
            have hF:=D.out;subst hF;have A:K<=(i:Int):=by have:=o.out;omega
            rcases c with hk|⟨a0,a1,a2⟩
            all_goals
             go_wp2
             go_ret2
             exact⟨rfl,Qt.refl _⟩
          · have A:(i:Int)<K:=by have:=o.out;omega
            rcases c with hk|⟨a0,a1,a2⟩
            all_goals
             go_wp2;go_round
             case rel=>exact⟨a,i,by go_num,rfl,t,z,f8 ⟨by omega,by omega⟩⟩
             case measure=>simp[intOf]
        · have D:Hid (g=Q0):=by
           show _=_;have h1:=W.guess_done (b:=4294967296) (y1:=y1) (y0:=y0) (U:=R1) (u:=u0) (q:=Q0) E.out m.out (by rw[k.out,v.out];omega);have h2:=G.out;omega
          have aq:(g:Int)<K:=by have:=o.out;omega
          have aA:IntKind.u64.wrap ((g:Int)*(y0:Int))=(p:Int):=by
           refine Al (by rw[<-k.out];push_cast;rfl) ?_;rw[<-k.out];have:g*y0<=4294967295*4294967295:=gL (by omega) (by omega);omega
          have au:(p:Int)<=(l:Int):=by omega
          have hF:=D.out;subst hF;clear T;go_wp2
          go_ret2
          exact⟨rfl,Qt.refl _⟩
    · have A:(i:Int)<K:=by have:=o.out;omega
      rcases c with hk|⟨a0,a1,a2⟩
      all_goals
       go_wp2;go_round
       case rel=>exact⟨a,i,by go_num,rfl,t,z,f8 ⟨by omega,by omega⟩⟩
       case measure=>simp[intOf]
  · have D:Hid (g=Q1):=by
     show _=_;have h1:=W.guess_done (b:=4294967296) (y1:=y1) (y0:=y0) (U:=U) (u:=u1) (q:=Q1) E.out F.out (by rw[k.out,v.out];omega);have h2:=G.out;omega
    have aq:(g:Int)<K:=by have:=o.out;omega
    have aA:IntKind.u64.wrap ((g:Int)*(y0:Int))=(p:Int):=by
     refine Al (by rw[<-k.out];push_cast;rfl) ?_;rw[<-k.out];have:g*y0<=4294967295*4294967295:=gL (by omega) (by omega);omega
    have au:(p:Int)<=(l:Int):=by omega
    have hF:=D.out;subst hF;clear T;go_wp2
    go_loop[18,16] (fun O rv=>∃ g r:Nat,O = .int .u64 g/\rv = .int .u64 r/\Hid (g*y1+r=R1)/\Hid (Q0<=g)/\Hid (g<=4294967297/\r<4294967296)) (fun O _=>(intOf O).toNat)
    case atStart=>exact⟨C,rR,rfl,rfl,a4,f8 (W.guess_hi (b:=4294967296) (y1:=y1) (y0:=y0) (U:=R1) (u:=u0) (q:=Q0) (g:=C) (r:=rR) a4.out d.out (by omega) (by omega)),f8 ⟨ac.out,by omega⟩⟩
    case round =>
     obtain⟨g,r,rfl,rfl,E,G,HB⟩:=hrel;obtain⟨ar,aw⟩:=HB.out;obtain⟨p,hp⟩:∃ p,g*y0=p:=⟨_,rfl⟩;obtain⟨l,B⟩:∃ l,4294967296*r+u0=l:=⟨_,rfl⟩;have aB:IntKind.u64.wrap (K*(r:Int))=K*(r:Int):=by rw[<-show(4294967296:Int)=K from o.out];exact wrap_u64 (by omega) (by omega)
     have ag:IntKind.u64.wrap (K*(r:Int)+(u0:Int))=(l:Int):=by rw[<-show(4294967296:Int)=K from o.out];exact Al (by omega) (by omega)
     have k:=f8 hp;have v:=f8 B;clear hp B;have I:Hid (Q0<4294967296):=W.digit_lt (b:=4294967296) (y:=y1*4294967296+y0) (U:=R1) (u:=u0) J.out (by omega) d.out;by_cases T:4294967296<=g\/(g<4294967296/\l<p)
     · have HD:Hid (Q0<g):=W.guess_down (b:=4294967296) (y1:=y1) (y0:=y0) (U:=R1) (u:=u0) E.out d.out I.out (by rw[k.out,v.out];omega);obtain⟨a,rfl⟩:∃ a,g=a+1:=⟨g-1,by have:=HD.out;omega⟩;have ay:IntKind.u64.wrap ((a:Int)+1-1)=a:=Al (by omega) (by omega);have af:IntKind.u64.wrap (a:Int)=a:=Al (by omega) (by omega);obtain⟨i,j⟩:∃ i,r+y1=i:=⟨_,rfl⟩;have az:IntKind.u64.wrap ((r:Int)+(y1:Int))=(i:Int):=Al (by omega) (by omega);have t:Hid (a*y1+i=R1):=by
        have h1:=E.out;show _=_;rw[<-j,<-h1]
        grind
       have z:Hid (Q0<=a):=by have:=HD.out;show _<=_;omega
       have ah:=f8 j;clear j;have c:K<=(a:Int)+1\/((a:Int)+1<K/\IntKind.u64.wrap (((a:Int)+1)*(y0:Int))=(p:Int)/\(l:Int)<p):=by
        have ak:=o.out;rcases T with h|⟨h1,h2⟩
        · left;omega
        · right;refine⟨by omega,Al (by rw[<-k.out];push_cast;rfl) ?_,by omega⟩;rw[<-k.out];have:(a+1)*y0<=4294967295*4294967295:=gL (by omega) (by omega);omega
       clear T;by_cases a3:4294967296<=i
       · have D:Hid (a=Q0):=by
          show _=_;have h1:=W.guess_done (b:=4294967296) (y1:=y1) (y0:=y0) (U:=R1) (u:=u0) (q:=Q0) t.out m.out (W.guess_over a3 (by omega) (by omega));have h2:=z.out;omega
         have hF:=D.out;subst hF;have A:K<=(i:Int):=by have:=o.out;omega
         rcases c with hk|⟨a0,a1,a2⟩
         all_goals
          go_wp2
          go_ret2
          exact⟨rfl,Qt.refl _⟩
       · have A:(i:Int)<K:=by have:=o.out;omega
         rcases c with hk|⟨a0,a1,a2⟩
         all_goals
          go_wp2;go_round
          case rel=>exact⟨a,i,by go_num,rfl,t,z,f8 ⟨by omega,by omega⟩⟩
          case measure=>simp[intOf]
     · have D:Hid (g=Q0):=by
        show _=_;have h1:=W.guess_done (b:=4294967296) (y1:=y1) (y0:=y0) (U:=R1) (u:=u0) (q:=Q0) E.out m.out (by rw[k.out,v.out];omega);have h2:=G.out;omega
       have aq:(g:Int)<K:=by have:=o.out;omega
       have aA:IntKind.u64.wrap ((g:Int)*(y0:Int))=(p:Int):=by
        refine Al (by rw[<-k.out];push_cast;rfl) ?_;rw[<-k.out];have:g*y0<=4294967295*4294967295:=gL (by omega) (by omega);omega
       have au:(p:Int)<=(l:Int):=by omega
       have hF:=D.out;subst hF;clear T;go_wp2
       go_ret2
       exact⟨rfl,Qt.refl _⟩
theorem EP(f:y<18446744073709551616)(a:lo<18446744073709551616)(b:hi<y) :
 Calls prog 211 #[.int .u64 hi,.int .u64 lo,.int .u64 y] w fun e d=>∃ q r:Nat,e = .returned (.tuple #[.int .u64 (q:Int),.int .u64 (r:Int)])/\q<18446744073709551616/\r<y/\hi*18446744073709551616+lo=q*y+r/\Qt w d:=by
 rcases fF hi with h0|h0
 · subst h0;refine(Js f a b).mono ?_;rintro e d ⟨rfl,c⟩;refine⟨lo/y,lo%y,rfl,?_,gx _ b,?_,c⟩
   · have:=gy lo y;omega
   · have:=gM lo y;rw[fJ]at this;rw[iE,fZ];exact this.symm
 · refine(KH f a b h0).mono ?_;rintro e d ⟨rfl,c⟩;refine⟨(hi*18446744073709551616+lo)/y,(hi*18446744073709551616+lo)%y,rfl,?_,gx _ (by omega),?_,c⟩
   · rw[ie (by omega)];have:(hi+1)*18446744073709551616<=y*18446744073709551616:=fa _ b;omega
   · have:=gM (hi*18446744073709551616+lo) y;rw[fJ]at this;exact this.symm
theorem Di(h:k<xs.length):xs.drop k=xs.getD k 0 :: xs.drop (k+1):=by
 rw[gg h,gqq,eZ h];rfl
theorem drop_set{zs:List Nat}{k q:Nat}(h:k<zs.length):(zs.set k q).drop k=q :: zs.drop (k+1):=by
 rw[Di (xs:=zs.set k q) (by simpa using h)];have h1:(zs.set k q).getD k 0=q:=by simp[h]
 have h2:(zs.set k q).drop (k+1)=zs.drop (k+1):=by rw[List.drop_set];simp
 rw[h1,h2]
theorem Oz{q r':Nat}(a:k<xs.length)(b:k<zs.length)(h:W.val B (xs.drop (k+1))=W.val B (zs.drop (k+1))*d+r)(e:r*B+xs.getD k 0=q*d+r') :
 W.val B (xs.drop k)=W.val B ((zs.set k q).drop k)*d+r':=by
 rw[Di a,drop_set b];simp only[W.val];rw[h];generalize xs.getD k 0=x at *
 generalize W.val B (zs.drop (k+1))=Z at *
 have h1:x+B*(Z*d+r)=B*Z*d+(r*B+x):=by grind
 rw[h1,e]
 grind
theorem KJ(R:SlN .u64 w a n c xs)(N:W.bnd 18446744073709551616 xs)(Q:W.val 18446744073709551616 xs=x)(Y:d<18446744073709551616)(h0:0<d)(hn:n<=1000000) :
 Calls prog 226 #[.slice a n c,.int .u64 d] w fun e S=>∃ A L P T,e = .returned (.tuple #[.slice A L P,.int .u64 ((x%d:Nat):Int)])/\Ext w S/\SlN .u64 S A L P T/\Num 18446744073709551616 T (x/d)/\Hv w.heap.size (fun _=>False) A L:=by
 have t:=f8 R.len;have U:=f8 N;have X:=f8 Q;clear N Q
 go_enter func226,ntmps226
 go_upto_region 3 with(at_make;refine EX (n:=n) rfl rfl underlying98 AP rfl rfl rfl (by omega) (by unfold maxLen;omega) ?_;intro w1 m l)
 go_wp2
 go_loopw[7,8] (fun rv iv wr=>∃ (k r:Nat) (zs:List Nat),k<=n/\rv = .int .u64 r/\iv = .int .i64 ((k:Int)-1)/\r<d/\Ext w wr/\Ay .u64 wr w.heap.size 101 w.heap.size n n zs/\W.bnd 18446744073709551616 zs/\Hid (W.val 18446744073709551616 (xs.drop k)=W.val 18446744073709551616 (zs.drop k)*d+r)) (fun _ v _=>(intOf v+1).toNat)
 case atStart=>exact⟨n,0,List.replicate n 0,lrf _,rfl,by go_num,h0,l,Ay.of_zeros m,fun z f=>by rw[(gR.1 f).2];omega,f8 (by rw[gu (by rw[t.out];exact lrf _),gu (by simp)];simp[W.val])⟩
 case round =>
  clear m l;obtain⟨k,r,zs,hk,rfl,rfl,H,C,f,O,M⟩:=hrel;cases k with
  | zero =>
   have b:x/d=W.val 18446744073709551616 zs/\x%d=r:=by
    have h1:=M.out;rw[gP,gP,X.out]at h1;rw[h1,fJ];exact⟨by rw[kl h0,jw H,gE],by rw[kk,j8 H]⟩
   go_wp2_with fail
   refine(BM f.sl).mono ?_;rintro e w4 ⟨q,rfl,rfl,G,Z⟩;obtain⟨t1,t2⟩:=B8 f.sl G Z O b.1.symm;go_wp2
   go_ret2
   exact⟨_,q,_,_,by rw[b.2];rfl,C,t1,t2,fun _ g h=>Or.inl (by cases h;exact lrf _)⟩
  | succ k =>
   obtain⟨b1,o1,rfl,o⟩:=(R.ext C).at (j:=k) (by omega);have g1:=o k (by omega);have J:((k+1:Nat):Int)-1=k:=by omega
   rw[J];have K:=W.bnd_at U.out (i:=k) (by rw[t.out];omega);have s:=f8 (fun q r'=>Oz (B:=18446744073709551616) (xs:=xs) (zs:=zs) (k:=k) (q:=q) (r:=r) (r':=r') (d:=d) (by rw[t.out];omega) (by rw[f.len];omega) M.out);generalize xs.getD k 0=u at *
   have F:=fun wx:World=>EP (w:=wx) (hi:=r) (lo:=u) (y:=d) Y K H;clear o
   go_wp2_with fail
   refine(F _).mono ?_;rintro e w2 ⟨q,r',rfl,G,I,he,E⟩;have g3:=(f.ext E.ext).frozen k;have V:=f8 (s.out q r' he);have p:=f.ext E.ext;have D:=C.trans E.ext;have g4:=p.cell (i:=k) (by omega);clear he;go_wp2;go_roundw
   case rel=>exact⟨k,r',zs.set k q,by omega,rfl,by go_num,I,D.setCell (lrf _) _,p.set k q,W.bnd_set O G,V⟩
   case measure=>simp[intOf]
theorem Hz(E:SlN .u64 w a n c xs)(C:W.bnd 18446744073709551616 xs)(D:W.val 18446744073709551616 xs=x)(I:d<18446744073709551616)(h0:0<d)(R:n<=1000000) :
 Calls prog 179 #[.slice a n c,.int .u64 d] w fun e M=>e = .returned (.int .u64 ((x%d:Nat):Int))/\Qt w M:=by
 have o:=f8 E.len;have F:=f8 C;have H:=f8 D;clear C D
 go_enter func179,ntmps179
 go_wp2
 go_loopw[5,6] (fun L K wr=>∃ (k r:Nat),k<=n/\L = .int .u64 r/\K = .int .i64 ((k:Int)-1)/\r<d/\Qt w wr/\Hid (W.val 18446744073709551616 (xs.drop k)%d=r)) (fun _ v _=>(intOf v+1).toNat)
 case atStart=>exact⟨n,0,lrf _,rfl,by go_num,h0,Qt.refl _,f8 (by rw[gu (by rw[o.out];exact lrf _)];simp[W.val])⟩
 case round =>
  obtain⟨k,r,Q,rfl,rfl,J,p,B⟩:=hrel;cases k with
  | zero =>
   have l:x%d=r:=by
    have h1:=B.out;rw[gP,H.out]at h1;exact h1
   go_wp2;go_ret;exact⟨by rw[l];rfl,p⟩
  | succ k =>
   obtain⟨O,T,rfl,g⟩:=(E.ext p.ext).at (j:=k) (by omega);have P:=g k (by omega);have z:((k+1:Nat):Int)-1=k:=by omega
   rw[z];have A:=W.bnd_at F.out (i:=k) (by rw[o.out];omega);have m:Hid (∀ q b,r*18446744073709551616+xs.getD k 0=q*d+b->b < d->W.val 18446744073709551616 (xs.drop k)%d=b):=by
    show ∀ q b,r*18446744073709551616+xs.getD k 0=q*d+b->b < d->W.val 18446744073709551616 (xs.drop k)%d=b;intro q b e f;rw[Di (by rw[o.out];omega)];simp only[W.val];have h1:=B.out;have h2:=gM (W.val 18446744073709551616 (xs.drop (k+1))) d;rw[h1]at h2;rw[<-h2];generalize W.val 18446744073709551616 (xs.drop (k+1))/d=Z;generalize xs.getD k 0=u at *
    have h3:u+18446744073709551616*(d*Z+r)=d*(18446744073709551616*Z+q)+b:=by grind
    rw[h3,kk,j8 f]
   generalize xs.getD k 0=u at *
   have t:=fun N:World=>EP (w:=N) (hi:=r) (lo:=u) (y:=d) I A J;clear g
   go_wp2_with fail
   refine(t _).mono ?_;rintro e U ⟨q,b,rfl,S,f,he,s⟩;have G:=f8 (m.out q b he f);clear he;go_wp2;go_roundw
   case rel=>exact⟨k,b,by omega,rfl,by go_num,f,p.trans s,G⟩
   case measure=>simp[intOf]
theorem RY{w:Nat}(f:o+k<l.length)(g:k<xs.length)(h:W.val B l+w*W.val B (xs.take k)*B^o=V+c*B^(o+k))(e:s+xs.getD k 0*w+c=l.getD (o+k) 0+B*c') :
 W.val B (l.set (o+k) s)+w*W.val B (xs.take (k+1))*B^o=V+c'*B^(o+(k+1)):=by
 have h1:=W.val_set (B:=B) (xs:=l) (i:=o+k) (v:=s) f;have h2:=W.val_take_succ (B:=B) g;rw[h2,<-iU,gr];have h3:B^(o+k)=B^o*B^k:=j9 _ _ _;rw[h3]at h h1 |-;generalize l.getD (o+k) 0=x at *
 generalize xs.getD k 0=y at *
 generalize W.val B (l.set (o+k) s)=a at *
 generalize W.val B l=b at *
 generalize W.val B (xs.take k)=d at *
 generalize B^k=p at *
 generalize B^o=q at *
 grind
theorem Uh(c:z<18446744073709551616)(hu:u<18446744073709551616)(b:wd<18446744073709551616)(a:cy<18446744073709551616) :
 u*wd/18446744073709551616+(u*wd%18446744073709551616+cy+0)/18446744073709551616<18446744073709551616/\u*wd/18446744073709551616+(u*wd%18446744073709551616+cy+0)/18446744073709551616+(if z<(u*wd%18446744073709551616+cy+0)%18446744073709551616+0 then 1 else 0)<18446744073709551616 /\
 (z+18446744073709551616-(u*wd%18446744073709551616+cy+0)%18446744073709551616-0)%18446744073709551616+u*wd+cy=z+18446744073709551616*(u*wd/18446744073709551616+(u*wd%18446744073709551616+cy+0)/18446744073709551616+(if z<(u*wd%18446744073709551616+cy+0)%18446744073709551616+0 then 1 else 0)):=by
 have:u*wd<=18446744073709551615*18446744073709551615:=gL (by omega) (by omega);generalize u * wd=p at *
 split <;> omega
theorem F8{base C:Nat}(Q:Ay .u64 w base 101 g N C zs)(P:SlN .u64 w a n d xs)(r:blk a=none\/blk a≠some g)(ho:o+n<=N)(Y:W.bnd 18446744073709551616 zs)(X:W.bnd 18446744073709551616 xs)(Z:wd<18446744073709551616) :
 Calls prog 228 #[.slice (some ⟨g,o,none⟩) n c',.slice a n d,.int .u64 wd] w fun e w'=>∃ (b:Nat) (p:List Nat),e = .returned (.int .u64 b)/\b<18446744073709551616/\w.grownBy w' (some g)/\Ay .u64 w' base 101 g N C p/\W.bnd 18446744073709551616 p/\W.val 18446744073709551616 p+wd*W.val 18446744073709551616 xs*18446744073709551616^o=W.val 18446744073709551616 zs+b*18446744073709551616^(o+n)/\(∀ j,o+n<=j->p.getD j 0=zs.getD j 0):=by
 have HZ:=f8 Q.len;have H:=f8 P.len;have a1:=P.le;have BX:=f8 X;clear X
 go_enter func228,ntmps228
 go_wp2
 go_loopw[7,16] (fun cv S wr=>∃ (k b:Nat) (c:List Nat),cv = .int .u64 b/\S = .int .i64 k/\k<=n/\b<18446744073709551616/\w.grownBy wr (some g)/\Ay .u64 wr base 101 g N C c/\W.bnd 18446744073709551616 c/\Hid (W.val 18446744073709551616 c+wd*W.val 18446744073709551616 (xs.take k)*18446744073709551616^o=W.val 18446744073709551616 zs+b*18446744073709551616^(o+k))/\Hid (∀ j,o+n<=j->c.getD j 0=zs.getD j 0)) (fun _ S _=>n-(intOf S).toNat)
 case atStart=>exact⟨0,0,zs,rfl,rfl,fu _,by omega,DN _ _,Q,Y,f8 (by simp[W.val]),f8 (fun _ _=>rfl)⟩
 case round =>
  clear Q Y;obtain⟨k,b,c,rfl,rfl,hk,D,L,v,I,U,V⟩:=hrel;by_cases f:k<n
  · obtain⟨b1,o1,rfl,y⟩:=(P.kept L r).at (j:=k) f;have g1:=y k f;have g2:=v.cell (i:=o+k) (by omega);have g3:=v.frozen (o+k);have R:=W.bnd_at I (i:=o+k) (by rw[v.len];omega);have F:=W.bnd_at BX.out (i:=k) (by rw[H.out];exact f);obtain⟨m1,m2,m3⟩:=Uh R F Z D;have HS:=f8 (RY (B:=18446744073709551616) (l:=c) (xs:=xs) (k:=k) (o:=o) (w:=wd) (by rw[v.len];omega) (by rw[H.out];exact f) U.out m3);have a0:(k:Int)<n:=by omega
    have G:Hid (∀ s j,o+n<=j->(c.set (o+k) s).getD j 0=zs.getD j 0):=by
     show ∀ s j,o+n<=j->(c.set (o+k) s).getD j 0=zs.getD j 0;intro s j hj;rw[<-V.out j hj];have r:¬ o+k=j:=by omega
     simp[r]
    generalize c.getD (o+k) 0=z at *
    generalize xs.getD k 0=u at *
    have E:=JL F Z;have J:∀ m:World,(callFunc 202 #[.int .u64 ((u*wd%18446744073709551616:Nat):Int),.int .u64 (b:Int),.int .u64 0]).run prog m = .ok (.value (.tuple #[.int .u64 (((u*wd%18446744073709551616+b+0)%18446744073709551616:Nat):Int),.int .u64 (((u*wd%18446744073709551616+b+0)/18446744073709551616:Nat):Int)])) m:=fun m=>C9 (u*wd%18446744073709551616) b 0 (by omega) m;generalize u * wd/18446744073709551616=t at *
    generalize u * wd%18446744073709551616=pl at *
    generalize M:(pl+b+0)%18446744073709551616=s1 at *
    generalize A:(pl+b+0)/18446744073709551616=q at *
    have K:∀ m:World,(callFunc 204 #[.int .u64 (z:Int),.int .u64 (s1:Int),.int .u64 0]).run prog m = .ok (.value (.tuple #[.int .u64 (((z+18446744073709551616-s1-0)%18446744073709551616:Nat):Int),.int .u64 ((if z<s1+0 then 1 else 0:Nat):Int)])) m:=fun m=>Da z s1 0 (by omega) m;have O:(z+18446744073709551616-s1-0)%18446744073709551616<18446744073709551616:=gx _ (by omega);generalize (z+18446744073709551616-s1-0)%18446744073709551616=T at *
    generalize (if z<s1+0 then 1 else 0)=x at *
    have a2:IntKind.u64.wrap ((t:Int)+q)=((t+q:Nat):Int):=by rw[wrap_u64 (by omega) (by omega)];omega
    have a3:IntKind.u64.wrap (((t+q:Nat):Int)+x)=((t+q+x:Nat):Int):=by rw[wrap_u64 (by omega) (by omega)];omega
    have a4:IntKind.u64.wrap ((t:Int)+(q:Int)+x)=((t+q+x:Nat):Int):=by rw[wrap_u64 (by omega) (by omega)];omega
    clear y M A m3
    go_wp2_with(go_at_call 205;refine(E _).mono ?_;rintro e w1 ⟨rfl,rfl⟩)
    go_roundw
    case rel=>exact⟨k+1,t+q+x,c.set (o+k) T,by first | rfl | go_num,by go_num,by omega,m2,DG L _ _,v.set (o+k) T,W.bnd_set I O,HS,f8 (G.out T)⟩
    case measure=>simp[intOf];omega
  · have ek:k=n:=by omega
    go_wp2;go_ret;have h1:=U.out;rw[ek,f9 (by rw[H.out];exact lrf _)]at h1;exact⟨b,c,rfl,D,L,v,I,h1,V.out⟩
theorem Ui(a:k+1<l.length)(b:k<xs.length)(h:W.val B l=W.val B (xs.take k)*2^s)(h0:l.getD (k+1) 0=0)(e:xs.getD k 0*2^s=V*B+L) :
 W.val B ((l.set k (l.getD k 0+L)).set (k+1) V)=W.val B (xs.take (k+1))*2^s:=by
 have h1:=W.val_set (B:=B) (xs:=l) (i:=k) (v:=l.getD k 0+L) (by omega);have h2:=W.val_set (B:=B) (xs:=l.set k (l.getD k 0+L)) (i:=k+1) (v:=V) (by simpa using a);have h3:(l.set k (l.getD k 0+L)).getD (k+1) 0=0:=by
  simpa using h0
 rw[h3]at h2;rw[W.val_take_succ b,ip,iH,e];rw[gr]at h2;generalize l.getD k 0=z at *
 generalize W.val B ((l.set k (z+L)).set (k+1) V)=X at *
 generalize W.val B (l.set k (z+L))=Y at *
 generalize W.val B l=Z at *
 generalize W.val B (xs.take k) * 2^s=T at *
 generalize B^k=p at *
 grind
theorem CN(a:s<=63):2^(64-s)*2^s=18446744073709551616:=by rw[<-j9,show 64-s+s=64 by omega]
theorem Vr(a:s<=63)(e:lo*2^s=V*18446744073709551616+L):L%2^s=0:=by
 have h1:=CN a;have h2:2^s∣V*18446744073709551616+L:=by rw[<-e];exact jL _ _
 have h3:2^s∣V*18446744073709551616:=by rw[<-h1];exact⟨V*2^(64-s),by grind⟩
 exact Nat.mod_eq_zero_of_dvd ((m5 h3).1 h2)
theorem Vs(c:s<=63)(b:L%2^s=0)(a:L<18446744073709551616)(d:z<2^s):z+L<18446744073709551616:=by
 have h1:=CN c;have h2:=gM L (2^s);rw[b,gE]at h2;have h3:L/2^s<2^(64-s):=by
  rw[ie (gh s),h1];exact a
 have h4:2^s*(L/2^s+1)<=2^s*2^(64-s):=fX _ h3;rw[fJ (2^s) (2^(64-s)),h1,jF,je,h2]at h4;omega
theorem Gl(Y:SlN .u64 w a n c xs)(nx:Num 18446744073709551616 xs x)(G:s<=63)(hn:n<=1000000) :
 Calls prog 220 #[.slice a n c,.int .u64 s] w (Ou .u64 18446744073709551616 w (x*2^s)):=by
 have E:=f8 Y.len;have p:=f8 nx;clear nx;by_cases h0:n=0\/s=0
 · have HZ:Hid (x*2^s=x):=by
    show _=_;rcases h0 with h0|h0
    · have h1:xs=[]:=fk (by rw[E.out,h0]);have h2:=p.out.val;rw[h1]at h2;simp only[W.val]at h2;rw[<-h2];simp
    · rw[h0];simp
   have o:((n:Int) == 0)=true\/(((n:Int) == 0)=false/\((s:Int) == 0)=true):=by
    by_cases h1:n=0
    · left;simp[h1]
    · right;exact⟨by simpa using h1,by simp;omega⟩
   clear h0;rcases o with hp|⟨hp,a1⟩
   all_goals
    go_enter func220,ntmps220
    go_wp2;go_ret;exact⟨a,n,c,xs,rfl,Ext.refl w,Y,⟨p.out.bnd,p.out.nrm,by rw[p.out.val,HZ.out]⟩⟩
 · have R:((n:Int) == 0)=false:=by simp;omega
   have S:((s:Int) == 0)=false:=by simp;omega
   have F:(s:Int)/64=0:=by omega
   have U:(s:Int).tdiv 64=0:=by rw[iZ (by omega)];exact F
   have hr:(s:Int)%64=s:=by omega
   have X:(s:Int).tmod 64=s:=by rw[ji (by omega)];exact hr
   clear h0
   go_enter func220,ntmps220
   go_upto_region 5 with(at_make;refine EX (n:=n+1) rfl rfl underlying98 AP rfl rfl rfl (by omega) (by unfold maxLen;omega) ?_;intro w1 A r)
   clear F U hr X R S;go_wp2
   go_loopw[31] (fun iv wr=>∃ (k:Nat) (b:List Nat),iv = .int .i64 k/\k<=n/\Ext w wr/\Ay .u64 wr w.heap.size 101 w.heap.size (n+1) (n+1) b/\W.bnd 18446744073709551616 b/\Hid (W.val 18446744073709551616 b=W.val 18446744073709551616 (xs.take k)*2^s)/\Hid (∀ j,k<j->b.getD j 0=0)/\Hid (b.getD k 0<2^s)) (fun iv _=>n-(intOf iv).toNat)
   case atStart=>exact⟨0,List.replicate (n+1) 0,rfl,fu _,r,Ay.of_zeros A,fun z d=>by rw[(gR.1 d).2];omega,f8 (by rw[W.val_zeros];simp[W.val]),f8 (fun j _=>FA _ j),f8 (by rw[FA];exact gh s)⟩
   case round =>
    clear A r;obtain⟨k,b,rfl,hk,O,d,N,HV,I,HP⟩:=hrel;by_cases f:k<n
    · obtain⟨b1,o1,rfl,D⟩:=(Y.ext O).at (j:=k) f;have g1:=D k f;have g2:=d.cell (i:=k) (by omega);have g3:=d.frozen k;have g4:=d.frozen (k+1);have g5:=d.cell (i:=k+1) (by omega);rw[I.out (k+1) (by omega)]at g5;have Z:=W.bnd_at p.out.bnd (i:=k) (by rw[E.out];exact f);obtain⟨L,V,m,t,C,P,y⟩:=LY G Z;have g:=Vr G m;have HS:=f8 (Ui (B:=18446744073709551616) (l:=b) (xs:=xs) (k:=k) (s:=s) (L:=L) (V:=V) (by rw[d.len];omega) (by rw[E.out];exact f) HV.out (I.out _ (by omega)) m)
      have a0:b.getD k 0<18446744073709551616:=W.bnd_at N (i:=k) (by rw[d.len];omega);have T:=Vs G g t HP.out;have J:Hid (∀ v j,k+1<j->((b.set k v).set (k+1) V).getD j 0=0):=by
       show ∀ v j,k+1<j->((b.set k v).set (k+1) V).getD j 0=0;intro v j hj;have h0:=I.out j (by omega);have h1:¬ k=j:=by omega
       have h2:¬ k+1=j:=by omega
       simpa[h1,h2]using h0
      have K:Hid (∀ v,((b.set k v).set (k+1) V).getD (k+1) 0<2^s):=by
       show ∀ v,((b.set k v).set (k+1) V).getD (k+1) 0<2^s;intro v;have h1:k+1<b.length:=by rw[d.len];omega
       have h2:((b.set k v).set (k+1) V).getD (k+1) 0=V:=by simp[h1]
       rw[h2];exact P
      have e5:bits BinOp.or IntKind.u64 ((b.getD k 0:Nat):Int) (L:Int)=((b.getD k 0+L:Nat):Int):=by
       rw[lT _ L a0 t,Nat.or_comm,nat_join s L (b.getD k 0) g HP.out,jp]
      generalize a2:b.getD k 0+L=H at *
      generalize b.getD k 0=z at *
      have e6:IntKind.u64.wrap (((xs.getD k 0:Nat):Int)*2^s)=(L:Int):=by
       have:=Hy (x:=xs.getD k 0*2^s) (M:=L) y.symm;push_cast at this;exact this
      have e7:((xs.getD k 0:Nat):Int)/2^(64-s)=(V:Int):=by rw[C];push_cast;rfl
      clear m y C;generalize xs.getD k 0=u at *
      have Q:V<18446744073709551616:=by
       have:=fx (n:=2) (by omega) (show s<=63 from G);omega
      clear D;go_wp2;go_roundw
      case rel=>exact⟨k+1,(b.set k H).set (k+1) V,by go_num,by omega,(O.setCell (lrf _) _).setCell (lrf _) _,(d.set k H).set (k+1) V,W.bnd_set (W.bnd_set N T) Q,HS,f8 (J.out H),f8 (K.out H)⟩
      case measure=>simp[intOf];omega
    · have ek:k=n:=by omega
      have hv:W.val 18446744073709551616 b=x*2^s:=by
       have h1:=HV.out;rw[ek,f9 (by rw[E.out];exact lrf _),p.out.val]at h1;exact h1
      go_wp2_with fail
      refine(BM d.sl).mono ?_;rintro e w4 ⟨q,rfl,rfl,F,ht⟩;obtain⟨t1,t2⟩:=B8 d.sl F ht N hv;go_wp2;go_ret;exact⟨_,q,_,_,rfl,O,t1,t2⟩
theorem Vt(a:s<=63):2^s*(x*2^(64-s)%18446744073709551616)=18446744073709551616*(x%2^s)/\x*2^(64-s)%18446744073709551616%2^(64-s)=0:=by
 have h1:=CN a;have h2:x*2^(64-s)%18446744073709551616=x%2^s*2^(64-s):=by
  rw[<-h1,fJ (2^(64-s)) (2^s),Nat.mul_mod_mul_right]
 rw[h2];refine⟨?_,Nat.mul_mod_left _ _⟩;rw[<-h1];generalize 2^(64-s)=p;generalize 2^s=q
 grind
theorem WP(a:s<=63)(b:x<18446744073709551616):x/2^s<2^(64-s):=by
 rw[ie (gh s),CN a];exact b
theorem MZ(a:x<18446744073709551616)(b:y<18446744073709551616):x ||| y<18446744073709551616:=Nat.or_lt_two_pow (n:=64) a b
theorem OA(a:s<=63)(b:x<18446744073709551616):∃ z:Nat,z<18446744073709551616/\x/2^s ||| (y*2^(64-s)%18446744073709551616)=z/\2^s*z+x%2^s=x+18446744073709551616*(y%2^s):=by
 obtain⟨h1,h2⟩:=Vt (x:=y) a;have h3:=WP a b;have h4:=nat_join (64-s) (y*2^(64-s)%18446744073709551616) (x/2^s) h2 h3;refine⟨x/2^s ||| (y*2^(64-s)%18446744073709551616),MZ ?_ (gx _ (by omega)),rfl,?_⟩
 · have:=gy x (2^s);omega
 · rw[Nat.or_comm,h4,jF,h1];have:=gM x (2^s);generalize 2^s * (x/2^s)=p at *
   omega
theorem OB(c:k<l.length)(d:k<xs.length)(h:2^s*W.val B (l.take k)+V=W.val B (xs.take k)+B^k*(xs.getD k 0%2^s))(e:2^s*z+xs.getD k 0%2^s=xs.getD k 0+B*(xs.getD (k+1) 0%2^s)) :
 2^s*W.val B ((l.set k z).take (k+1))+V=W.val B (xs.take (k+1))+B^(k+1)*(xs.getD (k+1) 0%2^s):=by
 have h1:=W.val_take_succ (B:=B) (xs:=l.set k z) (i:=k) (by simpa using c);have h2:(l.set k z).getD k 0=z:=by simp[c]
 have h3:(l.set k z).take k=l.take k:=by rw[List.take_set,List.set_eq_of_length_le (by simp;omega)]
 rw[h2,h3]at h1;rw[h1,W.val_take_succ d,gr];generalize xs.getD (k+1) 0%2^s=b at *
 generalize xs.getD k 0%2^s=a at *
 generalize xs.getD k 0=u at *
 generalize W.val B (l.take k)=A at *
 generalize W.val B (xs.take k)=X at *
 generalize B^k=p at *
 generalize 2^s=q at *
 grind
theorem Jt(hx:SlN .u64 w a n c xs)(nx:Num 18446744073709551616 xs x)(hs:s<=63)(hn:n<=1000000) :
 Calls prog 225 #[.slice a n c,.int .u64 s] w (Ov .u64 18446744073709551616 w (fun _=>False) (x/2^s)):=by
 have r:=f8 hx.len;have Q:=f8 nx;clear nx;have O:(s:Int)/64=0:=by omega
 have Y:(s:Int).tdiv 64=0:=by rw[iZ (by omega)];exact O
 have hr:(s:Int)%64=s:=by omega
 have Z:(s:Int).tmod 64=s:=by rw[ji (by omega)];exact hr
 by_cases h0:n=0
 · have HZ:Hid (x/2^s=0):=by
    show _=_;have h1:xs=[]:=fk (by rw[r.out,h0]);have h2:=Q.out.val;rw[h1]at h2;simp only[W.val]at h2;rw[<-h2];simp
   subst h0
   go_enter func225,ntmps225
   go_wp2;go_ret;exact⟨none,0,0,[],rfl,Ext.refl w,SlN.nil _ _,by rw[HZ.out];exact Num.nil _,fun _ h=>by cases h⟩
 · have X:(0:Int)<(n:Int):=by omega
   clear h0
   go_enter func225,ntmps225
   go_upto_region 5 with(at_make;refine EX (n:=n) rfl rfl underlying98 AP rfl rfl rfl (by omega) (by unfold maxLen;omega) ?_;intro w1 F E)
   clear O Y hr Z X;go_wp2
   go_loopw[27] (fun iv wr=>∃ (k:Nat) (m:List Nat),iv = .int .i64 k/\k<=n/\Ext w wr/\Ay .u64 wr w.heap.size 101 w.heap.size n n m/\W.bnd 18446744073709551616 m/\Hid (2^s*W.val 18446744073709551616 (m.take k)+xs.getD 0 0%2^s=W.val 18446744073709551616 (xs.take k)+18446744073709551616^k*(xs.getD k 0%2^s))) (fun iv _=>n-(intOf iv).toNat)
   case atStart=>exact⟨0,List.replicate n 0,rfl,fu _,E,Ay.of_zeros F,fun z d=>by rw[(gR.1 d).2];omega,f8 (by simp[W.val])⟩
   case round =>
    clear F E;obtain⟨k,m,rfl,hk,J,d,R,C⟩:=hrel;by_cases b:k<n
    · obtain⟨b1,o1,rfl,o⟩:=(hx.ext J).at (j:=k) b;have g1:=o k b;have g2:=d.cell (i:=k) b;have g3:=d.frozen k;have G:=W.bnd_at Q.out.bnd (i:=k) (by rw[r.out];exact b);by_cases t:k+1<n
      · have g4:=o (k+1) t;have a1:b1≠w.heap.size:=by have:=hx.fresh (lrf _) (by omega);simpa[blk]using this
        obtain⟨f,v,A,D⟩:=OA (y:=xs.getD (k+1) 0) hs G;have P:=f8 (OB (B:=18446744073709551616) (l:=m) (xs:=xs) (k:=k) (s:=s) (z:=f) (by rw[d.len];omega) (by rw[r.out];exact b) C.out D);obtain⟨L,K⟩:∃ L,xs.getD (k+1) 0*2^(64-s)%18446744073709551616=L:=⟨_,rfl⟩;obtain⟨V,N⟩:∃ V,xs.getD k 0/2^s=V:=⟨_,rfl⟩;have T:L<18446744073709551616:=by rw[<-K];exact gx _ (by omega)
        have U:V<18446744073709551616:=by rw[<-N];have:=gy (xs.getD k 0) (2^s);omega
        rw[K,N]at A;have f5:bits BinOp.or IntKind.u64 (V:Int) (L:Int)=(f:Int):=by rw[lT V L U T,A]
        have f6:IntKind.u64.wrap (((xs.getD (k+1) 0:Nat):Int)*2^(64-s))=(L:Int):=by
         have:=Hy (x:=xs.getD (k+1) 0*2^(64-s)) (M:=L) K;push_cast at this;exact this
        have f7:((xs.getD k 0:Nat):Int)/2^s=(V:Int):=by rw[<-N];push_cast;rfl
        clear K N A D C;generalize a0:xs.getD (k+1) 0=y at *
        generalize xs.getD k 0=u at *
        generalize m.getD k 0=z at *
        clear o;go_wp2;have S:=((J.setCell (p:=⟨w.heap.size,k,none⟩) (lrf _) (.int .u64 (V:Int))).setCell (p:=⟨w.heap.size,k,none⟩) (lrf _) (.int .u64 (f:Int))).drewN 1;have I:=((d.set k V).set k f).drewN 1;rw[List.set_set]at I
        go_region
        go_wp2;go_roundw
        case rel=>exact⟨k+1,m.set k f,by go_num,by omega,S,I,W.bnd_set R v,by rw[a0];exact P⟩
        case measure=>simp[intOf];omega
      · have H:xs.getD (k+1) 0=0:=by
         rw[gqq,fH (by rw[r.out];omega)];rfl
        obtain⟨f,v,A,D⟩:=OA (y:=0) hs G;have P:=f8 (OB (B:=18446744073709551616) (l:=m) (xs:=xs) (k:=k) (s:=s) (z:=f) (by rw[d.len];omega) (by rw[r.out];exact b) C.out (by rw[H];exact D));have e7:xs.getD k 0/2^s=f:=by rw[<-A];simp
        have f7:((xs.getD k 0:Nat):Int)/2^s=(f:Int):=by rw[<-e7];push_cast;rfl
        clear A D e7 C H;generalize xs.getD k 0=u at *
        generalize m.getD k 0=z at *
        clear o;go_wp2;go_roundw
        case rel=>exact⟨k+1,m.set k f,by go_num,by omega,J.setCell (lrf _) _,d.set k f,W.bnd_set R v,P⟩
        case measure=>simp[intOf];omega
    · have ek:k=n:=by omega
      have hv:W.val 18446744073709551616 m=x/2^s:=by
       have h1:=C.out;have h2:xs.getD n 0=0:=by
        rw[gqq,fH (by rw[r.out];omega)];rfl
       rw[ek,f9 (by rw[d.len];exact lrf _),f9 (by rw[r.out];exact lrf _),Q.out.val,h2,Nat.zero_mod,lr,gE]at h1;rw[<-h1,kl (gh s),jw (gx _ (gh s)),gE]
      go_wp2_with fail
      refine(BM d.sl).mono ?_;rintro e w4 ⟨q,rfl,rfl,O,ht⟩;obtain⟨t1,t2⟩:=B8 d.sl O ht R hv;go_wp2;go_ret;exact⟨_,q,_,_,rfl,J,t1,t2,fun g h=>Or.inl (by cases h;exact lrf _)⟩
theorem Lh{q:Nat}(m:y<18446744073709551616)(a:lo<18446744073709551616)(k:hi<y)(l:r<y)(h:hi*18446744073709551616+lo=q*y+r) :
 Calls prog 211 #[.int .u64 hi,.int .u64 lo,.int .u64 y] w fun e f=>e = .returned (.tuple #[.int .u64 (q:Int),.int .u64 (r:Int)])/\Qt w f:=by
 refine(EP m a k).mono ?_;rintro e f ⟨c,d,rfl,_,b,h2,j⟩;rw[h]at h2;have g:r=d:=by
  have:(q*y+r)%y=(c*y+d)%y:=by rw[h2]
  rw[fJ,kk,j8 l,fJ,kk,j8 b]at this;exact this
 subst g;have i:q=c:=ky (show 0<y by omega) (by omega);subst i;exact⟨rfl,j⟩
theorem Uj{b y1 y0:Nat}(a:g*y1+r=U)(c:g*y0<=b*r+u):g*(y1*b+y0)<=U*b+u:=by
 have h2:g*(y1*b+y0)=g*y1*b+g*y0:=by grind
 have h3:U*b=g*y1*b+r*b:=by rw[<-a];grind
 have h4:b*r=r*b:=fJ _ _;omega
theorem RZ{W q f t1 t0:Nat}(j:W=w3*P+lo)(i:D=d2*P+lo')(e:lo' < P)(c:w3=(f*B+t1)*B+t0)(a:d2=f*B+s)(g:s<B)(d:B<=2*f)(l:W<(q+1)*D):B<=q+2:=by
 refine fR fun k => ?_;have b:q+1+2<=B:=by omega
 have h1:(q+1)*D<=(q+1)*(d2*P+P):=fX _ (by omega);have h2:(q+1)*(d2*P+P)=(q+1)*(d2+1)*P:=by grind
 have h3:w3*P<(q+1)*(d2+1)*P:=by omega
 have h4:w3<(q+1)*(d2+1):=iX h3;have h5:(q+1)*(d2+1)+2*(d2+1)<=B*(d2+1):=by
  rw[<-ip];exact fa _ b
 have h6:B*(d2+1)=f*B*B+s*B+B:=by rw[a];grind
 have h7:w3=f*B*B+t1*B+t0:=by rw[c];grind
 have h8:s*B+B<=B*B:=by
  have:=fa B (show s+1<=B from g);rw[ip]at this;omega
 have h9:B*B<=2*f*B:=fa _ d;have h10:2*(d2+1)=2*f*B+2*s+2:=by rw[a];grind
 omega
theorem Vu{t:Nat}(_ht:t<18446744073709551616)(h:p/18446744073709551616<r\/(p/18446744073709551616=r/\p%18446744073709551616<=t)):p<=18446744073709551616*r+t:=by omega
theorem Vv{t:Nat}(_ht:t<18446744073709551616)(h:r<p/18446744073709551616\/(p/18446744073709551616=r/\t<p%18446744073709551616)):18446744073709551616*r+t<p:=by omega
theorem M0{q:Nat}(hl:SlN .u64 w a (n+1) c ls)(hd:SlN .u64 w b n d ds)(bl:W.bnd 18446744073709551616 ls)(bd:W.bnd 18446744073709551616 ds)(h2:n=m+2)(hn:n<=1000000)(hf:9223372036854775808<=ds.getD (m+1) 0)
 (G:w3=(ls.getD (m+2) 0*18446744073709551616+ls.getD (m+1) 0)*18446744073709551616+ls.getD m 0) (z:d2=ds.getD (m+1) 0*18446744073709551616+ds.getD m 0)
 (hW:W.val 18446744073709551616 ls=w3*P+lo) (hD:W.val 18446744073709551616 ds=d2*P+lo') (a9:lo<P) (D:lo' < P) (aa:q*W.val 18446744073709551616 ds<=W.val 18446744073709551616 ls) (I:W.val 18446744073709551616 ls<(q+1)*W.val 18446744073709551616 ds) (ab:q<18446744073709551616) :
 Calls prog 227 #[.slice a (n+1) c,.slice b n d] w fun e w'=>∃ g:Nat,e = .returned (.int .u64 (g:Int))/\q<=g/\g<=q+1/\g<18446744073709551616/\Qt w w':=by
 subst h2;have k1:=W.digit_hi hW a9 hD aa;have ah:=W.bnd_at bd (i:=m+1) (by rw[hd.len];omega);have ad:=W.bnd_at bd (i:=m) (by rw[hd.len];omega);have aq:=W.bnd_at bl (i:=m+2) (by rw[hl.len];omega);have ai:=W.bnd_at bl (i:=m+1) (by rw[hl.len];omega);have T:=W.bnd_at bl (i:=m) (by rw[hl.len];omega);obtain⟨b1,o1,rfl,H⟩:=hl.at (j:=0) (by omega);obtain⟨b2,o2,rfl,N⟩:=hd.at (j:=0) (by omega);have g0:=H m (by omega);have g1:=H (m+1) (by omega);have o:=H (m+2) (by omega);have g3:=N (m+1) (by omega);have g4:=N m (by omega);have k2:18446744073709551616<=d2:=by
  rw[z];have h1:1*18446744073709551616<=ds.getD (m+1) 0*18446744073709551616:=fa _ (by omega);rw[k8]at h1;exact ft h1 (kb _ _)
 have J:Hid (ls.getD (m+2) 0=ds.getD (m+1) 0->18446744073709551616<=q+2):=by
  show _->_;intro he;exact RZ (B:=18446744073709551616) hW hD D (by rw[G,he]) z ad (by omega) I
 have a1:Hid (∀ e,e*d2<=w3->e<=q+1):=by
  show ∀ e,e*d2<=w3->e<=q+1;intro e he;exact W.digit_lo (by omega) hW hD D I he (by omega)
 have a0:Hid (ls.getD (m+2) 0<=ds.getD (m+1) 0):=by
  show _<=_;refine fR fun hc => ?_;have h1:W.val 18446744073709551616 ls<18446744073709551616*W.val 18446744073709551616 ds:=fN I (fa _ ab);have h3:18446744073709551616*W.val 18446744073709551616 ds<18446744073709551616*((d2+1)*P):=Nat.mul_lt_mul_of_pos_left (by rw[hD];grind) (by omega);have h4:w3*P<18446744073709551616*((d2+1)*P):=by omega
  have h5:18446744073709551616*((d2+1)*P)=(18446744073709551616*(d2+1))*P:=by grind
  rw[h5]at h4;have h6:=iX h4;rw[G,z]at h6;generalize ls.getD (m+2) 0=k at *
  generalize ls.getD (m+1) 0=p at *
  generalize ls.getD m 0=v at *
  generalize ds.getD (m+1) 0=f at *
  generalize ds.getD m 0=s at *
  have h7:(f+1)*18446744073709551616*18446744073709551616<=k*18446744073709551616*18446744073709551616:=fa _ (fa _ (by omega));omega
 clear hW hD aa I a9 D H N bl bd hl hd;generalize ls.getD (m+2) 0=k at *
 generalize ls.getD (m+1) 0=p at *
 generalize ls.getD m 0=v at *
 generalize ds.getD (m+1) 0=f at *
 generalize ds.getD m 0=s at *
 have au:IntKind.i64.wrap ((m:Int)+2)=(m:Int)+2:=fO _ (by omega);have al:IntKind.i64.wrap ((m:Int)+2-1)=(m:Int)+1:=by rw[show(m:Int)+2-1=(m:Int)+1 by omega];exact fO _ (by omega)
 have am:IntKind.i64.wrap ((m:Int)+2-2)=(m:Int):=by rw[show(m:Int)+2-2=(m:Int) by omega];exact fO _ (by omega)
 have ae:=a0.out;by_cases ht:k<f
 · -- the guess by the first words
   obtain⟨V,O⟩:∃ V,(k*18446744073709551616+p)/f=V:=⟨_,rfl⟩;obtain⟨Z,R⟩:∃ Z,(k*18446744073709551616+p)%f=Z:=⟨_,rfl⟩;have he:k*18446744073709551616+p=V*f+Z:=by
    have:=gM (k*18446744073709551616+p) f;rw[O,R,fJ]at this;exact this.symm
   have S:Z<f:=by rw[<-R];exact gx _ (by omega)
   have C:V<18446744073709551616:=by
    rw[<-O,ie (by omega)];have:(k+1)*18446744073709551616<=f*18446744073709551616:=fa _ ht;rw[fJ 18446744073709551616 f];omega
   have a8:=fun wx:World=>Lh (w:=wx) ah ai ht S he;have K:=f8 he.symm;have M:Hid (q*(f*18446744073709551616+s)<=(k*18446744073709551616+p)*18446744073709551616+v):=by show _<=_;rw[<-G,<-z];exact k1
   have HQ:=f8 (W.guess_hi (b:=18446744073709551616) (y1:=f) (y0:=s) (U:=k*18446744073709551616+p) (u:=v) (q:=q) (g:=V) (r:=Z) K.out M.out T S);have af:Hid (∀ g r,g*f+r=k*18446744073709551616+p->18446744073709551616*r+v<g*s->q<g):=by
    show ∀ g r,g*f+r=k*18446744073709551616+p->18446744073709551616*r+v<g*s->q<g;exact fun g r h1 h2=>W.guess_down (b:=18446744073709551616) (y1:=f) (y0:=s) (U:=k*18446744073709551616+p) (u:=v) (q:=q) (g:=g) (r:=r) h1 M.out ab (Or.inr h2)
   have a2:Hid (∀ g r,g*f+r=k*18446744073709551616+p->g*s<=18446744073709551616*r+v->g<=q+1):=by
    show ∀ g r,g*f+r=k*18446744073709551616+p->g*s<=18446744073709551616*r+v->g<=q+1;intro g r h1 h2;refine a1.out g ?_;rw[G,z];exact Uj h1 h2
   clear O R he M a1 J a0 ae G z k1 k2
   go_enter func227,ntmps227
   go_wp2
   go_quiet (fail)
   have a4:(w.drewN nq).cell? ⟨b1,o1+m,none⟩=some (.int .u64 (v:Int)):=g0;have ag:(w.drewN nq).cell? ⟨b1,o1+(m+1),none⟩=some (.int .u64 (p:Int)):=g1;have a5:(w.drewN nq).cell? ⟨b1,o1+(m+2),none⟩=some (.int .u64 (k:Int)):=o;have a6:Qt w (w.drewN nq):=(Qt.refl w).drewN _;generalize w.drewN nq=w2 at *
   clear g0 g1 o g3 g4
   go_wp2_with fail
   go_quiet ((exact jR (a8 _)))
   have g0:(w2.drewN nq).cell? ⟨b1,o1+m,none⟩=some (.int .u64 (v:Int)):=a4;have a7:Qt w (w2.drewN nq):=a6.drewN _;generalize w2.drewN nq=w3 at *
   clear a4 ag a5 a6 a8;go_wp2;rw[show decide (f<=k)=false by simp;omega]
   go_loopw[8,9] (fun gv rv wr=>∃ g r:Nat,gv = .int .u64 (g:Int)/\rv = .int .u64 (r:Int)/\Hid (g*f+r=k*18446744073709551616+p)/\Hid (q<=g)/\g<18446744073709551616/\r<18446744073709551616/\wr=w3) (fun gv _ _=>(intOf gv).toNat)
   case atStart=>exact⟨V,Z,rfl,rfl,K,HQ,C,by omega,rfl⟩
   case round =>
    clear K HQ C S;obtain⟨g,r,rfl,rfl,K,HQ,C,ap,rfl⟩:=hrel;have t:=JL (x:=g) (y:=s) C ad;obtain⟨A,E⟩:∃ A,g*s/18446744073709551616=A:=⟨_,rfl⟩;obtain⟨X,F⟩:∃ X,g*s%18446744073709551616=X:=⟨_,rfl⟩;rw[E,F]at t;by_cases hc:A<r\/(A=r/\X<=v)
    · have HF:Hid (g<=q+1):=a2.out g r K.out (Vu T (by rw[E,F];exact hc));have l:(A:Int)<r\/((r:Int)<=(A:Int)/\((A:Int) == (r:Int))=true/\(X:Int)<=v):=by
       rcases hc with h|⟨h1,h2⟩
       · left;omega
       · right;exact⟨by omega,by simp;omega,by omega⟩
      clear hc E F;rcases l with h1|⟨h1,h2,h3⟩
      all_goals
       go_wp2_with(go_at_call 205;refine(t _).mono ?_;rintro e w1 ⟨rfl,rfl⟩)
       go_ret;exact⟨g,rfl,HQ.out,HF.out,C,a7⟩
    · have hp:r<A\/(A=r/\v<X):=by omega
      have HD:=f8 (af.out g r K.out (Vv T (by rw[E,F];exact hp)));obtain⟨o,rfl⟩:∃ o,g=o+1:=⟨g-1,by have:=HD.out;omega⟩;have ar:IntKind.u64.wrap ((o:Int)+1-1)=o:=Al (by omega) (by omega);have L:Hid (o*f+(r+f)=k*18446744073709551616+p):=by
       have h1:=K.out;show _=_;rw[<-h1]
       grind
      have ak:IntKind.u64.wrap (o:Int)=o:=Al (by omega) (by omega);have a3:Hid (q<=o):=by have:=HD.out;show _<=_;omega
      have l:((r:Int)<=(A:Int)/\((A:Int) == (r:Int))=false)\/((r:Int)<=(A:Int)/\((A:Int) == (r:Int))=true/\(v:Int)<X):=by
       rcases hp with h|⟨h1,h2⟩
       · left;exact⟨by omega,by simp;omega⟩
       · right;exact⟨by omega,by simp;omega,by omega⟩
      clear hc hp E F;by_cases Q:r+f<18446744073709551616
      · obtain⟨Y,ac⟩:∃ Y,r+f=Y:=⟨_,rfl⟩;rw[ac]at L Q;have aj:IntKind.u64.wrap ((r:Int)+(f:Int))=(Y:Int):=Al (by omega) Q;have an:(f:Int)<=(Y:Int):=by omega
        clear ac;rcases l with⟨h1,h2⟩|⟨h1,h2,h3⟩
        all_goals
         go_wp2_with(go_at_call 205;refine(t _).mono ?_;rintro e w1 ⟨rfl,rfl⟩)
         go_roundw
         case rel=>exact⟨o,Y,by go_num,rfl,L,a3,by omega,Q,trivial⟩
         case measure=>simp[intOf]
      · have HF:Hid (o<=q+1):=a2.out o (r+f) L.out (by
         have h1:o*s<=18446744073709551616*s:=fa _ (by omega);have h2:18446744073709551616*s<=18446744073709551616*(r+f):=fX _ (by omega)
         omega)
        have aj:IntKind.u64.wrap ((r:Int)+(f:Int))=((r+f-18446744073709551616:Nat):Int):=by
         rw[gN];omega
        have ao:((r+f-18446744073709551616:Nat):Int)<f:=by omega
        generalize r+f-18446744073709551616=Y at *
        rcases l with⟨h1,h2⟩|⟨h1,h2,h3⟩
        all_goals
         go_wp2_with(go_at_call 205;refine(t _).mono ?_;rintro e w1 ⟨rfl,rfl⟩)
         go_ret;exact⟨o,rfl,a3.out,HF.out,by omega,a7⟩
 · have he:k=f:=by omega
   have hB:=J.out he;subst he
   go_enter func227,ntmps227
   go_wp2
   go_quiet (fail)
   have a5:(w.drewN nq).cell? ⟨b1,o1+(m+2),none⟩=some (.int .u64 (k:Int)):=o;have hQ:Qt w (w.drewN nq):=(Qt.refl w).drewN _;generalize w.drewN nq=w2 at *
   go_wp2;go_ret;exact⟨18446744073709551615,rfl,by omega,by omega,by omega,hQ⟩
theorem KK(b:0<B){l:List Nat}{p j:Nat}(h:W.val B l<B^p)(c:p<=j):l.getD j 0=0:=by
 refine fR fun a => ?_;have d:j<l.length:=by
  refine fR fun e=>a ?_;rw[gqq,fH (by omega)];rfl
 have h1:=W.val_split (B:=B) l j (by omega);rw[Di d]at h1;simp only[W.val]at h1;generalize l.getD j 0=x at *
 have h2:B^j*1<=B^j*(x+B*W.val B (l.drop (j+1))):=fX _ (by omega);have h3:B^p<=B^j:=fx b c;omega
theorem OC{B:Nat}:∀ {l:List Nat},(∀ j,l.getD j 0=0)->W.val B l=0
 | [],_=>rfl
 | x :: l,h=>by
  have h0:=h 0;simp at h0;have h1:W.val B l=0:=OC fun j=>by have:=h (j+1);simpa using this
  simp[W.val,h0,h1]
theorem L5(l:List Nat)(p j:Nat):(l.drop p).getD j 0=l.getD (p+j) 0:=by
 simp[kO]
theorem L6(hp:p<=l.length)(h:∀ j,p<=j->l.getD j 0=0):W.val B l=W.val B (l.take p):=by
 rw[W.val_split (B:=B) l p hp,OC (l:=l.drop p),lr,gE];intro j;rw[L5];exact h _ (by omega)
theorem OD(hp:p<=l.length)(a:W.bnd B l)(h:∀ j,p<=j->l.getD j 0=0):W.val B l<B^p:=by
 rw[L6 hp h];have:=W.val_lt (W.bnd_take a p);rw[go,jf hp]at this;exact this
theorem PI(a:0<B){l:List Nat}{i m:Nat}(c:i+m<=l.length)(h:W.val B l<B^(i+m)):W.val B l=W.val B (l.take i)+B^i*W.val B ((l.drop i).take m):=by
 rw[W.val_split (B:=B) l i (by omega)];congr 2;refine L6 (by simp;omega) fun j b => ?_;rw[L5];exact KK a h (by omega)
theorem KL(a:l.length=m+2):W.val B l=(l.getD (m+1) 0*B+l.getD m 0)*B^m+W.val B (l.take m):=by
 rw[W.val_split (B:=B) l m (by omega),Di (by omega),Di (xs:=l) (k:=m+1) (by omega),gu (by omega)];simp only[W.val]
 grind
theorem Uk(a:l.length=m+3):W.val B l=((l.getD (m+2) 0*B+l.getD (m+1) 0)*B+l.getD m 0)*B^m+W.val B (l.take m):=by
 rw[W.val_split (B:=B) l m (by omega),Di (by omega),Di (xs:=l) (k:=m+1) (by omega),Di (xs:=l) (k:=m+1+1) (by omega),gu (by omega)];simp only[W.val]
 grind
theorem DB(a:W.bnd B l){m:Nat}(b:m<=l.length):W.val B (l.take m)<B^m:=by
 have:=W.val_lt (W.bnd_take a m);rw[go,jf b]at this;exact this
theorem R3{c q:Nat}(i:V=lo+P*Wn)(f:lo<P)(h1:c+g*D*P=V)(b:Wn<(q+1)*D)(d:q<=g):g=q/\c < P*D:=by
 have h2:g*D*P<P*(Wn+1):=by rw[jF,je];omega
 have h3:g*D<Wn+1:=by
  rw[fJ]at h2;exact lz h2
 have h4:g<q+1:=iX (a:=D) (by omega);have e:g=q:=by omega
 refine⟨e,?_⟩;subst e;have h5:P*(Wn+1)<=P*((g+1)*D):=fX _ b;have h6:P*((g+1)*D)=g*D*P+P*D:=by grind
 rw[jF,je]at h5;omega
theorem Ul{b a q T ov:Nat}(l:V=lo+P*Wn)(k:lo<P)(h1:b+g*D*P=V+T)(m:b<T)(c:q*D<=Wn)(d:Wn<(q+1)*D)(o:g<=q+1)(h2:a+ov*T=b+D*P)(j:a<T)(i:D*P<T):g=q+1/\a+q*D*P=V/\a<P*D:=by
 have h3:V<g*D*P:=by omega
 have h4:P*Wn<P*(g*D):=by rw[fJ P (g*D)];omega
 have h5:Wn<g*D:=lz h4;have h6:q<g:=by
  refine fR fun n => ?_;have:g*D<=q*D:=fa _ (by omega);omega
 have e:g=q+1:=by omega
 subst e;have h7:(q+1)*D*P=q*D*P+D*P:=by grind
 have h9:q*D*P<=V:=by
  have:q*D*P<=Wn*P:=fa _ c;rw[fJ Wn P]at this;omega
 have h8:ov=1:=by
  have h10:b+D*P=(V-q*D*P)+T:=by omega
  rcases fS ov 1 with h|h
  · have:ov=0:=by omega
    subst this;omega
  · rcases fS 1 ov with f | f
    · exfalso;have h11:2*T<=ov*T:=fa _ f;omega
    · omega
 subst h8;rw[k8]at h2;have h10:a+q*D*P=V:=by omega
 refine⟨rfl,h10,?_⟩;have h5:P*(Wn+1)<=P*((q+1)*D):=fX _ d;have h6:P*((q+1)*D)=q*D*P+P*D:=by grind
 rw[jF,je]at h5;omega
def V9(k:IntKind)(B:Nat)(w:World)(q r:Nat)(e:Ending)(w':World):Prop:=∃ a n c xs a' n' c' ys,e = .returned (.tuple #[.slice a n c,.slice a' n' c'])/\Ext w w'/\SlN k w' a n c xs/\Num B xs q/\SlN k w' a' n' c' ys/\Num B ys r/\Hv w.heap.size (fun _=>False) a n
def GC(ax:Option Addr)(k:IntKind)(B:Nat)(w:World)(q r:Nat)(e:Ending)(w':World):Prop:=∃ a n c xs a' n' c' ys,e = .returned (.tuple #[.slice a n c,.slice a' n' c'])/\Ext w w'/\SlN k w' a n c xs/\Num B xs q/\SlN k w' a' n' c' ys/\Num B ys r/\Hv w.heap.size (fun _=>False) a n/\Hv w.heap.size (fun g=>blk ax=some g) a' n'
theorem GC.q{f:Option Addr}{k:IntKind}{B:Nat}{w b:World}{q r:Nat}{e:Ending}(h:GC f k B w q r e b):V9 k B w q r e b:=by
 obtain⟨a,n,c,j,d,i,g,l,h1,h2,h3,h4,h5,h6,h7,_⟩:=h;exact⟨a,n,c,j,d,i,g,l,h1,h2,h3,h4,h5,h6,h7⟩
theorem H0:Bu (x:Int) (y:Int)<0<->x<y:=by
 unfold Bu;split
 · constructor <;> intro _ <;> omega
 · split
   · constructor <;> intro _ <;> omega
   · constructor <;> intro _ <;> omega
theorem EQ(p:SlN .u64 w a n c xs)(t:SlN .u64 w b m d ys)(j:Num 18446744073709551616 xs x)(q:Num 18446744073709551616 ys y)(f:x<y) :
 Calls prog 208 #[.slice a n c,.slice b m d] w (GC a .u64 18446744073709551616 w (x/y) (x%y)):=by
 have k:Hid (Bu (x:Int) (y:Int)<0):=f8 (H0.2 f);have i:=fun v:World=>fun(h1:Ext w v)=>BN (p.ext h1) (t.ext h1) j q;have r:=f8 j;have l:=f8 f;clear j q f
 go_enter func208,ntmps208
 go_wp2_with fail
 refine(i _ (Ext.refl w)).mono ?_;rintro e B ⟨rfl,o⟩;have A:=k.out;generalize Bu (x:Int) (y:Int)=z at *
 clear k;go_wp2
 go_ret2
 refine⟨none,0,0,[],a,n,c,xs,rfl,o.ext,SlN.nil _ _,?_,p.ext o.ext,?_,fun h=>absurd h (by omega),fun _ g s=>Or.inr s⟩
 · rw[jw l.out];exact Num.nil _
 · rw[j8 l.out];exact r.out
theorem E9(M:SlN .u64 w a n c xs)(B:SlN .u64 w b 1 d ys)(G:Num 18446744073709551616 xs x)(s:Num 18446744073709551616 ys y)(X:n<=1000000)(V:y<=x)(h0:0<y) :
 Calls prog 208 #[.slice a n c,.slice b 1 d] w (GC a .u64 18446744073709551616 w (x/y) (x%y)):=by
 have K:Hid (¬ Bu (x:Int) (y:Int)<0):=f8 (by rw[H0];omega);have t:=fun I:World=>fun(h1:Ext w I)=>BN (M.ext h1) (B.ext h1) G s;have L:=f8 G;have F:ys.getD 0 0=y/\y<18446744073709551616:=by
  have h1:=s.val;obtain⟨z,q⟩:=lO.1 B.len;have h2:=s.bnd z (by rw[q];simp);rw[q]at h1;simp[W.val]at h1;rw[q];simp;omega
 obtain⟨C,E⟩:=F;clear G s
 go_enter func208,ntmps208
 go_wp2_with fail
 refine(t _ (Ext.refl w)).mono ?_;rintro e w1 ⟨rfl,k⟩;have hc:=K.out;have T:(0:Int)<=Bu (x:Int) (y:Int):=by omega
 generalize Bu (x:Int) (y:Int)=cv at *
 clear K;obtain⟨b1,o1,rfl,l⟩:=(B.ext k.ext).at (j:=0) (by omega);have S:=l 0 (by omega);rw[C,gE]at S;clear l
 go_wp2_with fail
 refine(KJ (M.ext k.ext) L.out.bnd L.out.val E h0 X).mono ?_;rintro e w2 ⟨O,Y,Q,zs,rfl,f,q,nz,p⟩;have o:x%y<18446744073709551616:=by have:=gx x h0;omega
 have m:=fun I:World=>Gk (w:=I) o;obtain⟨r,v⟩:∃ r,x%y=r:=⟨_,rfl⟩;rw[v]at m |-;have N:=f8 v;clear v o
 go_wp2_with fail
 refine(m _).mono ?_;rintro e w3 ⟨P,Z,R,J,rfl,i,D,H,A⟩;go_wp2
 go_ret2
 exact⟨O,Y,Q,zs,P,Z,R,J,rfl,(k.ext.trans f).trans i,q.ext i,nz,D,by rw[N.out];exact H,p.of k.ext.size (fun _ h=>h.elim),fun _ g U=>(A g U).imp (fun h=>ft (k.ext.trans f).size h) (fun h=>h.elim)⟩
theorem H4(a:l.length=m+1):W.val B l=l.getD m 0*B^m+W.val B (l.take m):=by
 rw[W.val_split (B:=B) l m (by omega),Di (by omega),gu (by omega)];simp only[W.val]
 grind
theorem Ju(g:Num 18446744073709551616 ys y)(l:ys.length=m+1)(e:s<=63)(h1:9223372036854775808<=ys.getD m 0*2^s)(h2:ys.getD m 0*2^s<18446744073709551616)(b:Num 18446744073709551616 ds (y*2^s)):ds.length=m+1/\9223372036854775808<=ds.getD m 0:=by
 have c:=H4 (B:=18446744073709551616) l;rw[g.val]at c;have i:=DB g.bnd (m:=m) (by omega);generalize ys.getD m 0=u at *
 generalize W.val 18446744073709551616 (ys.take m)=v at *
 have d:y*2^s=u*2^s*18446744073709551616^m+v*2^s:=by rw[c];grind
 have h3:u*2^s+2^s<=18446744073709551616:=by
  have h4:u<2^(64-s):=by
   refine iX (a:=2^s) ?_;rw[CN e];exact h2
  have h5:(u+1)*2^s<=2^(64-s)*2^s:=fa _ h4;rw[CN e,ip,k8]at h5;exact h5
 have h6:y*2^s<18446744073709551616^(m+1):=by
  rw[d,gr];have h7:v*2^s<18446744073709551616^m*2^s:=jE i (gh s);have h8:(u*2^s+2^s)*18446744073709551616^m<=18446744073709551616*18446744073709551616^m:=fa _ h3;rw[ip]at h8;rw[fJ (18446744073709551616^m) (2^s)]at h7;rw[fJ (18446744073709551616^m) 18446744073709551616];omega
 have h9:9223372036854775808*18446744073709551616^m<=y*2^s:=by
  rw[d];exact ft (fa _ h1) (kb _ _)
 have o:ds.length<=m+1:=W.nrm_len (B:=18446744073709551616) (by omega) b.nrm (by rw[b.val];exact h6);have p:m+1<=ds.length:=by
  refine fR fun k => ?_;have h10:=W.val_lt b.bnd;rw[b.val]at h10;have h11:18446744073709551616^ds.length<=18446744073709551616^m:=fx (by omega) (by omega);have h12:1*18446744073709551616^m<=9223372036854775808*18446744073709551616^m:=fa _ (by omega);rw[k8]at h12;omega
 have f:ds.length=m+1:=by omega
 refine⟨f,?_⟩;have j:=H4 (B:=18446744073709551616) f;rw[b.val]at j;have n:=DB b.bnd (m:=m) (by omega);generalize ds.getD m 0=t at *
 refine fR fun k => ?_;have h13:(t+1)*18446744073709551616^m<=9223372036854775808*18446744073709551616^m:=fa _ (by omega);rw[ip,k8]at h13;omega
end Go.Proofs.YthdbingomfdeoaaGreatDoor
