/- Part Pz2. -/
import Derived.Test.YtlbmnokpiilfpaaGreatDoorPz1
import Derived.WalkKit
import Derived.Laws.Rows
import Derived.Laws.Tables
import Derived.Laws.CopyRow
import Derived.Laws.IdiomCopy
import Derived.Deep.AppendSrc
set_option linter.all false
set_option maxRecDepth 100000
set_option maxHeartbeats 100000000
namespace Go.Proofs.YtlbmnokpiilfpaaGreatDoor
def oA:=@Nat.div_mul_le_self
def oM:=@Int.le_trans
def oS:=@List.dropLast_concat_getLast
def pM:=@Nat.mul_comm
def pO:=@List.getElem?_append_left
def pQ:=@Classical.byContradiction
def pR:=@Nat.pow_le_pow_right
def pU:=@List.mem_map
def pW:=@List.getElem?_append_right
def pm:=@Array.ext'
def pq:=@IntWalk.i64_in
def px:=@Nat.mul_le_mul_right
def py:=@bodyPost_ret
def q9:=@congrArg
def qB:=@Nat.pow_succ
def qJ:=@Nat.add_mul
def qL:=@List.nodup_cons
def qf:=@Nat.mod_lt
def qg:=@List.length_take
def qi:=@List.append_assoc
def qm:=@List.drop_of_length_le
def qp:=@Nat.mul_le_mul_left
def qw:=@List.map_append
def rA:=@Nat.min_eq_left
def rE:=@List.mem_or_eq_of_mem_set
def rI:=@List.not_mem_nil
def rJ:=@List.ext_getElem
def rT:=@Nat.mul_assoc
def rX:=@List.cons_append
def rY:=@Int.mul_le_mul_of_nonneg_left
def rZ:=@List.pairwise_iff_getElem
def rf:=@List.take_zero
def ri:=@List.mem_map_of_mem
def sC:=@List.pairwise_map
def sJ:=@Int.mul_le_mul_of_nonneg_right
def sK:=@List.mem_filter
def sW:=@Prod.mk.injEq
def sY:=@List.getLast_eq_getElem
def se:=@List.getElem?_drop
def sn:=@List.map_map
def so:=@List.map_congr_left
def tV:=@List.map_replicate
def tX:=@Int.mul_nonneg
def ti:=@List.getElem_of_mem
def tw:=@Nat.pow_pos
def vO:=@List.getD_cons_succ
def vW:=@Nat.add_sub_cancel
def ve:=@List.length_set
def vi:=@Nat.sub_zero
def vq:=@List.getElem?_cons_succ
def wP:=@List.drop_drop
def wZ:=@List.mem_iff_getElem?
def wl:=@List.take_length
def x6:=@Array.getElem?_setIfInBounds_self_of_lt
variable {x:Int} {a b c l xs:List Int} {k n:Nat}
def gen:Nat->List Int->List (List Int)
 | 0,_=>[[]]
 | k+1,pool=>pool.flatMap fun x=>(gen k (pool.erase x)).map (x :: ·)
theorem cf:∀ (k:Nat) (a b:List Int),b.length=k->b.Nodup->(∀ x∈b,x∈a)->b∈gen k a
 | 0,_,b,hl,_,_=>by
  have:b=[]:=pG hl;simp[gen,this]
 | k+1,a,[],hl,_,_=>by simp at hl
 | k+1,a,x :: r,hl,hn,hs=>by
  rw[qL]at hn;simp only[gen,tO,pU];refine⟨x,hs x (by simp),r,cf k (a.erase x) r (by simpa using hl) hn.2 ?_,rfl⟩;intro y d;have c:y≠x:=by rintro rfl;exact hn.1 d
  exact(List.mem_erase_of_ne c).2 (hs y (by simp[d]))
def pw(xs:List Int):Nat->List Int
 | 0=>idn xs.length
 | k+1=>comp xs (pw xs k)
def cX(xs:List Int):Nat:=((List.range 6).find? (fun k=>pw xs (k+1) == idn xs.length)).elim 0 (·+1)
def fo(xs:List Int):Bool :=
 comp xs (Zr xs xs.length) == idn xs.length && (((List.range 6).find? (fun k=>pw xs (k+1) == idn xs.length)).isSome)
theorem lI:∀ n,n<7->∀ a∈gen n (idn n),fo a=true:=by decide +kernel
theorem ci :x∈idn n<->0<=x/\x<n:=by
 simp only[idn,pU,rg];constructor
 · rintro⟨k,a,rfl⟩;simp;omega
 · rintro⟨h0,h1⟩;exact⟨x.toNat,by omega,by simp;omega⟩
theorem dU(h:G1 xs=true):fo xs=true:=by
 obtain⟨h6,b,a⟩:=G3 h;exact lI xs.length (by omega) xs (cf _ _ _ rfl a (fun x c=>ci.2 (b x c)))
theorem aC(h:G1 xs=true):comp xs (Zr xs xs.length)=idn xs.length:=by
 have:=dU h;unfold fo at this;rw[qQ]at this;simpa using this.1
theorem jF(h:G1 xs=true):1<=cX xs/\cX xs<=6/\pw xs (cX xs)=idn xs.length/\∀ k,1<=k->k<cX xs->pw xs k≠idn xs.length:=by
 have:=dU h;unfold fo at this;rw[qQ]at this;obtain⟨k,a⟩:=sP.1 this.2;have e:cX xs=k+1:=by unfold cX;rw[a];rfl
 have h1:=List.mem_of_find?_eq_some a;have h2:=List.find?_some a;have h3:k<6:=by simpa using h1
 refine⟨by omega,by omega,by rw[e];simpa using h2,?_⟩;intro j g l f;rw[List.find?_eq_some_iff_getElem]at a;obtain⟨_,i,m,b,c⟩:=a;have d:i=k:=by simpa using b
 have:=c (j-1) (by omega);simp only[List.getElem_range]at this;rw[show j-1+1=j by omega,f]at this;simp at this
theorem aN(l:List Int)(n:Nat):(Zy l (n+1)).Perm ((n:Int) :: Zy l n):=by
 simp only[Zy];have:=(List.perm_middle (a:=(n:Int)) (l₁:=(Zy l n).take (plc l n)) (l₂:=(Zy l n).drop (plc l n)));rw[rB]at this;simpa using this
theorem cH(l:List Int):∀ (n:Nat) (x:Int),x∈Zy l n<->0<=x/\x<n
 | 0,x=>by simp[Zy]
 | n+1,x=>by
  rw[(aN l n).mem_iff,qj,cH l n];omega
theorem cO(l:List Int):∀ n,(Zy l n).Nodup
 | 0=>by simp[Zy]
 | n+1=>by
  rw[(aN l n).nodup_iff,qL];exact⟨by rw[cH];omega,cO l n⟩
theorem gT(l:List Int){n:Nat}(h:n<=6):G1 (Zy l n)=true:=by
 refine qC ⟨by rw[af];exact h,?_,cO l n⟩;intro x a;rw[af];exact(cH l n x).1 a
theorem ZT{f:Int->Int}(h:k<l.length):(l.map f).getD k 0=f (l.getD k 0):=by
 simp[h]
theorem ZH(h:∀ y∈c,0<=y/\y<b.length):comp (comp a b) c=comp a (comp b c):=by
 unfold comp;rw[sn];apply so;intro y d;have:=h y d;exact ZT (by omega)
theorem jG(d:G1 a=true)(e:G1 b=true)(g:a.length=b.length):∀ x∈comp a b,0<=x/\x<a.length:=by
 intro x c;simp only[comp,pU]at c;obtain⟨y,f,rfl⟩:=c;have h1:=(G3 e).2.1 y f;exact Zm d (by omega)
theorem eP(h:l.Nodup){i j:Nat}(hi:i<l.length)(a:j<l.length)(e:l[i]=l[j]):i=j:=by
 rcases Nat.lt_trichotomy i j with h1|h1|h1
 · exact absurd e (rZ.1 h i j hi a h1)
 · exact h1
 · exact absurd e.symm (rZ.1 h j i a hi h1)
theorem aD(d:G1 a=true)(c:G1 b=true)(e:a.length=b.length):G1 (comp a b)=true:=by
 refine qC ⟨by rw[Y3,<-e];exact(G3 d).1,?_,?_⟩
 · intro x i;rw[Y3,<-e];exact jG d c e x i
 · have f:=(G3 d).2.2;have g:=(G3 c).2.2;unfold comp;rw[List.Nodup,sC];refine List.Pairwise.imp_of_mem ?_ g;intro x y i m l he;have h1:=(G3 c).2.1 x i;have h2:=(G3 c).2.1 y m;have j:x.toNat<a.length:=by omega
   have k:y.toNat<a.length:=by omega
   simp only[gqq,oO j,oO k,pY]at he;have:=eP f j k he;omega
end Go.Proofs.YtlbmnokpiilfpaaGreatDoor
namespace Go.Proofs.YtlbmnokpiilfpaaGreatDoor
open Tryz Go Go.RowKit
variable {f:Act} {ops:Array Oper} {ok:Bool} {Q:Exit->Act->World->Prop} {s:Int} {m:List (List Int×Value)} {l xs ys:List Int} {seen:List Nat} {rest:List Oper} {cs cur news vs:List Value} {base bytes c cx d g i it j k n r:Nat} {o:Oper} {u x y:Operand} {A a b:Option Addr} {row:Option Nat} {P:Program} {dT e et sT t ty:TypeId} {v z:Value} {w w':World}
theorem cj(h:k<n):(idn n).getD k 0=k:=by
 simp[idn,h]
theorem ZU(xs:List Int):comp xs (idn xs.length)=xs:=by
 apply rJ
 · simp[comp,idn]
 · intro i h1 h2;simp[comp,idn,h2]
theorem gV(xs:List Int):∀ k,(pw xs k).length=xs.length
 | 0=>by simp[pw,idn]
 | k+1=>by simp[pw,Y3,gV xs k]
theorem dV(h:n<=6):G1 (idn n)=true:=by
 refine qC ⟨by rw[ZJ];exact h,?_,?_⟩
 · intro x d;rw[ZJ];exact ci.1 d
 · unfold idn;rw[List.Nodup,sC];refine List.Pairwise.imp ?_ List.nodup_range;intro a b c h;exact c (Int.ofNat.inj h)
theorem iA{xs:List Int}(h:G1 xs=true):∀ k,G1 (pw xs k)=true
 | 0=>dV (G3 h).1
 | k+1=>aD h (iA h k) (gV xs k).symm
theorem iU:Ca prog 4 (.bool false) 1:=by unfold Ca;kernel_rfl
def aW(n:Nat)(l:List Int):List Value:=(List.range n).map (fun(j:Nat)=>Value.bool (decide (Int.ofNat j∈l)))
theorem iV(n:Nat)(l:List Int):(aW n l).length=n:=by simp[aW]
theorem iW(n:Nat):aW n []=List.replicate n (Value.bool false):=by
 unfold aW;simp only[rI,oJ];rw[List.map_const',List.length_range]
theorem jH(l:List Int){j:Nat}(h:j<n):(aW n l).getD j undef = .bool (decide ((j:Int)∈l)):=by
 simp[aW,h]
theorem iX(n:Nat)(l:List Int){x:Int}(h0:0<=x):(aW n l).set x.toNat (.bool true)=aW n (l ++ [x]):=by
 apply rJ
 · simp[iV]
 · intro i h1 h2;rw[List.getElem_set];by_cases a:x.toNat=i
   · rw[pP a];have:(i:Int)=x:=by omega
     simp[aW,this]
   · rw[pC a];have:(i:Int)≠x:=by omega
     simp[aW,this]
theorem S1(q:SlI w a n c xs) :
 Calls prog 106 #[.slice a n c] w fun e L=>e = .returned (.bool (G1 xs))/\Ext w L:=by
 have I:=q.le;have t:=q.len;have f:=lz t;by_cases h6:n<=6
 · clear t
   go_enter func106,ntmps106
   go_wp2_with(at_make;refine C6 rfl rfl underlying207 iU rfl rfl rfl (by omega) (by unfold maxLen;omega) ?_;intro Q m l)
   go_loopw[4] (fun i wr=>∃ k:Nat,k<=n/\i = .int .i64 k/\Ext w wr/\Own wr w.heap.size 4 (some ⟨w.heap.size,0,none⟩) n n (aW n (xs.take k))/\aF xs k) (fun i _=>n-(intOf i).toNat)
   case atStart=>exact⟨0,pE _,rfl,l,by rw[show xs.take 0=[] from rfl,iW];exact m,by simp[aF]⟩
   case round =>
    clear m l;obtain⟨k,O,rfl,g,s,A⟩:=hrel;have q:=q.ext g;by_cases p:k<n
    · obtain⟨M,P,rfl,o⟩:=q.at p;have N:=o k p;have b:k<xs.length:=by have:=f.out;omega
      have z:xs.take (k+1)=xs.take k ++ [xs.getD k 0]:=by
       rw[pB b];simp[b]
      have C:=@fG xs k b;have E:=@dC xs k b;have D:=@cJ xs k b A;generalize x:xs.getD k 0=y at *
      have EK:=lz z;have PO:=lz C;have G:=lz E;have F:=lz D;clear o x z C E D;by_cases v:y<0
      · go_wp2;go_ret;exact⟨YJ (PO.out (Or.inl v)),g⟩
      · by_cases J:(n:Int)<=y
        · go_wp2;go_ret;exact⟨YJ (PO.out (Or.inr (by have:=f.out;omega))),g⟩
        · have K:y.toNat<6:=by omega
          have B:y<6:=by omega
          have d:=Own.cellAt s (j:=y.toNat) (by omega);have H:=Own.frozenAt s y.toNat
          rw[jH _ (by omega),show((y.toNat:Nat):Int)=y from by omega]at d;by_cases r:y∈xs.take k
          · simp only[r,vE]at d;go_wp2;go_ret;exact⟨YJ (G.out r),g⟩
          · simp only[r,oJ]at d;go_wp2;go_roundw
            case rel =>
             refine⟨k+1,by omega,by go_num,g.setCell (lrf _) _,?_,F.out (by omega) (by have:=f.out;omega) r⟩;have:=Own.stored s y.toNat (.bool true);rw[iX _ _ (by omega),<-EK.out]at this;exact this
            case measure=>simp[intOf];omega
    · go_wp2;go_ret;exact⟨YJ (dE (by have:=f.out;omega) A (by have:=f.out;omega)),g⟩
 · clear t
   go_enter func106,ntmps106
   go_wp2;go_ret;exact⟨YJ (eJ (by have:=f.out;omega)),Ext.refl w⟩
theorem dW(m:n<=1000000) :
 Calls prog 172 #[.int .i64 n] w (du w (idn n)):=by
 go_enter func172,ntmps172
 go_wp2_with(at_make;refine C6 rfl rfl underlying24 Pt rfl rfl rfl (by omega) (by unfold maxLen;omega) ?_;intro p c a)
 go_loopw[4] (fun i wr=>∃ k:Nat,k<=n/\i = .int .i64 k/\Ext w wr/\Za wr w.heap.size (some ⟨w.heap.size,0,none⟩) n n (Y9 n (idn k))) (fun i _=>n-(intOf i).toNat)
 case atStart=>exact⟨0,pE _,rfl,a,by unfold Za;rw[show idn 0=[] from rfl,Zc];exact c⟩
 case round =>
  clear c a;obtain⟨k,l,rfl,f,b⟩:=hrel;by_cases d:k<n
  · have g:=Own.cellAt b d;have j:=Own.frozenAt b k;have o:=f.size;go_wp2;go_roundw
    case rel =>
     refine⟨k+1,by omega,by go_num,f.setCell (lrf _) _,?_⟩;have:=Own.stored b k (.int .i64 k);rw[Zd (ZJ k) d,<-fF]at this;exact this
    case measure=>simp[intOf];omega
  · have e:k=n:=by omega
    go_wp2;go_ret;subst e;rw[Zb (by rw[ZJ];exact lrf _)]at b;exact⟨_,_,_,rfl,f,b⟩
theorem cS{m:Nat}(t:SlI w a m c xs)(j:SlI w b m d ys)
 (s:∀ i,i<m->0<=ys.getD i 0/\ys.getD i 0<m) (I:m<=1000000) :
 Calls prog 173 #[.slice a m c,.slice b m d] w (du w (comp xs ys)):=by
 have A:=t.le
 go_enter func173,ntmps173
 go_wp2_with(at_make;refine C6 rfl rfl underlying24 Pt rfl rfl rfl (by omega) (by unfold maxLen;omega) ?_;intro M p n)
 go_loopw[6] (fun i wr=>∃ k:Nat,k<=m/\i = .int .i64 k/\Ext w wr/\Za wr w.heap.size (some ⟨w.heap.size,0,none⟩) m m (Y9 m (comp xs (ys.take k)))) (fun i _=>m-(intOf i).toNat)
 case atStart=>exact⟨0,pE _,rfl,n,by unfold Za;rw[show comp xs (ys.take 0)=[] from rfl,Zc];exact p⟩
 case round =>
  clear p n;obtain⟨k,H,rfl,l,o⟩:=hrel;have t:=t.ext l;have j:=j.ext l;by_cases f:k<m
  · have D:=Own.cellAt o f;have E:=Own.frozenAt o k;have J:=l.size;obtain⟨C,L,rfl,r⟩:=j.at f;have F:=r k f;have v:=s k f;have g:=j.len;have z:ys.take (k+1)=ys.take k ++ [ys.getD k 0]:=by
     rw[pB (by omega)];simp[g,f]
    generalize x:ys.getD k 0=y at *
    obtain⟨B,K,rfl,q⟩:=t.at (k:=y.toNat) (by omega);have G:=q y.toNat (by omega);obtain⟨N,O⟩:=v;have EK:=lz z;clear q r x s g z;go_wp2;go_roundw
    case rel =>
     refine⟨k+1,by omega,by go_num,l.setCell (lrf _) _,?_⟩;have:=Own.stored o k (.int .i64 (xs.getD y.toNat 0));rw[Zd (by rw[Y3];have:=j.len;simp;omega) f]at this;rw[EK.out];simpa[comp,Za]using this
    case measure=>simp[intOf];omega
  · have e:k=m:=by omega
    go_wp2;go_ret;subst e;have g:=j.len;rw[pu (by omega),Zb (by rw[Y3];omega)]at o;exact⟨_,_,_,rfl,l,o⟩
theorem kY:∀ n,n<7->∀ a∈gen n (idn n),G1 (Zr a a.length)=true:=by decide +kernel
theorem cm(h:G1 xs=true):xs.length<7/\xs∈gen xs.length (idn xs.length):=by
 have hp:=G3 h;exact⟨by have:=hp.1;omega,cf _ _ _ rfl hp.2.2 (fun x a=>ci.2 (hp.2.1 x a))⟩
theorem aX(h:G1 xs=true):G1 (Zr xs xs.length)=true :=
 kY _ (cm h).1 _ (cm h).2
theorem Zu(xs:List Int):∀ k,(Zr xs k).length=xs.length
 | 0=>by simp[Zr]
 | k+1=>by simp[Zr,Zu xs k]
theorem cI{v:Int}(hi:i<l.length):(l.set i v).getD j 0=if i=j then v else l.getD j 0:=by
 simp only[gqq,sD];by_cases h:i=j
 · subst h;simp[hi]
 · simp[h]
def aQ(a m:List Int):Nat->List Int
 | 0=>List.replicate m.length 0
 | k+1=>(aQ a m k).set (a.getD k 0).toNat (m.getD k 0)
def mvd(a m:List Int):List Int:=aQ a m m.length
theorem ZA(a m:List Int):∀ k,(aQ a m k).length=m.length
 | 0=>by simp[aQ]
 | k+1=>by simp[aQ,ZA a m k]
theorem dX{a:List Int}(h:G1 a=true){j:Nat}(c:j<a.length):∃ i,i<a.length/\a.getD i 0=(j:Int):=by
 have e:=aC h;have b:j<(Zr a a.length).length:=by rw[Zu];exact c
 have d:=Zm (aX h) b;rw[Zu]at d;refine⟨((Zr a a.length).getD j 0).toNat,by omega,?_⟩;have:(comp a (Zr a a.length)).getD j 0=(idn a.length).getD j 0:=by rw[e]
 unfold comp at this;rw[ZT b,cj c]at this;exact this
theorem gh{a:List Int}(h:G1 a=true){i j:Nat}(hi:i<a.length)(b:j<a.length)(e:a.getD i 0=a.getD j 0):i=j:=by
 refine eP (G3 h).2.2 hi b ?_;simpa[hi,b]using e
theorem iB{a m:List Int}(hp:G1 a=true)(c:m.length=a.length):∀ k,k<=a.length->∀ i,i<k->(aQ a m k).getD (a.getD i 0).toNat 0=m.getD i 0
 | 0,_,i,hi=>by omega
 | k+1,hk,i,hi=>by
  have h0:=Zm hp (i:=k) (by omega);have h1:=Zm hp (i:=i) (by omega);show((aQ a m k).set (a.getD k 0).toNat (m.getD k 0)).getD (a.getD i 0).toNat 0=_;rw[cI (by rw[ZA];omega)];by_cases b:i=k
  · subst b;rw[pP rfl]
  · rw[pC (fun e=>b (gh hp (by omega) (by omega) (by omega)))];exact iB hp c k (by omega) i (by omega)
theorem H5(a m:List Int):(mvd a m).length=m.length:=ZA a m _
theorem bP{a m:List Int}(hp:G1 a=true)(b:m.length=a.length){i:Nat}(hi:i<a.length):(mvd a m).getD (a.getD i 0).toNat 0=m.getD i 0:=by
 unfold mvd;rw[b];exact iB hp b _ (lrf _) i hi
theorem jI{b:Type}{a:List Int}{l m:List b}{d:b}(hp:G1 a=true)(f:l.length=a.length)(g:m.length=a.length)(h:∀ i,i<a.length->l.getD (a.getD i 0).toNat d=m.getD (a.getD i 0).toNat d):l=m:=by
 apply rJ (by omega);intro j h1 h2;obtain⟨i,c,e⟩:=dX hp (j:=j) (by omega);have:=h i c;rw[e]at this;simpa[h1,h2]using this
theorem kw{a b:List Int}(hi:i<b.length):(comp a b).getD i 0=a.getD (b.getD i 0).toNat 0:=by
 unfold comp;rw[ZT hi]
theorem fp{a b m:List Int}(g:G1 a=true)(e:G1 b=true)(k:a.length=b.length)(l:m.length=b.length):mvd a (mvd b m)=mvd (comp a b) m:=by
 have j:=aD g e k;have f:(comp a b).length=b.length:=Y3 a b;refine jI (d:=0) j (by rw[H5,H5];omega) (by rw[H5];omega) fun i c => ?_;rw[f]at c;have h1:=Zm e c;rw[bP j (by omega) (by omega),kw c,bP g (by rw[H5];omega) (by omega),bP e l c]
theorem fq{a m:List Int}(hp:G1 a=true)(d:m.length=a.length){x:Int}(f:x∈mvd a m):x∈m:=by
 obtain⟨j,b,rfl⟩:=ti f;rw[H5]at b;obtain⟨i,c,e⟩:=dX hp (j:=j) (by omega);have h1:=bP hp d c;rw[e]at h1;have h2:(mvd a m).getD j 0=(mvd a m)[j]:=by simp[H5,b]
 rw[<-h2,show((j:Int)).toNat=j from rfl]at *
 rw[h1,gqq,oO (by omega)];exact qG _
theorem gW{a:List Int}(hp:G1 a=true):((List.range a.length).map fun i=>(a.getD i 0).toNat).Perm (List.range a.length):=by
 have f:((List.range a.length).map fun i=>(a.getD i 0).toNat).Nodup:=by
  rw[List.nodup_iff_pairwise_ne,sC];refine List.Pairwise.imp_of_mem ?_ List.nodup_range;intro i j b c d e;rw[rg]at b c;have h0:=Zm hp b;have h1:=Zm hp c;exact d (gh hp b c (by omega))
 refine(List.perm_ext_iff_of_nodup f List.nodup_range).2 fun j => ?_;rw[pU,rg];constructor
 · rintro⟨i,b,rfl⟩;have:=Zm hp (rg.1 b);omega
 · intro c;obtain⟨i,b,e⟩:=dX hp c;exact⟨i,rg.2 b,by rw[e];rfl⟩
theorem dY{a m:List Int}(hp:G1 a=true)(b:m.length=a.length):(mvd a m).Perm m:=by
 have h1:∀ l:List Int,(List.range l.length).map (fun i=>l.getD i 0)=l:=fun l=>by
  apply rJ (by simp);intro j h1 h2;simp[h2]
 have h2:=(gW hp).map (fun i=>(mvd a m).getD i 0);rw[sn]at h2;have h3:(List.range a.length).map ((fun i=>(mvd a m).getD i 0) ∘ fun i=>(a.getD i 0).toNat)=m:=by
  have h5:=h1 m;rw[b]at h5;refine Eq.trans (so fun i c => ?_) h5;show(mvd a m).getD (a.getD i 0).toNat 0=_;rw[bP hp b (rg.1 c)]
 rw[h3]at h2;have h4:=h1 (mvd a m);rw[H5,b]at h4;rw[h4]at h2;exact h2.symm
theorem go:∀ {l m:List Int},l.Perm m->l.sum=m.sum:=by
 intro l m h
 induction h with
 | nil=>rfl
 | cons x _ ih=>simp[ih]
 | swap x y l=>simp;omega
 | trans _ _ h1 h2=>exact h1.trans h2
theorem eQ(s:SlI w a n c xs)(t:SlI w b n d ys)(D:G1 xs=true) :
 Calls prog 107 #[.slice a n c,.slice b n d] w (du w (mvd xs ys)):=by
 have v:=lz s.len;have B:=lz t.len;have h6:n<=6:=by have:=(G3 D).1;have h:=v.out;omega
 go_enter func107,ntmps107
 go_wp2_with(at_make;refine C6 rfl rfl underlying24 Pt rfl rfl rfl (by omega) (by unfold maxLen;omega) ?_;intro N l g)
 go_loopw[6] (fun i wr=>∃ k:Nat,k<=n/\i = .int .i64 k/\Ext w wr/\Za wr w.heap.size (some ⟨w.heap.size,0,none⟩) n n (aQ xs ys k)) (fun i _=>n-(intOf i).toNat)
 case atStart=>exact⟨0,pE _,rfl,g,by unfold Za;rw[show aQ xs ys 0=List.replicate ys.length 0 from rfl,B.out];simpa using l⟩
 case round =>
  clear l g;obtain⟨k,K,rfl,q,r⟩:=hrel;have s:=s.ext q;have t:=t.ext q;by_cases f:k<n
  · obtain⟨E,L,rfl,m⟩:=s.at f;obtain⟨F,M,rfl,o⟩:=t.at f;have I:=m k f;have J:=o k f;have p:=Zm D (i:=k) (by have:=v.out;omega);have C:aQ xs ys (k+1)=(aQ xs ys k).set (xs.getD k 0).toNat (ys.getD k 0):=rfl;rw[v.out]at p;generalize x:xs.getD k 0=y at *
    generalize A:ys.getD k 0=z at *
    obtain⟨O,P⟩:=p;have G:=Own.cellAt r (j:=y.toNat) (by omega);have H:=Own.frozenAt r y.toNat
    have EK:=lz C;clear m o x A C
    go_upto_region 5 with(fail)
    go_region
    all_goals
     go_wp2;go_roundw
     case rel =>
      refine⟨k+1,by omega,by go_num,(Ext.setCell (Ext.drew q) (lrf _) _),?_⟩;have:=Own.stored (Own.drew r) y.toNat (.int .i64 z);unfold Za;rw[EK.out,tU];exact this
     case measure=>simp[intOf];omega
  · have e:k=n:=by omega
    go_wp2;go_ret;subst e;have:mvd xs ys=aQ xs ys k:=by unfold mvd;rw[B.out]
    rw[this];exact⟨_,_,_,rfl,q,r⟩
def AY(l:List Int):List Int:=l ++ List.replicate (6-l.length) 0
theorem D0(h:l.length<=6):(AY l).length=6:=by simp[AY];omega
theorem TA{k:List Int}(h:l.length=k.length)(e:AY l=AY k):l=k:=by
 have:=q9 (List.take l.length) e;simpa[AY,h]using this
theorem Ie(l:List Int):(AY l).take l.length=l:=by simp[AY]
def G2:List Value:=List.replicate 6 (.int .i64 0)
def Agg(P:Program)(ty:TypeId)(n:Nat):Prop :=
 (P.underlying ty).map (fun d=>match d with | .struct _ | .array _ _=>true | _=>false)=some true/\(P.info? ty).map (·.size)=some n
theorem Agg.parts(h:Agg P ty n) :
 ∃ d,P.underlying ty=some d/\(match d with | .struct _ | .array _ _=>true | _=>false)=true/\(P.info? ty).map (·.size)=some n:=by
 obtain⟨h1,h2⟩:=h;cases hu:P.underlying ty with
 | none=>rw[hu]at h1;cases h1
 | some d =>
  rw[hu]at h1;exact⟨d,rfl,by simpa using h1,h2⟩
theorem BK(w:World)(g:Nat)(cs:Array Value):w.grownBy (w.setRow g cs) (some g):=by
 refine⟨rfl,rfl,rfl,by simp[World.setRow],fun k _ a => ?_⟩;simp only[World.setRow,rP];rw[pC (by rintro rfl;exact a rfl)]
theorem Cm(h:Arr w g t cs)(vs:List Value):Arr (w.setRow g vs.toArray) g t vs:=by
 unfold Arr at h |-;simp[World.setRow,rP,h]
section
variable {P:Program} {w:World}
theorem NK(a:Agg P ty cs.length)(h:Arr w g t cs) :
 (Instr.loadAt ty (.pointer (some ⟨g,0,none⟩))).run P w = .ok (.agg cs.toArray) w:=by
 obtain⟨d,hu,b,c⟩:=a.parts;have:=run_loadVar_row (P:=P) w g t ty cs.toArray (0,0) d h hu (by cases d <;> first | rfl | exact absurd b (by simp)) (by simpa using c);simp[Instr.loadAt,Instr.sureAddr,this]
theorem DG(a:Agg P ty vs.length)(h:Arr w g t cs)(c:cs.length=vs.length)(h1:∀ v∈vs,v.oneCell'=true) :
 (Instr.storeAt ty (.pointer (some ⟨g,0,none⟩)) (.agg vs.toArray)).run P w = .ok () (w.setRow g vs.toArray):=by
 obtain⟨d,hu,e,b⟩:=a.parts;have:=run_storeVar_row (P:=P) w g t ty cs.toArray vs.toArray h (by simpa using b) (by simpa using c) (by simpa using h1);simp[Instr.storeAt,Instr.sureAddr,this]
theorem Ev(b:o.guard=none)(e:o.op = .load ty x)
 {g:Nat} {t:TypeId} {cs:List Value} (d:Agg P ty cs.length) (i:f.eval x = .pointer (some ⟨g,0,none⟩)) (h:Arr w g t cs)
 (c:wpList P ops Q rest (f.put o.dst (.agg cs.toArray)) w):wpList P ops Q (o :: rest) f w:=by
 refine qT b fun K a => ?_;unfold Oper.wp execOp;simp only[e,i,q8,NK d h,pK,qz,Oper.upon];exact a _ _ c
theorem Aa(b:o.guard=none)(k:o.op = .store ty x y)
 {g:Nat} {t:TypeId} {cs vs:List Value} {va:Array Value} (l:f.eval x = .pointer (some ⟨g,0,none⟩)) (m:f.eval y = .agg va) (c:va=vs.toArray) (i:Agg P ty vs.length) (h:Arr w g t cs)
 (j:cs.length=vs.length) (h1:∀ v∈vs,v.oneCell'=true)
 (e:∀ d,Arr d g t vs->w.grownBy d (some g)->wpList P ops Q rest (f.put o.dst undef) d):wpList P ops Q (o :: rest) f w:=by
 subst c;refine qT b fun K a => ?_;unfold Oper.wp execOp;simp only[k,l,m,q8,DG i h j h1,pK,qz,Oper.upon];exact a _ _ (e _ (Cm h vs) (BK w g _))
theorem ZQ{m:Nat}(l:P.underlying t=some (.array m e))(a:Ca P e z bytes)(j:k<=m) :
 (Instr.sliceAt t (.pointer (some ⟨g,0,none⟩)) none (some (.int .i64 k)) none).run P w = .ok (.slice (some ⟨g,0,none⟩) k m) w:=by
 obtain⟨i,f,n,b,d⟩:=vw a;have c:(if m=0 then(⟨g,0,none⟩:Addr)else(⟨g,0,none⟩:Addr).add 0)=⟨g,0,none⟩:=by
  split <;> rfl
 simp[Instr.sliceAt,Instr.sliceBounds,Instr.sliceBound,qF l,asIntOf,sizeOf,typeInfo,f,j,Instr.sureAddr,c]
theorem Ap{b:Func}{p:Tmp}(i:b.results=#[.cell p ty]){a:Array Value}{g:Nat}{t:TypeId}{cs:List Value}(c:Agg P ty cs.length)
 (hp:a.getD p undef = .pointer (some ⟨g,0,none⟩)) (h:Arr w g t cs):(results b a).run P w = .ok (.agg cs.toArray) w:=by
 obtain⟨d,hu,e,f⟩:=c.parts;exact results_cell_row i a w g t cs.toArray (0,0) d hp h hu (by cases d <;> first | rfl | exact absurd e (by simp)) (by simpa using f)
theorem WQ{o l dc m:Nat}(y:P.underlying dT=some (.slice e))(f:Ca P e z bytes)
 (h:Arr w g t cur) (x:Sl w A m c cs) (G:m<=l) (s:o+m<=cur.length) (h1:∀ v∈cs,v.oneCell'=true) :
 ∃ r,(Builtin.copy_ #[dT,sT] ty #[.slice (some ⟨g,o,none⟩) l dc,.slice A m c]).run P w = .ok (goInt m) r/\Arr r g t (cur.take o ++ cs ++ cur.drop (o+m))/\w.grownBy r (some g):=by
 obtain⟨i,F,I,k,D⟩:=vw f;have p:(P.info? e).map (·.size)=some 1:=by simp[F,k]
 have d:=x.len;by_cases h0:m=0
 · subst h0;have:cs=[]:=pG d;subst this;refine⟨w,run_copy_none w dT sT ty e _ _ l dc 0 c y p (by simp),?_,⟨rfl,rfl,rfl,lrf _,fun _ _ _=>rfl⟩⟩;simpa using h
 · obtain⟨b,q,C,E⟩:=x.rd (by omega);subst C;have n:m.min l=m:=rA G
   have:=run_copy_row (P:=P) w dT sT ty e g o l dc ⟨b,q,none⟩ m c cur.toArray t cs y p h (by rw[n];exact d) (by
    intro j v B;have H:j<cs.length:=by
     rcases qx j cs.length with h|h
     · exact h
     · simp[pV h]at B
    have h2:=E j (by omega);rw[gqq,B]at h2;rw[<-pY (a:=v) (b:=undef),<-h2.symm.symm];unfold Addr.add
    by_cases h3:j=0 <;> simp[h3]at h2 |- <;> exact h2) (by simp;omega) h1
   refine⟨_,?_,Cm h _,BK w g _⟩;rw[this,d]
theorem LF{d s:Operand}(n:o.guard=none)
 (C:o.op = .call { callee := .builtin .copy,args:=#[d,s],argTypes:=#[dT,sT] })
 {e:TypeId} {z:Value} {bytes g p r dc m c:Nat} {A:Option Addr} {t:TypeId} {a cs:List Value} (E:P.underlying dT=some (.slice e)) (b:Ca P e z bytes)
 (y:f.eval d = .slice (some ⟨g,p,none⟩) r dc) (q:f.eval s = .slice A m c)
 (h:Arr w g t a) (D:Sl w A m c cs) (B:m<=r) (i:p+m<=a.length) (h1:∀ v∈cs,v.oneCell'=true)
 (x:∀ k,Arr k g t (a.take p ++ cs ++ a.drop (p+m))->w.grownBy k (some g)->wpList P ops Q rest (f.put o.dst (goInt m)) k):wpList P ops Q (o :: rest) f w:=by
 refine qT n fun K l => ?_;obtain⟨k,j,h2,h3⟩:=WQ (P:=P) (ty:=o.type) (sT:=sT) (dc:=dc) E b h D B i h1;unfold Oper.wp execOp;simp only[C,resolve,invoke,builtin,q8,qz,pK,sM,qP,sS,y,q,j,Oper.upon];exact l _ _ (x k h2 h3)
end
def BI(k:List Int):Value := .agg (k.map (Value.int .i64)).toArray
structure GG(P:Program)(kt et:TypeId):Prop where
 arr:P.underlying kt=some (.array 6 et)
 int:P.underlying et=some (.int .i64)
 size:(P.info? et).map (·.size)=some 1
theorem six{k:List Int}(h:k.length=6):∃ a b c d e f,k=[a,b,c,d,e,f]:=by
 match k,h with
 | [a,b,c,d,e,f],_=>exact⟨a,b,c,d,e,f,rfl⟩
section
variable {P:Program} {kt et:TypeId} (w:World)
theorem A0(a:GG P kt et)(cs:Array Value)(i:Nat)(v:Value)(h:cs[i]?=some v):(part et cs i).run P w = .ok v w:=by
 simp[part,isAgg,qF a.int,h]
theorem I2(c:GG P kt et)(d:Nat)(a b:Int):(Op.equalIn (d+1) et (.int .i64 a) (.int .i64 b)).run P w = .ok (a == b) w:=by
 simp[Op.equalIn,qF c.int]
theorem Ld(l:GG P kt et)(d:Nat){a b:List Int}(A:a.length=6)(B:b.length=6) :
 (Op.equalIn (d+2) kt (BI a) (BI b)).run P w = .ok (decide (a=b)) w:=by
 obtain⟨m,n,o,p,q,r,rfl⟩:=six A;obtain⟨s,t,v,x,y,z,rfl⟩:=six B;obtain⟨i,C,F⟩:∃ i,P.info? et=some i/\i.size=1:=by
  have:=l.size;cases h:P.info? et with
  | none=>rw[h]at this;cases this
  | some i=>rw[h]at this;exact⟨i,rfl,by simpa using this⟩
 have D:List.range' 0 6=[0,1,2,3,4,5]:=rfl;have he:=fun(a b:Int) (w:World)=>I2 w l d a b;have G:∀ (c e f g j k:Value) (w:World),(part et #[c,e,f,g,j,k] 0).run P w = .ok c w:=fun _ _ _ _ _ _ w=>A0 w l _ 0 _ rfl;have H:∀ (c e f g j k:Value) (w:World),(part et #[c,e,f,g,j,k] 1).run P w = .ok e w:=fun _ _ _ _ _ _ w=>A0 w l _ 1 _ rfl;have I:∀ (c e f g j k:Value) (w:World),(part et #[c,e,f,g,j,k] 2).run P w = .ok f w:=fun _ _ _ _ _ _ w=>A0 w l _ 2 _ rfl
 have J:∀ (c e f g j k:Value) (w:World),(part et #[c,e,f,g,j,k] 3).run P w = .ok g w:=fun _ _ _ _ _ _ w=>A0 w l _ 3 _ rfl;have K:∀ (c e f g j k:Value) (w:World),(part et #[c,e,f,g,j,k] 4).run P w = .ok j w:=fun _ _ _ _ _ _ w=>A0 w l _ 4 _ rfl;have L:∀ (c e f g j k:Value) (w:World),(part et #[c,e,f,g,j,k] 5).run P w = .ok k w:=fun _ _ _ _ _ _ w=>A0 w l _ 5 _ rfl;rw[Op.equalIn];simp only[BI,q8,qF l.arr,pK];generalize M:Op.equalIn (d+1) et=E at *
 simp[sizeOf,typeInfo,C,F,D,G,H,I,J,K,L,he];by_cases h0:m=s <;> simp[h0];by_cases h1:n=t <;> simp[h1];by_cases h2:o=v <;> simp[h2];by_cases h3:p=x <;> simp[h3];by_cases h4:q=y <;> simp[h4];by_cases h5:r=z <;> simp[h5]
theorem HH(c:GG P kt et)(b:Bool)(d:Nat)(a:Int):(Instr.checkKey b (d+1) et (.int .i64 a)).run P w = .ok () w:=by
 rw[Instr.checkKey];simp[qF c.int]
theorem GH(k:GG P kt et)(l:Bool)(d:Nat){a:List Int}(m:a.length=6):(Instr.checkKey l (d+2) kt (BI a)).run P w = .ok () w:=by
 obtain⟨y,z,A,B,C,D,rfl⟩:=six m;obtain⟨i,n,p⟩:∃ i,P.info? et=some i/\i.size=1:=by
  have:=k.size;cases h:P.info? et with
  | none=>rw[h]at this;cases this
  | some i=>rw[h]at this;exact⟨i,rfl,by simpa using this⟩
 have o:List.range' 0 6=[0,1,2,3,4,5]:=rfl;have he:=fun(a:Int) (w:World)=>HH w k l d a;have q:∀ (b c e f g j:Value) (w:World),(part et #[b,c,e,f,g,j] 0).run P w = .ok b w:=fun _ _ _ _ _ _ w=>A0 w k _ 0 _ rfl;have r:∀ (b c e f g j:Value) (w:World),(part et #[b,c,e,f,g,j] 1).run P w = .ok c w:=fun _ _ _ _ _ _ w=>A0 w k _ 1 _ rfl;have s:∀ (b c e f g j:Value) (w:World),(part et #[b,c,e,f,g,j] 2).run P w = .ok e w:=fun _ _ _ _ _ _ w=>A0 w k _ 2 _ rfl
 have t:∀ (b c e f g j:Value) (w:World),(part et #[b,c,e,f,g,j] 3).run P w = .ok f w:=fun _ _ _ _ _ _ w=>A0 w k _ 3 _ rfl;have v:∀ (b c e f g j:Value) (w:World),(part et #[b,c,e,f,g,j] 4).run P w = .ok g w:=fun _ _ _ _ _ _ w=>A0 w k _ 4 _ rfl;have x:∀ (b c e f g j:Value) (w:World),(part et #[b,c,e,f,g,j] 5).run P w = .ok j w:=fun _ _ _ _ _ _ w=>A0 w k _ 5 _ rfl;rw[Instr.checkKey];simp only[BI,q8,qF k.arr,pK];generalize F:Instr.checkKey l (d+1) et=E at *
 simp[sizeOf,typeInfo,n,p,o,q,r,s,t,v,x,he]
end
def Cb:Nat->List (List Int×Value)->List MapEntry
 | _,[]=>[]
 | i,(k,v) :: r=>{ key:=BI k,val:=v,born:=i } :: Cb (i+1) r
structure Br(w:World)(r:Nat)(m:List (List Int×Value)):Prop where
 obj:w.heap[r]?=some (.map (Cb 0 m).toArray m.length)
 six:∀ p∈m,p.1.length=6
 nodup:(m.map (·.1)).Nodup
def CR(k:List Int):Nat->List (List Int×Value)->Option (Nat×Value)
 | _,[]=>none
 | i,(k',v) :: r=>if k=k' then some (i,v)else CR k (i+1) r
theorem Gs{k:List Int}:∀ {i:Nat} {m:List (List Int×Value)},CR k i m=none<->k ∉ m.map (·.1)
 | _,[]=>by simp[CR]
 | i,(k',v) :: r=>by
  unfold CR;by_cases h:k=k'
  · simp[h]
  · simp[h,Gs (i:=i+1) (m:=r)]
theorem Eh:∀ (i:Nat) (m:List (List Int×Value)),(Cb i m).length=m.length
 | _,[]=>rfl
 | i,(_,_) :: r=>by simp[Cb,Eh (i+1) r]
theorem IC:∀ (i:Nat) (m:List (List Int×Value)) (k:List Int) (v:Value),Cb i (m ++ [(k,v)])=Cb i m ++ [{ key:=BI k,val:=v,born:=i+m.length }]
 | _,[],_,_=>rfl
 | i,(_,_) :: r,k,v=>by
  simp only[rX,Cb,IC (i+1) r k v,qk];rw[sB,rO 1]
section
variable {P:Program} {kt et:TypeId} (w:World)
theorem FA(d:GG P kt et){k:List Int}(h6:k.length=6):∀ (m:List (List Int×Value)) (b i:Nat),(∀ p∈m,p.1.length=6) ->
 (Instr.findAsking kt (BI k) (Cb b m) i).run P w = .ok (CR k i m) w
 | [],_,_,_=>by simp[Instr.findAsking,Cb,CR]
 | (k',v) :: r,b,i,h=>by
  have h1:k'.length=6:=h (k',v) (by simp);have c:(Op.equal kt (BI k) (BI k')).run P w = .ok (decide (k=k')) w:=Ld w d 9998 h6 h1;have e:=FA d h6 r (b+1) (i+1) (fun p hp=>h p (by simp[hp]));unfold Cb CR;rw[Instr.findAsking];simp only[q8,c,pK];by_cases a:k=k'
  · simp[a]
  · simp[a,e]
theorem ID(a:GG P kt et){k:List Int}(h6:k.length=6)(m:List (List Int×Value))(h:∀ p∈m,p.1.length=6) :
 (Instr.findKey kt (BI k) (Cb 0 m)).run P w = .ok (CR k 0 m) w:=by
 have c:Instr.findNow (.array 6 et) (BI k) (Cb 0 m) 0=if m=[]then some none else none:=by
  cases m with
  | nil=>rfl
  | cons p r=>obtain⟨d,v⟩:=p;simp[Cb,Instr.findNow,Instr.sameNow]
 simp only[Instr.findKey,q8,qF a.arr,pK,c];by_cases b:m=[]
 · subst b;simp[CR]
 · simp[b,FA w a h6 m 0 0 h]
end
theorem Br.lt(h:Br w r m):r<w.heap.size:=by
 rcases qx r w.heap.size with b|a
 · exact b
 · have:=h.obj;rw[rl a]at this;cases this
theorem Br.of_block(h:Br w r m)(e:w'.heap[r]?=w.heap[r]?):Br w' r m:=⟨e.trans h.obj,h.six,h.nodup⟩
theorem Br.ext(h:Br w r m)(e:Ext w w'):Br w' r m:=h.of_block (e.block h.lt)
theorem Br.kept(h:Br w r m)(b:w.grownBy w' row)(a:some r≠row):Br w' r m:=h.of_block (b.block r h.lt a)
def Fu(z:Value)(m:List (List Int×Value))(k:List Int):Value:=((CR k 0 m).map (·.2)).getD z
def WR(m:List (List Int×Value))(k:List Int):Bool:=(CR k 0 m).isSome
def NL(m:List (List Int×Value))(k:List Int)(v:Value):List (List Int×Value) :=
 match CR k 0 m with
 | some (i,_)=>m.set i (k,v)
 | none=>m ++ [(k,v)]
theorem JJ{k:List Int}:∀ {j:Nat} {m:List (List Int×Value)} {i:Nat} {v:Value},CR k j m=some (i,v)->j<=i/\m[i-j]?=some (k,v)
 | _,[],_,_,h=>by simp[CR]at h
 | j,(k',v') :: r,i,v,h=>by
  unfold CR at h;by_cases hk:k=k'
  · rw[pP hk]at h;simp only[pz,sW]at h;obtain⟨rfl,rfl⟩:=h;subst hk;simp
  · rw[pC hk]at h;obtain⟨h1,h2⟩:=JJ h;refine⟨by omega,?_⟩;rw[show i-j=(i-(j+1))+1 by omega];simpa using h2
theorem Ew:∀ (j:Nat) (m:List (List Int×Value)) (i:Nat),(Cb j m)[i]?=(m[i]?).map (fun p=>{ key:=BI p.1,val:=p.2,born:=j+i })
 | _,[],_=>by simp[Cb]
 | j,(k,v) :: r,0=>by simp[Cb]
 | j,(k,v) :: r,i+1=>by
  simp only[Cb,vq,Ew (j+1) r i];rw[sB,rO 1 i]
theorem Tl:∀ (j:Nat) (m:List (List Int×Value)) (i:Nat) (k:List Int) (v:Value),i<m.length->Cb j (m.set i (k,v))=(Cb j m).set i { key:=BI k,val:=v,born:=j+i }:=by
 intro j m i k v b;apply sF;intro t;rw[Ew,sD,sD,Eh];by_cases a:i=t
 · subst a;simp[b]
 · simp[a,Ew]
theorem MH(k:List Int):Instr.sameBits 10000 (BI k) (BI k)=true:=by
 have h:∀ (l:List Value) (n:Nat),(∀ v∈l,∃ a,v=Value.int .i64 a)->(l.zip l).all (fun x=>Instr.sameBits n x.1 x.2)=true:=by
  intro l n
  induction l with
  | nil=>intro _;rfl
  | cons v r ih =>
   intro b;obtain⟨a,rfl⟩:=b v (by simp);simp only[List.zip_cons_cons,List.all_cons,qQ];refine⟨?_,ih (fun u hu=>b u (by simp[hu]))⟩;cases n <;> simp[Instr.sameBits]
 show Instr.sameBits (9999+1) (.agg _) (.agg _)=true;rw[Instr.sameBits];simp only[beq_self_eq_true,Bool.true_and];exact h _ 9999 (by intro v b;simp only[pU]at b;obtain⟨a,_,rfl⟩:=b;exact⟨a,rfl⟩)
section
variable {P:Program} {kt et mt vt:TypeId} {w:World}
theorem JK(g:P.underlying mt=some (.map kt vt))(f:GG P kt et){z:Value}(j:(zeroValue vt).run P w = .ok z w){r:Nat}{m:List (List Int×Value)}(h:Br w r m){k:List Int}(h6:k.length=6)(b:Bool) :
 (Instr.lookup mt (.map (some r)) (BI k) b).run P w = .ok (if b then .tuple #[Fu z m k,.bool (WR m k)]else Fu z m k) w:=by
 have d:∀ c,(Instr.checkKey c 10000 kt (BI k)).run P w = .ok () w:=fun c=>GH w f c 9998 h6;have e:=ID w f h6 m h.six;have i:=h.obj;unfold Fu WR;simp only[Instr.lookup,q8,qF g,pK,getObj,Sem.run,i];cases a:CR k 0 m with
 | none=>cases b <;> simp[j,d,e,a]
 | some p=>cases b <;> simp[d,e,a]
theorem Vn(J:P.underlying mt=some (.map kt vt))(I:GG P kt et){r:Nat}{m:List (List Int×Value)}(h:Br w r m){k:List Int}(h6:k.length=6)(v:Value) :
 ∃ E,(Instr.mapUpdate mt (.map (some r)) (BI k) v).run P w = .ok () E/\Br E r (NL m k v)/\w.grownBy E (some r):=by
 have G:∀ A,(Instr.checkKey A 10000 kt (BI k)).run P w = .ok () w:=fun A=>GH w I A 9998 h6;have H:=ID w I h6 m h.six;have z:=h.obj;have B:=h.lt;have l:∀ o:Obj,w.grownBy { w with heap:=w.heap.setIfInBounds r o } (some r):=by
  intro o;refine⟨rfl,rfl,rfl,by simp,fun j _ D => ?_⟩;have:r≠j:=by rintro rfl;exact D rfl
  simp only;rw[wg this]
 have x:∀ o:Obj,({ w with heap:=w.heap.setIfInBounds r o }:World).heap[r]?=some o:=by
  intro o;simp only;rw[x6 B]
 unfold NL;cases d:CR k 0 m with
 | none =>
  refine⟨_,?_,⟨x (.map (Cb 0 (m ++ [(k,v)])).toArray (m.length+1)) |>.trans (by simp),?_,?_⟩,l _⟩
  · simp only[Instr.mapUpdate,q8,qF J,pK,getObj,setObj,Sem.run,z,G];rw[H];simp[d,Sem.run,z,IC]
  · intro p hp;rcases qd.1 hp with hp|hp
    · exact h.six p hp
    · simp only[pF]at hp;subst hp;exact h6
  · rw[qw,th];refine⟨h.nodup,by simp,?_⟩;intro a L b F;simp only[qP,sS,pF]at F;subst F;rintro rfl;exact Gs.1 d L
 | some p =>
  obtain⟨i,K⟩:=p;obtain⟨_,n⟩:=JJ d;rw[vi]at n;have f:i<m.length:=by
   rcases qx i m.length with h|h
   · exact h
   · simp[pV h]at n
  have c:(m.set i (k,v)).map (·.1)=m.map (·.1):=by
   rw[tU];apply sF;intro t;rw[sD];by_cases y:i=t
   · subst y;have C:m[i]=(k,K):=by rw[oO f]at n;simpa using n
     simp[f,C]
   · simp[y]
  refine⟨_,?_,⟨x (.map (Cb 0 (m.set i (k,v))).toArray m.length) |>.trans (by simp),?_,?_⟩,l _⟩
  · simp only[Instr.mapUpdate,q8,qF J,pK,getObj,Sem.run,z,G];rw[H];have g:(Cb 0 m)[i]?=some { key:=BI k,val:=K,born:=0+i }:=by
     rw[Ew,n];rfl
    have s:((Cb 0 m).modify i fun e=>{ key:=BI k,val:=v,born:=e.born })=Cb 0 (m.set i (k,v)):=by
     rw[Tl _ _ _ _ _ f];apply sF;intro t;rw[List.getElem?_modify,sD,Eh];by_cases y:i=t
     · subst y;simp[g,f]
     · simp[y]
    simp[d,g,Instr.keyThatStays,MH,setObj,Sem.run,z,s]
  · intro p hp;have:p.1∈(m.set i (k,v)).map (·.1):=ri hp;rw[c]at this;obtain⟨q,M,e⟩:=pU.1 this;rw[<-e];exact h.six q M
  · rw[c];exact h.nodup
end
def AN(w:World)(it r n:Nat)(seen:List Nat):Prop:=w.heap[it]?=some (.mapIter (some r) n seen.toArray n)
theorem AN.lt(h:AN w it r n seen):it<w.heap.size:=by
 rcases qx it w.heap.size with b|a
 · exact b
 · unfold AN at h;rw[rl a]at h;cases h
theorem AN.ext(h:AN w it r n seen)(e:Ext w w'):AN w' it r n seen:=(e.block h.lt).trans h
theorem AN.kept(h:AN w it r n seen)(b:w.grownBy w' row)(a:some it≠row):AN w' it r n seen:=(b.block it h.lt a).trans h
theorem NM{e:MapEntry}(h:e∈Cb 0 m):∃ i k v,m[i]?=some (k,v)/\e={ key:=BI k,val:=v,born:=i }:=by
 obtain⟨i,a⟩:=wZ.1 h;rw[Ew]at a;cases b:m[i]? with
 | none=>rw[b]at a;cases a
 | some p =>
  rw[b]at a;refine⟨i,p.1,p.2,b,?_⟩;simpa using a.symm
theorem GI{e:MapEntry}(h:e∈Cb 0 m):e.born<m.length:=by
 obtain⟨i,k,v,a,rfl⟩:=NM h;rcases qx i m.length with h|h
 · exact h
 · simp[pV h]at a
theorem LG:∀ (j:Nat) (m:List (List Int×Value)) (i:Nat) (k:List Int) (v:Value),m[i]?=some (k,v)->(Cb j m).find? (fun e=>e.born == j+i)=some { key:=BI k,val:=v,born:=j+i }
 | _,[],_,_,_,h=>by simp at h
 | j,(k',v') :: r,0,k,v,h=>by
  simp only[sE,pz,sW]at h;obtain⟨rfl,rfl⟩:=h;simp[Cb]
 | j,(k',v') :: r,i+1,k,v,h=>by
  have a:=LG (j+1) r i k v (by simpa using h);rw[show j+(i+1)=j+1+i by omega];unfold Cb;rw[List.find?_cons_of_neg (by simp;omega)];exact a
section
variable {P:Program} {mt kt vt:TypeId} {w:World}
theorem RW(a:P.underlying mt=some (.map kt vt)){r:Nat}{m:List (List Int×Value)}(h:Br w r m) :
 (Instr.range mt (.map (some r))).run P w = .ok (.pointer (some ⟨w.heap.size,0,none⟩)) (w.alloc (.mapIter (some r) m.length #[] m.length)):=by
 have b:=h.obj;simp[Instr.range,qF a,getObj,Sem.run,b,newObj]
theorem Tn(h:Br w r m)(hi:AN w it r m.length seen) :
 ((∀ i,i<m.length->i∈seen)/\(Instr.next (.pointer (some ⟨it,0,none⟩)) false t).run P w = .ok (.tuple #[.bool false]) w) \/
 ∃ i k v J,i<m.length/\i ∉ seen/\m[i]?=some (k,v)/\(Instr.next (.pointer (some ⟨it,0,none⟩)) false t).run P w = .ok (.tuple #[.bool true,BI k,v]) J /\
  AN J it r m.length (seen ++ [i])/\w.grownBy J (some it):=by
 have L:=h.obj;have x:w.heap[it]?=some (.mapIter (some r) m.length seen.toArray m.length):=hi;have g:(!seen.toArray.isEmpty && !(Cb 0 m).toArray.isEmpty && (Cb 0 m).toArray.all (fun e=>decide (e.born >= m.length)))=false:=by
  cases m with
  | nil=>simp[Cb]
  | cons p q =>
   obtain⟨k,v⟩:=p;simp[Cb]
 have n:((Cb 0 m).toArray.filter (fun e => !seen.toArray.contains e.born)).filter (fun e=>decide (e.born<m.length))=(Cb 0 m).toArray.filter (fun e => !seen.toArray.contains e.born):=by
  apply pm;simp only[Array.toList_filter];rw[List.filter_eq_self];intro e he;have:=(sK.1 he).1;simpa using GI (by simpa using this)
 have l:((Cb 0 m).toArray.filter (fun e => !seen.toArray.contains e.born)).filter (fun e=>decide (e.born >= m.length))=#[]:=by
  apply pm;simp only[Array.toList_filter];rw[List.filter_eq_nil_iff];intro e he;have:=(sK.1 he).1;have:=GI (by simpa using this);simp;omega
 generalize B:(Cb 0 m).toArray.filter (fun e => !seen.toArray.contains e.born)=left at *
 have y:∀ e∈left,∃ i k v,m[i]?=some (k,v)/\i ∉ seen/\e={ key:=BI k,val:=v,born:=i }:=by
  intro e he;rw[<-B]at he;obtain⟨h1,h2⟩:=Array.mem_filter.1 he;obtain⟨i,k,v,C,rfl⟩:=NM (by simpa using h1);exact⟨i,k,v,C,by simpa using h2,rfl⟩
 by_cases a:left=#[]
 · left;refine⟨?_,?_⟩
   · intro i F;by_cases D:i∈seen
     · exact D
     · exfalso;have:({ key:=BI m[i].1,val:=m[i].2,born:=i }:MapEntry)∈left:=by
        rw[<-B,Array.mem_filter];refine⟨?_,by simpa using D⟩;rw[List.mem_toArray,wZ];exact⟨i,by rw[Ew,oO F];simp⟩
       rw[a]at this;simp at this
   · simp only[Instr.next,q8,getObj,Sem.run,x,L,pK];simp only[g,B,n,l];simp[a,choose,Sem.run,Question.forced]
 · right;have o:0<left.size:=by
    rcases pT left.size with h0|h0
    · exact absurd (Array.eq_empty_of_size_eq_zero h0) a
    · exact h0
   obtain⟨c,d,K,E,f⟩:∃ c d,c<left.size/\(choose (.mapNext left.size)).run P w = .ok c d/\(d=w\/d=w.drew):=by
    by_cases h1:left.size<=1
    · exact⟨0,w,o,by simp[choose,Sem.run,Question.forced,h1],.inl rfl⟩
    · refine⟨w.tape w.drawn (.mapNext left.size)%left.size,w.drew,qf _ o,?_,.inr rfl⟩;simp[choose,Sem.run,Question.forced,h1,Question.cut]
   obtain⟨i,k,v,C,D,he⟩:=y left[c] (Array.getElem_mem K);have G:i<m.length:=by
    rcases qx i m.length with h|h
    · exact h
    · simp[pV h]at C
   have b:d.heap=w.heap:=by rcases f with rfl | rfl <;> rfl
   have A:d.heap[it]?=some (.mapIter (some r) m.length seen.toArray m.length):=by rw[b];exact x
   refine⟨i,k,v,{ d with heap:=d.heap.setIfInBounds it (.mapIter (some r) m.length (seen.toArray.push i) m.length) },G,D,C,?_,?_,?_⟩
   · simp only[Instr.next,q8,getObj,Sem.run,x,L,pK];simp only[g,B,n,l];have s:((if left.isEmpty=true then #[none]else #[]) ++ (left ++ #[]).map some)=left.map some:=by
      simp[a]
     simp only[s];have I:(left.map some).size=left.size:=by simp
     simp only[I,si,tJ,q8,pK,E];have z:(left.map some)[c]?=some (some { key:=BI k,val:=v,born:=i }):=by
      rw[Array.getElem?_map,tl K,he];rfl
     simp only[z];simp[setObj,Sem.run,A]
   · show({ d with heap:=d.heap.setIfInBounds it _ }:World).heap[it]?=_;have:it<d.heap.size:=by rw[b];exact hi.lt
     simp only;rw[x6 this];simp
   · refine⟨by rcases f with rfl | rfl <;> rfl,by rcases f with rfl | rfl <;> rfl,by rcases f with rfl | rfl <;> rfl,by simp[b],fun j _ H => ?_⟩;have:it≠j:=by rintro rfl;exact H rfl
     simp only;rw[wg this,b]
theorem RX{k:List Int}(h:Br w r m)(hi:AN w it r m.length (seen ++ [i]))(c:m[i]?=some (k,v)) :
 (Instr.entry (.pointer (some ⟨it,0,none⟩))).run P w = .ok (.tuple #[BI k,v]) w:=by
 have d:=h.obj;have a:w.heap[it]?=some (.mapIter (some r) m.length (seen ++ [i]).toArray m.length):=hi;have b:=LG 0 m i k v c;rw[qA]at b;simp[Instr.entry,getObj,Sem.run,a,d,b]
theorem GJ(c:o.guard=none)(e:o.op = .makeMap mt none)
 (d:∀ a,Br a w.heap.size []->Ext w a->w.heap.size<a.heap.size->wpList P ops Q rest (f.put o.dst (.map (some w.heap.size))) a):wpList P ops Q (o :: rest) f w:=by
 refine qT c fun K b => ?_;unfold Oper.wp execOp;have g:(Instr.makeMap mt none).run P w = .ok (.map (some w.heap.size)) (w.alloc (.map #[] 0)):=by
  simp[Instr.makeMap,newObj,Sem.run]
 simp only[e,oW,q8,g,pK,qz,Oper.upon];exact b _ _ (d _ ⟨wK w _,by simp,by simp⟩ ((Ext.refl w).alloc _) (by simp))
theorem LH(b:o.guard=none)(g:o.op = .lookup mt x y ok)
 (e:P.underlying mt=some (.map kt vt)) (d:GG P kt et) {z:Value} (l:∀ w,(zeroValue vt).run P w = .ok z w) {r:Nat} {m:List (List Int×Value)} {k:List Int}
 (i:f.eval x = .map (some r)) (j:f.eval y=BI k) (h:Br w r m) (h6:k.length=6)
 (c:wpList P ops Q rest (f.put o.dst (if ok then .tuple #[Fu z m k,.bool (WR m k)]else Fu z m k)) w):wpList P ops Q (o :: rest) f w:=by
 refine qT b fun K a => ?_;unfold Oper.wp execOp;simp only[g,i,j,q8,JK e d (l w) h h6 ok,pK,qz,Oper.upon];exact a _ _ c
theorem PG(e:o.guard=none)(c:o.op = .mapUpdate mt x y u\/o.op = .insert mt x y u)
 (j:P.underlying mt=some (.map kt vt)) (i:GG P kt et) {r:Nat} {m:List (List Int×Value)} {k:List Int} {v:Value}
 (l:f.eval x = .map (some r)) (n:f.eval y=BI k) (hu:f.eval u=v) (h:Br w r m) (h6:k.length=6)
 (g:∀ b,Br b r (NL m k v)->w.grownBy b (some r)->wpList P ops Q rest (f.put o.dst undef) b):wpList P ops Q (o :: rest) f w:=by
 refine qT e fun K d => ?_;obtain⟨b,a,h2,h3⟩:=Vn j i h h6 v;unfold Oper.wp execOp;rcases c with c|c
 all_goals
  simp only[c,l,n,hu,q8,a,pK,qz,Oper.upon];exact d _ _ (g b h2 h3)
theorem JL(c:o.guard=none)(g:o.op = .range mt x)
 (e:P.underlying mt=some (.map kt vt)) {r:Nat} {m:List (List Int×Value)} (i:f.eval x = .map (some r)) (h:Br w r m)
 (d:∀ a,AN a w.heap.size r m.length []->Ext w a->w.heap.size<a.heap.size->wpList P ops Q rest (f.put o.dst (.pointer (some ⟨w.heap.size,0,none⟩))) a):wpList P ops Q (o :: rest) f w:=by
 refine qT c fun K b => ?_;unfold Oper.wp execOp;simp only[g,i,q8,RW e h,pK,qz,Oper.upon];exact b _ _ (d _ (wK w _) ((Ext.refl w).alloc _) (by simp))
theorem FY(e:o.guard=none)(j:o.op = .next x false)
 {r d:Nat} {m:List (List Int×Value)} {a:List Nat} (l:f.eval x = .pointer (some ⟨d,0,none⟩)) (h:Br w r m) (hi:AN w d r m.length a)
 (h1:(∀ i,i<m.length->i∈a)->wpList P ops Q rest (f.put o.dst (.tuple #[.bool false])) w)
 (h2:∀ i k v c,i<m.length->i ∉ a->m[i]?=some (k,v)->AN c d r m.length (a ++ [i])->w.grownBy c (some d)->wpList P ops Q rest (f.put o.dst (.tuple #[.bool true,BI k,v])) c) :
 wpList P ops Q (o :: rest) f w:=by
 refine qT e fun K b => ?_;unfold Oper.wp execOp;rcases Tn (P:=P) (t:=o.type) h hi with⟨z,g⟩|⟨i,k,v,c,n,p,q,g,s,y⟩
 · simp only[j,l,q8,g,pK,qz,Oper.upon];exact b _ _ (h1 z)
 · simp only[j,l,q8,g,pK,qz,Oper.upon];exact b _ _ (h2 i k v c n p q s y)
theorem JM(c:o.guard=none)(j:o.op = .entry x)
 {r d i:Nat} {m:List (List Int×Value)} {a:List Nat} {k:List Int} {v:Value} (l:f.eval x = .pointer (some ⟨d,0,none⟩)) (h:Br w r m) (hi:AN w d r m.length (a ++ [i])) (g:m[i]?=some (k,v))
 (e:wpList P ops Q rest (f.put o.dst (.tuple #[BI k,v])) w):wpList P ops Q (o :: rest) f w:=by
 refine qT c fun K b => ?_;unfold Oper.wp execOp;simp only[j,l,q8,RX h hi g,pK,qz,Oper.upon];exact b _ _ e
end
def ZD(w:World)(base:Nat)(e:TypeId)(a:Option Addr)(n c:Nat)(cs:List Value):Prop :=
 cs.length=n/\n<=c/\c<=maxLen/\((a=none/\c=0)\/∃ g off cur,a=some ⟨g,off,none⟩/\base<=g/\w.heap[g]?=some (.cells cur e (0,0))/\off+c<=cur.size/\(cur.toList.drop off).take n=cs)
section
variable {w w':World} {base:Nat} {e:TypeId} {a:Option Addr} {n c:Nat} {cs:List Value}
theorem ZD.of(h:Own w base e a n c cs):ZD w base e a n c cs:=by
 refine⟨h.len,h.cap,h.sl.max,?_⟩;rcases h.2 with⟨b,_⟩|⟨g,f,d,b,i,j,k,m,o,l⟩
 · simp only[pI]at b;exact Or.inl ⟨b.1,b.2.2⟩
 · simp only[pI]at b;obtain⟨rfl,_,rfl⟩:=b;exact Or.inr ⟨g,0,d,rfl,i,j,by omega,by simpa using l⟩
theorem ZD.len(h:ZD w base e a n c cs):cs.length=n:=h.1
theorem ZD.sl(h:ZD w base e a n c cs):Sl w a n c cs:=by
 obtain⟨p,l,q,h⟩:=h;refine⟨p,l,q,fun h0 => ?_⟩;rcases h with⟨_,h1⟩|⟨g,b,d,k,_,m,s,r⟩
 · omega
 · refine⟨g,b,k,fun i o => ?_⟩;have j:cs.getD i undef=d.toList.getD (b+i) undef:=by
    rw[<-r];simp[o]
   have f:b+i<d.size:=by omega
   rw[j];simp[World.cell?,m,f]
theorem ZD.lt(h:ZD w base e a n c cs){k:Nat}(d:blk a=some k):base<=k/\k<w.heap.size:=by
 rcases h.2.2.2 with⟨b,_⟩|⟨g,l,f,b,i,j,_⟩
 · subst b;simp[blk]at d
 · subst b;have:g=k:=by simpa[blk]using d
   subst this;refine⟨i,?_⟩;rcases qx g w.heap.size with h|h
   · exact h
   · simp[rl h]at j
theorem ZD.of_block(h:ZD w base e a n c cs)(j:∀ k,blk a=some k->w'.heap[k]?=w.heap[k]?):ZD w' base e a n c cs:=by
 obtain⟨o,l,p,h⟩:=h;refine⟨o,l,p,?_⟩;rcases h with h|⟨g,f,b,i,d,m,r⟩
 · exact Or.inl h
 · exact Or.inr ⟨g,f,b,i,d,by rw[j g (by subst i;rfl)];exact m,r⟩
theorem ZD.ext(h:ZD w base e a n c cs)(k:Ext w w'):ZD w' base e a n c cs:=h.of_block fun _ b=>k.block (h.lt b).2
theorem ZD.kept(h:ZD w base e a n c cs)(f:w.grownBy w' row)(d:blk a=none\/blk a≠row):ZD w' base e a n c cs :=
 h.of_block fun k b=>f.block k (h.lt b).2 (by
  rcases d with h1|h1
  · rw[h1]at b;cases b
  · rw[<-b];exact h1)
theorem ZD.from(h:ZD w base e a n c cs){k:Nat}(p:k<=n):ZD w base e (if c=k then a else a.map (fun x=>x.add k)) (n-k) (c-k) (cs.drop k):=by
 obtain⟨q,o,r,h⟩:=h;refine⟨by simp;omega,by omega,by omega,?_⟩;rcases h with⟨j,h0⟩|⟨g,i,b,j,d,l,s,m⟩
 · subst j;left;refine⟨by simp,by omega⟩
 · subst j;right;by_cases f:c=k
   · rw[pP f];refine⟨g,i,b,rfl,d,l,by omega,?_⟩;rw[show n-k=0 by omega,rf,qm (show cs.length<=k by omega)]
   · rw[pC f];refine⟨g,i+k,b,?_,d,l,by omega,?_⟩
     · simp only[qU,Addr.add];by_cases h0:k=0 <;> simp[h0]
     · rw[<-m,List.drop_take,wP]
end
theorem fz{b:Type}(l news:List b)(o n m:Nat)(c:news.length=m)(a:o+n+m<=l.length) :
 ((l.take (o+n) ++ news ++ l.drop (o+n+m)).drop o).take (n+m)=(l.drop o).take n ++ news:=by
 apply sF;intro i;by_cases h1:i<n
 · rw[List.getElem?_take,pP (by omega),se,qi,pO (by simp;omega),List.getElem?_take,pP (by omega),
    pO (by simp;omega),List.getElem?_take,pP h1,se]
 · by_cases h2:i<n+m
   · rw[List.getElem?_take,pP h2,se,qi,pW (by simp;omega),pO (by simp;omega),
      pW (by simp;omega)]
     congr 1;simp;omega
   · rw[pV (by simp;omega),pV (by simp;omega)]
section
variable {P:Program} {w:World}
theorem jO{xs:List Value}{m:Nat} 
 (S:P.underlying t=some (.slice e)) (B:Ca P e z bytes) (T:z.cells.size=1) (I:ZD w base e a n c xs) (C:Sl w A m cx news)
 (h1:∀ u∈news,u.oneCell'=true) (h63:n+m<=maxLen) (x:(n+m)*bytes<=140737488355328) (y:base<=w.heap.size) (Q:0<m) :
 ∃ M V U,(Builtin.append_ #[t,t] ty #[.slice a n c,.slice A m cx]).run P w = .ok (.slice M (n+m) V) U/\ZD U base e M (n+m) V (xs ++ news) /\
  w.grownBy U (blk a)/\(blk M=blk a\/blk M=some w.heap.size):=by
 obtain⟨i,X,hz,d,O⟩:=vw B;obtain⟨G,a0,R,r⟩:=I;obtain⟨b,v,Y,Z⟩:=C.rd Q;subst Y;have l:∀ j u,news[j]?=some u->w.cell? ((⟨b,v,none⟩:Addr).add j)=some u:=by
  intro j u hu;have hj:j<news.length:=by
   rcases qx j news.length with h|h
   · exact h
   · simp[pV h]at hu
  have h2:=Z j (by have:=C.len;omega);have h3:news.getD j undef=u:=by rw[gqq,hu];rfl
  rw[h3]at h2;rw[<-h2];unfold Addr.add;by_cases h0:j=0 <;> simp[h0]
 have f:news.length=m:=C.len;have hf:=run_firstCells_some (P:=P) w i.size m ⟨b,v,none⟩ m cx news (by rw[d];omega) l;by_cases s:n+m<=c
 · rcases r with⟨_,h0⟩|⟨g,o,p,E,W,N,hs,D⟩
   · omega
   · subst E;have L:=run_storeCells_at P g (o+n) e news 0 p w N (by omega) h1;refine⟨some ⟨g,o,none⟩,c,_,?_,⟨by simp[G,f],s,R,Or.inr ⟨g,o,(p.toList.take (o+n) ++ news ++ p.toList.drop (o+n+m)).toArray,rfl,W,?_,?_,?_⟩⟩,BK w g (p.toList.take (o+n) ++ news ++ p.toList.drop (o+n+m)).toArray,Or.inl rfl⟩
     · have q:(⟨g,o,none⟩:Addr).add (n*i.size)=⟨g,o+n,none⟩:=by
        rw[d,sH];unfold Addr.add;by_cases h0:n=0 <;> simp[h0]
       simp only[qy,f]at L;simp[Builtin.append_,qF S,sizeOf,typeInfo,X,Builtin.lenOf,s,hf,q,L]
     · simp[World.setRow,rP,N]
     · simp;omega
     · rw[List.toList_toArray,fz _ _ o n m f (by simp;omega),D]
 · have H:(Builtin.firstCells i.size n (.slice a n c)).run P w.drew = .ok xs.toArray w.drew:=by
    rcases r with⟨E,h0⟩|⟨g,o,p,E,W,N,hs,D⟩
    · subst E;have:xs=[]:=pG (by omega);subst this;simp[Builtin.firstCells]
    · subst E;refine run_firstCells_some (P:=P) w.drew i.size n ⟨g,o,none⟩ n c xs (by rw[d];omega) ?_;intro j u hu;have hj:j<xs.length:=by
       rcases qx j xs.length with h|h
       · exact h
       · simp[pV h]at hu
      have q:(⟨g,o,none⟩:Addr).add j=⟨g,o+j,none⟩:=by
       unfold Addr.add;by_cases h0:j=0 <;> simp[h0]
      rw[<-D]at hu;rw[List.getElem?_take,pP (by omega),se]at hu;rw[q];rw[Array.getElem?_toList]at hu;show World.cell? w ⟨g,o+j,none⟩=some u;simp only[World.cell?,N];exact hu
   have K:Src P i.size t (.slice (some ⟨b,v,none⟩) m cx) m news w:=Src.ofSlice w S ⟨b,v,none⟩ m cx news (by rw[d];omega) l h1;have F:=growslice_fits (need:=n+m) (old:=c) (bytes:=bytes) (by omega) x;have J:=run_append_grow_src (P:=P) w t t ty e i z S X hz a n c xs H (.slice (some ⟨b,v,none⟩) m cx) m news K (by omega) (by unfold maxLen at h63;omega) (by rw[O];exact F)
   refine⟨_,_,_,J,⟨by simp[G,f],grownCap_ge w _ _ _,grownCap_le_maxLen w _ _ _ h63,Or.inr ⟨w.heap.size,0,(xs ++ news).toArray ++ Builtin.zeroCells z.cells (grownCap w (n+m) c e-(n+m)),rfl,y,?_,?_,?_⟩⟩,?_,Or.inr rfl⟩
   · exact wK w.drew _
   · have:=grownCap_ge w (n+m) c e;simp[size_zeroCells,T,G,f];omega
   · simp only[qN,Array.toList_append];rw[List.take_append_of_le_length (by simp[G,f]),pu (by simp[G,f])]
   · refine⟨rfl,rfl,rfl,by simp,fun k hk _ => ?_⟩;exact Below.heap_alloc w.drew _ k hk
theorem kz{s:Operand}(q:o.guard=none)
 (D:o.op = .call { callee := .builtin .append,args:=#[s,x],argTypes:=#[t,t] })
 {e:TypeId} {z:Value} {bytes base:Nat} {a:Option Addr} {n c:Nat} {xs:List Value} {A:Option Addr} {m B:Nat} {news:List Value}
 (F:P.underlying t=some (.slice e)) (g:Ca P e z bytes) (y:z.cells.size=1) (E:f.eval s = .slice a n c) (j:ZD w base e a n c xs) (G:f.eval x = .slice A m B) (v:Sl w A m B news)
 (h1:∀ u∈news,u.oneCell'=true) (h63:n+m<=maxLen) (b:(n+m)*bytes<=140737488355328) (d:base<=w.heap.size) (r:0<m)
 (h:∀ i p l,ZD l base e i (n+m) p (xs ++ news)->w.grownBy l (blk a)->(blk i=blk a\/blk i=some w.heap.size)->wpList P ops Q rest (f.put o.dst (.slice i (n+m) p)) l) :
 wpList P ops Q (o :: rest) f w:=by
 refine qT q fun K C => ?_;obtain⟨i,p,l,k,h2,h3,h4⟩:=jO (P:=P) (ty:=o.type) F g y j v h1 h63 b d r;unfold Oper.wp execOp;simp only[D,resolve,invoke,builtin,q8,qz,pK,sM,qP,sS,E,G,k];exact C _ _ (h i p l h2 h3 h4)
end
theorem ZF:Agg prog 132 6:=⟨by kernel_rfl,by kernel_rfl⟩
theorem Q3:GG prog 132 3:=⟨by kernel_rfl,by kernel_rfl,by kernel_rfl⟩
theorem ZB(s:SlI w a n c xs)(h6:n<=6) :
 Calls prog 105 #[.slice a n c] w fun e x=>e = .returned (BI (AY xs))/\Ext w x:=by
 have r:=s.len;have j:=lz r;clear r
 go_enter func105,ntmps105
 go_upto_region 2 with(fail)
 have hA0:Arr ((w.alloc (.cells G2.toArray 132)).alloc (.cells G2.toArray 132)) w.heap.size 132 G2:=(Arr.new w _ G2).alloc _;have hA1:Arr ((w.alloc (.cells G2.toArray 132)).alloc (.cells G2.toArray 132)) (w.heap.size+1) 132 G2:=by
  have:=Arr.new (w.alloc (.cells G2.toArray 132)) 132 G2;simpa using this
 have q:Ext w ((w.alloc (.cells G2.toArray 132)).alloc (.cells G2.toArray 132)):=((Ext.refl w).alloc _).alloc _;change Code.wp _ _ _ _ ((w.alloc (.cells G2.toArray 132)).alloc (.cells G2.toArray 132));generalize ((w.alloc (.cells G2.toArray 132)).alloc (.cells G2.toArray 132))=y at *
 have t:Hid (G2.take 0 ++ xs.map (Value.int .i64) ++ G2.drop (0+n)=(AY xs).map (Value.int .i64)):=by
  have e:xs.length=n:=j.out;show _=_;rw[rf,qR,qA];unfold AY G2;rw[qw,tV,List.drop_replicate,e]
 have b:Agg prog 132 ((AY xs).map (Value.int .i64)).length:=by
  rw[pH,D0 (by rw[j.out];exact h6)];exact ZF
 have i:G2.length=((AY xs).map (Value.int .i64)).length:=by
  rw[pH,D0 (by rw[j.out];exact h6)];rfl
 have l:=lz i;clear i
 go_wp2_with(first
  | (refine LF (sT:=24) rfl rfl underlying24 Pt rfl rfl hA1 (s.ext q) (by omega) (by simp[G2];omega) (Cc _) ?_;intro z f g;rw[t.out]at f;have d:=hA0.kept g (by simp))
  | (refine Ev rfl rfl b rfl f ?_)
  | (refine Aa rfl rfl rfl rfl rfl b d l.out (Cc _) ?_;intro A m o))
 refine py (v:=BI (AY xs)) ?_ rfl ⟨rfl,(q.grown g ?_).grown o ?_⟩
 · exact Ap rfl b rfl m
 · intro k p;simp at p;omega
 · intro k p;simp at p;omega
def mv6(a m:List Int)(k:Nat):List Int:=AY (aQ a m k)
theorem kA{a m:List Int}(hp:G1 a=true)(c:m.length=a.length)(b:k<a.length):(mv6 a m k).set (a.getD k 0).toNat (m.getD k 0)=mv6 a m (k+1):=by
 have h0:=Zm hp b;unfold mv6 AY;rw[show aQ a m (k+1)=(aQ a m k).set (a.getD k 0).toNat (m.getD k 0) from rfl,ve,List.set_append_left _ _ (by rw[ZA];omega)]
theorem jP{a m:List Int}(h:m.length<=6):(mv6 a m 0).map (Value.int .i64)=G2:=by
 unfold mv6 AY G2 aQ;rw[List.length_replicate,List.replicate_append_replicate,tV,Nat.add_sub_cancel' h]
theorem fB{a m:List Int}(h:m.length<=6):(mv6 a m k).length=6:=D0 (by rw[ZA];exact h)
theorem jb(h:i<l.length):(l.map (Value.int .i64)).getD i undef = .int .i64 (l.getD i 0):=by
 simp[h]
theorem MD(h:i<l.length):(AY l).getD i 0=l.getD i 0:=by
 unfold AY;simp[pO h]
theorem aL{m:List Int}(t:SlI w a n c xs)(F:G1 xs=true)(I:m.length=n) :
 Calls prog 104 #[.slice a n c,BI (AY m)] w fun e N=>e = .returned (BI (AY (mvd xs m)))/\Ext w N:=by
 have l:=lz t.len;have h6:n<=6:=by have:=(G3 F).1;have h:=l.out;omega
 go_enter func104,ntmps104
 go_upto_region 2 with(fail)
 have s:(AY m).length=6:=D0 (by omega);have C:(((w.alloc (.cells ((AY m).map (Value.int .i64)).toArray 132)).alloc (.cells G2.toArray 132)).alloc (.cells G2.toArray 132)).heap.size=w.heap.size+3:=by simp
 have o:Arr (((w.alloc (.cells ((AY m).map (Value.int .i64)).toArray 132)).alloc (.cells G2.toArray 132)).alloc (.cells G2.toArray 132)) w.heap.size 132 ((AY m).map (Value.int .i64)):=((Arr.new w _ _).alloc _).alloc _;have p:Arr (((w.alloc (.cells ((AY m).map (Value.int .i64)).toArray 132)).alloc (.cells G2.toArray 132)).alloc (.cells G2.toArray 132)) (w.heap.size+1) 132 G2:=by
  have:=(Arr.new (w.alloc (.cells ((AY m).map (Value.int .i64)).toArray 132)) 132 G2).alloc (.cells G2.toArray 132);simpa using this
 have g:Arr (((w.alloc (.cells ((AY m).map (Value.int .i64)).toArray 132)).alloc (.cells G2.toArray 132)).alloc (.cells G2.toArray 132)) (w.heap.size+2) 132 G2:=by
  have:=Arr.new ((w.alloc (.cells ((AY m).map (Value.int .i64)).toArray 132)).alloc (.cells G2.toArray 132)) 132 G2;simpa using this
 have j:Ext w (((w.alloc (.cells ((AY m).map (Value.int .i64)).toArray 132)).alloc (.cells G2.toArray 132)).alloc (.cells G2.toArray 132)):=(((Ext.refl w).alloc _).alloc _).alloc _;change Code.wp _ _ _ _ (((w.alloc (.cells ((AY m).map (Value.int .i64)).toArray 132)).alloc (.cells G2.toArray 132)).alloc (.cells G2.toArray 132));generalize (((w.alloc (.cells ((AY m).map (Value.int .i64)).toArray 132)).alloc (.cells G2.toArray 132)).alloc (.cells G2.toArray 132))=T at *
 have d:=lz I;clear I;go_wp2
 go_loopw[10] (fun i wr=>∃ k:Nat,k<=n/\i = .int .i64 k/\Ext w wr/\Arr wr w.heap.size 132 ((AY m).map (Value.int .i64))/\Arr wr (w.heap.size+1) 132 G2/\Arr wr (w.heap.size+2) 132 ((mv6 xs m k).map (Value.int .i64))) (fun i _=>n-(intOf i).toNat)
 case atStart=>exact⟨0,pE _,rfl,j,o,p,by rw[jP (by rw[d.out];exact h6)];exact g⟩
 case round =>
  clear o p g j C;obtain⟨k,H,rfl,j,o,p,g⟩:=hrel;have t:=t.ext j;by_cases b:k<n
  · obtain⟨O,S,rfl,q⟩:=t.at b;have R:=q k b;have r:=Zm F (i:=k) (by have:=l.out;omega);rw[l.out]at r;have G:=kA (a:=xs) (m:=m) (k:=k) F (by rw[d.out,l.out]) (by rw[l.out];exact b);have K:=o.cell (i:=k) (by rw[pH,s];omega);rw[jb (by rw[s];omega),MD (by rw[d.out];exact b)]at K;generalize D:xs.getD k 0=y at *
    generalize E:m.getD k 0=z at *
    obtain⟨V,W⟩:=r;have P:=g.cell (i:=y.toNat) (by rw[pH,fB (by rw[d.out];exact h6)];omega);have Q:=g.frozen y.toNat
    have EK:=lz G;have L:(k:Int)<6:=by omega
    have M:y<6:=by omega
    clear q D E G;go_wp2;go_roundw
    case rel =>
     refine⟨k+1,by omega,by go_num,Ext.setCell j (by show _<=w.heap.size+2;omega) _,o.far (by show _≠w.heap.size+2;omega) _,p.far (by show _≠w.heap.size+2;omega) _,?_⟩;have:=g.set y.toNat (.int .i64 z);rw[<-tU,EK.out]at this;exact this
    case measure=>simp[intOf];omega
  · have e:k=n:=by omega
    have f:Agg prog 132 ((mv6 xs m k).map (Value.int .i64)).length:=by
     rw[pH,fB (by rw[d.out];exact h6)];exact ZF
    have x:Hid (G2.length=((mv6 xs m k).map (Value.int .i64)).length):=by
     show _=_;rw[pH,fB (by rw[d.out];exact h6)];rfl
    have J:Hid (AY (mvd xs m)=mv6 xs m k):=by
     show _=_;unfold mv6 mvd;rw[d.out,e]
    clear e
    go_wp2_with(first
     | (refine Ev rfl rfl f rfl g ?_)
     | (refine Aa rfl rfl rfl rfl rfl f p x.out (Cc _) ?_;intro U A B))
    rw[J.out];refine py (v:=BI (mv6 xs m k)) ?_ rfl ⟨rfl,j.grown B ?_⟩
    · exact Ap rfl f rfl A
    · intro k H;simp at H;omega
def C5:Int->List Int->Int
 | s,[]=>s
 | s,x :: t=>if x<0\/24-s<x then -1 else C5 (s+x) t
def Ds(xs:List Int):Int:=if 6<xs.length then -1 else C5 0 xs
theorem QY(b:k<xs.length)(h:C5 0 xs=C5 s (xs.drop k))(a:xs.getD k 0<0\/24-s<xs.getD k 0):C5 0 xs = -1:=by
 rw[h,qo b];simp only[gqq,oO b,pY]at a;simp only[C5];rw[pP a]
theorem Ob(b:k<xs.length)(h:C5 0 xs=C5 s (xs.drop k))(a:¬ (xs.getD k 0<0\/24-s<xs.getD k 0)):C5 0 xs=C5 (s+xs.getD k 0) (xs.drop (k+1)):=by
 rw[h,qo b];simp only[gqq,oO b,pY]at a |-;simp only[C5];rw[pC a]
theorem IF(l:SlI w a n c xs) :
 Calls prog 94 #[.slice a n c] w fun e D=>e = .returned (.int .i64 (Ds xs))/\w=D:=by
 have g:=lz l.len;have x:=l.le;by_cases h6:6<(n:Int)
 · have d:Hid (Ds xs = -1):=by
    show Ds xs = -1;unfold Ds;rw[pP (by rw[g.out];omega)]
   go_enter func94,ntmps94
   go_wp2;go_ret;exact⟨DF d.out,rfl⟩
 · have d:Hid (Ds xs=C5 0 xs):=by
    show Ds xs=_;unfold Ds;rw[pC (by rw[g.out];omega)]
   go_enter func94,ntmps94
   go_wp2
   go_loop[3,11] (fun v i=>∃ (s:Int) (k:Nat),v = .int .i64 s/\i = .int .i64 k/\k<=n/\0<=s/\s<=24/\Hid (C5 0 xs=C5 s (xs.drop k))) (fun _ i=>n-(intOf i).toNat)
   case atStart=>exact⟨0,0,rfl,rfl,pE _,by omega,by omega,lz rfl⟩
   case round =>
    obtain⟨s,k,rfl,rfl,G,z,A,j⟩:=hrel;by_cases b:k<n
    · obtain⟨E,I,rfl,p⟩:=l.at b;have F:=p k b;have f:k<xs.length:=by rw[g.out];exact b
      have o:=lz (QY f j.out);have r:=lz (Ob f j.out);generalize xs.getD k 0=y at *
      clear p;by_cases C:y<0
      · go_wp2;go_ret;exact⟨DF (by rw[d.out,o.out (Or.inl C)]),rfl⟩
      · have H:IntKind.i64.wrap (24-s)=24-s:=pq _ (by omega);by_cases m:24-s<y
        · go_wp2;go_ret;exact⟨DF (by rw[d.out,o.out (Or.inr m)]),rfl⟩
        · have B:IntKind.i64.wrap (s+y)=s+y:=pq _ (by omega);go_wp2;go_round
          case rel=>exact⟨s+y,k+1,by go_num,by go_num,by omega,by omega,by omega,lz (r.out (by omega))⟩
          case measure=>simp[intOf];omega
    · have t:xs.drop k=[]:=qm (by have:=g.out;omega);have q:Hid (Ds xs=s):=by
       show Ds xs=s;rw[d.out,j.out,t];rfl
      go_wp2;go_ret;exact⟨DF q.out,rfl⟩
def A3(xs:List Int):Bool:=decide (0<=Ds xs)
theorem E6(b:SlI w a n c xs) :
 Calls prog 68 #[.slice a n c] w fun e d=>e = .returned (.bool (A3 xs))/\w=d:=by
 go_enter func68,ntmps68
 go_wp2_with fail
 refine(IF b).mono ?_;rintro e f ⟨rfl,rfl⟩;go_wp2;go_ret;exact⟨rfl,rfl⟩
theorem Nj(l:SlI w a n c xs) :
 Calls prog 152 #[.slice a n c] w fun e D=>e = .returned (.int .i64 (Ds xs))/\w=D:=by
 have g:=lz l.len;have x:=l.le;by_cases h6:6<(n:Int)
 · have d:Hid (Ds xs = -1):=by
    show Ds xs = -1;unfold Ds;rw[pP (by rw[g.out];omega)]
   go_enter func152,ntmps152
   go_wp2;go_ret;exact⟨DF d.out,rfl⟩
 · have d:Hid (Ds xs=C5 0 xs):=by
    show Ds xs=_;unfold Ds;rw[pC (by rw[g.out];omega)]
   go_enter func152,ntmps152
   go_wp2
   go_loop[3,4] (fun v i=>∃ (s:Int) (k:Nat),v = .int .i64 s/\i = .int .i64 k/\k<=n/\0<=s/\s<=24/\Hid (C5 0 xs=C5 s (xs.drop k))) (fun _ i=>n-(intOf i).toNat)
   case atStart=>exact⟨0,0,rfl,rfl,pE _,by omega,by omega,lz rfl⟩
   case round =>
    obtain⟨s,k,rfl,rfl,G,z,A,j⟩:=hrel;by_cases b:k<n
    · obtain⟨E,I,rfl,p⟩:=l.at b;have F:=p k b;have f:k<xs.length:=by rw[g.out];exact b
      have o:=lz (QY f j.out);have r:=lz (Ob f j.out);generalize xs.getD k 0=y at *
      clear p;by_cases C:y<0
      · go_wp2;go_ret;exact⟨DF (by rw[d.out,o.out (Or.inl C)]),rfl⟩
      · have H:IntKind.i64.wrap (24-s)=24-s:=pq _ (by omega);by_cases m:24-s<y
        · go_wp2;go_ret;exact⟨DF (by rw[d.out,o.out (Or.inr m)]),rfl⟩
        · have B:IntKind.i64.wrap (s+y)=s+y:=pq _ (by omega);go_wp2;go_round
          case rel=>exact⟨s+y,k+1,by go_num,by go_num,by omega,by omega,by omega,lz (r.out (by omega))⟩
          case measure=>simp[intOf];omega
    · have t:xs.drop k=[]:=qm (by have:=g.out;omega);have q:Hid (Ds xs=s):=by
       show Ds xs=s;rw[d.out,j.out,t];rfl
      go_wp2;go_ret;exact⟨DF q.out,rfl⟩
theorem IT(b:SlI w a n c xs) :
 Calls prog 72 #[.slice a n c] w fun e g=>e = .returned (.bool (A3 xs))/\w=g:=by
 have f:=lz b.len;by_cases h6:(n:Int)<=6
 · go_enter func72,ntmps72
   go_wp2_with fail
   refine(Nj b).mono ?_;rintro e i ⟨rfl,rfl⟩;go_wp2;go_ret;exact⟨rfl,rfl⟩
 · have d:Hid (A3 xs=false):=by
    show A3 xs=false;unfold A3 Ds;rw[pP (by rw[f.out];omega)];rfl
   go_enter func72,ntmps72
   go_wp2;go_ret;exact⟨YJ d.out,rfl⟩
end Go.Proofs.YtlbmnokpiilfpaaGreatDoor
namespace Go.Proofs.YtlbmnokpiilfpaaGreatDoor.W
variable {A Bb P a f u1 u2 v1 v2 α β:Int} {l xs ys:List Nat} {B D U V W b c c' d2 g i k lo lo' q r s u w3 x y0 y1:Nat}
def val(B:Nat):List Nat->Nat
 | []=>0
 | x :: r=>x+B*val B r
def bnd(B:Nat)(xs:List Nat):Prop:=∀ x∈xs,x<B
def nrm(xs:List Nat):Prop:=∀ h:xs≠[],xs.getLast h≠0
theorem val_app(B:Nat):∀ a b:List Nat,val B (a ++ b)=val B a+B^a.length*val B b
 | [],b=>by simp[val]
 | x :: a,b=>by
  simp only[rX,val,val_app B a b,qk,qB]
  grind
theorem val_snoc(B:Nat)(xs:List Nat)(x:Nat):val B (xs ++ [x])=val B xs+B^xs.length*x:=by
 rw[val_app];simp[val]
theorem val_zeros(B:Nat):∀ n,val B (List.replicate n 0)=0
 | 0=>rfl
 | n+1=>by simp[vo,val,val_zeros B n]
theorem val_lt{B:Nat}:∀ {xs:List Nat},bnd B xs->val B xs<B^xs.length
 | [],_=>by simp[val]
 | x :: xs,h=>by
  have h1:x<B:=h x (by simp);have h2:=val_lt (xs:=xs) (fun y a=>h y (by simp[a]));simp only[val,qk,qB];have:B*(val B xs+1)<=B*B^xs.length:=qp _ h2
  grind
theorem val_set{B:Nat}:∀ {xs:List Nat} {i:Nat} {v:Nat},i<xs.length->val B (xs.set i v)+B^i*xs.getD i 0=val B xs+B^i*v
 | [],_,_,h=>by simp at h
 | x :: xs,0,v,_=>by simp[val];omega
 | x :: xs,i+1,v,h=>by
  have:=val_set (B:=B) (xs:=xs) (i:=i) (v:=v) (by simpa using h);simp only[vD,val,vO,qB]
  grind
theorem bnd_set(h:bnd B xs){i v:Nat}(a:v<B):bnd B (xs.set i v):=by
 intro x b;rcases rE b with h1|h1
 · exact h x h1
 · rw[h1];exact a
theorem bnd_at(h:bnd B xs){i:Nat}(hi:i<xs.length):xs.getD i 0<B:=by
 rw[gqq,oO hi];exact h _ (qG hi)
theorem bnd_app(h:bnd B xs)(k:bnd B ys):bnd B (xs ++ ys):=by
 intro x a;rcases qd.1 a with h1|h1
 · exact h x h1
 · exact k x h1
theorem bnd_take(h:bnd B xs)(n:Nat):bnd B (xs.take n):=fun x a=>h x (rF a)
theorem bnd_drop(h:bnd B xs)(n:Nat):bnd B (xs.drop n):=fun x a=>h x (tC a)
theorem val_take_succ(hi:i<xs.length):val B (xs.take (i+1))=val B (xs.take i)+B^i*xs.getD i 0:=by
 rw[pB hi,val_snoc,qg,rA (by omega),gqq,oO hi];rfl
theorem val_split(xs:List Nat)(n:Nat)(h:n<=xs.length):val B xs=val B (xs.take n)+B^n*val B (xs.drop n):=by
 conv=>lhs;rw[<-rB n xs]
 rw[val_app,qg,rA h]
def trimTo(xs:List Nat):Nat->List Nat
 | 0=>[]
 | n+1=>if xs.getD n 0=0 then trimTo xs n else xs.take (n+1)
def trim(xs:List Nat):List Nat:=trimTo xs xs.length
theorem JG{B:Nat}{xs:List Nat}:∀ {n:Nat},n<=xs.length->val B (trimTo xs n)=val B (xs.take n)
 | 0,_=>by simp[trimTo,val]
 | n+1,h=>by
  unfold trimTo;split
  · rename_i h0;rw[JG (by omega),val_take_succ (by omega),h0];simp
  · rfl
theorem trim_val(xs:List Nat):val B (trim xs)=val B xs:=by
 rw[trim,JG (lrf _),wl]
theorem JH{xs:List Nat}:∀ {n:Nat},n<=xs.length->nrm (trimTo xs n)
 | 0,_=>by intro h;simp[trimTo]at h
 | n+1,h=>by
  unfold trimTo;split
  · exact JH (by omega)
  · rename_i h0;intro hne;rw[sY];have hl:(xs.take (n+1)).length=n+1:=by rw[qg];omega
    simp only[hl,vW,List.getElem_take];simpa[oO (show n<xs.length by omega)]using h0
theorem trim_nrm(xs:List Nat):nrm (trim xs):=JH (lrf _)
theorem Ab{xs:List Nat}:∀ {n:Nat},n<=xs.length->∃ k,k<=n/\trimTo xs n=xs.take k
 | 0,_=>⟨0,lrf _,by simp[trimTo]⟩
 | n+1,h=>by
  unfold trimTo;split
  · obtain⟨k,h1,h2⟩:=Ab (xs:=xs) (n:=n) (by omega);exact⟨k,by omega,h2⟩
  · exact⟨n+1,lrf _,rfl⟩
theorem bnd_trim(h:bnd B xs):bnd B (trim xs):=by
 obtain⟨k,_,e⟩:=Ab (xs:=xs) (n:=xs.length) (lrf _);rw[trim,e];exact bnd_take h k
theorem nrm_pos(_hB:0<B){xs:List Nat}(h:nrm xs)(a:xs≠[]):B^(xs.length-1)<=val B xs:=by
 have e:xs=xs.dropLast ++ [xs.getLast a]:=(oS a).symm;have b:=h a;have h1:val B xs=val B xs.dropLast+B^(xs.length-1)*xs.getLast a:=by
  conv=>lhs;rw[e]
  rw[val_snoc,List.length_dropLast]
 have:B^(xs.length-1)*1<=B^(xs.length-1)*xs.getLast a:=qp _ (by omega);omega
theorem nrm_zero(b:0<B){xs:List Nat}(h:nrm xs):val B xs=0<->xs=[]:=by
 constructor
 · intro h0;refine pQ fun a => ?_;have:=nrm_pos b h a;have:=tw (n:=xs.length-1) b;omega
 · rintro rfl;rfl
theorem len_lt(d:1<B){xs ys:List Nat}(b:bnd B xs)(c:nrm ys)(h:xs.length<ys.length):val B xs<val B ys:=by
 have h1:=val_lt b;have a:ys≠[]:=by intro e;rw[e]at h;simp at h
 have h2:=nrm_pos (B:=B) (by omega) c a;have h3:B^xs.length<=B^(ys.length-1):=pR (by omega) (by omega);omega
theorem nrm_len(b:1<B){xs:List Nat}(h:nrm xs){n:Nat}(c:val B xs<B^n):xs.length<=n:=by
 rcases qx n xs.length with h1|h1
 · have a:xs≠[]:=by intro e;rw[e]at h1;simp at h1
   have h2:=nrm_pos (B:=B) (by omega) h a;have h3:B^n<=B^(xs.length-1):=pR (by omega) (by omega);omega
 · exact h1
theorem nrm_nil:nrm []:=fun h=>absurd rfl h
theorem nrm_single(h:x≠0):nrm [x]:=fun _=>h
section
variable {B:Nat}
theorem add_step(f:k<l.length)(g:k<ys.length)(h:val B l+c*B^k=V+val B (ys.take k))(e:s+B*c'=l.getD k 0+ys.getD k 0+c) :
 val B (l.set k s)+c'*B^(k+1)=V+val B (ys.take (k+1)):=by
 have h1:=val_set (B:=B) (xs:=l) (i:=k) (v:=s) f;have h2:=val_take_succ (B:=B) g;rw[h2,qB];generalize l.getD k 0=x at *
 generalize ys.getD k 0=y at *
 generalize val B (l.set k s)=a at *
 generalize val B l=b at *
 generalize val B (ys.take k)=d at *
 generalize B^k=p at *
 grind
theorem add_step0(d:k<l.length)(h:val B l+c*B^k=V)(e:s+B*c'=l.getD k 0+c) :
 val B (l.set k s)+c'*B^(k+1)=V:=by
 have h1:=val_set (B:=B) (xs:=l) (i:=k) (v:=s) d;rw[qB];generalize l.getD k 0=x at *
 generalize val B (l.set k s)=a at *
 generalize val B l=b at *
 generalize B^k=p at *
 grind
theorem sub_step(f:k<l.length)(g:k<ys.length)(h:val B l+val B (ys.take k)=V+c*B^k)(e:s+ys.getD k 0+c=l.getD k 0+B*c') :
 val B (l.set k s)+val B (ys.take (k+1))=V+c'*B^(k+1):=by
 have h1:=val_set (B:=B) (xs:=l) (i:=k) (v:=s) f;have h2:=val_take_succ (B:=B) g;rw[h2,qB];generalize l.getD k 0=x at *
 generalize ys.getD k 0=y at *
 generalize val B (l.set k s)=a at *
 generalize val B l=b at *
 generalize val B (ys.take k)=d at *
 generalize B^k=p at *
 grind
theorem sub_step0(d:k<l.length)(h:val B l=V+c*B^k)(e:s+c=l.getD k 0+B*c') :
 val B (l.set k s)=V+c'*B^(k+1):=by
 have h1:=val_set (B:=B) (xs:=l) (i:=k) (v:=s) d;rw[qB];generalize l.getD k 0=x at *
 generalize val B (l.set k s)=a at *
 generalize val B l=b at *
 generalize B^k=p at *
 grind
theorem digit_hi{P:Nat}(c:W=w3*P+lo)(a:lo<P)(b:D=d2*P+lo')(d:q*D<=W):q*d2<=w3:=by
 rcases qx w3 (q*d2)with h|h
 · exfalso;have h1:(w3+1)*P<=q*d2*P:=px _ h;have h2:q*(d2*P)<=q*D:=qp _ (by omega);have h3:q*(d2*P)=q*d2*P:=by rw[rT]
   have h4:(w3+1)*P=w3*P+P:=by rw[qJ];omega
   omega
 · exact h
theorem digit_lo{e P:Nat}(_hP:0<P)(d:W=w3*P+lo)(c:D=d2*P+lo')(b:lo' < P)(f:W<(q+1)*D)(he:e*d2<=w3)(a:q+1<=d2):e<=q+1:=by
 rcases qx (q+1) e with h|h
 · exfalso;have h1:(q+2)*d2<=e*d2:=px _ h;have h2:(q+2)*d2*P<=w3*P:=px _ (by omega);have h3:(q+1)*D<=(q+1)*(d2*P+P):=qp _ (by omega);have h4:(q+1)*(d2*P+P)=(q+1)*d2*P+(q+1)*P:=by grind
   have h5:(q+2)*d2*P=(q+1)*d2*P+d2*P:=by grind
   have h6:(q+1)*P<=d2*P:=px _ a;omega
 · exact h
end
structure Leh(a b A Bb P α β:Int)(f g u1 u2 v1 v2 s:Int):Prop where
 ha:a=A*P+α
 hb:b=Bb*P+β
 a0:0<=α
 a1:α<P
 b0:0<=β
 b1:β<P
 sg:s=1\/s = -1
 f0:0<=f
 g0:0<=g
 gf:g<=f
 ef:f=s*(u1*A-v1*Bb)
 eg:g = -(s*(u2*A-v2*Bb))
 sv:v2*f+v1*g=A
 su:u2*f+u1*g=Bb
 u1n:0<=u1
 u2n:0<=u2
 v1n:0<=v1
 v2p:1<=v2
 uv:u2<=v2
 vv:v1<=v2
theorem Leh.start{b:Int}(i:a=A*P+α)(j:b=Bb*P+β)(d:0<=α)(e:α<P)(b0:0<=β)(f:β<P)(g:0<=Bb)(c:Bb<=A):Leh a b A Bb P α β A Bb 1 0 0 1 1 :=
 ⟨i,j,d,e,b0,f,Or.inl rfl,by omega,g,c,by simp,by simp,by simp,by simp,by omega,by omega,by omega,by omega,by omega,by omega⟩
theorem Leh.sec{b g s:Int}(h:Leh a b A Bb P α β f g u1 u2 v1 v2 s)(m:v2<=g):0 <= -(s*(u2*a-v2*b)):=by
 obtain⟨k,l,d,p,i,q,sg,_,_,_,_,j,_,_,_,c,_,o,n,_⟩:=h;have e : -(s*(u2*a-v2*b))=g*P-s*(u2*α-v2*β):=by rw[k,l,j];grind
 have r:u2*α<=v2*(P-1):=oM (sJ n d) (rY (by omega) (by omega));have v:v2*β<=v2*(P-1):=rY (by omega) (by omega);have w:0<=u2*α:=tX c d;have B:0<=v2*β:=tX (by omega) i;have C:v2*P<=g*P:=sJ m (by omega);have D:v2*(P-1)=v2*P-v2:=by grind
 rw[e];generalize u2 * α=x at *
 generalize v2 * β=y at *
 generalize v2 * P=z at *
 generalize g * P=t at *
 rcases sg with rfl|rfl <;> omega
theorem Leh.gap{b g s:Int}(h:Leh a b A Bb P α β f g u1 u2 v1 v2 s)(q:v1+v2<=f-g)(hu:u1<=v1\/(u1=1/\v1=0/\u2=0/\s=1)) : -(s*(u2*a-v2*b))<s*(u1*a-v1*b):=by
 obtain⟨k,l,c,B,j,C,sg,_,_,_,o,p,_,_,d,e,i,w,v,O⟩:=h;have m : -(s*(u2*a-v2*b))=g*P-s*(u2*α-v2*β):=by rw[k,l,p];grind
 have n:s*(u1*a-v1*b)=f*P+s*(u1*α-v1*β):=by rw[k,l,o];grind
 have D:(v1+v2)*P<=(f-g)*P:=sJ q (by omega);have E:(v1+v2)*P=v1*P+v2*P:=by grind
 have F:(f-g)*P=f*P-g*P:=by grind
 have G:0<=u2*α:=tX e c;have H:0<=v2*β:=tX (by omega) j;have I:0<=u1*α:=tX d c;have J:0<=v1*β:=tX i j;have K:v2*β<=v2*(P-1):=rY (by omega) (by omega);have L:v1*β<=v1*(P-1):=rY (by omega) (by omega);have M:u2*α<=v2*(P-1):=oM (sJ v c) (rY (by omega) (by omega));have Q:v2*(P-1)=v2*P-v2:=by grind
 have R:v1*(P-1)=v1*P-v1:=by grind
 rw[m,n];rcases hu with hu|⟨rfl,rfl,rfl,rfl⟩
 · have N:u1*α<=v1*(P-1):=oM (sJ hu c) (rY (by omega) (by omega));generalize u2 * α=x at *
   generalize v2 * β=y at *
   generalize u1 * α=S at *
   generalize v1 * β=T at *
   generalize v2 * P=z at *
   generalize v1 * P=U at *
   generalize g * P=t at *
   generalize f * P=r at *
   rcases sg with rfl|rfl <;> omega
 · simp at *
   generalize v2 * β=y at *
   generalize v2 * P=z at *
   generalize g * P=t at *
   generalize f * P=r at *
   omega
theorem Leh.step{b g s q r:Int}(h:Leh a b A Bb P α β f g u1 u2 v1 v2 s)(D:f=q*g+r)(r0:0<=r)(H:r<g)(p:1<=q)(hu:u1<=v1\/(u1=1/\v1=0/\u2=0/\s=1)):Leh a b A Bb P α β g r u2 (u1+q*u2) v2 (v1+q*v2) (-s):=by
 obtain⟨n,o,e,i,j,k,sg,B,m,C,l,d,v,t,w,c,y,z,x,I⟩:=h;have E:0<=q*u2:=tX (by omega) c;have F:v2<=q*v2:=by
  have:=sJ p (show 0<=v2 by omega);omega
 have G:q*u2<=q*v2:=rY x (by omega);refine⟨n,o,e,i,j,k,by rcases sg with rfl | rfl <;> simp,m,r0,by omega,by rw[d];grind,?_,?_,?_,c,by omega,by omega,by omega,?_,by omega⟩
 · have:r=f-q*g:=by omega
   rw[this,l,d];grind
 · have:r=f-q*g:=by omega
   rw[this,<-v];grind
 · have:r=f-q*g:=by omega
   rw[this,<-t];grind
 · rcases hu with hu|⟨rfl,rfl,rfl,_⟩
   · omega
   · simp;omega
theorem guess_le(h1:b<=2*y1)(h0:y0<b)(a:U<y1*b+y0):U/y1<=b+1:=by
 rcases qx (b+1) (U/y1)with h|h
 · exfalso;have h2:(b+2)*y1<=U/y1*y1:=px _ h;have h3:U/y1*y1<=U:=oA _ _;have h4:(b+2)*y1=y1*b+2*y1:=by grind
   omega
 · exact h
theorem guess_hi(a:g*y1+r=U)(d:q*(y1*b+y0)<=U*b+u)(hu:u<b)(c:r<y1):q<=g:=by
 rcases qx g q with h|h
 · exfalso;have h1:(g+1)*(y1*b+y0)<=q*(y1*b+y0):=px _ h;have h2:(g+1)*(y1*b+y0)=g*y1*b+y1*b+(g+1)*y0:=by grind
   have h3:U*b=g*y1*b+r*b:=by rw[<-a];grind
   have h4:(r+1)*b<=y1*b:=px _ c;have h5:(r+1)*b=r*b+b:=by grind
   omega
 · exact h
theorem guess_down(c:g*y1+r=U)(e:q*(y1*b+y0)<=U*b+u)(d:q<b)(a:b<=g\/b*r+u<g*y0):q<g:=by
 rcases a with a|a
 · omega
 · rcases qx q g with h|h
   · exact h
   · exfalso;have h1:g*(y1*b+y0)<=q*(y1*b+y0):=px _ h;have h2:g*(y1*b+y0)=g*y1*b+g*y0:=by grind
     have h3:U*b=g*y1*b+r*b:=by rw[<-c];grind
     have h4:b*r=r*b:=pM _ _;omega
theorem guess_done(a:g*y1+r=U)(c:U*b+u<(q+1)*(y1*b+y0))(d:g*y0<=b*r+u):g<=q:=by
 rcases qx q g with h|h
 · exfalso;have h1:(q+1)*(y1*b+y0)<=g*(y1*b+y0):=px _ h;have h2:g*(y1*b+y0)=g*y1*b+g*y0:=by grind
   have h3:U*b=g*y1*b+r*b:=by rw[<-a];grind
   have h4:b*r=r*b:=pM _ _;omega
 · exact h
theorem guess_over(c:b<=r)(a:g<=b)(h0:y0<b):g*y0<=b*r+u:=by
 have h1:g*y0<=b*y0:=px _ a;have h2:b*y0<=b*r:=qp _ (by omega);omega
theorem digit_lt{y:Nat}(a:U<y)(hu:u<b)(c:q*y<=U*b+u):q<b:=by
 rcases qx q b with h|h
 · exact h
 · exfalso;have h1:b*y<=q*y:=px _ h;have h2:(U+1)*b<=y*b:=px _ a;have h3:(U+1)*b=U*b+b:=by grind
   have h4:b*y=y*b:=pM _ _;omega
end Go.Proofs.YtlbmnokpiilfpaaGreatDoor.W
