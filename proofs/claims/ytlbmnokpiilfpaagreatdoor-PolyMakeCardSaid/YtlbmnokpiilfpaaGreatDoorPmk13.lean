/- Part Pmk13. -/
import Derived.Test.YtlbmnokpiilfpaaGreatDoorPmk12
import Derived.Test.YtlbmnokpiilfpaaGreatDoorPmk6
import Derived.Test.YtlbmnokpiilfpaaGreatDoorPmk11
set_option maxRecDepth 100000
set_option maxHeartbeats 100000000
namespace Go.Proofs.YtlbmnokpiilfpaaGreatDoor
open Tryz Go Go.RowKit
variable {s:Bool} {z:Int} {xs ys:List Nat} {l:List UInt8} {cs:List Value} {R base c c0 d g k m n n0 nc u wd:Nat} {o:Oper} {y:Operand} {a a' a0 b pa:Option Addr} {q:Rat} {T e ty:TypeId} {v v':Value} {w w' w1 w9 wb wr wx:World}
def ckS (T x n:Nat):List Nat:=(List.range n).map fun i=>x/T^i%T
theorem S4 {T x i:Nat} (h:i<n):(ckS T x n).getD i 0=x/T^i%T:=by simp [ckS,h]
theorem Qc (T x n:Nat):ckS T x n ++ [x/T^n%T]=ckS T x (n+1):=by simp [ckS,List.range_succ]
theorem Qd {x:Nat} (c:x<18446744073709551616^m) (b:10000000000000000000^k<=x):k<=2*m:=by
 refine Classical.byContradiction fun a => ?_;have h1:18446744073709551616^m<=10000000000000000000^(2*m):=by
  rw [Nat.pow_mul];exact Nat.pow_le_pow_left (by decide) m
 have h2:10000000000000000000^(2*m)<=10000000000000000000^k:=Nat.pow_le_pow_right (by omega) (by omega);omega
structure TU (w wr:World) (x:Nat) (ak:Option Addr) (nk ck:Nat) (ac:Option Addr) (nc cc:Nat) (ys:List Nat):Prop where
 ext:Ext w wr
 wk:Own wr w.heap.size 238 ak nk ck (ys.map (Bi .u64))
 ch:Own wr w.heap.size 238 ac nc cc ((ckS 10000000000000000000 x nc).map (Bi .u64))
 sep:∀ k,blk ac=some k->blk ak≠some k
 num:Num 18446744073709551616 ys (x/10000000000000000000^nc)
 top:nc=0\/10000000000000000000^(nc-1)<=x
def KpT (w wr:World) (a0 a:Option Addr):Prop:=w.heap.size<=wr.heap.size/\(blk a=blk a0\/∃ k,blk a=some k/\w.heap.size<=k)/\∀ k,k<w.heap.size->some k≠blk a0->wr.heap[k]?=w.heap[k]?
theorem KpT.of_ext (a:Option Addr) (h:Ext w wr):KpT w wr a a:=⟨h.size,Or.inl rfl,fun _ b _=>h.block b⟩
theorem KpT.ext (h:KpT w wr a0 a) (e:Ext wr wx):KpT w wx a0 a :=
 ⟨Nat.le_trans h.1 e.size,h.2.1,fun k c b=>(e.block (Nat.lt_of_lt_of_le c h.1)).trans (h.2.2 k c b)⟩
theorem KpT.far (h:KpT w wr a0 a) (c:wr.grownBy wx (some g)) (e:w.heap.size<=g):KpT w wx a0 a :=
 ⟨Nat.le_trans h.1 c.size,h.2.1,fun k d b=>(c.block k (Nat.lt_of_lt_of_le d h.1) (fun he=>by cases he; omega)).trans (h.2.2 k d b)⟩
theorem KpT.grown (h:KpT w wr a0 a) (d:wr.grownBy wx (blk a)) (b:blk a'=blk a\/blk a'=some wr.heap.size):KpT w wx a0 a':=by
 refine ⟨Nat.le_trans h.1 d.size, ?_,fun k e c=>(d.block k (Nat.lt_of_lt_of_le e h.1) (fun he => ?_)).trans (h.2.2 k e c)⟩
 · rcases b with b|b
   · rw [b]; exact h.2.1
   · exact Or.inr ⟨_,b,h.1⟩
 · rcases h.2.1 with h1|⟨j,h1,h2⟩
   · exact c (he.trans h1)
   · rw [h1] at he;cases he;omega
theorem KpT.trans {w g i:World} {c d e:Option Addr} (h:KpT w g c d) (b:KpT g i d e):KpT w i c e:=by
 refine ⟨Nat.le_trans h.1 b.1, ?_,fun k f a=>(b.2.2 k (Nat.lt_of_lt_of_le f h.1) (fun he => ?_)).trans (h.2.2 k f a)⟩
 · rcases b.2.1 with h1|⟨j,h1,h2⟩
   · rw [h1]; exact h.2.1
   · exact Or.inr ⟨j,h1,Nat.le_trans h.1 h2⟩
 · rcases h.2.1 with h1|⟨j,h1,h2⟩
   · exact a (he.trans h1)
   · rw [h1] at he;cases he;omega
def Qe (wb w:World) (a0:Option Addr) (l:List UInt8) (e:Ending) (w':World):Prop:=∃ a n c,e = .returned (.slice a n c)/\Own w' wb.heap.size 5 a n c (l.map AQ)/\Ext wb w'/\KpT w w' a0 a
theorem Qe.ap {e:Ending} (h:Qe wb w a0 l e w'):Ih wb l e w':=by
 obtain ⟨a,n,c,h1,h2,h3,_⟩:=h;exact ⟨a,n,c,h1,h2,h3⟩
def cpT (x wd nc k:Nat):List UInt8:=if k=nc then [] else W.padD (wd-19*k) (x/10000000000000000000^k)
theorem Kn (x wd a:Nat):cpT x wd a a=[]:=if_pos rfl
structure RG (wb w0 wr:World) (a0:Option Addr) (x wd nc G:Nat) (l:List UInt8) (ac:Option Addr) (cc n0 k:Nat) (a:Option Addr) (n c:Nat):Prop where
 ext:Ext wb wr
 tx:Own wr wb.heap.size 5 a n c ((l ++ cpT x wd nc k).map AQ)
 ch:Own wr wb.heap.size 238 ac nc cc ((ckS 10000000000000000000 x nc).map (Bi .u64))
 buf:∃ cs,Arr wr G 337 cs/\cs.length=20
 sep1:∀ k,blk ac=some k->blk a≠some k/\k≠G
 sep2:blk a≠some G
 gb:wb.heap.size<=G
 gw:w0.heap.size<=G
 kp:KpT w0 wr a0 a
 len:n<=n0+(if k=nc then 0 else wd)+20*(nc-k)
theorem RH {x:Nat} (d:k+1<nc) (c:nc=0\/10000000000000000000^(nc-1)<=x) (hu:x/10000000000000000000^k%10000000000000000000=u) :
 cpT x wd nc (k+1) ++ List.replicate (19-(Lib.decDigits u).length) 48 ++ Lib.decDigits u=cpT x wd nc k:=by
 have a:u<10^19:=by rw [<-hu]; exact Nat.mod_lt _ (by decide)
 have b:0<x/10000000000000000000^(k+1):=by
  refine Nat.div_pos ?_ (Nat.pow_pos (by omega));rcases c with h|h
  · omega
  · exact Nat.le_trans (Nat.pow_le_pow_right (by omega) (by omega)) h
 have he:x/10000000000000000000^k=x/10000000000000000000^(k+1)*10^19+u:=by
  rw [Nat.pow_succ,<-Nat.div_div_eq_div_mul,<-hu];have:=Nat.div_add_mod (x/10000000000000000000^k) 10000000000000000000;rw [Nat.mul_comm] at this;exact this.symm
 unfold cpT;have hp:W.padD 19 u=List.replicate (19-(Lib.decDigits u).length) 48 ++ Lib.decDigits u:=W.padD_dec (by omega);rw [if_neg (by omega),if_neg (by omega),he,W.padD_split b a (by omega),hp,List.append_assoc];have e:wd-19*(k+1)=wd-19*k-19:=by omega
 rw [e]
theorem Qf {x:Nat} (b:x<10000000000000000000^(k+1)) (a:k+1=0\/10000000000000000000^(k+1-1)<=x) (hu:x/10000000000000000000^k%10000000000000000000=u) :
 List.replicate (wd-19*k-(Lib.decDigits u).length) 48 ++ Lib.decDigits u=cpT x wd (k+1) k:=by
 have h1:x/10000000000000000000^k<10000000000000000000:=by
  rw [Nat.div_lt_iff_lt_mul (Nat.pow_pos (by omega)),Nat.mul_comm,<-Nat.pow_succ];exact b
 have h2:0<x/10000000000000000000^k:=by
  refine Nat.div_pos ?_ (Nat.pow_pos (by omega));rcases a with h|h
  · omega
  · exact h
 rw [Nat.mod_eq_of_lt h1] at hu;unfold cpT;rw [if_neg (by omega),hu,W.padD_pos (by omega)]
theorem S5 {x:Nat} (h:nc≠0):cpT x wd nc 0=W.padD wd x:=by
 unfold cpT;rw [if_neg (by omega),Nat.pow_zero,Nat.div_one,Nat.mul_zero,Nat.sub_zero]
structure O9 (wb w0 wr:World) (a0:Option Addr) (nc G gc cc u n0:Nat) (cs:List Nat) (t:List UInt8) (a:Option Addr) (n c:Nat):Prop where
 ext:Ext wb wr
 tx:Own wr wb.heap.size 5 a n c (t.map AQ)
 ch:Av .u64 wr wb.heap.size 238 gc nc cc cs
 buf:∃ bs,Arr wr G 337 bs/\bs.length=20/\bs.take (Lib.decDigits u).length=(Lib.decDigits u).map AQ
 sep1:blk a≠some gc
 sep2:blk a≠some G
 len:n<=n0
 kp:KpT w0 wr a0 a
theorem MP (b:AR w) (a:Arr w g T cs) (c:cs.length=20) (hu:u<18446744073709551616) :
 Calls prog 283 #[.slice (some ⟨g,0,none⟩) 0 20, .int .u64 u, .int .i64 10] w (S2 w g T u):=by
 have h:=qh (O8 (l:=[]) (n:=0) b a c rfl (by omega) rfl hu)
 go_enter func283,ntmps283
 go_wp2_with fail
 refine h.out.mono ?_;rintro e d ⟨rfl,h1,h2⟩;go_wp2;go_ret;exact ⟨rfl,h1,h2⟩
theorem Ko {v:Nat} (h:Own w base e a n c (ys.map (Bi .u64))) (d:Num 18446744073709551616 ys v):n=0<->v=0:=by
 have b:ys.length=n:=by have:=h.len; simpa using this
 constructor
 · intro h0;subst h0;have:ys=[]:=List.eq_nil_of_length_eq_zero b;subst this;exact d.val.symm
 · intro h0;have h1:=(W.nrm_zero (B:=18446744073709551616) (by omega) d.nrm).1 (by rw [d.val,h0]);rw [h1] at b;exact b.symm
theorem Gp {x:Nat} (hT:AR wb) (hE:Ext wb w) (hO:Own w wb.heap.size 5 a n c (l.map AQ)) (hx:SlN .u64 w b m d xs) (ao:Num 18446744073709551616 xs x) (hm:m<=1000) (hn:n<=1000000) (bB:wd<=1000000) :
 Calls prog 311 #[.slice a n c, .slice b m d, .int .i64 wd] w (Qe wb w a (l ++ W.padD wd x)):=by
 have aP:x<18446744073709551616^m:=by
  have:=W.val_lt ao.bnd;rw [ao.val,hx.len] at this;exact this
 have aI:=qh aP;have bo:=qh ao;have be:=qh (B8 hx (by omega));clear aP
 go_enter func311,ntmps311
 go_wp2_with fail
 refine be.out.mono ?_;rintro e w1 ⟨ak,ck,rfl,b3,bi⟩;go_wp2
 go_loopw [7,8] (fun kv cv wr=>∃ (ak:Option Addr) (nk ck:Nat) (ac:Option Addr) (f S:Nat) (ys:List Nat),kv = .slice ak nk ck/\cv = .slice ac f S/\nk<=m/\TU w wr x ak nk ck ac f S ys) (fun _ cv _=>match cv with | .slice _ k _=>2*m+1-k | _=>0)
 case atStart=>exact ⟨ak,m,ck,none,0,0,xs,rfl,rfl,lrf _,b3,bi,Own.nil _ _ _,(by intro k h; cases h),(by rw [Nat.pow_zero,Nat.div_one]; exact ao),Or.inl rfl⟩
 case round =>
  obtain ⟨ak,nk,ck,ac,f,S,ys,rfl,rfl,bw,HS⟩:=hrel;have HY:Hid (ys.length=nk):=qh (by have:=HS.wk.len; simpa using this);have HZ:=qh (Ko HS.wk HS.num);by_cases h0:nk=0
  · subst h0;have an:=HZ.out.1 rfl;have U:=HS.ext;have au:=HS.ch;have aq:=qh HS.top;have aG:Hid (x<10000000000000000000^f):=qh ((Nat.div_eq_zero_iff_lt (Nat.pow_pos (by omega))).1 an);have br:f<=2*m+1:=by
     rcases aq.out with h|h
     · omega
     · have:=Qd aI.out h;omega
    clear HS an HZ HY;go_wp2;obtain ⟨G,hG⟩:∃ G:Nat,G=wr.heap.size:=⟨_,rfl⟩;have aK:Ext wb (wr.alloc (.cells #[.int .u8 0, .int .u8 0, .int .u8 0, .int .u8 0, .int .u8 0, .int .u8 0, .int .u8 0, .int .u8 0, .int .u8 0, .int .u8 0, .int .u8 0, .int .u8 0, .int .u8 0, .int .u8 0, .int .u8 0, .int .u8 0, .int .u8 0, .int .u8 0, .int .u8 0, .int .u8 0] 337)):=(hE.trans U).alloc _
    have aJ:RG wb w (wr.alloc (.cells #[.int .u8 0, .int .u8 0, .int .u8 0, .int .u8 0, .int .u8 0, .int .u8 0, .int .u8 0, .int .u8 0, .int .u8 0, .int .u8 0, .int .u8 0, .int .u8 0, .int .u8 0, .int .u8 0, .int .u8 0, .int .u8 0, .int .u8 0, .int .u8 0, .int .u8 0, .int .u8 0] 337)) a x wd f G l ac S n f a n c:=by
     have bx:=(hE.trans U).size;refine ⟨aK, ?_,(au.mono hE.size).alloc _,⟨_,by rw [hG]; exact Arr.new wr _ [_,_,_,_,_,_,_,_,_,_,_,_,_,_,_,_,_,_,_,_],rfl⟩, ?_, ?_,by omega,by have:=U.size; omega,KpT.of_ext a (U.alloc _),by rw [if_pos rfl]; omega⟩
     · rw [Kn,List.append_nil];exact (hO.ext U).alloc _
     · intro k O;have h1:=au.lt O;refine ⟨fun he => ?_,by omega⟩;have h2:=hO.lt he;omega
     · intro he;have h2:=(hO.ext U).lt he;omega
    have F:=qh aJ;clear aJ aK au;have HW:=qh U.size;rw [<-hG];clear hG U
    go_loopw [0,12,13] (fun tv fv iv p=>∃ (k:Nat) (R:Option Addr) (nt ct:Nat),tv = .slice R nt ct/\fv = .bool (decide (k=f))/\iv = .int .i64 ((k:Int)-1)/\k<=f/\Hid (RG wb w p a x wd f G l ac S n k R nt ct)) (fun _ _ v _=>(intOf v+1).toNat)
    case atStart=>exact ⟨f,a,n,c,rfl,by simp,rfl,lrf _,F⟩
    case round =>
     clear F;obtain ⟨k,R,nt,ct,rfl,rfl,rfl,O,F⟩:=hrel;cases k with
     | zero =>
      by_cases aO:f=0
      · subst aO;have bm:x=0:=by
         have:=aG.out;rw [Nat.pow_zero] at this;omega
        have b2:=qh bm;go_wp2
        go_loopw [0,82] (fun tv jv p=>∃ (j:Nat) (a4:Option Addr) (N c4:Nat),tv = .slice a4 N c4/\jv = .int .i64 j/\j<=wd/\N<=n+j+wd/\Ext wb p/\KpT w p a a4/\Own p wb.heap.size 5 a4 N c4 ((l ++ List.replicate j 48).map AQ)) (fun _ jv _=>wd-(intOf jv).toNat)
        case atStart=>exact ⟨0,R,nt,ct,rfl,rfl,Nat.zero_le _,by have:=F.out.len; rw [if_pos rfl] at this; omega,F.out.ext,F.out.kp,by have:=F.out.tx; rw [Kn] at this; exact this⟩
        case round =>
         clear F;obtain ⟨j,a4,N,c4,rfl,rfl,hj,bu,z,aL,J⟩:=hrel;by_cases aN:j<wd
         · have C:∀ k,blk a4=some k->wb.heap.size<=k:=fun k O=>(J.lt O).1;have hA:=J.alloc (.cells #[.int .u8 48] 5);have a9:=(Az wr wb.heap.size 5 #[.int .u8 48] 1 rfl z.size (by omega)).sl
           go_wp2_with (refine Bj rfl rfl underlying228 CE rfl rfl hA rfl a9 (by simp [Value.oneCell']) (by unfold maxLen; omega) (by omega) (by simp; have:=z.size; omega) ?_; intro V X w7 K o s)
           have b6:Ext wb w7:=(z.alloc _).grown o C;have b8:=(aL.ext ((Ext.refl _).alloc (.cells #[.int .u8 48] 5))).grown o s;have b9:Own w7 wb.heap.size 5 V (N+1) X ((l ++ List.replicate (j+1) 48).map AQ):=by
            rw [List.replicate_succ',<-List.append_assoc,List.map_append];exact K
           go_roundw
           case rel=>exact ⟨j+1,V,N+1,X,rfl,by go_num,by omega,by omega,b6,b8,b9⟩
           case measure=>simp [intOf]; omega
         · have ai:j=wd:=by omega
           subst ai;go_wp2;go_ret;exact ⟨a4,N,c4,rfl,by rw [b2.out,W.padD_zero]; exact J,z,aL⟩
      · have ae:decide (0=f)=false:=by simp; omega
        have aZ:=qh aO;rw [ae];go_wp2;go_ret;exact ⟨R,nt,ct,rfl,by rw [<-S5 aZ.out]; exact F.out.tx,F.out.ext,F.out.kp⟩
     | succ k =>
      have aA:((k+1:Nat):Int)-1=k:=by omega
      rw [aA];have E:=F.out;obtain ⟨H,rfl,bp,bq⟩:=E.ch.place (by omega);have ad:Av .u64 wr wb.heap.size 238 H f S (ckS 10000000000000000000 x f):=E.ch;have Y:=ad.cell (i:=k) (by omega);rw [S4 (by omega)] at Y;obtain ⟨u,hu⟩:∃ u,x/10000000000000000000^k%10000000000000000000=u:=⟨_,rfl⟩;rw [hu] at Y;have bA:u<10000000000000000000:=by rw [<-hu]; exact Nat.mod_lt _ (by omega)
      obtain ⟨bs,bd,bc⟩:=E.buf;have aD:=fun (p:World) (h:Ext wr p)=>qh (MP ((hT.ext E.ext).ext h) (bd.ext h) bc (u:=u) (by omega));have ag:=E.ext;have am:=E.tx;have aW:=E.sep1;have Q:=E.sep2;have ax:=E.gb;have af:=qh E.gw;have aj:=E.kp;have al:=E.len
      have a1:∀ W,(Instr.sliceAt 337 (.pointer (some ⟨G,0,none⟩)) none (some (.int .i64 0)) none).run prog W = .ok (.slice (some ⟨G,0,none⟩) 0 20) W:=fun W=>by
       have bb:prog.arrayLen 337=20:=by kernel_rfl
       have h:=run_sliceAt_array_h (P:=prog) W 337 ⟨G,0,none⟩ (by simp [Program.arrayLen,Program.elem,underlying337]) .i64 0 (by omega) (by rw [bb]; omega);rw [h];go_simp
      clear E;have aF:=qh (W.dec_len (k:=19) (n:=u) (by omega) (by omega));have a2:=qh (aW H rfl);have aE:=qh ax;have HU:=qh hu;by_cases a0:k+1=f
      · have ae:decide (k+1=f)=true:=by simpa using a0
        rw [ae];go_wp2
        refine Ab (by kernel_rfl) (fun p=>Ext wr p)
         [he (.slice (some ⟨G,0,none⟩) 0 20),
 he (.slice (some ⟨H,0,none⟩) f S),
 he (.int .i64 k),
 he (.pointer (some ⟨H,(0+k),none⟩)),
 he (.int .u64 (u:Int))]
         (by kernel_rfl) (fun _ _ e h=>h.trans e) ((Ext.refl wr).drew) ⟨trivial,trivial,trivial,trivial,trivial,trivial⟩ ⟨?o0, ?o1, ?o2, ?o3, ?o4,trivial⟩ ?fin
        case o1 | o2=>exact omv
        case o0 =>
         refine An rfl fun ρ p A a6 h => ?_;have e0:ρ (.tmp 11)=(.pointer (some ⟨G,0,none⟩)):=h.1;have k0:p.cell? ⟨H,0+k,none⟩=some (.int .u64 (u:Int)):=by rw [Nat.zero_add]; exact A.cell Y
         have k1:=a1 p;have k2:=A.cell Y;go_simp
        case o3 =>
         refine An rfl fun ρ p A a6 h => ?_;have e0:ρ (.tmp 54)=(.slice (some ⟨H,0,none⟩) f S):=h.1;have e1:ρ (.tmp 55)=(.int .i64 k):=h.2.1;have k0:p.cell? ⟨H,0+k,none⟩=some (.int .u64 (u:Int)):=by rw [Nat.zero_add]; exact A.cell Y
         have k1:=a1 p;have k2:=A.cell Y;go_simp
         try (first | (intros; omega) | exact IntWalk.i64_in _ (by omega))
        case o4 =>
         refine An rfl fun ρ p A a6 h => ?_;have e0:ρ (.tmp 56)=(.pointer (some ⟨H,(0+k),none⟩)):=h.1;have k0:p.cell? ⟨H,0+k,none⟩=some (.int .u64 (u:Int)):=by rw [Nat.zero_add]; exact A.cell Y
         have k1:=a1 p;have k2:=A.cell Y;go_simp
        case fin =>
         intro p A;change wpList _ _ _ _ _ _;simp only [la,lb,ld,lz,Act.put,lq,ly,lx]
         go_wp2_with fail
         refine ((aD p A).out).mono ?_;rintro e w2 ⟨rfl,⟨w3,I,M⟩,ar,C,a3,ab⟩;have aa:O9 wb w w2 a f G H S u (n+20*(f-(k+1))+0) (ckS 10000000000000000000 x f) ((l ++ cpT x wd f (k+1)) ++ List.replicate 0 48) R nt ct:=⟨((ag.trans A).trans I).grown M (fun k O=>by cases O; exact ax),by rw [List.replicate_zero,List.append_nil]; exact ((am.ext A).ext I).kept M (Or.inr Q),((ad.ext A).ext I).kept M (fun h=>a2.out.2 (by cases h; rfl)),⟨ar,C,a3,ab⟩,a2.out.1,Q,by rw [if_pos a0] at al; omega,((aj.ext A).ext I).far M af.out⟩
         have a8:=qh aa;clear aa I M C a3 ab A ag am ad Y a1 Q al aj;obtain ⟨L,hL⟩:∃ L,(Lib.decDigits u).length=L:=⟨_,rfl⟩;have HL:=qh hL;have aS:L<=19:=by have:=aF.out; rw [hL] at this; exact this
         rw [hL];clear hL;obtain ⟨Z,hZ,ba⟩:∃ Z:Nat,max (L:Int) ((wd:Int)-19*(k:Int))-(L:Int)=Z/\Z=wd-19*k-L:=⟨wd-19*k-L,by rw [Int.max_def]; split <;> omega,rfl⟩;go_wp2
         try rw [hZ]
         go_loopw [0,71] (fun tv jv p=>∃ (j:Nat) (a4:Option Addr) (N c4:Nat),tv = .slice a4 N c4/\jv = .int .i64 j/\j<=Z/\Hid (O9 wb w p a f G H S u (n+20*(f-(k+1))+j) (ckS 10000000000000000000 x f) ((l ++ cpT x wd f (k+1)) ++ List.replicate j 48) a4 N c4)) (fun _ jv _=>Z-(intOf jv).toNat)
         case atStart=>exact ⟨0,R,nt,ct,rfl,rfl,Nat.zero_le _,a8⟩
         case round =>
          clear a8;obtain ⟨j,a4,N,c4,rfl,rfl,hj,t⟩:=hrel;have J:=t.out.tx;have z:=t.out.ext;have C:∀ k,blk a4=some k->wb.heap.size<=k:=fun k O=>(J.lt O).1;have aU:=t.out.ch.lt;obtain ⟨b4,T,D,a5⟩:=t.out.buf;have aM:=T.lt;have aV:=t.out.len;by_cases aN:j<Z
          · have hA:=J.alloc (.cells #[.int .u8 48] 5);have a9:=(Az wr wb.heap.size 5 #[.int .u8 48] 1 rfl z.size (by omega)).sl
            go_wp2_with (refine Bj rfl rfl underlying228 CE rfl rfl hA rfl a9 (by simp [Value.oneCell']) (by unfold maxLen; omega) (by omega) (by simp; have:=z.size; omega) ?_; intro V X w7 K o s)
            have HN:Hid (O9 wb w w7 a f G H S u (n+20*(f-(k+1))+(j+1)) (ckS 10000000000000000000 x f) ((l ++ cpT x wd f (k+1)) ++ List.replicate (j+1) 48) V (N+1) X):=by
             refine ⟨(z.alloc _).grown o C, ?_,(Own.alloc t.out.ch _).kept o (Or.inr fun h=>t.out.sep1 h.symm),⟨b4,(T.alloc _).kept o (fun h=>t.out.sep2 h.symm),D,a5⟩, ?_, ?_,by omega,(t.out.kp.ext ((Ext.refl _).alloc (.cells #[.int .u8 48] 5))).grown o s⟩
             · rw [List.replicate_succ',<-List.append_assoc,List.map_append];exact K
             · rcases s with h|h
               · rw [h]; exact t.out.sep1
               · rw [h]; simp; omega
             · rcases s with h|h
               · rw [h]; exact t.out.sep2
               · rw [h]; simp; omega
            go_roundw
            case rel=>exact ⟨j+1,V,N+1,X,rfl,by go_num,by omega,HN.out⟩
            case measure=>simp [intOf]; omega
          · have ai:j=Z:=by omega
            have az:Sl wr (some ⟨G,0,none⟩) L 20 ((Lib.decDigits u).map AQ):=by
             have h:=T.sl (k:=L) (by omega) (by rw [D]; unfold maxLen; omega);rw [D,<-HL.out,a5,HL.out] at h;exact h
            go_wp2_with (refine Bj rfl rfl underlying228 CE rfl rfl J rfl az (Gm _) (by unfold maxLen; omega) (by omega) z.size ?_; intro V X w7 K o s)
            have HN:Hid (RG wb w w7 a x wd f G l (some ⟨H,0,none⟩) S n k V (N+L) X):=by
             refine ⟨z.grown o C, ?_,t.out.ch.kept o (fun h=>t.out.sep1 h.symm),⟨b4,T.kept o (fun h=>t.out.sep2 h.symm),D⟩, ?_, ?_,aE.out,af.out,t.out.kp.grown o s,by rw [if_neg (by omega)]; omega⟩
             · have e:l ++ cpT x wd f k=l ++ cpT x wd f (k+1) ++ List.replicate j 48 ++ Lib.decDigits u:=by
                have h1:l ++ cpT x wd f k=l ++ cpT x wd (k+1) k:=by rw [a0]
                rw [h1,<-Qf (by rw [a0]; exact aG.out) (by rw [a0]; exact aq.out) HU.out,HL.out,<-ba,<-ai,a0,Kn];simp only [List.append_assoc,List.nil_append]
               rw [e,List.map_append];exact K
             · intro k O;cases O;refine ⟨?_,a2.out.2⟩;rcases s with h|h
               · rw [h]; exact t.out.sep1
               · rw [h]; simp; omega
             · rcases s with h|h
               · rw [h]; exact t.out.sep2
               · rw [h]; simp; omega
            have aw:decide (k=f)=false:=by simp; omega
            go_roundw
            case rel=>exact ⟨k,V,N+L,X,rfl,by rw [aw],rfl,by omega,HN.out⟩
            case measure=>simp [intOf]
      · have ae:decide (k+1=f)=false:=by simpa using a0
        rw [ae];go_wp2
        refine Ab (by kernel_rfl) (fun p=>Ext wr p)
         [he (.slice (some ⟨G,0,none⟩) 0 20),
 he (.slice (some ⟨H,0,none⟩) f S),
 he (.int .i64 k),
 he (.pointer (some ⟨H,(0+k),none⟩)),
 he (.int .u64 (u:Int))]
         (by kernel_rfl) (fun _ _ e h=>h.trans e) ((Ext.refl wr).drew) ⟨trivial,trivial,trivial,trivial,trivial,trivial⟩ ⟨?o0, ?o1, ?o2, ?o3, ?o4,trivial⟩ ?fin
        case o1 | o2=>exact omv
        case o0 =>
         refine An rfl fun ρ p A a6 h => ?_;have e0:ρ (.tmp 11)=(.pointer (some ⟨G,0,none⟩)):=h.1;have k0:p.cell? ⟨H,0+k,none⟩=some (.int .u64 (u:Int)):=by rw [Nat.zero_add]; exact A.cell Y
         have k1:=a1 p;have k2:=A.cell Y;go_simp
        case o3 =>
         refine An rfl fun ρ p A a6 h => ?_;have e0:ρ (.tmp 54)=(.slice (some ⟨H,0,none⟩) f S):=h.1;have e1:ρ (.tmp 55)=(.int .i64 k):=h.2.1;have k0:p.cell? ⟨H,0+k,none⟩=some (.int .u64 (u:Int)):=by rw [Nat.zero_add]; exact A.cell Y
         have k1:=a1 p;have k2:=A.cell Y;go_simp
         try (first | (intros; omega) | exact IntWalk.i64_in _ (by omega))
        case o4 =>
         refine An rfl fun ρ p A a6 h => ?_;have e0:ρ (.tmp 56)=(.pointer (some ⟨H,(0+k),none⟩)):=h.1;have k0:p.cell? ⟨H,0+k,none⟩=some (.int .u64 (u:Int)):=by rw [Nat.zero_add]; exact A.cell Y
         have k1:=a1 p;have k2:=A.cell Y;go_simp
        case fin =>
         intro p A;change wpList _ _ _ _ _ _;simp only [la,lb,ld,lz,Act.put,lq,ly,lx]
         go_wp2_with fail
         refine ((aD p A).out).mono ?_;rintro e w2 ⟨rfl,⟨w3,I,M⟩,ar,C,a3,ab⟩;have aa:O9 wb w w2 a f G H S u (n+wd+20*(f-(k+1))+0) (ckS 10000000000000000000 x f) ((l ++ cpT x wd f (k+1)) ++ List.replicate 0 48) R nt ct:=⟨((ag.trans A).trans I).grown M (fun k O=>by cases O; exact ax),by rw [List.replicate_zero,List.append_nil]; exact ((am.ext A).ext I).kept M (Or.inr Q),((ad.ext A).ext I).kept M (fun h=>a2.out.2 (by cases h; rfl)),⟨ar,C,a3,ab⟩,a2.out.1,Q,by rw [if_neg a0] at al; omega,((aj.ext A).ext I).far M af.out⟩
         have a8:=qh aa;clear aa I M C a3 ab A ag am ad Y a1 Q al aj;obtain ⟨L,hL⟩:∃ L,(Lib.decDigits u).length=L:=⟨_,rfl⟩;have HL:=qh hL;have aS:L<=19:=by have:=aF.out; rw [hL] at this; exact this
         rw [hL];clear hL;obtain ⟨Z,hZ⟩:∃ Z:Nat,(19:Int)-(L:Int)=Z:=⟨19-L,by omega⟩;go_wp2
         try rw [hZ]
         go_loopw [0,71] (fun tv jv p=>∃ (j:Nat) (a4:Option Addr) (N c4:Nat),tv = .slice a4 N c4/\jv = .int .i64 j/\j<=Z/\Hid (O9 wb w p a f G H S u (n+wd+20*(f-(k+1))+j) (ckS 10000000000000000000 x f) ((l ++ cpT x wd f (k+1)) ++ List.replicate j 48) a4 N c4)) (fun _ jv _=>Z-(intOf jv).toNat)
         case atStart=>exact ⟨0,R,nt,ct,rfl,rfl,Nat.zero_le _,a8⟩
         case round =>
          clear a8;obtain ⟨j,a4,N,c4,rfl,rfl,hj,t⟩:=hrel;have J:=t.out.tx;have z:=t.out.ext;have C:∀ k,blk a4=some k->wb.heap.size<=k:=fun k O=>(J.lt O).1;have aU:=t.out.ch.lt;obtain ⟨b4,T,D,a5⟩:=t.out.buf;have aM:=T.lt;have aV:=t.out.len;by_cases aN:j<Z
          · have hA:=J.alloc (.cells #[.int .u8 48] 5);have a9:=(Az wr wb.heap.size 5 #[.int .u8 48] 1 rfl z.size (by omega)).sl
            go_wp2_with (refine Bj rfl rfl underlying228 CE rfl rfl hA rfl a9 (by simp [Value.oneCell']) (by unfold maxLen; omega) (by omega) (by simp; have:=z.size; omega) ?_; intro V X w7 K o s)
            have HN:Hid (O9 wb w w7 a f G H S u (n+wd+20*(f-(k+1))+(j+1)) (ckS 10000000000000000000 x f) ((l ++ cpT x wd f (k+1)) ++ List.replicate (j+1) 48) V (N+1) X):=by
             refine ⟨(z.alloc _).grown o C, ?_,(Own.alloc t.out.ch _).kept o (Or.inr fun h=>t.out.sep1 h.symm),⟨b4,(T.alloc _).kept o (fun h=>t.out.sep2 h.symm),D,a5⟩, ?_, ?_,by omega,(t.out.kp.ext ((Ext.refl _).alloc (.cells #[.int .u8 48] 5))).grown o s⟩
             · rw [List.replicate_succ',<-List.append_assoc,List.map_append];exact K
             · rcases s with h|h
               · rw [h]; exact t.out.sep1
               · rw [h]; simp; omega
             · rcases s with h|h
               · rw [h]; exact t.out.sep2
               · rw [h]; simp; omega
            go_roundw
            case rel=>exact ⟨j+1,V,N+1,X,rfl,by go_num,by omega,HN.out⟩
            case measure=>simp [intOf]; omega
          · have ai:j=Z:=by omega
            have az:Sl wr (some ⟨G,0,none⟩) L 20 ((Lib.decDigits u).map AQ):=by
             have h:=T.sl (k:=L) (by omega) (by rw [D]; unfold maxLen; omega);rw [D,<-HL.out,a5,HL.out] at h;exact h
            go_wp2_with (refine Bj rfl rfl underlying228 CE rfl rfl J rfl az (Gm _) (by unfold maxLen; omega) (by omega) z.size ?_; intro V X w7 K o s)
            have HN:Hid (RG wb w w7 a x wd f G l (some ⟨H,0,none⟩) S n k V (N+L) X):=by
             refine ⟨z.grown o C, ?_,t.out.ch.kept o (fun h=>t.out.sep1 h.symm),⟨b4,T.kept o (fun h=>t.out.sep2 h.symm),D⟩, ?_, ?_,aE.out,af.out,t.out.kp.grown o s,by rw [if_neg (by omega)]; omega⟩
             · have e:l ++ cpT x wd f k=l ++ cpT x wd f (k+1) ++ List.replicate j 48 ++ Lib.decDigits u:=by
                rw [<-RH (by omega) aq.out HU.out,HL.out,show 19-L=j by omega];simp only [List.append_assoc]
               rw [e,List.map_append];exact K
             · intro k O;cases O;refine ⟨?_,a2.out.2⟩;rcases s with h|h
               · rw [h]; exact t.out.sep1
               · rw [h]; simp; omega
             · rcases s with h|h
               · rw [h]; exact t.out.sep2
               · rw [h]; simp; omega
            have aw:decide (k=f)=false:=by simp; omega
            go_roundw
            case rel=>exact ⟨k,V,N+L,X,rfl,by rw [aw],rfl,by omega,HN.out⟩
            case measure=>simp [intOf]
  · have an:0<x/10000000000000000000^f:=Nat.pos_of_ne_zero fun h=>h0 (HZ.out.2 h);have ay:10000000000000000000^f<=x:=by
     refine Classical.byContradiction fun hc => ?_;rw [Nat.div_eq_of_lt (by omega)] at an;omega
    have bv:=Qd aI.out ay;have aY:=qh ay;clear ay;obtain ⟨g,rfl,bh,bt⟩:=HS.wk.place (by omega);have b7:=HS.ext;have bf:=HS.ch;have bl:Av .u64 wr w.heap.size 238 g nk ck ys:=HS.wk;have ap:=qh HS.sep;have HN:=qh HS.num;clear HS;obtain ⟨j,rfl⟩:∃ j,nk=j+1:=⟨nk-1,by omega⟩;clear h0;go_wp2;obtain ⟨wo,bk⟩:∃ wo:World,wo=wr:=⟨_,rfl⟩;subst bk
    go_loopw [9,10] (fun rv iv p=>∃ (k r:Nat) (zs:List Nat),k<=j+1/\rv = .int .u64 r/\iv = .int .i64 ((k:Int)-1)/\r<10000000000000000000/\Ext w p/\Av .u64 p w.heap.size 238 g (j+1) ck zs/\Own p w.heap.size 238 ac f S ((ckS 10000000000000000000 x f).map (Bi .u64))/\W.bnd 18446744073709551616 zs/\Hid (zs.take k=ys.take k)/\Hid (W.val 18446744073709551616 (ys.drop k)=W.val 18446744073709551616 (zs.drop k)*10000000000000000000+r)) (fun _ v _=>(intOf v+1).toNat)
    case atStart=>exact ⟨j+1,0,ys,lrf _,rfl,by go_num,by omega,b7,bl,bf,HN.out.bnd,qh rfl,qh (by rw [List.drop_of_length_le (by rw [HY.out]; exact lrf _)]; simp [W.val])⟩
    case round =>
     obtain ⟨k,r,zs,O,rfl,rfl,hr,ah,hz,av,bz,aH,HE⟩:=hrel;cases k with
     | zero =>
      have aC:Hid (x/10000000000000000000^f/10000000000000000000=W.val 18446744073709551616 zs/\x/10000000000000000000^f%10000000000000000000=r):=by
       show _/\_;have h1:=HE.out;rw [List.drop_zero,List.drop_zero,HN.out.val] at h1;rw [h1,Nat.mul_comm];exact ⟨by rw [Nat.mul_add_div (by omega),Nat.div_eq_of_lt hr,Nat.add_zero],by rw [Nat.mul_add_mod,Nat.mod_eq_of_lt hr]⟩
      go_wp2_with fail
      refine (A3 hz.sl).mono ?_;rintro e w4 ⟨q,rfl,rfl,hq,ht⟩;have hA:=av.alloc (.cells #[.int .u64 r] 238);have hL:=(Az wr w.heap.size 238 #[.int .u64 r] 1 rfl ah.size (by omega)).sl;have C:∀ k,blk ac=some k->w.heap.size<=k:=fun k O=>(av.lt O).1;have aM:=hz.lt
      go_wp2_with (refine Bj rfl rfl underlying81 AA rfl rfl hA rfl hL (by simp [Value.oneCell']) (by unfold maxLen; omega) (by omega) (by simp; have:=ah.size; omega) ?_; intro V X w7 K o s)
      have aQ:Hid (TU w w7 x (some ⟨g,0,none⟩) q ck V (f+1) X (W.trim zs)):=by
       refine ⟨(ah.alloc _).grown o C, ?_, ?_, ?_, ?_,Or.inr ?_⟩
       · rw [ht];exact ((Av.upto hz hq).alloc _).kept o (Or.inr fun h=>ap.out g h.symm rfl)
       · rw [<-Qc,List.map_append,aC.out.2];exact K
       · intro k O he;cases he;rcases s with h|h
         · exact ap.out g (by rw [<-h]; exact O) rfl
         · rw [O] at h;simp at h;omega
       · rw [Nat.pow_succ,<-Nat.div_div_eq_div_mul,aC.out.1];exact Num.trim bz rfl
       · exact aY.out
      go_roundw
      case rel=>exact ⟨_,q,ck,V,f+1,X,_,rfl,rfl,by omega,aQ.out⟩
      case measure=>simp; omega
     | succ k =>
      have Y:=hz.cell (i:=k) (by omega);have aA:((k+1:Nat):Int)-1=k:=by omega
      rw [aA];have bn:=W.bnd_at bz (i:=k) (by rw [hz.len]; omega);have b1:=qh (fun q r'=>I5 (B:=18446744073709551616) (xs:=ys) (zs:=zs) (k:=k) (q:=q) (r:=r) (r':=r') (d:=10000000000000000000) (by rw [HY.out]; omega) (by rw [hz.len]; omega) HE.out);have aX:Hid (zs.getD k 0=ys.getD k 0):=by
       show _=_;have h1:=congrArg (fun l=>l.getD k 0) aH.out;have h2:∀ (l:List Nat),(l.take (k+1)).getD k 0=l.getD k 0:=fun l=>by simp
       simpa [h2] using h1
      have aR:Hid (∀ q,(zs.set k q).take k=ys.take k):=by
       show ∀ q,(zs.set k q).take k=ys.take k;intro q;rw [List.take_set_of_le (lrf _)];have h1:=congrArg (fun l=>l.take k) aH.out;simpa [List.take_take,Nat.min_eq_left (Nat.le_succ k)] using h1
      generalize hu:zs.getD k 0=u at *
      have bg:=fun p:World=>Ee (w:=p) (hi:=r) (lo:=u) (y:=10000000000000000000) (by omega) bn hr
      go_wp2_with fail
      refine (bg _).mono ?_;rintro e w2 ⟨q,r',rfl,hq,bj,he,hQ⟩;have aB:=hz.ext hQ.ext;have g3:=aB.frozen k;have g4:=aB.cell (i:=k) (by omega);have b0:=qh (b1.out q r' (by rw [<-aX.out]; exact he));have b5:=ah.trans hQ.ext;have aT:=av.ext hQ.ext;clear he;go_wp2;go_roundw
      case rel=>exact ⟨k,r',zs.set k q,by omega,rfl,by go_num,bj,b5.setCell bh _,aB.set k q,aT.kept (Af _ _ _ _) (Or.inr fun h=>ap.out g h rfl),W.bnd_set bz hq,qh (aR.out q),b0⟩
      case measure=>simp [intOf]
theorem Fx {pn pc x:Nat} (p:AR wb) (k:Ext wb w) (o:Own w wb.heap.size 5 a n c (l.map AQ)) (q:SlN .u64 w b m d xs) (g:Num 18446744073709551616 xs x) (s:m<=30) (t:n<=100000) (hp:pn<100) :
 Calls prog 284 #[.slice a n c, .slice b m d, .int .i64 0, .slice pa pn pc] w (Ih wb (l ++ W.padD 0 x)):=by
 have f:=qh (Gp p k o q g (by omega) (by omega) (wd:=0) (by omega));rcases Nat.eq_zero_or_pos pn with rfl|h0
 all_goals
  go_enter func284,ntmps284
  go_wp2_with fail
  refine f.out.mono ?_;rintro e v ⟨i,r,j,rfl,h1,h2,h3⟩;go_wp2;go_ret;exact ⟨i,r,j,rfl,h1,h2⟩
theorem Ei {x:Nat} (y:AR wb) (o:Ext wb w) (v:Own w wb.heap.size 5 a n c (l.map AQ)) (i:Wd w b m d x) (E:x<P2 1920) (z:n<=100000) :
 Calls prog 234 #[.slice a n c, .slice b m d] w (Ih wb (l ++ Lib.decDigits x)):=by
 by_cases h1:x<18446744073709551616
 · exact Gn (y.ext o) o v i h1 z
 · have f:m<=30:=i.len (k:=30) E;have G:2<=m:=by
    refine Nat.lt_of_not_le fun h=>h1 ?_;obtain ⟨M,D,t⟩:=i;have:=W.val_lt t.bnd;rw [t.val,D.len] at this;refine Nat.lt_of_lt_of_le this ?_;rw [show (18446744073709551616:Nat)=18446744073709551616^1 by decide];exact Nat.pow_le_pow_right (by omega) h
   have A:Hid (W.padD 0 x=Lib.decDigits x):=qh (W.padD_nat (by omega));obtain ⟨M,s,g⟩:=i;have r:=fun (L:World) (j:Ext w L)=>qh (Fx (pn:=1) (pc:=1) (pa:=some ⟨w.heap.size+1,0,none⟩) y (o.trans j) (v.ext j) (s.ext j) g f z (by omega));clear h1 g;have I:(0:Int)<(m:Int):=by omega
   go_enter func234,ntmps234
   go_wp2;have p:=((Ext.refl w).alloc (.cells #[.int .u64 10000000000000000000] 238)).alloc (.cells #[.slice (some ⟨w.heap.size,0,none⟩) 1 1] 81)
   go_loop [5] (fun K=>K = .slice (some ⟨w.heap.size+1,0,none⟩) 1 1) (fun _=>0)
   case atStart=>exact rfl
   case round =>
    obtain rfl:=hrel;have H:(m:Int)<=30:=by omega
    have F:decide ((30:Int)<(m:Int))=false:=decide_eq_false (by omega)
    go_wp2_with fail
    refine (r _ p).out.mono ?_;rintro e N ⟨B,J,C,rfl,h9,q⟩;go_wp2;go_ret;exact ⟨B,J,C,rfl,by rw [<-A.out]; exact h9,q⟩
theorem Fe (L:AR wb) (K:Ext wb w) (A:Own w wb.heap.size 5 a0 n0 c0 (l.map AQ)) (h:AB wb v z) (M:z.natAbs<P2 1920) (Y:n0<=10000) :
 Calls prog 195 #[v, .slice a0 n0 c0] w (Ih wb (l ++ Lib.itoa z)):=by
 obtain ⟨s,a,n,c,rfl,J,N⟩:=h;cases s with
 | true =>
  have r:Hid (l ++ Lib.itoa z=(l ++ [45]) ++ Lib.decDigits z.natAbs):=by
   show _=_;have F:z<0:=by simpa using J.out
   unfold Lib.itoa;rw [if_pos F,List.append_assoc];rfl
  go_enter func195,ntmps195
  go_upto_region 1 with (fail)
  refine AE ?_;intro O f b m;have H:=b.c 0 rfl;have I:=b.c 1 rfl;have d:=K.trans f;have p:=A.ext f;have S:=p.alloc (.cells #[.int .u8 45] 5);have T:=(Az O wb.heap.size 5 #[.int .u8 45] 1 rfl d.size (by omega)).sl;have D:∀ k,blk a0=some k->wb.heap.size<=k:=fun k V=>(p.lt V).1;have X:=b.lt;clear m
  go_upto_region 3 with (refine Bj rfl rfl underlying228 CE rfl rfl S rfl T (by simp [Value.oneCell']) (by unfold maxLen; omega) (by omega) (by simp; have:=d.size; omega) ?_; intro Q R P B q U)
  have o:Ext wb P:=(d.alloc _).grown q D;have C:Own P wb.heap.size 5 Q (n0+1) R ((l ++ [45]).map AQ):=by rw [List.map_append]; exact B
  have E:blk a0≠some w.heap.size:=by
   intro he;have:=(A.lt he).2;omega
  have y:=(b.alloc (.cells #[.int .u8 45] 5)).kept q (fun he=>E he.symm);have Z:=y.c 1 rfl;have j:=qh (Ei L o C (N.ext o) M (by omega))
  go_wp2_with fail
  refine j.out.mono ?_;rintro e W ⟨t,G,x,rfl,i,g⟩;go_wp2;go_ret;exact ⟨t,G,x,rfl,by rw [r.out]; exact i,g⟩
 | false =>
  have r:Hid (l ++ Lib.itoa z=l ++ Lib.decDigits z.natAbs):=by
   show _=_;have F:¬ z<0:=by simpa using J.out
   unfold Lib.itoa;rw [if_neg F];congr 2;omega
  go_enter func195,ntmps195
  go_upto_region 1 with (fail)
  refine AE ?_;intro O f b m;have H:=b.c 0 rfl;have I:=b.c 1 rfl;have d:=K.trans f;have j:=qh (Ei L d (A.ext f) (N.ext d) M (by omega));clear m
  go_wp2_with fail
  refine j.out.mono ?_;rintro e W ⟨t,G,x,rfl,i,g⟩;go_wp2;go_ret;exact ⟨t,G,x,rfl,by rw [r.out]; exact i,g⟩
theorem MQ (o:AR w) (h:AB w v z) (p:z.natAbs<P2 1920):Calls prog 194 #[v] w fun e t=>e = .returned (.string ⟨(Lib.itoa z).toArray⟩)/\Ext w t:=by
 have i:=fun (k:World) (m:Ext w k)=>qh (Fe (l:=[]) (o.ext m) (Ext.refl k) (Own.nil k _ _) (h.ext m) p (Nat.zero_le _));obtain ⟨s,a,n,c,rfl,x,B⟩:=h
 go_enter func194,ntmps194
 go_upto_region 1 with (fail)
 refine AE ?_;intro D d b j;have q:=b.c 0 rfl;have r:=b.c 1 rfl;clear j
 go_wp2_with fail
 refine (i _ d).out.mono ?_;rintro e E ⟨y,C,A,rfl,g,f⟩
 go_wp2_with (refine DL rfl rfl underlying228 underlying5 underlying9 rfl g.sl ?_)
 go_ret;exact ⟨rfl,d.trans f⟩
theorem S6 (b:Nat):P2 b<=10^(b/3+1):=by
 have e:P2 b=8^(b/3)*2^(b%3):=by
  unfold P2
  conv=>lhs; rw [<-Nat.div_add_mod b 3,Nat.pow_add,Nat.pow_mul]
 have h1:8^(b/3)<=10^(b/3):=Nat.pow_le_pow_left (by omega) _;have h2:2^(b%3)<=2^2:=Nat.pow_le_pow_right (by omega) (by omega);rw [e,Nat.pow_succ];exact Nat.mul_le_mul h1 (by omega)
theorem Kq {b:Nat} (h:n<P2 b):(Lib.decDigits n).length<=b/3+1:=W.dec_len (Nat.lt_of_lt_of_le h (S6 b)) (by omega)
theorem N6 {b:Nat} (h:z.natAbs<P2 b):(Lib.itoa z).length<=b/3+2:=by
 have h1:=Kq h;unfold Lib.itoa;split
 · simp; omega
 · have e:z.toNat=z.natAbs:=by omega
   rw [e]; omega
/-! Ratios. -/
theorem Ai:Agg prog 85 4:=⟨by kernel_rfl,by kernel_rfl⟩
def Ao (s:Bool) (a:Option Addr) (n c:Nat) (t:Bool) (b:Option Addr) (m d:Nat):List Value:=Ac s a n c ++ Ac t b m d
theorem Ap (s:Bool) (a:Option Addr) (n c:Nat) (t:Bool) (b:Option Addr) (m d:Nat):∀ v∈Ao s a n c t b m d,v.oneCell'=true:=by
 intro v e;rcases List.mem_append.1 e with h|h
 · exact Ad _ _ _ _ v h
 · exact Ad _ _ _ _ v h
theorem AI (s:Bool) (a:Option Addr) (n c:Nat) (t:Bool) (b:Option Addr) (m d:Nat):∀ v∈Ao s a n c t b m d,∀ i,v ≠ .int .u64 i:=by
 intro v e;rcases List.mem_append.1 e with h|h
 · exact Ay _ _ _ _ v h
 · exact Ay _ _ _ _ v h
def A2 (q:Rat):Int:=if q.den=1 then 0 else (q.den:Int)
theorem LA (q:Rat):0<=A2 q:=by unfold A2; split <;> omega
theorem AC:A2 q=0<->q.den=1:=by
 have:=q.den_nz;unfold A2;split
 · simp [*]
 · constructor
   · intro h; omega
   · intro h; exact absurd h ‹_›
theorem A9 (h:q.den≠1):(A2 q).natAbs=q.den:=by unfold A2; rw [if_neg h]; rfl
theorem CX (h:q.den≠1):A2 q=(q.den:Int):=by unfold A2; rw [if_neg h]
def CQ (w:World) (cs:List Value) (q:Rat):Prop:=∃ s a n c b m d,cs=Ao s a n c false b m d/\Hid (decide (q.num<0)=s)/\Wd w a n c q.num.natAbs/\Wd w b m d (A2 q).natAbs
theorem CQ.ext {w f:World} {cs:List Value} {q:Rat} (h:CQ w cs q) (e:Ext w f):CQ f cs q:=by
 obtain ⟨s,a,n,c,b,m,d,h1,h2,h3,h4⟩:=h;exact ⟨s,a,n,c,b,m,d,h1,h2,h3.ext e,h4.ext e⟩
def Ct (w:World) (v:Value) (q:Rat):Prop:=∃ cs,v = .agg cs.toArray/\CQ w cs q
theorem Ct.ext {w a:World} {v:Value} {q:Rat} (h:Ct w v q) (e:Ext w a):Ct a v q:=by
 obtain ⟨b,h1,h2⟩:=h;exact ⟨b,h1,h2.ext e⟩
def Jj (w:World) (q:Rat) (e:Ending) (w':World):Prop:=∃ cs,e = .returned (.agg cs.toArray)/\Ext w w'/\CQ w' cs q
theorem RI:Hid (decide (A2 q<0)=false):=qh (decide_eq_false (by have:=LA q; omega))
theorem BI (b:Hid (decide (q.num<0)=s)) (h:Wd w a n c q.num.natAbs):AB w (.agg (Ac s a n c).toArray) q.num:=⟨s,a,n,c,rfl,b,h⟩
theorem Bg (h:Wd w b m d (A2 q).natAbs):AB w (.agg (Ac false b m d).toArray) (A2 q):=⟨false,b,m,d,rfl,RI,h⟩
def txt (q:Rat):List UInt8:=Lib.itoa q.num ++ (if q.den=1 then [] else 47 :: Lib.decDigits q.den)
theorem MR (L:AR w) (h:Ct w v q) (T:q.num.natAbs<P2 1920) (V:q.den<P2 1920):Calls prog 124 #[v] w fun e w'=>e = .returned (.string ⟨(txt q).toArray⟩)/\Ext w w':=by
 obtain ⟨_,rfl,s,a,n,c,b,m,d,rfl,N,hx,hy⟩:=h;have B:=fun (A:World) (t:Ext w A)=>qh (AM (r:=decide (A2 q=0)) (Bg (hy.ext t)) rfl);have o:=fun (A:World) (t:Ext w A)=>qh (O1 (BI N (hx.ext t)));by_cases h1:q.den=1
 · have z:decide (A2 q=0)=true:=by simpa using AC.2 h1
   have K:Hid (txt q=Lib.itoa q.num):=by show _=_; unfold txt; rw [if_pos h1,List.append_nil]
   rw [z] at B;clear z h1 V
   go_enter func124,ntmps124
   go_upto_region 1 with (fail)
   refine AE ?_;intro w0 x i F;have p0:=i.c 0 rfl;have p1:=i.c 1 rfl;have p2:=i.c 2 rfl;have p3:=i.c 3 rfl;clear F
   go_wp2_with fail
   refine (B _ x).out.mono ?_;rintro e G ⟨rfl,j⟩;have f:=x.trans j;have r0:=j.cell p0;have r1:=j.cell p1;by_cases p : -9223372036854775808<=q.num/\q.num<=9223372036854775807
   · have y:=Hk p;have X:=fun (A:World) (t:Ext w A)=>qh (Lz (L.ext t) p.1 p.2);rw [y] at o;clear y p
     go_wp2_with fail
     refine (o _ f).out.mono ?_;rintro e M ⟨rfl,g⟩
     go_wp2_with fail
     refine (X _ (f.trans g)).out.mono ?_;rintro e w3 ⟨rfl,D⟩;go_wp2;go_ret;exact ⟨by rw [K.out]; rfl,(f.trans g).trans D⟩
   · have y:=Fw p;have Z:=fun (A:World) (t:Ext w A)=>qh (MQ (L.ext t) (BI N (hx.ext t)) T);rw [y] at o;clear y p
     go_wp2_with fail
     refine (o _ f).out.mono ?_;rintro e M ⟨rfl,g⟩;have t0:=g.cell r0;have t1:=g.cell r1
     go_wp2_with fail
     refine (Z _ (f.trans g)).out.mono ?_;rintro e w3 ⟨rfl,D⟩;go_wp2;go_ret;exact ⟨by rw [K.out]; rfl,(f.trans g).trans D⟩
 · have z:decide (A2 q=0)=false:=by simpa using mt AC.1 h1
   have K:Hid (txt q=Lib.itoa q.num ++ 47 :: Lib.itoa (A2 q)):=by
    show _=_;unfold txt;rw [if_neg h1,CX h1,Lib.itoa_nonneg]
   have W:(A2 q).natAbs<P2 1920:=by rw [A9 h1]; exact V
   have a5:(Lib.itoa q.num).length<=700:=by have:=N6 T; omega
   rw [z] at B;clear z h1 V o;have S:=fun (A:World) (t:Ext w A)=>qh (Fe (l:=[]) (L.ext t) (Ext.refl A) (Own.nil A _ _) (BI N (hx.ext t)) T (Nat.zero_le _))
   go_enter func124,ntmps124
   go_upto_region 1 with (fail)
   refine AE ?_;intro w0 x i F;have p0:=i.c 0 rfl;have p1:=i.c 1 rfl;have p2:=i.c 2 rfl;have p3:=i.c 3 rfl;clear F
   go_wp2_with fail
   refine (B _ x).out.mono ?_;rintro e G ⟨rfl,j⟩;have f:=x.trans j;have r0:=j.cell p0;have r1:=j.cell p1
   go_wp2_with fail
   refine (S _ f).out.mono ?_;rintro e M ⟨a2,n2,c2,rfl,I,g⟩;have a0:=f.trans g;have a6:n2<=700:=by have:=I.len; simp at this; omega
   have C:Own M G.heap.size 5 a2 n2 c2 ((Lib.itoa q.num).map AQ):=I;have hA:=C.alloc (.cells #[.int .u8 47] 5);have hL:=(Az M G.heap.size 5 #[.int .u8 47] 1 rfl g.size (by omega)).sl;have U:∀ k,blk a2=some k->G.heap.size<=k:=fun k hk=>(C.lt hk).1;have a4:=(i.ext j).lt
   go_upto_region 7 with (refine Bj rfl rfl underlying228 CE rfl rfl hA rfl hL (by simp [Value.oneCell']) (by unfold maxLen; omega) (by omega) (by simp; have:=g.size; omega) ?_; intro a7 c7 w7 P Y a3)
   have E:Ext G w7:=(g.alloc _).grown Y U;have a1:=f.trans E;have Q:Own w7 G.heap.size 5 a7 (n2+1) c7 ((Lib.itoa q.num ++ [47]).map AQ):=by rw [List.map_append]; exact P
   have J:=qh (Fe (L.ext f) E Q (Bg (hy.ext f)) W (by omega));have H:=(i.ext j).ext E;have q2:=H.c 2 rfl;have q3:=H.c 3 rfl
   go_wp2_with fail
   refine J.out.mono ?_;rintro e w8 ⟨a8,n8,c8,rfl,R,O⟩
   go_wp2_with (refine DL rfl rfl underlying228 underlying5 underlying9 rfl R.sl ?_)
   go_ret;exact ⟨by rw [K.out]; rfl,f.trans O⟩
theorem BJ (k:Ext w w1) (g:Arr w1 R ty cs) (e:∀ v∈cs,∀ i,v ≠ .int .u64 i) (f:w1.grownBy w9 (some R)) (l:w.heap.size<=R) (j:Hid (decide (q.num<0)=s)) (o:Wd w1 a n c q.num.natAbs) (p:Wd w1 b m d (A2 q).natAbs):Jj w q (.returned (.agg (Ao s a n c false b m d).toArray)) w9 :=
 ⟨_,rfl,k.grownR f l,s,a,n,c,b,m,d,rfl,j,o.kept g e f,p.kept g e f⟩
theorem Pa (h1 : -9223372036854775808<=z) (h2:z<=9223372036854775807):Calls prog 78 #[.int .i64 z] w (Jj w (z:Rat)):=by
 have b:((z:Int):Rat).num=z:=rfl;have a:A2 ((z:Int):Rat)=0:=AC.2 rfl
 go_enter func78,ntmps78
 go_upto_region 1 with (fail)
 refine AE ?_;intro v l j o;have s:Arr v w.heap.size 85 (Ao false none 0 0 false none 0 0):=j;have q:=qh b;have r:=qh a;clear o b a
 go_wp2_with fail
 refine (Lh h1 h2).mono ?_;rintro e x ⟨s1,g,p,i,rfl,c,f,n⟩;have d:=s.ext c;have t:(Ac s1 g p i).toArray=#[.bool s1, .slice g p i]:=rfl
 go_wp2_with (refine Aa (vs:=Ao s1 g p i false none 0 0) rfl rfl rfl rfl rfl Ai d rfl (Ap _ _ _ _ _ _ _ _) ?_; intro y k m)
 exact bodyPost_ret (Al rfl Ai rfl k) rfl (BJ (l.trans c) d (AI _ _ _ _ _ _ _ _) m (by omega) (by rw [q.out]; exact f) (by rw [q.out]; exact n) (by rw [r.out]; exact Wd.nil _))
theorem Ff (h:Ct w v q) {r:Bool} (l:decide (q=0)=r):Calls prog 147 #[v] w fun e x=>e = .returned (.bool r)/\Ext w x:=by
 obtain ⟨_,rfl,s,a,n,c,b,m,d,rfl,o,t,z⟩:=h;have k:=fun (y:World) (p:Ext w y)=>qh (AM (r:=r) (BI o (t.ext p)) (by rw [<-l]; exact decide_eq_decide.2 Pl.rat_num_den_zero));clear l
 go_enter func147,ntmps147
 go_upto_region 1 with (fail)
 refine AE ?_;intro E g f j;have A:=f.c 0 rfl;have B:=f.c 1 rfl;have C:=f.c 2 rfl;have D:=f.c 3 rfl;clear j
 go_wp2_with fail
 refine (k _ g).out.mono ?_;rintro e F ⟨rfl,i⟩;go_wp2;go_ret;exact ⟨rfl,g.trans i⟩
theorem RJ (h:Ct w v q):Calls prog 188 #[v] w (DI w q.num):=by
 obtain ⟨_,rfl,s,a,n,c,b,m,d,rfl,o,p,t⟩:=h
 go_enter func188,ntmps188
 go_upto_region 1 with (fail)
 refine Dm ?_;intro r f e g k;have x:=e.c 0 rfl;have y:=e.c 1 rfl;have z:=e.c 2 rfl;have A:=e.c 3 rfl;have l:Arr r (w.heap.size+1) 83 (Ac false none 0 0):=g;clear k
 go_wp2_with (refine Aa (vs:=Ac s a n c) rfl rfl rfl rfl rfl Ag l rfl (Ad _ _ _ _) ?_; intro B i j)
 exact bodyPost_ret (Al rfl Ag rfl i) rfl (Bc f l (Ay _ _ _ _) j (by omega) o (p.ext f))
theorem N7 (h:Ct w v q):Calls prog 165 #[v] w (DI w (q.den:Int)):=by
 obtain ⟨_,rfl,s,a,n,c,b,m,d,rfl,S,T,F⟩:=h;have E:=fun (R:World) (K:Ext w R)=>qh (AM (r:=decide (A2 q=0)) (Bg (F.ext K)) rfl);have A:Hid (decide ((q.den:Int)<0)=false):=qh (decide_eq_false (by omega))
 go_enter func165,ntmps165
 go_upto_region 1 with (fail)
 refine Dm ?_;intro P p g B D;have U:=g.c 0 rfl;have V:=g.c 1 rfl;have N:=g.c 2 rfl;have O:=g.c 3 rfl;have L:Arr P (w.heap.size+1) 83 (Ac false none 0 0):=B;clear D
 go_wp2_with fail
 refine (E _ p).out.mono ?_;rintro e Y ⟨rfl,i⟩;have k:=p.trans i;have W:=i.cell N;have X:=i.cell O;have l:=L.ext i;by_cases h1:q.den=1
 · have f:decide (A2 q=0)=true:=by simpa using AC.2 h1
   rw [f];have G:=qh h1;clear f h1
   go_wp2_with fail
   refine (Lh (z:=1) (by omega) (by omega)).mono ?_;rintro e Z ⟨s1,I,M,J,rfl,t,y,C⟩;have x:=l.ext t
   go_wp2_with (refine Aa (vs:=Ac s1 I M J) rfl rfl rfl rfl rfl Ag x rfl (Ad _ _ _ _) ?_; intro Q j o)
   refine bodyPost_ret (Al rfl Ag rfl j) rfl ?_;rw [G.out];exact Bc (k.trans t) x (Ay _ _ _ _) o (by omega) y C
 · have f:decide (A2 q=0)=false:=by simpa using mt AC.1 h1
   have H:=qh (A9 h1);rw [f];clear f h1
   go_wp2_with (refine Aa (vs:=Ac false b m d) rfl rfl rfl rfl rfl Ag l rfl (Ad _ _ _ _) ?_; intro Q j o)
   refine bodyPost_ret (Al rfl Ag rfl j) rfl (Bc k l (Ay _ _ _ _) o (by omega) A ?_);have h2:=F.ext k;rw [H.out] at h2;exact h2
theorem DN (h:AB w v q.num) (H:AB w v' (q.den:Int)):Calls prog 166 #[v,v'] w (Jj w q):=by
 have z:=fun (W:World) (N:Ext w W)=>qh (CD (r:=decide (q.den=1)) (H.ext N) (decide_eq_decide.2 (by omega)));obtain ⟨s,a,n,c,rfl,G,I⟩:=h;obtain ⟨t,b,m,d,rfl,M,J⟩:=H;have P:t=false:=by have:=M.out; rw [<-this]; exact decide_eq_false (by omega)
 subst P;have A:Wd w b m d q.den:=J;clear J
 go_enter func166,ntmps166
 go_upto_region 1 with (fail)
 refine DF ?_;intro U x o p y B;have C:=o.c 0 rfl;have D:=o.c 1 rfl;have E:=p.c 0 rfl;have F:=p.c 1 rfl;have O:Arr U (w.heap.size+2) 85 (Ao false none 0 0 false none 0 0):=y;clear B
 go_wp2_with fail
 refine (z _ x).out.mono ?_;rintro e X ⟨rfl,f⟩;have g:=x.trans f;have Q:=f.cell C;have R:=f.cell D;have S:=f.cell E;have T:=f.cell F;have j:=O.ext f;by_cases h1:q.den=1
 · have i:decide (q.den=1)=true:=by simpa using h1
   have L:Hid (A2 q=0):=qh (AC.2 h1);rw [i];clear i h1
   go_wp2_with (refine Aa (vs:=Ao s a n c false none 0 0) rfl rfl rfl rfl rfl Ai j rfl (Ap _ _ _ _ _ _ _ _) ?_; intro V k l)
   exact bodyPost_ret (Al rfl Ai rfl k) rfl (BJ g j (AI _ _ _ _ _ _ _ _) l (by omega) G (I.ext g) (by rw [L.out]; exact Wd.nil _))
 · have i:decide (q.den=1)=false:=by simpa using h1
   have K:=qh (A9 h1);rw [i];clear i h1
   go_wp2_with (refine Aa (vs:=Ao s a n c false b m d) rfl rfl rfl rfl rfl Ai j rfl (Ap _ _ _ _ _ _ _ _) ?_; intro V k l)
   exact bodyPost_ret (Al rfl Ai rfl k) rfl (BJ g j (AI _ _ _ _ _ _ _ _) l (by omega) G (I.ext g) (by rw [K.out]; exact A.ext g))

def StI (p:Value->World->Prop):Prop:=∀ v w w' g t cs cs',Arr w g t cs->(∀ x∈cs,∀ i,x ≠ .int .u64 i)->w.grownBy w' (some g)->Arr w' g t cs'->cs'.length=cs.length->(∀ x∈cs',∀ i,x ≠ .int .u64 i)->p v w->p v w'
def StX (p:Value->World->Prop):Prop:=∀ v w w',Ext w w'->p v w->p v w'
def NI (z:Int) (v:Value) (w:World):Prop:=∃ s a n c,v = .agg (Ac s a n c).toArray/\Hid (decide (z<0)=s)/\Wd w a n c z.natAbs
theorem NI.x (z:Int):StX (NI z):=fun _ _ _ e ⟨s,a,n,c,h1,h2,h3⟩=>⟨s,a,n,c,h1,h2,h3.ext e⟩
theorem NI.i (z:Int):StI (NI z):=fun _ _ _ _ _ _ _ b e d _ _ _ ⟨s,a,n,c,h1,h2,h3⟩=>⟨s,a,n,c,h1,h2,h3.kept b e d⟩
def NII (z y:Int) (v:Value) (w:World):Prop:=∃ s a n c s' a' n' c',v = .tuple #[.agg (Ac s a n c).toArray, .agg (Ac s' a' n' c').toArray]/\(Hid (decide (z<0)=s)/\Wd w a n c z.natAbs)/\(Hid (decide (y<0)=s')/\Wd w a' n' c' y.natAbs)
theorem NII.x (z y:Int):StX (NII z y):=fun _ _ _ e ⟨s,a,n,c,g,b,f,d,h1,⟨h2,h3⟩,⟨h4,h5⟩⟩=>⟨s,a,n,c,g,b,f,d,h1,⟨h2,h3.ext e⟩,⟨h4,h5.ext e⟩⟩
theorem NII.i (z y:Int):StI (NII z y):=fun _ _ _ _ _ _ _ b e d _ _ _ ⟨s,a,n,c,k,f,j,g,h1,⟨h2,h3⟩,⟨h4,h5⟩⟩=>⟨s,a,n,c,k,f,j,g,h1,⟨h2,h3.kept b e d⟩,⟨h4,h5.kept b e d⟩⟩
def NP (base:Nat) (v:Value) (w:World):Prop:=∃ g cs,v = .pointer (some ⟨g,0,none⟩)/\base<=g/\Arr w g 83 cs/\cs.length=2/\∀ x∈cs,∀ i,x ≠ .int .u64 i
theorem NP.x (b:Nat):StX (NP b):=fun _ _ _ e ⟨g,a,h1,h2,h3,h4,h5⟩=>⟨g,a,h1,h2,h3.ext e,h4,h5⟩
theorem NP.i (b:Nat):StI (NP b):=by
 intro v w p l t c d k o m a n f ⟨g,j,h1,h2,h3,h4,h5⟩;by_cases e:g=l
 · subst e;unfold Arr at k h3 a;rw [k] at h3;simp only [Option.some.injEq,Obj.cells.injEq,and_true] at h3;obtain ⟨h6,h7⟩:=h3;have h8:c=j:=by simpa using h6
   subst h8; subst h7;exact ⟨g,d,h1,h2,a,by omega,f⟩
 · exact ⟨g,j,h1,h2,h3.kept m (by simpa using e),h4,h5⟩
theorem NT.x:StX (fun _ _=>True):=fun _ _ _ _ _=>trivial
theorem NT.i:StI (fun _ _=>True):=fun _ _ _ _ _ _ _ _ _ _ _ _ _ _=>trivial
theorem Fg (a:o.op = .alloc 83) (b:Operand->Value) (w:World):(execOp b o).run prog w = .ok (.value (.pointer (some ⟨w.heap.size,0,none⟩))) (w.alloc (.cells (Ac false none 0 0).toArray 83)):=by
 simp only [execOp,a];kernel_rfl
section
variable {ops:Array Oper} {hs:List Hd} {a0:Act} {C:World->Prop} {i:Nat} {o:Oper}
theorem Fh (c:o.guard=none) (d:o.op = .alloc 83) (a:∀ w,C w->base<=w.heap.size):obl prog C ops hs a0 i o (hp (NP base)) :=
 AY c fun e w _ b _=>⟨_,_,Fg d e w,(Ext.refl w).alloc _,w.heap.size,Ac false none 0 0,rfl,a w b,Arr.new w _ _,rfl,Ay _ _ _ _⟩
def Kr:List Hd->Prop
 | []=>True
 | h :: r=>(match h.ty with | .eq _=>True | .pr p=>StI p)/\Kr r
theorem Ij:∀ {l:List Hd},Kr l->∀ h∈l,(match h.ty with | .eq _=>True | .pr p=>StI p)
 | [],_,h,hm=>absurd hm (by simp)
 | x :: r,hl,h,hm=>by
  rcases List.mem_cons.1 hm with rfl|hm
  · exact hl.1
  · exact Ij hl.2 h hm
theorem S7 (s:Kr hs) {w b:World} {g:Nat} {t:TypeId} {cs cs':List Value} (k:Arr w g t cs) (l:∀ x∈cs,∀ i,x ≠ .int .u64 i) (m:w.grownBy b (some g)) (d:Arr b g t cs') (q:cs'.length=cs.length) (e:∀ x∈cs',∀ i,x ≠ .int .u64 i):E5 ops hs i o w b (List.range hs.length):=by
 refine Ix fun j n v a => ?_;have f:j<hs.length:=by
  have:=(List.mem_filter.1 n).1;simpa using this
 have r:AD hs j∈hs:=by
  rw [AD,gqq,List.getElem?_eq_getElem f];simp
 have:=Ij s _ r;revert this a;cases (AD hs j).ty with
 | eq c=>exact fun a _=>a
 | pr p=>exact fun a hp=>hp v w b g t cs cs' k l m d q e a
theorem MT {x:Operand} (t:o.guard=none) (l:o.op = .store 83 x y) (A:Kr hs) (f:∀ w p g,C w->base<=g->w.grownBy p (some g)->C p)
 (h:∀ b w,Di b->C w->B0 ops hs a0 o b w [x,y]->(∃ v,b x=v/\NP base v w)/\(∃ v,b y=v/\NI z v w)):obl prog C ops hs a0 i o (hmp (fun _ _=>True)):=by
 unfold obl BA;rw [t];intro b w hp k m;have j:B0 ops hs a0 o b w [x,y]:=by rw [l] at m; exact m
 obtain ⟨⟨B,q,g,cs,rfl,h2,h3,h4,h5⟩,⟨D,r,s,a,n,c,rfl,_,_⟩⟩:=h b w hp k j;have e:(execOp b o).run prog w = .ok .skip (w.setRow g (Ac s a n c).toArray):=by
  have:=CV (P:=prog) (w:=w) (ty:=83) (g:=g) (cs:=cs) (vs:=Ac s a n c) Ag h3 (by rw [h4]; rfl) (Ad _ _ _ _);simp only [execOp,l,q,r,Sem.run_bind,this,Result.andThen_ok,Sem.run_pure]
 rw [e];have d:=Bh w g (Ac s a n c).toArray;exact ⟨f w _ g k h2 d,S7 A h3 h5 d (BM h3 _) (by rw [h4]; rfl) (Ay _ _ _ _),trivial⟩
end

end Go.Proofs.YtlbmnokpiilfpaaGreatDoor
