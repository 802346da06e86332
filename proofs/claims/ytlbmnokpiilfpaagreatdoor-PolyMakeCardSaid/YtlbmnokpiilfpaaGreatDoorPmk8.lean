/- Part Pmk8. -/
import Derived.Test.YtlbmnokpiilfpaaGreatDoorPmk7
import Derived.Test.YtlbmnokpiilfpaaGreatDoorPmk6
set_option maxRecDepth 100000
set_option maxHeartbeats 100000000
namespace Go.Proofs.YtlbmnokpiilfpaaGreatDoor
open Tryz Go Go.RowKit
variable {s:Bool} {y z:Int} {xs ys zs zs':List Nat} {l:List Oper} {cs:List Value} {B R V X c cx d g i j m n nx x:Nat} {a ax ay b:Option Addr} {r:Option Nat} {t:TypeId} {v v':Value} {w w' w1 w2 w9:World}
theorem PX (h:w.grownBy w1 r) (k:w1.grownBy w2 (some g)) (d:w.heap.size<=g):w.grownBy w2 r :=
 ⟨k.os.trans h.os,k.tape.trans h.tape,k.output.trans h.output,Nat.le_trans h.size k.size,fun b c a=>by
  rw [k.block b (Nat.lt_of_lt_of_le c h.size) (by intro he; simp only [Option.some.injEq] at he; omega),h.block b c a]⟩
structure Tot (w:World) (a:Option Addr) (base:Nat) (wr:World) (a':Option Addr) (n c:Nat) (zs:List Nat):Prop where
 grown:w.grownBy wr (blk a)
 own:Own wr base 238 a' n c (zs.map (Bi .u64))
 src:blk a'=blk a\/∃ g,blk a'=some g/\w.heap.size<=g
 bnd:W.bnd 18446744073709551616 zs
section
variable {w wr w2:World} {a a' a2:Option Addr} {base n c n2 c2:Nat} {zs zs2:List Nat}
theorem Tot.len (h:Tot w a base wr a' n c zs):zs.length=n:=by have:=h.own.len; simpa using this
theorem Tot.step (h:Tot w a base wr a' n c zs) (b:wr.grownBy w2 (blk a')) (j:Own w2 base 238 a2 n2 c2 (zs2.map (Bi .u64))) (k:blk a2=blk a'\/blk a2=some wr.heap.size) (i:W.bnd 18446744073709551616 zs2):Tot w a base w2 a2 n2 c2 zs2:=by
 have d:w.grownBy w2 (blk a):=by
  rcases h.src with e|⟨g,e,f⟩
  · rw [e] at b; exact Hz h.grown b
  · rw [e] at b; exact PX h.grown b f
 refine ⟨d,j, ?_,i⟩;rcases k with e|e
 · rw [e]; exact h.src
 · exact Or.inr ⟨_,e,h.grown.size⟩
theorem Tot.ext (h:Tot w a base wr a' n c zs) (e:Ext wr w2):Tot w a base w2 a' n c zs:=⟨Gg h.grown e,h.own.ext e,h.src,h.bnd⟩
theorem Tot.slice (h:Tot w a base wr a' n c zs) (d:SlN .u64 w ax nx cx xs) (b:blk ax≠blk a):SlN .u64 wr ax nx cx xs:=d.kept h.grown (Or.inr b)
theorem Tot.sep (h:Tot w a base wr a' n c zs) (i:SlN .u64 w ax nx cx xs) (h0:0<nx) (d:blk ax≠blk a) {g:Nat} (f:blk a'=some g):blk ax≠some g:=by
 rcases h.src with e|⟨j,e,b⟩
 · rw [<-f,e]; exact d
 · rw [f] at e;simp only [Option.some.injEq] at e;subst e;exact i.fresh b h0
end
def Fb:Value->Nat | .slice _ n _=>n | _=>0
theorem MJ {S wd cy:Nat} (a:W.val B zs=V+X*S) (h:W.val B zs'+cy*B^(i+n)=W.val B zs+wd*X*B^i):W.val B zs'+cy*B^(i+n)=V+X*(S+B^i*wd):=by
 rw [h,a];generalize B^i=p
 grind
def UK (w:World) (a:Option Addr) (base n m V:Nat) (e:Ending) (w':World):Prop :=
 ∃ a' n' c' zs,e = .returned (.slice a' n' c')/\Tot w a base w' a' n' c' zs/\W.val 18446744073709551616 zs=V/\n'<=max n m+40
theorem Cp {base q aF Y:Nat} (hO:Own w base 238 a n c (zs.map (Bi .u64))) (bz:W.bnd 18446744073709551616 zs) (hV:W.val 18446744073709551616 zs=V) (T:SlN .u64 w ax nx cx xs) (hy:SlN .u64 w ay q aF ys) (nX:Num 18446744073709551616 xs X) (nY:Num 18446744073709551616 ys Y) (aM:0<nx) (aN:0<q) (ap:blk ax≠blk a) (aq:blk ay≠blk a) (h40:nx<40\/q<40) (bx:nx<=100000) (aP:q<=100000) (bn:n<=1000000000) (hb:base<=w.heap.size) :
 Calls prog 263 #[.slice a n c, .slice ax nx cx, .slice ay q aF] w (UK w a base n (nx+q) (V+X*Y)):=by
 have HX:=qh T.len;have HY:=qh hy.len;have NX:=qh nX;have NY:=qh nY;have HV:=qh hV;clear nX nY hV;by_cases hs:nx<q
 · go_enter func263,ntmps263
   go_wp2
   go_loopw [0] (fun I wr=>∃ (J:Option Addr) (t c':Nat) (r:List Nat),I = .slice J t c'/\Tot w a base wr J t c' r/\t<=max n (nx+q)/\Hid (W.val 18446744073709551616 r=V)) (fun I _=>q+nx-Fb I)
   case atStart=>exact ⟨a,n,c,zs,rfl,⟨B5 _ _,hO,Or.inl rfl,bz⟩,by omega,HV⟩
   case round =>
    obtain ⟨a1,R,c1,ak,rfl,m,aC,L⟩:=hrel;have af:=m.grown.size;by_cases z:R<q+nx
    · have hA:=(Ext.refl wr).alloc (.cells #[.int .u64 0] 238);have y:=m.ext hA;have D:=y.own;have E:=(Az wr base 238 #[.int .u64 0] 1 rfl (by omega) (by omega)).sl
      go_wp2_with (refine Bj rfl rfl underlying81 AA rfl rfl D rfl E (by simp [Value.oneCell']) (by unfold maxLen; omega) (by omega) (by simp; omega) ?_; intro a2 C w2 av H aw)
      go_roundw
      case rel =>
       refine ⟨a2,R+1,C,ak ++ [0],rfl,y.step H (by rw [List.map_append]; exact av) aw (W.bnd_app m.bnd (by intro x T; simp at T; omega)),by omega,qh ?_⟩;rw [W.val_snoc,L.out,Nat.mul_zero,Nat.add_zero]
      case measure=>simp [Fb]; omega
    · obtain ⟨wo,rfl⟩:∃ x:World,x=wr:=⟨_,rfl⟩;clear af;have ao:R=max n (nx+q)\/R=R:=Or.inr rfl;clear ao;go_wp2
      go_loopw [0,38] (fun I iv wr=>∃ (i:Nat) (J:Option Addr) (t c':Nat) (r:List Nat),I = .slice J t c'/\iv = .int .i64 i/\i<=nx/\Tot w a base wr J t c' r/\q+nx<=t/\t<=max n (nx+q)+i/\Hid (W.val 18446744073709551616 r=V+Y*W.val 18446744073709551616 (xs.take i))) (fun _ iv _=>nx-(intOf iv).toNat)
      case atStart=>exact ⟨0,a1,R,c1,ak,rfl,rfl,Nat.zero_le _,m,by omega,by omega,qh (by rw [L.out]; simp [W.val])⟩
      case round =>
       clear m aC L z;obtain ⟨i,a2,S,C,zs2,rfl,rfl,hi,m,ad,ac,M⟩:=hrel;by_cases z:i<nx
       · obtain ⟨g,rfl,az,aA⟩:=m.own.place (by omega);have ah:=m.slice T ap;obtain ⟨b9,o9,e9,a8⟩:=ah.at (j:=i) z;subst e9;have g9:=a8 i z;have aE:=W.bnd_at NX.out.bnd (i:=i) (by rw [HX.out]; exact z);have ar:=qh (W.val_take_succ (B:=18446744073709551616) (xs:=xs) (i:=i) (by rw [HX.out]; exact z))
         have aD:∀ v:World,(Instr.sliceAt 81 (.slice (some ⟨g,0,none⟩) S C) (some (.int .i64 i)) (some (.int .i64 ((i:Int)+q))) none).run prog v = .ok (.slice (some ⟨g,i,none⟩) q (C-i)) v:=fun v=>by
          have aG:=m.own.cap;have:=BG (P:=prog) (w:=v) (g:=g) (n:=S) (c:=C) (lo:=i) (hi:=i+q) underlying81 AA (by omega) (by omega) (by omega);rw [Nat.add_sub_cancel_left,Int.natCast_add] at this;exact this
         have aL:IntKind.i64.wrap ((i:Int)+q)=(i:Int)+q:=IntWalk.i64_in _ (by omega);have p:Av .u64 wr base 238 g S C zs2:=m.own;have hp:=Cn (w:=wr) (o:=i) (c':=C-i) p (m.slice hy aq) (Or.inr (m.sep hy aN aq rfl)) (by omega) m.bnd NY.out.bnd aE;have au:=qh NY.out.val;generalize xs.getD i 0=wd at *
         clear a8
         go_upto_region 11 with (fail)
         refine hp.mono ?_;rintro e w2 ⟨f,Q,rfl,G,H,aj,Z,ag,aB⟩;have a3:Tot w a base w2 (some ⟨g,0,none⟩) S C Q:=m.step H aj (Or.inl rfl) Z;have U:Hid (W.val 18446744073709551616 Q+f*18446744073709551616^(i+q)=V+Y*W.val 18446744073709551616 (xs.take (i+1))):=qh (by rw [ar.out]; exact MJ M.out (by rw [<-au.out]; exact ag));clear hp aD ag aB aj H Z p M m g9 ah;go_wp2
         go_loopw [0,9,10] (fun I cv kv wr=>∃ (k f:Nat) (J:Option Addr) (t c':Nat) (r:List Nat),I = .slice J t c'/\cv = .int .u64 f/\kv = .int .i64 k/\f<18446744073709551616/\k<=t/\Tot w a base wr J t c' r/\q+nx<=t/\(t<=max n (nx+q)+i\/(t<=max n (nx+q)+i+1/\f=0))/\Hid (W.val 18446744073709551616 r+f*18446744073709551616^k=V+Y*W.val 18446744073709551616 (xs.take (i+1)))) (fun I cv kv _=>Fb I-(intOf kv).toNat+min 1 (intOf cv).toNat)
         case atStart=>exact ⟨i+q,f,_,S,C,Q,rfl,rfl,by go_num,G,by omega,a3,ad,Or.inl ac,U⟩
         case round =>
          clear a3 U ad ac G az aA;obtain ⟨k,f,a4,O,c4,d,rfl,rfl,rfl,G,hk,m,ae,aK,N⟩:=hrel;by_cases a7:f=0
          · subst a7;go_wp2;go_roundw
            case rel=>exact ⟨i+1,a4,O,c4,d,rfl,by go_num,by omega,m,ae,by omega,qh (by have:=N.out; rw [Nat.zero_mul,Nat.add_zero] at this; exact this)⟩
            case measure=>simp [intOf]; omega
          · have an:O<=max n (nx+q)+i:=by omega
            have aH:((f:Int) != 0)=true:=FO (b:=0) a7;have aJ:¬ ((f:Int)=0):=by omega
            have af:=m.grown.size;by_cases aa:k=O
            · subst aa;have hA:=(Ext.refl wr).alloc (.cells #[.int .u64 0] 238);have y:=m.ext hA;have D:=y.own;have E:=(Az wr base 238 #[.int .u64 0] 1 rfl (by omega) (by omega)).sl
              go_upto_region 16 with (refine Bj rfl rfl underlying81 AA rfl rfl D rfl E (by simp [Value.oneCell']) (by unfold maxLen; omega) (by omega) (by simp; omega) ?_; intro a5 c5 w5 a0 a9 a6)
              have F:Tot w a base w5 a5 (k+1) c5 (d ++ [0]):=y.step a9 (by rw [List.map_append]; exact a0) a6 (W.bnd_app m.bnd (by intro x T; simp at T; omega));have ab:=m.len;clear a0 a9 a6 E D y hA m;obtain ⟨g5,rfl,al,am⟩:=F.own.place (by omega);have p:Av .u64 w5 base 238 g5 (k+1) c5 (d ++ [0]):=F.own;have q2:=p.cell (i:=k) (by omega);have q3:=p.frozen k;have ai:(d ++ [0]).getD k 0=0:=by rw [gqq,List.getElem?_append_right (by omega),ab,Nat.sub_self]; rfl
              rw [ai] at q2;have K:∀ v:World,(callFunc 300 #[.int .u64 0, .int .u64 (f:Int), .int .u64 0]).run prog v = .ok (.value (.tuple #[.int .u64 (((0+f+0)%18446744073709551616:Nat):Int), .int .u64 (((0+f+0)/18446744073709551616:Nat):Int)])) v:=fun v=>Bs 0 f 0 (by omega) v;have e1:(0+f+0)%18446744073709551616=f:=by omega
              have e2:(0+f+0)/18446744073709551616=0:=by omega
              rw [e1,e2] at K;have HS:=qh (W.add_step0 (B:=18446744073709551616) (l:=d ++ [0]) (k:=k) (s:=f) (c':=0) (V:=V+Y*W.val 18446744073709551616 (xs.take (i+1))) (c:=f) (by simp [ab]) (by rw [W.val_snoc,Nat.mul_zero,Nat.add_zero]; exact N.out) (by rw [ai]; omega));go_wp2;go_roundw
              case rel=>exact ⟨k+1,0,_,k+1,c5,_,rfl,rfl,by go_num,by omega,by omega,F.step (Af w5 g5 k (.int .u64 (f:Int))) (p.set k f) (Or.inl rfl) (W.bnd_set F.bnd G),by omega,Or.inr ⟨by omega,rfl⟩,HS⟩
              case measure =>
               simp only [Fb,intOf];omega
            · have A:k<O:=by omega
              have aI:((k:Int) == O)=false:=FP aa;obtain ⟨g5,rfl,al,am⟩:=m.own.place (by omega);have p:Av .u64 wr base 238 g5 O c4 d:=m.own;have q2:=p.cell (i:=k) A;have q3:=p.frozen k;have aO:=W.bnd_at m.bnd (i:=k) (by rw [m.len]; exact A);have HS:=qh (W.add_step0 (B:=18446744073709551616) (l:=d) (k:=k) (s:=(d.getD k 0+f+0)%18446744073709551616) (c':=(d.getD k 0+f+0)/18446744073709551616) (by rw [m.len]; exact A) N.out (by rw [RW]; omega))
              have K:∀ v:World,(callFunc 300 #[.int .u64 ((d.getD k 0:Nat):Int), .int .u64 (f:Int), .int .u64 0]).run prog v = .ok (.value (.tuple #[.int .u64 (((d.getD k 0+f+0)%18446744073709551616:Nat):Int), .int .u64 (((d.getD k 0+f+0)/18446744073709551616:Nat):Int)])) v:=fun v=>Bs (d.getD k 0) f 0 (by omega) v;have hs:(d.getD k 0+f+0)%18446744073709551616<18446744073709551616:=Nat.mod_lt _ (by omega);have hC:(d.getD k 0+f+0)/18446744073709551616<18446744073709551616:=by omega
              generalize (d.getD k 0+f+0)%18446744073709551616=s at *
              generalize (d.getD k 0+f+0)/18446744073709551616=cc at *
              generalize d.getD k 0=u at *
              go_wp2;go_roundw
              case rel=>exact ⟨k+1,cc,_,O,c4,d.set k s,rfl,rfl,by go_num,hC,by omega,m.step (zs2:=d.set k s) (Af wr g5 k (.int .u64 (s:Int))) (p.set k s) (Or.inl rfl) (W.bnd_set m.bnd hs),ae,Or.inl an,HS⟩
              case measure =>
               simp only [Fb,intOf];omega
       · have ei:i=nx:=by omega
         subst ei;go_wp2;go_ret;refine ⟨a2,S,C,zs2,rfl,m, ?_,by omega⟩;rw [M.out,List.take_of_length_le (by rw [HX.out]; exact lrf _),NX.out.val];rw [Nat.mul_comm Y X]
 · go_enter func263,ntmps263
   go_wp2
   go_loopw [0] (fun I wr=>∃ (J:Option Addr) (t c':Nat) (r:List Nat),I = .slice J t c'/\Tot w a base wr J t c' r/\t<=max n (nx+q)/\Hid (W.val 18446744073709551616 r=V)) (fun I _=>nx+q-Fb I)
   case atStart=>exact ⟨a,n,c,zs,rfl,⟨B5 _ _,hO,Or.inl rfl,bz⟩,by omega,HV⟩
   case round =>
    obtain ⟨a1,R,c1,ak,rfl,m,aC,L⟩:=hrel;have af:=m.grown.size;by_cases z:R<nx+q
    · have hA:=(Ext.refl wr).alloc (.cells #[.int .u64 0] 238);have y:=m.ext hA;have D:=y.own;have E:=(Az wr base 238 #[.int .u64 0] 1 rfl (by omega) (by omega)).sl
      go_wp2_with (refine Bj rfl rfl underlying81 AA rfl rfl D rfl E (by simp [Value.oneCell']) (by unfold maxLen; omega) (by omega) (by simp; omega) ?_; intro a2 C w2 av H aw)
      go_roundw
      case rel =>
       refine ⟨a2,R+1,C,ak ++ [0],rfl,y.step H (by rw [List.map_append]; exact av) aw (W.bnd_app m.bnd (by intro x T; simp at T; omega)),by omega,qh ?_⟩;rw [W.val_snoc,L.out,Nat.mul_zero,Nat.add_zero]
      case measure=>simp [Fb]; omega
    · obtain ⟨wo,rfl⟩:∃ x:World,x=wr:=⟨_,rfl⟩;clear af;have ao:R=max n (nx+q)\/R=R:=Or.inr rfl;clear ao;go_wp2
      go_loopw [0,38] (fun I iv wr=>∃ (i:Nat) (J:Option Addr) (t c':Nat) (r:List Nat),I = .slice J t c'/\iv = .int .i64 i/\i<=q/\Tot w a base wr J t c' r/\nx+q<=t/\t<=max n (nx+q)+i/\Hid (W.val 18446744073709551616 r=V+X*W.val 18446744073709551616 (ys.take i))) (fun _ iv _=>q-(intOf iv).toNat)
      case atStart=>exact ⟨0,a1,R,c1,ak,rfl,rfl,Nat.zero_le _,m,by omega,by omega,qh (by rw [L.out]; simp [W.val])⟩
      case round =>
       clear m aC L z;obtain ⟨i,a2,S,C,zs2,rfl,rfl,hi,m,ad,ac,M⟩:=hrel;by_cases z:i<q
       · obtain ⟨g,rfl,az,aA⟩:=m.own.place (by omega);have ah:=m.slice hy aq;obtain ⟨b9,o9,e9,a8⟩:=ah.at (j:=i) z;subst e9;have g9:=a8 i z;have aE:=W.bnd_at NY.out.bnd (i:=i) (by rw [HY.out]; exact z);have ar:=qh (W.val_take_succ (B:=18446744073709551616) (xs:=ys) (i:=i) (by rw [HY.out]; exact z))
         have aD:∀ v:World,(Instr.sliceAt 81 (.slice (some ⟨g,0,none⟩) S C) (some (.int .i64 i)) (some (.int .i64 ((i:Int)+nx))) none).run prog v = .ok (.slice (some ⟨g,i,none⟩) nx (C-i)) v:=fun v=>by
          have aG:=m.own.cap;have:=BG (P:=prog) (w:=v) (g:=g) (n:=S) (c:=C) (lo:=i) (hi:=i+nx) underlying81 AA (by omega) (by omega) (by omega);rw [Nat.add_sub_cancel_left,Int.natCast_add] at this;exact this
         have aL:IntKind.i64.wrap ((i:Int)+nx)=(i:Int)+nx:=IntWalk.i64_in _ (by omega);have p:Av .u64 wr base 238 g S C zs2:=m.own;have hp:=Cn (w:=wr) (o:=i) (c':=C-i) p (m.slice T ap) (Or.inr (m.sep T aM ap rfl)) (by omega) m.bnd NX.out.bnd aE;have au:=qh NX.out.val;generalize ys.getD i 0=wd at *
         clear a8
         go_upto_region 11 with (fail)
         refine hp.mono ?_;rintro e w2 ⟨f,Q,rfl,G,H,aj,Z,ag,aB⟩;have a3:Tot w a base w2 (some ⟨g,0,none⟩) S C Q:=m.step H aj (Or.inl rfl) Z;have U:Hid (W.val 18446744073709551616 Q+f*18446744073709551616^(i+nx)=V+X*W.val 18446744073709551616 (ys.take (i+1))):=qh (by rw [ar.out]; exact MJ M.out (by rw [<-au.out]; exact ag));clear hp aD ag aB aj H Z p M m g9 ah;go_wp2
         go_loopw [0,9,10] (fun I cv kv wr=>∃ (k f:Nat) (J:Option Addr) (t c':Nat) (r:List Nat),I = .slice J t c'/\cv = .int .u64 f/\kv = .int .i64 k/\f<18446744073709551616/\k<=t/\Tot w a base wr J t c' r/\nx+q<=t/\(t<=max n (nx+q)+i\/(t<=max n (nx+q)+i+1/\f=0))/\Hid (W.val 18446744073709551616 r+f*18446744073709551616^k=V+X*W.val 18446744073709551616 (ys.take (i+1)))) (fun I cv kv _=>Fb I-(intOf kv).toNat+min 1 (intOf cv).toNat)
         case atStart=>exact ⟨i+nx,f,_,S,C,Q,rfl,rfl,by go_num,G,by omega,a3,ad,Or.inl ac,U⟩
         case round =>
          clear a3 U ad ac G az aA;obtain ⟨k,f,a4,O,c4,d,rfl,rfl,rfl,G,hk,m,ae,aK,N⟩:=hrel;by_cases a7:f=0
          · subst a7;go_wp2;go_roundw
            case rel=>exact ⟨i+1,a4,O,c4,d,rfl,by go_num,by omega,m,ae,by omega,qh (by have:=N.out; rw [Nat.zero_mul,Nat.add_zero] at this; exact this)⟩
            case measure=>simp [intOf]; omega
          · have an:O<=max n (nx+q)+i:=by omega
            have aH:((f:Int) != 0)=true:=FO (b:=0) a7;have aJ:¬ ((f:Int)=0):=by omega
            have af:=m.grown.size;by_cases aa:k=O
            · subst aa;have hA:=(Ext.refl wr).alloc (.cells #[.int .u64 0] 238);have y:=m.ext hA;have D:=y.own;have E:=(Az wr base 238 #[.int .u64 0] 1 rfl (by omega) (by omega)).sl
              go_upto_region 16 with (refine Bj rfl rfl underlying81 AA rfl rfl D rfl E (by simp [Value.oneCell']) (by unfold maxLen; omega) (by omega) (by simp; omega) ?_; intro a5 c5 w5 a0 a9 a6)
              have F:Tot w a base w5 a5 (k+1) c5 (d ++ [0]):=y.step a9 (by rw [List.map_append]; exact a0) a6 (W.bnd_app m.bnd (by intro x T; simp at T; omega));have ab:=m.len;clear a0 a9 a6 E D y hA m;obtain ⟨g5,rfl,al,am⟩:=F.own.place (by omega);have p:Av .u64 w5 base 238 g5 (k+1) c5 (d ++ [0]):=F.own;have q2:=p.cell (i:=k) (by omega);have q3:=p.frozen k;have ai:(d ++ [0]).getD k 0=0:=by rw [gqq,List.getElem?_append_right (by omega),ab,Nat.sub_self]; rfl
              rw [ai] at q2;have K:∀ v:World,(callFunc 300 #[.int .u64 0, .int .u64 (f:Int), .int .u64 0]).run prog v = .ok (.value (.tuple #[.int .u64 (((0+f+0)%18446744073709551616:Nat):Int), .int .u64 (((0+f+0)/18446744073709551616:Nat):Int)])) v:=fun v=>Bs 0 f 0 (by omega) v;have e1:(0+f+0)%18446744073709551616=f:=by omega
              have e2:(0+f+0)/18446744073709551616=0:=by omega
              rw [e1,e2] at K;have HS:=qh (W.add_step0 (B:=18446744073709551616) (l:=d ++ [0]) (k:=k) (s:=f) (c':=0) (V:=V+X*W.val 18446744073709551616 (ys.take (i+1))) (c:=f) (by simp [ab]) (by rw [W.val_snoc,Nat.mul_zero,Nat.add_zero]; exact N.out) (by rw [ai]; omega));go_wp2;go_roundw
              case rel=>exact ⟨k+1,0,_,k+1,c5,_,rfl,rfl,by go_num,by omega,by omega,F.step (Af w5 g5 k (.int .u64 (f:Int))) (p.set k f) (Or.inl rfl) (W.bnd_set F.bnd G),by omega,Or.inr ⟨by omega,rfl⟩,HS⟩
              case measure =>
               simp only [Fb,intOf];omega
            · have A:k<O:=by omega
              have aI:((k:Int) == O)=false:=FP aa;obtain ⟨g5,rfl,al,am⟩:=m.own.place (by omega);have p:Av .u64 wr base 238 g5 O c4 d:=m.own;have q2:=p.cell (i:=k) A;have q3:=p.frozen k;have aO:=W.bnd_at m.bnd (i:=k) (by rw [m.len]; exact A);have HS:=qh (W.add_step0 (B:=18446744073709551616) (l:=d) (k:=k) (s:=(d.getD k 0+f+0)%18446744073709551616) (c':=(d.getD k 0+f+0)/18446744073709551616) (by rw [m.len]; exact A) N.out (by rw [RW]; omega))
              have K:∀ v:World,(callFunc 300 #[.int .u64 ((d.getD k 0:Nat):Int), .int .u64 (f:Int), .int .u64 0]).run prog v = .ok (.value (.tuple #[.int .u64 (((d.getD k 0+f+0)%18446744073709551616:Nat):Int), .int .u64 (((d.getD k 0+f+0)/18446744073709551616:Nat):Int)])) v:=fun v=>Bs (d.getD k 0) f 0 (by omega) v;have hs:(d.getD k 0+f+0)%18446744073709551616<18446744073709551616:=Nat.mod_lt _ (by omega);have hC:(d.getD k 0+f+0)/18446744073709551616<18446744073709551616:=by omega
              generalize (d.getD k 0+f+0)%18446744073709551616=s at *
              generalize (d.getD k 0+f+0)/18446744073709551616=cc at *
              generalize d.getD k 0=u at *
              go_wp2;go_roundw
              case rel=>exact ⟨k+1,cc,_,O,c4,d.set k s,rfl,rfl,by go_num,hC,by omega,m.step (zs2:=d.set k s) (Af wr g5 k (.int .u64 (s:Int))) (p.set k s) (Or.inl rfl) (W.bnd_set m.bnd hs),ae,Or.inl an,HS⟩
              case measure =>
               simp only [Fb,intOf];omega
       · have ei:i=q:=by omega
         subst ei;go_wp2;go_ret;refine ⟨a2,S,C,zs2,rfl,m, ?_,by omega⟩;rw [M.out,List.take_of_length_le (by rw [HY.out]; exact lrf _),NY.out.val]
def C1 (j:Nat) (o:Oper):Oper:={ o with after:=o.after.push { on:=j,ground := .data } }
theorem G5 (j:Nat) (o:Oper) (d:Operand->Value):execOp d (C1 j o)=execOp d o:=by
 obtain ⟨e,f,c,g,a,b⟩:=o;cases f <;> rfl
section
variable {P:Program} {Q:Exit->Act->World->Prop}
theorem Ga (l:List Oper) (m j:Nat):(l.modify m (C1 0)).toArray[j]?=(l.toArray[j]?).map (fun o=>if m=j then C1 0 o else o):=by
 simp only [List.getElem?_toArray,List.getElem?_modify];cases l[j]? with
 | none=>rfl
 | some o=>by_cases h:m=j <;> simp [h]
theorem Fr {L:Array Bool} (h0:L.getD 0 false=true):j∈Region.ready .any (l.modify m (C1 0)).toArray L<->j∈Region.ready .any l.toArray L:=by
 rw [mem_ready,mem_ready,Ga];constructor
 · rintro ⟨h1,o,b,a⟩;cases d:l.toArray[j]? with
   | none=>rw [d] at b; cases b
   | some o' =>
    rw [d] at b;simp only [Option.map_some,Option.some.injEq] at b;refine ⟨h1,o',rfl,fun e he c=>a e ?_ c⟩;rw [<-b];split
    · exact Array.mem_push_of_mem _ he
    · exact he
 · rintro ⟨h1,o,b,a⟩;rw [b];refine ⟨h1,_,rfl,fun e he c => ?_⟩;split at he
   · rcases Array.mem_push.1 he with he|he
     · exact a e he c
     · rw [he]; exact h0
   · exact a e he c
theorem Lg (l:List Oper) (m:Nat) (t:Array Value):yielded (l.modify m (C1 0)).toArray t=yielded l.toArray t:=by
 funext g;unfold yielded;rw [Ga];cases l.toArray[g]? with
 | none=>rfl
 | some o=>by_cases h:m=g <;> simp [h,C1]
theorem PY {K:Act->World->Prop} {a:Act} (h:wpOp P (l.modify m (C1 0)).toArray Q i K a w):wpOp P l.toArray Q i K a w:=by
 unfold wpOp at *
 rw [Ga] at h;cases c:l.toArray[i]? with
 | none=>rw [c] at h; exact h
 | some o =>
  rw [c] at h;simp only [Option.map_some,Lg] at h;by_cases b:m=i
  · simp only [if_pos b] at h;have d:Region.wanted (C1 0 o) (yielded l.toArray a.tmps)=Region.wanted o (yielded l.toArray a.tmps):=rfl;have e:Oper.wp P (C1 0 o) a w K Q=Oper.wp P o a w K Q:=by unfold Oper.wp; rw [G5]; rfl
    have f:Oper.asks P (C1 0 o) a w=Oper.asks P o a w:=by unfold Oper.asks; rw [G5]
    rw [d,e,f] at h;exact h
  · simp only [if_neg b] at h;exact h
theorem I9 {l:List Oper} {m:Nat}:∀ (f:Nat) (L:Array Bool) (a:Act) (w:World),L.getD 0 false=true->wpAny P .any (l.modify m (C1 0)).toArray Q f L a w->wpAny P .any l.toArray Q f L a w
 | 0,L,a,w,h0,h=>by
  refine ⟨?_,h.2⟩;refine List.eq_nil_iff_forall_not_mem.2 fun j b => ?_;have:=(Fr (m:=m) h0).2 b;rw [h.1] at this;cases this
 | f+1,L,a,w,h0,h=>by
  refine ⟨fun g=>h.1 (List.eq_nil_iff_forall_not_mem.2 fun j b => ?_),fun i e => ?_⟩
  · have:=(Fr h0).1 b;rw [g] at this;cases this
  · exact wpOp_mono (fun c k d=>I9 f _ c k (getD_set_true h0) d) (PY (h.2 i ((Fr h0).2 e)))
def Us:Op->Bool | .select _ _=>true | _=>false
def OT (ops:Array Oper):Bool :=
 (match ops[0]? with
  | some o=>(match o.op with | .move _=>true | _=>false) && o.guard.isNone && o.after.isEmpty && (List.range ops.size).all (fun j=>j == 0 || (match ops[j]? with | some oj=>oj.after.any (fun e=>Region.binds .any e && e.on == 0) || o.apart ops oj | none=>true))
  | none=>false) && (List.range ops.size).all (fun j=>match ops[j]? with | some o => !Us o.op | none=>true)
theorem BU {id:Nat} {a:Act} (m:Nat) (J:m≠0) (Z:P.follows .mixedOrders=true) (C:World->Prop) (n:List Hd)
 (L:Cf (l.modify m (C1 0)).toArray (n.map (·.cons)) a.tmps.size=true) (f:OT l.toArray=true)
 (W:∀ c a w d v,Q (.panic c) (Act.put a d v) w->Q (.panic c) a w)
 (E:∀ w p,Ext w p->C w->C p) (V:C w.drew) (O:FH n)
 (B:KC P C (l.modify m (C1 0)).toArray n a 0 (l.modify m (C1 0)) n)
 (r:∀ p,C p->DA p (fun U=>wpList P (l.modify m (C1 0)).toArray Q ((l.modify m (C1 0)).drop n.length) U p) (l.modify m (C1 0)) n a):(Code.region id l.toArray true).wp P Q a w:=by
 have h:=F9 (P:=P) (Q:=Q) C n L E V O B r;refine wp_region_any Z ?_;unfold OT at f;simp only [Bool.and_eq_true] at f;obtain ⟨h1,h2⟩:=f;cases h0:l.toArray[0]? with
 | none=>rw [h0] at h1; cases h1
 | some o =>
  rw [h0] at h1;simp only [Bool.and_eq_true] at h1;obtain ⟨⟨⟨z,I⟩,F⟩,G⟩:=h1;obtain ⟨x,R⟩:∃ x,o.op = .move x:=by
   cases M:o.op <;> rw [M] at z <;> first | exact ⟨_,rfl⟩ | cases z
  have s:o.guard=none:=by simpa using I
  have q:o.after=#[]:=by simpa using F
  have a0:0<l.toArray.size:=(Array.getElem?_eq_some_iff.1 h0).1;have y:(l.modify m (C1 0)).toArray.size=l.toArray.size:=by simp
  rw [y] at h;obtain ⟨k,Y⟩:∃ k,l.toArray.size=k+1:=⟨l.toArray.size-1,by omega⟩;rw [Y] at h |-;have hy:Yields P l.toArray o (a.eval x) a:=Or.inl ⟨by simp [Region.wanted,s],fun w=>by simp only [execOp,R]; rfl⟩;have hr:0∈Region.ready .any l.toArray (Array.replicate (k+1) false):=by
   rw [mem_ready];refine ⟨by simp,o,h0,fun e he => ?_⟩;rw [q] at he;simp at he
  have D:∀ (j:Nat) (o:Oper) S b,l.toArray[j]?=some o->o.op ≠ .select S b:=by
   intro j oj S b t X;have g:j<l.toArray.size:=(Array.getElem?_eq_some_iff.1 t).1;have:=List.all_eq_true.1 h2 j (List.mem_range.2 g);rw [t] at this;simp [X,Us] at this
  refine wpAny_first (i:=0) (oi:=o) (v:=a.eval x) h0 D (fun c a w=>W c a w _ _) k _ a _ ?_ hr hy ?_
  · intro j oj t K _ A;have g:j<l.toArray.size:=(Array.getElem?_eq_some_iff.1 t).1;have:=List.all_eq_true.1 G j (List.mem_range.2 g);rw [t] at this;simp only [Bool.or_eq_true,beq_iff_eq] at this;rcases this with h|h|h
    · exact absurd h K
    · obtain ⟨e,he,H⟩:=Array.any_eq_true'.1 h;simp only [Bool.and_eq_true,beq_iff_eq] at H;exact absurd H.2 (A e he H.1)
    · exact h
  · refine I9 (m:=m) k _ _ _ (by simp) ?_;have T:(l.modify m (C1 0)).toArray[0]?=some o:=by rw [Ga,h0]; simp [J]
    have N:0∈Region.ready .any (l.modify m (C1 0)).toArray (Array.replicate (k+1) false):=by
     rw [mem_ready];refine ⟨by simp,o,T,fun e he => ?_⟩;rw [q] at he;simp at he
    have h3:=h.2 0 N;unfold wpOp at h3;rw [T] at h3;simp only at h3;rw [if_pos (by simp [Region.wanted,s])] at h3;rcases h3 with h3|h3
    · simp only [Oper.wp,execOp,R] at h3;exact h3
    · exfalso;have:=h3.1;simp only [Oper.asks,execOp,R] at this;exact absurd (show noRoomEvent∈(#[]:Array Event) from this.1) (by simp)
end
theorem Ut {y:Nat} (f:Wd w a n c x) (g:Wd w b m d y) (i:x<P2 9600) (e:y<P2 9600) :
 Calls prog 255 #[.slice a n c, .slice b m d] w (Jv w (x+y)):=by
 have h1:=f.len (k:=150) i;have h2:=g.len (k:=150) e;obtain ⟨j,h3,h4⟩:=f;obtain ⟨l,h5,h6⟩:=g;exact (K0 h3 h5 h4 h6 (by omega) (by omega)).mono fun _ _ h=>h.wd
theorem SP {y:Nat} (f:Wd w a n c x) (i:Wd w b m d y) (g:x<P2 9600) (e:y<=x) :
 Calls prog 256 #[.slice a n c, .slice b m d] w (Jv w (x-y)):=by
 have h1:=f.len (k:=150) g;obtain ⟨j,h3,h4⟩:=f;obtain ⟨l,h5,h6⟩:=i;exact (FX h3 h5 h4 h6 (by omega) e).mono fun _ _ h=>h.wd
theorem SQ {y:Nat} (f:Wd w a n c x) (g:Wd w b m d y) :
 Calls prog 232 #[.slice a n c, .slice b m d] w fun e i=>e = .returned (.int .i64 (AN x y))/\Qt w i:=by
 obtain ⟨j,h3,h4⟩:=f;obtain ⟨k,h5,h6⟩:=g;exact A0 h3 h5 h4 h6
def Uu (w:World) (q r:Nat) (e:Ending) (w':World):Prop:=∃ a n c a' n' c',e = .returned (.tuple #[.slice a n c, .slice a' n' c'])/\Ext w w'/\Wd w' a n c q/\Wd w' a' n' c' r/\FY w.heap.size (fun _=>False) a n
theorem SR {y:Nat} (l:Wd w a n c x) (o:Wd w b m d y) (r:x<P2 9600) (g:y<P2 9600) (h0:0<y) :
 Calls prog 240 #[.slice a n c, .slice b m d] w (Uu w (x/y) (x%y)):=by
 have h1:=l.len (k:=150) r;have h2:=o.len (k:=150) g;obtain ⟨F,h3,h4⟩:=l;obtain ⟨G,h5,h6⟩:=o;refine (CT h3 h5 h4 h6 (by omega) (by omega) h0 (by omega)).mono ?_;rintro e E ⟨p,B,s,i,q,C,t,j,rfl,v,s1,z,D,A,f⟩;exact ⟨p,B,s,q,C,t,rfl,v,⟨i,s1,z⟩,⟨j,D,A⟩,f⟩
def Ja (w:World) (S:Nat->Prop) (z:Int) (e:Ending) (w':World):Prop:=∃ s a n c,e = .returned (.agg (Ac s a n c).toArray)/\Ext w w'/\Hid (decide (z<0)=s)/\Wd w' a n c z.natAbs/\FY w.heap.size S a n
theorem Ja.plain {S:Nat->Prop} {e:Ending} (h:Ja w S z e w'):DI w z e w':=by
 obtain ⟨s,a,n,c,h1,h2,h3,h4,_⟩:=h;exact ⟨s,a,n,c,h1,h2,h3,h4⟩
def GK (S:Nat->Prop) (v:Value):Prop:=∀ s a n c,v = .agg (Ac s a n c).toArray->0<n->∀ g,blk a=some g->S g
theorem GK.at {S:Nat->Prop} (h:GK S (.agg (Ac s a n c).toArray)):0<n->∀ g,blk a=some g->S g:=h s a n c rfl
theorem C2 {S:Nat->Prop} (h:0<n->∀ g,blk a=some g->S g):GK S (.agg (Ac s a n c).toArray):=by
 intro i b f d e;simp only [Ac,Value.agg.injEq,Array.mk.injEq,List.cons.injEq,Value.bool.injEq,Value.slice.injEq,and_true] at e;obtain ⟨_,rfl,rfl,rfl⟩:=e;exact h
theorem ST (a:x<18446744073709551616):Calls prog 217 #[.int .u64 x] w (Jv w x):=(CY a).mono fun _ _ h=>h.wd
theorem EI {S:Nat->Prop} (f:Ext w w1) (g:Arr w1 R t cs) (b:∀ v∈cs,∀ i,v ≠ .int .u64 i) (d:w1.grownBy w9 (some R)) (k:w.heap.size<=R) (e:Hid (decide (z<0)=s)) (l:Wd w1 a n c z.natAbs) (j:FY w.heap.size S a n):Ja w S z (.returned (.agg (Ac s a n c).toArray)) w9 :=
 ⟨s,a,n,c,rfl,f.grownR d k,e,l.kept g b d,j⟩
theorem Bc (f:Ext w w1) (g:Arr w1 R t cs) (b:∀ v∈cs,∀ i,v ≠ .int .u64 i) (d:w1.grownBy w9 (some R)) (j:w.heap.size<=R) (e:Hid (decide (z<0)=s)) (k:Wd w1 a n c z.natAbs):DI w z (.returned (.agg (Ac s a n c).toArray)) w9 :=
 ⟨s,a,n,c,rfl,f.grownR d j,e,k.kept g b d⟩
theorem SD (h:AB w v z):Calls prog 140 #[v] w (DI w (-z)):=by
 obtain ⟨s,a,n,c,rfl,q,y⟩:=h
 go_enter func140,ntmps140
 go_upto_region 1 with (fail)
 refine Dm ?_;intro D d b j p;have B:=b.c 0 rfl;have C:=b.c 1 rfl;have m:=qh (Bm (neg := !s) (y.ext d) (z := -z) (by rw [<-q.out]; by_cases h:z<0 <;> simp [h] <;> omega));have x:Arr D (w.heap.size+1) 83 (Ac false none 0 0):=j;clear p
 go_wp2_with fail
 refine m.out.mono ?_;rintro e E ⟨s1,r,A,t,rfl,f,i,o⟩;have g:=x.ext f
 go_wp2_with (refine Aa (vs:=Ac s1 r A t) rfl rfl rfl rfl rfl Ag g rfl (Ad _ _ _ _) ?_; intro F k l)
 exact bodyPost_ret (Al rfl Ag rfl k) rfl (Bc (d.trans f) g (Ay _ _ _ _) l (by omega) i o)
theorem AM (h:AB w v z) {r:Bool} (f:decide (z=0)=r):Calls prog 162 #[v] w fun e m=>e = .returned (.bool r)/\Ext w m:=by
 obtain ⟨s,a,n,c,rfl,o,i⟩:=h;have g:((n:Int) == 0)=r:=by
  have:=i.zero;rw [<-f,Bool.eq_iff_iff];simp;omega
 clear f
 go_enter func162,ntmps162
 go_upto_region 1 with (fail)
 refine AE ?_;intro p d b j;have k:=b.c 0 rfl;have l:=b.c 1 rfl;go_wp2;go_ret;exact ⟨rfl,d⟩
theorem Ru (h:AB w v z) {r:Int} (g:z.sign=r):Calls prog 198 #[v] w fun e y=>e = .returned (.int .i64 r)/\Ext w y:=by
 obtain ⟨s,a,n,c,rfl,o,x⟩:=h;have f:=x.zero;by_cases h0:z=0
 · have q:n=0:=f.2 (by omega);have i:Hid (r=0):=by show _=_; rw [<-g,h0]; rfl
   subst q;clear g h0 f
   go_enter func198,ntmps198
   go_upto_region 1 with (fail)
   refine AE ?_;intro p d b j;have k:=b.c 0 rfl;have l:=b.c 1 rfl;go_wp2;go_ret;exact ⟨by rw [i.out]; rfl,d⟩
 · have t:((n:Int) == 0)=false:=by
    have:n≠0:=fun h=>h0 (by have:=f.1 h; omega);simpa using this
   clear f;cases s with
   | true =>
    have m:z<0:=by simpa using o.out
    have i:Hid (r = -1):=by show _=_; rw [<-g,Int.sign_eq_neg_one_of_neg m]
    clear g h0 m
    go_enter func198,ntmps198
    go_upto_region 1 with (fail)
    refine AE ?_;intro p d b j;have k:=b.c 0 rfl;have l:=b.c 1 rfl;go_wp2;go_ret;exact ⟨by rw [i.out]; rfl,d⟩
   | false =>
    have m:¬ z<0:=by simpa using o.out
    have i:Hid (r=1):=by show _=_; rw [<-g,Int.sign_eq_one_of_pos (by omega)]
    clear g h0 m
    go_enter func198,ntmps198
    go_upto_region 1 with (fail)
    refine AE ?_;intro p d b j;have k:=b.c 0 rfl;have l:=b.c 1 rfl;go_wp2;go_ret;exact ⟨by rw [i.out]; rfl,d⟩
theorem CD (h:AB w v z) {r:Bool} (i:decide (z=1)=r):Calls prog 142 #[v] w fun e F=>e = .returned (.bool r)/\Ext w F:=by
 obtain ⟨s,a,n,c,rfl,t,q⟩:=h;cases s with
 | true =>
  have m:z<0:=by simpa using t.out
  have p:Hid (r=false):=by show _=_; rw [<-i]; simp; omega
  clear i m
  go_enter func142,ntmps142
  go_upto_region 1 with (fail)
  refine AE ?_;intro B f d g;have j:=d.c 0 rfl;have l:=d.c 1 rfl;go_wp2;go_ret;exact ⟨by rw [p.out]; rfl,f⟩
 | false =>
  have m:¬ z<0:=by simpa using t.out
  by_cases A:n=1
  · subst A;obtain ⟨b,o,rfl,y,G,H⟩:=q.one;have E:((z.natAbs:Int) == 1)=r:=by
     rw [<-i,Bool.eq_iff_iff];simp;omega
    clear i m;generalize z.natAbs=x at *
    go_enter func142,ntmps142
    go_upto_region 1 with (fail)
    refine AE ?_;intro B f d g;have j:=d.c 0 rfl;have l:=d.c 1 rfl;have C:=f.cell y;clear g y;go_wp2;go_ret;exact ⟨rfl,f⟩
  · have D:((n:Int) == 1)=false:=by simp; omega
    have p:Hid (r=false):=by
     show _=_;rw [<-i];have h1:z≠1:=by
      intro h1;have h2:=q.len (k:=1) (by rw [h1,MI]; decide);have h3:=q.zero;omega
     simp [h1]
    clear i m A
    go_enter func142,ntmps142
    go_upto_region 1 with (fail)
    refine AE ?_;intro B f d g;have j:=d.c 0 rfl;have l:=d.c 1 rfl;go_wp2;go_ret;exact ⟨by rw [p.out]; rfl,f⟩
theorem Lh (h1 : -9223372036854775808<=z) (h2:z<=9223372036854775807):Calls prog 156 #[.int .i64 z] w (DI w z):=by
 by_cases r:z<0
 · have k:Hid (decide (z<0)=true):=qh (by simpa using r);have s:IntKind.u64.wrap (-IntKind.u64.wrap z)=(z.natAbs:Int):=by rw [IntKind.wrap_u64,IntKind.wrap_u64]; omega
   have o:z.natAbs<18446744073709551616:=by omega
   go_enter func156,ntmps156
   go_upto_region 1 with (fail)
   refine AE ?_;intro q f c j;have n:Arr q w.heap.size 83 (Ac false none 0 0):=c;clear j
   go_wp2_with fail
   refine (ST o).mono ?_;rintro e t ⟨l,p,m,rfl,a,i⟩;have b:=n.ext a
   go_wp2_with (refine Aa (vs:=Ac true l p m) rfl rfl rfl rfl rfl Ag b rfl (Ad _ _ _ _) ?_; intro v d g)
   exact bodyPost_ret (Al rfl Ag rfl d) rfl (Bc (f.trans a) b (Ay _ _ _ _) g (by omega) k i)
 · have k:Hid (decide (z<0)=false):=qh (by simpa using r);have s:IntKind.u64.wrap z=(z.natAbs:Int):=by rw [IntKind.wrap_u64]; omega
   have o:z.natAbs<18446744073709551616:=by omega
   go_enter func156,ntmps156
   go_upto_region 1 with (fail)
   refine AE ?_;intro q f c j;have n:Arr q w.heap.size 83 (Ac false none 0 0):=c;clear j
   go_wp2_with fail
   refine (ST o).mono ?_;rintro e t ⟨l,p,m,rfl,a,i⟩;have b:=n.ext a
   go_wp2_with (refine Aa (vs:=Ac false l p m) rfl rfl rfl rfl rfl Ag b rfl (Ad _ _ _ _) ?_; intro v d g)
   exact bodyPost_ret (Al rfl Ag rfl d) rfl (Bc (f.trans a) b (Ay _ _ _ _) g (by omega) k i)
theorem Gb (G:AR w) (h:AB w v z) (E:AB w v' y) (C:z.natAbs<P2 9600) (o:y.natAbs<P2 9600):Calls prog 141 #[v,v'] w (DI w ((Nat.gcd z.natAbs y.natAbs:Nat):Int)):=by
 obtain ⟨s,a,n,c,rfl,Q,I⟩:=h;obtain ⟨t,b,m,d,rfl,R,J⟩:=E
 go_enter func141,ntmps141
 go_upto_region 1 with (fail)
 refine DF ?_;intro P f g i p A;have L:=g.c 0 rfl;have M:=g.c 1 rfl;have N:=i.c 0 rfl;have O:=i.c 1 rfl;have F:Arr P (w.heap.size+2) 83 (Ac false none 0 0):=p;have H:=qh (SO (G.ext f) (I.ext f) (J.ext f) C o);have l:Hid (decide (((Nat.gcd z.natAbs y.natAbs:Nat):Int)<0)=false):=qh (by simp);clear A
 go_wp2_with fail
 refine H.out.mono ?_;rintro e S ⟨B,K,D,rfl,j,x⟩;have k:=F.ext j
 go_wp2_with (refine Aa (vs:=Ac false B K D) rfl rfl rfl rfl rfl Ag k rfl (Ad _ _ _ _) ?_; intro T q r)
 exact bodyPost_ret (Al rfl Ag rfl q) rfl (Bc (f.trans j) k (Ay _ _ _ _) r (by omega) l x)
theorem Li {t:Bool} (a:decide (z<0)=s) (b:decide (y<0)=t):z*y=if (s != t)=true then -((z.natAbs*y.natAbs:Nat):Int) else ((z.natAbs*y.natAbs:Nat):Int):=by
 rw [<-Int.natAbs_mul];subst a; subst b;by_cases h1:z<0 <;> by_cases h2:y<0 <;> simp [h1,h2]
 · have:=Int.mul_nonneg_of_nonpos_of_nonpos (Int.le_of_lt h1) (Int.le_of_lt h2); omega
 · have:=Int.mul_nonpos_of_nonpos_of_nonneg (Int.le_of_lt h1) (show 0<=y by omega); omega
 · have:=Int.mul_nonpos_of_nonneg_of_nonpos (show 0<=z by omega) (Int.le_of_lt h2); omega
 · have:=Int.mul_nonneg (show 0<=z by omega) (show 0<=y by omega); omega
theorem Jb {S:Nat->Prop} (h:AB w v z) (h':AB w v' y) (bz:z.natAbs<P2 9600) (B:y.natAbs<P2 9600) (I:z.natAbs<P2 2496\/y.natAbs<P2 2496) (F:GK S v) (G:GK S v'):Calls prog 163 #[v,v'] w (Ja w S (z*y)):=by
 obtain ⟨s,a,n,c,rfl,HS,hx⟩:=h;obtain ⟨t,b,m,d,rfl,HT,hy⟩:=h';have X:=F.at
 have Y:=G.at
 clear F G
 go_enter func163,ntmps163
 go_upto_region 1 with (fail)
 refine DF ?_;intro N l C D P a0;have a3:=C.c 0 rfl;have a4:=C.c 1 rfl;have a5:=D.c 0 rfl;have a6:=D.c 1 rfl;have hR:Arr N (w.heap.size+2) 83 (Ac false none 0 0):=P;have H:=fun (g:World) (f:Ext N g)=>qh (TM ((hx.ext l).ext f) ((hy.ext l).ext f) bz B I X Y);clear a0 bz B I;have p:=fun (g:World) (f:Ext N g)=>qh (And.intro (f.cell a3) (And.intro (f.cell a4) (And.intro (f.cell a5) (f.cell a6))))
 refine Ab (by kernel_rfl) (fun g=>Ext N g)
  [he (.pointer (some ⟨w.heap.size,0,none⟩)),
 he (.bool s),
 he (.pointer (some ⟨(w.heap.size+1),0,none⟩)),
 he (.bool t),
 he (.bool (s != t)),
 he (.pointer (some ⟨w.heap.size,1,none⟩)),
 he (.slice a n c),
 he (.pointer (some ⟨(w.heap.size+1),1,none⟩)),
 he (.slice b m d),
 hp (fun v g=>∃ i j k,v = .slice i j k/\Wd g i j k (z.natAbs*y.natAbs)/\FY w.heap.size S i j),
 hp (fun v g=>∃ A i j k,v = .agg (Ac A i j k).toArray/\Hid (decide (z*y<0)=A)/\Wd g i j k (z*y).natAbs/\FY w.heap.size S i j)]
  (by kernel_rfl) (fun _ _ e h=>h.trans e) ((Ext.refl N).drew) ⟨trivial,trivial,trivial,trivial,trivial,trivial,trivial,trivial,trivial,fun v w w' e ⟨i,j,k,h1,h2,h3⟩=>⟨i,j,k,h1,h2.ext e,h3⟩,fun v w w' e ⟨A,i,j,k,h1,h2,h3,h4⟩=>⟨A,i,j,k,h1,h2,h3.ext e,h4⟩,trivial⟩ ⟨?o0, ?o1, ?o2, ?o3, ?o4, ?o5, ?o6, ?o7, ?o8, ?o9, ?o10,trivial⟩ ?fin
 case o0 | o2=>exact ofa (d:=0)
 case o1 | o3 | o6 | o8=>exact ol
 case o5 | o7=>exact ofa (d:=1)
 case o4 =>
  refine An rfl fun x g f o h => ?_;have e0:x (.tmp 6)=(.bool s):=h.1;have e1:x (.tmp 8)=(.bool t):=h.2.1;obtain ⟨J,K,L,M⟩:=(p g f).out;go_simp;cases s <;> cases t <;> rfl
 case o9 =>
  refine Am rfl fun x g f o U h => ?_;have e1:x (.tmp 11)=(.slice a n c):=h.2.1;have e2:x (.tmp 13)=(.slice b m d):=h.2.2.1;obtain ⟨J,K,L,M⟩:=(p g f).out;refine ⟨222,#[.slice a n c, .slice b m d],by go_simp,((H g f).out).mono ?_⟩;rintro e w' ⟨i,j,k,rfl,q,r,R⟩;exact ⟨_,rfl,q,i,j,k,rfl,r,R.of (l.trans f).size (fun _ h=>Or.inr h)⟩
 case o10 =>
  refine Am rfl fun x g f o U h => ?_;have e1:x (.tmp 9)=(.bool (s != t)):=h.2.1;obtain ⟨v2,e2,a2,n2,c2,rfl,d2,f2⟩:=h.2.2.1;obtain ⟨J,K,L,M⟩:=(p g f).out;refine ⟨203,#[.bool (s != t), .slice a2 n2 c2],by go_simp,(EH d2 (z:=z*y) (Li HS.out HT.out)).mono ?_⟩;rintro e w' ⟨A,rfl,q,W,r⟩;exact ⟨_,rfl,q,A,a2,n2,c2,rfl,W,r,f2⟩
 case fin =>
  intro g f;rintro _ ⟨_,_,_,rfl,_,_⟩;rintro _ ⟨s1,a1,n1,c1,rfl,O,Z,T⟩;change wpList _ _ _ _ _ _;simp only [la,lb,ld,lz,Act.put,lq,ly,lx];have E:=hR.ext f
  go_wp2_with (refine Aa (vs:=Ac s1 a1 n1 c1) rfl rfl rfl rfl rfl Ag E rfl (Ad _ _ _ _) ?_; intro w9 Q V)
  exact bodyPost_ret (Al rfl Ag rfl Q) rfl (EI (l.trans f) E (Ay _ _ _ _) V (by omega) O Z T)
theorem CI (h:AB w v z) (d:AB w v' y) (c:z.natAbs<P2 9600) (a:y.natAbs<P2 9600) (b:z.natAbs<P2 2496\/y.natAbs<P2 2496):Calls prog 163 #[v,v'] w (DI w (z*y)) :=
 (Jb (S:=fun _=>True) h d c a b (fun _ _ _ _ _ _ _ _=>trivial) (fun _ _ _ _ _ _ _ _=>trivial)).mono fun _ _ h=>h.plain
end Go.Proofs.YtlbmnokpiilfpaaGreatDoor
