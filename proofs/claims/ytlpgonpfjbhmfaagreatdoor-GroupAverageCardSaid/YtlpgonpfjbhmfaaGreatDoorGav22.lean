/- Part Gav22. -/
import Derived.Test.YtlpgonpfjbhmfaaGreatDoorGav21
import Derived.Test.YtlpgonpfjbhmfaaGreatDoorGav14
set_option maxRecDepth 100000
set_option maxHeartbeats 100000000
namespace Go.Proofs.YtlpgonpfjbhmfaaGreatDoor
open Tryz Go Go.RowKit
variable {s:Bool} {z:Int} {xs ys:List Nat} {l:List UInt8} {cs:List Value} {c c0 d g k m n n0 nc u wd x:Nat} {a a' a0 b pa:Option Addr} {q:Rat} {T e:TypeId} {v:Value} {w w' wb wr wx:World}
def ckS (T x n:Nat):List Nat:=(List.range n).map fun i=>x/T^i%T
theorem U8 {T i:Nat} (h:i<n):(ckS T x n).getD i 0=x/T^i%T:=by simp [ckS,h]
theorem Sa (T x n:Nat):ckS T x n ++ [x/T^n%T]=ckS T x (n+1):=by simp [ckS,List.range_succ]
theorem Sb (hx:x<18446744073709551616^m) (hk:10000000000000000000^k≤x):k≤2*m:=by
 refine Classical.byContradiction fun hc => ?_;have h1:18446744073709551616^m≤10000000000000000000^(2*m):=by
  rw [Nat.pow_mul];exact Nat.pow_le_pow_left (by decide) m
 have h2:10000000000000000000^(2*m)≤10000000000000000000^k:=Nat.pow_le_pow_right (by omega) (by omega);omega
structure VO (w wr:World) (x:Nat) (ak:Option Addr) (nk ck:Nat) (ac:Option Addr) (nc cc:Nat) (ys:List Nat):Prop where
 ext:Ext w wr
 wk:Own wr w.heap.size 143 ak nk ck (ys.map (BO .u64))
 ch:Own wr w.heap.size 143 ac nc cc ((ckS 10000000000000000000 x nc).map (BO .u64))
 sep:∀ k,blk ac=some k→blk ak≠some k
 num:Num 18446744073709551616 ys (x/10000000000000000000^nc)
 top:nc=0∨10000000000000000000^(nc-1)≤x
def KpT (w wr:World) (a0 a:Option Addr):Prop:=w.heap.size≤wr.heap.size∧(blk a=blk a0∨∃ k,blk a=some k∧w.heap.size≤k)∧∀ k,k<w.heap.size→some k≠blk a0→wr.heap[k]?=w.heap[k]?
theorem KpT.of_ext (a:Option Addr) (h:Ext w wr):KpT w wr a a:=⟨h.size,Or.inl rfl,fun _ hk _=>h.block hk⟩
theorem KpT.ext (h:KpT w wr a0 a) (e:Ext wr wx):KpT w wx a0 a :=
 ⟨Nat.le_trans h.1 e.size,h.2.1,fun k hk hne=>(e.block (Nat.lt_of_lt_of_le hk h.1)).trans (h.2.2 k hk hne)⟩
theorem KpT.far (h:KpT w wr a0 a) (hg:wr.grownBy wx (some g)) (hl:w.heap.size≤g):KpT w wx a0 a :=
 ⟨Nat.le_trans h.1 hg.size,h.2.1,fun k hk hne=>(hg.block k (Nat.lt_of_lt_of_le hk h.1) (fun he=>by cases he; omega)).trans (h.2.2 k hk hne)⟩
theorem KpT.grown (h:KpT w wr a0 a) (hg:wr.grownBy wx (blk a)) (hb:blk a'=blk a∨blk a'=some wr.heap.size):KpT w wx a0 a':=by
 refine ⟨Nat.le_trans h.1 hg.size, ?_,fun k hk hne=>(hg.block k (Nat.lt_of_lt_of_le hk h.1) (fun he => ?_)).trans (h.2.2 k hk hne)⟩
 · rcases hb with hb|hb
   · rw [hb]; exact h.2.1
   · exact Or.inr ⟨_,hb,h.1⟩
 · rcases h.2.1 with h1|⟨j,h1,h2⟩
   · exact hne (he.trans h1)
   · rw [h1] at he;cases he;omega
theorem KpT.trans {w w1 w2:World} {a0 a1 a2:Option Addr} (h:KpT w w1 a0 a1) (h':KpT w1 w2 a1 a2):KpT w w2 a0 a2:=by
 refine ⟨Nat.le_trans h.1 h'.1, ?_,fun k hk hne=>(h'.2.2 k (Nat.lt_of_lt_of_le hk h.1) (fun he => ?_)).trans (h.2.2 k hk hne)⟩
 · rcases h'.2.1 with h1|⟨j,h1,h2⟩
   · rw [h1]; exact h.2.1
   · exact Or.inr ⟨j,h1,Nat.le_trans h.1 h2⟩
 · rcases h.2.1 with h1|⟨j,h1,h2⟩
   · exact hne (he.trans h1)
   · rw [h1] at he;cases he;omega
def Sc (wb w:World) (a0:Option Addr) (l:List UInt8) (e:Ending) (w':World):Prop:=∃ a n c,e = .returned (.slice a n c)∧Own w' wb.heap.size 5 a n c (l.map AO)∧Ext wb w'∧KpT w w' a0 a
theorem Sc.ap {e:Ending} (h:Sc wb w a0 l e w'):JQ wb l e w':=by
 obtain ⟨a,n,c,h1,h2,h3,_⟩:=h;exact ⟨a,n,c,h1,h2,h3⟩
def cpT (x wd nc k:Nat):List UInt8:=if k=nc then [] else W.padD (wd-19*k) (x/10000000000000000000^k)
theorem Mg (x wd nc:Nat):cpT x wd nc nc=[]:=if_pos rfl
structure TQ (wb w0 wr:World) (a0:Option Addr) (x wd nc G:Nat) (l:List UInt8) (ac:Option Addr) (cc n0 k:Nat) (a:Option Addr) (n c:Nat):Prop where
 ext:Ext wb wr
 tx:Own wr wb.heap.size 5 a n c ((l ++ cpT x wd nc k).map AO)
 ch:Own wr wb.heap.size 143 ac nc cc ((ckS 10000000000000000000 x nc).map (BO .u64))
 buf:∃ cs,Arr wr G 255 cs∧cs.length=20
 sep1:∀ k,blk ac=some k→blk a≠some k∧k≠G
 sep2:blk a≠some G
 gb:wb.heap.size≤G
 gw:w0.heap.size≤G
 kp:KpT w0 wr a0 a
 len:n≤n0+(if k=nc then 0 else wd)+20*(nc-k)
theorem TR (hk:k+1<nc) (ht:nc=0∨10000000000000000000^(nc-1)≤x) (hu:x/10000000000000000000^k%10000000000000000000=u) :
 cpT x wd nc (k+1) ++ List.replicate (19-(Lib.decDigits u).length) 48 ++ Lib.decDigits u=cpT x wd nc k:=by
 have hub:u<10^19:=by rw [←hu]; exact Nat.mod_lt _ (by decide)
 have ha:0<x/10000000000000000000^(k+1):=by
  refine Nat.div_pos ?_ (Nat.pow_pos (by omega));rcases ht with h|h
  · omega
  · exact Nat.le_trans (Nat.pow_le_pow_right (by omega) (by omega)) h
 have he:x/10000000000000000000^k=x/10000000000000000000^(k+1)*10^19+u:=by
  rw [Nat.pow_succ,←Nat.div_div_eq_div_mul,←hu];have:=Nat.div_add_mod (x/10000000000000000000^k) 10000000000000000000;rw [Nat.mul_comm] at this;exact this.symm
 unfold cpT;have hp:W.padD 19 u=List.replicate (19-(Lib.decDigits u).length) 48 ++ Lib.decDigits u:=W.padD_dec (by omega);rw [if_neg (by omega),if_neg (by omega),he,W.padD_split ha hub (by omega),hp,List.append_assoc];have e:wd-19*(k+1)=wd-19*k-19:=by omega
 rw [e]
theorem Sd (hx:x<10000000000000000000^(k+1)) (ht:k+1=0∨10000000000000000000^(k+1-1)≤x) (hu:x/10000000000000000000^k%10000000000000000000=u) :
 List.replicate (wd-19*k-(Lib.decDigits u).length) 48 ++ Lib.decDigits u=cpT x wd (k+1) k:=by
 have h1:x/10000000000000000000^k<10000000000000000000:=by
  rw [Nat.div_lt_iff_lt_mul (Nat.pow_pos (by omega)),Nat.mul_comm,←Nat.pow_succ];exact hx
 have h2:0<x/10000000000000000000^k:=by
  refine Nat.div_pos ?_ (Nat.pow_pos (by omega));rcases ht with h|h
  · omega
  · exact h
 rw [Nat.mod_eq_of_lt h1] at hu;unfold cpT;rw [if_neg (by omega),hu,W.padD_pos (by omega)]
theorem U9 (h:nc≠0):cpT x wd nc 0=W.padD wd x:=by
 unfold cpT;rw [if_neg (by omega),Nat.pow_zero,Nat.div_one,Nat.mul_zero,Nat.sub_zero]
structure QO (wb w0 wr:World) (a0:Option Addr) (nc G gc cc u n0:Nat) (cs:List Nat) (t:List UInt8) (a:Option Addr) (n c:Nat):Prop where
 ext:Ext wb wr
 tx:Own wr wb.heap.size 5 a n c (t.map AO)
 ch:Az .u64 wr wb.heap.size 143 gc nc cc cs
 buf:∃ bs,Arr wr G 255 bs∧bs.length=20∧bs.take (Lib.decDigits u).length=(Lib.decDigits u).map AO
 sep1:blk a≠some gc
 sep2:blk a≠some G
 len:n≤n0
 kp:KpT w0 wr a0 a
theorem OI (hT:A2 w) (hA:Arr w g T cs) (hl:cs.length=20) (hu:u<18446744073709551616) :
 Calls prog 183 #[.slice (some ⟨g,0,none⟩) 0 20, .int .u64 u, .int .i64 10] w (U5 w g T u):=by
 have h:=qh (H9 (l:=[]) (n:=0) hT hA hl rfl (by omega) rfl hu)
 go_enter func183,ntmps183
 go_wp2_with fail
 refine h.out.mono ?_;rintro e w' ⟨rfl,h1,h2⟩;go_wp2;go_ret;exact ⟨rfl,h1,h2⟩
theorem Mh {base v:Nat} (h:Own w base e a n c (ys.map (BO .u64))) (hn:Num 18446744073709551616 ys v):n=0↔v=0:=by
 have hl:ys.length=n:=by have:=h.len; simpa using this
 constructor
 · intro h0;subst h0;have:ys=[]:=List.eq_nil_of_length_eq_zero hl;subst this;exact hn.val.symm
 · intro h0;have h1:=(W.nrm_zero (B:=18446744073709551616) (by omega) hn.nrm).1 (by rw [hn.val,h0]);rw [h1] at hl;exact hl.symm
theorem Ia (hT:A2 wb) (hE:Ext wb w) (hO:Own w wb.heap.size 5 a n c (l.map AO)) (hx:SlN .u64 w b m d xs) (hxn:Num 18446744073709551616 xs x) (hm:m≤1000) (hn:n≤1000000) (hwd:wd≤1000000) :
 Calls prog 215 #[.slice a n c, .slice b m d, .int .i64 wd] w (Sc wb w a (l ++ W.padD wd x)):=by
 have hxb:x<18446744073709551616^m:=by
  have:=W.val_lt hxn.bnd;rw [hxn.val,hx.len] at this;exact this
 have HXB:=qh hxb;have HNUM:=qh hxn;have hcl:=qh (CD hx (by omega));clear hxb
 go_enter func215,ntmps215
 go_wp2_with fail
 refine hcl.out.mono ?_;rintro e w1 ⟨ak,ck,rfl,hE1,hk1⟩;go_wp2
 go_loopw [7,8] (fun kv cv wr=>∃ (ak:Option Addr) (nk ck:Nat) (ac:Option Addr) (nc cc:Nat) (ys:List Nat),kv = .slice ak nk ck∧cv = .slice ac nc cc∧nk≤m∧VO w wr x ak nk ck ac nc cc ys) (fun _ cv _=>match cv with | .slice _ k _=>2*m+1-k | _=>0)
 case atStart=>exact ⟨ak,m,ck,none,0,0,xs,rfl,rfl,lrf _,hE1,hk1,Own.nil _ _ _,(by intro k h; cases h),(by rw [Nat.pow_zero,Nat.div_one]; exact hxn),Or.inl rfl⟩
 case round =>
  obtain ⟨ak,nk,ck,ac,nc,cc,ys,rfl,rfl,hnk,HS⟩:=hrel;have HY:Hid (ys.length=nk):=qh (by have:=HS.wk.len; simpa using this);have HZ:=qh (Mh HS.wk HS.num);by_cases h0:nk=0
  · subst h0;have hv0:=HZ.out.1 rfl;have HEr:=HS.ext;have hch:=HS.ch;have HTOP:=qh HS.top;have HLT:Hid (x<10000000000000000000^nc):=qh ((Nat.div_eq_zero_iff_lt (Nat.pow_pos (by omega))).1 hv0);have hncb:nc≤2*m+1:=by
     rcases HTOP.out with h|h
     · omega
     · have:=Sb HXB.out h;omega
    clear HS hv0 HZ HY;go_wp2;obtain ⟨G,hG⟩:∃ G:Nat,G=wr.heap.size:=⟨_,rfl⟩;have hEB:Ext wb (wr.alloc (.cells #[.int .u8 0, .int .u8 0, .int .u8 0, .int .u8 0, .int .u8 0, .int .u8 0, .int .u8 0, .int .u8 0, .int .u8 0, .int .u8 0, .int .u8 0, .int .u8 0, .int .u8 0, .int .u8 0, .int .u8 0, .int .u8 0, .int .u8 0, .int .u8 0, .int .u8 0, .int .u8 0] 255)):=(hE.trans HEr).alloc _
    have hCP:TQ wb w (wr.alloc (.cells #[.int .u8 0, .int .u8 0, .int .u8 0, .int .u8 0, .int .u8 0, .int .u8 0, .int .u8 0, .int .u8 0, .int .u8 0, .int .u8 0, .int .u8 0, .int .u8 0, .int .u8 0, .int .u8 0, .int .u8 0, .int .u8 0, .int .u8 0, .int .u8 0, .int .u8 0, .int .u8 0] 255)) a x wd nc G l ac cc n nc a n c:=by
     have hsz:=(hE.trans HEr).size;refine ⟨hEB, ?_,(hch.mono hE.size).alloc _,⟨_,by rw [hG]; exact Arr.new wr _ [_,_,_,_,_,_,_,_,_,_,_,_,_,_,_,_,_,_,_,_],rfl⟩, ?_, ?_,by omega,by have:=HEr.size; omega,KpT.of_ext a (HEr.alloc _),by rw [if_pos rfl]; omega⟩
     · rw [Mg,List.append_nil];exact (hO.ext HEr).alloc _
     · intro k hk;have h1:=hch.lt hk;refine ⟨fun he => ?_,by omega⟩;have h2:=hO.lt he;omega
     · intro he;have h2:=(hO.ext HEr).lt he;omega
    have HCP:=qh hCP;clear hCP hEB hch;have HW:=qh HEr.size;rw [←hG];clear hG HEr
    go_loopw [0,12,13] (fun tv fv iv wx=>∃ (k:Nat) (at':Option Addr) (nt ct:Nat),tv = .slice at' nt ct∧fv = .bool (decide (k=nc))∧iv = .int .i64 ((k:Int)-1)∧k≤nc∧Hid (TQ wb w wx a x wd nc G l ac cc n k at' nt ct)) (fun _ _ v _=>(intOf v+1).toNat)
    case atStart=>exact ⟨nc,a,n,c,rfl,by simp,rfl,lrf _,HCP⟩
    case round =>
     clear HCP;obtain ⟨k,at',nt,ct,rfl,rfl,rfl,hk,HCP⟩:=hrel;cases k with
     | zero =>
      by_cases hnz:nc=0
      · subst hnz;have hx0:x=0:=by
         have:=HLT.out;rw [Nat.pow_zero] at this;omega
        have HX0:=qh hx0;go_wp2
        go_loopw [0,82] (fun tv jv wx=>∃ (j:Nat) (a4:Option Addr) (n4 c4:Nat),tv = .slice a4 n4 c4∧jv = .int .i64 j∧j≤wd∧n4≤n+j+wd∧Ext wb wx∧KpT w wx a a4∧Own wx wb.heap.size 5 a4 n4 c4 ((l ++ List.replicate j 48).map AO)) (fun _ jv _=>wd-(intOf jv).toNat)
        case atStart=>exact ⟨0,at',nt,ct,rfl,rfl,Nat.zero_le _,by have:=HCP.out.len; rw [if_pos rfl] at this; omega,HCP.out.ext,HCP.out.kp,by have:=HCP.out.tx; rw [Mg] at this; exact this⟩
        case round =>
         clear HCP;obtain ⟨j,a4,n4,c4,rfl,rfl,hj,hn4,hE4,hK4,hO4⟩:=hrel;by_cases hjz:j<wd
         · have hb2:∀ k,blk a4=some k→wb.heap.size≤k:=fun k hk=>(hO4.lt hk).1;have hA:=hO4.alloc (.cells #[.int .u8 48] 5);have hL4:=(Au wr wb.heap.size 5 #[.int .u8 48] 1 rfl hE4.size (by omega)).sl
           go_wp2_with (refine Bw rfl rfl underlying154 Df rfl rfl hA rfl hL4 (by simp [Value.oneCell']) (by unfold maxLen; omega) (by omega) (by simp; have:=hE4.size; omega) ?_; intro a7 c7 w7 hO7 hg7 hb7)
           have hE7:Ext wb w7:=(hE4.alloc _).grown hg7 hb2;have hK7:=(hK4.ext ((Ext.refl _).alloc (.cells #[.int .u8 48] 5))).grown hg7 hb7;have hO8:Own w7 wb.heap.size 5 a7 (n4+1) c7 ((l ++ List.replicate (j+1) 48).map AO):=by
            rw [List.replicate_succ',←List.append_assoc,List.map_append];exact hO7
           go_roundw
           case rel=>exact ⟨j+1,a7,n4+1,c7,rfl,by go_num,by omega,by omega,hE7,hK7,hO8⟩
           case measure=>simp [intOf]; omega
         · have hZj:j=wd:=by omega
           subst hZj;go_wp2;go_ret;exact ⟨a4,n4,c4,rfl,by rw [HX0.out,W.padD_zero]; exact hO4,hE4,hK4⟩
      · have hfd:decide (0=nc)=false:=by simp; omega
        have HNC:=qh hnz;rw [hfd];go_wp2;go_ret;exact ⟨at',nt,ct,rfl,by rw [←U9 HNC.out]; exact HCP.out.tx,HCP.out.ext,HCP.out.kp⟩
     | succ k =>
      have hw0:((k+1:Nat):Int)-1=k:=by omega
      rw [hw0];have hC0:=HCP.out;obtain ⟨gc,rfl,hgc1,hgc2⟩:=hC0.ch.place (by omega);have hcn:Az .u64 wr wb.heap.size 143 gc nc cc (ckS 10000000000000000000 x nc):=hC0.ch;have g1:=hcn.cell (i:=k) (by omega);rw [U8 (by omega)] at g1;obtain ⟨u,hu⟩:∃ u,x/10000000000000000000^k%10000000000000000000=u:=⟨_,rfl⟩;rw [hu] at g1;have hub:u<10000000000000000000:=by rw [←hu]; exact Nat.mod_lt _ (by omega)
      obtain ⟨bs,hbs,hbl⟩:=hC0.buf;have happ:=fun (wx:World) (h:Ext wr wx)=>qh (OI ((hT.ext hC0.ext).ext h) (hbs.ext h) hbl (u:=u) (by omega));have hEC:=hC0.ext;have htx:=hC0.tx;have hsp1:=hC0.sep1;have hsp2:=hC0.sep2;have hgb:=hC0.gb;have HGW:=qh hC0.gw;have hkp:=hC0.kp;have hln:=hC0.len
      have hsl:∀ W,(Instr.sliceAt 255 (.pointer (some ⟨G,0,none⟩)) none (some (.int .i64 0)) none).run prog W = .ok (.slice (some ⟨G,0,none⟩) 0 20) W:=fun W=>by
       have hal:prog.arrayLen 255=20:=by kernel_rfl
       have h:=run_sliceAt_array_h (P:=prog) W 255 ⟨G,0,none⟩ (by simp [Program.arrayLen,Program.elem,underlying255]) .i64 0 (by omega) (by rw [hal]; omega);rw [h];go_simp
      clear hC0;have HLN:=qh (W.dec_len (k:=19) (n:=u) (by omega) (by omega));have HGC:=qh (hsp1 gc rfl);have HGB:=qh hgb;have HU:=qh hu;by_cases hfi:k+1=nc
      · have hfd:decide (k+1=nc)=true:=by simpa using hfi
        rw [hfd];go_wp2
        refine Af (by kernel_rfl) (fun wx=>Ext wr wx)
         [he (.slice (some ⟨G,0,none⟩) 0 20),
 he (.slice (some ⟨gc,0,none⟩) nc cc),
 he (.int .i64 k),
 he (.pointer (some ⟨gc,(0+k),none⟩)),
 he (.int .u64 (u:Int))]
         (by kernel_rfl) (fun _ _ e h=>h.trans e) ((Ext.refl wr).drew) ⟨trivial,trivial,trivial,trivial,trivial,trivial⟩ ⟨?o0, ?o1, ?o2, ?o3, ?o4,trivial⟩ ?fin
        case o0 =>
         refine AB rfl fun ρ wx hC hcst h => ?_;have e0:ρ (.tmp 11)=(.pointer (some ⟨G,0,none⟩)):=h.1;have k0:wx.cell? ⟨gc,0+k,none⟩=some (.int .u64 (u:Int)):=by rw [Nat.zero_add]; exact hC.cell g1
         have k1:=hsl wx;have k2:=hC.cell g1;go_simp
        case o1=>exact omv rfl rfl (fun _ _=>id)
        case o2=>exact omv rfl rfl (fun _ _=>id)
        case o3 =>
         refine AB rfl fun ρ wx hC hcst h => ?_;have e0:ρ (.tmp 54)=(.slice (some ⟨gc,0,none⟩) nc cc):=h.1;have e1:ρ (.tmp 55)=(.int .i64 k):=h.2.1;have k0:wx.cell? ⟨gc,0+k,none⟩=some (.int .u64 (u:Int)):=by rw [Nat.zero_add]; exact hC.cell g1
         have k1:=hsl wx;have k2:=hC.cell g1;go_simp
         try (first | (intros; omega) | exact IntWalk.i64_in _ (by omega))
        case o4 =>
         refine AB rfl fun ρ wx hC hcst h => ?_;have e0:ρ (.tmp 56)=(.pointer (some ⟨gc,(0+k),none⟩)):=h.1;have k0:wx.cell? ⟨gc,0+k,none⟩=some (.int .u64 (u:Int)):=by rw [Nat.zero_add]; exact hC.cell g1
         have k1:=hsl wx;have k2:=hC.cell g1;go_simp
        case fin =>
         intro wx hC;change wpList _ _ _ _ _ _;simp only [List.length_cons,List.length_nil,List.drop_succ_cons,List.drop_zero,Act.put,List.setIfInBounds_toArray,List.set_cons_succ,List.set_cons_zero]
         go_wp2_with fail
         refine ((happ wx hC).out).mono ?_;rintro e w2 ⟨rfl,⟨w3,hE3,hg3⟩,bs2,hb2,hbl2,hbt⟩;have hP0:QO wb w w2 a nc G gc cc u (n+20*(nc-(k+1))+0) (ckS 10000000000000000000 x nc) ((l ++ cpT x wd nc (k+1)) ++ List.replicate 0 48) at' nt ct:=⟨((hEC.trans hC).trans hE3).grown hg3 (fun k hk=>by cases hk; exact hgb),by rw [List.replicate_zero,List.append_nil]; exact ((htx.ext hC).ext hE3).kept hg3 (Or.inr hsp2),((hcn.ext hC).ext hE3).kept hg3 (fun h=>HGC.out.2 (by cases h; rfl)),⟨bs2,hb2,hbl2,hbt⟩,HGC.out.1,hsp2,by rw [if_pos hfi] at hln; omega,((hkp.ext hC).ext hE3).far hg3 HGW.out⟩
         have HP0:=qh hP0;clear hP0 hE3 hg3 hb2 hbl2 hbt hC hEC htx hcn g1 hsl hsp2 hln hkp;obtain ⟨L,hL⟩:∃ L,(Lib.decDigits u).length=L:=⟨_,rfl⟩;have HL:=qh hL;have hL19:L≤19:=by have:=HLN.out; rw [hL] at this; exact this
         rw [hL];clear hL;obtain ⟨Z,hZ,hZ2⟩:∃ Z:Nat,max (L:Int) ((wd:Int)-19*(k:Int))-(L:Int)=Z∧Z=wd-19*k-L:=⟨wd-19*k-L,by rw [Int.max_def]; split <;> omega,rfl⟩;go_wp2
         try rw [hZ]
         go_loopw [0,71] (fun tv jv wx=>∃ (j:Nat) (a4:Option Addr) (n4 c4:Nat),tv = .slice a4 n4 c4∧jv = .int .i64 j∧j≤Z∧Hid (QO wb w wx a nc G gc cc u (n+20*(nc-(k+1))+j) (ckS 10000000000000000000 x nc) ((l ++ cpT x wd nc (k+1)) ++ List.replicate j 48) a4 n4 c4)) (fun _ jv _=>Z-(intOf jv).toNat)
         case atStart=>exact ⟨0,at',nt,ct,rfl,rfl,Nat.zero_le _,HP0⟩
         case round =>
          clear HP0;obtain ⟨j,a4,n4,c4,rfl,rfl,hj,HP⟩:=hrel;have hO4:=HP.out.tx;have hE4:=HP.out.ext;have hb2:∀ k,blk a4=some k→wb.heap.size≤k:=fun k hk=>(hO4.lt hk).1;have hgcl:=HP.out.ch.lt;obtain ⟨b4,hb4,hbl4,hbt4⟩:=HP.out.buf;have hgl:=hb4.lt;have hln4:=HP.out.len;by_cases hjz:j<Z
          · have hA:=hO4.alloc (.cells #[.int .u8 48] 5);have hL4:=(Au wr wb.heap.size 5 #[.int .u8 48] 1 rfl hE4.size (by omega)).sl
            go_wp2_with (refine Bw rfl rfl underlying154 Df rfl rfl hA rfl hL4 (by simp [Value.oneCell']) (by unfold maxLen; omega) (by omega) (by simp; have:=hE4.size; omega) ?_; intro a7 c7 w7 hO7 hg7 hb7)
            have HN:Hid (QO wb w w7 a nc G gc cc u (n+20*(nc-(k+1))+(j+1)) (ckS 10000000000000000000 x nc) ((l ++ cpT x wd nc (k+1)) ++ List.replicate (j+1) 48) a7 (n4+1) c7):=by
             refine ⟨(hE4.alloc _).grown hg7 hb2, ?_,(Own.alloc HP.out.ch _).kept hg7 (Or.inr fun h=>HP.out.sep1 h.symm),⟨b4,(hb4.alloc _).kept hg7 (fun h=>HP.out.sep2 h.symm),hbl4,hbt4⟩, ?_, ?_,by omega,(HP.out.kp.ext ((Ext.refl _).alloc (.cells #[.int .u8 48] 5))).grown hg7 hb7⟩
             · rw [List.replicate_succ',←List.append_assoc,List.map_append];exact hO7
             · rcases hb7 with h|h
               · rw [h]; exact HP.out.sep1
               · rw [h]; simp; omega
             · rcases hb7 with h|h
               · rw [h]; exact HP.out.sep2
               · rw [h]; simp; omega
            go_roundw
            case rel=>exact ⟨j+1,a7,n4+1,c7,rfl,by go_num,by omega,HN.out⟩
            case measure=>simp [intOf]; omega
          · have hZj:j=Z:=by omega
            have hsd:Sl wr (some ⟨G,0,none⟩) L 20 ((Lib.decDigits u).map AO):=by
             have h:=hb4.sl (k:=L) (by omega) (by rw [hbl4]; unfold maxLen; omega);rw [hbl4,←HL.out,hbt4,HL.out] at h;exact h
            go_wp2_with (refine Bw rfl rfl underlying154 Df rfl rfl hO4 rfl hsd (FH _) (by unfold maxLen; omega) (by omega) hE4.size ?_; intro a7 c7 w7 hO7 hg7 hb7)
            have HN:Hid (TQ wb w w7 a x wd nc G l (some ⟨gc,0,none⟩) cc n k a7 (n4+L) c7):=by
             refine ⟨hE4.grown hg7 hb2, ?_,HP.out.ch.kept hg7 (fun h=>HP.out.sep1 h.symm),⟨b4,hb4.kept hg7 (fun h=>HP.out.sep2 h.symm),hbl4⟩, ?_, ?_,HGB.out,HGW.out,HP.out.kp.grown hg7 hb7,by rw [if_neg (by omega)]; omega⟩
             · have e:l ++ cpT x wd nc k=l ++ cpT x wd nc (k+1) ++ List.replicate j 48 ++ Lib.decDigits u:=by
                have h1:l ++ cpT x wd nc k=l ++ cpT x wd (k+1) k:=by rw [hfi]
                rw [h1,←Sd (by rw [hfi]; exact HLT.out) (by rw [hfi]; exact HTOP.out) HU.out,HL.out,←hZ2,←hZj,hfi,Mg];simp only [List.append_assoc,List.nil_append]
               rw [e,List.map_append];exact hO7
             · intro k hk;cases hk;refine ⟨?_,HGC.out.2⟩;rcases hb7 with h|h
               · rw [h]; exact HP.out.sep1
               · rw [h]; simp; omega
             · rcases hb7 with h|h
               · rw [h]; exact HP.out.sep2
               · rw [h]; simp; omega
            have hfk:decide (k=nc)=false:=by simp; omega
            go_roundw
            case rel=>exact ⟨k,a7,n4+L,c7,rfl,by rw [hfk],rfl,by omega,HN.out⟩
            case measure=>simp [intOf]
      · have hfd:decide (k+1=nc)=false:=by simpa using hfi
        rw [hfd];go_wp2
        refine Af (by kernel_rfl) (fun wx=>Ext wr wx)
         [he (.slice (some ⟨G,0,none⟩) 0 20),
 he (.slice (some ⟨gc,0,none⟩) nc cc),
 he (.int .i64 k),
 he (.pointer (some ⟨gc,(0+k),none⟩)),
 he (.int .u64 (u:Int))]
         (by kernel_rfl) (fun _ _ e h=>h.trans e) ((Ext.refl wr).drew) ⟨trivial,trivial,trivial,trivial,trivial,trivial⟩ ⟨?o0, ?o1, ?o2, ?o3, ?o4,trivial⟩ ?fin
        case o0 =>
         refine AB rfl fun ρ wx hC hcst h => ?_;have e0:ρ (.tmp 11)=(.pointer (some ⟨G,0,none⟩)):=h.1;have k0:wx.cell? ⟨gc,0+k,none⟩=some (.int .u64 (u:Int)):=by rw [Nat.zero_add]; exact hC.cell g1
         have k1:=hsl wx;have k2:=hC.cell g1;go_simp
        case o1=>exact omv rfl rfl (fun _ _=>id)
        case o2=>exact omv rfl rfl (fun _ _=>id)
        case o3 =>
         refine AB rfl fun ρ wx hC hcst h => ?_;have e0:ρ (.tmp 54)=(.slice (some ⟨gc,0,none⟩) nc cc):=h.1;have e1:ρ (.tmp 55)=(.int .i64 k):=h.2.1;have k0:wx.cell? ⟨gc,0+k,none⟩=some (.int .u64 (u:Int)):=by rw [Nat.zero_add]; exact hC.cell g1
         have k1:=hsl wx;have k2:=hC.cell g1;go_simp
         try (first | (intros; omega) | exact IntWalk.i64_in _ (by omega))
        case o4 =>
         refine AB rfl fun ρ wx hC hcst h => ?_;have e0:ρ (.tmp 56)=(.pointer (some ⟨gc,(0+k),none⟩)):=h.1;have k0:wx.cell? ⟨gc,0+k,none⟩=some (.int .u64 (u:Int)):=by rw [Nat.zero_add]; exact hC.cell g1
         have k1:=hsl wx;have k2:=hC.cell g1;go_simp
        case fin =>
         intro wx hC;change wpList _ _ _ _ _ _;simp only [List.length_cons,List.length_nil,List.drop_succ_cons,List.drop_zero,Act.put,List.setIfInBounds_toArray,List.set_cons_succ,List.set_cons_zero]
         go_wp2_with fail
         refine ((happ wx hC).out).mono ?_;rintro e w2 ⟨rfl,⟨w3,hE3,hg3⟩,bs2,hb2,hbl2,hbt⟩;have hP0:QO wb w w2 a nc G gc cc u (n+wd+20*(nc-(k+1))+0) (ckS 10000000000000000000 x nc) ((l ++ cpT x wd nc (k+1)) ++ List.replicate 0 48) at' nt ct:=⟨((hEC.trans hC).trans hE3).grown hg3 (fun k hk=>by cases hk; exact hgb),by rw [List.replicate_zero,List.append_nil]; exact ((htx.ext hC).ext hE3).kept hg3 (Or.inr hsp2),((hcn.ext hC).ext hE3).kept hg3 (fun h=>HGC.out.2 (by cases h; rfl)),⟨bs2,hb2,hbl2,hbt⟩,HGC.out.1,hsp2,by rw [if_neg hfi] at hln; omega,((hkp.ext hC).ext hE3).far hg3 HGW.out⟩
         have HP0:=qh hP0;clear hP0 hE3 hg3 hb2 hbl2 hbt hC hEC htx hcn g1 hsl hsp2 hln hkp;obtain ⟨L,hL⟩:∃ L,(Lib.decDigits u).length=L:=⟨_,rfl⟩;have HL:=qh hL;have hL19:L≤19:=by have:=HLN.out; rw [hL] at this; exact this
         rw [hL];clear hL;obtain ⟨Z,hZ⟩:∃ Z:Nat,(19:Int)-(L:Int)=Z:=⟨19-L,by omega⟩;go_wp2
         try rw [hZ]
         go_loopw [0,71] (fun tv jv wx=>∃ (j:Nat) (a4:Option Addr) (n4 c4:Nat),tv = .slice a4 n4 c4∧jv = .int .i64 j∧j≤Z∧Hid (QO wb w wx a nc G gc cc u (n+wd+20*(nc-(k+1))+j) (ckS 10000000000000000000 x nc) ((l ++ cpT x wd nc (k+1)) ++ List.replicate j 48) a4 n4 c4)) (fun _ jv _=>Z-(intOf jv).toNat)
         case atStart=>exact ⟨0,at',nt,ct,rfl,rfl,Nat.zero_le _,HP0⟩
         case round =>
          clear HP0;obtain ⟨j,a4,n4,c4,rfl,rfl,hj,HP⟩:=hrel;have hO4:=HP.out.tx;have hE4:=HP.out.ext;have hb2:∀ k,blk a4=some k→wb.heap.size≤k:=fun k hk=>(hO4.lt hk).1;have hgcl:=HP.out.ch.lt;obtain ⟨b4,hb4,hbl4,hbt4⟩:=HP.out.buf;have hgl:=hb4.lt;have hln4:=HP.out.len;by_cases hjz:j<Z
          · have hA:=hO4.alloc (.cells #[.int .u8 48] 5);have hL4:=(Au wr wb.heap.size 5 #[.int .u8 48] 1 rfl hE4.size (by omega)).sl
            go_wp2_with (refine Bw rfl rfl underlying154 Df rfl rfl hA rfl hL4 (by simp [Value.oneCell']) (by unfold maxLen; omega) (by omega) (by simp; have:=hE4.size; omega) ?_; intro a7 c7 w7 hO7 hg7 hb7)
            have HN:Hid (QO wb w w7 a nc G gc cc u (n+wd+20*(nc-(k+1))+(j+1)) (ckS 10000000000000000000 x nc) ((l ++ cpT x wd nc (k+1)) ++ List.replicate (j+1) 48) a7 (n4+1) c7):=by
             refine ⟨(hE4.alloc _).grown hg7 hb2, ?_,(Own.alloc HP.out.ch _).kept hg7 (Or.inr fun h=>HP.out.sep1 h.symm),⟨b4,(hb4.alloc _).kept hg7 (fun h=>HP.out.sep2 h.symm),hbl4,hbt4⟩, ?_, ?_,by omega,(HP.out.kp.ext ((Ext.refl _).alloc (.cells #[.int .u8 48] 5))).grown hg7 hb7⟩
             · rw [List.replicate_succ',←List.append_assoc,List.map_append];exact hO7
             · rcases hb7 with h|h
               · rw [h]; exact HP.out.sep1
               · rw [h]; simp; omega
             · rcases hb7 with h|h
               · rw [h]; exact HP.out.sep2
               · rw [h]; simp; omega
            go_roundw
            case rel=>exact ⟨j+1,a7,n4+1,c7,rfl,by go_num,by omega,HN.out⟩
            case measure=>simp [intOf]; omega
          · have hZj:j=Z:=by omega
            have hsd:Sl wr (some ⟨G,0,none⟩) L 20 ((Lib.decDigits u).map AO):=by
             have h:=hb4.sl (k:=L) (by omega) (by rw [hbl4]; unfold maxLen; omega);rw [hbl4,←HL.out,hbt4,HL.out] at h;exact h
            go_wp2_with (refine Bw rfl rfl underlying154 Df rfl rfl hO4 rfl hsd (FH _) (by unfold maxLen; omega) (by omega) hE4.size ?_; intro a7 c7 w7 hO7 hg7 hb7)
            have HN:Hid (TQ wb w w7 a x wd nc G l (some ⟨gc,0,none⟩) cc n k a7 (n4+L) c7):=by
             refine ⟨hE4.grown hg7 hb2, ?_,HP.out.ch.kept hg7 (fun h=>HP.out.sep1 h.symm),⟨b4,hb4.kept hg7 (fun h=>HP.out.sep2 h.symm),hbl4⟩, ?_, ?_,HGB.out,HGW.out,HP.out.kp.grown hg7 hb7,by rw [if_neg (by omega)]; omega⟩
             · have e:l ++ cpT x wd nc k=l ++ cpT x wd nc (k+1) ++ List.replicate j 48 ++ Lib.decDigits u:=by
                rw [←TR (by omega) HTOP.out HU.out,HL.out,show 19-L=j by omega];simp only [List.append_assoc]
               rw [e,List.map_append];exact hO7
             · intro k hk;cases hk;refine ⟨?_,HGC.out.2⟩;rcases hb7 with h|h
               · rw [h]; exact HP.out.sep1
               · rw [h]; simp; omega
             · rcases hb7 with h|h
               · rw [h]; exact HP.out.sep2
               · rw [h]; simp; omega
            have hfk:decide (k=nc)=false:=by simp; omega
            go_roundw
            case rel=>exact ⟨k,a7,n4+L,c7,rfl,by rw [hfk],rfl,by omega,HN.out⟩
            case measure=>simp [intOf]
  · have hv0:0<x/10000000000000000000^nc:=Nat.pos_of_ne_zero fun h=>h0 (HZ.out.2 h);have hle:10000000000000000000^nc≤x:=by
     refine Classical.byContradiction fun hc => ?_;rw [Nat.div_eq_of_lt (by omega)] at hv0;omega
    have hnc:=Sb HXB.out hle;have HLE:=qh hle;clear hle;obtain ⟨g,rfl,hg1,hg2⟩:=HS.wk.place (by omega);have hEr:=HS.ext;have hcr:=HS.ch;have hwr:Az .u64 wr w.heap.size 143 g nk ck ys:=HS.wk;have HSEP:=qh HS.sep;have HN:=qh HS.num;clear HS;obtain ⟨j,rfl⟩:∃ j,nk=j+1:=⟨nk-1,by omega⟩;clear h0;go_wp2;obtain ⟨wo,hwo⟩:∃ wo:World,wo=wr:=⟨_,rfl⟩;subst hwo
    go_loopw [9,10] (fun rv iv wx=>∃ (k r:Nat) (zs:List Nat),k≤j+1∧rv = .int .u64 r∧iv = .int .i64 ((k:Int)-1)∧r<10000000000000000000∧Ext w wx∧Az .u64 wx w.heap.size 143 g (j+1) ck zs∧Own wx w.heap.size 143 ac nc cc ((ckS 10000000000000000000 x nc).map (BO .u64))∧W.bnd 18446744073709551616 zs∧Hid (zs.take k=ys.take k)∧Hid (W.val 18446744073709551616 (ys.drop k)=W.val 18446744073709551616 (zs.drop k)*10000000000000000000+r)) (fun _ v _=>(intOf v+1).toNat)
    case atStart=>exact ⟨j+1,0,ys,lrf _,rfl,by go_num,by omega,hEr,hwr,hcr,HN.out.bnd,qh rfl,qh (by rw [List.drop_of_length_le (by rw [HY.out]; exact lrf _)]; simp [W.val])⟩
    case round =>
     obtain ⟨k,r,zs,hk,rfl,rfl,hr,hEx,hz,hcx,bz,HTK,HE⟩:=hrel;cases k with
     | zero =>
      have HVAL:Hid (x/10000000000000000000^nc/10000000000000000000=W.val 18446744073709551616 zs∧x/10000000000000000000^nc%10000000000000000000=r):=by
       show _∧_;have h1:=HE.out;rw [List.drop_zero,List.drop_zero,HN.out.val] at h1;rw [h1,Nat.mul_comm];exact ⟨by rw [Nat.mul_add_div (by omega),Nat.div_eq_of_lt hr,Nat.add_zero],by rw [Nat.mul_add_mod,Nat.mod_eq_of_lt hr]⟩
      go_wp2_with fail
      refine (Bl hz.sl).mono ?_;rintro e w4 ⟨q,rfl,rfl,hq,ht⟩;have hA:=hcx.alloc (.cells #[.int .u64 r] 143);have hL:=(Au wr w.heap.size 143 #[.int .u64 r] 1 rfl hEx.size (by omega)).sl;have hb2:∀ k,blk ac=some k→w.heap.size≤k:=fun k hk=>(hcx.lt hk).1;have hgl:=hz.lt
      go_wp2_with (refine Bw rfl rfl underlying88 Ay rfl rfl hA rfl hL (by simp [Value.oneCell']) (by unfold maxLen; omega) (by omega) (by simp; have:=hEx.size; omega) ?_; intro a7 c7 w7 hO7 hg7 hb7)
      have HNEW:Hid (VO w w7 x (some ⟨g,0,none⟩) q ck a7 (nc+1) c7 (W.trim zs)):=by
       refine ⟨(hEx.alloc _).grown hg7 hb2, ?_, ?_, ?_, ?_,Or.inr ?_⟩
       · rw [ht];exact ((Az.upto hz hq).alloc _).kept hg7 (Or.inr fun h=>HSEP.out g h.symm rfl)
       · rw [←Sa,List.map_append,HVAL.out.2];exact hO7
       · intro k hk he;cases he;rcases hb7 with h|h
         · exact HSEP.out g (by rw [←h]; exact hk) rfl
         · rw [hk] at h;simp at h;omega
       · rw [Nat.pow_succ,←Nat.div_div_eq_div_mul,HVAL.out.1];exact Num.trim bz rfl
       · exact HLE.out
      go_roundw
      case rel=>exact ⟨_,q,ck,a7,nc+1,c7,_,rfl,rfl,by omega,HNEW.out⟩
      case measure=>simp; omega
     | succ k =>
      have g1:=hz.cell (i:=k) (by omega);have hw0:((k+1:Nat):Int)-1=k:=by omega
      rw [hw0];have hzk:=W.bnd_at bz (i:=k) (by rw [hz.len]; omega);have HST:=qh (fun q r'=>MX (B:=18446744073709551616) (xs:=ys) (zs:=zs) (k:=k) (q:=q) (r:=r) (r':=r') (d:=10000000000000000000) (by rw [HY.out]; omega) (by rw [hz.len]; omega) HE.out);have HEQ:Hid (zs.getD k 0=ys.getD k 0):=by
       show _=_;have h1:=congrArg (fun l=>l.getD k 0) HTK.out;have h2:∀ (l:List Nat),(l.take (k+1)).getD k 0=l.getD k 0:=fun l=>by simp
       simpa [h2] using h1
      have HTK2:Hid (∀ q,(zs.set k q).take k=ys.take k):=by
       show ∀ q,(zs.set k q).take k=ys.take k;intro q;rw [List.take_set_of_le (lrf _)];have h1:=congrArg (fun l=>l.take k) HTK.out;simpa [List.take_take,Nat.min_eq_left (Nat.le_succ k)] using h1
      generalize hu:zs.getD k 0=u at *
      have hdv:=fun wx:World=>EB (w:=wx) (hi:=r) (lo:=u) (y:=10000000000000000000) (by omega) hzk hr
      go_wp2_with fail
      refine (hdv _).mono ?_;rintro e w2 ⟨q,r',rfl,hq,hr',he,hQ⟩;have hz2:=hz.ext hQ.ext;have g3:=hz2.frozen k;have g4:=hz2.cell (i:=k) (by omega);have HS2:=qh (HST.out q r' (by rw [←HEQ.out]; exact he));have hE2:=hEx.trans hQ.ext;have hcx2:=hcx.ext hQ.ext;clear he;go_wp2;go_roundw
      case rel=>exact ⟨k,r',zs.set k q,by omega,rfl,by go_num,hr',hE2.setCell hg1 _,hz2.set k q,hcx2.kept (Ao _ _ _ _) (Or.inr fun h=>HSEP.out g h rfl),W.bnd_set bz hq,qh (HTK2.out q),HS2⟩
      case measure=>simp [intOf]
theorem GT {pn pc:Nat} (hT:A2 wb) (hE:Ext wb w) (hO:Own w wb.heap.size 5 a n c (l.map AO)) (hx:SlN .u64 w b m d xs) (hxn:Num 18446744073709551616 xs x) (hm:m≤30) (hn:n≤100000) (hp:pn<100) :
 Calls prog 184 #[.slice a n c, .slice b m d, .int .i64 0, .slice pa pn pc] w (JQ wb (l ++ W.padD 0 x)):=by
 have HAP:=qh (Ia hT hE hO hx hxn (by omega) (by omega) (wd:=0) (by omega));rcases Nat.eq_zero_or_pos pn with rfl|h0
 all_goals
  go_enter func184,ntmps184
  go_wp2_with fail
  refine HAP.out.mono ?_;rintro e w' ⟨a1,n1,c1,rfl,h1,h2,h3⟩;go_wp2;go_ret;exact ⟨a1,n1,c1,rfl,h1,h2⟩
theorem EX (hT:A2 wb) (hE:Ext wb w) (hO:Own w wb.heap.size 5 a n c (l.map AO)) (hx:Wd w b m d x) (hb:x<P2 1920) (hn:n≤100000) :
 Calls prog 148 #[.slice a n c, .slice b m d] w (JQ wb (l ++ Lib.decDigits x)):=by
 by_cases h1:x<18446744073709551616
 · exact H8 (hT.ext hE) hE hO hx h1 hn
 · have hm30:m≤30:=hx.len (k:=30) hb;have hm2:2≤m:=by
    refine Nat.lt_of_not_le fun h=>h1 ?_;obtain ⟨xs,g1,g2⟩:=hx;have:=W.val_lt g2.bnd;rw [g2.val,g1.len] at this;refine Nat.lt_of_lt_of_le this ?_;rw [show (18446744073709551616:Nat)=18446744073709551616^1 by decide];exact Nat.pow_le_pow_right (by omega) h
   have HD:Hid (W.padD 0 x=Lib.decDigits x):=qh (W.padD_nat (by omega));obtain ⟨xs,hx1,hx2⟩:=hx;have hap:=fun (wx:World) (hC:Ext w wx)=>qh (GT (pn:=1) (pc:=1) (pa:=some ⟨w.heap.size+1,0,none⟩) hT (hE.trans hC) (hO.ext hC) (hx1.ext hC) hx2 hm30 hn (by omega));clear h1 hx2;have hmz:(0:Int)<(m:Int):=by omega
   go_enter func148,ntmps148
   go_wp2;have hE1:=((Ext.refl w).alloc (.cells #[.int .u64 10000000000000000000] 143)).alloc (.cells #[.slice (some ⟨w.heap.size,0,none⟩) 1 1] 88)
   go_loop [5] (fun pv=>pv = .slice (some ⟨w.heap.size+1,0,none⟩) 1 1) (fun _=>0)
   case atStart=>exact rfl
   case round =>
    obtain rfl:=hrel;have hm3:(m:Int)≤30:=by omega
    have hdm:decide ((30:Int)<(m:Int))=false:=decide_eq_false (by omega)
    go_wp2_with fail
    refine (hap _ hE1).out.mono ?_;rintro e w9 ⟨a9,n9,c9,rfl,h9,hE9⟩;go_wp2;go_ret;exact ⟨a9,n9,c9,rfl,by rw [←HD.out]; exact h9,hE9⟩
theorem Gn (hT:A2 wb) (hE:Ext wb w) (hO:Own w wb.heap.size 5 a0 n0 c0 (l.map AO)) (h:Ax wb v z) (hb:z.natAbs<P2 1920) (hn:n0≤10000) :
 Calls prog 106 #[v, .slice a0 n0 c0] w (JQ wb (l ++ Lib.itoa z)):=by
 obtain ⟨s,a,n,c,rfl,HS,hx⟩:=h;cases s with
 | true =>
  have HI:Hid (l ++ Lib.itoa z=(l ++ [45]) ++ Lib.decDigits z.natAbs):=by
   show _=_;have hz:z<0:=by simpa using HS.out
   unfold Lib.itoa;rw [if_pos hz,List.append_assoc];rfl
  go_enter func106,ntmps106
  go_upto_region 1 with (fail)
  refine Bq ?_;intro w0 hE0 hB0 hz0;have p00:=hB0.c 0 rfl;have p01:=hB0.c 1 rfl;have hE1:=hE.trans hE0;have hO1:=hO.ext hE0;have hA:=hO1.alloc (.cells #[.int .u8 45] 5);have hL:=(Au w0 wb.heap.size 5 #[.int .u8 45] 1 rfl hE1.size (by omega)).sl;have hb2:∀ k,blk a0=some k→wb.heap.size≤k:=fun k hk=>(hO1.lt hk).1;have hP:=hB0.lt;clear hz0
  go_upto_region 3 with (refine Bw rfl rfl underlying154 Df rfl rfl hA rfl hL (by simp [Value.oneCell']) (by unfold maxLen; omega) (by omega) (by simp; have:=hE1.size; omega) ?_; intro a7 c7 w7 hO7 hg7 hb7)
  have hE7:Ext wb w7:=(hE1.alloc _).grown hg7 hb2;have hO8:Own w7 wb.heap.size 5 a7 (n0+1) c7 ((l ++ [45]).map AO):=by rw [List.map_append]; exact hO7
  have hne:blk a0≠some w.heap.size:=by
   intro he;have:=(hO.lt he).2;omega
  have hB7:=(hB0.alloc (.cells #[.int .u8 45] 5)).kept hg7 (fun he=>hne he.symm);have q1:=hB7.c 1 rfl;have hap:=qh (EX hT hE7 hO8 (hx.ext hE7) hb (by omega))
  go_wp2_with fail
  refine hap.out.mono ?_;rintro e w8 ⟨a8,n8,c8,rfl,hO9,hE8⟩;go_wp2;go_ret;exact ⟨a8,n8,c8,rfl,by rw [HI.out]; exact hO9,hE8⟩
 | false =>
  have HI:Hid (l ++ Lib.itoa z=l ++ Lib.decDigits z.natAbs):=by
   show _=_;have hz:¬ z<0:=by simpa using HS.out
   unfold Lib.itoa;rw [if_neg hz];congr 2;omega
  go_enter func106,ntmps106
  go_upto_region 1 with (fail)
  refine Bq ?_;intro w0 hE0 hB0 hz0;have p00:=hB0.c 0 rfl;have p01:=hB0.c 1 rfl;have hE1:=hE.trans hE0;have hap:=qh (EX hT hE1 (hO.ext hE0) (hx.ext hE1) hb (by omega));clear hz0
  go_wp2_with fail
  refine hap.out.mono ?_;rintro e w8 ⟨a8,n8,c8,rfl,hO9,hE8⟩;go_wp2;go_ret;exact ⟨a8,n8,c8,rfl,by rw [HI.out]; exact hO9,hE8⟩
theorem OJ (hT:A2 w) (h:Ax w v z) (hb:z.natAbs<P2 1920):Calls prog 105 #[v] w fun e w'=>e = .returned (.string ⟨(Lib.itoa z).toArray⟩)∧Ext w w':=by
 have hap:=fun (wx:World) (hE:Ext w wx)=>qh (Gn (l:=[]) (hT.ext hE) (Ext.refl wx) (Own.nil wx _ _) (h.ext hE) hb (Nat.zero_le _));obtain ⟨s,a,n,c,rfl,HS,hx⟩:=h
 go_enter func105,ntmps105
 go_upto_region 1 with (fail)
 refine Bq ?_;intro w0 hE0 hB0 hz0;have p00:=hB0.c 0 rfl;have p01:=hB0.c 1 rfl;clear hz0
 go_wp2_with fail
 refine (hap _ hE0).out.mono ?_;rintro e w1 ⟨a1,n1,c1,rfl,hO1,hE1⟩
 go_wp2_with (refine EH rfl rfl underlying154 underlying5 underlying9 rfl hO1.sl ?_)
 go_ret;exact ⟨rfl,hE0.trans hE1⟩
theorem Va (b:Nat):P2 b≤10^(b/3+1):=by
 have e:P2 b=8^(b/3)*2^(b%3):=by
  unfold P2
  conv=>lhs; rw [←Nat.div_add_mod b 3,Nat.pow_add,Nat.pow_mul]
 have h1:8^(b/3)≤10^(b/3):=Nat.pow_le_pow_left (by omega) _;have h2:2^(b%3)≤2^2:=Nat.pow_le_pow_right (by omega) (by omega);rw [e,Nat.pow_succ];exact Nat.mul_le_mul h1 (by omega)
theorem Se {b:Nat} (h:n<P2 b):(Lib.decDigits n).length≤b/3+1:=W.dec_len (Nat.lt_of_lt_of_le h (Va b)) (by omega)
theorem PF {b:Nat} (h:z.natAbs<P2 b):(Lib.itoa z).length≤b/3+2:=by
 have h1:=Se h;unfold Lib.itoa;split
 · simp; omega
 · have e:z.toNat=z.natAbs:=by omega
   rw [e]; omega
/-! Ratios. -/
theorem Ac:Agg prog 97 4:=⟨by kernel_rfl,by kernel_rfl⟩
def An (s:Bool) (a:Option Addr) (n c:Nat) (t:Bool) (b:Option Addr) (m d:Nat):List Value:=Ab s a n c ++ Ab t b m d
theorem Ap (s:Bool) (a:Option Addr) (n c:Nat) (t:Bool) (b:Option Addr) (m d:Nat):∀ v∈An s a n c t b m d,v.oneCell'=true:=by
 intro v hv;rcases List.mem_append.1 hv with h|h
 · exact Ai _ _ _ _ v h
 · exact Ai _ _ _ _ v h
theorem AC (s:Bool) (a:Option Addr) (n c:Nat) (t:Bool) (b:Option Addr) (m d:Nat):∀ v∈An s a n c t b m d,∀ i,v ≠ .int .u64 i:=by
 intro v hv;rcases List.mem_append.1 hv with h|h
 · exact Aq _ _ _ _ v h
 · exact Aq _ _ _ _ v h
def Bu (q:Rat):Int:=if q.den=1 then 0 else (q.den:Int)
theorem Nn (q:Rat):0≤Bu q:=by unfold Bu; split <;> omega
theorem AE:Bu q=0↔q.den=1:=by
 have:=q.den_nz;unfold Bu;split
 · simp [*]
 · constructor
   · intro h; omega
   · intro h; exact absurd h ‹_›
theorem Dk (h:q.den≠1):(Bu q).natAbs=q.den:=by unfold Bu; rw [if_neg h]; rfl
theorem DC (h:q.den≠1):Bu q=(q.den:Int):=by unfold Bu; rw [if_neg h]
def DD (w:World) (cs:List Value) (q:Rat):Prop:=∃ s a n c b m d,cs=An s a n c false b m d∧Hid (decide (q.num<0)=s)∧Wd w a n c q.num.natAbs∧Wd w b m d (Bu q).natAbs
theorem DD.ext {w w':World} {cs:List Value} {q:Rat} (h:DD w cs q) (e:Ext w w'):DD w' cs q:=by
 obtain ⟨s,a,n,c,b,m,d,h1,h2,h3,h4⟩:=h;exact ⟨s,a,n,c,b,m,d,h1,h2,h3.ext e,h4.ext e⟩
def BB (w:World) (v:Value) (q:Rat):Prop:=∃ cs,v = .agg cs.toArray∧DD w cs q
theorem BB.ext {w w':World} {v:Value} {q:Rat} (h:BB w v q) (e:Ext w w'):BB w' v q:=by
 obtain ⟨cs,h1,h2⟩:=h;exact ⟨cs,h1,h2.ext e⟩
def F4 (w:World) (q:Rat) (e:Ending) (w':World):Prop:=∃ cs,e = .returned (.agg cs.toArray)∧Ext w w'∧DD w' cs q
theorem TS:Hid (decide (Bu q<0)=false):=qh (decide_eq_false (by have:=Nn q; omega))
theorem AX (HS:Hid (decide (q.num<0)=s)) (h:Wd w a n c q.num.natAbs):Ax w (.agg (Ab s a n c).toArray) q.num:=⟨s,a,n,c,rfl,HS,h⟩
theorem Be (h:Wd w b m d (Bu q).natAbs):Ax w (.agg (Ab false b m d).toArray) (Bu q):=⟨false,b,m,d,rfl,TS,h⟩
def txt (q:Rat):List UInt8:=Lib.itoa q.num ++ (if q.den=1 then [] else 47 :: Lib.decDigits q.den)
end Go.Proofs.YtlpgonpfjbhmfaaGreatDoor
