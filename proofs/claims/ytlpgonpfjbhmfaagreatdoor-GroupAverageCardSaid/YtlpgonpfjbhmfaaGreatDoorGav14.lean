/- Part Gav14. -/
import Derived.Test.YtlpgonpfjbhmfaaGreatDoorGav13
import Derived.Deep.LoopGhost
import Derived.Test.YtlpgonpfjbhmfaaGreatDoorGav6
import Derived.Test.YtlpgonpfjbhmfaaGreatDoorGav3
set_option maxRecDepth 100000
set_option maxHeartbeats 100000000
namespace Go.Proofs.YtlpgonpfjbhmfaaGreatDoor
open Tryz Go Go.RowKit
variable {p q:Addr} {xs ys:List Nat} {cs:List Value} {N X c d k m n off x y:Nat} {a b:Option Addr} {T:TypeId} {u v:Value} {w:World}
theorem HH (hx:SlN .u64 w a n c xs) (hy:SlN .u64 w b m d ys) (nx:Num 18446744073709551616 xs x) (ny:Num 18446744073709551616 ys y) (hn:n≤100000) (h0:0 < y) :
 Calls prog 177 #[.slice a n c, .slice b m d] w (M2 .u64 18446744073709551616 w (x / y) (x % y)):=by
 by_cases hlt:x < y
 · exact EC hx hy nx ny hlt
 · have hl:=hy.len;rcases Nat.lt_or_ge m 2 with h2 | h2
   · have hm:m=1:=by
      rcases Nat.eq_zero_or_pos m with h | h
      · subst h;have:ys=[]:=List.eq_nil_of_length_eq_zero hl;have hv:=ny.val;rw [this] at hv;simp only [W.val] at hv;omega
      · omega
     subst hm;exact E7 hx hy nx ny (by omega) (by omega) h0
   · exact E8 hx hy nx ny hn (by omega) (mm:=m - 2) (by omega)
theorem Dq (hx:SlN .u64 w a n c xs) (hy:SlN .u64 w b m d ys) (nx:Num 18446744073709551616 xs x) (ny:Num 18446744073709551616 ys y) (hn:n≤100000) (hm:m≤100000) (h0:0 < y) (hc:m < 80∨n < m+80) :
 Calls prog 138 #[.slice a n c, .slice b m d] w (M2 .u64 18446744073709551616 w (x / y) (x % y)):=by
 have hd:=HH hx hy nx ny hn h0;have HD:=Lib.hid hd;clear hd;have hw:IntKind.i64.wrap ((n:Int) - m)=(n:Int) - m:=IntWalk.i64_in _ (by omega);by_cases h1:m < 80
 · have h2:¬ ((80:Int)≤(m:Int)):=by omega
   go_enter func138,ntmps138
   go_wp2_with fail
   refine HD.out.mono ?_;rintro e w' ⟨a1,n1,c1,xs1,a2,n2,c2,ys2,rfl,h⟩;have H:=Lib.hid h;clear h;go_wp2
   go_ret2
   exact ⟨a1,n1,c1,xs1,a2,n2,c2,ys2,rfl,H.out⟩
 · have h2:(80:Int)≤(m:Int):=by omega
   have h3:¬ ((80:Int)≤(n:Int) - m):=by omega
   go_enter func138,ntmps138
   go_wp2_with fail
   refine HD.out.mono ?_;rintro e w' ⟨a1,n1,c1,xs1,a2,n2,c2,ys2,rfl,h⟩;have H:=Lib.hid h;clear h;go_wp2
   go_ret2
   exact ⟨a1,n1,c1,xs1,a2,n2,c2,ys2,rfl,H.out⟩
def RN (w:World) (n:Nat) (xs:List Nat) (e:Ending) (w':World):Prop:=∃ a' c',e = .returned (.slice a' n c')∧Ext w w'∧Own w' w.heap.size 143 a' n c' (xs.map (BO .u64))
theorem CD (hx:SlN .u64 w a n c xs) (hn:n≤1000000) :
 Calls prog 136 #[.slice a n c] w (RN w n xs):=by
 rcases Nat.eq_zero_or_pos n with h0 | h0
 · subst h0;have hxs:xs=[]:=List.eq_nil_of_length_eq_zero hx.len;subst hxs;have heq:=fun w':World=>Lib.run_eql_slice_nil (P:=prog) w' 88 143 a 0 c 0 0 underlying88;cases a with
   | none =>
    go_enter func136,ntmps136
    go_wp2;go_ret;exact ⟨none,0,rfl,Ext.refl w,Own.nil _ _ _⟩
   | some p =>
    go_enter func136,ntmps136
    go_upto_region 3 with (fail)
    have hA:Ext w (w.alloc (.cells #[] 143)):=(Ext.refl w).alloc _;have hO:=Au w w.heap.size 143 #[] 0 rfl (lrf _) (by omega)
    go_wp2_with (refine Bw (news:=[]) rfl rfl underlying88 Ay rfl rfl hO rfl (hx.ext hA) (by simp) (by unfold maxLen; omega) (by omega) (by simp) ?_; intro a1 c1 w1 hO1 hg1 hb1)
    go_ret;exact ⟨a1,c1,rfl,hA.grown hg1 (fun k hk=>(hO.lt hk).1),hO1⟩
 · refine (Tu hx hn h0).mono ?_;rintro e w' ⟨g,c',rfl,hE,hO⟩;exact ⟨_,c',rfl,hE,hO⟩
structure Iy (w wr:World) (N G:Nat) (aa:Option Addr) (na ca:Nat) (ab:Option Addr) (nb cb X Y:Nat) (xs ys:List Nat):Prop where
 ext:Ext w wr
 own1:Own wr w.heap.size 143 aa na ca (xs.map (BO .u64))
 own2:Own wr w.heap.size 143 ab nb cb (ys.map (BO .u64))
 ne:0 < nb→blk aa≠blk ab
 n1:Num 18446744073709551616 xs X
 n2:Num 18446744073709551616 ys Y
 le:Y≤X
 pos:0 < X
 gcd:Nat.gcd X Y=G
 bnd:X < 18446744073709551616^N
theorem Dy (h:Num 18446744073709551616 xs X) (hb:X < 18446744073709551616^N):xs.length≤N :=
 W.nrm_len (B:=18446744073709551616) (by omega) h.nrm (by rw [h.val]; exact hb)
theorem Pu (h:Num 18446744073709551616 xs X) (hp:0 < X):0 < xs.length:=by
 rcases Nat.eq_zero_or_pos xs.length with h0 | h0
 · have:xs=[]:=List.eq_nil_of_length_eq_zero h0;have hv:=h.val;rw [this] at hv;simp only [W.val] at hv;omega
 · exact h0
theorem Fc (h:Num 18446744073709551616 xs X) (hp:xs.length=0):X=0:=by
 have:xs=[]:=List.eq_nil_of_length_eq_zero hp;have hv:=h.val;rw [this] at hv;exact hv.symm
theorem LZ (h:Num 18446744073709551616 xs X) (hp:xs.length=1):xs.getD 0 0=X∧X < 18446744073709551616∧0 < X:=by
 match xs,hp with
 | [u],_ =>
  have hv:=h.val;have hb:=h.bnd u (by simp);have hn:=h.nrm (by simp);simp [W.val] at hv hn;subst hv;exact ⟨rfl,hb,by omega⟩
theorem IR (hT:A2 w) (hx:SlN .u64 w a n c xs) (hy:SlN .u64 w b m d ys) (nx:Num 18446744073709551616 xs x) (ny:Num 18446744073709551616 ys y) (hn:n≤150) (hm:m≤150) (hge:y≤x) :
 Calls prog 94 #[.slice a n c, .slice b m d] w (Iv .u64 18446744073709551616 w (Nat.gcd x y)):=by
 have hcw:=Lib.hid (Bi hx hy nx ny);have HX:=Lib.hid hx.len;have HY:=Lib.hid hy.len;have NX:=Lib.hid nx;have NY:=Lib.hid ny;have hb0:x < 18446744073709551616^n:=by have:=W.val_lt nx.bnd; rw [nx.val,hx.len] at this; exact this
 have HB:=Lib.hid hb0;have hge2:y≤x:=by omega
 have HC:Hid (¬ Ba (x:Int) (y:Int) < 0):=Lib.hid (by rw [Fb]; omega);clear hb0 nx ny
 go_enter func94,ntmps94
 go_wp2_with fail
 refine hcw.out.mono ?_;rintro e w0 ⟨rfl,hQ0⟩;have hc:=HC.out;generalize Ba (x:Int) (y:Int)=cv at *
 have hc':(0:Int)≤cv:=by omega
 have hx0:=hx.ext hQ0.ext;have hy0:=hy.ext hQ0.ext;have hE0:=hQ0.ext;clear HC hcw hQ0;by_cases hm0:m=0
 · have hy00:y=0:=Fc NY.out (by rw [HY.out]; exact hm0);have HG:Hid (Nat.gcd x y=x):=by show _=_; rw [hy00]; exact Nat.gcd_zero_right _
   have hmb:((m:Int) == 0)=true:=by simp [hm0]
   clear hy00 hm0;go_wp2;go_ret;exact ⟨a,n,c,xs,rfl,hE0,hx0,by rw [HG.out]; exact NX.out⟩
 have hmb:((m:Int) == 0)=false:=by simpa using hm0
 have hypos:0 < y:=by
  rcases Nat.eq_zero_or_pos y with h | h
  · exfalso;have h1:W.val 18446744073709551616 ys=0:=by rw [NY.out.val,h]
    have h2:=(W.nrm_zero (B:=18446744073709551616) (by omega) NY.out.nrm).1 h1;have h3:=HY.out;rw [h2] at h3;exact hm0 h3.symm
  · exact h
 clear hm0
 go_wp2_with fail
 refine (CD hx0 (by omega)).mono ?_;rintro e w1 ⟨a1,c1,rfl,hE1,hO1⟩
 go_wp2_with fail
 refine (CD (hy0.ext hE1) (by omega)).mono ?_;rintro e w2 ⟨a2,c2,rfl,hE2,hO2⟩;have hst:Iy w w2 n (Nat.gcd x y) a1 n c1 a2 m c2 x y xs ys:=by
  refine ⟨(hE0.trans hE1).trans hE2,(hO1.mono hE0.size).ext hE2,hO2.mono (hE0.trans hE1).size,fun h0 he => ?_,NX.out,NY.out,hge2,by omega,rfl,HB.out⟩;obtain ⟨g2,rfl,hg2,_⟩:=hO2.place h0;have:=(hO1.lt (k:=g2) (by rw [he]; rfl)).2;omega
 have HG:=Lib.hid hst;clear hst hO1 hO2 hE1 hE2 hx0 hy0 hE0;go_wp2
 go_loopg [5,6] (x+y) (fun gk av bv wr=>∃ (aa ab:Option Addr) (na ca nb cb X Y:Nat) (us vs:List Nat),av = .slice aa na ca∧bv = .slice ab nb cb∧na≤150∧nb≤na∧X+Y≤gk∧Hid (Iy w wr n (Nat.gcd x y) aa na ca ab nb cb X Y us vs))
 case atStart =>
  refine ⟨a1,a2,n,c1,m,c2,x,y,xs,ys,rfl,rfl,by omega, ?_,lrf _,HG⟩;have h1:=Dy NY.out (Nat.lt_of_le_of_lt hge2 HB.out);rw [HY.out] at h1;exact h1
 case round =>
  clear HG;obtain ⟨aa,ab,na,ca,nb,cb,X,Y,us,vs,rfl,rfl,hna,hnb,hgk,HG⟩:=hrel;have HU:Hid (us.length=na):=Lib.hid (by have:=HG.out.own1.len; simpa using this);have HV:Hid (vs.length=nb):=Lib.hid (by have:=HG.out.own2.len; simpa using this);have hXp:=HG.out.pos;have hYX:=HG.out.le;have hna0:0 < na:=by have:=Pu HG.out.n1 hXp; rw [HU.out] at this; exact this
  have hs1:SlN .u64 wr aa na ca us:=HG.out.own1.sl;have hs2:SlN .u64 wr ab nb cb vs:=HG.out.own2.sl;obtain ⟨ga,rfl,hga1,hga2⟩:=HG.out.own1.place hna0;by_cases h1:nb≤1
  · by_cases h0:nb=0
    · have hY0:Y=0:=Fc HG.out.n2 (by rw [HV.out]; exact h0);have HF:Hid (Num 18446744073709551616 us (Nat.gcd x y)):=by
       have h2:=HG.out.gcd;rw [hY0,Nat.gcd_zero_right] at h2;have h3:=HG.out.n1;rw [h2] at h3;exact Lib.hid h3
      have hE:=HG.out.ext;subst h0;clear hY0 h1;go_wp2;go_ret;exact ⟨_,na,ca,us,rfl,hE,hs1,HF.out⟩
    · have h11:nb=1:=by omega
      subst h11;obtain ⟨k1,k2,k3⟩:=LZ HG.out.n2 HV.out;obtain ⟨b2,o2,rfl,hcell⟩:=hs2.at (j:=0) (by omega);have g1:=hcell 0 (by omega);rw [k1,Nat.add_zero] at g1;have HF:Hid (Nat.gcd Y (X % Y)=Nat.gcd x y):=by
       show _=_;rw [←HG.out.gcd,Nat.gcd_comm X Y,Nat.gcd_rec Y X,Nat.gcd_comm]
      have hE:=HG.out.ext;have hT1:=hT.ext hE;have hgb:Nat.gcd Y (X % Y) < 18446744073709551616:=by have:=Nat.le_of_dvd k3 (Nat.gcd_dvd_left Y (X % Y)); omega
      have hrm:=fun (wx:World) (h:Ext wr wx)=>D1 (d:=Y) (hs1.ext h) HG.out.n1.bnd HG.out.n1.val k2 k3 (by omega);clear hcell h1 h0 k1;have hmod:X % Y < 18446744073709551616:=by have:=Nat.mod_lt X k3; omega
      go_wp2
      refine AM (by kernel_rfl) (fun wx=>Ext wr wx)
       [he (.slice (some ⟨b2,o2,none⟩) 1 cb),
 he (.pointer (some ⟨b2,o2,none⟩)),
 he (.int .u64 (Y:Int)),
 he (.slice (some ⟨ga,0,none⟩) na ca),
 he (.slice (some ⟨b2,o2,none⟩) 1 cb),
 he (.pointer (some ⟨b2,o2,none⟩)),
 he (.int .u64 (Y:Int)),
 hp (fun v wx=>v = .int .u64 ((X % Y:Nat):Int)),
 hp (fun v wx=>v = .int .u64 ((Nat.gcd Y (X % Y):Nat):Int)),
 hp (fun v wx=>∃ a' n' c' zs,v = .slice a' n' c'∧SlN .u64 wx a' n' c' zs∧Num 18446744073709551616 zs (Nat.gcd Y (X % Y)))]
       (by kernel_rfl) (fun _ _ e h=>h.trans e) ((Ext.refl wr).drew) ⟨trivial,trivial,trivial,trivial,trivial,trivial,trivial,fun v w w' e h=>h,fun v w w' e h=>h,fun v w w' e ⟨a',n',c',zs,h1,h2,h3⟩=>⟨a',n',c',zs,h1,h2.ext e,h3⟩,trivial⟩ ⟨?o0, ?o1, ?o2, ?o3, ?o4, ?o5, ?o6, ?o7, ?o8, ?o9,trivial⟩ ?fin
      case o0=>exact CS rfl (.inl rfl) (fun _ _ _ h=>h.1)
      case o1 =>
       refine AB rfl fun ρ wx hC hcst h => ?_;have e0:ρ (.tmp 62)=(.slice (some ⟨b2,o2,none⟩) 1 cb):=h.1;have hgc:=hC.cell g1;go_simp
       try (first | (intros; omega) | exact IntWalk.i64_in _ (by omega))
      case o2 =>
       refine AB rfl fun ρ wx hC hcst h => ?_;have e0:ρ (.tmp 63)=(.pointer (some ⟨b2,o2,none⟩)):=h.1;have hgc:=hC.cell g1;go_simp
      case o3=>exact CS rfl (.inl rfl) (fun _ _ _ h=>h.1)
      case o4=>exact CS rfl (.inl rfl) (fun _ _ _ h=>h.1)
      case o5 =>
       refine AB rfl fun ρ wx hC hcst h => ?_;have e0:ρ (.tmp 66)=(.slice (some ⟨b2,o2,none⟩) 1 cb):=h.1;have hgc:=hC.cell g1;go_simp
       try (first | (intros; omega) | exact IntWalk.i64_in _ (by omega))
      case o6 =>
       refine AB rfl fun ρ wx hC hcst h => ?_;have e0:ρ (.tmp 67)=(.pointer (some ⟨b2,o2,none⟩)):=h.1;have hgc:=hC.cell g1;go_simp
      case o7 =>
       refine Aj rfl fun ρ wx hC hcst hfn h => ?_;have e1:ρ (.tmp 65)=(.slice (some ⟨ga,0,none⟩) na ca):=h.2.1;have e2:ρ (.tmp 68)=(.int .u64 (Y:Int)):=h.2.2.1;have hgc:=hC.cell g1;refine ⟨143,#[.slice (some ⟨ga,0,none⟩) na ca, .int .u64 (Y:Int)],by go_simp,(hrm wx hC).mono ?_⟩;rintro e w' ⟨rfl,hQ'⟩;exact ⟨_,rfl,hQ'.ext,rfl⟩
      case o8 =>
       refine Aj rfl fun ρ wx hC hcst hfn h => ?_;have e1:ρ (.tmp 64)=(.int .u64 (Y:Int)):=h.2.1;obtain ⟨v2,e2,rfl⟩:=h.2.2.1;have hgc:=hC.cell g1;refine ⟨142,#[.int .u64 (Y:Int), .int .u64 ((X % Y:Nat):Int)],by go_simp,(Ix (hT1.ext hC) k2 hmod).mono ?_⟩;rintro e w' ⟨rfl,rfl⟩;exact ⟨_,rfl,Ext.refl _,rfl⟩
      case o9 =>
       refine Aj rfl fun ρ wx hC hcst hfn h => ?_;obtain ⟨v1,e1,rfl⟩:=h.2.1;have hgc:=hC.cell g1;refine ⟨141,#[.int .u64 ((Nat.gcd Y (X % Y):Nat):Int)],by go_simp,(DH hgb).mono ?_⟩;rintro e w' ⟨a',n',c',zs,rfl,hE',hs',hn'⟩;exact ⟨_,rfl,hE',a',n',c',zs,rfl,hs',hn'⟩
      case fin =>
       intro wx hC;rintro _ rfl;rintro _ rfl;rintro _ ⟨a71,n71,c71,z71,rfl,s71,t71⟩;change wpList _ _ _ _ _ _;simp only [List.length_cons,List.length_nil,List.drop_succ_cons,List.drop_zero,Act.put,List.setIfInBounds_toArray,List.set_cons_succ,List.set_cons_zero];go_wp2;go_ret;exact ⟨a71,n71,c71,z71,rfl,hE.trans hC,s71,by rw [←HF.out]; exact t71⟩
  · have hb1:(1:Int) < nb:=by omega
    obtain ⟨gb,rfl,hgb1,hgb2⟩:=HG.out.own2.place (by omega);have hne:ga≠gb:=by have:=HG.out.ne (by omega); simpa [blk] using this
    have hE:=HG.out.ext
    go_wp2_with fail
    refine (GG hs1 hs2 HG.out.n1 HG.out.n2 (by omega) hYX (nn:=na - 2) (by omega)).mono ?_;rintro e w3 ⟨u0,u1,v0,v1,odd,rfl,hE3,hu0,hu1,hv0,hv1,hst⟩;have HST:=Lib.hid hst;clear hst
    go_upto_region 8 with (refine Aa rfl rfl rfl rfl rfl AR (Arr.new _ _ _) rfl (Cj _ _ _ _ _) ?_; intro w4 hS4 hg4)
    have hE4:Ext w3 w4:=((Ext.refl w3).alloc _).grownR hg4 (lrf _);have hE34:=hE3.trans hE4;have o1:=HG.out.own1.ext hE34;have o2:=HG.out.own2.ext hE34;have s2:=hS4.c 2 rfl;by_cases hv00:v0=0
    · subst hv00;have hYp:0 < Y:=by
       rcases Nat.eq_zero_or_pos Y with h | h
       · exfalso;have h2:=(W.nrm_zero (B:=18446744073709551616) (by omega) HG.out.n2.nrm).1 (by rw [HG.out.n2.val,h]);have h3:=HV.out;rw [h2] at h3;simp at h3;omega
       · exact h
      have hdv:=Dq (hs1.ext hE34) (hs2.ext hE34) HG.out.n1 HG.out.n2 (by omega) (by omega) hYp (by omega)
      go_wp2_with fail
      refine hdv.mono ?_;rintro e w5 ⟨p1,p2,p3,p4,ar,nr,cr,rs,rfl,hE5,_,_,hsr,nmr,_⟩;have hrl:nr≤150:=by
       have h1:=Dy nmr (Nat.lt_trans (Nat.mod_lt X hYp) (Nat.lt_of_le_of_lt hYX HG.out.bnd));rw [hsr.len] at h1;omega
      have hrb:nr≤nb:=by
       have h1:=W.val_lt HG.out.n2.bnd;rw [HG.out.n2.val,HV.out] at h1;have h2:=Dy nmr (Nat.lt_trans (Nat.mod_lt X hYp) h1);rw [hsr.len] at h2;exact h2
      clear hdv
      go_wp2_with fail
      refine (CD hsr (by omega)).mono ?_;rintro e w6 ⟨a6,c6,rfl,hE6,hO6⟩;have hE56:=(hE34.trans hE5).trans hE6;have HG2:Hid (Iy w w6 n (Nat.gcd x y) (some ⟨gb,0,none⟩) nb cb a6 nr c6 Y (X % Y) vs rs):=by
       refine Lib.hid ⟨hE.trans hE56,HG.out.own2.ext hE56,hO6.mono ((hE.trans hE34).trans hE5).size,fun h0 he => ?_,HG.out.n2,nmr,Nat.le_of_lt (Nat.mod_lt X hYp),hYp, ?_,Nat.lt_of_le_of_lt hYX HG.out.bnd⟩
       · obtain ⟨g6,rfl,hg6,_⟩:=hO6.place h0;simp only [blk,Option.map_some,Option.some.injEq] at he;have:=hE34.size;have:=hE5.size;omega
       · rw [←HG.out.gcd,Nat.gcd_comm X Y,Nat.gcd_rec Y X,Nat.gcd_comm]
      have hms:Y+X % Y < X+Y:=by have:=Nat.mod_lt X hYp; omega
      go_wp2
      go_roundg (Y+X % Y)
      case rel=>exact ⟨_,a6,nb,cb,nr,c6,Y,X % Y,vs,rs,rfl,rfl,by omega,hrb,lrf _,HG2⟩
      case measure=>omega
    · have hv0b:((v0:Int) == 0)=false:=by simpa using hv00
      have hst2:∃ p q,W.Steps X Y u0 u1 v0 v1 odd p q:=by
       rcases HST.out with h | h
       · exact absurd h hv00
       · exact h
      obtain ⟨p,q,hpq⟩:=hst2;have HPQ:=Lib.hid hpq;clear hpq HST;have hgbS:gb < w3.heap.size:=Nat.lt_of_lt_of_le hgb2 hE3.size;have hgaS:ga < w3.heap.size:=Nat.lt_of_lt_of_le hga2 hE3.size;have hSw:w.heap.size≤w3.heap.size:=(hE.trans hE3).size;have hE5:=hE.trans hE34;clear hs1 hs2 hb1 hE4 hg4 hE34 hE3;generalize w3.heap.size=S at *
      go_wp2;clear s2;obtain ⟨wo,hwo⟩:∃ wo:World,wo=wr:=⟨_,rfl⟩;subst hwo
      go_loopw [6] (fun bv wx=>∃ (ab:Option Addr) (nc cc:Nat),bv = .slice ab nc cc∧nb≤nc∧nc≤na∧Ext w wx∧Own wx w.heap.size 143 (some ⟨ga,0,none⟩) na ca (us.map (BO .u64))∧Own wx w.heap.size 143 ab nc cc ((vs ++ List.replicate (nc - nb) 0).map (BO .u64))∧blk ab≠some ga∧Arr wx S 184 (Bj u0 u1 v0 v1 odd)∧blk ab≠some S) (fun bv _=>match bv with | .slice _ k _=>na - k | _=>0)
      case atStart=>exact ⟨_,nb,cb,rfl,lrf _,hnb,hE5,o1,by rw [Nat.sub_self,List.replicate_zero,List.append_nil]; exact o2,by simp [blk]; omega,hS4,by simp [blk]; omega⟩
      case round =>
       clear o1 o2 hS4 hE5;obtain ⟨ab,nc,cc,rfl,hnc1,hnc2,hEx,o1,o2,hbg,hSx,hbS⟩:=hrel;by_cases hlt:nc < na
       · have hA:=o2.alloc (.cells #[.int .u64 0] 143);have hL:=(Au wr w.heap.size 143 #[.int .u64 0] 1 rfl hEx.size (by omega)).sl;have hb2:∀ k,blk ab=some k→w.heap.size≤k:=fun k hk=>(o2.lt hk).1;have hga3:=(o1.lt (k:=ga) rfl).2;have hS3:=hSx.lt
         go_wp2_with (refine Bw rfl rfl underlying88 Ay rfl rfl hA rfl hL (by simp [Value.oneCell']) (by unfold maxLen; omega) (by omega) (by simp; omega) ?_; intro a7 c7 w7 hO7 hg7 hb7)
         have hE7:Ext w w7:=(hEx.alloc _).grown hg7 hb2;have o17:=(o1.alloc (.cells #[.int .u64 0] 143)).kept hg7 (Or.inr (fun h=>hbg h.symm));have hS7:=(hSx.alloc (.cells #[.int .u64 0] 143)).kept hg7 (fun h=>hbS h.symm);have hne7:blk a7≠some ga:=by
          rcases hb7 with h | h
          · rw [h]; exact hbg
          · rw [h]; simp; omega
         have hne8:blk a7≠some S:=by
          rcases hb7 with h | h
          · rw [h]; exact hbS
          · rw [h]; simp; omega
         have hO8:Own w7 w.heap.size 143 a7 (nc+1) c7 ((vs ++ List.replicate (nc+1 - nb) 0).map (BO .u64)):=by
          have e1:nc+1 - nb=nc - nb+1:=by omega
          rw [e1,List.replicate_succ',←List.append_assoc,List.map_append];exact hO7
         clear hO7 hA hL hb7;go_roundw
         case rel=>exact ⟨a7,nc+1,c7,rfl,by omega,by omega,hE7,o17,hO8,hne7,hS7,hne8⟩
         case measure=>simp; omega
       · have enc:nc=na:=by omega
         subst enc;obtain ⟨g2,rfl,hg21,hg22⟩:=o2.place hna0;have hne2:ga≠g2:=by intro h; subst h; exact hbg rfl
         have vb:W.val 18446744073709551616 (vs ++ List.replicate (nc - nb) 0)=Y:=by rw [Hv,HG.out.n2.val]
         have bb:W.bnd 18446744073709551616 (vs ++ List.replicate (nc - nb) 0):=Jl (by omega) HG.out.n2.bnd _;have hap:=Lg hEx o1 o2 hne2 HG.out.n1.bnd bb HG.out.n1.val vb hu0 hu1 hv0 hv1 HPQ.out (by omega);have HAP:=Lib.hid hap;clear hap vb bb;have s0:=hSx.c 0 rfl;have s1:=hSx.c 1 rfl;have s2:=hSx.c 2 rfl;have s3:=hSx.c 3 rfl;have s4:=hSx.c 4 rfl
         go_wp2_with fail
         refine HAP.out.mono ?_;rintro e w8 ⟨rfl,hE8,zs,ts,oz,ot,bz,bt,vz,vt⟩;clear s0 s1 s2 s3 s4 hSx HAP
         go_wp2_with fail
         refine (Bl oz.sl).mono ?_;rintro e w9 ⟨m1,rfl,rfl,hm1,ht1⟩
         go_wp2_with fail
         refine (Bl ot.sl).mono ?_;rintro e w9 ⟨m2,rfl,rfl,hm2,ht2⟩;obtain ⟨t1,t2⟩:=BF oz.sl hm1 ht1 bz vz;obtain ⟨t3,t4⟩:=BF ot.sl hm2 ht2 bt vt;have o3:=oz.upto hm1;have o4:=ot.upto hm2;rw [←ht1] at o3;rw [←ht2] at o4;have hqp:=HPQ.out.lt;have hpY:=HPQ.out.le;have hpb:p < 18446744073709551616^n:=Nat.lt_of_le_of_lt (Nat.le_trans hpY hYX) HG.out.bnd;have hm21:m2≤m1:=by
          have h1:=W.val_lt t2.bnd;rw [t2.val,t1.len] at h1;have h2:=Dy t4 (Nat.lt_trans hqp h1);rw [t3.len] at h2;exact h2
         have HG2:Hid (Iy w w8 n (Nat.gcd x y) (some ⟨ga,0,none⟩) m1 ca (some ⟨g2,0,none⟩) m2 cc p q (W.trim zs) (W.trim ts)) :=
          Lib.hid ⟨hE8,o3,o4,fun _=>by simpa [blk] using hne2,t2,t4,Nat.le_of_lt hqp,by omega,by rw [HPQ.out.gcd,HG.out.gcd],hpb⟩
         clear ht1 ht2 t1 t2 t3 t4 o3 o4 oz ot bz bt vz vt o1 o2;go_wp2
         go_roundg (p+q)
         case rel=>exact ⟨_,_,m1,ca,m2,cc,p,q,W.trim zs,W.trim ts,rfl,rfl,by omega,hm21,lrf _,HG2⟩
         case measure=>omega
theorem IU (hT:A2 w) (hx:SlN .u64 w a n c xs) (hy:SlN .u64 w b m d ys) (nx:Num 18446744073709551616 xs x) (ny:Num 18446744073709551616 ys y) (hn:n≤150) (hm:m≤150) (hge:x < y) :
 Calls prog 94 #[.slice a n c, .slice b m d] w (Iv .u64 18446744073709551616 w (Nat.gcd x y)):=by
 have hcw:=Lib.hid (Bi hx hy nx ny);have HX:=Lib.hid hy.len;have HY:=Lib.hid hx.len;have NX:=Lib.hid ny;have NY:=Lib.hid nx;have hb0:y < 18446744073709551616^m:=by have:=W.val_lt ny.bnd; rw [ny.val,hy.len] at this; exact this
 have HB:=Lib.hid hb0;have hge2:x≤y:=by omega
 have HC:Hid (Ba (x:Int) (y:Int) < 0):=Lib.hid (by rw [Fb]; omega);clear hb0 nx ny
 go_enter func94,ntmps94
 go_wp2_with fail
 refine hcw.out.mono ?_;rintro e w0 ⟨rfl,hQ0⟩;have hc:=HC.out;generalize Ba (x:Int) (y:Int)=cv at *
 have hc':cv < 0:=by omega
 have hx0:=hy.ext hQ0.ext;have hy0:=hx.ext hQ0.ext;have hE0:=hQ0.ext;clear HC hcw hQ0;by_cases hm0:n=0
 · have hy00:x=0:=Fc NY.out (by rw [HY.out]; exact hm0);have HG:Hid (Nat.gcd x y=y):=by show _=_; rw [hy00]; exact Nat.gcd_zero_left _
   have hmb:((n:Int) == 0)=true:=by simp [hm0]
   clear hy00 hm0;go_wp2;go_ret;exact ⟨b,m,d,ys,rfl,hE0,hx0,by rw [HG.out]; exact NX.out⟩
 have hmb:((n:Int) == 0)=false:=by simpa using hm0
 have hypos:0 < x:=by
  rcases Nat.eq_zero_or_pos x with h | h
  · exfalso;have h1:W.val 18446744073709551616 xs=0:=by rw [NY.out.val,h]
    have h2:=(W.nrm_zero (B:=18446744073709551616) (by omega) NY.out.nrm).1 h1;have h3:=HY.out;rw [h2] at h3;exact hm0 h3.symm
  · exact h
 clear hm0
 go_wp2_with fail
 refine (CD hx0 (by omega)).mono ?_;rintro e w1 ⟨a1,c1,rfl,hE1,hO1⟩
 go_wp2_with fail
 refine (CD (hy0.ext hE1) (by omega)).mono ?_;rintro e w2 ⟨a2,c2,rfl,hE2,hO2⟩;have hst:Iy w w2 m (Nat.gcd x y) a1 m c1 a2 n c2 y x ys xs:=by
  refine ⟨(hE0.trans hE1).trans hE2,(hO1.mono hE0.size).ext hE2,hO2.mono (hE0.trans hE1).size,fun h0 he => ?_,NX.out,NY.out,hge2,by omega,Nat.gcd_comm _ _,HB.out⟩;obtain ⟨g2,rfl,hg2,_⟩:=hO2.place h0;have:=(hO1.lt (k:=g2) (by rw [he]; rfl)).2;omega
 have HG:=Lib.hid hst;clear hst hO1 hO2 hE1 hE2 hx0 hy0 hE0;go_wp2
 go_loopg [5,6] (y+x) (fun gk av bv wr=>∃ (aa ab:Option Addr) (na ca nb cb X Y:Nat) (us vs:List Nat),av = .slice aa na ca∧bv = .slice ab nb cb∧na≤150∧nb≤na∧X+Y≤gk∧Hid (Iy w wr m (Nat.gcd x y) aa na ca ab nb cb X Y us vs))
 case atStart =>
  refine ⟨a1,a2,m,c1,n,c2,y,x,ys,xs,rfl,rfl,by omega, ?_,lrf _,HG⟩;have h1:=Dy NY.out (Nat.lt_of_le_of_lt hge2 HB.out);rw [HY.out] at h1;exact h1
 case round =>
  clear HG;obtain ⟨aa,ab,na,ca,nb,cb,X,Y,us,vs,rfl,rfl,hna,hnb,hgk,HG⟩:=hrel;have HU:Hid (us.length=na):=Lib.hid (by have:=HG.out.own1.len; simpa using this);have HV:Hid (vs.length=nb):=Lib.hid (by have:=HG.out.own2.len; simpa using this);have hXp:=HG.out.pos;have hYX:=HG.out.le;have hna0:0 < na:=by have:=Pu HG.out.n1 hXp; rw [HU.out] at this; exact this
  have hs1:SlN .u64 wr aa na ca us:=HG.out.own1.sl;have hs2:SlN .u64 wr ab nb cb vs:=HG.out.own2.sl;obtain ⟨ga,rfl,hga1,hga2⟩:=HG.out.own1.place hna0;by_cases h1:nb≤1
  · by_cases h0:nb=0
    · have hY0:Y=0:=Fc HG.out.n2 (by rw [HV.out]; exact h0);have HF:Hid (Num 18446744073709551616 us (Nat.gcd x y)):=by
       have h2:=HG.out.gcd;rw [hY0,Nat.gcd_zero_right] at h2;have h3:=HG.out.n1;rw [h2] at h3;exact Lib.hid h3
      have hE:=HG.out.ext;subst h0;clear hY0 h1;go_wp2;go_ret;exact ⟨_,na,ca,us,rfl,hE,hs1,HF.out⟩
    · have h11:nb=1:=by omega
      subst h11;obtain ⟨k1,k2,k3⟩:=LZ HG.out.n2 HV.out;obtain ⟨b2,o2,rfl,hcell⟩:=hs2.at (j:=0) (by omega);have g1:=hcell 0 (by omega);rw [k1,Nat.add_zero] at g1;have HF:Hid (Nat.gcd Y (X % Y)=Nat.gcd x y):=by
       show _=_;rw [←HG.out.gcd,Nat.gcd_comm X Y,Nat.gcd_rec Y X,Nat.gcd_comm]
      have hE:=HG.out.ext;have hT1:=hT.ext hE;have hgb:Nat.gcd Y (X % Y) < 18446744073709551616:=by have:=Nat.le_of_dvd k3 (Nat.gcd_dvd_left Y (X % Y)); omega
      have hrm:=fun (wx:World) (h:Ext wr wx)=>D1 (d:=Y) (hs1.ext h) HG.out.n1.bnd HG.out.n1.val k2 k3 (by omega);clear hcell h1 h0 k1;have hmod:X % Y < 18446744073709551616:=by have:=Nat.mod_lt X k3; omega
      go_wp2
      refine AM (by kernel_rfl) (fun wx=>Ext wr wx)
       [he (.slice (some ⟨b2,o2,none⟩) 1 cb),
 he (.pointer (some ⟨b2,o2,none⟩)),
 he (.int .u64 (Y:Int)),
 he (.slice (some ⟨ga,0,none⟩) na ca),
 he (.slice (some ⟨b2,o2,none⟩) 1 cb),
 he (.pointer (some ⟨b2,o2,none⟩)),
 he (.int .u64 (Y:Int)),
 hp (fun v wx=>v = .int .u64 ((X % Y:Nat):Int)),
 hp (fun v wx=>v = .int .u64 ((Nat.gcd Y (X % Y):Nat):Int)),
 hp (fun v wx=>∃ a' n' c' zs,v = .slice a' n' c'∧SlN .u64 wx a' n' c' zs∧Num 18446744073709551616 zs (Nat.gcd Y (X % Y)))]
       (by kernel_rfl) (fun _ _ e h=>h.trans e) ((Ext.refl wr).drew) ⟨trivial,trivial,trivial,trivial,trivial,trivial,trivial,fun v w w' e h=>h,fun v w w' e h=>h,fun v w w' e ⟨a',n',c',zs,h1,h2,h3⟩=>⟨a',n',c',zs,h1,h2.ext e,h3⟩,trivial⟩ ⟨?o0, ?o1, ?o2, ?o3, ?o4, ?o5, ?o6, ?o7, ?o8, ?o9,trivial⟩ ?fin
      case o0=>exact CS rfl (.inl rfl) (fun _ _ _ h=>h.1)
      case o1 =>
       refine AB rfl fun ρ wx hC hcst h => ?_;have e0:ρ (.tmp 62)=(.slice (some ⟨b2,o2,none⟩) 1 cb):=h.1;have hgc:=hC.cell g1;go_simp
       try (first | (intros; omega) | exact IntWalk.i64_in _ (by omega))
      case o2 =>
       refine AB rfl fun ρ wx hC hcst h => ?_;have e0:ρ (.tmp 63)=(.pointer (some ⟨b2,o2,none⟩)):=h.1;have hgc:=hC.cell g1;go_simp
      case o3=>exact CS rfl (.inl rfl) (fun _ _ _ h=>h.1)
      case o4=>exact CS rfl (.inl rfl) (fun _ _ _ h=>h.1)
      case o5 =>
       refine AB rfl fun ρ wx hC hcst h => ?_;have e0:ρ (.tmp 66)=(.slice (some ⟨b2,o2,none⟩) 1 cb):=h.1;have hgc:=hC.cell g1;go_simp
       try (first | (intros; omega) | exact IntWalk.i64_in _ (by omega))
      case o6 =>
       refine AB rfl fun ρ wx hC hcst h => ?_;have e0:ρ (.tmp 67)=(.pointer (some ⟨b2,o2,none⟩)):=h.1;have hgc:=hC.cell g1;go_simp
      case o7 =>
       refine Aj rfl fun ρ wx hC hcst hfn h => ?_;have e1:ρ (.tmp 65)=(.slice (some ⟨ga,0,none⟩) na ca):=h.2.1;have e2:ρ (.tmp 68)=(.int .u64 (Y:Int)):=h.2.2.1;have hgc:=hC.cell g1;refine ⟨143,#[.slice (some ⟨ga,0,none⟩) na ca, .int .u64 (Y:Int)],by go_simp,(hrm wx hC).mono ?_⟩;rintro e w' ⟨rfl,hQ'⟩;exact ⟨_,rfl,hQ'.ext,rfl⟩
      case o8 =>
       refine Aj rfl fun ρ wx hC hcst hfn h => ?_;have e1:ρ (.tmp 64)=(.int .u64 (Y:Int)):=h.2.1;obtain ⟨v2,e2,rfl⟩:=h.2.2.1;have hgc:=hC.cell g1;refine ⟨142,#[.int .u64 (Y:Int), .int .u64 ((X % Y:Nat):Int)],by go_simp,(Ix (hT1.ext hC) k2 hmod).mono ?_⟩;rintro e w' ⟨rfl,rfl⟩;exact ⟨_,rfl,Ext.refl _,rfl⟩
      case o9 =>
       refine Aj rfl fun ρ wx hC hcst hfn h => ?_;obtain ⟨v1,e1,rfl⟩:=h.2.1;have hgc:=hC.cell g1;refine ⟨141,#[.int .u64 ((Nat.gcd Y (X % Y):Nat):Int)],by go_simp,(DH hgb).mono ?_⟩;rintro e w' ⟨a',n',c',zs,rfl,hE',hs',hn'⟩;exact ⟨_,rfl,hE',a',n',c',zs,rfl,hs',hn'⟩
      case fin =>
       intro wx hC;rintro _ rfl;rintro _ rfl;rintro _ ⟨a71,n71,c71,z71,rfl,s71,t71⟩;change wpList _ _ _ _ _ _;simp only [List.length_cons,List.length_nil,List.drop_succ_cons,List.drop_zero,Act.put,List.setIfInBounds_toArray,List.set_cons_succ,List.set_cons_zero];go_wp2;go_ret;exact ⟨a71,n71,c71,z71,rfl,hE.trans hC,s71,by rw [←HF.out]; exact t71⟩
  · have hb1:(1:Int) < nb:=by omega
    obtain ⟨gb,rfl,hgb1,hgb2⟩:=HG.out.own2.place (by omega);have hne:ga≠gb:=by have:=HG.out.ne (by omega); simpa [blk] using this
    have hE:=HG.out.ext
    go_wp2_with fail
    refine (GG hs1 hs2 HG.out.n1 HG.out.n2 (by omega) hYX (nn:=na - 2) (by omega)).mono ?_;rintro e w3 ⟨u0,u1,v0,v1,odd,rfl,hE3,hu0,hu1,hv0,hv1,hst⟩;have HST:=Lib.hid hst;clear hst
    go_upto_region 8 with (refine Aa rfl rfl rfl rfl rfl AR (Arr.new _ _ _) rfl (Cj _ _ _ _ _) ?_; intro w4 hS4 hg4)
    have hE4:Ext w3 w4:=((Ext.refl w3).alloc _).grownR hg4 (lrf _);have hE34:=hE3.trans hE4;have o1:=HG.out.own1.ext hE34;have o2:=HG.out.own2.ext hE34;have s2:=hS4.c 2 rfl;by_cases hv00:v0=0
    · subst hv00;have hYp:0 < Y:=by
       rcases Nat.eq_zero_or_pos Y with h | h
       · exfalso;have h2:=(W.nrm_zero (B:=18446744073709551616) (by omega) HG.out.n2.nrm).1 (by rw [HG.out.n2.val,h]);have h3:=HV.out;rw [h2] at h3;simp at h3;omega
       · exact h
      have hdv:=Dq (hs1.ext hE34) (hs2.ext hE34) HG.out.n1 HG.out.n2 (by omega) (by omega) hYp (by omega)
      go_wp2_with fail
      refine hdv.mono ?_;rintro e w5 ⟨p1,p2,p3,p4,ar,nr,cr,rs,rfl,hE5,_,_,hsr,nmr,_⟩;have hrl:nr≤150:=by
       have h1:=Dy nmr (Nat.lt_trans (Nat.mod_lt X hYp) (Nat.lt_of_le_of_lt hYX HG.out.bnd));rw [hsr.len] at h1;omega
      have hrb:nr≤nb:=by
       have h1:=W.val_lt HG.out.n2.bnd;rw [HG.out.n2.val,HV.out] at h1;have h2:=Dy nmr (Nat.lt_trans (Nat.mod_lt X hYp) h1);rw [hsr.len] at h2;exact h2
      clear hdv
      go_wp2_with fail
      refine (CD hsr (by omega)).mono ?_;rintro e w6 ⟨a6,c6,rfl,hE6,hO6⟩;have hE56:=(hE34.trans hE5).trans hE6;have HG2:Hid (Iy w w6 m (Nat.gcd x y) (some ⟨gb,0,none⟩) nb cb a6 nr c6 Y (X % Y) vs rs):=by
       refine Lib.hid ⟨hE.trans hE56,HG.out.own2.ext hE56,hO6.mono ((hE.trans hE34).trans hE5).size,fun h0 he => ?_,HG.out.n2,nmr,Nat.le_of_lt (Nat.mod_lt X hYp),hYp, ?_,Nat.lt_of_le_of_lt hYX HG.out.bnd⟩
       · obtain ⟨g6,rfl,hg6,_⟩:=hO6.place h0;simp only [blk,Option.map_some,Option.some.injEq] at he;have:=hE34.size;have:=hE5.size;omega
       · rw [←HG.out.gcd,Nat.gcd_comm X Y,Nat.gcd_rec Y X,Nat.gcd_comm]
      have hms:Y+X % Y < X+Y:=by have:=Nat.mod_lt X hYp; omega
      go_wp2
      go_roundg (Y+X % Y)
      case rel=>exact ⟨_,a6,nb,cb,nr,c6,Y,X % Y,vs,rs,rfl,rfl,by omega,hrb,lrf _,HG2⟩
      case measure=>omega
    · have hv0b:((v0:Int) == 0)=false:=by simpa using hv00
      have hst2:∃ p q,W.Steps X Y u0 u1 v0 v1 odd p q:=by
       rcases HST.out with h | h
       · exact absurd h hv00
       · exact h
      obtain ⟨p,q,hpq⟩:=hst2;have HPQ:=Lib.hid hpq;clear hpq HST;have hgbS:gb < w3.heap.size:=Nat.lt_of_lt_of_le hgb2 hE3.size;have hgaS:ga < w3.heap.size:=Nat.lt_of_lt_of_le hga2 hE3.size;have hSw:w.heap.size≤w3.heap.size:=(hE.trans hE3).size;have hE5:=hE.trans hE34;clear hs1 hs2 hb1 hE4 hg4 hE34 hE3;generalize w3.heap.size=S at *
      go_wp2;clear s2;obtain ⟨wo,hwo⟩:∃ wo:World,wo=wr:=⟨_,rfl⟩;subst hwo
      go_loopw [6] (fun bv wx=>∃ (ab:Option Addr) (nc cc:Nat),bv = .slice ab nc cc∧nb≤nc∧nc≤na∧Ext w wx∧Own wx w.heap.size 143 (some ⟨ga,0,none⟩) na ca (us.map (BO .u64))∧Own wx w.heap.size 143 ab nc cc ((vs ++ List.replicate (nc - nb) 0).map (BO .u64))∧blk ab≠some ga∧Arr wx S 184 (Bj u0 u1 v0 v1 odd)∧blk ab≠some S) (fun bv _=>match bv with | .slice _ k _=>na - k | _=>0)
      case atStart=>exact ⟨_,nb,cb,rfl,lrf _,hnb,hE5,o1,by rw [Nat.sub_self,List.replicate_zero,List.append_nil]; exact o2,by simp [blk]; omega,hS4,by simp [blk]; omega⟩
      case round =>
       clear o1 o2 hS4 hE5;obtain ⟨ab,nc,cc,rfl,hnc1,hnc2,hEx,o1,o2,hbg,hSx,hbS⟩:=hrel;by_cases hlt:nc < na
       · have hA:=o2.alloc (.cells #[.int .u64 0] 143);have hL:=(Au wr w.heap.size 143 #[.int .u64 0] 1 rfl hEx.size (by omega)).sl;have hb2:∀ k,blk ab=some k→w.heap.size≤k:=fun k hk=>(o2.lt hk).1;have hga3:=(o1.lt (k:=ga) rfl).2;have hS3:=hSx.lt
         go_wp2_with (refine Bw rfl rfl underlying88 Ay rfl rfl hA rfl hL (by simp [Value.oneCell']) (by unfold maxLen; omega) (by omega) (by simp; omega) ?_; intro a7 c7 w7 hO7 hg7 hb7)
         have hE7:Ext w w7:=(hEx.alloc _).grown hg7 hb2;have o17:=(o1.alloc (.cells #[.int .u64 0] 143)).kept hg7 (Or.inr (fun h=>hbg h.symm));have hS7:=(hSx.alloc (.cells #[.int .u64 0] 143)).kept hg7 (fun h=>hbS h.symm);have hne7:blk a7≠some ga:=by
          rcases hb7 with h | h
          · rw [h]; exact hbg
          · rw [h]; simp; omega
         have hne8:blk a7≠some S:=by
          rcases hb7 with h | h
          · rw [h]; exact hbS
          · rw [h]; simp; omega
         have hO8:Own w7 w.heap.size 143 a7 (nc+1) c7 ((vs ++ List.replicate (nc+1 - nb) 0).map (BO .u64)):=by
          have e1:nc+1 - nb=nc - nb+1:=by omega
          rw [e1,List.replicate_succ',←List.append_assoc,List.map_append];exact hO7
         clear hO7 hA hL hb7;go_roundw
         case rel=>exact ⟨a7,nc+1,c7,rfl,by omega,by omega,hE7,o17,hO8,hne7,hS7,hne8⟩
         case measure=>simp; omega
       · have enc:nc=na:=by omega
         subst enc;obtain ⟨g2,rfl,hg21,hg22⟩:=o2.place hna0;have hne2:ga≠g2:=by intro h; subst h; exact hbg rfl
         have vb:W.val 18446744073709551616 (vs ++ List.replicate (nc - nb) 0)=Y:=by rw [Hv,HG.out.n2.val]
         have bb:W.bnd 18446744073709551616 (vs ++ List.replicate (nc - nb) 0):=Jl (by omega) HG.out.n2.bnd _;have hap:=Lg hEx o1 o2 hne2 HG.out.n1.bnd bb HG.out.n1.val vb hu0 hu1 hv0 hv1 HPQ.out (by omega);have HAP:=Lib.hid hap;clear hap vb bb;have s0:=hSx.c 0 rfl;have s1:=hSx.c 1 rfl;have s2:=hSx.c 2 rfl;have s3:=hSx.c 3 rfl;have s4:=hSx.c 4 rfl
         go_wp2_with fail
         refine HAP.out.mono ?_;rintro e w8 ⟨rfl,hE8,zs,ts,oz,ot,bz,bt,vz,vt⟩;clear s0 s1 s2 s3 s4 hSx HAP
         go_wp2_with fail
         refine (Bl oz.sl).mono ?_;rintro e w9 ⟨m1,rfl,rfl,hm1,ht1⟩
         go_wp2_with fail
         refine (Bl ot.sl).mono ?_;rintro e w9 ⟨m2,rfl,rfl,hm2,ht2⟩;obtain ⟨t1,t2⟩:=BF oz.sl hm1 ht1 bz vz;obtain ⟨t3,t4⟩:=BF ot.sl hm2 ht2 bt vt;have o3:=oz.upto hm1;have o4:=ot.upto hm2;rw [←ht1] at o3;rw [←ht2] at o4;have hqp:=HPQ.out.lt;have hpY:=HPQ.out.le;have hpb:p < 18446744073709551616^m:=Nat.lt_of_le_of_lt (Nat.le_trans hpY hYX) HG.out.bnd;have hm21:m2≤m1:=by
          have h1:=W.val_lt t2.bnd;rw [t2.val,t1.len] at h1;have h2:=Dy t4 (Nat.lt_trans hqp h1);rw [t3.len] at h2;exact h2
         have HG2:Hid (Iy w w8 m (Nat.gcd x y) (some ⟨ga,0,none⟩) m1 ca (some ⟨g2,0,none⟩) m2 cc p q (W.trim zs) (W.trim ts)) :=
          Lib.hid ⟨hE8,o3,o4,fun _=>by simpa [blk] using hne2,t2,t4,Nat.le_of_lt hqp,by omega,by rw [HPQ.out.gcd,HG.out.gcd],hpb⟩
         clear ht1 ht2 t1 t2 t3 t4 o3 o4 oz ot bz bt vz vt o1 o2;go_wp2
         go_roundg (p+q)
         case rel=>exact ⟨_,_,m1,ca,m2,cc,p,q,W.trim zs,W.trim ts,rfl,rfl,by omega,hm21,lrf _,HG2⟩
         case measure=>omega
theorem L1 (hT:A2 w) (hx:SlN .u64 w a n c xs) (hy:SlN .u64 w b m d ys) (nx:Num 18446744073709551616 xs x) (ny:Num 18446744073709551616 ys y) (hn:n≤150) (hm:m≤150) :
 Calls prog 94 #[.slice a n c, .slice b m d] w (Iv .u64 18446744073709551616 w (Nat.gcd x y)):=by
 by_cases h:x < y
 · exact IU hT hx hy nx ny hn hm h
 · exact IR hT hx hy nx ny hn hm (by omega)
def RP (P:Program) (T:TypeId):Bool:=match P.underlying T with
 | none | some (.struct _) | some (.array _ _)=>false
 | _=>true
def UV (P:Program) (T:TypeId) (k:Nat):Option Nat:=match P.underlying T with
 | some (.struct fs)=>(fs[k]?).bind fun f=>(match (P.info? f.type).map (·.size) with | some (_+1)=>some f.offset | _=>none)
 | _=>none
section
variable {P:Program} {w:World}
theorem TH (hT:RP P T=true) (hc:w.cell? p=some v):(Instr.loadAt T (.pointer (some p))).run P w = .ok v w:=by
 unfold RP at hT;cases h:P.underlying T with
 | none=>rw [h] at hT; cases hT
 | some d =>
  rw [h] at hT;have ha:(isAgg T).run P w = .ok false w:=by
   simp only [isAgg,Sem.run_bind,run_underlying h,Result.andThen_ok];cases d <;> first | rfl | cases hT
  simp [Instr.loadAt,Instr.sureAddr,loadVar,ha,hc]
theorem Pw {b:Nat} (ha:Agg P T cs.length) (hc:∀ j v,cs[j]?=some v→w.cell? ⟨b,off+j,none⟩=some v):(Instr.loadAt T (.pointer (some ⟨b,off,none⟩))).run P w = .ok (.agg cs.toArray) w:=by
 obtain ⟨d,hu,hd,hi⟩:=ha.parts;have h1:(isAgg T).run P w = .ok true w:=by
  simp only [isAgg,Sem.run_bind,run_underlying hu,Result.andThen_ok];cases d <;> first | rfl | exact absurd hd (by simp)
 obtain ⟨i,hi',hs⟩:∃ i,P.info? T=some i∧i.size=cs.length:=by
  cases h:P.info? T with
  | none=>rw [h] at hi; cases hi
  | some i=>rw [h] at hi; exact ⟨i,rfl,by simpa using hi⟩
 have h2:=run_loadCells_list (P:=P) w ⟨b,off,none⟩ cs (fun j v hj=>by
  have:=hc j v hj;unfold Addr.add;split
  · rename_i h0; rw [h0,Nat.add_zero] at this; exact this
  · exact this)
 simp [Instr.loadAt,Instr.sureAddr,loadVar,h1,sizeOf,typeInfo,hi',hs,h2]
theorem UW {b:Nat} (h:UV P T k=some d):(Instr.fieldAt T (.pointer (some ⟨b,off,none⟩)) k).run P w = .ok (.pointer (some ⟨b,off+d,none⟩)) w:=by
 unfold UV at h;split at h
 · rename_i fs hu;cases hf:fs[k]? with
   | none=>rw [hf] at h; cases h
   | some f =>
    rw [hf] at h;simp only [Option.bind_some] at h;split at h
    · rename_i n hn;cases h;obtain ⟨i,hi',hs⟩:∃ i,P.info? f.type=some i∧i.size=n+1:=by
       cases h:P.info? f.type with
       | none=>rw [h] at hn; cases hn
       | some i=>rw [h] at hn; exact ⟨i,rfl,by simpa using hn⟩
      have e:(⟨b,off,none⟩:Addr).add f.offset=⟨b,off+f.offset,none⟩:=by
       unfold Addr.add;split
       · rename_i h0; rw [h0,Nat.add_zero]
       · rfl
      simp [Instr.fieldAt,run_underlying hu,hf,Instr.sureAddr,fieldPlace,sizeOf,typeInfo,hi',hs,e]
    · cases h
 · cases h
end
section
variable {P:Program} {ops:Array Oper} {hs:List Hd} {a0:Act} {W:World} {i:Nat} {o:Oper}
theorem ol {t:Tmp} (hw:Cf hs o=some true) (ho:o.op = .load T (.tmp t)) (hx:∀ ρ w,JD ops hs a0 o ρ w (.tmp t)→ρ (.tmp t) = .pointer (some p)) (hT:RP P T=true) (hc:W.cell? p=some v):obl P (fun wx=>Ext W wx) ops hs a0 i o (he v) :=
 DX hw fun ρ w hp hC h=>by
  rw [ho] at h;simp only [execOp,ho,hx ρ w h.1,Sem.run_bind,TH hT (hC.cell hc),Result.andThen_ok,Sem.run_pure]
theorem ol2 {t:Tmp} {b:Nat} (hw:Cf hs o=some true) (ho:o.op = .load T (.tmp t)) (hx:∀ ρ w,JD ops hs a0 o ρ w (.tmp t)→ρ (.tmp t) = .pointer (some ⟨b,off,none⟩)) (ha:Agg P T 2) (h0:W.cell? ⟨b,off,none⟩=some u) (h1:W.cell? ⟨b,off+1,none⟩=some v):obl P (fun wx=>Ext W wx) ops hs a0 i o (he (.agg #[u,v])) :=
 DX hw fun ρ w hp hC h=>by
  rw [ho] at h
  have hr:(Instr.loadAt T (.pointer (some ⟨b,off,none⟩))).run P w = .ok (.agg [u,v].toArray) w:=Pw (cs:=[u,v]) ha (fun j x hj=>by
   match j,hj with
   | 0,hj=>cases hj; exact hC.cell h0
   | 1,hj=>cases hj; exact hC.cell h1
   | j+2,hj=>simp at hj)
  simp only [execOp,ho,hx ρ w h.1,Sem.run_bind,hr,Result.andThen_ok,Sem.run_pure]
theorem ol4 {t:Tmp} {b:Nat} {x y:Value} (hw:Cf hs o=some true) (ho:o.op = .load T (.tmp t)) (hx:∀ ρ w,JD ops hs a0 o ρ w (.tmp t)→ρ (.tmp t) = .pointer (some ⟨b,off,none⟩)) (ha:Agg P T 4) (h0:W.cell? ⟨b,off,none⟩=some u) (h1:W.cell? ⟨b,off+1,none⟩=some v) (h2:W.cell? ⟨b,off+2,none⟩=some x) (h3:W.cell? ⟨b,off+3,none⟩=some y):obl P (fun wx=>Ext W wx) ops hs a0 i o (he (.agg #[u,v,x,y])) :=
 DX hw fun ρ w hp hC h=>by
  rw [ho] at h
  have hr:(Instr.loadAt T (.pointer (some ⟨b,off,none⟩))).run P w = .ok (.agg [u,v,x,y].toArray) w:=Pw (cs:=[u,v,x,y]) ha (fun j z hj=>by
   match j,hj with
   | 0,hj=>cases hj; exact hC.cell h0
   | 1,hj=>cases hj; exact hC.cell h1
   | 2,hj=>cases hj; exact hC.cell h2
   | 3,hj=>cases hj; exact hC.cell h3
   | j+4,hj=>simp at hj)
  simp only [execOp,ho,hx ρ w h.1,Sem.run_bind,hr,Result.andThen_ok,Sem.run_pure]
theorem ofa {t:Tmp} {b:Nat} (hw:Cf hs o=some true) (ho:o.op = .fieldAddr T (.tmp t) k) (hx:∀ ρ w,JD ops hs a0 o ρ w (.tmp t)→ρ (.tmp t) = .pointer (some ⟨b,off,none⟩)) (hd:UV P T k=some d) (hq:q=⟨b,off+d,none⟩) {C:World→Prop}:obl P C ops hs a0 i o (he (.pointer (some q))) :=
 DX hw fun ρ w hp hC h=>by
  rw [ho] at h;simp only [execOp,ho,hx ρ w h.1,Sem.run_bind,UW hd,Result.andThen_ok,Sem.run_pure,hq]
theorem onc {t:Tmp} (hw:Cf hs o=some true) (ho:o.op = .nilCheck (.tmp t)) (hx:∀ ρ w,JD ops hs a0 o ρ w (.tmp t)→ρ (.tmp t) = .pointer (some p)) {C:World→Prop}:obl P C ops hs a0 i o (he (.pointer (some p))) :=
 DX hw fun ρ w hp hC h=>by
  rw [ho] at h;simp only [execOp,ho,hx ρ w h.1,Sem.run_pure]
theorem omv {t:Tmp} {c:Value} (hw:Cf hs o=some true) (ho:o.op = .move (.tmp t)) (hx:∀ ρ w,JD ops hs a0 o ρ w (.tmp t)→ρ (.tmp t)=c) {C:World→Prop}:obl P C ops hs a0 i o (he c) :=
 CS hw (.inl ho) fun ρ w _ h=>hx ρ w h.1
theorem oas {t:Tmp} {c:Value} (hw:Cf hs o=some true) (ho:o.op = .assign (.tmp t)) (hx:∀ ρ w,JD ops hs a0 o ρ w (.tmp t)→ρ (.tmp t)=c) {C:World→Prop}:obl P C ops hs a0 i o (he c) :=
 CS hw (.inr ho) fun ρ w _ h=>hx ρ w h.1
end
end Go.Proofs.YtlpgonpfjbhmfaaGreatDoor
