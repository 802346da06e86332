/- Part Rin35. -/
import Derived.Test.YtlpgonpfjbhmfaaGreatDoorRin34
set_option maxRecDepth 100000
set_option maxHeartbeats 100000000
namespace Go.Proofs.YtlpgonpfjbhmfaaGreatDoor
open Go Go.RowKit
theorem P2_slt {a b:Nat} (h:a<b):P2 a<P2 b:=Nat.pow_lt_pow_right (by omega) h
structure Bd (v:Int) (N d y:Nat) (l:List Pl.Tm):Prop where
 pv:Pv v l
 lo:Lo l
 len:l.length≤N
 sb:∃ D,0<D∧D<P2 d∧Pl.SB D (P2 y) l
section
variable {v:Int} {N M d e y z:Nat} {la lb:List Pl.Tm} {ts:List Tx}
theorem Bd.of {nt k B:Nat} (h:rdP v ts=some la) (hs:smallP ts nt k) (hd:3≤k) (hB:10^k≤P2 B):Bd v nt (4*(k-2)*nt+1) (B+(4*(k-2)*nt+1)) la :=
 ⟨Pv.of h,rdP_exps h,by rw [rdP_len h]; exact hs.1,rdP_SB h hs hd hB⟩
theorem Lo.of {l:List Pl.Tm} (h:rdP v ts=some l):Lo l:=rdP_exps h
theorem Bd.prod {k:Nat} (ha:Bd v N d y la) (hb:Bd v M e z lb) (h:rdP v ts=some (cnP (Pl.prodT la lb))) (hk:N*M≤P2 k):Bd v (N*M) (d+e) (k+(y+z)) (cnP (Pl.prodT la lb)):=by
 have h6:∀ t∈Pl.prodT la lb,t.1.length=6:=fun t ht=>(prod_InV ha.pv.inv hb.pv.inv t ht).1;have hl:(Pl.prodT la lb).length≤N*M:=by rw [prodT_len]; exact Nat.mul_le_mul ha.len hb.len
 obtain ⟨D,h1,h2,h3⟩:=ha.sb;obtain ⟨E,g1,g2,g3⟩:=hb.sb;refine ⟨ha.pv.prod hb.pv,rdP_exps h,Nat.le_trans (cnP_len h6) hl,D*E,Nat.mul_pos h1 g1,P2_mul h2 g2,(SB.cn h6 (h3.prod g3)).mono ?_⟩;rw [P2_add k,P2_add y];exact Nat.mul_le_mul_right _ (Nat.le_trans hl hk)
theorem Bd.app1 {m:Nat} (ha:Bd v N d y la) (hb:Bd v M e z lb) (h1:y+e<m) (h2:z+d<m):(la ++ lb).length≤N+M∧∃ D,0<D∧D<P2 (d+e)∧Pl.SB D (P2 m) (la ++ lb):=by
 obtain ⟨D,a1,a2,a3⟩:=ha.sb;obtain ⟨E,g1,g2,g3⟩:=hb.sb;refine ⟨by have:=ha.len; have:=hb.len; rw [List.length_append]; omega,D*E,Nat.mul_pos a1 g1,P2_mul a2 g2,(a3.app2 g3).mono ?_⟩;have k1:P2 y*E≤P2 (m-1):=by
  refine Nat.le_trans ?_ (P2_le (a:=y+e) (by omega));rw [P2_add];exact Nat.mul_le_mul_left _ (Nat.le_of_lt g2)
 have k2:P2 z*D≤P2 (m-1):=by
  refine Nat.le_trans ?_ (P2_le (a:=z+d) (by omega));rw [P2_add];exact Nat.mul_le_mul_left _ (Nat.le_of_lt a2)
 have k3:P2 m=P2 (m-1)*2:=by
  conv=>lhs; rw [show m=m-1+1 by omega,P2_add]
  rfl
 omega
theorem Bd.app {k m:Nat} (ha:Bd v N d y la) (hb:Bd v M e z lb) (h:rdP v ts=some (cnP (la ++ lb))) (h1:y+e<m) (h2:z+d<m) (hk:N+M≤P2 k):Bd v (N+M) (d+e) (k+m) (cnP (la ++ lb)):=by
 have h6:∀ t∈la ++ lb,t.1.length=6:=fun t ht=>(app_InV ha.pv.inv hb.pv.inv t ht).1;obtain ⟨hl,D,g1,g2,g3⟩:=ha.app1 hb h1 h2;refine ⟨ha.pv.app hb.pv,rdP_exps h,Nat.le_trans (cnP_len h6) hl,D,g1,g2,(SB.cn h6 g3).mono ?_⟩;rw [P2_add];exact Nat.mul_le_mul_right _ (Nat.le_trans hl hk)
theorem Bd.mul {k:Nat} (ha:Bd v N d y la) (hb:Bd v M e z lb) (hk:N*M≤P2 k) (h1:d≤256∧e≤256) (h2:y<1000∧z<1000) (h3:N≤1000∧M≤1000) (h4:k+(y+z)<1920):MulOK la lb:=by
 obtain ⟨D,a1,a2,a3⟩:=ha.sb;obtain ⟨E,g1,g2,g3⟩:=hb.sb;refine mulOK_SB (b:=1920) a3 g3 a1 g1 (P2_lt a2 h1.1) (P2_lt g2 h1.2) (P2_slt h2.1) (P2_slt h2.2) ha.lo hb.lo (by have:=ha.len; omega) (by have:=hb.len; omega) ?_ (by omega) (by omega);refine Nat.lt_of_le_of_lt ?_ (P2_slt h4);rw [P2_add k,P2_add y];exact Nat.mul_le_mul_right _ (Nat.le_trans (Nat.mul_le_mul ha.len hb.len) hk)
theorem Bd.sum {k m:Nat} (ha:Bd v N d y la) (hb:Bd v M e z lb) (h1:y+e<m) (h2:z+d<m) (hk:N+M≤P2 k) (h3:N+M≤1000) (h4:k+m<1920) (h5:d+e≤1920):SumOK (la ++ lb):=by
 obtain ⟨hl,D,g1,g2,g3⟩:=ha.app1 hb h1 h2;refine sumOK_SB (b:=1920) g3 g1 (P2_lt g2 h5) ?_ (by omega) (fun t ht=>(List.mem_append.1 ht).elim (ha.lo t) (hb.lo t)) (by omega);refine Nat.lt_of_le_of_lt ?_ (P2_slt h4);rw [P2_add];exact Nat.mul_le_mul_right _ (Nat.le_trans hl hk)
theorem Bd.text (ha:Bd v N d y la) (h:rdP v ts=some la) (h1:d≤840) (h2:y<840):∀ t∈ts,t.1.length≤570:=by
 intro t ht;obtain ⟨D,a1,a2,a3⟩:=ha.sb;have hw:=rdP_wrT h;rw [←hw] at ht;obtain ⟨m,hm,rfl⟩:=List.mem_map.1 ht;have:=txt_len ((a3 m hm).rb a1 (P2_lt a2 h1) (P2_slt h2));show (txt m.2).length≤570;omega
end
structure Bx where
 g:Nat
 v:Int
 a:Option Addr
 n:Nat
 c:Nat
 ts:List Tx
def PBx (w0 w:World) (l:List Bx):Prop:=Ext w0 w∧∀ p∈l,Arr w p.g 25 (polyL p.v p.a p.n p.c)∧TmSl w p.a p.n p.c p.ts
section
variable {w0 w w1 w':World} {l:List Bx} {i:Nat}
theorem PBx.e (h:PBx w0 w l):Ext w0 w:=h.1
theorem PBx.at {g:Nat} {v:Int} {a:Option Addr} {n c:Nat} {ts:List Tx} (h:PBx w0 w l) (hi:l[i]?=some ⟨g,v,a,n,c,ts⟩):Arr w g 25 (polyL v a n c)∧TmSl w a n c ts:=h.2 _ (List.mem_of_getElem? hi)
theorem PBx.c {g:Nat} {v:Int} {a:Option Addr} {n c:Nat} {ts:List Tx} (h:PBx w0 w l) (hi:l[i]?=some ⟨g,v,a,n,c,ts⟩):w.cell? ⟨g,0,none⟩=some (.int .i64 v)∧w.cell? ⟨g,1,none⟩=some (.slice a n c) :=
 ⟨(h.at hi).1.cell (i:=0) (by simp [polyL]),(h.at hi).1.cell (i:=1) (by simp [polyL])⟩
theorem PBx.t {g:Nat} {v:Int} {a:Option Addr} {n c:Nat} {ts:List Tx} (h:PBx w0 w l) (hi:l[i]?=some ⟨g,v,a,n,c,ts⟩):TmSl w a n c ts:=(h.at hi).2
theorem PBx.ext (h:PBx w0 w l) (e:Ext w w'):PBx w0 w' l:=⟨h.1.trans e,fun p hp=>⟨(h.2 p hp).1.ext e,(h.2 p hp).2.ext e⟩⟩
theorem PBx.one {v:Int} {a:Option Addr} {n c:Nat} {ts:List Tx} {g:Nat} (hE:Ext w0 w) (hB:Arr w g 25 (polyL v a n c)) (ht:TmSl w0 a n c ts):PBx w0 w [⟨g,v,a,n,c,ts⟩] :=
 ⟨hE,fun p hp=>by rw [List.mem_singleton.1 hp]; exact ⟨hB,ht.ext hE⟩⟩
theorem PBx.app {l':List Bx} (h:PBx w0 w l) (h':PBx w0 w l'):PBx w0 w (l ++ l'):=⟨h.1,fun p hp=>(List.mem_append.1 hp).elim (h.2 p) (h'.2 p)⟩
theorem PBx.new {v:Int} {a:Option Addr} {n c:Nat} {ts:List Tx} {o:Obj} (h:PBx w0 w l) (hE:Ext w w1) (hO:TmSl w1 a n c ts) (hB:Arr w' w1.heap.size 25 (polyL v a n c)) (hg:(w1.alloc o).grownBy w' (some w1.heap.size)):PBx w0 w' (l ++ [⟨w1.heap.size,v,a,n,c,ts⟩]):=by
 have hF:Ext w1 w':=((Ext.refl w1).alloc _).grownR hg (Nat.le_refl _);have h1:=h.ext (hE.trans hF);refine ⟨h1.1,fun p hp => ?_⟩;rcases List.mem_append.1 hp with hp|hp
 · exact h1.2 p hp
 · rw [List.mem_singleton.1 hp];exact ⟨hB,hO.ext hF⟩
end
section
variable {P:Program} {w:World}
theorem wl_stPo {ops:Array Oper} {rest:List Oper} {o:Oper} {f:Act} {Q:Exit→Act→World→Prop} {x y:Operand} (hgd:o.guard=none) (ho:o.op = .store 25 x y)
 {g:Nat} {t:TypeId} {cs:List Value} {v:Int} {a:Option Addr} {n c:Nat} (hx:f.eval x = .pointer (some ⟨g,0,none⟩)) (hy:f.eval y = .agg #[.int .i64 v, .slice a n c]) (h:Arr w g t cs) (hl:cs.length=2)
 (hK:∀ w',Arr w' g t (polyL v a n c)→w.grownBy w' (some g)→wpList Tryz.prog ops Q rest (f.put o.dst undef) w'):wpList Tryz.prog ops Q (o :: rest) f w :=
 wl_stArr (vs:=polyL v a n c) hgd ho hx hy rfl agg_Poly h hl (polyL_one _ _ _ _) hK
end
def RetTrue (w:World) (e:Ending) (w':World):Prop:=e = .returned (.bool true)∧Ext w w'
def RetV (w0:World) (v:Int) (ts:List Tx) (err:Int) (e:Ending) (w':World):Prop:=∃ a n c,e = .returned (.tuple #[.agg #[.int .i64 v, .slice a n c], .int .i64 err])∧Ext w0 w'∧TmSl w' a n c ts
theorem RetP.v {w0:World} {v:Int} {ts:List Tx} {err:Int} {e:Ending} {w':World} (h:RetP w0 v ts err e w'):RetV w0 v ts err e w':=by
 obtain ⟨a,n,c,h1,h2,h3⟩:=h;exact ⟨a,n,c,h1,h2,h3.sl⟩
section
variable {va vb:Int} {a b:Option Addr} {n c m d:Nat} {ta tb:List Tx} {w:World} {v err:Int} {t:List Tx}
theorem poly_MulV (hr:mulA va vb (rdP va ta) (rdP vb tb)=(v,t,err)) (hT:Tabs w) (ha:TmSl w a n c ta) (hb:TmSl w b m d tb) (sa:∀ t∈ta,t.1.length≤570) (sb:∀ t∈tb,t.1.length≤570)
 (hok:∀ la lb,rdP va ta=some la→rdP vb tb=some lb→va=vb→MulOK la lb) :
 Calls Tryz.prog 16 #[.agg #[.int .i64 va, .slice a n c], .agg #[.int .i64 vb, .slice b m d]] w (RetV w v t err) :=
 (poly_Mul hT ha hb sa sb hok).mono fun e w' h=>by
  have h:=h.a;rw [hr] at h;exact RetP.v h
end
theorem P2_27:10^8≤P2 27:=by unfold P2; decide
theorem P2_num {k n:Nat} (m:Nat) (h:n≤2^m) (hk:m=k):n≤P2 k:=by rw [←hk]; exact h
section
variable {va vb vc:Int} {ta tb tc:List Tx}
structure RingS (va vb vc v3 v4 v5:Int) (ta tb tc t3 t4 t5:List Tx):Prop where
 v:va=vb∧va=vc∧va=v3∧va=v4∧va=v5
 comm:mulA vb va (rdP vb tb) (rdP va ta)=(v3,t3,0)
 deg:0<ta.length→0<tb.length→degP v3 t3=degP va ta+degP vb tb
 x3:∀ t∈t3,t.1.length≤570
 x4:∀ t∈t4,t.1.length≤570
 x5:∀ t∈t5,t.1.length≤570
 assoc:mulA v3 vc (rdP v3 t3) (rdP vc tc)=mulA va v4 (rdP va ta) (rdP v4 t4)
 m3:∀ la lb,rdP v3 t3=some la→rdP vc tc=some lb→v3=vc→MulOK la lb
 m4:∀ la lb,rdP va ta=some la→rdP v4 t4=some lb→va=v4→MulOK la lb
 m5:∀ la lb,rdP va ta=some la→rdP v5 t5=some lb→va=v5→MulOK la lb
 dist:∀ v6 t6 v7 t7,mulA va vc (rdP va ta) (rdP vc tc)=(v6,t6,0)→mulA va v5 (rdP va ta) (rdP v5 t5)=(v7,t7,0) →
  addA v3 v6 (rdP v3 t3) (rdP v6 t6)=(v7,t7,0)∧(∀ t∈t6,t.1.length≤570)∧∀ la lb,rdP v3 t3=some la→rdP v6 t6=some lb→v3=v6→SumOK (la ++ lb)
theorem mul_fact {v:Int} {t:List Tx} (h:mulA va vb (rdP va ta) (rdP vb tb)=(v,t,0)):∃ la lb,rdP va ta=some la∧rdP vb tb=some lb∧va=vb∧v=va∧rdP v t=some (cnP (Pl.prodT la lb)):=by
 obtain ⟨la,lb,h1,h2,h3,_,h5⟩:=mulA_ok (by rw [h]);rw [h] at h5;have pa:=Pv.of h1;have pb:Pv va lb:=by rw [h3]; exact Pv.of h2
 obtain ⟨g1,g2⟩:=resQ_ok pa.v0 (prod_InV pa.inv pb.inv) (by rw [←h5]);rw [←h5] at g1 g2;simp only at g1 g2;refine ⟨la,lb,h1,h2,h3,g1, ?_⟩;rw [g1]; exact g2
end
namespace Pl
def Mlt (c q:Rat):Prop:=∃ z:Int,q=c*(z:Rat)
theorem Mlt.zero (c:Rat):Mlt c 0:=⟨0,by simp⟩
theorem Mlt.refl (c:Rat):Mlt c c:=⟨1,by simp⟩
theorem Mlt.add {c p q:Rat} (h:Mlt c p) (k:Mlt c q):Mlt c (p+q):=by
 obtain ⟨x,rfl⟩:=h;obtain ⟨y,rfl⟩:=k;exact ⟨x+y,by rw [Rat.intCast_add]; grind⟩
theorem Mlt.sub {c p q:Rat} (h:Mlt c (p+q)) (k:Mlt c q):Mlt c p:=by
 obtain ⟨x,hx⟩:=h;obtain ⟨y,rfl⟩:=k;refine ⟨x-y, ?_⟩;rw [Rat.intCast_sub]
 grind
theorem Mlt.mul {c d p q:Rat} (h:Mlt c p) (k:Mlt d q):Mlt (c*d) (p*q):=by
 obtain ⟨x,rfl⟩:=h;obtain ⟨y,rfl⟩:=k;exact ⟨x*y,by rw [Rat.intCast_mul]; grind⟩
theorem Mlt.int {c p:Rat} (h:Mlt c p) (z:Int):Mlt c (p*(z:Rat)):=by
 obtain ⟨x,rfl⟩:=h;exact ⟨x*z,by rw [Rat.intCast_mul]; grind⟩
theorem Mlt.trans {c d q:Rat} (h:Mlt c d) (k:Mlt d q):Mlt c q:=by
 obtain ⟨x,rfl⟩:=h;obtain ⟨y,rfl⟩:=k;exact ⟨x*y,by rw [Rat.intCast_mul]; grind⟩
theorem lin_Mlt {c:Rat} {F:List Int→Rat}:∀ {l:List Tm},(∀ t∈l,Mlt c (t.2*F t.1))→Mlt c (lin F l)
 | [],_=>Mlt.zero c
 | t :: r,h=>(h t (by simp)).add (lin_Mlt (l:=r) fun s hs=>h s (by simp [hs]))
theorem ind_int (a b:List Int):∃ z:Int,(if a=b then (1:Rat) else 0)=(z:Rat):=by
 by_cases h:a=b
 · exact ⟨1,by rw [if_pos h]; rfl⟩
 · exact ⟨0,by rw [if_neg h]; rfl⟩
def gcdN (l:List Tm):Nat:=l.foldl (fun a t=>Nat.gcd a t.2.num.natAbs) 0
def cont (l:List Tm):Rat:=mkRat (gcdN l) (lcmD (l.map (·.2)))
theorem gcdN_fold:∀ (l:List Tm) (a:Nat),(l.foldl (fun a t=>Nat.gcd a t.2.num.natAbs) a∣a∧∀ t∈l,l.foldl (fun a t=>Nat.gcd a t.2.num.natAbs) a∣t.2.num.natAbs)∧∀ d,d∣a→(∀ t∈l,d∣t.2.num.natAbs)→d∣l.foldl (fun a t=>Nat.gcd a t.2.num.natAbs) a
 | [],a=>⟨⟨Nat.dvd_refl a,by simp⟩,fun d h _=>h⟩
 | t :: r,a=>by
  obtain ⟨⟨h1,h2⟩,h3⟩:=gcdN_fold r (Nat.gcd a t.2.num.natAbs);rw [List.foldl_cons];refine ⟨⟨Nat.dvd_trans h1 (Nat.gcd_dvd_left _ _),fun s hs => ?_⟩,fun d hd hl=>h3 d (Nat.dvd_gcd hd (hl t (by simp))) (fun s hs=>hl s (by simp [hs]))⟩;rcases List.mem_cons.1 hs with rfl|hs
  · exact Nat.dvd_trans h1 (Nat.gcd_dvd_right _ _)
  · exact h2 s hs
theorem gcdN_dvd {l:List Tm} {t:Tm} (h:t∈l):gcdN l∣t.2.num.natAbs:=(gcdN_fold l 0).1.2 t h
theorem dvd_gcdN {l:List Tm} {d:Nat} (h:∀ t∈l,d∣t.2.num.natAbs):d∣gcdN l:=(gcdN_fold l 0).2 d (Nat.dvd_zero d) h
theorem gcdN_pos {l:List Tm} (hn:l≠[]) (h:∀ t∈l,t.2≠0):0<gcdN l:=by
 obtain ⟨t,r,rfl⟩:=List.exists_cons_of_ne_nil hn;refine Nat.pos_of_ne_zero fun h0 => ?_;have h1:=gcdN_dvd (l:=t :: r) (t:=t) (by simp);rw [h0] at h1;have h2:=Nat.eq_zero_of_zero_dvd h1;exact h t (by simp) (rat_num_den_zero.1 (by omega))
theorem natR_ne {n:Nat} (h:0<n):((n:Nat):Rat)≠0:=fun e=>by have:=Rat.natCast_eq_zero_iff.1 e; omega
theorem cont_is (l:List Tm):cont l=((gcdN l:Nat):Rat)*((lcmD (l.map (·.2)):Nat):Rat)⁻¹:=by
 unfold cont;rw [mkRat_div];rfl
theorem cont_pos {l:List Tm} (hn:l≠[]) (h:∀ t∈l,t.2≠0):0<cont l:=by
 rw [cont_is];exact Rat.mul_pos (Rat.natCast_pos.2 (gcdN_pos hn h)) (Rat.inv_pos.2 (Rat.natCast_pos.2 (lcmD_pos _)))
theorem cont_all {l:List Tm} {t:Tm} (ht:t∈l):Mlt (cont l) t.2:=by
 have hd:t.2.den∣lcmD (l.map (·.2)):=lcmD_dvd (List.mem_map_of_mem ht);obtain ⟨k,hk⟩:=gcdN_dvd ht;have h1:=zsc_is hd;have hD:=natR_ne (lcmD_pos (l.map (·.2)));have hn:∃ x:Int,t.2.num=(gcdN l:Int)*x:=by
  have:((gcdN l:Nat):Int)∣t.2.num:=Int.ofNat_dvd_left.2 ⟨k,hk⟩;exact this
 obtain ⟨x,hx⟩:=hn;refine ⟨x*((lcmD (l.map (·.2))/t.2.den:Nat):Int), ?_⟩;unfold zsc at h1;rw [hx] at h1;have h2:t.2=t.2*((lcmD (l.map (·.2)):Nat):Rat)*((lcmD (l.map (·.2)):Nat):Rat)⁻¹:=by
  rw [Rat.mul_assoc,Rat.mul_inv_cancel _ hD,Rat.mul_one]
 refine h2.trans ?_;rw [←h1,cont_is];rw [Rat.intCast_mul,Rat.intCast_mul,Rat.intCast_mul,Rat.intCast_natCast,Rat.intCast_natCast];clear h1 h2 hx hk hd hD ht;generalize ((lcmD (l.map (·.2)):Nat):Rat)⁻¹=E;generalize ((gcdN l:Nat):Rat)=g;generalize ((lcmD (l.map (·.2))/t.2.den:Nat):Rat)=k;generalize (x:Rat)=x
 grind
theorem cont_min {l:List Tm} {d:Rat} (h:∀ t∈l,t.2≠0∧Mlt d t.2):Mlt d (cont l):=by
 have key:∀ t∈l,d.num.natAbs∣t.2.num.natAbs∧t.2.den∣d.den:=by
  intro t ht;obtain ⟨h0,z,hz⟩:=h t ht;have e1:t.2.num*(d.den:Int)=d.num*z*(t.2.den:Int):=by
   have a1:=q_den t.2;have a2:=q_den d;have a3:((t.2.num*(d.den:Int):Int):Rat)=((d.num*z*(t.2.den:Int):Int):Rat):=by
    rw [Rat.intCast_mul,Rat.intCast_mul,Rat.intCast_mul,←a1,←a2];simp only [Rat.intCast_natCast]
    conv=>lhs; rw [hz]
    conv=>rhs; rw [show ((t.2.den:Nat):Rat)=((t.2.den:Nat):Rat) from rfl]
    grind
   exact Rat.intCast_inj.1 a3
  have e2:t.2.num.natAbs*d.den=d.num.natAbs*(z.natAbs*t.2.den):=by
   have:=congrArg Int.natAbs e1;simpa [Int.natAbs_mul,Nat.mul_assoc] using this
  constructor
  · have hc:Nat.Coprime d.num.natAbs d.den:=d.reduced;exact hc.dvd_of_dvd_mul_right ⟨_,e2⟩
  · have hc:Nat.Coprime t.2.den t.2.num.natAbs:=t.2.reduced.symm;exact hc.dvd_of_dvd_mul_left ⟨d.num.natAbs*z.natAbs,by rw [e2,Nat.mul_comm t.2.den,Nat.mul_assoc]⟩
 obtain ⟨x,hx⟩:=dvd_gcdN (fun t ht=>(key t ht).1)
 obtain ⟨y,hy⟩:lcmD (l.map (·.2))∣d.den:=lcmD_min fun q hq=>by
  obtain ⟨t,ht,rfl⟩:=List.mem_map.1 hq;exact (key t ht).2
 have hD:=natR_ne (lcmD_pos (l.map (·.2)));have a2:=q_den d;rw [cont_is,hx];have hs:∃ s:Int,(d.num.natAbs:Int)=d.num*s:=by
  rcases Int.natAbs_eq d.num with h|h
  · exact ⟨1,by omega⟩
  · exact ⟨-1,by omega⟩
 obtain ⟨s,hs⟩:=hs;refine ⟨s*x*y, ?_⟩;have h3:((d.num.natAbs*x:Nat):Rat)=(d.num:Rat)*(s:Rat)*(x:Rat):=by
  rw [Rat.natCast_mul,←Rat.intCast_natCast d.num.natAbs,hs,Rat.intCast_mul]
 have h4:((d.den:Nat):Rat)=((lcmD (l.map (·.2)):Nat):Rat)*(y:Rat):=by
  rw [←Rat.natCast_mul,←hy]
 rw [h3,←a2,h4];simp only [Rat.intCast_mul,Rat.intCast_natCast];have h5:=Rat.mul_inv_cancel _ hD;generalize ((lcmD (l.map (·.2)):Nat):Rat)=D at *
 generalize D⁻¹=E at *
 grind
def Pr (p:Nat):Prop:=2≤p∧∀ d,d∣p→d=1∨d=p
theorem pr_ex:∀ (n:Nat),2≤n→∃ p,Pr p∧p∣n:=by
 intro n
 induction n using Nat.strongRecOn with
 | _ n ih =>
  intro hn;by_cases h:Pr n
  · exact ⟨n,h,Nat.dvd_refl n⟩
  · have:∃ d,d∣n∧d≠1∧d≠n:=by
     refine Classical.byContradiction fun hc=>h ⟨hn,fun d hd => ?_⟩;refine Classical.byContradiction fun hd2=>hc ⟨d,hd,fun e=>hd2 (Or.inl e),fun e=>hd2 (Or.inr e)⟩
    obtain ⟨d,hd,h1,h2⟩:=this;have h0:0<d:=Nat.pos_of_ne_zero fun e=>by rw [e] at hd; have:=Nat.eq_zero_of_zero_dvd hd; omega
    have hlt:d<n:=Nat.lt_of_le_of_ne (Nat.le_of_dvd (by omega) hd) h2;obtain ⟨p,hp,hpd⟩:=ih d hlt (by omega);exact ⟨p,hp,Nat.dvd_trans hpd hd⟩
theorem Pr.euclid {p a b:Nat} (hp:Pr p) (h:p∣a*b):p∣a∨p∣b:=by
 rcases hp.2 (Nat.gcd p a) (Nat.gcd_dvd_left _ _) with h1|h1
 · exact Or.inr (Nat.Coprime.dvd_of_dvd_mul_left h1 h)
 · exact Or.inl (by rw [←h1]; exact Nat.gcd_dvd_right _ _)
theorem first_not {c:Rat}:∀ {l:List Tm},(¬ ∀ t∈l,Mlt c t.2)→∃ a t b,l=a ++ t :: b∧(∀ u∈a,Mlt c u.2)∧¬ Mlt c t.2
 | [],h=>absurd (by simp) h
 | t :: r,h=>by
  by_cases ht:Mlt c t.2
  · obtain ⟨a,s,b,e,h1,h2⟩:=first_not (l:=r) (fun hr=>h (fun s hs=>(List.mem_cons.1 hs).elim (fun e=>e ▸ ht) (hr s)));refine ⟨t :: a,s,b,by rw [e]; rfl,fun u hu => ?_,h2⟩;rcases List.mem_cons.1 hu with rfl|hu
    · exact ht
    · exact h1 u hu
  · exact ⟨[],t,r,rfl,by simp,ht⟩
theorem gauss {n p:Nat} {la lb:List Tm} {ca cb:Rat} (hp:Pr p) (h0a:ca≠0) (h0b:cb≠0) (ha:Canon n la) (hb:Canon n lb) (A:∀ t∈la,Mlt ca t.2) (B:∀ t∈lb,Mlt cb t.2) (xa:¬ ∀ t∈la,Mlt (ca*(p:Rat)) t.2) (xb:¬ ∀ t∈lb,Mlt (cb*(p:Rat)) t.2) :
 ∃ e,¬ Mlt (ca*cb*(p:Rat)) (coef (prodT la lb) e):=by
 obtain ⟨a1,t,a2,ea,hA,ht⟩:=first_not xa;obtain ⟨b1,s,b2,eb,hB,hs⟩:=first_not xb;have mt:t∈la:=by rw [ea]; simp
 have ms:s∈lb:=by rw [eb]; simp
 have ta2:∀ u∈a2,0<ordE t.1 u.1:=by
  have h:=ha.desc;rw [ea] at h;exact (List.pairwise_cons.1 (List.pairwise_append.1 h).2.1).1
 have sb2:∀ m∈b2,0<ordE s.1 m.1:=by
  have h:=hb.desc;rw [eb] at h;exact (List.pairwise_cons.1 (List.pairwise_append.1 h).2.1).1
 have lt:=ha.len t mt;have ls:=hb.len s ms;refine ⟨plE t.1 s.1,fun hM => ?_⟩;obtain ⟨x,hx⟩:=A t mt;obtain ⟨y,hy⟩:=B s ms
 let I:List Int→List Int→Rat:=fun u m=>if plE u m=plE t.1 s.1 then 1 else 0
 have hI:∀ u m,∃ z:Int,I u m=(z:Rat):=fun u m=>ind_int _ _
 have cB:∀ u,Mlt cb (lin (I u) lb):=fun u=>lin_Mlt fun m hm=>by
  obtain ⟨z,hz⟩:=hI u m.1;rw [hz];exact (B m hm).int z
 have cB1:∀ u,Mlt (cb*(p:Rat)) (lin (I u) b1):=fun u=>lin_Mlt fun m hm=>by
  obtain ⟨z,hz⟩:=hI u m.1;rw [hz];exact (hB m hm).int z
 have k1:Mlt (ca*cb*(p:Rat)) (lin (fun u=>lin (I u) lb) a1):=lin_Mlt fun u hu=>by
  have:=(hA u hu).mul (cB u.1)
  rwa [show ca*(p:Rat)*cb=ca*cb*(p:Rat) by grind] at this
 have k2:Mlt (ca*cb*(p:Rat)) (lin (fun u=>lin (I u) lb) a2):=lin_Mlt fun u hu=>by
  have mu:u∈la:=by rw [ea]; simp [hu]
  have lu:=ha.len u mu;have o1:0<ordE (plE t.1 s.1) (plE u.1 s.1):=by rw [ordE_add (by omega) (by omega)]; exact ta2 u hu
  have e1:lin (I u.1) lb=lin (I u.1) b1:=by
   rw [eb,lin_app]
   have z2:lin (I u.1) (s :: b2)=0:=lin_zer fun m hm=>if_neg fun e=>by
    rcases List.mem_cons.1 hm with rfl|hm
    · rw [e,ordE_self] at o1; omega
    · have lm:=hb.len m (by rw [eb]; simp [hm]);have o2:0<ordE (plE u.1 s.1) (plE u.1 m.1):=by
       rw [plE_comm u.1 s.1,plE_comm u.1 m.1,ordE_add (by omega) (by omega)];exact sb2 m hm
      have o3:=ordE_trans o1 o2;rw [e,ordE_self] at o3;omega
   rw [z2];exact Rat.add_zero _
  rw [e1];have:=(A u mu).mul (cB1 u.1)
  rwa [show ca*(cb*(p:Rat))=ca*cb*(p:Rat) by grind] at this
 have e3:lin (I t.1) lb=lin (I t.1) b1+s.2:=by
  rw [eb,lin_app];show _+(s.2*I t.1 s.1+lin (I t.1) b2)=_
  have z2:lin (I t.1) b2=0:=lin_zer fun m hm=>if_neg fun e=>by
   have lm:=hb.len m (by rw [eb]; simp [hm]);have o2:0<ordE (plE t.1 s.1) (plE t.1 m.1):=by
    rw [plE_comm t.1 s.1,plE_comm t.1 m.1,ordE_add (by omega) (by omega)];exact sb2 m hm
   rw [e,ordE_self] at o2;omega
  rw [z2,show I t.1 s.1=1 from if_pos rfl]
  grind
 have hsum:coef (prodT la lb) (plE t.1 s.1)=t.2*s.2+(lin (fun u=>lin (I u) lb) a1+lin (fun u=>lin (I u) lb) a2+t.2*lin (I t.1) b1):=by
  rw [coef_prod];show lin (fun u=>lin (I u) lb) la=_
  conv=>lhs; rw [ea]
  rw [lin_app];show _+(t.2*lin (I t.1) lb+lin (fun u=>lin (I u) lb) a2)=_;rw [e3]
  grind
 have k3:Mlt (ca*cb*(p:Rat)) (t.2*lin (I t.1) b1):=by
  have:=(A t mt).mul (cB1 t.1)
  rwa [show ca*(cb*(p:Rat))=ca*cb*(p:Rat) by grind] at this
 rw [hsum] at hM;obtain ⟨z,hz⟩:=hM.sub ((k1.add k2).add k3);have hc:ca*cb≠0:=fun h=>(Rat.mul_eq_zero.1 h).elim h0a h0b;have e4:ca*cb*((x*y:Int):Rat)=ca*cb*(((p:Int)*z:Int):Rat):=by
  rw [Rat.intCast_mul,Rat.intCast_mul,Rat.intCast_natCast];rw [hx,hy] at hz
  grind
 have e5:x*y=(p:Int)*z:=by
  have h6:((x*y:Int):Rat)=(((p:Int)*z:Int):Rat):=by
   have:=congrArg (fun r=>(ca*cb)⁻¹*r) e4;simp only [←Rat.mul_assoc,Rat.inv_mul_cancel _ hc,Rat.one_mul] at this;exact this
  exact Rat.intCast_inj.1 h6
 have e6:p∣x.natAbs*y.natAbs:=⟨z.natAbs,by
  have:=congrArg Int.natAbs e5
  simpa [Int.natAbs_mul] using this⟩
 rcases hp.euclid e6 with h|h
 · obtain ⟨w,hw⟩:=Int.ofNat_dvd_left.2 h;exact ht ⟨w,by rw [hx,hw,Rat.intCast_mul,Rat.intCast_natCast]; grind⟩
 · obtain ⟨w,hw⟩:=Int.ofNat_dvd_left.2 h;exact hs ⟨w,by rw [hy,hw,Rat.intCast_mul,Rat.intCast_natCast]; grind⟩
theorem cont_notp {l:List Tm} {p:Nat} (hp:Pr p) (hn:l≠[]) (h:∀ t∈l,t.2≠0):¬ ∀ t∈l,Mlt (cont l*(p:Rat)) t.2:=by
 intro hm;obtain ⟨z,hz⟩:=cont_min (d:=cont l*(p:Rat)) (fun t ht=>⟨h t ht,hm t ht⟩);have hc:=cont_pos hn h;have hc0:cont l≠0:=fun e=>by rw [e] at hc; exact absurd hc (by decide)
 have e1:(1:Rat)=(((p:Int)*z:Int):Rat):=by
  have:=congrArg (fun r=>(cont l)⁻¹*r) hz;simp only [←Rat.mul_assoc,Rat.inv_mul_cancel _ hc0,Rat.one_mul] at this;rw [this,Rat.intCast_mul,Rat.intCast_natCast]
 have e2:(1:Int)=(p:Int)*z:=Rat.intCast_inj.1 e1
 have e3:p∣1:=⟨z.natAbs,by
  have:=congrArg Int.natAbs e2
  simpa [Int.natAbs_mul] using this⟩
 have:=Nat.dvd_one.1 e3;have:=hp.1;omega
end Pl
theorem cont_mul {v:Int} {la lb:List Pl.Tm} (ha:Pv v la) (hb:Pv v lb) (na:la≠[]) (nb:lb≠[]):Pl.cont (cnP (Pl.prodT la lb))=Pl.cont la*Pl.cont lb:=by
 have hp:=ha.prod hb;have np:cnP (Pl.prodT la lb)≠[]:=fun h=>((ha.nil_iff hb).1 h).elim na nb;have pa:=Pl.cont_pos na ha.can.nz;have pb:=Pl.cont_pos nb hb.can.nz;have pp:=Pl.cont_pos np hp.can.nz;have a0:Pl.cont la≠0:=fun e=>by rw [e] at pa; exact absurd pa (by decide)
 have b0:Pl.cont lb≠0:=fun e=>by rw [e] at pb; exact absurd pb (by decide)
 have c0:Pl.cont la*Pl.cont lb≠0:=fun h=>(Rat.mul_eq_zero.1 h).elim a0 b0;have hall:∀ e,Pl.Mlt (Pl.cont la*Pl.cont lb) (Pl.coef (Pl.prodT la lb) e):=by
  intro e;rw [Pl.coef_prod];refine Pl.lin_Mlt fun u hu=>(Pl.cont_all hu).mul (Pl.lin_Mlt fun m hm => ?_);obtain ⟨z,hz⟩:=Pl.ind_int (Pl.plE u.1 m.1) e;rw [hz];exact (Pl.cont_all hm).int z
 have hc:∀ t∈cnP (Pl.prodT la lb),t.2=Pl.coef (Pl.prodT la lb) t.1:=fun t ht=>by
  rw [←ha.cprod hb,Pl.coef_mem (canon_nrm hp.can).nodup ht]
 obtain ⟨z,hz⟩:=Pl.cont_min (l:=cnP (Pl.prodT la lb)) (d:=Pl.cont la*Pl.cont lb) (fun t ht=>⟨hp.can.nz t ht,by rw [hc t ht]; exact hall t.1⟩);have hz1:z.natAbs=1:=by
  rcases Nat.lt_or_ge z.natAbs 2 with h|h
  · have h0:z≠0:=fun e=>by
     rw [e] at hz;simp at hz;rw [hz] at pp;exact absurd pp (by decide)
    omega
  · exfalso;obtain ⟨p,hpr,y,hy⟩:=Pl.pr_ex z.natAbs h;obtain ⟨e,he⟩:=Pl.gauss hpr a0 b0 ha.can hb.can (fun t ht=>Pl.cont_all ht) (fun t ht=>Pl.cont_all ht) (Pl.cont_notp hpr na ha.can.nz) (Pl.cont_notp hpr nb hb.can.nz);refine he ?_;have hdz:((p:Nat):Int)∣z:=Int.ofNat_dvd_left.2 ⟨y,hy⟩;obtain ⟨w,hw⟩:=hdz;have h1:Pl.Mlt (Pl.cont la*Pl.cont lb*(p:Rat)) (Pl.cont (cnP (Pl.prodT la lb))):=⟨w,by rw [hz,hw,Rat.intCast_mul,Rat.intCast_natCast]; grind⟩;by_cases h2:Pl.coef (Pl.prodT la lb) e=0
    · rw [h2]; exact Pl.Mlt.zero _
    · have h3:Pl.coef (cnP (Pl.prodT la lb)) e≠0:=by rw [ha.cprod hb]; exact h2
      obtain ⟨t,ht,rfl⟩:=Pl.coef_present h3;rw [←hc t ht];exact h1.trans (Pl.cont_all ht)
 rcases Int.natAbs_eq z with h|h
 · rw [hz1] at h;rw [hz,h];simp
 · exfalso;rw [hz1] at h;rw [hz,h] at pp;have:Pl.cont la*Pl.cont lb*((-(1:Nat):Int):Rat) = -(Pl.cont la*Pl.cont lb):=by simp [Rat.mul_neg]
   rw [this] at pp;have hpos:=Rat.mul_pos pa pb;exact absurd pp (by grind)
theorem entL_c {w:World} {X:Nat} {te:List Int} {s:Bool} {a b:Option Addr} {n c m d:Nat} (h:Arr w X 111 (entL te s a n c b m d)) (h6:te.length=6):w.cell? ⟨X,6,none⟩=some (.bool s)∧w.cell? ⟨X,7,none⟩=some (.slice a n c)∧w.cell? ⟨X,8,none⟩=some (.bool false)∧w.cell? ⟨X,9,none⟩=some (.slice b m d):=by
 obtain ⟨x0,x1,x2,x3,x4,x5,rfl⟩:=six_of h6;exact ⟨h.cell (i:=6) (by simp [entL,ratL,intL]),h.cell (i:=7) (by simp [entL,ratL,intL]),h.cell (i:=8) (by simp [entL,ratL,intL]),h.cell (i:=9) (by simp [entL,ratL,intL])⟩
theorem gcdN_take {l:List Pl.Tm} {k:Nat} (h:k<l.length):Pl.gcdN (l.take (k+1))=Nat.gcd (Pl.gcdN (l.take k)) (l.getD k ([],0)).2.num.natAbs:=by
 unfold Pl.gcdN;rw [List.take_succ_eq_append_getElem h,List.foldl_append];simp [List.getD_eq_getElem?_getD,h]
theorem gcdN_lt {l:List Pl.Tm} {B:Nat} (hB:0<B) (h:∀ t∈l,t.2.num.natAbs<B) (hz:∀ t∈l,t.2≠0) (k:Nat):Pl.gcdN (l.take k)<B:=by
 cases hk:l.take k with
 | nil=>exact hB
 | cons t r =>
  have ht:t∈l:=List.mem_of_mem_take (by rw [hk]; simp);have h1:=Pl.gcdN_dvd (l:=t :: r) (t:=t) (by simp);have h2:0<t.2.num.natAbs:=by
   have:=hz t ht;have h3:t.2.num≠0:=fun e=>this (Pl.rat_num_den_zero.1 e);omega
  exact Nat.lt_of_le_of_lt (Nat.le_of_dvd h2 h1) (h t ht)
theorem poly_content {a:Option Addr} {n c:Nat} {l:List Pl.Tm} {w:World} (hT:Tabs w) (hL:EntSl w a n c l) (hn:n≤1000000) (hb:∀ t∈l,Pl.RB 2280 t.2) (hz:∀ t∈l,t.2≠0) (hd:lcmD (l.map (·.2))<P2 9600) :
 Calls Tryz.prog 58 #[.slice a n c] w (RetR w (Pl.cont l)):=by
 have hcd:=fun (wx:World) (hC:Ext w wx)=>qh (poly_commonDen (hT.ext hC) (hL.ext hC) hn (fun q hq=>by
  obtain ⟨t,ht,rfl⟩:=List.mem_map.1 hq
  exact P2_lt (hb t ht).2 (by omega)) (fun k=>Nat.lt_of_le_of_lt (lcmD_take_le k) hd))
 have HD:=qh (And.intro (lcmD_pos (l.map (·.2))) hd);have HC:Hid (Pl.cont l=mkRat ((Pl.gcdN l:Nat):Int) (lcmD (l.map (·.2)))):=qh rfl;have HG:=qh (gcdN_lt (B:=P2 2280) (P2_pos _) (fun t ht=>(hb t ht).1) hz);have HLB:=qh hb;obtain ⟨rows,hS,hlen,hRW⟩:=hL;have HR:=qh hRW;have HLN:=qh hlen;clear hRW hlen hb hz hd
 go_enter Tryz.func58,Tryz.ntmps58
 go_upto_region 2 with (fail)
 refine box2 ?_;intro w0 hE0 hB0 hB1 hz0;have hR:Arr w0 w.heap.size 97 (ratL false none 0 0 false none 0 0):=hB0;have hN:Arr w0 (w.heap.size+1) 90 (intL false none 0 0):=hB1;clear hz0 hB0 hB1;go_wp2
 go_loopw [8] (fun iv wr=>∃ (k:Nat) (s':Bool) (a':Option Addr) (n' c':Nat),iv = .int .i64 k∧k≤n∧Ext w wr∧Arr wr w.heap.size 97 (ratL false none 0 0 false none 0 0)∧Arr wr (w.heap.size+1) 90 (intL s' a' n' c')∧Hid (decide (((Pl.gcdN (l.take k):Nat):Int)<0)=s')∧Wd wr a' n' c' (Pl.gcdN (l.take k))) (fun iv _=>n-(intOf iv).toNat)
 case atStart=>exact ⟨0,false,none,0,0,rfl,Nat.zero_le _,hE0,hR,hN,qh (by simp [Pl.gcdN]),Wd.nil _⟩
 case round =>
  obtain ⟨k,s',a',n',c',rfl,hk,hE,hR,hN,HS,hx⟩:=hrel;clear hE0;by_cases hlt:k<n
  · have hSw:=hS.ext hE;obtain ⟨bb,off,rfl,_⟩:=hSw.rd (by omega);obtain ⟨sx,ax,nx,cx,bx,mx,dx,hrow,h6,hrc⟩:=HR.out k hlt;have HK:=qh (gcdN_take (l:=l) (k:=k) (by rw [HLN.out]; exact hlt));have hmem:l.getD k ([],0)∈l:=by simp [List.getD_eq_getElem?_getD,HLN.out,hlt]
    have HTB:=qh (HLB.out _ hmem);have HGk:=qh (HG.out k);clear hmem;generalize l.getD k ([],0)=t at *
    obtain ⟨te,tq⟩:=t;simp only at h6 hrow hrc HTB HK;have hLE:(entL [0,0,0,0,0,0] false none 0 0 none 0 0).length=(entL te sx ax nx cx bx mx dx).length:=by rw [entL_len te,h6]; rfl
    have hAG:Agg Tryz.prog 111 (entL te sx ax nx cx bx mx dx).length:=by rw [entL_len te,h6]; exact agg_entry
    have hY:=Arr.new wr 111 (entL [0,0,0,0,0,0] false none 0 0 none 0 0)
    go_upto_region 5 with (first
     | (refine wl_ldK rfl rfl agg_entry rfl hSw hlt ?_; rw [hrow])
     | (refine wl_stArr (vs:=entL te sx ax nx cx bx mx dx) rfl rfl rfl rfl rfl hAG hY hLE entL_one ?_; intro w4 hB4 hg4))
    have hE4:Ext wr w4:=((Ext.refl wr).alloc _).grownR hg4 (Nat.le_refl _);have hE1w:=hE.trans hE4;have hrc4:=hrc.ext hE1w;have hR4:=hR.ext hE4;have hN4:=hN.ext hE4;have hx4:=hx.ext hE4;obtain ⟨c6,c7,c8,c9⟩:=entL_c hB4 h6;have q0:=hN4.c 0 rfl;have q1:=hN4.c 1 rfl;clear hY hg4 hE hE4 hrow hSw hrc hx hR hN hB4 hLE hAG h6;generalize wr.heap.size=X at *
    generalize hA:Pl.gcdN (l.take k)=A at *
    have hnm:=fun (wx:World) (hq:Ext w4 wx)=>qh (rat_Num (v := .agg #[.bool sx, .slice ax nx cx, .bool false, .slice bx mx dx]) (q:=tq) ⟨ratL sx ax nx cx false bx mx dx,rfl,hrc4.ext hq⟩);have hgc:=fun (wx:World) (hq:Ext w4 wx) (v:Value) (hv:IntR wx v tq.num)=>qh (int_GCD ((hT.ext hE1w).ext hq) (v := .agg (intL s' a' n' c').toArray) (z:=(A:Int)) ⟨s',a',n',c',rfl,HS,hx4.ext hq⟩ hv (P2_lt (by simpa using HGk.out) (by omega)) (P2_lt HTB.out.1 (by omega)));simp only [Int.natAbs_natCast,←HK.out] at hgc;generalize hA2:Pl.gcdN (l.take (k+1))=A2 at *
    go_wp2;have HF1:=fun (wx:World) (hC:Ext w4 wx)=>qh (And.intro (hC.cell c6) (And.intro (hC.cell c7) (And.intro (hC.cell c8) (And.intro (hC.cell c9) (And.intro (hC.cell q0) (hC.cell q1))))))
    refine wp_region_typed (by kernel_rfl) (fun wx=>Ext w4 wx)
     [he (.agg #[.bool s', .slice a' n' c']),
 he (.pointer (some ⟨X,6,none⟩)),
 he (.agg #[.bool sx, .slice ax nx cx, .bool false, .slice bx mx dx]),
 hp (fun v wx=>NI tq.num v wx),
 hp (fun v wx=>NI ((A2:Nat):Int) v wx)]
     (by kernel_rfl) (fun _ _ e h=>h.trans e) ((Ext.refl w4).drew) ⟨trivial,trivial,trivial,NI.x _,NI.x _,trivial⟩ ⟨?o0, ?o1, ?o2, ?o3, ?o4,trivial⟩ ?fin
    case o0=>exact ol2 rfl rfl (fun _ _=>id) agg_Int (by assumption) (by assumption)
    case o1=>exact ofa (d:=6) rfl rfl (fun _ _=>id) (by kernel_rfl) rfl
    case o2=>exact ol4 rfl rfl (fun _ _=>id) agg_Ratio (by assumption) (by assumption) (by assumption) (by assumption)
    case o3 =>
     refine obl_cq rfl fun ρ wx hC hcst hfn h => ?_;have e1:ρ (.tmp 14)=(.agg #[.bool sx, .slice ax nx cx, .bool false, .slice bx mx dx]):=h.2.1;obtain ⟨k6,k7,k8,k9,k0,k1⟩:=(HF1 wx hC).out;refine ⟨96,#[.agg #[.bool sx, .slice ax nx cx, .bool false, .slice bx mx dx]],by go_simp,((hnm wx hC).out).mono ?_⟩;rintro e w' ⟨s,a,n,c,rfl,hE',h1,h2⟩;exact ⟨_,rfl,hE',s,a,n,c,rfl,h1,h2⟩
    case o4 =>
     refine obl_cq rfl fun ρ wx hC hcst hfn h => ?_;have e1:ρ (.tmp 12)=(.agg #[.bool s', .slice a' n' c']):=h.2.1;obtain ⟨v2,e2,s2,a2,n2,c2,rfl,i2,j2⟩:=h.2.2.1;obtain ⟨k6,k7,k8,k9,k0,k1⟩:=(HF1 wx hC).out;refine ⟨50,#[.agg #[.bool s', .slice a' n' c'], .agg (intL s2 a2 n2 c2).toArray],by go_simp,((hgc wx hC _ ⟨s2,a2,n2,c2,rfl,i2,j2⟩).out).mono ?_⟩;rintro e w' ⟨s,a,n,c,rfl,hE',h1,h2⟩;exact ⟨_,rfl,hE',s,a,n,c,rfl,h1,h2⟩
    case fin =>
     intro wx hC;rintro _ ⟨_,_,_,_,rfl,_,_⟩;rintro _ ⟨s9,a9,n9,c9,rfl,HS9,hx9⟩;change wpList _ _ _ _ _ _;simp only [List.length_cons,List.length_nil,List.drop_succ_cons,List.drop_zero,Act.put,List.setIfInBounds_toArray,List.set_cons_succ,List.set_cons_zero];have hNx:=hN4.ext hC;have hl9:(intL s9 a9 n9 c9).toArray=#[.bool s9, .slice a9 n9 c9]:=rfl
     go_wp2_with (refine wl_stArr (vs:=intL s9 a9 n9 c9) rfl rfl rfl rfl rfl agg_Int hNx rfl (intL_one _ _ _ _) ?_; intro w7 hB7 hg7)
     go_roundw
     case rel=>exact ⟨k+1,s9,a9,n9,c9,by go_num,by omega,(hE1w.trans hC).grownR hg7 (by omega),(hR4.ext hC).kept hg7 (by simp),hB7,by rw [hA2]; exact HS9,by rw [hA2]; exact (by simpa using hx9:Wd _ _ _ _ _).kept hNx (intL_nu _ _ _ _) hg7⟩
     case measure=>simp [intOf]; omega
  · have hkn:k=n:=by omega
    subst hkn;have HTL:Hid (l.take k=l):=qh (List.take_of_length_le (by rw [HLN.out]; exact Nat.le_refl _));have HGk:=qh (HG.out k);rw [HTL.out] at HS hx HGk;generalize Pl.gcdN l=A at *
    generalize lcmD (l.map (·.2))=D at *
    have q0:=hN.c 0 rfl;have q1:=hN.c 1 rfl;have hfr:=fun (wx:World) (hq:Ext wr wx) (v:Value) (hv:IntR wx v (D:Int))=>qh (rat_Fraction ((hT.ext hE).ext hq) (v := .agg (intL s' a' n' c').toArray) (x:=(A:Int)) ⟨s',a',n',c',rfl,HS,hx.ext hq⟩ hv (P2_lt (by simpa using HGk.out) (by omega)) HD.out.2 (by have:=HD.out.1; omega));have hcw:=fun (wx:World) (hq:Ext wr wx)=>hcd wx (hE.trans hq);clear hcd;go_wp2;have HF2:=fun (wx:World) (hC:Ext wr wx)=>qh (And.intro (hC.cell q0) (hC.cell q1))
    refine wp_region_typed (by kernel_rfl) (fun wx=>Ext wr wx)
     [he (.agg #[.bool s', .slice a' n' c']),
 he (.slice a k c),
 hp (fun v wx=>NI (D:Int) v wx),
 hp (fun v wx=>NR (mkRat (A:Int) D) v wx)]
     (by kernel_rfl) (fun _ _ e h=>h.trans e) ((Ext.refl wr).drew) ⟨trivial,trivial,NI.x _,NR.x _,trivial⟩ ⟨?o0, ?o1, ?o2, ?o3,trivial⟩ ?fin
    case o0=>exact ol2 rfl rfl (fun _ _=>id) agg_Int (by assumption) (by assumption)
    case o1=>exact omv rfl rfl (fun _ _=>id)
    case o2 =>
     refine obl_cq rfl fun ρ wx hC hcst hfn h => ?_;have e1:ρ (.tmp 19)=(.slice a k c):=h.2.1;obtain ⟨k0,k1⟩:=(HF2 wx hC).out;refine ⟨84,#[.slice a k c],by go_simp,((hcw wx hC).out).mono ?_⟩;rintro e w' ⟨s,a,n,c,rfl,hE',h1,h2⟩;exact ⟨_,rfl,hE',s,a,n,c,rfl,h1,h2⟩
    case o3 =>
     refine obl_cq rfl fun ρ wx hC hcst hfn h => ?_;have e1:ρ (.tmp 18)=(.agg #[.bool s', .slice a' n' c']):=h.2.1;obtain ⟨v2,e2,s2,a2,n2,c2,rfl,i2,j2⟩:=h.2.2.1;obtain ⟨k0,k1⟩:=(HF2 wx hC).out;refine ⟨101,#[.agg #[.bool s', .slice a' n' c'], .agg (intL s2 a2 n2 c2).toArray],by go_simp,((hfr wx hC _ ⟨s2,a2,n2,c2,rfl,i2,j2⟩).out).mono ?_⟩;rintro e w' ⟨cs,rfl,hE',hr'⟩;exact ⟨_,rfl,hE',cs,rfl,hr'⟩
    case fin =>
     intro wx hC;rintro _ ⟨_,_,_,_,rfl,_,_⟩;rintro _ ⟨_,rfl,s9,a9,n9,c9,b9,m9,d9,rfl,HS9,hx9,hy9⟩;change wpList _ _ _ _ _ _;simp only [List.length_cons,List.length_nil,List.drop_succ_cons,List.drop_zero,Act.put,List.setIfInBounds_toArray,List.set_cons_succ,List.set_cons_zero];have hRx:=hR.ext hC;have hl9:(ratL s9 a9 n9 c9 false b9 m9 d9).toArray=#[.bool s9, .slice a9 n9 c9, .bool false, .slice b9 m9 d9]:=rfl
     go_wp2_with (refine wl_stArr (vs:=ratL s9 a9 n9 c9 false b9 m9 d9) rfl rfl rfl rfl rfl agg_Ratio hRx rfl (ratL_one _ _ _ _ _ _ _ _) ?_; intro w9 hB9 hg9)
     refine bodyPost_ret (res_arr rfl agg_Ratio rfl hB9) rfl ?_;rw [HC.out];exact retR_of (hE.trans hC) hRx (ratL_nu _ _ _ _ _ _ _ _) hg9 (by omega) HS9 hx9 hy9
end Go.Proofs.YtlpgonpfjbhmfaaGreatDoor
