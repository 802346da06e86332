/- Part Gav18. -/
import Derived.Test.YtlpgonpfjbhmfaaGreatDoorGav17
import Derived.Shelf.Lays
import Derived.Test.YtlpgonpfjbhmfaaGreatDoorProg
set_option maxRecDepth 100000
set_option maxHeartbeats 100000000
namespace Go.Proofs.YtlpgonpfjbhmfaaGreatDoor
open Tryz Go Go.RowKit
variable {s t:Bool} {y z:Int} {v v':Value} {w w':World}
theorem UZ (hs:decide (z<0)=s) (ht:decide (y<0)=t):z.tdiv y=if (s != t)=true then -((z.natAbs/y.natAbs:Nat):Int) else ((z.natAbs/y.natAbs:Nat):Int):=by
 subst hs; subst ht;have h0:∀ x:Int,x<0→x = -(x.natAbs:Int):=fun x h=>by omega
 have h1:∀ x:Int,¬ x<0→x=(x.natAbs:Int):=fun x h=>by omega
 by_cases hz:z<0 <;> by_cases hy:y<0 <;> simp only [hz,hy,decide_true,decide_false]
 · rw [h0 z hz,h0 y hy,Int.neg_tdiv_neg,Int.natAbs_neg,Int.natAbs_neg,Int.natAbs_natCast,Int.natAbs_natCast]; simp
 · rw [h0 z hz,h1 y hy,Int.neg_tdiv,Int.natAbs_neg,Int.natAbs_natCast,Int.natAbs_natCast]; simp
 · rw [h1 z hz,h0 y hy,Int.tdiv_neg,Int.natAbs_neg,Int.natAbs_natCast,Int.natAbs_natCast]; simp
 · rw [h1 z hz,h1 y hy,Int.natAbs_natCast,Int.natAbs_natCast]; simp
theorem U0 (hs:decide (z<0)=s):z.tmod y=if s=true then -((z.natAbs%y.natAbs:Nat):Int) else ((z.natAbs%y.natAbs:Nat):Int):=by
 subst hs;have hy:z.tmod y=z.tmod (y.natAbs:Int):=by
  rcases Int.natAbs_eq y with h|h
  · rw [←h]
  · rw [h,Int.tmod_neg,Int.natAbs_neg,Int.natAbs_natCast]
 rw [hy];by_cases hz:z<0
 · have h0:z = -(z.natAbs:Int):=by omega
   rw [h0,Int.neg_tmod];simp only [Int.natAbs_neg,Int.natAbs_natCast];rw [←h0,Int.tmod_eq_emod_of_nonneg (by omega)];simp [hz]
 · have h0:z=(z.natAbs:Int):=by omega
   rw [h0];simp only [Int.natAbs_natCast];rw [Int.tmod_eq_emod_of_nonneg (by omega),←h0];simp [hz];rw [←h0]
def RX (w:World) (z y:Int) (e:Ending) (w':World):Prop:=∃ s a n c s' a' n' c',e = .returned (.tuple #[.agg (Ab s a n c).toArray, .agg (Ab s' a' n' c').toArray])∧Ext w w'∧(Hid (decide (z<0)=s)∧Wd w' a n c z.natAbs)∧(Hid (decide (y<0)=s')∧Wd w' a' n' c' y.natAbs)
def OB (w:World) (z y:Int) (e:Ending) (w':World):Prop:=∃ s a n c s' a' n' c',e = .returned (.tuple #[.agg (Ab s a n c).toArray, .agg (Ab s' a' n' c').toArray])∧Ext w w'∧(Hid (decide (z<0)=s)∧Wd w' a n c z.natAbs)∧(Hid (decide (y<0)=s')∧Wd w' a' n' c' y.natAbs)∧Hx w.heap.size (fun _=>False) a n
theorem OB.plain {e:Ending} (h:OB w z y e w'):RX w z y e w':=by
 obtain ⟨s,a,n,c,s',a',n',c',h1,h2,h3,h4,_⟩:=h;exact ⟨s,a,n,c,s',a',n',c',h1,h2,h3,h4⟩
theorem M8 (h:Ax w v z) (h':Ax w v' y) (bz:z.natAbs<P2 9600) (by_:y.natAbs<P2 9600) (hy0:y≠0):Calls prog 153 #[v,v'] w (OB w (z.tdiv y) (z.tmod y)):=by
 obtain ⟨s,a,n,c,rfl,HS,hx⟩:=h;obtain ⟨t,b,m,d,rfl,HT,hy⟩:=h';have hdv:=fun (wx:World) (hC:Ext w wx)=>qh (UE (hx.ext hC) (hy.ext hC) bz by_ (by omega));have hmb:((m:Int) == 0)=false:=by have:=hy.zero; simp; omega
 clear bz by_ hy0
 go_enter func153,ntmps153
 go_upto_region 1 with (fail)
 refine VD ?_;intro w0 hE0 hB0 hB1 hB2 hB3 hz0;have p00:=hB0.c 0 rfl;have p01:=hB0.c 1 rfl;have p10:=hB1.c 0 rfl;have p11:=hB1.c 1 rfl;have hR:Arr w0 (w.heap.size+2) 90 (Ab false none 0 0):=hB2;have hR2:Arr w0 (w.heap.size+3) 90 (Ab false none 0 0):=hB3;clear hz0
 go_wp2_with fail
 refine (hdv _ hE0).out.mono ?_;rintro e w1 ⟨qa,qn,qc,ra,rn,rc,rfl,hE1,hq,hr,hsrc⟩;have hsrw:=hsrc.of hE0.size (fun _ h=>h.elim) (S':=fun _=>False);have hEw:=hE0.trans hE1;have r00:=hE1.cell p00;have r10:=hE1.cell p10;go_wp2;have HF1:=fun (wx:World) (hC:Ext w1 wx)=>qh (And.intro (hC.cell r00) (hC.cell r10))
 refine Af (by kernel_rfl) (fun wx=>Ext w1 wx)
  [he (.pointer (some ⟨w.heap.size,0,none⟩)),
 he (.bool s),
 he (.pointer (some ⟨(w.heap.size+1),0,none⟩)),
 he (.bool t),
 he (.bool (s != t)),
 he (.slice qa qn qc),
 hp (fun v wx=>∃ s',v = .agg (Ab s' qa qn qc).toArray∧Hid (decide (z.tdiv y<0)=s')∧Wd wx qa qn qc (z.tdiv y).natAbs),
 he (.pointer (some ⟨w.heap.size,0,none⟩)),
 he (.bool s),
 he (.slice ra rn rc),
 hp (fun v wx=>∃ s' a' n' c',v = .agg (Ab s' a' n' c').toArray∧Hid (decide (z.tmod y<0)=s')∧Wd wx a' n' c' (z.tmod y).natAbs)]
  (by kernel_rfl) (fun _ _ e h=>h.trans e) ((Ext.refl w1).drew) ⟨trivial,trivial,trivial,trivial,trivial,trivial,fun v w w' e ⟨s',h1,h2,h3⟩=>⟨s',h1,h2,h3.ext e⟩,trivial,trivial,trivial,fun v w w' e ⟨s',a',n',c',h1,h2,h3⟩=>⟨s',a',n',c',h1,h2,h3.ext e⟩,trivial⟩ ⟨?o0, ?o1, ?o2, ?o3, ?o4, ?o5, ?o6, ?o7, ?o8, ?o9, ?o10,trivial⟩ ?fin
 case o0=>exact ofa (d:=0) rfl rfl (fun _ _=>id) (by kernel_rfl) rfl
 case o1=>exact ol rfl rfl (fun _ _=>id) (by kernel_rfl) (by assumption)
 case o2=>exact ofa (d:=0) rfl rfl (fun _ _=>id) (by kernel_rfl) rfl
 case o3=>exact ol rfl rfl (fun _ _=>id) (by kernel_rfl) (by assumption)
 case o4 =>
  refine AB rfl fun ρ wx hC hcst h => ?_;have e0:ρ (.tmp 23)=(.bool s):=h.1;have e1:ρ (.tmp 25)=(.bool t):=h.2.1;obtain ⟨k00,k10⟩:=(HF1 wx hC).out;go_simp;cases s <;> cases t <;> rfl
 case o5=>exact omv rfl rfl (fun _ _=>id)
 case o6 =>
  refine Aj rfl fun ρ wx hC hcst hfn h => ?_;have e1:ρ (.tmp 26)=(.bool (s != t)):=h.2.1;have e2:ρ (.tmp 27)=(.slice qa qn qc):=h.2.2.1;obtain ⟨k00,k10⟩:=(HF1 wx hC).out;refine ⟨144,#[.bool (s != t), .slice qa qn qc],by go_simp,(Fd (hq.ext hC) (z:=z.tdiv y) (UZ HS.out HT.out)).mono ?_⟩;rintro e w' ⟨s',rfl,hE',hs',hn'⟩;exact ⟨_,rfl,hE',s',rfl,hs',hn'⟩
 case o7=>exact ofa (d:=0) rfl rfl (fun _ _=>id) (by kernel_rfl) rfl
 case o8=>exact ol rfl rfl (fun _ _=>id) (by kernel_rfl) (by assumption)
 case o9=>exact omv rfl rfl (fun _ _=>id)
 case o10 =>
  refine Aj rfl fun ρ wx hC hcst hfn h => ?_;have e1:ρ (.tmp 30)=(.bool s):=h.2.1;have e2:ρ (.tmp 31)=(.slice ra rn rc):=h.2.2.1;obtain ⟨k00,k10⟩:=(HF1 wx hC).out;refine ⟨144,#[.bool s, .slice ra rn rc],by go_simp,(BM (hr.ext hC) (z:=z.tmod y) (U0 HS.out)).mono ?_⟩;rintro e w' ⟨s',a',n',c',rfl,hE',hs',hn'⟩;exact ⟨_,rfl,hE',s',a',n',c',rfl,hs',hn'⟩
 case fin =>
  intro wx hC;rintro _ ⟨s1,rfl,HS1,hx1⟩;rintro _ ⟨s2,a2,n2,c2,rfl,HS2,hx2⟩;change wpList _ _ _ _ _ _;simp only [List.length_cons,List.length_nil,List.drop_succ_cons,List.drop_zero,Act.put,List.setIfInBounds_toArray,List.set_cons_succ,List.set_cons_zero];have hRa:=(hR.ext hE1).ext hC;have hRb:=(hR2.ext hE1).ext hC
  go_wp2_with (first
   | (refine Aa (vs:=Ab s1 qa qn qc) rfl rfl rfl rfl rfl Ad hRa rfl (Ai _ _ _ _) ?_; intro w9 hB9 hg9; have hRc:=hRb.kept hg9 (by simp))
   | (refine Aa (vs:=Ab s2 a2 n2 c2) rfl rfl rfl rfl rfl Ad hRc rfl (Ai _ _ _ _) ?_; intro w10 hB10 hg10))
  have hB9':=hB9.kept hg10 (by simp);have hE9:=((hEw.trans hC).grownR hg9 (by omega)).grownR hg10 (by omega);exact bodyPost_ret (Oz rfl Ad Ad rfl rfl hB9' hB10) rfl ⟨s1,qa,qn,qc,s2,a2,n2,c2,rfl,hE9,⟨HS1,(hx1.kept hRa (Aq _ _ _ _) hg9).kept hRc (Aq _ _ _ _) hg10⟩,⟨HS2,(hx2.kept hRa (Aq _ _ _ _) hg9).kept hRc (Aq _ _ _ _) hg10⟩,hsrw⟩
theorem M9 {S:Nat→Prop} (h:Ax w v z) (h':Ax w v' y) (bz:z.natAbs<P2 9600) (by_:y.natAbs<P2 9600) (hy0:y≠0) (hS:H3 S v):Calls prog 119 #[v,v'] w (Ju w S (z.tdiv y)):=by
 have hqr:=fun (wx:World) (hC:Ext w wx)=>qh (M8 (h.ext hC) (h'.ext hC) bz by_ hy0);have hio:=fun (wx:World) (hC:Ext w wx)=>qh (Ct (r:=decide (y=1)) (h'.ext hC) rfl);clear bz by_;obtain ⟨s,a,n,c,rfl,HS,hx⟩:=h;obtain ⟨t,b,m,d,rfl,HT,hy⟩:=h'
 go_enter func119,ntmps119
 go_upto_region 1 with (fail)
 refine F3 ?_;intro w0 hE0 hB0 hB1 hB2 hz0;have p00:=hB0.c 0 rfl;have p01:=hB0.c 1 rfl;have p10:=hB1.c 0 rfl;have p11:=hB1.c 1 rfl;have hR:Arr w0 (w.heap.size+2) 90 (Ab false none 0 0):=hB2;clear hz0 hy0
 go_wp2_with fail
 refine (hio _ hE0).out.mono ?_;rintro e w1 ⟨rfl,hE1⟩;have hEw:=hE0.trans hE1;have r00:=hE1.cell p00;have r01:=hE1.cell p01;have r10:=hE1.cell p10;have r11:=hE1.cell p11;have hRa:=hR.ext hE1;by_cases h1:y=1
 · have hb:decide (y=1)=true:=by simpa using h1
   have HV:Hid (z.tdiv y=z):=by show _=_; rw [h1,Int.tdiv_one]
   rw [hb];clear hb h1
   go_wp2_with (refine Aa (vs:=Ab s a n c) rfl rfl rfl rfl rfl Ad hRa rfl (Ai _ _ _ _) ?_; intro w9 hB9 hg9)
   refine bodyPost_ret (Al rfl Ad rfl hB9) rfl ?_;rw [HV.out];exact Fe hEw hRa (Aq _ _ _ _) hg9 (by omega) HS (hx.ext hEw) (fun h0 g hg=>Or.inr (hS.at h0 g hg))
 · have hb:decide (y=1)=false:=by simpa using h1
   rw [hb];clear hb h1
   go_wp2_with fail
   refine (hqr _ hEw).out.mono ?_;rintro e w2 ⟨s1,a1,n1,c1,s2,a2,n2,c2,rfl,hE2,⟨HS1,hx1⟩,_,hsrc⟩;have hRb:=hRa.ext hE2;have hRlt:=hRb.lt;clear r00 r01 r10 r11;have hY1:=Jy w2 (Ab false none 0 0) (Ab false none 0 0) 90 90;have hY2:=Jz w2 (Ab false none 0 0) (Ab false none 0 0) 90 90;have hE3:=VJ w2 (.cells (Ab false none 0 0).toArray 90) (.cells (Ab false none 0 0).toArray 90)
   go_upto_region 4 with (first
    | (refine Aa (vs:=Ab s1 a1 n1 c1) rfl rfl rfl rfl rfl Ad hY1 rfl (Ai _ _ _ _) ?_; intro w3 hB3 hg3; have hY3:=hY2.kept hg3 (by simp); clear hY1)
    | (refine Aa (vs:=Ab s2 a2 n2 c2) rfl rfl rfl rfl rfl Ad hY3 rfl (Ai _ _ _ _) ?_; intro w4 hB4 hg4))
   have hE4:Ext w2 w4:=((hE3.grownR hg3 (lrf _)).grownR hg4 (by omega));have hB5:=hB3.kept hg4 (by simp);have hRc:=hRb.ext hE4;have hx2:=hx1.ext hE4;have q0:=hB5.c 0 rfl;have q1:=hB5.c 1 rfl
   go_wp2_with (refine Aa (vs:=Ab s1 a1 n1 c1) rfl rfl rfl rfl rfl Ad hRc rfl (Ai _ _ _ _) ?_; intro w9 hB9 hg9)
   exact bodyPost_ret (Al rfl Ad rfl hB9) rfl (Fe ((hEw.trans hE2).trans hE4) hRc (Aq _ _ _ _) hg9 (by omega) HS1 hx2 (hsrc.of hEw.size (fun _ h=>h.elim)))
theorem D3 (h:Ax w v z) (h':Ax w v' y) (bz:z.natAbs<P2 9600) (by_:y.natAbs<P2 9600) (hy0:y≠0):Calls prog 119 #[v,v'] w (Ei w (z.tdiv y)) :=
 (M9 (S:=fun _=>True) h h' bz by_ hy0 (fun _ _ _ _ _ _ _ _=>trivial)).mono fun _ _ h=>h.plain
theorem Qy (h:Ax w v z) (h':Ax w v' y) {r:Bool} (hr:decide (z=y)=r):Calls prog 166 #[v,v'] w fun e w'=>e = .returned (.bool r)∧Ext w w':=by
 obtain ⟨s,a,n,c,rfl,HS,hx⟩:=h;obtain ⟨t,b,m,d,rfl,HT,hy⟩:=h';by_cases hst:s=t
 · subst hst;have hbb:(s == s)=true:=by simp
   have hcmp:=fun (wx:World) (hC:Ext w wx)=>qh (UD (hx.ext hC) (hy.ext hC));have hrr:(Ba (z.natAbs:Int) (y.natAbs:Int) == 0)=r:=by
    rw [←hr,Bool.eq_iff_iff];have h1:=HS.out;have h2:=HT.out;have h3:Ba (z.natAbs:Int) (y.natAbs:Int)=0↔z.natAbs=y.natAbs:=by
     unfold Ba;split
     · omega
     · split <;> omega
    simp only [beq_iff_eq,h3,decide_eq_true_eq];cases s <;> simp at h1 h2 <;> omega
   clear hr
   go_enter func166,ntmps166
   go_upto_region 1 with (fail)
   refine F0 ?_;intro w0 hE0 hB0 hB1 hz0;have p00:=hB0.c 0 rfl;have p01:=hB0.c 1 rfl;have p10:=hB1.c 0 rfl;have p11:=hB1.c 1 rfl;clear hz0
   go_wp2_with fail
   refine (hcmp _ hE0).out.mono ?_;rintro e w1 ⟨rfl,hQ⟩;generalize Ba (z.natAbs:Int) (y.natAbs:Int)=cv at *
   go_wp2;go_ret;exact ⟨rfl,hE0.trans hQ.ext⟩
 · have hbb:(s == t)=false:=by simpa using hst
   have HR:Hid (r=false):=by
    show _=_;rw [←hr];have h1:=HS.out;have h2:=HT.out;simp only [decide_eq_false_iff_not];intro h3;subst h3;exact hst (h1.symm.trans h2)
   clear hr hst
   go_enter func166,ntmps166
   go_upto_region 1 with (fail)
   refine F0 ?_;intro w0 hE0 hB0 hB1 hz0;have p00:=hB0.c 0 rfl;have p01:=hB0.c 1 rfl;have p10:=hB1.c 0 rfl;have p11:=hB1.c 1 rfl;clear hz0;go_wp2;go_ret;exact ⟨by rw [HR.out]; rfl,hE0⟩
theorem TK (hT:A2 w) (h:Ax w v z) (h':Ax w v' y) (bz:z.natAbs<P2 9600) (by_:y.natAbs<P2 2496) (hz0:z≠0) (hy0:y≠0):Calls prog 167 #[v,v'] w (Ei w ((z.natAbs*(y.natAbs/Nat.gcd z.natAbs y.natAbs):Nat):Int)):=by
 obtain ⟨s,a,n,c,rfl,HS,hx⟩:=h;obtain ⟨t,b,m,d,rfl,HT,hy⟩:=h';have by2:y.natAbs<P2 9600:=Ag by_ (by omega);have hgp:0<Nat.gcd z.natAbs y.natAbs:=Nat.gcd_pos_of_pos_left _ (by omega);have hgb:Nat.gcd z.natAbs y.natAbs<P2 9600:=Nat.lt_of_le_of_lt (Nat.le_of_dvd (by omega) (Nat.gcd_dvd_left _ _)) bz;have hqb:y.natAbs/Nat.gcd z.natAbs y.natAbs<P2 2496:=Nat.lt_of_le_of_lt (Nat.div_le_self _ _) by_;have hgc:=fun (wx:World) (hC:Ext w wx)=>qh (UB (hT.ext hC) (hx.ext hC) (hy.ext hC) bz by2)
 have hdv:=fun (wx:World) (hC:Ext w wx) (a':Option Addr) (n' c':Nat) (hg:Wd wx a' n' c' (Nat.gcd z.natAbs y.natAbs))=>qh (UE (hy.ext hC) hg by2 hgb hgp);have hml:=fun (wx:World) (hC:Ext w wx) (a':Option Addr) (n' c':Nat) (hg:Wd wx a' n' c' (y.natAbs/Nat.gcd z.natAbs y.natAbs))=>qh (RU (hx.ext hC) hg bz (Ag hqb (by omega)) (Or.inr hqb));have hnb:((n:Int) == 0)=false:=by have:=hx.zero; simp; omega
 have hmb:((m:Int) == 0)=false:=by have:=hy.zero; simp; omega
 clear bz by_ by2 hgp hgb hqb hz0 hy0
 go_enter func167,ntmps167
 go_upto_region 1 with (fail)
 refine F3 ?_;intro w0 hE0 hB0 hB1 hB2 hz0;have p00:=hB0.c 0 rfl;have p01:=hB0.c 1 rfl;have p10:=hB1.c 0 rfl;have p11:=hB1.c 1 rfl;have hR:Arr w0 (w.heap.size+2) 90 (Ab false none 0 0):=hB2;clear hz0;go_wp2;have HF1:=fun (wx:World) (hC:Ext w0 wx)=>qh (And.intro (hC.cell p00) (And.intro (hC.cell p01) (And.intro (hC.cell p10) (hC.cell p11))))
 refine AM (by kernel_rfl) (fun wx=>Ext w0 wx)
  [he (.pointer (some ⟨(w.heap.size+1),1,none⟩)),
 he (.slice b m d),
 he (.pointer (some ⟨w.heap.size,1,none⟩)),
 he (.slice a n c),
 he (.pointer (some ⟨(w.heap.size+1),1,none⟩)),
 he (.slice b m d),
 hp (fun v wx=>∃ a' n' c',v = .slice a' n' c'∧Wd wx a' n' c' (Nat.gcd z.natAbs y.natAbs)),
 hp (fun v wx=>∃ a' n' c' b' m' d',v = .tuple #[.slice a' n' c', .slice b' m' d']∧Wd wx a' n' c' (y.natAbs/Nat.gcd z.natAbs y.natAbs)∧Wd wx b' m' d' (y.natAbs%Nat.gcd z.natAbs y.natAbs)),
 hp (fun v wx=>∃ a' n' c' b' m' d',v = .tuple #[.slice a' n' c', .slice b' m' d']∧Wd wx a' n' c' (y.natAbs/Nat.gcd z.natAbs y.natAbs)∧Wd wx b' m' d' (y.natAbs%Nat.gcd z.natAbs y.natAbs)),
 hp (fun v wx=>∃ a' n' c',v = .slice a' n' c'∧Wd wx a' n' c' (y.natAbs/Nat.gcd z.natAbs y.natAbs)),
 hp (fun v wx=>∃ a' n' c',v = .slice a' n' c'∧Wd wx a' n' c' (y.natAbs%Nat.gcd z.natAbs y.natAbs)),
 hp (fun v wx=>∃ a' n' c',v = .slice a' n' c'∧Wd wx a' n' c' (y.natAbs/Nat.gcd z.natAbs y.natAbs)),
 hp (fun v wx=>∃ a' n' c',v = .slice a' n' c'∧Wd wx a' n' c' (y.natAbs%Nat.gcd z.natAbs y.natAbs))]
  (by kernel_rfl) (fun _ _ e h=>h.trans e) ((Ext.refl w0).drew) ⟨trivial,trivial,trivial,trivial,trivial,trivial,fun v w w' e ⟨a',n',c',h1,h2⟩=>⟨a',n',c',h1,h2.ext e⟩,fun v w w' e ⟨a',n',c',b',m',d',h1,h2,h3⟩=>⟨a',n',c',b',m',d',h1,h2.ext e,h3.ext e⟩,fun v w w' e ⟨a',n',c',b',m',d',h1,h2,h3⟩=>⟨a',n',c',b',m',d',h1,h2.ext e,h3.ext e⟩,fun v w w' e ⟨a',n',c',h1,h2⟩=>⟨a',n',c',h1,h2.ext e⟩,fun v w w' e ⟨a',n',c',h1,h2⟩=>⟨a',n',c',h1,h2.ext e⟩,fun v w w' e ⟨a',n',c',h1,h2⟩=>⟨a',n',c',h1,h2.ext e⟩,fun v w w' e ⟨a',n',c',h1,h2⟩=>⟨a',n',c',h1,h2.ext e⟩,trivial⟩ ⟨?o0, ?o1, ?o2, ?o3, ?o4, ?o5, ?o6, ?o7, ?o8, ?o9, ?o10, ?o11, ?o12,trivial⟩ ?fin
 case o0=>exact ofa (d:=1) rfl rfl (fun _ _=>id) (by kernel_rfl) rfl
 case o1=>exact ol rfl rfl (fun _ _=>id) (by kernel_rfl) (by assumption)
 case o2=>exact ofa (d:=1) rfl rfl (fun _ _=>id) (by kernel_rfl) rfl
 case o3=>exact ol rfl rfl (fun _ _=>id) (by kernel_rfl) (by assumption)
 case o4=>exact ofa (d:=1) rfl rfl (fun _ _=>id) (by kernel_rfl) rfl
 case o5=>exact ol rfl rfl (fun _ _=>id) (by kernel_rfl) (by assumption)
 case o6 =>
  refine Aj rfl fun ρ wx hC hcst hfn h => ?_;have e1:ρ (.tmp 22)=(.slice a n c):=h.2.1;have e2:ρ (.tmp 24)=(.slice b m d):=h.2.2.1;obtain ⟨k00,k01,k10,k11⟩:=(HF1 wx hC).out;refine ⟨94,#[.slice a n c, .slice b m d],by go_simp,((hgc wx (hE0.trans hC)).out).mono ?_⟩;rintro e w' ⟨a',n',c',rfl,hE',hn'⟩;exact ⟨_,rfl,hE',a',n',c',rfl,hn'⟩
 case o7 =>
  refine Aj rfl fun ρ wx hC hcst hfn h => ?_;have e1:ρ (.tmp 20)=(.slice b m d):=h.2.1;obtain ⟨v2,e2,a2,n2,c2,rfl,d2⟩:=h.2.2.1;obtain ⟨k00,k01,k10,k11⟩:=(HF1 wx hC).out;refine ⟨138,#[.slice b m d, .slice a2 n2 c2],by go_simp,((hdv wx (hE0.trans hC) _ _ _ d2).out).mono ?_⟩;rintro e w' ⟨a',n',c',b',m',d',rfl,hE',h1,h2,_⟩;exact ⟨_,rfl,hE',a',n',c',b',m',d',rfl,h1,h2⟩
 case o8 =>
  refine Bc rfl ?_;intro ρ wx hp hC h;have hcst:=hp.const;have hfn:=hp.func;obtain ⟨v0,e0,a0,n0,c0,b0,m0,d0,rfl,i0,j0⟩:=h.1;obtain ⟨k00,k01,k10,k11⟩:=(HF1 wx hC).out;exact ⟨_,wx,by go_simp,Ext.refl _,a0,n0,c0,b0,m0,d0,rfl,i0,j0⟩
 case o9 =>
  refine Bc rfl ?_;intro ρ wx hp hC h;have hcst:=hp.const;have hfn:=hp.func;obtain ⟨v0,e0,a0,n0,c0,b0,m0,d0,rfl,i0,j0⟩:=h.1;obtain ⟨k00,k01,k10,k11⟩:=(HF1 wx hC).out;exact ⟨_,wx,by go_simp,Ext.refl _,a0,n0,c0,rfl,i0⟩
 case o10 =>
  refine Bc rfl ?_;intro ρ wx hp hC h;have hcst:=hp.const;have hfn:=hp.func;obtain ⟨v0,e0,a0,n0,c0,b0,m0,d0,rfl,i0,j0⟩:=h.1;obtain ⟨k00,k01,k10,k11⟩:=(HF1 wx hC).out;exact ⟨_,wx,by go_simp,Ext.refl _,b0,m0,d0,rfl,j0⟩
 case o11 =>
  refine Bc rfl ?_;intro ρ wx hp hC h;have hcst:=hp.const;have hfn:=hp.func;obtain ⟨v0,e0,a0,n0,c0,rfl,d0⟩:=h.1;obtain ⟨k00,k01,k10,k11⟩:=(HF1 wx hC).out;exact ⟨_,wx,by go_simp,Ext.refl _,a0,n0,c0,rfl,d0⟩
 case o12 =>
  refine Bc rfl ?_;intro ρ wx hp hC h;have hcst:=hp.const;have hfn:=hp.func;obtain ⟨v0,e0,a0,n0,c0,rfl,d0⟩:=h.1;obtain ⟨k00,k01,k10,k11⟩:=(HF1 wx hC).out;exact ⟨_,wx,by go_simp,Ext.refl _,a0,n0,c0,rfl,d0⟩
 case fin =>
  intro wx hC;rintro _ ⟨_,_,_,rfl,_⟩;rintro _ ⟨_,_,_,_,_,_,rfl,_,_⟩;rintro _ ⟨_,_,_,_,_,_,rfl,_,_⟩;rintro _ ⟨_,_,_,rfl,_⟩;rintro _ ⟨_,_,_,rfl,_⟩;rintro _ ⟨qa,qn,qc,rfl,hq⟩;rintro _ ⟨_,_,_,rfl,_⟩;change wpList _ _ _ _ _ _;simp only [List.length_cons,List.length_nil,List.drop_succ_cons,List.drop_zero,Act.put,List.setIfInBounds_toArray,List.set_cons_succ,List.set_cons_zero];have k00:=hC.cell p00;have k01:=hC.cell p01;have hR0:=hR.ext hC;have HS1:Hid (decide (((z.natAbs*(y.natAbs/Nat.gcd z.natAbs y.natAbs):Nat):Int)<0)=false):=qh (decide_eq_false (by omega))
  go_wp2_with fail
  refine (hml _ (hE0.trans hC) _ _ _ hq).out.mono ?_;rintro e w1 ⟨a1,n1,c1,rfl,hE1,hx1⟩;have hR1:=hR0.ext hE1
  go_wp2_with (refine Aa (vs:=Ab false a1 n1 c1) rfl rfl rfl rfl rfl Ad hR1 rfl (Ai _ _ _ _) ?_; intro w9 hB9 hg9)
  exact bodyPost_ret (Al rfl Ad rfl hB9) rfl (Bt ((hE0.trans hC).trans hE1) hR1 (Aq _ _ _ _) hg9 (by omega) HS1 hx1)
end Go.Proofs.YtlpgonpfjbhmfaaGreatDoor
namespace Go.Proofs.YtlpgonpfjbhmfaaGreatDoor
open Go.Shelf
def RY:Go.Shelf.Ren:=⟨fun | 125=>127 | 128=>164 | 129=>165 | n=>n,fun | 46=>147 | 3=>3 | 51=>208 | 53=>143 | 4=>4 | 5=>5 | 9=>9 | n=>n,fun | n=>n⟩
theorem Wo:Go.Proofs.Lays.n125 Tryz.prog RY:={
 mixed:=by kernel_rfl
 f125:=Tryz.func127.trans (congrArg some (by kernel_rfl))
 f128:=Tryz.func164.trans (congrArg some (by kernel_rfl))
 f129:=Tryz.func165.trans (congrArg some (by kernel_rfl))
 t3:=Tryz.underlying3
 a3:=Tryz.isAgg3
 z3:=Tryz.sizeOf3
 v3:=Tryz.zeroValue3
 t4:=Tryz.underlying4
 a4:=Tryz.isAgg4
 z4:=Tryz.sizeOf4
 v4:=Tryz.zeroValue4
 t5:=Tryz.underlying5
 a5:=Tryz.isAgg5
 z5:=Tryz.sizeOf5
 v5:=Tryz.zeroValue5
 t9:=Tryz.underlying9
 a9:=Tryz.isAgg9
 z9:=Tryz.sizeOf9
 v9:=Tryz.zeroValue9
 t46:=Tryz.underlying147
 a46:=Tryz.isAgg147
 z46:=Tryz.sizeOf147
 v46:=Tryz.zeroValue147
 t51:=Tryz.underlying208
 a51:=Tryz.isAgg208
 z51:=Tryz.sizeOf208
 v51:=Tryz.zeroValue208
 t53:=Tryz.underlying143
 a53:=Tryz.isAgg143
 z53:=Tryz.sizeOf143
 v53:=Tryz.zeroValue143 }
end Go.Proofs.YtlpgonpfjbhmfaaGreatDoor
namespace Go.Proofs.YtlpgonpfjbhmfaaGreatDoor
open Tryz Go Go.RowKit
variable {z:Int} {xs ys:List Nat} {N base c m n p r x y:Nat} {a b:Option Addr} {qa qb:Option Nat} {v:Value} {w:World}
theorem VK (hx:x<18446744073709551616) (w:World):Calls prog 127 #[.int .u64 x] w fun e w'=>e = .returned (.int .i64 (Lib.bitLen x))∧w=w':=by
 have:=Any.bits_Len Wo (x:Int) w (by omega) (by omega);rw [Int.toNat_natCast] at this;exact this.mono fun _ _ h=>⟨h.1,h.2.symm⟩
theorem RZ (hy:y<18446744073709551616):Lib.bitLen y≤64∧y<2^Lib.bitLen y∧(0<y→0<Lib.bitLen y∧2^(Lib.bitLen y-1)≤y):=by
 rcases Nat.eq_zero_or_pos y with h0|h0
 · subst h0;exact ⟨by decide,by decide,by omega⟩
 · obtain ⟨h1,h2,h3⟩:=Lib.bitLenAux_bounds 64 y (by omega) (by omega);have h4:Lib.bitLenAux 64 y≤64:=Lib.bitLen_le y 64 (by omega) (by omega);exact ⟨h4,h3,fun _=>⟨h1,h2⟩⟩
theorem R2 {k:Nat}:x^(n/2^k)=(if n/2^k%2=1 then x^(n/2^(k+1))*x^(n/2^(k+1))*x else x^(n/2^(k+1))*x^(n/2^(k+1))):=by
 have h:n/2^(k+1)=n/2^k/2:=by rw [Nat.pow_succ,Nat.div_div_eq_div_mul]
 rw [h];generalize n/2^k=m;split
 · rename_i h1;rw [←Nat.pow_add,←Nat.pow_succ];congr 1;omega
 · rw [←Nat.pow_add];congr 1;omega
theorem JA (h:m≤n):x^m≤x^n+1:=by
 rcases Nat.eq_zero_or_pos x with h0|h0
 · subst h0;rcases Nat.eq_zero_or_pos m with h1|h1
   · subst h1; simp
   · rw [Nat.zero_pow h1]; exact Nat.zero_le _
 · have:=Nat.pow_le_pow_right h0 h;omega
theorem L6 {a:Nat} (h:1≤a):1<P2 a:=by
 obtain ⟨b,rfl⟩:∃ b,a=b+1:=⟨a-1,by omega⟩;have:=RS b;rw [BZ];show 1<P2 b*2;omega
theorem VL {a:Nat} (h:r*r<P2 (a+a)):r<P2 a:=by
 rw [BZ] at h;rcases Nat.lt_or_ge r (P2 a) with h1|h1
 · exact h1
 · have:=Nat.mul_le_mul h1 h1;omega
theorem JB {e:Nat} (hx:Wd w a n c x) (bx:x<P2 2496) (he:e<18446744073709551616) (hb:x^e<P2 4990):Calls prog 145 #[.slice a n c, .int .u64 e] w (KS w (x^e)):=by
 obtain ⟨l1,l2,_⟩:=RZ he;have hlen:=VK he
 have hb2:∀ k,x^(e/2^k)<P2 4991:=fun k=>by
  have:=JA (x:=x) (Nat.div_le_self e (2^k));exact Nat.lt_of_le_of_lt this (L3 hb (L6 (by omega)))
 have hsq:∀ k,x^(e/2^(k+1))<P2 2496:=fun k=>by
  apply VL;have h1:=hb2 k;have h2:e/2^(k+1)=e/2^k/2:=by rw [Nat.pow_succ,Nat.div_div_eq_div_mul]
  rw [h2,←Nat.pow_add];have h3:=JA (x:=x) (m:=e/2^k/2+e/2^k/2) (n:=e) (by have:=Nat.div_le_self e (2^k); omega);have h4:x^e+1<P2 (4990+1):=L3 hb (L6 (by omega));exact Ag (Nat.lt_of_le_of_lt h3 h4) (by omega)
 have HB2:=qh hb2;have HSQ:=qh hsq;have BX:=qh bx;have HL2:=qh l2;clear hb2 hsq bx hb l2;generalize Lib.bitLen e=L at *
 have hwL:IntKind.i64.wrap ((L:Int)-1)=(L:Int)-1:=IntWalk.i64_in _ (by omega)
 go_enter func145,ntmps145
 go_wp2_with fail
 refine (hlen _).mono ?_;rintro e2 w1 ⟨rfl,rfl⟩;go_wp2;refine Bq ?_;intro w1 hE1 hB1 hz1;have hw0:Wd w1 (some ⟨w.heap.size,0,none⟩) 1 1 1:=by
  have hA:BT .u64 w1 w.heap.size 143 [1]:=hB1;have h1:=hA.sl (n:=1) (c:=1) (by simp) (by omega) (by unfold maxLen; omega);exact ⟨[1],h1,fun y hy=>by simp at hy; omega,W.nrm_single (by omega),by simp [W.val]⟩
 have HE0:Hid (x^(e/2^L)=1):=by show _=_; rw [Nat.div_eq_of_lt HL2.out,Nat.pow_zero]
 clear hz1 hB1 hlen
 go_loopw [5,6] (fun rv iv wr=>∃ (k:Nat) (ra:Option Addr) (rn rc:Nat),rv = .slice ra rn rc∧iv = .int .i64 ((k:Int)-1)∧k≤L∧Ext w wr∧Wd wr ra rn rc (x^(e/2^k))) (fun _ iv _=>(intOf iv+1).toNat)
 case atStart=>exact ⟨L,_,1,1,rfl,rfl,lrf _,hE1,by rw [HE0.out]; exact hw0⟩
 case round =>
  clear hw0 HE0 hE1 hwL;obtain ⟨k,ra,rn,rc,rfl,rfl,hk,hE,hr⟩:=hrel;cases k with
  | zero =>
   go_wp2;go_ret;exact ⟨ra,rn,rc,rfl,hE,by rw [Nat.pow_zero,Nat.div_one] at hr; exact hr⟩
  | succ k =>
   have hw0:((k+1:Nat):Int)-1=(k:Int):=by omega
   rw [hw0];have hsm:=HSQ.out k;have hmul:=qh (RU hr hr (Ag hsm (by omega)) (Ag hsm (by omega)) (Or.inl hsm));have hps:=R2 (x:=x) (n:=e) (k:=k);have HPS:=qh hps;have hsqb:x^(e/2^(k+1))*x^(e/2^(k+1))<P2 9600:=Ag (B0 hsm hsm) (by omega);have HSB:=qh hsqb;have hsh:(e:Int)/2^k=((e/2^k:Nat):Int):=by push_cast; rfl
   have hdb:e/2^k<18446744073709551616:=Nat.lt_of_le_of_lt (Nat.div_le_self _ _) he;have hand:bits BinOp.and IntKind.u64 ((e/2^k:Nat):Int) 1=((e/2^k%2:Nat):Int):=by
    have:=bits_and_u64_nat (e/2^k) 1 hdb (by omega);rw [Nat.and_one_is_mod] at this;exact this
   clear hps hsqb hsm;obtain ⟨dk,hdk⟩:∃ dk,e/2^k=dk:=⟨_,rfl⟩;rw [hdk] at hand hsh HPS hdb;have HDK:=qh hdk;clear hdk
   go_wp2_with fail
   refine hmul.out.mono ?_;rintro e2 w2 ⟨qa,qn,qc,rfl,hE2,hq⟩;have hE3:=hE.trans hE2;by_cases hbit:dk%2=1
   · rw [hbit] at hand;have hmul2:=qh (RU hq (hx.ext hE3) HSB.out (Ag BX.out (by omega)) (Or.inr BX.out));have HP:Hid (x^dk=x^(e/2^(k+1))*x^(e/2^(k+1))*x):=by
      show _=_;have:=HPS.out;rw [if_pos hbit] at this;exact this
     clear hbit hmul HPS
     go_wp2_with fail
     refine hmul2.out.mono ?_;rintro e2 w3 ⟨pa,pn,pc,rfl,hE4,hp⟩;clear hmul2;go_wp2;go_roundw
     case rel=>exact ⟨k,pa,pn,pc,rfl,by go_num,by omega,hE3.trans hE4,by rw [HDK.out,HP.out]; exact hp⟩
     case measure=>simp [intOf]
   · have hb0:dk%2=0:=by omega
     rw [hb0] at hand;have HP:Hid (x^dk=x^(e/2^(k+1))*x^(e/2^(k+1))):=by
      show _=_;have:=HPS.out;rw [if_neg hbit] at this;exact this
     clear hb0 hbit hmul HPS;go_wp2;go_roundw
     case rel=>exact ⟨k,qa,qn,qc,rfl,by go_num,by omega,hE3,by rw [HDK.out,HP.out]; exact hq⟩
     case measure=>simp [intOf]
theorem U1 (w:World):Wd (w.alloc (.cells #[.int .u64 1] 143)) (some ⟨w.heap.size,0,none⟩) 1 1 1:=by
 refine ⟨[1],(Au w w.heap.size 143 #[.int .u64 1] 1 rfl (lrf _) (by omega)).sl,⟨fun x hx=>by simp at hx; omega,W.nrm_single (by omega),by simp [W.val]⟩⟩
theorem TL {x:Int} (hS:Ck w base p qa qb N z) (hx:Ax w v x) (sx:H3 (fun g=>qa≠some g∧qb≠some g) v) (bx:x.natAbs<P2 9600) (hN:N≤100000000) (hb:base≤w.heap.size) :
 Calls prog 100 #[.pointer (some ⟨p,0,none⟩),v] w (UG w base p qa qb N (z+x)):=by
 obtain ⟨s,a,n,c,rfl,HS,hx⟩:=hx
 go_enter func100,ntmps100
 go_upto_region 1 with (fail)
 refine Bq ?_;intro w0 hE0 hB0 hz0;have p0:=hB0.c 0 rfl;have p1:=hB0.c 1 rfl;have hE1:=(Ext.refl w0).alloc (.cells #[.int .u64 1] 143);have hE:=hE0.trans hE1;have hw1:=U1 w0;have hlt:=hS.lt;have hsz:=hE0.size
 have hap:=Jx (hS.ext hE) (v := .agg (Ab s a n c).toArray) ⟨s,a,n,c,rfl,HS,hx.ext hE⟩ (v' := .agg (Ab false (some ⟨w0.heap.size,0,none⟩) 1 1).toArray) (y:=1) ⟨false,_,1,1,rfl,qh rfl,hw1⟩ sx (I4 fun _ g hg=>by
  have:w0.heap.size=g:=by simpa [blk] using hg
  subst this;refine ⟨fun h => ?_,fun h => ?_⟩
  · have:=(hlt.2.1 _ h).2; omega
  · have:=(hlt.2.2 _ h).2; omega) bx (L6 (by omega)) (Or.inr (L6 (by omega))) hN (Nat.le_trans hb hE.size)
 have HAP:=qh hap;clear hap hw1 hB0 hz0
 go_wp2_with fail
 refine HAP.out.mono ?_;rintro e w3 ⟨rfl,qa',qb',h1,h2,h3,h4⟩;go_wp2
 go_end0
 rw [Int.mul_one] at h1;have hs:=hE.size;refine ⟨rfl,qa',qb',h1,(Kp.ofExt hE).trans h2 (fun _ _ h=>h), ?_, ?_⟩
 · rcases h3 with h|⟨g,h,hg⟩
   · exact Or.inl h
   · exact Or.inr ⟨g,h,by omega⟩
 · rcases h4 with h|⟨g,h,hg⟩
   · exact Or.inl h
   · exact Or.inr ⟨g,h,by omega⟩
theorem DM {d:Nat} (hx:SlN .u64 w a n c xs) (hy:SlN .u64 w b m d ys) (nx:Num 18446744073709551616 xs x) (ny:Num 18446744073709551616 ys y) (hn:n≤200000000) (hle:y≤x) (hb:∀ g,blk b=some g→g<w.heap.size) :
 Calls prog 147 #[.slice a n c, .slice b m d] w (Iv .u64 18446744073709551616 w (x-y)):=by
 have HX:=qh hx.len;have HY:=qh hy.len;have NX:=qh nx;have NY:=qh ny;have HLE:=qh hle;clear nx ny hle;have hmn:m≤n:=by
  refine Classical.byContradiction fun hc => ?_;have:=W.len_lt (B:=18446744073709551616) (by omega) NX.out.bnd NY.out.nrm (by rw [HX.out,HY.out]; omega);rw [NX.out.val,NY.out.val] at this;have:=HLE.out;omega
 go_enter func147,ntmps147
 go_upto_region 2 with (at_make; refine Eg (n:=n) rfl rfl underlying88 Ay rfl rfl rfl (by omega) (by unfold maxLen; omega) ?_; intro w1 hO1 hE1)
 have hA1:=(Az.of_zeros hO1).arr
 go_upto_region 3 with (refine Ka (sT:=88) rfl rfl underlying88 Ay rfl rfl hA1 (hx.ext hE1) (lrf _) (by simp) (Jk _) ?_; intro w2 hB2 hg2)
 have hA2:BT .u64 w2 w.heap.size 143 xs:=by
  have:=Le (w:=w2) (g:=w.heap.size) (N:=n) (xs:=xs) (t:=143) (by rw [HX.out]; exact hB2);rw [HX.out,Nat.sub_self] at this;simpa using this
 have hE2:Ext w w2:=hE1.grownR hg2 (lrf _);have hO2:Az .u64 w2 w.heap.size 143 w.heap.size n n xs:=by
  have:=BT.own hA2 (lrf _) (by rw [HX.out]; unfold maxLen; omega);rw [HX.out] at this;exact this
 have hne:blk b=none∨blk b≠some w.heap.size:=by
  cases hbb:blk b with
  | none=>exact Or.inl rfl
  | some g=>right; have:=hb g hbb; simp; omega
 clear hA1 hB2 hg2 hA2 hO1 hE1
 go_wp2_with fail
 refine (EA hO2 (hy.ext hE2) hne NX.out.bnd NY.out.bnd hmn (by rw [NX.out.val,NY.out.val]; exact HLE.out)).mono ?_;rintro e w3 ⟨rfl,hg,zs,hz,bz,hv⟩;rw [NX.out.val,NY.out.val] at hv;have hE3:=hE2.grownR hg (lrf _)
 go_wp2_with fail
 refine (Bl hz.sl).mono ?_;rintro e w4 ⟨q,rfl,rfl,hq,ht⟩;obtain ⟨t1,t2⟩:=BF hz.sl hq ht bz hv;go_wp2;go_ret;exact ⟨_,q,_,_,rfl,hE3,t1,t2⟩
theorem Lh (hx:SlN .u64 w a n c xs) :
 Calls prog 140 #[.slice a n c] w fun e w'=>e = .returned (.slice a (W.trim xs).length c)∧w'=w:=by
 refine (Bl hx).mono ?_;rintro e w' ⟨m,rfl,rfl,hm,ht⟩;refine ⟨?_,rfl⟩;rw [ht,List.length_take,hx.len,Nat.min_eq_left hm]
theorem Pz (hx:SlN .u64 w a n c xs):SlN .u64 w a (W.trim xs).length c (W.trim xs):=by
 obtain ⟨k,hk,e⟩:=W.trimTo_prefix (xs:=xs) (lrf xs.length);have e':W.trim xs=xs.take k:=e;have hkn:k≤n:=by rw [←hx.len]; exact hk
 have h:=hx.upto hkn;have hl:(W.trim xs).length=k:=by rw [e',List.length_take]; omega
 rw [hl,e'];exact h
theorem Qz (hS:Ck w base p qa qb N z) (hN:N≤100000000) :
 Calls prog 102 #[.pointer (some ⟨p,0,none⟩)] w (Ei w z):=by
 obtain ⟨pa,pn,pc,na,nn,nc,ps,ns,hA,hqa,hqb,hPo,hNo,bp,bn,hq1,hq2,hpN,hnN,hz,hpb⟩:=hS;have hp1:SlN .u64 w pa pn pc ps:=hPo.sl;have hn1:SlN .u64 w na nn nc ns:=hNo.sl;have hlp:∀ g,blk pa=some g→g<w.heap.size:=fun g hg=>(hPo.lt hg).2;have hln:∀ g,blk na=some g→g<w.heap.size:=fun g hg=>(hNo.lt hg).2;have np:Num 18446744073709551616 (W.trim ps) (W.val 18446744073709551616 ps):=Num.trim bp rfl;have nn':Num 18446744073709551616 (W.trim ns) (W.val 18446744073709551616 ns):=Num.trim bn rfl;have hpl:(W.trim ps).length≤pn:=by
  obtain ⟨k,hk,e⟩:=W.trimTo_prefix (xs:=ps) (lrf ps.length);have e':W.trim ps=ps.take k:=e;rw [e',List.length_take,hp1.len]; omega
 have hnl:(W.trim ns).length≤nn:=by
  obtain ⟨k,hk,e⟩:=W.trimTo_prefix (xs:=ns) (lrf ns.length);have e':W.trim ns=ns.take k:=e;rw [e',List.length_take,hn1.len]; omega
 have hp2:=Pz hp1;have hn2:=Pz hn1;have HTP:=fun (wx:World) (hC:Ext w wx)=>qh (Lh (hp1.ext hC));have HTN:=fun (wx:World) (hC:Ext w wx)=>qh (Lh (hn1.ext hC));generalize W.val 18446744073709551616 ps=P at *
 generalize W.val 18446744073709551616 ns=Nv at *
 have HNP:=qh np;have HNN:=qh nn';generalize W.trim ps=tp at *
 generalize W.trim ns=tn at *
 generalize htpl:tp.length=lp at *
 generalize htnl:tn.length=ln at *
 have HZ:=qh hz;clear np nn' hz bp bn hq1 hq2 hqa hqb htpl htnl
 go_enter func102,ntmps102
 go_upto_region 1 with (fail)
 refine Bq ?_;intro w0 hE0 hB0 hz0;have u0:w0.cell? ⟨p,0,none⟩=some (.slice pa pn pc):=(hA.ext hE0).cell (i:=0) (by simp [Jw]);have u1:w0.cell? ⟨p,1,none⟩=some (.slice na nn nc):=(hA.ext hE0).cell (i:=1) (by simp [Jw]);have hR:Arr w0 w.heap.size 90 (Ab false none 0 0):=hB0;clear hB0 hz0 hA;have HF1:=fun (wx:World) (hC:Ext w0 wx)=>qh (And.intro (hC.cell u0) (hC.cell u1))
 refine AM (by kernel_rfl) (fun wx=>Ext w0 wx)
  [he (.pointer (some ⟨p,0,none⟩)),
 he (.pointer (some ⟨p,0,none⟩)),
 he (.pointer (some ⟨p,0,none⟩)),
 he (.slice pa pn pc),
 hp (fun v wx=>v = .slice pa lp pc),
 he (.pointer (some ⟨p,0,none⟩)),
 he (.pointer (some ⟨p,0,none⟩)),
 he (.pointer (some ⟨p,1,none⟩)),
 he (.slice na nn nc),
 hp (fun v wx=>v = .slice na ln nc),
 hp (fun v wx=>v = .slice pa lp pc),
 hp (fun v wx=>v = .slice na ln nc)]
  (by kernel_rfl) (fun _ _ e h=>h.trans e) ((Ext.refl w0).drew) ⟨trivial,trivial,trivial,trivial,fun _ _ _ _ h=>h,trivial,trivial,trivial,trivial,fun _ _ _ _ h=>h,fun _ _ _ _ h=>h,fun _ _ _ _ h=>h,trivial⟩ ⟨?o0, ?o1, ?o2, ?o3, ?o4, ?o5, ?o6, ?o7, ?o8, ?o9, ?o10, ?o11,trivial⟩ ?fin
 case o0=>exact omv rfl rfl (fun _ _=>id)
 case o1=>exact onc rfl rfl (fun _ _=>id)
 case o2=>exact ofa (d:=0) rfl rfl (fun _ _=>id) (by kernel_rfl) rfl
 case o3=>exact ol rfl rfl (fun _ _=>id) (by kernel_rfl) (by assumption)
 case o4 =>
  refine Aj rfl fun ρ wx hC hcst hfn h => ?_;have e1:ρ (.tmp 8)=(.slice pa pn pc):=h.2.1;obtain ⟨k0,k1⟩:=(HF1 wx hC).out;refine ⟨140,#[.slice pa pn pc],by go_simp,((HTP wx (hE0.trans hC)).out).mono ?_⟩;rintro e w' ⟨rfl,rfl⟩;exact ⟨_,rfl,Ext.refl _,rfl⟩
 case o5=>exact omv rfl rfl (fun _ _=>id)
 case o6=>exact onc rfl rfl (fun _ _=>id)
 case o7=>exact ofa (d:=1) rfl rfl (fun _ _=>id) (by kernel_rfl) rfl
 case o8=>exact ol rfl rfl (fun _ _=>id) (by kernel_rfl) (by assumption)
 case o9 =>
  refine Aj rfl fun ρ wx hC hcst hfn h => ?_;have e1:ρ (.tmp 13)=(.slice na nn nc):=h.2.1;obtain ⟨k0,k1⟩:=(HF1 wx hC).out;refine ⟨140,#[.slice na nn nc],by go_simp,((HTN wx (hE0.trans hC)).out).mono ?_⟩;rintro e w' ⟨rfl,rfl⟩;exact ⟨_,rfl,Ext.refl _,rfl⟩
 case o10 =>
  refine Bc rfl ?_;intro ρ wx hp hC h;have hcst:=hp.const;have hfn:=hp.func;obtain ⟨v0,e0,rfl⟩:=h.1;obtain ⟨k0,k1⟩:=(HF1 wx hC).out;exact ⟨_,wx,by go_simp,Ext.refl _,rfl⟩
 case o11 =>
  refine Bc rfl ?_;intro ρ wx hp hC h;have hcst:=hp.const;have hfn:=hp.func;obtain ⟨v0,e0,rfl⟩:=h.1;obtain ⟨k0,k1⟩:=(HF1 wx hC).out;exact ⟨_,wx,by go_simp,Ext.refl _,rfl⟩
 case fin =>
  intro wx hC;rintro _ rfl;rintro _ rfl;rintro _ rfl;rintro _ rfl;change wpList _ _ _ _ _ _;simp only [List.length_cons,List.length_nil,List.drop_succ_cons,List.drop_zero,Act.put,List.setIfInBounds_toArray,List.set_cons_succ,List.set_cons_zero];have hEq:=hE0.trans hC;have hRq:=hR.ext hC;clear HTP HTN u0 u1 hE0 hR hp1 hn1 hC;obtain ⟨w1,rfl⟩:∃ x:World,x=wx:=⟨_,rfl⟩;have hcm:=Bi (hp2.ext hEq) (hn2.ext hEq) HNP.out HNN.out
  go_wp2_with fail
  refine hcm.mono ?_;rintro e w2 ⟨rfl,hQ⟩;have hE2:=hEq.trans hQ.ext;have hR2:=hRq.ext hQ.ext;clear hcm;by_cases hle:Nv≤P
  · have hc0:0≤Ba (P:Int) (Nv:Int):=D2.2 hle;have HCD:=qh (DM (hp2.ext hE2) (hn2.ext hE2) HNP.out HNN.out (by omega) hle (fun g hg=>Nat.lt_of_lt_of_le (hln g hg) hE2.size));have HZP:Hid (z=if (false=true) then -((P-Nv:Nat):Int) else ((P-Nv:Nat):Int)):=qh (by rw [HZ.out]; simp; omega);generalize Ba (P:Int) (Nv:Int)=cv at *
    go_wp2_with fail
    refine HCD.out.mono ?_;intro e w3 hr;obtain ⟨a3,n3,c3,rfl,hE3,hx3⟩:=hr.wd
    go_wp2_with fail
    refine (BM hx3 HZP.out).mono ?_;rintro e w4 ⟨s4,a4,n4,c4,rfl,hE4,HS4,hx4⟩;have hl4:(Ab s4 a4 n4 c4).toArray=#[.bool s4, .slice a4 n4 c4]:=rfl;have hR4:=(hR2.ext hE3).ext hE4
    go_wp2_with (refine Aa (vs:=Ab s4 a4 n4 c4) rfl rfl rfl rfl rfl Ad hR4 rfl (Ai _ _ _ _) ?_; intro w9 hB9 hg9)
    exact bodyPost_ret (Al rfl Ad rfl hB9) rfl (Bt ((hE2.trans hE3).trans hE4) hR4 (Aq _ _ _ _) hg9 (lrf _) HS4 hx4)
  · have hc0:¬ 0≤Ba (P:Int) (Nv:Int):=fun h=>hle (D2.1 h);have HCD:=qh (DM (hn2.ext hE2) (hp2.ext hE2) HNN.out HNP.out (by omega) (by omega) (fun g hg=>Nat.lt_of_lt_of_le (hlp g hg) hE2.size));have HZP:Hid (z=if (true=true) then -((Nv-P:Nat):Int) else ((Nv-P:Nat):Int)):=qh (by rw [HZ.out]; simp; omega);generalize Ba (P:Int) (Nv:Int)=cv at *
    go_wp2_with fail
    refine HCD.out.mono ?_;intro e w3 hr;obtain ⟨a3,n3,c3,rfl,hE3,hx3⟩:=hr.wd
    go_wp2_with fail
    refine (BM hx3 HZP.out).mono ?_;rintro e w4 ⟨s4,a4,n4,c4,rfl,hE4,HS4,hx4⟩;have hl4:(Ab s4 a4 n4 c4).toArray=#[.bool s4, .slice a4 n4 c4]:=rfl;have hR4:=(hR2.ext hE3).ext hE4
    go_wp2_with (refine Aa (vs:=Ab s4 a4 n4 c4) rfl rfl rfl rfl rfl Ad hR4 rfl (Ai _ _ _ _) ?_; intro w9 hB9 hg9)
    exact bodyPost_ret (Al rfl Ad rfl hB9) rfl (Bt ((hE2.trans hE3).trans hE4) hR4 (Aq _ _ _ _) hg9 (lrf _) HS4 hx4)
end Go.Proofs.YtlpgonpfjbhmfaaGreatDoor
