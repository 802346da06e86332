/- Part Rin35. -/
import Derived.Test.YtbiifaciddajnaaGreatDoorRin34
import Derived.Test.YtbiifaciddajnaaGreatDoorRin31
import Derived.Test.YtbiifaciddajnaaGreatDoorRin24
import Derived.Test.YtbiifaciddajnaaGreatDoorRin29
set_option maxRecDepth 100000
set_option maxHeartbeats 100000000
namespace Go.Proofs.YtbiifaciddajnaaGreatDoor
open Go Go.RowKit
def NLL (ls:List (List Pl.Tm)) (v:Value) (w:World):Prop:=∃ a n c,v = .slice a n c∧n≤1000∧EntLL w a n c ls
theorem NLL.x (ls:List (List Pl.Tm)):StX (NLL ls):=fun _ _ _ x ⟨a,n,c,h1,h2,h3⟩=>⟨a,n,c,h1,h2,h3.ext x⟩
theorem entLL_two {w:World} {a b:Option Addr} {n c m d:Nat} {la lb:List Pl.Tm} (ha:EntSl w a n c la) (hb:EntSl w b m d lb):EntLL (w.alloc (.cells #[.slice a n c, .slice b m d] 76)) (some ⟨w.heap.size,0,none⟩) 2 2 [la,lb]:=by
 have hE:=(Ext.refl w).alloc (.cells #[.slice a n c, .slice b m d] 76)
 refine ⟨[.slice a n c, .slice b m d],(own_alloc w w.heap.size 76 #[.slice a n c, .slice b m d] 2 rfl (Nat.le_refl _) (by omega)).sl,rfl,fun i hi => ?_⟩
 have h01:i=0∨i=1:=by omega
 rcases h01 with rfl|rfl
 · exact ⟨_,n,c,rfl,ha.ext hE⟩
 · exact ⟨_,m,d,rfl,hb.ext hE⟩
def RetAdd (w:World) (va vb:Int) (oa ob:Option (List Pl.Tm)) (e:Ending) (w':World):Prop :=
 (∃ la lb,oa=some la∧ob=some lb∧va=vb∧RetA3 w (resQ va (la ++ lb)) e w') ∨
 ((oa.isSome && ob.isSome)=true∧va≠vb∧RetP w 0 [] 4 e w')∨((oa.isSome && ob.isSome)=false∧RetP w 0 [] 1 e w')
theorem poly_Add {va vb:Int} {a b:Option Addr} {n c m d:Nat} {ta tb:List Tx} {w:World} (hT:Tabs w) (ha:TmSl w a n c ta) (hb:TmSl w b m d tb) (sa:∀ t∈ta,t.1.length≤570) (sb:∀ t∈tb,t.1.length≤570)
 (hok:∀ la lb,rdP va ta=some la→rdP vb tb=some lb→va=vb→SumOK (la ++ lb)) :
 Calls Tryz.prog 18 #[.agg #[.int .i64 va, .slice a n c], .agg #[.int .i64 vb, .slice b m d]] w (RetAdd w va vb (rdP va ta) (rdP vb tb)):=by
 have hr2:=fun (wx:World) (hC:Ext w wx)=>qh (poly_readTwo (va:=va) (vb:=vb) (hT.ext hC) (ha.ext hC) (hb.ext hC) sa sb)
 have hvr:∀ la,rdP va ta=some la→0≤va∧va≤6:=fun la h=>rdP_vars h
 obtain ⟨oa,hoa⟩:∃ o,rdP va ta=o:=⟨_,rfl⟩
 obtain ⟨ob,hob⟩:∃ o,rdP vb tb=o:=⟨_,rfl⟩
 rw [hoa] at hr2 hok hvr ⊢
 rw [hob] at hr2 hok ⊢
 have HOK:=qh hok
 clear hoa hob sa sb ha hb hok
 go_enter Tryz.func18,Tryz.ntmps18
 go_upto_region 1 with (fail)
 refine box3 ?_
 intro w0 hE0 hB0 hB1 hB2 hz0
 have p00:=hB0.c 0 rfl
 have p01:=hB0.c 1 rfl
 have p10:=hB1.c 0 rfl
 have p11:=hB1.c 1 rfl
 have hR:Arr w0 (w.heap.size+2) 24 (polyL 0 none 0 0):=hB2
 have hpz:(polyL 0 none 0 0).toArray=#[.int .i64 0, .slice none 0 0]:=rfl
 clear hB0 hB1 hB2 hz0
 go_wp2_with fail
 refine (hr2 _ hE0).out.mono ?_
 rintro e w1 ⟨a1,n1,c1,b1,m1,d1,err,rfl,hE1,hcase⟩
 have hEw:=hE0.trans hE1
 have hR1:=hR.ext hE1
 have p00:=hE1.cell p00
 have hsz:=hE0.size
 clear hr2 p01 p10 p11
 rcases hcase with ⟨la,lb,rfl,rfl,hv,rfl,hLa,hLb⟩|⟨hs,hv,rfl⟩|⟨hs,rfl⟩
 · have HM:=qh (HOK.out la lb rfl rfl hv)
   have hva:=hvr la rfl
   clear HOK hvr
   obtain ⟨vn,rfl⟩:∃ k:Nat,va=(k:Int):=⟨va.toNat,by omega⟩
   have HV:=qh hv
   clear hv
   have hfl:[la,lb].flatten=la ++ lb:=by simp
   have hcol:=fun (wx:World) (h:Ext w1 wx) (a':Option Addr) (n' c':Nat) (hn':n'≤1000) (hl:EntLL wx a' n' c' [la,lb])=>qh (poly_collect ((hT.ext hEw).ext h) hl hn' (by rw [hfl]; exact HM.out.fits.len) (by rw [hfl]; exact HM.out.pre) (by rw [hfl]; exact HM.out.each))
   rw [hfl] at hcol
   have HFT:Hid (FitsP (la ++ lb)):=qh HM.out.fits
   clear hfl
   go_wp2
   obtain ⟨rr,HRR⟩:∃ r,Hid (resQ (vn:Int) (la ++ lb)=r):=⟨_,qh rfl⟩
   refine wp_region_typed2 (by kernel_rfl) (fun wx=>Ext w1 wx)
    [he (.pointer (some ⟨w.heap.size,0,none⟩)),
 he (.int .i64 (vn:Int)),
 he (.slice a1 n1 c1),
 he (.slice b1 m1 d1),
 hu 5 (fun v wx=>NLL [la,lb] v wx),
 hu 6 (fun v wx=>NOut w1 (la ++ lb) v wx),
 hmp (fun v wx=>NPE w1 rr v wx),
 hp (fun v wx=>NPo w1 rr v wx),
 he (.int .i64 rr.2.2)]
    (by kernel_rfl) (fun _ _ e h=>h.trans e) ((Ext.refl w1).drew) ⟨trivial,trivial,trivial,trivial,NLL.x _,NOut.x _ _,NPE.x _ _,NPo.x _ _,trivial,trivial⟩ ⟨?o0, ?o1, ?o2, ?o3, ?o4, ?o5, ?o6, ?o7, ?o8,trivial⟩ ?fin
   case o0=>exact ofa (d:=0) rfl rfl (fun _ _=>id) (by kernel_rfl) rfl
   case o1=>exact ol rfl rfl (fun _ _=>id) (by kernel_rfl) (by assumption)
   case o2=>exact omv rfl rfl (fun _ _=>id)
   case o3=>exact omv rfl rfl (fun _ _=>id)
   case o4 =>
    refine obl_ext rfl ?_
    intro ρ wx hp hC h
    have hcst:=hp.const
    have e0:ρ (.tmp 22)=(.slice a1 n1 c1):=h.1
    have e1:ρ (.tmp 23)=(.slice b1 m1 d1):=h.2.1
    refine ⟨.slice (some ⟨wx.heap.size,0,none⟩) 2 2,wx.alloc (.cells #[.slice a1 n1 c1, .slice b1 m1 d1] 76),by go_simp,(Ext.refl _).alloc _,some ⟨wx.heap.size,0,none⟩,2,2,rfl,by omega,entLL_two (hLa.ext hC) (hLb.ext hC)⟩
   case o5 =>
    refine obl_cq rfl fun ρ wx hC hcst hfn h => ?_
    obtain ⟨v1,e1,a1',n1',c1',rfl,f1',g1'⟩:=h.2.1
    refine ⟨69,#[.slice a1' n1' c1'],by go_simp,((hcol wx hC a1' n1' c1' f1' g1').out).mono ?_⟩
    rintro e w' ⟨out,⟨a7,n7,c7,rfl,hE7,hO7⟩,h1,h2⟩
    exact ⟨_,rfl,hE7,a7,n7,c7,out,rfl,hO7.mono hC.size,h1,h2⟩
   case o6 =>
    refine obl_callM rfl ?_
    intro ρ wx hp hC h
    have hcst:=hp.const
    have hfn:=hp.func
    have e0:ρ (.tmp 21)=(.int .i64 (vn:Int)):=h.2.1
    obtain ⟨v1,e1,a1',n1',c1',o1',rfl,f1',g1',h1'⟩:=h.2.2.1
    have hfo:=HFT.out.out g1' h1'
    have hlo:=f1'.len
    refine ⟨67,#[.int .i64 (vn:Int), .slice a1' n1' c1'],by go_simp,(poly_write (vars:=vn) (w0:=w1) (hT.ext hEw) hC f1' (by omega) hfo.1 hfo.2.1 (by omega)).mono ?_⟩
    intro e w' hw
    have hq:=RetWr.q hw g1' h1'
    rw [HRR.out] at hq
    obtain ⟨a7,n7,c7,rfl,hE7,hO7⟩:=hq
    exact ⟨_,rfl,hE7,⟨trivial,trivial,trivial,trivial,trivial,trivial,trivial,trivial,trivial,trivial⟩,a7,n7,c7,rfl,hO7⟩
   case o7 =>
    refine obl_ext rfl ?_
    intro ρ wx hp hC h
    obtain ⟨v0,e0,a0',n0',c0',rfl,f0'⟩:=h.1
    exact ⟨polyV rr.1 a0' n0' c0',wx,by go_simp,Ext.refl _,a0',n0',c0',rfl,f0'⟩
   case o8 =>
    refine obl_pure rfl ?_
    intro ρ wx hp hC h
    obtain ⟨v0,e0,a0',n0',c0',rfl,f0'⟩:=h.1
    go_simp
   case fin =>
    intro wx hC
    rintro _
    rintro _
    rintro _ h42
    rintro _ h43
    change wpList _ _ _ _ _ _
    simp only [List.length_cons,List.length_nil,List.drop_succ_cons,List.drop_zero,Act.put,List.setIfInBounds_toArray,List.set_cons_succ,List.set_cons_zero]
    obtain ⟨a7,n7,c7,rfl,hO7⟩:=h43
    clear h42
    have hEx:=hEw.trans hC
    have hRx:=hR1.ext hC
    have hpv:polyV rr.1 a7 n7 c7 = .agg #[.int .i64 rr.1, .slice a7 n7 c7]:=rfl
    rw [hpv]
    have hpl:(polyL rr.1 a7 n7 c7).toArray=#[.int .i64 rr.1, .slice a7 n7 c7]:=rfl
    go_wp2_with (refine wl_stArr (vs:=polyL rr.1 a7 n7 c7) rfl rfl rfl rfl rfl agg_Poly hRx rfl (polyL_one _ _ _ _) ?_; intro w8 hB8 hg8)
    refine bodyPost_ret (res_ct rfl agg_Poly rfl rfl hB8) rfl ?_
    exact Or.inl ⟨la,lb,rfl,rfl,HV.out,by rw [HRR.out]; exact ⟨a7,n7,c7,rfl,hEx.grownR hg8 (by omega),(hO7.mono hEw.size).keptA hRx hg8⟩⟩
 · have herr:((4:Int) != 0)=true:=by decide
   go_wp2_with (refine wl_stArr (vs:=polyL 0 none 0 0) rfl rfl rfl rfl rfl agg_Poly hR1 rfl (polyL_one _ _ _ _) ?_; intro w9 hB9 hg9)
   refine bodyPost_ret (res_ct rfl agg_Poly rfl rfl hB9) rfl ?_
   exact Or.inr (Or.inl ⟨hs,hv,none,0,0,rfl,hEw.grownR hg9 (by omega),TmO.nil _ _⟩)
 · have herr:((1:Int) != 0)=true:=by decide
   go_wp2_with (refine wl_stArr (vs:=polyL 0 none 0 0) rfl rfl rfl rfl rfl agg_Poly hR1 rfl (polyL_one _ _ _ _) ?_; intro w9 hB9 hg9)
   refine bodyPost_ret (res_ct rfl agg_Poly rfl rfl hB9) rfl ?_
   exact Or.inr (Or.inr ⟨hs,none,0,0,rfl,hEw.grownR hg9 (by omega),TmO.nil _ _⟩)
end Go.Proofs.YtbiifaciddajnaaGreatDoor
namespace Go.Proofs.YtbiifaciddajnaaGreatDoor.Pl
theorem coef_row (s:List Int) (c:Rat) (e:List Int):∀ b:List Tm,coef (b.map (fun t=>(plE s t.1,c*t.2))) e=c*lin (fun m=>if plE s m=e then 1 else 0) b
 | []=>by simp [coef,lin]
 | t :: r=>by
  rw [List.map_cons]
  unfold coef lin
  rw [coef_row s c e r,Rat.mul_add]
  by_cases h:plE s t.1=e
  · simp [h]
  · simp [h]
theorem coef_prod (a b:List Tm) (e:List Int):coef (prodT a b) e=lin (fun s=>lin (fun m=>if plE s m=e then 1 else 0) b) a:=by
 induction a with
 | nil=>rfl
 | cons s r ih =>
  have h:prodT (s :: r) b=b.map (fun t=>(plE s.1 t.1,s.2*t.2)) ++ prodT r b:=by simp [prodT]
  rw [h,coef_app,coef_row,ih]
  rfl
theorem coef_prod_ext {a a' b b':List Tm} (ha:∀ e,coef a e=coef a' e) (hb:∀ e,coef b e=coef b' e) (e:List Int):coef (prodT a b) e=coef (prodT a' b') e:=by
 rw [coef_prod,coef_prod,lin_ext ha]
 congr 1
 funext s
 exact lin_ext hb
theorem lin_congr {F G:List Int→Rat}:∀ {l:List Tm},(∀ t∈l,F t.1=G t.1)→lin F l=lin G l
 | [],_=>rfl
 | t :: r,h=>by
  unfold lin
  rw [h t (by simp),lin_congr (l:=r) (fun s hs=>h s (by simp [hs]))]
theorem lin_zer {F:List Int→Rat}:∀ {l:List Tm},(∀ t∈l,F t.1=0)→lin F l=0
 | [],_=>rfl
 | t :: r,h=>by
  unfold lin
  rw [h t (by simp),lin_zer (l:=r) (fun s hs=>h s (by simp [hs])),Rat.mul_zero]
  exact Rat.zero_add _
theorem lin_add (F G:List Int→Rat):∀ l:List Tm,lin (fun m=>F m+G m) l=lin F l+lin G l
 | []=>by simp [lin]; grind
 | t :: r=>by unfold lin; rw [lin_add F G r]; grind
theorem lin_mul (c:Rat) (F:List Int→Rat):∀ l:List Tm,lin (fun m=>c*F m) l=c*lin F l
 | []=>by simp [lin]
 | t :: r=>by unfold lin; rw [lin_mul c F r]; grind
theorem lin_row (F:List Int→Rat) (s:List Int) (c:Rat):∀ b:List Tm,lin F (b.map (fun t=>(plE s t.1,c*t.2)))=c*lin (fun m=>F (plE s m)) b
 | []=>by simp [lin]
 | t :: r=>by
  rw [List.map_cons]
  unfold lin
  rw [lin_row F s c r]
  grind
theorem lin_prod (F:List Int→Rat) (a b:List Tm):lin F (prodT a b)=lin (fun s=>lin (fun m=>F (plE s m)) b) a:=by
 induction a with
 | nil=>rfl
 | cons s r ih =>
  have h:prodT (s :: r) b=b.map (fun t=>(plE s.1 t.1,s.2*t.2)) ++ prodT r b:=by simp [prodT]
  rw [h,lin_app,lin_row,ih]
  rfl
theorem plE_comm (a b:List Int):plE a b=plE b a:=by
 unfold plE
 rw [List.zipWith_comm]
 congr 1
 funext x y
 exact Int.add_comm _ _
end Go.Proofs.YtbiifaciddajnaaGreatDoor.Pl
namespace Go.Proofs.YtbiifaciddajnaaGreatDoor
open Go Go.RowKit
namespace Pl
def powT (l:List Tm):Nat→List Tm
 | 0=>constL 1
 | k+1=>prodT (powT l k) l
end Pl
structure PowOK (l:List Pl.Tm) (k:Nat):Prop where
 step:∀ i,i<k→∀ out,Pl.Nrm out→(∀ e,Pl.coef out e=Pl.coef (Pl.powT l i) e)→MulOK out l
 fits:FitsP (Pl.powT l k)
end Go.Proofs.YtbiifaciddajnaaGreatDoor
namespace Go.Proofs.YtbiifaciddajnaaGreatDoor
open Go Go.RowKit
theorem TmSl.nil (w:World):TmSl w none 0 0 []:=⟨[],SlK.nil w 2,rfl,fun i hi=>absurd hi (by omega)⟩
theorem txt_den {q:Rat} {k:Nat} (h:(txt q).length≤k+2) (h1:1≤k):q.den<P2 (4*k):=by
 have e:(16:Nat)^k=P2 (4*k):=by unfold P2; rw [Nat.pow_mul]
 have e2:10^k≤16^k:=Nat.pow_le_pow_left (by omega) _
 rw [←e]
 by_cases hd:q.den=1
 · rw [hd]
   exact Nat.one_lt_pow (by omega) (by omega)
 · have h3:=dec_bnd q.den
   have h4:(Lib.decDigits q.den).length≤k:=by
    unfold txt at h
    rw [if_neg hd] at h
    have h5:0<(Lib.itoa q.num).length:=by
     unfold Lib.itoa
     split
     · simp
     · exact List.length_pos_iff.2 (W.dec_ne _)
    simp at h
    omega
   exact Nat.lt_of_lt_of_le h3 (Nat.le_trans (Nat.pow_le_pow_right (by omega) h4) e2)
theorem degL_le {B:Int} (hB : -1≤B):∀ {l:List Pl.Tm},(∀ t∈l,t.1.sum≤B)→degL l≤B:=by
 have key:∀ (l:List Pl.Tm) (m:Int),m≤B→(∀ t∈l,t.1.sum≤B)→l.foldl (fun m t=>max m t.1.sum) m≤B:=by
  intro l
  induction l with
  | nil=>intro m h _; exact h
  | cons t r ih =>
   intro m h1 h2
   rw [List.foldl_cons]
   have:=h2 t (by simp)
   exact ih _ (by omega) (fun s hs=>h2 s (by simp [hs]))
 intro l h
 exact key l (-1) hB h
theorem rdP_deg {va:Int} {ts:List Tx} {l:List Pl.Tm} (h:rdP va ts=some l):degL l≤24:=by
 refine degL_le (by omega) ?_
 have hc:=rdP_canon h
 have hk:=rdP_okW h
 cases l with
 | nil=>simp
 | cons t r =>
  intro s hs
  have h1:=canon_sum hc s hs
  have h2:=(validS_iff.1 (hk.2 t r rfl)).2.2
  omega
section
variable {va:Int} {ts:List Tx} {l:List Pl.Tm}
theorem small570 {nt d:Nat} (hs:smallP ts nt d) (hd:d≤570):∀ t∈ts,t.1.length≤570:=fun t ht=>Nat.le_trans (hs.2 t ht).1 hd
end
end Go.Proofs.YtbiifaciddajnaaGreatDoor
namespace Go.Proofs.YtbiifaciddajnaaGreatDoor
open Go Go.RowKit
namespace Pl
theorem plE_len {a b:List Int} (h:a.length=b.length):(plE a b).length=a.length:=by
 unfold plE
 rw [List.length_zipWith,h,Nat.min_self]
theorem plE_sum:∀ {a b:List Int},a.length=b.length→(plE a b).sum=a.sum+b.sum
 | [],[],_=>rfl
 | x :: a,y :: b,h=>by
  have:=plE_sum (a:=a) (b:=b) (by simpa using h)
  unfold plE at this ⊢
  simp only [List.zipWith_cons_cons,List.sum_cons,this]
  omega
end Pl
theorem le_degL {l:List Pl.Tm} {t:Pl.Tm} (h:t∈l):t.1.sum≤degL l:=by
 have key:∀ (l:List Pl.Tm) (m:Int),m≤l.foldl (fun m t=>max m t.1.sum) m∧∀ t∈l,t.1.sum≤l.foldl (fun m t=>max m t.1.sum) m:=by
  intro l
  induction l with
  | nil=>intro m; exact ⟨by simp,by simp⟩
  | cons t r ih =>
   intro m
   rw [List.foldl_cons]
   have h1:=ih (max m t.1.sum)
   refine ⟨by omega,fun s hs => ?_⟩
   rcases List.mem_cons.1 hs with rfl|hs
   · omega
   · exact h1.2 s hs
 exact (key l (-1)).2 t h
theorem degL_head {t:Pl.Tm} {r:List Pl.Tm} (h:Pl.Canon 6 (t :: r)) (h0 : -1≤t.1.sum):degL (t :: r)=t.1.sum :=
 Int.le_antisymm (degL_le h0 (canon_sum h)) (le_degL (by simp))
end Go.Proofs.YtbiifaciddajnaaGreatDoor
namespace Go.Proofs.YtbiifaciddajnaaGreatDoor
open Go Go.RowKit
namespace Pl
def QB (D Y:Nat) (q:Rat):Prop:=∃ z:Int,q*(D:Rat)=(z:Rat)∧z.natAbs≤Y
theorem QB.zero (D Y:Nat):QB D Y 0:=⟨0,by rw [Rat.zero_mul]; rfl,by simp⟩
theorem QB.add {D Y Z:Nat} {p q:Rat} (hp:QB D Y p) (hq:QB D Z q):QB D (Y+Z) (p+q):=by
 obtain ⟨x,h1,h2⟩:=hp
 obtain ⟨y,h3,h4⟩:=hq
 refine ⟨x+y,by rw [Rat.add_mul,h1,h3,Rat.intCast_add], ?_⟩
 have:=Int.natAbs_add_le x y
 omega
theorem QB.mul {D E Y Z:Nat} {p q:Rat} (hp:QB D Y p) (hq:QB E Z q):QB (D*E) (Y*Z) (p*q):=by
 obtain ⟨x,h1,h2⟩:=hp
 obtain ⟨y,h3,h4⟩:=hq
 refine ⟨x*y, ?_,by rw [Int.natAbs_mul]; exact Nat.mul_le_mul h2 h4⟩
 rw [Rat.natCast_mul,Rat.intCast_mul,←h1,←h3]
 grind
theorem QB.neg {D Y:Nat} {q:Rat} (h:QB D Y q):QB D Y (-q):=by
 obtain ⟨x,h1,h2⟩:=h
 exact ⟨-x,by rw [Rat.neg_mul,h1,Rat.intCast_neg],by rw [Int.natAbs_neg]; exact h2⟩
theorem QB.mono {D Y Z:Nat} {q:Rat} (h:QB D Y q) (hz:Y≤Z):QB D Z q:=by
 obtain ⟨x,h1,h2⟩:=h
 exact ⟨x,h1,by omega⟩
theorem QB.scale {D Y:Nat} {q:Rat} (h:QB D Y q) (k:Nat):QB (D*k) (Y*k) q:=by
 obtain ⟨x,h1,h2⟩:=h
 refine ⟨x*k, ?_,by rw [Int.natAbs_mul]; exact Nat.mul_le_mul h2 (Nat.le_refl _)⟩
 rw [Rat.natCast_mul,Rat.intCast_mul,←h1,←Rat.mul_assoc]
 rfl
theorem QB.parts {D Y:Nat} {q:Rat} (h:QB D Y q) (hD:0<D):q.num.natAbs≤Y∧q.den∣D:=by
 obtain ⟨z,h1,h2⟩:=h
 have h0:(D:Rat)≠0:=fun h=>by have:=Rat.natCast_eq_zero_iff.1 h; omega
 have e:q=mkRat z D:=by
  rw [mkRat_div,←h1,Rat.mul_assoc,Rat.mul_inv_cancel _ h0,Rat.mul_one]
 obtain ⟨g1,g2⟩:=rat_frac (n:=z) (d:=D) (by omega)
 rw [e]
 refine ⟨Nat.le_trans (mkRat_le (by omega)).1 h2, ?_⟩
 rw [g2]
 exact Nat.div_dvd_of_dvd (Nat.gcd_dvd_right _ _)
theorem QB.rb {D Y b:Nat} {q:Rat} (h:QB D Y q) (hD:0<D) (h1:D<P2 b) (h2:Y<P2 b):RB b q :=
 ⟨Nat.lt_of_le_of_lt (h.parts hD).1 h2,Nat.lt_of_le_of_lt (Nat.le_of_dvd hD (h.parts hD).2) h1⟩
theorem QB.of {D Y:Nat} {q:Rat} (hd:q.den∣D) (hn:q.num.natAbs≤Y):QB D (Y*D) q:=by
 refine ⟨zsc q D,(zsc_is hd).symm, ?_⟩
 unfold zsc
 rw [Int.natAbs_mul]
 exact Nat.mul_le_mul hn (Nat.div_le_self _ _)
def SB (D Y:Nat) (l:List Tm):Prop:=∀ t∈l,QB D Y t.2
theorem SB.coef {D Y:Nat} (e:List Int):∀ {l:List Tm},SB D Y l→QB D (l.length*Y) (coef l e)
 | [],_=>QB.zero _ _
 | t :: r,h=>by
  have h1:QB D Y (if t.1=e then t.2 else 0):=by
   split
   · exact h t (by simp)
   · exact QB.zero _ _
  have h2:=QB.add h1 (SB.coef e (l:=r) (fun s hs=>h s (by simp [hs])))
  exact h2.mono (by rw [List.length_cons,Nat.add_mul]; omega)
theorem SB.prod {D E Y Z:Nat} {a b:List Tm} (ha:SB D Y a) (hb:SB E Z b):SB (D*E) (Y*Z) (prodT a b):=by
 intro u hu
 obtain ⟨x,hx,h⟩:=List.mem_flatMap.1 hu
 obtain ⟨y,hy,rfl⟩:=List.mem_map.1 h
 exact (ha x hx).mul (hb y hy)
theorem SB.mono {D Y Z:Nat} {l:List Tm} (h:SB D Y l) (hz:Y≤Z):SB D Z l:=fun t ht=>(h t ht).mono hz
theorem SB.scale {D Y:Nat} {l:List Tm} (h:SB D Y l) (k:Nat):SB (D*k) (Y*k) l:=fun t ht=>(h t ht).scale k
theorem SB.app {D Y:Nat} {a b:List Tm} (ha:SB D Y a) (hb:SB D Y b):SB D Y (a ++ b):=fun t ht=>(List.mem_append.1 ht).elim (ha t) (hb t)
theorem SB.app2 {D E Y Z:Nat} {a b:List Tm} (ha:SB D Y a) (hb:SB E Z b):SB (D*E) (Y*E+Z*D) (a ++ b):=by
 refine SB.app ((ha.scale E).mono (by omega)) ?_
 rw [Nat.mul_comm D E]
 exact (hb.scale D).mono (by omega)
theorem lcm_is (a b:Nat):a*(b/Nat.gcd a b)=Nat.lcm a b:=by
 unfold Nat.lcm
 rw [Nat.mul_div_assoc _ (Nat.gcd_dvd_right a b)]
theorem lcmD_min {D:Nat} {l:List Rat} (h:∀ q∈l,q.den∣D):lcmD l∣D:=by
 have key:∀ (l:List Rat) (a:Nat),a∣D→(∀ q∈l,q.den∣D)→l.foldl (fun a q=>a*(q.den/Nat.gcd a q.den)) a∣D:=by
  intro l
  induction l with
  | nil=>intro a ha _; exact ha
  | cons q r ih =>
   intro a ha h
   rw [List.foldl_cons,lcm_is]
   exact ih _ (Nat.lcm_dvd ha (h q (by simp))) (fun s hs=>h s (by simp [hs]))
 exact key l 1 (Nat.one_dvd _) h
theorem SB.lcm {D Y:Nat} {l:List Tm} (h:SB D Y l) (hD:0<D):lcmD (l.map (·.2))≤D:=by
 refine Nat.le_of_dvd hD (lcmD_min fun q hq => ?_)
 obtain ⟨t,ht,rfl⟩:=List.mem_map.1 hq
 exact ((h t ht).parts hD).2
theorem SB.of {Y:Nat} {l:List Tm} (h:∀ t∈l,t.2.num.natAbs≤Y):SB (lcmD (l.map (·.2))) (Y*lcmD (l.map (·.2))) l :=
 fun t ht=>QB.of (lcmD_dvd (List.mem_map_of_mem ht)) (h t ht)
end Pl
theorem cnP_congr {p q:List Pl.Tm} (h:∀ e,Pl.coef p e=Pl.coef q e):cnP p=cnP q:=by
 unfold cnP
 simp only [h]
theorem cnP_len {p:List Pl.Tm} (h6:∀ t∈p,t.1.length=6):(cnP p).length≤p.length:=by
 have h:=Pl.nodup_le ((cnP p).map (·.1)) (p.map (·.1)) (canon_nrm (cnP_spec h6).1).nodup (fun e he=>by
  obtain ⟨t,ht,rfl⟩:=List.mem_map.1 he
  obtain ⟨s,hs,e⟩:=cnP_key h6 ht
  rw [←e]
  exact List.mem_map_of_mem hs)
 simpa using h
theorem SB.cn {D Y:Nat} {p:List Pl.Tm} (h6:∀ t∈p,t.1.length=6) (h:Pl.SB D Y p):Pl.SB D (p.length*Y) (cnP p):=by
 intro t ht
 obtain ⟨h1,h2⟩:=cnP_spec h6
 rw [←Pl.coef_mem (canon_nrm h1).nodup ht,h2]
 exact h.coef t.1
theorem txt_len {q:Rat} {b:Nat} (h:Pl.RB b q):(txt q).length≤2*(b/3)+4:=by
 have h1:=itoa_P2 h.1
 have h2:=dec_P2 h.2
 unfold txt
 rw [List.length_append]
 split
 · simp; omega
 · simp; omega
theorem prodT_key {a b:List Pl.Tm} {t:Pl.Tm} (h:t∈Pl.prodT a b):∃ x∈a,∃ y∈b,t.1=Pl.plE x.1 y.1:=by
 obtain ⟨x,hx,h⟩:=List.mem_flatMap.1 h
 obtain ⟨y,hy,rfl⟩:=List.mem_map.1 h
 exact ⟨x,hx,y,hy,rfl⟩
def Lo (l:List Pl.Tm):Prop:=∀ t∈l,t.1.length=6∧∀ x∈t.1,0≤x∧x≤1048576
theorem Lo.small {l:List Pl.Tm} (h:Lo l):smallE l:=fun t ht=>⟨(h t ht).1,fun x hx=>by have:=(h t ht).2 x hx; omega⟩
theorem plE_bnd {B C:Int}:∀ {a b:List Int},(∀ x∈a,0≤x∧x≤B)→(∀ x∈b,0≤x∧x≤C)→∀ x∈Pl.plE a b,0≤x∧x≤B+C
 | [],_,_,_=>by simp [Pl.plE]
 | _ :: _,[],_,_=>by simp [Pl.plE]
 | x :: a,y :: b,h1,h2=>by
  intro u hu
  have hu':u=x+y∨u∈Pl.plE a b:=by simpa [Pl.plE] using hu
  rcases hu' with rfl|hu
  · have:=h1 x (by simp); have:=h2 y (by simp); omega
  · exact plE_bnd (fun z hz=>h1 z (by simp [hz])) (fun z hz=>h2 z (by simp [hz])) u hu
theorem fits_SB {D Y b:Nat} {p:List Pl.Tm} (h:Pl.SB D Y p) (hD:0<D) (h1:D<P2 b) (h2:p.length*Y<P2 b) (hb:b≤1920) (hk:∀ t∈p,t.1.length=6∧∀ x∈t.1,0≤x∧x≤1099511627776) (hl:p.length≤1000000):FitsP p:=by
 refine ⟨fun e he => ?_,hl⟩
 obtain ⟨t,ht,rfl⟩:=Pl.coef_present he
 exact ⟨RB.str ((h.coef t.1).rb hD h1 h2) hb,hk t ht⟩
theorem mulOK_SB {D E Y Z b:Nat} {la lb:List Pl.Tm} (ha:Pl.SB D Y la) (hb:Pl.SB E Z lb) (hD:0<D) (hE:0<E) (d1:D<P2 256) (d2:E<P2 256) (y1:Y<P2 1000) (y2:Z<P2 1000) (ka:Lo la) (kb:Lo lb) (na:la.length≤1000) (nb:lb.length≤1000) (hz:la.length*lb.length*(Y*Z)<P2 b) (hb1:512≤b) (hb2:b≤1920):MulOK la lb where
 ba:=fun t ht=>(ha t ht).rb hD (P2_lt d1 (by omega)) y1
 bb:=fun t ht=>(hb t ht).rb hE (P2_lt d2 (by omega)) y2
 ea:=ka.small
 eb:=kb.small
 lla:=Nat.lt_of_le_of_lt (ha.lcm hD) d1
 llb:=Nat.lt_of_le_of_lt (hb.lcm hE) d2
 na:=by omega
 nb:=by omega
 fits:=by
  have hlen:=prodT_len la lb
  have hle:la.length*lb.length≤1000*1000:=Nat.mul_le_mul na nb
  refine fits_SB (ha.prod hb) (Nat.mul_pos hD hE) (P2_lt (P2_mul d1 d2) hb1) (by rw [hlen]; exact hz) hb2 (fun t ht => ?_) (by rw [hlen]; omega)
  obtain ⟨x,hx,y,hy,e⟩:=prodT_key ht
  rw [e,Pl.plE_len (by rw [(ka x hx).1,(kb y hy).1])]
  refine ⟨(ka x hx).1,fun z hz => ?_⟩
  have:=plE_bnd (ka x hx).2 (kb y hy).2 z hz
  omega
theorem sumOK_SB {D Y b:Nat} {p:List Pl.Tm} (h:Pl.SB D Y p) (hD:0<D) (h1:D<P2 b) (h2:p.length*Y<P2 b) (hb:b≤1920) (hk:Lo p) (hl:p.length≤1000):SumOK p where
 pre:=fun a s e x=>by
  have ha:Pl.SB D Y a:=fun t ht=>h t (by rw [←e]; simp [ht])
  have hla:a.length≤p.length:=by rw [←e]; simp
  exact ((ha.coef x).rb hD h1 (Nat.lt_of_le_of_lt (Nat.mul_le_mul_right _ hla) h2)).mono (by omega)
 each:=fun t ht=>((h t ht).rb hD h1 (Nat.lt_of_le_of_lt (by
  have:1≤p.length:=List.length_pos_of_mem ht
  have:=Nat.mul_le_mul_right Y this
  omega) h2)).mono (by omega)
 fits:=fits_SB h hD h1 h2 hb (fun t ht=>⟨(hk t ht).1,fun x hx=>by have:=(hk t ht).2 x hx; omega⟩) (by omega)
theorem txt_pow {q:Rat} {k:Nat} (h:(txt q).length≤k):q.num.natAbs<10^k :=
 Nat.lt_of_lt_of_le (txt_dec q).1 (Nat.pow_le_pow_right (by omega) h)
theorem rdP_SB {va:Int} {ts:List Tx} {l:List Pl.Tm} {nt d B:Nat} (h:rdP va ts=some l) (hs:smallP ts nt d) (hd:3≤d) (hB:10^d≤P2 B) :
 ∃ D,0<D∧D<P2 (4*(d-2)*nt+1)∧Pl.SB D (P2 (B+(4*(d-2)*nt+1))) l:=by
 have hm:∀ t∈l,(txt t.2).length≤d:=by
  intro m hm
  obtain ⟨t,ht,hr⟩:=rdP_mem h hm
  have h1:=readQ_eq (rdT_parts hr).1
  rw [←h1]
  exact (hs.2 t ht).1
 have hlen:=rdP_len h
 have hD:lcmD (l.map (·.2))<P2 (4*(d-2)*nt+1):=by
  have h1:=lcmD_bnd (l:=l.map (·.2)) (b:=4*(d-2)) (fun q hq=>by
   obtain ⟨t,ht,rfl⟩:=List.mem_map.1 hq
   exact txt_den (k:=d-2) (by have:=hm t ht; omega) (by omega))
  refine P2_lt h1 ?_
  have h2:l.length≤nt:=by rw [hlen]; exact hs.1
  have:=Nat.mul_le_mul_left (4*(d-2)) h2
  rw [List.length_map]
  omega
 refine ⟨_,lcmD_pos (l.map (·.2)),hD,(Pl.SB.of (Y:=P2 B) (fun t ht => ?_)).mono ?_⟩
 · have:=txt_pow (hm t ht)
   omega
 · rw [P2_add]
   exact Nat.mul_le_mul_left _ (Nat.le_of_lt hD)
end Go.Proofs.YtbiifaciddajnaaGreatDoor
namespace Go.Proofs.YtbiifaciddajnaaGreatDoor
open Go Go.RowKit
open Classical in
noncomputable def mulA (va vb:Int) (oa ob:Option (List Pl.Tm)):Int×List Tx×Int :=
 match oa,ob with
 | some la,some lb=>if va=vb then (if la≠[]∧lb≠[]∧24<degL la+degL lb then (0,[],2) else resQ va (Pl.prodT la lb)) else (0,[],4)
 | _,_=>(0,[],1)
noncomputable def addA (va vb:Int) (oa ob:Option (List Pl.Tm)):Int×List Tx×Int :=
 match oa,ob with
 | some la,some lb=>if va=vb then resQ va (la ++ lb) else (0,[],4)
 | _,_=>(0,[],1)
theorem RetMul.a {w:World} {va vb:Int} {oa ob:Option (List Pl.Tm)} {e:Ending} {w':World} (h:RetMul w va vb oa ob e w'):RetA3 w (mulA va vb oa ob) e w':=by
 unfold mulA
 rcases h with ⟨la,lb,rfl,rfl,hv,h⟩|⟨hs,hv,h⟩|⟨hs,h⟩
 · simp only [if_pos hv]
   rcases h with ⟨hc,h⟩|⟨hc,h⟩
   · rw [if_neg hc]; exact h
   · rw [if_pos hc]; exact h
 · cases oa <;> cases ob <;> simp at hs
   simp only [if_neg hv]
   exact h
 · cases oa <;> cases ob <;> simp at hs <;> exact h
theorem RetAdd.a {w:World} {va vb:Int} {oa ob:Option (List Pl.Tm)} {e:Ending} {w':World} (h:RetAdd w va vb oa ob e w'):RetA3 w (addA va vb oa ob) e w':=by
 unfold addA
 rcases h with ⟨la,lb,rfl,rfl,hv,h⟩|⟨hs,hv,h⟩|⟨hs,h⟩
 · simp only [if_pos hv]
   exact h
 · cases oa <;> cases ob <;> simp at hs
   simp only [if_neg hv]
   exact h
 · cases oa <;> cases ob <;> simp at hs <;> exact h
theorem resQ_congr {v:Int} {p q:List Pl.Tm} (h:∀ e,Pl.coef p e=Pl.coef q e):resQ v p=resQ v q:=by
 unfold resQ
 rw [cnP_congr h]
theorem resQ_ok {v:Int} {p:List Pl.Tm} (hv:0≤v∧v≤6) (hi:∀ t∈p,InV v.toNat t.1) (h:(resQ v p).2.2=0):(resQ v p).1=v∧rdP v (resQ v p).2.1=some (cnP p):=by
 obtain ⟨k,rfl⟩:∃ k:Nat,v=(k:Int):=⟨v.toNat,by omega⟩
 rw [Int.toNat_natCast] at hi
 rcases resQ_back (vars:=k) (by omega) hi with ⟨h1,h2,h3⟩|⟨h1,h2⟩
 · rw [h2]; exact ⟨rfl,h3⟩
 · rw [h2] at h; cases h
theorem mulA_ok {va vb:Int} {oa ob:Option (List Pl.Tm)} (h:(mulA va vb oa ob).2.2=0):∃ la lb,oa=some la∧ob=some lb∧va=vb∧¬ (la≠[]∧lb≠[]∧24<degL la+degL lb)∧mulA va vb oa ob=resQ va (Pl.prodT la lb):=by
 unfold mulA at h ⊢
 cases oa with
 | none=>cases h
 | some la =>
 cases ob with
 | none=>cases h
 | some lb =>
 simp only at h ⊢
 by_cases hv:va=vb
 · rw [if_pos hv] at h ⊢
   by_cases hc:la≠[]∧lb≠[]∧24<degL la+degL lb
   · rw [if_pos hc] at h
     cases h
   · rw [if_neg hc]
     exact ⟨la,lb,rfl,rfl,hv,hc,rfl⟩
 · rw [if_neg hv] at h
   cases h
structure Pv (v:Int) (l:List Pl.Tm):Prop where
 v0:0≤v∧v≤6
 can:Pl.Canon 6 l
 inv:∀ t∈l,InV v.toNat t.1
theorem Pv.of {v:Int} {ts:List Tx} {l:List Pl.Tm} (h:rdP v ts=some l):Pv v l:=by
 have hv:=(rdP_parts h).1
 refine ⟨hv,rdP_canon h, ?_⟩
 obtain ⟨k,rfl⟩:∃ k:Nat,v=(k:Int):=⟨v.toNat,by omega⟩
 rw [Int.toNat_natCast]
 exact rdP_InV h
theorem InV.pl {n:Nat} {a b:List Int} (ha:InV n a) (hb:InV n b):InV n (Pl.plE a b):=by
 obtain ⟨a1,a2,a3⟩:=ha
 obtain ⟨b1,b2,b3⟩:=hb
 refine ⟨by rw [Pl.plE_len (by omega),a1],fun x hx => ?_, ?_⟩
 · have key:∀ {a b:List Int},(∀ x∈a,0≤x)→(∀ x∈b,0≤x)→∀ x∈Pl.plE a b,0≤x:=by
    intro a
    induction a with
    | nil=>intro b _ _ x hx; simp [Pl.plE] at hx
    | cons u a ih =>
     intro b h1 h2 x hx
     cases b with
     | nil=>simp [Pl.plE] at hx
     | cons w b =>
      have hx':x=u+w∨x∈Pl.plE a b:=by simpa [Pl.plE] using hx
      rcases hx' with rfl|hx
      · have:=h1 u (by simp); have:=h2 w (by simp); omega
      · exact ih (fun z hz=>h1 z (by simp [hz])) (fun z hz=>h2 z (by simp [hz])) x hx
   exact key a2 b2 x hx
 · unfold pad6 at a3 b3 ⊢
   have e1:(Pl.plE a b).take n=Pl.plE (a.take n) (b.take n):=by unfold Pl.plE; rw [List.take_zipWith]
   have la:(a.take n).length=(b.take n).length:=by simp [a1,b1]
   have e2:Pl.plE (a.take n ++ List.replicate (6-(a.take n).length) 0) (b.take n ++ List.replicate (6-(b.take n).length) 0)=Pl.plE (a.take n) (b.take n) ++ List.replicate (6-(a.take n).length) 0:=by
    unfold Pl.plE
    rw [List.zipWith_append la,←la]
    congr 1
    rw [List.zipWith_replicate]
    simp
   rw [a3,b3] at e2
   rw [e1,e2,Pl.plE_len la]
theorem prod_InV {n:Nat} {a b:List Pl.Tm} (ha:∀ t∈a,InV n t.1) (hb:∀ t∈b,InV n t.1):∀ t∈Pl.prodT a b,InV n t.1:=by
 intro t ht
 obtain ⟨x,hx,y,hy,e⟩:=prodT_key ht
 rw [e]
 exact (ha x hx).pl (hb y hy)
theorem app_InV {n:Nat} {a b:List Pl.Tm} (ha:∀ t∈a,InV n t.1) (hb:∀ t∈b,InV n t.1):∀ t∈a ++ b,InV n t.1:=fun t ht=>(List.mem_append.1 ht).elim (ha t) (hb t)
theorem Pv.prod {v:Int} {a b:List Pl.Tm} (ha:Pv v a) (hb:Pv v b):Pv v (cnP (Pl.prodT a b)) :=
 ⟨ha.v0,(cnP_spec fun t ht=>(prod_InV ha.inv hb.inv t ht).1).1,cnP_InV (prod_InV ha.inv hb.inv)⟩
theorem Pv.app {v:Int} {a b:List Pl.Tm} (ha:Pv v a) (hb:Pv v b):Pv v (cnP (a ++ b)) :=
 ⟨ha.v0,(cnP_spec fun t ht=>(app_InV ha.inv hb.inv t ht).1).1,cnP_InV (app_InV ha.inv hb.inv)⟩
theorem Pv.cprod {v:Int} {a b:List Pl.Tm} (ha:Pv v a) (hb:Pv v b) (e:List Int):Pl.coef (cnP (Pl.prodT a b)) e=Pl.coef (Pl.prodT a b) e:=(cnP_spec fun t ht=>(prod_InV ha.inv hb.inv t ht).1).2 e
end Go.Proofs.YtbiifaciddajnaaGreatDoor
namespace Go.Proofs.YtbiifaciddajnaaGreatDoor
open Go Go.RowKit
theorem P2_slt {a b:Nat} (h:a<b):P2 a<P2 b:=Nat.pow_lt_pow_right (by omega) h
structure Bd (v:Int) (N d y:Nat) (l:List Pl.Tm):Prop where
 pv:Pv v l
 lo:Lo l
 len:l.length≤N
 sb:∃ D,0<D∧D<P2 d∧Pl.SB D (P2 y) l
section
variable {v:Int} {N M d e y z:Nat} {la lb:List Pl.Tm} {ts:List Tx}
theorem Bd.of {nt k B:Nat} (h:rdP v ts=some la) (hs:smallP ts nt k) (hd:3≤k) (hB:10^k≤P2 B):Bd v nt (4*(k-2)*nt+1) (B+(4*(k-2)*nt+1)) la :=
 ⟨Pv.of h,rdP_exps h,by rw [rdP_len h]; exact hs.1,rdP_SB h hs hd hB⟩
theorem Lo.of {l:List Pl.Tm} (h:rdP v ts=some l):Lo l:=rdP_exps h
theorem Bd.prod {k:Nat} (ha:Bd v N d y la) (hb:Bd v M e z lb) (h:rdP v ts=some (cnP (Pl.prodT la lb))) (hk:N*M≤P2 k):Bd v (N*M) (d+e) (k+(y+z)) (cnP (Pl.prodT la lb)):=by
 have h6:∀ t∈Pl.prodT la lb,t.1.length=6:=fun t ht=>(prod_InV ha.pv.inv hb.pv.inv t ht).1
 have hl:(Pl.prodT la lb).length≤N*M:=by rw [prodT_len]; exact Nat.mul_le_mul ha.len hb.len
 obtain ⟨D,h1,h2,h3⟩:=ha.sb
 obtain ⟨E,g1,g2,g3⟩:=hb.sb
 refine ⟨ha.pv.prod hb.pv,rdP_exps h,Nat.le_trans (cnP_len h6) hl,D*E,Nat.mul_pos h1 g1,P2_mul h2 g2,(SB.cn h6 (h3.prod g3)).mono ?_⟩
 rw [P2_add k,P2_add y]
 exact Nat.mul_le_mul_right _ (Nat.le_trans hl hk)
theorem Bd.app1 {m:Nat} (ha:Bd v N d y la) (hb:Bd v M e z lb) (h1:y+e<m) (h2:z+d<m):(la ++ lb).length≤N+M∧∃ D,0<D∧D<P2 (d+e)∧Pl.SB D (P2 m) (la ++ lb):=by
 obtain ⟨D,a1,a2,a3⟩:=ha.sb
 obtain ⟨E,g1,g2,g3⟩:=hb.sb
 refine ⟨by have:=ha.len; have:=hb.len; rw [List.length_append]; omega,D*E,Nat.mul_pos a1 g1,P2_mul a2 g2,(a3.app2 g3).mono ?_⟩
 have k1:P2 y*E≤P2 (m-1):=by
  refine Nat.le_trans ?_ (P2_le (a:=y+e) (by omega))
  rw [P2_add]
  exact Nat.mul_le_mul_left _ (Nat.le_of_lt g2)
 have k2:P2 z*D≤P2 (m-1):=by
  refine Nat.le_trans ?_ (P2_le (a:=z+d) (by omega))
  rw [P2_add]
  exact Nat.mul_le_mul_left _ (Nat.le_of_lt a2)
 have k3:P2 m=P2 (m-1)*2:=by
  conv=>lhs; rw [show m=m-1+1 by omega,P2_add]
  rfl
 omega
theorem Bd.app {k m:Nat} (ha:Bd v N d y la) (hb:Bd v M e z lb) (h:rdP v ts=some (cnP (la ++ lb))) (h1:y+e<m) (h2:z+d<m) (hk:N+M≤P2 k):Bd v (N+M) (d+e) (k+m) (cnP (la ++ lb)):=by
 have h6:∀ t∈la ++ lb,t.1.length=6:=fun t ht=>(app_InV ha.pv.inv hb.pv.inv t ht).1
 obtain ⟨hl,D,g1,g2,g3⟩:=ha.app1 hb h1 h2
 refine ⟨ha.pv.app hb.pv,rdP_exps h,Nat.le_trans (cnP_len h6) hl,D,g1,g2,(SB.cn h6 g3).mono ?_⟩
 rw [P2_add]
 exact Nat.mul_le_mul_right _ (Nat.le_trans hl hk)
theorem Bd.mul {k:Nat} (ha:Bd v N d y la) (hb:Bd v M e z lb) (hk:N*M≤P2 k) (h1:d≤256∧e≤256) (h2:y<1000∧z<1000) (h3:N≤1000∧M≤1000) (h4:k+(y+z)<1920):MulOK la lb:=by
 obtain ⟨D,a1,a2,a3⟩:=ha.sb
 obtain ⟨E,g1,g2,g3⟩:=hb.sb
 refine mulOK_SB (b:=1920) a3 g3 a1 g1 (P2_lt a2 h1.1) (P2_lt g2 h1.2) (P2_slt h2.1) (P2_slt h2.2) ha.lo hb.lo (by have:=ha.len; omega) (by have:=hb.len; omega) ?_ (by omega) (by omega)
 refine Nat.lt_of_le_of_lt ?_ (P2_slt h4)
 rw [P2_add k,P2_add y]
 exact Nat.mul_le_mul_right _ (Nat.le_trans (Nat.mul_le_mul ha.len hb.len) hk)
theorem Bd.sum {k m:Nat} (ha:Bd v N d y la) (hb:Bd v M e z lb) (h1:y+e<m) (h2:z+d<m) (hk:N+M≤P2 k) (h3:N+M≤1000) (h4:k+m<1920) (h5:d+e≤1920):SumOK (la ++ lb):=by
 obtain ⟨hl,D,g1,g2,g3⟩:=ha.app1 hb h1 h2
 refine sumOK_SB (b:=1920) g3 g1 (P2_lt g2 h5) ?_ (by omega) (fun t ht=>(List.mem_append.1 ht).elim (ha.lo t) (hb.lo t)) (by omega)
 refine Nat.lt_of_le_of_lt ?_ (P2_slt h4)
 rw [P2_add]
 exact Nat.mul_le_mul_right _ (Nat.le_trans hl hk)
theorem Bd.text (ha:Bd v N d y la) (h:rdP v ts=some la) (h1:d≤840) (h2:y<840):∀ t∈ts,t.1.length≤570:=by
 intro t ht
 obtain ⟨D,a1,a2,a3⟩:=ha.sb
 have hw:=rdP_wrT h
 rw [←hw] at ht
 obtain ⟨m,hm,rfl⟩:=List.mem_map.1 ht
 have:=txt_len ((a3 m hm).rb a1 (P2_lt a2 h1) (P2_slt h2))
 show (txt m.2).length≤570
 omega
end
end Go.Proofs.YtbiifaciddajnaaGreatDoor
namespace Go.Proofs.YtbiifaciddajnaaGreatDoor
open Go Go.RowKit
structure Bx where
 g:Nat
 v:Int
 a:Option Addr
 n:Nat
 c:Nat
 ts:List Tx
def PBx (w0 w:World) (l:List Bx):Prop:=Ext w0 w∧∀ p∈l,Arr w p.g 24 (polyL p.v p.a p.n p.c)∧TmSl w p.a p.n p.c p.ts
section
variable {w0 w w1 w':World} {l:List Bx} {i:Nat}
theorem PBx.e (h:PBx w0 w l):Ext w0 w:=h.1
theorem PBx.at {g:Nat} {v:Int} {a:Option Addr} {n c:Nat} {ts:List Tx} (h:PBx w0 w l) (hi:l[i]?=some ⟨g,v,a,n,c,ts⟩):Arr w g 24 (polyL v a n c)∧TmSl w a n c ts:=h.2 _ (List.mem_of_getElem? hi)
theorem PBx.c {g:Nat} {v:Int} {a:Option Addr} {n c:Nat} {ts:List Tx} (h:PBx w0 w l) (hi:l[i]?=some ⟨g,v,a,n,c,ts⟩):w.cell? ⟨g,0,none⟩=some (.int .i64 v)∧w.cell? ⟨g,1,none⟩=some (.slice a n c) :=
 ⟨(h.at hi).1.cell (i:=0) (by simp [polyL]),(h.at hi).1.cell (i:=1) (by simp [polyL])⟩
theorem PBx.t {g:Nat} {v:Int} {a:Option Addr} {n c:Nat} {ts:List Tx} (h:PBx w0 w l) (hi:l[i]?=some ⟨g,v,a,n,c,ts⟩):TmSl w a n c ts:=(h.at hi).2
theorem PBx.ext (h:PBx w0 w l) (e:Ext w w'):PBx w0 w' l:=⟨h.1.trans e,fun p hp=>⟨(h.2 p hp).1.ext e,(h.2 p hp).2.ext e⟩⟩
theorem PBx.one {v:Int} {a:Option Addr} {n c:Nat} {ts:List Tx} {g:Nat} (hE:Ext w0 w) (hB:Arr w g 24 (polyL v a n c)) (ht:TmSl w0 a n c ts):PBx w0 w [⟨g,v,a,n,c,ts⟩] :=
 ⟨hE,fun p hp=>by rw [List.mem_singleton.1 hp]; exact ⟨hB,ht.ext hE⟩⟩
theorem PBx.app {l':List Bx} (h:PBx w0 w l) (h':PBx w0 w l'):PBx w0 w (l ++ l'):=⟨h.1,fun p hp=>(List.mem_append.1 hp).elim (h.2 p) (h'.2 p)⟩
theorem PBx.new {v:Int} {a:Option Addr} {n c:Nat} {ts:List Tx} {o:Obj} (h:PBx w0 w l) (hE:Ext w w1) (hO:TmSl w1 a n c ts) (hB:Arr w' w1.heap.size 24 (polyL v a n c)) (hg:(w1.alloc o).grownBy w' (some w1.heap.size)):PBx w0 w' (l ++ [⟨w1.heap.size,v,a,n,c,ts⟩]):=by
 have hF:Ext w1 w':=((Ext.refl w1).alloc _).grownR hg (Nat.le_refl _)
 have h1:=h.ext (hE.trans hF)
 refine ⟨h1.1,fun p hp => ?_⟩
 rcases List.mem_append.1 hp with hp|hp
 · exact h1.2 p hp
 · rw [List.mem_singleton.1 hp]
   exact ⟨hB,hO.ext hF⟩
end
section
variable {P:Program} {w:World}
theorem wl_stPo {ops:Array Oper} {rest:List Oper} {o:Oper} {f:Act} {Q:Exit→Act→World→Prop} {x y:Operand} (hgd:o.guard=none) (ho:o.op = .store 24 x y)
 {g:Nat} {t:TypeId} {cs:List Value} {v:Int} {a:Option Addr} {n c:Nat} (hx:f.eval x = .pointer (some ⟨g,0,none⟩)) (hy:f.eval y = .agg #[.int .i64 v, .slice a n c]) (h:Arr w g t cs) (hl:cs.length=2)
 (hK:∀ w',Arr w' g t (polyL v a n c)→w.grownBy w' (some g)→wpList Tryz.prog ops Q rest (f.put o.dst undef) w'):wpList Tryz.prog ops Q (o :: rest) f w :=
 wl_stArr (vs:=polyL v a n c) hgd ho hx hy rfl agg_Poly h hl (polyL_one _ _ _ _) hK
end
def RetTrue (w:World) (e:Ending) (w':World):Prop:=e = .returned (.bool true)∧Ext w w'
def RetV (w0:World) (v:Int) (ts:List Tx) (err:Int) (e:Ending) (w':World):Prop:=∃ a n c,e = .returned (.tuple #[.agg #[.int .i64 v, .slice a n c], .int .i64 err])∧Ext w0 w'∧TmSl w' a n c ts
theorem RetP.v {w0:World} {v:Int} {ts:List Tx} {err:Int} {e:Ending} {w':World} (h:RetP w0 v ts err e w'):RetV w0 v ts err e w':=by
 obtain ⟨a,n,c,h1,h2,h3⟩:=h
 exact ⟨a,n,c,h1,h2,h3.sl⟩
section
variable {va vb:Int} {a b:Option Addr} {n c m d:Nat} {ta tb:List Tx} {w:World} {v err:Int} {t:List Tx}
theorem poly_MulV (hr:mulA va vb (rdP va ta) (rdP vb tb)=(v,t,err)) (hT:Tabs w) (ha:TmSl w a n c ta) (hb:TmSl w b m d tb) (sa:∀ t∈ta,t.1.length≤570) (sb:∀ t∈tb,t.1.length≤570)
 (hok:∀ la lb,rdP va ta=some la→rdP vb tb=some lb→va=vb→MulOK la lb) :
 Calls Tryz.prog 17 #[.agg #[.int .i64 va, .slice a n c], .agg #[.int .i64 vb, .slice b m d]] w (RetV w v t err) :=
 (poly_Mul hT ha hb sa sb hok).mono fun e w' h=>by
  have h:=h.a
  rw [hr] at h
  exact RetP.v h
theorem poly_AddV (hr:addA va vb (rdP va ta) (rdP vb tb)=(v,t,err)) (hT:Tabs w) (ha:TmSl w a n c ta) (hb:TmSl w b m d tb) (sa:∀ t∈ta,t.1.length≤570) (sb:∀ t∈tb,t.1.length≤570)
 (hok:∀ la lb,rdP va ta=some la→rdP vb tb=some lb→va=vb→SumOK (la ++ lb)) :
 Calls Tryz.prog 18 #[.agg #[.int .i64 va, .slice a n c], .agg #[.int .i64 vb, .slice b m d]] w (RetV w v t err) :=
 (poly_Add hT ha hb sa sb hok).mono fun e w' h=>by
  have h:=h.a
  rw [hr] at h
  exact RetP.v h
end
end Go.Proofs.YtbiifaciddajnaaGreatDoor
namespace Go.Proofs.YtbiifaciddajnaaGreatDoor
open Go Go.RowKit
theorem P2_27:10^8≤P2 27:=by unfold P2; decide
theorem P2_num {k n:Nat} (m:Nat) (h:n≤2^m) (hk:m=k):n≤P2 k:=by rw [←hk]; exact h
section
variable {va vb vc:Int} {ta tb tc:List Tx}
structure RingS (va vb vc v3 v4 v5:Int) (ta tb tc t3 t4 t5:List Tx):Prop where
 v:va=vb∧va=vc∧va=v3∧va=v4∧va=v5
 comm:mulA vb va (rdP vb tb) (rdP va ta)=(v3,t3,0)
 deg:0<ta.length→0<tb.length→degP v3 t3=degP va ta+degP vb tb
 x3:∀ t∈t3,t.1.length≤570
 x4:∀ t∈t4,t.1.length≤570
 x5:∀ t∈t5,t.1.length≤570
 assoc:mulA v3 vc (rdP v3 t3) (rdP vc tc)=mulA va v4 (rdP va ta) (rdP v4 t4)
 m3:∀ la lb,rdP v3 t3=some la→rdP vc tc=some lb→v3=vc→MulOK la lb
 m4:∀ la lb,rdP va ta=some la→rdP v4 t4=some lb→va=v4→MulOK la lb
 m5:∀ la lb,rdP va ta=some la→rdP v5 t5=some lb→va=v5→MulOK la lb
 dist:∀ v6 t6 v7 t7,mulA va vc (rdP va ta) (rdP vc tc)=(v6,t6,0)→mulA va v5 (rdP va ta) (rdP v5 t5)=(v7,t7,0) →
  addA v3 v6 (rdP v3 t3) (rdP v6 t6)=(v7,t7,0)∧(∀ t∈t6,t.1.length≤570)∧∀ la lb,rdP v3 t3=some la→rdP v6 t6=some lb→v3=v6→SumOK (la ++ lb)
theorem mul_fact {v:Int} {t:List Tx} (h:mulA va vb (rdP va ta) (rdP vb tb)=(v,t,0)):∃ la lb,rdP va ta=some la∧rdP vb tb=some lb∧va=vb∧v=va∧rdP v t=some (cnP (Pl.prodT la lb)):=by
 obtain ⟨la,lb,h1,h2,h3,_,h5⟩:=mulA_ok (by rw [h])
 rw [h] at h5
 have pa:=Pv.of h1
 have pb:Pv va lb:=by rw [h3]; exact Pv.of h2
 obtain ⟨g1,g2⟩:=resQ_ok pa.v0 (prod_InV pa.inv pb.inv) (by rw [←h5])
 rw [←h5] at g1 g2
 simp only at g1 g2
 refine ⟨la,lb,h1,h2,h3,g1, ?_⟩
 rw [g1]; exact g2
end
end Go.Proofs.YtbiifaciddajnaaGreatDoor
namespace Go.Proofs.YtbiifaciddajnaaGreatDoor.Pl
def decE (i:Nat) (m:List Int):List Int:=m.set i (m.getD i 0-1)
def derT (i:Nat) (l:List Tm):List Tm:=(l.filter (fun t=>decide (0<t.1.getD i 0))).map (fun t=>(decE i t.1,t.2*((t.1.getD i 0:Int):Rat)))
theorem derT_cons (i:Nat) (t:Tm) (r:List Tm):derT i (t :: r)=(if 0<t.1.getD i 0 then [(decE i t.1,t.2*((t.1.getD i 0:Int):Rat))] else []) ++ derT i r:=by
 unfold derT
 by_cases h:0<t.1.getD i 0
 · rw [List.filter_cons_of_pos (by simpa using h),List.map_cons,if_pos h]; rfl
 · rw [List.filter_cons_of_neg (by simpa using h),if_neg h]; rfl
theorem derT_snoc (i:Nat) (l:List Tm) (t:Tm):derT i (l ++ [t])=derT i l ++ (if 0<t.1.getD i 0 then [(decE i t.1,t.2*((t.1.getD i 0:Int):Rat))] else []):=by
 unfold derT
 rw [List.filter_append,List.map_append]
 congr 1
 by_cases h:0<t.1.getD i 0
 · rw [List.filter_cons_of_pos (by simpa using h),if_pos h]; rfl
 · rw [List.filter_cons_of_neg (by simpa using h),if_neg h]; rfl
def derF (i:Nat) (F:List Int→Rat) (m:List Int):Rat:=if 0<m.getD i 0 then ((m.getD i 0:Int):Rat)*F (decE i m) else 0
theorem lin_der (i:Nat) (F:List Int→Rat):∀ l:List Tm,lin F (derT i l)=lin (derF i F) l
 | []=>rfl
 | t :: r=>by
  rw [derT_cons,lin_app,lin_der i F r]
  show _=t.2*derF i F t.1+_
  congr 1
  unfold derF
  by_cases h:0<t.1.getD i 0
  · rw [if_pos h,if_pos h]
    show t.2*_*_+0=_
    grind
  · rw [if_neg h,if_neg h,Rat.mul_zero]; rfl
theorem coef_der (i:Nat) (l:List Tm) (e:List Int):coef (derT i l) e=lin (derF i (fun m=>if m=e then 1 else 0)) l:=by rw [coef_lin,lin_der]
theorem der_ext {i:Nat} {a b:List Tm} (h:∀ e,coef a e=coef b e) (e:List Int):coef (derT i a) e=coef (derT i b) e:=by
 rw [coef_der,coef_der,lin_ext h]
theorem plE_getD {i:Nat} {a b:List Int} (ha:i<a.length) (hb:i<b.length):(plE a b).getD i 0=a.getD i 0+b.getD i 0:=by
 unfold plE
 simp [List.getD_eq_getElem?_getD,List.getElem?_zipWith,ha,hb]
theorem plE_dec:∀ (i:Nat) (a b:List Int),i<a.length→i<b.length→plE (decE i a) b=decE i (plE a b)
 | 0,x :: a,y :: b,_,_=>by
  unfold plE decE
  simp only [List.getD_cons_zero,List.set_cons_zero,List.zipWith_cons_cons]
  congr 1
  omega
 | i+1,x :: a,y :: b,h1,h2=>by
  have ih:=plE_dec i a b (by simpa using h1) (by simpa using h2)
  unfold plE decE at ih ⊢
  simp only [List.getD_cons_succ,List.set_cons_succ,List.zipWith_cons_cons,ih]
theorem der_prod {i n:Nat} {a b:List Tm} (hi:i<n) (ha:∀ t∈a,t.1.length=n∧0≤t.1.getD i 0) (hb:∀ t∈b,t.1.length=n∧0≤t.1.getD i 0) (e:List Int):coef (derT i (prodT a b)) e=coef (prodT (derT i a) b ++ prodT a (derT i b)) e:=by
 rw [coef_der,lin_prod,coef_app,coef_prod,coef_prod,lin_der,←lin_add]
 refine lin_congr fun s hs => ?_
 rw [lin_der]
 obtain ⟨s1,s2⟩:=ha s hs
 have e1:derF i (fun s=>lin (fun m=>if plE s m=e then 1 else 0) b) s.1=lin (fun m=>if 0<s.1.getD i 0 then ((s.1.getD i 0:Int):Rat)*(if plE (decE i s.1) m=e then 1 else 0) else 0) b:=by
  unfold derF
  by_cases h:0<s.1.getD i 0
  · rw [if_pos h,←lin_mul]
    refine lin_congr fun m _ => ?_
    rw [if_pos h]
  · rw [if_neg h]
    exact (lin_zer fun m _=>if_neg h).symm
 rw [e1,←lin_add]
 refine lin_congr fun m hm => ?_
 obtain ⟨m1,m2⟩:=hb m hm
 unfold derF
 have g:=plE_getD (i:=i) (a:=s.1) (b:=m.1) (by omega) (by omega)
 have d1:=plE_dec i s.1 m.1 (by omega) (by omega)
 have d2:plE s.1 (decE i m.1)=decE i (plE s.1 m.1):=by
  rw [plE_comm s.1 (decE i m.1),plE_comm s.1 m.1]
  exact plE_dec i m.1 s.1 (by omega) (by omega)
 simp only [g,d1]
 rw [d2]
 generalize s.1.getD i 0=x at *
 generalize m.1.getD i 0=y at *
 generalize (if decE i (plE s.1 m.1)=e then (1:Rat) else 0)=q
 by_cases hx:0<x
 · by_cases hy:0<y
   · rw [if_pos (by omega),if_pos hx,if_pos hy,Rat.intCast_add]; grind
   · have:y=0:=by omega
     subst this
     rw [if_pos (by omega),if_pos hx,if_neg hy,Int.add_zero]; grind
 · have:x=0:=by omega
   subst this
   by_cases hy:0<y
   · rw [if_pos (by omega),if_neg hx,if_pos hy,Int.zero_add]; grind
   · rw [if_neg (by omega),if_neg hx,if_neg hy]; grind
theorem dec_comm (i k:Nat) (h:i≠k) (m:List Int):decE i (decE k m)=decE k (decE i m)∧(decE k m).getD i 0=m.getD i 0:=by
 unfold decE
 have e1:(m.set k (m.getD k 0-1)).getD i 0=m.getD i 0:=by
  simp [List.getD_eq_getElem?_getD,List.getElem?_set_ne (Ne.symm h)]
 have e2:(m.set i (m.getD i 0-1)).getD k 0=m.getD k 0:=by
  simp [List.getD_eq_getElem?_getD,List.getElem?_set_ne h]
 rw [e1,e2]
 exact ⟨List.set_comm _ _ (Ne.symm h),rfl⟩
theorem der_comm (i k:Nat) (l:List Tm) (e:List Int):coef (derT i (derT k l)) e=coef (derT k (derT i l)) e:=by
 by_cases hik:i=k
 · rw [hik]
 rw [coef_der,coef_der,lin_der,lin_der]
 refine lin_congr fun t _ => ?_
 obtain ⟨h1,h2⟩:=dec_comm i k hik t.1
 obtain ⟨_,h3⟩:=dec_comm k i (Ne.symm hik) t.1
 unfold derF
 rw [h1,h2,h3]
 generalize ((t.1.getD i 0:Int):Rat)=x
 generalize ((t.1.getD k 0:Int):Rat)=y
 by_cases hi:0<t.1.getD i 0
 · by_cases hk:0<t.1.getD k 0
   · rw [if_pos hi,if_pos hk,if_pos hi,if_pos hk]; grind
   · rw [if_neg hk,if_neg hk]; grind
 · rw [if_neg hi,if_neg hi]; grind
end Go.Proofs.YtbiifaciddajnaaGreatDoor.Pl
