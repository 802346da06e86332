/- Part Gan35. -/
import Derived.Test.YtlpgonpfjbhmfaaGreatDoorGan34
import Derived.Test.YtlpgonpfjbhmfaaGreatDoorGan4
import Derived.Test.YtlpgonpfjbhmfaaGreatDoorGan2
set_option maxRecDepth 100000
set_option maxHeartbeats 100000000
namespace Go.Proofs.YtlpgonpfjbhmfaaGreatDoor
open Go Go.RowKit
namespace Pl
theorem plE_len {a b:List Int} (h:a.length=b.length):(plE a b).length=a.length:=by
 unfold plE;rw [List.length_zipWith,h,Nat.min_self]
end Pl
theorem le_degL {l:List Pl.Tm} {t:Pl.Tm} (h:t∈l):t.1.sum≤degL l:=by
 have key:∀ (l:List Pl.Tm) (m:Int),m≤l.foldl (fun m t=>max m t.1.sum) m∧∀ t∈l,t.1.sum≤l.foldl (fun m t=>max m t.1.sum) m:=by
  intro l
  induction l with
  | nil=>intro m; exact ⟨by simp,by simp⟩
  | cons t r ih =>
   intro m;rw [List.foldl_cons];have h1:=ih (max m t.1.sum);refine ⟨by omega,fun s hs => ?_⟩;rcases List.mem_cons.1 hs with rfl|hs
   · omega
   · exact h1.2 s hs
 exact (key l (-1)).2 t h
theorem degL_head {t:Pl.Tm} {r:List Pl.Tm} (h:Pl.Canon 6 (t :: r)) (h0 : -1≤t.1.sum):degL (t :: r)=t.1.sum :=
 Int.le_antisymm (degL_le h0 (canon_sum h)) (le_degL (by simp))
namespace Pl
def QB (D Y:Nat) (q:Rat):Prop:=∃ z:Int,q*(D:Rat)=(z:Rat)∧z.natAbs≤Y
theorem QB.zero (D Y:Nat):QB D Y 0:=⟨0,by rw [Rat.zero_mul]; rfl,by simp⟩
theorem QB.add {D Y Z:Nat} {p q:Rat} (hp:QB D Y p) (hq:QB D Z q):QB D (Y+Z) (p+q):=by
 obtain ⟨x,h1,h2⟩:=hp;obtain ⟨y,h3,h4⟩:=hq;refine ⟨x+y,by rw [Rat.add_mul,h1,h3,Rat.intCast_add], ?_⟩;have:=Int.natAbs_add_le x y;omega
theorem QB.mul {D E Y Z:Nat} {p q:Rat} (hp:QB D Y p) (hq:QB E Z q):QB (D*E) (Y*Z) (p*q):=by
 obtain ⟨x,h1,h2⟩:=hp;obtain ⟨y,h3,h4⟩:=hq;refine ⟨x*y, ?_,by rw [Int.natAbs_mul]; exact Nat.mul_le_mul h2 h4⟩;rw [Rat.natCast_mul,Rat.intCast_mul,←h1,←h3]
 grind
theorem QB.neg {D Y:Nat} {q:Rat} (h:QB D Y q):QB D Y (-q):=by
 obtain ⟨x,h1,h2⟩:=h;exact ⟨-x,by rw [Rat.neg_mul,h1,Rat.intCast_neg],by rw [Int.natAbs_neg]; exact h2⟩
theorem QB.mono {D Y Z:Nat} {q:Rat} (h:QB D Y q) (hz:Y≤Z):QB D Z q:=by
 obtain ⟨x,h1,h2⟩:=h;exact ⟨x,h1,by omega⟩
theorem QB.scale {D Y:Nat} {q:Rat} (h:QB D Y q) (k:Nat):QB (D*k) (Y*k) q:=by
 obtain ⟨x,h1,h2⟩:=h;refine ⟨x*k, ?_,by rw [Int.natAbs_mul]; exact Nat.mul_le_mul h2 (Nat.le_refl _)⟩;rw [Rat.natCast_mul,Rat.intCast_mul,←h1,←Rat.mul_assoc];rfl
theorem QB.parts {D Y:Nat} {q:Rat} (h:QB D Y q) (hD:0<D):q.num.natAbs≤Y∧q.den∣D:=by
 obtain ⟨z,h1,h2⟩:=h;have h0:(D:Rat)≠0:=fun h=>by have:=Rat.natCast_eq_zero_iff.1 h; omega
 have e:q=mkRat z D:=by
  rw [mkRat_div,←h1,Rat.mul_assoc,Rat.mul_inv_cancel _ h0,Rat.mul_one]
 obtain ⟨g1,g2⟩:=rat_frac (n:=z) (d:=D) (by omega);rw [e];refine ⟨Nat.le_trans (mkRat_le (by omega)).1 h2, ?_⟩;rw [g2];exact Nat.div_dvd_of_dvd (Nat.gcd_dvd_right _ _)
theorem QB.rb {D Y b:Nat} {q:Rat} (h:QB D Y q) (hD:0<D) (h1:D<P2 b) (h2:Y<P2 b):RB b q :=
 ⟨Nat.lt_of_le_of_lt (h.parts hD).1 h2,Nat.lt_of_le_of_lt (Nat.le_of_dvd hD (h.parts hD).2) h1⟩
theorem QB.of {D Y:Nat} {q:Rat} (hd:q.den∣D) (hn:q.num.natAbs≤Y):QB D (Y*D) q:=by
 refine ⟨zsc q D,(zsc_is hd).symm, ?_⟩;unfold zsc;rw [Int.natAbs_mul];exact Nat.mul_le_mul hn (Nat.div_le_self _ _)
def SB (D Y:Nat) (l:List Tm):Prop:=∀ t∈l,QB D Y t.2
theorem SB.coef {D Y:Nat} (e:List Int):∀ {l:List Tm},SB D Y l→QB D (l.length*Y) (coef l e)
 | [],_=>QB.zero _ _
 | t :: r,h=>by
  have h1:QB D Y (if t.1=e then t.2 else 0):=by
   split
   · exact h t (by simp)
   · exact QB.zero _ _
  have h2:=QB.add h1 (SB.coef e (l:=r) (fun s hs=>h s (by simp [hs])));exact h2.mono (by rw [List.length_cons,Nat.add_mul]; omega)
theorem SB.prod {D E Y Z:Nat} {a b:List Tm} (ha:SB D Y a) (hb:SB E Z b):SB (D*E) (Y*Z) (prodT a b):=by
 intro u hu;obtain ⟨x,hx,h⟩:=List.mem_flatMap.1 hu;obtain ⟨y,hy,rfl⟩:=List.mem_map.1 h;exact (ha x hx).mul (hb y hy)
theorem SB.mono {D Y Z:Nat} {l:List Tm} (h:SB D Y l) (hz:Y≤Z):SB D Z l:=fun t ht=>(h t ht).mono hz
theorem SB.scale {D Y:Nat} {l:List Tm} (h:SB D Y l) (k:Nat):SB (D*k) (Y*k) l:=fun t ht=>(h t ht).scale k
theorem SB.app {D Y:Nat} {a b:List Tm} (ha:SB D Y a) (hb:SB D Y b):SB D Y (a ++ b):=fun t ht=>(List.mem_append.1 ht).elim (ha t) (hb t)
theorem SB.app2 {D E Y Z:Nat} {a b:List Tm} (ha:SB D Y a) (hb:SB E Z b):SB (D*E) (Y*E+Z*D) (a ++ b):=by
 refine SB.app ((ha.scale E).mono (by omega)) ?_;rw [Nat.mul_comm D E];exact (hb.scale D).mono (by omega)
theorem lcm_is (a b:Nat):a*(b/Nat.gcd a b)=Nat.lcm a b:=by
 unfold Nat.lcm;rw [Nat.mul_div_assoc _ (Nat.gcd_dvd_right a b)]
theorem lcmD_min {D:Nat} {l:List Rat} (h:∀ q∈l,q.den∣D):lcmD l∣D:=by
 have key:∀ (l:List Rat) (a:Nat),a∣D→(∀ q∈l,q.den∣D)→l.foldl (fun a q=>a*(q.den/Nat.gcd a q.den)) a∣D:=by
  intro l
  induction l with
  | nil=>intro a ha _; exact ha
  | cons q r ih =>
   intro a ha h;rw [List.foldl_cons,lcm_is];exact ih _ (Nat.lcm_dvd ha (h q (by simp))) (fun s hs=>h s (by simp [hs]))
 exact key l 1 (Nat.one_dvd _) h
theorem SB.lcm {D Y:Nat} {l:List Tm} (h:SB D Y l) (hD:0<D):lcmD (l.map (·.2))≤D:=by
 refine Nat.le_of_dvd hD (lcmD_min fun q hq => ?_);obtain ⟨t,ht,rfl⟩:=List.mem_map.1 hq;exact ((h t ht).parts hD).2
theorem SB.of {Y:Nat} {l:List Tm} (h:∀ t∈l,t.2.num.natAbs≤Y):SB (lcmD (l.map (·.2))) (Y*lcmD (l.map (·.2))) l :=
 fun t ht=>QB.of (lcmD_dvd (List.mem_map_of_mem ht)) (h t ht)
end Pl
theorem cnP_congr {p q:List Pl.Tm} (h:∀ e,Pl.coef p e=Pl.coef q e):cnP p=cnP q:=by
 unfold cnP;simp only [h]
theorem cnP_len {p:List Pl.Tm} (h6:∀ t∈p,t.1.length=6):(cnP p).length≤p.length:=by
 have h:=Pl.nodup_le ((cnP p).map (·.1)) (p.map (·.1)) (canon_nrm (cnP_spec h6).1).nodup (fun e he=>by
  obtain ⟨t,ht,rfl⟩:=List.mem_map.1 he;obtain ⟨s,hs,e⟩:=cnP_key h6 ht;rw [←e]
  exact List.mem_map_of_mem hs)
 simpa using h
theorem SB.cn {D Y:Nat} {p:List Pl.Tm} (h6:∀ t∈p,t.1.length=6) (h:Pl.SB D Y p):Pl.SB D (p.length*Y) (cnP p):=by
 intro t ht;obtain ⟨h1,h2⟩:=cnP_spec h6;rw [←Pl.coef_mem (canon_nrm h1).nodup ht,h2];exact h.coef t.1
theorem txt_len {q:Rat} {b:Nat} (h:Pl.RB b q):(txt q).length≤2*(b/3)+4:=by
 have h1:=itoa_P2 h.1;have h2:=dec_P2 h.2;unfold txt;rw [List.length_append];split
 · simp; omega
 · simp; omega
theorem prodT_key {a b:List Pl.Tm} {t:Pl.Tm} (h:t∈Pl.prodT a b):∃ x∈a,∃ y∈b,t.1=Pl.plE x.1 y.1:=by
 obtain ⟨x,hx,h⟩:=List.mem_flatMap.1 h;obtain ⟨y,hy,rfl⟩:=List.mem_map.1 h;exact ⟨x,hx,y,hy,rfl⟩
def Lo (l:List Pl.Tm):Prop:=∀ t∈l,t.1.length=6∧∀ x∈t.1,0≤x∧x≤1048576
theorem Lo.small {l:List Pl.Tm} (h:Lo l):smallE l:=fun t ht=>⟨(h t ht).1,fun x hx=>by have:=(h t ht).2 x hx; omega⟩
theorem plE_bnd {B C:Int}:∀ {a b:List Int},(∀ x∈a,0≤x∧x≤B)→(∀ x∈b,0≤x∧x≤C)→∀ x∈Pl.plE a b,0≤x∧x≤B+C
 | [],_,_,_=>by simp [Pl.plE]
 | _ :: _,[],_,_=>by simp [Pl.plE]
 | x :: a,y :: b,h1,h2=>by
  intro u hu;have hu':u=x+y∨u∈Pl.plE a b:=by simpa [Pl.plE] using hu
  rcases hu' with rfl|hu
  · have:=h1 x (by simp); have:=h2 y (by simp); omega
  · exact plE_bnd (fun z hz=>h1 z (by simp [hz])) (fun z hz=>h2 z (by simp [hz])) u hu
theorem fits_SB {D Y b:Nat} {p:List Pl.Tm} (h:Pl.SB D Y p) (hD:0<D) (h1:D<P2 b) (h2:p.length*Y<P2 b) (hb:b≤1920) (hk:∀ t∈p,t.1.length=6∧∀ x∈t.1,0≤x∧x≤1099511627776) (hl:p.length≤1000000):FitsP p:=by
 refine ⟨fun e he => ?_,hl⟩;obtain ⟨t,ht,rfl⟩:=Pl.coef_present he;exact ⟨RB.str ((h.coef t.1).rb hD h1 h2) hb,hk t ht⟩
theorem mulOK_SB {D E Y Z b:Nat} {la lb:List Pl.Tm} (ha:Pl.SB D Y la) (hb:Pl.SB E Z lb) (hD:0<D) (hE:0<E) (d1:D<P2 256) (d2:E<P2 256) (y1:Y<P2 1000) (y2:Z<P2 1000) (ka:Lo la) (kb:Lo lb) (na:la.length≤1000) (nb:lb.length≤1000) (hz:la.length*lb.length*(Y*Z)<P2 b) (hb1:512≤b) (hb2:b≤1920):MulOK la lb where
 ba:=fun t ht=>(ha t ht).rb hD (P2_lt d1 (by omega)) y1
 bb:=fun t ht=>(hb t ht).rb hE (P2_lt d2 (by omega)) y2
 ea:=ka.small
 eb:=kb.small
 lla:=Nat.lt_of_le_of_lt (ha.lcm hD) d1
 llb:=Nat.lt_of_le_of_lt (hb.lcm hE) d2
 na:=by omega
 nb:=by omega
 fits:=by
  have hlen:=prodT_len la lb;have hle:la.length*lb.length≤1000*1000:=Nat.mul_le_mul na nb;refine fits_SB (ha.prod hb) (Nat.mul_pos hD hE) (P2_lt (P2_mul d1 d2) hb1) (by rw [hlen]; exact hz) hb2 (fun t ht => ?_) (by rw [hlen]; omega);obtain ⟨x,hx,y,hy,e⟩:=prodT_key ht;rw [e,Pl.plE_len (by rw [(ka x hx).1,(kb y hy).1])];refine ⟨(ka x hx).1,fun z hz => ?_⟩;have:=plE_bnd (ka x hx).2 (kb y hy).2 z hz;omega
theorem sumOK_SB {D Y b:Nat} {p:List Pl.Tm} (h:Pl.SB D Y p) (hD:0<D) (h1:D<P2 b) (h2:p.length*Y<P2 b) (hb:b≤1920) (hk:Lo p) (hl:p.length≤1000):SumOK p where
 pre:=fun a s e x=>by
  have ha:Pl.SB D Y a:=fun t ht=>h t (by rw [←e]; simp [ht]);have hla:a.length≤p.length:=by rw [←e]; simp
  exact ((ha.coef x).rb hD h1 (Nat.lt_of_le_of_lt (Nat.mul_le_mul_right _ hla) h2)).mono (by omega)
 each:=fun t ht=>((h t ht).rb hD h1 (Nat.lt_of_le_of_lt (by
  have:1≤p.length:=List.length_pos_of_mem ht;have:=Nat.mul_le_mul_right Y this
  omega) h2)).mono (by omega)
 fits:=fits_SB h hD h1 h2 hb (fun t ht=>⟨(hk t ht).1,fun x hx=>by have:=(hk t ht).2 x hx; omega⟩) (by omega)
theorem txt_pow {q:Rat} {k:Nat} (h:(txt q).length≤k):q.num.natAbs<10^k :=
 Nat.lt_of_lt_of_le (txt_dec q).1 (Nat.pow_le_pow_right (by omega) h)
theorem rdP_SB {va:Int} {ts:List Tx} {l:List Pl.Tm} {nt d B:Nat} (h:rdP va ts=some l) (hs:smallP ts nt d) (hd:3≤d) (hB:10^d≤P2 B) :
 ∃ D,0<D∧D<P2 (4*(d-2)*nt+1)∧Pl.SB D (P2 (B+(4*(d-2)*nt+1))) l:=by
 have hm:∀ t∈l,(txt t.2).length≤d:=by
  intro m hm;obtain ⟨t,ht,hr⟩:=rdP_mem h hm;have h1:=readQ_eq (rdT_parts hr).1;rw [←h1];exact (hs.2 t ht).1
 have hlen:=rdP_len h;have hD:lcmD (l.map (·.2))<P2 (4*(d-2)*nt+1):=by
  have h1:=lcmD_bnd (l:=l.map (·.2)) (b:=4*(d-2)) (fun q hq=>by
   obtain ⟨t,ht,rfl⟩:=List.mem_map.1 hq
   exact txt_den (k:=d-2) (by have:=hm t ht; omega) (by omega))
  refine P2_lt h1 ?_;have h2:l.length≤nt:=by rw [hlen]; exact hs.1
  have:=Nat.mul_le_mul_left (4*(d-2)) h2;rw [List.length_map];omega
 refine ⟨_,lcmD_pos (l.map (·.2)),hD,(Pl.SB.of (Y:=P2 B) (fun t ht => ?_)).mono ?_⟩
 · have:=txt_pow (hm t ht);omega
 · rw [P2_add];exact Nat.mul_le_mul_left _ (Nat.le_of_lt hD)
open Classical in
noncomputable def mulA (va vb:Int) (oa ob:Option (List Pl.Tm)):Int×List Tx×Int :=
 match oa,ob with
 | some la,some lb=>if va=vb then (if la≠[]∧lb≠[]∧24<degL la+degL lb then (0,[],2) else resQ va (Pl.prodT la lb)) else (0,[],4)
 | _,_=>(0,[],1)
noncomputable def addA (va vb:Int) (oa ob:Option (List Pl.Tm)):Int×List Tx×Int :=
 match oa,ob with
 | some la,some lb=>if va=vb then resQ va (la ++ lb) else (0,[],4)
 | _,_=>(0,[],1)
theorem RetMul.a {w:World} {va vb:Int} {oa ob:Option (List Pl.Tm)} {e:Ending} {w':World} (h:RetMul w va vb oa ob e w'):RetA3 w (mulA va vb oa ob) e w':=by
 unfold mulA;rcases h with ⟨la,lb,rfl,rfl,hv,h⟩|⟨hs,hv,h⟩|⟨hs,h⟩
 · simp only [if_pos hv];rcases h with ⟨hc,h⟩|⟨hc,h⟩
   · rw [if_neg hc]; exact h
   · rw [if_pos hc]; exact h
 · cases oa <;> cases ob <;> simp at hs;simp only [if_neg hv];exact h
 · cases oa <;> cases ob <;> simp at hs <;> exact h
theorem RetAdd.a {w:World} {va vb:Int} {oa ob:Option (List Pl.Tm)} {e:Ending} {w':World} (h:RetAdd w va vb oa ob e w'):RetA3 w (addA va vb oa ob) e w':=by
 unfold addA;rcases h with ⟨la,lb,rfl,rfl,hv,h⟩|⟨hs,hv,h⟩|⟨hs,h⟩
 · simp only [if_pos hv];exact h
 · cases oa <;> cases ob <;> simp at hs;simp only [if_neg hv];exact h
 · cases oa <;> cases ob <;> simp at hs <;> exact h
theorem resQ_congr {v:Int} {p q:List Pl.Tm} (h:∀ e,Pl.coef p e=Pl.coef q e):resQ v p=resQ v q:=by
 unfold resQ;rw [cnP_congr h]
theorem resQ_ok {v:Int} {p:List Pl.Tm} (hv:0≤v∧v≤6) (hi:∀ t∈p,InV v.toNat t.1) (h:(resQ v p).2.2=0):(resQ v p).1=v∧rdP v (resQ v p).2.1=some (cnP p):=by
 obtain ⟨k,rfl⟩:∃ k:Nat,v=(k:Int):=⟨v.toNat,by omega⟩;rw [Int.toNat_natCast] at hi;rcases resQ_back (vars:=k) (by omega) hi with ⟨h1,h2,h3⟩|⟨h1,h2⟩
 · rw [h2]; exact ⟨rfl,h3⟩
 · rw [h2] at h; cases h
theorem mulA_ok {va vb:Int} {oa ob:Option (List Pl.Tm)} (h:(mulA va vb oa ob).2.2=0):∃ la lb,oa=some la∧ob=some lb∧va=vb∧¬ (la≠[]∧lb≠[]∧24<degL la+degL lb)∧mulA va vb oa ob=resQ va (Pl.prodT la lb):=by
 unfold mulA at h ⊢;cases oa with
 | none=>cases h
 | some la =>
 cases ob with
 | none=>cases h
 | some lb =>
 simp only at h ⊢;by_cases hv:va=vb
 · rw [if_pos hv] at h ⊢;by_cases hc:la≠[]∧lb≠[]∧24<degL la+degL lb
   · rw [if_pos hc] at h;cases h
   · rw [if_neg hc];exact ⟨la,lb,rfl,rfl,hv,hc,rfl⟩
 · rw [if_neg hv] at h;cases h
structure Pv (v:Int) (l:List Pl.Tm):Prop where
 v0:0≤v∧v≤6
 can:Pl.Canon 6 l
 inv:∀ t∈l,InV v.toNat t.1
theorem Pv.of {v:Int} {ts:List Tx} {l:List Pl.Tm} (h:rdP v ts=some l):Pv v l:=by
 have hv:=(rdP_parts h).1;refine ⟨hv,rdP_canon h, ?_⟩;obtain ⟨k,rfl⟩:∃ k:Nat,v=(k:Int):=⟨v.toNat,by omega⟩;rw [Int.toNat_natCast];exact rdP_InV h
theorem InV.pl {n:Nat} {a b:List Int} (ha:InV n a) (hb:InV n b):InV n (Pl.plE a b):=by
 obtain ⟨a1,a2,a3⟩:=ha;obtain ⟨b1,b2,b3⟩:=hb;refine ⟨by rw [Pl.plE_len (by omega),a1],fun x hx => ?_, ?_⟩
 · have key:∀ {a b:List Int},(∀ x∈a,0≤x)→(∀ x∈b,0≤x)→∀ x∈Pl.plE a b,0≤x:=by
    intro a
    induction a with
    | nil=>intro b _ _ x hx; simp [Pl.plE] at hx
    | cons u a ih =>
     intro b h1 h2 x hx;cases b with
     | nil=>simp [Pl.plE] at hx
     | cons w b =>
      have hx':x=u+w∨x∈Pl.plE a b:=by simpa [Pl.plE] using hx
      rcases hx' with rfl|hx
      · have:=h1 u (by simp); have:=h2 w (by simp); omega
      · exact ih (fun z hz=>h1 z (by simp [hz])) (fun z hz=>h2 z (by simp [hz])) x hx
   exact key a2 b2 x hx
 · unfold pad6 at a3 b3 ⊢;have e1:(Pl.plE a b).take n=Pl.plE (a.take n) (b.take n):=by unfold Pl.plE; rw [List.take_zipWith]
   have la:(a.take n).length=(b.take n).length:=by simp [a1,b1]
   have e2:Pl.plE (a.take n ++ List.replicate (6-(a.take n).length) 0) (b.take n ++ List.replicate (6-(b.take n).length) 0)=Pl.plE (a.take n) (b.take n) ++ List.replicate (6-(a.take n).length) 0:=by
    unfold Pl.plE;rw [List.zipWith_append la,←la];congr 1;rw [List.zipWith_replicate];simp
   rw [a3,b3] at e2;rw [e1,e2,Pl.plE_len la]
theorem prod_InV {n:Nat} {a b:List Pl.Tm} (ha:∀ t∈a,InV n t.1) (hb:∀ t∈b,InV n t.1):∀ t∈Pl.prodT a b,InV n t.1:=by
 intro t ht;obtain ⟨x,hx,y,hy,e⟩:=prodT_key ht;rw [e];exact (ha x hx).pl (hb y hy)
theorem app_InV {n:Nat} {a b:List Pl.Tm} (ha:∀ t∈a,InV n t.1) (hb:∀ t∈b,InV n t.1):∀ t∈a ++ b,InV n t.1:=fun t ht=>(List.mem_append.1 ht).elim (ha t) (hb t)
theorem Pv.prod {v:Int} {a b:List Pl.Tm} (ha:Pv v a) (hb:Pv v b):Pv v (cnP (Pl.prodT a b)) :=
 ⟨ha.v0,(cnP_spec fun t ht=>(prod_InV ha.inv hb.inv t ht).1).1,cnP_InV (prod_InV ha.inv hb.inv)⟩
theorem Pv.app {v:Int} {a b:List Pl.Tm} (ha:Pv v a) (hb:Pv v b):Pv v (cnP (a ++ b)) :=
 ⟨ha.v0,(cnP_spec fun t ht=>(app_InV ha.inv hb.inv t ht).1).1,cnP_InV (app_InV ha.inv hb.inv)⟩
theorem Pv.cprod {v:Int} {a b:List Pl.Tm} (ha:Pv v a) (hb:Pv v b) (e:List Int):Pl.coef (cnP (Pl.prodT a b)) e=Pl.coef (Pl.prodT a b) e:=(cnP_spec fun t ht=>(prod_InV ha.inv hb.inv t ht).1).2 e
theorem resQ_fine {v:Int} {p:List Pl.Tm} (hi:∀ t∈p,InV v.toNat t.1) (hl:p.length≤4096) (hs:∀ t∈p,t.1.sum≤24):(resQ v p).2.2=0:=by
 have h6:∀ t∈p,t.1.length=6:=fun t ht=>(hi t ht).1;unfold resQ;rw [if_pos];refine ⟨Nat.le_trans (cnP_len h6) hl,fun t r e => ?_⟩;obtain ⟨s,hs',e'⟩:=cnP_key h6 (t:=t) (by rw [e]; simp);rw [←e'];exact validS_iff.2 ⟨by rw [h6 s hs']; omega,(hi s hs').2.1,hs s hs'⟩
theorem P2_slt {a b:Nat} (h:a<b):P2 a<P2 b:=Nat.pow_lt_pow_right (by omega) h
structure Bd (v:Int) (N d y:Nat) (l:List Pl.Tm):Prop where
 pv:Pv v l
 lo:Lo l
 len:l.length≤N
 sb:∃ D,0<D∧D<P2 d∧Pl.SB D (P2 y) l
section
variable {v:Int} {N M d e y z:Nat} {la lb:List Pl.Tm} {ts:List Tx}
theorem Bd.of {nt k B:Nat} (h:rdP v ts=some la) (hs:smallP ts nt k) (hd:3≤k) (hB:10^k≤P2 B):Bd v nt (4*(k-2)*nt+1) (B+(4*(k-2)*nt+1)) la :=
 ⟨Pv.of h,rdP_exps h,by rw [rdP_len h]; exact hs.1,rdP_SB h hs hd hB⟩
theorem Lo.of {l:List Pl.Tm} (h:rdP v ts=some l):Lo l:=rdP_exps h
theorem Bd.prod {k:Nat} (ha:Bd v N d y la) (hb:Bd v M e z lb) (h:rdP v ts=some (cnP (Pl.prodT la lb))) (hk:N*M≤P2 k):Bd v (N*M) (d+e) (k+(y+z)) (cnP (Pl.prodT la lb)):=by
 have h6:∀ t∈Pl.prodT la lb,t.1.length=6:=fun t ht=>(prod_InV ha.pv.inv hb.pv.inv t ht).1;have hl:(Pl.prodT la lb).length≤N*M:=by rw [prodT_len]; exact Nat.mul_le_mul ha.len hb.len
 obtain ⟨D,h1,h2,h3⟩:=ha.sb;obtain ⟨E,g1,g2,g3⟩:=hb.sb;refine ⟨ha.pv.prod hb.pv,rdP_exps h,Nat.le_trans (cnP_len h6) hl,D*E,Nat.mul_pos h1 g1,P2_mul h2 g2,(SB.cn h6 (h3.prod g3)).mono ?_⟩;rw [P2_add k,P2_add y];exact Nat.mul_le_mul_right _ (Nat.le_trans hl hk)
theorem Bd.app1 {m:Nat} (ha:Bd v N d y la) (hb:Bd v M e z lb) (h1:y+e<m) (h2:z+d<m):(la ++ lb).length≤N+M∧∃ D,0<D∧D<P2 (d+e)∧Pl.SB D (P2 m) (la ++ lb):=by
 obtain ⟨D,a1,a2,a3⟩:=ha.sb;obtain ⟨E,g1,g2,g3⟩:=hb.sb;refine ⟨by have:=ha.len; have:=hb.len; rw [List.length_append]; omega,D*E,Nat.mul_pos a1 g1,P2_mul a2 g2,(a3.app2 g3).mono ?_⟩;have k1:P2 y*E≤P2 (m-1):=by
  refine Nat.le_trans ?_ (P2_le (a:=y+e) (by omega));rw [P2_add];exact Nat.mul_le_mul_left _ (Nat.le_of_lt g2)
 have k2:P2 z*D≤P2 (m-1):=by
  refine Nat.le_trans ?_ (P2_le (a:=z+d) (by omega));rw [P2_add];exact Nat.mul_le_mul_left _ (Nat.le_of_lt a2)
 have k3:P2 m=P2 (m-1)*2:=by
  conv=>lhs; rw [show m=m-1+1 by omega,P2_add]
  rfl
 omega
theorem Bd.app {k m:Nat} (ha:Bd v N d y la) (hb:Bd v M e z lb) (h:rdP v ts=some (cnP (la ++ lb))) (h1:y+e<m) (h2:z+d<m) (hk:N+M≤P2 k):Bd v (N+M) (d+e) (k+m) (cnP (la ++ lb)):=by
 have h6:∀ t∈la ++ lb,t.1.length=6:=fun t ht=>(app_InV ha.pv.inv hb.pv.inv t ht).1;obtain ⟨hl,D,g1,g2,g3⟩:=ha.app1 hb h1 h2;refine ⟨ha.pv.app hb.pv,rdP_exps h,Nat.le_trans (cnP_len h6) hl,D,g1,g2,(SB.cn h6 g3).mono ?_⟩;rw [P2_add];exact Nat.mul_le_mul_right _ (Nat.le_trans hl hk)
theorem Bd.mul {k:Nat} (ha:Bd v N d y la) (hb:Bd v M e z lb) (hk:N*M≤P2 k) (h1:d≤256∧e≤256) (h2:y<1000∧z<1000) (h3:N≤1000∧M≤1000) (h4:k+(y+z)<1920):MulOK la lb:=by
 obtain ⟨D,a1,a2,a3⟩:=ha.sb;obtain ⟨E,g1,g2,g3⟩:=hb.sb;refine mulOK_SB (b:=1920) a3 g3 a1 g1 (P2_lt a2 h1.1) (P2_lt g2 h1.2) (P2_slt h2.1) (P2_slt h2.2) ha.lo hb.lo (by have:=ha.len; omega) (by have:=hb.len; omega) ?_ (by omega) (by omega);refine Nat.lt_of_le_of_lt ?_ (P2_slt h4);rw [P2_add k,P2_add y];exact Nat.mul_le_mul_right _ (Nat.le_trans (Nat.mul_le_mul ha.len hb.len) hk)
theorem Bd.sum {k m:Nat} (ha:Bd v N d y la) (hb:Bd v M e z lb) (h1:y+e<m) (h2:z+d<m) (hk:N+M≤P2 k) (h3:N+M≤1000) (h4:k+m<1920) (h5:d+e≤1920):SumOK (la ++ lb):=by
 obtain ⟨hl,D,g1,g2,g3⟩:=ha.app1 hb h1 h2;refine sumOK_SB (b:=1920) g3 g1 (P2_lt g2 h5) ?_ (by omega) (fun t ht=>(List.mem_append.1 ht).elim (ha.lo t) (hb.lo t)) (by omega);refine Nat.lt_of_le_of_lt ?_ (P2_slt h4);rw [P2_add];exact Nat.mul_le_mul_right _ (Nat.le_trans hl hk)
theorem Bd.text (ha:Bd v N d y la) (h:rdP v ts=some la) (h1:d≤840) (h2:y<840):∀ t∈ts,t.1.length≤570:=by
 intro t ht;obtain ⟨D,a1,a2,a3⟩:=ha.sb;have hw:=rdP_wrT h;rw [←hw] at ht;obtain ⟨m,hm,rfl⟩:=List.mem_map.1 ht;have:=txt_len ((a3 m hm).rb a1 (P2_lt a2 h1) (P2_slt h2));show (txt m.2).length≤570;omega
end
def mp (n:Nat) (a e:List Int):List Int:=pad6 (mvd a (e.take n))
def actL (n:Nat) (a:List Int) (l:List Pl.Tm):List Pl.Tm:=l.map fun t=>(mp n a t.1,t.2)
theorem pad_take {l:List Int}:(pad6 l).take l.length=l:=by unfold pad6; exact List.take_left
theorem plE_at {e f:List Int} {i:Nat} (h1:i<e.length) (h2:i<f.length):(Pl.plE e f).getD i 0=e.getD i 0+f.getD i 0:=by
 simp [Pl.plE,List.getD_eq_getElem?_getD,List.getElem?_zipWith,h1,h2]
theorem plE_pad {l k:List Int} (h:l.length=k.length):Pl.plE (pad6 l) (pad6 k)=pad6 (Pl.plE l k):=by
 unfold Pl.plE pad6;rw [List.zipWith_append h,List.length_zipWith,h,Nat.min_self];congr 1;simp
theorem mvd_pl {a e f:List Int} (hp:permB a=true) (he:e.length=a.length) (hf:f.length=a.length):mvd a (Pl.plE e f)=Pl.plE (mvd a e) (mvd a f):=by
 have hl:(Pl.plE e f).length=a.length:=by rw [Pl.plE_len (he.trans hf.symm),he]
 refine perm_ext (d:=0) hp (by rw [mvd_len,hl]) (by rw [Pl.plE_len (by rw [mvd_len,mvd_len,he,hf]),mvd_len,he]) fun i hi => ?_;have h0:=perm_at hp hi;rw [mvd_at hp hl hi,plE_at (by omega) (by omega),plE_at (by rw [mvd_len]; omega) (by rw [mvd_len]; omega),mvd_at hp he hi,mvd_at hp hf hi]
theorem fold_perm {l m:List Rat} (h:l.Perm m):∀ b,l.foldl (·*·) b=m.foldl (·*·) b:=by
 induction h with
 | nil=>exact fun b=>rfl
 | cons x _ ih=>exact fun b=>ih _
 | swap x y l =>
  intro b;show l.foldl (·*·) (b*y*x)=l.foldl (·*·) (b*x*y);rw [Rat.mul_assoc,Rat.mul_comm y x,←Rat.mul_assoc]
 | trans _ _ h1 h2=>exact fun b=>(h1 b).trans (h2 b)
theorem valE_fold (pt:List Rat) (es:List Int):∀ k,Pl.valE pt es k=((List.range k).map fun v=>(pt.getD v 0)^(es.getD v 0).toNat).foldl (·*·) 1
 | 0=>rfl
 | k+1=>by
  rw [List.range_succ,List.map_append,List.foldl_append,←valE_fold];rfl
theorem evq_lin (pt:List Rat):∀ l:List Pl.Tm,Pl.evq pt l=Pl.lin (fun e=>Pl.valE pt e pt.length) l
 | []=>rfl
 | t :: r=>by
  show t.2*_+Pl.evq pt r=t.2*_+_;rw [evq_lin pt r]
theorem evq_ext {pt:List Rat} {p q:List Pl.Tm} (h:∀ e,Pl.coef p e=Pl.coef q e):Pl.evq pt p=Pl.evq pt q:=by
 rw [evq_lin,evq_lin];exact Pl.lin_ext h
section
variable {n:Nat} {a b e f:List Int} {l k p q:List Pl.Tm}
theorem InV.tk (h:InV n e) (hn:n≤6):(e.take n).length=n:=by rw [List.length_take,h.1]; omega
theorem mp_take (hn:n≤6) (h:InV n e):(mp n a e).take n=mvd a (e.take n):=by
 have h1:(mvd a (e.take n)).length=n:=by rw [mvd_len]; exact h.tk hn
 have:=pad_take (l:=mvd a (e.take n));rw [h1] at this;exact this
theorem mp_InV (hp:permB a=true) (ha:a.length=n) (hn:n≤6) (h:InV n e):InV n (mp n a e) :=
 InV.pad (by rw [mvd_len]; exact h.tk hn) hn fun x hx=>h.2.1 x (List.mem_of_mem_take (mvd_mem hp (by rw [h.tk hn,ha]) hx))
theorem mp_mp (hp:permB a=true) (hb:permB b=true) (ha:a.length=n) (hl:b.length=n) (hn:n≤6) (h:InV n e):mp n a (mp n b e)=mp n (comp a b) e:=by
 show pad6 (mvd a ((mp n b e).take n))=_;rw [mp_take hn h,mvd_mvd hp hb (by omega) (by rw [h.tk hn,hl])];rfl
theorem mp_sum (hp:permB a=true) (ha:a.length=n) (hn:n≤6) (h:InV n e):(mp n a e).sum=e.sum:=by
 unfold mp;rw [sum_pad,perm_sum (mvd_perm hp (by rw [h.tk hn,ha]))]
 conv=>rhs; rw [←h.2.2,sum_pad]
theorem mp_pl (hp:permB a=true) (ha:a.length=n) (hn:n≤6) (h:InV n e) (h':InV n f):mp n a (Pl.plE e f)=Pl.plE (mp n a e) (mp n a f):=by
 have ht:(Pl.plE e f).take n=Pl.plE (e.take n) (f.take n):=List.take_zipWith;unfold mp;rw [ht,mvd_pl hp (by rw [h.tk hn,ha]) (by rw [h'.tk hn,ha]),plE_pad (by rw [mvd_len,mvd_len,h.tk hn,h'.tk hn])]
theorem mp_inj (hp:permB a=true) (ha:a.length=n) (hn:n≤6) (h:InV n e) (h':InV n f) (he:mp n a e=mp n a f):e=f:=by
 have h1:mvd a (e.take n)=mvd a (f.take n):=by rw [←mp_take hn h,←mp_take hn h',he]
 have h2:e.take n=f.take n:=by
  apply List.ext_getElem (by rw [h.tk hn,h'.tk hn]);intro i i1 i2;rw [h.tk hn] at i1;have g1:=mvd_at hp (m:=e.take n) (by rw [h.tk hn,ha]) (i:=i) (by omega);have g2:=mvd_at hp (m:=f.take n) (by rw [h'.tk hn,ha]) (i:=i) (by omega);rw [h1,g2] at g1;simpa [List.getD_eq_getElem?_getD,h.tk hn,h'.tk hn,i1] using g1.symm
 rw [←h.2.2,←h'.2.2,h2]
theorem lin_act (F:List Int→Rat):∀ l:List Pl.Tm,Pl.lin F (actL n a l)=Pl.lin (fun m=>F (mp n a m)) l
 | []=>rfl
 | t :: r=>by
  show t.2*F (mp n a t.1)+Pl.lin F (actL n a r)=t.2*F (mp n a t.1)+_;rw [lin_act F r]
theorem coef_act_ext (h:∀ e,Pl.coef p e=Pl.coef q e) (e:List Int):Pl.coef (actL n a p) e=Pl.coef (actL n a q) e:=by
 rw [Pl.coef_lin,Pl.coef_lin,lin_act,lin_act];exact Pl.lin_ext h
theorem coef_act (hp:permB a=true) (ha:a.length=n) (hn:n≤6) (hi:∀ t∈l,InV n t.1) (h:InV n e):Pl.coef (actL n a l) (mp n a e)=Pl.coef l e:=by
 rw [Pl.coef_lin,Pl.coef_lin,lin_act];refine Pl.lin_congr fun t ht => ?_;show (if mp n a t.1=mp n a e then (1:Rat) else 0)=if t.1=e then 1 else 0
 by_cases hc:t.1=e
 · rw [hc,if_pos rfl,if_pos rfl]
 · rw [if_neg hc,if_neg fun he=>hc (mp_inj hp ha hn (hi t ht) h he)]
theorem act_act (hp:permB a=true) (hb:permB b=true) (ha:a.length=n) (hl:b.length=n) (hn:n≤6) (hi:∀ t∈l,InV n t.1):actL n a (actL n b l)=actL n (comp a b) l:=by
 unfold actL;rw [List.map_map];refine List.map_congr_left fun t ht => ?_;show (mp n a (mp n b t.1),t.2)=_;rw [mp_mp hp hb ha hl hn (hi t ht)]
theorem act_prod (hp:permB a=true) (ha:a.length=n) (hn:n≤6) (hi:∀ t∈l,InV n t.1) (hk:∀ t∈k,InV n t.1):actL n a (Pl.prodT l k)=Pl.prodT (actL n a l) (actL n a k):=by
 unfold actL Pl.prodT;rw [List.map_flatMap,List.flatMap_map];refine Pl.fm_congr fun s hs => ?_;rw [List.map_map,List.map_map];refine List.map_congr_left fun t ht => ?_;show (mp n a (Pl.plE s.1 t.1),s.2*t.2)=(Pl.plE (mp n a s.1) (mp n a t.1),s.2*t.2);rw [mp_pl hp ha hn (hi s hs) (hk t ht)]
theorem act_mem {u:Pl.Tm} (hu:u∈actL n a l):∃ t∈l,u=(mp n a t.1,t.2):=by
 obtain ⟨t,ht,rfl⟩:=List.mem_map.1 hu;exact ⟨t,ht,rfl⟩
theorem act_InV (hp:permB a=true) (ha:a.length=n) (hn:n≤6) (hi:∀ t∈l,InV n t.1):∀ u∈actL n a l,InV n u.1:=by
 intro u hu;obtain ⟨t,ht,rfl⟩:=act_mem hu;exact mp_InV hp ha hn (hi t ht)
theorem act_len:(actL n a l).length=l.length:=List.length_map ..
theorem valE_mp {pt pt':List Rat} (hp:permB a=true) (ha:a.length=n) (hn:n≤6) (h:InV n e) (hpt:∀ i,i<n→pt'.getD (a.getD i 0).toNat 0=pt.getD i 0):Pl.valE pt' (mp n a e) n=Pl.valE pt e n:=by
 rw [valE_fold,valE_fold];have h1:=(perm_range hp).map (fun v=>(pt'.getD v 0)^((mp n a e).getD v 0).toNat);rw [List.map_map,ha] at h1;rw [←fold_perm h1];congr 1;refine List.map_congr_left fun i hi => ?_;have hi':=List.mem_range.1 hi;have h0:=perm_at hp (i:=i) (by omega);show pt'.getD (a.getD i 0).toNat 0^((mp n a e).getD (a.getD i 0).toNat 0).toNat=pt.getD i 0^(e.getD i 0).toNat
 have h2:(mp n a e).getD (a.getD i 0).toNat 0=e.getD i 0:=by
  unfold mp;rw [pad6_getD (by rw [mvd_len,h.tk hn]; omega),mvd_at hp (by rw [h.tk hn,ha]) (by omega)];simp [List.getD_eq_getElem?_getD,hi']
 rw [hpt i hi',h2]
theorem evq_act {pt pt':List Rat} (hp:permB a=true) (ha:a.length=n) (hn:n≤6) (hi:∀ t∈l,InV n t.1) (hl:pt.length=n) (hl':pt'.length=n) (hpt:∀ i,i<n→pt'.getD (a.getD i 0).toNat 0=pt.getD i 0):Pl.evq pt' (actL n a l)=Pl.evq pt l:=by
 rw [evq_lin,evq_lin,lin_act,hl,hl'];exact Pl.lin_congr fun t ht=>valE_mp hp ha hn (hi t ht) hpt
end
noncomputable def actA (va:Int) (a:List Int) (o:Option (List Pl.Tm)):Int×List Tx×Int:=match o with | some l=>resQ va (actL va.toNat a l) | none=>(0,[],1)
section
variable {va:Int} {n N d y:Nat} {a b:List Int} {l k:List Pl.Tm} {ts:List Tx}
theorem rdP_sum24 (h:rdP va ts=some l):∀ t∈l,t.1.sum≤24:=by
 have hc:=rdP_canon h;have hk:=rdP_okW h;cases l with
 | nil=>intro t ht; cases ht
 | cons t r =>
  intro s hs;have h1:=canon_sum hc s hs;have h2:=(validS_iff.1 (hk.2 t r rfl)).2.2;omega
theorem act_cn (pv:Pv (n:Int) l) (hp:permB a=true) (ha:a.length=n) (hn:n≤6) (e:List Int):Pl.coef (cnP (actL n a l)) e=Pl.coef (actL n a l) e :=
 (cnP_spec fun t ht=>(act_InV hp ha hn pv.inv t ht).1).2 e
theorem act_cn_mem (pv:Pv (n:Int) l) (hp:permB a=true) (ha:a.length=n) (hn:n≤6) {t:Pl.Tm} (ht:t∈cnP (actL n a l)):∃ s∈l,t=(mp n a s.1,s.2):=by
 have hI:=act_InV hp ha hn pv.inv;have hs:=cnP_spec fun t ht=>(hI t ht).1;obtain ⟨u,hu,e1⟩:=cnP_key (fun t ht=>(hI t ht).1) ht;obtain ⟨s,hs1,rfl⟩:=act_mem hu;have h1:=Pl.coef_mem (canon_nrm hs.1).nodup ht;rw [←e1,hs.2,coef_act hp ha hn pv.inv (pv.inv s hs1),Pl.coef_mem (canon_nrm pv.can).nodup hs1] at h1;exact ⟨s,hs1,Prod.ext e1.symm h1.symm⟩
theorem Bd.act (h:Bd (n:Int) N d y l) (hp:permB a=true) (ha:a.length=n) (hn:n≤6) (h3:rdP (n:Int) ts=some (cnP (actL n a l))):Bd (n:Int) N d y (cnP (actL n a l)):=by
 have hI:=act_InV hp ha hn h.pv.inv;obtain ⟨D,d1,d2,d3⟩:=h.sb;refine ⟨Pv.of h3,rdP_exps h3,Nat.le_trans (cnP_len fun t ht=>(hI t ht).1) (by rw [act_len]; exact h.len),D,d1,d2,fun t ht => ?_⟩;obtain ⟨s,hs,rfl⟩:=act_cn_mem h.pv hp ha hn ht;exact d3 s hs
theorem act_ok (h:rdP (n:Int) ts=some l) (hp:permB a=true) (ha:a.length=n):∃ t,actA n a (some l)=((n:Int),t,0)∧rdP (n:Int) t=some (cnP (actL n a l)):=by
 have pv:=Pv.of h;have hn:n≤6:=by have:=pv.v0; omega
 have hI:=act_InV hp ha hn pv.inv;have hL:=(rdP_parts h).2.1
 have h0:(resQ (n:Int) (actL n a l)).2.2=0:=resQ_fine hI (by rw [act_len,rdP_len h]; exact hL) (fun u hu=>by
  obtain ⟨t,ht,rfl⟩:=act_mem hu;show (mp n a t.1).sum≤24;rw [mp_sum hp ha hn (pv.inv t ht)]
  exact rdP_sum24 h t ht)
 obtain ⟨g1,g2⟩:=resQ_ok pv.v0 hI h0;refine ⟨(resQ (n:Int) (actL n a l)).2.1, ?_,g2⟩;show resQ (n:Int) (actL n a l)=_
 conv=>lhs; rw [←Prod.eta (resQ (n:Int) (actL n a l)),←Prod.eta (resQ (n:Int) (actL n a l)).2,g1,h0]
end
def Reach (gs:List (List Int)) (n:Nat) (p:List Int):Prop:=∃ ws:List (List Int),(∀ g∈ws,g∈gs)∧p=ws.foldr comp (idn n)
theorem reach_id (gs:List (List Int)) (n:Nat):Reach gs n (idn n):=⟨[],by simp,rfl⟩
theorem reach_step {gs:List (List Int)} {n:Nat} {g p:List Int} (hg:g∈gs) (h:Reach gs n p):Reach gs n (comp g p):=by
 obtain ⟨ws,h1,rfl⟩:=h;refine ⟨g :: ws, ?_,rfl⟩;intro x hx;rcases List.mem_cons.1 hx with rfl|hx
 · exact hg
 · exact h1 x hx
def PermsN (gs:List (List Int)) (n:Nat):Prop:=∀ g∈gs,permB g=true∧g.length=n
theorem reach_perm {gs:List (List Int)} {n:Nat} (hn:n≤6) (hg:PermsN gs n) {p:List Int} (h:Reach gs n p):permB p=true∧p.length=n:=by
 obtain ⟨ws,h1,rfl⟩:=h
 induction ws with
 | nil=>exact ⟨idn_perm hn,idn_len n⟩
 | cons g ws ih =>
  obtain ⟨i1,i2⟩:=ih (fun x hx=>h1 x (by simp [hx]));obtain ⟨j1,j2⟩:=hg g (h1 g (by simp));exact ⟨comp_perm j1 i1 (by rw [j2,i2]),by rw [List.foldr_cons,comp_len,i2]⟩
structure ClInv (gs:List (List Int)) (n:Nat) (L q:List (List Int)):Prop where
 nodup:L.Nodup
 reach:∀ p∈L,Reach gs n p
 one:idn n∈L
 sub:∀ p∈q,p∈L
 closed:∀ p∈L,p ∉ q→∀ g∈gs,comp g p∈L
 short:q.length≤L.length
theorem ClInv.start (gs:List (List Int)) (n:Nat):ClInv gs n [idn n] [idn n] :=
 ⟨by simp,by simp [reach_id],by simp,by simp,by simp,by simp⟩
theorem ClInv.done {gs:List (List Int)} {n:Nat} {L:List (List Int)} (h:ClInv gs n L []) (p:List Int):p∈L↔Reach gs n p:=by
 refine ⟨h.reach p, ?_⟩;rintro ⟨ws,h1,rfl⟩
 induction ws with
 | nil=>exact h.one
 | cons g ws ih=>exact h.closed _ (ih (fun x hx=>h1 x (by simp [hx]))) (by simp) g (h1 g (by simp))
structure ClIn (gs:List (List Int)) (n:Nat) (L q:List (List Int)) (a:List Int) (j:Nat):Prop where
 nodup:L.Nodup
 reach:∀ p∈L,Reach gs n p
 one:idn n∈L
 sub:∀ p∈q,p∈L
 mem:a∈L
 closed:∀ p∈L,p ∉ q→p≠a→∀ g∈gs,comp g p∈L
 part:∀ g∈gs.take j,comp g a∈L
 short:q.length≤L.length
theorem ClIn.start {gs:List (List Int)} {n:Nat} {L q:List (List Int)} {a:List Int} (h:ClInv gs n L (a :: q)):ClIn gs n L q a 0 :=
 ⟨h.nodup,h.reach,h.one,fun p hp=>h.sub p (by simp [hp]),h.sub a (by simp),fun p hp hq hne g hg=>h.closed p hp (by simp [hq,hne]) g hg,by simp,by have:=h.short; simp only [List.length_cons] at this; omega⟩
theorem ClIn.fin {gs:List (List Int)} {n:Nat} {L q:List (List Int)} {a:List Int} {j:Nat} (h:ClIn gs n L q a j) (hj:gs.length≤j):ClInv gs n L q:=by
 refine ⟨h.nodup,h.reach,h.one,h.sub,fun p hp hq g hg => ?_,h.short⟩;by_cases hpa:p=a
 · subst hpa;exact h.part g (by rw [List.take_of_length_le hj]; exact hg)
 · exact h.closed p hp hq hpa g hg
theorem mem_take_succ {gs:List (List Int)} {j:Nat} (hj:j<gs.length) {g:List Int} (h:g∈gs.take (j+1)):g∈gs.take j∨g=gs.getD j []:=by
 rw [List.take_succ_eq_append_getElem hj,List.mem_append] at h;rcases h with h|h
 · exact Or.inl h
 · right;simp only [List.mem_singleton] at h;simp [List.getD_eq_getElem?_getD,hj,h]
theorem ClIn.old {gs:List (List Int)} {n:Nat} {L q:List (List Int)} {a:List Int} {j:Nat} (h:ClIn gs n L q a j) (hj:j<gs.length) (hb:comp (gs.getD j []) a∈L):ClIn gs n L q a (j+1):=by
 refine ⟨h.nodup,h.reach,h.one,h.sub,h.mem,h.closed,fun g hg => ?_,h.short⟩;rcases mem_take_succ hj hg with h1|rfl
 · exact h.part g h1
 · exact hb
theorem ClIn.new {gs:List (List Int)} {n:Nat} {L q:List (List Int)} {a:List Int} {j:Nat} (h:ClIn gs n L q a j) (hj:j<gs.length) (hb:comp (gs.getD j []) a ∉ L) :
 ClIn gs n (L ++ [comp (gs.getD j []) a]) (q ++ [comp (gs.getD j []) a]) a (j+1):=by
 have hg:gs.getD j []∈gs:=by simp [List.getD_eq_getElem?_getD,hj]
 refine ⟨?_, ?_,by simp [h.one], ?_,by simp [h.mem], ?_, ?_,by have:=h.short; simp; omega⟩
 · rw [List.nodup_append];refine ⟨h.nodup,by simp, ?_⟩;intro x hx y hy;simp only [List.mem_singleton] at hy;subst hy;rintro rfl;exact hb hx
 · intro p hp;rcases List.mem_append.1 hp with hp|hp
   · exact h.reach p hp
   · simp only [List.mem_singleton] at hp;subst hp;exact reach_step hg (h.reach a h.mem)
 · intro p hp;rcases List.mem_append.1 hp with hp|hp
   · simp [h.sub p hp]
   · exact List.mem_append_right _ hp
 · intro p hp hq hne g hg;simp only [List.mem_append,List.mem_singleton,not_or] at hq;rcases List.mem_append.1 hp with hp|hp
   · simp [h.closed p hp hq.1 hne g hg]
   · simp only [List.mem_singleton] at hp;exact absurd hp hq.2
 · intro g hg;rcases mem_take_succ hj hg with h1|rfl
   · simp [h.part g h1]
   · simp
theorem nodup_le:∀ (L M:List (List Int)),L.Nodup→(∀ x∈L,x∈M)→L.length≤M.length
 | [],_,_,_=>by simp
 | x :: L,M,hn,hs=>by
  rw [List.nodup_cons] at hn;have hx:x∈M:=hs x (by simp);have:=nodup_le L (M.erase x) hn.2 (fun y hy=>(List.mem_erase_of_ne (by rintro rfl; exact hn.1 hy)).2 (hs y (by simp [hy])));rw [List.length_erase_of_mem hx] at this;have:0<M.length:=List.length_pos_of_mem hx;simp only [List.length_cons];omega
theorem gen_len:∀ n,n<7→(gen n (idn n)).length≤720:=by decide +kernel
theorem reach_bound {gs:List (List Int)} {n:Nat} (hn:n≤6) (hg:PermsN gs n) {L:List (List Int)} (hnd:L.Nodup) (hr:∀ p∈L,Reach gs n p):L.length≤720:=by
 refine Nat.le_trans (nodup_le L (gen n (idn n)) hnd fun p hp => ?_) (gen_len n (by omega));obtain ⟨h1,h2⟩:=reach_perm hn hg (hr p hp);refine mem_gen n (idn n) p h2 (perm_spec h1).2.2 fun x hx=>mem_idn.2 ?_;have:=(perm_spec h1).2.1 x hx;rw [h2] at this;exact this
def kmap (L:List (List Int)):List (List Int×Value):=L.map (fun p=>(pad6 p,Value.bool true))
theorem kmap_keys (L:List (List Int)):(kmap L).map (·.1)=L.map pad6:=by simp [kmap]
theorem mem_pad {n:Nat} {L:List (List Int)} {p:List Int} (hL:∀ x∈L,x.length=n) (hp:p.length=n):pad6 p∈L.map pad6↔p∈L:=by
 rw [List.mem_map];constructor
 · rintro ⟨x,hx,e⟩
   rwa [←pad6_inj (by rw [hL x hx,hp]) e]
 · intro h;exact ⟨p,h,rfl⟩
theorem kmap_val {L:List (List Int)} {k:List Int} {i:Nat} {v:Value} (h:findE k 0 (kmap L)=some (i,v)):v = .bool true:=by
 obtain ⟨_,h2⟩:=findE_some h;have:=List.mem_of_getElem? h2;simp only [kmap,List.mem_map] at this;obtain ⟨x,_,e⟩:=this;exact ((Prod.mk.injEq ..).mp e).2.symm
theorem kmap_look {n:Nat} {L:List (List Int)} {p:List Int} (hL:∀ x∈L,x.length=n) (hp:p.length=n):lookD (.bool false) (kmap L) (pad6 p) = .bool (decide (p∈L)):=by
 unfold lookD;cases h:findE (pad6 p) 0 (kmap L) with
 | none =>
  have:=findE_none.1 h;rw [kmap_keys,mem_pad hL hp] at this;simp [this]
 | some q =>
  obtain ⟨i,v⟩:=q;have hv:=kmap_val h;have hm:p∈L:=by
   rw [←mem_pad hL hp,←kmap_keys];by_cases hx:pad6 p∈(kmap L).map (·.1)
   · exact hx
   · rw [←findE_none (i:=0)] at hx;rw [h] at hx;cases hx
  simp [hv,hm]
theorem kmap_put {n:Nat} {L:List (List Int)} {p:List Int} (hL:∀ x∈L,x.length=n) (hp:p.length=n) (hn:p ∉ L):putM (kmap L) (pad6 p) (.bool true)=kmap (L ++ [p]):=by
 have:findE (pad6 p) 0 (kmap L)=none:=by
  rw [findE_none,kmap_keys,mem_pad hL hp];exact hn
 unfold putM;rw [this];simp [kmap]
def QEl (w:World) (base:Nat) (qc:List Value) (q:List (List Int)):Prop:=∀ i,i<q.length→∃ a n c,qc.getD i undef = .slice a n c∧OwnI w base a n c (q.getD i [])
theorem QEl.ext {w w':World} {base:Nat} {qc:List Value} {q:List (List Int)} (h:QEl w base qc q) (e:Ext w w'):QEl w' base qc q :=
 fun i hi=>let ⟨a,n,c,h1,h2⟩:=h i hi; ⟨a,n,c,h1,h2.ext e⟩
theorem own_ne_map {w:World} {base:Nat} {e:TypeId} {a:Option Addr} {n c r:Nat} {cs:List Value} {m:List (List Int×Value)} (h:Own w base e a n c cs) (hm:MapIs w r m):blk a=none∨blk a≠some r:=by
 rcases h.2 with ⟨hv,_⟩|⟨g,cap,cur,hv,_,hh,_⟩
 · simp only [Value.slice.injEq] at hv;left;rw [hv.1];rfl
 · simp only [Value.slice.injEq] at hv;right;rw [hv.1];intro he;have:g=r:=by simpa [blk] using he
   subst this;have:=hm.obj;rw [hh] at this;cases this
theorem own_ne_ownO {w:World} {base base':Nat} {e e':TypeId} {a a':Option Addr} {n c n' c':Nat} {cs cs':List Value} (h:Own w base e a n c cs) (h':OwnO w base' e' a' n' c' cs') (hne:e≠e'):blk a=none∨blk a≠blk a':=by
 rcases h.2 with ⟨hv,_⟩|⟨g,cap,cur,hv,_,hh,_⟩
 · simp only [Value.slice.injEq] at hv;left;rw [hv.1];rfl
 · simp only [Value.slice.injEq] at hv;right;rw [hv.1];rcases h'.2.2.2 with ⟨ha,_⟩|⟨g',off,cur',ha,_,hh',_⟩
   · subst ha;simp [blk]
   · subst ha;intro he;have:g=g':=by simpa [blk] using he
     subst this;rw [hh] at hh';simp only [Option.some.injEq,Obj.cells.injEq] at hh';exact hne hh'.2.1
theorem ownO_ne_map {w:World} {base:Nat} {e:TypeId} {a:Option Addr} {n c r:Nat} {cs:List Value} {m:List (List Int×Value)} (h:OwnO w base e a n c cs) (hm:MapIs w r m):blk a=none∨blk a≠some r:=by
 rcases h.2.2.2 with ⟨ha,_⟩|⟨g,off,cur,ha,_,hh,_⟩
 · subst ha;exact Or.inl rfl
 · subst ha;right;intro he;have:g=r:=by simpa [blk] using he
   subst this;have:=hm.obj;rw [hh] at this;cases this
theorem QEl.kept {w w':World} {base:Nat} {qc:List Value} {q:List (List Int)} {row:Option Nat} (h:QEl w base qc q) (hg:w.grownBy w' row) (hne:∀ a n c xs,OwnI w base a n c xs→blk a=none∨blk a≠row):QEl w' base qc q :=
 fun i hi=>let ⟨a,n,c,h1,h2⟩:=h i hi; ⟨a,n,c,h1,Own.kept h2 hg (hne _ _ _ _ h2)⟩
theorem QEl.tail {w:World} {base:Nat} {qc:List Value} {p:List Int} {q:List (List Int)} (h:QEl w base qc (p :: q)):QEl w base (qc.drop 1) q:=by
 intro i hi;obtain ⟨a,n,c,h1,h2⟩:=h (i+1) (by simpa using hi);refine ⟨a,n,c, ?_,by simpa using h2⟩;rw [←h1];simp [List.getD_eq_getElem?_getD]
theorem QEl.snoc {w:World} {base:Nat} {qc:List Value} {p:List Int} {q:List (List Int)} {a:Option Addr} {n c:Nat} (h:QEl w base qc q) (hl:qc.length=q.length) (hp:OwnI w base a n c p):QEl w base (qc ++ [.slice a n c]) (q ++ [p]):=by
 intro i hi;simp only [List.length_append,List.length_singleton] at hi;by_cases h1:i<q.length
 · obtain ⟨a',n',c',h2,h3⟩:=h i h1;refine ⟨a',n',c', ?_, ?_⟩
   · rw [←h2];simp [List.getD_eq_getElem?_getD,List.getElem?_append_left (show i<qc.length by omega)]
   · simpa [List.getD_eq_getElem?_getD,List.getElem?_append_left h1] using h3
 · have:i=q.length:=by omega
   subst this;refine ⟨a,n,c, ?_, ?_⟩
   · simp [List.getD_eq_getElem?_getD,←hl]
   · simpa [List.getD_eq_getElem?_getD] using hp
theorem wl_cutO {P:Program} {w:World} {ops:Array Oper} {rest:List Oper} {o:Oper} {f:Act} {Q:Exit→Act→World→Prop} {t:TypeId} {x y:Operand} (hgd:o.guard=none) (ho:o.op = .slice t x (some y) none none)
 {e:TypeId} {z:Value} {bytes base:Nat} {a:Option Addr} {n c k:Nat} {cs:List Value} (ht:P.underlying t=some (.slice e)) (hinfo:Elem1 P e z bytes) (hx:f.eval x = .slice a n c) (hy:f.eval y = .int .i64 k) (h:OwnO w base e a n c cs) (hk:k≤n)
 (hK:∀ a',blk a'=blk a→OwnO w base e a' (n-k) (c-k) (cs.drop k)→wpList P ops Q rest (f.put o.dst (.slice a' (n-k) (c-k))) w):wpList P ops Q (o :: rest) f w:=by
 refine wpList_plain hgd fun K hK' => ?_;unfold Oper.wp execOp;simp only [ho,hx,hy,Option.map_some,Option.map_none,Sem.run_bind,run_slice_from ht hinfo hk,Result.andThen_ok,Sem.run_pure,Oper.upon];refine hK' _ _ (hK _ ?_ (h.from hk));split
 · rfl
 · cases a with
   | none=>rfl
   | some b=>simp [blk,Addr.add]; split <;> rfl
end Go.Proofs.YtlpgonpfjbhmfaaGreatDoor
