/- Part Gav35. -/
import Derived.Test.YtlpgonpfjbhmfaaGreatDoorGav34
import Derived.Test.YtlpgonpfjbhmfaaGreatDoorGav4
set_option maxRecDepth 100000
set_option maxHeartbeats 100000000
namespace Go.Proofs.YtlpgonpfjbhmfaaGreatDoor
open Go Go.RowKit
variable {f:Act} {ops:Array Oper} {Q:Exit→Act→World→Prop} {va vb:Int} {l:List Int} {rest:List Oper} {D E Y Z b base d g k m n:Nat} {o:Oper} {y:Operand} {p q x:Rat} {w w':World}
namespace Pl
def QB (D Y:Nat) (q:Rat):Prop:=∃ z:Int,q*(D:Rat)=(z:Rat)∧z.natAbs≤Y
theorem QB.zero (D Y:Nat):QB D Y 0:=⟨0,by rw [Rat.zero_mul]; rfl,by simp⟩
theorem QB.add (hp:QB D Y p) (hq:QB D Z q):QB D (Y+Z) (p+q):=by
 obtain ⟨x,h1,h2⟩:=hp;obtain ⟨y,h3,h4⟩:=hq;refine ⟨x+y,by rw [Rat.add_mul,h1,h3,Rat.intCast_add], ?_⟩;have:=Int.natAbs_add_le x y;omega
theorem QB.mul (hp:QB D Y p) (hq:QB E Z q):QB (D*E) (Y*Z) (p*q):=by
 obtain ⟨x,h1,h2⟩:=hp;obtain ⟨y,h3,h4⟩:=hq;refine ⟨x*y, ?_,by rw [Int.natAbs_mul]; exact Nat.mul_le_mul h2 h4⟩;rw [Rat.natCast_mul,Rat.intCast_mul,←h1,←h3]
 grind
theorem QB.neg (h:QB D Y q):QB D Y (-q):=by
 obtain ⟨x,h1,h2⟩:=h;exact ⟨-x,by rw [Rat.neg_mul,h1,Rat.intCast_neg],by rw [Int.natAbs_neg]; exact h2⟩
theorem QB.mono (h:QB D Y q) (hz:Y≤Z):QB D Z q:=by
 obtain ⟨x,h1,h2⟩:=h;exact ⟨x,h1,by omega⟩
theorem QB.scale (h:QB D Y q) (k:Nat):QB (D*k) (Y*k) q:=by
 obtain ⟨x,h1,h2⟩:=h;refine ⟨x*k, ?_,by rw [Int.natAbs_mul]; exact Nat.mul_le_mul h2 (lrf _)⟩;rw [Rat.natCast_mul,Rat.intCast_mul,←h1,←Rat.mul_assoc];rfl
theorem QB.parts (h:QB D Y q) (hD:0<D):q.num.natAbs≤Y∧q.den∣D:=by
 obtain ⟨z,h1,h2⟩:=h;have h0:(D:Rat)≠0:=fun h=>by have:=Rat.natCast_eq_zero_iff.1 h; omega
 have e:q=mkRat z D:=by
  rw [mkRat_div,←h1,Rat.mul_assoc,Rat.mul_inv_cancel _ h0,Rat.mul_one]
 obtain ⟨g1,g2⟩:=rat_frac (n:=z) (d:=D) (by omega);rw [e];refine ⟨Nat.le_trans (mkRat_le (by omega)).1 h2, ?_⟩;rw [g2];exact Nat.div_dvd_of_dvd (Nat.gcd_dvd_right _ _)
theorem QB.rb (h:QB D Y q) (hD:0<D) (h1:D<P2 b) (h2:Y<P2 b):RB b q :=
 ⟨Nat.lt_of_le_of_lt (h.parts hD).1 h2,Nat.lt_of_le_of_lt (Nat.le_of_dvd hD (h.parts hD).2) h1⟩
theorem QB.of (hd:q.den∣D) (hn:q.num.natAbs≤Y):QB D (Y*D) q:=by
 refine ⟨zsc q D,(Sq hd).symm, ?_⟩;unfold zsc;rw [Int.natAbs_mul];exact Nat.mul_le_mul hn (Nat.div_le_self _ _)
def SB (D Y:Nat) (l:List Tm):Prop:=∀ t∈l,QB D Y t.2
theorem SB.coef {D Y:Nat} (e:List Int):∀ {l:List Tm},SB D Y l→QB D (l.length*Y) (coef l e)
 | [],_=>QB.zero _ _
 | t :: r,h=>by
  have h1:QB D Y (if t.1=e then t.2 else 0):=by
   split
   · exact h t (by simp)
   · exact QB.zero _ _
  have h2:=QB.add h1 (SB.coef e (l:=r) (fun s hs=>h s (by simp [hs])));exact h2.mono (by rw [List.length_cons,Nat.add_mul]; omega)
theorem SB.prod {a b:List Tm} (ha:SB D Y a) (hb:SB E Z b):SB (D*E) (Y*Z) (prodT a b):=by
 intro u hu;obtain ⟨x,hx,h⟩:=List.mem_flatMap.1 hu;obtain ⟨y,hy,rfl⟩:=List.mem_map.1 h;exact (ha x hx).mul (hb y hy)
theorem SB.mono {D Y Z:Nat} {l:List Tm} (h:SB D Y l) (hz:Y≤Z):SB D Z l:=fun t ht=>(h t ht).mono hz
theorem SB.scale {D Y:Nat} {l:List Tm} (h:SB D Y l) (k:Nat):SB (D*k) (Y*k) l:=fun t ht=>(h t ht).scale k
theorem SB.app {a b:List Tm} (ha:SB D Y a) (hb:SB D Y b):SB D Y (a ++ b):=fun t ht=>(List.mem_append.1 ht).elim (ha t) (hb t)
theorem SB.app2 {a b:List Tm} (ha:SB D Y a) (hb:SB E Z b):SB (D*E) (Y*E+Z*D) (a ++ b):=by
 refine SB.app ((ha.scale E).mono (by omega)) ?_;rw [Nat.mul_comm D E];exact (hb.scale D).mono (by omega)
theorem Vn (a b:Nat):a*(b/Nat.gcd a b)=Nat.lcm a b:=by
 unfold Nat.lcm;rw [Nat.mul_div_assoc _ (Nat.gcd_dvd_right a b)]
theorem SJ {l:List Rat} (h:∀ q∈l,q.den∣D):Cv l∣D:=by
 have key:∀ (l:List Rat) (a:Nat),a∣D→(∀ q∈l,q.den∣D)→l.foldl (fun a q=>a*(q.den/Nat.gcd a q.den)) a∣D:=by
  intro l
  induction l with
  | nil=>intro a ha _; exact ha
  | cons q r ih =>
   intro a ha h;rw [List.foldl_cons,Vn];exact ih _ (Nat.lcm_dvd ha (h q (by simp))) (fun s hs=>h s (by simp [hs]))
 exact key l 1 (Nat.one_dvd _) h
theorem SB.lcm {l:List Tm} (h:SB D Y l) (hD:0<D):Cv (l.map (·.2))≤D:=by
 refine Nat.le_of_dvd hD (SJ fun q hq => ?_);obtain ⟨t,ht,rfl⟩:=List.mem_map.1 hq;exact ((h t ht).parts hD).2
theorem SB.of {Y:Nat} {l:List Tm} (h:∀ t∈l,t.2.num.natAbs≤Y):SB (Cv (l.map (·.2))) (Y*Cv (l.map (·.2))) l :=
 fun t ht=>QB.of (Ke (List.mem_map_of_mem ht)) (h t ht)
end Pl
theorem Rd {p q:List Pl.Tm} (h:∀ e,Pl.coef p e=Pl.coef q e):cnP p=cnP q:=by
 unfold cnP;simp only [h]
theorem Hc {p:List Pl.Tm} (h6:∀ t∈p,t.1.length=6):(cnP p).length≤p.length:=by
 have h:=Pl.nodup_le ((cnP p).map (·.1)) (p.map (·.1)) (Eu (Cq h6).1).nodup (fun e he=>by
  obtain ⟨t,ht,rfl⟩:=List.mem_map.1 he;obtain ⟨s,hs,e⟩:=Hb h6 ht;rw [←e]
  exact List.mem_map_of_mem hs)
 simpa using h
theorem SB.cn {p:List Pl.Tm} (h6:∀ t∈p,t.1.length=6) (h:Pl.SB D Y p):Pl.SB D (p.length*Y) (cnP p):=by
 intro t ht;obtain ⟨h1,h2⟩:=Cq h6;rw [←Pl.coef_mem (Eu h1).nodup ht,h2];exact h.coef t.1
theorem P5 (h:Pl.RB b q):(txt q).length≤2*(b/3)+4:=by
 have h1:=PF h.1;have h2:=Se h.2;unfold txt;rw [List.length_append];split
 · simp; omega
 · simp; omega
theorem LE {a b:List Pl.Tm} {t:Pl.Tm} (h:t∈Pl.prodT a b):∃ x∈a,∃ y∈b,t.1=Pl.plE x.1 y.1:=by
 obtain ⟨x,hx,h⟩:=List.mem_flatMap.1 h;obtain ⟨y,hy,rfl⟩:=List.mem_map.1 h;exact ⟨x,hx,y,hy,rfl⟩
def Lo (l:List Pl.Tm):Prop:=∀ t∈l,t.1.length=6∧∀ x∈t.1,0≤x∧x≤1048576
theorem Lo.small {l:List Pl.Tm} (h:Lo l):Ij l:=fun t ht=>⟨(h t ht).1,fun x hx=>by have:=(h t ht).2 x hx; omega⟩
theorem P6 {B C:Int}:∀ {a b:List Int},(∀ x∈a,0≤x∧x≤B)→(∀ x∈b,0≤x∧x≤C)→∀ x∈Pl.plE a b,0≤x∧x≤B+C
 | [],_,_,_=>by simp [Pl.plE]
 | _ :: _,[],_,_=>by simp [Pl.plE]
 | x :: a,y :: b,h1,h2=>by
  intro u hu;have hu':u=x+y∨u∈Pl.plE a b:=by simpa [Pl.plE] using hu
  rcases hu' with rfl|hu
  · have:=h1 x (by simp); have:=h2 y (by simp); omega
  · exact P6 (fun z hz=>h1 z (by simp [hz])) (fun z hz=>h2 z (by simp [hz])) u hu
theorem Mu {p:List Pl.Tm} (h:Pl.SB D Y p) (hD:0<D) (h1:D<P2 b) (h2:p.length*Y<P2 b) (hb:b≤1920) (hk:∀ t∈p,t.1.length=6∧∀ x∈t.1,0≤x∧x≤1099511627776) (hl:p.length≤1000000):NJ p:=by
 refine ⟨fun e he => ?_,hl⟩;obtain ⟨t,ht,rfl⟩:=Pl.coef_present he;exact ⟨RB.str ((h.coef t.1).rb hD h1 h2) hb,hk t ht⟩
theorem SK {la lb:List Pl.Tm} (ha:Pl.SB D Y la) (hb:Pl.SB E Z lb) (hD:0<D) (hE:0<E) (d1:D<P2 256) (d2:E<P2 256) (y1:Y<P2 1000) (y2:Z<P2 1000) (ka:Lo la) (kb:Lo lb) (na:la.length≤1000) (nb:lb.length≤1000) (hz:la.length*lb.length*(Y*Z)<P2 b) (hb1:512≤b) (hb2:b≤1920):Kg la lb where
 ba:=fun t ht=>(ha t ht).rb hD (Ag d1 (by omega)) y1
 bb:=fun t ht=>(hb t ht).rb hE (Ag d2 (by omega)) y2
 ea:=ka.small
 eb:=kb.small
 lla:=Nat.lt_of_le_of_lt (ha.lcm hD) d1
 llb:=Nat.lt_of_le_of_lt (hb.lcm hE) d2
 na:=by omega
 nb:=by omega
 fits:=by
  have hlen:=Lw la lb;have hle:la.length*lb.length≤1000*1000:=Nat.mul_le_mul na nb;refine Mu (ha.prod hb) (Nat.mul_pos hD hE) (Ag (B0 d1 d2) hb1) (by rw [hlen]; exact hz) hb2 (fun t ht => ?_) (by rw [hlen]; omega);obtain ⟨x,hx,y,hy,e⟩:=LE ht;rw [e,Pl.plE_len (by rw [(ka x hx).1,(kb y hy).1])];refine ⟨(ka x hx).1,fun z hz => ?_⟩;have:=P6 (ka x hx).2 (kb y hy).2 z hz;omega
theorem NV {p:List Pl.Tm} (h:Pl.SB D Y p) (hD:0<D) (h1:D<P2 b) (h2:p.length*Y<P2 b) (hb:b≤1920) (hk:Lo p) (hl:p.length≤1000):Dv p where
 pre:=fun a s e x=>by
  have ha:Pl.SB D Y a:=fun t ht=>h t (by rw [←e]; simp [ht]);have hla:a.length≤p.length:=by rw [←e]; simp
  exact ((ha.coef x).rb hD h1 (Nat.lt_of_le_of_lt (Nat.mul_le_mul_right _ hla) h2)).mono (by omega)
 each:=fun t ht=>((h t ht).rb hD h1 (Nat.lt_of_le_of_lt (by
  have:1≤p.length:=List.length_pos_of_mem ht;have:=Nat.mul_le_mul_right Y this
  omega) h2)).mono (by omega)
 fits:=Mu h hD h1 h2 hb (fun t ht=>⟨(hk t ht).1,fun x hx=>by have:=(hk t ht).2 x hx; omega⟩) (by omega)
theorem Uc (h:(txt q).length≤k):q.num.natAbs<10^k :=
 Nat.lt_of_lt_of_le (T9 q).1 (Nat.pow_le_pow_right (by omega) h)
theorem Vo {ts:List Tx} {l:List Pl.Tm} {nt B:Nat} (h:rdP va ts=some l) (hs:Dt ts nt d) (hd:3≤d) (hB:10^d≤P2 B) :
 ∃ D,0<D∧D<P2 (4*(d-2)*nt+1)∧Pl.SB D (P2 (B+(4*(d-2)*nt+1))) l:=by
 have hm:∀ t∈l,(txt t.2).length≤d:=by
  intro m hm;obtain ⟨t,ht,hr⟩:=G9 h hm;have h1:=Fo (BQ hr).1;rw [←h1];exact (hs.2 t ht).1
 have hlen:=DE h;have hD:Cv (l.map (·.2))<P2 (4*(d-2)*nt+1):=by
  have h1:=SE (l:=l.map (·.2)) (b:=4*(d-2)) (fun q hq=>by
   obtain ⟨t,ht,rfl⟩:=List.mem_map.1 hq
   exact Ub (k:=d-2) (by have:=hm t ht; omega) (by omega))
  refine Ag h1 ?_;have h2:l.length≤nt:=by rw [hlen]; exact hs.1
  have:=Nat.mul_le_mul_left (4*(d-2)) h2;rw [List.length_map];omega
 refine ⟨_,Fn (l.map (·.2)),hD,(Pl.SB.of (Y:=P2 B) (fun t ht => ?_)).mono ?_⟩
 · have:=Uc (hm t ht);omega
 · rw [BZ];exact Nat.mul_le_mul_left _ (Nat.le_of_lt hD)
open Classical in
noncomputable def mulA (va vb:Int) (oa ob:Option (List Pl.Tm)):Int×List Tx×Int :=
 match oa,ob with
 | some la,some lb=>if va=vb then (if la≠[]∧lb≠[]∧24<Q4 la+Q4 lb then (0,[],2) else resQ va (Pl.prodT la lb)) else (0,[],4)
 | _,_=>(0,[],1)
noncomputable def addA (va vb:Int) (oa ob:Option (List Pl.Tm)):Int×List Tx×Int :=
 match oa,ob with
 | some la,some lb=>if va=vb then resQ va (la ++ lb) else (0,[],4)
 | _,_=>(0,[],1)
theorem Sv.a {oa ob:Option (List Pl.Tm)} {e:Ending} (h:Sv w va vb oa ob e w'):E0 w (mulA va vb oa ob) e w':=by
 unfold mulA;rcases h with ⟨la,lb,rfl,rfl,hv,h⟩|⟨hs,hv,h⟩|⟨hs,h⟩
 · simp only [if_pos hv];rcases h with ⟨hc,h⟩|⟨hc,h⟩
   · rw [if_neg hc]; exact h
   · rw [if_pos hc]; exact h
 · cases oa <;> cases ob <;> simp at hs;simp only [if_neg hv];exact h
 · cases oa <;> cases ob <;> simp at hs <;> exact h
theorem SI.a {oa ob:Option (List Pl.Tm)} {e:Ending} (h:SI w va vb oa ob e w'):E0 w (addA va vb oa ob) e w':=by
 unfold addA;rcases h with ⟨la,lb,rfl,rfl,hv,h⟩|⟨hs,hv,h⟩|⟨hs,h⟩
 · simp only [if_pos hv];exact h
 · cases oa <;> cases ob <;> simp at hs;simp only [if_neg hv];exact h
 · cases oa <;> cases ob <;> simp at hs <;> exact h
theorem Km {v:Int} {p q:List Pl.Tm} (h:∀ e,Pl.coef p e=Pl.coef q e):resQ v p=resQ v q:=by
 unfold resQ;rw [Rd h]
theorem Ud {v:Int} {p:List Pl.Tm} (hv:0≤v∧v≤6) (hi:∀ t∈p,InV v.toNat t.1) (h:(resQ v p).2.2=0):(resQ v p).1=v∧rdP v (resQ v p).2.1=some (cnP p):=by
 obtain ⟨k,rfl⟩:∃ k:Nat,v=(k:Int):=⟨v.toNat,by omega⟩;rw [Int.toNat_natCast] at hi;rcases Rc (vars:=k) (by omega) hi with ⟨h1,h2,h3⟩|⟨h1,h2⟩
 · rw [h2]; exact ⟨rfl,h3⟩
 · rw [h2] at h; cases h
structure Pv (v:Int) (l:List Pl.Tm):Prop where
 v0:0≤v∧v≤6
 can:Pl.Canon 6 l
 inv:∀ t∈l,InV v.toNat t.1
theorem Pv.of {v:Int} {ts:List Tx} {l:List Pl.Tm} (h:rdP v ts=some l):Pv v l:=by
 have hv:=(BR h).1;refine ⟨hv,Il h, ?_⟩;obtain ⟨k,rfl⟩:∃ k:Nat,v=(k:Int):=⟨v.toNat,by omega⟩;rw [Int.toNat_natCast];exact Ua h
theorem InV.pl {a b:List Int} (ha:InV n a) (hb:InV n b):InV n (Pl.plE a b):=by
 obtain ⟨a1,a2,a3⟩:=ha;obtain ⟨b1,b2,b3⟩:=hb;refine ⟨by rw [Pl.plE_len (by omega),a1],fun x hx => ?_, ?_⟩
 · have key:∀ {a b:List Int},(∀ x∈a,0≤x)→(∀ x∈b,0≤x)→∀ x∈Pl.plE a b,0≤x:=by
    intro a
    induction a with
    | nil=>intro b _ _ x hx; simp [Pl.plE] at hx
    | cons u a ih =>
     intro b h1 h2 x hx;cases b with
     | nil=>simp [Pl.plE] at hx
     | cons w b =>
      have hx':x=u+w∨x∈Pl.plE a b:=by simpa [Pl.plE] using hx
      rcases hx' with rfl|hx
      · have:=h1 u (by simp); have:=h2 w (by simp); omega
      · exact ih (fun z hz=>h1 z (by simp [hz])) (fun z hz=>h2 z (by simp [hz])) x hx
   exact key a2 b2 x hx
 · unfold Ae at a3 b3 ⊢;have e1:(Pl.plE a b).take n=Pl.plE (a.take n) (b.take n):=by unfold Pl.plE; rw [List.take_zipWith]
   have la:(a.take n).length=(b.take n).length:=by simp [a1,b1]
   have e2:Pl.plE (a.take n ++ List.replicate (6-(a.take n).length) 0) (b.take n ++ List.replicate (6-(b.take n).length) 0)=Pl.plE (a.take n) (b.take n) ++ List.replicate (6-(a.take n).length) 0:=by
    unfold Pl.plE;rw [List.zipWith_append la,←la];congr 1;rw [List.zipWith_replicate];simp
   rw [a3,b3] at e2;rw [e1,e2,Pl.plE_len la]
theorem Kn {a b:List Pl.Tm} (ha:∀ t∈a,InV n t.1) (hb:∀ t∈b,InV n t.1):∀ t∈Pl.prodT a b,InV n t.1:=by
 intro t ht;obtain ⟨x,hx,y,hy,e⟩:=LE ht;rw [e];exact (ha x hx).pl (hb y hy)
theorem Mv {a b:List Pl.Tm} (ha:∀ t∈a,InV n t.1) (hb:∀ t∈b,InV n t.1):∀ t∈a ++ b,InV n t.1:=fun t ht=>(List.mem_append.1 ht).elim (ha t) (hb t)
theorem Pv.prod {v:Int} {a b:List Pl.Tm} (ha:Pv v a) (hb:Pv v b):Pv v (cnP (Pl.prodT a b)) :=
 ⟨ha.v0,(Cq fun t ht=>(Kn ha.inv hb.inv t ht).1).1,FR (Kn ha.inv hb.inv)⟩
theorem Pv.app {v:Int} {a b:List Pl.Tm} (ha:Pv v a) (hb:Pv v b):Pv v (cnP (a ++ b)) :=
 ⟨ha.v0,(Cq fun t ht=>(Mv ha.inv hb.inv t ht).1).1,FR (Mv ha.inv hb.inv)⟩
theorem Re {v:Int} {p:List Pl.Tm} (hi:∀ t∈p,InV v.toNat t.1) (hl:p.length≤4096) (hs:∀ t∈p,t.1.sum≤24):(resQ v p).2.2=0:=by
 have h6:∀ t∈p,t.1.length=6:=fun t ht=>(hi t ht).1;unfold resQ;rw [if_pos];refine ⟨Nat.le_trans (Hc h6) hl,fun t r e => ?_⟩;obtain ⟨s,hs',e'⟩:=Hb h6 (t:=t) (by rw [e]; simp);rw [←e'];exact DR.2 ⟨by rw [h6 s hs']; omega,(hi s hs').2.1,hs s hs'⟩
theorem Ed {a:Nat} (h:a<b):P2 a<P2 b:=Nat.pow_lt_pow_right (by omega) h
structure Bd (v:Int) (N d y:Nat) (l:List Pl.Tm):Prop where
 pv:Pv v l
 lo:Lo l
 len:l.length≤N
 sb:∃ D,0<D∧D<P2 d∧Pl.SB D (P2 y) l
section
variable {v:Int} {N M d e y z:Nat} {la lb:List Pl.Tm} {ts:List Tx}
theorem Bd.of {nt k B:Nat} (h:rdP v ts=some la) (hs:Dt ts nt k) (hd:3≤k) (hB:10^k≤P2 B):Bd v nt (4*(k-2)*nt+1) (B+(4*(k-2)*nt+1)) la :=
 ⟨Pv.of h,Et h,by rw [DE h]; exact hs.1,Vo h hs hd hB⟩
theorem Lo.of {l:List Pl.Tm} (h:rdP v ts=some l):Lo l:=Et h
theorem Bd.prod {k:Nat} (ha:Bd v N d y la) (hb:Bd v M e z lb) (h:rdP v ts=some (cnP (Pl.prodT la lb))) (hk:N*M≤P2 k):Bd v (N*M) (d+e) (k+(y+z)) (cnP (Pl.prodT la lb)):=by
 have h6:∀ t∈Pl.prodT la lb,t.1.length=6:=fun t ht=>(Kn ha.pv.inv hb.pv.inv t ht).1;have hl:(Pl.prodT la lb).length≤N*M:=by rw [Lw]; exact Nat.mul_le_mul ha.len hb.len
 obtain ⟨D,h1,h2,h3⟩:=ha.sb;obtain ⟨E,g1,g2,g3⟩:=hb.sb;refine ⟨ha.pv.prod hb.pv,Et h,Nat.le_trans (Hc h6) hl,D*E,Nat.mul_pos h1 g1,B0 h2 g2,(SB.cn h6 (h3.prod g3)).mono ?_⟩;rw [BZ k,BZ y];exact Nat.mul_le_mul_right _ (Nat.le_trans hl hk)
theorem Bd.app1 (ha:Bd v N d y la) (hb:Bd v M e z lb) (h1:y+e<m) (h2:z+d<m):(la ++ lb).length≤N+M∧∃ D,0<D∧D<P2 (d+e)∧Pl.SB D (P2 m) (la ++ lb):=by
 obtain ⟨D,a1,a2,a3⟩:=ha.sb;obtain ⟨E,g1,g2,g3⟩:=hb.sb;refine ⟨by have:=ha.len; have:=hb.len; rw [List.length_append]; omega,D*E,Nat.mul_pos a1 g1,B0 a2 g2,(a3.app2 g3).mono ?_⟩;have k1:P2 y*E≤P2 (m-1):=by
  refine Nat.le_trans ?_ (M5 (a:=y+e) (by omega));rw [BZ];exact Nat.mul_le_mul_left _ (Nat.le_of_lt g2)
 have k2:P2 z*D≤P2 (m-1):=by
  refine Nat.le_trans ?_ (M5 (a:=z+d) (by omega));rw [BZ];exact Nat.mul_le_mul_left _ (Nat.le_of_lt a2)
 have k3:P2 m=P2 (m-1)*2:=by
  conv=>lhs; rw [show m=m-1+1 by omega,BZ]
  rfl
 omega
theorem Bd.app {k m:Nat} (ha:Bd v N d y la) (hb:Bd v M e z lb) (h:rdP v ts=some (cnP (la ++ lb))) (h1:y+e<m) (h2:z+d<m) (hk:N+M≤P2 k):Bd v (N+M) (d+e) (k+m) (cnP (la ++ lb)):=by
 have h6:∀ t∈la ++ lb,t.1.length=6:=fun t ht=>(Mv ha.pv.inv hb.pv.inv t ht).1;obtain ⟨hl,D,g1,g2,g3⟩:=ha.app1 hb h1 h2;refine ⟨ha.pv.app hb.pv,Et h,Nat.le_trans (Hc h6) hl,D,g1,g2,(SB.cn h6 g3).mono ?_⟩;rw [BZ];exact Nat.mul_le_mul_right _ (Nat.le_trans hl hk)
theorem Bd.mul (ha:Bd v N d y la) (hb:Bd v M e z lb) (hk:N*M≤P2 k) (h1:d≤256∧e≤256) (h2:y<1000∧z<1000) (h3:N≤1000∧M≤1000) (h4:k+(y+z)<1920):Kg la lb:=by
 obtain ⟨D,a1,a2,a3⟩:=ha.sb;obtain ⟨E,g1,g2,g3⟩:=hb.sb;refine SK (b:=1920) a3 g3 a1 g1 (Ag a2 h1.1) (Ag g2 h1.2) (Ed h2.1) (Ed h2.2) ha.lo hb.lo (by have:=ha.len; omega) (by have:=hb.len; omega) ?_ (by omega) (by omega);refine Nat.lt_of_le_of_lt ?_ (Ed h4);rw [BZ k,BZ y];exact Nat.mul_le_mul_right _ (Nat.le_trans (Nat.mul_le_mul ha.len hb.len) hk)
theorem Bd.sum (ha:Bd v N d y la) (hb:Bd v M e z lb) (h1:y+e<m) (h2:z+d<m) (hk:N+M≤P2 k) (h3:N+M≤1000) (h4:k+m<1920) (h5:d+e≤1920):Dv (la ++ lb):=by
 obtain ⟨hl,D,g1,g2,g3⟩:=ha.app1 hb h1 h2;refine NV (b:=1920) g3 g1 (Ag g2 h5) ?_ (by omega) (fun t ht=>(List.mem_append.1 ht).elim (ha.lo t) (hb.lo t)) (by omega);refine Nat.lt_of_le_of_lt ?_ (Ed h4);rw [BZ];exact Nat.mul_le_mul_right _ (Nat.le_trans hl hk)
theorem Bd.text (ha:Bd v N d y la) (h:rdP v ts=some la) (h1:d≤840) (h2:y<840):∀ t∈ts,t.1.length≤570:=by
 intro t ht;obtain ⟨D,a1,a2,a3⟩:=ha.sb;have hw:=T7 h;rw [←hw] at ht;obtain ⟨m,hm,rfl⟩:=List.mem_map.1 ht;have:=P5 ((a3 m hm).rb a1 (Ag a2 h1) (Ed h2));show (txt m.2).length≤570;omega
end
def mp (n:Nat) (a e:List Int):List Int:=Ae (mvd a (e.take n))
def C6 (n:Nat) (a:List Int) (l:List Pl.Tm):List Pl.Tm:=l.map fun t=>(mp n a t.1,t.2)
theorem Cz:(Ae l).take l.length=l:=by unfold Ae; exact List.take_left
theorem Rf {l m:List Rat} (h:l.Perm m):∀ b,l.foldl (·*·) b=m.foldl (·*·) b:=by
 induction h with
 | nil=>exact fun b=>rfl
 | cons x _ ih=>exact fun b=>ih _
 | swap x y l =>
  intro b;show l.foldl (·*·) (b*y*x)=l.foldl (·*·) (b*x*y);rw [Rat.mul_assoc,Rat.mul_comm y x,←Rat.mul_assoc]
 | trans _ _ h1 h2=>exact fun b=>(h1 b).trans (h2 b)
theorem Im (pt:List Rat) (es:List Int):∀ k,Pl.valE pt es k=((List.range k).map fun v=>(pt.getD v 0)^(es.getD v 0).toNat).foldl (·*·) 1
 | 0=>rfl
 | k+1=>by
  rw [List.range_succ,List.map_append,List.foldl_append,←Im];rfl
theorem He (pt:List Rat):∀ l:List Pl.Tm,Pl.evq pt l=Pl.lin (fun e=>Pl.valE pt e pt.length) l
 | []=>rfl
 | t :: r=>by
  show t.2*_+Pl.evq pt r=t.2*_+_;rw [He pt r]
theorem Ue {pt:List Rat} {p q:List Pl.Tm} (h:∀ e,Pl.coef p e=Pl.coef q e):Pl.evq pt p=Pl.evq pt q:=by
 rw [He,He];exact Pl.lin_ext h
section
variable {n:Nat} {a b e f:List Int} {l k p q:List Pl.Tm}
theorem InV.tk (h:InV n e) (hn:n≤6):(e.take n).length=n:=by rw [List.length_take,h.1]; omega
theorem Mw (hn:n≤6) (h:InV n e):(mp n a e).take n=mvd a (e.take n):=by
 have h1:(mvd a (e.take n)).length=n:=by rw [Bg]; exact h.tk hn
 have:=Cz (l:=mvd a (e.take n));rw [h1] at this;exact this
theorem Ko (hp:Ar a=true) (ha:a.length=n) (hn:n≤6) (h:InV n e):InV n (mp n a e) :=
 InV.pad (by rw [Bg]; exact h.tk hn) hn fun x hx=>h.2.1 x (List.mem_of_mem_take (PW hp (by rw [h.tk hn,ha]) hx))
theorem V0 (hp:Ar a=true) (hb:Ar b=true) (ha:a.length=n) (hl:b.length=n) (hn:n≤6) (h:InV n e):mp n a (mp n b e)=mp n (comp a b) e:=by
 show Ae (mvd a ((mp n b e).take n))=_;rw [Mw hn h,PV hp hb (by omega) (by rw [h.tk hn,hl])];rfl
theorem O4 (hp:Ar a=true) (ha:a.length=n) (hn:n≤6) (h:InV n e):(mp n a e).sum=e.sum:=by
 unfold mp;rw [FQ,NA (Nz hp (by rw [h.tk hn,ha]))]
 conv=>rhs; rw [←h.2.2,FQ]
theorem Vp (hp:Ar a=true) (ha:a.length=n) (hn:n≤6) (h:InV n e) (h':InV n f) (he:mp n a e=mp n a f):e=f:=by
 have h1:mvd a (e.take n)=mvd a (f.take n):=by rw [←Mw hn h,←Mw hn h',he]
 have h2:e.take n=f.take n:=by
  apply List.ext_getElem (by rw [h.tk hn,h'.tk hn]);intro i i1 i2;rw [h.tk hn] at i1;have g1:=Fr hp (m:=e.take n) (by rw [h.tk hn,ha]) (i:=i) (by omega);have g2:=Fr hp (m:=f.take n) (by rw [h'.tk hn,ha]) (i:=i) (by omega);rw [h1,g2] at g1;simpa [h.tk hn,h'.tk hn,i1] using g1.symm
 rw [←h.2.2,←h'.2.2,h2]
theorem P7 (F:List Int→Rat):∀ l:List Pl.Tm,Pl.lin F (C6 n a l)=Pl.lin (fun m=>F (mp n a m)) l
 | []=>rfl
 | t :: r=>by
  show t.2*F (mp n a t.1)+Pl.lin F (C6 n a r)=t.2*F (mp n a t.1)+_;rw [P7 F r]
theorem NW (hp:Ar a=true) (ha:a.length=n) (hn:n≤6) (hi:∀ t∈l,InV n t.1) (h:InV n e):Pl.coef (C6 n a l) (mp n a e)=Pl.coef l e:=by
 rw [Pl.coef_lin,Pl.coef_lin,P7];refine Pl.lin_congr fun t ht => ?_;show (if mp n a t.1=mp n a e then (1:Rat) else 0)=if t.1=e then 1 else 0
 by_cases hc:t.1=e
 · rw [hc,if_pos rfl,if_pos rfl]
 · rw [if_neg hc,if_neg fun he=>hc (Vp hp ha hn (hi t ht) h he)]
theorem Jd {u:Pl.Tm} (hu:u∈C6 n a l):∃ t∈l,u=(mp n a t.1,t.2):=by
 obtain ⟨t,ht,rfl⟩:=List.mem_map.1 hu;exact ⟨t,ht,rfl⟩
theorem Mx (hp:Ar a=true) (ha:a.length=n) (hn:n≤6) (hi:∀ t∈l,InV n t.1):∀ u∈C6 n a l,InV n u.1:=by
 intro u hu;obtain ⟨t,ht,rfl⟩:=Jd hu;exact Ko hp ha hn (hi t ht)
theorem Je:(C6 n a l).length=l.length:=List.length_map ..
end
noncomputable def actA (va:Int) (a:List Int) (o:Option (List Pl.Tm)):Int×List Tx×Int:=match o with | some l=>resQ va (C6 va.toNat a l) | none=>(0,[],1)
section
variable {va:Int} {n N d y:Nat} {a b:List Int} {l k:List Pl.Tm} {ts:List Tx}
theorem Io (h:rdP va ts=some l):∀ t∈l,t.1.sum≤24:=by
 have hc:=Il h;have hk:=T8 h;cases l with
 | nil=>intro t ht; cases ht
 | cons t r =>
  intro s hs;have h1:=LC hc s hs;have h2:=(DR.1 (hk.2 t r rfl)).2.2;omega
theorem O5 (pv:Pv (n:Int) l) (hp:Ar a=true) (ha:a.length=n) (hn:n≤6) {t:Pl.Tm} (ht:t∈cnP (C6 n a l)):∃ s∈l,t=(mp n a s.1,s.2):=by
 have hI:=Mx hp ha hn pv.inv;have hs:=Cq fun t ht=>(hI t ht).1;obtain ⟨u,hu,e1⟩:=Hb (fun t ht=>(hI t ht).1) ht;obtain ⟨s,hs1,rfl⟩:=Jd hu;have h1:=Pl.coef_mem (Eu hs.1).nodup ht;rw [←e1,hs.2,NW hp ha hn pv.inv (pv.inv s hs1),Pl.coef_mem (Eu pv.can).nodup hs1] at h1;exact ⟨s,hs1,Prod.ext e1.symm h1.symm⟩
theorem Bd.act (h:Bd (n:Int) N d y l) (hp:Ar a=true) (ha:a.length=n) (hn:n≤6) (h3:rdP (n:Int) ts=some (cnP (C6 n a l))):Bd (n:Int) N d y (cnP (C6 n a l)):=by
 have hI:=Mx hp ha hn h.pv.inv;obtain ⟨D,d1,d2,d3⟩:=h.sb;refine ⟨Pv.of h3,Et h3,Nat.le_trans (Hc fun t ht=>(hI t ht).1) (by rw [Je]; exact h.len),D,d1,d2,fun t ht => ?_⟩;obtain ⟨s,hs,rfl⟩:=O5 h.pv hp ha hn ht;exact d3 s hs
end
structure Bx where
 g:Nat
 v:Int
 a:Option Addr
 n:Nat
 c:Nat
 ts:List Tx
def PBx (w0 w:World) (l:List Bx):Prop:=Ext w0 w∧∀ p∈l,Arr w p.g 25 (AZ p.v p.a p.n p.c)∧CJ w p.a p.n p.c p.ts
section
variable {w0 w w1 w':World} {l:List Bx} {i:Nat}
theorem PBx.e (h:PBx w0 w l):Ext w0 w:=h.1
theorem PBx.at {v:Int} {a:Option Addr} {c:Nat} {ts:List Tx} (h:PBx w0 w l) (hi:l[i]?=some ⟨g,v,a,n,c,ts⟩):Arr w g 25 (AZ v a n c)∧CJ w a n c ts:=h.2 _ (List.mem_of_getElem? hi)
theorem PBx.c {g:Nat} {v:Int} {a:Option Addr} {n c:Nat} {ts:List Tx} (h:PBx w0 w l) (hi:l[i]?=some ⟨g,v,a,n,c,ts⟩):w.cell? ⟨g,0,none⟩=some (.int .i64 v)∧w.cell? ⟨g,1,none⟩=some (.slice a n c) :=
 ⟨(h.at hi).1.cell (i:=0) (by simp [AZ]),(h.at hi).1.cell (i:=1) (by simp [AZ])⟩
theorem PBx.t {v:Int} {a:Option Addr} {c:Nat} {ts:List Tx} (h:PBx w0 w l) (hi:l[i]?=some ⟨g,v,a,n,c,ts⟩):CJ w a n c ts:=(h.at hi).2
theorem PBx.ext (h:PBx w0 w l) (e:Ext w w'):PBx w0 w' l:=⟨h.1.trans e,fun p hp=>⟨(h.2 p hp).1.ext e,(h.2 p hp).2.ext e⟩⟩
theorem PBx.one {v:Int} {a:Option Addr} {c:Nat} {ts:List Tx} (hE:Ext w0 w) (hB:Arr w g 25 (AZ v a n c)) (ht:CJ w0 a n c ts):PBx w0 w [⟨g,v,a,n,c,ts⟩] :=
 ⟨hE,fun p hp=>by rw [List.mem_singleton.1 hp]; exact ⟨hB,ht.ext hE⟩⟩
theorem PBx.app {l':List Bx} (h:PBx w0 w l) (h':PBx w0 w l'):PBx w0 w (l ++ l'):=⟨h.1,fun p hp=>(List.mem_append.1 hp).elim (h.2 p) (h'.2 p)⟩
theorem PBx.new {v:Int} {a:Option Addr} {c:Nat} {ts:List Tx} {o:Obj} (h:PBx w0 w l) (hE:Ext w w1) (hO:CJ w1 a n c ts) (hB:Arr w' w1.heap.size 25 (AZ v a n c)) (hg:(w1.alloc o).grownBy w' (some w1.heap.size)):PBx w0 w' (l ++ [⟨w1.heap.size,v,a,n,c,ts⟩]):=by
 have hF:Ext w1 w':=((Ext.refl w1).alloc _).grownR hg (lrf _);have h1:=h.ext (hE.trans hF);refine ⟨h1.1,fun p hp => ?_⟩;rcases List.mem_append.1 hp with hp|hp
 · exact h1.2 p hp
 · rw [List.mem_singleton.1 hp];exact ⟨hB,hO.ext hF⟩
end
section
variable {P:Program} {w:World}
theorem My {x:Operand} (hgd:o.guard=none) (ho:o.op = .store 25 x y)
 {g:Nat} {t:TypeId} {cs:List Value} {v:Int} {a:Option Addr} {n c:Nat} (hx:f.eval x = .pointer (some ⟨g,0,none⟩)) (hy:f.eval y = .agg #[.int .i64 v, .slice a n c]) (h:Arr w g t cs) (hl:cs.length=2)
 (hK:∀ w',Arr w' g t (AZ v a n c)→w.grownBy w' (some g)→wpList Tryz.prog ops Q rest (f.put o.dst undef) w'):wpList Tryz.prog ops Q (o :: rest) f w :=
 Aa (vs:=AZ v a n c) hgd ho hx hy rfl AK h hl (Bn _ _ _ _) hK
end
def Uf (w:World) (e:Ending) (w':World):Prop:=e = .returned (.bool true)∧Ext w w'
def V3 (w0:World) (v:Int) (ts:List Tx) (err:Int) (e:Ending) (w':World):Prop:=∃ a n c,e = .returned (.tuple #[.agg #[.int .i64 v, .slice a n c], .int .i64 err])∧Ext w0 w'∧CJ w' a n c ts
theorem Gs.v {w0:World} {v:Int} {ts:List Tx} {err:Int} {e:Ending} {w':World} (h:Gs w0 v ts err e w'):V3 w0 v ts err e w':=by
 obtain ⟨a,n,c,h1,h2,h3⟩:=h;exact ⟨a,n,c,h1,h2,h3.sl⟩
section
variable {va vb:Int} {a b:Option Addr} {n c m d:Nat} {ta tb:List Tx} {w:World} {v err:Int} {t:List Tx}
end
section
variable {va vb vc:Int} {ta tb tc:List Tx}
structure WA (va vb vc v3 v4 v5:Int) (ta tb tc t3 t4 t5:List Tx):Prop where
 v:va=vb∧va=vc∧va=v3∧va=v4∧va=v5
 comm:mulA vb va (rdP vb tb) (rdP va ta)=(v3,t3,0)
 deg:0<ta.length→0<tb.length→degP v3 t3=degP va ta+degP vb tb
 x3:∀ t∈t3,t.1.length≤570
 x4:∀ t∈t4,t.1.length≤570
 x5:∀ t∈t5,t.1.length≤570
 assoc:mulA v3 vc (rdP v3 t3) (rdP vc tc)=mulA va v4 (rdP va ta) (rdP v4 t4)
 m3:∀ la lb,rdP v3 t3=some la→rdP vc tc=some lb→v3=vc→Kg la lb
 m4:∀ la lb,rdP va ta=some la→rdP v4 t4=some lb→va=v4→Kg la lb
 m5:∀ la lb,rdP va ta=some la→rdP v5 t5=some lb→va=v5→Kg la lb
 dist:∀ v6 t6 v7 t7,mulA va vc (rdP va ta) (rdP vc tc)=(v6,t6,0)→mulA va v5 (rdP va ta) (rdP v5 t5)=(v7,t7,0) →
  addA v3 v6 (rdP v3 t3) (rdP v6 t6)=(v7,t7,0)∧(∀ t∈t6,t.1.length≤570)∧∀ la lb,rdP v3 t3=some la→rdP v6 t6=some lb→v3=v6→Dv (la ++ lb)
end
def D10 (k:Nat):Nat:=10^k
theorem SM {a:Nat} (h:a≤b):10^a≤D10 b:=Nat.pow_le_pow_right (by omega) h
structure Q6 (q:Rat):Prop where
 n:q.num.natAbs<10^6
 d:q.den<10^4
 m:q.den=1∨q.num.natAbs<10^4
theorem Q6.of (h:(txt q).length≤6):Q6 q:=by
 have h1:=Ha q.num.natAbs;have h2:(Lib.decDigits q.num.natAbs).length≤(Lib.itoa q.num).length:=by
  unfold Lib.itoa;split
  · simp
  · have e:q.num.toNat=q.num.natAbs:=by omega
    simp [e]
 have h0:0<(Lib.decDigits q.num.natAbs).length:=List.length_pos_iff.2 (W.dec_ne _);have up:∀ {x a b:Nat},x<10^a→a≤b→x<10^b:=fun hx hab=>Nat.lt_of_lt_of_le hx (Nat.pow_le_pow_right (by omega) hab);unfold txt at h;rw [List.length_append] at h;by_cases hd:q.den=1
 · exact ⟨up h1 (by omega),by rw [hd]; decide,Or.inl hd⟩
 · have h3:=Ha q.den;have h4:0<(Lib.decDigits q.den).length:=List.length_pos_iff.2 (W.dec_ne _);rw [if_neg hd,List.length_cons] at h;exact ⟨up h1 (by omega),up h3 (by omega),Or.inr (up h1 (by omega))⟩
def sg (g:Nat→Nat):Nat→Nat
 | 0=>0
 | k+1=>sg g k+g k
theorem V4 (h:Q6 x) {g e:Nat} (he:e≤g):(Pl.pwz x g e).natAbs≤10^(4*g+2*e):=by
 unfold Pl.pwz;rw [Int.natAbs_mul,Int.natAbs_pow,Int.natAbs_pow,Int.natAbs_natCast];rcases h.m with hd|hn
 · rw [hd,Nat.one_pow,Nat.mul_one];refine Nat.le_trans (Nat.pow_le_pow_left (Nat.le_of_lt h.n) e) ?_;rw [←Nat.pow_mul];exact Nat.pow_le_pow_right (by omega) (by omega)
 · refine Nat.le_trans (Nat.mul_le_mul (Nat.pow_le_pow_left (Nat.le_of_lt hn) e) (Nat.pow_le_pow_left (Nat.le_of_lt h.d) (g-e))) ?_;rw [←Nat.pow_mul,←Nat.pow_mul,←Nat.pow_add];exact Nat.pow_le_pow_right (by omega) (by omega)
section
variable {d:Nat} {g:Nat→Nat} {pt:List Rat} {t:Pl.Tm} {l:List Pl.Tm}
theorem UJ (hx:∀ v,v<pt.length→Q6 (pt.getD v 0)):∀ k,k≤pt.length→(∀ v,v<k→(t.1.getD v 0).toNat≤g v)→(Pl.zev d g pt t k).natAbs≤(Pl.zsc t.2 d).natAbs*10^(4*sg g k+2*sg (fun v=>(t.1.getD v 0).toNat) k)
 | 0,_,_=>by
  show (Pl.zsc t.2 d).natAbs≤(Pl.zsc t.2 d).natAbs*1;omega
 | k+1,hk,he=>by
  unfold Pl.zev;rw [Int.natAbs_mul];refine Nat.le_trans (Nat.mul_le_mul (UJ hx k (by omega) fun v hv=>he v (by omega)) (V4 (hx k (by omega)) (he k (by omega)))) ?_;rw [Nat.mul_assoc,←Nat.pow_add];refine Nat.le_of_eq (congrArg _ (congrArg _ ?_));show _=4*(sg g k+g k)+2*(sg (fun v=>(t.1.getD v 0).toNat) k+(t.1.getD k 0).toNat);omega
theorem UK (hx:∀ v,v<pt.length→Q6 (pt.getD v 0)):∀ k,k≤pt.length→Pl.dev d g pt k≤d*10^(4*sg g k)
 | 0,_=>by
  show d≤d*1;omega
 | k+1,hk=>by
  unfold Pl.dev;refine Nat.le_trans (Nat.mul_le_mul (UK hx k (by omega)) (Nat.pow_le_pow_left (Nat.le_of_lt (hx k (by omega)).d) (g k))) ?_;rw [Nat.mul_assoc,←Nat.pow_mul,←Nat.pow_add];refine Nat.le_of_eq (congrArg _ (congrArg _ ?_));show _=4*(sg g k+g k);omega
theorem SO {e:List Int} (h:∀ x∈e,0≤x):∀ k,k≤e.length→((sg (fun v=>(e.getD v 0).toNat) k:Nat):Int)=(e.take k).sum
 | 0,_=>by simp [sg]
 | k+1,hk=>by
  have h1:=SO h k (by omega);have h2:=h e[k] (List.getElem_mem _);have h3:e.getD k 0=e[k]:=by simp [(by omega:k<e.length)]
  rw [List.take_succ_eq_append_getElem (by omega),List.sum_append,←h1];show (((sg (fun v=>(e.getD v 0).toNat) k+(e.getD k 0).toNat:Nat)):Int)=_;rw [h3];simp;omega
theorem V5 {e:List Int} (h:∀ x∈e,0≤x) {k:Nat} (hk:k≤e.length) (hs:e.sum≤24):sg (fun v=>(e.getD v 0).toNat) k≤24:=by
 have h1:=SO h k hk;have h2:e.sum=(e.take k).sum+(e.drop k).sum:=by rw [←List.sum_append,List.take_append_drop]
 have h3:=(Fx (l:=e.drop k) fun x hx=>h x (List.mem_of_mem_drop hx)).1;omega
theorem SP {B:Nat} (f:Pl.Tm→Int):∀ (l:List Pl.Tm),(∀ t∈l,(f t).natAbs≤B)→(l.foldr (fun t a=>f t+a) 0).natAbs≤l.length*B
 | [],_=>by simp
 | t :: r,h=>by
  have h1:=SP f r fun s hs=>h s (by simp [hs]);have h2:=h t (by simp);rw [List.foldr_cons,List.length_cons,Nat.succ_mul];omega
end
section
variable {n N d y:Nat} {a b:List Int} {l k:List Pl.Tm} {ts:List Tx}
theorem Vq (pv:Pv (n:Int) l) (hs:∀ t∈l,t.1.sum≤24) (hp:Ar a=true) (ha:a.length=n) (hn:n≤6):Lo (C6 n a l):=by
 intro u hu;obtain ⟨t,ht,rfl⟩:=Jd hu;have h1:=Ko hp ha hn (pv.inv t ht);have h2:=O4 hp ha hn (pv.inv t ht);have h3:=hs t ht;exact ⟨h1.1,fun x hx=>⟨h1.2.1 x hx,by have:=(Fx h1.2.1).2 x hx; show x≤_; omega⟩⟩
theorem Bd.sumA (h:Bd (n:Int) N d y l) (hs:∀ t∈l,t.1.sum≤24) (hp:Ar a=true) (ha:a.length=n) (hn:n≤6) (h1:N≤1000) (h2:d≤1900) (h3:y≤1900):Dv (C6 n a l):=by
 obtain ⟨D,d1,d2,d3⟩:=h.sb;refine NV (b:=1920) (D:=D) (Y:=P2 y) (fun u hu => ?_) d1 (Ag d2 (by omega)) ?_ (by omega) (Vq h.pv hs hp ha hn) (by rw [Je]; have:=h.len; omega)
 · obtain ⟨t,ht,rfl⟩:=Jd hu;exact d3 t ht
 · rw [Je];have e1:l.length≤P2 10:=Nat.le_trans h.len (Nat.le_trans h1 (by unfold P2; decide));refine Nat.lt_of_le_of_lt (Nat.mul_le_mul_right _ e1) ?_;rw [←BZ];exact Ed (by omega)
end
structure WB (n:Nat) (A B:List Int) (tp tq tu tv:List Tx) (lp lq:List Pl.Tm):Prop where
 u:actA n B (rdP (n:Int) tp)=((n:Int),tu,0)
 su:Dv (C6 n B lp)
 ru:rdP (n:Int) tu=some (cnP (C6 n B lp))
 v:actA n A (rdP (n:Int) tu)=((n:Int),tv,0)
 sv:Dv (C6 n A (cnP (C6 n B lp)))
 w:actA n (comp A B) (rdP (n:Int) tp)=((n:Int),tv,0)
 sw:Dv (C6 n (comp A B) lp)
 xu:∀ t∈tu,t.1.length≤570
 mul:∀ la lb,rdP (n:Int) tp=some la→rdP (n:Int) tq=some lb→(n:Int)=(n:Int)→Kg la lb
 sm:Dt tu 5 8
structure WD (n:Nat) (B:List Int) (tq tu tm ts tt:List Tx) (lm lq lu:List Pl.Tm):Prop where
 rm:rdP (n:Int) tm=some lm
 xm:∀ t∈tm,t.1.length≤570
 s:actA n B (rdP (n:Int) tm)=((n:Int),ts,0)
 ss:Dv (C6 n B lm)
 t:actA n B (rdP (n:Int) tq)=((n:Int),tt,0)
 st:Dv (C6 n B lq)
 xt:∀ t∈tt,t.1.length≤570
 r:mulA n n (rdP (n:Int) tu) (rdP (n:Int) tt)=((n:Int),ts,0)
 mo:∀ la lb,rdP (n:Int) tu=some la→rdP (n:Int) tt=some lb→(n:Int)=(n:Int)→Kg la lb
section
variable {n:Nat} {A B:List Int} {tp tq tm:List Tx} {lp lq:List Pl.Tm} {v3:Int}
end
def Ee (l:List UInt8):Value := .string ⟨l.toArray⟩
section
variable {us:List (List UInt8)} {B:List Int} {n:Nat}
end
theorem LF (s:ByteArray):Ee (Am s) = .string s:=by
 unfold Ee Am;cases s;simp
theorem SR:Bh Tryz.prog 9 (.string ⟨#[]⟩) 16:=by unfold Bh; kernel_rfl
theorem Rg {a:Option Addr} {c:Nat} {l:List (List UInt8)} (h:Own w base 9 a n c (l.map Ee)) (hl:l.length=n):Ki w a n c l:=by
 refine ⟨l.map Ee,h.sl,hl,fun i hi=>⟨⟨(l.getD i []).toArray⟩, ?_,AU _⟩⟩;simp [hl,hi,Ee]
theorem Kq {a b:Option Addr} {c:Nat} {ts:List Tx} {xs:List (List UInt8)} {l:List Pl.Tm} {pt:List Rat} (h1:rdP va ts=some l) (h2:rdAll xs=some pt) (h3:(m:Int)=va) (h4:EvB l pt∧EZ (Pl.evq pt l)) (hT:A2 w) (ha:CJ w a n c ts) (hb:Ki w b m d xs) (sa:∀ t∈ts,t.1.length≤570) (sb:∀ t∈xs,t.length≤570) (hm:m≤1000000) :
 Calls Tryz.prog 18 #[.agg #[.int .i64 va, .slice a n c], .slice b m d] w fun e w'=>e = .returned (.tuple #[.string ⟨(txt (Pl.evq pt l)).toArray⟩, .int .i64 0])∧Ext w w':=by
 refine (Rb hT ha hb sa sb hm (fun l' pt' e1 e2 _ => ?_)).mono fun e w' h => ?_
 · rw [h1] at e1; cases e1;rw [h2] at e2; cases e2;exact h4
 · rw [h1,h2] at h;rcases h with ⟨l',pt',e1,e2,_,h⟩|⟨_,h,_⟩|⟨h,_⟩
   · cases e1; cases e2;exact h
   · exact absurd h3 h
   · cases h
end Go.Proofs.YtlpgonpfjbhmfaaGreatDoor
