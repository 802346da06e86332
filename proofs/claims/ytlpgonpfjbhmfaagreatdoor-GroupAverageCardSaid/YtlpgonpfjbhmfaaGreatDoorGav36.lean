/- Part Gav36. -/
import Derived.Test.YtlpgonpfjbhmfaaGreatDoorGav7
import Derived.Test.YtlpgonpfjbhmfaaGreatDoorGav35
import Derived.Test.YtlpgonpfjbhmfaaGreatDoorGav3
import Derived.Test.YtlpgonpfjbhmfaaGreatDoorGav5
import Derived.Shelf.GgSortFunc.Insertion
import Derived.Shelf.SlLaysF
import Derived.Test.YtlpgonpfjbhmfaaGreatDoorProg
import Derived.Test.YtlpgonpfjbhmfaaGreatDoorGav6
import Derived.Shelf.SlSortCmp.Whole1
set_option maxRecDepth 100000
set_option maxHeartbeats 100000000
namespace Go.Proofs.YtlpgonpfjbhmfaaGreatDoor
open Go Go.RowKit
variable {L gs ps:List (List Int)} {a k m p x xs y:List Int} {n:Nat} {q:Rat}
def rk (gs:List (List Int)) (n:Nat) (e:List Int):List Int:=Ae (Bv gs (e.take n))
noncomputable def sumK (gs:List (List Int)) (n:Nat) (l:List Pl.Tm):List Pl.Tm:=l.foldl (fun acc t=>Pl.putK acc (rk gs n t.1) (Pl.getK 0 acc (rk gs n t.1)+t.2)) []
theorem Rh {k:Nat} {l:List Pl.Tm} (h:k<l.length):sumK gs n (l.take (k+1))=Pl.putK (sumK gs n (l.take k)) (rk gs n (l.getD k ([],0)).1) (Pl.getK 0 (sumK gs n (l.take k)) (rk gs n (l.getD k ([],0)).1)+(l.getD k ([],0)).2):=by
 unfold sumK;rw [List.take_succ_eq_append_getElem h,List.foldl_append];simp [h]
theorem Kr (gs:List (List Int)) (n:Nat) (l:List Pl.Tm):(sumK gs n l).length≤l.length:=by
 have key:∀ (l acc:List Pl.Tm),(l.foldl (fun acc t=>Pl.putK acc (rk gs n t.1) (Pl.getK 0 acc (rk gs n t.1)+t.2)) acc).length≤acc.length+l.length:=by
  intro l
  induction l with
  | nil=>intro acc; simp
  | cons t r ih =>
   intro acc;rw [List.foldl_cons,List.length_cons];have h1:=ih (Pl.putK acc (rk gs n t.1) (Pl.getK 0 acc (rk gs n t.1)+t.2));have h2:=Pl.putK_length (rk gs n t.1) (Pl.getK 0 acc (rk gs n t.1)+t.2) acc;omega
 have:=key l [];simpa [sumK] using this
def Ev (L:List Pl.Tm):List (List Int×Value):=L.map fun p=>(p.1,Ee (txt p.2))
theorem DJ (L:List Pl.Tm):(Ev L).map (·.1)=L.map (·.1):=by simp [Ev]
theorem Ew (k:List Int):∀ (i:Nat) (L:List Pl.Tm),BG k i (Ev L)=(Pl.posK k i L).map fun p=>(p.1,Ee (txt p.2))
 | _,[]=>rfl
 | i,(k',q) :: r=>by
  show (if k=k' then some (i,Ee (txt q)) else BG k (i+1) (Ev r))=_;unfold Pl.posK;by_cases h:k=k'
  · rw [if_pos h,if_pos h];rfl
  · rw [if_neg h,if_neg h,Ew k (i+1) r]
theorem ST (k:List Int) (L:List Pl.Tm):Ro (Ev L) k=decide (k∈L.map (·.1)):=by
 unfold Ro;rw [←DJ];cases h:BG k 0 (Ev L) with
 | none=>simp [Bp.1 h]
 | some p =>
  have:¬ BG k 0 (Ev L)=none:=by rw [h]; simp
  rw [Bp] at this;simpa using this
theorem NZ {L:List Pl.Tm} (h:k∈L.map (·.1)):D6 (.string ⟨#[]⟩) (Ev L) k=Ee (txt (Pl.getK 0 L k)):=by
 unfold D6 Pl.getK;have h1:¬ BG k 0 (Ev L)=none:=by rw [Bp,DJ]; exact fun h2=>h2 h
 rw [Ew] at h1 ⊢;cases hp:Pl.posK k 0 L with
 | none=>rw [hp] at h1; exact absurd rfl h1
 | some p=>rfl
theorem P8 {L:List Pl.Tm} (h:k ∉ L.map (·.1)):Pl.getK 0 L k=0:=by
 unfold Pl.getK;have h1:BG k 0 (Ev L)=none:=by rw [Bp,DJ]; exact h
 rw [Ew] at h1;cases hp:Pl.posK k 0 L with
 | none=>rfl
 | some p=>rw [hp] at h1; cases h1
theorem Ug (k:List Int) (q:Rat) (L:List Pl.Tm):Hm (Ev L) k (Ee (txt q))=Ev (Pl.putK L k q):=by
 unfold Hm Pl.putK;rw [Ew];cases hp:Pl.posK k 0 L with
 | none=>simp [Ev]
 | some p =>
  show (Ev L).set p.1 (k,Ee (txt q))=Ev (L.set p.1 (k,q));simp [Ev,List.map_set]
theorem Hf {L:List Pl.Tm}:(Pl.putK L k q).map (·.1)=if k∈L.map (·.1) then L.map (·.1) else L.map (·.1) ++ [k]:=by
 have hs:=Ew k 0 L;unfold Pl.putK;cases hp:Pl.posK k 0 L with
 | none =>
  rw [hp] at hs;have h1:=Bp.1 hs;rw [DJ] at h1;rw [if_neg h1];simp
 | some p =>
  rw [hp] at hs;obtain ⟨_,h2⟩:=DV hs;rw [Nat.sub_zero] at h2;have h3:(Ev L).map (·.1)=L.map (·.1):=DJ L;have h4:k∈L.map (·.1):=by rw [←h3]; exact List.mem_map.2 ⟨_,List.mem_of_getElem? h2,rfl⟩
  have h5:(L.map (·.1))[p.1]?=some k:=by
   rw [←h3,List.getElem?_map,h2];rfl
  rw [if_pos h4];show (L.set p.1 (k,q)).map (·.1)=_;rw [List.map_set];refine List.ext_getElem? fun j => ?_;rw [List.getElem?_set];by_cases hj:p.1=j
  · subst hj;have hlt:p.1<(L.map (·.1)).length:=(List.getElem?_eq_some_iff.1 h5).1;rw [if_pos rfl,if_pos hlt,h5]
  · rw [if_neg hj]
theorem Ks (gs:List (List Int)) (n:Nat) (l:List Pl.Tm):∀ p∈sumK gs n l,∃ t∈l,p.1=rk gs n t.1:=by
 have key:∀ (l acc:List Pl.Tm),∀ e∈(l.foldl (fun acc t=>Pl.putK acc (rk gs n t.1) (Pl.getK 0 acc (rk gs n t.1)+t.2)) acc).map (·.1),e∈acc.map (·.1)∨∃ t∈l,e=rk gs n t.1:=by
  intro l
  induction l with
  | nil=>exact fun acc e h=>Or.inl h
  | cons t r ih =>
   intro acc e h;rw [List.foldl_cons] at h;rcases ih _ e h with h|⟨s,hs,h⟩
   · rcases (Pl.putK_keys _ _ acc e).1 h with h1|h1
     · exact Or.inl h1
     · exact Or.inr ⟨t,by simp,h1⟩
   · exact Or.inr ⟨s,by simp [hs],h⟩
 intro p hp;rcases key l [] p.1 (List.mem_map.2 ⟨p,hp,rfl⟩) with h|h
 · simp at h
 · exact h
theorem LG {l:List Pl.Tm} (hn:n≤6) (h6:∀ t∈l,t.1.length=6):∀ p∈sumK gs n l,∃ m:List Int,m.length=n∧p.1=Ae m:=fun p hp=>by
 obtain ⟨t,ht,e⟩:=Ks gs n l p hp;exact ⟨Bv gs (t.1.take n),by unfold Bv; rw [DK,List.length_take,h6 t ht]; omega,e⟩
theorem Ri (hL:∀ x∈L,x.length=n) (hp:p.length=n):Hm (BK L) (Ae p) (.bool true)=BK (if p∈L then L else L ++ [p]):=by
 by_cases h:p∈L
 · rw [if_pos h];unfold Hm;cases hf:BG (Ae p) 0 (BK L) with
   | none =>
    rw [Bp,FX,Jh hL hp] at hf;exact absurd h hf
   | some q =>
    obtain ⟨i,v⟩:=q;obtain ⟨_,h2⟩:=DV hf;rw [Nat.sub_zero] at h2;show (BK L).set i (Ae p,Value.bool true)=BK L;have hv:v = .bool true:=by
     have h3:=List.mem_of_getElem? h2;obtain ⟨x,_,e⟩:=List.mem_map.1 h3;exact (congrArg Prod.snd e).symm
    rw [hv] at h2;refine List.ext_getElem? fun j => ?_;rw [List.getElem?_set];by_cases hj:i=j
    · subst hj;rw [if_pos rfl,if_pos (List.getElem?_eq_some_iff.1 h2).1,h2]
    · rw [if_neg hj]
 · rw [if_neg h];exact Oi hL hp h
theorem Uh {K:List Pl.Tm} (hn:(K.map (·.1)).Nodup) {j:Nat} (hj:j<K.length):Pl.getK 0 K (K.getD j ([],0)).1=(K.getD j ([],0)).2:=by
 have hm:K.getD j ([],0)∈K:=by
  rw [gqq,List.getElem?_eq_getElem hj];exact List.getElem_mem _
 rw [Pl.getK_coef K _ hn,Pl.coef_mem hn hm]
def B8 (gs:List (List Int)) (m:List Int):Nat→List (List Int)
 | 0=>[]
 | i+1=>if mvd (gs.getD i []) m∈B8 gs m i then B8 gs m i else B8 gs m i ++ [mvd (gs.getD i []) m]
theorem Fz {gs:List (List Int)} {m:List Int}:∀ (i:Nat) (x:List Int),x∈B8 gs m i↔∃ j,j<i∧x=mvd (gs.getD j []) m
 | 0,x=>by simp [B8]
 | i+1,x=>by
  have h:=Fz (gs:=gs) (m:=m) i;unfold B8;constructor
  · intro hx;split at hx
    · obtain ⟨j,hj,e⟩:=(h x).1 hx;exact ⟨j,by omega,e⟩
    · rcases List.mem_append.1 hx with hx|hx
      · obtain ⟨j,hj,e⟩:=(h x).1 hx;exact ⟨j,by omega,e⟩
      · exact ⟨i,by omega,by simpa using hx⟩
  · rintro ⟨j,hj,rfl⟩;rcases Nat.lt_or_ge j i with hji|hji
    · have h1:=(h _).2 ⟨j,hji,rfl⟩;split
      · exact h1
      · exact List.mem_append_left _ h1
    · have e:j=i:=by omega
      subst e;split
      · assumption
      · simp
theorem DS {gs:List (List Int)} {m:List Int}:∀ i,(B8 gs m i).Nodup
 | 0=>by simp [B8]
 | i+1=>by
  have h:=DS (gs:=gs) (m:=m) i;unfold B8;split
  · exact h
  · rename_i hn;rw [List.nodup_append]
    exact ⟨h,by simp,fun a ha b hb=>by
     simp only [List.mem_singleton] at hb;subst hb;rintro rfl
     exact hn ha⟩
theorem Jf {gs:List (List Int)} {m:List Int}:∀ i,(B8 gs m i).length≤i
 | 0=>by simp [B8]
 | i+1=>by
  have h:=Jf (gs:=gs) (m:=m) i;unfold B8;split
  · omega
  · simp;omega
noncomputable def srtL (L:List (List Int)):List (List Int):=Classical.epsilon fun ps=>ps.Perm L∧CX ps 0 ps.length
theorem Ui (hn:L.Nodup) (h1:ps.Perm L) (h2:CX ps 0 ps.length):ps=srtL L:=by
 have h:=Classical.epsilon_spec (p:=fun ps=>ps.Perm L∧CX ps 0 ps.length) ⟨ps,h1,h2⟩;exact GA (h1.nodup_iff.2 hn) (h.1.nodup_iff.2 hn) (fun x=>by rw [h1.mem_iff]; exact (h.1.mem_iff (a:=x)).symm) h2 h.2
noncomputable def orbT (gs:List (List Int)) (n:Nat) (p:Pl.Tm):List Tx:=if p.2=0 then [] else (srtL (B8 gs (p.1.take n) gs.length)).map fun e=>(txt (p.2*((((B8 gs (p.1.take n) gs.length).length:Nat):Int):Rat)⁻¹),e)
noncomputable def avT (gs:List (List Int)) (n:Nat) (K:List Pl.Tm):List Tx:=K.flatMap (orbT gs n)
theorem SU {k:Nat} {K:List Pl.Tm} (h:k<K.length):avT gs n (K.take (k+1))=avT gs n (K.take k) ++ orbT gs n (K.getD k ([],0)):=by
 unfold avT;rw [List.take_succ_eq_append_getElem h,List.flatMap_append];simp [h]
theorem N2 (gs:List (List Int)) (n k:Nat) (K:List Pl.Tm):(avT gs n (K.take k)).length≤(avT gs n K).length:=by
 have h:avT gs n K=avT gs n (K.take k) ++ avT gs n (K.drop k):=by
  unfold avT;rw [←List.flatMap_append,List.take_append_drop]
 rw [h,List.length_append];omega
structure SV (gs:List (List Int)) (n:Nat) (l:List Pl.Tm):Prop where
 rb:∀ k e,Pl.RB 400 (Pl.getK 0 (sumK gs n (l.take k)) e)
 cb:∀ t∈l,Pl.RB 400 t.2
 tb:∀ q,Pl.RB 400 q→(txt q).length≤570
 gl:gs.length≤1000
 len:(avT gs n (sumK gs n l)).length≤4096
 mkt:∀ t∈avT gs n (sumK gs n l),Fv n t
 tx:∀ t∈avT gs n (sumK gs n l),t.1.length≤570
 fin:Dv ((avT gs n (sumK gs n l)).map Ci)
theorem SZ {a m:List Int} (hp:Ar a=true) (hl:m.length=a.length):∀ k,k≤a.length→∀ j:Nat,(∃ i,i<k∧a.getD i 0=(j:Int))→(Ih a m k).getD j 0=m.getD ((BU a k).getD j 0).toNat 0
 | 0,_,j,⟨i,hi,_⟩=>by omega
 | k+1,hk,j,⟨i,hi,he⟩=>by
  have h0:=B3 hp (i:=k) (by omega);show ((Ih a m k).set (a.getD k 0).toNat (m.getD k 0)).getD j 0=m.getD (((BU a k).set (a.getD k 0).toNat k).getD j 0).toNat 0;rw [Ig (by rw [Cp]; omega),Ig (by rw [Cc]; omega)];by_cases hj:(a.getD k 0).toNat=j
  · rw [if_pos hj,if_pos hj];simp
  · rw [if_neg hj,if_neg hj];refine SZ hp hl k (by omega) j ⟨i, ?_,he⟩;rcases Nat.lt_or_ge i k with h|h
    · exact h
    · have:i=k:=by omega
      subst this;omega
theorem S0 (hp:Ar a=true) (hl:m.length=a.length):mvd a m=comp m (BU a a.length):=by
 have hi:=G5 hp;have hr:=FN hp;apply List.ext_getElem
 · rw [mvd,Cp,B6,Cc,hl]
 · intro j h1 h2;have hj:j<a.length:=by rw [mvd,Cp,hl] at h1; exact h1
   have hji:j<(BU a a.length).length:=by rw [Cc]; exact hj
   have hb:=B3 hi hji;rw [Cc] at hb
   have e:=SZ hp hl a.length (lrf _) j ⟨((BU a a.length).getD j 0).toNat,by omega,by
    have:(comp a (BU a a.length)).getD j 0=(idn a.length).getD j 0:=by rw [hr]
    unfold comp at this;rw [Dm hji,G3 hj] at this
    exact this⟩
   have e1:(mvd a m)[j]=(mvd a m).getD j 0:=by simp [h1]
   have e2:(comp m (BU a a.length))[j]=(comp m (BU a a.length)).getD j 0:=by simp [h2]
   rw [e1,e2];unfold comp;rw [Dm hji];unfold mvd;rw [hl];exact e
theorem Vr:∀ n,n<7→∀ xs∈gen n (idn n),(comp (BU xs xs.length) xs == idn xs.length)=true:=by decide +kernel
theorem N3 (h:Ar xs=true):comp (BU xs xs.length) xs=idn xs.length:=by
 have:=Vr _ (G4 h).1 _ (G4 h).2;simpa using this
theorem Mz (hp:Ar a=true) (hx:x.length=a.length) (hy:y.length=a.length):mvd a x=y↔x=comp y a:=by
 have hi:=G5 hp;have b1:∀ z∈a,0≤z∧z<a.length:=(AF hp).2.1;have b2:∀ z∈BU a a.length,0≤z∧z<a.length:=by
  have:=(AF hi).2.1;rw [Cc] at this;exact this
 rw [S0 hp hx];constructor
 · rintro rfl;rw [C3 (by rw [Cc]; exact b1),N3 hp,←hx,DQ]
 · rintro rfl;rw [C3 b2,FN hp,←hy,DQ]
def Ca (gs:List (List Int)) (x y:List Int):Prop:=∃ g∈gs,mvd g x=y
theorem Vs (hg:isG gs) {g:List Int} (h:g∈gs) (k:Nat):pw g k∈gs:=by
 refine hg.closed _ ⟨List.replicate k g,fun x hx=>by rw [(List.mem_replicate.1 hx).2]; exact h, ?_⟩;have hl:=(hg.perms g h).2
 induction k with
 | zero=>simp [pw,hl]
 | succ k ih=>rw [List.replicate_succ,List.foldr_cons,←ih]; rfl
theorem Ca.iff (hg:isG gs) {x y:List Int} (hx:x.length=(gs.getD 0 []).length) (hy:y.length=(gs.getD 0 []).length):Ca gs x y↔∃ g∈gs,x=comp y g:=by
 constructor
 · rintro ⟨g,h1,h2⟩;obtain ⟨p,l⟩:=hg.perms g h1;exact ⟨g,h1,(Mz p (by rw [hx,l]) (by rw [hy,l])).1 h2⟩
 · rintro ⟨g,h1,h2⟩;obtain ⟨p,l⟩:=hg.perms g h1;exact ⟨g,h1,(Mz p (by rw [hx,l]) (by rw [hy,l])).2 h2⟩
theorem Ca.refl (hg:isG gs) {x:List Int} (hx:x.length=(gs.getD 0 []).length):Ca gs x x:=by
 rw [Ca.iff hg hx hx];refine ⟨idn (gs.getD 0 []).length,hg.closed _ (Do _ _), ?_⟩;rw [←hx,DQ]
theorem Ca.symm (hg:isG gs) {x y:List Int} (hx:x.length=(gs.getD 0 []).length) (hy:y.length=(gs.getD 0 []).length) (h:Ca gs x y):Ca gs y x:=by
 rw [Ca.iff hg hx hy] at h;rw [Ca.iff hg hy hx];obtain ⟨g,h1,rfl⟩:=h;obtain ⟨p,l⟩:=hg.perms g h1;obtain ⟨o1,o2,o3,_⟩:=Ss p;refine ⟨pw g (IZ g-1),Vs hg h1 _, ?_⟩;have hpp:=PR p (IZ g-1);have hpl:=OV g (IZ g-1);have e:comp g (pw g (IZ g-1))=idn g.length:=by
  rw [←o3];obtain ⟨k,hk⟩:∃ k,IZ g=k+1:=⟨IZ g-1,by omega⟩;rw [hk];rfl
 rw [C3 (by have:=(AF hpp).2.1; rw [hpl] at this; exact this),e,l,←hy,DQ]
theorem Ca.trans (hg:isG gs) {x y z:List Int} (hx:x.length=(gs.getD 0 []).length) (hy:y.length=(gs.getD 0 []).length) (hz:z.length=(gs.getD 0 []).length) (h:Ca gs x y) (k:Ca gs y z):Ca gs x z:=by
 rw [Ca.iff hg hx hy] at h;rw [Ca.iff hg hy hz] at k;rw [Ca.iff hg hx hz];obtain ⟨g,h1,rfl⟩:=h;obtain ⟨g',h2,rfl⟩:=k;obtain ⟨p,l⟩:=hg.perms g h1;obtain ⟨p',l'⟩:=hg.perms g' h2;obtain ⟨i,hi,rfl⟩:=DW h1;obtain ⟨j,hj,rfl⟩:=DW h2;refine ⟨_,hg.comp hj hi, ?_⟩;rw [C3 (by have:=(AF p).2.1; rw [l,←l'] at this; exact this)]
theorem N4 {gs:List (List Int)} {m:List Int}:∀ k,A0 (BH gs m k) m≤0∧∀ j,j<k→A0 (BH gs m k) (mvd (gs.getD j []) m)≤0
 | 0=>⟨by rw [BH,C9]; omega,fun j hj=>by omega⟩
 | k+1=>by
  obtain ⟨h1,h2⟩:=N4 (gs:=gs) (m:=m) k;unfold BH;by_cases hc:A0 (mvd (gs.getD k []) m) (BH gs m k)<0
  · rw [if_pos hc];refine ⟨CK (by omega) h1,fun j hj => ?_⟩;by_cases he:j=k
    · subst he;rw [C9];omega
    · exact CK (by omega) (h2 j (by omega))
  · rw [if_neg hc];refine ⟨h1,fun j hj => ?_⟩;by_cases he:j=k
    · subst he;have:=BI (mvd (gs.getD j []) m) (BH gs m j);omega
    · exact h2 j (by omega)
theorem N5 {gs:List (List Int)} {m:List Int}:∀ k,k≤gs.length→BH gs m k=m∨Ca gs m (BH gs m k)
 | 0,_=>Or.inl rfl
 | k+1,hk=>by
  unfold BH;split
  · exact Or.inr ⟨_,Bs (by omega),rfl⟩
  · exact N5 k (by omega)
theorem EQ (hg:isG gs) {x:List Int} (hx:x.length=(gs.getD 0 []).length):Ca gs x (Bv gs x):=by
 rcases N5 (gs:=gs) (m:=x) gs.length (lrf _) with h|h
 · have:=Ca.refl hg hx;unfold Bv;rw [h];exact this
 · exact h
theorem S1 (h:Ca gs x y):A0 (Bv gs x) y≤0:=by
 obtain ⟨g,h1,rfl⟩:=h;obtain ⟨i,hi,rfl⟩:=DW h1;exact (N4 gs.length).2 i hi
theorem FSq (gs:List (List Int)) (x:List Int):(Bv gs x).length=x.length:=DK gs x _
theorem Uj (hg:isG gs) {x y:List Int} (hx:x.length=(gs.getD 0 []).length) (hy:y.length=(gs.getD 0 []).length):Ca gs x y↔Bv gs x=Bv gs y:=by
 have lx:(Bv gs x).length=(gs.getD 0 []).length:=by rw [FSq,hx]
 have ly:(Bv gs y).length=(gs.getD 0 []).length:=by rw [FSq,hy]
 constructor
 · intro h;have h1:=S1 (Ca.trans hg hy hx lx (Ca.symm hg hx hy h) (EQ hg hx));have h2:=S1 (Ca.trans hg hx hy ly h (EQ hg hy));have:=BI (Bv gs x) (Bv gs y);exact Hs (by omega)
 · intro h;have h1:=EQ hg hx;have h2:=EQ hg hy;rw [h] at h1;exact Ca.trans hg hx ly hy h1 (Ca.symm hg hy ly h2)
def dk (ks:List (List Int)):Nat→List (List Int)
 | 0=>[]
 | i+1=>if ks.getD i []∈dk ks i then dk ks i else dk ks i ++ [ks.getD i []]
structure GN (gs:List (List Int)) (n:Nat):Prop where
 g:isG gs
 p:B5 gs n
 l:(gs.getD 0 []).length=n
 n6:n≤6
theorem ER :x∈B8 gs m gs.length↔Ca gs m x:=by
 rw [Fz];constructor
 · rintro ⟨j,hj,rfl⟩;exact ⟨_,Bs hj,rfl⟩
 · rintro ⟨g,hg,rfl⟩;obtain ⟨j,hj,rfl⟩:=DW hg;exact ⟨j,hj,rfl⟩
theorem S2 (L:List (List Int)):∃ ps:List (List Int),ps.Perm L∧CX ps 0 ps.length:=by
 refine ⟨L.mergeSort (fun a b=>decide (A0 a b≤0)),List.mergeSort_perm _ _, ?_⟩
 have h:=List.pairwise_mergeSort (le:=fun a b=>decide (A0 a b≤0)) (fun a b c h1 h2=>by
  simp only [decide_eq_true_eq] at *
  exact CK h1 h2) (fun a b=>by
  simp only [Bool.or_eq_true,decide_eq_true_eq]
  exact Pc a b) L
 rw [List.pairwise_iff_getElem] at h;intro i j _ hij hj;have h1:=h i j (by omega) hj hij;simp only [decide_eq_true_eq] at h1;rw [gqq,gqq,List.getElem?_eq_getElem (by omega),List.getElem?_eq_getElem hj];exact h1
theorem Hg (L:List (List Int)):(srtL L).Perm L:=(Classical.epsilon_spec (p:=fun ps=>ps.Perm L∧CX ps 0 ps.length) (S2 L)).1
section
variable {gs:List (List Int)} {n:Nat} {l:List Pl.Tm}
theorem DU (G:GN gs n) {m x:List Int} (hm:m.length=n) (hx:x.length=n):Ca gs m x↔Bv gs m=Bv gs x:=Uj G.g (hm.trans G.l.symm) (hx.trans G.l.symm)
theorem Hh (G:GN gs n) {m x:List Int} (hm:m.length=n) (hx:x.length=n) (h:Bv gs m=Bv gs x):(B8 gs m gs.length).length=(B8 gs x gs.length).length:=by
 refine (Pl.perm_mem (DS _) (DS _) fun y => ?_).length_eq;rw [ER,ER]
 have key:∀ {a b:List Int},a.length=n→b.length=n→Bv gs a=Bv gs b→Ca gs a y→Ca gs b y:=fun ha hb h hr=>by
  obtain ⟨g,hg,e⟩:=hr;have hy:y.length=n:=by rw [←e,Bg]; exact ha
  rw [DU G hb hy,←h];exact (DU G ha hy).1 ⟨g,hg,e⟩
 exact ⟨key hm hx h,key hx hm h.symm⟩
theorem S3 (G:GN gs n) {x:List Int} (hx:x.length=n):Bv gs (Bv gs x)=Bv gs x:=by
 have h:=EQ G.g (hx.trans G.l.symm);exact ((DU G hx (by rw [FSq]; exact hx)).1 h).symm
theorem LH {c:Rat} {x:List Int} (hx:x.length=n):∀ {ps:List (List Int)},ps.Nodup→(∀ y∈ps,y.length=n)→Pl.coef (ps.map fun e=>((Ae e,c):Pl.Tm)) (Ae x)=if x∈ps then c else 0
 | [],_,_=>rfl
 | y :: r,hn,hl=>by
  have ih:=LH (c:=c) hx (ps:=r) (List.nodup_cons.1 hn).2 fun z hz=>hl z (by simp [hz]);show (if Ae y=Ae x then c else 0)+Pl.coef (r.map fun e=>((Ae e,c):Pl.Tm)) (Ae x)=_;rw [ih];by_cases h:y=x
  · subst h;rw [if_pos rfl,if_neg (List.nodup_cons.1 hn).1,if_pos (by simp),Rat.add_zero]
  · have h1:¬ Ae y=Ae x:=fun e=>h (J9 ((hl y (by simp)).trans hx.symm) e);rw [if_neg h1,Rat.zero_add];by_cases h2:x∈r
    · rw [if_pos h2,if_pos (by simp [h2])]
    · rw [if_neg h2,if_neg (by simp [h2]; exact fun e=>h e.symm)]
def oN (gs:List (List Int)) (m:List Int):Rat:=(((B8 gs m gs.length).length:Nat):Int)
open Classical in
theorem S4 (G:GN gs n) {m x:List Int} {q:Rat} (hm:m.length=n) (hx:x.length=n):Pl.coef ((orbT gs n (Ae m,q)).map Ci) (Ae x)=if Bv gs m=Bv gs x then q*(oN gs m)⁻¹ else 0:=by
 have h1:=Cz (l:=m);rw [hm] at h1;unfold orbT;show Pl.coef (List.map Ci (if q=0 then [] else (srtL (B8 gs ((Ae m).take n) gs.length)).map fun e=>(txt (q*((((B8 gs ((Ae m).take n) gs.length).length:Nat):Int):Rat)⁻¹),e))) (Ae x)=_;rw [h1];by_cases hq:q=0
 · rw [if_pos hq,hq,Rat.zero_mul];split <;> rfl
 · rw [if_neg hq,List.map_map];have hp:=Hg (B8 gs m gs.length);have h2:(srtL (B8 gs m gs.length)).map (Ci ∘ fun e=>((txt (q*((((B8 gs m gs.length).length:Nat):Int):Rat)⁻¹),e):Tx))=(srtL (B8 gs m gs.length)).map fun e=>((Ae e,q*(oN gs m)⁻¹):Pl.Tm):=by
    refine List.map_congr_left fun e _ => ?_;show (Ae e,(A8 (txt _)).getD 0)=_;rw [Bm];rfl
   rw [h2,LH hx ((hp.nodup_iff).2 (DS _)) fun y hy=>by
    obtain ⟨g,_,e⟩:=ER.1 (hp.mem_iff.1 hy)
    rw [←e,Bg,hm]]
   by_cases h3:Bv gs m=Bv gs x
   · rw [if_pos h3,if_pos (hp.mem_iff.2 (ER.2 ((DU G hm hx).2 h3)))]
   · rw [if_neg h3,if_neg fun h=>h3 ((DU G hm hx).1 (ER.1 (hp.mem_iff.1 h)))]
theorem P9 (G:GN gs n) {x:List Int} (hx:x.length=n):∀ {K:List Pl.Tm},(∀ p∈K,∃ m:List Int,m.length=n∧p.1=Ae m∧Bv gs m=m)→(K.map (·.1)).Nodup→Pl.coef ((avT gs n K).map Ci) (Ae x)=Pl.getK 0 K (Ae (Bv gs x))*(oN gs x)⁻¹
 | [],_,_=>by
  show (0:Rat)=0*_;rw [Rat.zero_mul]
 | (k,q) :: r,hk,hn=>by
  obtain ⟨m,hm,hkm,hr⟩:=hk (k,q) (by simp);simp only at hkm;subst hkm;have ih:=P9 G hx (K:=r) (fun p hp=>hk p (by simp [hp])) (List.nodup_cons.1 hn).2;have e1:avT gs n ((Ae m,q) :: r)=orbT gs n (Ae m,q) ++ avT gs n r:=by simp [avT]
  rw [e1,List.map_append,Pl.coef_app,ih,S4 G hm hx,Pl.getK_cons];by_cases h:Bv gs m=Bv gs x
  · have h2:Ae (Bv gs x)=Ae m:=by rw [←h,hr]
    have h3:(Ae m) ∉ r.map (·.1):=(List.nodup_cons.1 hn).1;have h4:oN gs m=oN gs x:=by unfold oN; rw [Hh G hm hx h]
    rw [if_pos h,if_pos h2,h2,P8 h3,Rat.zero_mul,Rat.add_zero,h4]
  · have h2:¬ Ae (Bv gs x)=Ae m:=fun e=>h (by rw [hr]; exact (J9 (by rw [FSq]; omega) e).symm);rw [if_neg h,if_neg h2,Rat.zero_add]
theorem N6 (k:List Int) (v:Rat) (k':List Int):∀ L:List Pl.Tm,Pl.getK 0 (Pl.putK L k v) k'=if k'=k then v else Pl.getK 0 L k'
 | []=>by
  rw [Pl.putK_nil,Pl.getK_cons]
 | (a,b) :: r=>by
  rw [Pl.putK_cons];by_cases h:k=a
  · subst h;rw [if_pos rfl,Pl.getK_cons,Pl.getK_cons];by_cases h2:k'=k
    · rw [if_pos h2,if_pos h2]
    · rw [if_neg h2,if_neg h2,if_neg h2]
  · rw [if_neg h,Pl.getK_cons,N6 k v k' r,Pl.getK_cons];by_cases h2:k'=a
    · rw [if_pos h2,if_pos h2,if_neg (fun e=>h (e.symm.trans h2))]
    · rw [if_neg h2,if_neg h2]
theorem Hi (gs:List (List Int)) (n:Nat) (k:List Int) (l:List Pl.Tm):Pl.getK 0 (sumK gs n l) k=Pl.lin (fun e=>if rk gs n e=k then 1 else 0) l:=by
 have key:∀ (l acc:List Pl.Tm),Pl.getK 0 (l.foldl (fun acc t=>Pl.putK acc (rk gs n t.1) (Pl.getK 0 acc (rk gs n t.1)+t.2)) acc) k=Pl.getK 0 acc k+Pl.lin (fun e=>if rk gs n e=k then 1 else 0) l:=by
  intro l
  induction l with
  | nil=>intro acc; exact (Rat.add_zero _).symm
  | cons t r ih =>
   intro acc;rw [List.foldl_cons,ih,N6];show _=_+(t.2*(if rk gs n t.1=k then 1 else 0)+_);by_cases h:k=rk gs n t.1
   · rw [if_pos h,if_pos h.symm,h,Rat.mul_one,Rat.add_assoc]
   · rw [if_neg h,if_neg fun e=>h e.symm,Rat.mul_zero,Rat.zero_add]
 have h:=key l [];rw [Pl.getK_nil,Rat.zero_add] at h;exact h
end
noncomputable def avP (gs:List (List Int)) (n:Nat) (l:List Pl.Tm):List Pl.Tm:=(avT gs n (sumK gs n l)).map Ci
def Rj (gs:List (List Int)) (n:Nat) (F:List Int→Rat):Prop:=∀ x:List Int,x.length=n→∀ a∈gs,F (Ae (mvd a x))=F (Ae x)
section
variable {gs:List (List Int)} {n:Nat} {l:List Pl.Tm} {F:List Int→Rat}
theorem N7 {c d:Rat}:∀ {ps:List (List Int)},(∀ e∈ps,F (Ae e)=d)→Pl.lin F (ps.map fun e=>((Ae e,c):Pl.Tm))=c*d*(((ps.length:Nat):Int):Rat)
 | [],_=>(Rat.mul_zero _).symm
 | y :: r,h=>by
  have ih:=N7 (c:=c) (d:=d) (ps:=r) fun e he=>h e (by simp [he]);show c*F (Ae y)+Pl.lin F (r.map fun e=>((Ae e,c):Pl.Tm))=_;rw [ih,h y (by simp),List.length_cons];rw [show (((r.length+1:Nat):Int):Rat)=(((r.length:Nat):Int):Rat)+1 by rw [Int.natCast_add,Rat.intCast_add]; rfl];rw [Rat.mul_add,Rat.mul_one,Rat.add_comm]
theorem V6 (G:GN gs n) (m:List Int):oN gs m≠0:=by
 have h:0<(B8 gs m gs.length).length:=List.length_pos_of_mem ((Fz gs.length _).2 ⟨0,G.g.pos,rfl⟩);unfold oN;intro h0;have h1:(((B8 gs m gs.length).length:Nat):Int)=0:=by
  have h2:=congrArg Rat.num h0;simpa using h2
 omega
theorem Uk (G:GN gs n) (hF:Rj gs n F) {m:List Int} {q:Rat} (hm:m.length=n):Pl.lin F ((orbT gs n (Ae m,q)).map Ci)=q*F (Ae m):=by
 have h1:=Cz (l:=m);rw [hm] at h1;unfold orbT;show Pl.lin F (List.map Ci (if q=0 then [] else (srtL (B8 gs ((Ae m).take n) gs.length)).map fun e=>(txt (q*((((B8 gs ((Ae m).take n) gs.length).length:Nat):Int):Rat)⁻¹),e)))=_;rw [h1];by_cases hq:q=0
 · rw [if_pos hq,hq,Rat.zero_mul];rfl
 · rw [if_neg hq,List.map_map];have hp:=Hg (B8 gs m gs.length);have h2:(srtL (B8 gs m gs.length)).map (Ci ∘ fun e=>((txt (q*((((B8 gs m gs.length).length:Nat):Int):Rat)⁻¹),e):Tx))=(srtL (B8 gs m gs.length)).map fun e=>((Ae e,q*(oN gs m)⁻¹):Pl.Tm):=by
    refine List.map_congr_left fun e _ => ?_;show (Ae e,(A8 (txt _)).getD 0)=_;rw [Bm];rfl
   rw [h2,N7 (d:=F (Ae m)) fun e he=>by
    obtain ⟨g,hg,e1⟩:=ER.1 (hp.mem_iff.1 he);rw [←e1]
    exact hF m hm g hg,hp.length_eq]
   show q*(oN gs m)⁻¹*F (Ae m)*oN gs m=_;rw [Rat.mul_assoc,Rat.mul_comm (F (Ae m)),←Rat.mul_assoc,Rat.mul_assoc q,Rat.inv_mul_cancel _ (V6 G m),Rat.mul_one]
theorem Qa (G:GN gs n) (hF:Rj gs n F):∀ {K:List Pl.Tm},(∀ p∈K,∃ m:List Int,m.length=n∧p.1=Ae m)→Pl.lin F ((avT gs n K).map Ci)=Pl.lin F K
 | [],_=>rfl
 | (k,q) :: r,hk=>by
  obtain ⟨m,hm,hkm⟩:=hk (k,q) (by simp);simp only at hkm;subst hkm;have e1:avT gs n ((Ae m,q) :: r)=orbT gs n (Ae m,q) ++ avT gs n r:=by simp [avT]
  rw [e1,List.map_append,Pl.lin_app,Qa G hF (fun p hp=>hk p (by simp [hp])),Uk G hF hm];rfl
theorem Qb (k:List Int) (v:Rat):∀ L:List Pl.Tm,Pl.lin F (Pl.putK L k (Pl.getK 0 L k+v))=Pl.lin F L+v*F k
 | []=>by
  rw [Pl.putK_nil,Pl.getK_nil,Rat.zero_add];show v*F k+0=0+v*F k;rw [Rat.add_zero,Rat.zero_add]
 | (a,b) :: r=>by
  rw [Pl.putK_cons,Pl.getK_cons];by_cases h:k=a
  · subst h;rw [if_pos rfl,if_pos rfl];show (b+v)*F k+Pl.lin F r=b*F k+Pl.lin F r+v*F k;rw [Rat.add_mul,Rat.add_assoc,Rat.add_comm (v*F k),←Rat.add_assoc]
  · rw [if_neg h,if_neg h];show b*F a+Pl.lin F (Pl.putK r k (Pl.getK 0 r k+v))=b*F a+Pl.lin F r+v*F k;rw [Qb k v r,Rat.add_assoc]
theorem Wv (G:GN gs n) (hF:Rj gs n F) {e:List Int} (he:InV n e):F (rk gs n e)=F e:=by
 have hl:(e.take n).length=n:=he.tk G.n6;obtain ⟨g,hg,h⟩:=EQ G.g (hl.trans G.l.symm);unfold rk;rw [←h,hF _ hl g hg,he.2.2]
theorem S5 (G:GN gs n) (hF:Rj gs n F) (hl:∀ t∈l,InV n t.1):Pl.lin F (sumK gs n l)=Pl.lin F l:=by
 have key:∀ (l acc:List Pl.Tm),(∀ t∈l,InV n t.1)→Pl.lin F (l.foldl (fun acc t=>Pl.putK acc (rk gs n t.1) (Pl.getK 0 acc (rk gs n t.1)+t.2)) acc)=Pl.lin F acc+Pl.lin F l:=by
  intro l
  induction l with
  | nil=>intro acc _; exact (Rat.add_zero _).symm
  | cons t r ih =>
   intro acc hl;rw [List.foldl_cons,ih _ fun s hs=>hl s (by simp [hs]),Qb,Wv G hF (hl t (by simp)),Rat.add_assoc];rfl
 have h:=key l [] hl;rw [show Pl.lin F ([]:List Pl.Tm)=0 from rfl,Rat.zero_add] at h;exact h
theorem Qc (G:GN gs n) (hF:Rj gs n F) (hl:∀ t∈l,InV n t.1):Pl.lin F (avP gs n l)=Pl.lin F l:=by
 unfold avP;rw [Qa G hF (LG G.n6 fun t ht=>(hl t ht).1),S5 G hF hl]
theorem Ul (G:GN gs n) (k:List Int):Rj gs n fun e=>if rk gs n e=k then 1 else 0:=by
 intro x hx a ha;have hl:(mvd a x).length=n:=by rw [Bg,hx]
 have h:Bv gs (mvd a x)=Bv gs x:=((DU G hx hl).1 ⟨a,ha,rfl⟩).symm;have e1:=Cz (l:=mvd a x);have e2:=Cz (l:=x);rw [hl] at e1;rw [hx] at e2;show (if rk gs n (Ae (mvd a x))=k then (1:Rat) else 0)=if rk gs n (Ae x)=k then 1 else 0
 unfold rk;rw [e1,e2,h]
end
end Go.Proofs.YtlpgonpfjbhmfaaGreatDoor
namespace Go.Proofs.YtlpgonpfjbhmfaaGreatDoor
open Go Go.RowKit Go.Sort
variable {ps:List (List Int)} {cs:List Value} {base c g n:Nat} {a:Option Addr} {row:Option Nat} {w w':World}
def SlV (w:World) (g:Nat):Type:={ v:(Option Addr×Nat×Nat)×List Int // SlI w v.1.1 v.1.2.1 v.1.2.2 v.2∧blk v.1.1≠some g }
def SlV.enc (v:SlV w g):Value := .slice v.1.1.1 v.1.1.2.1 v.1.1.2.2
def SlV.xs (v:SlV w g):List Int:=v.1.2
instance (w:World) (g:Nat):Inhabited (SlV w g):=⟨⟨((none,0,0),[]),Sl.nil w,by simp [blk]⟩⟩
theorem Sl.kept (h:Sl w a n c cs) (hg:w.grownBy w' row) (hne:blk a=none∨blk a≠row):Sl w' a n c cs:=by
 refine ⟨h.len,h.cap,h.max,fun h0 => ?_⟩;obtain ⟨b,off,rfl,hc⟩:=h.rd h0;refine ⟨b,off,rfl,fun i hi => ?_⟩;have h1:=hc i hi;have hb:b<w.heap.size:=World.block_lt_of_cell? w ⟨b,off+i,none⟩ h1;rcases hne with hne|hne
 · simp [blk] at hne
 · rw [World.cell?_of_block (w:=w) (hg.block b hb hne),h1]
theorem Du {α:Type} [Inhabited α] (enc:α→Value) (w:World) (g m:Nat) (dk:Array α) (os:Array Obj):w.grownBy (sortWorld enc w g 0 m dk os) (some g):=by
 refine ⟨rfl,rfl,rfl,by unfold sortWorld; simp,fun k hk hne => ?_⟩;unfold sortWorld;rw [heap_grow_old _ _ (by simpa using hk)];have:g≠k:=by rintro rfl; exact hne rfl
 simp [putRow,mapBlock,Array.getElem?_modify,this]
theorem K4 {α:Type} [Inhabited α] (enc:α→Value) {w:World} {base g n c m:Nat} {e:TypeId} {cells:List Value} {dk:Array α} (os:Array Obj) (h:Own w base e (some ⟨g,0,none⟩) n c cells) (hd:dk.size=n) :
 Own (sortWorld enc w g 0 m dk os) base e (some ⟨g,0,none⟩) n c (dk.toList.map enc):=by
 rcases h.2 with ⟨hv,_⟩|⟨g1,cap1,cur1,hv,hb,hh,h1,h2,h3,h4⟩
 · simp at hv
 simp only [Value.slice.injEq,Option.some.injEq,Addr.mk.injEq,and_true,true_and] at hv;obtain ⟨rfl,rfl⟩:=hv;have hlt:g<w.heap.size:=by
  rcases Nat.lt_or_ge g w.heap.size with h|h
  · exact h
  · simp [Array.getElem?_eq_none h] at hh
 refine ⟨by simp [hd],Or.inr ⟨g,c,putCells enc 0 dk cur1,rfl,hb, ?_,h1,h2,by simp [putCells,h3], ?_⟩⟩
 · unfold sortWorld;rw [heap_grow_old _ _ (by simpa using hlt)];simp [putRow,mapBlock,Array.getElem?_modify,hh,onCells]
 · apply List.ext_getElem
   · simp [putCells,h3,hd];omega
   · intro i i1 i2;have hi:i<n:=by simpa [hd] using i2
     have hi2:i<dk.size:=by omega
     simp only [List.getElem_take,Array.getElem_toList,putCells,Array.getElem_mapIdx,List.getElem_map];rw [if_pos (by omega)];simp [hi2]
theorem Rk (hS:Srt w base g n c ps):∃ d:Array (SlV w g),d.size=n∧(∀ i,i<n→w.cell? ⟨g,i,none⟩=some d[i]!.enc∧w.frozen? ⟨g,i,none⟩=false)∧d.toList.map SlV.xs=ps:=by
 obtain ⟨hl,cells,hO,hQ⟩:=hS;have hex:∀ i,∃ v:SlV w g,i<n→w.cell? ⟨g,i,none⟩=some v.enc∧v.xs=ps.getD i []:=by
  intro i;by_cases hi:i<n
  · obtain ⟨a,m,c',e1,h1⟩:=hQ i (by omega);refine ⟨⟨((a,m,c'),ps.getD i []),h1.sl, ?_⟩,fun _=>⟨?_,rfl⟩⟩
    · have:=CL h1 hO (by decide);rcases this with h|h
      · simp only; rw [h]; simp
      · exact h
    · rw [hO.cellAt hi,e1];rfl
  · exact ⟨default,fun h=>absurd h hi⟩
 obtain ⟨f,hf⟩:=Classical.axiomOfChoice hex;refine ⟨((List.range n).map f).toArray,by simp,fun i hi => ?_, ?_⟩
 · have:(((List.range n).map f).toArray)[i]! = f i:=by simp [hi]
   rw [this];exact ⟨(hf i hi).1,hO.frozenAt i⟩
 · apply List.ext_getElem
   · simp [hl]
   · intro i h1 h2;have hi:i<n:=by simpa using h1
     simp only [List.getElem_map,List.getElem_range];rw [(hf i hi).2];simp [h2]
def cfV (x y:SlV w g):Int:=A0 x.xs y.xs
theorem S6 {m:Nat} {d':Array (SlV w g)} {os:Array Obj} (hS:Srt w base g n c ps) (hd:d'.size=n) (hown:∀ v∈d'.toList,∃ i,i<n∧w.cell? ⟨g,i,none⟩=some v.enc∧v.xs=ps.getD i []) :
 Srt (sortWorld SlV.enc w g 0 m d' os) base g n c (d'.toList.map SlV.xs):=by
 obtain ⟨hl,cells,hO,hQ⟩:=hS;refine ⟨by simp [hd],d'.toList.map SlV.enc,K4 _ os hO hd,fun i hi => ?_⟩;simp only [List.length_map] at hi;have hi':i<d'.toList.length:=by simpa using hi
 obtain ⟨j,hj,h1,h2⟩:=hown d'.toList[i] (List.getElem_mem hi');obtain ⟨a,k,c',e1,h3⟩:=hQ j (by omega);refine ⟨a,k,c', ?_, ?_⟩
 · rw [hO.cellAt hj,e1] at h1;simp only [Option.some.injEq] at h1;rw [h1,gqq,List.getElem?_map,List.getElem?_eq_getElem hi'];rfl
 · have e2:(d'.toList.map SlV.xs).getD i []=ps.getD j []:=by
    rw [←h2,gqq,List.getElem?_map,List.getElem?_eq_getElem hi'];rfl
   rw [e2];exact Own.kept h3 (Du _ _ _ _ _ _) (CL h3 hO (by decide))
end Go.Proofs.YtlpgonpfjbhmfaaGreatDoor
namespace Go.Proofs.YtlpgonpfjbhmfaaGreatDoor
open Go.Shelf
def Rl:Go.Shelf.Ren:=⟨fun | 6=>121 | 15=>127 | 14=>154 | 28=>164 | 29=>165 | 20=>190 | 21=>191 | 22=>192 | 23=>193 | 24=>194 | 25=>195 | 26=>196 | 27=>197 | 46=>220 | 47=>199 | 48=>200 | 49=>221 | 50=>222 | 57=>226 | n=>n,fun | 22=>53 | 24=>22 | 25=>129 | 3=>3 | 39=>147 | 0=>0 | 53=>208 | 55=>143 | 4=>4 | 46=>201 | 45=>200 | 50=>205 | 5=>5 | 9=>9 | 66=>229 | 70=>233 | 76=>252 | 77=>253 | n=>n,fun | n=>n⟩
theorem V7:Go.Proofs.SlLaysF.n6 Tryz.prog Rl:={
 mixed:=by kernel_rfl
 f6:=⟨Tryz.f121.name,by decide,Tryz.func121.trans (congrArg some (by kernel_rfl))⟩
 f14:=⟨Tryz.f154.name,by decide,Tryz.func154.trans (congrArg some (by kernel_rfl))⟩
 f15:=Tryz.func127.trans (congrArg some (by kernel_rfl))
 f20:=⟨Tryz.f190.name,by decide,Tryz.func190.trans (congrArg some (by kernel_rfl))⟩
 f21:=⟨Tryz.f191.name,by decide,Tryz.func191.trans (congrArg some (by kernel_rfl))⟩
 f22:=⟨Tryz.f192.name,by decide,Tryz.func192.trans (congrArg some (by kernel_rfl))⟩
 f23:=⟨Tryz.f193.name,by decide,Tryz.func193.trans (congrArg some (by kernel_rfl))⟩
 f24:=⟨Tryz.f194.name,by decide,Tryz.func194.trans (congrArg some (by kernel_rfl))⟩
 f25:=⟨Tryz.f195.name,by decide,Tryz.func195.trans (congrArg some (by kernel_rfl))⟩
 f26:=⟨Tryz.f196.name,by decide,Tryz.func196.trans (congrArg some (by kernel_rfl))⟩
 f27:=⟨Tryz.f197.name,by decide,Tryz.func197.trans (congrArg some (by kernel_rfl))⟩
 f28:=Tryz.func164.trans (congrArg some (by kernel_rfl))
 f29:=Tryz.func165.trans (congrArg some (by kernel_rfl))
 f46:=⟨Tryz.f220.name,by decide,Tryz.func220.trans (congrArg some (by kernel_rfl))⟩
 f47:=Tryz.func199.trans (congrArg some (by kernel_rfl))
 f48:=Tryz.func200.trans (congrArg some (by kernel_rfl))
 f49:=⟨Tryz.f221.name,by decide,Tryz.func221.trans (congrArg some (by kernel_rfl))⟩
 f50:=⟨Tryz.f222.name,by decide,Tryz.func222.trans (congrArg some (by kernel_rfl))⟩
 f57:=⟨Tryz.f226.name,by decide,Tryz.func226.trans (congrArg some (by kernel_rfl))⟩
 t0:=Tryz.underlying0
 a0:=Tryz.isAgg0
 z0:=Tryz.sizeOf0
 v0:=Tryz.zeroValue0
 t3:=Tryz.underlying3
 a3:=Tryz.isAgg3
 z3:=Tryz.sizeOf3
 v3:=Tryz.zeroValue3
 t4:=Tryz.underlying4
 a4:=Tryz.isAgg4
 z4:=Tryz.sizeOf4
 v4:=Tryz.zeroValue4
 t5:=Tryz.underlying5
 a5:=Tryz.isAgg5
 z5:=Tryz.sizeOf5
 v5:=Tryz.zeroValue5
 t9:=Tryz.underlying9
 a9:=Tryz.isAgg9
 z9:=Tryz.sizeOf9
 v9:=Tryz.zeroValue9
 t22:=Tryz.underlying53
 a22:=Tryz.isAgg53
 z22:=Tryz.sizeOf53
 v22:=Tryz.zeroValue53
 a24:=Tryz.isAgg22
 z24:=Tryz.sizeOf22
 t25:=Tryz.underlying129
 a25:=Tryz.isAgg129
 z25:=Tryz.sizeOf129
 v25:=Tryz.zeroValue129
 t39:=Tryz.underlying147
 a39:=Tryz.isAgg147
 z39:=Tryz.sizeOf147
 v39:=Tryz.zeroValue147
 t45:=Tryz.underlying200
 a45:=Tryz.isAgg200
 z45:=Tryz.sizeOf200
 v45:=Tryz.zeroValue200
 t46:=Tryz.underlying201
 a46:=Tryz.isAgg201
 z46:=Tryz.sizeOf201
 v46:=Tryz.zeroValue201
 t50:=Tryz.underlying205
 a50:=Tryz.isAgg205
 z50:=Tryz.sizeOf205
 v50:=Tryz.zeroValue205
 t53:=Tryz.underlying208
 a53:=Tryz.isAgg208
 z53:=Tryz.sizeOf208
 v53:=Tryz.zeroValue208
 t55:=Tryz.underlying143
 a55:=Tryz.isAgg143
 z55:=Tryz.sizeOf143
 v55:=Tryz.zeroValue143
 t66:=Tryz.underlying229
 a66:=Tryz.isAgg229
 z66:=Tryz.sizeOf229
 v66:=Tryz.zeroValue229
 t70:=Tryz.underlying233
 a70:=Tryz.isAgg233
 z70:=Tryz.sizeOf233
 v70:=Tryz.zeroValue233
 t76:=Tryz.underlying252
 a76:=Tryz.isAgg252
 z76:=Tryz.sizeOf252
 v76:=Tryz.zeroValue252
 t77:=Tryz.underlying253
 a77:=Tryz.isAgg253
 z77:=Tryz.sizeOf253
 v77:=Tryz.zeroValue253 }
end Go.Proofs.YtlpgonpfjbhmfaaGreatDoor
namespace Go.Proofs.YtlpgonpfjbhmfaaGreatDoor
open Tryz Go Go.RowKit Go.Sort
variable {ps:List (List Int)} {g:Nat} {w:World}
theorem N8 {x y:SlV w g} (h:ltOf cfV x y=true):A0 x.xs y.xs<0:=of_decide_eq_true h
theorem Ip {x y:SlV w g} (h:ltOf cfV x y=false):¬ A0 x.xs y.xs<0:=of_decide_eq_false h
theorem Vt {x y:SlV w g} (h:A0 x.xs y.xs<0):ltOf cfV x y=true:=decide_eq_true h
theorem N9 {x y:SlV w g} (h:¬ A0 x.xs y.xs<0):ltOf cfV x y=false:=decide_eq_false h
theorem Ww :SWO (ltOf (cfV (w:=w) (g:=g))) where
 irrefl x:=N9 (by rw [C9]; omega)
 trans x y z h1 h2:=Vt (Dh (N8 h1) (N8 h2))
 ntrans x y z h1 h2:=by
  have a1:=Ip h1;have a2:=Ip h2;have h3:=BI x.xs y.xs;have h4:=BI y.xs z.xs;have h5:=BI x.xs z.xs;have h6:=CK (a:=z.xs) (b:=y.xs) (c:=x.xs) (by omega) (by omega);exact N9 (by omega)
theorem MA {base n c:Nat} (hS:Srt w base g n c ps) (hn:n≤1000) :
 Calls prog 121 #[.slice (some ⟨g,0,none⟩) n c, .func (.func 78) #[] #[]] w (Ji w base g n c ps 0 n):=by
 obtain ⟨d,hd,hcells,hxs⟩:=Rk hS;have hglt:g<w.heap.size:=by
  obtain ⟨_,cells,hO,_⟩:=hS;exact (hO.lt (k:=g) rfl).2
 have eg:∀ args w,(callFunc 78 args).run prog w = .ok (.enter 78 args) w:=enters_of func78 (by kernel_rfl) rfl;have hcmp:CmpReads prog 78 #[] (SlV.enc (w:=w) (g:=g)) cfV g 0 d.size w:=by
  intro m os dk _ x y;have hgr:=Du SlV.enc w g m dk os;have hx:SlI (sortWorld SlV.enc w g 0 m dk os) x.1.1.1 x.1.1.2.1 x.1.1.2.2 x.xs:=Sl.kept x.2.1 hgr (Or.inr x.2.2);have hy:SlI (sortWorld SlV.enc w g 0 m dk os) y.1.1.1 y.1.1.2.1 y.1.1.2.2 y.xs:=Sl.kept y.2.1 hgr (Or.inr y.2.2);exact Cr hx hy
 have hH:Holds SlV.enc w g 0 d:=by
  intro j hj;rw [Nat.zero_add];exact hcells j (by omega)
 have h:=Any.slices_SortFunc V7 SlV.enc (fun _=>rfl) cfV Ww 78 #[] g 0 c d w eg hcmp.lays hH hglt (by omega);rw [hd] at h;refine h.mono ?_;rintro e w' ⟨rfl,d',q,os,hp,hso,rfl⟩;obtain ⟨p1,_,p3⟩:=hp;have hd':d'.size=n:=by rw [p1,hd]
 have hperm:d'.toList.Perm d.toList:=by
  rw [Array.extract_eq_self_of_le (by omega),Array.extract_eq_self_of_le (by omega)] at p3;exact p3
 refine ⟨rfl,d'.toList.map SlV.xs,S6 hS hd' ?_,⟨?_, ?_⟩, ?_,Du _ _ _ _ _ _⟩
 · intro v hv;have:=hperm.mem_iff.1 hv;obtain ⟨i,hi,e⟩:=List.mem_iff_getElem.1 this;have hi':i<d.size:=by simpa using hi
   have hb:d[i]! = v:=by
    rw [←e];simp [hi']
   refine ⟨i,by omega,by rw [←hb]; exact (hcells i (by omega)).1, ?_⟩;rw [←hxs,←e,gqq,List.getElem?_map,List.getElem?_eq_getElem hi];rfl
 · rw [←hxs];exact hperm.map _
 · intro i hi;rcases hi with hi|hi
   · omega
   · rw [gqq,gqq,List.getElem?_eq_none (by simp; omega),List.getElem?_eq_none (by rw [hS.len]; exact hi)]
 · intro i j h0 h1 h2;have:=hso i j h0 h1 h2;have hi':i<d'.size:=by omega
   have hj':j<d'.size:=by omega
   have:=Ip this;have e1:(d'.toList.map SlV.xs).getD i []=d'[i]!.xs:=by simp [hi']
   have e2:(d'.toList.map SlV.xs).getD j []=d'[j]!.xs:=by simp [hj']
   rw [e1,e2];have:=BI d'[i]!.xs d'[j]!.xs;omega
end Go.Proofs.YtlpgonpfjbhmfaaGreatDoor
