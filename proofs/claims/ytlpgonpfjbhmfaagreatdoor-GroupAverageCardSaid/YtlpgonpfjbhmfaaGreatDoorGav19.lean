/- Part Gav19. -/
import Derived.WalkKit
import Derived.Test.YtlpgonpfjbhmfaaGreatDoorGav15
set_option maxRecDepth 100000
set_option maxHeartbeats 100000000
namespace Go.Proofs.YtlpgonpfjbhmfaaGreatDoor.Pl
variable {x y:Int} {b c e:List Int} {d n:Nat} {a q:Rat}
abbrev Tm:=List Int×Rat
def coef:List Tm→List Int→Rat
 | [],_=>0
 | t :: r,e=>(if t.1=e then t.2 else 0)+coef r e
def lin (F:List Int→Rat):List Tm→Rat
 | []=>0
 | t :: r=>t.2*F t.1+lin F r
theorem coef_app (a b:List Tm) (e:List Int):coef (a ++ b) e=coef a e+coef b e:=by
 induction a with
 | nil=>simp [coef]; grind
 | cons t r ih=>simp only [List.cons_append,coef,ih]; grind
theorem lin_app (F:List Int→Rat) (a b:List Tm):lin F (a ++ b)=lin F a+lin F b:=by
 induction a with
 | nil=>simp [lin]; grind
 | cons t r ih=>simp only [List.cons_append,lin,ih]; grind
theorem coef_perm {a b:List Tm} (h:a.Perm b) (e:List Int):coef a e=coef b e:=by
 induction h with
 | nil=>rfl
 | cons t _ ih=>simp only [coef,ih]
 | swap s t l=>simp only [coef]; grind
 | trans _ _ h1 h2=>rw [h1,h2]
theorem coef_lin (l:List Tm) (e:List Int):coef l e=lin (fun m=>if m=e then 1 else 0) l:=by
 induction l with
 | nil=>rfl
 | cons t r ih =>
  simp only [coef,lin,ih];by_cases h:t.1=e <;> simp [h]
theorem Na (l:List Tm) (m e:List Int):coef (l.filter (fun t=>decide (t.1≠m))) e=if e=m then 0 else coef l e:=by
 induction l with
 | nil=>simp [coef]
 | cons t r ih =>
  by_cases h:t.1=m
  · rw [List.filter_cons_of_neg (by simp [h]),ih];by_cases he:e=m
    · simp [he]
    · simp only [if_neg he,coef];rw [if_neg (by rw [h]; exact fun x=>he x.symm)]
      grind
  · rw [List.filter_cons_of_pos (by simp [h])];simp only [coef,ih];by_cases he:e=m
    · subst he; simp [h]; grind
    · simp [he]
theorem OC (F:List Int→Rat) (l:List Tm) (m:List Int):lin F l=coef l m*F m+lin F (l.filter (fun t=>decide (t.1≠m))):=by
 induction l with
 | nil=>simp [coef,lin]; grind
 | cons t r ih =>
  by_cases h:t.1=m
  · rw [List.filter_cons_of_neg (by simp [h])];simp only [coef,lin,h];rw [ih]
    grind
  · rw [List.filter_cons_of_pos (by simp [h])];simp only [coef,lin,if_neg h];rw [ih]
    grind
theorem Nc (F:List Int→Rat):∀ (n:Nat) (l:List Tm),l.length≤n→(∀ e,coef l e=0)→lin F l=0
 | 0,l,h,_=>by
  have:l=[]:=List.eq_nil_of_length_eq_zero (by omega);subst this; rfl
 | n+1,[],_,_=>rfl
 | n+1,t :: r,h,hz=>by
  rw [OC F (t :: r) t.1,hz t.1];have h1:((t :: r).filter (fun s=>decide (s.1≠t.1))).length≤n:=by
   rw [List.filter_cons_of_neg (by simp)];have:=List.length_filter_le (fun s:Tm=>decide (s.1≠t.1)) r;simp at h;omega
  rw [Nc F n _ h1 (fun e=>by
   rw [Na,hz e]
   split <;> rfl)]
  grind
def scl (c:Rat) (l:List Tm):List Tm:=l.map (fun t=>(t.1,c*t.2))
theorem R3 (c:Rat) (l:List Tm) (e:List Int):coef (scl c l) e=c*coef l e:=by
 induction l with
 | nil=>simp [scl,coef]
 | cons t r ih =>
  have:scl c (t :: r)=(t.1,c*t.2) :: scl c r:=rfl;rw [this];simp only [coef,ih];by_cases h:t.1=e <;> simp [h] <;> grind
theorem TM (F:List Int→Rat) (c:Rat) (l:List Tm):lin F (scl c l)=c*lin F l:=by
 induction l with
 | nil=>simp [scl,lin]
 | cons t r ih =>
  have:scl c (t :: r)=(t.1,c*t.2) :: scl c r:=rfl;rw [this];simp only [lin,ih]
  grind
theorem lin_ext {F:List Int→Rat} {a b:List Tm} (h:∀ e,coef a e=coef b e):lin F a=lin F b:=by
 have h1:=Nc F _ (a ++ scl (-1) b) (lrf _) (fun e=>by rw [coef_app,R3,h e]; grind);rw [lin_app,TM] at h1
 grind
def cmpI (x y:Int):Int:=if x<y then -1 else if y<x then 1 else 0
theorem cmpI_zero:cmpI x y=0↔x=y:=by unfold cmpI; split <;> (try split) <;> omega
theorem cmpI_pos:0<cmpI x y↔y<x:=by unfold cmpI; split <;> (try split) <;> omega
theorem Nd:cmpI y x = -cmpI x y:=by unfold cmpI; split <;> (try split) <;> omega
def ordR:List Int→List Int→Int
 | x :: r,y :: s=>if x=y then ordR r s else cmpI y x
 | _,_=>0
def ordE (a b:List Int):Int:=if a.sum=b.sum then ordR a.reverse b.reverse else cmpI a.sum b.sum
theorem Li:∀ a:List Int,ordR a a=0
 | []=>rfl
 | x :: r=>by simp [ordR,Li r]
theorem PA:∀ {a b:List Int},a.length=b.length→ordR a b=0→a=b
 | [],[],_,_=>rfl
 | x :: r,y :: s,hl,h=>by
  by_cases e:x=y
  · simp only [ordR,if_pos e] at h;rw [e,PA (by simpa using hl) h]
  · simp only [ordR,if_neg e] at h;exact absurd (cmpI_zero.1 h).symm e
theorem Lj:∀ (a b:List Int),ordR b a = -ordR a b
 | [],[]=>by simp [ordR]
 | [],_ :: _=>by simp [ordR]
 | _ :: _,[]=>by simp [ordR]
 | x :: r,y :: s=>by
  by_cases e:x=y
  · simp only [ordR,if_pos e,if_pos e.symm]; exact Lj r s
  · simp only [ordR,if_neg e,if_neg (fun h:y=x=>e h.symm)]; exact Nd
theorem JC:∀ {a b c:List Int},0<ordR a b→0<ordR b c→0<ordR a c
 | x :: r,y :: s,z :: t,h1,h2=>by
  by_cases e1:x=y
  · subst e1;by_cases e2:x=z
    · subst e2;simp only [ordR,if_true] at h1 h2 ⊢;exact JC h1 h2
    · simp only [ordR,if_neg e2] at h2 ⊢;exact h2
  · simp only [ordR,if_neg e1] at h1;by_cases e2:y=z
    · subst e2;simp only [ordR,if_neg e1];exact h1
    · simp only [ordR,if_neg e2] at h2;have g1:=cmpI_pos.1 h1;have g2:=cmpI_pos.1 h2;simp only [ordR,if_neg (show ¬ x=z by omega)];exact cmpI_pos.2 (by omega)
 | [],_,_,h1,_=>by simp [ordR] at h1
 | _ :: _,[],_,h1,_=>by simp [ordR] at h1
 | _ :: _,_ :: _,[],_,h2=>by simp [ordR] at h2
theorem ordE_self (a:List Int):ordE a a=0:=by simp [ordE,Li]
theorem ordE_eq {a:List Int} (hl:a.length=b.length) (h:ordE a b=0):a=b:=by
 unfold ordE at h;split at h
 · exact List.reverse_inj.1 (PA (by simpa using hl) h)
 · rename_i hs;exact absurd (cmpI_zero.1 h) hs
theorem ordE_anti (a b:List Int):ordE b a = -ordE a b:=by
 unfold ordE;by_cases h:a.sum=b.sum
 · rw [if_pos h,if_pos h.symm]; exact Lj _ _
 · rw [if_neg h,if_neg (fun x=>h x.symm)]; exact Nd
theorem ordE_trans {a:List Int} (h1:0<ordE a b) (h2:0<ordE b c):0<ordE a c:=by
 unfold ordE at *
 by_cases e1:a.sum=b.sum
 · rw [if_pos e1] at h1;by_cases e2:b.sum=c.sum
   · rw [if_pos e2] at h2;rw [if_pos (e1.trans e2)];exact JC h1 h2
   · rw [if_neg e2] at h2;rw [if_neg (fun h=>e2 (e1.symm.trans h)),e1];exact h2
 · rw [if_neg e1] at h1;have g1:=cmpI_pos.1 h1;by_cases e2:b.sum=c.sum
   · rw [if_neg (fun h=>e1 (h.trans e2.symm)),←e2];exact h1
   · rw [if_neg e2] at h2;have g2:=cmpI_pos.1 h2;rw [if_neg (by omega)];exact cmpI_pos.2 (by omega)
structure Canon (n:Nat) (l:List Tm):Prop where
 len:∀ t∈l,t.1.length=n
 nz:∀ t∈l,t.2≠0
 desc:l.Pairwise (fun s t=>0<ordE s.1 t.1)
theorem Canon.nil (n:Nat):Canon n []:=⟨by simp,by simp,List.Pairwise.nil⟩
theorem Canon.tail {t:Tm} {r:List Tm} (h:Canon n (t :: r)):Canon n r :=
 ⟨fun s hs=>h.len s (by simp [hs]),fun s hs=>h.nz s (by simp [hs]),(List.pairwise_cons.1 h.desc).2⟩
theorem coef_absent {l:List Tm} (h:∀ t∈l,t.1≠e):coef l e=0:=by
 induction l with
 | nil=>rfl
 | cons t r ih =>
  simp only [coef,if_neg (h t (by simp)),ih (fun s hs=>h s (by simp [hs]))]
  grind
theorem coef_present {l:List Tm} (h:coef l e≠0):∃ t∈l,t.1=e:=by
 refine Classical.byContradiction fun hc=>h (coef_absent fun t ht he=>hc ⟨t,ht,he⟩)
theorem Canon.head {t:Tm} {r:List Tm} (h:Canon n (t :: r)):coef (t :: r) t.1=t.2:=by
 have:coef r t.1=0:=coef_absent fun s hs he=>by
  have:=(List.pairwise_cons.1 h.desc).1 s hs;rw [he,ordE_self] at this;omega
 simp only [coef,if_true,this]
 grind
theorem Canon.above {t:Tm} {r:List Tm} (h:Canon n (t :: r)) {e:List Int} (he:coef (t :: r) e≠0):e=t.1∨0<ordE t.1 e:=by
 obtain ⟨s,hs,rfl⟩:=coef_present he;rcases List.mem_cons.1 hs with rfl|hs
 · exact Or.inl rfl
 · exact Or.inr ((List.pairwise_cons.1 h.desc).1 s hs)
theorem canon_ext {n:Nat}:∀ {a b:List Tm},Canon n a→Canon n b→(∀ e,coef a e=coef b e)→a=b
 | [],[],_,_,_=>rfl
 | [],t :: r,_,hb,e=>by
  have h1:=hb.head;rw [←e] at h1;exact absurd h1.symm (hb.nz t (by simp))
 | t :: r,[],ha,_,e=>by
  have h1:=ha.head;rw [e] at h1;exact absurd h1.symm (ha.nz t (by simp))
 | s :: a,t :: b,ha,hb,e=>by
  have h1:=ha.head;have h2:=hb.head;have n1:coef (t :: b) s.1≠0:=by rw [←e,h1]; exact ha.nz s (by simp)
  have n2:coef (s :: a) t.1≠0:=by rw [e,h2]; exact hb.nz t (by simp)
  have hm:s.1=t.1:=by
   rcases hb.above n1 with h|h
   · exact h
   · rcases ha.above n2 with h' | h'
     · exact h'.symm
     · have:=ordE_anti s.1 t.1;omega
  have hc:s.2=t.2:=by rw [←h1,←h2,e,hm]
  have hst:s=t:=Prod.ext hm hc;subst hst
  rw [canon_ext ha.tail hb.tail (fun x=>by
   have:=e x;simp only [coef] at this
   grind)]
theorem rat_mul_parts (a b:Rat):(a*b).num=a.num.tdiv (a.num.natAbs.gcd b.den:Nat)*b.num.tdiv (b.num.natAbs.gcd a.den:Nat)∧(a*b).den=a.den/(b.num.natAbs.gcd a.den)*(b.den/(a.num.natAbs.gcd b.den)):=by
 have h:a*b=Rat.mul a b:=rfl;rw [h,Rat.mul];simp only [Int.divExact_eq_tdiv,Nat.divExact_eq_div,and_self]
theorem rat_mul_whole (a b:Rat) (ha:a.den=1) (hb:b.den=1):(a*b).num=a.num*b.num∧(a*b).den=1:=by
 have:=rat_mul_parts a b;rw [ha,hb] at this;simpa using this
theorem rat_add_parts (a b:Rat) :
 (a+b).num=(a.num*((b.den/a.den.gcd b.den:Nat):Int)+b.num*((a.den/a.den.gcd b.den:Nat):Int)).tdiv (((a.num*((b.den/a.den.gcd b.den:Nat):Int)+b.num*((a.den/a.den.gcd b.den:Nat):Int)).natAbs.gcd (a.den.gcd b.den):Nat):Int) ∧
 (a+b).den=(a.den/a.den.gcd b.den)*(b.den/((a.num*((b.den/a.den.gcd b.den:Nat):Int)+b.num*((a.den/a.den.gcd b.den:Nat):Int)).natAbs.gcd (a.den.gcd b.den))):=by
 have h:a+b=Rat.add a b:=rfl
 have hd:∀ N:Nat,(a.den/a.den.gcd b.den)*(b.den/(N.gcd (a.den.gcd b.den)))=(a.den/a.den.gcd b.den)*b.den/(N.gcd (a.den.gcd b.den)):=fun N =>
  (Nat.mul_div_assoc _ (Nat.dvd_trans (Nat.gcd_dvd_right _ _) (Nat.gcd_dvd_right _ _))).symm
 rw [hd,h,Rat.add];simp only;split
 · rename_i hg;simp [hg]
 · rw [Rat.maybeNormalize_eq];exact ⟨Int.divExact_eq_tdiv (Int.ofNat_dvd_left.2 (Nat.gcd_dvd_left _ _)),rfl⟩
theorem rat_eq_mk {n:Int} (hd:d≠0) (hc:n.natAbs.Coprime d) (h:q=mkRat n d):q.num=n∧q.den=d:=by
 rw [h,Rat.num_mkRat,Rat.den_mkRat,if_neg hd,if_neg hd];have h1:d.gcd n.natAbs=1:=by rw [Nat.gcd_comm]; exact hc
 simp [h1]
theorem rat_num_den_zero:q.num=0↔q=0:=Rat.num_eq_zero
theorem rat_frac {n:Int} (hd:d≠0):(mkRat n d).num=n.tdiv (n.natAbs.gcd d:Nat)∧(mkRat n d).den=d/(n.natAbs.gcd d):=by
 rw [Rat.num_mkRat,Rat.den_mkRat,if_neg hd,if_neg hd,Nat.gcd_comm];refine ⟨?_,rfl⟩;have h:((n.natAbs.gcd d:Nat):Int)∣n:=by
  have:=Nat.gcd_dvd_left n.natAbs d;exact Int.ofNat_dvd_left.2 this
 exact (Int.tdiv_eq_ediv_of_dvd h).symm
theorem rat_inv_pos (h:0<a.num):(a⁻¹).num=a.den∧(a⁻¹).den=a.num.natAbs:=by
 have h1:a⁻¹=Rat.inv a:=rfl;rw [h1,Rat.inv];rw [dif_neg (by omega),dif_pos h];exact ⟨rfl,rfl⟩
theorem rat_inv_neg (h:a.num<0):(a⁻¹).num = -(a.den:Int)∧(a⁻¹).den=a.num.natAbs:=by
 have h1:a⁻¹=Rat.inv a:=rfl;rw [h1,Rat.inv];rw [dif_pos h];exact ⟨rfl,rfl⟩
theorem rat_inv_zero:(0:Rat)⁻¹=0:=by simp
def desc (l:List Tm):Prop:=l.Pairwise (fun s t=>0≤ordE s.1 t.1)
theorem canon_of_sorted {l:List Tm} (hl:∀ t∈l,t.1.length=n) (hz:∀ t∈l,t.2≠0) (hd:desc l) (hn:(l.map (·.1)).Nodup):Canon n l:=by
 refine ⟨hl,hz, ?_⟩
 induction l with
 | nil=>exact List.Pairwise.nil
 | cons t r ih =>
  have hd2:=List.pairwise_cons.1 hd;have hn2:=List.nodup_cons.1 hn;refine List.pairwise_cons.2 ⟨fun s hs => ?_,ih (fun x hx=>hl x (by simp [hx])) (fun x hx=>hz x (by simp [hx])) hd2.2 hn2.2⟩;have h1:=hd2.1 s hs
  have h2:ordE t.1 s.1≠0:=fun h0=>hn2.1 (by
   show t.1∈_;rw [ordE_eq (by rw [hl t (by simp),hl s (by simp [hs])]) h0]
   exact List.mem_map_of_mem hs)
  omega
end Go.Proofs.YtlpgonpfjbhmfaaGreatDoor.Pl
namespace Go.Proofs.YtlpgonpfjbhmfaaGreatDoor.Pl
variable {e k:List Int} {seen:List Nat} {a b d n:Nat} {p q:Rat}
def posK {α:Type} (k:List Int):Nat→List (List Int×α)→Option (Nat×α)
 | _,[]=>none
 | i,(k',v) :: r=>if k=k' then some (i,v) else posK k (i+1) r
def getK {α:Type} (z:α) (l:List (List Int×α)) (k:List Int):α:=((posK k 0 l).map (·.2)).getD z
def putK {α:Type} (l:List (List Int×α)) (k:List Int) (v:α):List (List Int×α) :=
 match posK k 0 l with
 | some (i,_)=>l.set i (k,v)
 | none=>l ++ [(k,v)]
theorem H4 {α:Type} (k:List Int):∀ (l:List (List Int×α)) (i:Nat),posK k (i+1) l=(posK k i l).map (fun p=>(p.1+1,p.2))
 | [],_=>rfl
 | (k',v) :: r,i=>by
  unfold posK;by_cases h:k=k'
  · simp [h]
  · simp only [if_neg h]; exact H4 k r (i+1)
theorem getK_nil {α:Type} (z:α) (k:List Int):getK z [] k=z:=rfl
theorem getK_cons {α:Type} (z:α) (k':List Int) (v:α) (r:List (List Int×α)) (k:List Int):getK z ((k',v) :: r) k=if k=k' then v else getK z r k:=by
 unfold getK;rw [posK];by_cases h:k=k'
 · simp [h]
 · simp only [if_neg h];rw [H4];cases posK k 0 r <;> rfl
theorem putK_nil {α:Type} (k:List Int) (v:α):putK [] k v=[(k,v)]:=rfl
theorem putK_cons {α:Type} (k':List Int) (x:α) (r:List (List Int×α)) (k:List Int) (v:α):putK ((k',x) :: r) k v=if k=k' then (k,v) :: r else (k',x) :: putK r k v:=by
 unfold putK;rw [posK];by_cases h:k=k'
 · simp [h]
 · simp only [if_neg h];rw [H4];cases hp:posK k 0 r with
   | none=>simp
   | some p=>obtain ⟨i,y⟩:=p; simp
theorem putK_keys {α:Type} (k:List Int) (v:α):∀ (l:List (List Int×α)) (e:List Int),e∈(putK l k v).map (·.1)↔e∈l.map (·.1)∨e=k
 | [],e=>by simp [putK_nil]
 | (k',x) :: r,e=>by
  rw [putK_cons];by_cases h:k=k'
  · simp only [List.map_cons,List.mem_cons,h,if_true]
    grind
  · simp only [if_neg h,List.map_cons,List.mem_cons,putK_keys k v r e]
    grind
theorem putK_nodup {α:Type} (k:List Int) (v:α):∀ (l:List (List Int×α)),(l.map (·.1)).Nodup→((putK l k v).map (·.1)).Nodup
 | [],_=>by simp [putK_nil]
 | (k',x) :: r,h=>by
  rw [putK_cons];simp only [List.map_cons,List.nodup_cons] at h;by_cases hk:k=k'
  · subst hk;simp only [if_true,List.map_cons,List.nodup_cons];exact h
  · simp only [if_neg hk,List.map_cons,List.nodup_cons];refine ⟨fun hm => ?_,putK_nodup k v r h.2⟩;rcases (putK_keys k v r k').1 hm with h1|h1
    · exact h.1 h1
    · exact hk h1.symm
theorem putK_length {α:Type} (k:List Int) (v:α):∀ (l:List (List Int×α)),(putK l k v).length≤l.length+1
 | []=>by simp [putK_nil]
 | (k',x) :: r=>by
  rw [putK_cons];by_cases hk:k=k'
  · simp [hk]
  · have:=putK_length k v r;simp only [if_neg hk,List.length_cons]; omega
theorem Di {l:List Tm} (h:e ∉ l.map (·.1)):coef l e=0:=coef_absent fun t ht he=>h (by rw [←he]; exact List.mem_map_of_mem ht)
theorem getK_coef:∀ (l:List Tm) (k:List Int),(l.map (·.1)).Nodup→getK 0 l k=coef l k
 | [],k,_=>rfl
 | (k',q) :: r,k,h=>by
  simp only [List.map_cons,List.nodup_cons] at h;rw [getK_cons];simp only [coef];by_cases hk:k=k'
  · subst hk;rw [if_pos rfl,if_pos rfl,Di h.1]
    grind
  · rw [if_neg hk,if_neg (fun x=>hk x.symm),getK_coef r k h.2]
    grind
theorem Lk (k:List Int) (q:Rat):∀ (l:List Tm),(l.map (·.1)).Nodup→∀ e,coef (putK l k q) e=if k=e then q else coef l e
 | [],_,e=>by
  simp only [putK_nil,coef]
  grind
 | (k',x) :: r,h,e=>by
  simp only [List.map_cons,List.nodup_cons] at h;rw [putK_cons];by_cases hk:k=k'
  · subst hk;rw [if_pos rfl];simp only [coef];by_cases he:k=e
    · subst he;simp only [if_true];rw [Di h.1]
      grind
    · simp [he]
  · rw [if_neg hk];simp only [coef,Lk k q r h.2 e];by_cases he:k=e
    · subst he;rw [if_neg (fun x=>hk x.symm)]
      grind
    · simp [he]
theorem coef_step {l:List Tm} (h:(l.map (·.1)).Nodup) (e:List Int):coef (putK l k (getK 0 l k+q)) e=coef l e+coef [(k,q)] e:=by
 rw [Lk k _ l h e,getK_coef l k h];simp only [coef];by_cases he:k=e
 · subst he; simp; grind
 · simp [he]; grind
def RelL {α β:Type} (R:α→β→Prop):List (List Int×α)→List (List Int×β)→Prop
 | [],[]=>True
 | (k,v) :: m,(k',q) :: l=>k=k'∧R v q∧RelL R m l
 | _,_=>False
section
variable {α β:Type} {R R':α→β→Prop}
theorem RelL.mono (h:∀ v q,R v q→R' v q):∀ {m:List (List Int×α)} {l:List (List Int×β)},RelL R m l→RelL R' m l
 | [],[],_=>trivial
 | (_,_) :: _,(_,_) :: _,hr=>⟨hr.1,h _ _ hr.2.1,RelL.mono h hr.2.2⟩
 | [],_ :: _,hr=>hr.elim
 | _ :: _,[],hr=>hr.elim
theorem RelL.len:∀ {m:List (List Int×α)} {l:List (List Int×β)},RelL R m l→m.length=l.length
 | [],[],_=>rfl
 | (_,_) :: _,(_,_) :: _,hr=>by simp [RelL.len hr.2.2]
 | [],_ :: _,hr=>hr.elim
 | _ :: _,[],hr=>hr.elim
theorem RelL.keys:∀ {m:List (List Int×α)} {l:List (List Int×β)},RelL R m l→m.map (·.1)=l.map (·.1)
 | [],[],_=>rfl
 | (_,_) :: _,(_,_) :: _,hr=>by simp [RelL.keys hr.2.2,hr.1]
 | [],_ :: _,hr=>hr.elim
 | _ :: _,[],hr=>hr.elim
theorem RelL.get {z:α} {z':β} (hz:R z z') (k:List Int):∀ {m:List (List Int×α)} {l:List (List Int×β)},RelL R m l→R (getK z m k) (getK z' l k)
 | [],[],_=>hz
 | (k1,v) :: m,(k2,q) :: l,hr=>by
  rw [getK_cons,getK_cons,←hr.1];by_cases h:k=k1
  · simp only [if_pos h]; exact hr.2.1
  · simp only [if_neg h]; exact RelL.get hz k hr.2.2
 | [],_ :: _,hr=>hr.elim
 | _ :: _,[],hr=>hr.elim
theorem RelL.put (k:List Int) {v:α} {q:β} (hv:R v q):∀ {m:List (List Int×α)} {l:List (List Int×β)},RelL R m l→RelL R (putK m k v) (putK l k q)
 | [],[],_=>⟨rfl,hv,trivial⟩
 | (k1,x) :: m,(k2,y) :: l,hr=>by
  rw [putK_cons,putK_cons,←hr.1];by_cases h:k=k1
  · simp only [if_pos h]; exact ⟨rfl,hv,hr.2.2⟩
  · simp only [if_neg h]; exact ⟨rfl,hr.2.1,RelL.put k hv hr.2.2⟩
 | [],_ :: _,hr=>hr.elim
 | _ :: _,[],hr=>hr.elim
theorem RelL.nth:∀ {m:List (List Int×α)} {l:List (List Int×β)},RelL R m l→∀ {i:Nat} {k:List Int} {v:α},m[i]?=some (k,v)→∃ q,l[i]?=some (k,q)∧R v q
 | [],[],_,i,k,v,h=>by simp at h
 | (k1,x) :: m,(k2,y) :: l,hr,0,k,v,h=>by
  simp only [List.getElem?_cons_zero,Option.some.injEq,Prod.mk.injEq] at h;obtain ⟨rfl,rfl⟩:=h;exact ⟨y,by simp [hr.1],hr.2.1⟩
 | (k1,x) :: m,(k2,y) :: l,hr,i+1,k,v,h=>by
  obtain ⟨q,h1,h2⟩:=RelL.nth hr.2.2 (i:=i) (by simpa using h);exact ⟨q,by simpa using h1,h2⟩
 | [],_ :: _,hr,_,_,_,_=>hr.elim
 | _ :: _,[],hr,_,_,_,_=>hr.elim
end
def picked (l:List Tm) (seen:List Nat):List Tm:=(seen.map (fun i=>l.getD i ([],0))).filter (fun t=>decide (t.2≠0))
theorem picked_snoc (l:List Tm) (seen:List Nat) (i:Nat):picked l (seen ++ [i])=if (l.getD i ([],0)).2=0 then picked l seen else picked l seen ++ [l.getD i ([],0)]:=by
 unfold picked;rw [List.map_append,List.filter_append];by_cases h:(l.getD i ([],0)).2=0
 · simp only [if_pos h,List.map_cons,List.map_nil];rw [List.filter_cons_of_neg (by simpa using h)];simp
 · simp only [if_neg h,List.map_cons,List.map_nil];rw [List.filter_cons_of_pos (by simpa using h)];simp
theorem perm_mem {α:Type} [BEq α] [LawfulBEq α] {l k:List α} (hl:l.Nodup) (hk:k.Nodup) (h:∀ a,a∈l↔a∈k):l.Perm k:=by
 rw [List.perm_iff_count];intro a;have h1:=List.nodup_iff_count.1 hl a;have h2:=List.nodup_iff_count.1 hk a;have h3:0<l.count a↔a∈l:=List.count_pos_iff;have h4:0<k.count a↔a∈k:=List.count_pos_iff;by_cases hm:a∈l
 · have:=h3.2 hm;have:=h4.2 ((h a).1 hm);omega
 · have e1:¬ 0<l.count a:=fun h=>hm (h3.1 h);have e2:¬ 0<k.count a:=fun h'=>hm ((h a).2 (h4.1 h'));omega
theorem nodup_le {α:Type} [BEq α] [LawfulBEq α]:∀ (L M:List α),L.Nodup→(∀ x∈L,x∈M)→L.length≤M.length
 | [],_,_,_=>by simp
 | x :: L,M,hn,hs=>by
  rw [List.nodup_cons] at hn;have hx:x∈M:=hs x (by simp);have:=nodup_le L (M.erase x) hn.2 (fun y hy=>(List.mem_erase_of_ne (by rintro rfl; exact hn.1 hy)).2 (hs y (by simp [hy])));rw [List.length_erase_of_mem hx] at this;have:0<M.length:=List.length_pos_of_mem hx;simp only [List.length_cons];omega
theorem QA (hn:seen.Nodup) (hb:∀ i∈seen,i<n) (ha:∀ i,i<n→i∈seen):seen.Perm (List.range n):=by
 refine perm_mem hn List.nodup_range fun i => ?_;rw [List.mem_range];exact ⟨hb i,ha i⟩
theorem QC {α:Type} (l:List α) (d:α):(List.range l.length).map (fun i=>l.getD i d)=l:=by
 apply List.ext_getElem
 · simp
 · intro i h1 h2;simp [h2]
theorem picked_perm {l:List Tm} (hn:seen.Nodup) (hb:∀ i∈seen,i<l.length) (ha:∀ i,i<l.length→i∈seen):(picked l seen).Perm (l.filter (fun t=>decide (t.2≠0))):=by
 unfold picked;refine List.Perm.filter _ ?_;have h:=(QA hn hb ha).map (fun i=>l.getD i ([],0));rw [QC] at h;exact h
theorem picked_len (l:List Tm) (seen:List Nat):(picked l seen).length≤seen.length:=by
 unfold picked;refine Nat.le_trans (List.length_filter_le _ _) ?_;simp
theorem seen_len (hn:seen.Nodup) (hb:∀ i∈seen,i<n):seen.length≤n:=by
 have h:seen.length≤(List.range n).length:=nodup_le seen _ hn (fun i hi=>List.mem_range.2 (hb i hi));simpa using h
structure Nrm (l:List Tm):Prop where
 len:∀ t∈l,t.1.length=6
 nz:∀ t∈l,t.2≠0
 nodup:(l.map (·.1)).Nodup
theorem Nrm.nil:Nrm []:=⟨by simp,by simp,by simp⟩
theorem Nrm.perm {a b:List Tm} (h:Nrm a) (p:a.Perm b):Nrm b :=
 ⟨fun t ht=>h.len t (p.mem_iff.2 ht),fun t ht=>h.nz t (p.mem_iff.2 ht),(p.map _).nodup_iff.1 h.nodup⟩
theorem Nrm.filter {l:List Tm} (h6:∀ t∈l,t.1.length=6) (hn:(l.map (·.1)).Nodup):Nrm (l.filter (fun t=>decide (t.2≠0))):=by
 refine ⟨fun t ht=>h6 t (List.mem_filter.1 ht).1,fun t ht => ?_, ?_⟩
 · have:=(List.mem_filter.1 ht).2;simpa using this
 · exact List.Nodup.sublist (List.Sublist.map _ List.filter_sublist) hn
theorem coef_nz (l:List Tm) (e:List Int):coef (l.filter (fun t=>decide (t.2≠0))) e=coef l e:=by
 induction l with
 | nil=>rfl
 | cons t r ih =>
  by_cases h:t.2=0
  · rw [List.filter_cons_of_neg (by simpa using h),ih];simp only [coef,h]
    grind
  · rw [List.filter_cons_of_pos (by simpa using h)];simp only [coef,ih]
def RB (b:Nat) (q:Rat):Prop:=q.num.natAbs<P2 b∧q.den<P2 b
theorem RB.mono (h:RB a q) (hab:a≤b):RB b q:=⟨Ag h.1 hab,Ag h.2 hab⟩
theorem RB.zero (h:1≤b):RB b 0:=⟨RS b,Ag (a:=1) (by decide) h⟩
theorem mkRat_le {n:Int} (hd:d≠0):(mkRat n d).num.natAbs≤n.natAbs∧(mkRat n d).den≤d:=by
 obtain ⟨h1,h2⟩:=rat_frac (n:=n) hd;rw [h1,h2];refine ⟨?_,Nat.div_le_self _ _⟩;rw [Int.natAbs_tdiv];exact Nat.div_le_self _ _
theorem RB.add (hp:RB a p) (hq:RB b q):RB (a+b+1) (p+q):=by
 have h:p+q=mkRat (p.num*q.den+q.num*p.den) (p.den*q.den):=Rat.add_def' p q;obtain ⟨h1,h2⟩:=mkRat_le (n:=p.num*q.den+q.num*p.den) (d:=p.den*q.den) (Nat.mul_ne_zero p.den_nz q.den_nz);rw [h];constructor
 · refine Nat.lt_of_le_of_lt h1 ?_;have e1:(p.num*(q.den:Int)).natAbs<P2 (a+b):=by rw [Int.natAbs_mul]; exact B0 hp.1 hq.2
   have e2:(q.num*(p.den:Int)).natAbs<P2 (a+b):=by rw [Int.natAbs_mul,Nat.add_comm]; exact B0 hq.1 hp.2
   exact Nat.lt_of_le_of_lt (Int.natAbs_add_le _ _) (L3 e1 e2)
 · exact Ag (Nat.lt_of_le_of_lt h2 (B0 hp.2 hq.2)) (by omega)
theorem RB.mul (hp:RB a p) (hq:RB b q):RB (a+b) (p*q):=by
 have h:p*q=mkRat (p.num*q.num) (p.den*q.den):=Rat.mul_def' p q;obtain ⟨h1,h2⟩:=mkRat_le (n:=p.num*q.num) (d:=p.den*q.den) (Nat.mul_ne_zero p.den_nz q.den_nz);rw [h];constructor
 · refine Nat.lt_of_le_of_lt h1 ?_;rw [Int.natAbs_mul];exact B0 hp.1 hq.1
 · exact Nat.lt_of_le_of_lt h2 (B0 hp.2 hq.2)
theorem RB.neg (hp:RB a p):RB a (-p):=⟨by rw [show (-p).num = -p.num from rfl,Int.natAbs_neg]; exact hp.1,hp.2⟩
theorem RB.coef {b:Nat} (hb:1≤b) (e:List Int):∀ {l:List Tm},(∀ t∈l,RB b t.2)→RB (l.length*(b+1)+1) (coef l e)
 | [],_=>RB.zero (by omega)
 | t :: r,h=>by
  have h1:RB b (if t.1=e then t.2 else 0):=by
   split
   · exact h t (by simp)
   · exact RB.zero hb
  have h2:=RB.add h1 (RB.coef hb e (l:=r) (fun s hs=>h s (by simp [hs])));refine h2.mono ?_;simp only [List.length_cons,Nat.add_mul];omega
end Go.Proofs.YtlpgonpfjbhmfaaGreatDoor.Pl
namespace Go.Proofs.YtlpgonpfjbhmfaaGreatDoor
open Go Go.RowKit
variable {a a2:Act} {AL:List Nat} {l:List Oper} {w w2:World}
def VM (l:List Oper) (AL:List Nat) (a:Act):Prop:=∀ i∈AL,∀ j∈AL,i≠j→AP l.toArray i a≠AP l.toArray j a
structure Gi (l:List Oper) (AL:List Nat) (listed:Array Bool) (a:Act) (w:World):Prop where
 ptr:∀ j∈AL,listed.getD j false=true→∃ g,AP l.toArray j a = .pointer (some ⟨g,0,none⟩)∧g<w.heap.size
 ne:∀ i∈AL,∀ j∈AL,i≠j→listed.getD i false=true→listed.getD j false=true→AP l.toArray i a≠AP l.toArray j a
theorem Gi.dist {listed:Array Bool} (h:Gi l AL listed a w) (hl:∀ i∈AL,listed.getD i false=true):VM l AL a :=
 fun i hi j hj hne=>h.ne i hi j hj hne (hl i hi) (hl j hj)
theorem Gi.start (l:List Oper) (AL:List Nat) (a:Act) (w:World):Gi l AL (Array.replicate l.toArray.size false) a w:=by
 refine ⟨fun j _ h => ?_,fun i _ j _ _ h => ?_⟩
 · rw [getD_replicate_false] at h; cases h
 · rw [getD_replicate_false] at h; cases h
theorem Gi.step {listed:Array Bool} (h:Gi l AL listed a w) {i:Nat} {o:Oper} (_ho:l.toArray[i]?=some o) (hif:listed.getD i false=false) (hE:Ext w w2)
 (hoth:∀ j oj,j∈AL→l.toArray[j]?=some oj→j≠i→AP l.toArray j a2=AP l.toArray j a)
 (hnew:i∈AL→∃ g,AP l.toArray i a2 = .pointer (some ⟨g,0,none⟩)∧w.heap.size≤g∧g<w2.heap.size):Gi l AL (listed.setIfInBounds i true) a2 w2:=by
 have hback:∀ j,j≠i→(listed.setIfInBounds i true).getD j false=true→listed.getD j false=true:=by
  intro j hj hl;have hji:¬ i=j:=fun e=>hj e.symm;rw [Array.getD_eq_getD_getElem?,Array.getElem?_setIfInBounds] at hl;rw [Array.getD_eq_getD_getElem?];rw [if_neg hji] at hl;exact hl
 have hsl:∀ j∈AL,j≠i→AP l.toArray j a2=AP l.toArray j a∨l.toArray[j]?=none:=by
  intro j hj hji;cases hoj:l.toArray[j]? with
  | none=>exact Or.inr rfl
  | some oj=>exact Or.inl (hoth j oj hj hoj hji)
 have hun:∀ j (b:Act),l.toArray[j]?=none→AP l.toArray j b=undef:=by
  intro j b hn;unfold AP AY;rw [hn];rfl
 have hsl2:∀ j∈AL,j≠i→AP l.toArray j a2=AP l.toArray j a:=by
  intro j hj hji;rcases hsl j hj hji with h1|h1
  · exact h1
  · rw [hun j _ h1,hun j _ h1]
 have hp2:∀ j∈AL,j≠i→(listed.setIfInBounds i true).getD j false=true→∃ g,AP l.toArray j a2 = .pointer (some ⟨g,0,none⟩)∧g<w.heap.size:=by
  intro j hj hji hl;obtain ⟨g,h1,h2⟩:=h.ptr j hj (hback j hji hl);exact ⟨g,by rw [hsl2 j hj hji,h1],h2⟩
 refine ⟨fun j hj hl => ?_,fun j hj k hk hne hlj hlk => ?_⟩
 · by_cases hji:j=i
   · subst hji;obtain ⟨g,h1,_,h3⟩:=hnew hj;exact ⟨g,h1,h3⟩
   · obtain ⟨g,h1,h2⟩:=hp2 j hj hji hl;exact ⟨g,h1,Nat.lt_of_lt_of_le h2 hE.size⟩
 · by_cases hji:j=i
   · subst hji;obtain ⟨g,h1,h2,_⟩:=hnew hj;obtain ⟨g',h3,h4⟩:=hp2 k hk (fun e=>hne e.symm) hlk;rw [h1,h3];simp only [ne_eq,Value.pointer.injEq,Option.some.injEq,Addr.mk.injEq,and_true];omega
   · by_cases hki:k=i
     · subst hki;obtain ⟨g,h1,h2,_⟩:=hnew hk;obtain ⟨g',h3,h4⟩:=hp2 j hj hji hlj;rw [h1,h3];simp only [ne_eq,Value.pointer.injEq,Option.some.injEq,Addr.mk.injEq,and_true];omega
     · rw [hsl2 j hj hji,hsl2 k hk hki];exact h.ne j hj k hk hne (hback j hji hlj) (hback k hki hlk)
section
variable {P:Program} {Q:Exit→Act→World→Prop}
end
section
variable {P:Program} {ops:Array Oper} {hs:List Hd} {a0:Act} {C:World→Prop} {Q:Exit→Act→World→Prop}
end
section
variable {P:Program} {Q:Exit→Act→World→Prop}
end
end Go.Proofs.YtlpgonpfjbhmfaaGreatDoor
