/- Part Gan17. -/
import Derived.WalkKit
import Derived.Test.YtlpgonpfjbhmfaaGreatDoorGan13
set_option maxRecDepth 100000
set_option maxHeartbeats 100000000
namespace Go.Proofs.YtlpgonpfjbhmfaaGreatDoor.Pl
abbrev Tm:=List Int×Rat
def coef:List Tm→List Int→Rat
 | [],_=>0
 | t :: r,e=>(if t.1=e then t.2 else 0)+coef r e
def lin (F:List Int→Rat):List Tm→Rat
 | []=>0
 | t :: r=>t.2*F t.1+lin F r
theorem coef_app (a b:List Tm) (e:List Int):coef (a ++ b) e=coef a e+coef b e:=by
 induction a with
 | nil=>simp [coef]; grind
 | cons t r ih=>simp only [List.cons_append,coef,ih]; grind
theorem lin_app (F:List Int→Rat) (a b:List Tm):lin F (a ++ b)=lin F a+lin F b:=by
 induction a with
 | nil=>simp [lin]; grind
 | cons t r ih=>simp only [List.cons_append,lin,ih]; grind
theorem coef_perm {a b:List Tm} (h:a.Perm b) (e:List Int):coef a e=coef b e:=by
 induction h with
 | nil=>rfl
 | cons t _ ih=>simp only [coef,ih]
 | swap s t l=>simp only [coef]; grind
 | trans _ _ h1 h2=>rw [h1,h2]
theorem coef_lin (l:List Tm) (e:List Int):coef l e=lin (fun m=>if m=e then 1 else 0) l:=by
 induction l with
 | nil=>rfl
 | cons t r ih =>
  simp only [coef,lin,ih];by_cases h:t.1=e <;> simp [h]
theorem coef_filter (l:List Tm) (m e:List Int):coef (l.filter (fun t=>decide (t.1≠m))) e=if e=m then 0 else coef l e:=by
 induction l with
 | nil=>simp [coef]
 | cons t r ih =>
  by_cases h:t.1=m
  · rw [List.filter_cons_of_neg (by simp [h]),ih];by_cases he:e=m
    · simp [he]
    · simp only [if_neg he,coef];rw [if_neg (by rw [h]; exact fun x=>he x.symm)]
      grind
  · rw [List.filter_cons_of_pos (by simp [h])];simp only [coef,ih];by_cases he:e=m
    · subst he; simp [h]; grind
    · simp [he]
theorem lin_filter (F:List Int→Rat) (l:List Tm) (m:List Int):lin F l=coef l m*F m+lin F (l.filter (fun t=>decide (t.1≠m))):=by
 induction l with
 | nil=>simp [coef,lin]; grind
 | cons t r ih =>
  by_cases h:t.1=m
  · rw [List.filter_cons_of_neg (by simp [h])];simp only [coef,lin,h];rw [ih]
    grind
  · rw [List.filter_cons_of_pos (by simp [h])];simp only [coef,lin,if_neg h];rw [ih]
    grind
theorem lin_zero (F:List Int→Rat):∀ (n:Nat) (l:List Tm),l.length≤n→(∀ e,coef l e=0)→lin F l=0
 | 0,l,h,_=>by
  have:l=[]:=List.eq_nil_of_length_eq_zero (by omega);subst this; rfl
 | n+1,[],_,_=>rfl
 | n+1,t :: r,h,hz=>by
  rw [lin_filter F (t :: r) t.1,hz t.1];have h1:((t :: r).filter (fun s=>decide (s.1≠t.1))).length≤n:=by
   rw [List.filter_cons_of_neg (by simp)];have:=List.length_filter_le (fun s:Tm=>decide (s.1≠t.1)) r;simp at h;omega
  rw [lin_zero F n _ h1 (fun e=>by
   rw [coef_filter,hz e]
   split <;> rfl)]
  grind
def scl (c:Rat) (l:List Tm):List Tm:=l.map (fun t=>(t.1,c*t.2))
theorem coef_scl (c:Rat) (l:List Tm) (e:List Int):coef (scl c l) e=c*coef l e:=by
 induction l with
 | nil=>simp [scl,coef]
 | cons t r ih =>
  have:scl c (t :: r)=(t.1,c*t.2) :: scl c r:=rfl;rw [this];simp only [coef,ih];by_cases h:t.1=e <;> simp [h] <;> grind
theorem lin_scl (F:List Int→Rat) (c:Rat) (l:List Tm):lin F (scl c l)=c*lin F l:=by
 induction l with
 | nil=>simp [scl,lin]
 | cons t r ih =>
  have:scl c (t :: r)=(t.1,c*t.2) :: scl c r:=rfl;rw [this];simp only [lin,ih]
  grind
theorem lin_ext {F:List Int→Rat} {a b:List Tm} (h:∀ e,coef a e=coef b e):lin F a=lin F b:=by
 have h1:=lin_zero F _ (a ++ scl (-1) b) (Nat.le_refl _) (fun e=>by rw [coef_app,coef_scl,h e]; grind);rw [lin_app,lin_scl] at h1
 grind
def cmpI (x y:Int):Int:=if x<y then -1 else if y<x then 1 else 0
theorem cmpI_zero {x y:Int}:cmpI x y=0↔x=y:=by unfold cmpI; split <;> (try split) <;> omega
theorem cmpI_pos {x y:Int}:0<cmpI x y↔y<x:=by unfold cmpI; split <;> (try split) <;> omega
theorem cmpI_neg {x y:Int}:cmpI y x = -cmpI x y:=by unfold cmpI; split <;> (try split) <;> omega
def ordR:List Int→List Int→Int
 | x :: r,y :: s=>if x=y then ordR r s else cmpI y x
 | _,_=>0
def ordE (a b:List Int):Int:=if a.sum=b.sum then ordR a.reverse b.reverse else cmpI a.sum b.sum
theorem ordR_self:∀ a:List Int,ordR a a=0
 | []=>rfl
 | x :: r=>by simp [ordR,ordR_self r]
theorem ordR_eq:∀ {a b:List Int},a.length=b.length→ordR a b=0→a=b
 | [],[],_,_=>rfl
 | x :: r,y :: s,hl,h=>by
  by_cases e:x=y
  · simp only [ordR,if_pos e] at h;rw [e,ordR_eq (by simpa using hl) h]
  · simp only [ordR,if_neg e] at h;exact absurd (cmpI_zero.1 h).symm e
theorem ordR_anti:∀ (a b:List Int),ordR b a = -ordR a b
 | [],[]=>by simp [ordR]
 | [],_ :: _=>by simp [ordR]
 | _ :: _,[]=>by simp [ordR]
 | x :: r,y :: s=>by
  by_cases e:x=y
  · simp only [ordR,if_pos e,if_pos e.symm]; exact ordR_anti r s
  · simp only [ordR,if_neg e,if_neg (fun h:y=x=>e h.symm)]; exact cmpI_neg
theorem ordR_trans:∀ {a b c:List Int},0<ordR a b→0<ordR b c→0<ordR a c
 | x :: r,y :: s,z :: t,h1,h2=>by
  by_cases e1:x=y
  · subst e1;by_cases e2:x=z
    · subst e2;simp only [ordR,if_true] at h1 h2 ⊢;exact ordR_trans h1 h2
    · simp only [ordR,if_neg e2] at h2 ⊢;exact h2
  · simp only [ordR,if_neg e1] at h1;by_cases e2:y=z
    · subst e2;simp only [ordR,if_neg e1];exact h1
    · simp only [ordR,if_neg e2] at h2;have g1:=cmpI_pos.1 h1;have g2:=cmpI_pos.1 h2;simp only [ordR,if_neg (show ¬ x=z by omega)];exact cmpI_pos.2 (by omega)
 | [],_,_,h1,_=>by simp [ordR] at h1
 | _ :: _,[],_,h1,_=>by simp [ordR] at h1
 | _ :: _,_ :: _,[],_,h2=>by simp [ordR] at h2
theorem ordE_self (a:List Int):ordE a a=0:=by simp [ordE,ordR_self]
theorem ordE_eq {a b:List Int} (hl:a.length=b.length) (h:ordE a b=0):a=b:=by
 unfold ordE at h;split at h
 · exact List.reverse_inj.1 (ordR_eq (by simpa using hl) h)
 · rename_i hs;exact absurd (cmpI_zero.1 h) hs
theorem ordE_anti (a b:List Int):ordE b a = -ordE a b:=by
 unfold ordE;by_cases h:a.sum=b.sum
 · rw [if_pos h,if_pos h.symm]; exact ordR_anti _ _
 · rw [if_neg h,if_neg (fun x=>h x.symm)]; exact cmpI_neg
theorem ordE_trans {a b c:List Int} (h1:0<ordE a b) (h2:0<ordE b c):0<ordE a c:=by
 unfold ordE at *
 by_cases e1:a.sum=b.sum
 · rw [if_pos e1] at h1;by_cases e2:b.sum=c.sum
   · rw [if_pos e2] at h2;rw [if_pos (e1.trans e2)];exact ordR_trans h1 h2
   · rw [if_neg e2] at h2;rw [if_neg (fun h=>e2 (e1.symm.trans h)),e1];exact h2
 · rw [if_neg e1] at h1;have g1:=cmpI_pos.1 h1;by_cases e2:b.sum=c.sum
   · rw [if_neg (fun h=>e1 (h.trans e2.symm)),←e2];exact h1
   · rw [if_neg e2] at h2;have g2:=cmpI_pos.1 h2;rw [if_neg (by omega)];exact cmpI_pos.2 (by omega)
structure Canon (n:Nat) (l:List Tm):Prop where
 len:∀ t∈l,t.1.length=n
 nz:∀ t∈l,t.2≠0
 desc:l.Pairwise (fun s t=>0<ordE s.1 t.1)
theorem Canon.nil (n:Nat):Canon n []:=⟨by simp,by simp,List.Pairwise.nil⟩
theorem Canon.tail {n:Nat} {t:Tm} {r:List Tm} (h:Canon n (t :: r)):Canon n r :=
 ⟨fun s hs=>h.len s (by simp [hs]),fun s hs=>h.nz s (by simp [hs]),(List.pairwise_cons.1 h.desc).2⟩
theorem coef_absent {l:List Tm} {e:List Int} (h:∀ t∈l,t.1≠e):coef l e=0:=by
 induction l with
 | nil=>rfl
 | cons t r ih =>
  simp only [coef,if_neg (h t (by simp)),ih (fun s hs=>h s (by simp [hs]))]
  grind
theorem coef_present {l:List Tm} {e:List Int} (h:coef l e≠0):∃ t∈l,t.1=e:=by
 refine Classical.byContradiction fun hc=>h (coef_absent fun t ht he=>hc ⟨t,ht,he⟩)
theorem Canon.head {n:Nat} {t:Tm} {r:List Tm} (h:Canon n (t :: r)):coef (t :: r) t.1=t.2:=by
 have:coef r t.1=0:=coef_absent fun s hs he=>by
  have:=(List.pairwise_cons.1 h.desc).1 s hs;rw [he,ordE_self] at this;omega
 simp only [coef,if_true,this]
 grind
theorem Canon.above {n:Nat} {t:Tm} {r:List Tm} (h:Canon n (t :: r)) {e:List Int} (he:coef (t :: r) e≠0):e=t.1∨0<ordE t.1 e:=by
 obtain ⟨s,hs,rfl⟩:=coef_present he;rcases List.mem_cons.1 hs with rfl|hs
 · exact Or.inl rfl
 · exact Or.inr ((List.pairwise_cons.1 h.desc).1 s hs)
theorem canon_ext {n:Nat}:∀ {a b:List Tm},Canon n a→Canon n b→(∀ e,coef a e=coef b e)→a=b
 | [],[],_,_,_=>rfl
 | [],t :: r,_,hb,e=>by
  have h1:=hb.head;rw [←e] at h1;exact absurd h1.symm (hb.nz t (by simp))
 | t :: r,[],ha,_,e=>by
  have h1:=ha.head;rw [e] at h1;exact absurd h1.symm (ha.nz t (by simp))
 | s :: a,t :: b,ha,hb,e=>by
  have h1:=ha.head;have h2:=hb.head;have n1:coef (t :: b) s.1≠0:=by rw [←e,h1]; exact ha.nz s (by simp)
  have n2:coef (s :: a) t.1≠0:=by rw [e,h2]; exact hb.nz t (by simp)
  have hm:s.1=t.1:=by
   rcases hb.above n1 with h|h
   · exact h
   · rcases ha.above n2 with h' | h'
     · exact h'.symm
     · have:=ordE_anti s.1 t.1;omega
  have hc:s.2=t.2:=by rw [←h1,←h2,e,hm]
  have hst:s=t:=Prod.ext hm hc;subst hst
  rw [canon_ext ha.tail hb.tail (fun x=>by
   have:=e x;simp only [coef] at this
   grind)]
theorem rat_add_parts (a b:Rat) :
 (a+b).num=(a.num*((b.den/a.den.gcd b.den:Nat):Int)+b.num*((a.den/a.den.gcd b.den:Nat):Int)).tdiv (((a.num*((b.den/a.den.gcd b.den:Nat):Int)+b.num*((a.den/a.den.gcd b.den:Nat):Int)).natAbs.gcd (a.den.gcd b.den):Nat):Int) ∧
 (a+b).den=(a.den/a.den.gcd b.den)*(b.den/((a.num*((b.den/a.den.gcd b.den:Nat):Int)+b.num*((a.den/a.den.gcd b.den:Nat):Int)).natAbs.gcd (a.den.gcd b.den))):=by
 have h:a+b=Rat.add a b:=rfl
 have hd:∀ N:Nat,(a.den/a.den.gcd b.den)*(b.den/(N.gcd (a.den.gcd b.den)))=(a.den/a.den.gcd b.den)*b.den/(N.gcd (a.den.gcd b.den)):=fun N =>
  (Nat.mul_div_assoc _ (Nat.dvd_trans (Nat.gcd_dvd_right _ _) (Nat.gcd_dvd_right _ _))).symm
 rw [hd,h,Rat.add];simp only;split
 · rename_i hg;simp [hg]
 · rw [Rat.maybeNormalize_eq];exact ⟨Int.divExact_eq_tdiv (Int.ofNat_dvd_left.2 (Nat.gcd_dvd_left _ _)),rfl⟩
theorem rat_eq_mk {q:Rat} {n:Int} {d:Nat} (hd:d≠0) (hc:n.natAbs.Coprime d) (h:q=mkRat n d):q.num=n∧q.den=d:=by
 rw [h,Rat.num_mkRat,Rat.den_mkRat,if_neg hd,if_neg hd];have h1:d.gcd n.natAbs=1:=by rw [Nat.gcd_comm]; exact hc
 simp [h1]
theorem rat_num_den_zero {q:Rat}:q.num=0↔q=0:=Rat.num_eq_zero
theorem rat_frac {n:Int} {d:Nat} (hd:d≠0):(mkRat n d).num=n.tdiv (n.natAbs.gcd d:Nat)∧(mkRat n d).den=d/(n.natAbs.gcd d):=by
 rw [Rat.num_mkRat,Rat.den_mkRat,if_neg hd,if_neg hd,Nat.gcd_comm];refine ⟨?_,rfl⟩;have h:((n.natAbs.gcd d:Nat):Int)∣n:=by
  have:=Nat.gcd_dvd_left n.natAbs d;exact Int.ofNat_dvd_left.2 this
 exact (Int.tdiv_eq_ediv_of_dvd h).symm
def desc (l:List Tm):Prop:=l.Pairwise (fun s t=>0≤ordE s.1 t.1)
theorem canon_of_sorted {n:Nat} {l:List Tm} (hl:∀ t∈l,t.1.length=n) (hz:∀ t∈l,t.2≠0) (hd:desc l) (hn:(l.map (·.1)).Nodup):Canon n l:=by
 refine ⟨hl,hz, ?_⟩
 induction l with
 | nil=>exact List.Pairwise.nil
 | cons t r ih =>
  have hd2:=List.pairwise_cons.1 hd;have hn2:=List.nodup_cons.1 hn;refine List.pairwise_cons.2 ⟨fun s hs => ?_,ih (fun x hx=>hl x (by simp [hx])) (fun x hx=>hz x (by simp [hx])) hd2.2 hn2.2⟩;have h1:=hd2.1 s hs
  have h2:ordE t.1 s.1≠0:=fun h0=>hn2.1 (by
   show t.1∈_;rw [ordE_eq (by rw [hl t (by simp),hl s (by simp [hs])]) h0]
   exact List.mem_map_of_mem hs)
  omega
end Go.Proofs.YtlpgonpfjbhmfaaGreatDoor.Pl
namespace Go.Proofs.YtlpgonpfjbhmfaaGreatDoor.Pl
def posK {α:Type} (k:List Int):Nat→List (List Int×α)→Option (Nat×α)
 | _,[]=>none
 | i,(k',v) :: r=>if k=k' then some (i,v) else posK k (i+1) r
def getK {α:Type} (z:α) (l:List (List Int×α)) (k:List Int):α:=((posK k 0 l).map (·.2)).getD z
def putK {α:Type} (l:List (List Int×α)) (k:List Int) (v:α):List (List Int×α) :=
 match posK k 0 l with
 | some (i,_)=>l.set i (k,v)
 | none=>l ++ [(k,v)]
theorem posK_succ {α:Type} (k:List Int):∀ (l:List (List Int×α)) (i:Nat),posK k (i+1) l=(posK k i l).map (fun p=>(p.1+1,p.2))
 | [],_=>rfl
 | (k',v) :: r,i=>by
  unfold posK;by_cases h:k=k'
  · simp [h]
  · simp only [if_neg h]; exact posK_succ k r (i+1)
theorem getK_cons {α:Type} (z:α) (k':List Int) (v:α) (r:List (List Int×α)) (k:List Int):getK z ((k',v) :: r) k=if k=k' then v else getK z r k:=by
 unfold getK;rw [posK];by_cases h:k=k'
 · simp [h]
 · simp only [if_neg h];rw [posK_succ];cases posK k 0 r <;> rfl
theorem putK_nil {α:Type} (k:List Int) (v:α):putK [] k v=[(k,v)]:=rfl
theorem putK_cons {α:Type} (k':List Int) (x:α) (r:List (List Int×α)) (k:List Int) (v:α):putK ((k',x) :: r) k v=if k=k' then (k,v) :: r else (k',x) :: putK r k v:=by
 unfold putK;rw [posK];by_cases h:k=k'
 · simp [h]
 · simp only [if_neg h];rw [posK_succ];cases hp:posK k 0 r with
   | none=>simp
   | some p=>obtain ⟨i,y⟩:=p; simp
theorem putK_length {α:Type} (k:List Int) (v:α):∀ (l:List (List Int×α)),(putK l k v).length≤l.length+1
 | []=>by simp [putK_nil]
 | (k',x) :: r=>by
  rw [putK_cons];by_cases hk:k=k'
  · simp [hk]
  · have:=putK_length k v r;simp only [if_neg hk,List.length_cons]; omega
theorem coef_out {l:List Tm} {e:List Int} (h:e ∉ l.map (·.1)):coef l e=0:=coef_absent fun t ht he=>h (by rw [←he]; exact List.mem_map_of_mem ht)
theorem getK_coef:∀ (l:List Tm) (k:List Int),(l.map (·.1)).Nodup→getK 0 l k=coef l k
 | [],k,_=>rfl
 | (k',q) :: r,k,h=>by
  simp only [List.map_cons,List.nodup_cons] at h;rw [getK_cons];simp only [coef];by_cases hk:k=k'
  · subst hk;rw [if_pos rfl,if_pos rfl,coef_out h.1]
    grind
  · rw [if_neg hk,if_neg (fun x=>hk x.symm),getK_coef r k h.2]
    grind
theorem coef_putK (k:List Int) (q:Rat):∀ (l:List Tm),(l.map (·.1)).Nodup→∀ e,coef (putK l k q) e=if k=e then q else coef l e
 | [],_,e=>by
  simp only [putK_nil,coef]
  grind
 | (k',x) :: r,h,e=>by
  simp only [List.map_cons,List.nodup_cons] at h;rw [putK_cons];by_cases hk:k=k'
  · subst hk;rw [if_pos rfl];simp only [coef];by_cases he:k=e
    · subst he;simp only [if_true];rw [coef_out h.1]
      grind
    · simp [he]
  · rw [if_neg hk];simp only [coef,coef_putK k q r h.2 e];by_cases he:k=e
    · subst he;rw [if_neg (fun x=>hk x.symm)]
      grind
    · simp [he]
theorem coef_step {l:List Tm} {k:List Int} {q:Rat} (h:(l.map (·.1)).Nodup) (e:List Int):coef (putK l k (getK 0 l k+q)) e=coef l e+coef [(k,q)] e:=by
 rw [coef_putK k _ l h e,getK_coef l k h];simp only [coef];by_cases he:k=e
 · subst he; simp; grind
 · simp [he]; grind
def RelL {α β:Type} (R:α→β→Prop):List (List Int×α)→List (List Int×β)→Prop
 | [],[]=>True
 | (k,v) :: m,(k',q) :: l=>k=k'∧R v q∧RelL R m l
 | _,_=>False
section
variable {α β:Type} {R R':α→β→Prop}
theorem RelL.mono (h:∀ v q,R v q→R' v q):∀ {m:List (List Int×α)} {l:List (List Int×β)},RelL R m l→RelL R' m l
 | [],[],_=>trivial
 | (_,_) :: _,(_,_) :: _,hr=>⟨hr.1,h _ _ hr.2.1,RelL.mono h hr.2.2⟩
 | [],_ :: _,hr=>hr.elim
 | _ :: _,[],hr=>hr.elim
theorem RelL.len:∀ {m:List (List Int×α)} {l:List (List Int×β)},RelL R m l→m.length=l.length
 | [],[],_=>rfl
 | (_,_) :: _,(_,_) :: _,hr=>by simp [RelL.len hr.2.2]
 | [],_ :: _,hr=>hr.elim
 | _ :: _,[],hr=>hr.elim
theorem RelL.keys:∀ {m:List (List Int×α)} {l:List (List Int×β)},RelL R m l→m.map (·.1)=l.map (·.1)
 | [],[],_=>rfl
 | (_,_) :: _,(_,_) :: _,hr=>by simp [RelL.keys hr.2.2,hr.1]
 | [],_ :: _,hr=>hr.elim
 | _ :: _,[],hr=>hr.elim
theorem RelL.get {z:α} {z':β} (hz:R z z') (k:List Int):∀ {m:List (List Int×α)} {l:List (List Int×β)},RelL R m l→R (getK z m k) (getK z' l k)
 | [],[],_=>hz
 | (k1,v) :: m,(k2,q) :: l,hr=>by
  rw [getK_cons,getK_cons,←hr.1];by_cases h:k=k1
  · simp only [if_pos h]; exact hr.2.1
  · simp only [if_neg h]; exact RelL.get hz k hr.2.2
 | [],_ :: _,hr=>hr.elim
 | _ :: _,[],hr=>hr.elim
theorem RelL.put (k:List Int) {v:α} {q:β} (hv:R v q):∀ {m:List (List Int×α)} {l:List (List Int×β)},RelL R m l→RelL R (putK m k v) (putK l k q)
 | [],[],_=>⟨rfl,hv,trivial⟩
 | (k1,x) :: m,(k2,y) :: l,hr=>by
  rw [putK_cons,putK_cons,←hr.1];by_cases h:k=k1
  · simp only [if_pos h]; exact ⟨rfl,hv,hr.2.2⟩
  · simp only [if_neg h]; exact ⟨rfl,hr.2.1,RelL.put k hv hr.2.2⟩
 | [],_ :: _,hr=>hr.elim
 | _ :: _,[],hr=>hr.elim
theorem RelL.nth:∀ {m:List (List Int×α)} {l:List (List Int×β)},RelL R m l→∀ {i:Nat} {k:List Int} {v:α},m[i]?=some (k,v)→∃ q,l[i]?=some (k,q)∧R v q
 | [],[],_,i,k,v,h=>by simp at h
 | (k1,x) :: m,(k2,y) :: l,hr,0,k,v,h=>by
  simp only [List.getElem?_cons_zero,Option.some.injEq,Prod.mk.injEq] at h;obtain ⟨rfl,rfl⟩:=h;exact ⟨y,by simp [hr.1],hr.2.1⟩
 | (k1,x) :: m,(k2,y) :: l,hr,i+1,k,v,h=>by
  obtain ⟨q,h1,h2⟩:=RelL.nth hr.2.2 (i:=i) (by simpa using h);exact ⟨q,by simpa using h1,h2⟩
 | [],_ :: _,hr,_,_,_,_=>hr.elim
 | _ :: _,[],hr,_,_,_,_=>hr.elim
end
def picked (l:List Tm) (seen:List Nat):List Tm:=(seen.map (fun i=>l.getD i ([],0))).filter (fun t=>decide (t.2≠0))
theorem picked_snoc (l:List Tm) (seen:List Nat) (i:Nat):picked l (seen ++ [i])=if (l.getD i ([],0)).2=0 then picked l seen else picked l seen ++ [l.getD i ([],0)]:=by
 unfold picked;rw [List.map_append,List.filter_append];by_cases h:(l.getD i ([],0)).2=0
 · simp only [if_pos h,List.map_cons,List.map_nil];rw [List.filter_cons_of_neg (by simpa using h)];simp
 · simp only [if_neg h,List.map_cons,List.map_nil];rw [List.filter_cons_of_pos (by simpa using h)];simp
theorem perm_mem {α:Type} [BEq α] [LawfulBEq α] {l k:List α} (hl:l.Nodup) (hk:k.Nodup) (h:∀ a,a∈l↔a∈k):l.Perm k:=by
 rw [List.perm_iff_count];intro a;have h1:=List.nodup_iff_count.1 hl a;have h2:=List.nodup_iff_count.1 hk a;have h3:0<l.count a↔a∈l:=List.count_pos_iff;have h4:0<k.count a↔a∈k:=List.count_pos_iff;by_cases hm:a∈l
 · have:=h3.2 hm;have:=h4.2 ((h a).1 hm);omega
 · have e1:¬ 0<l.count a:=fun h=>hm (h3.1 h);have e2:¬ 0<k.count a:=fun h'=>hm ((h a).2 (h4.1 h'));omega
theorem nodup_le {α:Type} [BEq α] [LawfulBEq α]:∀ (L M:List α),L.Nodup→(∀ x∈L,x∈M)→L.length≤M.length
 | [],_,_,_=>by simp
 | x :: L,M,hn,hs=>by
  rw [List.nodup_cons] at hn;have hx:x∈M:=hs x (by simp);have:=nodup_le L (M.erase x) hn.2 (fun y hy=>(List.mem_erase_of_ne (by rintro rfl; exact hn.1 hy)).2 (hs y (by simp [hy])));rw [List.length_erase_of_mem hx] at this;have:0<M.length:=List.length_pos_of_mem hx;simp only [List.length_cons];omega
theorem seen_perm {n:Nat} {seen:List Nat} (hn:seen.Nodup) (hb:∀ i∈seen,i<n) (ha:∀ i,i<n→i∈seen):seen.Perm (List.range n):=by
 refine perm_mem hn List.nodup_range fun i => ?_;rw [List.mem_range];exact ⟨hb i,ha i⟩
theorem map_range {α:Type} (l:List α) (d:α):(List.range l.length).map (fun i=>l.getD i d)=l:=by
 apply List.ext_getElem
 · simp
 · intro i h1 h2;simp [List.getD_eq_getElem?_getD,h2]
theorem picked_perm {l:List Tm} {seen:List Nat} (hn:seen.Nodup) (hb:∀ i∈seen,i<l.length) (ha:∀ i,i<l.length→i∈seen):(picked l seen).Perm (l.filter (fun t=>decide (t.2≠0))):=by
 unfold picked;refine List.Perm.filter _ ?_;have h:=(seen_perm hn hb ha).map (fun i=>l.getD i ([],0));rw [map_range] at h;exact h
theorem picked_len (l:List Tm) (seen:List Nat):(picked l seen).length≤seen.length:=by
 unfold picked;refine Nat.le_trans (List.length_filter_le _ _) ?_;simp
theorem seen_len {n:Nat} {seen:List Nat} (hn:seen.Nodup) (hb:∀ i∈seen,i<n):seen.length≤n:=by
 have h:seen.length≤(List.range n).length:=nodup_le seen _ hn (fun i hi=>List.mem_range.2 (hb i hi));simpa using h
structure Nrm (l:List Tm):Prop where
 len:∀ t∈l,t.1.length=6
 nz:∀ t∈l,t.2≠0
 nodup:(l.map (·.1)).Nodup
theorem Nrm.nil:Nrm []:=⟨by simp,by simp,by simp⟩
theorem Nrm.perm {a b:List Tm} (h:Nrm a) (p:a.Perm b):Nrm b :=
 ⟨fun t ht=>h.len t (p.mem_iff.2 ht),fun t ht=>h.nz t (p.mem_iff.2 ht),(p.map _).nodup_iff.1 h.nodup⟩
theorem Nrm.filter {l:List Tm} (h6:∀ t∈l,t.1.length=6) (hn:(l.map (·.1)).Nodup):Nrm (l.filter (fun t=>decide (t.2≠0))):=by
 refine ⟨fun t ht=>h6 t (List.mem_filter.1 ht).1,fun t ht => ?_, ?_⟩
 · have:=(List.mem_filter.1 ht).2;simpa using this
 · exact List.Nodup.sublist (List.Sublist.map _ List.filter_sublist) hn
theorem coef_nz (l:List Tm) (e:List Int):coef (l.filter (fun t=>decide (t.2≠0))) e=coef l e:=by
 induction l with
 | nil=>rfl
 | cons t r ih =>
  by_cases h:t.2=0
  · rw [List.filter_cons_of_neg (by simpa using h),ih];simp only [coef,h]
    grind
  · rw [List.filter_cons_of_pos (by simpa using h)];simp only [coef,ih]
def RB (b:Nat) (q:Rat):Prop:=q.num.natAbs<P2 b∧q.den<P2 b
theorem RB.mono {a b:Nat} {q:Rat} (h:RB a q) (hab:a≤b):RB b q:=⟨P2_lt h.1 hab,P2_lt h.2 hab⟩
theorem RB.zero {b:Nat} (h:1≤b):RB b 0:=⟨P2_pos b,P2_lt (a:=1) (by decide) h⟩
theorem mkRat_le {n:Int} {d:Nat} (hd:d≠0):(mkRat n d).num.natAbs≤n.natAbs∧(mkRat n d).den≤d:=by
 obtain ⟨h1,h2⟩:=rat_frac (n:=n) hd;rw [h1,h2];refine ⟨?_,Nat.div_le_self _ _⟩;rw [Int.natAbs_tdiv];exact Nat.div_le_self _ _
theorem RB.add {a b:Nat} {p q:Rat} (hp:RB a p) (hq:RB b q):RB (a+b+1) (p+q):=by
 have h:p+q=mkRat (p.num*q.den+q.num*p.den) (p.den*q.den):=Rat.add_def' p q;obtain ⟨h1,h2⟩:=mkRat_le (n:=p.num*q.den+q.num*p.den) (d:=p.den*q.den) (Nat.mul_ne_zero p.den_nz q.den_nz);rw [h];constructor
 · refine Nat.lt_of_le_of_lt h1 ?_;have e1:(p.num*(q.den:Int)).natAbs<P2 (a+b):=by rw [Int.natAbs_mul]; exact P2_mul hp.1 hq.2
   have e2:(q.num*(p.den:Int)).natAbs<P2 (a+b):=by rw [Int.natAbs_mul,Nat.add_comm]; exact P2_mul hq.1 hp.2
   exact Nat.lt_of_le_of_lt (Int.natAbs_add_le _ _) (P2_sum e1 e2)
 · exact P2_lt (Nat.lt_of_le_of_lt h2 (P2_mul hp.2 hq.2)) (by omega)
theorem RB.mul {a b:Nat} {p q:Rat} (hp:RB a p) (hq:RB b q):RB (a+b) (p*q):=by
 have h:p*q=mkRat (p.num*q.num) (p.den*q.den):=Rat.mul_def' p q;obtain ⟨h1,h2⟩:=mkRat_le (n:=p.num*q.num) (d:=p.den*q.den) (Nat.mul_ne_zero p.den_nz q.den_nz);rw [h];constructor
 · refine Nat.lt_of_le_of_lt h1 ?_;rw [Int.natAbs_mul];exact P2_mul hp.1 hq.1
 · exact Nat.lt_of_le_of_lt h2 (P2_mul hp.2 hq.2)
theorem RB.neg {a:Nat} {p:Rat} (hp:RB a p):RB a (-p):=⟨by rw [show (-p).num = -p.num from rfl,Int.natAbs_neg]; exact hp.1,hp.2⟩
theorem RB.coef {b:Nat} (hb:1≤b) (e:List Int):∀ {l:List Tm},(∀ t∈l,RB b t.2)→RB (l.length*(b+1)+1) (coef l e)
 | [],_=>RB.zero (by omega)
 | t :: r,h=>by
  have h1:RB b (if t.1=e then t.2 else 0):=by
   split
   · exact h t (by simp)
   · exact RB.zero hb
  have h2:=RB.add h1 (RB.coef hb e (l:=r) (fun s hs=>h s (by simp [hs])));refine h2.mono ?_;simp only [List.length_cons,Nat.add_mul];omega
end Go.Proofs.YtlpgonpfjbhmfaaGreatDoor.Pl
namespace Go.Proofs.YtlpgonpfjbhmfaaGreatDoor
open Go Go.RowKit
def DistA (l:List Oper) (AL:List Nat) (a:Act):Prop:=∀ i∈AL,∀ j∈AL,i≠j→slotOf l.toArray i a≠slotOf l.toArray j a
structure AlcInv (l:List Oper) (AL:List Nat) (listed:Array Bool) (a:Act) (w:World):Prop where
 ptr:∀ j∈AL,listed.getD j false=true→∃ g,slotOf l.toArray j a = .pointer (some ⟨g,0,none⟩)∧g<w.heap.size
 ne:∀ i∈AL,∀ j∈AL,i≠j→listed.getD i false=true→listed.getD j false=true→slotOf l.toArray i a≠slotOf l.toArray j a
theorem AlcInv.dist {l:List Oper} {AL:List Nat} {listed:Array Bool} {a:Act} {w:World} (h:AlcInv l AL listed a w) (hl:∀ i∈AL,listed.getD i false=true):DistA l AL a :=
 fun i hi j hj hne=>h.ne i hi j hj hne (hl i hi) (hl j hj)
theorem AlcInv.start (l:List Oper) (AL:List Nat) (a:Act) (w:World):AlcInv l AL (Array.replicate l.toArray.size false) a w:=by
 refine ⟨fun j _ h => ?_,fun i _ j _ _ h => ?_⟩
 · rw [getD_replicate_false] at h; cases h
 · rw [getD_replicate_false] at h; cases h
theorem AlcInv.step {l:List Oper} {AL:List Nat} {listed:Array Bool} {a a2:Act} {w w2:World} (h:AlcInv l AL listed a w) {i:Nat} {o:Oper} (_ho:l.toArray[i]?=some o) (hif:listed.getD i false=false) (hE:Ext w w2)
 (hoth:∀ j oj,j∈AL→l.toArray[j]?=some oj→j≠i→slotOf l.toArray j a2=slotOf l.toArray j a)
 (hnew:i∈AL→∃ g,slotOf l.toArray i a2 = .pointer (some ⟨g,0,none⟩)∧w.heap.size≤g∧g<w2.heap.size):AlcInv l AL (listed.setIfInBounds i true) a2 w2:=by
 have hback:∀ j,j≠i→(listed.setIfInBounds i true).getD j false=true→listed.getD j false=true:=by
  intro j hj hl;have hji:¬ i=j:=fun e=>hj e.symm;rw [Array.getD_eq_getD_getElem?,Array.getElem?_setIfInBounds] at hl;rw [Array.getD_eq_getD_getElem?];rw [if_neg hji] at hl;exact hl
 have hsl:∀ j∈AL,j≠i→slotOf l.toArray j a2=slotOf l.toArray j a∨l.toArray[j]?=none:=by
  intro j hj hji;cases hoj:l.toArray[j]? with
  | none=>exact Or.inr rfl
  | some oj=>exact Or.inl (hoth j oj hj hoj hji)
 have hun:∀ j (b:Act),l.toArray[j]?=none→slotOf l.toArray j b=undef:=by
  intro j b hn;unfold slotOf dstAt;rw [hn];rfl
 have hsl2:∀ j∈AL,j≠i→slotOf l.toArray j a2=slotOf l.toArray j a:=by
  intro j hj hji;rcases hsl j hj hji with h1|h1
  · exact h1
  · rw [hun j _ h1,hun j _ h1]
 have hp2:∀ j∈AL,j≠i→(listed.setIfInBounds i true).getD j false=true→∃ g,slotOf l.toArray j a2 = .pointer (some ⟨g,0,none⟩)∧g<w.heap.size:=by
  intro j hj hji hl;obtain ⟨g,h1,h2⟩:=h.ptr j hj (hback j hji hl);exact ⟨g,by rw [hsl2 j hj hji,h1],h2⟩
 refine ⟨fun j hj hl => ?_,fun j hj k hk hne hlj hlk => ?_⟩
 · by_cases hji:j=i
   · subst hji;obtain ⟨g,h1,_,h3⟩:=hnew hj;exact ⟨g,h1,h3⟩
   · obtain ⟨g,h1,h2⟩:=hp2 j hj hji hl;exact ⟨g,h1,Nat.lt_of_lt_of_le h2 hE.size⟩
 · by_cases hji:j=i
   · subst hji;obtain ⟨g,h1,h2,_⟩:=hnew hj;obtain ⟨g',h3,h4⟩:=hp2 k hk (fun e=>hne e.symm) hlk;rw [h1,h3];simp only [ne_eq,Value.pointer.injEq,Option.some.injEq,Addr.mk.injEq,and_true];omega
   · by_cases hki:k=i
     · subst hki;obtain ⟨g,h1,h2,_⟩:=hnew hk;obtain ⟨g',h3,h4⟩:=hp2 j hj hji hlj;rw [h1,h3];simp only [ne_eq,Value.pointer.injEq,Option.some.injEq,Addr.mk.injEq,and_true];omega
     · rw [hsl2 j hj hji,hsl2 k hk hki];exact h.ne j hj k hk hne (hback j hji hlj) (hback k hki hlk)
section
variable {P:Program} {Q:Exit→Act→World→Prop}
end
section
variable {P:Program} {ops:Array Oper} {hs:List Hd} {a0:Act} {C:World→Prop} {Q:Exit→Act→World→Prop}
end
section
variable {P:Program} {Q:Exit→Act→World→Prop}
end
def StepOf (P:Program) (ops:Array Oper) (o:Oper) (a:Act) (w:World) (u:Value) (w':World):Prop :=
 Region.wanted o (yielded ops a.tmps)=true→match (execOp a.eval o).run P w with | .ok (.value v) wv=>u=v∧w'=wv | .ok .skip wv=>w'=wv | _=>True
section
variable {P:Program} {Q:Exit→Act→World→Prop}
theorem wp_of_tyUpon4 {o:Oper} {a:Act} {w:World} {R:Value→World→Prop} {K:Act→World→Prop} (h:tyUpon P R ((execOp a.eval o).run P w))
 (hK:∀ u w',R u w'→(match (execOp a.eval o).run P w with | .ok (.value v) wv=>u=v∧w'=wv | .ok .skip wv=>w'=wv | _=>True)→K (a.put o.dst u) w'):o.wp P a w K Q:=by
 unfold Oper.wp;generalize (execOp a.eval o).run P w=r at *
 cases r with
 | ok n w' =>
  cases n <;> simp only [tyUpon] at h <;> simp only [Oper.upon]
  case value u=>exact hK u w' h ⟨rfl,rfl⟩
  case skip=>exact hK undef w' h rfl
  case enter f args=>exact h.mono fun e w'' ⟨u,he,hr⟩=>by subst he; exact hK u w'' hr trivial
 | halt x w'=>simp only [tyUpon] at h
end
section
variable {P:Program} {ops:Array Oper} {hs:List Hd} {a0:Act} {C:World→Prop} {Q:Exit→Act→World→Prop}
theorem step_inv4 (hobl:obls P C ops hs a0 0 ops.toList hs) (hst:stabs hs) (hCe:∀ w w',Ext w w'→C w→C w') {listed:Array Bool} {a:Act} {w:World}
 (inv:RInv ops hs a0 C listed a w) {i:Nat} (hi:i∈Region.ready .any ops listed) (hin:i<hs.length)
 (hok:∀ o,ops[i]?=some o→HeadFacts ops (hs.map (·.cons)) hs.length a0.tmps.size i o) {K:Act→World→Prop}
 (hK:∀ o u w',ops[i]?=some o→(resultOf C ops hs i o (hdAt hs i) w u w'∨w'=w)→StepOf P ops o a w u w'→RInv ops hs a0 C (listed.setIfInBounds i true) (a.put o.dst u) w'→K (a.put o.dst u) w'):wpOp P ops Q i K a w:=by
 obtain ⟨h0,o,ho,hpr⟩:=ready_spec hi;have hk:=hok o ho;have hil:i<listed.size:=by
  rw [inv.size];exact (Array.getElem?_eq_some_iff.1 ho).1
 have hif:listed.getD i false=false:=by
  simpa [hil] using h0
 have hnot:listed.getD i false≠true:=by rw [hif]; simp
 have hset:(listed.setIfInBounds i true).getD i false=true:=by simp [hil]
 have hob:obl P C ops hs a0 i o (hdAt hs i):=by
  have:=obls_get hs ops.toList 0 hobl i o (by simpa using ho) hin;simpa [hdAt] using this
 -- the operands
 have hopn:opnds ops hs a0 o a.eval w o.op.operands.toList:=by
  refine opnds_of fun x hx => ?_;cases x with
  | tmp t =>
   have htl:t∈looksAt ops o:=by
    unfold looksAt tmpsOf;rw [List.mem_append];left;rw [List.mem_filterMap];exact ⟨_,hx,rfl⟩
   simp only [opnd];cases hs':srcOf ops o t with
   | none =>
    simp only [Act.eval];refine inv.frame t fun j hj hl hd => ?_;rcases hk.look t htl j hj hd with h|h|h
    · subst h; exact hnot hl
    · exact srcOf_none hs' h hd
    · exact hnot (inv.closed j hl i h)
   | some j =>
    obtain ⟨hjp,hjd⟩:=srcOf_some hs';have hjn:j<hs.length:=by have:=hk.lt j hjp; omega
    have hjl:=hpr j hjp;simp only;cases hty:(hdAt hs j).ty with
    | eq c=>exact inv.values j c hjn hjl hty t hjd
    | pr p =>
     obtain ⟨v,hv,hvd⟩:=inv.facts j hjn hjl (by
      intro k hck;have:=hk.cons j hjp k (by rw [cons_get hjn]; exact hck);rcases this with h|h|h
      · subst h; exact hif
      · by_cases hlk:listed.getD k false=true
        · exact absurd (inv.closed k hlk i h) hnot
        · simpa using hlk
      · exact absurd hjd (h t htl))
     rw [hty] at hv;exact ⟨v,hvd t hjd,hv⟩
  | _=>trivial
 -- behind the operation
 have hnew:∀ u w',C w'→(hdAt hs i).ty.ok u w' →
  (∀ j,j<hs.length→j≠i→listed.getD j false=true→(∀ k,(hdAt hs j).cons=some k→(listed.setIfInBounds i true).getD k false=false)→∀ v,(hdAt hs j).ty.ok v w→(hdAt hs j).ty.ok v w') →
  RInv ops hs a0 C (listed.setIfInBounds i true) (a.put o.dst u) w':=by
  intro u w' hC hu hkeep;have hslot:∀ j,j<hs.length→j≠i→∀ d,dstAt ops j=some d→(a.put o.dst u).tmps.getD d undef=a.tmps.getD d undef:=by
   intro j hj hne d hd;cases hod:o.dst with
   | none=>rfl
   | some d' =>
    rw [getD_put];have:d'≠d:=by
     rintro rfl;have:=hk.apart j hj hne (by rw [hd,hod]);rw [hod] at this;cases this
    rw [if_neg (fun h=>this h.1)]
  have hown:∀ d,dstAt ops i=some d→(a.put o.dst u).tmps.getD d undef=u:=by
   intro d hd;rw [dstAt_some ho] at hd;rw [hd,getD_put,if_pos ⟨rfl,by rw [inv.tmps]; exact hk.dst d hd⟩]
  have hback:∀ j,j≠i→(listed.setIfInBounds i true).getD j false=true→listed.getD j false=true:=by
   intro j hne h
   rwa [getD_set_ne false (Ne.symm hne)] at h
  refine ⟨by rw [Array.size_setIfInBounds]; exact inv.size, ?_, ?_,hC,by rw [put_defers]; exact inv.defers,by rw [put_size]; exact inv.tmps, ?_, ?_, ?_⟩
  · intro j hj;rw [getD_set_ne false (by omega)];exact inv.tailF j hj
  · intro j hj p hp;by_cases hji:j=i
    · subst hji;rw [predsAt_some ho] at hp;exact getD_set_true (hpr p hp)
    · exact getD_set_true (inv.closed j (hback j hji hj) p hp)
  · intro t ht;have h1:o.dst≠some t:=by
     have:=ht i hin hset
     rwa [dstAt_some ho] at this
    have h2:a.tmps.getD t undef=a0.tmps.getD t undef:=inv.frame t fun j hj hl=>ht j hj (getD_set_true hl);cases hod:o.dst with
    | none=>exact h2
    | some d' =>
     rw [getD_put,if_neg (fun h=>h1 (by rw [hod,h.1]))];exact h2
  · intro j hj hl hal;by_cases hji:j=i
    · subst hji;exact ⟨u,hu,hown⟩
    · have hl':=hback j hji hl
      obtain ⟨v,hv,hvd⟩:=inv.facts j hj hl' (by
       intro k hck;have:=hal k hck;by_cases hlk:listed.getD k false=true
       · rw [getD_set_true hlk] at this; cases this
       · simpa using hlk)
      exact ⟨v,hkeep j hj hji hl' hal v hv,fun d hd=>by rw [hslot j hj hji d hd]; exact hvd d hd⟩
  · intro j c hj hl hty d hd;by_cases hji:j=i
    · subst hji;rw [hty] at hu;rw [hown d hd];exact hu
    · rw [hslot j hj hji d hd];exact inv.values j c hj (hback j hji hl) hty d hd
 -- the guard
 have hwant:∀ b,wants hs o=some b→Region.wanted o (yielded ops a.tmps)=b:=by
  intro b hb;unfold wants at hb;unfold Region.wanted;cases hg:o.guard with
  | none =>
   rw [hg] at hb;simpa using hb
  | some g =>
   obtain ⟨j,b'⟩:=g;rw [hg] at hb;simp only at hb ⊢;have hgo:=hk.grd;unfold guardOk at hgo;rw [hg] at hgo;simp only [Bool.and_eq_true,List.contains_iff_mem] at hgo;obtain ⟨hjp,hds⟩:=hgo;obtain ⟨d,hd⟩:=Option.isSome_iff_exists.1 hds;have hjn:j<hs.length:=by have:=hk.lt j hjp; omega
   cases hty:(hdAt hs j).ty with
   | pr p=>rw [hty] at hb; cases hb
   | eq c =>
    rw [hty] at hb;cases c with
    | bool c =>
     simp only [Option.some.injEq] at hb;have hv:=inv.values j _ hjn (hpr j hjp) hty d hd;have hy:yielded ops a.tmps j=some c:=by
      unfold yielded;have hd':(ops[j]?).bind (·.dst)=some d:=hd;rw [hd'];have:a.tmps[d]?=some (.bool c):=by
       rw [Array.getD_eq_getD_getElem?] at hv;cases hx:a.tmps[d]? with
       | none=>rw [hx] at hv; cases hv
       | some y=>rw [hx] at hv; simpa using hv
      simp [this]
     rw [hy,←hb];cases c <;> cases b' <;> rfl
    | _=>cases hb
 unfold wpOp;rw [ho];simp only;unfold obl at hob;cases hw:wants hs o with
 | none=>rw [hw] at hob; exact hob.elim
 | some b =>
  rw [hw] at hob;rw [hwant b hw];cases b with
  | true =>
   rw [if_pos rfl];left;refine wp_of_tyUpon4 (hob a.eval w (plain_eval a) inv.world hopn) fun u w' hr hv=>hK o u w' ho (Or.inl hr) (fun _=>hv) ?_;unfold resultOf at hr;cases hty:(hdAt hs i).ty with
   | eq c =>
    rw [hty] at hr;obtain ⟨rfl,rfl⟩:=hr;exact hnew u w' inv.world (by rw [hty]; rfl) fun _ _ _ _ _ v hv=>hv
   | pr p =>
    rw [hty] at hr;simp only at hr;by_cases hmu:(hdAt hs i).mu=true
    · rw [if_pos hmu] at hr;obtain ⟨hC',hkp,hp⟩:=hr;refine hnew u w' hC' (by rw [hty]; exact hp) fun j hj hne hl hal v hv => ?_;cases htj:(hdAt hs j).ty with
      | eq c=>rw [htj] at hv; exact hv
      | pr p' =>
       rw [←htj];refine keeps_mem hkp j (by simpa using hj) ?_ v hv;have c1:i ∉ anc ops 3 (predsAt ops j):=fun h=>hnot (anc_listed inv.closed 3 _ (inv.closed j hl) i h);have c2:∀ k,(hdAt hs j).cons=some k→k≠i∧k ∉ anc ops 3 (preds o):=by
        intro k hck;have hk':=hal k hck;refine ⟨?_,fun hm => ?_⟩
        · rintro rfl;rw [hset] at hk';cases hk'
        · rw [getD_set_true (anc_listed inv.closed 3 _ hpr k hm)] at hk';cases hk'
       unfold mustKeep;rw [htj];cases hc:(hdAt hs j).cons with
       | none=>simp [hne,c1]
       | some k =>
        obtain ⟨d1,d2⟩:=c2 k hc;simp [hne,c1,d1,d2]
    · rw [if_neg hmu] at hr
      exact hnew u w' (hCe w w' hr.1 inv.world) (by rw [hty]; exact hr.2) fun j hj _ _ _ v hv =>
       stab_ok (stabs_mem hst _ (by rw [hdAt,List.getD_eq_getElem?_getD,List.getElem?_eq_getElem hj]; simp)) hr.1 hv
  | false =>
   simp only [Bool.false_eq_true,if_false];exact hK o undef w ho (Or.inr rfl) (fun hwt=>by rw [hwant false hw] at hwt; cases hwt) (hnew undef w inv.world (hob w inv.world) fun _ _ _ _ _ v hv=>hv)
end
section
variable {P:Program} {Q:Exit→Act→World→Prop}
theorem wp_region_typed4 {id:Nat} {a:Act} {w:World} {l:List Oper} (hm:P.follows .mixedOrders=true) (C:World→Prop) (hs:List Hd)
 (hok:regionOk2 l.toArray (hs.map (·.cons)) a.tmps.size=true)
 (hCe:∀ w w',Ext w w'→C w→C w') (hC:C w.drew) (hst:stabs hs)
 (hobl:obls P C l.toArray hs a 0 l hs) (J:Array Bool→Act→World→Prop) (hJ0:J (Array.replicate l.toArray.size false) a w.drew)
 (hJ:∀ listed a' w' i o u w2,RInv l.toArray hs a C listed a' w'→J listed a' w'→i<hs.length→l.toArray[i]?=some o→listed.getD i false=false→(∀ p∈preds o,listed.getD p false=true)→(resultOf C l.toArray hs i o (hdAt hs i) w' u w2∨w2=w')→StepOf P l.toArray o a' w' u w2→RInv l.toArray hs a C (listed.setIfInBounds i true) (a'.put o.dst u) w2→(∀ j,j<hs.length→j≠i→slotOf l.toArray j (a'.put o.dst u)=slotOf l.toArray j a')→(∀ d,o.dst=some d→slotOf l.toArray i (a'.put o.dst u)=u)→J (listed.setIfInBounds i true) (a'.put o.dst u) w2)
 (hend:∀ w',C w'→After w' (fun a'=>J ((Array.range l.toArray.size).map (fun j=>decide (j<hs.length))) a' w'→wpList P l.toArray Q (l.drop hs.length) a' w') l hs a):(Code.region id l.toArray true).wp P Q a w:=by
 refine wp_region_any hm ?_;unfold regionOk2 at hok;simp only [Bool.and_eq_true,List.length_map,decide_eq_true_eq] at hok;obtain ⟨⟨⟨hn,hall⟩,hcons⟩,hseq⟩:=hok;have hsz:l.toArray.size=l.length:=by simp
 have hall':∀ i o,l.toArray[i]?=some o→(i<hs.length→HeadFacts l.toArray (hs.map (·.cons)) hs.length a.tmps.size i o)∧(hs.length≤i→tailOk2 l.toArray hs.length i o=true):=by
  intro i o ho;have hi:i<l.toArray.size:=(Array.getElem?_eq_some_iff.1 ho).1;have:=List.all_eq_true.1 hall i (by simpa using hi);rw [ho] at this;simp only at this;refine ⟨fun h => ?_,fun h => ?_⟩
  · rw [if_pos h] at this;exact headOk_spec this
  · rw [if_neg (by omega)] at this;exact this
 have key:∀ m listed a' w',unl listed hs.length=m→RInv l.toArray hs a C listed a' w'→J listed a' w'→wpAny P .any l.toArray Q (m+(l.toArray.size-hs.length)) listed a' w':=by
  intro m
  induction m with
  | zero =>
   intro listed a' w' hu inv alc;have hheads:=unl_zero hu;have hlist:listed=(Array.range l.toArray.size).map (fun j=>decide (j<hs.length)):=by
    apply Array.ext
    · rw [inv.size]; simp
    · intro i h1 h2;simp only [Array.getElem_map,Array.getElem_range];by_cases hi:i<hs.length
      · have:=hheads i hi;simp [h1] at this;simp [this,hi]
      · have:=inv.tailF i (by omega);simp [h1] at this;simp [this,hi]
   -- the frame
   have ha:a'=putAll (fun j=>match dstAt l.toArray j with | some d=>a'.tmps.getD d undef | none=>Classical.epsilon (fun v=>(hdAt hs j).ty.ok v w')) 0 l hs a:=by
    apply act_ext
    · rw [putAll_defers]; exact inv.defers
    · rw [putAll_size]; exact inv.tmps
    · intro t;by_cases hex:∃ j o,j<hs.length∧l[j]?=some o∧o.dst=some t
      · obtain ⟨j,o,hj,ho,hd⟩:=hex;have hoA:l.toArray[j]?=some o:=by simpa using ho
        have hf:=(hall' j o hoA).1 hj
        rw [putAll_own hs l 0 a j o hj ho hd (hf.dst t hd) (by
         intro k' o' hk' ho' hd';have hoA':l.toArray[k']?=some o':=by simpa using ho'
         by_cases hkj:k'=j
         · exact hkj
         · have:=hf.apart k' hk' hkj (by rw [dstAt_some hoA',hd',hd]);rw [hd] at this
           cases this)]
        rw [Nat.zero_add,dstAt_some hoA,hd]
      · rw [putAll_other hs l 0 a (fun k o hk ho hd=>hex ⟨k,o,hk,ho,hd⟩)];refine inv.frame t fun j hj _ hd=>hex ?_;unfold dstAt at hd;cases ho:l.toArray[j]? with
        | none=>rw [ho] at hd; cases hd
        | some o=>rw [ho] at hd; exact ⟨j,o,hj,by simpa using ho,hd⟩
   have hfin:=after_inst (vs:=fun j=>match dstAt l.toArray j with | some d=>a'.tmps.getD d undef | none=>Classical.epsilon (fun v=>(hdAt hs j).ty.ok v w')) hs l 0 a (hend w' inv.world)
    (by
     intro k hk c hc;rw [Nat.zero_add];cases hd:dstAt l.toArray k with
     | some d=>exact inv.values k c hk (hheads k hk) hc d hd
     | none =>
      have:(hdAt hs k).ty.ok (Classical.epsilon (fun v=>(hdAt hs k).ty.ok v w')) w':=by
       apply Classical.epsilon_spec (p:=fun v=>(hdAt hs k).ty.ok v w');refine ⟨c, ?_⟩;rw [show (hdAt hs k).ty = .eq c from hc];rfl
      have h2:(hdAt hs k).ty = .eq c:=hc;rw [h2] at this;simp only [Ty.ok] at this;rw [h2]
      exact this)
    (by
     intro k hk p hp hc;rw [Nat.zero_add]
     obtain ⟨v,hv,hvd⟩:=inv.facts k hk (hheads k hk) (by
      intro k' hck;have h1:(hdAt hs k).cons=none:=hc;rw [h1] at hck
      cases hck)
     have h2:(hdAt hs k).ty = .pr p:=hp;cases hd:dstAt l.toArray k with
     | some d =>
      simp only;rw [hvd d hd];rw [h2] at hv;exact hv
     | none =>
      have:(hdAt hs k).ty.ok (Classical.epsilon (fun v=>(hdAt hs k).ty.ok v w')) w':=Classical.epsilon_spec (p:=fun v=>(hdAt hs k).ty.ok v w') ⟨v,hv⟩;simp only;rw [h2] at this ⊢
      exact this)
   rw [←ha] at hfin;rw [Nat.zero_add];have hl:(l.drop hs.length).length=l.toArray.size-hs.length:=by simp
   rw [←hl];rw [←hl,←hlist] at hseq;exact wpAny_of_seq (l.drop hs.length) hs.length listed a' w' (by intro j; simp) hseq (hfin (hlist ▸ alc))
  | succ m ih =>
   intro listed a' w' hu inv alc;rw [show m+1+(l.toArray.size-hs.length)=(m+(l.toArray.size-hs.length))+1 by omega];refine ⟨fun hempty => ?_,fun i hi => ?_⟩
   · obtain ⟨j,hj,hjf,hjk⟩:=unl_pos (listed:=listed) (n:=hs.length) (by omega);have hjl:j<l.toArray.size:=by omega
     have ho:l.toArray[j]?=some l.toArray[j]:=Array.getElem?_eq_getElem hjl;have hf:=(hall' j _ ho).1 hj
     have:j∈Region.ready .any l.toArray listed:=ready_of (by
      have:j<listed.size:=by rw [inv.size]; exact hjl
      simpa [this] using hjf) ho (fun p hp=>hjk p (hf.lt p hp))
     rw [hempty] at this;cases this
   · obtain ⟨h0,o,ho,hpr⟩:=ready_spec hi;have hil:i<listed.size:=by rw [inv.size]; exact (Array.getElem?_eq_some_iff.1 ho).1
     have hif:listed.getD i false=false:=by simpa [hil] using h0
     have hin:i<hs.length:=by
      rcases Nat.lt_or_ge i hs.length with h|h
      · exact h
      · exfalso;have ht:=(hall' i o ho).2 h;unfold tailOk2 at ht;simp only [Bool.or_eq_true,List.all_eq_true,List.mem_range,List.contains_iff_mem,List.any_eq_true,Bool.and_eq_true,decide_eq_true_eq] at ht;rcases ht with ht|⟨k,hk,hk1,_⟩
        · obtain ⟨j,hj,hjf,_⟩:=unl_pos (listed:=listed) (n:=hs.length) (by omega);rw [anc_listed inv.closed 3 (preds o) hpr j (ht j hj)] at hjf;cases hjf
        · have:=hpr k hk;rw [inv.tailF k hk1] at this;cases this
     refine step_inv4 (by simpa using hobl) hst hCe inv hi hin (fun o' ho'=>(hall' i o' ho').1 hin) fun o2 u w2 ho2 hres hval inv2 => ?_;refine ih _ _ w2 ?_ inv2 (hJ listed a' w' i o2 u w2 inv alc hin ho2 hif (by rw [ho] at ho2; simp only [Option.some.injEq] at ho2; rw [←ho2]; exact hpr) hres hval inv2 ?_ ?_);rotate_left
     · intro j hj hji;have hf:=(hall' i o2 ho2).1 hin;cases hd:o2.dst with
       | none=>rfl
       | some d =>
        unfold slotOf;cases hdj:dstAt l.toArray j with
        | none=>rfl
        | some dj =>
         simp only;rw [getD_put,if_neg];intro hh;have:=hf.apart j hj hji (by rw [hdj,hd,hh.1]);rw [hd] at this;cases this
     · intro d hd;unfold slotOf;rw [dstAt_some ho2,hd];simp only;rw [getD_put,if_pos ⟨rfl,by rw [inv.tmps]; exact (hall' i o2 ho2).1 hin |>.dst d hd⟩]
     have:=unl_set hil hif hin;omega
 have hstart:RInv l.toArray hs a C (Array.replicate l.toArray.size false) a w.drew:=by
  have hf:∀ j,(Array.replicate l.toArray.size false).getD j false=false:=fun j=>getD_replicate_false _ j;refine ⟨by simp,fun j _=>hf j,(fun j h=>by rw [hf j] at h; cases h),hC,rfl,rfl,fun _ _=>rfl,(fun j _ h=>by rw [hf j] at h; cases h),(fun j c _ h=>by rw [hf j] at h; cases h)⟩
 have hcount:unl (Array.replicate l.toArray.size false) hs.length=hs.length:=by
  have:∀ n,unl (Array.replicate l.toArray.size false) n=n:=by
   intro n
   induction n with
   | zero=>rfl
   | succ n ih=>rw [unl,ih,getD_replicate_false]; simp
  exact this _
 have:=key hs.length _ a w.drew hcount hstart hJ0
 rwa [show hs.length+(l.toArray.size-hs.length)=l.toArray.size by omega] at this
end
end Go.Proofs.YtlpgonpfjbhmfaaGreatDoor
