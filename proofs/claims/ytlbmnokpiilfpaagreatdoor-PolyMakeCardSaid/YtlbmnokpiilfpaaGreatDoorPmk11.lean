/- Part Pmk11. -/
import Derived.WalkKit
import Derived.Test.YtlbmnokpiilfpaaGreatDoorPmk7
import Derived.Test.YtlbmnokpiilfpaaGreatDoorPmk6
import Derived.Test.YtlbmnokpiilfpaaGreatDoorPmk9
set_option maxRecDepth 100000
set_option maxHeartbeats 100000000
namespace Go.Proofs.YtlbmnokpiilfpaaGreatDoor.Pl
variable {x y:Int} {a b c e:List Int} {d n:Nat} {q:Rat}
abbrev Tm:=List Int×Rat
def coef:List Tm->List Int->Rat
 | [],_=>0
 | t :: r,e=>(if t.1=e then t.2 else 0)+coef r e
theorem coef_app (a b:List Tm) (e:List Int):coef (a ++ b) e=coef a e+coef b e:=by
 induction a with
 | nil=>simp [coef]; grind
 | cons t r ih=>simp only [List.cons_append,coef,ih]; grind
theorem coef_perm {a b:List Tm} (h:a.Perm b) (e:List Int):coef a e=coef b e:=by
 induction h with
 | nil=>rfl
 | cons t _ ih=>simp only [coef,ih]
 | swap s t l=>simp only [coef]; grind
 | trans _ _ h1 h2=>rw [h1,h2]
def scl (c:Rat) (l:List Tm):List Tm:=l.map (fun t=>(t.1,c*t.2))
theorem P7 (c:Rat) (l:List Tm) (e:List Int):coef (scl c l) e=c*coef l e:=by
 induction l with
 | nil=>simp [scl,coef]
 | cons t r ih =>
  have:scl c (t :: r)=(t.1,c*t.2) :: scl c r:=rfl;rw [this];simp only [coef,ih];by_cases h:t.1=e <;> simp [h] <;> grind
def cmpI (x y:Int):Int:=if x<y then -1 else if y<x then 1 else 0
theorem cmpI_zero:cmpI x y=0<->x=y:=by unfold cmpI; split <;> (try split) <;> omega
theorem cmpI_pos:0<cmpI x y<->y<x:=by unfold cmpI; split <;> (try split) <;> omega
theorem Lt:cmpI y x = -cmpI x y:=by unfold cmpI; split <;> (try split) <;> omega
def ordR:List Int->List Int->Int
 | x :: r,y :: s=>if x=y then ordR r s else cmpI y x
 | _,_=>0
def ordE (a b:List Int):Int:=if a.sum=b.sum then ordR a.reverse b.reverse else cmpI a.sum b.sum
theorem JB:∀ a:List Int,ordR a a=0
 | []=>rfl
 | x :: r=>by simp [ordR,JB r]
theorem NS:∀ {a b:List Int},a.length=b.length->ordR a b=0->a=b
 | [],[],_,_=>rfl
 | x :: r,y :: s,hl,h=>by
  by_cases e:x=y
  · simp only [ordR,if_pos e] at h;rw [e,NS (by simpa using hl) h]
  · simp only [ordR,if_neg e] at h;exact absurd (cmpI_zero.1 h).symm e
theorem JC:∀ (a b:List Int),ordR b a = -ordR a b
 | [],[]=>by simp [ordR]
 | [],_ :: _=>by simp [ordR]
 | _ :: _,[]=>by simp [ordR]
 | x :: r,y :: s=>by
  by_cases e:x=y
  · simp only [ordR,if_pos e,if_pos e.symm]; exact JC r s
  · simp only [ordR,if_neg e,if_neg (fun h:y=x=>e h.symm)]; exact Lt
theorem H8:∀ {a b c:List Int},0<ordR a b->0<ordR b c->0<ordR a c
 | x :: r,y :: s,z :: t,h1,h2=>by
  by_cases e1:x=y
  · subst e1;by_cases e2:x=z
    · subst e2;simp only [ordR,if_true] at h1 h2 |-;exact H8 h1 h2
    · simp only [ordR,if_neg e2] at h2 |-;exact h2
  · simp only [ordR,if_neg e1] at h1;by_cases e2:y=z
    · subst e2;simp only [ordR,if_neg e1];exact h1
    · simp only [ordR,if_neg e2] at h2;have g1:=cmpI_pos.1 h1;have d:=cmpI_pos.1 h2;simp only [ordR,if_neg (show ¬ x=z by omega)];exact cmpI_pos.2 (by omega)
 | [],_,_,h1,_=>by simp [ordR] at h1
 | _ :: _,[],_,h1,_=>by simp [ordR] at h1
 | _ :: _,_ :: _,[],_,h2=>by simp [ordR] at h2
theorem ordE_self (a:List Int):ordE a a=0:=by simp [ordE,JB]
theorem ordE_eq (c:a.length=b.length) (h:ordE a b=0):a=b:=by
 unfold ordE at h;split at h
 · exact List.reverse_inj.1 (NS (by simpa using c) h)
 · rename_i d;exact absurd (cmpI_zero.1 h) d
theorem ordE_anti (a b:List Int):ordE b a = -ordE a b:=by
 unfold ordE;by_cases h:a.sum=b.sum
 · rw [if_pos h,if_pos h.symm]; exact JC _ _
 · rw [if_neg h,if_neg (fun x=>h x.symm)]; exact Lt
theorem ordE_trans (h1:0<ordE a b) (h2:0<ordE b c):0<ordE a c:=by
 unfold ordE at *
 by_cases e:a.sum=b.sum
 · rw [if_pos e] at h1;by_cases d:b.sum=c.sum
   · rw [if_pos d] at h2;rw [if_pos (e.trans d)];exact H8 h1 h2
   · rw [if_neg d] at h2;rw [if_neg (fun h=>d (e.symm.trans h)),e];exact h2
 · rw [if_neg e] at h1;have f:=cmpI_pos.1 h1;by_cases d:b.sum=c.sum
   · rw [if_neg (fun h=>e (h.trans d.symm)),<-d];exact h1
   · rw [if_neg d] at h2;have g:=cmpI_pos.1 h2;rw [if_neg (by omega)];exact cmpI_pos.2 (by omega)
structure Canon (n:Nat) (l:List Tm):Prop where
 len:∀ t∈l,t.1.length=n
 nz:∀ t∈l,t.2≠0
 desc:l.Pairwise (fun s t=>0<ordE s.1 t.1)
theorem Canon.nil (n:Nat):Canon n []:=⟨by simp,by simp,List.Pairwise.nil⟩
theorem Canon.tail {t:Tm} {r:List Tm} (h:Canon n (t :: r)):Canon n r :=
 ⟨fun s a=>h.len s (by simp [a]),fun s a=>h.nz s (by simp [a]),(List.pairwise_cons.1 h.desc).2⟩
theorem coef_absent {l:List Tm} (h:∀ t∈l,t.1≠e):coef l e=0:=by
 induction l with
 | nil=>rfl
 | cons t r ih =>
  simp only [coef,if_neg (h t (by simp)),ih (fun s a=>h s (by simp [a]))]
  grind
theorem coef_present {l:List Tm} (h:coef l e≠0):∃ t∈l,t.1=e:=by
 refine Classical.byContradiction fun a=>h (coef_absent fun t b he=>a ⟨t,b,he⟩)
theorem Canon.head {t:Tm} {r:List Tm} (h:Canon n (t :: r)):coef (t :: r) t.1=t.2:=by
 have:coef r t.1=0:=coef_absent fun s a he=>by
  have:=(List.pairwise_cons.1 h.desc).1 s a;rw [he,ordE_self] at this;omega
 simp only [coef,if_true,this]
 grind
theorem Canon.above {t:Tm} {r:List Tm} (h:Canon n (t :: r)) {e:List Int} (he:coef (t :: r) e≠0):e=t.1\/0<ordE t.1 e:=by
 obtain ⟨s,a,rfl⟩:=coef_present he;rcases List.mem_cons.1 a with rfl|a
 · exact Or.inl rfl
 · exact Or.inr ((List.pairwise_cons.1 h.desc).1 s a)
theorem canon_ext {n:Nat}:∀ {a b:List Tm},Canon n a->Canon n b->(∀ e,coef a e=coef b e)->a=b
 | [],[],_,_,_=>rfl
 | [],t :: r,_,hb,e=>by
  have h1:=hb.head;rw [<-e] at h1;exact absurd h1.symm (hb.nz t (by simp))
 | t :: r,[],ha,_,e=>by
  have h1:=ha.head;rw [e] at h1;exact absurd h1.symm (ha.nz t (by simp))
 | s :: a,t :: b,ha,hb,e=>by
  have h1:=ha.head;have h2:=hb.head;have i:coef (t :: b) s.1≠0:=by rw [<-e,h1]; exact ha.nz s (by simp)
  have j:coef (s :: a) t.1≠0:=by rw [e,h2]; exact hb.nz t (by simp)
  have f:s.1=t.1:=by
   rcases hb.above i with h|h
   · exact h
   · rcases ha.above j with d | d
     · exact d.symm
     · have:=ordE_anti s.1 t.1;omega
  have g:s.2=t.2:=by rw [<-h1,<-h2,e,f]
  have c:s=t:=Prod.ext f g;subst c
  rw [canon_ext ha.tail hb.tail (fun x=>by
   have:=e x;simp only [coef] at this
   grind)]
theorem rat_add_parts (a b:Rat) :
 (a+b).num=(a.num*((b.den/a.den.gcd b.den:Nat):Int)+b.num*((a.den/a.den.gcd b.den:Nat):Int)).tdiv (((a.num*((b.den/a.den.gcd b.den:Nat):Int)+b.num*((a.den/a.den.gcd b.den:Nat):Int)).natAbs.gcd (a.den.gcd b.den):Nat):Int) /\
 (a+b).den=(a.den/a.den.gcd b.den)*(b.den/((a.num*((b.den/a.den.gcd b.den:Nat):Int)+b.num*((a.den/a.den.gcd b.den:Nat):Int)).natAbs.gcd (a.den.gcd b.den))):=by
 have h:a+b=Rat.add a b:=rfl
 have c:∀ N:Nat,(a.den/a.den.gcd b.den)*(b.den/(N.gcd (a.den.gcd b.den)))=(a.den/a.den.gcd b.den)*b.den/(N.gcd (a.den.gcd b.den)):=fun N =>
  (Nat.mul_div_assoc _ (Nat.dvd_trans (Nat.gcd_dvd_right _ _) (Nat.gcd_dvd_right _ _))).symm
 rw [c,h,Rat.add];simp only;split
 · rename_i d;simp [d]
 · rw [Rat.maybeNormalize_eq];exact ⟨Int.divExact_eq_tdiv (Int.ofNat_dvd_left.2 (Nat.gcd_dvd_left _ _)),rfl⟩
theorem rat_eq_mk {n:Int} (a:d≠0) (b:n.natAbs.Coprime d) (h:q=mkRat n d):q.num=n/\q.den=d:=by
 rw [h,Rat.num_mkRat,Rat.den_mkRat,if_neg a,if_neg a];have h1:d.gcd n.natAbs=1:=by rw [Nat.gcd_comm]; exact b
 simp [h1]
theorem rat_num_den_zero:q.num=0<->q=0:=Rat.num_eq_zero
theorem rat_frac {n:Int} (a:d≠0):(mkRat n d).num=n.tdiv (n.natAbs.gcd d:Nat)/\(mkRat n d).den=d/(n.natAbs.gcd d):=by
 rw [Rat.num_mkRat,Rat.den_mkRat,if_neg a,if_neg a,Nat.gcd_comm];refine ⟨?_,rfl⟩;have h:((n.natAbs.gcd d:Nat):Int)∣n:=by
  have:=Nat.gcd_dvd_left n.natAbs d;exact Int.ofNat_dvd_left.2 this
 exact (Int.tdiv_eq_ediv_of_dvd h).symm
def Gi (m:List Int):Rat->List Tm->Rat
 | c,[]=>c
 | c,t :: r=>if m=t.1 then Gi m (c+t.2) r else c
def CW (m:List Int):List Tm->List Tm
 | []=>[]
 | t :: r=>if m=t.1 then CW m r else t :: r
theorem CJ (m:List Int):∀ l:List Tm,(CW m l).length<=l.length
 | []=>lrf _
 | t :: r=>by
  unfold CW;split
  · have:=CJ m r; simp; omega
  · exact lrf _
def grp (l:List Tm):List Tm :=
 match l with
 | []=>[]
 | t :: r=>(if Gi t.1 t.2 r=0 then [] else [(t.1,Gi t.1 t.2 r)]) ++ grp (CW t.1 r)
termination_by l.length
decreasing_by
 have:=CJ t.1 r;simp;omega
theorem DJ:grp []=[]:=by rw [grp]
theorem Fv (t:Tm) (r:List Tm):grp (t :: r)=(if Gi t.1 t.2 r=0 then [] else [(t.1,Gi t.1 t.2 r)]) ++ grp (CW t.1 r):=by rw [grp]
theorem Lu (m:List Int):∀ (c:Rat) (l:List Tm) (e:List Int),(if m=e then c else 0)+coef l e=(if m=e then Gi m c l else 0)+coef (CW m l) e
 | c,[],e=>rfl
 | c,t :: r,e=>by
  by_cases h:m=t.1
  · simp only [coef,Gi,CW,if_pos h];rw [<-Lu m (c+t.2) r e,<-h];by_cases he:m=e <;> simp [he] <;> grind
  · simp only [Gi,CW,if_neg h]
theorem Lv:∀ (n:Nat) (l:List Tm),l.length<=n->∀ e,coef (grp l) e=coef l e
 | 0,l,h,e=>by
  have:l=[]:=List.eq_nil_of_length_eq_zero (by omega);subst this; rw [DJ]
 | n+1,[],_,e=>by rw [DJ]
 | n+1,t :: r,h,e=>by
  have h1:=CJ t.1 r;rw [Fv,coef_app,Lv n (CW t.1 r) (by simp at h; omega) e];have h2:=Lu t.1 t.2 r e;simp only [coef];rw [h2];congr 1;split
  · rename_i h0; rw [h0]; simp [coef]
  · simp only [coef]; grind
theorem H9 (m:List Int):∀ (l:List Tm) (t:Tm),t∈CW m l->t∈l
 | [],t,h=>h
 | s :: r,t,h=>by
  unfold CW at h;split at h
  · exact List.mem_cons_of_mem _ (H9 m r t h)
  · exact h
theorem NV:∀ (n:Nat) (l:List Tm),l.length<=n->∀ t∈grp l,∃ s∈l,s.1=t.1
 | 0,l,h,t,ht=>by
  have:l=[]:=List.eq_nil_of_length_eq_zero (by omega);subst this; rw [DJ] at ht; exact absurd ht (by simp)
 | n+1,[],_,t,ht=>by rw [DJ] at ht; exact absurd ht (by simp)
 | n+1,s :: r,h,t,ht=>by
  have h1:=CJ s.1 r;rw [Fv] at ht;rcases List.mem_append.1 ht with ht|ht
  · split at ht
    · exact absurd ht (by simp)
    · simp only [List.mem_singleton] at ht;subst ht;exact ⟨s,by simp,rfl⟩
  · obtain ⟨b,a,e⟩:=NV n (CW s.1 r) (by simp at h; omega) t ht;exact ⟨b,List.mem_cons_of_mem _ (H9 _ _ _ a),e⟩
def desc (l:List Tm):Prop:=l.Pairwise (fun s t=>0<=ordE s.1 t.1)
theorem JD (m:List Int):∀ l:List Tm,desc l->desc (CW m l)
 | [],h=>h
 | t :: r,h=>by
  unfold CW;split
  · exact JD m r (List.pairwise_cons.1 h).2
  · exact h
theorem Ia {n:Nat} (m:List Int) (b:m.length=n):∀ l:List Tm,(∀ t∈l,t.1.length=n)->(∀ t∈l,0<=ordE m t.1)->desc l->∀ t∈CW m l,0<ordE m t.1
 | [],_,_,_,t,ht=>absurd ht (by simp [CW])
 | s :: r,hl,h,hd,t,ht=>by
  unfold CW at ht;by_cases e:m=s.1
  · rw [if_pos e] at ht;exact Ia m b r (fun x a=>hl x (by simp [a])) (fun x a=>h x (by simp [a])) (List.pairwise_cons.1 hd).2 t ht
  · rw [if_neg e] at ht;have h0:0<ordE m s.1:=by
     have h1:=h s (by simp);have h2:ordE m s.1≠0:=fun h0=>e (ordE_eq (by rw [b,hl s (by simp)]) h0);omega
    rcases List.mem_cons.1 ht with rfl|ht
    · exact h0
    · have h3:=(List.pairwise_cons.1 hd).1 t ht;by_cases h4:ordE s.1 t.1=0
      · rw [<-ordE_eq (by rw [hl s (by simp),hl t (by simp [ht])]) h4];exact h0
      · exact ordE_trans h0 (by omega)
theorem JE {n:Nat}:∀ (k:Nat) (l:List Tm),l.length<=k->(∀ t∈l,t.1.length=n)->desc l->Canon n (grp l)
 | 0,l,h,_,_=>by
  have:l=[]:=List.eq_nil_of_length_eq_zero (by omega);subst this; rw [DJ]; exact Canon.nil n
 | k+1,[],_,_,_=>by rw [DJ]; exact Canon.nil n
 | k+1,t :: r,h,hl,hd=>by
  have h1:=CJ t.1 r;have b:=List.pairwise_cons.1 hd;have d:∀ s∈CW t.1 r,s.1.length=n:=fun s a=>hl s (List.mem_cons_of_mem _ (H9 _ _ _ a));have c:=JE k (CW t.1 r) (by simp at h; omega) d (JD t.1 r b.2);rw [Fv];split
  · exact c
  · rename_i g;refine ⟨?_, ?_, ?_⟩
    · intro s a;rcases List.mem_cons.1 a with rfl|a
      · exact hl t (by simp)
      · exact c.len s a
    · intro s a;rcases List.mem_cons.1 a with rfl|a
      · exact g
      · exact c.nz s a
    · refine List.pairwise_cons.2 ⟨fun s a => ?_,c.desc⟩;obtain ⟨j,f,e⟩:=NV _ _ (lrf _) s a;rw [<-e];exact Ia t.1 (hl t (by simp)) r (fun x i=>hl x (by simp [i])) b.1 b.2 j f
theorem canon_of_sorted {l:List Tm} (c:∀ t∈l,t.1.length=n) (f:∀ t∈l,t.2≠0) (g:desc l) (i:(l.map (·.1)).Nodup):Canon n l:=by
 refine ⟨c,f, ?_⟩
 induction l with
 | nil=>exact List.Pairwise.nil
 | cons t r ih =>
  have a:=List.pairwise_cons.1 g;have b:=List.nodup_cons.1 i;refine List.pairwise_cons.2 ⟨fun s d => ?_,ih (fun x e=>c x (by simp [e])) (fun x e=>f x (by simp [e])) a.2 b.2⟩;have h1:=a.1 s d
  have h2:ordE t.1 s.1≠0:=fun h0=>b.1 (by
   show t.1∈_;rw [ordE_eq (by rw [c t (by simp),c s (by simp [d])]) h0]
   exact List.mem_map_of_mem d)
  omega
end Go.Proofs.YtlbmnokpiilfpaaGreatDoor.Pl
namespace Go.Proofs.YtlbmnokpiilfpaaGreatDoor.Pl
variable {e k:List Int} {seen:List Nat} {a b d n:Nat} {p q:Rat}
def posK {α:Type} (k:List Int):Nat->List (List Int×α)->Option (Nat×α)
 | _,[]=>none
 | i,(k',v) :: r=>if k=k' then some (i,v) else posK k (i+1) r
def getK {α:Type} (z:α) (l:List (List Int×α)) (k:List Int):α:=((posK k 0 l).map (·.2)).getD z
def putK {α:Type} (l:List (List Int×α)) (k:List Int) (v:α):List (List Int×α) :=
 match posK k 0 l with
 | some (i,_)=>l.set i (k,v)
 | none=>l ++ [(k,v)]
theorem Gj {a:Type} (k:List Int):∀ (l:List (List Int×a)) (i:Nat),posK k (i+1) l=(posK k i l).map (fun p=>(p.1+1,p.2))
 | [],_=>rfl
 | (k',v) :: r,i=>by
  unfold posK;by_cases h:k=k'
  · simp [h]
  · simp only [if_neg h]; exact Gj k r (i+1)
theorem Gk {b:Type} (z:b) (a:List Int) (v:b) (r:List (List Int×b)) (k:List Int):getK z ((a,v) :: r) k=if k=a then v else getK z r k:=by
 unfold getK;rw [posK];by_cases h:k=a
 · simp [h]
 · simp only [if_neg h];rw [Gj];cases posK k 0 r <;> rfl
theorem Lw {a:Type} (k:List Int) (v:a):putK [] k v=[(k,v)]:=rfl
theorem EJ {b:Type} (a:List Int) (x:b) (r:List (List Int×b)) (k:List Int) (v:b):putK ((a,x) :: r) k v=if k=a then (k,v) :: r else (a,x) :: putK r k v:=by
 unfold putK;rw [posK];by_cases h:k=a
 · simp [h]
 · simp only [if_neg h];rw [Gj];cases hp:posK k 0 r with
   | none=>simp
   | some p=>obtain ⟨i,y⟩:=p; simp
theorem putK_length {a:Type} (k:List Int) (v:a):∀ (l:List (List Int×a)),(putK l k v).length<=l.length+1
 | []=>by simp [Lw]
 | (k',x) :: r=>by
  rw [EJ];by_cases hk:k=k'
  · simp [hk]
  · have:=putK_length k v r;simp only [if_neg hk,List.length_cons]; omega
theorem Ib {l:List Tm} (h:e ∉ l.map (·.1)):coef l e=0:=coef_absent fun t a he=>h (by rw [<-he]; exact List.mem_map_of_mem a)
theorem getK_coef:∀ (l:List Tm) (k:List Int),(l.map (·.1)).Nodup->getK 0 l k=coef l k
 | [],k,_=>rfl
 | (k',q) :: r,k,h=>by
  simp only [List.map_cons,List.nodup_cons] at h;rw [Gk];simp only [coef];by_cases hk:k=k'
  · subst hk;rw [if_pos rfl,if_pos rfl,Ib h.1]
    grind
  · rw [if_neg hk,if_neg (fun x=>hk x.symm),getK_coef r k h.2]
    grind
theorem JF (k:List Int) (q:Rat):∀ (l:List Tm),(l.map (·.1)).Nodup->∀ e,coef (putK l k q) e=if k=e then q else coef l e
 | [],_,e=>by
  simp only [Lw,coef]
  grind
 | (k',x) :: r,h,e=>by
  simp only [List.map_cons,List.nodup_cons] at h;rw [EJ];by_cases hk:k=k'
  · subst hk;rw [if_pos rfl];simp only [coef];by_cases he:k=e
    · subst he;simp only [if_true];rw [Ib h.1]
      grind
    · simp [he]
  · rw [if_neg hk];simp only [coef,JF k q r h.2 e];by_cases he:k=e
    · subst he;rw [if_neg (fun x=>hk x.symm)]
      grind
    · simp [he]
theorem coef_step {l:List Tm} (h:(l.map (·.1)).Nodup) (e:List Int):coef (putK l k (getK 0 l k+q)) e=coef l e+coef [(k,q)] e:=by
 rw [JF k _ l h e,getK_coef l k h];simp only [coef];by_cases he:k=e
 · subst he; simp; grind
 · simp [he]; grind
def RelL {α β:Type} (R:α->β->Prop):List (List Int×α)->List (List Int×β)->Prop
 | [],[]=>True
 | (k,v) :: m,(k',q) :: l=>k=k'/\R v q/\RelL R m l
 | _,_=>False
section
variable {α β:Type} {R R':α->β->Prop}
theorem RelL.mono (h:∀ v q,R v q->R' v q):∀ {m:List (List Int×α)} {l:List (List Int×β)},RelL R m l->RelL R' m l
 | [],[],_=>trivial
 | (_,_) :: _,(_,_) :: _,hr=>⟨hr.1,h _ _ hr.2.1,RelL.mono h hr.2.2⟩
 | [],_ :: _,hr=>hr.elim
 | _ :: _,[],hr=>hr.elim
theorem RelL.len:∀ {m:List (List Int×α)} {l:List (List Int×β)},RelL R m l->m.length=l.length
 | [],[],_=>rfl
 | (_,_) :: _,(_,_) :: _,hr=>by simp [RelL.len hr.2.2]
 | [],_ :: _,hr=>hr.elim
 | _ :: _,[],hr=>hr.elim
theorem RelL.keys:∀ {m:List (List Int×α)} {l:List (List Int×β)},RelL R m l->m.map (·.1)=l.map (·.1)
 | [],[],_=>rfl
 | (_,_) :: _,(_,_) :: _,hr=>by simp [RelL.keys hr.2.2,hr.1]
 | [],_ :: _,hr=>hr.elim
 | _ :: _,[],hr=>hr.elim
theorem RelL.get {z:α} {b:β} (a:R z b) (k:List Int):∀ {m:List (List Int×α)} {l:List (List Int×β)},RelL R m l->R (getK z m k) (getK b l k)
 | [],[],_=>a
 | (k1,v) :: m,(k2,q) :: l,hr=>by
  rw [Gk,Gk,<-hr.1];by_cases h:k=k1
  · simp only [if_pos h]; exact hr.2.1
  · simp only [if_neg h]; exact RelL.get a k hr.2.2
 | [],_ :: _,hr=>hr.elim
 | _ :: _,[],hr=>hr.elim
theorem RelL.put (k:List Int) {v:α} {q:β} (a:R v q):∀ {m:List (List Int×α)} {l:List (List Int×β)},RelL R m l->RelL R (putK m k v) (putK l k q)
 | [],[],_=>⟨rfl,a,trivial⟩
 | (k1,x) :: m,(k2,y) :: l,hr=>by
  rw [EJ,EJ,<-hr.1];by_cases h:k=k1
  · simp only [if_pos h]; exact ⟨rfl,a,hr.2.2⟩
  · simp only [if_neg h]; exact ⟨rfl,hr.2.1,RelL.put k a hr.2.2⟩
 | [],_ :: _,hr=>hr.elim
 | _ :: _,[],hr=>hr.elim
theorem RelL.nth:∀ {m:List (List Int×α)} {l:List (List Int×β)},RelL R m l->∀ {i:Nat} {k:List Int} {v:α},m[i]?=some (k,v)->∃ q,l[i]?=some (k,q)/\R v q
 | [],[],_,i,k,v,h=>by simp at h
 | (k1,x) :: m,(k2,y) :: l,hr,0,k,v,h=>by
  simp only [List.getElem?_cons_zero,Option.some.injEq,Prod.mk.injEq] at h;obtain ⟨rfl,rfl⟩:=h;exact ⟨y,by simp [hr.1],hr.2.1⟩
 | (k1,x) :: m,(k2,y) :: l,hr,i+1,k,v,h=>by
  obtain ⟨q,h1,h2⟩:=RelL.nth hr.2.2 (i:=i) (by simpa using h);exact ⟨q,by simpa using h1,h2⟩
 | [],_ :: _,hr,_,_,_,_=>hr.elim
 | _ :: _,[],hr,_,_,_,_=>hr.elim
end
def picked (l:List Tm) (seen:List Nat):List Tm:=(seen.map (fun i=>l.getD i ([],0))).filter (fun t=>decide (t.2≠0))
theorem picked_snoc (l:List Tm) (a:List Nat) (i:Nat):picked l (a ++ [i])=if (l.getD i ([],0)).2=0 then picked l a else picked l a ++ [l.getD i ([],0)]:=by
 unfold picked;rw [List.map_append,List.filter_append];by_cases h:(l.getD i ([],0)).2=0
 · simp only [if_pos h,List.map_cons,List.map_nil];rw [List.filter_cons_of_neg (by simpa using h)];simp
 · simp only [if_neg h,List.map_cons,List.map_nil];rw [List.filter_cons_of_pos (by simpa using h)];simp
theorem P8 {c:Type} [BEq c] [LawfulBEq c] {l k:List c} (f:l.Nodup) (e:k.Nodup) (h:∀ a,a∈l<->a∈k):l.Perm k:=by
 rw [List.perm_iff_count];intro a;have h1:=List.nodup_iff_count.1 f a;have h2:=List.nodup_iff_count.1 e a;have h3:0<l.count a<->a∈l:=List.count_pos_iff;have h4:0<k.count a<->a∈k:=List.count_pos_iff;by_cases b:a∈l
 · have:=h3.2 b;have:=h4.2 ((h a).1 b);omega
 · have g:¬ 0<l.count a:=fun h=>b (h3.1 h);have i:¬ 0<k.count a:=fun d=>b ((h a).2 (h4.1 d));omega
theorem nodup_le {a:Type} [BEq a] [LawfulBEq a]:∀ (L M:List a),L.Nodup->(∀ x∈L,x∈M)->L.length<=M.length
 | [],_,_,_=>by simp
 | x :: L,M,hn,hs=>by
  rw [List.nodup_cons] at hn;have hx:x∈M:=hs x (by simp);have:=nodup_le L (M.erase x) hn.2 (fun y b=>(List.mem_erase_of_ne (by rintro rfl; exact hn.1 b)).2 (hs y (by simp [b])));rw [List.length_erase_of_mem hx] at this;have:0<M.length:=List.length_pos_of_mem hx;simp only [List.length_cons];omega
theorem OY (c:seen.Nodup) (b:∀ i∈seen,i<n) (a:∀ i,i<n->i∈seen):seen.Perm (List.range n):=by
 refine P8 c List.nodup_range fun i => ?_;rw [List.mem_range];exact ⟨b i,a i⟩
theorem OZ {a:Type} (l:List a) (d:a):(List.range l.length).map (fun i=>l.getD i d)=l:=by
 apply List.ext_getElem
 · simp
 · intro i h1 h2;simp [h2]
theorem picked_perm {l:List Tm} (c:seen.Nodup) (b:∀ i∈seen,i<l.length) (a:∀ i,i<l.length->i∈seen):(picked l seen).Perm (l.filter (fun t=>decide (t.2≠0))):=by
 unfold picked;refine List.Perm.filter _ ?_;have h:=(OY c b a).map (fun i=>l.getD i ([],0));rw [OZ] at h;exact h
theorem picked_len (l:List Tm) (a:List Nat):(picked l a).length<=a.length:=by
 unfold picked;refine Nat.le_trans (List.length_filter_le _ _) ?_;simp
theorem seen_len (c:seen.Nodup) (a:∀ i∈seen,i<n):seen.length<=n:=by
 have h:seen.length<=(List.range n).length:=nodup_le seen _ c (fun i b=>List.mem_range.2 (a i b));simpa using h
structure Nrm (l:List Tm):Prop where
 len:∀ t∈l,t.1.length=6
 nz:∀ t∈l,t.2≠0
 nodup:(l.map (·.1)).Nodup
theorem Nrm.nil:Nrm []:=⟨by simp,by simp,by simp⟩
theorem Nrm.perm {a b:List Tm} (h:Nrm a) (p:a.Perm b):Nrm b :=
 ⟨fun t c=>h.len t (p.mem_iff.2 c),fun t c=>h.nz t (p.mem_iff.2 c),(p.map _).nodup_iff.1 h.nodup⟩
theorem Nrm.filter {l:List Tm} (h6:∀ t∈l,t.1.length=6) (b:(l.map (·.1)).Nodup):Nrm (l.filter (fun t=>decide (t.2≠0))):=by
 refine ⟨fun t a=>h6 t (List.mem_filter.1 a).1,fun t a => ?_, ?_⟩
 · have:=(List.mem_filter.1 a).2;simpa using this
 · exact List.Nodup.sublist (List.Sublist.map _ List.filter_sublist) b
theorem coef_nz (l:List Tm) (e:List Int):coef (l.filter (fun t=>decide (t.2≠0))) e=coef l e:=by
 induction l with
 | nil=>rfl
 | cons t r ih =>
  by_cases h:t.2=0
  · rw [List.filter_cons_of_neg (by simpa using h),ih];simp only [coef,h]
    grind
  · rw [List.filter_cons_of_pos (by simpa using h)];simp only [coef,ih]
def RB (b:Nat) (q:Rat):Prop:=q.num.natAbs<P2 b/\q.den<P2 b
theorem RB.mono (h:RB a q) (c:a<=b):RB b q:=⟨Ah h.1 c,Ah h.2 c⟩
theorem RB.zero (h:1<=b):RB b 0:=⟨Lf b,Ah (a:=1) (by decide) h⟩
theorem mkRat_le {n:Int} (a:d≠0):(mkRat n d).num.natAbs<=n.natAbs/\(mkRat n d).den<=d:=by
 obtain ⟨h1,h2⟩:=rat_frac (n:=n) a;rw [h1,h2];refine ⟨?_,Nat.div_le_self _ _⟩;rw [Int.natAbs_tdiv];exact Nat.div_le_self _ _
theorem RB.add (hp:RB a p) (c:RB b q):RB (a+b+1) (p+q):=by
 have h:p+q=mkRat (p.num*q.den+q.num*p.den) (p.den*q.den):=Rat.add_def' p q;obtain ⟨h1,h2⟩:=mkRat_le (n:=p.num*q.den+q.num*p.den) (d:=p.den*q.den) (Nat.mul_ne_zero p.den_nz q.den_nz);rw [h];constructor
 · refine Nat.lt_of_le_of_lt h1 ?_;have e:(p.num*(q.den:Int)).natAbs<P2 (a+b):=by rw [Int.natAbs_mul]; exact B9 hp.1 c.2
   have f:(q.num*(p.den:Int)).natAbs<P2 (a+b):=by rw [Int.natAbs_mul,Nat.add_comm]; exact B9 c.1 hp.2
   exact Nat.lt_of_le_of_lt (Int.natAbs_add_le _ _) (I8 e f)
 · exact Ah (Nat.lt_of_le_of_lt h2 (B9 hp.2 c.2)) (by omega)
theorem RB.neg (hp:RB a p):RB a (-p):=⟨by rw [show (-p).num = -p.num from rfl,Int.natAbs_neg]; exact hp.1,hp.2⟩
theorem RB.coef {b:Nat} (a:1<=b) (e:List Int):∀ {l:List Tm},(∀ t∈l,RB b t.2)->RB (l.length*(b+1)+1) (coef l e)
 | [],_=>RB.zero (by omega)
 | t :: r,h=>by
  have h1:RB b (if t.1=e then t.2 else 0):=by
   split
   · exact h t (by simp)
   · exact RB.zero a
  have h2:=RB.add h1 (RB.coef a e (l:=r) (fun s c=>h s (by simp [c])));refine h2.mono ?_;simp only [List.length_cons,Nat.add_mul];omega
end Go.Proofs.YtlbmnokpiilfpaaGreatDoor.Pl
namespace Go.Proofs.YtlbmnokpiilfpaaGreatDoor
open Go Go.RowKit
variable {a a2:Act} {AL:List Nat} {l:List Oper} {i j:Nat} {o:Oper} {w w2:World}
def TS (l:List Oper) (AL:List Nat) (a:Act):Prop:=∀ i∈AL,∀ j∈AL,i≠j->AK l.toArray i a≠AK l.toArray j a
structure Fd (l:List Oper) (AL:List Nat) (listed:Array Bool) (a:Act) (w:World):Prop where
 ptr:∀ j∈AL,listed.getD j false=true->∃ g,AK l.toArray j a = .pointer (some ⟨g,0,none⟩)/\g<w.heap.size
 ne:∀ i∈AL,∀ j∈AL,i≠j->listed.getD i false=true->listed.getD j false=true->AK l.toArray i a≠AK l.toArray j a
theorem Fd.dist {listed:Array Bool} (h:Fd l AL listed a w) (e:∀ i∈AL,listed.getD i false=true):TS l AL a :=
 fun i c j d b=>h.ne i c j d b (e i c) (e j d)
theorem Fd.start (l:List Oper) (b:List Nat) (a:Act) (w:World):Fd l b (Array.replicate l.toArray.size false) a w:=by
 refine ⟨fun j _ h => ?_,fun i _ j _ _ h => ?_⟩
 · rw [getD_replicate_false] at h; cases h
 · rw [getD_replicate_false] at h; cases h
theorem Fd.step {listed:Array Bool} (h:Fd l AL listed a w) {i:Nat} {o:Oper} (_ho:l.toArray[i]?=some o) (F:listed.getD i false=false) (E:Ext w w2)
 (x:∀ j C,j∈AL->l.toArray[j]?=some C->j≠i->AK l.toArray j a2=AK l.toArray j a)
 (m:i∈AL->∃ g,AK l.toArray i a2 = .pointer (some ⟨g,0,none⟩)/\w.heap.size<=g/\g<w2.heap.size):Fd l AL (listed.setIfInBounds i true) a2 w2:=by
 have f:∀ j,j≠i->(listed.setIfInBounds i true).getD j false=true->listed.getD j false=true:=by
  intro j d q;have c:¬ i=j:=fun e=>d e.symm;rw [Array.getD_eq_getD_getElem?,Array.getElem?_setIfInBounds] at q;rw [Array.getD_eq_getD_getElem?];rw [if_neg c] at q;exact q
 have B:∀ j∈AL,j≠i->AK l.toArray j a2=AK l.toArray j a\/l.toArray[j]?=none:=by
  intro j d c;cases A:l.toArray[j]? with
  | none=>exact Or.inr rfl
  | some C=>exact Or.inl (x j C d A c)
 have y:∀ j (b:Act),l.toArray[j]?=none->AK l.toArray j b=undef:=by
  intro j b G;unfold AK A1;rw [G];rfl
 have n:∀ j∈AL,j≠i->AK l.toArray j a2=AK l.toArray j a:=by
  intro j d c;rcases B j d c with h1|h1
  · exact h1
  · rw [y j _ h1,y j _ h1]
 have r:∀ j∈AL,j≠i->(listed.setIfInBounds i true).getD j false=true->∃ g,AK l.toArray j a2 = .pointer (some ⟨g,0,none⟩)/\g<w.heap.size:=by
  intro j d c q;obtain ⟨g,h1,h2⟩:=h.ptr j d (f j c q);exact ⟨g,by rw [n j d c,h1],h2⟩
 refine ⟨fun j d q => ?_,fun j d k z v s t => ?_⟩
 · by_cases c:j=i
   · subst c;obtain ⟨g,h1,_,h3⟩:=m d;exact ⟨g,h1,h3⟩
   · obtain ⟨g,h1,h2⟩:=r j d c q;exact ⟨g,h1,Nat.lt_of_lt_of_le h2 E.size⟩
 · by_cases c:j=i
   · subst c;obtain ⟨g,h1,h2,_⟩:=m d;obtain ⟨D,h3,h4⟩:=r k z (fun e=>v e.symm) t;rw [h1,h3];simp only [ne_eq,Value.pointer.injEq,Option.some.injEq,Addr.mk.injEq,and_true];omega
   · by_cases p:k=i
     · subst p;obtain ⟨g,h1,h2,_⟩:=m z;obtain ⟨D,h3,h4⟩:=r j d c s;rw [h1,h3];simp only [ne_eq,Value.pointer.injEq,Option.some.injEq,Addr.mk.injEq,and_true];omega
     · rw [n j d c,n k z p];exact h.ne j d k z v (f j c s) (f k p t)
section
variable {P:Program} {Q:Exit->Act->World->Prop}
end
section
variable {P:Program} {ops:Array Oper} {hs:List Hd} {a0:Act} {C:World->Prop} {Q:Exit->Act->World->Prop}
end
section
variable {P:Program} {Q:Exit->Act->World->Prop}
end
def P9 (P:Program) (ops:Array Oper) (o:Oper) (a:Act) (w:World) (u:Value) (w':World):Prop :=
 Region.wanted o (yielded ops a.tmps)=true->match (execOp a.eval o).run P w with | .ok (.value v) wv=>u=v/\w'=wv | .ok .skip wv=>w'=wv | _=>True
section
variable {P:Program} {Q:Exit->Act->World->Prop}
theorem Je {R:Value->World->Prop} {K:Act->World->Prop} (h:Fk P R ((execOp a.eval o).run P w))
 (c:∀ u b,R u b->(match (execOp a.eval o).run P w with | .ok (.value v) wv=>u=v/\b=wv | .ok .skip wv=>b=wv | _=>True)->K (a.put o.dst u) b):o.wp P a w K Q:=by
 unfold Oper.wp;generalize (execOp a.eval o).run P w=r at *
 cases r with
 | ok n b =>
  cases n <;> simp only [Fk] at h <;> simp only [Oper.upon]
  case value u=>exact c u b h ⟨rfl,rfl⟩
  case skip=>exact c undef b h rfl
  case enter f args=>exact h.mono fun e d ⟨u,he,g⟩=>by subst he; exact c u d g trivial
 | halt x b=>simp only [Fk] at h
end
section
variable {P:Program} {ops:Array Oper} {hs:List Hd} {a0:Act} {C:World->Prop} {Q:Exit->Act->World->Prop}
theorem O0 (ac:KC P C ops hs a0 0 ops.toList hs) (ak:FH hs) (af:∀ w q,Ext w q->C w->C q) {listed:Array Bool} {a:Act} {w:World}
 (e:Ha ops hs a0 C listed a w) {i:Nat} (hi:i∈Region.ready .any ops listed) (a5:i<hs.length)
 (aj:∀ o,ops[i]?=some o->DC ops (hs.map (·.cons)) hs.length a0.tmps.size i o) {K:Act->World->Prop}
 (hK:∀ o u q,ops[i]?=some o->(Dz C ops hs i o (AD hs i) w u q\/q=w)->P9 P ops o a w u q->Ha ops hs a0 C (listed.setIfInBounds i true) (a.put o.dst u) q->K (a.put o.dst u) q):wpOp P ops Q i K a w:=by
 obtain ⟨h0,o,T,V⟩:=D0 hi;have Z:=aj o T;have a4:i<listed.size:=by
  rw [e.size];exact (Array.getElem?_eq_some_iff.1 T).1
 have a3:listed.getD i false=false:=by
  simpa [a4] using h0
 have A:listed.getD i false≠true:=by rw [a3]; simp
 have X:(listed.setIfInBounds i true).getD i false=true:=by simp [a4]
 have E:obl P C ops hs a0 i o (AD hs i):=by
  have:=LU hs ops.toList 0 ac i o (by simpa using T) a5;simpa [AD] using this
 -- the operands
 have ad:B0 ops hs a0 o a.eval w o.op.operands.toList:=by
  refine IB fun x hx => ?_;cases x with
  | tmp t =>
   have a9:t∈Dh ops o:=by
    unfold Dh M4;rw [List.mem_append];left;rw [List.mem_filterMap];exact ⟨_,hx,rfl⟩
   simp only [Jp];cases a8:LS ops o t with
   | none =>
    simp only [Act.eval];refine e.frame t fun j n N r => ?_;rcases Z.look t a9 j n r with h|h|h
    · subst h; exact A N
    · exact IA a8 h r
    · exact A (e.closed j N i h)
   | some j =>
    obtain ⟨B,Y⟩:=Iz a8;have I:j<hs.length:=by have:=Z.lt j B; omega
    have a6:=V j B;simp only;cases f:(AD hs j).ty with
    | eq c=>exact e.values j c I a6 f t Y
    | pr p =>
     obtain ⟨v,m,a2⟩:=e.facts j I a6 (by
      intro k H;have:=Z.cons j B k (by rw [LW I]; exact H);rcases this with h|h|h
      · subst h; exact a3
      · by_cases J:listed.getD k false=true
        · exact absurd (e.closed k J i h) A
        · simpa using J
      · exact absurd Y (h t a9))
     rw [f] at m;exact ⟨v,a2 t Y,m⟩
  | _=>trivial
 -- behind the operation
 have z:∀ u q,C q->(AD hs i).ty.ok u q ->
  (∀ j,j<hs.length->j≠i->listed.getD j false=true->(∀ k,(AD hs j).cons=some k->(listed.setIfInBounds i true).getD k false=false)->∀ v,(AD hs j).ty.ok v w->(AD hs j).ty.ok v q) ->
  Ha ops hs a0 C (listed.setIfInBounds i true) (a.put o.dst u) q:=by
  intro u q hC hu ab;have L:∀ j,j<hs.length->j≠i->∀ d,A1 ops j=some d->(a.put o.dst u).tmps.getD d undef=a.tmps.getD d undef:=by
   intro j n D d r;cases U:o.dst with
   | none=>rfl
   | some d' =>
    rw [B3];have:d'≠d:=by
     rintro rfl;have:=Z.apart j n D (by rw [r,U]);rw [U] at this;cases this
    rw [if_neg (fun h=>this h.1)]
  have W:∀ d,A1 ops i=some d->(a.put o.dst u).tmps.getD d undef=u:=by
   intro d r;rw [Bw T] at r;rw [r,B3,if_pos ⟨rfl,by rw [e.tmps]; exact Z.dst d r⟩]
  have s:∀ j,j≠i->(listed.setIfInBounds i true).getD j false=true->listed.getD j false=true:=by
   intro j D h
   rwa [getD_set_ne false (Ne.symm D)] at h
  refine ⟨by rw [Array.size_setIfInBounds]; exact e.size, ?_, ?_,hC,by rw [Fl]; exact e.defers,by rw [FJ]; exact e.tmps, ?_, ?_, ?_⟩
  · intro j n;rw [getD_set_ne false (by omega)];exact e.tailF j n
  · intro j n p hp;by_cases l:j=i
    · subst l;rw [D4 T] at hp;exact getD_set_true (V p hp)
    · exact getD_set_true (e.closed j (s j l n) p hp)
  · intro t ht;have h1:o.dst≠some t:=by
     have:=ht i a5 X
     rwa [Bw T] at this
    have h2:a.tmps.getD t undef=a0.tmps.getD t undef:=e.frame t fun j n N=>ht j n (getD_set_true N);cases U:o.dst with
    | none=>exact h2
    | some d' =>
     rw [B3,if_neg (fun h=>h1 (by rw [U,h.1]))];exact h2
  · intro j n N O;by_cases l:j=i
    · subst l;exact ⟨u,hu,W⟩
    · have a7:=s j l N
      obtain ⟨v,m,a2⟩:=e.facts j n a7 (by
       intro k H;have:=O k H;by_cases J:listed.getD k false=true
       · rw [getD_set_true J] at this; cases this
       · simpa using J)
      exact ⟨v,ab j n l a7 O v m,fun d r=>by rw [L j n l d r]; exact a2 d r⟩
  · intro j c n N f d r;by_cases l:j=i
    · subst l;rw [f] at hu;rw [W d r];exact hu
    · rw [L j n l d r];exact e.values j c n (s j l N) f d r
 -- the guard
 have M:∀ b,BA hs o=some b->Region.wanted o (yielded ops a.tmps)=b:=by
  intro b G;unfold BA at G;unfold Region.wanted;cases hg:o.guard with
  | none =>
   rw [hg] at G;simpa using G
  | some g =>
   obtain ⟨j,b'⟩:=g;rw [hg] at G;simp only at G |-;have R:=Z.grd;unfold Hn at R;rw [hg] at R;simp only [Bool.and_eq_true,List.contains_iff_mem] at R;obtain ⟨B,ah⟩:=R;obtain ⟨d,r⟩:=Option.isSome_iff_exists.1 ah;have I:j<hs.length:=by have:=Z.lt j B; omega
   cases f:(AD hs j).ty with
   | pr p=>rw [f] at G; cases G
   | eq c =>
    rw [f] at G;cases c with
    | bool c =>
     simp only [Option.some.injEq] at G;have m:=e.values j _ I (V j B) f d r;have hy:yielded ops a.tmps j=some c:=by
      unfold yielded;have ag:(ops[j]?).bind (·.dst)=some d:=r;rw [ag];have:a.tmps[d]?=some (.bool c):=by
       rw [Array.getD_eq_getD_getElem?] at m;cases hx:a.tmps[d]? with
       | none=>rw [hx] at m; cases m
       | some y=>rw [hx] at m; simpa using m
      simp [this]
     rw [hy,<-G];cases c <;> cases b' <;> rfl
    | _=>cases G
 unfold wpOp;rw [T];simp only;unfold obl at E;cases hw:BA hs o with
 | none=>rw [hw] at E; exact E.elim
 | some b =>
  rw [hw] at E;rw [M b hw];cases b with
  | true =>
   rw [if_pos rfl];left;refine Je (E a.eval w (Iw a) e.world ad) fun u q F m=>hK o u q T (Or.inl F) (fun _=>m) ?_;unfold Dz at F;cases f:(AD hs i).ty with
   | eq c =>
    rw [f] at F;obtain ⟨rfl,rfl⟩:=F;exact z u q e.world (by rw [f]; rfl) fun _ _ _ _ _ v m=>m
   | pr p =>
    rw [f] at F;simp only at F;by_cases hmu:(AD hs i).mu=true
    · rw [if_pos hmu] at F;obtain ⟨ae,ai,hp⟩:=F;refine z u q ae (by rw [f]; exact hp) fun j n D N O v m => ?_;cases a1:(AD hs j).ty with
      | eq c=>rw [a1] at m; exact m
      | pr p' =>
       rw [<-a1];refine Gu ai j (by simpa using n) ?_ v m;have c1:i ∉ anc ops 3 (BS ops j):=fun h=>A (B6 e.closed 3 _ (e.closed j N) i h);have c2:∀ k,(AD hs j).cons=some k->k≠i/\k ∉ anc ops 3 (Bz o):=by
        intro k H;have S:=O k H;refine ⟨?_,fun hm => ?_⟩
        · rintro rfl;rw [X] at S;cases S
        · rw [getD_set_true (B6 e.closed 3 _ V k hm)] at S;cases S
       unfold C8;rw [a1];cases hc:(AD hs j).cons with
       | none=>simp [D,c1]
       | some k =>
        obtain ⟨d1,d2⟩:=c2 k hc;simp [D,c1,d1,d2]
    · rw [if_neg hmu] at F
      exact z u q (af w q F.1 e.world) (by rw [f]; exact F.2) fun j n _ _ _ v m =>
       Og (Gv ak _ (by rw [AD,gqq,List.getElem?_eq_getElem n]; simp)) F.1 m
  | false =>
   simp only [Bool.false_eq_true,if_false];exact hK o undef w T (Or.inr rfl) (fun aa=>by rw [M false hw] at aa; cases aa) (z undef w e.world (E w e.world) fun _ _ _ _ _ v m=>m)
end
section
variable {P:Program} {Q:Exit->Act->World->Prop}
theorem Gl {id:Nat} (hm:P.follows .mixedOrders=true) (C:World->Prop) (b:List Hd)
 (U:Cf l.toArray (b.map (·.cons)) a.tmps.size=true)
 (a9:∀ w f,Ext w f->C w->C f) (hC:C w.drew) (ah:FH b)
 (a6:KC P C l.toArray b a 0 l b) (J:Array Bool->Act->World->Prop) (aa:J (Array.replicate l.toArray.size false) a w.drew)
 (hJ:∀ listed r f i o u O,Ha l.toArray b a C listed r f->J listed r f->i<b.length->l.toArray[i]?=some o->listed.getD i false=false->(∀ p∈Bz o,listed.getD p false=true)->(Dz C l.toArray b i o (AD b i) f u O\/O=f)->P9 P l.toArray o r f u O->Ha l.toArray b a C (listed.setIfInBounds i true) (r.put o.dst u) O->(∀ j,j<b.length->j≠i->AK l.toArray j (r.put o.dst u)=AK l.toArray j r)->(∀ d,o.dst=some d->AK l.toArray i (r.put o.dst u)=u)->J (listed.setIfInBounds i true) (r.put o.dst u) O)
 (Z:∀ f,C f->DA f (fun r=>J ((Array.range l.toArray.size).map (fun j=>decide (j<b.length))) r f->wpList P l.toArray Q (l.drop b.length) r f) l b a):(Code.region id l.toArray true).wp P Q a w:=by
 refine wp_region_any hm ?_;unfold Cf at U;simp only [Bool.and_eq_true,List.length_map,decide_eq_true_eq] at U;obtain ⟨⟨⟨hn,W⟩,ak⟩,M⟩:=U;have al:l.toArray.size=l.length:=by simp
 have g:∀ i o,l.toArray[i]?=some o->(i<b.length->DC l.toArray (b.map (·.cons)) b.length a.tmps.size i o)/\(b.length<=i->F8 l.toArray b.length i o=true):=by
  intro i o x;have L:i<l.toArray.size:=(Array.getElem?_eq_some_iff.1 x).1;have:=List.all_eq_true.1 W i (by simpa using L);rw [x] at this;simp only at this;refine ⟨fun h => ?_,fun h => ?_⟩
  · rw [if_pos h] at this;exact GU this
  · rw [if_neg (by omega)] at this;exact this
 have aj:∀ m listed r f,unl listed b.length=m->Ha l.toArray b a C listed r f->J listed r f->wpAny P .any l.toArray Q (m+(l.toArray.size-b.length)) listed r f:=by
  intro m
  induction m with
  | zero =>
   intro listed r f hu e R;have s:=FK hu;have B:listed=(Array.range l.toArray.size).map (fun j=>decide (j<b.length)):=by
    apply Array.ext
    · rw [e.size]; simp
    · intro i h1 h2;simp only [Array.getElem_map,Array.getElem_range];by_cases L:i<b.length
      · have:=s i L;simp [h1] at this;simp [this,L]
      · have:=e.tailF i (by omega);simp [h1] at this;simp [this,L]
   -- the frame
   have ha:r=Cz (fun j=>match A1 l.toArray j with | some d=>r.tmps.getD d undef | none=>Classical.epsilon (fun v=>(AD b j).ty.ok v f)) 0 l b a:=by
    apply Oh
    · rw [E6]; exact e.defers
    · rw [GV]; exact e.tmps
    · intro t;by_cases S:∃ j o,j<b.length/\l[j]?=some o/\o.dst=some t
      · obtain ⟨j,o,D,x,q⟩:=S;have a4:l.toArray[j]?=some o:=by simpa using x
        have A:=(g j o a4).1 D
        rw [ID b l 0 a j o D x q (A.dst t q) (by
         intro k' o' af T ab;have a5:l.toArray[k']?=some o':=by simpa using T
         by_cases a3:k'=j
         · exact a3
         · have:=A.apart k' af a3 (by rw [Bw a5,ab,q]);rw [q] at this
           cases this)]
        rw [Nat.zero_add,Bw a4,q]
      · rw [D7 b l 0 a (fun k o H x q=>S ⟨k,o,H,x,q⟩)];refine e.frame t fun j D _ q=>S ?_;unfold A1 at q;cases x:l.toArray[j]? with
        | none=>rw [x] at q; cases q
        | some o=>rw [x] at q; exact ⟨j,o,D,by simpa using x,q⟩
   have K:=IC (vs:=fun j=>match A1 l.toArray j with | some d=>r.tmps.getD d undef | none=>Classical.epsilon (fun v=>(AD b j).ty.ok v f)) b l 0 a (Z f e.world)
    (by
     intro k H c X;rw [Nat.zero_add];cases q:A1 l.toArray k with
     | some d=>exact e.values k c H (s k H) X d q
     | none =>
      have:(AD b k).ty.ok (Classical.epsilon (fun v=>(AD b k).ty.ok v f)) f:=by
       apply Classical.epsilon_spec (p:=fun v=>(AD b k).ty.ok v f);refine ⟨c, ?_⟩;rw [show (AD b k).ty = .eq c from X];rfl
      have h2:(AD b k).ty = .eq c:=X;rw [h2] at this;simp only [Ty.ok] at this;rw [h2]
      exact this)
    (by
     intro k H p hp X;rw [Nat.zero_add]
     obtain ⟨v,hv,ai⟩:=e.facts k H (s k H) (by
      intro k' Y;have h1:(AD b k).cons=none:=X;rw [h1] at Y
      cases Y)
     have h2:(AD b k).ty = .pr p:=hp;cases q:A1 l.toArray k with
     | some d =>
      simp only;rw [ai d q];rw [h2] at hv;exact hv
     | none =>
      have:(AD b k).ty.ok (Classical.epsilon (fun v=>(AD b k).ty.ok v f)) f:=Classical.epsilon_spec (p:=fun v=>(AD b k).ty.ok v f) ⟨v,hv⟩;simp only;rw [h2] at this |-
      exact this)
   rw [<-ha] at K;rw [Nat.zero_add];have hl:(l.drop b.length).length=l.toArray.size-b.length:=by simp
   rw [<-hl];rw [<-hl,<-B] at M;exact wpAny_of_seq (l.drop b.length) b.length listed r f (by intro j; simp) M (K (B ▸ R))
  | succ m ih =>
   intro listed r f hu e R;rw [show m+1+(l.toArray.size-b.length)=(m+(l.toArray.size-b.length))+1 by omega];refine ⟨fun F => ?_,fun i L => ?_⟩
   · obtain ⟨j,D,G,ae⟩:=FL (listed:=listed) (n:=b.length) (by omega);have a2:j<l.toArray.size:=by omega
     have x:l.toArray[j]?=some l.toArray[j]:=Array.getElem?_eq_getElem a2;have A:=(g j _ x).1 D
     have:j∈Region.ready .any l.toArray listed:=LT (by
      have:j<listed.size:=by rw [e.size]; exact a2
      simpa [this] using G) x (fun p hp=>ae p (A.lt p hp))
     rw [F] at this;cases this
   · obtain ⟨h0,o,x,V⟩:=D0 L;have a1:i<listed.size:=by rw [e.size]; exact (Array.getElem?_eq_some_iff.1 x).1
     have a0:listed.getD i false=false:=by simpa [a1] using h0
     have z:i<b.length:=by
      rcases Nat.lt_or_ge i b.length with h|h
      · exact h
      · exfalso;have ht:=(g i o x).2 h;unfold F8 at ht;simp only [Bool.or_eq_true,List.all_eq_true,List.mem_range,List.contains_iff_mem,List.any_eq_true,Bool.and_eq_true,decide_eq_true_eq] at ht;rcases ht with ht|⟨k,H,ag,_⟩
        · obtain ⟨j,D,G,_⟩:=FL (listed:=listed) (n:=b.length) (by omega);rw [B6 e.closed 12 (Bz o) V j (ht j D)] at G;cases G
        · have:=V k H;rw [e.tailF k ag] at this;cases this
     refine O0 (by simpa using a6) ah a9 e L z (fun o' T=>(g i o' T).1 z) fun o2 u O y a7 a8 N => ?_;refine ih _ _ O ?_ N (hJ listed r f i o2 u O e R z y a0 (by rw [x] at y; simp only [Option.some.injEq] at y; rw [<-y]; exact V) a7 a8 N ?_ ?_);rotate_left
     · intro j D ad;have A:=(g i o2 y).1 z;cases q:o2.dst with
       | none=>rfl
       | some d =>
        unfold AK;cases ac:A1 l.toArray j with
        | none=>rfl
        | some dj =>
         simp only;rw [B3,if_neg];intro hh;have:=A.apart j D ad (by rw [ac,q,hh.1]);rw [q] at this;cases this
     · intro d q;unfold AK;rw [Bw y,q];simp only;rw [B3,if_pos ⟨rfl,by rw [e.tmps]; exact (g i o2 y).1 z |>.dst d q⟩]
     have:=KE a1 a0 z;omega
 have I:Ha l.toArray b a C (Array.replicate l.toArray.size false) a w.drew:=by
  have A:∀ j,(Array.replicate l.toArray.size false).getD j false=false:=fun j=>getD_replicate_false _ j;refine ⟨by simp,fun j _=>A j,(fun j h=>by rw [A j] at h; cases h),hC,rfl,rfl,fun _ _=>rfl,(fun j _ h=>by rw [A j] at h; cases h),(fun j c _ h=>by rw [A j] at h; cases h)⟩
 have E:unl (Array.replicate l.toArray.size false) b.length=b.length:=by
  have:∀ n,unl (Array.replicate l.toArray.size false) n=n:=by
   intro n
   induction n with
   | zero=>rfl
   | succ n ih=>rw [unl,ih,getD_replicate_false]; simp
  exact this _
 have:=aj b.length _ a w.drew E I aa
 rwa [show b.length+(l.toArray.size-b.length)=l.toArray.size by omega] at this
end
structure TT (l:List Oper) (k1 k2 s1 j1:Nat) (T:TypeId) (zs:List Value) (base:Nat) (listed:Array Bool) (a:Act) (w:World):Prop where
 p1:listed.getD k1 false=true->∃ g,AK l.toArray k1 a = .pointer (some ⟨g,0,none⟩)/\base<=g/\g<w.heap.size/\(listed.getD s1 false=false->Arr w g T zs)/\(listed.getD s1 false=true->∃ cs:List Value,AK l.toArray j1 a = .agg cs.toArray/\Arr w g T cs)
 p2:listed.getD k2 false=true->∃ g,AK l.toArray k2 a = .pointer (some ⟨g,0,none⟩)/\base<=g/\g<w.heap.size/\Arr w g T zs
 ne:listed.getD k1 false=true->listed.getD k2 false=true->AK l.toArray k1 a≠AK l.toArray k2 a
 js:listed.getD s1 false=true->listed.getD j1 false=true/\listed.getD k1 false=true
 lo:base<=w.heap.size
theorem getD_set_ne {listed:Array Bool} (h:j≠i):(listed.setIfInBounds i true).getD j false=listed.getD j false:=by
 have a:¬ i=j:=fun e=>h e.symm;rw [Array.getD_eq_getD_getElem?,Array.getElem?_setIfInBounds,if_neg a,Array.getD_eq_getD_getElem?]
section
variable {P:Program} {Q:Exit->Act->World->Prop}
theorem Ic {id:Nat} (hm:P.follows .mixedOrders=true) (C:World->Prop) (y:List Hd)
 (ad:Cf l.toArray (y.map (·.cons)) a.tmps.size=true)
 (an:∀ w q,Ext w q->C w->C q) (hC:C w.drew) (aB:FH y)
 (ai:KC P C l.toArray y a 0 l y) (s A s1 F:Nat) (T:TypeId) (zs:List Value)
 (hn:s<y.length/\A<y.length/\s1<y.length/\F<y.length) (ap:s≠A/\s≠s1/\A≠s1/\F≠s1/\F≠s/\F≠A)
 (hk:∀ k,k=s\/k=A->∀ o,l.toArray[k]?=some o->o.guard=none/\o.dst.isSome=true/\∀ ρ wx,(execOp ρ o).run P wx = .ok (.value (.pointer (some ⟨wx.heap.size,0,none⟩))) (wx.alloc (.cells zs.toArray T)))
 (az:∀ o,l.toArray[s1]?=some o->o.guard=none/\o.dst=none/\∃ d1 dj,A1 l.toArray s=some d1/\A1 l.toArray F=some dj/\o.op = .store T (.tmp d1) (.tmp dj))
 (a3:s∈BS l.toArray s1/\F∈BS l.toArray s1)
 (ax:∀ i,i<y.length->i≠s1->(AD y i).mu=false)
 (ao:Agg P T zs.length)
 (ab:(AD y F).cons=none/\∀ v w,(AD y F).ty.ok v w->∃ cs:List Value,v = .agg cs.toArray/\cs.length=zs.length/\∀ x∈cs,x.oneCell'=true)
 (ah:∀ q,C q->DA q (fun G=>(∃ (g1 g2:Nat) (cs:List Value),AK l.toArray s G = .pointer (some ⟨g1,0,none⟩)/\AK l.toArray A G = .pointer (some ⟨g2,0,none⟩)/\w.heap.size<=g1/\w.heap.size<=g2/\g1≠g2/\AK l.toArray F G = .agg cs.toArray/\Arr q g1 T cs/\Arr q g2 T zs)->wpList P l.toArray Q (l.drop y.length) G q) l y a):(Code.region id l.toArray true).wp P Q a w:=by
 refine Gl hm C y ad an hC aB ai (fun f G q=>TT l s A s1 F T zs w.heap.size f G q) ?_ ?_ ?_
 · refine ⟨fun h => ?_,fun h => ?_,fun h => ?_,fun h => ?_,lrf _⟩
   all_goals (rw [getD_replicate_false] at h; cases h)
 · intro f G q i o u w2 a4 J aw ho a1 ae n a5 aF m ak;obtain ⟨n1,n2,n3,n4⟩:=hn;obtain ⟨d1,d2,d3,d4,d5,d6⟩:=ap;by_cases a2:i=s1
   · subst a2;obtain ⟨hg,aE,t1,tj,e1,e2,ay⟩:=az o ho;rw [D4 ho] at a3;have Y:=ae s a3.1;have ac:=ae F a3.2;obtain ⟨g,a0,aq,ar,au,_⟩:=J.p1 Y;obtain ⟨v,hv,aC⟩:=a4.facts F n4 ac (fun k a8=>by rw [ab.1] at a8; cases a8);obtain ⟨cs,rfl,a9,aj⟩:=ab.2 v q hv;have af:=aC tj e2;have al:G.tmps.getD t1 undef = .pointer (some ⟨g,0,none⟩):=by
      have:=a0;unfold AK at this;rw [e1] at this;exact this
     have hA:=au a1;have U:(execOp G.eval o).run P q = .ok .skip (q.setRow g cs.toArray):=by
      have:=CV (P:=P) (w:=q) (ty:=T) (g:=g) (t:=T) (cs:=zs) (vs:=cs) (by rw [a9]; exact ao) hA a9.symm aj;have e3:G.eval (.tmp t1) = .pointer (some ⟨g,0,none⟩):=al;have e4:G.eval (.tmp tj) = .agg cs.toArray:=af;simp only [execOp,ay,e3,e4,Sem.run_bind,this,Result.andThen_ok,Sem.run_pure]
     have ag:w2=q.setRow g cs.toArray:=by
      have:=a5 (by unfold Region.wanted; rw [hg]);rw [U] at this;exact this
     have z:q.grownBy w2 (some g):=by rw [ag]; exact Bh q g _
     have hA2:Arr w2 g T cs:=by rw [ag]; exact BM hA cs
     have L:(f.setIfInBounds i true).getD i false=true:=by
      have:i<f.size:=by rw [a4.size]; exact (Array.getElem?_eq_some_iff.1 ho).1
      simp [this]
     refine ⟨fun _=>⟨g,by rw [m s n1 d2,a0],aq,Nat.lt_of_lt_of_le ar z.size,(fun h=>by rw [L] at h; cases h),fun _=>⟨cs, ?_,hA2⟩⟩,fun h => ?_,fun h1 h2 => ?_,fun _=>⟨by rw [getD_set_ne d4]; exact ac,by rw [getD_set_ne d2]; exact Y⟩,Nat.le_trans J.lo z.size⟩
     · rw [m F n4 d4];unfold AK;rw [e2];exact af
     · rw [getD_set_ne d3] at h;obtain ⟨g',B,R,W,Z⟩:=J.p2 h;have E:=J.ne Y h;rw [a0,B] at E;refine ⟨g',by rw [m A n2 d3,B],R,Nat.lt_of_lt_of_le W z.size,Z.kept z ?_⟩;intro e;simp only [Option.some.injEq] at e;subst e;exact E rfl
     · rw [getD_set_ne d3] at h2;rw [m s n1 d2,m A n2 d3];exact J.ne Y h2
   · have hE:Ext q w2:=by
      rcases n with n|n
      · unfold Dz at n;cases V:(AD y i).ty with
        | eq c=>rw [V] at n; rw [n.1]; exact Ext.refl _
        | pr p =>
         rw [V] at n;simp only [ax i aw a2] at n;exact n.1
      · rw [n]; exact Ext.refl _
     have I:(f.setIfInBounds i true).getD s1 false=f.getD s1 false:=getD_set_ne (fun e=>a2 e.symm);have L:(f.setIfInBounds i true).getD i false=true:=by
      have:i<f.size:=by rw [a4.size]; exact (Array.getElem?_eq_some_iff.1 ho).1
      simp [this]
     have X:i=s\/i=A->AK l.toArray i (G.put o.dst u) = .pointer (some ⟨q.heap.size,0,none⟩)/\w2=q.alloc (.cells zs.toArray T):=by
      intro av;obtain ⟨hg,aa,U⟩:=hk i av o ho;have:=a5 (by unfold Region.wanted; rw [hg]);rw [U] at this;obtain ⟨e1,e2⟩:=this;cases hd:o.dst with
      | none=>rw [hd] at aa; cases aa
      | some d =>
       have:=ak d hd;rw [hd] at this;exact ⟨by rw [this,e1],e2⟩
     have a6:s≠i->(f.setIfInBounds i true).getD s false=true->∃ g,AK l.toArray s (G.put o.dst u) = .pointer (some ⟨g,0,none⟩)/\w.heap.size<=g/\g<q.heap.size/\((f.setIfInBounds i true).getD s1 false=false->Arr w2 g T zs)/\((f.setIfInBounds i true).getD s1 false=true->∃ cs:List Value,AK l.toArray F (G.put o.dst u) = .agg cs.toArray/\Arr w2 g T cs):=by
      intro E h;rw [getD_set_ne E] at h;obtain ⟨g,B,R,W,Z,q5⟩:=J.p1 h;refine ⟨g,by rw [m s n1 E,B],R,W,fun hf => ?_,fun ht => ?_⟩
      · rw [I] at hf;exact (Z hf).ext hE
      · rw [I] at ht;obtain ⟨cs,S,r2⟩:=q5 ht;have H:F≠i:=by
         rintro rfl;have:=(J.js ht).1;rw [a1] at this;cases this
        exact ⟨cs,by rw [m F n4 H,S],r2.ext hE⟩
     have a7:A≠i->(f.setIfInBounds i true).getD A false=true->∃ g,AK l.toArray A (G.put o.dst u) = .pointer (some ⟨g,0,none⟩)/\w.heap.size<=g/\g<q.heap.size/\Arr w2 g T zs:=by
      intro E h;rw [getD_set_ne E] at h;obtain ⟨g,B,R,W,Z⟩:=J.p2 h;exact ⟨g,by rw [m A n2 E,B],R,W,Z.ext hE⟩
     refine ⟨fun h => ?_,fun h => ?_,fun h1 h2 => ?_,fun h => ?_,Nat.le_trans J.lo hE.size⟩
     · by_cases N:i=s
       · subst N;obtain ⟨S,r2⟩:=X (Or.inl rfl);have aA:f.getD s1 false=false:=by
          cases hh:f.getD s1 false with
          | false=>rfl
          | true=>have:=(J.js hh).2; rw [a1] at this; cases this
         refine ⟨q.heap.size,S,J.lo,by rw [r2]; simp,fun _=>by rw [r2]; exact Arr.new q T zs,fun ht => ?_⟩;rw [I,aA] at ht;cases ht
       · obtain ⟨g,B,R,W,Z,q5⟩:=a6 (fun e=>N e.symm) h;exact ⟨g,B,R,Nat.lt_of_lt_of_le W hE.size,Z,q5⟩
     · by_cases O:i=A
       · subst O;obtain ⟨S,r2⟩:=X (Or.inr rfl);exact ⟨q.heap.size,S,J.lo,by rw [r2]; simp,by rw [r2]; exact Arr.new q T zs⟩
       · obtain ⟨g,B,R,W,Z⟩:=a7 (fun e=>O e.symm) h;exact ⟨g,B,R,Nat.lt_of_lt_of_le W hE.size,Z⟩
     · by_cases N:i=s
       · subst N;obtain ⟨S,_⟩:=X (Or.inl rfl);obtain ⟨g,B,_,W,_⟩:=a7 (fun e=>d1 e.symm) h2;rw [S,B];simp only [ne_eq,Value.pointer.injEq,Option.some.injEq,Addr.mk.injEq,and_true];omega
       · by_cases O:i=A
         · subst O;obtain ⟨S,_⟩:=X (Or.inr rfl);obtain ⟨g,B,_,W,_⟩:=a6 d1 h1;rw [S,B];simp only [ne_eq,Value.pointer.injEq,Option.some.injEq,Addr.mk.injEq,and_true];omega
         · rw [m s n1 (fun e=>N e.symm),m A n2 (fun e=>O e.symm)];rw [getD_set_ne (fun e=>N e.symm)] at h1;rw [getD_set_ne (fun e=>O e.symm)] at h2;exact J.ne h1 h2
     · rw [I] at h;obtain ⟨B,R⟩:=J.js h;constructor
       · by_cases H:F=i
         · rw [H]; exact L
         · rw [getD_set_ne H]; exact B
       · by_cases H:s=i
         · rw [H]; exact L
         · rw [getD_set_ne H]; exact R
 · intro q am;have h0:=ah q am;revert h0;have aD:∀ (os:List Oper) (r:List Hd) (b:Act) (K K':Act->Prop),(∀ x,K x->K' x)->DA q K os r b->DA q K' os r b:=by
    intro os
    induction os with
    | nil=>intro r b K K' M h; cases r <;> exact M _ h
    | cons o os ih =>
     intro r b K K' M h;cases r with
     | nil=>exact M _ h
     | cons hd r =>
      simp only [DA] at h |-;cases V:hd.ty with
      | eq c=>rw [V] at h; simp only at h |-; exact ih r _ K K' M h
      | pr p =>
       rw [V] at h;simp only at h |-;cases hc:hd.cons with
       | none=>rw [hc] at h; simp only at h |-; exact fun v hv=>ih r _ K K' M (h v hv)
       | some k=>rw [hc] at h; simp only at h |-; exact fun v=>ih r _ K K' M (h v)
   refine aD l y a _ _ fun G h0 J=>h0 ?_;have D:∀ j,j<y.length->((Array.range l.toArray.size).map (fun j=>decide (j<y.length))).getD j false=true:=by
    intro j hj;have aG:y.length<=l.toArray.size:=by
     have:=ad;unfold Cf at this;simp only [Bool.and_eq_true,List.length_map,decide_eq_true_eq] at this;exact this.1.1.1
    have:j<l.toArray.size:=by omega
    simp only [Array.getD_eq_getD_getElem?,Array.getElem?_map,Array.getElem?_range,this,if_true,Option.map_some,Option.getD_some,decide_eq_true_eq];exact hj
   obtain ⟨n1,n2,n3,n4⟩:=hn;obtain ⟨g1,B,R,_,_,q5⟩:=J.p1 (D s n1);obtain ⟨g2,S,r2,_,r4⟩:=J.p2 (D A n2);obtain ⟨cs,t1,t2⟩:=q5 (D s1 n3);refine ⟨g1,g2,cs,B,S,R,r2, ?_,t1,t2,r4⟩;have:=J.ne (D s n1) (D A n2);rw [B,S] at this;intro e;subst e;exact this rfl
end
end Go.Proofs.YtlbmnokpiilfpaaGreatDoor
