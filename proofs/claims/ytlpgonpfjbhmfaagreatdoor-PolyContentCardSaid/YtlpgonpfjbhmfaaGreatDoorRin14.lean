/- Part Rin14. -/
import Derived.Test.YtlpgonpfjbhmfaaGreatDoorRin1
import Derived.WalkKit
set_option maxRecDepth 100000
set_option maxHeartbeats 100000000
namespace Go.Proofs.YtlpgonpfjbhmfaaGreatDoor
open Go Go.RowKit
def keyV (k:List Int):Value := .agg (k.map (Value.int .i64)).toArray
structure KeyT (P:Program) (kt et:TypeId):Prop where
 arr:P.underlying kt=some (.array 6 et)
 int:P.underlying et=some (.int .i64)
 size:(P.info? et).map (·.size)=some 1
theorem six {k:List Int} (h:k.length=6):∃ a b c d e f,k=[a,b,c,d,e,f]:=by
 match k,h with
 | [a,b,c,d,e,f],_=>exact ⟨a,b,c,d,e,f,rfl⟩
section
variable {P:Program} {kt et:TypeId} (w:World)
theorem run_part_int (hk:KeyT P kt et) (cs:Array Value) (i:Nat) (v:Value) (h:cs[i]?=some v):(part et cs i).run P w = .ok v w:=by
 simp [part,isAgg,run_underlying hk.int,h]
theorem run_equalIn_int (hk:KeyT P kt et) (d:Nat) (a b:Int):(Op.equalIn (d+1) et (.int .i64 a) (.int .i64 b)).run P w = .ok (a == b) w:=by
 simp [Op.equalIn,run_underlying hk.int]
theorem run_equal_key (hk:KeyT P kt et) (d:Nat) {a b:List Int} (ha:a.length=6) (hb:b.length=6) :
 (Op.equalIn (d+2) kt (keyV a) (keyV b)).run P w = .ok (decide (a=b)) w:=by
 obtain ⟨a0,a1,a2,a3,a4,a5,rfl⟩:=six ha;obtain ⟨b0,b1,b2,b3,b4,b5,rfl⟩:=six hb;obtain ⟨i,hi,hs⟩:∃ i,P.info? et=some i∧i.size=1:=by
  have:=hk.size;cases h:P.info? et with
  | none=>rw [h] at this; cases this
  | some i=>rw [h] at this; exact ⟨i,rfl,by simpa using this⟩
 have hr:List.range' 0 6=[0,1,2,3,4,5]:=rfl;have he:=fun (a b:Int) (w:World)=>run_equalIn_int w hk d a b;have p0:∀ (c0 c1 c2 c3 c4 c5:Value) (w:World),(part et #[c0,c1,c2,c3,c4,c5] 0).run P w = .ok c0 w:=fun _ _ _ _ _ _ w=>run_part_int w hk _ 0 _ rfl;have p1:∀ (c0 c1 c2 c3 c4 c5:Value) (w:World),(part et #[c0,c1,c2,c3,c4,c5] 1).run P w = .ok c1 w:=fun _ _ _ _ _ _ w=>run_part_int w hk _ 1 _ rfl;have p2:∀ (c0 c1 c2 c3 c4 c5:Value) (w:World),(part et #[c0,c1,c2,c3,c4,c5] 2).run P w = .ok c2 w:=fun _ _ _ _ _ _ w=>run_part_int w hk _ 2 _ rfl
 have p3:∀ (c0 c1 c2 c3 c4 c5:Value) (w:World),(part et #[c0,c1,c2,c3,c4,c5] 3).run P w = .ok c3 w:=fun _ _ _ _ _ _ w=>run_part_int w hk _ 3 _ rfl;have p4:∀ (c0 c1 c2 c3 c4 c5:Value) (w:World),(part et #[c0,c1,c2,c3,c4,c5] 4).run P w = .ok c4 w:=fun _ _ _ _ _ _ w=>run_part_int w hk _ 4 _ rfl;have p5:∀ (c0 c1 c2 c3 c4 c5:Value) (w:World),(part et #[c0,c1,c2,c3,c4,c5] 5).run P w = .ok c5 w:=fun _ _ _ _ _ _ w=>run_part_int w hk _ 5 _ rfl;rw [Op.equalIn];simp only [keyV,Sem.run_bind,run_underlying hk.arr,Result.andThen_ok];generalize hE:Op.equalIn (d+1) et=E at *
 simp [sizeOf,typeInfo,hi,hs,hr,p0,p1,p2,p3,p4,p5,he];by_cases h0:a0=b0 <;> simp [h0];by_cases h1:a1=b1 <;> simp [h1];by_cases h2:a2=b2 <;> simp [h2];by_cases h3:a3=b3 <;> simp [h3];by_cases h4:a4=b4 <;> simp [h4];by_cases h5:a5=b5 <;> simp [h5]
theorem run_checkKey_int (hk:KeyT P kt et) (em:Bool) (d:Nat) (a:Int):(Instr.checkKey em (d+1) et (.int .i64 a)).run P w = .ok () w:=by
 rw [Instr.checkKey];simp [run_underlying hk.int]
theorem run_checkKey (hk:KeyT P kt et) (em:Bool) (d:Nat) {a:List Int} (ha:a.length=6):(Instr.checkKey em (d+2) kt (keyV a)).run P w = .ok () w:=by
 obtain ⟨a0,a1,a2,a3,a4,a5,rfl⟩:=six ha;obtain ⟨i,hi,hs⟩:∃ i,P.info? et=some i∧i.size=1:=by
  have:=hk.size;cases h:P.info? et with
  | none=>rw [h] at this; cases this
  | some i=>rw [h] at this; exact ⟨i,rfl,by simpa using this⟩
 have hr:List.range' 0 6=[0,1,2,3,4,5]:=rfl;have he:=fun (a:Int) (w:World)=>run_checkKey_int w hk em d a;have p0:∀ (c0 c1 c2 c3 c4 c5:Value) (w:World),(part et #[c0,c1,c2,c3,c4,c5] 0).run P w = .ok c0 w:=fun _ _ _ _ _ _ w=>run_part_int w hk _ 0 _ rfl;have p1:∀ (c0 c1 c2 c3 c4 c5:Value) (w:World),(part et #[c0,c1,c2,c3,c4,c5] 1).run P w = .ok c1 w:=fun _ _ _ _ _ _ w=>run_part_int w hk _ 1 _ rfl;have p2:∀ (c0 c1 c2 c3 c4 c5:Value) (w:World),(part et #[c0,c1,c2,c3,c4,c5] 2).run P w = .ok c2 w:=fun _ _ _ _ _ _ w=>run_part_int w hk _ 2 _ rfl
 have p3:∀ (c0 c1 c2 c3 c4 c5:Value) (w:World),(part et #[c0,c1,c2,c3,c4,c5] 3).run P w = .ok c3 w:=fun _ _ _ _ _ _ w=>run_part_int w hk _ 3 _ rfl;have p4:∀ (c0 c1 c2 c3 c4 c5:Value) (w:World),(part et #[c0,c1,c2,c3,c4,c5] 4).run P w = .ok c4 w:=fun _ _ _ _ _ _ w=>run_part_int w hk _ 4 _ rfl;have p5:∀ (c0 c1 c2 c3 c4 c5:Value) (w:World),(part et #[c0,c1,c2,c3,c4,c5] 5).run P w = .ok c5 w:=fun _ _ _ _ _ _ w=>run_part_int w hk _ 5 _ rfl;rw [Instr.checkKey];simp only [keyV,Sem.run_bind,run_underlying hk.arr,Result.andThen_ok];generalize hE:Instr.checkKey em (d+1) et=E at *
 simp [sizeOf,typeInfo,hi,hs,hr,p0,p1,p2,p3,p4,p5,he]
end
def mapE:Nat→List (List Int×Value)→List MapEntry
 | _,[]=>[]
 | i,(k,v) :: r=>{ key:=keyV k,val:=v,born:=i } :: mapE (i+1) r
structure MapIs (w:World) (r:Nat) (m:List (List Int×Value)):Prop where
 obj:w.heap[r]?=some (.map (mapE 0 m).toArray m.length)
 six:∀ p∈m,p.1.length=6
 nodup:(m.map (·.1)).Nodup
def findE (k:List Int):Nat→List (List Int×Value)→Option (Nat×Value)
 | _,[]=>none
 | i,(k',v) :: r=>if k=k' then some (i,v) else findE k (i+1) r
theorem findE_none {k:List Int}:∀ {i:Nat} {m:List (List Int×Value)},findE k i m=none↔k ∉ m.map (·.1)
 | _,[]=>by simp [findE]
 | i,(k',v) :: r=>by
  unfold findE;by_cases h:k=k'
  · simp [h]
  · simp [h,findE_none (i:=i+1) (m:=r)]
theorem mapE_length:∀ (i:Nat) (m:List (List Int×Value)),(mapE i m).length=m.length
 | _,[]=>rfl
 | i,(_,_) :: r=>by simp [mapE,mapE_length (i+1) r]
theorem mapE_append:∀ (i:Nat) (m:List (List Int×Value)) (k:List Int) (v:Value),mapE i (m ++ [(k,v)])=mapE i m ++ [{ key:=keyV k,val:=v,born:=i+m.length }]
 | _,[],_,_=>rfl
 | i,(_,_) :: r,k,v=>by
  simp only [List.cons_append,mapE,mapE_append (i+1) r k v,List.length_cons];rw [Nat.add_assoc,Nat.add_comm 1]
section
variable {P:Program} {kt et:TypeId} (w:World)
theorem run_findAsking (hk:KeyT P kt et) {k:List Int} (h6:k.length=6):∀ (m:List (List Int×Value)) (b i:Nat),(∀ p∈m,p.1.length=6) →
 (Instr.findAsking kt (keyV k) (mapE b m) i).run P w = .ok (findE k i m) w
 | [],_,_,_=>by simp [Instr.findAsking,mapE,findE]
 | (k',v) :: r,b,i,h=>by
  have h1:k'.length=6:=h (k',v) (by simp);have heq:(Op.equal kt (keyV k) (keyV k')).run P w = .ok (decide (k=k')) w:=run_equal_key w hk 9998 h6 h1;have ih:=run_findAsking hk h6 r (b+1) (i+1) (fun p hp=>h p (by simp [hp]));unfold mapE findE;rw [Instr.findAsking];simp only [Sem.run_bind,heq,Result.andThen_ok];by_cases hkk:k=k'
  · simp [hkk]
  · simp [hkk,ih]
theorem run_findKey (hk:KeyT P kt et) {k:List Int} (h6:k.length=6) (m:List (List Int×Value)) (h:∀ p∈m,p.1.length=6) :
 (Instr.findKey kt (keyV k) (mapE 0 m)).run P w = .ok (findE k 0 m) w:=by
 have hn:Instr.findNow (.array 6 et) (keyV k) (mapE 0 m) 0=if m=[] then some none else none:=by
  cases m with
  | nil=>rfl
  | cons p r=>obtain ⟨k',v⟩:=p; simp [mapE,Instr.findNow,Instr.sameNow]
 simp only [Instr.findKey,Sem.run_bind,run_underlying hk.arr,Result.andThen_ok,hn];by_cases hm:m=[]
 · subst hm; simp [findE]
 · simp [hm,run_findAsking w hk h6 m 0 0 h]
end
theorem MapIs.lt {w:World} {r:Nat} {m:List (List Int×Value)} (h:MapIs w r m):r<w.heap.size:=by
 rcases Nat.lt_or_ge r w.heap.size with hlt|hge
 · exact hlt
 · have:=h.obj; rw [Array.getElem?_eq_none hge] at this; cases this
theorem MapIs.of_block {w w':World} {r:Nat} {m:List (List Int×Value)} (h:MapIs w r m) (e:w'.heap[r]?=w.heap[r]?):MapIs w' r m:=⟨e.trans h.obj,h.six,h.nodup⟩
theorem MapIs.ext {w w':World} {r:Nat} {m:List (List Int×Value)} (h:MapIs w r m) (e:Ext w w'):MapIs w' r m:=h.of_block (e.block h.lt)
theorem MapIs.kept {w w':World} {r:Nat} {m:List (List Int×Value)} {row:Option Nat} (h:MapIs w r m) (hg:w.grownBy w' row) (hne:some r≠row):MapIs w' r m:=h.of_block (hg.block r h.lt hne)
def lookD (z:Value) (m:List (List Int×Value)) (k:List Int):Value:=((findE k 0 m).map (·.2)).getD z
def hasK (m:List (List Int×Value)) (k:List Int):Bool:=(findE k 0 m).isSome
def putM (m:List (List Int×Value)) (k:List Int) (v:Value):List (List Int×Value) :=
 match findE k 0 m with
 | some (i,_)=>m.set i (k,v)
 | none=>m ++ [(k,v)]
theorem findE_some {k:List Int}:∀ {j:Nat} {m:List (List Int×Value)} {i:Nat} {v:Value},findE k j m=some (i,v)→j≤i∧m[i-j]?=some (k,v)
 | _,[],_,_,h=>by simp [findE] at h
 | j,(k',v') :: r,i,v,h=>by
  unfold findE at h;by_cases hk:k=k'
  · rw [if_pos hk] at h;simp only [Option.some.injEq,Prod.mk.injEq] at h;obtain ⟨rfl,rfl⟩:=h;subst hk;simp
  · rw [if_neg hk] at h;obtain ⟨h1,h2⟩:=findE_some h;refine ⟨by omega, ?_⟩;rw [show i-j=(i-(j+1))+1 by omega];simpa using h2
theorem mapE_get:∀ (j:Nat) (m:List (List Int×Value)) (i:Nat),(mapE j m)[i]?=(m[i]?).map (fun p=>{ key:=keyV p.1,val:=p.2,born:=j+i })
 | _,[],_=>by simp [mapE]
 | j,(k,v) :: r,0=>by simp [mapE]
 | j,(k,v) :: r,i+1=>by
  simp only [mapE,List.getElem?_cons_succ,mapE_get (j+1) r i];rw [Nat.add_assoc,Nat.add_comm 1 i]
theorem mapE_set:∀ (j:Nat) (m:List (List Int×Value)) (i:Nat) (k:List Int) (v:Value),i<m.length→mapE j (m.set i (k,v))=(mapE j m).set i { key:=keyV k,val:=v,born:=j+i }:=by
 intro j m i k v hi;apply List.ext_getElem?;intro t;rw [mapE_get,List.getElem?_set,List.getElem?_set,mapE_length];by_cases ht:i=t
 · subst ht;simp [hi]
 · simp [ht,mapE_get]
theorem sameBits_key (k:List Int):Instr.sameBits 10000 (keyV k) (keyV k)=true:=by
 have h:∀ (l:List Value) (n:Nat),(∀ v∈l,∃ a,v=Value.int .i64 a)→(l.zip l).all (fun x=>Instr.sameBits n x.1 x.2)=true:=by
  intro l n
  induction l with
  | nil=>intro _; rfl
  | cons v r ih =>
   intro hv;obtain ⟨a,rfl⟩:=hv v (by simp);simp only [List.zip_cons_cons,List.all_cons,Bool.and_eq_true];refine ⟨?_,ih (fun u hu=>hv u (by simp [hu]))⟩;cases n <;> simp [Instr.sameBits]
 show Instr.sameBits (9999+1) (.agg _) (.agg _)=true;rw [Instr.sameBits];simp only [beq_self_eq_true,Bool.true_and];exact h _ 9999 (by intro v hv; simp only [List.mem_map] at hv; obtain ⟨a,_,rfl⟩:=hv; exact ⟨a,rfl⟩)
section
variable {P:Program} {kt et mt vt:TypeId} {w:World}
theorem run_lookup (hm:P.underlying mt=some (.map kt vt)) (hk:KeyT P kt et) {z:Value} (hz:(zeroValue vt).run P w = .ok z w) {r:Nat} {m:List (List Int×Value)} (h:MapIs w r m) {k:List Int} (h6:k.length=6) (ok:Bool) :
 (Instr.lookup mt (.map (some r)) (keyV k) ok).run P w = .ok (if ok then .tuple #[lookD z m k, .bool (hasK m k)] else lookD z m k) w:=by
 have hc:∀ em,(Instr.checkKey em 10000 kt (keyV k)).run P w = .ok () w:=fun em=>run_checkKey w hk em 9998 h6;have hf:=run_findKey w hk h6 m h.six;have ho:=h.obj;unfold lookD hasK;simp only [Instr.lookup,Sem.run_bind,run_underlying hm,Result.andThen_ok,getObj,Sem.run,ho];cases hfe:findE k 0 m with
 | none=>cases ok <;> simp [hz,hc,hf,hfe]
 | some p=>cases ok <;> simp [hc,hf,hfe]
theorem run_put (hm:P.underlying mt=some (.map kt vt)) (hk:KeyT P kt et) {r:Nat} {m:List (List Int×Value)} (h:MapIs w r m) {k:List Int} (h6:k.length=6) (v:Value) :
 ∃ w',(Instr.mapUpdate mt (.map (some r)) (keyV k) v).run P w = .ok () w'∧MapIs w' r (putM m k v)∧w.grownBy w' (some r):=by
 have hc:∀ em,(Instr.checkKey em 10000 kt (keyV k)).run P w = .ok () w:=fun em=>run_checkKey w hk em 9998 h6;have hf:=run_findKey w hk h6 m h.six;have ho:=h.obj;have hlt:=h.lt;have hgr:∀ o:Obj,w.grownBy { w with heap:=w.heap.setIfInBounds r o } (some r):=by
  intro o;refine ⟨rfl,rfl,rfl,by simp,fun j _ hne => ?_⟩;have:r≠j:=by rintro rfl; exact hne rfl
  simp only;rw [Array.getElem?_setIfInBounds_ne this]
 have hob:∀ o:Obj,({ w with heap:=w.heap.setIfInBounds r o }:World).heap[r]?=some o:=by
  intro o;simp only;rw [Array.getElem?_setIfInBounds_self_of_lt hlt]
 unfold putM;cases hfe:findE k 0 m with
 | none =>
  refine ⟨_, ?_,⟨hob (.map (mapE 0 (m ++ [(k,v)])).toArray (m.length+1)) |>.trans (by simp), ?_, ?_⟩,hgr _⟩
  · simp only [Instr.mapUpdate,Sem.run_bind,run_underlying hm,Result.andThen_ok,getObj,setObj,Sem.run,ho,hc];rw [hf];simp [hfe,Sem.run,ho,mapE_append]
  · intro p hp;rcases List.mem_append.1 hp with hp|hp
    · exact h.six p hp
    · simp only [List.mem_singleton] at hp;subst hp;exact h6
  · rw [List.map_append,List.nodup_append];refine ⟨h.nodup,by simp, ?_⟩;intro a ha b hb;simp only [List.map_cons,List.map_nil,List.mem_singleton] at hb;subst hb;rintro rfl;exact findE_none.1 hfe ha
 | some p =>
  obtain ⟨i,v0⟩:=p;obtain ⟨_,hi⟩:=findE_some hfe;rw [Nat.sub_zero] at hi;have hil:i<m.length:=by
   rcases Nat.lt_or_ge i m.length with h|h
   · exact h
   · simp [List.getElem?_eq_none h] at hi
  have hkeys:(m.set i (k,v)).map (·.1)=m.map (·.1):=by
   rw [List.map_set];apply List.ext_getElem?;intro t;rw [List.getElem?_set];by_cases ht:i=t
   · subst ht;have hmi:m[i]=(k,v0):=by rw [List.getElem?_eq_getElem hil] at hi; simpa using hi
     simp [hil,hmi]
   · simp [ht]
  refine ⟨_, ?_,⟨hob (.map (mapE 0 (m.set i (k,v))).toArray m.length) |>.trans (by simp), ?_, ?_⟩,hgr _⟩
  · simp only [Instr.mapUpdate,Sem.run_bind,run_underlying hm,Result.andThen_ok,getObj,Sem.run,ho,hc];rw [hf];have hold:(mapE 0 m)[i]?=some { key:=keyV k,val:=v0,born:=0+i }:=by
     rw [mapE_get,hi];rfl
    have hmod:((mapE 0 m).modify i fun e=>{ key:=keyV k,val:=v,born:=e.born })=mapE 0 (m.set i (k,v)):=by
     rw [mapE_set _ _ _ _ _ hil];apply List.ext_getElem?;intro t;rw [List.getElem?_modify,List.getElem?_set,mapE_length];by_cases ht:i=t
     · subst ht;simp [hold,hil]
     · simp [ht]
    simp [hfe,hold,Instr.keyThatStays,sameBits_key,setObj,Sem.run,ho,hmod]
  · intro p hp;have:p.1∈(m.set i (k,v)).map (·.1):=List.mem_map_of_mem hp;rw [hkeys] at this;obtain ⟨q,hq,e⟩:=List.mem_map.1 this;rw [←e];exact h.six q hq
  · rw [hkeys]; exact h.nodup
end
def IterIs (w:World) (it r n:Nat) (seen:List Nat):Prop:=w.heap[it]?=some (.mapIter (some r) n seen.toArray n)
theorem IterIs.lt {w:World} {it r n:Nat} {seen:List Nat} (h:IterIs w it r n seen):it<w.heap.size:=by
 rcases Nat.lt_or_ge it w.heap.size with hlt|hge
 · exact hlt
 · unfold IterIs at h; rw [Array.getElem?_eq_none hge] at h; cases h
theorem IterIs.ext {w w':World} {it r n:Nat} {seen:List Nat} (h:IterIs w it r n seen) (e:Ext w w'):IterIs w' it r n seen:=(e.block h.lt).trans h
theorem IterIs.kept {w w':World} {it r n:Nat} {seen:List Nat} {row:Option Nat} (h:IterIs w it r n seen) (hg:w.grownBy w' row) (hne:some it≠row):IterIs w' it r n seen:=(hg.block it h.lt hne).trans h
theorem mapE_mem {m:List (List Int×Value)} {e:MapEntry} (h:e∈mapE 0 m):∃ i k v,m[i]?=some (k,v)∧e={ key:=keyV k,val:=v,born:=i }:=by
 obtain ⟨i,hi⟩:=List.mem_iff_getElem?.1 h;rw [mapE_get] at hi;cases hm:m[i]? with
 | none=>rw [hm] at hi; cases hi
 | some p =>
  rw [hm] at hi;refine ⟨i,p.1,p.2,hm, ?_⟩;simpa using hi.symm
theorem mapE_born_lt {m:List (List Int×Value)} {e:MapEntry} (h:e∈mapE 0 m):e.born<m.length:=by
 obtain ⟨i,k,v,hm,rfl⟩:=mapE_mem h;rcases Nat.lt_or_ge i m.length with h|h
 · exact h
 · simp [List.getElem?_eq_none h] at hm
theorem mapE_find:∀ (j:Nat) (m:List (List Int×Value)) (i:Nat) (k:List Int) (v:Value),m[i]?=some (k,v)→(mapE j m).find? (fun e=>e.born == j+i)=some { key:=keyV k,val:=v,born:=j+i }
 | _,[],_,_,_,h=>by simp at h
 | j,(k',v') :: r,0,k,v,h=>by
  simp only [List.getElem?_cons_zero,Option.some.injEq,Prod.mk.injEq] at h;obtain ⟨rfl,rfl⟩:=h;simp [mapE]
 | j,(k',v') :: r,i+1,k,v,h=>by
  have ih:=mapE_find (j+1) r i k v (by simpa using h);rw [show j+(i+1)=j+1+i by omega];unfold mapE;rw [List.find?_cons_of_neg (by simp; omega)];exact ih
section
variable {P:Program} {mt kt vt:TypeId} {w:World}
theorem run_range (hm:P.underlying mt=some (.map kt vt)) {r:Nat} {m:List (List Int×Value)} (h:MapIs w r m) :
 (Instr.range mt (.map (some r))).run P w = .ok (.pointer (some ⟨w.heap.size,0,none⟩)) (w.alloc (.mapIter (some r) m.length #[] m.length)):=by
 have ho:=h.obj;simp [Instr.range,run_underlying hm,getObj,Sem.run,ho,newObj]
theorem run_next {t:TypeId} {r it:Nat} {m:List (List Int×Value)} {seen:List Nat} (h:MapIs w r m) (hi:IterIs w it r m.length seen) :
 ((∀ i,i<m.length→i∈seen)∧(Instr.next (.pointer (some ⟨it,0,none⟩)) false t).run P w = .ok (.tuple #[.bool false]) w) ∨
 ∃ i k v w',i<m.length∧i ∉ seen∧m[i]?=some (k,v)∧(Instr.next (.pointer (some ⟨it,0,none⟩)) false t).run P w = .ok (.tuple #[.bool true,keyV k,v]) w' ∧
  IterIs w' it r m.length (seen ++ [i])∧w.grownBy w' (some it):=by
 have ho:=h.obj;have hio:w.heap[it]?=some (.mapIter (some r) m.length seen.toArray m.length):=hi;have hall:(!seen.toArray.isEmpty && !(mapE 0 m).toArray.isEmpty && (mapE 0 m).toArray.all (fun e=>decide (e.born ≥ m.length)))=false:=by
  cases m with
  | nil=>simp [mapE]
  | cons p q =>
   obtain ⟨k,v⟩:=p;simp [mapE]
 have hold:((mapE 0 m).toArray.filter (fun e => !seen.toArray.contains e.born)).filter (fun e=>decide (e.born<m.length))=(mapE 0 m).toArray.filter (fun e => !seen.toArray.contains e.born):=by
  apply Array.ext';simp only [Array.toList_filter];rw [List.filter_eq_self];intro e he;have:=(List.mem_filter.1 he).1;simpa using mapE_born_lt (by simpa using this)
 have hnew:((mapE 0 m).toArray.filter (fun e => !seen.toArray.contains e.born)).filter (fun e=>decide (e.born ≥ m.length))=#[]:=by
  apply Array.ext';simp only [Array.toList_filter];rw [List.filter_eq_nil_iff];intro e he;have:=(List.mem_filter.1 he).1;have:=mapE_born_lt (by simpa using this);simp;omega
 generalize hl:(mapE 0 m).toArray.filter (fun e => !seen.toArray.contains e.born)=left at *
 have hleft:∀ e∈left,∃ i k v,m[i]?=some (k,v)∧i ∉ seen∧e={ key:=keyV k,val:=v,born:=i }:=by
  intro e he;rw [←hl] at he;obtain ⟨h1,h2⟩:=Array.mem_filter.1 he;obtain ⟨i,k,v,hm,rfl⟩:=mapE_mem (by simpa using h1);exact ⟨i,k,v,hm,by simpa using h2,rfl⟩
 by_cases hempty:left=#[]
 · left;refine ⟨?_, ?_⟩
   · intro i hi';by_cases hs:i∈seen
     · exact hs
     · exfalso;have:({ key:=keyV m[i].1,val:=m[i].2,born:=i }:MapEntry)∈left:=by
        rw [←hl,Array.mem_filter];refine ⟨?_,by simpa using hs⟩;rw [List.mem_toArray,List.mem_iff_getElem?];exact ⟨i,by rw [mapE_get,List.getElem?_eq_getElem hi']; simp⟩
       rw [hempty] at this;simp at this
   · simp only [Instr.next,Sem.run_bind,getObj,Sem.run,hio,ho,Result.andThen_ok];simp only [hall,hl,hold,hnew];simp [hempty,choose,Sem.run,Question.forced]
 · right;have hpos:0<left.size:=by
    rcases Nat.eq_zero_or_pos left.size with h0|h0
    · exact absurd (Array.eq_empty_of_size_eq_zero h0) hempty
    · exact h0
   obtain ⟨c,w1,hc,hch,hw1⟩:∃ c w1,c<left.size∧(choose (.mapNext left.size)).run P w = .ok c w1∧(w1=w∨w1=w.drew):=by
    by_cases h1:left.size≤1
    · exact ⟨0,w,hpos,by simp [choose,Sem.run,Question.forced,h1], .inl rfl⟩
    · refine ⟨w.tape w.drawn (.mapNext left.size)%left.size,w.drew,Nat.mod_lt _ hpos, ?_, .inr rfl⟩;simp [choose,Sem.run,Question.forced,h1,Question.cut]
   obtain ⟨i,k,v,hm,hs,he⟩:=hleft left[c] (Array.getElem_mem hc);have hil:i<m.length:=by
    rcases Nat.lt_or_ge i m.length with h|h
    · exact h
    · simp [List.getElem?_eq_none h] at hm
   have hw1o:w1.heap=w.heap:=by rcases hw1 with rfl | rfl <;> rfl
   have hio1:w1.heap[it]?=some (.mapIter (some r) m.length seen.toArray m.length):=by rw [hw1o]; exact hio
   refine ⟨i,k,v,{ w1 with heap:=w1.heap.setIfInBounds it (.mapIter (some r) m.length (seen.toArray.push i) m.length) },hil,hs,hm, ?_, ?_, ?_⟩
   · simp only [Instr.next,Sem.run_bind,getObj,Sem.run,hio,ho,Result.andThen_ok];simp only [hall,hl,hold,hnew];have hcand:((if left.isEmpty=true then #[none] else #[]) ++ (left ++ #[]).map some)=left.map some:=by
      simp [hempty]
     simp only [hcand];have hsz:(left.map some).size=left.size:=by simp
     simp only [hsz,Bool.false_eq_true,if_false,Sem.run_bind,Result.andThen_ok,hch];have hget:(left.map some)[c]?=some (some { key:=keyV k,val:=v,born:=i }):=by
      rw [Array.getElem?_map,Array.getElem?_eq_getElem hc,he];rfl
     simp only [hget];simp [setObj,Sem.run,hio1]
   · show ({ w1 with heap:=w1.heap.setIfInBounds it _ }:World).heap[it]?=_;have:it<w1.heap.size:=by rw [hw1o]; exact hi.lt
     simp only;rw [Array.getElem?_setIfInBounds_self_of_lt this];simp
   · refine ⟨by rcases hw1 with rfl | rfl <;> rfl,by rcases hw1 with rfl | rfl <;> rfl,by rcases hw1 with rfl | rfl <;> rfl,by simp [hw1o],fun j _ hne => ?_⟩;have:it≠j:=by rintro rfl; exact hne rfl
     simp only;rw [Array.getElem?_setIfInBounds_ne this,hw1o]
theorem run_entry {r it i:Nat} {m:List (List Int×Value)} {seen:List Nat} {k:List Int} {v:Value} (h:MapIs w r m) (hi:IterIs w it r m.length (seen ++ [i])) (hm:m[i]?=some (k,v)) :
 (Instr.entry (.pointer (some ⟨it,0,none⟩))).run P w = .ok (.tuple #[keyV k,v]) w:=by
 have ho:=h.obj;have hio:w.heap[it]?=some (.mapIter (some r) m.length (seen ++ [i]).toArray m.length):=hi;have hf:=mapE_find 0 m i k v hm;rw [Nat.zero_add] at hf;simp [Instr.entry,getObj,Sem.run,hio,ho,hf]
theorem wl_mkMap {ops:Array Oper} {rest:List Oper} {o:Oper} {f:Act} {Q:Exit→Act→World→Prop} (hgd:o.guard=none) (ho:o.op = .makeMap mt none)
 (hK:∀ w',MapIs w' w.heap.size []→Ext w w'→w.heap.size<w'.heap.size→wpList P ops Q rest (f.put o.dst (.map (some w.heap.size))) w'):wpList P ops Q (o :: rest) f w:=by
 refine wpList_plain hgd fun K hK' => ?_;unfold Oper.wp execOp;have hr:(Instr.makeMap mt none).run P w = .ok (.map (some w.heap.size)) (w.alloc (.map #[] 0)):=by
  simp [Instr.makeMap,newObj,Sem.run]
 simp only [ho,Option.map_none,Sem.run_bind,hr,Result.andThen_ok,Sem.run_pure,Oper.upon];exact hK' _ _ (hK _ ⟨heap_alloc_new w _,by simp,by simp⟩ ((Ext.refl w).alloc _) (by simp))
theorem wl_lookup {et:TypeId} {ops:Array Oper} {rest:List Oper} {o:Oper} {f:Act} {Q:Exit→Act→World→Prop} {x y:Operand} {ok:Bool} (hgd:o.guard=none) (ho:o.op = .lookup mt x y ok)
 (hm:P.underlying mt=some (.map kt vt)) (hk:KeyT P kt et) {z:Value} (hz:∀ w,(zeroValue vt).run P w = .ok z w) {r:Nat} {m:List (List Int×Value)} {k:List Int}
 (hx:f.eval x = .map (some r)) (hy:f.eval y=keyV k) (h:MapIs w r m) (h6:k.length=6)
 (hK:wpList P ops Q rest (f.put o.dst (if ok then .tuple #[lookD z m k, .bool (hasK m k)] else lookD z m k)) w):wpList P ops Q (o :: rest) f w:=by
 refine wpList_plain hgd fun K hK' => ?_;unfold Oper.wp execOp;simp only [ho,hx,hy,Sem.run_bind,run_lookup hm hk (hz w) h h6 ok,Result.andThen_ok,Sem.run_pure,Oper.upon];exact hK' _ _ hK
theorem wl_put {et:TypeId} {ops:Array Oper} {rest:List Oper} {o:Oper} {f:Act} {Q:Exit→Act→World→Prop} {x y u:Operand} (hgd:o.guard=none) (ho:o.op = .mapUpdate mt x y u∨o.op = .insert mt x y u)
 (hm:P.underlying mt=some (.map kt vt)) (hk:KeyT P kt et) {r:Nat} {m:List (List Int×Value)} {k:List Int} {v:Value}
 (hx:f.eval x = .map (some r)) (hy:f.eval y=keyV k) (hu:f.eval u=v) (h:MapIs w r m) (h6:k.length=6)
 (hK:∀ w',MapIs w' r (putM m k v)→w.grownBy w' (some r)→wpList P ops Q rest (f.put o.dst undef) w'):wpList P ops Q (o :: rest) f w:=by
 refine wpList_plain hgd fun K hK' => ?_;obtain ⟨w',hrun,h2,h3⟩:=run_put hm hk h h6 v;unfold Oper.wp execOp;rcases ho with ho|ho
 all_goals
  simp only [ho,hx,hy,hu,Sem.run_bind,hrun,Result.andThen_ok,Sem.run_pure,Oper.upon];exact hK' _ _ (hK w' h2 h3)
theorem wl_range {ops:Array Oper} {rest:List Oper} {o:Oper} {f:Act} {Q:Exit→Act→World→Prop} {x:Operand} (hgd:o.guard=none) (ho:o.op = .range mt x)
 (hm:P.underlying mt=some (.map kt vt)) {r:Nat} {m:List (List Int×Value)} (hx:f.eval x = .map (some r)) (h:MapIs w r m)
 (hK:∀ w',IterIs w' w.heap.size r m.length []→Ext w w'→w.heap.size<w'.heap.size→wpList P ops Q rest (f.put o.dst (.pointer (some ⟨w.heap.size,0,none⟩))) w'):wpList P ops Q (o :: rest) f w:=by
 refine wpList_plain hgd fun K hK' => ?_;unfold Oper.wp execOp;simp only [ho,hx,Sem.run_bind,run_range hm h,Result.andThen_ok,Sem.run_pure,Oper.upon];exact hK' _ _ (hK _ (heap_alloc_new w _) ((Ext.refl w).alloc _) (by simp))
theorem wl_next {ops:Array Oper} {rest:List Oper} {o:Oper} {f:Act} {Q:Exit→Act→World→Prop} {x:Operand} (hgd:o.guard=none) (ho:o.op = .next x false)
 {r it:Nat} {m:List (List Int×Value)} {seen:List Nat} (hx:f.eval x = .pointer (some ⟨it,0,none⟩)) (h:MapIs w r m) (hi:IterIs w it r m.length seen)
 (h1:(∀ i,i<m.length→i∈seen)→wpList P ops Q rest (f.put o.dst (.tuple #[.bool false])) w)
 (h2:∀ i k v w',i<m.length→i ∉ seen→m[i]?=some (k,v)→IterIs w' it r m.length (seen ++ [i])→w.grownBy w' (some it)→wpList P ops Q rest (f.put o.dst (.tuple #[.bool true,keyV k,v])) w') :
 wpList P ops Q (o :: rest) f w:=by
 refine wpList_plain hgd fun K hK' => ?_;unfold Oper.wp execOp;rcases run_next (P:=P) (t:=o.type) h hi with ⟨hs,hr⟩|⟨i,k,v,w',a1,a2,a3,hr,a4,a5⟩
 · simp only [ho,hx,Sem.run_bind,hr,Result.andThen_ok,Sem.run_pure,Oper.upon];exact hK' _ _ (h1 hs)
 · simp only [ho,hx,Sem.run_bind,hr,Result.andThen_ok,Sem.run_pure,Oper.upon];exact hK' _ _ (h2 i k v w' a1 a2 a3 a4 a5)
theorem wl_entry {ops:Array Oper} {rest:List Oper} {o:Oper} {f:Act} {Q:Exit→Act→World→Prop} {x:Operand} (hgd:o.guard=none) (ho:o.op = .entry x)
 {r it i:Nat} {m:List (List Int×Value)} {seen:List Nat} {k:List Int} {v:Value} (hx:f.eval x = .pointer (some ⟨it,0,none⟩)) (h:MapIs w r m) (hi:IterIs w it r m.length (seen ++ [i])) (hm:m[i]?=some (k,v))
 (hK:wpList P ops Q rest (f.put o.dst (.tuple #[keyV k,v])) w):wpList P ops Q (o :: rest) f w:=by
 refine wpList_plain hgd fun K hK' => ?_;unfold Oper.wp execOp;simp only [ho,hx,Sem.run_bind,run_entry h hi hm,Result.andThen_ok,Sem.run_pure,Oper.upon];exact hK' _ _ hK
end
end Go.Proofs.YtlpgonpfjbhmfaaGreatDoor
namespace Go.Proofs.YtlpgonpfjbhmfaaGreatDoor.Pl
abbrev Tm:=List Int×Rat
def coef:List Tm→List Int→Rat
 | [],_=>0
 | t :: r,e=>(if t.1=e then t.2 else 0)+coef r e
def lin (F:List Int→Rat):List Tm→Rat
 | []=>0
 | t :: r=>t.2*F t.1+lin F r
theorem coef_app (a b:List Tm) (e:List Int):coef (a ++ b) e=coef a e+coef b e:=by
 induction a with
 | nil=>simp [coef]; grind
 | cons t r ih=>simp only [List.cons_append,coef,ih]; grind
theorem lin_app (F:List Int→Rat) (a b:List Tm):lin F (a ++ b)=lin F a+lin F b:=by
 induction a with
 | nil=>simp [lin]; grind
 | cons t r ih=>simp only [List.cons_append,lin,ih]; grind
theorem coef_perm {a b:List Tm} (h:a.Perm b) (e:List Int):coef a e=coef b e:=by
 induction h with
 | nil=>rfl
 | cons t _ ih=>simp only [coef,ih]
 | swap s t l=>simp only [coef]; grind
 | trans _ _ h1 h2=>rw [h1,h2]
def scl (c:Rat) (l:List Tm):List Tm:=l.map (fun t=>(t.1,c*t.2))
theorem coef_scl (c:Rat) (l:List Tm) (e:List Int):coef (scl c l) e=c*coef l e:=by
 induction l with
 | nil=>simp [scl,coef]
 | cons t r ih =>
  have:scl c (t :: r)=(t.1,c*t.2) :: scl c r:=rfl;rw [this];simp only [coef,ih];by_cases h:t.1=e <;> simp [h] <;> grind
def cmpI (x y:Int):Int:=if x<y then -1 else if y<x then 1 else 0
theorem cmpI_zero {x y:Int}:cmpI x y=0↔x=y:=by unfold cmpI; split <;> (try split) <;> omega
theorem cmpI_pos {x y:Int}:0<cmpI x y↔y<x:=by unfold cmpI; split <;> (try split) <;> omega
theorem cmpI_neg {x y:Int}:cmpI y x = -cmpI x y:=by unfold cmpI; split <;> (try split) <;> omega
def ordR:List Int→List Int→Int
 | x :: r,y :: s=>if x=y then ordR r s else cmpI y x
 | _,_=>0
def ordE (a b:List Int):Int:=if a.sum=b.sum then ordR a.reverse b.reverse else cmpI a.sum b.sum
theorem ordR_self:∀ a:List Int,ordR a a=0
 | []=>rfl
 | x :: r=>by simp [ordR,ordR_self r]
theorem ordR_eq:∀ {a b:List Int},a.length=b.length→ordR a b=0→a=b
 | [],[],_,_=>rfl
 | x :: r,y :: s,hl,h=>by
  by_cases e:x=y
  · simp only [ordR,if_pos e] at h;rw [e,ordR_eq (by simpa using hl) h]
  · simp only [ordR,if_neg e] at h;exact absurd (cmpI_zero.1 h).symm e
theorem ordR_anti:∀ (a b:List Int),ordR b a = -ordR a b
 | [],[]=>by simp [ordR]
 | [],_ :: _=>by simp [ordR]
 | _ :: _,[]=>by simp [ordR]
 | x :: r,y :: s=>by
  by_cases e:x=y
  · simp only [ordR,if_pos e,if_pos e.symm]; exact ordR_anti r s
  · simp only [ordR,if_neg e,if_neg (fun h:y=x=>e h.symm)]; exact cmpI_neg
theorem ordR_trans:∀ {a b c:List Int},0<ordR a b→0<ordR b c→0<ordR a c
 | x :: r,y :: s,z :: t,h1,h2=>by
  by_cases e1:x=y
  · subst e1;by_cases e2:x=z
    · subst e2;simp only [ordR,if_true] at h1 h2 ⊢;exact ordR_trans h1 h2
    · simp only [ordR,if_neg e2] at h2 ⊢;exact h2
  · simp only [ordR,if_neg e1] at h1;by_cases e2:y=z
    · subst e2;simp only [ordR,if_neg e1];exact h1
    · simp only [ordR,if_neg e2] at h2;have g1:=cmpI_pos.1 h1;have g2:=cmpI_pos.1 h2;simp only [ordR,if_neg (show ¬ x=z by omega)];exact cmpI_pos.2 (by omega)
 | [],_,_,h1,_=>by simp [ordR] at h1
 | _ :: _,[],_,h1,_=>by simp [ordR] at h1
 | _ :: _,_ :: _,[],_,h2=>by simp [ordR] at h2
theorem ordE_self (a:List Int):ordE a a=0:=by simp [ordE,ordR_self]
theorem ordE_eq {a b:List Int} (hl:a.length=b.length) (h:ordE a b=0):a=b:=by
 unfold ordE at h;split at h
 · exact List.reverse_inj.1 (ordR_eq (by simpa using hl) h)
 · rename_i hs;exact absurd (cmpI_zero.1 h) hs
theorem ordE_anti (a b:List Int):ordE b a = -ordE a b:=by
 unfold ordE;by_cases h:a.sum=b.sum
 · rw [if_pos h,if_pos h.symm]; exact ordR_anti _ _
 · rw [if_neg h,if_neg (fun x=>h x.symm)]; exact cmpI_neg
theorem ordE_trans {a b c:List Int} (h1:0<ordE a b) (h2:0<ordE b c):0<ordE a c:=by
 unfold ordE at *
 by_cases e1:a.sum=b.sum
 · rw [if_pos e1] at h1;by_cases e2:b.sum=c.sum
   · rw [if_pos e2] at h2;rw [if_pos (e1.trans e2)];exact ordR_trans h1 h2
   · rw [if_neg e2] at h2;rw [if_neg (fun h=>e2 (e1.symm.trans h)),e1];exact h2
 · rw [if_neg e1] at h1;have g1:=cmpI_pos.1 h1;by_cases e2:b.sum=c.sum
   · rw [if_neg (fun h=>e1 (h.trans e2.symm)),←e2];exact h1
   · rw [if_neg e2] at h2;have g2:=cmpI_pos.1 h2;rw [if_neg (by omega)];exact cmpI_pos.2 (by omega)
structure Canon (n:Nat) (l:List Tm):Prop where
 len:∀ t∈l,t.1.length=n
 nz:∀ t∈l,t.2≠0
 desc:l.Pairwise (fun s t=>0<ordE s.1 t.1)
theorem Canon.nil (n:Nat):Canon n []:=⟨by simp,by simp,List.Pairwise.nil⟩
theorem Canon.tail {n:Nat} {t:Tm} {r:List Tm} (h:Canon n (t :: r)):Canon n r :=
 ⟨fun s hs=>h.len s (by simp [hs]),fun s hs=>h.nz s (by simp [hs]),(List.pairwise_cons.1 h.desc).2⟩
theorem coef_absent {l:List Tm} {e:List Int} (h:∀ t∈l,t.1≠e):coef l e=0:=by
 induction l with
 | nil=>rfl
 | cons t r ih =>
  simp only [coef,if_neg (h t (by simp)),ih (fun s hs=>h s (by simp [hs]))]
  grind
theorem coef_present {l:List Tm} {e:List Int} (h:coef l e≠0):∃ t∈l,t.1=e:=by
 refine Classical.byContradiction fun hc=>h (coef_absent fun t ht he=>hc ⟨t,ht,he⟩)
theorem Canon.head {n:Nat} {t:Tm} {r:List Tm} (h:Canon n (t :: r)):coef (t :: r) t.1=t.2:=by
 have:coef r t.1=0:=coef_absent fun s hs he=>by
  have:=(List.pairwise_cons.1 h.desc).1 s hs;rw [he,ordE_self] at this;omega
 simp only [coef,if_true,this]
 grind
theorem Canon.above {n:Nat} {t:Tm} {r:List Tm} (h:Canon n (t :: r)) {e:List Int} (he:coef (t :: r) e≠0):e=t.1∨0<ordE t.1 e:=by
 obtain ⟨s,hs,rfl⟩:=coef_present he;rcases List.mem_cons.1 hs with rfl|hs
 · exact Or.inl rfl
 · exact Or.inr ((List.pairwise_cons.1 h.desc).1 s hs)
theorem canon_ext {n:Nat}:∀ {a b:List Tm},Canon n a→Canon n b→(∀ e,coef a e=coef b e)→a=b
 | [],[],_,_,_=>rfl
 | [],t :: r,_,hb,e=>by
  have h1:=hb.head;rw [←e] at h1;exact absurd h1.symm (hb.nz t (by simp))
 | t :: r,[],ha,_,e=>by
  have h1:=ha.head;rw [e] at h1;exact absurd h1.symm (ha.nz t (by simp))
 | s :: a,t :: b,ha,hb,e=>by
  have h1:=ha.head;have h2:=hb.head;have n1:coef (t :: b) s.1≠0:=by rw [←e,h1]; exact ha.nz s (by simp)
  have n2:coef (s :: a) t.1≠0:=by rw [e,h2]; exact hb.nz t (by simp)
  have hm:s.1=t.1:=by
   rcases hb.above n1 with h|h
   · exact h
   · rcases ha.above n2 with h' | h'
     · exact h'.symm
     · have:=ordE_anti s.1 t.1;omega
  have hc:s.2=t.2:=by rw [←h1,←h2,e,hm]
  have hst:s=t:=Prod.ext hm hc;subst hst
  rw [canon_ext ha.tail hb.tail (fun x=>by
   have:=e x;simp only [coef] at this
   grind)]
theorem rat_mul_parts (a b:Rat):(a*b).num=a.num.tdiv (a.num.natAbs.gcd b.den:Nat)*b.num.tdiv (b.num.natAbs.gcd a.den:Nat)∧(a*b).den=a.den/(b.num.natAbs.gcd a.den)*(b.den/(a.num.natAbs.gcd b.den)):=by
 have h:a*b=Rat.mul a b:=rfl;rw [h,Rat.mul];simp only [Int.divExact_eq_tdiv,Nat.divExact_eq_div,and_self]
theorem rat_mul_whole (a b:Rat) (ha:a.den=1) (hb:b.den=1):(a*b).num=a.num*b.num∧(a*b).den=1:=by
 have:=rat_mul_parts a b;rw [ha,hb] at this;simpa using this
theorem rat_add_parts (a b:Rat) :
 (a+b).num=(a.num*((b.den/a.den.gcd b.den:Nat):Int)+b.num*((a.den/a.den.gcd b.den:Nat):Int)).tdiv (((a.num*((b.den/a.den.gcd b.den:Nat):Int)+b.num*((a.den/a.den.gcd b.den:Nat):Int)).natAbs.gcd (a.den.gcd b.den):Nat):Int) ∧
 (a+b).den=(a.den/a.den.gcd b.den)*(b.den/((a.num*((b.den/a.den.gcd b.den:Nat):Int)+b.num*((a.den/a.den.gcd b.den:Nat):Int)).natAbs.gcd (a.den.gcd b.den))):=by
 have h:a+b=Rat.add a b:=rfl
 have hd:∀ N:Nat,(a.den/a.den.gcd b.den)*(b.den/(N.gcd (a.den.gcd b.den)))=(a.den/a.den.gcd b.den)*b.den/(N.gcd (a.den.gcd b.den)):=fun N =>
  (Nat.mul_div_assoc _ (Nat.dvd_trans (Nat.gcd_dvd_right _ _) (Nat.gcd_dvd_right _ _))).symm
 rw [hd,h,Rat.add];simp only;split
 · rename_i hg;simp [hg]
 · rw [Rat.maybeNormalize_eq];exact ⟨Int.divExact_eq_tdiv (Int.ofNat_dvd_left.2 (Nat.gcd_dvd_left _ _)),rfl⟩
theorem rat_eq_mk {q:Rat} {n:Int} {d:Nat} (hd:d≠0) (hc:n.natAbs.Coprime d) (h:q=mkRat n d):q.num=n∧q.den=d:=by
 rw [h,Rat.num_mkRat,Rat.den_mkRat,if_neg hd,if_neg hd];have h1:d.gcd n.natAbs=1:=by rw [Nat.gcd_comm]; exact hc
 simp [h1]
theorem rat_num_den_zero {q:Rat}:q.num=0↔q=0:=Rat.num_eq_zero
theorem rat_frac {n:Int} {d:Nat} (hd:d≠0):(mkRat n d).num=n.tdiv (n.natAbs.gcd d:Nat)∧(mkRat n d).den=d/(n.natAbs.gcd d):=by
 rw [Rat.num_mkRat,Rat.den_mkRat,if_neg hd,if_neg hd,Nat.gcd_comm];refine ⟨?_,rfl⟩;have h:((n.natAbs.gcd d:Nat):Int)∣n:=by
  have:=Nat.gcd_dvd_left n.natAbs d;exact Int.ofNat_dvd_left.2 this
 exact (Int.tdiv_eq_ediv_of_dvd h).symm
theorem rat_inv_pos {a:Rat} (h:0<a.num):(a⁻¹).num=a.den∧(a⁻¹).den=a.num.natAbs:=by
 have h1:a⁻¹=Rat.inv a:=rfl;rw [h1,Rat.inv];rw [dif_neg (by omega),dif_pos h];exact ⟨rfl,rfl⟩
theorem rat_inv_neg {a:Rat} (h:a.num<0):(a⁻¹).num = -(a.den:Int)∧(a⁻¹).den=a.num.natAbs:=by
 have h1:a⁻¹=Rat.inv a:=rfl;rw [h1,Rat.inv];rw [dif_pos h];exact ⟨rfl,rfl⟩
theorem rat_inv_zero:(0:Rat)⁻¹=0:=by simp
def desc (l:List Tm):Prop:=l.Pairwise (fun s t=>0≤ordE s.1 t.1)
theorem canon_of_sorted {n:Nat} {l:List Tm} (hl:∀ t∈l,t.1.length=n) (hz:∀ t∈l,t.2≠0) (hd:desc l) (hn:(l.map (·.1)).Nodup):Canon n l:=by
 refine ⟨hl,hz, ?_⟩
 induction l with
 | nil=>exact List.Pairwise.nil
 | cons t r ih =>
  have hd2:=List.pairwise_cons.1 hd;have hn2:=List.nodup_cons.1 hn;refine List.pairwise_cons.2 ⟨fun s hs => ?_,ih (fun x hx=>hl x (by simp [hx])) (fun x hx=>hz x (by simp [hx])) hd2.2 hn2.2⟩;have h1:=hd2.1 s hs
  have h2:ordE t.1 s.1≠0:=fun h0=>hn2.1 (by
   show t.1∈_;rw [ordE_eq (by rw [hl t (by simp),hl s (by simp [hs])]) h0]
   exact List.mem_map_of_mem hs)
  omega
end Go.Proofs.YtlpgonpfjbhmfaaGreatDoor.Pl
