/- Part Gav4. -/
import Derived.Test.YtlpgonpfjbhmfaaGreatDoorGav3
import Derived.Deep.AppendSrc
set_option maxRecDepth 100000
set_option maxHeartbeats 100000000
namespace Go.Proofs.YtlpgonpfjbhmfaaGreatDoor
open Tryz Go Go.RowKit
variable {f:Act} {ops:Array Oper} {ok:Bool} {Q:Exit→Act→World→Prop} {m:List (List Int×Value)} {k l xs:List Int} {seen:List Nat} {rest:List Oper} {news:List Value} {base bytes c cx i it n r:Nat} {o:Oper} {s u x y:Operand} {A a:Option Addr} {row:Option Nat} {e et t ty:TypeId} {v z:Value} {w w':World}
def BD (k:List Int):Value := .agg (k.map (Value.int .i64)).toArray
structure Hk (P:Program) (kt et:TypeId):Prop where
 arr:P.underlying kt=some (.array 6 et)
 int:P.underlying et=some (.int .i64)
 size:(P.info? et).map (·.size)=some 1
theorem six (h:k.length=6):∃ a b c d e f,k=[a,b,c,d,e,f]:=by
 match k,h with
 | [a,b,c,d,e,f],_=>exact ⟨a,b,c,d,e,f,rfl⟩
section
variable {P:Program} {kt et:TypeId} (w:World)
theorem A1 (hk:Hk P kt et) (cs:Array Value) (i:Nat) (v:Value) (h:cs[i]?=some v):(part et cs i).run P w = .ok v w:=by
 simp [part,isAgg,run_underlying hk.int,h]
theorem I1 (hk:Hk P kt et) (d:Nat) (a b:Int):(Op.equalIn (d+1) et (.int .i64 a) (.int .i64 b)).run P w = .ok (a == b) w:=by
 simp [Op.equalIn,run_underlying hk.int]
theorem K6 (hk:Hk P kt et) (d:Nat) {a b:List Int} (ha:a.length=6) (hb:b.length=6) :
 (Op.equalIn (d+2) kt (BD a) (BD b)).run P w = .ok (decide (a=b)) w:=by
 obtain ⟨a0,a1,a2,a3,a4,a5,rfl⟩:=six ha;obtain ⟨b0,b1,b2,b3,b4,b5,rfl⟩:=six hb;obtain ⟨i,hi,hs⟩:∃ i,P.info? et=some i∧i.size=1:=by
  have:=hk.size;cases h:P.info? et with
  | none=>rw [h] at this; cases this
  | some i=>rw [h] at this; exact ⟨i,rfl,by simpa using this⟩
 have hr:List.range' 0 6=[0,1,2,3,4,5]:=rfl;have he:=fun (a b:Int) (w:World)=>I1 w hk d a b;have p0:∀ (c0 c1 c2 c3 c4 c5:Value) (w:World),(part et #[c0,c1,c2,c3,c4,c5] 0).run P w = .ok c0 w:=fun _ _ _ _ _ _ w=>A1 w hk _ 0 _ rfl;have p1:∀ (c0 c1 c2 c3 c4 c5:Value) (w:World),(part et #[c0,c1,c2,c3,c4,c5] 1).run P w = .ok c1 w:=fun _ _ _ _ _ _ w=>A1 w hk _ 1 _ rfl;have p2:∀ (c0 c1 c2 c3 c4 c5:Value) (w:World),(part et #[c0,c1,c2,c3,c4,c5] 2).run P w = .ok c2 w:=fun _ _ _ _ _ _ w=>A1 w hk _ 2 _ rfl
 have p3:∀ (c0 c1 c2 c3 c4 c5:Value) (w:World),(part et #[c0,c1,c2,c3,c4,c5] 3).run P w = .ok c3 w:=fun _ _ _ _ _ _ w=>A1 w hk _ 3 _ rfl;have p4:∀ (c0 c1 c2 c3 c4 c5:Value) (w:World),(part et #[c0,c1,c2,c3,c4,c5] 4).run P w = .ok c4 w:=fun _ _ _ _ _ _ w=>A1 w hk _ 4 _ rfl;have p5:∀ (c0 c1 c2 c3 c4 c5:Value) (w:World),(part et #[c0,c1,c2,c3,c4,c5] 5).run P w = .ok c5 w:=fun _ _ _ _ _ _ w=>A1 w hk _ 5 _ rfl;rw [Op.equalIn];simp only [BD,Sem.run_bind,run_underlying hk.arr,Result.andThen_ok];generalize hE:Op.equalIn (d+1) et=E at *
 simp [sizeOf,typeInfo,hi,hs,hr,p0,p1,p2,p3,p4,p5,he];by_cases h0:a0=b0 <;> simp [h0];by_cases h1:a1=b1 <;> simp [h1];by_cases h2:a2=b2 <;> simp [h2];by_cases h3:a3=b3 <;> simp [h3];by_cases h4:a4=b4 <;> simp [h4];by_cases h5:a5=b5 <;> simp [h5]
theorem Iq (hk:Hk P kt et) (em:Bool) (d:Nat) (a:Int):(Instr.checkKey em (d+1) et (.int .i64 a)).run P w = .ok () w:=by
 rw [Instr.checkKey];simp [run_underlying hk.int]
theorem Hl (hk:Hk P kt et) (em:Bool) (d:Nat) {a:List Int} (ha:a.length=6):(Instr.checkKey em (d+2) kt (BD a)).run P w = .ok () w:=by
 obtain ⟨a0,a1,a2,a3,a4,a5,rfl⟩:=six ha;obtain ⟨i,hi,hs⟩:∃ i,P.info? et=some i∧i.size=1:=by
  have:=hk.size;cases h:P.info? et with
  | none=>rw [h] at this; cases this
  | some i=>rw [h] at this; exact ⟨i,rfl,by simpa using this⟩
 have hr:List.range' 0 6=[0,1,2,3,4,5]:=rfl;have he:=fun (a:Int) (w:World)=>Iq w hk em d a;have p0:∀ (c0 c1 c2 c3 c4 c5:Value) (w:World),(part et #[c0,c1,c2,c3,c4,c5] 0).run P w = .ok c0 w:=fun _ _ _ _ _ _ w=>A1 w hk _ 0 _ rfl;have p1:∀ (c0 c1 c2 c3 c4 c5:Value) (w:World),(part et #[c0,c1,c2,c3,c4,c5] 1).run P w = .ok c1 w:=fun _ _ _ _ _ _ w=>A1 w hk _ 1 _ rfl;have p2:∀ (c0 c1 c2 c3 c4 c5:Value) (w:World),(part et #[c0,c1,c2,c3,c4,c5] 2).run P w = .ok c2 w:=fun _ _ _ _ _ _ w=>A1 w hk _ 2 _ rfl
 have p3:∀ (c0 c1 c2 c3 c4 c5:Value) (w:World),(part et #[c0,c1,c2,c3,c4,c5] 3).run P w = .ok c3 w:=fun _ _ _ _ _ _ w=>A1 w hk _ 3 _ rfl;have p4:∀ (c0 c1 c2 c3 c4 c5:Value) (w:World),(part et #[c0,c1,c2,c3,c4,c5] 4).run P w = .ok c4 w:=fun _ _ _ _ _ _ w=>A1 w hk _ 4 _ rfl;have p5:∀ (c0 c1 c2 c3 c4 c5:Value) (w:World),(part et #[c0,c1,c2,c3,c4,c5] 5).run P w = .ok c5 w:=fun _ _ _ _ _ _ w=>A1 w hk _ 5 _ rfl;rw [Instr.checkKey];simp only [BD,Sem.run_bind,run_underlying hk.arr,Result.andThen_ok];generalize hE:Instr.checkKey em (d+1) et=E at *
 simp [sizeOf,typeInfo,hi,hs,hr,p0,p1,p2,p3,p4,p5,he]
end
def B4:Nat→List (List Int×Value)→List MapEntry
 | _,[]=>[]
 | i,(k,v) :: r=>{ key:=BD k,val:=v,born:=i } :: B4 (i+1) r
structure AN (w:World) (r:Nat) (m:List (List Int×Value)):Prop where
 obj:w.heap[r]?=some (.map (B4 0 m).toArray m.length)
 six:∀ p∈m,p.1.length=6
 nodup:(m.map (·.1)).Nodup
def BG (k:List Int):Nat→List (List Int×Value)→Option (Nat×Value)
 | _,[]=>none
 | i,(k',v) :: r=>if k=k' then some (i,v) else BG k (i+1) r
theorem Bp {k:List Int}:∀ {i:Nat} {m:List (List Int×Value)},BG k i m=none↔k ∉ m.map (·.1)
 | _,[]=>by simp [BG]
 | i,(k',v) :: r=>by
  unfold BG;by_cases h:k=k'
  · simp [h]
  · simp [h,Bp (i:=i+1) (m:=r)]
theorem CQ:∀ (i:Nat) (m:List (List Int×Value)),(B4 i m).length=m.length
 | _,[]=>rfl
 | i,(_,_) :: r=>by simp [B4,CQ (i+1) r]
theorem IG:∀ (i:Nat) (m:List (List Int×Value)) (k:List Int) (v:Value),B4 i (m ++ [(k,v)])=B4 i m ++ [{ key:=BD k,val:=v,born:=i+m.length }]
 | _,[],_,_=>rfl
 | i,(_,_) :: r,k,v=>by
  simp only [List.cons_append,B4,IG (i+1) r k v,List.length_cons];rw [Nat.add_assoc,Nat.add_comm 1]
section
variable {P:Program} {kt et:TypeId} (w:World)
theorem FA (hk:Hk P kt et) {k:List Int} (h6:k.length=6):∀ (m:List (List Int×Value)) (b i:Nat),(∀ p∈m,p.1.length=6) →
 (Instr.findAsking kt (BD k) (B4 b m) i).run P w = .ok (BG k i m) w
 | [],_,_,_=>by simp [Instr.findAsking,B4,BG]
 | (k',v) :: r,b,i,h=>by
  have h1:k'.length=6:=h (k',v) (by simp);have heq:(Op.equal kt (BD k) (BD k')).run P w = .ok (decide (k=k')) w:=K6 w hk 9998 h6 h1;have ih:=FA hk h6 r (b+1) (i+1) (fun p hp=>h p (by simp [hp]));unfold B4 BG;rw [Instr.findAsking];simp only [Sem.run_bind,heq,Result.andThen_ok];by_cases hkk:k=k'
  · simp [hkk]
  · simp [hkk,ih]
theorem IH (hk:Hk P kt et) {k:List Int} (h6:k.length=6) (m:List (List Int×Value)) (h:∀ p∈m,p.1.length=6) :
 (Instr.findKey kt (BD k) (B4 0 m)).run P w = .ok (BG k 0 m) w:=by
 have hn:Instr.findNow (.array 6 et) (BD k) (B4 0 m) 0=if m=[] then some none else none:=by
  cases m with
  | nil=>rfl
  | cons p r=>obtain ⟨k',v⟩:=p; simp [B4,Instr.findNow,Instr.sameNow]
 simp only [Instr.findKey,Sem.run_bind,run_underlying hk.arr,Result.andThen_ok,hn];by_cases hm:m=[]
 · subst hm; simp [BG]
 · simp [hm,FA w hk h6 m 0 0 h]
end
theorem AN.lt (h:AN w r m):r < w.heap.size:=by
 rcases Nat.lt_or_ge r w.heap.size with hlt | hge
 · exact hlt
 · have:=h.obj; rw [Array.getElem?_eq_none hge] at this; cases this
theorem AN.of_block (h:AN w r m) (e:w'.heap[r]?=w.heap[r]?):AN w' r m:=⟨e.trans h.obj,h.six,h.nodup⟩
theorem AN.ext (h:AN w r m) (e:Ext w w'):AN w' r m:=h.of_block (e.block h.lt)
theorem AN.kept (h:AN w r m) (hg:w.grownBy w' row) (hne:some r≠row):AN w' r m:=h.of_block (hg.block r h.lt hne)
def D6 (z:Value) (m:List (List Int×Value)) (k:List Int):Value:=((BG k 0 m).map (·.2)).getD z
def Ro (m:List (List Int×Value)) (k:List Int):Bool:=(BG k 0 m).isSome
def Hm (m:List (List Int×Value)) (k:List Int) (v:Value):List (List Int×Value) :=
 match BG k 0 m with
 | some (i,_)=>m.set i (k,v)
 | none=>m ++ [(k,v)]
theorem DV {k:List Int}:∀ {j:Nat} {m:List (List Int×Value)} {i:Nat} {v:Value},BG k j m=some (i,v)→j≤i∧m[i - j]?=some (k,v)
 | _,[],_,_,h=>by simp [BG] at h
 | j,(k',v') :: r,i,v,h=>by
  unfold BG at h;by_cases hk:k=k'
  · rw [if_pos hk] at h;simp only [Option.some.injEq,Prod.mk.injEq] at h;obtain ⟨rfl,rfl⟩:=h;subst hk;simp
  · rw [if_neg hk] at h;obtain ⟨h1,h2⟩:=DV h;refine ⟨by omega, ?_⟩;rw [show i - j=(i - (j+1))+1 by omega];simpa using h2
theorem Ex:∀ (j:Nat) (m:List (List Int×Value)) (i:Nat),(B4 j m)[i]?=(m[i]?).map (fun p=>{ key:=BD p.1,val:=p.2,born:=j+i })
 | _,[],_=>by simp [B4]
 | j,(k,v) :: r,0=>by simp [B4]
 | j,(k,v) :: r,i+1=>by
  simp only [B4,List.getElem?_cons_succ,Ex (j+1) r i];rw [Nat.add_assoc,Nat.add_comm 1 i]
theorem Th:∀ (j:Nat) (m:List (List Int×Value)) (i:Nat) (k:List Int) (v:Value),i < m.length→B4 j (m.set i (k,v))=(B4 j m).set i { key:=BD k,val:=v,born:=j+i }:=by
 intro j m i k v hi;apply List.ext_getElem?;intro t;rw [Ex,List.getElem?_set,List.getElem?_set,CQ];by_cases ht:i=t
 · subst ht;simp [hi]
 · simp [ht,Ex]
theorem MH (k:List Int):Instr.sameBits 10000 (BD k) (BD k)=true:=by
 have h:∀ (l:List Value) (n:Nat),(∀ v∈l,∃ a,v=Value.int .i64 a)→(l.zip l).all (fun x=>Instr.sameBits n x.1 x.2)=true:=by
  intro l n
  induction l with
  | nil=>intro _; rfl
  | cons v r ih =>
   intro hv;obtain ⟨a,rfl⟩:=hv v (by simp);simp only [List.zip_cons_cons,List.all_cons,Bool.and_eq_true];refine ⟨?_,ih (fun u hu=>hv u (by simp [hu]))⟩;cases n <;> simp [Instr.sameBits]
 show Instr.sameBits (9999+1) (.agg _) (.agg _)=true;rw [Instr.sameBits];simp only [beq_self_eq_true,Bool.true_and];exact h _ 9999 (by intro v hv; simp only [List.mem_map] at hv; obtain ⟨a,_,rfl⟩:=hv; exact ⟨a,rfl⟩)
section
variable {P:Program} {kt et mt vt:TypeId} {w:World}
theorem Gw (hm:P.underlying mt=some (.map kt vt)) (hk:Hk P kt et) {z:Value} (hz:(zeroValue vt).run P w = .ok z w) {r:Nat} {m:List (List Int×Value)} (h:AN w r m) {k:List Int} (h6:k.length=6) (ok:Bool) :
 (Instr.lookup mt (.map (some r)) (BD k) ok).run P w = .ok (if ok then .tuple #[D6 z m k, .bool (Ro m k)] else D6 z m k) w:=by
 have hc:∀ em,(Instr.checkKey em 10000 kt (BD k)).run P w = .ok () w:=fun em=>Hl w hk em 9998 h6;have hf:=IH w hk h6 m h.six;have ho:=h.obj;unfold D6 Ro;simp only [Instr.lookup,Sem.run_bind,run_underlying hm,Result.andThen_ok,getObj,Sem.run,ho];cases hfe:BG k 0 m with
 | none=>cases ok <;> simp [hz,hc,hf,hfe]
 | some p=>cases ok <;> simp [hc,hf,hfe]
theorem Up (hm:P.underlying mt=some (.map kt vt)) (hk:Hk P kt et) {r:Nat} {m:List (List Int×Value)} (h:AN w r m) {k:List Int} (h6:k.length=6) (v:Value) :
 ∃ w',(Instr.mapUpdate mt (.map (some r)) (BD k) v).run P w = .ok () w'∧AN w' r (Hm m k v)∧w.grownBy w' (some r):=by
 have hc:∀ em,(Instr.checkKey em 10000 kt (BD k)).run P w = .ok () w:=fun em=>Hl w hk em 9998 h6;have hf:=IH w hk h6 m h.six;have ho:=h.obj;have hlt:=h.lt;have hgr:∀ o:Obj,w.grownBy { w with heap:=w.heap.setIfInBounds r o } (some r):=by
  intro o;refine ⟨rfl,rfl,rfl,by simp,fun j _ hne => ?_⟩;have:r≠j:=by rintro rfl; exact hne rfl
  simp only;rw [Array.getElem?_setIfInBounds_ne this]
 have hob:∀ o:Obj,({ w with heap:=w.heap.setIfInBounds r o }:World).heap[r]?=some o:=by
  intro o;simp only;rw [Array.getElem?_setIfInBounds_self_of_lt hlt]
 unfold Hm;cases hfe:BG k 0 m with
 | none =>
  refine ⟨_, ?_,⟨hob (.map (B4 0 (m ++ [(k,v)])).toArray (m.length+1)) |>.trans (by simp), ?_, ?_⟩,hgr _⟩
  · simp only [Instr.mapUpdate,Sem.run_bind,run_underlying hm,Result.andThen_ok,getObj,setObj,Sem.run,ho,hc];rw [hf];simp [hfe,Sem.run,ho,IG]
  · intro p hp;rcases List.mem_append.1 hp with hp | hp
    · exact h.six p hp
    · simp only [List.mem_singleton] at hp;subst hp;exact h6
  · rw [List.map_append,List.nodup_append];refine ⟨h.nodup,by simp, ?_⟩;intro a ha b hb;simp only [List.map_cons,List.map_nil,List.mem_singleton] at hb;subst hb;rintro rfl;exact Bp.1 hfe ha
 | some p =>
  obtain ⟨i,v0⟩:=p;obtain ⟨_,hi⟩:=DV hfe;rw [Nat.sub_zero] at hi;have hil:i < m.length:=by
   rcases Nat.lt_or_ge i m.length with h | h
   · exact h
   · simp [List.getElem?_eq_none h] at hi
  have hkeys:(m.set i (k,v)).map (·.1)=m.map (·.1):=by
   rw [List.map_set];apply List.ext_getElem?;intro t;rw [List.getElem?_set];by_cases ht:i=t
   · subst ht;have hmi:m[i]=(k,v0):=by rw [List.getElem?_eq_getElem hil] at hi; simpa using hi
     simp [hil,hmi]
   · simp [ht]
  refine ⟨_, ?_,⟨hob (.map (B4 0 (m.set i (k,v))).toArray m.length) |>.trans (by simp), ?_, ?_⟩,hgr _⟩
  · simp only [Instr.mapUpdate,Sem.run_bind,run_underlying hm,Result.andThen_ok,getObj,Sem.run,ho,hc];rw [hf];have hold:(B4 0 m)[i]?=some { key:=BD k,val:=v0,born:=0+i }:=by
     rw [Ex,hi];rfl
    have hmod:((B4 0 m).modify i fun e=>{ key:=BD k,val:=v,born:=e.born })=B4 0 (m.set i (k,v)):=by
     rw [Th _ _ _ _ _ hil];apply List.ext_getElem?;intro t;rw [List.getElem?_modify,List.getElem?_set,CQ];by_cases ht:i=t
     · subst ht;simp [hold,hil]
     · simp [ht]
    simp [hfe,hold,Instr.keyThatStays,MH,setObj,Sem.run,ho,hmod]
  · intro p hp;have:p.1∈(m.set i (k,v)).map (·.1):=List.mem_map_of_mem hp;rw [hkeys] at this;obtain ⟨q,hq,e⟩:=List.mem_map.1 this;rw [←e];exact h.six q hq
  · rw [hkeys]; exact h.nodup
end
def AG (w:World) (it r n:Nat) (seen:List Nat):Prop:=w.heap[it]?=some (.mapIter (some r) n seen.toArray n)
theorem AG.lt (h:AG w it r n seen):it < w.heap.size:=by
 rcases Nat.lt_or_ge it w.heap.size with hlt | hge
 · exact hlt
 · unfold AG at h; rw [Array.getElem?_eq_none hge] at h; cases h
theorem AG.ext (h:AG w it r n seen) (e:Ext w w'):AG w' it r n seen:=(e.block h.lt).trans h
theorem AG.kept (h:AG w it r n seen) (hg:w.grownBy w' row) (hne:some it≠row):AG w' it r n seen:=(hg.block it h.lt hne).trans h
theorem Oe {e:MapEntry} (h:e∈B4 0 m):∃ i k v,m[i]?=some (k,v)∧e={ key:=BD k,val:=v,born:=i }:=by
 obtain ⟨i,hi⟩:=List.mem_iff_getElem?.1 h;rw [Ex] at hi;cases hm:m[i]? with
 | none=>rw [hm] at hi; cases hi
 | some p =>
  rw [hm] at hi;refine ⟨i,p.1,p.2,hm, ?_⟩;simpa using hi.symm
theorem Hn {e:MapEntry} (h:e∈B4 0 m):e.born < m.length:=by
 obtain ⟨i,k,v,hm,rfl⟩:=Oe h;rcases Nat.lt_or_ge i m.length with h | h
 · exact h
 · simp [List.getElem?_eq_none h] at hm
theorem LL:∀ (j:Nat) (m:List (List Int×Value)) (i:Nat) (k:List Int) (v:Value),m[i]?=some (k,v)→(B4 j m).find? (fun e=>e.born == j+i)=some { key:=BD k,val:=v,born:=j+i }
 | _,[],_,_,_,h=>by simp at h
 | j,(k',v') :: r,0,k,v,h=>by
  simp only [List.getElem?_cons_zero,Option.some.injEq,Prod.mk.injEq] at h;obtain ⟨rfl,rfl⟩:=h;simp [B4]
 | j,(k',v') :: r,i+1,k,v,h=>by
  have ih:=LL (j+1) r i k v (by simpa using h);rw [show j+(i+1)=j+1+i by omega];unfold B4;rw [List.find?_cons_of_neg (by simp; omega)];exact ih
section
variable {P:Program} {mt kt vt:TypeId} {w:World}
theorem Rp (hm:P.underlying mt=some (.map kt vt)) {r:Nat} {m:List (List Int×Value)} (h:AN w r m) :
 (Instr.range mt (.map (some r))).run P w = .ok (.pointer (some ⟨w.heap.size,0,none⟩)) (w.alloc (.mapIter (some r) m.length #[] m.length)):=by
 have ho:=h.obj;simp [Instr.range,run_underlying hm,getObj,Sem.run,ho,newObj]
theorem Ti (h:AN w r m) (hi:AG w it r m.length seen) :
 ((∀ i,i < m.length→i∈seen)∧(Instr.next (.pointer (some ⟨it,0,none⟩)) false t).run P w = .ok (.tuple #[.bool false]) w) ∨
 ∃ i k v w',i < m.length∧i ∉ seen∧m[i]?=some (k,v)∧(Instr.next (.pointer (some ⟨it,0,none⟩)) false t).run P w = .ok (.tuple #[.bool true,BD k,v]) w' ∧
  AG w' it r m.length (seen ++ [i])∧w.grownBy w' (some it):=by
 have ho:=h.obj;have hio:w.heap[it]?=some (.mapIter (some r) m.length seen.toArray m.length):=hi;have hall:(!seen.toArray.isEmpty && !(B4 0 m).toArray.isEmpty && (B4 0 m).toArray.all (fun e=>decide (e.born ≥ m.length)))=false:=by
  cases m with
  | nil=>simp [B4]
  | cons p q =>
   obtain ⟨k,v⟩:=p;simp [B4]
 have hold:((B4 0 m).toArray.filter (fun e => !seen.toArray.contains e.born)).filter (fun e=>decide (e.born < m.length))=(B4 0 m).toArray.filter (fun e => !seen.toArray.contains e.born):=by
  apply Array.ext';simp only [Array.toList_filter];rw [List.filter_eq_self];intro e he;have:=(List.mem_filter.1 he).1;simpa using Hn (by simpa using this)
 have hnew:((B4 0 m).toArray.filter (fun e => !seen.toArray.contains e.born)).filter (fun e=>decide (e.born ≥ m.length))=#[]:=by
  apply Array.ext';simp only [Array.toList_filter];rw [List.filter_eq_nil_iff];intro e he;have:=(List.mem_filter.1 he).1;have:=Hn (by simpa using this);simp;omega
 generalize hl:(B4 0 m).toArray.filter (fun e => !seen.toArray.contains e.born)=left at *
 have hleft:∀ e∈left,∃ i k v,m[i]?=some (k,v)∧i ∉ seen∧e={ key:=BD k,val:=v,born:=i }:=by
  intro e he;rw [←hl] at he;obtain ⟨h1,h2⟩:=Array.mem_filter.1 he;obtain ⟨i,k,v,hm,rfl⟩:=Oe (by simpa using h1);exact ⟨i,k,v,hm,by simpa using h2,rfl⟩
 by_cases hempty:left=#[]
 · left;refine ⟨?_, ?_⟩
   · intro i hi';by_cases hs:i∈seen
     · exact hs
     · exfalso;have:({ key:=BD m[i].1,val:=m[i].2,born:=i }:MapEntry)∈left:=by
        rw [←hl,Array.mem_filter];refine ⟨?_,by simpa using hs⟩;rw [List.mem_toArray,List.mem_iff_getElem?];exact ⟨i,by rw [Ex,List.getElem?_eq_getElem hi']; simp⟩
       rw [hempty] at this;simp at this
   · simp only [Instr.next,Sem.run_bind,getObj,Sem.run,hio,ho,Result.andThen_ok];simp only [hall,hl,hold,hnew];simp [hempty,choose,Sem.run,Question.forced]
 · right;have hpos:0 < left.size:=by
    rcases Nat.eq_zero_or_pos left.size with h0 | h0
    · exact absurd (Array.eq_empty_of_size_eq_zero h0) hempty
    · exact h0
   obtain ⟨c,w1,hc,hch,hw1⟩:∃ c w1,c < left.size∧(choose (.mapNext left.size)).run P w = .ok c w1∧(w1=w∨w1=w.drew):=by
    by_cases h1:left.size≤1
    · exact ⟨0,w,hpos,by simp [choose,Sem.run,Question.forced,h1], .inl rfl⟩
    · refine ⟨w.tape w.drawn (.mapNext left.size) % left.size,w.drew,Nat.mod_lt _ hpos, ?_, .inr rfl⟩;simp [choose,Sem.run,Question.forced,h1,Question.cut]
   obtain ⟨i,k,v,hm,hs,he⟩:=hleft left[c] (Array.getElem_mem hc);have hil:i < m.length:=by
    rcases Nat.lt_or_ge i m.length with h | h
    · exact h
    · simp [List.getElem?_eq_none h] at hm
   have hw1o:w1.heap=w.heap:=by rcases hw1 with rfl | rfl <;> rfl
   have hio1:w1.heap[it]?=some (.mapIter (some r) m.length seen.toArray m.length):=by rw [hw1o]; exact hio
   refine ⟨i,k,v,{ w1 with heap:=w1.heap.setIfInBounds it (.mapIter (some r) m.length (seen.toArray.push i) m.length) },hil,hs,hm, ?_, ?_, ?_⟩
   · simp only [Instr.next,Sem.run_bind,getObj,Sem.run,hio,ho,Result.andThen_ok];simp only [hall,hl,hold,hnew];have hcand:((if left.isEmpty=true then #[none] else #[]) ++ (left ++ #[]).map some)=left.map some:=by
      simp [hempty]
     simp only [hcand];have hsz:(left.map some).size=left.size:=by simp
     simp only [hsz,Bool.false_eq_true,if_false,Sem.run_bind,Result.andThen_ok,hch];have hget:(left.map some)[c]?=some (some { key:=BD k,val:=v,born:=i }):=by
      rw [Array.getElem?_map,Array.getElem?_eq_getElem hc,he];rfl
     simp only [hget];simp [setObj,Sem.run,hio1]
   · show ({ w1 with heap:=w1.heap.setIfInBounds it _ }:World).heap[it]?=_;have:it < w1.heap.size:=by rw [hw1o]; exact hi.lt
     simp only;rw [Array.getElem?_setIfInBounds_self_of_lt this];simp
   · refine ⟨by rcases hw1 with rfl | rfl <;> rfl,by rcases hw1 with rfl | rfl <;> rfl,by rcases hw1 with rfl | rfl <;> rfl,by simp [hw1o],fun j _ hne => ?_⟩;have:it≠j:=by rintro rfl; exact hne rfl
     simp only;rw [Array.getElem?_setIfInBounds_ne this,hw1o]
theorem Rq (h:AN w r m) (hi:AG w it r m.length (seen ++ [i])) (hm:m[i]?=some (k,v)) :
 (Instr.entry (.pointer (some ⟨it,0,none⟩))).run P w = .ok (.tuple #[BD k,v]) w:=by
 have ho:=h.obj;have hio:w.heap[it]?=some (.mapIter (some r) m.length (seen ++ [i]).toArray m.length):=hi;have hf:=LL 0 m i k v hm;rw [Nat.zero_add] at hf;simp [Instr.entry,getObj,Sem.run,hio,ho,hf]
theorem Ho (hgd:o.guard=none) (ho:o.op = .makeMap mt none)
 (hK:∀ w',AN w' w.heap.size []→Ext w w'→w.heap.size < w'.heap.size→wpList P ops Q rest (f.put o.dst (.map (some w.heap.size))) w'):wpList P ops Q (o :: rest) f w:=by
 refine wpList_plain hgd fun K hK' => ?_;unfold Oper.wp execOp;have hr:(Instr.makeMap mt none).run P w = .ok (.map (some w.heap.size)) (w.alloc (.map #[] 0)):=by
  simp [Instr.makeMap,newObj,Sem.run]
 simp only [ho,Option.map_none,Sem.run_bind,hr,Result.andThen_ok,Sem.run_pure,Oper.upon];exact hK' _ _ (hK _ ⟨heap_alloc_new w _,by simp,by simp⟩ ((Ext.refl w).alloc _) (by simp))
theorem C7 (hgd:o.guard=none) (ho:o.op = .lookup mt x y ok)
 (hm:P.underlying mt=some (.map kt vt)) (hk:Hk P kt et) {z:Value} (hz:∀ w,(zeroValue vt).run P w = .ok z w) {r:Nat} {m:List (List Int×Value)} {k:List Int}
 (hx:f.eval x = .map (some r)) (hy:f.eval y=BD k) (h:AN w r m) (h6:k.length=6)
 (hK:wpList P ops Q rest (f.put o.dst (if ok then .tuple #[D6 z m k, .bool (Ro m k)] else D6 z m k)) w):wpList P ops Q (o :: rest) f w:=by
 refine wpList_plain hgd fun K hK' => ?_;unfold Oper.wp execOp;simp only [ho,hx,hy,Sem.run_bind,Gw hm hk (hz w) h h6 ok,Result.andThen_ok,Sem.run_pure,Oper.upon];exact hK' _ _ hK
theorem Kx (hgd:o.guard=none) (ho:o.op = .mapUpdate mt x y u∨o.op = .insert mt x y u)
 (hm:P.underlying mt=some (.map kt vt)) (hk:Hk P kt et) {r:Nat} {m:List (List Int×Value)} {k:List Int} {v:Value}
 (hx:f.eval x = .map (some r)) (hy:f.eval y=BD k) (hu:f.eval u=v) (h:AN w r m) (h6:k.length=6)
 (hK:∀ w',AN w' r (Hm m k v)→w.grownBy w' (some r)→wpList P ops Q rest (f.put o.dst undef) w'):wpList P ops Q (o :: rest) f w:=by
 refine wpList_plain hgd fun K hK' => ?_;obtain ⟨w',hrun,h2,h3⟩:=Up hm hk h h6 v;unfold Oper.wp execOp;rcases ho with ho | ho
 all_goals
  simp only [ho,hx,hy,hu,Sem.run_bind,hrun,Result.andThen_ok,Sem.run_pure,Oper.upon];exact hK' _ _ (hK w' h2 h3)
theorem Ky (hgd:o.guard=none) (ho:o.op = .range mt x)
 (hm:P.underlying mt=some (.map kt vt)) {r:Nat} {m:List (List Int×Value)} (hx:f.eval x = .map (some r)) (h:AN w r m)
 (hK:∀ w',AG w' w.heap.size r m.length []→Ext w w'→w.heap.size < w'.heap.size→wpList P ops Q rest (f.put o.dst (.pointer (some ⟨w.heap.size,0,none⟩))) w'):wpList P ops Q (o :: rest) f w:=by
 refine wpList_plain hgd fun K hK' => ?_;unfold Oper.wp execOp;simp only [ho,hx,Sem.run_bind,Rp hm h,Result.andThen_ok,Sem.run_pure,Oper.upon];exact hK' _ _ (hK _ (heap_alloc_new w _) ((Ext.refl w).alloc _) (by simp))
theorem FV (hgd:o.guard=none) (ho:o.op = .next x false)
 {r it:Nat} {m:List (List Int×Value)} {seen:List Nat} (hx:f.eval x = .pointer (some ⟨it,0,none⟩)) (h:AN w r m) (hi:AG w it r m.length seen)
 (h1:(∀ i,i < m.length→i∈seen)→wpList P ops Q rest (f.put o.dst (.tuple #[.bool false])) w)
 (h2:∀ i k v w',i < m.length→i ∉ seen→m[i]?=some (k,v)→AG w' it r m.length (seen ++ [i])→w.grownBy w' (some it)→wpList P ops Q rest (f.put o.dst (.tuple #[.bool true,BD k,v])) w') :
 wpList P ops Q (o :: rest) f w:=by
 refine wpList_plain hgd fun K hK' => ?_;unfold Oper.wp execOp;rcases Ti (P:=P) (t:=o.type) h hi with ⟨hs,hr⟩ | ⟨i,k,v,w',a1,a2,a3,hr,a4,a5⟩
 · simp only [ho,hx,Sem.run_bind,hr,Result.andThen_ok,Sem.run_pure,Oper.upon];exact hK' _ _ (h1 hs)
 · simp only [ho,hx,Sem.run_bind,hr,Result.andThen_ok,Sem.run_pure,Oper.upon];exact hK' _ _ (h2 i k v w' a1 a2 a3 a4 a5)
theorem Kz (hgd:o.guard=none) (ho:o.op = .entry x)
 {r it i:Nat} {m:List (List Int×Value)} {seen:List Nat} {k:List Int} {v:Value} (hx:f.eval x = .pointer (some ⟨it,0,none⟩)) (h:AN w r m) (hi:AG w it r m.length (seen ++ [i])) (hm:m[i]?=some (k,v))
 (hK:wpList P ops Q rest (f.put o.dst (.tuple #[BD k,v])) w):wpList P ops Q (o :: rest) f w:=by
 refine wpList_plain hgd fun K hK' => ?_;unfold Oper.wp execOp;simp only [ho,hx,Sem.run_bind,Rq h hi hm,Result.andThen_ok,Sem.run_pure,Oper.upon];exact hK' _ _ hK
end
def CA (w:World) (base:Nat) (e:TypeId) (a:Option Addr) (n c:Nat) (cs:List Value):Prop :=
 cs.length=n∧n≤c∧c≤maxLen∧((a=none∧c=0)∨∃ g off cur,a=some ⟨g,off,none⟩∧base≤g∧w.heap[g]?=some (.cells cur e (0,0))∧off+c≤cur.size∧(cur.toList.drop off).take n=cs)
section
variable {w w':World} {base:Nat} {e:TypeId} {a:Option Addr} {n c:Nat} {cs:List Value}
theorem CA.of (h:Own w base e a n c cs):CA w base e a n c cs:=by
 refine ⟨h.len,h.cap,h.sl.max, ?_⟩;rcases h.2 with ⟨hv,_⟩ | ⟨g,cap,cur,hv,hb,hh,hnc,hm,hs,ht⟩
 · simp only [Value.slice.injEq] at hv;exact Or.inl ⟨hv.1,hv.2.2⟩
 · simp only [Value.slice.injEq] at hv;obtain ⟨rfl,_,rfl⟩:=hv;exact Or.inr ⟨g,0,cur,rfl,hb,hh,by omega,by simpa using ht⟩
theorem CA.len (h:CA w base e a n c cs):cs.length=n:=h.1
theorem CA.sl (h:CA w base e a n c cs):Sl w a n c cs:=by
 obtain ⟨hl,hc,hm,h⟩:=h;refine ⟨hl,hc,hm,fun h0 => ?_⟩;rcases h with ⟨_,h1⟩ | ⟨g,off,cur,ha,_,hh,hs,ht⟩
 · omega
 · refine ⟨g,off,ha,fun i hi => ?_⟩;have e1:cs.getD i undef=cur.toList.getD (off+i) undef:=by
    rw [←ht];simp [hi]
   have hi2:off+i < cur.size:=by omega
   rw [e1];simp [World.cell?,hh,hi2]
theorem CA.lt (h:CA w base e a n c cs) {k:Nat} (hk:blk a=some k):base≤k∧k < w.heap.size:=by
 rcases h.2.2.2 with ⟨ha,_⟩ | ⟨g,off,cur,ha,hb,hh,_⟩
 · subst ha; simp [blk] at hk
 · subst ha;have:g=k:=by simpa [blk] using hk
   subst this;refine ⟨hb, ?_⟩;rcases Nat.lt_or_ge g w.heap.size with h | h
   · exact h
   · simp [Array.getElem?_eq_none h] at hh
theorem CA.of_block (h:CA w base e a n c cs) (hb:∀ k,blk a=some k→w'.heap[k]?=w.heap[k]?):CA w' base e a n c cs:=by
 obtain ⟨hl,hc,hm,h⟩:=h;refine ⟨hl,hc,hm, ?_⟩;rcases h with h | ⟨g,off,cur,ha,hbg,hh,r⟩
 · exact Or.inl h
 · exact Or.inr ⟨g,off,cur,ha,hbg,by rw [hb g (by subst ha; rfl)]; exact hh,r⟩
theorem CA.ext (h:CA w base e a n c cs) (k:Ext w w'):CA w' base e a n c cs:=h.of_block fun _ hk=>k.block (h.lt hk).2
theorem CA.kept (h:CA w base e a n c cs) (hg:w.grownBy w' row) (hne:blk a=none∨blk a≠row):CA w' base e a n c cs :=
 h.of_block fun k hk=>hg.block k (h.lt hk).2 (by
  rcases hne with h1 | h1
  · rw [h1] at hk; cases hk
  · rw [←hk]; exact h1)
theorem CA.from (h:CA w base e a n c cs) {k:Nat} (hk:k≤n):CA w base e (if c=k then a else a.map (fun x=>x.add k)) (n - k) (c - k) (cs.drop k):=by
 obtain ⟨hl,hc,hm,h⟩:=h;refine ⟨by simp; omega,by omega,by omega, ?_⟩;rcases h with ⟨ha,h0⟩ | ⟨g,off,cur,ha,hbg,hh,hs,ht⟩
 · subst ha;left;refine ⟨by simp,by omega⟩
 · subst ha;right;by_cases hck:c=k
   · rw [if_pos hck];refine ⟨g,off,cur,rfl,hbg,hh,by omega, ?_⟩;rw [show n - k=0 by omega,List.take_zero,List.drop_of_length_le (show cs.length≤k by omega)]
   · rw [if_neg hck];refine ⟨g,off+k,cur, ?_,hbg,hh,by omega, ?_⟩
     · simp only [Option.map_some,Addr.add];by_cases h0:k=0 <;> simp [h0]
     · rw [←ht,List.drop_take,List.drop_drop]
end
theorem MI {α:Type} (l news:List α) (o n m:Nat) (hn:news.length=m) (hlen:o+n+m≤l.length) :
 ((l.take (o+n) ++ news ++ l.drop (o+n+m)).drop o).take (n+m)=(l.drop o).take n ++ news:=by
 apply List.ext_getElem?;intro i;by_cases h1:i < n
 · rw [List.getElem?_take,if_pos (by omega),List.getElem?_drop,List.append_assoc,List.getElem?_append_left (by simp; omega),List.getElem?_take,if_pos (by omega),
    List.getElem?_append_left (by simp; omega),List.getElem?_take,if_pos h1,List.getElem?_drop]
 · by_cases h2:i < n+m
   · rw [List.getElem?_take,if_pos h2,List.getElem?_drop,List.append_assoc,List.getElem?_append_right (by simp; omega),List.getElem?_append_left (by simp; omega),
      List.getElem?_append_right (by simp; omega)]
     congr 1;simp;omega
   · rw [List.getElem?_eq_none (by simp; omega),List.getElem?_eq_none (by simp; omega)]
section
variable {P:Program} {w:World}
theorem Tj {xs:List Value} {m:Nat} 
 (ht:P.underlying t=some (.slice e)) (hinfo:Bh P e z bytes) (hz1:z.cells.size=1) (hown:CA w base e a n c xs) (hsl:Sl w A m cx news)
 (h1:∀ u∈news,u.oneCell'=true) (h63:n+m≤maxLen) (hbytes:(n+m)*bytes≤140737488355328) (hbase:base≤w.heap.size) (hm0:0 < m) :
 ∃ a' c' w',(Builtin.append_ #[t,t] ty #[.slice a n c, .slice A m cx]).run P w = .ok (.slice a' (n+m) c') w'∧CA w' base e a' (n+m) c' (xs ++ news) ∧
  w.grownBy w' (blk a)∧(blk a'=blk a∨blk a'=some w.heap.size):=by
 obtain ⟨i,hi,hz,hsize,hby⟩:=info_parts hinfo;obtain ⟨hl,hnc,hmx,hcase⟩:=hown;obtain ⟨b,off,hA,hc⟩:=hsl.rd hm0;subst hA;have hcells:∀ j u,news[j]?=some u→w.cell? ((⟨b,off,none⟩:Addr).add j)=some u:=by
  intro j u hu;have hj:j < news.length:=by
   rcases Nat.lt_or_ge j news.length with h | h
   · exact h
   · simp [List.getElem?_eq_none h] at hu
  have h2:=hc j (by have:=hsl.len; omega);have h3:news.getD j undef=u:=by rw [gqq,hu]; rfl
  rw [h3] at h2;rw [←h2];unfold Addr.add;by_cases h0:j=0 <;> simp [h0]
 have hnl:news.length=m:=hsl.len;have hf:=run_firstCells_some (P:=P) w i.size m ⟨b,off,none⟩ m cx news (by rw [hsize]; omega) hcells;by_cases hroom:n+m≤c
 · rcases hcase with ⟨_,h0⟩ | ⟨g,o,cur,ha,hb,hh,hs,htk⟩
   · omega
   · subst ha;have hst:=run_storeCells_at P g (o+n) e news 0 cur w hh (by omega) h1;refine ⟨some ⟨g,o,none⟩,c,_, ?_,⟨by simp [hl,hnl],hroom,hmx,Or.inr ⟨g,o,(cur.toList.take (o+n) ++ news ++ cur.toList.drop (o+n+m)).toArray,rfl,hb, ?_, ?_, ?_⟩⟩,BJ w g (cur.toList.take (o+n) ++ news ++ cur.toList.drop (o+n+m)).toArray,Or.inl rfl⟩
     · have hadd:(⟨g,o,none⟩:Addr).add (n*i.size)=⟨g,o+n,none⟩:=by
        rw [hsize,Nat.mul_one];unfold Addr.add;by_cases h0:n=0 <;> simp [h0]
       simp only [Nat.add_zero,hnl] at hst;simp [Builtin.append_,run_underlying ht,sizeOf,typeInfo,hi,Builtin.lenOf,hroom,hf,hadd,hst]
     · simp [World.setRow,Array.getElem?_modify,hh]
     · simp; omega
     · rw [List.toList_toArray,MI _ _ o n m hnl (by simp; omega),htk]
 · have hold:(Builtin.firstCells i.size n (.slice a n c)).run P w.drew = .ok xs.toArray w.drew:=by
    rcases hcase with ⟨ha,h0⟩ | ⟨g,o,cur,ha,hb,hh,hs,htk⟩
    · subst ha;have:xs=[]:=List.eq_nil_of_length_eq_zero (by omega);subst this;simp [Builtin.firstCells]
    · subst ha;refine run_firstCells_some (P:=P) w.drew i.size n ⟨g,o,none⟩ n c xs (by rw [hsize]; omega) ?_;intro j u hu;have hj:j < xs.length:=by
       rcases Nat.lt_or_ge j xs.length with h | h
       · exact h
       · simp [List.getElem?_eq_none h] at hu
      have hadd:(⟨g,o,none⟩:Addr).add j=⟨g,o+j,none⟩:=by
       unfold Addr.add;by_cases h0:j=0 <;> simp [h0]
      rw [←htk] at hu;rw [List.getElem?_take,if_pos (by omega),List.getElem?_drop] at hu;rw [hadd];rw [Array.getElem?_toList] at hu;show World.cell? w ⟨g,o+j,none⟩=some u;simp only [World.cell?,hh];exact hu
   have hsrc:Src P i.size t (.slice (some ⟨b,off,none⟩) m cx) m news w:=Src.ofSlice w ht ⟨b,off,none⟩ m cx news (by rw [hsize]; omega) hcells h1;have hfit:=growslice_fits (need:=n+m) (old:=c) (bytes:=bytes) (by omega) hbytes;have hrun:=run_append_grow_src (P:=P) w t t ty e i z ht hi hz a n c xs hold (.slice (some ⟨b,off,none⟩) m cx) m news hsrc (by omega) (by unfold maxLen at h63; omega) (by rw [hby]; exact hfit)
   refine ⟨_,_,_,hrun,⟨by simp [hl,hnl],grownCap_ge w _ _ _,grownCap_le_maxLen w _ _ _ h63,Or.inr ⟨w.heap.size,0,(xs ++ news).toArray ++ Builtin.zeroCells z.cells (grownCap w (n+m) c e - (n+m)),rfl,hbase, ?_, ?_, ?_⟩⟩, ?_,Or.inr rfl⟩
   · exact heap_alloc_new w.drew _
   · have:=grownCap_ge w (n+m) c e;simp [size_zeroCells,hz1,hl,hnl];omega
   · simp only [List.drop_zero,Array.toList_append];rw [List.take_append_of_le_length (by simp [hl,hnl]),List.take_of_length_le (by simp [hl,hnl])]
   · refine ⟨rfl,rfl,rfl,by simp,fun k hk _ => ?_⟩;exact Below.heap_alloc w.drew _ k hk
theorem Uq (hgd:o.guard=none)
 (ho:o.op = .call { callee := .builtin .append,args:=#[s,x],argTypes:=#[t,t] })
 {e:TypeId} {z:Value} {bytes base:Nat} {a:Option Addr} {n c:Nat} {xs:List Value} {A:Option Addr} {m cx:Nat} {news:List Value}
 (ht:P.underlying t=some (.slice e)) (hinfo:Bh P e z bytes) (hz1:z.cells.size=1) (hs:f.eval s = .slice a n c) (hown:CA w base e a n c xs) (hx:f.eval x = .slice A m cx) (hsl:Sl w A m cx news)
 (h1:∀ u∈news,u.oneCell'=true) (h63:n+m≤maxLen) (hbytes:(n+m)*bytes≤140737488355328) (hbase:base≤w.heap.size) (hm0:0 < m)
 (h:∀ a' c' w',CA w' base e a' (n+m) c' (xs ++ news)→w.grownBy w' (blk a)→(blk a'=blk a∨blk a'=some w.heap.size)→wpList P ops Q rest (f.put o.dst (.slice a' (n+m) c')) w') :
 wpList P ops Q (o :: rest) f w:=by
 refine wpList_plain hgd fun K hK => ?_;obtain ⟨a',c',w',hrun,h2,h3,h4⟩:=Tj (P:=P) (ty:=o.type) ht hinfo hz1 hown hsl h1 h63 hbytes hbase hm0;unfold Oper.wp execOp;simp only [ho,resolve,invoke,builtin,Sem.run_bind,Sem.run_pure,Result.andThen_ok,List.map_toArray,List.map_cons,List.map_nil,hs,hx,hrun];exact hK _ _ (h a' c' w' h2 h3 h4)
end
theorem CW:Agg prog 70 6:=⟨by kernel_rfl,by kernel_rfl⟩
theorem Br:Hk prog 70 3:=⟨by kernel_rfl,by kernel_rfl,by kernel_rfl⟩
theorem CR (hx:SlI w a n c xs) (h6:n≤6) :
 Calls prog 40 #[.slice a n c] w fun e w'=>e = .returned (BD (Ae xs))∧Ext w w':=by
 have hl:=hx.len;have HL:=Lib.hid hl;clear hl
 go_enter func40,ntmps40
 go_upto_region 2 with (fail)
 have hA0:Arr ((w.alloc (.cells As.toArray 70)).alloc (.cells As.toArray 70)) w.heap.size 70 As:=(Arr.new w _ As).alloc _;have hA1:Arr ((w.alloc (.cells As.toArray 70)).alloc (.cells As.toArray 70)) (w.heap.size+1) 70 As:=by
  have:=Arr.new (w.alloc (.cells As.toArray 70)) 70 As;simpa using this
 have hE:Ext w ((w.alloc (.cells As.toArray 70)).alloc (.cells As.toArray 70)):=((Ext.refl w).alloc _).alloc _;change Code.wp _ _ _ _ ((w.alloc (.cells As.toArray 70)).alloc (.cells As.toArray 70));generalize ((w.alloc (.cells As.toArray 70)).alloc (.cells As.toArray 70))=w0 at *
 have HZ:Hid (As.take 0 ++ xs.map (Value.int .i64) ++ As.drop (0+n)=(Ae xs).map (Value.int .i64)):=by
  have e:xs.length=n:=HL.out;show _=_;rw [List.take_zero,List.nil_append,Nat.zero_add];unfold Ae As;rw [List.map_append,List.map_replicate,List.drop_replicate,e]
 have hAg:Agg prog 70 ((Ae xs).map (Value.int .i64)).length:=by
  rw [List.length_map,AQ (by rw [HL.out]; exact h6)];exact CW
 have hz6:As.length=((Ae xs).map (Value.int .i64)).length:=by
  rw [List.length_map,AQ (by rw [HL.out]; exact h6)];rfl
 have HZ6:=Lib.hid hz6;clear hz6
 go_wp2_with (first
  | (refine Ka (sT:=22) rfl rfl underlying22 Bz rfl rfl hA1 (hx.ext hE) (by omega) (by simp [As]; omega) (A6 _) ?_; intro w1 hB1 hg1; rw [HZ.out] at hB1; have hA0':=hA0.kept hg1 (by simp))
  | (refine A5 rfl rfl hAg rfl hB1 ?_)
  | (refine Aa rfl rfl rfl rfl rfl hAg hA0' HZ6.out (A6 _) ?_; intro w2 hB2 hg2))
 refine bodyPost_ret (v:=BD (Ae xs)) ?_ rfl ⟨rfl,(hE.grown hg1 ?_).grown hg2 ?_⟩
 · exact Al rfl hAg rfl hB2
 · intro k hk;simp at hk;omega
 · intro k hk;simp at hk;omega
def mv6 (a m:List Int) (k:Nat):List Int:=Ae (Ih a m k)
theorem Ur {a m:List Int} {k:Nat} (hp:Ar a=true) (hl:m.length=a.length) (hk:k < a.length):(mv6 a m k).set (a.getD k 0).toNat (m.getD k 0)=mv6 a m (k+1):=by
 have h0:=B3 hp hk;unfold mv6 Ae;rw [show Ih a m (k+1)=(Ih a m k).set (a.getD k 0).toNat (m.getD k 0) from rfl,List.length_set,List.set_append_left _ _ (by rw [Cp]; omega)]
theorem Tk {a m:List Int} (h:m.length≤6):(mv6 a m 0).map (Value.int .i64)=As:=by
 unfold mv6 Ae As Ih;rw [List.length_replicate,List.replicate_append_replicate,List.map_replicate,Nat.add_sub_cancel' h]
theorem MJ {a m:List Int} {k:Nat} (h:m.length≤6):(mv6 a m k).length=6:=AQ (by rw [Cp]; exact h)
theorem Rr (h:i < l.length):(l.map (Value.int .i64)).getD i undef = .int .i64 (l.getD i 0):=by
 simp [h]
theorem Ir (h:i < l.length):(Ae l).getD i 0=l.getD i 0:=by
 unfold Ae;simp [List.getElem?_append_left h]
theorem Gx {m:List Int} (hx:SlI w a n c xs) (p1:Ar xs=true) (hm:m.length=n) :
 Calls prog 39 #[.slice a n c,BD (Ae m)] w fun e w'=>e = .returned (BD (Ae (mvd xs m)))∧Ext w w':=by
 have HX:=Lib.hid hx.len;have h6:n≤6:=by have:=(AF p1).1; have h:=HX.out; omega
 go_enter func39,ntmps39
 go_upto_region 2 with (fail)
 have hm6:(Ae m).length=6:=AQ (by omega);have hwd:(((w.alloc (.cells ((Ae m).map (Value.int .i64)).toArray 70)).alloc (.cells As.toArray 70)).alloc (.cells As.toArray 70)).heap.size=w.heap.size+3:=by simp
 have hB:Arr (((w.alloc (.cells ((Ae m).map (Value.int .i64)).toArray 70)).alloc (.cells As.toArray 70)).alloc (.cells As.toArray 70)) w.heap.size 70 ((Ae m).map (Value.int .i64)):=((Arr.new w _ _).alloc _).alloc _;have hR:Arr (((w.alloc (.cells ((Ae m).map (Value.int .i64)).toArray 70)).alloc (.cells As.toArray 70)).alloc (.cells As.toArray 70)) (w.heap.size+1) 70 As:=by
  have:=(Arr.new (w.alloc (.cells ((Ae m).map (Value.int .i64)).toArray 70)) 70 As).alloc (.cells As.toArray 70);simpa using this
 have hK:Arr (((w.alloc (.cells ((Ae m).map (Value.int .i64)).toArray 70)).alloc (.cells As.toArray 70)).alloc (.cells As.toArray 70)) (w.heap.size+2) 70 As:=by
  have:=Arr.new ((w.alloc (.cells ((Ae m).map (Value.int .i64)).toArray 70)).alloc (.cells As.toArray 70)) 70 As;simpa using this
 have hE:Ext w (((w.alloc (.cells ((Ae m).map (Value.int .i64)).toArray 70)).alloc (.cells As.toArray 70)).alloc (.cells As.toArray 70)):=(((Ext.refl w).alloc _).alloc _).alloc _;change Code.wp _ _ _ _ (((w.alloc (.cells ((Ae m).map (Value.int .i64)).toArray 70)).alloc (.cells As.toArray 70)).alloc (.cells As.toArray 70));generalize (((w.alloc (.cells ((Ae m).map (Value.int .i64)).toArray 70)).alloc (.cells As.toArray 70)).alloc (.cells As.toArray 70))=w0 at *
 have HM:=Lib.hid hm;clear hm;go_wp2
 go_loopw [10] (fun i wr=>∃ k:Nat,k≤n∧i = .int .i64 k∧Ext w wr∧Arr wr w.heap.size 70 ((Ae m).map (Value.int .i64))∧Arr wr (w.heap.size+1) 70 As∧Arr wr (w.heap.size+2) 70 ((mv6 xs m k).map (Value.int .i64))) (fun i _=>n - (intOf i).toNat)
 case atStart=>exact ⟨0,Nat.zero_le _,rfl,hE,hB,hR,by rw [Tk (by rw [HM.out]; exact h6)]; exact hK⟩
 case round =>
  clear hB hR hK hE hwd;obtain ⟨k,hk,rfl,hE,hB,hR,hK⟩:=hrel;have hx:=hx.ext hE;by_cases hlt:k < n
  · obtain ⟨b2,o2,rfl,hc2⟩:=hx.at hlt;have g3:=hc2 k hlt;have hik:=B3 p1 (i:=k) (by have:=HX.out; omega);rw [HX.out] at hik;have e1:=Ur (a:=xs) (m:=m) (k:=k) p1 (by rw [HM.out,HX.out]) (by rw [HX.out]; exact hlt);have gB:=hB.cell (i:=k) (by rw [List.length_map,hm6]; omega);rw [Rr (by rw [hm6]; omega),Ir (by rw [HM.out]; exact hlt)] at gB;generalize hyk:xs.getD k 0=y at *
    generalize hzk:m.getD k 0=z at *
    obtain ⟨y0,y1⟩:=hik;have g1:=hK.cell (i:=y.toNat) (by rw [List.length_map,MJ (by rw [HM.out]; exact h6)]; omega);have g2:=hK.frozen y.toNat
    have EK:=Lib.hid e1;have hk6:(k:Int) < 6:=by omega
    have hy6:y < 6:=by omega
    clear hc2 hyk hzk e1;go_wp2;go_roundw
    case rel =>
     refine ⟨k+1,by omega,by go_num,Ext.setCell hE (by show _≤w.heap.size+2; omega) _,hB.far (by show _≠w.heap.size+2; omega) _,hR.far (by show _≠w.heap.size+2; omega) _, ?_⟩;have:=hK.set y.toNat (.int .i64 z);rw [←List.map_set,EK.out] at this;exact this
    case measure=>simp [intOf]; omega
  · have e:k=n:=by omega
    have hAg:Agg prog 70 ((mv6 xs m k).map (Value.int .i64)).length:=by
     rw [List.length_map,MJ (by rw [HM.out]; exact h6)];exact CW
    have HZ6:Hid (As.length=((mv6 xs m k).map (Value.int .i64)).length):=by
     show _=_;rw [List.length_map,MJ (by rw [HM.out]; exact h6)];rfl
    have HF:Hid (Ae (mvd xs m)=mv6 xs m k):=by
     show _=_;unfold mv6 mvd;rw [HM.out,e]
    clear e
    go_wp2_with (first
     | (refine A5 rfl rfl hAg rfl hK ?_)
     | (refine Aa rfl rfl rfl rfl rfl hAg hR HZ6.out (A6 _) ?_; intro w2 hB2 hg2))
    rw [HF.out];refine bodyPost_ret (v:=BD (mv6 xs m k)) ?_ rfl ⟨rfl,hE.grown hg2 ?_⟩
    · exact Al rfl hAg rfl hB2
    · intro k hk;simp at hk;omega
end Go.Proofs.YtlpgonpfjbhmfaaGreatDoor
