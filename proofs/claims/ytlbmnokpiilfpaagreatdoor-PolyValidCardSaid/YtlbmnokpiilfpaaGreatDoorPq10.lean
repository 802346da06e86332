/- Part Pq10. -/
import Derived.Test.YtlbmnokpiilfpaaGreatDoorPq7
import Derived.WalkKit
set_option linter.all false
set_option maxRecDepth 100000
set_option maxHeartbeats 100000000
namespace Go.Proofs.YtlbmnokpiilfpaaGreatDoor
open Go Go.RowKit
def j9:=@List.pairwise_cons
def jk:=@List.mem_map_of_mem
def jC:=@Int.natAbs_mul
def kf:=@List.nodup_cons
def kX:=@Prod.mk.injEq
def l4:=@Value.pointer.injEq
def lG:=@List.ext_getElem?
def lO:=@List.getElem?_cons_succ
def mc:=@List.getElem?_set
def mp:=@Nat.sub_zero
def mD:=@List.mem_filter
def mK:=@Int.natAbs_add_le
def mR:=@List.ext_getElem
def nI:=@Nat.mul_div_assoc
def nJ:=@List.nodup_append
def nV:=@List.length_pos_of_mem
def od:=@Nat.mul_ne_zero
def og:=@List.mem_iff_getElem?
def om:=@Array.getElem?_setIfInBounds_self_of_lt
def oT:=@Array.getElem?_setIfInBounds
def oW:=@Option.map_none
def oZ:=@Int.natAbs_tdiv
def pm:=@Array.ext'
variable {f:Act} {ops:Array Oper} {ok:Bool} {Q:Exit->Act->World->Prop} {m:List (List Int×Value)} {k:List Int} {seen:List Nat} {rest:List Oper} {it n r:Nat} {o:Oper} {u x y:Operand} {row:Option Nat} {et t:TypeId} {v:Value} {w w':World}
def BI(k:List Int):Value := .agg (k.map (Value.int .i64)).toArray
structure GG(P:Program)(kt et:TypeId):Prop where
 arr:P.underlying kt=some (.array 6 et)
 int:P.underlying et=some (.int .i64)
 size:(P.info? et).map (·.size)=some 1
theorem six(h:k.length=6):∃ a b c d e f,k=[a,b,c,d,e,f]:=by
 match k,h with
 | [a,b,c,d,e,f],_=>exact⟨a,b,c,d,e,f,rfl⟩
section
variable {P:Program} {kt et:TypeId} (w:World)
theorem A0(a:GG P kt et)(cs:Array Value)(i:Nat)(v:Value)(h:cs[i]?=some v):(part et cs i).run P w = .ok v w:=by
 simp[part,isAgg,j4 a.int,h]
theorem I2(c:GG P kt et)(d:Nat)(a b:Int):(Op.equalIn (d+1) et (.int .i64 a) (.int .i64 b)).run P w = .ok (a == b) w:=by
 simp[Op.equalIn,j4 c.int]
theorem Ld(l:GG P kt et)(d:Nat){a b:List Int}(A:a.length=6)(B:b.length=6) :
 (Op.equalIn (d+2) kt (BI a) (BI b)).run P w = .ok (decide (a=b)) w:=by
 obtain⟨m,n,o,p,q,r,rfl⟩:=six A;obtain⟨s,t,v,x,y,z,rfl⟩:=six B;obtain⟨i,C,F⟩:∃ i,P.info? et=some i/\i.size=1:=by
  have:=l.size;cases h:P.info? et with
  | none=>rw[h]at this;cases this
  | some i=>rw[h]at this;exact⟨i,rfl,by simpa using this⟩
 have D:List.range' 0 6=[0,1,2,3,4,5]:=rfl;have he:=fun(a b:Int) (w:World)=>I2 w l d a b;have G:∀ (c e f g j k:Value) (w:World),(part et #[c,e,f,g,j,k] 0).run P w = .ok c w:=fun _ _ _ _ _ _ w=>A0 w l _ 0 _ rfl;have H:∀ (c e f g j k:Value) (w:World),(part et #[c,e,f,g,j,k] 1).run P w = .ok e w:=fun _ _ _ _ _ _ w=>A0 w l _ 1 _ rfl;have I:∀ (c e f g j k:Value) (w:World),(part et #[c,e,f,g,j,k] 2).run P w = .ok f w:=fun _ _ _ _ _ _ w=>A0 w l _ 2 _ rfl
 have J:∀ (c e f g j k:Value) (w:World),(part et #[c,e,f,g,j,k] 3).run P w = .ok g w:=fun _ _ _ _ _ _ w=>A0 w l _ 3 _ rfl;have K:∀ (c e f g j k:Value) (w:World),(part et #[c,e,f,g,j,k] 4).run P w = .ok j w:=fun _ _ _ _ _ _ w=>A0 w l _ 4 _ rfl;have L:∀ (c e f g j k:Value) (w:World),(part et #[c,e,f,g,j,k] 5).run P w = .ok k w:=fun _ _ _ _ _ _ w=>A0 w l _ 5 _ rfl;rw[Op.equalIn];simp only[BI,ij,j4 l.arr,gS];generalize M:Op.equalIn (d+1) et=E at *
 simp[sizeOf,typeInfo,C,F,D,G,H,I,J,K,L,he];by_cases h0:m=s <;> simp[h0];by_cases h1:n=t <;> simp[h1];by_cases h2:o=v <;> simp[h2];by_cases h3:p=x <;> simp[h3];by_cases h4:q=y <;> simp[h4];by_cases h5:r=z <;> simp[h5]
theorem HH(c:GG P kt et)(b:Bool)(d:Nat)(a:Int):(Instr.checkKey b (d+1) et (.int .i64 a)).run P w = .ok () w:=by
 rw[Instr.checkKey];simp[j4 c.int]
theorem GH(k:GG P kt et)(l:Bool)(d:Nat){a:List Int}(m:a.length=6):(Instr.checkKey l (d+2) kt (BI a)).run P w = .ok () w:=by
 obtain⟨y,z,A,B,C,D,rfl⟩:=six m;obtain⟨i,n,p⟩:∃ i,P.info? et=some i/\i.size=1:=by
  have:=k.size;cases h:P.info? et with
  | none=>rw[h]at this;cases this
  | some i=>rw[h]at this;exact⟨i,rfl,by simpa using this⟩
 have o:List.range' 0 6=[0,1,2,3,4,5]:=rfl;have he:=fun(a:Int) (w:World)=>HH w k l d a;have q:∀ (b c e f g j:Value) (w:World),(part et #[b,c,e,f,g,j] 0).run P w = .ok b w:=fun _ _ _ _ _ _ w=>A0 w k _ 0 _ rfl;have r:∀ (b c e f g j:Value) (w:World),(part et #[b,c,e,f,g,j] 1).run P w = .ok c w:=fun _ _ _ _ _ _ w=>A0 w k _ 1 _ rfl;have s:∀ (b c e f g j:Value) (w:World),(part et #[b,c,e,f,g,j] 2).run P w = .ok e w:=fun _ _ _ _ _ _ w=>A0 w k _ 2 _ rfl
 have t:∀ (b c e f g j:Value) (w:World),(part et #[b,c,e,f,g,j] 3).run P w = .ok f w:=fun _ _ _ _ _ _ w=>A0 w k _ 3 _ rfl;have v:∀ (b c e f g j:Value) (w:World),(part et #[b,c,e,f,g,j] 4).run P w = .ok g w:=fun _ _ _ _ _ _ w=>A0 w k _ 4 _ rfl;have x:∀ (b c e f g j:Value) (w:World),(part et #[b,c,e,f,g,j] 5).run P w = .ok j w:=fun _ _ _ _ _ _ w=>A0 w k _ 5 _ rfl;rw[Instr.checkKey];simp only[BI,ij,j4 k.arr,gS];generalize F:Instr.checkKey l (d+1) et=E at *
 simp[sizeOf,typeInfo,n,p,o,q,r,s,t,v,x,he]
end
def Cb:Nat->List (List Int×Value)->List MapEntry
 | _,[]=>[]
 | i,(k,v) :: r=>{ key:=BI k,val:=v,born:=i } :: Cb (i+1) r
structure Br(w:World)(r:Nat)(m:List (List Int×Value)):Prop where
 obj:w.heap[r]?=some (.map (Cb 0 m).toArray m.length)
 six:∀ p∈m,p.1.length=6
 nodup:(m.map (·.1)).Nodup
def CR(k:List Int):Nat->List (List Int×Value)->Option (Nat×Value)
 | _,[]=>none
 | i,(k',v) :: r=>if k=k' then some (i,v)else CR k (i+1) r
theorem Gs{k:List Int}:∀ {i:Nat} {m:List (List Int×Value)},CR k i m=none<->k ∉ m.map (·.1)
 | _,[]=>by simp[CR]
 | i,(k',v) :: r=>by
  unfold CR;by_cases h:k=k'
  · simp[h]
  · simp[h,Gs (i:=i+1) (m:=r)]
theorem Eh:∀ (i:Nat) (m:List (List Int×Value)),(Cb i m).length=m.length
 | _,[]=>rfl
 | i,(_,_) :: r=>by simp[Cb,Eh (i+1) r]
theorem IC:∀ (i:Nat) (m:List (List Int×Value)) (k:List Int) (v:Value),Cb i (m ++ [(k,v)])=Cb i m ++ [{ key:=BI k,val:=v,born:=i+m.length }]
 | _,[],_,_=>rfl
 | i,(_,_) :: r,k,v=>by
  simp only[jT,Cb,IC (i+1) r k v,j8];rw[jR,jW 1]
section
variable {P:Program} {kt et:TypeId} (w:World)
theorem FA(d:GG P kt et){k:List Int}(h6:k.length=6):∀ (m:List (List Int×Value)) (b i:Nat),(∀ p∈m,p.1.length=6) ->
 (Instr.findAsking kt (BI k) (Cb b m) i).run P w = .ok (CR k i m) w
 | [],_,_,_=>by simp[Instr.findAsking,Cb,CR]
 | (k',v) :: r,b,i,h=>by
  have h1:k'.length=6:=h (k',v) (by simp);have c:(Op.equal kt (BI k) (BI k')).run P w = .ok (decide (k=k')) w:=Ld w d 9998 h6 h1;have e:=FA d h6 r (b+1) (i+1) (fun p hp=>h p (by simp[hp]));unfold Cb CR;rw[Instr.findAsking];simp only[ij,c,gS];by_cases a:k=k'
  · simp[a]
  · simp[a,e]
theorem ID(a:GG P kt et){k:List Int}(h6:k.length=6)(m:List (List Int×Value))(h:∀ p∈m,p.1.length=6) :
 (Instr.findKey kt (BI k) (Cb 0 m)).run P w = .ok (CR k 0 m) w:=by
 have c:Instr.findNow (.array 6 et) (BI k) (Cb 0 m) 0=if m=[]then some none else none:=by
  cases m with
  | nil=>rfl
  | cons p r=>obtain⟨d,v⟩:=p;simp[Cb,Instr.findNow,Instr.sameNow]
 simp only[Instr.findKey,ij,j4 a.arr,gS,c];by_cases b:m=[]
 · subst b;simp[CR]
 · simp[b,FA w a h6 m 0 0 h]
end
theorem Br.lt(h:Br w r m):r<w.heap.size:=by
 rcases iH r w.heap.size with b|a
 · exact b
 · have:=h.obj;rw[jY a]at this;cases this
theorem Br.of_block(h:Br w r m)(e:w'.heap[r]?=w.heap[r]?):Br w' r m:=⟨e.trans h.obj,h.six,h.nodup⟩
theorem Br.ext(h:Br w r m)(e:Ext w w'):Br w' r m:=h.of_block (e.block h.lt)
theorem Br.kept(h:Br w r m)(b:w.grownBy w' row)(a:some r≠row):Br w' r m:=h.of_block (b.block r h.lt a)
def Fu(z:Value)(m:List (List Int×Value))(k:List Int):Value:=((CR k 0 m).map (·.2)).getD z
def WR(m:List (List Int×Value))(k:List Int):Bool:=(CR k 0 m).isSome
def NL(m:List (List Int×Value))(k:List Int)(v:Value):List (List Int×Value) :=
 match CR k 0 m with
 | some (i,_)=>m.set i (k,v)
 | none=>m ++ [(k,v)]
theorem JJ{k:List Int}:∀ {j:Nat} {m:List (List Int×Value)} {i:Nat} {v:Value},CR k j m=some (i,v)->j<=i/\m[i-j]?=some (k,v)
 | _,[],_,_,h=>by simp[CR]at h
 | j,(k',v') :: r,i,v,h=>by
  unfold CR at h;by_cases hk:k=k'
  · rw[gY hk]at h;simp only[gK,kX]at h;obtain⟨rfl,rfl⟩:=h;subst hk;simp
  · rw[gT hk]at h;obtain⟨h1,h2⟩:=JJ h;refine⟨by omega,?_⟩;rw[show i-j=(i-(j+1))+1 by omega];simpa using h2
theorem Ew:∀ (j:Nat) (m:List (List Int×Value)) (i:Nat),(Cb j m)[i]?=(m[i]?).map (fun p=>{ key:=BI p.1,val:=p.2,born:=j+i })
 | _,[],_=>by simp[Cb]
 | j,(k,v) :: r,0=>by simp[Cb]
 | j,(k,v) :: r,i+1=>by
  simp only[Cb,lO,Ew (j+1) r i];rw[jR,jW 1 i]
theorem Tl:∀ (j:Nat) (m:List (List Int×Value)) (i:Nat) (k:List Int) (v:Value),i<m.length->Cb j (m.set i (k,v))=(Cb j m).set i { key:=BI k,val:=v,born:=j+i }:=by
 intro j m i k v b;apply lG;intro t;rw[Ew,mc,mc,Eh];by_cases a:i=t
 · subst a;simp[b]
 · simp[a,Ew]
theorem MH(k:List Int):Instr.sameBits 10000 (BI k) (BI k)=true:=by
 have h:∀ (l:List Value) (n:Nat),(∀ v∈l,∃ a,v=Value.int .i64 a)->(l.zip l).all (fun x=>Instr.sameBits n x.1 x.2)=true:=by
  intro l n
  induction l with
  | nil=>intro _;rfl
  | cons v r ih =>
   intro b;obtain⟨a,rfl⟩:=b v (by simp);simp only[List.zip_cons_cons,List.all_cons,jn];refine⟨?_,ih (fun u hu=>b u (by simp[hu]))⟩;cases n <;> simp[Instr.sameBits]
 show Instr.sameBits (9999+1) (.agg _) (.agg _)=true;rw[Instr.sameBits];simp only[beq_self_eq_true,Bool.true_and];exact h _ 9999 (by intro v b;simp only[ie]at b;obtain⟨a,_,rfl⟩:=b;exact⟨a,rfl⟩)
section
variable {P:Program} {kt et mt vt:TypeId} {w:World}
theorem JK(g:P.underlying mt=some (.map kt vt))(f:GG P kt et){z:Value}(j:(zeroValue vt).run P w = .ok z w){r:Nat}{m:List (List Int×Value)}(h:Br w r m){k:List Int}(h6:k.length=6)(b:Bool) :
 (Instr.lookup mt (.map (some r)) (BI k) b).run P w = .ok (if b then .tuple #[Fu z m k,.bool (WR m k)]else Fu z m k) w:=by
 have d:∀ c,(Instr.checkKey c 10000 kt (BI k)).run P w = .ok () w:=fun c=>GH w f c 9998 h6;have e:=ID w f h6 m h.six;have i:=h.obj;unfold Fu WR;simp only[Instr.lookup,ij,j4 g,gS,getObj,Sem.run,i];cases a:CR k 0 m with
 | none=>cases b <;> simp[j,d,e,a]
 | some p=>cases b <;> simp[d,e,a]
theorem Vn(J:P.underlying mt=some (.map kt vt))(I:GG P kt et){r:Nat}{m:List (List Int×Value)}(h:Br w r m){k:List Int}(h6:k.length=6)(v:Value) :
 ∃ E,(Instr.mapUpdate mt (.map (some r)) (BI k) v).run P w = .ok () E/\Br E r (NL m k v)/\w.grownBy E (some r):=by
 have G:∀ A,(Instr.checkKey A 10000 kt (BI k)).run P w = .ok () w:=fun A=>GH w I A 9998 h6;have H:=ID w I h6 m h.six;have z:=h.obj;have B:=h.lt;have l:∀ o:Obj,w.grownBy { w with heap:=w.heap.setIfInBounds r o } (some r):=by
  intro o;refine⟨rfl,rfl,rfl,by simp,fun j _ D => ?_⟩;have:r≠j:=by rintro rfl;exact D rfl
  simp only;rw[mL this]
 have x:∀ o:Obj,({ w with heap:=w.heap.setIfInBounds r o }:World).heap[r]?=some o:=by
  intro o;simp only;rw[om B]
 unfold NL;cases d:CR k 0 m with
 | none =>
  refine⟨_,?_,⟨x (.map (Cb 0 (m ++ [(k,v)])).toArray (m.length+1)) |>.trans (by simp),?_,?_⟩,l _⟩
  · simp only[Instr.mapUpdate,ij,j4 J,gS,getObj,setObj,Sem.run,z,G];rw[H];simp[d,Sem.run,z,IC]
  · intro p hp;rcases iw.1 hp with hp|hp
    · exact h.six p hp
    · simp only[gL]at hp;subst hp;exact h6
  · rw[iJ,nJ];refine⟨h.nodup,by simp,?_⟩;intro a L b F;simp only[ja,jE,gL]at F;subst F;rintro rfl;exact Gs.1 d L
 | some p =>
  obtain⟨i,K⟩:=p;obtain⟨_,n⟩:=JJ d;rw[mp]at n;have f:i<m.length:=by
   rcases iH i m.length with h|h
   · exact h
   · simp[ig h]at n
  have c:(m.set i (k,v)).map (·.1)=m.map (·.1):=by
   rw[mw];apply lG;intro t;rw[mc];by_cases y:i=t
   · subst y;have C:m[i]=(k,K):=by rw[gD f]at n;simpa using n
     simp[f,C]
   · simp[y]
  refine⟨_,?_,⟨x (.map (Cb 0 (m.set i (k,v))).toArray m.length) |>.trans (by simp),?_,?_⟩,l _⟩
  · simp only[Instr.mapUpdate,ij,j4 J,gS,getObj,Sem.run,z,G];rw[H];have g:(Cb 0 m)[i]?=some { key:=BI k,val:=K,born:=0+i }:=by
     rw[Ew,n];rfl
    have s:((Cb 0 m).modify i fun e=>{ key:=BI k,val:=v,born:=e.born })=Cb 0 (m.set i (k,v)):=by
     rw[Tl _ _ _ _ _ f];apply lG;intro t;rw[List.getElem?_modify,mc,Eh];by_cases y:i=t
     · subst y;simp[g,f]
     · simp[y]
    simp[d,g,Instr.keyThatStays,MH,setObj,Sem.run,z,s]
  · intro p hp;have:p.1∈(m.set i (k,v)).map (·.1):=jk hp;rw[c]at this;obtain⟨q,M,e⟩:=ie.1 this;rw[<-e];exact h.six q M
  · rw[c];exact h.nodup
end
def AN(w:World)(it r n:Nat)(seen:List Nat):Prop:=w.heap[it]?=some (.mapIter (some r) n seen.toArray n)
theorem AN.lt(h:AN w it r n seen):it<w.heap.size:=by
 rcases iH it w.heap.size with b|a
 · exact b
 · unfold AN at h;rw[jY a]at h;cases h
theorem AN.ext(h:AN w it r n seen)(e:Ext w w'):AN w' it r n seen:=(e.block h.lt).trans h
theorem AN.kept(h:AN w it r n seen)(b:w.grownBy w' row)(a:some it≠row):AN w' it r n seen:=(b.block it h.lt a).trans h
theorem NM{e:MapEntry}(h:e∈Cb 0 m):∃ i k v,m[i]?=some (k,v)/\e={ key:=BI k,val:=v,born:=i }:=by
 obtain⟨i,a⟩:=og.1 h;rw[Ew]at a;cases b:m[i]? with
 | none=>rw[b]at a;cases a
 | some p =>
  rw[b]at a;refine⟨i,p.1,p.2,b,?_⟩;simpa using a.symm
theorem GI{e:MapEntry}(h:e∈Cb 0 m):e.born<m.length:=by
 obtain⟨i,k,v,a,rfl⟩:=NM h;rcases iH i m.length with h|h
 · exact h
 · simp[ig h]at a
theorem LG:∀ (j:Nat) (m:List (List Int×Value)) (i:Nat) (k:List Int) (v:Value),m[i]?=some (k,v)->(Cb j m).find? (fun e=>e.born == j+i)=some { key:=BI k,val:=v,born:=j+i }
 | _,[],_,_,_,h=>by simp at h
 | j,(k',v') :: r,0,k,v,h=>by
  simp only[kl,gK,kX]at h;obtain⟨rfl,rfl⟩:=h;simp[Cb]
 | j,(k',v') :: r,i+1,k,v,h=>by
  have a:=LG (j+1) r i k v (by simpa using h);rw[show j+(i+1)=j+1+i by omega];unfold Cb;rw[List.find?_cons_of_neg (by simp;omega)];exact a
section
variable {P:Program} {mt kt vt:TypeId} {w:World}
theorem RW(a:P.underlying mt=some (.map kt vt)){r:Nat}{m:List (List Int×Value)}(h:Br w r m) :
 (Instr.range mt (.map (some r))).run P w = .ok (.pointer (some ⟨w.heap.size,0,none⟩)) (w.alloc (.mapIter (some r) m.length #[] m.length)):=by
 have b:=h.obj;simp[Instr.range,j4 a,getObj,Sem.run,b,newObj]
theorem Tn(h:Br w r m)(hi:AN w it r m.length seen) :
 ((∀ i,i<m.length->i∈seen)/\(Instr.next (.pointer (some ⟨it,0,none⟩)) false t).run P w = .ok (.tuple #[.bool false]) w) \/
 ∃ i k v J,i<m.length/\i ∉ seen/\m[i]?=some (k,v)/\(Instr.next (.pointer (some ⟨it,0,none⟩)) false t).run P w = .ok (.tuple #[.bool true,BI k,v]) J /\
  AN J it r m.length (seen ++ [i])/\w.grownBy J (some it):=by
 have L:=h.obj;have x:w.heap[it]?=some (.mapIter (some r) m.length seen.toArray m.length):=hi;have g:(!seen.toArray.isEmpty && !(Cb 0 m).toArray.isEmpty && (Cb 0 m).toArray.all (fun e=>decide (e.born >= m.length)))=false:=by
  cases m with
  | nil=>simp[Cb]
  | cons p q =>
   obtain⟨k,v⟩:=p;simp[Cb]
 have n:((Cb 0 m).toArray.filter (fun e => !seen.toArray.contains e.born)).filter (fun e=>decide (e.born<m.length))=(Cb 0 m).toArray.filter (fun e => !seen.toArray.contains e.born):=by
  apply pm;simp only[Array.toList_filter];rw[List.filter_eq_self];intro e he;have:=(mD.1 he).1;simpa using GI (by simpa using this)
 have l:((Cb 0 m).toArray.filter (fun e => !seen.toArray.contains e.born)).filter (fun e=>decide (e.born >= m.length))=#[]:=by
  apply pm;simp only[Array.toList_filter];rw[List.filter_eq_nil_iff];intro e he;have:=(mD.1 he).1;have:=GI (by simpa using this);simp;omega
 generalize B:(Cb 0 m).toArray.filter (fun e => !seen.toArray.contains e.born)=left at *
 have y:∀ e∈left,∃ i k v,m[i]?=some (k,v)/\i ∉ seen/\e={ key:=BI k,val:=v,born:=i }:=by
  intro e he;rw[<-B]at he;obtain⟨h1,h2⟩:=Array.mem_filter.1 he;obtain⟨i,k,v,C,rfl⟩:=NM (by simpa using h1);exact⟨i,k,v,C,by simpa using h2,rfl⟩
 by_cases a:left=#[]
 · left;refine⟨?_,?_⟩
   · intro i F;by_cases D:i∈seen
     · exact D
     · exfalso;have:({ key:=BI m[i].1,val:=m[i].2,born:=i }:MapEntry)∈left:=by
        rw[<-B,Array.mem_filter];refine⟨?_,by simpa using D⟩;rw[List.mem_toArray,og];exact⟨i,by rw[Ew,gD F];simp⟩
       rw[a]at this;simp at this
   · simp only[Instr.next,ij,getObj,Sem.run,x,L,gS];simp only[g,B,n,l];simp[a,choose,Sem.run,Question.forced]
 · right;have o:0<left.size:=by
    rcases gX left.size with h0|h0
    · exact absurd (Array.eq_empty_of_size_eq_zero h0) a
    · exact h0
   obtain⟨c,d,K,E,f⟩:∃ c d,c<left.size/\(choose (.mapNext left.size)).run P w = .ok c d/\(d=w\/d=w.drew):=by
    by_cases h1:left.size<=1
    · exact⟨0,w,o,by simp[choose,Sem.run,Question.forced,h1],.inl rfl⟩
    · refine⟨w.tape w.drawn (.mapNext left.size)%left.size,w.drew,io _ o,?_,.inr rfl⟩;simp[choose,Sem.run,Question.forced,h1,Question.cut]
   obtain⟨i,k,v,C,D,he⟩:=y left[c] (Array.getElem_mem K);have G:i<m.length:=by
    rcases iH i m.length with h|h
    · exact h
    · simp[ig h]at C
   have b:d.heap=w.heap:=by rcases f with rfl | rfl <;> rfl
   have A:d.heap[it]?=some (.mapIter (some r) m.length seen.toArray m.length):=by rw[b];exact x
   refine⟨i,k,v,{ d with heap:=d.heap.setIfInBounds it (.mapIter (some r) m.length (seen.toArray.push i) m.length) },G,D,C,?_,?_,?_⟩
   · simp only[Instr.next,ij,getObj,Sem.run,x,L,gS];simp only[g,B,n,l];have s:((if left.isEmpty=true then #[none]else #[]) ++ (left ++ #[]).map some)=left.map some:=by
      simp[a]
     simp only[s];have I:(left.map some).size=left.size:=by simp
     simp only[I,lA,mV,ij,gS,E];have z:(left.map some)[c]?=some (some { key:=BI k,val:=v,born:=i }):=by
      rw[Array.getElem?_map,kR K,he];rfl
     simp only[z];simp[setObj,Sem.run,A]
   · show({ d with heap:=d.heap.setIfInBounds it _ }:World).heap[it]?=_;have:it<d.heap.size:=by rw[b];exact hi.lt
     simp only;rw[om this];simp
   · refine⟨by rcases f with rfl | rfl <;> rfl,by rcases f with rfl | rfl <;> rfl,by rcases f with rfl | rfl <;> rfl,by simp[b],fun j _ H => ?_⟩;have:it≠j:=by rintro rfl;exact H rfl
     simp only;rw[mL this,b]
theorem RX{i:Nat}(h:Br w r m)(hi:AN w it r m.length (seen ++ [i]))(c:m[i]?=some (k,v)) :
 (Instr.entry (.pointer (some ⟨it,0,none⟩))).run P w = .ok (.tuple #[BI k,v]) w:=by
 have d:=h.obj;have a:w.heap[it]?=some (.mapIter (some r) m.length (seen ++ [i]).toArray m.length):=hi;have b:=LG 0 m i k v c;rw[iz]at b;simp[Instr.entry,getObj,Sem.run,a,d,b]
theorem GJ(c:o.guard=none)(e:o.op = .makeMap mt none)
 (d:∀ a,Br a w.heap.size []->Ext w a->w.heap.size<a.heap.size->wpList P ops Q rest (f.put o.dst (.map (some w.heap.size))) a):wpList P ops Q (o :: rest) f w:=by
 refine jf c fun K b => ?_;unfold Oper.wp execOp;have g:(Instr.makeMap mt none).run P w = .ok (.map (some w.heap.size)) (w.alloc (.map #[] 0)):=by
  simp[Instr.makeMap,newObj,Sem.run]
 simp only[e,oW,ij,g,gS,iF,Oper.upon];exact b _ _ (d _ ⟨mM w _,by simp,by simp⟩ ((Ext.refl w).alloc _) (by simp))
theorem LH(b:o.guard=none)(g:o.op = .lookup mt x y ok)
 (e:P.underlying mt=some (.map kt vt)) (d:GG P kt et) {z:Value} (l:∀ w,(zeroValue vt).run P w = .ok z w) {r:Nat} {m:List (List Int×Value)} {k:List Int}
 (i:f.eval x = .map (some r)) (j:f.eval y=BI k) (h:Br w r m) (h6:k.length=6)
 (c:wpList P ops Q rest (f.put o.dst (if ok then .tuple #[Fu z m k,.bool (WR m k)]else Fu z m k)) w):wpList P ops Q (o :: rest) f w:=by
 refine jf b fun K a => ?_;unfold Oper.wp execOp;simp only[g,i,j,ij,JK e d (l w) h h6 ok,gS,iF,Oper.upon];exact a _ _ c
theorem PG(e:o.guard=none)(c:o.op = .mapUpdate mt x y u\/o.op = .insert mt x y u)
 (j:P.underlying mt=some (.map kt vt)) (i:GG P kt et) {r:Nat} {m:List (List Int×Value)} {k:List Int} {v:Value}
 (l:f.eval x = .map (some r)) (n:f.eval y=BI k) (hu:f.eval u=v) (h:Br w r m) (h6:k.length=6)
 (g:∀ b,Br b r (NL m k v)->w.grownBy b (some r)->wpList P ops Q rest (f.put o.dst undef) b):wpList P ops Q (o :: rest) f w:=by
 refine jf e fun K d => ?_;obtain⟨b,a,h2,h3⟩:=Vn j i h h6 v;unfold Oper.wp execOp;rcases c with c|c
 all_goals
  simp only[c,l,n,hu,ij,a,gS,iF,Oper.upon];exact d _ _ (g b h2 h3)
theorem JL(c:o.guard=none)(g:o.op = .range mt x)
 (e:P.underlying mt=some (.map kt vt)) {r:Nat} {m:List (List Int×Value)} (i:f.eval x = .map (some r)) (h:Br w r m)
 (d:∀ a,AN a w.heap.size r m.length []->Ext w a->w.heap.size<a.heap.size->wpList P ops Q rest (f.put o.dst (.pointer (some ⟨w.heap.size,0,none⟩))) a):wpList P ops Q (o :: rest) f w:=by
 refine jf c fun K b => ?_;unfold Oper.wp execOp;simp only[g,i,ij,RW e h,gS,iF,Oper.upon];exact b _ _ (d _ (mM w _) ((Ext.refl w).alloc _) (by simp))
theorem FY(e:o.guard=none)(j:o.op = .next x false)
 {r d:Nat} {m:List (List Int×Value)} {a:List Nat} (l:f.eval x = .pointer (some ⟨d,0,none⟩)) (h:Br w r m) (hi:AN w d r m.length a)
 (h1:(∀ i,i<m.length->i∈a)->wpList P ops Q rest (f.put o.dst (.tuple #[.bool false])) w)
 (h2:∀ i k v c,i<m.length->i ∉ a->m[i]?=some (k,v)->AN c d r m.length (a ++ [i])->w.grownBy c (some d)->wpList P ops Q rest (f.put o.dst (.tuple #[.bool true,BI k,v])) c) :
 wpList P ops Q (o :: rest) f w:=by
 refine jf e fun K b => ?_;unfold Oper.wp execOp;rcases Tn (P:=P) (t:=o.type) h hi with⟨z,g⟩|⟨i,k,v,c,n,p,q,g,s,y⟩
 · simp only[j,l,ij,g,gS,iF,Oper.upon];exact b _ _ (h1 z)
 · simp only[j,l,ij,g,gS,iF,Oper.upon];exact b _ _ (h2 i k v c n p q s y)
theorem JM(c:o.guard=none)(j:o.op = .entry x)
 {r d i:Nat} {m:List (List Int×Value)} {a:List Nat} {k:List Int} {v:Value} (l:f.eval x = .pointer (some ⟨d,0,none⟩)) (h:Br w r m) (hi:AN w d r m.length (a ++ [i])) (g:m[i]?=some (k,v))
 (e:wpList P ops Q rest (f.put o.dst (.tuple #[BI k,v])) w):wpList P ops Q (o :: rest) f w:=by
 refine jf c fun K b => ?_;unfold Oper.wp execOp;simp only[j,l,ij,RX h hi g,gS,iF,Oper.upon];exact b _ _ e
end
end Go.Proofs.YtlbmnokpiilfpaaGreatDoor
namespace Go.Proofs.YtlbmnokpiilfpaaGreatDoor.Pl
variable {x y:Int} {a b c e:List Int} {d n:Nat} {q:Rat}
abbrev Tm:=List Int×Rat
def coef:List Tm->List Int->Rat
 | [],_=>0
 | t :: r,e=>(if t.1=e then t.2 else 0)+coef r e
theorem coef_app(a b:List Tm)(e:List Int):coef (a ++ b) e=coef a e+coef b e:=by
 induction a with
 | nil=>simp[coef];grind
 | cons t r ih=>simp only[jT,coef,ih];grind
theorem coef_perm{a b:List Tm}(h:a.Perm b)(e:List Int):coef a e=coef b e:=by
 induction h with
 | nil=>rfl
 | cons t _ ih=>simp only[coef,ih]
 | swap s t l=>simp only[coef];grind
 | trans _ _ h1 h2=>rw[h1,h2]
def scl(c:Rat)(l:List Tm):List Tm:=l.map (fun t=>(t.1,c*t.2))
theorem coef_scl(c:Rat)(l:List Tm)(e:List Int):coef (scl c l) e=c*coef l e:=by
 induction l with
 | nil=>simp[scl,coef]
 | cons t r ih =>
  have:scl c (t :: r)=(t.1,c*t.2) :: scl c r:=rfl;rw[this];simp only[coef,ih];by_cases h:t.1=e <;> simp[h] <;> grind
def cmpI(x y:Int):Int:=if x<y then -1 else if y<x then 1 else 0
theorem cmpI_zero:cmpI x y=0<->x=y:=by unfold cmpI;split <;> (try split) <;> omega
theorem cmpI_pos:0<cmpI x y<->y<x:=by unfold cmpI;split <;> (try split) <;> omega
theorem NO:cmpI y x = -cmpI x y:=by unfold cmpI;split <;> (try split) <;> omega
def ordR:List Int->List Int->Int
 | x :: r,y :: s=>if x=y then ordR r s else cmpI y x
 | _,_=>0
def ordE(a b:List Int):Int:=if a.sum=b.sum then ordR a.reverse b.reverse else cmpI a.sum b.sum
theorem LI:∀ a:List Int,ordR a a=0
 | []=>rfl
 | x :: r=>by simp[ordR,LI r]
theorem QL:∀ {a b:List Int},a.length=b.length->ordR a b=0->a=b
 | [],[],_,_=>rfl
 | x :: r,y :: s,hl,h=>by
  by_cases e:x=y
  · simp only[ordR,gY e]at h;rw[e,QL (by simpa using hl) h]
  · simp only[ordR,gT e]at h;exact absurd (cmpI_zero.1 h).symm e
theorem LJ:∀ (a b:List Int),ordR b a = -ordR a b
 | [],[]=>by simp[ordR]
 | [],_ :: _=>by simp[ordR]
 | _ :: _,[]=>by simp[ordR]
 | x :: r,y :: s=>by
  by_cases e:x=y
  · simp only[ordR,gY e,gY e.symm];exact LJ r s
  · simp only[ordR,gT e,gT (fun h:y=x=>e h.symm)];exact NO
theorem JN:∀ {a b c:List Int},0<ordR a b->0<ordR b c->0<ordR a c
 | x :: r,y :: s,z :: t,h1,h2=>by
  by_cases e1:x=y
  · subst e1;by_cases e2:x=z
    · subst e2;simp only[ordR,li]at h1 h2 |-;exact JN h1 h2
    · simp only[ordR,gT e2]at h2 |-;exact h2
  · simp only[ordR,gT e1]at h1;by_cases e2:y=z
    · subst e2;simp only[ordR,gT e1];exact h1
    · simp only[ordR,gT e2]at h2;have g1:=cmpI_pos.1 h1;have d:=cmpI_pos.1 h2;simp only[ordR,gT (show ¬ x=z by omega)];exact cmpI_pos.2 (by omega)
 | [],_,_,h1,_=>by simp[ordR]at h1
 | _ :: _,[],_,h1,_=>by simp[ordR]at h1
 | _ :: _,_ :: _,[],_,h2=>by simp[ordR]at h2
theorem ordE_self(a:List Int):ordE a a=0:=by simp[ordE,LI]
theorem ordE_eq(c:a.length=b.length)(h:ordE a b=0):a=b:=by
 unfold ordE at h;split at h
 · exact List.reverse_inj.1 (QL (by simpa using c) h)
 · rename_i d;exact absurd (cmpI_zero.1 h) d
theorem ordE_anti(a b:List Int):ordE b a = -ordE a b:=by
 unfold ordE;by_cases h:a.sum=b.sum
 · rw[gY h,gY h.symm];exact LJ _ _
 · rw[gT h,gT (fun x=>h x.symm)];exact NO
theorem ordE_trans(h1:0<ordE a b)(h2:0<ordE b c):0<ordE a c:=by
 unfold ordE at *
 by_cases e:a.sum=b.sum
 · rw[gY e]at h1;by_cases d:b.sum=c.sum
   · rw[gY d]at h2;rw[gY (e.trans d)];exact JN h1 h2
   · rw[gT d]at h2;rw[gT (fun h=>d (e.symm.trans h)),e];exact h2
 · rw[gT e]at h1;have f:=cmpI_pos.1 h1;by_cases d:b.sum=c.sum
   · rw[gT (fun h=>e (h.trans d.symm)),<-d];exact h1
   · rw[gT d]at h2;have g:=cmpI_pos.1 h2;rw[gT (by omega)];exact cmpI_pos.2 (by omega)
structure Canon(n:Nat)(l:List Tm):Prop where
 len:∀ t∈l,t.1.length=n
 nz:∀ t∈l,t.2≠0
 desc:l.Pairwise (fun s t=>0<ordE s.1 t.1)
theorem Canon.nil(n:Nat):Canon n []:=⟨by simp,by simp,List.Pairwise.nil⟩
theorem Canon.tail{t:Tm}{r:List Tm}(h:Canon n (t :: r)):Canon n r :=
 ⟨fun s a=>h.len s (by simp[a]),fun s a=>h.nz s (by simp[a]),(j9.1 h.desc).2⟩
theorem coef_absent{l:List Tm}(h:∀ t∈l,t.1≠e):coef l e=0:=by
 induction l with
 | nil=>rfl
 | cons t r ih =>
  simp only[coef,gT (h t (by simp)),ih (fun s a=>h s (by simp[a]))]
  grind
theorem coef_present{l:List Tm}(h:coef l e≠0):∃ t∈l,t.1=e:=by
 refine ia fun a=>h (coef_absent fun t b he=>a ⟨t,b,he⟩)
theorem Canon.head{t:Tm}{r:List Tm}(h:Canon n (t :: r)):coef (t :: r) t.1=t.2:=by
 have:coef r t.1=0:=coef_absent fun s a he=>by
  have:=(j9.1 h.desc).1 s a;rw[he,ordE_self]at this;omega
 simp only[coef,li,this]
 grind
theorem Canon.above{t:Tm}{r:List Tm}(h:Canon n (t :: r)){e:List Int}(he:coef (t :: r) e≠0):e=t.1\/0<ordE t.1 e:=by
 obtain⟨s,a,rfl⟩:=coef_present he;rcases iE.1 a with rfl|a
 · exact Or.inl rfl
 · exact Or.inr ((j9.1 h.desc).1 s a)
theorem canon_ext{n:Nat}:∀ {a b:List Tm},Canon n a->Canon n b->(∀ e,coef a e=coef b e)->a=b
 | [],[],_,_,_=>rfl
 | [],t :: r,_,hb,e=>by
  have h1:=hb.head;rw[<-e]at h1;exact absurd h1.symm (hb.nz t (by simp))
 | t :: r,[],ha,_,e=>by
  have h1:=ha.head;rw[e]at h1;exact absurd h1.symm (ha.nz t (by simp))
 | s :: a,t :: b,ha,hb,e=>by
  have h1:=ha.head;have h2:=hb.head;have i:coef (t :: b) s.1≠0:=by rw[<-e,h1];exact ha.nz s (by simp)
  have j:coef (s :: a) t.1≠0:=by rw[e,h2];exact hb.nz t (by simp)
  have f:s.1=t.1:=by
   rcases hb.above i with h|h
   · exact h
   · rcases ha.above j with d | d
     · exact d.symm
     · have:=ordE_anti s.1 t.1;omega
  have g:s.2=t.2:=by rw[<-h1,<-h2,e,f]
  have c:s=t:=Prod.ext f g;subst c
  rw[canon_ext ha.tail hb.tail (fun x=>by
   have:=e x;simp only[coef]at this
   grind)]
theorem rat_mul_parts(a b:Rat):(a*b).num=a.num.tdiv (a.num.natAbs.gcd b.den:Nat)*b.num.tdiv (b.num.natAbs.gcd a.den:Nat)/\(a*b).den=a.den/(b.num.natAbs.gcd a.den)*(b.den/(a.num.natAbs.gcd b.den)):=by
 have h:a*b=Rat.mul a b:=rfl;rw[h,Rat.mul];simp only[Int.divExact_eq_tdiv,Nat.divExact_eq_div,and_self]
theorem rat_mul_whole(a b:Rat)(c:a.den=1)(d:b.den=1):(a*b).num=a.num*b.num/\(a*b).den=1:=by
 have:=rat_mul_parts a b;rw[c,d]at this;simpa using this
theorem rat_add_parts(a b:Rat) :
 (a+b).num=(a.num*((b.den/a.den.gcd b.den:Nat):Int)+b.num*((a.den/a.den.gcd b.den:Nat):Int)).tdiv (((a.num*((b.den/a.den.gcd b.den:Nat):Int)+b.num*((a.den/a.den.gcd b.den:Nat):Int)).natAbs.gcd (a.den.gcd b.den):Nat):Int) /\
 (a+b).den=(a.den/a.den.gcd b.den)*(b.den/((a.num*((b.den/a.den.gcd b.den:Nat):Int)+b.num*((a.den/a.den.gcd b.den:Nat):Int)).natAbs.gcd (a.den.gcd b.den))):=by
 have h:a+b=Rat.add a b:=rfl
 have c:∀ N:Nat,(a.den/a.den.gcd b.den)*(b.den/(N.gcd (a.den.gcd b.den)))=(a.den/a.den.gcd b.den)*b.den/(N.gcd (a.den.gcd b.den)):=fun N =>
  (nI _ (lL (kF _ _) (kF _ _))).symm
 rw[c,h,Rat.add];simp only;split
 · rename_i d;simp[d]
 · rw[Rat.maybeNormalize_eq];exact⟨Int.divExact_eq_tdiv (Int.ofNat_dvd_left.2 (kL _ _)),rfl⟩
theorem rat_eq_mk{n:Int}(a:d≠0)(b:n.natAbs.Coprime d)(h:q=mkRat n d):q.num=n/\q.den=d:=by
 rw[h,Rat.num_mkRat,Rat.den_mkRat,gT a,gT a];have h1:d.gcd n.natAbs=1:=by rw[kw];exact b
 simp[h1]
theorem rat_num_den_zero:q.num=0<->q=0:=Rat.num_eq_zero
theorem rat_frac{n:Int}(a:d≠0):(mkRat n d).num=n.tdiv (n.natAbs.gcd d:Nat)/\(mkRat n d).den=d/(n.natAbs.gcd d):=by
 rw[Rat.num_mkRat,Rat.den_mkRat,gT a,gT a,kw];refine⟨?_,rfl⟩;have h:((n.natAbs.gcd d:Nat):Int)∣n:=by
  have:=kL n.natAbs d;exact Int.ofNat_dvd_left.2 this
 exact(Int.tdiv_eq_ediv_of_dvd h).symm
def H7(m:List Int):Rat->List Tm->Rat
 | c,[]=>c
 | c,t :: r=>if m=t.1 then H7 m (c+t.2) r else c
def DH(m:List Int):List Tm->List Tm
 | []=>[]
 | t :: r=>if m=t.1 then DH m r else t :: r
theorem Dr(m:List Int):∀ l:List Tm,(DH m l).length<=l.length
 | []=>lrf _
 | t :: r=>by
  unfold DH;split
  · have:=Dr m r;simp;omega
  · exact lrf _
def grp(l:List Tm):List Tm :=
 match l with
 | []=>[]
 | t :: r=>(if H7 t.1 t.2 r=0 then []else [(t.1,H7 t.1 t.2 r)]) ++ grp (DH t.1 r)
termination_by l.length
decreasing_by
 have:=Dr t.1 r;simp;omega
theorem EW:grp []=[]:=by rw[grp]
theorem GK(t:Tm)(r:List Tm):grp (t :: r)=(if H7 t.1 t.2 r=0 then []else [(t.1,H7 t.1 t.2 r)]) ++ grp (DH t.1 r):=by rw[grp]
theorem NQ(m:List Int):∀ (c:Rat) (l:List Tm) (e:List Int),(if m=e then c else 0)+coef l e=(if m=e then H7 m c l else 0)+coef (DH m l) e
 | c,[],e=>rfl
 | c,t :: r,e=>by
  by_cases h:m=t.1
  · simp only[coef,H7,DH,gY h];rw[<-NQ m (c+t.2) r e,<-h];by_cases he:m=e <;> simp[he] <;> grind
  · simp only[H7,DH,gT h]
theorem NS:∀ (n:Nat) (l:List Tm),l.length<=n->∀ e,coef (grp l) e=coef l e
 | 0,l,h,e=>by
  have:l=[]:=gQ (by omega);subst this;rw[EW]
 | n+1,[],_,e=>by rw[EW]
 | n+1,t :: r,h,e=>by
  have h1:=Dr t.1 r;rw[GK,coef_app,NS n (DH t.1 r) (by simp at h;omega) e];have h2:=NQ t.1 t.2 r e;simp only[coef];rw[h2];congr 1;split
  · rename_i h0;rw[h0];simp[coef]
  · simp only[coef];grind
theorem JO(m:List Int):∀ (l:List Tm) (t:Tm),t∈DH m l->t∈l
 | [],t,h=>h
 | s :: r,t,h=>by
  unfold DH at h;split at h
  · exact mi _ (JO m r t h)
  · exact h
theorem QM:∀ (n:Nat) (l:List Tm),l.length<=n->∀ t∈grp l,∃ s∈l,s.1=t.1
 | 0,l,h,t,ht=>by
  have:l=[]:=gQ (by omega);subst this;rw[EW]at ht;exact absurd ht (by simp)
 | n+1,[],_,t,ht=>by rw[EW]at ht;exact absurd ht (by simp)
 | n+1,s :: r,h,t,ht=>by
  have h1:=Dr s.1 r;rw[GK]at ht;rcases iw.1 ht with ht|ht
  · split at ht
    · exact absurd ht (by simp)
    · simp only[gL]at ht;subst ht;exact⟨s,by simp,rfl⟩
  · obtain⟨b,a,e⟩:=QM n (DH s.1 r) (by simp at h;omega) t ht;exact⟨b,mi _ (JO _ _ _ a),e⟩
def desc(l:List Tm):Prop:=l.Pairwise (fun s t=>0<=ordE s.1 t.1)
theorem LK(m:List Int):∀ l:List Tm,desc l->desc (DH m l)
 | [],h=>h
 | t :: r,h=>by
  unfold DH;split
  · exact LK m r (j9.1 h).2
  · exact h
theorem JP{n:Nat}(m:List Int)(b:m.length=n):∀ l:List Tm,(∀ t∈l,t.1.length=n)->(∀ t∈l,0<=ordE m t.1)->desc l->∀ t∈DH m l,0<ordE m t.1
 | [],_,_,_,t,ht=>absurd ht (by simp[DH])
 | s :: r,hl,h,hd,t,ht=>by
  unfold DH at ht;by_cases e:m=s.1
  · rw[gY e]at ht;exact JP m b r (fun x a=>hl x (by simp[a])) (fun x a=>h x (by simp[a])) (j9.1 hd).2 t ht
  · rw[gT e]at ht;have h0:0<ordE m s.1:=by
     have h1:=h s (by simp);have h2:ordE m s.1≠0:=fun h0=>e (ordE_eq (by rw[b,hl s (by simp)]) h0);omega
    rcases iE.1 ht with rfl|ht
    · exact h0
    · have h3:=(j9.1 hd).1 t ht;by_cases h4:ordE s.1 t.1=0
      · rw[<-ordE_eq (by rw[hl s (by simp),hl t (by simp[ht])]) h4];exact h0
      · exact ordE_trans h0 (by omega)
theorem LL{n:Nat}:∀ (k:Nat) (l:List Tm),l.length<=k->(∀ t∈l,t.1.length=n)->desc l->Canon n (grp l)
 | 0,l,h,_,_=>by
  have:l=[]:=gQ (by omega);subst this;rw[EW];exact Canon.nil n
 | k+1,[],_,_,_=>by rw[EW];exact Canon.nil n
 | k+1,t :: r,h,hl,hd=>by
  have h1:=Dr t.1 r;have b:=j9.1 hd;have d:∀ s∈DH t.1 r,s.1.length=n:=fun s a=>hl s (mi _ (JO _ _ _ a));have c:=LL k (DH t.1 r) (by simp at h;omega) d (LK t.1 r b.2);rw[GK];split
  · exact c
  · rename_i g;refine⟨?_,?_,?_⟩
    · intro s a;rcases iE.1 a with rfl|a
      · exact hl t (by simp)
      · exact c.len s a
    · intro s a;rcases iE.1 a with rfl|a
      · exact g
      · exact c.nz s a
    · refine j9.2 ⟨fun s a => ?_,c.desc⟩;obtain⟨j,f,e⟩:=QM _ _ (lrf _) s a;rw[<-e];exact JP t.1 (hl t (by simp)) r (fun x i=>hl x (by simp[i])) b.1 b.2 j f
theorem canon_of_sorted{l:List Tm}(c:∀ t∈l,t.1.length=n)(f:∀ t∈l,t.2≠0)(g:desc l)(i:(l.map (·.1)).Nodup):Canon n l:=by
 refine⟨c,f,?_⟩
 induction l with
 | nil=>exact List.Pairwise.nil
 | cons t r ih =>
  have a:=j9.1 g;have b:=kf.1 i;refine j9.2 ⟨fun s d => ?_,ih (fun x e=>c x (by simp[e])) (fun x e=>f x (by simp[e])) a.2 b.2⟩;have h1:=a.1 s d
  have h2:ordE t.1 s.1≠0:=fun h0=>b.1 (by
   show t.1∈_;rw[ordE_eq (by rw[c t (by simp),c s (by simp[d])]) h0]
   exact jk d)
  omega
end Go.Proofs.YtlbmnokpiilfpaaGreatDoor.Pl
namespace Go.Proofs.YtlbmnokpiilfpaaGreatDoor.Pl
variable {e k:List Int} {seen:List Nat} {a b d n:Nat} {p q:Rat}
def posK{α:Type}(k:List Int):Nat->List (List Int×α)->Option (Nat×α)
 | _,[]=>none
 | i,(k',v) :: r=>if k=k' then some (i,v)else posK k (i+1) r
def getK{α:Type}(z:α)(l:List (List Int×α))(k:List Int):α:=((posK k 0 l).map (·.2)).getD z
def putK{α:Type}(l:List (List Int×α))(k:List Int)(v:α):List (List Int×α) :=
 match posK k 0 l with
 | some (i,_)=>l.set i (k,v)
 | none=>l ++ [(k,v)]
theorem H8{a:Type}(k:List Int):∀ (l:List (List Int×a)) (i:Nat),posK k (i+1) l=(posK k i l).map (fun p=>(p.1+1,p.2))
 | [],_=>rfl
 | (k',v) :: r,i=>by
  unfold posK;by_cases h:k=k'
  · simp[h]
  · simp only[gT h];exact H8 k r (i+1)
theorem H9{b:Type}(z:b)(a:List Int)(v:b)(r:List (List Int×b))(k:List Int):getK z ((a,v) :: r) k=if k=a then v else getK z r k:=by
 unfold getK;rw[posK];by_cases h:k=a
 · simp[h]
 · simp only[gT h];rw[H8];cases posK k 0 r <;> rfl
theorem NV{a:Type}(k:List Int)(v:a):putK [] k v=[(k,v)]:=rfl
theorem FZ{b:Type}(a:List Int)(x:b)(r:List (List Int×b))(k:List Int)(v:b):putK ((a,x) :: r) k v=if k=a then(k,v) :: r else(a,x) :: putK r k v:=by
 unfold putK;rw[posK];by_cases h:k=a
 · simp[h]
 · simp only[gT h];rw[H8];cases hp:posK k 0 r with
   | none=>simp
   | some p=>obtain⟨i,y⟩:=p;simp
theorem putK_length{a:Type}(k:List Int)(v:a):∀ (l:List (List Int×a)),(putK l k v).length<=l.length+1
 | []=>by simp[NV]
 | (k',x) :: r=>by
  rw[FZ];by_cases hk:k=k'
  · simp[hk]
  · have:=putK_length k v r;simp only[gT hk,j8];omega
theorem JQ{l:List Tm}(h:e ∉ l.map (·.1)):coef l e=0:=coef_absent fun t a he=>h (by rw[<-he];exact jk a)
theorem getK_coef:∀ (l:List Tm) (k:List Int),(l.map (·.1)).Nodup->getK 0 l k=coef l k
 | [],k,_=>rfl
 | (k',q) :: r,k,h=>by
  simp only[ja,kf]at h;rw[H9];simp only[coef];by_cases hk:k=k'
  · subst hk;rw[gY rfl,gY rfl,JQ h.1]
    grind
  · rw[gT hk,gT (fun x=>hk x.symm),getK_coef r k h.2]
    grind
theorem LM(k:List Int)(q:Rat):∀ (l:List Tm),(l.map (·.1)).Nodup->∀ e,coef (putK l k q) e=if k=e then q else coef l e
 | [],_,e=>by
  simp only[NV,coef]
  grind
 | (k',x) :: r,h,e=>by
  simp only[ja,kf]at h;rw[FZ];by_cases hk:k=k'
  · subst hk;rw[gY rfl];simp only[coef];by_cases he:k=e
    · subst he;simp only[li];rw[JQ h.1]
      grind
    · simp[he]
  · rw[gT hk];simp only[coef,LM k q r h.2 e];by_cases he:k=e
    · subst he;rw[gT (fun x=>hk x.symm)]
      grind
    · simp[he]
theorem coef_step{l:List Tm}(h:(l.map (·.1)).Nodup)(e:List Int):coef (putK l k (getK 0 l k+q)) e=coef l e+coef [(k,q)] e:=by
 rw[LM k _ l h e,getK_coef l k h];simp only[coef];by_cases he:k=e
 · subst he;simp;grind
 · simp[he];grind
def RelL{α β:Type}(R:α->β->Prop):List (List Int×α)->List (List Int×β)->Prop
 | [],[]=>True
 | (k,v) :: m,(k',q) :: l=>k=k'/\R v q/\RelL R m l
 | _,_=>False
section
variable {α β:Type} {R R':α->β->Prop}
theorem RelL.mono(h:∀ v q,R v q->R' v q):∀ {m:List (List Int×α)} {l:List (List Int×β)},RelL R m l->RelL R' m l
 | [],[],_=>trivial
 | (_,_) :: _,(_,_) :: _,hr=>⟨hr.1,h _ _ hr.2.1,RelL.mono h hr.2.2⟩
 | [],_ :: _,hr=>hr.elim
 | _ :: _,[],hr=>hr.elim
theorem RelL.len:∀ {m:List (List Int×α)} {l:List (List Int×β)},RelL R m l->m.length=l.length
 | [],[],_=>rfl
 | (_,_) :: _,(_,_) :: _,hr=>by simp[RelL.len hr.2.2]
 | [],_ :: _,hr=>hr.elim
 | _ :: _,[],hr=>hr.elim
theorem RelL.keys:∀ {m:List (List Int×α)} {l:List (List Int×β)},RelL R m l->m.map (·.1)=l.map (·.1)
 | [],[],_=>rfl
 | (_,_) :: _,(_,_) :: _,hr=>by simp[RelL.keys hr.2.2,hr.1]
 | [],_ :: _,hr=>hr.elim
 | _ :: _,[],hr=>hr.elim
theorem RelL.get{z:α}{b:β}(a:R z b)(k:List Int):∀ {m:List (List Int×α)} {l:List (List Int×β)},RelL R m l->R (getK z m k) (getK b l k)
 | [],[],_=>a
 | (k1,v) :: m,(k2,q) :: l,hr=>by
  rw[H9,H9,<-hr.1];by_cases h:k=k1
  · simp only[gY h];exact hr.2.1
  · simp only[gT h];exact RelL.get a k hr.2.2
 | [],_ :: _,hr=>hr.elim
 | _ :: _,[],hr=>hr.elim
theorem RelL.put(k:List Int){v:α}{q:β}(a:R v q):∀ {m:List (List Int×α)} {l:List (List Int×β)},RelL R m l->RelL R (putK m k v) (putK l k q)
 | [],[],_=>⟨rfl,a,trivial⟩
 | (k1,x) :: m,(k2,y) :: l,hr=>by
  rw[FZ,FZ,<-hr.1];by_cases h:k=k1
  · simp only[gY h];exact⟨rfl,a,hr.2.2⟩
  · simp only[gT h];exact⟨rfl,hr.2.1,RelL.put k a hr.2.2⟩
 | [],_ :: _,hr=>hr.elim
 | _ :: _,[],hr=>hr.elim
theorem RelL.nth:∀ {m:List (List Int×α)} {l:List (List Int×β)},RelL R m l->∀ {i:Nat} {k:List Int} {v:α},m[i]?=some (k,v)->∃ q,l[i]?=some (k,q)/\R v q
 | [],[],_,i,k,v,h=>by simp at h
 | (k1,x) :: m,(k2,y) :: l,hr,0,k,v,h=>by
  simp only[kl,gK,kX]at h;obtain⟨rfl,rfl⟩:=h;exact⟨y,by simp[hr.1],hr.2.1⟩
 | (k1,x) :: m,(k2,y) :: l,hr,i+1,k,v,h=>by
  obtain⟨q,h1,h2⟩:=RelL.nth hr.2.2 (i:=i) (by simpa using h);exact⟨q,by simpa using h1,h2⟩
 | [],_ :: _,hr,_,_,_,_=>hr.elim
 | _ :: _,[],hr,_,_,_,_=>hr.elim
end
def picked(l:List Tm)(seen:List Nat):List Tm:=(seen.map (fun i=>l.getD i ([],0))).filter (fun t=>decide (t.2≠0))
theorem picked_snoc(l:List Tm)(a:List Nat)(i:Nat):picked l (a ++ [i])=if(l.getD i ([],0)).2=0 then picked l a else picked l a ++ [l.getD i ([],0)]:=by
 unfold picked;rw[iJ,List.filter_append];by_cases h:(l.getD i ([],0)).2=0
 · simp only[gY h,ja,jE];rw[List.filter_cons_of_neg (by simpa using h)];simp
 · simp only[gT h,ja,jE];rw[List.filter_cons_of_pos (by simpa using h)];simp
theorem To{c:Type}[BEq c][LawfulBEq c]{l k:List c}(f:l.Nodup)(e:k.Nodup)(h:∀ a,a∈l<->a∈k):l.Perm k:=by
 rw[List.perm_iff_count];intro a;have h1:=List.nodup_iff_count.1 f a;have h2:=List.nodup_iff_count.1 e a;have h3:0<l.count a<->a∈l:=List.count_pos_iff;have h4:0<k.count a<->a∈k:=List.count_pos_iff;by_cases b:a∈l
 · have:=h3.2 b;have:=h4.2 ((h a).1 b);omega
 · have g:¬ 0<l.count a:=fun h=>b (h3.1 h);have i:¬ 0<k.count a:=fun d=>b ((h a).2 (h4.1 d));omega
theorem nodup_le{a:Type}[BEq a][LawfulBEq a]:∀ (L M:List a),L.Nodup->(∀ x∈L,x∈M)->L.length<=M.length
 | [],_,_,_=>by simp
 | x :: L,M,hn,hs=>by
  rw[kf]at hn;have hx:x∈M:=hs x (by simp);have:=nodup_le L (M.erase x) hn.2 (fun y b=>(List.mem_erase_of_ne (by rintro rfl;exact hn.1 b)).2 (hs y (by simp[b])));rw[List.length_erase_of_mem hx]at this;have:0<M.length:=nV hx;simp only[j8];omega
theorem RY(c:seen.Nodup)(b:∀ i∈seen,i<n)(a:∀ i,i<n->i∈seen):seen.Perm (List.range n):=by
 refine To c List.nodup_range fun i => ?_;rw[lQ];exact⟨b i,a i⟩
theorem RZ{a:Type}(l:List a)(d:a):(List.range l.length).map (fun i=>l.getD i d)=l:=by
 apply mR
 · simp
 · intro i h1 h2;simp[h2]
theorem picked_perm{l:List Tm}(c:seen.Nodup)(b:∀ i∈seen,i<l.length)(a:∀ i,i<l.length->i∈seen):(picked l seen).Perm (l.filter (fun t=>decide (t.2≠0))):=by
 unfold picked;refine List.Perm.filter _ ?_;have h:=(RY c b a).map (fun i=>l.getD i ([],0));rw[RZ]at h;exact h
theorem picked_len(l:List Tm)(a:List Nat):(picked l a).length<=a.length:=by
 unfold picked;refine gJ (List.length_filter_le _ _) ?_;simp
theorem seen_len(c:seen.Nodup)(a:∀ i∈seen,i<n):seen.length<=n:=by
 have h:seen.length<=(List.range n).length:=nodup_le seen _ c (fun i b=>lQ.2 (a i b));simpa using h
structure Nrm(l:List Tm):Prop where
 len:∀ t∈l,t.1.length=6
 nz:∀ t∈l,t.2≠0
 nodup:(l.map (·.1)).Nodup
theorem Nrm.nil:Nrm []:=⟨by simp,by simp,by simp⟩
theorem Nrm.perm{a b:List Tm}(h:Nrm a)(p:a.Perm b):Nrm b :=
 ⟨fun t c=>h.len t (p.mem_iff.2 c),fun t c=>h.nz t (p.mem_iff.2 c),(p.map _).nodup_iff.1 h.nodup⟩
theorem Nrm.filter{l:List Tm}(h6:∀ t∈l,t.1.length=6)(b:(l.map (·.1)).Nodup):Nrm (l.filter (fun t=>decide (t.2≠0))):=by
 refine⟨fun t a=>h6 t (mD.1 a).1,fun t a => ?_,?_⟩
 · have:=(mD.1 a).2;simpa using this
 · exact List.Nodup.sublist (List.Sublist.map _ List.filter_sublist) b
theorem coef_nz(l:List Tm)(e:List Int):coef (l.filter (fun t=>decide (t.2≠0))) e=coef l e:=by
 induction l with
 | nil=>rfl
 | cons t r ih =>
  by_cases h:t.2=0
  · rw[List.filter_cons_of_neg (by simpa using h),ih];simp only[coef,h]
    grind
  · rw[List.filter_cons_of_pos (by simpa using h)];simp only[coef,ih]
def RB(b:Nat)(q:Rat):Prop:=q.num.natAbs<P2 b/\q.den<P2 b
theorem RB.mono(h:RB a q)(c:a<=b):RB b q:=⟨Af h.1 c,Af h.2 c⟩
theorem RB.zero(h:1<=b):RB b 0:=⟨KW b,Af (a:=1) (by decide) h⟩
theorem mkRat_le{n:Int}(a:d≠0):(mkRat n d).num.natAbs<=n.natAbs/\(mkRat n d).den<=d:=by
 obtain⟨h1,h2⟩:=rat_frac (n:=n) a;rw[h1,h2];refine⟨?_,iI _ _⟩;rw[oZ];exact iI _ _
theorem RB.add(hp:RB a p)(c:RB b q):RB (a+b+1) (p+q):=by
 have h:p+q=mkRat (p.num*q.den+q.num*p.den) (p.den*q.den):=Rat.add_def' p q;obtain⟨h1,h2⟩:=mkRat_le (n:=p.num*q.den+q.num*p.den) (d:=p.den*q.den) (od p.den_nz q.den_nz);rw[h];constructor
 · refine gN h1 ?_;have e:(p.num*(q.den:Int)).natAbs<P2 (a+b):=by rw[jC];exact BJ hp.1 c.2
   have f:(q.num*(p.den:Int)).natAbs<P2 (a+b):=by rw[jC,jW];exact BJ c.1 hp.2
   exact gN (mK _ _) (KX e f)
 · exact Af (gN h2 (BJ hp.2 c.2)) (by omega)
theorem RB.mul(hp:RB a p)(c:RB b q):RB (a+b) (p*q):=by
 have h:p*q=mkRat (p.num*q.num) (p.den*q.den):=Rat.mul_def' p q;obtain⟨h1,h2⟩:=mkRat_le (n:=p.num*q.num) (d:=p.den*q.den) (od p.den_nz q.den_nz);rw[h];constructor
 · refine gN h1 ?_;rw[jC];exact BJ hp.1 c.1
 · exact gN h2 (BJ hp.2 c.2)
theorem RB.neg(hp:RB a p):RB a (-p):=⟨by rw[show(-p).num = -p.num from rfl,Int.natAbs_neg];exact hp.1,hp.2⟩
theorem RB.coef{b:Nat}(a:1<=b)(e:List Int):∀ {l:List Tm},(∀ t∈l,RB b t.2)->RB (l.length*(b+1)+1) (coef l e)
 | [],_=>RB.zero (by omega)
 | t :: r,h=>by
  have h1:RB b (if t.1=e then t.2 else 0):=by
   split
   · exact h t (by simp)
   · exact RB.zero a
  have h2:=RB.add h1 (RB.coef a e (l:=r) (fun s c=>h s (by simp[c])));refine h2.mono ?_;simp only[j8,iW];omega
end Go.Proofs.YtlbmnokpiilfpaaGreatDoor.Pl
namespace Go.Proofs.YtlbmnokpiilfpaaGreatDoor
open Go Go.RowKit
variable {a a2:Act} {AL:List Nat} {l:List Oper} {w w2:World}
def XW(l:List Oper)(AL:List Nat)(a:Act):Prop:=∀ i∈AL,∀ j∈AL,i≠j->AX l.toArray i a≠AX l.toArray j a
structure Gt(l:List Oper)(AL:List Nat)(listed:Array Bool)(a:Act)(w:World):Prop where
 ptr:∀ j∈AL,listed.getD j false=true->∃ g,AX l.toArray j a = .pointer (some ⟨g,0,none⟩)/\g<w.heap.size
 ne:∀ i∈AL,∀ j∈AL,i≠j->listed.getD i false=true->listed.getD j false=true->AX l.toArray i a≠AX l.toArray j a
theorem Gt.dist{listed:Array Bool}(h:Gt l AL listed a w)(e:∀ i∈AL,listed.getD i false=true):XW l AL a :=
 fun i c j d b=>h.ne i c j d b (e i c) (e j d)
theorem Gt.start(l:List Oper)(b:List Nat)(a:Act)(w:World):Gt l b (Array.replicate l.toArray.size false) a w:=by
 refine⟨fun j _ h => ?_,fun i _ j _ _ h => ?_⟩
 · rw[kT]at h;cases h
 · rw[kT]at h;cases h
theorem Gt.step{listed:Array Bool}(h:Gt l AL listed a w){i:Nat}{o:Oper}(_ho:l.toArray[i]?=some o)(F:listed.getD i false=false)(E:Ext w w2)
 (x:∀ j C,j∈AL->l.toArray[j]?=some C->j≠i->AX l.toArray j a2=AX l.toArray j a)
 (m:i∈AL->∃ g,AX l.toArray i a2 = .pointer (some ⟨g,0,none⟩)/\w.heap.size<=g/\g<w2.heap.size):Gt l AL (listed.setIfInBounds i true) a2 w2:=by
 have f:∀ j,j≠i->(listed.setIfInBounds i true).getD j false=true->listed.getD j false=true:=by
  intro j d q;have c:¬ i=j:=fun e=>d e.symm;rw[ki,oT]at q;rw[ki];rw[gT c]at q;exact q
 have B:∀ j∈AL,j≠i->AX l.toArray j a2=AX l.toArray j a\/l.toArray[j]?=none:=by
  intro j d c;cases A:l.toArray[j]? with
  | none=>exact Or.inr rfl
  | some C=>exact Or.inl (x j C d A c)
 have y:∀ j (b:Act),l.toArray[j]?=none->AX l.toArray j b=undef:=by
  intro j b G;unfold AX Bf;rw[G];rfl
 have n:∀ j∈AL,j≠i->AX l.toArray j a2=AX l.toArray j a:=by
  intro j d c;rcases B j d c with h1|h1
  · exact h1
  · rw[y j _ h1,y j _ h1]
 have r:∀ j∈AL,j≠i->(listed.setIfInBounds i true).getD j false=true->∃ g,AX l.toArray j a2 = .pointer (some ⟨g,0,none⟩)/\g<w.heap.size:=by
  intro j d c q;obtain⟨g,h1,h2⟩:=h.ptr j d (f j c q);exact⟨g,by rw[n j d c,h1],h2⟩
 refine⟨fun j d q => ?_,fun j d k z v s t => ?_⟩
 · by_cases c:j=i
   · subst c;obtain⟨g,h1,_,h3⟩:=m d;exact⟨g,h1,h3⟩
   · obtain⟨g,h1,h2⟩:=r j d c q;exact⟨g,h1,ib h2 E.size⟩
 · by_cases c:j=i
   · subst c;obtain⟨g,h1,h2,_⟩:=m d;obtain⟨D,h3,h4⟩:=r k z (fun e=>v e.symm) t;rw[h1,h3];simp only[ne_eq,l4,gK,iV,jp];omega
   · by_cases p:k=i
     · subst p;obtain⟨g,h1,h2,_⟩:=m z;obtain⟨D,h3,h4⟩:=r j d c s;rw[h1,h3];simp only[ne_eq,l4,gK,iV,jp];omega
     · rw[n j d c,n k z p];exact h.ne j d k z v (f j c s) (f k p t)
end Go.Proofs.YtlbmnokpiilfpaaGreatDoor
