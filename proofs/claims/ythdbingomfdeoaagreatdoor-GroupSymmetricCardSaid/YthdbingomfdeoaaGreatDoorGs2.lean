/- Part Gs2. -/
import Derived.Test.YthdbingomfdeoaaGreatDoorGs1
import Derived.WalkKit
import Derived.Laws.Rows
import Derived.Laws.Tables
import Derived.Laws.CopyRow
import Derived.Laws.IdiomCopy
import Derived.Deep.AppendSrc
import Derived.BigRegion
set_option linter.all false
set_option maxRecDepth 100000
set_option maxHeartbeats 100000000
namespace Go.Proofs.YthdbingomfdeoaaGreatDoor
def fM:=@congrArg
def fN:=@Nat.lt_of_lt_of_le
def fY:=@List.map_append
def fh:=@bodyPost_ret
def fj:=@List.getElem?_append_left
def fo:=@List.length_append
def ft:=@Nat.le_trans
def fy:=@List.mem_map
def gG:=@List.nodup_cons
def gJ:=@List.mem_map_of_mem
def gK:=@List.getElem_of_mem
def gS:=@List.mem_of_getElem?
def gW:=@List.length_pos_of_mem
def gZ:=@List.map_congr_left
def gd:=@List.getElem?_append_right
def ge:=@List.append_assoc
def gt:=@List.pairwise_iff_getElem
def gu:=@List.drop_of_length_le
def gx:=@Nat.mod_lt
def iC:=@List.length_set
def iQ:=@List.ext_getElem
def iV:=@List.pairwise_map
def ig:=@List.mem_filter
def j4:=@List.map_map
def jA:=@List.getElem?_cons_succ
def jP:=@List.map_replicate
def jc:=@List.take_zero
def jf:=@Nat.min_eq_left
def jg:=@List.foldr_cons
def jh:=@List.cons_append
def jk:=@Prod.mk.injEq
def jn:=@Nat.sub_zero
def kO:=@List.getElem?_drop
def kT:=@List.Perm.refl
def ko:=@Array.getElem?_setIfInBounds_self_of_lt
def l9:=@List.take_succ_cons
def lF:=@List.drop_drop
def lh:=@List.cons.injEq
def mH:=@List.mem_iff_getElem?
def mO:=@Array.ext'
variable {x:Int} {a b c l xs:List Int} {k n:Nat}
def gen:Nat->List Int->List (List Int)
 | 0,_=>[[]]
 | k+1,pool=>pool.flatMap fun x=>(gen k (pool.erase x)).map (x :: ·)
theorem FN:∀ (k:Nat) (a b:List Int),b.length=k->b.Nodup->(∀ x∈b,x∈a)->b∈gen k a
 | 0,_,b,hl,_,_=>by
  have:b=[]:=fk hl;simp[gen,this]
 | k+1,a,[],hl,_,_=>by simp at hl
 | k+1,a,x :: r,hl,hn,hs=>by
  rw[gG]at hn;simp only[gen,mf,fy];refine⟨x,hs x (by simp),r,FN k (a.erase x) r (by simpa using hl) hn.2 ?_,rfl⟩;intro y d;have c:y≠x:=by rintro rfl;exact hn.1 d
  exact(List.mem_erase_of_ne c).2 (hs y (by simp[d]))
def pw(xs:List Int):Nat->List Int
 | 0=>idn xs.length
 | k+1=>comp xs (pw xs k)
def Jp(xs:List Int):Nat:=((List.range 6).find? (fun k=>pw xs (k+1) == idn xs.length)).elim 0 (·+1)
def MJ(xs:List Int):Bool :=
 comp xs (BR xs xs.length) == idn xs.length && (((List.range 6).find? (fun k=>pw xs (k+1) == idn xs.length)).isSome)
theorem Xv:∀ n,n<7->∀ a∈gen n (idn n),MJ a=true:=by decide +kernel
theorem FO :x∈idn n<->0<=x/\x<n:=by
 simp only[idn,fy,gO];constructor
 · rintro⟨k,a,rfl⟩;simp;omega
 · rintro⟨h0,h1⟩;exact⟨x.toNat,by omega,by simp;omega⟩
theorem Kt(h:Af xs=true):MJ xs=true:=by
 obtain⟨h6,b,a⟩:=Ap h;exact Xv xs.length (by omega) xs (FN _ _ _ rfl a (fun x c=>FO.2 (b x c)))
theorem FP(h:Af xs=true):comp xs (BR xs xs.length)=idn xs.length:=by
 have:=Kt h;unfold MJ at this;rw[gY]at this;simpa using this.1
theorem TX(h:Af xs=true):1<=Jp xs/\Jp xs<=6/\pw xs (Jp xs)=idn xs.length/\∀ k,1<=k->k<Jp xs->pw xs k≠idn xs.length:=by
 have:=Kt h;unfold MJ at this;rw[gY]at this;obtain⟨k,a⟩:=ja.1 this.2;have e:Jp xs=k+1:=by unfold Jp;rw[a];rfl
 have h1:=List.mem_of_find?_eq_some a;have h2:=List.find?_some a;have h3:k<6:=by simpa using h1
 refine⟨by omega,by omega,by rw[e];simpa using h2,?_⟩;intro j g l f;rw[List.find?_eq_some_iff_getElem]at a;obtain⟨_,i,m,b,c⟩:=a;have d:i=k:=by simpa using b
 have:=c (j-1) (by omega);simp only[List.getElem_range]at this;rw[show j-1+1=j by omega,f]at this;simp at this
theorem E6(l:List Int)(n:Nat):(Cf l (n+1)).Perm ((n:Int) :: Cf l n):=by
 simp only[Cf];have:=(List.perm_middle (a:=(n:Int)) (l₁:=(Cf l n).take (plc l n)) (l₂:=(Cf l n).drop (plc l n)));rw[iz]at this;simpa using this
theorem Iu(l:List Int):∀ (n:Nat) (x:Int),x∈Cf l n<->0<=x/\x<n
 | 0,x=>by simp[Cf]
 | n+1,x=>by
  rw[(E6 l n).mem_iff,fV,Iu l n];omega
theorem I4(l:List Int):∀ n,(Cf l n).Nodup
 | 0=>by simp[Cf]
 | n+1=>by
  rw[(E6 l n).nodup_iff,gG];exact⟨by rw[Iu];omega,I4 l n⟩
theorem Px(l:List Int){n:Nat}(h:n<=6):Af (Cf l n)=true:=by
 refine gn ⟨by rw[Eb];exact h,?_,I4 l n⟩;intro x a;rw[Eb];exact(Iu l n x).1 a
theorem Dq{f:Int->Int}(h:k<l.length):(l.map f).getD k 0=f (l.getD k 0):=by
 simp[h]
theorem C0(h:∀ y∈c,0<=y/\y<b.length):comp (comp a b) c=comp a (comp b c):=by
 unfold comp;rw[j4];apply gZ;intro y d;have:=h y d;exact Dq (by omega)
theorem TY(d:Af a=true)(e:Af b=true)(g:a.length=b.length):∀ x∈comp a b,0<=x/\x<a.length:=by
 intro x c;simp only[comp,fy]at c;obtain⟨y,f,rfl⟩:=c;have h1:=(Ap e).2.1 y f;exact BU d (by omega)
theorem LQ(h:l.Nodup){i j:Nat}(hi:i<l.length)(a:j<l.length)(e:l[i]=l[j]):i=j:=by
 rcases Nat.lt_trichotomy i j with h1|h1|h1
 · exact absurd e (gt.1 h i j hi a h1)
 · exact h1
 · exact absurd e.symm (gt.1 h j i a hi h1)
theorem C3(d:Af a=true)(c:Af b=true)(e:a.length=b.length):Af (comp a b)=true:=by
 refine gn ⟨by rw[Bl,<-e];exact(Ap d).1,?_,?_⟩
 · intro x i;rw[Bl,<-e];exact TY d c e x i
 · have f:=(Ap d).2.2;have g:=(Ap c).2.2;unfold comp;rw[List.Nodup,iV];refine List.Pairwise.imp_of_mem ?_ g;intro x y i m l he;have h1:=(Ap c).2.1 x i;have h2:=(Ap c).2.1 y m;have j:x.toNat<a.length:=by omega
   have k:y.toNat<a.length:=by omega
   simp only[gqq,eZ j,eZ k,fW]at he;have:=LQ f j k he;omega
end Go.Proofs.YthdbingomfdeoaaGreatDoor
namespace Go.Proofs.YthdbingomfdeoaaGreatDoor
open Tryz Go Go.RowKit
variable {f:Act} {ops:Array Oper} {ok:Bool} {Q:Exit->Act->World->Prop} {L gs ps ps0 q:List (List Int)} {m:List (List Int×Value)} {a b k l p xs ys:List Int} {seen:List Nat} {rest:List Oper} {cs cs' cur news qc vs:List Value} {base base' bytes c c' cg cx g i it j n n' ng r:Nat} {o:Oper} {d s u x y:Operand} {A a' ag:Option Addr} {row:Option Nat} {P:Program} {dT e e' et sT t ty:TypeId} {v z:Value} {w w':World}
theorem Fv{k:Nat}(h:k<n):(idn n).getD k 0=k:=by
 simp[idn,h]
theorem Cx(xs:List Int):comp xs (idn xs.length)=xs:=by
 apply iQ
 · simp[comp,idn]
 · intro i h1 h2;simp[comp,idn,h2]
theorem Py(xs:List Int):∀ k,(pw xs k).length=xs.length
 | 0=>by simp[pw,idn]
 | k+1=>by simp[pw,Bl,Py xs k]
theorem CS(h:n<=6):Af (idn n)=true:=by
 refine gn ⟨by rw[AY];exact h,?_,?_⟩
 · intro x d;rw[AY];exact FO.1 d
 · unfold idn;rw[List.Nodup,iV];refine List.Pairwise.imp ?_ List.nodup_range;intro a b c h;exact c (Int.ofNat.inj h)
theorem Qy{xs:List Int}(h:Af xs=true):∀ k,Af (pw xs k)=true
 | 0=>CS (Ap h).1
 | k+1=>C3 h (Qy h k) (Py xs k).symm
theorem WI:∀ n,n<7->∀ a∈gen n (idn n),Af (BR a a.length)=true:=by decide +kernel
theorem Hl(h:Af xs=true):xs.length<7/\xs∈gen xs.length (idn xs.length):=by
 have hp:=Ap h;exact⟨by have:=hp.1;omega,FN _ _ _ rfl hp.2.2 (fun x a=>FO.2 (hp.2.1 x a))⟩
theorem Hm(h:Af xs=true):Af (BR xs xs.length)=true :=
 WI _ (Hl h).1 _ (Hl h).2
theorem Cc(xs:List Int):∀ k,(BR xs k).length=xs.length
 | 0=>by simp[BR]
 | k+1=>by simp[BR,Cc xs k]
theorem Iv{v:Int}(hi:i<l.length):(l.set i v).getD j 0=if i=j then v else l.getD j 0:=by
 simp only[gqq,ir];by_cases h:i=j
 · subst h;simp[hi]
 · simp[h]
def Iw(a m:List Int):Nat->List Int
 | 0=>List.replicate m.length 0
 | k+1=>(Iw a m k).set (a.getD k 0).toNat (m.getD k 0)
def mvd(a m:List Int):List Int:=Iw a m m.length
theorem Ck(a m:List Int):∀ k,(Iw a m k).length=m.length
 | 0=>by simp[Iw]
 | k+1=>by simp[Iw,Ck a m k]
theorem Ku(h:Af a=true){j:Nat}(c:j<a.length):∃ i,i<a.length/\a.getD i 0=(j:Int):=by
 have e:=FP h;have b:j<(BR a a.length).length:=by rw[Cc];exact c
 have d:=BU (Hm h) b;rw[Cc]at d;refine⟨((BR a a.length).getD j 0).toNat,by omega,?_⟩;have:(comp a (BR a a.length)).getD j 0=(idn a.length).getD j 0:=by rw[e]
 unfold comp at this;rw[Dq b,Fv c]at this;exact this
theorem Oi(h:Af a=true){i j:Nat}(hi:i<a.length)(b:j<a.length)(e:a.getD i 0=a.getD j 0):i=j:=by
 refine LQ (Ap h).2.2 hi b ?_;simpa[hi,b]using e
theorem Qz{a m:List Int}(hp:Af a=true)(c:m.length=a.length):∀ k,k<=a.length->∀ i,i<k->(Iw a m k).getD (a.getD i 0).toNat 0=m.getD i 0
 | 0,_,i,hi=>by omega
 | k+1,hk,i,hi=>by
  have h0:=BU hp (i:=k) (by omega);have h1:=BU hp (i:=i) (by omega);show((Iw a m k).set (a.getD k 0).toNat (m.getD k 0)).getD (a.getD i 0).toNat 0=_;rw[Iv (by rw[Ck];omega)];by_cases b:i=k
  · subst b;rw[fG rfl]
  · rw[fl (fun e=>b (Oi hp (by omega) (by omega) (by omega)))];exact Qz hp c k (by omega) i (by omega)
theorem AV(a m:List Int):(mvd a m).length=m.length:=Ck a m _
theorem Dx{m:List Int}(hp:Af a=true)(b:m.length=a.length){i:Nat}(hi:i<a.length):(mvd a m).getD (a.getD i 0).toNat 0=m.getD i 0:=by
 unfold mvd;rw[b];exact Qz hp b _ (lrf _) i hi
theorem Kv{b:Type}{l m:List b}{d:b}(hp:Af a=true)(f:l.length=a.length)(g:m.length=a.length)(h:∀ i,i<a.length->l.getD (a.getD i 0).toNat d=m.getD (a.getD i 0).toNat d):l=m:=by
 apply iQ (by omega);intro j h1 h2;obtain⟨i,c,e⟩:=Ku hp (j:=j) (by omega);have:=h i c;rw[e]at this;simpa[h1,h2]using this
theorem QA(hi:i<b.length):(comp a b).getD i 0=a.getD (b.getD i 0).toNat 0:=by
 unfold comp;rw[Dq hi]
theorem MK{m:List Int}(g:Af a=true)(e:Af b=true)(k:a.length=b.length)(l:m.length=b.length):mvd a (mvd b m)=mvd (comp a b) m:=by
 have j:=C3 g e k;have f:(comp a b).length=b.length:=Bl a b;refine Kv (d:=0) j (by rw[AV,AV];omega) (by rw[AV];omega) fun i c => ?_;rw[f]at c;have h1:=BU e c;rw[Dx j (by omega) (by omega),QA c,Dx g (by rw[AV];omega) (by omega),Dx e l c]
theorem Vi{m:List Int}(hp:Af a=true)(d:m.length=a.length){x:Int}(f:x∈mvd a m):x∈m:=by
 obtain⟨j,b,rfl⟩:=gK f;rw[AV]at b;obtain⟨i,c,e⟩:=Ku hp (j:=j) (by omega);have h1:=Dx hp d c;rw[e]at h1;have h2:(mvd a m).getD j 0=(mvd a m)[j]:=by simp[AV,b]
 rw[<-h2,show((j:Int)).toNat=j from rfl]at *
 rw[h1,gqq,eZ (by omega)];exact fE _
theorem Kw(hp:Af a=true):((List.range a.length).map fun i=>(a.getD i 0).toNat).Perm (List.range a.length):=by
 have f:((List.range a.length).map fun i=>(a.getD i 0).toNat).Nodup:=by
  rw[List.nodup_iff_pairwise_ne,iV];refine List.Pairwise.imp_of_mem ?_ List.nodup_range;intro i j b c d e;rw[gO]at b c;have h0:=BU hp b;have h1:=BU hp c;exact d (Oi hp b c (by omega))
 refine(List.perm_ext_iff_of_nodup f List.nodup_range).2 fun j => ?_;rw[fy,gO];constructor
 · rintro⟨i,b,rfl⟩;have:=BU hp (gO.1 b);omega
 · intro c;obtain⟨i,b,e⟩:=Ku hp c;exact⟨i,gO.2 b,by rw[e];rfl⟩
theorem TZ{m:List Int}(hp:Af a=true)(b:m.length=a.length):(mvd a m).Perm m:=by
 have h1:∀ l:List Int,(List.range l.length).map (fun i=>l.getD i 0)=l:=fun l=>by
  apply iQ (by simp);intro j h1 h2;simp[h2]
 have h2:=(Kw hp).map (fun i=>(mvd a m).getD i 0);rw[j4]at h2;have h3:(List.range a.length).map ((fun i=>(mvd a m).getD i 0) ∘ fun i=>(a.getD i 0).toNat)=m:=by
  have h5:=h1 m;rw[b]at h5;refine Eq.trans (gZ fun i c => ?_) h5;show(mvd a m).getD (a.getD i 0).toNat 0=_;rw[Dx hp b (gO.1 c)]
 rw[h3]at h2;have h4:=h1 (mvd a m);rw[AV,b]at h4;rw[h4]at h2;exact h2.symm
theorem T0:∀ {l m:List Int},l.Perm m->l.sum=m.sum:=by
 intro l m h
 induction h with
 | nil=>rfl
 | cons x _ ih=>simp[ih]
 | swap x y l=>simp;omega
 | trans _ _ h1 h2=>exact h1.trans h2
def Ab(l:List Int):List Int:=l ++ List.replicate (6-l.length) 0
theorem AA(h:l.length<=6):(Ab l).length=6:=by simp[Ab];omega
theorem Ei(h:l.length=k.length)(e:Ab l=Ab k):l=k:=by
 have:=fM (List.take l.length) e;simpa[Ab,h]using this
theorem LR(l:List Int):(Ab l).take l.length=l:=by simp[Ab]
def An:List Value:=List.replicate 6 (.int .i64 0)
def Agg(P:Program)(ty:TypeId)(n:Nat):Prop :=
 (P.underlying ty).map (fun d=>match d with | .struct _ | .array _ _=>true | _=>false)=some true/\(P.info? ty).map (·.size)=some n
theorem Agg.parts(h:Agg P ty n) :
 ∃ d,P.underlying ty=some d/\(match d with | .struct _ | .array _ _=>true | _=>false)=true/\(P.info? ty).map (·.size)=some n:=by
 obtain⟨h1,h2⟩:=h;cases hu:P.underlying ty with
 | none=>rw[hu]at h1;cases h1
 | some d =>
  rw[hu]at h1;exact⟨d,rfl,by simpa using h1,h2⟩
theorem BH(w:World)(g:Nat)(cs:Array Value):w.grownBy (w.setRow g cs) (some g):=by
 refine⟨rfl,rfl,rfl,by simp[World.setRow],fun k _ a => ?_⟩;simp only[World.setRow,iA];rw[fl (by rintro rfl;exact a rfl)]
theorem C4(h:Arr w g t cs)(vs:List Value):Arr (w.setRow g vs.toArray) g t vs:=by
 unfold Arr at h |-;simp[World.setRow,iA,h]
section
variable {P:Program} {w:World}
theorem I5(a:Agg P ty cs.length)(h:Arr w g t cs) :
 (Instr.loadAt ty (.pointer (some ⟨g,0,none⟩))).run P w = .ok (.agg cs.toArray) w:=by
 obtain⟨d,hu,b,c⟩:=a.parts;have:=run_loadVar_row (P:=P) w g t ty cs.toArray (0,0) d h hu (by cases d <;> first | rfl | exact absurd b (by simp)) (by simpa using c);simp[Instr.loadAt,Instr.sureAddr,this]
theorem EJ(a:Agg P ty vs.length)(h:Arr w g t cs)(c:cs.length=vs.length)(h1:∀ v∈vs,v.oneCell'=true) :
 (Instr.storeAt ty (.pointer (some ⟨g,0,none⟩)) (.agg vs.toArray)).run P w = .ok () (w.setRow g vs.toArray):=by
 obtain⟨d,hu,e,b⟩:=a.parts;have:=run_storeVar_row (P:=P) w g t ty cs.toArray vs.toArray h (by simpa using b) (by simpa using c) (by simpa using h1);simp[Instr.storeAt,Instr.sureAddr,this]
theorem Bm(b:o.guard=none)(e:o.op = .load ty x)
 {g:Nat} {t:TypeId} {cs:List Value} (d:Agg P ty cs.length) (i:f.eval x = .pointer (some ⟨g,0,none⟩)) (h:Arr w g t cs)
 (c:wpList P ops Q rest (f.put o.dst (.agg cs.toArray)) w):wpList P ops Q (o :: rest) f w:=by
 refine gI b fun K a => ?_;unfold Oper.wp execOp;simp only[e,i,fC,I5 d h,fe,fQ,Oper.upon];exact a _ _ c
theorem Aa(b:o.guard=none)(k:o.op = .store ty x y)
 {g:Nat} {t:TypeId} {cs vs:List Value} {va:Array Value} (l:f.eval x = .pointer (some ⟨g,0,none⟩)) (m:f.eval y = .agg va) (c:va=vs.toArray) (i:Agg P ty vs.length) (h:Arr w g t cs)
 (j:cs.length=vs.length) (h1:∀ v∈vs,v.oneCell'=true)
 (e:∀ d,Arr d g t vs->w.grownBy d (some g)->wpList P ops Q rest (f.put o.dst undef) d):wpList P ops Q (o :: rest) f w:=by
 subst c;refine gI b fun K a => ?_;unfold Oper.wp execOp;simp only[k,l,m,fC,EJ i h j h1,fe,fQ,Oper.upon];exact a _ _ (e _ (C4 h vs) (BH w g _))
theorem Le{m k:Nat}(l:P.underlying t=some (.array m e))(a:A9 P e z bytes)(j:k<=m) :
 (Instr.sliceAt t (.pointer (some ⟨g,0,none⟩)) none (some (.int .i64 k)) none).run P w = .ok (.slice (some ⟨g,0,none⟩) k m) w:=by
 obtain⟨i,f,n,b,d⟩:=jT a;have c:(if m=0 then(⟨g,0,none⟩:Addr)else(⟨g,0,none⟩:Addr).add 0)=⟨g,0,none⟩:=by
  split <;> rfl
 simp[Instr.sliceAt,Instr.sliceBounds,Instr.sliceBound,fT l,asIntOf,sizeOf,typeInfo,f,j,Instr.sureAddr,c]
theorem At{b:Func}{p:Tmp}(i:b.results=#[.cell p ty]){a:Array Value}{g:Nat}{t:TypeId}{cs:List Value}(c:Agg P ty cs.length)
 (hp:a.getD p undef = .pointer (some ⟨g,0,none⟩)) (h:Arr w g t cs):(results b a).run P w = .ok (.agg cs.toArray) w:=by
 obtain⟨d,hu,e,f⟩:=c.parts;exact results_cell_row i a w g t cs.toArray (0,0) d hp h hu (by cases d <;> first | rfl | exact absurd e (by simp)) (by simpa using f)
theorem WJ{o l dc m:Nat}(y:P.underlying dT=some (.slice e))(f:A9 P e z bytes)
 (h:Arr w g t cur) (x:Sl w A m c cs) (G:m<=l) (s:o+m<=cur.length) (h1:∀ v∈cs,v.oneCell'=true) :
 ∃ r,(Builtin.copy_ #[dT,sT] ty #[.slice (some ⟨g,o,none⟩) l dc,.slice A m c]).run P w = .ok (goInt m) r/\Arr r g t (cur.take o ++ cs ++ cur.drop (o+m))/\w.grownBy r (some g):=by
 obtain⟨i,F,I,k,D⟩:=jT f;have p:(P.info? e).map (·.size)=some 1:=by simp[F,k]
 have d:=x.len;by_cases h0:m=0
 · subst h0;have:cs=[]:=fk d;subst this;refine⟨w,run_copy_none w dT sT ty e _ _ l dc 0 c y p (by simp),?_,⟨rfl,rfl,rfl,lrf _,fun _ _ _=>rfl⟩⟩;simpa using h
 · obtain⟨b,q,C,E⟩:=x.rd (by omega);subst C;have n:m.min l=m:=jf G
   have:=run_copy_row (P:=P) w dT sT ty e g o l dc ⟨b,q,none⟩ m c cur.toArray t cs y p h (by rw[n];exact d) (by
    intro j v B;have H:j<cs.length:=by
     rcases fS j cs.length with h|h
     · exact h
     · simp[fH h]at B
    have h2:=E j (by omega);rw[gqq,B]at h2;rw[<-fW (a:=v) (b:=undef),<-h2.symm.symm];unfold Addr.add
    by_cases h3:j=0 <;> simp[h3]at h2 |- <;> exact h2) (by simp;omega) h1
   refine⟨_,?_,C4 h _,BH w g _⟩;rw[this,d]
theorem LS(n:o.guard=none)
 (C:o.op = .call { callee := .builtin .copy,args:=#[d,s],argTypes:=#[dT,sT] })
 {e:TypeId} {z:Value} {bytes g p r dc m c:Nat} {A:Option Addr} {t:TypeId} {a cs:List Value} (E:P.underlying dT=some (.slice e)) (b:A9 P e z bytes)
 (y:f.eval d = .slice (some ⟨g,p,none⟩) r dc) (q:f.eval s = .slice A m c)
 (h:Arr w g t a) (D:Sl w A m c cs) (B:m<=r) (i:p+m<=a.length) (h1:∀ v∈cs,v.oneCell'=true)
 (x:∀ k,Arr k g t (a.take p ++ cs ++ a.drop (p+m))->w.grownBy k (some g)->wpList P ops Q rest (f.put o.dst (goInt m)) k):wpList P ops Q (o :: rest) f w:=by
 refine gI n fun K l => ?_;obtain⟨k,j,h2,h3⟩:=WJ (P:=P) (ty:=o.type) (sT:=sT) (dc:=dc) E b h D B i h1;unfold Oper.wp execOp;simp only[C,resolve,invoke,builtin,fC,fQ,fe,iP,gD,iF,y,q,j,Oper.upon];exact l _ _ (x k h2 h3)
end
def Bg(k:List Int):Value := .agg (k.map (Value.int .i64)).toArray
structure F7(P:Program)(kt et:TypeId):Prop where
 arr:P.underlying kt=some (.array 6 et)
 int:P.underlying et=some (.int .i64)
 size:(P.info? et).map (·.size)=some 1
theorem six(h:k.length=6):∃ a b c d e f,k=[a,b,c,d,e,f]:=by
 match k,h with
 | [a,b,c,d,e,f],_=>exact⟨a,b,c,d,e,f,rfl⟩
section
variable {P:Program} {kt et:TypeId} (w:World)
theorem AR(a:F7 P kt et)(cs:Array Value)(i:Nat)(v:Value)(h:cs[i]?=some v):(part et cs i).run P w = .ok v w:=by
 simp[part,isAgg,fT a.int,h]
theorem Jq(c:F7 P kt et)(d:Nat)(a b:Int):(Op.equalIn (d+1) et (.int .i64 a) (.int .i64 b)).run P w = .ok (a == b) w:=by
 simp[Op.equalIn,fT c.int]
theorem Lf(l:F7 P kt et)(d:Nat){a b:List Int}(A:a.length=6)(B:b.length=6) :
 (Op.equalIn (d+2) kt (Bg a) (Bg b)).run P w = .ok (decide (a=b)) w:=by
 obtain⟨m,n,o,p,q,r,rfl⟩:=six A;obtain⟨s,t,v,x,y,z,rfl⟩:=six B;obtain⟨i,C,F⟩:∃ i,P.info? et=some i/\i.size=1:=by
  have:=l.size;cases h:P.info? et with
  | none=>rw[h]at this;cases this
  | some i=>rw[h]at this;exact⟨i,rfl,by simpa using this⟩
 have D:List.range' 0 6=[0,1,2,3,4,5]:=rfl;have he:=fun(a b:Int) (w:World)=>Jq w l d a b;have G:∀ (c e f g j k:Value) (w:World),(part et #[c,e,f,g,j,k] 0).run P w = .ok c w:=fun _ _ _ _ _ _ w=>AR w l _ 0 _ rfl;have H:∀ (c e f g j k:Value) (w:World),(part et #[c,e,f,g,j,k] 1).run P w = .ok e w:=fun _ _ _ _ _ _ w=>AR w l _ 1 _ rfl;have I:∀ (c e f g j k:Value) (w:World),(part et #[c,e,f,g,j,k] 2).run P w = .ok f w:=fun _ _ _ _ _ _ w=>AR w l _ 2 _ rfl
 have J:∀ (c e f g j k:Value) (w:World),(part et #[c,e,f,g,j,k] 3).run P w = .ok g w:=fun _ _ _ _ _ _ w=>AR w l _ 3 _ rfl;have K:∀ (c e f g j k:Value) (w:World),(part et #[c,e,f,g,j,k] 4).run P w = .ok j w:=fun _ _ _ _ _ _ w=>AR w l _ 4 _ rfl;have L:∀ (c e f g j k:Value) (w:World),(part et #[c,e,f,g,j,k] 5).run P w = .ok k w:=fun _ _ _ _ _ _ w=>AR w l _ 5 _ rfl;rw[Op.equalIn];simp only[Bg,fC,fT l.arr,fe];generalize M:Op.equalIn (d+1) et=E at *
 simp[sizeOf,typeInfo,C,F,D,G,H,I,J,K,L,he];by_cases h0:m=s <;> simp[h0];by_cases h1:n=t <;> simp[h1];by_cases h2:o=v <;> simp[h2];by_cases h3:p=x <;> simp[h3];by_cases h4:q=y <;> simp[h4];by_cases h5:r=z <;> simp[h5]
theorem Ix(c:F7 P kt et)(b:Bool)(d:Nat)(a:Int):(Instr.checkKey b (d+1) et (.int .i64 a)).run P w = .ok () w:=by
 rw[Instr.checkKey];simp[fT c.int]
theorem Hn(k:F7 P kt et)(l:Bool)(d:Nat){a:List Int}(m:a.length=6):(Instr.checkKey l (d+2) kt (Bg a)).run P w = .ok () w:=by
 obtain⟨y,z,A,B,C,D,rfl⟩:=six m;obtain⟨i,n,p⟩:∃ i,P.info? et=some i/\i.size=1:=by
  have:=k.size;cases h:P.info? et with
  | none=>rw[h]at this;cases this
  | some i=>rw[h]at this;exact⟨i,rfl,by simpa using this⟩
 have o:List.range' 0 6=[0,1,2,3,4,5]:=rfl;have he:=fun(a:Int) (w:World)=>Ix w k l d a;have q:∀ (b c e f g j:Value) (w:World),(part et #[b,c,e,f,g,j] 0).run P w = .ok b w:=fun _ _ _ _ _ _ w=>AR w k _ 0 _ rfl;have r:∀ (b c e f g j:Value) (w:World),(part et #[b,c,e,f,g,j] 1).run P w = .ok c w:=fun _ _ _ _ _ _ w=>AR w k _ 1 _ rfl;have s:∀ (b c e f g j:Value) (w:World),(part et #[b,c,e,f,g,j] 2).run P w = .ok e w:=fun _ _ _ _ _ _ w=>AR w k _ 2 _ rfl
 have t:∀ (b c e f g j:Value) (w:World),(part et #[b,c,e,f,g,j] 3).run P w = .ok f w:=fun _ _ _ _ _ _ w=>AR w k _ 3 _ rfl;have v:∀ (b c e f g j:Value) (w:World),(part et #[b,c,e,f,g,j] 4).run P w = .ok g w:=fun _ _ _ _ _ _ w=>AR w k _ 4 _ rfl;have x:∀ (b c e f g j:Value) (w:World),(part et #[b,c,e,f,g,j] 5).run P w = .ok j w:=fun _ _ _ _ _ _ w=>AR w k _ 5 _ rfl;rw[Instr.checkKey];simp only[Bg,fC,fT k.arr,fe];generalize F:Instr.checkKey l (d+1) et=E at *
 simp[sizeOf,typeInfo,n,p,o,q,r,s,t,v,x,he]
end
def BZ:Nat->List (List Int×Value)->List MapEntry
 | _,[]=>[]
 | i,(k,v) :: r=>{ key:=Bg k,val:=v,born:=i } :: BZ (i+1) r
structure AB(w:World)(r:Nat)(m:List (List Int×Value)):Prop where
 obj:w.heap[r]?=some (.map (BZ 0 m).toArray m.length)
 six:∀ p∈m,p.1.length=6
 nodup:(m.map (·.1)).Nodup
def Bw(k:List Int):Nat->List (List Int×Value)->Option (Nat×Value)
 | _,[]=>none
 | i,(k',v) :: r=>if k=k' then some (i,v)else Bw k (i+1) r
theorem Bh{k:List Int}:∀ {i:Nat} {m:List (List Int×Value)},Bw k i m=none<->k ∉ m.map (·.1)
 | _,[]=>by simp[Bw]
 | i,(k',v) :: r=>by
  unfold Bw;by_cases h:k=k'
  · simp[h]
  · simp[h,Bh (i:=i+1) (m:=r)]
theorem CL:∀ (i:Nat) (m:List (List Int×Value)),(BZ i m).length=m.length
 | _,[]=>rfl
 | i,(_,_) :: r=>by simp[BZ,CL (i+1) r]
theorem I6:∀ (i:Nat) (m:List (List Int×Value)) (k:List Int) (v:Value),BZ i (m ++ [(k,v)])=BZ i m ++ [{ key:=Bg k,val:=v,born:=i+m.length }]
 | _,[],_,_=>rfl
 | i,(_,_) :: r,k,v=>by
  simp only[jh,BZ,I6 (i+1) r k v,fP];rw[iU,jp 1]
section
variable {P:Program} {kt et:TypeId} (w:World)
theorem Fw(d:F7 P kt et){k:List Int}(h6:k.length=6):∀ (m:List (List Int×Value)) (b i:Nat),(∀ p∈m,p.1.length=6) ->
 (Instr.findAsking kt (Bg k) (BZ b m) i).run P w = .ok (Bw k i m) w
 | [],_,_,_=>by simp[Instr.findAsking,BZ,Bw]
 | (k',v) :: r,b,i,h=>by
  have h1:k'.length=6:=h (k',v) (by simp);have c:(Op.equal kt (Bg k) (Bg k')).run P w = .ok (decide (k=k')) w:=Lf w d 9998 h6 h1;have e:=Fw d h6 r (b+1) (i+1) (fun p hp=>h p (by simp[hp]));unfold BZ Bw;rw[Instr.findAsking];simp only[fC,c,fe];by_cases a:k=k'
  · simp[a]
  · simp[a,e]
theorem I7(a:F7 P kt et){k:List Int}(h6:k.length=6)(m:List (List Int×Value))(h:∀ p∈m,p.1.length=6) :
 (Instr.findKey kt (Bg k) (BZ 0 m)).run P w = .ok (Bw k 0 m) w:=by
 have c:Instr.findNow (.array 6 et) (Bg k) (BZ 0 m) 0=if m=[]then some none else none:=by
  cases m with
  | nil=>rfl
  | cons p r=>obtain⟨d,v⟩:=p;simp[BZ,Instr.findNow,Instr.sameNow]
 simp only[Instr.findKey,fC,fT a.arr,fe,c];by_cases b:m=[]
 · subst b;simp[Bw]
 · simp[b,Fw w a h6 m 0 0 h]
end
theorem AB.lt(h:AB w r m):r<w.heap.size:=by
 rcases fS r w.heap.size with b|a
 · exact b
 · have:=h.obj;rw[gQ a]at this;cases this
theorem AB.of_block(h:AB w r m)(e:w'.heap[r]?=w.heap[r]?):AB w' r m:=⟨e.trans h.obj,h.six,h.nodup⟩
theorem AB.ext(h:AB w r m)(e:Ext w w'):AB w' r m:=h.of_block (e.block h.lt)
theorem AB.kept(h:AB w r m)(b:w.grownBy w' row)(a:some r≠row):AB w' r m:=h.of_block (b.block r h.lt a)
def Dr(z:Value)(m:List (List Int×Value))(k:List Int):Value:=((Bw k 0 m).map (·.2)).getD z
def RP(m:List (List Int×Value))(k:List Int):Bool:=(Bw k 0 m).isSome
def Ho(m:List (List Int×Value))(k:List Int)(v:Value):List (List Int×Value) :=
 match Bw k 0 m with
 | some (i,_)=>m.set i (k,v)
 | none=>m ++ [(k,v)]
theorem C5{k:List Int}:∀ {j:Nat} {m:List (List Int×Value)} {i:Nat} {v:Value},Bw k j m=some (i,v)->j<=i/\m[i-j]?=some (k,v)
 | _,[],_,_,h=>by simp[Bw]at h
 | j,(k',v') :: r,i,v,h=>by
  unfold Bw at h;by_cases hk:k=k'
  · rw[fG hk]at h;simp only[fc,jk]at h;obtain⟨rfl,rfl⟩:=h;subst hk;simp
  · rw[fl hk]at h;obtain⟨h1,h2⟩:=C5 h;refine⟨by omega,?_⟩;rw[show i-j=(i-(j+1))+1 by omega];simpa using h2
theorem Ej:∀ (j:Nat) (m:List (List Int×Value)) (i:Nat),(BZ j m)[i]?=(m[i]?).map (fun p=>{ key:=Bg p.1,val:=p.2,born:=j+i })
 | _,[],_=>by simp[BZ]
 | j,(k,v) :: r,0=>by simp[BZ]
 | j,(k,v) :: r,i+1=>by
  simp only[BZ,jA,Ej (j+1) r i];rw[iU,jp 1 i]
theorem T3:∀ (j:Nat) (m:List (List Int×Value)) (i:Nat) (k:List Int) (v:Value),i<m.length->BZ j (m.set i (k,v))=(BZ j m).set i { key:=Bg k,val:=v,born:=j+i }:=by
 intro j m i k v b;apply iw;intro t;rw[Ej,ir,ir,CL];by_cases a:i=t
 · subst a;simp[b]
 · simp[a,Ej]
theorem ML(k:List Int):Instr.sameBits 10000 (Bg k) (Bg k)=true:=by
 have h:∀ (l:List Value) (n:Nat),(∀ v∈l,∃ a,v=Value.int .i64 a)->(l.zip l).all (fun x=>Instr.sameBits n x.1 x.2)=true:=by
  intro l n
  induction l with
  | nil=>intro _;rfl
  | cons v r ih =>
   intro b;obtain⟨a,rfl⟩:=b v (by simp);simp only[List.zip_cons_cons,List.all_cons,gY];refine⟨?_,ih (fun u hu=>b u (by simp[hu]))⟩;cases n <;> simp[Instr.sameBits]
 show Instr.sameBits (9999+1) (.agg _) (.agg _)=true;rw[Instr.sameBits];simp only[beq_self_eq_true,Bool.true_and];exact h _ 9999 (by intro v b;simp only[fy]at b;obtain⟨a,_,rfl⟩:=b;exact⟨a,rfl⟩)
section
variable {P:Program} {kt et mt vt:TypeId} {w:World}
theorem EL(g:P.underlying mt=some (.map kt vt))(f:F7 P kt et){z:Value}(j:(zeroValue vt).run P w = .ok z w){r:Nat}{m:List (List Int×Value)}(h:AB w r m){k:List Int}(h6:k.length=6)(b:Bool) :
 (Instr.lookup mt (.map (some r)) (Bg k) b).run P w = .ok (if b then .tuple #[Dr z m k,.bool (RP m k)]else Dr z m k) w:=by
 have d:∀ c,(Instr.checkKey c 10000 kt (Bg k)).run P w = .ok () w:=fun c=>Hn w f c 9998 h6;have e:=I7 w f h6 m h.six;have i:=h.obj;unfold Dr RP;simp only[Instr.lookup,fC,fT g,fe,getObj,Sem.run,i];cases a:Bw k 0 m with
 | none=>cases b <;> simp[j,d,e,a]
 | some p=>cases b <;> simp[d,e,a]
theorem Vj(J:P.underlying mt=some (.map kt vt))(I:F7 P kt et){r:Nat}{m:List (List Int×Value)}(h:AB w r m){k:List Int}(h6:k.length=6)(v:Value) :
 ∃ E,(Instr.mapUpdate mt (.map (some r)) (Bg k) v).run P w = .ok () E/\AB E r (Ho m k v)/\w.grownBy E (some r):=by
 have G:∀ A,(Instr.checkKey A 10000 kt (Bg k)).run P w = .ok () w:=fun A=>Hn w I A 9998 h6;have H:=I7 w I h6 m h.six;have z:=h.obj;have B:=h.lt;have l:∀ o:Obj,w.grownBy { w with heap:=w.heap.setIfInBounds r o } (some r):=by
  intro o;refine⟨rfl,rfl,rfl,by simp,fun j _ D => ?_⟩;have:r≠j:=by rintro rfl;exact D rfl
  simp only;rw[jX this]
 have x:∀ o:Obj,({ w with heap:=w.heap.setIfInBounds r o }:World).heap[r]?=some o:=by
  intro o;simp only;rw[ko B]
 unfold Ho;cases d:Bw k 0 m with
 | none =>
  refine⟨_,?_,⟨x (.map (BZ 0 (m ++ [(k,v)])).toArray (m.length+1)) |>.trans (by simp),?_,?_⟩,l _⟩
  · simp only[Instr.mapUpdate,fC,fT J,fe,getObj,setObj,Sem.run,z,G];rw[H];simp[d,Sem.run,z,I6]
  · intro p hp;rcases fL.1 hp with hp|hp
    · exact h.six p hp
    · simp only[fi]at hp;subst hp;exact h6
  · rw[fY,iq];refine⟨h.nodup,by simp,?_⟩;intro a L b F;simp only[gD,iF,fi]at F;subst F;rintro rfl;exact Bh.1 d L
 | some p =>
  obtain⟨i,K⟩:=p;obtain⟨_,n⟩:=C5 d;rw[jn]at n;have f:i<m.length:=by
   rcases fS i m.length with h|h
   · exact h
   · simp[fH h]at n
  have c:(m.set i (k,v)).map (·.1)=m.map (·.1):=by
   rw[km];apply iw;intro t;rw[ir];by_cases y:i=t
   · subst y;have C:m[i]=(k,K):=by rw[eZ f]at n;simpa using n
     simp[f,C]
   · simp[y]
  refine⟨_,?_,⟨x (.map (BZ 0 (m.set i (k,v))).toArray m.length) |>.trans (by simp),?_,?_⟩,l _⟩
  · simp only[Instr.mapUpdate,fC,fT J,fe,getObj,Sem.run,z,G];rw[H];have g:(BZ 0 m)[i]?=some { key:=Bg k,val:=K,born:=0+i }:=by
     rw[Ej,n];rfl
    have s:((BZ 0 m).modify i fun e=>{ key:=Bg k,val:=v,born:=e.born })=BZ 0 (m.set i (k,v)):=by
     rw[T3 _ _ _ _ _ f];apply iw;intro t;rw[List.getElem?_modify,ir,CL];by_cases y:i=t
     · subst y;simp[g,f]
     · simp[y]
    simp[d,g,Instr.keyThatStays,ML,setObj,Sem.run,z,s]
  · intro p hp;have:p.1∈(m.set i (k,v)).map (·.1):=gJ hp;rw[c]at this;obtain⟨q,M,e⟩:=fy.1 this;rw[<-e];exact h.six q M
  · rw[c];exact h.nodup
end
def AC(w:World)(it r n:Nat)(seen:List Nat):Prop:=w.heap[it]?=some (.mapIter (some r) n seen.toArray n)
theorem AC.lt(h:AC w it r n seen):it<w.heap.size:=by
 rcases fS it w.heap.size with b|a
 · exact b
 · unfold AC at h;rw[gQ a]at h;cases h
theorem AC.ext(h:AC w it r n seen)(e:Ext w w'):AC w' it r n seen:=(e.block h.lt).trans h
theorem AC.kept(h:AC w it r n seen)(b:w.grownBy w' row)(a:some it≠row):AC w' it r n seen:=(b.block it h.lt a).trans h
theorem Oj{e:MapEntry}(h:e∈BZ 0 m):∃ i k v,m[i]?=some (k,v)/\e={ key:=Bg k,val:=v,born:=i }:=by
 obtain⟨i,a⟩:=mH.1 h;rw[Ej]at a;cases b:m[i]? with
 | none=>rw[b]at a;cases a
 | some p =>
  rw[b]at a;refine⟨i,p.1,p.2,b,?_⟩;simpa using a.symm
theorem Hq{e:MapEntry}(h:e∈BZ 0 m):e.born<m.length:=by
 obtain⟨i,k,v,a,rfl⟩:=Oj h;rcases fS i m.length with h|h
 · exact h
 · simp[fH h]at a
theorem LT:∀ (j:Nat) (m:List (List Int×Value)) (i:Nat) (k:List Int) (v:Value),m[i]?=some (k,v)->(BZ j m).find? (fun e=>e.born == j+i)=some { key:=Bg k,val:=v,born:=j+i }
 | _,[],_,_,_,h=>by simp at h
 | j,(k',v') :: r,0,k,v,h=>by
  simp only[iW,fc,jk]at h;obtain⟨rfl,rfl⟩:=h;simp[BZ]
 | j,(k',v') :: r,i+1,k,v,h=>by
  have a:=LT (j+1) r i k v (by simpa using h);rw[show j+(i+1)=j+1+i by omega];unfold BZ;rw[List.find?_cons_of_neg (by simp;omega)];exact a
section
variable {P:Program} {mt kt vt:TypeId} {w:World}
theorem RS(a:P.underlying mt=some (.map kt vt)){r:Nat}{m:List (List Int×Value)}(h:AB w r m) :
 (Instr.range mt (.map (some r))).run P w = .ok (.pointer (some ⟨w.heap.size,0,none⟩)) (w.alloc (.mapIter (some r) m.length #[] m.length)):=by
 have b:=h.obj;simp[Instr.range,fT a,getObj,Sem.run,b,newObj]
theorem T4(h:AB w r m)(hi:AC w it r m.length seen) :
 ((∀ i,i<m.length->i∈seen)/\(Instr.next (.pointer (some ⟨it,0,none⟩)) false t).run P w = .ok (.tuple #[.bool false]) w) \/
 ∃ i k v J,i<m.length/\i ∉ seen/\m[i]?=some (k,v)/\(Instr.next (.pointer (some ⟨it,0,none⟩)) false t).run P w = .ok (.tuple #[.bool true,Bg k,v]) J /\
  AC J it r m.length (seen ++ [i])/\w.grownBy J (some it):=by
 have L:=h.obj;have x:w.heap[it]?=some (.mapIter (some r) m.length seen.toArray m.length):=hi;have g:(!seen.toArray.isEmpty && !(BZ 0 m).toArray.isEmpty && (BZ 0 m).toArray.all (fun e=>decide (e.born >= m.length)))=false:=by
  cases m with
  | nil=>simp[BZ]
  | cons p q =>
   obtain⟨k,v⟩:=p;simp[BZ]
 have n:((BZ 0 m).toArray.filter (fun e => !seen.toArray.contains e.born)).filter (fun e=>decide (e.born<m.length))=(BZ 0 m).toArray.filter (fun e => !seen.toArray.contains e.born):=by
  apply mO;simp only[Array.toList_filter];rw[List.filter_eq_self];intro e he;have:=(ig.1 he).1;simpa using Hq (by simpa using this)
 have l:((BZ 0 m).toArray.filter (fun e => !seen.toArray.contains e.born)).filter (fun e=>decide (e.born >= m.length))=#[]:=by
  apply mO;simp only[Array.toList_filter];rw[List.filter_eq_nil_iff];intro e he;have:=(ig.1 he).1;have:=Hq (by simpa using this);simp;omega
 generalize B:(BZ 0 m).toArray.filter (fun e => !seen.toArray.contains e.born)=left at *
 have y:∀ e∈left,∃ i k v,m[i]?=some (k,v)/\i ∉ seen/\e={ key:=Bg k,val:=v,born:=i }:=by
  intro e he;rw[<-B]at he;obtain⟨h1,h2⟩:=Array.mem_filter.1 he;obtain⟨i,k,v,C,rfl⟩:=Oj (by simpa using h1);exact⟨i,k,v,C,by simpa using h2,rfl⟩
 by_cases a:left=#[]
 · left;refine⟨?_,?_⟩
   · intro i F;by_cases D:i∈seen
     · exact D
     · exfalso;have:({ key:=Bg m[i].1,val:=m[i].2,born:=i }:MapEntry)∈left:=by
        rw[<-B,Array.mem_filter];refine⟨?_,by simpa using D⟩;rw[List.mem_toArray,mH];exact⟨i,by rw[Ej,eZ F];simp⟩
       rw[a]at this;simp at this
   · simp only[Instr.next,fC,getObj,Sem.run,x,L,fe];simp only[g,B,n,l];simp[a,choose,Sem.run,Question.forced]
 · right;have o:0<left.size:=by
    rcases fF left.size with h0|h0
    · exact absurd (Array.eq_empty_of_size_eq_zero h0) a
    · exact h0
   obtain⟨c,d,K,E,f⟩:∃ c d,c<left.size/\(choose (.mapNext left.size)).run P w = .ok c d/\(d=w\/d=w.drew):=by
    by_cases h1:left.size<=1
    · exact⟨0,w,o,by simp[choose,Sem.run,Question.forced,h1],.inl rfl⟩
    · refine⟨w.tape w.drawn (.mapNext left.size)%left.size,w.drew,gx _ o,?_,.inr rfl⟩;simp[choose,Sem.run,Question.forced,h1,Question.cut]
   obtain⟨i,k,v,C,D,he⟩:=y left[c] (Array.getElem_mem K);have G:i<m.length:=by
    rcases fS i m.length with h|h
    · exact h
    · simp[fH h]at C
   have b:d.heap=w.heap:=by rcases f with rfl | rfl <;> rfl
   have A:d.heap[it]?=some (.mapIter (some r) m.length seen.toArray m.length):=by rw[b];exact x
   refine⟨i,k,v,{ d with heap:=d.heap.setIfInBounds it (.mapIter (some r) m.length (seen.toArray.push i) m.length) },G,D,C,?_,?_,?_⟩
   · simp only[Instr.next,fC,getObj,Sem.run,x,L,fe];simp only[g,B,n,l];have s:((if left.isEmpty=true then #[none]else #[]) ++ (left ++ #[]).map some)=left.map some:=by
      simp[a]
     simp only[s];have I:(left.map some).size=left.size:=by simp
     simp only[I,iI,jZ,fC,fe,E];have z:(left.map some)[c]?=some (some { key:=Bg k,val:=v,born:=i }):=by
      rw[Array.getElem?_map,jl K,he];rfl
     simp only[z];simp[setObj,Sem.run,A]
   · show({ d with heap:=d.heap.setIfInBounds it _ }:World).heap[it]?=_;have:it<d.heap.size:=by rw[b];exact hi.lt
     simp only;rw[ko this];simp
   · refine⟨by rcases f with rfl | rfl <;> rfl,by rcases f with rfl | rfl <;> rfl,by rcases f with rfl | rfl <;> rfl,by simp[b],fun j _ H => ?_⟩;have:it≠j:=by rintro rfl;exact H rfl
     simp only;rw[jX this,b]
theorem RT(h:AB w r m)(hi:AC w it r m.length (seen ++ [i]))(c:m[i]?=some (k,v)) :
 (Instr.entry (.pointer (some ⟨it,0,none⟩))).run P w = .ok (.tuple #[Bg k,v]) w:=by
 have d:=h.obj;have a:w.heap[it]?=some (.mapIter (some r) m.length (seen ++ [i]).toArray m.length):=hi;have b:=LT 0 m i k v c;rw[fZ]at b;simp[Instr.entry,getObj,Sem.run,a,d,b]
theorem Fx(c:o.guard=none)(e:o.op = .makeMap mt none)
 (d:∀ a,AB a w.heap.size []->Ext w a->w.heap.size<a.heap.size->wpList P ops Q rest (f.put o.dst (.map (some w.heap.size))) a):wpList P ops Q (o :: rest) f w:=by
 refine gI c fun K b => ?_;unfold Oper.wp execOp;have g:(Instr.makeMap mt none).run P w = .ok (.map (some w.heap.size)) (w.alloc (.map #[] 0)):=by
  simp[Instr.makeMap,newObj,Sem.run]
 simp only[e,kI,fC,g,fe,fQ,Oper.upon];exact b _ _ (d _ ⟨kD w _,by simp,by simp⟩ ((Ext.refl w).alloc _) (by simp))
theorem C6(b:o.guard=none)(g:o.op = .lookup mt x y ok)
 (e:P.underlying mt=some (.map kt vt)) (d:F7 P kt et) {z:Value} (l:∀ w,(zeroValue vt).run P w = .ok z w) {r:Nat} {m:List (List Int×Value)} {k:List Int}
 (i:f.eval x = .map (some r)) (j:f.eval y=Bg k) (h:AB w r m) (h6:k.length=6)
 (c:wpList P ops Q rest (f.put o.dst (if ok then .tuple #[Dr z m k,.bool (RP m k)]else Dr z m k)) w):wpList P ops Q (o :: rest) f w:=by
 refine gI b fun K a => ?_;unfold Oper.wp execOp;simp only[g,i,j,fC,EL e d (l w) h h6 ok,fe,fQ,Oper.upon];exact a _ _ c
theorem Iy(e:o.guard=none)(c:o.op = .mapUpdate mt x y u\/o.op = .insert mt x y u)
 (j:P.underlying mt=some (.map kt vt)) (i:F7 P kt et) {r:Nat} {m:List (List Int×Value)} {k:List Int} {v:Value}
 (l:f.eval x = .map (some r)) (n:f.eval y=Bg k) (hu:f.eval u=v) (h:AB w r m) (h6:k.length=6)
 (g:∀ b,AB b r (Ho m k v)->w.grownBy b (some r)->wpList P ops Q rest (f.put o.dst undef) b):wpList P ops Q (o :: rest) f w:=by
 refine gI e fun K d => ?_;obtain⟨b,a,h2,h3⟩:=Vj j i h h6 v;unfold Oper.wp execOp;rcases c with c|c
 all_goals
  simp only[c,l,n,hu,fC,a,fe,fQ,Oper.upon];exact d _ _ (g b h2 h3)
theorem Ok(c:o.guard=none)(g:o.op = .range mt x)
 (e:P.underlying mt=some (.map kt vt)) {r:Nat} {m:List (List Int×Value)} (i:f.eval x = .map (some r)) (h:AB w r m)
 (d:∀ a,AC a w.heap.size r m.length []->Ext w a->w.heap.size<a.heap.size->wpList P ops Q rest (f.put o.dst (.pointer (some ⟨w.heap.size,0,none⟩))) a):wpList P ops Q (o :: rest) f w:=by
 refine gI c fun K b => ?_;unfold Oper.wp execOp;simp only[g,i,fC,RS e h,fe,fQ,Oper.upon];exact b _ _ (d _ (kD w _) ((Ext.refl w).alloc _) (by simp))
theorem JJ(e:o.guard=none)(j:o.op = .next x false)
 {r d:Nat} {m:List (List Int×Value)} {a:List Nat} (l:f.eval x = .pointer (some ⟨d,0,none⟩)) (h:AB w r m) (hi:AC w d r m.length a)
 (h1:(∀ i,i<m.length->i∈a)->wpList P ops Q rest (f.put o.dst (.tuple #[.bool false])) w)
 (h2:∀ i k v c,i<m.length->i ∉ a->m[i]?=some (k,v)->AC c d r m.length (a ++ [i])->w.grownBy c (some d)->wpList P ops Q rest (f.put o.dst (.tuple #[.bool true,Bg k,v])) c) :
 wpList P ops Q (o :: rest) f w:=by
 refine gI e fun K b => ?_;unfold Oper.wp execOp;rcases T4 (P:=P) (t:=o.type) h hi with⟨z,g⟩|⟨i,k,v,c,n,p,q,g,s,y⟩
 · simp only[j,l,fC,g,fe,fQ,Oper.upon];exact b _ _ (h1 z)
 · simp only[j,l,fC,g,fe,fQ,Oper.upon];exact b _ _ (h2 i k v c n p q s y)
theorem Ol(c:o.guard=none)(j:o.op = .entry x)
 {r d i:Nat} {m:List (List Int×Value)} {a:List Nat} {k:List Int} {v:Value} (l:f.eval x = .pointer (some ⟨d,0,none⟩)) (h:AB w r m) (hi:AC w d r m.length (a ++ [i])) (g:m[i]?=some (k,v))
 (e:wpList P ops Q rest (f.put o.dst (.tuple #[Bg k,v])) w):wpList P ops Q (o :: rest) f w:=by
 refine gI c fun K b => ?_;unfold Oper.wp execOp;simp only[j,l,fC,RT h hi g,fe,fQ,Oper.upon];exact b _ _ e
end
def Cy(w:World)(base:Nat)(e:TypeId)(a:Option Addr)(n c:Nat)(cs:List Value):Prop :=
 cs.length=n/\n<=c/\c<=maxLen/\((a=none/\c=0)\/∃ g off cur,a=some ⟨g,off,none⟩/\base<=g/\w.heap[g]?=some (.cells cur e (0,0))/\off+c<=cur.size/\(cur.toList.drop off).take n=cs)
section
variable {w w':World} {base:Nat} {e:TypeId} {a:Option Addr} {n c:Nat} {cs:List Value}
theorem Cy.of(h:Own w base e a n c cs):Cy w base e a n c cs:=by
 refine⟨h.len,h.cap,h.sl.max,?_⟩;rcases h.2 with⟨b,_⟩|⟨g,f,d,b,i,j,k,m,o,l⟩
 · simp only[fd]at b;exact Or.inl ⟨b.1,b.2.2⟩
 · simp only[fd]at b;obtain⟨rfl,_,rfl⟩:=b;exact Or.inr ⟨g,0,d,rfl,i,j,by omega,by simpa using l⟩
theorem Cy.len(h:Cy w base e a n c cs):cs.length=n:=h.1
theorem Cy.sl(h:Cy w base e a n c cs):Sl w a n c cs:=by
 obtain⟨p,l,q,h⟩:=h;refine⟨p,l,q,fun h0 => ?_⟩;rcases h with⟨_,h1⟩|⟨g,b,d,k,_,m,s,r⟩
 · omega
 · refine⟨g,b,k,fun i o => ?_⟩;have j:cs.getD i undef=d.toList.getD (b+i) undef:=by
    rw[<-r];simp[o]
   have f:b+i<d.size:=by omega
   rw[j];simp[World.cell?,m,f]
theorem Cy.lt(h:Cy w base e a n c cs){k:Nat}(d:blk a=some k):base<=k/\k<w.heap.size:=by
 rcases h.2.2.2 with⟨b,_⟩|⟨g,l,f,b,i,j,_⟩
 · subst b;simp[blk]at d
 · subst b;have:g=k:=by simpa[blk]using d
   subst this;refine⟨i,?_⟩;rcases fS g w.heap.size with h|h
   · exact h
   · simp[gQ h]at j
theorem Cy.of_block(h:Cy w base e a n c cs)(j:∀ k,blk a=some k->w'.heap[k]?=w.heap[k]?):Cy w' base e a n c cs:=by
 obtain⟨o,l,p,h⟩:=h;refine⟨o,l,p,?_⟩;rcases h with h|⟨g,f,b,i,d,m,r⟩
 · exact Or.inl h
 · exact Or.inr ⟨g,f,b,i,d,by rw[j g (by subst i;rfl)];exact m,r⟩
theorem Cy.ext(h:Cy w base e a n c cs)(k:Ext w w'):Cy w' base e a n c cs:=h.of_block fun _ b=>k.block (h.lt b).2
theorem Cy.kept(h:Cy w base e a n c cs)(f:w.grownBy w' row)(d:blk a=none\/blk a≠row):Cy w' base e a n c cs :=
 h.of_block fun k b=>f.block k (h.lt b).2 (by
  rcases d with h1|h1
  · rw[h1]at b;cases b
  · rw[<-b];exact h1)
theorem Cy.from(h:Cy w base e a n c cs){k:Nat}(p:k<=n):Cy w base e (if c=k then a else a.map (fun x=>x.add k)) (n-k) (c-k) (cs.drop k):=by
 obtain⟨q,o,r,h⟩:=h;refine⟨by simp;omega,by omega,by omega,?_⟩;rcases h with⟨j,h0⟩|⟨g,i,b,j,d,l,s,m⟩
 · subst j;left;refine⟨by simp,by omega⟩
 · subst j;right;by_cases f:c=k
   · rw[fG f];refine⟨g,i,b,rfl,d,l,by omega,?_⟩;rw[show n-k=0 by omega,jc,gu (show cs.length<=k by omega)]
   · rw[fl f];refine⟨g,i+k,b,?_,d,l,by omega,?_⟩
     · simp only[ic,Addr.add];by_cases h0:k=0 <;> simp[h0]
     · rw[<-m,List.drop_take,lF]
end
theorem MM{b:Type}(l news:List b)(o n m:Nat)(c:news.length=m)(a:o+n+m<=l.length) :
 ((l.take (o+n) ++ news ++ l.drop (o+n+m)).drop o).take (n+m)=(l.drop o).take n ++ news:=by
 apply iw;intro i;by_cases h1:i<n
 · rw[List.getElem?_take,fG (by omega),kO,ge,fj (by simp;omega),List.getElem?_take,fG (by omega),
    fj (by simp;omega),List.getElem?_take,fG h1,kO]
 · by_cases h2:i<n+m
   · rw[List.getElem?_take,fG h2,kO,ge,gd (by simp;omega),fj (by simp;omega),
      gd (by simp;omega)]
     congr 1;simp;omega
   · rw[fH (by simp;omega),fH (by simp;omega)]
section
variable {P:Program} {w:World}
theorem T5{a:Option Addr}{xs:List Value}{m:Nat} 
 (S:P.underlying t=some (.slice e)) (B:A9 P e z bytes) (T:z.cells.size=1) (I:Cy w base e a n c xs) (C:Sl w A m cx news)
 (h1:∀ u∈news,u.oneCell'=true) (h63:n+m<=maxLen) (x:(n+m)*bytes<=140737488355328) (y:base<=w.heap.size) (Q:0<m) :
 ∃ M V U,(Builtin.append_ #[t,t] ty #[.slice a n c,.slice A m cx]).run P w = .ok (.slice M (n+m) V) U/\Cy U base e M (n+m) V (xs ++ news) /\
  w.grownBy U (blk a)/\(blk M=blk a\/blk M=some w.heap.size):=by
 obtain⟨i,X,hz,d,O⟩:=jT B;obtain⟨G,a0,R,r⟩:=I;obtain⟨b,v,Y,Z⟩:=C.rd Q;subst Y;have l:∀ j u,news[j]?=some u->w.cell? ((⟨b,v,none⟩:Addr).add j)=some u:=by
  intro j u hu;have hj:j<news.length:=by
   rcases fS j news.length with h|h
   · exact h
   · simp[fH h]at hu
  have h2:=Z j (by have:=C.len;omega);have h3:news.getD j undef=u:=by rw[gqq,hu];rfl
  rw[h3]at h2;rw[<-h2];unfold Addr.add;by_cases h0:j=0 <;> simp[h0]
 have f:news.length=m:=C.len;have hf:=run_firstCells_some (P:=P) w i.size m ⟨b,v,none⟩ m cx news (by rw[d];omega) l;by_cases s:n+m<=c
 · rcases r with⟨_,h0⟩|⟨g,o,p,E,W,N,hs,D⟩
   · omega
   · subst E;have L:=run_storeCells_at P g (o+n) e news 0 p w N (by omega) h1;refine⟨some ⟨g,o,none⟩,c,_,?_,⟨by simp[G,f],s,R,Or.inr ⟨g,o,(p.toList.take (o+n) ++ news ++ p.toList.drop (o+n+m)).toArray,rfl,W,?_,?_,?_⟩⟩,BH w g (p.toList.take (o+n) ++ news ++ p.toList.drop (o+n+m)).toArray,Or.inl rfl⟩
     · have q:(⟨g,o,none⟩:Addr).add (n*i.size)=⟨g,o+n,none⟩:=by
        rw[d,je];unfold Addr.add;by_cases h0:n=0 <;> simp[h0]
       simp only[gE,f]at L;simp[Builtin.append_,fT S,sizeOf,typeInfo,X,Builtin.lenOf,s,hf,q,L]
     · simp[World.setRow,iA,N]
     · simp;omega
     · rw[List.toList_toArray,MM _ _ o n m f (by simp;omega),D]
 · have H:(Builtin.firstCells i.size n (.slice a n c)).run P w.drew = .ok xs.toArray w.drew:=by
    rcases r with⟨E,h0⟩|⟨g,o,p,E,W,N,hs,D⟩
    · subst E;have:xs=[]:=fk (by omega);subst this;simp[Builtin.firstCells]
    · subst E;refine run_firstCells_some (P:=P) w.drew i.size n ⟨g,o,none⟩ n c xs (by rw[d];omega) ?_;intro j u hu;have hj:j<xs.length:=by
       rcases fS j xs.length with h|h
       · exact h
       · simp[fH h]at hu
      have q:(⟨g,o,none⟩:Addr).add j=⟨g,o+j,none⟩:=by
       unfold Addr.add;by_cases h0:j=0 <;> simp[h0]
      rw[<-D]at hu;rw[List.getElem?_take,fG (by omega),kO]at hu;rw[q];rw[Array.getElem?_toList]at hu;show World.cell? w ⟨g,o+j,none⟩=some u;simp only[World.cell?,N];exact hu
   have K:Go.Src P i.size t (.slice (some ⟨b,v,none⟩) m cx) m news w:=Go.Src.ofSlice w S ⟨b,v,none⟩ m cx news (by rw[d];omega) l h1;have F:=growslice_fits (need:=n+m) (old:=c) (bytes:=bytes) (by omega) x;have J:=run_append_grow_src (P:=P) w t t ty e i z S X hz a n c xs H (.slice (some ⟨b,v,none⟩) m cx) m news K (by omega) (by unfold maxLen at h63;omega) (by rw[O];exact F)
   refine⟨_,_,_,J,⟨by simp[G,f],grownCap_ge w _ _ _,grownCap_le_maxLen w _ _ _ h63,Or.inr ⟨w.heap.size,0,(xs ++ news).toArray ++ Builtin.zeroCells z.cells (grownCap w (n+m) c e-(n+m)),rfl,y,?_,?_,?_⟩⟩,?_,Or.inr rfl⟩
   · exact kD w.drew _
   · have:=grownCap_ge w (n+m) c e;simp[size_zeroCells,T,G,f];omega
   · simp only[gP,Array.toList_append];rw[List.take_append_of_le_length (by simp[G,f]),f9 (by simp[G,f])]
   · refine⟨rfl,rfl,rfl,by simp,fun k hk _ => ?_⟩;exact Below.heap_alloc w.drew _ k hk
theorem Vk(q:o.guard=none)
 (D:o.op = .call { callee := .builtin .append,args:=#[s,x],argTypes:=#[t,t] })
 {e:TypeId} {z:Value} {bytes base:Nat} {a:Option Addr} {n c:Nat} {xs:List Value} {A:Option Addr} {m B:Nat} {news:List Value}
 (F:P.underlying t=some (.slice e)) (g:A9 P e z bytes) (y:z.cells.size=1) (E:f.eval s = .slice a n c) (j:Cy w base e a n c xs) (G:f.eval x = .slice A m B) (v:Sl w A m B news)
 (h1:∀ u∈news,u.oneCell'=true) (h63:n+m<=maxLen) (b:(n+m)*bytes<=140737488355328) (d:base<=w.heap.size) (r:0<m)
 (h:∀ i p l,Cy l base e i (n+m) p (xs ++ news)->w.grownBy l (blk a)->(blk i=blk a\/blk i=some w.heap.size)->wpList P ops Q rest (f.put o.dst (.slice i (n+m) p)) l) :
 wpList P ops Q (o :: rest) f w:=by
 refine gI q fun K C => ?_;obtain⟨i,p,l,k,h2,h3,h4⟩:=T5 (P:=P) (ty:=o.type) F g y j v h1 h63 b d r;unfold Oper.wp execOp;simp only[D,resolve,invoke,builtin,fC,fQ,fe,iP,gD,iF,E,G,k];exact C _ _ (h i p l h2 h3 h4)
end
theorem Cg:Agg prog 57 6:=⟨by kernel_rfl,by kernel_rfl⟩
theorem Ba:F7 prog 57 3:=⟨by kernel_rfl,by kernel_rfl,by kernel_rfl⟩
theorem Cl{a:Option Addr}(s:SlI w a n c xs)(h6:n<=6) :
 Calls prog 24 #[.slice a n c] w fun e x=>e = .returned (Bg (Ab xs))/\Ext w x:=by
 have r:=s.len;have j:=f8 r;clear r
 go_enter func24,ntmps24
 go_upto_region 2 with(fail)
 have hA0:Arr ((w.alloc (.cells An.toArray 57)).alloc (.cells An.toArray 57)) w.heap.size 57 An:=(Arr.new w _ An).alloc _;have hA1:Arr ((w.alloc (.cells An.toArray 57)).alloc (.cells An.toArray 57)) (w.heap.size+1) 57 An:=by
  have:=Arr.new (w.alloc (.cells An.toArray 57)) 57 An;simpa using this
 have q:Ext w ((w.alloc (.cells An.toArray 57)).alloc (.cells An.toArray 57)):=((Ext.refl w).alloc _).alloc _;change Code.wp _ _ _ _ ((w.alloc (.cells An.toArray 57)).alloc (.cells An.toArray 57));generalize ((w.alloc (.cells An.toArray 57)).alloc (.cells An.toArray 57))=y at *
 have t:Hid (An.take 0 ++ xs.map (Value.int .i64) ++ An.drop (0+n)=(Ab xs).map (Value.int .i64)):=by
  have e:xs.length=n:=j.out;show _=_;rw[jc,iM,fZ];unfold Ab An;rw[fY,jP,List.drop_replicate,e]
 have b:Agg prog 57 ((Ab xs).map (Value.int .i64)).length:=by
  rw[fq,AA (by rw[j.out];exact h6)];exact Cg
 have i:An.length=((Ab xs).map (Value.int .i64)).length:=by
  rw[fq,AA (by rw[j.out];exact h6)];rfl
 have l:=f8 i;clear i
 go_wp2_with(first
  | (refine LS (sT:=35) rfl rfl underlying35 BG rfl rfl hA1 (s.ext q) (by omega) (by simp[An];omega) (A4 _) ?_;intro z f g;rw[t.out]at f;have d:=hA0.kept g (by simp))
  | (refine Bm rfl rfl b rfl f ?_)
  | (refine Aa rfl rfl rfl rfl rfl b d l.out (A4 _) ?_;intro A m o))
 refine fh (v:=Bg (Ab xs)) ?_ rfl ⟨rfl,(q.grown g ?_).grown o ?_⟩
 · exact At rfl b rfl m
 · intro k p;simp at p;omega
 · intro k p;simp at p;omega
def mv6(a m:List Int)(k:Nat):List Int:=Ab (Iw a m k)
theorem Vl{m:List Int}{k:Nat}(hp:Af a=true)(c:m.length=a.length)(b:k<a.length):(mv6 a m k).set (a.getD k 0).toNat (m.getD k 0)=mv6 a m (k+1):=by
 have h0:=BU hp b;unfold mv6 Ab;rw[show Iw a m (k+1)=(Iw a m k).set (a.getD k 0).toNat (m.getD k 0) from rfl,iC,List.set_append_left _ _ (by rw[Ck];omega)]
theorem T6{m:List Int}(h:m.length<=6):(mv6 a m 0).map (Value.int .i64)=An:=by
 unfold mv6 Ab An Iw;rw[List.length_replicate,List.replicate_append_replicate,jP,Nat.add_sub_cancel' h]
theorem MN{m:List Int}{k:Nat}(h:m.length<=6):(mv6 a m k).length=6:=AA (by rw[Ck];exact h)
theorem RU(h:i<l.length):(l.map (Value.int .i64)).getD i undef = .int .i64 (l.getD i 0):=by
 simp[h]
theorem Iz(h:i<l.length):(Ab l).getD i 0=l.getD i 0:=by
 unfold Ab;simp[fj h]
theorem EM{a:Option Addr}{m:List Int}(t:SlI w a n c xs)(F:Af xs=true)(I:m.length=n) :
 Calls prog 37 #[.slice a n c,Bg (Ab m)] w fun e O=>e = .returned (Bg (Ab (mvd xs m)))/\Ext w O:=by
 have l:=f8 t.len;have h6:n<=6:=by have:=(Ap F).1;have h:=l.out;omega
 go_enter func37,ntmps37
 go_upto_region 2 with(fail)
 have s:(Ab m).length=6:=AA (by omega);have C:(((w.alloc (.cells ((Ab m).map (Value.int .i64)).toArray 57)).alloc (.cells An.toArray 57)).alloc (.cells An.toArray 57)).heap.size=w.heap.size+3:=by simp
 have o:Arr (((w.alloc (.cells ((Ab m).map (Value.int .i64)).toArray 57)).alloc (.cells An.toArray 57)).alloc (.cells An.toArray 57)) w.heap.size 57 ((Ab m).map (Value.int .i64)):=((Arr.new w _ _).alloc _).alloc _;have p:Arr (((w.alloc (.cells ((Ab m).map (Value.int .i64)).toArray 57)).alloc (.cells An.toArray 57)).alloc (.cells An.toArray 57)) (w.heap.size+1) 57 An:=by
  have:=(Arr.new (w.alloc (.cells ((Ab m).map (Value.int .i64)).toArray 57)) 57 An).alloc (.cells An.toArray 57);simpa using this
 have g:Arr (((w.alloc (.cells ((Ab m).map (Value.int .i64)).toArray 57)).alloc (.cells An.toArray 57)).alloc (.cells An.toArray 57)) (w.heap.size+2) 57 An:=by
  have:=Arr.new ((w.alloc (.cells ((Ab m).map (Value.int .i64)).toArray 57)).alloc (.cells An.toArray 57)) 57 An;simpa using this
 have j:Ext w (((w.alloc (.cells ((Ab m).map (Value.int .i64)).toArray 57)).alloc (.cells An.toArray 57)).alloc (.cells An.toArray 57)):=(((Ext.refl w).alloc _).alloc _).alloc _;change Code.wp _ _ _ _ (((w.alloc (.cells ((Ab m).map (Value.int .i64)).toArray 57)).alloc (.cells An.toArray 57)).alloc (.cells An.toArray 57));generalize (((w.alloc (.cells ((Ab m).map (Value.int .i64)).toArray 57)).alloc (.cells An.toArray 57)).alloc (.cells An.toArray 57))=U at *
 have d:=f8 I;clear I;go_wp2
 go_loopw[10] (fun i wr=>∃ k:Nat,k<=n/\i = .int .i64 k/\Ext w wr/\Arr wr w.heap.size 57 ((Ab m).map (Value.int .i64))/\Arr wr (w.heap.size+1) 57 An/\Arr wr (w.heap.size+2) 57 ((mv6 xs m k).map (Value.int .i64))) (fun i _=>n-(intOf i).toNat)
 case atStart=>exact⟨0,fu _,rfl,j,o,p,by rw[T6 (by rw[d.out];exact h6)];exact g⟩
 case round =>
  clear o p g j C;obtain⟨k,H,rfl,j,o,p,g⟩:=hrel;have t:=t.ext j;by_cases b:k<n
  · obtain⟨P,T,rfl,q⟩:=t.at b;have S:=q k b;have r:=BU F (i:=k) (by have:=l.out;omega);rw[l.out]at r;have G:=Vl (a:=xs) (m:=m) (k:=k) F (by rw[d.out,l.out]) (by rw[l.out];exact b);have L:=o.cell (i:=k) (by rw[fq,s];omega);rw[RU (by rw[s];omega),Iz (by rw[d.out];exact b)]at L;generalize D:xs.getD k 0=y at *
    generalize E:m.getD k 0=z at *
    obtain⟨W,X⟩:=r;have Q:=g.cell (i:=y.toNat) (by rw[fq,MN (by rw[d.out];exact h6)];omega);have R:=g.frozen y.toNat
    have J:=f8 G;have M:(k:Int)<6:=by omega
    have N:y<6:=by omega
    clear q D E G;go_wp2;go_roundw
    case rel =>
     refine⟨k+1,by omega,by go_num,Ext.setCell j (by show _<=w.heap.size+2;omega) _,o.far (by show _≠w.heap.size+2;omega) _,p.far (by show _≠w.heap.size+2;omega) _,?_⟩;have:=g.set y.toNat (.int .i64 z);rw[<-km,J.out]at this;exact this
    case measure=>simp[intOf];omega
  · have e:k=n:=by omega
    have f:Agg prog 57 ((mv6 xs m k).map (Value.int .i64)).length:=by
     rw[fq,MN (by rw[d.out];exact h6)];exact Cg
    have x:Hid (An.length=((mv6 xs m k).map (Value.int .i64)).length):=by
     show _=_;rw[fq,MN (by rw[d.out];exact h6)];rfl
    have K:Hid (Ab (mvd xs m)=mv6 xs m k):=by
     show _=_;unfold mv6 mvd;rw[d.out,e]
    clear e
    go_wp2_with(first
     | (refine Bm rfl rfl f rfl g ?_)
     | (refine Aa rfl rfl rfl rfl rfl f p x.out (A4 _) ?_;intro V A B))
    rw[K.out];refine fh (v:=Bg (mv6 xs m k)) ?_ rfl ⟨rfl,j.grown B ?_⟩
    · exact At rfl f rfl A
    · intro k H;simp at H;omega
def Bq(gs:List (List Int))(n:Nat)(p:List Int):Prop:=∃ ws:List (List Int),(∀ g∈ws,g∈gs)/\p=ws.foldr comp (idn n)
theorem CT(gs:List (List Int))(n:Nat):Bq gs n (idn n):=⟨[],by simp,rfl⟩
theorem Kx{g:List Int}(b:g∈gs)(h:Bq gs n p):Bq gs n (comp g p):=by
 obtain⟨c,h1,rfl⟩:=h;refine⟨g :: c,?_,rfl⟩;intro x a;rcases fV.1 a with rfl|a
 · exact b
 · exact h1 x a
def BL(gs:List (List Int))(n:Nat):Prop:=∀ g∈gs,Af g=true/\g.length=n
theorem Bi(d:n<=6)(c:BL gs n){p:List Int}(h:Bq gs n p):Af p=true/\p.length=n:=by
 obtain⟨b,h1,rfl⟩:=h
 induction b with
 | nil=>exact⟨CS d,AY n⟩
 | cons g b ih =>
  obtain⟨f,a⟩:=ih (fun x e=>h1 x (by simp[e]));obtain⟨i,j⟩:=c g (h1 g (by simp));exact⟨C3 i f (by rw[j,a]),by rw[jg,Bl,a]⟩
structure I8(gs:List (List Int))(n:Nat)(L q:List (List Int)):Prop where
 nodup:L.Nodup
 reach:∀ p∈L,Bq gs n p
 one:idn n∈L
 sub:∀ p∈q,p∈L
 closed:∀ p∈L,p ∉ q->∀ g∈gs,comp g p∈L
 short:q.length<=L.length
theorem I8.start(gs:List (List Int))(n:Nat):I8 gs n [idn n] [idn n] :=
 ⟨by simp,by simp[CT],by simp,by simp,by simp,by simp⟩
theorem I8.done(h:I8 gs n L [])(p:List Int):p∈L<->Bq gs n p:=by
 refine⟨h.reach p,?_⟩;rintro⟨a,h1,rfl⟩
 induction a with
 | nil=>exact h.one
 | cons g a ih=>exact h.closed _ (ih (fun x b=>h1 x (by simp[b]))) (by simp) g (h1 g (by simp))
structure Jr(gs:List (List Int))(n:Nat)(L q:List (List Int))(a:List Int)(j:Nat):Prop where
 nodup:L.Nodup
 reach:∀ p∈L,Bq gs n p
 one:idn n∈L
 sub:∀ p∈q,p∈L
 mem:a∈L
 closed:∀ p∈L,p ∉ q->p≠a->∀ g∈gs,comp g p∈L
 part:∀ g∈gs.take j,comp g a∈L
 short:q.length<=L.length
theorem Jr.start(h:I8 gs n L (a :: q)):Jr gs n L q a 0 :=
 ⟨h.nodup,h.reach,h.one,fun p hp=>h.sub p (by simp[hp]),h.sub a (by simp),fun p hp d b g c=>h.closed p hp (by simp[d,b]) g c,by simp,by have:=h.short;simp only[fP]at this;omega⟩
theorem Jr.fin(h:Jr gs n L q a j)(d:gs.length<=j):I8 gs n L q:=by
 refine⟨h.nodup,h.reach,h.one,h.sub,fun p hp e g c => ?_,h.short⟩;by_cases b:p=a
 · subst b;exact h.part g (by rw[f9 d];exact c)
 · exact h.closed p hp e b g c
theorem Gf(a:j<gs.length){g:List Int}(h:g∈gs.take (j+1)):g∈gs.take j\/g=gs.getD j []:=by
 rw[ff a,fL]at h;rcases h with h|h
 · exact Or.inl h
 · right;simp only[fi]at h;simp[a,h]
theorem Jr.old(h:Jr gs n L q a j)(d:j<gs.length)(b:comp (gs.getD j []) a∈L):Jr gs n L q a (j+1):=by
 refine⟨h.nodup,h.reach,h.one,h.sub,h.mem,h.closed,fun g c => ?_,h.short⟩;rcases Gf d c with h1|rfl
 · exact h.part g h1
 · exact b
theorem Jr.new(h:Jr gs n L q a j)(e:j<gs.length)(i:comp (gs.getD j []) a ∉ L) :
 Jr gs n (L ++ [comp (gs.getD j []) a]) (q ++ [comp (gs.getD j []) a]) a (j+1):=by
 have b:gs.getD j []∈gs:=by simp[e]
 refine⟨?_,?_,by simp[h.one],?_,by simp[h.mem],?_,?_,by have:=h.short;simp;omega⟩
 · rw[iq];refine⟨h.nodup,by simp,?_⟩;intro x k y f;simp only[fi]at f;subst f;rintro rfl;exact i k
 · intro p hp;rcases fL.1 hp with hp|hp
   · exact h.reach p hp
   · simp only[fi]at hp;subst hp;exact Kx b (h.reach a h.mem)
 · intro p hp;rcases fL.1 hp with hp|hp
   · simp[h.sub p hp]
   · exact List.mem_append_right _ hp
 · intro p hp d c g b;simp only[fL,fi,not_or]at d;rcases fL.1 hp with hp|hp
   · simp[h.closed p hp d.1 c g b]
   · simp only[fi]at hp;exact absurd hp d.2
 · intro g b;rcases Gf e b with h1|rfl
   · simp[h.part g h1]
   · simp
theorem nodup_le:∀ (L M:List (List Int)),L.Nodup->(∀ x∈L,x∈M)->L.length<=M.length
 | [],_,_,_=>by simp
 | x :: L,M,hn,hs=>by
  rw[gG]at hn;have hx:x∈M:=hs x (by simp);have:=nodup_le L (M.erase x) hn.2 (fun y a=>(List.mem_erase_of_ne (by rintro rfl;exact hn.1 a)).2 (hs y (by simp[a])));rw[List.length_erase_of_mem hx]at this;have:0<M.length:=gW hx;simp only[fP];omega
theorem QC:∀ n,n<7->(gen n (idn n)).length<=720:=by decide +kernel
theorem CM(c:n<=6)(b:BL gs n){L:List (List Int)}(a:L.Nodup)(d:∀ p∈L,Bq gs n p):L.length<=720:=by
 refine ft (nodup_le L (gen n (idn n)) a fun p hp => ?_) (QC n (by omega));obtain⟨h1,h2⟩:=Bi c b (d p hp);refine FN n (idn n) p h2 (Ap h1).2.2 fun x e=>FO.2 ?_;have:=(Ap h1).2.1 x e;rw[h2]at this;exact this
def B1(L:List (List Int)):List (List Int×Value):=L.map (fun p=>(Ab p,Value.bool true))
theorem FQ(L:List (List Int)):(B1 L).map (·.1)=L.map Ab:=by simp[B1]
theorem JK(a:∀ x∈L,x.length=n)(hp:p.length=n):Ab p∈L.map Ab<->p∈L:=by
 rw[fy];constructor
 · rintro⟨x,b,e⟩
   rwa[<-Ei (by rw[a x b,hp]) e]
 · intro h;exact⟨p,h,rfl⟩
theorem T7(h:Bw k 0 (B1 L)=some (i,v)):v = .bool true:=by
 obtain⟨_,h2⟩:=C5 h;have:=gS h2;simp only[B1,fy]at this;obtain⟨x,_,e⟩:=this;exact((jk ..).mp e).2.symm
theorem IA(b:∀ x∈L,x.length=n)(hp:p.length=n):Dr (.bool false) (B1 L) (Ab p) = .bool (decide (p∈L)):=by
 unfold Dr;cases h:Bw (Ab p) 0 (B1 L)with
 | none =>
  have:=Bh.1 h;rw[FQ,JK b hp]at this;simp[this]
 | some q =>
  obtain⟨i,v⟩:=q;have d:=T7 h;have c:p∈L:=by
   rw[<-JK b hp,<-FQ];by_cases a:Ab p∈(B1 L).map (·.1)
   · exact a
   · rw[<-Bh (i:=0)]at a;rw[h]at a;cases a
  simp[d,c]
theorem Om(a:∀ x∈L,x.length=n)(hp:p.length=n)(b:p ∉ L):Ho (B1 L) (Ab p) (.bool true)=B1 (L ++ [p]):=by
 have:Bw (Ab p) 0 (B1 L)=none:=by
  rw[Bh,FQ,JK a hp];exact b
 unfold Ho;rw[this];simp[B1]
def QEl(w:World)(base:Nat)(qc:List Value)(q:List (List Int)):Prop:=∀ i,i<q.length->∃ a n c,qc.getD i undef = .slice a n c/\BF w base a n c (q.getD i [])
theorem QEl.ext{w d:World}{base:Nat}{b:List Value}{q:List (List Int)}(h:QEl w base b q)(e:Ext w d):QEl d base b q :=
 fun i f=>let ⟨a,n,c,h1,h2⟩:=h i f;⟨a,n,c,h1,h2.ext e⟩
theorem CC{a:Option Addr}(h:Own w base e a n c cs)(j:AB w r m):blk a=none\/blk a≠some r:=by
 rcases h.2 with⟨b,_⟩|⟨g,d,f,b,_,i,_⟩
 · simp only[fd]at b;left;rw[b.1];rfl
 · simp only[fd]at b;right;rw[b.1];intro he;have:g=r:=by simpa[blk]using he
   subst this;have:=j.obj;rw[i]at this;cases this
theorem D3{a:Option Addr}(h:Own w base e a n c cs)(o:Cy w base' e' a' n' c' cs')(i:e≠e'):blk a=none\/blk a≠blk a':=by
 rcases h.2 with⟨d,_⟩|⟨g,k,l,d,_,p,_⟩
 · simp only[fd]at d;left;rw[d.1];rfl
 · simp only[fd]at d;right;rw[d.1];rcases o.2.2.2 with⟨f,_⟩|⟨m,q,j,f,_,b,_⟩
   · subst f;simp[blk]
   · subst f;intro he;have:g=m:=by simpa[blk]using he
     subst this;rw[p]at b;simp only[fc,jm]at b;exact i b.2.1
theorem I9{a:Option Addr}(h:Cy w base e a n c cs)(i:AB w r m):blk a=none\/blk a≠some r:=by
 rcases h.2.2.2 with⟨b,_⟩|⟨g,j,d,b,_,f,_⟩
 · subst b;exact Or.inl rfl
 · subst b;right;intro he;have:g=r:=by simpa[blk]using he
   subst this;have:=i.obj;rw[f]at this;cases this
theorem QEl.kept{w e:World}{base:Nat}{d:List Value}{q:List (List Int)}{row:Option Nat}(h:QEl w base d q)(f:w.grownBy e row)(b:∀ a n c j,BF w base a n c j->blk a=none\/blk a≠row):QEl e base d q :=
 fun i g=>let ⟨a,n,c,h1,h2⟩:=h i g;⟨a,n,c,h1,Own.kept h2 f (b _ _ _ _ h2)⟩
theorem QEl.tail(h:QEl w base qc (p :: q)):QEl w base (qc.drop 1) q:=by
 intro i b;obtain⟨a,n,c,h1,h2⟩:=h (i+1) (by simpa using b);refine⟨a,n,c,?_,by simpa using h2⟩;rw[<-h1];simp
theorem QEl.snoc{a:Option Addr}(h:QEl w base qc q)(f:qc.length=q.length)(hp:BF w base a n c p):QEl w base (qc ++ [.slice a n c]) (q ++ [p]):=by
 intro i e;simp only[fo,List.length_singleton]at e;by_cases h1:i<q.length
 · obtain⟨b,g,d,h2,h3⟩:=h i h1;refine⟨b,g,d,?_,?_⟩
   · rw[<-h2];simp[fj (show i<qc.length by omega)]
   · simpa[fj h1]using h3
 · have:i=q.length:=by omega
   subst this;refine⟨a,n,c,?_,?_⟩
   · simp[<-f]
   · simpa using hp
theorem Vm(j:o.guard=none)(p:o.op = .slice t x (some y) none none)
 {e:TypeId} {z:Value} {bytes base:Nat} {a:Option Addr} {n c k:Nat} {cs:List Value} (q:P.underlying t=some (.slice e)) (d:A9 P e z bytes) (r:f.eval x = .slice a n c) (s:f.eval y = .int .i64 k) (h:Cy w base e a n c cs) (l:k<=n)
 (m:∀ g,blk g=blk a->Cy w base e g (n-k) (c-k) (cs.drop k)->wpList P ops Q rest (f.put o.dst (.slice g (n-k) (c-k))) w):wpList P ops Q (o :: rest) f w:=by
 refine gI j fun K i => ?_;unfold Oper.wp execOp;simp only[p,r,s,ic,kI,fC,Fb q d l,fe,fQ,Oper.upon];refine i _ _ (m _ ?_ (h.from l));split
 · rfl
 · cases a with
   | none=>rfl
   | some b=>simp[blk,Addr.add];split <;> rfl
theorem Ek:A9 prog 35 (.slice none 0 0) 24:=by unfold A9;kernel_rfl
theorem Cz:prog.underlying 53=some (.map 57 4):=by kernel_rfl
theorem El(w:World):(zeroValue 4).run prog w = .ok (.bool false) w:=by kernel_rfl
def Gy(w:World)(r:Nat):Nat:=match w.heap[r]? with | some (.map es _)=>es.size | _=>0
theorem IB(h:AB w r m):Gy w r=m.length:=by
 unfold Gy;rw[h.obj];simp[CL]
def Vn:Value->Nat | .slice _ n _=>n | _=>0
def ClR(w0:World)(gs:List (List Int))(n r:Nat)(v:Value)(wr:World):Prop :=
 ∃ L q aq nq cq qc,v = .slice aq nq cq/\nq=q.length/\Ext w0 wr/\w0.heap.size<=r/\AB wr r (B1 L)/\Cy wr w0.heap.size 35 aq nq cq qc/\QEl wr w0.heap.size qc q/\I8 gs n L q
def X1(w0:World)(gs:List (List Int))(n r:Nat)(a:List Int)(aa:Option Addr)(na ca:Nat)(M:Nat)(v i:Value)(wr:World):Prop :=
 ∃ L q aq nq cq qc,∃ j:Nat,v = .slice aq nq cq/\nq=q.length/\i = .int .i64 j/\j<=gs.length/\Ext w0 wr/\w0.heap.size<=r/\AB wr r (B1 L)/\Cy wr w0.heap.size 35 aq nq cq qc/\QEl wr w0.heap.size qc q /\
  BF wr w0.heap.size aa na ca a/\Jr gs n L q a j/\2*(720-L.length)+q.length<=M
def X2(w:World)(gs:List (List Int))(n:Nat)(e:Ending)(w':World):Prop :=
 ∃ r L,e = .returned (.map (some r))/\Ext w w'/\w.heap.size<=r/\AB w' r (B1 L)/\L.Nodup/\∀ p,p∈L<->Bq gs n p
theorem Cd(hg:SlL w ag ng cg gs)(Q:n<=6)(hp:BL gs n) :
 Calls prog 21 #[.int .i64 n,.slice ag ng cg] w (X2 w gs n):=by
 have bd:=hg.le;have HG:=f8 hg.len;have aY:(idn n).length<=6:=by rw[AY];exact Q
 have HP:=f8 hp;clear hp
 go_enter func21,ntmps21
 go_wp2_with fail
 refine(Fd (by omega)).mono ?_;rintro e w1 ⟨a1,s,c1,rfl,a0,S⟩;have b0:s=n:=by have:=S.sl.len;rw[AY]at this;omega
 subst b0
 go_wp2_with(refine Fx rfl rfl ?_;intro w2 y d b6)
 refine(Cl (S.sl.ext d) Q).mono ?_;rintro e w3 ⟨rfl,a⟩;have o:=(S.ext d).ext a;have a2:=y.ext a;have ar:Ext w w3:=(a0.trans d).trans a;have b2:w.heap.size<=w1.heap.size:=a0.size;generalize w1.heap.size=r at *
 clear y S a d a0
 go_wp2_with(refine Iy rfl (Or.inr rfl) Cz Ba rfl rfl rfl a2 (AA aY) ?_;intro w4 m aa)
 have X:AB w4 r (B1 [idn s]):=m;have b:Ext w w4:=ar.grown aa (by intro k hk;simp at hk;omega);have C:BF w4 w.heap.size a1 s c1 (idn s):=Own.kept o aa (CC o a2);clear m aa a2 o ar;go_wp2
 go_loopw[7] (fun v wr=>ClR w gs s r v wr) (fun v wr=>2*(720-Gy wr r)+Vn v)
 case atStart =>
  have aS:=Au w4 w.heap.size 35 #[.slice a1 s c1] 1 rfl b.size (by omega);refine⟨[idn s],[idn s],_,_,_,_,rfl,rfl,b.alloc _,b2,X.ext ((Ext.refl w4).alloc _),Cy.of aS,?_,I8.start gs s⟩;intro i hi;have:i=0:=by simpa using hi
  subst this;exact⟨a1,s,c1,rfl,Own.alloc C _⟩
 case round =>
  clear X b C;obtain⟨L,q,aq,nq,cq,qc,rfl,aF,hE,hr,hM,hO,hQ,hI⟩:=hrel;have F:=f8 aF;clear aF;have hb:=CM Q HP.out hI.nodup hI.reach;have ah:Gy wr r=L.length:=by rw[IB hM];simp[B1]
  have V:=f8 ah;clear ah;cases q with
  | nil =>
   have hz:nq=0:=F.out;subst hz;go_wp2;go_ret;exact⟨r,L,rfl,hE,hr,hM,hI.nodup,hI.done⟩
  | cons p q =>
   have aj:0<nq:=by rw[F.out];simp
   have bf:nq<=720:=by have:=hI.short;have h2:=F.out;omega
   obtain⟨ap,np,cp,ak,ax⟩:=hQ 0 (by simp);obtain⟨bq,oq,rfl,aC⟩:=hO.sl.rd aj;have aB:=aC 0 aj;rw[ak,gE]at aB;have b5:=hO.sl.cap;have aZ:=hO.sl.max;unfold maxLen at aZ;clear aC ak
   go_wp2_with(refine Vm rfl rfl underlying29 Ek rfl rfl (k:=1) hO (by omega) ?_;intro a7 ba f)
   obtain⟨wo,rfl⟩:∃ wo:World,wo=wr:=⟨_,rfl⟩
   go_loopw[7,30] (fun v i wr=>X1 w gs s r p ap np cp (2*(720-L.length)+q.length) v i wr) (fun _ i _=>gs.length-(intOf i).toNat)
   case atStart =>
    refine⟨L,q,a7,nq-1,cq-1,qc.drop 1,0,rfl,by rw[F.out];simp,rfl,fu _,hE,hr,hM,f,hQ.tail,ax,Jr.start hI,lrf _⟩
   case round =>
    have aN:Hid (2*(720-Gy wo r)+Vn (.slice (some ⟨bq,oq,none⟩) nq cq)=2*(720-L.length)+(q.length+1)):=by
     show _=_;rw[V.out];simp only[Vn];rw[F.out];rfl
    clear hO hQ ax hM hI f aB V;obtain⟨L2,q2,an,U,ao,aH,j,rfl,P,rfl,hj,d,_,y,a4,a6,A,l,aJ⟩:=hrel;have g:=f8 P;clear P;have b9:=CM Q HP.out l.nodup l.reach;have au:∀ x∈L2,x.length=s:=fun x hx=>(Bi Q HP.out (l.reach x hx)).2;have O:Gy wr r=L2.length:=by rw[IB y];simp[B1]
    have aI:=f8 O;have al:=f8 au;clear O au;have aX:=hg.ext d;have be:j<=ng:=by rw[<-HG.out];exact hj
    by_cases af:j<ng
    · obtain⟨bg,og,b7,b3,b8,rfl,bc,az⟩:=aX.at af;have T:j<gs.length:=by rw[HG.out];exact af
      have aD:gs.getD j []∈gs:=by simp[T]
      obtain⟨bh,b4⟩:=HP.out _ aD;obtain⟨aG,ac⟩:=Bi Q HP.out (l.reach p l.mem);have ad:=l.old T;have Y:=l.new T;have aA:(comp (gs.getD j []) p).length=s:=by rw[Bl];exact ac
      generalize aW:gs.getD j []=gj at *
      have ai:b3=s:=by have:=az.len;omega
      have aE:np=s:=by have:=A.sl.len;omega
      have aK:=f8 ad;have E:=f8 Y;have R:=f8 aA;have PP:=f8 aG;have aP:=f8 ac;have aO:=f8 ai;have am:=f8 aE;clear ad Y aA aW b4 aG ac ai aE T aD
      go_wp2_with fail
      refine(Gb az A.sl ?_ (by have:=am.out;omega)).mono ?_
      · intro i hi;have h1:=am.out;have h2:=aO.out;have h3:=aP.out;have:=BU PP.out (i:=i) (by omega);omega
      rintro e w3 ⟨a3,n3,c3,rfl,a,o⟩;have b1:n3=s:=by have:=o.sl.len;rw[R.out]at this;exact this.symm
      subst b1
      go_wp2_with fail
      refine(Cl o.sl Q).mono ?_;rintro e w4 ⟨rfl,b⟩;have m:=(y.ext a).ext b;have C:=(a4.ext a).ext b;have a9:=(a6.ext a).ext b;have K:=(A.ext a).ext b;have I:BF w4 w.heap.size a3 n3 c3 (comp gj p):=Own.mono (Own.ext o b) d.size;have G:=(d.trans a).trans b;clear y a4 a6 A o a b d;have ab:(Ab (comp gj p)).length=6:=AA (by rw[R.out];exact Q);have c:=IA al.out R.out;by_cases z:comp gj p∈L2
      · simp only[z,kQ]at c
        go_wp2_with(refine C6 rfl rfl Cz Ba El rfl rfl m ab ?_;simp only[iI,jZ];rw[c])
        go_roundw
        case rel=>exact⟨L2,q2,an,U,ao,aH,j+1,rfl,g.out,by go_num,by have:=HG.out;omega,G,hr,m,C,a9,K,aK.out z,aJ⟩
        case measure=>have:=HG.out;simp[intOf];omega
      · simp only[z,ll]at c
        go_wp2_with(refine C6 rfl rfl Cz Ba El rfl rfl m ab ?_;simp only[iI,jZ];rw[c])
        refine(Cl I.sl Q).mono ?_;rintro e w5 ⟨rfl,t⟩;have B:=m.ext t;have a5:=C.ext t;have ay:=a9.ext t;have M:=K.ext t;have J:=I.ext t;have W:=G.trans t;clear m C a9 K I t G c
        go_upto_region 13 with(refine Iy (v := .bool true) rfl (Or.inl rfl) Cz Ba rfl rfl rfl B ab ?_;intro w6 av D)
        rw[Om al.out R.out z]at av;have aQ:=a5.kept D (I9 a5 B);have aT:=ay.kept D (fun _ _ _ _ h=>CC h B);have ae:BF w6 w.heap.size ap np cp p:=Own.kept M D (CC M B);have Z:BF w6 w.heap.size a3 n3 c3 (comp gj p):=Own.kept J D (CC J B);have H:Ext w w6:=W.grown D (by intro k hk;simp at hk;omega);have P:U<=720:=by have:=l.short;have h2:=g.out;omega
        clear B a5 ay M J W D;have hA7:Ext w6 (w6.alloc (.cells #[.slice a3 n3 c3] 35)):=(Ext.refl w6).alloc _;have aV:=(Au w6 w.heap.size 35 #[.slice a3 n3 c3] 1 rfl H.size (by omega)).sl;have f:=aQ.ext hA7
        go_wp2_with(refine Vk rfl rfl underlying29 Ek rfl rfl f rfl aV (by simp[Value.oneCell']) (by unfold maxLen;omega) (by omega) (by have:=H.size;simp;omega) (by omega) ?_;intro a8 c8 w8 aR N bb)
        go_roundw
        case rel =>
         have aL:=H.trans hA7;refine⟨L2 ++ [comp gj p],q2 ++ [comp gj p],a8,U+1,c8,_,j+1,rfl,by rw[g.out];simp,by go_num,by have:=HG.out;omega,aL.grown N (fun k hk=>(f.lt hk).1),hr,?_,aR,?_,?_,E.out z,?_⟩
         · have aw:=av.ext hA7;refine aw.kept N ?_;rcases I9 f aw with h|h
           · rw[h];simp
           · exact fun h2=>h h2.symm
         · have aU:=(aT.ext hA7).kept N (fun _ _ _ _ h=>D3 h f (by decide));have aM:BF _ w.heap.size a3 n3 c3 (comp gj p):=Own.kept (Own.ext Z hA7) N (D3 (Own.ext Z hA7) f (by decide));exact aU.snoc (by rw[f.len,g.out]) aM
         · exact Own.kept (Own.ext ae hA7) N (D3 (Own.ext ae hA7) f (by decide))
         · have:=CM Q HP.out (E.out z).nodup (E.out z).reach;simp only[fo,List.length_singleton]at this |-;omega
        case measure=>have:=HG.out;simp[intOf];omega
    · go_wp2;go_roundw
      case rel=>exact⟨L2,q2,an,U,ao,aH,rfl,g.out,d,hr,y,a4,a6,l.fin (by have:=HG.out;omega)⟩
      case measure =>
       have h1:=aN.out;have h2:=aI.out;have h3:=g.out;simp[Vn]at h1 |-;omega
def cmpI(x y:Int):Int:=if x<y then -1 else if y<x then 1 else 0
def A8:List Int->List Int->Int
 | [],[]=>0
 | [],_ :: _ => -1
 | _ :: _,[]=>1
 | x :: xs,y :: ys=>if x<y then -1 else if y<x then 1 else A8 xs ys
theorem DE:∀ a:List Int,A8 a a=0
 | []=>rfl
 | x :: a=>by simp[A8,DE a]
theorem Hr:∀ {a b:List Int},A8 a b=0->a=b
 | [],[],_=>rfl
 | [],_ :: _,h=>by simp[A8]at h
 | _ :: _,[],h=>by simp[A8]at h
 | x :: a,y :: b,h=>by
  unfold A8 at h;by_cases h1:x<y
  · simp[h1]at h
  · by_cases h2:y<x
    · simp[h1,h2]at h
    · simp only[h1,h2,jZ]at h;have:x=y:=by omega
      rw[this,Hr h]
theorem BE:∀ a b:List Int,A8 b a = - A8 a b
 | [],[]=>rfl
 | [],_ :: _=>rfl
 | _ :: _,[]=>rfl
 | x :: a,y :: b=>by
  unfold A8;by_cases h1:x<y
  · have h2:¬ y<x:=by omega
    simp[h1,h2]
  · by_cases h2:y<x
    · simp[h1,h2]
    · simp[h1,h2,BE a b]
theorem C7:∀ {a b c:List Int},A8 a b<=0->A8 b c<=0->A8 a c<=0
 | [],_,[],_,_=>by simp[A8]
 | [],_,_ :: _,_,_=>by simp[A8]
 | _ :: _,[],_,h,_=>by simp[A8]at h
 | _ :: _,_ :: _,[],_,h=>by simp[A8]at h
 | x :: a,y :: b,z :: c,h1,h2=>by
  unfold A8 at h1 h2 |-;by_cases xy:x<y
  · by_cases yz:y<z
    · simp[show x<z by omega]
    · by_cases zy:z<y
      · simp[yz,zy]at h2
      · simp[show x<z by omega]
  · by_cases yx:y<x
    · simp[xy,yx]at h1
    · simp only[xy,yx,jZ]at h1;by_cases yz:y<z
      · simp[show x<z by omega]
      · by_cases zy:z<y
        · simp[yz,zy]at h2
        · simp only[yz,zy,jZ]at h2;have e1:¬ x<z:=by omega
          have d:¬ z<x:=by omega
          simp only[e1,d,jZ];exact C7 h1 h2
theorem Pz(a b:List Int):A8 a b<=0\/A8 b a<=0:=by
 have:=BE a b;omega
theorem Ds:∀ (k:Nat) (a b:List Int),a.take k=b.take k->k<=a.length->k<=b.length->A8 a b=A8 (a.drop k) (b.drop k)
 | 0,_,_,_,_,_=>rfl
 | k+1,x :: a,y :: b,h,h1,h2=>by
  simp only[l9,lh]at h;obtain⟨rfl,h⟩:=h;simp only[fP]at h1 h2;rw[iB,iB,<-Ds k a b h (by omega) (by omega)];simp[A8]
 | k+1,[],_,_,h1,_=>by simp at h1
 | k+1,_ :: _,[],_,_,h2=>by simp at h2
theorem IC(x:Int)(w:World):Calls prog 109 #[.int .i64 x] w fun e a=>e = .returned (.bool false)/\w=a:=by
 have h:(x != x)=false:=by simp
 go_enter func109,ntmps109
 go_wp2;go_ret;exact⟨rfl,rfl⟩
theorem Ja(x y:Int)(w:World):Calls prog 70 #[.int .i64 x,.int .i64 y] w fun e b=>e = .returned (.int .i64 (cmpI x y))/\w=b:=by
 by_cases h1:x<y
 · have H:Hid (cmpI x y = -1):=by show _=_;simp[cmpI,h1]
   go_enter func70,ntmps70
   go_wp2_with(go_at_call 109;refine(IC _ _).mono ?_;rintro e a ⟨rfl,rfl⟩)
   go_ret;exact⟨DV H.out,rfl⟩
 · by_cases h2:y<x
   · have H:Hid (cmpI x y=1):=by show _=_;simp[cmpI,h1,h2]
     go_enter func70,ntmps70
     go_wp2_with(go_at_call 109;refine(IC _ _).mono ?_;rintro e a ⟨rfl,rfl⟩)
     go_ret;exact⟨DV H.out,rfl⟩
   · have H:Hid (cmpI x y=0):=by show _=_;simp[cmpI,h1,h2]
     go_enter func70,ntmps70
     go_wp2_with(go_at_call 109;refine(IC _ _).mono ?_;rintro e a ⟨rfl,rfl⟩)
     go_ret;exact⟨DV H.out,rfl⟩
theorem Vo{xs ys:List Int}{k:Nat}(hp:xs.take k=ys.take k)(h1:k<xs.length)(h2:k<ys.length)(a:cmpI (xs.getD k 0) (ys.getD k 0)≠0):A8 xs ys=cmpI (xs.getD k 0) (ys.getD k 0):=by
 rw[Ds k xs ys hp (by omega) (by omega),gg h1,gg h2];simp only[gqq,eZ h1,eZ h2,fW]at a |-;unfold cmpI at a |-;unfold A8;by_cases b:xs[k]<ys[k]
 · simp[b]
 · by_cases c:ys[k]<xs[k]
   · simp[b,c]
   · simp[b,c]at a
theorem cmpI_zero{x y:Int}(h:cmpI x y=0):x=y:=by
 unfold cmpI at h;by_cases a:x<y
 · simp[a]at h
 · by_cases b:y<x
   · simp[a,b]at h
   · omega
theorem DL{a b:Option Addr}{m d:Nat}(v:SlI w a n c xs)(y:SlI w b m d ys) :
 Calls prog 41 #[.slice a n c,.slice b m d] w fun e K=>e = .returned (.int .i64 (A8 xs ys))/\Qt w K:=by
 have S:=v.le;have J:=y.le;have f:=f8 v.len;have g:=f8 y.len
 go_enter func41,ntmps41
 go_wp2
 go_loopw[11] (fun i wr=>∃ k:Nat,k<=n/\k<=m/\i = .int .i64 k/\Qt w wr/\xs.take k=ys.take k) (fun i _=>n-(intOf i).toNat)
 case atStart=>exact⟨0,fu _,fu _,rfl,Qt.refl _,rfl⟩
 case round =>
  obtain⟨k,R,H,rfl,o,hp⟩:=hrel;have p:=f8 hp;clear hp;have v:=v.ext o.ext;have y:=y.ext o.ext;by_cases t:k<n
  · obtain⟨M,T,rfl,q⟩:=v.at t;have P:=q k t;clear q;by_cases j:k<m
    · obtain⟨N,U,rfl,r⟩:=y.at j;have Q:=r k j;clear r;have s:=@Vo xs ys k p.out (by have:=f.out;omega) (by have:=g.out;omega);generalize x:xs.getD k 0=F at *
      generalize z:ys.getD k 0=G at *
      have C:=f8 x;have D:=f8 z;have A:=f8 s;clear x z s;by_cases he:cmpI F G=0
      · have E:(cmpI F G != 0)=false:=by simp[he]
        have B:=f8 he;clear he
        go_wp2_with(go_at_call 70;refine(Ja _ _ _).mono ?_;rintro e L ⟨rfl,rfl⟩)
        go_roundw
        case rel=>exact⟨k+1,by omega,by omega,by go_num,o,Lr p.out (by have:=f.out;omega) (by have:=g.out;omega) (by rw[C.out,D.out,cmpI_zero B.out];simp)⟩
        case measure=>simp[intOf];omega
      · have E:(cmpI F G != 0)=true:=by simp[he]
        have B:=f8 he;clear he
        go_wp2_with(go_at_call 70;refine(Ja _ _ _).mono ?_;rintro e L ⟨rfl,rfl⟩)
        go_ret;exact⟨DV (A.out B.out),o⟩
    · go_wp2;go_ret;refine⟨DV ?_,o⟩;rw[Ds k xs ys p.out (by have:=f.out;omega) (by have:=g.out;omega),gu (l:=ys) (by have:=g.out;omega),gg (l:=xs) (by have:=f.out;omega)];rfl
  · have O:k=n:=by omega
    by_cases I:n<m
    · go_wp2;go_ret;refine⟨DV ?_,o⟩;rw[Ds k xs ys p.out (by have:=f.out;omega) (by have:=g.out;omega),gu (l:=xs) (by have:=f.out;omega),gg (l:=ys) (by have:=g.out;omega)];rfl
    · go_wp2;go_ret;refine⟨DV ?_,o⟩;rw[Ds k xs ys p.out (by have:=f.out;omega) (by have:=g.out;omega),gu (l:=xs) (by have:=f.out;omega),gu (l:=ys) (by have:=g.out;omega)];rfl
def Hs(l:List (List Int))(i j:Nat):List (List Int):=(l.set i (l.getD j [])).set j (l.getD i [])
theorem LU(l:List (List Int))(i j:Nat):(Hs l i j).length=l.length:=by simp[Hs]
theorem Ky{l:List (List Int)}{i j:Nat}(hi:i<l.length)(a:j<l.length)(k:Nat):(Hs l i j).getD k []=if k=j then l.getD i []else if k=i then l.getD j []else l.getD k []:=by
 simp only[Hs,gqq,ir];by_cases h1:j=k
 · subst h1;simp[a]
 · by_cases h2:i=k
   · subst h2;simp[h1,hi,Ne.symm h1]
   · simp[h1,h2,Ne.symm h1,Ne.symm h2]
theorem PA{l:List (List Int)}(hi:i<l.length)(a:j<l.length):(Hs l i j).Perm l:=by
 have h:=Array.swap_perm (xs:=l.toArray) (i:=i) (j:=j) (by simpa using hi) (by simpa using a);have h2:=Array.perm_iff_toList_perm.1 h;simpa[Hs,hi,a]using h2
def Srt(w:World)(base g n c:Nat)(ps:List (List Int)):Prop :=
 ps.length=n/\∃ cells,Own w base 35 (some ⟨g,0,none⟩) n c cells/\QEl w base cells ps
theorem DM{a:Option Addr}(h:Own w base e a n c cs)(d:Own w base' e' a' n' c' cs')(b:e≠e'):blk a=none\/blk a≠blk a' :=
 D3 h (Cy.of d) b
section
variable {w w':World} {base g n c:Nat} {ps:List (List Int)}
theorem Srt.len(h:Srt w base g n c ps):ps.length=n:=h.1
theorem Srt.le(h:Srt w base g n c ps):n<=9223372036854775807:=by
 obtain⟨_,a,h1,_⟩:=h;have:=h1.sl.max;have h2:=h1.cap;unfold maxLen at this;omega
theorem Srt.at(h:Srt w base g n c ps){k:Nat}(f:k<n):∃ a m b,w.cell? ⟨g,k,none⟩=some (.slice a m b)/\SlI w a m b (ps.getD k [])/\w.frozen? ⟨g,k,none⟩=false:=by
 obtain⟨h0,d,h1,h2⟩:=h;obtain⟨a,m,b,e,h3⟩:=h2 k (by omega);exact⟨a,m,b,by rw[h1.cellAt f,e],h3.sl,h1.frozenAt k⟩
theorem Srt.swap(h:Srt w base g n c ps){i j:Nat}{u v:Value}(hi:i<n)(y:j<n)(hu:w.cell? ⟨g,i,none⟩=some u)(B:w.cell? ⟨g,j,none⟩=some v) :
 Srt ((w.setCell ⟨g,i,none⟩ v).setCell ⟨g,j,none⟩ u) base g n c (Hs ps i j)/\w.grownBy ((w.setCell ⟨g,i,none⟩ v).setCell ⟨g,j,none⟩ u) (some g):=by
 obtain⟨h0,b,h1,h2⟩:=h;have s:=Aj w g i v;have x:=Aj (w.setCell ⟨g,i,none⟩ v) g j u
 have p:w.grownBy ((w.setCell ⟨g,i,none⟩ v).setCell ⟨g,j,none⟩ u) (some g) :=
  ⟨rfl,rfl,rfl,ft s.size x.size,fun k q r=>(x.block k (fN q s.size) r).trans (s.block k q r)⟩
 refine⟨⟨by rw[LU];exact h0,(b.set i v).set j u,(h1.stored i v).stored j u,?_⟩,p⟩;have o:=h1.len;have z:b.getD i undef=u:=by have:=h1.cellAt hi;rw[hu]at this;simpa using this.symm
 have A:b.getD j undef=v:=by have:=h1.cellAt y;rw[B]at this;simpa using this.symm
 have t:=h2.kept p (fun _ _ _ _ C=>DM C h1 (by decide));intro k q;rw[LU]at q;rw[Ky (by omega) (by omega)];by_cases d:k=j
 · subst d;obtain⟨a,m,f,l,h3⟩:=t i (by omega);refine⟨a,m,f,?_,by simpa using h3⟩;rw[<-l,z];simp[o,y]
 · by_cases e:k=i
   · subst e;obtain⟨a,m,f,l,h3⟩:=t j (by omega);refine⟨a,m,f,?_,by simpa[d]using h3⟩;rw[<-l,A];simp[o,hi,Ne.symm d]
   · obtain⟨a,m,f,l,h3⟩:=t k q;refine⟨a,m,f,?_,by simpa[d,e]using h3⟩;rw[<-l];simp[Ne.symm d,Ne.symm e]
end
def Dt(ps:List (List Int))(a b:Nat):Prop:=∀ i j,a<=i->i<j->j<b->A8 (ps.getD i []) (ps.getD j [])<=0
def FR(ps0 ps:List (List Int))(a b:Nat):Prop:=ps.Perm ps0/\∀ i,(i<a\/b<=i)->ps.getD i []=ps0.getD i []
theorem FR.refl(ps:List (List Int))(a b:Nat):FR ps ps a b:=⟨kT _,fun _ _=>rfl⟩
theorem FR.swap{a b:Nat}(h:FR ps0 ps a b)(hi:i<ps.length)(c:j<ps.length)(e:a<=i)(g:i<b)(f:a<=j)(l:j<b):FR ps0 (Hs ps i j) a b:=by
 refine⟨(PA hi c).trans h.1,fun k d => ?_⟩;rw[Ky hi c,fl (by omega),fl (by omega)];exact h.2 k d
structure T8(ps:List (List Int))(a j i:Nat):Prop where
 lo:Dt ps a j
 hi:Dt ps j (i+1)
 mid:∀ x y,a<=x->x<j->j<y->y<=i->A8 (ps.getD x []) (ps.getD y [])<=0
theorem T8.start{a:Nat}(h:Dt ps a i):T8 ps a i i:=⟨h,fun x y h1 h2 h3=>by omega,fun x y _ _ _ _=>by omega⟩
theorem T8.step{a:Nat}(h:T8 ps a j i)(f:a<j)(k:j<=i)(g:i<ps.length)(l:A8 (ps.getD j []) (ps.getD (j-1) [])<0):T8 (Hs ps j (j-1)) a (j-1) i:=by
 have e:=@Ky ps j (j-1) (by omega) (by omega);refine⟨?_,?_,?_⟩
 · intro x y h1 h2 h3;rw[e,e,fl (by omega),fl (by omega),fl (by omega),fl (by omega)];exact h.lo x y h1 h2 (by omega)
 · intro x y h1 h2 h3;rw[e,e];by_cases d:x=j-1
   · rw[fG d,fl (show ¬ y=j-1 by omega)];by_cases c:y=j
     · rw[fG c];omega
     · rw[fl c];exact h.hi j y (lrf _) (by omega) h3
   · rw[fl d,fl (show ¬ y=j-1 by omega),fl (show ¬ y=j by omega)];by_cases b:x=j
     · rw[fG b];exact h.mid (j-1) y (by omega) (by omega) (by omega) (by omega)
     · rw[fl b];exact h.hi x y (by omega) h2 h3
 · intro x y h1 h2 h3 h4;rw[e,e,fl (show ¬ x=j-1 by omega),fl (show ¬ x=j by omega),fl (show ¬ y=j-1 by omega)];by_cases c:y=j
   · rw[fG c];exact h.lo x (j-1) h1 h2 (by omega)
   · rw[fl c];exact h.mid x y h1 (by omega) (by omega) h4
def Vp(w:World)(base g n c:Nat)(ps:List (List Int))(a b:Nat)(e:Ending)(w':World):Prop :=
 e = .returned (.tuple #[])/\∃ ps',Srt w' base g n c ps'/\FR ps ps' a b/\Dt ps' a b/\w.grownBy w' (some g)
end Go.Proofs.YthdbingomfdeoaaGreatDoor
