/- Part Gs3. -/
import Derived.Test.YthdbingomfdeoaaGreatDoorGs2
import Derived.WalkSpells
import Derived.Maps.RangeWalk
import Derived.WalkKit
import Derived.Shelf.Spec.BitsCarry
import Derived.Shelf.Bits.Mul64
import Derived.Shelf.Small.Bits
import Derived.Test.YthdbingomfdeoaaGreatDoorProg
import Derived.Deep.QuietTactic
import Derived.BigQuiet
import Derived.Deep.CutBlock
import Derived.Deep.DeepCutAuto
set_option linter.all false
set_option maxRecDepth 100000
set_option maxHeartbeats 100000000
namespace Go.Proofs.YthdbingomfdeoaaGreatDoor
open Tryz Go Go.RowKit
def fJ:=@Nat.mul_comm
def fO:=@IntWalk.i64_in
def fR:=@Classical.byContradiction
def fX:=@Nat.mul_le_mul_left
def fa:=@Nat.mul_le_mul_right
def fx:=@Nat.pow_le_pow_right
def gL:=@Nat.mul_le_mul
def gN:=@IntKind.wrap_u64
def go:=@List.length_take
def gr:=@Nat.pow_succ
def iD:=@Int.mul_le_mul_of_nonneg_left
def iE:=@Nat.zero_mul
def iH:=@Nat.mul_assoc
def ib:=@List.not_mem_nil
def io:=@List.mem_iff_getElem
def ip:=@Nat.add_mul
def j5:=@Int.mul_le_mul_of_nonneg_right
def j7:=@List.mem_or_eq_of_mem_set
def j9:=@Nat.pow_add
def jD:=@List.getElem?_map
def jF:=@Nat.mul_add
def jQ:=@Int.mul_nonneg
def jY:=@Int.le_of_lt
def jd:=@Nat.pow_pos
def jq:=@Nat.add_sub_cancel
def kX:=@List.take_length
def ka:=@List.getLast_eq_getElem
def kx:=@or_false
def l4:=@Nat.mod_add_div
def lL:=@List.map_take
def lg:=@List.getD_cons_succ
def mI:=@Nat.div_mul_le_self
def mL:=@Int.add_sub_cancel
def me:=@Int.le_trans
def mi:=@List.dropLast_concat_getLast
variable {L gs hs l ls ps qs:List (List Int)} {m:List (List Int×Value)} {b p x xs y:List Int} {seen:List Nat} {cells cs:List Value} {base c ck g i it k n r:Nat} {a:Option Addr} {P:Program} {e mt t ty:TypeId} {v:Value} {w:World}
theorem EN(i:SlI w a n c xs)(t:n<=1000000)(b:a=none->c=0) :
 Calls prog 26 #[.slice a n c] w (P8 w xs):=by
 cases a with
 | none =>
  have h0:c=0:=b rfl;subst h0;have h1:n=0:=by have:=Sl.cap i;omega
  subst h1;have d:xs=[]:=fk i.len;have o:=f8 d;clear d;have f:=fun j:World=>Lib.run_eql_slice_nil (P:=prog) j 35 3 none 0 0 0 0 underlying35
  go_enter func26,ntmps26
  go_wp2;go_ret;exact⟨none,0,0,rfl,Ext.refl w,by rw[o.out];exact Own.nil _ _ _⟩
 | some ad =>
  have f:=fun j:World=>Lib.run_eql_slice_nil (P:=prog) j 35 3 (some ad) n c 0 0 underlying35
  go_enter func26,ntmps26
  go_upto_region 3 with(fail)
  have l:Ext w (w.alloc (.cells #[] 3)):=(Ext.refl w).alloc _;have m:=Au w w.heap.size 3 #[] 0 rfl (lrf _) (by omega)
  go_wp2_with(refine BS rfl rfl underlying35 BG rfl rfl m rfl (i.ext l) (A4 _) (by unfold maxLen;omega) (by omega) (by simp) ?_;intro p q v e g r)
  go_ret;refine⟨p,n,q,rfl,l.grown g (fun k s=>(m.lt s).1),?_⟩;simpa[BF]using e
def Xw(w:World)(ps:List (List Int))(e:Ending)(w':World):Prop :=
 ∃ a n c cells,e = .returned (.slice a n c)/\Ext w w'/\n=ps.length/\Own w' w.heap.size 35 a n c cells/\QEl w' w.heap.size cells ps
def Ht(w:World)(it:Nat):Nat:=match w.heap[it]? with | some (.mapIter _ _ seen _)=>seen.size | _=>0
theorem Kz(h:AC w it r n seen):Ht w it=seen.length:=by
 unfold Ht;unfold AC at h;rw[h];simp
def SoR(w0:World)(L:List (List Int))(r it:Nat)(v:Value)(wr:World):Prop :=
 ∃ seen al nl cl cells,v = .slice al nl cl/\nl=seen.length/\Ext w0 wr/\w0.heap.size<=it/\AB wr r (B1 L)/\AC wr it r L.length seen/\seen.Nodup/\(∀ i∈seen,i<L.length) /\
  Own wr w0.heap.size 35 al nl cl cells/\QEl wr w0.heap.size cells (seen.map (fun i=>L.getD i []))
theorem D4(h:Own w base e a n c cs)(hi:AC w it r k seen):blk a=none\/blk a≠some it:=by
 rcases h.2 with⟨b,_⟩|⟨g,d,f,b,_,i,_⟩
 · simp only[fd]at b;left;rw[b.1];rfl
 · simp only[fd]at b;right;rw[b.1];intro he;have:g=it:=by simpa[blk]using he
   subst this;unfold AC at hi;rw[i]at hi;cases hi
theorem On{r':Nat}(h:AB w r m)(hi:AC w it r' k seen):some r≠some it:=by
 intro he;have:r=it:=by simpa using he
 subst this;unfold AC at hi;rw[h.obj]at hi;cases hi
theorem Jb{c:Type}[BEq c][LawfulBEq c]{l k:List c}(f:l.Nodup)(e:k.Nodup)(h:∀ a,a∈l<->a∈k):l.Perm k:=by
 rw[List.perm_iff_count];intro a;have h1:=List.nodup_iff_count.1 f a;have h2:=List.nodup_iff_count.1 e a;have h3:0<l.count a<->a∈l:=List.count_pos_iff;have h4:0<k.count a<->a∈k:=List.count_pos_iff;have:=h a;by_cases b:a∈l
 · have:=h3.2 b;have:=h4.2 ((h a).1 b);omega
 · have g:¬ 0<l.count a:=fun h=>b (h3.1 h);have i:¬ 0<k.count a:=fun d=>b ((h a).2 (h4.1 d));omega
theorem KA(L:List (List Int)):(List.range L.length).map (fun i=>L.getD i [])=L:=by
 apply iQ
 · simp
 · intro i h1 h2;simp[h2]
theorem T9(c:seen.Nodup)(d:∀ i∈seen,i<L.length)(b:∀ i,i<L.length->i∈seen):(seen.map (fun i=>L.getD i [])).Perm L/\seen.length=L.length:=by
 have hp:seen.Perm (List.range L.length):=Jb c List.nodup_range (fun a=>by
  rw[gO]
  exact⟨d a,b a⟩)
 refine⟨?_,by simpa using hp.length_eq⟩;have:=hp.map (fun i=>L.getD i [])
 rwa[KA]at this
theorem Ua{k:List Int}(h:(B1 L)[i]?=some (k,v)):i<L.length/\k=Ab (L.getD i []):=by
 unfold B1 at h;rw[jD]at h;cases a:L[i]? with
 | none=>rw[a]at h;cases h
 | some p =>
  rw[a]at h;have c:i<L.length:=by
   rcases fS i L.length with b | b
   · exact b
   · simp[fH b]at a
  refine⟨c,?_⟩;simp only[ic,fc,jk]at h;rw[gqq,a];exact h.1.symm
theorem FT:∀ (L M:List Nat),L.Nodup->(∀ x∈L,x∈M)->L.length<=M.length
 | [],_,_,_=>by simp
 | x :: L,M,hn,hs=>by
  rw[gG]at hn;have hx:x∈M:=hs x (by simp);have:=FT L (M.erase x) hn.2 (fun y a=>(List.mem_erase_of_ne (by rintro rfl;exact hn.1 a)).2 (hs y (by simp[a])));rw[List.length_erase_of_mem hx]at this;have:0<M.length:=gW hx;simp only[fP];omega
def LW(w:World)(ps:List (List Int))(er:Int)(e:Ending)(w':World):Prop :=
 ∃ a n c cells,e = .returned (.tuple #[.slice a n c,.int .i64 er])/\Ext w w'/\n=ps.length/\Own w' w.heap.size 35 a n c cells/\QEl w' w.heap.size cells ps
theorem MO(g:n=ps.length)(e:Own w base 35 a n c cells)(f:QEl w base cells ps):SlL w a n c ps:=by
 refine⟨g.symm,cells,e.sl,fun i k => ?_⟩;obtain⟨b,j,d,h1,h2⟩:=f i (by omega);exact⟨b,j,d,h1,h2.sl⟩
theorem EO(hp:ps.Nodup)(k:qs.Nodup)(h:∀ x,x∈ps<->x∈qs)(op:Dt ps 0 ps.length)(oq:Dt qs 0 qs.length):ps=qs:=by
 have c:∀ {l:List (List Int)},Dt l 0 l.length->l.Pairwise (fun a b=>A8 a b<=0):=by
  intro l g;rw[gt];intro i j f e d;have:=g i j (fu _) d e;simpa[f,e]using this
 refine List.Perm.eq_of_pairwise ?_ (c op) (c oq) (Jb hp k h);intro a b _ _ h1 h2;have:=BE a b;exact Hr (by omega)
def Oo(l:List (List Int)):Prop:=∀ i j,i<j->j<l.length->A8 (l.getD i []) (l.getD j [])<0
theorem Gg{a c:List Int}(h1:A8 a b<0)(h2:A8 b c<0):A8 a c<0:=by
 have h:=C7 (jY h1) (jY h2);rcases Int.lt_or_eq_of_le h with h|h
 · exact h
 · have e:=Hr h;subst e;have:=BE a b;omega
theorem Oo.nodup(h:Oo l):l.Nodup:=by
 unfold List.Nodup;rw[gt];intro i j c b a e;have:=h i j a b;simp only[gqq,eZ c,eZ b,fW,e,DE]at this;omega
structure isG(l:List (List Int)):Prop where
 pos:0<l.length
 perms:BL l (l.getD 0 []).length
 sort:Oo l
 closed:∀ p,Bq l (l.getD 0 []).length p->p∈l
noncomputable def isGB (l:List (List Int)):Bool:=@decide (isG l) (Classical.propDecidable _)
theorem ID(h:isG l):isGB l=true:=by
 unfold isGB;exact @decide_eq_true _ (Classical.propDecidable _) h
theorem C8(h:¬ isG l):isGB l=false:=by
 unfold isGB;exact @decide_eq_false _ (Classical.propDecidable _) h
theorem WK:∀ n,n<7->∀ a∈gen n (idn n),A8 (idn n) a<=0:=by decide +kernel
theorem Em(h:Af xs=true):xs.length<7/\xs∈gen xs.length (idn xs.length):=by
 have hp:=Ap h;exact⟨by have:=hp.1;omega,FN _ _ _ rfl hp.2.2 (fun x a=>FO.2 (hp.2.1 x a))⟩
theorem Bt(h:i<l.length):l.getD i []∈l:=by
 rw[gqq,eZ h];exact fE h
theorem Gz(h:p∈l):∃ i,i<l.length/\l.getD i []=p:=by
 obtain⟨i,a,e⟩:=io.1 h;exact⟨i,a,by rw[gqq,eZ a];exact e⟩
theorem isG.first(h:isG l):l.getD 0 []=idn (l.getD 0 []).length:=by
 have h0:=h.perms _ (Bt h.pos);obtain⟨i,b,e⟩:=Gz (h.closed _ (CT l _));rcases fF i with a|a
 · subst a;exact e
 · have h1:=h.sort 0 i a b;have h2:=Em h0.1;have h3:=WK _ h2.1 _ h2.2;rw[e]at h1;have h4:=BE (l.getD 0 []) (idn (l.getD 0 []).length);omega
theorem isG.few(h:isG l):l.length<=720:=by
 have h0:=h.perms _ (Bt h.pos);have h2:=Em h0.1;refine ft (nodup_le l (gen _ (idn (l.getD 0 []).length)) h.sort.nodup fun p hp => ?_) (QC _ h2.1);obtain⟨h3,h4⟩:=h.perms p hp;have:=Em h3;rw[h4]at this;exact this.2
theorem isG.comp{l:List (List Int)}(h:isG l){i k:Nat}(hi:i<l.length)(b:k<l.length):comp (l.getD i []) (l.getD k [])∈l:=by
 refine h.closed _ ⟨[l.getD i [],l.getD k []],?_,?_⟩
 · intro g a;simp only[fV,ib,kx]at a;rcases a with rfl|rfl
   · exact Bt hi
   · exact Bt b
 · have c:=(h.perms _ (Bt b)).2;rw[jg,jg,List.foldr_nil,<-c,Cx]
structure MP(l:List (List Int))(k:Nat):Prop where
 perms:∀ i,i<k->Af (l.getD i [])=true/\(l.getD i []).length=(l.getD 0 []).length
 sort:∀ i j,i<j->j<k->A8 (l.getD i []) (l.getD j [])<0
theorem MP.one(h:Af (l.getD 0 [])=true):MP l 1 :=
 ⟨fun i a=>by
  have:i=0:=by omega
  subst this
  exact⟨h,rfl⟩,fun i j h1 h2=>by omega⟩
theorem MP.succ(h:MP l (k+1))(hp:Af (l.getD (k+1) [])=true/\(l.getD (k+1) []).length=(l.getD 0 []).length)(b:A8 (l.getD k []) (l.getD (k+1) [])<0):MP l (k+2):=by
 refine⟨fun i a => ?_,fun i j h1 h2 => ?_⟩
 · by_cases he:i=k+1
   · subst he;exact hp
   · exact h.perms i (by omega)
 · by_cases he:j=k+1
   · subst he;by_cases a:i=k
     · subst a;exact b
     · exact Gg (h.sort i k (by omega) (by omega)) b
   · exact h.sort i j h1 (by omega)
theorem MP.all(h:MP l k)(c:l.length<=k):BL l (l.getD 0 []).length/\Oo l:=by
 refine⟨fun g a => ?_,fun i j h1 h2=>h.sort i j h1 (by omega)⟩;obtain⟨i,b,rfl⟩:=Gz a;exact h.perms i (by omega)
theorem Oq(h:AB w r m):∃ a b,w.heap[r]?=some (.map a b)/\a.size=m.length:=by
 have h1:=IB h;unfold Gy at h1;have h2:=h.1;exact⟨_,_,h2,by rw[h2]at h1;exact h1⟩
structure Lg(l gs L:List (List Int))(k:Nat):Prop where
 sub:∀ g∈gs,g∈l
 nodup:L.Nodup
 reach:∀ p,p∈L<->Bq gs (l.getD 0 []).length p
 part:∀ i,i<k->l.getD i []∈L
 few:L.length<=l.length
theorem KB(h:∀ g∈gs,g∈hs):Bq gs n p->Bq hs n p
 | ⟨ws,h1,h2⟩=>⟨ws,fun g a=>h g (h1 g a),h2⟩
theorem KC(b:n<=6)(hp:BL gs n){p q:List Int}(h1:Bq gs n p)(h2:Bq gs n q):Bq gs n (comp p q):=by
 obtain⟨d,c,rfl⟩:=h1
 induction d with
 | nil =>
  have e:=Bi b hp h2;have:comp (idn n) q=q:=by
   unfold comp
   conv=>rhs;rw[<-List.map_id q]
   apply gZ;intro x a;have:=(Ap e.1).2.1 x a;rw[Fv (by omega)];simp;omega
  rw[List.foldr_nil,this];exact h2
 | cons g d ih =>
  have f:=Bi b hp h2;have i:=Bi b hp ⟨d,fun x a=>c x (by simp[a]),rfl⟩;rw[jg,C0 (by intro y j;have:=(Ap f.1).2.1 y j;rw[i.2];rw[f.2]at this;exact this)];exact Kx (c g (by simp)) (ih (fun x a=>c x (by simp[a])))
theorem Lg.too(a:isG l)(d:∀ g∈gs,g∈l)(b:L.Nodup)(c:∀ p,p∈L<->Bq gs (l.getD 0 []).length p):L.length<=l.length :=
 nodup_le L l b (fun p hp=>a.closed p (KB d ((c p).1 hp)))
theorem Lg.fin(h:Lg l gs L k)(r:l.length<=k)(h0:0<l.length)(hp:BL l (l.getD 0 []).length)(j:Oo l):isG l<->L.length=l.length:=by
 have h6:(l.getD 0 []).length<=6:=(Ap (hp _ (Bt h0)).1).1;have f:BL gs (l.getD 0 []).length:=fun g o=>hp g (h.sub g o);have b:∀ p∈l,p∈L:=by
  intro p hp;obtain⟨i,q,rfl⟩:=Gz hp;exact h.part i (by omega)
 constructor
 · intro _;have:=nodup_le l L j.nodup b;have:=h.few;omega
 · intro he;refine⟨h0,hp,j,?_⟩;have a:∀ p∈L,p∈l:=by
    intro p e;refine fR fun d => ?_
    have:=nodup_le (p :: l) L (gG.2 ⟨d,j.nodup⟩) (fun x c=>by
     rcases fV.1 c with rfl|c
     · exact e
     · exact b x c)
    simp at this;omega
   rintro p ⟨n,m,rfl⟩;apply a;rw[h.reach]
   induction n with
   | nil=>exact CT gs _
   | cons g n ih=>exact KC h6 f ((h.reach g).1 (b g (m g (by simp)))) (ih (fun x c=>m x (by simp[c])))
def CEl(w:World)(cs:List Value)(ps:List (List Int)):Prop:=∀ i,i<ps.length->∃ a n c,cs.getD i undef = .slice a n c/\SlI w a n c (ps.getD i [])
theorem CEl.ext{w b:World}{cs:List Value}{ps:List (List Int)}(h:CEl w cs ps)(e:Ext w b):CEl b cs ps :=
 fun i d=>let ⟨a,n,c,h1,h2⟩:=h i d;⟨a,n,c,h1,h2.ext e⟩
theorem CEl.snoc(h:CEl w cs ps)(b:cs.length=ps.length)(hp:SlI w a n c p):CEl w (cs ++ [.slice a n c]) (ps ++ [p]):=by
 intro i g;simp only[fo,List.length_singleton]at g;by_cases h1:i<ps.length
 · obtain⟨d,j,f,h2,h3⟩:=h i h1;refine⟨d,j,f,?_,?_⟩
   · rw[<-h2];simp[fj (b ▸ h1)]
   · simpa[fj h1]using h3
 · have e:i=ps.length:=by omega
   subst e;refine⟨a,n,c,?_,?_⟩
   · rw[<-b];simp
   · simpa using hp
theorem KD{k:TypeId}{a:Array MapEntry}(c:P.underlying mt=some (.map k e))(b:w.heap[r]?=some (.map a ck)) :
 (Builtin.len_ #[mt] ty #[.map (some r)]).run P w = .ok (.int .i64 a.size) w:=by
 simp[Builtin.len_,fT c,run_getObj_map w r a ck b,goInt]
theorem Gh(hx:SlL w a n c ls)(aX:n<=1000000) :
 Calls prog 16 #[.slice a n c] w (fun e w'=>e = .returned (.bool (isGB ls))/\Ext w w'):=by
 have z:=f8 hx.len;by_cases h0:n=0
 · subst h0;have t:=f8 (C8 (l:=ls) (fun h=>by have:=h.pos;rw[z.out]at this;omega))
   go_enter func16,ntmps16
   go_wp2;go_ret;exact⟨Gm t.out,Ext.refl w⟩
 · obtain⟨b1,o1,a1,Y,c1,rfl,g0,s1⟩:=hx.at (k:=0) (by omega);have g1:w.cell? ⟨b1,o1,none⟩=some (.slice a1 Y c1):=g0;have d:=f8 s1.len;clear g0;have hz:((n:Int) == 0)=false:=by simp;omega
   go_enter func16,ntmps16
   go_wp2
   go_loopw[19] (fun i wr=>∃ k:Nat,i = .int .i64 k/\k<=n/\Ext w wr/\Hid (MP ls k)) (fun i _=>n-(intOf i).toNat)
   case atStart=>exact⟨0,rfl,fu _,Ext.refl _,f8 ⟨fun i V=>by omega,fun i j h1 h2=>by omega⟩⟩
   case round =>
    obtain⟨k,rfl,hk,hE,HK⟩:=hrel;have aB:=hx.ext hE;by_cases ax:k<n
    · obtain⟨b2,o2,a2,Z,c2,M,g2,I⟩:=aB.at (k:=k) ax;simp only[fc,gz,ij]at M;obtain⟨rfl,rfl⟩:=M;have y:k<ls.length:=by rw[z.out];exact ax
      have ae:=f8 I.len;cases hv:Af (ls.getD k [])with
      | false =>
       have t:=f8 (C8 (l:=ls) (fun h=>by have:=(h.perms _ (Bt y)).1;rw[hv]at this;cases this))
       go_wp2_with fail
       refine(AU I).mono ?_;rw[hv];rintro e w1 ⟨rfl,m⟩;go_wp2;go_ret;exact⟨Gm t.out,hE.trans m⟩
      | true =>
       by_cases E:Z=Y
       · have aL:((Z:Int) != (Y:Int))=false:=by simp[E]
         have az:Af (ls.getD k [])=true/\(ls.getD k []).length=(ls.getD 0 []).length:=⟨hv,by rw[d.out,ae.out,E]⟩;have ah:=f8 az;clear az E;cases k with
         | zero =>
          rw[gE]at g2
          go_wp2_with fail
          refine(AU I).mono ?_;rw[hv];rintro e w1 ⟨rfl,m⟩;go_wp2;go_roundw
          case rel=>exact⟨1,by go_num,by omega,hE.trans m,f8 (MP.one ah.out.1)⟩
          case measure=>simp[intOf];omega
         | succ j =>
          obtain⟨b3,o3,a3,n3,c3,e3,g3,s3⟩:=aB.at (k:=j) (by omega);simp only[fc,gz,ij]at e3;obtain⟨rfl,rfl⟩:=e3;have aZ:IntKind.i64.wrap ((j:Int)+1-1)=j:=by rw[mL];exact fO _ (by omega)
          have b0:IntKind.i64.wrap (j:Int)=j:=fO _ (by omega)
          go_wp2_with fail
          refine(AU I).mono ?_;rw[hv];rintro e w1 ⟨rfl,m⟩;have aT:=m.cell g3
          go_wp2_with fail
          refine(DL (s3.ext m) (I.ext m)).mono ?_;rintro e w2 ⟨rfl,aG⟩;have am:=(hE.trans m).trans aG.ext;obtain⟨cv,a8⟩:∃ cv,A8 (ls.getD j []) (ls.getD (j+1) [])=cv:=⟨_,rfl⟩;rw[a8];have ac:=f8 a8;clear a8;by_cases aV:0<=cv
          · have t:=f8 (C8 (l:=ls) (fun h=>by have:=h.sort j (j+1) (by omega) y;rw[ac.out]at this;omega));go_wp2;go_ret;exact⟨Gm t.out,am⟩
          · go_wp2;go_roundw
            case rel=>exact⟨j+1+1,by go_num,by omega,am,f8 (HK.out.succ ah.out (by rw[ac.out];omega))⟩
            case measure=>simp[intOf];omega
       · have aL:((Z:Int) != (Y:Int))=true:=by simp;omega
         have t:=f8 (C8 (l:=ls) (fun h=>by have:=(h.perms _ (Bt y)).2;rw[d.out,ae.out]at this;exact E this));clear E
         go_wp2_with fail
         refine(AU I).mono ?_;rw[hv];rintro e w1 ⟨rfl,m⟩;go_wp2;go_ret;exact⟨Gm t.out,hE.trans m⟩
    · have ek:k=n:=by omega
      obtain⟨Q,G⟩:=HK.out.all (by have:=z.out;omega);have K:=f8 Q;have aF:=f8 G;have D:Y<=6:=by rw[<-d.out];exact(Ap (Q _ (Bt (i:=0) (by have:=z.out;omega))).1).1
      rw[d.out]at Q;clear HK G ek Q
      go_wp2_with fail
      refine(Cd (gs:=[]) ⟨rfl,[],Sl.nil wr,fun i V=>by simp at V⟩ D (by intro g s;cases s)).mono ?_;rintro e w2 ⟨r,L,rfl,ak,hr,hM,aa,C⟩;have an:=hE.trans ak;have ao:Lg ls [] L 0:=by
       refine⟨by simp,aa,by rw[d.out];exact C,fun i V=>by omega,?_⟩
       have:=nodup_le L [idn Y] aa (fun p hp=>by
        obtain⟨ws,h1,h2⟩:=(C p).1 hp;cases ws with
        | nil=>simp[h2]
        | cons g ws=>exact absurd (h1 g (by simp)) (by simp))
       rw[z.out];simp at this;omega
      have aA:w.heap.size<=r:=by have:=hE.size;omega
      clear ak hr aa C;go_wp2
      go_loopw[6,7,52] (fun v u i wr=>∃ k:Nat,∃ gs L ag ng cg gc r,v = .slice ag ng cg/\u = .map (some r)/\i = .int .i64 k/\k<=n/\Ext w wr/\Hid (ng=gs.length)/\ng<=k/\w.heap.size<=r/\Own wr w.heap.size 35 ag ng cg gc/\CEl w gc gs/\AB wr r (B1 L)/\Hid (Lg ls gs L k)) (fun _ _ i _=>n-(intOf i).toNat)
      case atStart=>exact⟨0,[],L,none,0,0,[],r,rfl,rfl,rfl,fu _,an,f8 rfl,lrf _,aA,Own.nil _ _ _,by intro i V;simp at V,hM,f8 ao⟩
      case round =>
       clear hM ao aA an;obtain⟨k,gs,L,ag,ng,cg,gc,r,rfl,rfl,rfl,hk,B,A,aQ,hr,hO,hC,hM,b⟩:=hrel;have ab:BL gs Y:=fun g s=>by have:=K.out g (b.out.sub g s);rw[d.out]at this;exact this
       have aR:=f8 ab;have aE:=f8 (fun x hx=>(Bi D ab (by have:=(b.out.reach x).1 hx;rw[d.out]at this;exact this)).2);clear ab;obtain⟨es,ck,au,av⟩:=Oq hM;have ad:Hid (es.size=L.length):=by show _=_;rw[av];simp[B1]
       clear av;by_cases W:k<n
       · obtain⟨b2,o2,a2,Z,c2,M,g2,I⟩:=hx.at (k:=k) W;simp only[fc,gz,ij]at M;obtain⟨rfl,rfl⟩:=M;have y:k<ls.length:=by rw[z.out];exact W
         have O:=K.out _ (Bt y);rw[d.out]at O;have ay:=Bt y;obtain⟨J,F⟩:∃ J,ls.getD k []=J:=⟨_,rfl⟩;rw[F]at I O ay;have af:=f8 F;clear F;have aK:Z<=6:=by have:=I.len;omega
         have g2:=B.cell g2
         go_wp2_with fail
         refine(Cl (I.ext B) aK).mono ?_;rintro e w4 ⟨rfl,N⟩;have a5:=hM.ext N;have a6:=hO.ext N;have q:=B.trans N;have aw:(Ab (J)).length=6:=AA (by omega);have o:=IA aE.out O.2;clear au hM hO N;by_cases a9:J∈L
         · simp only[a9,kQ]at o;have a0:Hid (Lg ls gs L (k+1)):=by
            show Lg ls gs L (k+1);refine⟨b.out.sub,b.out.nodup,b.out.reach,fun i V => ?_,b.out.few⟩;by_cases he:i=k
            · subst he;rw[af.out];exact a9
            · exact b.out.part i (by omega)
           go_wp2_with(refine C6 rfl rfl Cz Ba El rfl rfl a5 aw ?_;simp only[iI,jZ];rw[o])
           go_roundw
           case rel=>exact⟨k+1,gs,L,ag,ng,cg,gc,r,rfl,rfl,by go_num,by omega,q,A,by omega,hr,a6,hC,a5,a0⟩
           case measure=>simp[intOf];omega
         · simp only[a9,ll]at o;have hA6:Ext w4 (w4.alloc (.cells #[.slice a2 Z c2] 35)):=(Ext.refl w4).alloc _;have aH:=(Au w4 w.heap.size 35 #[.slice a2 Z c2] 1 rfl q.size (by omega)).sl;have aq:=a6.ext hA6
           go_wp2_with(first
            | (refine C6 rfl rfl Cz Ba El rfl rfl a5 aw ?_;simp only[iI,jZ];rw[o])
            | (refine BS rfl rfl underlying29 Ek rfl rfl aq rfl aH (by simp[Value.oneCell']) (by unfold maxLen;omega) (by omega) (by have:=q.size;simp;omega) ?_;intro a7 c7 w7 ar aJ aU))
           have aN:∀ k,blk ag=some k->w.heap.size<=k:=fun k hk=>(aq.lt hk).1;have a4:Ext w w7:=(q.trans hA6).grown aJ aN;have aj:CEl w (gc ++ [.slice a2 Z c2]) (gs ++ [J]):=hC.snoc (by rw[a6.len,A.out]) I;have H:∀ g∈gs ++ [J],g∈ls:=by
            intro g s;rcases fL.1 s with s|s
            · exact b.out.sub g s
            · simp only[fi]at s;subst s;exact ay
           have aD:BL (gs ++ [J]) Y:=fun g s=>by have:=K.out g (H g s);rw[d.out]at this;exact this
           have aI:SlL w7 a7 (ng+1) c7 (gs ++ [J]):=⟨by simp;exact A.out.symm,_,ar.sl,fun i V=>by
            obtain⟨a',n',c',h1,h2⟩:=aj i (by simp;have:=A.out;omega)
            exact⟨a',n',c',h1,h2.ext a4⟩⟩
           refine(Cd aI D aD).mono ?_;rintro e w8 ⟨r8,L8,rfl,al,aY,ap,X,f⟩;rw[<-d.out]at f;obtain⟨ai,aS,aC,U⟩:=Oq ap;have R:Hid (ai.size=L8.length):=by show _=_;rw[U];simp[B1]
           clear U;have T:=a4.trans al;have aP:=KD (P:=prog) (ty:=3) Cz aC;by_cases aO:(n:Int)<(ai.size:Int)
           · have t:=f8 (C8 (l:=ls) (fun h=>by have:=Lg.too h H X f;have e1:=R.out;have M:=z.out;omega));go_wp2;go_ret;exact⟨Gm t.out,T⟩
           · have a0:Hid (Lg ls (gs ++ [J]) L8 (k+1)):=by
              show Lg ls _ L8 (k+1);refine⟨H,X,f,fun i V => ?_,by have e1:=R.out;have M:=z.out;omega⟩;by_cases he:i=k
              · subst he;rw[f,af.out];refine⟨[J],by simp,?_⟩;rw[jg,List.foldr_nil,d.out,<-O.2,Cx]
              · rw[f];exact KB (fun g s=>List.mem_append_left _ s) ((b.out.reach _).1 (b.out.part i (by omega)))
             go_wp2;go_roundw
             case rel=>exact⟨k+1,_,L8,a7,ng+1,c7,_,r8,rfl,rfl,by go_num,by omega,T,f8 (by rw[A.out];simp),by omega,by have:=a4.size;omega,ar.ext al,aj,ap,a0⟩
             case measure=>simp[intOf];omega
       · have S:=f8 (b.out.fin (by have:=z.out;omega) (by have:=z.out;omega) K.out aF.out);have aW:=KD (P:=prog) (ty:=3) Cz au;by_cases hq:es.size=n
         · have aM:((es.size:Int) == (n:Int))=true:=by simp[hq]
           have t:=f8 (ID (S.out.2 (by have e1:=ad.out;have M:=z.out;omega)));clear hq;go_wp2;go_ret;exact⟨Gm t.out,B⟩
         · have aM:((es.size:Int) == (n:Int))=false:=by simp;omega
           have t:=f8 (C8 (fun h=>hq (by have:=S.out.1 h;have e1:=ad.out;have M:=z.out;omega)));clear hq;go_wp2;go_ret;exact⟨Gm t.out,B⟩
theorem Ot:∀ (x y z:List Int),x.length=y.length->A8 (x ++ z) (y ++ z)=A8 x y
 | [],[],z,_=>by simp[DE,A8]
 | [],_ :: _,_,h=>by simp at h
 | _ :: _,[],_,h=>by simp at h
 | a :: x,b :: y,z,h=>by
  simp only[fP,Nat.add_right_cancel_iff]at h;simp only[jh,A8,Ot x y z h]
theorem RV(h:x.length=y.length):A8 (Ab x) (Ab y)=A8 x y:=by
 unfold Ab;rw[h];exact Ot x y _ h
def Bz(gs:List (List Int))(m:List Int):Nat->List Int
 | 0=>m
 | k+1=>if A8 (mvd (gs.getD k []) m) (Bz gs m k)<0 then mvd (gs.getD k []) m else Bz gs m k
def Br(gs:List (List Int))(m:List Int):List Int:=Bz gs m gs.length
theorem DF(gs:List (List Int))(m:List Int):∀ k,(Bz gs m k).length=m.length
 | 0=>rfl
 | k+1=>by
  unfold Bz;split
  · rw[mvd,Ck]
  · exact DF gs m k
theorem Gi :(Instr.sliceAt 57 (.pointer (some ⟨g,0,none⟩)) none none none).run prog w = .ok (.slice (some ⟨g,0,none⟩) 6 6) w:=by
 obtain⟨i,c,e,a,b⟩:=jT BG;have d:prog.underlying 57=some (.array 6 3):=Ba.arr;simp[Instr.sliceAt,Instr.sliceBounds,fT d,sizeOf,typeInfo,c,Instr.sureAddr,Addr.add]
theorem Arr.slI(h:Arr w g t (xs.map (Value.int .i64)))(h6:xs.length=6):SlI w (some ⟨g,0,none⟩) 6 6 xs:=by
 have:=h.sl (k:=6) (by simp[h6]) (by simp[h6,maxLen]);rw[fq,h6,f9 (by simp[h6])]at this;exact this
theorem Fy{q:Nat}{m:List Int}(hx:SlL w a q c gs)(hp:BL gs n)(hm:m.length=n)(Z:n<=6) :
 Calls prog 34 #[.slice a q c,Bg (Ab m)] w fun e w'=>e = .returned (Bg (Ab (Br gs m)))/\Ext w w':=by
 have HX:=f8 hx.len;have ae:=hx.le;have HM:=f8 hm;have HP:=f8 hp;have Y:(Ab m).length=6:=AA (by omega);have A:Agg prog 57 ((Ab m).map (Value.int .i64)).length:=by
  rw[fq,Y];exact Cg
 have a4:Hid (An.length=((Ab m).map (Value.int .i64)).length):=by
  show _=_;rw[fq,Y];rfl
 clear hm hp
 go_enter func34,ntmps34
 go_upto_region 1 with(fail)
 have D:Arr ((w.alloc (.cells ((Ab m).map (Value.int .i64)).toArray 57)).alloc (.cells An.toArray 57)) w.heap.size 57 ((Ab m).map (Value.int .i64)):=(Arr.new w _ _).alloc _;have J:Arr ((w.alloc (.cells ((Ab m).map (Value.int .i64)).toArray 57)).alloc (.cells An.toArray 57)) (w.heap.size+1) 57 An:=by
  have:=Arr.new (w.alloc (.cells ((Ab m).map (Value.int .i64)).toArray 57)) 57 An;simpa using this
 have I:Ext w ((w.alloc (.cells ((Ab m).map (Value.int .i64)).toArray 57)).alloc (.cells An.toArray 57)):=((Ext.refl w).alloc _).alloc _;have a1:((w.alloc (.cells ((Ab m).map (Value.int .i64)).toArray 57)).alloc (.cells An.toArray 57)).heap.size=w.heap.size+2:=by simp
 change Code.wp _ _ _ _ ((w.alloc (.cells ((Ab m).map (Value.int .i64)).toArray 57)).alloc (.cells An.toArray 57));generalize ((w.alloc (.cells ((Ab m).map (Value.int .i64)).toArray 57)).alloc (.cells An.toArray 57))=K at *
 have b:=f8 a1;clear a1;have Q:Arr (K.alloc (.cells An.toArray 57)) K.heap.size 57 An:=Arr.new K _ _
 go_wp2_with(first
  | (refine Bm rfl rfl A rfl D ?_)
  | (refine Aa rfl rfl rfl rfl rfl A Q a4.out (A4 _) ?_;intro w1 R o))
 have O:Ext w w1:=(I.alloc _).grown o (by intro k y;simp at y;have:=b.out;omega);have M:=(D.alloc (.cells An.toArray 57)).kept o (by have:=b.out;simp;omega);have U:=(J.alloc (.cells An.toArray 57)).kept o (by have:=b.out;simp;omega);have ac:w.heap.size<K.heap.size:=by have:=b.out;omega
 have ad:w.heap.size+1<K.heap.size:=by have:=b.out;omega
 generalize K.heap.size=L0 at *
 clear D J I Q o
 go_loopw[12] (fun i wr=>∃ k:Nat,k<=q/\i = .int .i64 k/\Ext w wr/\Arr wr w.heap.size 57 ((Ab m).map (Value.int .i64))/\Arr wr (w.heap.size+1) 57 An/\Arr wr L0 57 ((Ab (Bz gs m k)).map (Value.int .i64))) (fun i _=>q-(intOf i).toNat)
 case atStart=>exact⟨0,fu _,rfl,O,M,U,R⟩
 case round =>
  clear M U R O;obtain⟨k,y,rfl,I,D,J,hL⟩:=hrel;have hx:=hx.ext I;have p:(Ab (Bz gs m k)).length=6:=AA (by rw[DF,HM.out];exact Z);have B:Agg prog 57 ((Ab (Bz gs m k)).map (Value.int .i64)).length:=by
   rw[fq,p];exact Cg
  by_cases X:k<q
  · obtain⟨b2,o2,a2,n2,c2,rfl,g2,s2⟩:=hx.at X;have a0:=HP.out _ (Bt (l:=gs) (i:=k) (by rw[HX.out];exact X));have aa:n2=n:=by rw[<-s2.len];exact a0.2
    subst aa;have HS:Hid (Bz gs m (k+1)=if A8 (Ab (mvd (gs.getD k []) m)) (Ab (Bz gs m k))<0 then mvd (gs.getD k []) m else Bz gs m k):=by
     show _=_;rw[RV (by rw[mvd,Ck,DF])];rfl
    have r:(Ab (mvd (gs.getD k []) m)).length=6:=AA (by rw[mvd,Ck,HM.out];exact Z);have C:Agg prog 57 ((Ab (mvd (gs.getD k []) m)).map (Value.int .i64)).length:=by
     rw[fq,r];exact Cg
    have a6:Hid (An.length=((Ab (mvd (gs.getD k []) m)).map (Value.int .i64)).length):=by
     show _=_;rw[fq,r];rfl
    have a5:Hid (((Ab (Bz gs m k)).map (Value.int .i64)).length=((Ab (mvd (gs.getD k []) m)).map (Value.int .i64)).length):=by
     show _=_;rw[fq,fq,r,p]
    have a9:=fun(s:World) (e:Ext wr s)=>EM (w:=s) (s2.ext e) a0.1 HM.out;generalize mvd (gs.getD k []) m=mv at *
    go_wp2_with(first
     | (refine Bm rfl rfl A rfl D ?_)
     | fail)
    refine(a9 wr (Ext.refl wr)).mono ?_;rintro e w2 ⟨rfl,d⟩;have j:=D.ext d;have V:=J.ext d;have E:=hL.ext d;have t:=I.trans d;have S:Arr (w2.alloc (.cells An.toArray 57)) w2.heap.size 57 An:=Arr.new w2 _ _;have ab:=E.lt;clear D J hL d
    go_wp2_with(first
     | (refine Aa rfl rfl rfl rfl rfl C S a6.out (A4 _) ?_;intro w3 T f))
    have P:Ext w w3:=(t.alloc _).grown f (by intro k y;simp at y;have:=t.size;omega);have N:=(j.alloc (.cells An.toArray 57)).kept f (by simp;omega);have W:=(V.alloc (.cells An.toArray 57)).kept f (by simp;omega);have F:=(E.alloc (.cells An.toArray 57)).kept f (by simp;omega);clear S f j V E;generalize w2.heap.size=N0 at *
    have sN:=T.slI r;have sL:=F.slI p;have af:=fun(s:World)=>Gi (w:=s) (g:=N0);have ag:=fun(s:World)=>Gi (w:=s) (g:=L0);obtain⟨cv,G⟩:∃ cv,A8 (Ab mv) (Ab (Bz gs m k))=cv:=⟨_,rfl⟩;have x:=fun(s:World) (e:Ext w3 s)=>DL (w:=s) (sN.ext e) (sL.ext e);rw[G]at x;have L:Hid (Bz gs m (k+1)=if cv<0 then mv else Bz gs m k):=by
     show _=_;rw[HS.out,G]
    clear G HS
    go_wp2_with fail
    go_quiet ((go_at_call 41;exact jR (x _ ((Ext.refl _).drewN _))))
    by_cases hc:cv<0
    · have z:Hid (Bz gs m (k+1)=mv):=by
       show _=_;rw[L.out,fG hc]
      go_wp2_with(first
       | (refine Bm rfl rfl C rfl (T.drewN _) ?_)
       | (refine Aa rfl rfl rfl rfl rfl C (F.drewN _) a5.out (A4 _) ?_;intro w4 a7 H))
      go_roundw
      case rel =>
       refine⟨k+1,by omega,by go_num,(P.drewN _).grown H ?_,(N.drewN _).kept H ?_,(W.drewN _).kept H ?_,?_⟩
       · intro k y;simp at y;omega
       · simp;omega
       · simp;omega
       · rw[z.out];exact a7
      case measure=>simp[intOf];omega
    · have z:Hid (Bz gs m (k+1)=Bz gs m k):=by
       show _=_;rw[L.out,fl hc]
      go_wp2;go_roundw
      case rel=>exact⟨k+1,by omega,by go_num,P.drewN _,N.drewN _,W.drewN _,by rw[z.out];exact F.drewN _⟩
      case measure=>simp[intOf];omega
  · have e:k=q:=by omega
    have a3:Hid (An.length=((Ab (Bz gs m k)).map (Value.int .i64)).length):=by
     show _=_;rw[fq,p];rfl
    have HF:Hid (Ab (Br gs m)=Ab (Bz gs m k)):=by
     show _=_;unfold Br;rw[HX.out,e]
    clear e
    go_wp2_with(first
     | (refine Bm rfl rfl B rfl hL ?_)
     | (refine Aa rfl rfl rfl rfl rfl B J a3.out (A4 _) ?_;intro w2 j a8))
    rw[HF.out];refine fh (v:=Bg (Ab (Bz gs m k))) ?_ rfl ⟨rfl,I.grown a8 ?_⟩
    · exact At rfl B rfl j
    · intro k y;simp at y;omega
end Go.Proofs.YthdbingomfdeoaaGreatDoor
namespace Go.Proofs.YthdbingomfdeoaaGreatDoor.W
variable {A Bb P a f u1 u2 v1 v2 α β:Int} {l xs ys:List Nat} {B D U V W b c c' d2 g i k lo lo' q r s u w3 x y0 y1:Nat}
def val(B:Nat):List Nat->Nat
 | []=>0
 | x :: r=>x+B*val B r
def bnd(B:Nat)(xs:List Nat):Prop:=∀ x∈xs,x<B
def nrm(xs:List Nat):Prop:=∀ h:xs≠[],xs.getLast h≠0
theorem val_app(B:Nat):∀ a b:List Nat,val B (a ++ b)=val B a+B^a.length*val B b
 | [],b=>by simp[val]
 | x :: a,b=>by
  simp only[jh,val,val_app B a b,fP,gr]
  grind
theorem val_snoc(B:Nat)(xs:List Nat)(x:Nat):val B (xs ++ [x])=val B xs+B^xs.length*x:=by
 rw[val_app];simp[val]
theorem val_zeros(B:Nat):∀ n,val B (List.replicate n 0)=0
 | 0=>rfl
 | n+1=>by simp[k9,val,val_zeros B n]
theorem val_lt{B:Nat}:∀ {xs:List Nat},bnd B xs->val B xs<B^xs.length
 | [],_=>by simp[val]
 | x :: xs,h=>by
  have h1:x<B:=h x (by simp);have h2:=val_lt (xs:=xs) (fun y a=>h y (by simp[a]));simp only[val,fP,gr];have:B*(val B xs+1)<=B*B^xs.length:=fX _ h2
  grind
theorem val_set{B:Nat}:∀ {xs:List Nat} {i:Nat} {v:Nat},i<xs.length->val B (xs.set i v)+B^i*xs.getD i 0=val B xs+B^i*v
 | [],_,_,h=>by simp at h
 | x :: xs,0,v,_=>by simp[val];omega
 | x :: xs,i+1,v,h=>by
  have:=val_set (B:=B) (xs:=xs) (i:=i) (v:=v) (by simpa using h);simp only[jr,val,lg,gr]
  grind
theorem bnd_set(h:bnd B xs){i v:Nat}(a:v<B):bnd B (xs.set i v):=by
 intro x b;rcases j7 b with h1|h1
 · exact h x h1
 · rw[h1];exact a
theorem bnd_at(h:bnd B xs){i:Nat}(hi:i<xs.length):xs.getD i 0<B:=by
 rw[gqq,eZ hi];exact h _ (fE hi)
theorem bnd_app(h:bnd B xs)(k:bnd B ys):bnd B (xs ++ ys):=by
 intro x a;rcases fL.1 a with h1|h1
 · exact h x h1
 · exact k x h1
theorem bnd_take(h:bnd B xs)(n:Nat):bnd B (xs.take n):=fun x a=>h x (im a)
theorem bnd_drop(h:bnd B xs)(n:Nat):bnd B (xs.drop n):=fun x a=>h x (kC a)
theorem val_take_succ(hi:i<xs.length):val B (xs.take (i+1))=val B (xs.take i)+B^i*xs.getD i 0:=by
 rw[ff hi,val_snoc,go,jf (by omega),gqq,eZ hi];rfl
theorem val_split(xs:List Nat)(n:Nat)(h:n<=xs.length):val B xs=val B (xs.take n)+B^n*val B (xs.drop n):=by
 conv=>lhs;rw[<-iz n xs]
 rw[val_app,go,jf h]
def trimTo(xs:List Nat):Nat->List Nat
 | 0=>[]
 | n+1=>if xs.getD n 0=0 then trimTo xs n else xs.take (n+1)
def trim(xs:List Nat):List Nat:=trimTo xs xs.length
theorem KE{B:Nat}{xs:List Nat}:∀ {n:Nat},n<=xs.length->val B (trimTo xs n)=val B (xs.take n)
 | 0,_=>by simp[trimTo,val]
 | n+1,h=>by
  unfold trimTo;split
  · rename_i h0;rw[KE (by omega),val_take_succ (by omega),h0];simp
  · rfl
theorem trim_val(xs:List Nat):val B (trim xs)=val B xs:=by
 rw[trim,KE (lrf _),kX]
theorem KF{xs:List Nat}:∀ {n:Nat},n<=xs.length->nrm (trimTo xs n)
 | 0,_=>by intro h;simp[trimTo]at h
 | n+1,h=>by
  unfold trimTo;split
  · exact KF (by omega)
  · rename_i h0;intro hne;rw[ka];have hl:(xs.take (n+1)).length=n+1:=by rw[go];omega
    simp only[hl,jq,List.getElem_take];simpa[eZ (show n<xs.length by omega)]using h0
theorem trim_nrm(xs:List Nat):nrm (trim xs):=KF (lrf _)
theorem Gj{xs:List Nat}:∀ {n:Nat},n<=xs.length->∃ k,k<=n/\trimTo xs n=xs.take k
 | 0,_=>⟨0,lrf _,by simp[trimTo]⟩
 | n+1,h=>by
  unfold trimTo;split
  · obtain⟨k,h1,h2⟩:=Gj (xs:=xs) (n:=n) (by omega);exact⟨k,by omega,h2⟩
  · exact⟨n+1,lrf _,rfl⟩
theorem bnd_trim(h:bnd B xs):bnd B (trim xs):=by
 obtain⟨k,_,e⟩:=Gj (xs:=xs) (n:=xs.length) (lrf _);rw[trim,e];exact bnd_take h k
theorem nrm_pos(_hB:0<B){xs:List Nat}(h:nrm xs)(a:xs≠[]):B^(xs.length-1)<=val B xs:=by
 have e:xs=xs.dropLast ++ [xs.getLast a]:=(mi a).symm;have b:=h a;have h1:val B xs=val B xs.dropLast+B^(xs.length-1)*xs.getLast a:=by
  conv=>lhs;rw[e]
  rw[val_snoc,List.length_dropLast]
 have:B^(xs.length-1)*1<=B^(xs.length-1)*xs.getLast a:=fX _ (by omega);omega
theorem nrm_zero(b:0<B){xs:List Nat}(h:nrm xs):val B xs=0<->xs=[]:=by
 constructor
 · intro h0;refine fR fun a => ?_;have:=nrm_pos b h a;have:=jd (n:=xs.length-1) b;omega
 · rintro rfl;rfl
theorem len_lt(d:1<B){xs ys:List Nat}(b:bnd B xs)(c:nrm ys)(h:xs.length<ys.length):val B xs<val B ys:=by
 have h1:=val_lt b;have a:ys≠[]:=by intro e;rw[e]at h;simp at h
 have h2:=nrm_pos (B:=B) (by omega) c a;have h3:B^xs.length<=B^(ys.length-1):=fx (by omega) (by omega);omega
theorem nrm_len(b:1<B){xs:List Nat}(h:nrm xs){n:Nat}(c:val B xs<B^n):xs.length<=n:=by
 rcases fS n xs.length with h1|h1
 · have a:xs≠[]:=by intro e;rw[e]at h1;simp at h1
   have h2:=nrm_pos (B:=B) (by omega) h a;have h3:B^n<=B^(xs.length-1):=fx (by omega) (by omega);omega
 · exact h1
theorem nrm_nil:nrm []:=fun h=>absurd rfl h
theorem nrm_single(h:x≠0):nrm [x]:=fun _=>h
section
variable {B:Nat}
theorem add_step(f:k<l.length)(g:k<ys.length)(h:val B l+c*B^k=V+val B (ys.take k))(e:s+B*c'=l.getD k 0+ys.getD k 0+c) :
 val B (l.set k s)+c'*B^(k+1)=V+val B (ys.take (k+1)):=by
 have h1:=val_set (B:=B) (xs:=l) (i:=k) (v:=s) f;have h2:=val_take_succ (B:=B) g;rw[h2,gr];generalize l.getD k 0=x at *
 generalize ys.getD k 0=y at *
 generalize val B (l.set k s)=a at *
 generalize val B l=b at *
 generalize val B (ys.take k)=d at *
 generalize B^k=p at *
 grind
theorem add_step0(d:k<l.length)(h:val B l+c*B^k=V)(e:s+B*c'=l.getD k 0+c) :
 val B (l.set k s)+c'*B^(k+1)=V:=by
 have h1:=val_set (B:=B) (xs:=l) (i:=k) (v:=s) d;rw[gr];generalize l.getD k 0=x at *
 generalize val B (l.set k s)=a at *
 generalize val B l=b at *
 generalize B^k=p at *
 grind
theorem sub_step(f:k<l.length)(g:k<ys.length)(h:val B l+val B (ys.take k)=V+c*B^k)(e:s+ys.getD k 0+c=l.getD k 0+B*c') :
 val B (l.set k s)+val B (ys.take (k+1))=V+c'*B^(k+1):=by
 have h1:=val_set (B:=B) (xs:=l) (i:=k) (v:=s) f;have h2:=val_take_succ (B:=B) g;rw[h2,gr];generalize l.getD k 0=x at *
 generalize ys.getD k 0=y at *
 generalize val B (l.set k s)=a at *
 generalize val B l=b at *
 generalize val B (ys.take k)=d at *
 generalize B^k=p at *
 grind
theorem sub_step0(d:k<l.length)(h:val B l=V+c*B^k)(e:s+c=l.getD k 0+B*c') :
 val B (l.set k s)=V+c'*B^(k+1):=by
 have h1:=val_set (B:=B) (xs:=l) (i:=k) (v:=s) d;rw[gr];generalize l.getD k 0=x at *
 generalize val B (l.set k s)=a at *
 generalize val B l=b at *
 generalize B^k=p at *
 grind
theorem digit_hi{P:Nat}(c:W=w3*P+lo)(a:lo<P)(b:D=d2*P+lo')(d:q*D<=W):q*d2<=w3:=by
 rcases fS w3 (q*d2)with h|h
 · exfalso;have h1:(w3+1)*P<=q*d2*P:=fa _ h;have h2:q*(d2*P)<=q*D:=fX _ (by omega);have h3:q*(d2*P)=q*d2*P:=by rw[iH]
   have h4:(w3+1)*P=w3*P+P:=by rw[ip];omega
   omega
 · exact h
theorem digit_lo{e P:Nat}(_hP:0<P)(d:W=w3*P+lo)(c:D=d2*P+lo')(b:lo' < P)(f:W<(q+1)*D)(he:e*d2<=w3)(a:q+1<=d2):e<=q+1:=by
 rcases fS (q+1) e with h|h
 · exfalso;have h1:(q+2)*d2<=e*d2:=fa _ h;have h2:(q+2)*d2*P<=w3*P:=fa _ (by omega);have h3:(q+1)*D<=(q+1)*(d2*P+P):=fX _ (by omega);have h4:(q+1)*(d2*P+P)=(q+1)*d2*P+(q+1)*P:=by grind
   have h5:(q+2)*d2*P=(q+1)*d2*P+d2*P:=by grind
   have h6:(q+1)*P<=d2*P:=fa _ a;omega
 · exact h
end
structure Leh(a b A Bb P α β:Int)(f g u1 u2 v1 v2 s:Int):Prop where
 ha:a=A*P+α
 hb:b=Bb*P+β
 a0:0<=α
 a1:α<P
 b0:0<=β
 b1:β<P
 sg:s=1\/s = -1
 f0:0<=f
 g0:0<=g
 gf:g<=f
 ef:f=s*(u1*A-v1*Bb)
 eg:g = -(s*(u2*A-v2*Bb))
 sv:v2*f+v1*g=A
 su:u2*f+u1*g=Bb
 u1n:0<=u1
 u2n:0<=u2
 v1n:0<=v1
 v2p:1<=v2
 uv:u2<=v2
 vv:v1<=v2
theorem Leh.start{b:Int}(i:a=A*P+α)(j:b=Bb*P+β)(d:0<=α)(e:α<P)(b0:0<=β)(f:β<P)(g:0<=Bb)(c:Bb<=A):Leh a b A Bb P α β A Bb 1 0 0 1 1 :=
 ⟨i,j,d,e,b0,f,Or.inl rfl,by omega,g,c,by simp,by simp,by simp,by simp,by omega,by omega,by omega,by omega,by omega,by omega⟩
theorem Leh.sec{b g s:Int}(h:Leh a b A Bb P α β f g u1 u2 v1 v2 s)(m:v2<=g):0 <= -(s*(u2*a-v2*b)):=by
 obtain⟨k,l,d,p,i,q,sg,_,_,_,_,j,_,_,_,c,_,o,n,_⟩:=h;have e : -(s*(u2*a-v2*b))=g*P-s*(u2*α-v2*β):=by rw[k,l,j];grind
 have r:u2*α<=v2*(P-1):=me (j5 n d) (iD (by omega) (by omega));have v:v2*β<=v2*(P-1):=iD (by omega) (by omega);have w:0<=u2*α:=jQ c d;have B:0<=v2*β:=jQ (by omega) i;have C:v2*P<=g*P:=j5 m (by omega);have D:v2*(P-1)=v2*P-v2:=by grind
 rw[e];generalize u2 * α=x at *
 generalize v2 * β=y at *
 generalize v2 * P=z at *
 generalize g * P=t at *
 rcases sg with rfl|rfl <;> omega
theorem Leh.gap{b g s:Int}(h:Leh a b A Bb P α β f g u1 u2 v1 v2 s)(q:v1+v2<=f-g)(hu:u1<=v1\/(u1=1/\v1=0/\u2=0/\s=1)) : -(s*(u2*a-v2*b))<s*(u1*a-v1*b):=by
 obtain⟨k,l,c,B,j,C,sg,_,_,_,o,p,_,_,d,e,i,w,v,O⟩:=h;have m : -(s*(u2*a-v2*b))=g*P-s*(u2*α-v2*β):=by rw[k,l,p];grind
 have n:s*(u1*a-v1*b)=f*P+s*(u1*α-v1*β):=by rw[k,l,o];grind
 have D:(v1+v2)*P<=(f-g)*P:=j5 q (by omega);have E:(v1+v2)*P=v1*P+v2*P:=by grind
 have F:(f-g)*P=f*P-g*P:=by grind
 have G:0<=u2*α:=jQ e c;have H:0<=v2*β:=jQ (by omega) j;have I:0<=u1*α:=jQ d c;have J:0<=v1*β:=jQ i j;have K:v2*β<=v2*(P-1):=iD (by omega) (by omega);have L:v1*β<=v1*(P-1):=iD (by omega) (by omega);have M:u2*α<=v2*(P-1):=me (j5 v c) (iD (by omega) (by omega));have Q:v2*(P-1)=v2*P-v2:=by grind
 have R:v1*(P-1)=v1*P-v1:=by grind
 rw[m,n];rcases hu with hu|⟨rfl,rfl,rfl,rfl⟩
 · have N:u1*α<=v1*(P-1):=me (j5 hu c) (iD (by omega) (by omega));generalize u2 * α=x at *
   generalize v2 * β=y at *
   generalize u1 * α=S at *
   generalize v1 * β=T at *
   generalize v2 * P=z at *
   generalize v1 * P=U at *
   generalize g * P=t at *
   generalize f * P=r at *
   rcases sg with rfl|rfl <;> omega
 · simp at *
   generalize v2 * β=y at *
   generalize v2 * P=z at *
   generalize g * P=t at *
   generalize f * P=r at *
   omega
theorem Leh.step{b g s q r:Int}(h:Leh a b A Bb P α β f g u1 u2 v1 v2 s)(D:f=q*g+r)(r0:0<=r)(H:r<g)(p:1<=q)(hu:u1<=v1\/(u1=1/\v1=0/\u2=0/\s=1)):Leh a b A Bb P α β g r u2 (u1+q*u2) v2 (v1+q*v2) (-s):=by
 obtain⟨n,o,e,i,j,k,sg,B,m,C,l,d,v,t,w,c,y,z,x,I⟩:=h;have E:0<=q*u2:=jQ (by omega) c;have F:v2<=q*v2:=by
  have:=j5 p (show 0<=v2 by omega);omega
 have G:q*u2<=q*v2:=iD x (by omega);refine⟨n,o,e,i,j,k,by rcases sg with rfl | rfl <;> simp,m,r0,by omega,by rw[d];grind,?_,?_,?_,c,by omega,by omega,by omega,?_,by omega⟩
 · have:r=f-q*g:=by omega
   rw[this,l,d];grind
 · have:r=f-q*g:=by omega
   rw[this,<-v];grind
 · have:r=f-q*g:=by omega
   rw[this,<-t];grind
 · rcases hu with hu|⟨rfl,rfl,rfl,_⟩
   · omega
   · simp;omega
theorem guess_le(h1:b<=2*y1)(h0:y0<b)(a:U<y1*b+y0):U/y1<=b+1:=by
 rcases fS (b+1) (U/y1)with h|h
 · exfalso;have h2:(b+2)*y1<=U/y1*y1:=fa _ h;have h3:U/y1*y1<=U:=mI _ _;have h4:(b+2)*y1=y1*b+2*y1:=by grind
   omega
 · exact h
theorem guess_hi(a:g*y1+r=U)(d:q*(y1*b+y0)<=U*b+u)(hu:u<b)(c:r<y1):q<=g:=by
 rcases fS g q with h|h
 · exfalso;have h1:(g+1)*(y1*b+y0)<=q*(y1*b+y0):=fa _ h;have h2:(g+1)*(y1*b+y0)=g*y1*b+y1*b+(g+1)*y0:=by grind
   have h3:U*b=g*y1*b+r*b:=by rw[<-a];grind
   have h4:(r+1)*b<=y1*b:=fa _ c;have h5:(r+1)*b=r*b+b:=by grind
   omega
 · exact h
theorem guess_down(c:g*y1+r=U)(e:q*(y1*b+y0)<=U*b+u)(d:q<b)(a:b<=g\/b*r+u<g*y0):q<g:=by
 rcases a with a|a
 · omega
 · rcases fS q g with h|h
   · exact h
   · exfalso;have h1:g*(y1*b+y0)<=q*(y1*b+y0):=fa _ h;have h2:g*(y1*b+y0)=g*y1*b+g*y0:=by grind
     have h3:U*b=g*y1*b+r*b:=by rw[<-c];grind
     have h4:b*r=r*b:=fJ _ _;omega
theorem guess_done(a:g*y1+r=U)(c:U*b+u<(q+1)*(y1*b+y0))(d:g*y0<=b*r+u):g<=q:=by
 rcases fS q g with h|h
 · exfalso;have h1:(q+1)*(y1*b+y0)<=g*(y1*b+y0):=fa _ h;have h2:g*(y1*b+y0)=g*y1*b+g*y0:=by grind
   have h3:U*b=g*y1*b+r*b:=by rw[<-a];grind
   have h4:b*r=r*b:=fJ _ _;omega
 · exact h
theorem guess_over(c:b<=r)(a:g<=b)(h0:y0<b):g*y0<=b*r+u:=by
 have h1:g*y0<=b*y0:=fa _ a;have h2:b*y0<=b*r:=fX _ (by omega);omega
theorem digit_lt{y:Nat}(a:U<y)(hu:u<b)(c:q*y<=U*b+u):q<b:=by
 rcases fS q b with h|h
 · exact h
 · exfalso;have h1:b*y<=q*y:=fa _ h;have h2:(U+1)*b<=y*b:=fa _ a;have h3:(U+1)*b=U*b+b:=by grind
   have h4:b*y=y*b:=fJ _ _;omega
end Go.Proofs.YthdbingomfdeoaaGreatDoor.W
namespace Go.Proofs.YthdbingomfdeoaaGreatDoor
open Go Go.RowKit
variable {cs:List Value} {base g n:Nat} {row:Option Nat} {e:TypeId} {a b c w w' w0 w1:World}
def B7(k:IntKind)(x:Nat):Value := .int k (x:Int)
def SlN(k:IntKind)(w:World)(a:Option Addr)(n c:Nat)(xs:List Nat):Prop:=Sl w a n c (xs.map (B7 k))
def Ce(k:IntKind)(w:World)(g:Nat)(t:TypeId)(xs:List Nat):Prop:=Arr w g t (xs.map (B7 k))
section
variable {k:IntKind} {w w':World} {a:Option Addr} {n c:Nat} {xs:List Nat}
theorem SlN.ext(h:SlN k w a n c xs)(e:Ext w w'):SlN k w' a n c xs:=Sl.ext h e
theorem SlN.len(h:SlN k w a n c xs):xs.length=n:=by have:=Sl.len h;simpa using this
theorem SlN.le(h:SlN k w a n c xs):n<=9223372036854775807:=by
 have h1:=Sl.cap h;have h2:=Sl.max h;unfold maxLen at h2;omega
theorem SlN.cap(h:SlN k w a n c xs):n<=c:=Sl.cap h
theorem SlN.nil(k:IntKind)(w:World):SlN k w none 0 0 []:=Sl.nil w
theorem SlN.at(h:SlN k w a n c xs){j:Nat}(m:j<n) :
 ∃ b d,a=some ⟨b,d,none⟩/\∀ i,i<n->w.cell? ⟨b,d+i,none⟩=some (.int k ((xs.getD i 0:Nat):Int)):=by
 obtain⟨b,d,f,g⟩:=Sl.rd h (by omega);refine⟨b,d,f,fun i l => ?_⟩;rw[g i l];have o:=h.len;have e:i<xs.length:=by omega
 simp[e,B7]
theorem SlN.upto(h:SlN k w a n c xs){m:Nat}(b:m<=n):SlN k w a m c (xs.take m):=by
 have:=Sl.upto h b
 rwa[<-lL]at this
theorem Sl.keptR(h:Sl w a n c cs)(j:w.grownBy w' row)(d:blk a=none\/blk a≠row):Sl w' a n c cs:=by
 refine⟨h.len,h.cap,h.max,fun h0 => ?_⟩;obtain⟨b,e,rfl,g⟩:=h.rd h0;refine⟨b,e,rfl,fun i k => ?_⟩;have h1:=g i k;have f:b<w.heap.size:=gT w ⟨b,e+i,none⟩ h1;rcases d with d|d
 · simp[blk]at d
 · rw[il (w:=w) (j.block b f d),h1]
theorem SlN.kept(h:SlN k w a n c xs)(d:w.grownBy w' row)(b:blk a=none\/blk a≠row):SlN k w' a n c xs:=Sl.keptR h d b
theorem SlN.fresh(h:SlN k w0 a n c xs){g:Nat}(i:w0.heap.size<=g)(h0:0<n):blk a≠some g:=by
 obtain⟨b,d,rfl,e⟩:=Sl.rd h h0;have f:b<w0.heap.size:=gT w0 ⟨b,d+0,none⟩ (e 0 h0);simp[blk];omega
end
section
variable {k:IntKind} {w w':World} {g:Nat} {t:TypeId} {xs:List Nat}
theorem Ce.lt(h:Ce k w g t xs):g<w.heap.size:=Arr.lt h
theorem Ce.cell(h:Ce k w g t xs){i:Nat}(hi:i<xs.length):w.cell? ⟨g,i,none⟩=some (.int k ((xs.getD i 0:Nat):Int)):=by
 rw[Arr.cell h (by simpa using hi)];simp[hi,B7]
theorem Ce.frozen(h:Ce k w g t xs)(i:Nat):w.frozen? ⟨g,i,none⟩=false:=Arr.frozen h i
theorem Ce.set(h:Ce k w g t xs)(i:Nat)(v:Nat):Ce k (w.setCell ⟨g,i,none⟩ (.int k (v:Int))) g t (xs.set i v):=by
 have:=Arr.set h i (B7 k v)
 rwa[<-km]at this
theorem Ce.drewN(h:Ce k w g t xs)(n:Nat):Ce k (w.drewN n) g t xs:=Arr.drewN h n
theorem Ce.ext(h:Ce k w g t xs)(e:Ext w w'):Ce k w' g t xs:=Arr.ext h e
theorem Ce.alloc(h:Ce k w g t xs)(o:Obj):Ce k (w.alloc o) g t xs:=Arr.alloc h o
theorem Ce.kept{row:Option Nat}(h:Ce k w g t xs)(a:w.grownBy w' row)(b:some g≠row):Ce k w' g t xs:=Arr.kept h a b
theorem Ce.part(h:Ce k w g t xs){o n c:Nat}(e:o+n<=xs.length)(a:n<=c)(d:c<=maxLen):SlN k w (some ⟨g,o,none⟩) n c ((xs.drop o).take n):=by
 refine⟨by simp;omega,a,d,fun _=>⟨g,o,rfl,fun i b => ?_⟩⟩;rw[h.cell (i:=o+i) (by omega)];have h1:i<n:=b;have h2:o+i<xs.length:=by omega
 simp[h1,h2,B7]
theorem Ce.sl(h:Ce k w g t xs){n c:Nat}(d:n<=xs.length)(a:n<=c)(b:c<=maxLen):SlN k w (some ⟨g,0,none⟩) n c (xs.take n):=by
 have:=h.part (o:=0) (n:=n) (by omega) a b;simpa using this
end
theorem Own.arr(h:Own w base e (some ⟨g,0,none⟩) n n cs):Arr w g e cs:=by
 have k:=h.len;rcases h.2 with⟨a,_⟩|⟨j,c,b,a,_,d,_,_,f,i⟩
 · simp at a
 · simp only[fd,fc,gz,ij,kf]at a;obtain⟨rfl,rfl⟩:=a;unfold Arr;rw[d];have:b.toList=cs:=by
    rw[<-i];exact(f9 (by simp[f])).symm
   rw[<-this]
structure Num(B:Nat)(xs:List Nat)(v:Nat):Prop where
 bnd:W.bnd B xs
 nrm:W.nrm xs
 val:W.val B xs=v
theorem Num.nil(B:Nat):Num B [] 0:=⟨fun x a=>(by simp at a),W.nrm_nil,rfl⟩
theorem Num.trim{B:Nat}{xs:List Nat}{v:Nat}(h:W.bnd B xs)(a:W.val B xs=v):Num B (W.trim xs) v:=⟨W.bnd_trim h,W.trim_nrm xs,by rw[W.trim_val];exact a⟩
def Ou(k:IntKind)(B:Nat)(w:World)(v:Nat)(e:Ending)(w':World):Prop:=∃ a n c xs,e = .returned (.slice a n c)/\Ext w w'/\SlN k w' a n c xs/\Num B xs v
def Ay(k:IntKind)(w:World)(base:Nat)(e:TypeId)(g n c:Nat)(xs:List Nat):Prop:=Own w base e (some ⟨g,0,none⟩) n c (xs.map (B7 k))
section
variable {k:IntKind} {w w':World} {base:Nat} {e:TypeId} {g n c:Nat} {xs:List Nat}
theorem Ay.len(h:Ay k w base e g n c xs):xs.length=n:=by have:=Own.len h;simpa using this
theorem Ay.le(h:Ay k w base e g n c xs):n<=9223372036854775807:=by
 have h1:=Own.cap h;have h2:=(Own.sl h).max;unfold maxLen at h2;omega
theorem Ay.lo(h:Ay k w base e g n c xs):base<=g:=(Own.lt h (k:=g) rfl).1
theorem Ay.lt(h:Ay k w base e g n c xs):g<w.heap.size:=(Own.lt h (k:=g) rfl).2
theorem Ay.cell(h:Ay k w base e g n c xs){i:Nat}(hi:i<n):w.cell? ⟨g,i,none⟩=some (.int k ((xs.getD i 0:Nat):Int)):=by
 have b:=h.len;have a:i<xs.length:=by omega
 rw[Own.cellAt h hi];simp[a,B7]
theorem Ay.frozen(h:Ay k w base e g n c xs)(i:Nat):w.frozen? ⟨g,i,none⟩=false:=Own.frozenAt h i
theorem Ay.set(h:Ay k w base e g n c xs)(i v:Nat):Ay k (w.setCell ⟨g,i,none⟩ (.int k (v:Int))) base e g n c (xs.set i v):=by
 have:=Own.stored h i (B7 k v)
 rwa[<-km]at this
theorem Ay.ext(h:Ay k w base e g n c xs)(x:Ext w w'):Ay k w' base e g n c xs:=Own.ext h x
theorem Ay.drewN(h:Ay k w base e g n c xs)(m:Nat):Ay k (w.drewN m) base e g n c xs:=Own.drewN h m
theorem Ay.mono{a:Nat}(h:Ay k w base e g n c xs)(b:a<=base):Ay k w a e g n c xs:=Own.mono h b
theorem Ay.kept{row:Option Nat}(h:Ay k w base e g n c xs)(b:w.grownBy w' row)(a:some g≠row):Ay k w' base e g n c xs:=Own.kept h b (Or.inr a)
theorem Ay.sl(h:Ay k w base e g n c xs):SlN k w (some ⟨g,0,none⟩) n c xs:=Own.sl h
theorem Ay.of_zeros(h:Own w base e (some ⟨g,0,none⟩) n c (List.replicate n (.int k 0))):Ay k w base e g n c (List.replicate n 0):=by
 unfold Ay;rw[jP];exact h
theorem Ay.arr(h:Ay k w base e g n n xs):Ce k w g e xs:=Own.arr h
theorem Ce.own(h:Ce k w g e xs)(a:base<=g)(b:xs.length<=maxLen):Ay k w base e g xs.length xs.length xs:=by
 refine⟨by simp,Or.inr ⟨g,xs.length,(xs.map (B7 k)).toArray,rfl,a,h,lrf _,b,by simp,?_⟩⟩;rw[je];exact f9 (by simp)
end
theorem DN(w:World)(row:Option Nat):w.grownBy w row:=ln w row
theorem KG(h:a.grownBy b row)(k:b.grownBy c row):a.grownBy c row :=
 ⟨k.os.trans h.os,k.tape.trans h.tape,k.output.trans h.output,ft h.size k.size,fun i e d=>(k.block i (fN e h.size) d).trans (h.block i e d)⟩
theorem IE(h:a.grownBy b row)(k:Ext b c):a.grownBy c row :=
 ⟨k.os.trans h.os,k.tape.trans h.tape,k.output.trans h.output,ft h.size k.size,fun i e d=>(k.block (fN e h.size)).trans (h.block i e d)⟩
theorem DG(h:a.grownBy b (some g))(j:Nat)(u:Value):a.grownBy (b.setCell ⟨g,j,none⟩ u) (some g):=KG h (Aj b g j u)
theorem Ext.grownR(h:Ext w w1)(a:w1.grownBy w' (some g))(c:w.heap.size<=g):Ext w w':=h.grown a (fun k b=>by simp only[fc]at b;omega)
theorem Hu(h:w.grownBy w' none):Ext w w':=(Ext.refl w).grown h (fun k a=>by cases a)
end Go.Proofs.YthdbingomfdeoaaGreatDoor
namespace Go.Proofs.YthdbingomfdeoaaGreatDoor
open Go.Shelf
def PC:Go.Shelf.Ren:=⟨fun | 25=>202 | n=>n,fun | 22=>101 | n=>n,fun | n=>n⟩
theorem WL:Go.Proofs.Lays7.n25 Tryz.prog PC:={
 mixed:=by kernel_rfl
 f25:=Tryz.func202.trans (fM some (by kernel_rfl))
 t22:=Tryz.underlying101
 a22:=Tryz.isAgg101
 z22:=Tryz.sizeOf101
 v22:=Tryz.zeroValue101
 i22:=by kernel_rfl }
def PD:Go.Shelf.Ren:=⟨fun | 26=>204 | n=>n,fun | 22=>101 | n=>n,fun | n=>n⟩
theorem WM:Go.Proofs.Lays7.n26 Tryz.prog PD:={
 mixed:=by kernel_rfl
 f26:=Tryz.func204.trans (fM some (by kernel_rfl))
 t22:=Tryz.underlying101
 a22:=Tryz.isAgg101
 z22:=Tryz.sizeOf101
 v22:=Tryz.zeroValue101
 i22:=by kernel_rfl }
def PE:Go.Shelf.Ren:=⟨fun | 264=>205 | n=>n,fun | 53=>101 | 46=>144 | n=>n,fun | n=>n⟩
theorem WN:Go.Proofs.Lays.n264 Tryz.prog PE:={
 mixed:=by kernel_rfl
 f264:=Tryz.func205.trans (fM some (by kernel_rfl))
 t46:=Tryz.underlying144
 a46:=Tryz.isAgg144
 z46:=Tryz.sizeOf144
 v46:=Tryz.zeroValue144
 t53:=Tryz.underlying101
 a53:=Tryz.isAgg101
 z53:=Tryz.sizeOf101
 v53:=Tryz.zeroValue101 }
def RW:Go.Shelf.Ren:=⟨fun | 134=>206 | 129=>119 | n=>n,fun | 53=>101 | 3=>3 | 4=>4 | 46=>144 | 5=>5 | 9=>9 | n=>n,fun | n=>n⟩
theorem Xx:Go.Proofs.Lays.n134 Tryz.prog RW:={
 mixed:=by kernel_rfl
 f129:=Tryz.func119.trans (fM some (by kernel_rfl))
 f134:=Tryz.func206.trans (fM some (by kernel_rfl))
 t3:=Tryz.underlying3
 a3:=Tryz.isAgg3
 z3:=Tryz.sizeOf3
 v3:=Tryz.zeroValue3
 t4:=Tryz.underlying4
 a4:=Tryz.isAgg4
 z4:=Tryz.sizeOf4
 v4:=Tryz.zeroValue4
 t5:=Tryz.underlying5
 a5:=Tryz.isAgg5
 z5:=Tryz.sizeOf5
 v5:=Tryz.zeroValue5
 t9:=Tryz.underlying9
 a9:=Tryz.isAgg9
 z9:=Tryz.sizeOf9
 v9:=Tryz.zeroValue9
 t46:=Tryz.underlying144
 a46:=Tryz.isAgg144
 z46:=Tryz.sizeOf144
 v46:=Tryz.zeroValue144
 t53:=Tryz.underlying101
 a53:=Tryz.isAgg101
 z53:=Tryz.sizeOf101
 v53:=Tryz.zeroValue101 }
end Go.Proofs.YthdbingomfdeoaaGreatDoor
namespace Go.Proofs.YthdbingomfdeoaaGreatDoor
open Tryz Go Go.RowKit
variable {l xs ys zs:List Nat} {B b' base bytes c c' d g i m n o v wd x y:Nat} {a b:Option Addr} {P:Program} {e t:TypeId} {z:Value} {w w':World}
theorem AP:A9 prog 101 (.int .u64 0) 8:=by unfold A9;kernel_rfl
theorem C9(x y c:Nat)(a:c<=1)(w:World):(callFunc 202 #[.int .u64 x,.int .u64 y,.int .u64 c]).run prog w = .ok (.value (.tuple #[.int .u64 (((x+y+c)%18446744073709551616:Nat):Int),.int .u64 (((x+y+c)/18446744073709551616:Nat):Int)])) w:=Any7.bits_Add64 WL x y c a w
theorem Da(x y c:Nat)(a:c<=1)(w:World):(callFunc 204 #[.int .u64 x,.int .u64 y,.int .u64 c]).run prog w = .ok (.value (.tuple #[.int .u64 (((x+18446744073709551616-y-c)%18446744073709551616:Nat):Int),.int .u64 ((if x<y+c then 1 else 0:Nat):Int)])) w:=Any7.bits_Sub64 WM x y c a w
theorem BM(g:SlN .u64 w a n c xs) :
 Calls prog 168 #[.slice a n c] w fun e A=>∃ m,e = .returned (.slice a m c)/\w=A/\m<=n/\W.trim xs=xs.take m:=by
 have q:=f8 g.len;have t:=g.le;have p:=g.cap
 go_enter func168,ntmps168
 go_wp2
 go_loop[3] (fun v=>∃ k:Nat,k<=n/\v = .int .i64 k/\Hid (W.trim xs=W.trimTo xs k)) (fun v=>(intOf v).toNat)
 case atStart=>exact⟨n,lrf _,rfl,f8 (by unfold W.trim;rw[q.out])⟩
 case round =>
  obtain⟨k,C,rfl,i⟩:=hrel;have x:=fun B:World=>GR (P:=prog) (w:=B) (a:=a) (n:=n) underlying98 AP (k:=k) (c:=c) (by omega);cases k with
  | zero =>
   go_wp2;go_ret;exact⟨0,rfl,rfl,by omega,by rw[i.out];rfl⟩
  | succ k =>
   obtain⟨b,o,rfl,l⟩:=g.at (j:=k) (by omega);have r:=l k (by omega);have D:IntKind.i64.wrap ((k:Int)+1-1)=k:=by rw[mL];exact fO _ (by omega)
   have z:IntKind.i64.wrap (k:Int)=k:=fO _ (by omega);by_cases f:xs.getD k 0=0
   · have d:Hid (W.trim xs=W.trimTo xs k):=by
      show _=_;rw[i.out];exact fG f
     rw[f]at r;clear f l;go_wp2;go_round
     case rel=>exact⟨k,by omega,rfl,d⟩
     case measure=>simp[intOf]
   · have d:Hid (W.trim xs=xs.take (k+1)):=by
      show _=_;rw[i.out];exact fl f
     have s:(((xs.getD k 0:Nat):Int) == 0)=false:=by simpa using f
     generalize xs.getD k 0=y at *
     clear f l;go_wp2;go_ret;exact⟨k+1,rfl,rfl,by omega,d.out⟩
theorem B8(g:SlN .u64 w a n c xs)(d:m<=n)(e:W.trim xs=xs.take m)(b:W.bnd 18446744073709551616 xs)(f:W.val 18446744073709551616 xs=v):SlN .u64 w a m c (W.trim xs)/\Num 18446744073709551616 (W.trim xs) v :=
 ⟨by rw[e];exact g.upto d,Num.trim b f⟩
def Src(w:World)(S:Nat->Prop)(a:Option Addr):Prop:=∀ g,blk a=some g->w.heap.size<=g\/S g
def Hv(b:Nat)(S:Nat->Prop)(a:Option Addr)(n:Nat):Prop:=0<n->∀ g,blk a=some g->b<=g\/S g
theorem Hv.of{b:Nat}{S S':Nat->Prop}(h:Hv b S a n)(d:b'<=b)(c:∀ g,S g->b'<=g\/S' g):Hv b' S' a n:=fun h0 g e=>(h h0 g e).elim (fun h=>Or.inl (ft d h)) (c g)
def Ov(k:IntKind)(B:Nat)(w:World)(S:Nat->Prop)(v:Nat)(e:Ending)(w':World):Prop:=∃ a n c xs,e = .returned (.slice a n c)/\Ext w w'/\SlN k w' a n c xs/\Num B xs v/\Src w S a
theorem Ov.plain{k:IntKind}{S:Nat->Prop}{e:Ending}(h:Ov k B w S v e w'):Ou k B w v e w':=by
 obtain⟨a,n,c,b,h1,h2,h3,h4,_⟩:=h;exact⟨a,n,c,b,h1,h2,h3,h4⟩
theorem Gk(b:x<18446744073709551616):Calls prog 177 #[.int .u64 x] w (Ov .u64 18446744073709551616 w (fun _=>False) x):=by
 by_cases h0:x=0
 · subst h0
   go_enter func177,ntmps177
   go_wp2;go_ret;exact⟨none,0,0,[],rfl,Ext.refl w,SlN.nil _ _,Num.nil _,fun _ h=>by cases h⟩
 · have c:((x:Int) == 0)=false:=by simpa using h0
   go_enter func177,ntmps177
   go_wp2;go_ret;refine⟨_,1,1,[x],rfl,(Ext.refl w).alloc _,(Au w w.heap.size 101 #[.int .u64 x] 1 rfl (lrf _) (by omega)).sl,⟨?_,W.nrm_single h0,by simp[W.val]⟩,fun g h=>Or.inl (by cases h;exact lrf _)⟩;intro y a;simp only[fi]at a;subst a;exact b
theorem Hw(a:x<18446744073709551616):Calls prog 177 #[.int .u64 x] w (Ou .u64 18446744073709551616 w x) :=
 (Gk a).mono fun _ _ h=>h.plain
theorem GA(x:Int)(w:World):Calls prog 203 #[.int .u64 x] w fun e a=>e = .returned (.bool false)/\w=a:=by
 have h:(x != x)=false:=by simp
 go_enter func203,ntmps203
 go_wp2;go_ret;exact⟨rfl,rfl⟩
theorem GB(x:Int)(w:World):Calls prog 109 #[.int .i64 x] w fun e a=>e = .returned (.bool false)/\w=a:=by
 have h:(x != x)=false:=by simp
 go_enter func109,ntmps109
 go_wp2;go_ret;exact⟨rfl,rfl⟩
def Bu(x y:Int):Int:=if x<y then -1 else if y<x then 1 else 0
theorem MQ(x y:Int)(w:World):Calls prog 169 #[.int .u64 x,.int .u64 y] w fun e b=>e = .returned (.int .i64 (Bu x y))/\w=b:=by
 by_cases h1:x<y
 · have H:Hid (Bu x y = -1):=by show _=_;simp[Bu,h1]
   go_enter func169,ntmps169
   go_wp2_with(go_at_call 203;refine(GA _ _).mono ?_;rintro e a ⟨rfl,rfl⟩)
   go_ret;exact⟨DV H.out,rfl⟩
 · by_cases h2:y<x
   · have H:Hid (Bu x y=1):=by show _=_;simp[Bu,h1,h2]
     go_enter func169,ntmps169
     go_wp2_with(go_at_call 203;refine(GA _ _).mono ?_;rintro e a ⟨rfl,rfl⟩)
     go_ret;exact⟨DV H.out,rfl⟩
   · have H:Hid (Bu x y=0):=by show _=_;simp[Bu,h1,h2]
     go_enter func169,ntmps169
     go_wp2_with(go_at_call 203;refine(GA _ _).mono ?_;rintro e a ⟨rfl,rfl⟩)
     go_ret;exact⟨DV H.out,rfl⟩
theorem MR(x y:Int)(w:World):Calls prog 70 #[.int .i64 x,.int .i64 y] w fun e b=>e = .returned (.int .i64 (Bu x y))/\w=b:=by
 by_cases h1:x<y
 · have H:Hid (Bu x y = -1):=by show _=_;simp[Bu,h1]
   go_enter func70,ntmps70
   go_wp2_with(go_at_call 109;refine(GB _ _).mono ?_;rintro e a ⟨rfl,rfl⟩)
   go_ret;exact⟨DV H.out,rfl⟩
 · by_cases h2:y<x
   · have H:Hid (Bu x y=1):=by show _=_;simp[Bu,h1,h2]
     go_enter func70,ntmps70
     go_wp2_with(go_at_call 109;refine(GB _ _).mono ?_;rintro e a ⟨rfl,rfl⟩)
     go_ret;exact⟨DV H.out,rfl⟩
   · have H:Hid (Bu x y=0):=by show _=_;simp[Bu,h1,h2]
     go_enter func70,ntmps70
     go_wp2_with(go_at_call 109;refine(GB _ _).mono ?_;rintro e a ⟨rfl,rfl⟩)
     go_ret;exact⟨DV H.out,rfl⟩
theorem Ub(g:xs.length=ys.length)(hi:i<xs.length)(f:xs.drop (i+1)=ys.drop (i+1))(e:W.bnd B xs)(a:xs.getD i 0<ys.getD i 0):W.val B xs<W.val B ys:=by
 have b:=W.val_split (B:=B) xs (i+1) (by omega);have c:=W.val_split (B:=B) ys (i+1) (by omega);rw[W.val_take_succ hi]at b;rw[W.val_take_succ (by omega)]at c;have d:=W.val_lt (W.bnd_take e i);rw[go,jf (by omega)]at d;rw[b,c,f];have h1:B^i*(xs.getD i 0+1)<=B^i*ys.getD i 0:=fX _ a;have h2:B^i*(xs.getD i 0+1)=B^i*xs.getD i 0+B^i:=by rw[jF,je]
 omega
theorem MT{x y:Int}(h:x<y):Bu x y = -1:=by simp[Bu,h]
theorem MU{x y:Int}(h:y<x):Bu x y=1:=by
 have:¬ x<y:=by omega
 simp[Bu,h,this]
theorem Vq(x:Int):Bu x x=0:=by simp[Bu]
theorem QD(h:x≠y):(x<y/\Bu x y = -1)\/(y<x/\Bu x y=1):=by
 rcases Nat.lt_or_gt_of_ne h with h1|h1
 · exact Or.inl ⟨h1,MT (by omega)⟩
 · exact Or.inr ⟨h1,MU (by omega)⟩
theorem Uc{a b:Nat}(h:a≠b):((a:Int) != (b:Int))=true:=by simp;omega
theorem Ud{a b:Nat}(h:a=b):((a:Int) != (b:Int))=false:=by simp[h]
theorem Ow{a b:Nat}(h:a≠b):((a:Int) == (b:Int))=false:=by simp;omega
theorem WO(x y:Int)(w:World):Calls prog 169 #[.int .u64 x,.int .u64 y] w fun e a=>e = .returned (.int .i64 (Bu x y))/\Qt w a :=
 (MQ x y w).mono fun _ _ ⟨h1,h2⟩=>⟨h1,h2 ▸ Qt.refl _⟩
theorem BN(H:SlN .u64 w a n c xs)(I:SlN .u64 w b m d ys)(L:Num 18446744073709551616 xs x)(M:Num 18446744073709551616 ys y) :
 Calls prog 133 #[.slice a n c,.slice b m d] w fun e V=>e = .returned (.int .i64 (Bu x y))/\Qt w V:=by
 have g:=f8 H.len;have i:=f8 I.len;have U:=H.le;have T:=I.le;have o:=f8 L;have p:=f8 M;clear L M;by_cases t:n=m
 · have F:((n:Int) != (m:Int))=false:=by simp[t]
   have A:=f8 t;clear t
   go_enter func133,ntmps133
   go_wp2
   go_loopw[5] (fun v wr=>∃ k:Nat,k<=n/\v = .int .i64 ((k:Int)-1)/\Qt w wr/\Hid (xs.drop k=ys.drop k)) (fun v _=>(intOf v+1).toNat)
   case atStart=>exact⟨n,lrf _,by go_num,Qt.refl _,f8 (by rw[gu (by rw[g.out];exact lrf _),gu (by rw[i.out,A.out];exact lrf _)])⟩
   case round =>
    obtain⟨k,Z,rfl,s,z⟩:=hrel;cases k with
    | zero =>
     have N:Hid (x=y):=by
      have:=z.out;rw[gP,gP]at this;show x=y;rw[<-o.out.val,<-p.out.val,this]
     go_wp2;go_ret;exact⟨DV (by rw[N.out,Vq]),s⟩
    | succ k =>
     have f:k<m:=by have:=A.out;omega
     obtain⟨X,o1,rfl,q⟩:=(H.ext s.ext).at (j:=k) (by omega);obtain⟨Y,o2,rfl,r⟩:=(I.ext s.ext).at (j:=k) f;have J:=q k (by omega);have K:=r k f;have G:((k+1:Nat):Int)-1=k:=by omega
     rw[G];by_cases he:xs.getD k 0=ys.getD k 0
     · have Q:(((xs.getD k 0:Nat):Int) != ((ys.getD k 0:Nat):Int))=false:=Ud he;have D:Hid (xs.drop k=ys.drop k):=by
        show _=_;rw[gg (l:=xs) (by rw[g.out];omega),gg (l:=ys) (by rw[i.out];exact f),z.out];simp only[gqq,eZ (show k<xs.length by rw[g.out];omega),eZ (show k<ys.length by rw[i.out];exact f),fW]at he;rw[he]
       generalize xs.getD k 0=u at *
       generalize ys.getD k 0=v at *
       clear he q r;go_wp2
       go_quiet (fail)
       go_wp2;go_roundw
       case rel=>exact⟨k,by omega,by go_num,s.drewN _,D⟩
       case measure=>simp[intOf]
     · have Q:(((xs.getD k 0:Nat):Int) != ((ys.getD k 0:Nat):Int))=true:=Uc he;have C:Hid (Bu x y=Bu ((xs.getD k 0:Nat):Int) ((ys.getD k 0:Nat):Int)):=by
        show _=_;rcases QD he with⟨h1,h2⟩|⟨h1,h2⟩
        · have:=Ub (B:=18446744073709551616) (by rw[g.out,i.out,A.out]) (by rw[g.out];omega) z.out o.out.bnd h1;rw[o.out.val,p.out.val]at this;rw[h2,MT (by omega)]
        · have:=Ub (B:=18446744073709551616) (xs:=ys) (ys:=xs) (by rw[g.out,i.out,A.out]) (by rw[i.out];omega) z.out.symm p.out.bnd h1;rw[o.out.val,p.out.val]at this;rw[h2,MU (by omega)]
       generalize xs.getD k 0=u at *
       generalize ys.getD k 0=v at *
       clear he q r;have S:(k:Int)<n:=by omega
       have R:(k:Int)<m:=by omega
       go_wp2
       go_quiet (fail)
       go_wp2;have O:(wr.drewN nq).cell? _=_:=J;have P:(wr.drewN nq).cell? _=_:=K;have E:=s.drewN nq;generalize wr.drewN nq=wq at *
       clear J K
       go_quiet ((go_at_call 169;exact jR (WO _ _ _)))
       go_wp2;go_ret;exact⟨DV C.out,E.drewN _⟩
 · have F:((n:Int) != (m:Int))=true:=by simp;omega
   have C:Hid (Bu x y=Bu n m):=by
    show _=_;rcases QD t with⟨h1,h2⟩|⟨h1,h2⟩
    · have:=W.len_lt (B:=18446744073709551616) (by omega) o.out.bnd p.out.nrm (by rw[g.out,i.out];exact h1);rw[o.out.val,p.out.val]at this;rw[h2,MT (by omega)]
    · have:=W.len_lt (B:=18446744073709551616) (by omega) p.out.bnd o.out.nrm (by rw[g.out,i.out];exact h1);rw[o.out.val,p.out.val]at this;rw[h2,MU (by omega)]
   clear t
   go_enter func133,ntmps133
   go_wp2_with fail
   refine(MR _ _ _).mono ?_;rintro e w1 ⟨rfl,rfl⟩;go_wp2;go_ret;exact⟨DV C.out,Qt.refl _⟩
theorem Xy:(x+y+c)%18446744073709551616+18446744073709551616*((x+y+c)/18446744073709551616)=x+y+c:=l4 _ _
theorem Xz(b:x<18446744073709551616)(d:y<18446744073709551616)(a:c<=1):(x+y+c)/18446744073709551616<=1:=by omega
theorem Ue(b:x<18446744073709551616)(d:y<18446744073709551616)(a:c<=1):(x+18446744073709551616-y-c)%18446744073709551616+y+c=x+18446744073709551616*(if x<y+c then 1 else 0):=by
 split <;> omega
theorem RX:(if x<y+c then 1 else 0)<=1:=by split <;> omega
theorem Ox(T:Ay .u64 w base 101 g n c xs)(U:SlN .u64 w b m d ys)(R:blk b=none\/blk b≠some g)(bx:W.bnd 18446744073709551616 xs)(F:W.bnd 18446744073709551616 ys)(Q:m<=n)(t:W.val 18446744073709551616 xs+W.val 18446744073709551616 ys<18446744073709551616^n) :
 Calls prog 167 #[.slice (some ⟨g,0,none⟩) n c,.slice b m d] w fun e Y=>e = .returned (.tuple #[])/\w.grownBy Y (some g)/\∃ a,Ay .u64 Y base 101 g n c a/\W.bnd 18446744073709551616 a/\W.val 18446744073709551616 a=W.val 18446744073709551616 xs+W.val 18446744073709551616 ys:=by
 have HX:=f8 T.len;have M:=f8 U.len;have a3:=T.le;have a2:=U.le;have Z:=f8 F;have HF:=f8 t;clear F t
 go_enter func167,ntmps167
 go_wp2
 go_loopw[4,10] (fun O D wr=>∃ (k o:Nat) (a:List Nat),O = .int .u64 o/\D = .int .i64 k/\k<=m/\o<=1/\w.grownBy wr (some g)/\Ay .u64 wr base 101 g n c a/\W.bnd 18446744073709551616 a/\Hid (W.val 18446744073709551616 a+o*18446744073709551616^k=W.val 18446744073709551616 xs+W.val 18446744073709551616 (ys.take k))) (fun _ D _=>m-(intOf D).toNat)
 case atStart=>exact⟨0,0,xs,rfl,rfl,fu _,by omega,DN _ _,T,bx,f8 (by simp[W.val])⟩
 case round =>
  obtain⟨k,o,a,rfl,rfl,X,q,A,p,r,z⟩:=hrel;by_cases f:k<m
  · obtain⟨b1,o1,rfl,H⟩:=(U.kept A R).at (j:=k) f;have g1:=H k f;have g2:=p.cell (i:=k) (by omega);have g3:=p.frozen k;have C:=W.bnd_at r (i:=k) (by rw[p.len];omega);have V:=W.bnd_at Z.out (i:=k) (by rw[M.out];exact f);have L:=f8 (W.add_step (B:=18446744073709551616) (l:=a) (ys:=ys) (k:=k) (by rw[p.len];omega) (by rw[M.out];exact f) z.out (Xy (x:=a.getD k 0) (y:=ys.getD k 0) (c:=o)));have G:=C9 (a.getD k 0) (ys.getD k 0) o q;have P:=Xz C V q;have a1:(k:Int)<n:=by omega
    generalize a.getD k 0=u at *
    generalize ys.getD k 0=v at *
    have S:(u+v+o)%18446744073709551616<18446744073709551616:=gx _ (by omega);generalize (u+v+o)%18446744073709551616=s at *
    generalize (u+v+o)/18446744073709551616=N at *
    clear H;go_wp2;go_roundw
    case rel=>exact⟨k+1,N,a.set k s,rfl,by go_num,by omega,P,DG A _ _,p.set k s,W.bnd_set r S,L⟩
    case measure=>simp[intOf];omega
  · have J:k=m:=by omega
    have E:Hid (W.val 18446744073709551616 a+o*18446744073709551616^m=W.val 18446744073709551616 xs+W.val 18446744073709551616 ys):=by
     have:=z.out;rw[J,f9 (by rw[M.out];exact lrf _)]at this;exact this
    clear z J;go_wp2
    go_loopw[4,7] (fun O D wr=>∃ (k o:Nat) (a:List Nat),O = .int .u64 o/\D = .int .i64 k/\m<=k/\k<=n/\o<=1/\w.grownBy wr (some g)/\Ay .u64 wr base 101 g n c a/\W.bnd 18446744073709551616 a/\Hid (W.val 18446744073709551616 a+o*18446744073709551616^k=W.val 18446744073709551616 xs+W.val 18446744073709551616 ys)) (fun _ D _=>n-(intOf D).toNat)
    case atStart=>exact⟨m,o,a,rfl,rfl,lrf _,Q,q,A,p,r,E⟩
    case round =>
     clear A p r E f X q;obtain⟨k,o,a,rfl,rfl,a0,X,q,A,p,r,z⟩:=hrel;have I:o=0\/o=1:=by omega
     rcases I with rfl|rfl
     · go_wp2
       go_end0
       exact⟨rfl,A,a,p,r,by have:=z.out;rw[iE,gE]at this;exact this⟩
     · by_cases f:k<n
       · have g2:=p.cell (i:=k) f;have g3:=p.frozen k;have C:=W.bnd_at r (i:=k) (by rw[p.len];exact f);have L:=f8 (W.add_step0 (B:=18446744073709551616) (l:=a) (k:=k) (s:=(a.getD k 0+0+1)%18446744073709551616) (c':=(a.getD k 0+0+1)/18446744073709551616) (by rw[p.len];exact f) z.out (by rw[Xy]))
         have G:∀ K:World,(callFunc 202 #[.int .u64 ((a.getD k 0:Nat):Int),.int .u64 0,.int .u64 1]).run prog K = .ok (.value (.tuple #[.int .u64 (((a.getD k 0+0+1)%18446744073709551616:Nat):Int),.int .u64 (((a.getD k 0+0+1)/18446744073709551616:Nat):Int)])) K:=fun K=>C9 (a.getD k 0) 0 1 (by omega) K;have P:=Xz C (y:=0) (c:=1) (by omega) (by omega);have S:(a.getD k 0+0+1)%18446744073709551616<18446744073709551616:=gx _ (by omega);generalize (a.getD k 0+0+1)%18446744073709551616=s at *
         generalize (a.getD k 0+0+1)/18446744073709551616=N at *
         generalize a.getD k 0=u at *
         go_wp2;go_roundw
         case rel=>exact⟨k+1,N,a.set k s,rfl,by go_num,by omega,by omega,P,DG A _ _,p.set k s,W.bnd_set r S,L⟩
         case measure=>simp[intOf];omega
       · exfalso;have J:k=n:=by omega
         have h1:=z.out;have h2:=HF.out;rw[J]at h1;omega
theorem Dh{lo hi:Nat}(k:P.underlying t=some (.slice e))(a:A9 P e z bytes)(h1:lo<=hi)(h2:hi<=c)(h3:lo<c) :
 (Instr.sliceAt t (.slice (some ⟨g,0,none⟩) n c) (some (.int .i64 lo)) (some (.int .i64 hi)) none).run P w = .ok (.slice (some ⟨g,lo,none⟩) (hi-lo) (c-lo)) w:=by
 obtain⟨i,d,l,b,j⟩:=jT a;have e0:¬ c=lo:=by omega
 have f:Addr.add ⟨g,0,none⟩ lo=⟨g,lo,none⟩:=by
  unfold Addr.add;by_cases h0:lo=0 <;> simp[h0]
 have m:(lo:Int)<=hi:=by omega
 have o:(hi:Int)<=c:=by omega
 simp[Instr.sliceAt,Instr.slice,Instr.sliceBounds,Instr.sliceBound,fT k,asIntOf,sizeOf,typeInfo,d,b,h1,h2,e0,f]
theorem XA(a:x<18446744073709551616):(x+18446744073709551616-0-1)%18446744073709551616+1=x+18446744073709551616*(if x<0+1 then 1 else 0):=by
 split <;> omega
theorem IF(T:Ay .u64 w base 101 g n c xs)(U:SlN .u64 w b m d ys)(R:blk b=none\/blk b≠some g)(bx:W.bnd 18446744073709551616 xs)(F:W.bnd 18446744073709551616 ys)(Q:m<=n)(t:W.val 18446744073709551616 ys<=W.val 18446744073709551616 xs) :
 Calls prog 171 #[.slice (some ⟨g,0,none⟩) n c,.slice b m d] w fun e Y=>e = .returned (.tuple #[])/\w.grownBy Y (some g)/\∃ a,Ay .u64 Y base 101 g n c a/\W.bnd 18446744073709551616 a/\W.val 18446744073709551616 a=W.val 18446744073709551616 xs-W.val 18446744073709551616 ys:=by
 have HX:=f8 T.len;have M:=f8 U.len;have a3:=T.le;have a2:=U.le;have Z:=f8 F;have HF:=f8 t;clear F t
 go_enter func171,ntmps171
 go_wp2
 go_loopw[4,10] (fun O D wr=>∃ (k f:Nat) (a:List Nat),O = .int .u64 f/\D = .int .i64 k/\k<=m/\f<=1/\w.grownBy wr (some g)/\Ay .u64 wr base 101 g n c a/\W.bnd 18446744073709551616 a/\Hid (W.val 18446744073709551616 a+W.val 18446744073709551616 (ys.take k)=W.val 18446744073709551616 xs+f*18446744073709551616^k)) (fun _ D _=>m-(intOf D).toNat)
 case atStart=>exact⟨0,0,xs,rfl,rfl,fu _,by omega,DN _ _,T,bx,f8 (by simp[W.val])⟩
 case round =>
  obtain⟨k,f,a,rfl,rfl,X,q,A,p,r,z⟩:=hrel;by_cases o:k<m
  · obtain⟨b1,o1,rfl,H⟩:=(U.kept A R).at (j:=k) o;have g1:=H k o;have g2:=p.cell (i:=k) (by omega);have g3:=p.frozen k;have C:=W.bnd_at r (i:=k) (by rw[p.len];omega);have V:=W.bnd_at Z.out (i:=k) (by rw[M.out];exact o);have L:=f8 (W.sub_step (B:=18446744073709551616) (l:=a) (ys:=ys) (k:=k) (by rw[p.len];omega) (by rw[M.out];exact o) z.out (Ue (x:=a.getD k 0) (y:=ys.getD k 0) (c:=f) C V q));have G:=Da (a.getD k 0) (ys.getD k 0) f q;have P:=RX (x:=a.getD k 0) (y:=ys.getD k 0) (c:=f);have a1:(k:Int)<n:=by omega
    generalize a.getD k 0=u at *
    generalize ys.getD k 0=v at *
    have S:(u+18446744073709551616-v-f)%18446744073709551616<18446744073709551616:=gx _ (by omega);generalize (u+18446744073709551616-v-f)%18446744073709551616=s at *
    generalize (if u<v+f then 1 else 0)=N at *
    clear H;go_wp2;go_roundw
    case rel=>exact⟨k+1,N,a.set k s,rfl,by go_num,by omega,P,DG A _ _,p.set k s,W.bnd_set r S,L⟩
    case measure=>simp[intOf];omega
  · have J:k=m:=by omega
    have E:Hid (W.val 18446744073709551616 a=(W.val 18446744073709551616 xs-W.val 18446744073709551616 ys)+f*18446744073709551616^m):=by
     have:=z.out;rw[J,f9 (by rw[M.out];exact lrf _)]at this;have h2:=HF.out;show _=_;omega
    clear z J;go_wp2
    go_loopw[4,7] (fun O D wr=>∃ (k f:Nat) (a:List Nat),O = .int .u64 f/\D = .int .i64 k/\m<=k/\k<=n/\f<=1/\w.grownBy wr (some g)/\Ay .u64 wr base 101 g n c a/\W.bnd 18446744073709551616 a/\Hid (W.val 18446744073709551616 a=(W.val 18446744073709551616 xs-W.val 18446744073709551616 ys)+f*18446744073709551616^k)) (fun _ D _=>n-(intOf D).toNat)
    case atStart=>exact⟨m,f,a,rfl,rfl,lrf _,Q,q,A,p,r,E⟩
    case round =>
     clear A p r E o X q;obtain⟨k,f,a,rfl,rfl,a0,X,q,A,p,r,z⟩:=hrel;have I:f=0\/f=1:=by omega
     rcases I with rfl|rfl
     · go_wp2
       go_end0
       exact⟨rfl,A,a,p,r,by have:=z.out;rw[iE,gE]at this;exact this⟩
     · by_cases o:k<n
       · have g2:=p.cell (i:=k) o;have g3:=p.frozen k;have C:=W.bnd_at r (i:=k) (by rw[p.len];exact o);have L:=f8 (W.sub_step0 (B:=18446744073709551616) (l:=a) (k:=k) (s:=(a.getD k 0+18446744073709551616-0-1)%18446744073709551616) (c':=if a.getD k 0<0+1 then 1 else 0) (by rw[p.len];exact o) z.out (XA C))
         have G:∀ K:World,(callFunc 204 #[.int .u64 ((a.getD k 0:Nat):Int),.int .u64 0,.int .u64 1]).run prog K = .ok (.value (.tuple #[.int .u64 (((a.getD k 0+18446744073709551616-0-1)%18446744073709551616:Nat):Int),.int .u64 ((if a.getD k 0<0+1 then 1 else 0:Nat):Int)])) K:=fun K=>Da (a.getD k 0) 0 1 (by omega) K;have P:=RX (x:=a.getD k 0) (y:=0) (c:=1);have S:(a.getD k 0+18446744073709551616-0-1)%18446744073709551616<18446744073709551616:=gx _ (by omega);generalize (a.getD k 0+18446744073709551616-0-1)%18446744073709551616=s at *
         generalize (if a.getD k 0<0+1 then 1 else 0)=N at *
         generalize a.getD k 0=u at *
         go_wp2;go_roundw
         case rel=>exact⟨k+1,N,a.set k s,rfl,by go_num,by omega,by omega,P,DG A _ _,p.set k s,W.bnd_set r S,L⟩
         case measure=>simp[intOf];omega
       · exfalso;have J:k=n:=by omega
         have h1:=z.out;have h2:=W.val_lt r;rw[p.len]at h2;rw[J]at h1;omega
theorem Uf(s:SlN .u64 w a n c xs)(B:n<=1000000)(h0:0<n) :
 Calls prog 170 #[.slice a n c] w (fun e f=>∃ g m,e = .returned (.slice (some ⟨g,0,none⟩) n m)/\Ext w f/\Ay .u64 f w.heap.size 101 g n m xs):=by
 obtain⟨b,o,rfl,_⟩:=s.at h0;have y:=fun f:World=>Lib.run_eql_slice_nil (P:=prog) f 98 101 (some ⟨b,o,none⟩) n c 0 0 underlying98
 go_enter func170,ntmps170
 go_upto_region 3 with(fail)
 have q:Ext w (w.alloc (.cells #[] 101)):=(Ext.refl w).alloc _;have r:=Au w w.heap.size 101 #[] 0 rfl (lrf _) (by omega);have i:∀ u∈xs.map (B7 .u64),u.oneCell'=true:=by
  intro u hu;obtain⟨x,_,rfl⟩:=fy.1 hu;rfl
 go_wp2_with(refine BS rfl rfl underlying98 AP rfl rfl r rfl (s.ext q) i (by unfold maxLen;omega) (by omega) (by simp) ?_;intro t p A j l v)
 go_ret;have d:Own A w.heap.size 101 t n p (xs.map (B7 .u64)):=by simpa using j
 obtain⟨g,rfl,_,_⟩:=d.place h0;exact⟨g,p,rfl,q.grown l (fun k z=>(r.lt z).1),d⟩
theorem wrap_u64{x:Int}(h0:0<=x)(h1:x<18446744073709551616):IntKind.u64.wrap x=x:=by
 rw[gN];exact Int.emod_eq_of_lt h0 h1
theorem JL(a:x<18446744073709551616)(b:y<18446744073709551616)(w:World):Calls prog 205 #[.int .u64 x,.int .u64 y] w fun e c=>e = .returned (.tuple #[.int .u64 ((x*y/18446744073709551616:Nat):Int),.int .u64 ((x*y%18446744073709551616:Nat):Int)])/\c=w:=Any.bits_Mul64 WN x y a b w
theorem LX{V k s w:Nat}(f:o+k<l.length)(g:k<xs.length)(h:W.val B l+c*B^(o+k)=V+w*W.val B (xs.take k)*B^o)(e:s+B*c'=l.getD (o+k) 0+xs.getD k 0*w+c) :
 W.val B (l.set (o+k) s)+c'*B^(o+(k+1))=V+w*W.val B (xs.take (k+1))*B^o:=by
 have h1:=W.val_set (B:=B) (xs:=l) (i:=o+k) (v:=s) f;have h2:=W.val_take_succ (B:=B) g;rw[h2,<-iU,gr];have h3:B^(o+k)=B^o*B^k:=j9 _ _ _;rw[h3]at h h1 |-;generalize l.getD (o+k) 0=x at *
 generalize xs.getD k 0=y at *
 generalize W.val B (l.set (o+k) s)=a at *
 generalize W.val B l=b at *
 generalize W.val B (xs.take k)=d at *
 generalize B^k=p at *
 generalize B^o=q at *
 grind
theorem Ug{z u cy:Nat}(c:z<18446744073709551616)(hu:u<18446744073709551616)(b:wd<18446744073709551616)(a:cy<18446744073709551616) :
 u*wd/18446744073709551616+(u*wd%18446744073709551616+cy+0)/18446744073709551616<18446744073709551616/\u*wd/18446744073709551616+(u*wd%18446744073709551616+cy+0)/18446744073709551616+(z+(u*wd%18446744073709551616+cy+0)%18446744073709551616+0)/18446744073709551616<18446744073709551616 /\
 (z+(u*wd%18446744073709551616+cy+0)%18446744073709551616+0)%18446744073709551616+18446744073709551616*(u*wd/18446744073709551616+(u*wd%18446744073709551616+cy+0)/18446744073709551616+(z+(u*wd%18446744073709551616+cy+0)%18446744073709551616+0)/18446744073709551616)=z+u*wd+cy:=by
 have:u*wd<=18446744073709551615*18446744073709551615:=gL (by omega) (by omega);generalize u * wd=p at *
 omega
theorem Fz{N C:Nat}(Q:Ay .u64 w base 101 g N C zs)(P:SlN .u64 w a n d xs)(r:blk a=none\/blk a≠some g)(ho:o+n<=N)(Y:W.bnd 18446744073709551616 zs)(X:W.bnd 18446744073709551616 xs)(Z:wd<18446744073709551616) :
 Calls prog 172 #[.slice (some ⟨g,o,none⟩) n c',.slice a n d,.int .u64 wd] w fun e w'=>∃ (b:Nat) (p:List Nat),e = .returned (.int .u64 b)/\b<18446744073709551616/\w.grownBy w' (some g)/\Ay .u64 w' base 101 g N C p/\W.bnd 18446744073709551616 p/\W.val 18446744073709551616 p+b*18446744073709551616^(o+n)=W.val 18446744073709551616 zs+wd*W.val 18446744073709551616 xs*18446744073709551616^o/\(∀ j,o+n<=j->p.getD j 0=zs.getD j 0):=by
 have HZ:=f8 Q.len;have H:=f8 P.len;have a1:=P.le;have BX:=f8 X;clear X
 go_enter func172,ntmps172
 go_wp2
 go_loopw[7,16] (fun cv S wr=>∃ (k b:Nat) (c:List Nat),cv = .int .u64 b/\S = .int .i64 k/\k<=n/\b<18446744073709551616/\w.grownBy wr (some g)/\Ay .u64 wr base 101 g N C c/\W.bnd 18446744073709551616 c/\Hid (W.val 18446744073709551616 c+b*18446744073709551616^(o+k)=W.val 18446744073709551616 zs+wd*W.val 18446744073709551616 (xs.take k)*18446744073709551616^o)/\Hid (∀ j,o+n<=j->c.getD j 0=zs.getD j 0)) (fun _ S _=>n-(intOf S).toNat)
 case atStart=>exact⟨0,0,zs,rfl,rfl,fu _,by omega,DN _ _,Q,Y,f8 (by simp[W.val]),f8 (fun _ _=>rfl)⟩
 case round =>
  clear Q Y;obtain⟨k,b,c,rfl,rfl,hk,D,L,v,I,U,V⟩:=hrel;by_cases f:k<n
  · obtain⟨b1,o1,rfl,y⟩:=(P.kept L r).at (j:=k) f;have g1:=y k f;have g2:=v.cell (i:=o+k) (by omega);have g3:=v.frozen (o+k);have R:=W.bnd_at I (i:=o+k) (by rw[v.len];omega);have F:=W.bnd_at BX.out (i:=k) (by rw[H.out];exact f);obtain⟨m1,m2,m3⟩:=Ug R F Z D;have HS:=f8 (LX (B:=18446744073709551616) (l:=c) (xs:=xs) (k:=k) (o:=o) (w:=wd) (by rw[v.len];omega) (by rw[H.out];exact f) U.out m3);have a0:(k:Int)<n:=by omega
    have G:Hid (∀ s j,o+n<=j->(c.set (o+k) s).getD j 0=zs.getD j 0):=by
     show ∀ s j,o+n<=j->(c.set (o+k) s).getD j 0=zs.getD j 0;intro s j hj;rw[<-V.out j hj];have r:¬ o+k=j:=by omega
     simp[r]
    generalize c.getD (o+k) 0=z at *
    generalize xs.getD k 0=u at *
    have E:=JL F Z;have J:∀ m:World,(callFunc 202 #[.int .u64 ((u*wd%18446744073709551616:Nat):Int),.int .u64 (b:Int),.int .u64 0]).run prog m = .ok (.value (.tuple #[.int .u64 (((u*wd%18446744073709551616+b+0)%18446744073709551616:Nat):Int),.int .u64 (((u*wd%18446744073709551616+b+0)/18446744073709551616:Nat):Int)])) m:=fun m=>C9 (u*wd%18446744073709551616) b 0 (by omega) m;generalize u * wd/18446744073709551616=t at *
    generalize u * wd%18446744073709551616=pl at *
    generalize M:(pl+b+0)%18446744073709551616=s1 at *
    generalize A:(pl+b+0)/18446744073709551616=q at *
    have K:∀ m:World,(callFunc 202 #[.int .u64 (z:Int),.int .u64 (s1:Int),.int .u64 0]).run prog m = .ok (.value (.tuple #[.int .u64 (((z+s1+0)%18446744073709551616:Nat):Int),.int .u64 (((z+s1+0)/18446744073709551616:Nat):Int)])) m:=fun m=>C9 z s1 0 (by omega) m;have O:(z+s1+0)%18446744073709551616<18446744073709551616:=gx _ (by omega);generalize (z+s1+0)%18446744073709551616=T at *
    generalize (z+s1+0)/18446744073709551616=x at *
    have a2:IntKind.u64.wrap ((t:Int)+q)=((t+q:Nat):Int):=by rw[wrap_u64 (by omega) (by omega)];omega
    have a3:IntKind.u64.wrap (((t+q:Nat):Int)+x)=((t+q+x:Nat):Int):=by rw[wrap_u64 (by omega) (by omega)];omega
    have a4:IntKind.u64.wrap ((t:Int)+(q:Int)+x)=((t+q+x:Nat):Int):=by rw[wrap_u64 (by omega) (by omega)];omega
    clear y M A m3
    go_wp2_with(go_at_call 205;refine(E _).mono ?_;rintro e w1 ⟨rfl,rfl⟩)
    go_roundw
    case rel=>exact⟨k+1,t+q+x,c.set (o+k) T,by first | rfl | go_num,by go_num,by omega,m2,DG L _ _,v.set (o+k) T,W.bnd_set I O,HS,f8 (G.out T)⟩
    case measure=>simp[intOf];omega
  · have ek:k=n:=by omega
    go_wp2;go_ret;have h1:=U.out;rw[ek,f9 (by rw[H.out];exact lrf _)]at h1;exact⟨b,c,rfl,D,L,v,I,h1,V.out⟩
end Go.Proofs.YthdbingomfdeoaaGreatDoor
