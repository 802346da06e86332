/- Part Gav5. -/
import Derived.Test.YtlpgonpfjbhmfaaGreatDoorGav4
import Derived.Test.YtlpgonpfjbhmfaaGreatDoorGav2
import Derived.BigRegion
import Derived.Shelf.Small.Bits
import Derived.Test.YtlpgonpfjbhmfaaGreatDoorProg
set_option maxRecDepth 100000
set_option maxHeartbeats 100000000
namespace Go.Proofs.YtlpgonpfjbhmfaaGreatDoor
open Tryz Go Go.RowKit
variable {f:Act} {ops:Array Oper} {Q:Exit→Act→World→Prop} {L gs l ps ps0 q:List (List Int)} {m:List (List Int×Value)} {g k p xs ys:List Int} {rest:List Oper} {cs cs' qc:List Value} {base base' c c' cg i j n n' ng r:Nat} {o:Oper} {x y:Operand} {a a' ag:Option Addr} {row:Option Nat} {P:Program} {e e' t:TypeId} {v:Value} {b w:World}
def Ch (gs:List (List Int)) (n:Nat) (p:List Int):Prop:=∃ ws:List (List Int),(∀ g∈ws,g∈gs)∧p=ws.foldr comp (idn n)
theorem Do (gs:List (List Int)) (n:Nat):Ch gs n (idn n):=⟨[],by simp,rfl⟩
theorem KE (hg:g∈gs) (h:Ch gs n p):Ch gs n (comp g p):=by
 obtain ⟨ws,h1,rfl⟩:=h;refine ⟨g :: ws, ?_,rfl⟩;intro x hx;rcases List.mem_cons.1 hx with rfl | hx
 · exact hg
 · exact h1 x hx
def B5 (gs:List (List Int)) (n:Nat):Prop:=∀ g∈gs,Ar g=true∧g.length=n
theorem BE (hn:n≤6) (hg:B5 gs n) {p:List Int} (h:Ch gs n p):Ar p=true∧p.length=n:=by
 obtain ⟨ws,h1,rfl⟩:=h
 induction ws with
 | nil=>exact ⟨J6 hn,Dw n⟩
 | cons g ws ih =>
  obtain ⟨i1,i2⟩:=ih (fun x hx=>h1 x (by simp [hx]));obtain ⟨j1,j2⟩:=hg g (h1 g (by simp));exact ⟨Es j1 i1 (by rw [j2,i2]),by rw [List.foldr_cons,B6,i2]⟩
structure II (gs:List (List Int)) (n:Nat) (L q:List (List Int)):Prop where
 nodup:L.Nodup
 reach:∀ p∈L,Ch gs n p
 one:idn n∈L
 sub:∀ p∈q,p∈L
 closed:∀ p∈L,p ∉ q→∀ g∈gs,comp g p∈L
 short:q.length≤L.length
theorem II.start (gs:List (List Int)) (n:Nat):II gs n [idn n] [idn n] :=
 ⟨by simp,by simp [Do],by simp,by simp,by simp,by simp⟩
theorem II.done (h:II gs n L []) (p:List Int):p∈L↔Ch gs n p:=by
 refine ⟨h.reach p, ?_⟩;rintro ⟨ws,h1,rfl⟩
 induction ws with
 | nil=>exact h.one
 | cons g ws ih=>exact h.closed _ (ih (fun x hx=>h1 x (by simp [hx]))) (by simp) g (h1 g (by simp))
structure I2 (gs:List (List Int)) (n:Nat) (L q:List (List Int)) (a:List Int) (j:Nat):Prop where
 nodup:L.Nodup
 reach:∀ p∈L,Ch gs n p
 one:idn n∈L
 sub:∀ p∈q,p∈L
 mem:a∈L
 closed:∀ p∈L,p ∉ q→p≠a→∀ g∈gs,comp g p∈L
 part:∀ g∈gs.take j,comp g a∈L
 short:q.length≤L.length
theorem I2.start {a:List Int} (h:II gs n L (a :: q)):I2 gs n L q a 0 :=
 ⟨h.nodup,h.reach,h.one,fun p hp=>h.sub p (by simp [hp]),h.sub a (by simp),fun p hp hq hne g hg=>h.closed p hp (by simp [hq,hne]) g hg,by simp,by have:=h.short; simp only [List.length_cons] at this; omega⟩
theorem I2.fin {a:List Int} (h:I2 gs n L q a j) (hj:gs.length≤j):II gs n L q:=by
 refine ⟨h.nodup,h.reach,h.one,h.sub,fun p hp hq g hg => ?_,h.short⟩;by_cases hpa:p=a
 · subst hpa;exact h.part g (by rw [List.take_of_length_le hj]; exact hg)
 · exact h.closed p hp hq hpa g hg
theorem Gc (hj:j < gs.length) {g:List Int} (h:g∈gs.take (j+1)):g∈gs.take j∨g=gs.getD j []:=by
 rw [List.take_succ_eq_append_getElem hj,List.mem_append] at h;rcases h with h | h
 · exact Or.inl h
 · right;simp only [List.mem_singleton] at h;simp [hj,h]
theorem I2.old {a:List Int} (h:I2 gs n L q a j) (hj:j < gs.length) (hb:comp (gs.getD j []) a∈L):I2 gs n L q a (j+1):=by
 refine ⟨h.nodup,h.reach,h.one,h.sub,h.mem,h.closed,fun g hg => ?_,h.short⟩;rcases Gc hj hg with h1 | rfl
 · exact h.part g h1
 · exact hb
theorem I2.new {a:List Int} (h:I2 gs n L q a j) (hj:j < gs.length) (hb:comp (gs.getD j []) a ∉ L) :
 I2 gs n (L ++ [comp (gs.getD j []) a]) (q ++ [comp (gs.getD j []) a]) a (j+1):=by
 have hg:gs.getD j []∈gs:=by simp [hj]
 refine ⟨?_, ?_,by simp [h.one], ?_,by simp [h.mem], ?_, ?_,by have:=h.short; simp; omega⟩
 · rw [List.nodup_append];refine ⟨h.nodup,by simp, ?_⟩;intro x hx y hy;simp only [List.mem_singleton] at hy;subst hy;rintro rfl;exact hb hx
 · intro p hp;rcases List.mem_append.1 hp with hp | hp
   · exact h.reach p hp
   · simp only [List.mem_singleton] at hp;subst hp;exact KE hg (h.reach a h.mem)
 · intro p hp;rcases List.mem_append.1 hp with hp | hp
   · simp [h.sub p hp]
   · exact List.mem_append_right _ hp
 · intro p hp hq hne g hg;simp only [List.mem_append,List.mem_singleton,not_or] at hq;rcases List.mem_append.1 hp with hp | hp
   · simp [h.closed p hp hq.1 hne g hg]
   · simp only [List.mem_singleton] at hp;exact absurd hp hq.2
 · intro g hg;rcases Gc hj hg with h1 | rfl
   · simp [h.part g h1]
   · simp
theorem nodup_le:∀ (L M:List (List Int)),L.Nodup→(∀ x∈L,x∈M)→L.length≤M.length
 | [],_,_,_=>by simp
 | x :: L,M,hn,hs=>by
  rw [List.nodup_cons] at hn;have hx:x∈M:=hs x (by simp);have:=nodup_le L (M.erase x) hn.2 (fun y hy=>(List.mem_erase_of_ne (by rintro rfl; exact hn.1 hy)).2 (hs y (by simp [hy])));rw [List.length_erase_of_mem hx] at this;have:0 < M.length:=List.length_pos_of_mem hx;simp only [List.length_cons];omega
theorem Qg:∀ n,n < 7→(gen n (idn n)).length≤720:=by decide +kernel
theorem D7 (hn:n≤6) (hg:B5 gs n) {L:List (List Int)} (hnd:L.Nodup) (hr:∀ p∈L,Ch gs n p):L.length≤720:=by
 refine Nat.le_trans (nodup_le L (gen n (idn n)) hnd fun p hp => ?_) (Qg n (by omega));obtain ⟨h1,h2⟩:=BE hn hg (hr p hp);refine G1 n (idn n) p h2 (AF h1).2.2 fun x hx=>G2.2 ?_;have:=(AF h1).2.1 x hx;rw [h2] at this;exact this
def BK (L:List (List Int)):List (List Int×Value):=L.map (fun p=>(Ae p,Value.bool true))
theorem FX (L:List (List Int)):(BK L).map (·.1)=L.map Ae:=by simp [BK]
theorem Jh (hL:∀ x∈L,x.length=n) (hp:p.length=n):Ae p∈L.map Ae↔p∈L:=by
 rw [List.mem_map];constructor
 · rintro ⟨x,hx,e⟩
   rwa [←J9 (by rw [hL x hx,hp]) e]
 · intro h;exact ⟨p,h,rfl⟩
theorem To (h:BG k 0 (BK L)=some (i,v)):v = .bool true:=by
 obtain ⟨_,h2⟩:=DV h;have:=List.mem_of_getElem? h2;simp only [BK,List.mem_map] at this;obtain ⟨x,_,e⟩:=this;exact ((Prod.mk.injEq ..).mp e).2.symm
theorem LO (hL:∀ x∈L,x.length=n) (hp:p.length=n):D6 (.bool false) (BK L) (Ae p) = .bool (decide (p∈L)):=by
 unfold D6;cases h:BG (Ae p) 0 (BK L) with
 | none =>
  have:=Bp.1 h;rw [FX,Jh hL hp] at this;simp [this]
 | some q =>
  obtain ⟨i,v⟩:=q;have hv:=To h;have hm:p∈L:=by
   rw [←Jh hL hp,←FX];by_cases hx:Ae p∈(BK L).map (·.1)
   · exact hx
   · rw [←Bp (i:=0)] at hx;rw [h] at hx;cases hx
  simp [hv,hm]
theorem Oi (hL:∀ x∈L,x.length=n) (hp:p.length=n) (hn:p ∉ L):Hm (BK L) (Ae p) (.bool true)=BK (L ++ [p]):=by
 have:BG (Ae p) 0 (BK L)=none:=by
  rw [Bp,FX,Jh hL hp];exact hn
 unfold Hm;rw [this];simp [BK]
def QEl (w:World) (base:Nat) (qc:List Value) (q:List (List Int)):Prop:=∀ i,i < q.length→∃ a n c,qc.getD i undef = .slice a n c∧CT w base a n c (q.getD i [])
theorem QEl.ext {w w':World} {base:Nat} {qc:List Value} {q:List (List Int)} (h:QEl w base qc q) (e:Ext w w'):QEl w' base qc q :=
 fun i hi=>let ⟨a,n,c,h1,h2⟩:=h i hi; ⟨a,n,c,h1,h2.ext e⟩
theorem C8 (h:Own w base e a n c cs) (hm:AN w r m):blk a=none∨blk a≠some r:=by
 rcases h.2 with ⟨hv,_⟩ | ⟨g,cap,cur,hv,_,hh,_⟩
 · simp only [Value.slice.injEq] at hv;left;rw [hv.1];rfl
 · simp only [Value.slice.injEq] at hv;right;rw [hv.1];intro he;have:g=r:=by simpa [blk] using he
   subst this;have:=hm.obj;rw [hh] at this;cases this
theorem D8 (h:Own w base e a n c cs) (h':CA w base' e' a' n' c' cs') (hne:e≠e'):blk a=none∨blk a≠blk a':=by
 rcases h.2 with ⟨hv,_⟩ | ⟨g,cap,cur,hv,_,hh,_⟩
 · simp only [Value.slice.injEq] at hv;left;rw [hv.1];rfl
 · simp only [Value.slice.injEq] at hv;right;rw [hv.1];rcases h'.2.2.2 with ⟨ha,_⟩ | ⟨g',off,cur',ha,_,hh',_⟩
   · subst ha;simp [blk]
   · subst ha;intro he;have:g=g':=by simpa [blk] using he
     subst this;rw [hh] at hh';simp only [Option.some.injEq,Obj.cells.injEq] at hh';exact hne hh'.2.1
theorem IJ (h:CA w base e a n c cs) (hm:AN w r m):blk a=none∨blk a≠some r:=by
 rcases h.2.2.2 with ⟨ha,_⟩ | ⟨g,off,cur,ha,_,hh,_⟩
 · subst ha;exact Or.inl rfl
 · subst ha;right;intro he;have:g=r:=by simpa [blk] using he
   subst this;have:=hm.obj;rw [hh] at this;cases this
theorem QEl.kept {w w':World} {base:Nat} {qc:List Value} {q:List (List Int)} {row:Option Nat} (h:QEl w base qc q) (hg:w.grownBy w' row) (hne:∀ a n c xs,CT w base a n c xs→blk a=none∨blk a≠row):QEl w' base qc q :=
 fun i hi=>let ⟨a,n,c,h1,h2⟩:=h i hi; ⟨a,n,c,h1,Own.kept h2 hg (hne _ _ _ _ h2)⟩
theorem QEl.tail (h:QEl w base qc (p :: q)):QEl w base (qc.drop 1) q:=by
 intro i hi;obtain ⟨a,n,c,h1,h2⟩:=h (i+1) (by simpa using hi);refine ⟨a,n,c, ?_,by simpa using h2⟩;rw [←h1];simp
theorem QEl.snoc (h:QEl w base qc q) (hl:qc.length=q.length) (hp:CT w base a n c p):QEl w base (qc ++ [.slice a n c]) (q ++ [p]):=by
 intro i hi;simp only [List.length_append,List.length_singleton] at hi;by_cases h1:i < q.length
 · obtain ⟨a',n',c',h2,h3⟩:=h i h1;refine ⟨a',n',c', ?_, ?_⟩
   · rw [←h2];simp [List.getElem?_append_left (show i < qc.length by omega)]
   · simpa [List.getElem?_append_left h1] using h3
 · have:i=q.length:=by omega
   subst this;refine ⟨a,n,c, ?_, ?_⟩
   · simp [←hl]
   · simpa using hp
theorem Uv (hgd:o.guard=none) (ho:o.op = .slice t x (some y) none none)
 {e:TypeId} {z:Value} {bytes base:Nat} {a:Option Addr} {n c k:Nat} {cs:List Value} (ht:P.underlying t=some (.slice e)) (hinfo:Bh P e z bytes) (hx:f.eval x = .slice a n c) (hy:f.eval y = .int .i64 k) (h:CA w base e a n c cs) (hk:k≤n)
 (hK:∀ a',blk a'=blk a→CA w base e a' (n - k) (c - k) (cs.drop k)→wpList P ops Q rest (f.put o.dst (.slice a' (n - k) (c - k))) w):wpList P ops Q (o :: rest) f w:=by
 refine wpList_plain hgd fun K hK' => ?_;unfold Oper.wp execOp;simp only [ho,hx,hy,Option.map_some,Option.map_none,Sem.run_bind,Fj ht hinfo hk,Result.andThen_ok,Sem.run_pure,Oper.upon];refine hK' _ _ (hK _ ?_ (h.from hk));split
 · rfl
 · cases a with
   | none=>rfl
   | some b=>simp [blk,Addr.add]; split <;> rfl
theorem Ey:Bh prog 22 (.slice none 0 0) 24:=by unfold Bh; kernel_rfl
theorem CC:prog.underlying 120=some (.map 70 4):=by kernel_rfl
theorem FY (w:World):(zeroValue 4).run prog w = .ok (.bool false) w:=by kernel_rfl
def Gz (w:World) (r:Nat):Nat:=match w.heap[r]? with | some (.map es _)=>es.size | _=>0
theorem Is (h:AN w r m):Gz w r=m.length:=by
 unfold Gz;rw [h.obj];simp [CQ]
def Uw:Value→Nat | .slice _ n _=>n | _=>0
def ClR (w0:World) (gs:List (List Int)) (n r:Nat) (v:Value) (wr:World):Prop :=
 ∃ L q aq nq cq qc,v = .slice aq nq cq∧nq=q.length∧Ext w0 wr∧w0.heap.size≤r∧AN wr r (BK L)∧CA wr w0.heap.size 22 aq nq cq qc∧QEl wr w0.heap.size qc q∧II gs n L q
def Wy (w0:World) (gs:List (List Int)) (n r:Nat) (a:List Int) (aa:Option Addr) (na ca:Nat) (M:Nat) (v i:Value) (wr:World):Prop :=
 ∃ L q aq nq cq qc,∃ j:Nat,v = .slice aq nq cq∧nq=q.length∧i = .int .i64 j∧j≤gs.length∧Ext w0 wr∧w0.heap.size≤r∧AN wr r (BK L)∧CA wr w0.heap.size 22 aq nq cq qc∧QEl wr w0.heap.size qc q ∧
  CT wr w0.heap.size aa na ca a∧I2 gs n L q a j∧2*(720 - L.length)+q.length≤M
def Wz (w:World) (gs:List (List Int)) (n:Nat) (e:Ending) (w':World):Prop :=
 ∃ r L,e = .returned (.map (some r))∧Ext w w'∧w.heap.size≤r∧AN w' r (BK L)∧L.Nodup∧∀ p,p∈L↔Ch gs n p
theorem Dg (hg:SlL w ag ng cg gs) (hn:n≤6) (hp:B5 gs n) :
 Calls prog 73 #[.int .i64 n, .slice ag ng cg] w (Wz w gs n):=by
 have hgl:=hg.le;have HG:=Lib.hid hg.len;have hi6:(idn n).length≤6:=by rw [Dw]; exact hn
 have HP:=Lib.hid hp;clear hp
 go_enter func73,ntmps73
 go_wp2_with fail
 refine (Jn (by omega)).mono ?_;rintro e w1 ⟨a1,n1,c1,rfl,hE1,hO1⟩;have hn1:n1=n:=by have:=hO1.sl.len; rw [Dw] at this; omega
 subst hn1
 go_wp2_with (refine Ho rfl rfl ?_; intro w2 hM2 hE2 hlt2)
 refine (CR (hO1.sl.ext hE2) hn).mono ?_;rintro e w3 ⟨rfl,hE3⟩;have hO3:=(hO1.ext hE2).ext hE3;have hM3:=hM2.ext hE3;have hEw:Ext w w3:=(hE1.trans hE2).trans hE3;have hr0:w.heap.size≤w1.heap.size:=hE1.size;generalize w1.heap.size=r at *
 clear hM2 hO1 hE3 hE2 hE1
 go_wp2_with (refine Kx rfl (Or.inr rfl) CC Br rfl rfl rfl hM3 (AQ hi6) ?_; intro w4 hM4 hg4)
 have hM4':AN w4 r (BK [idn n1]):=hM4;have hE4:Ext w w4:=hEw.grown hg4 (by intro k hk; simp at hk; omega);have hO4:CT w4 w.heap.size a1 n1 c1 (idn n1):=Own.kept hO3 hg4 (C8 hO3 hM3);clear hM4 hg4 hM3 hO3 hEw;go_wp2
 go_loopw [7] (fun v wr=>ClR w gs n1 r v wr) (fun v wr=>2*(720 - Gz wr r)+Uw v)
 case atStart =>
  have hOq:=Au w4 w.heap.size 22 #[.slice a1 n1 c1] 1 rfl hE4.size (by omega);refine ⟨[idn n1],[idn n1],_,_,_,_,rfl,rfl,hE4.alloc _,hr0,hM4'.ext ((Ext.refl w4).alloc _),CA.of hOq, ?_,II.start gs n1⟩;intro i hi;have:i=0:=by simpa using hi
  subst this;exact ⟨a1,n1,c1,rfl,Own.alloc hO4 _⟩
 case round =>
  clear hM4' hE4 hO4;obtain ⟨L,q,aq,nq,cq,qc,rfl,hnq,hE,hr,hM,hO,hQ,hI⟩:=hrel;have HNQ:=Lib.hid hnq;clear hnq;have hb:=D7 hn HP.out hI.nodup hI.reach;have hlen:Gz wr r=L.length:=by rw [Is hM]; simp [BK]
  have HLEN:=Lib.hid hlen;clear hlen;cases q with
  | nil =>
   have hz:nq=0:=HNQ.out;subst hz;go_wp2;go_ret;exact ⟨r,L,rfl,hE,hr,hM,hI.nodup,hI.done⟩
  | cons p q =>
   have hnq0:0 < nq:=by rw [HNQ.out]; simp
   have hqb:nq≤720:=by have:=hI.short; have h2:=HNQ.out; omega
   obtain ⟨ap,np,cp,hqc0,hOp⟩:=hQ 0 (by simp);obtain ⟨bq,oq,rfl,hcq⟩:=hO.sl.rd hnq0;have hc0:=hcq 0 hnq0;rw [hqc0,Nat.add_zero] at hc0;have hcap:=hO.sl.cap;have hmx:=hO.sl.max;unfold maxLen at hmx;clear hcq hqc0
   go_wp2_with (refine Uv rfl rfl underlying53 Ey rfl rfl (k:=1) hO (by omega) ?_; intro a7 hb7 hO7)
   obtain ⟨wo,rfl⟩:∃ wo:World,wo=wr:=⟨_,rfl⟩
   go_loopw [7,30] (fun v i wr=>Wy w gs n1 r p ap np cp (2*(720 - L.length)+q.length) v i wr) (fun _ i _=>gs.length - (intOf i).toNat)
   case atStart =>
    refine ⟨L,q,a7,nq - 1,cq - 1,qc.drop 1,0,rfl,by rw [HNQ.out]; simp,rfl,Nat.zero_le _,hE,hr,hM,hO7,hQ.tail,hOp,I2.start hI,lrf _⟩
   case round =>
    have HMo:Hid (2*(720 - Gz wo r)+Uw (.slice (some ⟨bq,oq,none⟩) nq cq)=2*(720 - L.length)+(q.length+1)):=by
     show _=_;rw [HLEN.out];simp only [Uw];rw [HNQ.out];rfl
    clear hO hQ hOp hM hI hO7 hc0 HLEN;obtain ⟨L2,q2,aq2,nq2,cq2,qc2,j,rfl,hnq2,rfl,hj,hE2,_,hM2,hO2,hQ2,hOp2,hI2,hmeas⟩:=hrel;have HNQ2:=Lib.hid hnq2;clear hnq2;have hb2:=D7 hn HP.out hI2.nodup hI2.reach;have hL6:∀ x∈L2,x.length=n1:=fun x hx=>(BE hn HP.out (hI2.reach x hx)).2;have hlen2:Gz wr r=L2.length:=by rw [Is hM2]; simp [BK]
    have HLEN2:=Lib.hid hlen2;have HL6:=Lib.hid hL6;clear hlen2 hL6;have hgw:=hg.ext hE2;have hjn:j≤ng:=by rw [←HG.out]; exact hj
    by_cases hjlt:j < ng
    · obtain ⟨bg,og,ag1,ng1,cg1,rfl,hcg,hSg⟩:=hgw.at hjlt;have hjg:j < gs.length:=by rw [HG.out]; exact hjlt
      have hgm:gs.getD j []∈gs:=by simp [hjg]
      obtain ⟨pg1,pg2⟩:=HP.out _ hgm;obtain ⟨pp1,pp2⟩:=BE hn HP.out (hI2.reach p hI2.mem);have hOld:=hI2.old hjg;have hNew:=hI2.new hjg;have hbl:(comp (gs.getD j []) p).length=n1:=by rw [B6]; exact pp2
      generalize hgj:gs.getD j []=gj at *
      have hng1:ng1=n1:=by have:=hSg.len; omega
      have hnp:np=n1:=by have:=hOp2.sl.len; omega
      have HOLD:=Lib.hid hOld;have HNEW:=Lib.hid hNew;have HBL:=Lib.hid hbl;have PP:=Lib.hid pp1;have PP2:=Lib.hid pp2;have HNG:=Lib.hid hng1;have HNP:=Lib.hid hnp;clear hOld hNew hbl hgj pg2 pp1 pp2 hng1 hnp hjg hgm
      go_wp2_with fail
      refine (F5 hSg hOp2.sl ?_ (by have:=HNP.out; omega)).mono ?_
      · intro i hi;have h1:=HNP.out;have h2:=HNG.out;have h3:=PP2.out;have:=B3 PP.out (i:=i) (by omega);omega
      rintro e w3 ⟨a3,n3,c3,rfl,hE3,hO3⟩;have hn3:n3=n1:=by have:=hO3.sl.len; rw [HBL.out] at this; exact this.symm
      subst hn3
      go_wp2_with fail
      refine (CR hO3.sl hn).mono ?_;rintro e w4 ⟨rfl,hE4⟩;have hM4:=(hM2.ext hE3).ext hE4;have hO4:=(hO2.ext hE3).ext hE4;have hQ4:=(hQ2.ext hE3).ext hE4;have hOp4:=(hOp2.ext hE3).ext hE4;have hOb4:CT w4 w.heap.size a3 n3 c3 (comp gj p):=Own.mono (Own.ext hO3 hE4) hE2.size;have hEw4:=(hE2.trans hE3).trans hE4;clear hM2 hO2 hQ2 hOp2 hO3 hE3 hE4 hE2;have hk6:(Ae (comp gj p)).length=6:=AQ (by rw [HBL.out]; exact hn);have hlook:=LO HL6.out HBL.out;by_cases hin:comp gj p∈L2
      · simp only [hin,decide_true] at hlook
        go_wp2_with (refine C7 rfl rfl CC Br FY rfl rfl hM4 hk6 ?_; simp only [Bool.false_eq_true,if_false]; rw [hlook])
        go_roundw
        case rel=>exact ⟨L2,q2,aq2,nq2,cq2,qc2,j+1,rfl,HNQ2.out,by go_num,by have:=HG.out; omega,hEw4,hr,hM4,hO4,hQ4,hOp4,HOLD.out hin,hmeas⟩
        case measure=>have:=HG.out; simp [intOf]; omega
      · simp only [hin,decide_false] at hlook
        go_wp2_with (refine C7 rfl rfl CC Br FY rfl rfl hM4 hk6 ?_; simp only [Bool.false_eq_true,if_false]; rw [hlook])
        refine (CR hOb4.sl hn).mono ?_;rintro e w5 ⟨rfl,hE5⟩;have hM5:=hM4.ext hE5;have hO5:=hO4.ext hE5;have hQ5:=hQ4.ext hE5;have hOp5:=hOp4.ext hE5;have hOb5:=hOb4.ext hE5;have hEw5:=hEw4.trans hE5;clear hM4 hO4 hQ4 hOp4 hOb4 hE5 hEw4 hlook
        go_upto_region 13 with (refine Kx (v := .bool true) rfl (Or.inl rfl) CC Br rfl rfl rfl hM5 hk6 ?_; intro w6 hM6 hg6)
        rw [Oi HL6.out HBL.out hin] at hM6;have hO6:=hO5.kept hg6 (IJ hO5 hM5);have hQ6:=hQ5.kept hg6 (fun _ _ _ _ h=>C8 h hM5);have hOp6:CT w6 w.heap.size ap np cp p:=Own.kept hOp5 hg6 (C8 hOp5 hM5);have hOb6:CT w6 w.heap.size a3 n3 c3 (comp gj p):=Own.kept hOb5 hg6 (C8 hOb5 hM5);have hEw6:Ext w w6:=hEw5.grown hg6 (by intro k hk; simp at hk; omega);have hnq2:nq2≤720:=by have:=hI2.short; have h2:=HNQ2.out; omega
        clear hM5 hO5 hQ5 hOp5 hOb5 hEw5 hg6;have hA7:Ext w6 (w6.alloc (.cells #[.slice a3 n3 c3] 22)):=(Ext.refl w6).alloc _;have hS7:=(Au w6 w.heap.size 22 #[.slice a3 n3 c3] 1 rfl hEw6.size (by omega)).sl;have hO7:=hO6.ext hA7
        go_wp2_with (refine Uq rfl rfl underlying53 Ey rfl rfl hO7 rfl hS7 (by simp [Value.oneCell']) (by unfold maxLen; omega) (by omega) (by have:=hEw6.size; simp; omega) (by omega) ?_; intro a8 c8 w8 hO8 hg8 hb8)
        go_roundw
        case rel =>
         have hEw7:=hEw6.trans hA7;refine ⟨L2 ++ [comp gj p],q2 ++ [comp gj p],a8,nq2+1,c8,_,j+1,rfl,by rw [HNQ2.out]; simp,by go_num,by have:=HG.out; omega,hEw7.grown hg8 (fun k hk=>(hO7.lt hk).1),hr, ?_,hO8, ?_, ?_,HNEW.out hin, ?_⟩
         · have hM7:=hM6.ext hA7;refine hM7.kept hg8 ?_;rcases IJ hO7 hM7 with h | h
           · rw [h]; simp
           · exact fun h2=>h h2.symm
         · have hQ7:=(hQ6.ext hA7).kept hg8 (fun _ _ _ _ h=>D8 h hO7 (by decide));have hOb7:CT _ w.heap.size a3 n3 c3 (comp gj p):=Own.kept (Own.ext hOb6 hA7) hg8 (D8 (Own.ext hOb6 hA7) hO7 (by decide));exact hQ7.snoc (by rw [hO7.len,HNQ2.out]) hOb7
         · exact Own.kept (Own.ext hOp6 hA7) hg8 (D8 (Own.ext hOp6 hA7) hO7 (by decide))
         · have:=D7 hn HP.out (HNEW.out hin).nodup (HNEW.out hin).reach;simp only [List.length_append,List.length_singleton] at this ⊢;omega
        case measure=>have:=HG.out; simp [intOf]; omega
    · go_wp2;go_roundw
      case rel=>exact ⟨L2,q2,aq2,nq2,cq2,qc2,rfl,HNQ2.out,hE2,hr,hM2,hO2,hQ2,hI2.fin (by have:=HG.out; omega)⟩
      case measure =>
       have h1:=HMo.out;have h2:=HLEN2.out;have h3:=HNQ2.out;simp [Uw] at h1 ⊢;omega
def cmpI (x y:Int):Int:=if x < y then -1 else if y < x then 1 else 0
def A0:List Int→List Int→Int
 | [],[]=>0
 | [],_ :: _ => -1
 | _ :: _,[]=>1
 | x :: xs,y :: ys=>if x < y then -1 else if y < x then 1 else A0 xs ys
theorem C9:∀ a:List Int,A0 a a=0
 | []=>rfl
 | x :: a=>by simp [A0,C9 a]
theorem Hs:∀ {a b:List Int},A0 a b=0→a=b
 | [],[],_=>rfl
 | [],_ :: _,h=>by simp [A0] at h
 | _ :: _,[],h=>by simp [A0] at h
 | x :: a,y :: b,h=>by
  unfold A0 at h;by_cases h1:x < y
  · simp [h1] at h
  · by_cases h2:y < x
    · simp [h1,h2] at h
    · simp only [h1,h2,if_false] at h;have:x=y:=by omega
      rw [this,Hs h]
theorem BI:∀ a b:List Int,A0 b a = - A0 a b
 | [],[]=>rfl
 | [],_ :: _=>rfl
 | _ :: _,[]=>rfl
 | x :: a,y :: b=>by
  unfold A0;by_cases h1:x < y
  · have h2:¬ y < x:=by omega
    simp [h1,h2]
  · by_cases h2:y < x
    · simp [h1,h2]
    · simp [h1,h2,BI a b]
theorem CK:∀ {a b c:List Int},A0 a b≤0→A0 b c≤0→A0 a c≤0
 | [],_,[],_,_=>by simp [A0]
 | [],_,_ :: _,_,_=>by simp [A0]
 | _ :: _,[],_,h,_=>by simp [A0] at h
 | _ :: _,_ :: _,[],_,h=>by simp [A0] at h
 | x :: a,y :: b,z :: c,h1,h2=>by
  unfold A0 at h1 h2 ⊢;by_cases xy:x < y
  · by_cases yz:y < z
    · simp [show x < z by omega]
    · by_cases zy:z < y
      · simp [yz,zy] at h2
      · simp [show x < z by omega]
  · by_cases yx:y < x
    · simp [xy,yx] at h1
    · simp only [xy,yx,if_false] at h1;by_cases yz:y < z
      · simp [show x < z by omega]
      · by_cases zy:z < y
        · simp [yz,zy] at h2
        · simp only [yz,zy,if_false] at h2;have e1:¬ x < z:=by omega
          have e2:¬ z < x:=by omega
          simp only [e1,e2,if_false];exact CK h1 h2
theorem Pc (a b:List Int):A0 a b≤0∨A0 b a≤0:=by
 have:=BI a b;omega
theorem Dp:∀ (k:Nat) (a b:List Int),a.take k=b.take k→k≤a.length→k≤b.length→A0 a b=A0 (a.drop k) (b.drop k)
 | 0,_,_,_,_,_=>rfl
 | k+1,x :: a,y :: b,h,h1,h2=>by
  simp only [List.take_succ_cons,List.cons.injEq] at h;obtain ⟨rfl,h⟩:=h;simp only [List.length_cons] at h1 h2;rw [List.drop_succ_cons,List.drop_succ_cons,←Dp k a b h (by omega) (by omega)];simp [A0]
 | k+1,[],_,_,h1,_=>by simp at h1
 | k+1,_ :: _,[],_,_,h2=>by simp at h2
theorem It (x:Int) (w:World):Calls prog 155 #[.int .i64 x] w fun e w'=>e = .returned (.bool false)∧w=w':=by
 have h:(x != x)=false:=by simp
 go_enter func155,ntmps155
 go_wp2;go_ret;exact ⟨rfl,rfl⟩
theorem IK (x y:Int) (w:World):Calls prog 124 #[.int .i64 x, .int .i64 y] w fun e w'=>e = .returned (.int .i64 (cmpI x y))∧w=w':=by
 by_cases h1:x < y
 · have H:Hid (cmpI x y = -1):=by show _=_; simp [cmpI,h1]
   go_enter func124,ntmps124
   go_wp2_with (go_at_call 155; refine (It _ _).mono ?_; rintro e w1 ⟨rfl,rfl⟩)
   go_ret;exact ⟨D0 H.out,rfl⟩
 · by_cases h2:y < x
   · have H:Hid (cmpI x y=1):=by show _=_; simp [cmpI,h1,h2]
     go_enter func124,ntmps124
     go_wp2_with (go_at_call 155; refine (It _ _).mono ?_; rintro e w1 ⟨rfl,rfl⟩)
     go_ret;exact ⟨D0 H.out,rfl⟩
   · have H:Hid (cmpI x y=0):=by show _=_; simp [cmpI,h1,h2]
     go_enter func124,ntmps124
     go_wp2_with (go_at_call 155; refine (It _ _).mono ?_; rintro e w1 ⟨rfl,rfl⟩)
     go_ret;exact ⟨D0 H.out,rfl⟩
theorem Ux {xs ys:List Int} {k:Nat} (hp:xs.take k=ys.take k) (h1:k < xs.length) (h2:k < ys.length) (hne:cmpI (xs.getD k 0) (ys.getD k 0)≠0):A0 xs ys=cmpI (xs.getD k 0) (ys.getD k 0):=by
 rw [Dp k xs ys hp (by omega) (by omega),List.drop_eq_getElem_cons h1,List.drop_eq_getElem_cons h2];simp only [gqq,List.getElem?_eq_getElem h1,List.getElem?_eq_getElem h2,Option.getD_some] at hne ⊢;unfold cmpI at hne ⊢;unfold A0;by_cases c1:xs[k] < ys[k]
 · simp [c1]
 · by_cases c2:ys[k] < xs[k]
   · simp [c1,c2]
   · simp [c1,c2] at hne
theorem cmpI_zero {x y:Int} (h:cmpI x y=0):x=y:=by
 unfold cmpI at h;by_cases c1:x < y
 · simp [c1] at h
 · by_cases c2:y < x
   · simp [c1,c2] at h
   · omega
theorem Cr {b:Option Addr} {m d:Nat} (hx:SlI w a n c xs) (hy:SlI w b m d ys) :
 Calls prog 78 #[.slice a n c, .slice b m d] w fun e w'=>e = .returned (.int .i64 (A0 xs ys))∧Qt w w':=by
 have hm:=hx.le;have hm2:=hy.le;have HX:=Lib.hid hx.len;have HY:=Lib.hid hy.len
 go_enter func78,ntmps78
 go_wp2
 go_loopw [11] (fun i wr=>∃ k:Nat,k≤n∧k≤m∧i = .int .i64 k∧Qt w wr∧xs.take k=ys.take k) (fun i _=>n - (intOf i).toNat)
 case atStart=>exact ⟨0,Nat.zero_le _,Nat.zero_le _,rfl,Qt.refl _,rfl⟩
 case round =>
  obtain ⟨k,hk,hkm,rfl,hE,hp⟩:=hrel;have HP:=Lib.hid hp;clear hp;have hx:=hx.ext hE.ext;have hy:=hy.ext hE.ext;by_cases hlt:k < n
  · obtain ⟨b1,o1,rfl,hc1⟩:=hx.at hlt;have g1:=hc1 k hlt;clear hc1;by_cases hlt2:k < m
    · obtain ⟨b2,o2,rfl,hc2⟩:=hy.at hlt2;have g2:=hc2 k hlt2;clear hc2;have hca:=@Ux xs ys k HP.out (by have:=HX.out; omega) (by have:=HY.out; omega);generalize hxk:xs.getD k 0=xk at *
      generalize hyk:ys.getD k 0=yk at *
      have HX2:=Lib.hid hxk;have HY2:=Lib.hid hyk;have HCA:=Lib.hid hca;clear hxk hyk hca;by_cases he:cmpI xk yk=0
      · have heb:(cmpI xk yk != 0)=false:=by simp [he]
        have HE:=Lib.hid he;clear he
        go_wp2_with (go_at_call 124; refine (IK _ _ _).mono ?_; rintro e w1 ⟨rfl,rfl⟩)
        go_roundw
        case rel=>exact ⟨k+1,by omega,by omega,by go_num,hE,Lr HP.out (by have:=HX.out; omega) (by have:=HY.out; omega) (by rw [HX2.out,HY2.out,cmpI_zero HE.out]; simp)⟩
        case measure=>simp [intOf]; omega
      · have heb:(cmpI xk yk != 0)=true:=by simp [he]
        have HE:=Lib.hid he;clear he
        go_wp2_with (go_at_call 124; refine (IK _ _ _).mono ?_; rintro e w1 ⟨rfl,rfl⟩)
        go_ret;exact ⟨D0 (HCA.out HE.out),hE⟩
    · go_wp2;go_ret;refine ⟨D0 ?_,hE⟩;rw [Dp k xs ys HP.out (by have:=HX.out; omega) (by have:=HY.out; omega),List.drop_of_length_le (l:=ys) (by have:=HY.out; omega),List.drop_eq_getElem_cons (l:=xs) (by have:=HX.out; omega)];rfl
  · have ek:k=n:=by omega
    by_cases hlm:n < m
    · go_wp2;go_ret;refine ⟨D0 ?_,hE⟩;rw [Dp k xs ys HP.out (by have:=HX.out; omega) (by have:=HY.out; omega),List.drop_of_length_le (l:=xs) (by have:=HX.out; omega),List.drop_eq_getElem_cons (l:=ys) (by have:=HY.out; omega)];rfl
    · go_wp2;go_ret;refine ⟨D0 ?_,hE⟩;rw [Dp k xs ys HP.out (by have:=HX.out; omega) (by have:=HY.out; omega),List.drop_of_length_le (l:=xs) (by have:=HX.out; omega),List.drop_of_length_le (l:=ys) (by have:=HY.out; omega)];rfl
def Gd (l:List (List Int)) (i j:Nat):List (List Int):=(l.set i (l.getD j [])).set j (l.getD i [])
theorem LP (l:List (List Int)) (i j:Nat):(Gd l i j).length=l.length:=by simp [Gd]
theorem KF {l:List (List Int)} {i j:Nat} (hi:i < l.length) (hj:j < l.length) (k:Nat):(Gd l i j).getD k []=if k=j then l.getD i [] else if k=i then l.getD j [] else l.getD k []:=by
 simp only [Gd,gqq,List.getElem?_set];by_cases h1:j=k
 · subst h1;simp [hj]
 · by_cases h2:i=k
   · subst h2;simp [h1,hi,Ne.symm h1]
   · simp [h1,h2,Ne.symm h1,Ne.symm h2]
theorem Pd (hi:i < l.length) (hj:j < l.length):(Gd l i j).Perm l:=by
 have h:=Array.swap_perm (xs:=l.toArray) (i:=i) (j:=j) (by simpa using hi) (by simpa using hj);have h2:=Array.perm_iff_toList_perm.1 h;simpa [Gd,hi,hj] using h2
def Srt (w:World) (base g n c:Nat) (ps:List (List Int)):Prop :=
 ps.length=n∧∃ cells,Own w base 22 (some ⟨g,0,none⟩) n c cells∧QEl w base cells ps
theorem CL (h:Own w base e a n c cs) (h':Own w base' e' a' n' c' cs') (hne:e≠e'):blk a=none∨blk a≠blk a' :=
 D8 h (CA.of h') hne
section
variable {w w':World} {base g n c:Nat} {ps:List (List Int)}
theorem Srt.len (h:Srt w base g n c ps):ps.length=n:=h.1
theorem Srt.le (h:Srt w base g n c ps):n≤9223372036854775807:=by
 obtain ⟨_,cells,h1,_⟩:=h;have:=h1.sl.max;have h2:=h1.cap;unfold maxLen at this;omega
theorem Srt.qt (h:Srt w base g n c ps) (e:Qt w w'):Srt w' base g n c ps:=by
 obtain ⟨h0,cells,h1,h2⟩:=h;exact ⟨h0,cells,h1.ext e.ext,h2.ext e.ext⟩
theorem Srt.at (h:Srt w base g n c ps) {k:Nat} (hk:k < n):∃ a m c',w.cell? ⟨g,k,none⟩=some (.slice a m c')∧SlI w a m c' (ps.getD k [])∧w.frozen? ⟨g,k,none⟩=false:=by
 obtain ⟨h0,cells,h1,h2⟩:=h;obtain ⟨a,m,c',e1,h3⟩:=h2 k (by omega);exact ⟨a,m,c',by rw [h1.cellAt hk,e1],h3.sl,h1.frozenAt k⟩
theorem Srt.swap (h:Srt w base g n c ps) {i j:Nat} {u v:Value} (hi:i < n) (hj:j < n) (hu:w.cell? ⟨g,i,none⟩=some u) (hv:w.cell? ⟨g,j,none⟩=some v) :
 Srt ((w.setCell ⟨g,i,none⟩ v).setCell ⟨g,j,none⟩ u) base g n c (Gd ps i j)∧w.grownBy ((w.setCell ⟨g,i,none⟩ v).setCell ⟨g,j,none⟩ u) (some g):=by
 obtain ⟨h0,cells,h1,h2⟩:=h;have g1:=Ao w g i v;have g2:=Ao (w.setCell ⟨g,i,none⟩ v) g j u
 have hgr:w.grownBy ((w.setCell ⟨g,i,none⟩ v).setCell ⟨g,j,none⟩ u) (some g) :=
  ⟨rfl,rfl,rfl,Nat.le_trans g1.size g2.size,fun k hk hne=>(g2.block k (Nat.lt_of_lt_of_le hk g1.size) hne).trans (g1.block k hk hne)⟩
 refine ⟨⟨by rw [LP]; exact h0,(cells.set i v).set j u,(h1.stored i v).stored j u, ?_⟩,hgr⟩;have hcl:=h1.len;have eu:cells.getD i undef=u:=by have:=h1.cellAt hi; rw [hu] at this; simpa using this.symm
 have ev:cells.getD j undef=v:=by have:=h1.cellAt hj; rw [hv] at this; simpa using this.symm
 have hQ:=h2.kept hgr (fun _ _ _ _ hx=>CL hx h1 (by decide));intro k hk;rw [LP] at hk;rw [KF (by omega) (by omega)];by_cases hkj:k=j
 · subst hkj;obtain ⟨a,m,c',e1,h3⟩:=hQ i (by omega);refine ⟨a,m,c', ?_,by simpa using h3⟩;rw [←e1,eu];simp [hcl,hj]
 · by_cases hki:k=i
   · subst hki;obtain ⟨a,m,c',e1,h3⟩:=hQ j (by omega);refine ⟨a,m,c', ?_,by simpa [hkj] using h3⟩;rw [←e1,ev];simp [hcl,hi,Ne.symm hkj]
   · obtain ⟨a,m,c',e1,h3⟩:=hQ k hk;refine ⟨a,m,c', ?_,by simpa [hkj,hki] using h3⟩;rw [←e1];simp [Ne.symm hkj,Ne.symm hki]
end
def CX (ps:List (List Int)) (a b:Nat):Prop:=∀ i j,a≤i→i < j→j < b→A0 (ps.getD i []) (ps.getD j [])≤0
def DG (ps0 ps:List (List Int)) (a b:Nat):Prop:=ps.Perm ps0∧∀ i,(i < a∨b≤i)→ps.getD i []=ps0.getD i []
theorem DG.refl (ps:List (List Int)) (a b:Nat):DG ps ps a b:=⟨List.Perm.refl _,fun _ _=>rfl⟩
theorem DG.swap {a b:Nat} (h:DG ps0 ps a b) (hi:i < ps.length) (hj:j < ps.length) (ai:a≤i) (bi:i < b) (aj:a≤j) (bj:j < b):DG ps0 (Gd ps i j) a b:=by
 refine ⟨(Pd hi hj).trans h.1,fun k hk => ?_⟩;rw [KF hi hj,if_neg (by omega),if_neg (by omega)];exact h.2 k hk
structure MK (ps:List (List Int)) (a j i:Nat):Prop where
 lo:CX ps a j
 hi:CX ps j (i+1)
 mid:∀ x y,a≤x→x < j→j < y→y≤i→A0 (ps.getD x []) (ps.getD y [])≤0
theorem MK.start {a:Nat} (h:CX ps a i):MK ps a i i:=⟨h,fun x y h1 h2 h3=>by omega,fun x y _ _ _ _=>by omega⟩
theorem MK.stop {a:Nat} (h:MK ps a j i) (haj:a≤j) (hji:j≤i) (hs:j=a∨(0 < j∧¬ A0 (ps.getD j []) (ps.getD (j - 1) []) < 0)):CX ps a (i+1):=by
 intro x y h1 h2 h3;by_cases hx:j≤x
 · exact h.hi x y hx h2 h3
 · by_cases hy:y < j
   · exact h.lo x y h1 h2 hy
   · by_cases hyj:y=j
     · subst hyj;rcases hs with h4 | ⟨_,h4⟩
       · omega
       · have h5:A0 (ps.getD (y - 1) []) (ps.getD y [])≤0:=by rw [BI]; omega
         by_cases hx1:x=y - 1
         · rw [hx1]; exact h5
         · exact CK (h.lo x (y - 1) h1 (by omega) (by omega)) h5
     · exact h.mid x y h1 (by omega) (by omega) (by omega)
theorem MK.step {a:Nat} (h:MK ps a j i) (haj:a < j) (hji:j≤i) (hil:i < ps.length) (hs:A0 (ps.getD j []) (ps.getD (j - 1) []) < 0):MK (Gd ps j (j - 1)) a (j - 1) i:=by
 have e:=@KF ps j (j - 1) (by omega) (by omega);refine ⟨?_, ?_, ?_⟩
 · intro x y h1 h2 h3;rw [e,e,if_neg (by omega),if_neg (by omega),if_neg (by omega),if_neg (by omega)];exact h.lo x y h1 h2 (by omega)
 · intro x y h1 h2 h3;rw [e,e];by_cases hx:x=j - 1
   · rw [if_pos hx,if_neg (show ¬ y=j - 1 by omega)];by_cases hy:y=j
     · rw [if_pos hy]; omega
     · rw [if_neg hy];exact h.hi j y (lrf _) (by omega) h3
   · rw [if_neg hx,if_neg (show ¬ y=j - 1 by omega),if_neg (show ¬ y=j by omega)];by_cases hxj:x=j
     · rw [if_pos hxj];exact h.mid (j - 1) y (by omega) (by omega) (by omega) (by omega)
     · rw [if_neg hxj];exact h.hi x y (by omega) h2 h3
 · intro x y h1 h2 h3 h4;rw [e,e,if_neg (show ¬ x=j - 1 by omega),if_neg (show ¬ x=j by omega),if_neg (show ¬ y=j - 1 by omega)];by_cases hy:y=j
   · rw [if_pos hy];exact h.lo x (j - 1) h1 h2 (by omega)
   · rw [if_neg hy];exact h.mid x y h1 (by omega) (by omega) h4
def Ji (w:World) (base g n c:Nat) (ps:List (List Int)) (a b:Nat) (e:Ending) (w':World):Prop :=
 e = .returned (.tuple #[])∧∃ ps',Srt w' base g n c ps'∧DG ps ps' a b∧CX ps' a b∧w.grownBy w' (some g)
theorem Pe (w:World) (row:Option Nat):w.grownBy w row:=World.grownBy.refl w row
theorem Oj {a c:World} (h:a.grownBy b row) (k:b.grownBy c row):a.grownBy c row :=
 ⟨k.os.trans h.os,k.tape.trans h.tape,k.output.trans h.output,Nat.le_trans h.size k.size,fun i hi hne=>(k.block i (Nat.lt_of_lt_of_le hi h.size) hne).trans (h.block i hi hne)⟩
theorem KG {a c:World} (h:a.grownBy b row) (k:Qt b c):a.grownBy c row:=by
 obtain ⟨n,rfl⟩:=k;exact ⟨h.os,h.tape,h.output,h.size,h.block⟩
theorem K8 {g a b:Nat} (hS:Srt w base g n c ps) (hab:a≤b) (hbn:b≤n) (hn6:n≤1000000) :
 Calls prog 190 #[.slice (some ⟨g,0,none⟩) n c, .int .i64 a, .int .i64 b, .func (.func 78) #[] #[]] w (Ji w base g n c ps a b):=by
 have hnn:=hS.le
 go_enter func190,ntmps190
 go_wp2
 go_loopw [8] (fun v wr=>∃ i:Nat,∃ ps',v = .int .i64 i∧a+1≤i∧(i≤b∨i=a+1)∧Srt wr base g n c ps'∧DG ps ps' a b∧CX ps' a i∧w.grownBy wr (some g)) (fun v _=>b - (intOf v).toNat)
 case atStart=>exact ⟨a+1,ps,by go_num,lrf _,Or.inr rfl,hS,DG.refl _ _ _,fun x y h1 h2 h3=>by omega,Pe _ _⟩
 case round =>
  obtain ⟨i,ps1,rfl,hi1,hi2,hS1,hm1,ho1,hg1⟩:=hrel;by_cases hib:i < b
  · go_wp2;obtain ⟨wo,rfl⟩:∃ wo:World,wo=wr:=⟨_,rfl⟩
    go_loopw [9] (fun v wr=>∃ j:Nat,∃ ps',v = .int .i64 j∧a≤j∧j≤i∧Srt wr base g n c ps'∧DG ps ps' a b∧MK ps' a j i∧w.grownBy wr (some g)) (fun v _=>(intOf v).toNat)
    case atStart=>exact ⟨i,ps1,rfl,by omega,lrf _,hS1,hm1,MK.start ho1,hg1⟩
    case round =>
     clear hS1 hm1 ho1 hg1;obtain ⟨j,ps2,rfl,hj1,hj2,hS2,hm2,hI2,hg2⟩:=hrel;by_cases hja:a < j
     · obtain ⟨a1,n1,c1,k1,s1,f1⟩:=hS2.at (k:=j) (by omega);obtain ⟨a2,n2,c2,k2,s2,f2⟩:=hS2.at (k:=j - 1) (by omega);have hl2:=hS2.len;have hstep:=hI2.step hja hj2 (by omega);have hstop:=hI2.stop hj1 hj2;have hsw:=hS2.swap (i:=j) (j:=j - 1) (by omega) (by omega) k1 k2;have hmv:=hm2.swap (i:=j) (j:=j - 1) (by omega) (by omega) (by omega) (by omega) (by omega) (by omega);have STEP:=Lib.hid hstep;have STOP:=Lib.hid hstop;have SW:=Lib.hid hsw;have MV:=Lib.hid hmv;clear hstep hstop hsw hmv hl2;obtain ⟨j',rfl⟩:∃ j',j=j'+1:=⟨j - 1,by omega⟩;simp only [Nat.add_sub_cancel] at k2 f2 s2 STEP STOP SW MV
       generalize hx:ps2.getD (j'+1) []=x at *
       generalize hy:ps2.getD j' []=y at *
       clear hx hy;have hja':decide ((a:Int) < (j':Int)+1)=true:=by simp; omega
       have hw1:IntKind.i64.wrap ((j':Int)+1 - 1)=j':=by rw [Int.add_sub_cancel]; exact IntWalk.i64_in _ (by omega)
       have hw2:IntKind.i64.wrap (j':Int)=j':=IntWalk.i64_in _ (by omega);by_cases hc:A0 x y < 0
       · go_wp2_with fail
         go_quiet ((exact Calls.quiet_of (Cr (s1.ext ((Ext.refl _).drewN _)) (s2.ext ((Ext.refl _).drewN _)))))
         clear hja' hw1 hw2 s1 s2;go_wp2
         go_region
         go_wp2;go_roundw
         case rel=>exact ⟨j',Gd ps2 (j'+1) j',by go_num,by omega,by omega,SW.out.1.qt ⟨_,rfl⟩,MV.out,STEP.out hc,Oj hg2 (KG SW.out.2 ⟨_,rfl⟩)⟩
         case measure=>simp [intOf]
       · go_wp2_with fail
         go_quiet ((exact Calls.quiet_of (Cr (s1.ext ((Ext.refl _).drewN _)) (s2.ext ((Ext.refl _).drewN _)))))
         clear hja' hw1 hw2 s1 s2;go_wp2;go_roundw
         case rel=>exact ⟨i+1,ps2,by go_num,by omega,by omega,hS2.qt ⟨_,rfl⟩,hm2,STOP.out (Or.inr ⟨by omega,hc⟩),KG hg2 ⟨_,rfl⟩⟩
         case measure=>simp [intOf]; omega
     · have hja':decide ((a:Int) < (j:Int))=false:=by simp; omega
       go_wp2_with fail
       go_quiet (fail)
       go_wp2;go_roundw
       case rel=>exact ⟨i+1,ps2,by go_num,by omega,by omega,hS2.qt ⟨_,rfl⟩,hm2,hI2.stop hj1 hj2 (Or.inl (by omega)),KG hg2 ⟨_,rfl⟩⟩
       case measure=>simp [intOf]; omega
  · go_wp2
    go_end0
    refine ⟨rfl,ps1,hS1,hm1, ?_,hg1⟩;intro x y h1 h2 h3;exact ho1 x y h1 h2 (by omega)
end Go.Proofs.YtlpgonpfjbhmfaaGreatDoor
namespace Go.Proofs.YtlpgonpfjbhmfaaGreatDoor
open Go.Shelf
def Ok:Go.Shelf.Ren:=⟨fun | 125=>127 | 128=>164 | 129=>165 | n=>n,fun | 46=>147 | 3=>3 | 51=>208 | 53=>143 | 4=>4 | 5=>5 | 9=>9 | n=>n,fun | n=>n⟩
theorem Uy:Go.Proofs.Lays.n125 Tryz.prog Ok:={
 mixed:=by kernel_rfl
 f125:=Tryz.func127.trans (congrArg some (by kernel_rfl))
 f128:=Tryz.func164.trans (congrArg some (by kernel_rfl))
 f129:=Tryz.func165.trans (congrArg some (by kernel_rfl))
 t3:=Tryz.underlying3
 a3:=Tryz.isAgg3
 z3:=Tryz.sizeOf3
 v3:=Tryz.zeroValue3
 t4:=Tryz.underlying4
 a4:=Tryz.isAgg4
 z4:=Tryz.sizeOf4
 v4:=Tryz.zeroValue4
 t5:=Tryz.underlying5
 a5:=Tryz.isAgg5
 z5:=Tryz.sizeOf5
 v5:=Tryz.zeroValue5
 t9:=Tryz.underlying9
 a9:=Tryz.isAgg9
 z9:=Tryz.sizeOf9
 v9:=Tryz.zeroValue9
 t46:=Tryz.underlying147
 a46:=Tryz.isAgg147
 z46:=Tryz.sizeOf147
 v46:=Tryz.zeroValue147
 t51:=Tryz.underlying208
 a51:=Tryz.isAgg208
 z51:=Tryz.sizeOf208
 v51:=Tryz.zeroValue208
 t53:=Tryz.underlying143
 a53:=Tryz.isAgg143
 z53:=Tryz.sizeOf143
 v53:=Tryz.zeroValue143 }
theorem bits_Len (x:Int) (w:World) (h0:0≤x) (h1:x≤18446744073709551615) :
 Calls Tryz.prog 127 #[.int .u64 x] w fun e w'=>e = .returned (.int .i64 (Lib.bitLen x.toNat))∧w'=w:=Any.bits_Len Uy x w h0 h1
end Go.Proofs.YtlpgonpfjbhmfaaGreatDoor
