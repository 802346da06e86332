/- Part Py11. -/
import Derived.Test.YtlbmnokpiilfpaaGreatDoorPy10

set_option linter.all false
set_option maxRecDepth 100000
set_option maxHeartbeats 100000000
namespace Go.Proofs.YtlbmnokpiilfpaaGreatDoor
open Tryz Go Go.RowKit
def oh:=@List.length_set
variable {s:Bool} {z z':Int} {e key:List Int} {cs:List Value} {C D H H0 H1 L M N c d g i k m n sa sb:Nat} {A B a b:Option Addr} {qa qa' qb qb':Option Nat} {q:Rat} {t:TypeId} {v v':Value} {w w' w1 w2 w4 wr:World}
structure I3 where
 p:Nat
 qa:Option Nat
 qb:Option Nat
 z:Int
def I3.has(f:I3)(b:Nat):Prop:=b=f.p\/f.qa=some b\/f.qb=some b
def WR(p:Nat):Value := .pointer (some ⟨p,0,none⟩)
abbrev SF:=List (List Int×I3)
def NG(fs:SF):List (List Int×Value):=fs.map (fun f=>(f.1,WR f.2.p))
def lzF(fs:SF):List (List Int×Int):=fs.map (fun f=>(f.1,f.2.z))
def lqF(fs:SF):List Pl.Tm:=(lzF fs).map (fun f=>(f.1,(f.2:Rat)))
theorem UF:prog.underlying 250=some (.map 90 251):=by kernel_rfl
theorem WL(w:World):(zeroValue 251).run prog w = .ok (.pointer none) w:=Tryz.zeroValue251 w
theorem Wy(fs:SF):(NG fs).map (·.1)=fs.map (·.1):=by simp[NG]
theorem WM(fs:SF):(lqF fs).map (·.1)=fs.map (·.1):=by simp[lqF,lzF]
theorem WS{base p:Nat}(h:B6 w base p qa qb N z):∀ b,(b=p\/qa=some b\/qb=some b)->∃ i t j,w.heap[b]?=some (.cells i t j):=by
 obtain⟨o,r,q,k,m,l,s,n,h1,h2,h3,h4,h5,_⟩:=h;intro b a;rcases a with rfl|a|a
 · exact⟨_,_,_,h1⟩
 · rcases h4.2 with⟨c,_⟩|⟨g,d,e,c,_,f,_⟩
   · simp only[pk]at c;rw[<-h2,c.1]at a;simp[blk]at a
   · simp only[pk]at c;rw[<-h2,c.1]at a;have:g=b:=by simpa[blk]using a
     subst this;exact⟨_,_,_,f⟩
 · rcases h5.2 with⟨c,_⟩|⟨g,d,e,c,_,f,_⟩
   · simp only[pk]at c;rw[<-h3,c.1]at a;simp[blk]at a
   · simp only[pk]at c;rw[<-h3,c.1]at a;have:g=b:=by simpa[blk]using a
     subst this;exact⟨_,_,_,f⟩
structure BZ(w2:World)(r Nb:Nat)(fs:SF)(wr:World):Prop where
 ext:Ext w2 wr
 rge:w2.heap.size<=r
 map:Bm wr r (NG fs)
 sums:∀ f∈fs,B6 wr w2.heap.size f.2.p f.2.qa f.2.qb Nb f.2.z
 dist:∀ (i j:Nat) f g,i≠j->fs[i]?=some f->fs[j]?=some g->∀ b,f.2.has b->¬ g.2.has b
section
variable {w2 wr w':World} {r Nb:Nat} {fs:SF}
theorem BZ.step(h:BZ w2 r Nb fs wr)(e:Ext wr w'):BZ w2 r Nb fs w':=⟨h.ext.trans e,h.rge,h.map.ext e,fun f a=>(h.sums f a).ext e,h.dist⟩
theorem BZ.lt(h:BZ w2 r Nb fs wr){f:List Int×I3}(d:f∈fs){b:Nat}(a:f.2.has b):w2.heap.size<=b/\b<wr.heap.size:=by
 have c:=(h.sums f d).lt;rcases a with rfl|a|a
 · exact c.1
 · exact c.2.1 b a
 · exact c.2.2 b a
theorem BZ.ne(h:BZ w2 r Nb fs wr){f:List Int×I3}(c:f∈fs){b:Nat}(a:f.2.has b):b≠r:=by
 rintro rfl;obtain⟨d,t,g,e⟩:=WS (h.sums f c) b a;rw[h.map.obj]at e;cases e
theorem BZ.nodup(h:BZ w2 r Nb fs wr):(fs.map (·.1)).Nodup:=by rw[<-Wy];exact h.map.nodup
theorem BZ.le{a:Nat}(h:BZ w2 r Nb fs wr)(b:Nb<=a):BZ w2 r a fs wr:=⟨h.ext,h.rge,h.map,fun f c=>(h.sums f c).le b,h.dist⟩
theorem BZ.new(h:BZ w2 r Nb fs wr){key:List Int}{p:Nat}{t n:World}(z:key ∉ fs.map (·.1))(v:Ext wr t)(y:Arr t p 224 (JE none 0 0 none 0 0))(hp:wr.heap.size<=p)
 (w:Bm n r (M2 (NG fs) key (WR p))) (l:t.grownBy n (some r)):BZ w2 r Nb (fs ++ [(key,⟨p,none,none,0⟩)]) n:=by
 have m:M2 (NG fs) key (WR p)=NG (fs ++ [(key,⟨p,none,none,0⟩)]):=by
  have A:Cy key 0 (NG fs)=none:=FR.2 (by rw[Wy];exact z);unfold M2;rw[A];simp[NG]
 rw[m]at w;have s:p≠r:=by have:=h.map.lt;omega
 have hA4:Arr n p 224 (JE none 0 0 none 0 0):=y.kept l (by simpa using s);have B:=h.ext.size;refine⟨(h.ext.trans v).grownR l h.rge,h.rge,w,fun f k => ?_,fun i j f g o d x b e => ?_⟩
 · rcases il.1 k with k|k
   · have h3:=(h.sums f k).ext v;refine h3.kp (Kp.ofGrown l (S:=fun b=>b=r) (fun g l=>by simpa using l.symm)) ?_ ?_ ?_
     · exact h.ne k (Or.inl rfl)
     · exact fun g l=>h.ne k (Or.inr (Or.inl l))
     · exact fun g l=>h.ne k (Or.inr (Or.inr l))
   · simp only[oZ]at k;subst k;exact(B6.new hA4 (by omega)).le (oY _)
 · have c:∀ (i:Nat) (f:List Int×I3),(fs ++ [(key,(⟨p,none,none,0⟩:I3))])[i]?=some f->(i<fs.length/\fs[i]?=some f)\/(i=fs.length/\f=(key,⟨p,none,none,0⟩)):=by
    intro i f d;rcases gQ i fs.length with h1|h1
    · rw[gF h1]at d;exact Or.inl ⟨h1,d⟩
    · rw[gN h1]at d;right;rcases oV (i-fs.length)with h2|h2
      · rw[h2]at d;simp at d;exact⟨by omega,d.symm⟩
      · rw[pu (by simp;omega)]at d;cases d
   rcases c i f d with⟨h1,h2⟩|⟨h1,rfl⟩
   · rcases c j g x with⟨h3,h4⟩|⟨h3,rfl⟩
     · exact h.dist i j f g o h2 h4 b e
     · intro a;have q:=(h.lt (gY h2) e).2;rcases a with a|a|a
       · simp only at a;omega
       · cases a
       · cases a
   · rcases c j g x with⟨h3,h4⟩|⟨h3,_⟩
     · intro a;have q:=(h.lt (gY h4) a).2;rcases e with e|e|e
       · simp only at e;omega
       · cases e
       · cases e
     · omega
theorem WH{f:I3}(a:qa'=f.qa\/∃ g,qa'=some g/\H<=g)(c:qb'=f.qb\/∃ g,qb'=some g/\H<=g){b:Nat}(h:(⟨f.p,qa',qb',z'⟩:I3).has b):f.has b\/H<=b:=by
 rcases h with h|h|h
 · exact Or.inl (Or.inl h)
 · rcases a with e|⟨g,e,d⟩
   · rw[show(⟨f.p,qa',qb',z'⟩:I3).qa=qa' from rfl,e]at h;exact Or.inl (Or.inr (Or.inl h))
   · rw[show(⟨f.p,qa',qb',z'⟩:I3).qa=qa' from rfl,e]at h;right;have:g=b:=by simpa using h
     omega
 · rcases c with e|⟨g,e,d⟩
   · rw[show(⟨f.p,qa',qb',z'⟩:I3).qb=qb' from rfl,e]at h;exact Or.inl (Or.inr (Or.inr h))
   · rw[show(⟨f.p,qa',qb',z'⟩:I3).qb=qb' from rfl,e]at h;right;have:g=b:=by simpa using h
     omega
theorem BZ.add(h:BZ w2 r Nb fs wr){i:Nat}{key:List Int}{f:I3}{a c:Option Nat}{o:Nat}{z:Int}(hi:fs[i]?=some (key,f))(I:B6 w' w2.heap.size f.p a c o z)(C:Kp (fun b=>f.has b) wr w')
 (G:a=f.qa\/∃ g,a=some g/\wr.heap.size<=g) (n:c=f.qb\/∃ g,c=some g/\wr.heap.size<=g) (H:Nb<=o):BZ w2 r o (fs.set i (key,⟨f.p,a,c,z⟩)) w':=by
 have v:=gY hi;have x:i<fs.length:=(ie.1 hi).1;have y:NG (fs.set i (key,⟨f.p,a,c,z⟩))=NG fs:=by
  unfold NG;rw[nO];apply kW;intro t;rw[lB];by_cases j:i=t
  · subst j;simp[x];have e:fs[i]=(key,f):=(ie.1 hi).2;rw[e];exact⟨rfl,rfl⟩
  · simp[j]
 have d:∀ (t:Nat) (g:List Int×I3),(fs.set i (key,(⟨f.p,a,c,z⟩:I3)))[t]?=some g->(t=i/\g=(key,⟨f.p,a,c,z⟩))\/(t≠i/\fs[t]?=some g):=by
  intro t g q;rw[lB]at q;by_cases j:i=t
  · subst j;simp[x]at q;exact Or.inl ⟨rfl,q.symm⟩
  · rw[pf j]at q;exact Or.inr ⟨fun e=>j e.symm,q⟩
 refine⟨C.ext h.ext (fun b n=>(h.lt v n).1),h.rge,?_,fun g q => ?_,fun s t B A m K j b k => ?_⟩
 · rw[y];exact h.map.of_block (C.block r h.map.lt (fun J=>h.ne v J rfl))
 · obtain⟨t,j⟩:=mY.1 q;rcases d t g j with⟨_,rfl⟩|⟨E,w⟩
   · exact I
   · have D:=h.dist t i g (key,f) E w hi;refine((h.sums g (gY w)).kp C ?_ ?_ ?_).le H
     · exact D _ (Or.inl rfl)
     · exact fun b n=>D b (Or.inr (Or.inl n))
     · exact fun b n=>D b (Or.inr (Or.inr n))
 · rcases d s B K with⟨rfl,rfl⟩|⟨L,h1⟩
   · rcases d t A j with⟨rfl,_⟩|⟨F,h2⟩
     · exact absurd rfl m
     · intro l;rcases WH G n k with h3|h3
       · exact h.dist s t (key,f) A m hi h2 b h3 l
       · have:=(h.lt (gY h2) l).2;omega
   · rcases d t A j with⟨rfl,rfl⟩|⟨F,h2⟩
     · intro l;rcases WH G n l with h3|h3
       · exact h.dist t s (key,f) B (fun e=>m e.symm) hi h1 b h3 k
       · have:=(h.lt (gY h1) k).2;omega
     · exact h.dist s t B A m h1 h2 b k
end
theorem WA{a b:Type}(g:a->b)(k:List Int):∀ (l:List (List Int×a)) (i:Nat),Pl.posK k i (l.map (fun f=>(f.1,g f.2)))=(Pl.posK k i l).map (fun p=>(p.1,g p.2))
 | [],_=>rfl
 | (k',v) :: r,i=>by
  simp only[iz,Pl.posK];by_cases h:k=k'
  · simp[h]
  · simp only[pf h];exact WA g k r (i+1)
theorem WB{a:Type}(k:List Int):∀ (l:List (List Int×a)) (j i:Nat) (v:a),Pl.posK k j l=some (i,v)->j<=i/\l[i-j]?=some (k,v)
 | [],_,_,_,h=>by simp[Pl.posK]at h
 | (k',x) :: r,j,i,v,h=>by
  unfold Pl.posK at h;by_cases hk:k=k'
  · rw[pq hk]at h;simp only[oQ,lA]at h;obtain⟨rfl,rfl⟩:=h;subst hk;simp
  · rw[pf hk]at h;obtain⟨h1,h2⟩:=WB k r (j+1) i v h;refine⟨by omega,?_⟩;rw[show i-j=(i-(j+1))+1 by omega];simpa using h2
theorem WE{a:Type}{k:List Int}:∀ {l:List (List Int×a)} {i:Nat},Pl.posK k i l=none->k ∉ l.map (·.1)
 | [],_,_=>by simp
 | (k',v) :: r,i,h=>by
  unfold Pl.posK at h;by_cases hk:k=k'
  · rw[pq hk]at h;cases h
  · rw[pf hk]at h;have:=WE h;simp[hk];simpa using this
theorem WN{a:Type}{k:List Int}{v:a}:∀ {l:List (List Int×a)} {i:Nat},Pl.posK k i l=none->Pl.posK k i (l ++ [(k,v)])=some (i+l.length,v)
 | [],i,_=>by simp[Pl.posK]
 | (k',x) :: r,i,h=>by
  unfold Pl.posK at h;by_cases hk:k=k'
  · rw[pq hk]at h;cases h
  · rw[pf hk]at h;rw[jW,Pl.posK,pf hk,WN h];simp;omega
theorem W7(fs:SF)(k:List Int):Pl.posK k 0 (lqF fs)=(Pl.posK k 0 fs).map (fun p=>(p.1,(p.2.z:Rat))):=by
 unfold lqF lzF;rw[lJ];exact WA (fun f:I3=>(f.z:Rat)) k fs 0
theorem WX{fs:SF}{k:List Int}:JK (.pointer none) (NG fs) k=match Pl.posK k 0 fs with | some p=>WR p.2.p | none => .pointer none:=by
 rw[PZ];unfold Pl.getK NG;rw[WA (fun f:I3=>WR f.p) k fs 0];cases Pl.posK k 0 fs <;> rfl
theorem WO{fs:SF}{f:I3}{x:Int}(a:(fs.map (·.1)).Nodup)(hp:Pl.posK key 0 fs=some (i,f))(e:List Int) :
 Pl.coef (lqF (fs.set i (key,⟨f.p,qa',qb',f.z+x⟩))) e=Pl.coef (lqF fs) e+Pl.coef [(key,(x:Rat))] e:=by
 have h1:Pl.posK key 0 (lqF fs)=some (i,(f.z:Rat)):=by rw[W7,hp];rfl
 have h2:lqF (fs.set i (key,⟨f.p,qa',qb',f.z+x⟩))=Pl.putK (lqF fs) key (Pl.getK 0 (lqF fs) key+(x:Rat)):=by
  have h3:Pl.getK 0 (lqF fs) key=(f.z:Rat):=by unfold Pl.getK;rw[h1];rfl
  rw[h3];unfold Pl.putK;rw[h1];unfold lqF lzF;rw[nO,nO,oc]
 rw[h2,Pl.coef_step (by rw[WM];exact a)]
theorem W8(fs:SF)(key:List Int)(p:Nat)(e:List Int):Pl.coef (lqF (fs ++ [(key,⟨p,none,none,0⟩)])) e=Pl.coef (lqF fs) e:=by
 unfold lqF lzF;rw[im,im,Pl.coef_app];have:Pl.coef (List.map (fun f:List Int×Int=>(f.1,(f.2:Rat))) (List.map (fun f:List Int×I3=>(f.1,f.2.z)) [(key,⟨p,none,none,0⟩)])) e=0:=by
  simp only[iz,jg,Pl.coef];split <;> grind
 rw[this]
 grind
def Ww(H0:Nat)(w4 wr:World):Prop:=w4.heap.size<=wr.heap.size/\∀ b,H0<=b->b<w4.heap.size->wr.heap[b]?=w4.heap[b]?
theorem Ww.refl(a:Nat)(w:World):Ww a w w:=⟨lrf _,fun _ _ _=>rfl⟩
theorem Ww.ext(h:Ww H0 w4 wr)(e:Ext wr w'):Ww H0 w4 w':=⟨oS h.1 e.size,fun b h1 h2=>(e.block (ph h2 h.1)).trans (h.2 b h1 h2)⟩
theorem Ww.kp{S:Nat->Prop}(h:Ww H0 w4 wr)(e:Kp S wr w')(a:∀ b,S b->b<H0\/w4.heap.size<=b):Ww H0 w4 w' :=
 ⟨oS h.1 e.size,fun b h1 h2=>(e.block b (ph h2 h.1) (fun x=>by have:=a b x;omega)).trans (h.2 b h1 h2)⟩
theorem Ww.arr(h:Ww H0 w4 wr)(a:Arr w4 g t cs)(b:H0<=g):Arr wr g t cs:=(h.2 g b a.lt).trans a
theorem Ww.wd{x:Nat}(h:Ww H0 w4 wr)(m:Wd w4 a n c x)(h4:Ext w2 w4)(k:Ext w2 wr)(l:0<n->∀ g,blk a=some g->H0<=g\/g<w2.heap.size):Wd wr a n c x:=by
 obtain⟨p,h1,h2⟩:=m;refine⟨p,?_,h2⟩;refine⟨Sl.len h1,Sl.cap h1,Sl.max h1,fun h0 => ?_⟩;obtain⟨b,o,rfl,f⟩:=Sl.rd h1 h0;refine⟨b,o,rfl,fun i j => ?_⟩;have h5:=f i j;have e:b<w4.heap.size:=iP w4 ⟨b,o+i,none⟩ h5;have d:wr.heap[b]?=w4.heap[b]?:=by
  rcases l h0 b rfl with h6|h6
  · exact h.2 b h6 e
  · rw[k.block h6,h4.block h6]
 rw[jT (w:=w4) d,h5]
def Gap(H0 H1:Nat)(fs:SF):Prop:=∀ f∈fs,∀ b,f.2.has b->b<H0\/H1<=b
theorem Gap.add{fs:SF}(h:Gap H0 H1 fs){i:Nat}{key:List Int}{f:I3}{a c:Option Nat}{l:Int}(hi:fs[i]?=some (key,f))(m:H1<=H)
 (j:a=f.qa\/∃ g,a=some g/\H<=g) (k:c=f.qb\/∃ g,c=some g/\H<=g):Gap H0 H1 (fs.set i (key,⟨f.p,a,c,l⟩)):=by
 intro g e b d;rcases iT e with e|rfl
 · exact h g e b d
 · rcases WH j k d with h3|h3
   · exact h _ (gY hi) b h3
   · right;omega
theorem Gap.new{fs:SF}(h:Gap H0 H1 fs){key:List Int}{p:Nat}(hp:H1<=p):Gap H0 H1 (fs ++ [(key,⟨p,none,none,0⟩)]):=by
 intro g c b a;rcases il.1 c with c|c
 · exact h g c b a
 · simp only[oZ]at c;subst c;rcases a with a|a|a
   · right;simp only at a;omega
   · cases a
   · cases a
def I4(w:World)(row:List Value)(z:Int):Prop:=∃ s a n c,row=Ab s a n c/\Hid (decide (z<0)=s)/\Wd w a n c z.natAbs
theorem I4.ext{w b:World}{row:List Value}{z:Int}(h:I4 w row z)(e:Ext w b):I4 b row z:=by
 obtain⟨s,a,n,c,h1,h2,h3⟩:=h;exact⟨s,a,n,c,h1,h2,h3.ext e⟩
theorem I4.keptU{w b:World}{row:List Value}{z:Int}{g:Nat}(h:I4 w row z)(d:NoU w g)(e:w.grownBy b (some g)):I4 b row z:=by
 obtain⟨s,a,n,c,h1,h2,h3⟩:=h;exact⟨s,a,n,c,h1,h2,h3.keptU d e⟩
theorem Mq:BT prog 83 (Ab false none 0 0) 2 32:=⟨by kernel_rfl,rfl,by omega⟩
theorem Rh(w:World)(base:Nat)(e:TypeId)(row:List Value)(k:Nat)(b:base<=w.heap.size)(a:row.length=k):AP (w.alloc (.cells row.toArray e)) base e k (some ⟨w.heap.size,0,none⟩) 1 1 [row]:=by
 refine⟨by simpa using a,?_⟩;have:=nI (base:=base) (e:=e) (size:=k) w row.toArray 1 b (by unfold maxLen;omega) (by simpa using a);simpa using this
theorem Ri(h1:Ext w w1)(h6:e.length=6)(k:CU w1 (Ah s a n c false b m d) q):Em (w1.alloc (.cells (Ap e s a n c b m d).toArray 92)) w.heap.size (some ⟨w1.heap.size,0,none⟩) 1 1 [(e,q)]:=by
 have f:=(Ext.refl w1).alloc (.cells (Ap e s a n c b m d).toArray 92);refine⟨[Ap e s a n c b m d],Rh w1 _ _ _ 10 h1.size (by rw[B8,h6]),fun g j => ?_,rfl,fun i l => ?_⟩
 · have:w1.heap.size=g:=by simpa[blk]using j
   subst this;exact(Arr.new w1 _ _).noU Bo
 · have:i=0:=by omega
   subst this;exact⟨s,a,n,c,b,m,d,rfl,h6,k.ext f⟩
def BH(q:Rat)(l:List Pl.Tm):List Pl.Tm:=if q=0 then []else l.map (fun t=>(t.1,t.2*q))
def NEn(e:List Int)(q:Rat)(v:Value)(w:World):Prop:=∃ s a n c b m d,v = .agg (Ap e s a n c b m d).toArray/\CU w (Ah s a n c false b m d) q
theorem NEn.x(e:List Int)(q:Rat):StX (NEn e q):=fun _ _ _ x ⟨s,a,n,c,b,m,d,h1,h2⟩=>⟨s,a,n,c,b,m,d,h1,h2.ext x⟩
theorem NH{l:List Pl.Tm}(hT:AV w)(h:BL w v q)(hL:BJ w A N C l)(hN:N<=1000000)(hq:Pl.RB 2400 q)(hl:∀ t∈l,Pl.RB 2400 t.2):Calls prog 121 #[v,.slice A N C] w (Ue w (BH q l)):=by
 obtain⟨_,rfl,s,a,n,c,b,m,d,rfl,HS,hx,hy⟩:=h;obtain⟨aO,hS,V,hR⟩:=hL;have HR:=qh hR;have az:=qh hl;have a8:=qh hq;have a1:=qh V;clear hR hl hq V
 go_enter func121,ntmps121
 go_upto_region 1 with(fail)
 refine AM ?_;intro w0 a3 F aM;have p0:=F.c 0 rfl;have p1:=F.c 1 rfl;have p2:=F.c 2 rfl;have p3:=F.c 3 rfl;have af:=qh (FV (w:=w0) (v := .agg #[.bool s,.slice a n c,.bool false,.slice b m d]) (q:=q) ⟨Ah s a n c false b m d,rfl,s,a,n,c,b,m,d,rfl,HS,hx.ext a3,hy.ext a3⟩ rfl);clear F aM
 go_wp2_with fail
 refine af.out.mono ?_;rintro e w1 ⟨rfl,H⟩;have p0:=H.cell p0;have p1:=H.cell p1;have p2:=H.cell p2;have p3:=H.cell p3;have I:=a3.trans H;clear af;by_cases D:q=0
 · rw[gX D];have HC:Hid (BH q l=[]):=qh (pq D);clear D;go_wp2;go_ret;rw[HC.out];exact⟨none,0,0,rfl,I,Em.nil _ _⟩
 · rw[pb D];have HC:Hid (BH q l=l.map (fun t=>(t.1,t.2*q))):=qh (pf D);clear D;have W:nuR (List.replicate N (Ap [0,0,0,0,0,0] false none 0 0 none 0 0)):=fun r hr u hu=>by rw[(ir.1 hr).2]at hu;exact Bo u hu
   go_upto_region 4 with(refine ED rfl rfl (by kernel_rfl) Cr rfl rfl (by omega) (by unfold maxLen;omega) ?_;intro w2 ac ab)
   have aL:w.heap.size<=w1.heap.size:=I.size;have J:=ac.mono aL;obtain⟨G,hG⟩:∃ G,w1.heap.size=G:=⟨_,rfl⟩;rw[hG]at J |-;clear ac;go_wp2
   go_loopw[15] (fun iv wr=>∃ (k:Nat) (rs:List (List Value)),iv = .int .i64 k/\k<=N/\Ext w1 wr/\AP wr w.heap.size 92 10 (some ⟨G,0,none⟩) N N rs/\nuR rs/\Hid (∀ i,i<k->BV wr (rs.getD i []) ((l.map (fun t=>(t.1,t.2*q))).getD i ([],0)))) (fun iv _=>N-(intOf iv).toNat)
   case atStart=>exact⟨0,_,rfl,oY _,ab,J,W,qh (fun i hi=>absurd hi (by omega))⟩
   case round =>
    clear J ab W;obtain⟨k,rs,rfl,hk,hE,hO,a6,Z⟩:=hrel;by_cases B:k<N
    · have a4:=hS.ext (I.trans hE);obtain⟨bb,aR,rfl,_⟩:=a4.rd (by omega);obtain⟨sx,ax,nx,cx,bx,mx,dx,K,h6,a7⟩:=HR.out k B;have HM:Hid ((l.map (fun t=>(t.1,t.2*q))).getD k ([],0)=((l.getD k ([],0)).1,(l.getD k ([],0)).2*q)):=qh (by simp[a1.out,B]);have a2:Hid (Pl.RB 2400 (l.getD k ([],0)).2):=qh (az.out _ (by simp[a1.out,B]));generalize l.getD k ([],0)=t at *
      obtain⟨te,tq⟩:=t;obtain⟨x0,x1,x2,x3,x4,x5,aa⟩:=Cs h6;simp only at aa K HM a7 a2;subst aa;have hY:=Arr.new wr 92 (Ap [0,0,0,0,0,0] false none 0 0 none 0 0)
      go_upto_region 7 with(first
       | (refine Bz rfl rfl Au rfl a4 B ?_;rw[K])
       | (refine Aa (vs:=(Ap [x0,x1,x2,x3,x4,x5] sx ax nx cx bx mx dx)) rfl rfl rfl rfl rfl Au hY rfl AY ?_;intro w3 j ae))
      have S:Ext wr w3:=((Ext.refl wr).alloc _).grownR ae (lrf _);have T:=hO.ext S;have ay:Hid (∀ i,i<k->BV w3 (rs.getD i []) ((l.map (fun t=>(t.1,t.2*q))).getD i ([],0))):=qh fun i hi=>(Z.out i hi).ext S;have o:=hE.trans S;have z:=I.trans o;have Y:=a7.ext z;have aA:=qh (T.len (by omega));have aE:=T.noU a6;clear hY ae hO hE S K h6 a4 Z a7;generalize wr.heap.size=X at *
      have c0:=j.c 0 rfl;have c1:=j.c 1 rfl;have c2:=j.c 2 rfl;have c3:=j.c 3 rfl;have c4:=j.c 4 rfl;have c5:=j.c 5 rfl;have c6:=j.c 6 rfl;have c7:=j.c 7 rfl;have c8:=j.c 8 rfl;have E:=j.c 9 rfl;have q0:=o.cell p0;have q1:=o.cell p1;have q2:=o.cell p2;have q3:=o.cell p3
      have aw:=fun(y:World) (hq:Ext w3 y)=>qh (TY ((hT.ext z).ext hq) (v := .agg #[.bool sx,.slice ax nx cx,.bool false,.slice bx mx dx]) (p:=tq) ⟨Ah sx ax nx cx false bx mx dx,rfl,Y.ext hq⟩ (v' := .agg #[.bool s,.slice a n c,.bool false,.slice b m d]) (q:=q) ⟨Ah s a n c false b m d,rfl,s,a,n,c,b,m,d,rfl,HS,(hx.ext z).ext hq,(hy.ext z).ext hq⟩ a2.out.1 a2.out.2 a8.out.1 a8.out.2);clear Y
      have a0:=fun(y:World) (f:Ext w3 y)=>qh (And.intro (f.cell c0) (And.intro (f.cell c1) (And.intro (f.cell c2) (And.intro (f.cell c3) (And.intro (f.cell c4) (And.intro (f.cell c5) (And.intro (f.cell c6) (And.intro (f.cell c7) (And.intro (f.cell c8) (And.intro (f.cell E) (And.intro (f.cell q0) (And.intro (f.cell q1) (And.intro (f.cell q2) (f.cell q3))))))))))))))
      refine Ac
       [hdS (some ⟨G,0,none⟩) N N,hdI k,hdP X 0,he (.agg #[.int .i64 x0,.int .i64 x1,.int .i64 x2,.int .i64 x3,.int .i64 x4,.int .i64 x5]),hdP X 6,he (.agg #[.bool sx,.slice ax nx cx,.bool false,.slice bx mx dx]),he (.agg #[.bool s,.slice a n c,.bool false,.slice b m d]),hp (fun v y=>NR (tq*q) v y),hp (fun v y=>NEn [x0,x1,x2,x3,x4,x5] (tq*q) v y)]
       ⟨NR.x _,NEn.x _ _,trivial⟩ ⟨?o0,?o1,?o2,?o3,?o4,?o5,?o6,?o7,?o8,trivial⟩ ?fin
      case o0 | o1=>exact omv
      case o2=>exact ofa (d:=0)
      case o4=>exact ofa (d:=6)
      case o5 | o6=>exact ol4
      case o3 =>
       refine Ao rfl fun ρ y f U h => ?_;have e0:_=_:=h.1;obtain⟨ak,al,am,an,ao,ap,aq,ar,au,av,ag,ah,ai,aj⟩:=(a0 y f).out;go_simp
      case o7 =>
       refine Ae rfl fun ρ y f U aF h => ?_;have e1:_=_:=h.2.1;have e2:_=_:=h.2.2.1;obtain⟨ak,al,am,an,ao,ap,aq,ar,au,av,ag,ah,ai,aj⟩:=(a0 y f).out;refine⟨85,#[.agg #[.bool sx,.slice ax nx cx,.bool false,.slice bx mx dx],.agg #[.bool s,.slice a n c,.bool false,.slice b m d]],by go_simp,((aw y f).out).mono ?_⟩;rintro e w' ⟨cs,rfl,aB,aJ⟩;exact⟨_,rfl,aB,cs,rfl,aJ⟩
      case o8 =>
       refine AR rfl ?_;intro ρ y hp f h;have U:=hp.const;have aF:=hp.func;have e0:_=_:=h.1;obtain⟨v1,e1,aP,rfl,r1⟩:=h.2.1;obtain⟨ak,al,am,an,ao,ap,aq,ar,au,av,ag,ah,ai,aj⟩:=(a0 y f).out;obtain⟨R,L,Q,E,M,P,O,rfl,z1,z2,z3⟩:=r1;have aI:(Ah R L Q E false M P O).toArray=#[.bool R,.slice L Q E,.bool false,.slice M P O]:=rfl;rw[aI]at e1
       refine⟨.agg #[.int .i64 x0,.int .i64 x1,.int .i64 x2,.int .i64 x3,.int .i64 x4,.int .i64 x5,.bool R,.slice L Q E,.bool false,.slice M P O],y,by go_simp,Ext.refl _,R,L,Q,E,M,P,O,rfl,R,L,Q,E,M,P,O,rfl,z1,z2,z3⟩
      case fin =>
       intro y f;rintro _ ⟨_,rfl,_⟩;rintro _ ⟨R,L,Q,E,M,P,O,rfl,aK⟩;change wpList _ _ _ _ _ _;simp only[A0];have aD:=T.ext f;have aN:(k:Int)<N:=by omega
       have aQ:(Ap [x0,x1,x2,x3,x4,x5] R L Q E M P O).toArray=#[.int .i64 x0,.int .i64 x1,.int .i64 x2,.int .i64 x3,.int .i64 x4,.int .i64 x5,.bool R,.slice L Q E,.bool false,.slice M P O]:=rfl
       go_wp2_with(refine Hk (vs:=Ap [x0,x1,x2,x3,x4,x5] R L Q E M P O) rfl rfl (by omega) Au rfl rfl rfl aD B rfl AY ?_;intro w4 aC a5)
       go_roundw
       case rel =>
        have ad:=aE.ext (T.lt (g:=G) rfl).2 f;refine⟨k+1,_,by go_num,by omega,(o.trans f).grownR a5 (by omega),aC,?_,qh fun i hi => ?_⟩
        · intro r hr u hu;rcases iT hr with h|h
          · exact a6 r h u hu
          · rw[h]at hu;exact Bo u hu
        · by_cases aG:i=k
          · subst aG;rw[HM.out,gqq,jH (by rw[aA.out];exact B)];exact BV.keptU ⟨R,L,Q,E,M,P,O,rfl,rfl,aK⟩ ad a5
          · rw[gqq,List.getElem?_set_ne (by omega),<-gqq];exact((ay.out i (by omega)).ext f).keptU ad a5
       case measure=>simp[intOf];omega
    · have aH:k=N:=by omega
      subst aH;go_wp2;go_ret;rw[HC.out];refine⟨_,k,k,rfl,I.trans hE,rs,hO,fun g hg => ?_,by simp[a1.out],Z.out⟩;have:G=g:=by simpa[blk]using hg
      subst this;exact hO.noU a6
def V4(sa sb:Nat)(s:Pl.Tm)(b:List Pl.Tm):List Pl.Tm:=b.map (fun t=>(Pl.plE s.1 t.1,((Pl.zsc s.2 sa*Pl.zsc t.2 sb:Int):Rat)))
theorem WT{a b:List Pl.Tm}(h:k<a.length):Pl.prodZ sa sb (a.take (k+1)) b=Pl.prodZ sa sb (a.take k) b ++ V4 sa sb (a.getD k ([],0)) b:=by
 unfold Pl.prodZ V4;rw[oW h,List.flatMap_append];simp[h]
theorem WY{s:Pl.Tm}{b:List Pl.Tm}(h:k<b.length):V4 sa sb s (b.take (k+1))=V4 sa sb s (b.take k) ++ [(Pl.plE s.1 (b.getD k ([],0)).1,((Pl.zsc s.2 sa*Pl.zsc (b.getD k ([],0)).2 sb:Int):Rat))]:=by
 unfold V4;rw[oW h,im];simp[h]
theorem Wv{a b:List Pl.Tm}:(Pl.prodZ sa sb a b).length=a.length*b.length:=by
 unfold Pl.prodZ
 induction a with
 | nil=>simp
 | cons t r ih=>rw[oI,iD,ih];simp[iy];omega
theorem W2{s:Pl.Tm}{b:List Pl.Tm}:(V4 sa sb s b).length=b.length:=by simp[V4]
theorem Wz{b:Nat}(c:Pl.RB b q)(a:k<P2 d):(Pl.zsc q k).natAbs<P2 (b+d):=by
 unfold Pl.zsc;rw[iq,pe];exact BF c.1 (oR (gM _ _) a)
def SmP(w2:World)(r:Nat)(p:List Pl.Tm)(wr:World):Prop:=∃ fs,BZ w2 r (300+40*p.length) fs wr/\Hid (∀ e,Pl.coef (lqF fs) e=Pl.coef p e)/\fs.length<=p.length
def SmI(w2 w4:World)(H0 r:Nat)(p:List Pl.Tm)(wr:World):Prop:=∃ fs,BZ w2 r (300+40*p.length) fs wr/\Hid (∀ e,Pl.coef (lqF fs) e=Pl.coef p e)/\fs.length<=p.length/\Hid (Gap H0 w4.heap.size fs)/\Hid (Ww H0 w4 wr)
theorem W3(h:CU w (Ah s a n c false b m d) q)(z:w.heap.size<=w'.heap.size):Wq (fun g=>g<w'.heap.size) (.agg (Ah s a n c false b m d).toArray):=by
 obtain⟨s1,A,K,E,C,I,G,e,_,h2,_⟩:=h;intro M B L F D J H p h0 g y;simp only[Ah,Ab,Value.agg.injEq,Array.mk.injEq,jW,iA,kX,pA,pk,iY,lh]at e p;obtain⟨_,⟨r,v,t⟩,_⟩:=e;obtain⟨_,⟨f,k,i⟩,_⟩:=p;subst f k i;subst r v t;obtain⟨N,h3,_⟩:=h2;obtain⟨l,o,rfl,x⟩:=h3.at (j:=0) h0;have:l=g:=by simpa[blk]using y
 subst this;exact ph (iP w ⟨l,o+0,none⟩ (x 0 h0)) z
theorem WI{x:Nat}(h:Wd w a n c x)(f:w.heap.size<=w'.heap.size):0<n->∀ g,blk a=some g->g<w'.heap.size:=by
 intro h0 g e;obtain⟨i,h3,_⟩:=h;obtain⟨b,o,rfl,d⟩:=h3.at (j:=0) h0;have:b=g:=by simpa[blk]using e
 subst this;exact ph (iP w ⟨b,o+0,none⟩ (d 0 h0)) f
def Kv(d:Nat)(fs:SF):List Pl.Tm:=(lzF fs).map (fun f=>(f.1,mkRat f.2 d))
theorem OV(d:Nat)(fs:SF):(Kv d fs).length=fs.length:=by simp[Kv,lzF]
theorem WF(d:Nat)(fs:SF):(Kv d fs).map (·.1)=fs.map (·.1):=by simp[Kv,lzF]
theorem W4{fs:SF}{f:List Int×I3}(h:fs[i]?=some f):(Kv d fs).getD i ([],0)=(f.1,mkRat f.2.z d):=by
 unfold Kv lzF;rw[gqq,oF,oF,h];rfl
theorem WU(a:Nat):P2 a<P2 (a+1):=by
 rw[DL];have:=Ha a;show P2 a<P2 a*2;omega
theorem W5{a b:List Pl.Tm}{fs:SF}(j:∀ t∈a,Pl.RB 1000 t.2)(k:∀ t∈b,Pl.RB 1000 t.2)(g:sa<P2 257)(i:sb<P2 257)(p:(fs.map (·.1)).Nodup)(l:∀ e,Pl.coef (lqF fs) e=Pl.coef (Pl.prodZ sa sb a b) e)(n:a.length*b.length<=1000000){f:List Int×I3}(m:f∈fs):f.2.z.natAbs<P2 2600:=by
 have h1:∀ t∈Pl.prodZ sa sb a b,∃ c:Int,t.2=(c:Rat)/\c.natAbs<=P2 2514:=by
  intro t d;unfold Pl.prodZ at d;obtain⟨s,q,d⟩:=List.mem_flatMap.1 d;obtain⟨u,hu,rfl⟩:=gT.1 d;refine⟨_,rfl,jc ?_⟩;rw[iq];exact Aj (BF (Wz (j s q) g) (Wz (k u hu) i)) (by omega)
 obtain⟨z,h2,h3⟩:=Pl.coef_int f.1 h1;have h4:Pl.coef (lqF fs) f.1=(f.2.z:Rat):=by
  have o:(f.1,(f.2.z:Rat))∈lqF fs:=gT.2 ⟨(f.1,f.2.z),gT.2 ⟨f,m,rfl⟩,rfl⟩;exact Pl.coef_mem (t:=(f.1,(f.2.z:Rat))) (by rw[WM];exact p) o
 have h5:f.2.z=z:=by
  rw[l,h2]at h4;exact(Rat.intCast_inj.1 h4).symm
 rw[h5];rw[Wv]at h3;have h6:a.length*b.length*P2 2514<=P2 20*P2 2514:=oO _ (oS n (by unfold P2;omega));rw[<-DL]at h6
 exact Aj (oR (oS h3 h6) (by
  exact WU _)) (by omega)
def NSl(e:List Int)(q:Rat)(v:Value)(w:World):Prop:=∃ Z s a n c b m d,v = .slice (some ⟨Z,0,none⟩) 1 1/\Arr w Z 92 (Ap e s a n c b m d)/\CU w (Ah s a n c false b m d) q
theorem NSl.x(e:List Int)(q:Rat):StX (NSl e q):=fun _ _ _ x ⟨Z,s,a,n,c,b,m,d,h1,h2,h3⟩=>⟨Z,s,a,n,c,b,m,d,h1,h2.ext x,h3.ext x⟩
def Xe(w w5:World)(r it g c:Nat)(l:List Pl.Tm)(v:Value)(wr:World):Prop :=
 ∃ seen n rows,v = .slice (some ⟨g,0,none⟩) n c/\Ext w5 wr/\A1 wr it r l.length seen/\seen.Nodup/\(∀ i∈seen,i<l.length)/\EL wr w.heap.size 92 10 g n c rows /\
  (Pl.picked l seen).length=n/\Hid (∀ i,i<n->BV wr (rows.getD i []) ((Pl.picked l seen).getD i ([],0)))
theorem Wx{la lb:List Pl.Tm}(hT:AV w)(bC:BJ w A N C la)(fp:BJ w B M D lb)(fS:AD w v (sa:Int))(fT:AD w v' (sb:Int))
 (ha:∀ t∈la,t.2.den∣sa) (hb:∀ t∈lb,t.2.den∣sb) (ej:sa≠0) (ek:sb≠0) (ba:∀ t∈la,Pl.RB 1000 t.2) (bb:∀ t∈lb,Pl.RB 1000 t.2) (eE:sa<P2 257) (eF:sb<P2 257) (ea:GQ la) (eb:GQ lb) (hN:N<=1000000) (hM:M<=1000000) (dW:N*M<=1000000) :
 Calls prog 159 #[.slice A N C,.slice B M D,v,v'] w (fun e w'=>∃ cW,Ue w cW e w'/\Pl.Nrm cW/\∀ e,Pl.coef cW e=Pl.coef (Pl.prodT la lb) e):=by
 obtain⟨s,a,n,c,rfl,HS,hx⟩:=fS;obtain⟨t,b,m,d,rfl,HT,hy⟩:=fT;obtain⟨gj,fu,ex,e5⟩:=bC;obtain⟨gl,e8,ey,e6⟩:=fp;have fc:=qh e5;have dI:=qh e6;have aD:=qh ex;have a3:=qh ey;have dC:=qh (And.intro ha hb);have dB:=qh ba;have ce:=qh bb;have f6:=qh ea;have f7:=qh eb;have aS:=qh eE;have b7:=qh eF;have bv:=qh (And.intro ej ek);clear e5 e6 ex ey ha hb ba bb ea eb eE eF ej ek
 go_enter func159,ntmps159
 go_upto_region 1 with(fail)
 refine Ch ?_;intro w0 bz cn co ao;have eK:=cn.c 0 rfl;have eL:=cn.c 1 rfl;have cX:=co.c 0 rfl;have cY:=co.c 1 rfl;clear cn co ao;have dt:nuR (List.replicate M (Ab false none 0 0)):=fun r hr u hu=>by rw[(ir.1 hr).2]at hu;exact At _ _ _ _ u hu
 go_upto_region 2 with(refine ED rfl rfl (by kernel_rfl) Mq rfl rfl (by omega) (by unfold maxLen;omega) ?_;intro w1 dX dQ)
 have c2:=dX.mono bz.size;obtain⟨R,hR⟩:∃ R,w0.heap.size=R:=⟨_,rfl⟩;rw[hR]at c2 |-;clear dX;go_wp2
 go_loopw[30] (fun iv wr=>∃ (k:Nat) (rs:List (List Value)),iv = .int .i64 k/\k<=M/\Ext w0 wr/\AP wr w.heap.size 83 2 (some ⟨R,0,none⟩) M M rs/\nuR rs/\Hid (∀ i,i<k->I4 wr (rs.getD i []) (Pl.zsc (lb.getD i ([],0)).2 sb))) (fun iv _=>M-(intOf iv).toNat)
 case atStart=>exact⟨0,_,rfl,oY _,dQ,c2,dt,qh (fun i hi=>absurd hi (by omega))⟩
 case round =>
  clear c2 dQ dt;obtain⟨k,rs,rfl,hk,hE,hO,cG,bt⟩:=hrel;by_cases a2:k<M
  · have a7:=e8.ext (bz.trans hE);obtain⟨bb,g0,rfl,_⟩:=a7.rd (by omega);obtain⟨sy,ay,ny,cy,b8,my,dy,U,h6,af⟩:=dI.out k a2;have aa:Hid (Pl.RB 1000 (lb.getD k ([],0)).2):=qh (ce.out _ (by simp[a3.out,a2]));obtain⟨tt,cI⟩:∃ tt,lb.getD k ([],0)=tt:=⟨_,rfl⟩;rw[cI]at U h6 af aa;have fh:=qh cI;clear cI;obtain⟨te,tq⟩:=tt;obtain⟨y0,y1,y2,y3,y4,y5,ab⟩:=Cs h6;simp only at ab U af aa;subst ab;have hY:=Arr.new wr 92 (Ap [0,0,0,0,0,0] false none 0 0 none 0 0)
    go_upto_region 5 with(first
     | (refine Bz rfl rfl Au rfl a7 a2 ?_;rw[U])
     | (refine Aa (vs:=Ap [y0,y1,y2,y3,y4,y5] sy ay ny cy b8 my dy) rfl rfl rfl rfl rfl Au hY rfl AY ?_;intro w3 aT en))
    have aE:Ext wr w3:=((Ext.refl wr).alloc _).grownR en (lrf _);have bD:=hO.ext aE;have f3:Hid (∀ i,i<k->I4 w3 (rs.getD i []) (Pl.zsc (lb.getD i ([],0)).2 sb)):=qh fun i hi=>(bt.out i hi).ext aE;have bl:=hE.trans aE;have dl:=bz.trans bl;have fe:=qh (bD.len (by omega));have fw:=bD.noU cG
    have f0:=qh (OJ (w:=w3) (v := .agg #[.bool sy,.slice ay ny cy,.bool false,.slice b8 my dy]) (q:=tq) ⟨Ah sy ay ny cy false b8 my dy,rfl,af.ext dl⟩ (v' := .agg #[.bool t,.slice b m d]) (k:=sb) ⟨t,b,m,d,rfl,HT,hy.ext dl⟩ (Aj aa.out.1 (by omega)) (Aj aa.out.2 (by omega)) (Aj b7.out (by omega)));have gz:=bl.cell cX;have gA:=bl.cell cY;clear hY en hO hE aE U h6 a7 bt af;generalize wr.heap.size=X at *
    have c0:=aT.c 0 rfl;have c6:=aT.c 6 rfl;have c7:=aT.c 7 rfl;have c8:=aT.c 8 rfl;have c9:=aT.c 9 rfl;clear aT
    go_wp2_with fail
    refine f0.out.mono ?_;rintro e w5 ⟨s5,a5,n5,c5,rfl,al,fg,cJ⟩;have fr:=bD.ext al;have ec:=fw.ext (bD.lt (g:=R) rfl).2 al;have gx:(Ab s5 a5 n5 c5).toArray=#[.bool s5,.slice a5 n5 c5]:=rfl
    go_wp2_with(refine Hk (vs:=Ab s5 a5 n5 c5) rfl rfl (by omega) Ak rfl rfl rfl fr a2 rfl (Ad _ _ _ _) ?_;intro w6 aH cD)
    go_roundw
    case rel =>
     refine⟨k+1,_,by go_num,by omega,(bl.trans al).grownR cD (by omega),aH,?_,qh fun i hi => ?_⟩
     · intro r hr u hu;rcases iT hr with h|h
       · exact cG r h u hu
       · rw[h]at hu;exact At _ _ _ _ u hu
     · by_cases er:i=k
       · subst er;rw[fh.out,gqq,jH (by rw[fe.out];exact a2)];exact I4.keptU ⟨s5,a5,n5,c5,rfl,fg,cJ⟩ ec cD
       · rw[gqq,List.getElem?_set_ne (by omega),<-gqq];exact((f3.out i (by omega)).ext al).keptU ec cD
    case measure=>simp[intOf];omega
  · have bG:k=M:=by omega
    subst bG;have aQ:=bz.trans hE;have ft:=hO.slk (by omega);have eT:R<wr.heap.size:=(hO.lt (g:=R) rfl).2;have eM:=hE.cell eK;have eN:=hE.cell eL;have g1:=hE.cell cX;have g2:=hE.cell cY;clear eK eL cX cY hE hO cG a2 hk;obtain⟨w2,rfl⟩:∃ x:World,x=wr:=⟨_,rfl⟩;have fd:=bt;clear bt
    go_upto_region 8 with(refine Sw rfl rfl ?_;intro w3 dU aE eW)
    have e7:BZ w2 w2.heap.size 300 [] w3:=⟨aE,lrf _,dU,(fun f hf=>by cases hf),(fun i j f g _ hf=>by simp at hf)⟩;clear dU aE eW;go_wp2
    go_loopw[46] (fun iv wr=>∃ i:Nat,iv = .int .i64 i/\i<=N/\SmP w2 w2.heap.size (Pl.prodZ sa sb (la.take i) lb) wr) (fun iv _=>N-(intOf iv).toNat)
    case atStart=>exact⟨0,rfl,oY _,[],e7,qh (fun e=>rfl),oY _⟩
    case round =>
     clear e7;obtain⟨i,rfl,hi,E,W,aB,aR⟩:=hrel;by_cases a2:i<N
     · have I:=W.ext;have a7:=fu.ext (aQ.trans I);obtain⟨bb,g0,rfl,_⟩:=a7.rd (by omega);obtain⟨sx,ax,nx,cx,bx,mx,dx,U,h6,af⟩:=fc.out i a2
       have aa:Hid (Pl.RB 1000 (la.getD i ([],0)).2/\∀ x∈(la.getD i ([],0)).1,0<=x/\x<=1099511627776):=qh (by
        have hm:la.getD i ([],0)∈la:=by simp[aD.out,a2]
        exact⟨dB.out _ hm,(f6.out _ hm).2⟩)
       have bu:=qh (WT (sa:=sa) (sb:=sb) (a:=la) (b:=lb) (k:=i) (by rw[aD.out];exact a2));generalize la.getD i ([],0)=ts at *
       obtain⟨te,tq⟩:=ts;obtain⟨J,K,L,O,Q,T,ab⟩:=Cs h6;simp only at ab U af aa;subst ab;obtain⟨pre,ci⟩:∃ p,Hid (Pl.prodZ sa sb (la.take i) lb=p):=⟨_,qh rfl⟩;have fb:Hid (pre.length=i*k):=qh (by rw[<-ci.out,Wv,a3.out,gO,aD.out,jn hi]);have er:i*k<=1000000:=oS (oO k hi) dW;have go:i*k+k<=1000000:=by
        have:(i+1)*k<=N*k:=oO k a2;rw[iy]at this;omega
       rw[ci.out]at aB aR W;rw[ci.out]at bu;have hY:=Arr.new wr 92 (Ap [0,0,0,0,0,0] false none 0 0 none 0 0)
       go_upto_region 11 with(first
        | (refine Bz rfl rfl Au rfl a7 a2 ?_;rw[U])
        | (refine Aa (vs:=Ap [J,K,L,O,Q,T] sx ax nx cx bx mx dx) rfl rfl rfl rfl rfl Au hY rfl AY ?_;intro w5 a1 bh))
       have al:Ext wr w5:=((Ext.refl wr).alloc _).grownR bh (lrf _);have bm:=I.trans al;have ah:=aQ.trans bm;have dK:=qh (Nf (S:=fun g=>g<w2.heap.size) (w:=w5) (v := .agg #[.bool sx,.slice ax nx cx,.bool false,.slice bx mx dx]) (q:=tq) ⟨Ah sx ax nx cx false bx mx dx,rfl,af.ext ah⟩ (v' := .agg #[.bool s,.slice a n c]) (k:=sa) ⟨s,a,n,c,rfl,HS,hx.ext ah⟩ (Aj aa.out.1.1 (by omega)) (Aj aa.out.1.2 (by omega)) (Aj aS.out (by omega)) (W3 af aQ.size) (ID (s:=s) (WI hx aQ.size)));have u00:=bm.cell eM;have u01:=bm.cell eN
       have eU:wr.heap.size<w5.heap.size:=a1.lt;have du:w2.heap.size<wr.heap.size:=W.map.lt;obtain⟨X,hX⟩:∃ x,wr.heap.size=x:=⟨_,rfl⟩;rw[hX]at a1 du;rw[hX];have d7:=a1.c 0 rfl;have g9:=a1.c 6 rfl;have ga:=a1.c 7 rfl;have gb:=a1.c 8 rfl;have gc:=a1.c 9 rfl;clear hY bh U h6 a7 af
       go_wp2_with fail
       refine dK.out.mono ?_;rintro e w6 ⟨s6,a6,n6,c6,rfl,aF,dJ,eH,el⟩;have bf:=Arr.new w6 83 (Ab false none 0 0);have fL:(Ab s6 a6 n6 c6).toArray=#[.bool s6,.slice a6 n6 c6]:=rfl
       go_upto_region 12 with(refine Aa (vs:=Ab s6 a6 n6 c6) rfl rfl rfl rfl rfl Ak bf rfl (Ad _ _ _ _) ?_;intro w7 dN eo)
       have bW:Ext w6 w7:=((Ext.refl w6).alloc _).grownR eo (lrf _);have aP:=aF.trans bW;have bY:=al.trans aP;have di:=I.trans bY;have fl:=a1.ext aP;have dp:=W.step bY;have eI:=eH.ext bW;have eZ:=aF.size;have de:Hid (Gap X w7.heap.size E):=qh (fun f hf b hb=>Or.inl (by have:=(W.lt hf hb).2;omega));have bT:Hid (0<n6->∀ g,blk a6=some g->X<=g\/g<w2.heap.size):=qh (fun h0 g hg=>(el h0 g hg).imp (fun h=>by omega) id)
       have dg:Hid (0<n6->∀ g,blk a6=some g->(X<=g/\g<w7.heap.size)\/g<w2.heap.size):=qh (fun h0 g hg=>(bT.out h0 g hg).imp (fun h=>⟨h,WI eI (lrf _) h0 g hg⟩) id);obtain⟨LB,dT⟩:∃ x,w6.heap.size=x:=⟨_,rfl⟩;rw[dT]at dN;rw[dT];have fo:X<=LB:=by omega
       have br:=qh (Wz aa.out.1 aS.out);clear bf eo fL dK al aF bW aP bY a1 u00 u01 d7 g9 ga gb gc bm ah W I eH eZ el eU;obtain⟨wo,rfl⟩:∃ x:World,x=wr:=⟨_,rfl⟩;go_wp2
       go_loopw[56] (fun iv wr=>∃ j:Nat,iv = .int .i64 j/\j<=k/\SmI w2 w7 X w2.heap.size (pre ++ V4 sa sb ([J,K,L,O,Q,T],tq) (lb.take j)) wr) (fun iv _=>k-(intOf iv).toNat)
       case atStart=>exact⟨0,rfl,oY _,E,by simpa[V4]using dp,by simpa[V4]using aB,by simpa[V4]using aR,de,qh (Ww.refl _ _)⟩
       case round =>
        clear dp de aB aR;obtain⟨j,rfl,hj,fs,be,HC,bg,HG,b4⟩:=hrel;by_cases am:j<k
        · have I:=be.ext;have a7:=e8.ext (aQ.trans I);obtain⟨gr,gp,rfl,_⟩:=a7.rd (by omega);obtain⟨sy,ay,ny,cy,b8,my,dy,U,h6,_⟩:=dI.out j am
          have dM:Hid (∀ x∈(lb.getD j ([],0)).1,0<=x/\x<=1099511627776):=qh (by
           have hm:lb.getD j ([],0)∈lb:=by simp[a3.out,am]
           exact(f7.out _ hm).2)
          have cf:Hid ((Pl.zsc (lb.getD j ([],0)).2 sb).natAbs<P2 (1000+257)):=qh (Wz (ce.out _ (by simp[a3.out,am])) b7.out);have cj:=qh (WY (sa:=sa) (sb:=sb) (s:=([J,K,L,O,Q,T],tq)) (b:=lb) (k:=j) (by rw[a3.out];exact am));obtain⟨sr,ar,nr,cr,eD,cl,bi⟩:=fd.out j am;obtain⟨b3,o3,e3,cA⟩:=(ft.ext I).rd (by omega);simp only[oQ,ic,iY]at e3;obtain⟨rfl,rfl⟩:=e3;have d2:=cA j am 0 (by omega);have d3:=cA j am 1 (by omega);rw[eD]at d2 d3
          have dz:wr.cell? ⟨R,j*2,none⟩=some (.bool sr):=by simpa[Ab]using d2
          have dA:wr.cell? ⟨R,j*2+1,none⟩=some (.slice ar nr cr):=by simpa[Ab]using d3
          generalize lb.getD j ([],0)=tt at *
          obtain⟨te,ty⟩:=tt;obtain⟨y0,y1,y2,y3,y4,y5,ab⟩:=Cs h6;simp only at ab U dM cj cf bi cl;subst ab;have ef:=b4.out.arr fl (lrf _);have bC:=b4.out.arr dN fo;have gw:=b4.out.1;clear d2 d3 cA eD;have hY:=Arr.new wr 92 (Ap [0,0,0,0,0,0] false none 0 0 none 0 0)
          go_upto_region 15 with(first
           | (refine Bz rfl rfl Au rfl a7 am ?_;rw[U])
           | (refine Aa (vs:=Ap [y0,y1,y2,y3,y4,y5] sy ay ny cy b8 my dy) rfl rfl rfl rfl rfl Au hY rfl AY ?_;intro w8 ak aI))
          have aG:Ext wr w8:=((Ext.refl wr).alloc _).grownR aI (lrf _);have az:=ef.ext aG;obtain⟨X2,ee⟩:∃ x,wr.heap.size=x:=⟨_,rfl⟩;rw[ee]at ak;rw[ee];have d7:=az.c 0 rfl;have gd:=ak.c 0 rfl;have g4:=az.c 1 rfl;have ge:=ak.c 1 rfl;have g5:=az.c 2 rfl;have gf:=ak.c 2 rfl;have g6:=az.c 3 rfl;have gg:=ak.c 3 rfl;have g7:=az.c 4 rfl;have gh:=ak.c 4 rfl;have g8:=az.c 5 rfl;have gi:=ak.c 5 rfl;have bS:=fun wx:World=>qh (WW (w:=wx) (xs:=[J,K,L,O,Q,T]) (ys:=[y0,y1,y2,y3,y4,y5]) rfl rfl aa.out.2 dM.out)
          have eu:Ce [J,K,L,O,Q,T] = .agg #[.int .i64 J,.int .i64 K,.int .i64 L,.int .i64 O,.int .i64 Q,.int .i64 T]:=rfl;have ev:Ce [y0,y1,y2,y3,y4,y5] = .agg #[.int .i64 y0,.int .i64 y1,.int .i64 y2,.int .i64 y3,.int .i64 y4,.int .i64 y5]:=rfl;have ew:Ce (Xa [J,K,L,O,Q,T] [y0,y1,y2,y3,y4,y5]) = .agg #[.int .i64 (J+y0),.int .i64 (K+y1),.int .i64 (L+y2),.int .i64 (O+y3),.int .i64 (Q+y4),.int .i64 (T+y5)]:=rfl;rw[eu,ev,ew]at bS;clear hY aI U h6 a7 ak az eu ev ew
          go_wp2_with fail
          refine(bS _).out.mono ?_;rintro e w9 ⟨rfl,ae⟩;have bF:=Arr.new w9 90 (ze.map (Value.int .i64))
          go_upto_region 16 with(refine Aa (vs:=[J+y0,K+y1,L+y2,O+y3,Q+y4,T+y5].map (Value.int .i64)) rfl rfl rfl rfl rfl Rd bF rfl (EN _) ?_;intro Z ag dq)
          have da:Ext w9 Z:=((Ext.refl w9).alloc _).grownR dq (lrf _);have aK:=(aG.trans ae).trans da;have aq:=be.step aK;have aV:=qh (b4.out.ext aK);have eB:=aK.cell dz;have eC:=aK.cell dA;have bQ:=bC.ext aK;have dv:=aK.size;obtain⟨Y,eh⟩:∃ x,w9.heap.size=x:=⟨_,rfl⟩;rw[eh]at ag;rw[eh];have bK:=ag.c 0 rfl;have bL:=ag.c 1 rfl;have bM:=ag.c 2 rfl;have bN:=ag.c 3 rfl;have bO:=ag.c 4 rfl;have bP:=ag.c 5 rfl;have l0:=bQ.c 0 rfl;have l1:=bQ.c 1 rfl;have aY:=aq.map
          have aL:=WX (fs:=fs) (k:=[J+y0,K+y1,L+y2,O+y3,Q+y4,T+y5])
          have bU:Hid (∀ e,Pl.coef (pre ++ V4 sa sb ([J,K,L,O,Q,T],tq) (lb.take j)) e+Pl.coef [([J+y0,K+y1,L+y2,O+y3,Q+y4,T+y5],((Pl.zsc tq sa*Pl.zsc ty sb:Int):Rat))] e=Pl.coef (pre ++ V4 sa sb ([J,K,L,O,Q,T],tq) (lb.take (j+1))) e):=qh (fun e=>by
           rw[cj.out,<-ia,Pl.coef_app _ [_]]
           rfl)
          have aW:Hid ((pre ++ V4 sa sb ([J,K,L,O,Q,T],tq) (lb.take (j+1))).length=(pre ++ V4 sa sb ([J,K,L,O,Q,T],tq) (lb.take j)).length+1):=qh (by rw[cj.out];simp;omega);have eV:(pre ++ V4 sa sb ([J,K,L,O,Q,T],tq) (lb.take j)).length<=1000000:=by
           rw[iD,fb.out,W2,gO];omega
          obtain⟨pj,fa⟩:∃ p,Hid (pre ++ V4 sa sb ([J,K,L,O,Q,T],tq) (lb.take j)=p):=⟨_,qh rfl⟩;rw[fa.out]at HC bg aq bU aW eV;have gq:=qh aq.nodup;have dw:=eI;clear bF dq ag be b4 aG ae da bS bC bQ ef dz dA I d7 gd g4 ge g5 gf g6 gg g7 gh g8 gi;cases aA:Pl.posK [J+y0,K+y1,L+y2,O+y3,Q+y4,T+y5] 0 fs with
          | none =>
           rw[aA]at aL;have bG:=WE aA;have aj:=qh (WN (v:=(⟨Z.heap.size,none,none,0⟩:I3)) aA);have hZ:=Arr.new Z 224 (JE none 0 0 none 0 0);have V:=(Ext.refl Z).alloc (.cells (JE none 0 0 none 0 0).toArray 224);have c1:=aY.ext V
           go_upto_region 17 with(refine WG (k:=[J+y0,K+y1,L+y2,O+y3,Q+y4,T+y5]) rfl rfl UF Ct WL rfl rfl aY rfl ?_;simp only[lT,mI];rw[aL])
           have fJ:(JE none 0 0 none 0 0).toArray=#[.slice none 0 0,.slice none 0 0]:=rfl;rw[fJ]at V c1 hZ
           go_upto_region 19 with(fail)
           generalize Z.alloc (.cells #[.slice none 0 0,.slice none 0 0] 224)=eO at *
           have bK:=V.cell bK;have bL:=V.cell bL;have bM:=V.cell bM;have bN:=V.cell bN;have bO:=V.cell bO;have bP:=V.cell bP
           go_upto_region 20 with(refine Vf rfl (Or.inl rfl) UF Ct (k:=[J+y0,K+y1,L+y2,O+y3,Q+y4,T+y5]) (v:=WR Z.heap.size) rfl rfl rfl c1 rfl ?_;intro H dm cb)
           have F:=aq.new bG V hZ (lrf _) dm cb;have aJ:Kp (fun b=>b=w2.heap.size) Z H:=(Kp.ofExt V).trans (Kp.ofGrown cb (S:=fun b=>b=w2.heap.size) (fun g hg=>by simpa using hg.symm)) (fun _ _ h=>h);have aN:Hid (Ww X w7 H):=qh (aV.out.kp aJ (fun b hb=>Or.inl (by rw[hb];exact du)));have a8:=qh (HG.out.new (key:=[J+y0,K+y1,L+y2,O+y3,Q+y4,T+y5]) (p:=Z.heap.size) (by omega))
           have bs:Hid (∀ e,Pl.coef (lqF (fs ++ [([J+y0,K+y1,L+y2,O+y3,Q+y4,T+y5],⟨Z.heap.size,none,none,0⟩)])) e=Pl.coef pj e):=qh (fun e=>by rw[W8];exact HC.out e);have gu:R<w2.heap.size:=eT;have eB:=aJ.cell eB (by show ¬ R=w2.heap.size;omega);have eC:=aJ.cell eC (by show ¬ R=w2.heap.size;omega);have l0:=aJ.cell l0 (by show ¬ LB=w2.heap.size;omega);have l1:=aJ.cell l1 (by show ¬ LB=w2.heap.size;omega);have bp:(fs ++ [([J+y0,K+y1,L+y2,O+y3,Q+y4,T+y5],(⟨Z.heap.size,none,none,0⟩:I3))]).length<=pj.length+1:=by simp;omega
           have cc:w7.heap.size<=H.heap.size:=aN.out.1;obtain⟨bc,aC⟩:∃ f,Hid (fs ++ [([J+y0,K+y1,L+y2,O+y3,Q+y4,T+y5],(⟨Z.heap.size,none,none,0⟩:I3))]=f):=⟨_,qh rfl⟩;obtain⟨ix,dF⟩:∃ x,Hid (0+fs.length=x):=⟨_,qh rfl⟩;rw[aC.out]at F a8 bs bp aj;rw[dF.out]at aj;have eY:WR Z.heap.size = .pointer (some ⟨Z.heap.size,0,none⟩):=rfl;obtain⟨sf,cH⟩:∃ f:I3,f=⟨Z.heap.size,none,none,0⟩:=⟨_,rfl⟩;rw[<-cH]at aj;have fN:Z.heap.size=sf.p:=by rw[cH]
           rw[fN]at *
           clear aY c1 dm cb hZ V aL bG aA cH eY aJ aV HG HC bg aq bK bL bM bN bO bP aC dF dv;have ad:=(WB _ bc 0 ix sf aj.out).2;rw[mw]at ad;have G:=gY ad;have aw:=F.ext;have cK:Wd H a6 n6 c6 (Pl.zsc tq sa).natAbs:=aN.out.wd dw di aw bT.out;have cL:=bi.ext aw
           have ck:=qh (JF (w:=H.drew) (base:=w2.heap.size) (p:=sf.p) (z:=sf.z) ((F.sums _ G).ext (Ext.refl H).drew) (v := .agg #[.bool s6,.slice a6 n6 c6]) (x:=Pl.zsc tq sa) ⟨s6,a6,n6,c6,rfl,dJ,cK.ext (Ext.refl H).drew⟩ (v' := .agg #[.bool sr,.slice ar nr cr]) (y:=Pl.zsc ty sb) ⟨sr,ar,nr,cr,rfl,cl,cL.ext (Ext.refl H).drew⟩
            (ID (s:=s6) fun h0 g hg=>by
             have bR:=dg.out h0 g hg;refine⟨fun hq => ?_,fun hq => ?_⟩
             · have h1:=F.lt G (b:=g) (Or.inr (Or.inl hq));have h2:=a8.out _ G g (Or.inr (Or.inl hq));omega
             · have h1:=F.lt G (b:=g) (Or.inr (Or.inr hq));have h2:=a8.out _ G g (Or.inr (Or.inr hq))
               omega)
            (ID (s:=sr) fun h0 g hg=>by
             have bR:=WI bi (lrf _) h0 g hg;refine⟨fun hq => ?_,fun hq => ?_⟩
             · have h1:=F.lt G (b:=g) (Or.inr (Or.inl hq));omega
             · have h1:=F.lt G (b:=g) (Or.inr (Or.inr hq))
               omega)
            (Aj br.out (by omega)) (Aj cf.out (by omega)) (Or.inl (Aj br.out (by omega))) (by omega) (by have:=aw.size;exact this))
           have fI:(j:Int)<k:=by omega
           go_still_tail 6,(by kernel_rfl)
           change wpList _ _ _ _ _ H.drew
           go_wp2_with fail
           refine ck.out.mono ?_;rintro e d6 ⟨rfl,cZ,d1,h1,h2,h3,h4⟩;have cB:H.drew.heap.size=H.heap.size:=rfl;rw[cB]at h3 h4;have bd:Kp (fun b=>sf.has b) H d6:=⟨h2.os,h2.tape,h2.output,h2.size,h2.block⟩;go_wp2;go_roundw
           case rel =>
            refine⟨j+1,by go_num,by omega,bc.set ix ([J+y0,K+y1,L+y2,O+y3,Q+y4,T+y5],⟨sf.p,cZ,d1,sf.z+Pl.zsc tq sa*Pl.zsc ty sb⟩),?_,qh fun e => ?_,?_,qh (a8.out.add ad cc h3 h4),qh (aN.out.kp bd (fun b hb=>a8.out _ G b hb))⟩
            · have h5:=F.add ad h1 bd h3 h4 (by omega);refine h5.le ?_;rw[aW.out];omega
            · rw[WO F.nodup aj.out,bs.out,bU.out]
            · rw[oh,aW.out];exact bp
           case measure=>simp[intOf];omega
          | some pr =>
           obtain⟨ix,sf⟩:=pr;rw[aA]at aL;have d8:JK (.pointer none) (NG fs) [J+y0,K+y1,L+y2,O+y3,Q+y4,T+y5] = .pointer (some ⟨sf.p,0,none⟩):=aL
           go_upto_region 17 with(refine WG (k:=[J+y0,K+y1,L+y2,O+y3,Q+y4,T+y5]) rfl rfl UF Ct WL rfl rfl aY rfl ?_;simp only[lT,mI];rw[d8])
           have aj:=qh aA;have bs:=HC;have a8:=HG;have F:=aq;have aN:=aV;have bp:fs.length<=pj.length+1:=by omega
           have cc:w7.heap.size<=Z.heap.size:=aV.out.1;obtain⟨H,rfl⟩:∃ x:World,x=Z:=⟨_,rfl⟩;obtain⟨bc,rfl⟩:∃ x,x=fs:=⟨_,rfl⟩;clear aY aL d8 aA aV HG HC bg aq bK bL bM bN bO bP dv
           go_wp2_with fail
           have ad:=(WB _ bc 0 ix sf aj.out).2;rw[mw]at ad;have G:=gY ad;have aw:=F.ext;have cK:Wd H a6 n6 c6 (Pl.zsc tq sa).natAbs:=aN.out.wd dw di aw bT.out;have cL:=bi.ext aw
           have ck:=qh (JF (w:=H.drew) (base:=w2.heap.size) (p:=sf.p) (z:=sf.z) ((F.sums _ G).ext (Ext.refl H).drew) (v := .agg #[.bool s6,.slice a6 n6 c6]) (x:=Pl.zsc tq sa) ⟨s6,a6,n6,c6,rfl,dJ,cK.ext (Ext.refl H).drew⟩ (v' := .agg #[.bool sr,.slice ar nr cr]) (y:=Pl.zsc ty sb) ⟨sr,ar,nr,cr,rfl,cl,cL.ext (Ext.refl H).drew⟩
            (ID (s:=s6) fun h0 g hg=>by
             have bR:=dg.out h0 g hg;refine⟨fun hq => ?_,fun hq => ?_⟩
             · have h1:=F.lt G (b:=g) (Or.inr (Or.inl hq));have h2:=a8.out _ G g (Or.inr (Or.inl hq));omega
             · have h1:=F.lt G (b:=g) (Or.inr (Or.inr hq));have h2:=a8.out _ G g (Or.inr (Or.inr hq))
               omega)
            (ID (s:=sr) fun h0 g hg=>by
             have bR:=WI bi (lrf _) h0 g hg;refine⟨fun hq => ?_,fun hq => ?_⟩
             · have h1:=F.lt G (b:=g) (Or.inr (Or.inl hq));omega
             · have h1:=F.lt G (b:=g) (Or.inr (Or.inr hq))
               omega)
            (Aj br.out (by omega)) (Aj cf.out (by omega)) (Or.inl (Aj br.out (by omega))) (by omega) (by have:=aw.size;exact this))
           have fI:(j:Int)<k:=by omega
           go_still_tail 6,(by kernel_rfl)
           change wpList _ _ _ _ _ H.drew
           go_wp2_with fail
           refine ck.out.mono ?_;rintro e d6 ⟨rfl,cZ,d1,h1,h2,h3,h4⟩;have cB:H.drew.heap.size=H.heap.size:=rfl;rw[cB]at h3 h4;have bd:Kp (fun b=>sf.has b) H d6:=⟨h2.os,h2.tape,h2.output,h2.size,h2.block⟩;go_wp2;go_roundw
           case rel =>
            refine⟨j+1,by go_num,by omega,bc.set ix ([J+y0,K+y1,L+y2,O+y3,Q+y4,T+y5],⟨sf.p,cZ,d1,sf.z+Pl.zsc tq sa*Pl.zsc ty sb⟩),?_,qh fun e => ?_,?_,qh (a8.out.add ad cc h3 h4),qh (aN.out.kp bd (fun b hb=>a8.out _ G b hb))⟩
            · have h5:=F.add ad h1 bd h3 h4 (by omega);refine h5.le ?_;rw[aW.out];omega
            · rw[WO F.nodup aj.out,bs.out,bU.out]
            · rw[oh,aW.out];exact bp
           case measure=>simp[intOf];omega
        · have fH:j=k:=by omega
          subst fH;go_wp2;go_roundw
          case rel =>
           refine⟨i+1,by go_num,by omega,fs,?_,?_,?_⟩
           · rw[bu.out];rw[oL (by rw[a3.out];exact lrf _)]at be;exact be
           · rw[bu.out];rw[oL (by rw[a3.out];exact lrf _)]at HC;exact HC
           · rw[bu.out];rw[oL (by rw[a3.out];exact lrf _)]at bg;exact bg
          case measure=>simp[intOf];omega
     · have fD:i=N:=by omega
       subst fD;rw[oL (by rw[aD.out];exact lrf _)]at W aB aR;have fA:E.length<=1000000:=by rw[Wv,aD.out,a3.out]at aR;omega
       have fq:300+40*(Pl.prodZ sa sb la lb).length<=100000000:=by rw[Wv,aD.out,a3.out];omega
       have f2:Hid (∀ f∈E,f.2.z.natAbs<P2 2600):=qh (fun f hf=>W5 dB.out ce.out aS.out b7.out W.nodup aB.out (by rw[aD.out,a3.out];exact dW) hf);have I:=W.ext;have bZ:=aQ.trans I;have u00:=I.cell eM;have u01:=I.cell eN;have u10:=I.cell g1;have u11:=I.cell g2;have ch:=qh (Ci (w:=wr) (v := .agg #[.bool s,.slice a n c]) (z:=(sa:Int)) ⟨s,a,n,c,rfl,HS,hx.ext bZ⟩ (v' := .agg #[.bool t,.slice b m d]) (y:=(sb:Int)) ⟨t,b,m,d,rfl,HT,hy.ext bZ⟩ (Aj aS.out (by omega)) (Aj b7.out (by omega)) (Or.inl (Aj aS.out (by omega))))
       rw[<-gH]at ch;have dP:sa*sb<P2 (257+257):=BF aS.out b7.out;have cq:sa*sb≠0:=mW bv.out.1 bv.out.2;have f5:=qh dP;clear dP
       go_wp2_with fail
       refine ch.out.mono ?_;rintro e w4 ⟨s4,a4,n4,c4,rfl,ct,ff,eG⟩;have bf:=Arr.new w4 83 (Ab false none 0 0);have fK:(Ab s4 a4 n4 c4).toArray=#[.bool s4,.slice a4 n4 c4]:=rfl
       go_upto_region 24 with(refine Aa (vs:=Ab s4 a4 n4 c4) rfl rfl rfl rfl rfl Ak bf rfl (Ad _ _ _ _) ?_;intro w5 a1 bh)
       have bn:Ext w4 w5:=((Ext.refl w4).alloc _).grownR bh (lrf _);have ai:=W.step (ct.trans bn);have ah:=bZ.trans (ct.trans bn);have cJ:=eG.ext bn;obtain⟨DB,dh⟩:∃ x,w4.heap.size=x:=⟨_,rfl⟩;rw[dh]at a1;rw[dh];have aM:(NG E).length=E.length:=by simp[NG]
       have ez:=P4 (P:=prog) (ty:=3) UF ai.map;rw[aM]at ez;have f4:=aB;clear bf bh fK ct bn eG W u00 u01 u10 u11 ch aB aR
       go_upto_region 25 with(refine PN (n:=E.length) rfl rfl (by kernel_rfl) Cr Bo rfl rfl (by omega) (by unfold maxLen;omega) ?_;intro w6 aH aF)
       have dV:=ai.map.ext aF
       go_upto_region 26 with(refine Sx rfl rfl UF rfl dV ?_;intro w7 bB bA eX)
       have aP:=aF.trans bA;rw[aM,<-OV (sa*sb)]at bB;have bE:EL w7 w.heap.size 92 10 w5.heap.size 0 E.length []:=⟨(aH.1.mono ah.size).ext bA,aH.2.ext aH.lt.2 bA⟩;have ep:w5.heap.size<w6.heap.size:=aH.lt.2;have gy:=ah.size;obtain⟨g,fC⟩:∃ x,w5.heap.size=x:=⟨_,rfl⟩;obtain⟨it,fF⟩:∃ x,w6.heap.size=x:=⟨_,rfl⟩;rw[fC]at bE ep |-;rw[fF]at bB ep |-;obtain⟨MM,cw⟩:∃ x,E.length=x:=⟨_,rfl⟩;rw[cw]at bE fA |-;have f9:=qh cw;clear aH aF bA dV ez eX cw
       go_frame
       go_loopw[21] (fun v wr=>Xe w w5 w2.heap.size it g MM (Kv (sa*sb) E) v wr) (fun _ wr=>(Kv (sa*sb) E).length-OU wr it)
       case atStart=>exact⟨[],0,[],rfl,aP,bB,by simp,by simp,bE,rfl,qh (fun i hi=>absurd hi (by omega))⟩
       case round =>
        clear aP bB bE;obtain⟨o,NN,b1,rfl,hE,hI,bI,bH,hO,eA,cg⟩:=hrel;have gn:NN<=o.length/\o.length<=(Kv (sa*sb) E).length:=by
         have h1:=Pl.picked_len (Kv (sa*sb) E) o;have h2:=Pl.seen_len bI bH;omega
        have aO:=qh eA;clear eA;have cz:=ai.map.ext hE;have cu:A1 wr it w2.heap.size (NG E).length o:=by rw[aM,<-OV (sa*sb)];exact hI
        by_cases c3:∀ i,i<(NG E).length->i∈o
        · have db:=Pl.picked_perm bI bH (fun i hi=>c3 i (by rw[aM,<-OV (sa*sb)];exact hi));have dH:=qh db
          have dG:Hid (((Kv (sa*sb) E).map (·.1)).Nodup/\∀ t∈Kv (sa*sb) E,t.1.length=6):=qh (by
           refine⟨by rw[WF];exact ai.nodup,fun t ht => ?_⟩;have h1:t.1∈(NG E).map (·.1):=by rw[Wy,<-WF (sa*sb)];exact jl ht
           obtain⟨p,hp,e⟩:=gT.1 h1;rw[<-e]
           exact ai.map.six p hp)
          clear db
          go_wp2_with(refine Px rfl rfl rfl cz cu (fun _ => ?_) (fun i _ _ _ h1 h2 _ _ _=>absurd (c3 i h1) h2))
          go_ret;refine⟨Pl.picked (Kv (sa*sb) E) o,⟨_,NN,MM,rfl,ah.trans hE,b1,hO.1,fun g' fB => ?_,aO.out,cg.out⟩,(Pl.Nrm.filter dG.out.2 dG.out.1).perm dH.out.symm,fun e => ?_⟩
          · have:g=g':=by simpa[blk]using fB
            subst this;exact hO.2
          · rw[Pl.coef_perm dH.out,Pl.coef_nz];exact Pl.coef_done dC.out.1 dC.out.2 bv.out.1 bv.out.2 f4.out e
        · have e9:OU wr it=o.length:=I0 hI;have fR:=hE.size;have e4:=IZ hO.1 hI;have dS:=hI.noU;have gm:=hI.lt
          go_upto_region 27 with(refine Px rfl rfl rfl cz cu (fun h=>absurd h c3) ?_;intro ii kk v w8 fE es an dR aI)
          have aZ:=an;unfold NG at an;rw[oF]at an;cases aU:E[ii]? with
          | none=>rw[aU]at an;cases an
          | some f =>
           rw[aU]at an;simp only[jm,oQ,lA]at an;obtain⟨rfl,rfl⟩:=an;have cC:=gY aU;have b5:=qh (W4 (d:=sa*sb) aU);have cE:f.1.length=6:=ai.map.six _ (gY aZ);have aG:Ext w5 w8:=hE.grownR aI (by omega);have dn:=ai.map.ext aG;have dY:=hO.kept aI (by simpa using e4);have dc:Hid (∀ i,i<NN->BV w8 (b1.getD i []) ((Pl.picked (Kv (sa*sb) E) o).getD i ([],0))):=qh (fun i hi=>(cg.out i hi).keptU dS aI)
           have ap:Hid ((o ++ [ii]).Nodup/\(∀ j∈o ++ [ii],j<(Kv (sa*sb) E).length)/\o.length<(Kv (sa*sb) E).length):=qh (by
            have eq:ii<(Kv (sa*sb) E).length:=by rw[OV,<-aM];exact fE
            refine⟨oE.2 ⟨bI,by simp,fun x hx y hy=>by simp only[oZ]at hy;subst hy;rintro rfl;exact es hx⟩,fun j hj => ?_,?_⟩
            · rcases il.1 hj with hj|hj
              · exact bH j hj
              · simp only[oZ]at hj;subst hj;exact eq
            · have:=Pl.seen_len (n:=(Kv (sa*sb) E).length) (kS.2 ⟨es,bI⟩) (fun x hx=>by
               rcases gV.1 hx with rfl|hx
               · exact eq
               · exact bH x hx)
              simp at this
              omega)
           have b2:Hid (A1 w8 it w2.heap.size (Kv (sa*sb) E).length (o ++ [ii])):=qh (by rw[OV,<-aM];exact dR);have cm:Hid (f.2.z.natAbs<P2 2600):=qh (f2.out f cC);have bj:=fun(wx:World) (hC:Ext w8 wx)=>qh (QG ((ai.sums f cC).ext (aG.trans hC)) fq);obtain⟨fk,fv⟩:=f;simp only at cE cm bj b5 aU aZ;obtain⟨J,K,L,O,Q,T,ab⟩:=Cs cE;subst ab;obtain⟨vp,gB,gC,vz⟩:=fv;simp only at cm bj b5 aU aZ;have ei:=Arr.new w8 90 (ze.map (Value.int .i64));clear cg hE hO hI cu cz aI dS cE fR e4 cC
           go_upto_region 28 with(first
            | (refine Sy rfl rfl rfl dn dR aZ ?_)
            | (refine Aa (vs:=[J,K,L,O,Q,T].map (Value.int .i64)) rfl rfl rfl rfl rfl Rd ei rfl (EN _) ?_;intro g3 bV dr))
           have ac:Ext w8 g3:=((Ext.refl w8).alloc _).grownR dr (lrf _);obtain⟨Y,bF⟩:∃ x,w8.heap.size=x:=⟨_,rfl⟩;rw[bF]at bV |-;clear ei dr dn aZ
           go_wp2_with fail
           refine(bj _ ac).out.mono ?_;rintro e bJ ⟨sv,av,nv,cv,rfl,bX,dL,eJ⟩;have eg:=Arr.new bJ 83 (Ab false none 0 0);have fM:(Ab sv av nv cv).toArray=#[.bool sv,.slice av nv cv]:=rfl
           go_upto_region 29 with(refine Aa (vs:=Ab sv av nv cv) rfl rfl rfl rfl rfl Ak eg rfl (Ad _ _ _ _) ?_;intro eP bk ds)
           have bo:Ext bJ eP:=((Ext.refl bJ).alloc _).grownR ds (lrf _);obtain⟨VB,fx⟩:∃ x,bJ.heap.size=x:=⟨_,rfl⟩;rw[fx]at bk |-;have dj:=(ac.trans bX).trans bo;have dO:=(bV.ext bX).ext bo;have cd:=eJ.ext bo;have d4:=bk.c 0 rfl;have d5:=bk.c 1 rfl;have et:=qh (Az (w:=eP) (v := .agg #[.bool sv,.slice av nv cv]) (z:=vz) ⟨sv,av,nv,cv,rfl,dL,cd⟩ rfl);clear eg ds fM bV bj ac bX bo eJ
           go_wp2_with fail
           refine et.out.mono ?_;rintro e w9 ⟨rfl,ae⟩;have ac:=dj.trans ae;have aX:=aG.trans ac;have dk:=ah.trans aX;have dZ:=dY.ext ac;have dd:Hid (∀ i,i<NN->BV w9 (b1.getD i []) ((Pl.picked (Kv (sa*sb) E) o).getD i ([],0))):=qh (fun i hi=>(dc.out i hi).ext ac);have b2:Hid (A1 w9 it w2.heap.size (Kv (sa*sb) E).length (o ++ [ii])):=qh (b2.out.ext ac);have au:=dO.ext ae;have d4:=ae.cell d4;have d5:=ae.cell d5;have cp:=a1.ext aX;have fi:=cp.c 0 rfl;have fj:=cp.c 1 rfl;have fU:=au.c 0 rfl;have fV:=au.c 1 rfl
           have fW:=au.c 2 rfl;have fX:=au.c 3 rfl;have fY:=au.c 4 rfl;have fZ:=au.c 5 rfl;have f8:=fun(wx:World) (hC:Ext w9 wx)=>qh (GE ((hT.ext dk).ext hC) (v := .agg #[.bool sv,.slice av nv cv]) (x:=vz) ⟨sv,av,nv,cv,rfl,dL,(cd.ext ae).ext hC⟩ (v' := .agg #[.bool s4,.slice a4 n4 c4]) (k:=sa*sb) ⟨s4,a4,n4,c4,rfl,ff,(cJ.ext aX).ext hC⟩ (Aj cm.out (by omega)) (Aj f5.out (by omega)) cq);clear et dj ae dO au cp bk dY dc ac cd;by_cases ao:vz=0
           · rw[gX ao];have b6:Hid (Pl.picked (Kv (sa*sb) E) (o ++ [ii])=Pl.picked (Kv (sa*sb) E) o):=qh (by rw[Pl.picked_snoc,pq (by rw[b5.out];exact(Pl.mkRat_zero cq).2 ao)]);clear ao;go_wp2;go_roundw
             case rel=>exact⟨o ++ [ii],NN,b1,rfl,aX,b2.out,ap.out.1,ap.out.2.1,dZ,by rw[b6.out];exact aO.out,by rw[b6.out];exact dd⟩
             case measure =>
              have e1:=I0 b2.out;have e2:=ap.out.2.2;rw[e9,e1];simp;omega
           · rw[pb ao];have b6:Hid (Pl.picked (Kv (sa*sb) E) (o ++ [ii])=Pl.picked (Kv (sa*sb) E) o ++ [([J,K,L,O,Q,T],mkRat vz (sa*sb))]):=qh (by rw[Pl.picked_snoc,pf (by rw[b5.out];exact fun h=>ao ((Pl.mkRat_zero cq).1 h)),b5.out]);have gt:NN<MM:=by have h1:=ap.out.2.2;have h2:=f9.out;rw[OV]at h1;omega
             clear ao;go_wp2;have aC:=fun(wx:World) (hC:Ext w9 wx)=>qh (And.intro (hC.cell fU) (And.intro (hC.cell fV) (And.intro (hC.cell fW) (And.intro (hC.cell fX) (And.intro (hC.cell fY) (And.intro (hC.cell fZ) (And.intro (hC.cell d4) (And.intro (hC.cell d5) (And.intro (hC.cell fi) (hC.cell fj))))))))))
             refine Ac
              [hdS (some ⟨g,0,none⟩) NN MM,he (.agg #[.int .i64 J,.int .i64 K,.int .i64 L,.int .i64 O,.int .i64 Q,.int .i64 T]),he (.agg #[.bool sv,.slice av nv cv]),he (.agg #[.bool s4,.slice a4 n4 c4]),hp (fun v wx=>NR (mkRat vz (sa*sb)) v wx),hp (fun v wx=>NEn [J,K,L,O,Q,T] (mkRat vz (sa*sb)) v wx),hp (fun v wx=>NSl [J,K,L,O,Q,T] (mkRat vz (sa*sb)) v wx)]
              ⟨NR.x _,NEn.x _ _,NSl.x _ _,trivial⟩ ⟨?o0,?o1,?o2,?o3,?o4,?o5,?o6,trivial⟩ ?fin
             case o0=>exact omv
             case o2 | o3=>exact ol2
             case o1 =>
              refine Ao rfl fun ρ wx hC ca h => ?_;have e0:_=_:=h.1;obtain⟨cO,cP,cQ,cR,cS,cT,cU,cV,cM,cN⟩:=(aC wx hC).out;go_simp
             case o4 =>
              refine Ae rfl fun ρ wx hC ca em h => ?_;have e1:_=_:=h.2.1;have e2:_=_:=h.2.2.1;obtain⟨cO,cP,cQ,cR,cS,cT,cU,cV,cM,cN⟩:=(aC wx hC).out;refine⟨191,#[.agg #[.bool sv,.slice av nv cv],.agg #[.bool s4,.slice a4 n4 c4]],by go_simp,((f8 wx hC).out).mono ?_⟩;rintro e w' ⟨cs,rfl,fm,fO⟩;exact⟨_,rfl,fm,cs,rfl,fO⟩
             case o5 =>
              refine AR rfl ?_;intro ρ wx hp hC h;have ca:=hp.const;have em:=hp.func;have e0:_=_:=h.1;obtain⟨v1,e1,gs,rfl,r1⟩:=h.2.1;obtain⟨cO,cP,cQ,cR,cS,cT,cU,cV,cM,cN⟩:=(aC wx hC).out;obtain⟨s9,a9,n9,c9,b9,m9,d9,rfl,z1,z2,z3⟩:=r1;have cF:(Ah s9 a9 n9 c9 false b9 m9 d9).toArray=#[.bool s9,.slice a9 n9 c9,.bool false,.slice b9 m9 d9]:=rfl;rw[cF]at e1
              refine⟨.agg #[.int .i64 J,.int .i64 K,.int .i64 L,.int .i64 O,.int .i64 Q,.int .i64 T,.bool s9,.slice a9 n9 c9,.bool false,.slice b9 m9 d9],wx,by go_simp,Ext.refl _,s9,a9,n9,c9,b9,m9,d9,rfl,s9,a9,n9,c9,b9,m9,d9,rfl,z1,z2,z3⟩
             case o6 =>
              refine AR rfl ?_;intro ρ wx hp hC h;have ca:=hp.const;have em:=hp.func;obtain⟨v0,e0,s0,a0,n0,c0,b0,m0,d0,rfl,r0⟩:=h.1;obtain⟨cO,cP,cQ,cR,cS,cT,cU,cV,cM,cN⟩:=(aC wx hC).out;have cF:(Ap [J,K,L,O,Q,T] s0 a0 n0 c0 b0 m0 d0).toArray=#[.int .i64 J,.int .i64 K,.int .i64 L,.int .i64 O,.int .i64 Q,.int .i64 T,.bool s0,.slice a0 n0 c0,.bool false,.slice b0 m0 d0]:=rfl;rw[cF]at e0
              refine⟨.slice (some ⟨wx.heap.size,0,none⟩) 1 1,wx.alloc (.cells #[.int .i64 J,.int .i64 K,.int .i64 L,.int .i64 O,.int .i64 Q,.int .i64 T,.bool s0,.slice a0 n0 c0,.bool false,.slice b0 m0 d0] 92),by go_simp,(Ext.refl _).alloc _,wx.heap.size,s0,a0,n0,c0,b0,m0,d0,rfl,Arr.new wx _ (Ap [J,K,L,O,Q,T] s0 a0 n0 c0 b0 m0 d0),r0.ext ((Ext.refl _).alloc _)⟩
             case fin =>
              intro wx hC;rintro _ ⟨_,rfl,_⟩;rintro _ ⟨_,_,_,_,_,_,_,rfl,_⟩;rintro _ ⟨Z9,s9,a9,n9,c9,b9,m9,d9,rfl,fy,fP⟩;change wpList _ _ _ _ _ _;simp only[A0];have bw:=dZ.ext hC;have f1:=qh bw;have fn:=Cj (k:=10) fy rfl;have ed:=bw.2;have fz:w.heap.size<=wx.heap.size:=(dk.trans hC).size;have fQ:=bw.1.len (by omega);have dE:=qh (b2.out.ext hC);have eQ:=qh (aX.trans hC);have eR:Hid (∀ i,i<NN->BV wx (b1.getD i []) ((Pl.picked (Kv (sa*sb) E) o).getD i ([],0))):=qh fun i hi=>(dd.out i hi).ext hC
              go_wp2_with(refine L7 rfl rfl (by kernel_rfl) Cr rfl bw rfl fn (by intro r hr u hu;rw[oZ.1 hr]at hu;exact AY u hu) (by intro r hr u hu;rw[oZ.1 hr]at hu;exact Bo u hu) (by omega) (by omega) fz ?_;intro eO eS bq)
              have df:Hid (A1 eO it w2.heap.size (Kv (sa*sb) E).length (o ++ [ii])):=qh (dE.out.kept bq (by have:=IZ f1.out.1 dE.out;simpa using fun h=>this h.symm));go_roundw
              case rel =>
               refine⟨o ++ [ii],NN+1,_,rfl,eQ.out.grownR bq (by omega),df.out,ap.out.1,ap.out.2.1,eS,by rw[b6.out,iD,aO.out];rfl,qh fun jj gv => ?_⟩;rw[b6.out];by_cases fG:jj=NN
               · subst fG;rw[gqq,gN (by omega),fQ,jt,gqq,gN (by rw[aO.out];exact lrf _),aO.out,jt];exact BV.keptU ⟨s9,a9,n9,c9,b9,m9,d9,rfl,rfl,fP⟩ ed bq
               · rw[gqq,gF (by omega),<-gqq,gqq (l:=Pl.picked _ o ++ _),gF (by rw[aO.out];omega),<-gqq];exact(eR.out jj (by omega)).keptU ed bq
              case measure =>
               have e1:=I0 df.out;have e2:=ap.out.2.2;rw[e9,e1];simp;omega
theorem P9(a d:Nat):a∣a*(d/Nat.gcd a d):=Nat.dvd_mul_right _ _
theorem Qa(a d:Nat):d∣a*(d/Nat.gcd a d):=by
 have h1:a*(d/Nat.gcd a d)=a/Nat.gcd a d*d:=by
  rw[<-mG _ (jA a d),oU a d,mG _ (jM a d),oU]
 rw[h1];exact kK _ _
theorem I5:∀ (l:List Rat) (a:Nat),a∣l.foldl (fun a q=>a*(q.den/Nat.gcd a q.den)) a/\∀ q∈l,q.den∣l.foldl (fun a q=>a*(q.den/Nat.gcd a q.den)) a
 | [],a=>⟨Nat.dvd_refl _,by simp⟩
 | q :: r,a=>by
  have ih:=I5 r (a*(q.den/Nat.gcd a q.den));refine⟨kh (P9 a q.den) ih.1,fun p hp => ?_⟩;rcases gV.1 hp with rfl|hp
  · exact kh (Qa a p.den) ih.1
  · exact ih.2 p hp
theorem F6{l:List Rat}(h:q∈l):q.den∣Bi l:=(I5 l 1).2 q h
theorem F7{l:List Rat}(k:Nat):Bi (l.take k)<=Bi l:=by
 have h:Bi (l.take k)∣Bi l:=by
  have e:Bi l=(l.drop k).foldl (fun a q=>a*(q.den/Nat.gcd a q.den)) (Bi (l.take k)):=by
   unfold Bi;rw[<-kU,kn]
  rw[e];exact(I5 _ _).1
 exact kM (BU l) h
theorem W6{x:Nat}(b:x<P2 256)(h:0<x->0<L/\P2 (L-1)<=x)(h0:0<x):L<=256:=by
 obtain⟨h1,h2⟩:=h h0;refine pm fun a => ?_;have h3:P2 256<=P2 (L-1):=Pq (by omega);omega
theorem WJ{p r:List Pl.Tm}(hT:AV w)(K:BJ w A N C p)(L:BJ w B M D r)(ba:∀ t∈p,Pl.RB 1000 t.2)(bb:∀ t∈r,Pl.RB 1000 t.2)
 (ea:GQ p) (eb:GQ r) (hN:N<=1000000) (hM:M<=1000000) (ar:N*M<=1000000) (n:Bi (p.map (·.2))<P2 256) (o:Bi (r.map (·.2))<P2 256) :
 Calls prog 82 #[.slice A N C,.slice B M D] w (fun e w'=>∃ g,Ue w g e w'/\Pl.Nrm g/\∀ e,Pl.coef g e=Pl.coef (Pl.prodT p r) e):=by
 have af:=fun(U:World) (m:Ext w U)=>qh (Fc (hT.ext m) (K.ext m) hN (fun q hq=>by obtain⟨t,Q,rfl⟩:=gT.1 hq;exact Aj (ba t Q).2 (by omega)) (fun k=>Aj (oR (F7 k) n) (by omega)));have ag:=fun(U:World) (m:Ext w U)=>qh (Fc (hT.ext m) (L.ext m) hM (fun q hq=>by obtain⟨t,Q,rfl⟩:=gT.1 hq;exact Aj (bb t Q).2 (by omega)) (fun k=>Aj (oR (F7 k) o) (by omega)))
 have aj:=fun(U:World) (m:Ext w U) (v v':Value) (h1:AD U v (Bi (p.map (·.2)):Int)) (h2:AD U v' (Bi (r.map (·.2)):Int))=>qh (Wx (hT.ext m) (K.ext m) (L.ext m) h1 h2 (fun t Q=>F6 (jl Q)) (fun t Q=>F6 (jl Q)) (by have:=BU (p.map (·.2));omega) (by have:=BU (r.map (·.2));omega) ba bb (Aj n (by omega)) (Aj o (by omega)) ea eb hN hM ar);have ax:=BU (p.map (·.2));have ay:=BU (r.map (·.2));have V:=qh n;have W:=qh o;clear ba bb ea eb n o K L
 generalize Bi (p.map (·.2))=sa at *
 generalize Bi (r.map (·.2))=sb at *
 go_enter func82,ntmps82
 go_wp2_with fail
 refine(af _ (Ext.refl w)).out.mono ?_;rintro e w1 ⟨s1,E,R,G,rfl,I,Y,ak⟩
 go_wp2_with fail
 refine(ag _ I).out.mono ?_;rintro e w2 ⟨T,F,S,H,rfl,J,a0,al⟩;have s:=I.trans J;have y:=ak.ext J;have av:(Ab s1 E R G).toArray=#[.bool s1,.slice E R G]:=rfl;have aw:(Ab T F S H).toArray=#[.bool T,.slice F S H]:=rfl;have aa:=JG w2 (Ab false none 0 0) (Ab false none 0 0) 83 83;have ab:=JH w2 (Ab false none 0 0) (Ab false none 0 0) 83 83;have a4:=VW w2 (.cells (Ab false none 0 0).toArray 83) (.cells (Ab false none 0 0).toArray 83)
 go_upto_region 2 with(first
  | (refine Aa (vs:=Ab s1 E R G) rfl rfl rfl rfl rfl Ak aa rfl (Ad _ _ _ _) ?_;intro w3 a3 O;have ac:=ab.kept O (by simp);clear aa)
  | (refine Aa (vs:=Ab T F S H) rfl rfl rfl rfl rfl Ak ac rfl (Ad _ _ _ _) ?_;intro w4 j P))
 have a:Ext w2 w4:=((a4.grownR O (lrf _)).grownR P (by omega));have l:=a3.kept P (by simp);have a6:=s.trans a;have am:=y.ext a;have an:=al.ext a;obtain⟨Z,hZ⟩:∃ x,w2.heap.size=x:=⟨_,rfl⟩;rw[hZ]at l j;rw[hZ];have c0:=l.c 0 rfl;have i:=l.c 1 rfl;have e0:=j.c 0 rfl;have e1:=j.c 1 rfl;have ad:=qh (WC (w:=w4) (v := .agg #[.bool s1,.slice E R G]) (z:=(sa:Int)) ⟨s1,E,R,G,rfl,Y,am⟩ (Aj V.out (by omega)));clear af ag I J ak y al ab ac a4 O P a3 j l av aw a s
 go_wp2_with fail
 refine ad.out.mono ?_;rintro e w5 ⟨L1,rfl,d,_,_,a8⟩;have az:(L1:Int)<=256:=by have:=W6 (x:=sa) V.out a8 ax;omega
 have ao:=an.ext d;have c0:=d.cell c0;have i:=d.cell i;have e0:=d.cell e0;have e1:=d.cell e1;have ae:=qh (WC (w:=w5) (v := .agg #[.bool T,.slice F S H]) (z:=(sb:Int)) ⟨T,F,S,H,rfl,a0,ao⟩ (Aj W.out (by omega)));clear ad a8
 go_wp2_with fail
 refine ae.out.mono ?_;rintro e w6 ⟨L2,rfl,f,_,_,a9⟩;have aA:(L2:Int)<=256:=by have:=W6 (x:=sb) W.out a9 ay;omega
 have c0:=f.cell c0;have i:=f.cell i;have e0:=f.cell e0;have e1:=f.cell e1;have b:=d.trans f;have ap:=aj w6 (a6.trans b) (.agg #[.bool s1,.slice E R G]) (.agg #[.bool T,.slice F S H]) ⟨s1,E,R,G,rfl,Y,am.ext b⟩ ⟨T,F,S,H,rfl,a0,an.ext b⟩;clear ae a9 aj
 go_wp2_with fail
 refine ap.out.mono ?_;rintro e w7 ⟨g,⟨a7,n7,c7,rfl,aq,au⟩,ai,ah⟩;have X:=qh (And.intro ai ah);clear ai ah;go_wp2;go_ret;have a5:=a6.trans b;exact⟨g,⟨a7,n7,c7,rfl,a5.trans aq,au.mono a5.size⟩,X.out.1,X.out.2⟩
end Go.Proofs.YtlbmnokpiilfpaaGreatDoor
