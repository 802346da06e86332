/- Part Pmk9. -/
import Derived.Test.YtlbmnokpiilfpaaGreatDoorPmk8
import Derived.Test.YtlbmnokpiilfpaaGreatDoorPmk5
import Derived.Test.YtlbmnokpiilfpaaGreatDoorPmk6
import Derived.Shelf.Lays
import Derived.Test.YtlbmnokpiilfpaaGreatDoorProg
set_option maxRecDepth 100000
set_option maxHeartbeats 100000000
namespace Go.Proofs.YtlbmnokpiilfpaaGreatDoor
open Tryz Go Go.RowKit
variable {s t:Bool} {x y z:Int} {cs cs':List Value} {N base c g n p:Nat} {a:Option Addr} {qa qb r:Option Nat} {e:TypeId} {v v':Value} {w w' w0:World}
structure Kp (S:Nat->Prop) (w w':World):Prop where
 os:w'.os=w.os
 tape:w'.tape=w.tape
 output:w'.output=w.output
 size:w.heap.size<=w'.heap.size
 block:∀ b,b<w.heap.size->¬ S b->w'.heap[b]?=w.heap[b]?
section
variable {S S':Nat->Prop} {w w1 w2:World}
theorem Kp.ofExt (h:Ext w w1):Kp S w w1:=⟨h.os,h.tape,h.output,h.size,fun _ a _=>h.block a⟩
theorem Kp.ofGrown (h:w.grownBy w1 r) (d:∀ g,r=some g->S g):Kp S w w1:=⟨h.os,h.tape,h.output,h.size,fun b a c=>h.block b a (fun e=>c (d b e.symm))⟩
theorem Kp.trans (h:Kp S w w1) (k:Kp S' w1 w2) (d:∀ b,b<w.heap.size->S' b->S b):Kp S w w2 :=
 ⟨k.os.trans h.os,k.tape.trans h.tape,k.output.trans h.output,Nat.le_trans h.size k.size,fun b a c=>by
  rw [k.block b (Nat.lt_of_lt_of_le a h.size) (fun x=>c (d b a x)),h.block b a c]⟩
theorem Kp.ext (h0:Ext w0 w) (h:Kp S w w1) (c:∀ b,S b->w0.heap.size<=b):Ext w0 w1 :=
 ⟨h.os.trans h0.os,h.tape.trans h0.tape,h.output.trans h0.output,Nat.le_trans h0.size h.size,fun b a=>by
  rw [h.block b (Nat.lt_of_lt_of_le a h0.size) (fun x=>by have:=c b x; omega),h0.block a]⟩
theorem Kp.mono (h:Kp S w w1) (c:∀ b,b<w.heap.size->S b->S' b):Kp S' w w1:=⟨h.os,h.tape,h.output,h.size,fun b a d=>h.block b a (fun x=>d (c b a x))⟩
theorem Kp.cell (h:Kp S w w1) {p:Addr} {v:Value} (hp:w.cell? p=some v) (a:¬ S p.block):w1.cell? p=some v:=by
 rw [World.cell?_of_block (w:=w) (h.block _ (World.block_lt_of_cell? w p hp) a),hp]
theorem Kp.arr {t:TypeId} (h:Kp S w w1) (a:Arr w g t cs) (b:¬ S g):Arr w1 g t cs:=(h.block g a.lt b).trans a
theorem Kp.own (h:Kp S w w1) (l:Own w base e a n c cs) (o:∀ g,blk a=some g->¬ S g):Own w1 base e a n c cs:=by
 obtain ⟨h1,h2⟩:=l;refine ⟨h1, ?_⟩;rcases h2 with h2|⟨g,b,d,j,m,k,r⟩
 · exact Or.inl h2
 · refine Or.inr ⟨g,b,d,j,m, ?_,r⟩;have i:g<w.heap.size:=by
    rcases Nat.lt_or_ge g w.heap.size with h|h
    · exact h
    · simp [Array.getElem?_eq_none h] at k
   have f:blk a=some g:=by
    simp only [Value.slice.injEq] at j;rw [j.1];rfl
   rw [h.block g i (o g f),k]
theorem Kp.wd {x:Nat} (h:Kp S w w1) (j:Wd w a n c x) (f:0<n->∀ g,blk a=some g->¬ S g):Wd w1 a n c x:=by
 obtain ⟨k,h1,h2⟩:=j;refine ⟨k, ?_,h2⟩;refine ⟨Sl.len h1,Sl.cap h1,Sl.max h1,fun h0 => ?_⟩;obtain ⟨b,o,rfl,d⟩:=Sl.rd h1 h0;exact ⟨b,o,rfl,fun i e=>h.cell (d i e) (f h0 b rfl)⟩
end
theorem A8 {t:TypeId} (h:Own w base e a n c cs) (d:Arr w p t cs') (l:t≠e):blk a≠some p:=by
 rcases h.2 with ⟨b,_⟩|⟨g,i,j,b,_,k,_⟩
 · simp only [Value.slice.injEq] at b;rw [b.1];simp [blk]
 · simp only [Value.slice.injEq] at b;rw [b.1];intro he;have f:g=p:=by simpa [blk] using he
   subst f;unfold Arr at d;rw [k] at d;simp only [Option.some.injEq,Obj.cells.injEq] at d;exact l d.2.1.symm
def Gc (pa:Option Addr) (pn pc:Nat) (na:Option Addr) (nn nc:Nat):List Value:=[.slice pa pn pc, .slice na nn nc]
def BR (w:World) (base p:Nat) (qa qb:Option Nat) (N:Nat) (z:Int):Prop :=
 ∃ pa pn pc na nn nc ps ns,Arr w p 224 (Gc pa pn pc na nn nc)/\blk pa=qa/\blk na=qb/\Own w base 238 pa pn pc (ps.map (Bi .u64))/\Own w base 238 na nn nc (ns.map (Bi .u64)) /\
  W.bnd 18446744073709551616 ps/\W.bnd 18446744073709551616 ns/\(qa=none\/qa≠qb)/\(qb=none\/qb≠qa)/\pn<=N/\nn<=N/\z=(W.val 18446744073709551616 ps:Int)-(W.val 18446744073709551616 ns:Int)/\base<=p
theorem BR.ext {w c:World} {base p N:Nat} {a b:Option Nat} {z:Int} (h:BR w base p a b N z) (e:Ext w c):BR c base p a b N z:=by
 obtain ⟨j,l,k,d,g,f,m,i,h1,h2,h3,h4,h5,h6⟩:=h;exact ⟨j,l,k,d,g,f,m,i,h1.ext e,h2,h3,h4.ext e,h5.ext e,h6⟩
theorem BR.kp {S:Nat->Prop} (h:BR w base p qa qb N z) (e:Kp S w w') (hp:¬ S p) (b:∀ g,qa=some g->¬ S g) (c:∀ g,qb=some g->¬ S g):BR w' base p qa qb N z:=by
 obtain ⟨k,m,l,d,i,f,n,j,h1,h2,h3,h4,h5,h6⟩:=h;exact ⟨k,m,l,d,i,f,n,j,e.arr h1 hp,h2,h3,e.own h4 (fun g a=>b g (h2.symm.trans a)),e.own h5 (fun g a=>c g (h3.symm.trans a)),h6⟩
theorem BR.le {M:Nat} (h:BR w base p qa qb N z) (j:N<=M):BR w base p qa qb M z:=by
 obtain ⟨e,g,f,a,c,b,i,d,h1,h2,h3,h4,h5,h6,h7,h8,h9,h10,h11,h12⟩:=h;exact ⟨e,g,f,a,c,b,i,d,h1,h2,h3,h4,h5,h6,h7,h8,h9,by omega,by omega,h12⟩
theorem BR.new (h:Arr w p 224 (Gc none 0 0 none 0 0)) (b:base<=p):BR w base p none none 0 0 :=
 ⟨none,0,0,none,0,0,[],[],h,rfl,rfl,Own.nil _ _ _,Own.nil _ _ _,(fun x a=>by simp at a),(fun x a=>by simp at a),Or.inl rfl,Or.inl rfl,lrf _,lrf _,by simp [W.val],b⟩
theorem BR.lt {w:World} {base p N:Nat} {b c:Option Nat} {z:Int} (h:BR w base p b c N z):(base<=p/\p<w.heap.size)/\(∀ g,b=some g->base<=g/\g<w.heap.size)/\(∀ g,c=some g->base<=g/\g<w.heap.size):=by
 obtain ⟨j,l,k,d,f,e,m,i,h1,h2,h3,h4,h5,h6,h7,h8,h9,h10,h11,h12,h13⟩:=h;exact ⟨⟨h13,h1.lt⟩,fun g a=>h4.lt (h2.trans a),fun g a=>h5.lt (h3.trans a)⟩
theorem Rv (a:decide (x<0)=s) (b:decide (y<0)=s):x*y=((x.natAbs*y.natAbs:Nat):Int):=by
 have:=Li a b;rw [this];cases s <;> simp
theorem Rw (a:decide (x<0)=s) (b:decide (y<0)=t) (h:s≠t):x*y = -((x.natAbs*y.natAbs:Nat):Int):=by
 have:=Li a b;rw [this];cases s <;> cases t <;> simp at h |-
def SU (w:World) (base p:Nat) (qa qb:Option Nat) (N:Nat) (z:Int) (e:Ending) (w':World):Prop :=
 e = .returned (.tuple #[])/\∃ qa' qb',BR w' base p qa' qb' (max N 300+40) z/\Kp (fun b=>b=p\/qa=some b\/qb=some b) w w'/\(qa'=qa\/∃ g,qa'=some g/\w.heap.size<=g)/\(qb'=qb\/∃ g,qb'=some g/\w.heap.size<=g)
theorem De (hS:BR w base p qa qb N z) (hx:AB w v x) (hy:AB w v' y) (sx:GK (fun g=>qa≠some g/\qb≠some g) v) (sy:GK (fun g=>qa≠some g/\qb≠some g) v') (bx:x.natAbs<P2 9600) (aa:y.natAbs<P2 9600) (ah:x.natAbs<P2 2496\/y.natAbs<P2 2496) (hN:N<=100000000) (hb:base<=w.heap.size) :
 Calls prog 221 #[.pointer (some ⟨p,0,none⟩),v,v'] w (SU w base p qa qb N (z+x*y)):=by
 obtain ⟨s,a,n,c,rfl,HS,hx⟩:=hx;obtain ⟨t,b,m,d,rfl,HT,hy⟩:=hy;have sx:=sx.at
 have sy:=sy.at
 have k1:=hx.len (k:=150) bx;have k2:=hy.len (k:=150) aa;have k3:=hx.zero;have k4:=hy.zero;have a1:n<40\/m<40:=by
  rcases ah with h|h
  · left; have:=hx.len (k:=39) h; omega
  · right; have:=hy.len (k:=39) h; omega
 clear bx aa ah;obtain ⟨xs,K,nx⟩:=hx;obtain ⟨ys,L,ny⟩:=hy;have a9:=qh hS;obtain ⟨pa,pn,pc,na,nn,nc,ps,ns,P,af,ag,D,C,bp,bn,ad,ae,am,al,hz,a0⟩:=hS;have l:=qh (And.intro (And.intro af ag) (And.intro ad ae));have HZ:=qh hz;have J:=qh (And.intro bp bn);have SX:=qh sx;have SY:=qh sy;have NX:=qh nx;have NY:=qh ny;have an:=P.lt;clear af ag ad ae hz bp bn sx sy nx ny
 go_enter func221,ntmps221
 go_upto_region 1 with (fail)
 refine Dm ?_;intro w0 f a4 a5 ai;have ao:=a4.c 0 rfl;have ap:=a4.c 1 rfl;have aq:=a5.c 0 rfl;have ar:=a5.c 1 rfl;have u0:w0.cell? ⟨p,0,none⟩=some (.slice pa pn pc):=(P.ext f).cell (i:=0) (by simp [Gc]);have u1:w0.cell? ⟨p,1,none⟩=some (.slice na nn nc):=(P.ext f).cell (i:=1) (by simp [Gc]);clear a4 a5 ai;by_cases ac:n=0
 · have a3:Hid (z+x*y=z):=qh (by have:=k3.1 ac; rw [show x=0 by omega]; simp);subst ac;go_wp2
   go_end0
   rw [a3.out];exact ⟨rfl,qa,qb,(a9.out.ext f).le (by omega),Kp.ofExt f,Or.inl rfl,Or.inl rfl⟩
 · have ak:((n:Int) == 0)=false:=by simp; omega
   by_cases ab:m=0
   · have a3:Hid (z+x*y=z):=qh (by have:=k4.1 ab; rw [show y=0 by omega]; simp);subst ab;go_wp2
     go_end0
     rw [a3.out];exact ⟨rfl,qa,qb,(a9.out.ext f).le (by omega),Kp.ofExt f,Or.inl rfl,Or.inl rfl⟩
   · have aj:((m:Int) == 0)=false:=by simp; omega
     cases s <;> cases t
     · have X:blk a≠qa:=fun he=>by
        obtain ⟨M,oo,rfl,_⟩:=K.at (j:=0) (by omega);exact (SX.out (by omega) M rfl).1 he.symm
       have Y:blk b≠qa:=fun he=>by
        obtain ⟨M,oo,rfl,_⟩:=L.at (j:=0) (by omega);exact (SY.out (by omega) M rfl).1 he.symm
       have F:blk pa≠some p:=A8 D P (by decide);have G:blk na≠some p:=A8 C P (by decide);go_wp2
       refine BU 9 (by decide) (by kernel_rfl) (fun wx=>Ext w0 wx)
        [he (.pointer (some ⟨p,0,none⟩)),
 he (.pointer (some ⟨p,0,none⟩)),
 he (.pointer (some ⟨p,0,none⟩)),
 he (.pointer (some ⟨p,0,none⟩)),
 he (.slice pa pn pc),
 he (.pointer (some ⟨w.heap.size,1,none⟩)),
 he (.slice a n c),
 he (.pointer (some ⟨(w.heap.size+1),1,none⟩)),
 he (.slice b m d)]
        (by kernel_rfl) (by kernel_rfl) (fun _ _ _ d _ h=>by cases d <;> exact h) (fun _ _ e h=>h.trans e) ((Ext.refl w0).drew) ⟨trivial,trivial,trivial,trivial,trivial,trivial,trivial,trivial,trivial,trivial⟩ ⟨?o0, ?o1, ?o2, ?o3, ?o4, ?o5, ?o6, ?o7, ?o8,trivial⟩ ?fin
       case o0 | o1=>exact omv
       case o2=>exact onc
       case o3=>exact ofa (d:=0)
       case o4 | o6 | o8=>exact ol
       case o5 | o7=>exact ofa (d:=1)
       case fin =>
        intro wx r;change wpList _ _ _ _ _ _;simp only [List.modify_succ_cons,List.modify_zero_cons,C1,List.length_cons,List.length_nil,List.drop_succ_cons,List.drop_zero,Act.put,List.setIfInBounds_toArray,List.set_cons_succ,List.set_cons_zero];have Q:=(P.ext f).ext r;have U:=(D.ext f).ext r;have T:=(C.ext f).ext r;have a8:=r.size;have a2:=f.size
        have q:=Cp (w:=wx) (V:=W.val 18446744073709551616 ps) U J.out.1 rfl ((K.ext f).ext r) ((L.ext f).ext r) NX.out NY.out (by omega) (by omega) (by rw [l.out.1.1]; exact X) (by rw [l.out.1.1]; exact Y) a1 (by omega) (by omega) (by omega) (by omega)
        go_wp2_with fail
        refine q.mono ?_;rintro e w2 ⟨I,Z,O,zs,rfl,o,hv,a7⟩;have hA2:=Q.kept o.grown (fun he=>F he.symm);have q1:=hA2.c 0 rfl;have q2:=hA2.frozen 0;have R:=T.kept o.grown (by rw [l.out.1.2,l.out.1.1]; exact l.out.2.2);have HV:=qh hv;have a6:=o.grown.size;clear q hv;go_wp2
        go_end0
        have A:=Af w2 p 0 (.slice I Z O);have H:=A8 o.own hA2 (by decide);have E:=f.trans r;refine ⟨rfl,blk I,qb,⟨I,Z,O,na,nn,nc,zs,ns,hA2.set 0 (.slice I Z O),rfl,l.out.1.2,o.own.kept A (Or.inr H),R.kept A (Or.inr G),o.bnd,J.out.2, ?_, ?_,by omega,by omega, ?_,a0⟩, ?_, ?_, ?_⟩
        · rcases o.src with e|⟨g,e,B⟩
          · rw [e,l.out.1.1]; exact l.out.2.1
          · refine Or.inr fun he => ?_;rw [e,<-l.out.1.2] at he; have:=(C.lt he.symm).2; omega
        · rcases l.out.2.2 with h|h
          · exact Or.inl h
          · refine Or.inr fun he => ?_;rcases o.src with e|⟨g,e,B⟩
            · rw [e,l.out.1.1] at he; exact h he
            · rw [e,<-l.out.1.2] at he; have:=(C.lt he).2; omega
        · rw [HZ.out,HV.out,Rv HS.out HT.out,Int.natCast_add]; omega
        · exact ((Kp.ofExt E).trans (Kp.ofGrown o.grown (S:=fun b=>b=p\/qa=some b\/qb=some b) (fun g B=>Or.inr (Or.inl (l.out.1.1.symm.trans B)))) (fun _ _ h=>h)).trans (Kp.ofGrown A (S:=fun b=>b=p\/qa=some b\/qb=some b) (fun g B=>Or.inl (by simpa using B.symm))) (fun _ _ h=>h)
        · rcases o.src with e|⟨g,e,B⟩
          · exact Or.inl (e.trans l.out.1.1)
          · exact Or.inr ⟨g,e,by omega⟩
        · exact Or.inl rfl
     · have X:blk a≠qb:=fun he=>by
        obtain ⟨M,oo,rfl,_⟩:=K.at (j:=0) (by omega);exact (SX.out (by omega) M rfl).2 he.symm
       have Y:blk b≠qb:=fun he=>by
        obtain ⟨M,oo,rfl,_⟩:=L.at (j:=0) (by omega);exact (SY.out (by omega) M rfl).2 he.symm
       have F:blk na≠some p:=A8 C P (by decide);have G:blk pa≠some p:=A8 D P (by decide);go_wp2
       refine BU 9 (by decide) (by kernel_rfl) (fun wx=>Ext w0 wx)
        [he (.pointer (some ⟨p,0,none⟩)),
 he (.pointer (some ⟨p,0,none⟩)),
 he (.pointer (some ⟨p,0,none⟩)),
 he (.pointer (some ⟨p,1,none⟩)),
 he (.slice na nn nc),
 he (.pointer (some ⟨w.heap.size,1,none⟩)),
 he (.slice a n c),
 he (.pointer (some ⟨(w.heap.size+1),1,none⟩)),
 he (.slice b m d)]
        (by kernel_rfl) (by kernel_rfl) (fun _ _ _ d _ h=>by cases d <;> exact h) (fun _ _ e h=>h.trans e) ((Ext.refl w0).drew) ⟨trivial,trivial,trivial,trivial,trivial,trivial,trivial,trivial,trivial,trivial⟩ ⟨?o0, ?o1, ?o2, ?o3, ?o4, ?o5, ?o6, ?o7, ?o8,trivial⟩ ?fin
       case o0 | o1=>exact omv
       case o2=>exact onc
       case o3 | o5 | o7=>exact ofa (d:=1)
       case o4 | o6 | o8=>exact ol
       case fin =>
        intro wx r;change wpList _ _ _ _ _ _;simp only [List.modify_succ_cons,List.modify_zero_cons,C1,List.length_cons,List.length_nil,List.drop_succ_cons,List.drop_zero,Act.put,List.setIfInBounds_toArray,List.set_cons_succ,List.set_cons_zero];have Q:=(P.ext f).ext r;have U:=(C.ext f).ext r;have T:=(D.ext f).ext r;have a8:=r.size;have a2:=f.size
        have q:=Cp (w:=wx) (V:=W.val 18446744073709551616 ns) U J.out.2 rfl ((K.ext f).ext r) ((L.ext f).ext r) NX.out NY.out (by omega) (by omega) (by rw [l.out.1.2]; exact X) (by rw [l.out.1.2]; exact Y) a1 (by omega) (by omega) (by omega) (by omega)
        go_wp2_with fail
        refine q.mono ?_;rintro e w2 ⟨I,Z,O,zs,rfl,o,hv,a7⟩;have hA2:=Q.kept o.grown (fun he=>F he.symm);have q1:=hA2.c 1 rfl;have q2:=hA2.frozen 1;have R:=T.kept o.grown (by rw [l.out.1.1,l.out.1.2]; exact l.out.2.1);have HV:=qh hv;have a6:=o.grown.size;clear q hv;go_wp2
        go_end0
        have A:=Af w2 p 1 (.slice I Z O);have H:=A8 o.own hA2 (by decide);have E:=f.trans r;refine ⟨rfl,qa,blk I,⟨pa,pn,pc,I,Z,O,ps,zs,hA2.set 1 (.slice I Z O),l.out.1.1,rfl,R.kept A (Or.inr G),o.own.kept A (Or.inr H),J.out.1,o.bnd, ?_, ?_,by omega,by omega, ?_,a0⟩, ?_, ?_, ?_⟩
        · rcases l.out.2.1 with h|h
          · exact Or.inl h
          · refine Or.inr fun he => ?_;rcases o.src with e|⟨g,e,B⟩
            · rw [e,l.out.1.2] at he; exact h he
            · rw [e,<-l.out.1.1] at he; have:=(D.lt he).2; omega
        · rcases o.src with e|⟨g,e,B⟩
          · rw [e,l.out.1.2]; exact l.out.2.2
          · refine Or.inr fun he => ?_;rw [e,<-l.out.1.1] at he; have:=(D.lt he.symm).2; omega
        · rw [HZ.out,HV.out,Rw HS.out HT.out (by decide),Int.natCast_add]; omega
        · exact ((Kp.ofExt E).trans (Kp.ofGrown o.grown (S:=fun b=>b=p\/qa=some b\/qb=some b) (fun g B=>Or.inr (Or.inr (l.out.1.2.symm.trans B)))) (fun _ _ h=>h)).trans (Kp.ofGrown A (S:=fun b=>b=p\/qa=some b\/qb=some b) (fun g B=>Or.inl (by simpa using B.symm))) (fun _ _ h=>h)
        · exact Or.inl rfl
        · rcases o.src with e|⟨g,e,B⟩
          · exact Or.inl (e.trans l.out.1.2)
          · exact Or.inr ⟨g,e,by omega⟩
     · have X:blk a≠qb:=fun he=>by
        obtain ⟨M,oo,rfl,_⟩:=K.at (j:=0) (by omega);exact (SX.out (by omega) M rfl).2 he.symm
       have Y:blk b≠qb:=fun he=>by
        obtain ⟨M,oo,rfl,_⟩:=L.at (j:=0) (by omega);exact (SY.out (by omega) M rfl).2 he.symm
       have F:blk na≠some p:=A8 C P (by decide);have G:blk pa≠some p:=A8 D P (by decide);go_wp2
       refine BU 9 (by decide) (by kernel_rfl) (fun wx=>Ext w0 wx)
        [he (.pointer (some ⟨p,0,none⟩)),
 he (.pointer (some ⟨p,0,none⟩)),
 he (.pointer (some ⟨p,0,none⟩)),
 he (.pointer (some ⟨p,1,none⟩)),
 he (.slice na nn nc),
 he (.pointer (some ⟨w.heap.size,1,none⟩)),
 he (.slice a n c),
 he (.pointer (some ⟨(w.heap.size+1),1,none⟩)),
 he (.slice b m d)]
        (by kernel_rfl) (by kernel_rfl) (fun _ _ _ d _ h=>by cases d <;> exact h) (fun _ _ e h=>h.trans e) ((Ext.refl w0).drew) ⟨trivial,trivial,trivial,trivial,trivial,trivial,trivial,trivial,trivial,trivial⟩ ⟨?o0, ?o1, ?o2, ?o3, ?o4, ?o5, ?o6, ?o7, ?o8,trivial⟩ ?fin
       case o0 | o1=>exact omv
       case o2=>exact onc
       case o3 | o5 | o7=>exact ofa (d:=1)
       case o4 | o6 | o8=>exact ol
       case fin =>
        intro wx r;change wpList _ _ _ _ _ _;simp only [List.modify_succ_cons,List.modify_zero_cons,C1,List.length_cons,List.length_nil,List.drop_succ_cons,List.drop_zero,Act.put,List.setIfInBounds_toArray,List.set_cons_succ,List.set_cons_zero];have Q:=(P.ext f).ext r;have U:=(C.ext f).ext r;have T:=(D.ext f).ext r;have a8:=r.size;have a2:=f.size
        have q:=Cp (w:=wx) (V:=W.val 18446744073709551616 ns) U J.out.2 rfl ((K.ext f).ext r) ((L.ext f).ext r) NX.out NY.out (by omega) (by omega) (by rw [l.out.1.2]; exact X) (by rw [l.out.1.2]; exact Y) a1 (by omega) (by omega) (by omega) (by omega)
        go_wp2_with fail
        refine q.mono ?_;rintro e w2 ⟨I,Z,O,zs,rfl,o,hv,a7⟩;have hA2:=Q.kept o.grown (fun he=>F he.symm);have q1:=hA2.c 1 rfl;have q2:=hA2.frozen 1;have R:=T.kept o.grown (by rw [l.out.1.1,l.out.1.2]; exact l.out.2.1);have HV:=qh hv;have a6:=o.grown.size;clear q hv;go_wp2
        go_end0
        have A:=Af w2 p 1 (.slice I Z O);have H:=A8 o.own hA2 (by decide);have E:=f.trans r;refine ⟨rfl,qa,blk I,⟨pa,pn,pc,I,Z,O,ps,zs,hA2.set 1 (.slice I Z O),l.out.1.1,rfl,R.kept A (Or.inr G),o.own.kept A (Or.inr H),J.out.1,o.bnd, ?_, ?_,by omega,by omega, ?_,a0⟩, ?_, ?_, ?_⟩
        · rcases l.out.2.1 with h|h
          · exact Or.inl h
          · refine Or.inr fun he => ?_;rcases o.src with e|⟨g,e,B⟩
            · rw [e,l.out.1.2] at he; exact h he
            · rw [e,<-l.out.1.1] at he; have:=(D.lt he).2; omega
        · rcases o.src with e|⟨g,e,B⟩
          · rw [e,l.out.1.2]; exact l.out.2.2
          · refine Or.inr fun he => ?_;rw [e,<-l.out.1.1] at he; have:=(D.lt he.symm).2; omega
        · rw [HZ.out,HV.out,Rw HS.out HT.out (by decide),Int.natCast_add]; omega
        · exact ((Kp.ofExt E).trans (Kp.ofGrown o.grown (S:=fun b=>b=p\/qa=some b\/qb=some b) (fun g B=>Or.inr (Or.inr (l.out.1.2.symm.trans B)))) (fun _ _ h=>h)).trans (Kp.ofGrown A (S:=fun b=>b=p\/qa=some b\/qb=some b) (fun g B=>Or.inl (by simpa using B.symm))) (fun _ _ h=>h)
        · exact Or.inl rfl
        · rcases o.src with e|⟨g,e,B⟩
          · exact Or.inl (e.trans l.out.1.2)
          · exact Or.inr ⟨g,e,by omega⟩
     · have X:blk a≠qa:=fun he=>by
        obtain ⟨M,oo,rfl,_⟩:=K.at (j:=0) (by omega);exact (SX.out (by omega) M rfl).1 he.symm
       have Y:blk b≠qa:=fun he=>by
        obtain ⟨M,oo,rfl,_⟩:=L.at (j:=0) (by omega);exact (SY.out (by omega) M rfl).1 he.symm
       have F:blk pa≠some p:=A8 D P (by decide);have G:blk na≠some p:=A8 C P (by decide);go_wp2
       refine BU 9 (by decide) (by kernel_rfl) (fun wx=>Ext w0 wx)
        [he (.pointer (some ⟨p,0,none⟩)),
 he (.pointer (some ⟨p,0,none⟩)),
 he (.pointer (some ⟨p,0,none⟩)),
 he (.pointer (some ⟨p,0,none⟩)),
 he (.slice pa pn pc),
 he (.pointer (some ⟨w.heap.size,1,none⟩)),
 he (.slice a n c),
 he (.pointer (some ⟨(w.heap.size+1),1,none⟩)),
 he (.slice b m d)]
        (by kernel_rfl) (by kernel_rfl) (fun _ _ _ d _ h=>by cases d <;> exact h) (fun _ _ e h=>h.trans e) ((Ext.refl w0).drew) ⟨trivial,trivial,trivial,trivial,trivial,trivial,trivial,trivial,trivial,trivial⟩ ⟨?o0, ?o1, ?o2, ?o3, ?o4, ?o5, ?o6, ?o7, ?o8,trivial⟩ ?fin
       case o0 | o1=>exact omv
       case o2=>exact onc
       case o3=>exact ofa (d:=0)
       case o4 | o6 | o8=>exact ol
       case o5 | o7=>exact ofa (d:=1)
       case fin =>
        intro wx r;change wpList _ _ _ _ _ _;simp only [List.modify_succ_cons,List.modify_zero_cons,C1,List.length_cons,List.length_nil,List.drop_succ_cons,List.drop_zero,Act.put,List.setIfInBounds_toArray,List.set_cons_succ,List.set_cons_zero];have Q:=(P.ext f).ext r;have U:=(D.ext f).ext r;have T:=(C.ext f).ext r;have a8:=r.size;have a2:=f.size
        have q:=Cp (w:=wx) (V:=W.val 18446744073709551616 ps) U J.out.1 rfl ((K.ext f).ext r) ((L.ext f).ext r) NX.out NY.out (by omega) (by omega) (by rw [l.out.1.1]; exact X) (by rw [l.out.1.1]; exact Y) a1 (by omega) (by omega) (by omega) (by omega)
        go_wp2_with fail
        refine q.mono ?_;rintro e w2 ⟨I,Z,O,zs,rfl,o,hv,a7⟩;have hA2:=Q.kept o.grown (fun he=>F he.symm);have q1:=hA2.c 0 rfl;have q2:=hA2.frozen 0;have R:=T.kept o.grown (by rw [l.out.1.2,l.out.1.1]; exact l.out.2.2);have HV:=qh hv;have a6:=o.grown.size;clear q hv;go_wp2
        go_end0
        have A:=Af w2 p 0 (.slice I Z O);have H:=A8 o.own hA2 (by decide);have E:=f.trans r;refine ⟨rfl,blk I,qb,⟨I,Z,O,na,nn,nc,zs,ns,hA2.set 0 (.slice I Z O),rfl,l.out.1.2,o.own.kept A (Or.inr H),R.kept A (Or.inr G),o.bnd,J.out.2, ?_, ?_,by omega,by omega, ?_,a0⟩, ?_, ?_, ?_⟩
        · rcases o.src with e|⟨g,e,B⟩
          · rw [e,l.out.1.1]; exact l.out.2.1
          · refine Or.inr fun he => ?_;rw [e,<-l.out.1.2] at he; have:=(C.lt he.symm).2; omega
        · rcases l.out.2.2 with h|h
          · exact Or.inl h
          · refine Or.inr fun he => ?_;rcases o.src with e|⟨g,e,B⟩
            · rw [e,l.out.1.1] at he; exact h he
            · rw [e,<-l.out.1.2] at he; have:=(C.lt he).2; omega
        · rw [HZ.out,HV.out,Rv HS.out HT.out,Int.natCast_add]; omega
        · exact ((Kp.ofExt E).trans (Kp.ofGrown o.grown (S:=fun b=>b=p\/qa=some b\/qb=some b) (fun g B=>Or.inr (Or.inl (l.out.1.1.symm.trans B)))) (fun _ _ h=>h)).trans (Kp.ofGrown A (S:=fun b=>b=p\/qa=some b\/qb=some b) (fun g B=>Or.inl (by simpa using B.symm))) (fun _ _ h=>h)
        · rcases o.src with e|⟨g,e,B⟩
          · exact Or.inl (e.trans l.out.1.1)
          · exact Or.inr ⟨g,e,by omega⟩
        · exact Or.inl rfl
theorem Rx (a:decide (z<0)=s) (b:decide (y<0)=s):z+y=if s=true then -((z.natAbs+y.natAbs:Nat):Int) else ((z.natAbs+y.natAbs:Nat):Int):=by
 subst a;by_cases h1:z<0 <;> by_cases h2:y<0 <;> simp [h1,h2] at b |- <;> omega
theorem OU (c:decide (z<0)=s) (d:decide (y<0)=t) (a:s≠t) (b:y.natAbs<=z.natAbs):z+y=if s=true then -((z.natAbs-y.natAbs:Nat):Int) else ((z.natAbs-y.natAbs:Nat):Int):=by
 subst c; subst d;by_cases h1:z<0 <;> by_cases h2:y<0 <;> simp [h1,h2] at a |- <;> omega
theorem OV (c:decide (z<0)=s) (d:decide (y<0)=t) (a:s≠t) (b:z.natAbs<y.natAbs):z+y=if t=true then -((y.natAbs-z.natAbs:Nat):Int) else ((y.natAbs-z.natAbs:Nat):Int):=by
 subst c; subst d;by_cases h1:z<0 <;> by_cases h2:y<0 <;> simp [h1,h2] at a |- <;> omega
theorem Cg {x y:Nat}:0<=AN (x:Int) (y:Int)<->y<=x:=by
 unfold AN;split
 · omega
 · split <;> omega
theorem Hw (h:AB w v z) (h':AB w v' y) (bz:z.natAbs<P2 9600) (P:y.natAbs<P2 9600):Calls prog 208 #[v,v'] w (DI w (z+y)):=by
 obtain ⟨s,a,n,c,rfl,HS,hx⟩:=h;obtain ⟨t,b,m,d,rfl,HT,hy⟩:=h';have ae:=fun (g:World) (f:Ext w g)=>qh (Ut (hx.ext f) (hy.ext f) bz P);have ag:=fun (g:World) (f:Ext w g) (x:y.natAbs<=z.natAbs)=>qh (SP (hx.ext f) (hy.ext f) bz x);have ah:=fun (g:World) (f:Ext w g) (x:z.natAbs<=y.natAbs)=>qh (SP (hy.ext f) (hx.ext f) P x);have af:=fun (g:World) (f:Ext w g)=>qh (SQ (hx.ext f) (hy.ext f));clear bz P
 go_enter func208,ntmps208
 go_upto_region 1 with (fail)
 refine DF ?_;intro w0 M a0 a3 ai al;have a6:=a0.c 0 rfl;have a7:=a0.c 1 rfl;have a8:=a3.c 0 rfl;have a9:=a3.c 1 rfl;have hR:Arr w0 (w.heap.size+2) 83 (Ac false none 0 0):=ai;clear al;by_cases O:s=t
 · subst O;have aj:(s == s)=true:=by simp
   go_wp2;have S:=fun (g:World) (f:Ext w0 g)=>qh (And.intro (f.cell a6) (And.intro (f.cell a7) (And.intro (f.cell a8) (f.cell a9))))
   refine Ab (by kernel_rfl) (fun g=>Ext w0 g)
    [he (.pointer (some ⟨w.heap.size,0,none⟩)),
 he (.bool s),
 he (.pointer (some ⟨w.heap.size,1,none⟩)),
 he (.slice a n c),
 he (.pointer (some ⟨(w.heap.size+1),1,none⟩)),
 he (.slice b m d),
 hp (fun v g=>∃ i k j,v = .slice i k j/\Wd g i k j (z.natAbs+y.natAbs)),
 hp (fun v g=>∃ p i k j,v = .agg (Ac p i k j).toArray/\Hid (decide (z+y<0)=p)/\Wd g i k j (z+y).natAbs)]
    (by kernel_rfl) (fun _ _ e h=>h.trans e) ((Ext.refl w0).drew) ⟨trivial,trivial,trivial,trivial,trivial,trivial,fun v w L e ⟨i,k,j,h1,h2⟩=>⟨i,k,j,h1,h2.ext e⟩,fun v w L e ⟨p,i,k,j,h1,h2,h3⟩=>⟨p,i,k,j,h1,h2,h3.ext e⟩,trivial⟩ ⟨?o0, ?o1, ?o2, ?o3, ?o4, ?o5, ?o6, ?o7,trivial⟩ ?fin
   case o0=>exact ofa (d:=0)
   case o1 | o3 | o5=>exact ol
   case o2 | o4=>exact ofa (d:=1)
   case o6 =>
    refine Am rfl fun A g f r D h => ?_;have e1:A (.tmp 13)=(.slice a n c):=h.2.1;have e2:A (.tmp 15)=(.slice b m d):=h.2.2.1;obtain ⟨H,I,J,K⟩:=(S g f).out;refine ⟨255,#[.slice a n c, .slice b m d],by go_simp,((ae g (M.trans f)).out).mono ?_⟩;rintro e L ⟨i,k,j,rfl,l,o⟩;exact ⟨_,rfl,l,i,k,j,rfl,o⟩
   case o7 =>
    refine Am rfl fun A g f r D h => ?_;have e1:A (.tmp 11)=(.bool s):=h.2.1;obtain ⟨v2,e2,W,n2,Y,rfl,Z⟩:=h.2.2.1;obtain ⟨H,I,J,K⟩:=(S g f).out;refine ⟨203,#[.bool s, .slice W n2 Y],by go_simp,(Bm Z (z:=z+y) (Rx HS.out HT.out)).mono ?_⟩;rintro e L ⟨p,i,k,j,rfl,l,F,o⟩;exact ⟨_,rfl,l,p,i,k,j,rfl,F,o⟩
   case fin =>
    intro g f;rintro _ ⟨_,_,_,rfl,_⟩;rintro _ ⟨s1,V,n1,X,rfl,B,G⟩;change wpList _ _ _ _ _ _;simp only [la,lb,ld,lz,Act.put,lq,ly,lx];have q:=hR.ext f
    go_wp2_with (refine Aa (vs:=Ac s1 V n1 X) rfl rfl rfl rfl rfl Ag q rfl (Ad _ _ _ _) ?_; intro w9 C E)
    exact bodyPost_ret (Al rfl Ag rfl C) rfl (Bc (M.trans f) q (Ay _ _ _ _) E (by omega) B G)
 · have aj:(s == t)=false:=by simpa using O
   go_wp2_with fail
   refine (af _ M).out.mono ?_;rintro e R ⟨rfl,Q⟩;have N:=M.trans Q.ext;have a4:=hR.ext Q.ext;have aa:=Q.ext.cell a6;have ab:=Q.ext.cell a7;have ac:=Q.ext.cell a8;have ad:=Q.ext.cell a9;by_cases x:y.natAbs<=z.natAbs
   · have ak:(0:Int)<=AN (z.natAbs:Int) (y.natAbs:Int):=Cg.2 x;generalize AN (z.natAbs:Int) (y.natAbs:Int)=cv at *
     go_wp2;have T:=fun (g:World) (f:Ext R g)=>qh (And.intro (f.cell aa) (And.intro (f.cell ab) (And.intro (f.cell ac) (f.cell ad))))
     refine Ab (by kernel_rfl) (fun g=>Ext R g)
      [he (.pointer (some ⟨w.heap.size,0,none⟩)),
 he (.bool s),
 he (.pointer (some ⟨w.heap.size,1,none⟩)),
 he (.slice a n c),
 he (.pointer (some ⟨(w.heap.size+1),1,none⟩)),
 he (.slice b m d),
 hp (fun v g=>∃ i k j,v = .slice i k j/\Wd g i k j (z.natAbs-y.natAbs)),
 hp (fun v g=>∃ p i k j,v = .agg (Ac p i k j).toArray/\Hid (decide (z+y<0)=p)/\Wd g i k j (z+y).natAbs)]
      (by kernel_rfl) (fun _ _ e h=>h.trans e) ((Ext.refl R).drew) ⟨trivial,trivial,trivial,trivial,trivial,trivial,fun v w L e ⟨i,k,j,h1,h2⟩=>⟨i,k,j,h1,h2.ext e⟩,fun v w L e ⟨p,i,k,j,h1,h2,h3⟩=>⟨p,i,k,j,h1,h2,h3.ext e⟩,trivial⟩ ⟨?o0, ?o1, ?o2, ?o3, ?o4, ?o5, ?o6, ?o7,trivial⟩ ?fin
     case o0=>exact ofa (d:=0)
     case o1 | o3 | o5=>exact ol
     case o2 | o4=>exact ofa (d:=1)
     case o6 =>
      refine Am rfl fun A g f r D h => ?_;have e1:A (.tmp 27)=(.slice a n c):=h.2.1;have e2:A (.tmp 29)=(.slice b m d):=h.2.2.1;obtain ⟨H,I,J,K⟩:=(T g f).out;refine ⟨256,#[.slice a n c, .slice b m d],by go_simp,((ag g (N.trans f) x).out).mono ?_⟩;rintro e L ⟨i,k,j,rfl,l,o⟩;exact ⟨_,rfl,l,i,k,j,rfl,o⟩
     case o7 =>
      refine Am rfl fun A g f r D h => ?_;have e1:A (.tmp 25)=(.bool s):=h.2.1;obtain ⟨v2,e2,W,n2,Y,rfl,Z⟩:=h.2.2.1;obtain ⟨H,I,J,K⟩:=(T g f).out;refine ⟨203,#[.bool s, .slice W n2 Y],by go_simp,(Bm Z (z:=z+y) (OU HS.out HT.out O x)).mono ?_⟩;rintro e L ⟨p,i,k,j,rfl,l,F,o⟩;exact ⟨_,rfl,l,p,i,k,j,rfl,F,o⟩
     case fin =>
      intro g f;rintro _ ⟨_,_,_,rfl,_⟩;rintro _ ⟨s1,V,n1,X,rfl,B,G⟩;change wpList _ _ _ _ _ _;simp only [la,lb,ld,lz,Act.put,lq,ly,lx];have q:=a4.ext f
      go_wp2_with (refine Aa (vs:=Ac s1 V n1 X) rfl rfl rfl rfl rfl Ag q rfl (Ad _ _ _ _) ?_; intro w9 C E)
      exact bodyPost_ret (Al rfl Ag rfl C) rfl (Bc (N.trans f) q (Ay _ _ _ _) E (by omega) B G)
   · have ak:AN (z.natAbs:Int) (y.natAbs:Int)<0:=by have:=mt Cg.1 x; omega
     have a5:z.natAbs<y.natAbs:=by omega
     generalize AN (z.natAbs:Int) (y.natAbs:Int)=cv at *
     go_wp2;have U:=fun (g:World) (f:Ext R g)=>qh (And.intro (f.cell aa) (And.intro (f.cell ab) (And.intro (f.cell ac) (f.cell ad))))
     refine Ab (by kernel_rfl) (fun g=>Ext R g)
      [he (.pointer (some ⟨(w.heap.size+1),0,none⟩)),
 he (.bool t),
 he (.pointer (some ⟨(w.heap.size+1),1,none⟩)),
 he (.slice b m d),
 he (.pointer (some ⟨w.heap.size,1,none⟩)),
 he (.slice a n c),
 hp (fun v g=>∃ i k j,v = .slice i k j/\Wd g i k j (y.natAbs-z.natAbs)),
 hp (fun v g=>∃ p i k j,v = .agg (Ac p i k j).toArray/\Hid (decide (z+y<0)=p)/\Wd g i k j (z+y).natAbs)]
      (by kernel_rfl) (fun _ _ e h=>h.trans e) ((Ext.refl R).drew) ⟨trivial,trivial,trivial,trivial,trivial,trivial,fun v w L e ⟨i,k,j,h1,h2⟩=>⟨i,k,j,h1,h2.ext e⟩,fun v w L e ⟨p,i,k,j,h1,h2,h3⟩=>⟨p,i,k,j,h1,h2,h3.ext e⟩,trivial⟩ ⟨?o0, ?o1, ?o2, ?o3, ?o4, ?o5, ?o6, ?o7,trivial⟩ ?fin
     case o0=>exact ofa (d:=0)
     case o1 | o3 | o5=>exact ol
     case o2 | o4=>exact ofa (d:=1)
     case o6 =>
      refine Am rfl fun A g f r D h => ?_;have e1:A (.tmp 35)=(.slice b m d):=h.2.1;have e2:A (.tmp 37)=(.slice a n c):=h.2.2.1;obtain ⟨H,I,J,K⟩:=(U g f).out;refine ⟨256,#[.slice b m d, .slice a n c],by go_simp,((ah g (N.trans f) (Nat.le_of_lt a5)).out).mono ?_⟩;rintro e L ⟨i,k,j,rfl,l,o⟩;exact ⟨_,rfl,l,i,k,j,rfl,o⟩
     case o7 =>
      refine Am rfl fun A g f r D h => ?_;have e1:A (.tmp 33)=(.bool t):=h.2.1;obtain ⟨v2,e2,W,n2,Y,rfl,Z⟩:=h.2.2.1;obtain ⟨H,I,J,K⟩:=(U g f).out;refine ⟨203,#[.bool t, .slice W n2 Y],by go_simp,(Bm Z (z:=z+y) (OV HS.out HT.out O a5)).mono ?_⟩;rintro e L ⟨p,i,k,j,rfl,l,F,o⟩;exact ⟨_,rfl,l,p,i,k,j,rfl,F,o⟩
     case fin =>
      intro g f;rintro _ ⟨_,_,_,rfl,_⟩;rintro _ ⟨s1,V,n1,X,rfl,B,G⟩;change wpList _ _ _ _ _ _;simp only [la,lb,ld,lz,Act.put,lq,ly,lx];have q:=a4.ext f
      go_wp2_with (refine Aa (vs:=Ac s1 V n1 X) rfl rfl rfl rfl rfl Ag q rfl (Ad _ _ _ _) ?_; intro w9 C E)
      exact bodyPost_ret (Al rfl Ag rfl C) rfl (Bc (N.trans f) q (Ay _ _ _ _) E (by omega) B G)
theorem Gd (w:World) (cs cs':List Value) (t t':TypeId):Arr ((w.alloc (.cells cs.toArray t)).alloc (.cells cs'.toArray t')) w.heap.size t cs:=(Arr.new w t cs).alloc _
theorem Ge (w:World) (cs cs':List Value) (t t':TypeId):Arr ((w.alloc (.cells cs.toArray t)).alloc (.cells cs'.toArray t')) (w.heap.size+1) t' cs':=by
 have:=Arr.new (w.alloc (.cells cs.toArray t)) t' cs';simpa using this
theorem TN (w:World) (o a:Obj):Ext w ((w.alloc o).alloc a):=((Ext.refl w).alloc o).alloc a
theorem Ry (c:decide (z<0)=s) (d:decide (y<0)=t):z.tdiv y=if (s != t)=true then -((z.natAbs/y.natAbs:Nat):Int) else ((z.natAbs/y.natAbs:Nat):Int):=by
 subst c; subst d;have h0:∀ x:Int,x<0->x = -(x.natAbs:Int):=fun x h=>by omega
 have h1:∀ x:Int,¬ x<0->x=(x.natAbs:Int):=fun x h=>by omega
 by_cases b:z<0 <;> by_cases a:y<0 <;> simp only [b,a,decide_true,decide_false]
 · rw [h0 z b,h0 y a,Int.neg_tdiv_neg,Int.natAbs_neg,Int.natAbs_neg,Int.natAbs_natCast,Int.natAbs_natCast]; simp
 · rw [h0 z b,h1 y a,Int.neg_tdiv,Int.natAbs_neg,Int.natAbs_natCast,Int.natAbs_natCast]; simp
 · rw [h1 z b,h0 y a,Int.tdiv_neg,Int.natAbs_neg,Int.natAbs_natCast,Int.natAbs_natCast]; simp
 · rw [h1 z b,h1 y a,Int.natAbs_natCast,Int.natAbs_natCast]; simp
theorem Rz (b:decide (z<0)=s):z.tmod y=if s=true then -((z.natAbs%y.natAbs:Nat):Int) else ((z.natAbs%y.natAbs:Nat):Int):=by
 subst b;have c:z.tmod y=z.tmod (y.natAbs:Int):=by
  rcases Int.natAbs_eq y with h|h
  · rw [<-h]
  · rw [h,Int.tmod_neg,Int.natAbs_neg,Int.natAbs_natCast]
 rw [c];by_cases a:z<0
 · have h0:z = -(z.natAbs:Int):=by omega
   rw [h0,Int.neg_tmod];simp only [Int.natAbs_neg,Int.natAbs_natCast];rw [<-h0,Int.tmod_eq_emod_of_nonneg (by omega)];simp [a]
 · have h0:z=(z.natAbs:Int):=by omega
   rw [h0];simp only [Int.natAbs_natCast];rw [Int.tmod_eq_emod_of_nonneg (by omega),<-h0];simp [a];rw [<-h0]
def Uv (w:World) (z y:Int) (e:Ending) (w':World):Prop:=∃ s a n c s' a' n' c',e = .returned (.tuple #[.agg (Ac s a n c).toArray, .agg (Ac s' a' n' c').toArray])/\Ext w w'/\(Hid (decide (z<0)=s)/\Wd w' a n c z.natAbs)/\(Hid (decide (y<0)=s')/\Wd w' a' n' c' y.natAbs)
def NM (w:World) (z y:Int) (e:Ending) (w':World):Prop:=∃ s a n c s' a' n' c',e = .returned (.tuple #[.agg (Ac s a n c).toArray, .agg (Ac s' a' n' c').toArray])/\Ext w w'/\(Hid (decide (z<0)=s)/\Wd w' a n c z.natAbs)/\(Hid (decide (y<0)=s')/\Wd w' a' n' c' y.natAbs)/\FY w.heap.size (fun _=>False) a n
theorem NM.plain {e:Ending} (h:NM w z y e w'):Uv w z y e w':=by
 obtain ⟨s,a,n,c,g,b,f,d,h1,h2,h3,h4,_⟩:=h;exact ⟨s,a,n,c,g,b,f,d,h1,h2,h3,h4⟩
theorem MK (h:AB w v z) (h':AB w v' y) (bz:z.natAbs<P2 9600) (K:y.natAbs<P2 9600) (a7:y≠0):Calls prog 257 #[v,v'] w (NM w (z.tdiv y) (z.tmod y)):=by
 obtain ⟨s,a,n,c,rfl,HS,hx⟩:=h;obtain ⟨t,b,m,d,rfl,HT,hy⟩:=h';have a3:=fun (g:World) (f:Ext w g)=>qh (SR (hx.ext f) (hy.ext f) bz K (by omega));have ad:((m:Int) == 0)=false:=by have:=hy.zero; simp; omega
 clear bz K a7
 go_enter func257,ntmps257
 go_upto_region 1 with (fail)
 refine Up ?_;intro w0 x L M V W a8;have a9:=L.c 0 rfl;have ae:=L.c 1 rfl;have aa:=M.c 0 rfl;have af:=M.c 1 rfl;have hR:Arr w0 (w.heap.size+2) 83 (Ac false none 0 0):=V;have a0:Arr w0 (w.heap.size+3) 83 (Ac false none 0 0):=W;clear a8
 go_wp2_with fail
 refine (a3 _ x).out.mono ?_;rintro e w1 ⟨E,G,F,ra,rn,rc,rfl,k,hq,hr,P⟩;have Q:=P.of x.size (fun _ h=>h.elim) (S':=fun _=>False);have Z:=x.trans k;have ab:=k.cell a9;have ac:=k.cell aa;go_wp2;have q:=fun (g:World) (f:Ext w1 g)=>qh (And.intro (f.cell ab) (f.cell ac))
 refine Ab (by kernel_rfl) (fun g=>Ext w1 g)
  [he (.pointer (some ⟨w.heap.size,0,none⟩)),
 he (.bool s),
 he (.pointer (some ⟨(w.heap.size+1),0,none⟩)),
 he (.bool t),
 he (.bool (s != t)),
 he (.slice E G F),
 hp (fun v g=>∃ j,v = .agg (Ac j E G F).toArray/\Hid (decide (z.tdiv y<0)=j)/\Wd g E G F (z.tdiv y).natAbs),
 he (.pointer (some ⟨w.heap.size,0,none⟩)),
 he (.bool s),
 he (.slice ra rn rc),
 hp (fun v g=>∃ j H J I,v = .agg (Ac j H J I).toArray/\Hid (decide (z.tmod y<0)=j)/\Wd g H J I (z.tmod y).natAbs)]
  (by kernel_rfl) (fun _ _ e h=>h.trans e) ((Ext.refl w1).drew) ⟨trivial,trivial,trivial,trivial,trivial,trivial,fun v w w' e ⟨j,h1,h2,h3⟩=>⟨j,h1,h2,h3.ext e⟩,trivial,trivial,trivial,fun v w w' e ⟨j,H,J,I,h1,h2,h3⟩=>⟨j,H,J,I,h1,h2,h3.ext e⟩,trivial⟩ ⟨?o0, ?o1, ?o2, ?o3, ?o4, ?o5, ?o6, ?o7, ?o8, ?o9, ?o10,trivial⟩ ?fin
 case o0 | o2 | o7=>exact ofa (d:=0)
 case o1 | o3 | o8=>exact ol
 case o5 | o9=>exact omv
 case o4 =>
  refine An rfl fun p g f o h => ?_;have e0:p (.tmp 23)=(.bool s):=h.1;have e1:p (.tmp 25)=(.bool t):=h.2.1;obtain ⟨R,S⟩:=(q g f).out;go_simp;cases s <;> cases t <;> rfl
 case o6 =>
  refine Am rfl fun p g f o a4 h => ?_;have e1:p (.tmp 26)=(.bool (s != t)):=h.2.1;have e2:p (.tmp 27)=(.slice E G F):=h.2.2.1;obtain ⟨R,S⟩:=(q g f).out;refine ⟨203,#[.bool (s != t), .slice E G F],by go_simp,(EH (hq.ext f) (z:=z.tdiv y) (Ry HS.out HT.out)).mono ?_⟩;rintro e w' ⟨j,rfl,r,D,C⟩;exact ⟨_,rfl,r,j,rfl,D,C⟩
 case o10 =>
  refine Am rfl fun p g f o a4 h => ?_;have e1:p (.tmp 30)=(.bool s):=h.2.1;have e2:p (.tmp 31)=(.slice ra rn rc):=h.2.2.1;obtain ⟨R,S⟩:=(q g f).out;refine ⟨203,#[.bool s, .slice ra rn rc],by go_simp,(Bm (hr.ext f) (z:=z.tmod y) (Rz HS.out)).mono ?_⟩;rintro e w' ⟨j,H,J,I,rfl,r,D,C⟩;exact ⟨_,rfl,r,j,H,J,I,rfl,D,C⟩
 case fin =>
  intro g f;rintro _ ⟨s1,rfl,T,a5⟩;rintro _ ⟨s2,a2,n2,c2,rfl,U,a6⟩;change wpList _ _ _ _ _ _;simp only [la,lb,ld,lz,Act.put,lq,ly,lx];have A:=(hR.ext k).ext f;have a1:=(a0.ext k).ext f
  go_wp2_with (first
   | (refine Aa (vs:=Ac s1 E G F) rfl rfl rfl rfl rfl Ag A rfl (Ad _ _ _ _) ?_; intro w9 X l; have B:=a1.kept l (by simp))
   | (refine Aa (vs:=Ac s2 a2 n2 c2) rfl rfl rfl rfl rfl Ag B rfl (Ad _ _ _ _) ?_; intro ag N i))
  have O:=X.kept i (by simp);have Y:=((Z.trans f).grownR l (by omega)).grownR i (by omega);exact bodyPost_ret (Ro rfl Ag Ag rfl rfl O N) rfl ⟨s1,E,G,F,s2,a2,n2,c2,rfl,Y,⟨T,(a5.kept A (Ay _ _ _ _) l).kept B (Ay _ _ _ _) i⟩,⟨U,(a6.kept A (Ay _ _ _ _) l).kept B (Ay _ _ _ _) i⟩,Q⟩
theorem ML {S:Nat->Prop} (h:AB w v z) (O:AB w v' y) (bz:z.natAbs<P2 9600) (p:y.natAbs<P2 9600) (K:y≠0) (hS:GK S v):Calls prog 209 #[v,v'] w (Ja w S (z.tdiv y)):=by
 have W:=fun (wx:World) (L:Ext w wx)=>qh (MK (h.ext L) (O.ext L) bz p K);have V:=fun (wx:World) (L:Ext w wx)=>qh (CD (r:=decide (y=1)) (O.ext L) rfl);clear bz p;obtain ⟨s,a,n,c,rfl,HS,hx⟩:=h;obtain ⟨t,b,m,d,rfl,HT,hy⟩:=O
 go_enter func209,ntmps209
 go_upto_region 1 with (fail)
 refine DF ?_;intro w0 B q x P Z;have a0:=q.c 0 rfl;have a3:=q.c 1 rfl;have a4:=x.c 0 rfl;have a5:=x.c 1 rfl;have hR:Arr w0 (w.heap.size+2) 83 (Ac false none 0 0):=P;clear Z K
 go_wp2_with fail
 refine (V _ B).out.mono ?_;rintro e w1 ⟨rfl,f⟩;have i:=B.trans f;have a6:=f.cell a0;have a7:=f.cell a3;have a8:=f.cell a4;have a9:=f.cell a5;have l:=hR.ext f;by_cases h1:y=1
 · have G:decide (y=1)=true:=by simpa using h1
   have HV:Hid (z.tdiv y=z):=by show _=_; rw [h1,Int.tdiv_one]
   rw [G];clear G h1
   go_wp2_with (refine Aa (vs:=Ac s a n c) rfl rfl rfl rfl rfl Ag l rfl (Ad _ _ _ _) ?_; intro w9 j o)
   refine bodyPost_ret (Al rfl Ag rfl j) rfl ?_;rw [HV.out];exact EI i l (Ay _ _ _ _) o (by omega) HS (hx.ext i) (fun h0 g hg=>Or.inr (hS.at h0 g hg))
 · have G:decide (y=1)=false:=by simpa using h1
   rw [G];clear G h1
   go_wp2_with fail
   refine (W _ i).out.mono ?_;rintro e M ⟨s1,a1,n1,c1,s2,a2,n2,c2,rfl,C,⟨N,X⟩,_,J⟩;have D:=l.ext C;have aa:=D.lt;clear a6 a7 a8 a9;have F:=Gd M (Ac false none 0 0) (Ac false none 0 0) 83 83;have T:=Ge M (Ac false none 0 0) (Ac false none 0 0) 83 83;have R:=TN M (.cells (Ac false none 0 0).toArray 83) (.cells (Ac false none 0 0).toArray 83)
   go_upto_region 4 with (first
    | (refine Aa (vs:=Ac s1 a1 n1 c1) rfl rfl rfl rfl rfl Ag F rfl (Ad _ _ _ _) ?_; intro w3 Q H; have U:=T.kept H (by simp); clear F)
    | (refine Aa (vs:=Ac s2 a2 n2 c2) rfl rfl rfl rfl rfl Ag U rfl (Ad _ _ _ _) ?_; intro w4 ab I))
   have k:Ext M w4:=((R.grownR H (lrf _)).grownR I (by omega));have A:=Q.kept I (by simp);have E:=D.ext k;have Y:=X.ext k;have q0:=A.c 0 rfl;have q1:=A.c 1 rfl
   go_wp2_with (refine Aa (vs:=Ac s1 a1 n1 c1) rfl rfl rfl rfl rfl Ag E rfl (Ad _ _ _ _) ?_; intro w9 j o)
   exact bodyPost_ret (Al rfl Ag rfl j) rfl (EI ((i.trans C).trans k) E (Ay _ _ _ _) o (by omega) N Y (J.of i.size (fun _ h=>h.elim)))
theorem EY (h:AB w v z) (d:AB w v' y) (c:z.natAbs<P2 9600) (a:y.natAbs<P2 9600) (b:y≠0):Calls prog 209 #[v,v'] w (DI w (z.tdiv y)) :=
 (ML (S:=fun _=>True) h d c a b (fun _ _ _ _ _ _ _ _=>trivial)).mono fun _ _ h=>h.plain
theorem PZ (h:AB w v z) (G:AB w v' y) {r:Bool} (o:decide (z=y)=r):Calls prog 261 #[v,v'] w fun e L=>e = .returned (.bool r)/\Ext w L:=by
 obtain ⟨s,a,n,c,rfl,C,J⟩:=h;obtain ⟨t,b,m,d,rfl,D,K⟩:=G;by_cases j:s=t
 · subst j;have p:(s == s)=true:=by simp
   have l:=fun (N:World) (E:Ext w N)=>qh (SQ (J.ext E) (K.ext E));have I:(AN (z.natAbs:Int) (y.natAbs:Int) == 0)=r:=by
    rw [<-o,Bool.eq_iff_iff];have h1:=C.out;have h2:=D.out;have h3:AN (z.natAbs:Int) (y.natAbs:Int)=0<->z.natAbs=y.natAbs:=by
     unfold AN;split
     · omega
     · split <;> omega
    simp only [beq_iff_eq,h3,decide_eq_true_eq];cases s <;> simp at h1 h2 <;> omega
   clear o
   go_enter func261,ntmps261
   go_upto_region 1 with (fail)
   refine Dm ?_;intro M i f g k;have q:=f.c 0 rfl;have x:=f.c 1 rfl;have A:=g.c 0 rfl;have B:=g.c 1 rfl;clear k
   go_wp2_with fail
   refine (l _ i).out.mono ?_;rintro e P ⟨rfl,H⟩;generalize AN (z.natAbs:Int) (y.natAbs:Int)=O at *
   go_wp2;go_ret;exact ⟨rfl,i.trans H.ext⟩
 · have p:(s == t)=false:=by simpa using j
   have F:Hid (r=false):=by
    show _=_;rw [<-o];have h1:=C.out;have h2:=D.out;simp only [decide_eq_false_iff_not];intro h3;subst h3;exact j (h1.symm.trans h2)
   clear o j
   go_enter func261,ntmps261
   go_upto_region 1 with (fail)
   refine Dm ?_;intro M i f g k;have q:=f.c 0 rfl;have x:=f.c 1 rfl;have A:=g.c 0 rfl;have B:=g.c 1 rfl;clear k;go_wp2;go_ret;exact ⟨by rw [F.out]; rfl,i⟩
theorem SE (hT:AR w) (h:AB w v z) (h':AB w v' y) (Z:z.natAbs<P2 9600) (M:y.natAbs<P2 2496) (P:z≠0) (ad:y≠0):Calls prog 262 #[v,v'] w (DI w ((z.natAbs*(y.natAbs/Nat.gcd z.natAbs y.natAbs):Nat):Int)):=by
 obtain ⟨s,a,n,c,rfl,HS,hx⟩:=h;obtain ⟨t,b,m,d,rfl,HT,hy⟩:=h';have L:y.natAbs<P2 9600:=Ah M (by omega);have V:0<Nat.gcd z.natAbs y.natAbs:=Nat.gcd_pos_of_pos_left _ (by omega);have U:Nat.gcd z.natAbs y.natAbs<P2 9600:=Nat.lt_of_le_of_lt (Nat.le_of_dvd (by omega) (Nat.gcd_dvd_left _ _)) Z;have O:y.natAbs/Nat.gcd z.natAbs y.natAbs<P2 2496:=Nat.lt_of_le_of_lt (Nat.div_le_self _ _) M;have a9:=fun (f:World) (k:Ext w f)=>qh (SO (hT.ext k) (hx.ext k) (hy.ext k) Z L)
 have a7:=fun (f:World) (k:Ext w f) (g:Option Addr) (j i:Nat) (hg:Wd f g j i (Nat.gcd z.natAbs y.natAbs))=>qh (SR (hy.ext k) hg L U V);have aa:=fun (f:World) (k:Ext w f) (g:Option Addr) (j i:Nat) (hg:Wd f g j i (y.natAbs/Nat.gcd z.natAbs y.natAbs))=>qh (Rt (hx.ext k) hg Z (Ah O (by omega)) (Or.inr O));have ah:((n:Int) == 0)=false:=by have:=hx.zero; simp; omega
 have ag:((m:Int) == 0)=false:=by have:=hy.zero; simp; omega
 clear Z M L V U O P ad
 go_enter func262,ntmps262
 go_upto_region 1 with (fail)
 refine DF ?_;intro w0 E Q R a4 P;have W:=Q.c 0 rfl;have X:=Q.c 1 rfl;have ae:=R.c 0 rfl;have af:=R.c 1 rfl;have hR:Arr w0 (w.heap.size+2) 83 (Ac false none 0 0):=a4;clear P;go_wp2;have o:=fun (f:World) (k:Ext w0 f)=>qh (And.intro (k.cell W) (And.intro (k.cell X) (And.intro (k.cell ae) (k.cell af))))
 refine Ab (by kernel_rfl) (fun f=>Ext w0 f)
  [he (.pointer (some ⟨(w.heap.size+1),1,none⟩)),
 he (.slice b m d),
 he (.pointer (some ⟨w.heap.size,1,none⟩)),
 he (.slice a n c),
 he (.pointer (some ⟨(w.heap.size+1),1,none⟩)),
 he (.slice b m d),
 hp (fun v f=>∃ g j i,v = .slice g j i/\Wd f g j i (Nat.gcd z.natAbs y.natAbs)),
 hp (fun v f=>∃ g j i B D C,v = .tuple #[.slice g j i, .slice B D C]/\Wd f g j i (y.natAbs/Nat.gcd z.natAbs y.natAbs)/\Wd f B D C (y.natAbs%Nat.gcd z.natAbs y.natAbs)),
 hp (fun v f=>∃ g j i B D C,v = .tuple #[.slice g j i, .slice B D C]/\Wd f g j i (y.natAbs/Nat.gcd z.natAbs y.natAbs)/\Wd f B D C (y.natAbs%Nat.gcd z.natAbs y.natAbs)),
 hp (fun v f=>∃ g j i,v = .slice g j i/\Wd f g j i (y.natAbs/Nat.gcd z.natAbs y.natAbs)),
 hp (fun v f=>∃ g j i,v = .slice g j i/\Wd f g j i (y.natAbs%Nat.gcd z.natAbs y.natAbs)),
 hp (fun v f=>∃ g j i,v = .slice g j i/\Wd f g j i (y.natAbs/Nat.gcd z.natAbs y.natAbs)),
 hp (fun v f=>∃ g j i,v = .slice g j i/\Wd f g j i (y.natAbs%Nat.gcd z.natAbs y.natAbs))]
  (by kernel_rfl) (fun _ _ e h=>h.trans e) ((Ext.refl w0).drew) ⟨trivial,trivial,trivial,trivial,trivial,trivial,fun v w K e ⟨g,j,i,h1,h2⟩=>⟨g,j,i,h1,h2.ext e⟩,fun v w K e ⟨g,j,i,B,D,C,h1,h2,h3⟩=>⟨g,j,i,B,D,C,h1,h2.ext e,h3.ext e⟩,fun v w K e ⟨g,j,i,B,D,C,h1,h2,h3⟩=>⟨g,j,i,B,D,C,h1,h2.ext e,h3.ext e⟩,fun v w K e ⟨g,j,i,h1,h2⟩=>⟨g,j,i,h1,h2.ext e⟩,fun v w K e ⟨g,j,i,h1,h2⟩=>⟨g,j,i,h1,h2.ext e⟩,fun v w K e ⟨g,j,i,h1,h2⟩=>⟨g,j,i,h1,h2.ext e⟩,fun v w K e ⟨g,j,i,h1,h2⟩=>⟨g,j,i,h1,h2.ext e⟩,trivial⟩ ⟨?o0, ?o1, ?o2, ?o3, ?o4, ?o5, ?o6, ?o7, ?o8, ?o9, ?o10, ?o11, ?o12,trivial⟩ ?fin
 case o0 | o2 | o4=>exact ofa (d:=1)
 case o1 | o3 | o5=>exact ol
 case o6 =>
  refine Am rfl fun F f k l r h => ?_;have e1:F (.tmp 22)=(.slice a n c):=h.2.1;have e2:F (.tmp 24)=(.slice b m d):=h.2.2.1;obtain ⟨p,q,x,A⟩:=(o f k).out;refine ⟨204,#[.slice a n c, .slice b m d],by go_simp,((a9 f (E.trans k)).out).mono ?_⟩;rintro e K ⟨g,j,i,rfl,N,ab⟩;exact ⟨_,rfl,N,g,j,i,rfl,ab⟩
 case o7 =>
  refine Am rfl fun F f k l r h => ?_;have e1:F (.tmp 20)=(.slice b m d):=h.2.1;obtain ⟨v2,e2,a2,n2,c2,rfl,d2⟩:=h.2.2.1;obtain ⟨p,q,x,A⟩:=(o f k).out;refine ⟨240,#[.slice b m d, .slice a2 n2 c2],by go_simp,((a7 f (E.trans k) _ _ _ d2).out).mono ?_⟩;rintro e K ⟨g,j,i,B,D,C,rfl,N,h1,h2,_⟩;exact ⟨_,rfl,N,g,j,i,B,D,C,rfl,h1,h2⟩
 case o8 =>
  refine AY rfl ?_;intro F f hp k h;have l:=hp.const;have r:=hp.func;obtain ⟨v0,e0,G,J,H,Y,m0,I,rfl,i0,j0⟩:=h.1;obtain ⟨p,q,x,A⟩:=(o f k).out;exact ⟨_,f,by go_simp,Ext.refl _,G,J,H,Y,m0,I,rfl,i0,j0⟩
 case o9 =>
  refine AY rfl ?_;intro F f hp k h;have l:=hp.const;have r:=hp.func;obtain ⟨v0,e0,G,J,H,Y,m0,I,rfl,i0,j0⟩:=h.1;obtain ⟨p,q,x,A⟩:=(o f k).out;exact ⟨_,f,by go_simp,Ext.refl _,G,J,H,rfl,i0⟩
 case o10 =>
  refine AY rfl ?_;intro F f hp k h;have l:=hp.const;have r:=hp.func;obtain ⟨v0,e0,G,J,H,Y,m0,I,rfl,i0,j0⟩:=h.1;obtain ⟨p,q,x,A⟩:=(o f k).out;exact ⟨_,f,by go_simp,Ext.refl _,Y,m0,I,rfl,j0⟩
 case o11 =>
  refine AY rfl ?_;intro F f hp k h;have l:=hp.const;have r:=hp.func;obtain ⟨v0,e0,G,J,H,rfl,I⟩:=h.1;obtain ⟨p,q,x,A⟩:=(o f k).out;exact ⟨_,f,by go_simp,Ext.refl _,G,J,H,rfl,I⟩
 case o12 =>
  refine AY rfl ?_;intro F f hp k h;have l:=hp.const;have r:=hp.func;obtain ⟨v0,e0,G,J,H,rfl,I⟩:=h.1;obtain ⟨p,q,x,A⟩:=(o f k).out;exact ⟨_,f,by go_simp,Ext.refl _,G,J,H,rfl,I⟩
 case fin =>
  intro f k;rintro _ ⟨_,_,_,rfl,_⟩;rintro _ ⟨_,_,_,_,_,_,rfl,_,_⟩;rintro _ ⟨_,_,_,_,_,_,rfl,_,_⟩;rintro _ ⟨_,_,_,rfl,_⟩;rintro _ ⟨_,_,_,rfl,_⟩;rintro _ ⟨qa,qn,qc,rfl,hq⟩;rintro _ ⟨_,_,_,rfl,_⟩;change wpList _ _ _ _ _ _;simp only [la,lb,ld,lz,Act.put,lq,ly,lx];have p:=k.cell W;have q:=k.cell X;have a6:=hR.ext k;have a3:Hid (decide (((z.natAbs*(y.natAbs/Nat.gcd z.natAbs y.natAbs):Nat):Int)<0)=false):=qh (decide_eq_false (by omega))
  go_wp2_with fail
  refine (aa _ (E.trans k) _ _ _ hq).out.mono ?_;rintro e w1 ⟨a1,n1,c1,rfl,S,ac⟩;have T:=a6.ext S
  go_wp2_with (refine Aa (vs:=Ac false a1 n1 c1) rfl rfl rfl rfl rfl Ag T rfl (Ad _ _ _ _) ?_; intro w9 a5 a8)
  exact bodyPost_ret (Al rfl Ag rfl a5) rfl (Bc ((E.trans k).trans S) T (Ay _ _ _ _) a8 (by omega) a3 ac)
end Go.Proofs.YtlbmnokpiilfpaaGreatDoor
namespace Go.Proofs.YtlbmnokpiilfpaaGreatDoor
open Go.Shelf
def RA:Go.Shelf.Ren:=⟨fun | 125=>206 | 128=>252 | 129=>253 | n=>n,fun | 46=>222 | 3=>3 | 51=>241 | 53=>238 | 4=>4 | 5=>5 | 9=>9 | n=>n,fun | n=>n⟩
theorem UL:Go.Proofs.Lays.n125 Tryz.prog RA:={
 mixed:=by kernel_rfl
 f125:=Tryz.func206.trans (congrArg some (by kernel_rfl))
 f128:=Tryz.func252.trans (congrArg some (by kernel_rfl))
 f129:=Tryz.func253.trans (congrArg some (by kernel_rfl))
 t3:=Tryz.underlying3
 a3:=Tryz.isAgg3
 z3:=Tryz.sizeOf3
 v3:=Tryz.zeroValue3
 t4:=Tryz.underlying4
 a4:=Tryz.isAgg4
 z4:=Tryz.sizeOf4
 v4:=Tryz.zeroValue4
 t5:=Tryz.underlying5
 a5:=Tryz.isAgg5
 z5:=Tryz.sizeOf5
 v5:=Tryz.zeroValue5
 t9:=Tryz.underlying9
 a9:=Tryz.isAgg9
 z9:=Tryz.sizeOf9
 v9:=Tryz.zeroValue9
 t46:=Tryz.underlying222
 a46:=Tryz.isAgg222
 z46:=Tryz.sizeOf222
 v46:=Tryz.zeroValue222
 t51:=Tryz.underlying241
 a51:=Tryz.isAgg241
 z51:=Tryz.sizeOf241
 v51:=Tryz.zeroValue241
 t53:=Tryz.underlying238
 a53:=Tryz.isAgg238
 z53:=Tryz.sizeOf238
 v53:=Tryz.zeroValue238 }
end Go.Proofs.YtlbmnokpiilfpaaGreatDoor
