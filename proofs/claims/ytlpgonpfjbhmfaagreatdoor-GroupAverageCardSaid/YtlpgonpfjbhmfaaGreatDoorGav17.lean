/- Part Gav17. -/
import Derived.Test.YtlpgonpfjbhmfaaGreatDoorGav15
import Derived.Test.YtlpgonpfjbhmfaaGreatDoorGav16
import Derived.Test.YtlpgonpfjbhmfaaGreatDoorGav12
set_option maxRecDepth 100000
set_option maxHeartbeats 100000000
namespace Go.Proofs.YtlpgonpfjbhmfaaGreatDoor
open Tryz Go Go.RowKit
variable {s:Bool} {x y z:Int} {cs cs':List Value} {N base c g n p:Nat} {a:Option Addr} {qa qb r:Option Nat} {e t:TypeId} {v v':Value} {w w' w0:World}
structure Kp (S:Nat→Prop) (w w':World):Prop where
 os:w'.os=w.os
 tape:w'.tape=w.tape
 output:w'.output=w.output
 size:w.heap.size≤w'.heap.size
 block:∀ b,b<w.heap.size→¬ S b→w'.heap[b]?=w.heap[b]?
section
variable {S S':Nat→Prop} {w w1 w2:World}
theorem Kp.ofExt (h:Ext w w1):Kp S w w1:=⟨h.os,h.tape,h.output,h.size,fun _ hb _=>h.block hb⟩
theorem Kp.ofGrown (h:w.grownBy w1 r) (hr:∀ g,r=some g→S g):Kp S w w1:=⟨h.os,h.tape,h.output,h.size,fun b hb hn=>h.block b hb (fun e=>hn (hr b e.symm))⟩
theorem Kp.trans (h:Kp S w w1) (k:Kp S' w1 w2) (hS:∀ b,b<w.heap.size→S' b→S b):Kp S w w2 :=
 ⟨k.os.trans h.os,k.tape.trans h.tape,k.output.trans h.output,Nat.le_trans h.size k.size,fun b hb hn=>by
  rw [k.block b (Nat.lt_of_lt_of_le hb h.size) (fun x=>hn (hS b hb x)),h.block b hb hn]⟩
theorem Kp.ext (h0:Ext w0 w) (h:Kp S w w1) (hS:∀ b,S b→w0.heap.size≤b):Ext w0 w1 :=
 ⟨h.os.trans h0.os,h.tape.trans h0.tape,h.output.trans h0.output,Nat.le_trans h0.size h.size,fun b hb=>by
  rw [h.block b (Nat.lt_of_lt_of_le hb h0.size) (fun x=>by have:=hS b x; omega),h0.block hb]⟩
theorem Kp.mono (h:Kp S w w1) (hS:∀ b,b<w.heap.size→S b→S' b):Kp S' w w1:=⟨h.os,h.tape,h.output,h.size,fun b hb hn=>h.block b hb (fun x=>hn (hS b hb x))⟩
theorem Kp.cell (h:Kp S w w1) {p:Addr} {v:Value} (hp:w.cell? p=some v) (hn:¬ S p.block):w1.cell? p=some v:=by
 rw [World.cell?_of_block (w:=w) (h.block _ (World.block_lt_of_cell? w p hp) hn),hp]
theorem Kp.arr (h:Kp S w w1) (hA:Arr w g t cs) (hn:¬ S g):Arr w1 g t cs:=(h.block g hA.lt hn).trans hA
theorem Kp.own (h:Kp S w w1) (hO:Own w base e a n c cs) (hn:∀ g,blk a=some g→¬ S g):Own w1 base e a n c cs:=by
 obtain ⟨h1,h2⟩:=hO;refine ⟨h1, ?_⟩;rcases h2 with h2|⟨g,cap,cur,hv,hg,hh,r⟩
 · exact Or.inl h2
 · refine Or.inr ⟨g,cap,cur,hv,hg, ?_,r⟩;have hlt:g<w.heap.size:=by
    rcases Nat.lt_or_ge g w.heap.size with h|h
    · exact h
    · simp [Array.getElem?_eq_none h] at hh
   have hg2:blk a=some g:=by
    simp only [Value.slice.injEq] at hv;rw [hv.1];rfl
   rw [h.block g hlt (hn g hg2),hh]
theorem Kp.wd {x:Nat} (h:Kp S w w1) (hx:Wd w a n c x) (hn:0<n→∀ g,blk a=some g→¬ S g):Wd w1 a n c x:=by
 obtain ⟨xs,h1,h2⟩:=hx;refine ⟨xs, ?_,h2⟩;refine ⟨Sl.len h1,Sl.cap h1,Sl.max h1,fun h0 => ?_⟩;obtain ⟨b,o,rfl,hc⟩:=Sl.rd h1 h0;exact ⟨b,o,rfl,fun i hi=>h.cell (hc i hi) (hn h0 b rfl)⟩
end
theorem Bo (h:Own w base e a n c cs) (hA:Arr w p t cs') (ht:t≠e):blk a≠some p:=by
 rcases h.2 with ⟨hv,_⟩|⟨g,cap,cur,hv,_,hh,_⟩
 · simp only [Value.slice.injEq] at hv;rw [hv.1];simp [blk]
 · simp only [Value.slice.injEq] at hv;rw [hv.1];intro he;have hgp:g=p:=by simpa [blk] using he
   subst hgp;unfold Arr at hA;rw [hh] at hA;simp only [Option.some.injEq,Obj.cells.injEq] at hA;exact ht hA.2.1.symm
def Jw (pa:Option Addr) (pn pc:Nat) (na:Option Addr) (nn nc:Nat):List Value:=[.slice pa pn pc, .slice na nn nc]
def Ck (w:World) (base p:Nat) (qa qb:Option Nat) (N:Nat) (z:Int):Prop :=
 ∃ pa pn pc na nn nc ps ns,Arr w p 149 (Jw pa pn pc na nn nc)∧blk pa=qa∧blk na=qb∧Own w base 143 pa pn pc (ps.map (BO .u64))∧Own w base 143 na nn nc (ns.map (BO .u64)) ∧
  W.bnd 18446744073709551616 ps∧W.bnd 18446744073709551616 ns∧(qa=none∨qa≠qb)∧(qb=none∨qb≠qa)∧pn≤N∧nn≤N∧z=(W.val 18446744073709551616 ps:Int)-(W.val 18446744073709551616 ns:Int)∧base≤p
theorem Ck.ext {w w':World} {base p N:Nat} {qa qb:Option Nat} {z:Int} (h:Ck w base p qa qb N z) (e:Ext w w'):Ck w' base p qa qb N z:=by
 obtain ⟨pa,pn,pc,na,nn,nc,ps,ns,h1,h2,h3,h4,h5,h6⟩:=h;exact ⟨pa,pn,pc,na,nn,nc,ps,ns,h1.ext e,h2,h3,h4.ext e,h5.ext e,h6⟩
theorem Ck.kp {S:Nat→Prop} (h:Ck w base p qa qb N z) (e:Kp S w w') (hp:¬ S p) (ha:∀ g,qa=some g→¬ S g) (hb:∀ g,qb=some g→¬ S g):Ck w' base p qa qb N z:=by
 obtain ⟨pa,pn,pc,na,nn,nc,ps,ns,h1,h2,h3,h4,h5,h6⟩:=h;exact ⟨pa,pn,pc,na,nn,nc,ps,ns,e.arr h1 hp,h2,h3,e.own h4 (fun g hg=>ha g (h2.symm.trans hg)),e.own h5 (fun g hg=>hb g (h3.symm.trans hg)),h6⟩
theorem Ck.le {M:Nat} (h:Ck w base p qa qb N z) (hM:N≤M):Ck w base p qa qb M z:=by
 obtain ⟨pa,pn,pc,na,nn,nc,ps,ns,h1,h2,h3,h4,h5,h6,h7,h8,h9,h10,h11,h12⟩:=h;exact ⟨pa,pn,pc,na,nn,nc,ps,ns,h1,h2,h3,h4,h5,h6,h7,h8,h9,by omega,by omega,h12⟩
theorem Ck.new (h:Arr w p 149 (Jw none 0 0 none 0 0)) (hb:base≤p):Ck w base p none none 0 0 :=
 ⟨none,0,0,none,0,0,[],[],h,rfl,rfl,Own.nil _ _ _,Own.nil _ _ _,(fun x hx=>by simp at hx),(fun x hx=>by simp at hx),Or.inl rfl,Or.inl rfl,lrf _,lrf _,by simp [W.val],hb⟩
theorem Ck.lt {w:World} {base p N:Nat} {qa qb:Option Nat} {z:Int} (h:Ck w base p qa qb N z):(base≤p∧p<w.heap.size)∧(∀ g,qa=some g→base≤g∧g<w.heap.size)∧(∀ g,qb=some g→base≤g∧g<w.heap.size):=by
 obtain ⟨pa,pn,pc,na,nn,nc,ps,ns,h1,h2,h3,h4,h5,h6,h7,h8,h9,h10,h11,h12,h13⟩:=h;exact ⟨⟨h13,h1.lt⟩,fun g hg=>h4.lt (h2.trans hg),fun g hg=>h5.lt (h3.trans hg)⟩
theorem RV (hs:decide (x<0)=s) (ht:decide (y<0)=s):x*y=((x.natAbs*y.natAbs:Nat):Int):=by
 have:=OA hs ht;rw [this];cases s <;> simp
theorem RW {t:Bool} (hs:decide (x<0)=s) (ht:decide (y<0)=t) (h:s≠t):x*y = -((x.natAbs*y.natAbs:Nat):Int):=by
 have:=OA hs ht;rw [this];cases s <;> cases t <;> simp at h ⊢
def UG (w:World) (base p:Nat) (qa qb:Option Nat) (N:Nat) (z:Int) (e:Ending) (w':World):Prop :=
 e = .returned (.tuple #[])∧∃ qa' qb',Ck w' base p qa' qb' (max N 300+40) z∧Kp (fun b=>b=p∨qa=some b∨qb=some b) w w'∧(qa'=qa∨∃ g,qa'=some g∧w.heap.size≤g)∧(qb'=qb∨∃ g,qb'=some g∧w.heap.size≤g)
theorem Jx (hS:Ck w base p qa qb N z) (hx:Ax w v x) (hy:Ax w v' y) (sx:H3 (fun g=>qa≠some g∧qb≠some g) v) (sy:H3 (fun g=>qa≠some g∧qb≠some g) v') (bx:x.natAbs<P2 9600) (by_:y.natAbs<P2 9600) (hsm:x.natAbs<P2 2496∨y.natAbs<P2 2496) (hN:N≤100000000) (hb:base≤w.heap.size) :
 Calls prog 131 #[.pointer (some ⟨p,0,none⟩),v,v'] w (UG w base p qa qb N (z+x*y)):=by
 obtain ⟨s,a,n,c,rfl,HS,hx⟩:=hx;obtain ⟨t,b,m,d,rfl,HT,hy⟩:=hy;have sx:=sx.at
 have sy:=sy.at
 have k1:=hx.len (k:=150) bx;have k2:=hy.len (k:=150) by_;have k3:=hx.zero;have k4:=hy.zero;have k40:n<40∨m<40:=by
  rcases hsm with h|h
  · left; have:=hx.len (k:=39) h; omega
  · right; have:=hy.len (k:=39) h; omega
 clear bx by_ hsm;obtain ⟨xs,hxs,nx⟩:=hx;obtain ⟨ys,hys,ny⟩:=hy;have HSP:=qh hS;obtain ⟨pa,pn,pc,na,nn,nc,ps,ns,hA,hqa,hqb,hPo,hNo,bp,bn,hq1,hq2,hpN,hnN,hz,hpb⟩:=hS;have HQ:=qh (And.intro (And.intro hqa hqb) (And.intro hq1 hq2));have HZ:=qh hz;have HBP:=qh (And.intro bp bn);have SX:=qh sx;have SY:=qh sy;have NX:=qh nx;have NY:=qh ny;have hpl:=hA.lt;clear hqa hqb hq1 hq2 hz bp bn sx sy nx ny
 go_enter func131,ntmps131
 go_upto_region 1 with (fail)
 refine F0 ?_;intro w0 hE0 hB0 hB1 hz0;have p00:=hB0.c 0 rfl;have p01:=hB0.c 1 rfl;have p10:=hB1.c 0 rfl;have p11:=hB1.c 1 rfl;have u0:w0.cell? ⟨p,0,none⟩=some (.slice pa pn pc):=(hA.ext hE0).cell (i:=0) (by simp [Jw]);have u1:w0.cell? ⟨p,1,none⟩=some (.slice na nn nc):=(hA.ext hE0).cell (i:=1) (by simp [Jw]);clear hB0 hB1 hz0;by_cases hn0:n=0
 · have HX0:Hid (z+x*y=z):=qh (by have:=k3.1 hn0; rw [show x=0 by omega]; simp);subst hn0;go_wp2
   go_end0
   rw [HX0.out];exact ⟨rfl,qa,qb,(HSP.out.ext hE0).le (by omega),Kp.ofExt hE0,Or.inl rfl,Or.inl rfl⟩
 · have hn1:((n:Int) == 0)=false:=by simp; omega
   by_cases hm0:m=0
   · have HX0:Hid (z+x*y=z):=qh (by have:=k4.1 hm0; rw [show y=0 by omega]; simp);subst hm0;go_wp2
     go_end0
     rw [HX0.out];exact ⟨rfl,qa,qb,(HSP.out.ext hE0).le (by omega),Kp.ofExt hE0,Or.inl rfl,Or.inl rfl⟩
   · have hm1:((m:Int) == 0)=false:=by simp; omega
     cases s <;> cases t
     · have hbx:blk a≠qa:=fun he=>by
        obtain ⟨bb,oo,rfl,_⟩:=hxs.at (j:=0) (by omega);exact (SX.out (by omega) bb rfl).1 he.symm
       have hby:blk b≠qa:=fun he=>by
        obtain ⟨bb,oo,rfl,_⟩:=hys.at (j:=0) (by omega);exact (SY.out (by omega) bb rfl).1 he.symm
       have hneA:blk pa≠some p:=Bo hPo hA (by decide);have hneO:blk na≠some p:=Bo hNo hA (by decide);go_wp2
       refine Cs 9 (by decide) (by kernel_rfl) (fun wx=>Ext w0 wx)
        [he (.pointer (some ⟨p,0,none⟩)),
 he (.pointer (some ⟨p,0,none⟩)),
 he (.pointer (some ⟨p,0,none⟩)),
 he (.pointer (some ⟨p,0,none⟩)),
 he (.slice pa pn pc),
 he (.pointer (some ⟨w.heap.size,1,none⟩)),
 he (.slice a n c),
 he (.pointer (some ⟨(w.heap.size+1),1,none⟩)),
 he (.slice b m d)]
        (by kernel_rfl) (by kernel_rfl) (fun _ _ _ d _ h=>by cases d <;> exact h) (fun _ _ e h=>h.trans e) ((Ext.refl w0).drew) ⟨trivial,trivial,trivial,trivial,trivial,trivial,trivial,trivial,trivial,trivial⟩ ⟨?o0, ?o1, ?o2, ?o3, ?o4, ?o5, ?o6, ?o7, ?o8,trivial⟩ ?fin
       case o0=>exact omv rfl rfl (fun _ _=>id)
       case o1=>exact omv rfl rfl (fun _ _=>id)
       case o2=>exact onc rfl rfl (fun _ _=>id)
       case o3=>exact ofa (d:=0) rfl rfl (fun _ _=>id) (by kernel_rfl) rfl
       case o4=>exact ol rfl rfl (fun _ _=>id) (by kernel_rfl) (by assumption)
       case o5=>exact ofa (d:=1) rfl rfl (fun _ _=>id) (by kernel_rfl) rfl
       case o6=>exact ol rfl rfl (fun _ _=>id) (by kernel_rfl) (by assumption)
       case o7=>exact ofa (d:=1) rfl rfl (fun _ _=>id) (by kernel_rfl) rfl
       case o8=>exact ol rfl rfl (fun _ _=>id) (by kernel_rfl) (by assumption)
       case fin =>
        intro wx hC;change wpList _ _ _ _ _ _;simp only [List.modify_succ_cons,List.modify_zero_cons,Dz,List.length_cons,List.length_nil,List.drop_succ_cons,List.drop_zero,Act.put,List.setIfInBounds_toArray,List.set_cons_succ,List.set_cons_zero];have hAx:=(hA.ext hE0).ext hC;have hOx:=(hPo.ext hE0).ext hC;have hOo:=(hNo.ext hE0).ext hC;have hsz:=hC.size;have hsz0:=hE0.size
        have hacc:=CU (w:=wx) (V:=W.val 18446744073709551616 ps) hOx HBP.out.1 rfl ((hxs.ext hE0).ext hC) ((hys.ext hE0).ext hC) NX.out NY.out (by omega) (by omega) (by rw [HQ.out.1.1]; exact hbx) (by rw [HQ.out.1.1]; exact hby) k40 (by omega) (by omega) (by omega) (by omega)
        go_wp2_with fail
        refine hacc.mono ?_;rintro e w2 ⟨a',n',c',zs,rfl,hT,hv,hn'⟩;have hA2:=hAx.kept hT.grown (fun he=>hneA he.symm);have q1:=hA2.c 0 rfl;have q2:=hA2.frozen 0;have hO2:=hOo.kept hT.grown (by rw [HQ.out.1.2,HQ.out.1.1]; exact HQ.out.2.2);have HV:=qh hv;have hgs:=hT.grown.size;clear hacc hv;go_wp2
        go_end0
        have hgp:=Ao w2 p 0 (.slice a' n' c');have hneT:=Bo hT.own hA2 (by decide);have hE0x:=hE0.trans hC;refine ⟨rfl,blk a',qb,⟨a',n',c',na,nn,nc,zs,ns,hA2.set 0 (.slice a' n' c'),rfl,HQ.out.1.2,hT.own.kept hgp (Or.inr hneT),hO2.kept hgp (Or.inr hneO),hT.bnd,HBP.out.2, ?_, ?_,by omega,by omega, ?_,hpb⟩, ?_, ?_, ?_⟩
        · rcases hT.src with e|⟨g,e,hg⟩
          · rw [e,HQ.out.1.1]; exact HQ.out.2.1
          · refine Or.inr fun he => ?_;rw [e,←HQ.out.1.2] at he; have:=(hNo.lt he.symm).2; omega
        · rcases HQ.out.2.2 with h|h
          · exact Or.inl h
          · refine Or.inr fun he => ?_;rcases hT.src with e|⟨g,e,hg⟩
            · rw [e,HQ.out.1.1] at he; exact h he
            · rw [e,←HQ.out.1.2] at he; have:=(hNo.lt he).2; omega
        · rw [HZ.out,HV.out,RV HS.out HT.out,Int.natCast_add]; omega
        · exact ((Kp.ofExt hE0x).trans (Kp.ofGrown hT.grown (S:=fun b=>b=p∨qa=some b∨qb=some b) (fun g hg=>Or.inr (Or.inl (HQ.out.1.1.symm.trans hg)))) (fun _ _ h=>h)).trans (Kp.ofGrown hgp (S:=fun b=>b=p∨qa=some b∨qb=some b) (fun g hg=>Or.inl (by simpa using hg.symm))) (fun _ _ h=>h)
        · rcases hT.src with e|⟨g,e,hg⟩
          · exact Or.inl (e.trans HQ.out.1.1)
          · exact Or.inr ⟨g,e,by omega⟩
        · exact Or.inl rfl
     · have hbx:blk a≠qb:=fun he=>by
        obtain ⟨bb,oo,rfl,_⟩:=hxs.at (j:=0) (by omega);exact (SX.out (by omega) bb rfl).2 he.symm
       have hby:blk b≠qb:=fun he=>by
        obtain ⟨bb,oo,rfl,_⟩:=hys.at (j:=0) (by omega);exact (SY.out (by omega) bb rfl).2 he.symm
       have hneA:blk na≠some p:=Bo hNo hA (by decide);have hneO:blk pa≠some p:=Bo hPo hA (by decide);go_wp2
       refine Cs 9 (by decide) (by kernel_rfl) (fun wx=>Ext w0 wx)
        [he (.pointer (some ⟨p,0,none⟩)),
 he (.pointer (some ⟨p,0,none⟩)),
 he (.pointer (some ⟨p,0,none⟩)),
 he (.pointer (some ⟨p,1,none⟩)),
 he (.slice na nn nc),
 he (.pointer (some ⟨w.heap.size,1,none⟩)),
 he (.slice a n c),
 he (.pointer (some ⟨(w.heap.size+1),1,none⟩)),
 he (.slice b m d)]
        (by kernel_rfl) (by kernel_rfl) (fun _ _ _ d _ h=>by cases d <;> exact h) (fun _ _ e h=>h.trans e) ((Ext.refl w0).drew) ⟨trivial,trivial,trivial,trivial,trivial,trivial,trivial,trivial,trivial,trivial⟩ ⟨?o0, ?o1, ?o2, ?o3, ?o4, ?o5, ?o6, ?o7, ?o8,trivial⟩ ?fin
       case o0=>exact omv rfl rfl (fun _ _=>id)
       case o1=>exact omv rfl rfl (fun _ _=>id)
       case o2=>exact onc rfl rfl (fun _ _=>id)
       case o3=>exact ofa (d:=1) rfl rfl (fun _ _=>id) (by kernel_rfl) rfl
       case o4=>exact ol rfl rfl (fun _ _=>id) (by kernel_rfl) (by assumption)
       case o5=>exact ofa (d:=1) rfl rfl (fun _ _=>id) (by kernel_rfl) rfl
       case o6=>exact ol rfl rfl (fun _ _=>id) (by kernel_rfl) (by assumption)
       case o7=>exact ofa (d:=1) rfl rfl (fun _ _=>id) (by kernel_rfl) rfl
       case o8=>exact ol rfl rfl (fun _ _=>id) (by kernel_rfl) (by assumption)
       case fin =>
        intro wx hC;change wpList _ _ _ _ _ _;simp only [List.modify_succ_cons,List.modify_zero_cons,Dz,List.length_cons,List.length_nil,List.drop_succ_cons,List.drop_zero,Act.put,List.setIfInBounds_toArray,List.set_cons_succ,List.set_cons_zero];have hAx:=(hA.ext hE0).ext hC;have hOx:=(hNo.ext hE0).ext hC;have hOo:=(hPo.ext hE0).ext hC;have hsz:=hC.size;have hsz0:=hE0.size
        have hacc:=CU (w:=wx) (V:=W.val 18446744073709551616 ns) hOx HBP.out.2 rfl ((hxs.ext hE0).ext hC) ((hys.ext hE0).ext hC) NX.out NY.out (by omega) (by omega) (by rw [HQ.out.1.2]; exact hbx) (by rw [HQ.out.1.2]; exact hby) k40 (by omega) (by omega) (by omega) (by omega)
        go_wp2_with fail
        refine hacc.mono ?_;rintro e w2 ⟨a',n',c',zs,rfl,hT,hv,hn'⟩;have hA2:=hAx.kept hT.grown (fun he=>hneA he.symm);have q1:=hA2.c 1 rfl;have q2:=hA2.frozen 1;have hO2:=hOo.kept hT.grown (by rw [HQ.out.1.1,HQ.out.1.2]; exact HQ.out.2.1);have HV:=qh hv;have hgs:=hT.grown.size;clear hacc hv;go_wp2
        go_end0
        have hgp:=Ao w2 p 1 (.slice a' n' c');have hneT:=Bo hT.own hA2 (by decide);have hE0x:=hE0.trans hC;refine ⟨rfl,qa,blk a',⟨pa,pn,pc,a',n',c',ps,zs,hA2.set 1 (.slice a' n' c'),HQ.out.1.1,rfl,hO2.kept hgp (Or.inr hneO),hT.own.kept hgp (Or.inr hneT),HBP.out.1,hT.bnd, ?_, ?_,by omega,by omega, ?_,hpb⟩, ?_, ?_, ?_⟩
        · rcases HQ.out.2.1 with h|h
          · exact Or.inl h
          · refine Or.inr fun he => ?_;rcases hT.src with e|⟨g,e,hg⟩
            · rw [e,HQ.out.1.2] at he; exact h he
            · rw [e,←HQ.out.1.1] at he; have:=(hPo.lt he).2; omega
        · rcases hT.src with e|⟨g,e,hg⟩
          · rw [e,HQ.out.1.2]; exact HQ.out.2.2
          · refine Or.inr fun he => ?_;rw [e,←HQ.out.1.1] at he; have:=(hPo.lt he.symm).2; omega
        · rw [HZ.out,HV.out,RW HS.out HT.out (by decide),Int.natCast_add]; omega
        · exact ((Kp.ofExt hE0x).trans (Kp.ofGrown hT.grown (S:=fun b=>b=p∨qa=some b∨qb=some b) (fun g hg=>Or.inr (Or.inr (HQ.out.1.2.symm.trans hg)))) (fun _ _ h=>h)).trans (Kp.ofGrown hgp (S:=fun b=>b=p∨qa=some b∨qb=some b) (fun g hg=>Or.inl (by simpa using hg.symm))) (fun _ _ h=>h)
        · exact Or.inl rfl
        · rcases hT.src with e|⟨g,e,hg⟩
          · exact Or.inl (e.trans HQ.out.1.2)
          · exact Or.inr ⟨g,e,by omega⟩
     · have hbx:blk a≠qb:=fun he=>by
        obtain ⟨bb,oo,rfl,_⟩:=hxs.at (j:=0) (by omega);exact (SX.out (by omega) bb rfl).2 he.symm
       have hby:blk b≠qb:=fun he=>by
        obtain ⟨bb,oo,rfl,_⟩:=hys.at (j:=0) (by omega);exact (SY.out (by omega) bb rfl).2 he.symm
       have hneA:blk na≠some p:=Bo hNo hA (by decide);have hneO:blk pa≠some p:=Bo hPo hA (by decide);go_wp2
       refine Cs 9 (by decide) (by kernel_rfl) (fun wx=>Ext w0 wx)
        [he (.pointer (some ⟨p,0,none⟩)),
 he (.pointer (some ⟨p,0,none⟩)),
 he (.pointer (some ⟨p,0,none⟩)),
 he (.pointer (some ⟨p,1,none⟩)),
 he (.slice na nn nc),
 he (.pointer (some ⟨w.heap.size,1,none⟩)),
 he (.slice a n c),
 he (.pointer (some ⟨(w.heap.size+1),1,none⟩)),
 he (.slice b m d)]
        (by kernel_rfl) (by kernel_rfl) (fun _ _ _ d _ h=>by cases d <;> exact h) (fun _ _ e h=>h.trans e) ((Ext.refl w0).drew) ⟨trivial,trivial,trivial,trivial,trivial,trivial,trivial,trivial,trivial,trivial⟩ ⟨?o0, ?o1, ?o2, ?o3, ?o4, ?o5, ?o6, ?o7, ?o8,trivial⟩ ?fin
       case o0=>exact omv rfl rfl (fun _ _=>id)
       case o1=>exact omv rfl rfl (fun _ _=>id)
       case o2=>exact onc rfl rfl (fun _ _=>id)
       case o3=>exact ofa (d:=1) rfl rfl (fun _ _=>id) (by kernel_rfl) rfl
       case o4=>exact ol rfl rfl (fun _ _=>id) (by kernel_rfl) (by assumption)
       case o5=>exact ofa (d:=1) rfl rfl (fun _ _=>id) (by kernel_rfl) rfl
       case o6=>exact ol rfl rfl (fun _ _=>id) (by kernel_rfl) (by assumption)
       case o7=>exact ofa (d:=1) rfl rfl (fun _ _=>id) (by kernel_rfl) rfl
       case o8=>exact ol rfl rfl (fun _ _=>id) (by kernel_rfl) (by assumption)
       case fin =>
        intro wx hC;change wpList _ _ _ _ _ _;simp only [List.modify_succ_cons,List.modify_zero_cons,Dz,List.length_cons,List.length_nil,List.drop_succ_cons,List.drop_zero,Act.put,List.setIfInBounds_toArray,List.set_cons_succ,List.set_cons_zero];have hAx:=(hA.ext hE0).ext hC;have hOx:=(hNo.ext hE0).ext hC;have hOo:=(hPo.ext hE0).ext hC;have hsz:=hC.size;have hsz0:=hE0.size
        have hacc:=CU (w:=wx) (V:=W.val 18446744073709551616 ns) hOx HBP.out.2 rfl ((hxs.ext hE0).ext hC) ((hys.ext hE0).ext hC) NX.out NY.out (by omega) (by omega) (by rw [HQ.out.1.2]; exact hbx) (by rw [HQ.out.1.2]; exact hby) k40 (by omega) (by omega) (by omega) (by omega)
        go_wp2_with fail
        refine hacc.mono ?_;rintro e w2 ⟨a',n',c',zs,rfl,hT,hv,hn'⟩;have hA2:=hAx.kept hT.grown (fun he=>hneA he.symm);have q1:=hA2.c 1 rfl;have q2:=hA2.frozen 1;have hO2:=hOo.kept hT.grown (by rw [HQ.out.1.1,HQ.out.1.2]; exact HQ.out.2.1);have HV:=qh hv;have hgs:=hT.grown.size;clear hacc hv;go_wp2
        go_end0
        have hgp:=Ao w2 p 1 (.slice a' n' c');have hneT:=Bo hT.own hA2 (by decide);have hE0x:=hE0.trans hC;refine ⟨rfl,qa,blk a',⟨pa,pn,pc,a',n',c',ps,zs,hA2.set 1 (.slice a' n' c'),HQ.out.1.1,rfl,hO2.kept hgp (Or.inr hneO),hT.own.kept hgp (Or.inr hneT),HBP.out.1,hT.bnd, ?_, ?_,by omega,by omega, ?_,hpb⟩, ?_, ?_, ?_⟩
        · rcases HQ.out.2.1 with h|h
          · exact Or.inl h
          · refine Or.inr fun he => ?_;rcases hT.src with e|⟨g,e,hg⟩
            · rw [e,HQ.out.1.2] at he; exact h he
            · rw [e,←HQ.out.1.1] at he; have:=(hPo.lt he).2; omega
        · rcases hT.src with e|⟨g,e,hg⟩
          · rw [e,HQ.out.1.2]; exact HQ.out.2.2
          · refine Or.inr fun he => ?_;rw [e,←HQ.out.1.1] at he; have:=(hPo.lt he.symm).2; omega
        · rw [HZ.out,HV.out,RW HS.out HT.out (by decide),Int.natCast_add]; omega
        · exact ((Kp.ofExt hE0x).trans (Kp.ofGrown hT.grown (S:=fun b=>b=p∨qa=some b∨qb=some b) (fun g hg=>Or.inr (Or.inr (HQ.out.1.2.symm.trans hg)))) (fun _ _ h=>h)).trans (Kp.ofGrown hgp (S:=fun b=>b=p∨qa=some b∨qb=some b) (fun g hg=>Or.inl (by simpa using hg.symm))) (fun _ _ h=>h)
        · exact Or.inl rfl
        · rcases hT.src with e|⟨g,e,hg⟩
          · exact Or.inl (e.trans HQ.out.1.2)
          · exact Or.inr ⟨g,e,by omega⟩
     · have hbx:blk a≠qa:=fun he=>by
        obtain ⟨bb,oo,rfl,_⟩:=hxs.at (j:=0) (by omega);exact (SX.out (by omega) bb rfl).1 he.symm
       have hby:blk b≠qa:=fun he=>by
        obtain ⟨bb,oo,rfl,_⟩:=hys.at (j:=0) (by omega);exact (SY.out (by omega) bb rfl).1 he.symm
       have hneA:blk pa≠some p:=Bo hPo hA (by decide);have hneO:blk na≠some p:=Bo hNo hA (by decide);go_wp2
       refine Cs 9 (by decide) (by kernel_rfl) (fun wx=>Ext w0 wx)
        [he (.pointer (some ⟨p,0,none⟩)),
 he (.pointer (some ⟨p,0,none⟩)),
 he (.pointer (some ⟨p,0,none⟩)),
 he (.pointer (some ⟨p,0,none⟩)),
 he (.slice pa pn pc),
 he (.pointer (some ⟨w.heap.size,1,none⟩)),
 he (.slice a n c),
 he (.pointer (some ⟨(w.heap.size+1),1,none⟩)),
 he (.slice b m d)]
        (by kernel_rfl) (by kernel_rfl) (fun _ _ _ d _ h=>by cases d <;> exact h) (fun _ _ e h=>h.trans e) ((Ext.refl w0).drew) ⟨trivial,trivial,trivial,trivial,trivial,trivial,trivial,trivial,trivial,trivial⟩ ⟨?o0, ?o1, ?o2, ?o3, ?o4, ?o5, ?o6, ?o7, ?o8,trivial⟩ ?fin
       case o0=>exact omv rfl rfl (fun _ _=>id)
       case o1=>exact omv rfl rfl (fun _ _=>id)
       case o2=>exact onc rfl rfl (fun _ _=>id)
       case o3=>exact ofa (d:=0) rfl rfl (fun _ _=>id) (by kernel_rfl) rfl
       case o4=>exact ol rfl rfl (fun _ _=>id) (by kernel_rfl) (by assumption)
       case o5=>exact ofa (d:=1) rfl rfl (fun _ _=>id) (by kernel_rfl) rfl
       case o6=>exact ol rfl rfl (fun _ _=>id) (by kernel_rfl) (by assumption)
       case o7=>exact ofa (d:=1) rfl rfl (fun _ _=>id) (by kernel_rfl) rfl
       case o8=>exact ol rfl rfl (fun _ _=>id) (by kernel_rfl) (by assumption)
       case fin =>
        intro wx hC;change wpList _ _ _ _ _ _;simp only [List.modify_succ_cons,List.modify_zero_cons,Dz,List.length_cons,List.length_nil,List.drop_succ_cons,List.drop_zero,Act.put,List.setIfInBounds_toArray,List.set_cons_succ,List.set_cons_zero];have hAx:=(hA.ext hE0).ext hC;have hOx:=(hPo.ext hE0).ext hC;have hOo:=(hNo.ext hE0).ext hC;have hsz:=hC.size;have hsz0:=hE0.size
        have hacc:=CU (w:=wx) (V:=W.val 18446744073709551616 ps) hOx HBP.out.1 rfl ((hxs.ext hE0).ext hC) ((hys.ext hE0).ext hC) NX.out NY.out (by omega) (by omega) (by rw [HQ.out.1.1]; exact hbx) (by rw [HQ.out.1.1]; exact hby) k40 (by omega) (by omega) (by omega) (by omega)
        go_wp2_with fail
        refine hacc.mono ?_;rintro e w2 ⟨a',n',c',zs,rfl,hT,hv,hn'⟩;have hA2:=hAx.kept hT.grown (fun he=>hneA he.symm);have q1:=hA2.c 0 rfl;have q2:=hA2.frozen 0;have hO2:=hOo.kept hT.grown (by rw [HQ.out.1.2,HQ.out.1.1]; exact HQ.out.2.2);have HV:=qh hv;have hgs:=hT.grown.size;clear hacc hv;go_wp2
        go_end0
        have hgp:=Ao w2 p 0 (.slice a' n' c');have hneT:=Bo hT.own hA2 (by decide);have hE0x:=hE0.trans hC;refine ⟨rfl,blk a',qb,⟨a',n',c',na,nn,nc,zs,ns,hA2.set 0 (.slice a' n' c'),rfl,HQ.out.1.2,hT.own.kept hgp (Or.inr hneT),hO2.kept hgp (Or.inr hneO),hT.bnd,HBP.out.2, ?_, ?_,by omega,by omega, ?_,hpb⟩, ?_, ?_, ?_⟩
        · rcases hT.src with e|⟨g,e,hg⟩
          · rw [e,HQ.out.1.1]; exact HQ.out.2.1
          · refine Or.inr fun he => ?_;rw [e,←HQ.out.1.2] at he; have:=(hNo.lt he.symm).2; omega
        · rcases HQ.out.2.2 with h|h
          · exact Or.inl h
          · refine Or.inr fun he => ?_;rcases hT.src with e|⟨g,e,hg⟩
            · rw [e,HQ.out.1.1] at he; exact h he
            · rw [e,←HQ.out.1.2] at he; have:=(hNo.lt he).2; omega
        · rw [HZ.out,HV.out,RV HS.out HT.out,Int.natCast_add]; omega
        · exact ((Kp.ofExt hE0x).trans (Kp.ofGrown hT.grown (S:=fun b=>b=p∨qa=some b∨qb=some b) (fun g hg=>Or.inr (Or.inl (HQ.out.1.1.symm.trans hg)))) (fun _ _ h=>h)).trans (Kp.ofGrown hgp (S:=fun b=>b=p∨qa=some b∨qb=some b) (fun g hg=>Or.inl (by simpa using hg.symm))) (fun _ _ h=>h)
        · rcases hT.src with e|⟨g,e,hg⟩
          · exact Or.inl (e.trans HQ.out.1.1)
          · exact Or.inr ⟨g,e,by omega⟩
        · exact Or.inl rfl
theorem UY (hs:decide (z<0)=s) (ht:decide (y<0)=s):z+y=if s=true then -((z.natAbs+y.natAbs:Nat):Int) else ((z.natAbs+y.natAbs:Nat):Int):=by
 subst hs;by_cases h1:z<0 <;> by_cases h2:y<0 <;> simp [h1,h2] at ht ⊢ <;> omega
theorem TI {t:Bool} (hs:decide (z<0)=s) (ht:decide (y<0)=t) (hne:s≠t) (hle:y.natAbs≤z.natAbs):z+y=if s=true then -((z.natAbs-y.natAbs:Nat):Int) else ((z.natAbs-y.natAbs:Nat):Int):=by
 subst hs; subst ht;by_cases h1:z<0 <;> by_cases h2:y<0 <;> simp [h1,h2] at hne ⊢ <;> omega
theorem TJ {t:Bool} (hs:decide (z<0)=s) (ht:decide (y<0)=t) (hne:s≠t) (hle:z.natAbs<y.natAbs):z+y=if t=true then -((y.natAbs-z.natAbs:Nat):Int) else ((y.natAbs-z.natAbs:Nat):Int):=by
 subst hs; subst ht;by_cases h1:z<0 <;> by_cases h2:y<0 <;> simp [h1,h2] at hne ⊢ <;> omega
theorem D2 {x y:Nat}:0≤Ba (x:Int) (y:Int)↔y≤x:=by
 unfold Ba;split
 · omega
 · split <;> omega
theorem I5 (h:Ax w v z) (h':Ax w v' y) (bz:z.natAbs<P2 9600) (by_:y.natAbs<P2 9600):Calls prog 118 #[v,v'] w (Ei w (z+y)):=by
 obtain ⟨s,a,n,c,rfl,HS,hx⟩:=h;obtain ⟨t,b,m,d,rfl,HT,hy⟩:=h';have hadd:=fun (wx:World) (hC:Ext w wx)=>qh (VH (hx.ext hC) (hy.ext hC) bz by_);have hsb1:=fun (wx:World) (hC:Ext w wx) (hle:y.natAbs≤z.natAbs)=>qh (UC (hx.ext hC) (hy.ext hC) bz hle);have hsb2:=fun (wx:World) (hC:Ext w wx) (hle:z.natAbs≤y.natAbs)=>qh (UC (hy.ext hC) (hx.ext hC) by_ hle);have hcmp:=fun (wx:World) (hC:Ext w wx)=>qh (UD (hx.ext hC) (hy.ext hC));clear bz by_
 go_enter func118,ntmps118
 go_upto_region 1 with (fail)
 refine F3 ?_;intro w0 hE0 hB0 hB1 hB2 hz0;have p00:=hB0.c 0 rfl;have p01:=hB0.c 1 rfl;have p10:=hB1.c 0 rfl;have p11:=hB1.c 1 rfl;have hR:Arr w0 (w.heap.size+2) 90 (Ab false none 0 0):=hB2;clear hz0;by_cases hst:s=t
 · subst hst;have hbb:(s == s)=true:=by simp
   go_wp2;have HF1:=fun (wx:World) (hC:Ext w0 wx)=>qh (And.intro (hC.cell p00) (And.intro (hC.cell p01) (And.intro (hC.cell p10) (hC.cell p11))))
   refine AM (by kernel_rfl) (fun wx=>Ext w0 wx)
    [he (.pointer (some ⟨w.heap.size,0,none⟩)),
 he (.bool s),
 he (.pointer (some ⟨w.heap.size,1,none⟩)),
 he (.slice a n c),
 he (.pointer (some ⟨(w.heap.size+1),1,none⟩)),
 he (.slice b m d),
 hp (fun v wx=>∃ a' n' c',v = .slice a' n' c'∧Wd wx a' n' c' (z.natAbs+y.natAbs)),
 hp (fun v wx=>∃ s' a' n' c',v = .agg (Ab s' a' n' c').toArray∧Hid (decide (z+y<0)=s')∧Wd wx a' n' c' (z+y).natAbs)]
    (by kernel_rfl) (fun _ _ e h=>h.trans e) ((Ext.refl w0).drew) ⟨trivial,trivial,trivial,trivial,trivial,trivial,fun v w w' e ⟨a',n',c',h1,h2⟩=>⟨a',n',c',h1,h2.ext e⟩,fun v w w' e ⟨s',a',n',c',h1,h2,h3⟩=>⟨s',a',n',c',h1,h2,h3.ext e⟩,trivial⟩ ⟨?o0, ?o1, ?o2, ?o3, ?o4, ?o5, ?o6, ?o7,trivial⟩ ?fin
   case o0=>exact ofa (d:=0) rfl rfl (fun _ _=>id) (by kernel_rfl) rfl
   case o1=>exact ol rfl rfl (fun _ _=>id) (by kernel_rfl) (by assumption)
   case o2=>exact ofa (d:=1) rfl rfl (fun _ _=>id) (by kernel_rfl) rfl
   case o3=>exact ol rfl rfl (fun _ _=>id) (by kernel_rfl) (by assumption)
   case o4=>exact ofa (d:=1) rfl rfl (fun _ _=>id) (by kernel_rfl) rfl
   case o5=>exact ol rfl rfl (fun _ _=>id) (by kernel_rfl) (by assumption)
   case o6 =>
    refine Aj rfl fun ρ wx hC hcst hfn h => ?_;have e1:ρ (.tmp 13)=(.slice a n c):=h.2.1;have e2:ρ (.tmp 15)=(.slice b m d):=h.2.2.1;obtain ⟨k00,k01,k10,k11⟩:=(HF1 wx hC).out;refine ⟨151,#[.slice a n c, .slice b m d],by go_simp,((hadd wx (hE0.trans hC)).out).mono ?_⟩;rintro e w' ⟨a',n',c',rfl,hE',hn'⟩;exact ⟨_,rfl,hE',a',n',c',rfl,hn'⟩
   case o7 =>
    refine Aj rfl fun ρ wx hC hcst hfn h => ?_;have e1:ρ (.tmp 11)=(.bool s):=h.2.1;obtain ⟨v2,e2,a2,n2,c2,rfl,d2⟩:=h.2.2.1;obtain ⟨k00,k01,k10,k11⟩:=(HF1 wx hC).out;refine ⟨144,#[.bool s, .slice a2 n2 c2],by go_simp,(BM d2 (z:=z+y) (UY HS.out HT.out)).mono ?_⟩;rintro e w' ⟨s',a',n',c',rfl,hE',hs',hn'⟩;exact ⟨_,rfl,hE',s',a',n',c',rfl,hs',hn'⟩
   case fin =>
    intro wx hC;rintro _ ⟨_,_,_,rfl,_⟩;rintro _ ⟨s1,a1,n1,c1,rfl,HS1,hx1⟩;change wpList _ _ _ _ _ _;simp only [List.length_cons,List.length_nil,List.drop_succ_cons,List.drop_zero,Act.put,List.setIfInBounds_toArray,List.set_cons_succ,List.set_cons_zero];have hR1:=hR.ext hC
    go_wp2_with (refine Aa (vs:=Ab s1 a1 n1 c1) rfl rfl rfl rfl rfl Ad hR1 rfl (Ai _ _ _ _) ?_; intro w9 hB9 hg9)
    exact bodyPost_ret (Al rfl Ad rfl hB9) rfl (Bt (hE0.trans hC) hR1 (Aq _ _ _ _) hg9 (by omega) HS1 hx1)
 · have hbb:(s == t)=false:=by simpa using hst
   go_wp2_with fail
   refine (hcmp _ hE0).out.mono ?_;rintro e w1 ⟨rfl,hQ⟩;have hEw:=hE0.trans hQ.ext;have hR':=hR.ext hQ.ext;have r00:=hQ.ext.cell p00;have r01:=hQ.ext.cell p01;have r10:=hQ.ext.cell p10;have r11:=hQ.ext.cell p11;by_cases hle:y.natAbs≤z.natAbs
   · have hcz:(0:Int)≤Ba (z.natAbs:Int) (y.natAbs:Int):=D2.2 hle;generalize Ba (z.natAbs:Int) (y.natAbs:Int)=cv at *
     go_wp2;have HF2:=fun (wx:World) (hC:Ext w1 wx)=>qh (And.intro (hC.cell r00) (And.intro (hC.cell r01) (And.intro (hC.cell r10) (hC.cell r11))))
     refine AM (by kernel_rfl) (fun wx=>Ext w1 wx)
      [he (.pointer (some ⟨w.heap.size,0,none⟩)),
 he (.bool s),
 he (.pointer (some ⟨w.heap.size,1,none⟩)),
 he (.slice a n c),
 he (.pointer (some ⟨(w.heap.size+1),1,none⟩)),
 he (.slice b m d),
 hp (fun v wx=>∃ a' n' c',v = .slice a' n' c'∧Wd wx a' n' c' (z.natAbs-y.natAbs)),
 hp (fun v wx=>∃ s' a' n' c',v = .agg (Ab s' a' n' c').toArray∧Hid (decide (z+y<0)=s')∧Wd wx a' n' c' (z+y).natAbs)]
      (by kernel_rfl) (fun _ _ e h=>h.trans e) ((Ext.refl w1).drew) ⟨trivial,trivial,trivial,trivial,trivial,trivial,fun v w w' e ⟨a',n',c',h1,h2⟩=>⟨a',n',c',h1,h2.ext e⟩,fun v w w' e ⟨s',a',n',c',h1,h2,h3⟩=>⟨s',a',n',c',h1,h2,h3.ext e⟩,trivial⟩ ⟨?o0, ?o1, ?o2, ?o3, ?o4, ?o5, ?o6, ?o7,trivial⟩ ?fin
     case o0=>exact ofa (d:=0) rfl rfl (fun _ _=>id) (by kernel_rfl) rfl
     case o1=>exact ol rfl rfl (fun _ _=>id) (by kernel_rfl) (by assumption)
     case o2=>exact ofa (d:=1) rfl rfl (fun _ _=>id) (by kernel_rfl) rfl
     case o3=>exact ol rfl rfl (fun _ _=>id) (by kernel_rfl) (by assumption)
     case o4=>exact ofa (d:=1) rfl rfl (fun _ _=>id) (by kernel_rfl) rfl
     case o5=>exact ol rfl rfl (fun _ _=>id) (by kernel_rfl) (by assumption)
     case o6 =>
      refine Aj rfl fun ρ wx hC hcst hfn h => ?_;have e1:ρ (.tmp 27)=(.slice a n c):=h.2.1;have e2:ρ (.tmp 29)=(.slice b m d):=h.2.2.1;obtain ⟨k00,k01,k10,k11⟩:=(HF2 wx hC).out;refine ⟨152,#[.slice a n c, .slice b m d],by go_simp,((hsb1 wx (hEw.trans hC) hle).out).mono ?_⟩;rintro e w' ⟨a',n',c',rfl,hE',hn'⟩;exact ⟨_,rfl,hE',a',n',c',rfl,hn'⟩
     case o7 =>
      refine Aj rfl fun ρ wx hC hcst hfn h => ?_;have e1:ρ (.tmp 25)=(.bool s):=h.2.1;obtain ⟨v2,e2,a2,n2,c2,rfl,d2⟩:=h.2.2.1;obtain ⟨k00,k01,k10,k11⟩:=(HF2 wx hC).out;refine ⟨144,#[.bool s, .slice a2 n2 c2],by go_simp,(BM d2 (z:=z+y) (TI HS.out HT.out hst hle)).mono ?_⟩;rintro e w' ⟨s',a',n',c',rfl,hE',hs',hn'⟩;exact ⟨_,rfl,hE',s',a',n',c',rfl,hs',hn'⟩
     case fin =>
      intro wx hC;rintro _ ⟨_,_,_,rfl,_⟩;rintro _ ⟨s1,a1,n1,c1,rfl,HS1,hx1⟩;change wpList _ _ _ _ _ _;simp only [List.length_cons,List.length_nil,List.drop_succ_cons,List.drop_zero,Act.put,List.setIfInBounds_toArray,List.set_cons_succ,List.set_cons_zero];have hR1:=hR'.ext hC
      go_wp2_with (refine Aa (vs:=Ab s1 a1 n1 c1) rfl rfl rfl rfl rfl Ad hR1 rfl (Ai _ _ _ _) ?_; intro w9 hB9 hg9)
      exact bodyPost_ret (Al rfl Ad rfl hB9) rfl (Bt (hEw.trans hC) hR1 (Aq _ _ _ _) hg9 (by omega) HS1 hx1)
   · have hcz:Ba (z.natAbs:Int) (y.natAbs:Int)<0:=by have:=mt D2.1 hle; omega
     have hlt:z.natAbs<y.natAbs:=by omega
     generalize Ba (z.natAbs:Int) (y.natAbs:Int)=cv at *
     go_wp2;have HF3:=fun (wx:World) (hC:Ext w1 wx)=>qh (And.intro (hC.cell r00) (And.intro (hC.cell r01) (And.intro (hC.cell r10) (hC.cell r11))))
     refine AM (by kernel_rfl) (fun wx=>Ext w1 wx)
      [he (.pointer (some ⟨(w.heap.size+1),0,none⟩)),
 he (.bool t),
 he (.pointer (some ⟨(w.heap.size+1),1,none⟩)),
 he (.slice b m d),
 he (.pointer (some ⟨w.heap.size,1,none⟩)),
 he (.slice a n c),
 hp (fun v wx=>∃ a' n' c',v = .slice a' n' c'∧Wd wx a' n' c' (y.natAbs-z.natAbs)),
 hp (fun v wx=>∃ s' a' n' c',v = .agg (Ab s' a' n' c').toArray∧Hid (decide (z+y<0)=s')∧Wd wx a' n' c' (z+y).natAbs)]
      (by kernel_rfl) (fun _ _ e h=>h.trans e) ((Ext.refl w1).drew) ⟨trivial,trivial,trivial,trivial,trivial,trivial,fun v w w' e ⟨a',n',c',h1,h2⟩=>⟨a',n',c',h1,h2.ext e⟩,fun v w w' e ⟨s',a',n',c',h1,h2,h3⟩=>⟨s',a',n',c',h1,h2,h3.ext e⟩,trivial⟩ ⟨?o0, ?o1, ?o2, ?o3, ?o4, ?o5, ?o6, ?o7,trivial⟩ ?fin
     case o0=>exact ofa (d:=0) rfl rfl (fun _ _=>id) (by kernel_rfl) rfl
     case o1=>exact ol rfl rfl (fun _ _=>id) (by kernel_rfl) (by assumption)
     case o2=>exact ofa (d:=1) rfl rfl (fun _ _=>id) (by kernel_rfl) rfl
     case o3=>exact ol rfl rfl (fun _ _=>id) (by kernel_rfl) (by assumption)
     case o4=>exact ofa (d:=1) rfl rfl (fun _ _=>id) (by kernel_rfl) rfl
     case o5=>exact ol rfl rfl (fun _ _=>id) (by kernel_rfl) (by assumption)
     case o6 =>
      refine Aj rfl fun ρ wx hC hcst hfn h => ?_;have e1:ρ (.tmp 35)=(.slice b m d):=h.2.1;have e2:ρ (.tmp 37)=(.slice a n c):=h.2.2.1;obtain ⟨k00,k01,k10,k11⟩:=(HF3 wx hC).out;refine ⟨152,#[.slice b m d, .slice a n c],by go_simp,((hsb2 wx (hEw.trans hC) (Nat.le_of_lt hlt)).out).mono ?_⟩;rintro e w' ⟨a',n',c',rfl,hE',hn'⟩;exact ⟨_,rfl,hE',a',n',c',rfl,hn'⟩
     case o7 =>
      refine Aj rfl fun ρ wx hC hcst hfn h => ?_;have e1:ρ (.tmp 33)=(.bool t):=h.2.1;obtain ⟨v2,e2,a2,n2,c2,rfl,d2⟩:=h.2.2.1;obtain ⟨k00,k01,k10,k11⟩:=(HF3 wx hC).out;refine ⟨144,#[.bool t, .slice a2 n2 c2],by go_simp,(BM d2 (z:=z+y) (TJ HS.out HT.out hst hlt)).mono ?_⟩;rintro e w' ⟨s',a',n',c',rfl,hE',hs',hn'⟩;exact ⟨_,rfl,hE',s',a',n',c',rfl,hs',hn'⟩
     case fin =>
      intro wx hC;rintro _ ⟨_,_,_,rfl,_⟩;rintro _ ⟨s1,a1,n1,c1,rfl,HS1,hx1⟩;change wpList _ _ _ _ _ _;simp only [List.length_cons,List.length_nil,List.drop_succ_cons,List.drop_zero,Act.put,List.setIfInBounds_toArray,List.set_cons_succ,List.set_cons_zero];have hR1:=hR'.ext hC
      go_wp2_with (refine Aa (vs:=Ab s1 a1 n1 c1) rfl rfl rfl rfl rfl Ad hR1 rfl (Ai _ _ _ _) ?_; intro w9 hB9 hg9)
      exact bodyPost_ret (Al rfl Ad rfl hB9) rfl (Bt (hEw.trans hC) hR1 (Aq _ _ _ _) hg9 (by omega) HS1 hx1)
theorem Jy (w:World) (cs cs':List Value) (t t':TypeId):Arr ((w.alloc (.cells cs.toArray t)).alloc (.cells cs'.toArray t')) w.heap.size t cs:=(Arr.new w t cs).alloc _
theorem Jz (w:World) (cs cs':List Value) (t t':TypeId):Arr ((w.alloc (.cells cs.toArray t)).alloc (.cells cs'.toArray t')) (w.heap.size+1) t' cs':=by
 have:=Arr.new (w.alloc (.cells cs.toArray t)) t' cs';simpa using this
theorem VJ (w:World) (o o':Obj):Ext w ((w.alloc o).alloc o'):=((Ext.refl w).alloc o).alloc o'
end Go.Proofs.YtlpgonpfjbhmfaaGreatDoor
