/- Part Gav31. -/
import Derived.Test.YtlpgonpfjbhmfaaGreatDoorGav18
import Derived.Test.YtlpgonpfjbhmfaaGreatDoorGav30
import Derived.Test.YtlpgonpfjbhmfaaGreatDoorGav29
set_option maxRecDepth 100000
set_option maxHeartbeats 100000000
namespace Go.Proofs.YtlpgonpfjbhmfaaGreatDoor
open Tryz Go Go.RowKit
variable {z z':Int} {rows:List (List Value)} {cs:List Value} {H H0 H1 R b base c g k n p vars:Nat} {a:Option Addr} {qa qa' qb qb':Option Nat} {e t:TypeId} {w w' w0 w2 w4 wr:World}
structure Ft where
 p:Nat
 qa:Option Nat
 qb:Option Nat
 z:Int
def Ft.has (f:Ft) (b:Nat):Prop:=b=f.p∨f.qa=some b∨f.qb=some b
def Vi (p:Nat):Value := .pointer (some ⟨p,0,none⟩)
abbrev SF:=List (List Int×Ft)
def Kc (fs:SF):List (List Int×Value):=fs.map (fun f=>(f.1,Vi f.2.p))
theorem Lv (fs:SF):(Kc fs).map (·.1)=fs.map (·.1):=by simp [Kc]
theorem OY {N:Nat} (h:Ck w base p qa qb N z):∀ b,(b=p∨qa=some b∨qb=some b)→∃ cs t fr,w.heap[b]?=some (.cells cs t fr):=by
 obtain ⟨pa,pn,pc,na,nn,nc,ps,ns,h1,h2,h3,h4,h5,_⟩:=h;intro b hb;rcases hb with rfl|hb|hb
 · exact ⟨_,_,_,h1⟩
 · rcases h4.2 with ⟨hv,_⟩|⟨g,cap,cur,hv,_,hh,_⟩
   · simp only [Value.slice.injEq] at hv;rw [←h2,hv.1] at hb;simp [blk] at hb
   · simp only [Value.slice.injEq] at hv;rw [←h2,hv.1] at hb;have:g=b:=by simpa [blk] using hb
     subst this;exact ⟨_,_,_,hh⟩
 · rcases h5.2 with ⟨hv,_⟩|⟨g,cap,cur,hv,_,hh,_⟩
   · simp only [Value.slice.injEq] at hv;rw [←h3,hv.1] at hb;simp [blk] at hb
   · simp only [Value.slice.injEq] at hv;rw [←h3,hv.1] at hb;have:g=b:=by simpa [blk] using hb
     subst this;exact ⟨_,_,_,hh⟩
structure Ce (w2:World) (r Nb:Nat) (fs:SF) (wr:World):Prop where
 ext:Ext w2 wr
 rge:w2.heap.size≤r
 map:AN wr r (Kc fs)
 sums:∀ f∈fs,Ck wr w2.heap.size f.2.p f.2.qa f.2.qb Nb f.2.z
 dist:∀ (i j:Nat) f g,i≠j→fs[i]?=some f→fs[j]?=some g→∀ b,f.2.has b→¬ g.2.has b
section
variable {w2 wr w':World} {r Nb:Nat} {fs:SF}
theorem Ce.step (h:Ce w2 r Nb fs wr) (e:Ext wr w'):Ce w2 r Nb fs w':=⟨h.ext.trans e,h.rge,h.map.ext e,fun f hf=>(h.sums f hf).ext e,h.dist⟩
theorem Ce.lt (h:Ce w2 r Nb fs wr) {f:List Int×Ft} (hf:f∈fs) {b:Nat} (hb:f.2.has b):w2.heap.size≤b∧b<wr.heap.size:=by
 have hl:=(h.sums f hf).lt;rcases hb with rfl|hb|hb
 · exact hl.1
 · exact hl.2.1 b hb
 · exact hl.2.2 b hb
theorem Ce.ne (h:Ce w2 r Nb fs wr) {f:List Int×Ft} (hf:f∈fs) {b:Nat} (hb:f.2.has b):b≠r:=by
 rintro rfl;obtain ⟨cs,t,fr,e⟩:=OY (h.sums f hf) b hb;rw [h.map.obj] at e;cases e
theorem Ce.nodup (h:Ce w2 r Nb fs wr):(fs.map (·.1)).Nodup:=by rw [←Lv]; exact h.map.nodup
theorem Ce.le {Nb':Nat} (h:Ce w2 r Nb fs wr) (hN:Nb≤Nb'):Ce w2 r Nb' fs wr:=⟨h.ext,h.rge,h.map,fun f hf=>(h.sums f hf).le hN,h.dist⟩
theorem Ce.new (h:Ce w2 r Nb fs wr) {key:List Int} {p:Nat} {w3 w4:World} (hk:key ∉ fs.map (·.1)) (hE:Ext wr w3) (hA:Arr w3 p 149 (Jw none 0 0 none 0 0)) (hp:wr.heap.size≤p)
 (hM:AN w4 r (Hm (Kc fs) key (Vi p))) (hg:w3.grownBy w4 (some r)):Ce w2 r Nb (fs ++ [(key,⟨p,none,none,0⟩)]) w4:=by
 have hput:Hm (Kc fs) key (Vi p)=Kc (fs ++ [(key,⟨p,none,none,0⟩)]):=by
  have hn:BG key 0 (Kc fs)=none:=Bp.2 (by rw [Lv]; exact hk);unfold Hm;rw [hn];simp [Kc]
 rw [hput] at hM;have hrp:p≠r:=by have:=h.map.lt; omega
 have hA4:Arr w4 p 149 (Jw none 0 0 none 0 0):=hA.kept hg (by simpa using hrp);have hw2:=h.ext.size;refine ⟨(h.ext.trans hE).grownR hg h.rge,h.rge,hM,fun f hf => ?_,fun i j f g hij hi hj b hb => ?_⟩
 · rcases List.mem_append.1 hf with hf|hf
   · have h3:=(h.sums f hf).ext hE;refine h3.kp (Kp.ofGrown hg (S:=fun b=>b=r) (fun g hg=>by simpa using hg.symm)) ?_ ?_ ?_
     · exact h.ne hf (Or.inl rfl)
     · exact fun g hg=>h.ne hf (Or.inr (Or.inl hg))
     · exact fun g hg=>h.ne hf (Or.inr (Or.inr hg))
   · simp only [List.mem_singleton] at hf;subst hf;exact (Ck.new hA4 (by omega)).le (Nat.zero_le _)
 · have key2:∀ (i:Nat) (f:List Int×Ft),(fs ++ [(key,(⟨p,none,none,0⟩:Ft))])[i]?=some f→(i<fs.length∧fs[i]?=some f)∨(i=fs.length∧f=(key,⟨p,none,none,0⟩)):=by
    intro i f hi;rcases Nat.lt_or_ge i fs.length with h1|h1
    · rw [List.getElem?_append_left h1] at hi;exact Or.inl ⟨h1,hi⟩
    · rw [List.getElem?_append_right h1] at hi;right;rcases Nat.eq_zero_or_pos (i-fs.length) with h2|h2
      · rw [h2] at hi;simp at hi;exact ⟨by omega,hi.symm⟩
      · rw [List.getElem?_eq_none (by simp; omega)] at hi;cases hi
   rcases key2 i f hi with ⟨h1,h2⟩|⟨h1,rfl⟩
   · rcases key2 j g hj with ⟨h3,h4⟩|⟨h3,rfl⟩
     · exact h.dist i j f g hij h2 h4 b hb
     · intro hb2;have hlt:=(h.lt (List.mem_of_getElem? h2) hb).2;rcases hb2 with hb2|hb2|hb2
       · simp only at hb2; omega
       · cases hb2
       · cases hb2
   · rcases key2 j g hj with ⟨h3,h4⟩|⟨h3,_⟩
     · intro hb2;have hlt:=(h.lt (List.mem_of_getElem? h4) hb2).2;rcases hb with hb|hb|hb
       · simp only at hb; omega
       · cases hb
       · cases hb
     · omega
theorem Mr {f:Ft} (ha:qa'=f.qa∨∃ g,qa'=some g∧H≤g) (hb:qb'=f.qb∨∃ g,qb'=some g∧H≤g) {b:Nat} (h:(⟨f.p,qa',qb',z'⟩:Ft).has b):f.has b∨H≤b:=by
 rcases h with h|h|h
 · exact Or.inl (Or.inl h)
 · rcases ha with e|⟨g,e,hg⟩
   · rw [show (⟨f.p,qa',qb',z'⟩:Ft).qa=qa' from rfl,e] at h;exact Or.inl (Or.inr (Or.inl h))
   · rw [show (⟨f.p,qa',qb',z'⟩:Ft).qa=qa' from rfl,e] at h;right;have:g=b:=by simpa using h
     omega
 · rcases hb with e|⟨g,e,hg⟩
   · rw [show (⟨f.p,qa',qb',z'⟩:Ft).qb=qb' from rfl,e] at h;exact Or.inl (Or.inr (Or.inr h))
   · rw [show (⟨f.p,qa',qb',z'⟩:Ft).qb=qb' from rfl,e] at h;right;have:g=b:=by simpa using h
     omega
theorem Ce.add (h:Ce w2 r Nb fs wr) {i:Nat} {key:List Int} {f:Ft} {qa' qb':Option Nat} {Nb':Nat} {z':Int} (hi:fs[i]?=some (key,f)) (hS:Ck w' w2.heap.size f.p qa' qb' Nb' z') (hK:Kp (fun b=>f.has b) wr w')
 (ha:qa'=f.qa∨∃ g,qa'=some g∧wr.heap.size≤g) (hb:qb'=f.qb∨∃ g,qb'=some g∧wr.heap.size≤g) (hN:Nb≤Nb'):Ce w2 r Nb' (fs.set i (key,⟨f.p,qa',qb',z'⟩)) w':=by
 have hfm:=List.mem_of_getElem? hi;have hil:i<fs.length:=(List.getElem?_eq_some_iff.1 hi).1;have hmap:Kc (fs.set i (key,⟨f.p,qa',qb',z'⟩))=Kc fs:=by
  unfold Kc;rw [List.map_set];apply List.ext_getElem?;intro t;rw [List.getElem?_set];by_cases ht:i=t
  · subst ht;simp [hil];have e:fs[i]=(key,f):=(List.getElem?_eq_some_iff.1 hi).2;rw [e];exact ⟨rfl,rfl⟩
  · simp [ht]
 have hset:∀ (t:Nat) (g:List Int×Ft),(fs.set i (key,(⟨f.p,qa',qb',z'⟩:Ft)))[t]?=some g→(t=i∧g=(key,⟨f.p,qa',qb',z'⟩))∨(t≠i∧fs[t]?=some g):=by
  intro t g hg;rw [List.getElem?_set] at hg;by_cases ht:i=t
  · subst ht;simp [hil] at hg;exact Or.inl ⟨rfl,hg.symm⟩
  · rw [if_neg ht] at hg;exact Or.inr ⟨fun e=>ht e.symm,hg⟩
 refine ⟨hK.ext h.ext (fun b hb=>(h.lt hfm hb).1),h.rge, ?_,fun g hg => ?_,fun s t g1 g2 hst hs ht b hb1 => ?_⟩
 · rw [hmap];exact h.map.of_block (hK.block r h.map.lt (fun hh=>h.ne hfm hh rfl))
 · obtain ⟨t,ht⟩:=List.mem_iff_getElem?.1 hg;rcases hset t g ht with ⟨_,rfl⟩|⟨hne,hg0⟩
   · exact hS
   · have hd:=h.dist t i g (key,f) hne hg0 hi;refine ((h.sums g (List.mem_of_getElem? hg0)).kp hK ?_ ?_ ?_).le hN
     · exact hd _ (Or.inl rfl)
     · exact fun b hb=>hd b (Or.inr (Or.inl hb))
     · exact fun b hb=>hd b (Or.inr (Or.inr hb))
 · rcases hset s g1 hs with ⟨rfl,rfl⟩|⟨hsi,h1⟩
   · rcases hset t g2 ht with ⟨rfl,_⟩|⟨hti,h2⟩
     · exact absurd rfl hst
     · intro hb2;rcases Mr ha hb hb1 with h3|h3
       · exact h.dist s t (key,f) g2 hst hi h2 b h3 hb2
       · have:=(h.lt (List.mem_of_getElem? h2) hb2).2; omega
   · rcases hset t g2 ht with ⟨rfl,rfl⟩|⟨hti,h2⟩
     · intro hb2;rcases Mr ha hb hb2 with h3|h3
       · exact h.dist t s (key,f) g1 (fun e=>hst e.symm) hi h1 b h3 hb1
       · have:=(h.lt (List.mem_of_getElem? h1) hb1).2; omega
     · exact h.dist s t g1 g2 hst h1 h2 b hb1
end
def I0 (H0:Nat) (w4 wr:World):Prop:=w4.heap.size≤wr.heap.size∧∀ b,H0≤b→b<w4.heap.size→wr.heap[b]?=w4.heap[b]?
theorem I0.refl (H0:Nat) (w:World):I0 H0 w w:=⟨lrf _,fun _ _ _=>rfl⟩
theorem I0.ext (h:I0 H0 w4 wr) (e:Ext wr w'):I0 H0 w4 w':=⟨Nat.le_trans h.1 e.size,fun b h1 h2=>(e.block (Nat.lt_of_lt_of_le h2 h.1)).trans (h.2 b h1 h2)⟩
theorem I0.kp {S:Nat→Prop} (h:I0 H0 w4 wr) (e:Kp S wr w') (hS:∀ b,S b→b<H0∨w4.heap.size≤b):I0 H0 w4 w' :=
 ⟨Nat.le_trans h.1 e.size,fun b h1 h2=>(e.block b (Nat.lt_of_lt_of_le h2 h.1) (fun x=>by have:=hS b x; omega)).trans (h.2 b h1 h2)⟩
theorem I0.arr (h:I0 H0 w4 wr) (hA:Arr w4 g t cs) (hg:H0≤g):Arr wr g t cs:=(h.2 g hg hA.lt).trans hA
theorem I0.wd {x:Nat} (h:I0 H0 w4 wr) (hx:Wd w4 a n c x) (h4:Ext w2 w4) (hr:Ext w2 wr) (hs:0<n→∀ g,blk a=some g→H0≤g∨g<w2.heap.size):Wd wr a n c x:=by
 obtain ⟨xs,h1,h2⟩:=hx;refine ⟨xs, ?_,h2⟩;refine ⟨Sl.len h1,Sl.cap h1,Sl.max h1,fun h0 => ?_⟩;obtain ⟨b,o,rfl,hc⟩:=Sl.rd h1 h0;refine ⟨b,o,rfl,fun i hi => ?_⟩;have h5:=hc i hi;have hlt:b<w4.heap.size:=World.block_lt_of_cell? w4 ⟨b,o+i,none⟩ h5;have hblk:wr.heap[b]?=w4.heap[b]?:=by
  rcases hs h0 b rfl with h6|h6
  · exact h.2 b h6 hlt
  · rw [hr.block h6,h4.block h6]
 rw [World.cell?_of_block (w:=w4) hblk,h5]
def Gap (H0 H1:Nat) (fs:SF):Prop:=∀ f∈fs,∀ b,f.2.has b→b<H0∨H1≤b
theorem Gap.add {fs:SF} (h:Gap H0 H1 fs) {i:Nat} {key:List Int} {f:Ft} {qa' qb':Option Nat} {z':Int} (hi:fs[i]?=some (key,f)) (hH:H1≤H)
 (ha:qa'=f.qa∨∃ g,qa'=some g∧H≤g) (hb:qb'=f.qb∨∃ g,qb'=some g∧H≤g):Gap H0 H1 (fs.set i (key,⟨f.p,qa',qb',z'⟩)):=by
 intro g hg b hb1;rcases List.mem_or_eq_of_mem_set hg with hg|rfl
 · exact h g hg b hb1
 · rcases Mr ha hb hb1 with h3|h3
   · exact h _ (List.mem_of_getElem? hi) b h3
   · right; omega
theorem Gap.new {fs:SF} (h:Gap H0 H1 fs) {key:List Int} {p:Nat} (hp:H1≤p):Gap H0 H1 (fs ++ [(key,⟨p,none,none,0⟩)]):=by
 intro g hg b hb;rcases List.mem_append.1 hg with hg|hg
 · exact h g hg b hb
 · simp only [List.mem_singleton] at hg;subst hg;rcases hb with hb|hb|hb
   · right; simp only at hb; omega
   · cases hb
   · cases hb
def Kd (w:World) (row:List Value) (z:Int):Prop:=∃ s a n c,row=Ab s a n c∧Hid (decide (z<0)=s)∧Wd w a n c z.natAbs
theorem Kd.ext {w w':World} {row:List Value} {z:Int} (h:Kd w row z) (e:Ext w w'):Kd w' row z:=by
 obtain ⟨s,a,n,c,h1,h2,h3⟩:=h;exact ⟨s,a,n,c,h1,h2,h3.ext e⟩
theorem Kd.keptU {w w':World} {row:List Value} {z:Int} {g:Nat} (h:Kd w row z) (hU:NoU w g) (hg:w.grownBy w' (some g)):Kd w' row z:=by
 obtain ⟨s,a,n,c,h1,h2,h3⟩:=h;exact ⟨s,a,n,c,h1,h2,h3.keptU hU hg⟩
theorem NG:El prog 90 (Ab false none 0 0) 2 32:=⟨by kernel_rfl,rfl,by omega⟩
def NEn (e:List Int) (q:Rat) (v:Value) (w:World):Prop:=∃ s a n c b m d,v = .agg (At e s a n c b m d).toArray∧DD w (An s a n c false b m d) q
theorem NEn.x (e:List Int) (q:Rat):StX (NEn e q):=fun _ _ _ x ⟨s,a,n,c,b,m,d,h1,h2⟩=>⟨s,a,n,c,b,m,d,h1,h2.ext x⟩
def NSl (e:List Int) (q:Rat) (v:Value) (w:World):Prop:=∃ Z s a n c b m d,v = .slice (some ⟨Z,0,none⟩) 1 1∧Arr w Z 111 (At e s a n c b m d)∧DD w (An s a n c false b m d) q
theorem NSl.x (e:List Int) (q:Rat):StX (NSl e q):=fun _ _ _ x ⟨Z,s,a,n,c,b,m,d,h1,h2,h3⟩=>⟨Z,s,a,n,c,b,m,d,h1,h2.ext x,h3.ext x⟩
theorem Q5 (a d:Nat):a∣a*(d/Nat.gcd a d):=Nat.dvd_mul_right _ _
theorem Q7 (a d:Nat):d∣a*(d/Nat.gcd a d):=by
 have h1:a*(d/Nat.gcd a d)=a/Nat.gcd a d*d:=by
  rw [←Nat.mul_div_assoc _ (Nat.gcd_dvd_right a d),Nat.mul_comm a d,Nat.mul_div_assoc _ (Nat.gcd_dvd_left a d),Nat.mul_comm]
 rw [h1];exact Nat.dvd_mul_left _ _
theorem NH:∀ (l:List Rat) (a:Nat),a∣l.foldl (fun a q=>a*(q.den/Nat.gcd a q.den)) a∧∀ q∈l,q.den∣l.foldl (fun a q=>a*(q.den/Nat.gcd a q.den)) a
 | [],a=>⟨Nat.dvd_refl _,by simp⟩
 | q :: r,a=>by
  have ih:=NH r (a*(q.den/Nat.gcd a q.den));refine ⟨Nat.dvd_trans (Q5 a q.den) ih.1,fun p hp => ?_⟩;rcases List.mem_cons.1 hp with rfl|hp
  · exact Nat.dvd_trans (Q7 a p.den) ih.1
  · exact ih.2 p hp
theorem Ke {l:List Rat} {q:Rat} (h:q∈l):q.den∣Cv l:=(NH l 1).2 q h
structure NJ (p:List Pl.Tm):Prop where
 atE:∀ e,Pl.coef p e≠0→EZ (Pl.coef p e)∧e.length=6∧∀ x∈e,0≤x∧x≤1099511627776
 len:p.length≤1000000
theorem NK {out p:List Pl.Tm} (hn:Pl.Nrm out) (hc:∀ e,Pl.coef out e=Pl.coef p e) {t:Pl.Tm} (ht:t∈out):Pl.coef p t.1=t.2:=by rw [←hc]; exact Pl.coef_mem hn.nodup ht
theorem NJ.out {out p:List Pl.Tm} (h:NJ p) (hn:Pl.Nrm out) (hc:∀ e,Pl.coef out e=Pl.coef p e):Ij out∧(∀ t∈out,EZ t.2)∧out.length≤1000000:=by
 have key:∀ t∈out,Pl.coef p t.1≠0:=fun t ht=>by rw [NK hn hc ht]; exact hn.nz t ht
 refine ⟨fun t ht=>(h.atE t.1 (key t ht)).2,fun t ht => ?_, ?_⟩
 · have:=(h.atE t.1 (key t ht)).1;rw [NK hn hc ht] at this;exact this
 · refine Nat.le_trans ?_ h.len
   have h1:=Pl.nodup_le (out.map (·.1)) (p.map (·.1)) hn.nodup (fun e he=>by
    obtain ⟨t,ht,rfl⟩:=List.mem_map.1 he;obtain ⟨s,hs,e⟩:=Pl.coef_present (key t ht);rw [←e]
    exact List.mem_map_of_mem hs)
   simpa using h1
theorem NL (h:A3 w b e k a n c rows) (hA:Arr w p t cs) (ht:t≠e):blk a≠some p:=by
 rcases h.2.2 with ⟨hv,_⟩|⟨g,cap,cur,hv,_,hh,_⟩
 · simp only [Value.slice.injEq] at hv;rw [hv.1]; simp [blk]
 · simp only [Value.slice.injEq] at hv;rw [hv.1];intro he;have hgp:g=p:=by simpa [blk] using he
   subst hgp;unfold Arr at hA;rw [hh] at hA;simp only [Option.some.injEq,Obj.cells.injEq] at hA;exact ht hA.2.1.symm
theorem TmO.keptA {ts:List Tx} (h:TmO w base a n c ts) (hR:Arr w R 25 cs) (hg:w.grownBy w' (some R)):TmO w' base a n c ts:=by
 obtain ⟨rows,h1,h2,h3⟩:=h;refine ⟨rows,h1.kept hg (Or.inr (NL h1 hR (by decide))),h2,fun i hi => ?_⟩;obtain ⟨s,a',n',c',e1,e2,e3⟩:=h3 i hi;exact ⟨s,a',n',c',e1,e2,e3.kept hg (Or.inr (Fs e3 hR (by decide)))⟩
def VW (w0:World) (p:List Pl.Tm) (v:Value) (w:World):Prop:=∃ a n c out,v = .slice a n c∧Fp w w0.heap.size a n c out∧Pl.Nrm out∧∀ e,Pl.coef out e=Pl.coef p e
theorem VW.x (w0:World) (p:List Pl.Tm):StX (VW w0 p):=fun _ _ _ x ⟨a,n,c,out,h1,h2,h3⟩=>⟨a,n,c,out,h1,h2.ext x,h3⟩
theorem Kf (t:Pl.Tm) (h6:t.1.length=6):∀ (l:List Pl.Tm),(∀ s∈l,s.1.length=6)→Pl.desc l→∃ l',l'.Perm (t :: l)∧Pl.desc l'
 | [],_,_=>⟨[t],List.Perm.refl _,List.pairwise_singleton _ _⟩
 | s :: r,hl,hd=>by
  have hd2:=List.pairwise_cons.1 hd;by_cases h:0≤Pl.ordE t.1 s.1
  · refine ⟨t :: s :: r,List.Perm.refl _,List.pairwise_cons.2 ⟨fun u hu => ?_,hd⟩⟩;rcases List.mem_cons.1 hu with rfl|hu
    · exact h
    · have h1:=hd2.1 u hu;by_cases h2:Pl.ordE t.1 s.1=0
      · rw [Pl.ordE_eq (by rw [h6,hl s (by simp)]) h2]; exact h1
      · by_cases h3:Pl.ordE s.1 u.1=0
        · rw [←Pl.ordE_eq (by rw [hl s (by simp),hl u (by simp [hu])]) h3]; exact h
        · exact Int.le_of_lt (Pl.ordE_trans (b:=s.1) (by omega) (by omega))
  · obtain ⟨l',h1,h2⟩:=Kf t h6 r (fun u hu=>hl u (by simp [hu])) hd2.2;refine ⟨s :: l',(List.Perm.cons s h1).trans (List.Perm.swap t s r),List.pairwise_cons.2 ⟨fun u hu => ?_,h2⟩⟩;rcases List.mem_cons.1 (h1.mem_iff.1 hu) with rfl|hu
    · have:=Pl.ordE_anti s.1 u.1; omega
    · exact hd2.1 u hu
theorem Ik:∀ (l:List Pl.Tm),(∀ s∈l,s.1.length=6)→∃ l',l'.Perm l∧Pl.desc l'
 | [],_=>⟨[],List.Perm.refl _,List.Pairwise.nil⟩
 | t :: r,h=>by
  obtain ⟨l1,h1,h2⟩:=Ik r (fun s hs=>h s (by simp [hs]));obtain ⟨l2,h3,h4⟩:=Kf t (h t (by simp)) l1 (fun s hs=>h s (by simp [h1.mem_iff.1 hs])) h2;exact ⟨l2,h3.trans (List.Perm.cons t h1),h4⟩
noncomputable def cnP (p:List Pl.Tm):List Pl.Tm:=Classical.epsilon (fun l=>Pl.Canon 6 l∧∀ e,Pl.coef l e=Pl.coef p e)
theorem Vj {p l:List Pl.Tm} (h:Pl.Canon 6 l) (hc:∀ e,Pl.coef l e=Pl.coef p e):cnP p=l:=by
 have h1:Pl.Canon 6 (cnP p)∧∀ e,Pl.coef (cnP p) e=Pl.coef p e:=Classical.epsilon_spec (p:=fun l=>Pl.Canon 6 l∧∀ e,Pl.coef l e=Pl.coef p e) ⟨l,h,hc⟩;exact Pl.canon_ext h1.1 h (fun e=>by rw [h1.2,hc])
theorem EO {p out l:List Pl.Tm} (hn:Pl.Nrm out) (hc:∀ e,Pl.coef out e=Pl.coef p e) (hp:l.Perm out) (hd:Pl.desc l):cnP p=l:=by
 have hl:=hn.perm hp.symm;exact Vj (Pl.canon_of_sorted hl.len hl.nz hd hl.nodup) (fun e=>by rw [Pl.coef_perm hp,hc])
open Classical in
noncomputable def resQ (vars:Int) (p:List Pl.Tm):Int×List Tx×Int:=if okW (cnP p) then (vars,wrT vars.toNat (cnP p),0) else (0,[],2)
def E0 (w:World) (r:Int×List Tx×Int) (e:Ending) (w':World):Prop:=Gs w r.1 r.2.1 r.2.2 e w'
theorem PX.q {out p:List Pl.Tm} {e:Ending} (h:PX w0 vars out e w') (hn:Pl.Nrm out) (hc:∀ e,Pl.coef out e=Pl.coef p e):E0 w0 (resQ vars p) e w':=by
 obtain ⟨l,h1,h2⟩:=h;unfold resQ E0;rcases h2 with ⟨hd,hk,hr⟩|⟨hk,hr⟩
 · rw [EO hn hc h1 hd,if_pos hk];exact hr
 · have hnk:¬ okW (cnP p):=by
    rcases hk with hk|⟨hd,hk⟩
    · obtain ⟨l2,h3,h4⟩:=Ik out hn.len;rw [EO hn hc h3 h4];intro h5;have:=h5.1;rw [h3.length_eq] at this;omega
    · rw [EO hn hc h1 hd]; exact hk
   rw [if_neg hnk];exact hr
section
variable {P:Program} {ops:Array Oper} {hs:List Hd} {a0:Act} {C:World→Prop} {i:Nat} {o:Oper}
end
def NPE (w0:World) (r:Int×List Tx×Int) (v:Value) (w:World):Prop:=∃ a n c,v = .tuple #[Kb r.1 a n c, .int .i64 r.2.2]∧TmO w w0.heap.size a n c r.2.1
theorem NPE.x (w0:World) (r:Int×List Tx×Int):StX (NPE w0 r):=fun _ _ _ x ⟨a,n,c,h1,h2⟩=>⟨a,n,c,h1,h2.ext x⟩
def NPo (w0:World) (r:Int×List Tx×Int) (v:Value) (w:World):Prop:=∃ a n c,v=Kb r.1 a n c∧TmO w w0.heap.size a n c r.2.1
theorem NPo.x (w0:World) (r:Int×List Tx×Int):StX (NPo w0 r):=fun _ _ _ x ⟨a,n,c,h1,h2⟩=>⟨a,n,c,h1,h2.ext x⟩
def Sv (w:World) (va vb:Int) (oa ob:Option (List Pl.Tm)) (e:Ending) (w':World):Prop :=
 (∃ la lb,oa=some la∧ob=some lb∧va=vb∧((¬ (la≠[]∧lb≠[]∧24<Q4 la+Q4 lb)∧E0 w (resQ va (Pl.prodT la lb)) e w')∨((la≠[]∧lb≠[]∧24<Q4 la+Q4 lb)∧Gs w 0 [] 2 e w'))) ∨
 ((oa.isSome && ob.isSome)=true∧va≠vb∧Gs w 0 [] 4 e w')∨((oa.isSome && ob.isSome)=false∧Gs w 0 [] 1 e w')
structure Kg (la lb:List Pl.Tm):Prop where
 ba:∀ t∈la,Pl.RB 1000 t.2
 bb:∀ t∈lb,Pl.RB 1000 t.2
 ea:Ij la
 eb:Ij lb
 lla:Cv (la.map (·.2))<P2 256
 llb:Cv (lb.map (·.2))<P2 256
 na:la.length≤1000000
 nb:lb.length≤1000000
 fits:NJ (Pl.prodT la lb)
theorem Lw (a b:List Pl.Tm):(Pl.prodT a b).length=a.length*b.length:=by
 unfold Pl.prodT
 induction a with
 | nil=>simp
 | cons t r ih=>rw [List.flatMap_cons,List.length_append,ih]; simp [Nat.add_mul]; omega
theorem Kh {wb w7 w8:World} {r:Int×List Tx×Int} (hE:Ext w wb) (hE7:Ext wb w7) (hO:TmO w7 wb.heap.size a n c r.2.1) (hR:Arr w7 R 25 cs) (hg:w7.grownBy w8 (some R)) (hw:w.heap.size≤R):E0 w r (.returned (.tuple #[Kb r.1 a n c, .int .i64 r.2.2])) w8 :=
 ⟨a,n,c,rfl,(hE.trans hE7).grownR hg hw,(hO.mono hE.size).keptA hR hg⟩
theorem Q8 {ls:List (List Pl.Tm)} (hk:k<ls.length):(ls.take (k+1)).flatten=(ls.take k).flatten ++ ls.getD k []:=by
 rw [List.take_add_one,List.flatten_append];simp [hk]
theorem OZ {ls:List (List Pl.Tm)} (hk:k<ls.length):(ls.take k).flatten ++ (ls.getD k [] ++ (ls.drop (k+1)).flatten)=ls.flatten:=by
 have h1:ls.take k ++ (ls.getD k [] :: ls.drop (k+1))=ls:=by
  have:ls.getD k [] :: ls.drop (k+1)=ls.drop k:=by
   rw [List.drop_eq_getElem_cons hk,gqq,List.getElem?_eq_getElem hk]; rfl
  rw [this,List.take_append_drop]
 conv=>rhs; rw [←h1]
 simp
def VX (w0:World) (r:Nat) (p:List Pl.Tm) (wr:World):Prop:=∃ l,Ext w0 wr∧Ep wr r l∧Hid (∀ e,Pl.coef l e=Pl.coef p e)∧l.length≤p.length
def Wt (w0:World) (r it g c:Nat) (l:List Pl.Tm) (v:Value) (wr:World):Prop :=
 ∃ seen n rows,v = .slice (some ⟨g,0,none⟩) n c∧Ext w0 wr∧Ep wr r l∧AG wr it r l.length seen∧seen.Nodup∧(∀ i∈seen,i<l.length)∧E9 wr w0.heap.size 111 10 g n c rows ∧
  (Pl.picked l seen).length=n∧Hid (∀ i,i<n→Cm wr (rows.getD i []) ((Pl.picked l seen).getD i ([],0)))
theorem Ms {ls:List (List Pl.Tm)} (hT:A2 w) (h:Lq w a n c ls) (hn:n≤1000) (hN:ls.flatten.length≤1000000) (hB:∀ p s,p ++ s=ls.flatten→∀ e,Pl.RB 2400 (Pl.coef p e)) (hB1:∀ t∈ls.flatten,Pl.RB 2400 t.2) :
 Calls prog 69 #[.slice a n c] w (fun e w'=>∃ out,VT w out e w'∧Pl.Nrm out∧∀ e,Pl.coef out e=Pl.coef ls.flatten e):=by
 obtain ⟨cs,hS,hl,hq⟩:=h;have HQ:=qh hq;have HB:=qh hB;have HB1:=qh hB1;have HL:=qh hl;have HN:=qh hN;clear hq hB hB1 hl hN
 go_enter func69,ntmps69
 go_upto_region 2 with (refine Ho rfl rfl ?_; intro w1 hM1 hE1 hlt1)
 go_wp2
 go_loopw [14] (fun iv wr=>∃ k:Nat,iv = .int .i64 k∧k≤n∧VX w w.heap.size (ls.take k).flatten wr) (fun iv _=>n-(intOf iv).toNat)
 case atStart=>exact ⟨0,rfl,Nat.zero_le _,[],hE1,Ep.new hM1,qh (fun e=>rfl),Nat.zero_le _⟩
 case round =>
  clear hM1 hE1 hlt1;obtain ⟨k,rfl,hk,hSu⟩:=hrel;by_cases hlt:k<n
  · obtain ⟨l0,hE0,hMR0,HC0,hl0⟩:=hSu;obtain ⟨b1,o1,rfl,hc1⟩:=(hS.ext hE0).rd (by omega);obtain ⟨a2,n2,c2,e2,hEs⟩:=HQ.out k hlt;have g1:=hc1 k hlt;rw [e2] at g1;have HFS:=qh (OZ (ls:=ls) (k:=k) (by rw [HL.out]; exact hlt));have HTF:=qh (Q8 (ls:=ls) (k:=k) (by rw [HL.out]; exact hlt));have HKK:=qh e2;clear hc1 e2;obtain ⟨L,HLk⟩:∃ L,Hid (ls.getD k []=L):=⟨_,qh rfl⟩;obtain ⟨pre,HPR⟩:∃ p,Hid ((ls.take k).flatten=p):=⟨_,qh rfl⟩;rw [HPR.out] at HC0 hl0;have HF2:Hid (pre ++ (L ++ (ls.drop (k+1)).flatten)=ls.flatten):=qh (by rw [←HPR.out,←HLk.out]; exact HFS.out)
    have HT2:Hid ((ls.take (k+1)).flatten=pre ++ L):=qh (by rw [←HPR.out,←HLk.out]; exact HTF.out);rw [HLk.out] at hEs;obtain ⟨rows,hR,hRl,hRq⟩:=hEs;have HRQ:=qh hRq;have HRL:=qh hRl;have hn2:=hR.le;clear hRq hRl HFS HTF HKK;obtain ⟨wo,rfl⟩:∃ x:World,x=wr:=⟨_,rfl⟩;go_wp2
    go_loopw [20] (fun iv wr=>∃ j:Nat,iv = .int .i64 j∧j≤n2∧VX w w.heap.size (pre ++ L.take j) wr) (fun iv _=>n2-(intOf iv).toNat)
    case atStart=>exact ⟨0,rfl,Nat.zero_le _,l0,hE0,hMR0,by simpa using HC0,by simpa using hl0⟩
    case round =>
     clear hMR0 HC0 hl0 hE0 g1;obtain ⟨j,rfl,hj,hSu⟩:=hrel;by_cases hlj:j<n2
     · obtain ⟨l,hE,hMR,HC,hll⟩:=hSu;have hSw:=hR.ext hE;obtain ⟨b,off,rfl,_⟩:=hSw.rd (by omega);obtain ⟨sx,ax,nx,cx,bx,mx,dx,hrow,h6,hrc⟩:=HRQ.out j hlj
       have HJT:Hid (L.take (j+1)=L.take j ++ [L.getD j ([],0)]):=qh (by
        rw [List.take_add_one,gqq,List.getElem?_eq_getElem (by rw [HRL.out]; exact hlj)]; rfl)
       have HTM:Hid (L.getD j ([],0)∈ls.flatten):=qh (by
        rw [←HF2.out];refine List.mem_append_right _ (List.mem_append_left _ ?_);rw [gqq,List.getElem?_eq_getElem (by rw [HRL.out]; exact hlj)]
        exact List.getElem_mem _)
       have HPX:Hid (∀ e,Pl.RB 2400 (Pl.coef (pre ++ L.take j) e)):=qh (HB.out _ (L.drop j ++ (ls.drop (k+1)).flatten) (by rw [←HF2.out,List.append_assoc,←List.append_assoc (L.take j),List.take_append_drop]));generalize L.getD j ([],0)=t at *
       obtain ⟨te,tq⟩:=t;obtain ⟨x0,x1,x2,x3,x4,x5,h6e⟩:=Dr h6;simp only at h6e hrow hrc;subst h6e;have hY:=Arr.new wr 111 (At [0,0,0,0,0,0] false none 0 0 none 0 0)
       go_upto_region 8 with (first
        | (refine CZ rfl rfl AA rfl hSw hlj ?_; rw [hrow])
        | (refine Aa (vs:=At [x0,x1,x2,x3,x4,x5] sx ax nx cx bx mx dx) rfl rfl rfl rfl rfl AA hY rfl Bk ?_; intro w3 hB3 hg3))
       have hE3:Ext wr w3:=((Ext.refl wr).alloc _).grownR hg3 (lrf _);have hMR3:=hMR.ext hE3;have hEw:=hE.trans hE3;have hrc3:=hrc.ext hEw;have hXr:w.heap.size≠wr.heap.size:=by have:=hMR.lt; omega
       clear hY hg3 hMR hE hE3 hrow h6 hSw hrc;generalize wr.heap.size=X at *
       have c0:=hB3.c 0 rfl;have c1:=hB3.c 1 rfl;have c2:=hB3.c 2 rfl;have c3:=hB3.c 3 rfl;have c4:=hB3.c 4 rfl;have c5:=hB3.c 5 rfl;have c6:=hB3.c 6 rfl;have c7:=hB3.c 7 rfl;have c8:=hB3.c 8 rfl;have c9:=hB3.c 9 rfl;obtain ⟨m,hMi,hRel⟩:=hMR3;have hnd:=hMi.nodup;have HRel:=qh hRel;obtain ⟨LV,HLV⟩:∃ v,Hid (D6 So m [x0,x1,x2,x3,x4,x5]=v):=⟨_,qh rfl⟩;have HKL:Hid ((l.map (·.1)).Nodup):=qh (by rw [←hRel.keys]; exact hnd);have HLR:Hid (BB w3 LV (Pl.getK 0 l [x0,x1,x2,x3,x4,x5])):=qh (by rw [←HLV.out,QV]; exact hRel.get (Sp w3) _)
       have HGB:Hid (Pl.RB 2400 (Pl.getK 0 l [x0,x1,x2,x3,x4,x5])):=qh (by rw [Pl.getK_coef l _ HKL.out,HC.out]; exact HPX.out _);have HTB:Hid (Pl.RB 2400 tq):=qh (HB1.out _ HTM.out);have hadd:=fun (wx:World) (hq:Ext w3 wx)=>qh (PG ((hT.ext hEw).ext hq) (HLR.out.ext hq) (v' := .agg #[.bool sx, .slice ax nx cx, .bool false, .slice bx mx dx]) (q:=tq) ⟨An sx ax nx cx false bx mx dx,rfl,hrc3.ext hq⟩ HGB.out.1 HGB.out.2 HTB.out.1 HTB.out.2)
       have HST:Hid (∀ e,Pl.coef (Pl.putK l [x0,x1,x2,x3,x4,x5] (Pl.getK 0 l [x0,x1,x2,x3,x4,x5]+tq)) e=Pl.coef (pre ++ L.take (j+1)) e):=qh (fun e=>by
        rw [Pl.coef_step HKL.out,HC.out,HJT.out,←List.append_assoc,Pl.coef_app _ [_]])
       have HPL:=qh (Pl.putK_length [x0,x1,x2,x3,x4,x5] (Pl.getK 0 l [x0,x1,x2,x3,x4,x5]+tq) l);have HJL:Hid ((pre ++ L.take (j+1)).length=(pre ++ L.take j).length+1):=qh (by rw [HJT.out]; simp; omega);clear hRel hnd HPX HGB HTB hrc3;generalize Pl.getK 0 l [x0,x1,x2,x3,x4,x5]=gq at *
       have HF1:=fun (wx:World) (hC:Ext w3 wx)=>qh (And.intro (hC.cell c0) (And.intro (hC.cell c1) (And.intro (hC.cell c2) (And.intro (hC.cell c3) (And.intro (hC.cell c4) (And.intro (hC.cell c5) (And.intro (hC.cell c6) (And.intro (hC.cell c7) (And.intro (hC.cell c8) (hC.cell c9))))))))))
       refine Af (by kernel_rfl) (fun wx=>Ext w3 wx)
        [he (.map (some w.heap.size)),
 he (.pointer (some ⟨X,0,none⟩)),
 he (.agg #[.int .i64 x0, .int .i64 x1, .int .i64 x2, .int .i64 x3, .int .i64 x4, .int .i64 x5]),
 he (.map (some w.heap.size)),
 he (.pointer (some ⟨X,0,none⟩)),
 he (.agg #[.int .i64 x0, .int .i64 x1, .int .i64 x2, .int .i64 x3, .int .i64 x4, .int .i64 x5]),
 he LV,
 he (.pointer (some ⟨X,6,none⟩)),
 he (.agg #[.bool sx, .slice ax nx cx, .bool false, .slice bx mx dx]),
 hp (fun v wx=>NR (gq+tq) v wx)]
        (by kernel_rfl) (fun _ _ e h=>h.trans e) ((Ext.refl w3).drew) ⟨trivial,trivial,trivial,trivial,trivial,trivial,trivial,trivial,trivial,NR.x _,trivial⟩ ⟨?o0, ?o1, ?o2, ?o3, ?o4, ?o5, ?o6, ?o7, ?o8, ?o9,trivial⟩ ?fin
       case o0=>exact omv rfl rfl (fun _ _=>id)
       case o1=>exact ofa (d:=0) rfl rfl (fun _ _=>id) (by kernel_rfl) rfl
       case o2 =>
        refine AB rfl fun ρ wx hC hcst h => ?_;have e0:ρ (.tmp 25)=(.pointer (some ⟨X,0,none⟩)):=h.1;obtain ⟨kx0,kx1,kx2,kx3,kx4,kx5,kx6,kx7,kx8,kx9⟩:=(HF1 wx hC).out;go_simp
       case o3=>exact omv rfl rfl (fun _ _=>id)
       case o4=>exact ofa (d:=0) rfl rfl (fun _ _=>id) (by kernel_rfl) rfl
       case o5 =>
        refine AB rfl fun ρ wx hC hcst h => ?_;have e0:ρ (.tmp 28)=(.pointer (some ⟨X,0,none⟩)):=h.1;obtain ⟨kx0,kx1,kx2,kx3,kx4,kx5,kx6,kx7,kx8,kx9⟩:=(HF1 wx hC).out;go_simp
       case o6 =>
        refine AB rfl fun ρ wx hC hcst h => ?_;have e0:ρ (.tmp 27)=(.map (some w.heap.size)):=h.1;have e1:ρ (.tmp 29)=(.agg #[.int .i64 x0, .int .i64 x1, .int .i64 x2, .int .i64 x3, .int .i64 x4, .int .i64 x5]):=h.2.1;obtain ⟨kx0,kx1,kx2,kx3,kx4,kx5,kx6,kx7,kx8,kx9⟩:=(HF1 wx hC).out;rw [←HLV.out];exact QW rfl G0 Lp OP e0 e1 (hMi.ext hC) rfl
       case o7=>exact ofa (d:=6) rfl rfl (fun _ _=>id) (by kernel_rfl) rfl
       case o8=>exact ol4 rfl rfl (fun _ _=>id) ⟨by kernel_rfl,by kernel_rfl⟩ (by assumption) (by assumption) (by assumption) (by assumption)
       case o9 =>
        refine Aj rfl fun ρ wx hC hcst hfn h => ?_;have e1:ρ (.tmp 30)=LV:=h.2.1;have e2:ρ (.tmp 32)=(.agg #[.bool sx, .slice ax nx cx, .bool false, .slice bx mx dx]):=h.2.2.1;obtain ⟨kx0,kx1,kx2,kx3,kx4,kx5,kx6,kx7,kx8,kx9⟩:=(HF1 wx hC).out;refine ⟨70,#[LV, .agg #[.bool sx, .slice ax nx cx, .bool false, .slice bx mx dx]],by go_simp,((hadd wx hC).out).mono ?_⟩;rintro e w' ⟨cs,rfl,hE',hr'⟩;exact ⟨_,rfl,hE',cs,rfl,hr'⟩
       case fin =>
        intro wx hC;rintro _ ⟨cs9,rfl,hr9⟩;change wpList _ _ _ _ _ _;simp only [List.length_cons,List.length_nil,List.drop_succ_cons,List.drop_zero,Act.put,List.setIfInBounds_toArray,List.set_cons_succ,List.set_cons_zero];have hMx:=hMi.ext hC;have hSz:=hEw.size
        go_wp2_with (refine Kx rfl (Or.inl rfl) G0 Lp (k:=[x0,x1,x2,x3,x4,x5]) (v := .agg cs9.toArray) rfl rfl rfl hMx rfl ?_; intro w5 hM5 hg5)
        go_roundw
        case rel =>
         refine ⟨j+1,by go_num,by omega,_,(hEw.trans hC).grownR hg5 (lrf _),⟨_,by rw [Sn] at hM5; exact hM5, ?_⟩,HST,by have h1:=HPL.out; have h2:=HJL.out; omega⟩;have hU:=hMx.noU;exact ((HRel.out.mono fun _ _ h=>h.ext hC).put _ ⟨cs9,rfl,hr9⟩).mono fun _ _ h=>h.keptU hU hg5
        case measure=>simp [intOf]; omega
     · have hje:j=n2:=by omega
       subst hje;rw [List.take_of_length_le (by rw [HRL.out]; exact lrf _),←HT2.out] at hSu;go_wp2;go_roundw
       case rel=>exact ⟨k+1,by go_num,by omega,hSu⟩
       case measure=>simp [intOf]; omega
  · have hkn:k=n:=by omega
    subst hkn;rw [List.take_of_length_le (by rw [HL.out]; exact lrf _)] at hSu;obtain ⟨l,hE,hMR,HC,hll⟩:=hSu;have h6:=hMR.six;have hnd:=hMR.nodup;have HP:=qh (And.intro h6 hnd);clear h6 hnd;obtain ⟨m,hMi,hRel⟩:=hMR;have hml:=hRel.len;have hmN:m.length≤1000000:=by have:=HN.out; omega
    have HML:=qh hml;have hln:=QY (P:=prog) (ty:=3) G0 hMi;have HRel:=qh hRel;clear hml hRel hll
    go_upto_region 12 with (refine PN rfl rfl (by kernel_rfl) C0 B2 rfl rfl (by omega) (by unfold maxLen; omega) ?_; intro w2 hO2 hE2)
    have hMi2:=hMi.ext hE2
    go_upto_region 13 with (refine Ky rfl rfl G0 rfl hMi2 ?_; intro w3 hI3 hE3 hlt3)
    have hE23:=hE2.trans hE3;have hEw:=hE.trans hE23;have hMR3:Ep w3 w.heap.size l:=⟨m,hMi.ext hE23,HRel.out.mono fun _ _ h=>h.ext hE23⟩;have hI3':AG w3 w2.heap.size w.heap.size l.length []:=by rw [←HML.out]; exact hI3
    have hg0:w.heap.size<wr.heap.size:=hMi.lt;have hO3:=hO2.ext hE3;have hgi:wr.heap.size<w2.heap.size:=hO2.lt.2;have hO3':E9 w3 w.heap.size 111 10 wr.heap.size 0 m.length []:=⟨hO3.1.mono (by omega),hO3.2⟩;clear hI3 hMi2 hE2 hE3 hO2 hE23 hln hE hlt3 hMi hO3;generalize wr.heap.size=g at *
    generalize w2.heap.size=it at *
    obtain ⟨M,hM⟩:∃ M,m.length=M:=⟨_,rfl⟩;have hMl:l.length=M:=by rw [←hM]; exact HML.out.symm
    have HMl:=qh hMl;rw [hM] at hO3' hmN ⊢;have hMM:=hmN;clear hmN;clear hM hMl HRel HML
    go_frame
    go_loopw [8] (fun v wr=>Wt w w.heap.size it g M l v wr) (fun _ wr=>l.length-PQ wr it)
    case atStart=>exact ⟨[],0,[],rfl,hEw,hMR3,hI3',by simp,by simp,hO3',rfl,qh (fun i hi=>absurd hi (by omega))⟩
    case round =>
     clear hEw hMR3 hI3' hO3';obtain ⟨seen,N,rows,rfl,hE,hMR,hI,hsn,hsl,hO,hpl,HEn⟩:=hrel;have hNM:N≤seen.length∧seen.length≤l.length:=by
      have h1:=Pl.picked_len l seen;have h2:=Pl.seen_len hsn hsl;omega
     have HPLN:=qh hpl;clear hpl;obtain ⟨m2,hMi2,hRel2⟩:=hMR;have hml2:=hRel2.len;rw [←hml2] at hI;have hrI:=QX hMi2 hI;by_cases hall:∀ i,i<m2.length→i∈seen
     · have hperm:=Pl.picked_perm hsn hsl (fun i hi=>hall i (by rw [hml2]; exact hi));have HPM:=qh hperm;clear hperm hml2
       go_wp2_with (refine FV rfl rfl rfl hMi2 hI (fun _ => ?_) (fun i _ _ _ h1 h2 _ _ _=>absurd (hall i h1) h2))
       go_ret;refine ⟨Pl.picked l seen,⟨_,N,M,rfl,hE,rows,hO.1,fun g' hg' => ?_,HPLN.out,HEn.out⟩,(Pl.Nrm.filter HP.out.1 HP.out.2).perm HPM.out.symm,fun e => ?_⟩
       · have:g=g':=by simpa [blk] using hg'
         subst this;exact hO.2
       · rw [Pl.coef_perm HPM.out,Pl.coef_nz,HC.out]
     · have hSN:PQ wr it=seen.length:=J3 hI;have hsz:=hE.size;have hOI:=J2 hO.1 hI;have hOM:=Fq hO.1 hMi2;have HRel2:=qh hRel2;have HML2:=qh hml2;have hIlt:=hI.lt;have hIU:=hI.noU;clear hRel2 hml2
       go_upto_region 14 with (refine FV rfl rfl rfl hMi2 hI (fun h=>absurd h hall) ?_; intro i k v w4 hil his hmi hI4 hg4)
       obtain ⟨q,hlq,hRv⟩:=HRel2.out.nth hmi;have HLQ:Hid (l.getD i ([],0)=(k,q)):=qh (by rw [gqq,hlq]; rfl);have hk6:k.length=6:=hMi2.six _ (List.mem_of_getElem? hmi);have hMR4:Ep w4 w.heap.size l:=Ep.keptU ⟨m2,hMi2,HRel2.out⟩ hIU hg4 hrI;have hMi4:=hMi2.kept hg4 (by simpa using hrI);have hO4:=hO.kept hg4 (by simpa using hOI);have HEn4:Hid (∀ i,i<N→Cm w4 (rows.getD i []) ((Pl.picked l seen).getD i ([],0))):=qh (fun i hi=>(HEn.out i hi).keptU hIU hg4);have hRv4:=hRv.keptU hIU hg4;have hE4:Ext w w4:=hE.grownR hg4 (by omega)
       have HSEEN:Hid ((seen ++ [i]).Nodup∧(∀ j∈seen ++ [i],j<l.length)∧seen.length<l.length):=qh (by
        have hiL:i<l.length:=by rw [←HML2.out]; exact hil
        refine ⟨List.nodup_append.2 ⟨hsn,by simp,fun x hx y hy=>by simp only [List.mem_singleton] at hy; subst hy; rintro rfl; exact his hx⟩,fun j hj => ?_, ?_⟩
        · rcases List.mem_append.1 hj with hj|hj
          · exact hsl j hj
          · simp only [List.mem_singleton] at hj; subst hj; exact hiL
        · have:=Pl.seen_len (n:=l.length) (List.nodup_cons.2 ⟨his,hsn⟩) (fun x hx=>by
           rcases List.mem_cons.1 hx with rfl|hx
           · exact hiL
           · exact hsl x hx)
          simp at this
          omega)
       obtain ⟨x0,x1,x2,x3,x4,x5,h6e⟩:=Dr hk6;subst h6e;obtain ⟨_,rfl,sx,ax,nx,cx,bx,mx,dx,rfl,HSx,hxx,hyy⟩:=hRv4;have HI4:Hid (AG w4 it w.heap.size l.length (seen ++ [i])):=qh (by rw [←HML2.out]; exact hI4);have hz4:=hE4.size;clear hRv HEn hE hMi2 hO hI hg4 hIU hk6 hlq hsz hOI hrI HRel2;have hY1:=Jy w4 (ze.map (Value.int .i64)) (An false none 0 0 false none 0 0) 109 97;have hY2:=Jz w4 (ze.map (Value.int .i64)) (An false none 0 0 false none 0 0) 109 97
       have hEy:=VJ w4 (.cells (ze.map (Value.int .i64)).toArray 109) (.cells (An false none 0 0 false none 0 0).toArray 97)
       go_upto_region 15 with (first
        | (refine Kz rfl rfl rfl hMi4 hI4 hmi ?_)
        | (refine Aa (vs:=[x0,x1,x2,x3,x4,x5].map (Value.int .i64)) rfl rfl rfl rfl rfl Sm hY1 rfl (A6 _) ?_; intro w5 hB5 hg5; have hY3:=hY2.kept hg5 (by simp); clear hY1)
        | (refine Aa (vs:=An sx ax nx cx false bx mx dx) rfl rfl rfl rfl rfl Ac hY3 rfl (Ap _ _ _ _ _ _ _ _) ?_; intro w6 hB6 hg6))
       have hE46:Ext w4 w6:=(hEy.grownR hg5 (lrf _)).grownR hg6 (by omega);have hB5':=hB5.kept hg6 (by simp);have hE6:=hE4.trans hE46;have hMR6:=hMR4.ext hE46;have HI6:Hid (AG w6 it w.heap.size l.length (seen ++ [i])):=qh (HI4.out.ext hE46);have hO6:=hO4.ext hE46;have HEn6:Hid (∀ i,i<N→Cm w6 (rows.getD i []) ((Pl.picked l seen).getD i ([],0))):=qh (fun i hi=>(HEn4.out i hi).ext hE46);have hxx6:=hxx.ext hE46;have hyy6:=hyy.ext hE46;clear hB5 hg5 hg6 hEy hY2 hY3 hE46 hMR4 HI4 hO4 HEn4 hxx hyy hE4 hMi4 hI4;generalize w4.heap.size=Y at *
       have y0:w6.cell? ⟨Y,0,none⟩=some (.int .i64 x0):=hB5'.cell (i:=0) (by simp);have y1:w6.cell? ⟨Y,1,none⟩=some (.int .i64 x1):=hB5'.cell (i:=1) (by simp);have y2:w6.cell? ⟨Y,2,none⟩=some (.int .i64 x2):=hB5'.cell (i:=2) (by simp);have y3:w6.cell? ⟨Y,3,none⟩=some (.int .i64 x3):=hB5'.cell (i:=3) (by simp);have y4:w6.cell? ⟨Y,4,none⟩=some (.int .i64 x4):=hB5'.cell (i:=4) (by simp);have y5:w6.cell? ⟨Y,5,none⟩=some (.int .i64 x5):=hB5'.cell (i:=5) (by simp);have z0:=hB6.c 0 rfl;have z1:=hB6.c 1 rfl;have z2:=hB6.c 2 rfl;have z3:=hB6.c 3 rfl
       have hiz:=qh (Gq (w:=w6) (v := .agg #[.bool sx, .slice ax nx cx, .bool false, .slice bx mx dx]) (q:=q) ⟨An sx ax nx cx false bx mx dx,rfl,sx,ax,nx,cx,bx,mx,dx,rfl,HSx,hxx6,hyy6⟩ rfl);clear hB5' hB6
       go_wp2_with fail
       refine hiz.out.mono ?_;rintro e w7 ⟨rfl,hE7⟩;have hE7w:=hE6.trans hE7;have hMR7:=hMR6.ext hE7;have HI7:Hid (AG w7 it w.heap.size l.length (seen ++ [i])):=qh (HI6.out.ext hE7);have hO7:=hO6.ext hE7;have HEn7:Hid (∀ i,i<N→Cm w7 (rows.getD i []) ((Pl.picked l seen).getD i ([],0))):=qh (fun i hi=>(HEn6.out i hi).ext hE7);have hxx7:=hxx6.ext hE7;have hyy7:=hyy6.ext hE7;have y0:=hE7.cell y0;have y1:=hE7.cell y1;have y2:=hE7.cell y2;have y3:=hE7.cell y3;have y4:=hE7.cell y4;have y5:=hE7.cell y5;have z0:=hE7.cell z0;have z1:=hE7.cell z1;have z2:=hE7.cell z2;have z3:=hE7.cell z3
       clear hiz hE6 hMR6 HI6 hO6 HEn6 hxx6 hyy6 hE7;by_cases hq0:q=0
       · rw [decide_eq_true hq0];have HPK:Hid (Pl.picked l (seen ++ [i])=Pl.picked l seen):=qh (by rw [Pl.picked_snoc,if_pos (by rw [HLQ.out]; exact hq0)]);clear hq0;go_wp2;go_roundw
         case rel=>exact ⟨seen ++ [i],N,rows,rfl,hE7w,hMR7,HI7.out,HSEEN.out.1,HSEEN.out.2.1,hO7,by rw [HPK.out]; exact HPLN.out,by rw [HPK.out]; exact HEn7⟩
         case measure =>
          have e1:=J3 HI7.out;have e2:=HSEEN.out.2.2;rw [hSN,e1];simp;omega
       · rw [decide_eq_false hq0];have HPK:Hid (Pl.picked l (seen ++ [i])=Pl.picked l seen ++ [([x0,x1,x2,x3,x4,x5],q)]):=qh (by rw [Pl.picked_snoc,if_neg (by rw [HLQ.out]; exact hq0),HLQ.out]);have hNl:N<M:=by have h1:=HSEEN.out.2.2; have h2:=HMl.out; omega
         have hM0:M≤1000000:=hMM;clear hq0;have hE8:Ext w7 (w7.alloc (.cells (At [x0,x1,x2,x3,x4,x5] sx ax nx cx bx mx dx).toArray 111)):=(Ext.refl w7).alloc _;have hA8:=hO7.ext hE8;have hL8:=GZ (k:=10) (Arr.new w7 111 (At [x0,x1,x2,x3,x4,x5] sx ax nx cx bx mx dx)) rfl;have hl8:(At [x0,x1,x2,x3,x4,x5] sx ax nx cx bx mx dx).toArray=#[.int .i64 x0, .int .i64 x1, .int .i64 x2, .int .i64 x3, .int .i64 x4, .int .i64 x5, .bool sx, .slice ax nx cx, .bool false, .slice bx mx dx]:=rfl
         have hbs:w.heap.size≤(w7.alloc (.cells (At [x0,x1,x2,x3,x4,x5] sx ax nx cx bx mx dx).toArray 111)).heap.size:=(hE7w.trans hE8).size;have HEW:=qh (hE7w.trans hE8);have HEn8:Hid (∀ i,i<N→Cm (w7.alloc (.cells (At [x0,x1,x2,x3,x4,x5] sx ax nx cx bx mx dx).toArray 111)) (rows.getD i []) ((Pl.picked l seen).getD i ([],0))):=qh fun i hi=>(HEn7.out i hi).ext hE8
         have HEC8:Hid (Cm (w7.alloc (.cells (At [x0,x1,x2,x3,x4,x5] sx ax nx cx bx mx dx).toArray 111)) (At [x0,x1,x2,x3,x4,x5] sx ax nx cx bx mx dx) ([x0,x1,x2,x3,x4,x5],q)):=qh ⟨sx,ax,nx,cx,bx,mx,dx,rfl,rfl,sx,ax,nx,cx,bx,mx,dx,rfl,HSx,hxx7.ext hE8,hyy7.ext hE8⟩;have HMR8:=qh (hMR7.ext hE8);have HI8:=qh (HI7.out.ext hE8);have HO8:=qh hA8;rw [hl8] at hA8 hL8 hbs;have hrl:=hO7.1.len (by omega);clear hMR7 hO7 HEn7 HI7 hxx7 hyy7
         go_wp2_with (refine Mo rfl rfl (by kernel_rfl) C0 rfl hA8 rfl hL8 (by intro r hr u hu; rw [List.mem_singleton.1 hr] at hu; exact Bk u hu) (by intro r hr u hu; rw [List.mem_singleton.1 hr] at hu; exact B2 u hu) (by omega) (by omega) hbs ?_; intro w9 hO9 hg9)
         have HI9:Hid (AG w9 it w.heap.size l.length (seen ++ [i])):=qh (HI8.out.kept hg9 (by have:=J2 HO8.out.1 HI8.out; simpa using fun h=>this h.symm));go_roundw
         case rel =>
          have hU:=HO8.out.2;have hne:w.heap.size≠g:=by
           obtain ⟨m8,h8,_⟩:=HMR8.out;exact fun h=>Fq HO8.out.1 h8 h.symm
          refine ⟨seen ++ [i],N+1,_,rfl,HEW.out.grownR hg9 (by omega),HMR8.out.keptU hU hg9 hne,HI9.out,HSEEN.out.1,HSEEN.out.2.1,hO9,by rw [HPK.out,List.length_append,HPLN.out]; rfl,qh fun j hj => ?_⟩;rw [HPK.out];by_cases hjN:j=N
          · subst hjN;rw [gqq,List.getElem?_append_right (by omega),hrl,Nat.sub_self,gqq,List.getElem?_append_right (by rw [HPLN.out]; exact lrf _),HPLN.out,Nat.sub_self];exact HEC8.out.keptU hU hg9
          · rw [gqq,List.getElem?_append_left (by omega),←gqq,gqq (l:=Pl.picked l seen ++ _),List.getElem?_append_left (by rw [HPLN.out]; omega),←gqq];exact (HEn8.out j (by omega)).keptU hU hg9
         case measure =>
          have e1:=J3 HI9.out;have e2:=HSEEN.out.2.2;rw [hSN,e1];simp;omega
end Go.Proofs.YtlpgonpfjbhmfaaGreatDoor
