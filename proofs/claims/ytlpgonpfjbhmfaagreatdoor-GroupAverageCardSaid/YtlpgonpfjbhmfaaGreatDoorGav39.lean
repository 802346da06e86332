/- Part Gav39. -/
import Derived.Test.YtlpgonpfjbhmfaaGreatDoorGav38
import Derived.Test.YtlpgonpfjbhmfaaGreatDoorGav21
import Derived.Test.YtlpgonpfjbhmfaaGreatDoorGav19
import Derived.Test.YtlpgonpfjbhmfaaGreatDoorGav25
import Derived.Test.YtlpgonpfjbhmfaaGreatDoorGav26
import Derived.Test.YtlpgonpfjbhmfaaGreatDoorGav29
import Derived.Test.YtlpgonpfjbhmfaaGreatDoorGav15
set_option maxRecDepth 100000
set_option maxHeartbeats 100000000
namespace Go.Proofs.YtlpgonpfjbhmfaaGreatDoor
open Tryz Go Go.RowKit
variable {s:ByteArray} {n n' z:Int} {l:List UInt8} {cs:List Value} {b c d g m:Nat} {p q x y:Rat} {T:TypeId} {v v':Value} {w w' wb:World}
theorem UN:∃ i,prog.info? 5=some i∧i.size=1:=by
 have h:=Df;unfold Bh at h;cases hx:prog.info? 5 with
 | none=>rw [hx] at h; cases h
 | some i=>rw [hx] at h; simp at h; exact ⟨i,rfl,h.2.1⟩
def Tc (wb:World) (g c:Nat) (T:TypeId) (l:List UInt8) (e:Ending) (w':World):Prop:=e = .returned (.slice (some ⟨g,0,none⟩) l.length c)∧Ext wb w'∧∃ cs',Arr w' g T cs'∧cs'.length=c∧cs'.take l.length=l.map AO
theorem PE.bg {e:Ending} (h:PE w g c T l e w') (hE:Ext wb w) (hg:wb.heap.size≤g):Tc wb g c T l e w':=by
 obtain ⟨h1,⟨w1,h2,h3⟩,h4⟩:=h;exact ⟨h1,(hE.trans h2).grownR h3 hg,h4⟩
theorem Wf (w:World) (b:UInt8):Go.Src prog 1 154 (.slice (some ⟨w.heap.size,0,none⟩) 1 1) 1 ([b].map AO) (w.alloc (.cells #[AO b] 5)):=by
 refine Go.Src.ofSlice (P:=prog) _ underlying154 _ _ _ _ (by simp) (fun j v hj => ?_) (FH _);have hA:=Arr.new w 5 [AO b];have hj0:j=0:=by have:=(List.getElem?_eq_some_iff.1 hj).1; simp at this; omega
 subst hj0;have e:v=AO b:=by simpa using hj.symm
 rw [e];exact hA.cell (i:=0) (by simp)
theorem O7 {n:Nat} (hT:A2 wb) (hE:Ext wb w) (hg:wb.heap.size≤g) (hA:Arr w g T cs) (hl:cs.length=c) (hn:l.length=n) (hc:n+21≤c) (ht:cs.take n=l.map AO) (h0 : -4000000000000000000<z) (h1:z<4000000000000000000) :
 Calls prog 150 #[.slice (some ⟨g,0,none⟩) n c, .int .i64 z, .int .i64 10] w (Tc wb g c T (l ++ Lib.itoa z)):=by
 obtain ⟨iu,hiu,his⟩:=UN;by_cases hz:z<0
 · have hi:Lib.itoa z=[45] ++ Lib.decDigits z.natAbs:=by unfold Lib.itoa; rw [if_pos hz]; rfl
   rw [hi,←List.append_assoc];have hA1:Arr (w.alloc (.cells #[.int .u8 45] 5)) g T cs:=hA.alloc _;have hsrc:=Wf w 45;have hlen:([45].map AO).length=1:=rfl;obtain ⟨r,hr⟩:∃ r,l ++ [45] ++ Lib.decDigits z.natAbs=r:=⟨_,rfl⟩;rw [hr];have HL:=qh (And.intro hl (And.intro hn ht));clear hl hn ht hA
   go_enter func150,ntmps150
   go_upto_region 4 with (refine I9 (m:=1) rfl rfl underlying154 hiu his rfl rfl hsrc hA1 (by omega) (by rw [HL.out.1]; omega) ?_; intro w2 hA2 hg2)
   have hE2:Ext wb w2:=(hE.alloc _).grownR hg2 hg
   have happ:=qh (H9 (u:=z.natAbs) (l:=l ++ [45]) (n:=n+1) (hT.ext hE2) hA2 (Mf rfl HL.out.1 (by omega)) (by rw [List.length_append,HL.out.2.1]; rfl) (by omega) (by
    have h:=Ja (r:=[45]) (m:=1) HL.out.2.2;rw [List.length_append,HL.out.2.1] at h
    exact h) (by omega))
   have hw:IntKind.u64.wrap (-(IntKind.u64.wrap z))=(z.natAbs:Int):=by
    rw [IntKind.wrap_u64,IntKind.wrap_u64];omega
   rw [hr] at happ;clear hr
   go_wp2_with fail
   refine happ.out.mono ?_;rintro e w' h;obtain ⟨rfl,h1,h2⟩:=h.bg hE2 hg;go_wp2;go_ret;exact ⟨rfl,h1,h2⟩
 · have hi:Lib.itoa z=Lib.decDigits z.natAbs:=by unfold Lib.itoa; rw [if_neg hz]; congr 1; omega
   rw [hi];obtain ⟨k,rfl⟩:∃ k:Nat,z=k:=⟨z.natAbs,by omega⟩;rw [Int.natAbs_natCast];have happ:=qh (H9 (u:=k) (hT.ext hE) hA hl hn (by omega) ht (by omega));have hw:IntKind.u64.wrap (k:Int)=(k:Int):=wrap_u64 (by omega) (by omega);obtain ⟨r,hr⟩:∃ r,l ++ Lib.decDigits k=r:=⟨_,rfl⟩;rw [hr] at happ ⊢;clear hl hn ht hA hr
   go_enter func150,ntmps150
   go_wp2_with fail
   refine happ.out.mono ?_;rintro e w' h;obtain ⟨rfl,h1,h2⟩:=h.bg hE hg;go_wp2;go_ret;exact ⟨rfl,h1,h2⟩
theorem LJ {n:Nat} (hT:A2 wb) (hE:Ext wb w) (hg:wb.heap.size≤g) (hA:Arr w g T cs) (hl:cs.length=c) (hn:l.length=n) (hc:n+21≤c) (ht:cs.take n=l.map AO) (h0 : -4000000000000000000<z) (h1:z<4000000000000000000) :
 Calls prog 113 #[.slice (some ⟨g,0,none⟩) n c, .int .i64 z, .int .i64 10] w (Tc wb g c T (l ++ Lib.itoa z)):=by
 have h:=qh (O7 hT hE hg hA hl hn hc ht h0 h1);obtain ⟨r,hr⟩:∃ r,l ++ Lib.itoa z=r:=⟨_,rfl⟩;rw [hr] at h ⊢;clear hl hn ht hA hr
 go_enter func113,ntmps113
 go_wp2_with fail
 refine h.out.mono ?_;rintro e w' ⟨rfl,h1,h2⟩;go_wp2;go_ret;exact ⟨rfl,h1,h2⟩
theorem FU (h:q.den=1):txt q=Lib.itoa q.num:=by unfold txt; rw [if_pos h,List.append_nil]
theorem Td (h:q.den≠1):txt q=(Lib.itoa q.num ++ [47]) ++ Lib.itoa (q.den:Int):=by
 have e:Lib.itoa (q.den:Int)=Lib.decDigits q.den:=by unfold Lib.itoa; rw [if_neg (by omega)]; rfl
 unfold txt;rw [if_neg h,e,List.append_assoc];rfl
theorem Kw (h0 : -4000000000000000000<z) (h1:z<4000000000000000000):(Lib.itoa z).length≤20:=by
 have key:∀ n:Nat,n<10000000000000000000→(Lib.decDigits n).length≤19:=fun n h=>W.dec_len (k:=19) (by omega) (by omega);unfold Lib.itoa;split
 · have:=key z.natAbs (by omega); simp; omega
 · have:=key z.toNat (by omega); omega
theorem E6 (hT:A2 w) (h0 : -4000000000000000000<n) (h1:n<4000000000000000000) (hd:0<d) (h2:d<4000000000000000000) :
 Calls prog 60 #[.int .i64 n, .int .i64 (d:Int)] w fun e w'=>e = .returned (.string ⟨(txt (mkRat n d)).toArray⟩)∧Ext w w':=by
 obtain ⟨iu,hiu,his⟩:=UN;obtain ⟨p1,p2⟩:=Pl.rat_frac (n:=n) (d:=d) (by omega);obtain ⟨q,hq⟩:∃ q,mkRat n d=q:=⟨_,rfl⟩;rw [hq] at p1 p2 ⊢;have hfi:=fun (wx:World) (hC:Ext w wx) (z:Int) (a : -4000000000000000000<z) (b:z<4000000000000000000)=>qh (Eb (z:=z) (hT.ext hC) (by omega) (by omega));have hdn:¬ (d:Int)<0:=by omega
 by_cases hd1:d=1
 · subst hd1;have hqd:q.den=1:=by rw [p2,Nat.gcd_one_right]
   have hqn:q.num=n:=by rw [p1,Nat.gcd_one_right]; exact Int.tdiv_one _
   rw [FU hqd,hqn];clear p1 p2 hq hqd hqn
   go_enter func60,ntmps60
   go_wp2_with fail
   refine (hfi _ (Ext.refl _) n h0 h1).out.mono ?_;rintro e w1 ⟨rfl,hE1⟩;go_wp2;go_ret;exact ⟨rfl,hE1⟩
 · have hG0:0<Nat.gcd n.natAbs d:=Nat.gcd_pos_of_pos_right _ hd;have hgc:∀ (wx:World) (m:Int),m=(n.natAbs:Int)→Hid _:=fun wx m hm=>qh (by have h:=Oc (x:=n.natAbs) (y:=d) (w:=wx) (by omega) (by omega); rw [←hm] at h; exact h);obtain ⟨G,hG⟩:∃ G,Nat.gcd n.natAbs d=G:=⟨_,rfl⟩;rw [hG] at p1 p2 hG0 hgc;have hGi:(G:Int)≠0:=by omega
   have hdi:¬ (d:Int)=1:=by omega
   have hdd:(d:Int).tdiv (G:Int)=((d/G:Nat):Int):=rfl;have hb1 : -4000000000000000000<q.num∧q.num<4000000000000000000:=by
    have h1:q.num.natAbs≤n.natAbs:=by rw [p1,Int.natAbs_tdiv]; exact Nat.div_le_self _ _
    omega
   have hb2:q.den<4000000000000000000:=by rw [p2]; exact Nat.lt_of_le_of_lt (Nat.div_le_self _ _) h2
   rw [←p2] at hdd;have p1':=p1.symm;obtain ⟨t,ht⟩:∃ t,txt q=t:=⟨_,rfl⟩;rw [ht];have HT:=qh ht;clear p1 p2 hq hG hG0 ht
   go_enter func60,ntmps60
   go_wp2_with fail
   all_goals
    refine (hgc _ _ (by omega)).out.mono ?_;rintro e w1 ⟨rfl,hQ⟩;have hE1:=hQ.ext;clear hQ
    go_upto_region 5 with (fail)
    have k1:IntKind.i64.wrap (n.tdiv (G:Int))=q.num:=by rw [p1']; exact IntWalk.i64_in _ (by omega)
    have k2:IntKind.i64.wrap ((d:Int).tdiv (G:Int))=(q.den:Int):=by rw [hdd]; exact IntWalk.i64_in _ (by omega)
    go_region
    replace hE1:=hE1.drew;generalize w1.drew=w2 at *
    clear k1 k2 hdd p1' hGi hdi hgc;by_cases hq1:q.den=1
    · have HR:Hid (Lib.itoa q.num=t):=qh (by rw [←FU hq1]; exact HT.out);have hqb:((q.den:Int) == 1)=true:=by simp [hq1]
      clear hq1
      go_wp2_with fail
      refine (hfi _ hE1 _ hb1.1 hb1.2).out.mono ?_;rintro e w3 ⟨rfl,hE3⟩;go_wp2;go_ret;exact ⟨by rw [←HR.out]; rfl,hE1.trans hE3⟩
    · have HR:Hid (Lib.itoa q.num ++ [47] ++ Lib.itoa (q.den:Int)=t):=qh (by rw [←Td hq1]; exact HT.out);have hqb:((q.den:Int) == 1)=false:=by simp; omega
      clear hq1 hfi;obtain ⟨G8,hG8⟩:∃ G8,w2.heap.size=G8:=⟨_,rfl⟩
      go_upto_region 9 with (fail)
      refine Bq ?_;intro w3 hE3 hB3 hz3;rw [hG8] at hB3;replace hE3:=hE1.trans hE3;have hg:w.heap.size≤G8:=by rw [←hG8]; exact hE1.size
      obtain ⟨cs,hB,hl⟩:∃ cs,Arr w3 G8 161 cs∧cs.length=48:=⟨_,hB3,rfl⟩;clear hB3 hz3 hG8 hE1
      have hsl:∀ W,(Instr.sliceAt 161 (.pointer (some ⟨G8,0,none⟩)) none (some (.int .i64 0)) none).run prog W = .ok (.slice (some ⟨G8,0,none⟩) 0 48) W:=fun W=>by
       have hal:prog.arrayLen 161=48:=by kernel_rfl
       have h:=run_sliceAt_array_h (P:=prog) W 161 ⟨G8,0,none⟩ (by simp [Program.arrayLen,Program.elem,underlying161]) .i64 0 (by omega) (by rw [hal]; omega);rw [h,hal];go_simp
      have hl1:=Kw hb1.1 hb1.2;have happ:=qh (LJ (l:=[]) (n:=0) hT hE3 hg hB hl rfl (by omega) rfl hb1.1 hb1.2);rw [List.nil_append] at happ;obtain ⟨t1,ht1⟩:∃ t1,Lib.itoa q.num=t1:=⟨_,rfl⟩;rw [ht1] at happ HR hl1;obtain ⟨L,hL⟩:∃ L,t1.length=L:=⟨_,rfl⟩;rw [hL] at hl1;have HL:=qh hL;clear ht1 hL hB hl
      go_wp2_with fail
      refine happ.out.mono ?_;rintro e w4 ⟨rfl,hE4,cs4,hB4,hl4,ht4⟩;rw [HL.out] at ht4 ⊢;have HL4:=qh (And.intro hl4 ht4);clear happ hl4 ht4 hsl;have hA5:Arr (w4.alloc (.cells #[.int .u8 47] 5)) G8 161 cs4:=hB4.alloc _;have hsrc:=Wf w4 47;have hlen:([47].map AO).length=1:=rfl;clear hB4
      go_upto_region 11 with (refine I9 (m:=1) rfl rfl underlying154 hiu his rfl rfl hsrc hA5 (by omega) (by rw [HL4.out.1]; omega) ?_; intro w5 hB5 hg5)
      have hE5:Ext w w5:=(hE4.alloc _).grownR hg5 hg
      have happ:=qh (LJ (l:=t1 ++ [47]) (n:=L+1) (z:=(q.den:Int)) hT hE5 hg hB5 (Mf rfl HL4.out.1 (by omega)) (by rw [List.length_append,HL.out]; rfl) (by omega) (by
       have h:=Ja (r:=[47]) (m:=1) HL4.out.2;rw [List.length_append,HL.out] at h
       exact h) (by omega) (by omega))
      rw [HR.out] at happ;clear hB5 hg5 hsrc hlen
      go_wp2_with fail
      refine happ.out.mono ?_;rintro e w6 ⟨rfl,hE6,cs6,hB6,hl6,ht6⟩;have hd48:t.length≤48:=by
       have h:=congrArg List.length ht6;simp only [List.length_take,List.length_map,hl6] at h;omega
      have hS:=hB6.sl (k:=t.length) (by omega) (by rw [hl6]; unfold maxLen; omega);rw [hl6,ht6] at hS;clear ht6 hl6 hB6 happ
      go_wp2_with (refine EH rfl rfl underlying154 underlying5 underlying9 rfl hS ?_)
      go_ret;exact ⟨rfl,hE6⟩
theorem Te (hT:A2 w) (hb:b≤900) (hx:Pl.RB b x) (hy:Pl.RB b y) (lx:(txt x).length≤570) (ly:(txt y).length≤570) :
 Calls prog 28 #[.string ⟨(txt x).toArray⟩, .string ⟨(txt y).toArray⟩] w fun e w'=>e = .returned (.string ⟨(txt (x+y)).toArray⟩)∧Ext w w':=by
 have sx:(⟨(txt x).toArray⟩:ByteArray).size≤570:=by rw [←AJ,AU]; exact lx
 have sy:(⟨(txt y).toArray⟩:ByteArray).size≤570:=by rw [←AJ,AU]; exact ly
 have htw:=qh (IF (w:=w) (s:=⟨(txt x).toArray⟩) (s':=⟨(txt y).toArray⟩) (by omega) (by omega));have hv1:=fun (wx:World) (hC:Ext w wx)=>qh (FT (s:=⟨(txt x).toArray⟩) (hT.ext hC) sx);have hv2:=fun (wx:World) (hC:Ext w wx)=>qh (FT (s:=⟨(txt y).toArray⟩) (hT.ext hC) sy);have e1:vaQ (Am ⟨(txt x).toArray⟩)=x:=by unfold vaQ; rw [AU,Bm]; rfl
 have e2:vaQ (Am ⟨(txt y).toArray⟩)=y:=by unfold vaQ; rw [AU,Bm]; rfl
 rw [e1] at hv1;rw [e2] at hv2;rw [AU,AU] at htw;have hml:=fun (wx:World) (v v':Value) (hC:Ext w wx) (h:BB wx v x) (h':BB wx v' y)=>qh (PG (hT.ext hC) h h' (Ag hx.1 (by omega)) (Ag hx.2 (by omega)) (Ag hy.1 (by omega)) (Ag hy.2 (by omega)));have hxy:=hx.add hy;have hst:=fun (wx:World) (v:Value) (hC:Ext w wx) (h:BB wx v (x+y))=>qh (Gp (hT.ext hC) h (Ag hxy.1 (by omega)) (Ag hxy.2 (by omega)))
 have hsh:∀ n d n' d',ShQ (txt x) n d→ShQ (txt y) n' d'→∀ wx,Ext w wx→Hid (Calls prog 60 #[.int .i64 (n*(d':Int)+n'*(d:Int)), .int .i64 ((d:Int)*(d':Int))] wx fun e w'=>e = .returned (.string ⟨(txt (x+y)).toArray⟩)∧Ext wx w')∧((-1000000000000000000<n*(d':Int)∧n*(d':Int)<1000000000000000000)∧(-1000000000000000000<n'*(d:Int)∧n'*(d:Int)<1000000000000000000))∧((d:Int)*(d':Int))≤9223372036854775807:=by
  rintro n d n' d' ⟨q1,b1,c1,f1⟩ ⟨q2,b2,c2,f2⟩ wx hC;rw [Bm] at q1 q2;have k1:x=mkRat n d:=Option.some.inj q1;have k2:y=mkRat n' d':=Option.some.inj q2;have hn1:(n*(d':Int)).natAbs<1000000000*1000000000:=by
   rw [Int.natAbs_mul];exact Nat.mul_lt_mul'' b1 f2
  have hn2:(n'*(d:Int)).natAbs<1000000000*1000000000:=by
   rw [Int.natAbs_mul];exact Nat.mul_lt_mul'' b2 f1
  have hdd:d*d' < 1000000000*1000000000:=Nat.mul_lt_mul'' f1 f2;have hd0:0<d*d':=Nat.mul_pos c1 c2;have h:=E6 (w:=wx) (n:=n*(d':Int)+n'*(d:Int)) (d:=d*d') (hT.ext hC) (by omega) (by omega) hd0 (by omega);rw [←Rat.mkRat_add_mkRat _ _ (by omega) (by omega),←k1,←k2,Int.natCast_mul] at h;refine ⟨qh h,⟨⟨by omega,by omega⟩,by omega,by omega⟩, ?_⟩;rw [←Int.natCast_mul];omega
 clear sx sy e1 e2 hx hy hxy;obtain ⟨S,hS⟩:∃ S:ByteArray,⟨(txt x).toArray⟩=S:=⟨_,rfl⟩;obtain ⟨S',hS'⟩:∃ S:ByteArray,⟨(txt y).toArray⟩=S:=⟨_,rfl⟩;obtain ⟨R,hR⟩:∃ S:ByteArray,⟨(txt (x+y)).toArray⟩=S:=⟨_,rfl⟩;rw [hS] at htw hv1 ⊢;rw [hS'] at htw hv2 ⊢;rw [hR] at hst ⊢;simp only [hR] at hsh;clear hS hS' hR
 go_enter func28,ntmps28
 go_wp2_with fail
 refine htw.out.mono ?_;rintro e w1 ⟨hE1,⟨n,d,n',d',rfl,hq,hq'⟩|rfl⟩
 · have hl1:(shL n (d:Nat)).toArray=#[.int .i64 n, .int .i64 (d:Int)]:=rfl;have hl2:(shL n' (d':Nat)).toArray=#[.int .i64 n', .int .i64 (d':Int)]:=rfl;have hY5:=(Arr.new w1 81 (shL 0 0)).alloc (.cells (shL 0 0).toArray 81);have hY6:=Arr.new (w1.alloc (.cells (shL 0 0).toArray 81)) 81 (shL 0 0);have hsz:(w1.alloc (.cells (shL 0 0).toArray 81)).heap.size=w1.heap.size+1:=by simp
   rw [hsz] at hY6;have HQ:=qh (fun wx hC=>hsh n d n' d' hq hq' wx hC);clear hsh hq hq' hsz hv1 hv2 hml hst
   go_upto_region 2 with (first
    | (refine Aa (vs:=shL n (d:Nat)) rfl rfl rfl rfl rfl Ak hY5 rfl (AV _ _) ?_; intro w2 hB2 hg2; have hY7:=hY6.kept hg2 (by simp))
    | (refine Aa (vs:=shL n' (d':Nat)) rfl rfl rfl rfl rfl Ak hY7 rfl (AV _ _) ?_; intro w3 hB3 hg3; have hB4:=hB2.kept hg3 (by simp)))
   have hEw:Ext w w3:=(((hE1.alloc _).alloc _).grownR hg2 hE1.size).grownR hg3 (Nat.le_succ_of_le hE1.size);have p0:=hB4.c 0 rfl;have p1:=hB4.c 1 rfl;have q0:=hB3.c 0 rfl;have q1:=hB3.c 1 rfl;obtain ⟨hF,⟨hr,hr1⟩,hr2⟩:=HQ.out w3 hEw;have hr3:(0:Int)≤(d:Int)*(d':Int):=Int.mul_nonneg (by omega) (by omega);have m1:IntKind.i64.wrap (n*(d':Int))=n*(d':Int):=IntWalk.i64_in _ (by omega);have m3:IntKind.i64.wrap (n'*(d:Int))=n'*(d:Int):=IntWalk.i64_in _ (by omega);have m4:IntKind.i64.wrap (n*(d':Int)+n'*(d:Int))=n*(d':Int)+n'*(d:Int):=IntWalk.i64_in _ (by omega)
   have m2:IntKind.i64.wrap ((d:Int)*(d':Int))=(d:Int)*(d':Int):=IntWalk.i64_in _ (by omega);clear hr hr1 hr2 hr3 hB2 hB3 hB4 hg2 hg3 hY5 hY6 hY7 HQ hE1
   go_wp2_with fail
   refine hF.out.mono ?_;rintro e w4 ⟨rfl,hE4⟩;go_wp2;go_ret;exact ⟨rfl,hEw.trans hE4⟩
 · have hl1:(shL 0 0).toArray=#[.int .i64 0, .int .i64 0]:=rfl;have hY5:=(Arr.new w1 81 (shL 0 0)).alloc (.cells (shL 0 0).toArray 81);have hY6:=Arr.new (w1.alloc (.cells (shL 0 0).toArray 81)) 81 (shL 0 0);have hsz:(w1.alloc (.cells (shL 0 0).toArray 81)).heap.size=w1.heap.size+1:=by simp
   rw [hsz] at hY6;clear hsh hsz
   go_upto_region 2 with (first
    | (refine Aa (vs:=shL 0 0) rfl rfl rfl rfl rfl Ak hY5 rfl (AV _ _) ?_; intro w2 hB2 hg2; have hY7:=hY6.kept hg2 (by simp))
    | (refine Aa (vs:=shL 0 0) rfl rfl rfl rfl rfl Ak hY7 rfl (AV _ _) ?_; intro w3 hB3 hg3))
   have hEw:Ext w w3:=(((hE1.alloc _).alloc _).grownR hg2 hE1.size).grownR hg3 (Nat.le_succ_of_le hE1.size);clear hB2 hB3 hg2 hg3 hY5 hY6 hY7 hE1
   go_wp2_with fail
   refine (hv1 _ hEw).out.mono ?_;rintro e w4 ⟨c4,rfl,hE4,hR4⟩;replace hE4:=hEw.trans hE4
   go_wp2_with fail
   refine (hv2 _ hE4).out.mono ?_;rintro e w5 ⟨c5,rfl,hE5,hR5⟩;have hx:BB w5 _ x:=⟨c4,rfl,hR4.ext hE5⟩;replace hE5:=hE4.trans hE5
   go_wp2_with fail
   refine (hml _ _ _ hE5 hx ⟨c5,rfl,hR5⟩).out.mono ?_;rintro e w6 ⟨c6,rfl,hE6,hR6⟩;replace hE6:=hE5.trans hE6
   go_wp2_with fail
   refine (hst _ _ hE6 ⟨c6,rfl,hR6⟩).out.mono ?_;rintro e w7 ⟨rfl,hE7⟩;go_wp2;go_ret;exact ⟨rfl,hE6.trans hE7⟩
theorem LK (hT:A2 w) (hs:s.size≤570):Calls prog 17 #[.string s] w fun e w'=>e = .returned (.bool (A8 (Am s)).isSome)∧Ext w w':=by
 have hrs:=fun (wx:World)=>qh (Ef (s:=s) (w:=wx) (by omega));have hsp:=Ib s;obtain ⟨⟨⟨neg,num,den⟩,ok⟩,hP⟩:∃ P,CI (Am s)=P:=⟨_,rfl⟩;simp only [hP] at hsp;have hfl:(BN neg num den).toArray=#[.bool neg, .string ⟨num.toArray⟩, .string ⟨den.toArray⟩]:=rfl;rw [hfl] at hsp;obtain ⟨B,HB⟩:∃ B,Hid ((A8 (Am s)).isSome=B):=⟨_,qh rfl⟩;rw [HB.out]
 have HF:Hid (ok=false→B=false):=qh fun h=>by
  rw [←HB.out];unfold A8;simp [hP,h]
 have HK:Hid (ok=true→W.digs num∧W.digs den∧num.length≤570∧den.length≤570∧B=if den=[] then true else decide (Nat.gcd (W.decV num) (W.decV den)=1)):=qh fun h=>by
  subst h;have hS:=FL hP;have h1:=congrArg List.length hS.eq;rw [AJ] at h1;simp only [List.length_append] at h1;refine ⟨hS.dn,hS.dd,by omega, ?_, ?_⟩
  · by_cases h:den=[]
    · simp [h]
    · rw [if_neg h] at h1;simp at h1;omega
  · rw [←HB.out];unfold A8;simp only [hP];have hz:(if neg=true then -((W.decV num:Nat):Int) else ((W.decV num:Nat):Int)).natAbs=W.decV num:=by split <;> omega
    by_cases h:den=[]
    · simp [h]
    · simp only [h,if_false];rw [hz];by_cases hg:Nat.gcd (W.decV num) (W.decV den)=1 <;> simp [hg]
 clear hP
 go_enter func17,ntmps17
 go_wp2_with fail
 refine (hrs _).out.mono ?_;rintro e w1 ⟨hE1,⟨n,d,rfl,hq⟩|rfl⟩
 · have hl:(shL n (d:Nat)).toArray=#[.int .i64 n, .int .i64 (d:Int)]:=rfl;have hY:=Arr.new w1 81 (shL 0 0);have HQ:Hid (B=true):=qh (by rw [←HB.out,hq.1]; rfl)
   go_upto_region 2 with (refine Aa (vs:=shL n (d:Nat)) rfl rfl rfl rfl rfl Ak hY rfl (AV _ _) ?_; intro w2 hB2 hg2)
   have hE2:=hE1.trans (((Ext.refl w1).alloc _).grownR hg2 (lrf _));clear hB2 hg2 hY;go_wp2;go_ret;exact ⟨by rw [HQ.out]; rfl,hE2⟩
 · have hl:(shL 0 0).toArray=#[.int .i64 0, .int .i64 0]:=rfl;have hY:=Arr.new w1 81 (shL 0 0)
   go_upto_region 2 with (refine Aa (vs:=shL 0 0) rfl rfl rfl rfl rfl Ak hY rfl (AV _ _) ?_; intro w2 hB2 hg2)
   have hE2:=hE1.trans (((Ext.refl w1).alloc _).grownR hg2 (lrf _));clear hB2 hg2 hY hE1 hrs
   go_wp2_with fail
   refine (hsp w2 (by omega)).mono ?_;rintro e w3 ⟨rfl,hE3⟩;have hY3:=Arr.new w3 85 (BN false [] [])
   go_upto_region 5 with (refine Aa (vs:=BN neg num den) rfl rfl rfl rfl rfl A4 hY3 rfl (Cb _ _ _) ?_; intro w4 hB4 hg4)
   have hEw:=(hE2.trans hE3).trans (((Ext.refl w3).alloc _).grownR hg4 (lrf _));obtain ⟨F,hF⟩:∃ F,w3.heap.size=F:=⟨_,rfl⟩;rw [hF] at hB4 ⊢;have c1:=hB4.c 1 rfl;have c2:=hB4.c 2 rfl;clear hB4 hg4 hY3 hE2 hE3 hF hsp;cases ok with
   | false =>
    have HQ:=qh (HF.out rfl);go_wp2;go_ret;exact ⟨by rw [HQ.out]; rfl,hEw⟩
   | true =>
    obtain ⟨d1,d2,l1,l2,hBB⟩:=HK.out rfl;by_cases hd:den=[]
    · subst hd;rw [if_pos rfl] at hBB;have HQ:=qh hBB;clear hBB d1 d2 l1 l2;go_wp2;go_ret;exact ⟨by rw [HQ.out]; rfl,hEw⟩
    · have hdb:den.isEmpty=false:=by cases den with | nil=>exact absurd rfl hd | cons _ _=>rfl
      rw [if_neg hd] at hBB;have HQ:=qh hBB;have hp1:=fun wx=>qh (FJ (s:=⟨num.toArray⟩) (w:=wx) (by rw [AU]; exact d1) (by show num.toArray.size≤_; simpa using l1));have hp2:=fun wx=>qh (FJ (s:=⟨den.toArray⟩) (w:=wx) (by rw [AU]; exact d2) (by show den.toArray.size≤_; simpa using l2));rw [AU] at hp1 hp2;have b1:=Jc d1 l1;have b2:=Jc d2 l2;have hgc:=fun (wx:World) (v v':Value) (hC:Ext w wx) (h:Ax wx v ((W.decV num:Nat):Int)) (h':Ax wx v' ((W.decV den:Nat):Int))=>qh (EE (hT.ext hC) h h' (Ag b1 (by omega)) (Ag b2 (by omega)))
      simp only [Int.natAbs_natCast] at hgc;have hio:=fun (wx:World) (v:Value) (h:Ax wx v ((Nat.gcd (W.decV num) (W.decV den):Nat):Int))=>qh (Ct (r:=decide (Nat.gcd (W.decV num) (W.decV den)=1)) h (decide_eq_decide.2 (by omega)));clear hBB hd d1 d2 l1 l2 b1 b2
      go_upto_region 7 with (fail)
      have HF1:=fun (wx:World) (hC:Ext w4 wx)=>qh (And.intro (hC.cell c1) (hC.cell c2))
      refine Af (by kernel_rfl) (fun wx=>Ext w4 wx)
       [he (.pointer (some ⟨F,1,none⟩)),
 he (.string ⟨num.toArray⟩),
 hp (fun v wx=>NI ((W.decV num:Nat):Int) v wx),
 he (.pointer (some ⟨F,2,none⟩)),
 he (.string ⟨den.toArray⟩),
 hp (fun v wx=>NI ((W.decV den:Nat):Int) v wx),
 hp (fun v wx=>NI ((Nat.gcd (W.decV num) (W.decV den):Nat):Int) v wx),
 hp (fun v wx=>v = .bool (decide (Nat.gcd (W.decV num) (W.decV den)=1)))]
       (by kernel_rfl) (fun _ _ e h=>h.trans e) ((Ext.refl w4).drew) ⟨trivial,trivial,NI.x _,trivial,trivial,NI.x _,NI.x _,fun _ _ _ _ h=>h,trivial⟩ ⟨?o0, ?o1, ?o2, ?o3, ?o4, ?o5, ?o6, ?o7,trivial⟩ ?fin
      case o0=>exact ofa (d:=1) rfl rfl (fun _ _=>id) (by kernel_rfl) rfl
      case o1=>exact ol rfl rfl (fun _ _=>id) (by kernel_rfl) (by assumption)
      case o2 =>
       refine Aj rfl fun ρ wx hC hcst hfn h => ?_;have e1:ρ (.tmp 27)=(.string ⟨num.toArray⟩):=h.2.1;obtain ⟨k1,k2⟩:=(HF1 wx hC).out;refine ⟨49,#[.string ⟨num.toArray⟩],by go_simp,((hp1 wx).out).mono ?_⟩;rintro e w' ⟨s,a,n,c,rfl,hE',h1,h2⟩;exact ⟨_,rfl,hE',s,a,n,c,rfl,h1,h2⟩
      case o3=>exact ofa (d:=2) rfl rfl (fun _ _=>id) (by kernel_rfl) rfl
      case o4=>exact ol rfl rfl (fun _ _=>id) (by kernel_rfl) (by assumption)
      case o5 =>
       refine Aj rfl fun ρ wx hC hcst hfn h => ?_;have e1:ρ (.tmp 30)=(.string ⟨den.toArray⟩):=h.2.1;obtain ⟨k1,k2⟩:=(HF1 wx hC).out;refine ⟨49,#[.string ⟨den.toArray⟩],by go_simp,((hp2 wx).out).mono ?_⟩;rintro e w' ⟨s,a,n,c,rfl,hE',h1,h2⟩;exact ⟨_,rfl,hE',s,a,n,c,rfl,h1,h2⟩
      case o6 =>
       refine Aj rfl fun ρ wx hC hcst hfn h => ?_;obtain ⟨v1,e1,s1,a1,n1,c1',rfl,i1,j1⟩:=h.2.1;obtain ⟨v2,e2,s2,a2,n2,c2',rfl,i2,j2⟩:=h.2.2.1;obtain ⟨k1,k2⟩:=(HF1 wx hC).out;refine ⟨50,#[.agg (Ab s1 a1 n1 c1').toArray, .agg (Ab s2 a2 n2 c2').toArray],by go_simp,((hgc wx _ _ (hEw.trans hC) ⟨s1,a1,n1,c1',rfl,i1,j1⟩ ⟨s2,a2,n2,c2',rfl,i2,j2⟩).out).mono ?_⟩;rintro e w' ⟨s,a,n,c,rfl,hE',h1,h2⟩;exact ⟨_,rfl,hE',s,a,n,c,rfl,h1,h2⟩
      case o7 =>
       refine Aj rfl fun ρ wx hC hcst hfn h => ?_;obtain ⟨v1,e1,s1,a1,n1,c1',rfl,i1,j1⟩:=h.2.1;obtain ⟨k1,k2⟩:=(HF1 wx hC).out;refine ⟨51,#[.agg (Ab s1 a1 n1 c1').toArray],by go_simp,((hio wx _ ⟨s1,a1,n1,c1',rfl,i1,j1⟩).out).mono ?_⟩;rintro e w' ⟨rfl,hE'⟩;exact ⟨_,rfl,hE',rfl⟩
      case fin =>
       intro wx hC;rintro _ ⟨_,_,_,_,rfl,_,_⟩;rintro _ ⟨_,_,_,_,rfl,_,_⟩;rintro _ ⟨_,_,_,_,rfl,_,_⟩;rintro _ rfl;change wpList _ _ _ _ _ _;simp only [List.length_cons,List.length_nil,List.drop_succ_cons,List.drop_zero,Act.put,List.setIfInBounds_toArray,List.set_cons_succ,List.set_cons_zero];go_wp2;go_ret;exact ⟨by rw [HQ.out]; rfl,hEw.trans hC⟩
theorem Tf (hT:A2 w) (h:BB w v p) (h':BB w v' q) (b1:p.num.natAbs<P2 2400) (b2:p.den<P2 2400) (b3:(q⁻¹).num.natAbs<P2 2400) (b4:(q⁻¹).den<P2 2400) :
 Calls prog 123 #[v,v'] w (F4 w (p*q⁻¹)):=by
 have hiv:=fun (wx:World) (hC:Ext w wx)=>qh (Nq (h'.ext hC));have hml:=fun (wx:World) (u:Value) (hC:Ext w wx) (hu:BB wx u q⁻¹)=>qh (TU (hT.ext hC) (h.ext hC) hu b1 b2 b3 b4);obtain ⟨_,rfl,s,a,n,c,b,m,d,rfl,HS,hx,hy⟩:=h;obtain ⟨_,rfl,s',a',n',c',b',m',d',rfl,HS',hx',hy'⟩:=h';have hl1:(An s a n c false b m d).toArray=#[.bool s, .slice a n c, .bool false, .slice b m d]:=rfl;have hl2:(An s' a' n' c' false b' m' d').toArray=#[.bool s', .slice a' n' c', .bool false, .slice b' m' d']:=rfl;rw [hl1] at hml ⊢;rw [hl2] at hiv ⊢;clear b1 b2 b3 b4 hx hy hx' hy' hl1 hl2
 go_enter func123,ntmps123
 go_upto_region 1 with (fail)
 refine F3 ?_;intro w0 hE0 hB0 hB1 hB2 hz0;have p0:=hB0.c 0 rfl;have p1:=hB0.c 1 rfl;have p2:=hB0.c 2 rfl;have p3:=hB0.c 3 rfl;have q0:=hB1.c 0 rfl;have q1:=hB1.c 1 rfl;have q2:=hB1.c 2 rfl;have q3:=hB1.c 3 rfl;have hR:Arr w0 (w.heap.size+2) 97 (An false none 0 0 false none 0 0):=hB2;clear hB0 hB1 hB2 hz0;have HF1:=fun (wx:World) (hC:Ext w0 wx)=>qh (And.intro (hC.cell p0) (And.intro (hC.cell p1) (And.intro (hC.cell p2) (And.intro (hC.cell p3) (And.intro (hC.cell q0) (And.intro (hC.cell q1) (And.intro (hC.cell q2) (hC.cell q3))))))))
 refine Af (by kernel_rfl) (fun wx=>Ext w0 wx)
  [he (.agg #[.bool s, .slice a n c, .bool false, .slice b m d]),
 he (.agg #[.bool s', .slice a' n' c', .bool false, .slice b' m' d']),
 hp (fun v wx=>NR (q⁻¹) v wx),
 hp (fun v wx=>NR (p*q⁻¹) v wx)]
  (by kernel_rfl) (fun _ _ e h=>h.trans e) ((Ext.refl w0).drew) ⟨trivial,trivial,NR.x _,NR.x _,trivial⟩ ⟨?o0, ?o1, ?o2, ?o3,trivial⟩ ?fin
 case o0=>exact ol4 rfl rfl (fun _ _=>id) ⟨by kernel_rfl,by kernel_rfl⟩ (by assumption) (by assumption) (by assumption) (by assumption)
 case o1=>exact ol4 rfl rfl (fun _ _=>id) ⟨by kernel_rfl,by kernel_rfl⟩ (by assumption) (by assumption) (by assumption) (by assumption)
 case o2 =>
  refine Aj rfl fun ρ wx hC hcst hfn h => ?_;have e1:ρ (.tmp 6)=(.agg #[.bool s', .slice a' n' c', .bool false, .slice b' m' d']):=h.2.1;obtain ⟨kx0,kx1,kx2,kx3,ky0,ky1,ky2,ky3⟩:=(HF1 wx hC).out;refine ⟨63,#[.agg #[.bool s', .slice a' n' c', .bool false, .slice b' m' d']],by go_simp,((hiv wx (hE0.trans hC)).out).mono ?_⟩;rintro e w' ⟨cs,rfl,hE',hr⟩;exact ⟨_,rfl,hE',cs,rfl,hr⟩
 case o3 =>
  refine Aj rfl fun ρ wx hC hcst hfn h => ?_;have e1:ρ (.tmp 5)=(.agg #[.bool s, .slice a n c, .bool false, .slice b m d]):=h.2.1;obtain ⟨v2,e2,cs2,rfl,r2⟩:=h.2.2.1;obtain ⟨kx0,kx1,kx2,kx3,ky0,ky1,ky2,ky3⟩:=(HF1 wx hC).out;refine ⟨62,#[.agg #[.bool s, .slice a n c, .bool false, .slice b m d], .agg cs2.toArray],by go_simp,((hml wx _ (hE0.trans hC) ⟨cs2,rfl,r2⟩).out).mono ?_⟩;rintro e w' ⟨cs,rfl,hE',hr⟩;exact ⟨_,rfl,hE',cs,rfl,hr⟩
 case fin =>
  intro wx hC;rintro _ ⟨_,rfl,_⟩;rintro _ ⟨_,rfl,s9,a9,n9,c9,b9,m9,d9,rfl,HS9,hx9,hy9⟩;change wpList _ _ _ _ _ _;simp only [List.length_cons,List.length_nil,List.drop_succ_cons,List.drop_zero,Act.put,List.setIfInBounds_toArray,List.set_cons_succ,List.set_cons_zero];have hR1:=hR.ext hC;have hl9:(An s9 a9 n9 c9 false b9 m9 d9).toArray=#[.bool s9, .slice a9 n9 c9, .bool false, .slice b9 m9 d9]:=rfl
  go_wp2_with (refine Aa (vs:=An s9 a9 n9 c9 false b9 m9 d9) rfl rfl rfl rfl rfl Ac hR1 rfl (Ap _ _ _ _ _ _ _ _) ?_; intro w9 hB9 hg9)
  exact bodyPost_ret (Al rfl Ac rfl hB9) rfl (Bf (hE0.trans hC) hR1 (AC _ _ _ _ _ _ _ _) hg9 (by omega) HS9 hx9 hy9)
theorem MG (hT:A2 w) (h0 : -9223372036854775808≤z) (h1:z≤9223372036854775807) :
 Calls prog 77 #[.int .i64 z] w fun e w'=>e = .returned (.string ⟨(txt (z:Rat)).toArray⟩)∧Ext w w':=by
 have hfi:=qh (Eb hT h0 h1);have e:Lib.itoa z=txt (z:Rat):=(FU (q:=(z:Rat)) rfl).symm;rw [e] at hfi;obtain ⟨S,hS⟩:∃ S:ByteArray,⟨(txt (z:Rat)).toArray⟩=S:=⟨_,rfl⟩;rw [hS] at hfi ⊢;clear e hS
 go_enter func77,ntmps77
 go_wp2_with fail
 refine hfi.out.mono ?_;rintro e w1 ⟨rfl,hE1⟩;go_wp2;go_ret;exact ⟨rfl,hE1⟩
theorem Od:txt q=[48]↔q=0:=by
 have h0:A8 [48]=some 0:=by decide
 constructor
 · intro h;have h1:=Bm q;rw [h,h0] at h1;exact (Option.some.inj h1).symm
 · rintro rfl;exact (Fo h0).symm
theorem Rn (hT:A2 w) (hs:(txt q).length≤570) :
 Calls prog 75 #[.string ⟨(txt q).toArray⟩] w fun e w'=>(∃ r:Int,e = .returned (.int .i64 r)∧(r=0↔q=0))∧Ext w w':=by
 have hv:=fun (wx:World) (hC:Ext w wx)=>qh (LK (s:=⟨(txt q).toArray⟩) (hT.ext hC) (by rw [←AJ,AU]; exact hs));rw [AU,Bm] at hv;simp only [Option.isSome_some] at hv;have hq:=TZ (txt q) [48];have hz:=Od (q:=q)
 have hne:txt q≠[]:=fun h=>by
  have h1:=Bm q;rw [h] at h1;have h2:A8 []=none:=by decide
  rw [h2] at h1;cases h1
 by_cases h0:q=0
 · rw [hz.2 h0];clear hv hq hz hne hs
   go_enter func75,ntmps75
   go_wp2;go_ret;exact ⟨⟨0,rfl,by simp [h0]⟩,Ext.refl _⟩
 · obtain ⟨c,t,ht⟩:=List.exists_cons_of_ne_nil hne;have hcc:¬ (c=48∧t=[]):=fun ⟨e1,e2⟩=>h0 (hz.1 (by rw [ht,e1,e2]));have hcd:¬ c=48∨¬ t=[]:=by
    by_cases h:c=48
    · exact Or.inr fun h2=>hcc ⟨h,h2⟩
    · exact Or.inl h
   have hce:(c == 48 && t.isEmpty)=false:=by
    by_cases h:c=48
    · have h2:t≠[]:=fun h2=>hcc ⟨h,h2⟩;cases t with
      | nil=>exact absurd rfl h2
      | cons _ _=>simp
    · simp [h]
   rw [ht] at hv ⊢;clear hq hz hne hs ht
   go_enter func75,ntmps75
   go_wp2_with fail
   refine (hv _ (Ext.refl _)).out.mono ?_;rintro e w1 ⟨rfl,hE1⟩;by_cases hc:c=45
   · subst hc;go_wp2;go_ret;exact ⟨⟨-1,rfl,by simp [h0]⟩,hE1⟩
   · have hcb:=Jb (t:=t) (n:=45) hc;go_wp2;go_ret;exact ⟨⟨1,rfl,by simp [h0]⟩,hE1⟩
theorem O8 {d':Nat} (hd':0<d') (h:((m:Int):Rat)=mkRat n' d'):n'=((m*d':Nat):Int)∧mkRat (n*(d':Int)) (d*(m*d'))=mkRat n d*(((m:Int):Rat))⁻¹:=by
 have h1:((m:Int):Rat)=mkRat (m:Int) 1:=by rw [Rat.mkRat_one]
 have h2:n'=((m*d':Nat):Int):=by
  rw [h1] at h;have h3:=(Rat.mkRat_eq_iff (by omega) (by omega)).1 h;rw [Int.natCast_mul];omega
 refine ⟨h2, ?_⟩;rw [←Nat.mul_assoc,Rat.mkRat_mul_right (by omega)];have h4:(((m:Int):Rat))⁻¹=mkRat 1 m:=by
  rw [Pl.mkRat_div];show _=(1:Rat)*_;rw [Rat.one_mul];rfl
 rw [h4,Rat.mkRat_mul_mkRat,Int.mul_one]
theorem Tg (hT:A2 w) (hm:1≤m) (hm2:m≤4096) (hb:b≤900) (hx:Pl.RB b x) (lx:(txt x).length≤570) :
 Calls prog 76 #[.string ⟨(txt x).toArray⟩, .string ⟨(txt ((m:Int):Rat)).toArray⟩] w fun e w'=>e = .returned (.tuple #[.string ⟨(txt (x*(((m:Int):Rat))⁻¹)).toArray⟩, .bool true])∧Ext w w':=by
 obtain ⟨y,hy⟩:∃ y:Rat,((m:Int):Rat)=y:=⟨_,rfl⟩;have hyn:y.num=(m:Int):=by rw [←hy]; rfl
 have hyd:y.den=1:=by rw [←hy]; rfl
 have hy0:y≠0:=fun h=>by
  have:=Pl.rat_num_den_zero.2 h;omega
 have hyi:=Pl.rat_inv_pos (a:=y) (by omega);have hyb:Pl.RB 13 y⁻¹:=by
  have e:P2 13=8192:=by unfold P2; decide
  exact ⟨by rw [hyi.1,hyd]; omega,by rw [hyi.2,hyn]; omega⟩
 have ly:(txt y).length≤570:=by
  rw [FU hyd,hyn];have:=Kw (z:=(m:Int)) (by omega) (by omega);omega
 have sx:(⟨(txt x).toArray⟩:ByteArray).size≤570:=by rw [←AJ,AU]; exact lx
 have sy:(⟨(txt y).toArray⟩:ByteArray).size≤570:=by rw [←AJ,AU]; exact ly
 rw [hy];have htw:=qh (IF (w:=w) (s:=⟨(txt x).toArray⟩) (s':=⟨(txt y).toArray⟩) (by omega) (by omega));have hv1:=fun (wx:World) (hC:Ext w wx)=>qh (FT (s:=⟨(txt x).toArray⟩) (hT.ext hC) sx);have hv2:=fun (wx:World) (hC:Ext w wx)=>qh (FT (s:=⟨(txt y).toArray⟩) (hT.ext hC) sy);have e1:vaQ (Am ⟨(txt x).toArray⟩)=x:=by unfold vaQ; rw [AU,Bm]; rfl
 have e2:vaQ (Am ⟨(txt y).toArray⟩)=y:=by unfold vaQ; rw [AU,Bm]; rfl
 rw [e1] at hv1;rw [e2] at hv2;rw [AU,AU] at htw;have hdv:=fun (wx:World) (v v':Value) (hC:Ext w wx) (h:BB wx v x) (h':BB wx v' y)=>qh (Tf (hT.ext hC) h h' (Ag hx.1 (by omega)) (Ag hx.2 (by omega)) (Ag hyb.1 (by omega)) (Ag hyb.2 (by omega)));have hxy:=hx.mul hyb;have hst:=fun (wx:World) (v:Value) (hC:Ext w wx) (h:BB wx v (x*y⁻¹))=>qh (Gp (hT.ext hC) h (Ag hxy.1 (by omega)) (Ag hxy.2 (by omega)));have hiz:=fun (wx:World) (v:Value) (h:BB wx v y)=>qh (Gq h (r:=false) (decide_eq_false hy0))
 have hsh:∀ n d n' d',ShQ (txt x) n d→ShQ (txt y) n' d'→(n' != 0)=true∧∀ wx,Ext w wx→Hid (Calls prog 60 #[.int .i64 (n*(d':Int)), .int .i64 ((d:Int)*n')] wx fun e w'=>e = .returned (.string ⟨(txt (x*y⁻¹)).toArray⟩)∧Ext wx w')∧(-1000000000000000000<n*(d':Int)∧n*(d':Int)<1000000000000000000)∧(0≤(d:Int)*n'∧(d:Int)*n' < 1000000000000000000):=by
  rintro n d n' d' ⟨q1,b1,c1,f1⟩ ⟨q2,b2,c2,f2⟩;rw [Bm] at q1 q2;have k1:x=mkRat n d:=Option.some.inj q1;have k2:y=mkRat n' d':=Option.some.inj q2;obtain ⟨g1,g2⟩:=O8 (n:=n) (d:=d) c2 (hy.trans k2);rw [hy,←k1] at g2;have hp:0<m*d':=Nat.mul_pos (by omega) c2;refine ⟨by simp; omega,fun wx hC => ?_⟩;have hn1:(n*(d':Int)).natAbs<1000000000*1000000000:=by
   rw [Int.natAbs_mul];exact Nat.mul_lt_mul'' b1 f2
  have hmd:m*d' < 1000000000:=by omega
  have hdd:d*(m*d')<1000000000*1000000000:=Nat.mul_lt_mul'' f1 hmd;have hd0:0<d*(m*d'):=Nat.mul_pos c1 hp;have h:=E6 (w:=wx) (n:=n*(d':Int)) (d:=d*(m*d')) (hT.ext hC) (by omega) (by omega) hd0 (by omega);rw [g2,Int.natCast_mul,←g1] at h;refine ⟨qh h,⟨by omega,by omega⟩, ?_⟩;rw [g1,←Int.natCast_mul];omega
 clear sx sy e1 e2 hx hxy hyb hyi hy0 hyn hyd hy lx ly hm hm2;obtain ⟨S,hS⟩:∃ S:ByteArray,⟨(txt x).toArray⟩=S:=⟨_,rfl⟩;obtain ⟨S',hS'⟩:∃ S:ByteArray,⟨(txt y).toArray⟩=S:=⟨_,rfl⟩;obtain ⟨R,hR⟩:∃ S:ByteArray,⟨(txt (x*y⁻¹)).toArray⟩=S:=⟨_,rfl⟩;rw [hS] at htw hv1 ⊢;rw [hS'] at htw hv2 ⊢;rw [hR] at hst ⊢;simp only [hR] at hsh;clear hS hS' hR
 go_enter func76,ntmps76
 go_wp2_with fail
 refine htw.out.mono ?_;rintro e w1 ⟨hE1,⟨n,d,n',d',rfl,hq,hq'⟩|rfl⟩
 · have hl1:(shL n (d:Nat)).toArray=#[.int .i64 n, .int .i64 (d:Int)]:=rfl;have hl2:(shL n' (d':Nat)).toArray=#[.int .i64 n', .int .i64 (d':Int)]:=rfl;have hY5:=(Arr.new w1 81 (shL 0 0)).alloc (.cells (shL 0 0).toArray 81);have hY6:=Arr.new (w1.alloc (.cells (shL 0 0).toArray 81)) 81 (shL 0 0);have hsz:(w1.alloc (.cells (shL 0 0).toArray 81)).heap.size=w1.heap.size+1:=by simp
   rw [hsz] at hY6;obtain ⟨hnz,hsh2⟩:=hsh n d n' d' hq hq';have HQ:=qh hsh2;clear hsh hsh2 hq hq' hsz hv1 hv2 hdv hst hiz
   go_upto_region 2 with (first
    | (refine Aa (vs:=shL n (d:Nat)) rfl rfl rfl rfl rfl Ak hY5 rfl (AV _ _) ?_; intro w2 hB2 hg2; have hY7:=hY6.kept hg2 (by simp))
    | (refine Aa (vs:=shL n' (d':Nat)) rfl rfl rfl rfl rfl Ak hY7 rfl (AV _ _) ?_; intro w3 hB3 hg3; have hB4:=hB2.kept hg3 (by simp)))
   have hEw:Ext w w3:=(((hE1.alloc _).alloc _).grownR hg2 hE1.size).grownR hg3 (Nat.le_succ_of_le hE1.size);have p0:=hB4.c 0 rfl;have p1:=hB4.c 1 rfl;have q0:=hB3.c 0 rfl;have q1:=hB3.c 1 rfl;obtain ⟨hF,hr,hr2⟩:=HQ.out w3 hEw;have m1:IntKind.i64.wrap (n*(d':Int))=n*(d':Int):=IntWalk.i64_in _ (by omega);have m2:IntKind.i64.wrap ((d:Int)*n')=(d:Int)*n':=IntWalk.i64_in _ (by omega);clear hr hr2 hB2 hB3 hB4 hg2 hg3 hY5 hY6 hY7 HQ hE1
   go_wp2_with fail
   refine hF.out.mono ?_;rintro e w4 ⟨rfl,hE4⟩;go_wp2
   go_ret2
   exact ⟨rfl,hEw.trans hE4⟩
 · have hl1:(shL 0 0).toArray=#[.int .i64 0, .int .i64 0]:=rfl;have hY5:=(Arr.new w1 81 (shL 0 0)).alloc (.cells (shL 0 0).toArray 81);have hY6:=Arr.new (w1.alloc (.cells (shL 0 0).toArray 81)) 81 (shL 0 0);have hsz:(w1.alloc (.cells (shL 0 0).toArray 81)).heap.size=w1.heap.size+1:=by simp
   rw [hsz] at hY6;clear hsh hsz
   go_upto_region 2 with (first
    | (refine Aa (vs:=shL 0 0) rfl rfl rfl rfl rfl Ak hY5 rfl (AV _ _) ?_; intro w2 hB2 hg2; have hY7:=hY6.kept hg2 (by simp))
    | (refine Aa (vs:=shL 0 0) rfl rfl rfl rfl rfl Ak hY7 rfl (AV _ _) ?_; intro w3 hB3 hg3))
   have hEw:Ext w w3:=(((hE1.alloc _).alloc _).grownR hg2 hE1.size).grownR hg3 (Nat.le_succ_of_le hE1.size);clear hB2 hB3 hg2 hg3 hY5 hY6 hY7 hE1
   go_wp2_with fail
   refine (hv2 _ hEw).out.mono ?_;rintro e w4 ⟨_,rfl,hE4,s',a',n1,c1,b',m',d1,rfl,HS',hx',hy'⟩;have hE4':=hEw.trans hE4;have hYB:=Arr.new w4 97 (An false none 0 0 false none 0 0);have hl4:(An s' a' n1 c1 false b' m' d1).toArray=#[.bool s', .slice a' n1 c1, .bool false, .slice b' m' d1]:=rfl
   go_upto_region 5 with (refine Aa (vs:=An s' a' n1 c1 false b' m' d1) rfl rfl rfl rfl rfl Ac hYB rfl (Ap _ _ _ _ _ _ _ _) ?_; intro w5 hB5 hg5)
   have hE45:Ext w4 w5:=((Ext.refl w4).alloc _).grownR hg5 (lrf _);have hE5:=hE4'.trans hE45;obtain ⟨Y,hYY⟩:∃ y,w4.heap.size=y:=⟨_,rfl⟩;rw [hYY] at hB5 ⊢;have y0:=hB5.c 0 rfl;have y1:=hB5.c 1 rfl;have y2:=hB5.c 2 rfl;have y3:=hB5.c 3 rfl;have hyv5:BB w5 (.agg #[.bool s', .slice a' n1 c1, .bool false, .slice b' m' d1]) y:=⟨An s' a' n1 c1 false b' m' d1,rfl,s',a',n1,c1,b',m',d1,rfl,HS',hx'.ext hE45,hy'.ext hE45⟩;clear hYB hg5 hB5 hE4 hE4' hE45 hl4
   go_wp2_with fail
   refine (hiz _ _ hyv5).out.mono ?_;rintro e w6 ⟨rfl,hE56⟩;have hE6:=hE5.trans hE56;replace y0:=hE56.cell y0;replace y1:=hE56.cell y1;replace y2:=hE56.cell y2;replace y3:=hE56.cell y3;have hyv:=fun (wx:World) (hC:Ext w6 wx)=>hyv5.ext (hE56.trans hC);clear hE5 hiz;go_wp2;have HF1:=fun (wx:World) (hC:Ext w6 wx)=>qh (And.intro (hC.cell y0) (And.intro (hC.cell y1) (And.intro (hC.cell y2) (hC.cell y3))))
   refine Af (by kernel_rfl) (fun wx=>Ext w6 wx)
    [he (.string S),
 hp (fun v wx=>NR x v wx),
 he (.agg #[.bool s', .slice a' n1 c1, .bool false, .slice b' m' d1]),
 hp (fun v wx=>NR (x*y⁻¹) v wx),
 hp (fun v wx=>v = .string R)]
    (by kernel_rfl) (fun _ _ e h=>h.trans e) ((Ext.refl w6).drew) ⟨trivial,NR.x _,trivial,NR.x _,fun _ _ _ _ h=>h,trivial⟩ ⟨?o0, ?o1, ?o2, ?o3, ?o4,trivial⟩ ?fin
   case o0=>exact omv rfl rfl (fun _ _=>id)
   case o1 =>
    refine Aj rfl fun ρ wx hC hcst hfn h => ?_;have e1:ρ (.tmp 38)=(.string S):=h.2.1;obtain ⟨ky0,ky1,ky2,ky3⟩:=(HF1 wx hC).out;refine ⟨61,#[.string S],by go_simp,((hv1 wx (hE6.trans hC)).out).mono ?_⟩;rintro e w' ⟨cs,rfl,hE',hr⟩;exact ⟨_,rfl,hE',cs,rfl,hr⟩
   case o2=>exact ol4 rfl rfl (fun _ _=>id) ⟨by kernel_rfl,by kernel_rfl⟩ (by assumption) (by assumption) (by assumption) (by assumption)
   case o3 =>
    refine Aj rfl fun ρ wx hC hcst hfn h => ?_;obtain ⟨v1,e1,cs1,rfl,r1⟩:=h.2.1;have e2:ρ (.tmp 40)=(.agg #[.bool s', .slice a' n1 c1, .bool false, .slice b' m' d1]):=h.2.2.1;obtain ⟨ky0,ky1,ky2,ky3⟩:=(HF1 wx hC).out;refine ⟨123,#[.agg cs1.toArray, .agg #[.bool s', .slice a' n1 c1, .bool false, .slice b' m' d1]],by go_simp,((hdv wx _ _ (hE6.trans hC) ⟨cs1,rfl,r1⟩ (hyv wx hC)).out).mono ?_⟩;rintro e w' ⟨cs,rfl,hE',hr⟩;exact ⟨_,rfl,hE',cs,rfl,hr⟩
   case o4 =>
    refine Aj rfl fun ρ wx hC hcst hfn h => ?_;obtain ⟨v1,e1,cs1,rfl,r1⟩:=h.2.1;obtain ⟨ky0,ky1,ky2,ky3⟩:=(HF1 wx hC).out;refine ⟨54,#[.agg cs1.toArray],by go_simp,((hst wx _ (hE6.trans hC) ⟨cs1,rfl,r1⟩).out).mono ?_⟩;rintro e w' ⟨rfl,hE'⟩;exact ⟨_,rfl,hE',rfl⟩
   case fin =>
    intro wx hC;rintro _ ⟨_,rfl,_⟩;rintro _ ⟨_,rfl,_⟩;rintro _ rfl;change wpList _ _ _ _ _ _;simp only [List.length_cons,List.length_nil,List.drop_succ_cons,List.drop_zero,Act.put,List.setIfInBounds_toArray,List.set_cons_succ,List.set_cons_zero];go_wp2
    go_ret2
    exact ⟨rfl,hE6.trans hC⟩
section
variable {P:Program} {Q:Exit→Act→World→Prop}
end
end Go.Proofs.YtlpgonpfjbhmfaaGreatDoor
