/- Part Gav40. -/
import Derived.Test.YtlpgonpfjbhmfaaGreatDoorGav36
import Derived.Test.YtlpgonpfjbhmfaaGreatDoorGav38
import Derived.Test.YtlpgonpfjbhmfaaGreatDoorGav39
import Derived.Test.YtlpgonpfjbhmfaaGreatDoorGav37
import Derived.Test.YtlpgonpfjbhmfaaGreatDoorGav35
import Derived.Test.YtlpgonpfjbhmfaaGreatDoorGav3
set_option maxRecDepth 100000
set_option maxHeartbeats 100000000
namespace Go.Proofs.YtlpgonpfjbhmfaaGreatDoor
open Tryz Go Go.RowKit
variable {p:Addr} {gs:List (List Int)} {m:List (List Int×Value)} {rows:List (List Value)} {xs:List Int} {cs:List Value} {RM b b' base c co k n no:Nat} {a a' ag ao:Option Addr} {row:Option Nat} {e e':TypeId} {v:Value} {w w':World}
theorem FB:prog.underlying 123=some (.map 70 9):=by kernel_rfl
theorem Hq (w:World):(zeroValue 9).run prog w = .ok (.string ⟨#[]⟩) w:=by kernel_rfl
theorem Tl:El prog 70 As 6 48:=⟨by kernel_rfl,rfl,by omega⟩
theorem UO (hg:w.grownBy w' row) (hp:w.cell? p=some v) (hne:some p.block≠row):w'.cell? p=some v:=by
 rw [World.cell?_of_block (hg.block _ (World.block_lt_of_cell? w p hp) hne),hp]
theorem Hr {r:Nat} (h:A3 w base e k a n c rows) (hi:AN w r m):blk a≠some r:=by
 cases a with
 | none=>simp [blk]
 | some ad =>
  rcases h.2.2 with ⟨hv,_⟩|⟨g,cap,cur,hv,_⟩
  · simp at hv
  · simp only [Value.slice.injEq,Option.some.injEq] at hv;obtain ⟨rfl,_⟩:=hv;have:=Fq h hi;simpa [blk] using this
theorem DF {n' c':Nat} (h:Own w b e a n c cs) (h':A3 w b' e' k a' n' c' rows) (ht:e≠e'):blk a=none∨blk a≠blk a':=by
 cases a' with
 | none =>
  cases hb:blk a with
  | none=>exact Or.inl rfl
  | some g=>exact Or.inr (by simp [blk])
 | some ad =>
  have hp:∃ g,ad=⟨g,0,none⟩:=by
   rcases h'.2.2 with ⟨hv,_⟩|⟨g,cap,cur,hv,_⟩
   · simp at hv
   · simp only [Value.slice.injEq,Option.some.injEq] at hv;exact ⟨g,hv.1⟩
  obtain ⟨g,rfl⟩:=hp;exact Or.inr (by have:=Dn h h' ht; simpa [blk] using this)
structure Av1 (w w2 wr:World) (RM:Nat) (K:List Pl.Tm) (ao:Option Addr) (no co:Nat):Prop where
 ext:Ext w2 wr
 mp:AN wr RM (Ev K)
 ow:A3 wr w2.heap.size 70 6 ao no co (K.map fun p=>p.1.map (Value.int .i64))
 len:no=K.length
 gm:w2.heap.size≤RM
theorem Av1.ex {w2 wr wx:World} {K:List Pl.Tm} (h:Av1 w w2 wr RM K ao no co) (e:Ext wr wx):Av1 w w2 wx RM K ao no co:=⟨h.ext.trans e,h.mp.ext e,h.ow.ext e,h.len,h.gm⟩
theorem FW (L:List Pl.Tm):(L.map fun p=>p.1.map (Value.int .i64))=(L.map (·.1)).map fun e=>e.map (Value.int .i64):=by rw [List.map_map]; rfl
theorem K7 {vn q cg:Nat} {ts:List Tx} {l:List Pl.Tm} (hT:A2 w) (hg:SlL w ag q cg gs) (hG:isG gs) (hpn:B5 gs vn) (ha:CJ w a n c ts) (hr:rdP (vn:Int) ts=some l) (sa:∀ t∈ts,t.1.length≤570) (hok:SV gs vn l) :
 Calls prog 31 #[.slice ag q cg, .agg #[.int .i64 (vn:Int), .slice a n c]] w (E0 w (resQ vn ((avT gs vn (sumK gs vn l)).map Ci))):=by
 have hq:gs.length=q:=hg.len;have hq1:0<q:=by have:=hG.pos; omega
 have hn6:vn≤6:=by have:=(Pv.of hr).v0; omega
 have hnl:n≤4096:=by have h1:=(BR hr).2.1; have h2:=ha.len; omega
 have hll:=DE hr;have hq6:q≤1000:=by have:=hok.gl; omega
 have hva:=fun (wx:World) (hC:Ext w wx)=>qh (by have h:=Ge (hg.ext hC) (by omega); rw [Iu hG] at h; exact h);have hpv:=fun (wx:World) (hC:Ext w wx)=>qh (by have h:=Gt (vars:=(vn:Int)) (hT.ext hC) (ha.ext hC) sa; rw [hr] at h; exact h)
 have HRA:Hid (∀ i,i<n→(ts.getD i tm0).2.length=vn∧ts.getD i tm0=(txt (l.getD i ([],0)).2,(ts.getD i tm0).2)∧(l.getD i ([],0)).1=Ae (ts.getD i tm0).2):=qh fun i hi=>by
  obtain ⟨p1,_,p3,_,p5⟩:=BQ (Gu hr (i:=i) (by have:=ha.len; omega));exact ⟨by omega,by rw [←Fo p1],p5⟩
 have HL6:Hid (∀ t∈l,t.1.length=6):=qh fun t ht=>(Et hr t ht).1;have HOK:=qh hok;obtain ⟨RQ,hRQ⟩:∃ r,resQ (vn:Int) ((avT gs vn (sumK gs vn l)).map Ci)=r:=⟨_,rfl⟩;rw [hRQ];have HRQ:=qh hRQ;have HQ0:=qh hq;have hvn:(vn != vn)=false:=by simp
 clear sa hok hr hRQ hq
 go_enter func31,ntmps31
 go_upto_region 1 with (fail)
 refine F0 ?_;intro w0 hE0 hB0 hB1 hz0;have p00:=hB0.c 0 rfl;have p01:=hB0.c 1 rfl;have hR:Arr w0 (w.heap.size+1) 25 (AZ 0 none 0 0):=hB1;clear hB0 hB1
 go_wp2_with fail
 refine (hva _ hE0).out.mono ?_;rintro e w1 ⟨rfl,hE1⟩;have hE01:=hE0.trans hE1;have p00':=hE1.cell p00;have p01':=hE1.cell p01
 go_wp2_with fail
 refine (hpv _ hE01).out.mono ?_;rintro e w2 ⟨rfl,hE2⟩;have hE02:=hE01.trans hE2;have hR2:=hR.ext (hE1.trans hE2);have q00:=hE2.cell p00';have q01:=hE2.cell p01';have hz2:w.heap.size+2≤w2.heap.size:=by have:=(hE1.trans hE2).size; omega
 clear p00 p01 p00' p01' hR hva hpv hE0 hE1 hE2 hz0 hE01;simp only [Option.isSome_some];obtain ⟨bg,og,ag0,ng0,cg0,rfl,gg0,sg0⟩:=(hg.ext hE02).at hq1;have hng:vn=ng0:=by
  have h1:=sg0.len;have h2:=(hpn (gs.getD 0 []) (by rw [gqq,List.getElem?_eq_getElem (by rw [HQ0.out]; exact hq1)]; exact List.getElem_mem _)).2;omega
 subst hng;rw [Nat.add_zero] at gg0
 go_upto_region 3 with (fail)
 go_region
 have hEd:Ext w2 w2.drew:=(Ext.refl w2).drew;replace hE02:=hE02.trans hEd;replace hR2:=hR2.ext hEd;replace q00:=hEd.cell q00;replace q01:=hEd.cell q01;replace hz2:w.heap.size+2≤w2.drew.heap.size:=Nat.le_trans hz2 hEd.size;clear hEd gg0 sg0;generalize w2.drew=w3 at *
 go_upto_region 7 with (refine Ho rfl rfl ?_; intro w4 hM4 hE4 hl4)
 obtain ⟨RM,hRM⟩:∃ g,w3.heap.size=g:=⟨_,rfl⟩;rw [hRM] at hM4 hl4 ⊢;have hA4:Av1 w w3 w4 RM (sumK gs vn (l.take 0)) none 0 0:=⟨hE4,hM4,A3.nil _ _ _ _,rfl,Nat.le_of_eq hRM⟩;obtain ⟨rows,hS,hlen,hqr⟩:=ha;have HQ:=qh hqr;have HLN:=qh hlen;have q00':=hE4.cell q00;have q01':=hE4.cell q01;clear hM4 hlen hqr;go_wp2
 go_loopw [6,44] (fun ov iv wr=>∃ (k:Nat) (ao:Option Addr) (no co:Nat),ov = .slice ao no co∧iv = .int .i64 k∧k≤n∧Av1 w w3 wr RM (sumK gs vn (l.take k)) ao no co) (fun _ iv _=>n-(intOf iv).toNat)
 case atStart=>exact ⟨0,none,0,0,rfl,rfl,Nat.zero_le _,hA4⟩
 case round =>
  clear hA4 hE4 q00' q01' hl4;obtain ⟨k,ao,no,co,rfl,rfl,hk,hAV⟩:=hrel;have hE:=hAV.ext;have hEw:=hE02.trans hE;by_cases hlt:k<n
  · have hSw:=hS.ext hEw;obtain ⟨bq,off,rfl,hcl⟩:=hSw.rd (by omega);obtain ⟨s,ax,nx,cx',hrow,hst,hxs⟩:=HQ.out k hlt;have hY:=Arr.new wr 60 (tmL ⟨#[]⟩ none 0 0);have hrow':rows.getD k []=tmL s ax nx cx':=hrow
    go_upto_region 10 with (first
     | (refine CZ rfl rfl Cy rfl hSw hlt ?_; rw [hrow'])
     | (refine Aa (vs:=tmL s ax nx cx') rfl rfl rfl rfl rfl Cy hY rfl (EL _ _ _ _) ?_; intro w5 hB5 hg5))
    have hE5:Ext wr w5:=((Ext.refl wr).alloc _).grownR hg5 (lrf _);obtain ⟨X,hX⟩:∃ x,wr.heap.size=x:=⟨_,rfl⟩;rw [hX] at hB5 ⊢;obtain ⟨r1,r2,r3⟩:=HRA.out k hlt;obtain ⟨t,HTT⟩:∃ t,Hid (ts.getD k tm0=t):=⟨_,qh rfl⟩;rw [HTT.out] at hst hxs r1 r2 r3;obtain ⟨t1,t2⟩:=t;simp only at hst hxs r1 r3;have hXlt:X<w5.heap.size:=hB5.lt;have y0:=hB5.c 0 rfl;have y1:=hB5.c 1 rfl;have hEw5:=hEw.trans hE5;have hxs5:SlI w5 ax nx cx' t2:=hxs.ext hEw5;have hnx:vn=nx:=by have h1:=hxs5.len; omega
    subst hnx;have hsum:=Rh (gs:=gs) (n:=vn) (k:=k) (l:=l) (by have:=HLN.out; omega);have hrk:rk gs vn (l.getD k ([],0)).1=Ae (Bv gs t2):=by
     rw [r3];unfold rk;have h1:=Cz (l:=t2);rw [r1] at h1;rw [h1]
    rw [hrk] at hsum;have hsq : .string s=Ee (txt (l.getD k ([],0)).2):=by
     rw [←LF s,hst];exact congrArg (fun x:Tx=>Ee x.1) r2
    obtain ⟨QT,hQT⟩:∃ x,(l.getD k ([],0)).2=x:=⟨_,rfl⟩;have hcb:Pl.RB 400 QT:=by
     rw [←hQT];exact HOK.out.cb _ (by rw [gqq,List.getElem?_eq_getElem (by have:=HLN.out; omega)]; exact List.getElem_mem _)
    have hrb:=HOK.out.rb k (Ae (Bv gs t2));have hrb2:=HOK.out.rb (k+1) (Ae (Bv gs t2));rw [hQT] at hsum hsq;obtain ⟨K,hKK⟩:∃ K,sumK gs vn (l.take k)=K:=⟨_,rfl⟩;rw [hKK] at hsum hAV hrb;have HSUM:=qh hsum;have HKK:=qh hKK;have hnoK:no≤4096:=by
     have h1:=Kr gs vn (l.take k);have h2:=hAV.len;rw [hKK,List.length_take] at h1;omega
    have hkl:(Ae (Bv gs t2)).length=6:=AQ (by unfold Bv; rw [DK]; omega);have hkv:BD (Ae (Bv gs t2)) = .agg ((Ae (Bv gs t2)).map (Value.int .i64)).toArray:=rfl;clear hY hg5 hB5 hrow hrow' hcl hSw hxs hst hsum hrk r2 r3 hQT hKK
    go_wp2_with fail
    refine (CR hxs5 hn6).mono ?_;rintro e w6 ⟨rfl,hE6⟩
    go_wp2_with fail
    refine (FD (hg.ext (hEw5.trans hE6)) hpn r1 hn6).mono ?_;rintro e w7 ⟨rfl,hE7⟩;obtain ⟨κ,hκ⟩:∃ κ,Ae (Bv gs t2)=κ:=⟨_,rfl⟩;rw [hkv];rw [hκ] at hkl hkv HSUM hrb hrb2 ⊢;have hA7:=Arr.new w7 70 As;obtain ⟨x0,x1,x2,x3,x4,x5,hxe⟩:=Dr hkl;obtain ⟨KI,hKI⟩:∃ KI:List Value,KI=[.int .i64 x0, .int .i64 x1, .int .i64 x2, .int .i64 x3, .int .i64 x4, .int .i64 x5]:=⟨_,rfl⟩;have hkm:κ.map (Value.int .i64)=[.int .i64 x0, .int .i64 x1, .int .i64 x2, .int .i64 x3, .int .i64 x4, .int .i64 x5]:=by rw [hxe]; rfl
    rw [hkm];have hka:([.int .i64 x0, .int .i64 x1, .int .i64 x2, .int .i64 x3, .int .i64 x4, .int .i64 x5]:List Value).toArray=#[.int .i64 x0, .int .i64 x1, .int .i64 x2, .int .i64 x3, .int .i64 x4, .int .i64 x5]:=rfl;have hAg:Agg prog 70 ([.int .i64 x0, .int .i64 x1, .int .i64 x2, .int .i64 x3, .int .i64 x4, .int .i64 x5]:List Value).length:=CW;have hk1:∀ u∈([.int .i64 x0, .int .i64 x1, .int .i64 x2, .int .i64 x3, .int .i64 x4, .int .i64 x5]:List Value),u.oneCell'=true:=by rw [←hkm]; exact A6 _
    have hkq:(Value.agg #[.int .i64 x0, .int .i64 x1, .int .i64 x2, .int .i64 x3, .int .i64 x4, .int .i64 x5])=BD κ:=by rw [hkv,hkm]
    have HKQ:=qh hkq;have HXE:=qh hxe;have HKM:=qh hkm;clear hKI KI hkq hkv hkm hka hxe
    go_upto_region 11 with (refine Aa (vs:=[.int .i64 x0, .int .i64 x1, .int .i64 x2, .int .i64 x3, .int .i64 x4, .int .i64 x5]) rfl rfl rfl rfl rfl hAg hA7 rfl hk1 ?_; intro w8 hB8 hg8)
    obtain ⟨Y,hYY⟩:∃ y,w7.heap.size=y:=⟨_,rfl⟩;rw [hYY] at hB8 ⊢;have hXg:∀ g,blk ao=some g→g<X:=fun g h=>by have h1:=(hAV.ow.lt h).2; omega
    have hXY:X<Y:=by have h1:=hE5.size; have h2:=(hE6.trans hE7).size; have h3:=hXlt; omega
    have hE8:Ext w7 w8:=((Ext.refl w7).alloc _).grownR hg8 (lrf _);have h58:=(hE6.trans hE7).trans hE8;have hr8:=hE5.trans h58;have hAV8:=hAV.ex hr8;replace y0:=h58.cell y0;replace y1:=h58.cell y1;have hM8:=hAV8.mp;clear hA7 hg8 hE8 hE7 hE6 hE5 h58 hr8 hAV hxs5 hE hEw hEw5;have hmk:∀ b:Bool,decide (κ∈K.map (·.1))=b→Ro (Ev K) κ=b:=fun b hb=>by rw [ST]; exact hb
    by_cases hmem:κ∈K.map (·.1)
    case' pos =>
     obtain ⟨SA,hSA⟩:∃ SA:ByteArray,Ee (txt (Pl.getK 0 K κ)) = .string SA:=⟨_,rfl⟩;have hlk:=NZ hmem;rw [hSA] at hlk;have HSA:Hid ((⟨(txt (Pl.getK 0 K κ)).toArray⟩:ByteArray)=SA):=qh (by unfold Ee at hSA; injection hSA);have hhk:=hmk true (decide_eq_true hmem)
     go_upto_region 12 with (first
      | (refine A5 rfl rfl hAg rfl hB8 ?_)
      | (refine C7 (k:=κ) rfl rfl FB Br Hq rfl HKQ.out hM8 hkl ?_; rw [if_pos rfl,hlk,hhk]))
     clear hlk hhk hmk hSA
     go_upto_region 15 with (fail)
     have hOw:A3 w8 w3.heap.size 70 6 ao no co ((Pl.putK K κ (Pl.getK 0 K κ+QT)).map fun p=>p.1.map (Value.int .i64)):=by
      rw [FW,Hf,if_pos hmem,←FW];exact hAV8.ow
     have hln:no=(Pl.putK K κ (Pl.getK 0 K κ+QT)).length:=by
      have h1:=congrArg List.length (Hf (k:=κ) (q:=Pl.getK 0 K κ+QT) (L:=K));rw [if_pos hmem,List.length_map,List.length_map] at h1;rw [h1];exact hAV8.len
     have hE11:=hAV8.ext;have hM11:=hAV8.mp;have hB11:=hB8;have hgm:=hAV8.gm;obtain ⟨a11,e1⟩:∃ x,x=ao:=⟨_,rfl⟩;obtain ⟨n11,e2⟩:∃ x,x=no:=⟨_,rfl⟩;obtain ⟨c11,e3⟩:∃ x,x=co:=⟨_,rfl⟩;obtain ⟨w11,e4⟩:∃ x,x=w8:=⟨_,rfl⟩;subst e1 e2 e3 e4;clear hmem hM8 hAV8 hB8
    case' neg =>
     obtain ⟨LV,hlk⟩:∃ v,D6 (.string ⟨#[]⟩) (Ev K) κ=v:=⟨_,rfl⟩;have hhk:=hmk false (decide_eq_false hmem)
     go_upto_region 12 with (first
      | (refine A5 rfl rfl hAg rfl hB8 ?_)
      | (refine C7 (k:=κ) rfl rfl FB Br Hq rfl HKQ.out hM8 hkl ?_; rw [if_pos rfl,hlk,hhk]))
     clear hlk hhk hmk;have HSA0:Hid ((⟨(txt (Pl.getK 0 K κ)).toArray⟩:ByteArray)=⟨#[48]⟩):=qh (by rw [P8 hmem,Od.2 rfl]);have hO8:=hAV8.ow.ext ((Ext.refl w8).alloc (.cells #[.int .i64 x0, .int .i64 x1, .int .i64 x2, .int .i64 x3, .int .i64 x4, .int .i64 x5] 70));have hL9:=GZ (k:=6) (Arr.new w8 70 [.int .i64 x0, .int .i64 x1, .int .i64 x2, .int .i64 x3, .int .i64 x4, .int .i64 x5]) rfl
     go_upto_region 15 with (first
      | (refine A5 rfl rfl hAg rfl hB8 ?_)
      | (refine PH rfl rfl (by kernel_rfl) Tl rfl hO8 rfl hL9 (by intro r hr u hu; rw [List.mem_singleton.1 hr] at hu; exact hk1 u hu) (by unfold maxLen; omega) (by omega) (by have:=hAV8.ext.size; simp; omega) ?_; intro a11 c11 w11 hO11 hg11 hb11))
     have hEa:Ext w3 (w8.alloc (.cells #[.int .i64 x0, .int .i64 x1, .int .i64 x2, .int .i64 x3, .int .i64 x4, .int .i64 x5] 70)):=hAV8.ext.alloc _;have hobl:∀ g,blk ao=some g→w3.heap.size≤g:=fun g h=>(hO8.lt h).1;have hOw:A3 w11 w3.heap.size 70 6 a11 (no+1) c11 ((Pl.putK K κ (Pl.getK 0 K κ+QT)).map fun p=>p.1.map (Value.int .i64)):=by
      rw [FW,Hf,if_neg hmem,List.map_append,←FW];show A3 _ _ _ _ _ _ _ (_ ++ [κ.map (Value.int .i64)]);rw [HKM.out];exact hO11
     have hln:no+1=(Pl.putK K κ (Pl.getK 0 K κ+QT)).length:=by
      have h1:=congrArg List.length (Hf (k:=κ) (q:=Pl.getK 0 K κ+QT) (L:=K));rw [if_neg hmem,List.length_map,List.length_append,List.length_map] at h1;rw [h1,←hAV8.len];rfl
     have hE11:Ext w3 w11:=hEa.grown hg11 hobl;have hM11:=(hM8.ext ((Ext.refl w8).alloc (.cells #[.int .i64 x0, .int .i64 x1, .int .i64 x2, .int .i64 x3, .int .i64 x4, .int .i64 x5] 70))).kept hg11 (fun h=>Hr hO8 (hM8.ext ((Ext.refl w8).alloc _)) h.symm);have hB11:=(hB8.alloc (.cells #[.int .i64 x0, .int .i64 x1, .int .i64 x2, .int .i64 x3, .int .i64 x4, .int .i64 x5] 70)).kept hg11 (fun h=>by have:=hXg _ h.symm; omega);have hgm:=hAV8.gm
     replace y0:=UO hg11 (((Ext.refl w8).alloc (.cells #[.int .i64 x0, .int .i64 x1, .int .i64 x2, .int .i64 x3, .int .i64 x4, .int .i64 x5] 70)).cell y0) (fun h=>Nat.lt_irrefl X (hXg X h.symm));replace y1:=UO hg11 (((Ext.refl w8).alloc (.cells #[.int .i64 x0, .int .i64 x1, .int .i64 x2, .int .i64 x3, .int .i64 x4, .int .i64 x5] 70)).cell y1) (fun h=>Nat.lt_irrefl X (hXg X h.symm));obtain ⟨SA,hSA⟩:∃ SA:ByteArray,(⟨#[48]⟩:ByteArray)=SA:=⟨_,rfl⟩;rw [hSA];have HSA:Hid ((⟨(txt (Pl.getK 0 K κ)).toArray⟩:ByteArray)=SA):=qh (HSA0.out.trans hSA);obtain ⟨n11,e2⟩:∃ x,no+1=x:=⟨_,rfl⟩
     rw [e2] at hOw hln ⊢;clear hmem hM8 hAV8 hB8 hO8 hL9 hO11 hg11 hb11 hSA e2 hEa hobl
    all_goals
     have z0:=hB11.c 0 rfl;have z1:=hB11.c 1 rfl;have z2:=hB11.c 2 rfl;have z3:=hB11.c 3 rfl;have z4:=hB11.c 4 rfl;have z5:=hB11.c 5 rfl;have hEw11:=hE02.trans hE11;have HSS:Hid ((⟨(txt QT).toArray⟩:ByteArray)=s):=qh (by unfold Ee at hsq; injection hsq with h; exact h.symm);have hadd:=fun (wx:World) (hC:Ext w wx)=>qh (Te (b:=400) (hT.ext hC) (by omega) hrb hcb (HOK.out.tb _ hrb) (HOK.out.tb _ hcb));rw [HSA.out,HSS.out] at hadd;obtain ⟨SN,hSN⟩:∃ SN:ByteArray,(⟨(txt (Pl.getK 0 K κ+QT)).toArray⟩:ByteArray)=SN:=⟨_,rfl⟩;rw [hSN] at hadd;have HLN1:=qh hln
     have HSN:Hid (Ee (txt (Pl.getK 0 K κ+QT)) = .string SN):=qh (by unfold Ee; rw [hSN]);clear hB11 hrb hcb hsq hSN hXg hXY hXlt hln;have HF1:=fun (wx:World) (hC:Ext w11 wx)=>qh (And.intro (hC.cell z0) (And.intro (hC.cell z1) (And.intro (hC.cell z2) (And.intro (hC.cell z3) (And.intro (hC.cell z4) (And.intro (hC.cell z5) (hC.cell y0)))))))
     refine Af (by kernel_rfl) (fun wx=>Ext w11 wx)
      [he (.map (some RM)),
 he (.agg #[.int .i64 x0, .int .i64 x1, .int .i64 x2, .int .i64 x3, .int .i64 x4, .int .i64 x5]),
 he (.string SA),
 he (.pointer (some ⟨X,0,none⟩)),
 he (.string s),
 hp (fun v wx=>v = .string SN)]
      (by kernel_rfl) (fun _ _ e h=>h.trans e) ((Ext.refl w11).drew) ⟨trivial,trivial,trivial,trivial,trivial,fun _ _ _ _ h=>h,trivial⟩ ⟨?o0, ?o1, ?o2, ?o3, ?o4, ?o5,trivial⟩ ?fin
     case o0=>exact omv rfl rfl (fun _ _=>id)
     case o1 =>
      refine AB rfl fun ρ wx hC hcst h => ?_;have e0:ρ (.tmp 10)=(.pointer (some ⟨Y,0,none⟩)):=h.1;obtain ⟨kz0,kz1,kz2,kz3,kz4,kz5,ky0⟩:=(HF1 wx hC).out;go_simp
     case o2=>exact omv rfl rfl (fun _ _=>id)
     case o3=>exact ofa (d:=0) rfl rfl (fun _ _=>id) (by kernel_rfl) rfl
     case o4=>exact ol rfl rfl (fun _ _=>id) (by kernel_rfl) (by assumption)
     case o5 =>
      refine Aj rfl fun ρ wx hC hcst hfn h => ?_;have e1:ρ (.tmp 67)=(.string SA):=h.2.1;have e2:ρ (.tmp 69)=(.string s):=h.2.2.1;obtain ⟨kz0,kz1,kz2,kz3,kz4,kz5,ky0⟩:=(HF1 wx hC).out;refine ⟨28,#[.string SA, .string s],by go_simp,((hadd wx (hEw11.trans hC)).out).mono ?_⟩;rintro e w' ⟨rfl,hE'⟩;exact ⟨_,rfl,hE',rfl⟩
     case fin =>
      intro wx hC;rintro _ rfl;change wpList _ _ _ _ _ _;simp only [List.length_cons,List.length_nil,List.drop_succ_cons,List.drop_zero,Act.put,List.setIfInBounds_toArray,List.set_cons_succ,List.set_cons_zero];have hMx:=hM11.ext hC
      go_wp2_with (refine Kx (k:=κ) (v := .string SN) rfl (Or.inl rfl) FB Br rfl HKQ.out rfl hMx hkl ?_; intro w12 hM12 hg12)
      go_roundw
      case rel =>
       refine ⟨k+1,a11,n11,c11,rfl,by go_num,by omega, ?_⟩;rw [HSUM.out];refine ⟨(hE11.trans hC).grown hg12 (fun g h=>by cases h; exact hgm), ?_,(hOw.ext hC).kept hg12 (Or.inr (Hr (hOw.ext hC) hMx)),HLN1.out,hgm⟩;rw [←Ug,HSN.out];exact hM12
      case measure=>simp [intOf]; omega
  · have hkn:n=k:=by omega
    subst hkn;have hKE:sumK gs vn (l.take n)=sumK gs vn l:=by rw [List.take_of_length_le (by have:=HLN.out; omega)]
    rw [hKE] at hAV;obtain ⟨K,hKK⟩:∃ K,sumK gs vn l=K:=⟨_,rfl⟩
    have HRB:Hid (∀ e,Pl.RB 400 (Pl.getK 0 K e)):=qh fun e=>by
     have h:=HOK.out.rb n e;rw [hKE,hKK] at h;exact h
    have hkb:K.length≤4096:=by have:=Kr gs vn l; rw [hKK] at this; have:=HLN.out; omega
    rw [hKK] at hAV;have HKK:=qh hKK;have HAL:Hid ((avT gs vn K).length≤4096∧(∀ t∈avT gs vn K,Fv vn t)∧(∀ t∈avT gs vn K,t.1.length≤570)∧Dv ((avT gs vn K).map Ci)):=qh (by rw [←hKK]; exact ⟨HOK.out.len,HOK.out.mkt,HOK.out.tx,HOK.out.fin⟩);clear hKE hKK;have HNK:=qh hAV.len;obtain ⟨wA,hwA⟩:∃ x,x=wr:=⟨_,rfl⟩;subst hwA;have hEA:=hAV.ext;have hOA:=hAV.ow;have hMA:=hAV.mp;have hKN:(K.map (·.1)).Nodup:=by have h:=hMA.nodup; rw [DJ] at h; exact h
    have HKM:=qh (fun (j:Nat) (hj:j<K.length)=>Uh hKN hj)
    have HKP:Hid (∀ j,j<K.length→∃ m:List Int,m.length=vn∧(K.getD j ([],0)).1=Ae m):=qh fun j hj=>by
     have h:=LG (gs:=gs) (n:=vn) (l:=l) hn6 HL6.out;rw [HKK.out] at h;exact h _ (by rw [gqq,List.getElem?_eq_getElem hj]; exact List.getElem_mem _)
    have hwA:=hE02.trans hEA;have qA0:=hEA.cell q00;have qA1:=hEA.cell q01;have hRA:=hR2.ext hEA;have hSK:=hOA.slk (by omega);have hbK:=fun g (h:blk ao=some g)=>(hOA.lt h).2;clear hKN q00 q01 hR2 hAV hk hz2 hS HQ
    go_upto_region 18 with (fail)
    have hno:no≤4096:=by rw [HNK.out]; exact hkb
    go_wp2
    go_loopw [13,74] (fun tv iv wr=>∃ (j:Nat) (at':Option Addr) (nt ct:Nat),tv = .slice at' nt ct∧iv = .int .i64 j∧j≤no∧Ext wA wr∧TmO wr wA.heap.size at' nt ct (avT gs vn (K.take j))) (fun _ iv _=>no-(intOf iv).toNat)
    case atStart=>exact ⟨0,none,0,0,rfl,rfl,Nat.zero_le _,Ext.refl _,TmO.nil _ _⟩
    case round =>
     obtain ⟨j,at',nt,ct,rfl,rfl,hj,hEr,hTO⟩:=hrel;have hEw:=hwA.trans hEr;by_cases hjn:j<no
     · have hSr:=hSK.ext hEr;obtain ⟨bk,ok,rfl,hclk⟩:=hSr.rd (by omega);have hjK:j<K.length:=by rw [←HNK.out]; exact hjn
       obtain ⟨m,hml,hmk⟩:=HKP.out j hjK;have hgk:=HKM.out j hjK;have HAT:=qh (SU (gs:=gs) (n:=vn) (k:=j) (K:=K) hjK);have hrow:(K.map fun p=>p.1.map (Value.int .i64)).getD j []=(Ae m).map (Value.int .i64):=by
        rw [←hmk];simp [hjK]
       obtain ⟨P,hP⟩:∃ P,K.getD j ([],0)=P:=⟨_,rfl⟩;rw [hP] at hmk hgk HAT;obtain ⟨κ,QK⟩:=P;simp only at hmk hgk;subst hmk;have hkl:(Ae m).length=6:=AQ (by omega);obtain ⟨x0,x1,x2,x3,x4,x5,hxe⟩:=Dr hkl;have hkm:(Ae m).map (Value.int .i64)=[.int .i64 x0, .int .i64 x1, .int .i64 x2, .int .i64 x3, .int .i64 x4, .int .i64 x5]:=by rw [hxe]; rfl
       rw [hkm] at hrow;have HKQ:Hid ((Value.agg #[.int .i64 x0, .int .i64 x1, .int .i64 x2, .int .i64 x3, .int .i64 x4, .int .i64 x5])=BD (Ae m)):=qh (by unfold BD; rw [hkm]);have hka:([.int .i64 x0, .int .i64 x1, .int .i64 x2, .int .i64 x3, .int .i64 x4, .int .i64 x5]:List Value).toArray=#[.int .i64 x0, .int .i64 x1, .int .i64 x2, .int .i64 x3, .int .i64 x4, .int .i64 x5]:=rfl;have hAg:Agg prog 70 ([.int .i64 x0, .int .i64 x1, .int .i64 x2, .int .i64 x3, .int .i64 x4, .int .i64 x5]:List Value).length:=CW
       have hk1:∀ u∈([.int .i64 x0, .int .i64 x1, .int .i64 x2, .int .i64 x3, .int .i64 x4, .int .i64 x5]:List Value),u.oneCell'=true:=by rw [←hkm]; exact A6 _
       have hYz:=Arr.new wr 70 As;have HXE:=qh hxe;have HKI:=qh hkm;have hPP:=qh hP;clear hkm hxe hclk hP
       go_upto_region 21 with (first
        | (refine CZ rfl rfl CW rfl hSr hjn ?_; rw [hrow])
        | (refine Aa (vs:=[.int .i64 x0, .int .i64 x1, .int .i64 x2, .int .i64 x3, .int .i64 x4, .int .i64 x5]) rfl rfl rfl rfl rfl hAg hYz rfl hk1 ?_; intro w5 hB5 hg5))
       obtain ⟨Y,hYY⟩:∃ y,wr.heap.size=y:=⟨_,rfl⟩;rw [hYY] at hB5 ⊢;have hE5:Ext wr w5:=((Ext.refl wr).alloc _).grownR hg5 (lrf _);have hEr5:=hEr.trans hE5;have hTO5:=hTO.ext hE5;have hM5:=hMA.ext hEr5;have hmem:Ae m∈K.map (·.1):=by
        have h1:=congrArg Prod.fst hPP.out;have h2:K.getD j ([],0)∈K:=by rw [gqq,List.getElem?_eq_getElem hjK]; exact List.getElem_mem _
        exact List.mem_map.2 ⟨_,h2,h1⟩
       obtain ⟨SQ,hSQ⟩:∃ S:ByteArray,(⟨(txt QK).toArray⟩:ByteArray)=S:=⟨_,rfl⟩;have hlk:=NZ hmem;rw [hgk] at hlk;unfold Ee at hlk;rw [hSQ] at hlk;have hrq:Pl.RB 400 QK:=by rw [←hgk]; exact HRB.out _
       have hsg:=qh (Rn (q:=QK) (hT.ext (hwA.trans hEr5)) (HOK.out.tb _ hrq));rw [hSQ] at hsg;have HSQ:=qh hSQ;have HLK:=qh hlk;clear hYz hg5 hE5 hEr hTO hmem hSQ hlk hgk hrow hEw hSr
       go_wp2_with (first
        | (refine A5 rfl rfl hAg rfl hB5 ?_)
        | (refine C7 (k:=Ae m) rfl rfl FB Br Hq rfl HKQ.out hM5 hkl ?_; rw [if_neg (by simp),HLK.out]))
       refine hsg.out.mono ?_;rintro e w6 ⟨⟨r,rfl,hr⟩,hE6⟩;have hEr6:=hEr5.trans hE6;have hTO6:=hTO5.ext hE6;have hM6:=hM5.ext hE6;have hB6:=hB5.ext hE6;clear hsg hEr5 hTO5 hM5 hB5 hE6;by_cases hq0:QK=0
       · have hrz:(r == 0)=true:=by simp [hr.2 hq0]
         have HT2:Hid (avT gs vn (K.take (j+1))=avT gs vn (K.take j)):=qh (by
          rw [HAT.out];unfold orbT
          rw [if_pos hq0,List.append_nil])
         clear hr hq0;go_wp2;go_roundw
         case rel=>exact ⟨j+1,at',nt,ct,rfl,by go_num,by omega,hEr6,by rw [HT2.out]; exact hTO6⟩
         case measure=>simp [intOf]; omega
       · have hrz:(r == 0)=false:=by simpa using fun h=>hq0 (hr.1 h)
         have HQ1:=qh hq0;clear hr hq0
         go_upto_region 23 with (refine Ho rfl rfl ?_; intro w7 hM7 hE7 hl7)
         obtain ⟨RO,hRO⟩:∃ g,w6.heap.size=g:=⟨_,rfl⟩;rw [hRO] at hM7 hl7 ⊢;have HGP:Hid (∀ i,i<q→Ar (gs.getD i [])=true∧(gs.getD i []).length=vn):=qh fun i hi=>hpn _ (by rw [gqq,List.getElem?_eq_getElem (by rw [HQ0.out]; exact hi)]; exact List.getElem_mem _);clear hrz;go_wp2
         go_loopw [86] (fun iv wx=>∃ i:Nat,iv = .int .i64 i∧i≤q∧Ext w6 wx∧AN wx RO (BK (B8 gs m i))) (fun iv _=>q-(intOf iv).toNat)
         case atStart=>exact ⟨0,rfl,Nat.zero_le _,hE7,hM7⟩
         case round =>
          clear hM7;obtain ⟨i,rfl,hi,hEx,hMx⟩:=hrel;have hEwx:=(hwA.trans hEr6).trans hEx;have hBx:=hB6.ext hEx;have hgx:=hg.ext hEwx
          have hlO:∀ x∈B8 gs m i,x.length=vn:=fun x hx=>by
           obtain ⟨j,_,rfl⟩:=(Fz i x).1 hx;rw [Bg];exact hml
          by_cases hiq:i<q
          · obtain ⟨b1,o1,a1,n1,c1,hbe,g1,s1⟩:=hgx.at hiq;simp only [Option.some.injEq,Addr.mk.injEq,and_true] at hbe;obtain ⟨rfl,rfl⟩:=hbe;obtain ⟨gp,gl⟩:=HGP.out i hiq;have hn1:vn=n1:=by have h1:=s1.len; omega
            subst hn1;have hmv:=Gx s1 gp hml;rw [←HKQ.out] at hmv;have HMV:=qh hmv;have hk6:(Ae (mvd (gs.getD i []) m)).length=6:=AQ (by rw [Bg]; omega);clear hmv hgx s1
            go_wp2_with (first
             | (refine A5 rfl rfl hAg rfl hBx ?_))
            refine HMV.out.mono ?_;rintro e w8 ⟨rfl,hE8⟩;have hM8:=hMx.ext hE8
            go_upto_region 27 with (refine Kx (k:=Ae (mvd (gs.getD i []) m)) (v := .bool true) rfl (Or.inl rfl) CC Br rfl rfl rfl hM8 hk6 ?_; intro w9 hM9 hg9)
            have hgO:w6.heap.size≤RO:=Nat.le_of_eq hRO
            have HM9:Hid (AN w9 RO (BK (B8 gs m (i+1)))):=qh (by
             rw [Ri hlO (by rw [Bg]; exact hml)] at hM9
             exact hM9)
            have HE9:=qh ((hEx.trans hE8).grown hg9 (fun g h=>by cases h; exact hgO));clear hM9 hg9 hM8 hMx hE8 hEx hlO g1;go_wp2;go_roundw
            case rel=>exact ⟨i+1,by go_num,by omega,HE9.out,HM9.out⟩
            case measure=>simp [intOf]; omega
          · have hiq2:q=i:=by omega
            subst hiq2;obtain ⟨L,hL⟩:∃ L,B8 gs m q=L:=⟨_,rfl⟩;have hLn:L.Nodup:=by rw [←hL]; exact DS q
            have hLq:L.length≤q:=by rw [←hL]; exact Jf q
            have hL1:0<L.length:=by
             rw [←hL];exact List.length_pos_of_mem ((Fz q _).2 ⟨0,hq1,rfl⟩)
            rw [hL] at hMx hlO;have HLL:=qh hL;clear hL hgx
            go_upto_region 28 with (fail)
            have z0:=hBx.c 0 rfl;have z1:=hBx.c 1 rfl;have z2:=hBx.c 2 rfl;have z3:=hBx.c 3 rfl;have z4:=hBx.c 4 rfl;have z5:=hBx.c 5 rfl;have hMS:=hM6.ext hEx
            have hlkr:∀ wx,Ext wr wx→(Instr.lookup 123 (.map (some RM)) (.agg #[.int .i64 x0, .int .i64 x1, .int .i64 x2, .int .i64 x3, .int .i64 x4, .int .i64 x5]) false).run prog wx = .ok (.string SQ) wx:=fun wx hC=>by
             rw [HKQ.out,Gw FB Br (Hq wx) (hMS.ext hC) hkl false,if_neg (by simp),HLK.out]
            have hlnr:∀ wx,Ext wr wx→(Builtin.len_ #[120] 3 #[.map (some RO)]).run prog wx = .ok (.int .i64 (L.length:Int)) wx:=fun wx hC=>by
             have h:=KM (P:=prog) (ty:=3) CC (hMx.ext hC).obj;have h2:(B4 0 (BK L)).toArray.size=L.length:=by simp [CQ,BK]
             rw [h2] at h;exact h
            obtain ⟨SL,hSL⟩:∃ S:ByteArray,(⟨(txt ((L.length:Int):Rat)).toArray⟩:ByteArray)=S:=⟨_,rfl⟩;obtain ⟨SD,hSD⟩:∃ S:ByteArray,(⟨(txt (QK*(((L.length:Nat):Int):Rat)⁻¹)).toArray⟩:ByteArray)=S:=⟨_,rfl⟩;have hfi:=fun (wx:World) (hC:Ext wr wx)=>qh (MG (z:=(L.length:Int)) (hT.ext (hEwx.trans hC)) (by omega) (by omega));have hdv:=fun (wx:World) (hC:Ext wr wx)=>qh (Tg (x:=QK) (m:=L.length) (b:=400) (hT.ext (hEwx.trans hC)) hL1 (by omega) (by omega) hrq (HOK.out.tb _ hrq));rw [hSL] at hfi;rw [hSL,HSQ.out,hSD] at hdv;have HSD:=qh hSD;clear hSL hSD
            have HF2:=fun (wx:World) (hC:Ext wr wx)=>qh (And.intro (hC.cell z0) (And.intro (hC.cell z1) (And.intro (hC.cell z2) (And.intro (hC.cell z3) (And.intro (hC.cell z4) (hC.cell z5))))))
            refine Af (by kernel_rfl) (fun wx=>Ext wr wx)
             [he (.map (some RM)),
 he (.agg #[.int .i64 x0, .int .i64 x1, .int .i64 x2, .int .i64 x3, .int .i64 x4, .int .i64 x5]),
 he (.string SQ),
 he (.map (some RO)),
 he (.int .i64 (L.length:Int)),
 hp (fun v wx=>v = .string SL),
 hp (fun v wx=>v = .tuple #[.string SD, .bool true]),
 he (.tuple #[.string SD, .bool true]),
 he (.string SD),
 he (.bool true),
 he (.string SD),
 he (.bool true)]
             (by kernel_rfl) (fun _ _ e h=>h.trans e) ((Ext.refl wr).drew) ⟨trivial,trivial,trivial,trivial,trivial,fun _ _ _ _ h=>h,fun _ _ _ _ h=>h,trivial,trivial,trivial,trivial,trivial,trivial⟩ ⟨?o0, ?o1, ?o2, ?o3, ?o4, ?o5, ?o6, ?o7, ?o8, ?o9, ?o10, ?o11,trivial⟩ ?fin
            case o0=>exact omv rfl rfl (fun _ _=>id)
            case o1 =>
             refine AB rfl fun ρ wx hC hcst h => ?_;have e0:ρ (.tmp 15)=(.pointer (some ⟨Y,0,none⟩)):=h.1;obtain ⟨kz0,kz1,kz2,kz3,kz4,kz5⟩:=(HF2 wx hC).out;go_simp
            case o2 =>
             refine AB rfl fun ρ wx hC hcst h => ?_;have e0:ρ (.tmp 96)=(.map (some RM)):=h.1;have e1:ρ (.tmp 97)=(.agg #[.int .i64 x0, .int .i64 x1, .int .i64 x2, .int .i64 x3, .int .i64 x4, .int .i64 x5]):=h.2.1;have k0:=hlkr wx hC;go_simp
            case o3=>exact omv rfl rfl (fun _ _=>id)
            case o4 =>
             refine AB rfl fun ρ wx hC hcst h => ?_;have e0:ρ (.tmp 99)=(.map (some RO)):=h.1;have k0:=hlnr wx hC;go_simp
            case o5 =>
             refine Aj rfl fun ρ wx hC hcst hfn h => ?_;have e1:ρ (.tmp 100)=(.int .i64 (L.length:Int)):=h.2.1;obtain ⟨kz0,kz1,kz2,kz3,kz4,kz5⟩:=(HF2 wx hC).out;refine ⟨77,#[.int .i64 (L.length:Int)],by go_simp,((hfi wx hC).out).mono ?_⟩;rintro e w' ⟨rfl,hE'⟩;exact ⟨_,rfl,hE',rfl⟩
            case o6 =>
             refine Aj rfl fun ρ wx hC hcst hfn h => ?_;have e1:ρ (.tmp 98)=(.string SQ):=h.2.1;obtain ⟨v2,e2,rfl⟩:=h.2.2.1;obtain ⟨kz0,kz1,kz2,kz3,kz4,kz5⟩:=(HF2 wx hC).out;refine ⟨76,#[.string SQ, .string SL],by go_simp,((hdv wx hC).out).mono ?_⟩;rintro e w' ⟨rfl,hE'⟩;exact ⟨_,rfl,hE',rfl⟩
            case o7 =>
             refine AB rfl fun ρ wx hC hcst h => ?_;obtain ⟨v0,e0,rfl⟩:=h.1;obtain ⟨kz0,kz1,kz2,kz3,kz4,kz5⟩:=(HF2 wx hC).out;go_simp
            case o8 =>
             refine AB rfl fun ρ wx hC hcst h => ?_;have e0:ρ (.tmp 95)=(.tuple #[.string SD, .bool true]):=h.1;obtain ⟨kz0,kz1,kz2,kz3,kz4,kz5⟩:=(HF2 wx hC).out;go_simp
            case o9 =>
             refine AB rfl fun ρ wx hC hcst h => ?_;have e0:ρ (.tmp 95)=(.tuple #[.string SD, .bool true]):=h.1;obtain ⟨kz0,kz1,kz2,kz3,kz4,kz5⟩:=(HF2 wx hC).out;go_simp
            case o10=>exact oas rfl rfl (fun _ _=>id)
            case o11=>exact oas rfl rfl (fun _ _=>id)
            case fin =>
             intro wx hC;rintro _ rfl;rintro _ rfl;change wpList _ _ _ _ _ _;simp only [List.length_cons,List.length_nil,List.drop_succ_cons,List.drop_zero,Act.put,List.setIfInBounds_toArray,List.set_cons_succ,List.set_cons_zero];have qx0:=((hEr6.trans hEx).trans hC).cell qA0
             go_wp2_with fail
             have hMz:=hMx.ext hC;refine (Ga hMz hn6 hlO (by omega) hL1).mono ?_;rintro e w9 ⟨ps,⟨a9,n9,c9,cells,rfl,hE9,hn9,hO9,hQ9⟩,hpm,hord⟩;have hpl:ps.length=L.length:=hpm.length_eq;rw [←hpl] at hord;have hps:=Ui hLn hpm hord;clear hord hpm hlkr hlnr hfi hdv hMz hMS hrq qx0 z0 z1 z2 z3 z4 z5;have hC0:=(hEr6.trans hEx).trans hC;have hEr9:=hC0.trans hE9;have hTO9:=((hTO6.ext hEx).ext hC).ext hE9;obtain ⟨B9,hB9⟩:∃ b,wx.heap.size=b:=⟨_,rfl⟩;rw [hB9] at hO9 hQ9;have hb9:wA.heap.size≤B9:=by rw [←hB9]; exact hC0.size
             obtain ⟨OT,hOT⟩:∃ OT,ps.map (fun e=>((txt (QK*(((L.length:Nat):Int):Rat)⁻¹),e):Tx))=OT:=⟨_,rfl⟩
             have HOT:Hid (orbT gs vn (Ae m,QK)=OT):=qh (by
              have h1:=Cz (l:=m);rw [hml] at h1;unfold orbT;show (if QK=0 then [] else (srtL (B8 gs ((Ae m).take vn) gs.length)).map fun e=>(txt (QK*((((B8 gs ((Ae m).take vn) gs.length).length:Nat):Int):Rat)⁻¹),e))=_
              rw [if_neg HQ1.out,h1,HQ0.out,HLL.out,←hps,hOT])
             have HOL:Hid (OT.length=n9∧∀ i,i<n9→OT.getD i tm0=(txt (QK*(((L.length:Nat):Int):Rat)⁻¹),ps.getD i [])):=qh (by
              rw [←hOT]
              exact ⟨by rw [List.length_map,hn9],fun i hi=>by simp [show i<ps.length by omega]⟩)
             have HLE:Hid ((avT gs vn (K.take j)).length+n9≤4096):=qh (by
              have h1:=N2 gs vn (j+1) K;rw [HAT.out,HOT.out,List.length_append,HOL.out.1] at h1;have:=HAL.out.1
              omega)
             have hn91:0<n9:=by omega
             have hn9q:n9≤1000:=by omega
             obtain ⟨g9,rfl,hg91,hg92⟩:=hO9.place hn91;have HN9:=qh hn9;clear hps hpl hOT hn9 hMx hlO hLn hLq hL1 hE9 hC hEx hB6 hBx hM6 hTO6 hEr6 hB9 hC0 hEwx hAg hka hk1;go_wp2
             go_loopw [13,110] (fun tv iv wx=>∃ (i:Nat) (a4:Option Addr) (n4 c4:Nat),tv = .slice a4 n4 c4∧iv = .int .i64 i∧i≤n9∧Ext wA wx∧TmO wx wA.heap.size a4 n4 c4 (avT gs vn (K.take j) ++ OT.take i)∧Own wx B9 22 (some ⟨g9,0,none⟩) n9 c9 cells∧QEl wx B9 cells ps) (fun _ iv _=>n9-(intOf iv).toNat)
             case atStart=>exact ⟨0,at',nt,ct,rfl,rfl,Nat.zero_le _,hEr9,by rw [List.take_zero,List.append_nil]; exact hTO9,hO9,hQ9⟩
             case round =>
              clear hTO9 hO9 hQ9 hEr9;obtain ⟨i,a4,n4,c4,rfl,rfl,hi,hE4,hT4,hO4,hQ4⟩:=hrel;obtain ⟨rows4,hK4,hl4,hq4⟩:=hT4;have hl4n:(avT gs vn (K.take j)).length+i=n4:=by
               rw [List.length_append,List.length_take] at hl4;have:=HOL.out.1;omega
              have hn4:n4≤4096:=by have:=HLE.out; omega
              by_cases hin:i<n9
              · obtain ⟨a1,n1,c1,hc1,hO1⟩:=hQ4 i (by rw [←HN9.out]; exact hin);have gc:=Own.cellAt hO4 (j:=i) hin;rw [hc1] at gc;have hAl:=(Ext.refl wr).alloc (.cells #[.string SD, .slice a1 n1 c1] 60);have hK5:=hK4.ext hAl;have hL5:=GZ (k:=2) (Arr.new wr 60 (tmL SD a1 n1 c1)) rfl
                go_upto_region 33 with (refine PH rfl rfl (by kernel_rfl) FP rfl hK5 rfl hL5 (by intro r hr u hu; rw [List.mem_singleton.1 hr] at hu; exact EL _ _ _ _ u hu) (by unfold maxLen; omega) (by omega) (by have:=hE4.size; simp; omega) ?_; intro a11 c11 w11 hO11 hg11 hb11)
                have hob4:∀ g,blk a4=some g→wA.heap.size≤g:=fun g h=>(hK5.lt h).1;have HE11:=qh ((hE4.trans hAl).grown hg11 hob4);have HO9:=qh ((hO4.ext hAl).kept hg11 (DF (hO4.ext hAl) hK5 (by decide)))
                have HQ9:Hid (QEl w11 B9 cells ps):=qh fun i' hi'=>by
                 obtain ⟨a2,n2,c2,e1,e2⟩:=(hQ4.ext hAl) i' hi';exact ⟨a2,n2,c2,e1,Own.kept e2 hg11 (DF e2 hK5 (by decide))⟩
                have HT11:Hid (TmO w11 wA.heap.size a11 (n4+1) c11 (avT gs vn (K.take j) ++ OT.take (i+1))):=qh (by
                 have hrl:=hK5.len (by omega);have hOi:=HOL.out;have ht1:OT.take (i+1)=OT.take i ++ [OT.getD i tm0]:=by
                  rw [List.take_succ_eq_append_getElem (by omega)];simp [show i<OT.length by omega]
                 rw [ht1,←List.append_assoc];refine ⟨rows4 ++ [tmL SD a1 n1 c1],hO11,by rw [List.length_append,hl4]; rfl,fun i' hi' => ?_⟩;by_cases hx:i'=n4
                 · subst hx;rw [gqq,List.getElem?_append_right (by omega),hrl,Nat.sub_self,gqq,List.getElem?_append_right (by omega),hl4,Nat.sub_self];show K3 _ _ (tmL SD a1 n1 c1) (OT.getD i tm0);rw [hOi.2 i hin];refine ⟨SD,a1,n1,c1,rfl,by rw [←HSD.out,AU], ?_⟩;exact Own.mono (Own.kept (Own.ext hO1 hAl) hg11 (DF (Own.ext hO1 hAl) hK5 (by decide))) hb9
                 · rw [gqq,List.getElem?_append_left (by omega),←gqq,gqq (l:=_ ++ [_]),List.getElem?_append_left (by omega),←gqq];obtain ⟨s9,a9,n9',c9',e1,e2,e3⟩:=(hq4 i' (by omega)).ext hAl
                   exact ⟨s9,a9,n9',c9',e1,e2,e3.kept hg11 (DF e3 hK5 (by decide))⟩)
                clear hK5 hL5 hK4 hq4 hO11 hg11 hb11 hO4 hQ4 hO1 gc hc1 hAl hE4 hob4 hl4;go_wp2;go_roundw
                case rel=>exact ⟨i+1,a11,n4+1,c11,rfl,by go_num,by omega,HE11.out,HT11.out,HO9.out,HQ9.out⟩
                case measure=>simp [intOf]; omega
              · have hin2:n9=i:=by omega
                have HT2:Hid (TmO wr wA.heap.size a4 n4 c4 (avT gs vn (K.take (j+1)))):=qh (by
                 rw [HAT.out,HOT.out];have h1:OT.take i=OT:=List.take_of_length_le (by have:=HOL.out.1; omega);rw [h1] at hl4 hq4
                 exact ⟨rows4,hK4,hl4,hq4⟩)
                have hn44:¬ ((4096:Int)<(n4:Int)):=by omega
                clear hK4 hq4 hl4 hO4 hQ4;go_wp2;go_roundw
                case rel=>exact ⟨j+1,a4,n4,c4,rfl,by go_num,by omega,hE4,HT2.out⟩
                case measure=>simp [intOf]; omega
     · have hjn2:no=j:=by omega
       have hTK:avT gs vn (K.take j)=avT gs vn K:=by rw [List.take_of_length_le (by have:=HNK.out; omega)]
       rw [hTK] at hTO;have hl4:(avT gs vn K).length=nt:=by obtain ⟨_,_,h,_⟩:=hTO; exact h
       have hmake:=qh (Lx (vars:=(vn:Int)) (hT.ext hEw) hTO.sl HAL.out.2.2.1 (by have:=HAL.out.1; omega) (fun _ _ _=>HAL.out.2.2.2));have q0:=hEr.cell qA0;have q1:=hEr.cell qA1;have HMK:=qh HAL.out.2.1;have HRQ2:Hid (resQ (vn:Int) ((avT gs vn K).map Ci)=RQ):=qh (by rw [←HKK.out]; exact HRQ.out);clear hTO hl4 hTK
       go_wp2_with fail
       refine hmake.out.mono ?_;rintro e w5 hq5;have h3:E0 wr RQ e w5:=by
        rcases hq5 with ⟨h1,_⟩|⟨_,_,h1,_⟩|⟨_,_,_,h1⟩
        · exact absurd ⟨by omega,by omega⟩ h1
        · exact absurd HMK.out h1
        · rw [HRQ2.out] at h1;exact h1
       obtain ⟨a7,n7,c7,rfl,hE7,hO7⟩:=h3;have hR7:=hRA.ext (hEr.trans hE7);have hpv:Kb RQ.1 a7 n7 c7 = .agg #[.int .i64 RQ.1, .slice a7 n7 c7]:=rfl;rw [hpv];have hpl:(AZ RQ.1 a7 n7 c7).toArray=#[.int .i64 RQ.1, .slice a7 n7 c7]:=rfl;clear hmake
       go_wp2_with (refine Aa (vs:=AZ RQ.1 a7 n7 c7) rfl rfl rfl rfl rfl AK hR7 rfl (Bn _ _ _ _) ?_; intro w9 hB9 hg9)
       refine bodyPost_ret (AH rfl AK rfl rfl hB9) rfl ?_;exact Kh hEw hE7 hO7 hR7 hg9 (by omega)
theorem FC {m:Nat} (hx:SlI w a n c xs) (hm:m≤6) :
 Calls prog 12 #[.slice a n c, .int .i64 m] w (fun e w'=>∃ a' c' p,e = .returned (.slice a' m c')∧Ext w w'∧SlI w' a' m c' p∧Ar p=true∧p.length=m):=by
 refine (IY hx (by omega)).mono ?_;rintro e w1 ⟨a1,n1,c1,rfl,hE,hO⟩;have hn:n1=m:=by have:=hO.sl.len; rw [Er] at this; exact this.symm
 subst hn;exact ⟨a1,c1,_,rfl,hE,hO.sl,OU xs hm,Er xs _⟩
end Go.Proofs.YtlpgonpfjbhmfaaGreatDoor
