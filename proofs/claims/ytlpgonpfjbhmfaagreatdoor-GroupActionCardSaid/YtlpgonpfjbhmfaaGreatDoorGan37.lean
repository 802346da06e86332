/- Part Gan37. -/
import Derived.Test.YtlpgonpfjbhmfaaGreatDoorGan35
import Derived.Test.YtlpgonpfjbhmfaaGreatDoorGan36
import Derived.Test.YtlpgonpfjbhmfaaGreatDoorGan25
import Derived.Test.YtlpgonpfjbhmfaaGreatDoorGan21
import Derived.Test.YtlpgonpfjbhmfaaGreatDoorGan32
import Derived.Test.YtlpgonpfjbhmfaaGreatDoorGan3
set_option maxRecDepth 100000
set_option maxHeartbeats 100000000
namespace Go.Proofs.YtlpgonpfjbhmfaaGreatDoor
open Go Go.RowKit
structure Bx where
 g:Nat
 v:Int
 a:Option Addr
 n:Nat
 c:Nat
 ts:List Tx
def PBx (w0 w:World) (l:List Bx):Prop:=Ext w0 w∧∀ p∈l,Arr w p.g 25 (polyL p.v p.a p.n p.c)∧TmSl w p.a p.n p.c p.ts
section
variable {w0 w w1 w':World} {l:List Bx} {i:Nat}
theorem PBx.e (h:PBx w0 w l):Ext w0 w:=h.1
theorem PBx.at {g:Nat} {v:Int} {a:Option Addr} {n c:Nat} {ts:List Tx} (h:PBx w0 w l) (hi:l[i]?=some ⟨g,v,a,n,c,ts⟩):Arr w g 25 (polyL v a n c)∧TmSl w a n c ts:=h.2 _ (List.mem_of_getElem? hi)
theorem PBx.c {g:Nat} {v:Int} {a:Option Addr} {n c:Nat} {ts:List Tx} (h:PBx w0 w l) (hi:l[i]?=some ⟨g,v,a,n,c,ts⟩):w.cell? ⟨g,0,none⟩=some (.int .i64 v)∧w.cell? ⟨g,1,none⟩=some (.slice a n c) :=
 ⟨(h.at hi).1.cell (i:=0) (by simp [polyL]),(h.at hi).1.cell (i:=1) (by simp [polyL])⟩
theorem PBx.t {g:Nat} {v:Int} {a:Option Addr} {n c:Nat} {ts:List Tx} (h:PBx w0 w l) (hi:l[i]?=some ⟨g,v,a,n,c,ts⟩):TmSl w a n c ts:=(h.at hi).2
theorem PBx.ext (h:PBx w0 w l) (e:Ext w w'):PBx w0 w' l:=⟨h.1.trans e,fun p hp=>⟨(h.2 p hp).1.ext e,(h.2 p hp).2.ext e⟩⟩
theorem PBx.one {v:Int} {a:Option Addr} {n c:Nat} {ts:List Tx} {g:Nat} (hE:Ext w0 w) (hB:Arr w g 25 (polyL v a n c)) (ht:TmSl w0 a n c ts):PBx w0 w [⟨g,v,a,n,c,ts⟩] :=
 ⟨hE,fun p hp=>by rw [List.mem_singleton.1 hp]; exact ⟨hB,ht.ext hE⟩⟩
theorem PBx.app {l':List Bx} (h:PBx w0 w l) (h':PBx w0 w l'):PBx w0 w (l ++ l'):=⟨h.1,fun p hp=>(List.mem_append.1 hp).elim (h.2 p) (h'.2 p)⟩
theorem PBx.new {v:Int} {a:Option Addr} {n c:Nat} {ts:List Tx} {o:Obj} (h:PBx w0 w l) (hE:Ext w w1) (hO:TmSl w1 a n c ts) (hB:Arr w' w1.heap.size 25 (polyL v a n c)) (hg:(w1.alloc o).grownBy w' (some w1.heap.size)):PBx w0 w' (l ++ [⟨w1.heap.size,v,a,n,c,ts⟩]):=by
 have hF:Ext w1 w':=((Ext.refl w1).alloc _).grownR hg (Nat.le_refl _);have h1:=h.ext (hE.trans hF);refine ⟨h1.1,fun p hp => ?_⟩;rcases List.mem_append.1 hp with hp|hp
 · exact h1.2 p hp
 · rw [List.mem_singleton.1 hp];exact ⟨hB,hO.ext hF⟩
end
section
variable {P:Program} {w:World}
theorem wl_stPo {ops:Array Oper} {rest:List Oper} {o:Oper} {f:Act} {Q:Exit→Act→World→Prop} {x y:Operand} (hgd:o.guard=none) (ho:o.op = .store 25 x y)
 {g:Nat} {t:TypeId} {cs:List Value} {v:Int} {a:Option Addr} {n c:Nat} (hx:f.eval x = .pointer (some ⟨g,0,none⟩)) (hy:f.eval y = .agg #[.int .i64 v, .slice a n c]) (h:Arr w g t cs) (hl:cs.length=2)
 (hK:∀ w',Arr w' g t (polyL v a n c)→w.grownBy w' (some g)→wpList Tryz.prog ops Q rest (f.put o.dst undef) w'):wpList Tryz.prog ops Q (o :: rest) f w :=
 wl_stArr (vs:=polyL v a n c) hgd ho hx hy rfl agg_Poly h hl (polyL_one _ _ _ _) hK
end
def RetTrue (w:World) (e:Ending) (w':World):Prop:=e = .returned (.bool true)∧Ext w w'
def RetV (w0:World) (v:Int) (ts:List Tx) (err:Int) (e:Ending) (w':World):Prop:=∃ a n c,e = .returned (.tuple #[.agg #[.int .i64 v, .slice a n c], .int .i64 err])∧Ext w0 w'∧TmSl w' a n c ts
theorem RetP.v {w0:World} {v:Int} {ts:List Tx} {err:Int} {e:Ending} {w':World} (h:RetP w0 v ts err e w'):RetV w0 v ts err e w':=by
 obtain ⟨a,n,c,h1,h2,h3⟩:=h;exact ⟨a,n,c,h1,h2,h3.sl⟩
section
variable {va vb:Int} {a b:Option Addr} {n c m d:Nat} {ta tb:List Tx} {w:World} {v err:Int} {t:List Tx}
theorem poly_MulV (hr:mulA va vb (rdP va ta) (rdP vb tb)=(v,t,err)) (hT:Tabs w) (ha:TmSl w a n c ta) (hb:TmSl w b m d tb) (sa:∀ t∈ta,t.1.length≤570) (sb:∀ t∈tb,t.1.length≤570)
 (hok:∀ la lb,rdP va ta=some la→rdP vb tb=some lb→va=vb→MulOK la lb) :
 Calls Tryz.prog 16 #[.agg #[.int .i64 va, .slice a n c], .agg #[.int .i64 vb, .slice b m d]] w (RetV w v t err) :=
 (poly_Mul hT ha hb sa sb hok).mono fun e w' h=>by
  have h:=h.a;rw [hr] at h;exact RetP.v h
end
def actT (xs:List Int) (ts:List Tx):List Tx:=ts.map fun t=>(t.1,mvd xs t.2)
theorem actT_len (xs:List Int) (ts:List Tx):(actT xs ts).length=ts.length:=List.length_map ..
theorem actT_at {xs:List Int} {ts:List Tx} {i:Nat} (h:i<ts.length):(actT xs ts).getD i tm0=((ts.getD i tm0).1,mvd xs (ts.getD i tm0).2):=by
 simp [actT,List.getD_eq_getElem?_getD,h]
theorem act_terms {vn:Nat} {xs:List Int} {ts:List Tx} {l:List Pl.Tm} (hr:rdP (vn:Int) ts=some l) (hp:permB xs=true) (hl:xs.length=vn):(∀ t∈actT xs ts,mkOK vn t)∧(actT xs ts).map mkTm=actL vn xs l:=by
 have pv:=Pv.of hr;have hn:vn≤6:=by have:=pv.v0; omega
 have hlen:=rdP_len hr
 have key:∀ i,i<ts.length→mkOK vn ((ts.getD i tm0).1,mvd xs (ts.getD i tm0).2)∧mkTm ((ts.getD i tm0).1,mvd xs (ts.getD i tm0).2)=(mp vn xs (l.getD i ([],0)).1,(l.getD i ([],0)).2):=fun i hi=>by
  obtain ⟨p1,_,p3,p4,p5⟩:=rdT_parts (rdP_at hr hi);have hm:l.getD i ([],0)∈l:=by
   rw [List.getD_eq_getElem?_getD,List.getElem?_eq_getElem (by omega)];exact List.getElem_mem _
  have hs:=rdP_sum24 hr _ hm;rw [p5,sum_pad] at hs;generalize ts.getD i tm0=t at *
  have h3:t.2.length=vn:=by omega
  have hpm:=mvd_perm hp (m:=t.2) (by omega);refine ⟨⟨by rw [p1]; rfl,by show ((mvd xs t.2).length:Int)=_; rw [mvd_len]; exact p3,validS_iff.2 ⟨by rw [mvd_len]; omega,fun x hx=>(p4 x (mvd_mem hp (by omega) hx)).1,by rw [perm_sum hpm]; exact hs⟩⟩, ?_⟩;unfold mkTm mp;rw [p1,p5];have:=pad_take (l:=t.2);rw [h3] at this;rw [this];rfl
 refine ⟨fun t ht => ?_, ?_⟩
 · obtain ⟨u,hu,rfl⟩:=List.mem_map.1 ht;obtain ⟨i,hi,rfl⟩:=List.getElem_of_mem hu;have:=(key i hi).1;simpa [List.getD_eq_getElem?_getD,hi] using this
 · apply List.ext_getElem (by rw [List.length_map,actT_len,act_len,hlen]);intro i h1 h2;have hi:i<ts.length:=by rw [List.length_map,actT_len] at h1; exact h1
   have:=(key i hi).2;simp only [List.getD_eq_getElem?_getD,List.getElem?_eq_getElem hi,List.getElem?_eq_getElem (show i<l.length by omega),Option.getD_some] at this;simp only [List.getElem_map,actT,actL];exact this
theorem slices_CloneV {a:Option Addr} {n c:Nat} {xs:List Int} {w:World} (hx:SlI w a n c xs) (hn:n≤1000000) (hnil:a=none→c=0) :
 Calls Tryz.prog 41 #[.slice a n c] w fun e w'=>∃ a' c',e = .returned (.slice a' n c')∧Ext w w'∧OwnI w' w.heap.size a' n c' xs:=by
 refine (slices_Clone hx hn hnil).mono ?_;rintro e w1 ⟨a1,n1,c1,rfl,hE,hO⟩;have h:n1=n:=by have h1:=hO.sl.len; have h2:=hx.len; omega
 subst h;exact ⟨a1,c1,rfl,hE,hO⟩
theorem group_Apply {vn n c cx:Nat} {x a:Option Addr} {xs:List Int} {ts:List Tx} {l:List Pl.Tm} {w:World} (hT:Tabs w) (hx:SlI w x vn cx xs) (hpm:permB xs=true) (ha:TmSl w a n c ts) (hr:rdP (vn:Int) ts=some l) (sa:∀ t∈ts,t.1.length≤570) (hok:SumOK (actL vn xs l)) :
 Calls Tryz.prog 14 #[.slice x vn cx, .agg #[.int .i64 (vn:Int), .slice a n c]] w (RetA3 w (actA vn xs (some l))):=by
 have hlx:=hx.len;obtain ⟨hmk,hml⟩:=act_terms hr hpm hlx;have hn6:vn≤6:=by have:=(Pv.of hr).v0; omega
 have hnl:n≤4096:=by have h1:=(rdP_parts hr).2.1; have h2:=ha.len; omega
 have hva:=fun (wx:World) (hC:Ext w wx)=>qh (by have h:=group_Valid (hx.ext hC); rw [hpm] at h; exact h);have hpv:=fun (wx:World) (hC:Ext w wx)=>qh (by have h:=poly_Valid (vars:=(vn:Int)) (hT.ext hC) (ha.ext hC) sa; rw [hr] at h; exact h);have HSA:=qh sa
 have HRT:Hid (∀ i,i<n→(ts.getD i tm0).2.length=vn):=qh fun i hi=>by
  have:=(rdT_parts (rdP_at hr (i:=i) (by have:=ha.len; omega))).2.2.1;omega
 have HMK:=qh (And.intro hmk hml);have HOK:=qh hok;have HRS:Hid (actA vn xs (some l)=resQ vn (actL vn xs l)):=qh rfl;rw [HRS.out];obtain ⟨RQ,hRQ⟩:∃ r,resQ (vn:Int) (actL vn xs l)=r:=⟨_,rfl⟩;rw [hRQ];have HRQ:=qh hRQ;have hvn:(vn != vn)=false:=by simp
 clear hmk hml sa hok hr HRS hRQ hlx
 go_enter Tryz.func14,Tryz.ntmps14
 go_upto_region 1 with (fail)
 refine box2 ?_;intro w0 hE0 hB0 hB1 hz0;have p00:=hB0.c 0 rfl;have p01:=hB0.c 1 rfl;have hR:Arr w0 (w.heap.size+1) 25 (polyL 0 none 0 0):=hB1;clear hB0 hB1
 go_wp2_with fail
 refine (hva _ hE0).out.mono ?_;rintro e w1 ⟨rfl,hE1⟩;have hE01:=hE0.trans hE1;have p00':=hE1.cell p00;have p01':=hE1.cell p01
 go_wp2_with fail
 refine (hpv _ hE01).out.mono ?_;rintro e w2 ⟨rfl,hE2⟩;have hE02:=hE01.trans hE2;have hR2:=hR.ext (hE1.trans hE2);have q00:=hE2.cell p00';have q01:=hE2.cell p01';have hz2:w.heap.size+2≤w2.heap.size:=by have:=(hE1.trans hE2).size; omega
 clear p00 p01 p00' p01' hR hva hpv hE0 hE1 hE2 hz0 hE01;simp only [Option.isSome_some]
 go_upto_region 6 with (refine wl_mkK rfl rfl (by kernel_rfl) elem_Term rfl rfl (by omega) (by unfold maxLen; omega) ?_; intro w4 hO4 hE4)
 obtain ⟨G,hG⟩:∃ G,w2.heap.size=G:=⟨_,rfl⟩;rw [hG] at hO4 hz2 ⊢;have q00':=hE4.cell q00;have q01':=hE4.cell q01;have hO4':OwnK w4 w.heap.size 60 2 (some ⟨G,0,none⟩) n n (List.replicate n (tmL ⟨#[]⟩ none 0 0)):=hO4.mono (by omega);obtain ⟨rows,hS,hlen,hq⟩:=ha;have HQ:=qh hq;have HLN:=qh hlen;clear hO4 hq hlen;go_wp2
 go_loopw [32] (fun iv wr=>∃ (k:Nat) (rs:List (List Value)),iv = .int .i64 k∧k≤n∧Ext w2 wr∧OwnK wr w.heap.size 60 2 (some ⟨G,0,none⟩) n n rs∧Hid (∀ i,i<k→TmOr wr w.heap.size (rs.getD i []) ((actT xs ts).getD i tm0))) (fun iv _=>n-(intOf iv).toNat)
 case atStart=>exact ⟨0,_,rfl,Nat.zero_le _,hE4,hO4',qh (fun i hi=>absurd hi (by omega))⟩
 case round =>
  clear hO4' hE4 q00' q01';obtain ⟨k,rs,rfl,hk,hE,hO,HC⟩:=hrel;have hEw:=hE02.trans hE;by_cases hlt:k<n
  · have hSw:=hS.ext hEw;obtain ⟨bq,off,rfl,hcl⟩:=hSw.rd (by omega);obtain ⟨s,ax,nx,cx',hrow,hst,hxs⟩:=HQ.out k hlt;have hY:=Arr.new wr 60 (tmL ⟨#[]⟩ none 0 0);have hrow':rows.getD k []=tmL s ax nx cx':=hrow
    go_upto_region 9 with (first
     | (refine wl_ldK rfl rfl agg_Term rfl hSw hlt ?_; rw [hrow'])
     | (refine wl_stArr (vs:=tmL s ax nx cx') rfl rfl rfl rfl rfl agg_Term hY rfl (tmL_one _ _ _ _) ?_; intro w5 hB5 hg5))
    have hE5:Ext wr w5:=((Ext.refl wr).alloc _).grownR hg5 (Nat.le_refl _);obtain ⟨X,hX⟩:∃ x,wr.heap.size=x:=⟨_,rfl⟩;rw [hX] at hB5 ⊢;have HM:Hid ((actT xs ts).getD k tm0=((ts.getD k tm0).1,mvd xs (ts.getD k tm0).2)):=qh (actT_at (by rw [HLN.out]; exact hlt));have HT2:=qh (HRT.out k hlt);obtain ⟨t,HTT⟩:∃ t,Hid (ts.getD k tm0=t):=⟨_,qh rfl⟩;rw [HTT.out] at HM HT2 hst hxs;obtain ⟨t1,t2⟩:=t;simp only at HM HT2 hst hxs;have y0:=hB5.c 0 rfl;have y1:=hB5.c 1 rfl;have hEw5:=hEw.trans hE5;have hx5:=hx.ext hEw5;have hxs5:SlI w5 ax nx cx' t2:=hxs.ext hEw5
    have hnx:vn=nx:=by have h1:=hxs5.len; have h2:=HT2.out; omega
    subst hnx;have ht2:=HT2.out;have hkv:keyV (pad6 (mvd xs t2)) = .agg ((pad6 (mvd xs t2)).map (Value.int .i64)).toArray:=rfl;have hl6:(pad6 (mvd xs t2)).length=6:=pad6_len (by rw [mvd_len]; omega);clear hY hg5 hB5 hrow hrow' hcl hSw hxs
    go_wp2_with fail
    refine (group_keyOf hxs5 hn6).mono ?_;rintro e w6 ⟨rfl,hE6⟩
    go_wp2_with fail
    refine (group_move (hx5.ext hE6) hpm ht2).mono ?_;rintro e w7 ⟨rfl,hE7⟩;rw [hkv];have hA7:=Arr.new w7 70 zero6;have hAg:Agg Tryz.prog 70 ((pad6 (mvd xs t2)).map (Value.int .i64)).length:=by rw [List.length_map,hl6]; exact agg_key
    have hz6:zero6.length=((pad6 (mvd xs t2)).map (Value.int .i64)).length:=by rw [List.length_map,hl6]; rfl
    have HL6:=qh hl6;clear hl6
    go_upto_region 10 with (refine wl_stArr (vs:=(pad6 (mvd xs t2)).map (Value.int .i64)) rfl rfl rfl rfl rfl hAg hA7 hz6 (ints_one _) ?_; intro w8 hB8 hg8)
    obtain ⟨Y,hYY⟩:∃ y,w7.heap.size=y:=⟨_,rfl⟩;rw [hYY] at hB8 ⊢;have hE8:Ext w7 w8:=((Ext.refl w7).alloc _).grownR hg8 (Nat.le_refl _);have h58:=(hE6.trans hE7).trans hE8;have hr8:=hE5.trans h58;have hE28:=hE.trans hr8;have h28:=hE02.trans hE28;have hO8:=hO.ext hr8;have HC8:Hid (∀ i,i<k→TmOr w8 w.heap.size (rs.getD i []) ((actT xs ts).getD i tm0)):=qh fun i hi=>(HC.out i hi).ext hr8;have HRL:=qh (hO8.len (by omega));have HST:=qh hst;replace y0:=h58.cell y0;replace y1:=h58.cell y1;have q0:=hE28.cell q00;have q1:=hE28.cell q01;have hsl8:SlI w8 (some ⟨Y,0,none⟩) vn 6 (mvd xs t2):=by
     have h1:=hB8.sl (k:=vn) (by rw [List.length_map,HL6.out]; exact hn6) (by rw [List.length_map,HL6.out]; unfold maxLen; decide);rw [List.length_map,HL6.out,←List.map_take] at h1;have h2:=pad_take (l:=mvd xs t2);rw [mvd_len,ht2] at h2;rw [h2] at h1;exact h1
    have hclo:=fun (wx:World) (hC:Ext w8 wx)=>qh (slices_CloneV (hsl8.ext hC) (by omega) (by simp));have hsa:=fun wx:World=>run_slice_arr (P:=Tryz.prog) (w:=wx) (g:=Y) keyT_key.arr info_int hn6;clear hA7 hAg hz6 hB8 hg8 hE8 hE7 hE6 hE5 h58 hr8 hx5 hxs5 hsl8 hst HC hO hkv;go_wp2;have HF1:=fun (wx:World) (hC:Ext w8 wx)=>qh (And.intro (hC.cell y0) (And.intro (hC.cell y1) (And.intro (hC.cell q0) (hC.cell q1))))
    refine wp_region_typed2 (by kernel_rfl) (fun wx=>Ext w8 wx)
     [he (.slice (some ⟨G,0,none⟩) n n),
 he (.int .i64 k),
 he (.pointer (some ⟨X,0,none⟩)),
 he (.string s),
 he (.pointer (some ⟨w.heap.size,0,none⟩)),
 he (.int .i64 (vn:Int)),
 he (.slice (some ⟨Y,0,none⟩) vn 6),
 hp (fun v wx=>∃ a4 c4,v = .slice a4 vn c4∧Own wx w8.heap.size 3 a4 vn c4 ((mvd xs t2).map (Value.int .i64))),
 hp (fun v wx=>∃ a4 c4,v = .agg #[.string s, .slice a4 vn c4]∧Own wx w8.heap.size 3 a4 vn c4 ((mvd xs t2).map (Value.int .i64)))]
     (by kernel_rfl) (fun _ _ e h=>h.trans e) ((Ext.refl w8).drew) ⟨trivial,trivial,trivial,trivial,trivial,trivial,trivial,fun v w w' e h=>by obtain ⟨a4,c4,h1,h2⟩:=h; exact ⟨a4,c4,h1,h2.ext e⟩,fun v w w' e h=>by obtain ⟨a4,c4,h1,h2⟩:=h; exact ⟨a4,c4,h1,h2.ext e⟩,trivial⟩ ⟨?o0, ?o1, ?o2, ?o3, ?o4, ?o5, ?o6, ?o7, ?o8,trivial⟩ ?fin
    case o0=>exact omv rfl rfl (fun _ _=>id)
    case o1=>exact omv rfl rfl (fun _ _=>id)
    case o2=>exact ofa (d:=0) rfl rfl (fun _ _=>id) (by kernel_rfl) rfl
    case o3=>exact ol rfl rfl (fun _ _=>id) (by kernel_rfl) (by assumption)
    case o4=>exact ofa (d:=0) rfl rfl (fun _ _=>id) (by kernel_rfl) rfl
    case o5=>exact ol rfl rfl (fun _ _=>id) (by kernel_rfl) (by assumption)
    case o6 =>
     refine obl_pq rfl fun ρ wx hC hcst h => ?_;have e0:ρ (.tmp 9)=(.pointer (some ⟨Y,0,none⟩)):=h.1;have e1:ρ (.tmp 47)=(.int .i64 (vn:Int)):=h.2.1;have k4:=hsa wx;go_simp
    case o7 =>
     refine obl_cq rfl fun ρ wx hC hcst hfn h => ?_;have e1:ρ (.tmp 48)=(.slice (some ⟨Y,0,none⟩) vn 6):=h.2.1;obtain ⟨k0,k1,k2,k3⟩:=(HF1 wx hC).out;refine ⟨41,#[.slice (some ⟨Y,0,none⟩) vn 6],by go_simp,((hclo wx hC).out).mono ?_⟩;rintro e w' ⟨a4,c4,rfl,hE',hO'⟩;exact ⟨_,rfl,hE',a4,c4,rfl,hO'.mono hC.size⟩
    case o8 =>
     refine obl_ext rfl ?_;intro ρ wx hp hC h;have hcst:=hp.const;have hfn:=hp.func;have e0:ρ (.tmp 45)=(.string s):=h.1;obtain ⟨v1,e1,a1,c1,rfl,i1⟩:=h.2.1;obtain ⟨k0,k1,k2,k3⟩:=(HF1 wx hC).out;exact ⟨_,wx,by go_simp,Ext.refl _,_,_,rfl,i1⟩
    case fin =>
     intro wx hC;rintro _ ⟨_,_,rfl,_⟩;rintro _ ⟨a7,c7,rfl,hO7⟩;change wpList _ _ _ _ _ _;simp only [List.length_cons,List.length_nil,List.drop_succ_cons,List.drop_zero,Act.put,List.setIfInBounds_toArray,List.set_cons_succ,List.set_cons_zero];have hOx:=hO8.ext hC;have hlt':(k:Int)<n:=by omega
     have hl9:(tmL s a7 vn c7).toArray=#[.string s, .slice a7 vn c7]:=rfl
     go_wp2_with (refine wl_stK (vs:=tmL s a7 vn c7) rfl rfl (by omega) agg_Term rfl rfl rfl hOx hlt rfl (tmL_one _ _ _ _) ?_; intro w10 hO10 hg10)
     go_roundw
     case rel =>
      have hEx:Own wx w.heap.size 3 a7 vn c7 ((mvd xs t2).map (Value.int .i64)):=hO7.mono (by have:=h28.size; omega);refine ⟨k+1,_,by go_num,by omega,(hE28.trans hC).grownR hg10 (Nat.le_of_eq hG),hO10,qh fun i hi => ?_⟩;by_cases hik:i=k
      · subst hik;rw [HM.out,List.getD_eq_getElem?_getD,List.getElem?_set_self (by rw [HRL.out]; exact hlt)];exact ⟨_,_,vn,c7,rfl,HST.out,hEx.kept hg10 (Or.inr (own_ne_ownK hEx hOx (by decide)))⟩
      · rw [List.getD_eq_getElem?_getD,List.getElem?_set_ne (by omega),←List.getD_eq_getElem?_getD];obtain ⟨s9,a9,n9,c9,e1,e2,e3⟩:=(HC8.out i (by omega)).ext hC;exact ⟨s9,a9,n9,c9,e1,e2,e3.kept hg10 (Or.inr (own_ne_ownK e3 hOx (by decide)))⟩
     case measure=>simp [intOf]; omega
  · have hkn:n=k:=by omega
    subst hkn;have hTO:TmO wr w.heap.size (some ⟨G,0,none⟩) n n (actT xs ts):=⟨rs,hO,by rw [actT_len]; exact HLN.out,HC.out⟩;have htx:∀ t∈actT xs ts,t.1.length≤570:=by
     rintro t ht;obtain ⟨u,hu,rfl⟩:=List.mem_map.1 ht;exact HSA.out u hu
    have hmake:=qh (poly_Make (vars:=(vn:Int)) (hT.ext hEw) hTO.sl htx (by omega) (fun _ _ _=>by rw [HMK.out.2]; exact HOK.out));have q0:=hE.cell q00;have q1:=hE.cell q01;clear hTO htx hO HC
    go_wp2_with fail
    refine hmake.out.mono ?_;rintro e w5 hq5;have h3:RetA3 wr RQ e w5:=by
     rcases hq5 with ⟨h1,_⟩|⟨_,_,h1,_⟩|⟨_,_,_,h1⟩
     · exact absurd ⟨by omega,by omega⟩ h1
     · exact absurd HMK.out.1 h1
     · rw [HMK.out.2,HRQ.out] at h1;exact h1
    obtain ⟨a7,n7,c7,rfl,hE7,hO7⟩:=h3;have hR7:=hR2.ext (hE.trans hE7);have hpv:polyV RQ.1 a7 n7 c7 = .agg #[.int .i64 RQ.1, .slice a7 n7 c7]:=rfl;rw [hpv];have hpl:(polyL RQ.1 a7 n7 c7).toArray=#[.int .i64 RQ.1, .slice a7 n7 c7]:=rfl;clear hmake
    go_wp2_with (refine wl_stArr (vs:=polyL RQ.1 a7 n7 c7) rfl rfl rfl rfl rfl agg_Poly hR7 rfl (polyL_one _ _ _ _) ?_; intro w9 hB9 hg9)
    refine bodyPost_ret (res_ct rfl agg_Poly rfl rfl hB9) rfl ?_;exact retP_end hEw hE7 hO7 hR7 hg9 (by omega)
theorem group_ApplyV {vn n c cx:Nat} {x a:Option Addr} {xs:List Int} {ts t:List Tx} {l:List Pl.Tm} {w:World} {v err:Int} (h:actA vn xs (rdP (vn:Int) ts)=(v,t,err)) (hT:Tabs w) (ha:TmSl w a n c ts) (hx:SlI w x vn cx xs) (hp:permB xs=true) (hr:rdP (vn:Int) ts=some l) (sa:∀ t∈ts,t.1.length≤570) (hok:SumOK (actL vn xs l)) :
 Calls Tryz.prog 14 #[.slice x vn cx, .agg #[.int .i64 (vn:Int), .slice a n c]] w (RetV w v t err) :=
 (group_Apply hT hx hp ha hr sa hok).mono fun e w' h'=>by
  rw [hr] at h;rw [h] at h';exact RetP.v h'
theorem take_snocB (s:ByteArray) (k:Nat) (h:k<s.size):(strL s).take (k+1)=(strL s).take k ++ [s[k]]:=by
 unfold strL;rw [List.take_succ_eq_append_getElem (by simpa using h)];rfl
theorem rat_digitsValue {s:ByteArray} {w:World} (hd:W.digs (strL s)) (hl:s.size≤9) :
 Calls Tryz.prog 89 #[.string s] w fun e w'=>e = .returned (.int .i64 ((W.decV (strL s):Nat):Int))∧w'=w:=by
 have HD:=qh hd;have hls:(strL s).length=s.size:=strL_len s;have HL:=qh hls;clear hls hd
 go_enter Tryz.func89,Tryz.ntmps89
 go_wp2
 go_loop [3,7] (fun nv iv=>∃ k m:Nat,k≤s.size∧iv = .int .i64 k∧nv = .int .i64 (m:Int)∧m<10^k∧Hid (m=W.decV ((strL s).take k))) (fun _ iv=>s.size-(intOf iv).toNat)
 case atStart=>exact ⟨0,0,Nat.zero_le _,rfl,rfl,by decide,qh rfl⟩
 case round =>
  obtain ⟨k,m,hk,rfl,rfl,hm,HM⟩:=hrel;by_cases hlt:k<s.size
  · have hts:=take_snocB s k hlt
    have hc:W.isDig s[k]:=HD.out _ (by
     have:s[k]∈(strL s).take (k+1):=by rw [hts]; simp
     exact List.mem_of_mem_take this)
    have hc1:48≤s[k].toNat:=hc.1;have hc2:s[k].toNat≤57:=hc.2;have HN:Hid (W.decV ((strL s).take (k+1))=10*m+(s[k].toNat-48)):=qh (by rw [hts,W.decV_snoc,HM.out]);have hpow:10^k≤10^8:=Nat.pow_le_pow_right (by omega) (by omega)
    have hmb:(m:Int)<100000000:=by have:(10:Nat)^8=100000000:=by decide
                                   omega
    have hp1:10^(k+1)=10*10^k:=by rw [Nat.pow_succ,Nat.mul_comm]
    have HP:=qh (And.intro hm hp1);generalize hck:s[k].toNat=ck at *
    clear hts hc hpow hm hp1;go_wp2;go_round
    case rel=>exact ⟨k+1,10*m+(ck-48),by omega,by go_num,by congr 1; omega,by have:=HP.out; omega,qh (by rw [HN.out])⟩
    case measure=>simp [intOf]; omega
  · have hks:k=s.size:=by omega
    subst hks;have HE:Hid (m=W.decV (strL s)):=qh (by rw [HM.out,List.take_of_length_le (by rw [HL.out]; exact Nat.le_refl _)]);go_wp2;go_ret;refine ⟨?_,rfl⟩;show Ending.returned (.int .i64 (m:Int))=_;rw [HE.out]
theorem rat_gcdI {x y:Nat} {w:World} (hx:x≤9223372036854775807) (hy:y≤9223372036854775807) :
 Calls Tryz.prog 90 #[.int .i64 (x:Int), .int .i64 (y:Int)] w fun e w'=>e = .returned (.int .i64 ((Nat.gcd x y:Nat):Int))∧Qt w w':=by
 go_enter Tryz.func90,Tryz.ntmps90
 go_wp2
 go_loopw [0,1] (fun av bv wr=>∃ a b:Nat,av = .int .i64 (a:Int)∧bv = .int .i64 (b:Int)∧a≤9223372036854775807∧b≤9223372036854775807∧Hid (Nat.gcd a b=Nat.gcd x y)∧Qt w wr) (fun _ bv _=>(intOf bv).toNat)
 case atStart=>exact ⟨x,y,rfl,rfl,hx,hy,qh rfl,Qt.refl _⟩
 case round =>
  obtain ⟨a,b,rfl,rfl,ha,hb,HG,hQ⟩:=hrel;by_cases hb0:b=0
  · have HE:Hid (a=Nat.gcd x y):=qh (by rw [←HG.out,hb0,Nat.gcd_zero_right]);subst hb0;go_wp2;go_ret;refine ⟨?_,hQ⟩;show Ending.returned (.int .i64 (a:Int))=_;rw [HE.out]
  · have hbn:((b:Int) != 0)=true:=by simp; omega
    have hbe:((b:Int) == 0)=false:=by simp; omega
    have hb1:(0:Int)<(b:Int):=by omega
    have HE:Hid (Nat.gcd b (a%b)=Nat.gcd x y):=qh (by rw [←HG.out,Nat.gcd_comm b,←Nat.gcd_rec,Nat.gcd_comm]);have hlt:a%b<b:=Nat.mod_lt _ (by omega);go_wp2
    go_quiet (fail)
    go_wp2;go_roundw
    case rel=>exact ⟨b,a%b,rfl,by first | rfl | (congr 1),hb,by omega,HE,hQ.drewN _⟩
    case measure=>simp [intOf]; omega
def ShQ (l:List UInt8) (n:Int) (d:Nat):Prop:=readQ l=some (mkRat n d)∧n.natAbs<1000000000∧0<d∧d<1000000000
theorem agg_short:Agg Tryz.prog 81 2:=⟨by kernel_rfl,by kernel_rfl⟩
def shL (n d:Int):List Value:=[.int .i64 n, .int .i64 d]
theorem shL_one (n d:Int):∀ v∈shL n d,v.oneCell'=true:=by
 intro v hv;simp only [shL,List.mem_cons,List.not_mem_nil,or_false] at hv;rcases hv with rfl|rfl <;> rfl
def RetSh (w:World) (l:List UInt8) (e:Ending) (w':World):Prop:=Ext w w'∧((∃ n d,e = .returned (.tuple #[.agg (shL n (d:Nat)).toArray, .bool true])∧ShQ l n d)∨e = .returned (.tuple #[.agg (shL 0 0).toArray, .bool false]))
theorem rat_readShort {s:ByteArray} {w:World} (hs:s.size≤1000000):Calls Tryz.prog 47 #[.string s] w (RetSh w (strL s)):=by
 have hsp:=fun (wx:World)=>qh (rat_split s wx hs);obtain ⟨⟨⟨neg,num,den⟩,ok⟩,hP⟩:∃ P,splitP (strL s)=P:=⟨_,rfl⟩;simp only [hP] at hsp;have HP:=qh hP;have hfl:(fracL neg num den).toArray=#[.bool neg, .string ⟨num.toArray⟩, .string ⟨den.toArray⟩]:=rfl;have hsl:(shL 0 0).toArray=#[.int .i64 0, .int .i64 0]:=rfl;clear hP
 go_enter Tryz.func47,Tryz.ntmps47
 go_upto_region 1 with (fail)
 refine box1 ?_;intro w0 hE0 hB0 hz0;have hR:Arr w0 w.heap.size 81 (shL 0 0):=hB0;clear hB0 hz0;by_cases h20:(20:Int)<(s.size:Int)
 · go_wp2_with (refine wl_stArr (vs:=shL 0 0) rfl rfl rfl rfl rfl agg_short hR rfl (shL_one _ _) ?_; intro w9 hB9 hg9)
   refine bodyPost_ret (res_ct rfl agg_short rfl rfl hB9) rfl ?_;exact ⟨hE0.grownR hg9 (Nat.le_refl _),Or.inr rfl⟩
 · go_wp2_with fail
   refine (hsp _).out.mono ?_;rintro e w1 ⟨rfl,hE1⟩;have hY:=Arr.new w1 85 (fracL false [] [])
   go_upto_region 4 with (refine wl_stArr (vs:=fracL neg num den) rfl rfl rfl rfl rfl agg_frac hY rfl (fracL_one _ _ _) ?_; intro w2 hB2 hg2)
   have hE2:Ext w1 w2:=((Ext.refl w1).alloc _).grownR hg2 (Nat.le_refl _);have hR2:=(hR.ext hE1).ext hE2;have hEw:=(hE0.trans hE1).trans hE2;have f0:=hB2.c 0 rfl;have f1:=hB2.c 1 rfl;have f2:=hB2.c 2 rfl;clear hY hg2 hR hE1 hE2 hsp;cases ok with
   | false =>
    go_wp2_with (refine wl_stArr (vs:=shL 0 0) rfl rfl rfl rfl rfl agg_short hR2 rfl (shL_one _ _) ?_; intro w9 hB9 hg9)
    refine bodyPost_ret (res_ct rfl agg_short rfl rfl hB9) rfl ?_;exact ⟨hEw.grownR hg9 (Nat.le_refl _),Or.inr rfl⟩
   | true =>
    have hS:=split_spl HP.out;by_cases hn9:(9:Int)<(num.length:Int)
    · clear hS
      go_wp2_with (refine wl_stArr (vs:=shL 0 0) rfl rfl rfl rfl rfl agg_short hR2 rfl (shL_one _ _) ?_; intro w9 hB9 hg9)
      refine bodyPost_ret (res_ct rfl agg_short rfl rfl hB9) rfl ?_;exact ⟨hEw.grownR hg9 (Nat.le_refl _),Or.inr rfl⟩
    · by_cases hd9:(9:Int)<(den.length:Int)
      · clear hS
        go_wp2_with (refine wl_stArr (vs:=shL 0 0) rfl rfl rfl rfl rfl agg_short hR2 rfl (shL_one _ _) ?_; intro w9 hB9 hg9)
        refine bodyPost_ret (res_ct rfl agg_short rfl rfl hB9) rfl ?_;exact ⟨hEw.grownR hg9 (Nat.le_refl _),Or.inr rfl⟩
      · have hdn:=qh (rat_digitsValue (s:=⟨num.toArray⟩) (w:=w2) (by rw [strL_mk]; exact hS.dn) (by show num.toArray.size≤9; simp; omega));rw [strL_mk] at hdn;have HS:=qh hS;clear hS
        go_wp2_with fail
        refine hdn.out.mono ?_;rintro e w3 ⟨rfl,hw3⟩;subst hw3;have hN:W.decV num<1000000000:=by
         have h1:=W.decV_lt HS.out.dn;have h2:10^num.length≤10^9:=Nat.pow_le_pow_right (by omega) (by omega);have h3:(10:Nat)^9=1000000000:=by decide
         omega
        have hDd:W.decV den<1000000000:=by
         have h1:=W.decV_lt HS.out.dd;have h2:10^den.length≤10^9:=Nat.pow_le_pow_right (by omega) (by omega);have h3:(10:Nat)^9=1000000000:=by decide
         omega
        obtain ⟨o,HO⟩:∃ o,Hid (readQ (strL s)=o∧o=if den=[] then some (mkRat (if neg=true then -((W.decV num:Nat):Int) else ((W.decV num:Nat):Int)) 1) else if (if neg=true then -((W.decV num:Nat):Int) else ((W.decV num:Nat):Int)).natAbs.gcd (W.decV den)=1 then some (mkRat (if neg=true then -((W.decV num:Nat):Int) else ((W.decV num:Nat):Int)) (W.decV den)) else none):=⟨_,qh ⟨rfl,by unfold readQ; simp [HP.out]⟩⟩;have hdd:=fun (wx:World)=>qh (rat_digitsValue (s:=⟨den.toArray⟩) (w:=wx) (by rw [strL_mk]; exact HS.out.dd) (by show den.toArray.size≤9; simp; omega));rw [strL_mk] at hdd
        generalize W.decV num=N at *
        have hY:=Arr.new w3 81 (shL 0 0);have hl1:(shL (N:Int) 1).toArray=#[.int .i64 (N:Int), .int .i64 1]:=rfl;clear hdn
        go_upto_region 7 with (refine wl_stArr (vs:=shL (N:Int) 1) rfl rfl rfl rfl rfl agg_short hY rfl (shL_one _ _) ?_; intro w4 hB4 hg4)
        have hE4:Ext w3 w4:=((Ext.refl w3).alloc _).grownR hg4 (Nat.le_refl _);have hEw4:=hEw.trans hE4;have hR4:=hR2.ext hE4;have hF4:=hB2.ext hE4;have f0:=hE4.cell f0;have f2:=hE4.cell f2;have hXR:w.heap.size<w3.heap.size:=hR2.lt;clear hY hg4 hE4 hl1;by_cases hde:den=[]
        · have HQ:Hid (o=some (mkRat (if neg=true then -(N:Int) else (N:Int)) 1)):=qh (by rw [HO.out.2,if_pos hde]);clear hdd;subst hde;cases neg with
          | false =>
           have q0:=hB4.c 0 rfl;have q1:=hB4.c 1 rfl;have hl2:(shL (N:Int) 1).toArray=#[.int .i64 (N:Int), .int .i64 1]:=rfl
           go_wp2_with (refine wl_stArr (vs:=shL (N:Int) 1) rfl rfl rfl rfl rfl agg_short hR4 rfl (shL_one _ _) ?_; intro w9 hB9 hg9)
           refine bodyPost_ret (res_ct rfl agg_short rfl rfl hB9) rfl ?_;exact ⟨hEw4.grownR hg9 (Nat.le_refl _),Or.inl ⟨(N:Int),1,rfl,(by first | exact ⟨by rw [HO.out.1,HQ.out]; rfl,by omega,by omega,by omega⟩ | exact ⟨by rw [HO.out.1,HQ.out]; simp,by omega,by omega,by omega⟩)⟩⟩
          | true =>
           have q0:=hB4.c 0 rfl;have hnw:IntKind.i64.wrap (-(N:Int)) = -(N:Int):=IntWalk.i64_in _ (by omega)
           go_upto_region 13 with (refine wl_stSub rfl rfl [.int .i64 (-(N:Int))] (shL (-(N:Int)) 1) (by kernel_rfl) rfl rfl rfl hB4 (by simp [shL]) (by simp [Value.oneCell']) rfl ?_; intro w8 hB8 hg8)
           have hE8:=hEw4.grownR hg8 (Nat.le_of_lt hXR);have hR8:=hR4.kept hg8 (by simp; omega);clear q0 hnw;have q0:=hB8.c 0 rfl;have q1:=hB8.c 1 rfl;have hl2:(shL (-(N:Int)) 1).toArray=#[.int .i64 (-(N:Int)), .int .i64 1]:=rfl
           go_wp2_with (refine wl_stArr (vs:=shL (-(N:Int)) 1) rfl rfl rfl rfl rfl agg_short hR8 rfl (shL_one _ _) ?_; intro w9 hB9 hg9)
           refine bodyPost_ret (res_ct rfl agg_short rfl rfl hB9) rfl ?_;exact ⟨hE8.grownR hg9 (Nat.le_refl _),Or.inl ⟨(-(N:Int)),1,rfl,(by first | exact ⟨by rw [HO.out.1,HQ.out]; rfl,by omega,by omega,by omega⟩ | exact ⟨by rw [HO.out.1,HQ.out]; simp,by omega,by omega,by omega⟩)⟩⟩
        · have hdb:den.isEmpty=false:=by cases den with | nil=>exact absurd rfl hde | cons _ _=>rfl
          have hD0:0<W.decV den:=by
           refine Nat.pos_of_ne_zero fun h0 => ?_;have h1:=W.dec_of_digs HS.out.dd hde (fun c r e h=>absurd (by rw [e,h]; rfl) HS.out.nd);rw [h0,W.dec_zero] at h1;exact HS.out.nd (by rw [←h1]; rfl)
          have HQ:Hid (o=if (if neg=true then -(N:Int) else (N:Int)).natAbs.gcd (W.decV den)=1 then some (mkRat (if neg=true then -(N:Int) else (N:Int)) (W.decV den)) else none):=qh (by rw [HO.out.2,if_neg hde])
          go_wp2_with fail
          refine (hdd _).out.mono ?_;rintro e w5 ⟨rfl,hw5⟩;subst hw5;clear hdd hde;generalize W.decV den=D at *
          go_upto_region 9 with (refine wl_stSub rfl rfl [.int .i64 (D:Int)] (shL (N:Int) (D:Int)) (by kernel_rfl) rfl rfl rfl hB4 (by simp [shL]) (by simp [Value.oneCell']) rfl ?_; intro w6 hB6 hg6)
          have hE6:=hEw4.grownR hg6 (Nat.le_of_lt hXR);have hR6:=hR4.kept hg6 (by simp; omega);have hFX:w1.heap.size<w3.heap.size:=hB2.lt;have hF6:=hF4.kept hg6 (by simp; omega);have q0:=hB6.c 0 rfl;have q1:=hB6.c 1 rfl;have hgc:=qh (rat_gcdI (x:=N) (y:=D) (w:=w6) (by omega) (by omega))
          have HGQ:Hid (Nat.gcd N D=1→o=some (mkRat (if neg=true then -(N:Int) else (N:Int)) D)):=qh (fun h=>by
           rw [HQ.out,if_pos]
           cases neg <;> simpa using h)
          generalize Nat.gcd N D=G at *
          clear hg6 hR4 hB4 HQ
          go_wp2_with fail
          refine hgc.out.mono ?_;rintro e w7 ⟨rfl,hQ⟩;have hE7:=hE6.trans hQ.ext;have hR7:=hR6.ext hQ.ext;have hB7:=hB6.ext hQ.ext;have hF7:=hF6.ext hQ.ext;clear hgc q0 q1 hE6 hR6 hB6 hF6 hQ;by_cases hg1:G=1
          · have HG1:=qh (HGQ.out hg1);have hgb:((G:Int) != 1)=false:=by simp [hg1]
            have f0:=hF7.c 0 rfl;clear hg1 HGQ;cases neg with
            | false =>
             have q0:=hB7.c 0 rfl;have q1:=hB7.c 1 rfl;have hl2:(shL (N:Int) (D:Int)).toArray=#[.int .i64 (N:Int), .int .i64 (D:Int)]:=rfl
             go_wp2_with (refine wl_stArr (vs:=shL (N:Int) (D:Int)) rfl rfl rfl rfl rfl agg_short hR7 rfl (shL_one _ _) ?_; intro w9 hB9 hg9)
             refine bodyPost_ret (res_ct rfl agg_short rfl rfl hB9) rfl ?_;exact ⟨hE7.grownR hg9 (Nat.le_refl _),Or.inl ⟨(N:Int),D,rfl,(by first | exact ⟨by rw [HO.out.1,HG1.out]; rfl,by omega,by omega,by omega⟩ | exact ⟨by rw [HO.out.1,HG1.out]; simp,by omega,by omega,by omega⟩)⟩⟩
            | true =>
             have q0:=hB7.c 0 rfl;have hnw:IntKind.i64.wrap (-(N:Int)) = -(N:Int):=IntWalk.i64_in _ (by omega)
             go_upto_region 13 with (refine wl_stSub rfl rfl [.int .i64 (-(N:Int))] (shL (-(N:Int)) (D:Int)) (by kernel_rfl) rfl rfl rfl hB7 (by simp [shL]) (by simp [Value.oneCell']) rfl ?_; intro w8 hB8 hg8)
             have hE8:=hE7.grownR hg8 (Nat.le_of_lt hXR);have hR8:=hR7.kept hg8 (by simp; omega);clear q0 hnw;have q0:=hB8.c 0 rfl;have q1:=hB8.c 1 rfl;have hl2:(shL (-(N:Int)) (D:Int)).toArray=#[.int .i64 (-(N:Int)), .int .i64 (D:Int)]:=rfl
             go_wp2_with (refine wl_stArr (vs:=shL (-(N:Int)) (D:Int)) rfl rfl rfl rfl rfl agg_short hR8 rfl (shL_one _ _) ?_; intro w9 hB9 hg9)
             refine bodyPost_ret (res_ct rfl agg_short rfl rfl hB9) rfl ?_;exact ⟨hE8.grownR hg9 (Nat.le_refl _),Or.inl ⟨(-(N:Int)),D,rfl,(by first | exact ⟨by rw [HO.out.1,HG1.out]; rfl,by omega,by omega,by omega⟩ | exact ⟨by rw [HO.out.1,HG1.out]; simp,by omega,by omega,by omega⟩)⟩⟩
          · have hgb:((G:Int) != 1)=true:=by simp; omega
            clear hg1 HGQ
            go_wp2_with (refine wl_stArr (vs:=shL 0 0) rfl rfl rfl rfl rfl agg_short hR7 rfl (shL_one _ _) ?_; intro w9 hB9 hg9)
            refine bodyPost_ret (res_ct rfl agg_short rfl rfl hB9) rfl ?_;exact ⟨hE7.grownR hg9 (Nat.le_refl _),Or.inr rfl⟩
theorem rat_Valid {s:ByteArray} {w:World} (hT:Tabs w) (hs:s.size≤570):Calls Tryz.prog 17 #[.string s] w fun e w'=>e = .returned (.bool (readQ (strL s)).isSome)∧Ext w w':=by
 have hrs:=fun (wx:World)=>qh (rat_readShort (s:=s) (w:=wx) (by omega));have hsp:=rat_split s;obtain ⟨⟨⟨neg,num,den⟩,ok⟩,hP⟩:∃ P,splitP (strL s)=P:=⟨_,rfl⟩;simp only [hP] at hsp;have hfl:(fracL neg num den).toArray=#[.bool neg, .string ⟨num.toArray⟩, .string ⟨den.toArray⟩]:=rfl;rw [hfl] at hsp;obtain ⟨B,HB⟩:∃ B,Hid ((readQ (strL s)).isSome=B):=⟨_,qh rfl⟩;rw [HB.out]
 have HF:Hid (ok=false→B=false):=qh fun h=>by
  rw [←HB.out];unfold readQ;simp [hP,h]
 have HK:Hid (ok=true→W.digs num∧W.digs den∧num.length≤570∧den.length≤570∧B=if den=[] then true else decide (Nat.gcd (W.decV num) (W.decV den)=1)):=qh fun h=>by
  subst h;have hS:=split_spl hP;have h1:=congrArg List.length hS.eq;rw [strL_len] at h1;simp only [List.length_append] at h1;refine ⟨hS.dn,hS.dd,by omega, ?_, ?_⟩
  · by_cases h:den=[]
    · simp [h]
    · rw [if_neg h] at h1;simp at h1;omega
  · rw [←HB.out];unfold readQ;simp only [hP];have hz:(if neg=true then -((W.decV num:Nat):Int) else ((W.decV num:Nat):Int)).natAbs=W.decV num:=by split <;> omega
    by_cases h:den=[]
    · simp [h]
    · simp only [h,if_false];rw [hz];by_cases hg:Nat.gcd (W.decV num) (W.decV den)=1 <;> simp [hg]
 clear hP
 go_enter Tryz.func17,Tryz.ntmps17
 go_wp2_with fail
 refine (hrs _).out.mono ?_;rintro e w1 ⟨hE1,⟨n,d,rfl,hq⟩|rfl⟩
 · have hl:(shL n (d:Nat)).toArray=#[.int .i64 n, .int .i64 (d:Int)]:=rfl;have hY:=Arr.new w1 81 (shL 0 0);have HQ:Hid (B=true):=qh (by rw [←HB.out,hq.1]; rfl)
   go_upto_region 2 with (refine wl_stArr (vs:=shL n (d:Nat)) rfl rfl rfl rfl rfl agg_short hY rfl (shL_one _ _) ?_; intro w2 hB2 hg2)
   have hE2:=hE1.trans (((Ext.refl w1).alloc _).grownR hg2 (Nat.le_refl _));clear hB2 hg2 hY;go_wp2;go_ret;exact ⟨by rw [HQ.out]; rfl,hE2⟩
 · have hl:(shL 0 0).toArray=#[.int .i64 0, .int .i64 0]:=rfl;have hY:=Arr.new w1 81 (shL 0 0)
   go_upto_region 2 with (refine wl_stArr (vs:=shL 0 0) rfl rfl rfl rfl rfl agg_short hY rfl (shL_one _ _) ?_; intro w2 hB2 hg2)
   have hE2:=hE1.trans (((Ext.refl w1).alloc _).grownR hg2 (Nat.le_refl _));clear hB2 hg2 hY hE1 hrs
   go_wp2_with fail
   refine (hsp w2 (by omega)).mono ?_;rintro e w3 ⟨rfl,hE3⟩;have hY3:=Arr.new w3 85 (fracL false [] [])
   go_upto_region 5 with (refine wl_stArr (vs:=fracL neg num den) rfl rfl rfl rfl rfl agg_frac hY3 rfl (fracL_one _ _ _) ?_; intro w4 hB4 hg4)
   have hEw:=(hE2.trans hE3).trans (((Ext.refl w3).alloc _).grownR hg4 (Nat.le_refl _));obtain ⟨F,hF⟩:∃ F,w3.heap.size=F:=⟨_,rfl⟩;rw [hF] at hB4 ⊢;have c1:=hB4.c 1 rfl;have c2:=hB4.c 2 rfl;clear hB4 hg4 hY3 hE2 hE3 hF hsp;cases ok with
   | false =>
    have HQ:=qh (HF.out rfl);go_wp2;go_ret;exact ⟨by rw [HQ.out]; rfl,hEw⟩
   | true =>
    obtain ⟨d1,d2,l1,l2,hBB⟩:=HK.out rfl;by_cases hd:den=[]
    · subst hd;rw [if_pos rfl] at hBB;have HQ:=qh hBB;clear hBB d1 d2 l1 l2;go_wp2;go_ret;exact ⟨by rw [HQ.out]; rfl,hEw⟩
    · have hdb:den.isEmpty=false:=by cases den with | nil=>exact absurd rfl hd | cons _ _=>rfl
      rw [if_neg hd] at hBB;have HQ:=qh hBB;have hp1:=fun wx=>qh (int_Parse (s:=⟨num.toArray⟩) (w:=wx) (by rw [strL_mk]; exact d1) (by show num.toArray.size≤_; simpa using l1));have hp2:=fun wx=>qh (int_Parse (s:=⟨den.toArray⟩) (w:=wx) (by rw [strL_mk]; exact d2) (by show den.toArray.size≤_; simpa using l2));rw [strL_mk] at hp1 hp2;have b1:=digs_P2 d1 l1;have b2:=digs_P2 d2 l2;have hgc:=fun (wx:World) (v v':Value) (hC:Ext w wx) (h:IntR wx v ((W.decV num:Nat):Int)) (h':IntR wx v' ((W.decV den:Nat):Int))=>qh (int_GCD (hT.ext hC) h h' (P2_lt b1 (by omega)) (P2_lt b2 (by omega)))
      simp only [Int.natAbs_natCast] at hgc;have hio:=fun (wx:World) (v:Value) (h:IntR wx v ((Nat.gcd (W.decV num) (W.decV den):Nat):Int))=>qh (int_IsOne (r:=decide (Nat.gcd (W.decV num) (W.decV den)=1)) h (decide_eq_decide.2 (by omega)));clear hBB hd d1 d2 l1 l2 b1 b2
      go_upto_region 7 with (fail)
      have HF1:=fun (wx:World) (hC:Ext w4 wx)=>qh (And.intro (hC.cell c1) (hC.cell c2))
      refine wp_region_typed2 (by kernel_rfl) (fun wx=>Ext w4 wx)
       [he (.pointer (some ⟨F,1,none⟩)),
 he (.string ⟨num.toArray⟩),
 hp (fun v wx=>NI ((W.decV num:Nat):Int) v wx),
 he (.pointer (some ⟨F,2,none⟩)),
 he (.string ⟨den.toArray⟩),
 hp (fun v wx=>NI ((W.decV den:Nat):Int) v wx),
 hp (fun v wx=>NI ((Nat.gcd (W.decV num) (W.decV den):Nat):Int) v wx),
 hp (fun v wx=>v = .bool (decide (Nat.gcd (W.decV num) (W.decV den)=1)))]
       (by kernel_rfl) (fun _ _ e h=>h.trans e) ((Ext.refl w4).drew) ⟨trivial,trivial,NI.x _,trivial,trivial,NI.x _,NI.x _,fun _ _ _ _ h=>h,trivial⟩ ⟨?o0, ?o1, ?o2, ?o3, ?o4, ?o5, ?o6, ?o7,trivial⟩ ?fin
      case o0=>exact ofa (d:=1) rfl rfl (fun _ _=>id) (by kernel_rfl) rfl
      case o1=>exact ol rfl rfl (fun _ _=>id) (by kernel_rfl) (by assumption)
      case o2 =>
       refine obl_cq rfl fun ρ wx hC hcst hfn h => ?_;have e1:ρ (.tmp 27)=(.string ⟨num.toArray⟩):=h.2.1;obtain ⟨k1,k2⟩:=(HF1 wx hC).out;refine ⟨49,#[.string ⟨num.toArray⟩],by go_simp,((hp1 wx).out).mono ?_⟩;rintro e w' ⟨s,a,n,c,rfl,hE',h1,h2⟩;exact ⟨_,rfl,hE',s,a,n,c,rfl,h1,h2⟩
      case o3=>exact ofa (d:=2) rfl rfl (fun _ _=>id) (by kernel_rfl) rfl
      case o4=>exact ol rfl rfl (fun _ _=>id) (by kernel_rfl) (by assumption)
      case o5 =>
       refine obl_cq rfl fun ρ wx hC hcst hfn h => ?_;have e1:ρ (.tmp 30)=(.string ⟨den.toArray⟩):=h.2.1;obtain ⟨k1,k2⟩:=(HF1 wx hC).out;refine ⟨49,#[.string ⟨den.toArray⟩],by go_simp,((hp2 wx).out).mono ?_⟩;rintro e w' ⟨s,a,n,c,rfl,hE',h1,h2⟩;exact ⟨_,rfl,hE',s,a,n,c,rfl,h1,h2⟩
      case o6 =>
       refine obl_cq rfl fun ρ wx hC hcst hfn h => ?_;obtain ⟨v1,e1,s1,a1,n1,c1',rfl,i1,j1⟩:=h.2.1;obtain ⟨v2,e2,s2,a2,n2,c2',rfl,i2,j2⟩:=h.2.2.1;obtain ⟨k1,k2⟩:=(HF1 wx hC).out;refine ⟨50,#[.agg (intL s1 a1 n1 c1').toArray, .agg (intL s2 a2 n2 c2').toArray],by go_simp,((hgc wx _ _ (hEw.trans hC) ⟨s1,a1,n1,c1',rfl,i1,j1⟩ ⟨s2,a2,n2,c2',rfl,i2,j2⟩).out).mono ?_⟩;rintro e w' ⟨s,a,n,c,rfl,hE',h1,h2⟩;exact ⟨_,rfl,hE',s,a,n,c,rfl,h1,h2⟩
      case o7 =>
       refine obl_cq rfl fun ρ wx hC hcst hfn h => ?_;obtain ⟨v1,e1,s1,a1,n1,c1',rfl,i1,j1⟩:=h.2.1;obtain ⟨k1,k2⟩:=(HF1 wx hC).out;refine ⟨51,#[.agg (intL s1 a1 n1 c1').toArray],by go_simp,((hio wx _ ⟨s1,a1,n1,c1',rfl,i1,j1⟩).out).mono ?_⟩;rintro e w' ⟨rfl,hE'⟩;exact ⟨_,rfl,hE',rfl⟩
      case fin =>
       intro wx hC;rintro _ ⟨_,_,_,_,rfl,_,_⟩;rintro _ ⟨_,_,_,_,rfl,_,_⟩;rintro _ ⟨_,_,_,_,rfl,_,_⟩;rintro _ rfl;change wpList _ _ _ _ _ _;simp only [List.length_cons,List.length_nil,List.drop_succ_cons,List.drop_zero,Act.put,List.setIfInBounds_toArray,List.set_cons_succ,List.set_cons_zero];go_wp2;go_ret;exact ⟨by rw [HQ.out]; rfl,hEw.trans hC⟩
theorem keep_Short {a:Option Addr} {n c m:Nat} {xs:List (List UInt8)} {w:World} (hx:StrSl w a n c xs) :
 Calls Tryz.prog 10 #[.int .i64 (m:Int), .slice a n c] w fun e w'=>e = .returned (.bool (xs.all (fun x=>decide (x.length≤m))))∧w=w':=by
 obtain ⟨cs,hS,hl,hq⟩:=hx;have hm:n≤maxLen:=Nat.le_trans hS.cap hS.max;unfold maxLen at hm;have HL:=qh hl;have HQ:=qh hq;clear hl hq
 go_enter Tryz.func10,Tryz.ntmps10
 go_wp2
 go_loop [5] (fun i=>∃ k:Nat,k≤n∧i = .int .i64 k∧(xs.take k).all (fun x=>decide (x.length≤m))=true) (fun i=>n-(intOf i).toNat)
 case atStart=>exact ⟨0,Nat.zero_le _,rfl,rfl⟩
 case round =>
  obtain ⟨k,hk,rfl,hp⟩:=hrel;have HP:=qh hp;clear hp;by_cases hlt:k<n
  · obtain ⟨b,off,rfl,hcl⟩:=hS.rd (by omega);obtain ⟨s,hcs,hst⟩:=HQ.out k hlt;have c0:=hcl k hlt;rw [hcs] at c0;have HS:Hid ((xs.getD k []).length=s.size):=qh (by rw [←hst,strL_len]);clear hst hcl hcs;by_cases hq:(m:Int)<(s.size:Int)
    · go_wp2;go_ret;refine ⟨retB ?_,rfl⟩;rw [all_no (k:=k) (by have:=HL.out; omega) (by rw [HS.out]; simp; omega)]
    · go_wp2;go_round
      case rel=>exact ⟨k+1,by omega,by go_num,all_step (by have:=HL.out; omega) HP.out (by rw [HS.out]; simp; omega)⟩
      case measure=>simp [intOf]; omega
  · go_wp2;go_ret;refine ⟨retB ?_,rfl⟩;have h1:=HP.out
    rwa [List.take_of_length_le (by have:=HL.out; omega)] at h1
theorem P2_27:10^8≤P2 27:=by unfold P2; decide
theorem P2_num {k n:Nat} (m:Nat) (h:n≤2^m) (hk:m=k):n≤P2 k:=by rw [←hk]; exact h
section
variable {va vb vc:Int} {ta tb tc:List Tx}
theorem Bd8 {v:Int} {ts:List Tx} {l:List Pl.Tm} (h:rdP v ts=some l) (hs:smallP ts 4 8):Bd v 4 97 124 l:=Bd.of h hs (by omega) P2_27
structure RingS (va vb vc v3 v4 v5:Int) (ta tb tc t3 t4 t5:List Tx):Prop where
 v:va=vb∧va=vc∧va=v3∧va=v4∧va=v5
 comm:mulA vb va (rdP vb tb) (rdP va ta)=(v3,t3,0)
 deg:0<ta.length→0<tb.length→degP v3 t3=degP va ta+degP vb tb
 x3:∀ t∈t3,t.1.length≤570
 x4:∀ t∈t4,t.1.length≤570
 x5:∀ t∈t5,t.1.length≤570
 assoc:mulA v3 vc (rdP v3 t3) (rdP vc tc)=mulA va v4 (rdP va ta) (rdP v4 t4)
 m3:∀ la lb,rdP v3 t3=some la→rdP vc tc=some lb→v3=vc→MulOK la lb
 m4:∀ la lb,rdP va ta=some la→rdP v4 t4=some lb→va=v4→MulOK la lb
 m5:∀ la lb,rdP va ta=some la→rdP v5 t5=some lb→va=v5→MulOK la lb
 dist:∀ v6 t6 v7 t7,mulA va vc (rdP va ta) (rdP vc tc)=(v6,t6,0)→mulA va v5 (rdP va ta) (rdP v5 t5)=(v7,t7,0) →
  addA v3 v6 (rdP v3 t3) (rdP v6 t6)=(v7,t7,0)∧(∀ t∈t6,t.1.length≤570)∧∀ la lb,rdP v3 t3=some la→rdP v6 t6=some lb→v3=v6→SumOK (la ++ lb)
theorem mul_fact {v:Int} {t:List Tx} (h:mulA va vb (rdP va ta) (rdP vb tb)=(v,t,0)):∃ la lb,rdP va ta=some la∧rdP vb tb=some lb∧va=vb∧v=va∧rdP v t=some (cnP (Pl.prodT la lb)):=by
 obtain ⟨la,lb,h1,h2,h3,_,h5⟩:=mulA_ok (by rw [h]);rw [h] at h5;have pa:=Pv.of h1;have pb:Pv va lb:=by rw [h3]; exact Pv.of h2
 obtain ⟨g1,g2⟩:=resQ_ok pa.v0 (prod_InV pa.inv pb.inv) (by rw [←h5]);rw [←h5] at g1 g2;simp only at g1 g2;refine ⟨la,lb,h1,h2,h3,g1, ?_⟩;rw [g1]; exact g2
end
end Go.Proofs.YtlpgonpfjbhmfaaGreatDoor
