/- Part Gan29. -/
import Derived.Test.YtlpgonpfjbhmfaaGreatDoorGan28
set_option maxRecDepth 100000
set_option maxHeartbeats 100000000
namespace Go.Proofs.YtlpgonpfjbhmfaaGreatDoor
open Go Go.RowKit
def rowZ (sa sb:Nat) (s:Pl.Tm) (b:List Pl.Tm):List Pl.Tm:=b.map (fun t=>(Pl.plE s.1 t.1,((Pl.zsc s.2 sa*Pl.zsc t.2 sb:Int):Rat)))
theorem prodZ_take {sa sb:Nat} {a b:List Pl.Tm} {k:Nat} (h:k<a.length):Pl.prodZ sa sb (a.take (k+1)) b=Pl.prodZ sa sb (a.take k) b ++ rowZ sa sb (a.getD k ([],0)) b:=by
 unfold Pl.prodZ rowZ;rw [List.take_succ_eq_append_getElem h,List.flatMap_append];simp [List.getD_eq_getElem?_getD,h]
theorem rowZ_take {sa sb:Nat} {s:Pl.Tm} {b:List Pl.Tm} {k:Nat} (h:k<b.length):rowZ sa sb s (b.take (k+1))=rowZ sa sb s (b.take k) ++ [(Pl.plE s.1 (b.getD k ([],0)).1,((Pl.zsc s.2 sa*Pl.zsc (b.getD k ([],0)).2 sb:Int):Rat))]:=by
 unfold rowZ;rw [List.take_succ_eq_append_getElem h,List.map_append];simp [List.getD_eq_getElem?_getD,h]
theorem prodZ_len {sa sb:Nat} {a b:List Pl.Tm}:(Pl.prodZ sa sb a b).length=a.length*b.length:=by
 unfold Pl.prodZ
 induction a with
 | nil=>simp
 | cons t r ih=>rw [List.flatMap_cons,List.length_append,ih]; simp [Nat.add_mul]; omega
theorem rowZ_len {sa sb:Nat} {s:Pl.Tm} {b:List Pl.Tm}:(rowZ sa sb s b).length=b.length:=by simp [rowZ]
theorem zsc_bnd {q:Rat} {k b d:Nat} (hq:Pl.RB b q) (hk:k<P2 d):(Pl.zsc q k).natAbs<P2 (b+d):=by
 unfold Pl.zsc;rw [Int.natAbs_mul,Int.natAbs_natCast];exact P2_mul hq.1 (Nat.lt_of_le_of_lt (Nat.div_le_self _ _) hk)
def SmP (w2:World) (r:Nat) (p:List Pl.Tm) (wr:World):Prop:=∃ fs,SumsIs w2 r (300+40*p.length) fs wr∧Hid (∀ e,Pl.coef (lqF fs) e=Pl.coef p e)∧fs.length≤p.length
def SmI (w2 w4:World) (H0 r:Nat) (p:List Pl.Tm) (wr:World):Prop:=∃ fs,SumsIs w2 r (300+40*p.length) fs wr∧Hid (∀ e,Pl.coef (lqF fs) e=Pl.coef p e)∧fs.length≤p.length∧Hid (Gap H0 w4.heap.size fs)∧Hid (Keep H0 w4 wr)
theorem ratC_src {w w':World} {s:Bool} {a b:Option Addr} {n c m d:Nat} {q:Rat} (h:RatC w (ratL s a n c false b m d) q) (hs:w.heap.size≤w'.heap.size):SrcR (fun g=>g<w'.heap.size) (.agg (ratL s a n c false b m d).toArray):=by
 obtain ⟨s1,a1,n1,c1,b1,m1,d1,e,_,h2,_⟩:=h;intro s2 a2 n2 c2 b2 m2 d2 e2 h0 g hg;simp only [ratL,intL,Value.agg.injEq,Array.mk.injEq,List.cons_append,List.nil_append,List.cons.injEq,Value.bool.injEq,Value.slice.injEq,and_true,true_and] at e e2;obtain ⟨_,⟨ea,en,ec⟩,_⟩:=e;obtain ⟨_,⟨ea',en',ec'⟩,_⟩:=e2;subst ea' en' ec';subst ea en ec;obtain ⟨xs,h3,_⟩:=h2;obtain ⟨bb,o,rfl,hc⟩:=h3.at (j:=0) h0;have:bb=g:=by simpa [blk] using hg
 subst this;exact Nat.lt_of_lt_of_le (World.block_lt_of_cell? w ⟨bb,o+0,none⟩ (hc 0 h0)) hs
theorem wd_src {w w':World} {a:Option Addr} {n c x:Nat} (h:Wd w a n c x) (hs:w.heap.size≤w'.heap.size):0<n→∀ g,blk a=some g→g<w'.heap.size:=by
 intro h0 g hg;obtain ⟨xs,h3,_⟩:=h;obtain ⟨bb,o,rfl,hc⟩:=h3.at (j:=0) h0;have:bb=g:=by simpa [blk] using hg
 subst this;exact Nat.lt_of_lt_of_le (World.block_lt_of_cell? w ⟨bb,o+0,none⟩ (hc 0 h0)) hs
def outF (d:Nat) (fs:SF):List Pl.Tm:=(lzF fs).map (fun f=>(f.1,mkRat f.2 d))
theorem outF_len (d:Nat) (fs:SF):(outF d fs).length=fs.length:=by simp [outF,lzF]
theorem outF_keys (d:Nat) (fs:SF):(outF d fs).map (·.1)=fs.map (·.1):=by simp [outF,lzF]
theorem outF_get {d:Nat} {fs:SF} {i:Nat} {f:List Int×SumF} (h:fs[i]?=some f):(outF d fs).getD i ([],0)=(f.1,mkRat f.2.z d):=by
 unfold outF lzF;rw [List.getD_eq_getElem?_getD,List.getElem?_map,List.getElem?_map,h];rfl
theorem P2_succ_lt (a:Nat):P2 a<P2 (a+1):=by
 rw [P2_add];have:=P2_pos a;show P2 a<P2 a*2;omega
theorem sums_bnd {sa sb:Nat} {la lb:List Pl.Tm} {fs:SF} (ba:∀ t∈la,Pl.RB 1000 t.2) (bb:∀ t∈lb,Pl.RB 1000 t.2) (hsa:sa<P2 257) (hsb:sb<P2 257) (hn:(fs.map (·.1)).Nodup) (hc:∀ e,Pl.coef (lqF fs) e=Pl.coef (Pl.prodZ sa sb la lb) e) (hl:la.length*lb.length≤1000000) {f:List Int×SumF} (hf:f∈fs):f.2.z.natAbs<P2 2600:=by
 have h1:∀ t∈Pl.prodZ sa sb la lb,∃ c:Int,t.2=(c:Rat)∧c.natAbs≤P2 2514:=by
  intro t ht;unfold Pl.prodZ at ht;obtain ⟨s,hs,ht⟩:=List.mem_flatMap.1 ht;obtain ⟨u,hu,rfl⟩:=List.mem_map.1 ht;refine ⟨_,rfl,Nat.le_of_lt ?_⟩;rw [Int.natAbs_mul];exact P2_lt (P2_mul (zsc_bnd (ba s hs) hsa) (zsc_bnd (bb u hu) hsb)) (by omega)
 obtain ⟨z,h2,h3⟩:=Pl.coef_int f.1 h1;have h4:Pl.coef (lqF fs) f.1=(f.2.z:Rat):=by
  have hm:(f.1,(f.2.z:Rat))∈lqF fs:=List.mem_map.2 ⟨(f.1,f.2.z),List.mem_map.2 ⟨f,hf,rfl⟩,rfl⟩;exact Pl.coef_mem (t:=(f.1,(f.2.z:Rat))) (by rw [lqF_keys]; exact hn) hm
 have h5:f.2.z=z:=by
  rw [hc,h2] at h4;exact (Rat.intCast_inj.1 h4).symm
 rw [h5];rw [prodZ_len] at h3;have h6:la.length*lb.length*P2 2514≤P2 20*P2 2514:=Nat.mul_le_mul_right _ (Nat.le_trans hl (by unfold P2; omega));rw [←P2_add] at h6
 exact P2_lt (Nat.lt_of_le_of_lt (Nat.le_trans h3 h6) (by
  exact P2_succ_lt _)) (by omega)
def NSl (e:List Int) (q:Rat) (v:Value) (w:World):Prop:=∃ Z s a n c b m d,v = .slice (some ⟨Z,0,none⟩) 1 1∧Arr w Z 111 (entL e s a n c b m d)∧RatC w (ratL s a n c false b m d) q
theorem NSl.x (e:List Int) (q:Rat):StX (NSl e q):=fun _ _ _ x ⟨Z,s,a,n,c,b,m,d,h1,h2,h3⟩=>⟨Z,s,a,n,c,b,m,d,h1,h2.ext x,h3.ext x⟩
def Out4 (w w5:World) (r it g c:Nat) (l:List Pl.Tm) (v:Value) (wr:World):Prop :=
 ∃ seen n rows,v = .slice (some ⟨g,0,none⟩) n c∧Ext w5 wr∧IterIs wr it r l.length seen∧seen.Nodup∧(∀ i∈seen,i<l.length)∧OwnU wr w.heap.size 111 10 g n c rows ∧
  (Pl.picked l seen).length=n∧Hid (∀ i,i<n→EntC wr (rows.getD i []) ((Pl.picked l seen).getD i ([],0)))
theorem poly_productScaled {A B:Option Addr} {N C M D sa sb:Nat} {la lb:List Pl.Tm} {v v':Value} {w:World} (hT:Tabs w) (hLa:EntSl w A N C la) (hLb:EntSl w B M D lb) (hva:IntR w v (sa:Int)) (hvb:IntR w v' (sb:Int))
 (ha:∀ t∈la,t.2.den∣sa) (hb:∀ t∈lb,t.2.den∣sb) (ha0:sa≠0) (hb0:sb≠0) (ba:∀ t∈la,Pl.RB 1000 t.2) (bb:∀ t∈lb,Pl.RB 1000 t.2) (hsa:sa<P2 257) (hsb:sb<P2 257) (ea:smallE la) (eb:smallE lb) (hN:N≤1000000) (hM:M≤1000000) (hNM:N*M≤1000000) :
 Calls Tryz.prog 86 #[.slice A N C, .slice B M D,v,v'] w (fun e w'=>∃ out,RetOw w out e w'∧Pl.Nrm out∧∀ e,Pl.coef out e=Pl.coef (Pl.prodT la lb) e):=by
 obtain ⟨s,a,n,c,rfl,HS,hx⟩:=hva;obtain ⟨t,b,m,d,rfl,HT,hy⟩:=hvb;obtain ⟨rowsA,hSA,hlA,hRA⟩:=hLa;obtain ⟨rowsB,hSB,hlB,hRB⟩:=hLb;have HRA:=qh hRA;have HRB:=qh hRB;have HLA:=qh hlA;have HLB:=qh hlB;have HDV:=qh (And.intro ha hb);have HBA:=qh ba;have HBB:=qh bb;have HEA:=qh ea;have HEB:=qh eb;have HSA:=qh hsa;have HSB:=qh hsb;have HZ0:=qh (And.intro ha0 hb0);clear hRA hRB hlA hlB ha hb ba bb ea eb hsa hsb ha0 hb0
 go_enter Tryz.func86,Tryz.ntmps86
 go_upto_region 1 with (fail)
 refine box2 ?_;intro w0 hE0 hB0 hB1 hz0;have p00:=hB0.c 0 rfl;have p01:=hB0.c 1 rfl;have p10:=hB1.c 0 rfl;have p11:=hB1.c 1 rfl;clear hB0 hB1 hz0;have hnu0:nuR (List.replicate M (intL false none 0 0)):=fun r hr u hu=>by rw [(List.mem_replicate.1 hr).2] at hu; exact intL_nu _ _ _ _ u hu
 go_upto_region 2 with (refine wl_mkK rfl rfl (by kernel_rfl) elem_Int rfl rfl (by omega) (by unfold maxLen; omega) ?_; intro w1 hO1 hE1)
 have hO1':=hO1.mono hE0.size;obtain ⟨R,hR⟩:∃ R,w0.heap.size=R:=⟨_,rfl⟩;rw [hR] at hO1' ⊢;clear hO1;go_wp2
 go_loopw [30] (fun iv wr=>∃ (k:Nat) (rs:List (List Value)),iv = .int .i64 k∧k≤M∧Ext w0 wr∧OwnK wr w.heap.size 90 2 (some ⟨R,0,none⟩) M M rs∧nuR rs∧Hid (∀ i,i<k→IntC wr (rs.getD i []) (Pl.zsc (lb.getD i ([],0)).2 sb))) (fun iv _=>M-(intOf iv).toNat)
 case atStart=>exact ⟨0,_,rfl,Nat.zero_le _,hE1,hO1',hnu0,qh (fun i hi=>absurd hi (by omega))⟩
 case round =>
  clear hO1' hE1 hnu0;obtain ⟨k,rs,rfl,hk,hE,hO,hnu,HCk⟩:=hrel;by_cases hlt:k<M
  · have hSw:=hSB.ext (hE0.trans hE);obtain ⟨bb,off,rfl,_⟩:=hSw.rd (by omega);obtain ⟨sy,ay,ny,cy,by_,my,dy,hrow,h6,hrc⟩:=HRB.out k hlt;have HTB:Hid (Pl.RB 1000 (lb.getD k ([],0)).2):=qh (HBB.out _ (by simp [List.getD_eq_getElem?_getD,HLB.out,hlt]));obtain ⟨tt,htt⟩:∃ tt,lb.getD k ([],0)=tt:=⟨_,rfl⟩;rw [htt] at hrow h6 hrc HTB;have HTT:=qh htt;clear htt;obtain ⟨te,tq⟩:=tt;obtain ⟨y0,y1,y2,y3,y4,y5,h6e⟩:=six_of h6;simp only at h6e hrow hrc HTB;subst h6e;have hY:=Arr.new wr 111 (entL [0,0,0,0,0,0] false none 0 0 none 0 0)
    go_upto_region 5 with (first
     | (refine wl_ldK rfl rfl agg_entry rfl hSw hlt ?_; rw [hrow])
     | (refine wl_stArr (vs:=entL [y0,y1,y2,y3,y4,y5] sy ay ny cy by_ my dy) rfl rfl rfl rfl rfl agg_entry hY rfl entL_one ?_; intro w3 hB3 hg3))
    have hE3:Ext wr w3:=((Ext.refl wr).alloc _).grownR hg3 (Nat.le_refl _);have hO3:=hO.ext hE3;have HC3:Hid (∀ i,i<k→IntC w3 (rs.getD i []) (Pl.zsc (lb.getD i ([],0)).2 sb)):=qh fun i hi=>(HCk.out i hi).ext hE3;have hE0w:=hE.trans hE3;have hEww:=hE0.trans hE0w;have HRL:=qh (hO3.len (by omega));have hU3:=hO3.noU hnu
    have hscl:=qh (rat_Scaled (w:=w3) (v := .agg #[.bool sy, .slice ay ny cy, .bool false, .slice by_ my dy]) (q:=tq) ⟨ratL sy ay ny cy false by_ my dy,rfl,hrc.ext hEww⟩ (v' := .agg #[.bool t, .slice b m d]) (k:=sb) ⟨t,b,m,d,rfl,HT,hy.ext hEww⟩ (P2_lt HTB.out.1 (by omega)) (P2_lt HTB.out.2 (by omega)) (P2_lt HSB.out (by omega)));have r10:=hE0w.cell p10;have r11:=hE0w.cell p11;clear hY hg3 hO hE hE3 hrow h6 hSw HCk hrc;generalize wr.heap.size=X at *
    have c0:=hB3.c 0 rfl;have c6:=hB3.c 6 rfl;have c7:=hB3.c 7 rfl;have c8:=hB3.c 8 rfl;have c9:=hB3.c 9 rfl;clear hB3
    go_wp2_with fail
    refine hscl.out.mono ?_;rintro e w5 ⟨s5,a5,n5,c5,rfl,hE5,HS5,hx5⟩;have hO5:=hO3.ext hE5;have hU5:=hU3.ext (hO3.lt (g:=R) rfl).2 hE5;have hl5:(intL s5 a5 n5 c5).toArray=#[.bool s5, .slice a5 n5 c5]:=rfl
    go_wp2_with (refine wl_stK (vs:=intL s5 a5 n5 c5) rfl rfl (by omega) agg_Int rfl rfl rfl hO5 hlt rfl (intL_one _ _ _ _) ?_; intro w6 hO6 hg6)
    go_roundw
    case rel =>
     refine ⟨k+1,_,by go_num,by omega,(hE0w.trans hE5).grownR hg6 (by omega),hO6, ?_,qh fun i hi => ?_⟩
     · intro r hr u hu;rcases List.mem_or_eq_of_mem_set hr with h|h
       · exact hnu r h u hu
       · rw [h] at hu; exact intL_nu _ _ _ _ u hu
     · by_cases hik:i=k
       · subst hik;rw [HTT.out,List.getD_eq_getElem?_getD,List.getElem?_set_self (by rw [HRL.out]; exact hlt)];exact IntC.keptU ⟨s5,a5,n5,c5,rfl,HS5,hx5⟩ hU5 hg6
       · rw [List.getD_eq_getElem?_getD,List.getElem?_set_ne (by omega),←List.getD_eq_getElem?_getD];exact ((HC3.out i (by omega)).ext hE5).keptU hU5 hg6
    case measure=>simp [intOf]; omega
  · have hkn:k=M:=by omega
    subst hkn;have hEw2:=hE0.trans hE;have hRs:=hO.slk (by omega);have hRlt:R<wr.heap.size:=(hO.lt (g:=R) rfl).2;have q00:=hE.cell p00;have q01:=hE.cell p01;have q10:=hE.cell p10;have q11:=hE.cell p11;clear p00 p01 p10 p11 hE hO hnu hlt hk;obtain ⟨w2,rfl⟩:∃ x:World,x=wr:=⟨_,rfl⟩;have HRC:=HCk;clear HCk
    go_upto_region 8 with (refine wl_mkMap rfl rfl ?_; intro w3 hM3 hE3 hlt3)
    have hS0:SumsIs w2 w2.heap.size 300 [] w3:=⟨hE3,Nat.le_refl _,hM3,(fun f hf=>by cases hf),(fun i j f g _ hf=>by simp at hf)⟩;clear hM3 hE3 hlt3;go_wp2
    go_loopw [46] (fun iv wr=>∃ i:Nat,iv = .int .i64 i∧i≤N∧SmP w2 w2.heap.size (Pl.prodZ sa sb (la.take i) lb) wr) (fun iv _=>N-(intOf iv).toNat)
    case atStart=>exact ⟨0,rfl,Nat.zero_le _,[],hS0,qh (fun e=>rfl),Nat.zero_le _⟩
    case round =>
     clear hS0;obtain ⟨i,rfl,hi,fs0,hSm0,HC0,hfl0⟩:=hrel;by_cases hlt:i<N
     · have hE2r:=hSm0.ext;have hSw:=hSA.ext (hEw2.trans hE2r);obtain ⟨bb,off,rfl,_⟩:=hSw.rd (by omega);obtain ⟨sx,ax,nx,cx,bx,mx,dx,hrow,h6,hrc⟩:=HRA.out i hlt
       have HTB:Hid (Pl.RB 1000 (la.getD i ([],0)).2∧∀ x∈(la.getD i ([],0)).1,0≤x∧x≤1099511627776):=qh (by
        have hm:la.getD i ([],0)∈la:=by simp [List.getD_eq_getElem?_getD,HLA.out,hlt]
        exact ⟨HBA.out _ hm,(HEA.out _ hm).2⟩)
       have HPT:=qh (prodZ_take (sa:=sa) (sb:=sb) (a:=la) (b:=lb) (k:=i) (by rw [HLA.out]; exact hlt));generalize la.getD i ([],0)=ts at *
       obtain ⟨te,tq⟩:=ts;obtain ⟨x0,x1,x2,x3,x4,x5,h6e⟩:=six_of h6;simp only at h6e hrow hrc HTB;subst h6e;obtain ⟨pre,HPR⟩:∃ p,Hid (Pl.prodZ sa sb (la.take i) lb=p):=⟨_,qh rfl⟩;have HPL:Hid (pre.length=i*k):=qh (by rw [←HPR.out,prodZ_len,HLB.out,List.length_take,HLA.out,Nat.min_eq_left hi]);have hik:i*k≤1000000:=Nat.le_trans (Nat.mul_le_mul_right k hi) hNM;have hik2:i*k+k≤1000000:=by
        have:(i+1)*k≤N*k:=Nat.mul_le_mul_right k hlt;rw [Nat.add_mul] at this;omega
       rw [HPR.out] at HC0 hfl0 hSm0;rw [HPR.out] at HPT;have hY:=Arr.new wr 111 (entL [0,0,0,0,0,0] false none 0 0 none 0 0)
       go_upto_region 11 with (first
        | (refine wl_ldK rfl rfl agg_entry rfl hSw hlt ?_; rw [hrow])
        | (refine wl_stArr (vs:=entL [x0,x1,x2,x3,x4,x5] sx ax nx cx bx mx dx) rfl rfl rfl rfl rfl agg_entry hY rfl entL_one ?_; intro w5 hB5 hg5))
       have hE5:Ext wr w5:=((Ext.refl wr).alloc _).grownR hg5 (Nat.le_refl _);have hE25:=hE2r.trans hE5;have hEw5:=hEw2.trans hE25;have HSC:=qh (rat_ScaledF (S:=fun g=>g<w2.heap.size) (w:=w5) (v := .agg #[.bool sx, .slice ax nx cx, .bool false, .slice bx mx dx]) (q:=tq) ⟨ratL sx ax nx cx false bx mx dx,rfl,hrc.ext hEw5⟩ (v' := .agg #[.bool s, .slice a n c]) (k:=sa) ⟨s,a,n,c,rfl,HS,hx.ext hEw5⟩ (P2_lt HTB.out.1.1 (by omega)) (P2_lt HTB.out.1.2 (by omega)) (P2_lt HSA.out (by omega)) (ratC_src hrc hEw2.size) (srcV_of (s:=s) (wd_src hx hEw2.size)));have u00:=hE25.cell q00;have u01:=hE25.cell q01
       have hXlt:wr.heap.size<w5.heap.size:=hB5.lt;have hrlt:w2.heap.size<wr.heap.size:=hSm0.map.lt;obtain ⟨X,hX⟩:∃ x,wr.heap.size=x:=⟨_,rfl⟩;rw [hX] at hB5 hrlt;rw [hX];have xc0:=hB5.c 0 rfl;have xc6:=hB5.c 6 rfl;have xc7:=hB5.c 7 rfl;have xc8:=hB5.c 8 rfl;have xc9:=hB5.c 9 rfl;clear hY hg5 hrow h6 hSw hrc
       go_wp2_with fail
       refine HSC.out.mono ?_;rintro e w6 ⟨s6,a6,n6,c6,rfl,hE6,HS6,hx6,hf6⟩;have hYL:=Arr.new w6 90 (intL false none 0 0);have hl6:(intL s6 a6 n6 c6).toArray=#[.bool s6, .slice a6 n6 c6]:=rfl
       go_upto_region 12 with (refine wl_stArr (vs:=intL s6 a6 n6 c6) rfl rfl rfl rfl rfl agg_Int hYL rfl (intL_one _ _ _ _) ?_; intro w7 hB7 hg7)
       have hE67:Ext w6 w7:=((Ext.refl w6).alloc _).grownR hg7 (Nat.le_refl _);have hE57:=hE6.trans hE67;have hEr7:=hE5.trans hE57;have hE27:=hE2r.trans hEr7;have hBX:=hB5.ext hE57;have hSm7:=hSm0.step hEr7;have hx7:=hx6.ext hE67;have hs56:=hE6.size;have HGap:Hid (Gap X w7.heap.size fs0):=qh (fun f hf b hb=>Or.inl (by have:=(hSm0.lt hf hb).2; omega));have HSRC:Hid (0<n6→∀ g,blk a6=some g→X≤g∨g<w2.heap.size):=qh (fun h0 g hg=>(hf6 h0 g hg).imp (fun h=>by omega) id)
       have HSR1:Hid (0<n6→∀ g,blk a6=some g→(X≤g∧g<w7.heap.size)∨g<w2.heap.size):=qh (fun h0 g hg=>(HSRC.out h0 g hg).imp (fun h=>⟨h,wd_src hx7 (Nat.le_refl _) h0 g hg⟩) id);obtain ⟨LB,hLB⟩:∃ x,w6.heap.size=x:=⟨_,rfl⟩;rw [hLB] at hB7;rw [hLB];have hLX:X≤LB:=by omega
       have HBZ:=qh (zsc_bnd HTB.out.1 HSA.out);clear hYL hg7 hl6 HSC hE5 hE6 hE67 hE57 hEr7 hB5 u00 u01 xc0 xc6 xc7 xc8 xc9 hE25 hEw5 hSm0 hE2r hx6 hs56 hf6 hXlt;obtain ⟨wo,rfl⟩:∃ x:World,x=wr:=⟨_,rfl⟩;go_wp2
       go_loopw [56] (fun iv wr=>∃ j:Nat,iv = .int .i64 j∧j≤k∧SmI w2 w7 X w2.heap.size (pre ++ rowZ sa sb ([x0,x1,x2,x3,x4,x5],tq) (lb.take j)) wr) (fun iv _=>k-(intOf iv).toNat)
       case atStart=>exact ⟨0,rfl,Nat.zero_le _,fs0,by simpa [rowZ] using hSm7,by simpa [rowZ] using HC0,by simpa [rowZ] using hfl0,HGap,qh (Keep.refl _ _)⟩
       case round =>
        clear hSm7 HGap HC0 hfl0;obtain ⟨j,rfl,hj,fs,hSm,HC,hfl,HG,HKp⟩:=hrel;by_cases hlj:j<k
        · have hE2r:=hSm.ext;have hSw:=hSB.ext (hEw2.trans hE2r);obtain ⟨bb2,off2,rfl,_⟩:=hSw.rd (by omega);obtain ⟨sy,ay,ny,cy,by_,my,dy,hrow,h6,_⟩:=HRB.out j hlj
          have HTE:Hid (∀ x∈(lb.getD j ([],0)).1,0≤x∧x≤1099511627776):=qh (by
           have hm:lb.getD j ([],0)∈lb:=by simp [List.getD_eq_getElem?_getD,HLB.out,hlj]
           exact (HEB.out _ hm).2)
          have HBY:Hid ((Pl.zsc (lb.getD j ([],0)).2 sb).natAbs<P2 (1000+257)):=qh (zsc_bnd (HBB.out _ (by simp [List.getD_eq_getElem?_getD,HLB.out,hlj])) HSB.out);have HRT:=qh (rowZ_take (sa:=sa) (sb:=sb) (s:=([x0,x1,x2,x3,x4,x5],tq)) (b:=lb) (k:=j) (by rw [HLB.out]; exact hlj));obtain ⟨sr,ar,nr,cr,hrr,HSr,hxr⟩:=HRC.out j hlj;obtain ⟨b3,o3,e3,hc3⟩:=(hRs.ext hE2r).rd (by omega);simp only [Option.some.injEq,Addr.mk.injEq,and_true] at e3;obtain ⟨rfl,rfl⟩:=e3;have rr0:=hc3 j hlj 0 (by omega);have rr1:=hc3 j hlj 1 (by omega);rw [hrr] at rr0 rr1
          have rr0':wr.cell? ⟨R,j*2,none⟩=some (.bool sr):=by simpa [intL] using rr0
          have rr1':wr.cell? ⟨R,j*2+1,none⟩=some (.slice ar nr cr):=by simpa [intL] using rr1
          generalize lb.getD j ([],0)=tt at *
          obtain ⟨te,ty⟩:=tt;obtain ⟨y0,y1,y2,y3,y4,y5,h6e⟩:=six_of h6;simp only at h6e hrow HTE HRT HBY hxr HSr;subst h6e;have hXa:=HKp.out.arr hBX (Nat.le_refl _);have hLa:=HKp.out.arr hB7 hLX;have hks:=HKp.out.1;clear rr0 rr1 hc3 hrr;have hY:=Arr.new wr 111 (entL [0,0,0,0,0,0] false none 0 0 none 0 0)
          go_upto_region 15 with (first
           | (refine wl_ldK rfl rfl agg_entry rfl hSw hlj ?_; rw [hrow])
           | (refine wl_stArr (vs:=entL [y0,y1,y2,y3,y4,y5] sy ay ny cy by_ my dy) rfl rfl rfl rfl rfl agg_entry hY rfl entL_one ?_; intro w8 hB8 hg8))
          have hE8:Ext wr w8:=((Ext.refl wr).alloc _).grownR hg8 (Nat.le_refl _);have hXa8:=hXa.ext hE8;obtain ⟨X2,hX2⟩:∃ x,wr.heap.size=x:=⟨_,rfl⟩;rw [hX2] at hB8;rw [hX2];have xc0:=hXa8.c 0 rfl;have yc0:=hB8.c 0 rfl;have xc1:=hXa8.c 1 rfl;have yc1:=hB8.c 1 rfl;have xc2:=hXa8.c 2 rfl;have yc2:=hB8.c 2 rfl;have xc3:=hXa8.c 3 rfl;have yc3:=hB8.c 3 rfl;have xc4:=hXa8.c 4 rfl;have yc4:=hB8.c 4 rfl;have xc5:=hXa8.c 5 rfl;have yc5:=hB8.c 5 rfl;have HPLS:=fun wx:World=>qh (exps_plus (w:=wx) (xs:=[x0,x1,x2,x3,x4,x5]) (ys:=[y0,y1,y2,y3,y4,y5]) rfl rfl HTB.out.2 HTE.out)
          have hk1:keyV [x0,x1,x2,x3,x4,x5] = .agg #[.int .i64 x0, .int .i64 x1, .int .i64 x2, .int .i64 x3, .int .i64 x4, .int .i64 x5]:=rfl;have hk2:keyV [y0,y1,y2,y3,y4,y5] = .agg #[.int .i64 y0, .int .i64 y1, .int .i64 y2, .int .i64 y3, .int .i64 y4, .int .i64 y5]:=rfl;have hk3:keyV (plusE [x0,x1,x2,x3,x4,x5] [y0,y1,y2,y3,y4,y5]) = .agg #[.int .i64 (x0+y0), .int .i64 (x1+y1), .int .i64 (x2+y2), .int .i64 (x3+y3), .int .i64 (x4+y4), .int .i64 (x5+y5)]:=rfl;rw [hk1,hk2,hk3] at HPLS;clear hY hg8 hrow h6 hSw hB8 hXa8 hk1 hk2 hk3
          go_wp2_with fail
          refine (HPLS _).out.mono ?_;rintro e w9 ⟨rfl,hE9⟩;have hYe:=Arr.new w9 109 (ze.map (Value.int .i64))
          go_upto_region 16 with (refine wl_stArr (vs:=[x0+y0,x1+y1,x2+y2,x3+y3,x4+y4,x5+y5].map (Value.int .i64)) rfl rfl rfl rfl rfl agg_exps hYe rfl (ints_one _) ?_; intro w10 hB10 hg10)
          have hE910:Ext w9 w10:=((Ext.refl w9).alloc _).grownR hg10 (Nat.le_refl _);have hEr10:=(hE8.trans hE9).trans hE910;have hSm10:=hSm.step hEr10;have HK10:=qh (HKp.out.ext hEr10);have hr0:=hEr10.cell rr0';have hr1:=hEr10.cell rr1';have hLa10:=hLa.ext hEr10;have hs10:=hEr10.size;obtain ⟨Y,hYY⟩:∃ x,w9.heap.size=x:=⟨_,rfl⟩;rw [hYY] at hB10;rw [hYY];have zc0:=hB10.c 0 rfl;have zc1:=hB10.c 1 rfl;have zc2:=hB10.c 2 rfl;have zc3:=hB10.c 3 rfl;have zc4:=hB10.c 4 rfl;have zc5:=hB10.c 5 rfl;have l0:=hLa10.c 0 rfl;have l1:=hLa10.c 1 rfl;have hM10:=hSm10.map
          have hlook:=mapF_look (fs:=fs) (k:=[x0+y0,x1+y1,x2+y2,x3+y3,x4+y4,x5+y5])
          have HSTP:Hid (∀ e,Pl.coef (pre ++ rowZ sa sb ([x0,x1,x2,x3,x4,x5],tq) (lb.take j)) e+Pl.coef [([x0+y0,x1+y1,x2+y2,x3+y3,x4+y4,x5+y5],((Pl.zsc tq sa*Pl.zsc ty sb:Int):Rat))] e=Pl.coef (pre ++ rowZ sa sb ([x0,x1,x2,x3,x4,x5],tq) (lb.take (j+1))) e):=qh (fun e=>by
           rw [HRT.out,←List.append_assoc,Pl.coef_app _ [_]]
           rfl)
          have HLN1:Hid ((pre ++ rowZ sa sb ([x0,x1,x2,x3,x4,x5],tq) (lb.take (j+1))).length=(pre ++ rowZ sa sb ([x0,x1,x2,x3,x4,x5],tq) (lb.take j)).length+1):=qh (by rw [HRT.out]; simp; omega);have hlnb:(pre ++ rowZ sa sb ([x0,x1,x2,x3,x4,x5],tq) (lb.take j)).length≤1000000:=by
           rw [List.length_append,HPL.out,rowZ_len,List.length_take]; omega
          obtain ⟨pj,HPJ⟩:∃ p,Hid (pre ++ rowZ sa sb ([x0,x1,x2,x3,x4,x5],tq) (lb.take j)=p):=⟨_,qh rfl⟩;rw [HPJ.out] at HC hfl hSm10 HSTP HLN1 hlnb;have HN1:=qh hSm10.nodup;have hzx7:=hx7;clear hYe hg10 hB10 hSm HKp hE8 hE9 hE910 HPLS hLa hLa10 hXa rr0' rr1' hE2r xc0 yc0 xc1 yc1 xc2 yc2 xc3 yc3 xc4 yc4 xc5 yc5;cases hpos:Pl.posK [x0+y0,x1+y1,x2+y2,x3+y3,x4+y4,x5+y5] 0 fs with
          | none =>
           rw [hpos] at hlook;have hkn:=posK_none hpos;have HPA:=qh (posK_app (v:=(⟨w10.heap.size,none,none,0⟩:SumF)) hpos);have hZ:=Arr.new w10 149 (sumL none 0 0 none 0 0);have hE11:=(Ext.refl w10).alloc (.cells (sumL none 0 0 none 0 0).toArray 149);have hM11:=hM10.ext hE11
           go_upto_region 17 with (refine wl_lookup (k:=[x0+y0,x1+y1,x2+y2,x3+y3,x4+y4,x5+y5]) rfl rfl und_mapS keyT_exps zero_ptr rfl rfl hM10 rfl ?_; simp only [Bool.false_eq_true,if_false]; rw [hlook])
           have hl0:(sumL none 0 0 none 0 0).toArray=#[.slice none 0 0, .slice none 0 0]:=rfl;rw [hl0] at hE11 hM11 hZ
           go_upto_region 19 with (fail)
           generalize w10.alloc (.cells #[.slice none 0 0, .slice none 0 0] 149)=w11 at *
           have zc0:=hE11.cell zc0;have zc1:=hE11.cell zc1;have zc2:=hE11.cell zc2;have zc3:=hE11.cell zc3;have zc4:=hE11.cell zc4;have zc5:=hE11.cell zc5
           go_upto_region 20 with (refine wl_put rfl (Or.inl rfl) und_mapS keyT_exps (k:=[x0+y0,x1+y1,x2+y2,x3+y3,x4+y4,x5+y5]) (v:=ptrV w10.heap.size) rfl rfl rfl hM11 rfl ?_; intro w12 hM12 hg12)
           have hSm1:=hSm10.new hkn hE11 hZ (Nat.le_refl _) hM12 hg12;have hE1012:Kp (fun b=>b=w2.heap.size) w10 w12:=(Kp.ofExt hE11).trans (Kp.ofGrown hg12 (S:=fun b=>b=w2.heap.size) (fun g hg=>by simpa using hg.symm)) (fun _ _ h=>h);have HK12:Hid (Keep X w7 w12):=qh (HK10.out.kp hE1012 (fun b hb=>Or.inl (by rw [hb]; exact hrlt)));have HG1:=qh (HG.out.new (key:=[x0+y0,x1+y1,x2+y2,x3+y3,x4+y4,x5+y5]) (p:=w10.heap.size) (by omega))
           have HC1:Hid (∀ e,Pl.coef (lqF (fs ++ [([x0+y0,x1+y1,x2+y2,x3+y3,x4+y4,x5+y5],⟨w10.heap.size,none,none,0⟩)])) e=Pl.coef pj e):=qh (fun e=>by rw [lqF_new]; exact HC.out e);have hR2:R<w2.heap.size:=hRlt;have hr0:=hE1012.cell hr0 (by show ¬ R=w2.heap.size; omega);have hr1:=hE1012.cell hr1 (by show ¬ R=w2.heap.size; omega);have l0:=hE1012.cell l0 (by show ¬ LB=w2.heap.size; omega);have l1:=hE1012.cell l1 (by show ¬ LB=w2.heap.size; omega);have hfl1:(fs ++ [([x0+y0,x1+y1,x2+y2,x3+y3,x4+y4,x5+y5],(⟨w10.heap.size,none,none,0⟩:SumF))]).length≤pj.length+1:=by simp; omega
           have hs12:w7.heap.size≤w12.heap.size:=HK12.out.1;obtain ⟨fs1,HF1⟩:∃ f,Hid (fs ++ [([x0+y0,x1+y1,x2+y2,x3+y3,x4+y4,x5+y5],(⟨w10.heap.size,none,none,0⟩:SumF))]=f):=⟨_,qh rfl⟩;obtain ⟨ix,HIX⟩:∃ x,Hid (0+fs.length=x):=⟨_,qh rfl⟩;rw [HF1.out] at hSm1 HG1 HC1 hfl1 HPA;rw [HIX.out] at HPA;have hptr:ptrV w10.heap.size = .pointer (some ⟨w10.heap.size,0,none⟩):=rfl;obtain ⟨sf,hsf⟩:∃ f:SumF,f=⟨w10.heap.size,none,none,0⟩:=⟨_,rfl⟩;rw [←hsf] at HPA;have hpp:w10.heap.size=sf.p:=by rw [hsf]
           rw [hpp] at *
           clear hM10 hM11 hM12 hg12 hZ hE11 hlook hkn hpos hsf hptr hE1012 HK10 HG HC hfl hSm10 zc0 zc1 zc2 zc3 zc4 zc5 HF1 HIX hs10;have hget:=(posK_get _ fs1 0 ix sf HPA.out).2;rw [Nat.sub_zero] at hget;have hmem:=List.mem_of_getElem? hget;have hE2x:=hSm1.ext;have hxL:Wd w12 a6 n6 c6 (Pl.zsc tq sa).natAbs:=HK12.out.wd hzx7 hE27 hE2x HSRC.out;have hxR:=hxr.ext hE2x
           have HSP:=qh (sum_AddProduct (w:=w12.drew) (base:=w2.heap.size) (p:=sf.p) (z:=sf.z) ((hSm1.sums _ hmem).ext (Ext.refl w12).drew) (v := .agg #[.bool s6, .slice a6 n6 c6]) (x:=Pl.zsc tq sa) ⟨s6,a6,n6,c6,rfl,HS6,hxL.ext (Ext.refl w12).drew⟩ (v' := .agg #[.bool sr, .slice ar nr cr]) (y:=Pl.zsc ty sb) ⟨sr,ar,nr,cr,rfl,HSr,hxR.ext (Ext.refl w12).drew⟩
            (srcV_of (s:=s6) fun h0 g hg=>by
             have hcase:=HSR1.out h0 g hg;refine ⟨fun hq => ?_,fun hq => ?_⟩
             · have h1:=hSm1.lt hmem (b:=g) (Or.inr (Or.inl hq));have h2:=HG1.out _ hmem g (Or.inr (Or.inl hq));omega
             · have h1:=hSm1.lt hmem (b:=g) (Or.inr (Or.inr hq));have h2:=HG1.out _ hmem g (Or.inr (Or.inr hq))
               omega)
            (srcV_of (s:=sr) fun h0 g hg=>by
             have hcase:=wd_src hxr (Nat.le_refl _) h0 g hg;refine ⟨fun hq => ?_,fun hq => ?_⟩
             · have h1:=hSm1.lt hmem (b:=g) (Or.inr (Or.inl hq));omega
             · have h1:=hSm1.lt hmem (b:=g) (Or.inr (Or.inr hq))
               omega)
            (P2_lt HBZ.out (by omega)) (P2_lt HBY.out (by omega)) (Or.inl (P2_lt HBZ.out (by omega))) (by omega) (by have:=hE2x.size; exact this))
           have hjk:(j:Int)<k:=by omega
           go_still_tail 6,(by kernel_rfl)
           change wpList _ _ _ _ _ w12.drew
           go_wp2_with fail
           refine HSP.out.mono ?_;rintro e w14 ⟨rfl,qa',qb',h1,h2,h3,h4⟩;have hdz:w12.drew.heap.size=w12.heap.size:=rfl;rw [hdz] at h3 h4;have h2':Kp (fun b=>sf.has b) w12 w14:=⟨h2.os,h2.tape,h2.output,h2.size,h2.block⟩;go_wp2;go_roundw
           case rel =>
            refine ⟨j+1,by go_num,by omega,fs1.set ix ([x0+y0,x1+y1,x2+y2,x3+y3,x4+y4,x5+y5],⟨sf.p,qa',qb',sf.z+Pl.zsc tq sa*Pl.zsc ty sb⟩), ?_,qh fun e => ?_, ?_,qh (HG1.out.add hget hs12 h3 h4),qh (HK12.out.kp h2' (fun b hb=>HG1.out _ hmem b hb))⟩
            · have h5:=hSm1.add hget h1 h2' h3 h4 (by omega);refine h5.le ?_;rw [HLN1.out]; omega
            · rw [lqF_step hSm1.nodup HPA.out,HC1.out,HSTP.out]
            · rw [List.length_set,HLN1.out]; exact hfl1
           case measure=>simp [intOf]; omega
          | some pr =>
           obtain ⟨ix,sf⟩:=pr;rw [hpos] at hlook;have hlook2:lookD (.pointer none) (mapF fs) [x0+y0,x1+y1,x2+y2,x3+y3,x4+y4,x5+y5] = .pointer (some ⟨sf.p,0,none⟩):=hlook
           go_upto_region 17 with (refine wl_lookup (k:=[x0+y0,x1+y1,x2+y2,x3+y3,x4+y4,x5+y5]) rfl rfl und_mapS keyT_exps zero_ptr rfl rfl hM10 rfl ?_; simp only [Bool.false_eq_true,if_false]; rw [hlook2])
           have HPA:=qh hpos;have HC1:=HC;have HG1:=HG;have hSm1:=hSm10;have HK12:=HK10;have hfl1:fs.length≤pj.length+1:=by omega
           have hs12:w7.heap.size≤w10.heap.size:=HK10.out.1;obtain ⟨w12,rfl⟩:∃ x:World,x=w10:=⟨_,rfl⟩;obtain ⟨fs1,rfl⟩:∃ x,x=fs:=⟨_,rfl⟩;clear hM10 hlook hlook2 hpos HK10 HG HC hfl hSm10 zc0 zc1 zc2 zc3 zc4 zc5 hs10
           go_wp2_with fail
           have hget:=(posK_get _ fs1 0 ix sf HPA.out).2;rw [Nat.sub_zero] at hget;have hmem:=List.mem_of_getElem? hget;have hE2x:=hSm1.ext;have hxL:Wd w12 a6 n6 c6 (Pl.zsc tq sa).natAbs:=HK12.out.wd hzx7 hE27 hE2x HSRC.out;have hxR:=hxr.ext hE2x
           have HSP:=qh (sum_AddProduct (w:=w12.drew) (base:=w2.heap.size) (p:=sf.p) (z:=sf.z) ((hSm1.sums _ hmem).ext (Ext.refl w12).drew) (v := .agg #[.bool s6, .slice a6 n6 c6]) (x:=Pl.zsc tq sa) ⟨s6,a6,n6,c6,rfl,HS6,hxL.ext (Ext.refl w12).drew⟩ (v' := .agg #[.bool sr, .slice ar nr cr]) (y:=Pl.zsc ty sb) ⟨sr,ar,nr,cr,rfl,HSr,hxR.ext (Ext.refl w12).drew⟩
            (srcV_of (s:=s6) fun h0 g hg=>by
             have hcase:=HSR1.out h0 g hg;refine ⟨fun hq => ?_,fun hq => ?_⟩
             · have h1:=hSm1.lt hmem (b:=g) (Or.inr (Or.inl hq));have h2:=HG1.out _ hmem g (Or.inr (Or.inl hq));omega
             · have h1:=hSm1.lt hmem (b:=g) (Or.inr (Or.inr hq));have h2:=HG1.out _ hmem g (Or.inr (Or.inr hq))
               omega)
            (srcV_of (s:=sr) fun h0 g hg=>by
             have hcase:=wd_src hxr (Nat.le_refl _) h0 g hg;refine ⟨fun hq => ?_,fun hq => ?_⟩
             · have h1:=hSm1.lt hmem (b:=g) (Or.inr (Or.inl hq));omega
             · have h1:=hSm1.lt hmem (b:=g) (Or.inr (Or.inr hq))
               omega)
            (P2_lt HBZ.out (by omega)) (P2_lt HBY.out (by omega)) (Or.inl (P2_lt HBZ.out (by omega))) (by omega) (by have:=hE2x.size; exact this))
           have hjk:(j:Int)<k:=by omega
           go_still_tail 6,(by kernel_rfl)
           change wpList _ _ _ _ _ w12.drew
           go_wp2_with fail
           refine HSP.out.mono ?_;rintro e w14 ⟨rfl,qa',qb',h1,h2,h3,h4⟩;have hdz:w12.drew.heap.size=w12.heap.size:=rfl;rw [hdz] at h3 h4;have h2':Kp (fun b=>sf.has b) w12 w14:=⟨h2.os,h2.tape,h2.output,h2.size,h2.block⟩;go_wp2;go_roundw
           case rel =>
            refine ⟨j+1,by go_num,by omega,fs1.set ix ([x0+y0,x1+y1,x2+y2,x3+y3,x4+y4,x5+y5],⟨sf.p,qa',qb',sf.z+Pl.zsc tq sa*Pl.zsc ty sb⟩), ?_,qh fun e => ?_, ?_,qh (HG1.out.add hget hs12 h3 h4),qh (HK12.out.kp h2' (fun b hb=>HG1.out _ hmem b hb))⟩
            · have h5:=hSm1.add hget h1 h2' h3 h4 (by omega);refine h5.le ?_;rw [HLN1.out]; omega
            · rw [lqF_step hSm1.nodup HPA.out,HC1.out,HSTP.out]
            · rw [List.length_set,HLN1.out]; exact hfl1
           case measure=>simp [intOf]; omega
        · have hje:j=k:=by omega
          subst hje;go_wp2;go_roundw
          case rel =>
           refine ⟨i+1,by go_num,by omega,fs, ?_, ?_, ?_⟩
           · rw [HPT.out]; rw [List.take_of_length_le (by rw [HLB.out]; exact Nat.le_refl _)] at hSm; exact hSm
           · rw [HPT.out]; rw [List.take_of_length_le (by rw [HLB.out]; exact Nat.le_refl _)] at HC; exact HC
           · rw [HPT.out]; rw [List.take_of_length_le (by rw [HLB.out]; exact Nat.le_refl _)] at hfl; exact hfl
          case measure=>simp [intOf]; omega
     · have hiN:i=N:=by omega
       subst hiN;rw [List.take_of_length_le (by rw [HLA.out]; exact Nat.le_refl _)] at hSm0 HC0 hfl0;have hfN:fs0.length≤1000000:=by rw [prodZ_len,HLA.out,HLB.out] at hfl0; omega
       have hN9:300+40*(Pl.prodZ sa sb la lb).length≤100000000:=by rw [prodZ_len,HLA.out,HLB.out]; omega
       have HBN:Hid (∀ f∈fs0,f.2.z.natAbs<P2 2600):=qh (fun f hf=>sums_bnd HBA.out HBB.out HSA.out HSB.out hSm0.nodup HC0.out (by rw [HLA.out,HLB.out]; exact hNM) hf);have hE2r:=hSm0.ext;have hEwr:=hEw2.trans hE2r;have u00:=hE2r.cell q00;have u01:=hE2r.cell q01;have u10:=hE2r.cell q10;have u11:=hE2r.cell q11;have HML:=qh (int_Mul (w:=wr) (v := .agg #[.bool s, .slice a n c]) (z:=(sa:Int)) ⟨s,a,n,c,rfl,HS,hx.ext hEwr⟩ (v' := .agg #[.bool t, .slice b m d]) (y:=(sb:Int)) ⟨t,b,m,d,rfl,HT,hy.ext hEwr⟩ (P2_lt HSA.out (by omega)) (P2_lt HSB.out (by omega)) (Or.inl (P2_lt HSA.out (by omega))))
       rw [←Int.natCast_mul] at HML;have hDB:sa*sb<P2 (257+257):=P2_mul HSA.out HSB.out;have hD0:sa*sb≠0:=Nat.mul_ne_zero HZ0.out.1 HZ0.out.2;have HDB:=qh hDB;clear hDB
       go_wp2_with fail
       refine HML.out.mono ?_;rintro e w4 ⟨s4,a4,n4,c4,rfl,hE4,HS4,hx4⟩;have hYL:=Arr.new w4 90 (intL false none 0 0);have hl4:(intL s4 a4 n4 c4).toArray=#[.bool s4, .slice a4 n4 c4]:=rfl
       go_upto_region 24 with (refine wl_stArr (vs:=intL s4 a4 n4 c4) rfl rfl rfl rfl rfl agg_Int hYL rfl (intL_one _ _ _ _) ?_; intro w5 hB5 hg5)
       have hE45:Ext w4 w5:=((Ext.refl w4).alloc _).grownR hg5 (Nat.le_refl _);have hSm5:=hSm0.step (hE4.trans hE45);have hEw5:=hEwr.trans (hE4.trans hE45);have hx5:=hx4.ext hE45;obtain ⟨DB,hDBe⟩:∃ x,w4.heap.size=x:=⟨_,rfl⟩;rw [hDBe] at hB5;rw [hDBe];have hmlen:(mapF fs0).length=fs0.length:=by simp [mapF]
       have hln:=run_lenMp (P:=Tryz.prog) (ty:=3) und_mapS hSm5.map;rw [hmlen] at hln;have HCB:=HC0;clear hYL hg5 hl4 hE4 hE45 hx4 hSm0 u00 u01 u10 u11 HML HC0 hfl0
       go_upto_region 25 with (refine wl_mk0U (n:=fs0.length) rfl rfl (by kernel_rfl) elem_entry entL_nu rfl rfl (by omega) (by unfold maxLen; omega) ?_; intro w6 hO6 hE6)
       have hM6:=hSm5.map.ext hE6
       go_upto_region 26 with (refine wl_range rfl rfl und_mapS rfl hM6 ?_; intro w7 hI7 hE7 hlt7)
       have hE57:=hE6.trans hE7;rw [hmlen,←outF_len (sa*sb)] at hI7;have hO7:OwnU w7 w.heap.size 111 10 w5.heap.size 0 fs0.length []:=⟨(hO6.1.mono hEw5.size).ext hE7,hO6.2.ext hO6.lt.2 hE7⟩;have hgi:w5.heap.size<w6.heap.size:=hO6.lt.2;have hw5:=hEw5.size;obtain ⟨g,hge⟩:∃ x,w5.heap.size=x:=⟨_,rfl⟩;obtain ⟨it,hit⟩:∃ x,w6.heap.size=x:=⟨_,rfl⟩;rw [hge] at hO7 hgi ⊢;rw [hit] at hI7 hgi ⊢;obtain ⟨MM,hMM⟩:∃ x,fs0.length=x:=⟨_,rfl⟩;rw [hMM] at hO7 hfN ⊢;have HMM:=qh hMM;clear hO6 hE6 hE7 hM6 hln hlt7 hMM
       go_frame
       go_loopw [21] (fun v wr=>Out4 w w5 w2.heap.size it g MM (outF (sa*sb) fs0) v wr) (fun _ wr=>(outF (sa*sb) fs0).length-seenN wr it)
       case atStart=>exact ⟨[],0,[],rfl,hE57,hI7,by simp,by simp,hO7,rfl,qh (fun i hi=>absurd hi (by omega))⟩
       case round =>
        clear hE57 hI7 hO7;obtain ⟨seen,NN,rows,rfl,hE,hI,hsn,hsl,hO,hpl,HEn⟩:=hrel;have hNM2:NN≤seen.length∧seen.length≤(outF (sa*sb) fs0).length:=by
         have h1:=Pl.picked_len (outF (sa*sb) fs0) seen;have h2:=Pl.seen_len hsn hsl;omega
        have HPLN:=qh hpl;clear hpl;have hMp:=hSm5.map.ext hE;have hI2:IterIs wr it w2.heap.size (mapF fs0).length seen:=by rw [hmlen,←outF_len (sa*sb)]; exact hI
        by_cases hall:∀ i,i<(mapF fs0).length→i∈seen
        · have hperm:=Pl.picked_perm hsn hsl (fun i hi=>hall i (by rw [hmlen,←outF_len (sa*sb)]; exact hi));have HPM:=qh hperm
          have HND:Hid (((outF (sa*sb) fs0).map (·.1)).Nodup∧∀ t∈outF (sa*sb) fs0,t.1.length=6):=qh (by
           refine ⟨by rw [outF_keys]; exact hSm5.nodup,fun t ht => ?_⟩;have h1:t.1∈(mapF fs0).map (·.1):=by rw [mapF_keys,←outF_keys (sa*sb)]; exact List.mem_map_of_mem ht
           obtain ⟨p,hp,e⟩:=List.mem_map.1 h1;rw [←e]
           exact hSm5.map.six p hp)
          clear hperm
          go_wp2_with (refine wl_next rfl rfl rfl hMp hI2 (fun _ => ?_) (fun i _ _ _ h1 h2 _ _ _=>absurd (hall i h1) h2))
          go_ret;refine ⟨Pl.picked (outF (sa*sb) fs0) seen,⟨_,NN,MM,rfl,hEw5.trans hE,rows,hO.1,fun g' hg' => ?_,HPLN.out,HEn.out⟩,(Pl.Nrm.filter HND.out.2 HND.out.1).perm HPM.out.symm,fun e => ?_⟩
          · have:g=g':=by simpa [blk] using hg'
            subst this;exact hO.2
          · rw [Pl.coef_perm HPM.out,Pl.coef_nz];exact Pl.coef_done HDV.out.1 HDV.out.2 HZ0.out.1 HZ0.out.2 HCB.out e
        · have hSN:seenN wr it=seen.length:=seenN_of hI;have hsz:=hE.size;have hOI:=ownK_ne_it hO.1 hI;have hIU:=hI.noU;have hIlt:=hI.lt
          go_upto_region 27 with (refine wl_next rfl rfl rfl hMp hI2 (fun h=>absurd h hall) ?_; intro ii kk v w8 hil his hmi hI8 hg8)
          have hmi0:=hmi;unfold mapF at hmi;rw [List.getElem?_map] at hmi;cases hfi:fs0[ii]? with
          | none=>rw [hfi] at hmi; cases hmi
          | some f =>
           rw [hfi] at hmi;simp only [Option.map_some,Option.some.injEq,Prod.mk.injEq] at hmi;obtain ⟨rfl,rfl⟩:=hmi;have hfm:=List.mem_of_getElem? hfi;have HLQ:=qh (outF_get (d:=sa*sb) hfi);have hk6:f.1.length=6:=hSm5.map.six _ (List.mem_of_getElem? hmi0);have hE8:Ext w5 w8:=hE.grownR hg8 (by omega);have hMp8:=hSm5.map.ext hE8;have hO8:=hO.kept hg8 (by simpa using hOI);have HEn8:Hid (∀ i,i<NN→EntC w8 (rows.getD i []) ((Pl.picked (outF (sa*sb) fs0) seen).getD i ([],0))):=qh (fun i hi=>(HEn.out i hi).keptU hIU hg8)
           have HSEEN:Hid ((seen ++ [ii]).Nodup∧(∀ j∈seen ++ [ii],j<(outF (sa*sb) fs0).length)∧seen.length<(outF (sa*sb) fs0).length):=qh (by
            have hiL:ii<(outF (sa*sb) fs0).length:=by rw [outF_len,←hmlen]; exact hil
            refine ⟨List.nodup_append.2 ⟨hsn,by simp,fun x hx y hy=>by simp only [List.mem_singleton] at hy; subst hy; rintro rfl; exact his hx⟩,fun j hj => ?_, ?_⟩
            · rcases List.mem_append.1 hj with hj|hj
              · exact hsl j hj
              · simp only [List.mem_singleton] at hj; subst hj; exact hiL
            · have:=Pl.seen_len (n:=(outF (sa*sb) fs0).length) (List.nodup_cons.2 ⟨his,hsn⟩) (fun x hx=>by
               rcases List.mem_cons.1 hx with rfl|hx
               · exact hiL
               · exact hsl x hx)
              simp at this
              omega)
           have HI8:Hid (IterIs w8 it w2.heap.size (outF (sa*sb) fs0).length (seen ++ [ii])):=qh (by rw [outF_len,←hmlen]; exact hI8);have HVB:Hid (f.2.z.natAbs<P2 2600):=qh (HBN.out f hfm);have HVAL:=fun (wx:World) (hC:Ext w8 wx)=>qh (sum_Value ((hSm5.sums f hfm).ext (hE8.trans hC)) hN9);obtain ⟨fk,fv⟩:=f;simp only at hk6 HVB HVAL HLQ hfi hmi0;obtain ⟨x0,x1,x2,x3,x4,x5,h6e⟩:=six_of hk6;subst h6e;obtain ⟨vp,vqa,vqb,vz⟩:=fv;simp only at HVB HVAL HLQ hfi hmi0;have hYk:=Arr.new w8 109 (ze.map (Value.int .i64));clear HEn hE hO hI hI2 hMp hg8 hIU hk6 hsz hOI hfm
           go_upto_region 28 with (first
            | (refine wl_entry rfl rfl rfl hMp8 hI8 hmi0 ?_)
            | (refine wl_stArr (vs:=[x0,x1,x2,x3,x4,x5].map (Value.int .i64)) rfl rfl rfl rfl rfl agg_exps hYk rfl (ints_one _) ?_; intro w9a hB9a hg9a))
           have hE89:Ext w8 w9a:=((Ext.refl w8).alloc _).grownR hg9a (Nat.le_refl _);obtain ⟨Y,hYe⟩:∃ x,w8.heap.size=x:=⟨_,rfl⟩;rw [hYe] at hB9a ⊢;clear hYk hg9a hMp8 hmi0
           go_wp2_with fail
           refine (HVAL _ hE89).out.mono ?_;rintro e w9b ⟨sv,av,nv,cv,rfl,hE9b,HSv,hxv⟩;have hYV:=Arr.new w9b 90 (intL false none 0 0);have hlv:(intL sv av nv cv).toArray=#[.bool sv, .slice av nv cv]:=rfl
           go_upto_region 29 with (refine wl_stArr (vs:=intL sv av nv cv) rfl rfl rfl rfl rfl agg_Int hYV rfl (intL_one _ _ _ _) ?_; intro w9c hB9c hg9c)
           have hEbc:Ext w9b w9c:=((Ext.refl w9b).alloc _).grownR hg9c (Nat.le_refl _);obtain ⟨VB,hVe⟩:∃ x,w9b.heap.size=x:=⟨_,rfl⟩;rw [hVe] at hB9c ⊢;have hE8c:=(hE89.trans hE9b).trans hEbc;have hBk:=(hB9a.ext hE9b).ext hEbc;have hxvc:=hxv.ext hEbc;have vb0:=hB9c.c 0 rfl;have vb1:=hB9c.c 1 rfl;have hiz:=qh (int_IsZero (w:=w9c) (v := .agg #[.bool sv, .slice av nv cv]) (z:=vz) ⟨sv,av,nv,cv,rfl,HSv,hxvc⟩ rfl);clear hYV hg9c hlv hB9a HVAL hE89 hE9b hEbc hxv
           go_wp2_with fail
           refine hiz.out.mono ?_;rintro e w9 ⟨rfl,hE9⟩;have hE89:=hE8c.trans hE9;have hE59:=hE8.trans hE89;have hEw9:=hEw5.trans hE59;have hO9:=hO8.ext hE89;have HEn9:Hid (∀ i,i<NN→EntC w9 (rows.getD i []) ((Pl.picked (outF (sa*sb) fs0) seen).getD i ([],0))):=qh (fun i hi=>(HEn8.out i hi).ext hE89);have HI8:Hid (IterIs w9 it w2.heap.size (outF (sa*sb) fs0).length (seen ++ [ii])):=qh (HI8.out.ext hE89);have hBk9:=hBk.ext hE9;have vb0:=hE9.cell vb0;have vb1:=hE9.cell vb1;have hBd:=hB5.ext hE59;have db0:=hBd.c 0 rfl;have db1:=hBd.c 1 rfl;have ky0:=hBk9.c 0 rfl;have ky1:=hBk9.c 1 rfl
           have ky2:=hBk9.c 2 rfl;have ky3:=hBk9.c 3 rfl;have ky4:=hBk9.c 4 rfl;have ky5:=hBk9.c 5 rfl;have HFR:=fun (wx:World) (hC:Ext w9 wx)=>qh (rat_Fraction ((hT.ext hEw9).ext hC) (v := .agg #[.bool sv, .slice av nv cv]) (x:=vz) ⟨sv,av,nv,cv,rfl,HSv,(hxvc.ext hE9).ext hC⟩ (v' := .agg #[.bool s4, .slice a4 n4 c4]) (k:=sa*sb) ⟨s4,a4,n4,c4,rfl,HS4,(hx5.ext hE59).ext hC⟩ (P2_lt HVB.out (by omega)) (P2_lt HDB.out (by omega)) hD0);clear hiz hE8c hE9 hBk hBk9 hBd hB9c hO8 HEn8 hE89 hxvc;by_cases hz0:vz=0
           · rw [decide_eq_true hz0];have HPK:Hid (Pl.picked (outF (sa*sb) fs0) (seen ++ [ii])=Pl.picked (outF (sa*sb) fs0) seen):=qh (by rw [Pl.picked_snoc,if_pos (by rw [HLQ.out]; exact (Pl.mkRat_zero hD0).2 hz0)]);clear hz0;go_wp2;go_roundw
             case rel=>exact ⟨seen ++ [ii],NN,rows,rfl,hE59,HI8.out,HSEEN.out.1,HSEEN.out.2.1,hO9,by rw [HPK.out]; exact HPLN.out,by rw [HPK.out]; exact HEn9⟩
             case measure =>
              have e1:=seenN_of HI8.out;have e2:=HSEEN.out.2.2;rw [hSN,e1];simp;omega
           · rw [decide_eq_false hz0];have HPK:Hid (Pl.picked (outF (sa*sb) fs0) (seen ++ [ii])=Pl.picked (outF (sa*sb) fs0) seen ++ [([x0,x1,x2,x3,x4,x5],mkRat vz (sa*sb))]):=qh (by rw [Pl.picked_snoc,if_neg (by rw [HLQ.out]; exact fun h=>hz0 ((Pl.mkRat_zero hD0).1 h)),HLQ.out]);have hNl:NN<MM:=by have h1:=HSEEN.out.2.2; have h2:=HMM.out; rw [outF_len] at h1; omega
             clear hz0;go_wp2;have HF1:=fun (wx:World) (hC:Ext w9 wx)=>qh (And.intro (hC.cell ky0) (And.intro (hC.cell ky1) (And.intro (hC.cell ky2) (And.intro (hC.cell ky3) (And.intro (hC.cell ky4) (And.intro (hC.cell ky5) (And.intro (hC.cell vb0) (And.intro (hC.cell vb1) (And.intro (hC.cell db0) (hC.cell db1))))))))))
             refine wp_region_typed2 (by kernel_rfl) (fun wx=>Ext w9 wx)
              [he (.slice (some ⟨g,0,none⟩) NN MM),
 he (.agg #[.int .i64 x0, .int .i64 x1, .int .i64 x2, .int .i64 x3, .int .i64 x4, .int .i64 x5]),
 he (.agg #[.bool sv, .slice av nv cv]),
 he (.agg #[.bool s4, .slice a4 n4 c4]),
 hp (fun v wx=>NR (mkRat vz (sa*sb)) v wx),
 hp (fun v wx=>NEn [x0,x1,x2,x3,x4,x5] (mkRat vz (sa*sb)) v wx),
 hp (fun v wx=>NSl [x0,x1,x2,x3,x4,x5] (mkRat vz (sa*sb)) v wx)]
              (by kernel_rfl) (fun _ _ e h=>h.trans e) ((Ext.refl w9).drew) ⟨trivial,trivial,trivial,trivial,NR.x _,NEn.x _ _,NSl.x _ _,trivial⟩ ⟨?o0, ?o1, ?o2, ?o3, ?o4, ?o5, ?o6,trivial⟩ ?fin
             case o0=>exact omv rfl rfl (fun _ _=>id)
             case o1 =>
              refine obl_pq rfl fun ρ wx hC hcst h => ?_;have e0:ρ (.tmp 22)=(.pointer (some ⟨Y,0,none⟩)):=h.1;obtain ⟨kk0,kk1,kk2,kk3,kk4,kk5,kv0,kv1,kd0,kd1⟩:=(HF1 wx hC).out;go_simp
             case o2=>exact ol2 rfl rfl (fun _ _=>id) ⟨by kernel_rfl,by kernel_rfl⟩ (by assumption) (by assumption)
             case o3=>exact ol2 rfl rfl (fun _ _=>id) ⟨by kernel_rfl,by kernel_rfl⟩ (by assumption) (by assumption)
             case o4 =>
              refine obl_cq rfl fun ρ wx hC hcst hfn h => ?_;have e1:ρ (.tmp 104)=(.agg #[.bool sv, .slice av nv cv]):=h.2.1;have e2:ρ (.tmp 105)=(.agg #[.bool s4, .slice a4 n4 c4]):=h.2.2.1;obtain ⟨kk0,kk1,kk2,kk3,kk4,kk5,kv0,kv1,kd0,kd1⟩:=(HF1 wx hC).out;refine ⟨101,#[.agg #[.bool sv, .slice av nv cv], .agg #[.bool s4, .slice a4 n4 c4]],by go_simp,((HFR wx hC).out).mono ?_⟩;rintro e w' ⟨cs,rfl,hE',hr'⟩;exact ⟨_,rfl,hE',cs,rfl,hr'⟩
             case o5 =>
              refine obl_ext rfl ?_;intro ρ wx hp hC h;have hcst:=hp.const;have hfn:=hp.func;have e0:ρ (.tmp 103)=(.agg #[.int .i64 x0, .int .i64 x1, .int .i64 x2, .int .i64 x3, .int .i64 x4, .int .i64 x5]):=h.1;obtain ⟨v1,e1,cs1,rfl,r1⟩:=h.2.1;obtain ⟨kk0,kk1,kk2,kk3,kk4,kk5,kv0,kv1,kd0,kd1⟩:=(HF1 wx hC).out;obtain ⟨s9,a9,n9,c9,b9,m9,d9,rfl,z1,z2,z3⟩:=r1;have hl1:(ratL s9 a9 n9 c9 false b9 m9 d9).toArray=#[.bool s9, .slice a9 n9 c9, .bool false, .slice b9 m9 d9]:=rfl;rw [hl1] at e1
              refine ⟨.agg #[.int .i64 x0, .int .i64 x1, .int .i64 x2, .int .i64 x3, .int .i64 x4, .int .i64 x5, .bool s9, .slice a9 n9 c9, .bool false, .slice b9 m9 d9],wx,by go_simp,Ext.refl _,s9,a9,n9,c9,b9,m9,d9,rfl,s9,a9,n9,c9,b9,m9,d9,rfl,z1,z2,z3⟩
             case o6 =>
              refine obl_ext rfl ?_;intro ρ wx hp hC h;have hcst:=hp.const;have hfn:=hp.func;obtain ⟨v0,e0,s0,a0,n0,c0,b0,m0,d0,rfl,r0⟩:=h.1;obtain ⟨kk0,kk1,kk2,kk3,kk4,kk5,kv0,kv1,kd0,kd1⟩:=(HF1 wx hC).out;have hl1:(entL [x0,x1,x2,x3,x4,x5] s0 a0 n0 c0 b0 m0 d0).toArray=#[.int .i64 x0, .int .i64 x1, .int .i64 x2, .int .i64 x3, .int .i64 x4, .int .i64 x5, .bool s0, .slice a0 n0 c0, .bool false, .slice b0 m0 d0]:=rfl;rw [hl1] at e0
              refine ⟨.slice (some ⟨wx.heap.size,0,none⟩) 1 1,wx.alloc (.cells #[.int .i64 x0, .int .i64 x1, .int .i64 x2, .int .i64 x3, .int .i64 x4, .int .i64 x5, .bool s0, .slice a0 n0 c0, .bool false, .slice b0 m0 d0] 111),by go_simp,(Ext.refl _).alloc _,wx.heap.size,s0,a0,n0,c0,b0,m0,d0,rfl,Arr.new wx _ (entL [x0,x1,x2,x3,x4,x5] s0 a0 n0 c0 b0 m0 d0),r0.ext ((Ext.refl _).alloc _)⟩
             case fin =>
              intro wx hC;rintro _ ⟨_,rfl,_⟩;rintro _ ⟨_,_,_,_,_,_,_,rfl,_⟩;rintro _ ⟨Z9,s9,a9,n9,c9,b9,m9,d9,rfl,hZ9,hr9⟩;change wpList _ _ _ _ _ _;simp only [List.length_cons,List.length_nil,List.drop_succ_cons,List.drop_zero,Act.put,List.setIfInBounds_toArray,List.set_cons_succ,List.set_cons_zero];have hAx:=hO9.ext hC;have HAx:=qh hAx;have hL9:=slk_one (k:=10) hZ9 rfl;have hU9:=hAx.2;have hbs:w.heap.size≤wx.heap.size:=(hEw9.trans hC).size;have hrl:=hAx.1.len (by omega);have HI9:=qh (HI8.out.ext hC);have HE9x:=qh (hE59.trans hC)
              have HEnx:Hid (∀ i,i<NN→EntC wx (rows.getD i []) ((Pl.picked (outF (sa*sb) fs0) seen).getD i ([],0))):=qh fun i hi=>(HEn9.out i hi).ext hC
              go_wp2_with (refine wl_appU rfl rfl (by kernel_rfl) elem_entry rfl hAx rfl hL9 (by intro r hr u hu; rw [List.mem_singleton.1 hr] at hu; exact entL_one u hu) (by intro r hr u hu; rw [List.mem_singleton.1 hr] at hu; exact entL_nu u hu) (by omega) (by omega) hbs ?_; intro w11 hO11 hg11)
              have HI11:Hid (IterIs w11 it w2.heap.size (outF (sa*sb) fs0).length (seen ++ [ii])):=qh (HI9.out.kept hg11 (by have:=ownK_ne_it HAx.out.1 HI9.out; simpa using fun h=>this h.symm));go_roundw
              case rel =>
               refine ⟨seen ++ [ii],NN+1,_,rfl,HE9x.out.grownR hg11 (by omega),HI11.out,HSEEN.out.1,HSEEN.out.2.1,hO11,by rw [HPK.out,List.length_append,HPLN.out]; rfl,qh fun jj hjj => ?_⟩;rw [HPK.out];by_cases hjN:jj=NN
               · subst hjN;rw [List.getD_eq_getElem?_getD,List.getElem?_append_right (by omega),hrl,Nat.sub_self,List.getD_eq_getElem?_getD,List.getElem?_append_right (by rw [HPLN.out]; exact Nat.le_refl _),HPLN.out,Nat.sub_self];exact EntC.keptU ⟨s9,a9,n9,c9,b9,m9,d9,rfl,rfl,hr9⟩ hU9 hg11
               · rw [List.getD_eq_getElem?_getD,List.getElem?_append_left (by omega),←List.getD_eq_getElem?_getD,List.getD_eq_getElem?_getD (l:=Pl.picked _ seen ++ _),List.getElem?_append_left (by rw [HPLN.out]; omega),←List.getD_eq_getElem?_getD];exact (HEnx.out jj (by omega)).keptU hU9 hg11
              case measure =>
               have e1:=seenN_of HI11.out;have e2:=HSEEN.out.2.2;rw [hSN,e1];simp;omega
end Go.Proofs.YtlpgonpfjbhmfaaGreatDoor
