/- Part Own37. -/
import Derived.Test.YtbiifaciddajnaaGreatDoorOwn36
import Derived.Test.YtbiifaciddajnaaGreatDoorOwn33
import Derived.Test.YtbiifaciddajnaaGreatDoorOwn31
set_option maxRecDepth 100000
set_option maxHeartbeats 100000000
namespace Go.Proofs.YtbiifaciddajnaaGreatDoor
open Go Go.RowKit
def RetScl (w:World) (va:Int) (oq:Option Rat) (ol:Option (List Pl.Tm)) (e:Ending) (w':World):Prop :=
 (∃ q l,oq=some q∧ol=some l∧RetA3 w (resQ va (sclR q l)) e w')∨((oq.isSome && ol.isSome)=false∧RetP w 0 [] 1 e w')
theorem poly_Scale {s:ByteArray} {va:Int} {a:Option Addr} {n c:Nat} {ts:List Tx} {w:World} (hT:Tabs w) (ha:TmSl w a n c ts) (hs:s.size≤570) (sa:∀ t∈ts,t.1.length≤570)
 (hok:∀ q l,readQ (strL s)=some q→rdP va ts=some l→FitsP (sclR q l)) :
 Calls Tryz.prog 49 #[.string s, .agg #[.int .i64 va, .slice a n c]] w (RetScl w va (readQ (strL s)) (rdP va ts)):=by
 have hrq:=fun (wx:World) (hC:Ext w wx)=>qh (rat_Read (s:=s) (hT.ext hC) hs)
 have hrp:=fun (wx:World) (hC:Ext w wx)=>qh (poly_read (vars:=va) (hT.ext hC) (ha.ext hC) sa)
 have HB:Hid (∀ q l,readQ (strL s)=some q→rdP va ts=some l→Pl.RB 2400 q∧(∀ t∈l,Pl.RB 2400 t.2)∧FitsP (sclR q l)∧Pl.Nrm (sclR q l)∧l.length≤4096∧0≤va∧va≤6):=qh (fun q l h1 h2=>by
  refine ⟨?_,fun t ht=>(rdP_RB h2 sa t ht).mono (by omega),hok q l h1 h2,sclR_nrm (canon_nrm (rdP_canon h2)), ?_,(rdP_parts h2).1⟩
  · have h3:=readQ_eq h1
    exact (txt_RB (k:=570) (by rw [←h3,strL_len]; exact hs)).mono (by omega)
  · rw [rdP_len h2]; exact (rdP_parts h2).2.1)
 obtain ⟨oq,hoq⟩:∃ o,readQ (strL s)=o:=⟨_,rfl⟩
 obtain ⟨ol,hol⟩:∃ o,rdP va ts=o:=⟨_,rfl⟩
 rw [hoq] at hrq HB ⊢
 rw [hol] at hrp HB ⊢
 clear hoq hol sa hs ha hok
 go_enter Tryz.func49,Tryz.ntmps49
 go_upto_region 1 with (fail)
 refine box2 ?_
 intro w0 hE0 hB0 hB1 hz0
 have p00:w0.cell? ⟨w.heap.size,0,none⟩=some (.int .i64 va):=hB0.cell (i:=0) (by simp)
 have p01:w0.cell? ⟨w.heap.size,1,none⟩=some (.slice a n c):=hB0.cell (i:=1) (by simp)
 have hR:Arr w0 (w.heap.size+1) 24 (polyL 0 none 0 0):=hB1
 have hpz:(polyL 0 none 0 0).toArray=#[.int .i64 0, .slice none 0 0]:=rfl
 clear hB0 hB1 hz0
 go_wp2_with fail
 refine (hrq _ hE0).out.mono ?_
 rintro e w1 ⟨_,rfl,hE1,s1,a1,n1,c1,b1,m1,d1,rfl,HS1,hx1,hy1⟩
 have hY:=Arr.new w1 88 (ratL false none 0 0 false none 0 0)
 have hl1:(ratL s1 a1 n1 c1 false b1 m1 d1).toArray=#[.bool s1, .slice a1 n1 c1, .bool false, .slice b1 m1 d1]:=rfl
 go_upto_region 2 with (refine wl_stArr (vs:=ratL s1 a1 n1 c1 false b1 m1 d1) rfl rfl rfl rfl rfl agg_Ratio hY rfl (ratL_one _ _ _ _ _ _ _ _) ?_; intro w2 hB2 hg2)
 have hE2:Ext w1 w2:=((Ext.refl w1).alloc _).grownR hg2 (Nat.le_refl _)
 have hE12:=hE1.trans hE2
 have hEw2:=hE0.trans hE12
 have hx2:=hx1.ext hE2
 have hy2:=hy1.ext hE2
 have hsz:=hE0.size
 have hR2:=hR.ext hE12
 have p00:=hE12.cell p00
 have p01:=hE12.cell p01
 obtain ⟨X,hX⟩:∃ x,w1.heap.size=x:=⟨_,rfl⟩
 rw [hX] at hB2 ⊢
 clear hrq hY hg2 hE1 hE2 hx1 hy1 hR hX hl1 hE0
 go_wp2_with fail
 refine (hrp _ hEw2).out.mono ?_
 rintro e w3 ⟨a3,n3,c3,rfl,hE3,hL3⟩
 have hEw:=hEw2.trans hE3
 have hR3:=hR2.ext hE3
 have hB3:=hB2.ext hE3
 have hx3:=hx2.ext hE3
 have hy3:=hy2.ext hE3
 have p00:=hE3.cell p00
 clear p01 hR2 hB2 hx2 hy2 hrp hE12 hEw2
 cases oq with
 | none =>
  simp only [Option.isSome_none]
  go_wp2_with (refine wl_stArr (vs:=polyL 0 none 0 0) rfl rfl rfl rfl rfl agg_Poly hR3 rfl (polyL_one _ _ _ _) ?_; intro w9 hB9 hg9)
  refine bodyPost_ret (res_ct rfl agg_Poly rfl rfl hB9) rfl ?_
  exact Or.inr ⟨rfl,none,0,0,rfl,hEw.grownR hg9 (by omega),TmO.nil _ _⟩
 | some q =>
  cases ol with
  | none =>
   simp only [Option.isSome_none,Option.isSome_some]
   go_wp2_with (refine wl_stArr (vs:=polyL 0 none 0 0) rfl rfl rfl rfl rfl agg_Poly hR3 rfl (polyL_one _ _ _ _) ?_; intro w9 hB9 hg9)
   refine bodyPost_ret (res_ct rfl agg_Poly rfl rfl hB9) rfl ?_
   exact Or.inr ⟨rfl,none,0,0,rfl,hEw.grownR hg9 (by omega),TmO.nil _ _⟩
  | some l =>
   simp only [Option.isSome_some,Option.getD_some] at hL3 hx3 hy3 HS1 ⊢
   have hva:=(HB.out q l rfl rfl).2.2.2.2.2
   have HLL:Hid (l.length=n3):=qh hL3.len
   have HBB:=qh (HB.out q l rfl rfl)
   obtain ⟨vn,rfl⟩:∃ k:Nat,va=(k:Int):=⟨va.toNat,by omega⟩
   have hscl:=fun (wx:World) (hC:Ext w3 wx)=>qh (poly_scale ((hT.ext hEw).ext hC) (v := .agg #[.bool s1, .slice a1 n1 c1, .bool false, .slice b1 m1 d1]) (q:=q) ⟨ratL s1 a1 n1 c1 false b1 m1 d1,rfl,s1,a1,n1,c1,b1,m1,d1,rfl,HS1,hx3.ext hC,hy3.ext hC⟩ (hL3.ext hC) (by have:=HBB.out.2.2.2.2.1; have:=HLL.out; omega) HBB.out.1 HBB.out.2.1)
   have HFT:Hid (FitsP (sclR q l)):=qh HBB.out.2.2.1
   have y0:w3.cell? ⟨X,0,none⟩=some (.bool s1):=hB3.cell (i:=0) (by simp [ratL,intL])
   have y1:w3.cell? ⟨X,1,none⟩=some (.slice a1 n1 c1):=hB3.cell (i:=1) (by simp [ratL,intL])
   have y2:w3.cell? ⟨X,2,none⟩=some (.bool false):=hB3.cell (i:=2) (by simp [ratL,intL])
   have y3:w3.cell? ⟨X,3,none⟩=some (.slice b1 m1 d1):=hB3.cell (i:=3) (by simp [ratL,intL])
   clear HB hB3 hx3 hy3 hL3
   go_wp2
   obtain ⟨rr,HRR⟩:∃ r,Hid (resQ (vn:Int) (sclR q l)=r):=⟨_,qh rfl⟩
   have HF1:=fun (wx:World) (hC:Ext w3 wx)=>qh (And.intro (hC.cell p00) (And.intro (hC.cell y0) (And.intro (hC.cell y1) (And.intro (hC.cell y2) (hC.cell y3)))))
   refine wp_region_typed2 (by kernel_rfl) (fun wx=>Ext w3 wx)
    [he (.pointer (some ⟨w.heap.size,0,none⟩)),
 he (.int .i64 (vn:Int)),
 he (.agg #[.bool s1, .slice a1 n1 c1, .bool false, .slice b1 m1 d1]),
 he (.slice a3 n3 c3),
 hu 5 (fun v wx=>NOut w3 (sclR q l) v wx),
 hmp (fun v wx=>NPE w3 rr v wx),
 hp (fun v wx=>NPo w3 rr v wx),
 he (.int .i64 rr.2.2)]
    (by kernel_rfl) (fun _ _ e h=>h.trans e) ((Ext.refl w3).drew) ⟨trivial,trivial,trivial,trivial,NOut.x _ _,NPE.x _ _,NPo.x _ _,trivial,trivial⟩ ⟨?o0, ?o1, ?o2, ?o3, ?o4, ?o5, ?o6, ?o7,trivial⟩ ?fin
   case o0 =>
    refine obl_pq rfl fun ρ wx hC hcst h => ?_
    have e0:ρ (.tmp 3)=(.pointer (some ⟨w.heap.size,0,none⟩)):=h.1
    obtain ⟨k0,ky0,ky1,ky2,ky3⟩:=(HF1 wx hC).out
    go_simp
   case o1 =>
    refine obl_pq rfl fun ρ wx hC hcst h => ?_
    have e0:ρ (.tmp 27)=(.pointer (some ⟨w.heap.size,0,none⟩)):=h.1
    obtain ⟨k0,ky0,ky1,ky2,ky3⟩:=(HF1 wx hC).out
    go_simp
   case o2 =>
    refine obl_pq rfl fun ρ wx hC hcst h => ?_
    have e0:ρ (.tmp 6)=(.pointer (some ⟨X,0,none⟩)):=h.1
    obtain ⟨k0,ky0,ky1,ky2,ky3⟩:=(HF1 wx hC).out
    go_simp
   case o3=>exact obl_pmove rfl (.inl rfl) (fun _ _ _ h=>h.1)
   case o4 =>
    refine obl_cq rfl fun ρ wx hC hcst hfn h => ?_
    have e0:ρ (.tmp 29)=(.agg #[.bool s1, .slice a1 n1 c1, .bool false, .slice b1 m1 d1]):=h.2.1
    have e1:ρ (.tmp 30)=(.slice a3 n3 c3):=h.2.2.1
    refine ⟨97,#[.agg #[.bool s1, .slice a1 n1 c1, .bool false, .slice b1 m1 d1], .slice a3 n3 c3],by go_simp,((hscl wx hC).out).mono ?_⟩
    rintro e w' ⟨a7,n7,c7,rfl,hE7,hO7⟩
    exact ⟨_,rfl,hE7,a7,n7,c7,sclR q l,rfl,hO7.mono hC.size,HBB.out.2.2.2.1,fun _=>rfl⟩
   case o5 =>
    refine obl_callM rfl ?_
    intro ρ wx hp hC h
    have hcst:=hp.const
    have hfn:=hp.func
    have e0:ρ (.tmp 28)=(.int .i64 (vn:Int)):=h.2.1
    obtain ⟨v1,e1,a1',n1',c1',o1',rfl,f1',g1',h1'⟩:=h.2.2.1
    have hfo:=HFT.out.out g1' h1'
    have hlo:=f1'.len
    refine ⟨67,#[.int .i64 (vn:Int), .slice a1' n1' c1'],by go_simp,(poly_write (vars:=vn) (w0:=w3) (hT.ext hEw) hC f1' (by omega) hfo.1 hfo.2.1 (by omega)).mono ?_⟩
    intro e w' hw
    have hq:=RetWr.q hw g1' h1'
    rw [HRR.out] at hq
    obtain ⟨a7,n7,c7,rfl,hE7,hO7⟩:=hq
    exact ⟨_,rfl,hE7,⟨trivial,trivial,trivial,trivial,trivial,trivial,trivial,trivial,trivial⟩,a7,n7,c7,rfl,hO7⟩
   case o6 =>
    refine obl_ext rfl ?_
    intro ρ wx hp hC h
    obtain ⟨v0,e0,a0',n0',c0',rfl,f0'⟩:=h.1
    exact ⟨polyV rr.1 a0' n0' c0',wx,by go_simp,Ext.refl _,a0',n0',c0',rfl,f0'⟩
   case o7 =>
    refine obl_pure rfl ?_
    intro ρ wx hp hC h
    obtain ⟨v0,e0,a0',n0',c0',rfl,f0'⟩:=h.1
    go_simp
   case fin =>
    intro wx hC
    rintro _
    rintro _ h42
    rintro _ h43
    change wpList _ _ _ _ _ _
    simp only [List.length_cons,List.length_nil,List.drop_succ_cons,List.drop_zero,Act.put,List.setIfInBounds_toArray,List.set_cons_succ,List.set_cons_zero]
    obtain ⟨a7,n7,c7,rfl,hO7⟩:=h43
    clear h42
    have hEx:=hEw.trans hC
    have hRx:=hR3.ext hC
    have hpv:polyV rr.1 a7 n7 c7 = .agg #[.int .i64 rr.1, .slice a7 n7 c7]:=rfl
    rw [hpv]
    have hpl:(polyL rr.1 a7 n7 c7).toArray=#[.int .i64 rr.1, .slice a7 n7 c7]:=rfl
    go_wp2_with (refine wl_stArr (vs:=polyL rr.1 a7 n7 c7) rfl rfl rfl rfl rfl agg_Poly hRx rfl (polyL_one _ _ _ _) ?_; intro w8 hB8 hg8)
    refine bodyPost_ret (res_ct rfl agg_Poly rfl rfl hB8) rfl ?_
    exact Or.inl ⟨q,l,rfl,rfl,by rw [HRR.out]; exact ⟨a7,n7,c7,rfl,hEx.grownR hg8 (by omega),(hO7.mono hEw.size).keptA hRx hg8⟩⟩
end Go.Proofs.YtbiifaciddajnaaGreatDoor
namespace Go.Proofs.YtbiifaciddajnaaGreatDoor
open Go Go.RowKit
def NLL (ls:List (List Pl.Tm)) (v:Value) (w:World):Prop:=∃ a n c,v = .slice a n c∧n≤1000∧EntLL w a n c ls
theorem NLL.x (ls:List (List Pl.Tm)):StX (NLL ls):=fun _ _ _ x ⟨a,n,c,h1,h2,h3⟩=>⟨a,n,c,h1,h2,h3.ext x⟩
theorem entLL_two {w:World} {a b:Option Addr} {n c m d:Nat} {la lb:List Pl.Tm} (ha:EntSl w a n c la) (hb:EntSl w b m d lb):EntLL (w.alloc (.cells #[.slice a n c, .slice b m d] 76)) (some ⟨w.heap.size,0,none⟩) 2 2 [la,lb]:=by
 have hE:=(Ext.refl w).alloc (.cells #[.slice a n c, .slice b m d] 76)
 refine ⟨[.slice a n c, .slice b m d],(own_alloc w w.heap.size 76 #[.slice a n c, .slice b m d] 2 rfl (Nat.le_refl _) (by omega)).sl,rfl,fun i hi => ?_⟩
 have h01:i=0∨i=1:=by omega
 rcases h01 with rfl|rfl
 · exact ⟨_,n,c,rfl,ha.ext hE⟩
 · exact ⟨_,m,d,rfl,hb.ext hE⟩
def RetAdd (w:World) (va vb:Int) (oa ob:Option (List Pl.Tm)) (e:Ending) (w':World):Prop :=
 (∃ la lb,oa=some la∧ob=some lb∧va=vb∧RetA3 w (resQ va (la ++ lb)) e w') ∨
 ((oa.isSome && ob.isSome)=true∧va≠vb∧RetP w 0 [] 4 e w')∨((oa.isSome && ob.isSome)=false∧RetP w 0 [] 1 e w')
theorem poly_Add {va vb:Int} {a b:Option Addr} {n c m d:Nat} {ta tb:List Tx} {w:World} (hT:Tabs w) (ha:TmSl w a n c ta) (hb:TmSl w b m d tb) (sa:∀ t∈ta,t.1.length≤570) (sb:∀ t∈tb,t.1.length≤570)
 (hok:∀ la lb,rdP va ta=some la→rdP vb tb=some lb→va=vb→SumOK (la ++ lb)) :
 Calls Tryz.prog 18 #[.agg #[.int .i64 va, .slice a n c], .agg #[.int .i64 vb, .slice b m d]] w (RetAdd w va vb (rdP va ta) (rdP vb tb)):=by
 have hr2:=fun (wx:World) (hC:Ext w wx)=>qh (poly_readTwo (va:=va) (vb:=vb) (hT.ext hC) (ha.ext hC) (hb.ext hC) sa sb)
 have hvr:∀ la,rdP va ta=some la→0≤va∧va≤6:=fun la h=>rdP_vars h
 obtain ⟨oa,hoa⟩:∃ o,rdP va ta=o:=⟨_,rfl⟩
 obtain ⟨ob,hob⟩:∃ o,rdP vb tb=o:=⟨_,rfl⟩
 rw [hoa] at hr2 hok hvr ⊢
 rw [hob] at hr2 hok ⊢
 have HOK:=qh hok
 clear hoa hob sa sb ha hb hok
 go_enter Tryz.func18,Tryz.ntmps18
 go_upto_region 1 with (fail)
 refine box3 ?_
 intro w0 hE0 hB0 hB1 hB2 hz0
 have p00:w0.cell? ⟨w.heap.size,0,none⟩=some (.int .i64 va):=hB0.cell (i:=0) (by simp)
 have p01:w0.cell? ⟨w.heap.size,1,none⟩=some (.slice a n c):=hB0.cell (i:=1) (by simp)
 have p10:w0.cell? ⟨(w.heap.size+1),0,none⟩=some (.int .i64 vb):=hB1.cell (i:=0) (by simp)
 have p11:w0.cell? ⟨(w.heap.size+1),1,none⟩=some (.slice b m d):=hB1.cell (i:=1) (by simp)
 have hR:Arr w0 (w.heap.size+2) 24 (polyL 0 none 0 0):=hB2
 have hpz:(polyL 0 none 0 0).toArray=#[.int .i64 0, .slice none 0 0]:=rfl
 clear hB0 hB1 hB2 hz0
 go_wp2_with fail
 refine (hr2 _ hE0).out.mono ?_
 rintro e w1 ⟨a1,n1,c1,b1,m1,d1,err,rfl,hE1,hcase⟩
 have hEw:=hE0.trans hE1
 have hR1:=hR.ext hE1
 have p00:=hE1.cell p00
 have hsz:=hE0.size
 clear hr2 p01 p10 p11
 rcases hcase with ⟨la,lb,rfl,rfl,hv,rfl,hLa,hLb⟩|⟨hs,hv,rfl⟩|⟨hs,rfl⟩
 · have HM:=qh (HOK.out la lb rfl rfl hv)
   have hva:=hvr la rfl
   clear HOK hvr
   obtain ⟨vn,rfl⟩:∃ k:Nat,va=(k:Int):=⟨va.toNat,by omega⟩
   have HV:=qh hv
   clear hv
   have hfl:[la,lb].flatten=la ++ lb:=by simp
   have hcol:=fun (wx:World) (h:Ext w1 wx) (a':Option Addr) (n' c':Nat) (hn':n'≤1000) (hl:EntLL wx a' n' c' [la,lb])=>qh (poly_collect ((hT.ext hEw).ext h) hl hn' (by rw [hfl]; exact HM.out.fits.len) (by rw [hfl]; exact HM.out.pre) (by rw [hfl]; exact HM.out.each))
   rw [hfl] at hcol
   have HFT:Hid (FitsP (la ++ lb)):=qh HM.out.fits
   clear hfl
   go_wp2
   obtain ⟨rr,HRR⟩:∃ r,Hid (resQ (vn:Int) (la ++ lb)=r):=⟨_,qh rfl⟩
   refine wp_region_typed2 (by kernel_rfl) (fun wx=>Ext w1 wx)
    [he (.pointer (some ⟨w.heap.size,0,none⟩)),
 he (.int .i64 (vn:Int)),
 he (.slice a1 n1 c1),
 he (.slice b1 m1 d1),
 hu 5 (fun v wx=>NLL [la,lb] v wx),
 hu 6 (fun v wx=>NOut w1 (la ++ lb) v wx),
 hmp (fun v wx=>NPE w1 rr v wx),
 hp (fun v wx=>NPo w1 rr v wx),
 he (.int .i64 rr.2.2)]
    (by kernel_rfl) (fun _ _ e h=>h.trans e) ((Ext.refl w1).drew) ⟨trivial,trivial,trivial,trivial,NLL.x _,NOut.x _ _,NPE.x _ _,NPo.x _ _,trivial,trivial⟩ ⟨?o0, ?o1, ?o2, ?o3, ?o4, ?o5, ?o6, ?o7, ?o8,trivial⟩ ?fin
   case o0 =>
    refine obl_pq rfl fun ρ wx hC hcst h => ?_
    have e0:ρ (.tmp 2)=(.pointer (some ⟨w.heap.size,0,none⟩)):=h.1
    have k0:=hC.cell p00
    go_simp
   case o1 =>
    refine obl_pq rfl fun ρ wx hC hcst h => ?_
    have e0:ρ (.tmp 20)=(.pointer (some ⟨w.heap.size,0,none⟩)):=h.1
    have k0:=hC.cell p00
    go_simp
   case o2=>exact obl_pmove rfl (.inl rfl) (fun _ _ _ h=>h.1)
   case o3=>exact obl_pmove rfl (.inl rfl) (fun _ _ _ h=>h.1)
   case o4 =>
    refine obl_ext rfl ?_
    intro ρ wx hp hC h
    have hcst:=hp.const
    have e0:ρ (.tmp 22)=(.slice a1 n1 c1):=h.1
    have e1:ρ (.tmp 23)=(.slice b1 m1 d1):=h.2.1
    refine ⟨.slice (some ⟨wx.heap.size,0,none⟩) 2 2,wx.alloc (.cells #[.slice a1 n1 c1, .slice b1 m1 d1] 76),by go_simp,(Ext.refl _).alloc _,some ⟨wx.heap.size,0,none⟩,2,2,rfl,by omega,entLL_two (hLa.ext hC) (hLb.ext hC)⟩
   case o5 =>
    refine obl_cq rfl fun ρ wx hC hcst hfn h => ?_
    obtain ⟨v1,e1,a1',n1',c1',rfl,f1',g1'⟩:=h.2.1
    refine ⟨69,#[.slice a1' n1' c1'],by go_simp,((hcol wx hC a1' n1' c1' f1' g1').out).mono ?_⟩
    rintro e w' ⟨out,⟨a7,n7,c7,rfl,hE7,hO7⟩,h1,h2⟩
    exact ⟨_,rfl,hE7,a7,n7,c7,out,rfl,hO7.mono hC.size,h1,h2⟩
   case o6 =>
    refine obl_callM rfl ?_
    intro ρ wx hp hC h
    have hcst:=hp.const
    have hfn:=hp.func
    have e0:ρ (.tmp 21)=(.int .i64 (vn:Int)):=h.2.1
    obtain ⟨v1,e1,a1',n1',c1',o1',rfl,f1',g1',h1'⟩:=h.2.2.1
    have hfo:=HFT.out.out g1' h1'
    have hlo:=f1'.len
    refine ⟨67,#[.int .i64 (vn:Int), .slice a1' n1' c1'],by go_simp,(poly_write (vars:=vn) (w0:=w1) (hT.ext hEw) hC f1' (by omega) hfo.1 hfo.2.1 (by omega)).mono ?_⟩
    intro e w' hw
    have hq:=RetWr.q hw g1' h1'
    rw [HRR.out] at hq
    obtain ⟨a7,n7,c7,rfl,hE7,hO7⟩:=hq
    exact ⟨_,rfl,hE7,⟨trivial,trivial,trivial,trivial,trivial,trivial,trivial,trivial,trivial,trivial⟩,a7,n7,c7,rfl,hO7⟩
   case o7 =>
    refine obl_ext rfl ?_
    intro ρ wx hp hC h
    obtain ⟨v0,e0,a0',n0',c0',rfl,f0'⟩:=h.1
    exact ⟨polyV rr.1 a0' n0' c0',wx,by go_simp,Ext.refl _,a0',n0',c0',rfl,f0'⟩
   case o8 =>
    refine obl_pure rfl ?_
    intro ρ wx hp hC h
    obtain ⟨v0,e0,a0',n0',c0',rfl,f0'⟩:=h.1
    go_simp
   case fin =>
    intro wx hC
    rintro _
    rintro _
    rintro _ h42
    rintro _ h43
    change wpList _ _ _ _ _ _
    simp only [List.length_cons,List.length_nil,List.drop_succ_cons,List.drop_zero,Act.put,List.setIfInBounds_toArray,List.set_cons_succ,List.set_cons_zero]
    obtain ⟨a7,n7,c7,rfl,hO7⟩:=h43
    clear h42
    have hEx:=hEw.trans hC
    have hRx:=hR1.ext hC
    have hpv:polyV rr.1 a7 n7 c7 = .agg #[.int .i64 rr.1, .slice a7 n7 c7]:=rfl
    rw [hpv]
    have hpl:(polyL rr.1 a7 n7 c7).toArray=#[.int .i64 rr.1, .slice a7 n7 c7]:=rfl
    go_wp2_with (refine wl_stArr (vs:=polyL rr.1 a7 n7 c7) rfl rfl rfl rfl rfl agg_Poly hRx rfl (polyL_one _ _ _ _) ?_; intro w8 hB8 hg8)
    refine bodyPost_ret (res_ct rfl agg_Poly rfl rfl hB8) rfl ?_
    exact Or.inl ⟨la,lb,rfl,rfl,HV.out,by rw [HRR.out]; exact ⟨a7,n7,c7,rfl,hEx.grownR hg8 (by omega),(hO7.mono hEw.size).keptA hRx hg8⟩⟩
 · have herr:((4:Int) != 0)=true:=by decide
   go_wp2_with (refine wl_stArr (vs:=polyL 0 none 0 0) rfl rfl rfl rfl rfl agg_Poly hR1 rfl (polyL_one _ _ _ _) ?_; intro w9 hB9 hg9)
   refine bodyPost_ret (res_ct rfl agg_Poly rfl rfl hB9) rfl ?_
   exact Or.inr (Or.inl ⟨hs,hv,none,0,0,rfl,hEw.grownR hg9 (by omega),TmO.nil _ _⟩)
 · have herr:((1:Int) != 0)=true:=by decide
   go_wp2_with (refine wl_stArr (vs:=polyL 0 none 0 0) rfl rfl rfl rfl rfl agg_Poly hR1 rfl (polyL_one _ _ _ _) ?_; intro w9 hB9 hg9)
   refine bodyPost_ret (res_ct rfl agg_Poly rfl rfl hB9) rfl ?_
   exact Or.inr (Or.inr ⟨hs,none,0,0,rfl,hEw.grownR hg9 (by omega),TmO.nil _ _⟩)
end Go.Proofs.YtbiifaciddajnaaGreatDoor
namespace Go.Proofs.YtbiifaciddajnaaGreatDoor
open Go Go.RowKit
namespace Pl
theorem coef_row (s:List Int) (c:Rat) (e:List Int):∀ b:List Tm,coef (b.map (fun t=>(plE s t.1,c*t.2))) e=c*lin (fun m=>if plE s m=e then 1 else 0) b
 | []=>by simp [coef,lin]
 | t :: r=>by
  rw [List.map_cons]
  unfold coef lin
  rw [coef_row s c e r,Rat.mul_add]
  by_cases h:plE s t.1=e
  · simp [h]
  · simp [h]
theorem coef_prod (a b:List Tm) (e:List Int):coef (prodT a b) e=lin (fun s=>lin (fun m=>if plE s m=e then 1 else 0) b) a:=by
 induction a with
 | nil=>rfl
 | cons s r ih =>
  have h:prodT (s :: r) b=b.map (fun t=>(plE s.1 t.1,s.2*t.2)) ++ prodT r b:=by simp [prodT]
  rw [h,coef_app,coef_row,ih]
  rfl
theorem coef_prod_ext {a a' b b':List Tm} (ha:∀ e,coef a e=coef a' e) (hb:∀ e,coef b e=coef b' e) (e:List Int):coef (prodT a b) e=coef (prodT a' b') e:=by
 rw [coef_prod,coef_prod,lin_ext ha]
 congr 1
 funext s
 exact lin_ext hb
def powT (l:List Tm):Nat→List Tm
 | 0=>constL 1
 | k+1=>prodT (powT l k) l
end Pl
structure PowOK (l:List Pl.Tm) (k:Nat):Prop where
 step:∀ i,i<k→∀ out,Pl.Nrm out→(∀ e,Pl.coef out e=Pl.coef (Pl.powT l i) e)→MulOK out l
 fits:FitsP (Pl.powT l k)
def RetPow (w:World) (va k:Int) (ol:Option (List Pl.Tm)) (e:Ending) (w':World):Prop :=
 (ol=none∧RetP w 0 [] 1 e w')∨(∃ l,ol=some l∧((¬ (0≤k∧k≤24)∧RetP w 0 [] 3 e w')∨((0≤k∧k≤24)∧24<degL l*k∧RetP w 0 [] 2 e w')∨((0≤k∧k≤24)∧¬ 24<degL l*k∧RetA3 w (resQ va (Pl.powT l k.toNat)) e w')))
def PwI (w3:World) (l:List Pl.Tm) (i:Nat) (a:Option Addr) (n c:Nat) (wr:World):Prop:=Ext w3 wr∧∃ out,EntO wr w3.heap.size a n c out∧Hid (Pl.Nrm out∧∀ e,Pl.coef out e=Pl.coef (Pl.powT l i) e)
theorem poly_Pow {va k:Int} {a:Option Addr} {n c:Nat} {ts:List Tx} {w:World} (hT:Tabs w) (ha:TmSl w a n c ts) (sa:∀ t∈ts,t.1.length≤570)
 (hok:∀ l,rdP va ts=some l→0≤k→k≤24→¬ 24<degL l*k→PowOK l k.toNat) :
 Calls Tryz.prog 43 #[.agg #[.int .i64 va, .slice a n c], .int .i64 k] w (RetPow w va k (rdP va ts)):=by
 have hrp:=fun (wx:World) (hC:Ext w wx)=>qh (poly_read (vars:=va) (hT.ext hC) (ha.ext hC) sa)
 have HB:Hid (∀ l,rdP va ts=some l→smallE l∧0≤va∧va≤6):=qh (fun l h=>⟨rdP_small h,(rdP_parts h).1⟩)
 have HOK:=qh hok
 obtain ⟨ol,hol⟩:∃ o,rdP va ts=o:=⟨_,rfl⟩
 rw [hol] at hrp HB HOK ⊢
 clear hol sa ha hok
 go_enter Tryz.func43,Tryz.ntmps43
 go_upto_region 1 with (fail)
 refine box2 ?_
 intro w0 hE0 hB0 hB1 hz0
 have p00:w0.cell? ⟨w.heap.size,0,none⟩=some (.int .i64 va):=hB0.cell (i:=0) (by simp)
 have p01:w0.cell? ⟨w.heap.size,1,none⟩=some (.slice a n c):=hB0.cell (i:=1) (by simp)
 have hR:Arr w0 (w.heap.size+1) 24 (polyL 0 none 0 0):=hB1
 have hpz:(polyL 0 none 0 0).toArray=#[.int .i64 0, .slice none 0 0]:=rfl
 clear hB0 hB1 hz0
 have hsz:=hE0.size
 go_wp2_with fail
 refine (hrp _ hE0).out.mono ?_
 rintro e w3 ⟨a3,n3,c3,rfl,hE3,hL3⟩
 have hEw:=hE0.trans hE3
 have hR3:=hR.ext hE3
 have p00:=hE3.cell p00
 clear p01 hR hrp hE0 hE3
 cases ol with
 | none =>
  simp only [Option.isSome_none]
  go_wp2_with (refine wl_stArr (vs:=polyL 0 none 0 0) rfl rfl rfl rfl rfl agg_Poly hR3 rfl (polyL_one _ _ _ _) ?_; intro w9 hB9 hg9)
  refine bodyPost_ret (res_ct rfl agg_Poly rfl rfl hB9) rfl ?_
  exact Or.inl ⟨rfl,none,0,0,rfl,hEw.grownR hg9 (by omega),TmO.nil _ _⟩
 | some l =>
  simp only [Option.isSome_some,Option.getD_some] at hL3 ⊢
  have HBB:=qh (HB.out l rfl)
  have hva:=HBB.out.2
  by_cases hk:0≤k∧k≤24
  · obtain ⟨kn,rfl⟩:∃ j:Nat,k=(j:Int):=⟨k.toNat,by omega⟩
    have hk24:kn≤24:=by omega
    have hk0:¬ ((kn:Int)<0):=by omega
    have hk1:¬ ((24:Int)<(kn:Int)):=by omega
    have HK:=qh hk
    have hdg:=qh (poly_degree hL3 HBB.out.1)
    have hdb:=degL_bnd HBB.out.1
    have HDD:Hid (degL l=degL l):=qh rfl
    generalize hdL:degL l=dL at *
    have HDL:=qh hdL
    obtain ⟨mm,hmm⟩:∃ m,dL*(kn:Int)=m:=⟨_,rfl⟩
    have hwm:IntKind.i64.wrap (dL*(kn:Int))=mm:=by
     rw [←hmm]
     exact IntWalk.i64_in _ (by
      have h1:dL*(kn:Int)≤6597069766656*(kn:Int):=Int.mul_le_mul_of_nonneg_right hdb.2 (by omega)
      have h2:(-1)*(kn:Int)≤dL*(kn:Int):=Int.mul_le_mul_of_nonneg_right hdb.1 (by omega)
      omega)
    clear hk HDD hdL
    go_wp2_with fail
    refine hdg.out.mono ?_
    rintro e w4 ⟨rfl,hE4⟩
    have hEw4:=hEw.trans hE4
    have hR4:=hR3.ext hE4
    have hL4:=hL3.ext hE4
    have p00:=hE4.cell p00
    clear hR3 hL3 hE4 hdg hEw
    have HMM:=qh hmm
    clear hmm
    by_cases hbig:24<mm
    · have HBG:Hid (24<degL l*(kn:Int)):=qh (by rw [HDL.out,HMM.out]; exact hbig)
      go_wp2_with (refine wl_stArr (vs:=polyL 0 none 0 0) rfl rfl rfl rfl rfl agg_Poly hR4 rfl (polyL_one _ _ _ _) ?_; intro w9 hB9 hg9)
      refine bodyPost_ret (res_ct rfl agg_Poly rfl rfl hB9) rfl ?_
      exact Or.inr ⟨l,rfl,Or.inr (Or.inl ⟨HK.out,HBG.out,none,0,0,rfl,hEw4.grownR hg9 (by omega),TmO.nil _ _⟩)⟩
    · have HBG:Hid (¬ 24<degL l*(kn:Int)):=qh (by rw [HDL.out,HMM.out]; exact hbig)
      have HPW:=qh (HOK.out l rfl HK.out.1 HK.out.2 (by first | exact HBG.out | exact Int.not_lt.1 HBG.out))
      obtain ⟨vn,rfl⟩:∃ j:Nat,va=(j:Int):=⟨va.toNat,by omega⟩
      clear HOK HB
      have hsm:=qh (rat_Small (z:=1) (w:=w4) (by omega) (by omega))
      go_wp2_with fail
      refine hsm.out.mono ?_
      rintro e w5 ⟨cs5,rfl,hE5,hr5⟩
      have hct:=qh (poly_constant (v := .agg cs5.toArray) (q:=((1:Int):Rat)) (w:=w5) ⟨cs5,rfl,hr5⟩)
      go_wp2_with fail
      refine hct.out.mono ?_
      rintro e w6 ⟨a6,n6,c6,rfl,hE6,hO6⟩
      have hE46:=hE5.trans hE6
      have hO0:PwI w4 l 0 a6 n6 c6 w6:=⟨hE46,constL ((1:Int):Rat),hO6.mono hE5.size,qh ⟨constL_nrm _,fun _=>rfl⟩⟩
      have hlw:IntKind.i64.wrap (kn:Int)=(kn:Int):=IntWalk.i64_in _ (by omega)
      clear hct hsm hE46 hE6 hO6 hE5 hr5
      go_wp2
      go_loopw [8,36] (fun rv iv wr=>∃ (i:Nat) (a':Option Addr) (n' c':Nat),iv = .int .i64 i∧rv = .slice a' n' c'∧i≤kn∧PwI w4 l i a' n' c' wr) (fun _ iv _=>kn-(intOf iv).toNat)
      case atStart=>exact ⟨0,a6,n6,c6,rfl,rfl,Nat.zero_le _,hO0⟩
      case round =>
       clear hO0
       obtain ⟨i,a',n',c',rfl,rfl,hi,hE,out,hO,HC⟩:=hrel
       by_cases hlt:i<kn
       · have HMK:=qh (HPW.out.step i (by simpa using hlt) out HC.out.1 HC.out.2)
         have HLO:=qh (And.intro hO.len hL4.len)
         have hpr:=qh (poly_product ((hT.ext hEw4).ext hE) hO.sl (hL4.ext hE) HMK.out.ba HMK.out.bb HMK.out.ea HMK.out.eb (by have:=HMK.out.na; have:=HLO.out.1; omega) (by have:=HMK.out.nb; have:=HLO.out.2; omega) (by have:=HMK.out.fits.len; rw [prodT_len] at this; have h1:=HLO.out.1; have h2:=HLO.out.2; rw [←h1,←h2]; exact this) HMK.out.lla HMK.out.llb)
         go_wp2_with fail
         refine hpr.out.mono ?_
         rintro e w7 ⟨out7,⟨a7,n7,c7,rfl,hE7,hO7⟩,h71,h72⟩
         go_wp2
         go_roundw
         case rel=>exact ⟨i+1,a7,n7,c7,by go_num,rfl,by omega,hE.trans hE7,out7,hO7.mono hE.size,qh ⟨h71,fun e=>by rw [h72]; exact Pl.coef_prod_ext HC.out.2 (fun _=>rfl) e⟩⟩
         case measure=>simp [intOf]; omega
       · have hik:i=kn:=by omega
         subst hik
         have hfo:=qh (HPW.out.fits.out HC.out.1 (by simpa using HC.out.2))
         have hlo:=hO.len
         have hwr:=qh (poly_write (vars:=vn) (w0:=w4) (hT.ext hEw4) hE hO (by omega) hfo.out.1 hfo.out.2.1 (by have:=hfo.out.2.2; omega))
         have p00:=hE.cell p00
         have hRr:=hR4.ext hE
         go_wp2_with fail
         refine hwr.out.mono ?_
         intro e w7 hw
         have hq:=RetWr.q (p:=Pl.powT l i) hw HC.out.1 HC.out.2
         obtain ⟨rr,HRR⟩:∃ r,Hid (resQ (vn:Int) (Pl.powT l i)=r):=⟨_,qh rfl⟩
         rw [HRR.out] at hq
         obtain ⟨a7,n7,c7,rfl,hE7,hO7⟩:=hq
         have hpv:polyV rr.1 a7 n7 c7 = .agg #[.int .i64 rr.1, .slice a7 n7 c7]:=rfl
         rw [hpv]
         have hpl:(polyL rr.1 a7 n7 c7).toArray=#[.int .i64 rr.1, .slice a7 n7 c7]:=rfl
         have hR7:=hR4.ext hE7
         clear hw hwr hfo
         go_wp2_with (refine wl_stArr (vs:=polyL rr.1 a7 n7 c7) rfl rfl rfl rfl rfl agg_Poly hR7 rfl (polyL_one _ _ _ _) ?_; intro w8 hB8 hg8)
         refine bodyPost_ret (res_ct rfl agg_Poly rfl rfl hB8) rfl ?_
         exact Or.inr ⟨l,rfl,Or.inr (Or.inr ⟨HK.out,(by first | exact HBG.out | exact Int.not_lt.2 HBG.out),by rw [Int.toNat_natCast,HRR.out]; exact ⟨a7,n7,c7,rfl,(hEw4.trans hE7).grownR hg8 (by omega),(hO7.mono hEw4.size).keptA hR7 hg8⟩⟩)⟩
  · have HK:=qh hk
    by_cases hk0:k<0
    · clear hk
      go_wp2_with (refine wl_stArr (vs:=polyL 0 none 0 0) rfl rfl rfl rfl rfl agg_Poly hR3 rfl (polyL_one _ _ _ _) ?_; intro w9 hB9 hg9)
      refine bodyPost_ret (res_ct rfl agg_Poly rfl rfl hB9) rfl ?_
      exact Or.inr ⟨l,rfl,Or.inl ⟨HK.out,none,0,0,rfl,hEw.grownR hg9 (by omega),TmO.nil _ _⟩⟩
    · have hk1:24<k:=by omega
      clear hk
      go_wp2_with (refine wl_stArr (vs:=polyL 0 none 0 0) rfl rfl rfl rfl rfl agg_Poly hR3 rfl (polyL_one _ _ _ _) ?_; intro w9 hB9 hg9)
      refine bodyPost_ret (res_ct rfl agg_Poly rfl rfl hB9) rfl ?_
      exact Or.inr ⟨l,rfl,Or.inl ⟨HK.out,none,0,0,rfl,hEw.grownR hg9 (by omega),TmO.nil _ _⟩⟩
end Go.Proofs.YtbiifaciddajnaaGreatDoor
namespace Go.Proofs.YtbiifaciddajnaaGreatDoor
open Go Go.RowKit
theorem TmSl.nil (w:World):TmSl w none 0 0 []:=⟨[],SlK.nil w 2,rfl,fun i hi=>absurd hi (by omega)⟩
theorem rdP_nil {va:Int} (h:0≤va∧va≤6):rdP va []=some []:=by
 obtain ⟨k,rfl⟩:∃ k:Nat,va=(k:Int):=⟨va.toNat,by omega⟩
 have:=rdP_back (vars:=k) (l:=[]) (by omega) (Pl.Canon.nil 6) ⟨by simp,fun t r e=>by cases e⟩ (by simp)
 exact this
theorem txt_den10 {q:Rat} (h:(txt q).length≤12):q.den<P2 34:=by
 have e:(10:Nat)^10≤P2 34:=by unfold P2; decide
 by_cases hd:q.den=1
 · rw [hd]
   exact Nat.lt_of_lt_of_le (by decide) e
 · have h3:=dec_bnd q.den
   have h4:(Lib.decDigits q.den).length≤10:=by
    unfold txt at h
    rw [if_neg hd] at h
    have h5:0<(Lib.itoa q.num).length:=by
     unfold Lib.itoa
     split
     · simp
     · exact List.length_pos_iff.2 (W.dec_ne _)
    simp at h
    omega
   exact Nat.lt_of_lt_of_le h3 (Nat.le_trans (Nat.pow_le_pow_right (by omega) h4) e)
theorem degL_le {B:Int} (hB : -1≤B):∀ {l:List Pl.Tm},(∀ t∈l,t.1.sum≤B)→degL l≤B:=by
 have key:∀ (l:List Pl.Tm) (m:Int),m≤B→(∀ t∈l,t.1.sum≤B)→l.foldl (fun m t=>max m t.1.sum) m≤B:=by
  intro l
  induction l with
  | nil=>intro m h _; exact h
  | cons t r ih =>
   intro m h1 h2
   rw [List.foldl_cons]
   have:=h2 t (by simp)
   exact ih _ (by omega) (fun s hs=>h2 s (by simp [hs]))
 intro l h
 exact key l (-1) hB h
theorem rdP_deg {va:Int} {ts:List Tx} {l:List Pl.Tm} (h:rdP va ts=some l):degL l≤24:=by
 refine degL_le (by omega) ?_
 have hc:=rdP_canon h
 have hk:=rdP_okW h
 cases l with
 | nil=>simp
 | cons t r =>
  intro s hs
  have h1:=canon_sum hc s hs
  have h2:=(validS_iff.1 (hk.2 t r rfl)).2.2
  omega
section
variable {va:Int} {ts:List Tx} {l:List Pl.Tm}
theorem own_str (h:rdP va ts=some l) (hs:smallP ts 6 12):∀ t∈l,StrOK t.2∧∀ x∈t.1,0≤x∧x≤1099511627776:=fun t ht =>
 ⟨RB.str (rdP_RB h (k:=12) (fun t ht=>(hs.2 t ht).1) t ht) (by omega),(rdP_small h t ht).2⟩
theorem own_fits (h:rdP va ts=some l) (hs:smallP ts 6 12) {p:List Pl.Tm} (hc:∀ e,Pl.coef p e=Pl.coef l e) (hp:p.length≤1000000):FitsP p:=fits_of hc (rdP_canon h) (own_str h hs) hp
theorem own_len (h:rdP va ts=some l) (hs:smallP ts 6 12):l.length≤6:=by rw [rdP_len h]; exact hs.1
theorem small570 {nt d:Nat} (hs:smallP ts nt d) (hd:d≤570):∀ t∈ts,t.1.length≤570:=fun t ht=>Nat.le_trans (hs.2 t ht).1 hd
theorem own_sum (h:rdP va ts=some l) (hs:smallP ts 6 12):SumOK (l ++ []):=by
 rw [List.append_nil]
 have hl:=own_len h hs
 refine sumOK_of (b:=48) (by omega) (rdP_RB h (k:=12) (fun t ht=>(hs.2 t ht).1)) (by omega) (own_fits h hs (fun _=>rfl) (by omega))
theorem constL_mem {out:List Pl.Tm} (hn:Pl.Nrm out) (hc:∀ e,Pl.coef out e=Pl.coef (constL 1) e):(∀ t∈out,t.1=[0,0,0,0,0,0]∧t.2=1)∧out.length≤1:=by
 have e1:constL 1=[([0,0,0,0,0,0],1)]:=by unfold constL; rw [if_neg (by decide)]
 have key:∀ t∈out,t.1=[0,0,0,0,0,0]∧t.2=1:=by
  intro t ht
  have h1:=nrm_coef hn hc ht
  have h2:=hn.nz t ht
  rw [e1] at h1
  unfold Pl.coef at h1
  by_cases h3:[0,0,0,0,0,0]=t.1
  · rw [if_pos h3] at h1
    refine ⟨h3.symm, ?_⟩
    rw [←h1]
    exact Rat.add_zero _
  · rw [if_neg h3] at h1
    exact absurd (h1.symm.trans (Rat.add_zero _)) h2
 refine ⟨key, ?_⟩
 have:=Pl.nodup_le (out.map (·.1)) [[0,0,0,0,0,0]] hn.nodup (fun x hx=>by
  obtain ⟨t,ht,rfl⟩:=List.mem_map.1 hx
  rw [(key t ht).1]
  simp)
 simpa using this
theorem own_pow (h:rdP va ts=some l) (hs:smallP ts 6 12):PowOK l 1 where
 step:=by
  intro i hi out hn hc
  have hi0:i=0:=by omega
  subst hi0
  obtain ⟨h1,h2⟩:=constL_mem hn hc
  have hl:=own_len h hs
  have hRB:=rdP_RB h (k:=12) (fun t ht=>(hs.2 t ht).1)
  refine ⟨fun t ht => ?_,fun t ht=>(hRB t ht).mono (by omega),fun t ht => ?_,rdP_small h, ?_, ?_,by omega,by omega, ?_⟩
  · rw [(h1 t ht).2]
    exact RB_lit (by decide) (by decide) (by omega)
  · rw [(h1 t ht).1]
    exact ⟨rfl,by decide⟩
  · refine P2_lt (lcmD_bnd (b:=1) ?_) (by simp; omega)
    intro q hq
    obtain ⟨t,ht,rfl⟩:=List.mem_map.1 hq
    rw [(h1 t ht).2]
    unfold P2
    decide
  · refine P2_lt (lcmD_bnd (b:=34) ?_) (by simp; omega)
    intro q hq
    obtain ⟨m,hm,rfl⟩:=List.mem_map.1 hq
    obtain ⟨t,ht,hr⟩:=rdP_mem h hm
    have h3:=readQ_eq (rdT_parts hr).1
    exact txt_den10 (by rw [←h3]; exact (hs.2 t ht).1)
  · refine own_fits h hs (fun e => ?_) (by
     rw [prodT_len]
     have:=Nat.mul_le_mul h2 hl
     omega)
    rw [Pl.coef_prod_ext hc (fun _=>rfl) e]
    show Pl.coef (Pl.prodT (constL 1) l) e=_
    rw [prodT_one (rdP_canon h).len]
 fits:=by
  refine own_fits h hs (fun e => ?_) ?_
  · show Pl.coef (Pl.prodT (constL 1) l) e=_
    rw [prodT_one (rdP_canon h).len]
  · show (Pl.prodT (constL 1) l).length≤_
    rw [prodT_one (rdP_canon h).len]
    have:=own_len h hs
    omega
theorem own_Add {a:Option Addr} {n c:Nat} {w:World} (hT:Tabs w) (hx:TmSl w a n c ts) (h:rdP va ts=some l) (hs:smallP ts 6 12) :
 Calls Tryz.prog 18 #[.agg #[.int .i64 va, .slice a n c], .agg #[.int .i64 va, .slice none 0 0]] w (RetP w va ts 0):=by
 have hn:=rdP_nil (rdP_parts h).1
 refine (poly_Add (va:=va) (vb:=va) hT hx (TmSl.nil w) (small570 hs (by omega)) (by simp) (fun la lb h1 h2 _=>by
  rw [h] at h1
  rw [hn] at h2
  cases h1; cases h2
  exact own_sum h hs)).mono ?_
 intro e w' hr
 rw [h,hn] at hr
 rcases hr with ⟨la,lb,h1,h2,_,hr⟩|⟨_,hr,_⟩|⟨hr,_⟩
 · cases h1; cases h2
   rw [rdP_resQ h (fun e=>by rw [List.append_nil])] at hr
   exact hr
 · exact absurd rfl hr
 · simp at hr
theorem own_Scale {a:Option Addr} {n c:Nat} {w:World} (hT:Tabs w) (hx:TmSl w a n c ts) (h:rdP va ts=some l) (hs:smallP ts 6 12) :
 Calls Tryz.prog 49 #[.string ⟨#[49]⟩, .agg #[.int .i64 va, .slice a n c]] w (RetP w va ts 0):=by
 have hq:readQ (strL ⟨#[49]⟩)=some 1:=Aw.rd_1
 refine (poly_Scale (s:=⟨#[49]⟩) (va:=va) hT hx (by decide) (small570 hs (by omega)) (fun q la h1 h2=>by
  rw [hq] at h1
  rw [h] at h2
  cases h1; cases h2
  rw [sclR_one]
  exact own_fits h hs (fun _=>rfl) (by have:=own_len h hs; omega))).mono ?_
 intro e w' hr
 rw [h,hq] at hr
 rcases hr with ⟨q,la,h1,h2,hr⟩|⟨hr,_⟩
 · cases h1; cases h2
   rw [rdP_resQ h (fun e=>by rw [sclR_one])] at hr
   exact hr
 · simp at hr
theorem own_Pow {a:Option Addr} {n c:Nat} {w:World} (hT:Tabs w) (hx:TmSl w a n c ts) (h:rdP va ts=some l) (hs:smallP ts 6 12) :
 Calls Tryz.prog 43 #[.agg #[.int .i64 va, .slice a n c], .int .i64 1] w (RetP w va ts 0):=by
 refine (poly_Pow (va:=va) (k:=1) hT hx (small570 hs (by omega)) (fun la h1 _ _ _=>by
  rw [h] at h1
  cases h1
  exact own_pow h hs)).mono ?_
 intro e w' hr
 rw [h] at hr
 rcases hr with ⟨hr,_⟩|⟨la,h1,hr⟩
 · cases hr
 · cases h1
   rcases hr with ⟨hr,_⟩|⟨_,hr,_⟩|⟨_,_,hr⟩
   · exact absurd ⟨by omega,by omega⟩ hr
   · have:=rdP_deg h
     omega
   · have hc:∀ e,Pl.coef (Pl.powT l (1:Int).toNat) e=Pl.coef l e:=fun e=>by
      show Pl.coef (Pl.prodT (constL 1) l) e=_
      rw [prodT_one (rdP_canon h).len]
     rw [rdP_resQ h hc] at hr
     exact hr
end
end Go.Proofs.YtbiifaciddajnaaGreatDoor
