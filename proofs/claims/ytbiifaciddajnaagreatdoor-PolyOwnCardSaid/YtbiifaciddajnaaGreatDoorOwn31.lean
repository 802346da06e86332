/- Part Own31. -/
import Derived.Test.YtbiifaciddajnaaGreatDoorOwn29
import Derived.Test.YtbiifaciddajnaaGreatDoorOwn30
set_option maxRecDepth 100000
set_option maxHeartbeats 100000000
namespace Go.Proofs.YtbiifaciddajnaaGreatDoor
open Go Go.RowKit
theorem info_int:Elem1 Tryz.prog 3 (.int .i64 0) 8:=by unfold Elem1; kernel_rfl
theorem keep_OwnInts {a:Option Addr} {n c:Nat} {xs:List Int} {w:World} (hx:SlI w a n c xs) (hn:n≤1000000) :
 Calls Tryz.prog 98 #[.slice a n c] w fun e w'=>∃ a' n' c',e = .returned (.slice a' n' c')∧Ext w w'∧Own w' w.heap.size 3 a' n' c' (xs.map (Value.int .i64)):=by
 have hA:=own_alloc w w.heap.size 3 #[] 0 rfl (Nat.le_refl _) (by omega)
 have hL:=Sl.alloc hx (.cells #[] 3)
 have h1:∀ u∈xs.map (Value.int .i64),u.oneCell'=true:=ints_one xs
 have hE:=(Ext.refl w).alloc (.cells #[] 3)
 go_enter Tryz.func98,Tryz.ntmps98
 go_wp2_with (refine wl_app rfl rfl Tryz.underlying33 info_int rfl rfl hA rfl hL h1 (by unfold maxLen; omega) (by omega) (by simp) ?_; intro a7 c7 w7 hO7 hg7 hb7)
 go_ret
 rw [Nat.zero_add] at hO7
 exact ⟨a7,n,c7,rfl,hE.grown hg7 (fun k hk=>(hA.lt hk).1),hO7⟩
def NOi (w0:World) (xs:List Int) (v:Value) (w:World):Prop:=∃ a n c,v = .slice a n c∧Own w w0.heap.size 3 a n c (xs.map (Value.int .i64))
theorem NOi.x (w0:World) (xs:List Int):StX (NOi w0 xs):=fun _ _ _ x ⟨a,n,c,h1,h2⟩=>⟨a,n,c,h1,h2.ext x⟩
def NTm (w0:World) (s:ByteArray) (xs:List Int) (v:Value) (w:World):Prop:=∃ a n c,v = .agg (tmL s a n c).toArray∧Own w w0.heap.size 3 a n c (xs.map (Value.int .i64))
theorem NTm.x (w0:World) (s:ByteArray) (xs:List Int):StX (NTm w0 s xs):=fun _ _ _ x ⟨a,n,c,h1,h2⟩=>⟨a,n,c,h1,h2.ext x⟩
def NTs (w0:World) (s:ByteArray) (xs:List Int) (v:Value) (w:World):Prop:=∃ Z a n c,v = .slice (some ⟨Z,0,none⟩) 1 1∧Arr w Z 35 (tmL s a n c)∧Own w w0.heap.size 3 a n c (xs.map (Value.int .i64))
theorem NTs.x (w0:World) (s:ByteArray) (xs:List Int):StX (NTs w0 s xs):=fun _ _ _ x ⟨Z,a,n,c,h1,h2,h3⟩=>⟨Z,a,n,c,h1,h2.ext x,h3.ext x⟩
theorem own_ne_ownK' {w:World} {b b':Nat} {e e':TypeId} {k n c n' c':Nat} {a a':Option Addr} {cs:List Value} {rows:List (List Value)} (h:Own w b e a n c cs) (h':OwnK w b' e' k a' n' c' rows) (hne:e≠e'):blk a=none∨blk a≠blk a':=by
 rcases h.2 with ⟨hv,_⟩|⟨g,cap,cur,hv,_,hh,_⟩
 · simp only [Value.slice.injEq] at hv
   rw [hv.1]; left; rfl
 · right
   rcases h'.2.2 with ⟨hv',_⟩|⟨g',cap',cur',hv',_,hh',_⟩
   · simp only [Value.slice.injEq] at hv hv'
     rw [hv.1,hv'.1]; simp [blk]
   · simp only [Value.slice.injEq] at hv hv'
     rw [hv.1,hv'.1]
     intro he
     have hg:g=g':=by simpa [blk] using he
     subst hg
     rw [hh] at hh'
     simp only [Option.some.injEq,Obj.cells.injEq] at hh'
     exact hne hh'.2.1
theorem cell_grown {w w':World} {row:Option Nat} {p:Addr} {v:Value} (hg:w.grownBy w' row) (hp:w.cell? p=some v) (hne:some p.block≠row):w'.cell? p=some v:=by
 rw [World.cell?_of_block (hg.block _ (World.block_lt_of_cell? w p hp) hne),hp]
theorem TmOr.kept {w w':World} {b:Nat} {r:List Value} {t:Tx} {row:Option Nat} (h:TmOr w b r t) (hg:w.grownBy w' row) (hne:∀ a n c cs,Own w b 3 a n c cs→blk a=none∨blk a≠row):TmOr w' b r t:=by
 obtain ⟨s,a,n,c,h1,h2,h3⟩:=h
 exact ⟨s,a,n,c,h1,h2,h3.kept hg (hne _ _ _ _ h3)⟩
def RetPo (w:World) (va:Int) (ts:List Tx) (e:Ending) (w':World):Prop:=∃ a n c,e = .returned (polyV va a n c)∧Ext w w'∧TmO w' w.heap.size a n c ts
theorem keep_OwnPoly {va:Int} {a:Option Addr} {n c:Nat} {ts:List Tx} {w:World} (hx:TmSl w a n c ts) (hn:n≤10000) (hs:∀ t∈ts,t.2.length≤10000) :
 Calls Tryz.prog 50 #[.agg #[.int .i64 va, .slice a n c]] w (RetPo w va ts):=by
 have hlx:=hx.len
 obtain ⟨rx,hX,_,hqx⟩:=hx
 have HQX:=qh hqx
 have HLX:=qh hlx
 have HS:=qh hs
 clear hqx hlx hs
 go_enter Tryz.func50,Tryz.ntmps50
 go_upto_region 1 with (fail)
 refine box2 ?_
 intro w0 hE0 hB0 hB1 hz0
 have p00:w0.cell? ⟨w.heap.size,0,none⟩=some (.int .i64 va):=hB0.cell (i:=0) (by simp)
 have p01:w0.cell? ⟨w.heap.size,1,none⟩=some (.slice a n c):=hB0.cell (i:=1) (by simp)
 have hR:Arr w0 (w.heap.size+1) 24 (polyL 0 none 0 0):=hB1
 clear hB0 hB1 hz0
 have hY:=Arr.new w0 24 (polyL 0 none 0 0)
 have hpl:(polyL va none 0 0).toArray=#[.int .i64 va, .slice none 0 0]:=rfl
 go_upto_region 2 with (refine wl_stArr (vs:=polyL va none 0 0) rfl rfl rfl rfl rfl agg_Poly hY rfl (polyL_one _ _ _ _) ?_; intro w1 hB1 hg1)
 have hE1:Ext w0 w1:=((Ext.refl w0).alloc _).grownR hg1 (Nat.le_refl _)
 have hEw:=hE0.trans hE1
 have hR1:=hR.ext hE1
 have p01:=hE1.cell p01
 have hOl:=hB1.lt
 have hRO:w.heap.size+1<w0.heap.size:=hR.lt
 obtain ⟨O,hOe⟩:∃ x,w0.heap.size=x:=⟨_,rfl⟩
 rw [hOe] at hB1 hOl hRO ⊢
 clear hY hg1 hpl hR hE1 hE0 hOe p00
 go_wp2
 go_loopw [4] (fun iv wr=>∃ (k:Nat) (a':Option Addr) (c':Nat) (rs:List (List Value)),iv = .int .i64 k∧k≤n∧Ext w wr∧Arr wr (w.heap.size+1) 24 (polyL 0 none 0 0)∧wr.cell? ⟨w.heap.size,1,none⟩=some (.slice a n c)∧w1.heap.size≤wr.heap.size∧Arr wr O 24 (polyL va a' k c')∧OwnK wr w1.heap.size 35 2 a' k c' rs∧Hid (∀ i,i<k→TmOr wr w1.heap.size (rs.getD i []) (ts.getD i tm0))) (fun iv _=>n-(intOf iv).toNat)
 case atStart=>exact ⟨0,none,0,[],rfl,Nat.zero_le _,hEw,hR1,p01,Nat.le_refl _,hB1,OwnK.nil _ _ _ _,qh (fun i hi=>absurd hi (by omega))⟩
 case round =>
  clear hB1 hR1 p01 hEw
  obtain ⟨k,a',c',rs,rfl,hk,hE,hR,q01,hszb,hB,hO,HT⟩:=hrel
  have y0:wr.cell? ⟨O,0,none⟩=some (.int .i64 va):=hB.cell (i:=0) (by simp [polyL])
  have y1:wr.cell? ⟨O,1,none⟩=some (.slice a' k c'):=hB.cell (i:=1) (by simp [polyL])
  by_cases hlt:k<n
  · obtain ⟨b1,o1,rfl,hc1⟩:=(hX.ext hE).rd (by omega)
    obtain ⟨s1,ax,nx,cx,hr1,hs1,hx1⟩:=HQX.out k hlt
    have x0:=hc1 k hlt 0 (by omega)
    have x1:=hc1 k hlt 1 (by omega)
    rw [hr1] at x0 x1
    simp only [List.getD_cons_zero,List.getD_cons_succ,Nat.add_zero] at x0 x1
    have hln:=hx1.len
    have HLN:Hid ((ts.getD k tm0).2.length≤10000):=qh (HS.out _ (by simp [List.getD_eq_getElem?_getD,HLX.out,hlt]))
    have hn1:nx≤1000000:=by have:=HLN.out; omega
    have HOI:=fun (wx:World) (hC:Ext wr wx)=>qh (keep_OwnInts ((hx1.ext hE).ext hC) hn1)
    have HTS:Hid (strL s1=(ts.getD k tm0).1):=qh hs1
    obtain ⟨e1,HE1⟩:∃ e1,Hid ((ts.getD k tm0).2=e1):=⟨_,qh rfl⟩
    rw [HE1.out] at HOI
    clear hc1 hr1 hs1 hx1 hln
    go_wp2
    have HF1:=fun (wx:World) (hC:Ext wr wx)=>qh (And.intro (hC.cell q01) (And.intro (hC.cell y1) (And.intro (hC.cell x0) (hC.cell x1))))
    refine wp_region_typed7 (by kernel_rfl) (fun wx=>Ext wr wx)
     [he (.pointer (some ⟨O,1,none⟩)),
 he (.slice a' k c'),
 he (.pointer (some ⟨w.heap.size,1,none⟩)),
 he (.slice (some ⟨b1,o1,none⟩) n c),
 he (.int .i64 (k:Int)),
 he (.pointer (some ⟨b1,(o1+k*2),none⟩)),
 he (.pointer (some ⟨b1,(o1+k*2),none⟩)),
 he (.string s1),
 he (.pointer (some ⟨w.heap.size,1,none⟩)),
 he (.slice (some ⟨b1,o1,none⟩) n c),
 he (.int .i64 (k:Int)),
 he (.pointer (some ⟨b1,(o1+k*2),none⟩)),
 he (.pointer (some ⟨b1,((o1+k*2)+1),none⟩)),
 he (.slice ax nx cx),
 hp (fun v wx=>NOi w1 e1 v wx),
 hp (fun v wx=>NTm w1 s1 e1 v wx),
 hp (fun v wx=>NTs w1 s1 e1 v wx)]
     (by kernel_rfl) (fun _ _ e h=>h.trans e) ((Ext.refl wr).drew) ⟨trivial,trivial,trivial,trivial,trivial,trivial,trivial,trivial,trivial,trivial,trivial,trivial,trivial,trivial,NOi.x _ _,NTm.x _ _ _,NTs.x _ _ _,trivial⟩ ⟨?o0, ?o1, ?o2, ?o3, ?o4, ?o5, ?o6, ?o7, ?o8, ?o9, ?o10, ?o11, ?o12, ?o13, ?o14, ?o15, ?o16,trivial⟩ ?fin
    case o0 =>
     refine obl_pq rfl fun ρ wx hC hcst h => ?_
     have e0:ρ (.tmp 3)=(.pointer (some ⟨O,0,none⟩)):=h.1
     obtain ⟨k0,k1,k2,k3⟩:=(HF1 wx hC).out
     go_simp
    case o1 =>
     refine obl_pq rfl fun ρ wx hC hcst h => ?_
     have e0:ρ (.tmp 15)=(.pointer (some ⟨O,1,none⟩)):=h.1
     obtain ⟨k0,k1,k2,k3⟩:=(HF1 wx hC).out
     go_simp
    case o2 =>
     refine obl_pq rfl fun ρ wx hC hcst h => ?_
     have e0:ρ (.tmp 1)=(.pointer (some ⟨w.heap.size,0,none⟩)):=h.1
     obtain ⟨k0,k1,k2,k3⟩:=(HF1 wx hC).out
     go_simp
    case o3 =>
     refine obl_pq rfl fun ρ wx hC hcst h => ?_
     have e0:ρ (.tmp 17)=(.pointer (some ⟨w.heap.size,1,none⟩)):=h.1
     obtain ⟨k0,k1,k2,k3⟩:=(HF1 wx hC).out
     go_simp
    case o4=>exact obl_pmove rfl (.inl rfl) (fun _ _ _ h=>h.1)
    case o5 =>
     refine obl_pq rfl fun ρ wx hC hcst h => ?_
     have e0:ρ (.tmp 18)=(.slice (some ⟨b1,o1,none⟩) n c):=h.1
     have e1:ρ (.tmp 19)=(.int .i64 (k:Int)):=h.2.1
     obtain ⟨k0,k1,k2,k3⟩:=(HF1 wx hC).out
     go_simp
     try (first | (intros; omega) | exact IntWalk.i64_in _ (by omega))
    case o6 =>
     refine obl_pq rfl fun ρ wx hC hcst h => ?_
     have e0:ρ (.tmp 20)=(.pointer (some ⟨b1,(o1+k*2),none⟩)):=h.1
     obtain ⟨k0,k1,k2,k3⟩:=(HF1 wx hC).out
     go_simp
    case o7 =>
     refine obl_pq rfl fun ρ wx hC hcst h => ?_
     have e0:ρ (.tmp 21)=(.pointer (some ⟨b1,(o1+k*2),none⟩)):=h.1
     obtain ⟨k0,k1,k2,k3⟩:=(HF1 wx hC).out
     go_simp
    case o8 =>
     refine obl_pq rfl fun ρ wx hC hcst h => ?_
     have e0:ρ (.tmp 1)=(.pointer (some ⟨w.heap.size,0,none⟩)):=h.1
     obtain ⟨k0,k1,k2,k3⟩:=(HF1 wx hC).out
     go_simp
    case o9 =>
     refine obl_pq rfl fun ρ wx hC hcst h => ?_
     have e0:ρ (.tmp 23)=(.pointer (some ⟨w.heap.size,1,none⟩)):=h.1
     obtain ⟨k0,k1,k2,k3⟩:=(HF1 wx hC).out
     go_simp
    case o10=>exact obl_pmove rfl (.inl rfl) (fun _ _ _ h=>h.1)
    case o11 =>
     refine obl_pq rfl fun ρ wx hC hcst h => ?_
     have e0:ρ (.tmp 24)=(.slice (some ⟨b1,o1,none⟩) n c):=h.1
     have e1:ρ (.tmp 25)=(.int .i64 (k:Int)):=h.2.1
     obtain ⟨k0,k1,k2,k3⟩:=(HF1 wx hC).out
     go_simp
     try (first | (intros; omega) | exact IntWalk.i64_in _ (by omega))
    case o12 =>
     refine obl_pq rfl fun ρ wx hC hcst h => ?_
     have e0:ρ (.tmp 26)=(.pointer (some ⟨b1,(o1+k*2),none⟩)):=h.1
     obtain ⟨k0,k1,k2,k3⟩:=(HF1 wx hC).out
     go_simp
    case o13 =>
     refine obl_pq rfl fun ρ wx hC hcst h => ?_
     have e0:ρ (.tmp 27)=(.pointer (some ⟨b1,((o1+k*2)+1),none⟩)):=h.1
     obtain ⟨k0,k1,k2,k3⟩:=(HF1 wx hC).out
     go_simp
    case o14 =>
     refine obl_cq rfl fun ρ wx hC hcst hfn h => ?_
     have e1:ρ (.tmp 28)=(.slice ax nx cx):=h.2.1
     obtain ⟨k0,k1,k2,k3⟩:=(HF1 wx hC).out
     refine ⟨98,#[.slice ax nx cx],by go_simp,((HOI wx hC).out).mono ?_⟩
     rintro e w' ⟨a7,n7,c7,rfl,hE7,hO7⟩
     exact ⟨_,rfl,hE7,a7,n7,c7,rfl,hO7.mono (Nat.le_trans hszb hC.size)⟩
    case o15 =>
     refine obl_ext rfl ?_
     intro ρ wx hp hC h
     have hcst:=hp.const
     have hfn:=hp.func
     have e0:ρ (.tmp 22)=(.string s1):=h.1
     obtain ⟨v1,e1,a1,n1,c1,rfl,f1⟩:=h.2.1
     obtain ⟨k0,k1,k2,k3⟩:=(HF1 wx hC).out
     refine ⟨.agg #[.string s1, .slice a1 n1 c1],wx,by go_simp,Ext.refl _,a1,n1,c1,rfl,f1⟩
    case o16 =>
     refine obl_ext rfl ?_
     intro ρ wx hp hC h
     have hcst:=hp.const
     have hfn:=hp.func
     obtain ⟨v0,e0,a0,n0,c0,rfl,f0⟩:=h.1
     obtain ⟨k0,k1,k2,k3⟩:=(HF1 wx hC).out
     have hl1:(tmL s1 a0 n0 c0).toArray=#[.string s1, .slice a0 n0 c0]:=rfl
     rw [hl1] at e0
     refine ⟨.slice (some ⟨wx.heap.size,0,none⟩) 1 1,wx.alloc (.cells #[.string s1, .slice a0 n0 c0] 35),by go_simp,(Ext.refl _).alloc _,wx.heap.size,a0,n0,c0,rfl,Arr.new wx _ (tmL s1 a0 n0 c0),f0.ext ((Ext.refl _).alloc _)⟩
    case fin =>
     intro wx hC
     rintro _ ⟨_,_,_,rfl,_⟩
     rintro _ ⟨_,_,_,rfl,_⟩
     rintro _ ⟨Z9,a9,n9,c9,rfl,hZ9,hO9⟩
     change wpList _ _ _ _ _ _
     simp only [List.length_cons,List.length_nil,List.drop_succ_cons,List.drop_zero,Act.put,List.setIfInBounds_toArray,List.set_cons_succ,List.set_cons_zero]
     have hOx:=hO.ext hC
     have hBx:=hB.ext hC
     have hL9:=slk_one (k:=2) hZ9 rfl
     have hsx:w1.heap.size≤wx.heap.size:=Nat.le_trans hszb hC.size
     have hrl:=hOx.len (by omega)
     have hOb:=fun g (hg:blk a'=some g)=>(hOx.lt hg).1
     have hOne:blk a'≠some O:=fun h=>by have:=hOb O h; omega
     go_wp2_with (refine wl_appK rfl rfl (by kernel_rfl) elem_Term rfl hOx rfl hL9 (by intro r hr u hu; rw [List.mem_singleton.1 hr] at hu; exact tmL_one _ _ _ _ u hu) (by have:=HLX.out; unfold maxLen; omega) (by have:=HLX.out; omega) hsx ?_; intro a11 c11 w11 hO11 hg11 hb11; have hB11:=hBx.kept hg11 (fun h=>hOne h.symm); have ff11:=hB11.frozen 1; have z11:w11.cell? ⟨O,1,none⟩=some (.slice a' k c'):=hB11.cell (i:=1) (by simp [polyL]))
     have hgs:=grown_setCell w11 O 1 (.slice a11 (k+1) c11)
     go_roundw
     case rel =>
      have hRx:=((hR.ext hC).kept hg11 (fun h=>by have:=hOb _ h.symm; omega)).kept hgs (by simp; omega)
      have hEx:=((hE.trans hC).grown hg11 (fun g hg=>by have:=hOb g hg; omega)).grownR hgs (by omega)
      have hob11:blk a11=none∨blk a11≠some O:=Or.inr (fun h=>by have:=(hO11.lt h).1; omega)
      have hcell:=cell_grown hgs (cell_grown hg11 (hC.cell q01) (fun h=>by have:=hOb w.heap.size h.symm; omega)) (by simp; omega)
      have hO9k:=(hO9.kept hg11 (own_ne_ownK' hO9 hOx (by decide))).kept hgs (Or.inr (own_ne_arr' (hO9.kept hg11 (own_ne_ownK' hO9 hOx (by decide))) hB11 (by decide)))
      refine ⟨k+1,a11,c11,rs ++ [tmL s1 a9 n9 c9],by go_num,by omega,hEx,hRx, ?_, ?_,hB11.set 1 (.slice a11 (k+1) c11),hO11.kept hgs hob11,qh fun i hi => ?_⟩
      · exact hcell
      · exact Nat.le_trans hsx (Nat.le_trans hg11.size hgs.size)
      · by_cases hik:i=k
        · subst hik
          rw [List.getD_eq_getElem?_getD,List.getElem?_append_right (by omega),hrl,Nat.sub_self]
          exact ⟨s1,a9,n9,c9,rfl,HTS.out,by rw [HE1.out]; exact hO9k⟩
        · rw [List.getD_eq_getElem?_getD,List.getElem?_append_left (by omega),←List.getD_eq_getElem?_getD]
          exact (((HT.out i (by omega)).ext hC).kept hg11 (fun _ _ _ _ h=>own_ne_ownK' h hOx (by decide))).kept hgs (fun _ _ _ _ h=>Or.inr (own_ne_arr' h hB11 (by decide)))
     case measure=>simp [intOf]; omega
  · have hkn:k=n:=by omega
    subst hkn
    have hpo:polyV va a' k c' = .agg #[.int .i64 va, .slice a' k c']:=rfl
    have hpl:(polyL va a' k c').toArray=#[.int .i64 va, .slice a' k c']:=rfl
    go_wp2_with (refine wl_stArr (vs:=polyL va a' k c') rfl rfl rfl rfl rfl agg_Poly hR rfl (polyL_one _ _ _ _) ?_; intro w9 hB9 hg9)
    refine bodyPost_ret (v:=polyV va a' k c') (res_arr rfl agg_Poly rfl hB9) rfl ?_
    have hTO:TmO wr w1.heap.size a' k c' ts:=⟨rs,hO,HLX.out,HT.out⟩
    exact ⟨a',k,c',rfl,hE.grownR hg9 (by omega),(hTO.mono (by omega)).keptA hR hg9⟩
end Go.Proofs.YtbiifaciddajnaaGreatDoor
namespace Go.Proofs.YtbiifaciddajnaaGreatDoor
open Go Go.RowKit
theorem arr_ne {w:World} {g g':Nat} {t t':TypeId} {cs cs':List Value} (h:Arr w g t cs) (h':Arr w g' t' cs') (ht:t≠t'):g≠g':=by
 rintro rfl
 unfold Arr at h h'
 rw [h] at h'
 simp only [Option.some.injEq,Obj.cells.injEq] at h'
 exact ht h'.2.1
def ExF (w:World) (S:Nat→Prop) (a:Option Addr) (c:Nat):Prop:=(a=none∧c=0)∨∃ g cs,a=some ⟨g,0,none⟩∧S g∧Arr w g 3 cs∧cs.length=c∧c≤maxLen
theorem ExF.of {w:World} {base:Nat} {S:Nat→Prop} {a:Option Addr} {n c:Nat} {xs:List Value} (hS:∀ g,base≤g→g<w.heap.size→S g) (h:Own w base 3 a n c xs):n≤c∧ExF w S a c:=by
 refine ⟨h.cap, ?_⟩
 rcases h.2 with ⟨hv,_⟩|⟨g,cap,cur,hv,hb,hh,hnc,hm,hs,_⟩
 · simp only [Value.slice.injEq] at hv
   exact Or.inl ⟨hv.1,hv.2.2⟩
 · simp only [Value.slice.injEq] at hv
   have hA:Arr w g 3 cur.toList:=by unfold Arr; rw [hh]
   refine Or.inr ⟨g,cur.toList,hv.1,hS g hb hA.lt,hA, ?_,by rw [hv.2.2]; exact hm⟩
   · rw [hv.2.2]; simpa using hs
theorem ExF.set {w:World} {S:Nat→Prop} {a:Option Addr} {c:Nat} (h:ExF w S a c) (g' j:Nat) (u:Value):ExF (w.setCell ⟨g',j,none⟩ u) S a c:=by
 rcases h with h|⟨g,cs,h1,h2,h3,h4,h5⟩
 · exact Or.inl h
 · by_cases e:g=g'
   · subst e
     exact Or.inr ⟨g,_,h1,h2,h3.set j u,by simpa using h4,h5⟩
   · exact Or.inr ⟨g,cs,h1,h2,h3.far e u,h4,h5⟩
theorem ExF.ext {w w':World} {S:Nat→Prop} {a:Option Addr} {c:Nat} (h:ExF w S a c) (e:Ext w w'):ExF w' S a c:=by
 rcases h with h|⟨g,cs,h1,h2,h3,h4,h5⟩
 · exact Or.inl h
 · exact Or.inr ⟨g,cs,h1,h2,h3.ext e,h4,h5⟩
structure TmW (w:World) (S:Nat→Prop) (g n:Nat) (cs:List Value):Prop where
 arr:Arr w g 35 cs
 ge:S g
 at':∀ i,i<n→∃ s a c' n',cs[i*2]?=some (.string s)∧cs[i*2+1]?=some (.slice a n' c')∧n'≤c'∧ExF w S a c'
theorem TmW.ext {w w':World} {S:Nat→Prop} {g n:Nat} {cs:List Value} (h:TmW w S g n cs) (e:Ext w w'):TmW w' S g n cs :=
 ⟨h.arr.ext e,h.ge,fun i hi=>by obtain ⟨s,a,c',n',h1,h2,h3,h4⟩:=h.at' i hi; exact ⟨s,a,c',n',h1,h2,h3,h4.ext e⟩⟩
theorem ExF.keep {w w':World} {H0:Nat} {S:Nat→Prop} {a:Option Addr} {c:Nat} (h:ExF w S a c) (e:Keep H0 w w') (hS:∀ g,S g→H0≤g):ExF w' S a c:=by
 rcases h with h|⟨g,cs,h1,h2,h3,h4,h5⟩
 · exact Or.inl h
 · exact Or.inr ⟨g,cs,h1,h2,e.arr h3 (hS g h2),h4,h5⟩
theorem TmW.keep {w w':World} {H0:Nat} {S:Nat→Prop} {g n:Nat} {cs:List Value} (h:TmW w S g n cs) (e:Keep H0 w w') (hS:∀ g,S g→H0≤g):TmW w' S g n cs :=
 ⟨e.arr h.arr (hS g h.ge),h.ge,fun i hi=>by obtain ⟨s,a,c',n',h1,h2,h3,h4⟩:=h.at' i hi; exact ⟨s,a,c',n',h1,h2,h3,h4.keep e hS⟩⟩
theorem TmW.setI {w:World} {S:Nat→Prop} {g n:Nat} {cs:List Value} (h:TmW w S g n cs) {g':Nat} (hne:g≠g') (j:Nat) (u:Value):TmW (w.setCell ⟨g',j,none⟩ u) S g n cs :=
 ⟨h.arr.far hne u,h.ge,fun i hi=>by obtain ⟨s,a,c',n',h1,h2,h3,h4⟩:=h.at' i hi; exact ⟨s,a,c',n',h1,h2,h3,h4.set g' j u⟩⟩
theorem TmW.setT {w:World} {S:Nat→Prop} {g n:Nat} {cs:List Value} (h:TmW w S g n cs) (k:Nat) (s':ByteArray):TmW (w.setCell ⟨g,k*2,none⟩ (.string s')) S g n (cs.set (k*2) (.string s')) :=
 ⟨h.arr.set _ _,h.ge,fun i hi=>by
  obtain ⟨s,a,c',n',h1,h2,h3,h4⟩:=h.at' i hi
  have hl:i*2<cs.length:=(List.getElem?_eq_some_iff.1 h1).1
  by_cases e:k=i
  · subst e
    exact ⟨s',a,c',n',by rw [List.getElem?_set_self hl],by rw [List.getElem?_set_ne (by omega)]; exact h2,h3,h4.set _ _ _⟩
  · exact ⟨s,a,c',n',by rw [List.getElem?_set_ne (by omega)]; exact h1,by rw [List.getElem?_set_ne (by omega)]; exact h2,h3,h4.set _ _ _⟩⟩
theorem TmW.of {w:World} {base g n c:Nat} {S:Nat→Prop} {ts:List Tx} (hS:∀ g,base≤g→g<w.heap.size→S g) (h:TmO w base (some ⟨g,0,none⟩) n c ts):∃ cs,TmW w S g n cs:=by
 obtain ⟨rows,hO,hl,hR⟩:=h
 have hlen:=hO.len (by omega)
 have hfl:=fun i (hi:i<n) j (hj:j<2)=>flat_get rows hO.1 i j hj
 rcases hO.2.2 with ⟨hv,_⟩|⟨g',cap,cur,hv,hb,hh,hnc,hm,hs,htk⟩
 · simp at hv
 simp only [Value.slice.injEq,Option.some.injEq,Addr.mk.injEq,and_true,true_and] at hv
 obtain ⟨rfl,rfl⟩:=hv
 have hA:Arr w g 35 cur.toList:=by unfold Arr; rw [hh]
 refine ⟨cur.toList,hA,hS g hb hA.lt,fun i hi => ?_⟩
 obtain ⟨s,a,n',c',h1,_,h3⟩:=hR i hi
 have hget:∀ j,j<2→cur.toList[i*2+j]?=(tmL s a n' c')[j]?:=fun j hj=>by
  have e1:=hfl i hi j hj
  have e2:rows[i]?=some (tmL s a n' c'):=by
   have:i<rows.length:=by omega
   rw [List.getElem?_eq_getElem this]
   rw [List.getD_eq_getElem?_getD,List.getElem?_eq_getElem this] at h1
   exact congrArg some h1
  rw [←htk,e2] at e1
  rw [List.getElem?_take_of_lt (by omega)] at e1
  simpa using e1
 obtain ⟨e1,e2⟩:=ExF.of hS h3
 exact ⟨s,a,c',n',hget 0 (by omega),hget 1 (by omega),e1,e2⟩
theorem keep_SpoilPoly {va:Int} {a:Option Addr} {n c base lim:Nat} {ts:List Tx} {w1 w:World} (hO1:TmO w1 base a n c ts) (hl:w1.heap.size≤lim) (hE:Keep base w1 w) :
 Calls Tryz.prog 51 #[.agg #[.int .i64 va, .slice a n c]] w fun e w'=>e = .returned (.tuple #[])∧Kp (fun b=>base≤b∧b<lim) w w':=by
 have hO:=hO1
 have hnn:=hO.sl
 have hnl:n≤9223372036854775807:=by obtain ⟨_,h,_⟩:=hnn; exact h.le
 rcases Nat.eq_zero_or_pos n with h0|h0
 · subst h0
   go_enter Tryz.func51,Tryz.ntmps51
   go_upto_region 1 with (fail)
   refine box1 ?_
   intro w0 hE0 hB0 hz0
   have p00:w0.cell? ⟨w.heap.size,0,none⟩=some (.int .i64 va):=hB0.cell (i:=0) (by simp)
   have p01:w0.cell? ⟨w.heap.size,1,none⟩=some (.slice a 0 c):=hB0.cell (i:=1) (by simp)
   clear hB0 hz0 hnn hO
   go_wp2
   go_loopw [2] (fun iv wr=>iv = .int .i64 0∧wr=w0) (fun iv _=>0)
   case atStart=>exact ⟨rfl,rfl⟩
   case round =>
    obtain ⟨rfl,rfl⟩:=hrel
    go_wp2
    go_end0
    exact ⟨rfl,Kp.ofExt hE0⟩
 · obtain ⟨g,rfl⟩:∃ g,a=some ⟨g,0,none⟩:=by
    obtain ⟨rows,hO',_,_⟩:=hO
    rcases hO'.2.2 with ⟨hv,h1⟩|⟨g',cap,cur,hv,_⟩
    · have:=hO'.len (by omega)
      simp only [Value.slice.injEq] at hv
      omega
    · simp only [Value.slice.injEq] at hv
      exact ⟨g',hv.1⟩
   obtain ⟨S,hSe⟩:∃ S:Nat→Prop,(fun b=>base≤b∧b<lim)=S:=⟨_,rfl⟩
   rw [hSe]
   obtain ⟨cs,hW1⟩:=TmW.of (S:=S) (fun g h1 h2=>by rw [←hSe]; exact ⟨h1,by omega⟩) hO1
   have hW:=hW1.keep hE (fun g h=>by rw [←hSe] at h; exact h.1)
   have hgl:=hW.arr.lt
   clear hO hnn hW1 hO1 hSe
   go_enter Tryz.func51,Tryz.ntmps51
   go_upto_region 1 with (fail)
   refine box1 ?_
   intro w0 hE0 hB0 hz0
   have hP:Arr w0 w.heap.size 24 (polyL va (some ⟨g,0,none⟩) n c):=hB0
   have hW0:=hW.ext hE0
   have hEb:=Kp.ofExt (S:=S) hE0
   obtain ⟨P,hPe⟩:∃ x,w.heap.size=x:=⟨_,rfl⟩
   rw [hPe] at hP hgl ⊢
   clear hB0 hz0 hE hE0 hW hPe
   go_wp2
   go_loopw [2] (fun iv wr=>∃ (k:Nat) (cs:List Value),iv = .int .i64 k∧k≤n∧Kp S w wr∧Arr wr P 24 (polyL va (some ⟨g,0,none⟩) n c)∧TmW wr S g n cs) (fun iv _=>n-(intOf iv).toNat)
   case atStart=>exact ⟨0,cs,rfl,Nat.zero_le _,hEb,hP,hW0⟩
   case round =>
    clear hP hW0 hEb
    obtain ⟨k,cs,rfl,hk,hE,hP,hW⟩:=hrel
    have p1:wr.cell? ⟨P,1,none⟩=some (.slice (some ⟨g,0,none⟩) n c):=hP.cell (i:=1) (by simp [polyL])
    by_cases hlt:k<n
    · obtain ⟨s,a',c',n',h1,h2,h3,hX⟩:=hW.at' k hlt
      have hl1:k*2+1<cs.length:=(List.getElem?_eq_some_iff.1 h2).1
      have x1:wr.cell? ⟨g,k*2+1,none⟩=some (.slice a' n' c'):=by
       rw [hW.arr.cell hl1,List.getD_eq_getElem?_getD,h2]; rfl
      rcases hX with ⟨rfl,rfl⟩|⟨g',es,rfl,hb',hA',hel0,hcm⟩
      · have hn0:n'=0:=by omega
        subst hn0
        go_wp2
        have HF1:=fun (wx:World) (hC:Ext wr wx)=>qh (And.intro (hC.cell p1) (hC.cell x1))
        refine wp_region_typed7 (by kernel_rfl) (fun wx=>Ext wr wx)
         [he (.pointer (some ⟨P,1,none⟩)),
 he (.slice (some ⟨g,0,none⟩) n c),
 he (.int .i64 (k:Int)),
 he (.pointer (some ⟨g,(k*2),none⟩)),
 he (.pointer (some ⟨g,((k*2)+1),none⟩)),
 he (.slice none 0 0),
 he (.pointer (some ⟨P,1,none⟩)),
 he (.slice (some ⟨g,0,none⟩) n c),
 he (.int .i64 (k:Int)),
 he (.pointer (some ⟨g,(k*2),none⟩)),
 he (.pointer (some ⟨g,((k*2)+1),none⟩)),
 he (.slice none 0 0),
 he (.int .i64 (0:Int))]
         (by kernel_rfl) (fun _ _ e h=>h.trans e) ((Ext.refl wr).drew) ⟨trivial,trivial,trivial,trivial,trivial,trivial,trivial,trivial,trivial,trivial,trivial,trivial,trivial,trivial⟩ ⟨?o0, ?o1, ?o2, ?o3, ?o4, ?o5, ?o6, ?o7, ?o8, ?o9, ?o10, ?o11, ?o12,trivial⟩ ?fin
        case o0 =>
         refine obl_pq rfl fun ρ wx hC hcst h => ?_
         have e0:ρ (.tmp 1)=(.pointer (some ⟨P,0,none⟩)):=h.1
         obtain ⟨kp,kx⟩:=(HF1 wx hC).out
         go_simp
        case o1 =>
         refine obl_pq rfl fun ρ wx hC hcst h => ?_
         have e0:ρ (.tmp 12)=(.pointer (some ⟨P,1,none⟩)):=h.1
         obtain ⟨kp,kx⟩:=(HF1 wx hC).out
         go_simp
        case o2=>exact obl_pmove rfl (.inl rfl) (fun _ _ _ h=>h.1)
        case o3 =>
         refine obl_pq rfl fun ρ wx hC hcst h => ?_
         have e0:ρ (.tmp 13)=(.slice (some ⟨g,0,none⟩) n c):=h.1
         have e1:ρ (.tmp 14)=(.int .i64 (k:Int)):=h.2.1
         obtain ⟨kp,kx⟩:=(HF1 wx hC).out
         go_simp
         try (first | (intros; omega) | exact IntWalk.i64_in _ (by omega))
        case o4 =>
         refine obl_pq rfl fun ρ wx hC hcst h => ?_
         have e0:ρ (.tmp 15)=(.pointer (some ⟨g,(k*2),none⟩)):=h.1
         obtain ⟨kp,kx⟩:=(HF1 wx hC).out
         go_simp
        case o5 =>
         refine obl_pq rfl fun ρ wx hC hcst h => ?_
         have e0:ρ (.tmp 16)=(.pointer (some ⟨g,((k*2)+1),none⟩)):=h.1
         obtain ⟨kp,kx⟩:=(HF1 wx hC).out
         go_simp
        case o6 =>
         refine obl_pq rfl fun ρ wx hC hcst h => ?_
         have e0:ρ (.tmp 1)=(.pointer (some ⟨P,0,none⟩)):=h.1
         obtain ⟨kp,kx⟩:=(HF1 wx hC).out
         go_simp
        case o7 =>
         refine obl_pq rfl fun ρ wx hC hcst h => ?_
         have e0:ρ (.tmp 18)=(.pointer (some ⟨P,1,none⟩)):=h.1
         obtain ⟨kp,kx⟩:=(HF1 wx hC).out
         go_simp
        case o8=>exact obl_pmove rfl (.inl rfl) (fun _ _ _ h=>h.1)
        case o9 =>
         refine obl_pq rfl fun ρ wx hC hcst h => ?_
         have e0:ρ (.tmp 19)=(.slice (some ⟨g,0,none⟩) n c):=h.1
         have e1:ρ (.tmp 20)=(.int .i64 (k:Int)):=h.2.1
         obtain ⟨kp,kx⟩:=(HF1 wx hC).out
         go_simp
         try (first | (intros; omega) | exact IntWalk.i64_in _ (by omega))
        case o10 =>
         refine obl_pq rfl fun ρ wx hC hcst h => ?_
         have e0:ρ (.tmp 21)=(.pointer (some ⟨g,(k*2),none⟩)):=h.1
         obtain ⟨kp,kx⟩:=(HF1 wx hC).out
         go_simp
        case o11 =>
         refine obl_pq rfl fun ρ wx hC hcst h => ?_
         have e0:ρ (.tmp 22)=(.pointer (some ⟨g,((k*2)+1),none⟩)):=h.1
         obtain ⟨kp,kx⟩:=(HF1 wx hC).out
         go_simp
        case o12 =>
         refine obl_pq rfl fun ρ wx hC hcst h => ?_
         have e0:ρ (.tmp 23)=(.slice none 0 0):=h.1
         obtain ⟨kp,kx⟩:=(HF1 wx hC).out
         go_simp
        case fin =>
         intro wx hC
         change wpList _ _ _ _ _ _
         simp only [List.length_cons,List.length_nil,List.drop_succ_cons,List.drop_zero,Act.put,List.setIfInBounds_toArray,List.set_cons_succ,List.set_cons_zero]
         have hPx:=hP.ext hC
         have hWx:=hW.ext hC
         have hEx:=hE.trans (Kp.ofExt (S:=S) hC) (fun _ _ h=>h)
         have x0:wx.cell? ⟨g,k*2,none⟩=some (.string s):=by
          rw [hWx.arr.cell (by omega),List.getD_eq_getElem?_getD,h1]; rfl
         go_wp2
         obtain ⟨wo,rfl⟩:∃ x,x=wx:=⟨_,rfl⟩
         go_loopw [4] (fun iv wq=>iv = .int .i64 0∧wq=wo) (fun iv _=>0)
         case atStart=>exact ⟨rfl,rfl⟩
         case round =>
          obtain ⟨rfl,rfl⟩:=hrel
          have hWq:=hWx
          have hPq:=hPx
          have hEq:=hEx
          have p1:wr.cell? ⟨P,1,none⟩=some (.slice (some ⟨g,0,none⟩) n c):=hPq.cell (i:=1) (by simp [polyL])
          have ffT:=hWq.arr.frozen (k*2)
          go_wp2
          have hWz:=hWq.setT k ⟨#[115,112,111,105,108,116]⟩
          have hPz:=hPq.far (p:=⟨g,k*2,none⟩) (by simp; omega) (.string ⟨#[115,112,111,105,108,116]⟩)
          have hEz:=hEq.trans (Kp.ofGrown (S:=S) (grown_setCell wr g (k*2) (.string ⟨#[115,112,111,105,108,116]⟩)) (fun x hx=>by simp only [Option.some.injEq] at hx; rw [←hx]; exact hWq.ge)) (fun _ _ h=>h)
          go_roundw
          case rel=>exact ⟨k+1,_,by go_num,by omega,hEz,hPz,hWz⟩
          case measure=>simp [intOf]; omega
      · have hcm2:c'≤9223372036854775807:=by unfold maxLen at hcm; omega
        have HEL:=qh hel0
        clear hel0
        go_wp2
        have HF2:=fun (wx:World) (hC:Ext wr wx)=>qh (And.intro (hC.cell p1) (hC.cell x1))
        refine wp_region_typed7 (by kernel_rfl) (fun wx=>Ext wr wx)
         [he (.pointer (some ⟨P,1,none⟩)),
 he (.slice (some ⟨g,0,none⟩) n c),
 he (.int .i64 (k:Int)),
 he (.pointer (some ⟨g,(k*2),none⟩)),
 he (.pointer (some ⟨g,((k*2)+1),none⟩)),
 he (.slice (some ⟨g',0,none⟩) n' c'),
 he (.pointer (some ⟨P,1,none⟩)),
 he (.slice (some ⟨g,0,none⟩) n c),
 he (.int .i64 (k:Int)),
 he (.pointer (some ⟨g,(k*2),none⟩)),
 he (.pointer (some ⟨g,((k*2)+1),none⟩)),
 he (.slice (some ⟨g',0,none⟩) n' c'),
 he (.int .i64 (c':Int))]
         (by kernel_rfl) (fun _ _ e h=>h.trans e) ((Ext.refl wr).drew) ⟨trivial,trivial,trivial,trivial,trivial,trivial,trivial,trivial,trivial,trivial,trivial,trivial,trivial,trivial⟩ ⟨?o0, ?o1, ?o2, ?o3, ?o4, ?o5, ?o6, ?o7, ?o8, ?o9, ?o10, ?o11, ?o12,trivial⟩ ?fin
        case o0 =>
         refine obl_pq rfl fun ρ wx hC hcst h => ?_
         have e0:ρ (.tmp 1)=(.pointer (some ⟨P,0,none⟩)):=h.1
         obtain ⟨kp,kx⟩:=(HF2 wx hC).out
         go_simp
        case o1 =>
         refine obl_pq rfl fun ρ wx hC hcst h => ?_
         have e0:ρ (.tmp 12)=(.pointer (some ⟨P,1,none⟩)):=h.1
         obtain ⟨kp,kx⟩:=(HF2 wx hC).out
         go_simp
        case o2=>exact obl_pmove rfl (.inl rfl) (fun _ _ _ h=>h.1)
        case o3 =>
         refine obl_pq rfl fun ρ wx hC hcst h => ?_
         have e0:ρ (.tmp 13)=(.slice (some ⟨g,0,none⟩) n c):=h.1
         have e1:ρ (.tmp 14)=(.int .i64 (k:Int)):=h.2.1
         obtain ⟨kp,kx⟩:=(HF2 wx hC).out
         go_simp
         try (first | (intros; omega) | exact IntWalk.i64_in _ (by omega))
        case o4 =>
         refine obl_pq rfl fun ρ wx hC hcst h => ?_
         have e0:ρ (.tmp 15)=(.pointer (some ⟨g,(k*2),none⟩)):=h.1
         obtain ⟨kp,kx⟩:=(HF2 wx hC).out
         go_simp
        case o5 =>
         refine obl_pq rfl fun ρ wx hC hcst h => ?_
         have e0:ρ (.tmp 16)=(.pointer (some ⟨g,((k*2)+1),none⟩)):=h.1
         obtain ⟨kp,kx⟩:=(HF2 wx hC).out
         go_simp
        case o6 =>
         refine obl_pq rfl fun ρ wx hC hcst h => ?_
         have e0:ρ (.tmp 1)=(.pointer (some ⟨P,0,none⟩)):=h.1
         obtain ⟨kp,kx⟩:=(HF2 wx hC).out
         go_simp
        case o7 =>
         refine obl_pq rfl fun ρ wx hC hcst h => ?_
         have e0:ρ (.tmp 18)=(.pointer (some ⟨P,1,none⟩)):=h.1
         obtain ⟨kp,kx⟩:=(HF2 wx hC).out
         go_simp
        case o8=>exact obl_pmove rfl (.inl rfl) (fun _ _ _ h=>h.1)
        case o9 =>
         refine obl_pq rfl fun ρ wx hC hcst h => ?_
         have e0:ρ (.tmp 19)=(.slice (some ⟨g,0,none⟩) n c):=h.1
         have e1:ρ (.tmp 20)=(.int .i64 (k:Int)):=h.2.1
         obtain ⟨kp,kx⟩:=(HF2 wx hC).out
         go_simp
         try (first | (intros; omega) | exact IntWalk.i64_in _ (by omega))
        case o10 =>
         refine obl_pq rfl fun ρ wx hC hcst h => ?_
         have e0:ρ (.tmp 21)=(.pointer (some ⟨g,(k*2),none⟩)):=h.1
         obtain ⟨kp,kx⟩:=(HF2 wx hC).out
         go_simp
        case o11 =>
         refine obl_pq rfl fun ρ wx hC hcst h => ?_
         have e0:ρ (.tmp 22)=(.pointer (some ⟨g,((k*2)+1),none⟩)):=h.1
         obtain ⟨kp,kx⟩:=(HF2 wx hC).out
         go_simp
        case o12 =>
         refine obl_pq rfl fun ρ wx hC hcst h => ?_
         have e0:ρ (.tmp 23)=(.slice (some ⟨g',0,none⟩) n' c'):=h.1
         obtain ⟨kp,kx⟩:=(HF2 wx hC).out
         go_simp
        case fin =>
         intro wx hC
         change wpList _ _ _ _ _ _
         simp only [List.length_cons,List.length_nil,List.drop_succ_cons,List.drop_zero,Act.put,List.setIfInBounds_toArray,List.set_cons_succ,List.set_cons_zero]
         have hPx:=hP.ext hC
         have hWx:=hW.ext hC
         have hEx:=hE.trans (Kp.ofExt (S:=S) hC) (fun _ _ h=>h)
         have x0:wx.cell? ⟨g,k*2,none⟩=some (.string s):=by
          rw [hWx.arr.cell (by omega),List.getD_eq_getElem?_getD,h1]; rfl
         have hAx:=hA'.ext hC
         have hgg:g≠g':=arr_ne hWx.arr hAx (by decide)
         have hPg:P≠g':=arr_ne hPx hAx (by decide)
         go_wp2
         obtain ⟨wo,rfl⟩:∃ x,x=wx:=⟨_,rfl⟩
         go_loopw [4] (fun iv wq=>∃ (j:Nat) (es:List Value),iv = .int .i64 j∧j≤c'∧Kp S w wq∧Arr wq P 24 (polyL va (some ⟨g,0,none⟩) n c)∧TmW wq S g n cs∧Arr wq g' 3 es∧es.length=c') (fun iv _=>c' - (intOf iv).toNat)
         case atStart=>exact ⟨0,es,rfl,Nat.zero_le _,hEx,hPx,hWx,hAx,HEL.out⟩
         case round =>
          clear hAx hWx hPx hEx hA' hP hW hE
          obtain ⟨j,es2,rfl,hj,hEq,hPq,hWq,hAq,hel2⟩:=hrel
          have HEL2:=qh hel2
          clear hel2
          have p1:wr.cell? ⟨P,1,none⟩=some (.slice (some ⟨g,0,none⟩) n c):=hPq.cell (i:=1) (by simp [polyL])
          by_cases hjl:j<c'
          · have ffj:=hAq.frozen j
            have cj:=hAq.cell (i:=j) (by rw [HEL2.out]; exact hjl)
            go_wp2
            have hWz:=hWq.setI hgg j (.int .i64 (-7))
            have hPz:=hPq.far (p:=⟨g',j,none⟩) (by simpa using hPg) (.int .i64 (-7))
            have hEz:=hEq.trans (Kp.ofGrown (S:=S) (grown_setCell wr g' j (.int .i64 (-7))) (fun x hx=>by simp only [Option.some.injEq] at hx; rw [←hx]; exact hb')) (fun _ _ h=>h)
            go_roundw
            case rel=>exact ⟨j+1,_,by go_num,by omega,hEz,hPz,hWz,hAq.set j (.int .i64 (-7)),by simpa using HEL2.out⟩
            case measure=>simp [intOf]; omega
          · have x0:wr.cell? ⟨g,k*2,none⟩=some (.string s):=by
             rw [hWq.arr.cell (by omega),List.getD_eq_getElem?_getD,h1]; rfl
            have ffT:=hWq.arr.frozen (k*2)
            go_wp2
            have hWz:=hWq.setT k ⟨#[115,112,111,105,108,116]⟩
            have hPz:=hPq.far (p:=⟨g,k*2,none⟩) (by simp; omega) (.string ⟨#[115,112,111,105,108,116]⟩)
            have hEz:=hEq.trans (Kp.ofGrown (S:=S) (grown_setCell wr g (k*2) (.string ⟨#[115,112,111,105,108,116]⟩)) (fun x hx=>by simp only [Option.some.injEq] at hx; rw [←hx]; exact hWq.ge)) (fun _ _ h=>h)
            go_roundw
            case rel=>exact ⟨k+1,_,by go_num,by omega,hEz,hPz,hWz⟩
            case measure=>simp [intOf]; omega
    · go_wp2
      go_end0
      exact ⟨rfl,hE⟩
end Go.Proofs.YtbiifaciddajnaaGreatDoor
