/- Part Own15. -/
import Derived.Test.YtbiifaciddajnaaGreatDoorOwn13
import Derived.Test.YtbiifaciddajnaaGreatDoorOwn14
import Derived.Test.YtbiifaciddajnaaGreatDoorOwn1
set_option maxRecDepth 100000
set_option maxHeartbeats 100000000
namespace Go.Proofs.YtbiifaciddajnaaGreatDoor
open Go Go.RowKit
theorem wd_lit (w:World):Wd (w.alloc (.cells #[.int .u64 1] 221)) (some ⟨w.heap.size,0,none⟩) 1 1 1:=by
 refine ⟨[1],(own_alloc w w.heap.size 221 #[.int .u64 1] 1 rfl (Nat.le_refl _) (by omega)).sl,⟨fun x hx=>by simp at hx; omega,W.nrm_single (by omega),by simp [W.val]⟩⟩
theorem sum_Add {base p N:Nat} {qa qb:Option Nat} {z x:Int} {v:Value} {w:World} (hS:SumIs w base p qa qb N z) (hx:IntR w v x) (sx:SrcV (fun g=>qa≠some g∧qb≠some g) v) (bx:x.natAbs<P2 9600) (hN:N≤100000000) (hb:base≤w.heap.size) :
 Calls Tryz.prog 156 #[.pointer (some ⟨p,0,none⟩),v] w (RetAP w base p qa qb N (z+x)):=by
 obtain ⟨s,a,n,c,rfl,HS,hx⟩:=hx
 go_enter Tryz.func156,Tryz.ntmps156
 go_upto_region 1 with (fail)
 refine box1 ?_
 intro w0 hE0 hB0 hz0
 have p0:w0.cell? ⟨w.heap.size,0,none⟩=some (.bool s):=hB0.cell (i:=0) (by simp [intL])
 have p1:w0.cell? ⟨w.heap.size,1,none⟩=some (.slice a n c):=hB0.cell (i:=1) (by simp [intL])
 have hE1:=(Ext.refl w0).alloc (.cells #[.int .u64 1] 221)
 have hE:=hE0.trans hE1
 have hw1:=wd_lit w0
 have hlt:=hS.lt
 have hsz:=hE0.size
 have hap:=sum_AddProduct (hS.ext hE) (v := .agg (intL s a n c).toArray) ⟨s,a,n,c,rfl,HS,hx.ext hE⟩ (v' := .agg (intL false (some ⟨w0.heap.size,0,none⟩) 1 1).toArray) (y:=1) ⟨false,_,1,1,rfl,qh rfl,hw1⟩ sx (srcV_of fun _ g hg=>by
  have:w0.heap.size=g:=by simpa [blk] using hg
  subst this
  refine ⟨fun h => ?_,fun h => ?_⟩
  · have:=(hlt.2.1 _ h).2; omega
  · have:=(hlt.2.2 _ h).2; omega) bx (P2_one (by omega)) (Or.inr (P2_one (by omega))) hN (Nat.le_trans hb hE.size)
 have HAP:=qh hap
 clear hap hw1 hB0 hz0
 go_wp2_with fail
 refine HAP.out.mono ?_
 rintro e w3 ⟨rfl,qa',qb',h1,h2,h3,h4⟩
 go_wp2
 go_end0
 rw [Int.mul_one] at h1
 have hs:=hE.size
 refine ⟨rfl,qa',qb',h1,(Kp.ofExt hE).trans h2 (fun _ _ h=>h), ?_, ?_⟩
 · rcases h3 with h|⟨g,h,hg⟩
   · exact Or.inl h
   · exact Or.inr ⟨g,h,by omega⟩
 · rcases h4 with h|⟨g,h,hg⟩
   · exact Or.inl h
   · exact Or.inr ⟨g,h,by omega⟩
theorem int_copyDifference {a b:Option Addr} {n c m d:Nat} {xs ys:List Nat} {x y:Nat} {w:World} (hx:SlN .u64 w a n c xs) (hy:SlN .u64 w b m d ys) (nx:Num 18446744073709551616 xs x) (ny:Num 18446744073709551616 ys y) (hn:n≤200000000) (hle:y≤x) (hb:∀ g,blk b=some g→g<w.heap.size) :
 Calls Tryz.prog 201 #[.slice a n c, .slice b m d] w (RetN .u64 18446744073709551616 w (x-y)):=by
 have HX:=qh hx.len
 have HY:=qh hy.len
 have NX:=qh nx
 have NY:=qh ny
 have HLE:=qh hle
 clear nx ny hle
 have hmn:m≤n:=by
  refine Classical.byContradiction fun hc => ?_
  have:=W.len_lt (B:=18446744073709551616) (by omega) NX.out.bnd NY.out.nrm (by rw [HX.out,HY.out]; omega)
  rw [NX.out.val,NY.out.val] at this
  have:=HLE.out
  omega
 go_enter Tryz.func201,Tryz.ntmps201
 go_upto_region 2 with (at_make; refine wl_mk (n:=n) rfl rfl Tryz.underlying84 info_u64 rfl rfl rfl (by omega) (by unfold maxLen; omega) ?_; intro w1 hO1 hE1)
 have hA1:=(OwnN.of_zeros hO1).arr
 go_upto_region 3 with (refine wl_cp (sT:=84) rfl rfl Tryz.underlying84 info_u64 rfl rfl hA1 (hx.ext hE1) (Nat.le_refl _) (by simp) (u64_one _) ?_; intro w2 hB2 hg2)
 have hA2:ArrN .u64 w2 w.heap.size 221 xs:=by
  have:=copied_le (w:=w2) (g:=w.heap.size) (N:=n) (xs:=xs) (t:=221) (by rw [HX.out]; exact hB2)
  rw [HX.out,Nat.sub_self] at this
  simpa using this
 have hE2:Ext w w2:=hE1.grownR hg2 (Nat.le_refl _)
 have hO2:OwnN .u64 w2 w.heap.size 221 w.heap.size n n xs:=by
  have:=ArrN.own hA2 (Nat.le_refl _) (by rw [HX.out]; unfold maxLen; omega)
  rw [HX.out] at this
  exact this
 have hne:blk b=none∨blk b≠some w.heap.size:=by
  cases hbb:blk b with
  | none=>exact Or.inl rfl
  | some g=>right; have:=hb g hbb; simp; omega
 clear hA1 hB2 hg2 hA2 hO1 hE1
 go_wp2_with fail
 refine (int_subtractFrom hO2 (hy.ext hE2) hne NX.out.bnd NY.out.bnd hmn (by rw [NX.out.val,NY.out.val]; exact HLE.out)).mono ?_
 rintro e w3 ⟨rfl,hg,zs,hz,bz,hv⟩
 rw [NX.out.val,NY.out.val] at hv
 have hE3:=hE2.grownR hg (Nat.le_refl _)
 go_wp2_with fail
 refine (int_trim hz.sl).mono ?_
 rintro e w4 ⟨q,rfl,rfl,hq,ht⟩
 obtain ⟨t1,t2⟩:=trim_num hz.sl hq ht bz hv
 go_wp2
 go_ret
 exact ⟨_,q,_,_,rfl,hE3,t1,t2⟩
theorem int_trimL {a:Option Addr} {n c:Nat} {xs:List Nat} {w:World} (hx:SlN .u64 w a n c xs) :
 Calls Tryz.prog 199 #[.slice a n c] w fun e w'=>e = .returned (.slice a (W.trim xs).length c)∧w'=w:=by
 refine (int_trim hx).mono ?_
 rintro e w' ⟨m,rfl,rfl,hm,ht⟩
 refine ⟨?_,rfl⟩
 rw [ht,List.length_take,hx.len,Nat.min_eq_left hm]
theorem sl_trim {a:Option Addr} {n c:Nat} {xs:List Nat} {w:World} (hx:SlN .u64 w a n c xs):SlN .u64 w a (W.trim xs).length c (W.trim xs):=by
 obtain ⟨k,hk,e⟩:=W.trimTo_prefix (xs:=xs) (Nat.le_refl xs.length)
 have e':W.trim xs=xs.take k:=e
 have hkn:k≤n:=by rw [←hx.len]; exact hk
 have h:=hx.upto hkn
 have hl:(W.trim xs).length=k:=by rw [e',List.length_take]; omega
 rw [hl,e']
 exact h
theorem sum_Value {base p N:Nat} {qa qb:Option Nat} {z:Int} {w:World} (hS:SumIs w base p qa qb N z) (hN:N≤100000000) :
 Calls Tryz.prog 158 #[.pointer (some ⟨p,0,none⟩)] w (RetI w z):=by
 obtain ⟨pa,pn,pc,na,nn,nc,ps,ns,hA,hqa,hqb,hPo,hNo,bp,bn,hq1,hq2,hpN,hnN,hz,hpb⟩:=hS
 have hp1:SlN .u64 w pa pn pc ps:=hPo.sl
 have hn1:SlN .u64 w na nn nc ns:=hNo.sl
 have hlp:∀ g,blk pa=some g→g<w.heap.size:=fun g hg=>(hPo.lt hg).2
 have hln:∀ g,blk na=some g→g<w.heap.size:=fun g hg=>(hNo.lt hg).2
 have np:Num 18446744073709551616 (W.trim ps) (W.val 18446744073709551616 ps):=Num.trim bp rfl
 have nn':Num 18446744073709551616 (W.trim ns) (W.val 18446744073709551616 ns):=Num.trim bn rfl
 have hpl:(W.trim ps).length≤pn:=by
  obtain ⟨k,hk,e⟩:=W.trimTo_prefix (xs:=ps) (Nat.le_refl ps.length)
  have e':W.trim ps=ps.take k:=e
  rw [e',List.length_take,hp1.len]; omega
 have hnl:(W.trim ns).length≤nn:=by
  obtain ⟨k,hk,e⟩:=W.trimTo_prefix (xs:=ns) (Nat.le_refl ns.length)
  have e':W.trim ns=ns.take k:=e
  rw [e',List.length_take,hn1.len]; omega
 have hp2:=sl_trim hp1
 have hn2:=sl_trim hn1
 have HTP:=fun (wx:World) (hC:Ext w wx)=>qh (int_trimL (hp1.ext hC))
 have HTN:=fun (wx:World) (hC:Ext w wx)=>qh (int_trimL (hn1.ext hC))
 generalize W.val 18446744073709551616 ps=P at *
 generalize W.val 18446744073709551616 ns=Nv at *
 have HNP:=qh np
 have HNN:=qh nn'
 generalize W.trim ps=tp at *
 generalize W.trim ns=tn at *
 generalize htpl:tp.length=lp at *
 generalize htnl:tn.length=ln at *
 have HZ:=qh hz
 clear np nn' hz bp bn hq1 hq2 hqa hqb htpl htnl
 go_enter Tryz.func158,Tryz.ntmps158
 go_upto_region 1 with (fail)
 refine box1 ?_
 intro w0 hE0 hB0 hz0
 have u0:w0.cell? ⟨p,0,none⟩=some (.slice pa pn pc):=(hA.ext hE0).cell (i:=0) (by simp [sumL])
 have u1:w0.cell? ⟨p,1,none⟩=some (.slice na nn nc):=(hA.ext hE0).cell (i:=1) (by simp [sumL])
 have hR:Arr w0 w.heap.size 86 (intL false none 0 0):=hB0
 clear hB0 hz0 hA
 have HF1:=fun (wx:World) (hC:Ext w0 wx)=>qh (And.intro (hC.cell u0) (hC.cell u1))
 refine wp_region_typed (by kernel_rfl) (fun wx=>Ext w0 wx)
  [he (.pointer (some ⟨p,0,none⟩)),
 he (.pointer (some ⟨p,0,none⟩)),
 he (.pointer (some ⟨p,0,none⟩)),
 he (.slice pa pn pc),
 hp (fun v wx=>v = .slice pa lp pc),
 he (.pointer (some ⟨p,0,none⟩)),
 he (.pointer (some ⟨p,0,none⟩)),
 he (.pointer (some ⟨p,1,none⟩)),
 he (.slice na nn nc),
 hp (fun v wx=>v = .slice na ln nc),
 hp (fun v wx=>v = .slice pa lp pc),
 hp (fun v wx=>v = .slice na ln nc)]
  (by kernel_rfl) (fun _ _ e h=>h.trans e) ((Ext.refl w0).drew) ⟨trivial,trivial,trivial,trivial,fun _ _ _ _ h=>h,trivial,trivial,trivial,trivial,fun _ _ _ _ h=>h,fun _ _ _ _ h=>h,fun _ _ _ _ h=>h,trivial⟩ ⟨?o0, ?o1, ?o2, ?o3, ?o4, ?o5, ?o6, ?o7, ?o8, ?o9, ?o10, ?o11,trivial⟩ ?fin
 case o0=>exact obl_pmove rfl (.inl rfl) (fun _ _ _ h=>h.1)
 case o1 =>
  refine obl_pq rfl fun ρ wx hC hcst h => ?_
  have e0:ρ (.tmp 5)=(.pointer (some ⟨p,0,none⟩)):=h.1
  obtain ⟨k0,k1⟩:=(HF1 wx hC).out
  go_simp
 case o2 =>
  refine obl_pq rfl fun ρ wx hC hcst h => ?_
  have e0:ρ (.tmp 6)=(.pointer (some ⟨p,0,none⟩)):=h.1
  obtain ⟨k0,k1⟩:=(HF1 wx hC).out
  go_simp
 case o3 =>
  refine obl_pq rfl fun ρ wx hC hcst h => ?_
  have e0:ρ (.tmp 7)=(.pointer (some ⟨p,0,none⟩)):=h.1
  obtain ⟨k0,k1⟩:=(HF1 wx hC).out
  go_simp
 case o4 =>
  refine obl_cq rfl fun ρ wx hC hcst hfn h => ?_
  have e1:ρ (.tmp 8)=(.slice pa pn pc):=h.2.1
  obtain ⟨k0,k1⟩:=(HF1 wx hC).out
  refine ⟨199,#[.slice pa pn pc],by go_simp,((HTP wx (hE0.trans hC)).out).mono ?_⟩
  rintro e w' ⟨rfl,rfl⟩
  exact ⟨_,rfl,Ext.refl _,rfl⟩
 case o5=>exact obl_pmove rfl (.inl rfl) (fun _ _ _ h=>h.1)
 case o6 =>
  refine obl_pq rfl fun ρ wx hC hcst h => ?_
  have e0:ρ (.tmp 10)=(.pointer (some ⟨p,0,none⟩)):=h.1
  obtain ⟨k0,k1⟩:=(HF1 wx hC).out
  go_simp
 case o7 =>
  refine obl_pq rfl fun ρ wx hC hcst h => ?_
  have e0:ρ (.tmp 11)=(.pointer (some ⟨p,0,none⟩)):=h.1
  obtain ⟨k0,k1⟩:=(HF1 wx hC).out
  go_simp
 case o8 =>
  refine obl_pq rfl fun ρ wx hC hcst h => ?_
  have e0:ρ (.tmp 12)=(.pointer (some ⟨p,1,none⟩)):=h.1
  obtain ⟨k0,k1⟩:=(HF1 wx hC).out
  go_simp
 case o9 =>
  refine obl_cq rfl fun ρ wx hC hcst hfn h => ?_
  have e1:ρ (.tmp 13)=(.slice na nn nc):=h.2.1
  obtain ⟨k0,k1⟩:=(HF1 wx hC).out
  refine ⟨199,#[.slice na nn nc],by go_simp,((HTN wx (hE0.trans hC)).out).mono ?_⟩
  rintro e w' ⟨rfl,rfl⟩
  exact ⟨_,rfl,Ext.refl _,rfl⟩
 case o10 =>
  refine obl_ext rfl ?_
  intro ρ wx hp hC h
  have hcst:=hp.const
  have hfn:=hp.func
  obtain ⟨v0,e0,rfl⟩:=h.1
  obtain ⟨k0,k1⟩:=(HF1 wx hC).out
  exact ⟨_,wx,by go_simp,Ext.refl _,rfl⟩
 case o11 =>
  refine obl_ext rfl ?_
  intro ρ wx hp hC h
  have hcst:=hp.const
  have hfn:=hp.func
  obtain ⟨v0,e0,rfl⟩:=h.1
  obtain ⟨k0,k1⟩:=(HF1 wx hC).out
  exact ⟨_,wx,by go_simp,Ext.refl _,rfl⟩
 case fin =>
  intro wx hC
  rintro _ rfl
  rintro _ rfl
  rintro _ rfl
  rintro _ rfl
  change wpList _ _ _ _ _ _
  simp only [List.length_cons,List.length_nil,List.drop_succ_cons,List.drop_zero,Act.put,List.setIfInBounds_toArray,List.set_cons_succ,List.set_cons_zero]
  have hEq:=hE0.trans hC
  have hRq:=hR.ext hC
  clear HTP HTN u0 u1 hE0 hR hp1 hn1 hC
  obtain ⟨w1,rfl⟩:∃ x:World,x=wx:=⟨_,rfl⟩
  have hcm:=int_compareWords (hp2.ext hEq) (hn2.ext hEq) HNP.out HNN.out
  go_wp2_with fail
  refine hcm.mono ?_
  rintro e w2 ⟨rfl,hQ⟩
  have hE2:=hEq.trans hQ.ext
  have hR2:=hRq.ext hQ.ext
  clear hcm
  by_cases hle:Nv≤P
  · have hc0:0≤cmpZ (P:Int) (Nv:Int):=cmpZ_nonneg.2 hle
    have HCD:=qh (int_copyDifference (hp2.ext hE2) (hn2.ext hE2) HNP.out HNN.out (by omega) hle (fun g hg=>Nat.lt_of_lt_of_le (hln g hg) hE2.size))
    have HZP:Hid (z=if (false=true) then -((P-Nv:Nat):Int) else ((P-Nv:Nat):Int)):=qh (by rw [HZ.out]; simp; omega)
    generalize cmpZ (P:Int) (Nv:Int)=cv at *
    go_wp2_with fail
    refine HCD.out.mono ?_
    intro e w3 hr
    obtain ⟨a3,n3,c3,rfl,hE3,hx3⟩:=hr.wd
    go_wp2_with fail
    refine (int_signed hx3 HZP.out).mono ?_
    rintro e w4 ⟨s4,a4,n4,c4,rfl,hE4,HS4,hx4⟩
    have hl4:(intL s4 a4 n4 c4).toArray=#[.bool s4, .slice a4 n4 c4]:=rfl
    have hR4:=(hR2.ext hE3).ext hE4
    go_wp2_with (refine wl_stArr (vs:=intL s4 a4 n4 c4) rfl rfl rfl rfl rfl agg_Int hR4 rfl (intL_one _ _ _ _) ?_; intro w9 hB9 hg9)
    exact bodyPost_ret (res_arr rfl agg_Int rfl hB9) rfl (retI_of ((hE2.trans hE3).trans hE4) hR4 (intL_nu _ _ _ _) hg9 (Nat.le_refl _) HS4 hx4)
  · have hc0:¬ 0≤cmpZ (P:Int) (Nv:Int):=fun h=>hle (cmpZ_nonneg.1 h)
    have HCD:=qh (int_copyDifference (hn2.ext hE2) (hp2.ext hE2) HNN.out HNP.out (by omega) (by omega) (fun g hg=>Nat.lt_of_lt_of_le (hlp g hg) hE2.size))
    have HZP:Hid (z=if (true=true) then -((Nv-P:Nat):Int) else ((Nv-P:Nat):Int)):=qh (by rw [HZ.out]; simp; omega)
    generalize cmpZ (P:Int) (Nv:Int)=cv at *
    go_wp2_with fail
    refine HCD.out.mono ?_
    intro e w3 hr
    obtain ⟨a3,n3,c3,rfl,hE3,hx3⟩:=hr.wd
    go_wp2_with fail
    refine (int_signed hx3 HZP.out).mono ?_
    rintro e w4 ⟨s4,a4,n4,c4,rfl,hE4,HS4,hx4⟩
    have hl4:(intL s4 a4 n4 c4).toArray=#[.bool s4, .slice a4 n4 c4]:=rfl
    have hR4:=(hR2.ext hE3).ext hE4
    go_wp2_with (refine wl_stArr (vs:=intL s4 a4 n4 c4) rfl rfl rfl rfl rfl agg_Int hR4 rfl (intL_one _ _ _ _) ?_; intro w9 hB9 hg9)
    exact bodyPost_ret (res_arr rfl agg_Int rfl hB9) rfl (retI_of ((hE2.trans hE3).trans hE4) hR4 (intL_nu _ _ _ _) hg9 (Nat.le_refl _) HS4 hx4)
end Go.Proofs.YtbiifaciddajnaaGreatDoor
namespace Go.Proofs.YtbiifaciddajnaaGreatDoor
open Go Go.RowKit
def keyV (k:List Int):Value := .agg (k.map (Value.int .i64)).toArray
structure KeyT (P:Program) (kt et:TypeId):Prop where
 arr:P.underlying kt=some (.array 6 et)
 int:P.underlying et=some (.int .i64)
 size:(P.info? et).map (·.size)=some 1
theorem six {k:List Int} (h:k.length=6):∃ a b c d e f,k=[a,b,c,d,e,f]:=by
 match k,h with
 | [a,b,c,d,e,f],_=>exact ⟨a,b,c,d,e,f,rfl⟩
section
variable {P:Program} {kt et:TypeId} (w:World)
theorem run_part_int (hk:KeyT P kt et) (cs:Array Value) (i:Nat) (v:Value) (h:cs[i]?=some v):(part et cs i).run P w = .ok v w:=by
 simp [part,isAgg,run_underlying hk.int,h]
theorem run_equalIn_int (hk:KeyT P kt et) (d:Nat) (a b:Int):(Op.equalIn (d+1) et (.int .i64 a) (.int .i64 b)).run P w = .ok (a == b) w:=by
 simp [Op.equalIn,run_underlying hk.int]
theorem run_equal_key (hk:KeyT P kt et) (d:Nat) {a b:List Int} (ha:a.length=6) (hb:b.length=6) :
 (Op.equalIn (d+2) kt (keyV a) (keyV b)).run P w = .ok (decide (a=b)) w:=by
 obtain ⟨a0,a1,a2,a3,a4,a5,rfl⟩:=six ha
 obtain ⟨b0,b1,b2,b3,b4,b5,rfl⟩:=six hb
 obtain ⟨i,hi,hs⟩:∃ i,P.info? et=some i∧i.size=1:=by
  have:=hk.size
  cases h:P.info? et with
  | none=>rw [h] at this; cases this
  | some i=>rw [h] at this; exact ⟨i,rfl,by simpa using this⟩
 have hr:List.range' 0 6=[0,1,2,3,4,5]:=rfl
 have he:=fun (a b:Int) (w:World)=>run_equalIn_int w hk d a b
 have p0:∀ (c0 c1 c2 c3 c4 c5:Value) (w:World),(part et #[c0,c1,c2,c3,c4,c5] 0).run P w = .ok c0 w:=fun _ _ _ _ _ _ w=>run_part_int w hk _ 0 _ rfl
 have p1:∀ (c0 c1 c2 c3 c4 c5:Value) (w:World),(part et #[c0,c1,c2,c3,c4,c5] 1).run P w = .ok c1 w:=fun _ _ _ _ _ _ w=>run_part_int w hk _ 1 _ rfl
 have p2:∀ (c0 c1 c2 c3 c4 c5:Value) (w:World),(part et #[c0,c1,c2,c3,c4,c5] 2).run P w = .ok c2 w:=fun _ _ _ _ _ _ w=>run_part_int w hk _ 2 _ rfl
 have p3:∀ (c0 c1 c2 c3 c4 c5:Value) (w:World),(part et #[c0,c1,c2,c3,c4,c5] 3).run P w = .ok c3 w:=fun _ _ _ _ _ _ w=>run_part_int w hk _ 3 _ rfl
 have p4:∀ (c0 c1 c2 c3 c4 c5:Value) (w:World),(part et #[c0,c1,c2,c3,c4,c5] 4).run P w = .ok c4 w:=fun _ _ _ _ _ _ w=>run_part_int w hk _ 4 _ rfl
 have p5:∀ (c0 c1 c2 c3 c4 c5:Value) (w:World),(part et #[c0,c1,c2,c3,c4,c5] 5).run P w = .ok c5 w:=fun _ _ _ _ _ _ w=>run_part_int w hk _ 5 _ rfl
 rw [Op.equalIn]
 simp only [keyV,Sem.run_bind,run_underlying hk.arr,Result.andThen_ok]
 generalize hE:Op.equalIn (d+1) et=E at *
 simp [sizeOf,typeInfo,hi,hs,hr,p0,p1,p2,p3,p4,p5,he]
 by_cases h0:a0=b0 <;> simp [h0]
 by_cases h1:a1=b1 <;> simp [h1]
 by_cases h2:a2=b2 <;> simp [h2]
 by_cases h3:a3=b3 <;> simp [h3]
 by_cases h4:a4=b4 <;> simp [h4]
 by_cases h5:a5=b5 <;> simp [h5]
theorem run_checkKey_int (hk:KeyT P kt et) (em:Bool) (d:Nat) (a:Int):(Instr.checkKey em (d+1) et (.int .i64 a)).run P w = .ok () w:=by
 rw [Instr.checkKey]
 simp [run_underlying hk.int]
theorem run_checkKey (hk:KeyT P kt et) (em:Bool) (d:Nat) {a:List Int} (ha:a.length=6):(Instr.checkKey em (d+2) kt (keyV a)).run P w = .ok () w:=by
 obtain ⟨a0,a1,a2,a3,a4,a5,rfl⟩:=six ha
 obtain ⟨i,hi,hs⟩:∃ i,P.info? et=some i∧i.size=1:=by
  have:=hk.size
  cases h:P.info? et with
  | none=>rw [h] at this; cases this
  | some i=>rw [h] at this; exact ⟨i,rfl,by simpa using this⟩
 have hr:List.range' 0 6=[0,1,2,3,4,5]:=rfl
 have he:=fun (a:Int) (w:World)=>run_checkKey_int w hk em d a
 have p0:∀ (c0 c1 c2 c3 c4 c5:Value) (w:World),(part et #[c0,c1,c2,c3,c4,c5] 0).run P w = .ok c0 w:=fun _ _ _ _ _ _ w=>run_part_int w hk _ 0 _ rfl
 have p1:∀ (c0 c1 c2 c3 c4 c5:Value) (w:World),(part et #[c0,c1,c2,c3,c4,c5] 1).run P w = .ok c1 w:=fun _ _ _ _ _ _ w=>run_part_int w hk _ 1 _ rfl
 have p2:∀ (c0 c1 c2 c3 c4 c5:Value) (w:World),(part et #[c0,c1,c2,c3,c4,c5] 2).run P w = .ok c2 w:=fun _ _ _ _ _ _ w=>run_part_int w hk _ 2 _ rfl
 have p3:∀ (c0 c1 c2 c3 c4 c5:Value) (w:World),(part et #[c0,c1,c2,c3,c4,c5] 3).run P w = .ok c3 w:=fun _ _ _ _ _ _ w=>run_part_int w hk _ 3 _ rfl
 have p4:∀ (c0 c1 c2 c3 c4 c5:Value) (w:World),(part et #[c0,c1,c2,c3,c4,c5] 4).run P w = .ok c4 w:=fun _ _ _ _ _ _ w=>run_part_int w hk _ 4 _ rfl
 have p5:∀ (c0 c1 c2 c3 c4 c5:Value) (w:World),(part et #[c0,c1,c2,c3,c4,c5] 5).run P w = .ok c5 w:=fun _ _ _ _ _ _ w=>run_part_int w hk _ 5 _ rfl
 rw [Instr.checkKey]
 simp only [keyV,Sem.run_bind,run_underlying hk.arr,Result.andThen_ok]
 generalize hE:Instr.checkKey em (d+1) et=E at *
 simp [sizeOf,typeInfo,hi,hs,hr,p0,p1,p2,p3,p4,p5,he]
end
def mapE:Nat→List (List Int×Value)→List MapEntry
 | _,[]=>[]
 | i,(k,v) :: r=>{ key:=keyV k,val:=v,born:=i } :: mapE (i+1) r
structure MapIs (w:World) (r:Nat) (m:List (List Int×Value)):Prop where
 obj:w.heap[r]?=some (.map (mapE 0 m).toArray m.length)
 six:∀ p∈m,p.1.length=6
 nodup:(m.map (·.1)).Nodup
def findE (k:List Int):Nat→List (List Int×Value)→Option (Nat×Value)
 | _,[]=>none
 | i,(k',v) :: r=>if k=k' then some (i,v) else findE k (i+1) r
theorem findE_none {k:List Int}:∀ {i:Nat} {m:List (List Int×Value)},findE k i m=none↔k ∉ m.map (·.1)
 | _,[]=>by simp [findE]
 | i,(k',v) :: r=>by
  unfold findE
  by_cases h:k=k'
  · simp [h]
  · simp [h,findE_none (i:=i+1) (m:=r)]
theorem mapE_length:∀ (i:Nat) (m:List (List Int×Value)),(mapE i m).length=m.length
 | _,[]=>rfl
 | i,(_,_) :: r=>by simp [mapE,mapE_length (i+1) r]
theorem mapE_append:∀ (i:Nat) (m:List (List Int×Value)) (k:List Int) (v:Value),mapE i (m ++ [(k,v)])=mapE i m ++ [{ key:=keyV k,val:=v,born:=i+m.length }]
 | _,[],_,_=>rfl
 | i,(_,_) :: r,k,v=>by
  simp only [List.cons_append,mapE,mapE_append (i+1) r k v,List.length_cons]
  rw [Nat.add_assoc,Nat.add_comm 1]
section
variable {P:Program} {kt et:TypeId} (w:World)
theorem run_findAsking (hk:KeyT P kt et) {k:List Int} (h6:k.length=6):∀ (m:List (List Int×Value)) (b i:Nat),(∀ p∈m,p.1.length=6) →
 (Instr.findAsking kt (keyV k) (mapE b m) i).run P w = .ok (findE k i m) w
 | [],_,_,_=>by simp [Instr.findAsking,mapE,findE]
 | (k',v) :: r,b,i,h=>by
  have h1:k'.length=6:=h (k',v) (by simp)
  have heq:(Op.equal kt (keyV k) (keyV k')).run P w = .ok (decide (k=k')) w:=run_equal_key w hk 9998 h6 h1
  have ih:=run_findAsking hk h6 r (b+1) (i+1) (fun p hp=>h p (by simp [hp]))
  unfold mapE findE
  rw [Instr.findAsking]
  simp only [Sem.run_bind,heq,Result.andThen_ok]
  by_cases hkk:k=k'
  · simp [hkk]
  · simp [hkk,ih]
theorem run_findKey (hk:KeyT P kt et) {k:List Int} (h6:k.length=6) (m:List (List Int×Value)) (h:∀ p∈m,p.1.length=6) :
 (Instr.findKey kt (keyV k) (mapE 0 m)).run P w = .ok (findE k 0 m) w:=by
 have hn:Instr.findNow (.array 6 et) (keyV k) (mapE 0 m) 0=if m=[] then some none else none:=by
  cases m with
  | nil=>rfl
  | cons p r=>obtain ⟨k',v⟩:=p; simp [mapE,Instr.findNow,Instr.sameNow]
 simp only [Instr.findKey,Sem.run_bind,run_underlying hk.arr,Result.andThen_ok,hn]
 by_cases hm:m=[]
 · subst hm; simp [findE]
 · simp [hm,run_findAsking w hk h6 m 0 0 h]
end
theorem MapIs.lt {w:World} {r:Nat} {m:List (List Int×Value)} (h:MapIs w r m):r<w.heap.size:=by
 rcases Nat.lt_or_ge r w.heap.size with hlt|hge
 · exact hlt
 · have:=h.obj; rw [Array.getElem?_eq_none hge] at this; cases this
theorem MapIs.of_block {w w':World} {r:Nat} {m:List (List Int×Value)} (h:MapIs w r m) (e:w'.heap[r]?=w.heap[r]?):MapIs w' r m:=⟨e.trans h.obj,h.six,h.nodup⟩
theorem MapIs.ext {w w':World} {r:Nat} {m:List (List Int×Value)} (h:MapIs w r m) (e:Ext w w'):MapIs w' r m:=h.of_block (e.block h.lt)
theorem MapIs.kept {w w':World} {r:Nat} {m:List (List Int×Value)} {row:Option Nat} (h:MapIs w r m) (hg:w.grownBy w' row) (hne:some r≠row):MapIs w' r m:=h.of_block (hg.block r h.lt hne)
def lookD (z:Value) (m:List (List Int×Value)) (k:List Int):Value:=((findE k 0 m).map (·.2)).getD z
def hasK (m:List (List Int×Value)) (k:List Int):Bool:=(findE k 0 m).isSome
def putM (m:List (List Int×Value)) (k:List Int) (v:Value):List (List Int×Value) :=
 match findE k 0 m with
 | some (i,_)=>m.set i (k,v)
 | none=>m ++ [(k,v)]
theorem findE_some {k:List Int}:∀ {j:Nat} {m:List (List Int×Value)} {i:Nat} {v:Value},findE k j m=some (i,v)→j≤i∧m[i-j]?=some (k,v)
 | _,[],_,_,h=>by simp [findE] at h
 | j,(k',v') :: r,i,v,h=>by
  unfold findE at h
  by_cases hk:k=k'
  · rw [if_pos hk] at h
    simp only [Option.some.injEq,Prod.mk.injEq] at h
    obtain ⟨rfl,rfl⟩:=h
    subst hk
    simp
  · rw [if_neg hk] at h
    obtain ⟨h1,h2⟩:=findE_some h
    refine ⟨by omega, ?_⟩
    rw [show i-j=(i-(j+1))+1 by omega]
    simpa using h2
theorem mapE_get:∀ (j:Nat) (m:List (List Int×Value)) (i:Nat),(mapE j m)[i]?=(m[i]?).map (fun p=>{ key:=keyV p.1,val:=p.2,born:=j+i })
 | _,[],_=>by simp [mapE]
 | j,(k,v) :: r,0=>by simp [mapE]
 | j,(k,v) :: r,i+1=>by
  simp only [mapE,List.getElem?_cons_succ,mapE_get (j+1) r i]
  rw [Nat.add_assoc,Nat.add_comm 1 i]
theorem mapE_set:∀ (j:Nat) (m:List (List Int×Value)) (i:Nat) (k:List Int) (v:Value),i<m.length→mapE j (m.set i (k,v))=(mapE j m).set i { key:=keyV k,val:=v,born:=j+i }:=by
 intro j m i k v hi
 apply List.ext_getElem?
 intro t
 rw [mapE_get,List.getElem?_set,List.getElem?_set,mapE_length]
 by_cases ht:i=t
 · subst ht
   simp [hi]
 · simp [ht,mapE_get]
theorem sameBits_key (k:List Int):Instr.sameBits 10000 (keyV k) (keyV k)=true:=by
 have h:∀ (l:List Value) (n:Nat),(∀ v∈l,∃ a,v=Value.int .i64 a)→(l.zip l).all (fun x=>Instr.sameBits n x.1 x.2)=true:=by
  intro l n
  induction l with
  | nil=>intro _; rfl
  | cons v r ih =>
   intro hv
   obtain ⟨a,rfl⟩:=hv v (by simp)
   simp only [List.zip_cons_cons,List.all_cons,Bool.and_eq_true]
   refine ⟨?_,ih (fun u hu=>hv u (by simp [hu]))⟩
   cases n <;> simp [Instr.sameBits]
 show Instr.sameBits (9999+1) (.agg _) (.agg _)=true
 rw [Instr.sameBits]
 simp only [beq_self_eq_true,Bool.true_and]
 exact h _ 9999 (by intro v hv; simp only [List.mem_map] at hv; obtain ⟨a,_,rfl⟩:=hv; exact ⟨a,rfl⟩)
section
variable {P:Program} {kt et mt vt:TypeId} {w:World}
theorem run_lookup (hm:P.underlying mt=some (.map kt vt)) (hk:KeyT P kt et) {z:Value} (hz:(zeroValue vt).run P w = .ok z w) {r:Nat} {m:List (List Int×Value)} (h:MapIs w r m) {k:List Int} (h6:k.length=6) (ok:Bool) :
 (Instr.lookup mt (.map (some r)) (keyV k) ok).run P w = .ok (if ok then .tuple #[lookD z m k, .bool (hasK m k)] else lookD z m k) w:=by
 have hc:∀ em,(Instr.checkKey em 10000 kt (keyV k)).run P w = .ok () w:=fun em=>run_checkKey w hk em 9998 h6
 have hf:=run_findKey w hk h6 m h.six
 have ho:=h.obj
 unfold lookD hasK
 simp only [Instr.lookup,Sem.run_bind,run_underlying hm,Result.andThen_ok,getObj,Sem.run,ho]
 cases hfe:findE k 0 m with
 | none=>cases ok <;> simp [hz,hc,hf,hfe]
 | some p=>cases ok <;> simp [hc,hf,hfe]
theorem run_put (hm:P.underlying mt=some (.map kt vt)) (hk:KeyT P kt et) {r:Nat} {m:List (List Int×Value)} (h:MapIs w r m) {k:List Int} (h6:k.length=6) (v:Value) :
 ∃ w',(Instr.mapUpdate mt (.map (some r)) (keyV k) v).run P w = .ok () w'∧MapIs w' r (putM m k v)∧w.grownBy w' (some r):=by
 have hc:∀ em,(Instr.checkKey em 10000 kt (keyV k)).run P w = .ok () w:=fun em=>run_checkKey w hk em 9998 h6
 have hf:=run_findKey w hk h6 m h.six
 have ho:=h.obj
 have hlt:=h.lt
 have hgr:∀ o:Obj,w.grownBy { w with heap:=w.heap.setIfInBounds r o } (some r):=by
  intro o
  refine ⟨rfl,rfl,rfl,by simp,fun j _ hne => ?_⟩
  have:r≠j:=by rintro rfl; exact hne rfl
  simp only
  rw [Array.getElem?_setIfInBounds_ne this]
 have hob:∀ o:Obj,({ w with heap:=w.heap.setIfInBounds r o }:World).heap[r]?=some o:=by
  intro o
  simp only
  rw [Array.getElem?_setIfInBounds_self_of_lt hlt]
 unfold putM
 cases hfe:findE k 0 m with
 | none =>
  refine ⟨_, ?_,⟨hob (.map (mapE 0 (m ++ [(k,v)])).toArray (m.length+1)) |>.trans (by simp), ?_, ?_⟩,hgr _⟩
  · simp only [Instr.mapUpdate,Sem.run_bind,run_underlying hm,Result.andThen_ok,getObj,setObj,Sem.run,ho,hc]
    rw [hf]
    simp [hfe,Sem.run,ho,mapE_append]
  · intro p hp
    rcases List.mem_append.1 hp with hp|hp
    · exact h.six p hp
    · simp only [List.mem_singleton] at hp
      subst hp
      exact h6
  · rw [List.map_append,List.nodup_append]
    refine ⟨h.nodup,by simp, ?_⟩
    intro a ha b hb
    simp only [List.map_cons,List.map_nil,List.mem_singleton] at hb
    subst hb
    rintro rfl
    exact findE_none.1 hfe ha
 | some p =>
  obtain ⟨i,v0⟩:=p
  obtain ⟨_,hi⟩:=findE_some hfe
  rw [Nat.sub_zero] at hi
  have hil:i<m.length:=by
   rcases Nat.lt_or_ge i m.length with h|h
   · exact h
   · simp [List.getElem?_eq_none h] at hi
  have hkeys:(m.set i (k,v)).map (·.1)=m.map (·.1):=by
   rw [List.map_set]
   apply List.ext_getElem?
   intro t
   rw [List.getElem?_set]
   by_cases ht:i=t
   · subst ht
     have hmi:m[i]=(k,v0):=by rw [List.getElem?_eq_getElem hil] at hi; simpa using hi
     simp [hil,hmi]
   · simp [ht]
  refine ⟨_, ?_,⟨hob (.map (mapE 0 (m.set i (k,v))).toArray m.length) |>.trans (by simp), ?_, ?_⟩,hgr _⟩
  · simp only [Instr.mapUpdate,Sem.run_bind,run_underlying hm,Result.andThen_ok,getObj,Sem.run,ho,hc]
    rw [hf]
    have hold:(mapE 0 m)[i]?=some { key:=keyV k,val:=v0,born:=0+i }:=by
     rw [mapE_get,hi]
     rfl
    have hmod:((mapE 0 m).modify i fun e=>{ key:=keyV k,val:=v,born:=e.born })=mapE 0 (m.set i (k,v)):=by
     rw [mapE_set _ _ _ _ _ hil]
     apply List.ext_getElem?
     intro t
     rw [List.getElem?_modify,List.getElem?_set,mapE_length]
     by_cases ht:i=t
     · subst ht
       simp [hold,hil]
     · simp [ht]
    simp [hfe,hold,Instr.keyThatStays,sameBits_key,setObj,Sem.run,ho,hmod]
  · intro p hp
    have:p.1∈(m.set i (k,v)).map (·.1):=List.mem_map_of_mem hp
    rw [hkeys] at this
    obtain ⟨q,hq,e⟩:=List.mem_map.1 this
    rw [←e]
    exact h.six q hq
  · rw [hkeys]; exact h.nodup
end
def IterIs (w:World) (it r n:Nat) (seen:List Nat):Prop:=w.heap[it]?=some (.mapIter (some r) n seen.toArray n)
theorem IterIs.lt {w:World} {it r n:Nat} {seen:List Nat} (h:IterIs w it r n seen):it<w.heap.size:=by
 rcases Nat.lt_or_ge it w.heap.size with hlt|hge
 · exact hlt
 · unfold IterIs at h; rw [Array.getElem?_eq_none hge] at h; cases h
theorem IterIs.ext {w w':World} {it r n:Nat} {seen:List Nat} (h:IterIs w it r n seen) (e:Ext w w'):IterIs w' it r n seen:=(e.block h.lt).trans h
theorem IterIs.kept {w w':World} {it r n:Nat} {seen:List Nat} {row:Option Nat} (h:IterIs w it r n seen) (hg:w.grownBy w' row) (hne:some it≠row):IterIs w' it r n seen:=(hg.block it h.lt hne).trans h
theorem mapE_mem {m:List (List Int×Value)} {e:MapEntry} (h:e∈mapE 0 m):∃ i k v,m[i]?=some (k,v)∧e={ key:=keyV k,val:=v,born:=i }:=by
 obtain ⟨i,hi⟩:=List.mem_iff_getElem?.1 h
 rw [mapE_get] at hi
 cases hm:m[i]? with
 | none=>rw [hm] at hi; cases hi
 | some p =>
  rw [hm] at hi
  refine ⟨i,p.1,p.2,hm, ?_⟩
  simpa using hi.symm
theorem mapE_born_lt {m:List (List Int×Value)} {e:MapEntry} (h:e∈mapE 0 m):e.born<m.length:=by
 obtain ⟨i,k,v,hm,rfl⟩:=mapE_mem h
 rcases Nat.lt_or_ge i m.length with h|h
 · exact h
 · simp [List.getElem?_eq_none h] at hm
theorem mapE_find:∀ (j:Nat) (m:List (List Int×Value)) (i:Nat) (k:List Int) (v:Value),m[i]?=some (k,v)→(mapE j m).find? (fun e=>e.born == j+i)=some { key:=keyV k,val:=v,born:=j+i }
 | _,[],_,_,_,h=>by simp at h
 | j,(k',v') :: r,0,k,v,h=>by
  simp only [List.getElem?_cons_zero,Option.some.injEq,Prod.mk.injEq] at h
  obtain ⟨rfl,rfl⟩:=h
  simp [mapE]
 | j,(k',v') :: r,i+1,k,v,h=>by
  have ih:=mapE_find (j+1) r i k v (by simpa using h)
  rw [show j+(i+1)=j+1+i by omega]
  unfold mapE
  rw [List.find?_cons_of_neg (by simp; omega)]
  exact ih
section
variable {P:Program} {mt kt vt:TypeId} {w:World}
theorem run_range (hm:P.underlying mt=some (.map kt vt)) {r:Nat} {m:List (List Int×Value)} (h:MapIs w r m) :
 (Instr.range mt (.map (some r))).run P w = .ok (.pointer (some ⟨w.heap.size,0,none⟩)) (w.alloc (.mapIter (some r) m.length #[] m.length)):=by
 have ho:=h.obj
 simp [Instr.range,run_underlying hm,getObj,Sem.run,ho,newObj]
theorem run_next {t:TypeId} {r it:Nat} {m:List (List Int×Value)} {seen:List Nat} (h:MapIs w r m) (hi:IterIs w it r m.length seen) :
 ((∀ i,i<m.length→i∈seen)∧(Instr.next (.pointer (some ⟨it,0,none⟩)) false t).run P w = .ok (.tuple #[.bool false]) w) ∨
 ∃ i k v w',i<m.length∧i ∉ seen∧m[i]?=some (k,v)∧(Instr.next (.pointer (some ⟨it,0,none⟩)) false t).run P w = .ok (.tuple #[.bool true,keyV k,v]) w' ∧
  IterIs w' it r m.length (seen ++ [i])∧w.grownBy w' (some it):=by
 have ho:=h.obj
 have hio:w.heap[it]?=some (.mapIter (some r) m.length seen.toArray m.length):=hi
 have hall:(!seen.toArray.isEmpty && !(mapE 0 m).toArray.isEmpty && (mapE 0 m).toArray.all (fun e=>decide (e.born ≥ m.length)))=false:=by
  cases m with
  | nil=>simp [mapE]
  | cons p q =>
   obtain ⟨k,v⟩:=p
   simp [mapE]
 have hold:((mapE 0 m).toArray.filter (fun e => !seen.toArray.contains e.born)).filter (fun e=>decide (e.born<m.length))=(mapE 0 m).toArray.filter (fun e => !seen.toArray.contains e.born):=by
  apply Array.ext'
  simp only [Array.toList_filter]
  rw [List.filter_eq_self]
  intro e he
  have:=(List.mem_filter.1 he).1
  simpa using mapE_born_lt (by simpa using this)
 have hnew:((mapE 0 m).toArray.filter (fun e => !seen.toArray.contains e.born)).filter (fun e=>decide (e.born ≥ m.length))=#[]:=by
  apply Array.ext'
  simp only [Array.toList_filter]
  rw [List.filter_eq_nil_iff]
  intro e he
  have:=(List.mem_filter.1 he).1
  have:=mapE_born_lt (by simpa using this)
  simp
  omega
 generalize hl:(mapE 0 m).toArray.filter (fun e => !seen.toArray.contains e.born)=left at *
 have hleft:∀ e∈left,∃ i k v,m[i]?=some (k,v)∧i ∉ seen∧e={ key:=keyV k,val:=v,born:=i }:=by
  intro e he
  rw [←hl] at he
  obtain ⟨h1,h2⟩:=Array.mem_filter.1 he
  obtain ⟨i,k,v,hm,rfl⟩:=mapE_mem (by simpa using h1)
  exact ⟨i,k,v,hm,by simpa using h2,rfl⟩
 by_cases hempty:left=#[]
 · left
   refine ⟨?_, ?_⟩
   · intro i hi'
     by_cases hs:i∈seen
     · exact hs
     · exfalso
       have:({ key:=keyV m[i].1,val:=m[i].2,born:=i }:MapEntry)∈left:=by
        rw [←hl,Array.mem_filter]
        refine ⟨?_,by simpa using hs⟩
        rw [List.mem_toArray,List.mem_iff_getElem?]
        exact ⟨i,by rw [mapE_get,List.getElem?_eq_getElem hi']; simp⟩
       rw [hempty] at this
       simp at this
   · simp only [Instr.next,Sem.run_bind,getObj,Sem.run,hio,ho,Result.andThen_ok]
     simp only [hall,hl,hold,hnew]
     simp [hempty,choose,Sem.run,Question.forced]
 · right
   have hpos:0<left.size:=by
    rcases Nat.eq_zero_or_pos left.size with h0|h0
    · exact absurd (Array.eq_empty_of_size_eq_zero h0) hempty
    · exact h0
   obtain ⟨c,w1,hc,hch,hw1⟩:∃ c w1,c<left.size∧(choose (.mapNext left.size)).run P w = .ok c w1∧(w1=w∨w1=w.drew):=by
    by_cases h1:left.size≤1
    · exact ⟨0,w,hpos,by simp [choose,Sem.run,Question.forced,h1], .inl rfl⟩
    · refine ⟨w.tape w.drawn (.mapNext left.size)%left.size,w.drew,Nat.mod_lt _ hpos, ?_, .inr rfl⟩
      simp [choose,Sem.run,Question.forced,h1,Question.cut]
   obtain ⟨i,k,v,hm,hs,he⟩:=hleft left[c] (Array.getElem_mem hc)
   have hil:i<m.length:=by
    rcases Nat.lt_or_ge i m.length with h|h
    · exact h
    · simp [List.getElem?_eq_none h] at hm
   have hw1o:w1.heap=w.heap:=by rcases hw1 with rfl | rfl <;> rfl
   have hio1:w1.heap[it]?=some (.mapIter (some r) m.length seen.toArray m.length):=by rw [hw1o]; exact hio
   refine ⟨i,k,v,{ w1 with heap:=w1.heap.setIfInBounds it (.mapIter (some r) m.length (seen.toArray.push i) m.length) },hil,hs,hm, ?_, ?_, ?_⟩
   · simp only [Instr.next,Sem.run_bind,getObj,Sem.run,hio,ho,Result.andThen_ok]
     simp only [hall,hl,hold,hnew]
     have hcand:((if left.isEmpty=true then #[none] else #[]) ++ (left ++ #[]).map some)=left.map some:=by
      simp [hempty]
     simp only [hcand]
     have hsz:(left.map some).size=left.size:=by simp
     simp only [hsz,Bool.false_eq_true,if_false,Sem.run_bind,Result.andThen_ok,hch]
     have hget:(left.map some)[c]?=some (some { key:=keyV k,val:=v,born:=i }):=by
      rw [Array.getElem?_map,Array.getElem?_eq_getElem hc,he]
      rfl
     simp only [hget]
     simp [setObj,Sem.run,hio1]
   · show ({ w1 with heap:=w1.heap.setIfInBounds it _ }:World).heap[it]?=_
     have:it<w1.heap.size:=by rw [hw1o]; exact hi.lt
     simp only
     rw [Array.getElem?_setIfInBounds_self_of_lt this]
     simp
   · refine ⟨by rcases hw1 with rfl | rfl <;> rfl,by rcases hw1 with rfl | rfl <;> rfl,by rcases hw1 with rfl | rfl <;> rfl,by simp [hw1o],fun j _ hne => ?_⟩
     have:it≠j:=by rintro rfl; exact hne rfl
     simp only
     rw [Array.getElem?_setIfInBounds_ne this,hw1o]
theorem run_entry {r it i:Nat} {m:List (List Int×Value)} {seen:List Nat} {k:List Int} {v:Value} (h:MapIs w r m) (hi:IterIs w it r m.length (seen ++ [i])) (hm:m[i]?=some (k,v)) :
 (Instr.entry (.pointer (some ⟨it,0,none⟩))).run P w = .ok (.tuple #[keyV k,v]) w:=by
 have ho:=h.obj
 have hio:w.heap[it]?=some (.mapIter (some r) m.length (seen ++ [i]).toArray m.length):=hi
 have hf:=mapE_find 0 m i k v hm
 rw [Nat.zero_add] at hf
 simp [Instr.entry,getObj,Sem.run,hio,ho,hf]
theorem wl_mkMap {ops:Array Oper} {rest:List Oper} {o:Oper} {f:Act} {Q:Exit→Act→World→Prop} (hgd:o.guard=none) (ho:o.op = .makeMap mt none)
 (hK:∀ w',MapIs w' w.heap.size []→Ext w w'→w.heap.size<w'.heap.size→wpList P ops Q rest (f.put o.dst (.map (some w.heap.size))) w'):wpList P ops Q (o :: rest) f w:=by
 refine wpList_plain hgd fun K hK' => ?_
 unfold Oper.wp execOp
 have hr:(Instr.makeMap mt none).run P w = .ok (.map (some w.heap.size)) (w.alloc (.map #[] 0)):=by
  simp [Instr.makeMap,newObj,Sem.run]
 simp only [ho,Option.map_none,Sem.run_bind,hr,Result.andThen_ok,Sem.run_pure,Oper.upon]
 exact hK' _ _ (hK _ ⟨heap_alloc_new w _,by simp,by simp⟩ ((Ext.refl w).alloc _) (by simp))
theorem wl_lookup {et:TypeId} {ops:Array Oper} {rest:List Oper} {o:Oper} {f:Act} {Q:Exit→Act→World→Prop} {x y:Operand} {ok:Bool} (hgd:o.guard=none) (ho:o.op = .lookup mt x y ok)
 (hm:P.underlying mt=some (.map kt vt)) (hk:KeyT P kt et) {z:Value} (hz:∀ w,(zeroValue vt).run P w = .ok z w) {r:Nat} {m:List (List Int×Value)} {k:List Int}
 (hx:f.eval x = .map (some r)) (hy:f.eval y=keyV k) (h:MapIs w r m) (h6:k.length=6)
 (hK:wpList P ops Q rest (f.put o.dst (if ok then .tuple #[lookD z m k, .bool (hasK m k)] else lookD z m k)) w):wpList P ops Q (o :: rest) f w:=by
 refine wpList_plain hgd fun K hK' => ?_
 unfold Oper.wp execOp
 simp only [ho,hx,hy,Sem.run_bind,run_lookup hm hk (hz w) h h6 ok,Result.andThen_ok,Sem.run_pure,Oper.upon]
 exact hK' _ _ hK
theorem wl_put {et:TypeId} {ops:Array Oper} {rest:List Oper} {o:Oper} {f:Act} {Q:Exit→Act→World→Prop} {x y u:Operand} (hgd:o.guard=none) (ho:o.op = .mapUpdate mt x y u∨o.op = .insert mt x y u)
 (hm:P.underlying mt=some (.map kt vt)) (hk:KeyT P kt et) {r:Nat} {m:List (List Int×Value)} {k:List Int} {v:Value}
 (hx:f.eval x = .map (some r)) (hy:f.eval y=keyV k) (hu:f.eval u=v) (h:MapIs w r m) (h6:k.length=6)
 (hK:∀ w',MapIs w' r (putM m k v)→w.grownBy w' (some r)→wpList P ops Q rest (f.put o.dst undef) w'):wpList P ops Q (o :: rest) f w:=by
 refine wpList_plain hgd fun K hK' => ?_
 obtain ⟨w',hrun,h2,h3⟩:=run_put hm hk h h6 v
 unfold Oper.wp execOp
 rcases ho with ho|ho
 all_goals
  simp only [ho,hx,hy,hu,Sem.run_bind,hrun,Result.andThen_ok,Sem.run_pure,Oper.upon]
  exact hK' _ _ (hK w' h2 h3)
theorem wl_range {ops:Array Oper} {rest:List Oper} {o:Oper} {f:Act} {Q:Exit→Act→World→Prop} {x:Operand} (hgd:o.guard=none) (ho:o.op = .range mt x)
 (hm:P.underlying mt=some (.map kt vt)) {r:Nat} {m:List (List Int×Value)} (hx:f.eval x = .map (some r)) (h:MapIs w r m)
 (hK:∀ w',IterIs w' w.heap.size r m.length []→Ext w w'→w.heap.size<w'.heap.size→wpList P ops Q rest (f.put o.dst (.pointer (some ⟨w.heap.size,0,none⟩))) w'):wpList P ops Q (o :: rest) f w:=by
 refine wpList_plain hgd fun K hK' => ?_
 unfold Oper.wp execOp
 simp only [ho,hx,Sem.run_bind,run_range hm h,Result.andThen_ok,Sem.run_pure,Oper.upon]
 exact hK' _ _ (hK _ (heap_alloc_new w _) ((Ext.refl w).alloc _) (by simp))
theorem wl_next {ops:Array Oper} {rest:List Oper} {o:Oper} {f:Act} {Q:Exit→Act→World→Prop} {x:Operand} (hgd:o.guard=none) (ho:o.op = .next x false)
 {r it:Nat} {m:List (List Int×Value)} {seen:List Nat} (hx:f.eval x = .pointer (some ⟨it,0,none⟩)) (h:MapIs w r m) (hi:IterIs w it r m.length seen)
 (h1:(∀ i,i<m.length→i∈seen)→wpList P ops Q rest (f.put o.dst (.tuple #[.bool false])) w)
 (h2:∀ i k v w',i<m.length→i ∉ seen→m[i]?=some (k,v)→IterIs w' it r m.length (seen ++ [i])→w.grownBy w' (some it)→wpList P ops Q rest (f.put o.dst (.tuple #[.bool true,keyV k,v])) w') :
 wpList P ops Q (o :: rest) f w:=by
 refine wpList_plain hgd fun K hK' => ?_
 unfold Oper.wp execOp
 rcases run_next (P:=P) (t:=o.type) h hi with ⟨hs,hr⟩|⟨i,k,v,w',a1,a2,a3,hr,a4,a5⟩
 · simp only [ho,hx,Sem.run_bind,hr,Result.andThen_ok,Sem.run_pure,Oper.upon]
   exact hK' _ _ (h1 hs)
 · simp only [ho,hx,Sem.run_bind,hr,Result.andThen_ok,Sem.run_pure,Oper.upon]
   exact hK' _ _ (h2 i k v w' a1 a2 a3 a4 a5)
theorem wl_entry {ops:Array Oper} {rest:List Oper} {o:Oper} {f:Act} {Q:Exit→Act→World→Prop} {x:Operand} (hgd:o.guard=none) (ho:o.op = .entry x)
 {r it i:Nat} {m:List (List Int×Value)} {seen:List Nat} {k:List Int} {v:Value} (hx:f.eval x = .pointer (some ⟨it,0,none⟩)) (h:MapIs w r m) (hi:IterIs w it r m.length (seen ++ [i])) (hm:m[i]?=some (k,v))
 (hK:wpList P ops Q rest (f.put o.dst (.tuple #[keyV k,v])) w):wpList P ops Q (o :: rest) f w:=by
 refine wpList_plain hgd fun K hK' => ?_
 unfold Oper.wp execOp
 simp only [ho,hx,Sem.run_bind,run_entry h hi hm,Result.andThen_ok,Sem.run_pure,Oper.upon]
 exact hK' _ _ hK
end
end Go.Proofs.YtbiifaciddajnaaGreatDoor
