/- Part Gan31. -/
import Derived.Test.YtlpgonpfjbhmfaaGreatDoorGan26
import Derived.Test.YtlpgonpfjbhmfaaGreatDoorGan30
set_option maxRecDepth 100000
set_option maxHeartbeats 100000000
namespace Go.Proofs.YtlpgonpfjbhmfaaGreatDoor
open Go Go.RowKit
theorem take_flat {ls:List (List Pl.Tm)} {k:Nat} (hk:k<ls.length):(ls.take (k+1)).flatten=(ls.take k).flatten ++ ls.getD k []:=by
 rw [List.take_add_one,List.flatten_append];simp [List.getD_eq_getElem?_getD,hk]
theorem flat_split {ls:List (List Pl.Tm)} {k:Nat} (hk:k<ls.length):(ls.take k).flatten ++ (ls.getD k [] ++ (ls.drop (k+1)).flatten)=ls.flatten:=by
 have h1:ls.take k ++ (ls.getD k [] :: ls.drop (k+1))=ls:=by
  have:ls.getD k [] :: ls.drop (k+1)=ls.drop k:=by
   rw [List.drop_eq_getElem_cons hk,List.getD_eq_getElem?_getD,List.getElem?_eq_getElem hk]; rfl
  rw [this,List.take_append_drop]
 conv=>rhs; rw [←h1]
 simp
def Sums (w0:World) (r:Nat) (p:List Pl.Tm) (wr:World):Prop:=∃ l,Ext w0 wr∧MapR wr r l∧Hid (∀ e,Pl.coef l e=Pl.coef p e)∧l.length≤p.length
def Outs (w0:World) (r it g c:Nat) (l:List Pl.Tm) (v:Value) (wr:World):Prop :=
 ∃ seen n rows,v = .slice (some ⟨g,0,none⟩) n c∧Ext w0 wr∧MapR wr r l∧IterIs wr it r l.length seen∧seen.Nodup∧(∀ i∈seen,i<l.length)∧OwnU wr w0.heap.size 111 10 g n c rows ∧
  (Pl.picked l seen).length=n∧Hid (∀ i,i<n→EntC wr (rows.getD i []) ((Pl.picked l seen).getD i ([],0)))
theorem poly_collect {a:Option Addr} {n c:Nat} {ls:List (List Pl.Tm)} {w:World} (hT:Tabs w) (h:EntLL w a n c ls) (hn:n≤1000) (hN:ls.flatten.length≤1000000) (hB:∀ p s,p ++ s=ls.flatten→∀ e,Pl.RB 2400 (Pl.coef p e)) (hB1:∀ t∈ls.flatten,Pl.RB 2400 t.2) :
 Calls Tryz.prog 69 #[.slice a n c] w (fun e w'=>∃ out,RetOw w out e w'∧Pl.Nrm out∧∀ e,Pl.coef out e=Pl.coef ls.flatten e):=by
 obtain ⟨cs,hS,hl,hq⟩:=h;have HQ:=qh hq;have HB:=qh hB;have HB1:=qh hB1;have HL:=qh hl;have HN:=qh hN;clear hq hB hB1 hl hN
 go_enter Tryz.func69,Tryz.ntmps69
 go_upto_region 2 with (refine wl_mkMap rfl rfl ?_; intro w1 hM1 hE1 hlt1)
 go_wp2
 go_loopw [14] (fun iv wr=>∃ k:Nat,iv = .int .i64 k∧k≤n∧Sums w w.heap.size (ls.take k).flatten wr) (fun iv _=>n-(intOf iv).toNat)
 case atStart=>exact ⟨0,rfl,Nat.zero_le _,[],hE1,MapR.new hM1,qh (fun e=>rfl),Nat.zero_le _⟩
 case round =>
  clear hM1 hE1 hlt1;obtain ⟨k,rfl,hk,hSu⟩:=hrel;by_cases hlt:k<n
  · obtain ⟨l0,hE0,hMR0,HC0,hl0⟩:=hSu;obtain ⟨b1,o1,rfl,hc1⟩:=(hS.ext hE0).rd (by omega);obtain ⟨a2,n2,c2,e2,hEs⟩:=HQ.out k hlt;have g1:=hc1 k hlt;rw [e2] at g1;have HFS:=qh (flat_split (ls:=ls) (k:=k) (by rw [HL.out]; exact hlt));have HTF:=qh (take_flat (ls:=ls) (k:=k) (by rw [HL.out]; exact hlt));have HKK:=qh e2;clear hc1 e2;obtain ⟨L,HLk⟩:∃ L,Hid (ls.getD k []=L):=⟨_,qh rfl⟩;obtain ⟨pre,HPR⟩:∃ p,Hid ((ls.take k).flatten=p):=⟨_,qh rfl⟩;rw [HPR.out] at HC0 hl0;have HF2:Hid (pre ++ (L ++ (ls.drop (k+1)).flatten)=ls.flatten):=qh (by rw [←HPR.out,←HLk.out]; exact HFS.out)
    have HT2:Hid ((ls.take (k+1)).flatten=pre ++ L):=qh (by rw [←HPR.out,←HLk.out]; exact HTF.out);rw [HLk.out] at hEs;obtain ⟨rows,hR,hRl,hRq⟩:=hEs;have HRQ:=qh hRq;have HRL:=qh hRl;have hn2:=hR.le;clear hRq hRl HFS HTF HKK;obtain ⟨wo,rfl⟩:∃ x:World,x=wr:=⟨_,rfl⟩;go_wp2
    go_loopw [20] (fun iv wr=>∃ j:Nat,iv = .int .i64 j∧j≤n2∧Sums w w.heap.size (pre ++ L.take j) wr) (fun iv _=>n2-(intOf iv).toNat)
    case atStart=>exact ⟨0,rfl,Nat.zero_le _,l0,hE0,hMR0,by simpa using HC0,by simpa using hl0⟩
    case round =>
     clear hMR0 HC0 hl0 hE0 g1;obtain ⟨j,rfl,hj,hSu⟩:=hrel;by_cases hlj:j<n2
     · obtain ⟨l,hE,hMR,HC,hll⟩:=hSu;have hSw:=hR.ext hE;obtain ⟨b,off,rfl,_⟩:=hSw.rd (by omega);obtain ⟨sx,ax,nx,cx,bx,mx,dx,hrow,h6,hrc⟩:=HRQ.out j hlj
       have HJT:Hid (L.take (j+1)=L.take j ++ [L.getD j ([],0)]):=qh (by
        rw [List.take_add_one,List.getD_eq_getElem?_getD,List.getElem?_eq_getElem (by rw [HRL.out]; exact hlj)]; rfl)
       have HTM:Hid (L.getD j ([],0)∈ls.flatten):=qh (by
        rw [←HF2.out];refine List.mem_append_right _ (List.mem_append_left _ ?_);rw [List.getD_eq_getElem?_getD,List.getElem?_eq_getElem (by rw [HRL.out]; exact hlj)]
        exact List.getElem_mem _)
       have HPX:Hid (∀ e,Pl.RB 2400 (Pl.coef (pre ++ L.take j) e)):=qh (HB.out _ (L.drop j ++ (ls.drop (k+1)).flatten) (by rw [←HF2.out,List.append_assoc,←List.append_assoc (L.take j),List.take_append_drop]));generalize L.getD j ([],0)=t at *
       obtain ⟨te,tq⟩:=t;obtain ⟨x0,x1,x2,x3,x4,x5,h6e⟩:=six_of h6;simp only at h6e hrow hrc;subst h6e;have hY:=Arr.new wr 111 (entL [0,0,0,0,0,0] false none 0 0 none 0 0)
       go_upto_region 8 with (first
        | (refine wl_ldK rfl rfl agg_entry rfl hSw hlj ?_; rw [hrow])
        | (refine wl_stArr (vs:=entL [x0,x1,x2,x3,x4,x5] sx ax nx cx bx mx dx) rfl rfl rfl rfl rfl agg_entry hY rfl entL_one ?_; intro w3 hB3 hg3))
       have hE3:Ext wr w3:=((Ext.refl wr).alloc _).grownR hg3 (Nat.le_refl _);have hMR3:=hMR.ext hE3;have hEw:=hE.trans hE3;have hrc3:=hrc.ext hEw;have hXr:w.heap.size≠wr.heap.size:=by have:=hMR.lt; omega
       clear hY hg3 hMR hE hE3 hrow h6 hSw hrc;generalize wr.heap.size=X at *
       have c0:=hB3.c 0 rfl;have c1:=hB3.c 1 rfl;have c2:=hB3.c 2 rfl;have c3:=hB3.c 3 rfl;have c4:=hB3.c 4 rfl;have c5:=hB3.c 5 rfl;have c6:=hB3.c 6 rfl;have c7:=hB3.c 7 rfl;have c8:=hB3.c 8 rfl;have c9:=hB3.c 9 rfl;obtain ⟨m,hMi,hRel⟩:=hMR3;have hnd:=hMi.nodup;have HRel:=qh hRel;obtain ⟨LV,HLV⟩:∃ v,Hid (lookD zeroR m [x0,x1,x2,x3,x4,x5]=v):=⟨_,qh rfl⟩;have HKL:Hid ((l.map (·.1)).Nodup):=qh (by rw [←hRel.keys]; exact hnd);have HLR:Hid (RatR w3 LV (Pl.getK 0 l [x0,x1,x2,x3,x4,x5])):=qh (by rw [←HLV.out,lookD_get]; exact hRel.get (zeroR_is w3) _)
       have HGB:Hid (Pl.RB 2400 (Pl.getK 0 l [x0,x1,x2,x3,x4,x5])):=qh (by rw [Pl.getK_coef l _ HKL.out,HC.out]; exact HPX.out _);have HTB:Hid (Pl.RB 2400 tq):=qh (HB1.out _ HTM.out);have hadd:=fun (wx:World) (hq:Ext w3 wx)=>qh (rat_Add ((hT.ext hEw).ext hq) (HLR.out.ext hq) (v' := .agg #[.bool sx, .slice ax nx cx, .bool false, .slice bx mx dx]) (q:=tq) ⟨ratL sx ax nx cx false bx mx dx,rfl,hrc3.ext hq⟩ HGB.out.1 HGB.out.2 HTB.out.1 HTB.out.2)
       have HST:Hid (∀ e,Pl.coef (Pl.putK l [x0,x1,x2,x3,x4,x5] (Pl.getK 0 l [x0,x1,x2,x3,x4,x5]+tq)) e=Pl.coef (pre ++ L.take (j+1)) e):=qh (fun e=>by
        rw [Pl.coef_step HKL.out,HC.out,HJT.out,←List.append_assoc,Pl.coef_app _ [_]])
       have HPL:=qh (Pl.putK_length [x0,x1,x2,x3,x4,x5] (Pl.getK 0 l [x0,x1,x2,x3,x4,x5]+tq) l);have HJL:Hid ((pre ++ L.take (j+1)).length=(pre ++ L.take j).length+1):=qh (by rw [HJT.out]; simp; omega);clear hRel hnd HPX HGB HTB hrc3;generalize Pl.getK 0 l [x0,x1,x2,x3,x4,x5]=gq at *
       have HF1:=fun (wx:World) (hC:Ext w3 wx)=>qh (And.intro (hC.cell c0) (And.intro (hC.cell c1) (And.intro (hC.cell c2) (And.intro (hC.cell c3) (And.intro (hC.cell c4) (And.intro (hC.cell c5) (And.intro (hC.cell c6) (And.intro (hC.cell c7) (And.intro (hC.cell c8) (hC.cell c9))))))))))
       refine wp_region_typed2 (by kernel_rfl) (fun wx=>Ext w3 wx)
        [he (.map (some w.heap.size)),
 he (.pointer (some ⟨X,0,none⟩)),
 he (.agg #[.int .i64 x0, .int .i64 x1, .int .i64 x2, .int .i64 x3, .int .i64 x4, .int .i64 x5]),
 he (.map (some w.heap.size)),
 he (.pointer (some ⟨X,0,none⟩)),
 he (.agg #[.int .i64 x0, .int .i64 x1, .int .i64 x2, .int .i64 x3, .int .i64 x4, .int .i64 x5]),
 he LV,
 he (.pointer (some ⟨X,6,none⟩)),
 he (.agg #[.bool sx, .slice ax nx cx, .bool false, .slice bx mx dx]),
 hp (fun v wx=>NR (gq+tq) v wx)]
        (by kernel_rfl) (fun _ _ e h=>h.trans e) ((Ext.refl w3).drew) ⟨trivial,trivial,trivial,trivial,trivial,trivial,trivial,trivial,trivial,NR.x _,trivial⟩ ⟨?o0, ?o1, ?o2, ?o3, ?o4, ?o5, ?o6, ?o7, ?o8, ?o9,trivial⟩ ?fin
       case o0=>exact omv rfl rfl (fun _ _=>id)
       case o1=>exact ofa (d:=0) rfl rfl (fun _ _=>id) (by kernel_rfl) rfl
       case o2 =>
        refine obl_pq rfl fun ρ wx hC hcst h => ?_;have e0:ρ (.tmp 25)=(.pointer (some ⟨X,0,none⟩)):=h.1;obtain ⟨kx0,kx1,kx2,kx3,kx4,kx5,kx6,kx7,kx8,kx9⟩:=(HF1 wx hC).out;go_simp
       case o3=>exact omv rfl rfl (fun _ _=>id)
       case o4=>exact ofa (d:=0) rfl rfl (fun _ _=>id) (by kernel_rfl) rfl
       case o5 =>
        refine obl_pq rfl fun ρ wx hC hcst h => ?_;have e0:ρ (.tmp 28)=(.pointer (some ⟨X,0,none⟩)):=h.1;obtain ⟨kx0,kx1,kx2,kx3,kx4,kx5,kx6,kx7,kx8,kx9⟩:=(HF1 wx hC).out;go_simp
       case o6 =>
        refine obl_pq rfl fun ρ wx hC hcst h => ?_;have e0:ρ (.tmp 27)=(.map (some w.heap.size)):=h.1;have e1:ρ (.tmp 29)=(.agg #[.int .i64 x0, .int .i64 x1, .int .i64 x2, .int .i64 x3, .int .i64 x4, .int .i64 x5]):=h.2.1;obtain ⟨kx0,kx1,kx2,kx3,kx4,kx5,kx6,kx7,kx8,kx9⟩:=(HF1 wx hC).out;rw [←HLV.out];exact ex_lookup rfl und_mapR keyT_exps zero_Ratio e0 e1 (hMi.ext hC) rfl
       case o7=>exact ofa (d:=6) rfl rfl (fun _ _=>id) (by kernel_rfl) rfl
       case o8=>exact ol4 rfl rfl (fun _ _=>id) ⟨by kernel_rfl,by kernel_rfl⟩ (by assumption) (by assumption) (by assumption) (by assumption)
       case o9 =>
        refine obl_cq rfl fun ρ wx hC hcst hfn h => ?_;have e1:ρ (.tmp 30)=LV:=h.2.1;have e2:ρ (.tmp 32)=(.agg #[.bool sx, .slice ax nx cx, .bool false, .slice bx mx dx]):=h.2.2.1;obtain ⟨kx0,kx1,kx2,kx3,kx4,kx5,kx6,kx7,kx8,kx9⟩:=(HF1 wx hC).out;refine ⟨70,#[LV, .agg #[.bool sx, .slice ax nx cx, .bool false, .slice bx mx dx]],by go_simp,((hadd wx hC).out).mono ?_⟩;rintro e w' ⟨cs,rfl,hE',hr'⟩;exact ⟨_,rfl,hE',cs,rfl,hr'⟩
       case fin =>
        intro wx hC;rintro _ ⟨cs9,rfl,hr9⟩;change wpList _ _ _ _ _ _;simp only [List.length_cons,List.length_nil,List.drop_succ_cons,List.drop_zero,Act.put,List.setIfInBounds_toArray,List.set_cons_succ,List.set_cons_zero];have hMx:=hMi.ext hC;have hSz:=hEw.size
        go_wp2_with (refine wl_put rfl (Or.inl rfl) und_mapR keyT_exps (k:=[x0,x1,x2,x3,x4,x5]) (v := .agg cs9.toArray) rfl rfl rfl hMx rfl ?_; intro w5 hM5 hg5)
        go_roundw
        case rel =>
         refine ⟨j+1,by go_num,by omega,_,(hEw.trans hC).grownR hg5 (Nat.le_refl _),⟨_,by rw [putM_put] at hM5; exact hM5, ?_⟩,HST,by have h1:=HPL.out; have h2:=HJL.out; omega⟩;have hU:=hMx.noU;exact ((HRel.out.mono fun _ _ h=>h.ext hC).put _ ⟨cs9,rfl,hr9⟩).mono fun _ _ h=>h.keptU hU hg5
        case measure=>simp [intOf]; omega
     · have hje:j=n2:=by omega
       subst hje;rw [List.take_of_length_le (by rw [HRL.out]; exact Nat.le_refl _),←HT2.out] at hSu;go_wp2;go_roundw
       case rel=>exact ⟨k+1,by go_num,by omega,hSu⟩
       case measure=>simp [intOf]; omega
  · have hkn:k=n:=by omega
    subst hkn;rw [List.take_of_length_le (by rw [HL.out]; exact Nat.le_refl _)] at hSu;obtain ⟨l,hE,hMR,HC,hll⟩:=hSu;have h6:=hMR.six;have hnd:=hMR.nodup;have HP:=qh (And.intro h6 hnd);clear h6 hnd;obtain ⟨m,hMi,hRel⟩:=hMR;have hml:=hRel.len;have hmN:m.length≤1000000:=by have:=HN.out; omega
    have HML:=qh hml;have hln:=run_lenMp (P:=Tryz.prog) (ty:=3) und_mapR hMi;have HRel:=qh hRel;clear hml hRel hll
    go_upto_region 12 with (refine wl_mk0U rfl rfl (by kernel_rfl) elem_entry entL_nu rfl rfl (by omega) (by unfold maxLen; omega) ?_; intro w2 hO2 hE2)
    have hMi2:=hMi.ext hE2
    go_upto_region 13 with (refine wl_range rfl rfl und_mapR rfl hMi2 ?_; intro w3 hI3 hE3 hlt3)
    have hE23:=hE2.trans hE3;have hEw:=hE.trans hE23;have hMR3:MapR w3 w.heap.size l:=⟨m,hMi.ext hE23,HRel.out.mono fun _ _ h=>h.ext hE23⟩;have hI3':IterIs w3 w2.heap.size w.heap.size l.length []:=by rw [←HML.out]; exact hI3
    have hg0:w.heap.size<wr.heap.size:=hMi.lt;have hO3:=hO2.ext hE3;have hgi:wr.heap.size<w2.heap.size:=hO2.lt.2;have hO3':OwnU w3 w.heap.size 111 10 wr.heap.size 0 m.length []:=⟨hO3.1.mono (by omega),hO3.2⟩;clear hI3 hMi2 hE2 hE3 hO2 hE23 hln hE hlt3 hMi hO3;generalize wr.heap.size=g at *
    generalize w2.heap.size=it at *
    obtain ⟨M,hM⟩:∃ M,m.length=M:=⟨_,rfl⟩;have hMl:l.length=M:=by rw [←hM]; exact HML.out.symm
    have HMl:=qh hMl;rw [hM] at hO3' hmN ⊢;have hMM:=hmN;clear hmN;clear hM hMl HRel HML
    go_frame
    go_loopw [8] (fun v wr=>Outs w w.heap.size it g M l v wr) (fun _ wr=>l.length-seenN wr it)
    case atStart=>exact ⟨[],0,[],rfl,hEw,hMR3,hI3',by simp,by simp,hO3',rfl,qh (fun i hi=>absurd hi (by omega))⟩
    case round =>
     clear hEw hMR3 hI3' hO3';obtain ⟨seen,N,rows,rfl,hE,hMR,hI,hsn,hsl,hO,hpl,HEn⟩:=hrel;have hNM:N≤seen.length∧seen.length≤l.length:=by
      have h1:=Pl.picked_len l seen;have h2:=Pl.seen_len hsn hsl;omega
     have HPLN:=qh hpl;clear hpl;obtain ⟨m2,hMi2,hRel2⟩:=hMR;have hml2:=hRel2.len;rw [←hml2] at hI;have hrI:=map_ne_it hMi2 hI;by_cases hall:∀ i,i<m2.length→i∈seen
     · have hperm:=Pl.picked_perm hsn hsl (fun i hi=>hall i (by rw [hml2]; exact hi));have HPM:=qh hperm;clear hperm hml2
       go_wp2_with (refine wl_next rfl rfl rfl hMi2 hI (fun _ => ?_) (fun i _ _ _ h1 h2 _ _ _=>absurd (hall i h1) h2))
       go_ret;refine ⟨Pl.picked l seen,⟨_,N,M,rfl,hE,rows,hO.1,fun g' hg' => ?_,HPLN.out,HEn.out⟩,(Pl.Nrm.filter HP.out.1 HP.out.2).perm HPM.out.symm,fun e => ?_⟩
       · have:g=g':=by simpa [blk] using hg'
         subst this;exact hO.2
       · rw [Pl.coef_perm HPM.out,Pl.coef_nz,HC.out]
     · have hSN:seenN wr it=seen.length:=seenN_of hI;have hsz:=hE.size;have hOI:=ownK_ne_it hO.1 hI;have hOM:=ownK_ne_map hO.1 hMi2;have HRel2:=qh hRel2;have HML2:=qh hml2;have hIlt:=hI.lt;have hIU:=hI.noU;clear hRel2 hml2
       go_upto_region 14 with (refine wl_next rfl rfl rfl hMi2 hI (fun h=>absurd h hall) ?_; intro i k v w4 hil his hmi hI4 hg4)
       obtain ⟨q,hlq,hRv⟩:=HRel2.out.nth hmi;have HLQ:Hid (l.getD i ([],0)=(k,q)):=qh (by rw [List.getD_eq_getElem?_getD,hlq]; rfl);have hk6:k.length=6:=hMi2.six _ (List.mem_of_getElem? hmi);have hMR4:MapR w4 w.heap.size l:=MapR.keptU ⟨m2,hMi2,HRel2.out⟩ hIU hg4 hrI;have hMi4:=hMi2.kept hg4 (by simpa using hrI);have hO4:=hO.kept hg4 (by simpa using hOI);have HEn4:Hid (∀ i,i<N→EntC w4 (rows.getD i []) ((Pl.picked l seen).getD i ([],0))):=qh (fun i hi=>(HEn.out i hi).keptU hIU hg4);have hRv4:=hRv.keptU hIU hg4;have hE4:Ext w w4:=hE.grownR hg4 (by omega)
       have HSEEN:Hid ((seen ++ [i]).Nodup∧(∀ j∈seen ++ [i],j<l.length)∧seen.length<l.length):=qh (by
        have hiL:i<l.length:=by rw [←HML2.out]; exact hil
        refine ⟨List.nodup_append.2 ⟨hsn,by simp,fun x hx y hy=>by simp only [List.mem_singleton] at hy; subst hy; rintro rfl; exact his hx⟩,fun j hj => ?_, ?_⟩
        · rcases List.mem_append.1 hj with hj|hj
          · exact hsl j hj
          · simp only [List.mem_singleton] at hj; subst hj; exact hiL
        · have:=Pl.seen_len (n:=l.length) (List.nodup_cons.2 ⟨his,hsn⟩) (fun x hx=>by
           rcases List.mem_cons.1 hx with rfl|hx
           · exact hiL
           · exact hsl x hx)
          simp at this
          omega)
       obtain ⟨x0,x1,x2,x3,x4,x5,h6e⟩:=six_of hk6;subst h6e;obtain ⟨_,rfl,sx,ax,nx,cx,bx,mx,dx,rfl,HSx,hxx,hyy⟩:=hRv4;have HI4:Hid (IterIs w4 it w.heap.size l.length (seen ++ [i])):=qh (by rw [←HML2.out]; exact hI4);have hz4:=hE4.size;clear hRv HEn hE hMi2 hO hI hg4 hIU hk6 hlq hsz hOI hrI HRel2;have hY1:=arr2_fst w4 (ze.map (Value.int .i64)) (ratL false none 0 0 false none 0 0) 109 97;have hY2:=arr2_snd w4 (ze.map (Value.int .i64)) (ratL false none 0 0 false none 0 0) 109 97
       have hEy:=ext2 w4 (.cells (ze.map (Value.int .i64)).toArray 109) (.cells (ratL false none 0 0 false none 0 0).toArray 97)
       go_upto_region 15 with (first
        | (refine wl_entry rfl rfl rfl hMi4 hI4 hmi ?_)
        | (refine wl_stArr (vs:=[x0,x1,x2,x3,x4,x5].map (Value.int .i64)) rfl rfl rfl rfl rfl agg_exps hY1 rfl (ints_one _) ?_; intro w5 hB5 hg5; have hY3:=hY2.kept hg5 (by simp); clear hY1)
        | (refine wl_stArr (vs:=ratL sx ax nx cx false bx mx dx) rfl rfl rfl rfl rfl agg_Ratio hY3 rfl (ratL_one _ _ _ _ _ _ _ _) ?_; intro w6 hB6 hg6))
       have hE46:Ext w4 w6:=(hEy.grownR hg5 (Nat.le_refl _)).grownR hg6 (by omega);have hB5':=hB5.kept hg6 (by simp);have hE6:=hE4.trans hE46;have hMR6:=hMR4.ext hE46;have HI6:Hid (IterIs w6 it w.heap.size l.length (seen ++ [i])):=qh (HI4.out.ext hE46);have hO6:=hO4.ext hE46;have HEn6:Hid (∀ i,i<N→EntC w6 (rows.getD i []) ((Pl.picked l seen).getD i ([],0))):=qh (fun i hi=>(HEn4.out i hi).ext hE46);have hxx6:=hxx.ext hE46;have hyy6:=hyy.ext hE46;clear hB5 hg5 hg6 hEy hY2 hY3 hE46 hMR4 HI4 hO4 HEn4 hxx hyy hE4 hMi4 hI4;generalize w4.heap.size=Y at *
       have y0:w6.cell? ⟨Y,0,none⟩=some (.int .i64 x0):=hB5'.cell (i:=0) (by simp);have y1:w6.cell? ⟨Y,1,none⟩=some (.int .i64 x1):=hB5'.cell (i:=1) (by simp);have y2:w6.cell? ⟨Y,2,none⟩=some (.int .i64 x2):=hB5'.cell (i:=2) (by simp);have y3:w6.cell? ⟨Y,3,none⟩=some (.int .i64 x3):=hB5'.cell (i:=3) (by simp);have y4:w6.cell? ⟨Y,4,none⟩=some (.int .i64 x4):=hB5'.cell (i:=4) (by simp);have y5:w6.cell? ⟨Y,5,none⟩=some (.int .i64 x5):=hB5'.cell (i:=5) (by simp);have z0:=hB6.c 0 rfl;have z1:=hB6.c 1 rfl;have z2:=hB6.c 2 rfl;have z3:=hB6.c 3 rfl
       have hiz:=qh (rat_IsZero (w:=w6) (v := .agg #[.bool sx, .slice ax nx cx, .bool false, .slice bx mx dx]) (q:=q) ⟨ratL sx ax nx cx false bx mx dx,rfl,sx,ax,nx,cx,bx,mx,dx,rfl,HSx,hxx6,hyy6⟩ rfl);clear hB5' hB6
       go_wp2_with fail
       refine hiz.out.mono ?_;rintro e w7 ⟨rfl,hE7⟩;have hE7w:=hE6.trans hE7;have hMR7:=hMR6.ext hE7;have HI7:Hid (IterIs w7 it w.heap.size l.length (seen ++ [i])):=qh (HI6.out.ext hE7);have hO7:=hO6.ext hE7;have HEn7:Hid (∀ i,i<N→EntC w7 (rows.getD i []) ((Pl.picked l seen).getD i ([],0))):=qh (fun i hi=>(HEn6.out i hi).ext hE7);have hxx7:=hxx6.ext hE7;have hyy7:=hyy6.ext hE7;have y0:=hE7.cell y0;have y1:=hE7.cell y1;have y2:=hE7.cell y2;have y3:=hE7.cell y3;have y4:=hE7.cell y4;have y5:=hE7.cell y5;have z0:=hE7.cell z0;have z1:=hE7.cell z1;have z2:=hE7.cell z2;have z3:=hE7.cell z3
       clear hiz hE6 hMR6 HI6 hO6 HEn6 hxx6 hyy6 hE7;by_cases hq0:q=0
       · rw [decide_eq_true hq0];have HPK:Hid (Pl.picked l (seen ++ [i])=Pl.picked l seen):=qh (by rw [Pl.picked_snoc,if_pos (by rw [HLQ.out]; exact hq0)]);clear hq0;go_wp2;go_roundw
         case rel=>exact ⟨seen ++ [i],N,rows,rfl,hE7w,hMR7,HI7.out,HSEEN.out.1,HSEEN.out.2.1,hO7,by rw [HPK.out]; exact HPLN.out,by rw [HPK.out]; exact HEn7⟩
         case measure =>
          have e1:=seenN_of HI7.out;have e2:=HSEEN.out.2.2;rw [hSN,e1];simp;omega
       · rw [decide_eq_false hq0];have HPK:Hid (Pl.picked l (seen ++ [i])=Pl.picked l seen ++ [([x0,x1,x2,x3,x4,x5],q)]):=qh (by rw [Pl.picked_snoc,if_neg (by rw [HLQ.out]; exact hq0),HLQ.out]);have hNl:N<M:=by have h1:=HSEEN.out.2.2; have h2:=HMl.out; omega
         have hM0:M≤1000000:=hMM;clear hq0;have hE8:Ext w7 (w7.alloc (.cells (entL [x0,x1,x2,x3,x4,x5] sx ax nx cx bx mx dx).toArray 111)):=(Ext.refl w7).alloc _;have hA8:=hO7.ext hE8;have hL8:=slk_one (k:=10) (Arr.new w7 111 (entL [x0,x1,x2,x3,x4,x5] sx ax nx cx bx mx dx)) rfl;have hl8:(entL [x0,x1,x2,x3,x4,x5] sx ax nx cx bx mx dx).toArray=#[.int .i64 x0, .int .i64 x1, .int .i64 x2, .int .i64 x3, .int .i64 x4, .int .i64 x5, .bool sx, .slice ax nx cx, .bool false, .slice bx mx dx]:=rfl
         have hbs:w.heap.size≤(w7.alloc (.cells (entL [x0,x1,x2,x3,x4,x5] sx ax nx cx bx mx dx).toArray 111)).heap.size:=(hE7w.trans hE8).size;have HEW:=qh (hE7w.trans hE8);have HEn8:Hid (∀ i,i<N→EntC (w7.alloc (.cells (entL [x0,x1,x2,x3,x4,x5] sx ax nx cx bx mx dx).toArray 111)) (rows.getD i []) ((Pl.picked l seen).getD i ([],0))):=qh fun i hi=>(HEn7.out i hi).ext hE8
         have HEC8:Hid (EntC (w7.alloc (.cells (entL [x0,x1,x2,x3,x4,x5] sx ax nx cx bx mx dx).toArray 111)) (entL [x0,x1,x2,x3,x4,x5] sx ax nx cx bx mx dx) ([x0,x1,x2,x3,x4,x5],q)):=qh ⟨sx,ax,nx,cx,bx,mx,dx,rfl,rfl,sx,ax,nx,cx,bx,mx,dx,rfl,HSx,hxx7.ext hE8,hyy7.ext hE8⟩;have HMR8:=qh (hMR7.ext hE8);have HI8:=qh (HI7.out.ext hE8);have HO8:=qh hA8;rw [hl8] at hA8 hL8 hbs;have hrl:=hO7.1.len (by omega);clear hMR7 hO7 HEn7 HI7 hxx7 hyy7
         go_wp2_with (refine wl_appU rfl rfl (by kernel_rfl) elem_entry rfl hA8 rfl hL8 (by intro r hr u hu; rw [List.mem_singleton.1 hr] at hu; exact entL_one u hu) (by intro r hr u hu; rw [List.mem_singleton.1 hr] at hu; exact entL_nu u hu) (by omega) (by omega) hbs ?_; intro w9 hO9 hg9)
         have HI9:Hid (IterIs w9 it w.heap.size l.length (seen ++ [i])):=qh (HI8.out.kept hg9 (by have:=ownK_ne_it HO8.out.1 HI8.out; simpa using fun h=>this h.symm));go_roundw
         case rel =>
          have hU:=HO8.out.2;have hne:w.heap.size≠g:=by
           obtain ⟨m8,h8,_⟩:=HMR8.out;exact fun h=>ownK_ne_map HO8.out.1 h8 h.symm
          refine ⟨seen ++ [i],N+1,_,rfl,HEW.out.grownR hg9 (by omega),HMR8.out.keptU hU hg9 hne,HI9.out,HSEEN.out.1,HSEEN.out.2.1,hO9,by rw [HPK.out,List.length_append,HPLN.out]; rfl,qh fun j hj => ?_⟩;rw [HPK.out];by_cases hjN:j=N
          · subst hjN;rw [List.getD_eq_getElem?_getD,List.getElem?_append_right (by omega),hrl,Nat.sub_self,List.getD_eq_getElem?_getD,List.getElem?_append_right (by rw [HPLN.out]; exact Nat.le_refl _),HPLN.out,Nat.sub_self];exact HEC8.out.keptU hU hg9
          · rw [List.getD_eq_getElem?_getD,List.getElem?_append_left (by omega),←List.getD_eq_getElem?_getD,List.getD_eq_getElem?_getD (l:=Pl.picked l seen ++ _),List.getElem?_append_left (by rw [HPLN.out]; omega),←List.getD_eq_getElem?_getD];exact (HEn8.out j (by omega)).keptU hU hg9
         case measure =>
          have e1:=seenN_of HI9.out;have e2:=HSEEN.out.2.2;rw [hSN,e1];simp;omega
theorem flat_splice {k:Nat}:∀ (rows:List (List Value)),(∀ r∈rows,r.length=k)→∀ i o (vs:List Value),o+vs.length≤k→i<rows.length →
 rows.flatten.take (i*k+o) ++ vs ++ rows.flatten.drop (i*k+o+vs.length)=(rows.set i ((rows.getD i []).take o ++ vs ++ (rows.getD i []).drop (o+vs.length))).flatten
 | [],_,i,o,vs,_,hi=>by simp at hi
 | r :: rest,h,0,o,vs,hv,_=>by
  have hr:r.length=k:=h r (by simp);simp only [Nat.zero_mul,Nat.zero_add,List.flatten_cons,List.set_cons_zero,List.getD_cons_zero];rw [List.take_append_of_le_length (by omega),List.drop_append_of_le_length (by omega),←List.append_assoc]
 | r :: rest,h,i+1,o,vs,hv,hi=>by
  have hr:r.length=k:=h r (by simp);have ih:=flat_splice rest (fun x hx=>h x (by simp [hx])) i o vs hv (by simpa using hi);have e:(i+1)*k+o=k+(i*k+o):=by rw [Nat.add_mul]; omega
  have e2:k+(i*k+o)+vs.length=k+(i*k+o+vs.length):=by omega
  simp only [List.flatten_cons,List.set_cons_succ,List.getD_cons_succ,e,e2];rw [←ih,←hr,List.take_length_add_append,List.drop_length_add_append];simp
section
variable {w:World} {base:Nat} {e:TypeId} {k g n:Nat} {rows:List (List Value)}
theorem OwnK.arrK (h:OwnK w base e k (some ⟨g,0,none⟩) n n rows):Arr w g e rows.flatten:=by
 rcases h.2.2 with ⟨hv,_⟩|⟨g',cap,cur,hv,hb,hh,hnc,hm,hs,htk⟩
 · simp at hv
 simp only [Value.slice.injEq,Option.some.injEq,Addr.mk.injEq,and_true,true_and] at hv;obtain ⟨rfl,rfl⟩:=hv;have h2:cur.toList=rows.flatten:=by rw [←htk,List.take_of_length_le (by simp [hs])]
 unfold Arr;rw [hh,←h2]
theorem Arr.ownK (h:Arr w g e rows.flatten) (hw:∀ r∈rows,r.length=k) (hn:rows.length=n) (hb:base≤g) (hm:n≤maxLen):OwnK w base e k (some ⟨g,0,none⟩) n n rows:=by
 have hl:=flat_len rows hw;rw [hn] at hl;refine ⟨hw,by rw [hl],Or.inr ⟨g,n,rows.flatten.toArray,rfl,hb,h,Nat.le_refl _,hm,by simpa using hl, ?_⟩⟩;simpa using List.take_of_length_le (by rw [hl]; exact Nat.le_refl _)
end
def mkOK (vars:Int) (t:Tx):Prop:=(readQ t.1).isSome=true∧(t.2.length:Int)=vars∧validS t.2=true
def mkTm (t:Tx):Pl.Tm:=(pad6 t.2,(readQ t.1).getD 0)
def zrow:List Value:=entL ze false none 0 0 none 0 0
def RetMake (w:World) (vars:Int) (ts:List Tx) (e:Ending) (w':World):Prop :=
 (¬ (0≤vars∧vars≤6)∧RetP w 0 [] 3 e w')∨(0≤vars∧vars≤6∧¬ (∀ t∈ts,mkOK vars t)∧RetP w 0 [] 1 e w')∨(0≤vars∧vars≤6∧(∀ t∈ts,mkOK vars t)∧RetA3 w (resQ vars (ts.map mkTm)) e w')
structure SumOK (p:List Pl.Tm):Prop where
 pre:∀ a s,a ++ s=p→∀ e,Pl.RB 2400 (Pl.coef a e)
 each:∀ t∈p,Pl.RB 2400 t.2
 fits:FitsP p
theorem poly_Make {vars:Int} {A:Option Addr} {n c:Nat} {ts:List Tx} {w:World} (hT:Tabs w) (h:TmSl w A n c ts) (hs:∀ t∈ts,t.1.length≤570) (hn:n≤1000000) (hok:0≤vars→vars≤6→(∀ t∈ts,mkOK vars t)→SumOK (ts.map mkTm)) :
 Calls Tryz.prog 42 #[.int .i64 vars, .slice A n c] w (RetMake w vars ts):=by
 have hlen:=h.len;obtain ⟨rows,hS,_,hq⟩:=h;have HQ:=qh hq;have HL:=qh hlen;have HS:=qh hs;clear hq hlen hs
 go_enter Tryz.func42,Tryz.ntmps42
 go_upto_region 1 with (fail)
 refine box1 ?_;intro w0 hE0 hB0 hz0;have hR:Arr w0 w.heap.size 25 (polyL 0 none 0 0):=hB0;have hpz:(polyL 0 none 0 0).toArray=#[.int .i64 0, .slice none 0 0]:=rfl;clear hB0 hz0;by_cases hv:0≤vars∧vars≤6
 · obtain ⟨hv0,hv6⟩:=hv;have HOK:=qh (hok hv0 hv6);clear hok;obtain ⟨vn,rfl⟩:∃ k:Nat,vars=(k:Int):=⟨vars.toNat,by omega⟩;have c1:¬ ((vn:Int)<0):=by omega
   have c2:¬ ((6:Int)<(vn:Int)):=by omega
   have hnu0:nuR (List.replicate n zrow):=fun r hr u hu=>by rw [(List.mem_replicate.1 hr).2] at hu; exact entL_nu u hu
   go_upto_region 4 with (refine wl_mkK rfl rfl (by kernel_rfl) elem_entry rfl rfl (by omega) (by unfold maxLen; omega) ?_; intro w1 hO1 hE1)
   obtain ⟨G,hG⟩:∃ G,w0.heap.size=G:=⟨_,rfl⟩;rw [hG] at hO1 ⊢;go_wp2
   go_loopw [23] (fun iv wr=>∃ (k:Nat) (rs:List (List Value)),iv = .int .i64 k∧k≤n∧Ext w0 wr∧OwnK wr w0.heap.size 111 10 (some ⟨G,0,none⟩) n n rs∧nuR rs∧Hid (∀ i,i<k→mkOK vn (ts.getD i tm0)∧EntC wr (rs.getD i []) (mkTm (ts.getD i tm0)))∧Hid (∀ i,k≤i→i<n→rs.getD i []=zrow)) (fun iv _=>n-(intOf iv).toNat)
   case atStart=>exact ⟨0,_,rfl,Nat.zero_le _,hE1,by rw [hG]; exact hO1,hnu0,qh (fun i hi=>absurd hi (by omega)),qh (fun i _ hi=>by simp [List.getD_eq_getElem?_getD,hi,zrow,ze])⟩
   case round =>
    clear hO1 hE1 hnu0;obtain ⟨k,rs,rfl,hk,hE,hO,hnu,HC,HZ⟩:=hrel;have hEw:=hE0.trans hE;by_cases hlt:k<n
    · have hSw:=hS.ext hEw;obtain ⟨b,off,rfl,hcl⟩:=hSw.rd (by omega);obtain ⟨s,ax,nx,cx,hrow,hst,hxs⟩:=HQ.out k hlt;have hY:=Arr.new wr 60 (tmL ⟨#[]⟩ none 0 0);have hrow':rows.getD k []=tmL s ax nx cx:=hrow
      go_upto_region 7 with (first
       | (refine wl_ldK rfl rfl agg_Term rfl hSw hlt ?_; rw [hrow'])
       | (refine wl_stArr (vs:=tmL s ax nx cx) rfl rfl rfl rfl rfl agg_Term hY rfl (tmL_one _ _ _ _) ?_; intro w2 hB2 hg2))
      have hE2:Ext wr w2:=((Ext.refl wr).alloc _).grownR hg2 (Nat.le_refl _);have hO2:=hO.ext hE2;have HC2:Hid (∀ i,i<k→mkOK vn (ts.getD i tm0)∧EntC w2 (rs.getD i []) (mkTm (ts.getD i tm0))):=qh fun i hi=>⟨(HC.out i hi).1,(HC.out i hi).2.ext hE2⟩;have hE02:=hE.trans hE2;have hEw2:=hE0.trans hE02;have hxs2:=hxs.ext hEw2;have HMEM:Hid (ts.getD k tm0∈ts):=qh (by simp [List.getD_eq_getElem?_getD,HL.out,hlt]);have hsz:s.size≤570:=by rw [←strL_len,hst]; exact HS.out _ HMEM.out
      have hrd:=qh (rat_Read (w:=w2) (hT.ext hEw2) hsz);rw [hst] at hrd;obtain ⟨t,HTT⟩:∃ t,Hid (ts.getD k tm0=t):=⟨_,qh rfl⟩;rw [HTT.out] at hrd hxs2 hxs hst HMEM;obtain ⟨t1,t2⟩:=t;simp only at hrd hxs2 hxs hst;obtain ⟨X,hX⟩:∃ x,wr.heap.size=x:=⟨_,rfl⟩;rw [hX] at hB2 ⊢;have hGX:G<X:=by have:=(hO.lt (g:=G) rfl).2; omega
      have y0:=hB2.c 0 rfl;have y1:=hB2.c 1 rfl;clear hY hg2 hO hE hE2 hrow hrow' hcl hSw HC hst hsz
      go_wp2_with fail
      refine hrd.out.mono ?_;rintro e w3 ⟨_,rfl,hE3,s3,a3,n3,c3,b3,m3,d3,rfl,HS3,hx3,hy3⟩;have hYr:=Arr.new w3 97 (ratL false none 0 0 false none 0 0);have hl3:(ratL s3 a3 n3 c3 false b3 m3 d3).toArray=#[.bool s3, .slice a3 n3 c3, .bool false, .slice b3 m3 d3]:=rfl
      go_upto_region 8 with (refine wl_stArr (vs:=ratL s3 a3 n3 c3 false b3 m3 d3) rfl rfl rfl rfl rfl agg_Ratio hYr rfl (ratL_one _ _ _ _ _ _ _ _) ?_; intro w4 hB4 hg4)
      have hE34:Ext w3 w4:=((Ext.refl w3).alloc _).grownR hg4 (Nat.le_refl _);have hE24:=hE3.trans hE34;have hE04:=hE02.trans hE24;have hEw4:=hE0.trans hE04;have hR4:=hR.ext hE04;have hO4:=hO2.ext hE24;have HC4:Hid (∀ i,i<k→mkOK vn (ts.getD i tm0)∧EntC w4 (rs.getD i []) (mkTm (ts.getD i tm0))):=qh fun i hi=>⟨(HC2.out i hi).1,(HC2.out i hi).2.ext hE24⟩;have hxs4:=hxs2.ext hE24;have y1:=hE24.cell y1;have hx4:=hx3.ext hE34;have hy4:=hy3.ext hE34;have hlx:=hxs4.len;obtain ⟨Y,hYe⟩:∃ x,w3.heap.size=x:=⟨_,rfl⟩;rw [hYe] at hB4 ⊢;have z0:=hB4.c 0 rfl;have z1:=hB4.c 1 rfl;have z2:=hB4.c 2 rfl
      have z3:=hB4.c 3 rfl;clear hYr hg4 hl3 hE3 hE34 hx3 hy3 hO2 HC2 hxs2 y0 hB2 hrd hE02 hB4 hYe;cases hrq:readQ t1 with
      | none =>
       have HNO:Hid (¬ ∀ t∈ts,mkOK vn t):=qh (fun h=>by have:=(h _ HMEM.out).1; rw [hrq] at this; cases this);simp only [Option.isSome_none];clear hrq
       go_wp2_with (refine wl_stArr (vs:=polyL 0 none 0 0) rfl rfl rfl rfl rfl agg_Poly hR4 rfl (polyL_one _ _ _ _) ?_; intro w9 hB9 hg9)
       refine bodyPost_ret (res_ct rfl agg_Poly rfl rfl hB9) rfl ?_;exact Or.inr (Or.inl ⟨hv0,hv6,HNO.out,none,0,0,rfl,hEw4.grownR hg9 (Nat.le_refl _),TmO.nil _ _⟩)
      | some q =>
       simp only [Option.isSome_some,hrq,Option.getD_some] at HS3 hx4 hy4 ⊢;by_cases hnv:(nx:Int)=vn
       · have hnv':((nx:Int) != (vn:Int))=false:=by simp [hnv]
         cases hvx:validS t2 with
         | false =>
          have HNO:Hid (¬ ∀ t∈ts,mkOK vn t):=qh (fun h=>by have:=(h _ HMEM.out).2.2; rw [show ((t1,t2):Tx).2=t2 from rfl,hvx] at this; cases this);have hmv:=qh (mono_Valid hxs4);rw [hvx] at hmv;have HNV:=qh hnv;clear hrq hvx hnv
          go_wp2_with fail
          refine hmv.out.mono ?_;rintro e w5 ⟨rfl,rfl⟩
          go_wp2_with (refine wl_stArr (vs:=polyL 0 none 0 0) rfl rfl rfl rfl rfl agg_Poly hR4 rfl (polyL_one _ _ _ _) ?_; intro w9 hB9 hg9)
          refine bodyPost_ret (res_ct rfl agg_Poly rfl rfl hB9) rfl ?_;exact Or.inr (Or.inl ⟨hv0,hv6,HNO.out,none,0,0,rfl,hEw4.grownR hg9 (Nat.le_refl _),TmO.nil _ _⟩)
         | true =>
          have HMK:Hid (mkOK vn (t1,t2)):=qh ⟨by rw [show ((t1,t2):Tx).1=t1 from rfl,hrq]; rfl,by show (t2.length:Int)=vn; rw [hlx]; exact hnv,hvx⟩;have HMT:Hid (mkTm (t1,t2)=(pad6 t2,q)):=qh (by show (pad6 t2,(readQ t1).getD 0)=_; rw [hrq]; rfl);have hmv:=qh (mono_Valid hxs4);rw [hvx] at hmv;have hn6:nx≤6:=by omega
          have hrz:=HZ.out k (Nat.le_refl _) hlt;have hrl:=hO4.len (by omega);have hfl:=flat_len rs hO4.1;rw [hrl] at hfl
          have HF1:Hid (rs.flatten.take (k*10+6) ++ ratL s3 a3 n3 c3 false b3 m3 d3 ++ rs.flatten.drop (k*10+6+(ratL s3 a3 n3 c3 false b3 m3 d3).length)=(rs.set k (entL ze s3 a3 n3 c3 b3 m3 d3)).flatten):=qh (by
           rw [flat_splice rs hO4.1 k 6 (ratL s3 a3 n3 c3 false b3 m3 d3) (by simp [ratL,intL]) (by omega),hrz]
           rfl)
          have hw1:∀ r∈rs.set k (entL ze s3 a3 n3 c3 b3 m3 d3),r.length=10:=fun r hr=>by
           rcases List.mem_or_eq_of_mem_set hr with h|h
           · exact hO4.1 r h
           · rw [h,entL_len]; rfl
          have HF2:Hid ((rs.set k (entL ze s3 a3 n3 c3 b3 m3 d3)).flatten.take (k*10) ++ t2.map (Value.int .i64) ++ (rs.set k (entL ze s3 a3 n3 c3 b3 m3 d3)).flatten.drop (k*10+nx)=(rs.set k (entL (pad6 t2) s3 a3 n3 c3 b3 m3 d3)).flatten):=qh (by
           have h1:=flat_splice (rs.set k (entL ze s3 a3 n3 c3 b3 m3 d3)) hw1 k 0 (t2.map (Value.int .i64)) (by simp; omega) (by simp; omega);rw [Nat.add_zero,List.length_map,hlx] at h1;rw [h1,List.set_set];congr 2;have e1:(rs.set k (entL ze s3 a3 n3 c3 b3 m3 d3)).getD k []=entL ze s3 a3 n3 c3 b3 m3 d3:=by rw [List.getD_eq_getElem?_getD,List.getElem?_set_self (by omega)]; rfl
           rw [e1,List.take_zero,List.nil_append,Nat.zero_add];unfold entL pad6;have hz:ze=List.replicate 6 0:=rfl
           rw [hz,List.map_replicate,List.map_append,List.map_replicate,List.drop_append,List.drop_replicate,hlx,List.length_replicate,show nx-6=0 by omega,List.drop_zero,List.append_assoc])
          have hA4:=hO4.arrK;have HNV:=qh hnv;have HO1:=qh hO4.1;have hGlt:=(hO4.lt (g:=G) rfl);have hU4:=hO4.noU hnu;have hkn:(k:Int)<n:=by omega
          have hXG:X≠G:=by omega
          clear hrq hvx hnv hrz hO4
          go_wp2_with fail
          refine hmv.out.mono ?_;rintro e w5 ⟨rfl,rfl⟩;clear hmv
          go_upto_region 11 with (refine wl_stSub rfl rfl (ratL s3 a3 n3 c3 false b3 m3 d3) _ (by kernel_rfl) rfl rfl rfl hA4 (by rw [hfl]; simp [ratL,intL]; omega) (ratL_one _ _ _ _ _ _ _ _) HF1.out ?_; intro w5 hA5 hg5)
          have nu1:∀ v∈(rs.set k (entL ze s3 a3 n3 c3 b3 m3 d3)).flatten,∀ i,v ≠ .int .u64 i:=fun v hv=>by
           obtain ⟨r,hr,hu⟩:=List.mem_flatten.1 hv;rcases List.mem_or_eq_of_mem_set hr with h|h
           · exact hnu r h v hu
           · rw [h] at hu; exact entL_nu v hu
          have hwG:w.heap.size≤G:=by have:=hE0.size; omega
          have hEw5:=hEw4.grownR hg5 hwG;have hE05:=hE04.grownR hg5 (Nat.le_of_eq hG);have hxs5:=hxs.ext hEw5;have yy:w5.cell? ⟨X,1,none⟩=some (.slice ax nx cx):=by rw [World.cell?_of_block (w:=w4) (hg5.block X (World.block_lt_of_cell? w4 ⟨X,1,none⟩ y1) (by simp; omega)),y1]
          have HC5:Hid (∀ i,i<k→mkOK vn (ts.getD i tm0)∧EntC w5 (rs.getD i []) (mkTm (ts.getD i tm0))):=qh fun i hi=>⟨(HC4.out i hi).1,(HC4.out i hi).2.keptU hU4 hg5⟩;have hx5:=hx4.keptU hU4 hg5;have hy5:=hy4.keptU hU4 hg5;have hfl5:=flat_len _ hw1;rw [List.length_set,hrl] at hfl5;clear y1 z0 z1 z2 z3 hA4 hU4 hg5 HC4 hx4 hy4 hxs4 hR4 hE04 hEw4 HF1 hfl
          go_still_tail 7,(by kernel_rfl)
          change wpList _ _ _ _ _ w5.drew;have hA6:Arr w5.drew G 111 (rs.set k (entL ze s3 a3 n3 c3 b3 m3 d3)).flatten:=hA5;have hdr:=(Ext.refl w5).drew;have hxs6:=hxs5.ext hdr;have hE06:=hE05.trans hdr;have HC6:Hid (∀ i,i<k→mkOK vn (ts.getD i tm0)∧EntC w5.drew (rs.getD i []) (mkTm (ts.getD i tm0))):=qh fun i hi=>⟨(HC5.out i hi).1,(HC5.out i hi).2.ext hdr⟩;have hx6:=hx5.ext hdr;have hy6:=hy5.ext hdr;clear hA5 hxs5 hE05 hEw5 HC5 hx5 hy5 hdr yy;generalize w5.drew=w6 at *
          have hU6:=hA6.noU nu1
          go_wp2_with (refine wl_cp (sT:=22) rfl rfl Tryz.underlying22 info_i64 rfl rfl hA6 hxs6 hn6 (by rw [hfl5]; omega) (ints_one _) ?_; intro w7 hA7 hg7; rw [HF2.out] at hA7)
          go_roundw
          case rel =>
           have hw2:∀ r∈rs.set k (entL (pad6 t2) s3 a3 n3 c3 b3 m3 d3),r.length=10:=fun r hr=>by
            rcases List.mem_or_eq_of_mem_set hr with h|h
            · exact HO1.out r h
            · rw [h,entL_len,pad6_len (by omega)]
           refine ⟨k+1,rs.set k (entL (pad6 t2) s3 a3 n3 c3 b3 m3 d3),by go_num,by omega,hE06.grownR hg7 (Nat.le_of_eq hG),hA7.ownK hw2 (by rw [List.length_set]; exact hrl) (Nat.le_of_eq hG) (by unfold maxLen; omega), ?_,qh fun i hi => ?_,qh fun i h1 h2 => ?_⟩
           · intro r hr u hu;rcases List.mem_or_eq_of_mem_set hr with h|h
             · exact hnu r h u hu
             · rw [h] at hu; exact entL_nu u hu
           · by_cases hik:i=k
             · subst hik;rw [HTT.out];refine ⟨HMK.out, ?_⟩;rw [HMT.out,List.getD_eq_getElem?_getD,List.getElem?_set_self (by omega)];exact EntC.keptU ⟨s3,a3,n3,c3,b3,m3,d3,rfl,pad6_len (by show t2.length≤6; omega),s3,a3,n3,c3,b3,m3,d3,rfl,HS3,hx6,hy6⟩ hU6 hg7
             · rw [List.getD_eq_getElem?_getD (l:=rs.set _ _),List.getElem?_set_ne (by omega),←List.getD_eq_getElem?_getD];exact ⟨(HC6.out i (by omega)).1,(HC6.out i (by omega)).2.keptU hU6 hg7⟩
           · rw [List.getD_eq_getElem?_getD (l:=rs.set _ _),List.getElem?_set_ne (by omega),←List.getD_eq_getElem?_getD];exact HZ.out i (by omega) h2
          case measure=>simp [intOf]; omega
       · have HNO:Hid (¬ ∀ t∈ts,mkOK vn t):=qh (fun h=>hnv (by have:=(h _ HMEM.out).2.1; rw [←hlx]; exact this));have hnv':((nx:Int) != (vn:Int))=true:=by simpa using hnv
         clear hrq hnv
         go_wp2_with (refine wl_stArr (vs:=polyL 0 none 0 0) rfl rfl rfl rfl rfl agg_Poly hR4 rfl (polyL_one _ _ _ _) ?_; intro w9 hB9 hg9)
         refine bodyPost_ret (res_ct rfl agg_Poly rfl rfl hB9) rfl ?_;exact Or.inr (Or.inl ⟨hv0,hv6,HNO.out,none,0,0,rfl,hEw4.grownR hg9 (Nat.le_refl _),TmO.nil _ _⟩)
    · have hkn:k=n:=by omega
      subst hkn
      have HALL:Hid (∀ t∈ts,mkOK vn t):=qh (fun t ht=>by
       obtain ⟨i,hi,rfl⟩:=List.mem_iff_getElem.1 ht;have:=(HC.out i (by rw [←HL.out]; exact hi)).1;rw [List.getD_eq_getElem?_getD,List.getElem?_eq_getElem hi] at this
       exact this)
      have hSK:=HOK.out HALL.out;have HSK:=qh hSK
      have hES:EntSl wr (some ⟨G,0,none⟩) k k (ts.map mkTm):=⟨rs,hO.slk (by omega),by simp [HL.out],fun i hi=>by
       have h1:=(HC.out i hi).2;have h2:(ts.map mkTm).getD i ([],0)=mkTm (ts.getD i tm0):=by simp [List.getD_eq_getElem?_getD,HL.out,hi]
       rw [h2]; exact h1⟩
      have hEa:=(Ext.refl wr).alloc (.cells #[.slice (some ⟨G,0,none⟩) k k] 61);have hLL:EntLL (wr.alloc (.cells #[.slice (some ⟨G,0,none⟩) k k] 61)) (some ⟨wr.heap.size,0,none⟩) 1 1 [ts.map mkTm]:=by
       refine ⟨[.slice (some ⟨G,0,none⟩) k k],(own_alloc wr wr.heap.size 61 #[.slice (some ⟨G,0,none⟩) k k] 1 rfl (Nat.le_refl _) (by omega)).sl,rfl,fun i hi => ?_⟩;have:i=0:=by omega
       subst this;exact ⟨_,k,k,rfl,hES.ext hEa⟩
      have hfl1:[ts.map mkTm].flatten=ts.map mkTm:=by simp
      have HCO:=qh (poly_collect ((hT.ext hEw).ext hEa) hLL (by omega) (by rw [hfl1]; exact hSK.fits.len) (by rw [hfl1]; exact hSK.pre) (by rw [hfl1]; exact hSK.each));rw [hfl1] at HCO;have hE0a:=hE.trans hEa;have hRa:=hR.ext hE0a;clear hSK hES hLL hO HC HZ hfl1
      go_wp2_with fail
      refine HCO.out.mono ?_;rintro e w3 ⟨out,⟨a3,n3,c3,rfl,hE3,hO3⟩,hnr,hcf⟩;have hfo:=HSK.out.fits.out hnr hcf;have hlo:=hO3.len;have HWR:=qh (poly_write (vars:=vn) (w0:=w0) (hT.ext hE0) (hE0a.trans hE3) (hO3.mono hE0a.size) (by omega) hfo.1 hfo.2.1 (by omega));have HNR:=qh (And.intro hnr hcf);clear hnr hcf hfo HCO
      go_wp2_with fail
      refine HWR.out.mono ?_;intro e w7 hw;have hq:=RetWr.q (p:=ts.map mkTm) hw HNR.out.1 HNR.out.2;obtain ⟨rr,HRR⟩:∃ r,Hid (resQ (vn:Int) (ts.map mkTm)=r):=⟨_,qh rfl⟩;rw [HRR.out] at hq;obtain ⟨a7,n7,c7,rfl,hE7,hO7⟩:=hq;have hpv:polyV rr.1 a7 n7 c7 = .agg #[.int .i64 rr.1, .slice a7 n7 c7]:=rfl;rw [hpv];have hpl:(polyL rr.1 a7 n7 c7).toArray=#[.int .i64 rr.1, .slice a7 n7 c7]:=rfl;have hR7:=hR.ext hE7;clear hw HWR
      go_wp2_with (refine wl_stArr (vs:=polyL rr.1 a7 n7 c7) rfl rfl rfl rfl rfl agg_Poly hR7 rfl (polyL_one _ _ _ _) ?_; intro w8 hB8 hg8)
      refine bodyPost_ret (res_ct rfl agg_Poly rfl rfl hB8) rfl ?_;exact Or.inr (Or.inr ⟨hv0,hv6,HALL.out,by rw [HRR.out]; exact retP_end hE0 hE7 hO7 hR7 hg8 (Nat.le_refl _)⟩)
 · have HF:Hid (∀ e w',RetP w 0 [] 3 e w'→RetMake w vars ts e w'):=qh (fun e w' h=>Or.inl ⟨hv,h⟩);have hcase:vars<0∨(¬ vars<0∧6<vars):=by omega
   clear hv hok;rcases hcase with h1|⟨h1,h2⟩
   all_goals
    go_wp2_with (refine wl_stArr (vs:=polyL 0 none 0 0) rfl rfl rfl rfl rfl agg_Poly hR rfl (polyL_one _ _ _ _) ?_; intro w9 hB9 hg9)
    refine bodyPost_ret (res_ct rfl agg_Poly rfl rfl hB9) rfl ?_;exact HF.out _ _ ⟨none,0,0,rfl,hE0.grownR hg9 (Nat.le_refl _),TmO.nil _ _⟩
noncomputable def degP (vars:Int) (ts:List Tx):Int:=if (rdP vars ts).isSome=true∧0<ts.length then degS (ts.getD 0 tm0).2 else -1
end Go.Proofs.YtlpgonpfjbhmfaaGreatDoor
