/- Part Gan36. -/
import Derived.Test.YtlpgonpfjbhmfaaGreatDoorGan35
import Derived.BigRegion
import Derived.Shelf.Small.Bits
import Derived.Test.YtlpgonpfjbhmfaaGreatDoorProg
import Derived.WalkSpells
import Derived.Maps.RangeWalk
set_option maxRecDepth 100000
set_option maxHeartbeats 100000000
namespace Go.Proofs.YtlpgonpfjbhmfaaGreatDoor
open Go Go.RowKit
theorem info_ints:Elem1 Tryz.prog 22 (.slice none 0 0) 24:=by unfold Elem1; kernel_rfl
theorem und_map:Tryz.prog.underlying 120=some (.map 70 4):=by kernel_rfl
theorem zero_bool (w:World):(zeroValue 4).run Tryz.prog w = .ok (.bool false) w:=by kernel_rfl
def mapLen (w:World) (r:Nat):Nat:=match w.heap[r]? with | some (.map es _)=>es.size | _=>0
theorem mapLen_of {w:World} {r:Nat} {m:List (List Int×Value)} (h:MapIs w r m):mapLen w r=m.length:=by
 unfold mapLen;rw [h.obj];simp [mapE_length]
def lenV:Value→Nat | .slice _ n _=>n | _=>0
def ClR (w0:World) (gs:List (List Int)) (n r:Nat) (v:Value) (wr:World):Prop :=
 ∃ L q aq nq cq qc,v = .slice aq nq cq∧nq=q.length∧Ext w0 wr∧w0.heap.size≤r∧MapIs wr r (kmap L)∧OwnO wr w0.heap.size 22 aq nq cq qc∧QEl wr w0.heap.size qc q∧ClInv gs n L q
def ClRi (w0:World) (gs:List (List Int)) (n r:Nat) (a:List Int) (aa:Option Addr) (na ca:Nat) (M:Nat) (v i:Value) (wr:World):Prop :=
 ∃ L q aq nq cq qc,∃ j:Nat,v = .slice aq nq cq∧nq=q.length∧i = .int .i64 j∧j≤gs.length∧Ext w0 wr∧w0.heap.size≤r∧MapIs wr r (kmap L)∧OwnO wr w0.heap.size 22 aq nq cq qc∧QEl wr w0.heap.size qc q ∧
  OwnI wr w0.heap.size aa na ca a∧ClIn gs n L q a j∧2*(720-L.length)+q.length≤M
def RetM (w:World) (gs:List (List Int)) (n:Nat) (e:Ending) (w':World):Prop :=
 ∃ r L,e = .returned (.map (some r))∧Ext w w'∧w.heap.size≤r∧MapIs w' r (kmap L)∧L.Nodup∧∀ p,p∈L↔Reach gs n p
theorem group_closure {n:Nat} {ag:Option Addr} {ng cg:Nat} {gs:List (List Int)} {w:World} (hg:SlL w ag ng cg gs) (hn:n≤6) (hp:PermsN gs n) :
 Calls Tryz.prog 73 #[.int .i64 n, .slice ag ng cg] w (RetM w gs n):=by
 have hgl:=hg.le;have HG:=qh hg.len;have hi6:(idn n).length≤6:=by rw [idn_len]; exact hn
 have HP:=qh hp;clear hp
 go_enter Tryz.func73,Tryz.ntmps73
 go_wp2_with fail
 refine (group_identity (by omega)).mono ?_;rintro e w1 ⟨a1,n1,c1,rfl,hE1,hO1⟩;have hn1:n1=n:=by have:=hO1.sl.len; rw [idn_len] at this; omega
 subst hn1
 go_wp2_with (refine wl_mkMap rfl rfl ?_; intro w2 hM2 hE2 hlt2)
 refine (group_keyOf (hO1.sl.ext hE2) hn).mono ?_;rintro e w3 ⟨rfl,hE3⟩;have hO3:=(hO1.ext hE2).ext hE3;have hM3:=hM2.ext hE3;have hEw:Ext w w3:=(hE1.trans hE2).trans hE3;have hr0:w.heap.size≤w1.heap.size:=hE1.size;generalize w1.heap.size=r at *
 clear hM2 hO1 hE3 hE2 hE1
 go_wp2_with (refine wl_put rfl (Or.inr rfl) und_map keyT_key rfl rfl rfl hM3 (pad6_len hi6) ?_; intro w4 hM4 hg4)
 have hM4':MapIs w4 r (kmap [idn n1]):=hM4;have hE4:Ext w w4:=hEw.grown hg4 (by intro k hk; simp at hk; omega);have hO4:OwnI w4 w.heap.size a1 n1 c1 (idn n1):=Own.kept hO3 hg4 (own_ne_map hO3 hM3);clear hM4 hg4 hM3 hO3 hEw;go_wp2
 go_loopw [7] (fun v wr=>ClR w gs n1 r v wr) (fun v wr=>2*(720-mapLen wr r)+lenV v)
 case atStart =>
  have hOq:=own_alloc w4 w.heap.size 22 #[.slice a1 n1 c1] 1 rfl hE4.size (by omega);refine ⟨[idn n1],[idn n1],_,_,_,_,rfl,rfl,hE4.alloc _,hr0,hM4'.ext ((Ext.refl w4).alloc _),OwnO.of hOq, ?_,ClInv.start gs n1⟩;intro i hi;have:i=0:=by simpa using hi
  subst this;exact ⟨a1,n1,c1,rfl,Own.alloc hO4 _⟩
 case round =>
  clear hM4' hE4 hO4;obtain ⟨L,q,aq,nq,cq,qc,rfl,hnq,hE,hr,hM,hO,hQ,hI⟩:=hrel;have HNQ:=qh hnq;clear hnq;have hb:=reach_bound hn HP.out hI.nodup hI.reach;have hlen:mapLen wr r=L.length:=by rw [mapLen_of hM]; simp [kmap]
  have HLEN:=qh hlen;clear hlen;cases q with
  | nil =>
   have hz:nq=0:=HNQ.out;subst hz;go_wp2;go_ret;exact ⟨r,L,rfl,hE,hr,hM,hI.nodup,hI.done⟩
  | cons p q =>
   have hnq0:0<nq:=by rw [HNQ.out]; simp
   have hqb:nq≤720:=by have:=hI.short; have h2:=HNQ.out; omega
   obtain ⟨ap,np,cp,hqc0,hOp⟩:=hQ 0 (by simp);obtain ⟨bq,oq,rfl,hcq⟩:=hO.sl.rd hnq0;have hc0:=hcq 0 hnq0;rw [hqc0,Nat.add_zero] at hc0;have hcap:=hO.sl.cap;have hmx:=hO.sl.max;unfold maxLen at hmx;clear hcq hqc0
   go_wp2_with (refine wl_cutO rfl rfl Tryz.underlying53 info_ints rfl rfl (k:=1) hO (by omega) ?_; intro a7 hb7 hO7)
   obtain ⟨wo,rfl⟩:∃ wo:World,wo=wr:=⟨_,rfl⟩
   go_loopw [7,30] (fun v i wr=>ClRi w gs n1 r p ap np cp (2*(720-L.length)+q.length) v i wr) (fun _ i _=>gs.length-(intOf i).toNat)
   case atStart =>
    refine ⟨L,q,a7,nq-1,cq-1,qc.drop 1,0,rfl,by rw [HNQ.out]; simp,rfl,Nat.zero_le _,hE,hr,hM,hO7,hQ.tail,hOp,ClIn.start hI,Nat.le_refl _⟩
   case round =>
    have HMo:Hid (2*(720-mapLen wo r)+lenV (.slice (some ⟨bq,oq,none⟩) nq cq)=2*(720-L.length)+(q.length+1)):=by
     show _=_;rw [HLEN.out];simp only [lenV];rw [HNQ.out];rfl
    clear hO hQ hOp hM hI hO7 hc0 HLEN;obtain ⟨L2,q2,aq2,nq2,cq2,qc2,j,rfl,hnq2,rfl,hj,hE2,_,hM2,hO2,hQ2,hOp2,hI2,hmeas⟩:=hrel;have HNQ2:=qh hnq2;clear hnq2;have hb2:=reach_bound hn HP.out hI2.nodup hI2.reach;have hL6:∀ x∈L2,x.length=n1:=fun x hx=>(reach_perm hn HP.out (hI2.reach x hx)).2;have hlen2:mapLen wr r=L2.length:=by rw [mapLen_of hM2]; simp [kmap]
    have HLEN2:=qh hlen2;have HL6:=qh hL6;clear hlen2 hL6;have hgw:=hg.ext hE2;have hjn:j≤ng:=by rw [←HG.out]; exact hj
    by_cases hjlt:j<ng
    · obtain ⟨bg,og,ag1,ng1,cg1,rfl,hcg,hSg⟩:=hgw.at hjlt;have hjg:j<gs.length:=by rw [HG.out]; exact hjlt
      have hgm:gs.getD j []∈gs:=by simp [List.getD_eq_getElem?_getD,hjg]
      obtain ⟨pg1,pg2⟩:=HP.out _ hgm;obtain ⟨pp1,pp2⟩:=reach_perm hn HP.out (hI2.reach p hI2.mem);have hOld:=hI2.old hjg;have hNew:=hI2.new hjg;have hbl:(comp (gs.getD j []) p).length=n1:=by rw [comp_len]; exact pp2
      generalize hgj:gs.getD j []=gj at *
      have hng1:ng1=n1:=by have:=hSg.len; omega
      have hnp:np=n1:=by have:=hOp2.sl.len; omega
      have HOLD:=qh hOld;have HNEW:=qh hNew;have HBL:=qh hbl;have PP:=qh pp1;have PP2:=qh pp2;have HNG:=qh hng1;have HNP:=qh hnp;clear hOld hNew hbl hgj pg2 pp1 pp2 hng1 hnp hjg hgm
      go_wp2_with fail
      refine (group_compose hSg hOp2.sl ?_ (by have:=HNP.out; omega)).mono ?_
      · intro i hi;have h1:=HNP.out;have h2:=HNG.out;have h3:=PP2.out;have:=perm_at PP.out (i:=i) (by omega);omega
      rintro e w3 ⟨a3,n3,c3,rfl,hE3,hO3⟩;have hn3:n3=n1:=by have:=hO3.sl.len; rw [HBL.out] at this; exact this.symm
      subst hn3
      go_wp2_with fail
      refine (group_keyOf hO3.sl hn).mono ?_;rintro e w4 ⟨rfl,hE4⟩;have hM4:=(hM2.ext hE3).ext hE4;have hO4:=(hO2.ext hE3).ext hE4;have hQ4:=(hQ2.ext hE3).ext hE4;have hOp4:=(hOp2.ext hE3).ext hE4;have hOb4:OwnI w4 w.heap.size a3 n3 c3 (comp gj p):=Own.mono (Own.ext hO3 hE4) hE2.size;have hEw4:=(hE2.trans hE3).trans hE4;clear hM2 hO2 hQ2 hOp2 hO3 hE3 hE4 hE2;have hk6:(pad6 (comp gj p)).length=6:=pad6_len (by rw [HBL.out]; exact hn);have hlook:=kmap_look HL6.out HBL.out;by_cases hin:comp gj p∈L2
      · simp only [hin,decide_true] at hlook
        go_wp2_with (refine wl_lookup rfl rfl und_map keyT_key zero_bool rfl rfl hM4 hk6 ?_; simp only [Bool.false_eq_true,if_false]; rw [hlook])
        go_roundw
        case rel=>exact ⟨L2,q2,aq2,nq2,cq2,qc2,j+1,rfl,HNQ2.out,by go_num,by have:=HG.out; omega,hEw4,hr,hM4,hO4,hQ4,hOp4,HOLD.out hin,hmeas⟩
        case measure=>have:=HG.out; simp [intOf]; omega
      · simp only [hin,decide_false] at hlook
        go_wp2_with (refine wl_lookup rfl rfl und_map keyT_key zero_bool rfl rfl hM4 hk6 ?_; simp only [Bool.false_eq_true,if_false]; rw [hlook])
        refine (group_keyOf hOb4.sl hn).mono ?_;rintro e w5 ⟨rfl,hE5⟩;have hM5:=hM4.ext hE5;have hO5:=hO4.ext hE5;have hQ5:=hQ4.ext hE5;have hOp5:=hOp4.ext hE5;have hOb5:=hOb4.ext hE5;have hEw5:=hEw4.trans hE5;clear hM4 hO4 hQ4 hOp4 hOb4 hE5 hEw4 hlook
        go_upto_region 13 with (refine wl_put (v := .bool true) rfl (Or.inl rfl) und_map keyT_key rfl rfl rfl hM5 hk6 ?_; intro w6 hM6 hg6)
        rw [kmap_put HL6.out HBL.out hin] at hM6;have hO6:=hO5.kept hg6 (ownO_ne_map hO5 hM5);have hQ6:=hQ5.kept hg6 (fun _ _ _ _ h=>own_ne_map h hM5);have hOp6:OwnI w6 w.heap.size ap np cp p:=Own.kept hOp5 hg6 (own_ne_map hOp5 hM5);have hOb6:OwnI w6 w.heap.size a3 n3 c3 (comp gj p):=Own.kept hOb5 hg6 (own_ne_map hOb5 hM5);have hEw6:Ext w w6:=hEw5.grown hg6 (by intro k hk; simp at hk; omega);have hnq2:nq2≤720:=by have:=hI2.short; have h2:=HNQ2.out; omega
        clear hM5 hO5 hQ5 hOp5 hOb5 hEw5 hg6;have hA7:Ext w6 (w6.alloc (.cells #[.slice a3 n3 c3] 22)):=(Ext.refl w6).alloc _;have hS7:=(own_alloc w6 w.heap.size 22 #[.slice a3 n3 c3] 1 rfl hEw6.size (by omega)).sl;have hO7:=hO6.ext hA7
        go_wp2_with (refine wl_appO rfl rfl Tryz.underlying53 info_ints rfl rfl hO7 rfl hS7 (by simp [Value.oneCell']) (by unfold maxLen; omega) (by omega) (by have:=hEw6.size; simp; omega) (by omega) ?_; intro a8 c8 w8 hO8 hg8 hb8)
        go_roundw
        case rel =>
         have hEw7:=hEw6.trans hA7;refine ⟨L2 ++ [comp gj p],q2 ++ [comp gj p],a8,nq2+1,c8,_,j+1,rfl,by rw [HNQ2.out]; simp,by go_num,by have:=HG.out; omega,hEw7.grown hg8 (fun k hk=>(hO7.lt hk).1),hr, ?_,hO8, ?_, ?_,HNEW.out hin, ?_⟩
         · have hM7:=hM6.ext hA7;refine hM7.kept hg8 ?_;rcases ownO_ne_map hO7 hM7 with h|h
           · rw [h]; simp
           · exact fun h2=>h h2.symm
         · have hQ7:=(hQ6.ext hA7).kept hg8 (fun _ _ _ _ h=>own_ne_ownO h hO7 (by decide));have hOb7:OwnI _ w.heap.size a3 n3 c3 (comp gj p):=Own.kept (Own.ext hOb6 hA7) hg8 (own_ne_ownO (Own.ext hOb6 hA7) hO7 (by decide));exact hQ7.snoc (by rw [hO7.len,HNQ2.out]) hOb7
         · exact Own.kept (Own.ext hOp6 hA7) hg8 (own_ne_ownO (Own.ext hOp6 hA7) hO7 (by decide))
         · have:=reach_bound hn HP.out (HNEW.out hin).nodup (HNEW.out hin).reach;simp only [List.length_append,List.length_singleton] at this ⊢;omega
        case measure=>have:=HG.out; simp [intOf]; omega
    · go_wp2;go_roundw
      case rel=>exact ⟨L2,q2,aq2,nq2,cq2,qc2,rfl,HNQ2.out,hE2,hr,hM2,hO2,hQ2,hI2.fin (by have:=HG.out; omega)⟩
      case measure =>
       have h1:=HMo.out;have h2:=HLEN2.out;have h3:=HNQ2.out;simp [lenV] at h1 ⊢;omega
def cmpI (x y:Int):Int:=if x<y then -1 else if y<x then 1 else 0
def cmpL:List Int→List Int→Int
 | [],[]=>0
 | [],_ :: _ => -1
 | _ :: _,[]=>1
 | x :: xs,y :: ys=>if x<y then -1 else if y<x then 1 else cmpL xs ys
theorem cmpL_eq:∀ {a b:List Int},cmpL a b=0→a=b
 | [],[],_=>rfl
 | [],_ :: _,h=>by simp [cmpL] at h
 | _ :: _,[],h=>by simp [cmpL] at h
 | x :: a,y :: b,h=>by
  unfold cmpL at h;by_cases h1:x<y
  · simp [h1] at h
  · by_cases h2:y<x
    · simp [h1,h2] at h
    · simp only [h1,h2,if_false] at h;have:x=y:=by omega
      rw [this,cmpL_eq h]
theorem cmpL_anti:∀ a b:List Int,cmpL b a = - cmpL a b
 | [],[]=>rfl
 | [],_ :: _=>rfl
 | _ :: _,[]=>rfl
 | x :: a,y :: b=>by
  unfold cmpL;by_cases h1:x<y
  · have h2:¬ y<x:=by omega
    simp [h1,h2]
  · by_cases h2:y<x
    · simp [h1,h2]
    · simp [h1,h2,cmpL_anti a b]
theorem cmpL_trans:∀ {a b c:List Int},cmpL a b≤0→cmpL b c≤0→cmpL a c≤0
 | [],_,[],_,_=>by simp [cmpL]
 | [],_,_ :: _,_,_=>by simp [cmpL]
 | _ :: _,[],_,h,_=>by simp [cmpL] at h
 | _ :: _,_ :: _,[],_,h=>by simp [cmpL] at h
 | x :: a,y :: b,z :: c,h1,h2=>by
  unfold cmpL at h1 h2 ⊢;by_cases xy:x<y
  · by_cases yz:y<z
    · simp [show x<z by omega]
    · by_cases zy:z<y
      · simp [yz,zy] at h2
      · simp [show x<z by omega]
  · by_cases yx:y<x
    · simp [xy,yx] at h1
    · simp only [xy,yx,if_false] at h1;by_cases yz:y<z
      · simp [show x<z by omega]
      · by_cases zy:z<y
        · simp [yz,zy] at h2
        · simp only [yz,zy,if_false] at h2;have e1:¬ x<z:=by omega
          have e2:¬ z<x:=by omega
          simp only [e1,e2,if_false];exact cmpL_trans h1 h2
theorem cmpL_prefix:∀ (k:Nat) (a b:List Int),a.take k=b.take k→k≤a.length→k≤b.length→cmpL a b=cmpL (a.drop k) (b.drop k)
 | 0,_,_,_,_,_=>rfl
 | k+1,x :: a,y :: b,h,h1,h2=>by
  simp only [List.take_succ_cons,List.cons.injEq] at h;obtain ⟨rfl,h⟩:=h;simp only [List.length_cons] at h1 h2;rw [List.drop_succ_cons,List.drop_succ_cons,←cmpL_prefix k a b h (by omega) (by omega)];simp [cmpL]
 | k+1,[],_,_,h1,_=>by simp at h1
 | k+1,_ :: _,[],_,_,h2=>by simp at h2
theorem cmp_isNaN (x:Int) (w:World):Calls Tryz.prog 155 #[.int .i64 x] w fun e w'=>e = .returned (.bool false)∧w=w':=by
 have h:(x != x)=false:=by simp
 go_enter Tryz.func155,Tryz.ntmps155
 go_wp2;go_ret;exact ⟨rfl,rfl⟩
theorem cmp_Compare (x y:Int) (w:World):Calls Tryz.prog 124 #[.int .i64 x, .int .i64 y] w fun e w'=>e = .returned (.int .i64 (cmpI x y))∧w=w':=by
 by_cases h1:x<y
 · have H:Hid (cmpI x y = -1):=by show _=_; simp [cmpI,h1]
   go_enter Tryz.func124,Tryz.ntmps124
   go_wp2_with (go_at_call 155; refine (cmp_isNaN _ _).mono ?_; rintro e w1 ⟨rfl,rfl⟩)
   go_ret;exact ⟨retN H.out,rfl⟩
 · by_cases h2:y<x
   · have H:Hid (cmpI x y=1):=by show _=_; simp [cmpI,h1,h2]
     go_enter Tryz.func124,Tryz.ntmps124
     go_wp2_with (go_at_call 155; refine (cmp_isNaN _ _).mono ?_; rintro e w1 ⟨rfl,rfl⟩)
     go_ret;exact ⟨retN H.out,rfl⟩
   · have H:Hid (cmpI x y=0):=by show _=_; simp [cmpI,h1,h2]
     go_enter Tryz.func124,Tryz.ntmps124
     go_wp2_with (go_at_call 155; refine (cmp_isNaN _ _).mono ?_; rintro e w1 ⟨rfl,rfl⟩)
     go_ret;exact ⟨retN H.out,rfl⟩
theorem cmpL_at {xs ys:List Int} {k:Nat} (hp:xs.take k=ys.take k) (h1:k<xs.length) (h2:k<ys.length) (hne:cmpI (xs.getD k 0) (ys.getD k 0)≠0):cmpL xs ys=cmpI (xs.getD k 0) (ys.getD k 0):=by
 rw [cmpL_prefix k xs ys hp (by omega) (by omega),List.drop_eq_getElem_cons h1,List.drop_eq_getElem_cons h2];simp only [List.getD_eq_getElem?_getD,List.getElem?_eq_getElem h1,List.getElem?_eq_getElem h2,Option.getD_some] at hne ⊢;unfold cmpI at hne ⊢;unfold cmpL;by_cases c1:xs[k]<ys[k]
 · simp [c1]
 · by_cases c2:ys[k]<xs[k]
   · simp [c1,c2]
   · simp [c1,c2] at hne
theorem cmpI_zero {x y:Int} (h:cmpI x y=0):x=y:=by
 unfold cmpI at h;by_cases c1:x<y
 · simp [c1] at h
 · by_cases c2:y<x
   · simp [c1,c2] at h
   · omega
theorem slices_Compare {a b:Option Addr} {n c m d:Nat} {xs ys:List Int} {w:World} (hx:SlI w a n c xs) (hy:SlI w b m d ys) :
 Calls Tryz.prog 78 #[.slice a n c, .slice b m d] w fun e w'=>e = .returned (.int .i64 (cmpL xs ys))∧Qt w w':=by
 have hm:=hx.le;have hm2:=hy.le;have HX:=qh hx.len;have HY:=qh hy.len
 go_enter Tryz.func78,Tryz.ntmps78
 go_wp2
 go_loopw [11] (fun i wr=>∃ k:Nat,k≤n∧k≤m∧i = .int .i64 k∧Qt w wr∧xs.take k=ys.take k) (fun i _=>n-(intOf i).toNat)
 case atStart=>exact ⟨0,Nat.zero_le _,Nat.zero_le _,rfl,Qt.refl _,rfl⟩
 case round =>
  obtain ⟨k,hk,hkm,rfl,hE,hp⟩:=hrel;have HP:=qh hp;clear hp;have hx:=hx.ext hE.ext;have hy:=hy.ext hE.ext;by_cases hlt:k<n
  · obtain ⟨b1,o1,rfl,hc1⟩:=hx.at hlt;have g1:=hc1 k hlt;clear hc1;by_cases hlt2:k<m
    · obtain ⟨b2,o2,rfl,hc2⟩:=hy.at hlt2;have g2:=hc2 k hlt2;clear hc2;have hca:=@cmpL_at xs ys k HP.out (by have:=HX.out; omega) (by have:=HY.out; omega);generalize hxk:xs.getD k 0=xk at *
      generalize hyk:ys.getD k 0=yk at *
      have HX2:=qh hxk;have HY2:=qh hyk;have HCA:=qh hca;clear hxk hyk hca;by_cases he:cmpI xk yk=0
      · have heb:(cmpI xk yk != 0)=false:=by simp [he]
        have HE:=qh he;clear he
        go_wp2_with (go_at_call 124; refine (cmp_Compare _ _ _).mono ?_; rintro e w1 ⟨rfl,rfl⟩)
        go_roundw
        case rel=>exact ⟨k+1,by omega,by omega,by go_num,hE,take_step HP.out (by have:=HX.out; omega) (by have:=HY.out; omega) (by rw [HX2.out,HY2.out,cmpI_zero HE.out]; simp)⟩
        case measure=>simp [intOf]; omega
      · have heb:(cmpI xk yk != 0)=true:=by simp [he]
        have HE:=qh he;clear he
        go_wp2_with (go_at_call 124; refine (cmp_Compare _ _ _).mono ?_; rintro e w1 ⟨rfl,rfl⟩)
        go_ret;exact ⟨retN (HCA.out HE.out),hE⟩
    · go_wp2;go_ret;refine ⟨retN ?_,hE⟩;rw [cmpL_prefix k xs ys HP.out (by have:=HX.out; omega) (by have:=HY.out; omega),List.drop_of_length_le (l:=ys) (by have:=HY.out; omega),List.drop_eq_getElem_cons (l:=xs) (by have:=HX.out; omega)];rfl
  · have ek:k=n:=by omega
    by_cases hlm:n<m
    · go_wp2;go_ret;refine ⟨retN ?_,hE⟩;rw [cmpL_prefix k xs ys HP.out (by have:=HX.out; omega) (by have:=HY.out; omega),List.drop_of_length_le (l:=xs) (by have:=HX.out; omega),List.drop_eq_getElem_cons (l:=ys) (by have:=HY.out; omega)];rfl
    · go_wp2;go_ret;refine ⟨retN ?_,hE⟩;rw [cmpL_prefix k xs ys HP.out (by have:=HX.out; omega) (by have:=HY.out; omega),List.drop_of_length_le (l:=xs) (by have:=HX.out; omega),List.drop_of_length_le (l:=ys) (by have:=HY.out; omega)];rfl
def swapL (l:List (List Int)) (i j:Nat):List (List Int):=(l.set i (l.getD j [])).set j (l.getD i [])
theorem swapL_len (l:List (List Int)) (i j:Nat):(swapL l i j).length=l.length:=by simp [swapL]
theorem swapL_at {l:List (List Int)} {i j:Nat} (hi:i<l.length) (hj:j<l.length) (k:Nat):(swapL l i j).getD k []=if k=j then l.getD i [] else if k=i then l.getD j [] else l.getD k []:=by
 simp only [swapL,List.getD_eq_getElem?_getD,List.getElem?_set];by_cases h1:j=k
 · subst h1;simp [hj]
 · by_cases h2:i=k
   · subst h2;simp [h1,hi,Ne.symm h1]
   · simp [h1,h2,Ne.symm h1,Ne.symm h2]
theorem swapL_perm {l:List (List Int)} {i j:Nat} (hi:i<l.length) (hj:j<l.length):(swapL l i j).Perm l:=by
 have h:=Array.swap_perm (xs:=l.toArray) (i:=i) (j:=j) (by simpa using hi) (by simpa using hj);have h2:=Array.perm_iff_toList_perm.1 h;simpa [swapL,List.getD_eq_getElem?_getD,hi,hj] using h2
def Srt (w:World) (base g n c:Nat) (ps:List (List Int)):Prop :=
 ps.length=n∧∃ cells,Own w base 22 (some ⟨g,0,none⟩) n c cells∧QEl w base cells ps
theorem own_ne_own {w:World} {base base':Nat} {e e':TypeId} {a a':Option Addr} {n c n' c':Nat} {cs cs':List Value} (h:Own w base e a n c cs) (h':Own w base' e' a' n' c' cs') (hne:e≠e'):blk a=none∨blk a≠blk a' :=
 own_ne_ownO h (OwnO.of h') hne
section
variable {w w':World} {base g n c:Nat} {ps:List (List Int)}
theorem Srt.len (h:Srt w base g n c ps):ps.length=n:=h.1
theorem Srt.le (h:Srt w base g n c ps):n≤9223372036854775807:=by
 obtain ⟨_,cells,h1,_⟩:=h;have:=h1.sl.max;have h2:=h1.cap;unfold maxLen at this;omega
theorem Srt.qt (h:Srt w base g n c ps) (e:Qt w w'):Srt w' base g n c ps:=by
 obtain ⟨h0,cells,h1,h2⟩:=h;exact ⟨h0,cells,h1.ext e.ext,h2.ext e.ext⟩
theorem Srt.at (h:Srt w base g n c ps) {k:Nat} (hk:k<n):∃ a m c',w.cell? ⟨g,k,none⟩=some (.slice a m c')∧SlI w a m c' (ps.getD k [])∧w.frozen? ⟨g,k,none⟩=false:=by
 obtain ⟨h0,cells,h1,h2⟩:=h;obtain ⟨a,m,c',e1,h3⟩:=h2 k (by omega);exact ⟨a,m,c',by rw [h1.cellAt hk,e1],h3.sl,h1.frozenAt k⟩
theorem Srt.swap (h:Srt w base g n c ps) {i j:Nat} {u v:Value} (hi:i<n) (hj:j<n) (hu:w.cell? ⟨g,i,none⟩=some u) (hv:w.cell? ⟨g,j,none⟩=some v) :
 Srt ((w.setCell ⟨g,i,none⟩ v).setCell ⟨g,j,none⟩ u) base g n c (swapL ps i j)∧w.grownBy ((w.setCell ⟨g,i,none⟩ v).setCell ⟨g,j,none⟩ u) (some g):=by
 obtain ⟨h0,cells,h1,h2⟩:=h;have g1:=grown_setCell w g i v;have g2:=grown_setCell (w.setCell ⟨g,i,none⟩ v) g j u
 have hgr:w.grownBy ((w.setCell ⟨g,i,none⟩ v).setCell ⟨g,j,none⟩ u) (some g) :=
  ⟨rfl,rfl,rfl,Nat.le_trans g1.size g2.size,fun k hk hne=>(g2.block k (Nat.lt_of_lt_of_le hk g1.size) hne).trans (g1.block k hk hne)⟩
 refine ⟨⟨by rw [swapL_len]; exact h0,(cells.set i v).set j u,(h1.stored i v).stored j u, ?_⟩,hgr⟩;have hcl:=h1.len;have eu:cells.getD i undef=u:=by have:=h1.cellAt hi; rw [hu] at this; simpa using this.symm
 have ev:cells.getD j undef=v:=by have:=h1.cellAt hj; rw [hv] at this; simpa using this.symm
 have hQ:=h2.kept hgr (fun _ _ _ _ hx=>own_ne_own hx h1 (by decide));intro k hk;rw [swapL_len] at hk;rw [swapL_at (by omega) (by omega)];by_cases hkj:k=j
 · subst hkj;obtain ⟨a,m,c',e1,h3⟩:=hQ i (by omega);refine ⟨a,m,c', ?_,by simpa using h3⟩;rw [←e1,eu];simp [List.getD_eq_getElem?_getD,hcl,hj]
 · by_cases hki:k=i
   · subst hki;obtain ⟨a,m,c',e1,h3⟩:=hQ j (by omega);refine ⟨a,m,c', ?_,by simpa [hkj] using h3⟩;rw [←e1,ev];simp [List.getD_eq_getElem?_getD,hcl,hi,Ne.symm hkj]
   · obtain ⟨a,m,c',e1,h3⟩:=hQ k hk;refine ⟨a,m,c', ?_,by simpa [hkj,hki] using h3⟩;rw [←e1];simp [List.getD_eq_getElem?_getD,Ne.symm hkj,Ne.symm hki]
end
def ordOn (ps:List (List Int)) (a b:Nat):Prop:=∀ i j,a≤i→i<j→j<b→cmpL (ps.getD i []) (ps.getD j [])≤0
def movedOn (ps0 ps:List (List Int)) (a b:Nat):Prop:=ps.Perm ps0∧∀ i,(i<a∨b≤i)→ps.getD i []=ps0.getD i []
theorem movedOn.refl (ps:List (List Int)) (a b:Nat):movedOn ps ps a b:=⟨List.Perm.refl _,fun _ _=>rfl⟩
theorem movedOn.swap {ps0 ps:List (List Int)} {a b i j:Nat} (h:movedOn ps0 ps a b) (hi:i<ps.length) (hj:j<ps.length) (ai:a≤i) (bi:i<b) (aj:a≤j) (bj:j<b):movedOn ps0 (swapL ps i j) a b:=by
 refine ⟨(swapL_perm hi hj).trans h.1,fun k hk => ?_⟩;rw [swapL_at hi hj,if_neg (by omega),if_neg (by omega)];exact h.2 k hk
structure InsI (ps:List (List Int)) (a j i:Nat):Prop where
 lo:ordOn ps a j
 hi:ordOn ps j (i+1)
 mid:∀ x y,a≤x→x<j→j<y→y≤i→cmpL (ps.getD x []) (ps.getD y [])≤0
theorem InsI.start {ps:List (List Int)} {a i:Nat} (h:ordOn ps a i):InsI ps a i i:=⟨h,fun x y h1 h2 h3=>by omega,fun x y _ _ _ _=>by omega⟩
theorem InsI.stop {ps:List (List Int)} {a j i:Nat} (h:InsI ps a j i) (haj:a≤j) (hji:j≤i) (hs:j=a∨(0<j∧¬ cmpL (ps.getD j []) (ps.getD (j-1) [])<0)):ordOn ps a (i+1):=by
 intro x y h1 h2 h3;by_cases hx:j≤x
 · exact h.hi x y hx h2 h3
 · by_cases hy:y<j
   · exact h.lo x y h1 h2 hy
   · by_cases hyj:y=j
     · subst hyj;rcases hs with h4|⟨_,h4⟩
       · omega
       · have h5:cmpL (ps.getD (y-1) []) (ps.getD y [])≤0:=by rw [cmpL_anti]; omega
         by_cases hx1:x=y-1
         · rw [hx1]; exact h5
         · exact cmpL_trans (h.lo x (y-1) h1 (by omega) (by omega)) h5
     · exact h.mid x y h1 (by omega) (by omega) (by omega)
theorem InsI.step {ps:List (List Int)} {a j i:Nat} (h:InsI ps a j i) (haj:a<j) (hji:j≤i) (hil:i<ps.length) (hs:cmpL (ps.getD j []) (ps.getD (j-1) [])<0):InsI (swapL ps j (j-1)) a (j-1) i:=by
 have e:=@swapL_at ps j (j-1) (by omega) (by omega);refine ⟨?_, ?_, ?_⟩
 · intro x y h1 h2 h3;rw [e,e,if_neg (by omega),if_neg (by omega),if_neg (by omega),if_neg (by omega)];exact h.lo x y h1 h2 (by omega)
 · intro x y h1 h2 h3;rw [e,e];by_cases hx:x=j-1
   · rw [if_pos hx,if_neg (show ¬ y=j-1 by omega)];by_cases hy:y=j
     · rw [if_pos hy]; omega
     · rw [if_neg hy];exact h.hi j y (Nat.le_refl _) (by omega) h3
   · rw [if_neg hx,if_neg (show ¬ y=j-1 by omega),if_neg (show ¬ y=j by omega)];by_cases hxj:x=j
     · rw [if_pos hxj];exact h.mid (j-1) y (by omega) (by omega) (by omega) (by omega)
     · rw [if_neg hxj];exact h.hi x y (by omega) h2 h3
 · intro x y h1 h2 h3 h4;rw [e,e,if_neg (show ¬ x=j-1 by omega),if_neg (show ¬ x=j by omega),if_neg (show ¬ y=j-1 by omega)];by_cases hy:y=j
   · rw [if_pos hy];exact h.lo x (j-1) h1 h2 (by omega)
   · rw [if_neg hy];exact h.mid x y h1 (by omega) (by omega) h4
def SrtPost (w:World) (base g n c:Nat) (ps:List (List Int)) (a b:Nat) (e:Ending) (w':World):Prop :=
 e = .returned (.tuple #[])∧∃ ps',Srt w' base g n c ps'∧movedOn ps ps' a b∧ordOn ps' a b∧w.grownBy w' (some g)
theorem grown_refl (w:World) (row:Option Nat):w.grownBy w row:=World.grownBy.refl w row
theorem grown_trans {a b c:World} {row:Option Nat} (h:a.grownBy b row) (k:b.grownBy c row):a.grownBy c row :=
 ⟨k.os.trans h.os,k.tape.trans h.tape,k.output.trans h.output,Nat.le_trans h.size k.size,fun i hi hne=>(k.block i (Nat.lt_of_lt_of_le hi h.size) hne).trans (h.block i hi hne)⟩
theorem grown_qt {a b c:World} {row:Option Nat} (h:a.grownBy b row) (k:Qt b c):a.grownBy c row:=by
 obtain ⟨n,rfl⟩:=k;exact ⟨h.os,h.tape,h.output,h.size,h.block⟩
theorem insertionSort {base g n c a b:Nat} {ps:List (List Int)} {w:World} (hS:Srt w base g n c ps) (hab:a≤b) (hbn:b≤n) (hn6:n≤1000000) :
 Calls Tryz.prog 190 #[.slice (some ⟨g,0,none⟩) n c, .int .i64 a, .int .i64 b, .func (.func 78) #[] #[]] w (SrtPost w base g n c ps a b):=by
 have hnn:=hS.le
 go_enter Tryz.func190,Tryz.ntmps190
 go_wp2
 go_loopw [8] (fun v wr=>∃ i:Nat,∃ ps',v = .int .i64 i∧a+1≤i∧(i≤b∨i=a+1)∧Srt wr base g n c ps'∧movedOn ps ps' a b∧ordOn ps' a i∧w.grownBy wr (some g)) (fun v _=>b-(intOf v).toNat)
 case atStart=>exact ⟨a+1,ps,by go_num,Nat.le_refl _,Or.inr rfl,hS,movedOn.refl _ _ _,fun x y h1 h2 h3=>by omega,grown_refl _ _⟩
 case round =>
  obtain ⟨i,ps1,rfl,hi1,hi2,hS1,hm1,ho1,hg1⟩:=hrel;by_cases hib:i<b
  · go_wp2;obtain ⟨wo,rfl⟩:∃ wo:World,wo=wr:=⟨_,rfl⟩
    go_loopw [9] (fun v wr=>∃ j:Nat,∃ ps',v = .int .i64 j∧a≤j∧j≤i∧Srt wr base g n c ps'∧movedOn ps ps' a b∧InsI ps' a j i∧w.grownBy wr (some g)) (fun v _=>(intOf v).toNat)
    case atStart=>exact ⟨i,ps1,rfl,by omega,Nat.le_refl _,hS1,hm1,InsI.start ho1,hg1⟩
    case round =>
     clear hS1 hm1 ho1 hg1;obtain ⟨j,ps2,rfl,hj1,hj2,hS2,hm2,hI2,hg2⟩:=hrel;by_cases hja:a<j
     · obtain ⟨a1,n1,c1,k1,s1,f1⟩:=hS2.at (k:=j) (by omega);obtain ⟨a2,n2,c2,k2,s2,f2⟩:=hS2.at (k:=j-1) (by omega);have hl2:=hS2.len;have hstep:=hI2.step hja hj2 (by omega);have hstop:=hI2.stop hj1 hj2;have hsw:=hS2.swap (i:=j) (j:=j-1) (by omega) (by omega) k1 k2;have hmv:=hm2.swap (i:=j) (j:=j-1) (by omega) (by omega) (by omega) (by omega) (by omega) (by omega);have STEP:=qh hstep;have STOP:=qh hstop;have SW:=qh hsw;have MV:=qh hmv;clear hstep hstop hsw hmv hl2;obtain ⟨j',rfl⟩:∃ j',j=j'+1:=⟨j-1,by omega⟩;simp only [Nat.add_sub_cancel] at k2 f2 s2 STEP STOP SW MV
       generalize hx:ps2.getD (j'+1) []=x at *
       generalize hy:ps2.getD j' []=y at *
       clear hx hy;have hja':decide ((a:Int)<(j':Int)+1)=true:=by simp; omega
       have hw1:IntKind.i64.wrap ((j':Int)+1-1)=j':=by rw [Int.add_sub_cancel]; exact IntWalk.i64_in _ (by omega)
       have hw2:IntKind.i64.wrap (j':Int)=j':=IntWalk.i64_in _ (by omega);by_cases hc:cmpL x y<0
       · go_wp2_with fail
         go_quiet ((exact Calls.quiet_of (slices_Compare (s1.ext ((Ext.refl _).drewN _)) (s2.ext ((Ext.refl _).drewN _)))))
         clear hja' hw1 hw2 s1 s2;go_wp2
         go_region
         go_wp2;go_roundw
         case rel=>exact ⟨j',swapL ps2 (j'+1) j',by go_num,by omega,by omega,SW.out.1.qt ⟨_,rfl⟩,MV.out,STEP.out hc,grown_trans hg2 (grown_qt SW.out.2 ⟨_,rfl⟩)⟩
         case measure=>simp [intOf]
       · go_wp2_with fail
         go_quiet ((exact Calls.quiet_of (slices_Compare (s1.ext ((Ext.refl _).drewN _)) (s2.ext ((Ext.refl _).drewN _)))))
         clear hja' hw1 hw2 s1 s2;go_wp2;go_roundw
         case rel=>exact ⟨i+1,ps2,by go_num,by omega,by omega,hS2.qt ⟨_,rfl⟩,hm2,STOP.out (Or.inr ⟨by omega,hc⟩),grown_qt hg2 ⟨_,rfl⟩⟩
         case measure=>simp [intOf]; omega
     · have hja':decide ((a:Int)<(j:Int))=false:=by simp; omega
       go_wp2_with fail
       go_quiet (fail)
       go_wp2;go_roundw
       case rel=>exact ⟨i+1,ps2,by go_num,by omega,by omega,hS2.qt ⟨_,rfl⟩,hm2,hI2.stop hj1 hj2 (Or.inl (by omega)),grown_qt hg2 ⟨_,rfl⟩⟩
       case measure=>simp [intOf]; omega
  · go_wp2
    go_end0
    refine ⟨rfl,ps1,hS1,hm1, ?_,hg1⟩;intro x y h1 h2 h3;exact ho1 x y h1 h2 (by omega)
end Go.Proofs.YtlpgonpfjbhmfaaGreatDoor
namespace Go.Proofs.YtlpgonpfjbhmfaaGreatDoor
open Go.Shelf
def lays125_ren:Go.Shelf.Ren:=⟨fun | 125=>127 | 128=>164 | 129=>165 | n=>n,fun | 46=>147 | 3=>3 | 51=>208 | 53=>143 | 4=>4 | 5=>5 | 9=>9 | n=>n,fun | n=>n⟩
theorem lays125:Go.Proofs.Lays.n125 Tryz.prog lays125_ren:={
 mixed:=by kernel_rfl
 f125:=Tryz.func127.trans (congrArg some (by kernel_rfl))
 f128:=Tryz.func164.trans (congrArg some (by kernel_rfl))
 f129:=Tryz.func165.trans (congrArg some (by kernel_rfl))
 t3:=Tryz.underlying3
 a3:=Tryz.isAgg3
 z3:=Tryz.sizeOf3
 v3:=Tryz.zeroValue3
 t4:=Tryz.underlying4
 a4:=Tryz.isAgg4
 z4:=Tryz.sizeOf4
 v4:=Tryz.zeroValue4
 t5:=Tryz.underlying5
 a5:=Tryz.isAgg5
 z5:=Tryz.sizeOf5
 v5:=Tryz.zeroValue5
 t9:=Tryz.underlying9
 a9:=Tryz.isAgg9
 z9:=Tryz.sizeOf9
 v9:=Tryz.zeroValue9
 t46:=Tryz.underlying147
 a46:=Tryz.isAgg147
 z46:=Tryz.sizeOf147
 v46:=Tryz.zeroValue147
 t51:=Tryz.underlying208
 a51:=Tryz.isAgg208
 z51:=Tryz.sizeOf208
 v51:=Tryz.zeroValue208
 t53:=Tryz.underlying143
 a53:=Tryz.isAgg143
 z53:=Tryz.sizeOf143
 v53:=Tryz.zeroValue143 }
theorem bits_Len (x:Int) (w:World) (h0:0≤x) (h1:x≤18446744073709551615) :
 Calls Tryz.prog 127 #[.int .u64 x] w fun e w'=>e = .returned (.int .i64 (Lib.bitLen x.toNat))∧w'=w:=Any.bits_Len lays125 x w h0 h1
end Go.Proofs.YtlpgonpfjbhmfaaGreatDoor
namespace Go.Proofs.YtlpgonpfjbhmfaaGreatDoor
open Go Go.RowKit
theorem pdqsort_small {base g n c:Nat} {L:Int} {ps:List (List Int)} {w:World} (hS:Srt w base g n c ps) (hn:n≤12) :
 Calls Tryz.prog 154 #[.slice (some ⟨g,0,none⟩) n c, .int .i64 0, .int .i64 n, .int .i64 L, .func (.func 78) #[] #[]] w (SrtPost w base g n c ps 0 n):=by
 go_enter Tryz.func154,Tryz.ntmps154
 go_wp2_with fail
 go_loopw [1,2] (fun a b wr=>a = .int .i64 0∧b = .int .i64 n∧wr=w) (fun _ _ _=>0)
 case atStart=>exact ⟨rfl,rfl,rfl⟩
 case round =>
  obtain ⟨rfl,rfl,rfl⟩:=hrel
  go_wp2_with fail
  refine (insertionSort (a:=0) hS (Nat.zero_le _) (Nat.le_refl _) (by omega)).mono ?_;rintro e w1 ⟨rfl,h⟩;go_wp2
  go_end0
  exact ⟨rfl,h⟩
theorem SortFunc_small {base g n c:Nat} {ps:List (List Int)} {w:World} (hS:Srt w base g n c ps) (hn:n≤12) :
 Calls Tryz.prog 121 #[.slice (some ⟨g,0,none⟩) n c, .func (.func 78) #[] #[]] w (SrtPost w base g n c ps 0 n):=by
 go_enter Tryz.func121,Tryz.ntmps121
 go_wp2_with fail
 refine (bits_Len _ _ (by omega) (by omega)).mono ?_;rintro e w1 ⟨rfl,rfl⟩
 go_wp2_with fail
 refine (pdqsort_small hS hn).mono ?_;rintro e w1 ⟨rfl,h⟩;go_wp2
 go_end0
 exact ⟨rfl,h⟩
theorem slices_Clone {a:Option Addr} {n c:Nat} {xs:List Int} {w:World} (hx:SlI w a n c xs) (hn:n≤1000000) (hnil:a=none→c=0) :
 Calls Tryz.prog 41 #[.slice a n c] w (RetIs w xs):=by
 cases a with
 | none =>
  have h0:c=0:=hnil rfl;subst h0;have h1:n=0:=by have:=Sl.cap hx; omega
  subst h1;have hxs:xs=[]:=List.eq_nil_of_length_eq_zero hx.len;have HX:=qh hxs;clear hxs;have heq:=fun w':World=>Lib.run_eql_slice_nil (P:=Tryz.prog) w' 22 3 none 0 0 0 0 Tryz.underlying22
  go_enter Tryz.func41,Tryz.ntmps41
  go_wp2;go_ret;exact ⟨none,0,0,rfl,Ext.refl w,by rw [HX.out]; exact Own.nil _ _ _⟩
 | some ad =>
  have heq:=fun w':World=>Lib.run_eql_slice_nil (P:=Tryz.prog) w' 22 3 (some ad) n c 0 0 Tryz.underlying22
  go_enter Tryz.func41,Tryz.ntmps41
  go_upto_region 3 with (fail)
  have hA:Ext w (w.alloc (.cells #[] 3)):=(Ext.refl w).alloc _;have hO:=own_alloc w w.heap.size 3 #[] 0 rfl (Nat.le_refl _) (by omega)
  go_wp2_with (refine wl_app rfl rfl Tryz.underlying22 info_int rfl rfl hO rfl (hx.ext hA) (ints_one _) (by unfold maxLen; omega) (by omega) (by simp) ?_; intro a1 c1 w1 hO1 hg1 hb1)
  go_ret;refine ⟨a1,n,c1,rfl,hA.grown hg1 (fun k hk=>(hO.lt hk).1), ?_⟩;simpa [OwnI] using hO1
def RetSq (w:World) (ps:List (List Int)) (e:Ending) (w':World):Prop :=
 ∃ a n c cells,e = .returned (.slice a n c)∧Ext w w'∧n=ps.length∧Own w' w.heap.size 22 a n c cells∧QEl w' w.heap.size cells ps
def seenLen (w:World) (it:Nat):Nat:=match w.heap[it]? with | some (.mapIter _ _ seen _)=>seen.size | _=>0
theorem seenLen_of {w:World} {it r n:Nat} {seen:List Nat} (h:IterIs w it r n seen):seenLen w it=seen.length:=by
 unfold seenLen;unfold IterIs at h;rw [h];simp
def SoR (w0:World) (L:List (List Int)) (r it:Nat) (v:Value) (wr:World):Prop :=
 ∃ seen al nl cl cells,v = .slice al nl cl∧nl=seen.length∧Ext w0 wr∧w0.heap.size≤it∧MapIs wr r (kmap L)∧IterIs wr it r L.length seen∧seen.Nodup∧(∀ i∈seen,i<L.length) ∧
  Own wr w0.heap.size 22 al nl cl cells∧QEl wr w0.heap.size cells (seen.map (fun i=>L.getD i []))
theorem own_ne_iter {w:World} {base:Nat} {e:TypeId} {a:Option Addr} {n c it r k:Nat} {cs:List Value} {seen:List Nat} (h:Own w base e a n c cs) (hi:IterIs w it r k seen):blk a=none∨blk a≠some it:=by
 rcases h.2 with ⟨hv,_⟩|⟨g,cap,cur,hv,_,hh,_⟩
 · simp only [Value.slice.injEq] at hv;left;rw [hv.1];rfl
 · simp only [Value.slice.injEq] at hv;right;rw [hv.1];intro he;have:g=it:=by simpa [blk] using he
   subst this;unfold IterIs at hi;rw [hh] at hi;cases hi
theorem map_ne_iter {w:World} {it r r' k:Nat} {m:List (List Int×Value)} {seen:List Nat} (h:MapIs w r m) (hi:IterIs w it r' k seen):some r≠some it:=by
 intro he;have:r=it:=by simpa using he
 subst this;unfold IterIs at hi;rw [h.obj] at hi;cases hi
theorem perm_of_mem {α:Type} [BEq α] [LawfulBEq α] {l k:List α} (hl:l.Nodup) (hk:k.Nodup) (h:∀ a,a∈l↔a∈k):l.Perm k:=by
 rw [List.perm_iff_count];intro a;have h1:=List.nodup_iff_count.1 hl a;have h2:=List.nodup_iff_count.1 hk a;have h3:0<l.count a↔a∈l:=List.count_pos_iff;have h4:0<k.count a↔a∈k:=List.count_pos_iff;have:=h a;by_cases hm:a∈l
 · have:=h3.2 hm;have:=h4.2 ((h a).1 hm);omega
 · have e1:¬ 0<l.count a:=fun h=>hm (h3.1 h);have e2:¬ 0<k.count a:=fun h'=>hm ((h a).2 (h4.1 h'));omega
theorem map_range_getD (L:List (List Int)):(List.range L.length).map (fun i=>L.getD i [])=L:=by
 apply List.ext_getElem
 · simp
 · intro i h1 h2;simp [h2]
theorem seen_all {L:List (List Int)} {seen:List Nat} (hn:seen.Nodup) (hs:∀ i∈seen,i<L.length) (hall:∀ i,i<L.length→i∈seen):(seen.map (fun i=>L.getD i [])).Perm L∧seen.length=L.length:=by
 have hp:seen.Perm (List.range L.length):=perm_of_mem hn List.nodup_range (fun a=>by
  rw [List.mem_range]
  exact ⟨hs a,hall a⟩)
 refine ⟨?_,by simpa using hp.length_eq⟩;have:=hp.map (fun i=>L.getD i [])
 rwa [map_range_getD] at this
theorem kmap_get {L:List (List Int)} {i:Nat} {k:List Int} {v:Value} (h:(kmap L)[i]?=some (k,v)):i<L.length∧k=pad6 (L.getD i []):=by
 unfold kmap at h;rw [List.getElem?_map] at h;cases hi:L[i]? with
 | none=>rw [hi] at h; cases h
 | some p =>
  rw [hi] at h;have hlt:i<L.length:=by
   rcases Nat.lt_or_ge i L.length with h' | h'
   · exact h'
   · simp [List.getElem?_eq_none h'] at hi
  refine ⟨hlt, ?_⟩;simp only [Option.map_some,Option.some.injEq,Prod.mk.injEq] at h;rw [List.getD_eq_getElem?_getD,hi];exact h.1.symm
theorem nodup_leN:∀ (L M:List Nat),L.Nodup→(∀ x∈L,x∈M)→L.length≤M.length
 | [],_,_,_=>by simp
 | x :: L,M,hn,hs=>by
  rw [List.nodup_cons] at hn;have hx:x∈M:=hs x (by simp);have:=nodup_leN L (M.erase x) hn.2 (fun y hy=>(List.mem_erase_of_ne (by rintro rfl; exact hn.1 hy)).2 (hs y (by simp [hy])));rw [List.length_erase_of_mem hx] at this;have:0<M.length:=List.length_pos_of_mem hx;simp only [List.length_cons];omega
theorem group_sorted {n r:Nat} {L:List (List Int)} {w:World} (hM:MapIs w r (kmap L)) (hn:n≤6) (hL:∀ x∈L,x.length=n) (h12:L.length≤12) (h1:0<L.length) :
 Calls Tryz.prog 72 #[.int .i64 n, .map (some r)] w (fun e w'=>∃ ps,RetSq w ps e w'∧ps.Perm L∧ordOn ps 0 L.length):=by
 have HL:=qh hL;have hkl:(kmap L).length=L.length:=by simp [kmap]
 have HKL:=qh hkl;clear hL hkl
 go_enter Tryz.func72,Tryz.ntmps72
 go_wp2_with (refine wl_range rfl rfl und_map rfl hM ?_; intro w1 hI1 hE1 hlt1)
 have hI1':IterIs w1 w.heap.size r L.length []:=by rw [←HKL.out]; exact hI1
 go_frame
 go_loopw [5] (fun v wr=>SoR w L r w.heap.size v wr) (fun _ wr=>L.length-seenLen wr w.heap.size)
 case atStart=>exact ⟨[],none,0,0,[],rfl,rfl,hE1,Nat.le_refl _,hM.ext hE1,hI1',by simp,by simp,Own.nil _ _ _,fun i hi=>by simp at hi⟩
 case round =>
  clear hI1 hI1' hE1 hlt1;obtain ⟨seen,al,nl,cl,cells,rfl,hnl,hE,hit,hM1,hI1,hsn,hsl,hO,hQ⟩:=hrel;have HNL:=qh hnl;clear hnl;rw [←HKL.out] at hI1;by_cases hall:∀ i,i<(kmap L).length→i∈seen
  · obtain ⟨hperm,hslen⟩:=seen_all hsn hsl (fun i hi=>hall i (by rw [HKL.out]; exact hi));have hnlp:0<nl:=by rw [HNL.out,hslen]; exact h1
    obtain ⟨g,rfl,hg1,hg2⟩:=hO.place hnlp;have hS:Srt wr w.heap.size g nl cl (seen.map (fun i=>L.getD i [])):=⟨by rw [List.length_map]; exact HNL.out.symm,cells,hO,hQ⟩;have hnl12:nl≤12:=by rw [HNL.out,hslen]; exact h12
    have HSL:=qh hslen;have HPM:=qh hperm;clear hslen hperm
    go_wp2_with (refine wl_next rfl rfl rfl hM1 hI1 (fun _ => ?_) (fun i _ _ _ h1 h2 _ _ _=>absurd (hall i h1) h2))
    refine (SortFunc_small hS hnl12).mono ?_;rintro e w2 ⟨rfl,ps,hS2,hmv,hord,hgr⟩;go_wp2;go_ret;obtain ⟨hl2,cells2,hO2,hQ2⟩:=hS2;refine ⟨ps,⟨_,_,_,cells2,rfl,hE.grown hgr (by intro k hk; simp at hk; omega),hl2.symm,hO2,hQ2⟩,hmv.1.trans HPM.out, ?_⟩;rw [←HSL.out,←HNL.out];exact hord
  · have hz:=hE.size;have HSN:Hid (seenLen wr w.heap.size=seen.length):=seenLen_of hI1
    go_upto_region 4 with (refine wl_next rfl rfl rfl hM1 hI1 (fun h=>absurd h hall) ?_; intro i k v w2 hil his hmi hI2 hg2)
    obtain ⟨hiL,hk⟩:=kmap_get hmi;have hpl:(L.getD i []).length=n:=HL.out _ (by simp [List.getD_eq_getElem?_getD,hiL]);have hM2:=hM1.kept hg2 (map_ne_iter hM1 hI1);have hO2:=hO.kept hg2 (own_ne_iter hO hI1);have hQ2:=hQ.kept hg2 (fun _ _ _ _ h=>own_ne_iter h hI1);have hE2:Ext w w2:=hE.grown hg2 (by intro k hk; simp at hk; omega);have hA:=Arr.new w2 70 zero6;have hAg:Agg Tryz.prog 70 (k.map (Value.int .i64)).length:=by
     rw [List.length_map,hk,pad6_len (by rw [hpl]; exact hn)];exact agg_key
    have hz6:zero6.length=(k.map (Value.int .i64)).length:=by
     rw [List.length_map,hk,pad6_len (by rw [hpl]; exact hn)];rfl
    have HZ6:=qh hz6;have HK:=qh hk;have HPL:=qh hpl;clear hz6 hk hpl hM1 hO hQ hE hI1 hg2
    go_upto_region 5 with (first
     | (refine wl_entry rfl rfl rfl hM2 hI2 hmi ?_)
     | (refine wl_stArr rfl rfl rfl rfl rfl hAg hA HZ6.out (ints_one _) ?_; intro w3 hB3 hg3))
    go_frame
    have hE23:Ext w2 w3:=((Ext.refl w2).alloc (.cells zero6.toArray 70)).grown hg3 (by intro k hk; simp at hk; omega);have hsl3:SlI w3 (some ⟨w2.heap.size,0,none⟩) n 6 (L.getD i []):=by
     have h1:=hB3.sl (k:=n) (by rw [←HZ6.out]; exact hn) (by rw [←HZ6.out]; unfold maxLen; decide);rw [←HZ6.out,HK.out,←List.map_take] at h1;have h2:=pad6_take (L.getD i []);rw [HPL.out] at h2;rw [h2] at h1;exact h1
    have hE3:=hE2.trans hE23;have hM3:=hM2.ext hE23;have hI3:=hI2.ext hE23;have hO3:=hO2.ext hE23;have hQ3:=hQ2.ext hE23;have hnl12:nl≤12:=by
     rw [HNL.out];have:=nodup_leN seen (List.range L.length) hsn (fun x hx=>by rw [List.mem_range]; exact hsl x hx);simp at this;omega
    have hsa:=fun wx:World=>run_slice_arr (P:=Tryz.prog) (w:=wx) (g:=w2.heap.size) keyT_key.arr info_int hn;clear hB3 hg3 hE23 hA hM2 hI2 hO2 hQ2 hE2 hAg
    go_wp2_with fail
    refine (slices_Clone hsl3 (by omega) (by simp)).mono ?_;rintro e w4 ⟨a4,n4,c4,rfl,hE4,hO4⟩;have hO5:=hO3.ext hE4;have hQ5:=hQ3.ext hE4;have hM5:=hM3.ext hE4;have hI5:=hI3.ext hE4;have hE5:=hE3.trans hE4;have hB5:OwnI w4 w.heap.size a4 n4 c4 (L.getD i []):=Own.mono hO4 hE3.size;clear hO3 hQ3 hM3 hI3 hE3 hE4 hO4 hsl3;have hA6:Ext w4 (w4.alloc (.cells #[.slice a4 n4 c4] 22)):=(Ext.refl w4).alloc _;have hS6:=(own_alloc w4 w.heap.size 22 #[.slice a4 n4 c4] 1 rfl hE5.size (by omega)).sl;have hO6:=hO5.ext hA6
    go_wp2_with (refine wl_app rfl rfl Tryz.underlying53 info_ints rfl rfl hO6 rfl hS6 (by simp [Value.oneCell']) (by unfold maxLen; omega) (by omega) (by have:=hE5.size; simp; omega) ?_; intro a7 c7 w7 hO7 hg7 hb7)
    go_roundw
    case rel =>
     have hE6:=hE5.trans hA6;have hI6:=hI5.ext hA6;have hM6:=hM5.ext hA6;have hx:∀ k,blk al=some k→w.heap.size≤k:=fun k hk=>(hO6.lt hk).1;refine ⟨seen ++ [i],a7,nl+1,c7,_,rfl,by rw [HNL.out]; simp,hE6.grown hg7 hx,hit,hM6.kept hg7 ?_, ?_, ?_, ?_,hO7, ?_⟩
     · rcases own_ne_map hO6 hM6 with h|h
       · rw [h]; simp
       · exact fun h2=>h h2.symm
     · have:IterIs w7 w.heap.size r (kmap L).length (seen ++ [i]):=hI6.kept hg7 (by
        rcases own_ne_iter hO6 hI6 with h|h
        · rw [h]; simp
        · exact fun h2=>h h2.symm)
       rw [←HKL.out];exact this
     · rw [List.nodup_append];refine ⟨hsn,by simp, ?_⟩;intro a ha b hb;simp only [List.mem_singleton] at hb;subst hb;rintro rfl;exact his ha
     · intro j hj;rcases List.mem_append.1 hj with hj|hj
       · exact hsl j hj
       · simp only [List.mem_singleton] at hj;subst hj;exact hiL
     · have hQ7:=(hQ5.ext hA6).kept hg7 (fun _ _ _ _ h=>own_ne_own h hO6 (by decide));have hB7:OwnI w7 w.heap.size a4 n4 c4 (L.getD i []):=Own.kept (Own.ext hB5 hA6) hg7 (own_ne_own (Own.ext hB5 hA6) hO6 (by decide));rw [List.map_append];exact hQ7.snoc (by rw [hO6.len,HNL.out]; simp) hB7
    case measure =>
     have hI6:=hI5.ext hA6;have e1:seenLen w7 w.heap.size=seen.length+1:=by
      have:IterIs w7 w.heap.size r (kmap L).length (seen ++ [i]):=hI6.kept hg7 (by
       rcases own_ne_iter hO6 hI6 with h|h
       · rw [h]; simp
       · exact fun h2=>h h2.symm)
      rw [seenLen_of this];simp
     have e2:=HSN.out;have:seen.length≤L.length:=by
      have:=nodup_leN seen (List.range L.length) hsn (fun x hx=>by rw [List.mem_range]; exact hsl x hx);simpa using this
     have h3:seen.length<L.length:=by
      have:=nodup_leN (i :: seen) (List.range L.length) (List.nodup_cons.2 ⟨his,hsn⟩) (fun x hx=>by
       rw [List.mem_range];rcases List.mem_cons.1 hx with rfl|hx
       · exact hiL
       · exact hsl x hx)
      simp at this;omega
     rw [e1,e2];omega
end Go.Proofs.YtlpgonpfjbhmfaaGreatDoor
