/- Part Own27. -/
import Derived.Test.YtbiifaciddajnaaGreatDoorOwn24
set_option maxRecDepth 100000
set_option maxHeartbeats 100000000
namespace Go.Proofs.YtbiifaciddajnaaGreatDoor
open Go Go.RowKit
theorem ownK_lit (w:World) (base:Nat) (e:TypeId) (row:List Value) (k:Nat) (hb:base≤w.heap.size) (hk:row.length=k):OwnK (w.alloc (.cells row.toArray e)) base e k (some ⟨w.heap.size,0,none⟩) 1 1 [row]:=by
 refine ⟨by simpa using hk, ?_⟩
 have:=World.ownsRow_lit (base:=base) (e:=e) (size:=k) w row.toArray 1 hb (by unfold maxLen; omega) (by simpa using hk)
 simpa using this
def constL (q:Rat):List Pl.Tm:=if q=0 then [] else [([0,0,0,0,0,0],q)]
theorem entO_lit {w w1:World} {e:List Int} {s:Bool} {a b:Option Addr} {n c m d:Nat} {q:Rat} (h1:Ext w w1) (h6:e.length=6) (hr:RatC w1 (ratL s a n c false b m d) q):EntO (w1.alloc (.cells (entL e s a n c b m d).toArray 95)) w.heap.size (some ⟨w1.heap.size,0,none⟩) 1 1 [(e,q)]:=by
 have hE:=(Ext.refl w1).alloc (.cells (entL e s a n c b m d).toArray 95)
 refine ⟨[entL e s a n c b m d],ownK_lit w1 _ _ _ 10 h1.size (by rw [entL_len,h6]),fun g hg => ?_,rfl,fun i hi => ?_⟩
 · have:w1.heap.size=g:=by simpa [blk] using hg
   subst this
   exact (Arr.new w1 _ _).noU entL_nu
 · have:i=0:=by omega
   subst this
   exact ⟨s,a,n,c,b,m,d,rfl,h6,hr.ext hE⟩
theorem poly_constant {v:Value} {q:Rat} {w:World} (h:RatR w v q):Calls Tryz.prog 77 #[v] w (RetOw w (constL q)):=by
 obtain ⟨_,rfl,s,a,n,c,b,m,d,rfl,HS,hx,hy⟩:=h
 go_enter Tryz.func77,Tryz.ntmps77
 go_upto_region 1 with (fail)
 refine box1 ?_
 intro w0 hE0 hB0 hz0
 have p0:w0.cell? ⟨w.heap.size,0,none⟩=some (.bool s):=hB0.cell (i:=0) (by simp [ratL,intL])
 have p1:w0.cell? ⟨w.heap.size,1,none⟩=some (.slice a n c):=hB0.cell (i:=1) (by simp [ratL,intL])
 have p2:w0.cell? ⟨w.heap.size,2,none⟩=some (.bool false):=hB0.cell (i:=2) (by simp [ratL,intL])
 have p3:w0.cell? ⟨w.heap.size,3,none⟩=some (.slice b m d):=hB0.cell (i:=3) (by simp [ratL,intL])
 have hiz:=qh (rat_IsZero (w:=w0) (v := .agg #[.bool s, .slice a n c, .bool false, .slice b m d]) (q:=q) ⟨ratL s a n c false b m d,rfl,s,a,n,c,b,m,d,rfl,HS,hx.ext hE0,hy.ext hE0⟩ rfl)
 clear hB0 hz0
 go_wp2_with fail
 refine hiz.out.mono ?_
 rintro e w1 ⟨rfl,hE1⟩
 have p0:=hE1.cell p0
 have p1:=hE1.cell p1
 have p2:=hE1.cell p2
 have p3:=hE1.cell p3
 have hEw:=hE0.trans hE1
 clear hiz
 by_cases hq0:q=0
 · rw [decide_eq_true hq0]
   have HC:Hid (constL q=[]):=qh (if_pos hq0)
   clear hq0
   go_wp2
   go_ret
   rw [HC.out]
   exact ⟨none,0,0,rfl,hEw,EntO.nil _ _⟩
 · rw [decide_eq_false hq0]
   have HC:Hid (constL q=[([0,0,0,0,0,0],q)]):=qh (if_neg hq0)
   clear hq0
   go_wp2
   go_ret
   rw [HC.out]
   exact ⟨_,1,1,rfl,hEw.alloc _,entO_lit (e:=[0,0,0,0,0,0]) hEw rfl ⟨s,a,n,c,b,m,d,rfl,HS,hx.ext hEw,hy.ext hEw⟩⟩
def sclR (q:Rat) (l:List Pl.Tm):List Pl.Tm:=if q=0 then [] else l.map (fun t=>(t.1,t.2*q))
def NEn (e:List Int) (q:Rat) (v:Value) (w:World):Prop:=∃ s a n c b m d,v = .agg (entL e s a n c b m d).toArray∧RatC w (ratL s a n c false b m d) q
theorem NEn.x (e:List Int) (q:Rat):StX (NEn e q):=fun _ _ _ x ⟨s,a,n,c,b,m,d,h1,h2⟩=>⟨s,a,n,c,b,m,d,h1,h2.ext x⟩
theorem poly_scale {v:Value} {q:Rat} {A:Option Addr} {N C:Nat} {l:List Pl.Tm} {w:World} (hT:Tabs w) (h:RatR w v q) (hL:EntSl w A N C l) (hN:N≤1000000) (hq:Pl.RB 2400 q) (hl:∀ t∈l,Pl.RB 2400 t.2):Calls Tryz.prog 97 #[v, .slice A N C] w (RetOw w (sclR q l)):=by
 obtain ⟨_,rfl,s,a,n,c,b,m,d,rfl,HS,hx,hy⟩:=h
 obtain ⟨rows,hS,hlen,hR⟩:=hL
 have HR:=qh hR
 have HLB:=qh hl
 have HQB:=qh hq
 have HLN:=qh hlen
 clear hR hl hq hlen
 go_enter Tryz.func97,Tryz.ntmps97
 go_upto_region 1 with (fail)
 refine box1 ?_
 intro w0 hE0 hB0 hz0
 have p0:w0.cell? ⟨w.heap.size,0,none⟩=some (.bool s):=hB0.cell (i:=0) (by simp [ratL,intL])
 have p1:w0.cell? ⟨w.heap.size,1,none⟩=some (.slice a n c):=hB0.cell (i:=1) (by simp [ratL,intL])
 have p2:w0.cell? ⟨w.heap.size,2,none⟩=some (.bool false):=hB0.cell (i:=2) (by simp [ratL,intL])
 have p3:w0.cell? ⟨w.heap.size,3,none⟩=some (.slice b m d):=hB0.cell (i:=3) (by simp [ratL,intL])
 have hiz:=qh (rat_IsZero (w:=w0) (v := .agg #[.bool s, .slice a n c, .bool false, .slice b m d]) (q:=q) ⟨ratL s a n c false b m d,rfl,s,a,n,c,b,m,d,rfl,HS,hx.ext hE0,hy.ext hE0⟩ rfl)
 clear hB0 hz0
 go_wp2_with fail
 refine hiz.out.mono ?_
 rintro e w1 ⟨rfl,hE1⟩
 have p0:=hE1.cell p0
 have p1:=hE1.cell p1
 have p2:=hE1.cell p2
 have p3:=hE1.cell p3
 have hEw:=hE0.trans hE1
 clear hiz
 by_cases hq0:q=0
 · rw [decide_eq_true hq0]
   have HC:Hid (sclR q l=[]):=qh (if_pos hq0)
   clear hq0
   go_wp2
   go_ret
   rw [HC.out]
   exact ⟨none,0,0,rfl,hEw,EntO.nil _ _⟩
 · rw [decide_eq_false hq0]
   have HC:Hid (sclR q l=l.map (fun t=>(t.1,t.2*q))):=qh (if_neg hq0)
   clear hq0
   have hnu0:nuR (List.replicate N (entL [0,0,0,0,0,0] false none 0 0 none 0 0)):=fun r hr u hu=>by rw [(List.mem_replicate.1 hr).2] at hu; exact entL_nu u hu
   go_upto_region 4 with (refine wl_mkK rfl rfl (by kernel_rfl) elem_entry rfl rfl (by omega) (by unfold maxLen; omega) ?_; intro w2 hO2 hE2)
   have hwg:w.heap.size≤w1.heap.size:=hEw.size
   have hO2':=hO2.mono hwg
   obtain ⟨G,hG⟩:∃ G,w1.heap.size=G:=⟨_,rfl⟩
   rw [hG] at hO2' ⊢
   clear hO2
   go_wp2
   go_loopw [15] (fun iv wr=>∃ (k:Nat) (rs:List (List Value)),iv = .int .i64 k∧k≤N∧Ext w1 wr∧OwnK wr w.heap.size 95 10 (some ⟨G,0,none⟩) N N rs∧nuR rs∧Hid (∀ i,i<k→EntC wr (rs.getD i []) ((l.map (fun t=>(t.1,t.2*q))).getD i ([],0)))) (fun iv _=>N-(intOf iv).toNat)
   case atStart=>exact ⟨0,_,rfl,Nat.zero_le _,hE2,hO2',hnu0,qh (fun i hi=>absurd hi (by omega))⟩
   case round =>
    clear hO2' hE2 hnu0
    obtain ⟨k,rs,rfl,hk,hE,hO,hnu,HCk⟩:=hrel
    by_cases hlt:k<N
    · have hSw:=hS.ext (hEw.trans hE)
      obtain ⟨bb,off,rfl,_⟩:=hSw.rd (by omega)
      obtain ⟨sx,ax,nx,cx,bx,mx,dx,hrow,h6,hrc⟩:=HR.out k hlt
      have HM:Hid ((l.map (fun t=>(t.1,t.2*q))).getD k ([],0)=((l.getD k ([],0)).1,(l.getD k ([],0)).2*q)):=qh (by simp [List.getD_eq_getElem?_getD,HLN.out,hlt])
      have HTB:Hid (Pl.RB 2400 (l.getD k ([],0)).2):=qh (HLB.out _ (by simp [List.getD_eq_getElem?_getD,HLN.out,hlt]))
      generalize l.getD k ([],0)=t at *
      obtain ⟨te,tq⟩:=t
      obtain ⟨x0,x1,x2,x3,x4,x5,h6e⟩:=six_of h6
      simp only at h6e hrow HM hrc HTB
      subst h6e
      have hY:=Arr.new wr 95 (entL [0,0,0,0,0,0] false none 0 0 none 0 0)
      go_upto_region 7 with (first
       | (refine wl_ldK rfl rfl agg_entry rfl hSw hlt ?_; rw [hrow])
       | (refine wl_stArr (vs:=(entL [x0,x1,x2,x3,x4,x5] sx ax nx cx bx mx dx)) rfl rfl rfl rfl rfl agg_entry hY rfl entL_one ?_; intro w3 hB3 hg3))
      have hE3:Ext wr w3:=((Ext.refl wr).alloc _).grownR hg3 (Nat.le_refl _)
      have hO3:=hO.ext hE3
      have HC3:Hid (∀ i,i<k→EntC w3 (rs.getD i []) ((l.map (fun t=>(t.1,t.2*q))).getD i ([],0))):=qh fun i hi=>(HCk.out i hi).ext hE3
      have hE1w:=hE.trans hE3
      have hEww:=hEw.trans hE1w
      have hrc3:=hrc.ext hEww
      have HRL:=qh (hO3.len (by omega))
      have hU3:=hO3.noU hnu
      clear hY hg3 hO hE hE3 hrow h6 hSw HCk hrc
      generalize wr.heap.size=X at *
      have c0:w3.cell? ⟨X,0,none⟩=some (.int .i64 x0):=hB3.cell (i:=0) (by simp [entL,ratL,intL])
      have c1:w3.cell? ⟨X,1,none⟩=some (.int .i64 x1):=hB3.cell (i:=1) (by simp [entL,ratL,intL])
      have c2:w3.cell? ⟨X,2,none⟩=some (.int .i64 x2):=hB3.cell (i:=2) (by simp [entL,ratL,intL])
      have c3:w3.cell? ⟨X,3,none⟩=some (.int .i64 x3):=hB3.cell (i:=3) (by simp [entL,ratL,intL])
      have c4:w3.cell? ⟨X,4,none⟩=some (.int .i64 x4):=hB3.cell (i:=4) (by simp [entL,ratL,intL])
      have c5:w3.cell? ⟨X,5,none⟩=some (.int .i64 x5):=hB3.cell (i:=5) (by simp [entL,ratL,intL])
      have c6:w3.cell? ⟨X,6,none⟩=some (.bool sx):=hB3.cell (i:=6) (by simp [entL,ratL,intL])
      have c7:w3.cell? ⟨X,7,none⟩=some (.slice ax nx cx):=hB3.cell (i:=7) (by simp [entL,ratL,intL])
      have c8:w3.cell? ⟨X,8,none⟩=some (.bool false):=hB3.cell (i:=8) (by simp [entL,ratL,intL])
      have c9:w3.cell? ⟨X,9,none⟩=some (.slice bx mx dx):=hB3.cell (i:=9) (by simp [entL,ratL,intL])
      have q0:=hE1w.cell p0
      have q1:=hE1w.cell p1
      have q2:=hE1w.cell p2
      have q3:=hE1w.cell p3
      have hmul:=fun (wx:World) (hq:Ext w3 wx)=>qh (rat_Mul ((hT.ext hEww).ext hq) (v := .agg #[.bool sx, .slice ax nx cx, .bool false, .slice bx mx dx]) (p:=tq) ⟨ratL sx ax nx cx false bx mx dx,rfl,hrc3.ext hq⟩ (v' := .agg #[.bool s, .slice a n c, .bool false, .slice b m d]) (q:=q) ⟨ratL s a n c false b m d,rfl,s,a,n,c,b,m,d,rfl,HS,(hx.ext hEww).ext hq,(hy.ext hEww).ext hq⟩ HTB.out.1 HTB.out.2 HQB.out.1 HQB.out.2)
      clear hrc3
      have HF1:=fun (wx:World) (hC:Ext w3 wx)=>qh (And.intro (hC.cell c0) (And.intro (hC.cell c1) (And.intro (hC.cell c2) (And.intro (hC.cell c3) (And.intro (hC.cell c4) (And.intro (hC.cell c5) (And.intro (hC.cell c6) (And.intro (hC.cell c7) (And.intro (hC.cell c8) (And.intro (hC.cell c9) (And.intro (hC.cell q0) (And.intro (hC.cell q1) (And.intro (hC.cell q2) (hC.cell q3))))))))))))))
      refine wp_region_typed2 (by kernel_rfl) (fun wx=>Ext w3 wx)
       [he (.slice (some ⟨G,0,none⟩) N N),
 he (.int .i64 k),
 he (.pointer (some ⟨X,0,none⟩)),
 he (.agg #[.int .i64 x0, .int .i64 x1, .int .i64 x2, .int .i64 x3, .int .i64 x4, .int .i64 x5]),
 he (.pointer (some ⟨X,6,none⟩)),
 he (.agg #[.bool sx, .slice ax nx cx, .bool false, .slice bx mx dx]),
 he (.agg #[.bool s, .slice a n c, .bool false, .slice b m d]),
 hp (fun v wx=>NR (tq*q) v wx),
 hp (fun v wx=>NEn [x0,x1,x2,x3,x4,x5] (tq*q) v wx)]
       (by kernel_rfl) (fun _ _ e h=>h.trans e) ((Ext.refl w3).drew) ⟨trivial,trivial,trivial,trivial,trivial,trivial,trivial,NR.x _,NEn.x _ _,trivial⟩ ⟨?o0, ?o1, ?o2, ?o3, ?o4, ?o5, ?o6, ?o7, ?o8,trivial⟩ ?fin
      case o0=>exact obl_pmove rfl (.inl rfl) (fun _ _ _ h=>h.1)
      case o1=>exact obl_pmove rfl (.inl rfl) (fun _ _ _ h=>h.1)
      case o2 =>
       refine obl_pq rfl fun ρ wx hC hcst h => ?_
       have e0:ρ (.tmp 7)=(.pointer (some ⟨X,0,none⟩)):=h.1
       obtain ⟨kx0,kx1,kx2,kx3,kx4,kx5,kx6,kx7,kx8,kx9,kq0,kq1,kq2,kq3⟩:=(HF1 wx hC).out
       go_simp
      case o3 =>
       refine obl_pq rfl fun ρ wx hC hcst h => ?_
       have e0:ρ (.tmp 22)=(.pointer (some ⟨X,0,none⟩)):=h.1
       obtain ⟨kx0,kx1,kx2,kx3,kx4,kx5,kx6,kx7,kx8,kx9,kq0,kq1,kq2,kq3⟩:=(HF1 wx hC).out
       go_simp
      case o4 =>
       refine obl_pq rfl fun ρ wx hC hcst h => ?_
       have e0:ρ (.tmp 7)=(.pointer (some ⟨X,0,none⟩)):=h.1
       obtain ⟨kx0,kx1,kx2,kx3,kx4,kx5,kx6,kx7,kx8,kx9,kq0,kq1,kq2,kq3⟩:=(HF1 wx hC).out
       go_simp
      case o5 =>
       refine obl_pq rfl fun ρ wx hC hcst h => ?_
       have e0:ρ (.tmp 24)=(.pointer (some ⟨X,6,none⟩)):=h.1
       obtain ⟨kx0,kx1,kx2,kx3,kx4,kx5,kx6,kx7,kx8,kx9,kq0,kq1,kq2,kq3⟩:=(HF1 wx hC).out
       go_simp
      case o6 =>
       refine obl_pq rfl fun ρ wx hC hcst h => ?_
       have e0:ρ (.tmp 2)=(.pointer (some ⟨w.heap.size,0,none⟩)):=h.1
       obtain ⟨kx0,kx1,kx2,kx3,kx4,kx5,kx6,kx7,kx8,kx9,kq0,kq1,kq2,kq3⟩:=(HF1 wx hC).out
       go_simp
      case o7 =>
       refine obl_cq rfl fun ρ wx hC hcst hfn h => ?_
       have e1:ρ (.tmp 25)=(.agg #[.bool sx, .slice ax nx cx, .bool false, .slice bx mx dx]):=h.2.1
       have e2:ρ (.tmp 26)=(.agg #[.bool s, .slice a n c, .bool false, .slice b m d]):=h.2.2.1
       obtain ⟨kx0,kx1,kx2,kx3,kx4,kx5,kx6,kx7,kx8,kx9,kq0,kq1,kq2,kq3⟩:=(HF1 wx hC).out
       refine ⟨84,#[.agg #[.bool sx, .slice ax nx cx, .bool false, .slice bx mx dx], .agg #[.bool s, .slice a n c, .bool false, .slice b m d]],by go_simp,((hmul wx hC).out).mono ?_⟩
       rintro e w' ⟨cs,rfl,hE',hr'⟩
       exact ⟨_,rfl,hE',cs,rfl,hr'⟩
      case o8 =>
       refine obl_ext rfl ?_
       intro ρ wx hp hC h
       have hcst:=hp.const
       have hfn:=hp.func
       have e0:ρ (.tmp 23)=(.agg #[.int .i64 x0, .int .i64 x1, .int .i64 x2, .int .i64 x3, .int .i64 x4, .int .i64 x5]):=h.1
       obtain ⟨v1,e1,cs1,rfl,r1⟩:=h.2.1
       obtain ⟨kx0,kx1,kx2,kx3,kx4,kx5,kx6,kx7,kx8,kx9,kq0,kq1,kq2,kq3⟩:=(HF1 wx hC).out
       obtain ⟨s9,a9,n9,c9,b9,m9,d9,rfl,z1,z2,z3⟩:=r1
       have hl1:(ratL s9 a9 n9 c9 false b9 m9 d9).toArray=#[.bool s9, .slice a9 n9 c9, .bool false, .slice b9 m9 d9]:=rfl
       rw [hl1] at e1
       refine ⟨.agg #[.int .i64 x0, .int .i64 x1, .int .i64 x2, .int .i64 x3, .int .i64 x4, .int .i64 x5, .bool s9, .slice a9 n9 c9, .bool false, .slice b9 m9 d9],wx,by go_simp,Ext.refl _,s9,a9,n9,c9,b9,m9,d9,rfl,s9,a9,n9,c9,b9,m9,d9,rfl,z1,z2,z3⟩
      case fin =>
       intro wx hC
       rintro _ ⟨_,rfl,_⟩
       rintro _ ⟨s9,a9,n9,c9,b9,m9,d9,rfl,hr9⟩
       change wpList _ _ _ _ _ _
       simp only [List.length_cons,List.length_nil,List.drop_succ_cons,List.drop_zero,Act.put,List.setIfInBounds_toArray,List.set_cons_succ,List.set_cons_zero]
       have hOx:=hO3.ext hC
       have hlt':(k:Int)<N:=by omega
       have hl9:(entL [x0,x1,x2,x3,x4,x5] s9 a9 n9 c9 b9 m9 d9).toArray=#[.int .i64 x0, .int .i64 x1, .int .i64 x2, .int .i64 x3, .int .i64 x4, .int .i64 x5, .bool s9, .slice a9 n9 c9, .bool false, .slice b9 m9 d9]:=rfl
       go_wp2_with (refine wl_stK (vs:=entL [x0,x1,x2,x3,x4,x5] s9 a9 n9 c9 b9 m9 d9) rfl rfl (by omega) agg_entry rfl rfl rfl hOx hlt rfl entL_one ?_; intro w4 hO4 hg4)
       go_roundw
       case rel =>
        have hUx:=hU3.ext (hO3.lt (g:=G) rfl).2 hC
        refine ⟨k+1,_,by go_num,by omega,(hE1w.trans hC).grownR hg4 (by omega),hO4, ?_,qh fun i hi => ?_⟩
        · intro r hr u hu
          rcases List.mem_or_eq_of_mem_set hr with h|h
          · exact hnu r h u hu
          · rw [h] at hu; exact entL_nu u hu
        · by_cases hik:i=k
          · subst hik
            rw [HM.out,List.getD_eq_getElem?_getD,List.getElem?_set_self (by rw [HRL.out]; exact hlt)]
            exact EntC.keptU ⟨s9,a9,n9,c9,b9,m9,d9,rfl,rfl,hr9⟩ hUx hg4
          · rw [List.getD_eq_getElem?_getD,List.getElem?_set_ne (by omega),←List.getD_eq_getElem?_getD]
            exact ((HC3.out i (by omega)).ext hC).keptU hUx hg4
       case measure=>simp [intOf]; omega
    · have hkn:k=N:=by omega
      subst hkn
      go_wp2
      go_ret
      rw [HC.out]
      refine ⟨_,k,k,rfl,hEw.trans hE,rs,hO,fun g hg => ?_,by simp [HLN.out],HCk.out⟩
      have:G=g:=by simpa [blk] using hg
      subst this
      exact hO.noU hnu
end Go.Proofs.YtbiifaciddajnaaGreatDoor
