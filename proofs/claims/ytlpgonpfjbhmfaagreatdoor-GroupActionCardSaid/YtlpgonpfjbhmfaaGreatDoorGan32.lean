/- Part Gan32. -/
import Derived.Test.YtlpgonpfjbhmfaaGreatDoorGan31
import Derived.Test.YtlpgonpfjbhmfaaGreatDoorGan26
set_option maxRecDepth 100000
set_option maxHeartbeats 100000000
namespace Go.Proofs.YtlpgonpfjbhmfaaGreatDoor
open Go Go.RowKit
def StrSl (w:World) (a:Option Addr) (n c:Nat) (l:List (List UInt8)):Prop:=∃ cs,Sl w a n c cs∧l.length=n∧∀ i,i<n→∃ s,cs.getD i undef = .string s∧strL s=l.getD i []
theorem StrSl.ext {w w':World} {a:Option Addr} {n c:Nat} {l:List (List UInt8)} (h:StrSl w a n c l) (e:Ext w w'):StrSl w' a n c l:=by
 obtain ⟨cs,h1,h2,h3⟩:=h;exact ⟨cs,h1.ext e,h2,h3⟩
open Classical in
noncomputable def rdAll (l:List (List UInt8)):Option (List Rat):=if ∀ i,i<l.length→(readQ (l.getD i [])).isSome=true then some (l.map (fun t=>(readQ t).getD 0)) else none
def RetRs (w:World) (o:Option (List Rat)) (e:Ending) (w':World):Prop:=∃ a n c,e = .returned (.tuple #[.slice a n c, .bool o.isSome])∧Ext w w'∧RatSl w' a n c (o.getD [])
theorem RatSl.nil (w:World):RatSl w none 0 0 []:=⟨[],SlK.nil w 4,rfl,fun i hi=>absurd hi (by omega)⟩
theorem rat_ReadAll {a:Option Addr} {n c:Nat} {l:List (List UInt8)} {w:World} (hT:Tabs w) (h:StrSl w a n c l) (hs:∀ t∈l,t.length≤570) (hn:n≤1000000) :
 Calls Tryz.prog 52 #[.slice a n c] w (RetRs w (rdAll l)):=by
 obtain ⟨cs,hS,hl,hq⟩:=h;have HQ:=qh hq;have HL:=qh hl;have HS:=qh hs;clear hq hl hs;obtain ⟨r,hr⟩:∃ r,rdAll l=r:=⟨_,rfl⟩;rw [hr];have HR:=qh hr;clear hr;have hnu0:nuR (List.replicate n (ratL false none 0 0 false none 0 0)):=fun r hr u hu=>by rw [(List.mem_replicate.1 hr).2] at hu; exact ratL_nu _ _ _ _ _ _ _ _ u hu
 go_enter Tryz.func52,Tryz.ntmps52
 go_upto_region 2 with (refine wl_mkK rfl rfl (by kernel_rfl) elem_Ratio rfl rfl (by omega) (by unfold maxLen; omega) ?_; intro w1 hO1 hE1)
 go_wp2
 go_loopw [14] (fun iv wr=>∃ (k:Nat) (rs:List (List Value)),iv = .int .i64 k∧k≤n∧Ext w wr∧OwnK wr w.heap.size 97 4 (some ⟨w.heap.size,0,none⟩) n n rs∧nuR rs∧Hid (∀ i,i<k→(readQ (l.getD i [])).isSome=true)∧Hid (∀ i,i<k→RatC wr (rs.getD i []) ((readQ (l.getD i [])).getD 0))) (fun iv _=>n-(intOf iv).toNat)
 case atStart=>exact ⟨0,_,rfl,Nat.zero_le _,hE1,hO1,hnu0,qh (fun i hi=>absurd hi (by omega)),qh (fun i hi=>absurd hi (by omega))⟩
 case round =>
  clear hO1 hE1 hnu0;obtain ⟨k,rs,rfl,hk,hE,hO,hnu,HK,HC⟩:=hrel;by_cases hlt:k<n
  · have hSw:=hS.ext hE;obtain ⟨b,off,rfl,hcl⟩:=hSw.rd (by omega);obtain ⟨s,hcs,hst⟩:=HQ.out k hlt;have c0:=hcl k hlt;rw [hcs] at c0;have hsz:s.size≤570:=by
     rw [←strL_len,hst];exact HS.out _ (by simp [List.getD_eq_getElem?_getD,HL.out,hlt])
    have hrd:=rat_Read (hT.ext hE) hsz;rw [hst] at hrd;have HRD:=qh hrd;clear hrd hcl hcs hst hSw;obtain ⟨o,HO⟩:∃ o,Hid (readQ (l.getD k [])=o):=⟨_,qh rfl⟩;rw [HO.out] at HRD
    go_wp2_with fail
    refine HRD.out.mono ?_;rintro e w2 ⟨row,rfl,hE2,s1,a1,n1,c1,b1,m1,d1,rfl,hrc⟩;have hl1:(ratL s1 a1 n1 c1 false b1 m1 d1).toArray=#[.bool s1, .slice a1 n1 c1, .bool false, .slice b1 m1 d1]:=rfl;have hY:=Arr.new w2 97 (ratL false none 0 0 false none 0 0)
    go_upto_region 6 with (refine wl_stArr (vs:=ratL s1 a1 n1 c1 false b1 m1 d1) rfl rfl rfl rfl rfl agg_Ratio hY rfl (ratL_one _ _ _ _ _ _ _ _) ?_; intro w3 hB3 hg3)
    have hE3:Ext w2 w3:=((Ext.refl w2).alloc _).grownR hg3 (Nat.le_refl _);have hE23:=hE2.trans hE3;have hEw:=hE.trans hE23;have hO3:=hO.ext hE23;have hU3:=hO3.noU hnu;have HRL:=qh (hO3.len (by omega));have HC3:Hid (∀ i,i<k→RatC w3 (rs.getD i []) ((readQ (l.getD i [])).getD 0)):=qh fun i hi=>(HC.out i hi).ext hE23;have HRC:Hid (RatC w3 (ratL s1 a1 n1 c1 false b1 m1 d1) (o.getD 0)):=qh (RatC.ext ⟨s1,a1,n1,c1,b1,m1,d1,rfl,hrc⟩ hE3);have hlx:w.heap.size<w2.heap.size:=((hO.ext hE2).lt rfl).2;clear hY hg3 hO hE hE2 hE3 hE23 hrc HC HRD c0;generalize w2.heap.size=X at *
    have x0:=hB3.c 0 rfl;have x1:=hB3.c 1 rfl;have x2:=hB3.c 2 rfl;have x3:=hB3.c 3 rfl;cases o with
    | none =>
     go_wp2
     go_ret2
     have:r=none:=by
      rw [←HR.out];unfold rdAll;rw [if_neg];intro h;have:=h k (by rw [HL.out]; exact hlt);rw [HO.out] at this;simp at this
     rw [this];exact ⟨none,0,0,rfl,hEw,RatSl.nil _⟩
    | some q =>
     go_wp2_with (refine wl_stK (vs:=ratL s1 a1 n1 c1 false b1 m1 d1) rfl rfl (by omega) agg_Ratio rfl rfl rfl hO3 hlt rfl (ratL_one _ _ _ _ _ _ _ _) ?_; intro w4 hO4 hg4)
     go_roundw
     case rel =>
      refine ⟨k+1,_,by go_num,by omega,hEw.grownR hg4 (Nat.le_refl _),hO4, ?_,qh fun i hi => ?_,qh fun i hi => ?_⟩
      · intro r hr;rcases List.mem_or_eq_of_mem_set hr with h|rfl
        · exact hnu r h
        · exact ratL_nu _ _ _ _ _ _ _ _
      · by_cases hik:i=k
        · subst hik; rw [HO.out]; rfl
        · exact HK.out i (by omega)
      · by_cases hik:i=k
        · subst hik;rw [HO.out,List.getD_eq_getElem?_getD,List.getElem?_set_self (by rw [HRL.out]; exact hlt)];exact HRC.out.keptU hU3 hg4
        · rw [List.getD_eq_getElem?_getD,List.getElem?_set_ne (by omega),←List.getD_eq_getElem?_getD];exact (HC3.out i (by omega)).keptU hU3 hg4
     case measure=>simp [intOf]; omega
  · have hkn:k=n:=by omega
    subst hkn;go_wp2
    go_ret2
    have hr:r=some (l.map (fun t=>(readQ t).getD 0)):=by
     rw [←HR.out];unfold rdAll;rw [if_pos];intro i hi;exact HK.out i (by rw [←HL.out]; exact hi)
    rw [hr];refine ⟨_,_,_,rfl,hE,rs,hO.slk (by omega),by simp [HL.out],fun i hi => ?_⟩;have:=HC.out i hi;simpa [List.getD_eq_getElem?_getD,HL.out,hi] using this
end Go.Proofs.YtlpgonpfjbhmfaaGreatDoor
namespace Go.Proofs.YtlpgonpfjbhmfaaGreatDoor.Pl
theorem rat_mlc (a b c:Rat):a*(b*c)=b*(a*c):=by rw [←Rat.mul_assoc,Rat.mul_comm a b,Rat.mul_assoc]
def grt (l:List Tm) (v:Nat):Nat:=l.foldl (fun a t=>max a (t.1.getD v 0).toNat) 0
theorem grt_foldl (v:Nat):∀ (l:List Tm) (a:Nat),a≤l.foldl (fun a t=>max a (t.1.getD v 0).toNat) a∧∀ t∈l,(t.1.getD v 0).toNat≤l.foldl (fun a t=>max a (t.1.getD v 0).toNat) a
 | [],a=>⟨Nat.le_refl _,by simp⟩
 | t :: r,a=>by
  have h:=grt_foldl v r (max a (t.1.getD v 0).toNat);refine ⟨Nat.le_trans (Nat.le_max_left _ _) h.1,fun s hs => ?_⟩;rcases List.mem_cons.1 hs with rfl|hs
  · exact Nat.le_trans (Nat.le_max_right _ _) h.1
  · exact h.2 s hs
theorem le_grt {l:List Tm} {t:Tm} (v:Nat) (h:t∈l):(t.1.getD v 0).toNat≤grt l v:=(grt_foldl v l 0).2 t h
theorem grt_take (l:List Tm) (v k:Nat) (hk:k<l.length):grt (l.take (k+1)) v=max (grt (l.take k) v) ((l.getD k ([],0)).1.getD v 0).toNat:=by
 unfold grt;rw [List.take_succ_eq_append_getElem hk,List.foldl_append];simp [List.getD_eq_getElem?_getD,hk]
def pwz (x:Rat) (g e:Nat):Int:=x.num^e*(x.den:Int)^(g-e)
theorem pw_cast_int (z:Int):∀ e:Nat,((z^e:Int):Rat)=(z:Rat)^e
 | 0=>by rw [Int.pow_zero,Rat.pow_zero]; rfl
 | e+1=>by rw [Int.pow_succ,Rat.pow_succ,Rat.intCast_mul,pw_cast_int z e]
theorem pw_mul (a b:Rat):∀ e:Nat,(a*b)^e=a^e*b^e
 | 0=>by simp [Rat.pow_zero]
 | e+1=>by rw [Rat.pow_succ,Rat.pow_succ,Rat.pow_succ,pw_mul a b e]; simp only [Rat.mul_assoc,Rat.mul_comm,rat_mlc]
theorem pw_add (a:Rat) (i:Nat):∀ j:Nat,a^(i+j)=a^i*a^j
 | 0=>by simp [Rat.pow_zero]
 | j+1=>by rw [←Nat.add_assoc,Rat.pow_succ,Rat.pow_succ,pw_add a i j,Rat.mul_assoc]
theorem pwz_is {x:Rat} {g e:Nat} (h:e≤g):((pwz x g e:Int):Rat)=x^e*(x.den:Rat)^g:=by
 unfold pwz;rw [Rat.intCast_mul,pw_cast_int,pw_cast_int,←q_den x,pw_mul,Rat.intCast_natCast,Rat.mul_assoc,←pw_add,Nat.add_sub_cancel' h]
def valE (pt:List Rat) (es:List Int):Nat→Rat
 | 0=>1
 | k+1=>valE pt es k*(pt.getD k 0)^(es.getD k 0).toNat
def evq (pt:List Rat) (l:List Tm):Rat:=l.foldr (fun t a=>t.2*valE pt t.1 pt.length+a) 0
def zev (d:Nat) (g:Nat→Nat) (pt:List Rat) (t:Tm):Nat→Int
 | 0=>zsc t.2 d
 | k+1=>zev d g pt t k*pwz (pt.getD k 0) (g k) (t.1.getD k 0).toNat
def dev (d:Nat) (g:Nat→Nat) (pt:List Rat):Nat→Nat
 | 0=>d
 | k+1=>dev d g pt k*(pt.getD k 0).den^(g k)
theorem pw_cast_nat (z:Nat):∀ e:Nat,((z^e:Nat):Rat)=(z:Rat)^e
 | 0=>by rw [Nat.pow_zero,Rat.pow_zero]; rfl
 | e+1=>by rw [Nat.pow_succ,Rat.pow_succ,Rat.natCast_mul,pw_cast_nat z e]
theorem zev_is {d:Nat} {g:Nat→Nat} {pt:List Rat} {t:Tm} (hd:t.2.den∣d):∀ k,(∀ v,v<k→(t.1.getD v 0).toNat≤g v)→((zev d g pt t k:Int):Rat)=t.2*valE pt t.1 k*(dev d g pt k:Rat)
 | 0,_=>by
  unfold zev valE dev;rw [zsc_is hd,Rat.mul_one]
 | k+1,h=>by
  unfold zev valE dev;rw [Rat.intCast_mul,zev_is hd k (fun v hv=>h v (by omega)),pwz_is (h k (by omega)),Rat.natCast_mul,pw_cast_nat];simp only [Rat.mul_assoc,Rat.mul_comm,rat_mlc]
theorem dev_ne {d:Nat} {g:Nat→Nat} {pt:List Rat} (hd:d≠0):∀ k,dev d g pt k≠0
 | 0=>hd
 | k+1=>Nat.mul_ne_zero (dev_ne hd k) (Nat.ne_of_gt (Nat.pow_pos (pt.getD k 0).den_pos))
def zsum (f:Tm→Int) (l:List Tm):Int:=l.foldl (fun a t=>a+f t) 0
theorem zsum_foldl (f:Tm→Int):∀ (l:List Tm) (a:Int),l.foldl (fun a t=>a+f t) a=a+l.foldr (fun t a=>f t+a) 0
 | [],a=>by simp
 | t :: r,a=>by rw [List.foldl_cons,zsum_foldl f r,List.foldr_cons]; omega
theorem zsum_take (f:Tm→Int) (l:List Tm) (k:Nat) (hk:k<l.length):zsum f (l.take (k+1))=zsum f (l.take k)+f (l.getD k ([],0)):=by
 unfold zsum;rw [List.take_succ_eq_append_getElem hk,List.foldl_append];simp [List.getD_eq_getElem?_getD,hk]
theorem ev_sum {d:Nat} {g:Nat→Nat} {pt:List Rat}:∀ {l:List Tm},(∀ t∈l,t.2.den∣d∧∀ v,v<pt.length→(t.1.getD v 0).toNat≤g v)→((l.foldr (fun t a=>zev d g pt t pt.length+a) 0:Int):Rat)=evq pt l*(dev d g pt pt.length:Rat)
 | [],_=>by simp [evq]
 | t :: r,h=>by
  have ih:=ev_sum (l:=r) (fun s hs=>h s (by simp [hs]));have ht:=h t (by simp);unfold evq at ih ⊢;rw [List.foldr_cons,List.foldr_cons,Rat.intCast_add,ih,zev_is ht.1 _ ht.2,Rat.add_mul]
theorem ev_done {d:Nat} {pt:List Rat} {l:List Tm} (hd:d≠0) (h:∀ t∈l,t.2.den∣d) :
 mkRat (zsum (fun t=>zev d (grt l) pt t pt.length) l) (dev d (grt l) pt pt.length)=evq pt l:=by
 have h0:=dev_ne (g:=grt l) (pt:=pt) hd pt.length;rw [mkRat_div];unfold zsum;rw [zsum_foldl,Int.zero_add,ev_sum (fun t ht=>⟨h t ht,fun v _=>le_grt v ht⟩),Rat.mul_assoc,Rat.mul_inv_cancel _ (by simpa using h0),Rat.mul_one]
end Go.Proofs.YtlpgonpfjbhmfaaGreatDoor.Pl
namespace Go.Proofs.YtlpgonpfjbhmfaaGreatDoor
open Go Go.RowKit
theorem intC_zero (w:World):IntC w (intL false none 0 0) 0:=⟨false,none,0,0,rfl,qh rfl,Wd.nil _⟩
def IntO (w:World) (base g n:Nat) (F:Nat→Int):Prop:=∃ rs,OwnK w base 90 2 (some ⟨g,0,none⟩) n n rs∧nuR rs∧∀ i,i<n→IntC w (rs.getD i []) (F i)
section
variable {w w':World} {base g n:Nat} {F G:Nat→Int}
theorem IntO.ext (h:IntO w base g n F) (e:Ext w w'):IntO w' base g n F:=by
 obtain ⟨rs,h1,h2,h3⟩:=h;exact ⟨rs,h1.ext e,h2,fun i hi=>(h3 i hi).ext e⟩
theorem IntO.congr (h:IntO w base g n F) (e:∀ i,i<n→G i=F i):IntO w base g n G:=by
 obtain ⟨rs,h1,h2,h3⟩:=h;exact ⟨rs,h1,h2,fun i hi=>by rw [e i hi]; exact h3 i hi⟩
theorem IntO.mono {base':Nat} (h:IntO w base g n F) (hb:base'≤base):IntO w base' g n F:=by
 obtain ⟨rs,h1,h2,h3⟩:=h;exact ⟨rs,h1.mono hb,h2,h3⟩
theorem IntO.noU (h:IntO w base g n F):NoU w g:=by
 obtain ⟨rs,h1,h2,h3⟩:=h;exact h1.noU h2
theorem IntO.lt (h:IntO w base g n F):base≤g∧g<w.heap.size:=by
 obtain ⟨rs,h1,h2,h3⟩:=h;exact h1.lt rfl
theorem IntO.kept {g':Nat} (h:IntO w base g n F) (hU:NoU w g') (hg:w.grownBy w' (some g')) (hne:g≠g'):IntO w' base g n F:=by
 obtain ⟨rs,h1,h2,h3⟩:=h;exact ⟨rs,h1.kept hg (Or.inr (by simpa [blk] using hne)),h2,fun i hi=>(h3 i hi).keptU hU hg⟩
theorem IntO.at (h:IntO w base g n F) {i:Nat} (hi:i<n):∃ s a m c,w.cell? ⟨g,i*2,none⟩=some (.bool s)∧w.cell? ⟨g,i*2+1,none⟩=some (.slice a m c)∧Hid (decide (F i<0)=s)∧Wd w a m c (F i).natAbs:=by
 obtain ⟨rs,h1,h2,h3⟩:=h;obtain ⟨s,a,m,c,hr,hs,hw⟩:=h3 i hi;have hk:=h1.slk (by omega);obtain ⟨b,off,hb,hc⟩:=hk.rd (by omega);simp only [Option.some.injEq,Addr.mk.injEq,and_true] at hb;obtain ⟨rfl,rfl⟩:=hb;have c0:=hc i hi 0 (by omega);have c1:=hc i hi 1 (by omega);rw [hr] at c0 c1;simp only [intL,List.getD_cons_zero,List.getD_cons_succ,Nat.zero_add,Nat.add_zero] at c0 c1;exact ⟨s,a,m,c,c0,c1,hs,hw⟩
theorem IntO.made (h:OwnK w base 90 2 (some ⟨g,0,none⟩) n n (List.replicate n (intL false none 0 0))):IntO w base g n (fun _=>0):=by
 refine ⟨_,h,fun r hr u hu=>by rw [(List.mem_replicate.1 hr).2] at hu; exact intL_nu _ _ _ _ u hu,fun i hi => ?_⟩;have:(List.replicate n (intL false none 0 0)).getD i []=intL false none 0 0:=by simp [List.getD_eq_getElem?_getD,hi]
 rw [this];exact intC_zero w
theorem wl_stIO {ops:Array Oper} {rest:List Oper} {o:Oper} {f:Act} {Q:Exit→Act→World→Prop} {x y:Operand} {i:Nat} {z:Int} {s:Bool} {a:Option Addr} {m c:Nat} {va:Array Value} (hgd:o.guard=none) (ho:o.op = .store 90 x y)
 (hx:f.eval x = .pointer (some ⟨g,i*2,none⟩)) (hy:f.eval y = .agg va) (hva:va=(intL s a m c).toArray) (h:IntO w base g n F) (hi:i<n) (hs:Hid (decide (z<0)=s)) (hw:Wd w a m c z.natAbs)
 (hK:∀ w',IntO w' base g n (fun j=>if j=i then z else F j)→w.grownBy w' (some g)→wpList Tryz.prog ops Q rest (f.put o.dst undef) w'):wpList Tryz.prog ops Q (o :: rest) f w:=by
 have hU:=h.noU;obtain ⟨rs,h1,h2,h3⟩:=h;have hl:=h1.len (by omega);refine wl_stK (vs:=intL s a m c) hgd ho (by omega) agg_Int hx hy hva h1 hi rfl (intL_one _ _ _ _) fun w' hO hg=>hK w' ⟨_,hO, ?_,fun j hj => ?_⟩ hg
 · intro r hr u hu;rcases List.mem_or_eq_of_mem_set hr with h|h
   · exact h2 r h u hu
   · rw [h] at hu; exact intL_nu _ _ _ _ u hu
 · by_cases e:j=i
   · subst e;dsimp only;rw [if_pos rfl,List.getD_eq_getElem?_getD,List.getElem?_set_self (by rw [hl]; exact hi)];exact IntC.keptU ⟨s,a,m,c,rfl,hs,hw⟩ hU hg
   · dsimp only;rw [if_neg e,List.getD_eq_getElem?_getD,List.getElem?_set_ne (by omega),←List.getD_eq_getElem?_getD];exact (h3 j hj).keptU hU hg
def IntB (w:World) (g:Nat) (z:Int):Prop:=∃ row,Arr w g 90 row∧IntC w row z
theorem IntB.ext {z:Int} (h:IntB w g z) (e:Ext w w'):IntB w' g z:=by
 obtain ⟨row,h1,h2⟩:=h;exact ⟨row,h1.ext e,h2.ext e⟩
theorem IntB.lt {z:Int} (h:IntB w g z):g<w.heap.size:=by
 obtain ⟨row,h1,h2⟩:=h;exact h1.lt
theorem IntB.noU {z:Int} (h:IntB w g z):NoU w g:=by
 obtain ⟨row,h1,s,a,m,c,rfl,h2⟩:=h;exact h1.noU (intL_nu _ _ _ _)
theorem IntB.kept {z:Int} {g':Nat} (h:IntB w g z) (hU:NoU w g') (hg:w.grownBy w' (some g')) (hne:g≠g'):IntB w' g z:=by
 obtain ⟨row,h1,h2⟩:=h;exact ⟨row,h1.kept hg (by simpa using hne),h2.keptU hU hg⟩
theorem IntB.at {z:Int} (h:IntB w g z):∃ s a m c,w.cell? ⟨g,0,none⟩=some (.bool s)∧w.cell? ⟨g,1,none⟩=some (.slice a m c)∧Hid (decide (z<0)=s)∧Wd w a m c z.natAbs:=by
 obtain ⟨row,h1,s,a,m,c,rfl,hs,hw⟩:=h;exact ⟨s,a,m,c,h1.cell (i:=0) (by simp [intL]),h1.cell (i:=1) (by simp [intL]),hs,hw⟩
theorem wl_stIB {ops:Array Oper} {rest:List Oper} {o:Oper} {f:Act} {Q:Exit→Act→World→Prop} {x y:Operand} {z z':Int} {s:Bool} {a:Option Addr} {m c:Nat} {va:Array Value} (hgd:o.guard=none) (ho:o.op = .store 90 x y)
 (hx:f.eval x = .pointer (some ⟨g,0,none⟩)) (hy:f.eval y = .agg va) (hva:va=(intL s a m c).toArray) (h:IntB w g z') (hs:Hid (decide (z<0)=s)) (hw:Wd w a m c z.natAbs)
 (hK:∀ w',IntB w' g z→w.grownBy w' (some g)→wpList Tryz.prog ops Q rest (f.put o.dst undef) w'):wpList Tryz.prog ops Q (o :: rest) f w:=by
 have hU:=h.noU;obtain ⟨row,h1,s',a',m',c',rfl,_⟩:=h;exact wl_stArr (vs:=intL s a m c) hgd ho hx hy hva agg_Int h1 rfl (intL_one _ _ _ _) fun w' hO hg=>hK w' ⟨_,hO,IntC.keptU ⟨s,a,m,c,rfl,hs,hw⟩ hU hg⟩ hg
theorem IntB.new (w:World):IntB (w.alloc (.cells (intL false none 0 0).toArray 90)) w.heap.size 0:=⟨_,Arr.new w _ _,intC_zero _⟩
end
end Go.Proofs.YtlpgonpfjbhmfaaGreatDoor
