/- Part Gav3. -/
import Derived.Test.YtlpgonpfjbhmfaaGreatDoorGav1
import Derived.Test.YtlpgonpfjbhmfaaGreatDoorGav2
import Derived.Deep.DeepCutAuto
import Derived.Deep.CutBlock
import Derived.Test.YtlpgonpfjbhmfaaGreatDoorProg
import Derived.Deep.QuietTactic
import Derived.BigQuiet
import Derived.WalkKit
import Derived.Laws.Rows
import Derived.Laws.Tables
import Derived.Laws.CopyRow
import Derived.Laws.IdiomCopy
set_option maxRecDepth 100000
set_option maxHeartbeats 100000000
namespace Go.Proofs.YtlpgonpfjbhmfaaGreatDoor
open Tryz Go Go.RowKit
variable {xs ys:List Int} {c d k m n:Nat} {a b:Option Addr} {w:World}
def plc (l:List Int) (i:Nat):Nat:=if i < l.length then (l.getD i 0 % (i+1:Int)).toNat else 0
def Cg (l:List Int):Nat→List Int
 | 0=>[]
 | i+1=>(Cg l i).take (plc l i) ++ [(i:Int)] ++ (Cg l i).drop (plc l i)
theorem Er (l:List Int) (n:Nat):(Cg l n).length=n:=by
 induction n with
 | zero=>rfl
 | succ i ih=>simp [Cg,ih]; omega
theorem Ve (l:List Int) (i:Nat):plc l i≤i:=by
 unfold plc;split
 · have h1:=Int.emod_lt_of_pos (l.getD i 0) (show (0:Int) < i+1 by omega);have h2:=Int.emod_nonneg (l.getD i 0) (show (i+1:Int)≠0 by omega);omega
 · omega
theorem IY (hx:SlI w a n c xs) (hm:m≤1000) :
 Calls prog 12 #[.slice a n c, .int .i64 m] w (Po w (Cg xs m)):=by
 have hnn:=hx.le
 go_enter func12,ntmps12
 go_wp2
 go_loopw [5,6] (fun v i wr=>∃ k:Nat,∃ a' c',k≤m∧i = .int .i64 k∧v = .slice a' k c'∧Ext w wr∧CT wr w.heap.size a' k c' (Cg xs k)) (fun _ i _=>m - (intOf i).toNat)
 case atStart=>exact ⟨0,none,0,Nat.zero_le _,rfl,rfl,Ext.refl _,Own.nil _ _ _⟩
 case round =>
  obtain ⟨k,a',c',hk,rfl,rfl,hE,hO⟩:=hrel;have hx:=hx.ext hE;by_cases hlt:k < m
  · go_upto_block 1 with (fail)
    go_cut [5] (fun s5 wx=>∃ a2 c2,s5 = .slice a2 (k+1) c2∧Ext w wx∧CT wx w.heap.size a2 (k+1) c2 (Cg xs (k+1)))
    case rest =>
     obtain ⟨a2,c2,rfl,hE2,hO2⟩:=hcut;go_wp2;go_roundw
     case rel=>exact ⟨k+1,_,_,by omega,by go_num,rfl,hE2,hO2⟩
     case measure=>simp [intOf]; omega
    go_upto_if 16 with (fail)
    go_cut [7] (fun s7 wx=>∃ q:Nat,s7 = .int .i64 q∧q=plc xs k∧wx=wr)
    case first =>
     by_cases hkn:k < n
     · obtain ⟨b1,o1,rfl,hc1⟩:=hx.at hkn;have g1:=hc1 k hkn;have e1:(((xs.getD k 0 % ((k:Int)+1)).toNat:Nat):Int)=xs.getD k 0 % ((k:Int)+1):=by
        have:=Int.emod_nonneg (xs.getD k 0) (show (k+1:Int)≠0 by omega);omega
       have e2:(xs.getD k 0 % ((k:Int)+1)).toNat=plc xs k:=by
        unfold plc;rw [if_pos (by have:=hx.len; omega)]
       have E1:=Lib.hid e1;have E2:=Lib.hid e2;clear hc1 e1 e2
       go_wp2_with (go_at_call 36; refine (RD (by omega) (by omega)).mono ?_; rintro e w1 ⟨rfl,rfl⟩)
       go_meet
       refine ⟨_, ?_,E2.out,rfl⟩;rw [E1.out];simp
     · have e1:plc xs k=0:=by
        unfold plc;rw [if_neg (by have:=hx.len; omega)]
       have E1:=Lib.hid e1;clear e1;go_wp2
       go_meet
       exact ⟨0,rfl,E1.out.symm,rfl⟩
    case rest =>
     obtain ⟨q,rfl,hq,rfl⟩:=hcut;have hqk:q≤k:=by rw [hq]; exact Ve xs k
     have HQ:=Lib.hid hq;clear hq;have hcap:=Own.cap hO;have hz:=hE.size
     go_upto_region 8 with (fail)
     have hqc:q≤c':=by omega
     have hsO:=Own.sl hO;have hpl:(Cg xs k).length=k:=Er xs k;have hbase:∀ wx,Ext wc wx→wc.heap.size≤wx.heap.size:=fun wx e=>e.size
     refine AM (by kernel_rfl) (fun wx=>Ext wc wx)
      [hu 4 (fun v wx=>∃ g,v = .slice (some ⟨g,0,none⟩) 0 0∧Own wx wc.heap.size 3 (some ⟨g,0,none⟩) 0 0 []),
       he (.slice a' k c'),he (.int .i64 q),he (.slice a' q c'),
       hmu 7 (fun v wx=>∃ a1 c1,v = .slice a1 q c1∧Own wx wc.heap.size 3 a1 q c1 (((Cg xs k).map (Value.int .i64)).take q)),
       he (.int .i64 k),hu 7 (fun v wx=>∃ g,v = .slice (some ⟨g,0,none⟩) 1 1∧Own wx wc.heap.size 3 (some ⟨g,0,none⟩) 1 1 [.int .i64 k]),
       hmu 11 (fun v wx=>∃ a1 c1,v = .slice a1 (q+1) c1∧Own wx wc.heap.size 3 a1 (q+1) c1 (((Cg xs k).map (Value.int .i64)).take q ++ [.int .i64 k])),
       he (.slice a' k c'),he (.int .i64 q),he (.slice (if c'=q then a' else a'.map (fun x=>x.add q)) (k - q) (c' - q)),
       hmp (fun v wx=>∃ a1 c1,v = .slice a1 (k+1) c1∧Own wx wc.heap.size 3 a1 (k+1) c1 ((Cg xs (k+1)).map (Value.int .i64)))]
      (by kernel_rfl) (fun _ _ e h=>h.trans e) ((Ext.refl wc).drew) ?stab ⟨?o0, ?o1, ?o2, ?o3, ?o4, ?o5, ?o6, ?o7, ?o8, ?o9, ?o10, ?o11,trivial⟩ ?fin
     case stab =>
      exact ⟨fun v w w' e ⟨g,h1,h2⟩=>⟨g,h1,h2.ext e⟩,trivial,trivial,trivial,fun v w w' e ⟨g,c,h1,h2⟩=>⟨g,c,h1,h2.ext e⟩,trivial,fun v w w' e ⟨g,h1,h2⟩=>⟨g,h1,h2.ext e⟩,
       fun v w w' e ⟨g,c,h1,h2⟩=>⟨g,c,h1,h2.ext e⟩,trivial,trivial,trivial,fun v w w' e ⟨g,c,h1,h2⟩=>⟨g,c,h1,h2.ext e⟩,trivial⟩
     case o0=>exact R6 rfl rfl underlying22 Bz hbase
     case o1=>exact Fi rfl rfl (fun _ _ _ h=>h.1)
     case o2=>exact Fi rfl rfl (fun _ _ _ h=>h.1)
     case o3=>exact Mc rfl rfl underlying22 Bz (fun _ _ _ h=>⟨h.1,h.2.1⟩) hqc
     case o4 =>
      refine Md rfl rfl underlying22 Bz rfl (n:=0) (m:=q) (fun u hu=>A6 _ u (List.mem_of_mem_take hu)) (by omega) (by unfold maxLen; omega) (by omega) (List.nil_append _) hbase ?_;rintro ρ wx hp hC ⟨⟨v0,e0,g,rfl,hO0⟩,h1,-⟩;refine ⟨_,_,_,_,e0,hO0,h1,(hsO.ext hC).upto hqk,fun w' hg=>⟨hC.grown hg ?_, ?_⟩⟩
      · intro k hk;exact (Own.lt hO0 hk).1
      · refine QE (j:=6) (by kernel_rfl) ?_;rintro v ⟨g6,rfl,hO6⟩;exact ⟨g6,rfl,Own.kept hO6 hg (Or.inr (by simpa [blk] using Ne.symm (UQ hO0 hO6 (by omega))))⟩
     case o5=>exact Fi rfl rfl (fun _ _ _ h=>h.1)
     case o6=>exact R7 rfl rfl underlying22 Bz rfl rfl hbase (fun _ _ _ h=>h.1)
     case o7 =>
      refine Md rfl rfl underlying22 Bz rfl (n:=q) (m:=1) (news:=[.int .i64 k]) (by simp [Value.oneCell']) rfl (by unfold maxLen; omega) (by omega) rfl hbase ?_;rintro ρ wx hp hC ⟨⟨v0,e0,a1,c1,rfl,hO1⟩,⟨v1,e1,g,rfl,hO6⟩,-⟩;refine ⟨_,_,_,_,e0,hO1,e1,hO6.sl,fun w' hg=>⟨hC.grown hg ?_,JG (by kernel_rfl)⟩⟩;intro k hk;exact (Own.lt hO1 hk).1
     case o8=>exact Fi rfl rfl (fun _ _ _ h=>h.1)
     case o9=>exact Fi rfl rfl (fun _ _ _ h=>h.1)
     case o10=>exact JL rfl rfl underlying22 Bz (fun _ _ _ h=>⟨h.1,h.2.1⟩) hqk
     case o11 =>
      refine Md rfl rfl underlying22 Bz rfl (n:=q+1) (m:=k - q) (xs:=((Cg xs k).map (Value.int .i64)).take q ++ [.int .i64 k]) (news:=((Cg xs k).map (Value.int .i64)).drop q) (fun u hu=>A6 _ u (List.mem_of_mem_drop hu)) (by omega) (by unfold maxLen; omega) (by omega) ?_ hbase ?_
      · have:=HQ.out;subst this;simp [Cg]
      rintro ρ wx hp hC ⟨⟨v0,e0,a1,c1,rfl,hO1⟩,e1,-⟩;refine ⟨_,_,_,_,e0,hO1,e1,(hsO.ext hC).from hqk,fun w' hg=>⟨hC.grown hg ?_,JG (by kernel_rfl)⟩⟩;intro k hk;exact (Own.lt hO1 hk).1
     case fin =>
      intro wx hC;rintro v0 v4 v6 v7 v11 ⟨a1,c1,rfl,hO1⟩;simp only [List.length_cons,List.length_nil,List.drop_succ_cons,List.drop_zero,Act.put,List.setIfInBounds_toArray,List.set_cons_succ,List.set_cons_zero,QD];go_wp2
      all_goals
       go_meet
       exact ⟨_,_,rfl,hE.trans hC,Own.mono hO1 hE.size⟩
  · have e:k=m:=by omega
    go_wp2;go_ret;subst e;exact ⟨_,_,_,rfl,hE,hO⟩
theorem Lr (hp:xs.take k=ys.take k) (h1:k < xs.length) (h2:k < ys.length) (he:(xs.getD k 0 != ys.getD k 0)=false):xs.take (k+1)=ys.take (k+1):=by
 simp [h1,h2] at he;rw [List.take_succ_eq_append_getElem h1,List.take_succ_eq_append_getElem h2,hp,he]
theorem Sr (he:(xs.getD k 0 != ys.getD k 0)=true):xs≠ys:=by
 rintro rfl;simp at he
theorem FM (hx:SlI w a n c xs) (hy:SlI w b m d ys) :
 Calls prog 34 #[.slice a n c, .slice b m d] w fun e w'=>e = .returned (.bool (decide (xs=ys)))∧Qt w w':=by
 have hm:=hx.le;have hm2:=hy.le;by_cases hl:n=m
 · have hne:((n:Int) != (m:Int))=false:=by simp [hl]
   have HL:=Lib.hid hl;clear hl
   go_enter func34,ntmps34
   go_wp2
   go_loopw [5] (fun i wr=>∃ k:Nat,k≤n∧i = .int .i64 k∧Qt w wr∧xs.take k=ys.take k) (fun i _=>n - (intOf i).toNat)
   case atStart=>exact ⟨0,Nat.zero_le _,rfl,Qt.refl _,rfl⟩
   case round =>
    obtain ⟨k,hk,rfl,hE,hp⟩:=hrel;have HP:=Lib.hid hp;clear hp;have hx:=hx.ext hE.ext;have hy:=hy.ext hE.ext;by_cases hlt:k < n
    · have hlt2:k < m:=by have:=HL.out; omega
      obtain ⟨b1,o1,rfl,hc1⟩:=hx.at hlt;obtain ⟨b2,o2,rfl,hc2⟩:=hy.at hlt2;have g1:=hc1 k hlt;have g2:=hc2 k hlt2;clear hc1 hc2;generalize hxk:xs.getD k 0=xk at *
      generalize hyk:ys.getD k 0=yk at *
      have HX:=Lib.hid hxk;have HY:=Lib.hid hyk;clear hxk hyk;go_wp2
      go_quiet (fail)
      by_cases he:(xk != yk)=true
      · go_wp2;go_ret;have:xs≠ys:=Sr (k:=k) (by rw [HX.out,HY.out]; exact he);exact ⟨by simp [this],hE.drewN _⟩
      · have he':(xk != yk)=false:=by simpa using he
        go_wp2;go_roundw
        case rel=>exact ⟨k+1,by omega,by go_num,hE.drewN _,Lr HP.out (by have:=hx.len; omega) (by have:=hy.len; omega) (by rw [HX.out,HY.out]; exact he')⟩
        case measure=>simp [intOf]; omega
    · go_wp2;go_ret;refine ⟨?_,hE⟩;have h1:=HP.out;have h2:=HL.out;rw [List.take_of_length_le (by have:=hx.len; omega),List.take_of_length_le (by have:=hy.len; omega)] at h1;simp [h1]
 · have hne:((n:Int) != (m:Int))=true:=by simp; omega
   go_enter func34,ntmps34
   go_wp2;go_ret;refine ⟨?_,Qt.refl _⟩;have:xs≠ys:=by rintro rfl; exact hl (hx.len.symm.trans hy.len)
   simp [this]
theorem OQ {xs ys:List (List Int)} (hp:xs.take k=ys.take k) (h1:k < xs.length) (h2:k < ys.length) (he:xs.getD k []=ys.getD k []):xs.take (k+1)=ys.take (k+1):=by
 simp [h1,h2] at he;rw [List.take_succ_eq_append_getElem h1,List.take_succ_eq_append_getElem h2,hp,he]
theorem OR {xs ys:List (List Int)} (hx:SlL w a n c xs) (hy:SlL w b m d ys) :
 Calls prog 35 #[.slice a n c, .slice b m d] w fun e w'=>e = .returned (.bool (decide (xs=ys)))∧Qt w w':=by
 have hm:=hx.le;have hm2:=hy.le;by_cases hl:n=m
 · have hne:((n:Int) != (m:Int))=false:=by simp [hl]
   have HL:=Lib.hid hl;clear hl
   go_enter func35,ntmps35
   go_wp2
   go_loopw [5] (fun i wr=>∃ k:Nat,k≤n∧i = .int .i64 k∧Qt w wr∧xs.take k=ys.take k) (fun i _=>n - (intOf i).toNat)
   case atStart=>exact ⟨0,Nat.zero_le _,rfl,Qt.refl _,rfl⟩
   case round =>
    obtain ⟨k,hk,rfl,hE,hp⟩:=hrel;have HP:=Lib.hid hp;clear hp;have hx:=hx.ext hE.ext;have hy:=hy.ext hE.ext;by_cases hlt:k < n
    · have hlt2:k < m:=by have:=HL.out; omega
      obtain ⟨b1,o1,a1,n1,c1,rfl,g1,s1⟩:=hx.at hlt;obtain ⟨b2,o2,a2,n2,c2,rfl,g2,s2⟩:=hy.at hlt2;generalize hxk:xs.getD k []=xk at *
      generalize hyk:ys.getD k []=yk at *
      have HX:=Lib.hid hxk;have HY:=Lib.hid hyk;clear hxk hyk;by_cases he:xk=yk
      · have hd:decide (xk=yk)=true:=by simp [he]
        have HE:=Lib.hid he;clear he;go_wp2
        go_quiet ((go_at_call 34; exact Calls.quiet_of (FM (s1.ext ((Ext.refl _).drewN _)) (s2.ext ((Ext.refl _).drewN _)))))
        go_wp2;go_roundw
        case rel=>exact ⟨k+1,by omega,by go_num,hE.drewN _,OQ HP.out (by have:=hx.len; omega) (by have:=hy.len; omega) (by rw [HX.out,HY.out]; exact HE.out)⟩
        case measure=>simp [intOf]; omega
      · have hd:decide (xk=yk)=false:=by simp [he]
        go_wp2
        go_quiet ((go_at_call 34; exact Calls.quiet_of (FM (s1.ext ((Ext.refl _).drewN _)) (s2.ext ((Ext.refl _).drewN _)))))
        go_wp2;go_ret;have:xs≠ys:=by
         rintro rfl;exact he (HX.out.symm.trans HY.out)
        exact ⟨by simp [this],hE.drewN _⟩
    · go_wp2;go_ret;refine ⟨?_,hE⟩;have h1:=HP.out;have h2:=HL.out;rw [List.take_of_length_le (by have:=hx.len; omega),List.take_of_length_le (by have:=hy.len; omega)] at h1;simp [h1]
 · have hne:((n:Int) != (m:Int))=true:=by simp; omega
   go_enter func35,ntmps35
   go_wp2;go_ret;refine ⟨?_,Qt.refl _⟩;have:xs≠ys:=by rintro rfl; exact hl (hx.len.symm.trans hy.len)
   simp [this]
theorem J4 {α:Type} {l:List (List α)} {p:List α→Bool} (hk:k < l.length) (h:(l.take k).all p=true) (h1:p (l.getD k [])=true):(l.take (k+1)).all p=true:=by
 rw [List.take_succ_eq_append_getElem hk,List.all_append,h];simp [hk] at h1;simp [h1]
theorem OS {α:Type} {l:List (List α)} {p:List α→Bool} (hk:k < l.length) (h1:p (l.getD k [])=false):l.all p=false:=by
 simp [hk] at h1;rw [List.all_eq_false];exact ⟨l[k],List.getElem_mem hk,by simp [h1]⟩
theorem T3 {xs:List (List Int)} (hx:SlL w a n c xs) :
 Calls prog 7 #[.slice a n c] w fun e w'=>e = .returned (.bool (xs.all (fun x=>decide (x.length≤20))))∧w=w':=by
 have hm:=hx.le;have HL:=Lib.hid hx.len
 go_enter func7,ntmps7
 go_wp2
 go_loop [3] (fun i=>∃ k:Nat,k≤n∧i = .int .i64 k∧(xs.take k).all (fun x=>decide (x.length≤20))=true) (fun i=>n - (intOf i).toNat)
 case atStart=>exact ⟨0,Nat.zero_le _,rfl,rfl⟩
 case round =>
  obtain ⟨k,hk,rfl,hp⟩:=hrel;have HP:=Lib.hid hp;clear hp;by_cases hlt:k < n
  · obtain ⟨b1,o1,a1,n1,c1,rfl,g1,s1⟩:=hx.at hlt;have HS:=Lib.hid s1.len;clear s1;by_cases hq:20 < (n1:Int)
    · go_wp2;go_ret;refine ⟨GD ?_,rfl⟩;rw [OS (k:=k) (by have:=HL.out; omega) (by rw [HS.out]; simp; omega)]
    · go_wp2;go_round
      case rel=>exact ⟨k+1,by omega,by go_num,J4 (by have:=HL.out; omega) HP.out (by rw [HS.out]; simp; omega)⟩
      case measure=>simp [intOf]; omega
  · go_wp2;go_ret;refine ⟨GD ?_,rfl⟩;have h1:=HP.out
    rwa [List.take_of_length_le (by have:=HL.out; omega)] at h1
def VU (w:World) (xs:List Int) (er:Int) (e:Ending) (w':World):Prop :=
 ∃ a n c,e = .returned (.tuple #[.slice a n c, .int .i64 er])∧Ext w w'∧CT w' w.heap.size a n c xs
def BC (xs ys:List Int):List Int×Int :=
 if Ar xs=true∧Ar ys=true then (if xs.length=ys.length then (comp xs ys,0) else ([],4)) else ([],1)
theorem AF (h:Ar xs=true):Pp xs:=of_decide_eq_true h
theorem B3 (h:Ar xs=true) {i:Nat} (hi:i < xs.length):0≤xs.getD i 0∧xs.getD i 0 < xs.length:=by
 have:=(AF h).2.1 (xs.getD i 0) (by simp [hi]);exact this
theorem K2 (hx:SlI w a n c xs) (hy:SlI w b m d ys) :
 Calls prog 13 #[.slice a n c, .slice b m d] w (VU w (BC xs ys).1 (BC xs ys).2):=by
 have HX:=Lib.hid hx.len;have HY:=Lib.hid hy.len;by_cases p1:Ar xs=true
 · by_cases p2:Ar ys=true
   · by_cases hl:n=m
     · have hne:((n:Int) != (m:Int))=false:=by simp [hl]
       have HL:=Lib.hid hl;have HS:Hid (BC xs ys=(comp xs ys,0)):=by
        show BC xs ys=(comp xs ys,0);unfold BC;rw [if_pos ⟨p1,p2⟩,if_pos (by rw [HX.out,HY.out,hl])]
       clear hl
       go_enter func13,ntmps13
       go_wp2_with fail
       refine (AW hx).mono ?_;rintro e w1 ⟨rfl,hE1⟩
       go_wp2_with fail
       refine (AW (hy.ext hE1)).mono ?_;rintro e w2 ⟨rfl,hE2⟩
       go_wp2_with fail
       have hE:=hE1.trans hE2;refine (F5 (hx.ext hE) (hy.ext hE) ?_ ?_).mono ?_
       · intro i hi;have:=B3 p2 (i:=i) (by have:=HY.out; omega);have h1:=HY.out;have h2:=HL.out;omega
       · have:=(AF p2).1;have h1:=HY.out;omega
       rintro e w3 ⟨a3,n3,c3,rfl,hE3,hO3⟩;go_wp2
       go_ret2
       rw [HS.out];exact ⟨a3,n3,c3,rfl,hE.trans hE3,Own.mono hO3 hE.size⟩
     · have hne:((n:Int) != (m:Int))=true:=by simp; omega
       have HS:Hid (BC xs ys=([],4)):=by
        show BC xs ys=([],4);unfold BC;rw [if_pos ⟨p1,p2⟩,if_neg (by rw [HX.out,HY.out]; exact hl)]
       go_enter func13,ntmps13
       go_wp2_with fail
       refine (AW hx).mono ?_;rintro e w1 ⟨rfl,hE1⟩
       go_wp2_with fail
       refine (AW (hy.ext hE1)).mono ?_;rintro e w2 ⟨rfl,hE2⟩;go_wp2
       go_ret2
       rw [HS.out];exact ⟨none,0,0,rfl,hE1.trans hE2,Own.nil _ _ _⟩
   · have p2':Ar ys=false:=by simpa using p2
     have HS:Hid (BC xs ys=([],1)):=by
      show BC xs ys=([],1);unfold BC;rw [if_neg (fun h=>p2 h.2)]
     go_enter func13,ntmps13
     go_wp2_with fail
     refine (AW hx).mono ?_;rintro e w1 ⟨rfl,hE1⟩
     go_wp2_with fail
     refine (AW (hy.ext hE1)).mono ?_;rintro e w2 ⟨rfl,hE2⟩;go_wp2
     go_ret2
     rw [HS.out];exact ⟨none,0,0,rfl,hE1.trans hE2,Own.nil _ _ _⟩
 · have p1':Ar xs=false:=by simpa using p1
   have HS:Hid (BC xs ys=([],1)):=by
    show BC xs ys=([],1);unfold BC;rw [if_neg (fun h=>p1 h.1)]
   go_enter func13,ntmps13
   go_wp2_with fail
   refine (AW hx).mono ?_;rintro e w1 ⟨rfl,hE1⟩;go_wp2
   go_ret2
   rw [HS.out];exact ⟨none,0,0,rfl,hE1,Own.nil _ _ _⟩
def BU (xs:List Int):Nat→List Int
 | 0=>List.replicate xs.length 0
 | k+1=>(BU xs k).set (xs.getD k 0).toNat k
end Go.Proofs.YtlpgonpfjbhmfaaGreatDoor
namespace Go.Proofs.YtlpgonpfjbhmfaaGreatDoor
variable {x:Int} {a b c l xs:List Int} {k n:Nat}
def gen:Nat→List Int→List (List Int)
 | 0,_=>[[]]
 | k+1,pool=>pool.flatMap fun x=>(gen k (pool.erase x)).map (x :: ·)
theorem G1:∀ (k:Nat) (pool xs:List Int),xs.length=k→xs.Nodup→(∀ x∈xs,x∈pool)→xs∈gen k pool
 | 0,_,xs,hl,_,_=>by
  have:xs=[]:=List.eq_nil_of_length_eq_zero hl;simp [gen,this]
 | k+1,pool,[],hl,_,_=>by simp at hl
 | k+1,pool,x :: r,hl,hn,hs=>by
  rw [List.nodup_cons] at hn;simp only [gen,List.mem_flatMap,List.mem_map];refine ⟨x,hs x (by simp),r,G1 k (pool.erase x) r (by simpa using hl) hn.2 ?_,rfl⟩;intro y hy;have hne:y≠x:=by rintro rfl; exact hn.1 hy
  exact (List.mem_erase_of_ne hne).2 (hs y (by simp [hy]))
def pw (xs:List Int):Nat→List Int
 | 0=>idn xs.length
 | k+1=>comp xs (pw xs k)
def IZ (xs:List Int):Nat:=((List.range 6).find? (fun k=>pw xs (k+1) == idn xs.length)).elim 0 (·+1)
def Mp (xs:List Int):Bool :=
 comp xs (BU xs xs.length) == idn xs.length && (((List.range 6).find? (fun k=>pw xs (k+1) == idn xs.length)).isSome)
theorem VV:∀ n,n < 7→∀ xs∈gen n (idn n),Mp xs=true:=by decide +kernel
theorem G2 :x∈idn n↔0≤x∧x < n:=by
 simp only [idn,List.mem_map,List.mem_range];constructor
 · rintro ⟨k,hk,rfl⟩;simp; omega
 · rintro ⟨h0,h1⟩;exact ⟨x.toNat,by omega,by simp; omega⟩
theorem J5 (h:Ar xs=true):Mp xs=true:=by
 obtain ⟨h6,hr,hn⟩:=AF h;exact VV xs.length (by omega) xs (G1 _ _ _ rfl hn (fun x hx=>G2.2 (hr x hx)))
theorem FN (h:Ar xs=true):comp xs (BU xs xs.length)=idn xs.length:=by
 have:=J5 h;unfold Mp at this;rw [Bool.and_eq_true] at this;simpa using this.1
theorem Ss (h:Ar xs=true):1≤IZ xs∧IZ xs≤6∧pw xs (IZ xs)=idn xs.length∧∀ k,1≤k→k < IZ xs→pw xs k≠idn xs.length:=by
 have:=J5 h;unfold Mp at this;rw [Bool.and_eq_true] at this;obtain ⟨k,hk⟩:=Option.isSome_iff_exists.1 this.2;have e:IZ xs=k+1:=by unfold IZ; rw [hk]; rfl
 have h1:=List.mem_of_find?_eq_some hk;have h2:=List.find?_some hk;have h3:k < 6:=by simpa using h1
 refine ⟨by omega,by omega,by rw [e]; simpa using h2, ?_⟩;intro j hj1 hj2 hj;rw [List.find?_eq_some_iff_getElem] at hk;obtain ⟨_,i,hi,hik,hlt⟩:=hk;have hik':i=k:=by simpa using hik
 have:=hlt (j - 1) (by omega);simp only [List.getElem_range] at this;rw [show j - 1+1=j by omega,hj] at this;simp at this
theorem EY (l:List Int) (n:Nat):(Cg l (n+1)).Perm ((n:Int) :: Cg l n):=by
 simp only [Cg];have:=(List.perm_middle (a:=(n:Int)) (l₁:=(Cg l n).take (plc l n)) (l₂:=(Cg l n).drop (plc l n)));rw [List.take_append_drop] at this;simpa using this
theorem Ie (l:List Int):∀ (n:Nat) (x:Int),x∈Cg l n↔0≤x∧x < n
 | 0,x=>by simp [Cg]
 | n+1,x=>by
  rw [(EY l n).mem_iff,List.mem_cons,Ie l n];omega
theorem IC (l:List Int):∀ n,(Cg l n).Nodup
 | 0=>by simp [Cg]
 | n+1=>by
  rw [(EY l n).nodup_iff,List.nodup_cons];exact ⟨by rw [Ie]; omega,IC l n⟩
theorem OU (l:List Int) {n:Nat} (h:n≤6):Ar (Cg l n)=true:=by
 refine decide_eq_true ⟨by rw [Er]; exact h, ?_,IC l n⟩;intro x hx;rw [Er];exact (Ie l n x).1 hx
theorem Dm {f:Int→Int} (h:k < l.length):(l.map f).getD k 0=f (l.getD k 0):=by
 simp [h]
theorem C3 (h:∀ y∈c,0≤y∧y < b.length):comp (comp a b) c=comp a (comp b c):=by
 unfold comp;rw [List.map_map];apply List.map_congr_left;intro y hy;have:=h y hy;exact Dm (by omega)
theorem St (ha:Ar a=true) (hb:Ar b=true) (hl:a.length=b.length):∀ x∈comp a b,0≤x∧x < a.length:=by
 intro x hx;simp only [comp,List.mem_map] at hx;obtain ⟨y,hy,rfl⟩:=hx;have h1:=(AF hb).2.1 y hy;exact B3 ha (by omega)
theorem Ls (h:l.Nodup) {i j:Nat} (hi:i < l.length) (hj:j < l.length) (e:l[i]=l[j]):i=j:=by
 rcases Nat.lt_trichotomy i j with h1 | h1 | h1
 · exact absurd e (List.pairwise_iff_getElem.1 h i j hi hj h1)
 · exact h1
 · exact absurd e.symm (List.pairwise_iff_getElem.1 h j i hj hi h1)
theorem Es (ha:Ar a=true) (hb:Ar b=true) (hl:a.length=b.length):Ar (comp a b)=true:=by
 refine decide_eq_true ⟨by rw [B6,←hl]; exact (AF ha).1, ?_, ?_⟩
 · intro x hx;rw [B6,←hl];exact St ha hb hl x hx
 · have hna:=(AF ha).2.2;have hnb:=(AF hb).2.2;unfold comp;rw [List.Nodup,List.pairwise_map];refine List.Pairwise.imp_of_mem ?_ hnb;intro x y hx hy hne he;have h1:=(AF hb).2.1 x hx;have h2:=(AF hb).2.1 y hy;have e1:x.toNat < a.length:=by omega
   have e2:y.toNat < a.length:=by omega
   simp only [gqq,List.getElem?_eq_getElem e1,List.getElem?_eq_getElem e2,Option.getD_some] at he;have:=Ls hna e1 e2 he;omega
end Go.Proofs.YtlpgonpfjbhmfaaGreatDoor
namespace Go.Proofs.YtlpgonpfjbhmfaaGreatDoor
open Go Go.RowKit
variable {f:Act} {ops:Array Oper} {Q:Exit→Act→World→Prop} {v:Int} {a b l m xs:List Int} {rest:List Oper} {cs cur vs:List Value} {bytes g i j k n:Nat} {o:Oper} {d s x y:Operand} {A:Option Addr} {P:Program} {dT e sT t ty:TypeId} {z:Value} {w:World}
theorem G3 (h:k < n):(idn n).getD k 0=k:=by
 simp [idn,h]
theorem DQ (xs:List Int):comp xs (idn xs.length)=xs:=by
 apply List.ext_getElem
 · simp [comp,idn]
 · intro i h1 h2;simp [comp,idn,h2]
theorem OV (xs:List Int):∀ k,(pw xs k).length=xs.length
 | 0=>by simp [pw,idn]
 | k+1=>by simp [pw,B6,OV xs k]
theorem J6 (h:n≤6):Ar (idn n)=true:=by
 refine decide_eq_true ⟨by rw [Dw]; exact h, ?_, ?_⟩
 · intro x hx;rw [Dw];exact G2.1 hx
 · unfold idn;rw [List.Nodup,List.pairwise_map];refine List.Pairwise.imp ?_ List.nodup_range;intro a b hab h;exact hab (Int.ofNat.inj h)
theorem PR {xs:List Int} (h:Ar xs=true):∀ k,Ar (pw xs k)=true
 | 0=>J6 (AF h).1
 | k+1=>Es h (PR h k) (OV xs k).symm
theorem Vf:∀ n,n < 7→∀ xs∈gen n (idn n),Ar (BU xs xs.length)=true:=by decide +kernel
theorem G4 (h:Ar xs=true):xs.length < 7∧xs∈gen xs.length (idn xs.length):=by
 have hp:=AF h;exact ⟨by have:=hp.1; omega,G1 _ _ _ rfl hp.2.2 (fun x hx=>G2.2 (hp.2.1 x hx))⟩
theorem G5 (h:Ar xs=true):Ar (BU xs xs.length)=true :=
 Vf _ (G4 h).1 _ (G4 h).2
theorem Cc (xs:List Int):∀ k,(BU xs k).length=xs.length
 | 0=>by simp [BU]
 | k+1=>by simp [BU,Cc xs k]
theorem Ig (hi:i < l.length):(l.set i v).getD j 0=if i=j then v else l.getD j 0:=by
 simp only [gqq,List.getElem?_set];by_cases h:i=j
 · subst h;simp [hi]
 · simp [h]
def Ih (a m:List Int):Nat→List Int
 | 0=>List.replicate m.length 0
 | k+1=>(Ih a m k).set (a.getD k 0).toNat (m.getD k 0)
def mvd (a m:List Int):List Int:=Ih a m m.length
theorem Cp (a m:List Int):∀ k,(Ih a m k).length=m.length
 | 0=>by simp [Ih]
 | k+1=>by simp [Ih,Cp a m k]
theorem J7 (h:Ar a=true) {j:Nat} (hj:j < a.length):∃ i,i < a.length∧a.getD i 0=(j:Int):=by
 have hr:=FN h;have hji:j < (BU a a.length).length:=by rw [Cc]; exact hj
 have hb:=B3 (G5 h) hji;rw [Cc] at hb;refine ⟨((BU a a.length).getD j 0).toNat,by omega, ?_⟩;have:(comp a (BU a a.length)).getD j 0=(idn a.length).getD j 0:=by rw [hr]
 unfold comp at this;rw [Dm hji,G3 hj] at this;exact this
theorem Ny (h:Ar a=true) {i j:Nat} (hi:i < a.length) (hj:j < a.length) (e:a.getD i 0=a.getD j 0):i=j:=by
 refine Ls (AF h).2.2 hi hj ?_;simpa [hi,hj] using e
theorem PU {a m:List Int} (hp:Ar a=true) (hl:m.length=a.length):∀ k,k≤a.length→∀ i,i < k→(Ih a m k).getD (a.getD i 0).toNat 0=m.getD i 0
 | 0,_,i,hi=>by omega
 | k+1,hk,i,hi=>by
  have h0:=B3 hp (i:=k) (by omega);have h1:=B3 hp (i:=i) (by omega);show ((Ih a m k).set (a.getD k 0).toNat (m.getD k 0)).getD (a.getD i 0).toNat 0=_;rw [Ig (by rw [Cp]; omega)];by_cases hik:i=k
  · subst hik;rw [if_pos rfl]
  · rw [if_neg (fun e=>hik (Ny hp (by omega) (by omega) (by omega)))];exact PU hp hl k (by omega) i (by omega)
theorem Bg (a m:List Int):(mvd a m).length=m.length:=Cp a m _
theorem Fr (hp:Ar a=true) (hl:m.length=a.length) {i:Nat} (hi:i < a.length):(mvd a m).getD (a.getD i 0).toNat 0=m.getD i 0:=by
 unfold mvd;rw [hl];exact PU hp hl _ (lrf _) i hi
theorem Su {α:Type} {l m:List α} {d:α} (hp:Ar a=true) (hl:l.length=a.length) (hm:m.length=a.length) (h:∀ i,i < a.length→l.getD (a.getD i 0).toNat d=m.getD (a.getD i 0).toNat d):l=m:=by
 apply List.ext_getElem (by omega);intro j h1 h2;obtain ⟨i,hi,e⟩:=J7 hp (j:=j) (by omega);have:=h i hi;rw [e] at this;simpa [h1,h2] using this
theorem T4 (hi:i < b.length):(comp a b).getD i 0=a.getD (b.getD i 0).toNat 0:=by
 unfold comp;rw [Dm hi]
theorem PV (ha:Ar a=true) (hb:Ar b=true) (hl:a.length=b.length) (hm:m.length=b.length):mvd a (mvd b m)=mvd (comp a b) m:=by
 have hc:=Es ha hb hl;have hcl:(comp a b).length=b.length:=B6 a b;refine Su (d:=0) hc (by rw [Bg,Bg]; omega) (by rw [Bg]; omega) fun i hi => ?_;rw [hcl] at hi;have h1:=B3 hb hi;rw [Fr hc (by omega) (by omega),T4 hi,Fr ha (by rw [Bg]; omega) (by omega),Fr hb hm hi]
theorem PW (hp:Ar a=true) (hl:m.length=a.length) {x:Int} (hx:x∈mvd a m):x∈m:=by
 obtain ⟨j,hj,rfl⟩:=List.getElem_of_mem hx;rw [Bg] at hj;obtain ⟨i,hi,e⟩:=J7 hp (j:=j) (by omega);have h1:=Fr hp hl hi;rw [e] at h1;have h2:(mvd a m).getD j 0=(mvd a m)[j]:=by simp [Bg,hj]
 rw [←h2,show ((j:Int)).toNat=j from rfl] at *
 rw [h1,gqq,List.getElem?_eq_getElem (by omega)];exact List.getElem_mem _
theorem J8 (hp:Ar a=true):((List.range a.length).map fun i=>(a.getD i 0).toNat).Perm (List.range a.length):=by
 have hn:((List.range a.length).map fun i=>(a.getD i 0).toNat).Nodup:=by
  rw [List.nodup_iff_pairwise_ne,List.pairwise_map];refine List.Pairwise.imp_of_mem ?_ List.nodup_range;intro i j hi hj hne e;rw [List.mem_range] at hi hj;have h0:=B3 hp hi;have h1:=B3 hp hj;exact hne (Ny hp hi hj (by omega))
 refine (List.perm_ext_iff_of_nodup hn List.nodup_range).2 fun j => ?_;rw [List.mem_map,List.mem_range];constructor
 · rintro ⟨i,hi,rfl⟩;have:=B3 hp (List.mem_range.1 hi);omega
 · intro hj;obtain ⟨i,hi,e⟩:=J7 hp hj;exact ⟨i,List.mem_range.2 hi,by rw [e]; rfl⟩
theorem Nz (hp:Ar a=true) (hl:m.length=a.length):(mvd a m).Perm m:=by
 have h1:∀ l:List Int,(List.range l.length).map (fun i=>l.getD i 0)=l:=fun l=>by
  apply List.ext_getElem (by simp);intro j h1 h2;simp [h2]
 have h2:=(J8 hp).map (fun i=>(mvd a m).getD i 0);rw [List.map_map] at h2;have h3:(List.range a.length).map ((fun i=>(mvd a m).getD i 0) ∘ fun i=>(a.getD i 0).toNat)=m:=by
  have h5:=h1 m;rw [hl] at h5;refine Eq.trans (List.map_congr_left fun i hi => ?_) h5;show (mvd a m).getD (a.getD i 0).toNat 0=_;rw [Fr hp hl (List.mem_range.1 hi)]
 rw [h3] at h2;have h4:=h1 (mvd a m);rw [Bg,hl] at h4;rw [h4] at h2;exact h2.symm
theorem NA:∀ {l m:List Int},l.Perm m→l.sum=m.sum:=by
 intro l m h
 induction h with
 | nil=>rfl
 | cons x _ ih=>simp [ih]
 | swap x y l=>simp; omega
 | trans _ _ h1 h2=>exact h1.trans h2
def Ae (l:List Int):List Int:=l ++ List.replicate (6 - l.length) 0
theorem AQ (h:l.length≤6):(Ae l).length=6:=by simp [Ae]; omega
theorem J9 {k:List Int} (h:l.length=k.length) (e:Ae l=Ae k):l=k:=by
 have:=congrArg (List.take l.length) e;simpa [Ae,h] using this
theorem FO (l:List Int):(Ae l).take l.length=l:=by simp [Ae]
def As:List Value:=List.replicate 6 (.int .i64 0)
def Agg (P:Program) (ty:TypeId) (n:Nat):Prop :=
 (P.underlying ty).map (fun d=>match d with | .struct _ | .array _ _=>true | _=>false)=some true∧(P.info? ty).map (·.size)=some n
theorem Agg.parts (h:Agg P ty n) :
 ∃ d,P.underlying ty=some d∧(match d with | .struct _ | .array _ _=>true | _=>false)=true∧(P.info? ty).map (·.size)=some n:=by
 obtain ⟨h1,h2⟩:=h;cases hu:P.underlying ty with
 | none=>rw [hu] at h1; cases h1
 | some d =>
  rw [hu] at h1;exact ⟨d,rfl,by simpa using h1,h2⟩
theorem BJ (w:World) (g:Nat) (cs:Array Value):w.grownBy (w.setRow g cs) (some g):=by
 refine ⟨rfl,rfl,rfl,by simp [World.setRow],fun k _ hne => ?_⟩;simp only [World.setRow,Array.getElem?_modify];rw [if_neg (by rintro rfl; exact hne rfl)]
theorem C4 (h:Arr w g t cs) (vs:List Value):Arr (w.setRow g vs.toArray) g t vs:=by
 unfold Arr at h ⊢;simp [World.setRow,Array.getElem?_modify,h]
section
variable {P:Program} {w:World}
theorem NB (ha:Agg P ty cs.length) (h:Arr w g t cs) :
 (Instr.loadAt ty (.pointer (some ⟨g,0,none⟩))).run P w = .ok (.agg cs.toArray) w:=by
 obtain ⟨d,hu,hd,hi⟩:=ha.parts;have:=run_loadVar_row (P:=P) w g t ty cs.toArray (0,0) d h hu (by cases d <;> first | rfl | exact absurd hd (by simp)) (by simpa using hi);simp [Instr.loadAt,Instr.sureAddr,this]
theorem EM (ha:Agg P ty vs.length) (h:Arr w g t cs) (hl:cs.length=vs.length) (h1:∀ v∈vs,v.oneCell'=true) :
 (Instr.storeAt ty (.pointer (some ⟨g,0,none⟩)) (.agg vs.toArray)).run P w = .ok () (w.setRow g vs.toArray):=by
 obtain ⟨d,hu,hd,hi⟩:=ha.parts;have:=run_storeVar_row (P:=P) w g t ty cs.toArray vs.toArray h (by simpa using hi) (by simpa using hl) (by simpa using h1);simp [Instr.storeAt,Instr.sureAddr,this]
theorem A5 (hgd:o.guard=none) (ho:o.op = .load ty x)
 {g:Nat} {t:TypeId} {cs:List Value} (ha:Agg P ty cs.length) (hx:f.eval x = .pointer (some ⟨g,0,none⟩)) (h:Arr w g t cs)
 (hK:wpList P ops Q rest (f.put o.dst (.agg cs.toArray)) w):wpList P ops Q (o :: rest) f w:=by
 refine wpList_plain hgd fun K hK' => ?_;unfold Oper.wp execOp;simp only [ho,hx,Sem.run_bind,NB ha h,Result.andThen_ok,Sem.run_pure,Oper.upon];exact hK' _ _ hK
theorem Aa (hgd:o.guard=none) (ho:o.op = .store ty x y)
 {g:Nat} {t:TypeId} {cs vs:List Value} {va:Array Value} (hx:f.eval x = .pointer (some ⟨g,0,none⟩)) (hy:f.eval y = .agg va) (hva:va=vs.toArray) (ha:Agg P ty vs.length) (h:Arr w g t cs)
 (hl:cs.length=vs.length) (h1:∀ v∈vs,v.oneCell'=true)
 (hK:∀ w',Arr w' g t vs→w.grownBy w' (some g)→wpList P ops Q rest (f.put o.dst undef) w'):wpList P ops Q (o :: rest) f w:=by
 subst hva;refine wpList_plain hgd fun K hK' => ?_;unfold Oper.wp execOp;simp only [ho,hx,hy,Sem.run_bind,EM ha h hl h1,Result.andThen_ok,Sem.run_pure,Oper.upon];exact hK' _ _ (hK _ (C4 h vs) (BJ w g _))
theorem Ec {m:Nat} (ht:P.underlying t=some (.array m e)) (hinfo:Bh P e z bytes) (hk:k≤m) :
 (Instr.sliceAt t (.pointer (some ⟨g,0,none⟩)) none (some (.int .i64 k)) none).run P w = .ok (.slice (some ⟨g,0,none⟩) k m) w:=by
 obtain ⟨i,hi,hz,hsize,hby⟩:=info_parts hinfo;have e1:(if m=0 then (⟨g,0,none⟩:Addr) else (⟨g,0,none⟩:Addr).add 0)=⟨g,0,none⟩:=by
  split <;> rfl
 simp [Instr.sliceAt,Instr.sliceBounds,Instr.sliceBound,run_underlying ht,asIntOf,sizeOf,typeInfo,hi,hk,Instr.sureAddr,e1]
theorem Al {fn:Func} {p:Tmp} (hr:fn.results=#[.cell p ty]) {tmps:Array Value} {g:Nat} {t:TypeId} {cs:List Value} (ha:Agg P ty cs.length)
 (hp:tmps.getD p undef = .pointer (some ⟨g,0,none⟩)) (h:Arr w g t cs):(results fn tmps).run P w = .ok (.agg cs.toArray) w:=by
 obtain ⟨d,hu,hd,hi⟩:=ha.parts;exact results_cell_row hr tmps w g t cs.toArray (0,0) d hp h hu (by cases d <;> first | rfl | exact absurd hd (by simp)) (by simpa using hi)
theorem Vg {o dl dc m c:Nat} (ht:P.underlying dT=some (.slice e)) (hinfo:Bh P e z bytes)
 (h:Arr w g t cur) (hs:Sl w A m c cs) (hm:m≤dl) (hfit:o+m≤cur.length) (h1:∀ v∈cs,v.oneCell'=true) :
 ∃ w',(Builtin.copy_ #[dT,sT] ty #[.slice (some ⟨g,o,none⟩) dl dc, .slice A m c]).run P w = .ok (goInt m) w'∧Arr w' g t (cur.take o ++ cs ++ cur.drop (o+m))∧w.grownBy w' (some g):=by
 obtain ⟨i,hi,hz,hsize,hby⟩:=info_parts hinfo;have hsz:(P.info? e).map (·.size)=some 1:=by simp [hi,hsize]
 have hcl:=hs.len;by_cases h0:m=0
 · subst h0;have:cs=[]:=List.eq_nil_of_length_eq_zero hcl;subst this;refine ⟨w,run_copy_none w dT sT ty e _ _ dl dc 0 c ht hsz (by simp), ?_,⟨rfl,rfl,rfl,lrf _,fun _ _ _=>rfl⟩⟩;simpa using h
 · obtain ⟨b,off,ha,hc⟩:=hs.rd (by omega);subst ha;have hmin:m.min dl=m:=Nat.min_eq_left hm
   have:=run_copy_row (P:=P) w dT sT ty e g o dl dc ⟨b,off,none⟩ m c cur.toArray t cs ht hsz h (by rw [hmin]; exact hcl) (by
    intro j v hv;have hj:j < cs.length:=by
     rcases Nat.lt_or_ge j cs.length with h | h
     · exact h
     · simp [List.getElem?_eq_none h] at hv
    have h2:=hc j (by omega);rw [gqq,hv] at h2;rw [←Option.getD_some (a:=v) (b:=undef),←h2.symm.symm];unfold Addr.add
    by_cases h3:j=0 <;> simp [h3] at h2 ⊢ <;> exact h2) (by simp; omega) h1
   refine ⟨_, ?_,C4 h _,BJ w g _⟩;rw [this,hcl]
theorem Ka (hgd:o.guard=none)
 (ho:o.op = .call { callee := .builtin .copy,args:=#[d,s],argTypes:=#[dT,sT] })
 {e:TypeId} {z:Value} {bytes g p dl dc m c:Nat} {A:Option Addr} {t:TypeId} {cur cs:List Value} (ht:P.underlying dT=some (.slice e)) (hinfo:Bh P e z bytes)
 (hd:f.eval d = .slice (some ⟨g,p,none⟩) dl dc) (hsv:f.eval s = .slice A m c)
 (h:Arr w g t cur) (hs:Sl w A m c cs) (hm:m≤dl) (hfit:p+m≤cur.length) (h1:∀ v∈cs,v.oneCell'=true)
 (hK:∀ w',Arr w' g t (cur.take p ++ cs ++ cur.drop (p+m))→w.grownBy w' (some g)→wpList P ops Q rest (f.put o.dst (goInt m)) w'):wpList P ops Q (o :: rest) f w:=by
 refine wpList_plain hgd fun K hK' => ?_;obtain ⟨w',hrun,h2,h3⟩:=Vg (P:=P) (ty:=o.type) (sT:=sT) (dc:=dc) ht hinfo h hs hm hfit h1;unfold Oper.wp execOp;simp only [ho,resolve,invoke,builtin,Sem.run_bind,Sem.run_pure,Result.andThen_ok,List.map_toArray,List.map_cons,List.map_nil,hd,hsv,hrun,Oper.upon];exact hK' _ _ (hK w' h2 h3)
end
end Go.Proofs.YtlpgonpfjbhmfaaGreatDoor
