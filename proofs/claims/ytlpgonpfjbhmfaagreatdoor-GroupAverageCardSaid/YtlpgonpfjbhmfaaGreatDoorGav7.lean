/- Part Gav7. -/
import Derived.Test.YtlpgonpfjbhmfaaGreatDoorGav4
import Derived.Test.YtlpgonpfjbhmfaaGreatDoorGav6
import Derived.WalkKit
import Derived.Test.YtlpgonpfjbhmfaaGreatDoorGav3
import Derived.Shelf.Spec.BitsCarry
import Derived.Shelf.Bits.Mul64
import Derived.Shelf.Small.Bits
import Derived.Test.YtlpgonpfjbhmfaaGreatDoorProg
import Derived.Test.YtlpgonpfjbhmfaaGreatDoorGav2
import Derived.Deep.QuietTactic
import Derived.BigQuiet
set_option maxRecDepth 100000
set_option maxHeartbeats 100000000
namespace Go.Proofs.YtlpgonpfjbhmfaaGreatDoor
open Tryz Go Go.RowKit
variable {gs:List (List Int)} {m x xs y:List Int} {g:Nat} {a:Option Addr} {t:TypeId} {w:World}
theorem Oo:∀ (x y z:List Int),x.length=y.length→A0 (x ++ z) (y ++ z)=A0 x y
 | [],[],z,_=>by simp [C9,A0]
 | [],_ :: _,_,h=>by simp at h
 | _ :: _,[],_,h=>by simp at h
 | a :: x,b :: y,z,h=>by
  simp only [List.length_cons,Nat.add_right_cancel_iff] at h;simp only [List.cons_append,A0,Oo x y z h]
theorem Ru (h:x.length=y.length):A0 (Ae x) (Ae y)=A0 x y:=by
 unfold Ae;rw [h];exact Oo x y _ h
def BH (gs:List (List Int)) (m:List Int):Nat→List Int
 | 0=>m
 | k+1=>if A0 (mvd (gs.getD k []) m) (BH gs m k) < 0 then mvd (gs.getD k []) m else BH gs m k
def Bv (gs:List (List Int)) (m:List Int):List Int:=BH gs m gs.length
theorem DK (gs:List (List Int)) (m:List Int):∀ k,(BH gs m k).length=m.length
 | 0=>rfl
 | k+1=>by
  unfold BH;split
  · rw [mvd,Cp]
  · exact DK gs m k
theorem Gf :(Instr.sliceAt 70 (.pointer (some ⟨g,0,none⟩)) none none none).run prog w = .ok (.slice (some ⟨g,0,none⟩) 6 6) w:=by
 obtain ⟨i,hi,hz,hsize,hby⟩:=info_parts Bz;have ht:prog.underlying 70=some (.array 6 3):=Br.arr;simp [Instr.sliceAt,Instr.sliceBounds,run_underlying ht,sizeOf,typeInfo,hi,Instr.sureAddr,Addr.add]
theorem Arr.slI (h:Arr w g t (xs.map (Value.int .i64))) (h6:xs.length=6):SlI w (some ⟨g,0,none⟩) 6 6 xs:=by
 have:=h.sl (k:=6) (by simp [h6]) (by simp [h6,maxLen]);rw [List.length_map,h6,List.take_of_length_le (by simp [h6])] at this;exact this
theorem FD {q c n:Nat} (hx:SlL w a q c gs) (hp:B5 gs n) (hm:m.length=n) (hn6:n≤6) :
 Calls prog 74 #[.slice a q c,BD (Ae m)] w fun e w'=>e = .returned (BD (Ae (Bv gs m)))∧Ext w w':=by
 have HX:=Lib.hid hx.len;have hqq:=hx.le;have HM:=Lib.hid hm;have HP:=Lib.hid hp;have hm6:(Ae m).length=6:=AQ (by omega);have hAm:Agg prog 70 ((Ae m).map (Value.int .i64)).length:=by
  rw [List.length_map,hm6];exact CW
 have HZm:Hid (As.length=((Ae m).map (Value.int .i64)).length):=by
  show _=_;rw [List.length_map,hm6];rfl
 clear hm hp
 go_enter func74,ntmps74
 go_upto_region 1 with (fail)
 have hB:Arr ((w.alloc (.cells ((Ae m).map (Value.int .i64)).toArray 70)).alloc (.cells As.toArray 70)) w.heap.size 70 ((Ae m).map (Value.int .i64)):=(Arr.new w _ _).alloc _;have hR:Arr ((w.alloc (.cells ((Ae m).map (Value.int .i64)).toArray 70)).alloc (.cells As.toArray 70)) (w.heap.size+1) 70 As:=by
  have:=Arr.new (w.alloc (.cells ((Ae m).map (Value.int .i64)).toArray 70)) 70 As;simpa using this
 have hE:Ext w ((w.alloc (.cells ((Ae m).map (Value.int .i64)).toArray 70)).alloc (.cells As.toArray 70)):=((Ext.refl w).alloc _).alloc _;have hsz:((w.alloc (.cells ((Ae m).map (Value.int .i64)).toArray 70)).alloc (.cells As.toArray 70)).heap.size=w.heap.size+2:=by simp
 change Code.wp _ _ _ _ ((w.alloc (.cells ((Ae m).map (Value.int .i64)).toArray 70)).alloc (.cells As.toArray 70));generalize ((w.alloc (.cells ((Ae m).map (Value.int .i64)).toArray 70)).alloc (.cells As.toArray 70))=w0 at *
 have HSZ:=Lib.hid hsz;clear hsz;have hL0:Arr (w0.alloc (.cells As.toArray 70)) w0.heap.size 70 As:=Arr.new w0 _ _
 go_wp2_with (first
  | (refine A5 rfl rfl hAm rfl hB ?_)
  | (refine Aa rfl rfl rfl rfl rfl hAm hL0 HZm.out (A6 _) ?_; intro w1 hL1 hg1))
 have hE1:Ext w w1:=(hE.alloc _).grown hg1 (by intro k hk; simp at hk; have:=HSZ.out; omega);have hB1:=(hB.alloc (.cells As.toArray 70)).kept hg1 (by have:=HSZ.out; simp; omega);have hR1:=(hR.alloc (.cells As.toArray 70)).kept hg1 (by have:=HSZ.out; simp; omega);have hlB:w.heap.size < w0.heap.size:=by have:=HSZ.out; omega
 have hlR:w.heap.size+1 < w0.heap.size:=by have:=HSZ.out; omega
 generalize w0.heap.size=L0 at *
 clear hB hR hE hL0 hg1
 go_loopw [12] (fun i wr=>∃ k:Nat,k≤q∧i = .int .i64 k∧Ext w wr∧Arr wr w.heap.size 70 ((Ae m).map (Value.int .i64))∧Arr wr (w.heap.size+1) 70 As∧Arr wr L0 70 ((Ae (BH gs m k)).map (Value.int .i64))) (fun i _=>q - (intOf i).toNat)
 case atStart=>exact ⟨0,Nat.zero_le _,rfl,hE1,hB1,hR1,hL1⟩
 case round =>
  clear hB1 hR1 hL1 hE1;obtain ⟨k,hk,rfl,hE,hB,hR,hL⟩:=hrel;have hx:=hx.ext hE;have hr6:(Ae (BH gs m k)).length=6:=AQ (by rw [DK,HM.out]; exact hn6);have hAr:Agg prog 70 ((Ae (BH gs m k)).map (Value.int .i64)).length:=by
   rw [List.length_map,hr6];exact CW
  by_cases hlt:k < q
  · obtain ⟨b2,o2,a2,n2,c2,rfl,g2,s2⟩:=hx.at hlt;have hpk:=HP.out _ (Bs (l:=gs) (i:=k) (by rw [HX.out]; exact hlt));have hn2:n2=n:=by rw [←s2.len]; exact hpk.2
    subst hn2;have HS:Hid (BH gs m (k+1)=if A0 (Ae (mvd (gs.getD k []) m)) (Ae (BH gs m k)) < 0 then mvd (gs.getD k []) m else BH gs m k):=by
     show _=_;rw [Ru (by rw [mvd,Cp,DK])];rfl
    have hv6:(Ae (mvd (gs.getD k []) m)).length=6:=AQ (by rw [mvd,Cp,HM.out]; exact hn6);have hAv:Agg prog 70 ((Ae (mvd (gs.getD k []) m)).map (Value.int .i64)).length:=by
     rw [List.length_map,hv6];exact CW
    have HZv:Hid (As.length=((Ae (mvd (gs.getD k []) m)).map (Value.int .i64)).length):=by
     show _=_;rw [List.length_map,hv6];rfl
    have HZr:Hid (((Ae (BH gs m k)).map (Value.int .i64)).length=((Ae (mvd (gs.getD k []) m)).map (Value.int .i64)).length):=by
     show _=_;rw [List.length_map,List.length_map,hv6,hr6]
    have hmv:=fun (wx:World) (e:Ext wr wx)=>Gx (w:=wx) (s2.ext e) hpk.1 HM.out;generalize mvd (gs.getD k []) m=mv at *
    go_wp2_with (first
     | (refine A5 rfl rfl hAm rfl hB ?_)
     | fail)
    refine (hmv wr (Ext.refl wr)).mono ?_;rintro e w2 ⟨rfl,hE2⟩;have hB2:=hB.ext hE2;have hR2:=hR.ext hE2;have hL2:=hL.ext hE2;have hEw2:=hE.trans hE2;have hN2:Arr (w2.alloc (.cells As.toArray 70)) w2.heap.size 70 As:=Arr.new w2 _ _;have hlt2:=hL2.lt;clear hB hR hL hE2
    go_wp2_with (first
     | (refine Aa rfl rfl rfl rfl rfl hAv hN2 HZv.out (A6 _) ?_; intro w3 hN3 hg3))
    have hE3:Ext w w3:=(hEw2.alloc _).grown hg3 (by intro k hk; simp at hk; have:=hEw2.size; omega);have hB3:=(hB2.alloc (.cells As.toArray 70)).kept hg3 (by simp; omega);have hR3:=(hR2.alloc (.cells As.toArray 70)).kept hg3 (by simp; omega);have hL3:=(hL2.alloc (.cells As.toArray 70)).kept hg3 (by simp; omega);clear hN2 hg3 hB2 hR2 hL2;generalize w2.heap.size=N0 at *
    have sN:=hN3.slI hv6;have sL:=hL3.slI hr6;have hs1:=fun (wx:World)=>Gf (w:=wx) (g:=N0);have hs2:=fun (wx:World)=>Gf (w:=wx) (g:=L0);obtain ⟨cv,hcv⟩:∃ cv,A0 (Ae mv) (Ae (BH gs m k))=cv:=⟨_,rfl⟩;have hcmp:=fun (wx:World) (e:Ext w3 wx)=>Cr (w:=wx) (sN.ext e) (sL.ext e);rw [hcv] at hcmp;have HS2:Hid (BH gs m (k+1)=if cv < 0 then mv else BH gs m k):=by
     show _=_;rw [HS.out,hcv]
    clear hcv HS
    go_wp2_with fail
    go_quiet ((go_at_call 78; exact Calls.quiet_of (hcmp _ ((Ext.refl _).drewN _))))
    by_cases hc:cv < 0
    · have HS3:Hid (BH gs m (k+1)=mv):=by
       show _=_;rw [HS2.out,if_pos hc]
      go_wp2_with (first
       | (refine A5 rfl rfl hAv rfl (hN3.drewN _) ?_)
       | (refine Aa rfl rfl rfl rfl rfl hAv (hL3.drewN _) HZr.out (A6 _) ?_; intro w4 hL4 hg4))
      go_roundw
      case rel =>
       refine ⟨k+1,by omega,by go_num,(hE3.drewN _).grown hg4 ?_,(hB3.drewN _).kept hg4 ?_,(hR3.drewN _).kept hg4 ?_, ?_⟩
       · intro k hk; simp at hk; omega
       · simp; omega
       · simp; omega
       · rw [HS3.out]; exact hL4
      case measure=>simp [intOf]; omega
    · have HS3:Hid (BH gs m (k+1)=BH gs m k):=by
       show _=_;rw [HS2.out,if_neg hc]
      go_wp2;go_roundw
      case rel=>exact ⟨k+1,by omega,by go_num,hE3.drewN _,hB3.drewN _,hR3.drewN _,by rw [HS3.out]; exact hL3.drewN _⟩
      case measure=>simp [intOf]; omega
  · have e:k=q:=by omega
    have HZ6:Hid (As.length=((Ae (BH gs m k)).map (Value.int .i64)).length):=by
     show _=_;rw [List.length_map,hr6];rfl
    have HF:Hid (Ae (Bv gs m)=Ae (BH gs m k)):=by
     show _=_;unfold Bv;rw [HX.out,e]
    clear e
    go_wp2_with (first
     | (refine A5 rfl rfl hAr rfl hL ?_)
     | (refine Aa rfl rfl rfl rfl rfl hAr hR HZ6.out (A6 _) ?_; intro w2 hB2 hg2))
    rw [HF.out];refine bodyPost_ret (v:=BD (Ae (BH gs m k))) ?_ rfl ⟨rfl,hE.grown hg2 ?_⟩
    · exact Al rfl hAr rfl hB2
    · intro k hk;simp at hk;omega
end Go.Proofs.YtlpgonpfjbhmfaaGreatDoor
namespace Go.Proofs.YtlpgonpfjbhmfaaGreatDoor.W
variable {A Bb P a f u1 u2 v1 v2 α β:Int} {l xs ys:List Nat} {B D U V W b c c' d2 g i k lo lo' q r s u w3 x y0 y1:Nat}
def val (B:Nat):List Nat→Nat
 | []=>0
 | x :: r=>x+B*val B r
def bnd (B:Nat) (xs:List Nat):Prop:=∀ x∈xs,x < B
def nrm (xs:List Nat):Prop:=∀ h:xs≠[],xs.getLast h≠0
theorem val_app (B:Nat):∀ xs ys:List Nat,val B (xs ++ ys)=val B xs+B^xs.length*val B ys
 | [],ys=>by simp [val]
 | x :: xs,ys=>by
  simp only [List.cons_append,val,val_app B xs ys,List.length_cons,Nat.pow_succ]
  grind
theorem val_snoc (B:Nat) (xs:List Nat) (x:Nat):val B (xs ++ [x])=val B xs+B^xs.length*x:=by
 rw [val_app]; simp [val]
theorem val_zeros (B:Nat):∀ n,val B (List.replicate n 0)=0
 | 0=>rfl
 | n+1=>by simp [List.replicate_succ,val,val_zeros B n]
theorem val_lt {B:Nat}:∀ {xs:List Nat},bnd B xs→val B xs < B^xs.length
 | [],_=>by simp [val]
 | x :: xs,h=>by
  have h1:x < B:=h x (by simp);have h2:=val_lt (xs:=xs) (fun y hy=>h y (by simp [hy]));simp only [val,List.length_cons,Nat.pow_succ];have:B*(val B xs+1)≤B*B^xs.length:=Nat.mul_le_mul_left _ h2
  grind
theorem val_set {B:Nat}:∀ {xs:List Nat} {i:Nat} {v:Nat},i < xs.length→val B (xs.set i v)+B^i*xs.getD i 0=val B xs+B^i*v
 | [],_,_,h=>by simp at h
 | x :: xs,0,v,_=>by simp [val]; omega
 | x :: xs,i+1,v,h=>by
  have:=val_set (B:=B) (xs:=xs) (i:=i) (v:=v) (by simpa using h);simp only [List.set_cons_succ,val,List.getD_cons_succ,Nat.pow_succ]
  grind
theorem bnd_set (h:bnd B xs) {i v:Nat} (hv:v < B):bnd B (xs.set i v):=by
 intro x hx;rcases List.mem_or_eq_of_mem_set hx with h1 | h1
 · exact h x h1
 · rw [h1]; exact hv
theorem bnd_at (h:bnd B xs) {i:Nat} (hi:i < xs.length):xs.getD i 0 < B:=by
 rw [gqq,List.getElem?_eq_getElem hi];exact h _ (List.getElem_mem hi)
theorem bnd_app (h:bnd B xs) (k:bnd B ys):bnd B (xs ++ ys):=by
 intro x hx;rcases List.mem_append.1 hx with h1 | h1
 · exact h x h1
 · exact k x h1
theorem bnd_take (h:bnd B xs) (n:Nat):bnd B (xs.take n):=fun x hx=>h x (List.mem_of_mem_take hx)
theorem bnd_drop (h:bnd B xs) (n:Nat):bnd B (xs.drop n):=fun x hx=>h x (List.mem_of_mem_drop hx)
theorem val_take_succ (hi:i < xs.length):val B (xs.take (i+1))=val B (xs.take i)+B^i*xs.getD i 0:=by
 rw [List.take_succ_eq_append_getElem hi,val_snoc,List.length_take,Nat.min_eq_left (by omega),gqq,List.getElem?_eq_getElem hi];rfl
theorem val_split (xs:List Nat) (n:Nat) (h:n≤xs.length):val B xs=val B (xs.take n)+B^n*val B (xs.drop n):=by
 conv=>lhs; rw [←List.take_append_drop n xs]
 rw [val_app,List.length_take,Nat.min_eq_left h]
def trimTo (xs:List Nat):Nat→List Nat
 | 0=>[]
 | n+1=>if xs.getD n 0=0 then trimTo xs n else xs.take (n+1)
def trim (xs:List Nat):List Nat:=trimTo xs xs.length
theorem KN {B:Nat} {xs:List Nat}:∀ {n:Nat},n≤xs.length→val B (trimTo xs n)=val B (xs.take n)
 | 0,_=>by simp [trimTo,val]
 | n+1,h=>by
  unfold trimTo;split
  · rename_i h0;rw [KN (by omega),val_take_succ (by omega),h0];simp
  · rfl
theorem trim_val (xs:List Nat):val B (trim xs)=val B xs:=by
 rw [trim,KN (lrf _),List.take_length]
theorem KO {xs:List Nat}:∀ {n:Nat},n≤xs.length→nrm (trimTo xs n)
 | 0,_=>by intro h; simp [trimTo] at h
 | n+1,h=>by
  unfold trimTo;split
  · exact KO (by omega)
  · rename_i h0;intro hne;rw [List.getLast_eq_getElem];have hl:(xs.take (n+1)).length=n+1:=by rw [List.length_take]; omega
    simp only [hl,Nat.add_sub_cancel,List.getElem_take];simpa [List.getElem?_eq_getElem (show n < xs.length by omega)] using h0
theorem trim_nrm (xs:List Nat):nrm (trim xs):=KO (lrf _)
theorem trimTo_prefix {xs:List Nat}:∀ {n:Nat},n≤xs.length→∃ k,k≤n∧trimTo xs n=xs.take k
 | 0,_=>⟨0,lrf _,by simp [trimTo]⟩
 | n+1,h=>by
  unfold trimTo;split
  · obtain ⟨k,h1,h2⟩:=trimTo_prefix (xs:=xs) (n:=n) (by omega);exact ⟨k,by omega,h2⟩
  · exact ⟨n+1,lrf _,rfl⟩
theorem bnd_trim (h:bnd B xs):bnd B (trim xs):=by
 obtain ⟨k,_,e⟩:=trimTo_prefix (xs:=xs) (n:=xs.length) (lrf _);rw [trim,e];exact bnd_take h k
theorem nrm_pos (_hB:0 < B) {xs:List Nat} (h:nrm xs) (hne:xs≠[]):B^(xs.length - 1)≤val B xs:=by
 have e:xs=xs.dropLast ++ [xs.getLast hne]:=(List.dropLast_concat_getLast hne).symm;have hl:=h hne;have h1:val B xs=val B xs.dropLast+B^(xs.length - 1)*xs.getLast hne:=by
  conv=>lhs; rw [e]
  rw [val_snoc,List.length_dropLast]
 have:B^(xs.length - 1)*1≤B^(xs.length - 1)*xs.getLast hne:=Nat.mul_le_mul_left _ (by omega);omega
theorem nrm_zero (hB:0 < B) {xs:List Nat} (h:nrm xs):val B xs=0↔xs=[]:=by
 constructor
 · intro h0;refine Classical.byContradiction fun hne => ?_;have:=nrm_pos hB h hne;have:=Nat.pow_pos (n:=xs.length - 1) hB;omega
 · rintro rfl; rfl
theorem len_lt (hB:1 < B) {xs ys:List Nat} (hx:bnd B xs) (hy:nrm ys) (h:xs.length < ys.length):val B xs < val B ys:=by
 have h1:=val_lt hx;have hne:ys≠[]:=by intro e; rw [e] at h; simp at h
 have h2:=nrm_pos (B:=B) (by omega) hy hne;have h3:B^xs.length≤B^(ys.length - 1):=Nat.pow_le_pow_right (by omega) (by omega);omega
theorem nrm_len (hB:1 < B) {xs:List Nat} (h:nrm xs) {n:Nat} (hv:val B xs < B^n):xs.length≤n:=by
 rcases Nat.lt_or_ge n xs.length with h1 | h1
 · have hne:xs≠[]:=by intro e; rw [e] at h1; simp at h1
   have h2:=nrm_pos (B:=B) (by omega) h hne;have h3:B^n≤B^(xs.length - 1):=Nat.pow_le_pow_right (by omega) (by omega);omega
 · exact h1
theorem nrm_nil:nrm []:=fun h=>absurd rfl h
theorem nrm_single (h:x≠0):nrm [x]:=fun _=>h
section
variable {B:Nat}
theorem add_step (hk:k < l.length) (hy:k < ys.length) (h:val B l+c*B^k=V+val B (ys.take k)) (e:s+B*c'=l.getD k 0+ys.getD k 0+c) :
 val B (l.set k s)+c'*B^(k+1)=V+val B (ys.take (k+1)):=by
 have h1:=val_set (B:=B) (xs:=l) (i:=k) (v:=s) hk;have h2:=val_take_succ (B:=B) hy;rw [h2,Nat.pow_succ];generalize l.getD k 0=x at *
 generalize ys.getD k 0=y at *
 generalize val B (l.set k s)=a at *
 generalize val B l=b at *
 generalize val B (ys.take k)=d at *
 generalize B^k=p at *
 grind
theorem add_step0 (hk:k < l.length) (h:val B l+c*B^k=V) (e:s+B*c'=l.getD k 0+c) :
 val B (l.set k s)+c'*B^(k+1)=V:=by
 have h1:=val_set (B:=B) (xs:=l) (i:=k) (v:=s) hk;rw [Nat.pow_succ];generalize l.getD k 0=x at *
 generalize val B (l.set k s)=a at *
 generalize val B l=b at *
 generalize B^k=p at *
 grind
theorem sub_step (hk:k < l.length) (hy:k < ys.length) (h:val B l+val B (ys.take k)=V+c*B^k) (e:s+ys.getD k 0+c=l.getD k 0+B*c') :
 val B (l.set k s)+val B (ys.take (k+1))=V+c'*B^(k+1):=by
 have h1:=val_set (B:=B) (xs:=l) (i:=k) (v:=s) hk;have h2:=val_take_succ (B:=B) hy;rw [h2,Nat.pow_succ];generalize l.getD k 0=x at *
 generalize ys.getD k 0=y at *
 generalize val B (l.set k s)=a at *
 generalize val B l=b at *
 generalize val B (ys.take k)=d at *
 generalize B^k=p at *
 grind
theorem sub_step0 (hk:k < l.length) (h:val B l=V+c*B^k) (e:s+c=l.getD k 0+B*c') :
 val B (l.set k s)=V+c'*B^(k+1):=by
 have h1:=val_set (B:=B) (xs:=l) (i:=k) (v:=s) hk;rw [Nat.pow_succ];generalize l.getD k 0=x at *
 generalize val B (l.set k s)=a at *
 generalize val B l=b at *
 generalize B^k=p at *
 grind
theorem digit_hi {P:Nat} (hW:W=w3*P+lo) (hlo:lo < P) (hD:D=d2*P+lo') (hq:q*D≤W):q*d2≤w3:=by
 rcases Nat.lt_or_ge w3 (q*d2) with h | h
 · exfalso;have h1:(w3+1)*P≤q*d2*P:=Nat.mul_le_mul_right _ h;have h2:q*(d2*P)≤q*D:=Nat.mul_le_mul_left _ (by omega);have h3:q*(d2*P)=q*d2*P:=by rw [Nat.mul_assoc]
   have h4:(w3+1)*P=w3*P+P:=by rw [Nat.add_mul]; omega
   omega
 · exact h
theorem digit_lo {e P:Nat} (_hP:0 < P) (hW:W=w3*P+lo) (hD:D=d2*P+lo') (hlo:lo' < P) (hq:W < (q+1)*D) (he:e*d2≤w3) (hd:q+1≤d2):e≤q+1:=by
 rcases Nat.lt_or_ge (q+1) e with h | h
 · exfalso;have h1:(q+2)*d2≤e*d2:=Nat.mul_le_mul_right _ h;have h2:(q+2)*d2*P≤w3*P:=Nat.mul_le_mul_right _ (by omega);have h3:(q+1)*D≤(q+1)*(d2*P+P):=Nat.mul_le_mul_left _ (by omega);have h4:(q+1)*(d2*P+P)=(q+1)*d2*P+(q+1)*P:=by grind
   have h5:(q+2)*d2*P=(q+1)*d2*P+d2*P:=by grind
   have h6:(q+1)*P≤d2*P:=Nat.mul_le_mul_right _ hd;omega
 · exact h
end
structure Leh (a b A Bb P α β:Int) (f g u1 u2 v1 v2 s:Int):Prop where
 ha:a=A*P+α
 hb:b=Bb*P+β
 a0:0≤α
 a1:α < P
 b0:0≤β
 b1:β < P
 sg:s=1∨s = -1
 f0:0≤f
 g0:0≤g
 gf:g≤f
 ef:f=s*(u1*A - v1*Bb)
 eg:g = -(s*(u2*A - v2*Bb))
 sv:v2*f+v1*g=A
 su:u2*f+u1*g=Bb
 u1n:0≤u1
 u2n:0≤u2
 v1n:0≤v1
 v2p:1≤v2
 uv:u2≤v2
 vv:v1≤v2
theorem Leh.start {b:Int} (ha:a=A*P+α) (hb:b=Bb*P+β) (a0:0≤α) (a1:α < P) (b0:0≤β) (b1:β < P) (hA:0≤Bb) (hAB:Bb≤A):Leh a b A Bb P α β A Bb 1 0 0 1 1 :=
 ⟨ha,hb,a0,a1,b0,b1,Or.inl rfl,by omega,hA,hAB,by simp,by simp,by simp,by simp,by omega,by omega,by omega,by omega,by omega,by omega⟩
theorem Leh.sec {b g s:Int} (h:Leh a b A Bb P α β f g u1 u2 v1 v2 s) (hc:v2≤g):0 ≤ -(s*(u2*a - v2*b)):=by
 obtain ⟨ha,hb,a0,a1,b0,b1,sg,_,_,_,_,eg,_,_,_,u2n,_,v2p,uv,_⟩:=h;have e : -(s*(u2*a - v2*b))=g*P - s*(u2*α - v2*β):=by rw [ha,hb,eg]; grind
 have k1:u2*α≤v2*(P - 1):=Int.le_trans (Int.mul_le_mul_of_nonneg_right uv a0) (Int.mul_le_mul_of_nonneg_left (by omega) (by omega));have k2:v2*β≤v2*(P - 1):=Int.mul_le_mul_of_nonneg_left (by omega) (by omega);have k3:0≤u2*α:=Int.mul_nonneg u2n a0;have k4:0≤v2*β:=Int.mul_nonneg (by omega) b0;have k5:v2*P≤g*P:=Int.mul_le_mul_of_nonneg_right hc (by omega);have k6:v2*(P - 1)=v2*P - v2:=by grind
 rw [e];generalize u2 * α=x at *
 generalize v2 * β=y at *
 generalize v2 * P=z at *
 generalize g * P=t at *
 rcases sg with rfl | rfl <;> omega
theorem Leh.gap {b g s:Int} (h:Leh a b A Bb P α β f g u1 u2 v1 v2 s) (hc:v1+v2≤f - g) (hu:u1≤v1∨(u1=1∧v1=0∧u2=0∧s=1)) : -(s*(u2*a - v2*b)) < s*(u1*a - v1*b):=by
 obtain ⟨ha,hb,a0,a1,b0,b1,sg,_,_,_,ef,eg,_,_,u1n,u2n,v1n,v2p,uv,vv⟩:=h;have e1 : -(s*(u2*a - v2*b))=g*P - s*(u2*α - v2*β):=by rw [ha,hb,eg]; grind
 have e2:s*(u1*a - v1*b)=f*P+s*(u1*α - v1*β):=by rw [ha,hb,ef]; grind
 have k5:(v1+v2)*P≤(f - g)*P:=Int.mul_le_mul_of_nonneg_right hc (by omega);have k6:(v1+v2)*P=v1*P+v2*P:=by grind
 have k7:(f - g)*P=f*P - g*P:=by grind
 have m1:0≤u2*α:=Int.mul_nonneg u2n a0;have m2:0≤v2*β:=Int.mul_nonneg (by omega) b0;have m3:0≤u1*α:=Int.mul_nonneg u1n a0;have m4:0≤v1*β:=Int.mul_nonneg v1n b0;have n1:v2*β≤v2*(P - 1):=Int.mul_le_mul_of_nonneg_left (by omega) (by omega);have n2:v1*β≤v1*(P - 1):=Int.mul_le_mul_of_nonneg_left (by omega) (by omega);have n3:u2*α≤v2*(P - 1):=Int.le_trans (Int.mul_le_mul_of_nonneg_right uv a0) (Int.mul_le_mul_of_nonneg_left (by omega) (by omega));have w1:v2*(P - 1)=v2*P - v2:=by grind
 have w2:v1*(P - 1)=v1*P - v1:=by grind
 rw [e1,e2];rcases hu with hu | ⟨rfl,rfl,rfl,rfl⟩
 · have n4:u1*α≤v1*(P - 1):=Int.le_trans (Int.mul_le_mul_of_nonneg_right hu a0) (Int.mul_le_mul_of_nonneg_left (by omega) (by omega));generalize u2 * α=x at *
   generalize v2 * β=y at *
   generalize u1 * α=x1 at *
   generalize v1 * β=y1 at *
   generalize v2 * P=z at *
   generalize v1 * P=z1 at *
   generalize g * P=t at *
   generalize f * P=t1 at *
   rcases sg with rfl | rfl <;> omega
 · simp at *
   generalize v2 * β=y at *
   generalize v2 * P=z at *
   generalize g * P=t at *
   generalize f * P=t1 at *
   omega
theorem Leh.step {b g s q r:Int} (h:Leh a b A Bb P α β f g u1 u2 v1 v2 s) (hq:f=q*g+r) (r0:0≤r) (rg:r < g) (q1:1≤q) (hu:u1≤v1∨(u1=1∧v1=0∧u2=0∧s=1)):Leh a b A Bb P α β g r u2 (u1+q*u2) v2 (v1+q*v2) (-s):=by
 obtain ⟨ha,hb,a0,a1,b0,b1,sg,f0,g0,gf,ef,eg,sv,su,u1n,u2n,v1n,v2p,uv,vv⟩:=h;have k1:0≤q*u2:=Int.mul_nonneg (by omega) u2n;have k2:v2≤q*v2:=by
  have:=Int.mul_le_mul_of_nonneg_right q1 (show 0≤v2 by omega);omega
 have k3:q*u2≤q*v2:=Int.mul_le_mul_of_nonneg_left uv (by omega);refine ⟨ha,hb,a0,a1,b0,b1,by rcases sg with rfl | rfl <;> simp,g0,r0,by omega,by rw [eg]; grind, ?_, ?_, ?_,u2n,by omega,by omega,by omega, ?_,by omega⟩
 · have:r=f - q*g:=by omega
   rw [this,ef,eg]; grind
 · have:r=f - q*g:=by omega
   rw [this,←sv]; grind
 · have:r=f - q*g:=by omega
   rw [this,←su]; grind
 · rcases hu with hu | ⟨rfl,rfl,rfl,_⟩
   · omega
   · simp; omega
theorem guess_le (h1:b≤2*y1) (h0:y0 < b) (hU:U < y1*b+y0):U / y1≤b+1:=by
 rcases Nat.lt_or_ge (b+1) (U / y1) with h | h
 · exfalso;have h2:(b+2)*y1≤U / y1*y1:=Nat.mul_le_mul_right _ h;have h3:U / y1*y1≤U:=Nat.div_mul_le_self _ _;have h4:(b+2)*y1=y1*b+2*y1:=by grind
   omega
 · exact h
theorem guess_hi (hg:g*y1+r=U) (hq:q*(y1*b+y0)≤U*b+u) (hu:u < b) (hr:r < y1):q≤g:=by
 rcases Nat.lt_or_ge g q with h | h
 · exfalso;have h1:(g+1)*(y1*b+y0)≤q*(y1*b+y0):=Nat.mul_le_mul_right _ h;have h2:(g+1)*(y1*b+y0)=g*y1*b+y1*b+(g+1)*y0:=by grind
   have h3:U*b=g*y1*b+r*b:=by rw [←hg]; grind
   have h4:(r+1)*b≤y1*b:=Nat.mul_le_mul_right _ hr;have h5:(r+1)*b=r*b+b:=by grind
   omega
 · exact h
theorem guess_down (hg:g*y1+r=U) (hq:q*(y1*b+y0)≤U*b+u) (hqb:q < b) (hc:b≤g∨b*r+u < g*y0):q < g:=by
 rcases hc with hc | hc
 · omega
 · rcases Nat.lt_or_ge q g with h | h
   · exact h
   · exfalso;have h1:g*(y1*b+y0)≤q*(y1*b+y0):=Nat.mul_le_mul_right _ h;have h2:g*(y1*b+y0)=g*y1*b+g*y0:=by grind
     have h3:U*b=g*y1*b+r*b:=by rw [←hg]; grind
     have h4:b*r=r*b:=Nat.mul_comm _ _;omega
theorem guess_done (hg:g*y1+r=U) (hq2:U*b+u < (q+1)*(y1*b+y0)) (hc:g*y0≤b*r+u):g≤q:=by
 rcases Nat.lt_or_ge q g with h | h
 · exfalso;have h1:(q+1)*(y1*b+y0)≤g*(y1*b+y0):=Nat.mul_le_mul_right _ h;have h2:g*(y1*b+y0)=g*y1*b+g*y0:=by grind
   have h3:U*b=g*y1*b+r*b:=by rw [←hg]; grind
   have h4:b*r=r*b:=Nat.mul_comm _ _;omega
 · exact h
theorem guess_over (hr:b≤r) (hg:g≤b) (h0:y0 < b):g*y0≤b*r+u:=by
 have h1:g*y0≤b*y0:=Nat.mul_le_mul_right _ hg;have h2:b*y0≤b*r:=Nat.mul_le_mul_left _ (by omega);omega
theorem digit_lt {y:Nat} (hU:U < y) (hu:u < b) (hq:q*y≤U*b+u):q < b:=by
 rcases Nat.lt_or_ge q b with h | h
 · exact h
 · exfalso;have h1:b*y≤q*y:=Nat.mul_le_mul_right _ h;have h2:(U+1)*b≤y*b:=Nat.mul_le_mul_right _ hU;have h3:(U+1)*b=U*b+b:=by grind
   have h4:b*y=y*b:=Nat.mul_comm _ _;omega
end Go.Proofs.YtlpgonpfjbhmfaaGreatDoor.W
namespace Go.Proofs.YtlpgonpfjbhmfaaGreatDoor
open Go Go.RowKit
variable {cs:List Value} {base g n:Nat} {row:Option Nat} {e:TypeId} {a b c w w' w0 w1:World}
def BO (k:IntKind) (x:Nat):Value := .int k (x:Int)
def SlN (k:IntKind) (w:World) (a:Option Addr) (n c:Nat) (xs:List Nat):Prop:=Sl w a n c (xs.map (BO k))
def BT (k:IntKind) (w:World) (g:Nat) (t:TypeId) (xs:List Nat):Prop:=Arr w g t (xs.map (BO k))
section
variable {k:IntKind} {w w':World} {a:Option Addr} {n c:Nat} {xs:List Nat}
theorem SlN.ext (h:SlN k w a n c xs) (e:Ext w w'):SlN k w' a n c xs:=Sl.ext h e
theorem SlN.len (h:SlN k w a n c xs):xs.length=n:=by have:=Sl.len h; simpa using this
theorem SlN.le (h:SlN k w a n c xs):n≤9223372036854775807:=by
 have h1:=Sl.cap h; have h2:=Sl.max h; unfold maxLen at h2; omega
theorem SlN.cap (h:SlN k w a n c xs):n≤c:=Sl.cap h
theorem SlN.nil (k:IntKind) (w:World):SlN k w none 0 0 []:=Sl.nil w
theorem SlN.at (h:SlN k w a n c xs) {j:Nat} (hj:j < n) :
 ∃ b off,a=some ⟨b,off,none⟩∧∀ i,i < n→w.cell? ⟨b,off+i,none⟩=some (.int k ((xs.getD i 0:Nat):Int)):=by
 obtain ⟨b,off,ha,hc⟩:=Sl.rd h (by omega);refine ⟨b,off,ha,fun i hi => ?_⟩;rw [hc i hi];have hl:=h.len;have hi':i < xs.length:=by omega
 simp [hi',BO]
theorem SlN.upto (h:SlN k w a n c xs) {m:Nat} (hm:m≤n):SlN k w a m c (xs.take m):=by
 have:=Sl.upto h hm
 rwa [←List.map_take] at this
theorem Sl.keptR (h:Sl w a n c cs) (hg:w.grownBy w' row) (hne:blk a=none∨blk a≠row):Sl w' a n c cs:=by
 refine ⟨h.len,h.cap,h.max,fun h0 => ?_⟩;obtain ⟨b,off,rfl,hc⟩:=h.rd h0;refine ⟨b,off,rfl,fun i hi => ?_⟩;have h1:=hc i hi;have hb:b < w.heap.size:=World.block_lt_of_cell? w ⟨b,off+i,none⟩ h1;rcases hne with hne | hne
 · simp [blk] at hne
 · rw [World.cell?_of_block (w:=w) (hg.block b hb hne),h1]
theorem SlN.kept (h:SlN k w a n c xs) (hg:w.grownBy w' row) (hne:blk a=none∨blk a≠row):SlN k w' a n c xs:=Sl.keptR h hg hne
theorem SlN.fresh (h:SlN k w0 a n c xs) {g:Nat} (hg:w0.heap.size≤g) (h0:0 < n):blk a≠some g:=by
 obtain ⟨b,off,rfl,hc⟩:=Sl.rd h h0;have hb:b < w0.heap.size:=World.block_lt_of_cell? w0 ⟨b,off+0,none⟩ (hc 0 h0);simp [blk];omega
end
section
variable {k:IntKind} {w w':World} {g:Nat} {t:TypeId} {xs:List Nat}
theorem BT.lt (h:BT k w g t xs):g < w.heap.size:=Arr.lt h
theorem BT.cell (h:BT k w g t xs) {i:Nat} (hi:i < xs.length):w.cell? ⟨g,i,none⟩=some (.int k ((xs.getD i 0:Nat):Int)):=by
 rw [Arr.cell h (by simpa using hi)];simp [hi,BO]
theorem BT.frozen (h:BT k w g t xs) (i:Nat):w.frozen? ⟨g,i,none⟩=false:=Arr.frozen h i
theorem BT.set (h:BT k w g t xs) (i:Nat) (v:Nat):BT k (w.setCell ⟨g,i,none⟩ (.int k (v:Int))) g t (xs.set i v):=by
 have:=Arr.set h i (BO k v)
 rwa [←List.map_set] at this
theorem BT.drewN (h:BT k w g t xs) (n:Nat):BT k (w.drewN n) g t xs:=Arr.drewN h n
theorem BT.ext (h:BT k w g t xs) (e:Ext w w'):BT k w' g t xs:=Arr.ext h e
theorem BT.alloc (h:BT k w g t xs) (o:Obj):BT k (w.alloc o) g t xs:=Arr.alloc h o
theorem BT.kept {row:Option Nat} (h:BT k w g t xs) (hb:w.grownBy w' row) (hg:some g≠row):BT k w' g t xs:=Arr.kept h hb hg
theorem BT.part (h:BT k w g t xs) {o n c:Nat} (ho:o+n≤xs.length) (hc:n≤c) (hm:c≤maxLen):SlN k w (some ⟨g,o,none⟩) n c ((xs.drop o).take n):=by
 refine ⟨by simp; omega,hc,hm,fun _=>⟨g,o,rfl,fun i hi => ?_⟩⟩;rw [h.cell (i:=o+i) (by omega)];have h1:i < n:=hi;have h2:o+i < xs.length:=by omega
 simp [h1,h2,BO]
theorem BT.sl (h:BT k w g t xs) {n c:Nat} (hn:n≤xs.length) (hc:n≤c) (hm:c≤maxLen):SlN k w (some ⟨g,0,none⟩) n c (xs.take n):=by
 have:=h.part (o:=0) (n:=n) (by omega) hc hm;simpa using this
end
theorem Own.arr (h:Own w base e (some ⟨g,0,none⟩) n n cs):Arr w g e cs:=by
 have hl:=h.len;rcases h.2 with ⟨hv,_⟩ | ⟨g1,cap,cur,hv,_,hh,_,_,hs,ht⟩
 · simp at hv
 · simp only [Value.slice.injEq,Option.some.injEq,Addr.mk.injEq,and_true,true_and] at hv;obtain ⟨rfl,rfl⟩:=hv;unfold Arr;rw [hh];have:cur.toList=cs:=by
    rw [←ht];exact (List.take_of_length_le (by simp [hs])).symm
   rw [←this]
structure Num (B:Nat) (xs:List Nat) (v:Nat):Prop where
 bnd:W.bnd B xs
 nrm:W.nrm xs
 val:W.val B xs=v
theorem Num.nil (B:Nat):Num B [] 0:=⟨fun x hx=>(by simp at hx),W.nrm_nil,rfl⟩
theorem Num.trim {B:Nat} {xs:List Nat} {v:Nat} (h:W.bnd B xs) (hv:W.val B xs=v):Num B (W.trim xs) v:=⟨W.bnd_trim h,W.trim_nrm xs,by rw [W.trim_val]; exact hv⟩
def Iv (k:IntKind) (B:Nat) (w:World) (v:Nat) (e:Ending) (w':World):Prop:=∃ a n c xs,e = .returned (.slice a n c)∧Ext w w'∧SlN k w' a n c xs∧Num B xs v
def Az (k:IntKind) (w:World) (base:Nat) (e:TypeId) (g n c:Nat) (xs:List Nat):Prop:=Own w base e (some ⟨g,0,none⟩) n c (xs.map (BO k))
section
variable {k:IntKind} {w w':World} {base:Nat} {e:TypeId} {g n c:Nat} {xs:List Nat}
theorem Az.len (h:Az k w base e g n c xs):xs.length=n:=by have:=Own.len h; simpa using this
theorem Az.le (h:Az k w base e g n c xs):n≤9223372036854775807:=by
 have h1:=Own.cap h; have h2:=(Own.sl h).max; unfold maxLen at h2; omega
theorem Az.lo (h:Az k w base e g n c xs):base≤g:=(Own.lt h (k:=g) rfl).1
theorem Az.lt (h:Az k w base e g n c xs):g < w.heap.size:=(Own.lt h (k:=g) rfl).2
theorem Az.cell (h:Az k w base e g n c xs) {i:Nat} (hi:i < n):w.cell? ⟨g,i,none⟩=some (.int k ((xs.getD i 0:Nat):Int)):=by
 have hl:=h.len;have hi':i < xs.length:=by omega
 rw [Own.cellAt h hi];simp [hi',BO]
theorem Az.frozen (h:Az k w base e g n c xs) (i:Nat):w.frozen? ⟨g,i,none⟩=false:=Own.frozenAt h i
theorem Az.set (h:Az k w base e g n c xs) (i v:Nat):Az k (w.setCell ⟨g,i,none⟩ (.int k (v:Int))) base e g n c (xs.set i v):=by
 have:=Own.stored h i (BO k v)
 rwa [←List.map_set] at this
theorem Az.ext (h:Az k w base e g n c xs) (x:Ext w w'):Az k w' base e g n c xs:=Own.ext h x
theorem Az.drewN (h:Az k w base e g n c xs) (m:Nat):Az k (w.drewN m) base e g n c xs:=Own.drewN h m
theorem Az.mono {base':Nat} (h:Az k w base e g n c xs) (hb:base'≤base):Az k w base' e g n c xs:=Own.mono h hb
theorem Az.kept {row:Option Nat} (h:Az k w base e g n c xs) (hg:w.grownBy w' row) (hne:some g≠row):Az k w' base e g n c xs:=Own.kept h hg (Or.inr hne)
theorem Az.sl (h:Az k w base e g n c xs):SlN k w (some ⟨g,0,none⟩) n c xs:=Own.sl h
theorem Az.of_zeros (h:Own w base e (some ⟨g,0,none⟩) n c (List.replicate n (.int k 0))):Az k w base e g n c (List.replicate n 0):=by
 unfold Az;rw [List.map_replicate];exact h
theorem Az.arr (h:Az k w base e g n n xs):BT k w g e xs:=Own.arr h
theorem BT.own (h:BT k w g e xs) (hb:base≤g) (hm:xs.length≤maxLen):Az k w base e g xs.length xs.length xs:=by
 refine ⟨by simp,Or.inr ⟨g,xs.length,(xs.map (BO k)).toArray,rfl,hb,h,lrf _,hm,by simp, ?_⟩⟩;rw [Nat.mul_one];exact List.take_of_length_le (by simp)
end
theorem Dc (w:World) (row:Option Nat):w.grownBy w row:=World.grownBy.refl w row
theorem Oq (h:a.grownBy b row) (k:b.grownBy c row):a.grownBy c row :=
 ⟨k.os.trans h.os,k.tape.trans h.tape,k.output.trans h.output,Nat.le_trans h.size k.size,fun i hi hne=>(k.block i (Nat.lt_of_lt_of_le hi h.size) hne).trans (h.block i hi hne)⟩
theorem Rv (h:a.grownBy b row) (k:Ext b c):a.grownBy c row :=
 ⟨k.os.trans h.os,k.tape.trans h.tape,k.output.trans h.output,Nat.le_trans h.size k.size,fun i hi hne=>(k.block (Nat.lt_of_lt_of_le hi h.size)).trans (h.block i hi hne)⟩
theorem DL (h:a.grownBy b (some g)) (j:Nat) (u:Value):a.grownBy (b.setCell ⟨g,j,none⟩ u) (some g):=Oq h (Ao b g j u)
theorem Ext.grownR (h:Ext w w1) (hg:w1.grownBy w' (some g)) (hr:w.heap.size≤g):Ext w w':=h.grown hg (fun k hk=>by simp only [Option.some.injEq] at hk; omega)
end Go.Proofs.YtlpgonpfjbhmfaaGreatDoor
namespace Go.Proofs.YtlpgonpfjbhmfaaGreatDoor
open Go.Shelf
def Pf:Go.Shelf.Ren:=⟨fun | 25=>203 | n=>n,fun | 22=>143 | n=>n,fun | n=>n⟩
theorem Vy:Go.Proofs.Lays7.n25 Tryz.prog Pf:={
 mixed:=by kernel_rfl
 f25:=Tryz.func203.trans (congrArg some (by kernel_rfl))
 t22:=Tryz.underlying143
 a22:=Tryz.isAgg143
 z22:=Tryz.sizeOf143
 v22:=Tryz.zeroValue143
 i22:=by kernel_rfl }
def Pg:Go.Shelf.Ren:=⟨fun | 26=>179 | n=>n,fun | 22=>143 | n=>n,fun | n=>n⟩
theorem Vz:Go.Proofs.Lays7.n26 Tryz.prog Pg:={
 mixed:=by kernel_rfl
 f26:=Tryz.func179.trans (congrArg some (by kernel_rfl))
 t22:=Tryz.underlying143
 a22:=Tryz.isAgg143
 z22:=Tryz.sizeOf143
 v22:=Tryz.zeroValue143
 i22:=by kernel_rfl }
def Ph:Go.Shelf.Ren:=⟨fun | 264=>204 | n=>n,fun | 53=>143 | 46=>147 | n=>n,fun | n=>n⟩
theorem VA:Go.Proofs.Lays.n264 Tryz.prog Ph:={
 mixed:=by kernel_rfl
 f264:=Tryz.func204.trans (congrArg some (by kernel_rfl))
 t46:=Tryz.underlying147
 a46:=Tryz.isAgg147
 z46:=Tryz.sizeOf147
 v46:=Tryz.zeroValue147
 t53:=Tryz.underlying143
 a53:=Tryz.isAgg143
 z53:=Tryz.sizeOf143
 v53:=Tryz.zeroValue143 }
def Rw:Go.Shelf.Ren:=⟨fun | 134=>175 | 129=>165 | n=>n,fun | 53=>143 | 3=>3 | 4=>4 | 46=>147 | 5=>5 | 9=>9 | n=>n,fun | n=>n⟩
theorem Wh:Go.Proofs.Lays.n134 Tryz.prog Rw:={
 mixed:=by kernel_rfl
 f129:=Tryz.func165.trans (congrArg some (by kernel_rfl))
 f134:=Tryz.func175.trans (congrArg some (by kernel_rfl))
 t3:=Tryz.underlying3
 a3:=Tryz.isAgg3
 z3:=Tryz.sizeOf3
 v3:=Tryz.zeroValue3
 t4:=Tryz.underlying4
 a4:=Tryz.isAgg4
 z4:=Tryz.sizeOf4
 v4:=Tryz.zeroValue4
 t5:=Tryz.underlying5
 a5:=Tryz.isAgg5
 z5:=Tryz.sizeOf5
 v5:=Tryz.zeroValue5
 t9:=Tryz.underlying9
 a9:=Tryz.isAgg9
 z9:=Tryz.sizeOf9
 v9:=Tryz.zeroValue9
 t46:=Tryz.underlying147
 a46:=Tryz.isAgg147
 z46:=Tryz.sizeOf147
 v46:=Tryz.zeroValue147
 t53:=Tryz.underlying143
 a53:=Tryz.isAgg143
 z53:=Tryz.sizeOf143
 v53:=Tryz.zeroValue143 }
end Go.Proofs.YtlpgonpfjbhmfaaGreatDoor
namespace Go.Proofs.YtlpgonpfjbhmfaaGreatDoor
open Tryz Go Go.RowKit
variable {xs:List Nat} {c n v x:Nat} {a:Option Addr} {w:World}
theorem Ay:Bh prog 143 (.int .u64 0) 8:=by unfold Bh; kernel_rfl
theorem BS (x y c:Nat) (hc:c≤1) (w:World):(callFunc 203 #[.int .u64 x, .int .u64 y, .int .u64 c]).run prog w = .ok (.value (.tuple #[.int .u64 (((x+y+c) % 18446744073709551616:Nat):Int), .int .u64 (((x+y+c) / 18446744073709551616:Nat):Int)])) w:=Any7.bits_Add64 Vy x y c hc w
theorem Dd (x y c:Nat) (hc:c≤1) (w:World):(callFunc 179 #[.int .u64 x, .int .u64 y, .int .u64 c]).run prog w = .ok (.value (.tuple #[.int .u64 (((x+18446744073709551616 - y - c) % 18446744073709551616:Nat):Int), .int .u64 ((if x < y+c then 1 else 0:Nat):Int)])) w:=Any7.bits_Sub64 Vz x y c hc w
theorem Bl (hx:SlN .u64 w a n c xs) :
 Calls prog 140 #[.slice a n c] w fun e w'=>∃ m,e = .returned (.slice a m c)∧w=w'∧m≤n∧W.trim xs=xs.take m:=by
 have HX:=Lib.hid hx.len;have hnn:=hx.le;have hcap:=hx.cap
 go_enter func140,ntmps140
 go_wp2
 go_loop [3] (fun v=>∃ k:Nat,k≤n∧v = .int .i64 k∧Hid (W.trim xs=W.trimTo xs k)) (fun v=>(intOf v).toNat)
 case atStart=>exact ⟨n,lrf _,rfl,Lib.hid (by unfold W.trim; rw [HX.out])⟩
 case round =>
  obtain ⟨k,hk,rfl,HT⟩:=hrel;have hsl:=fun wx:World=>GR (P:=prog) (w:=wx) (a:=a) (n:=n) underlying88 Ay (k:=k) (c:=c) (by omega);cases k with
  | zero =>
   go_wp2;go_ret;exact ⟨0,rfl,rfl,by omega,by rw [HT.out]; rfl⟩
  | succ k =>
   obtain ⟨b,o,rfl,hc⟩:=hx.at (j:=k) (by omega);have g1:=hc k (by omega);have hw:IntKind.i64.wrap ((k:Int)+1 - 1)=k:=by rw [Int.add_sub_cancel]; exact IntWalk.i64_in _ (by omega)
   have hw2:IntKind.i64.wrap (k:Int)=k:=IntWalk.i64_in _ (by omega);by_cases hz:xs.getD k 0=0
   · have HT2:Hid (W.trim xs=W.trimTo xs k):=by
      show _=_;rw [HT.out];exact if_pos hz
     rw [hz] at g1;clear hz hc;go_wp2;go_round
     case rel=>exact ⟨k,by omega,rfl,HT2⟩
     case measure=>simp [intOf]
   · have HT2:Hid (W.trim xs=xs.take (k+1)):=by
      show _=_;rw [HT.out];exact if_neg hz
     have hne:(((xs.getD k 0:Nat):Int) == 0)=false:=by simpa using hz
     generalize xs.getD k 0=y at *
     clear hz hc;go_wp2;go_ret;exact ⟨k+1,rfl,rfl,by omega,HT2.out⟩
theorem BF {m:Nat} (hx:SlN .u64 w a n c xs) (hm:m≤n) (ht:W.trim xs=xs.take m) (hb:W.bnd 18446744073709551616 xs) (hv:W.val 18446744073709551616 xs=v):SlN .u64 w a m c (W.trim xs)∧Num 18446744073709551616 (W.trim xs) v :=
 ⟨by rw [ht]; exact hx.upto hm,Num.trim hb hv⟩
theorem DH (hx:x < 18446744073709551616):Calls prog 141 #[.int .u64 x] w (Iv .u64 18446744073709551616 w x):=by
 by_cases h0:x=0
 · subst h0
   go_enter func141,ntmps141
   go_wp2;go_ret;exact ⟨none,0,0,[],rfl,Ext.refl w,SlN.nil _ _,Num.nil _⟩
 · have hb:((x:Int) == 0)=false:=by simpa using h0
   go_enter func141,ntmps141
   go_wp2;go_ret;refine ⟨_,1,1,[x],rfl,(Ext.refl w).alloc _,(Au w w.heap.size 143 #[.int .u64 x] 1 rfl (lrf _) (by omega)).sl,⟨?_,W.nrm_single h0,by simp [W.val]⟩⟩;intro y hy;simp only [List.mem_singleton] at hy;subst hy;exact hx
theorem GB (x:Int) (w:World):Calls prog 205 #[.int .u64 x] w fun e w'=>e = .returned (.bool false)∧w=w':=by
 have h:(x != x)=false:=by simp
 go_enter func205,ntmps205
 go_wp2;go_ret;exact ⟨rfl,rfl⟩
theorem GC (x:Int) (w:World):Calls prog 155 #[.int .i64 x] w fun e w'=>e = .returned (.bool false)∧w=w':=by
 have h:(x != x)=false:=by simp
 go_enter func155,ntmps155
 go_wp2;go_ret;exact ⟨rfl,rfl⟩
def Ba (x y:Int):Int:=if x < y then -1 else if y < x then 1 else 0
theorem MN (x y:Int) (w:World):Calls prog 174 #[.int .u64 x, .int .u64 y] w fun e w'=>e = .returned (.int .i64 (Ba x y))∧w=w':=by
 by_cases h1:x < y
 · have H:Hid (Ba x y = -1):=by show _=_; simp [Ba,h1]
   go_enter func174,ntmps174
   go_wp2_with (go_at_call 205; refine (GB _ _).mono ?_; rintro e w1 ⟨rfl,rfl⟩)
   go_ret;exact ⟨D0 H.out,rfl⟩
 · by_cases h2:y < x
   · have H:Hid (Ba x y=1):=by show _=_; simp [Ba,h1,h2]
     go_enter func174,ntmps174
     go_wp2_with (go_at_call 205; refine (GB _ _).mono ?_; rintro e w1 ⟨rfl,rfl⟩)
     go_ret;exact ⟨D0 H.out,rfl⟩
   · have H:Hid (Ba x y=0):=by show _=_; simp [Ba,h1,h2]
     go_enter func174,ntmps174
     go_wp2_with (go_at_call 205; refine (GB _ _).mono ?_; rintro e w1 ⟨rfl,rfl⟩)
     go_ret;exact ⟨D0 H.out,rfl⟩
theorem MO (x y:Int) (w:World):Calls prog 124 #[.int .i64 x, .int .i64 y] w fun e w'=>e = .returned (.int .i64 (Ba x y))∧w=w':=by
 by_cases h1:x < y
 · have H:Hid (Ba x y = -1):=by show _=_; simp [Ba,h1]
   go_enter func124,ntmps124
   go_wp2_with (go_at_call 155; refine (GC _ _).mono ?_; rintro e w1 ⟨rfl,rfl⟩)
   go_ret;exact ⟨D0 H.out,rfl⟩
 · by_cases h2:y < x
   · have H:Hid (Ba x y=1):=by show _=_; simp [Ba,h1,h2]
     go_enter func124,ntmps124
     go_wp2_with (go_at_call 155; refine (GC _ _).mono ?_; rintro e w1 ⟨rfl,rfl⟩)
     go_ret;exact ⟨D0 H.out,rfl⟩
   · have H:Hid (Ba x y=0):=by show _=_; simp [Ba,h1,h2]
     go_enter func124,ntmps124
     go_wp2_with (go_at_call 155; refine (GC _ _).mono ?_; rintro e w1 ⟨rfl,rfl⟩)
     go_ret;exact ⟨D0 H.out,rfl⟩
end Go.Proofs.YtlpgonpfjbhmfaaGreatDoor
