/- Part Gav10. -/
import Derived.Test.YtlpgonpfjbhmfaaGreatDoorGav9
set_option maxRecDepth 100000
set_option maxHeartbeats 100000000
namespace Go.Proofs.YtlpgonpfjbhmfaaGreatDoor
open Tryz Go Go.RowKit
variable {ds l ls xs zs:List Nat} {B L P V c c' d d2 g hi k lo lo' n o p q r s t u w3 wd x y z:Nat} {a b:Option Addr} {w:World}
theorem EB (hy:y < 18446744073709551616) (hlo:lo < 18446744073709551616) (hh:hi < y) :
 Calls prog 181 #[.int .u64 hi, .int .u64 lo, .int .u64 y] w fun e w'=>∃ q r:Nat,e = .returned (.tuple #[.int .u64 (q:Int), .int .u64 (r:Int)])∧q < 18446744073709551616∧r < y∧hi*18446744073709551616+lo=q*y+r∧Qt w w':=by
 rcases Nat.eq_zero_or_pos hi with h0 | h0
 · subst h0;refine (I3 hy hlo hh).mono ?_;rintro e w' ⟨rfl,hq⟩;refine ⟨lo / y,lo % y,rfl, ?_,Nat.mod_lt _ hh, ?_,hq⟩
   · have:=Nat.div_le_self lo y; omega
   · have:=Nat.div_add_mod lo y;rw [Nat.mul_comm] at this;rw [Nat.zero_mul,Nat.zero_add];exact this.symm
 · refine (KQ hy hlo hh h0).mono ?_;rintro e w' ⟨rfl,hq⟩;refine ⟨(hi*18446744073709551616+lo) / y,(hi*18446744073709551616+lo) % y,rfl, ?_,Nat.mod_lt _ (by omega), ?_,hq⟩
   · rw [Nat.div_lt_iff_lt_mul (by omega)];have:(hi+1)*18446744073709551616≤y*18446744073709551616:=Nat.mul_le_mul_right _ hh;omega
   · have:=Nat.div_add_mod (hi*18446744073709551616+lo) y;rw [Nat.mul_comm] at this;exact this.symm
theorem De (h:k < xs.length):xs.drop k=xs.getD k 0 :: xs.drop (k+1):=by
 rw [List.drop_eq_getElem_cons h,gqq,List.getElem?_eq_getElem h];rfl
theorem drop_set {zs:List Nat} {k q:Nat} (h:k < zs.length):(zs.set k q).drop k=q :: zs.drop (k+1):=by
 rw [De (xs:=zs.set k q) (by simpa using h)];have h1:(zs.set k q).getD k 0=q:=by simp [h]
 have h2:(zs.set k q).drop (k+1)=zs.drop (k+1):=by rw [List.drop_set]; simp
 rw [h1,h2]
theorem MX {r':Nat} (hx:k < xs.length) (hz:k < zs.length) (h:W.val B (xs.drop (k+1))=W.val B (zs.drop (k+1))*d+r) (e:r*B+xs.getD k 0=q*d+r') :
 W.val B (xs.drop k)=W.val B ((zs.set k q).drop k)*d+r':=by
 rw [De hx,drop_set hz];simp only [W.val];rw [h];generalize xs.getD k 0=x at *
 generalize W.val B (zs.drop (k+1))=Z at *
 have h1:x+B*(Z*d+r)=B*Z*d+(r*B+x):=by grind
 rw [h1,e]
 grind
theorem Jo (hx:SlN .u64 w a n c xs) (bx:W.bnd 18446744073709551616 xs) (hv:W.val 18446744073709551616 xs=x) (hd:d < 18446744073709551616) (h0:0 < d) (hn:n≤1000000) :
 Calls prog 212 #[.slice a n c, .int .u64 d] w fun e w'=>∃ a' n' c' ys,e = .returned (.tuple #[.slice a' n' c', .int .u64 ((x % d:Nat):Int)])∧Ext w w'∧SlN .u64 w' a' n' c' ys∧Num 18446744073709551616 ys (x / d)∧Hx w.heap.size (fun _=>False) a' n':=by
 have HX:=Lib.hid hx.len;have BX:=Lib.hid bx;have HV:=Lib.hid hv;clear bx hv
 go_enter func212,ntmps212
 go_upto_region 3 with (at_make; refine Eg (n:=n) rfl rfl underlying88 Ay rfl rfl rfl (by omega) (by unfold maxLen; omega) ?_; intro w1 hO1 hE1)
 go_wp2
 go_loopw [7,8] (fun rv iv wr=>∃ (k r:Nat) (zs:List Nat),k≤n∧rv = .int .u64 r∧iv = .int .i64 ((k:Int) - 1)∧r < d∧Ext w wr∧Az .u64 wr w.heap.size 143 w.heap.size n n zs∧W.bnd 18446744073709551616 zs∧Hid (W.val 18446744073709551616 (xs.drop k)=W.val 18446744073709551616 (zs.drop k)*d+r)) (fun _ v _=>(intOf v+1).toNat)
 case atStart=>exact ⟨n,0,List.replicate n 0,lrf _,rfl,by go_num,h0,hE1,Az.of_zeros hO1,fun z hz=>by rw [(List.mem_replicate.1 hz).2]; omega,Lib.hid (by rw [List.drop_of_length_le (by rw [HX.out]; exact lrf _),List.drop_of_length_le (by simp)]; simp [W.val])⟩
 case round =>
  clear hO1 hE1;obtain ⟨k,r,zs,hk,rfl,rfl,hr,hE,hz,bz,HE⟩:=hrel;cases k with
  | zero =>
   have hval:x / d=W.val 18446744073709551616 zs∧x % d=r:=by
    have h1:=HE.out;rw [List.drop_zero,List.drop_zero,HV.out] at h1;rw [h1,Nat.mul_comm];exact ⟨by rw [Nat.mul_add_div h0,Nat.div_eq_of_lt hr,Nat.add_zero],by rw [Nat.mul_add_mod,Nat.mod_eq_of_lt hr]⟩
   go_wp2_with fail
   refine (Bl hz.sl).mono ?_;rintro e w4 ⟨q,rfl,rfl,hq,ht⟩;obtain ⟨t1,t2⟩:=BF hz.sl hq ht bz hval.1.symm;go_wp2
   go_ret2
   exact ⟨_,q,_,_,by rw [hval.2]; rfl,hE,t1,t2,fun _ g h=>Or.inl (by cases h; exact lrf _)⟩
  | succ k =>
   obtain ⟨b1,o1,rfl,hc1⟩:=(hx.ext hE).at (j:=k) (by omega);have g1:=hc1 k (by omega);have hw0:((k+1:Nat):Int) - 1=k:=by omega
   rw [hw0];have hxk:=W.bnd_at BX.out (i:=k) (by rw [HX.out]; omega);have HST:=Lib.hid (fun q r'=>MX (B:=18446744073709551616) (xs:=xs) (zs:=zs) (k:=k) (q:=q) (r:=r) (r':=r') (d:=d) (by rw [HX.out]; omega) (by rw [hz.len]; omega) HE.out);generalize xs.getD k 0=u at *
   have hdv:=fun wx:World=>EB (w:=wx) (hi:=r) (lo:=u) (y:=d) hd hxk hr;clear hc1
   go_wp2_with fail
   refine (hdv _).mono ?_;rintro e w2 ⟨q,r',rfl,hq,hr',he,hQ⟩;have g3:=(hz.ext hQ.ext).frozen k;have HS:=Lib.hid (HST.out q r' he);have hz2:=hz.ext hQ.ext;have hE2:=hE.trans hQ.ext;have g4:=hz2.cell (i:=k) (by omega);clear he;go_wp2;go_roundw
   case rel=>exact ⟨k,r',zs.set k q,by omega,rfl,by go_num,hr',hE2.setCell (lrf _) _,hz2.set k q,W.bnd_set bz hq,HS⟩
   case measure=>simp [intOf]
theorem D1 (hx:SlN .u64 w a n c xs) (bx:W.bnd 18446744073709551616 xs) (hv:W.val 18446744073709551616 xs=x) (hd:d < 18446744073709551616) (h0:0 < d) (hn:n≤1000000) :
 Calls prog 143 #[.slice a n c, .int .u64 d] w fun e w'=>e = .returned (.int .u64 ((x % d:Nat):Int))∧Qt w w':=by
 have HX:=Lib.hid hx.len;have BX:=Lib.hid bx;have HV:=Lib.hid hv;clear bx hv
 go_enter func143,ntmps143
 go_wp2
 go_loopw [5,6] (fun rv iv wr=>∃ (k r:Nat),k≤n∧rv = .int .u64 r∧iv = .int .i64 ((k:Int) - 1)∧r < d∧Qt w wr∧Hid (W.val 18446744073709551616 (xs.drop k) % d=r)) (fun _ v _=>(intOf v+1).toNat)
 case atStart=>exact ⟨n,0,lrf _,rfl,by go_num,h0,Qt.refl _,Lib.hid (by rw [List.drop_of_length_le (by rw [HX.out]; exact lrf _)]; simp [W.val])⟩
 case round =>
  obtain ⟨k,r,hk,rfl,rfl,hr,hQ,HE⟩:=hrel;cases k with
  | zero =>
   have hval:x % d=r:=by
    have h1:=HE.out;rw [List.drop_zero,HV.out] at h1;exact h1
   go_wp2;go_ret;exact ⟨by rw [hval]; rfl,hQ⟩
  | succ k =>
   obtain ⟨b1,o1,rfl,hc1⟩:=(hx.ext hQ.ext).at (j:=k) (by omega);have g1:=hc1 k (by omega);have hw0:((k+1:Nat):Int) - 1=k:=by omega
   rw [hw0];have hxk:=W.bnd_at BX.out (i:=k) (by rw [HX.out]; omega);have HST:Hid (∀ q r',r*18446744073709551616+xs.getD k 0=q*d+r'→r' < d→W.val 18446744073709551616 (xs.drop k) % d=r'):=by
    show ∀ q r',r*18446744073709551616+xs.getD k 0=q*d+r'→r' < d→W.val 18446744073709551616 (xs.drop k) % d=r';intro q r' e hr';rw [De (by rw [HX.out]; omega)];simp only [W.val];have h1:=HE.out;have h2:=Nat.div_add_mod (W.val 18446744073709551616 (xs.drop (k+1))) d;rw [h1] at h2;rw [←h2];generalize W.val 18446744073709551616 (xs.drop (k+1)) / d=Z;generalize xs.getD k 0=u at *
    have h3:u+18446744073709551616*(d*Z+r)=d*(18446744073709551616*Z+q)+r':=by grind
    rw [h3,Nat.mul_add_mod,Nat.mod_eq_of_lt hr']
   generalize xs.getD k 0=u at *
   have hdv:=fun wx:World=>EB (w:=wx) (hi:=r) (lo:=u) (y:=d) hd hxk hr;clear hc1
   go_wp2_with fail
   refine (hdv _).mono ?_;rintro e w2 ⟨q,r',rfl,hq,hr',he,hQ2⟩;have HS:=Lib.hid (HST.out q r' he hr');clear he;go_wp2;go_roundw
   case rel=>exact ⟨k,r',by omega,rfl,by go_num,hr',hQ.trans hQ2,HS⟩
   case measure=>simp [intOf]
theorem Qm {w:Nat} (hk:o+k < l.length) (hx:k < xs.length) (h:W.val B l+w*W.val B (xs.take k)*B^o=V+c*B^(o+k)) (e:s+xs.getD k 0*w+c=l.getD (o+k) 0+B*c') :
 W.val B (l.set (o+k) s)+w*W.val B (xs.take (k+1))*B^o=V+c'*B^(o+(k+1)):=by
 have h1:=W.val_set (B:=B) (xs:=l) (i:=o+k) (v:=s) hk;have h2:=W.val_take_succ (B:=B) hx;rw [h2,←Nat.add_assoc,Nat.pow_succ];have h3:B^(o+k)=B^o*B^k:=Nat.pow_add _ _ _;rw [h3] at h h1 ⊢;generalize l.getD (o+k) 0=x at *
 generalize xs.getD k 0=y at *
 generalize W.val B (l.set (o+k) s)=a at *
 generalize W.val B l=b at *
 generalize W.val B (xs.take k)=d at *
 generalize B^k=p at *
 generalize B^o=q at *
 grind
theorem RE {cy:Nat} (hz:z < 18446744073709551616) (hu:u < 18446744073709551616) (hw:wd < 18446744073709551616) (hc:cy < 18446744073709551616) :
 u*wd / 18446744073709551616+(u*wd % 18446744073709551616+cy+0) / 18446744073709551616 < 18446744073709551616∧u*wd / 18446744073709551616+(u*wd % 18446744073709551616+cy+0) / 18446744073709551616+(if z < (u*wd % 18446744073709551616+cy+0) % 18446744073709551616+0 then 1 else 0) < 18446744073709551616 ∧
 (z+18446744073709551616 - (u*wd % 18446744073709551616+cy+0) % 18446744073709551616 - 0) % 18446744073709551616+u*wd+cy=z+18446744073709551616*(u*wd / 18446744073709551616+(u*wd % 18446744073709551616+cy+0) / 18446744073709551616+(if z < (u*wd % 18446744073709551616+cy+0) % 18446744073709551616+0 then 1 else 0)):=by
 have:u*wd≤18446744073709551615*18446744073709551615:=Nat.mul_le_mul (by omega) (by omega);generalize u * wd=p at *
 split <;> omega
theorem FZ {base N C:Nat} (hz:Az .u64 w base 143 g N C zs) (hx:SlN .u64 w a n d xs) (hne:blk a=none∨blk a≠some g) (ho:o+n≤N) (bz:W.bnd 18446744073709551616 zs) (bx:W.bnd 18446744073709551616 xs) (hw:wd < 18446744073709551616) :
 Calls prog 214 #[.slice (some ⟨g,o,none⟩) n c', .slice a n d, .int .u64 wd] w fun e w'=>∃ (cy:Nat) (zs':List Nat),e = .returned (.int .u64 cy)∧cy < 18446744073709551616∧w.grownBy w' (some g)∧Az .u64 w' base 143 g N C zs'∧W.bnd 18446744073709551616 zs'∧W.val 18446744073709551616 zs'+wd*W.val 18446744073709551616 xs*18446744073709551616^o=W.val 18446744073709551616 zs+cy*18446744073709551616^(o+n)∧(∀ j,o+n≤j→zs'.getD j 0=zs.getD j 0):=by
 have HZ:=Lib.hid hz.len;have HX:=Lib.hid hx.len;have hnn:=hx.le;have BX:=Lib.hid bx;clear bx
 go_enter func214,ntmps214
 go_wp2
 go_loopw [7,16] (fun cv iv wr=>∃ (k cy:Nat) (ls:List Nat),cv = .int .u64 cy∧iv = .int .i64 k∧k≤n∧cy < 18446744073709551616∧w.grownBy wr (some g)∧Az .u64 wr base 143 g N C ls∧W.bnd 18446744073709551616 ls∧Hid (W.val 18446744073709551616 ls+wd*W.val 18446744073709551616 (xs.take k)*18446744073709551616^o=W.val 18446744073709551616 zs+cy*18446744073709551616^(o+k))∧Hid (∀ j,o+n≤j→ls.getD j 0=zs.getD j 0)) (fun _ iv _=>n - (intOf iv).toNat)
 case atStart=>exact ⟨0,0,zs,rfl,rfl,Nat.zero_le _,by omega,Dc _ _,hz,bz,Lib.hid (by simp [W.val]),Lib.hid (fun _ _=>rfl)⟩
 case round =>
  clear hz bz;obtain ⟨k,cy,ls,rfl,rfl,hk,hcy,hg,hl,bl,HE,HJ⟩:=hrel;by_cases hlt:k < n
  · obtain ⟨b1,o1,rfl,hc1⟩:=(hx.kept hg hne).at (j:=k) hlt;have g1:=hc1 k hlt;have g2:=hl.cell (i:=o+k) (by omega);have g3:=hl.frozen (o+k);have hzk:=W.bnd_at bl (i:=o+k) (by rw [hl.len]; omega);have hxk:=W.bnd_at BX.out (i:=k) (by rw [HX.out]; exact hlt);obtain ⟨m1,m2,m3⟩:=RE hzk hxk hw hcy;have HS:=Lib.hid (Qm (B:=18446744073709551616) (l:=ls) (xs:=xs) (k:=k) (o:=o) (w:=wd) (by rw [hl.len]; omega) (by rw [HX.out]; exact hlt) HE.out m3);have hkn:(k:Int) < n:=by omega
    have HJ2:Hid (∀ s j,o+n≤j→(ls.set (o+k) s).getD j 0=zs.getD j 0):=by
     show ∀ s j,o+n≤j→(ls.set (o+k) s).getD j 0=zs.getD j 0;intro s j hj;rw [←HJ.out j hj];have hne:¬ o+k=j:=by omega
     simp [hne]
    generalize ls.getD (o+k) 0=z at *
    generalize xs.getD k 0=u at *
    have hmul:=Jj hxk hw;have hadd1:∀ wx:World,(callFunc 203 #[.int .u64 ((u*wd % 18446744073709551616:Nat):Int), .int .u64 (cy:Int), .int .u64 0]).run prog wx = .ok (.value (.tuple #[.int .u64 (((u*wd % 18446744073709551616+cy+0) % 18446744073709551616:Nat):Int), .int .u64 (((u*wd % 18446744073709551616+cy+0) / 18446744073709551616:Nat):Int)])) wx:=fun wx=>BS (u*wd % 18446744073709551616) cy 0 (by omega) wx;generalize u * wd / 18446744073709551616=ph at *
    generalize u * wd % 18446744073709551616=pl at *
    generalize hs1:(pl+cy+0) % 18446744073709551616=s1 at *
    generalize hc1':(pl+cy+0) / 18446744073709551616=c1 at *
    have hadd2:∀ wx:World,(callFunc 179 #[.int .u64 (z:Int), .int .u64 (s1:Int), .int .u64 0]).run prog wx = .ok (.value (.tuple #[.int .u64 (((z+18446744073709551616 - s1 - 0) % 18446744073709551616:Nat):Int), .int .u64 ((if z < s1+0 then 1 else 0:Nat):Int)])) wx:=fun wx=>Dd z s1 0 (by omega) wx;have hs2:(z+18446744073709551616 - s1 - 0) % 18446744073709551616 < 18446744073709551616:=Nat.mod_lt _ (by omega);generalize (z+18446744073709551616 - s1 - 0) % 18446744073709551616=s2 at *
    generalize (if z < s1+0 then 1 else 0)=c2 at *
    have hw1:IntKind.u64.wrap ((ph:Int)+c1)=((ph+c1:Nat):Int):=by rw [wrap_u64 (by omega) (by omega)]; omega
    have hw2:IntKind.u64.wrap (((ph+c1:Nat):Int)+c2)=((ph+c1+c2:Nat):Int):=by rw [wrap_u64 (by omega) (by omega)]; omega
    have hw3:IntKind.u64.wrap ((ph:Int)+(c1:Int)+c2)=((ph+c1+c2:Nat):Int):=by rw [wrap_u64 (by omega) (by omega)]; omega
    clear hc1 hs1 hc1' m3
    go_wp2_with (go_at_call 204; refine (hmul _).mono ?_; rintro e w1 ⟨rfl,rfl⟩)
    go_roundw
    case rel=>exact ⟨k+1,ph+c1+c2,ls.set (o+k) s2,by first | rfl | go_num,by go_num,by omega,m2,DL hg _ _,hl.set (o+k) s2,W.bnd_set bl hs2,HS,Lib.hid (HJ2.out s2)⟩
    case measure=>simp [intOf]; omega
  · have ek:k=n:=by omega
    go_wp2;go_ret;have h1:=HE.out;rw [ek,List.take_of_length_le (by rw [HX.out]; exact lrf _)] at h1;exact ⟨cy,ls,rfl,hcy,hg,hl,bl,h1,HJ.out⟩
theorem RF (hk:k+1 < l.length) (hx:k < xs.length) (h:W.val B l=W.val B (xs.take k)*2^s) (h0:l.getD (k+1) 0=0) (e:xs.getD k 0*2^s=V*B+L) :
 W.val B ((l.set k (l.getD k 0+L)).set (k+1) V)=W.val B (xs.take (k+1))*2^s:=by
 have h1:=W.val_set (B:=B) (xs:=l) (i:=k) (v:=l.getD k 0+L) (by omega);have h2:=W.val_set (B:=B) (xs:=l.set k (l.getD k 0+L)) (i:=k+1) (v:=V) (by simpa using hk);have h3:(l.set k (l.getD k 0+L)).getD (k+1) 0=0:=by
  simpa using h0
 rw [h3] at h2;rw [W.val_take_succ hx,Nat.add_mul,Nat.mul_assoc,e];rw [Nat.pow_succ] at h2;generalize l.getD k 0=z at *
 generalize W.val B ((l.set k (z+L)).set (k+1) V)=X at *
 generalize W.val B (l.set k (z+L))=Y at *
 generalize W.val B l=Z at *
 generalize W.val B (xs.take k) * 2^s=T at *
 generalize B^k=p at *
 grind
theorem CM (hs:s≤63):2^(64 - s)*2^s=18446744073709551616:=by rw [←Nat.pow_add,show 64 - s+s=64 by omega]
theorem TA (hs:s≤63) (e:lo*2^s=V*18446744073709551616+L):L % 2^s=0:=by
 have h1:=CM hs;have h2:2^s∣V*18446744073709551616+L:=by rw [←e]; exact Nat.dvd_mul_left _ _
 have h3:2^s∣V*18446744073709551616:=by rw [←h1]; exact ⟨V*2^(64 - s),by grind⟩
 exact Nat.mod_eq_zero_of_dvd ((Nat.dvd_add_right h3).1 h2)
theorem TB (hs:s≤63) (hl:L % 2^s=0) (hL:L < 18446744073709551616) (hz:z < 2^s):z+L < 18446744073709551616:=by
 have h1:=CM hs;have h2:=Nat.div_add_mod L (2^s);rw [hl,Nat.add_zero] at h2;have h3:L / 2^s < 2^(64 - s):=by
  rw [Nat.div_lt_iff_lt_mul (Nat.two_pow_pos s),h1];exact hL
 have h4:2^s*(L / 2^s+1)≤2^s*2^(64 - s):=Nat.mul_le_mul_left _ h3;rw [Nat.mul_comm (2^s) (2^(64 - s)),h1,Nat.mul_add,Nat.mul_one,h2] at h4;omega
theorem F6 (hx:SlN .u64 w a n c xs) (nx:Num 18446744073709551616 xs x) (hs:s≤63) (hn:n≤1000000) :
 Calls prog 206 #[.slice a n c, .int .u64 s] w (Iv .u64 18446744073709551616 w (x*2^s)):=by
 have HX:=Lib.hid hx.len;have NX:=Lib.hid nx;clear nx;by_cases h0:n=0∨s=0
 · have HZ:Hid (x*2^s=x):=by
    show _=_;rcases h0 with h0 | h0
    · have h1:xs=[]:=List.eq_nil_of_length_eq_zero (by rw [HX.out,h0]);have h2:=NX.out.val;rw [h1] at h2;simp only [W.val] at h2;rw [←h2];simp
    · rw [h0]; simp
   have hpick:((n:Int) == 0)=true∨(((n:Int) == 0)=false∧((s:Int) == 0)=true):=by
    by_cases h1:n=0
    · left; simp [h1]
    · right; exact ⟨by simpa using h1,by simp; omega⟩
   clear h0;rcases hpick with hp | ⟨hp,hp2⟩
   all_goals
    go_enter func206,ntmps206
    go_wp2;go_ret;exact ⟨a,n,c,xs,rfl,Ext.refl w,hx,⟨NX.out.bnd,NX.out.nrm,by rw [NX.out.val,HZ.out]⟩⟩
 · have hb0:((n:Int) == 0)=false:=by simp; omega
   have hb1:((s:Int) == 0)=false:=by simp; omega
   have hq:(s:Int) / 64=0:=by omega
   have hq':(s:Int).tdiv 64=0:=by rw [Int.tdiv_eq_ediv_of_nonneg (by omega)]; exact hq
   have hr:(s:Int) % 64=s:=by omega
   have hr':(s:Int).tmod 64=s:=by rw [Int.tmod_eq_emod_of_nonneg (by omega)]; exact hr
   clear h0
   go_enter func206,ntmps206
   go_upto_region 5 with (at_make; refine Eg (n:=n+1) rfl rfl underlying88 Ay rfl rfl rfl (by omega) (by unfold maxLen; omega) ?_; intro w1 hO1 hE1)
   clear hq hq' hr hr' hb0 hb1;go_wp2
   go_loopw [31] (fun iv wr=>∃ (k:Nat) (zs:List Nat),iv = .int .i64 k∧k≤n∧Ext w wr∧Az .u64 wr w.heap.size 143 w.heap.size (n+1) (n+1) zs∧W.bnd 18446744073709551616 zs∧Hid (W.val 18446744073709551616 zs=W.val 18446744073709551616 (xs.take k)*2^s)∧Hid (∀ j,k < j→zs.getD j 0=0)∧Hid (zs.getD k 0 < 2^s)) (fun iv _=>n - (intOf iv).toNat)
   case atStart=>exact ⟨0,List.replicate (n+1) 0,rfl,Nat.zero_le _,hE1,Az.of_zeros hO1,fun z hz=>by rw [(List.mem_replicate.1 hz).2]; omega,Lib.hid (by rw [W.val_zeros]; simp [W.val]),Lib.hid (fun j _=>FE _ j),Lib.hid (by rw [FE]; exact Nat.two_pow_pos s)⟩
   case round =>
    clear hO1 hE1;obtain ⟨k,zs,rfl,hk,hE,hz,bz,HV,HJ,HP⟩:=hrel;by_cases hlt:k < n
    · obtain ⟨b1,o1,rfl,hc1⟩:=(hx.ext hE).at (j:=k) hlt;have g1:=hc1 k hlt;have g2:=hz.cell (i:=k) (by omega);have g3:=hz.frozen k;have g4:=hz.frozen (k+1);have g5:=hz.cell (i:=k+1) (by omega);rw [HJ.out (k+1) (by omega)] at g5;have hxk:=W.bnd_at NX.out.bnd (i:=k) (by rw [HX.out]; exact hlt);obtain ⟨L,V,hL1,hL2,hV1,hV2,hL3⟩:=LR hs hxk;have hlow:=TA hs hL1;have HS:=Lib.hid (RF (B:=18446744073709551616) (l:=zs) (xs:=xs) (k:=k) (s:=s) (L:=L) (V:=V) (by rw [hz.len]; omega) (by rw [HX.out]; exact hlt) HV.out (HJ.out _ (by omega)) hL1)
      have hzb:zs.getD k 0 < 18446744073709551616:=W.bnd_at bz (i:=k) (by rw [hz.len]; omega);have hjl:=TB hs hlow hL2 HP.out;have HJ2:Hid (∀ v j,k+1 < j→((zs.set k v).set (k+1) V).getD j 0=0):=by
       show ∀ v j,k+1 < j→((zs.set k v).set (k+1) V).getD j 0=0;intro v j hj;have h0:=HJ.out j (by omega);have h1:¬ k=j:=by omega
       have h2:¬ k+1=j:=by omega
       simpa [h1,h2] using h0
      have HP2:Hid (∀ v,((zs.set k v).set (k+1) V).getD (k+1) 0 < 2^s):=by
       show ∀ v,((zs.set k v).set (k+1) V).getD (k+1) 0 < 2^s;intro v;have h1:k+1 < zs.length:=by rw [hz.len]; omega
       have h2:((zs.set k v).set (k+1) V).getD (k+1) 0=V:=by simp [h1]
       rw [h2]; exact hV2
      have e5:bits BinOp.or IntKind.u64 ((zs.getD k 0:Nat):Int) (L:Int)=((zs.getD k 0+L:Nat):Int):=by
       rw [u64_or_nat _ L hzb hL2,Nat.or_comm,nat_join s L (zs.getD k 0) hlow HP.out,Nat.add_comm]
      generalize hzz:zs.getD k 0+L=z2 at *
      generalize zs.getD k 0=z at *
      have e6:IntKind.u64.wrap (((xs.getD k 0:Nat):Int)*2^s)=(L:Int):=by
       have:=Hz (x:=xs.getD k 0*2^s) (M:=L) hL3.symm;push_cast at this;exact this
      have e7:((xs.getD k 0:Nat):Int) / 2^(64 - s)=(V:Int):=by rw [hV1]; push_cast; rfl
      clear hL1 hL3 hV1;generalize xs.getD k 0=u at *
      have hVb:V < 18446744073709551616:=by
       have:=Nat.pow_le_pow_right (n:=2) (by omega) (show s≤63 from hs);omega
      clear hc1;go_wp2;go_roundw
      case rel=>exact ⟨k+1,(zs.set k z2).set (k+1) V,by go_num,by omega,(hE.setCell (lrf _) _).setCell (lrf _) _,(hz.set k z2).set (k+1) V,W.bnd_set (W.bnd_set bz hjl) hVb,HS,Lib.hid (HJ2.out z2),Lib.hid (HP2.out z2)⟩
      case measure=>simp [intOf]; omega
    · have ek:k=n:=by omega
      have hv:W.val 18446744073709551616 zs=x*2^s:=by
       have h1:=HV.out;rw [ek,List.take_of_length_le (by rw [HX.out]; exact lrf _),NX.out.val] at h1;exact h1
      go_wp2_with fail
      refine (Bl hz.sl).mono ?_;rintro e w4 ⟨q,rfl,rfl,hq,ht⟩;obtain ⟨t1,t2⟩:=BF hz.sl hq ht bz hv;go_wp2;go_ret;exact ⟨_,q,_,_,rfl,hE,t1,t2⟩
theorem TC (hs:s≤63):2^s*(x*2^(64 - s) % 18446744073709551616)=18446744073709551616*(x % 2^s)∧x*2^(64 - s) % 18446744073709551616 % 2^(64 - s)=0:=by
 have h1:=CM hs;have h2:x*2^(64 - s) % 18446744073709551616=x % 2^s*2^(64 - s):=by
  rw [←h1,Nat.mul_comm (2^(64 - s)) (2^s),Nat.mul_mod_mul_right]
 rw [h2];refine ⟨?_,Nat.mul_mod_left _ _⟩;rw [←h1];generalize 2^(64 - s)=p;generalize 2^s=q
 grind
theorem UT (hs:s≤63) (hx:x < 18446744073709551616):x / 2^s < 2^(64 - s):=by
 rw [Nat.div_lt_iff_lt_mul (Nat.two_pow_pos s),CM hs];exact hx
theorem LU (hx:x < 18446744073709551616) (hy:y < 18446744073709551616):x ||| y < 18446744073709551616:=Nat.or_lt_two_pow (n:=64) hx hy
theorem MY (hs:s≤63) (hx:x < 18446744073709551616):∃ z:Nat,z < 18446744073709551616∧x / 2^s ||| (y*2^(64 - s) % 18446744073709551616)=z∧2^s*z+x % 2^s=x+18446744073709551616*(y % 2^s):=by
 obtain ⟨h1,h2⟩:=TC (x:=y) hs;have h3:=UT hs hx;have h4:=nat_join (64 - s) (y*2^(64 - s) % 18446744073709551616) (x / 2^s) h2 h3;refine ⟨x / 2^s ||| (y*2^(64 - s) % 18446744073709551616),LU ?_ (Nat.mod_lt _ (by omega)),rfl, ?_⟩
 · have:=Nat.div_le_self x (2^s); omega
 · rw [Nat.or_comm,h4,Nat.mul_add,h1];have:=Nat.div_add_mod x (2^s);generalize 2^s * (x / 2^s)=p at *
   omega
theorem MZ (hk:k < l.length) (hx:k < xs.length) (h:2^s*W.val B (l.take k)+V=W.val B (xs.take k)+B^k*(xs.getD k 0 % 2^s)) (e:2^s*z+xs.getD k 0 % 2^s=xs.getD k 0+B*(xs.getD (k+1) 0 % 2^s)) :
 2^s*W.val B ((l.set k z).take (k+1))+V=W.val B (xs.take (k+1))+B^(k+1)*(xs.getD (k+1) 0 % 2^s):=by
 have h1:=W.val_take_succ (B:=B) (xs:=l.set k z) (i:=k) (by simpa using hk);have h2:(l.set k z).getD k 0=z:=by simp [hk]
 have h3:(l.set k z).take k=l.take k:=by rw [List.take_set,List.set_eq_of_length_le (by simp; omega)]
 rw [h2,h3] at h1;rw [h1,W.val_take_succ hx,Nat.pow_succ];generalize xs.getD (k+1) 0 % 2^s=b at *
 generalize xs.getD k 0 % 2^s=a at *
 generalize xs.getD k 0=u at *
 generalize W.val B (l.take k)=A at *
 generalize W.val B (xs.take k)=X at *
 generalize B^k=p at *
 generalize 2^s=q at *
 grind
theorem Jp (hx:SlN .u64 w a n c xs) (nx:Num 18446744073709551616 xs x) (hs:s≤63) (hn:n≤1000000) :
 Calls prog 211 #[.slice a n c, .int .u64 s] w (Iv .u64 18446744073709551616 w (x / 2^s)):=by
 have HX:=Lib.hid hx.len;have NX:=Lib.hid nx;clear nx;have hq:(s:Int) / 64=0:=by omega
 have hq':(s:Int).tdiv 64=0:=by rw [Int.tdiv_eq_ediv_of_nonneg (by omega)]; exact hq
 have hr:(s:Int) % 64=s:=by omega
 have hr':(s:Int).tmod 64=s:=by rw [Int.tmod_eq_emod_of_nonneg (by omega)]; exact hr
 by_cases h0:n=0
 · have HZ:Hid (x / 2^s=0):=by
    show _=_;have h1:xs=[]:=List.eq_nil_of_length_eq_zero (by rw [HX.out,h0]);have h2:=NX.out.val;rw [h1] at h2;simp only [W.val] at h2;rw [←h2];simp
   subst h0
   go_enter func211,ntmps211
   go_wp2;go_ret;exact ⟨none,0,0,[],rfl,Ext.refl w,SlN.nil _ _,by rw [HZ.out]; exact Num.nil _⟩
 · have hb0:(0:Int) < (n:Int):=by omega
   clear h0
   go_enter func211,ntmps211
   go_upto_region 5 with (at_make; refine Eg (n:=n) rfl rfl underlying88 Ay rfl rfl rfl (by omega) (by unfold maxLen; omega) ?_; intro w1 hO1 hE1)
   clear hq hq' hr hr' hb0;go_wp2
   go_loopw [27] (fun iv wr=>∃ (k:Nat) (zs:List Nat),iv = .int .i64 k∧k≤n∧Ext w wr∧Az .u64 wr w.heap.size 143 w.heap.size n n zs∧W.bnd 18446744073709551616 zs∧Hid (2^s*W.val 18446744073709551616 (zs.take k)+xs.getD 0 0 % 2^s=W.val 18446744073709551616 (xs.take k)+18446744073709551616^k*(xs.getD k 0 % 2^s))) (fun iv _=>n - (intOf iv).toNat)
   case atStart=>exact ⟨0,List.replicate n 0,rfl,Nat.zero_le _,hE1,Az.of_zeros hO1,fun z hz=>by rw [(List.mem_replicate.1 hz).2]; omega,Lib.hid (by simp [W.val])⟩
   case round =>
    clear hO1 hE1;obtain ⟨k,zs,rfl,hk,hE,hz,bz,HV⟩:=hrel;by_cases hlt:k < n
    · obtain ⟨b1,o1,rfl,hc1⟩:=(hx.ext hE).at (j:=k) hlt;have g1:=hc1 k hlt;have g2:=hz.cell (i:=k) hlt;have g3:=hz.frozen k;have hxk:=W.bnd_at NX.out.bnd (i:=k) (by rw [HX.out]; exact hlt);by_cases hlast:k+1 < n
      · have g4:=hc1 (k+1) hlast;have hfr:b1≠w.heap.size:=by have:=hx.fresh (lrf _) (by omega); simpa [blk] using this
        obtain ⟨z2,hz2,e5,e6⟩:=MY (y:=xs.getD (k+1) 0) hs hxk;have HS:=Lib.hid (MZ (B:=18446744073709551616) (l:=zs) (xs:=xs) (k:=k) (s:=s) (z:=z2) (by rw [hz.len]; omega) (by rw [HX.out]; exact hlt) HV.out e6);obtain ⟨L,hL⟩:∃ L,xs.getD (k+1) 0*2^(64 - s) % 18446744073709551616=L:=⟨_,rfl⟩;obtain ⟨V,hV⟩:∃ V,xs.getD k 0 / 2^s=V:=⟨_,rfl⟩;have hLb:L < 18446744073709551616:=by rw [←hL]; exact Nat.mod_lt _ (by omega)
        have hVb:V < 18446744073709551616:=by rw [←hV]; have:=Nat.div_le_self (xs.getD k 0) (2^s); omega
        rw [hL,hV] at e5;have f5:bits BinOp.or IntKind.u64 (V:Int) (L:Int)=(z2:Int):=by rw [u64_or_nat V L hVb hLb,e5]
        have f6:IntKind.u64.wrap (((xs.getD (k+1) 0:Nat):Int)*2^(64 - s))=(L:Int):=by
         have:=Hz (x:=xs.getD (k+1) 0*2^(64 - s)) (M:=L) hL;push_cast at this;exact this
        have f7:((xs.getD k 0:Nat):Int) / 2^s=(V:Int):=by rw [←hV]; push_cast; rfl
        clear hL hV e5 e6 HV;generalize hyy:xs.getD (k+1) 0=y at *
        generalize xs.getD k 0=u at *
        generalize zs.getD k 0=z at *
        clear hc1;go_wp2;have hE2:=((hE.setCell (p:=⟨w.heap.size,k,none⟩) (lrf _) (.int .u64 (V:Int))).setCell (p:=⟨w.heap.size,k,none⟩) (lrf _) (.int .u64 (z2:Int))).drewN 1;have hz3:=((hz.set k V).set k z2).drewN 1;rw [List.set_set] at hz3
        go_region
        go_wp2;go_roundw
        case rel=>exact ⟨k+1,zs.set k z2,by go_num,by omega,hE2,hz3,W.bnd_set bz hz2,by rw [hyy]; exact HS⟩
        case measure=>simp [intOf]; omega
      · have hy0:xs.getD (k+1) 0=0:=by
         rw [gqq,List.getElem?_eq_none (by rw [HX.out]; omega)];rfl
        obtain ⟨z2,hz2,e5,e6⟩:=MY (y:=0) hs hxk;have HS:=Lib.hid (MZ (B:=18446744073709551616) (l:=zs) (xs:=xs) (k:=k) (s:=s) (z:=z2) (by rw [hz.len]; omega) (by rw [HX.out]; exact hlt) HV.out (by rw [hy0]; exact e6));have e7:xs.getD k 0 / 2^s=z2:=by rw [←e5]; simp
        have f7:((xs.getD k 0:Nat):Int) / 2^s=(z2:Int):=by rw [←e7]; push_cast; rfl
        clear e5 e6 e7 HV hy0;generalize xs.getD k 0=u at *
        generalize zs.getD k 0=z at *
        clear hc1;go_wp2;go_roundw
        case rel=>exact ⟨k+1,zs.set k z2,by go_num,by omega,hE.setCell (lrf _) _,hz.set k z2,W.bnd_set bz hz2,HS⟩
        case measure=>simp [intOf]; omega
    · have ek:k=n:=by omega
      have hv:W.val 18446744073709551616 zs=x / 2^s:=by
       have h1:=HV.out;have h2:xs.getD n 0=0:=by
        rw [gqq,List.getElem?_eq_none (by rw [HX.out]; omega)];rfl
       rw [ek,List.take_of_length_le (by rw [hz.len]; exact lrf _),List.take_of_length_le (by rw [HX.out]; exact lrf _),NX.out.val,h2,Nat.zero_mod,Nat.mul_zero,Nat.add_zero] at h1;rw [←h1,Nat.mul_add_div (Nat.two_pow_pos s),Nat.div_eq_of_lt (Nat.mod_lt _ (Nat.two_pow_pos s)),Nat.add_zero]
      go_wp2_with fail
      refine (Bl hz.sl).mono ?_;rintro e w4 ⟨q,rfl,rfl,hq,ht⟩;obtain ⟨t1,t2⟩:=BF hz.sl hq ht bz hv;go_wp2;go_ret;exact ⟨_,q,_,_,rfl,hE,t1,t2⟩
theorem KR (hy:y < 18446744073709551616) (hlo:lo < 18446744073709551616) (hh:hi < y) (hr:r < y) (h:hi*18446744073709551616+lo=q*y+r) :
 Calls prog 181 #[.int .u64 hi, .int .u64 lo, .int .u64 y] w fun e w'=>e = .returned (.tuple #[.int .u64 (q:Int), .int .u64 (r:Int)])∧Qt w w':=by
 refine (EB hy hlo hh).mono ?_;rintro e w' ⟨q2,r2,rfl,_,hr2,h2,hQ⟩;rw [h] at h2;have e1:r=r2:=by
  have:(q*y+r) % y=(q2*y+r2) % y:=by rw [h2]
  rw [Nat.mul_comm,Nat.mul_add_mod,Nat.mod_eq_of_lt hr,Nat.mul_comm,Nat.mul_add_mod,Nat.mod_eq_of_lt hr2] at this;exact this
 subst e1;have e2:q=q2:=Nat.eq_of_mul_eq_mul_right (show 0 < y by omega) (by omega);subst e2;exact ⟨rfl,hQ⟩
theorem RG {b y1 y0 U:Nat} (hg:g*y1+r=U) (hc:g*y0≤b*r+u):g*(y1*b+y0)≤U*b+u:=by
 have h2:g*(y1*b+y0)=g*y1*b+g*y0:=by grind
 have h3:U*b=g*y1*b+r*b:=by rw [←hg]; grind
 have h4:b*r=r*b:=Nat.mul_comm _ _;omega
theorem Qn {W D f t1 t0:Nat} (hW:W=w3*P+lo) (hD:D=d2*P+lo') (hlo:lo' < P) (hw3:w3=(f*B+t1)*B+t0) (hd2:d2=f*B+s) (hs:s < B) (hf:B≤2*f) (hq:W < (q+1)*D):B≤q+2:=by
 refine Classical.byContradiction fun hc => ?_;have hq3:q+1+2≤B:=by omega
 have h1:(q+1)*D≤(q+1)*(d2*P+P):=Nat.mul_le_mul_left _ (by omega);have h2:(q+1)*(d2*P+P)=(q+1)*(d2+1)*P:=by grind
 have h3:w3*P < (q+1)*(d2+1)*P:=by omega
 have h4:w3 < (q+1)*(d2+1):=Nat.lt_of_mul_lt_mul_right h3;have h5:(q+1)*(d2+1)+2*(d2+1)≤B*(d2+1):=by
  rw [←Nat.add_mul];exact Nat.mul_le_mul_right _ hq3
 have h6:B*(d2+1)=f*B*B+s*B+B:=by rw [hd2]; grind
 have h7:w3=f*B*B+t1*B+t0:=by rw [hw3]; grind
 have h8:s*B+B≤B*B:=by
  have:=Nat.mul_le_mul_right B (show s+1≤B from hs);rw [Nat.add_mul] at this;omega
 have h9:B*B≤2*f*B:=Nat.mul_le_mul_right _ hf;have h10:2*(d2+1)=2*f*B+2*s+2:=by rw [hd2]; grind
 omega
theorem TD (_ht:t < 18446744073709551616) (h:p / 18446744073709551616 < r∨(p / 18446744073709551616=r∧p % 18446744073709551616≤t)):p≤18446744073709551616*r+t:=by omega
theorem TE (_ht:t < 18446744073709551616) (h:r < p / 18446744073709551616∨(p / 18446744073709551616=r∧t < p % 18446744073709551616)):18446744073709551616*r+t < p:=by omega
theorem LW {m:Nat} (hl:SlN .u64 w a (n+1) c ls) (hd:SlN .u64 w b n d ds) (bl:W.bnd 18446744073709551616 ls) (bd:W.bnd 18446744073709551616 ds) (h2:n=m+2) (hn:n≤1000000) (hf:9223372036854775808≤ds.getD (m+1) 0)
 (hw3:w3=(ls.getD (m+2) 0*18446744073709551616+ls.getD (m+1) 0)*18446744073709551616+ls.getD m 0) (hd2:d2=ds.getD (m+1) 0*18446744073709551616+ds.getD m 0)
 (hW:W.val 18446744073709551616 ls=w3*P+lo) (hD:W.val 18446744073709551616 ds=d2*P+lo') (hlo:lo < P) (hlo':lo' < P) (hq1:q*W.val 18446744073709551616 ds≤W.val 18446744073709551616 ls) (hq2:W.val 18446744073709551616 ls < (q+1)*W.val 18446744073709551616 ds) (hqb:q < 18446744073709551616) :
 Calls prog 213 #[.slice a (n+1) c, .slice b n d] w fun e w'=>∃ g:Nat,e = .returned (.int .u64 (g:Int))∧q≤g∧g≤q+1∧g < 18446744073709551616∧Qt w w':=by
 subst h2;have k1:=W.digit_hi hW hlo hD hq1;have hfb:=W.bnd_at bd (i:=m+1) (by rw [hd.len]; omega);have hsb:=W.bnd_at bd (i:=m) (by rw [hd.len]; omega);have ht2:=W.bnd_at bl (i:=m+2) (by rw [hl.len]; omega);have ht1:=W.bnd_at bl (i:=m+1) (by rw [hl.len]; omega);have ht0:=W.bnd_at bl (i:=m) (by rw [hl.len]; omega);obtain ⟨b1,o1,rfl,hc1⟩:=hl.at (j:=0) (by omega);obtain ⟨b2,o2,rfl,hc2⟩:=hd.at (j:=0) (by omega);have g0:=hc1 m (by omega);have g1:=hc1 (m+1) (by omega);have g2:=hc1 (m+2) (by omega);have g3:=hc2 (m+1) (by omega);have g4:=hc2 m (by omega);have k2:18446744073709551616≤d2:=by
  rw [hd2];have h1:1*18446744073709551616≤ds.getD (m+1) 0*18446744073709551616:=Nat.mul_le_mul_right _ (by omega);rw [Nat.one_mul] at h1;exact Nat.le_trans h1 (Nat.le_add_right _ _)
 have HTOP:Hid (ls.getD (m+2) 0=ds.getD (m+1) 0→18446744073709551616≤q+2):=by
  show _→_;intro he;exact Qn (B:=18446744073709551616) hW hD hlo' (by rw [hw3,he]) hd2 hsb (by omega) hq2
 have HLO:Hid (∀ e,e*d2≤w3→e≤q+1):=by
  show ∀ e,e*d2≤w3→e≤q+1;intro e he;exact W.digit_lo (by omega) hW hD hlo' hq2 he (by omega)
 have HGT:Hid (ls.getD (m+2) 0≤ds.getD (m+1) 0):=by
  show _≤_;refine Classical.byContradiction fun hc => ?_;have h1:W.val 18446744073709551616 ls < 18446744073709551616*W.val 18446744073709551616 ds:=Nat.lt_of_lt_of_le hq2 (Nat.mul_le_mul_right _ hqb);have h3:18446744073709551616*W.val 18446744073709551616 ds < 18446744073709551616*((d2+1)*P):=Nat.mul_lt_mul_of_pos_left (by rw [hD]; grind) (by omega);have h4:w3*P < 18446744073709551616*((d2+1)*P):=by omega
  have h5:18446744073709551616*((d2+1)*P)=(18446744073709551616*(d2+1))*P:=by grind
  rw [h5] at h4;have h6:=Nat.lt_of_mul_lt_mul_right h4;rw [hw3,hd2] at h6;generalize ls.getD (m+2) 0=t2 at *
  generalize ls.getD (m+1) 0=t1 at *
  generalize ls.getD m 0=t0 at *
  generalize ds.getD (m+1) 0=f at *
  generalize ds.getD m 0=s at *
  have h7:(f+1)*18446744073709551616*18446744073709551616≤t2*18446744073709551616*18446744073709551616:=Nat.mul_le_mul_right _ (Nat.mul_le_mul_right _ (by omega));omega
 clear hW hD hq1 hq2 hlo hlo' hc1 hc2 bl bd hl hd;generalize ls.getD (m+2) 0=t2 at *
 generalize ls.getD (m+1) 0=t1 at *
 generalize ls.getD m 0=t0 at *
 generalize ds.getD (m+1) 0=f at *
 generalize ds.getD m 0=s at *
 have hwn:IntKind.i64.wrap ((m:Int)+2)=(m:Int)+2:=IntWalk.i64_in _ (by omega);have hwn1:IntKind.i64.wrap ((m:Int)+2 - 1)=(m:Int)+1:=by rw [show (m:Int)+2 - 1=(m:Int)+1 by omega]; exact IntWalk.i64_in _ (by omega)
 have hwn2:IntKind.i64.wrap ((m:Int)+2 - 2)=(m:Int):=by rw [show (m:Int)+2 - 2=(m:Int) by omega]; exact IntWalk.i64_in _ (by omega)
 have HGTo:=HGT.out;by_cases ht:t2 < f
 · -- the guess by the first words
   obtain ⟨gU,hgU⟩:∃ gU,(t2*18446744073709551616+t1) / f=gU:=⟨_,rfl⟩;obtain ⟨rU,hrU⟩:∃ rU,(t2*18446744073709551616+t1) % f=rU:=⟨_,rfl⟩;have he:t2*18446744073709551616+t1=gU*f+rU:=by
    have:=Nat.div_add_mod (t2*18446744073709551616+t1) f;rw [hgU,hrU,Nat.mul_comm] at this;exact this.symm
   have hrf:rU < f:=by rw [←hrU]; exact Nat.mod_lt _ (by omega)
   have hgb:gU < 18446744073709551616:=by
    rw [←hgU,Nat.div_lt_iff_lt_mul (by omega)];have:(t2+1)*18446744073709551616≤f*18446744073709551616:=Nat.mul_le_mul_right _ ht;rw [Nat.mul_comm 18446744073709551616 f];omega
   have hdv:=fun wx:World=>KR (w:=wx) hfb ht1 ht hrf he;have HE:=Lib.hid he.symm;have HK1:Hid (q*(f*18446744073709551616+s)≤(t2*18446744073709551616+t1)*18446744073709551616+t0):=by show _≤_; rw [←hw3,←hd2]; exact k1
   have HQ:=Lib.hid (W.guess_hi (b:=18446744073709551616) (y1:=f) (y0:=s) (U:=t2*18446744073709551616+t1) (u:=t0) (q:=q) (g:=gU) (r:=rU) HE.out HK1.out ht0 hrf);have HDN:Hid (∀ g r,g*f+r=t2*18446744073709551616+t1→18446744073709551616*r+t0 < g*s→q < g):=by
    show ∀ g r,g*f+r=t2*18446744073709551616+t1→18446744073709551616*r+t0 < g*s→q < g;exact fun g r h1 h2=>W.guess_down (b:=18446744073709551616) (y1:=f) (y0:=s) (U:=t2*18446744073709551616+t1) (u:=t0) (q:=q) (g:=g) (r:=r) h1 HK1.out hqb (Or.inr h2)
   have HOK:Hid (∀ g r,g*f+r=t2*18446744073709551616+t1→g*s≤18446744073709551616*r+t0→g≤q+1):=by
    show ∀ g r,g*f+r=t2*18446744073709551616+t1→g*s≤18446744073709551616*r+t0→g≤q+1;intro g r h1 h2;refine HLO.out g ?_;rw [hw3,hd2];exact RG h1 h2
   clear hgU hrU he HK1 HLO HTOP HGT HGTo hw3 hd2 k1 k2
   go_enter func213,ntmps213
   go_wp2
   go_quiet (fail)
   have g0':(w.drewN nq).cell? ⟨b1,o1+m,none⟩=some (.int .u64 (t0:Int)):=g0;have g1':(w.drewN nq).cell? ⟨b1,o1+(m+1),none⟩=some (.int .u64 (t1:Int)):=g1;have g2':(w.drewN nq).cell? ⟨b1,o1+(m+2),none⟩=some (.int .u64 (t2:Int)):=g2;have hQ1:Qt w (w.drewN nq):=(Qt.refl w).drewN _;generalize w.drewN nq=w2 at *
   clear g0 g1 g2 g3 g4
   go_wp2_with fail
   go_quiet ((exact Calls.quiet_of (hdv _)))
   have g0:(w2.drewN nq).cell? ⟨b1,o1+m,none⟩=some (.int .u64 (t0:Int)):=g0';have hQ2:Qt w (w2.drewN nq):=hQ1.drewN _;generalize w2.drewN nq=w3 at *
   clear g0' g1' g2' hQ1 hdv;go_wp2;rw [show decide (f≤t2)=false by simp; omega]
   go_loopw [8,9] (fun gv rv wr=>∃ g r:Nat,gv = .int .u64 (g:Int)∧rv = .int .u64 (r:Int)∧Hid (g*f+r=t2*18446744073709551616+t1)∧Hid (q≤g)∧g < 18446744073709551616∧r < 18446744073709551616∧wr=w3) (fun gv _ _=>(intOf gv).toNat)
   case atStart=>exact ⟨gU,rU,rfl,rfl,HE,HQ,hgb,by omega,rfl⟩
   case round =>
    clear HE HQ hgb hrf;obtain ⟨g,r,rfl,rfl,HE,HQ,hgb,hrb,rfl⟩:=hrel;have hmul:=Jj (x:=g) (y:=s) hgb hsb;obtain ⟨ph,hph⟩:∃ ph,g*s / 18446744073709551616=ph:=⟨_,rfl⟩;obtain ⟨pl,hpl⟩:∃ pl,g*s % 18446744073709551616=pl:=⟨_,rfl⟩;rw [hph,hpl] at hmul;by_cases hc:ph < r∨(ph=r∧pl≤t0)
    · have HF:Hid (g≤q+1):=HOK.out g r HE.out (TD ht0 (by rw [hph,hpl]; exact hc));have hpick:(ph:Int) < r∨((r:Int)≤(ph:Int)∧((ph:Int) == (r:Int))=true∧(pl:Int)≤t0):=by
       rcases hc with h | ⟨h1,h2⟩
       · left; omega
       · right; exact ⟨by omega,by simp; omega,by omega⟩
      clear hc hph hpl;rcases hpick with h1 | ⟨h1,h2,h3⟩
      all_goals
       go_wp2_with (go_at_call 204; refine (hmul _).mono ?_; rintro e w1 ⟨rfl,rfl⟩)
       go_ret;exact ⟨g,rfl,HQ.out,HF.out,hgb,hQ2⟩
    · have hp:r < ph∨(ph=r∧t0 < pl):=by omega
      have HD:=Lib.hid (HDN.out g r HE.out (TE ht0 (by rw [hph,hpl]; exact hp)));obtain ⟨g2,rfl⟩:∃ g2,g=g2+1:=⟨g - 1,by have:=HD.out; omega⟩;have hw1:IntKind.u64.wrap ((g2:Int)+1 - 1)=g2:=Ah (by omega) (by omega);have HE2:Hid (g2*f+(r+f)=t2*18446744073709551616+t1):=by
       have h1:=HE.out;show _=_;rw [←h1]
       grind
      have hw1':IntKind.u64.wrap (g2:Int)=g2:=Ah (by omega) (by omega);have HQ2:Hid (q≤g2):=by have:=HD.out; show _≤_; omega
      have hpick:((r:Int)≤(ph:Int)∧((ph:Int) == (r:Int))=false)∨((r:Int)≤(ph:Int)∧((ph:Int) == (r:Int))=true∧(t0:Int) < pl):=by
       rcases hp with h | ⟨h1,h2⟩
       · left; exact ⟨by omega,by simp; omega⟩
       · right; exact ⟨by omega,by simp; omega,by omega⟩
      clear hc hp hph hpl;by_cases hov:r+f < 18446744073709551616
      · obtain ⟨r2,hr2⟩:∃ r2,r+f=r2:=⟨_,rfl⟩;rw [hr2] at HE2 hov;have hw2:IntKind.u64.wrap ((r:Int)+(f:Int))=(r2:Int):=Ah (by omega) hov;have hge:(f:Int)≤(r2:Int):=by omega
        clear hr2;rcases hpick with ⟨h1,h2⟩ | ⟨h1,h2,h3⟩
        all_goals
         go_wp2_with (go_at_call 204; refine (hmul _).mono ?_; rintro e w1 ⟨rfl,rfl⟩)
         go_roundw
         case rel=>exact ⟨g2,r2,by go_num,rfl,HE2,HQ2,by omega,hov,trivial⟩
         case measure=>simp [intOf]
      · have HF:Hid (g2≤q+1):=HOK.out g2 (r+f) HE2.out (by
         have h1:g2*s≤18446744073709551616*s:=Nat.mul_le_mul_right _ (by omega);have h2:18446744073709551616*s≤18446744073709551616*(r+f):=Nat.mul_le_mul_left _ (by omega)
         omega)
        have hw2:IntKind.u64.wrap ((r:Int)+(f:Int))=((r+f - 18446744073709551616:Nat):Int):=by
         rw [IntKind.wrap_u64];omega
        have hlt:((r+f - 18446744073709551616:Nat):Int) < f:=by omega
        generalize r+f - 18446744073709551616=r2 at *
        rcases hpick with ⟨h1,h2⟩ | ⟨h1,h2,h3⟩
        all_goals
         go_wp2_with (go_at_call 204; refine (hmul _).mono ?_; rintro e w1 ⟨rfl,rfl⟩)
         go_ret;exact ⟨g2,rfl,HQ2.out,HF.out,by omega,hQ2⟩
 · have he:t2=f:=by omega
   have hB:=HTOP.out he;subst he
   go_enter func213,ntmps213
   go_wp2
   go_quiet (fail)
   have g2':(w.drewN nq).cell? ⟨b1,o1+(m+2),none⟩=some (.int .u64 (t2:Int)):=g2;have hQ:Qt w (w.drewN nq):=(Qt.refl w).drewN _;generalize w.drewN nq=w2 at *
   go_wp2;go_ret;exact ⟨18446744073709551615,rfl,by omega,by omega,by omega,hQ⟩
end Go.Proofs.YtlpgonpfjbhmfaaGreatDoor
