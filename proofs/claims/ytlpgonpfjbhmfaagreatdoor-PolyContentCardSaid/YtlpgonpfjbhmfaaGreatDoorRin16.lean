/- Part Rin16. -/
import Derived.Test.YtlpgonpfjbhmfaaGreatDoorRin13
import Derived.Test.YtlpgonpfjbhmfaaGreatDoorRin1
import Derived.Lib.ConvBytes
import Derived.Laws.IdiomStrings
import Derived.Lib.ItoaNum
import Derived.Shelf.Strconv.AppendInt10
import Derived.Shelf.Strconv.Itoa4
import Derived.Test.YtlpgonpfjbhmfaaGreatDoorRin2
import Derived.Deep.AppendSrc
set_option maxRecDepth 100000
set_option maxHeartbeats 100000000
namespace Go.Proofs.YtlpgonpfjbhmfaaGreatDoor
open Go Go.RowKit
theorem neg_pow (a:Nat):∀ e:Nat,(-(a:Int))^e=if e%2=1 then -((a^e:Nat):Int) else ((a^e:Nat):Int)
 | 0=>by simp
 | e+1=>by
  rw [Int.pow_succ,neg_pow a e];by_cases h:e%2=1
  · rw [if_pos h,if_neg (by omega),Nat.pow_succ]; push_cast; grind
  · rw [if_neg h,if_pos (by omega),Nat.pow_succ]; push_cast; grind
theorem sg_pow {z:Int} {e:Nat} {s:Bool} (hs:decide (z<0)=s):z^e=if (s && decide (e%2=1))=true then -((z.natAbs^e:Nat):Int) else ((z.natAbs^e:Nat):Int):=by
 subst hs;by_cases h:z<0
 · have h0:z = -(z.natAbs:Int):=by omega
   have h1:=neg_pow z.natAbs e;rw [←h0] at h1;rw [h1];simp [h]
 · have h0:z=(z.natAbs:Int):=by omega
   have h1:z^e=((z.natAbs^e:Nat):Int):=by rw [Int.natCast_pow,←h0]
   rw [h1];simp [h]
theorem int_Pow {v:Value} {z:Int} {e:Nat} {w:World} (h:IntR w v z) (bz:z.natAbs<P2 2496) (he:e<18446744073709551616) (hb:z.natAbs^e<P2 4990):Calls Tryz.prog 97 #[v, .int .u64 e] w (RetI w (z^e)):=by
 obtain ⟨s,a,n,c,rfl,HS,hx⟩:=h;have hpw:=fun (wx:World) (hC:Ext w wx)=>qh (int_powerWords (hx.ext hC) bz he hb);have hand:bits BinOp.and IntKind.u64 (e:Int) 1=((e%2:Nat):Int):=by
  have:=bits_and_u64_nat e 1 he (by omega);rw [Nat.and_one_is_mod] at this;exact this
 have HPW:=qh (sg_pow (e:=e) HS.out);clear bz hb;obtain ⟨x,hxe⟩:∃ x,z.natAbs^e=x:=⟨_,rfl⟩;rw [hxe] at HPW;have hpw':=fun (wx:World) (hC:Ext w wx)=>by have:=hpw wx hC; rw [hxe] at this; exact this
 clear hpw hxe;cases s with
 | true =>
  by_cases hodd:e%2=1
  · rw [hodd] at hand;have HP2:Hid (z^e=if true=true then -(x:Int) else (x:Int)):=by show _=_; have:=HPW.out; simpa [hodd] using this
    clear HPW hodd
    go_enter Tryz.func97,Tryz.ntmps97
    go_upto_region 1 with (fail)
    refine box2 ?_;intro w0 hE0 hB0 hB1 hz0;have p00:=hB0.c 0 rfl;have p01:=hB0.c 1 rfl;have hR:Arr w0 (w.heap.size+1) 90 (intL false none 0 0):=hB1;clear hz0
    go_wp2_with fail
    refine (hpw' _ hE0).out.mono ?_;rintro e2 w1 ⟨a2,n2,c2,rfl,hE1,hp⟩;have hsg:=qh (int_signed (neg:=true) hp HP2.out)
    go_wp2_with fail
    refine hsg.out.mono ?_;rintro e2 w2 ⟨s1,a1,n1,c1,rfl,hE2,HS1,hx1⟩;have hR1:=(hR.ext hE1).ext hE2
    go_wp2_with (refine wl_stArr (vs:=intL s1 a1 n1 c1) rfl rfl rfl rfl rfl agg_Int hR1 rfl (intL_one _ _ _ _) ?_; intro w9 hB9 hg9)
    exact bodyPost_ret (res_arr rfl agg_Int rfl hB9) rfl (retI_of ((hE0.trans hE1).trans hE2) hR1 (intL_nu _ _ _ _) hg9 (by omega) HS1 hx1)
  · have h0:e%2=0:=by omega
    rw [h0] at hand;have HP2:Hid (z^e=if false=true then -(x:Int) else (x:Int)):=by show _=_; have:=HPW.out; simpa [h0] using this
    clear HPW hodd h0
    go_enter Tryz.func97,Tryz.ntmps97
    go_upto_region 1 with (fail)
    refine box2 ?_;intro w0 hE0 hB0 hB1 hz0;have p00:=hB0.c 0 rfl;have p01:=hB0.c 1 rfl;have hR:Arr w0 (w.heap.size+1) 90 (intL false none 0 0):=hB1;clear hz0
    go_wp2_with fail
    refine (hpw' _ hE0).out.mono ?_;rintro e2 w1 ⟨a2,n2,c2,rfl,hE1,hp⟩;have hsg:=qh (int_signed (neg:=false) hp HP2.out)
    go_wp2_with fail
    refine hsg.out.mono ?_;rintro e2 w2 ⟨s1,a1,n1,c1,rfl,hE2,HS1,hx1⟩;have hR1:=(hR.ext hE1).ext hE2
    go_wp2_with (refine wl_stArr (vs:=intL s1 a1 n1 c1) rfl rfl rfl rfl rfl agg_Int hR1 rfl (intL_one _ _ _ _) ?_; intro w9 hB9 hg9)
    exact bodyPost_ret (res_arr rfl agg_Int rfl hB9) rfl (retI_of ((hE0.trans hE1).trans hE2) hR1 (intL_nu _ _ _ _) hg9 (by omega) HS1 hx1)
 | false =>
  have HP2:Hid (z^e=if false=true then -(x:Int) else (x:Int)):=by show _=_; have:=HPW.out; simpa using this
  clear HPW hand
  go_enter Tryz.func97,Tryz.ntmps97
  go_upto_region 1 with (fail)
  refine box2 ?_;intro w0 hE0 hB0 hB1 hz0;have p00:=hB0.c 0 rfl;have p01:=hB0.c 1 rfl;have hR:Arr w0 (w.heap.size+1) 90 (intL false none 0 0):=hB1;clear hz0
  go_wp2_with fail
  refine (hpw' _ hE0).out.mono ?_;rintro e2 w1 ⟨a2,n2,c2,rfl,hE1,hp⟩;have hsg:=qh (int_signed (neg:=false) hp HP2.out)
  go_wp2_with fail
  refine hsg.out.mono ?_;rintro e2 w2 ⟨s1,a1,n1,c1,rfl,hE2,HS1,hx1⟩;have hR1:=(hR.ext hE1).ext hE2
  go_wp2_with (refine wl_stArr (vs:=intL s1 a1 n1 c1) rfl rfl rfl rfl rfl agg_Int hR1 rfl (intL_one _ _ _ _) ?_; intro w9 hB9 hg9)
  exact bodyPost_ret (res_arr rfl agg_Int rfl hB9) rfl (retI_of ((hE0.trans hE1).trans hE2) hR1 (intL_nu _ _ _ _) hg9 (by omega) HS1 hx1)
def as64 (z:Int):Value:=if -9223372036854775808≤z∧z≤9223372036854775807 then .tuple #[.int .i64 z, .bool true] else .tuple #[.int .i64 0, .bool false]
theorem as64_in {z:Int} (h : -9223372036854775808≤z∧z≤9223372036854775807):as64 z = .tuple #[.int .i64 z, .bool true]:=if_pos h
theorem as64_out {z:Int} (h:¬ (-9223372036854775808≤z∧z≤9223372036854775807)):as64 z = .tuple #[.int .i64 0, .bool false]:=if_neg h
theorem int_Int64 {v:Value} {z:Int} {w:World} (h:IntR w v z):Calls Tryz.prog 104 #[v] w fun e w'=>e = .returned (as64 z)∧Ext w w':=by
 obtain ⟨s,a,n,c,rfl,HS,hx⟩:=h;have hn0:=hx.zero;rcases Nat.lt_or_ge n 2 with hn2|hn2
 · by_cases hn:n=0
   · have HZ:Hid (as64 z = .tuple #[.int .i64 0, .bool true]):=by
      have h0:z=0:=by have:=hn0.1 hn; omega
      rw [h0];exact qh (as64_in (by omega))
     subst hn;clear hn0 hn2
     go_enter Tryz.func104,Tryz.ntmps104
     go_upto_region 1 with (fail)
     refine box1 ?_;intro w0 hE0 hB0 hz0;have p00:=hB0.c 0 rfl;have p01:=hB0.c 1 rfl;clear hz0;go_wp2
     go_ret2
     exact ⟨by rw [HZ.out]; rfl,hE0⟩
   · have hn1:n=1:=by omega
     subst hn1;obtain ⟨b,o,rfl,hc,k1,k2⟩:=hx.one;have hx1:(z.natAbs:Int)=if s=true then -z else z:=by have:=HS.out; cases s <;> simp at this ⊢ <;> omega
     clear hn0 hn hn2;cases s with
     | true =>
      simp only [if_true] at hx1;by_cases hr:z.natAbs≤9223372036854775808
      · have HZ:=qh (as64_in (z:=z) (by omega));have hwr:IntKind.i64.wrap (IntKind.u64.wrap (-(z.natAbs:Int)))=z:=by rw [IntKind.wrap_u64,IntKind.wrap_i64]; omega
        have hle:(z.natAbs:Int)≤9223372036854775808:=by omega
        generalize z.natAbs=x at *
        clear hr hx1
        go_enter Tryz.func104,Tryz.ntmps104
        go_upto_region 1 with (fail)
        refine box1 ?_;intro w0 hE0 hB0 hz0;have p00:=hB0.c 0 rfl;have p01:=hB0.c 1 rfl;have hc0:=hE0.cell hc;clear hc;clear hz0;go_wp2
        go_ret2
        exact ⟨by rw [HZ.out,←hwr]; rfl,hE0⟩
      · have HZ:=qh (as64_out (z:=z) (by omega));have hle:¬ ((z.natAbs:Int)≤9223372036854775808):=by omega
        generalize z.natAbs=x at *
        clear hr hx1
        go_enter Tryz.func104,Tryz.ntmps104
        go_upto_region 1 with (fail)
        refine box1 ?_;intro w0 hE0 hB0 hz0;have p00:=hB0.c 0 rfl;have p01:=hB0.c 1 rfl;have hc0:=hE0.cell hc;clear hc;clear hz0;go_wp2
        go_ret2
        exact ⟨by rw [HZ.out]; rfl,hE0⟩
     | false =>
      simp only [Bool.false_eq_true,if_false] at hx1;by_cases hr:z.natAbs≤9223372036854775807
      · have HZ:=qh (as64_in (z:=z) (by omega));have hwr:IntKind.i64.wrap (z.natAbs:Int)=z:=by rw [IntKind.wrap_i64]; omega
        have hle:(z.natAbs:Int)≤9223372036854775807:=by omega
        generalize z.natAbs=x at *
        clear hr hx1
        go_enter Tryz.func104,Tryz.ntmps104
        go_upto_region 1 with (fail)
        refine box1 ?_;intro w0 hE0 hB0 hz0;have p00:=hB0.c 0 rfl;have p01:=hB0.c 1 rfl;have hc0:=hE0.cell hc;clear hc;clear hz0;go_wp2
        go_ret2
        exact ⟨by rw [HZ.out,←hwr]; rfl,hE0⟩
      · have HZ:=qh (as64_out (z:=z) (by omega));have hle:¬ ((z.natAbs:Int)≤9223372036854775807):=by omega
        generalize z.natAbs=x at *
        clear hr hx1
        go_enter Tryz.func104,Tryz.ntmps104
        go_upto_region 1 with (fail)
        refine box1 ?_;intro w0 hE0 hB0 hz0;have p00:=hB0.c 0 rfl;have p01:=hB0.c 1 rfl;have hc0:=hE0.cell hc;clear hc;clear hz0;go_wp2
        go_ret2
        exact ⟨by rw [HZ.out]; rfl,hE0⟩
 · have hbig:=hx.big hn2;have HZ:=qh (as64_out (z:=z) (by omega));obtain ⟨xs,h1,h2⟩:=hx;obtain ⟨b,o,rfl,hcc⟩:=h1.at (j:=0) (by omega);have hc:=hcc 0 (by omega);rw [Nat.add_zero] at hc;have hnb:((n:Int) == 0)=false:=by simp; omega
   have hgt:(1:Int)<(n:Int):=by omega
   generalize xs.getD 0 0=x at *
   clear hbig hn0 hcc
   go_enter Tryz.func104,Tryz.ntmps104
   go_upto_region 1 with (fail)
   refine box1 ?_;intro w0 hE0 hB0 hz0;have p00:=hB0.c 0 rfl;have p01:=hB0.c 1 rfl;have hc0:=hE0.cell hc;clear hc;clear hz0;go_wp2
   go_ret2
   exact ⟨by rw [HZ.out]; rfl,hE0⟩
def byteV (b:UInt8):Value := .int .u8 (b.toNat:Int)
def strL (s:ByteArray):List UInt8:=s.data.toList
theorem strL_len (s:ByteArray):(strL s).length=s.size:=by unfold strL; rw [Array.length_toList]; rfl
theorem strL_mk (l:List UInt8):strL ⟨l.toArray⟩=l:=rfl
theorem str_ext {s t:ByteArray} (h:strL s=strL t):s=t:=by
 cases s with | mk a=>cases t with | mk b =>
 unfold strL at h;simp only at h;have:=Array.ext' h;rw [this]
theorem strL_extract (s:ByteArray) (i j:Nat):strL (s.extract i j)=((strL s).drop i).take (j-i):=by
 unfold strL;rw [ByteArray.data_extract,Array.toList_extract]
theorem byteV_one (l:List UInt8):∀ v∈l.map byteV,v.oneCell'=true:=by
 intro v hv;obtain ⟨b,_,rfl⟩:=List.mem_map.1 hv;rfl
section
variable {P:Program} {w:World}
theorem run_toBytes {src dst e:TypeId} {s:ByteArray} {u:TypeDesc} (hs:P.underlying src=some u) (hd:P.underlying dst=some (.slice e)) (he:P.underlying e=some (.int .u8)) (hm:s.size≤maxLen) :
 ∃ c w',(convert src dst (.string s)).run P w = .ok (.slice (some ⟨w.heap.size,0,none⟩) s.size c) w'∧Ext w w'∧Sl w' (some ⟨w.heap.size,0,none⟩) s.size c ((strL s).map byteV):=by
 refine ⟨_,_,Lib.run_convert_string_bytes w src dst e s hs hd he, ?_, ?_⟩
 · refine ⟨rfl,rfl,rfl,by rw [Lib.bytesWorld_size]; omega,fun k hk=>Lib.bytesWorld_at_old w e s k hk⟩
 · refine ⟨by rw [List.length_map,strL_len],grownCap_ge w s.size 0 e,grownCap_le_maxLen w s.size 0 e hm,fun _=>⟨w.heap.size,0,rfl,fun i hi => ?_⟩⟩;rw [Nat.zero_add,Lib.bytesWorld_cell w e s i hi];have h1:i<(strL s).length:=by rw [strL_len]; exact hi
   have h2:s.data.toList.getD i 0=(strL s)[i]:=by
    show (strL s).getD i 0=_;rw [List.getD_eq_getElem?_getD,List.getElem?_eq_getElem h1];rfl
   rw [h2];simp [List.getD_eq_getElem?_getD,h1,byteV]
theorem wl_toBytes {ops:Array Oper} {rest:List Oper} {o:Oper} {f:Act} {Q:Exit→Act→World→Prop} {x:Operand} {src dst:TypeId} (hgd:o.guard=none) (ho:o.op = .convert src dst x)
 {e:TypeId} {s:ByteArray} {u:TypeDesc} (hs:P.underlying src=some u) (hd:P.underlying dst=some (.slice e)) (he:P.underlying e=some (.int .u8)) (hx:f.eval x = .string s) (hm:s.size≤maxLen)
 (hK:∀ c w',Ext w w'→Sl w' (some ⟨w.heap.size,0,none⟩) s.size c ((strL s).map byteV)→wpList P ops Q rest (f.put o.dst (.slice (some ⟨w.heap.size,0,none⟩) s.size c)) w'):wpList P ops Q (o :: rest) f w:=by
 refine wpList_plain hgd fun K hK' => ?_;obtain ⟨c,w',hrun,h2,h3⟩:=run_toBytes (P:=P) (w:=w) hs hd he hm;unfold Oper.wp execOp;simp only [ho,hx,Sem.run_bind,hrun,Result.andThen_ok,Sem.run_pure,Oper.upon];exact hK' _ _ (hK c w' h2 h3)
theorem run_fromBytes {src dst e:TypeId} {a:Option Addr} {n c:Nat} {l:List UInt8} (hs:P.underlying src=some (.slice e)) (he:P.underlying e=some (.int .u8)) (hd:P.underlying dst=some .string) (hl:Sl w a n c (l.map byteV)) :
 (convert src dst (.slice a n c)).run P w = .ok (.string ⟨l.toArray⟩) w:=by
 have hn:n=l.length:=by have:=hl.len; simpa using this.symm
 subst hn;cases a with
 | none =>
  have h0:l=[]:=by
   rcases Nat.eq_zero_or_pos l.length with h|h
   · exact List.eq_nil_of_length_eq_zero h
   · obtain ⟨b,o,h1,_⟩:=hl.rd h;cases h1
  subst h0;show (convert src dst (.slice none 0 c)).run P w=_;rw [run_convert_bytes_string w src dst e none 0 c hs he hd];simp [Conv.bytesToString];rfl
 | some ad =>
  refine run_convert_bytes_back w src dst e ad c l hs he hd fun j hj => ?_;obtain ⟨b,o,h1,hc⟩:=hl.rd (by omega);simp only [Option.some.injEq] at h1;subst h1;have h2:=hc j hj;have h3:(l.map byteV).getD j undef = .int .u8 (l[j].toNat:Int):=by simp [List.getD_eq_getElem?_getD,hj,byteV]
  rw [h3] at h2;rw [←h2];unfold Addr.add;by_cases h0:j=0 <;> simp [h0]
theorem wl_fromBytes {ops:Array Oper} {rest:List Oper} {o:Oper} {f:Act} {Q:Exit→Act→World→Prop} {x:Operand} {src dst:TypeId} (hgd:o.guard=none) (ho:o.op = .convert src dst x)
 {e:TypeId} {a:Option Addr} {n c:Nat} {l:List UInt8} (hs:P.underlying src=some (.slice e)) (he:P.underlying e=some (.int .u8)) (hd:P.underlying dst=some .string) (hx:f.eval x = .slice a n c) (hl:Sl w a n c (l.map byteV))
 (hK:wpList P ops Q rest (f.put o.dst (.string ⟨l.toArray⟩)) w):wpList P ops Q (o :: rest) f w:=by
 refine wpList_plain hgd fun K hK' => ?_;have hrun:=run_fromBytes (P:=P) (w:=w) hs he hd hl;unfold Oper.wp execOp;simp only [ho,hx,Sem.run_bind,hrun,Result.andThen_ok,Sem.run_pure,Oper.upon];exact hK' _ _ hK
end
end Go.Proofs.YtlpgonpfjbhmfaaGreatDoor
namespace Go.Proofs.YtlpgonpfjbhmfaaGreatDoor.W
open Go
def decV (l:List UInt8):Nat:=l.foldl (fun n c=>10*n+(c.toNat-48)) 0
def isDig (c:UInt8):Prop:=48≤c.toNat∧c.toNat≤57
def digs (l:List UInt8):Prop:=∀ c∈l,isDig c
theorem decV_snoc (l:List UInt8) (c:UInt8):decV (l ++ [c])=10*decV l+(c.toNat-48):=by simp [decV]
theorem foldl_shift:∀ (l:List UInt8) (n:Nat),l.foldl (fun n c=>10*n+(c.toNat-48)) n=n*10^l.length+decV l
 | [],n=>by simp [decV]
 | c :: r,n=>by
  have h1:=foldl_shift r (10*n+(c.toNat-48));have h2:=foldl_shift r (10*0+(c.toNat-48));have h3:decV (c :: r)=r.foldl (fun n c=>10*n+(c.toNat-48)) (10*0+(c.toNat-48)):=rfl;rw [List.foldl_cons,h1,h3,h2,List.length_cons,Nat.pow_succ]
  grind
theorem decV_app (a b:List UInt8):decV (a ++ b)=decV a*10^b.length+decV b:=by
 have:decV (a ++ b)=b.foldl (fun n c=>10*n+(c.toNat-48)) (decV a):=by simp [decV]
 rw [this,foldl_shift]
theorem decV_cons (c:UInt8) (r:List UInt8):decV (c :: r)=(c.toNat-48)*10^r.length+decV r:=by
 have:=decV_app [c] r;simpa [decV] using this
theorem decV_lt:∀ {l:List UInt8},digs l→decV l<10^l.length
 | [],_=>by simp [decV]
 | c :: r,h=>by
  have h1:=decV_lt (l:=r) (fun x hx=>h x (by simp [hx]));have h2:=h c (by simp);rw [decV_cons,List.length_cons,Nat.pow_succ];have h3:(c.toNat-48)*10^r.length≤9*10^r.length:=Nat.mul_le_mul_right _ (by have:=h2.2; omega);omega
theorem toNat_ofNat {n:Nat} (h:n<256):(UInt8.ofNat n).toNat=n:=by simp; omega
theorem digs_dec (n:Nat):digs (Lib.decDigits n):=by
 induction n using Nat.strongRecOn with
 | _ n ih =>
  rw [Lib.decDigits];split
  · intro c hc;simp only [List.mem_singleton] at hc;subst hc;unfold isDig;rw [toNat_ofNat (by omega)];omega
  · intro c hc;rcases List.mem_append.1 hc with h|h
    · exact ih (n/10) (by omega) c h
    · simp only [List.mem_singleton] at h;subst h;unfold isDig;rw [toNat_ofNat (by omega)];omega
theorem decV_dec (n:Nat):decV (Lib.decDigits n)=n:=by
 induction n using Nat.strongRecOn with
 | _ n ih =>
  rw [Lib.decDigits];split
  · simp only [decV,List.foldl];rw [toNat_ofNat (by omega)];omega
  · rw [decV_snoc,ih (n/10) (by omega),toNat_ofNat (by omega)];omega
theorem dec_ne (n:Nat):Lib.decDigits n≠[]:=by
 rw [Lib.decDigits];split <;> simp
theorem dec_zero:Lib.decDigits 0=[48]:=by rw [Lib.decDigits]; rfl
theorem dec_head {n:Nat} (h:0<n):∃ c r,Lib.decDigits n=c :: r∧c≠48:=by
 induction n using Nat.strongRecOn with
 | _ n ih =>
  rw [Lib.decDigits];split
  · refine ⟨_,[],rfl,fun hc => ?_⟩;have:=congrArg UInt8.toNat hc;rw [toNat_ofNat (by omega)] at this;simp at this;omega
  · obtain ⟨c,r,e,hc⟩:=ih (n/10) (by omega) (by omega);exact ⟨c,r ++ [UInt8.ofNat (48+n%10)],by rw [e]; rfl,hc⟩
theorem dig_back {c:UInt8} (h:isDig c):UInt8.ofNat (48+(c.toNat-48))=c:=by
 apply UInt8.toNat_inj.1;rw [toNat_ofNat (by have:=h.2; omega)];have:=h.1;omega
theorem dec_of_digs:∀ {l:List UInt8} (_:digs l) (_:l≠[]) (_:∀ c r,l=c :: r→c=48→r=[]),Lib.decDigits (decV l)=l:=by
 intro l
 induction h:l.length using Nat.strongRecOn generalizing l with
 | _ n ih =>
  intro hd hne hz;obtain ⟨a,c,rfl⟩:∃ a c,l=a ++ [c]:=⟨l.dropLast,l.getLast hne,(List.dropLast_concat_getLast hne).symm⟩;have hc:isDig c:=hd c (by simp);by_cases ha:a=[]
  · subst ha;have e:decV ([] ++ [c])=c.toNat-48:=by simp [decV]
    rw [e,Lib.decDigits,dif_pos (by have:=hc.2; omega),dig_back hc];rfl
  · have hda:digs a:=fun x hx=>hd x (by simp [hx]);have hza:∀ c' r,a=c' :: r→c'=48→r=[]:=by
     intro c' r e e0;subst e;have:=hz c' (r ++ [c]) rfl e0;simp at this
    have ih':=ih a.length (by rw [←h]; simp) rfl hda ha hza;have hpos:0<decV a:=by
     rcases Nat.eq_zero_or_pos (decV a) with h0|h0
     · rw [h0,dec_zero] at ih';have:=hz 48 [c] (by rw [←ih']; rfl) rfl;simp at this
     · exact h0
    rw [decV_snoc,Lib.decDigits,dif_neg (by omega)];have h1:(10*decV a+(c.toNat-48))/10=decV a:=by have:=hc.2; omega
    have h2:(10*decV a+(c.toNat-48))%10=c.toNat-48:=by have:=hc.2; omega
    rw [h1,h2,ih',dig_back hc]
def decPad (k n:Nat):List UInt8:=List.replicate (k-(Lib.decDigits n).length) 48 ++ Lib.decDigits n
theorem decV_zeros:∀ k,decV (List.replicate k 48)=0
 | 0=>rfl
 | k+1=>by rw [List.replicate_succ',decV_snoc,decV_zeros k]; rfl
theorem dec_len {n k:Nat} (h:n<10^k) (hk:0<k):(Lib.decDigits n).length≤k:=by
 induction n using Nat.strongRecOn generalizing k with
 | _ n ih =>
  rw [Lib.decDigits];split
  · simp; omega
  · have:2≤k:=by
     rcases Nat.lt_or_ge k 2 with h2|h2
     · have:k=1:=by omega
       subst this;omega
     · exact h2
    have h3:=ih (n/10) (by omega) (k:=k-1) (by
     rw [Nat.div_lt_iff_lt_mul (by omega),←Nat.pow_succ,show (k-1).succ=k by omega]
     exact h) (by omega)
    simp;omega
theorem decPad_len {k n:Nat} (h:n<10^k) (hk:0<k):(decPad k n).length=k:=by
 have:=dec_len h hk;simp [decPad];omega
theorem dec_split {k a b:Nat} (ha:0<a) (hb:b<10^k) (hk:0<k):Lib.decDigits (a*10^k+b)=Lib.decDigits a ++ decPad k b:=by
 have hd:digs (Lib.decDigits a ++ decPad k b):=by
  intro c hc;rcases List.mem_append.1 hc with h|h
  · exact digs_dec a c h
  · rcases List.mem_append.1 h with h|h
    · rw [(List.mem_replicate.1 h).2]; exact ⟨by decide,by decide⟩
    · exact digs_dec b c h
 have hv:decV (Lib.decDigits a ++ decPad k b)=a*10^k+b:=by
  rw [decV_app,decV_dec,decPad_len hb hk];unfold decPad;rw [decV_app,decV_zeros,decV_dec];omega
 obtain ⟨c,r,e,hc⟩:=dec_head ha;rw [←hv];refine dec_of_digs hd (by rw [e]; simp) ?_;intro c' r' e' e0;rw [e] at e';simp only [List.cons_append,List.cons.injEq] at e';exact absurd (e'.1.trans e0) hc
end Go.Proofs.YtlpgonpfjbhmfaaGreatDoor.W
namespace Go.Proofs.YtlpgonpfjbhmfaaGreatDoor
open Go Go.RowKit
theorem nrm_of_ge {B:Nat} {zs:List Nat} {n:Nat} (hl:zs.length=n+1) (hb:W.bnd B zs) (hv:B^n≤W.val B zs):W.nrm zs:=by
 intro hne h0;rw [List.getLast_eq_getElem] at h0;have h1:=val_last (B:=B) hl;have h2:=take_lt hb (m:=n) (by omega);have h3:zs.getD n 0=zs[zs.length-1]'(by omega):=by
  have:zs.length-1=n:=by omega
  simp [List.getD_eq_getElem?_getD,this,show n<zs.length by omega]
 rw [h3,h0,Nat.zero_mul,Nat.zero_add] at h1;omega
theorem chunk_lt {l:List UInt8} (hd:W.digs l) (hl:l.length≤19):W.decV l<10000000000000000000:=by
 have h1:=W.decV_lt hd;have h2:10^l.length≤10^19:=Nat.pow_le_pow_right (by omega) hl;omega
theorem take_digs {l:List UInt8} (hd:W.digs l) (k:Nat):W.digs (l.take k):=fun c hc=>hd c (List.mem_of_mem_take hc)
theorem drop_digs {l:List UInt8} (hd:W.digs l) (k:Nat):W.digs (l.drop k):=fun c hc=>hd c (List.mem_of_mem_drop hc)
theorem mulp_step {B:Nat} {zs xs:List Nat} {k d u c c' V:Nat} (hk:k<zs.length) (hx:k<xs.length) (h:W.val B (zs.take k)+c*B^k=u*W.val B (xs.take k)+V) (e:d+B*c'=xs.getD k 0*u+c) :
 W.val B ((zs.set k d).take (k+1))+c'*B^(k+1)=u*W.val B (xs.take (k+1))+V:=by
 have e1:W.val B ((zs.set k d).take (k+1))=W.val B (zs.take k)+B^k*d:=by
  rw [W.val_take_succ (by simpa using hk)];congr 1
  · rw [List.take_set_of_le (Nat.le_refl _)]
  · simp [List.getD_eq_getElem?_getD,hk]
 rw [e1,W.val_take_succ hx,Nat.pow_succ];have e2:B^k*(d+B*c')=B^k*(xs.getD k 0*u+c):=by rw [e]
 grind
theorem int_parseSimple {s:ByteArray} {w:World} (hd:W.digs (strL s)) (hs:s.size≤600) :
 Calls Tryz.prog 173 #[.string s] w (RetW w (W.decV (strL s))):=by
 have HD:=qh hd;clear hd
 go_enter Tryz.func173,Tryz.ntmps173
 go_wp2
 go_loopw [0,3] (fun dv xv wr=>∃ (j:Nat) (t:ByteArray) (a:Option Addr) (n c:Nat) (xs:List Nat),dv = .string t∧xv = .slice a n c∧j≤s.size∧Hid (strL t=(strL s).drop j)∧t.size+j=s.size∧n≤j∧Ext w wr∧Own wr w.heap.size 143 a n c (xs.map (natV .u64))∧Hid (Num 18446744073709551616 xs (W.decV ((strL s).take j)))) (fun dv _ _=>match dv with | .string t=>t.size | _=>0)
 case atStart=>exact ⟨0,s,none,0,0,[],rfl,rfl,Nat.zero_le _,qh rfl,by omega,by omega,Ext.refl w,Own.nil _ _ _,qh (Num.nil _)⟩
 case round =>
  obtain ⟨j,t,a,n,c,xs,rfl,rfl,hj,HT,hts,hnj,hE,hO,HN⟩:=hrel;by_cases h0:t.size=0
  · have HF:Hid (Num 18446744073709551616 xs (W.decV (strL s))):=by
     have h1:=HN.out;rw [List.take_of_length_le (by rw [strL_len]; omega)] at h1;exact qh h1
    have hgt:¬ (0:Int)<(t.size:Int):=by omega
    clear h0;go_wp2;go_ret;exact ⟨a,n,c,rfl,hE,xs,hO.sl,HF.out⟩
  · have hgt:(0:Int)<(t.size:Int):=by omega
    obtain ⟨z,hz⟩:∃ z,(t.size-1)%19+1=z:=⟨_,rfl⟩;have hz1:1≤z:=by omega
    have hz2:z≤19:=by omega
    have hz3:z≤t.size:=by omega
    have hw1:IntKind.i64.wrap ((t.size:Int)-1)=((t.size-1:Nat):Int):=by rw [show (t.size:Int)-1=((t.size-1:Nat):Int) by omega]; exact IntWalk.i64_in _ (by omega)
    have hw2:((t.size-1:Nat):Int).tmod 19=(((t.size-1)%19:Nat):Int):=by rw [Int.tmod_eq_emod_of_nonneg (by omega)]; omega
    have hw2':((t.size-1:Nat):Int)%19=(((t.size-1)%19:Nat):Int):=by omega
    have hw3:IntKind.i64.wrap ((((t.size-1)%19:Nat):Int)+1)=(z:Int):=by rw [show (((t.size-1)%19:Nat):Int)+1=(z:Int) by omega]; exact IntWalk.i64_in _ (by omega)
    clear hz;generalize (t.size-1)%19=z0 at *
    generalize t.size-1=t1 at *
    have hzi:(z:Int)≤(t.size:Int):=by omega
    go_upto_region 6 with (refine wl_toBytes rfl rfl Tryz.underlying9 Tryz.underlying154 Tryz.underlying5 rfl (by unfold maxLen; simp; omega) ?_; intro cb w1 hE1 hS1)
    have hcl:strL (t.extract 0 z)=((strL s).drop j).take z:=by rw [strL_extract,HT.out,List.drop_zero,Nat.sub_zero]
    have hcd:W.digs (strL (t.extract 0 z)):=by rw [hcl]; exact take_digs (drop_digs HD.out j) z
    have hcz:(strL (t.extract 0 z)).length=z:=by rw [hcl,List.length_take,List.length_drop,strL_len]; omega
    have HCL:=qh hcl;clear hcl;have hxz:(t.extract 0 z).size=z:=by simp; omega
    rw [hxz] at hS1;clear hxz;generalize strL (t.extract 0 z)=cl at *
    have HCD:=qh hcd;have HCZ:=qh hcz;clear hcd hcz hw1 hw2 hw2' hw3
    go_loop [5,6,25] (fun cv bv iv=>∃ (k ch P:Nat),k≤z∧cv = .int .u64 ch∧bv = .int .u64 P∧iv = .int .i64 k∧ch<10000000000000000000∧P≤10000000000000000000∧Hid (W.decV (cl.take k)=ch∧10^k=P)) (fun _ _ iv=>z-(intOf iv).toNat)
    case atStart=>exact ⟨0,0,1,Nat.zero_le _,rfl,rfl,rfl,by omega,by omega,qh ⟨rfl,rfl⟩⟩
    case round =>
     obtain ⟨k,ch,P,hk,rfl,rfl,rfl,hch,hP,HCH⟩:=hrel;by_cases hlt:k<z
     · obtain ⟨b1,o1,hb1,hcell⟩:=hS1.rd (by omega);simp only [Option.some.injEq,Addr.mk.injEq,and_true] at hb1;obtain ⟨hb1,ho1⟩:=hb1;have g1:=hcell k hlt;rw [←hb1,←ho1,Nat.zero_add] at g1;have hkl:k<cl.length:=by rw [HCZ.out]; exact hlt
       have e1:(cl.map byteV).getD k undef = .int .u8 ((cl[k].toNat:Nat):Int):=by simp [List.getD_eq_getElem?_getD,hkl,byteV]
       rw [e1] at g1;have hdg:=HCD.out cl[k] (List.getElem_mem hkl);have htk:cl.take (k+1)=cl.take k ++ [cl[k]]:=List.take_succ_eq_append_getElem hkl;have hnew:W.decV (cl.take (k+1))=10*ch+(cl[k].toNat-48):=by rw [htk,W.decV_snoc,HCH.out.1]
       have hnl:=chunk_lt (take_digs HCD.out (k+1)) (by rw [List.length_take,HCZ.out]; omega);have hpn:10^(k+1)≤10^19:=Nat.pow_le_pow_right (by omega) (by omega);rw [Nat.pow_succ,HCH.out.2] at hpn;rw [hnew] at hnl;have HNEW:=qh hnew;have HCH2:Hid (10^(k+1)=P*10):=by show _=_; rw [Nat.pow_succ,HCH.out.2]
       obtain ⟨hd1,hd2⟩:=hdg;generalize cl[k].toNat=cb1 at *
       have a1:IntKind.u64.wrap (10*(ch:Int))=((10*ch:Nat):Int):=wrap_nat (by omega) (by omega);have a2:IntKind.u8.wrap ((cb1:Int)-48)=((cb1-48:Nat):Int):=by rw [IntKind.wrap_u8]; omega
       have a3:IntKind.u64.wrap ((cb1-48:Nat):Int)=((cb1-48:Nat):Int):=wrap_nat rfl (by omega);have a4:IntKind.u64.wrap (((10*ch:Nat):Int)+((cb1-48:Nat):Int))=((10*ch+(cb1-48):Nat):Int):=wrap_nat (by omega) (by omega);have a5:IntKind.u64.wrap ((P:Int)*10)=((P*10:Nat):Int):=wrap_nat (by omega) (by omega);have b2:10*ch+(cb1-48)<10000000000000000000:=by omega
       have b3:P*10≤10000000000000000000:=by omega
       clear hnew htk e1 hcell hb1 ho1 hnl hpn;generalize 10 * ch+(cb1-48)=ch2 at *
       generalize 10 * ch=ch1 at *
       generalize cb1-48=d1 at *
       generalize P * 10=P1 at *
       go_wp2;go_round
       case rel=>exact ⟨k+1,ch2,P1,by omega,rfl,rfl,by go_num,b2,b3,qh ⟨HNEW.out,HCH2.out⟩⟩
       case measure=>simp [intOf]; omega
     · have ek:k=z:=by omega
       have HC2:Hid (W.decV cl=ch∧10^z=P):=by
        have h1:=HCH.out;rw [ek,List.take_of_length_le (by rw [HCZ.out]; exact Nat.le_refl _)] at h1;exact qh h1
       clear ek HCH hS1;have hO1:=hO.ext hE1;have hEE:=hE.trans hE1;have hUL:Hid (xs.length=n):=qh (by have:=hO.len; simpa using this);go_wp2;obtain ⟨wo,hwo⟩:∃ wo:World,wo=wr:=⟨_,rfl⟩;subst hwo
       go_loopw [9,44] (fun cv iv wx=>∃ (q cy:Nat) (zs:List Nat),q≤n∧cv = .int .u64 cy∧iv = .int .i64 q∧cy<18446744073709551616∧Ext w wx∧Own wx w.heap.size 143 a n c (zs.map (natV .u64))∧Hid (W.bnd 18446744073709551616 zs∧zs.drop q=xs.drop q∧W.val 18446744073709551616 (zs.take q)+cy*18446744073709551616^q=P*W.val 18446744073709551616 (xs.take q)+ch)) (fun _ iv _=>n-(intOf iv).toNat)
       case atStart=>exact ⟨0,ch,xs,Nat.zero_le _,rfl,rfl,by omega,hEE,hO1,qh ⟨HN.out.bnd,rfl,by simp [W.val]⟩⟩
       case round =>
        clear hO1 hEE;obtain ⟨q,cy,zs,hq,rfl,rfl,hcy,hEx,hOz,HZ⟩:=hrel;have hzl:zs.length=n:=by have:=hOz.len; simpa using this
        have HZL:=qh hzl;clear hzl;by_cases hlt2:q<n
        · obtain ⟨g,rfl,hg1,hg2⟩:=hOz.place (by omega);have hOn:OwnN .u64 wr w.heap.size 143 g n c zs:=hOz;have g1:=hOn.cell (i:=q) hlt2;have f1:=hOn.frozen q;have hb:=W.bnd_at HZ.out.1 (i:=q) (by rw [HZL.out]; exact hlt2);have hxq:zs.getD q 0=xs.getD q 0:=drop_getD_eq HZ.out.2.1;have HXQ:=qh hxq;clear hxq;generalize zs.getD q 0=xq at *
          go_wp2_with fail
          refine (int_multiplyAdd hb (show P<18446744073709551616 by omega) hcy).mono ?_;rintro e2 w2 ⟨lo,hi,rfl,rfl,hlo,hhi,e1⟩;have HS:=qh (mulp_step (B:=18446744073709551616) (zs:=zs) (xs:=xs) (k:=q) (d:=lo) (u:=P) (c:=cy) (c':=hi) (V:=ch) (by rw [HZL.out]; exact hlt2) (by rw [hUL.out]; exact hlt2) HZ.out.2.2 (by rw [←HXQ.out]; exact e1));have hO9:Own (wr.setCell ⟨g,q,none⟩ (.int .u64 (lo:Int))) w.heap.size 143 (some ⟨g,0,none⟩) n c ((zs.set q lo).map (natV .u64)):=hOn.set q lo;have hE9:=hEx.setCell (p:=⟨g,q,none⟩) hg1 (.int .u64 (lo:Int));clear e1;go_wp2;go_roundw
          case rel=>exact ⟨q+1,hi,zs.set q lo,by omega,rfl,by go_num,hhi,hE9,hO9,qh ⟨W.bnd_set HZ.out.1 hlo,drop_keep HZ.out.2.1,HS.out⟩⟩
          case measure=>simp [intOf]; omega
        · have eq:q=n:=by omega
          have hval:W.val 18446744073709551616 zs+cy*18446744073709551616^n=P*W.val 18446744073709551616 xs+ch:=by
           have h1:=HZ.out.2.2;rw [eq,List.take_of_length_le (by rw [HZL.out]; exact Nat.le_refl _),List.take_of_length_le (by rw [hUL.out]; exact Nat.le_refl _)] at h1;exact h1
          rw [HN.out.val] at hval;have hnew:P*W.decV ((strL s).take j)+ch=W.decV ((strL s).take (j+z)):=by
           have h1:(strL s).take (j+z)=(strL s).take j ++ cl:=by rw [HCL.out,List.take_add]
           rw [h1,W.decV_app,HCZ.out,HC2.out.1,HC2.out.2,Nat.mul_comm]
          rw [hnew] at hval;have HVAL:=qh hval;have HNEW:=qh hnew;have hxs:strL (t.extract z t.size)=(strL s).drop (j+z):=by
           rw [strL_extract,HT.out,List.drop_drop,List.take_of_length_le (by rw [List.length_drop,strL_len]; omega)]
          have HXS:=qh hxs;have hsz:(t.extract z t.size).size=t.size-z:=by simp
          clear hval hnew hxs eq;by_cases hc0:cy=0
          · have hNum:Num 18446744073709551616 zs (W.decV ((strL s).take (j+z))):=by
             have h1:=HVAL.out;rw [hc0,Nat.zero_mul,Nat.add_zero] at h1;refine ⟨HZ.out.1, ?_,h1⟩;rcases Nat.eq_zero_or_pos n with hn0|hn0
             · have:zs=[]:=List.eq_nil_of_length_eq_zero (by rw [HZL.out,hn0]);rw [this]; exact W.nrm_nil
             · refine nrm_of_ge (B:=18446744073709551616) (n:=n-1) (by rw [HZL.out]; omega) HZ.out.1 ?_;rw [h1,←HNEW.out];have h2:=W.nrm_pos (B:=18446744073709551616) (by omega) HN.out.nrm (by intro h; have:=hUL.out; rw [h] at this; simp at this; omega);rw [hUL.out,HN.out.val] at h2;have h3:1*W.decV ((strL s).take j)≤P*W.decV ((strL s).take j):=Nat.mul_le_mul_right _ (by rw [←HC2.out.2]; exact Nat.pow_pos (by omega));omega
            have HNUM:=qh hNum;subst hc0;clear hNum HVAL HNEW HZ;generalize t.extract z t.size=t2 at *
            go_wp2;go_roundw
            case rel=>exact ⟨j+z,t2,a,n,c,zs,rfl,rfl,by omega,HXS,by omega,by omega,hEx,hOz,HNUM⟩
            case measure=>simp; omega
          · have hcb:((cy:Int) != 0)=true:=by simp; omega
            have hNum:Num 18446744073709551616 (zs ++ [cy]) (W.decV ((strL s).take (j+z))):=by
             refine ⟨W.bnd_app HZ.out.1 (fun y hy=>by simp at hy; omega),fun hne=>by simp; exact hc0, ?_⟩;rw [W.val_snoc,HZL.out,←HVAL.out,Nat.mul_comm]
            have HNUM:=qh hNum;have hA:=hOz.alloc (.cells #[.int .u64 (cy:Int)] 143);have hL:=(own_alloc wr w.heap.size 143 #[.int .u64 (cy:Int)] 1 rfl hEx.size (by omega)).sl;have hb2:∀ k,blk a=some k→w.heap.size≤k:=fun k hk=>(hOz.lt hk).1;clear hNum HVAL HNEW HZ;generalize t.extract z t.size=t2 at *
            go_wp2_with (refine wl_app rfl rfl Tryz.underlying88 info_u64 rfl rfl hA rfl hL (by simp [Value.oneCell']) (by unfold maxLen; omega) (by omega) (by simp; have:=hEx.size; omega) ?_; intro a7 c7 w7 hO7 hg7 hb7)
            have hE7:Ext w w7:=(hEx.alloc _).grown hg7 hb2;have hO8:Own w7 w.heap.size 143 a7 (n+1) c7 ((zs ++ [cy]).map (natV .u64)):=by rw [List.map_append]; exact hO7
            go_roundw
            case rel=>exact ⟨j+z,t2,a7,n+1,c7,zs ++ [cy],rfl,rfl,by omega,HXS,by omega,by omega,hE7,hO8,HNUM⟩
            case measure=>simp; omega
theorem int_parseSplit {s:ByteArray} {w:World} (hd:W.digs (strL s)) (hs:s.size≤570) :
 Calls Tryz.prog 134 #[.string s, .slice none 0 0] w (RetW w (W.decV (strL s))):=by
 have hp:=qh (int_parseSimple (w:=w) hd (by omega));clear hd
 go_enter Tryz.func134,Tryz.ntmps134
 go_wp2;refine wp_loop_rounds 1 ?_;rw [rounds_succ]
 go_wp2_with fail
 refine hp.out.mono ?_;rintro e w1 ⟨a,n,c,rfl,hE,hx⟩;go_wp2;go_ret;exact ⟨a,n,c,rfl,hE,hx⟩
theorem int_parseWords {s:ByteArray} {w:World} (hd:W.digs (strL s)) (hs:s.size≤570) :
 Calls Tryz.prog 93 #[.string s] w (RetW w (W.decV (strL s))):=by
 have hp:=qh (int_parseSplit (w:=w) hd hs);have hle:¬ ((570:Int)<(s.size:Int)):=by omega
 clear hd
 go_enter Tryz.func93,Tryz.ntmps93
 go_wp2_with fail
 refine hp.out.mono ?_;rintro e w1 ⟨a,n,c,rfl,hE,hx⟩;go_wp2;go_ret;exact ⟨a,n,c,rfl,hE,hx⟩
theorem int_Parse {s:ByteArray} {w:World} (hd:W.digs (strL s)) (hs:s.size≤570) :
 Calls Tryz.prog 49 #[.string s] w (RetI w ((W.decV (strL s):Nat):Int)):=by
 go_enter Tryz.func49,Tryz.ntmps49
 go_upto_region 1 with (fail)
 refine box1 ?_;intro w0 hE0 hB0 hz0;have hp:=qh (int_parseWords (w:=w0) hd hs);have hR:Arr w0 w.heap.size 90 (intL false none 0 0):=hB0;have HS1:Hid (decide (((W.decV (strL s):Nat):Int)<0)=false):=qh (decide_eq_false (by omega));clear hd hz0
 go_wp2_with fail
 refine hp.out.mono ?_;rintro e w1 ⟨a1,n1,c1,rfl,hE1,hx1⟩;have hR1:=hR.ext hE1
 go_wp2_with (refine wl_stArr (vs:=intL false a1 n1 c1) rfl rfl rfl rfl rfl agg_Int hR1 rfl (intL_one _ _ _ _) ?_; intro w9 hB9 hg9)
 exact bodyPost_ret (res_arr rfl agg_Int rfl hB9) rfl (retI_of (hE0.trans hE1) hR1 (intL_nu _ _ _ _) hg9 (by omega) HS1 hx1)
theorem info_u8:Elem1 Tryz.prog 5 (.int .u8 0) 1:=by unfold Elem1; kernel_rfl
def RetAp (wb:World) (l:List UInt8) (e:Ending) (w':World):Prop:=∃ a n c,e = .returned (.slice a n c)∧Own w' wb.heap.size 5 a n c (l.map byteV)∧Ext wb w'
theorem slice_of_owns {w:World} {base:Nat} {e:TypeId} {v:Value} {n:Nat} {xs:List Value} (h:w.ownsRow base e 1 v n xs):∃ a c,v = .slice a n c∧Own w base e a n c xs:=by
 rcases h.2 with ⟨hv,h0⟩|⟨g,cap,cur,hv,_⟩
 · subst hv; subst h0;exact ⟨none,0,rfl,h⟩
 · subst hv;exact ⟨_,cap,rfl,h⟩
theorem str_AppendUint0 {wb w:World} {a:Option Addr} {n c u:Nat} {l:List UInt8} (hT:Tabs w) (hE:Ext wb w) (hO:Own w wb.heap.size 5 a n c (l.map byteV)) (hu:u<18446744073709551616) (hn:n≤100000) :
 Calls Tryz.prog 189 #[.slice a n c, .int .u64 u, .int .i64 10] w (RetAp wb (l ++ Lib.decDigits u)):=by
 refine (Any.internal_strconv_AppendUint_10 appUL wb.heap.size n u hu (.slice a n c) (l.map byteV) w hO hE.size (by omega) hT.ten).mono ?_;rintro e w' ⟨v',rfl,h1,h2,_⟩;obtain ⟨a',c',rfl,h3⟩:=slice_of_owns h1;refine ⟨a',_,c',rfl, ?_,Below.trans hE h2⟩;rw [List.map_append];exact h3
theorem str_AppendUint {wb w:World} {a:Option Addr} {n c u:Nat} {l:List UInt8} (hT:Tabs w) (hE:Ext wb w) (hO:Own w wb.heap.size 5 a n c (l.map byteV)) (hu:u<18446744073709551616) (hn:n≤100000) :
 Calls Tryz.prog 183 #[.slice a n c, .int .u64 u, .int .i64 10] w (RetAp wb (l ++ Lib.decDigits u)):=by
 have h:=qh (str_AppendUint0 hT hE hO hu hn)
 go_enter Tryz.func183,Tryz.ntmps183
 go_wp2_with fail
 refine h.out.mono ?_;rintro e w' ⟨a1,n1,c1,rfl,h1,h2⟩;go_wp2;go_ret;exact ⟨a1,n1,c1,rfl,h1,h2⟩
theorem str_FormatInt {w:World} {z:Int} (hT:Tabs w) (h0 : -9223372036854775808≤z) (h1:z≤9223372036854775807) :
 Calls Tryz.prog 112 #[.int .i64 z, .int .i64 10] w fun e w'=>e = .returned (.string ⟨(Lib.itoa z).toArray⟩)∧Ext w w':=by
 refine (Any.strconv_FormatInt_10 fmtIntL z h0 h1 w hT.ten).mono ?_;rintro e w' ⟨rfl,k,os,rfl⟩;exact ⟨rfl,Lib.below_grow w.heap.size w (Nat.le_refl _) k os⟩
theorem rat_FromInt {w:World} {z:Int} (hT:Tabs w) (h0 : -9223372036854775808≤z) (h1:z≤9223372036854775807) :
 Calls Tryz.prog 77 #[.int .i64 z] w fun e w'=>e = .returned (.string ⟨(Lib.itoa z).toArray⟩)∧Ext w w':=by
 have h:=qh (str_FormatInt hT h0 h1)
 go_enter Tryz.func77,Tryz.ntmps77
 go_wp2_with fail
 refine h.out.mono ?_;rintro e w' ⟨rfl,h2⟩;go_wp2;go_ret;exact ⟨rfl,h2⟩
theorem int_appendWords1 {wb w:World} {a b:Option Addr} {n c m d x:Nat} {l:List UInt8} (hT:Tabs w) (hE:Ext wb w) (hO:Own w wb.heap.size 5 a n c (l.map byteV)) (hx:Wd w b m d x) (hb:x<18446744073709551616) (hn:n≤100000) :
 Calls Tryz.prog 148 #[.slice a n c, .slice b m d] w (RetAp wb (l ++ Lib.decDigits x)):=by
 have hm:m≤1:=hx.len (k:=1) (by rw [P2_64]; exact hb);have hm0:=hx.zero;by_cases h0:m=0
 · have hx0:x=0:=hm0.1 h0;subst h0; subst hx0;have HD:Hid (l ++ Lib.decDigits 0=l ++ [48]):=by show _=_; rw [W.dec_zero]
   have hA:=hO.alloc (.cells #[.int .u8 48] 5);have hL:=(own_alloc w wb.heap.size 5 #[.int .u8 48] 1 rfl hE.size (by omega)).sl;have hb2:∀ k,blk a=some k→wb.heap.size≤k:=fun k hk=>(hO.lt hk).1;clear hm0 hm hx
   go_enter Tryz.func148,Tryz.ntmps148
   go_wp2_with (refine wl_app rfl rfl Tryz.underlying154 info_u8 rfl rfl hA rfl hL (by simp [Value.oneCell']) (by unfold maxLen; omega) (by omega) (by simp; have:=hE.size; omega) ?_; intro a7 c7 w7 hO7 hg7 hb7)
   go_ret;refine ⟨a7,n+1,c7,rfl, ?_,(hE.alloc _).grown hg7 hb2⟩;rw [HD.out,List.map_append];exact hO7
 · have h1:m=1:=by omega
   subst h1;obtain ⟨b1,o1,rfl,hc,k1,k2⟩:=hx.one;have h:=qh (str_AppendUint hT hE hO hb hn);clear hm0 hm hx h0
   go_enter Tryz.func148,Tryz.ntmps148
   go_wp2_with fail
   refine h.out.mono ?_;rintro e w' ⟨a1,n1,c1,rfl,h1,h2⟩;go_wp2;go_ret;exact ⟨a1,n1,c1,rfl,h1,h2⟩
theorem Arr.setCells {g:Nat} {t:TypeId}:∀ (vs:List Value) (o:Nat) (w:World) (cs:List Value),Arr w g t cs→o+vs.length≤cs.length→Arr (w.setCells g o vs) g t (cs.take o ++ vs ++ cs.drop (o+vs.length))
 | [],o,w,cs,h,_=>by
  have e:cs.take o ++ [] ++ cs.drop (o+([]:List Value).length)=cs:=by simp
  rw [e]; exact h
 | v :: r,o,w,cs,h,hl=>by
  simp only [List.length_cons] at hl;have h1:=Arr.setCells r (o+1) _ _ (h.set o v) (by simp; omega);have e:(cs.set o v).take (o+1) ++ r ++ (cs.set o v).drop (o+1+r.length)=cs.take o ++ (v :: r) ++ cs.drop (o+(v :: r).length):=by
   have e1:(cs.set o v).take (o+1)=cs.take o ++ [v]:=by
    rw [List.take_succ_eq_append_getElem (by simp; omega)];rw [List.take_set_of_le (by omega)];simp
   have e2:(cs.set o v).drop (o+1+r.length)=cs.drop (o+1+r.length):=by
    rw [List.drop_set_of_lt (by omega)]
   rw [e1,e2];simp [Nat.add_comm,Nat.add_left_comm]
  rw [e] at h1;exact h1
theorem grown_setCells (g:Nat):∀ (vs:List Value) (o:Nat) (w:World),w.grownBy (w.setCells g o vs) (some g)
 | [],_,w=>⟨rfl,rfl,rfl,Nat.le_refl _,fun _ _ _=>rfl⟩
 | v :: r,o,w=>by
  have h1:=grown_setCell w g o v;have h2:=grown_setCells g r (o+1) (w.setCell ⟨g,o,none⟩ v);exact ⟨h2.os.trans h1.os,h2.tape.trans h1.tape,h2.output.trans h1.output,Nat.le_trans h1.size h2.size,fun b hb hne=>(h2.block b (Nat.lt_of_lt_of_le hb h1.size) hne).trans (h1.block b hb hne)⟩
section
variable {P:Program} {w:World}
theorem wl_appA {ops:Array Oper} {rest:List Oper} {o:Oper} {f:Act} {Q:Exit→Act→World→Prop} {s x:Operand} {t tx:TypeId} (hgd:o.guard=none)
 (ho:o.op = .call { callee := .builtin .append,args:=#[s,x],argTypes:=#[t,tx] })
 {e T:TypeId} {i:TypeInfo} {g n c m:Nat} {xv:Value} {cs news:List Value}
 (ht:P.underlying t=some (.slice e)) (hi:P.info? e=some i) (hs1:i.size=1) (hs:f.eval s = .slice (some ⟨g,0,none⟩) n c) (hx:f.eval x=xv) (hsrc:Go.Src P 1 tx xv m news w) (hA:Arr w g T cs)
 (hroom:n+m≤c) (hfit:n+m≤cs.length)
 (hK:∀ w',Arr w' g T (cs.take n ++ news ++ cs.drop (n+m))→w.grownBy w' (some g)→wpList P ops Q rest (f.put o.dst (.slice (some ⟨g,0,none⟩) (n+m) c)) w'):wpList P ops Q (o :: rest) f w:=by
 refine wpList_plain hgd fun K hK' => ?_;have hl:news.length=m:=by have:=hsrc.newsLen; simpa using this
 have hsrc':Go.Src P i.size tx xv m news w:=by rw [hs1]; exact hsrc
 have hrun:=run_append_room_src (P:=P) (w:=w) t tx o.type e i ht hi g 0 n c xv m news hsrc' hroom
  (fun j hj=>by
   rw [hs1,Nat.zero_add,Nat.mul_one,hA.cell (i:=n+j) (by omega)]; rfl)
  (fun j _=>hA.frozen _)
 rw [hs1,Nat.zero_add,Nat.mul_one] at hrun;have h1:=Arr.setCells news n w cs hA (by omega);rw [hl] at h1;unfold Oper.wp execOp;simp only [ho,resolve,invoke,builtin,Sem.run_bind,Sem.run_pure,Result.andThen_ok,List.map_toArray,List.map_cons,List.map_nil,hs,hx,hrun];exact hK' _ _ (hK _ h1 (grown_setCells g news n w))
end
end Go.Proofs.YtlpgonpfjbhmfaaGreatDoor
