/- Part Gan19. -/
import Derived.Test.YtlpgonpfjbhmfaaGreatDoorGan18
import Derived.Shelf.Strconv.AppendInt10
import Derived.Shelf.Strconv.Itoa4
import Derived.Test.YtlpgonpfjbhmfaaGreatDoorGan3
import Derived.Test.YtlpgonpfjbhmfaaGreatDoorGan5
import Derived.Deep.AppendSrc
set_option maxRecDepth 100000
set_option maxHeartbeats 100000000
namespace Go.Proofs.YtlpgonpfjbhmfaaGreatDoor
open Go Go.RowKit
theorem int_parseSplit {s:ByteArray} {w:World} (hd:W.digs (strL s)) (hs:s.size≤570) :
 Calls Tryz.prog 134 #[.string s, .slice none 0 0] w (RetW w (W.decV (strL s))):=by
 have hp:=qh (int_parseSimple (w:=w) hd (by omega));clear hd
 go_enter Tryz.func134,Tryz.ntmps134
 go_wp2;refine wp_loop_rounds 1 ?_;rw [rounds_succ]
 go_wp2_with fail
 refine hp.out.mono ?_;rintro e w1 ⟨a,n,c,rfl,hE,hx⟩;go_wp2;go_ret;exact ⟨a,n,c,rfl,hE,hx⟩
theorem int_parseWords {s:ByteArray} {w:World} (hd:W.digs (strL s)) (hs:s.size≤570) :
 Calls Tryz.prog 93 #[.string s] w (RetW w (W.decV (strL s))):=by
 have hp:=qh (int_parseSplit (w:=w) hd hs);have hle:¬ ((570:Int)<(s.size:Int)):=by omega
 clear hd
 go_enter Tryz.func93,Tryz.ntmps93
 go_wp2_with fail
 refine hp.out.mono ?_;rintro e w1 ⟨a,n,c,rfl,hE,hx⟩;go_wp2;go_ret;exact ⟨a,n,c,rfl,hE,hx⟩
theorem int_Parse {s:ByteArray} {w:World} (hd:W.digs (strL s)) (hs:s.size≤570) :
 Calls Tryz.prog 49 #[.string s] w (RetI w ((W.decV (strL s):Nat):Int)):=by
 go_enter Tryz.func49,Tryz.ntmps49
 go_upto_region 1 with (fail)
 refine box1 ?_;intro w0 hE0 hB0 hz0;have hp:=qh (int_parseWords (w:=w0) hd hs);have hR:Arr w0 w.heap.size 90 (intL false none 0 0):=hB0;have HS1:Hid (decide (((W.decV (strL s):Nat):Int)<0)=false):=qh (decide_eq_false (by omega));clear hd hz0
 go_wp2_with fail
 refine hp.out.mono ?_;rintro e w1 ⟨a1,n1,c1,rfl,hE1,hx1⟩;have hR1:=hR.ext hE1
 go_wp2_with (refine wl_stArr (vs:=intL false a1 n1 c1) rfl rfl rfl rfl rfl agg_Int hR1 rfl (intL_one _ _ _ _) ?_; intro w9 hB9 hg9)
 exact bodyPost_ret (res_arr rfl agg_Int rfl hB9) rfl (retI_of (hE0.trans hE1) hR1 (intL_nu _ _ _ _) hg9 (by omega) HS1 hx1)
theorem info_u8:Elem1 Tryz.prog 5 (.int .u8 0) 1:=by unfold Elem1; kernel_rfl
def RetAp (wb:World) (l:List UInt8) (e:Ending) (w':World):Prop:=∃ a n c,e = .returned (.slice a n c)∧Own w' wb.heap.size 5 a n c (l.map byteV)∧Ext wb w'
theorem slice_of_owns {w:World} {base:Nat} {e:TypeId} {v:Value} {n:Nat} {xs:List Value} (h:w.ownsRow base e 1 v n xs):∃ a c,v = .slice a n c∧Own w base e a n c xs:=by
 rcases h.2 with ⟨hv,h0⟩|⟨g,cap,cur,hv,_⟩
 · subst hv; subst h0;exact ⟨none,0,rfl,h⟩
 · subst hv;exact ⟨_,cap,rfl,h⟩
theorem str_AppendUint0 {wb w:World} {a:Option Addr} {n c u:Nat} {l:List UInt8} (hT:Tabs w) (hE:Ext wb w) (hO:Own w wb.heap.size 5 a n c (l.map byteV)) (hu:u<18446744073709551616) (hn:n≤100000) :
 Calls Tryz.prog 189 #[.slice a n c, .int .u64 u, .int .i64 10] w (RetAp wb (l ++ Lib.decDigits u)):=by
 refine (Any.internal_strconv_AppendUint_10 appUL wb.heap.size n u hu (.slice a n c) (l.map byteV) w hO hE.size (by omega) hT.ten).mono ?_;rintro e w' ⟨v',rfl,h1,h2,_⟩;obtain ⟨a',c',rfl,h3⟩:=slice_of_owns h1;refine ⟨a',_,c',rfl, ?_,Below.trans hE h2⟩;rw [List.map_append];exact h3
theorem str_AppendUint {wb w:World} {a:Option Addr} {n c u:Nat} {l:List UInt8} (hT:Tabs w) (hE:Ext wb w) (hO:Own w wb.heap.size 5 a n c (l.map byteV)) (hu:u<18446744073709551616) (hn:n≤100000) :
 Calls Tryz.prog 183 #[.slice a n c, .int .u64 u, .int .i64 10] w (RetAp wb (l ++ Lib.decDigits u)):=by
 have h:=qh (str_AppendUint0 hT hE hO hu hn)
 go_enter Tryz.func183,Tryz.ntmps183
 go_wp2_with fail
 refine h.out.mono ?_;rintro e w' ⟨a1,n1,c1,rfl,h1,h2⟩;go_wp2;go_ret;exact ⟨a1,n1,c1,rfl,h1,h2⟩
theorem str_FormatInt {w:World} {z:Int} (hT:Tabs w) (h0 : -9223372036854775808≤z) (h1:z≤9223372036854775807) :
 Calls Tryz.prog 112 #[.int .i64 z, .int .i64 10] w fun e w'=>e = .returned (.string ⟨(Lib.itoa z).toArray⟩)∧Ext w w':=by
 refine (Any.strconv_FormatInt_10 fmtIntL z h0 h1 w hT.ten).mono ?_;rintro e w' ⟨rfl,k,os,rfl⟩;exact ⟨rfl,Lib.below_grow w.heap.size w (Nat.le_refl _) k os⟩
theorem rat_FromInt {w:World} {z:Int} (hT:Tabs w) (h0 : -9223372036854775808≤z) (h1:z≤9223372036854775807) :
 Calls Tryz.prog 77 #[.int .i64 z] w fun e w'=>e = .returned (.string ⟨(Lib.itoa z).toArray⟩)∧Ext w w':=by
 have h:=qh (str_FormatInt hT h0 h1)
 go_enter Tryz.func77,Tryz.ntmps77
 go_wp2_with fail
 refine h.out.mono ?_;rintro e w' ⟨rfl,h2⟩;go_wp2;go_ret;exact ⟨rfl,h2⟩
theorem int_appendWords1 {wb w:World} {a b:Option Addr} {n c m d x:Nat} {l:List UInt8} (hT:Tabs w) (hE:Ext wb w) (hO:Own w wb.heap.size 5 a n c (l.map byteV)) (hx:Wd w b m d x) (hb:x<18446744073709551616) (hn:n≤100000) :
 Calls Tryz.prog 148 #[.slice a n c, .slice b m d] w (RetAp wb (l ++ Lib.decDigits x)):=by
 have hm:m≤1:=hx.len (k:=1) (by rw [P2_64]; exact hb);have hm0:=hx.zero;by_cases h0:m=0
 · have hx0:x=0:=hm0.1 h0;subst h0; subst hx0;have HD:Hid (l ++ Lib.decDigits 0=l ++ [48]):=by show _=_; rw [W.dec_zero]
   have hA:=hO.alloc (.cells #[.int .u8 48] 5);have hL:=(own_alloc w wb.heap.size 5 #[.int .u8 48] 1 rfl hE.size (by omega)).sl;have hb2:∀ k,blk a=some k→wb.heap.size≤k:=fun k hk=>(hO.lt hk).1;clear hm0 hm hx
   go_enter Tryz.func148,Tryz.ntmps148
   go_wp2_with (refine wl_app rfl rfl Tryz.underlying154 info_u8 rfl rfl hA rfl hL (by simp [Value.oneCell']) (by unfold maxLen; omega) (by omega) (by simp; have:=hE.size; omega) ?_; intro a7 c7 w7 hO7 hg7 hb7)
   go_ret;refine ⟨a7,n+1,c7,rfl, ?_,(hE.alloc _).grown hg7 hb2⟩;rw [HD.out,List.map_append];exact hO7
 · have h1:m=1:=by omega
   subst h1;obtain ⟨b1,o1,rfl,hc,k1,k2⟩:=hx.one;have h:=qh (str_AppendUint hT hE hO hb hn);clear hm0 hm hx h0
   go_enter Tryz.func148,Tryz.ntmps148
   go_wp2_with fail
   refine h.out.mono ?_;rintro e w' ⟨a1,n1,c1,rfl,h1,h2⟩;go_wp2;go_ret;exact ⟨a1,n1,c1,rfl,h1,h2⟩
theorem Arr.setCells {g:Nat} {t:TypeId}:∀ (vs:List Value) (o:Nat) (w:World) (cs:List Value),Arr w g t cs→o+vs.length≤cs.length→Arr (w.setCells g o vs) g t (cs.take o ++ vs ++ cs.drop (o+vs.length))
 | [],o,w,cs,h,_=>by
  have e:cs.take o ++ [] ++ cs.drop (o+([]:List Value).length)=cs:=by simp
  rw [e]; exact h
 | v :: r,o,w,cs,h,hl=>by
  simp only [List.length_cons] at hl;have h1:=Arr.setCells r (o+1) _ _ (h.set o v) (by simp; omega);have e:(cs.set o v).take (o+1) ++ r ++ (cs.set o v).drop (o+1+r.length)=cs.take o ++ (v :: r) ++ cs.drop (o+(v :: r).length):=by
   have e1:(cs.set o v).take (o+1)=cs.take o ++ [v]:=by
    rw [List.take_succ_eq_append_getElem (by simp; omega)];rw [List.take_set_of_le (by omega)];simp
   have e2:(cs.set o v).drop (o+1+r.length)=cs.drop (o+1+r.length):=by
    rw [List.drop_set_of_lt (by omega)]
   rw [e1,e2];simp [Nat.add_comm,Nat.add_left_comm]
  rw [e] at h1;exact h1
theorem grown_setCells (g:Nat):∀ (vs:List Value) (o:Nat) (w:World),w.grownBy (w.setCells g o vs) (some g)
 | [],_,w=>⟨rfl,rfl,rfl,Nat.le_refl _,fun _ _ _=>rfl⟩
 | v :: r,o,w=>by
  have h1:=grown_setCell w g o v;have h2:=grown_setCells g r (o+1) (w.setCell ⟨g,o,none⟩ v);exact ⟨h2.os.trans h1.os,h2.tape.trans h1.tape,h2.output.trans h1.output,Nat.le_trans h1.size h2.size,fun b hb hne=>(h2.block b (Nat.lt_of_lt_of_le hb h1.size) hne).trans (h1.block b hb hne)⟩
section
variable {P:Program} {w:World}
theorem wl_appA {ops:Array Oper} {rest:List Oper} {o:Oper} {f:Act} {Q:Exit→Act→World→Prop} {s x:Operand} {t tx:TypeId} (hgd:o.guard=none)
 (ho:o.op = .call { callee := .builtin .append,args:=#[s,x],argTypes:=#[t,tx] })
 {e T:TypeId} {i:TypeInfo} {g n c m:Nat} {xv:Value} {cs news:List Value}
 (ht:P.underlying t=some (.slice e)) (hi:P.info? e=some i) (hs1:i.size=1) (hs:f.eval s = .slice (some ⟨g,0,none⟩) n c) (hx:f.eval x=xv) (hsrc:Go.Src P 1 tx xv m news w) (hA:Arr w g T cs)
 (hroom:n+m≤c) (hfit:n+m≤cs.length)
 (hK:∀ w',Arr w' g T (cs.take n ++ news ++ cs.drop (n+m))→w.grownBy w' (some g)→wpList P ops Q rest (f.put o.dst (.slice (some ⟨g,0,none⟩) (n+m) c)) w'):wpList P ops Q (o :: rest) f w:=by
 refine wpList_plain hgd fun K hK' => ?_;have hl:news.length=m:=by have:=hsrc.newsLen; simpa using this
 have hsrc':Go.Src P i.size tx xv m news w:=by rw [hs1]; exact hsrc
 have hrun:=run_append_room_src (P:=P) (w:=w) t tx o.type e i ht hi g 0 n c xv m news hsrc' hroom
  (fun j hj=>by
   rw [hs1,Nat.zero_add,Nat.mul_one,hA.cell (i:=n+j) (by omega)]; rfl)
  (fun j _=>hA.frozen _)
 rw [hs1,Nat.zero_add,Nat.mul_one] at hrun;have h1:=Arr.setCells news n w cs hA (by omega);rw [hl] at h1;unfold Oper.wp execOp;simp only [ho,resolve,invoke,builtin,Sem.run_bind,Sem.run_pure,Result.andThen_ok,List.map_toArray,List.map_cons,List.map_nil,hs,hx,hrun];exact hK' _ _ (hK _ h1 (grown_setCells g news n w))
end
theorem str_small {u:Nat} {w:World} (hu:u<100):Calls Tryz.prog 185 #[.int .i64 u] w fun e w'=>e = .returned (.string ⟨(Lib.decDigits u).toArray⟩)∧w'=w :=
 Any.internal_strconv_small { appUL with } u hu w
theorem str_numDigits {u:Nat} {w:World} (hT:Tabs w) (h1:1≤u) (hu:u<18446744073709551616):Calls Tryz.prog 186 #[.int .u64 u] w fun e w'=>e = .returned (.int .i64 (Lib.nDigits u:Nat))∧w'=w :=
 Any.internal_strconv_numDigits { appUL with } u h1 hu w hT.ten
theorem str_format {u:Nat} {w0:World} {T:TypeId} (hu:u<18446744073709551616) (hn:Lib.nDigits u≤24) :
 Calls Tryz.prog 187 #[.slice (some ⟨w0.heap.size,0,none⟩) (Lib.nDigits u) 24, .int .u64 u] (w0.alloc (.cells Lib.zeros24 T)) fun e w' =>
  e = .returned (.tuple #[])∧Ext w0 w'∧∀ j,j<Lib.nDigits u→w'.cell? ⟨w0.heap.size,j,none⟩=some (((Lib.decDigits u).map byteV).getD j undef):=by
 have hH:=Lib.holds_zero0 w0 T (Lib.nDigits u) hn;have h:=Any.internal_strconv_formatBase10 { appUL with } w0.heap.size 0 24 u (Array.replicate (Lib.nDigits u) 0) _ hH (by rw [Array.size_replicate]; exact Lib.lt_pow_nDigits u) hu (by rw [Array.size_replicate]; omega);rw [Array.size_replicate] at h;refine h.mono ?_;rintro e w' ⟨rfl,k,v',dk,rfl,hF⟩;refine ⟨rfl, ?_,fun j hj => ?_⟩
 · obtain ⟨os,eo⟩:=Lib.fin_at w0 (.cells Lib.zeros24 T) dk k 0;rw [eo];exact Lib.below_grow w0.heap.size w0 (Nat.le_refl _) k os
 · have hl:j<(Lib.decDigits u).length:=by rw [Lib.decDigits_length]; exact hj
   have h1:=Go.Sort.cell?_putRow (fun (b:UInt8)=>Value.int .u8 (b.toNat:Int)) (w0.alloc (.cells Lib.zeros24 T)) w0.heap.size 0 (Array.replicate (Lib.nDigits u) 0) dk hH (by rw [hF.size,Array.size_replicate]) j (by rw [hF.size]; exact hj);rw [World.cell?_drewN];rw [Nat.zero_add] at h1;rw [h1,←Lib.row_is_numeral hF j hl];simp [List.getD_eq_getElem?_getD,hl,byteV]
def RetBf (w:World) (g c:Nat) (T:TypeId) (l:List UInt8) (e:Ending) (w':World):Prop:=e = .returned (.slice (some ⟨g,0,none⟩) l.length c)∧(∃ w1,Ext w w1∧w1.grownBy w' (some g))∧∃ cs',Arr w' g T cs'∧cs'.length=c∧cs'.take l.length=l.map byteV
def RetBuf (w:World) (g:Nat) (T:TypeId) (u:Nat) (e:Ending) (w':World):Prop:=RetBf w g 20 T (Lib.decDigits u) e w'
theorem digs20 {u:Nat} (hu:u<18446744073709551616):(Lib.decDigits u).length≤20:=W.dec_len (k:=20) (Nat.lt_trans hu (by decide)) (by omega)
theorem bf_len {cs news:List Value} {n m c:Nat} (hm:news.length=m) (hl:cs.length=c) (h:n+m≤c):(cs.take n ++ news ++ cs.drop (n+m)).length=c:=by
 simp only [List.length_append,List.length_take,List.length_drop];omega
theorem bf_take {cs:List Value} {l r:List UInt8} {n m:Nat} (ht:cs.take n=l.map byteV):(cs.take n ++ r.map byteV ++ cs.drop (n+m)).take (l ++ r).length=(l ++ r).map byteV:=by
 have h:((l ++ r).map byteV).length=(l ++ r).length:=by simp
 rw [ht,←List.map_append,←h,List.take_left]
theorem str_AppUA {w:World} {g u n c:Nat} {T:TypeId} {cs:List Value} {l:List UInt8} (hT:Tabs w) (hA:Arr w g T cs) (hl:cs.length=c) (hn:l.length=n) (hc:n+20≤c) (ht:cs.take n=l.map byteV) (hu:u<18446744073709551616) :
 Calls Tryz.prog 189 #[.slice (some ⟨g,0,none⟩) n c, .int .u64 u, .int .i64 10] w (RetBf w g c T (l ++ Lib.decDigits u)):=by
 have h20:=digs20 hu;have HLN:=qh (And.intro hl hn);have HTK:=qh ht;have hlen:((Lib.decDigits u).map byteV).length=(Lib.decDigits u).length:=by simp
 have hend:∀ L,(Lib.decDigits u).length=L→(l ++ Lib.decDigits u).length=n+L:=fun L h=>by rw [List.length_append,hn,h]
 obtain ⟨iu,hiu,his⟩:∃ i,Tryz.prog.info? 5=some i∧i.size=1:=by
  have h:=info_u8;unfold Elem1 at h;cases hx:Tryz.prog.info? 5 with
  | none=>rw [hx] at h; cases h
  | some i=>rw [hx] at h; simp at h; exact ⟨i,rfl,h.2.1⟩
 clear ht hn;by_cases hsm:u<100
 · have hsml:=qh (str_small (w:=w) hsm);have hsrc:Go.Src Tryz.prog 1 9 (.string ⟨(Lib.decDigits u).toArray⟩) (Lib.decDigits u).length ((Lib.decDigits u).map byteV) w:=by
    have h:=Go.Src.ofString (P:=Tryz.prog) w (tx:=9) Tryz.underlying9 ⟨(Lib.decDigits u).toArray⟩;have e:(⟨(Lib.decDigits u).toArray⟩:ByteArray).size=(Lib.decDigits u).length:=by simp [ByteArray.size]
    rw [e] at h;exact h
   have hsi:(u:Int)<100:=by omega
   clear hl
   go_enter Tryz.func189,Tryz.ntmps189
   go_wp2_with fail
   refine hsml.out.mono ?_;rintro e w1 ⟨rfl,rfl⟩
   go_wp2_with (refine wl_appA rfl rfl Tryz.underlying154 hiu his rfl rfl hsrc hA (by omega) (by rw [HLN.out.1]; omega) ?_; intro w2 hA2 hg2)
   go_ret;exact ⟨by rw [hend _ rfl]; rfl,⟨w1,Ext.refl _,hg2⟩,_,hA2,bf_len hlen HLN.out.1 (by omega),bf_take HTK.out⟩
 · have hnd:Lib.nDigits u=(Lib.decDigits u).length:=(Lib.decDigits_length u).symm;have hfm:=qh (str_format (w0:=w) (T:=220) hu (by omega));have hndg:=qh (str_numDigits (u:=u) (hT.ext ((Ext.refl w).alloc (.cells Lib.zeros24 220))) (by omega) hu);rw [hnd] at hfm hndg
   have hz:Lib.zeros24=#[Value.int .u8 0,Value.int .u8 0,Value.int .u8 0,Value.int .u8 0,Value.int .u8 0,Value.int .u8 0,Value.int .u8 0,Value.int .u8 0,Value.int .u8 0,Value.int .u8 0,Value.int .u8 0,Value.int .u8 0,Value.int .u8 0,Value.int .u8 0,Value.int .u8 0,Value.int .u8 0,Value.int .u8 0,Value.int .u8 0,Value.int .u8 0,Value.int .u8 0,Value.int .u8 0,Value.int .u8 0,Value.int .u8 0,Value.int .u8 0]:=rfl;rw [hz] at hfm hndg;have hsi:¬ (u:Int)<100:=by omega
   have hal:Tryz.prog.arrayLen 220=24:=by kernel_rfl
   have hsl:∀ W,(Instr.sliceAt 220 (.pointer (some ⟨w.heap.size,0,none⟩)) none (some (.int .i64 ((Lib.decDigits u).length:Int))) none).run Tryz.prog W = .ok (.slice (some ⟨w.heap.size,0,none⟩) (Lib.decDigits u).length 24) W:=fun W=>by
    rw [run_sliceAt_array_h W 220 ⟨w.heap.size,0,none⟩ (by simp [Program.arrayLen,Program.elem,Tryz.underlying220]) .i64 ((Lib.decDigits u).length:Int) (by omega) (by rw [hal]; omega)];go_simp
   obtain ⟨L,hL⟩:∃ L,(Lib.decDigits u).length=L:=⟨_,rfl⟩;rw [hL] at h20 hfm hndg hlen hsl;have hendL:=qh (hend _ hL);clear hend;have HLL:=qh hL;clear hl hz hnd hL hal
   go_enter Tryz.func189,Tryz.ntmps189
   go_wp2_with fail
   refine hndg.out.mono ?_;rintro e w1 ⟨rfl,rfl⟩
   go_wp2_with fail
   refine hfm.out.mono ?_;rintro e w2 ⟨rfl,hE2,hc2⟩;have hA2:=hA.ext hE2;have hsrc:Go.Src Tryz.prog 1 154 (.slice (some ⟨w.heap.size,0,none⟩) L 24) L ((Lib.decDigits u).map byteV) w2:=by
    refine Go.Src.ofSlice (P:=Tryz.prog) w2 Tryz.underlying154 _ _ _ _ (by rw [hlen,Nat.mul_one]) (fun j v hj => ?_) (byteV_one _);have hj2:j<L:=by have:=(List.getElem?_eq_some_iff.1 hj).1; omega
    have h3:=hc2 j hj2;rw [List.getD_eq_getElem?_getD,hj] at h3;have ea:Addr.add ⟨w.heap.size,0,none⟩ j=⟨w.heap.size,j,none⟩:=by unfold Addr.add; split <;> simp_all
    rw [ea,h3];rfl
   clear hc2 hfm hndg
   go_wp2_with (refine wl_appA rfl rfl Tryz.underlying154 hiu his rfl rfl hsrc hA2 (by omega) (by rw [HLN.out.1]; omega) ?_; intro w3 hA3 hg3)
   go_ret;exact ⟨by rw [hendL.out]; rfl,⟨w2,hE2,hg3⟩,_,hA3,bf_len hlen HLN.out.1 (by omega),bf_take HTK.out⟩
end Go.Proofs.YtlpgonpfjbhmfaaGreatDoor
namespace Go.Proofs.YtlpgonpfjbhmfaaGreatDoor.W
open Go
def padD (w x:Nat):List UInt8:=if x=0 then List.replicate w 48 else List.replicate (w-(Lib.decDigits x).length) 48 ++ Lib.decDigits x
theorem padD_zero (w:Nat):padD w 0=List.replicate w 48:=by unfold padD; rw [if_pos rfl]
theorem padD_pos {w x:Nat} (h:0<x):padD w x=List.replicate (w-(Lib.decDigits x).length) 48 ++ Lib.decDigits x:=by unfold padD; rw [if_neg (by omega)]
theorem padD_nat {x:Nat} (h:0<x):padD 0 x=Lib.decDigits x:=by rw [padD_pos h,Nat.zero_sub]; rfl
theorem padD_dec {k b:Nat} (hk:0<k):padD k b=decPad k b:=by
 unfold decPad;rcases Nat.eq_zero_or_pos b with rfl|h
 · rw [padD_zero,dec_zero];obtain ⟨j,rfl⟩:∃ j,k=j+1:=⟨k-1,by omega⟩;rw [List.replicate_succ'];rfl
 · rw [padD_pos h]
theorem padD_split {w k a b:Nat} (ha:0<a) (hb:b<10^k) (hk:0<k):padD w (a*10^k+b)=padD (w-k) a ++ padD k b:=by
 have h0:0<a*10^k+b:=Nat.lt_of_lt_of_le (Nat.mul_pos ha (Nat.pow_pos (by omega))) (Nat.le_add_right _ _);rw [padD_dec hk,padD_pos h0,padD_pos ha,dec_split ha hb hk,List.append_assoc];have e:w-(Lib.decDigits a ++ decPad k b).length=w-k-(Lib.decDigits a).length:=by
  rw [List.length_append,decPad_len hb hk]; omega
 rw [e]
end Go.Proofs.YtlpgonpfjbhmfaaGreatDoor.W
