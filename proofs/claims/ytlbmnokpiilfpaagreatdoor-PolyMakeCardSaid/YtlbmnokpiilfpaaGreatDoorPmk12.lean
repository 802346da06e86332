/- Part Pmk12. -/
import Derived.Test.YtlbmnokpiilfpaaGreatDoorPmk10
import Derived.Test.YtlbmnokpiilfpaaGreatDoorPmk1
import Derived.Lib.ConvBytes
import Derived.Laws.IdiomStrings
import Derived.Lib.ItoaNum
import Derived.Shelf.Strconv.AppendInt10
import Derived.Shelf.Strconv.Itoa4
import Derived.Deep.AppendSrc
set_option maxRecDepth 100000
set_option maxHeartbeats 100000000
namespace Go.Proofs.YtlbmnokpiilfpaaGreatDoor
open Tryz Go Go.RowKit
variable {f:Act} {ops:Array Oper} {s t:ByteArray} {Q:Exit->Act->World->Prop} {z:Int} {rest:List Oper} {l:List UInt8} {c e n:Nat} {o:Oper} {x:Operand} {a:Option Addr} {dst src:TypeId} {v:Value} {w:World}
theorem NW (a:Nat):∀ e:Nat,(-(a:Int))^e=if e%2=1 then -((a^e:Nat):Int) else ((a^e:Nat):Int)
 | 0=>by simp
 | e+1=>by
  rw [Int.pow_succ,NW a e];by_cases h:e%2=1
  · rw [if_pos h,if_neg (by omega),Nat.pow_succ]; push_cast; grind
  · rw [if_neg h,if_pos (by omega),Nat.pow_succ]; push_cast; grind
theorem S1 {s:Bool} (a:decide (z<0)=s):z^e=if (s && decide (e%2=1))=true then -((z.natAbs^e:Nat):Int) else ((z.natAbs^e:Nat):Int):=by
 subst a;by_cases h:z<0
 · have h0:z = -(z.natAbs:Int):=by omega
   have h1:=NW z.natAbs e;rw [<-h0] at h1;rw [h1];simp [h]
 · have h0:z=(z.natAbs:Int):=by omega
   have h1:z^e=((z.natAbs^e:Nat):Int):=by rw [Int.natCast_pow,<-h0]
   rw [h1];simp [h]
theorem Km (h:AB w v z) (P:z.natAbs<P2 2496) (he:e<18446744073709551616) (R:z.natAbs^e<P2 4990):Calls prog 189 #[v, .int .u64 e] w (DI w (z^e)):=by
 obtain ⟨s,a,n,c,rfl,W,X⟩:=h;have H:=fun (M:World) (N:Ext w M)=>qh (H5 (X.ext N) P he R);have q:bits BinOp.and IntKind.u64 (e:Int) 1=((e%2:Nat):Int):=by
  have:=bits_and_u64_nat e 1 he (by omega);rw [Nat.and_one_is_mod] at this;exact this
 have j:=qh (S1 (e:=e) W.out);clear P R;obtain ⟨x,C⟩:∃ x,z.natAbs^e=x:=⟨_,rfl⟩;rw [C] at j;have t:=fun (M:World) (N:Ext w M)=>by have:=H M N; rw [C] at this; exact this
 clear H C;cases s with
 | true =>
  by_cases k:e%2=1
  · rw [k] at q;have l:Hid (z^e=if true=true then -(x:Int) else (x:Int)):=by show _=_; have:=j.out; simpa [k] using this
    clear j k
    go_enter func189,ntmps189
    go_upto_region 1 with (fail)
    refine Dm ?_;intro L d b o B;have J:=b.c 0 rfl;have K:=b.c 1 rfl;have G:Arr L (w.heap.size+1) 83 (Ac false none 0 0):=o;clear B
    go_wp2_with fail
    refine (t _ d).out.mono ?_;rintro F T ⟨O,S,Q,rfl,f,hp⟩;have y:=qh (Bm (neg:=true) hp l.out)
    go_wp2_with fail
    refine y.out.mono ?_;rintro F U ⟨s1,D,I,E,rfl,g,m,A⟩;have i:=(G.ext f).ext g
    go_wp2_with (refine Aa (vs:=Ac s1 D I E) rfl rfl rfl rfl rfl Ag i rfl (Ad _ _ _ _) ?_; intro V p r)
    exact bodyPost_ret (Al rfl Ag rfl p) rfl (Bc ((d.trans f).trans g) i (Ay _ _ _ _) r (by omega) m A)
  · have h0:e%2=0:=by omega
    rw [h0] at q;have l:Hid (z^e=if false=true then -(x:Int) else (x:Int)):=by show _=_; have:=j.out; simpa [h0] using this
    clear j k h0
    go_enter func189,ntmps189
    go_upto_region 1 with (fail)
    refine Dm ?_;intro L d b o B;have J:=b.c 0 rfl;have K:=b.c 1 rfl;have G:Arr L (w.heap.size+1) 83 (Ac false none 0 0):=o;clear B
    go_wp2_with fail
    refine (t _ d).out.mono ?_;rintro F T ⟨O,S,Q,rfl,f,hp⟩;have y:=qh (Bm (neg:=false) hp l.out)
    go_wp2_with fail
    refine y.out.mono ?_;rintro F U ⟨s1,D,I,E,rfl,g,m,A⟩;have i:=(G.ext f).ext g
    go_wp2_with (refine Aa (vs:=Ac s1 D I E) rfl rfl rfl rfl rfl Ag i rfl (Ad _ _ _ _) ?_; intro V p r)
    exact bodyPost_ret (Al rfl Ag rfl p) rfl (Bc ((d.trans f).trans g) i (Ay _ _ _ _) r (by omega) m A)
 | false =>
  have l:Hid (z^e=if false=true then -(x:Int) else (x:Int)):=by show _=_; have:=j.out; simpa using this
  clear j q
  go_enter func189,ntmps189
  go_upto_region 1 with (fail)
  refine Dm ?_;intro L d b o B;have J:=b.c 0 rfl;have K:=b.c 1 rfl;have G:Arr L (w.heap.size+1) 83 (Ac false none 0 0):=o;clear B
  go_wp2_with fail
  refine (t _ d).out.mono ?_;rintro F T ⟨O,S,Q,rfl,f,hp⟩;have y:=qh (Bm (neg:=false) hp l.out)
  go_wp2_with fail
  refine y.out.mono ?_;rintro F U ⟨s1,D,I,E,rfl,g,m,A⟩;have i:=(G.ext f).ext g
  go_wp2_with (refine Aa (vs:=Ac s1 D I E) rfl rfl rfl rfl rfl Ag i rfl (Ad _ _ _ _) ?_; intro V p r)
  exact bodyPost_ret (Al rfl Ag rfl p) rfl (Bc ((d.trans f).trans g) i (Ay _ _ _ _) r (by omega) m A)
def RF (z:Int):Value:=if -9223372036854775808<=z/\z<=9223372036854775807 then .tuple #[.int .i64 z, .bool true] else .tuple #[.int .i64 0, .bool false]
theorem Hk (h : -9223372036854775808<=z/\z<=9223372036854775807):RF z = .tuple #[.int .i64 z, .bool true]:=if_pos h
theorem Fw (h:¬ (-9223372036854775808<=z/\z<=9223372036854775807)):RF z = .tuple #[.int .i64 0, .bool false]:=if_neg h
theorem O1 (h:AB w v z):Calls prog 193 #[v] w fun e L=>e = .returned (RF z)/\Ext w L:=by
 obtain ⟨s,a,n,c,rfl,I,F⟩:=h;have r:=F.zero;rcases Nat.lt_or_ge n 2 with t|t
 · by_cases G:n=0
   · have l:Hid (RF z = .tuple #[.int .i64 0, .bool true]):=by
      have h0:z=0:=by have:=r.1 G; omega
      rw [h0];exact qh (Hk (by omega))
     subst G;clear r t
     go_enter func193,ntmps193
     go_upto_region 1 with (fail)
     refine AE ?_;intro E f d g;have m:=d.c 0 rfl;have p:=d.c 1 rfl;clear g;go_wp2
     go_ret2
     exact ⟨by rw [l.out]; rfl,f⟩
   · have H:n=1:=by omega
     subst H;obtain ⟨b,o,rfl,k,N,O⟩:=F.one;have i:(z.natAbs:Int)=if s=true then -z else z:=by have:=I.out; cases s <;> simp at this |- <;> omega
     clear r G t;cases s with
     | true =>
      simp only [if_true] at i;by_cases D:z.natAbs<=9223372036854775808
      · have l:=qh (Hk (z:=z) (by omega));have A:IntKind.i64.wrap (IntKind.u64.wrap (-(z.natAbs:Int)))=z:=by rw [IntKind.wrap_u64,IntKind.wrap_i64]; omega
        have y:(z.natAbs:Int)<=9223372036854775808:=by omega
        generalize z.natAbs=x at *
        clear D i
        go_enter func193,ntmps193
        go_upto_region 1 with (fail)
        refine AE ?_;intro E f d g;have m:=d.c 0 rfl;have p:=d.c 1 rfl;have q:=f.cell k;clear k;clear g;go_wp2
        go_ret2
        exact ⟨by rw [l.out,<-A]; rfl,f⟩
      · have l:=qh (Fw (z:=z) (by omega));have y:¬ ((z.natAbs:Int)<=9223372036854775808):=by omega
        generalize z.natAbs=x at *
        clear D i
        go_enter func193,ntmps193
        go_upto_region 1 with (fail)
        refine AE ?_;intro E f d g;have m:=d.c 0 rfl;have p:=d.c 1 rfl;have q:=f.cell k;clear k;clear g;go_wp2
        go_ret2
        exact ⟨by rw [l.out]; rfl,f⟩
     | false =>
      simp only [Bool.false_eq_true,if_false] at i;by_cases D:z.natAbs<=9223372036854775807
      · have l:=qh (Hk (z:=z) (by omega));have A:IntKind.i64.wrap (z.natAbs:Int)=z:=by rw [IntKind.wrap_i64]; omega
        have y:(z.natAbs:Int)<=9223372036854775807:=by omega
        generalize z.natAbs=x at *
        clear D i
        go_enter func193,ntmps193
        go_upto_region 1 with (fail)
        refine AE ?_;intro E f d g;have m:=d.c 0 rfl;have p:=d.c 1 rfl;have q:=f.cell k;clear k;clear g;go_wp2
        go_ret2
        exact ⟨by rw [l.out,<-A]; rfl,f⟩
      · have l:=qh (Fw (z:=z) (by omega));have y:¬ ((z.natAbs:Int)<=9223372036854775807):=by omega
        generalize z.natAbs=x at *
        clear D i
        go_enter func193,ntmps193
        go_upto_region 1 with (fail)
        refine AE ?_;intro E f d g;have m:=d.c 0 rfl;have p:=d.c 1 rfl;have q:=f.cell k;clear k;clear g;go_wp2
        go_ret2
        exact ⟨by rw [l.out]; rfl,f⟩
 · have B:=F.big t;have l:=qh (Fw (z:=z) (by omega));obtain ⟨M,h1,h2⟩:=F;obtain ⟨b,o,rfl,C⟩:=h1.at (j:=0) (by omega);have k:=C 0 (by omega);rw [Nat.add_zero] at k;have K:((n:Int) == 0)=false:=by simp; omega
   have J:(1:Int)<(n:Int):=by omega
   generalize M.getD 0 0=x at *
   clear B r C
   go_enter func193,ntmps193
   go_upto_region 1 with (fail)
   refine AE ?_;intro E f d g;have m:=d.c 0 rfl;have p:=d.c 1 rfl;have q:=f.cell k;clear k;clear g;go_wp2
   go_ret2
   exact ⟨by rw [l.out]; rfl,f⟩
def AQ (b:UInt8):Value := .int .u8 (b.toNat:Int)
def Aj (s:ByteArray):List UInt8:=s.data.toList
theorem Ax (s:ByteArray):(Aj s).length=s.size:=by unfold Aj; rw [Array.length_toList]; rfl
theorem Ci (l:List UInt8):Aj ⟨l.toArray⟩=l:=rfl
theorem DK (h:Aj s=Aj t):s=t:=by
 cases s with | mk a=>cases t with | mk b =>
 unfold Aj at h;simp only at h;have:=Array.ext' h;rw [this]
theorem AV (s:ByteArray) (i j:Nat):Aj (s.extract i j)=((Aj s).drop i).take (j-i):=by
 unfold Aj;rw [ByteArray.data_extract,Array.toList_extract]
theorem Gm (l:List UInt8):∀ v∈l.map AQ,v.oneCell'=true:=by
 intro v a;obtain ⟨b,_,rfl⟩:=List.mem_map.1 a;rfl
section
variable {P:Program} {w:World}
theorem Lx {e:TypeId} {u:TypeDesc} (j:P.underlying src=some u) (d:P.underlying dst=some (.slice e)) (he:P.underlying e=some (.int .u8)) (g:s.size<=maxLen) :
 ∃ c a,(convert src dst (.string s)).run P w = .ok (.slice (some ⟨w.heap.size,0,none⟩) s.size c) a/\Ext w a/\Sl a (some ⟨w.heap.size,0,none⟩) s.size c ((Aj s).map AQ):=by
 refine ⟨_,_,Lib.run_convert_string_bytes w src dst e s j d he, ?_, ?_⟩
 · refine ⟨rfl,rfl,rfl,by rw [Lib.bytesWorld_size]; omega,fun k f=>Lib.bytesWorld_at_old w e s k f⟩
 · refine ⟨by rw [List.length_map,Ax],grownCap_ge w s.size 0 e,grownCap_le_maxLen w s.size 0 e g,fun _=>⟨w.heap.size,0,rfl,fun i b => ?_⟩⟩;rw [Nat.zero_add,Lib.bytesWorld_cell w e s i b];have h1:i<(Aj s).length:=by rw [Ax]; exact b
   have h2:s.data.toList.getD i 0=(Aj s)[i]:=by
    show (Aj s).getD i 0=_;rw [gqq,List.getElem?_eq_getElem h1];rfl
   rw [h2];simp [h1,AQ]
theorem MN (g:o.guard=none) (l:o.op = .convert src dst x)
 {e:TypeId} {s:ByteArray} {u:TypeDesc} (m:P.underlying src=some u) (j:P.underlying dst=some (.slice e)) (he:P.underlying e=some (.int .u8)) (n:f.eval x = .string s) (k:s.size<=maxLen)
 (i:∀ c b,Ext w b->Sl b (some ⟨w.heap.size,0,none⟩) s.size c ((Aj s).map AQ)->wpList P ops Q rest (f.put o.dst (.slice (some ⟨w.heap.size,0,none⟩) s.size c)) b):wpList P ops Q (o :: rest) f w:=by
 refine wpList_plain g fun K d => ?_;obtain ⟨c,b,a,h2,h3⟩:=Lx (P:=P) (w:=w) m j he k;unfold Oper.wp execOp;simp only [l,n,Sem.run_bind,a,Result.andThen_ok,Sem.run_pure,Oper.upon];exact d _ _ (i c b h2 h3)
theorem Jf {e:TypeId} (i:P.underlying src=some (.slice e)) (he:P.underlying e=some (.int .u8)) (f:P.underlying dst=some .string) (d:Sl w a n c (l.map AQ)) :
 (convert src dst (.slice a n c)).run P w = .ok (.string ⟨l.toArray⟩) w:=by
 have m:n=l.length:=by have:=d.len; simpa using this.symm
 subst m;cases a with
 | none =>
  have h0:l=[]:=by
   rcases Nat.eq_zero_or_pos l.length with h|h
   · exact List.eq_nil_of_length_eq_zero h
   · obtain ⟨b,o,h1,_⟩:=d.rd h;cases h1
  subst h0;show (convert src dst (.slice none 0 c)).run P w=_;rw [run_convert_bytes_string w src dst e none 0 c i he f];simp [Conv.bytesToString];rfl
 | some ad =>
  refine run_convert_bytes_back w src dst e ad c l i he f fun j g => ?_;obtain ⟨b,o,h1,k⟩:=d.rd (by omega);simp only [Option.some.injEq] at h1;subst h1;have h2:=k j g;have h3:(l.map AQ).getD j undef = .int .u8 (l[j].toNat:Int):=by simp [g,AQ]
  rw [h3] at h2;rw [<-h2];unfold Addr.add;by_cases h0:j=0 <;> simp [h0]
theorem DL (g:o.guard=none) (m:o.op = .convert src dst x)
 {e:TypeId} {a:Option Addr} {n c:Nat} {l:List UInt8} (p:P.underlying src=some (.slice e)) (he:P.underlying e=some (.int .u8)) (j:P.underlying dst=some .string) (q:f.eval x = .slice a n c) (k:Sl w a n c (l.map AQ))
 (i:wpList P ops Q rest (f.put o.dst (.string ⟨l.toArray⟩)) w):wpList P ops Q (o :: rest) f w:=by
 refine wpList_plain g fun K d => ?_;have b:=Jf (P:=P) (w:=w) p he j k;unfold Oper.wp execOp;simp only [m,q,Sem.run_bind,b,Result.andThen_ok,Sem.run_pure,Oper.upon];exact d _ _ i
end
end Go.Proofs.YtlbmnokpiilfpaaGreatDoor
namespace Go.Proofs.YtlbmnokpiilfpaaGreatDoor.W
open Go
variable {k n:Nat}
def decV (l:List UInt8):Nat:=l.foldl (fun n c=>10*n+(c.toNat-48)) 0
def isDig (c:UInt8):Prop:=48<=c.toNat/\c.toNat<=57
def digs (l:List UInt8):Prop:=∀ c∈l,isDig c
theorem decV_snoc (l:List UInt8) (c:UInt8):decV (l ++ [c])=10*decV l+(c.toNat-48):=by simp [decV]
theorem Ep:∀ (l:List UInt8) (n:Nat),l.foldl (fun n c=>10*n+(c.toNat-48)) n=n*10^l.length+decV l
 | [],n=>by simp [decV]
 | c :: r,n=>by
  have h1:=Ep r (10*n+(c.toNat-48));have h2:=Ep r (10*0+(c.toNat-48));have h3:decV (c :: r)=r.foldl (fun n c=>10*n+(c.toNat-48)) (10*0+(c.toNat-48)):=rfl;rw [List.foldl_cons,h1,h3,h2,List.length_cons,Nat.pow_succ]
  grind
theorem decV_app (a b:List UInt8):decV (a ++ b)=decV a*10^b.length+decV b:=by
 have:decV (a ++ b)=b.foldl (fun n c=>10*n+(c.toNat-48)) (decV a):=by simp [decV]
 rw [this,Ep]
theorem O2 (c:UInt8) (r:List UInt8):decV (c :: r)=(c.toNat-48)*10^r.length+decV r:=by
 have:=decV_app [c] r;simpa [decV] using this
theorem decV_lt:∀ {l:List UInt8},digs l->decV l<10^l.length
 | [],_=>by simp [decV]
 | c :: r,h=>by
  have h1:=decV_lt (l:=r) (fun x a=>h x (by simp [a]));have h2:=h c (by simp);rw [O2,List.length_cons,Nat.pow_succ];have h3:(c.toNat-48)*10^r.length<=9*10^r.length:=Nat.mul_le_mul_right _ (by have:=h2.2; omega);omega
theorem Cb (h:n<256):(UInt8.ofNat n).toNat=n:=by simp; omega
theorem digs_dec (n:Nat):digs (Lib.decDigits n):=by
 induction n using Nat.strongRecOn with
 | _ n ih =>
  rw [Lib.decDigits];split
  · intro c a;simp only [List.mem_singleton] at a;subst a;unfold isDig;rw [Cb (by omega)];omega
  · intro c a;rcases List.mem_append.1 a with h|h
    · exact ih (n/10) (by omega) c h
    · simp only [List.mem_singleton] at h;subst h;unfold isDig;rw [Cb (by omega)];omega
theorem decV_dec (n:Nat):decV (Lib.decDigits n)=n:=by
 induction n using Nat.strongRecOn with
 | _ n ih =>
  rw [Lib.decDigits];split
  · simp only [decV,List.foldl];rw [Cb (by omega)];omega
  · rw [decV_snoc,ih (n/10) (by omega),Cb (by omega)];omega
theorem dec_ne (n:Nat):Lib.decDigits n≠[]:=by
 rw [Lib.decDigits];split <;> simp
theorem dec_zero:Lib.decDigits 0=[48]:=by rw [Lib.decDigits]; rfl
theorem dec_head (h:0<n):∃ c r,Lib.decDigits n=c :: r/\c≠48:=by
 induction n using Nat.strongRecOn with
 | _ n ih =>
  rw [Lib.decDigits];split
  · refine ⟨_,[],rfl,fun a => ?_⟩;have:=congrArg UInt8.toNat a;rw [Cb (by omega)] at this;simp at this;omega
  · obtain ⟨c,r,e,a⟩:=ih (n/10) (by omega) (by omega);exact ⟨c,r ++ [UInt8.ofNat (48+n%10)],by rw [e]; rfl,a⟩
theorem Ly {c:UInt8} (h:isDig c):UInt8.ofNat (48+(c.toNat-48))=c:=by
 apply UInt8.toNat_inj.1;rw [Cb (by have:=h.2; omega)];have:=h.1;omega
theorem dec_of_digs:∀ {l:List UInt8} (_:digs l) (_:l≠[]) (_:∀ c r,l=c :: r->c=48->r=[]),Lib.decDigits (decV l)=l:=by
 intro l
 induction h:l.length using Nat.strongRecOn generalizing l with
 | _ n ih =>
  intro m f p;obtain ⟨a,c,rfl⟩:∃ a c,l=a ++ [c]:=⟨l.dropLast,l.getLast f,(List.dropLast_concat_getLast f).symm⟩;have d:isDig c:=m c (by simp);by_cases k:a=[]
  · subst k;have e:decV ([] ++ [c])=c.toNat-48:=by simp [decV]
    rw [e,Lib.decDigits,dif_pos (by have:=d.2; omega),Ly d];rfl
  · have i:digs a:=fun x q=>m x (by simp [q]);have j:∀ g r,a=g :: r->g=48->r=[]:=by
     intro g r e e0;subst e;have:=p g (r ++ [c]) rfl e0;simp at this
    have b:=ih a.length (by rw [<-h]; simp) rfl i k j;have o:0<decV a:=by
     rcases Nat.eq_zero_or_pos (decV a) with h0|h0
     · rw [h0,dec_zero] at b;have:=p 48 [c] (by rw [<-b]; rfl) rfl;simp at this
     · exact h0
    rw [decV_snoc,Lib.decDigits,dif_neg (by omega)];have h1:(10*decV a+(c.toNat-48))/10=decV a:=by have:=d.2; omega
    have h2:(10*decV a+(c.toNat-48))%10=c.toNat-48:=by have:=d.2; omega
    rw [h1,h2,b,Ly d]
def DM (k n:Nat):List UInt8:=List.replicate (k-(Lib.decDigits n).length) 48 ++ Lib.decDigits n
theorem Id:∀ k,decV (List.replicate k 48)=0
 | 0=>rfl
 | k+1=>by rw [List.replicate_succ',decV_snoc,Id k]; rfl
theorem dec_len (h:n<10^k) (a:0<k):(Lib.decDigits n).length<=k:=by
 induction n using Nat.strongRecOn generalizing k with
 | _ n ih =>
  rw [Lib.decDigits];split
  · simp; omega
  · have:2<=k:=by
     rcases Nat.lt_or_ge k 2 with h2|h2
     · have:k=1:=by omega
       subst this;omega
     · exact h2
    have h3:=ih (n/10) (by omega) (k:=k-1) (by
     rw [Nat.div_lt_iff_lt_mul (by omega),<-Nat.pow_succ,show (k-1).succ=k by omega]
     exact h) (by omega)
    simp;omega
theorem Ie (h:n<10^k) (a:0<k):(DM k n).length=k:=by
 have:=dec_len h a;simp [DM];omega
theorem O3 {a b:Nat} (g:0<a) (i:b<10^k) (l:0<k):Lib.decDigits (a*10^k+b)=Lib.decDigits a ++ DM k b:=by
 have j:digs (Lib.decDigits a ++ DM k b):=by
  intro c f;rcases List.mem_append.1 f with h|h
  · exact digs_dec a c h
  · rcases List.mem_append.1 h with h|h
    · rw [(List.mem_replicate.1 h).2]; exact ⟨by decide,by decide⟩
    · exact digs_dec b c h
 have m:decV (Lib.decDigits a ++ DM k b)=a*10^k+b:=by
  rw [decV_app,decV_dec,Ie i l];unfold DM;rw [decV_app,Id,decV_dec];omega
 obtain ⟨c,r,e,f⟩:=dec_head g;rw [<-m];refine dec_of_digs j (by rw [e]; simp) ?_;intro n o d e0;rw [e] at d;simp only [List.cons_append,List.cons.injEq] at d;exact absurd (d.1.trans e0) f
end Go.Proofs.YtlbmnokpiilfpaaGreatDoor.W
namespace Go.Proofs.YtlbmnokpiilfpaaGreatDoor
open Tryz Go Go.RowKit
variable {f:Act} {ops:Array Oper} {s:ByteArray} {Q:Exit->Act->World->Prop} {z:Int} {zs:List Nat} {rest:List Oper} {l r:List UInt8} {cs news xs:List Value} {B base c d m n u:Nat} {o:Oper} {x:Operand} {a b:Option Addr} {T e t tx:TypeId} {v:Value} {w w0 wb:World}
theorem O4 (b:zs.length=n+1) (a:W.bnd B zs) (d:B^n<=W.val B zs):W.nrm zs:=by
 intro c h0;rw [List.getLast_eq_getElem] at h0;have h1:=Dd (B:=B) b;have h2:=BK a (m:=n) (by omega);have h3:zs.getD n 0=zs[zs.length-1]'(by omega):=by
  have:zs.length-1=n:=by omega
  simp [this,show n<zs.length by omega]
 rw [h3,h0,Nat.zero_mul,Nat.zero_add] at h1;omega
theorem Qa (a:W.digs l) (b:l.length<=19):W.decV l<10000000000000000000:=by
 have h1:=W.decV_lt a;have h2:10^l.length<=10^19:=Nat.pow_le_pow_right (by omega) b;omega
theorem JG (b:W.digs l) (k:Nat):W.digs (l.take k):=fun c a=>b c (List.mem_of_mem_take a)
theorem O5 (b:W.digs l) (k:Nat):W.digs (l.drop k):=fun c a=>b c (List.mem_of_mem_drop a)
theorem O6 {xs:List Nat} {k c' V:Nat} (a:k<zs.length) (f:k<xs.length) (h:W.val B (zs.take k)+c*B^k=u*W.val B (xs.take k)+V) (e:d+B*c'=xs.getD k 0*u+c) :
 W.val B ((zs.set k d).take (k+1))+c'*B^(k+1)=u*W.val B (xs.take (k+1))+V:=by
 have b:W.val B ((zs.set k d).take (k+1))=W.val B (zs.take k)+B^k*d:=by
  rw [W.val_take_succ (by simpa using a)];congr 1
  · rw [List.take_set_of_le (lrf _)]
  · simp [a]
 rw [b,W.val_take_succ f,Nat.pow_succ];have g:B^k*(d+B*c')=B^k*(xs.getD k 0*u+c):=by rw [e]
 grind
theorem G7 (hd:W.digs (Aj s)) (hs:s.size<=600) :
 Calls prog 286 #[.string s] w (Jv w (W.decV (Aj s))):=by
 have HD:=qh hd;clear hd
 go_enter func286,ntmps286
 go_wp2
 go_loopw [0,3] (fun dv xv wr=>∃ (j:Nat) (t:ByteArray) (a:Option Addr) (n c:Nat) (xs:List Nat),dv = .string t/\xv = .slice a n c/\j<=s.size/\Hid (Aj t=(Aj s).drop j)/\t.size+j=s.size/\n<=j/\Ext w wr/\Own wr w.heap.size 238 a n c (xs.map (Bi .u64))/\Hid (Num 18446744073709551616 xs (W.decV ((Aj s).take j)))) (fun dv _ _=>match dv with | .string t=>t.size | _=>0)
 case atStart=>exact ⟨0,s,none,0,0,[],rfl,rfl,Nat.zero_le _,qh rfl,by omega,by omega,Ext.refl w,Own.nil _ _ _,qh (Num.nil _)⟩
 case round =>
  obtain ⟨j,t,a,n,c,xs,rfl,rfl,hj,HT,aT,aR,hE,hO,Z⟩:=hrel;by_cases h0:t.size=0
  · have HF:Hid (Num 18446744073709551616 xs (W.decV (Aj s))):=by
     have h1:=Z.out;rw [List.take_of_length_le (by rw [Ax]; omega)] at h1;exact qh h1
    have aC:¬ (0:Int)<(t.size:Int):=by omega
    clear h0;go_wp2;go_ret;exact ⟨a,n,c,rfl,hE,xs,hO.sl,HF.out⟩
  · have aC:(0:Int)<(t.size:Int):=by omega
    obtain ⟨z,hz⟩:∃ z,(t.size-1)%19+1=z:=⟨_,rfl⟩;have aU:1<=z:=by omega
    have aV:z<=19:=by omega
    have aW:z<=t.size:=by omega
    have aF:IntKind.i64.wrap ((t.size:Int)-1)=((t.size-1:Nat):Int):=by rw [show (t.size:Int)-1=((t.size-1:Nat):Int) by omega]; exact IntWalk.i64_in _ (by omega)
    have aG:((t.size-1:Nat):Int).tmod 19=(((t.size-1)%19:Nat):Int):=by rw [Int.tmod_eq_emod_of_nonneg (by omega)]; omega
    have am:((t.size-1:Nat):Int)%19=(((t.size-1)%19:Nat):Int):=by omega
    have aH:IntKind.i64.wrap ((((t.size-1)%19:Nat):Int)+1)=(z:Int):=by rw [show (((t.size-1)%19:Nat):Int)+1=(z:Int) by omega]; exact IntWalk.i64_in _ (by omega)
    clear hz;generalize (t.size-1)%19=z0 at *
    generalize t.size-1=t1 at *
    have aX:(z:Int)<=(t.size:Int):=by omega
    go_upto_region 6 with (refine MN rfl rfl underlying9 underlying228 underlying5 rfl (by unfold maxLen; simp; omega) ?_; intro cb w1 a6 Q)
    have M:Aj (t.extract 0 z)=((Aj s).drop j).take z:=by rw [AV,HT.out,List.drop_zero,Nat.sub_zero]
    have aa:W.digs (Aj (t.extract 0 z)):=by rw [M]; exact JG (O5 HD.out j) z
    have ab:(Aj (t.extract 0 z)).length=z:=by rw [M,List.length_take,List.length_drop,Ax]; omega
    have an:=qh M;clear M;have ak:(t.extract 0 z).size=z:=by simp; omega
    rw [ak] at Q;clear ak;generalize Aj (t.extract 0 z)=A at *
    have X:=qh aa;have K:=qh ab;clear aa ab aF aG am aH
    go_loop [5,6,25] (fun cv bv T=>∃ (k f P:Nat),k<=z/\cv = .int .u64 f/\bv = .int .u64 P/\T = .int .i64 k/\f<10000000000000000000/\P<=10000000000000000000/\Hid (W.decV (A.take k)=f/\10^k=P)) (fun _ _ T=>z-(intOf T).toNat)
    case atStart=>exact ⟨0,0,1,Nat.zero_le _,rfl,rfl,rfl,by omega,by omega,qh ⟨rfl,rfl⟩⟩
    case round =>
     obtain ⟨k,f,P,hk,rfl,rfl,rfl,aM,hP,E⟩:=hrel;by_cases ac:k<z
     · obtain ⟨b1,o1,I,J⟩:=Q.rd (by omega);simp only [Option.some.injEq,Addr.mk.injEq,and_true] at I;obtain ⟨I,af⟩:=I;have g1:=J k ac;rw [<-I,<-af,Nat.zero_add] at g1;have S:k<A.length:=by rw [K.out]; exact ac
       have e1:(A.map AQ).getD k undef = .int .u8 ((A[k].toNat:Nat):Int):=by simp [S,AQ]
       rw [e1] at g1;have az:=X.out A[k] (List.getElem_mem S);have ah:A.take (k+1)=A.take k ++ [A[k]]:=List.take_succ_eq_append_getElem S;have b:W.decV (A.take (k+1))=10*f+(A[k].toNat-48):=by rw [ah,W.decV_snoc,E.out.1]
       have ae:=Qa (JG X.out (k+1)) (by rw [List.length_take,K.out]; omega);have ag:10^(k+1)<=10^19:=Nat.pow_le_pow_right (by omega) (by omega);rw [Nat.pow_succ,E.out.2] at ag;rw [b] at ae;have l:=qh b;have Y:Hid (10^(k+1)=P*10):=by show _=_; rw [Nat.pow_succ,E.out.2]
       obtain ⟨aN,aO⟩:=az;generalize A[k].toNat=e at *
       have a1:IntKind.u64.wrap (10*(f:Int))=((10*f:Nat):Int):=Ak (by omega) (by omega);have a2:IntKind.u8.wrap ((e:Int)-48)=((e-48:Nat):Int):=by rw [IntKind.wrap_u8]; omega
       have a3:IntKind.u64.wrap ((e-48:Nat):Int)=((e-48:Nat):Int):=Ak rfl (by omega);have a4:IntKind.u64.wrap (((10*f:Nat):Int)+((e-48:Nat):Int))=((10*f+(e-48):Nat):Int):=Ak (by omega) (by omega);have a5:IntKind.u64.wrap ((P:Int)*10)=((P*10:Nat):Int):=Ak (by omega) (by omega);have b2:10*f+(e-48)<10000000000000000000:=by omega
       have b3:P*10<=10000000000000000000:=by omega
       clear b ah e1 J I af ae ag;generalize 10 * f+(e-48)=ap at *
       generalize 10 * f=aJ at *
       generalize e-48=d1 at *
       generalize P * 10=P1 at *
       go_wp2;go_round
       case rel=>exact ⟨k+1,ap,P1,by omega,rfl,rfl,by go_num,b2,b3,qh ⟨l.out,Y.out⟩⟩
       case measure=>simp [intOf]; omega
     · have ek:k=z:=by omega
       have N:Hid (W.decV A=f/\10^z=P):=by
        have h1:=E.out;rw [ek,List.take_of_length_le (by rw [K.out]; exact lrf _)] at h1;exact qh h1
       clear ek E Q;have a9:=hO.ext a6;have a8:=hE.trans a6;have L:Hid (xs.length=n):=qh (by have:=hO.len; simpa using this);go_wp2;obtain ⟨wo,aI⟩:∃ wo:World,wo=wr:=⟨_,rfl⟩;subst aI
       go_loopw [9,44] (fun cv T wx=>∃ (q C:Nat) (zs:List Nat),q<=n/\cv = .int .u64 C/\T = .int .i64 q/\C<18446744073709551616/\Ext w wx/\Own wx w.heap.size 238 a n c (zs.map (Bi .u64))/\Hid (W.bnd 18446744073709551616 zs/\zs.drop q=xs.drop q/\W.val 18446744073709551616 (zs.take q)+C*18446744073709551616^q=P*W.val 18446744073709551616 (xs.take q)+f)) (fun _ T _=>n-(intOf T).toNat)
       case atStart=>exact ⟨0,f,xs,Nat.zero_le _,rfl,rfl,by omega,a8,a9,qh ⟨Z.out.bnd,rfl,by simp [W.val]⟩⟩
       case round =>
        clear a9 a8;obtain ⟨q,C,zs,hq,rfl,rfl,ay,H,D,G⟩:=hrel;have al:zs.length=n:=by have:=D.len; simpa using this
        have x:=qh al;clear al;by_cases r:q<n
        · obtain ⟨g,rfl,aA,aP⟩:=D.place (by omega);have O:Av .u64 wr w.heap.size 238 g n c zs:=D;have g1:=O.cell (i:=q) r;have f1:=O.frozen q;have hb:=W.bnd_at G.out.1 (i:=q) (by rw [x.out]; exact r);have ai:zs.getD q 0=xs.getD q 0:=Eh G.out.2.1;have ao:=qh ai;clear ai;generalize zs.getD q 0=xq at *
          go_wp2_with fail
          refine (BC hb (show P<18446744073709551616 by omega) ay).mono ?_;rintro e2 w2 ⟨U,hi,rfl,rfl,aE,aD,e1⟩;have HS:=qh (O6 (B:=18446744073709551616) (zs:=zs) (xs:=xs) (k:=q) (d:=U) (u:=P) (c:=C) (c':=hi) (V:=f) (by rw [x.out]; exact r) (by rw [L.out]; exact r) G.out.2.2 (by rw [<-ao.out]; exact e1));have aw:Own (wr.setCell ⟨g,q,none⟩ (.int .u64 (U:Int))) w.heap.size 238 (some ⟨g,0,none⟩) n c ((zs.set q U).map (Bi .u64)):=O.set q U;have ar:=H.setCell (p:=⟨g,q,none⟩) aA (.int .u64 (U:Int));clear e1;go_wp2;go_roundw
          case rel=>exact ⟨q+1,hi,zs.set q U,by omega,rfl,by go_num,aD,ar,aw,qh ⟨W.bnd_set G.out.1 aE,DG G.out.2.1,HS.out⟩⟩
          case measure=>simp [intOf]; omega
        · have eq:q=n:=by omega
          have v:W.val 18446744073709551616 zs+C*18446744073709551616^n=P*W.val 18446744073709551616 xs+f:=by
           have h1:=G.out.2.2;rw [eq,List.take_of_length_le (by rw [x.out]; exact lrf _),List.take_of_length_le (by rw [L.out]; exact lrf _)] at h1;exact h1
          rw [Z.out.val] at v;have b:P*W.decV ((Aj s).take j)+f=W.decV ((Aj s).take (j+z)):=by
           have h1:(Aj s).take (j+z)=(Aj s).take j ++ A:=by rw [an.out,List.take_add]
           rw [h1,W.decV_app,K.out,N.out.1,N.out.2,Nat.mul_comm]
          rw [b] at v;have o:=qh v;have l:=qh b;have aj:Aj (t.extract z t.size)=(Aj s).drop (j+z):=by
           rw [AV,HT.out,List.drop_drop,List.take_of_length_le (by rw [List.length_drop,Ax]; omega)]
          have a0:=qh aj;have aS:(t.extract z t.size).size=t.size-z:=by simp
          clear v b aj eq;by_cases R:C=0
          · have m:Num 18446744073709551616 zs (W.decV ((Aj s).take (j+z))):=by
             have h1:=o.out;rw [R,Nat.zero_mul,Nat.add_zero] at h1;refine ⟨G.out.1, ?_,h1⟩;rcases Nat.eq_zero_or_pos n with ad|ad
             · have:zs=[]:=List.eq_nil_of_length_eq_zero (by rw [x.out,ad]);rw [this]; exact W.nrm_nil
             · refine O4 (B:=18446744073709551616) (n:=n-1) (by rw [x.out]; omega) G.out.1 ?_;rw [h1,<-l.out];have h2:=W.nrm_pos (B:=18446744073709551616) (by omega) Z.out.nrm (by intro h; have:=L.out; rw [h] at this; simp at this; omega);rw [L.out,Z.out.val] at h2;have h3:1*W.decV ((Aj s).take j)<=P*W.decV ((Aj s).take j):=Nat.mul_le_mul_right _ (by rw [<-N.out.2]; exact Nat.pow_pos (by omega));omega
            have F:=qh m;subst R;clear m o l G;generalize t.extract z t.size=t2 at *
            go_wp2;go_roundw
            case rel=>exact ⟨j+z,t2,a,n,c,zs,rfl,rfl,by omega,a0,by omega,by omega,H,D,F⟩
            case measure=>simp; omega
          · have aL:((C:Int) != 0)=true:=by simp; omega
            have m:Num 18446744073709551616 (zs ++ [C]) (W.decV ((Aj s).take (j+z))):=by
             refine ⟨W.bnd_app G.out.1 (fun y hy=>by simp at hy; omega),fun aQ=>by simp; exact R, ?_⟩;rw [W.val_snoc,x.out,<-o.out,Nat.mul_comm]
            have F:=qh m;have hA:=D.alloc (.cells #[.int .u64 (C:Int)] 238);have hL:=(Az wr w.heap.size 238 #[.int .u64 (C:Int)] 1 rfl H.size (by omega)).sl;have ax:∀ k,blk a=some k->w.heap.size<=k:=fun k hk=>(D.lt hk).1;clear m o l G;generalize t.extract z t.size=t2 at *
            go_wp2_with (refine Bj rfl rfl underlying81 AA rfl rfl hA rfl hL (by simp [Value.oneCell']) (by unfold maxLen; omega) (by omega) (by simp; have:=H.size; omega) ?_; intro a7 c7 w7 au aB aK)
            have aq:Ext w w7:=(H.alloc _).grown aB ax;have av:Own w7 w.heap.size 238 a7 (n+1) c7 ((zs ++ [C]).map (Bi .u64)):=by rw [List.map_append]; exact au
            go_roundw
            case rel=>exact ⟨j+z,t2,a7,n+1,c7,zs ++ [C],rfl,rfl,by omega,a0,by omega,by omega,aq,av,F⟩
            case measure=>simp; omega
theorem If (b:W.digs (Aj s)) (g:s.size<=570) :
 Calls prog 237 #[.string s, .slice none 0 0] w (Jv w (W.decV (Aj s))):=by
 have hp:=qh (G7 (w:=w) b (by omega));clear b
 go_enter func237,ntmps237
 go_wp2;refine wp_loop_rounds 1 ?_;rw [rounds_succ]
 go_wp2_with fail
 refine hp.out.mono ?_;rintro e i ⟨a,n,c,rfl,d,f⟩;go_wp2;go_ret;exact ⟨a,n,c,rfl,d,f⟩
theorem Ig (b:W.digs (Aj s)) (g:s.size<=570) :
 Calls prog 202 #[.string s] w (Jv w (W.decV (Aj s))):=by
 have hp:=qh (If (w:=w) b g);have f:¬ ((570:Int)<(s.size:Int)):=by omega
 clear b
 go_enter func202,ntmps202
 go_wp2_with fail
 refine hp.out.mono ?_;rintro e j ⟨a,n,c,rfl,d,i⟩;go_wp2;go_ret;exact ⟨a,n,c,rfl,d,i⟩
theorem JH (l:W.digs (Aj s)) (q:s.size<=570) :
 Calls prog 139 #[.string s] w (DI w ((W.decV (Aj s):Nat):Int)):=by
 go_enter func139,ntmps139
 go_upto_region 1 with (fail)
 refine AE ?_;intro m g d k;have hp:=qh (Ig (w:=m) l q);have p:Arr m w.heap.size 83 (Ac false none 0 0):=d;have c:Hid (decide (((W.decV (Aj s):Nat):Int)<0)=false):=qh (decide_eq_false (by omega));clear l k
 go_wp2_with fail
 refine hp.out.mono ?_;rintro e t ⟨n,r,o,rfl,a,j⟩;have b:=p.ext a
 go_wp2_with (refine Aa (vs:=Ac false n r o) rfl rfl rfl rfl rfl Ag b rfl (Ad _ _ _ _) ?_; intro v f i)
 exact bodyPost_ret (Al rfl Ag rfl f) rfl (Bc (g.trans a) b (Ay _ _ _ _) i (by omega) c j)
theorem CE:BL prog 5 (.int .u8 0) 1:=by unfold BL; kernel_rfl
def Ih (wb:World) (l:List UInt8) (e:Ending) (w':World):Prop:=∃ a n c,e = .returned (.slice a n c)/\Own w' wb.heap.size 5 a n c (l.map AQ)/\Ext wb w'
theorem Jg (h:w.ownsRow base e 1 v n xs):∃ a c,v = .slice a n c/\Own w base e a n c xs:=by
 rcases h.2 with ⟨d,h0⟩|⟨g,b,f,d,_⟩
 · subst d; subst h0;exact ⟨none,0,rfl,h⟩
 · subst d;exact ⟨_,b,rfl,h⟩
theorem G8 (i:AR w) (b:Ext wb w) (g:Own w wb.heap.size 5 a n c (l.map AQ)) (hu:u<18446744073709551616) (j:n<=100000) :
 Calls prog 302 #[.slice a n c, .int .u64 u, .int .i64 10] w (Ih wb (l ++ Lib.decDigits u)):=by
 refine (Any.internal_strconv_AppendUint_10 OP wb.heap.size n u hu (.slice a n c) (l.map AQ) w g b.size (by omega) i.ten).mono ?_;rintro e m ⟨k,rfl,h1,h2,_⟩;obtain ⟨d,f,rfl,h3⟩:=Jg h1;refine ⟨d,_,f,rfl, ?_,Below.trans b h2⟩;rw [List.map_append];exact h3
theorem Ii (i:AR w) (f:Ext wb w) (g:Own w wb.heap.size 5 a n c (l.map AQ)) (hu:u<18446744073709551616) (j:n<=100000) :
 Calls prog 283 #[.slice a n c, .int .u64 u, .int .i64 10] w (Ih wb (l ++ Lib.decDigits u)):=by
 have h:=qh (G8 i f g hu j)
 go_enter func283,ntmps283
 go_wp2_with fail
 refine h.out.mono ?_;rintro e m ⟨b,k,d,rfl,h1,h2⟩;go_wp2;go_ret;exact ⟨b,k,d,rfl,h1,h2⟩
theorem Jh (b:AR w) (h0 : -9223372036854775808<=z) (h1:z<=9223372036854775807) :
 Calls prog 181 #[.int .i64 z, .int .i64 10] w fun e a=>e = .returned (.string ⟨(Lib.itoa z).toArray⟩)/\Ext w a:=by
 refine (Any.strconv_FormatInt_10 SA z h0 h1 w b.ten).mono ?_;rintro e a ⟨rfl,k,c,rfl⟩;exact ⟨rfl,Lib.below_grow w.heap.size w (lrf _) k c⟩
theorem Lz (b:AR w) (h0 : -9223372036854775808<=z) (h1:z<=9223372036854775807) :
 Calls prog 114 #[.int .i64 z] w fun e a=>e = .returned (.string ⟨(Lib.itoa z).toArray⟩)/\Ext w a:=by
 have h:=qh (Jh b h0 h1)
 go_enter func114,ntmps114
 go_wp2_with fail
 refine h.out.mono ?_;rintro e a ⟨rfl,h2⟩;go_wp2;go_ret;exact ⟨rfl,h2⟩
theorem Gn {x:Nat} (E:AR w) (i:Ext wb w) (j:Own w wb.heap.size 5 a n c (l.map AQ)) (g:Wd w b m d x) (s:x<18446744073709551616) (H:n<=100000) :
 Calls prog 234 #[.slice a n c, .slice b m d] w (Ih wb (l ++ Lib.decDigits x)):=by
 have t:m<=1:=g.len (k:=1) (by rw [MI]; exact s);have f:=g.zero;by_cases h0:m=0
 · have r:x=0:=f.1 h0;subst h0; subst r;have v:Hid (l ++ Lib.decDigits 0=l ++ [48]):=by show _=_; rw [W.dec_zero]
   have C:=j.alloc (.cells #[.int .u8 48] 5);have D:=(Az w wb.heap.size 5 #[.int .u8 48] 1 rfl i.size (by omega)).sl;have p:∀ k,blk a=some k->wb.heap.size<=k:=fun k G=>(j.lt G).1;clear f t g
   go_enter func234,ntmps234
   go_wp2_with (refine Bj rfl rfl underlying228 CE rfl rfl C rfl D (by simp [Value.oneCell']) (by unfold maxLen; omega) (by omega) (by simp; have:=i.size; omega) ?_; intro z B P o q F)
   go_ret;refine ⟨z,n+1,B,rfl, ?_,(i.alloc _).grown q p⟩;rw [v.out,List.map_append];exact o
 · have h1:m=1:=by omega
   subst h1;obtain ⟨J,N,rfl,K,L,M⟩:=g.one;have h:=qh (Ii E i j s H);clear f t g h0
   go_enter func234,ntmps234
   go_wp2_with fail
   refine h.out.mono ?_;rintro e O ⟨y,I,A,rfl,h1,h2⟩;go_wp2;go_ret;exact ⟨y,I,A,rfl,h1,h2⟩
theorem Arr.setCells {g:Nat} {t:TypeId}:∀ (b:List Value) (o:Nat) (w:World) (a:List Value),Arr w g t a->o+b.length<=a.length->Arr (w.setCells g o b) g t (a.take o ++ b ++ a.drop (o+b.length))
 | [],o,w,a,h,_=>by
  have e:a.take o ++ [] ++ a.drop (o+([]:List Value).length)=a:=by simp
  rw [e]; exact h
 | v :: r,o,w,a,h,hl=>by
  simp only [List.length_cons] at hl;have h1:=Arr.setCells r (o+1) _ _ (h.set o v) (by simp; omega);have e:(a.set o v).take (o+1) ++ r ++ (a.set o v).drop (o+1+r.length)=a.take o ++ (v :: r) ++ a.drop (o+(v :: r).length):=by
   have c:(a.set o v).take (o+1)=a.take o ++ [v]:=by
    rw [List.take_succ_eq_append_getElem (by simp; omega)];rw [List.take_set_of_le (by omega)];simp
   have d:(a.set o v).drop (o+1+r.length)=a.drop (o+1+r.length):=by
    rw [List.drop_set_of_lt (by omega)]
   rw [c,d];simp [Nat.add_comm,Nat.add_left_comm]
  rw [e] at h1;exact h1
theorem Eq (g:Nat):∀ (d:List Value) (o:Nat) (w:World),w.grownBy (w.setCells g o d) (some g)
 | [],_,w=>⟨rfl,rfl,rfl,lrf _,fun _ _ _=>rfl⟩
 | v :: r,o,w=>by
  have h1:=Af w g o v;have h2:=Eq g r (o+1) (w.setCell ⟨g,o,none⟩ v);exact ⟨h2.os.trans h1.os,h2.tape.trans h1.tape,h2.output.trans h1.output,Nat.le_trans h1.size h2.size,fun b c a=>(h2.block b (Nat.lt_of_lt_of_le c h1.size) a).trans (h1.block b c a)⟩
section
variable {P:Program} {w:World}
theorem NZ {s:Operand} (v:o.guard=none)
 (C:o.op = .call { callee := .builtin .append,args:=#[s,x],argTypes:=#[t,tx] })
 {e T:TypeId} {i:TypeInfo} {g n c m:Nat} {p:Value} {cs news:List Value}
 (E:P.underlying t=some (.slice e)) (hi:P.info? e=some i) (k:i.size=1) (D:f.eval s = .slice (some ⟨g,0,none⟩) n c) (F:f.eval x=p) (b:Go.Src P 1 tx p m news w) (q:Arr w g T cs)
 (d:n+m<=c) (z:n+m<=cs.length)
 (A:∀ y,Arr y g T (cs.take n ++ news ++ cs.drop (n+m))->w.grownBy y (some g)->wpList P ops Q rest (f.put o.dst (.slice (some ⟨g,0,none⟩) (n+m) c)) y):wpList P ops Q (o :: rest) f w:=by
 refine wpList_plain v fun K r => ?_;have B:news.length=m:=by have:=b.newsLen; simpa using this
 have l:Go.Src P i.size tx p m news w:=by rw [k]; exact b
 have a:=run_append_room_src (P:=P) (w:=w) t tx o.type e i E hi g 0 n c p m news l d
  (fun j G=>by
   rw [k,Nat.zero_add,Nat.mul_one,q.cell (i:=n+j) (by omega)]; rfl)
  (fun j _=>q.frozen _)
 rw [k,Nat.zero_add,Nat.mul_one] at a;have h1:=Arr.setCells news n w cs q (by omega);rw [B] at h1;unfold Oper.wp execOp;simp only [C,resolve,invoke,builtin,Sem.run_bind,Sem.run_pure,Result.andThen_ok,List.map_toArray,List.map_cons,List.map_nil,D,F,a];exact r _ _ (A _ h1 (Eq g news n w))
end
theorem O7 (hu:u<100):Calls prog 269 #[.int .i64 u] w fun e a=>e = .returned (.string ⟨(Lib.decDigits u).toArray⟩)/\a=w :=
 Any.internal_strconv_small { OP with } u hu w
theorem Ji (a:AR w) (h1:1<=u) (hu:u<18446744073709551616):Calls prog 270 #[.int .u64 u] w fun e b=>e = .returned (.int .i64 (Lib.nDigits u:Nat))/\b=w :=
 Any.internal_strconv_numDigits { OP with } u h1 hu w a.ten
theorem MO (hu:u<18446744073709551616) (l:Lib.nDigits u<=24) :
 Calls prog 271 #[.slice (some ⟨w0.heap.size,0,none⟩) (Lib.nDigits u) 24, .int .u64 u] (w0.alloc (.cells Lib.zeros24 T)) fun e a =>
  e = .returned (.tuple #[])/\Ext w0 a/\∀ j,j<Lib.nDigits u->a.cell? ⟨w0.heap.size,j,none⟩=some (((Lib.decDigits u).map AQ).getD j undef):=by
 have d:=Lib.holds_zero0 w0 T (Lib.nDigits u) l;have h:=Any.internal_strconv_formatBase10 { OP with } w0.heap.size 0 24 u (Array.replicate (Lib.nDigits u) 0) _ d (by rw [Array.size_replicate]; exact Lib.lt_pow_nDigits u) hu (by rw [Array.size_replicate]; omega);rw [Array.size_replicate] at h;refine h.mono ?_;rintro e a ⟨rfl,k,n,c,rfl,hF⟩;refine ⟨rfl, ?_,fun j f => ?_⟩
 · obtain ⟨m,i⟩:=Lib.fin_at w0 (.cells Lib.zeros24 T) c k 0;rw [i];exact Lib.below_grow w0.heap.size w0 (lrf _) k m
 · have g:j<(Lib.decDigits u).length:=by rw [Lib.decDigits_length]; exact f
   have h1:=Go.Sort.cell?_putRow (fun (b:UInt8)=>Value.int .u8 (b.toNat:Int)) (w0.alloc (.cells Lib.zeros24 T)) w0.heap.size 0 (Array.replicate (Lib.nDigits u) 0) c d (by rw [hF.size,Array.size_replicate]) j (by rw [hF.size]; exact f);rw [World.cell?_drewN];rw [Nat.zero_add] at h1;rw [h1,<-Lib.row_is_numeral hF j g];simp [g,AQ]
def SG (w:World) (g c:Nat) (T:TypeId) (l:List UInt8) (e:Ending) (w':World):Prop:=e = .returned (.slice (some ⟨g,0,none⟩) l.length c)/\(∃ w1,Ext w w1/\w1.grownBy w' (some g))/\∃ cs',Arr w' g T cs'/\cs'.length=c/\cs'.take l.length=l.map AQ
def S2 (w:World) (g:Nat) (T:TypeId) (u:Nat) (e:Ending) (w':World):Prop:=SG w g 20 T (Lib.decDigits u) e w'
theorem S3 (hu:u<18446744073709551616):(Lib.decDigits u).length<=20:=W.dec_len (k:=20) (Nat.lt_trans hu (by decide)) (by omega)
theorem Qb (b:news.length=m) (a:cs.length=c) (h:n+m<=c):(cs.take n ++ news ++ cs.drop (n+m)).length=c:=by
 simp only [List.length_append,List.length_take,List.length_drop];omega
theorem N0 (a:cs.take n=l.map AQ):(cs.take n ++ r.map AQ ++ cs.drop (n+m)).take (l ++ r).length=(l ++ r).map AQ:=by
 have h:((l ++ r).map AQ).length=(l ++ r).length:=by simp
 rw [a,<-List.map_append,<-h,List.take_left]
theorem O8 {g:Nat} (V:AR w) (K:Arr w g T cs) (F:cs.length=c) (G:l.length=n) (X:n+20<=c) (N:cs.take n=l.map AQ) (hu:u<18446744073709551616) :
 Calls prog 302 #[.slice (some ⟨g,0,none⟩) n c, .int .u64 u, .int .i64 10] w (SG w g c T (l ++ Lib.decDigits u)):=by
 have h20:=S3 hu;have m:=qh (And.intro F G);have p:=qh N;have b:((Lib.decDigits u).map AQ).length=(Lib.decDigits u).length:=by simp
 have d:∀ L,(Lib.decDigits u).length=L->(l ++ Lib.decDigits u).length=n+L:=fun L h=>by rw [List.length_append,G,h]
 obtain ⟨Y,x,t⟩:∃ i,prog.info? 5=some i/\i.size=1:=by
  have h:=CE;unfold BL at h;cases O:prog.info? 5 with
  | none=>rw [O] at h; cases h
  | some i=>rw [O] at h; simp at h; exact ⟨i,rfl,h.2.1⟩
 clear N G;by_cases J:u<100
 · have z:=qh (O7 (w:=w) J);have k:Go.Src prog 1 9 (.string ⟨(Lib.decDigits u).toArray⟩) (Lib.decDigits u).length ((Lib.decDigits u).map AQ) w:=by
    have h:=Go.Src.ofString (P:=prog) w (tx:=9) underlying9 ⟨(Lib.decDigits u).toArray⟩;have e:(⟨(Lib.decDigits u).toArray⟩:ByteArray).size=(Lib.decDigits u).length:=by simp [ByteArray.size]
    rw [e] at h;exact h
   have H:(u:Int)<100:=by omega
   clear F
   go_enter func302,ntmps302
   go_wp2_with fail
   refine z.out.mono ?_;rintro e R ⟨rfl,rfl⟩
   go_wp2_with (refine NZ rfl rfl underlying228 x t rfl rfl k K (by omega) (by rw [m.out.1]; omega) ?_; intro B hA2 C)
   go_ret;exact ⟨by rw [d _ rfl]; rfl,⟨R,Ext.refl _,C⟩,_,hA2,Qb b m.out.1 (by omega),N0 p.out⟩
 · have y:Lib.nDigits u=(Lib.decDigits u).length:=(Lib.decDigits_length u).symm;have f:=qh (MO (w0:=w) (T:=294) hu (by omega));have a:=qh (Ji (u:=u) (V.ext ((Ext.refl w).alloc (.cells Lib.zeros24 294))) (by omega) hu);rw [y] at f a
   have Q:Lib.zeros24=#[Value.int .u8 0,Value.int .u8 0,Value.int .u8 0,Value.int .u8 0,Value.int .u8 0,Value.int .u8 0,Value.int .u8 0,Value.int .u8 0,Value.int .u8 0,Value.int .u8 0,Value.int .u8 0,Value.int .u8 0,Value.int .u8 0,Value.int .u8 0,Value.int .u8 0,Value.int .u8 0,Value.int .u8 0,Value.int .u8 0,Value.int .u8 0,Value.int .u8 0,Value.int .u8 0,Value.int .u8 0,Value.int .u8 0,Value.int .u8 0]:=rfl;rw [Q] at f a;have H:¬ (u:Int)<100:=by omega
   have r:prog.arrayLen 294=24:=by kernel_rfl
   have I:∀ W,(Instr.sliceAt 294 (.pointer (some ⟨w.heap.size,0,none⟩)) none (some (.int .i64 ((Lib.decDigits u).length:Int))) none).run prog W = .ok (.slice (some ⟨w.heap.size,0,none⟩) (Lib.decDigits u).length 24) W:=fun W=>by
    rw [run_sliceAt_array_h W 294 ⟨w.heap.size,0,none⟩ (by simp [Program.arrayLen,Program.elem,underlying294]) .i64 ((Lib.decDigits u).length:Int) (by omega) (by rw [r]; omega)];go_simp
   obtain ⟨L,A⟩:∃ L,(Lib.decDigits u).length=L:=⟨_,rfl⟩;rw [A] at h20 f a b I;have o:=qh (d _ A);clear d;have S:=qh A;clear F Q y A r
   go_enter func302,ntmps302
   go_wp2_with fail
   refine a.out.mono ?_;rintro e R ⟨rfl,rfl⟩
   go_wp2_with fail
   refine f.out.mono ?_;rintro e B ⟨rfl,q,s⟩;have hA2:=K.ext q;have k:Go.Src prog 1 228 (.slice (some ⟨w.heap.size,0,none⟩) L 24) L ((Lib.decDigits u).map AQ) B:=by
    refine Go.Src.ofSlice (P:=prog) B underlying228 _ _ _ _ (by rw [b,Nat.mul_one]) (fun j v M => ?_) (Gm _);have E:j<L:=by have:=(List.getElem?_eq_some_iff.1 M).1; omega
    have h3:=s j E;rw [gqq,M] at h3;have U:Addr.add ⟨w.heap.size,0,none⟩ j=⟨w.heap.size,j,none⟩:=by unfold Addr.add; split <;> simp_all
    rw [U,h3];rfl
   clear s f a
   go_wp2_with (refine NZ rfl rfl underlying228 x t rfl rfl k hA2 (by omega) (by rw [m.out.1]; omega) ?_; intro Z hA3 D)
   go_ret;exact ⟨by rw [o.out]; rfl,⟨B,q,D⟩,_,hA3,Qb b m.out.1 (by omega),N0 p.out⟩
end Go.Proofs.YtlbmnokpiilfpaaGreatDoor
namespace Go.Proofs.YtlbmnokpiilfpaaGreatDoor.W
open Go
variable {b k w x:Nat}
def padD (w x:Nat):List UInt8:=if x=0 then List.replicate w 48 else List.replicate (w-(Lib.decDigits x).length) 48 ++ Lib.decDigits x
theorem padD_zero (w:Nat):padD w 0=List.replicate w 48:=by unfold padD; rw [if_pos rfl]
theorem padD_pos (h:0<x):padD w x=List.replicate (w-(Lib.decDigits x).length) 48 ++ Lib.decDigits x:=by unfold padD; rw [if_neg (by omega)]
theorem padD_nat (h:0<x):padD 0 x=Lib.decDigits x:=by rw [padD_pos h,Nat.zero_sub]; rfl
theorem padD_dec (a:0<k):padD k b=DM k b:=by
 unfold DM;rcases Nat.eq_zero_or_pos b with rfl|h
 · rw [padD_zero,dec_zero];obtain ⟨j,rfl⟩:∃ j,k=j+1:=⟨k-1,by omega⟩;rw [List.replicate_succ'];rfl
 · rw [padD_pos h]
theorem padD_split {a:Nat} (c:0<a) (f:b<10^k) (d:0<k):padD w (a*10^k+b)=padD (w-k) a ++ padD k b:=by
 have h0:0<a*10^k+b:=Nat.lt_of_lt_of_le (Nat.mul_pos c (Nat.pow_pos (by omega))) (Nat.le_add_right _ _);rw [padD_dec d,padD_pos h0,padD_pos c,O3 c f d,List.append_assoc];have e:w-(Lib.decDigits a ++ DM k b).length=w-k-(Lib.decDigits a).length:=by
  rw [List.length_append,Ie f d]; omega
 rw [e]
end Go.Proofs.YtlbmnokpiilfpaaGreatDoor.W
