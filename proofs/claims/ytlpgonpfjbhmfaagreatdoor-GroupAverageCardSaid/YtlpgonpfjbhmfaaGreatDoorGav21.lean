/- Part Gav21. -/
import Derived.Lib.ItoaNum
import Derived.Test.YtlpgonpfjbhmfaaGreatDoorGav20
import Derived.Shelf.Strconv.AppendInt10
import Derived.Shelf.Strconv.Itoa4
import Derived.Test.YtlpgonpfjbhmfaaGreatDoorGav3
import Derived.Test.YtlpgonpfjbhmfaaGreatDoorGav7
import Derived.Deep.AppendSrc
set_option maxRecDepth 100000
set_option maxHeartbeats 100000000
namespace Go.Proofs.YtlpgonpfjbhmfaaGreatDoor.W
open Go
variable {k n:Nat}
def decV (l:List UInt8):Nat:=l.foldl (fun n c=>10*n+(c.toNat-48)) 0
def isDig (c:UInt8):Prop:=48≤c.toNat∧c.toNat≤57
def digs (l:List UInt8):Prop:=∀ c∈l,isDig c
theorem decV_snoc (l:List UInt8) (c:UInt8):decV (l ++ [c])=10*decV l+(c.toNat-48):=by simp [decV]
theorem Fk:∀ (l:List UInt8) (n:Nat),l.foldl (fun n c=>10*n+(c.toNat-48)) n=n*10^l.length+decV l
 | [],n=>by simp [decV]
 | c :: r,n=>by
  have h1:=Fk r (10*n+(c.toNat-48));have h2:=Fk r (10*0+(c.toNat-48));have h3:decV (c :: r)=r.foldl (fun n c=>10*n+(c.toNat-48)) (10*0+(c.toNat-48)):=rfl;rw [List.foldl_cons,h1,h3,h2,List.length_cons,Nat.pow_succ]
  grind
theorem decV_app (a b:List UInt8):decV (a ++ b)=decV a*10^b.length+decV b:=by
 have:decV (a ++ b)=b.foldl (fun n c=>10*n+(c.toNat-48)) (decV a):=by simp [decV]
 rw [this,Fk]
theorem QH (c:UInt8) (r:List UInt8):decV (c :: r)=(c.toNat-48)*10^r.length+decV r:=by
 have:=decV_app [c] r;simpa [decV] using this
theorem decV_lt:∀ {l:List UInt8},digs l→decV l<10^l.length
 | [],_=>by simp [decV]
 | c :: r,h=>by
  have h1:=decV_lt (l:=r) (fun x hx=>h x (by simp [hx]));have h2:=h c (by simp);rw [QH,List.length_cons,Nat.pow_succ];have h3:(c.toNat-48)*10^r.length≤9*10^r.length:=Nat.mul_le_mul_right _ (by have:=h2.2; omega);omega
theorem CP (h:n<256):(UInt8.ofNat n).toNat=n:=by simp; omega
theorem digs_dec (n:Nat):digs (Lib.decDigits n):=by
 induction n using Nat.strongRecOn with
 | _ n ih =>
  rw [Lib.decDigits];split
  · intro c hc;simp only [List.mem_singleton] at hc;subst hc;unfold isDig;rw [CP (by omega)];omega
  · intro c hc;rcases List.mem_append.1 hc with h|h
    · exact ih (n/10) (by omega) c h
    · simp only [List.mem_singleton] at h;subst h;unfold isDig;rw [CP (by omega)];omega
theorem decV_dec (n:Nat):decV (Lib.decDigits n)=n:=by
 induction n using Nat.strongRecOn with
 | _ n ih =>
  rw [Lib.decDigits];split
  · simp only [decV,List.foldl];rw [CP (by omega)];omega
  · rw [decV_snoc,ih (n/10) (by omega),CP (by omega)];omega
theorem dec_ne (n:Nat):Lib.decDigits n≠[]:=by
 rw [Lib.decDigits];split <;> simp
theorem dec_zero:Lib.decDigits 0=[48]:=by rw [Lib.decDigits]; rfl
theorem dec_head (h:0<n):∃ c r,Lib.decDigits n=c :: r∧c≠48:=by
 induction n using Nat.strongRecOn with
 | _ n ih =>
  rw [Lib.decDigits];split
  · refine ⟨_,[],rfl,fun hc => ?_⟩;have:=congrArg UInt8.toNat hc;rw [CP (by omega)] at this;simp at this;omega
  · obtain ⟨c,r,e,hc⟩:=ih (n/10) (by omega) (by omega);exact ⟨c,r ++ [UInt8.ofNat (48+n%10)],by rw [e]; rfl,hc⟩
theorem Nl {c:UInt8} (h:isDig c):UInt8.ofNat (48+(c.toNat-48))=c:=by
 apply UInt8.toNat_inj.1;rw [CP (by have:=h.2; omega)];have:=h.1;omega
theorem dec_of_digs:∀ {l:List UInt8} (_:digs l) (_:l≠[]) (_:∀ c r,l=c :: r→c=48→r=[]),Lib.decDigits (decV l)=l:=by
 intro l
 induction h:l.length using Nat.strongRecOn generalizing l with
 | _ n ih =>
  intro hd hne hz;obtain ⟨a,c,rfl⟩:∃ a c,l=a ++ [c]:=⟨l.dropLast,l.getLast hne,(List.dropLast_concat_getLast hne).symm⟩;have hc:isDig c:=hd c (by simp);by_cases ha:a=[]
  · subst ha;have e:decV ([] ++ [c])=c.toNat-48:=by simp [decV]
    rw [e,Lib.decDigits,dif_pos (by have:=hc.2; omega),Nl hc];rfl
  · have hda:digs a:=fun x hx=>hd x (by simp [hx]);have hza:∀ c' r,a=c' :: r→c'=48→r=[]:=by
     intro c' r e e0;subst e;have:=hz c' (r ++ [c]) rfl e0;simp at this
    have ih':=ih a.length (by rw [←h]; simp) rfl hda ha hza;have hpos:0<decV a:=by
     rcases Nat.eq_zero_or_pos (decV a) with h0|h0
     · rw [h0,dec_zero] at ih';have:=hz 48 [c] (by rw [←ih']; rfl) rfl;simp at this
     · exact h0
    rw [decV_snoc,Lib.decDigits,dif_neg (by omega)];have h1:(10*decV a+(c.toNat-48))/10=decV a:=by have:=hc.2; omega
    have h2:(10*decV a+(c.toNat-48))%10=c.toNat-48:=by have:=hc.2; omega
    rw [h1,h2,ih',Nl hc]
def EI (k n:Nat):List UInt8:=List.replicate (k-(Lib.decDigits n).length) 48 ++ Lib.decDigits n
theorem JM:∀ k,decV (List.replicate k 48)=0
 | 0=>rfl
 | k+1=>by rw [List.replicate_succ',decV_snoc,JM k]; rfl
theorem dec_len (h:n<10^k) (hk:0<k):(Lib.decDigits n).length≤k:=by
 induction n using Nat.strongRecOn generalizing k with
 | _ n ih =>
  rw [Lib.decDigits];split
  · simp; omega
  · have:2≤k:=by
     rcases Nat.lt_or_ge k 2 with h2|h2
     · have:k=1:=by omega
       subst this;omega
     · exact h2
    have h3:=ih (n/10) (by omega) (k:=k-1) (by
     rw [Nat.div_lt_iff_lt_mul (by omega),←Nat.pow_succ,show (k-1).succ=k by omega]
     exact h) (by omega)
    simp;omega
theorem JN (h:n<10^k) (hk:0<k):(EI k n).length=k:=by
 have:=dec_len h hk;simp [EI];omega
theorem QI {a b:Nat} (ha:0<a) (hb:b<10^k) (hk:0<k):Lib.decDigits (a*10^k+b)=Lib.decDigits a ++ EI k b:=by
 have hd:digs (Lib.decDigits a ++ EI k b):=by
  intro c hc;rcases List.mem_append.1 hc with h|h
  · exact digs_dec a c h
  · rcases List.mem_append.1 h with h|h
    · rw [(List.mem_replicate.1 h).2]; exact ⟨by decide,by decide⟩
    · exact digs_dec b c h
 have hv:decV (Lib.decDigits a ++ EI k b)=a*10^k+b:=by
  rw [decV_app,decV_dec,JN hb hk];unfold EI;rw [decV_app,JM,decV_dec];omega
 obtain ⟨c,r,e,hc⟩:=dec_head ha;rw [←hv];refine dec_of_digs hd (by rw [e]; simp) ?_;intro c' r' e' e0;rw [e] at e';simp only [List.cons_append,List.cons.injEq] at e';exact absurd (e'.1.trans e0) hc
end Go.Proofs.YtlpgonpfjbhmfaaGreatDoor.W
namespace Go.Proofs.YtlpgonpfjbhmfaaGreatDoor
open Tryz Go Go.RowKit
variable {f:Act} {ops:Array Oper} {s:ByteArray} {Q:Exit→Act→World→Prop} {z:Int} {zs:List Nat} {rest:List Oper} {l r:List UInt8} {cs news xs:List Value} {B base c d m n u:Nat} {o:Oper} {x:Operand} {a b:Option Addr} {T e t tx:TypeId} {v:Value} {w w0 wb:World}
theorem QJ (hl:zs.length=n+1) (hb:W.bnd B zs) (hv:B^n≤W.val B zs):W.nrm zs:=by
 intro hne h0;rw [List.getLast_eq_getElem] at h0;have h1:=GF (B:=B) hl;have h2:=Dx hb (m:=n) (by omega);have h3:zs.getD n 0=zs[zs.length-1]'(by omega):=by
  have:zs.length-1=n:=by omega
  simp [this,show n<zs.length by omega]
 rw [h3,h0,Nat.zero_mul,Nat.zero_add] at h1;omega
theorem R9 (hd:W.digs l) (hl:l.length≤19):W.decV l<10000000000000000000:=by
 have h1:=W.decV_lt hd;have h2:10^l.length≤10^19:=Nat.pow_le_pow_right (by omega) hl;omega
theorem Lm (hd:W.digs l) (k:Nat):W.digs (l.take k):=fun c hc=>hd c (List.mem_of_mem_take hc)
theorem QL (hd:W.digs l) (k:Nat):W.digs (l.drop k):=fun c hc=>hd c (List.mem_of_mem_drop hc)
theorem QM {xs:List Nat} {k c' V:Nat} (hk:k<zs.length) (hx:k<xs.length) (h:W.val B (zs.take k)+c*B^k=u*W.val B (xs.take k)+V) (e:d+B*c'=xs.getD k 0*u+c) :
 W.val B ((zs.set k d).take (k+1))+c'*B^(k+1)=u*W.val B (xs.take (k+1))+V:=by
 have e1:W.val B ((zs.set k d).take (k+1))=W.val B (zs.take k)+B^k*d:=by
  rw [W.val_take_succ (by simpa using hk)];congr 1
  · rw [List.take_set_of_le (lrf _)]
  · simp [hk]
 rw [e1,W.val_take_succ hx,Nat.pow_succ];have e2:B^k*(d+B*c')=B^k*(xs.getD k 0*u+c):=by rw [e]
 grind
theorem IV (hd:W.digs (Am s)) (hs:s.size≤600) :
 Calls prog 173 #[.string s] w (KS w (W.decV (Am s))):=by
 have HD:=qh hd;clear hd
 go_enter func173,ntmps173
 go_wp2
 go_loopw [0,3] (fun dv xv wr=>∃ (j:Nat) (t:ByteArray) (a:Option Addr) (n c:Nat) (xs:List Nat),dv = .string t∧xv = .slice a n c∧j≤s.size∧Hid (Am t=(Am s).drop j)∧t.size+j=s.size∧n≤j∧Ext w wr∧Own wr w.heap.size 143 a n c (xs.map (BO .u64))∧Hid (Num 18446744073709551616 xs (W.decV ((Am s).take j)))) (fun dv _ _=>match dv with | .string t=>t.size | _=>0)
 case atStart=>exact ⟨0,s,none,0,0,[],rfl,rfl,Nat.zero_le _,qh rfl,by omega,by omega,Ext.refl w,Own.nil _ _ _,qh (Num.nil _)⟩
 case round =>
  obtain ⟨j,t,a,n,c,xs,rfl,rfl,hj,HT,hts,hnj,hE,hO,HN⟩:=hrel;by_cases h0:t.size=0
  · have HF:Hid (Num 18446744073709551616 xs (W.decV (Am s))):=by
     have h1:=HN.out;rw [List.take_of_length_le (by rw [AJ]; omega)] at h1;exact qh h1
    have hgt:¬ (0:Int)<(t.size:Int):=by omega
    clear h0;go_wp2;go_ret;exact ⟨a,n,c,rfl,hE,xs,hO.sl,HF.out⟩
  · have hgt:(0:Int)<(t.size:Int):=by omega
    obtain ⟨z,hz⟩:∃ z,(t.size-1)%19+1=z:=⟨_,rfl⟩;have hz1:1≤z:=by omega
    have hz2:z≤19:=by omega
    have hz3:z≤t.size:=by omega
    have hw1:IntKind.i64.wrap ((t.size:Int)-1)=((t.size-1:Nat):Int):=by rw [show (t.size:Int)-1=((t.size-1:Nat):Int) by omega]; exact IntWalk.i64_in _ (by omega)
    have hw2:((t.size-1:Nat):Int).tmod 19=(((t.size-1)%19:Nat):Int):=by rw [Int.tmod_eq_emod_of_nonneg (by omega)]; omega
    have hw2':((t.size-1:Nat):Int)%19=(((t.size-1)%19:Nat):Int):=by omega
    have hw3:IntKind.i64.wrap ((((t.size-1)%19:Nat):Int)+1)=(z:Int):=by rw [show (((t.size-1)%19:Nat):Int)+1=(z:Int) by omega]; exact IntWalk.i64_in _ (by omega)
    clear hz;generalize (t.size-1)%19=z0 at *
    generalize t.size-1=t1 at *
    have hzi:(z:Int)≤(t.size:Int):=by omega
    go_upto_region 6 with (refine OG rfl rfl underlying9 underlying154 underlying5 rfl (by unfold maxLen; simp; omega) ?_; intro cb w1 hE1 hS1)
    have hcl:Am (t.extract 0 z)=((Am s).drop j).take z:=by rw [B1,HT.out,List.drop_zero,Nat.sub_zero]
    have hcd:W.digs (Am (t.extract 0 z)):=by rw [hcl]; exact Lm (QL HD.out j) z
    have hcz:(Am (t.extract 0 z)).length=z:=by rw [hcl,List.length_take,List.length_drop,AJ]; omega
    have HCL:=qh hcl;clear hcl;have hxz:(t.extract 0 z).size=z:=by simp; omega
    rw [hxz] at hS1;clear hxz;generalize Am (t.extract 0 z)=cl at *
    have HCD:=qh hcd;have HCZ:=qh hcz;clear hcd hcz hw1 hw2 hw2' hw3
    go_loop [5,6,25] (fun cv bv iv=>∃ (k ch P:Nat),k≤z∧cv = .int .u64 ch∧bv = .int .u64 P∧iv = .int .i64 k∧ch<10000000000000000000∧P≤10000000000000000000∧Hid (W.decV (cl.take k)=ch∧10^k=P)) (fun _ _ iv=>z-(intOf iv).toNat)
    case atStart=>exact ⟨0,0,1,Nat.zero_le _,rfl,rfl,rfl,by omega,by omega,qh ⟨rfl,rfl⟩⟩
    case round =>
     obtain ⟨k,ch,P,hk,rfl,rfl,rfl,hch,hP,HCH⟩:=hrel;by_cases hlt:k<z
     · obtain ⟨b1,o1,hb1,hcell⟩:=hS1.rd (by omega);simp only [Option.some.injEq,Addr.mk.injEq,and_true] at hb1;obtain ⟨hb1,ho1⟩:=hb1;have g1:=hcell k hlt;rw [←hb1,←ho1,Nat.zero_add] at g1;have hkl:k<cl.length:=by rw [HCZ.out]; exact hlt
       have e1:(cl.map AO).getD k undef = .int .u8 ((cl[k].toNat:Nat):Int):=by simp [hkl,AO]
       rw [e1] at g1;have hdg:=HCD.out cl[k] (List.getElem_mem hkl);have htk:cl.take (k+1)=cl.take k ++ [cl[k]]:=List.take_succ_eq_append_getElem hkl;have hnew:W.decV (cl.take (k+1))=10*ch+(cl[k].toNat-48):=by rw [htk,W.decV_snoc,HCH.out.1]
       have hnl:=R9 (Lm HCD.out (k+1)) (by rw [List.length_take,HCZ.out]; omega);have hpn:10^(k+1)≤10^19:=Nat.pow_le_pow_right (by omega) (by omega);rw [Nat.pow_succ,HCH.out.2] at hpn;rw [hnew] at hnl;have HNEW:=qh hnew;have HCH2:Hid (10^(k+1)=P*10):=by show _=_; rw [Nat.pow_succ,HCH.out.2]
       obtain ⟨hd1,hd2⟩:=hdg;generalize cl[k].toNat=cb1 at *
       have a1:IntKind.u64.wrap (10*(ch:Int))=((10*ch:Nat):Int):=Ah (by omega) (by omega);have a2:IntKind.u8.wrap ((cb1:Int)-48)=((cb1-48:Nat):Int):=by rw [IntKind.wrap_u8]; omega
       have a3:IntKind.u64.wrap ((cb1-48:Nat):Int)=((cb1-48:Nat):Int):=Ah rfl (by omega);have a4:IntKind.u64.wrap (((10*ch:Nat):Int)+((cb1-48:Nat):Int))=((10*ch+(cb1-48):Nat):Int):=Ah (by omega) (by omega);have a5:IntKind.u64.wrap ((P:Int)*10)=((P*10:Nat):Int):=Ah (by omega) (by omega);have b2:10*ch+(cb1-48)<10000000000000000000:=by omega
       have b3:P*10≤10000000000000000000:=by omega
       clear hnew htk e1 hcell hb1 ho1 hnl hpn;generalize 10 * ch+(cb1-48)=ch2 at *
       generalize 10 * ch=ch1 at *
       generalize cb1-48=d1 at *
       generalize P * 10=P1 at *
       go_wp2;go_round
       case rel=>exact ⟨k+1,ch2,P1,by omega,rfl,rfl,by go_num,b2,b3,qh ⟨HNEW.out,HCH2.out⟩⟩
       case measure=>simp [intOf]; omega
     · have ek:k=z:=by omega
       have HC2:Hid (W.decV cl=ch∧10^z=P):=by
        have h1:=HCH.out;rw [ek,List.take_of_length_le (by rw [HCZ.out]; exact lrf _)] at h1;exact qh h1
       clear ek HCH hS1;have hO1:=hO.ext hE1;have hEE:=hE.trans hE1;have hUL:Hid (xs.length=n):=qh (by have:=hO.len; simpa using this);go_wp2;obtain ⟨wo,hwo⟩:∃ wo:World,wo=wr:=⟨_,rfl⟩;subst hwo
       go_loopw [9,44] (fun cv iv wx=>∃ (q cy:Nat) (zs:List Nat),q≤n∧cv = .int .u64 cy∧iv = .int .i64 q∧cy<18446744073709551616∧Ext w wx∧Own wx w.heap.size 143 a n c (zs.map (BO .u64))∧Hid (W.bnd 18446744073709551616 zs∧zs.drop q=xs.drop q∧W.val 18446744073709551616 (zs.take q)+cy*18446744073709551616^q=P*W.val 18446744073709551616 (xs.take q)+ch)) (fun _ iv _=>n-(intOf iv).toNat)
       case atStart=>exact ⟨0,ch,xs,Nat.zero_le _,rfl,rfl,by omega,hEE,hO1,qh ⟨HN.out.bnd,rfl,by simp [W.val]⟩⟩
       case round =>
        clear hO1 hEE;obtain ⟨q,cy,zs,hq,rfl,rfl,hcy,hEx,hOz,HZ⟩:=hrel;have hzl:zs.length=n:=by have:=hOz.len; simpa using this
        have HZL:=qh hzl;clear hzl;by_cases hlt2:q<n
        · obtain ⟨g,rfl,hg1,hg2⟩:=hOz.place (by omega);have hOn:Az .u64 wr w.heap.size 143 g n c zs:=hOz;have g1:=hOn.cell (i:=q) hlt2;have f1:=hOn.frozen q;have hb:=W.bnd_at HZ.out.1 (i:=q) (by rw [HZL.out]; exact hlt2);have hxq:zs.getD q 0=xs.getD q 0:=ED HZ.out.2.1;have HXQ:=qh hxq;clear hxq;generalize zs.getD q 0=xq at *
          go_wp2_with fail
          refine (B7 hb (show P<18446744073709551616 by omega) hcy).mono ?_;rintro e2 w2 ⟨lo,hi,rfl,rfl,hlo,hhi,e1⟩;have HS:=qh (QM (B:=18446744073709551616) (zs:=zs) (xs:=xs) (k:=q) (d:=lo) (u:=P) (c:=cy) (c':=hi) (V:=ch) (by rw [HZL.out]; exact hlt2) (by rw [hUL.out]; exact hlt2) HZ.out.2.2 (by rw [←HXQ.out]; exact e1));have hO9:Own (wr.setCell ⟨g,q,none⟩ (.int .u64 (lo:Int))) w.heap.size 143 (some ⟨g,0,none⟩) n c ((zs.set q lo).map (BO .u64)):=hOn.set q lo;have hE9:=hEx.setCell (p:=⟨g,q,none⟩) hg1 (.int .u64 (lo:Int));clear e1;go_wp2;go_roundw
          case rel=>exact ⟨q+1,hi,zs.set q lo,by omega,rfl,by go_num,hhi,hE9,hO9,qh ⟨W.bnd_set HZ.out.1 hlo,Eh HZ.out.2.1,HS.out⟩⟩
          case measure=>simp [intOf]; omega
        · have eq:q=n:=by omega
          have hval:W.val 18446744073709551616 zs+cy*18446744073709551616^n=P*W.val 18446744073709551616 xs+ch:=by
           have h1:=HZ.out.2.2;rw [eq,List.take_of_length_le (by rw [HZL.out]; exact lrf _),List.take_of_length_le (by rw [hUL.out]; exact lrf _)] at h1;exact h1
          rw [HN.out.val] at hval;have hnew:P*W.decV ((Am s).take j)+ch=W.decV ((Am s).take (j+z)):=by
           have h1:(Am s).take (j+z)=(Am s).take j ++ cl:=by rw [HCL.out,List.take_add]
           rw [h1,W.decV_app,HCZ.out,HC2.out.1,HC2.out.2,Nat.mul_comm]
          rw [hnew] at hval;have HVAL:=qh hval;have HNEW:=qh hnew;have hxs:Am (t.extract z t.size)=(Am s).drop (j+z):=by
           rw [B1,HT.out,List.drop_drop,List.take_of_length_le (by rw [List.length_drop,AJ]; omega)]
          have HXS:=qh hxs;have hsz:(t.extract z t.size).size=t.size-z:=by simp
          clear hval hnew hxs eq;by_cases hc0:cy=0
          · have hNum:Num 18446744073709551616 zs (W.decV ((Am s).take (j+z))):=by
             have h1:=HVAL.out;rw [hc0,Nat.zero_mul,Nat.add_zero] at h1;refine ⟨HZ.out.1, ?_,h1⟩;rcases Nat.eq_zero_or_pos n with hn0|hn0
             · have:zs=[]:=List.eq_nil_of_length_eq_zero (by rw [HZL.out,hn0]);rw [this]; exact W.nrm_nil
             · refine QJ (B:=18446744073709551616) (n:=n-1) (by rw [HZL.out]; omega) HZ.out.1 ?_;rw [h1,←HNEW.out];have h2:=W.nrm_pos (B:=18446744073709551616) (by omega) HN.out.nrm (by intro h; have:=hUL.out; rw [h] at this; simp at this; omega);rw [hUL.out,HN.out.val] at h2;have h3:1*W.decV ((Am s).take j)≤P*W.decV ((Am s).take j):=Nat.mul_le_mul_right _ (by rw [←HC2.out.2]; exact Nat.pow_pos (by omega));omega
            have HNUM:=qh hNum;subst hc0;clear hNum HVAL HNEW HZ;generalize t.extract z t.size=t2 at *
            go_wp2;go_roundw
            case rel=>exact ⟨j+z,t2,a,n,c,zs,rfl,rfl,by omega,HXS,by omega,by omega,hEx,hOz,HNUM⟩
            case measure=>simp; omega
          · have hcb:((cy:Int) != 0)=true:=by simp; omega
            have hNum:Num 18446744073709551616 (zs ++ [cy]) (W.decV ((Am s).take (j+z))):=by
             refine ⟨W.bnd_app HZ.out.1 (fun y hy=>by simp at hy; omega),fun hne=>by simp; exact hc0, ?_⟩;rw [W.val_snoc,HZL.out,←HVAL.out,Nat.mul_comm]
            have HNUM:=qh hNum;have hA:=hOz.alloc (.cells #[.int .u64 (cy:Int)] 143);have hL:=(Au wr w.heap.size 143 #[.int .u64 (cy:Int)] 1 rfl hEx.size (by omega)).sl;have hb2:∀ k,blk a=some k→w.heap.size≤k:=fun k hk=>(hOz.lt hk).1;clear hNum HVAL HNEW HZ;generalize t.extract z t.size=t2 at *
            go_wp2_with (refine Bw rfl rfl underlying88 Ay rfl rfl hA rfl hL (by simp [Value.oneCell']) (by unfold maxLen; omega) (by omega) (by simp; have:=hEx.size; omega) ?_; intro a7 c7 w7 hO7 hg7 hb7)
            have hE7:Ext w w7:=(hEx.alloc _).grown hg7 hb2;have hO8:Own w7 w.heap.size 143 a7 (n+1) c7 ((zs ++ [cy]).map (BO .u64)):=by rw [List.map_append]; exact hO7
            go_roundw
            case rel=>exact ⟨j+z,t2,a7,n+1,c7,zs ++ [cy],rfl,rfl,by omega,HXS,by omega,by omega,hE7,hO8,HNUM⟩
            case measure=>simp; omega
theorem JO (hd:W.digs (Am s)) (hs:s.size≤570) :
 Calls prog 134 #[.string s, .slice none 0 0] w (KS w (W.decV (Am s))):=by
 have hp:=qh (IV (w:=w) hd (by omega));clear hd
 go_enter func134,ntmps134
 go_wp2;refine wp_loop_rounds 1 ?_;rw [rounds_succ]
 go_wp2_with fail
 refine hp.out.mono ?_;rintro e w1 ⟨a,n,c,rfl,hE,hx⟩;go_wp2;go_ret;exact ⟨a,n,c,rfl,hE,hx⟩
theorem JP (hd:W.digs (Am s)) (hs:s.size≤570) :
 Calls prog 93 #[.string s] w (KS w (W.decV (Am s))):=by
 have hp:=qh (JO (w:=w) hd hs);have hle:¬ ((570:Int)<(s.size:Int)):=by omega
 clear hd
 go_enter func93,ntmps93
 go_wp2_with fail
 refine hp.out.mono ?_;rintro e w1 ⟨a,n,c,rfl,hE,hx⟩;go_wp2;go_ret;exact ⟨a,n,c,rfl,hE,hx⟩
theorem FJ (hd:W.digs (Am s)) (hs:s.size≤570) :
 Calls prog 49 #[.string s] w (Ei w ((W.decV (Am s):Nat):Int)):=by
 go_enter func49,ntmps49
 go_upto_region 1 with (fail)
 refine Bq ?_;intro w0 hE0 hB0 hz0;have hp:=qh (JP (w:=w0) hd hs);have hR:Arr w0 w.heap.size 90 (Ab false none 0 0):=hB0;have HS1:Hid (decide (((W.decV (Am s):Nat):Int)<0)=false):=qh (decide_eq_false (by omega));clear hd hz0
 go_wp2_with fail
 refine hp.out.mono ?_;rintro e w1 ⟨a1,n1,c1,rfl,hE1,hx1⟩;have hR1:=hR.ext hE1
 go_wp2_with (refine Aa (vs:=Ab false a1 n1 c1) rfl rfl rfl rfl rfl Ad hR1 rfl (Ai _ _ _ _) ?_; intro w9 hB9 hg9)
 exact bodyPost_ret (Al rfl Ad rfl hB9) rfl (Bt (hE0.trans hE1) hR1 (Aq _ _ _ _) hg9 (by omega) HS1 hx1)
theorem Df:Bh prog 5 (.int .u8 0) 1:=by unfold Bh; kernel_rfl
def JQ (wb:World) (l:List UInt8) (e:Ending) (w':World):Prop:=∃ a n c,e = .returned (.slice a n c)∧Own w' wb.heap.size 5 a n c (l.map AO)∧Ext wb w'
theorem KW (h:w.ownsRow base e 1 v n xs):∃ a c,v = .slice a n c∧Own w base e a n c xs:=by
 rcases h.2 with ⟨hv,h0⟩|⟨g,cap,cur,hv,_⟩
 · subst hv; subst h0;exact ⟨none,0,rfl,h⟩
 · subst hv;exact ⟨_,cap,rfl,h⟩
theorem IW (hT:A2 w) (hE:Ext wb w) (hO:Own w wb.heap.size 5 a n c (l.map AO)) (hu:u<18446744073709551616) (hn:n≤100000) :
 Calls prog 189 #[.slice a n c, .int .u64 u, .int .i64 10] w (JQ wb (l ++ Lib.decDigits u)):=by
 refine (Any.internal_strconv_AppendUint_10 Ps wb.heap.size n u hu (.slice a n c) (l.map AO) w hO hE.size (by omega) hT.ten).mono ?_;rintro e w' ⟨v',rfl,h1,h2,_⟩;obtain ⟨a',c',rfl,h3⟩:=KW h1;refine ⟨a',_,c',rfl, ?_,Below.trans hE h2⟩;rw [List.map_append];exact h3
theorem JR (hT:A2 w) (hE:Ext wb w) (hO:Own w wb.heap.size 5 a n c (l.map AO)) (hu:u<18446744073709551616) (hn:n≤100000) :
 Calls prog 183 #[.slice a n c, .int .u64 u, .int .i64 10] w (JQ wb (l ++ Lib.decDigits u)):=by
 have h:=qh (IW hT hE hO hu hn)
 go_enter func183,ntmps183
 go_wp2_with fail
 refine h.out.mono ?_;rintro e w' ⟨a1,n1,c1,rfl,h1,h2⟩;go_wp2;go_ret;exact ⟨a1,n1,c1,rfl,h1,h2⟩
theorem Eb (hT:A2 w) (h0 : -9223372036854775808≤z) (h1:z≤9223372036854775807) :
 Calls prog 112 #[.int .i64 z, .int .i64 10] w fun e w'=>e = .returned (.string ⟨(Lib.itoa z).toArray⟩)∧Ext w w':=by
 refine (Any.strconv_FormatInt_10 TG z h0 h1 w hT.ten).mono ?_;rintro e w' ⟨rfl,k,os,rfl⟩;exact ⟨rfl,Lib.below_grow w.heap.size w (lrf _) k os⟩
theorem Nm (hT:A2 w) (h0 : -9223372036854775808≤z) (h1:z≤9223372036854775807) :
 Calls prog 77 #[.int .i64 z] w fun e w'=>e = .returned (.string ⟨(Lib.itoa z).toArray⟩)∧Ext w w':=by
 have h:=qh (Eb hT h0 h1)
 go_enter func77,ntmps77
 go_wp2_with fail
 refine h.out.mono ?_;rintro e w' ⟨rfl,h2⟩;go_wp2;go_ret;exact ⟨rfl,h2⟩
theorem H8 {x:Nat} (hT:A2 w) (hE:Ext wb w) (hO:Own w wb.heap.size 5 a n c (l.map AO)) (hx:Wd w b m d x) (hb:x<18446744073709551616) (hn:n≤100000) :
 Calls prog 148 #[.slice a n c, .slice b m d] w (JQ wb (l ++ Lib.decDigits x)):=by
 have hm:m≤1:=hx.len (k:=1) (by rw [RT]; exact hb);have hm0:=hx.zero;by_cases h0:m=0
 · have hx0:x=0:=hm0.1 h0;subst h0; subst hx0;have HD:Hid (l ++ Lib.decDigits 0=l ++ [48]):=by show _=_; rw [W.dec_zero]
   have hA:=hO.alloc (.cells #[.int .u8 48] 5);have hL:=(Au w wb.heap.size 5 #[.int .u8 48] 1 rfl hE.size (by omega)).sl;have hb2:∀ k,blk a=some k→wb.heap.size≤k:=fun k hk=>(hO.lt hk).1;clear hm0 hm hx
   go_enter func148,ntmps148
   go_wp2_with (refine Bw rfl rfl underlying154 Df rfl rfl hA rfl hL (by simp [Value.oneCell']) (by unfold maxLen; omega) (by omega) (by simp; have:=hE.size; omega) ?_; intro a7 c7 w7 hO7 hg7 hb7)
   go_ret;refine ⟨a7,n+1,c7,rfl, ?_,(hE.alloc _).grown hg7 hb2⟩;rw [HD.out,List.map_append];exact hO7
 · have h1:m=1:=by omega
   subst h1;obtain ⟨b1,o1,rfl,hc,k1,k2⟩:=hx.one;have h:=qh (JR hT hE hO hb hn);clear hm0 hm hx h0
   go_enter func148,ntmps148
   go_wp2_with fail
   refine h.out.mono ?_;rintro e w' ⟨a1,n1,c1,rfl,h1,h2⟩;go_wp2;go_ret;exact ⟨a1,n1,c1,rfl,h1,h2⟩
theorem Arr.setCells {g:Nat} {t:TypeId}:∀ (vs:List Value) (o:Nat) (w:World) (cs:List Value),Arr w g t cs→o+vs.length≤cs.length→Arr (w.setCells g o vs) g t (cs.take o ++ vs ++ cs.drop (o+vs.length))
 | [],o,w,cs,h,_=>by
  have e:cs.take o ++ [] ++ cs.drop (o+([]:List Value).length)=cs:=by simp
  rw [e]; exact h
 | v :: r,o,w,cs,h,hl=>by
  simp only [List.length_cons] at hl;have h1:=Arr.setCells r (o+1) _ _ (h.set o v) (by simp; omega);have e:(cs.set o v).take (o+1) ++ r ++ (cs.set o v).drop (o+1+r.length)=cs.take o ++ (v :: r) ++ cs.drop (o+(v :: r).length):=by
   have e1:(cs.set o v).take (o+1)=cs.take o ++ [v]:=by
    rw [List.take_succ_eq_append_getElem (by simp; omega)];rw [List.take_set_of_le (by omega)];simp
   have e2:(cs.set o v).drop (o+1+r.length)=cs.drop (o+1+r.length):=by
    rw [List.drop_set_of_lt (by omega)]
   rw [e1,e2];simp [Nat.add_comm,Nat.add_left_comm]
  rw [e] at h1;exact h1
theorem Fl (g:Nat):∀ (vs:List Value) (o:Nat) (w:World),w.grownBy (w.setCells g o vs) (some g)
 | [],_,w=>⟨rfl,rfl,rfl,lrf _,fun _ _ _=>rfl⟩
 | v :: r,o,w=>by
  have h1:=Ao w g o v;have h2:=Fl g r (o+1) (w.setCell ⟨g,o,none⟩ v);exact ⟨h2.os.trans h1.os,h2.tape.trans h1.tape,h2.output.trans h1.output,Nat.le_trans h1.size h2.size,fun b hb hne=>(h2.block b (Nat.lt_of_lt_of_le hb h1.size) hne).trans (h1.block b hb hne)⟩
section
variable {P:Program} {w:World}
theorem I9 {s:Operand} (hgd:o.guard=none)
 (ho:o.op = .call { callee := .builtin .append,args:=#[s,x],argTypes:=#[t,tx] })
 {e T:TypeId} {i:TypeInfo} {g n c m:Nat} {xv:Value} {cs news:List Value}
 (ht:P.underlying t=some (.slice e)) (hi:P.info? e=some i) (hs1:i.size=1) (hs:f.eval s = .slice (some ⟨g,0,none⟩) n c) (hx:f.eval x=xv) (hsrc:Go.Src P 1 tx xv m news w) (hA:Arr w g T cs)
 (hroom:n+m≤c) (hfit:n+m≤cs.length)
 (hK:∀ w',Arr w' g T (cs.take n ++ news ++ cs.drop (n+m))→w.grownBy w' (some g)→wpList P ops Q rest (f.put o.dst (.slice (some ⟨g,0,none⟩) (n+m) c)) w'):wpList P ops Q (o :: rest) f w:=by
 refine wpList_plain hgd fun K hK' => ?_;have hl:news.length=m:=by have:=hsrc.newsLen; simpa using this
 have hsrc':Go.Src P i.size tx xv m news w:=by rw [hs1]; exact hsrc
 have hrun:=run_append_room_src (P:=P) (w:=w) t tx o.type e i ht hi g 0 n c xv m news hsrc' hroom
  (fun j hj=>by
   rw [hs1,Nat.zero_add,Nat.mul_one,hA.cell (i:=n+j) (by omega)]; rfl)
  (fun j _=>hA.frozen _)
 rw [hs1,Nat.zero_add,Nat.mul_one] at hrun;have h1:=Arr.setCells news n w cs hA (by omega);rw [hl] at h1;unfold Oper.wp execOp;simp only [ho,resolve,invoke,builtin,Sem.run_bind,Sem.run_pure,Result.andThen_ok,List.map_toArray,List.map_cons,List.map_nil,hs,hx,hrun];exact hK' _ _ (hK _ h1 (Fl g news n w))
end
theorem QN (hu:u<100):Calls prog 185 #[.int .i64 u] w fun e w'=>e = .returned (.string ⟨(Lib.decDigits u).toArray⟩)∧w'=w :=
 Any.internal_strconv_small { Ps with } u hu w
theorem KX (hT:A2 w) (h1:1≤u) (hu:u<18446744073709551616):Calls prog 186 #[.int .u64 u] w fun e w'=>e = .returned (.int .i64 (Lib.nDigits u:Nat))∧w'=w :=
 Any.internal_strconv_numDigits { Ps with } u h1 hu w hT.ten
theorem OH (hu:u<18446744073709551616) (hn:Lib.nDigits u≤24) :
 Calls prog 187 #[.slice (some ⟨w0.heap.size,0,none⟩) (Lib.nDigits u) 24, .int .u64 u] (w0.alloc (.cells Lib.zeros24 T)) fun e w' =>
  e = .returned (.tuple #[])∧Ext w0 w'∧∀ j,j<Lib.nDigits u→w'.cell? ⟨w0.heap.size,j,none⟩=some (((Lib.decDigits u).map AO).getD j undef):=by
 have hH:=Lib.holds_zero0 w0 T (Lib.nDigits u) hn;have h:=Any.internal_strconv_formatBase10 { Ps with } w0.heap.size 0 24 u (Array.replicate (Lib.nDigits u) 0) _ hH (by rw [Array.size_replicate]; exact Lib.lt_pow_nDigits u) hu (by rw [Array.size_replicate]; omega);rw [Array.size_replicate] at h;refine h.mono ?_;rintro e w' ⟨rfl,k,v',dk,rfl,hF⟩;refine ⟨rfl, ?_,fun j hj => ?_⟩
 · obtain ⟨os,eo⟩:=Lib.fin_at w0 (.cells Lib.zeros24 T) dk k 0;rw [eo];exact Lib.below_grow w0.heap.size w0 (lrf _) k os
 · have hl:j<(Lib.decDigits u).length:=by rw [Lib.decDigits_length]; exact hj
   have h1:=Go.Sort.cell?_putRow (fun (b:UInt8)=>Value.int .u8 (b.toNat:Int)) (w0.alloc (.cells Lib.zeros24 T)) w0.heap.size 0 (Array.replicate (Lib.nDigits u) 0) dk hH (by rw [hF.size,Array.size_replicate]) j (by rw [hF.size]; exact hj);rw [World.cell?_drewN];rw [Nat.zero_add] at h1;rw [h1,←Lib.row_is_numeral hF j hl];simp [hl,AO]
def PE (w:World) (g c:Nat) (T:TypeId) (l:List UInt8) (e:Ending) (w':World):Prop:=e = .returned (.slice (some ⟨g,0,none⟩) l.length c)∧(∃ w1,Ext w w1∧w1.grownBy w' (some g))∧∃ cs',Arr w' g T cs'∧cs'.length=c∧cs'.take l.length=l.map AO
def U5 (w:World) (g:Nat) (T:TypeId) (u:Nat) (e:Ending) (w':World):Prop:=PE w g 20 T (Lib.decDigits u) e w'
theorem U6 (hu:u<18446744073709551616):(Lib.decDigits u).length≤20:=W.dec_len (k:=20) (Nat.lt_trans hu (by decide)) (by omega)
theorem Mf (hm:news.length=m) (hl:cs.length=c) (h:n+m≤c):(cs.take n ++ news ++ cs.drop (n+m)).length=c:=by
 simp only [List.length_append,List.length_take,List.length_drop];omega
theorem Ja (ht:cs.take n=l.map AO):(cs.take n ++ r.map AO ++ cs.drop (n+m)).take (l ++ r).length=(l ++ r).map AO:=by
 have h:((l ++ r).map AO).length=(l ++ r).length:=by simp
 rw [ht,←List.map_append,←h,List.take_left]
theorem H9 {g:Nat} (hT:A2 w) (hA:Arr w g T cs) (hl:cs.length=c) (hn:l.length=n) (hc:n+20≤c) (ht:cs.take n=l.map AO) (hu:u<18446744073709551616) :
 Calls prog 189 #[.slice (some ⟨g,0,none⟩) n c, .int .u64 u, .int .i64 10] w (PE w g c T (l ++ Lib.decDigits u)):=by
 have h20:=U6 hu;have HLN:=qh (And.intro hl hn);have HTK:=qh ht;have hlen:((Lib.decDigits u).map AO).length=(Lib.decDigits u).length:=by simp
 have hend:∀ L,(Lib.decDigits u).length=L→(l ++ Lib.decDigits u).length=n+L:=fun L h=>by rw [List.length_append,hn,h]
 obtain ⟨iu,hiu,his⟩:∃ i,prog.info? 5=some i∧i.size=1:=by
  have h:=Df;unfold Bh at h;cases hx:prog.info? 5 with
  | none=>rw [hx] at h; cases h
  | some i=>rw [hx] at h; simp at h; exact ⟨i,rfl,h.2.1⟩
 clear ht hn;by_cases hsm:u<100
 · have hsml:=qh (QN (w:=w) hsm);have hsrc:Go.Src prog 1 9 (.string ⟨(Lib.decDigits u).toArray⟩) (Lib.decDigits u).length ((Lib.decDigits u).map AO) w:=by
    have h:=Go.Src.ofString (P:=prog) w (tx:=9) underlying9 ⟨(Lib.decDigits u).toArray⟩;have e:(⟨(Lib.decDigits u).toArray⟩:ByteArray).size=(Lib.decDigits u).length:=by simp [ByteArray.size]
    rw [e] at h;exact h
   have hsi:(u:Int)<100:=by omega
   clear hl
   go_enter func189,ntmps189
   go_wp2_with fail
   refine hsml.out.mono ?_;rintro e w1 ⟨rfl,rfl⟩
   go_wp2_with (refine I9 rfl rfl underlying154 hiu his rfl rfl hsrc hA (by omega) (by rw [HLN.out.1]; omega) ?_; intro w2 hA2 hg2)
   go_ret;exact ⟨by rw [hend _ rfl]; rfl,⟨w1,Ext.refl _,hg2⟩,_,hA2,Mf hlen HLN.out.1 (by omega),Ja HTK.out⟩
 · have hnd:Lib.nDigits u=(Lib.decDigits u).length:=(Lib.decDigits_length u).symm;have hfm:=qh (OH (w0:=w) (T:=220) hu (by omega));have hndg:=qh (KX (u:=u) (hT.ext ((Ext.refl w).alloc (.cells Lib.zeros24 220))) (by omega) hu);rw [hnd] at hfm hndg
   have hz:Lib.zeros24=#[Value.int .u8 0,Value.int .u8 0,Value.int .u8 0,Value.int .u8 0,Value.int .u8 0,Value.int .u8 0,Value.int .u8 0,Value.int .u8 0,Value.int .u8 0,Value.int .u8 0,Value.int .u8 0,Value.int .u8 0,Value.int .u8 0,Value.int .u8 0,Value.int .u8 0,Value.int .u8 0,Value.int .u8 0,Value.int .u8 0,Value.int .u8 0,Value.int .u8 0,Value.int .u8 0,Value.int .u8 0,Value.int .u8 0,Value.int .u8 0]:=rfl;rw [hz] at hfm hndg;have hsi:¬ (u:Int)<100:=by omega
   have hal:prog.arrayLen 220=24:=by kernel_rfl
   have hsl:∀ W,(Instr.sliceAt 220 (.pointer (some ⟨w.heap.size,0,none⟩)) none (some (.int .i64 ((Lib.decDigits u).length:Int))) none).run prog W = .ok (.slice (some ⟨w.heap.size,0,none⟩) (Lib.decDigits u).length 24) W:=fun W=>by
    rw [run_sliceAt_array_h W 220 ⟨w.heap.size,0,none⟩ (by simp [Program.arrayLen,Program.elem,underlying220]) .i64 ((Lib.decDigits u).length:Int) (by omega) (by rw [hal]; omega)];go_simp
   obtain ⟨L,hL⟩:∃ L,(Lib.decDigits u).length=L:=⟨_,rfl⟩;rw [hL] at h20 hfm hndg hlen hsl;have hendL:=qh (hend _ hL);clear hend;have HLL:=qh hL;clear hl hz hnd hL hal
   go_enter func189,ntmps189
   go_wp2_with fail
   refine hndg.out.mono ?_;rintro e w1 ⟨rfl,rfl⟩
   go_wp2_with fail
   refine hfm.out.mono ?_;rintro e w2 ⟨rfl,hE2,hc2⟩;have hA2:=hA.ext hE2;have hsrc:Go.Src prog 1 154 (.slice (some ⟨w.heap.size,0,none⟩) L 24) L ((Lib.decDigits u).map AO) w2:=by
    refine Go.Src.ofSlice (P:=prog) w2 underlying154 _ _ _ _ (by rw [hlen,Nat.mul_one]) (fun j v hj => ?_) (FH _);have hj2:j<L:=by have:=(List.getElem?_eq_some_iff.1 hj).1; omega
    have h3:=hc2 j hj2;rw [gqq,hj] at h3;have ea:Addr.add ⟨w.heap.size,0,none⟩ j=⟨w.heap.size,j,none⟩:=by unfold Addr.add; split <;> simp_all
    rw [ea,h3];rfl
   clear hc2 hfm hndg
   go_wp2_with (refine I9 rfl rfl underlying154 hiu his rfl rfl hsrc hA2 (by omega) (by rw [HLN.out.1]; omega) ?_; intro w3 hA3 hg3)
   go_ret;exact ⟨by rw [hendL.out]; rfl,⟨w2,hE2,hg3⟩,_,hA3,Mf hlen HLN.out.1 (by omega),Ja HTK.out⟩
end Go.Proofs.YtlpgonpfjbhmfaaGreatDoor
namespace Go.Proofs.YtlpgonpfjbhmfaaGreatDoor.W
open Go
variable {b k w x:Nat}
def padD (w x:Nat):List UInt8:=if x=0 then List.replicate w 48 else List.replicate (w-(Lib.decDigits x).length) 48 ++ Lib.decDigits x
theorem padD_zero (w:Nat):padD w 0=List.replicate w 48:=by unfold padD; rw [if_pos rfl]
theorem padD_pos (h:0<x):padD w x=List.replicate (w-(Lib.decDigits x).length) 48 ++ Lib.decDigits x:=by unfold padD; rw [if_neg (by omega)]
theorem padD_nat (h:0<x):padD 0 x=Lib.decDigits x:=by rw [padD_pos h,Nat.zero_sub]; rfl
theorem padD_dec (hk:0<k):padD k b=EI k b:=by
 unfold EI;rcases Nat.eq_zero_or_pos b with rfl|h
 · rw [padD_zero,dec_zero];obtain ⟨j,rfl⟩:∃ j,k=j+1:=⟨k-1,by omega⟩;rw [List.replicate_succ'];rfl
 · rw [padD_pos h]
theorem padD_split {a:Nat} (ha:0<a) (hb:b<10^k) (hk:0<k):padD w (a*10^k+b)=padD (w-k) a ++ padD k b:=by
 have h0:0<a*10^k+b:=Nat.lt_of_lt_of_le (Nat.mul_pos ha (Nat.pow_pos (by omega))) (Nat.le_add_right _ _);rw [padD_dec hk,padD_pos h0,padD_pos ha,QI ha hb hk,List.append_assoc];have e:w-(Lib.decDigits a ++ EI k b).length=w-k-(Lib.decDigits a).length:=by
  rw [List.length_append,JN hb hk]; omega
 rw [e]
end Go.Proofs.YtlpgonpfjbhmfaaGreatDoor.W
