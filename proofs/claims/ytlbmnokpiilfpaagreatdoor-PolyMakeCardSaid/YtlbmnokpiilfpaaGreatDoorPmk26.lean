/- Part Pmk26. -/
import Derived.Test.YtlbmnokpiilfpaaGreatDoorPmk24
import Derived.Test.YtlbmnokpiilfpaaGreatDoorPmk25
import Derived.Test.YtlbmnokpiilfpaaGreatDoorPmk6
import Derived.Deep.CutBlock
import Derived.Test.YtlbmnokpiilfpaaGreatDoorPmk20
set_option maxRecDepth 100000
set_option maxHeartbeats 100000000
namespace Go.Proofs.YtlbmnokpiilfpaaGreatDoor
open Tryz Go Go.RowKit
variable {a0:Act} {ops:Array Oper} {neg:Bool} {s:ByteArray} {B vars z:Int} {a l:List Int} {t:List UInt8} {vs:List Value} {K R b i k n:Nat} {o:Oper} {x y:Operand} {P:Program} {q r:Rat} {ty:TypeId} {v:Value} {w:World}
theorem IT (a b:ByteArray):Aj (a ++ b)=Aj a ++ Aj b:=by
 unfold Aj;rw [ByteArray.data_append];exact Array.toList_append
theorem ET (q:Rat):txt q=(if q.num<0 then [45] else []) ++ Lib.decDigits q.num.natAbs ++ (if q.den=1 then [] else 47 :: Lib.decDigits q.den):=by unfold txt; rw [Ku]
theorem Mb (h:QV w v q) (y:Pl.RB 1000000 q):Calls prog 96 #[v] w fun e Y=>e = .returned (.string ⟨(txt q).toArray⟩)/\Ext w Y:=by
 obtain ⟨s,a,n,c,b,m,d,rfl,r,J,E⟩:=h;have o:=qh (fun (U:World) (K:Ext w U)=>IS (v := .agg (Ac s a n c).toArray) ⟨s,a,n,c,rfl,r,J.ext K⟩ (Ah y.1 (by omega)));have D:=Kq y.1;obtain ⟨p,j⟩:∃ p:ByteArray,(⟨(Lib.decDigits q.num.natAbs).toArray⟩:ByteArray)=p:=⟨_,rfl⟩;have W:p.size<=400000:=by rw [<-j,<-Ax,Ci]; omega
 rw [j] at o;have j:=qh j;clear D;by_cases h1:q.den=1
 · have N:m=0:=E.zero.2 (CO h1);subst N;cases s with
   | true =>
    have A:Hid ((⟨(txt q).toArray⟩:ByteArray)=⟨#[45]⟩ ++ p):=by
     show _=_;refine DK ?_;have C:q.num<0:=by simpa using r.out
     simp only [Ci,IT,ET,C,h1,if_true,List.append_nil];rw [<-j.out];rfl
    clear r J E y h1;have L:(⟨#[45]⟩ ++ p:ByteArray).size=1+p.size:=by rw [ByteArray.size_append]; rfl
    go_enter func96,ntmps96
    go_upto_region 1 with (fail)
    refine AE ?_;intro S i g k;have F:=g.c 0 rfl;have G:=g.c 1 rfl;have H:=g.c 2 rfl;have I:=g.c 3 rfl;clear k
    go_wp2_with fail
    refine (o.out _ i).mono ?_;rintro e T ⟨rfl,f⟩;have O:=f.cell F;have P:=f.cell G;have Q:=f.cell H;have R:=f.cell I;go_wp2;go_ret;exact ⟨by rw [A.out]; rfl,(i.trans f)⟩
   | false =>
    have A:Hid ((⟨(txt q).toArray⟩:ByteArray)=p):=by
     show _=_;refine DK ?_;have C:¬ q.num<0:=by simpa using r.out
     simp only [Ci,ET,C,h1,if_true,if_false,List.append_nil,List.nil_append];rw [<-j.out];rfl
    clear r J E y h1
    go_enter func96,ntmps96
    go_upto_region 1 with (fail)
    refine AE ?_;intro S i g k;have F:=g.c 0 rfl;have G:=g.c 1 rfl;have H:=g.c 2 rfl;have I:=g.c 3 rfl;clear k
    go_wp2_with fail
    refine (o.out _ i).mono ?_;rintro e T ⟨rfl,f⟩;have O:=f.cell F;have P:=f.cell G;have Q:=f.cell H;have R:=f.cell I;go_wp2;go_ret;exact ⟨by rw [A.out]; rfl,(i.trans f)⟩
 · have t:=qh (fun (U:World) (K:Ext w U)=>IS (v := .agg (Ac false b m d).toArray) (z:=(q.den:Int)) ⟨false,b,m,d,rfl,qh (decide_eq_false (by omega)),by rw [Int.natAbs_natCast]; have:=E.ext K; rw [A9 h1] at this; exact this⟩ (Ah (b:=3200000) y.2 (by omega)));rw [Int.natAbs_natCast] at t;have X:(0:Int)<m:=by
    have h2:m≠0:=fun h0=>by
     have h3:=E.zero.1 h0;rw [A9 h1] at h3;exact q.den_nz h3
    omega
   have D:=Kq y.2;obtain ⟨x,l⟩:∃ x:ByteArray,(⟨(Lib.decDigits q.den).toArray⟩:ByteArray)=x:=⟨_,rfl⟩;have V:x.size<=400000:=by rw [<-l,<-Ax,Ci]; omega
   rw [l] at t;have l:=qh l;clear D;cases s with
   | true =>
    have A:Hid ((⟨(txt q).toArray⟩:ByteArray)=(⟨#[45]⟩ ++ p) ++ (⟨#[47]⟩ ++ x)):=by
     show _=_;refine DK ?_;have C:q.num<0:=by simpa using r.out
     simp only [Ci,IT,ET,C,h1,if_true,if_false];rw [<-j.out,<-l.out];rfl
    clear r J E y h1;have L:(⟨#[45]⟩ ++ p:ByteArray).size=1+p.size:=by rw [ByteArray.size_append]; rfl
    have M:(⟨#[47]⟩ ++ x:ByteArray).size=1+x.size:=by rw [ByteArray.size_append]; rfl
    go_enter func96,ntmps96
    go_upto_region 1 with (fail)
    refine AE ?_;intro S i g k;have F:=g.c 0 rfl;have G:=g.c 1 rfl;have H:=g.c 2 rfl;have I:=g.c 3 rfl;clear k
    go_wp2_with fail
    refine (o.out _ i).mono ?_;rintro e T ⟨rfl,f⟩;have O:=f.cell F;have P:=f.cell G;have Q:=f.cell H;have R:=f.cell I
    go_wp2_with fail
    refine (t.out _ (i.trans f)).mono ?_;rintro e Z ⟨rfl,B⟩;go_wp2;go_ret;exact ⟨by rw [A.out]; rfl,((i.trans f).trans B)⟩
   | false =>
    have A:Hid ((⟨(txt q).toArray⟩:ByteArray)=p ++ (⟨#[47]⟩ ++ x)):=by
     show _=_;refine DK ?_;have C:¬ q.num<0:=by simpa using r.out
     simp only [Ci,IT,ET,C,h1,if_false,List.nil_append];rw [<-j.out,<-l.out];rfl
    clear r J E y h1;have M:(⟨#[47]⟩ ++ x:ByteArray).size=1+x.size:=by rw [ByteArray.size_append]; rfl
    go_enter func96,ntmps96
    go_upto_region 1 with (fail)
    refine AE ?_;intro S i g k;have F:=g.c 0 rfl;have G:=g.c 1 rfl;have H:=g.c 2 rfl;have I:=g.c 3 rfl;clear k
    go_wp2_with fail
    refine (o.out _ i).mono ?_;rintro e T ⟨rfl,f⟩;have O:=f.cell F;have P:=f.cell G;have Q:=f.cell H;have R:=f.cell I
    go_wp2_with fail
    refine (t.out _ (i.trans f)).mono ?_;rintro e Z ⟨rfl,B⟩;go_wp2;go_ret;exact ⟨by rw [A.out]; rfl,((i.trans f).trans B)⟩
def Uc (w:World) (o:Option Rat) (e:Ending) (w':World):Prop:=∃ s a n c b m d,e = .returned (.tuple #[.agg (Ao s a n c false b m d).toArray, .bool o.isSome])/\Ext w w'/\∀ q,o=some q->Hid (decide (q.num<0)=s)/\Mg w' a n c q.num.natAbs/\Mg w' b m d (A2 q).natAbs
theorem Tr {l:List UInt8}:∀ {K:Nat},(∀ j,j<K->l.getD j 0≠47)->(K=l.length\/K<l.length/\l.getD K 0=47)->l.takeWhile (· != 47)=l.take K/\l.dropWhile (· != 47)=l.drop K:=by
 induction l with
 | nil=>intro K _ h; simp
 | cons x r ih =>
  intro K h a;cases K with
  | zero =>
   rcases a with h0|⟨_,h0⟩
   · simp at h0
   · have:x=47:=by simpa using h0
     subst this;simp
  | succ K =>
   have b:x≠47:=by simpa using h 0 (by omega)
   have:=ih (K:=K) (fun j c=>by have:=h (j+1) (by omega); simpa using this) (by
    rcases a with h0|⟨h0,h1⟩
    · left; simpa using h0
    · right; exact ⟨by simpa using h0,by simpa using h1⟩)
   simp [b,this]
theorem Ou {l:List UInt8} {x:Nat} (h:Ey l=some x) (b:l.length<=k):x<P2 (4*k):=by
 unfold Ey at h;split at h
 · rename_i a;simp only [Bool.and_eq_true,List.all_eq_true] at a;injection h with h;rw [<-h];exact KP (fun c d=>Dq.1 (a.2 c d)) b
 · cases h
def R9 (neg:Bool) (n:Nat):Int:=if neg=true then -(n:Int) else n
theorem QL {l:List UInt8} (c:decide (l.head?=some 45)=neg) (e:(if neg=true then l.tail else l)=t) (h:∀ j,j<K->t.getD j 0≠47) (a:K=t.length\/K<t.length/\t.getD K 0=47) :
 Ma l=match Ey (t.take K) with
  | none=>none
  | some n=>if K=t.length then some (mkRat (R9 neg n) 1)
   else match Ey (t.drop (K+1)) with
    | none=>none
    | some d=>if d=0 then none else some (mkRat (R9 neg n) d):=by
 have b:=Tr h a;unfold Ma;simp only [c,e,b.1,b.2];cases Ey (t.take K) with
 | none=>rfl
 | some n =>
  have h1:(t.drop K=[])<->K=t.length:=by
   rw [List.drop_eq_nil_iff];rcases a with h2|h2 <;> omega
  have h2:(t.drop K).tail=t.drop (K+1):=by rw [List.tail_drop]
  simp only [h1,h2];rfl
theorem EA (s:ByteArray) (i j:Nat):(s.extract i j).size<=s.size:=by
 rw [<-Ax,<-Ax s,AV,List.length_take,List.length_drop];omega
theorem Nj:decide ((Aj s).head?=some 45)=true<->∃ h:0<s.size,s[0]=45:=by
 rw [decide_eq_true_iff];have a:=Ax s;cases b:Aj s with
 | nil =>
  rw [b] at a;simp at a;simp;intro h;omega
 | cons c r =>
  have h0:0<s.size:=by rw [<-a,b]; simp
  have h1:=DP h0;rw [b] at h1;have h2:c=s[0]:=by simpa using h1
  constructor
  · intro h;exact ⟨h0,by rw [<-h2]; simpa using h⟩
  · rintro ⟨_,h⟩;have h3:c=45:=by rw [h2]; exact h
    rw [h3];rfl
theorem PA (h:mkRat z 1=r):r.num=z/\r.den=1:=by
 rw [Rat.mkRat_one] at h;subst h;exact ⟨rfl,rfl⟩
theorem KQ {d:List Hd} {C:World->Prop} {t:TypeId} (s:o.guard=none) (l:o.op = .store ty x y) (r:Agg P ty vs.length) (h1:∀ v∈vs,v.oneCell'=true)
 (q:∀ w,C w->∃ cs,cs.length=vs.length/\Arr w R t cs) (f:∀ w e,C w->w.grownBy e (some R)->Arr e R t vs->C e) (z:∀ w e,E5 ops d i o w e (List.range d.length))
 (h:∀ a w,Di a->C w->B0 ops d a0 o a w [x,y]->a x = .pointer (some ⟨R,0,none⟩)/\a y = .agg vs.toArray):obl P C ops d a0 i o (hmp (fun _ A=>Arr A R t vs)):=by
 unfold obl BA;rw [s];intro a w hp b m;have k:B0 ops d a0 o a w [x,y]:=by rw [l] at m; exact m
 obtain ⟨n,p⟩:=h a w hp b k;obtain ⟨cs,h3,h4⟩:=q w b;have c:(execOp a o).run P w = .ok .skip (w.setRow R vs.toArray):=by
  have:=CV (P:=P) (w:=w) (ty:=ty) (g:=R) (cs:=cs) (vs:=vs) r h4 h3 h1;simp only [execOp,l,n,p,Sem.run_bind,this,Result.andThen_ok,Sem.run_pure]
 rw [c];have j:=Bh w R vs.toArray;exact ⟨f w _ b j (BM h4 _),z _ _,BM h4 _⟩
theorem Mc (hs:s.size<=10000):Calls prog 71 #[.string s] w (Uc w (AF (Aj s))):=by
 have aS:=Ax s
 go_enter func71,ntmps71
 go_upto_region 1 with (fail)
 refine AE ?_;intro w0 b1 aH bk;have hR:Arr w0 w.heap.size 99 (Ao false none 0 0 false none 0 0):=aH;clear bk aH
 go_upto_region 2 with (fail)
 go_cut [5] from 14 to 81 (fun nv G=>∃ nb:Bool,nv = .bool nb/\Hid (decide ((Aj s).head?=some 45)=nb)/\G=w0)
 case first =>
  cases F:decide ((Aj s).head?=some 45) with
  | true =>
   obtain ⟨h0,h45⟩:=Nj.1 F;have an:(0:Int)<s.size:=by omega
   have hb:(((s[0].toNat:Nat):Int) == 45)=true:=by rw [h45]; rfl
   have B:=qh F;clear F h45
   go_wp2_with fail
   go_meet
   exact ⟨true,rfl,B,rfl⟩
  | false =>
   have B:=qh F;by_cases h0:0<s.size
   · have an:(0:Int)<s.size:=by omega
     have hb:(((s[0].toNat:Nat):Int) == 45)=false:=by
      have h45:s[0]≠45:=fun h=>by
       have:=Nj.2 ⟨h0,h⟩;rw [F] at this;cases this
      have:s[0].toNat≠45:=fun h=>h45 (UInt8.toNat_inj.1 h);simpa using (show ¬ ((s[0].toNat:Nat):Int)=45 by omega)
     clear F
     go_wp2_with fail
     go_meet
     exact ⟨false,rfl,B,rfl⟩
   · have an:¬ (0:Int)<s.size:=by omega
     clear F
     go_wp2_with fail
     go_meet
     exact ⟨false,rfl,B,rfl⟩
 case rest =>
  obtain ⟨nb,rfl,B,rfl⟩:=hcut
  go_upto_if 22 with (fail)
  go_cut [4] from 23 to 81 (fun tv wy=>∃ t:ByteArray,tv = .string t/\t.size<=10000/\Hid ((if nb=true then (Aj s).tail else Aj s)=Aj t)/\wy=wc)
  case first =>
   cases nb with
   | true =>
    have h0:=(Nj.1 B.out).1;have an:(0:Int)<s.size:=by omega
    have bl:(1:Int)<=s.size:=by omega
    go_wp2_with fail
    go_meet
    refine ⟨s.extract 1 s.size,rfl,Nat.le_trans (EA _ _ _) hs, ?_,rfl⟩;show _=_
    first | rw [if_pos rfl] | rw [if_pos trivial]
    rw [AV,List.take_of_length_le (by rw [List.length_drop,Ax]; exact lrf _),List.drop_one]
   | false =>
    go_wp2_with fail
    go_meet
    exact ⟨s,rfl,hs,qh rfl,rfl⟩
  case rest =>
   obtain ⟨t,rfl,bq,aY,rfl⟩:=hcut;have bb:=Ax t
   go_upto_block 0 with (fail)
   go_cut [6,7] from 27 to 81 (fun av _ wy=>∃ K:Nat,av = .int .i64 K/\K<=t.size/\Hid (∀ j,j<K->(Aj t).getD j 0≠47)/\Hid (K=(Aj t).length\/K<(Aj t).length/\(Aj t).getD K 0=47)/\wy=wc)
   case first =>
    go_wp2_with fail
    go_loopw [6,7] (fun av iv wr=>∃ k:Nat,av = .int .i64 t.size/\iv = .int .i64 k/\k<=t.size/\wr=wc/\Hid (∀ j,j<k->(Aj t).getD j 0≠47)) (fun _ iv _=>t.size-(intOf iv).toNat)
    case atStart=>exact ⟨0,rfl,rfl,Nat.zero_le _,rfl,qh (fun j h=>by omega)⟩
    case round =>
     obtain ⟨k,rfl,rfl,hk,rfl,HK⟩:=hrel;by_cases aM:k<t.size
     · have aT:(k:Int)<t.size:=by omega
       by_cases h47:t[k]=47
       · have hb:(((t[k].toNat:Nat):Int) == 47)=true:=by rw [h47]; rfl
         have Q:=qh (Or.inr (a:=k=(Aj t).length) (And.intro (show k<(Aj t).length by omega) (show (Aj t).getD k 0=47 by rw [DP aM]; exact h47)));clear h47
         go_wp2_with fail
         go_meet
         exact ⟨k,rfl,hk,HK,Q,by first | rfl | trivial⟩
       · have hb:(((t[k].toNat:Nat):Int) == 47)=false:=by
          have:t[k].toNat≠47:=fun h=>h47 (UInt8.toNat_inj.1 h);simpa using (show ¬ ((t[k].toNat:Nat):Int)=47 by omega)
         have HN:Hid (∀ j,j<k+1->(Aj t).getD j 0≠47):=qh (fun j hj=>by
          by_cases b5:j<k
          · exact HK.out j b5
          · have:j=k:=by omega
            subst this
            rw [DP aM]; exact h47)
         clear h47;go_wp2;go_roundw
         case rel=>exact ⟨k+1,rfl,by go_num,by omega,by first | rfl | trivial,HN⟩
         case measure=>simp [intOf]; omega
     · have aT:¬ (k:Int)<t.size:=by omega
       have Q:=qh (Or.inl (b:=k<(Aj t).length/\(Aj t).getD k 0=47) (show k=(Aj t).length by omega));have E:k=t.size:=by omega
       have aU:=qh E;clear E
       go_wp2_with fail
       go_meet
       exact ⟨k,by rw [aU.out],hk,HK,Q,by first | rfl | trivial⟩
   case rest =>
    obtain ⟨K,rfl,hK,HK,Q,aP⟩:=hcut;have bd:=aP;subst aP;generalize be:wc=wr at *
    clear be bd;have a2:=hR;have ae:=b1;clear bb aS;have a7:=qh (QL B.out aY.out HK.out Q.out);have W:=qh (Ez (s:=t.extract 0 K) (w:=wr) (Nat.le_trans (EA _ _ _) (by omega)));have aG:Hid (Aj (t.extract 0 K)=(Aj t).take K):=by show _=_; rw [AV]; simp
    have aV:Hid ((Aj (t.extract 0 K)).length<=10000):=by show _<=_; rw [Ax]; exact Nat.le_trans (EA _ _ _) (by omega)
    clear Q HK
    go_wp2_with fail
    refine W.out.mono ?_;rintro e w1 ⟨s1,a1,n1,c1,rfl,ac,aw⟩;have hY:=Arr.new w1 97 (Ac false none 0 0);cases ho:Ey (Aj (t.extract 0 K)) with
    | none =>
     have y:Hid (AF (Aj s)=none):=qh (GC (by rw [a7.out,<-aG.out,ho]));clear W aw a7
     go_upto_region 12 with (refine Aa (vs:=Ac s1 a1 n1 c1) rfl rfl rfl rfl rfl AT hY rfl (Ad _ _ _ _) ?_; intro w2 aa af)
     have V:Ext w1 w2:=((Ext.refl w1).alloc _).grownR af (lrf _);have o:=a2.ext (ac.trans V)
     go_wp2_with (refine Aa (vs:=Ao false none 0 0 false none 0 0) rfl rfl rfl rfl rfl Bo o rfl (Ap _ _ _ _ _ _ _ _) ?_; intro w9 C a4)
     refine bodyPost_ret (At rfl Bo rfl rfl C) rfl ⟨false,none,0,0,none,0,0,by rw [y.out]; rfl,(ae.trans (ac.trans V)).grownR a4 (lrf _),fun x Z=>by rw [y.out] at Z; cases Z⟩
    | some x =>
     obtain ⟨rfl,b7⟩:=aw x ho;have ax:=Ou ho aV.out;obtain ⟨z,hz⟩:∃ z:Int,R9 nb x=z:=⟨_,rfl⟩;have a6:z.natAbs<P2 40000:=by rw [show z.natAbs=x by rw [<-hz]; unfold R9; split <;> omega]; exact ax
     have g:=a7.out;rw [<-aG.out,ho] at g;simp only at g;rw [hz] at g;have g:=qh g;clear W aw a7
     go_upto_region 12 with (refine Aa (vs:=Ac false a1 n1 c1) rfl rfl rfl rfl rfl AT hY rfl (Ad _ _ _ _) ?_; intro w2 aa af)
     have V:Ext w1 w2:=((Ext.refl w1).alloc _).grownR af (lrf _);have q0:=aa.c 0 rfl;have q1:=aa.c 1 rfl;have aN:=qh (BF (neg:=nb) (b7.ext V) (z:=z) hz.symm);have ak:=ac.trans V;clear aa af hY ac V hz
     go_wp2_with fail
     refine aN.out.mono ?_;rintro e w3 ⟨s3,a3,n3,c3,rfl,ao,aF,aQ⟩;have bp:(Ac s3 a3 n3 c3).toArray=#[.bool s3, .slice a3 n3 c3]:=rfl;have aK:=Arr.new w3 99 (Ao false none 0 0 false none 0 0)
     go_upto_region 15 with (refine Aa (vs:=Ao s3 a3 n3 c3 false none 0 0) rfl rfl rfl rfl rfl Bo aK rfl (Ap _ _ _ _ _ _ _ _) ?_; intro w4 T aL)
     have aI:Ext w3 w4:=((Ext.refl w3).alloc _).grownR aL (lrf _);have M:=(ak.trans ao).trans aI;have aC:=(ak.trans ao).size;have aR:=aQ.ext aI;have k0:=T.c 0 rfl;have k1:=T.c 1 rfl;have k2:=T.c 2 rfl;have k3:=T.c 3 rfl;clear aN q0 q1 ao aL aK aQ ak
     go_upto_if 56 with (fail)
     go_cut [11,12] from 56 to 76 (fun _ _ wy=>∃ (r:Rat) (P:Bool) (H:Option Addr) (O J:Nat) (I:Option Addr) (N L:Nat),Ext wr wy/\Hid (Ma (Aj s)=some r)/\Hid (Pl.RB 1000000 r)/\Arr wy w3.heap.size 99 (Ao P H O J false I N L)/\Hid (decide (r.num<0)=P)/\Mg wy H O J r.num.natAbs/\Mg wy I N L (A2 r).natAbs)
     case first =>
      by_cases E:K=t.size
      · have b6:¬ (K:Int)<t.size:=by omega
        have i:=g.out;rw [if_pos (by rw [Ax]; exact E)] at i;obtain ⟨r,hr⟩:∃ r,mkRat z 1=r:=⟨_,rfl⟩;rw [hr] at i;obtain ⟨ai,au⟩:=PA hr;have R:=qh i;have S:Hid (decide (r.num<0)=s3):=by rw [ai]; exact aF
        have X:Mg w4 a3 n3 c3 r.num.natAbs:=by rw [ai]; exact aR
        have Y:Mg w4 none 0 0 (A2 r).natAbs:=by rw [CO au]; exact Mg.nil w4
        have a0:Hid (Pl.RB 1000000 r):=qh ⟨by rw [ai]; exact Ah a6 (by omega),by rw [au]; exact Ah (a:=1) (by decide) (by omega)⟩;clear hr i g a6 ax E ai au
        go_wp2_with fail
        go_meet
        exact ⟨r,s3,a3,n3,c3,none,0,0,M,R,a0,T,S,X,Y⟩
      · have b6:(K:Int)<t.size:=by omega
        have g:=g.out;rw [if_neg (by rw [Ax]; exact E)] at g;have W:=qh (Ez (s:=t.extract (K+1) t.size) (w:=w4) (Nat.le_trans (EA _ _ _) (by omega)));have aZ:Hid (Aj (t.extract (K+1) t.size)=(Aj t).drop (K+1)):=by show _=_; rw [AV,List.take_of_length_le]; rw [List.length_drop,Ax]; exact lrf _
        have aW:Hid ((Aj (t.extract (K+1) t.size)).length<=10000):=by show _<=_; rw [Ax]; exact Nat.le_trans (EA _ _ _) (by omega)
        rw [<-aZ.out] at g;have g:=qh g;have bo:IntKind.i64.wrap ((K:Int)+1)=((K+1:Nat):Int):=by rw [IntWalk.i64_in _ (by omega)]; rfl
        clear E
        go_wp2_with fail
        refine W.out.mono ?_;rintro e w5 ⟨s5,a5,n5,c5,rfl,D,aO⟩;have ap:=Arr.new w5 97 (Ac false none 0 0);have l:=T.ext D;cases ah:Ey (Aj (t.extract (K+1) t.size)) with
        | none =>
         have y:Hid (AF (Aj s)=none):=qh (GC (by rw [g.out,ah]))
         go_upto_region 17 with (refine Aa (vs:=Ac s5 a5 n5 c5) rfl rfl rfl rfl rfl AT ap rfl (Ad _ _ _ _) ?_; intro w6 ab ag)
         have A:Ext w5 w6:=((Ext.refl w5).alloc _).grownR ag (lrf _);have o:=a2.ext ((M.trans D).trans A)
         go_wp2_with (refine Aa (vs:=Ao false none 0 0 false none 0 0) rfl rfl rfl rfl rfl Bo o rfl (Ap _ _ _ _ _ _ _ _) ?_; intro w9 C a4)
         refine bodyPost_ret (At rfl Bo rfl rfl C) rfl ⟨false,none,0,0,none,0,0,by rw [y.out]; rfl,(ae.trans ((M.trans D).trans A)).grownR a4 (lrf _),fun x Z=>by rw [y.out] at Z; cases Z⟩
        | some d =>
         obtain ⟨rfl,b9⟩:=aO d ah;have aq:=Ou ah aW.out;have i:=g.out;rw [ah] at i;simp only at i;clear g W aO
         go_upto_region 17 with (refine Aa (vs:=Ac false a5 n5 c5) rfl rfl rfl rfl rfl AT ap rfl (Ad _ _ _ _) ?_; intro w6 ab ag)
         have A:Ext w5 w6:=((Ext.refl w5).alloc _).grownR ag (lrf _);have l:=l.ext A;have al:=(M.trans D).trans A;have ba:=b9.ext A;have u0:=ab.c 0 rfl;have u1:=ab.c 1 rfl;have a9:Hid (ZR w6 (.agg #[.bool false, .slice a5 n5 c5]) (d:Int)):=qh ⟨false,a5,n5,c5,rfl,qh (decide_eq_false (by omega)),by rw [Int.natAbs_natCast]; exact ba⟩;by_cases hd0:d=0
         · have y:Hid (AF (Aj s)=none):=qh (GC (by rw [i,if_pos hd0]));have aj:=qh (IN a9.out (r:=0) (by rw [hd0]; rfl));clear i hd0
           go_wp2_with fail
           refine aj.out.mono ?_;rintro e w7 ⟨rfl,p⟩;have o:=a2.ext (al.trans p)
           go_wp2_with (refine Aa (vs:=Ao false none 0 0 false none 0 0) rfl rfl rfl rfl rfl Bo o rfl (Ap _ _ _ _ _ _ _ _) ?_; intro w9 C a4)
           refine bodyPost_ret (At rfl Bo rfl rfl C) rfl ⟨false,none,0,0,none,0,0,by rw [y.out]; rfl,(ae.trans (al.trans p)).grownR a4 (lrf _),fun x Z=>by rw [y.out] at Z; cases Z⟩
         · have bm:0<d:=by omega
           rw [if_neg hd0] at i;have aj:=qh (IN a9.out (r:=1) (by rw [Int.sign_eq_one_of_pos (by omega)]));clear hd0
           go_wp2_with fail
           refine aj.out.mono ?_;rintro e w7 ⟨rfl,p⟩;obtain ⟨r,hr⟩:∃ r,mkRat z d=r:=⟨_,rfl⟩;rw [hr] at i;have R:=qh i;have a0:Hid (Pl.RB 1000000 r):=by
            have h1:=Pl.mkRat_le (n:=z) (d:=d) (by omega);rw [hr] at h1;exact qh ⟨Nat.lt_of_le_of_lt h1.1 (Ah a6 (by omega)),Nat.lt_of_le_of_lt h1.2 (Ah aq (by omega))⟩
           have b4:=qh (L8 (w:=w7) (v := .agg #[.bool s3, .slice a3 n3 c3]) (z:=z) (q:=r) ⟨s3,a3,n3,c3,rfl,aF,aR.ext ((D.trans A).trans p)⟩ (a9.out.ext p) (Ah a6 (by omega)) (by rw [Int.natAbs_natCast]; exact Ah aq (by omega)) (by omega) (by rw [Int.natAbs_natCast]; exact hr.symm));have aD:=A.trans p;have k0:=(D.trans aD).cell k0;have k1:=(D.trans aD).cell k1;have u0:=p.cell u0;have u1:=p.cell u1;have l:=l.ext p;clear hr i a6 ax aq aj a9 k2 k3 ab ag ap
           go_wp2_with fail
           refine b4.out.mono ?_;rintro e w8 ⟨P,H,O,J,I,N,L,rfl,aJ,S,bf,bi⟩;have l:=l.ext aJ
           go_wp2_with (refine Aa (vs:=Ao P H O J false I N L) rfl rfl rfl rfl rfl Bo l rfl (Ap _ _ _ _ _ _ _ _) ?_; intro wf U ar)
           have ad:Ext wr wf:=((al.trans p).trans aJ).grownR ar (aC);have X:=bf.keptA l (by decide) ar;have Y:=bi.keptA l (by decide) ar
           go_meet
           exact ⟨r,P,H,O,J,I,N,L,ad,R,a0,U,S,X,Y⟩
     case rest =>
      obtain ⟨r,P,H,O,J,I,N,L,ad,R,a0,U,S,X,Y⟩:=hcut;have l0:=U.c 0 rfl;have l1:=U.c 1 rfl;have l2:=U.c 2 rfl;have l3:=U.c 3 rfl;have o:=a2.ext (ad);have b3:=ae.trans (ad);have bc:=qh (fun (G:World) (m:wc.grownBy G (some w.heap.size))=>Mb (v := .agg #[.bool P, .slice H O J, .bool false, .slice I N L]) ⟨P,H,O,J,I,N,L,rfl,S,X.keptA o (by decide) m,Y.keptA o (by decide) m⟩ a0.out);have f:Hid (some w3.heap.size≠some w.heap.size):=by have h1:=a2.lt; have h2:=aC; show _≠_; simp; omega
      have aE:Hid ((txt r == s.toList)=(AF (Aj s)).isSome):=by
       show _=_;rw [R8 R.out,ByteArray.toList_eq];show (txt r == Aj s)=_;by_cases h:txt r=Aj s <;> simp [h]
      have aX:Hid (∀ x,AF (Aj s)=some x->x=r):=qh fun x Z=>by
       have h1:=GB Z;rw [R.out] at h1;exact (Option.some.inj h1).symm
      go_upto_region 20 with (fail)
      refine Ab (by kernel_rfl) (fun G=>wc.grownBy G (some w.heap.size)/\∃ cs:List Value,cs.length=4/\Arr G w.heap.size 99 cs)
       [he (.agg #[.bool P, .slice H O J, .bool false, .slice I N L]),
 he (.agg #[.bool P, .slice H O J, .bool false, .slice I N L]),
 hp (fun v G=>v = .string ⟨(txt r).toArray⟩),
 he (.string s),
 he (.bool (AF (Aj s)).isSome),
 hmp (fun _ G=>Arr G w.heap.size 99 (Ao P H O J false I N L))]
       (by kernel_rfl) (fun _ _ e h=>⟨Gg h.1 e,h.2.choose,h.2.choose_spec.1,h.2.choose_spec.2.ext e⟩) ⟨Gg (B5 wc _) ((Ext.refl wc).drew),_,rfl,o.ext ((Ext.refl wc).drew)⟩ ⟨trivial,trivial,fun v w w' e h=>h,trivial,trivial,fun _ _ _ e h=>Arr.ext h e,trivial⟩ ⟨?o0, ?o1, ?o2, ?o3, ?o4, ?o5,trivial⟩ ?fin
      case o3=>exact omv
      case o0 =>
       refine An rfl fun ρ G m am h => ?_;have e0:ρ (.tmp 10)=(.pointer (some ⟨w3.heap.size,0,none⟩)):=h.1;have ay:=m.1.cell l0 f.out;have az:=m.1.cell l1 f.out;have aA:=m.1.cell l2 f.out;have aB:=m.1.cell l3 f.out;go_simp
      case o1 =>
       refine An rfl fun ρ G m am h => ?_;have e0:ρ (.tmp 10)=(.pointer (some ⟨w3.heap.size,0,none⟩)):=h.1;have ay:=m.1.cell l0 f.out;have az:=m.1.cell l1 f.out;have aA:=m.1.cell l2 f.out;have aB:=m.1.cell l3 f.out;go_simp
      case o2 =>
       refine Am rfl fun ρ G m am bn h => ?_;have e1:ρ (.tmp 78)=(.agg #[.bool P, .slice H O J, .bool false, .slice I N L]):=h.2.1;have ay:=m.1.cell l0 f.out;have az:=m.1.cell l1 f.out;have aA:=m.1.cell l2 f.out;have aB:=m.1.cell l3 f.out;refine ⟨96,#[.agg #[.bool P, .slice H O J, .bool false, .slice I N L]],by go_simp,(bc.out G m.1).mono ?_⟩;rintro e w' ⟨rfl,b0⟩;exact ⟨_,rfl,b0,rfl⟩
      case o4 =>
       refine An rfl fun ρ G m am h => ?_;obtain ⟨v0,e0,rfl⟩:=h.1;have e1:ρ (.tmp 80)=(.string s):=h.2.1;have ay:=m.1.cell l0 f.out;have az:=m.1.cell l1 f.out;have aA:=m.1.cell l2 f.out;have aB:=m.1.cell l3 f.out;have h8:=aE.out;go_simp
       try exact aE.out
      case o5 =>
       exact KQ rfl rfl Bo (Ap _ _ _ _ _ _ _ _) (fun _ h=>h.2) (fun _ _ h hg hA=>⟨Hz h.1 hg,_,rfl,hA⟩) (fun _ _=>JU (j:=2) (by kernel_rfl) (fun _ h=>h)) (fun _ _ _ _ h=>⟨h.1,h.2.1⟩)
      case fin =>
       intro G m;rintro _ rfl;rintro _ C;change wpList _ _ _ _ _ _;simp only [la,lb,ld,lz,Act.put,lq,ly,lx];have bg:=X.keptA o (by decide) m.1;have bj:=Y.keptA o (by decide) m.1;have b2:=b3.grownR m.1 (lrf _);go_wp2;refine bodyPost_ret (At rfl Bo rfl rfl C) rfl ⟨P,H,O,J,I,N,L,rfl,b2,fun x Z => ?_⟩;have bh:=aX.out x Z;subst bh;exact ⟨S,bg,bj⟩
theorem Md (k:Nat):∀ (l:List Int) (s:Int),s<=24->Cq s (l ++ List.replicate k 0)=Cq s l
 | [],s,hs=>by
  induction k with
  | zero=>rfl
  | succ k ih =>
   rw [List.nil_append,List.replicate_succ];unfold Cq;rw [if_neg (by omega),Int.add_zero,<-List.nil_append (List.replicate k 0),ih];rfl
 | x :: r,s,hs=>by
  rw [List.cons_append];unfold Cq;by_cases h:x<0\/24-s<x
  · rw [if_pos h,if_pos h]
  · rw [if_neg h,if_neg h,Md k r (s+x) (by omega)]
theorem Fo (h:l.length<=6):AU (A6 l)=AU l:=by
 unfold AU C7;rw [if_neg (by rw [CL h]; omega),if_neg (by omega)];unfold A6;rw [Md _ _ _ (by omega)]
theorem Ov (l:List Int):(A6 l).sum=l.sum:=by
 unfold A6;rw [List.sum_append];have:∀ k:Nat,(List.replicate k (0:Int)).sum=0:=by
  intro k
  induction k with
  | zero=>rfl
  | succ k ih=>rw [List.replicate_succ,List.sum_cons,ih]; rfl
 rw [this]; omega
theorem Nk (k:Nat) (a b:List Int):Pl.ordR (List.replicate k 0 ++ a) (List.replicate k 0 ++ b)=Pl.ordR a b:=by
 induction k with
 | zero=>rfl
 | succ k ih =>
  rw [List.replicate_succ,List.cons_append,List.cons_append];show (if (0:Int)=0 then _ else _)=_;rw [if_pos rfl,ih]
theorem IU {b:List Int} (h:a.length=b.length):Pl.ordE (A6 a) (A6 b)=Pl.ordE a b:=by
 unfold Pl.ordE;rw [Ov,Ov];have c:Pl.ordR (A6 a).reverse (A6 b).reverse=Pl.ordR a.reverse b.reverse:=by
  unfold A6;rw [List.reverse_append,List.reverse_append,List.reverse_replicate,List.reverse_replicate,h,Nk]
 rw [c]
theorem Cd {t:Tx} {m:Pl.Tm} (h:AX vars t=some m):AF t.1=some m.2/\m.2≠0/\(t.2.length:Int)=vars/\(∀ e∈t.2,0<=e/\e<=1048576)/\m.1=A6 t.2:=by
 unfold AX at h;split at h
 · cases h
 · rename_i q b;split at h
   · rename_i a;cases h;exact ⟨b,a.1,a.2.1,a.2.2,rfl⟩
   · cases h
theorem BT {ts:List Tx} {l:List Pl.Tm} (h:rdP vars ts=some l):(0<=vars/\vars<=6)/\ts.length<=4096/\(∀ t r,ts=t :: r->AU t.2=true)/\okT vars ts ts.length/\l=ts.map (fun t=>(AX vars t).getD z6):=by
 unfold rdP at h;split at h
 · rename_i h1;unfold rdWF at h;split at h
   · rename_i h2;cases h;exact ⟨⟨h2.1,h2.2.1⟩,h1.1,h1.2,h2.2.2,rfl⟩
   · cases h
 · cases h
theorem KR {ts:List Tx} {l:List Pl.Tm} (h:rdP vars ts=some l) {i:Nat} (hi:i<ts.length):AX vars (ts.getD i tm0)=some (l.getD i ([],0)):=by
 obtain ⟨_,_,_,b,rfl⟩:=BT h;have h1:=b.1 i hi;rw [Option.isSome_iff_exists] at h1;obtain ⟨m,a⟩:=h1;have h2:ts.getD i tm0=ts[i]:=by simp [hi]
 rw [h2] at a |-;rw [a];simp [hi,a]
theorem Eb {ts:List Tx} {l:List Pl.Tm} (h:rdP vars ts=some l):l.length=ts.length:=by
 obtain ⟨_,_,_,a,rfl⟩:=BT h;simp
theorem FT {ts:List Tx} {l:List Pl.Tm} (h:rdP vars ts=some l) {m:Pl.Tm} (c:m∈l):∃ t∈ts,AX vars t=some m:=by
 obtain ⟨i,b,rfl⟩:=List.mem_iff_getElem.1 c;have a:i<ts.length:=by rw [<-Eb h]; exact b
 have h1:=KR h a;have h2:l.getD i ([],0)=l[i]:=by simp [b]
 have h3:ts.getD i tm0=ts[i]:=by simp [a]
 rw [h2,h3] at h1;exact ⟨ts[i],List.getElem_mem a,h1⟩
theorem J1 {ts:List Tx} (h:∀ i,i+1<ts.length->0<Pl.ordE (ts.getD i tm0).2 (ts.getD (i+1) tm0).2):∀ d i,i+d+1<ts.length->0<Pl.ordE (ts.getD i tm0).2 (ts.getD (i+d+1) tm0).2
 | 0,i,hi=>h i hi
 | d+1,i,hi=>Pl.ordE_trans (J1 h d i (by omega)) (h (i+d+1) (by omega))
theorem GE {ts:List Tx} {l:List Pl.Tm} (h:rdP vars ts=some l):Pl.Canon 6 l:=by
 obtain ⟨w,_,_,s,_⟩:=BT h;have n:=Eb h
 have a:∀ i,i<ts.length->(l.getD i ([],0)).1=A6 (ts.getD i tm0).2/\((ts.getD i tm0).2.length:Int)=vars:=fun i b=>by
  obtain ⟨_,_,h3,_,h5⟩:=Cd (KR h b);exact ⟨h5,h3⟩
 refine ⟨fun m e => ?_,fun m e => ?_, ?_⟩
 · obtain ⟨t,v,f⟩:=FT h e;obtain ⟨_,_,h3,_,h5⟩:=Cd f;rw [h5,CL (by omega)]
 · obtain ⟨t,v,f⟩:=FT h e;exact (Cd f).2.1
 · rw [List.pairwise_iff_getElem];intro i j b r q;have c:i<ts.length:=by omega
   have d:j<ts.length:=by omega
   have g:=a i c;have k:=a j d;have o:l.getD i ([],0)=l[i]:=by simp [b]
   have p:l.getD j ([],0)=l[j]:=by simp [r]
   rw [o] at g;rw [p] at k;rw [g.1,k.1,IU (by omega)];have:=J1 s.2 (j-i-1) i (by omega)
   rwa [show i+(j-i-1)+1=j by omega] at this
theorem Ow {ts:List Tx} {l:List Pl.Tm} (h:rdP vars ts=some l):wrT vars.toNat l=ts:=by
 have a:=Eb h;unfold wrT;apply List.ext_getElem
 · simpa using a
 · intro i h1 h2;have g:i<l.length:=by simpa using h1
   obtain ⟨b,j,f,k,c⟩:=Cd (KR h h2);have d:l.getD i ([],0)=l[i]:=by simp [g]
   have e:ts.getD i tm0=ts[i]:=by simp [h2]
   rw [d] at b c;rw [e] at b f c;rw [List.getElem_map,<-Es b,c,show vars.toNat=(ts[i]).2.length by omega,Gq]
theorem Sa {ts:List Tx} {l:List Pl.Tm} (h:rdP vars ts=some l):okW l:=by
 have a:=Eb h;obtain ⟨f,h1,h2,d,_⟩:=BT h;refine ⟨by omega,fun m r e => ?_⟩;cases ts with
 | nil=>rw [e] at a; simp at a
 | cons t s =>
  have h3:=KR h (i:=0) (by simp);rw [e] at h3;obtain ⟨_,_,c,_,b⟩:=Cd h3;simp only [List.getD_cons_zero] at c b;rw [b,Fo (by omega)];exact h2 t s rfl
theorem QM (a:0<=B) (h:∀ e∈l,0<=e/\e<=B):∀ e∈A6 l,0<=e/\e<=B:=by
 intro e he;rcases List.mem_append.1 he with he|he
 · exact h e he
 · rw [(List.mem_replicate.1 he).2]; omega
theorem IV {ts:List Tx} {l:List Pl.Tm} (h:rdP vars ts=some l):∀ t∈l,t.1.length=6/\∀ x∈t.1,0<=x/\x<=1048576:=by
 intro m a;obtain ⟨t,f,d⟩:=FT h a;obtain ⟨_,_,e,b,c⟩:=Cd d;exact ⟨(GE h).len m a,by rw [c]; exact QM (by omega) b⟩
theorem KS (n:Nat):n<10^(Lib.decDigits n).length:=by
 have:=W.decV_lt (W.digs_dec n)
 rwa [W.decV_dec] at this
theorem Ox (q:Rat):q.num.natAbs<10^(txt q).length/\q.den<10^(txt q).length:=by
 have h1:=KS q.num.natAbs;have h2:(Lib.decDigits q.num.natAbs).length<=(Lib.itoa q.num).length:=by
  unfold Lib.itoa;split
  · simp
  · have e:q.num.toNat=q.num.natAbs:=by omega
    simp [e]
 have h0:0<(Lib.decDigits q.num.natAbs).length:=List.length_pos_iff.2 (W.dec_ne _);have b:(Lib.itoa q.num).length<=(txt q).length:=by unfold txt; rw [List.length_append]; omega
 refine ⟨Nat.lt_of_lt_of_le h1 (Nat.pow_le_pow_right (by omega) (by omega)), ?_⟩;by_cases a:q.den=1
 · rw [a];exact Nat.one_lt_pow (by omega) (by omega)
 · have h3:=KS q.den;refine Nat.lt_of_lt_of_le h3 (Nat.pow_le_pow_right (by omega) ?_);unfold txt;rw [if_neg a];simp;omega
theorem Ts (h:(txt q).length<=k):Pl.RB (4*k) q:=by
 have h1:=Ox q;have h2:10^(txt q).length<=P2 (4*k):=by
  refine Nat.le_trans (Nat.pow_le_pow_right (by omega) h) ?_;unfold P2;rw [Nat.pow_mul];exact Nat.pow_le_pow_left (by omega) _
 exact ⟨by omega,by omega⟩
theorem RB.str (h:Pl.RB b q) (a:b<=1920):Dw q:=EO (Ah h.1 a) (Ah h.2 a)
theorem QN {l:List Rat} (h:∀ q∈l,q.den<P2 b):Bq l<P2 (b*l.length+1):=by
 have e:∀ (l:List Rat) (a c:Nat),a<P2 c->(∀ q∈l,q.den<P2 b)->l.foldl (fun a q=>a*(q.den/Nat.gcd a q.den)) a<P2 (b*l.length+c):=by
  intro l
  induction l with
  | nil=>intro a c d _; simpa using d
  | cons q r ih =>
   intro a c d h;rw [List.foldl_cons,List.length_cons,Nat.mul_add,Nat.mul_one,Nat.add_assoc];refine ih _ (b+c) ?_ (fun s f=>h s (by simp [f]));rw [Nat.add_comm b c];exact B9 d (Nat.lt_of_le_of_lt (Nat.div_le_self _ _) (h q (by simp)))
 exact e l 1 1 (by unfold P2; omega) h
theorem Tt {ts:List Tx} {l p:List Pl.Tm} (h:rdP vars ts=some l) (a:∀ e,Pl.coef p e=Pl.coef l e):cnP p=l:=Na (GE h) (fun e=>(a e).symm)
theorem IW {ts:List Tx} {l p:List Pl.Tm} (h:rdP vars ts=some l) (a:∀ e,Pl.coef p e=Pl.coef l e):resQ vars p=(vars,ts,0):=by
 unfold resQ;rw [Tt h a,if_pos (Sa h),Ow h]
theorem EU {l:List Pl.Tm} (h:Pl.Canon 6 l):Pl.Nrm l:=by
 refine ⟨h.len,h.nz, ?_⟩;unfold List.Nodup;rw [List.pairwise_map];refine h.desc.imp ?_;intro a b c e;rw [e,Pl.ordE_self] at c;omega
theorem Me:∀ (l:List Int) (s:Int),s<=24->0<=s->0<=Cq s l->Cq s l=s+l.sum/\s+l.sum<=24/\∀ x∈l,0<=x
 | [],s,h1,h2,_=>⟨by simp [Cq],by simpa using h1,by simp⟩
 | x :: r,s,h1,h2,h=>by
  unfold Cq at h |-;by_cases hc:x<0\/24-s<x
  · rw [if_pos hc] at h; omega
  · rw [if_neg hc] at h |-;obtain ⟨g1,g2,g3⟩:=Me r (s+x) (by omega) (by omega) h;refine ⟨by rw [g1,List.sum_cons]; omega,by rw [List.sum_cons]; omega,fun y a => ?_⟩;rcases List.mem_cons.1 a with rfl|a
    · omega
    · exact g3 y a
theorem KT:∀ {l:List Int},(∀ x∈l,0<=x)->0<=l.sum/\∀ x∈l,x<=l.sum
 | [],_=>by simp
 | y :: r,h=>by
  obtain ⟨h1,h2⟩:=KT (l:=r) (fun x a=>h x (by simp [a]));have h3:=h y (by simp);rw [List.sum_cons];refine ⟨by omega,fun x a => ?_⟩;rcases List.mem_cons.1 a with rfl|a
  · omega
  · have:=h2 x a; omega
theorem J2:∀ (l:List Int) (s:Int),0<=s->(∀ x∈l,0<=x)->s+l.sum<=24->Cq s l=s+l.sum
 | [],s,_,_,_=>by simp [Cq]
 | x :: r,s,h1,h2,h3=>by
  have hr:=KT (l:=r) (fun y a=>h2 y (by simp [a]));have b:=h2 x (by simp);rw [List.sum_cons] at h3 |-;unfold Cq;rw [if_neg (by omega),J2 r (s+x) (by omega) (fun y a=>h2 y (by simp [a])) (by omega)];omega
theorem Ec:AU l=true<->l.length<=6/\(∀ x∈l,0<=x)/\l.sum<=24:=by
 unfold AU C7;rw [decide_eq_true_iff];constructor
 · intro h;split at h
   · omega
   · obtain ⟨h1,h2,h3⟩:=Me l 0 (by omega) (by omega) h;exact ⟨by omega,h3,by omega⟩
 · rintro ⟨h1,h2,h3⟩;rw [if_neg (by omega),J2 l 0 (by omega) h2 (by omega)];have:=(KT h2).1;omega
theorem QO {b:List Int} (h:0<Pl.ordE a b):b.sum<=a.sum:=by
 unfold Pl.ordE at h;split at h
 · omega
 · have:=Pl.cmpI_pos.1 h; omega
def InV (vars:Nat) (e:List Int):Prop:=e.length=6/\(∀ x∈e,0<=x)/\A6 (e.take vars)=e
theorem InV.pad {vars:Nat} (h:l.length=vars) (c:vars<=6) (b:∀ x∈l,0<=x):InV vars (A6 l):=by
 refine ⟨CL (by omega),fun x a => ?_,by rw [<-h,Gq]⟩;rcases List.mem_append.1 a with a|a
 · exact b x a
 · rw [(List.mem_replicate.1 a).2]; omega
theorem PC {t:Pl.Tm} {r:List Pl.Tm} (h:Pl.Canon 6 (t :: r)):∀ s∈t :: r,s.1.sum<=t.1.sum:=by
 intro s a;rcases List.mem_cons.1 a with rfl|a
 · omega
 · exact QO ((List.pairwise_cons.1 h.desc).1 s a)
theorem Mf {vars:Nat} {t:Pl.Tm} (d:vars<=6) (h:InV vars t.1) (b:t.2≠0) (c:t.1.sum<=24):AX vars (txt t.2,t.1.take vars)=some t:=by
 unfold AX;simp only [C4];have a:(t.1.take vars).length=vars:=by rw [List.length_take,h.1]; omega
 rw [if_pos ⟨b,by rw [a],fun e he=>by
  have h1:=List.mem_of_mem_take he;have h2:=KT h.2.1;have:=h.2.1 e h1;have:=h2.2 e h1
  omega⟩,h.2.2]
theorem Mh {vars:Nat} {l:List Pl.Tm} (w:vars<=6) (j:Pl.Canon 6 l) (k:okW l) (b:∀ t∈l,InV vars t.1):rdP vars (wrT vars l)=some l:=by
 have f:∀ t∈l,t.1.sum<=24:=by
  cases l with
  | nil=>simp
  | cons t r =>
   intro s v;have h1:=PC j s v;have h2:=(Ec.1 (k.2 t r rfl)).2.2;omega
 have d:∀ t∈l,AX vars (txt t.2,t.1.take vars)=some t:=fun t g=>Mf w (b t g) (j.nz t g) (f t g);have c:(wrT vars l).length=l.length:=by simp [wrT]
 have a:∀ i,i<l.length->(wrT vars l).getD i tm0=(txt (l.getD i ([],0)).2,(l.getD i ([],0)).1.take vars)/\l.getD i ([],0)∈l:=fun i b=>by
  refine ⟨?_,by simp [b]⟩;simp [wrT,b]
 unfold rdP;rw [if_pos]
 · unfold rdWF;rw [if_pos]
   · congr 1;unfold wrT;rw [List.map_map]
     conv=>rhs; rw [<-List.map_id l]
     apply List.map_congr_left;intro t g;simp only [Function.comp_apply,d t g,Option.getD_some,id_eq]
   · refine ⟨by omega,by omega,fun i h => ?_,fun i h => ?_⟩
     · obtain ⟨h1,h2⟩:=a i (by omega);rw [h1,d _ h2];rfl
     · obtain ⟨h1,h2⟩:=a i (by omega);obtain ⟨h3,h4⟩:=a (i+1) (by omega);rw [h1,h3];have p:=b _ h2;have q:=b _ h4;have n:((l.getD i ([],0)).1.take vars).length=((l.getD (i+1) ([],0)).1.take vars).length:=by rw [List.length_take,List.length_take,p.1,q.1]
       rw [<-IU n,p.2.2,q.2.2];have hp:=List.pairwise_iff_getElem.1 j.desc i (i+1) (by omega) (by omega) (by omega);simpa [show i<l.length by omega,show i+1<l.length by omega] using hp
 · refine ⟨by rw [c]; exact k.1,fun t r e => ?_⟩;cases l with
   | nil=>simp [wrT] at e
   | cons m s =>
    have o:(txt m.2,m.1.take vars) :: wrT vars s=t :: r:=e;simp only [List.cons.injEq] at o;rw [<-o.1];have h1:=b m (by simp);show AU (m.1.take vars)=true;rw [<-Fo (by rw [List.length_take]; omega),h1.2.2];exact k.2 m s rfl
theorem Oy:∀ (l:List (List Int)),∃ k:List (List Int),k.Nodup/\∀ e,e∈k<->e∈l
 | []=>⟨[],List.nodup_nil,fun _=>Iff.rfl⟩
 | x :: r=>by
  obtain ⟨k,h1,h2⟩:=Oy r;by_cases h:x∈k
  · refine ⟨k,h1,fun e => ?_⟩;rw [h2,List.mem_cons];constructor
    · exact Or.inr
    · rintro (rfl|h3)
      · exact (h2 _).1 h
      · exact h3
  · exact ⟨x :: k,List.nodup_cons.2 ⟨h,h1⟩,fun e=>by rw [List.mem_cons,List.mem_cons,h2]⟩
theorem J3 (F:List Int->Rat):∀ (k:List (List Int)) (_:k.Nodup) (e:List Int),Pl.coef (k.map (fun x=>(x,F x))) e=if e∈k then F e else 0
 | [],_,e=>by simp [Pl.coef]
 | x :: r,h,e=>by
  have h1:=List.nodup_cons.1 h;have b:=J3 F r h1.2 e;rw [List.map_cons];unfold Pl.coef;rw [b];by_cases a:x=e
  · subst a;rw [if_pos rfl,if_neg h1.1,if_pos (by simp)];exact Rat.add_zero _
  · rw [if_neg a];by_cases he:e∈r
    · rw [if_pos he,if_pos (by simp [he])]; exact Rat.zero_add _
    · rw [if_neg he,if_neg (by simp [he,Ne.symm a])]; exact Rat.zero_add _
theorem Tu {p:List Pl.Tm} (h6:∀ t∈p,t.1.length=6):∃ a,Pl.Nrm a/\∀ e,Pl.coef a e=Pl.coef p e:=by
 obtain ⟨k,h1,h2⟩:=Oy (p.map (·.1));refine ⟨(k.map (fun x=>(x,Pl.coef p x))).filter (fun t=>decide (t.2≠0)),Pl.Nrm.filter ?_ ?_,fun e => ?_⟩
 · intro t b;obtain ⟨x,d,rfl⟩:=List.mem_map.1 b;obtain ⟨s,c,rfl⟩:=List.mem_map.1 ((h2 x).1 d);exact h6 s c
 · rw [List.map_map];have:((fun t:Pl.Tm=>t.1) ∘ fun x=>(x,Pl.coef p x))=id:=rfl;rw [this,List.map_id];exact h1
 · rw [Pl.coef_nz,J3 _ k h1];by_cases he:e∈k
   · rw [if_pos he]
   · rw [if_neg he];refine (Pl.coef_absent fun t b h=>he ((h2 e).2 ?_)).symm;rw [<-h];exact List.mem_map_of_mem b
theorem FU {p:List Pl.Tm} (h6:∀ t∈p,t.1.length=6):Pl.Canon 6 (cnP p)/\∀ e,Pl.coef (cnP p) e=Pl.coef p e:=by
 obtain ⟨b,h1,h2⟩:=Tu h6;obtain ⟨l,h3,h4⟩:=Gw b h1.len;have a:=h1.perm h3.symm;have c:Pl.Canon 6 l:=Pl.canon_of_sorted a.len a.nz h4 a.nodup;have e:cnP p=l:=D9 h1 h2 h3 h4;rw [e];exact ⟨c,fun e=>by rw [Pl.coef_perm h3,h2]⟩
theorem Oz {p:List Pl.Tm} (h6:∀ t∈p,t.1.length=6) {t:Pl.Tm} (a:t∈cnP p):∃ s∈p,s.1=t.1:=by
 obtain ⟨h1,h2⟩:=FU h6;have h3:Pl.coef p t.1≠0:=by
  rw [<-h2,Pl.coef_mem (EU h1).nodup a];exact h1.nz t a
 exact Pl.coef_present h3
theorem Sb {p:List Pl.Tm} {vars:Nat} (hi:∀ t∈p,InV vars t.1):∀ t∈cnP p,InV vars t.1:=fun t a=>by
 obtain ⟨s,b,e⟩:=Oz (fun t a=>(hi t a).1) a;rw [<-e];exact hi s b
theorem Sc {vars:Nat} {ts:List Tx} {l:List Pl.Tm} (h:rdP vars ts=some l):∀ t∈l,InV vars t.1:=by
 intro m c;obtain ⟨t,g,d⟩:=FT h c;obtain ⟨_,_,f,a,b⟩:=Cd d;rw [b];exact InV.pad (by omega) (by have:=(BT h).1; omega) (fun x e=>(a x e).1)
def EB (l:List Pl.Tm):List Pl.Tm:=l.map (fun t=>(A6 t.1,t.2))
theorem QP (l:List Pl.Tm):(EB l).length=l.length:=List.length_map ..
theorem GF {n:Nat}:∀ {l:List Pl.Tm},(∀ t∈l,t.1.length=n)->∀ {e:List Int},e.length=n->Pl.coef (EB l) (A6 e)=Pl.coef l e
 | [],_,_,_=>rfl
 | t :: r,hl,e,he=>by
  have ih:=GF (l:=r) (fun s a=>hl s (by simp [a])) he;have h1:(A6 t.1=A6 e)<->t.1=e:=⟨fun h=>Qi ((hl t (by simp)).trans he.symm) h,fun h=>by rw [h]⟩;show (if A6 t.1=A6 e then t.2 else 0)+Pl.coef (EB r) (A6 e)=(if t.1=e then t.2 else 0)+Pl.coef r e;rw [ih];simp only [h1]
theorem GY {l:List Pl.Tm} (a:∀ t∈l,t.1.length=n) {e:List Int} (h:¬ ∃ x:List Int,x.length=n/\A6 x=e):Pl.coef (EB l) e=0:=by
 refine Pl.coef_absent fun t c he => ?_;obtain ⟨s,b,rfl⟩:=List.mem_map.1 c;exact h ⟨s.1,a s b,he⟩
theorem Mi {a b:List Pl.Tm} (d:∀ t∈a,t.1.length=n) (f:∀ t∈b,t.1.length=n) (h:∀ e,e.length=n->Pl.coef a e=Pl.coef b e):∀ e,Pl.coef (EB a) e=Pl.coef (EB b) e:=by
 intro e;by_cases c:∃ x:List Int,x.length=n/\A6 x=e
 · obtain ⟨x,h1,rfl⟩:=c;rw [GF d h1,GF f h1,h x h1]
 · rw [GY d c,GY f c]
theorem Nl (d:n<=6) {l:List Pl.Tm} (h:Pl.Canon n l):Pl.Canon 6 (EB l):=by
 refine ⟨?_, ?_, ?_⟩
 · intro t b;obtain ⟨s,a,rfl⟩:=List.mem_map.1 b;exact CL (by rw [h.len s a]; exact d)
 · intro t b;obtain ⟨s,a,rfl⟩:=List.mem_map.1 b;exact h.nz s a
 · refine List.pairwise_map.2 (h.desc.imp_of_mem ?_);intro s t a b c;rw [IU ((h.len s a).trans (h.len t b).symm)];exact c
def wrU (l:List Pl.Tm):List Tx:=l.map (fun t=>(txt t.2,t.1))
theorem Sd {l:List Pl.Tm} (h:∀ t∈l,t.1.length=n):wrT n (EB l)=wrU l:=by
 unfold wrT EB wrU;rw [List.map_map];refine List.map_congr_left fun t a => ?_;show (txt t.2,(A6 t.1).take n)=(txt t.2,t.1);rw [<-h t a,Gq]
def okU (l:List Pl.Tm):Prop:=l.length<=4096/\∀ t r,l=t :: r->AU t.1=true
theorem OA (b:n<=6) {l:List Pl.Tm} (h:∀ t∈l,t.1.length=n):okW (EB l)<->okU l:=by
 unfold okW okU;rw [QP];refine and_congr_right fun _ => ?_;cases l with
 | nil=>simp [EB]
 | cons t r =>
  have a:=Fo (l:=t.1) (by rw [h t (by simp)]; exact b);constructor
  · intro h1 d c he;injection he with h2 h3;subst h2;have:=h1 _ _ rfl;rw [<-a];exact this
  · intro h1 d c he;injection he with h2 h3;rw [<-h2];show AU (A6 t.1)=true;rw [a];exact h1 _ _ rfl
theorem Mj (b:n<=6) {l p:List Pl.Tm} (h:Pl.Canon n l) (c:∀ e,Pl.coef (EB l) e=Pl.coef p e):(okU l/\resQ (n:Int) p=((n:Int),wrU l,0))\/(¬ okU l/\resQ (n:Int) p=(0,[],2)):=by
 have h1:cnP p=EB l:=Na (Nl b h) c;unfold resQ;rw [h1,Int.toNat_natCast,Sd h.len];by_cases a:okU l
 · exact Or.inl ⟨a,if_pos ((OA b h.len).2 a)⟩
 · exact Or.inr ⟨a,if_neg fun h2=>a ((OA b h.len).1 h2)⟩
def rdU (t:Tx):Pl.Tm:=(t.2,(AF t.1).getD 0)
end Go.Proofs.YtlbmnokpiilfpaaGreatDoor
