/- Part Pq30. -/
import Derived.Test.YtlbmnokpiilfpaaGreatDoorPq29
import Derived.Test.YtlbmnokpiilfpaaGreatDoorPq23
import Derived.Deep.CutBlock
set_option linter.all false
set_option maxRecDepth 100000
set_option maxHeartbeats 100000000
namespace Go.Proofs.YtlbmnokpiilfpaaGreatDoor
open Tryz Go Go.RowKit
def kP:=@List.getElem_of_mem
def mQ:=@ByteArray.size_append
variable {a0 f:Act} {ops:Array Oper} {neg:Bool} {s:ByteArray} {Q:Exit->Act->World->Prop} {vars z:Int} {news rows rows':List (List Value)} {xs:List Int} {rest:List Oper} {l:List UInt8} {cs ds row vs zs:List Value} {K N R b b' b0 base bytes c c' cx g i k m n n':Nat} {o:Oper} {y:Operand} {A a a':Option Addr} {cons:Option Nat} {P:Program} {q r:Rat} {e e' t ty:TypeId} {v:Value} {w w':World}
theorem KJ(a b:ByteArray):An (a ++ b)=An a ++ An b:=by
 unfold An;rw[ByteArray.data_append];exact Array.toList_append
theorem Gc(q:Rat):txt q=(if q.num<0 then [45]else []) ++ Lib.decDigits q.num.natAbs ++ (if q.den=1 then []else 47 :: Lib.decDigits q.den):=by unfold txt;rw[MQ]
theorem KK(h:QV w v q)(y:Pl.RB 1000000 q):Calls prog 96 #[v] w fun e Y=>e = .returned (.string ⟨(txt q).toArray⟩)/\Ext w Y:=by
 obtain⟨s,a,n,c,b,m,d,rfl,r,J,E⟩:=h;have o:=qh (fun(U:World) (K:Ext w U)=>KI (v := .agg (Ac s a n c).toArray) ⟨s,a,n,c,rfl,r,J.ext K⟩ (Af y.1 (by omega)));have D:=ML y.1;obtain⟨p,j⟩:∃ p:ByteArray,(⟨(Lib.decDigits q.num.natAbs).toArray⟩:ByteArray)=p:=⟨_,rfl⟩;have W:p.size<=400000:=by rw[<-j,<-Ay,Cw];omega
 rw[j]at o;have j:=qh j;clear D;by_cases h1:q.den=1
 · have N:m=0:=E.zero.2 (CG h1);subst N;cases s with
   | true =>
    have A:Hid ((⟨(txt q).toArray⟩:ByteArray)=⟨#[45]⟩ ++ p):=by
     show _=_;refine EX ?_;have C:q.num<0:=by simpa using r.out
     simp only[Cw,KJ,Gc,C,h1,li,jL];rw[<-j.out];rfl
    clear r J E y h1;have L:(⟨#[45]⟩ ++ p:ByteArray).size=1+p.size:=by rw[mQ];rfl
    go_enter func96,ntmps96
    go_upto_region 1 with(fail)
    refine AP ?_;intro S i g k;have F:=g.c 0 rfl;have G:=g.c 1 rfl;have H:=g.c 2 rfl;have I:=g.c 3 rfl;clear k
    go_wp2_with fail
    refine(o.out _ i).mono ?_;rintro e T ⟨rfl,f⟩;have O:=f.cell F;have P:=f.cell G;have Q:=f.cell H;have R:=f.cell I;go_wp2;go_ret;exact⟨by rw[A.out];rfl,(i.trans f)⟩
   | false =>
    have A:Hid ((⟨(txt q).toArray⟩:ByteArray)=p):=by
     show _=_;refine EX ?_;have C:¬ q.num<0:=by simpa using r.out
     simp only[Cw,Gc,C,h1,li,mV,jL,jo];rw[<-j.out];rfl
    clear r J E y h1
    go_enter func96,ntmps96
    go_upto_region 1 with(fail)
    refine AP ?_;intro S i g k;have F:=g.c 0 rfl;have G:=g.c 1 rfl;have H:=g.c 2 rfl;have I:=g.c 3 rfl;clear k
    go_wp2_with fail
    refine(o.out _ i).mono ?_;rintro e T ⟨rfl,f⟩;have O:=f.cell F;have P:=f.cell G;have Q:=f.cell H;have R:=f.cell I;go_wp2;go_ret;exact⟨by rw[A.out];rfl,(i.trans f)⟩
 · have t:=qh (fun(U:World) (K:Ext w U)=>KI (v := .agg (Ac false b m d).toArray) (z:=(q.den:Int)) ⟨false,b,m,d,rfl,qh (gR (by omega)),by rw[il];have:=E.ext K;rw[Bi h1]at this;exact this⟩ (Af (b:=3200000) y.2 (by omega)));rw[il]at t;have X:(0:Int)<m:=by
    have h2:m≠0:=fun h0=>by
     have h3:=E.zero.1 h0;rw[Bi h1]at h3;exact q.den_nz h3
    omega
   have D:=ML y.2;obtain⟨x,l⟩:∃ x:ByteArray,(⟨(Lib.decDigits q.den).toArray⟩:ByteArray)=x:=⟨_,rfl⟩;have V:x.size<=400000:=by rw[<-l,<-Ay,Cw];omega
   rw[l]at t;have l:=qh l;clear D;cases s with
   | true =>
    have A:Hid ((⟨(txt q).toArray⟩:ByteArray)=(⟨#[45]⟩ ++ p) ++ (⟨#[47]⟩ ++ x)):=by
     show _=_;refine EX ?_;have C:q.num<0:=by simpa using r.out
     simp only[Cw,KJ,Gc,C,h1,li,mV];rw[<-j.out,<-l.out];rfl
    clear r J E y h1;have L:(⟨#[45]⟩ ++ p:ByteArray).size=1+p.size:=by rw[mQ];rfl
    have M:(⟨#[47]⟩ ++ x:ByteArray).size=1+x.size:=by rw[mQ];rfl
    go_enter func96,ntmps96
    go_upto_region 1 with(fail)
    refine AP ?_;intro S i g k;have F:=g.c 0 rfl;have G:=g.c 1 rfl;have H:=g.c 2 rfl;have I:=g.c 3 rfl;clear k
    go_wp2_with fail
    refine(o.out _ i).mono ?_;rintro e T ⟨rfl,f⟩;have O:=f.cell F;have P:=f.cell G;have Q:=f.cell H;have R:=f.cell I
    go_wp2_with fail
    refine(t.out _ (i.trans f)).mono ?_;rintro e Z ⟨rfl,B⟩;go_wp2;go_ret;exact⟨by rw[A.out];rfl,((i.trans f).trans B)⟩
   | false =>
    have A:Hid ((⟨(txt q).toArray⟩:ByteArray)=p ++ (⟨#[47]⟩ ++ x)):=by
     show _=_;refine EX ?_;have C:¬ q.num<0:=by simpa using r.out
     simp only[Cw,KJ,Gc,C,h1,mV,jo];rw[<-j.out,<-l.out];rfl
    clear r J E y h1;have M:(⟨#[47]⟩ ++ x:ByteArray).size=1+x.size:=by rw[mQ];rfl
    go_enter func96,ntmps96
    go_upto_region 1 with(fail)
    refine AP ?_;intro S i g k;have F:=g.c 0 rfl;have G:=g.c 1 rfl;have H:=g.c 2 rfl;have I:=g.c 3 rfl;clear k
    go_wp2_with fail
    refine(o.out _ i).mono ?_;rintro e T ⟨rfl,f⟩;have O:=f.cell F;have P:=f.cell G;have Q:=f.cell H;have R:=f.cell I
    go_wp2_with fail
    refine(t.out _ (i.trans f)).mono ?_;rintro e Z ⟨rfl,B⟩;go_wp2;go_ret;exact⟨by rw[A.out];rfl,((i.trans f).trans B)⟩
def Yo(w:World)(o:Option Rat)(e:Ending)(w':World):Prop:=∃ s a n c b m d,e = .returned (.tuple #[.agg (Al s a n c false b m d).toArray,.bool o.isSome])/\Ext w w'/\∀ q,o=some q->Hid (decide (q.num<0)=s)/\Mg w' a n c q.num.natAbs/\Mg w' b m d (A9 q).natAbs
theorem Xv:∀ {K:Nat},(∀ j,j<K->l.getD j 0≠47)->(K=l.length\/K<l.length/\l.getD K 0=47)->l.takeWhile (· != 47)=l.take K/\l.dropWhile (· != 47)=l.drop K:=by
 induction l with
 | nil=>intro K _ h;simp
 | cons x r ih =>
  intro K h a;cases K with
  | zero =>
   rcases a with h0|⟨_,h0⟩
   · simp at h0
   · have:x=47:=by simpa using h0
     subst this;simp
  | succ K =>
   have b:x≠47:=by simpa using h 0 (by omega)
   have:=ih (K:=K) (fun j c=>by have:=h (j+1) (by omega);simpa using this) (by
    rcases a with h0|⟨h0,h1⟩
    · left;simpa using h0
    · right;exact⟨by simpa using h0,by simpa using h1⟩)
   simp[b,this]
theorem Rt{x:Nat}(h:FO l=some x)(b:l.length<=k):x<P2 (4*k):=by
 unfold FO at h;split at h
 · rename_i a;simp only[jn,jI]at a;injection h with h;rw[<-h];exact Nh (fun c d=>Ey.1 (a.2 c d)) b
 · cases h
def VS(neg:Bool)(n:Nat):Int:=if neg=true then -(n:Int)else n
theorem Uh{t:List UInt8}(c:decide (l.head?=some 45)=neg)(e:(if neg=true then l.tail else l)=t)(h:∀ j,j<K->t.getD j 0≠47)(a:K=t.length\/K<t.length/\t.getD K 0=47) :
 ON l=match FO (t.take K)with
  | none=>none
  | some n=>if K=t.length then some (mkRat (VS neg n) 1)
   else match FO (t.drop (K+1))with
    | none=>none
    | some d=>if d=0 then none else some (mkRat (VS neg n) d):=by
 have b:=Xv h a;unfold ON;simp only[c,e,b.1,b.2];cases FO (t.take K)with
 | none=>rfl
 | some n =>
  have h1:(t.drop K=[])<->K=t.length:=by
   rw[List.drop_eq_nil_iff];rcases a with h2|h2 <;> omega
  have h2:(t.drop K).tail=t.drop (K+1):=by rw[List.tail_drop]
  simp only[h1,h2];rfl
theorem FQ(s:ByteArray)(i j:Nat):(s.extract i j).size<=s.size:=by
 rw[<-Ay,<-Ay s,Bc,iq,kN];omega
theorem Qe:decide ((An s).head?=some 45)=true<->∃ h:0<s.size,s[0]=45:=by
 rw[decide_eq_true_iff];have a:=Ay s;cases b:An s with
 | nil =>
  rw[b]at a;simp at a;simp;intro h;omega
 | cons c r =>
  have h0:0<s.size:=by rw[<-a,b];simp
  have h1:=E5 h0;rw[b]at h1;have h2:c=s[0]:=by simpa using h1
  constructor
  · intro h;exact⟨h0,by rw[<-h2];simpa using h⟩
  · rintro⟨_,h⟩;have h3:c=45:=by rw[h2];exact h
    rw[h3];rfl
theorem SD(h:mkRat z 1=r):r.num=z/\r.den=1:=by
 rw[Rat.mkRat_one]at h;subst h;exact⟨rfl,rfl⟩
theorem Ni{d:List Hd}{C:World->Prop}{x:Operand}(s:o.guard=none)(l:o.op = .store ty x y)(r:Agg P ty vs.length)(h1:∀ v∈vs,v.oneCell'=true)
 (q:∀ w,C w->∃ cs,cs.length=vs.length/\Arr w R t cs) (f:∀ w e,C w->w.grownBy e (some R)->Arr e R t vs->C e) (z:∀ w e,Gk ops d i o w e (List.range d.length))
 (h:∀ a w,DE a->C w->Cq ops d a0 o a w [x,y]->a x = .pointer (some ⟨R,0,none⟩)/\a y = .agg vs.toArray):obl P C ops d a0 i o (hmp (fun _ A=>Arr A R t vs)):=by
 unfold obl Cr;rw[s];intro a w hp b m;have k:Cq ops d a0 o a w [x,y]:=by rw[l]at m;exact m
 obtain⟨n,p⟩:=h a w hp b k;obtain⟨cs,h3,h4⟩:=q w b;have c:(execOp a o).run P w = .ok .skip (w.setRow R vs.toArray):=by
  have:=DG (P:=P) (w:=w) (ty:=ty) (g:=R) (cs:=cs) (vs:=vs) r h4 h3 h1;simp only[execOp,l,n,p,ij,this,gS,iF]
 rw[c];have j:=BK w R vs.toArray;exact⟨f w _ b j (Cm h4 _),z _ _,Cm h4 _⟩
theorem OO(hs:s.size<=10000):Calls prog 71 #[.string s] w (Yo w (AD (An s))):=by
 have aS:=Ay s
 go_enter func71,ntmps71
 go_upto_region 1 with(fail)
 refine AP ?_;intro w0 b1 aH bk;have hR:Arr w0 w.heap.size 99 (Al false none 0 0 false none 0 0):=aH;clear bk aH
 go_upto_region 2 with(fail)
 go_cut [5] from 14 to 81 (fun nv G=>∃ nb:Bool,nv = .bool nb/\Hid (decide ((An s).head?=some 45)=nb)/\G=w0)
 case first =>
  cases F:decide ((An s).head?=some 45)with
  | true =>
   obtain⟨h0,h45⟩:=Qe.1 F;have an:(0:Int)<s.size:=by omega
   have hb:(((s[0].toNat:Nat):Int) == 45)=true:=by rw[h45];rfl
   have B:=qh F;clear F h45
   go_wp2_with fail
   go_meet
   exact⟨true,rfl,B,rfl⟩
  | false =>
   have B:=qh F;by_cases h0:0<s.size
   · have an:(0:Int)<s.size:=by omega
     have hb:(((s[0].toNat:Nat):Int) == 45)=false:=by
      have h45:s[0]≠45:=fun h=>by
       have:=Qe.2 ⟨h0,h⟩;rw[F]at this;cases this
      have:s[0].toNat≠45:=fun h=>h45 (oU.1 h);simpa using(show ¬ ((s[0].toNat:Nat):Int)=45 by omega)
     clear F
     go_wp2_with fail
     go_meet
     exact⟨false,rfl,B,rfl⟩
   · have an:¬ (0:Int)<s.size:=by omega
     clear F
     go_wp2_with fail
     go_meet
     exact⟨false,rfl,B,rfl⟩
 case rest =>
  obtain⟨nb,rfl,B,rfl⟩:=hcut
  go_upto_if 22 with(fail)
  go_cut [4] from 23 to 81 (fun tv wy=>∃ t:ByteArray,tv = .string t/\t.size<=10000/\Hid ((if nb=true then(An s).tail else An s)=An t)/\wy=wc)
  case first =>
   cases nb with
   | true =>
    have h0:=(Qe.1 B.out).1;have an:(0:Int)<s.size:=by omega
    have bl:(1:Int)<=s.size:=by omega
    go_wp2_with fail
    go_meet
    refine⟨s.extract 1 s.size,rfl,gJ (FQ _ _ _) hs,?_,rfl⟩;show _=_
    first | rw[gY rfl] | rw[gY trivial]
    rw[Bc,gG (by rw[kN,Ay];exact lrf _),List.drop_one]
   | false =>
    go_wp2_with fail
    go_meet
    exact⟨s,rfl,hs,qh rfl,rfl⟩
  case rest =>
   obtain⟨t,rfl,bq,aY,rfl⟩:=hcut;have bb:=Ay t
   go_upto_block 0 with(fail)
   go_cut [6,7] from 27 to 81 (fun av _ wy=>∃ K:Nat,av = .int .i64 K/\K<=t.size/\Hid (∀ j,j<K->(An t).getD j 0≠47)/\Hid (K=(An t).length\/K<(An t).length/\(An t).getD K 0=47)/\wy=wc)
   case first =>
    go_wp2_with fail
    go_loopw[6,7] (fun av iv wr=>∃ k:Nat,av = .int .i64 t.size/\iv = .int .i64 k/\k<=t.size/\wr=wc/\Hid (∀ j,j<k->(An t).getD j 0≠47)) (fun _ iv _=>t.size-(intOf iv).toNat)
    case atStart=>exact⟨0,rfl,rfl,gO _,rfl,qh (fun j h=>by omega)⟩
    case round =>
     obtain⟨k,rfl,rfl,hk,rfl,HK⟩:=hrel;by_cases aM:k<t.size
     · have aT:(k:Int)<t.size:=by omega
       by_cases h47:t[k]=47
       · have hb:(((t[k].toNat:Nat):Int) == 47)=true:=by rw[h47];rfl
         have Q:=qh (Or.inr (a:=k=(An t).length) (And.intro (show k<(An t).length by omega) (show(An t).getD k 0=47 by rw[E5 aM];exact h47)));clear h47
         go_wp2_with fail
         go_meet
         exact⟨k,rfl,hk,HK,Q,by first | rfl | trivial⟩
       · have hb:(((t[k].toNat:Nat):Int) == 47)=false:=by
          have:t[k].toNat≠47:=fun h=>h47 (oU.1 h);simpa using(show ¬ ((t[k].toNat:Nat):Int)=47 by omega)
         have HN:Hid (∀ j,j<k+1->(An t).getD j 0≠47):=qh (fun j hj=>by
          by_cases b5:j<k
          · exact HK.out j b5
          · have:j=k:=by omega
            subst this
            rw[E5 aM];exact h47)
         clear h47;go_wp2;go_roundw
         case rel=>exact⟨k+1,rfl,by go_num,by omega,by first | rfl | trivial,HN⟩
         case measure=>simp[intOf];omega
     · have aT:¬ (k:Int)<t.size:=by omega
       have Q:=qh (Or.inl (b:=k<(An t).length/\(An t).getD k 0=47) (show k=(An t).length by omega));have E:k=t.size:=by omega
       have aU:=qh E;clear E
       go_wp2_with fail
       go_meet
       exact⟨k,by rw[aU.out],hk,HK,Q,by first | rfl | trivial⟩
   case rest =>
    obtain⟨K,rfl,hK,HK,Q,aP⟩:=hcut;have bd:=aP;subst aP;generalize be:wc=wr at *
    clear be bd;have a2:=hR;have ae:=b1;clear bb aS;have a7:=qh (Uh B.out aY.out HK.out Q.out);have W:=qh (FP (s:=t.extract 0 K) (w:=wr) (gJ (FQ _ _ _) (by omega)));have aG:Hid (An (t.extract 0 K)=(An t).take K):=by show _=_;rw[Bc];simp
    have aV:Hid ((An (t.extract 0 K)).length<=10000):=by show _<=_;rw[Ay];exact gJ (FQ _ _ _) (by omega)
    clear Q HK
    go_wp2_with fail
    refine W.out.mono ?_;rintro e w1 ⟨s1,a1,n1,c1,rfl,ac,aw⟩;have hY:=Arr.new w1 97 (Ac false none 0 0);cases ho:FO (An (t.extract 0 K))with
    | none =>
     have y:Hid (AD (An s)=none):=qh (Ir (by rw[a7.out,<-aG.out,ho]));clear W aw a7
     go_upto_region 12 with(refine Aa (vs:=Ac s1 a1 n1 c1) rfl rfl rfl rfl rfl A6 hY rfl (Ae _ _ _ _) ?_;intro w2 aa af)
     have V:Ext w1 w2:=((Ext.refl w1).alloc _).grownR af (lrf _);have o:=a2.ext (ac.trans V)
     go_wp2_with(refine Aa (vs:=Al false none 0 0 false none 0 0) rfl rfl rfl rfl rfl By o rfl (Aq _ _ _ _ _ _ _ _) ?_;intro w9 C a4)
     refine gF (Ao rfl By rfl rfl C) rfl ⟨false,none,0,0,none,0,0,by rw[y.out];rfl,(ae.trans (ac.trans V)).grownR a4 (lrf _),fun x Z=>by rw[y.out]at Z;cases Z⟩
    | some x =>
     obtain⟨rfl,b7⟩:=aw x ho;have ax:=Rt ho aV.out;obtain⟨z,hz⟩:∃ z:Int,VS nb x=z:=⟨_,rfl⟩;have a6:z.natAbs<P2 40000:=by rw[show z.natAbs=x by rw[<-hz];unfold VS;split <;> omega];exact ax
     have g:=a7.out;rw[<-aG.out,ho]at g;simp only at g;rw[hz]at g;have g:=qh g;clear W aw a7
     go_upto_region 12 with(refine Aa (vs:=Ac false a1 n1 c1) rfl rfl rfl rfl rfl A6 hY rfl (Ae _ _ _ _) ?_;intro w2 aa af)
     have V:Ext w1 w2:=((Ext.refl w1).alloc _).grownR af (lrf _);have q0:=aa.c 0 rfl;have q1:=aa.c 1 rfl;have aN:=qh (Ch (neg:=nb) (b7.ext V) (z:=z) hz.symm);have ak:=ac.trans V;clear aa af hY ac V hz
     go_wp2_with fail
     refine aN.out.mono ?_;rintro e w3 ⟨s3,a3,n3,c3,rfl,ao,aF,aQ⟩;have bp:(Ac s3 a3 n3 c3).toArray=#[.bool s3,.slice a3 n3 c3]:=rfl;have aK:=Arr.new w3 99 (Al false none 0 0 false none 0 0)
     go_upto_region 15 with(refine Aa (vs:=Al s3 a3 n3 c3 false none 0 0) rfl rfl rfl rfl rfl By aK rfl (Aq _ _ _ _ _ _ _ _) ?_;intro w4 T aL)
     have aI:Ext w3 w4:=((Ext.refl w3).alloc _).grownR aL (lrf _);have M:=(ak.trans ao).trans aI;have aC:=(ak.trans ao).size;have aR:=aQ.ext aI;have k0:=T.c 0 rfl;have k1:=T.c 1 rfl;have k2:=T.c 2 rfl;have k3:=T.c 3 rfl;clear aN q0 q1 ao aL aK aQ ak
     go_upto_if 56 with(fail)
     go_cut [11,12] from 56 to 76 (fun _ _ wy=>∃ (r:Rat) (P:Bool) (H:Option Addr) (O J:Nat) (I:Option Addr) (N L:Nat),Ext wr wy/\Hid (ON (An s)=some r)/\Hid (Pl.RB 1000000 r)/\Arr wy w3.heap.size 99 (Al P H O J false I N L)/\Hid (decide (r.num<0)=P)/\Mg wy H O J r.num.natAbs/\Mg wy I N L (A9 r).natAbs)
     case first =>
      by_cases E:K=t.size
      · have b6:¬ (K:Int)<t.size:=by omega
        have i:=g.out;rw[gY (by rw[Ay];exact E)]at i;obtain⟨r,hr⟩:∃ r,mkRat z 1=r:=⟨_,rfl⟩;rw[hr]at i;obtain⟨ai,au⟩:=SD hr;have R:=qh i;have S:Hid (decide (r.num<0)=s3):=by rw[ai];exact aF
        have X:Mg w4 a3 n3 c3 r.num.natAbs:=by rw[ai];exact aR
        have Y:Mg w4 none 0 0 (A9 r).natAbs:=by rw[CG au];exact Mg.nil w4
        have a0:Hid (Pl.RB 1000000 r):=qh ⟨by rw[ai];exact Af a6 (by omega),by rw[au];exact Af (a:=1) (by decide) (by omega)⟩;clear hr i g a6 ax E ai au
        go_wp2_with fail
        go_meet
        exact⟨r,s3,a3,n3,c3,none,0,0,M,R,a0,T,S,X,Y⟩
      · have b6:(K:Int)<t.size:=by omega
        have g:=g.out;rw[gT (by rw[Ay];exact E)]at g;have W:=qh (FP (s:=t.extract (K+1) t.size) (w:=w4) (gJ (FQ _ _ _) (by omega)));have aZ:Hid (An (t.extract (K+1) t.size)=(An t).drop (K+1)):=by show _=_;rw[Bc,gG];rw[kN,Ay];exact lrf _
        have aW:Hid ((An (t.extract (K+1) t.size)).length<=10000):=by show _<=_;rw[Ay];exact gJ (FQ _ _ _) (by omega)
        rw[<-aZ.out]at g;have g:=qh g;have bo:IntKind.i64.wrap ((K:Int)+1)=((K+1:Nat):Int):=by rw[gI _ (by omega)];rfl
        clear E
        go_wp2_with fail
        refine W.out.mono ?_;rintro e w5 ⟨s5,a5,n5,c5,rfl,D,aO⟩;have ap:=Arr.new w5 97 (Ac false none 0 0);have l:=T.ext D;cases ah:FO (An (t.extract (K+1) t.size))with
        | none =>
         have y:Hid (AD (An s)=none):=qh (Ir (by rw[g.out,ah]))
         go_upto_region 17 with(refine Aa (vs:=Ac s5 a5 n5 c5) rfl rfl rfl rfl rfl A6 ap rfl (Ae _ _ _ _) ?_;intro w6 ab ag)
         have A:Ext w5 w6:=((Ext.refl w5).alloc _).grownR ag (lrf _);have o:=a2.ext ((M.trans D).trans A)
         go_wp2_with(refine Aa (vs:=Al false none 0 0 false none 0 0) rfl rfl rfl rfl rfl By o rfl (Aq _ _ _ _ _ _ _ _) ?_;intro w9 C a4)
         refine gF (Ao rfl By rfl rfl C) rfl ⟨false,none,0,0,none,0,0,by rw[y.out];rfl,(ae.trans ((M.trans D).trans A)).grownR a4 (lrf _),fun x Z=>by rw[y.out]at Z;cases Z⟩
        | some d =>
         obtain⟨rfl,b9⟩:=aO d ah;have aq:=Rt ah aW.out;have i:=g.out;rw[ah]at i;simp only at i;clear g W aO
         go_upto_region 17 with(refine Aa (vs:=Ac false a5 n5 c5) rfl rfl rfl rfl rfl A6 ap rfl (Ae _ _ _ _) ?_;intro w6 ab ag)
         have A:Ext w5 w6:=((Ext.refl w5).alloc _).grownR ag (lrf _);have l:=l.ext A;have al:=(M.trans D).trans A;have ba:=b9.ext A;have u0:=ab.c 0 rfl;have u1:=ab.c 1 rfl;have a9:Hid (ZR w6 (.agg #[.bool false,.slice a5 n5 c5]) (d:Int)):=qh ⟨false,a5,n5,c5,rfl,qh (gR (by omega)),by rw[il];exact ba⟩;by_cases hd0:d=0
         · have y:Hid (AD (An s)=none):=qh (Ir (by rw[i,gY hd0]));have aj:=qh (KB a9.out (r:=0) (by rw[hd0];rfl));clear i hd0
           go_wp2_with fail
           refine aj.out.mono ?_;rintro e w7 ⟨rfl,p⟩;have o:=a2.ext (al.trans p)
           go_wp2_with(refine Aa (vs:=Al false none 0 0 false none 0 0) rfl rfl rfl rfl rfl By o rfl (Aq _ _ _ _ _ _ _ _) ?_;intro w9 C a4)
           refine gF (Ao rfl By rfl rfl C) rfl ⟨false,none,0,0,none,0,0,by rw[y.out];rfl,(ae.trans (al.trans p)).grownR a4 (lrf _),fun x Z=>by rw[y.out]at Z;cases Z⟩
         · have bm:0<d:=by omega
           rw[gT hd0]at i;have aj:=qh (KB a9.out (r:=1) (by rw[mI (by omega)]));clear hd0
           go_wp2_with fail
           refine aj.out.mono ?_;rintro e w7 ⟨rfl,p⟩;obtain⟨r,hr⟩:∃ r,mkRat z d=r:=⟨_,rfl⟩;rw[hr]at i;have R:=qh i;have a0:Hid (Pl.RB 1000000 r):=by
            have h1:=Pl.mkRat_le (n:=z) (d:=d) (by omega);rw[hr]at h1;exact qh ⟨gN h1.1 (Af a6 (by omega)),gN h1.2 (Af aq (by omega))⟩
           have b4:=qh (KG (w:=w7) (v := .agg #[.bool s3,.slice a3 n3 c3]) (z:=z) (q:=r) ⟨s3,a3,n3,c3,rfl,aF,aR.ext ((D.trans A).trans p)⟩ (a9.out.ext p) (Af a6 (by omega)) (by rw[il];exact Af aq (by omega)) (by omega) (by rw[il];exact hr.symm));have aD:=A.trans p;have k0:=(D.trans aD).cell k0;have k1:=(D.trans aD).cell k1;have u0:=p.cell u0;have u1:=p.cell u1;have l:=l.ext p;clear hr i a6 ax aq aj a9 k2 k3 ab ag ap
           go_wp2_with fail
           refine b4.out.mono ?_;rintro e w8 ⟨P,H,O,J,I,N,L,rfl,aJ,S,bf,bi⟩;have l:=l.ext aJ
           go_wp2_with(refine Aa (vs:=Al P H O J false I N L) rfl rfl rfl rfl rfl By l rfl (Aq _ _ _ _ _ _ _ _) ?_;intro wf U ar)
           have ad:Ext wr wf:=((al.trans p).trans aJ).grownR ar (aC);have X:=bf.keptA l (by decide) ar;have Y:=bi.keptA l (by decide) ar
           go_meet
           exact⟨r,P,H,O,J,I,N,L,ad,R,a0,U,S,X,Y⟩
     case rest =>
      obtain⟨r,P,H,O,J,I,N,L,ad,R,a0,U,S,X,Y⟩:=hcut;have l0:=U.c 0 rfl;have l1:=U.c 1 rfl;have l2:=U.c 2 rfl;have l3:=U.c 3 rfl;have o:=a2.ext (ad);have b3:=ae.trans (ad);have bc:=qh (fun(G:World) (m:wc.grownBy G (some w.heap.size))=>KK (v := .agg #[.bool P,.slice H O J,.bool false,.slice I N L]) ⟨P,H,O,J,I,N,L,rfl,S,X.keptA o (by decide) m,Y.keptA o (by decide) m⟩ a0.out);have f:Hid (some w3.heap.size≠some w.heap.size):=by have h1:=a2.lt;have h2:=aC;show _≠_;simp;omega
      have aE:Hid ((txt r == s.toList)=(AD (An s)).isSome):=by
       show _=_;rw[VR R.out,jD];show(txt r == An s)=_;by_cases h:txt r=An s <;> simp[h]
      have aX:Hid (∀ x,AD (An s)=some x->x=r):=qh fun x Z=>by
       have h1:=Iq Z;rw[R.out]at h1;exact(lZ h1).symm
      go_upto_region 20 with(fail)
      refine Ab (by kernel_rfl) (fun G=>wc.grownBy G (some w.heap.size)/\∃ cs:List Value,cs.length=4/\Arr G w.heap.size 99 cs)
       [he (.agg #[.bool P,.slice H O J,.bool false,.slice I N L]),
 he (.agg #[.bool P,.slice H O J,.bool false,.slice I N L]),
 hp (fun v G=>v = .string ⟨(txt r).toArray⟩),
 he (.string s),
 he (.bool (AD (An s)).isSome),
 hmp (fun _ G=>Arr G w.heap.size 99 (Al P H O J false I N L))]
       (by kernel_rfl) (fun _ _ e h=>⟨Hz h.1 e,h.2.choose,h.2.choose_spec.1,h.2.choose_spec.2.ext e⟩) ⟨Hz (C8 wc _) ((Ext.refl wc).drew),_,rfl,o.ext ((Ext.refl wc).drew)⟩ ⟨trivial,trivial,fun v w w' e h=>h,trivial,trivial,fun _ _ _ e h=>Arr.ext h e,trivial⟩ ⟨?o0,?o1,?o2,?o3,?o4,?o5,trivial⟩ ?fin
      case o3=>exact omv
      case o0 =>
       refine Aj rfl fun ρ G m am h => ?_;have e0:ρ (.tmp 10)=(.pointer (some ⟨w3.heap.size,0,none⟩)):=h.1;have ay:=m.1.cell l0 f.out;have az:=m.1.cell l1 f.out;have aA:=m.1.cell l2 f.out;have aB:=m.1.cell l3 f.out;go_simp
      case o1 =>
       refine Aj rfl fun ρ G m am h => ?_;have e0:ρ (.tmp 10)=(.pointer (some ⟨w3.heap.size,0,none⟩)):=h.1;have ay:=m.1.cell l0 f.out;have az:=m.1.cell l1 f.out;have aA:=m.1.cell l2 f.out;have aB:=m.1.cell l3 f.out;go_simp
      case o2 =>
       refine Ag rfl fun ρ G m am bn h => ?_;have e1:ρ (.tmp 78)=(.agg #[.bool P,.slice H O J,.bool false,.slice I N L]):=h.2.1;have ay:=m.1.cell l0 f.out;have az:=m.1.cell l1 f.out;have aA:=m.1.cell l2 f.out;have aB:=m.1.cell l3 f.out;refine⟨96,#[.agg #[.bool P,.slice H O J,.bool false,.slice I N L]],by go_simp,(bc.out G m.1).mono ?_⟩;rintro e w' ⟨rfl,b0⟩;exact⟨_,rfl,b0,rfl⟩
      case o4 =>
       refine Aj rfl fun ρ G m am h => ?_;obtain⟨v0,e0,rfl⟩:=h.1;have e1:ρ (.tmp 80)=(.string s):=h.2.1;have ay:=m.1.cell l0 f.out;have az:=m.1.cell l1 f.out;have aA:=m.1.cell l2 f.out;have aB:=m.1.cell l3 f.out;have h8:=aE.out;go_simp
       try exact aE.out
      case o5 =>
       exact Ni rfl rfl By (Aq _ _ _ _ _ _ _ _) (fun _ h=>h.2) (fun _ _ h hg hA=>⟨JI h.1 hg,_,rfl,hA⟩) (fun _ _=>L6 (j:=2) (by kernel_rfl) (fun _ h=>h)) (fun _ _ _ _ h=>⟨h.1,h.2.1⟩)
      case fin =>
       intro G m;rintro _ rfl;rintro _ C;change wpList _ _ _ _ _ _;simp only[lq,lw,lx,lz,Act.put,lj,lk,ly];have bg:=X.keptA o (by decide) m.1;have bj:=Y.keptA o (by decide) m.1;have b2:=b3.grownR m.1 (lrf _);go_wp2;refine gF (Ao rfl By rfl rfl C) rfl ⟨P,H,O,J,I,N,L,rfl,b2,fun x Z => ?_⟩;have bh:=aX.out x Z;subst bh;exact⟨S,bg,bj⟩
section
variable {P:Program} {w:World}
theorem SE 
 (y:P.underlying t=some (.slice e)) (d:BV P e zs k bytes) (f:AR w base e k a n c rows) (p:SlK w k A m cx news)
 (h1:∀ r∈news,∀ u∈r,u.oneCell'=true) (h63:n+m<=maxLen) (j:(n+m)*bytes<=140737488355328) (l:base<=w.heap.size) :
 ∃ s B z,(Builtin.append_ #[t,t] ty #[.slice a n c,.slice A m cx]).run P w = .ok (.slice s (n+m) B) z/\AR z base e k s (n+m) B (rows ++ news) /\
  w.grownBy z (blk a)/\(blk s=blk a\/blk s=some w.heap.size):=by
 cases A with
 | some ad=>exact FD y d f p h1 h63 j l
 | none =>
  obtain⟨i,C,I,x,F⟩:=d.parts;have G:m=0:=by
   rcases gX m with h0|h0
   · exact h0
   · obtain⟨b,o,h,_⟩:=p.rd h0;cases h
  subst G;have H:news=[]:=gQ p.len;subst H;refine⟨a,c,w,?_,by simpa using f,nl w _,.inl rfl⟩;rcases f.2.2 with⟨q,rfl⟩|⟨g,D,E,q,_,_,v,_⟩
  · simp only[gW]at q;obtain⟨rfl,_,rfl⟩:=q;simp[Builtin.append_,j4 y,sizeOf,typeInfo,C,Builtin.lenOf,Builtin.firstCells]
  · simp only[gW]at q;obtain⟨rfl,_,rfl⟩:=q;simp[Builtin.append_,j4 y,sizeOf,typeInfo,C,Builtin.lenOf,Builtin.firstCells,v,storeCells]
theorem OP{s x:Operand}(v:o.guard=none)
 (C:o.op = .call { callee := .builtin .append,args:=#[s,x],argTypes:=#[t,t] })
 {e:TypeId} {zs:List Value} {k bytes base:Nat} {a:Option Addr} {n c:Nat} {rows:List (List Value)} {A:Option Addr} {m z:Nat} {news:List (List Value)}
 (E:P.underlying t=some (.slice e)) (g:BV P e zs k bytes) (D:f.eval s = .slice a n c) (j:AR w base e k a n c rows) (F:f.eval x = .slice A m z) (y:SlK w k A m z news)
 (h1:∀ r∈news,∀ u∈r,u.oneCell'=true) (h63:n+m<=maxLen) (b:(n+m)*bytes<=140737488355328) (d:base<=w.heap.size)
 (h:∀ i q p,AR p base e k i (n+m) q (rows ++ news)->w.grownBy p (blk a)->(blk i=blk a\/blk i=some w.heap.size)->wpList P ops Q rest (f.put o.dst (.slice i (n+m) q)) p) :
 wpList P ops Q (o :: rest) f w:=by
 refine jf v fun _ B => ?_;obtain⟨i,q,p,l,h2,h3,h4⟩:=SE (P:=P) (ty:=o.type) E g j y h1 h63 b d;unfold Oper.wp execOp;simp only[C,resolve,invoke,builtin,ij,iF,gS,jH,ja,jE,D,F,l];exact B _ _ (h i q p h2 h3 h4)
end
theorem TO.app{l b:List Pl.Tm}(d:AR w base 103 5 a n c rows)(m:l.length=n)(p:∀ i,i<n->TC w b0 (rows.getD i []) (l.getD i tz))(g:b.length=n')(r:rows'.length=n')(e:∀ i,i<n'->TC w b0 (rows'.getD i []) (b.getD i tz))(j:b0<=base)(o:AR w' base 103 5 a' (n+n') c' (rows ++ rows'))(k:w.grownBy w' (blk a)):TO w' b0 base a' (n+n') c' (l ++ b):=by
 refine⟨_,o,by simp[m,g],fun i s => ?_⟩;have q:rows.length=n:=d.len (by omega);by_cases f:i<n
 · rw[gqq,gZ (by omega),<-gqq,gqq (l:=l ++ b),gZ (by omega),<-gqq];exact(p i f).grownO d j k
 · rw[gqq,iu (by omega),<-gqq,gqq (l:=l ++ b),iu (by omega),<-gqq,q,m];exact(e (i-n) (by omega)).grownO d j k
def Hc(w:World)(b0:Nat)(v:Value)(t:Pl.Tm):Prop:=∃ row,v = .agg row.toArray/\TC w b0 row t
theorem Hc.ext{w b:World}{b0:Nat}{v:Value}{t:Pl.Tm}(h:Hc w b0 v t)(e:Ext w b):Hc b b0 v t:=by
 obtain⟨a,h1,h2⟩:=h;exact⟨a,h1,h2.ext e⟩
theorem Hc.x(b0:Nat)(t:Pl.Tm):∀ (v:Value) (w a:World),Ext w a->Hc w b0 v t->Hc a b0 v t:=fun _ _ _ e h=>h.ext e
def KL(w:World)(b0:Nat)(v:Value)(t:Pl.Tm):Prop:=∃ g row,v = .slice (some ⟨g,0,none⟩) 1 1/\Arr w g 103 row/\TC w b0 row t
theorem KL.ext{w b:World}{b0:Nat}{v:Value}{t:Pl.Tm}(h:KL w b0 v t)(e:Ext w b):KL b b0 v t:=by
 obtain⟨g,a,h1,h2,h3⟩:=h;exact⟨g,a,h1,h2.ext e,h3.ext e⟩
theorem KL.x(b0:Nat)(t:Pl.Tm):∀ (v:Value) (w a:World),Ext w a->KL w b0 v t->KL a b0 v t:=fun _ _ _ e h=>h.ext e
theorem TC.five{t:Pl.Tm}(h:TC w b0 row t):row.length=5/\∀ v∈row,v.oneCell'=true:=by
 obtain⟨s,a,n,c,b,m,d,e,k,f,rfl,_⟩:=h;exact⟨rfl,FM⟩
section
variable {P:Program} {ops:Array Oper} {hs:List Hd} {a0:Act} {C:World->Prop} {i:Nat} {o:Oper}
theorem WD{x:Operand}(z:o.guard=none)(p:o.op = .build ty #[(0,x),(1,y)])
 (A:∀ {w:World} {r0 r1 r2 r3:Value} {e:Option Addr} {k f:Nat},(Instr.build ty #[(0,.agg #[r0,r1,r2,r3]),(1,.slice e k f)]).run P w = .ok (.agg #[r0,r1,r2,r3,.slice e k f]) w)
 (h:∀ g w,DE g->C w->Cq ops hs a0 o g w [x,y]->QV w (g x) q/\∃ e k f,g y = .slice e k f/\XI w b0 e k f xs) :
 obl P C ops hs a0 i o ⟨false,.pr (fun v B=>Hc B b0 v (xs,q)),cons⟩ :=
 AE z fun g w hp t r=>by
  rw[p]at r;obtain⟨⟨s,a,n,c,b,m,d,h1,h2,h3,h4⟩,e,k,f,h5,h6⟩:=h g w hp t r;refine⟨.agg (tL s a n c b m d e k f).toArray,w,?_,Ext.refl w,_,rfl,s,a,n,c,b,m,d,e,k,f,rfl,h2,h3,h4,h6⟩;have l:=A (w:=w) (r0 := .bool s) (r1 := .slice a n c) (r2 := .bool false) (r3 := .slice b m d) (e:=e) (k:=k) (f:=f);have j:g x = .agg #[.bool s,.slice a n c,.bool false,.slice b m d]:=h1;simp only[execOp,p,j,h5,ij,jH,ja,jE,l,gS,iF];rfl
theorem Ui{t:Pl.Tm}{x:Operand}(A:o.guard=none)(r:o.op = .buildSlice ty 1 #[(0,x)])
 (D:P.underlying ty=some (.slice 103)) (g:BV P 103 zs 5 bytes)
 (h:∀ j w,DE j->C w->Cq ops hs a0 o j w [x]->Hc w b0 (j x) t) :
 obl P C ops hs a0 i o ⟨false,.pr (fun v F=>KL F b0 v t),cons⟩ :=
 AE A fun j w hp z y=>by
  rw[r]at y;obtain⟨E,h1,q⟩:=h j w hp z y;have p:=q;obtain⟨s,a,n,c,b,m,d,e,k,f,rfl,h2⟩:=p;have B:=EK (P:=P) (w:=w) (r0 := .bool s) (r1 := .slice a n c) (r2 := .bool false) (r3 := .slice b m d) (r4 := .slice e k f) D g;have l:j x = .agg #[.bool s,.slice a n c,.bool false,.slice b m d,.slice e k f]:=h1;refine⟨_,_,?_,(Ext.refl w).alloc (.cells (tL s a n c b m d e k f).toArray 103),w.heap.size,_,rfl,Arr.new w 103 (tL s a n c b m d e k f),q.ext ((Ext.refl w).alloc _)⟩
  simp only[execOp,r,l,ij,jH,ja,jE,B,gS,iF];rfl
end
theorem GE{r0 r1 r2 r3:Value}{e:Option Addr}{f:Nat}:(Instr.build 103 #[(0,.agg #[r0,r1,r2,r3]),(1,.slice e k f)]).run prog w = .ok (.agg #[r0,r1,r2,r3,.slice e k f]) w:=by
 go_simp
theorem TB.app{a b:List Pl.Tm}(c:TB N a)(d:TB N b):TB N (a ++ b):=fun t e=>(iw.1 e).elim (c t) (d t)
theorem OQ{l:List Pl.Tm}(d:rows.length=n)(b:∀ i,i<n->TC w b0 (rows.getD i []) (l.getD i tz)):∀ r∈rows,∀ u∈r,u.oneCell'=true:=fun r a=>by
 obtain⟨i,c,rfl⟩:=kP a;have h:=(b i (by omega)).five.2
 rwa[gqq,gD c]at h
def AC(l:List Pl.Tm):List Pl.Tm:=l.map (fun t=>(AY t.1,t.2))
def rdU(t:Tx):Pl.Tm:=(t.2,(AD t.1).getD 0)
theorem Qf{t:Tx}{m:Pl.Tm}(h:AS vars t=some m):m=(AY (rdU t).1,(rdU t).2):=by
 obtain⟨h1,_,_,_,h2⟩:=Bm h;unfold rdU;rw[h1];exact Prod.ext h2 rfl
theorem Rv{ts:List Tx}{l:List Pl.Tm}(h:rdP vars ts=some l):l=AC (ts.map rdU)/\Pl.Canon vars.toNat (ts.map rdU):=by
 obtain⟨n,h1,h2,h3,h4⟩:=AW h;have b:∀ t∈ts,∃ m,AS vars t=some m:=by
  intro t b;obtain⟨i,c,rfl⟩:=jX.1 b;have:=h3.1 i c;rw[gqq,gD c,gP]at this;exact iY.1 this
 refine⟨?_,?_,?_,?_⟩
 · rw[h4];unfold AC;rw[jO];refine kh fun t h5 => ?_;obtain⟨m,a⟩:=b t h5;rw[a];exact Qf a
 · intro t h5;obtain⟨s,h6,rfl⟩:=ie.1 h5;obtain⟨m,a⟩:=b s h6;have:=(Bm a).2.2.1;show s.2.length=_;omega
 · intro t h5;obtain⟨s,h6,rfl⟩:=ie.1 h5;obtain⟨m,a⟩:=b s h6;obtain⟨d,f,_⟩:=Bm a;show(AD s.1).getD 0≠0;rw[d];exact f
 · refine ma.2 (mj.2 fun i j c k g => ?_);have:=In h3.2 (j-i-1) i (by omega);have e:i+(j-i-1)+1=j:=by omega
   rw[e,gqq,gqq,gD c,gD k,gP,gP]at this;exact this
theorem Uj(h:Own w b e a n c cs)(i:AR w b' e' k a' n' c' rows)(m:e≠e'):blk a=none\/blk a≠blk a':=by
 cases j:blk a with
 | none=>exact .inl rfl
 | some g =>
  refine .inr fun l => ?_;obtain⟨cs,o,h1⟩:=Own.ty h g j;obtain⟨d,f,h2⟩:=i.ty l.symm;rw[h1]at h2;simp only[gK,kz]at h2;exact m h2.2.1
theorem VU(h:Own w b e a n c cs)(d:Arr w g t ds)(j:e≠t):blk a=none\/blk a≠some g:=by
 cases i:blk a with
 | none=>exact .inl rfl
 | some q =>
  refine .inr fun f => ?_;obtain⟨cs,k,h1⟩:=Own.ty h q i;injection f with f;subst f;unfold Arr at d;rw[h1]at d;simp only[gK,kz]at d;exact j d.2.1
theorem TmO.grow{l:List Tx}{t:Tx}(f:AR w base 26 2 a n c rows)(g:l.length=n)(o:∀ i,i<n->I5 w base (rows.getD i []) (l.getD i tm0))(r:I5 w base row t)(m:AR w' base 26 2 a' (n+1) c' (rows ++ [row]))(p:w.grownBy w' (blk a)):TmO w' base a' (n+1) c' (l ++ [t]):=by
 have d:∀ {row:List Value} {t:Tx},I5 w base row t->I5 w' base row t:=fun {row t} h=>by
  obtain⟨s,j,v,k,h1,h2,h3⟩:=h;exact⟨s,j,v,k,h1,h2,h3.kept p (Uj h3 f (by decide))⟩
 refine⟨_,m,by simp[g],fun i x => ?_⟩;have q:rows.length=n:=f.len (by omega);by_cases e:i<n
 · have h1:(rows ++ [row]).getD i []=rows.getD i []:=by rw[gqq,gZ (by omega),<-gqq]
   have h2:(l ++ [t]).getD i tm0=l.getD i tm0:=by rw[gqq,gZ (by omega),<-gqq]
   rw[h1,h2];exact d (o i e)
 · have b:i=n:=by omega
   have h1:(rows ++ [row]).getD i []=row:=by rw[gqq,iu (by omega),q,b,ju];rfl
   have h2:(l ++ [t]).getD i tm0=t:=by rw[gqq,iu (by omega),g,b,ju];rfl
   rw[h1,h2];exact d r
theorem TmO.keptU{l:List Tx}(h:TmO w base a n c l)(f:Arr w g t cs)(h1:26≠t)(h2:3≠t)(j:w.grownBy w' (some g)):TmO w' base a n c l:=by
 obtain⟨b,k,x,y⟩:=h;refine⟨b,k.kept j ?_,x,fun i v => ?_⟩
 · cases d:blk a with
   | none=>exact .inl rfl
   | some q=>exact .inr fun he=>k.ne f h1 (by rw[d,he])
 · obtain⟨s,m,z,o,p,r,e⟩:=y i v;exact⟨s,m,z,o,p,r,e.kept j (VU e f h2)⟩
theorem Nj(l:SlI w a n c xs) :
 Calls prog 152 #[.slice a n c] w fun e D=>e = .returned (.int .i64 (Ds xs))/\w=D:=by
 have g:=gE l.len;have x:=l.le;by_cases h6:6<(n:Int)
 · have d:Hid (Ds xs = -1):=by
    show Ds xs = -1;unfold Ds;rw[gY (by rw[g.out];omega)]
   go_enter func152,ntmps152
   go_wp2;go_ret;exact⟨DF d.out,rfl⟩
 · have d:Hid (Ds xs=C5 0 xs):=by
    show Ds xs=_;unfold Ds;rw[gT (by rw[g.out];omega)]
   go_enter func152,ntmps152
   go_wp2
   go_loop[3,4] (fun v i=>∃ (s:Int) (k:Nat),v = .int .i64 s/\i = .int .i64 k/\k<=n/\0<=s/\s<=24/\Hid (C5 0 xs=C5 s (xs.drop k))) (fun _ i=>n-(intOf i).toNat)
   case atStart=>exact⟨0,0,rfl,rfl,gO _,by omega,by omega,gE rfl⟩
   case round =>
    obtain⟨s,k,rfl,rfl,G,z,A,j⟩:=hrel;by_cases b:k<n
    · obtain⟨E,I,rfl,p⟩:=l.at b;have F:=p k b;have f:k<xs.length:=by rw[g.out];exact b
      have o:=gE (QY f j.out);have r:=gE (Ob f j.out);generalize xs.getD k 0=y at *
      clear p;by_cases C:y<0
      · go_wp2;go_ret;exact⟨DF (by rw[d.out,o.out (Or.inl C)]),rfl⟩
      · have H:IntKind.i64.wrap (24-s)=24-s:=gI _ (by omega);by_cases m:24-s<y
        · go_wp2;go_ret;exact⟨DF (by rw[d.out,o.out (Or.inr m)]),rfl⟩
        · have B:IntKind.i64.wrap (s+y)=s+y:=gI _ (by omega);go_wp2;go_round
          case rel=>exact⟨s+y,k+1,by go_num,by go_num,by omega,by omega,by omega,gE (r.out (by omega))⟩
          case measure=>simp[intOf];omega
    · have t:xs.drop k=[]:=iX (by have:=g.out;omega);have q:Hid (Ds xs=s):=by
       show Ds xs=s;rw[d.out,j.out,t];rfl
      go_wp2;go_ret;exact⟨DF q.out,rfl⟩
theorem IT(b:SlI w a n c xs) :
 Calls prog 72 #[.slice a n c] w fun e g=>e = .returned (.bool (A3 xs))/\w=g:=by
 have f:=gE b.len;by_cases h6:(n:Int)<=6
 · go_enter func72,ntmps72
   go_wp2_with fail
   refine(Nj b).mono ?_;rintro e i ⟨rfl,rfl⟩;go_wp2;go_ret;exact⟨rfl,rfl⟩
 · have d:Hid (A3 xs=false):=by
    show A3 xs=false;unfold A3 Ds;rw[gY (by rw[f.out];omega)];rfl
   go_enter func72,ntmps72
   go_wp2;go_ret;exact⟨YJ d.out,rfl⟩
theorem Xw(h:SlI w a n c xs):XI w w.heap.size a n c xs:=by
 refine⟨h,fun h0 g e => .inl ?_⟩;obtain⟨b,o,rfl,d⟩:=Sl.rd h h0;have h1:b<w.heap.size:=jq w _ (d 0 h0);have h2:b=g:=by simpa[blk]using e
 omega
theorem Uk{ts:List Tx}(a:k<ts.length):(ts.take k).map rdU ++ [rdU (ts.getD k tm0)]=(ts.take (k+1)).map rdU:=by
 rw[gM a,iJ,gqq,gD a];rfl
end Go.Proofs.YtlbmnokpiilfpaaGreatDoor
