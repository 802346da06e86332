/- Part Pa9. -/
import Derived.Test.YthdbingomfdeoaaGreatDoorPa8
import Derived.Deep.CutBlock
import Derived.Test.YthdbingomfdeoaaGreatDoorProg
import Derived.Deep.QuietTactic
import Derived.BigQuiet
set_option linter.all false
set_option maxRecDepth 100000
set_option maxHeartbeats 100000000
namespace Go.Proofs.YthdbingomfdeoaaGreatDoor
open Tryz Go Go.RowKit
def fR:=@List.getElem_of_mem
def gH:=@List.pairwise_iff_getElem
def iZ:=@List.pairwise_map
def io:=@List.nodup_append
def ip:=@List.getElem?_set
def j6:=@List.ext_getElem
def jx:=@Array.getElem?_setIfInBounds_self_of_lt
def k7:=@ByteArray.size_append
def lH:=@Rat.natCast_mul
def lI:=@Rat.intCast_mul
def lP:=@Rat.natCast_eq_zero_iff
def lQ:=@Rat.mul_assoc
def lW:=@List.mem_iff_getElem?
variable {a0 f:Act} {ops:Array Oper} {neg:Bool} {s:ByteArray} {Q:Exit->Act->World->Prop} {z:Int} {news rows rows':List (List Value)} {xs:List Int} {rest:List Oper} {l:List UInt8} {row vs zs:List Value} {K N R b0 base bytes c cx i k m n:Nat} {o:Oper} {y:Operand} {A a a' e:Option Addr} {cons:Option Nat} {P:Program} {q r:Rat} {t ty:TypeId} {v:Value} {w w':World}
theorem Ii(a b:ByteArray):Ad (a ++ b)=Ad a ++ Ad b:=by
 unfold Ad;rw[ByteArray.data_append];exact Array.toList_append
theorem EN(q:Rat):txt q=(if q.num<0 then [45]else []) ++ Lib.decDigits q.num.natAbs ++ (if q.den=1 then []else 47 :: Lib.decDigits q.den):=by unfold txt;rw[LC]
theorem Qr(h:QV w v q)(y:Pl.RB 1000000 q):Calls prog 124 #[v] w fun e Y=>e = .returned (.string ⟨(txt q).toArray⟩)/\Ext w Y:=by
 obtain⟨s,a,n,c,b,m,d,rfl,r,J,E⟩:=h;have o:=qh (fun(U:World) (K:Ext w U)=>Ih (v := .agg (Aj s a n c).toArray) ⟨s,a,n,c,rfl,r,J.ext K⟩ (AO y.1 (by omega)));have D:=Lx y.1;obtain⟨p,j⟩:∃ p:ByteArray,(⟨(Lib.decDigits q.num.natAbs).toArray⟩:ByteArray)=p:=⟨_,rfl⟩;have W:p.size<=400000:=by rw[<-j,<-Al,BS];omega
 rw[j]at o;have j:=qh j;clear D;by_cases h1:q.den=1
 · have N:m=0:=E.zero.2 (BQ h1);subst N;cases s with
   | true =>
    have A:Hid ((⟨(txt q).toArray⟩:ByteArray)=⟨#[45]⟩ ++ p):=by
     show _=_;refine De ?_;have C:q.num<0:=by simpa using r.out
     simp only[BS,Ii,EN,C,h1,j0,gR];rw[<-j.out];rfl
    clear r J E y h1;have L:(⟨#[45]⟩ ++ p:ByteArray).size=1+p.size:=by rw[k7];rfl
    go_enter func124,ntmps124
    go_upto_region 1 with(fail)
    refine AK ?_;intro S i g k;have F:=g.c 0 rfl;have G:=g.c 1 rfl;have H:=g.c 2 rfl;have I:=g.c 3 rfl;clear k
    go_wp2_with fail
    refine(o.out _ i).mono ?_;rintro e T ⟨rfl,f⟩;have O:=f.cell F;have P:=f.cell G;have Q:=f.cell H;have R:=f.cell I;go_wp2;go_ret;exact⟨by rw[A.out];rfl,(i.trans f)⟩
   | false =>
    have A:Hid ((⟨(txt q).toArray⟩:ByteArray)=p):=by
     show _=_;refine De ?_;have C:¬ q.num<0:=by simpa using r.out
     simp only[BS,EN,C,h1,j0,ja,gR,iI];rw[<-j.out];rfl
    clear r J E y h1
    go_enter func124,ntmps124
    go_upto_region 1 with(fail)
    refine AK ?_;intro S i g k;have F:=g.c 0 rfl;have G:=g.c 1 rfl;have H:=g.c 2 rfl;have I:=g.c 3 rfl;clear k
    go_wp2_with fail
    refine(o.out _ i).mono ?_;rintro e T ⟨rfl,f⟩;have O:=f.cell F;have P:=f.cell G;have Q:=f.cell H;have R:=f.cell I;go_wp2;go_ret;exact⟨by rw[A.out];rfl,(i.trans f)⟩
 · have t:=qh (fun(U:World) (K:Ext w U)=>Ih (v := .agg (Aj false b m d).toArray) (z:=(q.den:Int)) ⟨false,b,m,d,rfl,qh (fw (by omega)),by rw[fJ];have:=E.ext K;rw[Bt h1]at this;exact this⟩ (AO (b:=3200000) y.2 (by omega)));rw[fJ]at t;have X:(0:Int)<m:=by
    have h2:m≠0:=fun h0=>by
     have h3:=E.zero.1 h0;rw[Bt h1]at h3;exact q.den_nz h3
    omega
   have D:=Lx y.2;obtain⟨x,l⟩:∃ x:ByteArray,(⟨(Lib.decDigits q.den).toArray⟩:ByteArray)=x:=⟨_,rfl⟩;have V:x.size<=400000:=by rw[<-l,<-Al,BS];omega
   rw[l]at t;have l:=qh l;clear D;cases s with
   | true =>
    have A:Hid ((⟨(txt q).toArray⟩:ByteArray)=(⟨#[45]⟩ ++ p) ++ (⟨#[47]⟩ ++ x)):=by
     show _=_;refine De ?_;have C:q.num<0:=by simpa using r.out
     simp only[BS,Ii,EN,C,h1,j0,ja];rw[<-j.out,<-l.out];rfl
    clear r J E y h1;have L:(⟨#[45]⟩ ++ p:ByteArray).size=1+p.size:=by rw[k7];rfl
    have M:(⟨#[47]⟩ ++ x:ByteArray).size=1+x.size:=by rw[k7];rfl
    go_enter func124,ntmps124
    go_upto_region 1 with(fail)
    refine AK ?_;intro S i g k;have F:=g.c 0 rfl;have G:=g.c 1 rfl;have H:=g.c 2 rfl;have I:=g.c 3 rfl;clear k
    go_wp2_with fail
    refine(o.out _ i).mono ?_;rintro e T ⟨rfl,f⟩;have O:=f.cell F;have P:=f.cell G;have Q:=f.cell H;have R:=f.cell I
    go_wp2_with fail
    refine(t.out _ (i.trans f)).mono ?_;rintro e Z ⟨rfl,B⟩;go_wp2;go_ret;exact⟨by rw[A.out];rfl,((i.trans f).trans B)⟩
   | false =>
    have A:Hid ((⟨(txt q).toArray⟩:ByteArray)=p ++ (⟨#[47]⟩ ++ x)):=by
     show _=_;refine De ?_;have C:¬ q.num<0:=by simpa using r.out
     simp only[BS,Ii,EN,C,h1,ja,iI];rw[<-j.out,<-l.out];rfl
    clear r J E y h1;have M:(⟨#[47]⟩ ++ x:ByteArray).size=1+x.size:=by rw[k7];rfl
    go_enter func124,ntmps124
    go_upto_region 1 with(fail)
    refine AK ?_;intro S i g k;have F:=g.c 0 rfl;have G:=g.c 1 rfl;have H:=g.c 2 rfl;have I:=g.c 3 rfl;clear k
    go_wp2_with fail
    refine(o.out _ i).mono ?_;rintro e T ⟨rfl,f⟩;have O:=f.cell F;have P:=f.cell G;have Q:=f.cell H;have R:=f.cell I
    go_wp2_with fail
    refine(t.out _ (i.trans f)).mono ?_;rintro e Z ⟨rfl,B⟩;go_wp2;go_ret;exact⟨by rw[A.out];rfl,((i.trans f).trans B)⟩
def UN(w:World)(o:Option Rat)(e:Ending)(w':World):Prop:=∃ s a n c b m d,e = .returned (.tuple #[.agg (Ar s a n c false b m d).toArray,.bool o.isSome])/\Ext w w'/\∀ q,o=some q->Hid (decide (q.num<0)=s)/\Mg w' a n c q.num.natAbs/\Mg w' b m d (BP q).natAbs
theorem TR:∀ {K:Nat},(∀ j,j<K->l.getD j 0≠47)->(K=l.length\/K<l.length/\l.getD K 0=47)->l.takeWhile (· != 47)=l.take K/\l.dropWhile (· != 47)=l.drop K:=by
 induction l with
 | nil=>intro K _ h;simp
 | cons x r ih =>
  intro K h a;cases K with
  | zero =>
   rcases a with h0|⟨_,h0⟩
   · simp at h0
   · have:x=47:=by simpa using h0
     subst this;simp
  | succ K =>
   have b:x≠47:=by simpa using h 0 (by omega)
   have:=ih (K:=K) (fun j c=>by have:=h (j+1) (by omega);simpa using this) (by
    rcases a with h0|⟨h0,h1⟩
    · left;simpa using h0
    · right;exact⟨by simpa using h0,by simpa using h1⟩)
   simp[b,this]
theorem N8{x:Nat}(h:Eh l=some x)(b:l.length<=k):x<P2 (4*k):=by
 unfold Eh at h;split at h
 · rename_i a;simp only[gJ,il]at a;injection h with h;rw[<-h];exact KO (fun c d=>Dz.1 (a.2 c d)) b
 · cases h
def So(neg:Bool)(n:Nat):Int:=if neg=true then -(n:Int)else n
theorem Qs{t:List UInt8}(c:decide (l.head?=some 45)=neg)(e:(if neg=true then l.tail else l)=t)(h:∀ j,j<K->t.getD j 0≠47)(a:K=t.length\/K<t.length/\t.getD K 0=47) :
 LH l=match Eh (t.take K)with
  | none=>none
  | some n=>if K=t.length then some (mkRat (So neg n) 1)
   else match Eh (t.drop (K+1))with
    | none=>none
    | some d=>if d=0 then none else some (mkRat (So neg n) d):=by
 have b:=TR h a;unfold LH;simp only[c,e,b.1,b.2];cases Eh (t.take K)with
 | none=>rfl
 | some n =>
  have h1:(t.drop K=[])<->K=t.length:=by
   rw[List.drop_eq_nil_iff];rcases a with h2|h2 <;> omega
  have h2:(t.drop K).tail=t.drop (K+1):=by rw[List.tail_drop]
  simp only[h1,h2];rfl
theorem Ej(s:ByteArray)(i j:Nat):(s.extract i j).size<=s.size:=by
 rw[<-Al,<-Al s,AH,go,iC];omega
theorem MU:decide ((Ad s).head?=some 45)=true<->∃ h:0<s.size,s[0]=45:=by
 rw[decide_eq_true_iff];have a:=Al s;cases b:Ad s with
 | nil =>
  rw[b]at a;simp at a;simp;intro h;omega
 | cons c r =>
  have h0:0<s.size:=by rw[<-a,b];simp
  have h1:=Ea h0;rw[b]at h1;have h2:c=s[0]:=by simpa using h1
  constructor
  · intro h;exact⟨h0,by rw[<-h2];simpa using h⟩
  · rintro⟨_,h⟩;have h3:c=45:=by rw[h2];exact h
    rw[h3];rfl
theorem Pe(h:mkRat z 1=r):r.num=z/\r.den=1:=by
 rw[Rat.mkRat_one]at h;subst h;exact⟨rfl,rfl⟩
theorem KP{d:List Hd}{C:World->Prop}{x:Operand}(s:o.guard=none)(l:o.op = .store ty x y)(r:Agg P ty vs.length)(h1:∀ v∈vs,v.oneCell'=true)
 (q:∀ w,C w->∃ cs,cs.length=vs.length/\Arr w R t cs) (f:∀ w e,C w->w.grownBy e (some R)->Arr e R t vs->C e) (z:∀ w e,Hb ops d i o w e (List.range d.length))
 (h:∀ a w,Dd a->C w->Cf ops d a0 o a w [x,y]->a x = .pointer (some ⟨R,0,none⟩)/\a y = .agg vs.toArray):obl P C ops d a0 i o (hmp (fun _ A=>Arr A R t vs)):=by
 unfold obl Bg;rw[s];intro a w hp b m;have k:Cf ops d a0 o a w [x,y]:=by rw[l]at m;exact m
 obtain⟨n,p⟩:=h a w hp b k;obtain⟨cs,h3,h4⟩:=q w b;have c:(execOp a o).run P w = .ok .skip (w.setRow R vs.toArray):=by
  have:=F6 (P:=P) (w:=w) (ty:=ty) (g:=R) (cs:=cs) (vs:=vs) r h4 h3 h1;simp only[execOp,l,n,p,fq,this,eX,fO]
 rw[c];have j:=Ce w R vs.toArray;exact⟨f w _ b j (CZ h4 _),z _ _,CZ h4 _⟩
theorem Qu(hs:s.size<=10000):Calls prog 77 #[.string s] w (UN w (AZ (Ad s))):=by
 have aS:=Al s
 go_enter func77,ntmps77
 go_upto_region 1 with(fail)
 refine AK ?_;intro w0 b1 aD bk;have hR:Arr w0 w.heap.size 109 (Ar false none 0 0 false none 0 0):=aD;clear bk aD
 go_upto_region 2 with(fail)
 go_cut [5] from 14 to 81 (fun nv H=>∃ nb:Bool,nv = .bool nb/\Hid (decide ((Ad s).head?=some 45)=nb)/\H=w0)
 case first =>
  cases F:decide ((Ad s).head?=some 45)with
  | true =>
   obtain⟨h0,h45⟩:=MU.1 F;have am:(0:Int)<s.size:=by omega
   have hb:(((s[0].toNat:Nat):Int) == 45)=true:=by rw[h45];rfl
   have B:=qh F;clear F h45
   go_wp2_with fail
   go_meet
   exact⟨true,rfl,B,rfl⟩
  | false =>
   have B:=qh F;by_cases h0:0<s.size
   · have am:(0:Int)<s.size:=by omega
     have hb:(((s[0].toNat:Nat):Int) == 45)=false:=by
      have h45:s[0]≠45:=fun h=>by
       have:=MU.2 ⟨h0,h⟩;rw[F]at this;cases this
      have:s[0].toNat≠45:=fun h=>h45 (lG.1 h);simpa using(show ¬ ((s[0].toNat:Nat):Int)=45 by omega)
     clear F
     go_wp2_with fail
     go_meet
     exact⟨false,rfl,B,rfl⟩
   · have am:¬ (0:Int)<s.size:=by omega
     clear F
     go_wp2_with fail
     go_meet
     exact⟨false,rfl,B,rfl⟩
 case rest =>
  obtain⟨nb,rfl,B,rfl⟩:=hcut
  go_upto_if 22 with(fail)
  go_cut [4] from 23 to 81 (fun tv wy=>∃ t:ByteArray,tv = .string t/\t.size<=10000/\Hid ((if nb=true then(Ad s).tail else Ad s)=Ad t)/\wy=wc)
  case first =>
   cases nb with
   | true =>
    have h0:=(MU.1 B.out).1;have am:(0:Int)<s.size:=by omega
    have bl:(1:Int)<=s.size:=by omega
    go_wp2_with fail
    go_meet
    refine⟨s.extract 1 s.size,rfl,eW (Ej _ _ _) hs,?_,rfl⟩;show _=_
    first | rw[fE rfl] | rw[fE trivial]
    rw[AH,eR (by rw[iC,Al];exact lrf _),List.drop_one]
   | false =>
    go_wp2_with fail
    go_meet
    exact⟨s,rfl,hs,qh rfl,rfl⟩
  case rest =>
   obtain⟨t,rfl,bq,aY,rfl⟩:=hcut;have bb:=Al t
   go_upto_block 0 with(fail)
   go_cut [6,7] from 27 to 81 (fun av _ wy=>∃ K:Nat,av = .int .i64 K/\K<=t.size/\Hid (∀ j,j<K->(Ad t).getD j 0≠47)/\Hid (K=(Ad t).length\/K<(Ad t).length/\(Ad t).getD K 0=47)/\wy=wc)
   case first =>
    go_wp2_with fail
    go_loopw[6,7] (fun av iv wr=>∃ k:Nat,av = .int .i64 t.size/\iv = .int .i64 k/\k<=t.size/\wr=wc/\Hid (∀ j,j<k->(Ad t).getD j 0≠47)) (fun _ iv _=>t.size-(intOf iv).toNat)
    case atStart=>exact⟨0,rfl,rfl,f8 _,rfl,qh (fun j h=>by omega)⟩
    case round =>
     obtain⟨k,rfl,rfl,hk,rfl,HK⟩:=hrel;by_cases aI:k<t.size
     · have aT:(k:Int)<t.size:=by omega
       by_cases h47:t[k]=47
       · have hb:(((t[k].toNat:Nat):Int) == 47)=true:=by rw[h47];rfl
         have I:=qh (Or.inr (a:=k=(Ad t).length) (And.intro (show k<(Ad t).length by omega) (show(Ad t).getD k 0=47 by rw[Ea aI];exact h47)));clear h47
         go_wp2_with fail
         go_meet
         exact⟨k,rfl,hk,HK,I,by first | rfl | trivial⟩
       · have hb:(((t[k].toNat:Nat):Int) == 47)=false:=by
          have:t[k].toNat≠47:=fun h=>h47 (lG.1 h);simpa using(show ¬ ((t[k].toNat:Nat):Int)=47 by omega)
         have HN:Hid (∀ j,j<k+1->(Ad t).getD j 0≠47):=qh (fun j hj=>by
          by_cases b5:j<k
          · exact HK.out j b5
          · have:j=k:=by omega
            subst this
            rw[Ea aI];exact h47)
         clear h47;go_wp2;go_roundw
         case rel=>exact⟨k+1,rfl,by go_num,by omega,by first | rfl | trivial,HN⟩
         case measure=>simp[intOf];omega
     · have aT:¬ (k:Int)<t.size:=by omega
       have I:=qh (Or.inl (b:=k<(Ad t).length/\(Ad t).getD k 0=47) (show k=(Ad t).length by omega));have E:k=t.size:=by omega
       have aU:=qh E;clear E
       go_wp2_with fail
       go_meet
       exact⟨k,by rw[aU.out],hk,HK,I,by first | rfl | trivial⟩
   case rest =>
    obtain⟨K,rfl,hK,HK,I,aL⟩:=hcut;have bd:=aL;subst aL;generalize be:wc=wr at *
    clear be bd;have a2:=hR;have ae:=b1;clear bb aS;have a7:=qh (Qs B.out aY.out HK.out I.out);have T:=qh (Ei (s:=t.extract 0 K) (w:=wr) (eW (Ej _ _ _) (by omega)));have aC:Hid (Ad (t.extract 0 K)=(Ad t).take K):=by show _=_;rw[AH];simp
    have aV:Hid ((Ad (t.extract 0 K)).length<=10000):=by show _<=_;rw[Al];exact eW (Ej _ _ _) (by omega)
    clear I HK
    go_wp2_with fail
    refine T.out.mono ?_;rintro e w1 ⟨s1,a1,n1,c1,rfl,ac,au⟩;have hY:=Arr.new w1 107 (Aj false none 0 0);cases ho:Eh (Ad (t.extract 0 K))with
    | none =>
     have y:Hid (AZ (Ad s)=none):=qh (Gw (by rw[a7.out,<-aC.out,ho]));clear T au a7
     go_upto_region 12 with(refine Aa (vs:=Aj s1 a1 n1 c1) rfl rfl rfl rfl rfl Az hY rfl (Ai _ _ _ _) ?_;intro w2 aa af)
     have S:Ext w1 w2:=((Ext.refl w1).alloc _).grownR af (lrf _);have m:=a2.ext (ac.trans S)
     go_wp2_with(refine Aa (vs:=Ar false none 0 0 false none 0 0) rfl rfl rfl rfl rfl A5 m rfl (Ao _ _ _ _ _ _ _ _) ?_;intro w9 C a4)
     refine eZ (Ap rfl A5 rfl rfl C) rfl ⟨false,none,0,0,none,0,0,by rw[y.out];rfl,(ae.trans (ac.trans S)).grownR a4 (lrf _),fun x Z=>by rw[y.out]at Z;cases Z⟩
    | some x =>
     obtain⟨rfl,b7⟩:=au x ho;have aw:=N8 ho aV.out;obtain⟨z,hz⟩:∃ z:Int,So nb x=z:=⟨_,rfl⟩;have a6:z.natAbs<P2 40000:=by rw[show z.natAbs=x by rw[<-hz];unfold So;split <;> omega];exact aw
     have f:=a7.out;rw[<-aC.out,ho]at f;simp only at f;rw[hz]at f;have f:=qh f;clear T au a7
     go_upto_region 12 with(refine Aa (vs:=Aj false a1 n1 c1) rfl rfl rfl rfl rfl Az hY rfl (Ai _ _ _ _) ?_;intro w2 aa af)
     have S:Ext w1 w2:=((Ext.refl w1).alloc _).grownR af (lrf _);have q0:=aa.c 0 rfl;have q1:=aa.c 1 rfl;have aJ:=qh (Ba (neg:=nb) (b7.ext S) (z:=z) hz.symm);have ak:=ac.trans S;clear aa af hY ac S hz
     go_wp2_with fail
     refine aJ.out.mono ?_;rintro e w3 ⟨s3,a3,n3,c3,rfl,an,aB,aM⟩;have bp:(Aj s3 a3 n3 c3).toArray=#[.bool s3,.slice a3 n3 c3]:=rfl;have aG:=Arr.new w3 109 (Ar false none 0 0 false none 0 0)
     go_upto_region 15 with(refine Aa (vs:=Ar s3 a3 n3 c3 false none 0 0) rfl rfl rfl rfl rfl A5 aG rfl (Ao _ _ _ _ _ _ _ _) ?_;intro w4 Q aH)
     have aE:Ext w3 w4:=((Ext.refl w3).alloc _).grownR aH (lrf _);have G:=(ak.trans an).trans aE;have ax:=(ak.trans an).size;have aN:=aM.ext aE;have k0:=Q.c 0 rfl;have k1:=Q.c 1 rfl;have k2:=Q.c 2 rfl;have k3:=Q.c 3 rfl;clear aJ q0 q1 an aH aG aM ak
     go_upto_if 56 with(fail)
     go_cut [11,12] from 56 to 76 (fun _ _ wy=>∃ (r:Rat) (Y:Bool) (M:Option Addr) (X O:Nat) (N:Option Addr) (W P:Nat),Ext wr wy/\Hid (LH (Ad s)=some r)/\Hid (Pl.RB 1000000 r)/\Arr wy w3.heap.size 109 (Ar Y M X O false N W P)/\Hid (decide (r.num<0)=Y)/\Mg wy M X O r.num.natAbs/\Mg wy N W P (BP r).natAbs)
     case first =>
      by_cases E:K=t.size
      · have b6:¬ (K:Int)<t.size:=by omega
        have g:=f.out;rw[fE (by rw[Al];exact E)]at g;obtain⟨r,hr⟩:∃ r,mkRat z 1=r:=⟨_,rfl⟩;rw[hr]at g;obtain⟨ai,ar⟩:=Pe hr;have J:=qh g;have L:Hid (decide (r.num<0)=s3):=by rw[ai];exact aB
        have U:Mg w4 a3 n3 c3 r.num.natAbs:=by rw[ai];exact aN
        have V:Mg w4 none 0 0 (BP r).natAbs:=by rw[BQ ar];exact Mg.nil w4
        have a0:Hid (Pl.RB 1000000 r):=qh ⟨by rw[ai];exact AO a6 (by omega),by rw[ar];exact AO (a:=1) (by decide) (by omega)⟩;clear hr g f a6 aw E ai ar
        go_wp2_with fail
        go_meet
        exact⟨r,s3,a3,n3,c3,none,0,0,G,J,a0,Q,L,U,V⟩
      · have b6:(K:Int)<t.size:=by omega
        have f:=f.out;rw[fl (by rw[Al];exact E)]at f;have T:=qh (Ei (s:=t.extract (K+1) t.size) (w:=w4) (eW (Ej _ _ _) (by omega)));have aZ:Hid (Ad (t.extract (K+1) t.size)=(Ad t).drop (K+1)):=by show _=_;rw[AH,eR];rw[iC,Al];exact lrf _
        have aW:Hid ((Ad (t.extract (K+1) t.size)).length<=10000):=by show _<=_;rw[Al];exact eW (Ej _ _ _) (by omega)
        rw[<-aZ.out]at f;have f:=qh f;have bo:IntKind.i64.wrap ((K:Int)+1)=((K+1:Nat):Int):=by rw[eT _ (by omega)];rfl
        clear E
        go_wp2_with fail
        refine T.out.mono ?_;rintro e w5 ⟨s5,a5,n5,c5,rfl,D,aK⟩;have ao:=Arr.new w5 107 (Aj false none 0 0);have l:=Q.ext D;cases ah:Eh (Ad (t.extract (K+1) t.size))with
        | none =>
         have y:Hid (AZ (Ad s)=none):=qh (Gw (by rw[f.out,ah]))
         go_upto_region 17 with(refine Aa (vs:=Aj s5 a5 n5 c5) rfl rfl rfl rfl rfl Az ao rfl (Ai _ _ _ _) ?_;intro w6 ab ag)
         have A:Ext w5 w6:=((Ext.refl w5).alloc _).grownR ag (lrf _);have m:=a2.ext ((G.trans D).trans A)
         go_wp2_with(refine Aa (vs:=Ar false none 0 0 false none 0 0) rfl rfl rfl rfl rfl A5 m rfl (Ao _ _ _ _ _ _ _ _) ?_;intro w9 C a4)
         refine eZ (Ap rfl A5 rfl rfl C) rfl ⟨false,none,0,0,none,0,0,by rw[y.out];rfl,(ae.trans ((G.trans D).trans A)).grownR a4 (lrf _),fun x Z=>by rw[y.out]at Z;cases Z⟩
        | some d =>
         obtain⟨rfl,b9⟩:=aK d ah;have ap:=N8 ah aW.out;have g:=f.out;rw[ah]at g;simp only at g;clear f T aK
         go_upto_region 17 with(refine Aa (vs:=Aj false a5 n5 c5) rfl rfl rfl rfl rfl Az ao rfl (Ai _ _ _ _) ?_;intro w6 ab ag)
         have A:Ext w5 w6:=((Ext.refl w5).alloc _).grownR ag (lrf _);have l:=l.ext A;have al:=(G.trans D).trans A;have ba:=b9.ext A;have u0:=ab.c 0 rfl;have u1:=ab.c 1 rfl;have a9:Hid (ZR w6 (.agg #[.bool false,.slice a5 n5 c5]) (d:Int)):=qh ⟨false,a5,n5,c5,rfl,qh (fw (by omega)),by rw[fJ];exact ba⟩;by_cases hd0:d=0
         · have y:Hid (AZ (Ad s)=none):=qh (Gw (by rw[g,fE hd0]));have aj:=qh (Ja a9.out (r:=0) (by rw[hd0];rfl));clear g hd0
           go_wp2_with fail
           refine aj.out.mono ?_;rintro e w7 ⟨rfl,p⟩;have m:=a2.ext (al.trans p)
           go_wp2_with(refine Aa (vs:=Ar false none 0 0 false none 0 0) rfl rfl rfl rfl rfl A5 m rfl (Ao _ _ _ _ _ _ _ _) ?_;intro w9 C a4)
           refine eZ (Ap rfl A5 rfl rfl C) rfl ⟨false,none,0,0,none,0,0,by rw[y.out];rfl,(ae.trans (al.trans p)).grownR a4 (lrf _),fun x Z=>by rw[y.out]at Z;cases Z⟩
         · have bm:0<d:=by omega
           rw[fl hd0]at g;have aj:=qh (Ja a9.out (r:=1) (by rw[jT (by omega)]));clear hd0
           go_wp2_with fail
           refine aj.out.mono ?_;rintro e w7 ⟨rfl,p⟩;obtain⟨r,hr⟩:∃ r,mkRat z d=r:=⟨_,rfl⟩;rw[hr]at g;have J:=qh g;have a0:Hid (Pl.RB 1000000 r):=by
            have h1:=Pl.mkRat_le (n:=z) (d:=d) (by omega);rw[hr]at h1;exact qh ⟨fU h1.1 (AO a6 (by omega)),fU h1.2 (AO ap (by omega))⟩
           have b4:=qh (Ig (w:=w7) (v := .agg #[.bool s3,.slice a3 n3 c3]) (z:=z) (q:=r) ⟨s3,a3,n3,c3,rfl,aB,aN.ext ((D.trans A).trans p)⟩ (a9.out.ext p) (AO a6 (by omega)) (by rw[fJ];exact AO ap (by omega)) (by omega) (by rw[fJ];exact hr.symm));have ay:=A.trans p;have k0:=(D.trans ay).cell k0;have k1:=(D.trans ay).cell k1;have u0:=p.cell u0;have u1:=p.cell u1;have l:=l.ext p;clear hr g a6 aw ap aj a9 k2 k3 ab ag ao
           go_wp2_with fail
           refine b4.out.mono ?_;rintro e w8 ⟨Y,M,X,O,N,W,P,rfl,aF,L,bf,bi⟩;have l:=l.ext aF
           go_wp2_with(refine Aa (vs:=Ar Y M X O false N W P) rfl rfl rfl rfl rfl A5 l rfl (Ao _ _ _ _ _ _ _ _) ?_;intro wf R aq)
           have ad:Ext wr wf:=((al.trans p).trans aF).grownR aq (ax);have U:=bf.keptA l (by decide) aq;have V:=bi.keptA l (by decide) aq
           go_meet
           exact⟨r,Y,M,X,O,N,W,P,ad,J,a0,R,L,U,V⟩
     case rest =>
      obtain⟨r,Y,M,X,O,N,W,P,ad,J,a0,R,L,U,V⟩:=hcut;have l0:=R.c 0 rfl;have l1:=R.c 1 rfl;have l2:=R.c 2 rfl;have l3:=R.c 3 rfl;have m:=a2.ext (ad);have b3:=ae.trans (ad);have bc:=qh (fun(H:World) (o:wc.grownBy H (some w.heap.size))=>Qr (v := .agg #[.bool Y,.slice M X O,.bool false,.slice N W P]) ⟨Y,M,X,O,N,W,P,rfl,L,U.keptA m (by decide) o,V.keptA m (by decide) o⟩ a0.out);have i:Hid (some w3.heap.size≠some w.heap.size):=by have h1:=a2.lt;have h2:=ax;show _≠_;simp;omega
      have aA:Hid ((txt r == s.toList)=(AZ (Ad s)).isSome):=by
       show _=_;rw[Sn J.out,jI];show(txt r == Ad s)=_;by_cases h:txt r=Ad s <;> simp[h]
      have aX:Hid (∀ x,AZ (Ad s)=some x->x=r):=qh fun x Z=>by
       have h1:=Gv Z;rw[J.out]at h1;exact(fe h1).symm
      go_upto_region 20 with(fail)
      refine Co (by kernel_rfl) (fun H=>wc.grownBy H (some w.heap.size)/\∃ cs:List Value,cs.length=4/\Arr H w.heap.size 109 cs)
       [he (.agg #[.bool Y,.slice M X O,.bool false,.slice N W P]),
 he (.agg #[.bool Y,.slice M X O,.bool false,.slice N W P]),
 hp (fun v H=>v = .string ⟨(txt r).toArray⟩),
 he (.string s),
 he (.bool (AZ (Ad s)).isSome),
 hmp (fun _ H=>Arr H w.heap.size 109 (Ar Y M X O false N W P))]
       (by kernel_rfl) (fun _ _ e h=>⟨CW h.1 e,h.2.choose,h.2.choose_spec.1,h.2.choose_spec.2.ext e⟩) ⟨CW (C0 wc _) ((Ext.refl wc).drew),_,rfl,m.ext ((Ext.refl wc).drew)⟩ ⟨trivial,trivial,fun v w w' e h=>h,trivial,trivial,fun _ _ _ e h=>Arr.ext h e,trivial⟩ ⟨?o0,?o1,?o2,?o3,?o4,?o5,trivial⟩ ?fin
      case o3=>exact omv
      case o0 | o1 =>
       refine Ae rfl fun ρ H o az h => ?_
       try have e0:_=_:=h.1
       try have e1:_=_:=h.2.1
       try have e2:_=_:=h.2.2.1
       have aO:=o.1.cell l0 i.out;have aP:=o.1.cell l1 i.out;have aQ:=o.1.cell l2 i.out;have aR:=o.1.cell l3 i.out;go_simp
       try (first | (intros;omega) | exact eT _ (by omega))
      case o2 =>
       refine Ah rfl fun ρ H o az bn h => ?_;have e1:_=_:=h.2.1;have aO:=o.1.cell l0 i.out;have aP:=o.1.cell l1 i.out;have aQ:=o.1.cell l2 i.out;have aR:=o.1.cell l3 i.out;refine⟨124,#[.agg #[.bool Y,.slice M X O,.bool false,.slice N W P]],by go_simp,(bc.out H o.1).mono ?_⟩;rintro e w' ⟨rfl,b0⟩;exact⟨_,rfl,b0,rfl⟩
      case o4 =>
       refine Ae rfl fun ρ H o az h => ?_;obtain⟨v0,e0,rfl⟩:=h.1;have e1:_=_:=h.2.1;have aO:=o.1.cell l0 i.out;have aP:=o.1.cell l1 i.out;have aQ:=o.1.cell l2 i.out;have aR:=o.1.cell l3 i.out;have h8:=aA.out;go_simp
       try exact aA.out
      case o5 =>
       exact KP rfl rfl A5 (Ao _ _ _ _ _ _ _ _) (fun _ h=>h.2) (fun _ _ h hg hA=>⟨Ex h.1 hg,_,rfl,hA⟩) (fun _ _=>PV (j:=2) (by kernel_rfl) (fun _ h=>h)) (fun _ _ _ _ h=>⟨h.1,h.2.1⟩)
      case fin =>
       intro H o;rintro _ rfl;rintro _ C;change wpList _ _ _ _ _ _;simp only[Bs];have bg:=U.keptA m (by decide) o.1;have bj:=V.keptA m (by decide) o.1;have b2:=b3.grownR o.1 (lrf _);go_wp2;refine eZ (Ap rfl A5 rfl rfl C) rfl ⟨Y,M,X,O,N,W,P,rfl,b2,fun x Z => ?_⟩;have bh:=aX.out x Z;subst bh;exact⟨L,bg,bj⟩
theorem Pf(w:World)(base:Nat)(e:TypeId)(k:Nat)(a:base<=w.heap.size):AE (w.alloc (.cells #[] e)) base e k (some ⟨w.heap.size,0,none⟩) 0 0 []:=by
 have h:=m6 (base:=base) (e:=e) (size:=k) w #[] 0 a (f8 _) (by simp);exact⟨(fun _ h=>by cases h),h⟩
section
variable {P:Program} {w:World}
theorem Pg{e:TypeId} 
 (y:P.underlying t=some (.slice e)) (d:Bu P e zs k bytes) (f:AE w base e k a n c rows) (p:SlK w k A m cx news)
 (h1:∀ r∈news,∀ u∈r,u.oneCell'=true) (h63:n+m<=maxLen) (j:(n+m)*bytes<=140737488355328) (l:base<=w.heap.size) :
 ∃ s B z,(Builtin.append_ #[t,t] ty #[.slice a n c,.slice A m cx]).run P w = .ok (.slice s (n+m) B) z/\AE z base e k s (n+m) B (rows ++ news) /\
  w.grownBy z (blk a)/\(blk s=blk a\/blk s=some w.heap.size):=by
 cases A with
 | some ad=>exact Jo y d f p h1 h63 j l
 | none =>
  obtain⟨i,C,I,x,F⟩:=d.parts;have G:m=0:=by
   rcases fj m with h0|h0
   · exact h0
   · obtain⟨b,o,h,_⟩:=p.rd h0;cases h
  subst G;have H:news=[]:=fa p.len;subst H;refine⟨a,c,w,?_,by simpa using f,l7 w _,.inl rfl⟩;rcases f.2.2 with⟨q,rfl⟩|⟨g,D,E,q,_,_,v,_⟩
  · simp only[eY]at q;obtain⟨rfl,_,rfl⟩:=q;simp[Builtin.append_,fQ y,sizeOf,typeInfo,C,Builtin.lenOf,Builtin.firstCells]
  · simp only[eY]at q;obtain⟨rfl,_,rfl⟩:=q;simp[Builtin.append_,fQ y,sizeOf,typeInfo,C,Builtin.lenOf,Builtin.firstCells,v,storeCells]
theorem FI{s x:Operand}(v:o.guard=none)
 (C:o.op = .call { callee := .builtin .append,args:=#[s,x],argTypes:=#[t,t] })
 {e:TypeId} {zs:List Value} {k bytes base:Nat} {a:Option Addr} {n c:Nat} {rows:List (List Value)} {A:Option Addr} {m z:Nat} {news:List (List Value)}
 (E:P.underlying t=some (.slice e)) (g:Bu P e zs k bytes) (D:f.eval s = .slice a n c) (j:AE w base e k a n c rows) (F:f.eval x = .slice A m z) (y:SlK w k A m z news)
 (h1:∀ r∈news,∀ u∈r,u.oneCell'=true) (h63:n+m<=maxLen) (b:(n+m)*bytes<=140737488355328) (d:base<=w.heap.size)
 (h:∀ i q p,AE p base e k i (n+m) q (rows ++ news)->w.grownBy p (blk a)->(blk i=blk a\/blk i=some w.heap.size)->wpList P ops Q rest (f.put o.dst (.slice i (n+m) q)) p) :
 wpList P ops Q (o :: rest) f w:=by
 refine gu v fun _ B => ?_;obtain⟨i,q,p,l,h2,h3,h4⟩:=Pg (P:=P) (ty:=o.type) E g j y h1 h63 b d;unfold Oper.wp execOp;simp only[C,resolve,invoke,builtin,fq,fO,eX,iB,gM,ix,D,F,l];exact B _ _ (h i q p h2 h3 h4)
end
theorem TO.app{d c':Nat}{l b:List Pl.Tm}(e:AE w base 111 5 a n c rows)(o:l.length=n)(q:∀ i,i<n->TC w b0 (rows.getD i []) (l.getD i tz))(j:b.length=d)(s:rows'.length=d)(f:∀ i,i<d->TC w b0 (rows'.getD i []) (b.getD i tz))(k:b0<=base)(p:AE w' base 111 5 a' (n+d) c' (rows ++ rows'))(m:w.grownBy w' (blk a)):TO w' b0 base a' (n+d) c' (l ++ b):=by
 refine⟨_,p,by simp[o,j],fun i t => ?_⟩;have r:rows.length=n:=e.len (by omega);by_cases g:i<n
 · rw[gqq,f4 (by omega),<-gqq,gqq (l:=l ++ b),f4 (by omega),<-gqq];exact(q i g).grownO e k m
 · rw[gqq,fF (by omega),<-gqq,gqq (l:=l ++ b),fF (by omega),<-gqq,r,o];exact(f (i-n) (by omega)).grownO e k m
def Hh(w:World)(b0:Nat)(v:Value)(t:Pl.Tm):Prop:=∃ row,v = .agg row.toArray/\TC w b0 row t
theorem Hh.ext{w b:World}{b0:Nat}{v:Value}{t:Pl.Tm}(h:Hh w b0 v t)(e:Ext w b):Hh b b0 v t:=by
 obtain⟨a,h1,h2⟩:=h;exact⟨a,h1,h2.ext e⟩
theorem Hh.x(b0:Nat)(t:Pl.Tm):∀ (v:Value) (w a:World),Ext w a->Hh w b0 v t->Hh a b0 v t:=fun _ _ _ e h=>h.ext e
def Ij(w:World)(b0:Nat)(v:Value)(t:Pl.Tm):Prop:=∃ g row,v = .slice (some ⟨g,0,none⟩) 1 1/\Arr w g 111 row/\TC w b0 row t
theorem Ij.ext{w b:World}{b0:Nat}{v:Value}{t:Pl.Tm}(h:Ij w b0 v t)(e:Ext w b):Ij b b0 v t:=by
 obtain⟨g,a,h1,h2,h3⟩:=h;exact⟨g,a,h1,h2.ext e,h3.ext e⟩
theorem Ij.x(b0:Nat)(t:Pl.Tm):∀ (v:Value) (w a:World),Ext w a->Ij w b0 v t->Ij a b0 v t:=fun _ _ _ e h=>h.ext e
theorem TC.five{t:Pl.Tm}(h:TC w b0 row t):row.length=5/\∀ v∈row,v.oneCell'=true:=by
 obtain⟨s,a,n,c,b,m,d,e,k,f,rfl,_⟩:=h;exact⟨rfl,FF⟩
section
variable {P:Program} {ops:Array Oper} {hs:List Hd} {a0:Act} {C:World->Prop} {i:Nat} {o:Oper}
theorem TF{x:Operand}(z:o.guard=none)(p:o.op = .build ty #[(0,x),(1,y)])
 (A:∀ {w:World} {r0 r1 r2 r3:Value} {e:Option Addr} {k f:Nat},(Instr.build ty #[(0,.agg #[r0,r1,r2,r3]),(1,.slice e k f)]).run P w = .ok (.agg #[r0,r1,r2,r3,.slice e k f]) w)
 (h:∀ g w,Dd g->C w->Cf ops hs a0 o g w [x,y]->QV w (g x) q/\∃ e k f,g y = .slice e k f/\XI w b0 e k f xs) :
 obl P C ops hs a0 i o ⟨false,.pr (fun v B=>Hh B b0 v (xs,q)),cons⟩ :=
 Cv z fun g w hp t r=>by
  rw[p]at r;obtain⟨⟨s,a,n,c,b,m,d,h1,h2,h3,h4⟩,e,k,f,h5,h6⟩:=h g w hp t r;refine⟨.agg (tL s a n c b m d e k f).toArray,w,?_,Ext.refl w,_,rfl,s,a,n,c,b,m,d,e,k,f,rfl,h2,h3,h4,h6⟩;have l:=A (w:=w) (r0 := .bool s) (r1 := .slice a n c) (r2 := .bool false) (r3 := .slice b m d) (e:=e) (k:=k) (f:=f);have j:g x = .agg #[.bool s,.slice a n c,.bool false,.slice b m d]:=h1;simp only[execOp,p,j,h5,fq,iB,gM,ix,l,eX,fO];rfl
theorem Qv{t:Pl.Tm}{x:Operand}(A:o.guard=none)(r:o.op = .buildSlice ty 1 #[(0,x)])
 (D:P.underlying ty=some (.slice 111)) (g:Bu P 111 zs 5 bytes)
 (h:∀ j w,Dd j->C w->Cf ops hs a0 o j w [x]->Hh w b0 (j x) t) :
 obl P C ops hs a0 i o ⟨false,.pr (fun v F=>Ij F b0 v t),cons⟩ :=
 Cv A fun j w hp z y=>by
  rw[r]at y;obtain⟨E,h1,q⟩:=h j w hp z y;have p:=q;obtain⟨s,a,n,c,b,m,d,e,k,f,rfl,h2⟩:=p;have B:=Gt (P:=P) (w:=w) (r0 := .bool s) (r1 := .slice a n c) (r2 := .bool false) (r3 := .slice b m d) (r4 := .slice e k f) D g;have l:j x = .agg #[.bool s,.slice a n c,.bool false,.slice b m d,.slice e k f]:=h1;refine⟨_,_,?_,(Ext.refl w).alloc (.cells (tL s a n c b m d e k f).toArray 111),w.heap.size,_,rfl,Arr.new w 111 (tL s a n c b m d e k f),q.ext ((Ext.refl w).alloc _)⟩
  simp only[execOp,r,l,fq,iB,gM,ix,B,eX,fO];rfl
end
theorem Qw{l:List Pl.Tm}(a:k<l.length):Pl.scl q (l.take k) ++ [((l.getD k tz).1,q*(l.getD k tz).2)]=Pl.scl q (l.take (k+1)):=by
 unfold Pl.scl;rw[eU a,fM,gqq,eQ a];rfl
theorem Ik{r0 r1 r2 r3:Value}{f:Nat}:(Instr.build 111 #[(0,.agg #[r0,r1,r2,r3]),(1,.slice e k f)]).run prog w = .ok (.agg #[r0,r1,r2,r3,.slice e k f]) w:=by
 go_simp
theorem TB.app{a b:List Pl.Tm}(c:TB N a)(d:TB N b):TB N (a ++ b):=fun t e=>(fo.1 e).elim (c t) (d t)
theorem TB.scl_{a:List Pl.Tm}(b:TB N a)(q:Rat):TB N (Pl.scl q a):=fun t d=>by
 obtain⟨s,c,rfl⟩:=fh.1 d;exact b s c
theorem Qx{l:List Pl.Tm}(d:rows.length=n)(b:∀ i,i<n->TC w b0 (rows.getD i []) (l.getD i tz)):∀ r∈rows,∀ u∈r,u.oneCell'=true:=fun r a=>by
 obtain⟨i,c,rfl⟩:=fR a;have h:=(b i (by omega)).five.2
 rwa[gqq,eQ c]at h
theorem MV(hN:N<=12){va vb:Int}{a b:Option Addr}{n c m d:Nat}{Z lb:List Pl.Tm}{v:Value}{q:Rat}{w:World}(ha:TSl w b0 a n c Z)(hq:QV w v q)(hb:TSl w b0 b m d lb)(ba:TB N Z)(bb:TB N lb)(hw:b0<=w.heap.size)(hn:n<=10000)(hm:m<=10000)(rq:Pl.RB 1000000 q)(rb:∀ t∈lb,Pl.RB 1000000 t.2)(hs:Pl.SubOK (Z ++ Pl.scl q lb)) :
 Calls prog 81 #[.agg (pL va a n c).toArray,v,.agg (pL vb b m d).toArray] w (Qn w b0 va N (Z ++ Pl.scl q lb)):=by
 have G:=ha.len;have M:=hb.len;obtain⟨sq,xq,O,cq,yq,mq,dq,rfl,aG,b4,b5⟩:=hq
 go_enter func81,ntmps81
 go_upto_region 1 with(fail)
 refine U0 ?_;intro J K V E a5 a6 b6;have aW:Arr J (w.heap.size+3) 65 (pL 0 none 0 0):=a6;have p0:=V.c 0 rfl;have p1:=V.c 1 rfl;have u0:=E.c 0 rfl;have u1:=E.c 1 rfl;have u2:=E.c 2 rfl;have u3:=E.c 3 rfl;have v1:=a5.c 1 rfl;clear V E a5 a6 b6;have aX:=ha.ext K;obtain⟨ra,W,_,X⟩:=aX;have H:ra.length=n:=W.len;have z:=(Ext.refl J).alloc (.cells #[] 111);have L:=Pf J J.heap.size 111 5 (lrf _);have A:=W.ext z;have H1:=Qx H X;have S:=z.size;have q1:=z.cell p1;have a3:=qh X;clear X ha
 go_upto_region 2 with(refine FI rfl rfl underlying63 BZ rfl L rfl A H1 (by unfold maxLen;omega) (by omega) S ?_;intro a7 c7 w7 ab Y aY)
 have a9:Ext J w7:=z.grown Y (fun k hk=>(L.lt hk).1);have U:=TO.app (l:=[]) L rfl (fun i hi=>absurd hi (by omega)) G H (fun i hi=>(a3.out i hi).ext z) (eW hw K.size) ab Y;rw[iI,fP]at U;have HO:=qh U;clear L A H1 ab Y aY z W a3 H S U q1
 try simp only[fP]
 go_wp2
 go_loopw[7,8] (fun lv iv wr=>∃ (k:Nat) (ao:Option Addr) (co:Nat),lv = .slice ao (n+k) co/\iv = .int .i64 k/\k<=m/\Ext J wr/\Hid (TO wr b0 J.heap.size ao (n+k) co (Z ++ Pl.scl q (lb.take k)))) (fun _ iv _=>m-(intOf iv).toNat)
 case atStart=>exact⟨0,a7,c7,by go_num,by go_num,f8 _,a9,by rw[gZ];show Hid (TO w7 b0 J.heap.size a7 (n+0) c7 (Z ++ []));rw[gR];exact HO⟩
 case round =>
  clear HO a9;obtain⟨k,ao,co,rfl,rfl,hk,I,HO⟩:=hrel;have C:=K.trans I;have b8:=I.cell v1;by_cases D:k<m
  case neg =>
   have az:¬ (k:Int)<m:=by omega
   have aZ:k=m:=by omega
   have hT:TO wr b0 J.heap.size ao (n+k) co (Z ++ Pl.scl q lb):=by
    have h1:=HO.out;rw[eR (by omega)]at h1;exact h1
   have ak:=qh (JP (N:=N) (b0:=b0) hN (vars:=va) hT.sl (ba.app (bb.scl_ q)) (eW hw C.size) (by omega) hs);have bf:=I.cell p0;have hR:=aW.ext I;have aC:=qh hw;clear HO hT hs aZ G M ba bb
   go_wp2_with fail
   refine ak.out.mono ?_;rintro e w1 ⟨a1,n1,c1,b7,rfl,z,aU,aj,P,ae⟩;have ac:=hR.ext z;have HX:=qh P;have HY:=qh ae;have aF:=qh aj;clear ak P ae aj hR
   go_wp2_with(refine Aa (vs:=pL va a1 n1 c1) rfl rfl rfl rfl rfl Av ac rfl (AX _ _ _ _) ?_;intro w9 aO ah)
   exact eZ (Aq rfl Av rfl aO) rfl ⟨a1,n1,c1,b7,rfl,(C.trans z).grownR ah (by omega),(aU.keptA ac (by decide) (by decide) (by decide) (by have:=aC.out;omega) ah).mono C.size,aF.out,HX.out,HY.out⟩
  have az:(k:Int)<m:=by omega
  have F:k<lb.length:=by omega
  obtain⟨s,y,b9,s1,x1,m1,d1,y1,g1,h1,a4,ay,f1,rfl,A,o,a2,ai,af,al⟩:=(hb.ext C).row D;have aJ:wr.cell? ⟨s,y+k*5,none⟩=some (.bool s1):=by have:=A.cl D (j:=0) (by omega);rw[o]at this;exact this
  have aK:wr.cell? ⟨s,y+k*5+1,none⟩=some (.slice x1 m1 d1):=by have:=A.cl D (j:=1) (by omega);rw[o]at this;exact this
  have aL:wr.cell? ⟨s,y+k*5+2,none⟩=some (.bool false):=by have:=A.cl D (j:=2) (by omega);rw[o]at this;exact this
  have aM:wr.cell? ⟨s,y+k*5+3,none⟩=some (.slice y1 g1 h1):=by have:=A.cl D (j:=3) (by omega);rw[o]at this;exact this
  have aN:wr.cell? ⟨s,y+k*5+4,none⟩=some (.slice a4 ay f1):=by have:=A.cl D (j:=4) (by omega);rw[o]at this;exact this
  have aH:=qh (Qw (q:=q) F);have R:lb.getD k tz∈lb:=gT (getD_some F);have aA:=qh (fun(wy:World) (f:Ext wr wy)=>Ql (v := .agg #[.bool sq,.slice xq O cq,.bool false,.slice yq mq dq]) (p:=q) ⟨sq,xq,O,cq,yq,mq,dq,rfl,aG,(b4.ext C).ext f,(b5.ext C).ext f⟩ (v' := .agg #[.bool s1,.slice x1 m1 d1,.bool false,.slice y1 g1 h1]) (q:=(lb.getD k tz).2) ⟨s1,x1,m1,d1,y1,g1,h1,rfl,a2,ai.ext f,af.ext f⟩ rq (rb _ R));have aI:=qh al;have aD:=qh M;have aE:=qh G;generalize lb.getD k tz=t at *
  have c0:=I.cell u0;have c1:=I.cell u1;have c2:=I.cell u2;have c3:=I.cell u3;clear A o R ai af al a2 M G F
  go_upto_region 5 with(fail)
  have T:=fun(B:World) (f:Ext wr B)=>qh (And.intro (f.cell c0) (And.intro (f.cell c1) (And.intro (f.cell c2) (And.intro (f.cell c3) (And.intro (f.cell aJ) (And.intro (f.cell aK) (And.intro (f.cell aL) (And.intro (f.cell aM) (And.intro (f.cell aN) (f.cell b8))))))))))
  refine Ac
   [hdS ao (n+k) co,he (.agg #[.bool sq,.slice xq O cq,.bool false,.slice yq mq dq]),hdP (w.heap.size+2) 1,hdS (some ⟨s,y,none⟩) m d,hdI k,hdP s (y+k*5),hdP s (y+k*5),he (.agg #[.bool s1,.slice x1 m1 d1,.bool false,.slice y1 g1 h1]),hp (fun v B=>QV B v (q*t.2)),hdP (w.heap.size+2) 1,hdS (some ⟨s,y,none⟩) m d,hdI k,hdP s (y+k*5),hdP s ((y+k*5)+4),hdS a4 ay f1,hp (fun v B=>Hh B b0 v (t.1,q*t.2)),hp (fun v B=>Ij B b0 v (t.1,q*t.2))]
   ⟨fun v w w' e h=>QV.ext h e,Hh.x _ _,Ij.x _ _,trivial⟩ ⟨?o0,?o1,?o2,?o3,?o4,?o5,?o6,?o7,?o8,?o9,?o10,?o11,?o12,?o13,?o14,?o15,?o16,trivial⟩ ?fin
  case o0 | o4 | o11=>exact omv
  case o1 | o7=>exact ol4
  case o2 | o9=>exact ofa (d:=1)
  case o3 | o10 | o14=>exact ol
  case o6=>exact ofa (d:=0)
  case o13=>exact ofa (d:=4)
  case o5 =>
   refine Ae rfl fun ρ B f Q h => ?_;have e0:_=_:=h.1;have e1:_=_:=h.2.1;obtain⟨am,an,ap,aq,ar,au,av,aw,ax,kv⟩:=(T B f).out;go_simp
   try (first | (intros;omega) | exact eT _ (by omega))
  case o8 =>
   refine Ah rfl fun ρ B f Q be h => ?_;have e1:_=_:=h.2.1;have e2:_=_:=h.2.2.1;obtain⟨am,an,ap,aq,ar,au,av,aw,ax,kv⟩:=(T B f).out;refine⟨125,#[.agg #[.bool sq,.slice xq O cq,.bool false,.slice yq mq dq],.agg #[.bool s1,.slice x1 m1 d1,.bool false,.slice y1 g1 h1]],by go_simp,(aA.out B f).mono ?_⟩;rintro e w' ⟨s',a',n',c',b',m',d',rfl,aP,b3,b2,b1⟩;exact⟨_,rfl,aP,s',a',n',c',b',m',d',rfl,b3,b2,b1⟩
  case o12 =>
   refine Ae rfl fun ρ B f Q h => ?_;have e0:_=_:=h.1;have e1:_=_:=h.2.1;obtain⟨am,an,ap,aq,ar,au,av,aw,ax,kv⟩:=(T B f).out;go_simp
   try (first | (intros;omega) | exact eT _ (by omega))
  case o15 =>
   refine TF rfl rfl Ik ?_;rintro ρ B hp f ⟨⟨v0,e0,i0⟩,h1,-⟩;exact⟨by rw[e0];exact i0,_,_,_,h1,aI.out.ext f⟩
  case o16 =>
   refine Qv rfl rfl underlying63 BZ ?_;rintro ρ B hp f ⟨⟨v0,e0,i0⟩,-⟩;rw[e0];exact i0
  case fin =>
   intro B f;rintro _ _;rintro _ _;rintro _ ⟨g9,bc,rfl,aR,ad⟩;change wpList _ _ _ _ _ _;simp only[Bs];obtain⟨bg,hK,aT,aS⟩:=HO.out;have aa:=hK.ext f;obtain⟨h5,h6⟩:=ad.five;have hL:=BA (k:=5) aR h5;have aB:=(I.trans f).size
   go_wp2_with(refine CC rfl rfl underlying63 BZ rfl aa rfl hL (by intro r hr u hu;rw[eV.1 hr]at hu;exact h6 u hu) (by unfold maxLen;omega) (by omega) aB ?_;intro a8 c8 w8 aV ag bd)
   have a0:=TO.grow aa aT (fun j hj=>(aS j hj).ext f) ad (eW hw K.size) aV ag;rw[fZ,aH.out]at a0;have aQ:Ext J w8:=(I.trans f).grown ag (fun g hg=>(hK.lt hg).1);have M:=aD.out;have G:=aE.out;go_roundw
   case rel=>exact⟨k+1,a8,c8,by go_num,by go_num,by omega,aQ,qh a0⟩
   case measure=>simp[intOf];omega
end Go.Proofs.YthdbingomfdeoaaGreatDoor
namespace Go.Proofs.YthdbingomfdeoaaGreatDoor.Pl
variable {k:Nat} {q:Rat}
def plE(a b:List Int):List Int:=List.zipWith (·+·) a b
def zsc(q:Rat)(k:Nat):Int:=q.num*((k/q.den:Nat):Int)
theorem UO(q:Rat):q*(q.den:Rat)=(q.num:Rat):=by
 have h:q=(q.num:Rat)/(q.den:Rat):=by rw[<-Rat.mkRat_eq_div,kG]
 have h0:(q.den:Rat)≠0:=by
  intro h;have:=lP.1 h;exact q.den_nz this
 conv=>lhs;lhs;rw[h]
 rw[Rat.div_mul_cancel h0]
theorem TS(h:q.den∣k):((zsc q k:Int):Rat)=q*(k:Rat):=by
 obtain⟨c,rfl⟩:=h;unfold zsc;rw[jM _ (iE q.den_nz),lI,<-UO,lH];rw[lQ];rfl
theorem Ph(z:Int)(d:Nat):mkRat z d=(z:Rat)*((d:Rat))⁻¹:=by
 rw[Rat.mkRat_eq_div,Rat.div_def]
theorem coef_mem:∀ {l:List Tm} {t:Tm},(l.map (·.1)).Nodup->t∈l->coef l t.1=t.2
 | [],_,_,h=>by cases h
 | s :: r,t,hn,h=>by
  simp only[gM,iH]at hn;rcases fS.1 h with rfl|h
  · simp only[coef,j0,RS hn.1];grind
  · have hne:s.1≠t.1:=fun e=>hn.1 (by rw[e];exact gn h);simp only[coef,fl hne,coef_mem hn.2 h];grind
end Go.Proofs.YthdbingomfdeoaaGreatDoor.Pl
namespace Go.Proofs.YthdbingomfdeoaaGreatDoor
open Tryz Go Go.RowKit
variable {ys:List (List Int)} {xs:List Int} {c d k m n:Nat} {a b:Option Addr} {w:World}
def AD(w:World)(base:Nat)(a:Option Addr)(n c:Nat)(xs:List Int):Prop:=Own w base 3 a n c (xs.map (Value.int .i64))
theorem AD.sl{w:World}{base:Nat}{a:Option Addr}{n c:Nat}{xs:List Int}(h:AD w base a n c xs):SlI w a n c xs:=Own.sl h
theorem AD.ext{w b:World}{base:Nat}{a:Option Addr}{n c:Nat}{xs:List Int}(h:AD w base a n c xs)(k:Ext w b):AD b base a n c xs:=Own.ext h k
theorem Qy{a:Type}(L:List a)(z v:a)(r:Nat):(L ++ List.replicate (r+1) z).set L.length v=(L ++ [v]) ++ List.replicate r z:=by
 rw[List.set_append_right _ _ (lrf _)];simp[jH]
def FJ(n:Nat)(xs:List Int):List Int:=xs ++ List.replicate (n-xs.length) 0
theorem JS(n:Nat):(FJ n []).map (Value.int .i64)=List.replicate n (Value.int .i64 0):=by simp[FJ]
theorem Il(h:n<=xs.length):FJ n xs=xs:=by simp[FJ,Nat.sub_eq_zero_of_le h]
theorem JT(a:xs.length=k)(h:k<n)(x:Int) :
 ((FJ n xs).map (Value.int .i64)).set k (Value.int .i64 x)=(FJ n (xs ++ [x])).map (Value.int .i64):=by
 have e:n-xs.length=(n-(xs ++ [x]).length)+1:=by simp;omega
 rw[<-ju,<-a];unfold FJ;rw[e,Qy]
theorem TT{b0 base:Nat}(h:AD w base a n c xs):XI w b0 a n c xs :=
 ⟨Own.sl h,fun _ g e => .inr (by obtain⟨b,d,h1⟩:=Own.ty h g e;exact⟨b,d,h1⟩)⟩
theorem Cc:AR prog 3 (.int .i64 0) 8:=by unfold AR;kernel_rfl
def N9(w:World)(xs:List Int)(e:Ending)(w':World):Prop :=
 ∃ a n c,e = .returned (.slice a n c)/\Ext w w'/\AD w' w.heap.size a n c xs
def idn(n:Nat):List Int:=(List.range n).map Int.ofNat
def comp(xs ys:List Int):List Int:=ys.map (fun y=>xs.getD y.toNat 0)
theorem AC(n:Nat):(idn n).length=n:=by simp[idn]
theorem Qz(n:Nat):idn (n+1)=idn n ++ [(n:Int)]:=by simp[idn,List.range_succ]
theorem Bj(xs ys:List Int):(comp xs ys).length=ys.length:=by simp[comp]
theorem Ek(m:n<=1000000) :
 Calls prog 44 #[.int .i64 n] w (N9 w (idn n)):=by
 go_enter func44,ntmps44
 go_wp2_with(at_make;refine CJ rfl rfl underlying35 Cc rfl rfl rfl (by omega) (by unfold maxLen;omega) ?_;intro p c a)
 go_loopw[9] (fun i wr=>∃ k:Nat,k<=n/\i = .int .i64 k/\Ext w wr/\AD wr w.heap.size (some ⟨w.heap.size,0,none⟩) n n (FJ n (idn k))) (fun i _=>n-(intOf i).toNat)
 case atStart=>exact⟨0,f8 _,rfl,a,by unfold AD;rw[show idn 0=[] from rfl,JS];exact c⟩
 case round =>
  clear c a;obtain⟨k,l,rfl,f,b⟩:=hrel;by_cases d:k<n
  · have g:=Own.cellAt b d;have j:=Own.frozenAt b k;have o:=f.size;go_wp2;go_roundw
    case rel =>
     refine⟨k+1,by omega,by go_num,f.setCell (lrf _) _,?_⟩;have:=Own.stored b k (.int .i64 k);rw[JT (AC k) d,<-Qz]at this;exact this
    case measure=>simp[intOf];omega
  · have e:k=n:=by omega
    go_wp2;go_ret;subst e;rw[Il (by rw[AC];exact lrf _)]at b;exact⟨_,_,_,rfl,f,b⟩
theorem Ff{ys:List Int}(v:SlI w a n c xs)(j:SlI w b m d ys)
 (t:∀ i,i<m->0<=ys.getD i 0/\ys.getD i 0<n) (K:m<=1000000) :
 Calls prog 42 #[.slice a n c,.slice b m d] w (N9 w (comp xs ys)):=by
 have C:=v.le
 go_enter func42,ntmps42
 go_wp2_with(at_make;refine CJ rfl rfl underlying35 Cc rfl rfl rfl (by omega) (by unfold maxLen;omega) ?_;intro O q o)
 go_loopw[13] (fun i wr=>∃ k:Nat,k<=m/\i = .int .i64 k/\Ext w wr/\AD wr w.heap.size (some ⟨w.heap.size,0,none⟩) m m (FJ m (comp xs (ys.take k)))) (fun i _=>m-(intOf i).toNat)
 case atStart=>exact⟨0,f8 _,rfl,o,by unfold AD;rw[show comp xs (ys.take 0)=[] from rfl,JS];exact q⟩
 case round =>
  clear q o;obtain⟨k,J,rfl,l,p⟩:=hrel;have v:=v.ext l;have j:=j.ext l;by_cases f:k<m
  · have F:=Own.cellAt p f;have G:=Own.frozenAt p k;have L:=l.size;obtain⟨E,N,rfl,s⟩:=j.at f;have H:=s k f;have x:=t k f;have g:=j.len;have A:ys.take (k+1)=ys.take k ++ [ys.getD k 0]:=by
     rw[eU (by omega)];simp[g,f]
    generalize z:ys.getD k 0=y at *
    obtain⟨D,M,rfl,r⟩:=v.at (k:=y.toNat) (by omega);have I:=r y.toNat (by omega);obtain⟨P,Q⟩:=x;have B:=eP A;clear r s z t g A;go_wp2;go_roundw
    case rel =>
     refine⟨k+1,by omega,by go_num,l.setCell (lrf _) _,?_⟩;have:=Own.stored p k (.int .i64 (xs.getD y.toNat 0));rw[JT (by rw[Bj];have:=j.len;simp;omega) f]at this;rw[B.out];simpa[comp,AD]using this
    case measure=>simp[intOf];omega
  · have e:k=m:=by omega
    go_wp2;go_ret;subst e;have g:=j.len;rw[eR (by omega),Il (by rw[Bj];omega)]at p;exact⟨_,_,_,rfl,l,p⟩
def Oa(xs:List Int):Prop:=xs.length<=6/\(∀ x∈xs,0<=x/\x<xs.length)/\xs.Nodup
instance (xs:List Int):Decidable (Oa xs):=by unfold Oa;exact inferInstance
def Ak(xs:List Int):Bool:=decide (Oa xs)
def Ec(l:List Int):List Value:=(List.range 6).map (fun(j:Nat)=>Value.bool (decide (Int.ofNat j∈l)))
theorem Pi(l:List Int):(Ec l).length=6:=by simp[Ec]
theorem QA(l:List Int){j:Nat}(h:j<6):(Ec l).getD j undef = .bool (decide ((j:Int)∈l)):=by
 simp[Ec,h]
theorem Pj(l:List Int){x:Int}(h0:0<=x):(Ec l).set x.toNat (.bool true)=Ec (l ++ [x]):=by
 apply iO;intro i;rw[ip];by_cases b:i<6
 · by_cases a:x.toNat=i
   · have:(i:Int)=x:=by omega
     simp[Ec,a,b,this]
   · have:(i:Int)≠x:=by omega
     simp[Ec,a,b,this]
 · by_cases a:x.toNat=i
   · simp[Ec,a,b]
   · simp[Ec,a,b]
theorem Pk(h:6<xs.length):Ak xs=false:=by
 refine fw fun hp => ?_;have:=hp.1;omega
theorem QC{xs:List Int}{k:Nat}(a:k<xs.length)(h:xs.getD k 0<0\/(xs.length:Int)<=xs.getD k 0):Ak xs=false:=by
 have b:xs.getD k 0∈xs:=by simp[a]
 refine fw fun hp => ?_;have:=hp.2.1 _ b;omega
theorem MW{xs:List Int}{k:Nat}(a:k<xs.length)(h:xs.getD k 0∈xs.take k):Ak xs=false:=by
 refine fw fun hp => ?_;have b:=hp.2.2;have e:xs=xs.take k ++ xs.drop k:=(iR k xs).symm;have c:xs.drop k=xs.getD k 0 :: xs.drop (k+1):=by
  rw[fD a];simp[a]
 rw[e,c,io]at b;exact b.2.2 _ h _ (by simp) rfl
def Fs(xs:List Int)(k:Nat):Prop:=(∀ x∈xs.take k,0<=x/\x<xs.length)/\(xs.take k).Nodup
theorem LI{xs:List Int}{k:Nat}(f:k<xs.length)(h:Fs xs k)(h0:0<=xs.getD k 0)(h1:xs.getD k 0<xs.length)(i:xs.getD k 0 ∉ xs.take k):Fs xs (k+1):=by
 have e:xs.take (k+1)=xs.take k ++ [xs.getD k 0]:=by
  rw[eU f];simp[f]
 unfold Fs;rw[e];refine⟨?_,?_⟩
 · intro x c;rcases fo.1 c with c|c
   · exact h.1 x c
   · simp only[eV]at c;subst c;exact⟨h0,h1⟩
 · rw[io];refine⟨h.2,by simp,?_⟩;intro a g b d;simp only[eV]at d;subst d;rintro rfl;exact i g
theorem MX(a:xs.length<=k)(h:Fs xs k)(h6:xs.length<=6):Ak xs=true:=by
 unfold Fs at h;rw[eR a]at h;exact gl ⟨h6,h.1,h.2⟩
theorem Be(m:SlI w a n c xs) :
 Calls prog 32 #[.slice a n c] w fun e K=>e = .returned (.bool (Ak xs))/\Ext w K:=by
 have I:=m.le;have r:=m.len;have f:=eP r;by_cases h6:n<=6
 · clear r
   go_enter func32,ntmps32
   go_wp2
   go_loopw[11] (fun i wr=>∃ k:Nat,k<=n/\i = .int .i64 k/\Ext w wr/\Arr wr w.heap.size 116 (Ec (xs.take k))/\Fs xs k) (fun i _=>n-(intOf i).toNat)
   case atStart=>exact⟨0,f8 _,rfl,(Ext.refl w).alloc _,Arr.new w _ (Ec []),by simp[Fs]⟩
   case round =>
    obtain⟨k,N,rfl,g,q,z⟩:=hrel;have m:=m.ext g;by_cases l:k<n
    · obtain⟨L,O,rfl,j⟩:=m.at l;have M:=j k l;have b:k<xs.length:=by have:=f.out;omega
      have x:xs.take (k+1)=xs.take k ++ [xs.getD k 0]:=by
       rw[eU b];simp[b]
      have B:=@QC xs k b;have D:=@MW xs k b;have C:=@LI xs k b z;generalize t:xs.getD k 0=y at *
      have E:=eP x;have v:=eP B;have G:=eP D;have F:=eP C;clear j t x B D C;by_cases s:y<0
      · go_wp2;go_ret;exact⟨Nt (v.out (Or.inl s)),g⟩
      · by_cases J:(n:Int)<=y
        · go_wp2;go_ret;exact⟨Nt (v.out (Or.inr (by have:=f.out;omega))),g⟩
        · have o:y.toNat<6:=by omega
          have A:y<6:=by omega
          have d:=q.cell (i:=y.toNat) (by rw[Pi];exact o);have H:=q.frozen y.toNat
          rw[QA _ o,show((y.toNat:Nat):Int)=y from by omega]at d;by_cases p:y∈xs.take k
          · simp only[p,jU]at d;go_wp2;go_ret;exact⟨Nt (G.out p),g⟩
          · simp only[p,kD]at d;go_wp2;go_roundw
            case rel =>
             refine⟨k+1,by omega,by go_num,g.setCell (lrf _) _,?_,F.out (by omega) (by have:=f.out;omega) p⟩;have:=q.set y.toNat (.bool true);rw[Pj _ (by omega),<-E.out]at this;exact this
            case measure=>simp[intOf];omega
    · go_wp2;go_ret;exact⟨Nt (MX (by have:=f.out;omega) z (by have:=f.out;omega)),g⟩
 · clear r
   go_enter func32,ntmps32
   go_wp2;go_ret;exact⟨Nt (Pk (by have:=f.out;omega)),Ext.refl w⟩
theorem MY{xs:List (List Int)}(hp:xs.take k=ys.take k)(h1:k<xs.length)(h2:k<ys.length)(he:xs.getD k []=ys.getD k []):xs.take (k+1)=ys.take (k+1):=by
 simp[h1,h2]at he;rw[eU h1,eU h2,hp,he]
theorem Ft{xs:List (List Int)}(f:SlL w a n c xs)(g:SlL w b m d ys) :
 Calls prog 10 #[.slice a n c,.slice b m d] w fun e F=>e = .returned (.bool (decide (xs=ys)))/\Qt w F:=by
 have P:=f.le;have E:=g.le;by_cases q:n=m
 · have s:((n:Int) != (m:Int))=false:=by simp[q]
   have x:=eP q;clear q
   go_enter func10,ntmps10
   go_wp2
   go_loopw[5] (fun i wr=>∃ k:Nat,k<=n/\i = .int .i64 k/\Qt w wr/\xs.take k=ys.take k) (fun i _=>n-(intOf i).toNat)
   case atStart=>exact⟨0,f8 _,rfl,Qt.refl _,rfl⟩
   case round =>
    obtain⟨k,O,rfl,j,hp⟩:=hrel;have y:=eP hp;clear hp;have f:=f.ext j.ext;have g:=g.ext j.ext;by_cases r:k<n
    · have l:k<m:=by have:=x.out;omega
      obtain⟨I,S,G,Q,K,rfl,M,s1⟩:=f.at r;obtain⟨J,T,H,R,L,rfl,N,B⟩:=g.at l;generalize o:xs.getD k []=t at *
      generalize p:ys.getD k []=v at *
      have z:=eP o;have A:=eP p;clear o p;by_cases he:t=v
      · have D:decide (t=v)=true:=by simp[he]
        have C:=eP he;clear he;go_wp2
        go_quiet ((go_at_call 17;exact jl (GR (s1.ext ((Ext.refl _).drewN _)) (B.ext ((Ext.refl _).drewN _)))))
        go_wp2;go_roundw
        case rel=>exact⟨k+1,by omega,by go_num,j.drewN _,MY y.out (by have:=f.len;omega) (by have:=g.len;omega) (by rw[z.out,A.out];exact C.out)⟩
        case measure=>simp[intOf];omega
      · have D:decide (t=v)=false:=by simp[he]
        go_wp2
        go_quiet ((go_at_call 17;exact jl (GR (s1.ext ((Ext.refl _).drewN _)) (B.ext ((Ext.refl _).drewN _)))))
        go_wp2;go_ret;have:xs≠ys:=by
         rintro rfl;exact he (z.out.symm.trans A.out)
        exact⟨by simp[this],j.drewN _⟩
    · go_wp2;go_ret;refine⟨?_,j⟩;have h1:=y.out;have h2:=x.out;rw[eR (by have:=f.len;omega),eR (by have:=g.len;omega)]at h1;simp[h1]
 · have s:((n:Int) != (m:Int))=true:=by simp;omega
   go_enter func10,ntmps10
   go_wp2;go_ret;refine⟨?_,Qt.refl _⟩;have:xs≠ys:=by rintro rfl;exact q (f.len.symm.trans g.len)
   simp[this]
def UP(w:World)(xs:List Int)(er:Int)(e:Ending)(w':World):Prop :=
 ∃ a n c,e = .returned (.tuple #[.slice a n c,.int .i64 er])/\Ext w w'/\AD w' w.heap.size a n c xs
def A2(xs ys:List Int):List Int×Int :=
 if Ak xs=true/\Ak ys=true then(if xs.length=ys.length then(comp xs ys,0)else([],4))else([],1)
theorem At(h:Ak xs=true):Oa xs:=gC h
theorem Cs(h:Ak xs=true){i:Nat}(hi:i<xs.length):0<=xs.getD i 0/\xs.getD i 0<xs.length:=by
 have:=(At h).2.1 (xs.getD i 0) (by simp[hi]);exact this
theorem Ju{ys:List Int}(k:SlI w a n c xs)(q:SlI w b m d ys) :
 Calls prog 18 #[.slice a n c,.slice b m d] w (UP w (A2 xs ys).1 (A2 xs ys).2):=by
 have z:=eP k.len;have o:=eP q.len;by_cases s:Ak xs=true
 · by_cases l:Ak ys=true
   · by_cases p:n=m
     · have x:((n:Int) != (m:Int))=false:=by simp[p]
       have B:=eP p;have j:Hid (A2 xs ys=(comp xs ys,0)):=by
        show A2 xs ys=(comp xs ys,0);unfold A2;rw[fE ⟨s,l⟩,fE (by rw[z.out,o.out,p])]
       clear p
       go_enter func18,ntmps18
       go_wp2_with fail
       refine(Be k).mono ?_;rintro e y ⟨rfl,f⟩
       go_wp2_with fail
       refine(Be (q.ext f)).mono ?_;rintro e A ⟨rfl,g⟩
       go_wp2_with fail
       have r:=f.trans g;refine(Ff (k.ext r) (q.ext r) ?_ ?_).mono ?_
       · intro i H;have:=Cs l (i:=i) (by have:=o.out;omega);have h1:=o.out;have h2:=B.out;omega
       · have:=(At l).1;have h1:=o.out;omega
       rintro e I ⟨C,E,D,rfl,t,v⟩;go_wp2
       go_ret2
       rw[j.out];exact⟨C,E,D,rfl,r.trans t,Own.mono v r.size⟩
     · have x:((n:Int) != (m:Int))=true:=by simp;omega
       have j:Hid (A2 xs ys=([],4)):=by
        show A2 xs ys=([],4);unfold A2;rw[fE ⟨s,l⟩,fl (by rw[z.out,o.out];exact p)]
       go_enter func18,ntmps18
       go_wp2_with fail
       refine(Be k).mono ?_;rintro e y ⟨rfl,f⟩
       go_wp2_with fail
       refine(Be (q.ext f)).mono ?_;rintro e A ⟨rfl,g⟩;go_wp2
       go_ret2
       rw[j.out];exact⟨none,0,0,rfl,f.trans g,Own.nil _ _ _⟩
   · have G:Ak ys=false:=by simpa using l
     have j:Hid (A2 xs ys=([],1)):=by
      show A2 xs ys=([],1);unfold A2;rw[fl (fun h=>l h.2)]
     go_enter func18,ntmps18
     go_wp2_with fail
     refine(Be k).mono ?_;rintro e y ⟨rfl,f⟩
     go_wp2_with fail
     refine(Be (q.ext f)).mono ?_;rintro e A ⟨rfl,g⟩;go_wp2
     go_ret2
     rw[j.out];exact⟨none,0,0,rfl,f.trans g,Own.nil _ _ _⟩
 · have F:Ak xs=false:=by simpa using s
   have j:Hid (A2 xs ys=([],1)):=by
    show A2 xs ys=([],1);unfold A2;rw[fl (fun h=>s h.1)]
   go_enter func18,ntmps18
   go_wp2_with fail
   refine(Be k).mono ?_;rintro e y ⟨rfl,f⟩;go_wp2
   go_ret2
   rw[j.out];exact⟨none,0,0,rfl,f,Own.nil _ _ _⟩
def El(xs:List Int):Nat->List Int
 | 0=>List.replicate xs.length 0
 | k+1=>(El xs k).set (xs.getD k 0).toNat k
end Go.Proofs.YthdbingomfdeoaaGreatDoor
namespace Go.Proofs.YthdbingomfdeoaaGreatDoor
variable {x:Int} {a b l xs:List Int} {k n:Nat}
def gen:Nat->List Int->List (List Int)
 | 0,_=>[[]]
 | k+1,pool=>pool.flatMap fun x=>(gen k (pool.erase x)).map (x :: ·)
theorem FK:∀ (k:Nat) (a b:List Int),b.length=k->b.Nodup->(∀ x∈b,x∈a)->b∈gen k a
 | 0,_,b,hl,_,_=>by
  have:b=[]:=fa hl;simp[gen,this]
 | k+1,a,[],hl,_,_=>by simp at hl
 | k+1,a,x :: r,hl,hn,hs=>by
  rw[iH]at hn;simp only[gen,List.mem_flatMap,fh];refine⟨x,hs x (by simp),r,FK k (a.erase x) r (by simpa using hl) hn.2 ?_,rfl⟩;intro y d;have c:y≠x:=by rintro rfl;exact hn.1 d
  exact(List.mem_erase_of_ne c).2 (hs y (by simp[d]))
def pw(xs:List Int):Nat->List Int
 | 0=>idn xs.length
 | k+1=>comp xs (pw xs k)
def MZ(xs:List Int):Bool :=
 comp xs (El xs xs.length) == idn xs.length && (((List.range 6).find? (fun k=>pw xs (k+1) == idn xs.length)).isSome)
theorem UQ:∀ n,n<7->∀ a∈gen n (idn n),MZ a=true:=by decide +kernel
theorem FL :x∈idn n<->0<=x/\x<n:=by
 simp only[idn,fh,iA];constructor
 · rintro⟨k,a,rfl⟩;simp;omega
 · rintro⟨h0,h1⟩;exact⟨x.toNat,by omega,by simp;omega⟩
theorem M0(h:Ak xs=true):MZ xs=true:=by
 obtain⟨h6,b,a⟩:=At h;exact UQ xs.length (by omega) xs (FK _ _ _ rfl a (fun x c=>FL.2 (b x c)))
theorem Pm(h:Ak xs=true):comp xs (El xs xs.length)=idn xs.length:=by
 have:=M0 h;unfold MZ at this;rw[gJ]at this;simpa using this.1
theorem GW{f:Int->Int}(h:k<l.length):(l.map f).getD k 0=f (l.getD k 0):=by
 simp[h]
theorem QD(d:Ak a=true)(e:Ak b=true)(g:a.length=b.length):∀ x∈comp a b,0<=x/\x<a.length:=by
 intro x c;simp only[comp,fh]at c;obtain⟨y,f,rfl⟩:=c;have h1:=(At e).2.1 y f;exact Cs d (by omega)
theorem JU(h:l.Nodup){i j:Nat}(hi:i<l.length)(a:j<l.length)(e:l[i]=l[j]):i=j:=by
 rcases Nat.lt_trichotomy i j with h1|h1|h1
 · exact absurd e (gH.1 h i j hi a h1)
 · exact h1
 · exact absurd e.symm (gH.1 h j i a hi h1)
theorem EO(d:Ak a=true)(c:Ak b=true)(e:a.length=b.length):Ak (comp a b)=true:=by
 refine gl ⟨by rw[Bj,<-e];exact(At d).1,?_,?_⟩
 · intro x i;rw[Bj,<-e];exact QD d c e x i
 · have f:=(At d).2.2;have g:=(At c).2.2;unfold comp;rw[List.Nodup,iZ];refine List.Pairwise.imp_of_mem ?_ g;intro x y i m l he;have h1:=(At c).2.1 x i;have h2:=(At c).2.1 y m;have j:x.toNat<a.length:=by omega
   have k:y.toNat<a.length:=by omega
   simp only[gqq,eQ j,eQ k,fC]at he;have:=JU f j k he;omega
end Go.Proofs.YthdbingomfdeoaaGreatDoor
namespace Go.Proofs.YthdbingomfdeoaaGreatDoor
open Tryz Go Go.RowKit
variable {f:Act} {ops:Array Oper} {ok:Bool} {Q:Exit->Act->World->Prop} {m:List (List Int×Value)} {a b k l xs ys:List Int} {seen:List Nat} {rest:List Oper} {i it j n r:Nat} {o:Oper} {u x y:Operand} {row:Option Nat} {et t:TypeId} {v:Value} {w w':World}
theorem LJ{k:Nat}(h:k<n):(idn n).getD k 0=k:=by
 simp[idn,h]
theorem Im(xs:List Int):comp xs (idn xs.length)=xs:=by
 apply j6
 · simp[comp,idn]
 · intro i h1 h2;simp[comp,idn,h2]
theorem Dj(h:n<=6):Ak (idn n)=true:=by
 refine gl ⟨by rw[AC];exact h,?_,?_⟩
 · intro x d;rw[AC];exact FL.1 d
 · unfold idn;rw[List.Nodup,iZ];refine List.Pairwise.imp ?_ List.nodup_range;intro a b c h;exact c (Int.ofNat.inj h)
theorem Pn:AR prog 4 (.bool false) 1:=by unfold AR;kernel_rfl
theorem TU:∀ n,n<7->∀ a∈gen n (idn n),Ak (El a a.length)=true:=by decide +kernel
theorem LK(h:Ak xs=true):xs.length<7/\xs∈gen xs.length (idn xs.length):=by
 have hp:=At h;exact⟨by have:=hp.1;omega,FK _ _ _ rfl hp.2.2 (fun x a=>FL.2 (hp.2.1 x a))⟩
theorem QE(h:Ak xs=true):Ak (El xs xs.length)=true :=
 TU _ (LK h).1 _ (LK h).2
theorem Gy(xs:List Int):∀ k,(El xs k).length=xs.length
 | 0=>by simp[El]
 | k+1=>by simp[El,Gy xs k]
theorem Po{v:Int}(hi:i<l.length):(l.set i v).getD j 0=if i=j then v else l.getD j 0:=by
 simp only[gqq,ip];by_cases h:i=j
 · subst h;simp[hi]
 · simp[h]
def E7(a m:List Int):Nat->List Int
 | 0=>List.replicate m.length 0
 | k+1=>(E7 a m k).set (a.getD k 0).toNat (m.getD k 0)
def mvd(a m:List Int):List Int:=E7 a m m.length
theorem Em(a m:List Int):∀ k,(E7 a m k).length=m.length
 | 0=>by simp[E7]
 | k+1=>by simp[E7,Em a m k]
theorem LL(h:Ak a=true){j:Nat}(c:j<a.length):∃ i,i<a.length/\a.getD i 0=(j:Int):=by
 have e:=Pm h;have b:j<(El a a.length).length:=by rw[Gy];exact c
 have d:=Cs (QE h) b;rw[Gy]at d;refine⟨((El a a.length).getD j 0).toNat,by omega,?_⟩;have:(comp a (El a a.length)).getD j 0=(idn a.length).getD j 0:=by rw[e]
 unfold comp at this;rw[GW b,LJ c]at this;exact this
theorem QF(h:Ak a=true){i j:Nat}(hi:i<a.length)(b:j<a.length)(e:a.getD i 0=a.getD j 0):i=j:=by
 refine JU (At h).2.2 hi b ?_;simpa[hi,b]using e
theorem Ob{a m:List Int}(hp:Ak a=true)(c:m.length=a.length):∀ k,k<=a.length->∀ i,i<k->(E7 a m k).getD (a.getD i 0).toNat 0=m.getD i 0
 | 0,_,i,hi=>by omega
 | k+1,hk,i,hi=>by
  have h0:=Cs hp (i:=k) (by omega);have h1:=Cs hp (i:=i) (by omega);show((E7 a m k).set (a.getD k 0).toNat (m.getD k 0)).getD (a.getD i 0).toNat 0=_;rw[Po (by rw[Em];omega)];by_cases b:i=k
  · subst b;rw[fE rfl]
  · rw[fl (fun e=>b (QF hp (by omega) (by omega) (by omega)))];exact Ob hp c k (by omega) i (by omega)
theorem Bh(a m:List Int):(mvd a m).length=m.length:=Em a m _
theorem En{m:List Int}(hp:Ak a=true)(b:m.length=a.length){i:Nat}(hi:i<a.length):(mvd a m).getD (a.getD i 0).toNat 0=m.getD i 0:=by
 unfold mvd;rw[b];exact Ob hp b _ (lrf _) i hi
theorem Io{b:Type}{l m:List b}{d:b}(hp:Ak a=true)(f:l.length=a.length)(g:m.length=a.length)(h:∀ i,i<a.length->l.getD (a.getD i 0).toNat d=m.getD (a.getD i 0).toNat d):l=m:=by
 apply j6 (by omega);intro j h1 h2;obtain⟨i,c,e⟩:=LL hp (j:=j) (by omega);have:=h i c;rw[e]at this;simpa[h1,h2]using this
theorem Oc(hi:i<b.length):(comp a b).getD i 0=a.getD (b.getD i 0).toNat 0:=by
 unfold comp;rw[GW hi]
theorem Sp{m:List Int}(g:Ak a=true)(e:Ak b=true)(k:a.length=b.length)(l:m.length=b.length):mvd a (mvd b m)=mvd (comp a b) m:=by
 have j:=EO g e k;have f:(comp a b).length=b.length:=Bj a b;refine Io (d:=0) j (by rw[Bh,Bh];omega) (by rw[Bh];omega) fun i c => ?_;rw[f]at c;have h1:=Cs e c;rw[En j (by omega) (by omega),Oc c,En g (by rw[Bh];omega) (by omega),En e l c]
theorem Od{m:List Int}(hp:Ak a=true)(d:m.length=a.length){x:Int}(f:x∈mvd a m):x∈m:=by
 obtain⟨j,b,rfl⟩:=fR f;rw[Bh]at b;obtain⟨i,c,e⟩:=LL hp (j:=j) (by omega);have h1:=En hp d c;rw[e]at h1;have h2:(mvd a m).getD j 0=(mvd a m)[j]:=by simp[Bh,b]
 rw[<-h2,show((j:Int)).toNat=j from rfl]at *
 rw[h1,gqq,eQ (by omega)];exact fu _
theorem Pp{a b:Option Addr}{c d:Nat}(s:SlI w a n c xs)(t:SlI w b n d ys)(D:Ak xs=true) :
 Calls prog 83 #[.slice a n c,.slice b n d] w (N9 w (mvd xs ys)):=by
 have v:=eP s.len;have B:=eP t.len;have h6:n<=6:=by have:=(At D).1;have h:=v.out;omega
 go_enter func83,ntmps83
 go_wp2_with(at_make;refine CJ rfl rfl underlying35 Cc rfl rfl rfl (by omega) (by unfold maxLen;omega) ?_;intro O l g)
 go_loopw[6] (fun i wr=>∃ k:Nat,k<=n/\i = .int .i64 k/\Ext w wr/\AD wr w.heap.size (some ⟨w.heap.size,0,none⟩) n n (E7 xs ys k)) (fun i _=>n-(intOf i).toNat)
 case atStart=>exact⟨0,f8 _,rfl,g,by unfold AD;rw[show E7 xs ys 0=List.replicate ys.length 0 from rfl,B.out];simpa using l⟩
 case round =>
  clear l g;obtain⟨k,L,rfl,q,r⟩:=hrel;have s:=s.ext q;have t:=t.ext q;by_cases f:k<n
  · obtain⟨F,M,rfl,m⟩:=s.at f;obtain⟨G,N,rfl,o⟩:=t.at f;have J:=m k f;have K:=o k f;have p:=Cs D (i:=k) (by have:=v.out;omega);have C:E7 xs ys (k+1)=(E7 xs ys k).set (xs.getD k 0).toNat (ys.getD k 0):=rfl;rw[v.out]at p;generalize x:xs.getD k 0=y at *
    generalize A:ys.getD k 0=z at *
    obtain⟨P,Q⟩:=p;have H:=Own.cellAt r (j:=y.toNat) (by omega);have I:=Own.frozenAt r y.toNat
    have E:=eP C;clear m o x A C
    go_upto_region 5 with(fail)
    go_region
    all_goals
     go_wp2;go_roundw
     case rel =>
      refine⟨k+1,by omega,by go_num,(Ext.setCell (Ext.drew q) (lrf _) _),?_⟩;have:=Own.stored (Own.drew r) y.toNat (.int .i64 z);unfold AD;rw[E.out,ju];exact this
     case measure=>simp[intOf];omega
  · have e:k=n:=by omega
    go_wp2;go_ret;subst e;have:mvd xs ys=E7 xs ys k:=by unfold mvd;rw[B.out]
    rw[this];exact⟨_,_,_,rfl,q,r⟩
def AY(k:List Int):Value := .agg (k.map (Value.int .i64)).toArray
structure FM(P:Program)(kt et:TypeId):Prop where
 arr:P.underlying kt=some (.array 6 et)
 int:P.underlying et=some (.int .i64)
 size:(P.info? et).map (·.size)=some 1
theorem six(h:k.length=6):∃ a b c d e f,k=[a,b,c,d,e,f]:=by
 match k,h with
 | [a,b,c,d,e,f],_=>exact⟨a,b,c,d,e,f,rfl⟩
section
variable {P:Program} {kt et:TypeId} (w:World)
theorem Ax(a:FM P kt et)(cs:Array Value)(i:Nat)(v:Value)(h:cs[i]?=some v):(part et cs i).run P w = .ok v w:=by
 simp[part,isAgg,fQ a.int,h]
theorem Hi(c:FM P kt et)(d:Nat)(a b:Int):(Op.equalIn (d+1) et (.int .i64 a) (.int .i64 b)).run P w = .ok (a == b) w:=by
 simp[Op.equalIn,fQ c.int]
theorem Jv(l:FM P kt et)(d:Nat){a b:List Int}(A:a.length=6)(B:b.length=6) :
 (Op.equalIn (d+2) kt (AY a) (AY b)).run P w = .ok (decide (a=b)) w:=by
 obtain⟨m,n,o,p,q,r,rfl⟩:=six A;obtain⟨s,t,v,x,y,z,rfl⟩:=six B;obtain⟨i,C,F⟩:∃ i,P.info? et=some i/\i.size=1:=by
  have:=l.size;cases h:P.info? et with
  | none=>rw[h]at this;cases this
  | some i=>rw[h]at this;exact⟨i,rfl,by simpa using this⟩
 have D:List.range' 0 6=[0,1,2,3,4,5]:=rfl;have he:=fun(a b:Int) (w:World)=>Hi w l d a b;have G:∀ (c e f g j k:Value) (w:World),(part et #[c,e,f,g,j,k] 0).run P w = .ok c w:=fun _ _ _ _ _ _ w=>Ax w l _ 0 _ rfl;have H:∀ (c e f g j k:Value) (w:World),(part et #[c,e,f,g,j,k] 1).run P w = .ok e w:=fun _ _ _ _ _ _ w=>Ax w l _ 1 _ rfl;have I:∀ (c e f g j k:Value) (w:World),(part et #[c,e,f,g,j,k] 2).run P w = .ok f w:=fun _ _ _ _ _ _ w=>Ax w l _ 2 _ rfl
 have J:∀ (c e f g j k:Value) (w:World),(part et #[c,e,f,g,j,k] 3).run P w = .ok g w:=fun _ _ _ _ _ _ w=>Ax w l _ 3 _ rfl;have K:∀ (c e f g j k:Value) (w:World),(part et #[c,e,f,g,j,k] 4).run P w = .ok j w:=fun _ _ _ _ _ _ w=>Ax w l _ 4 _ rfl;have L:∀ (c e f g j k:Value) (w:World),(part et #[c,e,f,g,j,k] 5).run P w = .ok k w:=fun _ _ _ _ _ _ w=>Ax w l _ 5 _ rfl;rw[Op.equalIn];simp only[AY,fq,fQ l.arr,eX];generalize M:Op.equalIn (d+1) et=E at *
 simp[sizeOf,typeInfo,C,F,D,G,H,I,J,K,L,he];by_cases h0:m=s <;> simp[h0];by_cases h1:n=t <;> simp[h1];by_cases h2:o=v <;> simp[h2];by_cases h3:p=x <;> simp[h3];by_cases h4:q=y <;> simp[h4];by_cases h5:r=z <;> simp[h5]
theorem Gz(c:FM P kt et)(b:Bool)(d:Nat)(a:Int):(Instr.checkKey b (d+1) et (.int .i64 a)).run P w = .ok () w:=by
 rw[Instr.checkKey];simp[fQ c.int]
theorem FN(k:FM P kt et)(l:Bool)(d:Nat){a:List Int}(m:a.length=6):(Instr.checkKey l (d+2) kt (AY a)).run P w = .ok () w:=by
 obtain⟨y,z,A,B,C,D,rfl⟩:=six m;obtain⟨i,n,p⟩:∃ i,P.info? et=some i/\i.size=1:=by
  have:=k.size;cases h:P.info? et with
  | none=>rw[h]at this;cases this
  | some i=>rw[h]at this;exact⟨i,rfl,by simpa using this⟩
 have o:List.range' 0 6=[0,1,2,3,4,5]:=rfl;have he:=fun(a:Int) (w:World)=>Gz w k l d a;have q:∀ (b c e f g j:Value) (w:World),(part et #[b,c,e,f,g,j] 0).run P w = .ok b w:=fun _ _ _ _ _ _ w=>Ax w k _ 0 _ rfl;have r:∀ (b c e f g j:Value) (w:World),(part et #[b,c,e,f,g,j] 1).run P w = .ok c w:=fun _ _ _ _ _ _ w=>Ax w k _ 1 _ rfl;have s:∀ (b c e f g j:Value) (w:World),(part et #[b,c,e,f,g,j] 2).run P w = .ok e w:=fun _ _ _ _ _ _ w=>Ax w k _ 2 _ rfl
 have t:∀ (b c e f g j:Value) (w:World),(part et #[b,c,e,f,g,j] 3).run P w = .ok f w:=fun _ _ _ _ _ _ w=>Ax w k _ 3 _ rfl;have v:∀ (b c e f g j:Value) (w:World),(part et #[b,c,e,f,g,j] 4).run P w = .ok g w:=fun _ _ _ _ _ _ w=>Ax w k _ 4 _ rfl;have x:∀ (b c e f g j:Value) (w:World),(part et #[b,c,e,f,g,j] 5).run P w = .ok j w:=fun _ _ _ _ _ _ w=>Ax w k _ 5 _ rfl;rw[Instr.checkKey];simp only[AY,fq,fQ k.arr,eX];generalize F:Instr.checkKey l (d+1) et=E at *
 simp[sizeOf,typeInfo,n,p,o,q,r,s,t,v,x,he]
end
def Bn:Nat->List (List Int×Value)->List MapEntry
 | _,[]=>[]
 | i,(k,v) :: r=>{ key:=AY k,val:=v,born:=i } :: Bn (i+1) r
structure AB(w:World)(r:Nat)(m:List (List Int×Value)):Prop where
 obj:w.heap[r]?=some (.map (Bn 0 m).toArray m.length)
 six:∀ p∈m,p.1.length=6
 nodup:(m.map (·.1)).Nodup
def BF(k:List Int):Nat->List (List Int×Value)->Option (Nat×Value)
 | _,[]=>none
 | i,(k',v) :: r=>if k=k' then some (i,v)else BF k (i+1) r
theorem BU{k:List Int}:∀ {i:Nat} {m:List (List Int×Value)},BF k i m=none<->k ∉ m.map (·.1)
 | _,[]=>by simp[BF]
 | i,(k',v) :: r=>by
  unfold BF;by_cases h:k=k'
  · simp[h]
  · simp[h,BU (i:=i+1) (m:=r)]
theorem C7:∀ (i:Nat) (m:List (List Int×Value)),(Bn i m).length=m.length
 | _,[]=>rfl
 | i,(_,_) :: r=>by simp[Bn,C7 (i+1) r]
theorem GX:∀ (i:Nat) (m:List (List Int×Value)) (k:List Int) (v:Value),Bn i (m ++ [(k,v)])=Bn i m ++ [{ key:=AY k,val:=v,born:=i+m.length }]
 | _,[],_,_=>rfl
 | i,(_,_) :: r,k,v=>by
  simp only[iT,Bn,GX (i+1) r k v,fW];rw[i7,ie 1]
section
variable {P:Program} {kt et:TypeId} (w:World)
theorem Eo(d:FM P kt et){k:List Int}(h6:k.length=6):∀ (m:List (List Int×Value)) (b i:Nat),(∀ p∈m,p.1.length=6) ->
 (Instr.findAsking kt (AY k) (Bn b m) i).run P w = .ok (BF k i m) w
 | [],_,_,_=>by simp[Instr.findAsking,Bn,BF]
 | (k',v) :: r,b,i,h=>by
  have h1:k'.length=6:=h (k',v) (by simp);have c:(Op.equal kt (AY k) (AY k')).run P w = .ok (decide (k=k')) w:=Jv w d 9998 h6 h1;have e:=Eo d h6 r (b+1) (i+1) (fun p hp=>h p (by simp[hp]));unfold Bn BF;rw[Instr.findAsking];simp only[fq,c,eX];by_cases a:k=k'
  · simp[a]
  · simp[a,e]
theorem GY(a:FM P kt et){k:List Int}(h6:k.length=6)(m:List (List Int×Value))(h:∀ p∈m,p.1.length=6) :
 (Instr.findKey kt (AY k) (Bn 0 m)).run P w = .ok (BF k 0 m) w:=by
 have c:Instr.findNow (.array 6 et) (AY k) (Bn 0 m) 0=if m=[]then some none else none:=by
  cases m with
  | nil=>rfl
  | cons p r=>obtain⟨d,v⟩:=p;simp[Bn,Instr.findNow,Instr.sameNow]
 simp only[Instr.findKey,fq,fQ a.arr,eX,c];by_cases b:m=[]
 · subst b;simp[BF]
 · simp[b,Eo w a h6 m 0 0 h]
end
theorem AB.lt(h:AB w r m):r<w.heap.size:=by
 rcases fL r w.heap.size with b|a
 · exact b
 · have:=h.obj;rw[gN a]at this;cases this
theorem AB.of_block(h:AB w r m)(e:w'.heap[r]?=w.heap[r]?):AB w' r m:=⟨e.trans h.obj,h.six,h.nodup⟩
theorem AB.ext(h:AB w r m)(e:Ext w w'):AB w' r m:=h.of_block (e.block h.lt)
theorem AB.kept(h:AB w r m)(b:w.grownBy w' row)(a:some r≠row):AB w' r m:=h.of_block (b.block r h.lt a)
def Fg(z:Value)(m:List (List Int×Value))(k:List Int):Value:=((BF k 0 m).map (·.2)).getD z
def TV(m:List (List Int×Value))(k:List Int):Bool:=(BF k 0 m).isSome
def LM(m:List (List Int×Value))(k:List Int)(v:Value):List (List Int×Value) :=
 match BF k 0 m with
 | some (i,_)=>m.set i (k,v)
 | none=>m ++ [(k,v)]
theorem DC{k:List Int}:∀ {j:Nat} {m:List (List Int×Value)} {i:Nat} {v:Value},BF k j m=some (i,v)->j<=i/\m[i-j]?=some (k,v)
 | _,[],_,_,h=>by simp[BF]at h
 | j,(k',v') :: r,i,v,h=>by
  unfold BF at h;by_cases hk:k=k'
  · rw[fE hk]at h;simp only[fc,j7]at h;obtain⟨rfl,rfl⟩:=h;subst hk;simp
  · rw[fl hk]at h;obtain⟨h1,h2⟩:=DC h;refine⟨by omega,?_⟩;rw[show i-j=(i-(j+1))+1 by omega];simpa using h2
theorem Dk:∀ (j:Nat) (m:List (List Int×Value)) (i:Nat),(Bn j m)[i]?=(m[i]?).map (fun p=>{ key:=AY p.1,val:=p.2,born:=j+i })
 | _,[],_=>by simp[Bn]
 | j,(k,v) :: r,0=>by simp[Bn]
 | j,(k,v) :: r,i+1=>by
  simp only[Bn,kO,Dk (j+1) r i];rw[i7,ie 1 i]
theorem QG:∀ (j:Nat) (m:List (List Int×Value)) (i:Nat) (k:List Int) (v:Value),i<m.length->Bn j (m.set i (k,v))=(Bn j m).set i { key:=AY k,val:=v,born:=j+i }:=by
 intro j m i k v b;apply iO;intro t;rw[Dk,ip,ip,C7];by_cases a:i=t
 · subst a;simp[b]
 · simp[a,Dk]
theorem KQ(k:List Int):Instr.sameBits 10000 (AY k) (AY k)=true:=by
 have h:∀ (l:List Value) (n:Nat),(∀ v∈l,∃ a,v=Value.int .i64 a)->(l.zip l).all (fun x=>Instr.sameBits n x.1 x.2)=true:=by
  intro l n
  induction l with
  | nil=>intro _;rfl
  | cons v r ih =>
   intro b;obtain⟨a,rfl⟩:=b v (by simp);simp only[List.zip_cons_cons,List.all_cons,gJ];refine⟨?_,ih (fun u hu=>b u (by simp[hu]))⟩;cases n <;> simp[Instr.sameBits]
 show Instr.sameBits (9999+1) (.agg _) (.agg _)=true;rw[Instr.sameBits];simp only[beq_self_eq_true,Bool.true_and];exact h _ 9999 (by intro v b;simp only[fh]at b;obtain⟨a,_,rfl⟩:=b;exact⟨a,rfl⟩)
section
variable {P:Program} {kt et mt vt:TypeId} {w:World}
theorem Ip(g:P.underlying mt=some (.map kt vt))(f:FM P kt et){z:Value}(j:(zeroValue vt).run P w = .ok z w){r:Nat}{m:List (List Int×Value)}(h:AB w r m){k:List Int}(h6:k.length=6)(b:Bool) :
 (Instr.lookup mt (.map (some r)) (AY k) b).run P w = .ok (if b then .tuple #[Fg z m k,.bool (TV m k)]else Fg z m k) w:=by
 have d:∀ c,(Instr.checkKey c 10000 kt (AY k)).run P w = .ok () w:=fun c=>FN w f c 9998 h6;have e:=GY w f h6 m h.six;have i:=h.obj;unfold Fg TV;simp only[Instr.lookup,fq,fQ g,eX,getObj,Sem.run,i];cases a:BF k 0 m with
 | none=>cases b <;> simp[j,d,e,a]
 | some p=>cases b <;> simp[d,e,a]
theorem Sq(J:P.underlying mt=some (.map kt vt))(I:FM P kt et){r:Nat}{m:List (List Int×Value)}(h:AB w r m){k:List Int}(h6:k.length=6)(v:Value) :
 ∃ E,(Instr.mapUpdate mt (.map (some r)) (AY k) v).run P w = .ok () E/\AB E r (LM m k v)/\w.grownBy E (some r):=by
 have G:∀ A,(Instr.checkKey A 10000 kt (AY k)).run P w = .ok () w:=fun A=>FN w I A 9998 h6;have H:=GY w I h6 m h.six;have z:=h.obj;have B:=h.lt;have l:∀ o:Obj,w.grownBy { w with heap:=w.heap.setIfInBounds r o } (some r):=by
  intro o;refine⟨rfl,rfl,rfl,by simp,fun j _ D => ?_⟩;have:r≠j:=by rintro rfl;exact D rfl
  simp only;rw[je this]
 have x:∀ o:Obj,({ w with heap:=w.heap.setIfInBounds r o }:World).heap[r]?=some o:=by
  intro o;simp only;rw[jx B]
 unfold LM;cases d:BF k 0 m with
 | none =>
  refine⟨_,?_,⟨x (.map (Bn 0 (m ++ [(k,v)])).toArray (m.length+1)) |>.trans (by simp),?_,?_⟩,l _⟩
  · simp only[Instr.mapUpdate,fq,fQ J,eX,getObj,setObj,Sem.run,z,G];rw[H];simp[d,Sem.run,z,GX]
  · intro p hp;rcases fo.1 hp with hp|hp
    · exact h.six p hp
    · simp only[eV]at hp;subst hp;exact h6
  · rw[fM,io];refine⟨h.nodup,by simp,?_⟩;intro a L b F;simp only[gM,ix,eV]at F;subst F;rintro rfl;exact BU.1 d L
 | some p =>
  obtain⟨i,K⟩:=p;obtain⟨_,n⟩:=DC d;rw[j8]at n;have f:i<m.length:=by
   rcases fL i m.length with h|h
   · exact h
   · simp[fi h]at n
  have c:(m.set i (k,v)).map (·.1)=m.map (·.1):=by
   rw[ju];apply iO;intro t;rw[ip];by_cases y:i=t
   · subst y;have C:m[i]=(k,K):=by rw[eQ f]at n;simpa using n
     simp[f,C]
   · simp[y]
  refine⟨_,?_,⟨x (.map (Bn 0 (m.set i (k,v))).toArray m.length) |>.trans (by simp),?_,?_⟩,l _⟩
  · simp only[Instr.mapUpdate,fq,fQ J,eX,getObj,Sem.run,z,G];rw[H];have g:(Bn 0 m)[i]?=some { key:=AY k,val:=K,born:=0+i }:=by
     rw[Dk,n];rfl
    have s:((Bn 0 m).modify i fun e=>{ key:=AY k,val:=v,born:=e.born })=Bn 0 (m.set i (k,v)):=by
     rw[QG _ _ _ _ _ f];apply iO;intro t;rw[List.getElem?_modify,ip,C7];by_cases y:i=t
     · subst y;simp[g,f]
     · simp[y]
    simp[d,g,Instr.keyThatStays,KQ,setObj,Sem.run,z,s]
  · intro p hp;have:p.1∈(m.set i (k,v)).map (·.1):=gn hp;rw[c]at this;obtain⟨q,M,e⟩:=fh.1 this;rw[<-e];exact h.six q M
  · rw[c];exact h.nodup
end
def AF(w:World)(it r n:Nat)(seen:List Nat):Prop:=w.heap[it]?=some (.mapIter (some r) n seen.toArray n)
theorem AF.lt(h:AF w it r n seen):it<w.heap.size:=by
 rcases fL it w.heap.size with b|a
 · exact b
 · unfold AF at h;rw[gN a]at h;cases h
theorem AF.ext(h:AF w it r n seen)(e:Ext w w'):AF w' it r n seen:=(e.block h.lt).trans h
theorem AF.kept(h:AF w it r n seen)(b:w.grownBy w' row)(a:some it≠row):AF w' it r n seen:=(b.block it h.lt a).trans h
theorem LN{e:MapEntry}(h:e∈Bn 0 m):∃ i k v,m[i]?=some (k,v)/\e={ key:=AY k,val:=v,born:=i }:=by
 obtain⟨i,a⟩:=lW.1 h;rw[Dk]at a;cases b:m[i]? with
 | none=>rw[b]at a;cases a
 | some p =>
  rw[b]at a;refine⟨i,p.1,p.2,b,?_⟩;simpa using a.symm
theorem FO{e:MapEntry}(h:e∈Bn 0 m):e.born<m.length:=by
 obtain⟨i,k,v,a,rfl⟩:=LN h;rcases fL i m.length with h|h
 · exact h
 · simp[fi h]at a
theorem JV:∀ (j:Nat) (m:List (List Int×Value)) (i:Nat) (k:List Int) (v:Value),m[i]?=some (k,v)->(Bn j m).find? (fun e=>e.born == j+i)=some { key:=AY k,val:=v,born:=j+i }
 | _,[],_,_,_,h=>by simp at h
 | j,(k',v') :: r,0,k,v,h=>by
  simp only[jQ,fc,j7]at h;obtain⟨rfl,rfl⟩:=h;simp[Bn]
 | j,(k',v') :: r,i+1,k,v,h=>by
  have a:=JV (j+1) r i k v (by simpa using h);rw[show j+(i+1)=j+1+i by omega];unfold Bn;rw[List.find?_cons_of_neg (by simp;omega)];exact a
section
variable {P:Program} {mt kt vt:TypeId} {w:World}
theorem Pq(a:P.underlying mt=some (.map kt vt)){r:Nat}{m:List (List Int×Value)}(h:AB w r m) :
 (Instr.range mt (.map (some r))).run P w = .ok (.pointer (some ⟨w.heap.size,0,none⟩)) (w.alloc (.mapIter (some r) m.length #[] m.length)):=by
 have b:=h.obj;simp[Instr.range,fQ a,getObj,Sem.run,b,newObj]
theorem QH(h:AB w r m)(hi:AF w it r m.length seen) :
 ((∀ i,i<m.length->i∈seen)/\(Instr.next (.pointer (some ⟨it,0,none⟩)) false t).run P w = .ok (.tuple #[.bool false]) w) \/
 ∃ i k v J,i<m.length/\i ∉ seen/\m[i]?=some (k,v)/\(Instr.next (.pointer (some ⟨it,0,none⟩)) false t).run P w = .ok (.tuple #[.bool true,AY k,v]) J /\
  AF J it r m.length (seen ++ [i])/\w.grownBy J (some it):=by
 have L:=h.obj;have x:w.heap[it]?=some (.mapIter (some r) m.length seen.toArray m.length):=hi;have g:(!seen.toArray.isEmpty && !(Bn 0 m).toArray.isEmpty && (Bn 0 m).toArray.all (fun e=>decide (e.born >= m.length)))=false:=by
  cases m with
  | nil=>simp[Bn]
  | cons p q =>
   obtain⟨k,v⟩:=p;simp[Bn]
 have n:((Bn 0 m).toArray.filter (fun e => !seen.toArray.contains e.born)).filter (fun e=>decide (e.born<m.length))=(Bn 0 m).toArray.filter (fun e => !seen.toArray.contains e.born):=by
  apply m8;simp only[Array.toList_filter];rw[List.filter_eq_self];intro e he;have:=(jc.1 he).1;simpa using FO (by simpa using this)
 have l:((Bn 0 m).toArray.filter (fun e => !seen.toArray.contains e.born)).filter (fun e=>decide (e.born >= m.length))=#[]:=by
  apply m8;simp only[Array.toList_filter];rw[List.filter_eq_nil_iff];intro e he;have:=(jc.1 he).1;have:=FO (by simpa using this);simp;omega
 generalize B:(Bn 0 m).toArray.filter (fun e => !seen.toArray.contains e.born)=left at *
 have y:∀ e∈left,∃ i k v,m[i]?=some (k,v)/\i ∉ seen/\e={ key:=AY k,val:=v,born:=i }:=by
  intro e he;rw[<-B]at he;obtain⟨h1,h2⟩:=Array.mem_filter.1 he;obtain⟨i,k,v,C,rfl⟩:=LN (by simpa using h1);exact⟨i,k,v,C,by simpa using h2,rfl⟩
 by_cases a:left=#[]
 · left;refine⟨?_,?_⟩
   · intro i F;by_cases D:i∈seen
     · exact D
     · exfalso;have:({ key:=AY m[i].1,val:=m[i].2,born:=i }:MapEntry)∈left:=by
        rw[<-B,Array.mem_filter];refine⟨?_,by simpa using D⟩;rw[List.mem_toArray,lW];exact⟨i,by rw[Dk,eQ F];simp⟩
       rw[a]at this;simp at this
   · simp only[Instr.next,fq,getObj,Sem.run,x,L,eX];simp only[g,B,n,l];simp[a,choose,Sem.run,Question.forced]
 · right;have o:0<left.size:=by
    rcases fj left.size with h0|h0
    · exact absurd (Array.eq_empty_of_size_eq_zero h0) a
    · exact h0
   obtain⟨c,d,K,E,f⟩:∃ c d,c<left.size/\(choose (.mapNext left.size)).run P w = .ok c d/\(d=w\/d=w.drew):=by
    by_cases h1:left.size<=1
    · exact⟨0,w,o,by simp[choose,Sem.run,Question.forced,h1],.inl rfl⟩
    · refine⟨w.tape w.drawn (.mapNext left.size)%left.size,w.drew,fN _ o,?_,.inr rfl⟩;simp[choose,Sem.run,Question.forced,h1,Question.cut]
   obtain⟨i,k,v,C,D,he⟩:=y left[c] (Array.getElem_mem K);have G:i<m.length:=by
    rcases fL i m.length with h|h
    · exact h
    · simp[fi h]at C
   have b:d.heap=w.heap:=by rcases f with rfl | rfl <;> rfl
   have A:d.heap[it]?=some (.mapIter (some r) m.length seen.toArray m.length):=by rw[b];exact x
   refine⟨i,k,v,{ d with heap:=d.heap.setIfInBounds it (.mapIter (some r) m.length (seen.toArray.push i) m.length) },G,D,C,?_,?_,?_⟩
   · simp only[Instr.next,fq,getObj,Sem.run,x,L,eX];simp only[g,B,n,l];have s:((if left.isEmpty=true then #[none]else #[]) ++ (left ++ #[]).map some)=left.map some:=by
      simp[a]
     simp only[s];have I:(left.map some).size=left.size:=by simp
     simp only[I,iz,ja,fq,eX,E];have z:(left.map some)[c]?=some (some { key:=AY k,val:=v,born:=i }):=by
      rw[Array.getElem?_map,kM K,he];rfl
     simp only[z];simp[setObj,Sem.run,A]
   · show({ d with heap:=d.heap.setIfInBounds it _ }:World).heap[it]?=_;have:it<d.heap.size:=by rw[b];exact hi.lt
     simp only;rw[jx this];simp
   · refine⟨by rcases f with rfl | rfl <;> rfl,by rcases f with rfl | rfl <;> rfl,by rcases f with rfl | rfl <;> rfl,by simp[b],fun j _ H => ?_⟩;have:it≠j:=by rintro rfl;exact H rfl
     simp only;rw[je this,b]
theorem Pr(h:AB w r m)(hi:AF w it r m.length (seen ++ [i]))(c:m[i]?=some (k,v)) :
 (Instr.entry (.pointer (some ⟨it,0,none⟩))).run P w = .ok (.tuple #[AY k,v]) w:=by
 have d:=h.obj;have a:w.heap[it]?=some (.mapIter (some r) m.length (seen ++ [i]).toArray m.length):=hi;have b:=JV 0 m i k v c;rw[fP]at b;simp[Instr.entry,getObj,Sem.run,a,d,b]
theorem LO(c:o.guard=none)(e:o.op = .makeMap mt none)
 (d:∀ a,AB a w.heap.size []->Ext w a->w.heap.size<a.heap.size->wpList P ops Q rest (f.put o.dst (.map (some w.heap.size))) a):wpList P ops Q (o :: rest) f w:=by
 refine gu c fun K b => ?_;unfold Oper.wp execOp;have g:(Instr.makeMap mt none).run P w = .ok (.map (some w.heap.size)) (w.alloc (.map #[] 0)):=by
  simp[Instr.makeMap,newObj,Sem.run]
 simp only[e,km,fq,g,eX,fO,Oper.upon];exact b _ _ (d _ ⟨ji w _,by simp,by simp⟩ ((Ext.refl w).alloc _) (by simp))
theorem JW(b:o.guard=none)(g:o.op = .lookup mt x y ok)
 (e:P.underlying mt=some (.map kt vt)) (d:FM P kt et) {z:Value} (l:∀ w,(zeroValue vt).run P w = .ok z w) {r:Nat} {m:List (List Int×Value)} {k:List Int}
 (i:f.eval x = .map (some r)) (j:f.eval y=AY k) (h:AB w r m) (h6:k.length=6)
 (c:wpList P ops Q rest (f.put o.dst (if ok then .tuple #[Fg z m k,.bool (TV m k)]else Fg z m k)) w):wpList P ops Q (o :: rest) f w:=by
 refine gu b fun K a => ?_;unfold Oper.wp execOp;simp only[g,i,j,fq,Ip e d (l w) h h6 ok,eX,fO,Oper.upon];exact a _ _ c
theorem M2(e:o.guard=none)(c:o.op = .mapUpdate mt x y u\/o.op = .insert mt x y u)
 (j:P.underlying mt=some (.map kt vt)) (i:FM P kt et) {r:Nat} {m:List (List Int×Value)} {k:List Int} {v:Value}
 (l:f.eval x = .map (some r)) (n:f.eval y=AY k) (hu:f.eval u=v) (h:AB w r m) (h6:k.length=6)
 (g:∀ b,AB b r (LM m k v)->w.grownBy b (some r)->wpList P ops Q rest (f.put o.dst undef) b):wpList P ops Q (o :: rest) f w:=by
 refine gu e fun K d => ?_;obtain⟨b,a,h2,h3⟩:=Sq j i h h6 v;unfold Oper.wp execOp;rcases c with c|c
 all_goals
  simp only[c,l,n,hu,fq,a,eX,fO,Oper.upon];exact d _ _ (g b h2 h3)
theorem QI(c:o.guard=none)(g:o.op = .range mt x)
 (e:P.underlying mt=some (.map kt vt)) {r:Nat} {m:List (List Int×Value)} (i:f.eval x = .map (some r)) (h:AB w r m)
 (d:∀ a,AF a w.heap.size r m.length []->Ext w a->w.heap.size<a.heap.size->wpList P ops Q rest (f.put o.dst (.pointer (some ⟨w.heap.size,0,none⟩))) a):wpList P ops Q (o :: rest) f w:=by
 refine gu c fun K b => ?_;unfold Oper.wp execOp;simp only[g,i,fq,Pq e h,eX,fO,Oper.upon];exact b _ _ (d _ (ji w _) ((Ext.refl w).alloc _) (by simp))
theorem Oe(e:o.guard=none)(j:o.op = .next x false)
 {r d:Nat} {m:List (List Int×Value)} {a:List Nat} (l:f.eval x = .pointer (some ⟨d,0,none⟩)) (h:AB w r m) (hi:AF w d r m.length a)
 (h1:(∀ i,i<m.length->i∈a)->wpList P ops Q rest (f.put o.dst (.tuple #[.bool false])) w)
 (h2:∀ i k v c,i<m.length->i ∉ a->m[i]?=some (k,v)->AF c d r m.length (a ++ [i])->w.grownBy c (some d)->wpList P ops Q rest (f.put o.dst (.tuple #[.bool true,AY k,v])) c) :
 wpList P ops Q (o :: rest) f w:=by
 refine gu e fun K b => ?_;unfold Oper.wp execOp;rcases QH (P:=P) (t:=o.type) h hi with⟨z,g⟩|⟨i,k,v,c,n,p,q,g,s,y⟩
 · simp only[j,l,fq,g,eX,fO,Oper.upon];exact b _ _ (h1 z)
 · simp only[j,l,fq,g,eX,fO,Oper.upon];exact b _ _ (h2 i k v c n p q s y)
theorem QJ(c:o.guard=none)(j:o.op = .entry x)
 {r d i:Nat} {m:List (List Int×Value)} {a:List Nat} {k:List Int} {v:Value} (l:f.eval x = .pointer (some ⟨d,0,none⟩)) (h:AB w r m) (hi:AF w d r m.length (a ++ [i])) (g:m[i]?=some (k,v))
 (e:wpList P ops Q rest (f.put o.dst (.tuple #[AY k,v])) w):wpList P ops Q (o :: rest) f w:=by
 refine gu c fun K b => ?_;unfold Oper.wp execOp;simp only[j,l,fq,Pr h hi g,eX,fO,Oper.upon];exact b _ _ e
end
end Go.Proofs.YthdbingomfdeoaaGreatDoor
