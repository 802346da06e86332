/- Part Pz17. -/
import Derived.Test.YtlbmnokpiilfpaaGreatDoorPz16
import Derived.Test.YtlbmnokpiilfpaaGreatDoorPz11
import Derived.Deep.CutBlock
set_option linter.all false
set_option maxRecDepth 100000
set_option maxHeartbeats 100000000
namespace Go.Proofs.YtlbmnokpiilfpaaGreatDoor
open Tryz Go Go.RowKit
def wj:=@ByteArray.size_append
variable {a0 f:Act} {ops:Array Oper} {neg:Bool} {s:ByteArray} {Q:Exit->Act->World->Prop} {B vars z:Int} {news rows rows':List (List Value)} {xs:List Int} {rest:List Oper} {l:List UInt8} {cs ds row vs zs:List Value} {K N R b b' b0 base bytes c c' cx g i k m n n':Nat} {o:Oper} {y:Operand} {A a a':Option Addr} {cons:Option Nat} {P:Program} {q r:Rat} {e e' t ty:TypeId} {r0 r1 v:Value} {w w':World}
def Yn(w:World)(o:Option Nat)(e:Ending)(w':World):Prop:=∃ s a n c,e = .returned (.tuple #[.agg (Ac s a n c).toArray,.bool o.isSome])/\Ext w w'/\∀ x,o=some x->s=false/\Mg w' a n c x
theorem Xu{x:Nat}(h0:0<x)(c:x<4294967296):Mg (w.alloc (.cells #[.int .u32 (x:Int)] 241)) (some ⟨w.heap.size,0,none⟩) 1 1 x:=by
 have b:=AB w w.heap.size 241 #[.int .u32 (x:Int)] 1 rfl (lrf _) (by omega);have a:SlN .u32 (w.alloc (.cells #[.int .u32 (x:Int)] 241)) (some ⟨w.heap.size,0,none⟩) 1 1 [x]:=b.sl;exact⟨[x],a,⟨fun z d=>by rw[pF.1 d];exact c,W.nrm_single (by omega),by simp[W.val]⟩,b.ty⟩
theorem Mh(h:k<s.size):(An s).take (k+1)=(An s).take k ++ [s[k]]:=by
 have h1:k<(An s).length:=by rw[Ay];exact h
 rw[pB h1];have:=E5 h;rw[gqq,oO h1,pY]at this;rw[this]
theorem Uf(a:W.digs l):FO l=if l=[]then none else some (W.decV l):=by
 by_cases h:l=[]
 · subst h;rfl
 · rw[pC h,Ip a h]
theorem Ug(h:k<s.size)(b:¬ W.isDig s[k]):FO (An s)=none:=by
 unfold FO;rw[pC];simp only[qQ,rK,not_and];intro _ a;have h1:s[k]∈An s:=by
  have h2:k<(An s).length:=by rw[Ay];exact h
  have:=E5 h;rw[gqq,oO h2,pY]at this;rw[<-this];exact qG h2
 exact b (Ey.1 (a _ h1))
theorem Nh(h:W.digs l){k:Nat}(a:l.length<=k):W.decV l<P2 (4*k):=by
 refine pS (W.decV_lt h) ?_;refine pD (pR (by omega) a) ?_;unfold P2;rw[vM];exact tG (by omega) _
structure FSt(w wr:World)(l:List UInt8)(k:Nat)(a:Option Addr)(n c:Nat):Prop where
 ext:Ext w wr
 res:Arr wr w.heap.size 97 (Ac false none 0 0)
 m:Mg wr a n c (W.decV (l.take k))
 ok:W.digs (l.take k)
theorem FP(hs:s.size<=100000):Calls prog 148 #[.string s] w (Yn w (FO (An s))):=by
 have ao:=Ay s
 go_enter func148,ntmps148
 go_upto_region 1 with(fail)
 refine AP ?_;intro w0 J I aj;have F:Hid (FSt w w0 (An s) 0 none 0 0):=qh ⟨J,I,by rw[rf];exact Mg.nil w0,by rw[rf];intro c P;cases P⟩;clear aj I J;go_wp2
 go_loopg [4,5] s.size (fun gk mv iv wr=>∃ (k n c:Nat) (a:Option Addr),mv = .slice a n c/\iv = .int .i64 k/\k<=s.size/\s.size<=k+gk/\Hid (FSt w wr (An s) k a n c))
 case atStart=>exact⟨0,0,0,none,rfl,rfl,pE _,by omega,F⟩
 case round =>
  clear F;obtain⟨k,n,c,a,rfl,rfl,hk,ar,b⟩:=hrel;by_cases aa:k<s.size
  · go_wp2
    go_loop[6,7,5,8] (fun vv fv iv jv=>∃ j v f:Nat,vv = .int .u32 v/\fv = .int .u32 f/\iv = .int .i64 ((k+j:Nat):Int)/\jv = .int .i64 j/\j<=9/\k+j<=s.size/\v<f/\Hid (f=10^j/\W.digs ((An s).take (k+j))/\W.decV ((An s).take (k+j))=W.decV ((An s).take k)*f+v)) (fun _ _ _ jv=>9-(intOf jv).toNat)
    case atStart=>exact⟨0,0,1,rfl,rfl,rfl,rfl,by omega,by omega,by omega,qh ⟨rfl,b.out.ok,by simp⟩⟩
    case round =>
     obtain⟨j,v,f,rfl,rfl,rfl,rfl,hj,a8,aA,p⟩:=hrel;by_cases P:j<9/\k+j<s.size
     · obtain⟨ax,D⟩:=P;have a7:f<=100000000:=by
        rw[p.out.1];have:=pR (n:=10) (by omega) (show j<=8 by omega);omega
       have al:((k+j:Nat):Int)<s.size:=by omega
       have ak:(j:Int)<9:=by omega
       by_cases A:W.isDig s[k+j]
       · have a2:¬ ((s[k+j].toNat:Nat):Int)<48:=by have:=A.1;omega
         have a4:¬ (57:Int)<((s[k+j].toNat:Nat):Int):=by have:=A.2;omega
         have Z:Hid (10*f=10^(j+1)/\W.digs ((An s).take (k+(j+1)))/\W.decV ((An s).take (k+(j+1)))=W.decV ((An s).take k)*(10*f)+(10*v+(s[k+j].toNat-48))):=by
          refine qh ⟨by rw[qB,<-p.out.1];omega,?_,?_⟩
          · rw[<-sB,Mh D];intro x g;rcases qd.1 g with g|g
            · exact p.out.2.1 x g
            · rw[pF.1 g];exact A
          · rw[<-sB,Mh D,W.decV_snoc,p.out.2.2]
            grind
         obtain⟨d,Q⟩:∃ d,s[k+j].toNat-48=d:=⟨_,rfl⟩;have aq:d<=9:=by have:=A.2;omega
         have e1:IntKind.u8.wrap (((s[k+j].toNat:Nat):Int)-48)=(d:Int):=by
          have:=A.1;show _%256=_;omega
         have e2:IntKind.u32.wrap ((v:Int)*10)=((10*v:Nat):Int):=by show _%4294967296=_;omega
         have e3:IntKind.u32.wrap ((f:Int)*10)=((10*f:Nat):Int):=by show _%4294967296=_;omega
         have e4:IntKind.u32.wrap (((10*v:Nat):Int)+(d:Int))=((10*v+d:Nat):Int):=by show _%4294967296=_;omega
         rw[Q]at Z;clear A Q;go_wp2;go_round
         case rel=>exact⟨j+1,10*v+d,10*f,by go_num,by go_num,by go_num,by go_num,by omega,by omega,by omega,Z⟩
         case measure=>simp[intOf];omega
       · have HB:=qh (Ug D A);have hR:=b.out.res;have hE:=b.out.ext;by_cases a2:((s[k+j].toNat:Nat):Int)<48
         case' neg =>
          have a4:(57:Int)<((s[k+j].toNat:Nat):Int):=by
           have:¬ (48<=s[k+j].toNat/\s[k+j].toNat<=57):=A;omega
         all_goals
          clear A p
          go_wp2_with(refine Aa (vs:=Ac false none 0 0) rfl rfl rfl rfl rfl A6 hR rfl (Ae _ _ _ _) ?_;intro w9 l i)
          refine py (Ao rfl A6 rfl rfl l) rfl ⟨false,none,0,0,by rw[HB.out];rfl,hE.grownR i (by omega),fun x g=>by rw[HB.out]at g;cases g⟩
     · have a6:0<f:=by omega
       have a7:f<=1000000000:=by
        rw[p.out.1];have:=pR (n:=10) (by omega) hj;omega
       have E:¬ (j:Int)<9\/(j:Int)<9/\¬ ((k+j:Nat):Int)<s.size:=by omega
       have av:0<j:=by
        rcases pT j with h|h
        · subst h;exact absurd ⟨by omega,aa⟩ P
        · exact h
       have ad:n<=100000:=b.out.m.len (k:=100000) (Af (Nh b.out.ok (k:=100000) (by rw[qg];omega)) (by omega));clear P;have HM:=b.out.m;have y:=b.out.res;have q:=b.out.ext;clear b;rcases E with E|⟨E,ap⟩
       all_goals
        go_upto_region 12 with(fail)
        have hf:=Xu (w:=wr) a6 (show f<4294967296 by omega);have M:=(Ext.refl wr).alloc (.cells #[.int .u32 (f:Int)] 241);have U:=qh (Ky (HM.ext M) hf ad (by omega))
        go_wp2_with fail
        refine U.out.mono ?_;rintro e Y ⟨a3,n3,c3,rfl,a0,S⟩;have V:=AB Y Y.heap.size 241 #[.int .u32 (v:Int)] 1 rfl (lrf _) (by omega);have X:SlN .u32 (Y.alloc (.cells #[.int .u32 (v:Int)] 241)) (some ⟨Y.heap.size,0,none⟩) 1 1 [v]:=V.sl;have N:=(Ext.refl Y).alloc (.cells #[.int .u32 (v:Int)] 241);have ah:=V.ty
        go_wp2_with fail
        refine(Ce X).mono ?_;rintro e w4 ⟨kq,rfl,rfl,a9,ht⟩;have hv:=Dp X ah a9 ht (fun z hz=>by rw[pF.1 hz];omega) (v:=v) (by simp[W.val]);have K:=(M.trans a0).trans N;have ag:n3<=100000:=by
         refine S.len (k:=100000) ?_;have h0:=p.out.2.2;refine pJ (pD (vr _ v) (vj h0.symm)) ?_;exact Af (Nh p.out.2.1 (k:=100000) (by rw[qg];omega)) (by omega)
        have O:=qh (Kw (S.ext N) hv ag (by omega))
        go_wp2_with fail
        refine O.out.mono ?_;rintro e w5 ⟨a5,n5,c5,rfl,L,ab⟩;have Z:Hid (FSt w w5 (An s) (k+j) a5 n5 c5):=qh ⟨(q.trans K).trans L,(y.ext K).ext L,by rw[p.out.2.2];exact ab,p.out.2.1⟩;go_wp2
        go_roundg (s.size-(k+j))
        case rel=>exact⟨k+j,n5,c5,a5,rfl,rfl,a8,by omega,Z⟩
        case measure=>omega
  · have ay:k=s.size:=by omega
    have B:(An s).take k=An s:=pu (by omega);have hM:=b.out.m;have C:=b.out.ok;have y:=b.out.res;have q:=b.out.ext;rw[B]at hM C;have HQ:=qh (Uf C);have T:=qh (KA (neg:=false) hM (z:=(W.decV (An s):Int)) (by simp));clear b B hM C;by_cases he:s=({ data:=#[] }:ByteArray)
    · have a1:s.toList.isEmpty=true:=by rw[sz,he];rfl
      have G:Hid (FO (An s)=none):=by show _=_;rw[HQ.out,pP (by rw[he];rfl)]
      clear HQ he
      go_wp2_with fail
      refine T.out.mono ?_;rintro e w2 ⟨s1,rfl,o,H,R⟩;have r:=y.ext o
      go_wp2_with(refine Aa (vs:=Ac s1 a n c) rfl rfl rfl rfl rfl A6 r rfl (Ae _ _ _ _) ?_;intro w9 l i)
      refine py (Ao rfl A6 rfl rfl l) rfl ⟨s1,a,n,c,by rw[G.out];rfl,(q.trans o).grownR i (lrf _),fun x g=>by rw[G.out]at g;cases g⟩
    · have a1:s.toList.isEmpty=false:=by
       rw[sz];cases h:s.data.toList with
       | nil=>exact absurd (EX (s:=s) (t:=({ data:=#[] }:ByteArray)) h) he
       | cons=>rfl
      have G:Hid (FO (An s)=some (W.decV (An s))):=by show _=_;rw[HQ.out,pC (show ¬ An s=[] from fun h=>he (EX (s:=s) (t:=({ data:=#[] }:ByteArray)) h))]
      clear HQ he
      go_wp2_with fail
      refine T.out.mono ?_;rintro e w2 ⟨s1,rfl,o,H,R⟩;have r:=y.ext o
      go_wp2_with(refine Aa (vs:=Ac s1 a n c) rfl rfl rfl rfl rfl A6 r rfl (Ae _ _ _ _) ?_;intro w9 l i)
      have ac:=R.keptA r (by decide) i;refine py (Ao rfl A6 rfl rfl l) rfl ⟨s1,a,n,c,by rw[G.out];rfl,(q.trans o).grownR i (lrf _),fun x g => ?_⟩;rw[G.out]at g;have ai:=tZ g;subst ai;exact⟨by rw[<-H.out];exact pN (by omega),ac⟩
theorem KJ(a b:ByteArray):An (a ++ b)=An a ++ An b:=by
 unfold An;rw[ByteArray.data_append];exact Array.toList_append
theorem Gc(q:Rat):txt q=(if q.num<0 then [45]else []) ++ Lib.decDigits q.num.natAbs ++ (if q.den=1 then []else 47 :: Lib.decDigits q.den):=by unfold txt;rw[MQ]
theorem KK(h:QV w v q)(y:Pl.RB 1000000 q):Calls prog 96 #[v] w fun e Y=>e = .returned (.string ⟨(txt q).toArray⟩)/\Ext w Y:=by
 obtain⟨s,a,n,c,b,m,d,rfl,r,J,E⟩:=h;have o:=qh (fun(U:World) (K:Ext w U)=>KI (v := .agg (Ac s a n c).toArray) ⟨s,a,n,c,rfl,r,J.ext K⟩ (Af y.1 (by omega)));have D:=ML y.1;obtain⟨p,j⟩:∃ p:ByteArray,(⟨(Lib.decDigits q.num.natAbs).toArray⟩:ByteArray)=p:=⟨_,rfl⟩;have W:p.size<=400000:=by rw[<-j,<-Ay,Cw];omega
 rw[j]at o;have j:=qh j;clear D;by_cases h1:q.den=1
 · have N:m=0:=E.zero.2 (CG h1);subst N;cases s with
   | true =>
    have A:Hid ((⟨(txt q).toArray⟩:ByteArray)=⟨#[45]⟩ ++ p):=by
     show _=_;refine EX ?_;have C:q.num<0:=by simpa using r.out
     simp only[Cw,KJ,Gc,C,h1,tM,rD];rw[<-j.out];rfl
    clear r J E y h1;have L:(⟨#[45]⟩ ++ p:ByteArray).size=1+p.size:=by rw[wj];rfl
    go_enter func96,ntmps96
    go_upto_region 1 with(fail)
    refine AP ?_;intro S i g k;have F:=g.c 0 rfl;have G:=g.c 1 rfl;have H:=g.c 2 rfl;have I:=g.c 3 rfl;clear k
    go_wp2_with fail
    refine(o.out _ i).mono ?_;rintro e T ⟨rfl,f⟩;have O:=f.cell F;have P:=f.cell G;have Q:=f.cell H;have R:=f.cell I;go_wp2;go_ret;exact⟨by rw[A.out];rfl,(i.trans f)⟩
   | false =>
    have A:Hid ((⟨(txt q).toArray⟩:ByteArray)=p):=by
     show _=_;refine EX ?_;have C:¬ q.num<0:=by simpa using r.out
     simp only[Cw,Gc,C,h1,tM,tJ,rD,qR];rw[<-j.out];rfl
    clear r J E y h1
    go_enter func96,ntmps96
    go_upto_region 1 with(fail)
    refine AP ?_;intro S i g k;have F:=g.c 0 rfl;have G:=g.c 1 rfl;have H:=g.c 2 rfl;have I:=g.c 3 rfl;clear k
    go_wp2_with fail
    refine(o.out _ i).mono ?_;rintro e T ⟨rfl,f⟩;have O:=f.cell F;have P:=f.cell G;have Q:=f.cell H;have R:=f.cell I;go_wp2;go_ret;exact⟨by rw[A.out];rfl,(i.trans f)⟩
 · have t:=qh (fun(U:World) (K:Ext w U)=>KI (v := .agg (Ac false b m d).toArray) (z:=(q.den:Int)) ⟨false,b,m,d,rfl,qh (pN (by omega)),by rw[pX];have:=E.ext K;rw[Bi h1]at this;exact this⟩ (Af (b:=3200000) y.2 (by omega)));rw[pX]at t;have X:(0:Int)<m:=by
    have h2:m≠0:=fun h0=>by
     have h3:=E.zero.1 h0;rw[Bi h1]at h3;exact q.den_nz h3
    omega
   have D:=ML y.2;obtain⟨x,l⟩:∃ x:ByteArray,(⟨(Lib.decDigits q.den).toArray⟩:ByteArray)=x:=⟨_,rfl⟩;have V:x.size<=400000:=by rw[<-l,<-Ay,Cw];omega
   rw[l]at t;have l:=qh l;clear D;cases s with
   | true =>
    have A:Hid ((⟨(txt q).toArray⟩:ByteArray)=(⟨#[45]⟩ ++ p) ++ (⟨#[47]⟩ ++ x)):=by
     show _=_;refine EX ?_;have C:q.num<0:=by simpa using r.out
     simp only[Cw,KJ,Gc,C,h1,tM,tJ];rw[<-j.out,<-l.out];rfl
    clear r J E y h1;have L:(⟨#[45]⟩ ++ p:ByteArray).size=1+p.size:=by rw[wj];rfl
    have M:(⟨#[47]⟩ ++ x:ByteArray).size=1+x.size:=by rw[wj];rfl
    go_enter func96,ntmps96
    go_upto_region 1 with(fail)
    refine AP ?_;intro S i g k;have F:=g.c 0 rfl;have G:=g.c 1 rfl;have H:=g.c 2 rfl;have I:=g.c 3 rfl;clear k
    go_wp2_with fail
    refine(o.out _ i).mono ?_;rintro e T ⟨rfl,f⟩;have O:=f.cell F;have P:=f.cell G;have Q:=f.cell H;have R:=f.cell I
    go_wp2_with fail
    refine(t.out _ (i.trans f)).mono ?_;rintro e Z ⟨rfl,B⟩;go_wp2;go_ret;exact⟨by rw[A.out];rfl,((i.trans f).trans B)⟩
   | false =>
    have A:Hid ((⟨(txt q).toArray⟩:ByteArray)=p ++ (⟨#[47]⟩ ++ x)):=by
     show _=_;refine EX ?_;have C:¬ q.num<0:=by simpa using r.out
     simp only[Cw,KJ,Gc,C,h1,tJ,qR];rw[<-j.out,<-l.out];rfl
    clear r J E y h1;have M:(⟨#[47]⟩ ++ x:ByteArray).size=1+x.size:=by rw[wj];rfl
    go_enter func96,ntmps96
    go_upto_region 1 with(fail)
    refine AP ?_;intro S i g k;have F:=g.c 0 rfl;have G:=g.c 1 rfl;have H:=g.c 2 rfl;have I:=g.c 3 rfl;clear k
    go_wp2_with fail
    refine(o.out _ i).mono ?_;rintro e T ⟨rfl,f⟩;have O:=f.cell F;have P:=f.cell G;have Q:=f.cell H;have R:=f.cell I
    go_wp2_with fail
    refine(t.out _ (i.trans f)).mono ?_;rintro e Z ⟨rfl,B⟩;go_wp2;go_ret;exact⟨by rw[A.out];rfl,((i.trans f).trans B)⟩
def Yo(w:World)(o:Option Rat)(e:Ending)(w':World):Prop:=∃ s a n c b m d,e = .returned (.tuple #[.agg (Al s a n c false b m d).toArray,.bool o.isSome])/\Ext w w'/\∀ q,o=some q->Hid (decide (q.num<0)=s)/\Mg w' a n c q.num.natAbs/\Mg w' b m d (A9 q).natAbs
theorem Xv:∀ {K:Nat},(∀ j,j<K->l.getD j 0≠47)->(K=l.length\/K<l.length/\l.getD K 0=47)->l.takeWhile (· != 47)=l.take K/\l.dropWhile (· != 47)=l.drop K:=by
 induction l with
 | nil=>intro K _ h;simp
 | cons x r ih =>
  intro K h a;cases K with
  | zero =>
   rcases a with h0|⟨_,h0⟩
   · simp at h0
   · have:x=47:=by simpa using h0
     subst this;simp
  | succ K =>
   have b:x≠47:=by simpa using h 0 (by omega)
   have:=ih (K:=K) (fun j c=>by have:=h (j+1) (by omega);simpa using this) (by
    rcases a with h0|⟨h0,h1⟩
    · left;simpa using h0
    · right;exact⟨by simpa using h0,by simpa using h1⟩)
   simp[b,this]
theorem Rt{x:Nat}(h:FO l=some x)(b:l.length<=k):x<P2 (4*k):=by
 unfold FO at h;split at h
 · rename_i a;simp only[qQ,rK]at a;injection h with h;rw[<-h];exact Nh (fun c d=>Ey.1 (a.2 c d)) b
 · cases h
def VS(neg:Bool)(n:Nat):Int:=if neg=true then -(n:Int)else n
theorem Uh{t:List UInt8}(c:decide (l.head?=some 45)=neg)(e:(if neg=true then l.tail else l)=t)(h:∀ j,j<K->t.getD j 0≠47)(a:K=t.length\/K<t.length/\t.getD K 0=47) :
 ON l=match FO (t.take K)with
  | none=>none
  | some n=>if K=t.length then some (mkRat (VS neg n) 1)
   else match FO (t.drop (K+1))with
    | none=>none
    | some d=>if d=0 then none else some (mkRat (VS neg n) d):=by
 have b:=Xv h a;unfold ON;simp only[c,e,b.1,b.2];cases FO (t.take K)with
 | none=>rfl
 | some n =>
  have h1:(t.drop K=[])<->K=t.length:=by
   rw[List.drop_eq_nil_iff];rcases a with h2|h2 <;> omega
  have h2:(t.drop K).tail=t.drop (K+1):=by rw[List.tail_drop]
  simp only[h1,h2];rfl
theorem FQ(s:ByteArray)(i j:Nat):(s.extract i j).size<=s.size:=by
 rw[<-Ay,<-Ay s,Bc,qg,tf];omega
theorem Qe:decide ((An s).head?=some 45)=true<->∃ h:0<s.size,s[0]=45:=by
 rw[decide_eq_true_iff];have a:=Ay s;cases b:An s with
 | nil =>
  rw[b]at a;simp at a;simp;intro h;omega
 | cons c r =>
  have h0:0<s.size:=by rw[<-a,b];simp
  have h1:=E5 h0;rw[b]at h1;have h2:c=s[0]:=by simpa using h1
  constructor
  · intro h;exact⟨h0,by rw[<-h2];simpa using h⟩
  · rintro⟨_,h⟩;have h3:c=45:=by rw[h2];exact h
    rw[h3];rfl
theorem SD(h:mkRat z 1=r):r.num=z/\r.den=1:=by
 rw[Rat.mkRat_one]at h;subst h;exact⟨rfl,rfl⟩
theorem Ni{d:List Hd}{C:World->Prop}{x:Operand}(s:o.guard=none)(l:o.op = .store ty x y)(r:Agg P ty vs.length)(h1:∀ v∈vs,v.oneCell'=true)
 (q:∀ w,C w->∃ cs,cs.length=vs.length/\Arr w R t cs) (f:∀ w e,C w->w.grownBy e (some R)->Arr e R t vs->C e) (z:∀ w e,Gk ops d i o w e (List.range d.length))
 (h:∀ a w,DE a->C w->Cq ops d a0 o a w [x,y]->a x = .pointer (some ⟨R,0,none⟩)/\a y = .agg vs.toArray):obl P C ops d a0 i o (hmp (fun _ A=>Arr A R t vs)):=by
 unfold obl Cr;rw[s];intro a w hp b m;have k:Cq ops d a0 o a w [x,y]:=by rw[l]at m;exact m
 obtain⟨n,p⟩:=h a w hp b k;obtain⟨cs,h3,h4⟩:=q w b;have c:(execOp a o).run P w = .ok .skip (w.setRow R vs.toArray):=by
  have:=DG (P:=P) (w:=w) (ty:=ty) (g:=R) (cs:=cs) (vs:=vs) r h4 h3 h1;simp only[execOp,l,n,p,q8,this,pK,qz]
 rw[c];have j:=BK w R vs.toArray;exact⟨f w _ b j (Cm h4 _),z _ _,Cm h4 _⟩
theorem OO(hs:s.size<=10000):Calls prog 71 #[.string s] w (Yo w (AD (An s))):=by
 have bt:=Ay s
 go_enter func71,ntmps71
 go_upto_region 1 with(fail)
 refine AP ?_;intro w0 bW ba cp;have hR:Arr w0 w.heap.size 99 (Al false none 0 0 false none 0 0):=ba;clear cp ba
 go_upto_region 2 with(fail)
 go_cut [5] from 14 to 81 (fun nv H=>∃ nb:Bool,nv = .bool nb/\Hid (decide ((An s).head?=some 45)=nb)/\H=w0)
 case first =>
  cases F:decide ((An s).head?=some 45)with
  | true =>
   obtain⟨h0,h45⟩:=Qe.1 F;have aq:(0:Int)<s.size:=by omega
   have hb:(((s[0].toNat:Nat):Int) == 45)=true:=by rw[h45];rfl
   have B:=qh F;clear F h45
   go_wp2_with fail
   go_meet
   exact⟨true,rfl,B,rfl⟩
  | false =>
   have B:=qh F;by_cases h0:0<s.size
   · have aq:(0:Int)<s.size:=by omega
     have hb:(((s[0].toNat:Nat):Int) == 45)=false:=by
      have h45:s[0]≠45:=fun h=>by
       have:=Qe.2 ⟨h0,h⟩;rw[F]at this;cases this
      have:s[0].toNat≠45:=fun h=>h45 (oU.1 h);simpa using(show ¬ ((s[0].toNat:Nat):Int)=45 by omega)
     clear F
     go_wp2_with fail
     go_meet
     exact⟨false,rfl,B,rfl⟩
   · have aq:¬ (0:Int)<s.size:=by omega
     clear F
     go_wp2_with fail
     go_meet
     exact⟨false,rfl,B,rfl⟩
 case rest =>
  obtain⟨nb,rfl,B,rfl⟩:=hcut
  go_upto_if 22 with(fail)
  go_cut [4] from 23 to 81 (fun tv wy=>∃ t:ByteArray,tv = .string t/\t.size<=10000/\Hid ((if nb=true then(An s).tail else An s)=An t)/\wy=wc)
  case first =>
   cases nb with
   | true =>
    have h0:=(Qe.1 B.out).1;have aq:(0:Int)<s.size:=by omega
    have cq:(1:Int)<=s.size:=by omega
    go_wp2_with fail
    go_meet
    refine⟨s.extract 1 s.size,rfl,pD (FQ _ _ _) hs,?_,rfl⟩;show _=_
    first | rw[pP rfl] | rw[pP trivial]
    rw[Bc,pu (by rw[tf,Ay];exact lrf _),List.drop_one]
   | false =>
    go_wp2_with fail
    go_meet
    exact⟨s,rfl,hs,qh rfl,rfl⟩
  case rest =>
   obtain⟨t,rfl,cy,bL,rfl⟩:=hcut;have cc:=Ay t
   go_upto_block 0 with(fail)
   go_cut [6,7] from 27 to 81 (fun av _ wy=>∃ K:Nat,av = .int .i64 K/\K<=t.size/\Hid (∀ j,j<K->(An t).getD j 0≠47)/\Hid (K=(An t).length\/K<(An t).length/\(An t).getD K 0=47)/\wy=wc)
   case first =>
    go_wp2_with fail
    go_loopw[6,7] (fun av iv wr=>∃ k:Nat,av = .int .i64 t.size/\iv = .int .i64 k/\k<=t.size/\wr=wc/\Hid (∀ j,j<k->(An t).getD j 0≠47)) (fun _ iv _=>t.size-(intOf iv).toNat)
    case atStart=>exact⟨0,rfl,rfl,pE _,rfl,qh (fun j h=>by omega)⟩
    case round =>
     obtain⟨k,rfl,rfl,hk,rfl,HK⟩:=hrel;by_cases bi:k<t.size
     · have bv:(k:Int)<t.size:=by omega
       by_cases h47:t[k]=47
       · have hb:(((t[k].toNat:Nat):Int) == 47)=true:=by rw[h47];rfl
         have I:=qh (Or.inr (a:=k=(An t).length) (And.intro (show k<(An t).length by omega) (show(An t).getD k 0=47 by rw[E5 bi];exact h47)));clear h47
         go_wp2_with fail
         go_meet
         exact⟨k,rfl,hk,HK,I,by first | rfl | trivial⟩
       · have hb:(((t[k].toNat:Nat):Int) == 47)=false:=by
          have:t[k].toNat≠47:=fun h=>h47 (oU.1 h);simpa using(show ¬ ((t[k].toNat:Nat):Int)=47 by omega)
         have HN:Hid (∀ j,j<k+1->(An t).getD j 0≠47):=qh (fun j hj=>by
          by_cases c6:j<k
          · exact HK.out j c6
          · have:j=k:=by omega
            subst this
            rw[E5 bi];exact h47)
         clear h47;go_wp2;go_roundw
         case rel=>exact⟨k+1,rfl,by go_num,by omega,by first | rfl | trivial,HN⟩
         case measure=>simp[intOf];omega
     · have bv:¬ (k:Int)<t.size:=by omega
       have I:=qh (Or.inl (b:=k<(An t).length/\(An t).getD k 0=47) (show k=(An t).length by omega));have E:k=t.size:=by omega
       have bx:=qh E;clear E
       go_wp2_with fail
       go_meet
       exact⟨k,by rw[bx.out],hk,HK,I,by first | rfl | trivial⟩
   case rest =>
    obtain⟨K,rfl,hK,HK,I,bl⟩:=hcut;have ce:=bl;subst bl;generalize cg:wc=wr at *
    clear cg ce;have a2:=hR;have ag:=bW;clear cc bt;have a7:=qh (Uh B.out bL.out HK.out I.out);have T:=qh (FP (s:=t.extract 0 K) (w:=wr) (pD (FQ _ _ _) (by omega)));have b9:Hid (An (t.extract 0 K)=(An t).take K):=by show _=_;rw[Bc];simp
    have bz:Hid ((An (t.extract 0 K)).length<=10000):=by show _<=_;rw[Ay];exact pD (FQ _ _ _) (by omega)
    clear I HK
    go_wp2_with fail
    refine T.out.mono ?_;rintro e w1 ⟨s1,a1,n1,c1,rfl,ac,b1⟩;have hY:=Arr.new w1 97 (Ac false none 0 0);cases ho:FO (An (t.extract 0 K))with
    | none =>
     have y:Hid (AD (An s)=none):=qh (Ir (by rw[a7.out,<-b9.out,ho]));clear T b1 a7
     go_upto_region 12 with(refine Aa (vs:=Ac s1 a1 n1 c1) rfl rfl rfl rfl rfl A6 hY rfl (Ae _ _ _ _) ?_;intro w2 aa ah)
     have S:Ext w1 w2:=((Ext.refl w1).alloc _).grownR ah (lrf _);have m:=a2.ext (ac.trans S)
     go_wp2_with(refine Aa (vs:=Al false none 0 0 false none 0 0) rfl rfl rfl rfl rfl By m rfl (Aq _ _ _ _ _ _ _ _) ?_;intro w9 C a4)
     refine py (Ao rfl By rfl rfl C) rfl ⟨false,none,0,0,none,0,0,by rw[y.out];rfl,(ag.trans (ac.trans S)).grownR a4 (lrf _),fun x Z=>by rw[y.out]at Z;cases Z⟩
    | some x =>
     obtain⟨rfl,c9⟩:=b1 x ho;have b2:=Rt ho bz.out;obtain⟨z,hz⟩:∃ z:Int,VS nb x=z:=⟨_,rfl⟩;have a6:z.natAbs<P2 40000:=by rw[show z.natAbs=x by rw[<-hz];unfold VS;split <;> omega];exact b2
     have f:=a7.out;rw[<-b9.out,ho]at f;simp only at f;rw[hz]at f;have f:=qh f;clear T b1 a7
     go_upto_region 12 with(refine Aa (vs:=Ac false a1 n1 c1) rfl rfl rfl rfl rfl A6 hY rfl (Ae _ _ _ _) ?_;intro w2 aa ah)
     have S:Ext w1 w2:=((Ext.refl w1).alloc _).grownR ah (lrf _);have q0:=aa.c 0 rfl;have q1:=aa.c 1 rfl;have bj:=qh (Ch (neg:=nb) (c9.ext S) (z:=z) hz.symm);have ao:=ac.trans S;clear aa ah hY ac S hz
     go_wp2_with fail
     refine bj.out.mono ?_;rintro e w3 ⟨s3,a3,n3,c3,rfl,ar,b7,bm⟩;have cx:(Ac s3 a3 n3 c3).toArray=#[.bool s3,.slice a3 n3 c3]:=rfl;have bf:=Arr.new w3 99 (Al false none 0 0 false none 0 0)
     go_upto_region 15 with(refine Aa (vs:=Al s3 a3 n3 c3 false none 0 0) rfl rfl rfl rfl rfl By bf rfl (Aq _ _ _ _ _ _ _ _) ?_;intro w4 Q bg)
     have bb:Ext w3 w4:=((Ext.refl w3).alloc _).grownR bg (lrf _);have G:=(ao.trans ar).trans bb;have b3:=(ao.trans ar).size;have bn:=bm.ext bb;have k0:=Q.c 0 rfl;have k1:=Q.c 1 rfl;have k2:=Q.c 2 rfl;have k3:=Q.c 3 rfl;clear bj q0 q1 ar bg bf bm ao
     go_upto_if 56 with(fail)
     go_cut [11,12] from 56 to 76 (fun _ _ wy=>∃ (r:Rat) (Y:Bool) (M:Option Addr) (X O:Nat) (N:Option Addr) (W P:Nat),Ext wr wy/\Hid (ON (An s)=some r)/\Hid (Pl.RB 1000000 r)/\Arr wy w3.heap.size 99 (Al Y M X O false N W P)/\Hid (decide (r.num<0)=Y)/\Mg wy M X O r.num.natAbs/\Mg wy N W P (A9 r).natAbs)
     case first =>
      by_cases E:K=t.size
      · have c7:¬ (K:Int)<t.size:=by omega
        have g:=f.out;rw[pP (by rw[Ay];exact E)]at g;obtain⟨r,hr⟩:∃ r,mkRat z 1=r:=⟨_,rfl⟩;rw[hr]at g;obtain⟨ak,b0⟩:=SD hr;have J:=qh g;have L:Hid (decide (r.num<0)=s3):=by rw[ak];exact b7
        have U:Mg w4 a3 n3 c3 r.num.natAbs:=by rw[ak];exact bn
        have V:Mg w4 none 0 0 (A9 r).natAbs:=by rw[CG b0];exact Mg.nil w4
        have a0:Hid (Pl.RB 1000000 r):=qh ⟨by rw[ak];exact Af a6 (by omega),by rw[b0];exact Af (a:=1) (by decide) (by omega)⟩;clear hr g f a6 b2 E ak b0
        go_wp2_with fail
        go_meet
        exact⟨r,s3,a3,n3,c3,none,0,0,G,J,a0,Q,L,U,V⟩
      · have c7:(K:Int)<t.size:=by omega
        have f:=f.out;rw[pC (by rw[Ay];exact E)]at f;have T:=qh (FP (s:=t.extract (K+1) t.size) (w:=w4) (pD (FQ _ _ _) (by omega)));have bN:Hid (An (t.extract (K+1) t.size)=(An t).drop (K+1)):=by show _=_;rw[Bc,pu];rw[tf,Ay];exact lrf _
        have bG:Hid ((An (t.extract (K+1) t.size)).length<=10000):=by show _<=_;rw[Ay];exact pD (FQ _ _ _) (by omega)
        rw[<-bN.out]at f;have f:=qh f;have cv:IntKind.i64.wrap ((K:Int)+1)=((K+1:Nat):Int):=by rw[pq _ (by omega)];rfl
        clear E
        go_wp2_with fail
        refine T.out.mono ?_;rintro e w5 ⟨s5,a5,n5,c5,rfl,D,bk⟩;have ax:=Arr.new w5 97 (Ac false none 0 0);have l:=Q.ext D;cases aj:FO (An (t.extract (K+1) t.size))with
        | none =>
         have y:Hid (AD (An s)=none):=qh (Ir (by rw[f.out,aj]))
         go_upto_region 17 with(refine Aa (vs:=Ac s5 a5 n5 c5) rfl rfl rfl rfl rfl A6 ax rfl (Ae _ _ _ _) ?_;intro w6 ab ai)
         have A:Ext w5 w6:=((Ext.refl w5).alloc _).grownR ai (lrf _);have m:=a2.ext ((G.trans D).trans A)
         go_wp2_with(refine Aa (vs:=Al false none 0 0 false none 0 0) rfl rfl rfl rfl rfl By m rfl (Aq _ _ _ _ _ _ _ _) ?_;intro w9 C a4)
         refine py (Ao rfl By rfl rfl C) rfl ⟨false,none,0,0,none,0,0,by rw[y.out];rfl,(ag.trans ((G.trans D).trans A)).grownR a4 (lrf _),fun x Z=>by rw[y.out]at Z;cases Z⟩
        | some d =>
         obtain⟨rfl,ca⟩:=bk d aj;have ay:=Rt aj bG.out;have g:=f.out;rw[aj]at g;simp only at g;clear f T bk
         go_upto_region 17 with(refine Aa (vs:=Ac false a5 n5 c5) rfl rfl rfl rfl rfl A6 ax rfl (Ae _ _ _ _) ?_;intro w6 ab ai)
         have A:Ext w5 w6:=((Ext.refl w5).alloc _).grownR ai (lrf _);have l:=l.ext A;have ap:=(G.trans D).trans A;have cb:=ca.ext A;have u0:=ab.c 0 rfl;have u1:=ab.c 1 rfl;have a9:Hid (ZR w6 (.agg #[.bool false,.slice a5 n5 c5]) (d:Int)):=qh ⟨false,a5,n5,c5,rfl,qh (pN (by omega)),by rw[pX];exact cb⟩;by_cases hd0:d=0
         · have y:Hid (AD (An s)=none):=qh (Ir (by rw[g,pP hd0]));have al:=qh (KB a9.out (r:=0) (by rw[hd0];rfl));clear g hd0
           go_wp2_with fail
           refine al.out.mono ?_;rintro e w7 ⟨rfl,p⟩;have m:=a2.ext (ap.trans p)
           go_wp2_with(refine Aa (vs:=Al false none 0 0 false none 0 0) rfl rfl rfl rfl rfl By m rfl (Aq _ _ _ _ _ _ _ _) ?_;intro w9 C a4)
           refine py (Ao rfl By rfl rfl C) rfl ⟨false,none,0,0,none,0,0,by rw[y.out];rfl,(ag.trans (ap.trans p)).grownR a4 (lrf _),fun x Z=>by rw[y.out]at Z;cases Z⟩
         · have cr:0<d:=by omega
           rw[pC hd0]at g;have al:=qh (KB a9.out (r:=1) (by rw[vB (by omega)]));clear hd0
           go_wp2_with fail
           refine al.out.mono ?_;rintro e w7 ⟨rfl,p⟩;obtain⟨r,hr⟩:∃ r,mkRat z d=r:=⟨_,rfl⟩;rw[hr]at g;have J:=qh g;have a0:Hid (Pl.RB 1000000 r):=by
            have h1:=Pl.mkRat_le (n:=z) (d:=d) (by omega);rw[hr]at h1;exact qh ⟨pJ h1.1 (Af a6 (by omega)),pJ h1.2 (Af ay (by omega))⟩
           have c4:=qh (KG (w:=w7) (v := .agg #[.bool s3,.slice a3 n3 c3]) (z:=z) (q:=r) ⟨s3,a3,n3,c3,rfl,b7,bn.ext ((D.trans A).trans p)⟩ (a9.out.ext p) (Af a6 (by omega)) (by rw[pX];exact Af ay (by omega)) (by omega) (by rw[pX];exact hr.symm));have b4:=A.trans p;have k0:=(D.trans b4).cell k0;have k1:=(D.trans b4).cell k1;have u0:=p.cell u0;have u1:=p.cell u1;have l:=l.ext p;clear hr g a6 b2 ay al a9 k2 k3 ab ai ax
           go_wp2_with fail
           refine c4.out.mono ?_;rintro e w8 ⟨Y,M,X,O,N,W,P,rfl,bd,L,ch,cn⟩;have l:=l.ext bd
           go_wp2_with(refine Aa (vs:=Al Y M X O false N W P) rfl rfl rfl rfl rfl By l rfl (Aq _ _ _ _ _ _ _ _) ?_;intro wf R aA)
           have ad:Ext wr wf:=((ap.trans p).trans bd).grownR aA (b3);have U:=ch.keptA l (by decide) aA;have V:=cn.keptA l (by decide) aA
           go_meet
           exact⟨r,Y,M,X,O,N,W,P,ad,J,a0,R,L,U,V⟩
     case rest =>
      obtain⟨r,Y,M,X,O,N,W,P,ad,J,a0,R,L,U,V⟩:=hcut;have l0:=R.c 0 rfl;have l1:=R.c 1 rfl;have l2:=R.c 2 rfl;have l3:=R.c 3 rfl;have m:=a2.ext (ad);have c2:=ag.trans (ad);have cd:=qh (fun(H:World) (o:wc.grownBy H (some w.heap.size))=>KK (v := .agg #[.bool Y,.slice M X O,.bool false,.slice N W P]) ⟨Y,M,X,O,N,W,P,rfl,L,U.keptA m (by decide) o,V.keptA m (by decide) o⟩ a0.out);have i:Hid (some w3.heap.size≠some w.heap.size):=by have h1:=a2.lt;have h2:=b3;show _≠_;simp;omega
      have b6:Hid ((txt r == s.toList)=(AD (An s)).isSome):=by
       show _=_;rw[VR J.out,sz];show(txt r == An s)=_;by_cases h:txt r=An s <;> simp[h]
      have bK:Hid (∀ x,AD (An s)=some x->x=r):=qh fun x Z=>by
       have h1:=Iq Z;rw[J.out]at h1;exact(tZ h1).symm
      go_upto_region 20 with(fail)
      refine Be (by kernel_rfl) (fun H=>wc.grownBy H (some w.heap.size)/\∃ cs:List Value,cs.length=4/\Arr H w.heap.size 99 cs)
       [he (.agg #[.bool Y,.slice M X O,.bool false,.slice N W P]),
 he (.agg #[.bool Y,.slice M X O,.bool false,.slice N W P]),
 hp (fun v H=>v = .string ⟨(txt r).toArray⟩),
 he (.string s),
 he (.bool (AD (An s)).isSome),
 hmp (fun _ H=>Arr H w.heap.size 99 (Al Y M X O false N W P))]
       (by kernel_rfl) (fun _ _ e h=>⟨Hz h.1 e,h.2.choose,h.2.choose_spec.1,h.2.choose_spec.2.ext e⟩) ⟨Hz (C8 wc _) ((Ext.refl wc).drew),_,rfl,m.ext ((Ext.refl wc).drew)⟩ ⟨trivial,trivial,fun v w w' e h=>h,trivial,trivial,fun _ _ _ e h=>Arr.ext h e,trivial⟩ ⟨?o0,?o1,?o2,?o3,?o4,?o5,trivial⟩ ?fin
      case o3=>exact omv
      case o0 | o1 =>
       refine Aj rfl fun ρ H o b5 h => ?_
       try have e0:_=_:=h.1
       try have e1:_=_:=h.2.1
       try have e2:_=_:=h.2.2.1
       have bo:=o.1.cell l0 i.out;have bp:=o.1.cell l1 i.out;have bq:=o.1.cell l2 i.out;have bs:=o.1.cell l3 i.out;go_simp
       try (first | (intros;omega) | exact pq _ (by omega))
      case o2 =>
       refine Ag rfl fun ρ H o b5 ct h => ?_;have e1:_=_:=h.2.1;have bo:=o.1.cell l0 i.out;have bp:=o.1.cell l1 i.out;have bq:=o.1.cell l2 i.out;have bs:=o.1.cell l3 i.out;refine⟨96,#[.agg #[.bool Y,.slice M X O,.bool false,.slice N W P]],by go_simp,(cd.out H o.1).mono ?_⟩;rintro e w' ⟨rfl,bR⟩;exact⟨_,rfl,bR,rfl⟩
      case o4 =>
       refine Aj rfl fun ρ H o b5 h => ?_;obtain⟨v0,e0,rfl⟩:=h.1;have e1:_=_:=h.2.1;have bo:=o.1.cell l0 i.out;have bp:=o.1.cell l1 i.out;have bq:=o.1.cell l2 i.out;have bs:=o.1.cell l3 i.out;have h8:=b6.out;go_simp
       try exact b6.out
      case o5 =>
       exact Ni rfl rfl By (Aq _ _ _ _ _ _ _ _) (fun _ h=>h.2) (fun _ _ h hg hA=>⟨JI h.1 hg,_,rfl,hA⟩) (fun _ _=>L6 (j:=2) (by kernel_rfl) (fun _ h=>h)) (fun _ _ _ _ h=>⟨h.1,h.2.1⟩)
      case fin =>
       intro H o;rintro _ rfl;rintro _ C;change wpList _ _ _ _ _ _;simp only[Ci];have ck:=U.keptA m (by decide) o.1;have co:=V.keptA m (by decide) o.1;have c0:=c2.grownR o.1 (lrf _);go_wp2;refine py (Ao rfl By rfl rfl C) rfl ⟨Y,M,X,O,N,W,P,rfl,c0,fun x Z => ?_⟩;have cl:=bK.out x Z;subst cl;exact⟨L,ck,co⟩
theorem SU(w:World)(base:Nat)(e:TypeId)(k:Nat)(a:base<=w.heap.size):AR (w.alloc (.cells #[] e)) base e k (some ⟨w.heap.size,0,none⟩) 0 0 []:=by
 have h:=oF (base:=base) (e:=e) (size:=k) w #[] 0 a (pE _) (by simp);exact⟨(fun _ h=>by cases h),h⟩
section
variable {P:Program} {w:World}
theorem SE 
 (y:P.underlying t=some (.slice e)) (d:BV P e zs k bytes) (f:AR w base e k a n c rows) (p:SlK w k A m cx news)
 (h1:∀ r∈news,∀ u∈r,u.oneCell'=true) (h63:n+m<=maxLen) (j:(n+m)*bytes<=140737488355328) (l:base<=w.heap.size) :
 ∃ s B z,(Builtin.append_ #[t,t] ty #[.slice a n c,.slice A m cx]).run P w = .ok (.slice s (n+m) B) z/\AR z base e k s (n+m) B (rows ++ news) /\
  w.grownBy z (blk a)/\(blk s=blk a\/blk s=some w.heap.size):=by
 cases A with
 | some ad=>exact FD y d f p h1 h63 j l
 | none =>
  obtain⟨i,C,I,x,F⟩:=d.parts;have G:m=0:=by
   rcases pT m with h0|h0
   · exact h0
   · obtain⟨b,o,h,_⟩:=p.rd h0;cases h
  subst G;have H:news=[]:=pG p.len;subst H;refine⟨a,c,w,?_,by simpa using f,vR w _,.inl rfl⟩;rcases f.2.2 with⟨q,rfl⟩|⟨g,D,E,q,_,_,v,_⟩
  · simp only[pI]at q;obtain⟨rfl,_,rfl⟩:=q;simp[Builtin.append_,qF y,sizeOf,typeInfo,C,Builtin.lenOf,Builtin.firstCells]
  · simp only[pI]at q;obtain⟨rfl,_,rfl⟩:=q;simp[Builtin.append_,qF y,sizeOf,typeInfo,C,Builtin.lenOf,Builtin.firstCells,v,storeCells]
theorem OP{s x:Operand}(v:o.guard=none)
 (C:o.op = .call { callee := .builtin .append,args:=#[s,x],argTypes:=#[t,t] })
 {e:TypeId} {zs:List Value} {k bytes base:Nat} {a:Option Addr} {n c:Nat} {rows:List (List Value)} {A:Option Addr} {m z:Nat} {news:List (List Value)}
 (E:P.underlying t=some (.slice e)) (g:BV P e zs k bytes) (D:f.eval s = .slice a n c) (j:AR w base e k a n c rows) (F:f.eval x = .slice A m z) (y:SlK w k A m z news)
 (h1:∀ r∈news,∀ u∈r,u.oneCell'=true) (h63:n+m<=maxLen) (b:(n+m)*bytes<=140737488355328) (d:base<=w.heap.size)
 (h:∀ i q p,AR p base e k i (n+m) q (rows ++ news)->w.grownBy p (blk a)->(blk i=blk a\/blk i=some w.heap.size)->wpList P ops Q rest (f.put o.dst (.slice i (n+m) q)) p) :
 wpList P ops Q (o :: rest) f w:=by
 refine qT v fun _ B => ?_;obtain⟨i,q,p,l,h2,h3,h4⟩:=SE (P:=P) (ty:=o.type) E g j y h1 h63 b d;unfold Oper.wp execOp;simp only[C,resolve,invoke,builtin,q8,qz,pK,sM,qP,sS,D,F,l];exact B _ _ (h i q p h2 h3 h4)
end
theorem TO.app{l b:List Pl.Tm}(d:AR w base 103 5 a n c rows)(m:l.length=n)(p:∀ i,i<n->TC w b0 (rows.getD i []) (l.getD i tz))(g:b.length=n')(r:rows'.length=n')(e:∀ i,i<n'->TC w b0 (rows'.getD i []) (b.getD i tz))(j:b0<=base)(o:AR w' base 103 5 a' (n+n') c' (rows ++ rows'))(k:w.grownBy w' (blk a)):TO w' b0 base a' (n+n') c' (l ++ b):=by
 refine⟨_,o,by simp[m,g],fun i s => ?_⟩;have q:rows.length=n:=d.len (by omega);by_cases f:i<n
 · rw[gqq,pO (by omega),<-gqq,gqq (l:=l ++ b),pO (by omega),<-gqq];exact(p i f).grownO d j k
 · rw[gqq,pW (by omega),<-gqq,gqq (l:=l ++ b),pW (by omega),<-gqq,q,m];exact(e (i-n) (by omega)).grownO d j k
def Hc(w:World)(b0:Nat)(v:Value)(t:Pl.Tm):Prop:=∃ row,v = .agg row.toArray/\TC w b0 row t
theorem Hc.ext{w b:World}{b0:Nat}{v:Value}{t:Pl.Tm}(h:Hc w b0 v t)(e:Ext w b):Hc b b0 v t:=by
 obtain⟨a,h1,h2⟩:=h;exact⟨a,h1,h2.ext e⟩
theorem Hc.x(b0:Nat)(t:Pl.Tm):∀ (v:Value) (w a:World),Ext w a->Hc w b0 v t->Hc a b0 v t:=fun _ _ _ e h=>h.ext e
def KL(w:World)(b0:Nat)(v:Value)(t:Pl.Tm):Prop:=∃ g row,v = .slice (some ⟨g,0,none⟩) 1 1/\Arr w g 103 row/\TC w b0 row t
theorem KL.ext{w b:World}{b0:Nat}{v:Value}{t:Pl.Tm}(h:KL w b0 v t)(e:Ext w b):KL b b0 v t:=by
 obtain⟨g,a,h1,h2,h3⟩:=h;exact⟨g,a,h1,h2.ext e,h3.ext e⟩
theorem KL.x(b0:Nat)(t:Pl.Tm):∀ (v:Value) (w a:World),Ext w a->KL w b0 v t->KL a b0 v t:=fun _ _ _ e h=>h.ext e
theorem TC.five{t:Pl.Tm}(h:TC w b0 row t):row.length=5/\∀ v∈row,v.oneCell'=true:=by
 obtain⟨s,a,n,c,b,m,d,e,k,f,rfl,_⟩:=h;exact⟨rfl,FM⟩
section
variable {P:Program} {ops:Array Oper} {hs:List Hd} {a0:Act} {C:World->Prop} {i:Nat} {o:Oper}
theorem WD{x:Operand}(z:o.guard=none)(p:o.op = .build ty #[(0,x),(1,y)])
 (A:∀ {w:World} {r0 r1 r2 r3:Value} {e:Option Addr} {k f:Nat},(Instr.build ty #[(0,.agg #[r0,r1,r2,r3]),(1,.slice e k f)]).run P w = .ok (.agg #[r0,r1,r2,r3,.slice e k f]) w)
 (h:∀ g w,DE g->C w->Cq ops hs a0 o g w [x,y]->QV w (g x) q/\∃ e k f,g y = .slice e k f/\XI w b0 e k f xs) :
 obl P C ops hs a0 i o ⟨false,.pr (fun v B=>Hc B b0 v (xs,q)),cons⟩ :=
 AE z fun g w hp t r=>by
  rw[p]at r;obtain⟨⟨s,a,n,c,b,m,d,h1,h2,h3,h4⟩,e,k,f,h5,h6⟩:=h g w hp t r;refine⟨.agg (tL s a n c b m d e k f).toArray,w,?_,Ext.refl w,_,rfl,s,a,n,c,b,m,d,e,k,f,rfl,h2,h3,h4,h6⟩;have l:=A (w:=w) (r0 := .bool s) (r1 := .slice a n c) (r2 := .bool false) (r3 := .slice b m d) (e:=e) (k:=k) (f:=f);have j:g x = .agg #[.bool s,.slice a n c,.bool false,.slice b m d]:=h1;simp only[execOp,p,j,h5,q8,sM,qP,sS,l,pK,qz];rfl
theorem Ui{t:Pl.Tm}{x:Operand}(A:o.guard=none)(r:o.op = .buildSlice ty 1 #[(0,x)])
 (D:P.underlying ty=some (.slice 103)) (g:BV P 103 zs 5 bytes)
 (h:∀ j w,DE j->C w->Cq ops hs a0 o j w [x]->Hc w b0 (j x) t) :
 obl P C ops hs a0 i o ⟨false,.pr (fun v F=>KL F b0 v t),cons⟩ :=
 AE A fun j w hp z y=>by
  rw[r]at y;obtain⟨E,h1,q⟩:=h j w hp z y;have p:=q;obtain⟨s,a,n,c,b,m,d,e,k,f,rfl,h2⟩:=p;have B:=EK (P:=P) (w:=w) (r0 := .bool s) (r1 := .slice a n c) (r2 := .bool false) (r3 := .slice b m d) (r4 := .slice e k f) D g;have l:j x = .agg #[.bool s,.slice a n c,.bool false,.slice b m d,.slice e k f]:=h1;refine⟨_,_,?_,(Ext.refl w).alloc (.cells (tL s a n c b m d e k f).toArray 103),w.heap.size,_,rfl,Arr.new w 103 (tL s a n c b m d e k f),q.ext ((Ext.refl w).alloc _)⟩
  simp only[execOp,r,l,q8,sM,qP,sS,B,pK,qz];rfl
end
theorem UJ{l:List Pl.Tm}(a:k<l.length):Pl.scl q (l.take k) ++ [((l.getD k tz).1,q*(l.getD k tz).2)]=Pl.scl q (l.take (k+1)):=by
 unfold Pl.scl;rw[pB a,qw,gqq,oO a];rfl
theorem GE{r2 r3:Value}{e:Option Addr}{f:Nat}:(Instr.build 103 #[(0,.agg #[r0,r1,r2,r3]),(1,.slice e k f)]).run prog w = .ok (.agg #[r0,r1,r2,r3,.slice e k f]) w:=by
 go_simp
theorem TB.app{a b:List Pl.Tm}(c:TB N a)(d:TB N b):TB N (a ++ b):=fun t e=>(qd.1 e).elim (c t) (d t)
theorem TB.scl_{a:List Pl.Tm}(b:TB N a)(q:Rat):TB N (Pl.scl q a):=fun t d=>by
 obtain⟨s,c,rfl⟩:=pU.1 d;exact b s c
theorem OQ{l:List Pl.Tm}(d:rows.length=n)(b:∀ i,i<n->TC w b0 (rows.getD i []) (l.getD i tz)):∀ r∈rows,∀ u∈r,u.oneCell'=true:=fun r a=>by
 obtain⟨i,c,rfl⟩:=ti a;have h:=(b i (by omega)).five.2
 rwa[gqq,oO c]at h
theorem K3(hN:N<=12){va vb:Int}{a b:Option Addr}{n c m d:Nat}{la E:List Pl.Tm}{v:Value}{q:Rat}{w:World}(ha:TSl w b0 a n c la)(hq:QV w v q)(hb:TSl w b0 b m d E)(ba:TB N la)(bb:TB N E)(hw:b0<=w.heap.size)(hn:n<=10000)(hm:m<=10000)(rq:Pl.RB 1000000 q)(rb:∀ t∈E,Pl.RB 1000000 t.2)(hs:Pl.SubOK (la ++ Pl.scl q E)) :
 Calls prog 119 #[.agg (pL va a n c).toArray,v,.agg (pL vb b m d).toArray] w (OM w b0 va N (la ++ Pl.scl q E)):=by
 have H:=ha.len;have O:=hb.len;obtain⟨sq,xq,P,cq,yq,mq,dq,rfl,bi,c9,ca⟩:=hq
 go_enter func119,ntmps119
 go_upto_region 1 with(fail)
 refine V9 ?_;intro K L W F a5 a6 cb;have bL:Arr K (w.heap.size+3) 44 (pL 0 none 0 0):=a6;have p0:=W.c 0 rfl;have p1:=W.c 1 rfl;have u0:=F.c 0 rfl;have u1:=F.c 1 rfl;have u2:=F.c 2 rfl;have u3:=F.c 3 rfl;have v1:=a5.c 1 rfl;clear W F a5 a6 cb;have bN:=ha.ext L;obtain⟨ra,X,_,Y⟩:=bN;have I:ra.length=n:=X.len;have z:=(Ext.refl K).alloc (.cells #[] 103);have M:=SU K K.heap.size 103 5 (lrf _);have A:=X.ext z;have H1:=OQ I Y;have T:=z.size;have q1:=z.cell p1;have a3:=qh Y;clear Y ha
 go_upto_region 2 with(refine OP rfl rfl underlying42 B8 rfl M rfl A H1 (by unfold maxLen;omega) (by omega) T ?_;intro a7 c7 w7 ab Z bR)
 have a9:Ext K w7:=z.grown Z (fun k hk=>(M.lt hk).1);have V:=TO.app (l:=[]) M rfl (fun i hi=>absurd hi (by omega)) H I (fun i hi=>(a3.out i hi).ext z) (pD hw L.size) ab Z;rw[qR,qA]at V;have HO:=qh V;clear M A H1 ab Z bR z X a3 I T V q1
 try simp only[qA]
 go_wp2
 go_loopw[7,8] (fun lv iv wr=>∃ (k:Nat) (ao:Option Addr) (co:Nat),lv = .slice ao (n+k) co/\iv = .int .i64 k/\k<=m/\Ext K wr/\Hid (TO wr b0 K.heap.size ao (n+k) co (la ++ Pl.scl q (E.take k)))) (fun _ iv _=>m-(intOf iv).toNat)
 case atStart=>exact⟨0,a7,c7,by go_num,by go_num,pE _,a9,by rw[rf];show Hid (TO w7 b0 K.heap.size a7 (n+0) c7 (la ++ []));rw[rD];exact HO⟩
 case round =>
  clear HO a9;obtain⟨k,ao,co,rfl,rfl,hk,J,HO⟩:=hrel;have C:=L.trans J;have cd:=J.cell v1;by_cases D:k<m
  case neg =>
   have b6:¬ (k:Int)<m:=by omega
   have bW:k=m:=by omega
   have hT:TO wr b0 K.heap.size ao (n+k) co (la ++ Pl.scl q E):=by
    have h1:=HO.out;rw[pu (by omega)]at h1;exact h1
   have ap:=qh (EL (N:=N) (b0:=b0) hN (vars:=va) hT.sl (ba.app (bb.scl_ q)) (pD hw C.size) (by omega) hs);have cn:=J.cell p0;have hR:=bL.ext J;have b9:=qh hw;clear HO hT hs bW H O ba bb
   go_wp2_with fail
   refine ap.out.mono ?_;rintro e w1 ⟨a1,n1,c1,cc,rfl,z,bG,al,Q,ag⟩;have ac:=hR.ext z;have HX:=qh Q;have HY:=qh ag;have bg:=qh al;clear ap Q ag al hR
   go_wp2_with(refine Aa (vs:=pL va a1 n1 c1) rfl rfl rfl rfl rfl AJ ac rfl (AT _ _ _ _) ?_;intro w9 bq aj)
   exact py (Ap rfl AJ rfl bq) rfl ⟨a1,n1,c1,cc,rfl,(C.trans z).grownR aj (by omega),(bG.keptA ac (by decide) (by decide) (by decide) (by have:=b9.out;omega) aj).mono C.size,bg.out,HX.out,HY.out⟩
  have b6:(k:Int)<m:=by omega
  have G:k<E.length:=by omega
  obtain⟨s,y,ce,s1,x1,m1,d1,y1,g1,h1,a4,b5,f1,rfl,A,o,a2,ak,ah,aq⟩:=(hb.ext C).row D;have bl:wr.cell? ⟨s,y+k*5,none⟩=some (.bool s1):=by have:=A.cl D (j:=0) (by omega);rw[o]at this;exact this
  have bm:wr.cell? ⟨s,y+k*5+1,none⟩=some (.slice x1 m1 d1):=by have:=A.cl D (j:=1) (by omega);rw[o]at this;exact this
  have bn:wr.cell? ⟨s,y+k*5+2,none⟩=some (.bool false):=by have:=A.cl D (j:=2) (by omega);rw[o]at this;exact this
  have bo:wr.cell? ⟨s,y+k*5+3,none⟩=some (.slice y1 g1 h1):=by have:=A.cl D (j:=3) (by omega);rw[o]at this;exact this
  have bp:wr.cell? ⟨s,y+k*5+4,none⟩=some (.slice a4 b5 f1):=by have:=A.cl D (j:=4) (by omega);rw[o]at this;exact this
  have bj:=qh (UJ (q:=q) G);have S:E.getD k tz∈E:=ql (getD_some G);have b7:=qh (fun(wy:World) (f:Ext wr wy)=>KH (v := .agg #[.bool sq,.slice xq P cq,.bool false,.slice yq mq dq]) (p:=q) ⟨sq,xq,P,cq,yq,mq,dq,rfl,bi,(c9.ext C).ext f,(ca.ext C).ext f⟩ (v' := .agg #[.bool s1,.slice x1 m1 d1,.bool false,.slice y1 g1 h1]) (q:=(E.getD k tz).2) ⟨s1,x1,m1,d1,y1,g1,h1,rfl,a2,ak.ext f,ah.ext f⟩ rq (rb _ S));have bk:=qh aq;have bd:=qh O;have bf:=qh H;generalize E.getD k tz=t at *
  have c0:=J.cell u0;have c1:=J.cell u1;have c2:=J.cell u2;have c3:=J.cell u3;clear A o S ak ah aq a2 O H G
  go_upto_region 5 with(fail)
  have U:=fun(B:World) (f:Ext wr B)=>qh (And.intro (f.cell c0) (And.intro (f.cell c1) (And.intro (f.cell c2) (And.intro (f.cell c3) (And.intro (f.cell bl) (And.intro (f.cell bm) (And.intro (f.cell bn) (And.intro (f.cell bo) (And.intro (f.cell bp) (f.cell cd))))))))))
  refine B0
   [hdS ao (n+k) co,he (.agg #[.bool sq,.slice xq P cq,.bool false,.slice yq mq dq]),hdP (w.heap.size+2) 1,hdS (some ⟨s,y,none⟩) m d,hdI k,hdP s (y+k*5),hdP s (y+k*5),he (.agg #[.bool s1,.slice x1 m1 d1,.bool false,.slice y1 g1 h1]),hp (fun v B=>QV B v (q*t.2)),hdP (w.heap.size+2) 1,hdS (some ⟨s,y,none⟩) m d,hdI k,hdP s (y+k*5),hdP s ((y+k*5)+4),hdS a4 b5 f1,hp (fun v B=>Hc B b0 v (t.1,q*t.2)),hp (fun v B=>KL B b0 v (t.1,q*t.2))]
   ⟨fun v w w' e h=>QV.ext h e,Hc.x _ _,KL.x _ _,trivial⟩ ⟨?o0,?o1,?o2,?o3,?o4,?o5,?o6,?o7,?o8,?o9,?o10,?o11,?o12,?o13,?o14,?o15,?o16,trivial⟩ ?fin
  case o0 | o4 | o11=>exact omv
  case o1 | o7=>exact ol4
  case o2 | o9=>exact ofa (d:=1)
  case o3 | o10 | o14=>exact ol
  case o6=>exact ofa (d:=0)
  case o13=>exact ofa (d:=4)
  case o5 =>
   refine Aj rfl fun ρ B f R h => ?_;have e0:_=_:=h.1;have e1:_=_:=h.2.1;obtain⟨ar,av,ax,ay,aA,b1,b2,b3,b4,kv⟩:=(U B f).out;go_simp
   try (first | (intros;omega) | exact pq _ (by omega))
  case o8 =>
   refine Ag rfl fun ρ B f R ck h => ?_;have e1:_=_:=h.2.1;have e2:_=_:=h.2.2.1;obtain⟨ar,av,ax,ay,aA,b1,b2,b3,b4,kv⟩:=(U B f).out;refine⟨167,#[.agg #[.bool sq,.slice xq P cq,.bool false,.slice yq mq dq],.agg #[.bool s1,.slice x1 m1 d1,.bool false,.slice y1 g1 h1]],by go_simp,(b7.out B f).mono ?_⟩;rintro e w' ⟨s',a',n',c',b',m',d',rfl,bs,c6,c5,c4⟩;exact⟨_,rfl,bs,s',a',n',c',b',m',d',rfl,c6,c5,c4⟩
  case o12 =>
   refine Aj rfl fun ρ B f R h => ?_;have e0:_=_:=h.1;have e1:_=_:=h.2.1;obtain⟨ar,av,ax,ay,aA,b1,b2,b3,b4,kv⟩:=(U B f).out;go_simp
   try (first | (intros;omega) | exact pq _ (by omega))
  case o15 =>
   refine WD rfl rfl GE ?_;rintro ρ B hp f ⟨⟨v0,e0,i0⟩,h1,-⟩;exact⟨by rw[e0];exact i0,_,_,_,h1,bk.out.ext f⟩
  case o16 =>
   refine Ui rfl rfl underlying42 B8 ?_;rintro ρ B hp f ⟨⟨v0,e0,i0⟩,-⟩;rw[e0];exact i0
  case fin =>
   intro B f;rintro _ _;rintro _ _;rintro _ ⟨g9,cg,rfl,bv,ad⟩;change wpList _ _ _ _ _ _;simp only[Ci];obtain⟨cp,hK,bz,bx⟩:=HO.out;have aa:=hK.ext f;obtain⟨h5,h6⟩:=ad.five;have hL:=BT (k:=5) bv h5;have b8:=(J.trans f).size
   go_wp2_with(refine Dn rfl rfl underlying42 B8 rfl aa rfl hL (by intro r hr u hu;rw[pF.1 hr]at hu;exact h6 u hu) (by unfold maxLen;omega) (by omega) b8 ?_;intro a8 c8 w8 bK ai ch)
   have a0:=TO.grow aa bz (fun j hj=>(bx j hj).ext f) ad (pD hw L.size) bK ai;rw[qi,bj.out]at a0;have bt:Ext K w8:=(J.trans f).grown ai (fun g hg=>(hK.lt hg).1);have O:=bd.out;have H:=bf.out;go_roundw
   case rel=>exact⟨k+1,a8,c8,by go_num,by go_num,by omega,bt,qh a0⟩
   case measure=>simp[intOf];omega
def TBb(B:Int)(N:Nat)(l:List Pl.Tm):Prop:=∀ t∈l,t.1.length=N/\∀ x∈t.1,0<=x/\x<=B
theorem TBb.tb{l:List Pl.Tm}(h:TBb B N l)(c:B<=1099511627776):TB N l:=fun t a=>by
 obtain⟨h1,h2⟩:=h t a;exact⟨h1,fun x b=>by have:=h2 x b;omega⟩
theorem Vh(h:Za w base a n c xs):XI w b0 a n c xs :=
 ⟨Own.sl h,fun _ g e => .inr (by obtain⟨b,d,h1⟩:=Own.ty h g e;exact⟨b,d,h1⟩)⟩
def AC(l:List Pl.Tm):List Pl.Tm:=l.map (fun t=>(AY t.1,t.2))
theorem OR(l:List Pl.Tm):(AC l).length=l.length:=pH ..
theorem UQ(a b:List Pl.Tm):AC (a ++ b)=AC a ++ AC b:=qw ..
theorem It{n:Nat}:∀ {l:List Pl.Tm},(∀ t∈l,t.1.length=n)->∀ {e:List Int},e.length=n->Pl.coef (AC l) (AY e)=Pl.coef l e
 | [],_,_,_=>rfl
 | t :: r,hl,e,he=>by
  have ih:=It (l:=r) (fun s a=>hl s (by simp[a])) he;have h1:(AY t.1=AY e)<->t.1=e:=⟨fun h=>TA ((hl t (by simp)).trans he.symm) h,fun h=>by rw[h]⟩;show(if AY t.1=AY e then t.2 else 0)+Pl.coef (AC r) (AY e)=(if t.1=e then t.2 else 0)+Pl.coef r e;rw[ih];simp only[h1]
theorem IS{l:List Pl.Tm}(a:∀ t∈l,t.1.length=n){e:List Int}(h:¬ ∃ x:List Int,x.length=n/\AY x=e):Pl.coef (AC l) e=0:=by
 refine Pl.coef_absent fun t c he => ?_;obtain⟨s,b,rfl⟩:=pU.1 c;exact h ⟨s.1,a s b,he⟩
theorem KM{a b:List Pl.Tm}(d:∀ t∈a,t.1.length=n)(f:∀ t∈b,t.1.length=n)(h:∀ e,e.length=n->Pl.coef a e=Pl.coef b e):∀ e,Pl.coef (AC a) e=Pl.coef (AC b) e:=by
 intro e;by_cases c:∃ x:List Int,x.length=n/\AY x=e
 · obtain⟨x,h1,rfl⟩:=c;rw[It d h1,It f h1,h x h1]
 · rw[IS d c,IS f c]
theorem KN(d:n<=6){l:List Pl.Tm}(h:Pl.Canon n l):Pl.Canon 6 (AC l):=by
 refine⟨?_,?_,?_⟩
 · intro t b;obtain⟨s,a,rfl⟩:=pU.1 b;exact D0 (by rw[h.len s a];exact d)
 · intro t b;obtain⟨s,a,rfl⟩:=pU.1 b;exact h.nz s a
 · refine sC.2 (h.desc.imp_of_mem ?_);intro s t a b c;rw[Km ((h.len s a).trans (h.len t b).symm)];exact c
def wrU(l:List Pl.Tm):List Tx:=l.map (fun t=>(txt t.2,t.1))
theorem VT{l:List Pl.Tm}(h:∀ t∈l,t.1.length=n):wrT n (AC l)=wrU l:=by
 unfold wrT AC wrU;rw[sn];refine so fun t a => ?_;show(txt t.2,(AY t.1).take n)=(txt t.2,t.1);rw[<-h t a,Ie]
def okU(l:List Pl.Tm):Prop:=l.length<=4096/\∀ t r,l=t :: r->A3 t.1=true
theorem Ru(b:n<=6){l:List Pl.Tm}(h:∀ t∈l,t.1.length=n):okW (AC l)<->okU l:=by
 unfold okW okU;rw[OR];refine and_congr_right fun _ => ?_;cases l with
 | nil=>simp[AC]
 | cons t r =>
  have a:=GC (l:=t.1) (by rw[h t (by simp)];exact b);constructor
  · intro h1 d c he;injection he with h2 h3;subst h2;have:=h1 _ _ rfl;rw[<-a];exact this
  · intro h1 d c he;injection he with h2 h3;rw[<-h2];show A3 (AY t.1)=true;rw[a];exact h1 _ _ rfl
theorem OS(b:n<=6){l p:List Pl.Tm}(h:Pl.Canon n l)(c:∀ e,Pl.coef (AC l) e=Pl.coef p e):(okU l/\resQ (n:Int) p=((n:Int),wrU l,0))\/(¬ okU l/\resQ (n:Int) p=(0,[],2)):=by
 have h1:cnP p=AC l:=P4 (KN b h) c;unfold resQ;rw[h1,qZ,VT h.len];by_cases a:okU l
 · exact Or.inl ⟨a,pP ((Ru b h.len).2 a)⟩
 · exact Or.inr ⟨a,pC fun h2=>a ((Ru b h.len).1 h2)⟩
def rdU(t:Tx):Pl.Tm:=(t.2,(AD t.1).getD 0)
theorem Qf{t:Tx}{m:Pl.Tm}(h:AS vars t=some m):m=(AY (rdU t).1,(rdU t).2):=by
 obtain⟨h1,_,_,_,h2⟩:=Bm h;unfold rdU;rw[h1];exact Prod.ext h2 rfl
theorem Rv{ts:List Tx}{l:List Pl.Tm}(h:rdP vars ts=some l):l=AC (ts.map rdU)/\Pl.Canon vars.toNat (ts.map rdU):=by
 obtain⟨n,h1,h2,h3,h4⟩:=AW h;have b:∀ t∈ts,∃ m,AS vars t=some m:=by
  intro t b;obtain⟨i,c,rfl⟩:=r9.1 b;have:=h3.1 i c;rw[gqq,oO c,pY]at this;exact sP.1 this
 refine⟨?_,?_,?_,?_⟩
 · rw[h4];unfold AC;rw[sn];refine so fun t h5 => ?_;obtain⟨m,a⟩:=b t h5;rw[a];exact Qf a
 · intro t h5;obtain⟨s,h6,rfl⟩:=pU.1 h5;obtain⟨m,a⟩:=b s h6;have:=(Bm a).2.2.1;show s.2.length=_;omega
 · intro t h5;obtain⟨s,h6,rfl⟩:=pU.1 h5;obtain⟨m,a⟩:=b s h6;obtain⟨d,f,_⟩:=Bm a;show(AD s.1).getD 0≠0;rw[d];exact f
 · refine sC.2 (rZ.2 fun i j c k g => ?_);have:=In h3.2 (j-i-1) i (by omega);have e:i+(j-i-1)+1=j:=by omega
   rw[e,gqq,gqq,oO c,oO k,pY,pY]at this;exact this
theorem Qu(j:P.underlying t=some (.slice e))(a:BV P e zs 2 bytes) :
 (Instr.buildSlice t 1 #[(0,.agg #[r0,r1])]).run P w = .ok (.slice (some ⟨w.heap.size,0,none⟩) 1 1) (w.alloc (.cells #[r0,r1] e)):=by
 obtain⟨i,f,c,b,d⟩:=a.parts;have g:=a.2.1
 match zs,g,c with
 | [z0,z1],_,c =>
 simp[Instr.buildSlice,qF j,sizeOf,typeInfo,f,b,Instr.fill,zeroValue,c,newRow,Value.cells,show Array.range 2=#[0,1] by decide]
theorem Uj(h:Own w b e a n c cs)(i:AR w b' e' k a' n' c' rows)(m:e≠e'):blk a=none\/blk a≠blk a':=by
 cases j:blk a with
 | none=>exact .inl rfl
 | some g =>
  refine .inr fun l => ?_;obtain⟨cs,o,h1⟩:=Own.ty h g j;obtain⟨d,f,h2⟩:=i.ty l.symm;rw[h1]at h2;simp only[pz,rW]at h2;exact m h2.2.1
theorem VU(h:Own w b e a n c cs)(d:Arr w g t ds)(j:e≠t):blk a=none\/blk a≠some g:=by
 cases i:blk a with
 | none=>exact .inl rfl
 | some q =>
  refine .inr fun f => ?_;obtain⟨cs,k,h1⟩:=Own.ty h q i;injection f with f;subst f;unfold Arr at d;rw[h1]at d;simp only[pz,rW]at d;exact j d.2.1
theorem TmO.grow{l:List Tx}{t:Tx}(f:AR w base 26 2 a n c rows)(g:l.length=n)(o:∀ i,i<n->I5 w base (rows.getD i []) (l.getD i tm0))(r:I5 w base row t)(m:AR w' base 26 2 a' (n+1) c' (rows ++ [row]))(p:w.grownBy w' (blk a)):TmO w' base a' (n+1) c' (l ++ [t]):=by
 have d:∀ {row:List Value} {t:Tx},I5 w base row t->I5 w' base row t:=fun {row t} h=>by
  obtain⟨s,j,v,k,h1,h2,h3⟩:=h;exact⟨s,j,v,k,h1,h2,h3.kept p (Uj h3 f (by decide))⟩
 refine⟨_,m,by simp[g],fun i x => ?_⟩;have q:rows.length=n:=f.len (by omega);by_cases e:i<n
 · have h1:(rows ++ [row]).getD i []=rows.getD i []:=by rw[gqq,pO (by omega),<-gqq]
   have h2:(l ++ [t]).getD i tm0=l.getD i tm0:=by rw[gqq,pO (by omega),<-gqq]
   rw[h1,h2];exact d (o i e)
 · have b:i=n:=by omega
   have h1:(rows ++ [row]).getD i []=row:=by rw[gqq,pW (by omega),q,b,ro];rfl
   have h2:(l ++ [t]).getD i tm0=t:=by rw[gqq,pW (by omega),g,b,ro];rfl
   rw[h1,h2];exact d r
theorem TmO.keptU{l:List Tx}(h:TmO w base a n c l)(f:Arr w g t cs)(h1:26≠t)(h2:3≠t)(j:w.grownBy w' (some g)):TmO w' base a n c l:=by
 obtain⟨b,k,x,y⟩:=h;refine⟨b,k.kept j ?_,x,fun i v => ?_⟩
 · cases d:blk a with
   | none=>exact .inl rfl
   | some q=>exact .inr fun he=>k.ne f h1 (by rw[d,he])
 · obtain⟨s,m,z,o,p,r,e⟩:=y i v;exact⟨s,m,z,o,p,r,e.kept j (VU e f h2)⟩
def Yz(w0:World)(vars:Int)(ts:List Tx)(e:Ending)(w':World):Prop:=∃ a n c,e = .returned (BS vars a n c)/\Ext w0 w'/\TmO w' w0.heap.size a n c ts
theorem UM{l:List Pl.Tm}(hi:i<l.length):wrU (l.take i) ++ [(txt (l.getD i tz).2,(l.getD i tz).1)]=wrU (l.take (i+1)):=by
 unfold wrU;rw[pB hi,qw,gqq,oO hi];rfl
theorem IZ{l:List Pl.Tm}(h:TSl w b0 a n c l)(hq:∀ t∈l,Pl.RB 1000000 t.2)(bl:∀ t∈l,t.1.length<=12)(hn:n<=100000) :
 Calls prog 76 #[.agg (pL vars a n c).toArray] w (Yz w vars (wrU l)):=by
 have hl:=h.len
 go_enter func76,ntmps76
 go_upto_region 1 with(fail)
 refine Cf ?_;intro D U R ab a2;have bg:Arr D (w.heap.size+1) 28 (Ah 0 none 0 0):=ab;have p0:=R.c 0 rfl;have p1:=R.c 1 rfl;have E:=Arr.new D 28 (Ah vars none 0 0);have ac:=(Ext.refl D).alloc (.cells (Ah vars none 0 0).toArray 28);clear R ab
 go_upto_region 2 with(fail)
 change Code.wp _ _ _ _ (D.alloc (.cells (Ah vars none 0 0).toArray 28));generalize D.alloc (.cells (Ah vars none 0 0).toArray 28)=w2 at *
 have a6:Hid (TmO w2 D.heap.size none 0 0 []):=qh (TmO.nil _ _);have a4:Hid (D.heap.size<=w.heap.size+2):=qh (vj a2);rw[a2]at E;obtain⟨L,W⟩:∃ L,w.heap.size+2=L:=⟨_,rfl⟩;rw[W]at E a4;simp only[W];have h0:=h.ext U;clear W h a2;go_wp2
 go_loopw[4] (fun iv wr=>∃ (i:Nat) (M:Option Addr) (O:Nat),iv = .int .i64 i/\i<=n/\Ext D wr/\Arr wr L 28 (Ah vars M i O)/\Hid (TmO wr D.heap.size M i O (wrU (l.take i)))) (fun iv _=>n-(intOf iv).toNat)
 case atStart=>exact⟨0,none,0,rfl,pE _,ac,E,by rw[rf];exact a6⟩
 case round =>
  clear a6 E ac;obtain⟨i,M,O,rfl,bj,T,B,HO⟩:=hrel;have bn:=T.cell p1;by_cases hi:i<n
  case neg =>
   have bi:¬ (i:Int)<n:=by omega
   have bk:i=n:=by omega
   have HX:Hid (TmO wr D.heap.size M i O (wrU l)):=by have h1:=HO.out;rw[pu (by omega)]at h1;exact qh h1
   have z0:=B.c 0 rfl;have z1:=B.c 1 rfl;have ah:=bg.ext T;clear bk HO B bj
   go_wp2_with(refine Aa (vs:=Ah vars M i O) rfl rfl rfl rfl rfl Ad ah rfl (Am _ _ _ _) ?_;intro w9 b4 ak)
   exact py (Ap rfl Ad rfl b4) rfl ⟨M,i,O,rfl,(U.trans T).grownR ak (by omega),(HX.out.keptU ah (by decide) (by decide) ak).mono U.size⟩
  have bi:(i:Int)<n:=by omega
  have P:i<l.length:=by omega
  obtain⟨p,q,bo,s1,x1,m1,d1,y1,g1,h1,aa,N,f1,rfl,z,o,a5,ap,ai,Y⟩:=(h0.ext T).row hi;have Q:l.getD i tz∈l:=ql (getD_some P);have bp:N<=12:=by have q1:=Y.1.len;have q2:=bl _ Q;omega
  have ay:wr.cell? ⟨p,q+i*5,none⟩=some (.bool s1):=by have:=z.cl hi (j:=0) (by omega);rw[o]at this;exact this
  have aA:wr.cell? ⟨p,q+i*5+1,none⟩=some (.slice x1 m1 d1):=by have:=z.cl hi (j:=1) (by omega);rw[o]at this;exact this
  have b1:wr.cell? ⟨p,q+i*5+2,none⟩=some (.bool false):=by have:=z.cl hi (j:=2) (by omega);rw[o]at this;exact this
  have b2:wr.cell? ⟨p,q+i*5+3,none⟩=some (.slice y1 g1 h1):=by have:=z.cl hi (j:=3) (by omega);rw[o]at this;exact this
  have b3:wr.cell? ⟨p,q+i*5+4,none⟩=some (.slice aa N f1):=by have:=z.cl hi (j:=4) (by omega);rw[o]at this;exact this
  have pp:=B.c 1 rfl;have aq:=qh (fun(b:World) (f:Ext wr b)=>KK (v := .agg #[.bool s1,.slice x1 m1 d1,.bool false,.slice y1 g1 h1]) ⟨s1,x1,m1,d1,y1,g1,h1,rfl,a5,ap.ext f,ai.ext f⟩ (hq _ Q));obtain⟨S,hS⟩:∃ S:ByteArray,(⟨(txt (l.getD i tz).2).toArray⟩:ByteArray)=S:=⟨_,rfl⟩;rw[hS]at aq;have ax:Hid (An S=txt (l.getD i tz).2):=by rw[<-hS];exact qh rfl
  have a8:=qh (UM P);have C:∀ b,Ext wr b->wr.heap.size<=b.heap.size:=fun b f=>f.size;have Z:=Y.1;obtain⟨xs,ar⟩:∃ xs,(l.getD i tz).1=xs:=⟨_,rfl⟩;rw[ar]at Z a8;have bL:=Z.len;clear hS z o ap ai a5 Y ar
  go_upto_region 5 with(fail)
  have A:=fun(b:World) (f:Ext wr b)=>qh (And.intro (f.cell pp) (And.intro (f.cell bn) (And.intro (f.cell ay) (And.intro (f.cell aA) (And.intro (f.cell b1) (And.intro (f.cell b2) (f.cell b3)))))))
  refine B0
   [hdP L 1,hdS M i O,hdP w.heap.size 1,hdS (some ⟨p,q,none⟩) n c,hdI i,hdP p (q+i*5),hdP p (q+i*5),he (.agg #[.bool s1,.slice x1 m1 d1,.bool false,.slice y1 g1 h1]),hp (fun v b=>v = .string S),hu 16 (fun v b=>∃ g,v = .slice (some ⟨g,0,none⟩) 0 0/\Own b wr.heap.size 3 (some ⟨g,0,none⟩) 0 0 []),hdP w.heap.size 1,hdS (some ⟨p,q,none⟩) n c,hdI i,hdP p (q+i*5),hdP p ((q+i*5)+4),hdS aa N f1,hmp (fun v b=>∃ s x,v = .slice s N x/\Own b wr.heap.size 3 s N x (xs.map (Value.int .i64))),hp (fun v b=>∃ s x,v = .agg #[.string S,.slice s N x]/\Own b wr.heap.size 3 s N x (xs.map (Value.int .i64))),hp (fun v b=>∃ g s x,v = .slice (some ⟨g,0,none⟩) 1 1/\Arr b g 26 (tmL S s N x)/\Own b wr.heap.size 3 s N x (xs.map (Value.int .i64)))]
   ⟨fun v w w' e h=>h,fun v w w' e ⟨g,h1,h2⟩=>⟨g,h1,h2.ext e⟩,fun v w w' e ⟨s,x,h1,h2⟩=>⟨s,x,h1,h2.ext e⟩,fun v w w' e ⟨s,x,h1,h2⟩=>⟨s,x,h1,h2.ext e⟩,fun v w w' e ⟨g,s,x,h1,h2,h3⟩=>⟨g,s,x,h1,h2.ext e,h3.ext e⟩,trivial⟩ ⟨?o0,?o1,?o2,?o3,?o4,?o5,?o6,?o7,?o8,?o9,?o10,?o11,?o12,?o13,?o14,?o15,?o16,?o17,?o18,trivial⟩ ?fin
  case o0 | o2 | o10=>exact ofa (d:=1)
  case o1 | o3 | o11 | o15=>exact ol
  case o4 | o12=>exact omv
  case o6=>exact ofa (d:=0)
  case o7=>exact ol4
  case o14=>exact ofa (d:=4)
  case o5 =>
   refine Aj rfl fun ρ b f y h => ?_;have e0:_=_:=h.1;have e1:_=_:=h.2.1;obtain⟨kp,kq,G,H,I,J,K⟩:=(A b f).out;go_simp
   try (first | (intros;omega) | exact pq _ (by omega))
  case o8 =>
   refine Ag rfl fun ρ b f y aj h => ?_;have e1:_=_:=h.2.1;obtain⟨kp,kq,G,H,I,J,K⟩:=(A b f).out;refine⟨96,#[.agg #[.bool s1,.slice x1 m1 d1,.bool false,.slice y1 g1 h1]],by go_simp,(aq.out b f).mono ?_⟩;rintro e w' ⟨rfl,b5⟩;exact⟨_,rfl,b5,rfl⟩
  case o9 =>
   exact UK rfl rfl underlying24 Dt C
  case o13 =>
   refine Aj rfl fun ρ b f y h => ?_;have e0:_=_:=h.1;have e1:_=_:=h.2.1;obtain⟨kp,kq,G,H,I,J,K⟩:=(A b f).out;go_simp
   try (first | (intros;omega) | exact pq _ (by omega))
  case o16 =>
   refine Wi rfl rfl underlying24 Dt rfl (n:=0) (m:=N) (xs:=[]) (news:=(xs.map (Value.int .i64))) (Cc _) (by omega) (by unfold maxLen;omega) (by omega) (qR _) C ?_;rintro ρ b hp f ⟨⟨v0,e0,g,rfl,ad⟩,h1,-⟩;refine⟨_,_,_,_,e0,ad,h1,Z.ext f,fun w' hg=>⟨f.grown hg ?_,L6 (j:=8) (by kernel_rfl) (fun _ h=>h)⟩⟩;intro k hk;exact(Own.lt ad hk).1
  case o17 =>
   refine AE rfl ?_;intro ρ b hp f h;have y:=hp.const;have aj:=hp.func;obtain⟨v0,e0,rfl⟩:=h.1;obtain⟨v1,e1,s,x,rfl,i1⟩:=h.2.1;obtain⟨kp,kq,G,H,I,J,K⟩:=(A b f).out;refine⟨.agg #[.string S,.slice s N x],b,?_,Ext.refl b,s,x,rfl,i1⟩;go_simp
  case o18 =>
   refine AE rfl ?_;intro ρ b hp f h;have y:=hp.const;have aj:=hp.func;obtain⟨v0,e0,a0,c0,rfl,i0⟩:=h.1;obtain⟨kp,kq,G,H,I,J,K⟩:=(A b f).out;refine⟨_,_,?_,(Ext.refl b).alloc (.cells (tmL S a0 N c0).toArray 26),b.heap.size,a0,c0,rfl,Arr.new b 26 (tmL S a0 N c0),i0.alloc _⟩;simp[execOp,e0,Qu underlying22 F5];rfl
  case fin =>
   intro b f;rintro _ rfl;rintro _;rintro _ ⟨bv,bz,rfl,bq⟩;rintro _ ⟨bx,bG,rfl,bs⟩;rintro _ ⟨g9,a9,c9,rfl,b8,bd⟩;change wpList _ _ _ _ _ _;simp only[Ci];obtain⟨bt,hK,ba,b9⟩:=HO.out;have V:=hK.ext f;have hL:=BT (k:=2) b8 rfl;have ag:=B.ext f;have bm:=V.ne ag (by decide)
   go_wp2_with(refine Dn rfl rfl underlying22 F5 rfl V rfl hL (by intro r hr u hu;rw[pF.1 hr]at hu;exact CI _ _ _ _ u hu) (by unfold maxLen;omega) (by omega) ((T.trans f).size) ?_;intro a7 c7 w7 bb X bK;have F:=ag.kept X bm;have bR:=F.frozen 1;have bN:w7.cell? ⟨L,1,none⟩=some (.slice M i O):=F.cell (i:=1) (by simp[Ah]))
   have a3:=TmO.grow V ba (fun j hj=>(b9 j hj).ext f) (⟨S,a9,N,c9,rfl,ax.out,bd.mono T.size⟩:I5 _ _ (tmL S a9 N c9) (txt (l.getD i tz).2,xs)) bb X;rw[a8.out]at a3;have b6:Ext D w7:=(T.trans f).grown X (fun k hk=>(hK.lt hk).1);have al:=Ar w7 L 1 (.slice a7 (i+1) c7);have bf:Arr (w7.setCell ⟨L,1,none⟩ (.slice a7 (i+1) c7)) L 28 (Ah vars a7 (i+1) c7):=F.set 1 _;have av:=a3.keptU F (by decide) (by decide) al;have b7:=b6.grownR al a4.out;go_roundw
   case rel=>exact⟨i+1,a7,c7,by go_num,by omega,b7,bf,qh av⟩
   case measure=>simp[intOf];omega
def YA(w:World)(l:List Pl.Tm)(e:Ending)(w':World):Prop:=∃ b,e = .returned (.bool b)/\(b=true<->okU l)/\Ext w w'
theorem Qv{l:List Pl.Tm}(h:TSl w b0 a n c l) :
 Calls prog 120 #[.agg (pL vars a n c).toArray] w (YA w l):=by
 have D:=h.len;by_cases h1:n<=4096
 · have m:(n:Int)<=4096:=by omega
   rcases pT n with h0|h0
   · subst h0;have f:okU l:=⟨by omega,fun t r e=>by rw[e]at D;simp at D⟩;clear h1 m
     go_enter func120,ntmps120
     go_upto_region 1 with(fail)
     refine AP ?_;intro C d b k;have E:=b.c 1 rfl;go_wp2;go_ret;exact⟨true,rfl,by simp[f],d⟩
   · have J:((n:Int) == 0)=false:=by simp;omega
     have y:0<l.length:=by omega
     have f:okU l<->A3 (l.getD 0 tz).1=true:=by
      cases l with
      | nil=>simp at y
      | cons t r=>exact⟨fun h=>h.2 t r rfl,fun h=>⟨by omega,fun R Q e=>by injection e with F M;subst F;exact h⟩⟩
     clear h1
     go_enter func120,ntmps120
     go_upto_region 1 with(fail)
     refine AP ?_;intro C d b k;have E:=b.c 1 rfl;obtain⟨s,A,B,s1,T,P,L,U,O,h1,v,N,G,rfl,o,g,q,z,x,i⟩:=(h.ext d).row h0;have H:C.cell? ⟨s,A+4,none⟩=some (.slice v N G):=by have:=o.cl h0 (j:=4) (by omega);rw[g,r7,qy]at this;exact this
     have I:(0:Int)<n:=by omega
     obtain⟨e0,p⟩:∃ e0,(l.getD 0 tz).1=e0:=⟨_,rfl⟩;rw[p]at i f;have K:=qh (IT i.1);clear p;clear o g q z x i k b
     go_wp2_with fail
     refine K.out.mono ?_;rintro e S ⟨rfl,rfl⟩;go_wp2;go_ret;exact⟨_,rfl,f.symm,d⟩
 · have m:¬ (n:Int)<=4096:=by omega
   have f:¬ okU l:=fun h=>by have:=h.1;omega
   clear h1
   go_enter func120,ntmps120
   go_upto_region 1 with(fail)
   refine AP ?_;intro C d b k;have E:=b.c 1 rfl;go_wp2;go_ret;exact⟨false,rfl,by simp[f],d⟩
theorem Xw(h:SlI w a n c xs):XI w w.heap.size a n c xs:=by
 refine⟨h,fun h0 g e => .inl ?_⟩;obtain⟨b,o,rfl,d⟩:=Sl.rd h h0;have h1:b<w.heap.size:=qV w _ (d 0 h0);have h2:b=g:=by simpa[blk]using e
 omega
theorem Pl.coef_canon{l:List Pl.Tm}(h:Pl.Canon n l){t:Pl.Tm}(d:t∈l):Pl.coef l t.1=t.2:=by
 refine Pl.coef_mem ?_ d;refine List.Pairwise.map _ (fun a b c => ?_) h.desc;intro he;rw[he,Pl.ordE_self]at c;omega
theorem Uk{ts:List Tx}(a:k<ts.length):(ts.take k).map rdU ++ [rdU (ts.getD k tm0)]=(ts.take (k+1)).map rdU:=by
 rw[pB a,qw,gqq,oO a];rfl
end Go.Proofs.YtlbmnokpiilfpaaGreatDoor
