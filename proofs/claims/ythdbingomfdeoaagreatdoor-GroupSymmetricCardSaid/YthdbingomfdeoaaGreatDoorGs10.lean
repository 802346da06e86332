/- Part Gs10. -/
import Derived.Test.YthdbingomfdeoaaGreatDoorGs9
import Derived.StillTailTactics
import Derived.ArgAppend
import Derived.Shelf.SlLaysF0
import Derived.Test.YthdbingomfdeoaaGreatDoorProg
set_option linter.all false
set_option maxRecDepth 100000
set_option maxHeartbeats 100000000
namespace Go.Proofs.YthdbingomfdeoaaGreatDoor
open Tryz Go Go.RowKit
def iT:=@Rat.mul_assoc
def jN:=@List.sum_cons
def kg:=@Rat.natCast_mul
def kh:=@Rat.intCast_mul
def li:=@ByteArray.toList_eq
def mC:=@Rat.natCast_eq_zero_iff
variable {f:Act} {ad:Addr} {ops:Array Oper} {s:ByteArray} {Q:Exit->Act->World->Prop} {vars:Int} {m:List (List Int×Value)} {news rows:List (List Value)} {xs ys:List Int} {seen:List Nat} {rest:List Oper} {dt l:List UInt8} {cs vs zs:List Value} {base c cx d g it k n r:Nat} {o:Oper} {x y:Operand} {a b:Option Addr} {row:Option Nat} {P:Program} {e et kt mt t ty vt:TypeId} {v:Value} {w w':World}
section
variable {P:Program} {w:World}
theorem Q6{o:Nat}{b:List Value}(d:(P.info? ty).map (·.size)=some vs.length)(k:v.cells=vs.toArray)(h:Arr w g t cs)(i:o+vs.length<=cs.length)(h1:∀ v∈vs,v.oneCell'=true)(c:cs.take o ++ vs ++ cs.drop (o+vs.length)=b) :
 ∃ f,(Instr.storeAt ty (.pointer (some ⟨g,o,none⟩)) v).run P w = .ok () f/\Arr f g t b/\w.grownBy f (some g):=by
 have a:=run_storeCells_at (P:=P) g o t vs 0 cs.toArray w h (by simpa using i) h1;rw[gE]at a;simp only[c]at a;refine⟨w.setRow g b.toArray,?_,C4 h b,BH w g _⟩;cases e:P.info? ty with
 | none=>simp[e]at d
 | some inf =>
  have j:inf.size=vs.length:=by simpa[e]using d
  simp[Instr.storeAt,Instr.sureAddr,storeVar,Go.sizeOf,typeInfo,e,k,j,a]
theorem Ch(j:o.guard=none)(n:o.op = .store ty x y)
 {g a:Nat} {t:TypeId} {cs:List Value} (vs d:List Value) {v:Value} (k:(P.info? ty).map (·.size)=some vs.length) (q:f.eval x = .pointer (some ⟨g,a,none⟩)) (r:f.eval y=v) (p:v.cells=vs.toArray) (h:Arr w g t cs) (m:a+vs.length<=cs.length) (h1:∀ v∈vs,v.oneCell'=true) (b:cs.take a ++ vs ++ cs.drop (a+vs.length)=d)
 (l:∀ e,Arr e g t d->w.grownBy e (some g)->wpList P ops Q rest (f.put o.dst undef) e):wpList P ops Q (o :: rest) f w:=by
 refine gI j fun K i => ?_;obtain⟨e,c,h2,h3⟩:=Q6 (P:=P) k p h m h1 b;unfold Oper.wp execOp;simp only[n,q,r,fC,c,fe,fQ,Oper.upon];exact i _ _ (l _ h2 h3)
end
theorem Qa(h:k<s.size):(Ah s).getD k 0=s[k]:=by
 have h1:k<(Ah s).length:=by rw[AD];exact h
 rw[gqq,eZ h1];rfl
theorem UM(h:s.size=0):Ah s=[]:=fk (by rw[AD];exact h)
theorem Xe(h0:0<s.size):((s.extract 0 1).toList == [45])=decide ((Ah s).head?=some 45)/\(Ah s).tail=Ah (s.extract 1 s.size):=by
 have b:(s.extract 0 1).toList=Ah (s.extract 0 1):=li ..;rw[b,B3,B3];have a:=AD s;generalize Ah s=l at *
 cases l with
 | nil=>simp at a;omega
 | cons c r =>
  refine⟨?_,?_⟩
  · simp;by_cases h:c=45 <;> simp[h]
  · simp only[lV,iB,gP];rw[f9 (by simp at a;omega)]
theorem K7(s:ByteArray)(w:World) :
 Calls prog 139 #[.string s,.string { data:=#[45] }] w fun e d=>e = .returned (.tuple #[.string ⟨(if(Ah s).head?=some 45 then(Ah s).tail else Ah s).toArray⟩,.bool (decide ((Ah s).head?=some 45))])/\d=w:=by
 by_cases h0:s.size=0
 · have e:=UM h0;have c:s=⟨#[]⟩:=QR e;subst c
   go_enter func139,ntmps139
   go_wp2
   go_ret2
   exact⟨rfl,rfl⟩
 · have h1:(1:Int)<=(s.size:Int):=by omega
   obtain⟨a,b⟩:=Xe (s:=s) (by omega);by_cases h:(Ah s).head?=some 45
   · simp only[h,ke,kQ]at a |-
     go_enter func139,ntmps139
     go_wp2
     go_ret2
     exact⟨by rw[b];rfl,rfl⟩
   · simp only[h,jZ,ll]at a |-
     go_enter func139,ntmps139
     go_wp2
     go_ret2
     exact⟨rfl,rfl⟩
theorem Wk(b:k<(pre l).length):k<l.length/\48<=(l.getD k 0).toNat/\(l.getD k 0).toNat<=57:=by
 have a:=FY l;have c:=fM List.length a;rw[fo]at c;have h1:l.getD k 0=(pre l)[k]:=by
  have:(pre l ++ suf l).getD k 0=(pre l)[k]:=by simp[fj b,b]
  rw[a]at this;exact this
 have h2:=K3 l _ (fE b);rw[h1];exact⟨by omega,h2.1,h2.2⟩
theorem SK(h:(pre l).length<l.length):¬ (48<=(l.getD (pre l).length 0).toNat/\(l.getD (pre l).length 0).toNat<=57):=by
 induction l with
 | nil=>simp at h
 | cons c r ih =>
  by_cases a:Ng c=true
  · have e:pre (c :: r)=c :: pre r:=by simp[pre,a]
    rw[e]at h |-;simp only[fP,lg]at h |-;exact ih (by omega)
  · have e:pre (c :: r)=[]:=by simp[pre,a]
    rw[e];simpa[Ng]using a
theorem Gc(s:ByteArray)(w:World)(q:s.size<=1000000) :
 Calls prog 140 #[.string s] w fun e p=>e = .returned (.tuple #[.string ⟨(pre (Ah s)).toArray⟩,.string ⟨(suf (Ah s)).toArray⟩])/\Ext w p:=by
 obtain⟨K,b⟩:∃ K,(pre (Ah s)).length=K:=⟨_,rfl⟩
 have j:Hid (∀ k,k<K->∃ h:k<s.size,48<=((s[k].toNat:Nat):Int)/\((s[k].toNat:Nat):Int)<=57):=qh fun k o=>by
  obtain⟨h1,h2,h3⟩:=Wk (l:=Ah s) (k:=k) (by omega);rw[AD]at h1;rw[Qa h1]at h2 h3;exact⟨h1,by omega,by omega⟩
 have m:Hid (∀ h:K<s.size,¬ (48<=((s[K].toNat:Nat):Int)/\((s[K].toNat:Nat):Int)<=57)):=qh fun h=>by
  have h1:=SK (l:=Ah s) (by rw[AD,b];exact h);rw[b,Qa h]at h1;omega
 have n:K<=s.size:=by
  have:=fM List.length (FY (Ah s));rw[fo,AD]at this;omega
 have a:Hid (pre (Ah s)=Ah (s.extract 0 K)/\suf (Ah s)=Ah (s.extract K s.size)):=by
  have h1:=FY (Ah s);refine qh ⟨?_,?_⟩
  · rw[B3,gP,jn];have h2:(pre (Ah s) ++ suf (Ah s)).take K=pre (Ah s):=by rw[<-b];simp
    rw[h1]at h2;exact h2.symm
  · rw[B3];have h2:(pre (Ah s) ++ suf (Ah s)).drop K=suf (Ah s):=by rw[<-b];simp
    rw[h1]at h2;rw[h2,f9];rw[<-h2,kE,AD];omega
 clear b
 go_enter func140,ntmps140
 go_wp2
 go_loop[4] (fun g=>∃ k:Nat,g = .int .i64 k/\k<=K) (fun g=>K-(intOf g).toNat)
 case atStart=>exact⟨0,rfl,fu _⟩
 case round =>
  obtain⟨k,rfl,o⟩:=hrel;by_cases d:k<K
  · obtain⟨h1,h2,h3⟩:=j.out k d;go_wp2;go_round
    case rel=>exact⟨k+1,by go_num,by omega⟩
    case measure=>simp[intOf];omega
  · have c:k=K:=by omega
    subst c;by_cases f:k<s.size
    · have h1:=m.out f;by_cases h2:48<=((s[k].toNat:Nat):Int)
      · have h3:¬ ((s[k].toNat:Nat):Int)<=57:=fun h3=>h1 ⟨h2,h3⟩;clear h1;go_wp2
        go_quiet (fail)
        go_wp2
        go_ret2
        exact⟨by rw[a.out.1,a.out.2];rfl,(Ext.refl w).drewN _⟩
      · clear h1;go_wp2
        go_quiet (fail)
        go_wp2
        go_ret2
        exact⟨by rw[a.out.1,a.out.2];rfl,(Ext.refl w).drewN _⟩
    · have i:¬ (k:Int)<(s.size:Int):=by omega
      go_wp2
      go_quiet (fail)
      go_wp2
      go_ret2
      exact⟨by rw[a.out.1,a.out.2];rfl,(Ext.refl w).drewN _⟩
theorem JB{c:UInt8}{t:List UInt8}(h:c≠UInt8.ofNat n):((((({ data:=(c :: t).toArray }:ByteArray)[0]'(by show 0<(c :: t).toArray.size;simp)).toNat:Nat):Int) == (n:Int))=false:=by
 show((c.toNat:Int) == (n:Int))=false;have h1:c.toNat≠n:=fun e=>h (by rw[<-e];simp);simp;omega
theorem d49{d:UInt8}:decide (d :: dt≠[49])=(!d == 49 || !dt.isEmpty):=by
 by_cases h1:d=49 <;> cases dt <;> simp[h1]
theorem A5:Agg prog 167 3:=⟨by kernel_rfl,by kernel_rfl⟩
def BK(neg:Bool)(num den:List UInt8):List Value:=[.bool neg,.string ⟨num.toArray⟩,.string ⟨den.toArray⟩]
theorem Cb(neg:Bool)(b a:List UInt8):∀ v∈BK neg b a,v.oneCell'=true:=by
 intro v c;simp only[BK,fV,ib,kx]at c;rcases c with rfl|rfl|rfl <;> rfl
theorem UN(a b:List UInt8):((⟨a.toArray⟩:ByteArray).toList == (⟨b.toArray⟩:ByteArray).toList)=decide (a=b):=by
 rw[li,li];show(a == b)=_;by_cases h:a=b <;> simp[h]
theorem Ij(s:ByteArray)(w:World)(hs:s.size<=1000000) :
 Calls prog 101 #[.string s] w fun e w'=>e = .returned (.tuple #[.agg (BK (CG (Ah s)).1.1 (CG (Ah s)).1.2.1 (CG (Ah s)).1.2.2).toArray,.bool (CG (Ah s)).2])/\Ext w w':=by
 obtain⟨a,o⟩:∃ b:Bool,decide ((Ah s).head?=some 45)=b:=⟨_,rfl⟩;have K:=K7 s;rw[o]at K;have a1:(if(Ah s).head?=some 45 then(Ah s).tail else Ah s)=if a=true then(Ah s).tail else Ah s:=by rw[<-o];by_cases h:(Ah s).head?=some 45 <;> simp[h]
 rw[a1]at K;obtain⟨P,W⟩:∃ P,CG (Ah s)=P:=⟨_,rfl⟩;rw[W];unfold CG at W;simp only[o]at W;have a2:(if a=true then(Ah s).tail else Ah s).length<=1000000:=by
  have:=AD s;split
  · simp;omega
  · omega
 clear a1 o;generalize (if a=true then(Ah s).tail else Ah s)=M at *
 have Z:=fun(wx:World)=>qh (Gc ⟨M.toArray⟩ wx (by show M.toArray.size<=_;simpa using a2));simp only[AO]at Z;have a5:(suf M).length<=1000000:=by have:=fM List.length (FY M);rw[fo]at this;omega
 generalize pre M=v at *
 generalize suf M=r2 at *
 have m:=qh W;clear W a2
 go_enter func101,ntmps101
 go_upto_region 2 with(fail)
 refine PK ?_;intro w0 R O Q a6;have hR:Arr w0 w.heap.size 167 (BK false [] []):=O;have hF:Arr w0 (w.heap.size+1) 167 (BK false [] []):=Q;clear O Q a6
 go_wp2_with fail
 refine(K w0).mono ?_;rintro e w1 ⟨rfl,rfl⟩
 go_upto_region 4 with(refine Ch rfl rfl [.bool a] (BK a [] []) (by kernel_rfl) rfl rfl rfl hF (by simp[BK]) (by simp[Value.oneCell']) rfl ?_;intro w2 T H)
 have S:=R.grownR H (by omega);have X:=hR.kept H (by simp);clear R hR hF H
 go_wp2_with fail
 refine(Z w2).out.mono ?_;rintro e w3 ⟨rfl,z⟩;have U:=T.ext z
 go_upto_region 5 with(refine Ch rfl rfl [.string ⟨v.toArray⟩] (BK a v []) (by kernel_rfl) rfl rfl rfl U (by simp[BK]) (by simp[Value.oneCell']) rfl ?_;intro w4 q I)
 have k:=(S.trans z).grownR I (by omega);have l:=(X.ext z).kept I (by simp);clear S z U T X I;have c0:=q.c 0 rfl;have c1:=q.c 1 rfl;have c2:=q.c 2 rfl;by_cases h48:v=[48]
 · subst h48;cases a with
   | true =>
    have j:Hid (((true,[48],[]),false)=P):=by rw[<-m.out,fG rfl];exact qh (by simp)
    go_wp2_with(refine Aa (vs:=BK true [48] []) rfl rfl rfl rfl rfl A5 l rfl (Cb _ _ _) ?_;intro w9 f g)
    refine fh (Az rfl A5 rfl rfl f) rfl ⟨?_,k.grownR g (by omega)⟩;rw[<-j.out];rfl
   | false =>
    have j:Hid (((false,[48],[]),r2.isEmpty)=P):=by rw[<-m.out,fG rfl];exact qh (by cases r2 <;> rfl)
    go_wp2_with(refine Aa (vs:=BK false [48] []) rfl rfl rfl rfl rfl A5 l rfl (Cb _ _ _) ?_;intro w9 f g)
    refine fh (Az rfl A5 rfl rfl f) rfl ⟨?_,k.grownR g (by omega)⟩;rw[<-j.out];rfl
 · have a7:(v == [48])=false:=by simpa using h48
   rw[fl h48]at m;by_cases h0:v=[]
   · subst h0;have j:Hid (((a,[],[]),false)=P):=by rw[<-m.out,fG (Or.inl rfl)];exact qh rfl
     go_wp2_with(refine Aa (vs:=BK a [] []) rfl rfl rfl rfl rfl A5 l rfl (Cb _ _ _) ?_;intro w9 f g)
     refine fh (Az rfl A5 rfl rfl f) rfl ⟨?_,k.grownR g (by omega)⟩;rw[<-j.out];rfl
   · obtain⟨c,p,rfl⟩:=iY h0;by_cases hc:c=48
     · subst hc;have j:Hid (((a,48 :: p,[]),false)=P):=by rw[<-m.out,fG (Or.inr (by simp))];exact qh rfl
       go_wp2_with(refine Aa (vs:=BK a (48 :: p) []) rfl rfl rfl rfl rfl A5 l rfl (Cb _ _ _) ?_;intro w9 f g)
       refine fh (Az rfl A5 rfl rfl f) rfl ⟨?_,k.grownR g (by omega)⟩;rw[<-j.out];rfl
     · rw[fl (by simp[hc])]at m;have a4:=JB (t:=p) (n:=48) hc;by_cases hr:r2=[]
       · subst hr;have j:Hid (((a,c :: p,[]),true)=P):=by rw[<-m.out,fG rfl];exact qh rfl
         go_wp2_with(refine Aa (vs:=BK a (c :: p) []) rfl rfl rfl rfl rfl A5 l rfl (Cb _ _ _) ?_;intro w9 f g)
         refine fh (Az rfl A5 rfl rfl f) rfl ⟨?_,k.grownR g (by omega)⟩;rw[<-j.out];rfl
       · obtain⟨d,E,rfl⟩:=iY hr;rw[fl (by simp)]at m;by_cases hd:d=47
         · subst hd;rw[fl (by simp)]at m;have L:Ah (({ data:=(47 :: E).toArray }:ByteArray).extract 1 (E.length+1))=E:=by
            rw[B3,AO,iB,gP,jq,kX]
           have r:=Gc (({ data:=(47 :: E).toArray }:ByteArray).extract 1 (E.length+1)) w4 (by rw[<-AD,L];simp at a5;omega);rw[L]at r;have N:=qh r;clear r L;obtain⟨y,D⟩:∃ d,pre E=d:=⟨_,rfl⟩;obtain⟨r3,a3⟩:∃ d,suf E=d:=⟨_,rfl⟩;simp only[lV,D,a3]at m N;clear D a3
           go_wp2_with fail
           refine N.out.mono ?_;rintro e w5 ⟨rfl,A⟩;have V:=q.ext A;have Y:=l.ext A
           go_upto_region 14 with(refine Ch rfl rfl [.string ⟨y.toArray⟩] (BK a (c :: p) y) (by kernel_rfl) rfl rfl rfl V (by simp[BK]) (by simp[Value.oneCell']) rfl ?_;intro w6 F J)
           have B:=(k.trans A).grownR J (by omega);have i:=Y.kept J (by simp);clear k A V q l Y J c0 c1 c2 a4;have c0:=F.c 0 rfl;have c1:=F.c 1 rfl;have c2:=F.c 2 rfl;have d0:=i.c 0 rfl;have d1:=i.c 1 rfl;have d2:=i.c 2 rfl;have f0:=i.frozen 0;have f1:=i.frozen 1;have f2:=i.frozen 2;by_cases h3:r3=[]
           · subst h3;by_cases hd0:y=[]
             · subst hd0;have j:Hid (((a,c :: p,[]),false)=P):=by rw[<-m.out];exact qh (by simp)
               go_region
               go_wp2;refine fh (Az rfl A5 rfl rfl (((i.set 0 _).set 1 _).set 2 _)) rfl ⟨?_,(((B.setCell (lrf _) _).setCell (lrf _) _).setCell (lrf _) _).drew⟩;rw[<-j.out];rfl
             · obtain⟨d,C,rfl⟩:=iY hd0;by_cases G:d=48
               · subst G;have a0:((((({ data:=(48 :: C).toArray }:ByteArray)[0]'(by show 0<(48 :: C).toArray.size;simp)).toNat:Nat):Int) != 48)=false:=rfl;have j:Hid (((a,c :: p,48 :: C),false)=P):=by rw[<-m.out];exact qh (by simp)
                 go_region
                 go_wp2;refine fh (Az rfl A5 rfl rfl (((i.set 0 _).set 1 _).set 2 _)) rfl ⟨?_,(((B.setCell (lrf _) _).setCell (lrf _) _).setCell (lrf _) _).drew⟩;rw[<-j.out];rfl
               · have a0:((((({ data:=(d :: C).toArray }:ByteArray)[0]'(by show 0<(d :: C).toArray.size;simp)).toNat:Nat):Int) != 48)=true:=fM (!·) (JB (t:=C) (n:=48) G);have j:Hid (((a,c :: p,d :: C),(!d == 49 || !C.isEmpty))=P):=by rw[<-m.out];exact qh (by rw[jk];refine⟨rfl,?_⟩;rw[d49];simp[G])
                 go_region
                 go_wp2;refine fh (Az rfl A5 rfl rfl (((i.set 0 _).set 1 _).set 2 _)) rfl ⟨?_,(((B.setCell (lrf _) _).setCell (lrf _) _).setCell (lrf _) _).drew⟩;rw[<-j.out];rfl
           · obtain⟨x,xt,rfl⟩:=iY h3;have j:Hid (((a,c :: p,y),false)=P):=by rw[<-m.out];exact qh (by simp)
             go_region
             go_wp2;refine fh (Az rfl A5 rfl rfl (((i.set 0 _).set 1 _).set 2 _)) rfl ⟨?_,(((B.setCell (lrf _) _).setCell (lrf _) _).setCell (lrf _) _).drew⟩;rw[<-j.out];rfl
         · have a0:=JB (t:=E) (n:=47) hd;have j:Hid (((a,c :: p,[]),false)=P):=by rw[<-m.out,fG (by simp[hd])];exact qh rfl
           go_wp2_with(refine Aa (vs:=BK a (c :: p) []) rfl rfl rfl rfl rfl A5 l rfl (Cb _ _ _) ?_;intro w9 f g)
           refine fh (Az rfl A5 rfl rfl f) rfl ⟨?_,k.grownR g (by omega)⟩;rw[<-j.out];rfl
def XS(w:World)(o:Option Rat)(e:Ending)(w':World):Prop:=∃ cs,e = .returned (.tuple #[.agg cs.toArray,.bool o.isSome])/\Ext w w'/\GH w' cs (o.getD 0)
theorem JC(a:W.digs l)(b:l.length<=570):W.decV l<P2 2280:=by
 have h1:=W.decV_lt a;have h2:10^l.length<=16^l.length:=iJ (by omega) _;have h3:16^l.length=P2 (4*l.length):=by unfold P2;rw[ju]
 have h4:P2 (4*l.length)<=P2 2280:=OI (by omega);omega
theorem Ec(w:World):GH w (As false none 0 0 false none 0 0) 0:=⟨false,none,0,0,none,0,0,rfl,qh rfl,Wd.nil w,Wd.nil w⟩
theorem J1(hT:Bk w)(hs:s.size<=570):Calls prog 67 #[.string s] w (XS w (Bn (Ah s))):=by
 have an:=Ij s;have b7:(As false none 0 0 false none 0 0).toArray=#[.bool false,.slice none 0 0,.bool false,.slice none 0 0]:=rfl;obtain⟨⟨⟨ab,j,a⟩,ok⟩,hP⟩:∃ P,CG (Ah s)=P:=⟨_,rfl⟩;simp only[hP]at an;have b2:(BK ab j a).toArray=#[.bool ab,.string ⟨j.toArray⟩,.string ⟨a.toArray⟩]:=rfl;rw[b2]at an;cases ok with
 | false =>
  have HQ:Hid (Bn (Ah s)=none):=qh (by unfold Bn;simp[hP]);rw[HQ.out];clear hP
  go_enter func67,ntmps67
  go_upto_region 1 with(fail)
  refine Bv ?_;intro w0 au ae aQ;have hR:Arr w0 w.heap.size 125 (As false none 0 0 false none 0 0):=ae;clear ae aQ
  go_wp2_with fail
  refine(an w0 (by omega)).mono ?_;rintro e w1 ⟨rfl,V⟩;have hY:=Arr.new w1 167 (BK false [] [])
  go_upto_region 2 with(refine Aa (vs:=BK ab j a) rfl rfl rfl rfl rfl A5 hY rfl (Cb _ _ _) ?_;intro w2 b6 az)
  have a4:Ext w1 w2:=((Ext.refl w1).alloc _).grownR az (lrf _);have aw:=(hR.ext V).ext a4;have av:=(au.trans V).trans a4
  go_wp2_with(refine Aa (vs:=As false none 0 0 false none 0 0) rfl rfl rfl rfl rfl Ac aw rfl (Aq _ _ _ _ _ _ _ _) ?_;intro w9 af Z)
  exact fh (Az rfl Ac rfl rfl af) rfl ⟨_,rfl,av.grownR Z (lrf _),Ec _⟩
 | true =>
  have hS:=FZ hP;have hl:j.length<=570/\a.length<=570:=by
   have h1:=fM List.length hS.eq;rw[AD]at h1;simp only[fo]at h1;refine⟨by omega,?_⟩;by_cases h:a=[]
   · simp[h]
   · rw[fl h]at h1;simp at h1;omega
  have aX:=fun wx=>qh (FX (s:=⟨j.toArray⟩) (w:=wx) (by rw[AO];exact hS.dn) (by show j.toArray.size<=_;simpa using hl.1));have aO:=fun wx=>qh (FX (s:=⟨a.toArray⟩) (w:=wx) (by rw[AO];exact hS.dd) (by show a.toArray.size<=_;simpa using hl.2));rw[AO]at aX aO;have aS:=qh (JC hS.dn hl.1);have aT:=qh (JC hS.dd hl.2);obtain⟨z,hz⟩:∃ z:Int,(if ab=true then -((W.decV j:Nat):Int)else((W.decV j:Nat):Int))=z:=⟨_,rfl⟩;have aZ:z.natAbs=W.decV j:=by rw[<-hz];split <;> omega
  obtain⟨o,HO⟩:∃ o,Hid (Bn (Ah s)=o/\o=if a=[]then some (mkRat z 1)else if z.natAbs.gcd (W.decV a)=1 then some (mkRat z (W.decV a))else none):=⟨_,qh ⟨rfl,by unfold Bn;simp[hP,hz]⟩⟩;rw[HO.out.1]
  have aU:Hid (a≠[]->W.decV a≠0/\W.decV a≠1):=qh fun hd=>by
   have ay:Lib.decDigits (W.decV a)=a:=W.dec_of_digs hS.dd hd (fun c r e hc=>by
    have:=hS.nd;rw[e,hc]at this
    simp at this)
   refine⟨fun h0 => ?_,fun h0 => ?_⟩
   · rw[h0,W.dec_zero]at ay;have:=hS.nd;rw[<-ay]at this;simp at this
   · rw[h0]at ay;have:=hS.n1;rw[<-ay]at this;exact this (by rw[Lib.decDigits];rfl)
  clear hP hS hl
  go_enter func67,ntmps67
  go_upto_region 1 with(fail)
  refine Bv ?_;intro w0 au ae aQ;have hR:Arr w0 w.heap.size 125 (As false none 0 0 false none 0 0):=ae;clear ae aQ
  go_wp2_with fail
  refine(an w0 (by omega)).mono ?_;rintro e w1 ⟨rfl,V⟩;have hY:=Arr.new w1 167 (BK false [] [])
  go_upto_region 2 with(refine Aa (vs:=BK ab j a) rfl rfl rfl rfl rfl A5 hY rfl (Cb _ _ _) ?_;intro w2 a7 az)
  have a4:Ext w1 w2:=((Ext.refl w1).alloc _).grownR az (lrf _);have aw:=(hR.ext V).ext a4;have av:=(au.trans V).trans a4;have hF:w.heap.size<w1.heap.size:=(hR.ext V).lt;clear hR au V a4 hY az an;generalize w1.heap.size=F at *
  have c0:=a7.c 0 rfl;have c1:=a7.c 1 rfl;have c2:=a7.c 2 rfl
  go_wp2_with fail
  refine(aX w2).out.mono ?_;rintro e w3 ⟨Q,H,J,I,rfl,aI,a2,aY⟩;have b3:(Ae Q H J I).toArray=#[.bool Q,.slice H J I]:=rfl;have hY:=Arr.new w3 125 (As false none 0 0 false none 0 0)
  go_upto_region 5 with(refine Aa (vs:=As Q H J I false none 0 0) rfl rfl rfl rfl rfl Ac hY rfl (Aq _ _ _ _ _ _ _ _) ?_;intro w4 a9 aW)
  have aJ:Ext w3 w4:=((Ext.refl w3).alloc _).grownR aW (lrf _);have aq:=aI.trans aJ;have ax:=aw.ext aq;have ar:=av.trans aq;have aA:=aY.ext aJ;have ai:=a7.ext aq;have hX:F<w3.heap.size:=(a7.ext aI).lt;clear aw av aI aJ aY hY aW b3 c0 c1 c2 a7 aq;generalize w3.heap.size=X at *
  have c0:=ai.c 0 rfl;have aH:=qh aZ;clear aZ;cases ab with
  | true =>
   have aa:z = -((W.decV j:Nat):Int):=by rw[<-hz];rfl
   have x0:=a9.c 0 rfl;have x1:=a9.c 1 rfl;have aN:=M6 (w:=w4) (v := .agg (Ae Q H J I).toArray) ⟨Q,H,J,I,rfl,a2,aA⟩;rw[<-aa]at aN;have aV:=qh aN;have b0:=qh aa;clear aN hz aa
   go_wp2_with fail
   refine aV.out.mono ?_;rintro e b8 ⟨U,R,T,S,rfl,L,aF,aR⟩;have b4:(Ae U R T S).toArray=#[.bool U,.slice R T S]:=rfl;have aB:=a9.ext L
   go_upto_region 7 with(refine Ch rfl rfl (Ae U R T S) (As U R T S false none 0 0) (by kernel_rfl) rfl rfl rfl aB (by simp[As,Ae]) (Ao _ _ _ _) rfl ?_;intro w5 g am)
   have Y:=(ar.trans L).grownR am (by omega);have C:=(ax.ext L).kept am (by simp;omega);have aj:=(ai.ext L).kept am (by simp;omega);have a0:=aR.kept aB (AM _ _ _ _ _ _ _ _) am;clear x0 x1 c0 aV b0 ar L aR aB am ax ai a9 aA b4 a2;have c2:=aj.c 2 rfl;have x0:=g.c 0 rfl;have x1:=g.c 1 rfl;by_cases hd:a=[]
   · subst hd;have HQ:Hid (o=some (mkRat z 1)):=qh (by rw[HO.out.2,fG rfl]);have K:=qh (Pl.rat_eq_mk (q:=mkRat z 1) (n:=z) (d:=1) (by omega) (jC _) rfl);have x2:=g.c 2 rfl;have x3:=g.c 3 rfl;have aM:(As U R T S false none 0 0).toArray=#[.bool U,.slice R T S,.bool false,.slice none 0 0]:=rfl
     go_wp2_with(refine Aa (vs:=As U R T S false none 0 0) rfl rfl rfl rfl rfl Ac C rfl (Aq _ _ _ _ _ _ _ _) ?_;intro w9 af Z)
     refine fh (Az rfl Ac rfl rfl af) rfl ?_;rw[HQ.out];refine⟨_,rfl,Y.grownR Z (lrf _),U,R,T,S,none,0,0,rfl,?_,?_,?_⟩
     · show Hid (decide ((mkRat z 1).num<0)=U);rw[K.out.1];exact aF
     · show Wd w9 R T S (mkRat z 1).num.natAbs;rw[K.out.1];exact a0.kept C (AM _ _ _ _ _ _ _ _) Z
     · show Wd w9 none 0 0 (Bo (mkRat z 1)).natAbs;rw[AJ.2 K.out.2];exact Wd.nil _
   · have b1:a.isEmpty=false:=by cases a with | nil=>exact absurd rfl hd | cons _ _=>rfl
     go_wp2_with fail
     refine(aO w5).out.mono ?_;rintro e w6 ⟨s6,x,A,y,rfl,B,ad,ao⟩;have aP:s6=false:=by rw[<-ad.out];exact fK (by omega)
     subst aP;have aL:(Ae false x A y).toArray=#[.bool false,.slice x A y]:=rfl;have E:=g.ext B;have ak:=C.ext B;have M:=Y.trans B;have O:=a0.ext B;clear g C Y a0 x0 x1 c2 aj
     go_upto_region 10 with(refine Ch rfl rfl (Ae false x A y) (As U R T S false x A y) (by kernel_rfl) rfl rfl rfl E (by simp[As,Ae]) (Ao _ _ _ _) rfl ?_;intro w7 i m)
     have l:=M.grownR m (by omega);have al:=ak.kept m (by simp;omega);have p:=O.kept E (AM _ _ _ _ _ _ _ _) m;have t:=ao.kept E (AM _ _ _ _ _ _ _ _) m;clear E ak M O ao m aL;have x0:=i.c 0 rfl;have x1:=i.c 1 rfl;have x2:=i.c 2 rfl;have x3:=i.c 3 rfl;have hg:=qh (FV (hT.ext l) ⟨U,R,T,S,rfl,aF,p⟩ ⟨false,x,A,y,rfl,ad,t⟩ (by rw[aH.out];exact Ak aS.out (by omega)) (Ak aT.out (by omega)));rw[gF]at hg
     go_wp2_with fail
     refine hg.out.mono ?_;rintro e w8 ⟨s8,a8,n8,c8,rfl,ag,aG,ap⟩;have aK:=qh (Dd (w:=w8) ⟨s8,a8,n8,c8,rfl,aG,ap⟩ rfl);have b5:(Ae s8 a8 n8 c8).toArray=#[.bool s8,.slice a8 n8 c8]:=rfl
     go_wp2_with fail
     refine aK.out.mono ?_;rintro e w9 ⟨rfl,ah⟩;have b:=ag.trans ah;have G:=i.ext b;have D:=al.ext b;have N:=l.trans b;have aD:=p.ext b;have aE:=t.ext b;clear i al l p t x0 x1 x2 x3 b ag ah ap;have ac:=qh (aU.out hd);by_cases h1:z.natAbs.gcd (W.decV a)=1
     · have HQ:Hid (o=some (mkRat z (W.decV a))):=qh (by rw[HO.out.2,fl hd,fG h1]);have K:=qh (Pl.rat_eq_mk (q:=mkRat z (W.decV a)) (n:=z) (d:=W.decV a) ac.out.1 h1 rfl);rw[h1];have x0:=G.c 0 rfl;have x1:=G.c 1 rfl;have x2:=G.c 2 rfl;have x3:=G.c 3 rfl;have aM:(As U R T S false x A y).toArray=#[.bool U,.slice R T S,.bool false,.slice x A y]:=rfl
       go_wp2_with(refine Aa (vs:=As U R T S false x A y) rfl rfl rfl rfl rfl Ac D rfl (Aq _ _ _ _ _ _ _ _) ?_;intro a1 k f)
       refine fh (Az rfl Ac rfl rfl k) rfl ?_;rw[HQ.out];refine⟨_,rfl,N.grownR f (lrf _),U,R,T,S,x,A,y,rfl,?_,?_,?_⟩
       · show Hid (decide ((mkRat z (W.decV a)).num<0)=U);rw[K.out.1];exact aF
       · show Wd a1 R T S (mkRat z (W.decV a)).num.natAbs;rw[K.out.1];exact aD.kept D (AM _ _ _ _ _ _ _ _) f
       · show Wd a1 x A y (Bo (mkRat z (W.decV a))).natAbs;rw[EW (by rw[K.out.2];exact ac.out.2),K.out.2];exact aE.kept D (AM _ _ _ _ _ _ _ _) f
     · have HQ:Hid (o=none):=qh (by rw[HO.out.2,fl hd,fl h1]);have aC:decide (((z.natAbs.gcd (W.decV a):Nat):Int)=1)=false:=fK (by omega);rw[aC];clear h1
       go_wp2_with(refine Aa (vs:=As false none 0 0 false none 0 0) rfl rfl rfl rfl rfl Ac D rfl (Aq _ _ _ _ _ _ _ _) ?_;intro a1 k f)
       refine fh (Az rfl Ac rfl rfl k) rfl ?_;rw[HQ.out];exact⟨_,rfl,N.grownR f (lrf _),Ec _⟩
  | false =>
   have aa:z=((W.decV j:Nat):Int):=by rw[<-hz];rfl
   rw[<-aa]at a2;have a0:Wd w4 H J I z.natAbs:=by rw[aH.out];exact aA
   have Y:=ar;have C:=ax;have aj:=ai;have g:=a9;clear ar ax ai a9 aA hz aa
   go_upto_region 7 with(fail)
   clear c0;have c2:=aj.c 2 rfl;have x0:=g.c 0 rfl;have x1:=g.c 1 rfl;by_cases hd:a=[]
   · subst hd;have HQ:Hid (o=some (mkRat z 1)):=qh (by rw[HO.out.2,fG rfl]);have K:=qh (Pl.rat_eq_mk (q:=mkRat z 1) (n:=z) (d:=1) (by omega) (jC _) rfl);have x2:=g.c 2 rfl;have x3:=g.c 3 rfl;have aM:(As Q H J I false none 0 0).toArray=#[.bool Q,.slice H J I,.bool false,.slice none 0 0]:=rfl
     go_wp2_with(refine Aa (vs:=As Q H J I false none 0 0) rfl rfl rfl rfl rfl Ac C rfl (Aq _ _ _ _ _ _ _ _) ?_;intro w9 af Z)
     refine fh (Az rfl Ac rfl rfl af) rfl ?_;rw[HQ.out];refine⟨_,rfl,Y.grownR Z (lrf _),Q,H,J,I,none,0,0,rfl,?_,?_,?_⟩
     · show Hid (decide ((mkRat z 1).num<0)=Q);rw[K.out.1];exact a2
     · show Wd w9 H J I (mkRat z 1).num.natAbs;rw[K.out.1];exact a0.kept C (AM _ _ _ _ _ _ _ _) Z
     · show Wd w9 none 0 0 (Bo (mkRat z 1)).natAbs;rw[AJ.2 K.out.2];exact Wd.nil _
   · have b1:a.isEmpty=false:=by cases a with | nil=>exact absurd rfl hd | cons _ _=>rfl
     go_wp2_with fail
     refine(aO w4).out.mono ?_;rintro e w6 ⟨s6,x,A,y,rfl,B,ad,ao⟩;have aP:s6=false:=by rw[<-ad.out];exact fK (by omega)
     subst aP;have aL:(Ae false x A y).toArray=#[.bool false,.slice x A y]:=rfl;have E:=g.ext B;have ak:=C.ext B;have M:=Y.trans B;have O:=a0.ext B;clear g C Y a0 x0 x1 c2 aj
     go_upto_region 10 with(refine Ch rfl rfl (Ae false x A y) (As Q H J I false x A y) (by kernel_rfl) rfl rfl rfl E (by simp[As,Ae]) (Ao _ _ _ _) rfl ?_;intro w7 i m)
     have l:=M.grownR m (by omega);have al:=ak.kept m (by simp;omega);have p:=O.kept E (AM _ _ _ _ _ _ _ _) m;have t:=ao.kept E (AM _ _ _ _ _ _ _ _) m;clear E ak M O ao m aL;have x0:=i.c 0 rfl;have x1:=i.c 1 rfl;have x2:=i.c 2 rfl;have x3:=i.c 3 rfl;have hg:=qh (FV (hT.ext l) ⟨Q,H,J,I,rfl,a2,p⟩ ⟨false,x,A,y,rfl,ad,t⟩ (by rw[aH.out];exact Ak aS.out (by omega)) (Ak aT.out (by omega)));rw[gF]at hg
     go_wp2_with fail
     refine hg.out.mono ?_;rintro e w8 ⟨s8,a8,n8,c8,rfl,ag,aG,ap⟩;have aK:=qh (Dd (w:=w8) ⟨s8,a8,n8,c8,rfl,aG,ap⟩ rfl);have b5:(Ae s8 a8 n8 c8).toArray=#[.bool s8,.slice a8 n8 c8]:=rfl
     go_wp2_with fail
     refine aK.out.mono ?_;rintro e w9 ⟨rfl,ah⟩;have b:=ag.trans ah;have G:=i.ext b;have D:=al.ext b;have N:=l.trans b;have aD:=p.ext b;have aE:=t.ext b;clear i al l p t x0 x1 x2 x3 b ag ah ap;have ac:=qh (aU.out hd);by_cases h1:z.natAbs.gcd (W.decV a)=1
     · have HQ:Hid (o=some (mkRat z (W.decV a))):=qh (by rw[HO.out.2,fl hd,fG h1]);have K:=qh (Pl.rat_eq_mk (q:=mkRat z (W.decV a)) (n:=z) (d:=W.decV a) ac.out.1 h1 rfl);rw[h1];have x0:=G.c 0 rfl;have x1:=G.c 1 rfl;have x2:=G.c 2 rfl;have x3:=G.c 3 rfl;have aM:(As Q H J I false x A y).toArray=#[.bool Q,.slice H J I,.bool false,.slice x A y]:=rfl
       go_wp2_with(refine Aa (vs:=As Q H J I false x A y) rfl rfl rfl rfl rfl Ac D rfl (Aq _ _ _ _ _ _ _ _) ?_;intro a1 k f)
       refine fh (Az rfl Ac rfl rfl k) rfl ?_;rw[HQ.out];refine⟨_,rfl,N.grownR f (lrf _),Q,H,J,I,x,A,y,rfl,?_,?_,?_⟩
       · show Hid (decide ((mkRat z (W.decV a)).num<0)=Q);rw[K.out.1];exact a2
       · show Wd a1 H J I (mkRat z (W.decV a)).num.natAbs;rw[K.out.1];exact aD.kept D (AM _ _ _ _ _ _ _ _) f
       · show Wd a1 x A y (Bo (mkRat z (W.decV a))).natAbs;rw[EW (by rw[K.out.2];exact ac.out.2),K.out.2];exact aE.kept D (AM _ _ _ _ _ _ _ _) f
     · have HQ:Hid (o=none):=qh (by rw[HO.out.2,fl hd,fl h1]);have aC:decide (((z.natAbs.gcd (W.decV a):Nat):Int)=1)=false:=fK (by omega);rw[aC];clear h1
       go_wp2_with(refine Aa (vs:=As false none 0 0 false none 0 0) rfl rfl rfl rfl rfl Ac D rfl (Aq _ _ _ _ _ _ _ _) ?_;intro a1 k f)
       refine fh (Az rfl Ac rfl rfl k) rfl ?_;rw[HQ.out];exact⟨_,rfl,N.grownR f (lrf _),Ec _⟩
def Du:Int->List Int->Int
 | s,[]=>s
 | s,x :: t=>if x<0\/24-s<x then -1 else Du (s+x) t
def Jk(xs:List Int):Int:=if 6<xs.length then -1 else Du 0 xs
theorem UO{s:Int}(b:k<xs.length)(h:Du 0 xs=Du s (xs.drop k))(a:xs.getD k 0<0\/24-s<xs.getD k 0):Du 0 xs = -1:=by
 rw[h,gg b];simp only[gqq,eZ b,fW]at a;simp only[Du];rw[fG a]
theorem SM{s:Int}(b:k<xs.length)(h:Du 0 xs=Du s (xs.drop k))(a:¬ (xs.getD k 0<0\/24-s<xs.getD k 0)):Du 0 xs=Du (s+xs.getD k 0) (xs.drop (k+1)):=by
 rw[h,gg b];simp only[gqq,eZ b,fW]at a |-;simp only[Du];rw[fl a]
theorem Np(l:SlI w a n c xs) :
 Calls prog 87 #[.slice a n c] w fun e D=>e = .returned (.int .i64 (Jk xs))/\w=D:=by
 have g:=f8 l.len;have x:=l.le;by_cases h6:6<(n:Int)
 · have d:Hid (Jk xs = -1):=by
    show Jk xs = -1;unfold Jk;rw[fG (by rw[g.out];omega)]
   go_enter func87,ntmps87
   go_wp2;go_ret;exact⟨DV d.out,rfl⟩
 · have d:Hid (Jk xs=Du 0 xs):=by
    show Jk xs=_;unfold Jk;rw[fl (by rw[g.out];omega)]
   go_enter func87,ntmps87
   go_wp2
   go_loop[3,11] (fun v i=>∃ (s:Int) (k:Nat),v = .int .i64 s/\i = .int .i64 k/\k<=n/\0<=s/\s<=24/\Hid (Du 0 xs=Du s (xs.drop k))) (fun _ i=>n-(intOf i).toNat)
   case atStart=>exact⟨0,0,rfl,rfl,fu _,by omega,by omega,f8 rfl⟩
   case round =>
    obtain⟨s,k,rfl,rfl,G,z,A,j⟩:=hrel;by_cases b:k<n
    · obtain⟨E,I,rfl,p⟩:=l.at b;have F:=p k b;have f:k<xs.length:=by rw[g.out];exact b
      have o:=f8 (UO f j.out);have r:=f8 (SM f j.out);generalize xs.getD k 0=y at *
      clear p;by_cases C:y<0
      · go_wp2;go_ret;exact⟨DV (by rw[d.out,o.out (Or.inl C)]),rfl⟩
      · have H:IntKind.i64.wrap (24-s)=24-s:=fO _ (by omega);by_cases m:24-s<y
        · go_wp2;go_ret;exact⟨DV (by rw[d.out,o.out (Or.inr m)]),rfl⟩
        · have B:IntKind.i64.wrap (s+y)=s+y:=fO _ (by omega);go_wp2;go_round
          case rel=>exact⟨s+y,k+1,by go_num,by go_num,by omega,by omega,by omega,f8 (r.out (by omega))⟩
          case measure=>simp[intOf];omega
    · have t:xs.drop k=[]:=gu (by have:=g.out;omega);have q:Hid (Jk xs=s):=by
       show Jk xs=s;rw[d.out,j.out,t];rfl
      go_wp2;go_ret;exact⟨DV q.out,rfl⟩
def Ci(xs:List Int):Bool:=decide (0<=Jk xs)
theorem Ex(b:SlI w a n c xs) :
 Calls prog 57 #[.slice a n c] w fun e d=>e = .returned (.bool (Ci xs))/\w=d:=by
 go_enter func57,ntmps57
 go_wp2_with fail
 refine(Np b).mono ?_;rintro e f ⟨rfl,rfl⟩;go_wp2;go_ret;exact⟨rfl,rfl⟩
theorem Qb{x y:Int}:Calls prog 70 #[.int .i64 x,.int .i64 y] w fun e b=>e = .returned (.int .i64 (Pl.cmpI x y))/\b=w:=by
 rcases Int.lt_trichotomy x y with h|h|h
 · have a:Hid (Pl.cmpI x y = -1):=f8 (by unfold Pl.cmpI;rw[fG h])
   go_enter func70,ntmps70
   go_wp2;go_ret;exact⟨by rw[a.out];rfl,rfl⟩
 · subst h;have a:Hid (Pl.cmpI x x=0):=f8 (Pl.cmpI_zero.2 rfl)
   go_enter func70,ntmps70
   go_wp2;go_ret;exact⟨by rw[a.out];rfl,rfl⟩
 · have a:Hid (Pl.cmpI x y=1):=f8 (by unfold Pl.cmpI;rw[fl (by omega),fG h])
   go_enter func70,ntmps70
   go_wp2;go_ret;exact⟨by rw[a.out];rfl,rfl⟩
theorem J2(a:k<xs.length):(xs.take (k+1)).sum=(xs.take k).sum+xs.getD k 0:=by
 have e:xs.getD k 0=xs[k]:=by simp[a]
 rw[ff a,e,List.sum_append];simp only[jN,List.sum_nil,Int.add_zero]
theorem Ml{xs:List Int}{B:Int}(h:∀ x∈xs,-B<=x/\x<=B)(a:0<=B):∀ k,k<=xs.length -> -(B*k)<=(xs.take k).sum/\(xs.take k).sum<=B*k
 | 0,_=>by simp
 | k+1,hk=>by
  have ih:=Ml h a k (by omega);have h1:=h (xs.getD k 0) (by simp[show k<xs.length by omega]);rw[J2 (by omega)];have e:B*((k+1:Nat):Int)=B*k+B:=by rw[gH,Int.mul_add];simp
  rw[e];omega
def Jl(xs ys:List Int)(k:Nat):Int:=Pl.ordR (xs.take k).reverse (ys.take k).reverse
theorem Q7(xs ys:List Int):Jl xs ys 0=0:=by simp[Jl,Pl.ordR]
theorem Q8(a:k<xs.length)(b:k<ys.length):Jl xs ys (k+1)=if xs.getD k 0=ys.getD k 0 then Jl xs ys k else Pl.cmpI (ys.getD k 0) (xs.getD k 0):=by
 have c:xs.getD k 0=xs[k]:=by simp[a]
 have d:ys.getD k 0=ys[k]:=by simp[b]
 unfold Jl;rw[ff a,ff b,c,d,List.reverse_concat,List.reverse_concat];rfl
theorem J3(K:SlI w a n c xs)(L:SlI w b n d ys)(hn:n<=12)(Q:∀ x∈xs,-1099511627776<=x/\x<=1099511627776)(v:∀ x∈ys,-1099511627776<=x/\x<=1099511627776) :
 Calls prog 86 #[.slice a n c,.slice b n d] w fun e w'=>e = .returned (.int .i64 (Pl.ordE xs ys))/\Qt w w':=by
 have T:=f8 (Ml Q (by omega));have U:=f8 (Ml v (by omega));have Y:=K.len;have Z:=L.len
 go_enter func86,ntmps86
 go_wp2
 go_loop[5,6,12] (fun V W s=>∃ (k:Nat) (p q:Int),V = .int .i64 p/\W = .int .i64 q/\s = .int .i64 k/\k<=n/\Hid ((xs.take k).sum=p/\(ys.take k).sum=q)) (fun _ _ s=>n-(intOf s).toNat)
 case atStart=>exact⟨0,0,0,rfl,rfl,rfl,fu _,f8 ⟨rfl,rfl⟩⟩
 case round =>
  obtain⟨k,p,q,rfl,rfl,rfl,hk,o⟩:=hrel;have O:=T.out k (by omega);have P:=U.out k (by omega);rw[o.out.1]at O;rw[o.out.2]at P;by_cases i:k<n
  · obtain⟨N,C,rfl,z⟩:=K.at i;obtain⟨t,l,rfl,f⟩:=L.at i;have R:=z k i;have S:=f k i;have m1:=Q (xs.getD k 0) (by simp[show k<xs.length by omega]);have m2:=v (ys.getD k 0) (by simp[show k<ys.length by omega]);have G:Hid ((xs.take (k+1)).sum=p+xs.getD k 0/\(ys.take (k+1)).sum=q+ys.getD k 0):=f8 ⟨by rw[J2 (by omega),o.out.1],by rw[J2 (by omega),o.out.2]⟩;clear z f;generalize xs.getD k 0=x at *
    generalize ys.getD k 0=y at *
    have w1:IntKind.i64.wrap (p+x)=p+x:=fO _ (by omega);have w2:IntKind.i64.wrap (q+y)=q+y:=fO _ (by omega);go_wp2;go_round
    case rel=>exact⟨k+1,p+x,q+y,by first | rfl | go_num,by first | rfl | go_num,by go_num,by omega,G⟩
    case measure=>simp[intOf];omega
  · have I:k=n:=by omega
    subst I
    have D:Hid (Pl.ordE xs ys=if p=q then Jl xs ys k else Pl.cmpI p q):=f8 (by
     have h1:=o.out.1;have h2:=o.out.2;unfold Pl.ordE Jl;rw[f9 (by omega)]at h1 h2 |-;rw[f9 (by omega)]
     rw[h1,h2])
    by_cases A:p=q
    · subst A;have g:Hid (Pl.ordE xs ys=Jl xs ys k):=f8 (by rw[D.out,fG rfl]);clear O P o D;go_wp2
      go_loopw[9] (fun s wr=>∃ m:Nat,s = .int .i64 ((m:Int)-1)/\m<=k/\Qt w wr/\Hid (Jl xs ys k=Jl xs ys m)) (fun s _=>(intOf s+1).toNat)
      case atStart=>exact⟨k,by first | rfl | go_num,lrf _,Qt.refl _,f8 rfl⟩
      case round =>
       obtain⟨m,rfl,hm,B,E⟩:=hrel;by_cases h0:m=0
       · subst h0;have H:Hid (Pl.ordE xs ys=0):=f8 (by rw[g.out,E.out,Q7]);go_wp2;go_ret;exact⟨by rw[H.out];rfl,B⟩
       · obtain⟨j,rfl⟩:∃ j,m=j+1:=⟨m-1,by omega⟩;have X:(((j+1:Nat):Int)-1)=(j:Int):=by omega
         rw[X];obtain⟨N,C,rfl,z⟩:=(K.ext B.ext).at (k:=j) (by omega);obtain⟨t,l,rfl,f⟩:=(L.ext B.ext).at (k:=j) (by omega);have R:=z j (by omega);have S:=f j (by omega);have M:=f8 (Q8 (xs:=xs) (ys:=ys) (k:=j) (by omega) (by omega));clear z f;generalize xs.getD j 0=x at *
         generalize ys.getD j 0=y at *
         by_cases r:x=y
         · have F:Hid (Jl xs ys k=Jl xs ys j):=f8 (by rw[E.out,M.out,fG r]);subst r;go_wp2
           go_quiet (fail)
           go_wp2;go_roundw
           case rel=>exact⟨j,by first | rfl | go_num,by omega,B.drewN _,F⟩
           case measure=>simp[intOf]
         · have H:Hid (Pl.ordE xs ys=Pl.cmpI y x):=f8 (by rw[g.out,E.out,M.out,fl r]);go_wp2
           go_quiet (fail)
           have d1:(wr.drewN nq).cell? ⟨N,C+j,none⟩=some (.int .i64 x):=R;have d2:(wr.drewN nq).cell? ⟨t,l+j,none⟩=some (.int .i64 y):=S;have J:=B.drewN nq;generalize wr.drewN nq=w2 at *
           go_wp2
           go_quiet (exact Calls.quiet_of_same Qb)
           go_wp2;go_ret;exact⟨by rw[H.out];rfl,J.drewN _⟩
    · have g:Hid (Pl.ordE xs ys=Pl.cmpI p q):=f8 (by rw[D.out,fl A])
      go_wp2_with fail
      refine Qb.mono ?_;rintro e w1 ⟨rfl,rfl⟩;go_wp2;go_ret;exact⟨by rw[g.out];rfl,Qt.refl _⟩
def A3(vars:Int)(t:List UInt8×List Int):Option Pl.Tm :=
 match Bn t.1 with
 | none=>none
 | some q=>if q≠0/\(t.2.length:Int)=vars/\∀ e∈t.2,0<=e/\e<=1048576 then some (Ab t.2,q)else none
def XT(w:World)(o:Option Pl.Tm)(e:Ending)(w':World):Prop:=∃ row,e = .returned (.tuple #[.agg row.toArray,.bool o.isSome])/\Ext w w'/\Cn w' row (o.getD ([0,0,0,0,0,0],0))
theorem Ed(w:World):Cn w (Ar [0,0,0,0,0,0] false none 0 0 none 0 0) ([0,0,0,0,0,0],0):=⟨false,none,0,0,none,0,0,rfl,rfl,Ec w⟩
theorem BV{e:List Int}{s:Bool}{m:Nat}:∀ v∈Ar e s a n c b m d,∀ i,v ≠ .int .u64 i:=by
 intro v f i;rcases fL.1 f with f|f
 · obtain⟨x,_,rfl⟩:=fy.1 f;simp
 · exact AM _ _ _ _ _ _ _ _ v f i
theorem Dl(e:List Int)(s:Bool)(a b:Option Addr)(n c m d:Nat):(Ar e s a n c b m d).length=e.length+4:=by simp[Ar,As,Ae]
theorem GW:A9 prog 3 (.int .i64 0) 8:=by unfold A9;kernel_rfl
def ze:List Int:=[0,0,0,0,0,0]
theorem K8(hT:Bk w)(hs:s.size<=570)(hx:SlI w a n c xs)(hv:vars<=6) :
 Calls prog 85 #[.int .i64 vars,.agg #[.string s,.slice a n c]] w (XT w (A3 vars (Ah s,xs))):=by
 have aj:=fun(wx:World) (hE:Ext w wx)=>qh (J1 (hT.ext hE) hs);have aT:(Ar ze false none 0 0 none 0 0).toArray=#[.int .i64 0,.int .i64 0,.int .i64 0,.int .i64 0,.int .i64 0,.int .i64 0,.bool false,.slice none 0 0,.bool false,.slice none 0 0]:=rfl;have I:=hx.len;obtain⟨o,ho⟩:∃ o,Bn (Ah s)=o:=⟨_,rfl⟩;obtain⟨r,hr⟩:∃ r,A3 vars (Ah s,xs)=r:=⟨_,rfl⟩;rw[hr];rw[ho]at aj;unfold A3 at hr;simp only[ho]at hr;clear ho;have J:=qh hr;clear hr
 go_enter func85,ntmps85
 go_upto_region 1 with(fail)
 refine PK ?_;intro w0 Z W ab aM;have hR:Arr w0 (w.heap.size+1) 135 (Ar ze false none 0 0 none 0 0):=ab;have t0:=W.c 0 rfl;have t1:=W.c 1 rfl;clear W ab aM
 go_wp2_with fail
 refine(aj w0 Z).out.mono ?_;rintro e w1 ⟨_,rfl,a0,s1,f,t,d,g,p,j,rfl,U,ak,ap⟩;have a8:(As s1 f t d false g p j).toArray=#[.bool s1,.slice f t d,.bool false,.slice g p j]:=rfl;have hY:=Arr.new w1 125 (As false none 0 0 false none 0 0)
 go_upto_region 2 with(refine Aa (vs:=As s1 f t d false g p j) rfl rfl rfl rfl rfl Ac hY rfl (Aq _ _ _ _ _ _ _ _) ?_;intro w2 C ag)
 have L:Ext w1 w2:=((Ext.refl w1).alloc _).grownR ag (lrf _);have y:=a0.trans L;have a3:=hR.ext y;have u0:=y.cell t0;have u1:=y.cell t1;have a2:=Z.trans y;have hX:w.heap.size+1<w1.heap.size:=(hR.ext a0).lt;have P:=ak.ext L;have Q:=ap.ext L;clear hR t0 t1 Z a0 L y ak ap hY ag a8;generalize w1.heap.size=X at *
 cases o with
 | none =>
  simp only at J
  go_wp2_with(refine Aa (vs:=Ar ze false none 0 0 none 0 0) rfl rfl rfl rfl rfl AX a3 rfl BO ?_;intro w9 l m)
  refine fh (Az rfl AX rfl rfl l) rfl ?_;rw[<-J.out];exact⟨_,rfl,a2.grownR m (by omega),Ed _⟩
 | some q =>
  simp only[fW]at J U P Q;have x0:=C.c 0 rfl;have x1:=C.c 1 rfl;have x2:=C.c 2 rfl;have x3:=C.c 3 rfl;have ah:=qh (GJ (w:=w2) (v := .agg #[.bool s1,.slice f t d,.bool false,.slice g p j]) (q:=q) ⟨As s1 f t d false g p j,rfl,s1,f,t,d,g,p,j,rfl,U,P,Q⟩ rfl)
  go_wp2_with fail
  refine ah.out.mono ?_;rintro e w3 ⟨rfl,z⟩;have B:=a3.ext z;have a5:=C.ext z;have aO:=z.cell u0;have av:=z.cell u1;have b:=a2.trans z;have al:=P.ext z;have aq:=Q.ext z;clear a3 C u0 u1 a2 P Q x0 x1 x2 x3 z ah;by_cases F:q=0
  · rw[gn F];have R:Hid (none=r):=qh (by rw[<-J.out,fl (fun h=>h.1 F)]);clear F J
    go_wp2_with(refine Aa (vs:=Ar ze false none 0 0 none 0 0) rfl rfl rfl rfl rfl AX B rfl BO ?_;intro w9 l m)
    refine fh (Az rfl AX rfl rfl l) rfl ?_;rw[<-R.out];exact⟨_,rfl,b.grownR m (by omega),Ed _⟩
  · rw[fK F];have aB:=qh F;clear F;by_cases a9:(n:Int)=vars
    · have aa:=hx.ext b;go_wp2
      go_loop[34] (fun iv=>∃ k:Nat,iv = .int .i64 k/\k<=n/\Hid (∀ i,i<k->0<=xs.getD i 0/\xs.getD i 0<=1048576)) (fun iv=>n-(intOf iv).toNat)
      case atStart=>exact⟨0,rfl,fu _,qh (fun i hi=>absurd hi (by omega))⟩
      case round =>
       obtain⟨k,rfl,hk,HK⟩:=hrel;by_cases ai:k<n
       · obtain⟨b',aU,rfl,hc⟩:=aa.at ai;have d:=hc k ai;have HM:Hid (xs.getD k 0∈xs):=qh (by simp[show k<xs.length by omega]);clear hc;generalize ao:xs.getD k 0=x at *
         have aC:=qh ao;clear ao;by_cases N:0<=x/\x<=1048576
         · obtain⟨h1,h2⟩:=N;go_wp2;go_round
           case rel =>
            refine⟨k+1,by go_num,by omega,qh fun i hi => ?_⟩;by_cases aF:i=k
            · subst aF;rw[aC.out];exact⟨h1,h2⟩
            · exact HK.out i (by omega)
           case measure=>simp[intOf];omega
         · have R:Hid (none=r):=qh (by rw[<-J.out,fl (fun h=>N (h.2.2 x HM.out))]);by_cases aQ:x<0
           · clear N
             go_wp2_with(refine Aa (vs:=Ar ze false none 0 0 none 0 0) rfl rfl rfl rfl rfl AX B rfl BO ?_;intro w9 l m)
             refine fh (Az rfl AX rfl rfl l) rfl ?_;rw[<-R.out];exact⟨_,rfl,b.grownR m (by omega),Ed _⟩
           · have aP:1048576<x:=by omega
             clear N
             go_wp2_with(refine Aa (vs:=Ar ze false none 0 0 none 0 0) rfl rfl rfl rfl rfl AX B rfl BO ?_;intro w9 l m)
             refine fh (Az rfl AX rfl rfl l) rfl ?_;rw[<-R.out];exact⟨_,rfl,b.grownR m (by omega),Ed _⟩
       · have aH:k=n:=by omega
         subst aH
         have R:Hid (some (Ab xs,q)=r):=qh (by
          have aw:∀ e∈xs,0<=e/\e<=1048576:=fun e he => ?_
          · rw[<-J.out,fG ⟨aB.out,by rw[I];exact a9,aw⟩]
          obtain⟨i,hi,rfl⟩:=io.1 he;have:=HK.out i (by omega);rw[gqq,eZ hi]at this
          exact this)
         clear J HK
         go_upto_region 11 with(fail)
         refine Bv ?_;intro w4 A D aN;have D:Arr w4 w3.heap.size 135 (Ar ze false none 0 0 none 0 0):=D;have ac:=B.ext A;have H:=a5.ext A;have u1:=A.cell av;have S:=b.trans A;have am:=al.ext A;have ar:=aq.ext A;have ax:=aa.ext A;have aS:X<w3.heap.size:=a5.lt;clear aN B a5 av aO b al aq aa A;generalize w3.heap.size=Y at *
         have x0:=H.c 0 rfl;have x1:=H.c 1 rfl;have x2:=H.c 2 rfl;have x3:=H.c 3 rfl;have a8:(As s1 f t d false g p j).toArray=#[.bool s1,.slice f t d,.bool false,.slice g p j]:=rfl
         go_upto_region 12 with(refine Ch rfl rfl (As s1 f t d false g p j) (Ar ze s1 f t d g p j) (by kernel_rfl) rfl rfl rfl D (by simp[Ar,As,Ae,ze]) (Aq _ _ _ _ _ _ _ _) rfl ?_;intro K ae E)
         have G:=S.grownR E (by omega);have ad:=ac.kept E (by simp;omega);have an:=am.kept D BV E;have au:=ar.kept D BV E;have hu:K.cell? ⟨w.heap.size,1,none⟩=some (.slice a k c):=by
          rw[il (w:=w4) (E.block _ (gT w4 _ u1) (by simp;omega)),u1]
         have ay:=hx.ext G;clear am ar ac S E u1 x0 x1 x2 x3 H D a8 ax
         go_still_tail 4,(by kernel_rfl)
         change wpList _ _ _ _ _ K.drew;have aE:Arr K.drew (w.heap.size+1) 135 (Ar ze false none 0 0 none 0 0):=ad;have a6:Arr K.drew Y 135 (Ar ze s1 f t d g p j):=ae;have T:Ext w K.drew:=G.drew;have aI:Wd K.drew f t d q.num.natAbs:=an.ext (Ext.refl K).drew;have aK:Wd K.drew g p j (Bo q).natAbs:=au.ext (Ext.refl K).drew;clear ad ae G an au hu ay;generalize K.drew=w6 at *
         have az:=hx.ext T;have aG:k<=6:=by omega
         have HZ:Hid ((Ar ze s1 f t d g p j).take 0 ++ xs.map (Value.int .i64) ++ (Ar ze s1 f t d g p j).drop (0+k)=Ar (Ab xs) s1 f t d g p j):=by
          show _=_;have hz:ze=List.replicate 6 0:=rfl;rw[jc,iM,fZ];unfold Ar Ab;rw[hz,jP,fY,jP,lM,List.drop_replicate,I,List.length_replicate,show k-6=0 by omega,gP,ge]
         have O:(Ab xs).length=6:=AA (by omega);have V:Agg prog 135 (Ar (Ab xs) s1 f t d g p j).length:=by rw[Dl,O];exact AX
         have HL:Hid ((Ar ze false none 0 0 none 0 0).length=(Ar (Ab xs) s1 f t d g p j).length):=qh (by rw[Dl,Dl,O];rfl);have aA:=qh O;have aR:=qh I;clear O I a9
         go_wp2_with(first
          | (refine LS (sT:=35) rfl rfl underlying35 GW rfl rfl a6 az aG (by rw[Dl];simp[ze];omega) (A4 _) ?_;intro w7 af M;rw[HZ.out]at af;have a4:=aE.kept M (by simp;omega))
          | (refine Bm rfl rfl V rfl af ?_)
          | (refine Aa rfl rfl rfl rfl rfl V a4 HL.out BO ?_;intro w8 aD a7))
         have aJ:=aI.kept a6 BV M;have aL:=aK.kept a6 BV M;refine fh (Az rfl V rfl rfl aD) rfl ?_;rw[<-R.out];exact⟨_,rfl,(T.grownR M (by omega)).grownR a7 (by omega),s1,f,t,d,g,p,j,rfl,aA.out,s1,f,t,d,g,p,j,rfl,U,aJ.kept a4 BV a7,aL.kept a4 BV a7⟩
    · have R:Hid (none=r):=qh (by rw[<-J.out,fl (fun h=>a9 (by rw[<-h.2.1,I]))]);clear J
      go_wp2_with(refine Aa (vs:=Ar ze false none 0 0 none 0 0) rfl rfl rfl rfl rfl AX B rfl BO ?_;intro w9 l m)
      refine fh (Az rfl AX rfl rfl l) rfl ?_;rw[<-R.out];exact⟨_,rfl,b.grownR m (by omega),Ed _⟩
def NoU(w:World)(g:Nat):Prop:=∀ j i,w.cell? ⟨g,j,none⟩≠some (.int .u64 i)
def nuR(rows:List (List Value)):Prop:=∀ r∈rows,∀ v∈r,∀ i,v ≠ .int .u64 i
theorem Arr.noU(h:Arr w g t cs)(a:∀ v∈cs,∀ i,v ≠ .int .u64 i):NoU w g:=by
 intro j i e;have h4:w.cell? ⟨g,j,none⟩=cs[j]?:=by
  unfold Arr at h;simp[World.cell?,h]
 rw[h4]at e;exact a _ (gS e) _ rfl
theorem NoU.ext(h:NoU w g)(a:g<w.heap.size)(e:Ext w w'):NoU w' g:=by
 intro j i;rw[il (w:=w) (e.block (k:=g) a)];exact h j i
theorem NoU.kept(h:NoU w g)(a:g<w.heap.size)(c:w.grownBy w' row)(b:some g≠row):NoU w' g:=by
 intro j i;rw[il (w:=w) (c.block g a b)];exact h j i
theorem Wd.keptU{x:Nat}(h:Wd w a n c x)(d:NoU w g)(f:w.grownBy w' (some g)):Wd w' a n c x:=by
 obtain⟨i,h1,h2⟩:=h;refine⟨i,?_,h2⟩;rcases fF n with h0|h0
 · subst h0;exact⟨Sl.len h1,Sl.cap h1,Sl.max h1,fun h=>absurd h (lJ _)⟩
 · refine h1.kept f (Or.inr fun he => ?_);obtain⟨b,o,rfl,e⟩:=h1.at (j:=0) h0;simp only[blk,ic,fc]at he;subst he;exact d _ _ (e 0 h0)
def E8(w:World)(base:Nat)(e:TypeId)(k g n c:Nat)(rows:List (List Value)):Prop:=AE w base e k (some ⟨g,0,none⟩) n c rows/\NoU w g
section
variable {w w':World} {base:Nat} {e:TypeId} {k g n c:Nat} {rows:List (List Value)}
theorem E8.lt(h:E8 w base e k g n c rows):base<=g/\g<w.heap.size:=h.1.lt rfl
theorem E8.ext(h:E8 w base e k g n c rows)(x:Ext w w'):E8 w' base e k g n c rows:=⟨h.1.ext x,h.2.ext h.lt.2 x⟩
theorem E8.kept{row:Option Nat}(h:E8 w base e k g n c rows)(b:w.grownBy w' row)(a:some g≠row):E8 w' base e k g n c rows:=⟨h.1.kept b (Or.inr a),h.2.kept h.lt.2 b a⟩
theorem E8.nu(o:0<k)(h:E8 w base e k g n c rows):nuR rows:=by
 have f:=h.1.slk o;intro r l v s i;obtain⟨p,hp,rfl⟩:=io.1 l;obtain⟨q,j,rfl⟩:=io.1 s;have a:p<n:=by rw[<-f.len];exact hp
 have d:q<k:=by rw[<-f.wid _ l];exact j
 obtain⟨b,t,e,m⟩:=f.rd (by omega);simp only[fc,gz,ij]at e;obtain⟨rfl,rfl⟩:=e;have h1:=m p a q d;have h2:(rows.getD p []).getD q undef=(rows[p])[q]:=by simp[hp,j]
 rw[h2]at h1;intro he;rw[he]at h1;exact h.2 _ _ h1
end
section
variable {P:Program} {w:World}
theorem SO{bytes:Nat}{m:Nat} 
 (U:P.underlying t=some (.slice e)) (a:Cq P e zs k bytes) (f:E8 w base e k g n c rows) (s:SlK w k (some ad) m cx news)
 (h1:∀ r∈news,∀ u∈r,u.oneCell'=true) (N:nuR news) (v:n+m<=c) (x:(n+m)*bytes<=140737488355328) (C:base<=w.heap.size) :
 ∃ K,(Builtin.append_ #[t,t] ty #[.slice (some ⟨g,0,none⟩) n c,.slice (some ad) m cx]).run P w = .ok (.slice (some ⟨g,0,none⟩) (n+m) c) K/\E8 K base e k g (n+m) c (rows ++ news)/\w.grownBy K (some g):=by
 have T:=(f.1.slk a.2.2).max;obtain⟨a',c',K,B,h2,h3,h4⟩:=K1 (P:=P) (ty:=ty) U a f.1 s h1 (by omega) x C;obtain⟨i,Y,hz,d,W⟩:=a.parts;have R:=a.2.2;have z:=Cm news s.wid;rw[s.len]at z;have y:∀ j u,news.flatten[j]?=some u->w.cell? (ad.add j)=some u:=by
  intro j u hu;have A:j<news.flatten.length:=by
   rcases fS j news.flatten.length with h|h
   · exact h
   · simp[fH h]at hu
  rw[z]at A;have M:0<m:=by rcases fF m with h | h;(rw[h,iE]at A;omega);exact h
  obtain⟨b,o,h,X⟩:=s.rd M;injection h with h;subst h;have G:j/k<m:=(ie R).2 A;have I:j%k<k:=gx _ R;have H:j=j/k*k+j%k:=by rw[fJ];exact(gM j k).symm
  have h2:=X (j/k) G (j%k) I;have h3:=Es news s.wid (j/k) (j%k) I;rw[<-H,hu]at h3;have S:j/k<news.length:=by rw[s.len];exact G
  rw[eZ S,jt]at h3;have h4:(news.getD (j/k) []).getD (j%k) undef=u:=by
   rw[gqq (l:=news),eZ S,fW,gqq,<-h3];rfl
  rw[h4,iU,<-H]at h2;rw[<-h2];unfold Addr.add;by_cases h0:j=0 <;> simp[h0]
 rcases f.1.2.2 with⟨J,_⟩|⟨g',V,E,J,hb,Q,Z,hm,hs,a0⟩
 · simp at J
 simp only[fd,fc,gz,ij,kf]at J;obtain⟨rfl,rfl⟩:=J;have L:∀ j,j<news.flatten.length->n*k+j<E.size:=by
  intro j A;rw[z]at A;have:(n+m)*k<=c*k:=fa k v;rw[ip]at this;omega
 have F:∀ j,j<news.flatten.length->(w.cell? ⟨g,n*k+j,none⟩).isSome=true:=by
  intro j A;rw[lW w g _ E e (0,0) Q,jl (L j A)];rfl
 have D:=run_append_room_cells (P:=P) (w:=w) t ty e i U Y g 0 n c ad m cx news.flatten (by rw[z,d]) y (by intro u hu;obtain⟨r,O,hu⟩:=kc.1 hu;exact h1 r O u hu) v (by rw[d,fZ];exact F) (by intro j A;simp[World.frozen?,Q]);rw[B,d,fZ]at D;simp only[Result.ok.injEq,fd,kf]at D;obtain⟨⟨rfl,rfl⟩,rfl⟩:=D;refine⟨_,B,⟨h2,?_⟩,h3⟩;intro j q he;by_cases A:n*k<=j/\j<n*k+news.flatten.length
 · obtain⟨p,rfl⟩:∃ p,j=n*k+p:=⟨j-n*k,by omega⟩;have hp:p<news.flatten.length:=by omega
   rw[World.cell?_setCells_in g news.flatten (n*k) w F p hp]at he;simp only[fc]at he;obtain⟨r,O,hu⟩:=kc.1 (fE hp);exact N r O _ hu q he
 · rw[World.cell?_setCells_out g news.flatten (n*k) w ⟨g,j,none⟩ (fun _ _=>by simp only;omega)]at he;exact f.2 j q he
theorem Mm{s:Operand}(q:o.guard=none)
 (C:o.op = .call { callee := .builtin .append,args:=#[s,x],argTypes:=#[t,t] })
 {e:TypeId} {zs:List Value} {k bytes base:Nat} {g n c:Nat} {rows:List (List Value)} {z:Addr} {m A:Nat} {news:List (List Value)}
 (E:P.underlying t=some (.slice e)) (d:Cq P e zs k bytes) (D:f.eval s = .slice (some ⟨g,0,none⟩) n c) (j:E8 w base e k g n c rows) (F:f.eval x = .slice (some z) m A) (y:SlK w k (some z) m A news)
 (h1:∀ r∈news,∀ u∈r,u.oneCell'=true) (v:nuR news) (i:n+m<=c) (a:(n+m)*bytes<=140737488355328) (b:base<=w.heap.size)
 (h:∀ p,E8 p base e k g (n+m) c (rows ++ news)->w.grownBy p (some g)->wpList P ops Q rest (f.put o.dst (.slice (some ⟨g,0,none⟩) (n+m) c)) p) :
 wpList P ops Q (o :: rest) f w:=by
 refine gI q fun _ B => ?_;obtain⟨p,l,h2,h3⟩:=SO (P:=P) (ty:=o.type) E d j y h1 v i a b;unfold Oper.wp execOp;simp only[C,resolve,invoke,builtin,fC,fQ,fe,iP,gD,iF,D,F,l];exact B _ _ (h p h2 h3)
theorem AE.noU(h:AE w base e k (some ⟨g,0,none⟩) n n rows)(l:nuR rows):NoU w g:=by
 rcases h.2.2 with⟨b,_⟩|⟨q,d,a,b,s,f,m,v,p,c⟩
 · simp at b
 simp only[fd,fc,gz,ij,kf]at b;obtain⟨rfl,rfl⟩:=b;intro j i he;rw[lW w g _ a e (0,0) f]at he;have t:j<a.size:=(gA.1 he).1;have h2:a.toList=rows.flatten:=by rw[<-c,f9 (by simp[p])]
 have h3:rows.flatten[j]?=some (.int .u64 i):=by rw[<-h2];simpa using he
 obtain⟨r,o,hu⟩:=kc.1 (gS h3);exact l r o _ hu i rfl
theorem Qc{l c:Operand}(H:o.guard=none)(x:o.op=Op.makeSlice t l c)
 {e:TypeId} {zs:List Value} {k bytes n:Nat} (A:P.underlying t=some (.slice e)) (a:Cq P e zs k bytes) (y:∀ v∈zs,∀ i,v ≠ .int .u64 i) (I:f.eval l = .int .i64 0) (G:f.eval c = .int .i64 n)
 (F:bytes*n<=281474976710656) (h63:n<=maxLen)
 (D:∀ j,E8 j w.heap.size e k w.heap.size 0 n []->Ext w j->wpList P ops Q rest (f.put o.dst (.slice (some ⟨w.heap.size,0,none⟩) 0 n)) j) :
 wpList P ops Q (o :: rest) f w:=by
 refine gI H fun K q => ?_;obtain⟨i,z,B,b,p⟩:=a.parts;obtain⟨j,g,h2,h3⟩:=run_make_own (P:=P) w w.heap.size t e i (.agg zs.toArray) k A z B b .i64 .i64 n (by rw[p];exact F) h63 (lrf _);have m:(n:Int)<=9223372036854775807:=by
  have h:=h63;simp[maxLen]at h;omega
 have s:(i.bytes:Int)*(n:Int)<=281474976710656:=by
  rw[p];have h:((bytes*n:Nat):Int)<=281474976710656:=by omega
  rwa[fU]at h
 have d:=run_make (P:=P) w t e i (.agg zs.toArray) A z B .i64 .i64 0 n (Int.le_refl _) (by omega) s m;simp only[Int.toNat_zero,ix]at d;rw[g]at d;simp only[Result.ok.injEq,kf]at d;have h4:(Value.agg zs.toArray).cells=zs.toArray:=rfl;have C:Arr j w.heap.size e (List.replicate n zs).flatten:=by
  have h5:=Me (n:=n) a.2.1 a.2.2;rw[d,b,h4];unfold Arr;rw[<-h5];exact kD w _
 have E:NoU j w.heap.size:=C.noU (fun v J i=>by
  obtain⟨r,d,hu⟩:=kc.1 J;rw[(gR.1 d).2]at hu
  exact y v hu i)
 unfold Oper.wp execOp;simp only[x,fC,fQ,fe,I,G,g,Oper.upon];exact q _ _ (D j ⟨⟨(fun r d=>by cases d),h2⟩,E⟩ ((Ext.refl w).grown h3 (by simp)))
end
abbrev Tx:=List UInt8×List Int
def tm0:Tx:=([],[])
def SP(w:World)(row:List Value)(t:Tx):Prop:=∃ s a n c,row=[.string s,.slice a n c]/\Ah s=t.1/\SlI w a n c t.2
theorem SP.ext{w b:World}{row:List Value}{t:Tx}(h:SP w row t)(e:Ext w b):SP b row t:=by
 obtain⟨s,a,n,c,h1,h2,h3⟩:=h;exact⟨s,a,n,c,h1,h2,h3.ext e⟩
def CP(w:World)(a:Option Addr)(n c:Nat)(ts:List Tx):Prop:=∃ rows,SlK w 2 a n c rows/\ts.length=n/\∀ i,i<n->SP w (rows.getD i []) (ts.getD i tm0)
theorem CP.ext{w d:World}{a:Option Addr}{n c:Nat}{ts:List Tx}(h:CP w a n c ts)(e:Ext w d):CP d a n c ts:=by
 obtain⟨b,h1,h2,h3⟩:=h;exact⟨b,h1.ext e,h2,fun i f=>(h3 i f).ext e⟩
theorem CP.len{ts:List Tx}(h:CP w a n c ts):ts.length=n:=by
 obtain⟨b,h1,h2,h3⟩:=h;exact h2
theorem CQ:Agg prog 46 2:=⟨by kernel_rfl,by kernel_rfl⟩
theorem Ax:Agg prog 24 2:=⟨by kernel_rfl,by kernel_rfl⟩
def tmL(s:ByteArray)(a:Option Addr)(n c:Nat):List Value:=[.string s,.slice a n c]
theorem FG(s:ByteArray)(a:Option Addr)(n c:Nat):∀ v∈tmL s a n c,v.oneCell'=true:=by
 intro v b;simp only[tmL,fV,ib,kx]at b;rcases b with rfl|rfl <;> rfl
theorem IW{t:Tx}(h:(A3 vars t).isSome=true):(t.2.length:Int)=vars/\∀ e∈t.2,0<=e/\e<=1048576:=by
 unfold A3 at h;split at h
 · simp at h
 · split at h
   · rename_i h1;exact⟨h1.2.1,h1.2.2⟩
   · simp at h
def z6:Pl.Tm:=([0,0,0,0,0,0],0)
def okT(vars:Int)(ts:List Tx)(k:Nat):Prop:=(∀ i,i<k->(A3 vars (ts.getD i tm0)).isSome=true)/\∀ i,i+1<k->0<Pl.ordE (ts.getD i tm0).2 (ts.getD (i+1) tm0).2
open Classical in
noncomputable def rdWF (vars:Int) (ts:List Tx):Option (List Pl.Tm):=if 0<=vars/\vars<=6/\okT vars ts ts.length then some (ts.map (fun t=>(A3 vars t).getD z6))else none
def Xf(w:World)(o:Option (List Pl.Tm))(e:Ending)(w':World):Prop:=∃ a n c,e = .returned (.tuple #[.slice a n c,.bool o.isSome])/\Ext w w'/\CV w' a n c (o.getD [])
theorem CV.nil(w:World):CV w none 0 0 []:=⟨[],SlK.nil w 10,rfl,fun i a=>absurd a (by omega)⟩
theorem Cn.keptU{w i:World}{row:List Value}{t:Pl.Tm}{g:Nat}(h:Cn w row t)(e:NoU w g)(f:w.grownBy i (some g)):Cn i row t:=by
 obtain⟨s,a,n,c,b,m,d,h1,h2,r,j,q,l,k,p,o,h3,h4,h5,h6⟩:=h;exact⟨s,a,n,c,b,m,d,h1,h2,r,j,q,l,k,p,o,h3,h4,h5.keptU e f,h6.keptU e f⟩
theorem Ey{row:List Value}(h:Arr w g t row)(b:row.length=k):SlK w k (some ⟨g,0,none⟩) 1 1 [row]:=by
 refine⟨rfl,lrf _,by unfold maxLen;omega,by simpa using b,fun _=>⟨g,0,rfl,fun i c j d => ?_⟩⟩;have a:i=0:=by omega
 subst a;rw[iE,fZ];rw[h.cell (by omega)];rfl
theorem Nq{ts:List Tx}(hT:Bk w)(h:CP w a n c ts)(hs:∀ t∈ts,t.1.length<=570)(hn:n<=4096) :
 Calls prog 56 #[.agg #[.int .i64 vars,.slice a n c]] w (Xf w (rdWF vars ts)):=by
 have HS:=qh hs;clear hs;have R:=h.len;obtain⟨b5,hS,_,hq⟩:=h;have HQ:=qh hq;clear hq;obtain⟨r,hr⟩:∃ r,rdWF vars ts=r:=⟨_,rfl⟩;rw[hr];have HR:=qh hr;clear hr;by_cases hv:0<=vars/\vars<=6
 · obtain⟨aX,aK⟩:=hv
   go_enter func56,ntmps56
   go_upto_region 1 with(fail)
   refine Bv ?_;intro w0 G T ay;have u0:=T.c 0 rfl;have u1:=T.c 1 rfl;clear T ay
   go_upto_region 4 with(refine Qc rfl rfl (by kernel_rfl) Df BV rfl rfl (by omega) (by unfold maxLen;omega) ?_;intro w1 aP aE)
   have v1:=aE.cell u1;go_wp2
   go_loopw[4,24] (fun tv iv wr=>∃ (k:Nat) (rs:List (List Value)),tv = .slice (some ⟨w0.heap.size,0,none⟩) k n/\iv = .int .i64 k/\k<=n/\Ext w0 wr/\E8 wr w0.heap.size 135 10 w0.heap.size k n rs/\Hid (okT vars ts k)/\Hid (∀ i,i<k->Cn wr (rs.getD i []) ((A3 vars (ts.getD i tm0)).getD z6))) (fun _ iv _=>n-(intOf iv).toNat)
   case atStart=>exact⟨0,[],rfl,rfl,fu _,aE,aP,qh ⟨fun i E=>absurd E (by omega),fun i E=>absurd E (by omega)⟩,qh (fun i E=>absurd E (by omega))⟩
   case round =>
    obtain⟨k,rs,rfl,rfl,hk,hE,hO,HK,HC⟩:=hrel;by_cases aq:k<n
    · have aO:=G.trans hE;have U:=hS.ext aO;obtain⟨b,aZ,rfl,a8⟩:=U.rd (by omega);obtain⟨s,ax,nx,cx,K,aw,aY⟩:=HQ.out k aq;have hY:=Arr.new wr 46 (tmL ⟨#[]⟩ none 0 0)
      go_upto_region 7 with(first
       | (refine Dz rfl rfl CQ rfl U aq ?_;rw[K])
       | (refine Aa (vs:=tmL s ax nx cx) rfl rfl rfl rfl rfl CQ hY rfl (FG _ _ _ _) ?_;intro w2 a4 aI))
      have a5:Ext wr w2:=((Ext.refl wr).alloc _).grownR aI (lrf _);have J:=hE.trans a5;have aF:=hO.ext a5;have aB:Hid (∀ i,i<k->Cn w2 (rs.getD i []) ((A3 vars (ts.getD i tm0)).getD z6)):=qh fun i E=>(HC.out i E).ext a5;have v0:=J.cell u0;have v1:=J.cell u1;have hX:w0.heap.size<wr.heap.size:=hO.lt.2;have ab:=aY.ext (G.trans J);have aQ:=qh aw;have aW:s.size<=570:=by
       rw[<-AD,aw];exact HS.out _ (by simp[R,aq])
      clear hY aI hO HC hE a5 K aw a8 U;generalize wr.heap.size=X at *
      have y0:=a4.c 0 rfl;have y1:=a4.c 1 rfl;have av:=K8 (vars:=vars) (hT.ext (G.trans J)) aW ab aK;have aN:Hid (A3 vars (Ah s,(ts.getD k tm0).2)=A3 vars (ts.getD k tm0)):=qh (by rw[aQ.out]);rw[aN.out]at av;have aD:=qh av;clear av
      go_wp2_with fail
      refine aD.out.mono ?_;rintro e w3 ⟨ba,rfl,ah,q,d,p,g,f,m,l,K,h6,ar⟩;obtain⟨o,HO⟩:∃ o,Hid (A3 vars (ts.getD k tm0)=o):=⟨_,qh rfl⟩;rw[HO.out]at h6 K ar |-;obtain⟨y,z,A,B,C,D,ag⟩:=FE h6;rw[ag]at K;have aC:Hid (Cn w3 (Ar [y,z,A,B,C,D] q d p g f m l) (o.getD ([0,0,0,0,0,0],0))):=qh ⟨q,d,p,g,f,m,l,by rw[ag],h6,ar⟩;subst K;clear ag h6 ar
      have Q:(Ar [y,z,A,B,C,D] q d p g f m l).toArray=#[.int .i64 y,.int .i64 z,.int .i64 A,.int .i64 B,.int .i64 C,.int .i64 D,.bool q,.slice d p g,.bool false,.slice f m l]:=rfl;have hY:=Arr.new w3 135 (Ar ze false none 0 0 none 0 0)
      go_upto_region 8 with(refine Aa (vs:=Ar [y,z,A,B,C,D] q d p g f m l) rfl rfl rfl rfl rfl AX hY rfl BO ?_;intro L a7 aJ)
      have ai:Ext w3 L:=((Ext.refl w3).alloc _).grownR aJ (lrf _);have H:=ah.trans ai;have F:=J.trans H;have a6:=aF.ext H;have ac:Hid (∀ i,i<k->Cn L (rs.getD i []) ((A3 vars (ts.getD i tm0)).getD z6)):=qh fun i E=>(aB.out i E).ext H;have M:Hid (Cn L (Ar [y,z,A,B,C,D] q d p g f m l) (o.getD ([0,0,0,0,0,0],0))):=qh (aC.out.ext ai);have q1:=H.cell v1;have z1:=H.cell y1;have b7:X<w3.heap.size:=(a4.ext ah).lt;have aL:=qh H;clear hY aJ aF aB ah ai aC Q v0 v1 y0 y1 J a4 H aD;generalize w3.heap.size=Y at *
      cases o with
      | none =>
       have HF:Hid (r=none):=qh (by
        rw[<-HR.out];unfold rdWF;rw[fl];rintro⟨_,_,h1,_⟩;have:=h1 k (by omega);rw[HO.out]at this
        simp at this)
       go_quiet (fail)
       go_wp2
       go_ret2
       rw[HF.out];exact⟨none,0,0,rfl,(G.trans F).drewN _,CV.nil _⟩
      | some tm =>
       simp only[fW]at M;have am:=IW (vars:=vars) (t:=ts.getD k tm0) (by rw[HO.out];rfl);have aT:=ab.len;by_cases aR:k=0
       · subst aR;have af:Hid (okT vars ts (0+1)):=qh ⟨fun i E=>by rw[show i=0 by omega,HO.out];rfl,fun i E=>absurd E (by omega)⟩
         go_quiet (fail)
         have al:Arr (L.drewN nq) Y 135 (Ar [y,z,A,B,C,D] q d p g f m l):=a7;have N:=F.drewN nq;have a1:=a6.ext ((Ext.refl L).drewN nq);have ad:Hid (∀ i,i<0->Cn (L.drewN nq) (rs.getD i []) ((A3 vars (ts.getD i tm0)).getD z6)):=qh fun i E=>absurd E (by omega);have Z:Hid (Cn (L.drewN nq) (Ar [y,z,A,B,C,D] q d p g f m l) tm):=qh (M.out.ext ((Ext.refl L).drewN nq));clear a7 F a6 ac M q1 z1;generalize L.drewN nq=O at *
         have ak:Arr O Y 135 (Ar [y,z,A,B,C,D] q d p g f m l):=al;have I:Ext O (O.alloc (.cells (Ar [y,z,A,B,C,D] q d p g f m l).toArray 135)):=(Ext.refl O).alloc _;have hA5:=a1.ext I;have a0:=Ey (k:=10) (Arr.new O 135 (Ar [y,z,A,B,C,D] q d p g f m l)) rfl;have Q:(Ar [y,z,A,B,C,D] q d p g f m l).toArray=#[.int .i64 y,.int .i64 z,.int .i64 A,.int .i64 B,.int .i64 C,.int .i64 D,.bool q,.slice d p g,.bool false,.slice f m l]:=rfl
         have a2:w0.heap.size<=(O.alloc (.cells (Ar [y,z,A,B,C,D] q d p g f m l).toArray 135)).heap.size:=(N.trans I).size;rw[Q]at hA5 a0 a2;have ae:=qh (N.trans I);have V:Hid (∀ i,i<0->Cn (O.alloc (.cells (Ar [y,z,A,B,C,D] q d p g f m l).toArray 135)) (rs.getD i []) ((A3 vars (ts.getD i tm0)).getD z6)):=qh fun i E=>(ad.out i E).ext I;have W:Hid (Cn (O.alloc (.cells (Ar [y,z,A,B,C,D] q d p g f m l).toArray 135)) (Ar [y,z,A,B,C,D] q d p g f m l) tm):=qh (Z.out.ext I)
         have aa:Agg prog 135 (Ar [y,z,A,B,C,D] q d p g f m l).length:=AX
         go_wp2_with(first
          | (refine Bm rfl rfl aa rfl ak ?_;rw[Q])
          | (refine Mm rfl rfl (by kernel_rfl) Df rfl hA5 rfl a0 (by intro r hr u hu;rw[fi.1 hr]at hu;exact BO u hu) (by intro r hr u hu;rw[fi.1 hr]at hu;exact BV u hu) (by omega) (by omega) a2 ?_;intro w7 aj P))
         go_roundw
         case rel =>
          refine⟨0+1,_,rfl,by go_num,by omega,ae.out.grownR P (lrf _),aj,af,qh fun i E => ?_⟩;have au:=a1.1.len (by omega);by_cases ao:i=0
          · subst ao;rw[HO.out,fW,gqq,gd (by omega),au,jo];exact W.out.keptU hA5.2 P
          · rw[gqq,fj (by omega),<-gqq];exact(V.out i (by omega)).keptU hA5.2 P
         case measure=>simp[intOf];omega
       · have U:=hS.ext (G.trans F);obtain⟨b2,b4,aG,a8⟩:=U.rd (by omega);simp only[fc,gz,ij]at aG;obtain⟨rfl,rfl⟩:=aG;obtain⟨j,rfl⟩:∃ j,k=j+1:=⟨k-1,by omega⟩;obtain⟨sp,ap,np,cp,az,_,a9⟩:=HQ.out j (by omega);have aH:=IW (vars:=vars) (t:=ts.getD j tm0) (HK.out.1 j (by omega));have aU:=a9.len;have an:=a8 j (by omega) 1 (by omega);rw[az]at an;have aM:L.cell? ⟨b,aZ+j*2+1,none⟩=some (.slice ap np cp):=an;have aV:np=nx:=by omega
         subst aV;have b9:IntKind.i64.wrap (((j+1:Nat):Int)-1)=(j:Int):=by rw[show((j+1:Nat):Int)-1=(j:Int) by omega];exact fO _ (by omega)
         have S:=fun(wx:World) (hq:Ext L wx)=>qh (J3 ((a9.ext (G.trans F)).ext hq) (ab.ext ((Ext.refl _).trans (aL.out.trans hq))) (by omega) (fun x hx=>by have:=aH.2 x hx;omega) (fun x hx=>by have:=am.2 x hx;omega));have HB:=qh am;have b6:=qh a9;obtain⟨v,HV⟩:∃ v,Hid (Pl.ordE (ts.getD j tm0).2 (ts.getD (j+1) tm0).2=v):=⟨_,qh rfl⟩;rw[HV.out]at S;clear a8 an U am aH aT aU a9 az;have b8:(0:Int)<((j+1:Nat):Int):=by omega
         by_cases aA:0<v
         · have af:Hid (okT vars ts (j+1+1)):=qh ⟨fun i E=>by
            by_cases h:i=j+1
            · rw[h,HO.out];rfl
            · exact HK.out.1 i (by omega),fun i E=>by
            by_cases h:i=j
            · rw[h,HV.out];exact aA
            · exact HK.out.2 i (by omega)⟩
           go_quiet (exact jR (S _ ((Ext.refl L).drewN _)).out)
           have al:Arr (L.drewN nq) Y 135 (Ar [y,z,A,B,C,D] q d p g f m l):=a7;have N:=F.drewN nq;have a1:=a6.ext ((Ext.refl L).drewN nq);have ad:Hid (∀ i,i<j+1->Cn (L.drewN nq) (rs.getD i []) ((A3 vars (ts.getD i tm0)).getD z6)):=qh fun i E=>(ac.out i E).ext ((Ext.refl L).drewN nq);have Z:Hid (Cn (L.drewN nq) (Ar [y,z,A,B,C,D] q d p g f m l) tm):=qh (M.out.ext ((Ext.refl L).drewN nq));clear a7 F a6 ac M q1 z1 S aM;generalize L.drewN nq=O at *
           have ak:Arr O Y 135 (Ar [y,z,A,B,C,D] q d p g f m l):=al;have I:Ext O (O.alloc (.cells (Ar [y,z,A,B,C,D] q d p g f m l).toArray 135)):=(Ext.refl O).alloc _;have hA5:=a1.ext I;have a0:=Ey (k:=10) (Arr.new O 135 (Ar [y,z,A,B,C,D] q d p g f m l)) rfl;have Q:(Ar [y,z,A,B,C,D] q d p g f m l).toArray=#[.int .i64 y,.int .i64 z,.int .i64 A,.int .i64 B,.int .i64 C,.int .i64 D,.bool q,.slice d p g,.bool false,.slice f m l]:=rfl
           have a2:w0.heap.size<=(O.alloc (.cells (Ar [y,z,A,B,C,D] q d p g f m l).toArray 135)).heap.size:=(N.trans I).size;rw[Q]at hA5 a0 a2;have ae:=qh (N.trans I);have V:Hid (∀ i,i<j+1->Cn (O.alloc (.cells (Ar [y,z,A,B,C,D] q d p g f m l).toArray 135)) (rs.getD i []) ((A3 vars (ts.getD i tm0)).getD z6)):=qh fun i E=>(ad.out i E).ext I;have W:Hid (Cn (O.alloc (.cells (Ar [y,z,A,B,C,D] q d p g f m l).toArray 135)) (Ar [y,z,A,B,C,D] q d p g f m l) tm):=qh (Z.out.ext I)
           have aa:Agg prog 135 (Ar [y,z,A,B,C,D] q d p g f m l).length:=AX
           go_wp2_with(first
            | (refine Bm rfl rfl aa rfl ak ?_;rw[Q])
            | (refine Mm rfl rfl (by kernel_rfl) Df rfl hA5 rfl a0 (by intro r hr u hu;rw[fi.1 hr]at hu;exact BO u hu) (by intro r hr u hu;rw[fi.1 hr]at hu;exact BV u hu) (by omega) (by omega) a2 ?_;intro w7 aj P))
           go_roundw
           case rel =>
            refine⟨j+1+1,_,rfl,by go_num,by omega,ae.out.grownR P (lrf _),aj,af,qh fun i E => ?_⟩;have au:=a1.1.len (by omega);by_cases ao:i=j+1
            · subst ao;rw[HO.out,fW,gqq,gd (by omega),au,jo];exact W.out.keptU hA5.2 P
            · rw[gqq,fj (by omega),<-gqq];exact(V.out i (by omega)).keptU hA5.2 P
           case measure=>simp[intOf];omega
         · have HF:Hid (r=none):=qh (by
            rw[<-HR.out];unfold rdWF;rw[fl];rintro⟨_,_,_,h1⟩;have:=h1 j (by omega);rw[HV.out]at this
            exact aA this)
           go_quiet (exact jR (S _ ((Ext.refl L).drewN _)).out)
           go_wp2
           go_ret2
           rw[HF.out];exact⟨none,0,0,rfl,(G.trans F).drewN _,CV.nil _⟩
    · have aS:k=n:=by omega
      subst aS
      have HF:Hid (r=some (ts.map (fun t=>(A3 vars t).getD z6))):=qh (by
       rw[<-HR.out];unfold rdWF
       rw[fG ⟨aX,aK,by rw[R];exact HK.out⟩])
      go_wp2
      go_ret2
      rw[HF.out];refine⟨_,_,_,rfl,G.trans hE,rs,hO.1.slk (by omega),by simp[R],fun i E => ?_⟩;have h1:=HC.out i E;have h2:(ts.map (fun t=>(A3 vars t).getD z6)).getD i ([],0)=(A3 vars (ts.getD i tm0)).getD z6:=by simp[R,E]
      rw[fW,h2];exact h1
 · have HF:Hid (r=none):=qh (by
    rw[<-HR.out];unfold rdWF
    rw[fl (fun h=>hv ⟨h.1,h.2.1⟩)])
   go_enter func56,ntmps56
   go_upto_region 1 with(fail)
   refine Bv ?_;intro w0 G T ay;have u0:=T.c 0 rfl;clear T ay;by_cases b1:vars<0
   · clear hv;go_wp2
     go_ret2
     rw[HF.out];exact⟨none,0,0,rfl,G,CV.nil _⟩
   · have b0:6<vars:=by omega
     clear hv;go_wp2
     go_ret2
     rw[HF.out];exact⟨none,0,0,rfl,G,CV.nil _⟩
theorem Lt:F7 prog 133 3:=⟨by kernel_rfl,by kernel_rfl,by kernel_rfl⟩
theorem GX:prog.underlying 176=some (.map 133 125):=by kernel_rfl
theorem SR:Agg prog 133 6:=⟨by kernel_rfl,by kernel_rfl⟩
theorem Ik(k:List Int):∀ (m:List (List Int×Value)) (i:Nat),Bw k i m=Pl.posK k i m
 | [],_=>rfl
 | (k',v) :: r,i=>by unfold Bw Pl.posK;rw[Ik k r (i+1)]
theorem Q9(z:Value)(m:List (List Int×Value))(k:List Int):Dr z m k=Pl.getK z m k:=by unfold Dr Pl.getK;rw[Ik]
theorem ST(m:List (List Int×Value))(k:List Int)(v:Value):Ho m k v=Pl.putK m k v:=by
 unfold Ho Pl.putK;rw[Ik];cases Pl.posK k 0 m <;> rfl
theorem AB.noU(h:AB w r m):NoU w r:=by
 intro j i e;simp[World.cell?,h.obj]at e
theorem AC.noU(h:AC w it r n seen):NoU w it:=by
 intro j i e;unfold AC at h;simp[World.cell?,h]at e
theorem GH.keptU{w i:World}{cs:List Value}{q:Rat}{g:Nat}(h:GH w cs q)(e:NoU w g)(f:w.grownBy i (some g)):GH i cs q:=by
 obtain⟨s,a,n,c,b,m,d,h3,h4,h5,h6⟩:=h;exact⟨s,a,n,c,b,m,d,h3,h4,h5.keptU e f,h6.keptU e f⟩
theorem BI.keptU{w a:World}{v:Value}{q:Rat}{g:Nat}(h:BI w v q)(c:NoU w g)(d:w.grownBy a (some g)):BI a v q:=by
 obtain⟨b,h1,h2⟩:=h;exact⟨b,h1,h2.keptU c d⟩
def Ee(w:World)(r:Nat)(l:List Pl.Tm):Prop:=∃ m,AB w r m/\Pl.RelL (fun v q=>BI w v q) m l
section
variable {w w':World} {r:Nat} {l:List Pl.Tm}
theorem Ee.ext(h:Ee w r l)(e:Ext w w'):Ee w' r l:=by
 obtain⟨m,h1,h2⟩:=h;exact⟨m,h1.ext e,h2.mono fun _ _ h=>h.ext e⟩
theorem Ee.keptU{g:Nat}(h:Ee w r l)(c:NoU w g)(b:w.grownBy w' (some g))(a:r≠g):Ee w' r l:=by
 obtain⟨m,h1,h2⟩:=h;exact⟨m,h1.kept b (by simpa using a),h2.mono fun _ _ h=>h.keptU c b⟩
theorem Ee.nodup(h:Ee w r l):(l.map (·.1)).Nodup:=by
 obtain⟨m,h1,h2⟩:=h;rw[<-h2.keys];exact h1.nodup
theorem Ee.six(h:Ee w r l):∀ t∈l,t.1.length=6:=by
 obtain⟨m,h1,h2⟩:=h;intro t a;have h3:t.1∈m.map (·.1):=by rw[h2.keys];exact gJ a
 obtain⟨p,hp,e⟩:=fy.1 h3;rw[<-e];exact h1.six p hp
theorem Ee.lt(h:Ee w r l):r<w.heap.size:=by
 obtain⟨m,h1,_⟩:=h;exact h1.lt
theorem Ee.new(h:AB w r []):Ee w r []:=⟨[],h,trivial⟩
end
def SU:Value := .agg #[.bool false,.slice none 0 0,.bool false,.slice none 0 0]
theorem SV(w:World):BI w SU 0:=⟨_,rfl,Ec w⟩
theorem O6(w:World):(zeroValue 125).run prog w = .ok SU w:=Tryz.zeroValue125 w
theorem Ra{a:Operand->Value}(d:o.op = .lookup mt x y false)(c:P.underlying mt=some (.map kt vt))(b:F7 P kt et){z:Value}(g:∀ w,(zeroValue vt).run P w = .ok z w)
 {r:Nat} {m:List (List Int×Value)} {k:List Int} (e:a x = .map (some r)) (f:a y=Bg k) (h:AB w r m) (h6:k.length=6):(execOp a o).run P w = .ok (.value (Dr z m k)) w:=by
 unfold execOp;simp only[d,e,f,fC,EL c b (g w) h h6 false,fe,fQ];rfl
def F0(w:World)(base:Nat)(a:Option Addr)(n c:Nat)(l:List Pl.Tm):Prop:=∃ rows,AE w base 135 10 a n c rows/\(∀ g,blk a=some g->NoU w g)/\l.length=n/\∀ i,i<n->Cn w (rows.getD i []) (l.getD i ([],0))
section
variable {w w':World} {base:Nat} {a:Option Addr} {n c:Nat} {l:List Pl.Tm}
theorem F0.sl(h:F0 w base a n c l):CV w a n c l:=by
 obtain⟨b,h1,h2,h3,h4⟩:=h;exact⟨b,h1.slk (by omega),h3,h4⟩
theorem F0.ext(h:F0 w base a n c l)(e:Ext w w'):F0 w' base a n c l:=by
 obtain⟨b,h1,h2,h3,h4⟩:=h;exact⟨b,h1.ext e,fun g d=>(h2 g d).ext (h1.lt d).2 e,h3,fun i f=>(h4 i f).ext e⟩
theorem F0.len(h:F0 w base a n c l):l.length=n:=by
 obtain⟨b,h1,h2,h3,h4⟩:=h;exact h3
theorem F0.nil(w:World)(base:Nat):F0 w base none 0 0 []:=⟨[],AE.nil _ _ _ _,(fun g a=>by simp[blk]at a),rfl,fun i b=>absurd b (by omega)⟩
theorem F0.mono{b:Nat}(h:F0 w base a n c l)(e:b<=base):F0 w b a n c l:=by
 obtain⟨d,h1,h2⟩:=h;exact⟨d,h1.mono e,h2⟩
end
def Xg(w:World)(l:List Pl.Tm)(e:Ending)(w':World):Prop:=∃ a n c,e = .returned (.slice a n c)/\Ext w w'/\F0 w' w.heap.size a n c l
def Nr(w:World)(a:Option Addr)(n c:Nat)(ls:List (List Pl.Tm)):Prop:=∃ cs,Sl w a n c cs/\ls.length=n/\∀ i,i<n->∃ a' n' c',cs.getD i undef = .slice a' n' c'/\CV w a' n' c' (ls.getD i [])
theorem Nr.ext{w b:World}{a:Option Addr}{n c:Nat}{ls:List (List Pl.Tm)}(h:Nr w a n c ls)(e:Ext w b):Nr b a n c ls:=by
 obtain⟨d,h1,h2,h3⟩:=h;exact⟨d,h1.ext e,h2,fun i f=>let ⟨a',n',c',h4,h5⟩:=h3 i f;⟨a',n',c',h4,h5.ext e⟩⟩
theorem CV.len{l:List Pl.Tm}(h:CV w a n c l):l.length=n:=by
 obtain⟨b,h1,h2,h3⟩:=h;exact h2
theorem Rb{r':Nat}(h:AB w r m)(hi:AC w it r' k seen):r≠it:=by
 rintro rfl;unfold AC at hi;rw[h.obj]at hi;cases hi
theorem J4{N:Nat}(h:AE w base e k (some ⟨g,0,none⟩) n c rows)(hi:AC w it r N seen):g≠it:=by
 rcases h.2.2 with⟨a,_⟩|⟨i,b,d,a,_,f,_⟩
 · simp at a
 · simp only[fd,fc,gz,ij,kf]at a;rintro rfl;unfold AC at hi;rw[a.1]at hi;rw[f]at hi;cases hi
theorem Fe(h:AE w base e k (some ⟨g,0,none⟩) n c rows)(hi:AB w r m):g≠r:=by
 rcases h.2.2 with⟨a,_⟩|⟨i,b,d,a,_,f,_⟩
 · simp at a
 · simp only[fd,fc,gz,ij,kf]at a;rintro rfl;have:=hi.obj;rw[a.1]at this;rw[f]at this;cases this
theorem Rc{k:TypeId}(c:P.underlying mt=some (.map k e))(a:AB w r m) :
 (Builtin.len_ #[mt] ty #[.map (some r)]).run P w = .ok (.int .i64 m.length) w:=by
 have b:(BZ 0 m).toArray.size=m.length:=by simp[CL]
 rw[<-b];simp[Builtin.len_,fT c,run_getObj_map w r _ _ a.obj,goInt]
def Qd(w:World)(it:Nat):Nat:=match w.heap[it]? with | some (.mapIter _ _ seen _)=>seen.size | _=>0
theorem J5(h:AC w it r n seen):Qd w it=seen.length:=by
 unfold Qd;unfold AC at h;rw[h];simp
end Go.Proofs.YthdbingomfdeoaaGreatDoor
namespace Go.Proofs.YthdbingomfdeoaaGreatDoor.Pl
variable {k:Nat} {q:Rat}
def plE(a b:List Int):List Int:=List.zipWith (·+·) a b
def zsc(q:Rat)(k:Nat):Int:=q.num*((k/q.den:Nat):Int)
theorem VY(q:Rat):q*(q.den:Rat)=(q.num:Rat):=by
 have h:q=(q.num:Rat)/(q.den:Rat):=by rw[<-Rat.mkRat_eq_div,mw]
 have h0:(q.den:Rat)≠0:=by
  intro h;have:=mC.1 h;exact q.den_nz this
 conv=>lhs;lhs;rw[h]
 rw[Rat.div_mul_cancel h0]
theorem SW(h:q.den∣k):((zsc q k:Int):Rat)=q*(k:Rat):=by
 obtain⟨c,rfl⟩:=h;unfold zsc;rw[kK _ (jM q.den_nz),kh,<-VY,kg];rw[iT];rfl
theorem mkRat_div(z:Int)(d:Nat):mkRat z d=(z:Rat)*((d:Rat))⁻¹:=by
 rw[Rat.mkRat_eq_div,Rat.div_def]
theorem coef_mem:∀ {l:List Tm} {t:Tm},(l.map (·.1)).Nodup->t∈l->coef l t.1=t.2
 | [],_,_,h=>by cases h
 | s :: r,t,hn,h=>by
  simp only[gD,gG]at hn;rcases fV.1 h with rfl|h
  · simp only[coef,ke,Dm hn.1];grind
  · have hne:s.1≠t.1:=fun e=>hn.1 (by rw[e];exact gJ h);simp only[coef,fl hne,coef_mem hn.2 h];grind
end Go.Proofs.YthdbingomfdeoaaGreatDoor.Pl
namespace Go.Proofs.YthdbingomfdeoaaGreatDoor
open Go.Shelf
def Rd:Go.Shelf.Ren:=⟨fun | 6=>107 | 15=>76 | 14=>149 | 28=>118 | 29=>119 | 20=>189 | 21=>190 | 22=>191 | 23=>192 | 24=>193 | 25=>194 | 26=>195 | 27=>196 | 46=>216 | 47=>151 | 48=>152 | 49=>217 | 50=>218 | 57=>229 | n=>n,fun | 22=>72 | 24=>135 | 25=>174 | 3=>3 | 39=>144 | 0=>0 | 53=>187 | 55=>101 | 4=>4 | 46=>180 | 45=>179 | 50=>184 | 5=>5 | 9=>9 | 66=>216 | 70=>220 | 76=>256 | 77=>257 | n=>n,fun | n=>n⟩
theorem VZ:Go.Proofs.SlLaysF0.n6 Tryz.prog Rd:={
 mixed:=by kernel_rfl
 f6:=⟨Tryz.f107.name,by decide,Tryz.func107.trans (fM some (by kernel_rfl))⟩
 f14:=⟨Tryz.f149.name,by decide,Tryz.func149.trans (fM some (by kernel_rfl))⟩
 f15:=Tryz.func76.trans (fM some (by kernel_rfl))
 f20:=⟨Tryz.f189.name,by decide,Tryz.func189.trans (fM some (by kernel_rfl))⟩
 f21:=⟨Tryz.f190.name,by decide,Tryz.func190.trans (fM some (by kernel_rfl))⟩
 f22:=⟨Tryz.f191.name,by decide,Tryz.func191.trans (fM some (by kernel_rfl))⟩
 f23:=⟨Tryz.f192.name,by decide,Tryz.func192.trans (fM some (by kernel_rfl))⟩
 f24:=⟨Tryz.f193.name,by decide,Tryz.func193.trans (fM some (by kernel_rfl))⟩
 f25:=⟨Tryz.f194.name,by decide,Tryz.func194.trans (fM some (by kernel_rfl))⟩
 f26:=⟨Tryz.f195.name,by decide,Tryz.func195.trans (fM some (by kernel_rfl))⟩
 f27:=⟨Tryz.f196.name,by decide,Tryz.func196.trans (fM some (by kernel_rfl))⟩
 f28:=Tryz.func118.trans (fM some (by kernel_rfl))
 f29:=Tryz.func119.trans (fM some (by kernel_rfl))
 f46:=⟨Tryz.f216.name,by decide,Tryz.func216.trans (fM some (by kernel_rfl))⟩
 f47:=Tryz.func151.trans (fM some (by kernel_rfl))
 f48:=Tryz.func152.trans (fM some (by kernel_rfl))
 f49:=⟨Tryz.f217.name,by decide,Tryz.func217.trans (fM some (by kernel_rfl))⟩
 f50:=⟨Tryz.f218.name,by decide,Tryz.func218.trans (fM some (by kernel_rfl))⟩
 f57:=⟨Tryz.f229.name,by decide,Tryz.func229.trans (fM some (by kernel_rfl))⟩
 t0:=Tryz.underlying0
 a0:=Tryz.isAgg0
 z0:=Tryz.sizeOf0
 v0:=Tryz.zeroValue0
 t3:=Tryz.underlying3
 a3:=Tryz.isAgg3
 z3:=Tryz.sizeOf3
 v3:=Tryz.zeroValue3
 t4:=Tryz.underlying4
 a4:=Tryz.isAgg4
 z4:=Tryz.sizeOf4
 v4:=Tryz.zeroValue4
 t5:=Tryz.underlying5
 a5:=Tryz.isAgg5
 z5:=Tryz.sizeOf5
 v5:=Tryz.zeroValue5
 t9:=Tryz.underlying9
 a9:=Tryz.isAgg9
 z9:=Tryz.sizeOf9
 v9:=Tryz.zeroValue9
 t22:=Tryz.underlying72
 a22:=Tryz.isAgg72
 z22:=Tryz.sizeOf72
 v22:=Tryz.zeroValue72
 t25:=Tryz.underlying174
 a25:=Tryz.isAgg174
 z25:=Tryz.sizeOf174
 v25:=Tryz.zeroValue174
 t39:=Tryz.underlying144
 a39:=Tryz.isAgg144
 z39:=Tryz.sizeOf144
 v39:=Tryz.zeroValue144
 t45:=Tryz.underlying179
 a45:=Tryz.isAgg179
 z45:=Tryz.sizeOf179
 v45:=Tryz.zeroValue179
 t46:=Tryz.underlying180
 a46:=Tryz.isAgg180
 z46:=Tryz.sizeOf180
 v46:=Tryz.zeroValue180
 t50:=Tryz.underlying184
 a50:=Tryz.isAgg184
 z50:=Tryz.sizeOf184
 v50:=Tryz.zeroValue184
 t53:=Tryz.underlying187
 a53:=Tryz.isAgg187
 z53:=Tryz.sizeOf187
 v53:=Tryz.zeroValue187
 t55:=Tryz.underlying101
 a55:=Tryz.isAgg101
 z55:=Tryz.sizeOf101
 v55:=Tryz.zeroValue101
 t66:=Tryz.underlying216
 a66:=Tryz.isAgg216
 z66:=Tryz.sizeOf216
 v66:=Tryz.zeroValue216
 t70:=Tryz.underlying220
 a70:=Tryz.isAgg220
 z70:=Tryz.sizeOf220
 v70:=Tryz.zeroValue220
 t76:=Tryz.underlying256
 a76:=Tryz.isAgg256
 z76:=Tryz.sizeOf256
 v76:=Tryz.zeroValue256
 t77:=Tryz.underlying257
 a77:=Tryz.isAgg257
 z77:=Tryz.sizeOf257
 v77:=Tryz.zeroValue257 }
end Go.Proofs.YthdbingomfdeoaaGreatDoor
