/- Part Pz9. -/
import Derived.Test.YtlbmnokpiilfpaaGreatDoorPz8
import Derived.StillTailTactics
import Derived.ArgAppend
import Derived.Shelf.SlLaysF0
import Derived.Test.YtlbmnokpiilfpaaGreatDoorProg
set_option linter.all false
set_option maxRecDepth 100000
set_option maxHeartbeats 100000000
namespace Go.Proofs.YtlbmnokpiilfpaaGreatDoor
open Tryz Go Go.RowKit
def r9:=@List.mem_iff_getElem
def sz:=@ByteArray.toList_eq
def vS:=@Rat.natCast_mul
def vT:=@Rat.mul_assoc
def vl:=@Rat.natCast_eq_zero_iff
def wC:=@Rat.intCast_mul
def ww:=@List.sum_cons
variable {f:Act} {ad:Addr} {ops:Array Oper} {s:ByteArray} {Q:Exit->Act->World->Prop} {vars:Int} {m:List (List Int×Value)} {news rows:List (List Value)} {xs ys:List Int} {seen:List Nat} {rest:List Oper} {dt l:List UInt8} {cs vs zs:List Value} {base c cx d g it k n r:Nat} {o:Oper} {x y:Operand} {a b:Option Addr} {row:Option Nat} {P:Program} {e et kt mt t ty vt:TypeId} {v:Value} {w w':World}
section
variable {P:Program} {w:World}
theorem Sf{o:Nat}{b:List Value}(d:(P.info? ty).map (·.size)=some vs.length)(k:v.cells=vs.toArray)(h:Arr w g t cs)(i:o+vs.length<=cs.length)(h1:∀ v∈vs,v.oneCell'=true)(c:cs.take o ++ vs ++ cs.drop (o+vs.length)=b) :
 ∃ f,(Instr.storeAt ty (.pointer (some ⟨g,o,none⟩)) v).run P w = .ok () f/\Arr f g t b/\w.grownBy f (some g):=by
 have a:=run_storeCells_at (P:=P) g o t vs 0 cs.toArray w h (by simpa using i) h1;rw[qy]at a;simp only[c]at a;refine⟨w.setRow g b.toArray,?_,Cm h b,BK w g _⟩;cases e:P.info? ty with
 | none=>simp[e]at d
 | some inf =>
  have j:inf.size=vs.length:=by simpa[e]using d
  simp[Instr.storeAt,Instr.sureAddr,storeVar,Go.sizeOf,typeInfo,e,k,j,a]
theorem CD(j:o.guard=none)(n:o.op = .store ty x y)
 {g a:Nat} {t:TypeId} {cs:List Value} (vs d:List Value) {v:Value} (k:(P.info? ty).map (·.size)=some vs.length) (q:f.eval x = .pointer (some ⟨g,a,none⟩)) (r:f.eval y=v) (p:v.cells=vs.toArray) (h:Arr w g t cs) (m:a+vs.length<=cs.length) (h1:∀ v∈vs,v.oneCell'=true) (b:cs.take a ++ vs ++ cs.drop (a+vs.length)=d)
 (l:∀ e,Arr e g t d->w.grownBy e (some g)->wpList P ops Q rest (f.put o.dst undef) e):wpList P ops Q (o :: rest) f w:=by
 refine qT j fun K i => ?_;obtain⟨e,c,h2,h3⟩:=Sf (P:=P) k p h m h1 b;unfold Oper.wp execOp;simp only[n,q,r,q8,c,pK,qz,Oper.upon];exact i _ _ (l _ h2 h3)
end
theorem E5(h:k<s.size):(An s).getD k 0=s[k]:=by
 have h1:k<(An s).length:=by rw[Ay];exact h
 rw[gqq,oO h1];rfl
theorem Vv(h:s.size=0):An s=[]:=pG (by rw[Ay];exact h)
theorem X3(h0:0<s.size):((s.extract 0 1).toList == [45])=decide ((An s).head?=some 45)/\(An s).tail=An (s.extract 1 s.size):=by
 have b:(s.extract 0 1).toList=An (s.extract 0 1):=sz ..;rw[b,Bc,Bc];have a:=Ay s;generalize An s=l at *
 cases l with
 | nil=>simp at a;omega
 | cons c r =>
  refine⟨?_,?_⟩
  · simp;by_cases h:c=45 <;> simp[h]
  · simp only[wO,sO,qN];rw[pu (by simp at a;omega)]
theorem Ll(s:ByteArray)(w:World) :
 Calls prog 200 #[.string s,.string { data:=#[45] }] w fun e d=>e = .returned (.tuple #[.string ⟨(if(An s).head?=some 45 then(An s).tail else An s).toArray⟩,.bool (decide ((An s).head?=some 45))])/\d=w:=by
 by_cases h0:s.size=0
 · have e:=Vv h0;have c:s=⟨#[]⟩:=EX e;subst c
   go_enter func200,ntmps200
   go_wp2
   go_ret2
   exact⟨rfl,rfl⟩
 · have h1:(1:Int)<=(s.size:Int):=by omega
   obtain⟨a,b⟩:=X3 (s:=s) (by omega);by_cases h:(An s).head?=some 45
   · simp only[h,tM,vE]at a |-
     go_enter func200,ntmps200
     go_wp2
     go_ret2
     exact⟨by rw[b];rfl,rfl⟩
   · simp only[h,tJ,oJ]at a |-
     go_enter func200,ntmps200
     go_wp2
     go_ret2
     exact⟨rfl,rfl⟩
theorem W1(b:k<(pre l).length):k<l.length/\48<=(l.getD k 0).toNat/\(l.getD k 0).toNat<=57:=by
 have a:=F3 l;have c:=q9 List.length a;rw[pZ]at c;have h1:l.getD k 0=(pre l)[k]:=by
  have:(pre l ++ suf l).getD k 0=(pre l)[k]:=by simp[pO b,b]
  rw[a]at this;exact this
 have h2:=J1 l _ (qG b);rw[h1];exact⟨by omega,h2.1,h2.2⟩
theorem Tz(h:(pre l).length<l.length):¬ (48<=(l.getD (pre l).length 0).toNat/\(l.getD (pre l).length 0).toNat<=57):=by
 induction l with
 | nil=>simp at h
 | cons c r ih =>
  by_cases a:Lk c=true
  · have e:pre (c :: r)=c :: pre r:=by simp[pre,a]
    rw[e]at h |-;simp only[qk,vO]at h |-;exact ih (by omega)
  · have e:pre (c :: r)=[]:=by simp[pre,a]
    rw[e];simpa[Lk]using a
theorem Gj(s:ByteArray)(w:World)(q:s.size<=1000000) :
 Calls prog 201 #[.string s] w fun e p=>e = .returned (.tuple #[.string ⟨(pre (An s)).toArray⟩,.string ⟨(suf (An s)).toArray⟩])/\Ext w p:=by
 obtain⟨K,b⟩:∃ K,(pre (An s)).length=K:=⟨_,rfl⟩
 have j:Hid (∀ k,k<K->∃ h:k<s.size,48<=((s[k].toNat:Nat):Int)/\((s[k].toNat:Nat):Int)<=57):=qh fun k o=>by
  obtain⟨h1,h2,h3⟩:=W1 (l:=An s) (k:=k) (by omega);rw[Ay]at h1;rw[E5 h1]at h2 h3;exact⟨h1,by omega,by omega⟩
 have m:Hid (∀ h:K<s.size,¬ (48<=((s[K].toNat:Nat):Int)/\((s[K].toNat:Nat):Int)<=57)):=qh fun h=>by
  have h1:=Tz (l:=An s) (by rw[Ay,b];exact h);rw[b,E5 h]at h1;omega
 have n:K<=s.size:=by
  have:=q9 List.length (F3 (An s));rw[pZ,Ay]at this;omega
 have a:Hid (pre (An s)=An (s.extract 0 K)/\suf (An s)=An (s.extract K s.size)):=by
  have h1:=F3 (An s);refine qh ⟨?_,?_⟩
  · rw[Bc,qN,vi];have h2:(pre (An s) ++ suf (An s)).take K=pre (An s):=by rw[<-b];simp
    rw[h1]at h2;exact h2.symm
  · rw[Bc];have h2:(pre (An s) ++ suf (An s)).drop K=suf (An s):=by rw[<-b];simp
    rw[h1]at h2;rw[h2,pu];rw[<-h2,tf,Ay];omega
 clear b
 go_enter func201,ntmps201
 go_wp2
 go_loop[4] (fun g=>∃ k:Nat,g = .int .i64 k/\k<=K) (fun g=>K-(intOf g).toNat)
 case atStart=>exact⟨0,rfl,pE _⟩
 case round =>
  obtain⟨k,rfl,o⟩:=hrel;by_cases d:k<K
  · obtain⟨h1,h2,h3⟩:=j.out k d;go_wp2;go_round
    case rel=>exact⟨k+1,by go_num,by omega⟩
    case measure=>simp[intOf];omega
  · have c:k=K:=by omega
    subst c;by_cases f:k<s.size
    · have h1:=m.out f;by_cases h2:48<=((s[k].toNat:Nat):Int)
      · have h3:¬ ((s[k].toNat:Nat):Int)<=57:=fun h3=>h1 ⟨h2,h3⟩;clear h1;go_wp2
        go_quiet (fail)
        go_wp2
        go_ret2
        exact⟨by rw[a.out.1,a.out.2];rfl,(Ext.refl w).drewN _⟩
      · clear h1;go_wp2
        go_quiet (fail)
        go_wp2
        go_ret2
        exact⟨by rw[a.out.1,a.out.2];rfl,(Ext.refl w).drewN _⟩
    · have i:¬ (k:Int)<(s.size:Int):=by omega
      go_wp2
      go_quiet (fail)
      go_wp2
      go_ret2
      exact⟨by rw[a.out.1,a.out.2];rfl,(Ext.refl w).drewN _⟩
theorem MR{c:UInt8}{t:List UInt8}(h:c≠UInt8.ofNat n):((((({ data:=(c :: t).toArray }:ByteArray)[0]'(by show 0<(c :: t).toArray.size;simp)).toNat:Nat):Int) == (n:Int))=false:=by
 show((c.toNat:Int) == (n:Int))=false;have h1:c.toNat≠n:=fun e=>h (by rw[<-e];simp);simp;omega
theorem d49{d:UInt8}:decide (d :: dt≠[49])=(!d == 49 || !dt.isEmpty):=by
 by_cases h1:d=49 <;> cases dt <;> simp[h1]
theorem Bj:Agg prog 175 3:=⟨by kernel_rfl,by kernel_rfl⟩
def CC(neg:Bool)(num den:List UInt8):List Value:=[.bool neg,.string ⟨num.toArray⟩,.string ⟨den.toArray⟩]
theorem CT(neg:Bool)(b a:List UInt8):∀ v∈CC neg b a,v.oneCell'=true:=by
 intro v c;simp only[CC,qj,rI,vQ]at c;rcases c with rfl|rfl|rfl <;> rfl
theorem jZ(a b:List UInt8):((⟨a.toArray⟩:ByteArray).toList == (⟨b.toArray⟩:ByteArray).toList)=decide (a=b):=by
 rw[sz,sz];show(a == b)=_;by_cases h:a=b <;> simp[h]
theorem Sg(s:ByteArray)(w:World)(hs:s.size<=1000000) :
 Calls prog 138 #[.string s] w fun e w'=>e = .returned (.tuple #[.agg (CC (C9 (An s)).1.1 (C9 (An s)).1.2.1 (C9 (An s)).1.2.2).toArray,.bool (C9 (An s)).2])/\Ext w w':=by
 obtain⟨a,o⟩:∃ b:Bool,decide ((An s).head?=some 45)=b:=⟨_,rfl⟩;have K:=Ll s;rw[o]at K;have a1:(if(An s).head?=some 45 then(An s).tail else An s)=if a=true then(An s).tail else An s:=by rw[<-o];by_cases h:(An s).head?=some 45 <;> simp[h]
 rw[a1]at K;obtain⟨P,W⟩:∃ P,C9 (An s)=P:=⟨_,rfl⟩;rw[W];unfold C9 at W;simp only[o]at W;have a2:(if a=true then(An s).tail else An s).length<=1000000:=by
  have:=Ay s;split
  · simp;omega
  · omega
 clear a1 o;generalize (if a=true then(An s).tail else An s)=M at *
 have Z:=fun(wx:World)=>qh (Gj ⟨M.toArray⟩ wx (by show M.toArray.size<=_;simpa using a2));simp only[Cw]at Z;have a5:(suf M).length<=1000000:=by have:=q9 List.length (F3 M);rw[pZ]at this;omega
 generalize pre M=v at *
 generalize suf M=r2 at *
 have m:=qh W;clear W a2
 go_enter func138,ntmps138
 go_upto_region 2 with(fail)
 refine Cf ?_;intro w0 R O Q a6;have hR:Arr w0 w.heap.size 175 (CC false [] []):=O;have hF:Arr w0 (w.heap.size+1) 175 (CC false [] []):=Q;clear O Q a6
 go_wp2_with fail
 refine(K w0).mono ?_;rintro e w1 ⟨rfl,rfl⟩
 go_upto_region 4 with(refine CD rfl rfl [.bool a] (CC a [] []) (by kernel_rfl) rfl rfl rfl hF (by simp[CC]) (by simp[Value.oneCell']) rfl ?_;intro w2 T H)
 have S:=R.grownR H (by omega);have X:=hR.kept H (by simp);clear R hR hF H
 go_wp2_with fail
 refine(Z w2).out.mono ?_;rintro e w3 ⟨rfl,z⟩;have U:=T.ext z
 go_upto_region 5 with(refine CD rfl rfl [.string ⟨v.toArray⟩] (CC a v []) (by kernel_rfl) rfl rfl rfl U (by simp[CC]) (by simp[Value.oneCell']) rfl ?_;intro w4 q I)
 have k:=(S.trans z).grownR I (by omega);have l:=(X.ext z).kept I (by simp);clear S z U T X I;have c0:=q.c 0 rfl;have c1:=q.c 1 rfl;have c2:=q.c 2 rfl;by_cases h48:v=[48]
 · subst h48;cases a with
   | true =>
    have j:Hid (((true,[48],[]),false)=P):=by rw[<-m.out,pP rfl];exact qh (by simp)
    go_wp2_with(refine Aa (vs:=CC true [48] []) rfl rfl rfl rfl rfl Bj l rfl (CT _ _ _) ?_;intro w9 f g)
    refine py (Ao rfl Bj rfl rfl f) rfl ⟨?_,k.grownR g (by omega)⟩;rw[<-j.out];rfl
   | false =>
    have j:Hid (((false,[48],[]),r2.isEmpty)=P):=by rw[<-m.out,pP rfl];exact qh (by cases r2 <;> rfl)
    go_wp2_with(refine Aa (vs:=CC false [48] []) rfl rfl rfl rfl rfl Bj l rfl (CT _ _ _) ?_;intro w9 f g)
    refine py (Ao rfl Bj rfl rfl f) rfl ⟨?_,k.grownR g (by omega)⟩;rw[<-j.out];rfl
 · have a7:(v == [48])=false:=by simpa using h48
   rw[pC h48]at m;by_cases h0:v=[]
   · subst h0;have j:Hid (((a,[],[]),false)=P):=by rw[<-m.out,pP (Or.inl rfl)];exact qh rfl
     go_wp2_with(refine Aa (vs:=CC a [] []) rfl rfl rfl rfl rfl Bj l rfl (CT _ _ _) ?_;intro w9 f g)
     refine py (Ao rfl Bj rfl rfl f) rfl ⟨?_,k.grownR g (by omega)⟩;rw[<-j.out];rfl
   · obtain⟨c,p,rfl⟩:=rS h0;by_cases hc:c=48
     · subst hc;have j:Hid (((a,48 :: p,[]),false)=P):=by rw[<-m.out,pP (Or.inr (by simp))];exact qh rfl
       go_wp2_with(refine Aa (vs:=CC a (48 :: p) []) rfl rfl rfl rfl rfl Bj l rfl (CT _ _ _) ?_;intro w9 f g)
       refine py (Ao rfl Bj rfl rfl f) rfl ⟨?_,k.grownR g (by omega)⟩;rw[<-j.out];rfl
     · rw[pC (by simp[hc])]at m;have a4:=MR (t:=p) (n:=48) hc;by_cases hr:r2=[]
       · subst hr;have j:Hid (((a,c :: p,[]),true)=P):=by rw[<-m.out,pP rfl];exact qh rfl
         go_wp2_with(refine Aa (vs:=CC a (c :: p) []) rfl rfl rfl rfl rfl Bj l rfl (CT _ _ _) ?_;intro w9 f g)
         refine py (Ao rfl Bj rfl rfl f) rfl ⟨?_,k.grownR g (by omega)⟩;rw[<-j.out];rfl
       · obtain⟨d,E,rfl⟩:=rS hr;rw[pC (by simp)]at m;by_cases hd:d=47
         · subst hd;rw[pC (by simp)]at m;have L:An (({ data:=(47 :: E).toArray }:ByteArray).extract 1 (E.length+1))=E:=by
            rw[Bc,Cw,sO,qN,vW,wl]
           have r:=Gj (({ data:=(47 :: E).toArray }:ByteArray).extract 1 (E.length+1)) w4 (by rw[<-Ay,L];simp at a5;omega);rw[L]at r;have N:=qh r;clear r L;obtain⟨y,D⟩:∃ d,pre E=d:=⟨_,rfl⟩;obtain⟨r3,a3⟩:∃ d,suf E=d:=⟨_,rfl⟩;simp only[wO,D,a3]at m N;clear D a3
           go_wp2_with fail
           refine N.out.mono ?_;rintro e w5 ⟨rfl,A⟩;have V:=q.ext A;have Y:=l.ext A
           go_upto_region 14 with(refine CD rfl rfl [.string ⟨y.toArray⟩] (CC a (c :: p) y) (by kernel_rfl) rfl rfl rfl V (by simp[CC]) (by simp[Value.oneCell']) rfl ?_;intro w6 F J)
           have B:=(k.trans A).grownR J (by omega);have i:=Y.kept J (by simp);clear k A V q l Y J c0 c1 c2 a4;have c0:=F.c 0 rfl;have c1:=F.c 1 rfl;have c2:=F.c 2 rfl;have d0:=i.c 0 rfl;have d1:=i.c 1 rfl;have d2:=i.c 2 rfl;have f0:=i.frozen 0;have f1:=i.frozen 1;have f2:=i.frozen 2;by_cases h3:r3=[]
           · subst h3;by_cases hd0:y=[]
             · subst hd0;have j:Hid (((a,c :: p,[]),false)=P):=by rw[<-m.out];exact qh (by simp)
               go_region
               go_wp2;refine py (Ao rfl Bj rfl rfl (((i.set 0 _).set 1 _).set 2 _)) rfl ⟨?_,(((B.setCell (lrf _) _).setCell (lrf _) _).setCell (lrf _) _).drew⟩;rw[<-j.out];rfl
             · obtain⟨d,C,rfl⟩:=rS hd0;by_cases G:d=48
               · subst G;have a0:((((({ data:=(48 :: C).toArray }:ByteArray)[0]'(by show 0<(48 :: C).toArray.size;simp)).toNat:Nat):Int) != 48)=false:=rfl;have j:Hid (((a,c :: p,48 :: C),false)=P):=by rw[<-m.out];exact qh (by simp)
                 go_region
                 go_wp2;refine py (Ao rfl Bj rfl rfl (((i.set 0 _).set 1 _).set 2 _)) rfl ⟨?_,(((B.setCell (lrf _) _).setCell (lrf _) _).setCell (lrf _) _).drew⟩;rw[<-j.out];rfl
               · have a0:((((({ data:=(d :: C).toArray }:ByteArray)[0]'(by show 0<(d :: C).toArray.size;simp)).toNat:Nat):Int) != 48)=true:=q9 (!·) (MR (t:=C) (n:=48) G);have j:Hid (((a,c :: p,d :: C),(!d == 49 || !C.isEmpty))=P):=by rw[<-m.out];exact qh (by rw[sW];refine⟨rfl,?_⟩;rw[d49];simp[G])
                 go_region
                 go_wp2;refine py (Ao rfl Bj rfl rfl (((i.set 0 _).set 1 _).set 2 _)) rfl ⟨?_,(((B.setCell (lrf _) _).setCell (lrf _) _).setCell (lrf _) _).drew⟩;rw[<-j.out];rfl
           · obtain⟨x,xt,rfl⟩:=rS h3;have j:Hid (((a,c :: p,y),false)=P):=by rw[<-m.out];exact qh (by simp)
             go_region
             go_wp2;refine py (Ao rfl Bj rfl rfl (((i.set 0 _).set 1 _).set 2 _)) rfl ⟨?_,(((B.setCell (lrf _) _).setCell (lrf _) _).setCell (lrf _) _).drew⟩;rw[<-j.out];rfl
         · have a0:=MR (t:=E) (n:=47) hd;have j:Hid (((a,c :: p,[]),false)=P):=by rw[<-m.out,pP (by simp[hd])];exact qh rfl
           go_wp2_with(refine Aa (vs:=CC a (c :: p) []) rfl rfl rfl rfl rfl Bj l rfl (CT _ _ _) ?_;intro w9 f g)
           refine py (Ao rfl Bj rfl rfl f) rfl ⟨?_,k.grownR g (by omega)⟩;rw[<-j.out];rfl
def YK(w:World)(o:Option Rat)(e:Ending)(w':World):Prop:=∃ cs,e = .returned (.tuple #[.agg cs.toArray,.bool o.isSome])/\Ext w w'/\CJ w' cs (o.getD 0)
theorem QX(a:W.digs l)(b:l.length<=570):W.decV l<P2 2280:=by
 have h1:=W.decV_lt a;have h2:10^l.length<=16^l.length:=tG (by omega) _;have h3:16^l.length=P2 (4*l.length):=by unfold P2;rw[vM]
 have h4:P2 (4*l.length)<=P2 2280:=Hq (by omega);omega
theorem Ez(w:World):CJ w (Al false none 0 0 false none 0 0) 0:=⟨false,none,0,0,none,0,0,rfl,qh rfl,Wd.nil w,Wd.nil w⟩
theorem GQ(hT:AM w)(hs:s.size<=570):Calls prog 67 #[.string s] w (YK w (AD (An s))):=by
 have ar:=Sg s;have cb:(Al false none 0 0 false none 0 0).toArray=#[.bool false,.slice none 0 0,.bool false,.slice none 0 0]:=rfl;obtain⟨⟨⟨ab,j,a⟩,ok⟩,hP⟩:∃ P,C9 (An s)=P:=⟨_,rfl⟩;simp only[hP]at ar;have bW:(CC ab j a).toArray=#[.bool ab,.string ⟨j.toArray⟩,.string ⟨a.toArray⟩]:=rfl;rw[bW]at ar;cases ok with
 | false =>
  have HQ:Hid (AD (An s)=none):=qh (by unfold AD;simp[hP]);rw[HQ.out];clear hP
  go_enter func67,ntmps67
  go_upto_region 1 with(fail)
  refine AP ?_;intro w0 b0 ag bp;have hR:Arr w0 w.heap.size 85 (Al false none 0 0 false none 0 0):=ag;clear ag bp
  go_wp2_with fail
  refine(ar w0 (by omega)).mono ?_;rintro e w1 ⟨rfl,V⟩;have hY:=Arr.new w1 175 (CC false [] [])
  go_upto_region 2 with(refine Aa (vs:=CC ab j a) rfl rfl rfl rfl rfl Bj hY rfl (CT _ _ _) ?_;intro w2 ca b5)
  have a4:Ext w1 w2:=((Ext.refl w1).alloc _).grownR b5 (lrf _);have b2:=(hR.ext V).ext a4;have b1:=(b0.trans V).trans a4
  go_wp2_with(refine Aa (vs:=Al false none 0 0 false none 0 0) rfl rfl rfl rfl rfl Ak b2 rfl (Aq _ _ _ _ _ _ _ _) ?_;intro w9 ah Z)
  exact py (Ao rfl Ak rfl rfl ah) rfl ⟨_,rfl,b1.grownR Z (lrf _),Ez _⟩
 | true =>
  have hS:=LR hP;have hl:j.length<=570/\a.length<=570:=by
   have h1:=q9 List.length hS.eq;rw[Ay]at h1;simp only[pZ]at h1;refine⟨by omega,?_⟩;by_cases h:a=[]
   · simp[h]
   · rw[pC h]at h1;simp at h1;omega
  have bG:=fun wx=>qh (LP (s:=⟨j.toArray⟩) (w:=wx) (by rw[Cw];exact hS.dn) (by show j.toArray.size<=_;simpa using hl.1));have bn:=fun wx=>qh (LP (s:=⟨a.toArray⟩) (w:=wx) (by rw[Cw];exact hS.dd) (by show a.toArray.size<=_;simpa using hl.2));rw[Cw]at bG bn;have bs:=qh (QX hS.dn hl.1);have bt:=qh (QX hS.dd hl.2);obtain⟨z,hz⟩:∃ z:Int,(if ab=true then -((W.decV j:Nat):Int)else((W.decV j:Nat):Int))=z:=⟨_,rfl⟩;have bL:z.natAbs=W.decV j:=by rw[<-hz];split <;> omega
  obtain⟨o,HO⟩:∃ o,Hid (AD (An s)=o/\o=if a=[]then some (mkRat z 1)else if z.natAbs.gcd (W.decV a)=1 then some (mkRat z (W.decV a))else none):=⟨_,qh ⟨rfl,by unfold AD;simp[hP,hz]⟩⟩;rw[HO.out.1]
  have bv:Hid (a≠[]->W.decV a≠0/\W.decV a≠1):=qh fun hd=>by
   have b4:Lib.decDigits (W.decV a)=a:=W.dec_of_digs hS.dd hd (fun c r e hc=>by
    have:=hS.nd;rw[e,hc]at this
    simp at this)
   refine⟨fun h0 => ?_,fun h0 => ?_⟩
   · rw[h0,W.dec_zero]at b4;have:=hS.nd;rw[<-b4]at this;simp at this
   · rw[h0]at b4;have:=hS.n1;rw[<-b4]at this;exact this (by rw[Lib.decDigits];rfl)
  clear hP hS hl
  go_enter func67,ntmps67
  go_upto_region 1 with(fail)
  refine AP ?_;intro w0 b0 ag bp;have hR:Arr w0 w.heap.size 85 (Al false none 0 0 false none 0 0):=ag;clear ag bp
  go_wp2_with fail
  refine(ar w0 (by omega)).mono ?_;rintro e w1 ⟨rfl,V⟩;have hY:=Arr.new w1 175 (CC false [] [])
  go_upto_region 2 with(refine Aa (vs:=CC ab j a) rfl rfl rfl rfl rfl Bj hY rfl (CT _ _ _) ?_;intro w2 a7 b5)
  have a4:Ext w1 w2:=((Ext.refl w1).alloc _).grownR b5 (lrf _);have b2:=(hR.ext V).ext a4;have b1:=(b0.trans V).trans a4;have hF:w.heap.size<w1.heap.size:=(hR.ext V).lt;clear hR b0 V a4 hY b5 ar;generalize w1.heap.size=F at *
  have c0:=a7.c 0 rfl;have c1:=a7.c 1 rfl;have c2:=a7.c 2 rfl
  go_wp2_with fail
  refine(bG w2).out.mono ?_;rintro e w3 ⟨Q,H,J,I,rfl,bg,a2,bK⟩;have c4:(Ac Q H J I).toArray=#[.bool Q,.slice H J I]:=rfl;have hY:=Arr.new w3 85 (Al false none 0 0 false none 0 0)
  go_upto_region 5 with(refine Aa (vs:=Al Q H J I false none 0 0) rfl rfl rfl rfl rfl Ak hY rfl (Aq _ _ _ _ _ _ _ _) ?_;intro w4 a9 bz)
  have bi:Ext w3 w4:=((Ext.refl w3).alloc _).grownR bz (lrf _);have ay:=bg.trans bi;have b3:=b2.ext ay;have aA:=b1.trans ay;have b6:=bK.ext bi;have ak:=a7.ext ay;have hX:F<w3.heap.size:=(a7.ext bg).lt;clear b2 b1 bg bi bK hY bz c4 c0 c1 c2 a7 ay;generalize w3.heap.size=X at *
  have c0:=ak.c 0 rfl;have bf:=qh bL;clear bL;cases ab with
  | true =>
   have aa:z = -((W.decV j:Nat):Int):=by rw[<-hz];rfl
   have x0:=a9.c 0 rfl;have x1:=a9.c 1 rfl;have bm:=Wb (w:=w4) (v := .agg (Ac Q H J I).toArray) ⟨Q,H,J,I,rfl,a2,b6⟩;rw[<-aa]at bm;have bx:=qh bm;have bN:=qh aa;clear bm hz aa
   go_wp2_with fail
   refine bx.out.mono ?_;rintro e cc ⟨U,R,T,S,rfl,L,bb,bq⟩;have c7:(Ac U R T S).toArray=#[.bool U,.slice R T S]:=rfl;have b7:=a9.ext L
   go_upto_region 7 with(refine CD rfl rfl (Ac U R T S) (Al U R T S false none 0 0) (by kernel_rfl) rfl rfl rfl b7 (by simp[Al,Ac]) (Ae _ _ _ _) rfl ?_;intro w5 g aq)
   have Y:=(aA.trans L).grownR aq (by omega);have C:=(b3.ext L).kept aq (by simp;omega);have al:=(ak.ext L).kept aq (by simp;omega);have a0:=bq.kept b7 (AO _ _ _ _ _ _ _ _) aq;clear x0 x1 c0 bx bN aA L bq b7 aq b3 ak a9 b6 c7 a2;have c2:=al.c 2 rfl;have x0:=g.c 0 rfl;have x1:=g.c 1 rfl;by_cases hd:a=[]
   · subst hd;have HQ:Hid (o=some (mkRat z 1)):=qh (by rw[HO.out.2,pP rfl]);have K:=qh (Pl.rat_eq_mk (q:=mkRat z 1) (n:=z) (d:=1) (by omega) (sQ _) rfl);have x2:=g.c 2 rfl;have x3:=g.c 3 rfl;have bl:(Al U R T S false none 0 0).toArray=#[.bool U,.slice R T S,.bool false,.slice none 0 0]:=rfl
     go_wp2_with(refine Aa (vs:=Al U R T S false none 0 0) rfl rfl rfl rfl rfl Ak C rfl (Aq _ _ _ _ _ _ _ _) ?_;intro w9 ah Z)
     refine py (Ao rfl Ak rfl rfl ah) rfl ?_;rw[HQ.out];refine⟨_,rfl,Y.grownR Z (lrf _),U,R,T,S,none,0,0,rfl,?_,?_,?_⟩
     · show Hid (decide ((mkRat z 1).num<0)=U);rw[K.out.1];exact bb
     · show Wd w9 R T S (mkRat z 1).num.natAbs;rw[K.out.1];exact a0.kept C (AO _ _ _ _ _ _ _ _) Z
     · show Wd w9 none 0 0 (A9 (mkRat z 1)).natAbs;rw[AG.2 K.out.2];exact Wd.nil _
   · have bR:a.isEmpty=false:=by cases a with | nil=>exact absurd rfl hd | cons _ _=>rfl
     go_wp2_with fail
     refine(bn w5).out.mono ?_;rintro e w6 ⟨s6,x,A,y,rfl,B,ad,av⟩;have bo:s6=false:=by rw[<-ad.out];exact pN (by omega)
     subst bo;have bk:(Ac false x A y).toArray=#[.bool false,.slice x A y]:=rfl;have E:=g.ext B;have ao:=C.ext B;have M:=Y.trans B;have O:=a0.ext B;clear g C Y a0 x0 x1 c2 al
     go_upto_region 10 with(refine CD rfl rfl (Ac false x A y) (Al U R T S false x A y) (by kernel_rfl) rfl rfl rfl E (by simp[Al,Ac]) (Ae _ _ _ _) rfl ?_;intro w7 i m)
     have l:=M.grownR m (by omega);have ap:=ao.kept m (by simp;omega);have p:=O.kept E (AO _ _ _ _ _ _ _ _) m;have t:=av.kept E (AO _ _ _ _ _ _ _ _) m;clear E ao M O av m bk;have x0:=i.c 0 rfl;have x1:=i.c 1 rfl;have x2:=i.c 2 rfl;have x3:=i.c 3 rfl;have hg:=qh (Gf (hT.ext l) ⟨U,R,T,S,rfl,bb,p⟩ ⟨false,x,A,y,rfl,ad,t⟩ (by rw[bf.out];exact Af bs.out (by omega)) (Af bt.out (by omega)));rw[pX]at hg
     go_wp2_with fail
     refine hg.out.mono ?_;rintro e w8 ⟨s8,a8,n8,c8,rfl,ai,bd,ax⟩;have bj:=qh (CY (w:=w8) ⟨s8,a8,n8,c8,rfl,bd,ax⟩ rfl);have c9:(Ac s8 a8 n8 c8).toArray=#[.bool s8,.slice a8 n8 c8]:=rfl
     go_wp2_with fail
     refine bj.out.mono ?_;rintro e w9 ⟨rfl,aj⟩;have b:=ai.trans aj;have G:=i.ext b;have D:=ap.ext b;have N:=l.trans b;have b9:=p.ext b;have ba:=t.ext b;clear i ap l p t x0 x1 x2 x3 b ai aj ax;have ac:=qh (bv.out hd);by_cases h1:z.natAbs.gcd (W.decV a)=1
     · have HQ:Hid (o=some (mkRat z (W.decV a))):=qh (by rw[HO.out.2,pC hd,pP h1]);have K:=qh (Pl.rat_eq_mk (q:=mkRat z (W.decV a)) (n:=z) (d:=W.decV a) ac.out.1 h1 rfl);rw[h1];have x0:=G.c 0 rfl;have x1:=G.c 1 rfl;have x2:=G.c 2 rfl;have x3:=G.c 3 rfl;have bl:(Al U R T S false x A y).toArray=#[.bool U,.slice R T S,.bool false,.slice x A y]:=rfl
       go_wp2_with(refine Aa (vs:=Al U R T S false x A y) rfl rfl rfl rfl rfl Ak D rfl (Aq _ _ _ _ _ _ _ _) ?_;intro a1 k f)
       refine py (Ao rfl Ak rfl rfl k) rfl ?_;rw[HQ.out];refine⟨_,rfl,N.grownR f (lrf _),U,R,T,S,x,A,y,rfl,?_,?_,?_⟩
       · show Hid (decide ((mkRat z (W.decV a)).num<0)=U);rw[K.out.1];exact bb
       · show Wd a1 R T S (mkRat z (W.decV a)).num.natAbs;rw[K.out.1];exact b9.kept D (AO _ _ _ _ _ _ _ _) f
       · show Wd a1 x A y (A9 (mkRat z (W.decV a))).natAbs;rw[DI (by rw[K.out.2];exact ac.out.2),K.out.2];exact ba.kept D (AO _ _ _ _ _ _ _ _) f
     · have HQ:Hid (o=none):=qh (by rw[HO.out.2,pC hd,pC h1]);have b8:decide (((z.natAbs.gcd (W.decV a):Nat):Int)=1)=false:=pN (by omega);rw[b8];clear h1
       go_wp2_with(refine Aa (vs:=Al false none 0 0 false none 0 0) rfl rfl rfl rfl rfl Ak D rfl (Aq _ _ _ _ _ _ _ _) ?_;intro a1 k f)
       refine py (Ao rfl Ak rfl rfl k) rfl ?_;rw[HQ.out];exact⟨_,rfl,N.grownR f (lrf _),Ez _⟩
  | false =>
   have aa:z=((W.decV j:Nat):Int):=by rw[<-hz];rfl
   rw[<-aa]at a2;have a0:Wd w4 H J I z.natAbs:=by rw[bf.out];exact b6
   have Y:=aA;have C:=b3;have al:=ak;have g:=a9;clear aA b3 ak a9 b6 hz aa
   go_upto_region 7 with(fail)
   clear c0;have c2:=al.c 2 rfl;have x0:=g.c 0 rfl;have x1:=g.c 1 rfl;by_cases hd:a=[]
   · subst hd;have HQ:Hid (o=some (mkRat z 1)):=qh (by rw[HO.out.2,pP rfl]);have K:=qh (Pl.rat_eq_mk (q:=mkRat z 1) (n:=z) (d:=1) (by omega) (sQ _) rfl);have x2:=g.c 2 rfl;have x3:=g.c 3 rfl;have bl:(Al Q H J I false none 0 0).toArray=#[.bool Q,.slice H J I,.bool false,.slice none 0 0]:=rfl
     go_wp2_with(refine Aa (vs:=Al Q H J I false none 0 0) rfl rfl rfl rfl rfl Ak C rfl (Aq _ _ _ _ _ _ _ _) ?_;intro w9 ah Z)
     refine py (Ao rfl Ak rfl rfl ah) rfl ?_;rw[HQ.out];refine⟨_,rfl,Y.grownR Z (lrf _),Q,H,J,I,none,0,0,rfl,?_,?_,?_⟩
     · show Hid (decide ((mkRat z 1).num<0)=Q);rw[K.out.1];exact a2
     · show Wd w9 H J I (mkRat z 1).num.natAbs;rw[K.out.1];exact a0.kept C (AO _ _ _ _ _ _ _ _) Z
     · show Wd w9 none 0 0 (A9 (mkRat z 1)).natAbs;rw[AG.2 K.out.2];exact Wd.nil _
   · have bR:a.isEmpty=false:=by cases a with | nil=>exact absurd rfl hd | cons _ _=>rfl
     go_wp2_with fail
     refine(bn w4).out.mono ?_;rintro e w6 ⟨s6,x,A,y,rfl,B,ad,av⟩;have bo:s6=false:=by rw[<-ad.out];exact pN (by omega)
     subst bo;have bk:(Ac false x A y).toArray=#[.bool false,.slice x A y]:=rfl;have E:=g.ext B;have ao:=C.ext B;have M:=Y.trans B;have O:=a0.ext B;clear g C Y a0 x0 x1 c2 al
     go_upto_region 10 with(refine CD rfl rfl (Ac false x A y) (Al Q H J I false x A y) (by kernel_rfl) rfl rfl rfl E (by simp[Al,Ac]) (Ae _ _ _ _) rfl ?_;intro w7 i m)
     have l:=M.grownR m (by omega);have ap:=ao.kept m (by simp;omega);have p:=O.kept E (AO _ _ _ _ _ _ _ _) m;have t:=av.kept E (AO _ _ _ _ _ _ _ _) m;clear E ao M O av m bk;have x0:=i.c 0 rfl;have x1:=i.c 1 rfl;have x2:=i.c 2 rfl;have x3:=i.c 3 rfl;have hg:=qh (Gf (hT.ext l) ⟨Q,H,J,I,rfl,a2,p⟩ ⟨false,x,A,y,rfl,ad,t⟩ (by rw[bf.out];exact Af bs.out (by omega)) (Af bt.out (by omega)));rw[pX]at hg
     go_wp2_with fail
     refine hg.out.mono ?_;rintro e w8 ⟨s8,a8,n8,c8,rfl,ai,bd,ax⟩;have bj:=qh (CY (w:=w8) ⟨s8,a8,n8,c8,rfl,bd,ax⟩ rfl);have c9:(Ac s8 a8 n8 c8).toArray=#[.bool s8,.slice a8 n8 c8]:=rfl
     go_wp2_with fail
     refine bj.out.mono ?_;rintro e w9 ⟨rfl,aj⟩;have b:=ai.trans aj;have G:=i.ext b;have D:=ap.ext b;have N:=l.trans b;have b9:=p.ext b;have ba:=t.ext b;clear i ap l p t x0 x1 x2 x3 b ai aj ax;have ac:=qh (bv.out hd);by_cases h1:z.natAbs.gcd (W.decV a)=1
     · have HQ:Hid (o=some (mkRat z (W.decV a))):=qh (by rw[HO.out.2,pC hd,pP h1]);have K:=qh (Pl.rat_eq_mk (q:=mkRat z (W.decV a)) (n:=z) (d:=W.decV a) ac.out.1 h1 rfl);rw[h1];have x0:=G.c 0 rfl;have x1:=G.c 1 rfl;have x2:=G.c 2 rfl;have x3:=G.c 3 rfl;have bl:(Al Q H J I false x A y).toArray=#[.bool Q,.slice H J I,.bool false,.slice x A y]:=rfl
       go_wp2_with(refine Aa (vs:=Al Q H J I false x A y) rfl rfl rfl rfl rfl Ak D rfl (Aq _ _ _ _ _ _ _ _) ?_;intro a1 k f)
       refine py (Ao rfl Ak rfl rfl k) rfl ?_;rw[HQ.out];refine⟨_,rfl,N.grownR f (lrf _),Q,H,J,I,x,A,y,rfl,?_,?_,?_⟩
       · show Hid (decide ((mkRat z (W.decV a)).num<0)=Q);rw[K.out.1];exact a2
       · show Wd a1 H J I (mkRat z (W.decV a)).num.natAbs;rw[K.out.1];exact b9.kept D (AO _ _ _ _ _ _ _ _) f
       · show Wd a1 x A y (A9 (mkRat z (W.decV a))).natAbs;rw[DI (by rw[K.out.2];exact ac.out.2),K.out.2];exact ba.kept D (AO _ _ _ _ _ _ _ _) f
     · have HQ:Hid (o=none):=qh (by rw[HO.out.2,pC hd,pC h1]);have b8:decide (((z.natAbs.gcd (W.decV a):Nat):Int)=1)=false:=pN (by omega);rw[b8];clear h1
       go_wp2_with(refine Aa (vs:=Al false none 0 0 false none 0 0) rfl rfl rfl rfl rfl Ak D rfl (Aq _ _ _ _ _ _ _ _) ?_;intro a1 k f)
       refine py (Ao rfl Ak rfl rfl k) rfl ?_;rw[HQ.out];exact⟨_,rfl,N.grownR f (lrf _),Ez _⟩
theorem QZ{x y:Int}:Calls prog 207 #[.int .i64 x,.int .i64 y] w fun e b=>e = .returned (.int .i64 (Pl.cmpI x y))/\b=w:=by
 rcases Int.lt_trichotomy x y with h|h|h
 · have a:Hid (Pl.cmpI x y = -1):=lz (by unfold Pl.cmpI;rw[pP h])
   go_enter func207,ntmps207
   go_wp2;go_ret;exact⟨by rw[a.out];rfl,rfl⟩
 · subst h;have a:Hid (Pl.cmpI x x=0):=lz (Pl.cmpI_zero.2 rfl)
   go_enter func207,ntmps207
   go_wp2;go_ret;exact⟨by rw[a.out];rfl,rfl⟩
 · have a:Hid (Pl.cmpI x y=1):=lz (by unfold Pl.cmpI;rw[pC (by omega),pP h])
   go_enter func207,ntmps207
   go_wp2;go_ret;exact⟨by rw[a.out];rfl,rfl⟩
theorem DY(a:k<xs.length):(xs.take (k+1)).sum=(xs.take k).sum+xs.getD k 0:=by
 have e:xs.getD k 0=xs[k]:=by simp[a]
 rw[pB a,e,List.sum_append];simp only[ww,List.sum_nil,Int.add_zero]
theorem GR{xs:List Int}{B:Int}(h:∀ x∈xs,-B<=x/\x<=B)(a:0<=B):∀ k,k<=xs.length -> -(B*k)<=(xs.take k).sum/\(xs.take k).sum<=B*k
 | 0,_=>by simp
 | k+1,hk=>by
  have ih:=GR h a k (by omega);have h1:=h (xs.getD k 0) (by simp[show k<xs.length by omega]);rw[DY (by omega)];have e:B*((k+1:Nat):Int)=B*k+B:=by rw[qe,Int.mul_add];simp
  rw[e];omega
def E7(xs ys:List Int)(k:Nat):Int:=Pl.ordR (xs.take k).reverse (ys.take k).reverse
theorem LU(xs ys:List Int):E7 xs ys 0=0:=by simp[E7,Pl.ordR]
theorem LW(a:k<xs.length)(b:k<ys.length):E7 xs ys (k+1)=if xs.getD k 0=ys.getD k 0 then E7 xs ys k else Pl.cmpI (ys.getD k 0) (xs.getD k 0):=by
 have c:xs.getD k 0=xs[k]:=by simp[a]
 have d:ys.getD k 0=ys[k]:=by simp[b]
 unfold E7;rw[pB a,pB b,c,d,List.reverse_concat,List.reverse_concat];rfl
theorem J2(K:SlI w a n c xs)(L:SlI w b n d ys)(hn:n<=12)(Q:∀ x∈xs,-1099511627776<=x/\x<=1099511627776)(v:∀ x∈ys,-1099511627776<=x/\x<=1099511627776) :
 Calls prog 145 #[.slice a n c,.slice b n d] w fun e w'=>e = .returned (.int .i64 (Pl.ordE xs ys))/\Qt w w':=by
 have T:=lz (GR Q (by omega));have U:=lz (GR v (by omega));have Y:=K.len;have Z:=L.len
 go_enter func145,ntmps145
 go_wp2
 go_loop[5,6,12] (fun V W s=>∃ (k:Nat) (p q:Int),V = .int .i64 p/\W = .int .i64 q/\s = .int .i64 k/\k<=n/\Hid ((xs.take k).sum=p/\(ys.take k).sum=q)) (fun _ _ s=>n-(intOf s).toNat)
 case atStart=>exact⟨0,0,0,rfl,rfl,rfl,pE _,lz ⟨rfl,rfl⟩⟩
 case round =>
  obtain⟨k,p,q,rfl,rfl,rfl,hk,o⟩:=hrel;have O:=T.out k (by omega);have P:=U.out k (by omega);rw[o.out.1]at O;rw[o.out.2]at P;by_cases i:k<n
  · obtain⟨N,C,rfl,z⟩:=K.at i;obtain⟨t,l,rfl,f⟩:=L.at i;have R:=z k i;have S:=f k i;have m1:=Q (xs.getD k 0) (by simp[show k<xs.length by omega]);have m2:=v (ys.getD k 0) (by simp[show k<ys.length by omega]);have G:Hid ((xs.take (k+1)).sum=p+xs.getD k 0/\(ys.take (k+1)).sum=q+ys.getD k 0):=lz ⟨by rw[DY (by omega),o.out.1],by rw[DY (by omega),o.out.2]⟩;clear z f;generalize xs.getD k 0=x at *
    generalize ys.getD k 0=y at *
    have w1:IntKind.i64.wrap (p+x)=p+x:=pq _ (by omega);have w2:IntKind.i64.wrap (q+y)=q+y:=pq _ (by omega);go_wp2;go_round
    case rel=>exact⟨k+1,p+x,q+y,by first | rfl | go_num,by first | rfl | go_num,by go_num,by omega,G⟩
    case measure=>simp[intOf];omega
  · have I:k=n:=by omega
    subst I
    have D:Hid (Pl.ordE xs ys=if p=q then E7 xs ys k else Pl.cmpI p q):=lz (by
     have h1:=o.out.1;have h2:=o.out.2;unfold Pl.ordE E7;rw[pu (by omega)]at h1 h2 |-;rw[pu (by omega)]
     rw[h1,h2])
    by_cases A:p=q
    · subst A;have g:Hid (Pl.ordE xs ys=E7 xs ys k):=lz (by rw[D.out,pP rfl]);clear O P o D;go_wp2
      go_loopw[9] (fun s wr=>∃ m:Nat,s = .int .i64 ((m:Int)-1)/\m<=k/\Qt w wr/\Hid (E7 xs ys k=E7 xs ys m)) (fun s _=>(intOf s+1).toNat)
      case atStart=>exact⟨k,by first | rfl | go_num,lrf _,Qt.refl _,lz rfl⟩
      case round =>
       obtain⟨m,rfl,hm,B,E⟩:=hrel;by_cases h0:m=0
       · subst h0;have H:Hid (Pl.ordE xs ys=0):=lz (by rw[g.out,E.out,LU]);go_wp2;go_ret;exact⟨by rw[H.out];rfl,B⟩
       · obtain⟨j,rfl⟩:∃ j,m=j+1:=⟨m-1,by omega⟩;have X:(((j+1:Nat):Int)-1)=(j:Int):=by omega
         rw[X];obtain⟨N,C,rfl,z⟩:=(K.ext B.ext).at (k:=j) (by omega);obtain⟨t,l,rfl,f⟩:=(L.ext B.ext).at (k:=j) (by omega);have R:=z j (by omega);have S:=f j (by omega);have M:=lz (LW (xs:=xs) (ys:=ys) (k:=j) (by omega) (by omega));clear z f;generalize xs.getD j 0=x at *
         generalize ys.getD j 0=y at *
         by_cases r:x=y
         · have F:Hid (E7 xs ys k=E7 xs ys j):=lz (by rw[E.out,M.out,pP r]);subst r;go_wp2
           go_quiet (fail)
           go_wp2;go_roundw
           case rel=>exact⟨j,by first | rfl | go_num,by omega,B.drewN _,F⟩
           case measure=>simp[intOf]
         · have H:Hid (Pl.ordE xs ys=Pl.cmpI y x):=lz (by rw[g.out,E.out,M.out,pC r]);go_wp2
           go_quiet (fail)
           have d1:(wr.drewN nq).cell? ⟨N,C+j,none⟩=some (.int .i64 x):=R;have d2:(wr.drewN nq).cell? ⟨t,l+j,none⟩=some (.int .i64 y):=S;have J:=B.drewN nq;generalize wr.drewN nq=w2 at *
           go_wp2
           go_quiet (exact Calls.quiet_of_same QZ)
           go_wp2;go_ret;exact⟨by rw[H.out];rfl,J.drewN _⟩
    · have g:Hid (Pl.ordE xs ys=Pl.cmpI p q):=lz (by rw[D.out,pC A])
      go_wp2_with fail
      refine QZ.mono ?_;rintro e w1 ⟨rfl,rfl⟩;go_wp2;go_ret;exact⟨by rw[g.out];rfl,Qt.refl _⟩
def AS(vars:Int)(t:List UInt8×List Int):Option Pl.Tm :=
 match AD t.1 with
 | none=>none
 | some q=>if q≠0/\(t.2.length:Int)=vars/\∀ e∈t.2,0<=e/\e<=1048576 then some (AY t.2,q)else none
def YL(w:World)(o:Option Pl.Tm)(e:Ending)(w':World):Prop:=∃ row,e = .returned (.tuple #[.agg row.toArray,.bool o.isSome])/\Ext w w'/\BB w' row (o.getD ([0,0,0,0,0,0],0))
theorem EA(w:World):BB w (As [0,0,0,0,0,0] false none 0 0 none 0 0) ([0,0,0,0,0,0],0):=⟨false,none,0,0,none,0,0,rfl,rfl,Ez w⟩
theorem AV{e:List Int}{s:Bool}{m:Nat}:∀ v∈As e s a n c b m d,∀ i,v ≠ .int .u64 i:=by
 intro v f i;rcases qd.1 f with f|f
 · obtain⟨x,_,rfl⟩:=pU.1 f;simp
 · exact AO _ _ _ _ _ _ _ _ v f i
theorem BC(e:List Int)(s:Bool)(a b:Option Addr)(n c m d:Nat):(As e s a n c b m d).length=e.length+4:=by simp[As,Al,Ac]
theorem Dt:Ca prog 3 (.int .i64 0) 8:=by unfold Ca;kernel_rfl
def ze:List Int:=[0,0,0,0,0,0]
theorem Lm(hT:AM w)(hs:s.size<=570)(hx:SlI w a n c xs)(hv:vars<=6) :
 Calls prog 168 #[.int .i64 vars,.agg #[.string s,.slice a n c]] w (YL w (AS vars (An s,xs))):=by
 have al:=fun(wx:World) (hE:Ext w wx)=>qh (GQ (hT.ext hE) hs);have bv:(As ze false none 0 0 none 0 0).toArray=#[.int .i64 0,.int .i64 0,.int .i64 0,.int .i64 0,.int .i64 0,.int .i64 0,.bool false,.slice none 0 0,.bool false,.slice none 0 0]:=rfl;have I:=hx.len;obtain⟨o,ho⟩:∃ o,AD (An s)=o:=⟨_,rfl⟩;obtain⟨r,hr⟩:∃ r,AS vars (An s,xs)=r:=⟨_,rfl⟩;rw[hr];rw[ho]at al;unfold AS at hr;simp only[ho]at hr;clear ho;have J:=qh hr;clear hr
 go_enter func168,ntmps168
 go_upto_region 1 with(fail)
 refine Cf ?_;intro w0 Z W ab bm;have hR:Arr w0 (w.heap.size+1) 92 (As ze false none 0 0 none 0 0):=ab;have t0:=W.c 0 rfl;have t1:=W.c 1 rfl;clear W ab bm
 go_wp2_with fail
 refine(al w0 Z).out.mono ?_;rintro e w1 ⟨_,rfl,a0,s1,f,t,d,g,p,j,rfl,U,ao,ax⟩;have a8:(Al s1 f t d false g p j).toArray=#[.bool s1,.slice f t d,.bool false,.slice g p j]:=rfl;have hY:=Arr.new w1 85 (Al false none 0 0 false none 0 0)
 go_upto_region 2 with(refine Aa (vs:=Al s1 f t d false g p j) rfl rfl rfl rfl rfl Ak hY rfl (Aq _ _ _ _ _ _ _ _) ?_;intro w2 C ai)
 have L:Ext w1 w2:=((Ext.refl w1).alloc _).grownR ai (lrf _);have y:=a0.trans L;have a3:=hR.ext y;have u0:=y.cell t0;have u1:=y.cell t1;have a2:=Z.trans y;have hX:w.heap.size+1<w1.heap.size:=(hR.ext a0).lt;have P:=ao.ext L;have Q:=ax.ext L;clear hR t0 t1 Z a0 L y ao ax hY ai a8;generalize w1.heap.size=X at *
 cases o with
 | none =>
  simp only at J
  go_wp2_with(refine Aa (vs:=As ze false none 0 0 none 0 0) rfl rfl rfl rfl rfl At a3 rfl AI ?_;intro w9 l m)
  refine py (Ao rfl At rfl rfl l) rfl ?_;rw[<-J.out];exact⟨_,rfl,a2.grownR m (by omega),EA _⟩
 | some q =>
  simp only[pY]at J U P Q;have x0:=C.c 0 rfl;have x1:=C.c 1 rfl;have x2:=C.c 2 rfl;have x3:=C.c 3 rfl;have aj:=qh (DU (w:=w2) (v := .agg #[.bool s1,.slice f t d,.bool false,.slice g p j]) (q:=q) ⟨Al s1 f t d false g p j,rfl,s1,f,t,d,g,p,j,rfl,U,P,Q⟩ rfl)
  go_wp2_with fail
  refine aj.out.mono ?_;rintro e w3 ⟨rfl,z⟩;have B:=a3.ext z;have a5:=C.ext z;have bo:=z.cell u0;have b2:=z.cell u1;have b:=a2.trans z;have ap:=P.ext z;have ay:=Q.ext z;clear a3 C u0 u1 a2 P Q x0 x1 x2 x3 z aj;by_cases F:q=0
  · rw[qC F];have R:Hid (none=r):=qh (by rw[<-J.out,pC (fun h=>h.1 F)]);clear F J
    go_wp2_with(refine Aa (vs:=As ze false none 0 0 none 0 0) rfl rfl rfl rfl rfl At B rfl AI ?_;intro w9 l m)
    refine py (Ao rfl At rfl rfl l) rfl ?_;rw[<-R.out];exact⟨_,rfl,b.grownR m (by omega),EA _⟩
  · rw[pN F];have b8:=qh F;clear F;by_cases a9:(n:Int)=vars
    · have aa:=hx.ext b;go_wp2
      go_loop[34] (fun iv=>∃ k:Nat,iv = .int .i64 k/\k<=n/\Hid (∀ i,i<k->0<=xs.getD i 0/\xs.getD i 0<=1048576)) (fun iv=>n-(intOf iv).toNat)
      case atStart=>exact⟨0,rfl,pE _,qh (fun i hi=>absurd hi (by omega))⟩
      case round =>
       obtain⟨k,rfl,hk,HK⟩:=hrel;by_cases ak:k<n
       · obtain⟨b',bx,rfl,hc⟩:=aa.at ak;have d:=hc k ak;have HM:Hid (xs.getD k 0∈xs):=qh (by simp[show k<xs.length by omega]);clear hc;generalize av:xs.getD k 0=x at *
         have b9:=qh av;clear av;by_cases N:0<=x/\x<=1048576
         · obtain⟨h1,h2⟩:=N;go_wp2;go_round
           case rel =>
            refine⟨k+1,by go_num,by omega,qh fun i hi => ?_⟩;by_cases bd:i=k
            · subst bd;rw[b9.out];exact⟨h1,h2⟩
            · exact HK.out i (by omega)
           case measure=>simp[intOf];omega
         · have R:Hid (none=r):=qh (by rw[<-J.out,pC (fun h=>N (h.2.2 x HM.out))]);by_cases bq:x<0
           · clear N
             go_wp2_with(refine Aa (vs:=As ze false none 0 0 none 0 0) rfl rfl rfl rfl rfl At B rfl AI ?_;intro w9 l m)
             refine py (Ao rfl At rfl rfl l) rfl ?_;rw[<-R.out];exact⟨_,rfl,b.grownR m (by omega),EA _⟩
           · have bp:1048576<x:=by omega
             clear N
             go_wp2_with(refine Aa (vs:=As ze false none 0 0 none 0 0) rfl rfl rfl rfl rfl At B rfl AI ?_;intro w9 l m)
             refine py (Ao rfl At rfl rfl l) rfl ?_;rw[<-R.out];exact⟨_,rfl,b.grownR m (by omega),EA _⟩
       · have bg:k=n:=by omega
         subst bg
         have R:Hid (some (AY xs,q)=r):=qh (by
          have b3:∀ e∈xs,0<=e/\e<=1048576:=fun e he => ?_
          · rw[<-J.out,pP ⟨b8.out,by rw[I];exact a9,b3⟩]
          obtain⟨i,hi,rfl⟩:=r9.1 he;have:=HK.out i (by omega);rw[gqq,oO hi]at this
          exact this)
         clear J HK
         go_upto_region 11 with(fail)
         refine AP ?_;intro w4 A D bn;have D:Arr w4 w3.heap.size 92 (As ze false none 0 0 none 0 0):=D;have ac:=B.ext A;have H:=a5.ext A;have u1:=A.cell b2;have S:=b.trans A;have aq:=ap.ext A;have aA:=ay.ext A;have b4:=aa.ext A;have bt:X<w3.heap.size:=a5.lt;clear bn B a5 b2 bo b ap ay aa A;generalize w3.heap.size=Y at *
         have x0:=H.c 0 rfl;have x1:=H.c 1 rfl;have x2:=H.c 2 rfl;have x3:=H.c 3 rfl;have a8:(Al s1 f t d false g p j).toArray=#[.bool s1,.slice f t d,.bool false,.slice g p j]:=rfl
         go_upto_region 12 with(refine CD rfl rfl (Al s1 f t d false g p j) (As ze s1 f t d g p j) (by kernel_rfl) rfl rfl rfl D (by simp[As,Al,Ac,ze]) (Aq _ _ _ _ _ _ _ _) rfl ?_;intro K ag E)
         have G:=S.grownR E (by omega);have ad:=ac.kept E (by simp;omega);have ar:=aq.kept D AV E;have b0:=aA.kept D AV E;have hu:K.cell? ⟨w.heap.size,1,none⟩=some (.slice a k c):=by
          rw[sc (w:=w4) (E.block _ (qV w4 _ u1) (by simp;omega)),u1]
         have b5:=hx.ext G;clear aq aA ac S E u1 x0 x1 x2 x3 H D a8 b4
         go_still_tail 4,(by kernel_rfl)
         change wpList _ _ _ _ _ K.drew;have bb:Arr K.drew (w.heap.size+1) 92 (As ze false none 0 0 none 0 0):=ad;have a6:Arr K.drew Y 92 (As ze s1 f t d g p j):=ag;have T:Ext w K.drew:=G.drew;have bi:Wd K.drew f t d q.num.natAbs:=ar.ext (Ext.refl K).drew;have bk:Wd K.drew g p j (A9 q).natAbs:=b0.ext (Ext.refl K).drew;clear ad ag G ar b0 hu b5;generalize K.drew=w6 at *
         have b6:=hx.ext T;have bf:k<=6:=by omega
         have HZ:Hid ((As ze s1 f t d g p j).take 0 ++ xs.map (Value.int .i64) ++ (As ze s1 f t d g p j).drop (0+k)=As (AY xs) s1 f t d g p j):=by
          show _=_;have hz:ze=List.replicate 6 0:=rfl;rw[rf,qR,qA];unfold As AY;rw[hz,tV,qw,tV,wX,List.drop_replicate,I,List.length_replicate,show k-6=0 by omega,qN,qi]
         have O:(AY xs).length=6:=D0 (by omega);have V:Agg prog 92 (As (AY xs) s1 f t d g p j).length:=by rw[BC,O];exact At
         have HL:Hid ((As ze false none 0 0 none 0 0).length=(As (AY xs) s1 f t d g p j).length):=qh (by rw[BC,BC,O];rfl);have b7:=qh O;have bs:=qh I;clear O I a9
         go_wp2_with(first
          | (refine LF (sT:=24) rfl rfl underlying24 Dt rfl rfl a6 b6 bf (by rw[BC];simp[ze];omega) (Cc _) ?_;intro w7 ah M;rw[HZ.out]at ah;have a4:=bb.kept M (by simp;omega))
          | (refine Ev rfl rfl V rfl ah ?_)
          | (refine Aa rfl rfl rfl rfl rfl V a4 HL.out AI ?_;intro w8 ba a7))
         have bj:=bi.kept a6 AV M;have bl:=bk.kept a6 AV M;refine py (Ao rfl V rfl rfl ba) rfl ?_;rw[<-R.out];exact⟨_,rfl,(T.grownR M (by omega)).grownR a7 (by omega),s1,f,t,d,g,p,j,rfl,b7.out,s1,f,t,d,g,p,j,rfl,U,bj.kept a4 AV a7,bl.kept a4 AV a7⟩
    · have R:Hid (none=r):=qh (by rw[<-J.out,pC (fun h=>a9 (by rw[<-h.2.1,I]))]);clear J
      go_wp2_with(refine Aa (vs:=As ze false none 0 0 none 0 0) rfl rfl rfl rfl rfl At B rfl AI ?_;intro w9 l m)
      refine py (Ao rfl At rfl rfl l) rfl ?_;rw[<-R.out];exact⟨_,rfl,b.grownR m (by omega),EA _⟩
def NoU(w:World)(g:Nat):Prop:=∀ j i,w.cell? ⟨g,j,none⟩≠some (.int .u64 i)
def nuR(rows:List (List Value)):Prop:=∀ r∈rows,∀ v∈r,∀ i,v ≠ .int .u64 i
theorem Arr.noU(h:Arr w g t cs)(a:∀ v∈cs,∀ i,v ≠ .int .u64 i):NoU w g:=by
 intro j i e;have h4:w.cell? ⟨g,j,none⟩=cs[j]?:=by
  unfold Arr at h;simp[World.cell?,h]
 rw[h4]at e;exact a _ (ql e) _ rfl
theorem NoU.ext(h:NoU w g)(a:g<w.heap.size)(e:Ext w w'):NoU w' g:=by
 intro j i;rw[sc (w:=w) (e.block (k:=g) a)];exact h j i
theorem NoU.kept(h:NoU w g)(a:g<w.heap.size)(c:w.grownBy w' row)(b:some g≠row):NoU w' g:=by
 intro j i;rw[sc (w:=w) (c.block g a b)];exact h j i
theorem Wd.keptU{x:Nat}(h:Wd w a n c x)(d:NoU w g)(f:w.grownBy w' (some g)):Wd w' a n c x:=by
 obtain⟨i,h1,h2⟩:=h;refine⟨i,?_,h2⟩;rcases pT n with h0|h0
 · subst h0;exact⟨Sl.len h1,Sl.cap h1,Sl.max h1,fun h=>absurd h (wu _)⟩
 · refine h1.kept f (Or.inr fun he => ?_);obtain⟨b,o,rfl,e⟩:=h1.at (j:=0) h0;simp only[blk,qU,pz]at he;subst he;exact d _ _ (e 0 h0)
def Er(w:World)(base:Nat)(e:TypeId)(k g n c:Nat)(rows:List (List Value)):Prop:=AR w base e k (some ⟨g,0,none⟩) n c rows/\NoU w g
section
variable {w w':World} {base:Nat} {e:TypeId} {k g n c:Nat} {rows:List (List Value)}
theorem Er.lt(h:Er w base e k g n c rows):base<=g/\g<w.heap.size:=h.1.lt rfl
theorem Er.ext(h:Er w base e k g n c rows)(x:Ext w w'):Er w' base e k g n c rows:=⟨h.1.ext x,h.2.ext h.lt.2 x⟩
theorem Er.kept{row:Option Nat}(h:Er w base e k g n c rows)(b:w.grownBy w' row)(a:some g≠row):Er w' base e k g n c rows:=⟨h.1.kept b (Or.inr a),h.2.kept h.lt.2 b a⟩
theorem Er.nu(o:0<k)(h:Er w base e k g n c rows):nuR rows:=by
 have f:=h.1.slk o;intro r l v s i;obtain⟨p,hp,rfl⟩:=r9.1 l;obtain⟨q,j,rfl⟩:=r9.1 s;have a:p<n:=by rw[<-f.len];exact hp
 have d:q<k:=by rw[<-f.wid _ l];exact j
 obtain⟨b,t,e,m⟩:=f.rd (by omega);simp only[pz,qq,qO]at e;obtain⟨rfl,rfl⟩:=e;have h1:=m p a q d;have h2:(rows.getD p []).getD q undef=(rows[p])[q]:=by simp[hp,j]
 rw[h2]at h1;intro he;rw[he]at h1;exact h.2 _ _ h1
end
section
variable {P:Program} {w:World}
theorem Oc{bytes:Nat}{m:Nat} 
 (U:P.underlying t=some (.slice e)) (a:BV P e zs k bytes) (f:Er w base e k g n c rows) (s:SlK w k (some ad) m cx news)
 (h1:∀ r∈news,∀ u∈r,u.oneCell'=true) (N:nuR news) (v:n+m<=c) (x:(n+m)*bytes<=140737488355328) (C:base<=w.heap.size) :
 ∃ K,(Builtin.append_ #[t,t] ty #[.slice (some ⟨g,0,none⟩) n c,.slice (some ad) m cx]).run P w = .ok (.slice (some ⟨g,0,none⟩) (n+m) c) K/\Er K base e k g (n+m) c (rows ++ news)/\w.grownBy K (some g):=by
 have T:=(f.1.slk a.2.2).max;obtain⟨a',c',K,B,h2,h3,h4⟩:=FD (P:=P) (ty:=ty) U a f.1 s h1 (by omega) x C;obtain⟨i,Y,hz,d,W⟩:=a.parts;have R:=a.2.2;have z:=BM news s.wid;rw[s.len]at z;have y:∀ j u,news.flatten[j]?=some u->w.cell? (ad.add j)=some u:=by
  intro j u hu;have A:j<news.flatten.length:=by
   rcases qx j news.flatten.length with h|h
   · exact h
   · simp[pV h]at hu
  rw[z]at A;have M:0<m:=by rcases pT m with h | h;(rw[h,r7]at A;omega);exact h
  obtain⟨b,o,h,X⟩:=s.rd M;injection h with h;subst h;have G:j/k<m:=(re R).2 A;have I:j%k<k:=qf _ R;have H:j=j/k*k+j%k:=by rw[pM];exact(qM j k).symm
  have h2:=X (j/k) G (j%k) I;have h3:=DX news s.wid (j/k) (j%k) I;rw[<-H,hu]at h3;have S:j/k<news.length:=by rw[s.len];exact G
  rw[oO S,tr]at h3;have h4:(news.getD (j/k) []).getD (j%k) undef=u:=by
   rw[gqq (l:=news),oO S,pY,gqq,<-h3];rfl
  rw[h4,sB,<-H]at h2;rw[<-h2];unfold Addr.add;by_cases h0:j=0 <;> simp[h0]
 rcases f.1.2.2 with⟨J,_⟩|⟨g',V,E,J,hb,Q,Z,hm,hs,a0⟩
 · simp at J
 simp only[pI,pz,qq,qO,tP]at J;obtain⟨rfl,rfl⟩:=J;have L:∀ j,j<news.flatten.length->n*k+j<E.size:=by
  intro j A;rw[z]at A;have:(n+m)*k<=c*k:=px k v;rw[qJ]at this;omega
 have F:∀ j,j<news.flatten.length->(w.cell? ⟨g,n*k+j,none⟩).isSome=true:=by
  intro j A;rw[xb w g _ E e (0,0) Q,tl (L j A)];rfl
 have D:=run_append_room_cells (P:=P) (w:=w) t ty e i U Y g 0 n c ad m cx news.flatten (by rw[z,d]) y (by intro u hu;obtain⟨r,O,hu⟩:=vu.1 hu;exact h1 r O u hu) v (by rw[d,qA];exact F) (by intro j A;simp[World.frozen?,Q]);rw[B,d,qA]at D;simp only[Result.ok.injEq,pI,tP]at D;obtain⟨⟨rfl,rfl⟩,rfl⟩:=D;refine⟨_,B,⟨h2,?_⟩,h3⟩;intro j q he;by_cases A:n*k<=j/\j<n*k+news.flatten.length
 · obtain⟨p,rfl⟩:∃ p,j=n*k+p:=⟨j-n*k,by omega⟩;have hp:p<news.flatten.length:=by omega
   rw[World.cell?_setCells_in g news.flatten (n*k) w F p hp]at he;simp only[pz]at he;obtain⟨r,O,hu⟩:=vu.1 (qG hp);exact N r O _ hu q he
 · rw[World.cell?_setCells_out g news.flatten (n*k) w ⟨g,j,none⟩ (fun _ _=>by simp only;omega)]at he;exact f.2 j q he
theorem GT{s:Operand}(q:o.guard=none)
 (C:o.op = .call { callee := .builtin .append,args:=#[s,x],argTypes:=#[t,t] })
 {e:TypeId} {zs:List Value} {k bytes base:Nat} {g n c:Nat} {rows:List (List Value)} {z:Addr} {m A:Nat} {news:List (List Value)}
 (E:P.underlying t=some (.slice e)) (d:BV P e zs k bytes) (D:f.eval s = .slice (some ⟨g,0,none⟩) n c) (j:Er w base e k g n c rows) (F:f.eval x = .slice (some z) m A) (y:SlK w k (some z) m A news)
 (h1:∀ r∈news,∀ u∈r,u.oneCell'=true) (v:nuR news) (i:n+m<=c) (a:(n+m)*bytes<=140737488355328) (b:base<=w.heap.size)
 (h:∀ p,Er p base e k g (n+m) c (rows ++ news)->w.grownBy p (some g)->wpList P ops Q rest (f.put o.dst (.slice (some ⟨g,0,none⟩) (n+m) c)) p) :
 wpList P ops Q (o :: rest) f w:=by
 refine qT q fun _ B => ?_;obtain⟨p,l,h2,h3⟩:=Oc (P:=P) (ty:=o.type) E d j y h1 v i a b;unfold Oper.wp execOp;simp only[C,resolve,invoke,builtin,q8,qz,pK,sM,qP,sS,D,F,l];exact B _ _ (h p h2 h3)
theorem AR.noU(h:AR w base e k (some ⟨g,0,none⟩) n n rows)(l:nuR rows):NoU w g:=by
 rcases h.2.2 with⟨b,_⟩|⟨q,d,a,b,s,f,m,v,p,c⟩
 · simp at b
 simp only[pI,pz,qq,qO,tP]at b;obtain⟨rfl,rfl⟩:=b;intro j i he;rw[xb w g _ a e (0,0) f]at he;have t:j<a.size:=(qH.1 he).1;have h2:a.toList=rows.flatten:=by rw[<-c,pu (by simp[p])]
 have h3:rows.flatten[j]?=some (.int .u64 i):=by rw[<-h2];simpa using he
 obtain⟨r,o,hu⟩:=vu.1 (ql h3);exact l r o _ hu i rfl
theorem Jk{l c:Operand}(H:o.guard=none)(x:o.op=Op.makeSlice t l c)
 {e:TypeId} {zs:List Value} {k bytes n:Nat} (A:P.underlying t=some (.slice e)) (a:BV P e zs k bytes) (y:∀ v∈zs,∀ i,v ≠ .int .u64 i) (I:f.eval l = .int .i64 0) (G:f.eval c = .int .i64 n)
 (F:bytes*n<=281474976710656) (h63:n<=maxLen)
 (D:∀ j,Er j w.heap.size e k w.heap.size 0 n []->Ext w j->wpList P ops Q rest (f.put o.dst (.slice (some ⟨w.heap.size,0,none⟩) 0 n)) j) :
 wpList P ops Q (o :: rest) f w:=by
 refine qT H fun K q => ?_;obtain⟨i,z,B,b,p⟩:=a.parts;obtain⟨j,g,h2,h3⟩:=run_make_own (P:=P) w w.heap.size t e i (.agg zs.toArray) k A z B b .i64 .i64 n (by rw[p];exact F) h63 (lrf _);have m:(n:Int)<=9223372036854775807:=by
  have h:=h63;simp[maxLen]at h;omega
 have s:(i.bytes:Int)*(n:Int)<=281474976710656:=by
  rw[p];have h:((bytes*n:Nat):Int)<=281474976710656:=by omega
  rwa[q7]at h
 have d:=run_make (P:=P) w t e i (.agg zs.toArray) A z B .i64 .i64 0 n (Int.le_refl _) (by omega) s m;simp only[Int.toNat_zero,qZ]at d;rw[g]at d;simp only[Result.ok.injEq,tP]at d;have h4:(Value.agg zs.toArray).cells=zs.toArray:=rfl;have C:Arr j w.heap.size e (List.replicate n zs).flatten:=by
  have h5:=LQ (n:=n) a.2.1 a.2.2;rw[d,b,h4];unfold Arr;rw[<-h5];exact wK w _
 have E:NoU j w.heap.size:=C.noU (fun v J i=>by
  obtain⟨r,d,hu⟩:=vu.1 J;rw[(qS.1 d).2]at hu
  exact y v hu i)
 unfold Oper.wp execOp;simp only[x,q8,qz,pK,I,G,g,Oper.upon];exact q _ _ (D j ⟨⟨(fun r d=>by cases d),h2⟩,E⟩ ((Ext.refl w).grown h3 (by simp)))
end
abbrev Tx:=List UInt8×List Int
def tm0:Tx:=([],[])
def Sh(w:World)(row:List Value)(t:Tx):Prop:=∃ s a n c,row=[.string s,.slice a n c]/\An s=t.1/\SlI w a n c t.2
theorem Sh.ext{w b:World}{row:List Value}{t:Tx}(h:Sh w row t)(e:Ext w b):Sh b row t:=by
 obtain⟨s,a,n,c,h1,h2,h3⟩:=h;exact⟨s,a,n,c,h1,h2,h3.ext e⟩
def AH(w:World)(a:Option Addr)(n c:Nat)(ts:List Tx):Prop:=∃ rows,SlK w 2 a n c rows/\ts.length=n/\∀ i,i<n->Sh w (rows.getD i []) (ts.getD i tm0)
theorem AH.ext{w d:World}{a:Option Addr}{n c:Nat}{ts:List Tx}(h:AH w a n c ts)(e:Ext w d):AH d a n c ts:=by
 obtain⟨b,h1,h2,h3⟩:=h;exact⟨b,h1.ext e,h2,fun i f=>(h3 i f).ext e⟩
theorem AH.len{ts:List Tx}(h:AH w a n c ts):ts.length=n:=by
 obtain⟨b,h1,h2,h3⟩:=h;exact h2
theorem A4:Agg prog 26 2:=⟨by kernel_rfl,by kernel_rfl⟩
theorem Ad:Agg prog 28 2:=⟨by kernel_rfl,by kernel_rfl⟩
def tmL(s:ByteArray)(a:Option Addr)(n c:Nat):List Value:=[.string s,.slice a n c]
theorem CI(s:ByteArray)(a:Option Addr)(n c:Nat):∀ v∈tmL s a n c,v.oneCell'=true:=by
 intro v b;simp only[tmL,qj,rI,vQ]at b;rcases b with rfl|rfl <;> rfl
theorem CU{t:Tx}(h:(AS vars t).isSome=true):(t.2.length:Int)=vars/\∀ e∈t.2,0<=e/\e<=1048576:=by
 unfold AS at h;split at h
 · simp at h
 · split at h
   · rename_i h1;exact⟨h1.2.1,h1.2.2⟩
   · simp at h
def z6:Pl.Tm:=([0,0,0,0,0,0],0)
def okT(vars:Int)(ts:List Tx)(k:Nat):Prop:=(∀ i,i<k->(AS vars (ts.getD i tm0)).isSome=true)/\∀ i,i+1<k->0<Pl.ordE (ts.getD i tm0).2 (ts.getD (i+1) tm0).2
open Classical in
noncomputable def rdWF (vars:Int) (ts:List Tx):Option (List Pl.Tm):=if 0<=vars/\vars<=6/\okT vars ts ts.length then some (ts.map (fun t=>(AS vars t).getD z6))else none
def X4(w:World)(o:Option (List Pl.Tm))(e:Ending)(w':World):Prop:=∃ a n c,e = .returned (.tuple #[.slice a n c,.bool o.isSome])/\Ext w w'/\Bn w' a n c (o.getD [])
theorem Bn.nil(w:World):Bn w none 0 0 []:=⟨[],SlK.nil w 10,rfl,fun i a=>absurd a (by omega)⟩
theorem BB.keptU{w i:World}{row:List Value}{t:Pl.Tm}{g:Nat}(h:BB w row t)(e:NoU w g)(f:w.grownBy i (some g)):BB i row t:=by
 obtain⟨s,a,n,c,b,m,d,h1,h2,r,j,q,l,k,p,o,h3,h4,h5,h6⟩:=h;exact⟨s,a,n,c,b,m,d,h1,h2,r,j,q,l,k,p,o,h3,h4,h5.keptU e f,h6.keptU e f⟩
theorem BT{row:List Value}(h:Arr w g t row)(b:row.length=k):SlK w k (some ⟨g,0,none⟩) 1 1 [row]:=by
 refine⟨rfl,lrf _,by unfold maxLen;omega,by simpa using b,fun _=>⟨g,0,rfl,fun i c j d => ?_⟩⟩;have a:i=0:=by omega
 subst a;rw[r7,qA];rw[h.cell (by omega)];rfl
theorem IG{ts:List Tx}(hT:AM w)(h:AH w a n c ts)(hs:∀ t∈ts,t.1.length<=570)(hn:n<=4096) :
 Calls prog 89 #[.agg #[.int .i64 vars,.slice a n c]] w (X4 w (rdWF vars ts)):=by
 have HS:=qh hs;clear hs;have R:=h.len;obtain⟨c2,hS,_,hq⟩:=h;have HQ:=qh hq;clear hq;obtain⟨r,hr⟩:∃ r,rdWF vars ts=r:=⟨_,rfl⟩;rw[hr];have HR:=qh hr;clear hr;by_cases hv:0<=vars/\vars<=6
 · obtain⟨bL,bl⟩:=hv
   go_enter func89,ntmps89
   go_upto_region 1 with(fail)
   refine AP ?_;intro w0 G T b6;have u0:=T.c 0 rfl;have u1:=T.c 1 rfl;clear T b6
   go_upto_region 4 with(refine Jk rfl rfl (by kernel_rfl) Bs AV rfl rfl (by omega) (by unfold maxLen;omega) ?_;intro w1 bq bd)
   have v1:=bd.cell u1;go_wp2
   go_loopw[4,24] (fun tv iv wr=>∃ (k:Nat) (rs:List (List Value)),tv = .slice (some ⟨w0.heap.size,0,none⟩) k n/\iv = .int .i64 k/\k<=n/\Ext w0 wr/\Er wr w0.heap.size 92 10 w0.heap.size k n rs/\Hid (okT vars ts k)/\Hid (∀ i,i<k->BB wr (rs.getD i []) ((AS vars (ts.getD i tm0)).getD z6))) (fun _ iv _=>n-(intOf iv).toNat)
   case atStart=>exact⟨0,[],rfl,rfl,pE _,bd,bq,qh ⟨fun i E=>absurd E (by omega),fun i E=>absurd E (by omega)⟩,qh (fun i E=>absurd E (by omega))⟩
   case round =>
    obtain⟨k,rs,rfl,rfl,hk,hE,hO,HK,HC⟩:=hrel;by_cases aA:k<n
    · have bp:=G.trans hE;have U:=hS.ext bp;obtain⟨b,bR,rfl,a8⟩:=U.rd (by omega);obtain⟨s,ax,nx,cx,K,b5,bN⟩:=HQ.out k aA;have hY:=Arr.new wr 26 (tmL ⟨#[]⟩ none 0 0)
      go_upto_region 7 with(first
       | (refine Bg rfl rfl A4 rfl U aA ?_;rw[K])
       | (refine Aa (vs:=tmL s ax nx cx) rfl rfl rfl rfl rfl A4 hY rfl (CI _ _ _ _) ?_;intro w2 a4 bj))
      have a5:Ext wr w2:=((Ext.refl wr).alloc _).grownR bj (lrf _);have J:=hE.trans a5;have bf:=hO.ext a5;have b9:Hid (∀ i,i<k->BB w2 (rs.getD i []) ((AS vars (ts.getD i tm0)).getD z6)):=qh fun i E=>(HC.out i E).ext a5;have v0:=J.cell u0;have v1:=J.cell u1;have hX:w0.heap.size<wr.heap.size:=hO.lt.2;have ab:=bN.ext (G.trans J);have bs:=qh b5;have bK:s.size<=570:=by
       rw[<-Ay,b5];exact HS.out _ (by simp[R,aA])
      clear hY bj hO HC hE a5 K b5 a8 U;generalize wr.heap.size=X at *
      have y0:=a4.c 0 rfl;have y1:=a4.c 1 rfl;have b4:=Lm (vars:=vars) (hT.ext (G.trans J)) bK ab bl;have bo:Hid (AS vars (An s,(ts.getD k tm0).2)=AS vars (ts.getD k tm0)):=qh (by rw[bs.out]);rw[bo.out]at b4;have bb:=qh b4;clear b4
      go_wp2_with fail
      refine bb.out.mono ?_;rintro e w3 ⟨c8,rfl,aj,q,d,p,g,f,m,l,K,h6,b0⟩;obtain⟨o,HO⟩:∃ o,Hid (AS vars (ts.getD k tm0)=o):=⟨_,qh rfl⟩;rw[HO.out]at h6 K b0 |-;obtain⟨y,z,A,B,C,D,ai⟩:=Bt h6;rw[ai]at K;have ba:Hid (BB w3 (As [y,z,A,B,C,D] q d p g f m l) (o.getD ([0,0,0,0,0,0],0))):=qh ⟨q,d,p,g,f,m,l,by rw[ai],h6,b0⟩;subst K;clear ai h6 b0
      have Q:(As [y,z,A,B,C,D] q d p g f m l).toArray=#[.int .i64 y,.int .i64 z,.int .i64 A,.int .i64 B,.int .i64 C,.int .i64 D,.bool q,.slice d p g,.bool false,.slice f m l]:=rfl;have hY:=Arr.new w3 92 (As ze false none 0 0 none 0 0)
      go_upto_region 8 with(refine Aa (vs:=As [y,z,A,B,C,D] q d p g f m l) rfl rfl rfl rfl rfl At hY rfl AI ?_;intro L a7 bk)
      have ak:Ext w3 L:=((Ext.refl w3).alloc _).grownR bk (lrf _);have H:=aj.trans ak;have F:=J.trans H;have a6:=bf.ext H;have ac:Hid (∀ i,i<k->BB L (rs.getD i []) ((AS vars (ts.getD i tm0)).getD z6)):=qh fun i E=>(b9.out i E).ext H;have M:Hid (BB L (As [y,z,A,B,C,D] q d p g f m l) (o.getD ([0,0,0,0,0,0],0))):=qh (ba.out.ext ak);have q1:=H.cell v1;have z1:=H.cell y1;have c5:X<w3.heap.size:=(a4.ext aj).lt;have bm:=qh H;clear hY bk bf b9 aj ak ba Q v0 v1 y0 y1 J a4 H bb;generalize w3.heap.size=Y at *
      cases o with
      | none =>
       have HF:Hid (r=none):=qh (by
        rw[<-HR.out];unfold rdWF;rw[pC];rintro⟨_,_,h1,_⟩;have:=h1 k (by omega);rw[HO.out]at this
        simp at this)
       go_quiet (fail)
       go_wp2
       go_ret2
       rw[HF.out];exact⟨none,0,0,rfl,(G.trans F).drewN _,Bn.nil _⟩
      | some tm =>
       simp only[pY]at M;have ar:=CU (vars:=vars) (t:=ts.getD k tm0) (by rw[HO.out];rfl);have bx:=ab.len;by_cases bt:k=0
       · subst bt;have ah:Hid (okT vars ts (0+1)):=qh ⟨fun i E=>by rw[show i=0 by omega,HO.out];rfl,fun i E=>absurd E (by omega)⟩
         go_quiet (fail)
         have aq:Arr (L.drewN nq) Y 92 (As [y,z,A,B,C,D] q d p g f m l):=a7;have N:=F.drewN nq;have a1:=a6.ext ((Ext.refl L).drewN nq);have ad:Hid (∀ i,i<0->BB (L.drewN nq) (rs.getD i []) ((AS vars (ts.getD i tm0)).getD z6)):=qh fun i E=>absurd E (by omega);have Z:Hid (BB (L.drewN nq) (As [y,z,A,B,C,D] q d p g f m l) tm):=qh (M.out.ext ((Ext.refl L).drewN nq));clear a7 F a6 ac M q1 z1;generalize L.drewN nq=O at *
         have ao:Arr O Y 92 (As [y,z,A,B,C,D] q d p g f m l):=aq;have I:Ext O (O.alloc (.cells (As [y,z,A,B,C,D] q d p g f m l).toArray 92)):=(Ext.refl O).alloc _;have hA5:=a1.ext I;have a0:=BT (k:=10) (Arr.new O 92 (As [y,z,A,B,C,D] q d p g f m l)) rfl;have Q:(As [y,z,A,B,C,D] q d p g f m l).toArray=#[.int .i64 y,.int .i64 z,.int .i64 A,.int .i64 B,.int .i64 C,.int .i64 D,.bool q,.slice d p g,.bool false,.slice f m l]:=rfl
         have a2:w0.heap.size<=(O.alloc (.cells (As [y,z,A,B,C,D] q d p g f m l).toArray 92)).heap.size:=(N.trans I).size;rw[Q]at hA5 a0 a2;have ag:=qh (N.trans I);have V:Hid (∀ i,i<0->BB (O.alloc (.cells (As [y,z,A,B,C,D] q d p g f m l).toArray 92)) (rs.getD i []) ((AS vars (ts.getD i tm0)).getD z6)):=qh fun i E=>(ad.out i E).ext I;have W:Hid (BB (O.alloc (.cells (As [y,z,A,B,C,D] q d p g f m l).toArray 92)) (As [y,z,A,B,C,D] q d p g f m l) tm):=qh (Z.out.ext I)
         have aa:Agg prog 92 (As [y,z,A,B,C,D] q d p g f m l).length:=At
         go_wp2_with(first
          | (refine Ev rfl rfl aa rfl ao ?_;rw[Q])
          | (refine GT rfl rfl (by kernel_rfl) Bs rfl hA5 rfl a0 (by intro r hr u hu;rw[pF.1 hr]at hu;exact AI u hu) (by intro r hr u hu;rw[pF.1 hr]at hu;exact AV u hu) (by omega) (by omega) a2 ?_;intro w7 al P))
         go_roundw
         case rel =>
          refine⟨0+1,_,rfl,by go_num,by omega,ag.out.grownR P (lrf _),al,ah,qh fun i E => ?_⟩;have b1:=a1.1.len (by omega);by_cases ay:i=0
          · subst ay;rw[HO.out,pY,gqq,pW (by omega),b1,ro];exact W.out.keptU hA5.2 P
          · rw[gqq,pO (by omega),<-gqq];exact(V.out i (by omega)).keptU hA5.2 P
         case measure=>simp[intOf];omega
       · have U:=hS.ext (G.trans F);obtain⟨b2,c1,bg,a8⟩:=U.rd (by omega);simp only[pz,qq,qO]at bg;obtain⟨rfl,rfl⟩:=bg;obtain⟨j,rfl⟩:∃ j,k=j+1:=⟨k-1,by omega⟩;obtain⟨sp,ap,np,cp,b7,_,a9⟩:=HQ.out j (by omega);have bi:=CU (vars:=vars) (t:=ts.getD j tm0) (HK.out.1 j (by omega));have bz:=a9.len;have av:=a8 j (by omega) 1 (by omega);rw[b7]at av;have bn:L.cell? ⟨b,bR+j*2+1,none⟩=some (.slice ap np cp):=av;have bG:np=nx:=by omega
         subst bG;have c7:IntKind.i64.wrap (((j+1:Nat):Int)-1)=(j:Int):=by rw[show((j+1:Nat):Int)-1=(j:Int) by omega];exact pq _ (by omega)
         have S:=fun(wx:World) (hq:Ext L wx)=>qh (J2 ((a9.ext (G.trans F)).ext hq) (ab.ext ((Ext.refl _).trans (bm.out.trans hq))) (by omega) (fun x hx=>by have:=bi.2 x hx;omega) (fun x hx=>by have:=ar.2 x hx;omega));have HB:=qh ar;have c4:=qh a9;obtain⟨v,HV⟩:∃ v,Hid (Pl.ordE (ts.getD j tm0).2 (ts.getD (j+1) tm0).2=v):=⟨_,qh rfl⟩;rw[HV.out]at S;clear a8 av U ar bi bx bz a9 b7;have c6:(0:Int)<((j+1:Nat):Int):=by omega
         by_cases b8:0<v
         · have ah:Hid (okT vars ts (j+1+1)):=qh ⟨fun i E=>by
            by_cases h:i=j+1
            · rw[h,HO.out];rfl
            · exact HK.out.1 i (by omega),fun i E=>by
            by_cases h:i=j
            · rw[h,HV.out];exact b8
            · exact HK.out.2 i (by omega)⟩
           go_quiet (exact sV (S _ ((Ext.refl L).drewN _)).out)
           have aq:Arr (L.drewN nq) Y 92 (As [y,z,A,B,C,D] q d p g f m l):=a7;have N:=F.drewN nq;have a1:=a6.ext ((Ext.refl L).drewN nq);have ad:Hid (∀ i,i<j+1->BB (L.drewN nq) (rs.getD i []) ((AS vars (ts.getD i tm0)).getD z6)):=qh fun i E=>(ac.out i E).ext ((Ext.refl L).drewN nq);have Z:Hid (BB (L.drewN nq) (As [y,z,A,B,C,D] q d p g f m l) tm):=qh (M.out.ext ((Ext.refl L).drewN nq));clear a7 F a6 ac M q1 z1 S bn;generalize L.drewN nq=O at *
           have ao:Arr O Y 92 (As [y,z,A,B,C,D] q d p g f m l):=aq;have I:Ext O (O.alloc (.cells (As [y,z,A,B,C,D] q d p g f m l).toArray 92)):=(Ext.refl O).alloc _;have hA5:=a1.ext I;have a0:=BT (k:=10) (Arr.new O 92 (As [y,z,A,B,C,D] q d p g f m l)) rfl;have Q:(As [y,z,A,B,C,D] q d p g f m l).toArray=#[.int .i64 y,.int .i64 z,.int .i64 A,.int .i64 B,.int .i64 C,.int .i64 D,.bool q,.slice d p g,.bool false,.slice f m l]:=rfl
           have a2:w0.heap.size<=(O.alloc (.cells (As [y,z,A,B,C,D] q d p g f m l).toArray 92)).heap.size:=(N.trans I).size;rw[Q]at hA5 a0 a2;have ag:=qh (N.trans I);have V:Hid (∀ i,i<j+1->BB (O.alloc (.cells (As [y,z,A,B,C,D] q d p g f m l).toArray 92)) (rs.getD i []) ((AS vars (ts.getD i tm0)).getD z6)):=qh fun i E=>(ad.out i E).ext I;have W:Hid (BB (O.alloc (.cells (As [y,z,A,B,C,D] q d p g f m l).toArray 92)) (As [y,z,A,B,C,D] q d p g f m l) tm):=qh (Z.out.ext I)
           have aa:Agg prog 92 (As [y,z,A,B,C,D] q d p g f m l).length:=At
           go_wp2_with(first
            | (refine Ev rfl rfl aa rfl ao ?_;rw[Q])
            | (refine GT rfl rfl (by kernel_rfl) Bs rfl hA5 rfl a0 (by intro r hr u hu;rw[pF.1 hr]at hu;exact AI u hu) (by intro r hr u hu;rw[pF.1 hr]at hu;exact AV u hu) (by omega) (by omega) a2 ?_;intro w7 al P))
           go_roundw
           case rel =>
            refine⟨j+1+1,_,rfl,by go_num,by omega,ag.out.grownR P (lrf _),al,ah,qh fun i E => ?_⟩;have b1:=a1.1.len (by omega);by_cases ay:i=j+1
            · subst ay;rw[HO.out,pY,gqq,pW (by omega),b1,ro];exact W.out.keptU hA5.2 P
            · rw[gqq,pO (by omega),<-gqq];exact(V.out i (by omega)).keptU hA5.2 P
           case measure=>simp[intOf];omega
         · have HF:Hid (r=none):=qh (by
            rw[<-HR.out];unfold rdWF;rw[pC];rintro⟨_,_,_,h1⟩;have:=h1 j (by omega);rw[HV.out]at this
            exact b8 this)
           go_quiet (exact sV (S _ ((Ext.refl L).drewN _)).out)
           go_wp2
           go_ret2
           rw[HF.out];exact⟨none,0,0,rfl,(G.trans F).drewN _,Bn.nil _⟩
    · have bv:k=n:=by omega
      subst bv
      have HF:Hid (r=some (ts.map (fun t=>(AS vars t).getD z6))):=qh (by
       rw[<-HR.out];unfold rdWF
       rw[pP ⟨bL,bl,by rw[R];exact HK.out⟩])
      go_wp2
      go_ret2
      rw[HF.out];refine⟨_,_,_,rfl,G.trans hE,rs,hO.1.slk (by omega),by simp[R],fun i E => ?_⟩;have h1:=HC.out i E;have h2:(ts.map (fun t=>(AS vars t).getD z6)).getD i ([],0)=(AS vars (ts.getD i tm0)).getD z6:=by simp[R,E]
      rw[pY,h2];exact h1
 · have HF:Hid (r=none):=qh (by
    rw[<-HR.out];unfold rdWF
    rw[pC (fun h=>hv ⟨h.1,h.2.1⟩)])
   go_enter func89,ntmps89
   go_upto_region 1 with(fail)
   refine AP ?_;intro w0 G T b6;have u0:=T.c 0 rfl;clear T b6;by_cases c0:vars<0
   · clear hv;go_wp2
     go_ret2
     rw[HF.out];exact⟨none,0,0,rfl,G,Bn.nil _⟩
   · have bW:6<vars:=by omega
     clear hv;go_wp2
     go_ret2
     rw[HF.out];exact⟨none,0,0,rfl,G,Bn.nil _⟩
theorem A1:GG prog 90 3:=⟨by kernel_rfl,by kernel_rfl,by kernel_rfl⟩
theorem Du:prog.underlying 184=some (.map 90 85):=by kernel_rfl
theorem D4:Agg prog 90 6:=⟨by kernel_rfl,by kernel_rfl⟩
theorem If(k:List Int):∀ (m:List (List Int×Value)) (i:Nat),CR k i m=Pl.posK k i m
 | [],_=>rfl
 | (k',v) :: r,i=>by unfold CR Pl.posK;rw[If k r (i+1)]
theorem Ig(z:Value)(m:List (List Int×Value))(k:List Int):Fu z m k=Pl.getK z m k:=by unfold Fu Pl.getK;rw[If]
theorem Od(m:List (List Int×Value))(k:List Int)(v:Value):NL m k v=Pl.putK m k v:=by
 unfold NL Pl.putK;rw[If];cases Pl.posK k 0 m <;> rfl
theorem Br.noU(h:Br w r m):NoU w r:=by
 intro j i e;simp[World.cell?,h.obj]at e
theorem AN.noU(h:AN w it r n seen):NoU w it:=by
 intro j i e;unfold AN at h;simp[World.cell?,h]at e
theorem CJ.keptU{w i:World}{cs:List Value}{q:Rat}{g:Nat}(h:CJ w cs q)(e:NoU w g)(f:w.grownBy i (some g)):CJ i cs q:=by
 obtain⟨s,a,n,c,b,m,d,h3,h4,h5,h6⟩:=h;exact⟨s,a,n,c,b,m,d,h3,h4,h5.keptU e f,h6.keptU e f⟩
theorem BU.keptU{w a:World}{v:Value}{q:Rat}{g:Nat}(h:BU w v q)(c:NoU w g)(d:w.grownBy a (some g)):BU a v q:=by
 obtain⟨b,h1,h2⟩:=h;exact⟨b,h1,h2.keptU c d⟩
def Dz(w:World)(r:Nat)(l:List Pl.Tm):Prop:=∃ m,Br w r m/\Pl.RelL (fun v q=>BU w v q) m l
section
variable {w w':World} {r:Nat} {l:List Pl.Tm}
theorem Dz.ext(h:Dz w r l)(e:Ext w w'):Dz w' r l:=by
 obtain⟨m,h1,h2⟩:=h;exact⟨m,h1.ext e,h2.mono fun _ _ h=>h.ext e⟩
theorem Dz.keptU{g:Nat}(h:Dz w r l)(c:NoU w g)(b:w.grownBy w' (some g))(a:r≠g):Dz w' r l:=by
 obtain⟨m,h1,h2⟩:=h;exact⟨m,h1.kept b (by simpa using a),h2.mono fun _ _ h=>h.keptU c b⟩
theorem Dz.nodup(h:Dz w r l):(l.map (·.1)).Nodup:=by
 obtain⟨m,h1,h2⟩:=h;rw[<-h2.keys];exact h1.nodup
theorem Dz.six(h:Dz w r l):∀ t∈l,t.1.length=6:=by
 obtain⟨m,h1,h2⟩:=h;intro t a;have h3:t.1∈m.map (·.1):=by rw[h2.keys];exact ri a
 obtain⟨p,hp,e⟩:=pU.1 h3;rw[<-e];exact h1.six p hp
theorem Dz.lt(h:Dz w r l):r<w.heap.size:=by
 obtain⟨m,h1,_⟩:=h;exact h1.lt
theorem Dz.new(h:Br w r []):Dz w r []:=⟨[],h,trivial⟩
end
def Q2:Value := .agg #[.bool false,.slice none 0 0,.bool false,.slice none 0 0]
theorem Oe(w:World):BU w Q2 0:=⟨_,rfl,Ez w⟩
theorem J3(w:World):(zeroValue 85).run prog w = .ok Q2 w:=Tryz.zeroValue85 w
theorem LX{a:Operand->Value}(d:o.op = .lookup mt x y false)(c:P.underlying mt=some (.map kt vt))(b:GG P kt et){z:Value}(g:∀ w,(zeroValue vt).run P w = .ok z w)
 {r:Nat} {m:List (List Int×Value)} {k:List Int} (e:a x = .map (some r)) (f:a y=BI k) (h:Br w r m) (h6:k.length=6):(execOp a o).run P w = .ok (.value (Fu z m k)) w:=by
 unfold execOp;simp only[d,e,f,q8,JK c b (g w) h h6 false,pK,qz];rfl
def C1(w:World)(base:Nat)(a:Option Addr)(n c:Nat)(l:List Pl.Tm):Prop:=∃ rows,AR w base 92 10 a n c rows/\(∀ g,blk a=some g->NoU w g)/\l.length=n/\∀ i,i<n->BB w (rows.getD i []) (l.getD i ([],0))
section
variable {w w':World} {base:Nat} {a:Option Addr} {n c:Nat} {l:List Pl.Tm}
theorem C1.sl(h:C1 w base a n c l):Bn w a n c l:=by
 obtain⟨b,h1,h2,h3,h4⟩:=h;exact⟨b,h1.slk (by omega),h3,h4⟩
theorem C1.ext(h:C1 w base a n c l)(e:Ext w w'):C1 w' base a n c l:=by
 obtain⟨b,h1,h2,h3,h4⟩:=h;exact⟨b,h1.ext e,fun g d=>(h2 g d).ext (h1.lt d).2 e,h3,fun i f=>(h4 i f).ext e⟩
theorem C1.len(h:C1 w base a n c l):l.length=n:=by
 obtain⟨b,h1,h2,h3,h4⟩:=h;exact h3
theorem C1.nil(w:World)(base:Nat):C1 w base none 0 0 []:=⟨[],AR.nil _ _ _ _,(fun g a=>by simp[blk]at a),rfl,fun i b=>absurd b (by omega)⟩
theorem C1.mono{b:Nat}(h:C1 w base a n c l)(e:b<=base):C1 w b a n c l:=by
 obtain⟨d,h1,h2⟩:=h;exact⟨d,h1.mono e,h2⟩
end
def J4(w:World)(l:List Pl.Tm)(e:Ending)(w':World):Prop:=∃ a n c,e = .returned (.slice a n c)/\Ext w w'/\C1 w' w.heap.size a n c l
def GU(w:World)(a:Option Addr)(n c:Nat)(ls:List (List Pl.Tm)):Prop:=∃ cs,Sl w a n c cs/\ls.length=n/\∀ i,i<n->∃ a' n' c',cs.getD i undef = .slice a' n' c'/\Bn w a' n' c' (ls.getD i [])
theorem GU.ext{w b:World}{a:Option Addr}{n c:Nat}{ls:List (List Pl.Tm)}(h:GU w a n c ls)(e:Ext w b):GU b a n c ls:=by
 obtain⟨d,h1,h2,h3⟩:=h;exact⟨d,h1.ext e,h2,fun i f=>let ⟨a',n',c',h4,h5⟩:=h3 i f;⟨a',n',c',h4,h5.ext e⟩⟩
theorem Bn.len{l:List Pl.Tm}(h:Bn w a n c l):l.length=n:=by
 obtain⟨b,h1,h2,h3⟩:=h;exact h2
theorem LY{r':Nat}(h:Br w r m)(hi:AN w it r' k seen):r≠it:=by
 rintro rfl;unfold AN at hi;rw[h.obj]at hi;cases hi
theorem Da{N:Nat}(h:AR w base e k (some ⟨g,0,none⟩) n c rows)(hi:AN w it r N seen):g≠it:=by
 rcases h.2.2 with⟨a,_⟩|⟨i,b,d,a,_,f,_⟩
 · simp at a
 · simp only[pI,pz,qq,qO,tP]at a;rintro rfl;unfold AN at hi;rw[a.1]at hi;rw[f]at hi;cases hi
theorem Ej(h:AR w base e k (some ⟨g,0,none⟩) n c rows)(hi:Br w r m):g≠r:=by
 rcases h.2.2 with⟨a,_⟩|⟨i,b,d,a,_,f,_⟩
 · simp at a
 · simp only[pI,pz,qq,qO,tP]at a;rintro rfl;have:=hi.obj;rw[a.1]at this;rw[f]at this;cases this
theorem Ih{k:TypeId}(c:P.underlying mt=some (.map k e))(a:Br w r m) :
 (Builtin.len_ #[mt] ty #[.map (some r)]).run P w = .ok (.int .i64 m.length) w:=by
 have b:(Cb 0 m).toArray.size=m.length:=by simp[Eh]
 rw[<-b];simp[Builtin.len_,qF c,run_getObj_map w r _ _ a.obj,goInt]
def IH(w:World)(it:Nat):Nat:=match w.heap[it]? with | some (.mapIter _ _ seen _)=>seen.size | _=>0
theorem C2(h:AN w it r n seen):IH w it=seen.length:=by
 unfold IH;unfold AN at h;rw[h];simp
end Go.Proofs.YtlbmnokpiilfpaaGreatDoor
namespace Go.Proofs.YtlbmnokpiilfpaaGreatDoor.Pl
variable {k:Nat} {q:Rat}
def plE(a b:List Int):List Int:=List.zipWith (·+·) a b
def zsc(q:Rat)(k:Nat):Int:=q.num*((k/q.den:Nat):Int)
theorem WB(q:Rat):q*(q.den:Rat)=(q.num:Rat):=by
 have h:q=(q.num:Rat)/(q.den:Rat):=by rw[<-Rat.mkRat_eq_div,wL]
 have h0:(q.den:Rat)≠0:=by
  intro h;have:=vl.1 h;exact q.den_nz this
 conv=>lhs;lhs;rw[h]
 rw[Rat.div_mul_cancel h0]
theorem MT(h:q.den∣k):((zsc q k:Int):Rat)=q*(k:Rat):=by
 obtain⟨c,rfl⟩:=h;unfold zsc;rw[vV _ (rN q.den_nz),wC,<-WB,vS];rw[vT];rfl
theorem mkRat_div(z:Int)(d:Nat):mkRat z d=(z:Rat)*((d:Rat))⁻¹:=by
 rw[Rat.mkRat_eq_div,Rat.div_def]
theorem coef_mem:∀ {l:List Tm} {t:Tm},(l.map (·.1)).Nodup->t∈l->coef l t.1=t.2
 | [],_,_,h=>by cases h
 | s :: r,t,hn,h=>by
  simp only[qP,qL]at hn;rcases qj.1 h with rfl|h
  · simp only[coef,tM,JQ hn.1];grind
  · have hne:s.1≠t.1:=fun e=>hn.1 (by rw[e];exact ri h);simp only[coef,pC hne,coef_mem hn.2 h];grind
end Go.Proofs.YtlbmnokpiilfpaaGreatDoor.Pl
namespace Go.Proofs.YtlbmnokpiilfpaaGreatDoor
open Go.Shelf
def Si:Go.Shelf.Ren:=⟨fun | 6=>143 | 15=>206 | 14=>205 | 28=>252 | 29=>253 | 20=>244 | 21=>245 | 22=>246 | 23=>247 | 24=>248 | 25=>249 | 26=>250 | 27=>251 | 46=>294 | 47=>295 | 48=>296 | 49=>297 | 50=>298 | 57=>321 | n=>n,fun | 22=>80 | 24=>92 | 25=>183 | 3=>3 | 39=>222 | 0=>0 | 53=>241 | 55=>238 | 4=>4 | 46=>277 | 45=>276 | 50=>204 | 5=>5 | 9=>9 | 66=>309 | 70=>313 | 76=>333 | 77=>334 | n=>n,fun | n=>n⟩
theorem WC:Go.Proofs.SlLaysF0.n6 Tryz.prog Si:={
 mixed:=by kernel_rfl
 f6:=⟨Tryz.f143.name,by decide,Tryz.func143.trans (q9 some (by kernel_rfl))⟩
 f14:=⟨Tryz.f205.name,by decide,Tryz.func205.trans (q9 some (by kernel_rfl))⟩
 f15:=Tryz.func206.trans (q9 some (by kernel_rfl))
 f20:=⟨Tryz.f244.name,by decide,Tryz.func244.trans (q9 some (by kernel_rfl))⟩
 f21:=⟨Tryz.f245.name,by decide,Tryz.func245.trans (q9 some (by kernel_rfl))⟩
 f22:=⟨Tryz.f246.name,by decide,Tryz.func246.trans (q9 some (by kernel_rfl))⟩
 f23:=⟨Tryz.f247.name,by decide,Tryz.func247.trans (q9 some (by kernel_rfl))⟩
 f24:=⟨Tryz.f248.name,by decide,Tryz.func248.trans (q9 some (by kernel_rfl))⟩
 f25:=⟨Tryz.f249.name,by decide,Tryz.func249.trans (q9 some (by kernel_rfl))⟩
 f26:=⟨Tryz.f250.name,by decide,Tryz.func250.trans (q9 some (by kernel_rfl))⟩
 f27:=⟨Tryz.f251.name,by decide,Tryz.func251.trans (q9 some (by kernel_rfl))⟩
 f28:=Tryz.func252.trans (q9 some (by kernel_rfl))
 f29:=Tryz.func253.trans (q9 some (by kernel_rfl))
 f46:=⟨Tryz.f294.name,by decide,Tryz.func294.trans (q9 some (by kernel_rfl))⟩
 f47:=Tryz.func295.trans (q9 some (by kernel_rfl))
 f48:=Tryz.func296.trans (q9 some (by kernel_rfl))
 f49:=⟨Tryz.f297.name,by decide,Tryz.func297.trans (q9 some (by kernel_rfl))⟩
 f50:=⟨Tryz.f298.name,by decide,Tryz.func298.trans (q9 some (by kernel_rfl))⟩
 f57:=⟨Tryz.f321.name,by decide,Tryz.func321.trans (q9 some (by kernel_rfl))⟩
 t0:=Tryz.underlying0
 a0:=Tryz.isAgg0
 z0:=Tryz.sizeOf0
 v0:=Tryz.zeroValue0
 t3:=Tryz.underlying3
 a3:=Tryz.isAgg3
 z3:=Tryz.sizeOf3
 v3:=Tryz.zeroValue3
 t4:=Tryz.underlying4
 a4:=Tryz.isAgg4
 z4:=Tryz.sizeOf4
 v4:=Tryz.zeroValue4
 t5:=Tryz.underlying5
 a5:=Tryz.isAgg5
 z5:=Tryz.sizeOf5
 v5:=Tryz.zeroValue5
 t9:=Tryz.underlying9
 a9:=Tryz.isAgg9
 z9:=Tryz.sizeOf9
 v9:=Tryz.zeroValue9
 t22:=Tryz.underlying80
 a22:=Tryz.isAgg80
 z22:=Tryz.sizeOf80
 v22:=Tryz.zeroValue80
 t25:=Tryz.underlying183
 a25:=Tryz.isAgg183
 z25:=Tryz.sizeOf183
 v25:=Tryz.zeroValue183
 t39:=Tryz.underlying222
 a39:=Tryz.isAgg222
 z39:=Tryz.sizeOf222
 v39:=Tryz.zeroValue222
 t45:=Tryz.underlying276
 a45:=Tryz.isAgg276
 z45:=Tryz.sizeOf276
 v45:=Tryz.zeroValue276
 t46:=Tryz.underlying277
 a46:=Tryz.isAgg277
 z46:=Tryz.sizeOf277
 v46:=Tryz.zeroValue277
 t50:=Tryz.underlying204
 a50:=Tryz.isAgg204
 z50:=Tryz.sizeOf204
 v50:=Tryz.zeroValue204
 t53:=Tryz.underlying241
 a53:=Tryz.isAgg241
 z53:=Tryz.sizeOf241
 v53:=Tryz.zeroValue241
 t55:=Tryz.underlying238
 a55:=Tryz.isAgg238
 z55:=Tryz.sizeOf238
 v55:=Tryz.zeroValue238
 t66:=Tryz.underlying309
 a66:=Tryz.isAgg309
 z66:=Tryz.sizeOf309
 v66:=Tryz.zeroValue309
 t70:=Tryz.underlying313
 a70:=Tryz.isAgg313
 z70:=Tryz.sizeOf313
 v70:=Tryz.zeroValue313
 t76:=Tryz.underlying333
 a76:=Tryz.isAgg333
 z76:=Tryz.sizeOf333
 v76:=Tryz.zeroValue333
 t77:=Tryz.underlying334
 a77:=Tryz.isAgg334
 z77:=Tryz.sizeOf334
 v77:=Tryz.zeroValue334 }
end Go.Proofs.YtlbmnokpiilfpaaGreatDoor
