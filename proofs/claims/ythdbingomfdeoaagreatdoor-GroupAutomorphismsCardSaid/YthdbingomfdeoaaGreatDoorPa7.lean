/- Part Pa7. -/
import Derived.Test.YthdbingomfdeoaaGreatDoorPa6
import Derived.WalkKit
import Derived.StillTailTactics
import Derived.ArgAppend
set_option linter.all false
set_option maxRecDepth 100000
set_option maxHeartbeats 100000000
namespace Go.Proofs.YthdbingomfdeoaaGreatDoor
open Tryz Go Go.RowKit
def fe:=@Option.some.inj
def gZ:=@List.take_zero
def iw:=@List.mem_iff_getElem
def jI:=@ByteArray.toList_eq
def kL:=@List.Perm.refl
def ks:=@List.take_succ_cons
def ly:=@Rat.add_zero
variable {f:Act} {ad:Addr} {ops:Array Oper} {s:ByteArray} {Q:Exit->Act->World->Prop} {vars:Int} {news rows:List (List Value)} {xs:List Int} {rest:List Oper} {dt l:List UInt8} {cs zs:List Value} {N b0 base c cx g k m n:Nat} {o:Oper} {x:Operand} {a b:Option Addr} {row:Option Nat} {e t ty:TypeId} {w w':World}
theorem Ea(h:k<s.size):(Ad s).getD k 0=s[k]:=by
 have h1:k<(Ad s).length:=by rw[Al];exact h
 rw[gqq,eQ h1];rfl
theorem Ts(h:s.size=0):Ad s=[]:=fa (by rw[Al];exact h)
theorem Vc(h0:0<s.size):((s.extract 0 1).toList == [45])=decide ((Ad s).head?=some 45)/\(Ad s).tail=Ad (s.extract 1 s.size):=by
 have b:(s.extract 0 1).toList=Ad (s.extract 0 1):=jI ..;rw[b,AH,AH];have a:=Al s;generalize Ad s=l at *
 cases l with
 | nil=>simp at a;omega
 | cons c r =>
  refine⟨?_,?_⟩
  · simp;by_cases h:c=45 <;> simp[h]
  · simp only[kJ,ij,gm];rw[eR (by simp at a;omega)]
theorem JN(s:ByteArray)(w:World) :
 Calls prog 139 #[.string s,.string { data:=#[45] }] w fun e d=>e = .returned (.tuple #[.string ⟨(if(Ad s).head?=some 45 then(Ad s).tail else Ad s).toArray⟩,.bool (decide ((Ad s).head?=some 45))])/\d=w:=by
 by_cases h0:s.size=0
 · have e:=Ts h0;have c:s=⟨#[]⟩:=De e;subst c
   go_enter func139,ntmps139
   go_wp2
   go_ret2
   exact⟨rfl,rfl⟩
 · have h1:(1:Int)<=(s.size:Int):=by omega
   obtain⟨a,b⟩:=Vc (s:=s) (by omega);by_cases h:(Ad s).head?=some 45
   · simp only[h,j0,jU]at a |-
     go_enter func139,ntmps139
     go_wp2
     go_ret2
     exact⟨by rw[b];rfl,rfl⟩
   · simp only[h,ja,kD]at a |-
     go_enter func139,ntmps139
     go_wp2
     go_ret2
     exact⟨rfl,rfl⟩
theorem UI(b:k<(pre l).length):k<l.length/\48<=(l.getD k 0).toNat/\(l.getD k 0).toNat<=57:=by
 have a:=EZ l;have c:=fV List.length a;rw[ff]at c;have h1:l.getD k 0=(pre l)[k]:=by
  have:(pre l ++ suf l).getD k 0=(pre l)[k]:=by simp[f4 b,b]
  rw[a]at this;exact this
 have h2:=Jp l _ (fu b);rw[h1];exact⟨by omega,h2.1,h2.2⟩
theorem Sa(h:(pre l).length<l.length):¬ (48<=(l.getD (pre l).length 0).toNat/\(l.getD (pre l).length 0).toNat<=57):=by
 induction l with
 | nil=>simp at h
 | cons c r ih =>
  by_cases a:JM c=true
  · have e:pre (c :: r)=c :: pre r:=by simp[pre,a]
    rw[e]at h |-;simp only[fW,kA]at h |-;exact ih (by omega)
  · have e:pre (c :: r)=[]:=by simp[pre,a]
    rw[e];simpa[JM]using a
theorem Fq(s:ByteArray)(w:World)(q:s.size<=1000000) :
 Calls prog 140 #[.string s] w fun e p=>e = .returned (.tuple #[.string ⟨(pre (Ad s)).toArray⟩,.string ⟨(suf (Ad s)).toArray⟩])/\Ext w p:=by
 obtain⟨K,b⟩:∃ K,(pre (Ad s)).length=K:=⟨_,rfl⟩
 have j:Hid (∀ k,k<K->∃ h:k<s.size,48<=((s[k].toNat:Nat):Int)/\((s[k].toNat:Nat):Int)<=57):=qh fun k o=>by
  obtain⟨h1,h2,h3⟩:=UI (l:=Ad s) (k:=k) (by omega);rw[Al]at h1;rw[Ea h1]at h2 h3;exact⟨h1,by omega,by omega⟩
 have m:Hid (∀ h:K<s.size,¬ (48<=((s[K].toNat:Nat):Int)/\((s[K].toNat:Nat):Int)<=57)):=qh fun h=>by
  have h1:=Sa (l:=Ad s) (by rw[Al,b];exact h);rw[b,Ea h]at h1;omega
 have n:K<=s.size:=by
  have:=fV List.length (EZ (Ad s));rw[ff,Al]at this;omega
 have a:Hid (pre (Ad s)=Ad (s.extract 0 K)/\suf (Ad s)=Ad (s.extract K s.size)):=by
  have h1:=EZ (Ad s);refine qh ⟨?_,?_⟩
  · rw[AH,gm,j8];have h2:(pre (Ad s) ++ suf (Ad s)).take K=pre (Ad s):=by rw[<-b];simp
    rw[h1]at h2;exact h2.symm
  · rw[AH];have h2:(pre (Ad s) ++ suf (Ad s)).drop K=suf (Ad s):=by rw[<-b];simp
    rw[h1]at h2;rw[h2,eR];rw[<-h2,iC,Al];omega
 clear b
 go_enter func140,ntmps140
 go_wp2
 go_loop[4] (fun g=>∃ k:Nat,g = .int .i64 k/\k<=K) (fun g=>K-(intOf g).toNat)
 case atStart=>exact⟨0,rfl,f8 _⟩
 case round =>
  obtain⟨k,rfl,o⟩:=hrel;by_cases d:k<K
  · obtain⟨h1,h2,h3⟩:=j.out k d;go_wp2;go_round
    case rel=>exact⟨k+1,by go_num,by omega⟩
    case measure=>simp[intOf];omega
  · have c:k=K:=by omega
    subst c;by_cases f:k<s.size
    · have h1:=m.out f;by_cases h2:48<=((s[k].toNat:Nat):Int)
      · have h3:¬ ((s[k].toNat:Nat):Int)<=57:=fun h3=>h1 ⟨h2,h3⟩;clear h1;go_wp2
        go_quiet (fail)
        go_wp2
        go_ret2
        exact⟨by rw[a.out.1,a.out.2];rfl,(Ext.refl w).drewN _⟩
      · clear h1;go_wp2
        go_quiet (fail)
        go_wp2
        go_ret2
        exact⟨by rw[a.out.1,a.out.2];rfl,(Ext.refl w).drewN _⟩
    · have i:¬ (k:Int)<(s.size:Int):=by omega
      go_wp2
      go_quiet (fail)
      go_wp2
      go_ret2
      exact⟨by rw[a.out.1,a.out.2];rfl,(Ext.refl w).drewN _⟩
theorem LD{c:UInt8}{t:List UInt8}(h:c≠UInt8.ofNat n):((((({ data:=(c :: t).toArray }:ByteArray)[0]'(by show 0<(c :: t).toArray.size;simp)).toNat:Nat):Int) == (n:Int))=false:=by
 show((c.toNat:Int) == (n:Int))=false;have h1:c.toNat≠n:=fun e=>h (by rw[<-e];simp);simp;omega
theorem d49{d:UInt8}:decide (d :: dt≠[49])=(!d == 49 || !dt.isEmpty):=by
 by_cases h1:d=49 <;> cases dt <;> simp[h1]
theorem AP:Agg prog 167 3:=⟨by kernel_rfl,by kernel_rfl⟩
def BB(neg:Bool)(num den:List UInt8):List Value:=[.bool neg,.string ⟨num.toArray⟩,.string ⟨den.toArray⟩]
theorem Cb(neg:Bool)(b a:List UInt8):∀ v∈BB neg b a,v.oneCell'=true:=by
 intro v c;simp only[BB,fS,ia,jL]at c;rcases c with rfl|rfl|rfl <;> rfl
theorem Qi(s:ByteArray)(w:World)(hs:s.size<=1000000) :
 Calls prog 101 #[.string s] w fun e w'=>e = .returned (.tuple #[.agg (BB (Cr (Ad s)).1.1 (Cr (Ad s)).1.2.1 (Cr (Ad s)).1.2.2).toArray,.bool (Cr (Ad s)).2])/\Ext w w':=by
 obtain⟨a,o⟩:∃ b:Bool,decide ((Ad s).head?=some 45)=b:=⟨_,rfl⟩;have K:=JN s;rw[o]at K;have a1:(if(Ad s).head?=some 45 then(Ad s).tail else Ad s)=if a=true then(Ad s).tail else Ad s:=by rw[<-o];by_cases h:(Ad s).head?=some 45 <;> simp[h]
 rw[a1]at K;obtain⟨P,W⟩:∃ P,Cr (Ad s)=P:=⟨_,rfl⟩;rw[W];unfold Cr at W;simp only[o]at W;have a2:(if a=true then(Ad s).tail else Ad s).length<=1000000:=by
  have:=Al s;split
  · simp;omega
  · omega
 clear a1 o;generalize (if a=true then(Ad s).tail else Ad s)=M at *
 have Z:=fun(wx:World)=>qh (Fq ⟨M.toArray⟩ wx (by show M.toArray.size<=_;simpa using a2));simp only[BS]at Z;have a5:(suf M).length<=1000000:=by have:=fV List.length (EZ M);rw[ff]at this;omega
 generalize pre M=v at *
 generalize suf M=r2 at *
 have m:=qh W;clear W a2
 go_enter func101,ntmps101
 go_upto_region 2 with(fail)
 refine I6 ?_;intro w0 R O Q a6;have hR:Arr w0 w.heap.size 167 (BB false [] []):=O;have hF:Arr w0 (w.heap.size+1) 167 (BB false [] []):=Q;clear O Q a6
 go_wp2_with fail
 refine(K w0).mono ?_;rintro e w1 ⟨rfl,rfl⟩
 go_upto_region 4 with(refine C4 rfl rfl [.bool a] (BB a [] []) (by kernel_rfl) rfl rfl rfl hF (by simp[BB]) (by simp[Value.oneCell']) rfl ?_;intro w2 T H)
 have S:=R.grownR H (by omega);have X:=hR.kept H (by simp);clear R hR hF H
 go_wp2_with fail
 refine(Z w2).out.mono ?_;rintro e w3 ⟨rfl,z⟩;have U:=T.ext z
 go_upto_region 5 with(refine C4 rfl rfl [.string ⟨v.toArray⟩] (BB a v []) (by kernel_rfl) rfl rfl rfl U (by simp[BB]) (by simp[Value.oneCell']) rfl ?_;intro w4 q I)
 have k:=(S.trans z).grownR I (by omega);have l:=(X.ext z).kept I (by simp);clear S z U T X I;have c0:=q.c 0 rfl;have c1:=q.c 1 rfl;have c2:=q.c 2 rfl;by_cases h48:v=[48]
 · subst h48;cases a with
   | true =>
    have j:Hid (((true,[48],[]),false)=P):=by rw[<-m.out,fE rfl];exact qh (by simp)
    go_wp2_with(refine Aa (vs:=BB true [48] []) rfl rfl rfl rfl rfl AP l rfl (Cb _ _ _) ?_;intro w9 f g)
    refine eZ (Ap rfl AP rfl rfl f) rfl ⟨?_,k.grownR g (by omega)⟩;rw[<-j.out];rfl
   | false =>
    have j:Hid (((false,[48],[]),r2.isEmpty)=P):=by rw[<-m.out,fE rfl];exact qh (by cases r2 <;> rfl)
    go_wp2_with(refine Aa (vs:=BB false [48] []) rfl rfl rfl rfl rfl AP l rfl (Cb _ _ _) ?_;intro w9 f g)
    refine eZ (Ap rfl AP rfl rfl f) rfl ⟨?_,k.grownR g (by omega)⟩;rw[<-j.out];rfl
 · have a7:(v == [48])=false:=by simpa using h48
   rw[fl h48]at m;by_cases h0:v=[]
   · subst h0;have j:Hid (((a,[],[]),false)=P):=by rw[<-m.out,fE (Or.inl rfl)];exact qh rfl
     go_wp2_with(refine Aa (vs:=BB a [] []) rfl rfl rfl rfl rfl AP l rfl (Cb _ _ _) ?_;intro w9 f g)
     refine eZ (Ap rfl AP rfl rfl f) rfl ⟨?_,k.grownR g (by omega)⟩;rw[<-j.out];rfl
   · obtain⟨c,p,rfl⟩:=iq h0;by_cases hc:c=48
     · subst hc;have j:Hid (((a,48 :: p,[]),false)=P):=by rw[<-m.out,fE (Or.inr (by simp))];exact qh rfl
       go_wp2_with(refine Aa (vs:=BB a (48 :: p) []) rfl rfl rfl rfl rfl AP l rfl (Cb _ _ _) ?_;intro w9 f g)
       refine eZ (Ap rfl AP rfl rfl f) rfl ⟨?_,k.grownR g (by omega)⟩;rw[<-j.out];rfl
     · rw[fl (by simp[hc])]at m;have a4:=LD (t:=p) (n:=48) hc;by_cases hr:r2=[]
       · subst hr;have j:Hid (((a,c :: p,[]),true)=P):=by rw[<-m.out,fE rfl];exact qh rfl
         go_wp2_with(refine Aa (vs:=BB a (c :: p) []) rfl rfl rfl rfl rfl AP l rfl (Cb _ _ _) ?_;intro w9 f g)
         refine eZ (Ap rfl AP rfl rfl f) rfl ⟨?_,k.grownR g (by omega)⟩;rw[<-j.out];rfl
       · obtain⟨d,E,rfl⟩:=iq hr;rw[fl (by simp)]at m;by_cases hd:d=47
         · subst hd;rw[fl (by simp)]at m;have L:Ad (({ data:=(47 :: E).toArray }:ByteArray).extract 1 (E.length+1))=E:=by
            rw[AH,BS,ij,gm,iG,kS]
           have r:=Fq (({ data:=(47 :: E).toArray }:ByteArray).extract 1 (E.length+1)) w4 (by rw[<-Al,L];simp at a5;omega);rw[L]at r;have N:=qh r;clear r L;obtain⟨y,D⟩:∃ d,pre E=d:=⟨_,rfl⟩;obtain⟨r3,a3⟩:∃ d,suf E=d:=⟨_,rfl⟩;simp only[kJ,D,a3]at m N;clear D a3
           go_wp2_with fail
           refine N.out.mono ?_;rintro e w5 ⟨rfl,A⟩;have V:=q.ext A;have Y:=l.ext A
           go_upto_region 14 with(refine C4 rfl rfl [.string ⟨y.toArray⟩] (BB a (c :: p) y) (by kernel_rfl) rfl rfl rfl V (by simp[BB]) (by simp[Value.oneCell']) rfl ?_;intro w6 F J)
           have B:=(k.trans A).grownR J (by omega);have i:=Y.kept J (by simp);clear k A V q l Y J c0 c1 c2 a4;have c0:=F.c 0 rfl;have c1:=F.c 1 rfl;have c2:=F.c 2 rfl;have d0:=i.c 0 rfl;have d1:=i.c 1 rfl;have d2:=i.c 2 rfl;have f0:=i.frozen 0;have f1:=i.frozen 1;have f2:=i.frozen 2;by_cases h3:r3=[]
           · subst h3;by_cases hd0:y=[]
             · subst hd0;have j:Hid (((a,c :: p,[]),false)=P):=by rw[<-m.out];exact qh (by simp)
               go_region
               go_wp2;refine eZ (Ap rfl AP rfl rfl (((i.set 0 _).set 1 _).set 2 _)) rfl ⟨?_,(((B.setCell (lrf _) _).setCell (lrf _) _).setCell (lrf _) _).drew⟩;rw[<-j.out];rfl
             · obtain⟨d,C,rfl⟩:=iq hd0;by_cases G:d=48
               · subst G;have a0:((((({ data:=(48 :: C).toArray }:ByteArray)[0]'(by show 0<(48 :: C).toArray.size;simp)).toNat:Nat):Int) != 48)=false:=rfl;have j:Hid (((a,c :: p,48 :: C),false)=P):=by rw[<-m.out];exact qh (by simp)
                 go_region
                 go_wp2;refine eZ (Ap rfl AP rfl rfl (((i.set 0 _).set 1 _).set 2 _)) rfl ⟨?_,(((B.setCell (lrf _) _).setCell (lrf _) _).setCell (lrf _) _).drew⟩;rw[<-j.out];rfl
               · have a0:((((({ data:=(d :: C).toArray }:ByteArray)[0]'(by show 0<(d :: C).toArray.size;simp)).toNat:Nat):Int) != 48)=true:=fV (!·) (LD (t:=C) (n:=48) G);have j:Hid (((a,c :: p,d :: C),(!d == 49 || !C.isEmpty))=P):=by rw[<-m.out];exact qh (by rw[j7];refine⟨rfl,?_⟩;rw[d49];simp[G])
                 go_region
                 go_wp2;refine eZ (Ap rfl AP rfl rfl (((i.set 0 _).set 1 _).set 2 _)) rfl ⟨?_,(((B.setCell (lrf _) _).setCell (lrf _) _).setCell (lrf _) _).drew⟩;rw[<-j.out];rfl
           · obtain⟨x,xt,rfl⟩:=iq h3;have j:Hid (((a,c :: p,y),false)=P):=by rw[<-m.out];exact qh (by simp)
             go_region
             go_wp2;refine eZ (Ap rfl AP rfl rfl (((i.set 0 _).set 1 _).set 2 _)) rfl ⟨?_,(((B.setCell (lrf _) _).setCell (lrf _) _).setCell (lrf _) _).drew⟩;rw[<-j.out];rfl
         · have a0:=LD (t:=E) (n:=47) hd;have j:Hid (((a,c :: p,[]),false)=P):=by rw[<-m.out,fE (by simp[hd])];exact qh rfl
           go_wp2_with(refine Aa (vs:=BB a (c :: p) []) rfl rfl rfl rfl rfl AP l rfl (Cb _ _ _) ?_;intro w9 f g)
           refine eZ (Ap rfl AP rfl rfl f) rfl ⟨?_,k.grownR g (by omega)⟩;rw[<-j.out];rfl
def Vq(w:World)(o:Option Rat)(e:Ending)(w':World):Prop:=∃ cs,e = .returned (.tuple #[.agg cs.toArray,.bool o.isSome])/\Ext w w'/\JJ w' cs (o.getD 0)
theorem O5(a:W.digs l)(b:l.length<=570):W.decV l<P2 2280:=by
 have h1:=W.decV_lt a;have h2:10^l.length<=16^l.length:=iM (by omega) _;have h3:16^l.length=P2 (4*l.length):=by unfold P2;rw[j9]
 have h4:P2 (4*l.length)<=P2 2280:=OO (by omega);omega
theorem E5(w:World):JJ w (Ar false none 0 0 false none 0 0) 0:=⟨false,none,0,0,none,0,0,rfl,qh rfl,Wd.nil w,Wd.nil w⟩
theorem Sb(hT:BE w)(hs:s.size<=570):Calls prog 67 #[.string s] w (Vq w (AZ (Ad s))):=by
 have an:=Qi s;have b7:(Ar false none 0 0 false none 0 0).toArray=#[.bool false,.slice none 0 0,.bool false,.slice none 0 0]:=rfl;obtain⟨⟨⟨ab,j,a⟩,ok⟩,hP⟩:∃ P,Cr (Ad s)=P:=⟨_,rfl⟩;simp only[hP]at an;have b2:(BB ab j a).toArray=#[.bool ab,.string ⟨j.toArray⟩,.string ⟨a.toArray⟩]:=rfl;rw[b2]at an;cases ok with
 | false =>
  have HQ:Hid (AZ (Ad s)=none):=qh (by unfold AZ;simp[hP]);rw[HQ.out];clear hP
  go_enter func67,ntmps67
  go_upto_region 1 with(fail)
  refine AK ?_;intro w0 au ae aQ;have hR:Arr w0 w.heap.size 125 (Ar false none 0 0 false none 0 0):=ae;clear ae aQ
  go_wp2_with fail
  refine(an w0 (by omega)).mono ?_;rintro e w1 ⟨rfl,V⟩;have hY:=Arr.new w1 167 (BB false [] [])
  go_upto_region 2 with(refine Aa (vs:=BB ab j a) rfl rfl rfl rfl rfl AP hY rfl (Cb _ _ _) ?_;intro w2 b6 az)
  have a4:Ext w1 w2:=((Ext.refl w1).alloc _).grownR az (lrf _);have aw:=(hR.ext V).ext a4;have av:=(au.trans V).trans a4
  go_wp2_with(refine Aa (vs:=Ar false none 0 0 false none 0 0) rfl rfl rfl rfl rfl AJ aw rfl (Ao _ _ _ _ _ _ _ _) ?_;intro w9 af Z)
  exact eZ (Ap rfl AJ rfl rfl af) rfl ⟨_,rfl,av.grownR Z (lrf _),E5 _⟩
 | true =>
  have hS:=KM hP;have hl:j.length<=570/\a.length<=570:=by
   have h1:=fV List.length hS.eq;rw[Al]at h1;simp only[ff]at h1;refine⟨by omega,?_⟩;by_cases h:a=[]
   · simp[h]
   · rw[fl h]at h1;simp at h1;omega
  have aX:=fun wx=>qh (KE (s:=⟨j.toArray⟩) (w:=wx) (by rw[BS];exact hS.dn) (by show j.toArray.size<=_;simpa using hl.1));have aO:=fun wx=>qh (KE (s:=⟨a.toArray⟩) (w:=wx) (by rw[BS];exact hS.dd) (by show a.toArray.size<=_;simpa using hl.2));rw[BS]at aX aO;have aS:=qh (O5 hS.dn hl.1);have aT:=qh (O5 hS.dd hl.2);obtain⟨z,hz⟩:∃ z:Int,(if ab=true then -((W.decV j:Nat):Int)else((W.decV j:Nat):Int))=z:=⟨_,rfl⟩;have aZ:z.natAbs=W.decV j:=by rw[<-hz];split <;> omega
  obtain⟨o,HO⟩:∃ o,Hid (AZ (Ad s)=o/\o=if a=[]then some (mkRat z 1)else if z.natAbs.gcd (W.decV a)=1 then some (mkRat z (W.decV a))else none):=⟨_,qh ⟨rfl,by unfold AZ;simp[hP,hz]⟩⟩;rw[HO.out.1]
  have aU:Hid (a≠[]->W.decV a≠0/\W.decV a≠1):=qh fun hd=>by
   have ay:Lib.decDigits (W.decV a)=a:=W.dec_of_digs hS.dd hd (fun c r e hc=>by
    have:=hS.nd;rw[e,hc]at this
    simp at this)
   refine⟨fun h0 => ?_,fun h0 => ?_⟩
   · rw[h0,W.dec_zero]at ay;have:=hS.nd;rw[<-ay]at this;simp at this
   · rw[h0]at ay;have:=hS.n1;rw[<-ay]at this;exact this (by rw[Lib.decDigits];rfl)
  clear hP hS hl
  go_enter func67,ntmps67
  go_upto_region 1 with(fail)
  refine AK ?_;intro w0 au ae aQ;have hR:Arr w0 w.heap.size 125 (Ar false none 0 0 false none 0 0):=ae;clear ae aQ
  go_wp2_with fail
  refine(an w0 (by omega)).mono ?_;rintro e w1 ⟨rfl,V⟩;have hY:=Arr.new w1 167 (BB false [] [])
  go_upto_region 2 with(refine Aa (vs:=BB ab j a) rfl rfl rfl rfl rfl AP hY rfl (Cb _ _ _) ?_;intro w2 a7 az)
  have a4:Ext w1 w2:=((Ext.refl w1).alloc _).grownR az (lrf _);have aw:=(hR.ext V).ext a4;have av:=(au.trans V).trans a4;have hF:w.heap.size<w1.heap.size:=(hR.ext V).lt;clear hR au V a4 hY az an;generalize w1.heap.size=F at *
  have c0:=a7.c 0 rfl;have c1:=a7.c 1 rfl;have c2:=a7.c 2 rfl
  go_wp2_with fail
  refine(aX w2).out.mono ?_;rintro e w3 ⟨Q,H,J,I,rfl,aI,a2,aY⟩;have b3:(Aj Q H J I).toArray=#[.bool Q,.slice H J I]:=rfl;have hY:=Arr.new w3 125 (Ar false none 0 0 false none 0 0)
  go_upto_region 5 with(refine Aa (vs:=Ar Q H J I false none 0 0) rfl rfl rfl rfl rfl AJ hY rfl (Ao _ _ _ _ _ _ _ _) ?_;intro w4 a9 aW)
  have aJ:Ext w3 w4:=((Ext.refl w3).alloc _).grownR aW (lrf _);have aq:=aI.trans aJ;have ax:=aw.ext aq;have ar:=av.trans aq;have aA:=aY.ext aJ;have ai:=a7.ext aq;have hX:F<w3.heap.size:=(a7.ext aI).lt;clear aw av aI aJ aY hY aW b3 c0 c1 c2 a7 aq;generalize w3.heap.size=X at *
  have c0:=ai.c 0 rfl;have aH:=qh aZ;clear aZ;cases ab with
  | true =>
   have aa:z = -((W.decV j:Nat):Int):=by rw[<-hz];rfl
   have x0:=a9.c 0 rfl;have x1:=a9.c 1 rfl;have aN:=Td (w:=w4) (v := .agg (Aj Q H J I).toArray) ⟨Q,H,J,I,rfl,a2,aA⟩;rw[<-aa]at aN;have aV:=qh aN;have b0:=qh aa;clear aN hz aa
   go_wp2_with fail
   refine aV.out.mono ?_;rintro e b8 ⟨U,R,T,S,rfl,L,aF,aR⟩;have b4:(Aj U R T S).toArray=#[.bool U,.slice R T S]:=rfl;have aB:=a9.ext L
   go_upto_region 7 with(refine C4 rfl rfl (Aj U R T S) (Ar U R T S false none 0 0) (by kernel_rfl) rfl rfl rfl aB (by simp[Ar,Aj]) (Ai _ _ _ _) rfl ?_;intro w5 g am)
   have Y:=(ar.trans L).grownR am (by omega);have C:=(ax.ext L).kept am (by simp;omega);have aj:=(ai.ext L).kept am (by simp;omega);have a0:=aR.kept aB (BT _ _ _ _ _ _ _ _) am;clear x0 x1 c0 aV b0 ar L aR aB am ax ai a9 aA b4 a2;have c2:=aj.c 2 rfl;have x0:=g.c 0 rfl;have x1:=g.c 1 rfl;by_cases hd:a=[]
   · subst hd;have HQ:Hid (o=some (mkRat z 1)):=qh (by rw[HO.out.2,fE rfl]);have K:=qh (Pl.rat_eq_mk (q:=mkRat z 1) (n:=z) (d:=1) (by omega) (li _) rfl);have x2:=g.c 2 rfl;have x3:=g.c 3 rfl;have aM:(Ar U R T S false none 0 0).toArray=#[.bool U,.slice R T S,.bool false,.slice none 0 0]:=rfl
     go_wp2_with(refine Aa (vs:=Ar U R T S false none 0 0) rfl rfl rfl rfl rfl AJ C rfl (Ao _ _ _ _ _ _ _ _) ?_;intro w9 af Z)
     refine eZ (Ap rfl AJ rfl rfl af) rfl ?_;rw[HQ.out];refine⟨_,rfl,Y.grownR Z (lrf _),U,R,T,S,none,0,0,rfl,?_,?_,?_⟩
     · show Hid (decide ((mkRat z 1).num<0)=U);rw[K.out.1];exact aF
     · show Wd w9 R T S (mkRat z 1).num.natAbs;rw[K.out.1];exact a0.kept C (BT _ _ _ _ _ _ _ _) Z
     · show Wd w9 none 0 0 (BP (mkRat z 1)).natAbs;rw[Dw.2 K.out.2];exact Wd.nil _
   · have b1:a.isEmpty=false:=by cases a with | nil=>exact absurd rfl hd | cons _ _=>rfl
     go_wp2_with fail
     refine(aO w5).out.mono ?_;rintro e w6 ⟨s6,x,A,y,rfl,B,ad,ao⟩;have aP:s6=false:=by rw[<-ad.out];exact fw (by omega)
     subst aP;have aL:(Aj false x A y).toArray=#[.bool false,.slice x A y]:=rfl;have E:=g.ext B;have ak:=C.ext B;have M:=Y.trans B;have O:=a0.ext B;clear g C Y a0 x0 x1 c2 aj
     go_upto_region 10 with(refine C4 rfl rfl (Aj false x A y) (Ar U R T S false x A y) (by kernel_rfl) rfl rfl rfl E (by simp[Ar,Aj]) (Ai _ _ _ _) rfl ?_;intro w7 i m)
     have l:=M.grownR m (by omega);have al:=ak.kept m (by simp;omega);have p:=O.kept E (BT _ _ _ _ _ _ _ _) m;have t:=ao.kept E (BT _ _ _ _ _ _ _ _) m;clear E ak M O ao m aL;have x0:=i.c 0 rfl;have x1:=i.c 1 rfl;have x2:=i.c 2 rfl;have x3:=i.c 3 rfl;have hg:=qh (OP (hT.ext l) ⟨U,R,T,S,rfl,aF,p⟩ ⟨false,x,A,y,rfl,ad,t⟩ (by rw[aH.out];exact AO aS.out (by omega)) (AO aT.out (by omega)));rw[fJ]at hg
     go_wp2_with fail
     refine hg.out.mono ?_;rintro e w8 ⟨s8,a8,n8,c8,rfl,ag,aG,ap⟩;have aK:=qh (Kw (w:=w8) ⟨s8,a8,n8,c8,rfl,aG,ap⟩ rfl);have b5:(Aj s8 a8 n8 c8).toArray=#[.bool s8,.slice a8 n8 c8]:=rfl
     go_wp2_with fail
     refine aK.out.mono ?_;rintro e w9 ⟨rfl,ah⟩;have b:=ag.trans ah;have G:=i.ext b;have D:=al.ext b;have N:=l.trans b;have aD:=p.ext b;have aE:=t.ext b;clear i al l p t x0 x1 x2 x3 b ag ah ap;have ac:=qh (aU.out hd);by_cases h1:z.natAbs.gcd (W.decV a)=1
     · have HQ:Hid (o=some (mkRat z (W.decV a))):=qh (by rw[HO.out.2,fl hd,fE h1]);have K:=qh (Pl.rat_eq_mk (q:=mkRat z (W.decV a)) (n:=z) (d:=W.decV a) ac.out.1 h1 rfl);rw[h1];have x0:=G.c 0 rfl;have x1:=G.c 1 rfl;have x2:=G.c 2 rfl;have x3:=G.c 3 rfl;have aM:(Ar U R T S false x A y).toArray=#[.bool U,.slice R T S,.bool false,.slice x A y]:=rfl
       go_wp2_with(refine Aa (vs:=Ar U R T S false x A y) rfl rfl rfl rfl rfl AJ D rfl (Ao _ _ _ _ _ _ _ _) ?_;intro a1 k f)
       refine eZ (Ap rfl AJ rfl rfl k) rfl ?_;rw[HQ.out];refine⟨_,rfl,N.grownR f (lrf _),U,R,T,S,x,A,y,rfl,?_,?_,?_⟩
       · show Hid (decide ((mkRat z (W.decV a)).num<0)=U);rw[K.out.1];exact aF
       · show Wd a1 R T S (mkRat z (W.decV a)).num.natAbs;rw[K.out.1];exact aD.kept D (BT _ _ _ _ _ _ _ _) f
       · show Wd a1 x A y (BP (mkRat z (W.decV a))).natAbs;rw[Ly (by rw[K.out.2];exact ac.out.2),K.out.2];exact aE.kept D (BT _ _ _ _ _ _ _ _) f
     · have HQ:Hid (o=none):=qh (by rw[HO.out.2,fl hd,fl h1]);have aC:decide (((z.natAbs.gcd (W.decV a):Nat):Int)=1)=false:=fw (by omega);rw[aC];clear h1
       go_wp2_with(refine Aa (vs:=Ar false none 0 0 false none 0 0) rfl rfl rfl rfl rfl AJ D rfl (Ao _ _ _ _ _ _ _ _) ?_;intro a1 k f)
       refine eZ (Ap rfl AJ rfl rfl k) rfl ?_;rw[HQ.out];exact⟨_,rfl,N.grownR f (lrf _),E5 _⟩
  | false =>
   have aa:z=((W.decV j:Nat):Int):=by rw[<-hz];rfl
   rw[<-aa]at a2;have a0:Wd w4 H J I z.natAbs:=by rw[aH.out];exact aA
   have Y:=ar;have C:=ax;have aj:=ai;have g:=a9;clear ar ax ai a9 aA hz aa
   go_upto_region 7 with(fail)
   clear c0;have c2:=aj.c 2 rfl;have x0:=g.c 0 rfl;have x1:=g.c 1 rfl;by_cases hd:a=[]
   · subst hd;have HQ:Hid (o=some (mkRat z 1)):=qh (by rw[HO.out.2,fE rfl]);have K:=qh (Pl.rat_eq_mk (q:=mkRat z 1) (n:=z) (d:=1) (by omega) (li _) rfl);have x2:=g.c 2 rfl;have x3:=g.c 3 rfl;have aM:(Ar Q H J I false none 0 0).toArray=#[.bool Q,.slice H J I,.bool false,.slice none 0 0]:=rfl
     go_wp2_with(refine Aa (vs:=Ar Q H J I false none 0 0) rfl rfl rfl rfl rfl AJ C rfl (Ao _ _ _ _ _ _ _ _) ?_;intro w9 af Z)
     refine eZ (Ap rfl AJ rfl rfl af) rfl ?_;rw[HQ.out];refine⟨_,rfl,Y.grownR Z (lrf _),Q,H,J,I,none,0,0,rfl,?_,?_,?_⟩
     · show Hid (decide ((mkRat z 1).num<0)=Q);rw[K.out.1];exact a2
     · show Wd w9 H J I (mkRat z 1).num.natAbs;rw[K.out.1];exact a0.kept C (BT _ _ _ _ _ _ _ _) Z
     · show Wd w9 none 0 0 (BP (mkRat z 1)).natAbs;rw[Dw.2 K.out.2];exact Wd.nil _
   · have b1:a.isEmpty=false:=by cases a with | nil=>exact absurd rfl hd | cons _ _=>rfl
     go_wp2_with fail
     refine(aO w4).out.mono ?_;rintro e w6 ⟨s6,x,A,y,rfl,B,ad,ao⟩;have aP:s6=false:=by rw[<-ad.out];exact fw (by omega)
     subst aP;have aL:(Aj false x A y).toArray=#[.bool false,.slice x A y]:=rfl;have E:=g.ext B;have ak:=C.ext B;have M:=Y.trans B;have O:=a0.ext B;clear g C Y a0 x0 x1 c2 aj
     go_upto_region 10 with(refine C4 rfl rfl (Aj false x A y) (Ar Q H J I false x A y) (by kernel_rfl) rfl rfl rfl E (by simp[Ar,Aj]) (Ai _ _ _ _) rfl ?_;intro w7 i m)
     have l:=M.grownR m (by omega);have al:=ak.kept m (by simp;omega);have p:=O.kept E (BT _ _ _ _ _ _ _ _) m;have t:=ao.kept E (BT _ _ _ _ _ _ _ _) m;clear E ak M O ao m aL;have x0:=i.c 0 rfl;have x1:=i.c 1 rfl;have x2:=i.c 2 rfl;have x3:=i.c 3 rfl;have hg:=qh (OP (hT.ext l) ⟨Q,H,J,I,rfl,a2,p⟩ ⟨false,x,A,y,rfl,ad,t⟩ (by rw[aH.out];exact AO aS.out (by omega)) (AO aT.out (by omega)));rw[fJ]at hg
     go_wp2_with fail
     refine hg.out.mono ?_;rintro e w8 ⟨s8,a8,n8,c8,rfl,ag,aG,ap⟩;have aK:=qh (Kw (w:=w8) ⟨s8,a8,n8,c8,rfl,aG,ap⟩ rfl);have b5:(Aj s8 a8 n8 c8).toArray=#[.bool s8,.slice a8 n8 c8]:=rfl
     go_wp2_with fail
     refine aK.out.mono ?_;rintro e w9 ⟨rfl,ah⟩;have b:=ag.trans ah;have G:=i.ext b;have D:=al.ext b;have N:=l.trans b;have aD:=p.ext b;have aE:=t.ext b;clear i al l p t x0 x1 x2 x3 b ag ah ap;have ac:=qh (aU.out hd);by_cases h1:z.natAbs.gcd (W.decV a)=1
     · have HQ:Hid (o=some (mkRat z (W.decV a))):=qh (by rw[HO.out.2,fl hd,fE h1]);have K:=qh (Pl.rat_eq_mk (q:=mkRat z (W.decV a)) (n:=z) (d:=W.decV a) ac.out.1 h1 rfl);rw[h1];have x0:=G.c 0 rfl;have x1:=G.c 1 rfl;have x2:=G.c 2 rfl;have x3:=G.c 3 rfl;have aM:(Ar Q H J I false x A y).toArray=#[.bool Q,.slice H J I,.bool false,.slice x A y]:=rfl
       go_wp2_with(refine Aa (vs:=Ar Q H J I false x A y) rfl rfl rfl rfl rfl AJ D rfl (Ao _ _ _ _ _ _ _ _) ?_;intro a1 k f)
       refine eZ (Ap rfl AJ rfl rfl k) rfl ?_;rw[HQ.out];refine⟨_,rfl,N.grownR f (lrf _),Q,H,J,I,x,A,y,rfl,?_,?_,?_⟩
       · show Hid (decide ((mkRat z (W.decV a)).num<0)=Q);rw[K.out.1];exact a2
       · show Wd a1 H J I (mkRat z (W.decV a)).num.natAbs;rw[K.out.1];exact aD.kept D (BT _ _ _ _ _ _ _ _) f
       · show Wd a1 x A y (BP (mkRat z (W.decV a))).natAbs;rw[Ly (by rw[K.out.2];exact ac.out.2),K.out.2];exact aE.kept D (BT _ _ _ _ _ _ _ _) f
     · have HQ:Hid (o=none):=qh (by rw[HO.out.2,fl hd,fl h1]);have aC:decide (((z.natAbs.gcd (W.decV a):Nat):Int)=1)=false:=fw (by omega);rw[aC];clear h1
       go_wp2_with(refine Aa (vs:=Ar false none 0 0 false none 0 0) rfl rfl rfl rfl rfl AJ D rfl (Ao _ _ _ _ _ _ _ _) ?_;intro a1 k f)
       refine eZ (Ap rfl AJ rfl rfl k) rfl ?_;rw[HQ.out];exact⟨_,rfl,N.grownR f (lrf _),E5 _⟩
def An(l:List Int):List Int:=l ++ List.replicate (6-l.length) 0
theorem AV{l:List Int}(h:l.length<=6):(An l).length=6:=by simp[An];omega
theorem Jq{l k:List Int}(h:l.length=k.length)(e:An l=An k):l=k:=by
 have:=fV (List.take l.length) e;simpa[An,h]using this
theorem GT(l:List Int):(An l).take l.length=l:=by simp[An]
def As:List Value:=List.replicate 6 (.int .i64 0)
def Ay(vars:Int)(t:List UInt8×List Int):Option Pl.Tm :=
 match AZ t.1 with
 | none=>none
 | some q=>if q≠0/\(t.2.length:Int)=vars/\∀ e∈t.2,0<=e/\e<=1048576 then some (An t.2,q)else none
def Vr(w:World)(o:Option Pl.Tm)(e:Ending)(w':World):Prop:=∃ row,e = .returned (.tuple #[.agg row.toArray,.bool o.isSome])/\Ext w w'/\C6 w' row (o.getD ([0,0,0,0,0,0],0))
theorem DB(w:World):C6 w (AN [0,0,0,0,0,0] false none 0 0 none 0 0) ([0,0,0,0,0,0],0):=⟨false,none,0,0,none,0,0,rfl,rfl,E5 w⟩
theorem CD{e:List Int}{s:Bool}{d:Nat}:∀ v∈AN e s a n c b m d,∀ i,v ≠ .int .u64 i:=by
 intro v f i;rcases fo.1 f with f|f
 · obtain⟨x,_,rfl⟩:=fh.1 f;simp
 · exact BT _ _ _ _ _ _ _ _ v f i
theorem EL(e:List Int)(s:Bool)(a b:Option Addr)(n c m d:Nat):(AN e s a n c b m d).length=e.length+4:=by simp[AN,Ar,Aj]
theorem Sc:AR prog 3 (.int .i64 0) 8:=by unfold AR;kernel_rfl
def ze:List Int:=[0,0,0,0,0,0]
theorem JO(hT:BE w)(hs:s.size<=570)(hx:SlI w a n c xs)(hv:vars<=6) :
 Calls prog 85 #[.int .i64 vars,.agg #[.string s,.slice a n c]] w (Vr w (Ay vars (Ad s,xs))):=by
 have aj:=fun(wx:World) (hE:Ext w wx)=>qh (Sb (hT.ext hE) hs);have aT:(AN ze false none 0 0 none 0 0).toArray=#[.int .i64 0,.int .i64 0,.int .i64 0,.int .i64 0,.int .i64 0,.int .i64 0,.bool false,.slice none 0 0,.bool false,.slice none 0 0]:=rfl;have I:=hx.len;obtain⟨o,ho⟩:∃ o,AZ (Ad s)=o:=⟨_,rfl⟩;obtain⟨r,hr⟩:∃ r,Ay vars (Ad s,xs)=r:=⟨_,rfl⟩;rw[hr];rw[ho]at aj;unfold Ay at hr;simp only[ho]at hr;clear ho;have J:=qh hr;clear hr
 go_enter func85,ntmps85
 go_upto_region 1 with(fail)
 refine I6 ?_;intro w0 Z W ab aM;have hR:Arr w0 (w.heap.size+1) 135 (AN ze false none 0 0 none 0 0):=ab;have t0:=W.c 0 rfl;have t1:=W.c 1 rfl;clear W ab aM
 go_wp2_with fail
 refine(aj w0 Z).out.mono ?_;rintro e w1 ⟨_,rfl,a0,s1,f,t,d,g,p,j,rfl,U,ak,ap⟩;have a8:(Ar s1 f t d false g p j).toArray=#[.bool s1,.slice f t d,.bool false,.slice g p j]:=rfl;have hY:=Arr.new w1 125 (Ar false none 0 0 false none 0 0)
 go_upto_region 2 with(refine Aa (vs:=Ar s1 f t d false g p j) rfl rfl rfl rfl rfl AJ hY rfl (Ao _ _ _ _ _ _ _ _) ?_;intro w2 C ag)
 have L:Ext w1 w2:=((Ext.refl w1).alloc _).grownR ag (lrf _);have y:=a0.trans L;have a3:=hR.ext y;have u0:=y.cell t0;have u1:=y.cell t1;have a2:=Z.trans y;have hX:w.heap.size+1<w1.heap.size:=(hR.ext a0).lt;have P:=ak.ext L;have Q:=ap.ext L;clear hR t0 t1 Z a0 L y ak ap hY ag a8;generalize w1.heap.size=X at *
 cases o with
 | none =>
  simp only at J
  go_wp2_with(refine Aa (vs:=AN ze false none 0 0 none 0 0) rfl rfl rfl rfl rfl AW a3 rfl BR ?_;intro w9 l m)
  refine eZ (Ap rfl AW rfl rfl l) rfl ?_;rw[<-J.out];exact⟨_,rfl,a2.grownR m (by omega),DB _⟩
 | some q =>
  simp only[fC]at J U P Q;have x0:=C.c 0 rfl;have x1:=C.c 1 rfl;have x2:=C.c 2 rfl;have x3:=C.c 3 rfl;have ah:=qh (NW (w:=w2) (v := .agg #[.bool s1,.slice f t d,.bool false,.slice g p j]) (q:=q) ⟨Ar s1 f t d false g p j,rfl,s1,f,t,d,g,p,j,rfl,U,P,Q⟩ rfl)
  go_wp2_with fail
  refine ah.out.mono ?_;rintro e w3 ⟨rfl,z⟩;have B:=a3.ext z;have a5:=C.ext z;have aO:=z.cell u0;have av:=z.cell u1;have b:=a2.trans z;have al:=P.ext z;have aq:=Q.ext z;clear a3 C u0 u1 a2 P Q x0 x1 x2 x3 z ah;by_cases F:q=0
  · rw[gl F];have R:Hid (none=r):=qh (by rw[<-J.out,fl (fun h=>h.1 F)]);clear F J
    go_wp2_with(refine Aa (vs:=AN ze false none 0 0 none 0 0) rfl rfl rfl rfl rfl AW B rfl BR ?_;intro w9 l m)
    refine eZ (Ap rfl AW rfl rfl l) rfl ?_;rw[<-R.out];exact⟨_,rfl,b.grownR m (by omega),DB _⟩
  · rw[fw F];have aB:=qh F;clear F;by_cases a9:(n:Int)=vars
    · have aa:=hx.ext b;go_wp2
      go_loop[34] (fun iv=>∃ k:Nat,iv = .int .i64 k/\k<=n/\Hid (∀ i,i<k->0<=xs.getD i 0/\xs.getD i 0<=1048576)) (fun iv=>n-(intOf iv).toNat)
      case atStart=>exact⟨0,rfl,f8 _,qh (fun i hi=>absurd hi (by omega))⟩
      case round =>
       obtain⟨k,rfl,hk,HK⟩:=hrel;by_cases ai:k<n
       · obtain⟨b',aU,rfl,hc⟩:=aa.at ai;have d:=hc k ai;have HM:Hid (xs.getD k 0∈xs):=qh (by simp[show k<xs.length by omega]);clear hc;generalize ao:xs.getD k 0=x at *
         have aC:=qh ao;clear ao;by_cases N:0<=x/\x<=1048576
         · obtain⟨h1,h2⟩:=N;go_wp2;go_round
           case rel =>
            refine⟨k+1,by go_num,by omega,qh fun i hi => ?_⟩;by_cases aF:i=k
            · subst aF;rw[aC.out];exact⟨h1,h2⟩
            · exact HK.out i (by omega)
           case measure=>simp[intOf];omega
         · have R:Hid (none=r):=qh (by rw[<-J.out,fl (fun h=>N (h.2.2 x HM.out))]);by_cases aQ:x<0
           · clear N
             go_wp2_with(refine Aa (vs:=AN ze false none 0 0 none 0 0) rfl rfl rfl rfl rfl AW B rfl BR ?_;intro w9 l m)
             refine eZ (Ap rfl AW rfl rfl l) rfl ?_;rw[<-R.out];exact⟨_,rfl,b.grownR m (by omega),DB _⟩
           · have aP:1048576<x:=by omega
             clear N
             go_wp2_with(refine Aa (vs:=AN ze false none 0 0 none 0 0) rfl rfl rfl rfl rfl AW B rfl BR ?_;intro w9 l m)
             refine eZ (Ap rfl AW rfl rfl l) rfl ?_;rw[<-R.out];exact⟨_,rfl,b.grownR m (by omega),DB _⟩
       · have aH:k=n:=by omega
         subst aH
         have R:Hid (some (An xs,q)=r):=qh (by
          have aw:∀ e∈xs,0<=e/\e<=1048576:=fun e he => ?_
          · rw[<-J.out,fE ⟨aB.out,by rw[I];exact a9,aw⟩]
          obtain⟨i,hi,rfl⟩:=iw.1 he;have:=HK.out i (by omega);rw[gqq,eQ hi]at this
          exact this)
         clear J HK
         go_upto_region 11 with(fail)
         refine AK ?_;intro w4 A D aN;have D:Arr w4 w3.heap.size 135 (AN ze false none 0 0 none 0 0):=D;have ac:=B.ext A;have H:=a5.ext A;have u1:=A.cell av;have S:=b.trans A;have am:=al.ext A;have ar:=aq.ext A;have ax:=aa.ext A;have aS:X<w3.heap.size:=a5.lt;clear aN B a5 av aO b al aq aa A;generalize w3.heap.size=Y at *
         have x0:=H.c 0 rfl;have x1:=H.c 1 rfl;have x2:=H.c 2 rfl;have x3:=H.c 3 rfl;have a8:(Ar s1 f t d false g p j).toArray=#[.bool s1,.slice f t d,.bool false,.slice g p j]:=rfl
         go_upto_region 12 with(refine C4 rfl rfl (Ar s1 f t d false g p j) (AN ze s1 f t d g p j) (by kernel_rfl) rfl rfl rfl D (by simp[AN,Ar,Aj,ze]) (Ao _ _ _ _ _ _ _ _) rfl ?_;intro K ae E)
         have G:=S.grownR E (by omega);have ad:=ac.kept E (by simp;omega);have an:=am.kept D CD E;have au:=ar.kept D CD E;have hu:K.cell? ⟨w.heap.size,1,none⟩=some (.slice a k c):=by
          rw[ir (w:=w4) (E.block _ (gF w4 _ u1) (by simp;omega)),u1]
         have ay:=hx.ext G;clear am ar ac S E u1 x0 x1 x2 x3 H D a8 ax
         go_still_tail 4,(by kernel_rfl)
         change wpList _ _ _ _ _ K.drew;have aE:Arr K.drew (w.heap.size+1) 135 (AN ze false none 0 0 none 0 0):=ad;have a6:Arr K.drew Y 135 (AN ze s1 f t d g p j):=ae;have T:Ext w K.drew:=G.drew;have aI:Wd K.drew f t d q.num.natAbs:=an.ext (Ext.refl K).drew;have aK:Wd K.drew g p j (BP q).natAbs:=au.ext (Ext.refl K).drew;clear ad ae G an au hu ay;generalize K.drew=w6 at *
         have az:=hx.ext T;have aG:k<=6:=by omega
         have HZ:Hid ((AN ze s1 f t d g p j).take 0 ++ xs.map (Value.int .i64) ++ (AN ze s1 f t d g p j).drop (0+k)=AN (An xs) s1 f t d g p j):=by
          show _=_;have hz:ze=List.replicate 6 0:=rfl;rw[gZ,iI,fP];unfold AN An;rw[hz,jo,fM,jo,List.drop_append,List.drop_replicate,I,List.length_replicate,show k-6=0 by omega,gm,fZ]
         have O:(An xs).length=6:=AV (by omega);have V:Agg prog 135 (AN (An xs) s1 f t d g p j).length:=by rw[EL,O];exact AW
         have HL:Hid ((AN ze false none 0 0 none 0 0).length=(AN (An xs) s1 f t d g p j).length):=qh (by rw[EL,EL,O];rfl);have aA:=qh O;have aR:=qh I;clear O I a9
         go_wp2_with(first
          | (refine Rt (sT:=35) rfl rfl underlying35 Sc rfl rfl a6 az aG (by rw[EL];simp[ze];omega) (BN _) ?_;intro w7 af M;rw[HZ.out]at af;have a4:=aE.kept M (by simp;omega))
          | (refine CK rfl rfl V rfl af ?_)
          | (refine Aa rfl rfl rfl rfl rfl V a4 HL.out BR ?_;intro w8 aD a7))
         have aJ:=aI.kept a6 CD M;have aL:=aK.kept a6 CD M;refine eZ (Ap rfl V rfl rfl aD) rfl ?_;rw[<-R.out];exact⟨_,rfl,(T.grownR M (by omega)).grownR a7 (by omega),s1,f,t,d,g,p,j,rfl,aA.out,s1,f,t,d,g,p,j,rfl,U,aJ.kept a4 CD a7,aL.kept a4 CD a7⟩
    · have R:Hid (none=r):=qh (by rw[<-J.out,fl (fun h=>a9 (by rw[<-h.2.1,I]))]);clear J
      go_wp2_with(refine Aa (vs:=AN ze false none 0 0 none 0 0) rfl rfl rfl rfl rfl AW B rfl BR ?_;intro w9 l m)
      refine eZ (Ap rfl AW rfl rfl l) rfl ?_;rw[<-R.out];exact⟨_,rfl,b.grownR m (by omega),DB _⟩
def NoU(w:World)(g:Nat):Prop:=∀ j i,w.cell? ⟨g,j,none⟩≠some (.int .u64 i)
def nuR(rows:List (List Value)):Prop:=∀ r∈rows,∀ v∈r,∀ i,v ≠ .int .u64 i
theorem Arr.noU(h:Arr w g t cs)(a:∀ v∈cs,∀ i,v ≠ .int .u64 i):NoU w g:=by
 intro j i e;have h4:w.cell? ⟨g,j,none⟩=cs[j]?:=by
  unfold Arr at h;simp[World.cell?,h]
 rw[h4]at e;exact a _ (gT e) _ rfl
theorem NoU.ext(h:NoU w g)(a:g<w.heap.size)(e:Ext w w'):NoU w' g:=by
 intro j i;rw[ir (w:=w) (e.block (k:=g) a)];exact h j i
theorem NoU.kept(h:NoU w g)(a:g<w.heap.size)(c:w.grownBy w' row)(b:some g≠row):NoU w' g:=by
 intro j i;rw[ir (w:=w) (c.block g a b)];exact h j i
theorem Wd.keptU{x:Nat}(h:Wd w a n c x)(d:NoU w g)(f:w.grownBy w' (some g)):Wd w' a n c x:=by
 obtain⟨i,h1,h2⟩:=h;refine⟨i,?_,h2⟩;rcases fj n with h0|h0
 · subst h0;exact⟨Sl.len h1,Sl.cap h1,Sl.max h1,fun h=>absurd h (l9 _)⟩
 · refine h1.kept f (Or.inr fun he => ?_);obtain⟨b,o,rfl,e⟩:=h1.at (j:=0) h0;simp only[blk,i8,fc]at he;subst he;exact d _ _ (e 0 h0)
def Fc(w:World)(base:Nat)(e:TypeId)(k g n c:Nat)(rows:List (List Value)):Prop:=AE w base e k (some ⟨g,0,none⟩) n c rows/\NoU w g
section
variable {w w':World} {base:Nat} {e:TypeId} {k g n c:Nat} {rows:List (List Value)}
theorem Fc.lt(h:Fc w base e k g n c rows):base<=g/\g<w.heap.size:=h.1.lt rfl
theorem Fc.ext(h:Fc w base e k g n c rows)(x:Ext w w'):Fc w' base e k g n c rows:=⟨h.1.ext x,h.2.ext h.lt.2 x⟩
theorem Fc.kept{row:Option Nat}(h:Fc w base e k g n c rows)(b:w.grownBy w' row)(a:some g≠row):Fc w' base e k g n c rows:=⟨h.1.kept b (Or.inr a),h.2.kept h.lt.2 b a⟩
theorem Fc.nu(o:0<k)(h:Fc w base e k g n c rows):nuR rows:=by
 have f:=h.1.slk o;intro r l v s i;obtain⟨p,hp,rfl⟩:=iw.1 l;obtain⟨q,j,rfl⟩:=iw.1 s;have a:p<n:=by rw[<-f.len];exact hp
 have d:q<k:=by rw[<-f.wid _ l];exact j
 obtain⟨b,t,e,m⟩:=f.rd (by omega);simp only[fc,gV,iL]at e;obtain⟨rfl,rfl⟩:=e;have h1:=m p a q d;have h2:(rows.getD p []).getD q undef=(rows[p])[q]:=by simp[hp,j]
 rw[h2]at h1;intro he;rw[he]at h1;exact h.2 _ _ h1
end
section
variable {P:Program} {w:World}
theorem Sd{bytes:Nat} 
 (U:P.underlying t=some (.slice e)) (a:Bu P e zs k bytes) (f:Fc w base e k g n c rows) (s:SlK w k (some ad) m cx news)
 (h1:∀ r∈news,∀ u∈r,u.oneCell'=true) (N:nuR news) (v:n+m<=c) (x:(n+m)*bytes<=140737488355328) (C:base<=w.heap.size) :
 ∃ K,(Builtin.append_ #[t,t] ty #[.slice (some ⟨g,0,none⟩) n c,.slice (some ad) m cx]).run P w = .ok (.slice (some ⟨g,0,none⟩) (n+m) c) K/\Fc K base e k g (n+m) c (rows ++ news)/\w.grownBy K (some g):=by
 have T:=(f.1.slk a.2.2).max;obtain⟨a',c',K,B,h2,h3,h4⟩:=Jo (P:=P) (ty:=ty) U a f.1 s h1 (by omega) x C;obtain⟨i,Y,hz,d,W⟩:=a.parts;have R:=a.2.2;have z:=Dx news s.wid;rw[s.len]at z;have y:∀ j u,news.flatten[j]?=some u->w.cell? (ad.add j)=some u:=by
  intro j u hu;have A:j<news.flatten.length:=by
   rcases fL j news.flatten.length with h|h
   · exact h
   · simp[fi h]at hu
  rw[z]at A;have M:0<m:=by rcases fj m with h | h;(rw[h,ic]at A;omega);exact h
  obtain⟨b,o,h,X⟩:=s.rd M;injection h with h;subst h;have G:j/k<m:=(gG R).2 A;have I:j%k<k:=fN _ R;have H:j=j/k*k+j%k:=by rw[f9];exact(fY j k).symm
  have h2:=X (j/k) G (j%k) I;have h3:=EG news s.wid (j/k) (j%k) I;rw[<-H,hu]at h3;have S:j/k<news.length:=by rw[s.len];exact G
  rw[eQ S,jF]at h3;have h4:(news.getD (j/k) []).getD (j%k) undef=u:=by
   rw[gqq (l:=news),eQ S,fC,gqq,<-h3];rfl
  rw[h4,i7,<-H]at h2;rw[<-h2];unfold Addr.add;by_cases h0:j=0 <;> simp[h0]
 rcases f.1.2.2 with⟨J,_⟩|⟨g',V,E,J,hb,Q,Z,hm,hs,a0⟩
 · simp at J
 simp only[eY,fc,gV,iL,kX]at J;obtain⟨rfl,rfl⟩:=J;have L:∀ j,j<news.flatten.length->n*k+j<E.size:=by
  intro j A;rw[z]at A;have:(n+m)*k<=c*k:=eS k v;rw[gA]at this;omega
 have F:∀ j,j<news.flatten.length->(w.cell? ⟨g,n*k+j,none⟩).isSome=true:=by
  intro j A;rw[lX w g _ E e (0,0) Q,kM (L j A)];rfl
 have D:=run_append_room_cells (P:=P) (w:=w) t ty e i U Y g 0 n c ad m cx news.flatten (by rw[z,d]) y (by intro u hu;obtain⟨r,O,hu⟩:=kc.1 hu;exact h1 r O u hu) v (by rw[d,fP];exact F) (by intro j A;simp[World.frozen?,Q]);rw[B,d,fP]at D;simp only[Result.ok.injEq,eY,kX]at D;obtain⟨⟨rfl,rfl⟩,rfl⟩:=D;refine⟨_,B,⟨h2,?_⟩,h3⟩;intro j q he;by_cases A:n*k<=j/\j<n*k+news.flatten.length
 · obtain⟨p,rfl⟩:∃ p,j=n*k+p:=⟨j-n*k,by omega⟩;have hp:p<news.flatten.length:=by omega
   rw[World.cell?_setCells_in g news.flatten (n*k) w F p hp]at he;simp only[fc]at he;obtain⟨r,O,hu⟩:=kc.1 (fu hp);exact N r O _ hu q he
 · rw[World.cell?_setCells_out g news.flatten (n*k) w ⟨g,j,none⟩ (fun _ _=>by simp only;omega)]at he;exact f.2 j q he
theorem O6{s:Operand}(q:o.guard=none)
 (C:o.op = .call { callee := .builtin .append,args:=#[s,x],argTypes:=#[t,t] })
 {e:TypeId} {zs:List Value} {k bytes base:Nat} {g n c:Nat} {rows:List (List Value)} {z:Addr} {m A:Nat} {news:List (List Value)}
 (E:P.underlying t=some (.slice e)) (d:Bu P e zs k bytes) (D:f.eval s = .slice (some ⟨g,0,none⟩) n c) (j:Fc w base e k g n c rows) (F:f.eval x = .slice (some z) m A) (y:SlK w k (some z) m A news)
 (h1:∀ r∈news,∀ u∈r,u.oneCell'=true) (v:nuR news) (i:n+m<=c) (a:(n+m)*bytes<=140737488355328) (b:base<=w.heap.size)
 (h:∀ p,Fc p base e k g (n+m) c (rows ++ news)->w.grownBy p (some g)->wpList P ops Q rest (f.put o.dst (.slice (some ⟨g,0,none⟩) (n+m) c)) p) :
 wpList P ops Q (o :: rest) f w:=by
 refine gu q fun _ B => ?_;obtain⟨p,l,h2,h3⟩:=Sd (P:=P) (ty:=o.type) E d j y h1 v i a b;unfold Oper.wp execOp;simp only[C,resolve,invoke,builtin,fq,fO,eX,iB,gM,ix,D,F,l];exact B _ _ (h p h2 h3)
theorem AE.noU(h:AE w base e k (some ⟨g,0,none⟩) n n rows)(l:nuR rows):NoU w g:=by
 rcases h.2.2 with⟨b,_⟩|⟨q,d,a,b,s,f,m,v,p,c⟩
 · simp at b
 simp only[eY,fc,gV,iL,kX]at b;obtain⟨rfl,rfl⟩:=b;intro j i he;rw[lX w g _ a e (0,0) f]at he;have t:j<a.size:=(gr.1 he).1;have h2:a.toList=rows.flatten:=by rw[<-c,eR (by simp[p])]
 have h3:rows.flatten[j]?=some (.int .u64 i):=by rw[<-h2];simpa using he
 obtain⟨r,o,hu⟩:=kc.1 (gT h3);exact l r o _ hu i rfl
theorem Tt{l c:Operand}(H:o.guard=none)(x:o.op=Op.makeSlice t l c)
 {e:TypeId} {zs:List Value} {k bytes n:Nat} (A:P.underlying t=some (.slice e)) (a:Bu P e zs k bytes) (y:∀ v∈zs,∀ i,v ≠ .int .u64 i) (I:f.eval l = .int .i64 0) (G:f.eval c = .int .i64 n)
 (F:bytes*n<=281474976710656) (h63:n<=maxLen)
 (D:∀ j,Fc j w.heap.size e k w.heap.size 0 n []->Ext w j->wpList P ops Q rest (f.put o.dst (.slice (some ⟨w.heap.size,0,none⟩) 0 n)) j) :
 wpList P ops Q (o :: rest) f w:=by
 refine gu H fun K q => ?_;obtain⟨i,z,B,b,p⟩:=a.parts;obtain⟨j,g,h2,h3⟩:=run_make_own (P:=P) w w.heap.size t e i (.agg zs.toArray) k A z B b .i64 .i64 n (by rw[p];exact F) h63 (lrf _);have m:(n:Int)<=9223372036854775807:=by
  have h:=h63;simp[maxLen]at h;omega
 have s:(i.bytes:Int)*(n:Int)<=281474976710656:=by
  rw[p];have h:((bytes*n:Nat):Int)<=281474976710656:=by omega
  rwa[fH]at h
 have d:=run_make (P:=P) w t e i (.agg zs.toArray) A z B .i64 .i64 0 n (Int.le_refl _) (by omega) s m;simp only[Int.toNat_zero,jA]at d;rw[g]at d;simp only[Result.ok.injEq,kX]at d;have h4:(Value.agg zs.toArray).cells=zs.toArray:=rfl;have C:Arr j w.heap.size e (List.replicate n zs).flatten:=by
  have h5:=Qg (n:=n) a.2.1 a.2.2;rw[d,b,h4];unfold Arr;rw[<-h5];exact ji w _
 have E:NoU j w.heap.size:=C.noU (fun v J i=>by
  obtain⟨r,d,hu⟩:=kc.1 J;rw[(gQ.1 d).2]at hu
  exact y v hu i)
 unfold Oper.wp execOp;simp only[x,fq,fO,eX,I,G,g,Oper.upon];exact q _ _ (D j ⟨⟨(fun r d=>by cases d),h2⟩,E⟩ ((Ext.refl w).grown h3 (by simp)))
end
abbrev Tx:=List UInt8×List Int
def tm0:Tx:=([],[])
def Se(w:World)(row:List Value)(t:Tx):Prop:=∃ s a n c,row=[.string s,.slice a n c]/\Ad s=t.1/\SlI w a n c t.2
theorem Se.ext{w b:World}{row:List Value}{t:Tx}(h:Se w row t)(e:Ext w b):Se b row t:=by
 obtain⟨s,a,n,c,h1,h2,h3⟩:=h;exact⟨s,a,n,c,h1,h2,h3.ext e⟩
def CS(w:World)(a:Option Addr)(n c:Nat)(ts:List Tx):Prop:=∃ rows,SlK w 2 a n c rows/\ts.length=n/\∀ i,i<n->Se w (rows.getD i []) (ts.getD i tm0)
theorem CS.ext{w d:World}{a:Option Addr}{n c:Nat}{ts:List Tx}(h:CS w a n c ts)(e:Ext w d):CS d a n c ts:=by
 obtain⟨b,h1,h2,h3⟩:=h;exact⟨b,h1.ext e,h2,fun i f=>(h3 i f).ext e⟩
theorem CS.len{ts:List Tx}(h:CS w a n c ts):ts.length=n:=by
 obtain⟨b,h1,h2,h3⟩:=h;exact h2
theorem Gs:Agg prog 46 2:=⟨by kernel_rfl,by kernel_rfl⟩
theorem CM:Agg prog 24 2:=⟨by kernel_rfl,by kernel_rfl⟩
def tmL(s:ByteArray)(a:Option Addr)(n c:Nat):List Value:=[.string s,.slice a n c]
theorem O7(s:ByteArray)(a:Option Addr)(n c:Nat):∀ v∈tmL s a n c,v.oneCell'=true:=by
 intro v b;simp only[tmL,fS,ia,jL]at b;rcases b with rfl|rfl <;> rfl
theorem Dg{t:Tx}(h:(Ay vars t).isSome=true):(t.2.length:Int)=vars/\∀ e∈t.2,0<=e/\e<=1048576:=by
 unfold Ay at h;split at h
 · simp at h
 · split at h
   · rename_i h1;exact⟨h1.2.1,h1.2.2⟩
   · simp at h
def z6:Pl.Tm:=([0,0,0,0,0,0],0)
def okT(vars:Int)(ts:List Tx)(k:Nat):Prop:=(∀ i,i<k->(Ay vars (ts.getD i tm0)).isSome=true)/\∀ i,i+1<k->0<Pl.ordE (ts.getD i tm0).2 (ts.getD (i+1) tm0).2
open Classical in
noncomputable def rdWF (vars:Int) (ts:List Tx):Option (List Pl.Tm):=if 0<=vars/\vars<=6/\okT vars ts ts.length then some (ts.map (fun t=>(Ay vars t).getD z6))else none
def Vd(w:World)(o:Option (List Pl.Tm))(e:Ending)(w':World):Prop:=∃ a n c,e = .returned (.tuple #[.slice a n c,.bool o.isSome])/\Ext w w'/\C3 w' a n c (o.getD [])
theorem C3.nil(w:World):C3 w none 0 0 []:=⟨[],SlK.nil w 10,rfl,fun i a=>absurd a (by omega)⟩
theorem C6.keptU{w i:World}{row:List Value}{t:Pl.Tm}{g:Nat}(h:C6 w row t)(e:NoU w g)(f:w.grownBy i (some g)):C6 i row t:=by
 obtain⟨s,a,n,c,b,m,d,h1,h2,r,j,q,l,k,p,o,h3,h4,h5,h6⟩:=h;exact⟨s,a,n,c,b,m,d,h1,h2,r,j,q,l,k,p,o,h3,h4,h5.keptU e f,h6.keptU e f⟩
theorem BA{row:List Value}(h:Arr w g t row)(b:row.length=k):SlK w k (some ⟨g,0,none⟩) 1 1 [row]:=by
 refine⟨rfl,lrf _,by unfold maxLen;omega,by simpa using b,fun _=>⟨g,0,rfl,fun i c j d => ?_⟩⟩;have a:i=0:=by omega
 subst a;rw[ic,fP];rw[h.cell (by omega)];rfl
theorem MO{ts:List Tx}(hT:BE w)(h:CS w a n c ts)(hs:∀ t∈ts,t.1.length<=570)(hn:n<=4096) :
 Calls prog 56 #[.agg #[.int .i64 vars,.slice a n c]] w (Vd w (rdWF vars ts)):=by
 have HS:=qh hs;clear hs;have R:=h.len;obtain⟨b5,hS,_,hq⟩:=h;have HQ:=qh hq;clear hq;obtain⟨r,hr⟩:∃ r,rdWF vars ts=r:=⟨_,rfl⟩;rw[hr];have HR:=qh hr;clear hr;by_cases hv:0<=vars/\vars<=6
 · obtain⟨aX,aK⟩:=hv
   go_enter func56,ntmps56
   go_upto_region 1 with(fail)
   refine AK ?_;intro w0 G T ay;have u0:=T.c 0 rfl;have u1:=T.c 1 rfl;clear T ay
   go_upto_region 4 with(refine Tt rfl rfl (by kernel_rfl) FG CD rfl rfl (by omega) (by unfold maxLen;omega) ?_;intro w1 aP aE)
   have v1:=aE.cell u1;go_wp2
   go_loopw[4,24] (fun tv iv wr=>∃ (k:Nat) (rs:List (List Value)),tv = .slice (some ⟨w0.heap.size,0,none⟩) k n/\iv = .int .i64 k/\k<=n/\Ext w0 wr/\Fc wr w0.heap.size 135 10 w0.heap.size k n rs/\Hid (okT vars ts k)/\Hid (∀ i,i<k->C6 wr (rs.getD i []) ((Ay vars (ts.getD i tm0)).getD z6))) (fun _ iv _=>n-(intOf iv).toNat)
   case atStart=>exact⟨0,[],rfl,rfl,f8 _,aE,aP,qh ⟨fun i E=>absurd E (by omega),fun i E=>absurd E (by omega)⟩,qh (fun i E=>absurd E (by omega))⟩
   case round =>
    obtain⟨k,rs,rfl,rfl,hk,hE,hO,HK,HC⟩:=hrel;by_cases aq:k<n
    · have aO:=G.trans hE;have U:=hS.ext aO;obtain⟨b,aZ,rfl,a8⟩:=U.rd (by omega);obtain⟨s,ax,nx,cx,K,aw,aY⟩:=HQ.out k aq;have hY:=Arr.new wr 46 (tmL ⟨#[]⟩ none 0 0)
      go_upto_region 7 with(first
       | (refine Cq rfl rfl Gs rfl U aq ?_;rw[K])
       | (refine Aa (vs:=tmL s ax nx cx) rfl rfl rfl rfl rfl Gs hY rfl (O7 _ _ _ _) ?_;intro w2 a4 aI))
      have a5:Ext wr w2:=((Ext.refl wr).alloc _).grownR aI (lrf _);have J:=hE.trans a5;have aF:=hO.ext a5;have aB:Hid (∀ i,i<k->C6 w2 (rs.getD i []) ((Ay vars (ts.getD i tm0)).getD z6)):=qh fun i E=>(HC.out i E).ext a5;have v0:=J.cell u0;have v1:=J.cell u1;have hX:w0.heap.size<wr.heap.size:=hO.lt.2;have ab:=aY.ext (G.trans J);have aQ:=qh aw;have aW:s.size<=570:=by
       rw[<-Al,aw];exact HS.out _ (by simp[R,aq])
      clear hY aI hO HC hE a5 K aw a8 U;generalize wr.heap.size=X at *
      have y0:=a4.c 0 rfl;have y1:=a4.c 1 rfl;have av:=JO (vars:=vars) (hT.ext (G.trans J)) aW ab aK;have aN:Hid (Ay vars (Ad s,(ts.getD k tm0).2)=Ay vars (ts.getD k tm0)):=qh (by rw[aQ.out]);rw[aN.out]at av;have aD:=qh av;clear av
      go_wp2_with fail
      refine aD.out.mono ?_;rintro e w3 ⟨ba,rfl,ah,q,d,p,g,f,m,l,K,h6,ar⟩;obtain⟨o,HO⟩:∃ o,Hid (Ay vars (ts.getD k tm0)=o):=⟨_,qh rfl⟩;rw[HO.out]at h6 K ar |-;obtain⟨y,z,A,B,C,D,ag⟩:=UH h6;rw[ag]at K;have aC:Hid (C6 w3 (AN [y,z,A,B,C,D] q d p g f m l) (o.getD ([0,0,0,0,0,0],0))):=qh ⟨q,d,p,g,f,m,l,by rw[ag],h6,ar⟩;subst K;clear ag h6 ar
      have Q:(AN [y,z,A,B,C,D] q d p g f m l).toArray=#[.int .i64 y,.int .i64 z,.int .i64 A,.int .i64 B,.int .i64 C,.int .i64 D,.bool q,.slice d p g,.bool false,.slice f m l]:=rfl;have hY:=Arr.new w3 135 (AN ze false none 0 0 none 0 0)
      go_upto_region 8 with(refine Aa (vs:=AN [y,z,A,B,C,D] q d p g f m l) rfl rfl rfl rfl rfl AW hY rfl BR ?_;intro L a7 aJ)
      have ai:Ext w3 L:=((Ext.refl w3).alloc _).grownR aJ (lrf _);have H:=ah.trans ai;have F:=J.trans H;have a6:=aF.ext H;have ac:Hid (∀ i,i<k->C6 L (rs.getD i []) ((Ay vars (ts.getD i tm0)).getD z6)):=qh fun i E=>(aB.out i E).ext H;have M:Hid (C6 L (AN [y,z,A,B,C,D] q d p g f m l) (o.getD ([0,0,0,0,0,0],0))):=qh (aC.out.ext ai);have q1:=H.cell v1;have z1:=H.cell y1;have b7:X<w3.heap.size:=(a4.ext ah).lt;have aL:=qh H;clear hY aJ aF aB ah ai aC Q v0 v1 y0 y1 J a4 H aD;generalize w3.heap.size=Y at *
      cases o with
      | none =>
       have HF:Hid (r=none):=qh (by
        rw[<-HR.out];unfold rdWF;rw[fl];rintro⟨_,_,h1,_⟩;have:=h1 k (by omega);rw[HO.out]at this
        simp at this)
       go_quiet (fail)
       go_wp2
       go_ret2
       rw[HF.out];exact⟨none,0,0,rfl,(G.trans F).drewN _,C3.nil _⟩
      | some tm =>
       simp only[fC]at M;have am:=Dg (vars:=vars) (t:=ts.getD k tm0) (by rw[HO.out];rfl);have aT:=ab.len;by_cases aR:k=0
       · subst aR;have af:Hid (okT vars ts (0+1)):=qh ⟨fun i E=>by rw[show i=0 by omega,HO.out];rfl,fun i E=>absurd E (by omega)⟩
         go_quiet (fail)
         have al:Arr (L.drewN nq) Y 135 (AN [y,z,A,B,C,D] q d p g f m l):=a7;have N:=F.drewN nq;have a1:=a6.ext ((Ext.refl L).drewN nq);have ad:Hid (∀ i,i<0->C6 (L.drewN nq) (rs.getD i []) ((Ay vars (ts.getD i tm0)).getD z6)):=qh fun i E=>absurd E (by omega);have Z:Hid (C6 (L.drewN nq) (AN [y,z,A,B,C,D] q d p g f m l) tm):=qh (M.out.ext ((Ext.refl L).drewN nq));clear a7 F a6 ac M q1 z1;generalize L.drewN nq=O at *
         have ak:Arr O Y 135 (AN [y,z,A,B,C,D] q d p g f m l):=al;have I:Ext O (O.alloc (.cells (AN [y,z,A,B,C,D] q d p g f m l).toArray 135)):=(Ext.refl O).alloc _;have hA5:=a1.ext I;have a0:=BA (k:=10) (Arr.new O 135 (AN [y,z,A,B,C,D] q d p g f m l)) rfl;have Q:(AN [y,z,A,B,C,D] q d p g f m l).toArray=#[.int .i64 y,.int .i64 z,.int .i64 A,.int .i64 B,.int .i64 C,.int .i64 D,.bool q,.slice d p g,.bool false,.slice f m l]:=rfl
         have a2:w0.heap.size<=(O.alloc (.cells (AN [y,z,A,B,C,D] q d p g f m l).toArray 135)).heap.size:=(N.trans I).size;rw[Q]at hA5 a0 a2;have ae:=qh (N.trans I);have V:Hid (∀ i,i<0->C6 (O.alloc (.cells (AN [y,z,A,B,C,D] q d p g f m l).toArray 135)) (rs.getD i []) ((Ay vars (ts.getD i tm0)).getD z6)):=qh fun i E=>(ad.out i E).ext I;have W:Hid (C6 (O.alloc (.cells (AN [y,z,A,B,C,D] q d p g f m l).toArray 135)) (AN [y,z,A,B,C,D] q d p g f m l) tm):=qh (Z.out.ext I)
         have aa:Agg prog 135 (AN [y,z,A,B,C,D] q d p g f m l).length:=AW
         go_wp2_with(first
          | (refine CK rfl rfl aa rfl ak ?_;rw[Q])
          | (refine O6 rfl rfl (by kernel_rfl) FG rfl hA5 rfl a0 (by intro r hr u hu;rw[eV.1 hr]at hu;exact BR u hu) (by intro r hr u hu;rw[eV.1 hr]at hu;exact CD u hu) (by omega) (by omega) a2 ?_;intro w7 aj P))
         go_roundw
         case rel =>
          refine⟨0+1,_,rfl,by go_num,by omega,ae.out.grownR P (lrf _),aj,af,qh fun i E => ?_⟩;have au:=a1.1.len (by omega);by_cases ao:i=0
          · subst ao;rw[HO.out,fC,gqq,fF (by omega),au,iW];exact W.out.keptU hA5.2 P
          · rw[gqq,f4 (by omega),<-gqq];exact(V.out i (by omega)).keptU hA5.2 P
         case measure=>simp[intOf];omega
       · have U:=hS.ext (G.trans F);obtain⟨b2,b4,aG,a8⟩:=U.rd (by omega);simp only[fc,gV,iL]at aG;obtain⟨rfl,rfl⟩:=aG;obtain⟨j,rfl⟩:∃ j,k=j+1:=⟨k-1,by omega⟩;obtain⟨sp,ap,np,cp,az,_,a9⟩:=HQ.out j (by omega);have aH:=Dg (vars:=vars) (t:=ts.getD j tm0) (HK.out.1 j (by omega));have aU:=a9.len;have an:=a8 j (by omega) 1 (by omega);rw[az]at an;have aM:L.cell? ⟨b,aZ+j*2+1,none⟩=some (.slice ap np cp):=an;have aV:np=nx:=by omega
         subst aV;have b9:IntKind.i64.wrap (((j+1:Nat):Int)-1)=(j:Int):=by rw[show((j+1:Nat):Int)-1=(j:Int) by omega];exact eT _ (by omega)
         have S:=fun(wx:World) (hq:Ext L wx)=>qh (N0 ((a9.ext (G.trans F)).ext hq) (ab.ext ((Ext.refl _).trans (aL.out.trans hq))) (by omega) (fun x hx=>by have:=aH.2 x hx;omega) (fun x hx=>by have:=am.2 x hx;omega));have HB:=qh am;have b6:=qh a9;obtain⟨v,HV⟩:∃ v,Hid (Pl.ordE (ts.getD j tm0).2 (ts.getD (j+1) tm0).2=v):=⟨_,qh rfl⟩;rw[HV.out]at S;clear a8 an U am aH aT aU a9 az;have b8:(0:Int)<((j+1:Nat):Int):=by omega
         by_cases aA:0<v
         · have af:Hid (okT vars ts (j+1+1)):=qh ⟨fun i E=>by
            by_cases h:i=j+1
            · rw[h,HO.out];rfl
            · exact HK.out.1 i (by omega),fun i E=>by
            by_cases h:i=j
            · rw[h,HV.out];exact aA
            · exact HK.out.2 i (by omega)⟩
           go_quiet (exact jl (S _ ((Ext.refl L).drewN _)).out)
           have al:Arr (L.drewN nq) Y 135 (AN [y,z,A,B,C,D] q d p g f m l):=a7;have N:=F.drewN nq;have a1:=a6.ext ((Ext.refl L).drewN nq);have ad:Hid (∀ i,i<j+1->C6 (L.drewN nq) (rs.getD i []) ((Ay vars (ts.getD i tm0)).getD z6)):=qh fun i E=>(ac.out i E).ext ((Ext.refl L).drewN nq);have Z:Hid (C6 (L.drewN nq) (AN [y,z,A,B,C,D] q d p g f m l) tm):=qh (M.out.ext ((Ext.refl L).drewN nq));clear a7 F a6 ac M q1 z1 S aM;generalize L.drewN nq=O at *
           have ak:Arr O Y 135 (AN [y,z,A,B,C,D] q d p g f m l):=al;have I:Ext O (O.alloc (.cells (AN [y,z,A,B,C,D] q d p g f m l).toArray 135)):=(Ext.refl O).alloc _;have hA5:=a1.ext I;have a0:=BA (k:=10) (Arr.new O 135 (AN [y,z,A,B,C,D] q d p g f m l)) rfl;have Q:(AN [y,z,A,B,C,D] q d p g f m l).toArray=#[.int .i64 y,.int .i64 z,.int .i64 A,.int .i64 B,.int .i64 C,.int .i64 D,.bool q,.slice d p g,.bool false,.slice f m l]:=rfl
           have a2:w0.heap.size<=(O.alloc (.cells (AN [y,z,A,B,C,D] q d p g f m l).toArray 135)).heap.size:=(N.trans I).size;rw[Q]at hA5 a0 a2;have ae:=qh (N.trans I);have V:Hid (∀ i,i<j+1->C6 (O.alloc (.cells (AN [y,z,A,B,C,D] q d p g f m l).toArray 135)) (rs.getD i []) ((Ay vars (ts.getD i tm0)).getD z6)):=qh fun i E=>(ad.out i E).ext I;have W:Hid (C6 (O.alloc (.cells (AN [y,z,A,B,C,D] q d p g f m l).toArray 135)) (AN [y,z,A,B,C,D] q d p g f m l) tm):=qh (Z.out.ext I)
           have aa:Agg prog 135 (AN [y,z,A,B,C,D] q d p g f m l).length:=AW
           go_wp2_with(first
            | (refine CK rfl rfl aa rfl ak ?_;rw[Q])
            | (refine O6 rfl rfl (by kernel_rfl) FG rfl hA5 rfl a0 (by intro r hr u hu;rw[eV.1 hr]at hu;exact BR u hu) (by intro r hr u hu;rw[eV.1 hr]at hu;exact CD u hu) (by omega) (by omega) a2 ?_;intro w7 aj P))
           go_roundw
           case rel =>
            refine⟨j+1+1,_,rfl,by go_num,by omega,ae.out.grownR P (lrf _),aj,af,qh fun i E => ?_⟩;have au:=a1.1.len (by omega);by_cases ao:i=j+1
            · subst ao;rw[HO.out,fC,gqq,fF (by omega),au,iW];exact W.out.keptU hA5.2 P
            · rw[gqq,f4 (by omega),<-gqq];exact(V.out i (by omega)).keptU hA5.2 P
           case measure=>simp[intOf];omega
         · have HF:Hid (r=none):=qh (by
            rw[<-HR.out];unfold rdWF;rw[fl];rintro⟨_,_,_,h1⟩;have:=h1 j (by omega);rw[HV.out]at this
            exact aA this)
           go_quiet (exact jl (S _ ((Ext.refl L).drewN _)).out)
           go_wp2
           go_ret2
           rw[HF.out];exact⟨none,0,0,rfl,(G.trans F).drewN _,C3.nil _⟩
    · have aS:k=n:=by omega
      subst aS
      have HF:Hid (r=some (ts.map (fun t=>(Ay vars t).getD z6))):=qh (by
       rw[<-HR.out];unfold rdWF
       rw[fE ⟨aX,aK,by rw[R];exact HK.out⟩])
      go_wp2
      go_ret2
      rw[HF.out];refine⟨_,_,_,rfl,G.trans hE,rs,hO.1.slk (by omega),by simp[R],fun i E => ?_⟩;have h1:=HC.out i E;have h2:(ts.map (fun t=>(Ay vars t).getD z6)).getD i ([],0)=(Ay vars (ts.getD i tm0)).getD z6:=by simp[R,E]
      rw[fC,h2];exact h1
 · have HF:Hid (r=none):=qh (by
    rw[<-HR.out];unfold rdWF
    rw[fl (fun h=>hv ⟨h.1,h.2.1⟩)])
   go_enter func56,ntmps56
   go_upto_region 1 with(fail)
   refine AK ?_;intro w0 G T ay;have u0:=T.c 0 rfl;clear T ay;by_cases b1:vars<0
   · clear hv;go_wp2
     go_ret2
     rw[HF.out];exact⟨none,0,0,rfl,G,C3.nil _⟩
   · have b0:6<vars:=by omega
     clear hv;go_wp2
     go_ret2
     rw[HF.out];exact⟨none,0,0,rfl,G,C3.nil _⟩
theorem Tu(h:2<=n):n/2<n/\n-n/2<n/\n/2<=n:=by omega
theorem LE(hN:N<=12):∀ (n:Nat) {a:Option Addr} {c:Nat} {l:List Pl.Tm} {w:World},TSl w b0 a n c l->TB N l->b0<=w.heap.size->n<=100000 ->
 Calls prog 127 #[.slice a n c] w (Vb w b0 l):=by
 intro n
 induction n using Nat.strongRecOn with
 | ind n ih =>
 intro a c l w h hb hw hn;by_cases h2:n<2
 · have aG:(n:Int)<2:=by omega
   have aX:=h.len;have hd:Pl.desc l:=by
    match l,aX with
    | [],_=>exact List.Pairwise.nil
    | [x],_=>exact jP _ _
    | x :: y :: r,hl=>simp at hl;omega
   clear ih hb hw
   go_enter func127,ntmps127
   go_wp2;go_ret;exact⟨a,n,c,l,rfl,Ext.refl w,h,kL _,hd⟩
 · have aG:¬ (n:Int)<2:=by omega
   obtain⟨am,an,aa⟩:=Tu (n:=n) (by omega);have aS:=h.le;obtain⟨q,hq⟩:∃ q,n/2=q:=⟨_,rfl⟩;have aY:(n:Int).tdiv 2=(q:Int):=by rw[gE (by omega),<-hq];rfl
   rw[hq]at am an aa;have aN:q<=c:=by omega
   have H1:=h.to aa;have H2:=h.fr aa;have B1:TB N (l.take q):=fun t ht=>hb t (iU ht);have B2:TB N (l.drop q):=fun t ht=>hb t (jE ht);have aO:=qh (fun(f:World) (b:Ext w f)=>ih q am (H1.ext b) B1 (eW hw b.size) (by omega));have aP:=qh (fun(f:World) (b:Ext w f)=>ih (n-q) an (H2.ext b) B2 (eW hw b.size) (by omega));have aB:Hid (l.take q ++ l.drop q=l):=qh (iR q l);have aT:=qh hb;have aL:(l.take q).length=q:=H1.len;have aM:(l.drop q).length=n-q:=H2.len;generalize l.take q=u1 at *
   generalize l.drop q=u2 at *
   clear ih hq am an H1 H2 h hb
   go_enter func127,ntmps127
   go_upto_region 3 with(fail)
   refine Ac
    [hdS a n c,hdS a n c,hdI n,hdI q,hdS a q c,hp (fun v f=>∃ Y n' Z V,v = .slice Y n' Z/\TSl f b0 Y n' Z V/\V.Perm u1/\Pl.desc V),hdS a n c,hdS a n c,hdI n,hdI q,hdS (if c=q then a else a.map (fun x=>x.add (q*5))) (n-q) (c-q),hp (fun v f=>∃ Y n' Z V,v = .slice Y n' Z/\TSl f b0 Y n' Z V/\V.Perm u2/\Pl.desc V)]
    ⟨fun v w w' e ⟨Y,n',Z,V,h1,h2,h3⟩=>⟨Y,n',Z,V,h1,h2.ext e,h3⟩,fun v w w' e ⟨Y,n',Z,V,h1,h2,h3⟩=>⟨Y,n',Z,V,h1,h2.ext e,h3⟩,trivial⟩ ⟨?o0,?o1,?o2,?o3,?o4,?o5,?o6,?o7,?o8,?o9,?o10,?o11,trivial⟩ ?fin
   case o0 | o1 | o6 | o7=>exact omv
   case o2 | o3 | o8 | o9 =>
    refine Ae rfl fun ρ f b m h => ?_
    try have e0:_=_:=h.1
    try have e1:_=_:=h.2.1
    try have e2:_=_:=h.2.2.1
    go_simp
    try (first | (intros;omega) | exact eT _ (by omega))
   case o4 =>
    exact Fp rfl rfl underlying63 BZ (fun _ _ _ h=>⟨h.1,h.2.1⟩) aN
   case o5 =>
    refine Ah rfl fun ρ f b m aH h => ?_;have e1:_=_:=h.2.1;refine⟨127,#[.slice a q c],by go_simp,(aO.out f b).mono ?_⟩;rintro e w' ⟨Y,n',Z,V,rfl,ag,av,ar,aj⟩;exact⟨_,rfl,ag,Y,n',Z,V,rfl,av,ar,aj⟩
   case o10 =>
    exact Hx rfl rfl underlying63 BZ (fun _ _ _ h=>⟨h.1,h.2.1⟩) aa
   case o11 =>
    refine Ah rfl fun ρ f b m aH h => ?_;have e1:_=_:=h.2.1;refine⟨127,#[.slice (if c=q then a else a.map (fun x=>x.add (q*5))) (n-q) (c-q)],by go_simp,(aP.out f b).mono ?_⟩;rintro e w' ⟨Y,n',Z,V,rfl,ag,av,ar,aj⟩;exact⟨_,rfl,ag,Y,n',Z,V,rfl,av,ar,aj⟩
   case fin =>
    intro f b;rintro _ ⟨a1,n1,c1,l1,rfl,t1,p1,I⟩;rintro _ ⟨a2,K,c2,l2,rfl,t2,p2,J⟩;change wpList _ _ _ _ _ _;simp only[Bs];have a4:=b;have a8:=B1.perm p1;have a9:=B2.perm p2;have b4:n1+K<=100000:=by
     have e1:n1=q:=by rw[<-t1.len,p1.length_eq,aL]
     have e2:K=n-q:=by rw[<-t2.len,p2.length_eq,aM]
     omega
    have HP:Hid (∀ o:List Pl.Tm,o.Perm (l1 ++ l2)->o.Perm l):=qh (fun o ho=>by rw[<-aB.out];exact ho.trans (p1.append p2));have aC:Hid (Pl.MS N l1 l2 [] 0 0):=qh (Pl.MS.start I J (fun t ht=>(a8 t ht).1) (fun t ht=>(a9 t ht).1));clear aL aM p1 p2 I J B1 B2 aO aP aY aN aS h2 aG aB aT;generalize aZ:f=w3 at *
    clear aZ b;generalize (if c=q then a else a.map (fun x=>x.add (q * 5)))=b1 at *
    go_wp2
    go_loopw[5,6,7] (fun ov iv kv wr=>∃ (ao:Option Addr) (no co:Nat) (lo:List Pl.Tm) (i k:Nat),ov = .slice ao no co/\iv = .int .i64 i/\kv = .int .i64 k/\i<=n1/\k<=K/\no<=i+k/\Ext w3 wr/\Hid (TO wr b0 w3.heap.size ao no co lo)/\Hid (Pl.MS N l1 l2 lo i k)) (fun _ iv kv _=>n1+K-(intOf iv+intOf kv).toNat)
    case atStart=>exact⟨none,0,0,[],0,0,rfl,rfl,rfl,f8 _,f8 _,f8 _,Ext.refl _,qh (TO.nil _ _ _),aC⟩
    case round =>
     clear aC;obtain⟨ao,no,co,lo,i,k,rfl,rfl,rfl,b2,b3,b5,hE,HO,HM⟩:=hrel;by_cases hi:i<n1
     · have aW:(i:Int)<n1:=by omega
       by_cases F:k<K
       · have ay:((k:Int) == (K:Int))=false:=by simp;omega
         have aJ:(k:Int)<K:=by omega
         obtain⟨M,W,aQ,s1,x1,m1,I,y1,g1,h1,p,aw,G,rfl,a5,C,ae,ap,ak,a0⟩:=(t1.ext hE).row hi;have ab:N=aw:=by have h1:=a0.1.len;have h2:=(a8.get (i:=i) (by rw[t1.len];exact hi)).1;omega
         subst ab;have aE:wr.cell? ⟨M,W+i*5+4,none⟩=some (.slice p N G):=by have:=a5.cl hi (j:=4) (by omega);rw[C]at this;exact this
         obtain⟨O,X,aR,s2,x2,m2,J,y2,g2,h2,s,ax,H,rfl,a6,D,af,aq,al,a3⟩:=(t2.ext hE).row F;have ac:N=ax:=by have h1:=a3.1.len;have h2:=(a9.get (i:=k) (by rw[t2.len];exact F)).1;omega
         subst ac;have aF:wr.cell? ⟨O,X+k*5+4,none⟩=some (.slice s N H):=by have:=a6.cl F (j:=4) (by omega);rw[D]at this;exact this
         have az:=qh (fun(wy:World) (b:Ext wr wy)=>EJ (a0.1.ext b) (a3.1.ext b) hN (a8.get (i:=i) (by rw[t1.len];exact hi)).2 (a9.get (i:=k) (by rw[t2.len];exact F)).2);obtain⟨r,hr⟩:∃ r,Pl.ordE (l1.getD i tz).1 (l2.getD k tz).1=r:=⟨_,rfl⟩;have HR:=qh hr;rw[hr]at az;clear hr;obtain⟨bb,ai⟩:∃ bb,decide (0<=r)=bb:=⟨_,rfl⟩
         go_upto_region 7 with(fail)
         have E:=fun(f:World) (b:Ext wr f)=>qh (And.intro (b.cell aE) (b.cell aF))
         refine Ac
          [hdI k,hdS (some ⟨O,X,none⟩) K c2,hdI K,hdB false,hdB false,hdI i,hdS (some ⟨M,W,none⟩) n1 c1,hdI n1,hdB true,hdB true,hdS (some ⟨M,W,none⟩) n1 c1,hdI i,hdP M (W+i*5),hdP M ((W+i*5)+4),hdS p N G,hdS (some ⟨O,X,none⟩) K c2,hdI k,hdP O (X+k*5),hdP O ((X+k*5)+4),hdS s N H,hp (fun v f=>v = .int .i64 r),hdB bb,hdB bb,hdB bb]
          ⟨fun v w w' e h=>h,trivial⟩ ⟨?o0,?o1,?o2,?o3,?o4,?o5,?o6,?o7,?o8,?o9,?o10,?o11,?o12,?o13,?o14,?o15,?o16,?o17,?o18,?o19,?o20,?o21,?o22,?o23,trivial⟩ ?fin
         case o0 | o1 | o4 | o5 | o6 | o9 | o10 | o11 | o15 | o16=>exact omv
         case o13 | o18=>exact ofa (d:=4)
         case o14 | o19=>exact ol
         case o2 =>
          refine Ae rfl fun ρ f b m h => ?_;have e0:_=_:=h.1;obtain⟨kx,ky⟩:=(E f b).out;go_simp
         case o3 =>
          refine Ae rfl fun ρ f b m h => ?_;have e0:_=_:=h.1;have e1:_=_:=h.2.1;obtain⟨kx,ky⟩:=(E f b).out;go_simp
          try (first | (intros;omega) | exact eT _ (by omega))
         case o7 =>
          refine Ae rfl fun ρ f b m h => ?_;have e0:_=_:=h.1;obtain⟨kx,ky⟩:=(E f b).out;go_simp
         case o8 =>
          refine Ae rfl fun ρ f b m h => ?_;have e0:_=_:=h.1;have e1:_=_:=h.2.1;obtain⟨kx,ky⟩:=(E f b).out;go_simp
          try (first | (intros;omega) | exact eT _ (by omega))
         case o12 =>
          refine Ae rfl fun ρ f b m h => ?_;have e0:_=_:=h.1;have e1:_=_:=h.2.1;obtain⟨kx,ky⟩:=(E f b).out;go_simp
          try (first | (intros;omega) | exact eT _ (by omega))
         case o17 =>
          refine Ae rfl fun ρ f b m h => ?_;have e0:_=_:=h.1;have e1:_=_:=h.2.1;obtain⟨kx,ky⟩:=(E f b).out;go_simp
          try (first | (intros;omega) | exact eT _ (by omega))
         case o20 =>
          refine Ah rfl fun ρ f b m aH h => ?_;have e1:_=_:=h.2.1;have e2:_=_:=h.2.2.1;obtain⟨kx,ky⟩:=(E f b).out;refine⟨79,#[.slice p N G,.slice s N H],by go_simp,(az.out f b).mono ?_⟩;rintro e w' ⟨rfl,aV⟩;exact⟨_,rfl,aV.ext,rfl⟩
         case o21 =>
          refine Ae rfl fun ρ f b m h => ?_;obtain⟨v0,e0,rfl⟩:=h.1;obtain⟨kx,ky⟩:=(E f b).out;go_simp
          try exact ai
         case o22 =>
          refine Ae rfl fun ρ f b m h => ?_;have e0:_=_:=h.1;have e1:_=_:=h.2.1;obtain⟨kx,ky⟩:=(E f b).out;go_simp
         case o23 =>
          refine Ae rfl fun ρ f b m h => ?_;have e0:_=_:=h.1;have e2:_=_:=h.2.2.1;obtain⟨kx,ky⟩:=(E f b).out;go_simp
         case fin =>
          intro f b;rintro _ rfl;change wpList _ _ _ _ _ _;simp only[Bs];have aA:=qh ai;clear ai;cases bb;rotate_left
          · obtain⟨ad,hK,R,Q⟩:=HO.out;have A:=hK.ext ((b).alloc (.cells (tL s1 x1 m1 I y1 g1 h1 p N G).toArray 111));have hL:=BA (k:=5) (Arr.new f 111 (tL s1 x1 m1 I y1 g1 h1 p N G)) rfl;have T:=a5.ext (b);have g:=(Ext.refl f).alloc (.cells (tL s1 x1 m1 I y1 g1 h1 p N G).toArray 111);have z:=hE.trans (b);have au:=z.size;have U:(tL s1 x1 m1 I y1 g1 h1 p N G).toArray=#[.bool s1,.slice x1 m1 I,.bool false,.slice y1 g1 h1,.slice p N G]:=rfl
            go_wp2_with(first
             | (refine Cq rfl rfl OY rfl T hi ?_;rw[C,U])
             | (refine CC rfl rfl underlying63 BZ rfl A rfl hL (by intro r hr u hu;rw[eV.1 hr]at hu;exact FF u hu) (by unfold maxLen;omega) (by omega) (by simp;omega) ?_;intro a7 c7 w7 S B ah))
            have L:=TO.grow A R (fun j hj=>(Q j hj).ext ((b).trans g)) (⟨s1,x1,m1,I,y1,g1,h1,p,N,G,rfl,ae,ap.ext ((b).trans g),ak.ext ((b).trans g),a0.ext ((b).trans g)⟩:TC _ b0 _ (l1.getD i tz)) (eW hw a4.size) S B;have P:Ext w3 w7:=(z.trans g).grown B (fun k F=>(hK.lt F).1);go_roundw
            case rel=>exact⟨a7,no+1,c7,lo ++ [l1.getD i tz],i+1,k,rfl,by go_num,by go_num,by omega,by omega,by omega,P,qh L,qh (HM.out.left (getD_some (by rw[t1.len];exact hi)) (fun y hy=>by rw[getD_some (by rw[t2.len];exact F)]at hy;rw[<-fe hy,HR.out];exact gC aA.out))⟩
            case measure=>simp[intOf];omega
          · obtain⟨ad,hK,R,Q⟩:=HO.out;have A:=hK.ext ((b).alloc (.cells (tL s2 x2 m2 J y2 g2 h2 s N H).toArray 111));have hL:=BA (k:=5) (Arr.new f 111 (tL s2 x2 m2 J y2 g2 h2 s N H)) rfl;have T:=a6.ext (b);have g:=(Ext.refl f).alloc (.cells (tL s2 x2 m2 J y2 g2 h2 s N H).toArray 111);have z:=hE.trans (b);have au:=z.size;have U:(tL s2 x2 m2 J y2 g2 h2 s N H).toArray=#[.bool s2,.slice x2 m2 J,.bool false,.slice y2 g2 h2,.slice s N H]:=rfl
            go_wp2_with(first
             | (refine Cq rfl rfl OY rfl T F ?_;rw[D,U])
             | (refine CC rfl rfl underlying63 BZ rfl A rfl hL (by intro r hr u hu;rw[eV.1 hr]at hu;exact FF u hu) (by unfold maxLen;omega) (by omega) (by simp;omega) ?_;intro a7 c7 w7 S B ah))
            have L:=TO.grow A R (fun j hj=>(Q j hj).ext ((b).trans g)) (⟨s2,x2,m2,J,y2,g2,h2,s,N,H,rfl,af,aq.ext ((b).trans g),al.ext ((b).trans g),a3.ext ((b).trans g)⟩:TC _ b0 _ (l2.getD k tz)) (eW hw a4.size) S B;have P:Ext w3 w7:=(z.trans g).grown B (fun k F=>(hK.lt F).1);go_roundw
            case rel=>exact⟨a7,no+1,c7,lo ++ [l2.getD k tz],i,k+1,rfl,by go_num,by go_num,by omega,by omega,by omega,P,qh L,qh (HM.out.right (getD_some (by rw[t2.len];exact F)) (fun x hx=>by rw[getD_some (by rw[t1.len];exact hi)]at hx;rw[<-fe hx,Pl.ordE_anti,HR.out];have:=of_decide_eq_false aA.out;omega))⟩
            case measure=>simp[intOf];omega
       · have ay:((k:Int) == (K:Int))=true:=by simp;omega
         obtain⟨M,W,aQ,s1,x1,m1,I,y1,g1,h1,p,aw,G,rfl,a5,C,ae,ap,ak,a0⟩:=(t1.ext hE).row hi;have ab:N=aw:=by have h1:=a0.1.len;have h2:=(a8.get (i:=i) (by rw[t1.len];exact hi)).1;omega
         subst ab;have aE:wr.cell? ⟨M,W+i*5+4,none⟩=some (.slice p N G):=by have:=a5.cl hi (j:=4) (by omega);rw[C]at this;exact this
         go_upto_region 7 with(fail)
         go_quiet (fail)
         have b:Ext wr (wr.drewN nq):=(Qt.drewN (Qt.refl wr) nq).ext;generalize wr.drewN nq=f at *
         obtain⟨ad,hK,R,Q⟩:=HO.out;have A:=hK.ext ((b).alloc (.cells (tL s1 x1 m1 I y1 g1 h1 p N G).toArray 111));have hL:=BA (k:=5) (Arr.new f 111 (tL s1 x1 m1 I y1 g1 h1 p N G)) rfl;have T:=a5.ext (b);have g:=(Ext.refl f).alloc (.cells (tL s1 x1 m1 I y1 g1 h1 p N G).toArray 111);have z:=hE.trans (b);have au:=z.size;have U:(tL s1 x1 m1 I y1 g1 h1 p N G).toArray=#[.bool s1,.slice x1 m1 I,.bool false,.slice y1 g1 h1,.slice p N G]:=rfl
         go_wp2_with(first
          | (refine Cq rfl rfl OY rfl T hi ?_;rw[C,U])
          | (refine CC rfl rfl underlying63 BZ rfl A rfl hL (by intro r hr u hu;rw[eV.1 hr]at hu;exact FF u hu) (by unfold maxLen;omega) (by omega) (by simp;omega) ?_;intro a7 c7 w7 S B ah))
         have L:=TO.grow A R (fun j hj=>(Q j hj).ext ((b).trans g)) (⟨s1,x1,m1,I,y1,g1,h1,p,N,G,rfl,ae,ap.ext ((b).trans g),ak.ext ((b).trans g),a0.ext ((b).trans g)⟩:TC _ b0 _ (l1.getD i tz)) (eW hw a4.size) S B;have P:Ext w3 w7:=(z.trans g).grown B (fun k F=>(hK.lt F).1);go_roundw
         case rel=>exact⟨a7,no+1,c7,lo ++ [l1.getD i tz],i+1,k,rfl,by go_num,by go_num,by omega,by omega,by omega,P,qh L,qh (HM.out.left (getD_some (by rw[t1.len];exact hi)) (fun y hy=>by rw[fi (by rw[t2.len];omega)]at hy;cases hy))⟩
         case measure=>simp[intOf];omega
     · have aW:¬ (i:Int)<n1:=by omega
       by_cases F:k<K
       · have ay:((k:Int) == (K:Int))=false:=by simp;omega
         have aJ:(k:Int)<K:=by omega
         obtain⟨O,X,aR,s2,x2,m2,J,y2,g2,h2,s,ax,H,rfl,a6,D,af,aq,al,a3⟩:=(t2.ext hE).row F;have ac:N=ax:=by have h1:=a3.1.len;have h2:=(a9.get (i:=k) (by rw[t2.len];exact F)).1;omega
         subst ac;have aF:wr.cell? ⟨O,X+k*5+4,none⟩=some (.slice s N H):=by have:=a6.cl F (j:=4) (by omega);rw[D]at this;exact this
         go_upto_region 7 with(fail)
         go_quiet (fail)
         have b:Ext wr (wr.drewN nq):=(Qt.drewN (Qt.refl wr) nq).ext;generalize wr.drewN nq=f at *
         obtain⟨ad,hK,R,Q⟩:=HO.out;have A:=hK.ext ((b).alloc (.cells (tL s2 x2 m2 J y2 g2 h2 s N H).toArray 111));have hL:=BA (k:=5) (Arr.new f 111 (tL s2 x2 m2 J y2 g2 h2 s N H)) rfl;have T:=a6.ext (b);have g:=(Ext.refl f).alloc (.cells (tL s2 x2 m2 J y2 g2 h2 s N H).toArray 111);have z:=hE.trans (b);have au:=z.size;have U:(tL s2 x2 m2 J y2 g2 h2 s N H).toArray=#[.bool s2,.slice x2 m2 J,.bool false,.slice y2 g2 h2,.slice s N H]:=rfl
         go_wp2_with(first
          | (refine Cq rfl rfl OY rfl T F ?_;rw[D,U])
          | (refine CC rfl rfl underlying63 BZ rfl A rfl hL (by intro r hr u hu;rw[eV.1 hr]at hu;exact FF u hu) (by unfold maxLen;omega) (by omega) (by simp;omega) ?_;intro a7 c7 w7 S B ah))
         have L:=TO.grow A R (fun j hj=>(Q j hj).ext ((b).trans g)) (⟨s2,x2,m2,J,y2,g2,h2,s,N,H,rfl,af,aq.ext ((b).trans g),al.ext ((b).trans g),a3.ext ((b).trans g)⟩:TC _ b0 _ (l2.getD k tz)) (eW hw a4.size) S B;have P:Ext w3 w7:=(z.trans g).grown B (fun k F=>(hK.lt F).1);go_roundw
         case rel=>exact⟨a7,no+1,c7,lo ++ [l2.getD k tz],i,k+1,rfl,by go_num,by go_num,by omega,by omega,by omega,P,qh L,qh (HM.out.right (getD_some (by rw[t2.len];exact F)) (fun x hx=>by rw[fi (by rw[t1.len];omega)]at hx;cases hx))⟩
         case measure=>simp[intOf];omega
       · have aJ:¬ (k:Int)<K:=by omega
         have aI:i=n1:=by omega
         have aK:k=K:=by omega
         have aD:=HM.out;rw[aI,aK,<-t1.len,<-t2.len]at aD;have aU:=HO.out.sl;clear aI aK;go_wp2;go_ret;exact⟨ao,no,co,lo,rfl,a4.trans hE,aU,HP.out lo aD.done,HM.out.d⟩
end Go.Proofs.YthdbingomfdeoaaGreatDoor
namespace Go.Proofs.YthdbingomfdeoaaGreatDoor.Pl
variable {b i k n:Nat} {c:Rat}
def SubOK(l:List Tm):Prop:=∀ a s,(a ++ s).Perm l->∀ e,RB 1000000 (coef a e)
theorem SubOK.perm{l b:List Tm}(h:SubOK l)(p:b.Perm l):SubOK b:=fun a s hp e=>h a s (hp.trans p) e
theorem SubOK.one{l:List Tm}(h:SubOK l){t:Tm}(d:t∈l):RB 1000000 t.2:=by
 obtain⟨b,c,rfl⟩:=List.append_of_mem d;have:=h [t] (b ++ c) (by simpa using(List.perm_middle (a:=t) (l₁:=b) (l₂:=c)).symm) t.1;simp only[coef,j0]at this
 rwa[ly]at this
theorem SubOK.of_rb{l:List Tm}(d:1<=b)(h:∀ t∈l,RB b t.2)(g:l.length*(b+1)+1<=1000000):SubOK l:=by
 intro a s hp e;have f:∀ t∈a,t∈l:=fun t c=>hp.subset (List.mem_append_left _ c);have h1:=RB.coef d e (l:=a) (fun t c=>h t (f t c));refine h1.mono ?_;have h2:a.length<=l.length:=by have:=hp.length_eq;simp at this;omega
 have h3:a.length*(b+1)<=l.length*(b+1):=eS _ h2;omega
structure SS(s out:List Tm)(i:Nat):Prop where
 le:i<=s.length
 eq:grp s=out ++ grp (s.drop i)
theorem SS.start(s:List Tm):SS s [] 0:=⟨f8 _,by simp⟩
theorem SS.done{s out:List Tm}(h:SS s out s.length):out=grp s:=by
 have:=h.eq;rw[List.drop_length,D0,gR]at this;exact this.symm
structure SI(s:List Tm)(i k:Nat)(x:Tm)(c:Rat):Prop where
 hx:s[i]?=some x
 ik:i<k
 le:k<=s.length
 hc:GO x.1 x.2 (s.drop (i+1))=GO x.1 c (s.drop k)
 hr:CR x.1 (s.drop (i+1))=CR x.1 (s.drop k)
 hv:c=coef ((s.drop i).take (k-i)) x.1
theorem SI.start{s:List Tm}{x:Tm}(h:s[i]?=some x):SI s i (i+1) x x.2:=by
 have a:i<s.length:=(gg.1 h).1;have b:s[i]=x:=(gg.1 h).2;refine⟨h,by omega,by omega,rfl,rfl,?_⟩;rw[fD a,b,show i+1-i=1 by omega];simp only[ks,gZ,coef,j0];rw[ly]
theorem SI.step{s:List Tm}{x:Tm}(h:SI s i k x c){y:Tm}(d:s[k]?=some y)(he:x.1=y.1):SI s i (k+1) x (c+y.2):=by
 have f:k<s.length:=(gg.1 d).1;have a:s[k]=y:=(gg.1 d).2;have b:s.drop k=y :: s.drop (k+1):=by rw[fD f,a]
 have e:=h.ik;refine⟨h.hx,by omega,by omega,?_,?_,?_⟩
 · rw[h.hc,b];simp only[GO,fE he]
 · rw[h.hr,b];simp only[CR,fE he]
 · have h1:(s.drop i).take (k+1-i)=(s.drop i).take (k-i) ++ [y]:=by
    have h2:k-i<(s.drop i).length:=by rw[iC];omega
    rw[show k+1-i=k-i+1 by omega,eU h2];congr 2;rw[List.getElem_drop];have:i+(k-i)=k:=by omega
    simp only[this];exact a
   rw[h1,coef_app,<-h.hv];simp only[coef,fE he.symm];rw[ly]
theorem SI.rb{s:List Tm}{x:Tm}(h:SI s i k x c)(b:SubOK s):RB 1000000 c:=by
 rw[h.hv];refine b _ (s.take i ++ s.drop k) ?_ _;have e:s=s.take i ++ ((s.drop i).take (k-i) ++ s.drop k):=by
  have a:s.drop k=(s.drop i).drop (k-i):=by rw[kK];congr 1;have:=h.ik;omega
  rw[a,iR,iR]
 have p:((s.drop i).take (k-i) ++ (s.take i ++ s.drop k)).Perm (s.take i ++ ((s.drop i).take (k-i) ++ s.drop k)):=by
  rw[<-fZ,<-fZ];exact List.perm_append_comm.append_right _
 exact p.trans (List.Perm.of_eq e.symm)
theorem SI.stop{s out:List Tm}{x:Tm}(h:SI s i k x c)(g:SS s out i)(l:∀ y,s[k]?=some y->x.1≠y.1):SS s (if c=0 then out else out ++ [(x.1,c)]) k:=by
 have e:i<s.length:=(gg.1 h.hx).1;have j:s[i]=x:=(gg.1 h.hx).2;have h1:GO x.1 c (s.drop k)=c/\CR x.1 (s.drop k)=s.drop k:=by
  by_cases b:k<s.length
  · have d:s.drop k=s[k] :: s.drop (k+1):=fD b;have f:=l s[k] (eQ b);rw[d];simp only[GO,CR,fl f];exact⟨trivial,trivial⟩
  · rw[fK (by omega)];exact⟨rfl,rfl⟩
 refine⟨h.le,?_⟩;rw[g.eq,fD e,j,Gn,h.hc,h.hr,h1.1,h1.2];by_cases a:c=0
 · simp only[fE a,iI]
 · simp only[fl a,fZ]
theorem grp_sum{l s:List Tm}(b:∀ t∈l,t.1.length=n)(hp:s.Perm l)(a:desc s):Canon n (grp s)/\∀ e,coef (grp s) e=coef l e :=
 ⟨KB _ s (lrf _) (fun t c=>b t (hp.subset c)) a,fun e=>(MH _ s (lrf _) e).trans (coef_perm hp e)⟩
end Go.Proofs.YthdbingomfdeoaaGreatDoor.Pl
namespace Go.Proofs.YthdbingomfdeoaaGreatDoor
open Tryz Go Go.RowKit
variable {z:Int} {v:Value} {w:World}
theorem O8(h:ZR w v z):Calls prog 158 #[v] w (JD w (-z)):=by
 obtain⟨s,a,n,c,rfl,q,y⟩:=h
 go_enter func158,ntmps158
 go_upto_region 1 with(fail)
 refine I6 ?_;intro D d b j p;have B:=b.c 0 rfl;have C:=b.c 1 rfl;have m:=qh (Ba (neg := !s) (y.ext d) (z := -z) (by rw[<-q.out];by_cases h:z<0 <;> simp[h] <;> omega));have x:Arr D (w.heap.size+1) 107 (Aj false none 0 0):=j;clear p
 go_wp2_with fail
 refine m.out.mono ?_;rintro e E ⟨s1,r,A,t,rfl,f,i,o⟩;have g:=x.ext f
 go_wp2_with(refine Aa (vs:=Aj s1 r A t) rfl rfl rfl rfl rfl Az g rfl (Ai _ _ _ _) ?_;intro F k l)
 exact eZ (Aq rfl Az rfl k) rfl (CA (d.trans f) g (by decide) l (by omega) i o)
end Go.Proofs.YthdbingomfdeoaaGreatDoor
