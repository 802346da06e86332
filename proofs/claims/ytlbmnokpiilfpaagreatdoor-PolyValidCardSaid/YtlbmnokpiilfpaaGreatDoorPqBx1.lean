/- Part PqBx1. -/
import Derived.Test.YtlbmnokpiilfpaaGreatDoorPqABx1
import Derived.Test.YtlbmnokpiilfpaaGreatDoorPqBCx1
import Derived.Test.YtlbmnokpiilfpaaGreatDoorPqBDx1
import Derived.SliceStrings
set_option linter.all false
set_option maxRecDepth 100000
set_option maxHeartbeats 100000000
namespace Go.Proofs.YtlbmnokpiilfpaaGreatDoor
open Tryz Go Go.RowKit
variable {va vars vb:Int} {xs:List Int} {N b0 c d k m n:Nat} {A B a b:Option Addr} {cons:Option Nat} {w:World}
theorem Iz{ts:List Tx}(h:AH w A n c ts)(x:∀ t∈ts,t.1.length<=10000)(v:n<=100000) :
 Calls prog 30 #[.agg #[.int .i64 vars,.slice A n c]] w fun e H=>e = .returned (.bool (rdN vars ts).isSome)/\Ext w H:=by
 obtain⟨o,r⟩:∃ o,rdN vars ts=o:=⟨_,rfl⟩;rw[r]
 go_enter func30,ntmps30
 go_upto_region 1 with(fail)
 refine AP ?_;intro I g a E;have F:=a.c 0 rfl;have G:=a.c 1 rfl;have d:=qh (KP (vars:=vars) h g x v);rw[r]at d;clear a h x r v
 go_wp2_with fail
 refine d.out.mono ?_;rintro e z ⟨k,s,l,rfl,m,p⟩;obtain⟨j,i⟩:∃ j,(if o.isSome=true then vars else 0)=j:=⟨_,rfl⟩;rw[i];have C:=Arr.new z 44 (pL 0 none 0 0);obtain⟨y,b⟩:∃ y,o.isSome=y:=⟨_,rfl⟩;rw[b];have f:=qh b;have D:(pL j k s l).toArray=#[.int .i64 j,.slice k s l]:=rfl;clear d p b i F G
 go_wp2_with(refine Aa (vs:=pL j k s l) rfl rfl rfl rfl rfl AJ C rfl (AT _ _ _ _) ?_;intro J B q)
 go_ret;exact⟨by rw[f.out];rfl,(g.trans m).trans (((Ext.refl z).alloc _).grownR q (lrf _))⟩
theorem QI(va:Int)(ts:List Tx):(rdN va ts).isSome=(rdWF va ts).isSome:=by
 unfold rdN rdWF;by_cases h2:0<=va/\va<=6/\okT va ts ts.length
 · rw[gY h2,gY h2];rfl
 · rw[gT h2,gT h2]
theorem Jh{ts:List Tx}(l:AM w)(h:AH w a n c ts)(p:∀ t∈ts,t.1.length<=570)(m:n<=4096) :
 Calls prog 29 #[.agg #[.int .i64 vars,.slice a n c]] w fun e q=>e = .returned (.bool (rdWF vars ts).isSome)/\Ext w q:=by
 have f:=fun(r:World) (j:Ext w r)=>qh (IG (vars:=vars) (l.ext j) (h.ext j) p m);obtain⟨o,k⟩:∃ o,rdWF vars ts=o:=⟨_,rfl⟩;rw[k]at f |-;clear k
 go_enter func29,ntmps29
 go_upto_region 1 with(fail)
 refine AP ?_;intro A d b i;have y:=b.c 0 rfl;have z:=b.c 1 rfl;clear b i
 go_wp2_with fail
 refine(f _ d).out.mono ?_;rintro e B ⟨s,x,v,rfl,g,_⟩;go_wp2;go_ret;exact⟨rfl,d.trans g⟩
theorem NF{a:Type}{d:a}{p:a->Bool}{l:List a}(h:(l.take k).find? p=none)(b:k<l.length)(he:p (l.getD k d)=true):l.find? p=some (l.getD k d):=by
 rw[gqq,gD b,gP]at he |-
 conv=>lhs;rw[<-jN k l]
 rw[List.find?_append,h,iU b,List.find?_cons_of_pos he];rfl
theorem Lc{a:Type}{d:a}{p:a->Bool}{l:List a}(h:(l.take k).find? p=none)(b:k<l.length)(he:p (l.getD k d)=false):(l.take (k+1)).find? p=none:=by
 rw[gqq,gD b,gP]at he;rw[gM b,List.find?_append,h,List.find?_cons_of_neg (by simp[he])];rfl
open Classical in
noncomputable def coefP (vars:Int) (ts:List Tx) (m:List Int):List UInt8:=if(rdP vars ts).isSome=true then((ts.find? (fun t=>decide (t.2=m))).map (·.1)).getD [48]else [48]
theorem Vl{ts:List Tx}(hT:AM w)(h:AH w a n c ts)(hx:SlI w b m d xs)(hs:∀ t∈ts,t.1.length<=570) :
 Calls prog 35 #[.agg #[.int .i64 vars,.slice a n c],.slice b m d] w fun e w'=>∃ s,e = .returned (.string s)/\An s=coefP vars ts xs/\Ext w w':=by
 have A:=fun(wx:World) (B:Ext w wx)=>qh (D7 (vars:=vars) (hT.ext B) (h.ext B) hs);have o:=h.len;obtain⟨r,H⟩:∃ r,coefP vars ts xs=r:=⟨_,rfl⟩;rw[H];unfold coefP at H;obtain⟨Q,E⟩:∃ Q,(rdP vars ts).isSome=Q:=⟨_,rfl⟩;rw[E]at H A;clear E;have N:=qh H;have L:=qh o;clear H o;obtain⟨Z,W,_,Y⟩:=h;have HQ:=qh Y;clear Y;have S:n<=maxLen:=W.le;unfold maxLen at S
 go_enter func35,ntmps35
 go_upto_region 1 with(fail)
 refine AP ?_;intro w0 v p T;have t0:=p.c 0 rfl;have t1:=p.c 1 rfl;clear p T
 go_wp2_with fail
 refine(A _ v).out.mono ?_;rintro e w1 ⟨rfl,g⟩;have j:=v.trans g;have q0:=g.cell t0;have q1:=g.cell t1;clear t0 t1 A v g;cases Q with
 | false =>
  go_wp2;go_ret;exact⟨_,rfl,by rw[<-N.out];rfl,j⟩
 | true =>
  generalize w.heap.size=X at *
  go_wp2
  go_loopw[13] (fun i wr=>∃ k:Nat,k<=n/\i = .int .i64 k/\Ext w1 wr/\Hid ((ts.take k).find? (fun t=>decide (t.2=xs))=none)) (fun i _=>n-(intOf i).toNat)
  case atStart=>exact⟨0,gO _,rfl,Ext.refl _,qh rfl⟩
  case round =>
   obtain⟨k,hk,rfl,B,M⟩:=hrel;by_cases G:k<n
   · have y:=W.ext (j.trans B);obtain⟨b1,o1,rfl,R⟩:=y.rd (by omega);obtain⟨s1,a1,n1,c1,I,J,K⟩:=HQ.out k G;clear R;have V:=Arr.new wr 26 (tmL ⟨#[]⟩ none 0 0)
     go_upto_region 6 with(first
      | (refine Bg rfl rfl A4 rfl y G ?_;rw[I])
      | (refine Aa (vs:=tmL s1 a1 n1 c1) rfl rfl rfl rfl rfl A4 V rfl (CI _ _ _ _) ?_;intro w2 q F))
     have D:Ext wr w2:=((Ext.refl wr).alloc _).grownR F (lrf _);have l:=B.trans D;have f:=j.trans l;have C:=qh (Fg (K.ext f) (hx.ext f));have O:=qh J;clear J I V F D K y;generalize wr.heap.size=Xg at *
     have x0:=q.c 0 rfl;have x1:=q.c 1 rfl;clear q;obtain⟨P,z⟩:∃ P,decide ((ts.getD k tm0).2=xs)=P:=⟨_,rfl⟩;rw[z]at C;have U:=qh z;clear z
     go_wp2_with fail
     refine C.out.mono ?_;rintro e w4 ⟨rfl,x⟩;have x0:=x.ext.cell x0;cases P with
     | true =>
      go_wp2;go_ret;exact⟨s1,rfl,by rw[<-N.out,gY trivial,NF (d:=tm0) M.out (by have:=L.out;omega) U.out];exact O.out,f.trans x.ext⟩
     | false =>
      go_wp2;go_roundw
      case rel=>exact⟨k+1,by omega,by go_num,l.trans x.ext,qh (Lc (d:=tm0) M.out (by have:=L.out;omega) U.out)⟩
      case measure=>simp[intOf];omega
   · have HF:Hid (ts.find? (fun t=>decide (t.2=xs))=none):=qh (by have h1:=M.out;rwa[gG (by have:=L.out;omega)]at h1);go_wp2;go_ret;exact⟨_,rfl,by rw[<-N.out,gY trivial,HF.out];rfl,j.trans B⟩
abbrev YH(w:World)(b0:Nat)(a:Option Addr)(n c:Nat)(xs:List Int):Prop:=Own w b0 3 a n c (xs.map (Value.int .i64))
def IVl(w:World)(b0:Nat)(v:Value)(xs:List Int):Prop:=∃ a n c,v = .slice a n c/\YH w b0 a n c xs
def MVl(w:World)(b0:Nat)(v:Value)(s:ByteArray)(xs:List Int):Prop:=∃ a n c,v = .agg #[.string s,.slice a n c]/\YH w b0 a n c xs
theorem IVl.x(b0:Nat)(xs:List Int):∀ v w b,Ext w b->IVl w b0 v xs->IVl b b0 v xs:=fun _ _ _ e ⟨a,n,c,h1,h2⟩=>⟨a,n,c,h1,h2.ext e⟩
theorem MVl.x(b0:Nat)(s:ByteArray)(xs:List Int):∀ v w b,Ext w b->MVl w b0 v s xs->MVl b b0 v s xs:=fun _ _ _ e ⟨a,n,c,h1,h2⟩=>⟨a,n,c,h1,h2.ext e⟩
theorem LE(j:SlI w a n c xs)(x:n<=1000000) :
 Calls prog 87 #[.slice a n c] w fun e b=>∃ v,e = .returned v/\Ext w b/\IVl b w.heap.size v xs:=by
 cases a with
 | none =>
  have o:=j.len;have d:xs=[]:=by
   rcases gX n with h|h
   · subst h;exact gQ o
   · obtain⟨_,_,h1,_⟩:=j.at h;cases h1
  have p:=qh d;clear d o;have g:=fun b:World=>Lib.run_eql_slice_nil (P:=prog) b 24 3 none n c 0 0 underlying24
  go_enter func87,ntmps87
  go_wp2;go_ret;exact⟨_,rfl,Ext.refl w,none,0,0,rfl,by rw[p.out];exact Own.nil _ _ _⟩
 | some ad =>
  have g:=fun b:World=>Lib.run_eql_slice_nil (P:=prog) b 24 3 (some ad) n c 0 0 underlying24
  go_enter func87,ntmps87
  go_upto_region 3 with(fail)
  have l:Ext w (w.alloc (.cells #[] 3)):=(Ext.refl w).alloc _;have m:=AB w w.heap.size 3 #[] 0 rfl (lrf _) (by omega)
  go_wp2_with(refine B5 rfl rfl underlying24 MG rfl rfl m rfl (j.ext l) (Cc _) (by unfold maxLen;omega) (by omega) (by simp) ?_;intro q r y f i s)
  go_ret;refine⟨_,rfl,l.grown i (fun k t=>(m.lt t).1),q,_,r,rfl,?_⟩;simpa using f
open Classical in
noncomputable def leadB (vars:Int) (ts:List Tx):Bool:=decide ((rdP vars ts).isSome=true/\0<ts.length)
def YI(w:World)(b:Bool)(t:Tx)(e:Ending)(w':World):Prop:=∃ s a n c,e = .returned (.tuple #[.agg #[.string s,.slice a n c],.bool b])/\Ext w w'/\An s=(if b then t.1 else [])/\SlI w' a n c (if b then t.2 else [])
theorem NH{ts:List Tx}(hT:AM w)(h:AH w a n c ts)(hs:∀ t∈ts,t.1.length<=570) :
 Calls prog 24 #[.agg #[.int .i64 vars,.slice a n c]] w (YI w (leadB vars ts) (ts.getD 0 tm0)):=by
 have G:=fun(b:World) (hE:Ext w b)=>qh (D7 (vars:=vars) (hT.ext hE) (h.ext hE) hs);obtain⟨r,Q⟩:∃ r,leadB vars ts=r:=⟨_,rfl⟩;rw[Q];unfold leadB at Q;have i:=h.len;obtain⟨Z,q⟩:∃ Z,(rdP vars ts).isSome=Z:=⟨_,rfl⟩
 have J:Hid (Z=true->0<n->(ts.getD 0 tm0).2.length<=6):=qh (fun h1 h2=>by
  subst h1;obtain⟨l,hl⟩:=iY.1 q;have h3:=AW hl;have h4:=CU (h3.2.2.2.1.1 0 (by omega));have:=h3.1.2
  omega)
 rw[q,i]at Q;rw[q]at G;clear q;have W:=qh Q;have HL:=qh i;clear Q i;have ad:n<=maxLen:=by obtain⟨V,hS,_⟩:=h;exact hS.le
 go_enter func24,ntmps24
 go_upto_region 1 with(fail)
 refine Cf ?_;intro w0 B A L aa;have D:Arr w0 (w.heap.size+1) 26 (tmL ⟨#[]⟩ none 0 0):=L;have t0:=A.c 0 rfl;have t1:=A.c 1 rfl;clear A L aa;by_cases s:0<n
 case neg =>
  have he:((n:Int) == 0)=true:=by simp;omega
  have HN:=qh s;clear s
  go_wp2_with(refine Aa (vs:=tmL ⟨#[]⟩ none 0 0) rfl rfl rfl rfl rfl A4 D rfl (CI _ _ _ _) ?_;intro w9 g f)
  refine gF (Ao rfl A4 rfl rfl g) rfl ?_;have j:r=false:=by rw[<-W.out];exact gR (fun h=>HN.out h.2)
  subst j;exact⟨⟨#[]⟩,none,0,0,rfl,B.grownR f (by omega),rfl,Sl.nil _⟩
 have he:((n:Int) == 0)=false:=by simp;omega
 go_wp2_with fail
 refine(G _ B).out.mono ?_;rintro e w1 ⟨rfl,p⟩;have C:=B.trans p;have E:=D.ext p;have q1:=p.cell t1;clear t0 t1 G;cases Z with
 | false =>
  have HN:=qh s
  go_wp2_with(refine Aa (vs:=tmL ⟨#[]⟩ none 0 0) rfl rfl rfl rfl rfl A4 E rfl (CI _ _ _ _) ?_;intro w9 g f)
  refine gF (Ao rfl A4 rfl rfl g) rfl ?_;have j:r=false:=by rw[<-W.out];exact gR (fun h=>by cases h.1)
  subst j;exact⟨⟨#[]⟩,none,0,0,rfl,C.grownR f (by omega),rfl,Sl.nil _⟩
 | true =>
  have j:r=true:=by rw[<-W.out];exact iA ⟨rfl,s⟩
  subst j;have a2:=qh (J.out rfl s);clear W J HL;obtain⟨V,hS,_,hq⟩:=h;obtain⟨s1,X,n1,c1,R,S,H⟩:=hq 0 s;clear hq;generalize ts.getD 0 tm0=tt at *
  have F:=hS.ext C;obtain⟨b1,o1,rfl,a6⟩:=F.rd s;clear a6;have hB:=Arr.new w1 26 (tmL ⟨#[]⟩ none 0 0)
  go_upto_region 4 with(first
   | (refine Bg rfl rfl A4 rfl F s ?_;rw[R])
   | (refine Aa (vs:=tmL s1 X n1 c1) rfl rfl rfl rfl rfl A4 hB rfl (CI _ _ _ _) ?_;intro I o P))
  have M:Ext w1 I:=((Ext.refl w1).alloc _).grownR P (lrf _);have z:=C.trans M;have N:=E.ext M;have a9:=fun(b:World) (m:Ext I b)=>qh (LE (H.ext (z.trans m)) (by have:=a2.out;have:=H.len;omega));have a0:=qh S;obtain⟨Y,O⟩:∃ x,w1.heap.size=x:=⟨_,rfl⟩;rw[O]at o |-;have x0:=o.c 0 rfl;have x1:=o.c 1 rfl;clear O o P hB S R H hS F q1 p D E s he
  refine Ab (by kernel_rfl) (fun b=>Ext I b)
   [he (.pointer (some ⟨Y,0,none⟩)),
 he (.string s1),
 he (.pointer (some ⟨Y,1,none⟩)),
 he (.slice X n1 c1),
 hp (fun v b=>IVl b I.heap.size v tt.2),
 hp (fun v b=>MVl b I.heap.size v s1 tt.2)]
   (by kernel_rfl) (fun _ _ e h=>h.trans e) ((Ext.refl I).drew) ⟨trivial,trivial,trivial,trivial,IVl.x _ _,MVl.x _ _ _,trivial⟩ ⟨?o0,?o1,?o2,?o3,?o4,?o5,trivial⟩ ?fin
  case o0=>exact ofa (d:=0)
  case o1 | o3=>exact ol
  case o2=>exact ofa (d:=1)
  case o4 =>
   refine Ag rfl fun ρ b m ab ac h => ?_;have e1:ρ (.tmp 22)=(.slice X n1 c1):=h.2.1;have ae:=m.cell x0;have af:=m.cell x1;refine⟨87,#[.slice X n1 c1],by go_simp,(a9 b m).out.mono ?_⟩;rintro e w' ⟨v,rfl,a3,a',n',c',rfl,a4⟩;exact⟨_,rfl,a3,a',n',c',rfl,a4.mono m.size⟩
  case o5 =>
   refine AE rfl ?_;intro ρ b hp m h;have e0:ρ (.tmp 20)=(.string s1):=h.1;obtain⟨v1,e1,y,U,K,rfl,h7⟩:=h.2.1;refine⟨.agg #[.string s1,.slice y U K],b,?_,Ext.refl b,y,U,K,rfl,h7⟩;go_simp
  case fin =>
   intro b m;rintro _ _;rintro _ ⟨y,U,K,rfl,T⟩;change wpList _ _ _ _ _ _;simp only[lq,lw,lx,lz,Act.put,lj,lk,ly];have a5:=N.ext m
   go_wp2_with(refine Aa (vs:=tmL s1 y U K) rfl rfl rfl rfl rfl A4 a5 rfl (CI _ _ _ _) ?_;intro w9 g f)
   have a8:blk y=none\/blk y≠some (w.heap.size+1):=by
    cases hb:blk y with
    | none=>exact .inl rfl
    | some k =>
     refine .inr fun h => ?_;injection h with h;have h1:=(T.lt hb).1;have h2:=N.lt;omega
   exact gF (Ao rfl A4 rfl rfl g) rfl ⟨s1,y,U,K,rfl,(z.trans m).grownR f (by omega),by rw[gY rfl];exact a0.out,(T.kept f a8).sl⟩
section
variable {P:Program} {ops:Array Oper} {hs:List Hd} {a0:Act} {C:World->Prop} {i:Nat} {o:Oper}
theorem Pz{p:Value->World->Prop}(e:Cr hs o=some true)
 (h:∀ a w,DE a->C w->Cq ops hs a0 o a w o.op.operands.toList->∃ v b,(execOp a o).run P w = .ok (.value v) b/\Ext w b/\p v b) :
 obl P C ops hs a0 i o ⟨false,.pr p,cons⟩:=by
 unfold obl;rw[e];intro a w hp c f;obtain⟨v,b,d,h1,h2⟩:=h a w hp c f;rw[d];exact⟨h1,h2⟩
end
theorem RS{ts:List Tx}{o:Option (List Pl.Tm)}(a:rdR va ts=o):∃ N:Nat,(if o.isSome=true then va else 0)=(N:Int)/\N<=6/\TB N (o.getD []):=by
 cases o with
 | none=>exact⟨0,rfl,by omega,fun t b=>by cases b⟩
 | some l =>
  have h1:=AU a;exact⟨va.toNat,by simp;omega,by omega,Qr a⟩
theorem MF{ts:List Tx}(h:AH w A n c ts)(J:∀ t∈ts,t.1.length<=10000) :
 Calls prog 34 #[.agg #[.int .i64 vars,.slice A n c]] w fun e S=>e = .returned (.int .i64 (Lb ((rdR vars ts).getD [])))/\Ext w S:=by
 have a:=fun(K:World) (L:Ext w K)=>Bv (vars:=vars) (w:=K) h L J;obtain⟨o,E⟩:∃ o,rdR vars ts=o:=⟨_,rfl⟩;obtain⟨q,m,O,k⟩:=RS E;rw[E]at a |-;unfold C7 at a;rw[m]at a;have r:=qh a;have v:=qh k;clear h J E m k a
 go_enter func34,ntmps34
 go_upto_region 1 with(fail)
 refine AP ?_;intro W g f P;have Q:=f.c 0 rfl;have R:=f.c 1 rfl;have a:=r.out _ g;clear f;have d:=qh a;clear a
 go_wp2_with fail
 refine d.out.mono ?_;rintro e b ⟨y,F,z,rfl,i,j⟩;have H:=Arr.new b 44 (pL 0 none 0 0);have D:(pL (q:Int) y F z).toArray=#[.int .i64 (q:Int),.slice y F z]:=rfl;clear d
 go_upto_region 2 with(refine Aa (vs:=pL (q:Int) y F z) rfl rfl rfl rfl rfl AJ H rfl (AT _ _ _ _) ?_;intro G p I)
 have hF:Ext b G:=((Ext.refl b).alloc _).grownR I (lrf _);have M:=i.trans hF;have s:=qh (j.ext hF);obtain⟨V,l⟩:∃ x,b.heap.size=x:=⟨_,rfl⟩;rw[l]at p |-;have T:=p.c 0 rfl;have U:=p.c 1 rfl;have C:=qh (ME (N:=q) (by omega) s.out.sl v.out);clear H D I p l j hF i Q R
 go_wp2_with fail
 refine C.out.mono ?_;rintro e X ⟨rfl,B⟩;go_wp2;go_ret;exact⟨rfl,(g.trans M).trans B⟩
def Gr(l:List Pl.Tm)(m:List Int):List UInt8:=((l.find? (fun t=>decide (t.1=m))).map (fun t=>txt t.2)).getD [48]
theorem QJ{ts:List Tx}(h:AH w A n c ts)(hx:SlI w B m d xs)(hs:∀ t∈ts,t.1.length<=10000) :
 Calls prog 36 #[.agg #[.int .i64 vars,.slice A n c],.slice B m d] w fun e w'=>∃ s,e = .returned (.string s)/\An s=Gr ((rdR vars ts).getD []) xs/\Ext w w':=by
 have b:=fun(wx:World) (hC:Ext w wx)=>Bv (vars:=vars) (w:=wx) h hC hs
 have a6:∀ l,rdR vars ts=some l->∀ t∈l,Pl.RB 1000000 t.2:=fun l hl t ht=>by
  have h1:=Et hl hs t ht;exact⟨Af h1.1 (by omega),Af h1.2 (by omega)⟩
 obtain⟨o,ho⟩:∃ o,rdR vars ts=o:=⟨_,rfl⟩;obtain⟨P,a7,ao,M⟩:=RS ho;have L:∀ t∈o.getD [],Pl.RB 1000000 t.2:=by
  cases o with
  | none=>intro t ht;cases ht
  | some l=>exact a6 l ho
 rw[ho]at b |-;unfold C7 at b;rw[a7]at b;obtain⟨l,hl⟩:∃ l,o.getD []=l:=⟨_,rfl⟩;rw[hl]at b M L |-;have ae:=qh b;have af:=qh M;have ad:=qh L;have ac:=qh hx.len;have an:=hx.le;clear h hs ho a7 M a6 L b hl
 go_enter func36,ntmps36
 go_upto_region 1 with(fail)
 refine AP ?_;intro w0 K J ap;have p0:=J.c 0 rfl;have p1:=J.c 1 rfl;have b:=ae.out _ K;clear J;have H:=qh b;clear b
 go_wp2_with fail
 refine H.out.mono ?_;rintro e C ⟨a1,I,c1,rfl,Y,Z⟩;have hY:=Arr.new C 44 (pL 0 none 0 0);have ai:(pL (P:Int) a1 I c1).toArray=#[.int .i64 (P:Int),.slice a1 I c1]:=rfl;clear H
 go_upto_region 2 with(refine Aa (vs:=pL (P:Int) a1 I c1) rfl rfl rfl rfl rfl AJ hY rfl (AT _ _ _ _) ?_;intro a9 hB hg)
 have hF:Ext C a9:=((Ext.refl C).alloc _).grownR hg (lrf _);have hG:=Y.trans hF;have S:=qh (Z.ext hF);obtain⟨Y1,a2⟩:∃ x,C.heap.size=x:=⟨_,rfl⟩;rw[a2]at hB |-;have D:=hB.c 0 rfl;have E:=hB.c 1 rfl;have hT:=S.out.sl;have z:=K.trans hG;have aj:=hT.le;unfold maxLen at aj;have y:=qh hT.len;clear hY ai hg hB a2 Z hF Y hG p0 p1 S K;go_wp2
 go_loopw[7] (fun iv wr=>∃ k:Nat,iv = .int .i64 k/\k<=I/\Ext a9 wr/\Hid ((l.take k).find? (fun t=>decide (t.1=xs))=none)) (fun iv _=>I-(intOf iv).toNat)
 case atStart=>exact⟨0,rfl,gO _,Ext.refl _,qh rfl⟩
 case round =>
  obtain⟨k,rfl,hk,F,HN⟩:=hrel;have D:=F.cell D;have E:=F.cell E;by_cases p:k<I
  case neg =>
   have aa:¬ (k:Int)<I:=by omega
   have Q:Hid (Gr l xs=[48]):=qh (by
    have h1:=HN.out;rw[gG (by have:=y.out;omega)]at h1;unfold Gr;rw[h1]
    rfl)
   go_wp2;go_ret;exact⟨_,rfl,by rw[Q.out];rfl,z.trans F⟩
  have aa:(k:Int)<I:=by omega
  by_cases hm:(m:Int)=P
  case neg =>
   have ak:((m:Int) == P)=false:=by simpa using hm
   have Q:Hid (Gr l xs=[48]):=qh (by
    unfold Gr
    rw[List.find?_eq_none.2 (fun t ht=>by
     have h1:=(af.out t ht).1;have h2:=ac.out;simp only[jV];rintro rfl
     omega)]
    rfl)
   go_wp2;go_ret;exact⟨_,rfl,by rw[Q.out];rfl,z.trans F⟩
  have ak:((m:Int) == P)=true:=by simpa using hm
  have a0:=hT.ext F;obtain⟨T,oo,al,s1,x2,m2,d2,y2,g2,h2,ee,kk,ff,rfl,O,f,R,a5,a4,a8⟩:=a0.row p;have U:wr.cell? ⟨T,oo+k*5,none⟩=some (.bool s1):=by have:=O.cl p (j:=0) (by omega);rw[f]at this;exact this
  have V:wr.cell? ⟨T,oo+k*5+1,none⟩=some (.slice x2 m2 d2):=by have:=O.cl p (j:=1) (by omega);rw[f]at this;exact this
  have W:wr.cell? ⟨T,oo+k*5+2,none⟩=some (.bool false):=by have:=O.cl p (j:=2) (by omega);rw[f]at this;exact this
  have X:wr.cell? ⟨T,oo+k*5+3,none⟩=some (.slice y2 g2 h2):=by have:=O.cl p (j:=3) (by omega);rw[f]at this;exact this
  have am:wr.cell? ⟨T,oo+k*5+4,none⟩=some (.slice ee kk ff):=by have:=O.cl p (j:=4) (by omega);rw[f]at this;exact this
  have G:l.getD k tz∈l:=im (getD_some (by have:=y.out;omega));have r:=qh (Fg a8.1 (hx.ext (z.trans F)));have N:=qh (fun(wy:World) (hC:Ext wr wy)=>KK (v := .agg #[.bool s1,.slice x2 m2 d2,.bool false,.slice y2 g2 h2]) (q:=(l.getD k tz).2) ⟨s1,x2,m2,d2,y2,g2,h2,rfl,R,a5.ext hC,a4.ext hC⟩ (ad.out _ G))
  have i:Hid (decide ((l.getD k tz).1=xs)=true->Gr l xs=txt (l.getD k tz).2):=qh (fun hd=>by
   unfold Gr;rw[NF (d:=tz) HN.out (by have:=y.out;omega) hd]
   rfl)
  have g:Hid (decide ((l.getD k tz).1=xs)=false->(l.take (k+1)).find? (fun t=>decide (t.1=xs))=none):=qh (fun hd=>Lc (d:=tz) HN.out (by have:=y.out;omega) hd);generalize l.getD k tz=t at *
  obtain⟨bq,a3⟩:∃ bq,decide (t.1=xs)=bq:=⟨_,rfl⟩;rw[a3]at r i g;clear a3 G O f a5 a4 a8 R a0 hm
  go_wp2_with fail
  refine r.out.mono ?_;rintro e w4 ⟨rfl,ag⟩;have a:=ag.ext;cases bq with
  | true =>
   have D:=a.cell D;have E:=a.cell E;have U:=a.cell U;have V:=a.cell V;have W:=a.cell W;have X:=a.cell X;have ab:=qh (N.out w4 a);have Q:=qh (i.out rfl);clear i g N r
   go_wp2_with fail
   refine ab.out.mono ?_;rintro e w5 ⟨rfl,ah⟩;go_wp2;go_ret;exact⟨_,rfl,by rw[Q.out];rfl,(z.trans (F.trans a)).trans ah⟩
  | false =>
   have HM:=qh (g.out rfl);clear i g N r;go_wp2;go_roundw
   case rel=>exact⟨k+1,by go_num,by omega,F.trans a,HM⟩
   case measure=>simp[intOf];omega
def PV4(va:Int)(r:Bool)(v:Value):Prop:=∃ a n c,v = .agg (pL va a n c).toArray/\(n=0<->r=true)
def PV5(r:Bool)(v:Value):Prop:=∃ a n c,v = .slice a n c/\(n=0<->r=true)
def PV6(r:Bool)(v:Value):Prop:=∃ n:Nat,v = .int .i64 n/\(n=0<->r=true)
open Classical in
noncomputable def sameB (la lb:List Pl.Tm):Bool:=decide (∀ x,Pl.coef (la ++ Pl.scl (-1) lb) x=0)
theorem Wx:Pl.RB 48 (-1):=⟨Cu (by omega),Cu (by omega)⟩
theorem Zj:Pl.RB 1000000 (-1):=Wx.mono (by omega)
open Classical in
theorem RQ(hN:N<=12){va vb:Int}{a b:Option Addr}{n c m d:Nat}{la lb:List Pl.Tm}{w:World}(ha:TSl w b0 a n c la)(hb:TSl w b0 b m d lb)(V:va=vb->TB N la)(W:va=vb->TB N lb)(hw:b0<=w.heap.size)(hn:n<=10000)(hm:m<=10000)(rb:∀ t∈lb,Pl.RB 1000000 t.2)(hs:va=vb->Pl.SubOK (la ++ Pl.scl (-1) lb)) :
 Calls prog 93 #[.agg (pL va a n c).toArray,.agg (pL vb b m d).toArray] w fun e E=>e = .returned (.bool (decide (va=vb) && sameB la lb))/\Ext w E:=by
 obtain⟨g,p⟩:∃ r,(decide (va=vb) && sameB la lb)=r:=⟨_,rfl⟩;rw[p];have j:=qh p;clear p
 go_enter func93,ntmps93
 go_upto_region 1 with(fail)
 refine Cf ?_;intro R o A B a4;have p0:=A.c 0 rfl;have p1:=A.c 1 rfl;have q0:=B.c 0 rfl;have q1:=B.c 1 rfl;clear A B a4;by_cases Q:va=vb
 case neg =>
  have he:(va == vb)=false:=by simpa using Q
  have S:Hid (g=false):=qh (by rw[<-j.out,gR Q];rfl);clear Q V W hs j;go_wp2
  go_quiet (fail)
  go_wp2;go_ret;exact⟨by rw[S.out];rfl,o.drewN _⟩
 subst Q;have hr:sameB la lb=g:=by have h1:=j.out;rwa[iA rfl,Bool.true_and]at h1
 clear j;have HP:=qh (fun(f:World) (i:Ext R f) (v:Value) (hq:QV f v (-1))=>K3 hN (va:=va) (vb:=va) (ha.ext (o.trans i)) hq (hb.ext (o.trans i)) (V rfl) (W rfl) (gJ hw (o.trans i).size) hn hm Zj rb (hs rfl))
 have T:Hid (∀ q:List Pl.Tm,Pl.Canon N q->(∀ x,Pl.coef q x=Pl.coef (la ++ Pl.scl (-1) lb) x)->(q.length=0<->g=true)):=qh (fun q F G=>by
  rw[<-hr];unfold sameB;rw[jV];constructor
  · intro h0 x;rw[<-G x,gQ h0];rfl
  · intro hz;have h1:q=[]:=Pl.canon_ext F (Pl.Canon.nil _) (fun x=>by rw[G x,hz x];rfl);rw[h1]
    rfl)
 clear hr ha hb V W hs rb;have y:=fun(f:World) (i:Ext R f)=>qh (And.intro (i.cell p0) (And.intro (i.cell p1) (And.intro (i.cell q0) (i.cell q1))))
 refine Ab (by kernel_rfl) (fun f=>Ext R f)
  [he (.pointer (some ⟨w.heap.size,0,none⟩)),
 he (.int .i64 va),
 he (.pointer (some ⟨(w.heap.size+1),0,none⟩)),
 he (.int .i64 va),
 he (.bool true),
 he (.bool true),
 he (.agg #[.int .i64 va,.slice a n c]),
 hp (fun v f=>QV f v (-1)),
 he (.agg #[.int .i64 va,.slice b m d]),
 hp (fun v f=>PV4 va g v),
 hp (fun v f=>PV5 g v),
 hp (fun v f=>PV6 g v),
 he (.bool g),
 he (.bool g)]
  (by kernel_rfl) (fun _ _ e h=>h.trans e) ((Ext.refl R).drew) ⟨trivial,trivial,trivial,trivial,trivial,trivial,trivial,fun v w E e h=>QV.ext h e,trivial,fun v w E e h=>h,fun v w E e h=>h,fun v w E e h=>h,trivial,trivial,trivial⟩ ⟨?o0,?o1,?o2,?o3,?o4,?o5,?o6,?o7,?o8,?o9,?o10,?o11,?o12,?o13,trivial⟩ ?fin
 case o0 | o2=>exact ofa (d:=0)
 case o1 | o3=>exact ol
 case o5=>exact omv
 case o6 | o8=>exact ol2
 case o4 =>
  refine Aj rfl fun l f i k h => ?_;have e0:l (.tmp 6)=(.int .i64 va):=h.1;have e1:l (.tmp 8)=(.int .i64 va):=h.2.1;obtain⟨I,J,K,L⟩:=(y f i).out;go_simp
  try (first | (intros;omega) | exact gI _ (by omega))
 case o7 =>
  refine Ag rfl fun l f i k a3 h => ?_;obtain⟨I,J,K,L⟩:=(y f i).out;refine⟨118,#[.int .i64 (-1)],by go_simp,(RI (z := -1) (by omega)).mono ?_⟩;rintro e E ⟨s',U,n',X,b',m',d',rfl,C,Z,a0,a1⟩;exact⟨_,rfl,C,s',U,n',X,b',m',d',rfl,Z,a0,a1⟩
 case o9 =>
  refine Ag rfl fun l f i k a3 h => ?_;have e1:l (.tmp 11)=(.agg #[.int .i64 va,.slice a n c]):=h.2.1;obtain⟨v2,e2,i2⟩:=h.2.2.1;have e3:l (.tmp 13)=(.agg #[.int .i64 va,.slice b m d]):=h.2.2.2.1;obtain⟨I,J,K,L⟩:=(y f i).out;refine⟨119,#[.agg #[.int .i64 va,.slice a n c],v2,.agg #[.int .i64 va,.slice b m d]],by go_simp,(HP.out f i v2 i2).mono ?_⟩;rintro e E ⟨U,n',X,M,rfl,C,a2,-,D,H⟩;exact⟨_,rfl,C,U,n',X,rfl,by rw[<-a2.sl.len];exact T.out M D H⟩
 case o10 =>
  refine Pz rfl ?_;intro l f hp i h;obtain⟨v0,e0,O,s,P,rfl,h7⟩:=h.1;refine⟨.slice O s P,f,?_,Ext.refl f,O,s,P,rfl,h7⟩;have Y:l (.tmp 14) = .agg #[.int .i64 va,.slice O s P]:=e0;clear e0;simp[execOp,Y,Zl]
 case o11 =>
  refine Pz rfl ?_;intro l f hp i h;obtain⟨v0,e0,O,s,P,rfl,h7⟩:=h.1;refine⟨.int .i64 s,f,?_,Ext.refl f,s,rfl,h7⟩;go_simp
 case o12 =>
  refine Aj rfl fun l f i k h => ?_;obtain⟨v0,e0,s,rfl,h7⟩:=h.1;have hb:((s:Int) == 0)=g:=by
   cases g with
   | true=>simp[h7.2 rfl]
   | false=>simp;intro h9;have:=h7.1 (by omega);cases this
  go_simp
 case o13 =>
  refine Aj rfl fun l f i k h => ?_;have e0:l (.tmp 10)=(.bool true):=h.1;have e1:l (.tmp 17)=(.bool g):=h.2.1;go_simp
 case fin =>
  intro f i;rintro _ _;rintro _ _;rintro _ _;rintro _ _;change wpList _ _ _ _ _ _;simp only[lq,lw,lx,lz,Act.put,lj,lk,ly];go_wp2;go_ret;exact⟨rfl,o.trans i⟩
open Classical in
noncomputable def eqR (va vb:Int) (oa ob:Option (List Pl.Tm)):Bool:=match oa,ob with
 | some la,some lb=>decide (va=vb) && sameB la lb
 | _,_=>false
theorem PD(va vb:Int)(oa:Option (List Pl.Tm)):eqR va vb oa none=false:=by cases oa <;> rfl
theorem Tj{ts:List Tx}{o:Option (List Pl.Tm)}(a:rdR va ts=o):(o.getD []).length<=4096:=by
 cases o with
 | none=>exact gO _
 | some l =>
  have h1:=AU a;show l.length<=_;rw[h1.1,iM];exact h1.2.1
theorem PE{ta tb:List Tx}(ha:AH w a n c ta)(hb:AH w b m d tb)(sa:∀ t∈ta,t.1.length<=10000)(sb:∀ t∈tb,t.1.length<=10000)(I:∀ la T,rdR va ta=some la->rdR vb tb=some T->va=vb->Pl.SubOK (la ++ Pl.scl (-1) T)) :
 Calls prog 32 #[.agg #[.int .i64 va,.slice a n c],.agg #[.int .i64 vb,.slice b m d]] w fun e w'=>e = .returned (.bool (eqR va vb (rdR va ta) (rdR vb tb)))/\Ext w w':=by
 have f:=fun(U:World) (hC:Ext w U)=>Bv (vars:=va) (w:=U) ha hC sa;have g:=fun(U:World) (hC:Ext w U)=>Bv (vars:=vb) (w:=U) hb hC sb
 have Z:∀ l,rdR vb tb=some l->∀ t∈l,Pl.RB 1000000 t.2:=fun l hl t ht=>by
  have h1:=Et hl sb t ht;exact⟨Af h1.1 (by omega),Af h1.2 (by omega)⟩
 obtain⟨oa,G⟩:∃ o,rdR va ta=o:=⟨_,rfl⟩;obtain⟨ob,H⟩:∃ o,rdR vb tb=o:=⟨_,rfl⟩;obtain⟨L,a0,ak,P⟩:=RS G;obtain⟨V,a3,al,Q⟩:=RS H;have z:=qh (Tj G);have A:=qh (Tj H);rw[G]at f I |-;rw[H]at g Z I |-;unfold C7 at f g;rw[a0]at f;rw[a3]at g;obtain⟨r,hr⟩:∃ r,eqR va vb oa ob=r:=⟨_,rfl⟩;rw[hr];have HR:=qh hr;have D:=qh a0;have E:=qh a3;have j:=qh P;have k:=qh Q;have C:=qh Z;have B:=qh I;have a5:=qh f;have M:=qh g;clear ha hb sa sb G H a0 a3 P Q Z I g f hr
 go_enter func32,ntmps32
 go_upto_region 1 with(fail)
 refine Cf ?_;intro w0 Y W X ah;have p0:=W.c 0 rfl;have p1:=W.c 1 rfl;have q0:=X.c 0 rfl;have q1:=X.c 1 rfl;have f:=a5.out _ Y;have a4:=qh (fun(U:World) (hC:Ext w0 U)=>M.out U (Y.trans hC));clear W X ah a5 M;have R:=qh f;clear f
 go_wp2_with fail
 refine R.out.mono ?_;rintro e J ⟨a1,n1,c1,rfl,a6,a8⟩;have hY:=Arr.new J 44 (pL 0 none 0 0);have q:(pL (L:Int) a1 n1 c1).toArray=#[.int .i64 (L:Int),.slice a1 n1 c1]:=rfl;clear R
 go_upto_region 2 with(refine Aa (vs:=pL (L:Int) a1 n1 c1) rfl rfl rfl rfl rfl AJ hY rfl (AT _ _ _ _) ?_;intro ai F hg)
 have hF:Ext J ai:=((Ext.refl J).alloc _).grownR hg (lrf _);have y:=a6.trans hF;have i:=qh (a8.ext hF);obtain⟨Y1,v⟩:∃ x,J.heap.size=x:=⟨_,rfl⟩;rw[v]at F |-;have ad:=F.c 0 rfl;have ae:=F.c 1 rfl;have O:=y;replace q0:=y.cell q0;replace q1:=y.cell q1;clear hY q hg F v a8 hF a6 y p0 p1;have S:=qh (a4.out _ O);clear a4
 go_wp2_with fail
 refine S.out.mono ?_;rintro e K ⟨a2,n2,c2,rfl,a7,a9⟩;have hY:=Arr.new K 44 (pL 0 none 0 0);have q:(pL (V:Int) a2 n2 c2).toArray=#[.int .i64 (V:Int),.slice a2 n2 c2]:=rfl;clear S
 go_upto_region 3 with(refine Aa (vs:=pL (V:Int) a2 n2 c2) rfl rfl rfl rfl rfl AJ hY rfl (AT _ _ _ _) ?_;intro aj F hg)
 have hF:Ext K aj:=((Ext.refl K).alloc _).grownR hg (lrf _);have y:=a7.trans hF;have s:=qh (a9.ext hF);obtain⟨Y2,v⟩:∃ x,K.heap.size=x:=⟨_,rfl⟩;rw[v]at F |-;have am:=F.c 0 rfl;have an:=F.c 1 rfl;have p:=Y.trans (O.trans y);replace ad:=y.cell ad;replace ae:=y.cell ae;replace i:=qh (i.out.ext y);clear hY q hg F v a9 hF a7 y q0 q1;cases oa with
 | none =>
  obtain rfl:r=false:=by rw[<-HR.out];cases ob <;> rfl
  try simp only[jz]
  clear HR D E j k i s C B z A
  go_wp2_with fail
  go_ret;exact⟨rfl,p⟩
 | some la =>
  cases ob with
  | none =>
   obtain rfl:r=false:=by rw[<-HR.out];rfl
   try simp only[jz,jr]
   clear HR D E j k i s C B z A
   go_wp2_with fail
   go_ret;exact⟨rfl,p⟩
  | some T =>
   try simp only[jr]
   have h1:va=(L:Int):=D.out;have h2:vb=(V:Int):=E.out;have ab:=i.out.sl.len;have ac:=s.out.sl.len;have q:=z.out;have aa:=A.out;have ag:=qh (RQ (N:=L) (va:=(L:Int)) (vb:=(V:Int)) (by omega) i.out.sl s.out.sl (fun _=>j.out) (fun h=>(show V=L by omega) ▸ k.out) p.size (by simp only[gP]at ab q;omega) (by simp only[gP]at ac aa;omega) (C.out T rfl) (fun h=>B.out la T rfl rfl (by omega)));have HE:Hid (eqR va vb (some la) (some T)=(decide ((L:Int)=(V:Int)) && sameB la T)):=qh (by rw[<-h1,<-h2];rfl)
   obtain rfl:r=(decide ((L:Int)=(V:Int)) && sameB la T):=HR.out.symm.trans HE.out;clear HR h1 h2 ab ac q aa D E j k i s C B z A HE
   go_wp2_with fail
   refine ag.out.mono ?_;rintro e w5 ⟨rfl,af⟩;go_wp2;go_ret;exact⟨rfl,p.trans af⟩
theorem PF{t:Tx}(h:(AS vars t).isSome=true):(txt (rdU t).2,(rdU t).1)=t:=by
 obtain⟨m,a⟩:=iY.1 h;have h3:=(Bm a).1;have h4:(rdU t).2=m.2:=by unfold rdU;rw[h3];rfl
 rw[h4,<-Cp h3];rfl
theorem Qy{ts:List Tx}{l:List Pl.Tm}(h:rdR va ts=some l):l.map (fun t=>(txt t.2,t.1))=ts:=by
 have h1:=AU h;rw[h1.1,jO]
 conv=>rhs;rw[<-List.map_id ts]
 refine kh fun t b => ?_;obtain⟨i,a,he⟩:=kP b;have h2:=h1.2.2.2.2.1 i a;rw[gqq,gD a,gP,he]at h2;exact PF h2
theorem YG{la lb:List Pl.Tm}(a:Pl.Canon n la)(b:Pl.Canon n lb):sameB la lb=decide (la=lb):=by
 unfold sameB;refine kj.2 ⟨fun h=>Pl.canon_ext a b (fun x => ?_),fun h x => ?_⟩
 · have h1:=h x;rw[Pl.coef_app,Pl.coef_scl]at h1
   grind
 · rw[Pl.coef_app,Pl.coef_scl,h]
   grind
theorem Zk(va vb:Int)(a b:List Tx):eqR va vb (rdR va a) (rdR vb b)=(decide (a=b) && decide (va=vb) && (rdP va a).isSome):=by
 rw[<-BQ];cases h1:rdR va a with
 | none=>simp[eqR]
 | some la =>
  by_cases d:va=vb
  · subst d;cases h2:rdR va b with
    | none =>
     have c:a≠b:=by rintro rfl;rw[h1]at h2;cases h2
     simp[PD,c]
    | some lb =>
     have e:=YG (Dk h1) (Dk h2);have he:(la=lb)<->(a=b):=⟨fun h=>by rw[<-Qy h1,<-Qy h2,h],fun h=>by subst h;rw[h1]at h2;exact lZ h2⟩;show(decide (va=va) && sameB la lb)=_;rw[e];simp[he]
  · cases rdR vb b with
    | none=>simp[PD,d]
    | some lb =>
     show(decide (va=vb) && sameB la lb)=_;simp[d]
theorem Y5(va:Int)(ts:List Tx)(m:List Int):Gr ((rdR va ts).getD []) m=coefP va ts m:=by
 unfold coefP;rw[<-BQ];cases h:rdR va ts with
 | none=>rfl
 | some l =>
  rw[gY (show(some l).isSome=true from rfl)];have h1:=AU h;show Gr l m=_;unfold Gr;rw[h1.1,List.find?_map,Option.map_map];have hp:((fun t:Pl.Tm=>decide (t.1=m)) ∘ rdU)=fun t:Tx=>decide (t.2=m):=rfl;rw[hp];cases b:ts.find? (fun t=>decide (t.2=m))with
  | none=>rfl
  | some t =>
   obtain⟨i,a,he⟩:=kP (List.mem_of_find?_eq_some b);have h2:=h1.2.2.2.2.1 i a;rw[gqq,gD a,gP,he]at h2;show txt (rdU t).2=t.1;exact iP Prod.fst (PF h2)
theorem XV(va:Int)(ts:List Tx):((rdR va ts).isSome && decide (0<((rdR va ts).getD []).length))=leadB va ts:=by
 unfold leadB;rw[<-BQ];cases h:rdR va ts with
 | none=>simp
 | some l =>
  have h1:=AU h;simp[h1.1]
end Go.Proofs.YtlbmnokpiilfpaaGreatDoor
namespace Go.Proofs.YtlbmnokpiilfpaaGreatDoor
open Tryz Go Go.RowKit Go.ChangeShapes Go.WideShapes Go.ChangeAt
variable {held:Bool} {base c fuel n:Nat} {a:Option Addr} {w:World}
theorem Qz{H:Type}{enc:TypeId×Value->H}{x:DataW H×List MemPlace}
 (h:DataW.trod enc prog w base (fun _=>true) held fuel 24 [.slice a n c]=some x):∃ b,SlI w a n c b:=by
 obtain⟨f,i,g,b,e,d⟩:=KS h;cases e;exact⟨b,d⟩
end Go.Proofs.YtlbmnokpiilfpaaGreatDoor
