/- Part Pz19. -/
import Derived.Test.YtlbmnokpiilfpaaGreatDoorPz18

set_option linter.all false
set_option maxRecDepth 100000
set_option maxHeartbeats 100000000
namespace Go.Proofs.YtlbmnokpiilfpaaGreatDoor
open Tryz Go Go.RowKit
variable {p:Addr} {s s':ByteArray} {n' z:Int} {gs:List (List Int)} {m:List (List Int×Value)} {rows:List (List Value)} {l:List UInt8} {cs:List Value} {RM b b' base c co d g k n no:Nat} {a a' ag ao:Option Addr} {row:Option Nat} {P:Program} {q x y:Rat} {T e e' ty ty':TypeId} {v v':Value} {w w' wb:World}
def ShQ(l:List UInt8)(n:Int)(d:Nat):Prop:=AD l=some (mkRat n d)/\n.natAbs<1000000000/\0<d/\d<1000000000
theorem FI:Agg prog 209 2:=⟨by kernel_rfl,by kernel_rfl⟩
def shL(n d:Int):List Value:=[.int .i64 n,.int .i64 d]
theorem H4(n d:Int):∀ v∈shL n d,v.oneCell'=true:=by
 intro v a;simp only[shL,qj,rI,vQ]at a;rcases a with rfl|rfl <;> rfl
def lJ(w:World)(l:List UInt8)(e:Ending)(w':World):Prop:=Ext w w'/\((∃ n d,e = .returned (.tuple #[.agg (shL n (d:Nat)).toArray,.bool true])/\ShQ l n d)\/e = .returned (.tuple #[.agg (shL 0 0).toArray,.bool false]))
theorem ae(hs:s.size<=1000000):Calls prog 225 #[.string s] w (lJ w (An s)):=by
 have Z:=fun(wx:World)=>qh (Sg s wx hs);obtain⟨⟨⟨g,f,a⟩,ok⟩,hP⟩:∃ P,C9 (An s)=P:=⟨_,rfl⟩;simp only[hP]at Z;have HP:=qh hP;have ao:(CC g f a).toArray=#[.bool g,.string ⟨f.toArray⟩,.string ⟨a.toArray⟩]:=rfl;have aq:(shL 0 0).toArray=#[.int .i64 0,.int .i64 0]:=rfl;clear hP
 go_enter func225,ntmps225
 go_upto_region 1 with(fail)
 refine AP ?_;intro w0 a1 a0 ag;have hR:Arr w0 w.heap.size 209 (shL 0 0):=a0;clear a0 ag;by_cases h20:(20:Int)<(s.size:Int)
 · go_wp2_with(refine Aa (vs:=shL 0 0) rfl rfl rfl rfl rfl FI hR rfl (H4 _ _) ?_;intro J b d)
   refine py (Ao rfl FI rfl rfl b) rfl ?_;exact⟨a1.grownR d (lrf _),Or.inr rfl⟩
 · go_wp2_with fail
   refine(Z _).out.mono ?_;rintro e w1 ⟨rfl,M⟩;have hY:=Arr.new w1 175 (CC false [] [])
   go_upto_region 4 with(refine Aa (vs:=CC g f a) rfl rfl rfl rfl rfl Bj hY rfl (CT _ _ _) ?_;intro w2 l a5)
   have O:Ext w1 w2:=((Ext.refl w1).alloc _).grownR a5 (lrf _);have p:=(hR.ext M).ext O;have B:=(a1.trans M).trans O;have f0:=l.c 0 rfl;have f1:=l.c 1 rfl;have f2:=l.c 2 rfl;clear hY a5 hR M O Z;cases ok with
   | false =>
    go_wp2_with(refine Aa (vs:=shL 0 0) rfl rfl rfl rfl rfl FI p rfl (H4 _ _) ?_;intro J b d)
    refine py (Ao rfl FI rfl rfl b) rfl ?_;exact⟨B.grownR d (lrf _),Or.inr rfl⟩
   | true =>
    have hS:=LR HP.out;by_cases ap:(9:Int)<(f.length:Int)
    · clear hS
      go_wp2_with(refine Aa (vs:=shL 0 0) rfl rfl rfl rfl rfl FI p rfl (H4 _ _) ?_;intro J b d)
      refine py (Ao rfl FI rfl rfl b) rfl ?_;exact⟨B.grownR d (lrf _),Or.inr rfl⟩
    · by_cases ak:(9:Int)<(a.length:Int)
      · clear hS
        go_wp2_with(refine Aa (vs:=shL 0 0) rfl rfl rfl rfl rfl FI p rfl (H4 _ _) ?_;intro J b d)
        refine py (Ao rfl FI rfl rfl b) rfl ?_;exact⟨B.grownR d (lrf _),Or.inr rfl⟩
      · have V:=qh (aO (s:=⟨f.toArray⟩) (w:=w2) (by rw[Cw];exact hS.dn) (by show f.toArray.size<=9;simp;omega));rw[Cw]at V;have HS:=qh hS;clear hS
        go_wp2_with fail
        refine V.out.mono ?_;rintro e w3 ⟨rfl,ac⟩;subst ac;have hN:W.decV f<1000000000:=by
         have h1:=W.decV_lt HS.out.dn;have h2:10^f.length<=10^9:=pR (by omega) (by omega);have h3:(10:Nat)^9=1000000000:=by decide
         omega
        have ai:W.decV a<1000000000:=by
         have h1:=W.decV_lt HS.out.dd;have h2:10^a.length<=10^9:=pR (by omega) (by omega);have h3:(10:Nat)^9=1000000000:=by decide
         omega
        obtain⟨o,t⟩:∃ o,Hid (AD (An s)=o/\o=if a=[]then some (mkRat (if g=true then -((W.decV f:Nat):Int)else((W.decV f:Nat):Int)) 1)else if(if g=true then -((W.decV f:Nat):Int)else((W.decV f:Nat):Int)).natAbs.gcd (W.decV a)=1 then some (mkRat (if g=true then -((W.decV f:Nat):Int)else((W.decV f:Nat):Int)) (W.decV a))else none):=⟨_,qh ⟨rfl,by unfold AD;simp[HP.out]⟩⟩;have E:=fun(wx:World)=>qh (aO (s:=⟨a.toArray⟩) (w:=wx) (by rw[Cw];exact HS.out.dd) (by show a.toArray.size<=9;simp;omega));rw[Cw]at E
        generalize W.decV f=N at *
        have hY:=Arr.new w3 209 (shL 0 0);have ab:(shL (N:Int) 1).toArray=#[.int .i64 (N:Int),.int .i64 1]:=rfl;clear V
        go_upto_region 7 with(refine Aa (vs:=shL (N:Int) 1) rfl rfl rfl rfl rfl FI hY rfl (H4 _ _) ?_;intro w4 i a6)
        have j:Ext w3 w4:=((Ext.refl w3).alloc _).grownR a6 (lrf _);have n:=B.trans j;have C:=p.ext j;have a8:=l.ext j;have f0:=j.cell f0;have f2:=j.cell f2;have U:w.heap.size<w3.heap.size:=p.lt;clear hY a6 j ab;by_cases k:a=[]
        · have L:Hid (o=some (mkRat (if g=true then -(N:Int)else(N:Int)) 1)):=qh (by rw[t.out.2,pP k]);clear E;subst k;cases g with
          | false =>
           have I:=i.c 0 rfl;have q1:=i.c 1 rfl;have X:(shL (N:Int) 1).toArray=#[.int .i64 (N:Int),.int .i64 1]:=rfl
           go_wp2_with(refine Aa (vs:=shL (N:Int) 1) rfl rfl rfl rfl rfl FI C rfl (H4 _ _) ?_;intro J b d)
           refine py (Ao rfl FI rfl rfl b) rfl ?_;exact⟨n.grownR d (lrf _),Or.inl ⟨(N:Int),1,rfl,(by first | exact⟨by rw[t.out.1,L.out];rfl,by omega,by omega,by omega⟩ | exact⟨by rw[t.out.1,L.out];simp,by omega,by omega,by omega⟩)⟩⟩
          | true =>
           have I:=i.c 0 rfl;have Y:IntKind.i64.wrap (-(N:Int)) = -(N:Int):=pq _ (by omega)
           go_upto_region 13 with(refine CD rfl rfl [.int .i64 (-(N:Int))] (shL (-(N:Int)) 1) (by kernel_rfl) rfl rfl rfl i (by simp[shL]) (by simp[Value.oneCell']) rfl ?_;intro w8 m q)
           have R:=n.grownR q (sI U);have T:=C.kept q (by simp;omega);clear I Y;have I:=m.c 0 rfl;have q1:=m.c 1 rfl;have X:(shL (-(N:Int)) 1).toArray=#[.int .i64 (-(N:Int)),.int .i64 1]:=rfl
           go_wp2_with(refine Aa (vs:=shL (-(N:Int)) 1) rfl rfl rfl rfl rfl FI T rfl (H4 _ _) ?_;intro J b d)
           refine py (Ao rfl FI rfl rfl b) rfl ?_;exact⟨R.grownR d (lrf _),Or.inl ⟨(-(N:Int)),1,rfl,(by first | exact⟨by rw[t.out.1,L.out];rfl,by omega,by omega,by omega⟩ | exact⟨by rw[t.out.1,L.out];simp,by omega,by omega,by omega⟩)⟩⟩
        · have al:a.isEmpty=false:=by cases a with | nil=>exact absurd rfl k | cons _ _=>rfl
          have ah:0<W.decV a:=by
           refine rN fun h0 => ?_;have h1:=W.dec_of_digs HS.out.dd k (fun c r e h=>absurd (by rw[e,h];rfl) HS.out.nd);rw[h0,W.dec_zero]at h1;exact HS.out.nd (by rw[<-h1];rfl)
          have L:Hid (o=if(if g=true then -(N:Int)else(N:Int)).natAbs.gcd (W.decV a)=1 then some (mkRat (if g=true then -(N:Int)else(N:Int)) (W.decV a))else none):=qh (by rw[t.out.2,pC k])
          go_wp2_with fail
          refine(E _).out.mono ?_;rintro e w5 ⟨rfl,ad⟩;subst ad;clear E k;generalize W.decV a=D at *
          go_upto_region 9 with(refine CD rfl rfl [.int .i64 (D:Int)] (shL (N:Int) (D:Int)) (by kernel_rfl) rfl rfl rfl i (by simp[shL]) (by simp[Value.oneCell']) rfl ?_;intro w6 z H)
          have a2:=n.grownR H (sI U);have a4:=C.kept H (by simp;omega);have aj:w1.heap.size<w3.heap.size:=l.lt;have a3:=a8.kept H (by simp;omega);have I:=z.c 0 rfl;have q1:=z.c 1 rfl;have a7:=qh (gA (x:=N) (y:=D) (w:=w6) (by omega) (by omega))
          have K:Hid (Nat.gcd N D=1->o=some (mkRat (if g=true then -(N:Int)else(N:Int)) D)):=qh (fun h=>by
           rw[L.out,pP]
           cases g <;> simpa using h)
          generalize Nat.gcd N D=G at *
          clear H C i L
          go_wp2_with fail
          refine a7.out.mono ?_;rintro e w7 ⟨rfl,hQ⟩;have Q:=a2.trans hQ.ext;have S:=a4.ext hQ.ext;have A:=z.ext hQ.ext;have a9:=a3.ext hQ.ext;clear a7 I q1 a2 a4 z a3 hQ;by_cases F:G=1
          · have v:=qh (K.out F);have aa:((G:Int) != 1)=false:=by simp[F]
            have f0:=a9.c 0 rfl;clear F K;cases g with
            | false =>
             have I:=A.c 0 rfl;have q1:=A.c 1 rfl;have X:(shL (N:Int) (D:Int)).toArray=#[.int .i64 (N:Int),.int .i64 (D:Int)]:=rfl
             go_wp2_with(refine Aa (vs:=shL (N:Int) (D:Int)) rfl rfl rfl rfl rfl FI S rfl (H4 _ _) ?_;intro J b d)
             refine py (Ao rfl FI rfl rfl b) rfl ?_;exact⟨Q.grownR d (lrf _),Or.inl ⟨(N:Int),D,rfl,(by first | exact⟨by rw[t.out.1,v.out];rfl,by omega,by omega,by omega⟩ | exact⟨by rw[t.out.1,v.out];simp,by omega,by omega,by omega⟩)⟩⟩
            | true =>
             have I:=A.c 0 rfl;have Y:IntKind.i64.wrap (-(N:Int)) = -(N:Int):=pq _ (by omega)
             go_upto_region 13 with(refine CD rfl rfl [.int .i64 (-(N:Int))] (shL (-(N:Int)) (D:Int)) (by kernel_rfl) rfl rfl rfl A (by simp[shL]) (by simp[Value.oneCell']) rfl ?_;intro w8 m q)
             have R:=Q.grownR q (sI U);have T:=S.kept q (by simp;omega);clear I Y;have I:=m.c 0 rfl;have q1:=m.c 1 rfl;have X:(shL (-(N:Int)) (D:Int)).toArray=#[.int .i64 (-(N:Int)),.int .i64 (D:Int)]:=rfl
             go_wp2_with(refine Aa (vs:=shL (-(N:Int)) (D:Int)) rfl rfl rfl rfl rfl FI T rfl (H4 _ _) ?_;intro J b d)
             refine py (Ao rfl FI rfl rfl b) rfl ?_;exact⟨R.grownR d (lrf _),Or.inl ⟨(-(N:Int)),D,rfl,(by first | exact⟨by rw[t.out.1,v.out];rfl,by omega,by omega,by omega⟩ | exact⟨by rw[t.out.1,v.out];simp,by omega,by omega,by omega⟩)⟩⟩
          · have aa:((G:Int) != 1)=true:=by simp;omega
            clear F K
            go_wp2_with(refine Aa (vs:=shL 0 0) rfl rfl rfl rfl rfl FI S rfl (H4 _ _) ?_;intro J b d)
            refine py (Ao rfl FI rfl rfl b) rfl ?_;exact⟨Q.grownR d (lrf _),Or.inr rfl⟩
theorem fx{i:Func}{p q r:Tmp}(m:i.results=#[.cell p ty,.cell q ty',.tmp r]){a:Array Value}{g b:Nat}{t t':TypeId}{cs cs':List Value}{v:Value}(k:Agg P ty cs.length)(c:Agg P ty' cs'.length)
 (hp:a.getD p undef = .pointer (some ⟨g,0,none⟩)) (l:a.getD q undef = .pointer (some ⟨b,0,none⟩)) (n:a.getD r undef=v) (h:Arr w g t cs) (j:Arr w b t' cs'):(results i a).run P w = .ok (.tuple #[.agg cs.toArray,.agg cs'.toArray,v]) w:=by
 have d:a[p]?.getD undef = .pointer (some ⟨g,0,none⟩):=by simpa using hp
 have e:a[q]?.getD undef = .pointer (some ⟨b,0,none⟩):=by simpa using l
 have f:a[r]?.getD undef=v:=by simpa using n
 simp[results,m,d,e,f,asAddr,Qp k h,Qp c j]
def lK(w:World)(l l':List UInt8)(e:Ending)(w':World):Prop:=Ext w w'/\((∃ n d n' d',e = .returned (.tuple #[.agg (shL n (d:Nat)).toArray,.agg (shL n' (d':Nat)).toArray,.bool true])/\ShQ l n d/\ShQ l' n' d')\/e = .returned (.tuple #[.agg (shL 0 0).toArray,.agg (shL 0 0).toArray,.bool false]))
theorem cU(hs:s.size<=1000000)(Z:s'.size<=1000000):Calls prog 176 #[.string s,.string s'] w (lK w (An s) (An s')):=by
 have Q:=fun(wx:World)=>qh (ae (w:=wx) hs);have R:=fun(wx:World)=>qh (ae (w:=wx) Z);have a6:(shL 0 0).toArray=#[.int .i64 0,.int .i64 0]:=rfl
 go_enter func176,ntmps176
 go_upto_region 1 with(fail)
 refine Cf ?_;intro w0 N L M a0;have W:Arr w0 w.heap.size 209 (shL 0 0):=L;have T:Arr w0 (w.heap.size+1) 209 (shL 0 0):=M;clear L M a0
 go_wp2_with fail
 refine(Q _).out.mono ?_;rintro e K ⟨x,⟨n,d,rfl,hq⟩|rfl⟩
 · have HQ:=qh hq;have O:(shL n (d:Nat)).toArray=#[.int .i64 n,.int .i64 (d:Int)]:=rfl;have q:=Arr.new K 209 (shL 0 0);clear hq
   go_upto_region 2 with(refine Aa (vs:=shL n (d:Nat)) rfl rfl rfl rfl rfl FI q rfl (H4 _ _) ?_;intro w2 G r)
   have y:Ext K w2:=((Ext.refl K).alloc _).grownR r (lrf _);have b:=x.trans y;have g:=N.trans b;have B:=W.ext b;have C:=T.ext b;have a3:=(T.ext x).lt;clear q r x y b W T Q O
   go_wp2_with fail
   refine(R _).out.mono ?_;rintro e D ⟨z,⟨F,E,rfl,P⟩|rfl⟩
   · have U:=qh P;have O:(shL F (E:Nat)).toArray=#[.int .i64 F,.int .i64 (E:Int)]:=rfl;have q:=Arr.new D 209 (shL 0 0);clear P
     go_upto_region 5 with(refine Aa (vs:=shL F (E:Nat)) rfl rfl rfl rfl rfl FI q rfl (H4 _ _) ?_;intro S H t)
     have A:Ext D S:=((Ext.refl D).alloc _).grownR t (lrf _);have a:=z.trans A;have o:=g.trans a;have j:=B.ext a;have k:=C.ext a;have m:=G.ext a;have x0:=m.c 0 rfl;have x1:=m.c 1 rfl;have y0:=H.c 0 rfl;have y1:=H.c 1 rfl;have a2:w.heap.size+1<D.heap.size:=by have:=z.size;have:=G.lt;omega
     clear q t z A a m R;have r0:=j.c 0 rfl;have r1:=j.c 1 rfl;have s0:=k.c 0 rfl;have s1:=k.c 1 rfl;have fr:∀ i,S.frozen? ⟨w.heap.size,i,none⟩=false:=fun i=>j.frozen i;have fs:∀ i,S.frozen? ⟨(w.heap.size+1),i,none⟩=false:=fun i=>k.frozen i;have a4:D.heap.size≠w.heap.size:=by omega
     have a5:w.heap.size≠D.heap.size:=by omega
     go_wp2
     go_region
     have X:=(((j.set 0 (.int .i64 n)).set 1 (.int .i64 (d:Int))).far (p:=⟨w.heap.size+1,0,none⟩) (by simp) (.int .i64 F)).far (p:=⟨w.heap.size+1,1,none⟩) (by simp) (.int .i64 (E:Int));have Y:=(((k.far (p:=⟨w.heap.size,0,none⟩) (by simp) (.int .i64 n)).far (p:=⟨w.heap.size,1,none⟩) (by simp) (.int .i64 (d:Int))).set 0 (.int .i64 F)).set 1 (.int .i64 (E:Int))
     have V:=(((o.setCell (p:=⟨w.heap.size,0,none⟩) (lrf _) (.int .i64 n)).setCell (p:=⟨w.heap.size,1,none⟩) (lrf _) (.int .i64 (d:Int))).setCell (p:=⟨w.heap.size+1,0,none⟩) (Nat.le_succ _) (.int .i64 F)).setCell (p:=⟨w.heap.size+1,1,none⟩) (Nat.le_succ _) (.int .i64 (E:Int));go_wp2;refine py (fx (cs:=shL n (d:Nat)) (cs':=shL F (E:Nat)) rfl FI FI rfl rfl rfl X Y) rfl ?_;exact⟨V.drew,Or.inl ⟨n,d,F,E,rfl,HQ.out,U.out⟩⟩
   · have q:=Arr.new D 209 (shL 0 0)
     go_upto_region 5 with(refine Aa (vs:=shL 0 0) rfl rfl rfl rfl rfl FI q rfl (H4 _ _) ?_;intro S H t)
     have A:Ext D S:=((Ext.refl D).alloc _).grownR t (lrf _);have a:=z.trans A;have o:=g.trans a;have j:=B.ext a;have k:=C.ext a;clear q t
     go_wp2_with(first
      | (refine Aa (vs:=shL 0 0) rfl rfl rfl rfl rfl FI j rfl (H4 _ _) ?_;intro w9 I v;have J:=k.kept v (by simp))
      | (refine Aa (vs:=shL 0 0) rfl rfl rfl rfl rfl FI J rfl (H4 _ _) ?_;intro a1 l f))
     refine py (fx rfl FI FI rfl rfl rfl (I.kept f (by simp)) l) rfl ?_;exact⟨((o.grownR v (lrf _))).grownR f (by omega),Or.inr rfl⟩
 · have q:=Arr.new K 209 (shL 0 0)
   go_upto_region 2 with(refine Aa (vs:=shL 0 0) rfl rfl rfl rfl rfl FI q rfl (H4 _ _) ?_;intro w2 G r)
   have y:Ext K w2:=((Ext.refl K).alloc _).grownR r (lrf _);have b:=x.trans y;have g:=N.trans b;have B:=W.ext b;have C:=T.ext b;clear q r
   go_wp2_with(first
    | (refine Aa (vs:=shL 0 0) rfl rfl rfl rfl rfl FI B rfl (H4 _ _) ?_;intro w9 I v;have J:=C.kept v (by simp))
    | (refine Aa (vs:=shL 0 0) rfl rfl rfl rfl rfl FI J rfl (H4 _ _) ?_;intro a1 l f))
   refine py (fx rfl FI FI rfl rfl rfl (I.kept f (by simp)) l) rfl ?_;exact⟨((g.grownR v (lrf _))).grownR f (by omega),Or.inr rfl⟩
def vaQ(l:List UInt8):Rat:=(AD l).getD 0
theorem bu(K:AM w)(M:s.size<=570):Calls prog 178 #[.string s] w (GN w (vaQ (An s))):=by
 have g:=fun(P:World) (J:Ext w P)=>qh (GQ (s:=s) (K.ext J) M);obtain⟨o,z⟩:∃ o,AD (An s)=o:=⟨_,rfl⟩;have I:Hid (vaQ (An s)=o.getD 0):=qh (by unfold vaQ;rw[z]);rw[z]at g;clear z
 go_enter func178,ntmps178
 go_upto_region 1 with(fail)
 refine AP ?_;intro N d i E;have G:Arr N w.heap.size 85 (Al false none 0 0 false none 0 0):=i;clear i E
 go_wp2_with fail
 refine(g _ d).out.mono ?_;rintro e F ⟨_,rfl,f,s1,l,r,n,m,q,p,rfl,t,A,C⟩;have H:=Arr.new F 85 (Al false none 0 0 false none 0 0);have L:(Al s1 l r n false m q p).toArray=#[.bool s1,.slice l r n,.bool false,.slice m q p]:=rfl
 go_upto_region 2 with(refine Aa (vs:=Al s1 l r n false m q p) rfl rfl rfl rfl rfl Ak H rfl (Aq _ _ _ _ _ _ _ _) ?_;intro O b k)
 have a:Ext F O:=((Ext.refl F).alloc _).grownR k (lrf _);have x:=(d.trans f).trans a;have j:=(G.ext f).ext a;have B:=A.ext a;have D:=C.ext a;have R:=b.c 0 rfl;have S:=b.c 1 rfl;have T:=b.c 2 rfl;have U:=b.c 3 rfl;clear g G d f a H k
 go_wp2_with(refine Aa (vs:=Al s1 l r n false m q p) rfl rfl rfl rfl rfl Ak j rfl (Aq _ _ _ _ _ _ _ _) ?_;intro Q v y)
 refine py (Ap rfl Ak rfl v) rfl ?_;rw[I.out];exact BG x j (AO _ _ _ _ _ _ _ _) y (lrf _) t B D
theorem kK:∃ i,prog.info? 5=some i/\i.size=1:=by
 have h:=Ei;unfold Ca at h;cases a:prog.info? 5 with
 | none=>rw[a]at h;cases h
 | some i=>rw[a]at h;simp at h;exact⟨i,rfl,h.2.1⟩
def jK(wb:World)(g c:Nat)(T:TypeId)(l:List UInt8)(e:Ending)(w':World):Prop:=e = .returned (.slice (some ⟨g,0,none⟩) l.length c)/\Ext wb w'/\∃ cs',Arr w' g T cs'/\cs'.length=c/\cs'.take l.length=l.map A2
theorem Wy.bg{e:Ending}(h:Wy w g c T l e w')(a:Ext wb w)(b:wb.heap.size<=g):jK wb g c T l e w':=by
 obtain⟨h1,⟨d,h2,h3⟩,h4⟩:=h;exact⟨h1,(a.trans h2).grownR h3 b,h4⟩
theorem lL(w:World)(b:UInt8):Go.Src prog 1 228 (.slice (some ⟨w.heap.size,0,none⟩) 1 1) 1 ([b].map A2) (w.alloc (.cells #[A2 b] 5)):=by
 refine Go.Src.ofSlice (P:=prog) _ underlying228 _ _ _ _ (by simp) (fun j v c => ?_) (LN _);have d:=Arr.new w 5 [A2 b];have a:j=0:=by have:=(qD.1 c).1;simp at this;omega
 subst a;have e:v=A2 b:=by simpa using c.symm
 rw[e];exact d.cell (i:=0) (by simp)
theorem ia(B:AM wb)(s:Ext wb w)(t:wb.heap.size<=g)(j:Arr w g T cs)(o:cs.length=c)(p:l.length=n)(H:n+21<=c)(q:cs.take n=l.map A2)(h0 : -4000000000000000000<z)(h1:z<4000000000000000000) :
 Calls prog 268 #[.slice (some ⟨g,0,none⟩) n c,.int .i64 z,.int .i64 10] w (jK wb g c T (l ++ Lib.itoa z)):=by
 obtain⟨I,A,y⟩:=kK;by_cases D:z<0
 · have x:Lib.itoa z=[45] ++ Lib.decDigits z.natAbs:=by unfold Lib.itoa;rw[pP D];rfl
   rw[x,<-qi];have hA1:Arr (w.alloc (.cells #[.int .u8 45] 5)) g T cs:=j.alloc _;have i:=lL w 45;have C:([45].map A2).length=1:=rfl;obtain⟨r,b⟩:∃ r,l ++ [45] ++ Lib.decDigits z.natAbs=r:=⟨_,rfl⟩;rw[b];have d:=qh (And.intro o (And.intro p q));clear o p q j
   go_enter func268,ntmps268
   go_upto_region 4 with(refine QO (m:=1) rfl rfl underlying228 A y rfl rfl i hA1 (by omega) (by rw[d.out.1];omega) ?_;intro G hA2 v)
   have f:Ext wb G:=(s.alloc _).grownR v t
   have a:=qh (Sd (u:=z.natAbs) (l:=l ++ [45]) (n:=n+1) (B.ext f) hA2 (Tr rfl d.out.1 (by omega)) (by rw[pZ,d.out.2.1];rfl) (by omega) (by
    have h:=QP (r:=[45]) (m:=1) d.out.2.2;rw[pZ,d.out.2.1]at h
    exact h) (by omega))
   have E:IntKind.u64.wrap (-(IntKind.u64.wrap z))=(z.natAbs:Int):=by
    rw[rz,rz];omega
   rw[b]at a;clear b
   go_wp2_with fail
   refine a.out.mono ?_;rintro e F h;obtain⟨rfl,h1,h2⟩:=h.bg f t;go_wp2;go_ret;exact⟨rfl,h1,h2⟩
 · have x:Lib.itoa z=Lib.decDigits z.natAbs:=by unfold Lib.itoa;rw[pC D];congr 1;omega
   rw[x];obtain⟨k,rfl⟩:∃ k:Nat,z=k:=⟨z.natAbs,by omega⟩;rw[pX];have a:=qh (Sd (u:=k) (B.ext s) j o p (by omega) q (by omega));have E:IntKind.u64.wrap (k:Int)=(k:Int):=wrap_u64 (by omega) (by omega);obtain⟨r,b⟩:∃ r,l ++ Lib.decDigits k=r:=⟨_,rfl⟩;rw[b]at a |-;clear o p q j b
   go_enter func268,ntmps268
   go_wp2_with fail
   refine a.out.mono ?_;rintro e F h;obtain⟨rfl,h1,h2⟩:=h.bg s t;go_wp2;go_ret;exact⟨rfl,h1,h2⟩
theorem eT(k:AM wb)(j:Ext wb w)(o:wb.heap.size<=g)(a:Arr w g T cs)(b:cs.length=c)(d:l.length=n)(m:n+21<=c)(i:cs.take n=l.map A2)(h0 : -4000000000000000000<z)(h1:z<4000000000000000000) :
 Calls prog 227 #[.slice (some ⟨g,0,none⟩) n c,.int .i64 z,.int .i64 10] w (jK wb g c T (l ++ Lib.itoa z)):=by
 have h:=qh (ia k j o a b d m i h0 h1);obtain⟨r,f⟩:∃ r,l ++ Lib.itoa z=r:=⟨_,rfl⟩;rw[f]at h |-;clear b d i a f
 go_enter func227,ntmps227
 go_wp2_with fail
 refine h.out.mono ?_;rintro e p ⟨rfl,h1,h2⟩;go_wp2;go_ret;exact⟨rfl,h1,h2⟩
theorem bw(h:q.den=1):txt q=Lib.itoa q.num:=by unfold txt;rw[pP h,rD]
theorem jL(h:q.den≠1):txt q=(Lib.itoa q.num ++ [47]) ++ Lib.itoa (q.den:Int):=by
 have e:Lib.itoa (q.den:Int)=Lib.decDigits q.den:=by unfold Lib.itoa;rw[pC (by omega)];rfl
 unfold txt;rw[pC h,e,qi];rfl
theorem ee(h0 : -4000000000000000000<z)(h1:z<4000000000000000000):(Lib.itoa z).length<=20:=by
 have a:∀ n:Nat,n<10000000000000000000->(Lib.decDigits n).length<=19:=fun n h=>W.dec_len (k:=19) (by omega) (by omega);unfold Lib.itoa;split
 · have:=a z.natAbs (by omega);simp;omega
 · have:=a z.toNat (by omega);omega
theorem aP{n:Int}(hT:AM w)(h0 : -4000000000000000000<n)(h1:n<4000000000000000000)(hd:0<d)(h2:d<4000000000000000000) :
 Calls prog 177 #[.int .i64 n,.int .i64 (d:Int)] w fun e w'=>e = .returned (.string ⟨(txt (mkRat n d)).toArray⟩)/\Ext w w':=by
 obtain⟨iu,a8,a7⟩:=kK;obtain⟨H,I⟩:=Pl.rat_frac (n:=n) (d:=d) (by omega);obtain⟨q,hq⟩:∃ q,mkRat n d=q:=⟨_,rfl⟩;rw[hq]at H I |-;have C:=fun(wx:World) (hC:Ext w wx) (z:Int) (a : -4000000000000000000<z) (b:z<4000000000000000000)=>qh (Lh (z:=z) (hT.ext hC) (by omega) (by omega));have ah:¬ (d:Int)<0:=by omega
 by_cases a5:d=1
 · subst a5;have U:q.den=1:=by rw[I,sQ]
   have V:q.num=n:=by rw[H,sQ];exact wI _
   rw[bw U,V];clear H I hq U V
   go_enter func177,ntmps177
   go_wp2_with fail
   refine(C _ (Ext.refl _) n h0 h1).out.mono ?_;rintro e w1 ⟨rfl,f⟩;go_wp2;go_ret;exact⟨rfl,f⟩
 · have N:0<Nat.gcd n.natAbs d:=vd _ hd;have D:∀ (wx:World) (m:Int),m=(n.natAbs:Int)->Hid _:=fun wx m hm=>qh (by have h:=gA (x:=n.natAbs) (y:=d) (w:=wx) (by omega) (by omega);rw[<-hm]at h;exact h);obtain⟨G,hG⟩:∃ G,Nat.gcd n.natAbs d=G:=⟨_,rfl⟩;rw[hG]at H I N D;have a4:(G:Int)≠0:=by omega
   have a6:¬ (d:Int)=1:=by omega
   have B:(d:Int).tdiv (G:Int)=((d/G:Nat):Int):=rfl;have g : -4000000000000000000<q.num/\q.num<4000000000000000000:=by
    have h1:q.num.natAbs<=n.natAbs:=by rw[H,oZ];exact qE _ _
    omega
   have ag:q.den<4000000000000000000:=by rw[I];exact pJ (qE _ _) h2
   rw[<-I]at B;have Y:=H.symm;obtain⟨t,ht⟩:∃ t,txt q=t:=⟨_,rfl⟩;rw[ht];have HT:=qh ht;clear H I hq hG N ht
   go_enter func177,ntmps177
   go_wp2_with fail
   all_goals
    refine(D _ _ (by omega)).out.mono ?_;rintro e w1 ⟨rfl,hQ⟩;have f:=hQ.ext;clear hQ
    go_upto_region 5 with(fail)
    have k1:IntKind.i64.wrap (n.tdiv (G:Int))=q.num:=by rw[Y];exact pq _ (by omega)
    have k2:IntKind.i64.wrap ((d:Int).tdiv (G:Int))=(q.den:Int):=by rw[B];exact pq _ (by omega)
    go_region
    replace f:=f.drew;generalize w1.drew=w2 at *
    clear k1 k2 B Y a4 a6 D;by_cases j:q.den=1
    · have Z:Hid (Lib.itoa q.num=t):=qh (by rw[<-bw j];exact HT.out);have a9:((q.den:Int) == 1)=true:=by simp[j]
      clear j
      go_wp2_with fail
      refine(C _ f _ g.1 g.2).out.mono ?_;rintro e w3 ⟨rfl,i⟩;go_wp2;go_ret;exact⟨by rw[<-Z.out];rfl,f.trans i⟩
    · have Z:Hid (Lib.itoa q.num ++ [47] ++ Lib.itoa (q.den:Int)=t):=qh (by rw[<-jL j];exact HT.out);have a9:((q.den:Int) == 1)=false:=by simp;omega
      clear j C;obtain⟨G8,A⟩:∃ G8,w2.heap.size=G8:=⟨_,rfl⟩
      go_upto_region 9 with(fail)
      refine AP ?_;intro w3 i v ab;rw[A]at v;replace i:=f.trans i;have hg:w.heap.size<=G8:=by rw[<-A];exact f.size
      obtain⟨cs,hB,hl⟩:∃ cs,Arr w3 G8 258 cs/\cs.length=48:=⟨_,v,rfl⟩;clear v ab A f
      have aa:∀ W,(Instr.sliceAt 258 (.pointer (some ⟨G8,0,none⟩)) none (some (.int .i64 0)) none).run prog W = .ok (.slice (some ⟨G8,0,none⟩) 0 48) W:=fun W=>by
       have O:prog.arrayLen 258=48:=by kernel_rfl
       have h:=run_sliceAt_array_h (P:=prog) W 258 ⟨G8,0,none⟩ (by simp[Program.arrayLen,Program.elem,underlying258]) .i64 0 (by omega) (by rw[O];omega);rw[h,O];go_simp
      have R:=ee g.1 g.2;have c:=qh (eT (l:=[]) (n:=0) hT i hg hB hl rfl (by omega) rfl g.1 g.2);rw[qR]at c;obtain⟨t1,X⟩:∃ t1,Lib.itoa q.num=t1:=⟨_,rfl⟩;rw[X]at c Z R;obtain⟨L,hL⟩:∃ L,t1.length=L:=⟨_,rfl⟩;rw[hL]at R;have HL:=qh hL;clear X hL hB hl
      go_wp2_with fail
      refine c.out.mono ?_;rintro e w4 ⟨rfl,a1,a0,J,S,E⟩;rw[HL.out]at E |-;have s:=qh (And.intro S E);clear c S E aa;have hA5:Arr (w4.alloc (.cells #[.int .u8 47] 5)) G8 258 a0:=J.alloc _;have p:=lL w4 47;have T:([47].map A2).length=1:=rfl;clear J
      go_upto_region 11 with(refine QO (m:=1) rfl rfl underlying228 a8 a7 rfl rfl p hA5 (by omega) (by rw[s.out.1];omega) ?_;intro w5 K Q)
      have a2:Ext w w5:=(a1.alloc _).grownR Q hg
      have c:=qh (eT (l:=t1 ++ [47]) (n:=L+1) (z:=(q.den:Int)) hT a2 hg K (Tr rfl s.out.1 (by omega)) (by rw[pZ,HL.out];rfl) (by omega) (by
       have h:=QP (r:=[47]) (m:=1) s.out.2;rw[pZ,HL.out]at h
       exact h) (by omega) (by omega))
      rw[Z.out]at c;clear K Q p T
      go_wp2_with fail
      refine c.out.mono ?_;rintro e w6 ⟨rfl,a3,ad,M,o,F⟩;have ac:t.length<=48:=by
       have h:=q9 List.length F;simp only[qg,pH,o]at h;omega
      have hS:=M.sl (k:=t.length) (by omega) (by rw[o];unfold maxLen;omega);rw[o,F]at hS;clear F o M c
      go_wp2_with(refine EY rfl rfl underlying228 underlying5 underlying9 rfl hS ?_)
      go_ret;exact⟨rfl,a3⟩
theorem jM(N:AM w)(hb:b<=900)(L:Pl.RB b x)(Q:Pl.RB b y)(lx:(txt x).length<=570)(ly:(txt y).length<=570) :
 Calls prog 111 #[.string ⟨(txt x).toArray⟩,.string ⟨(txt y).toArray⟩] w fun e w'=>e = .returned (.string ⟨(txt (x+y)).toArray⟩)/\Ext w w':=by
 have sx:(⟨(txt x).toArray⟩:ByteArray).size<=570:=by rw[<-Ay,Cw];exact lx
 have sy:(⟨(txt y).toArray⟩:ByteArray).size<=570:=by rw[<-Ay,Cw];exact ly
 have E:=qh (cU (w:=w) (s:=⟨(txt x).toArray⟩) (s':=⟨(txt y).toArray⟩) (by omega) (by omega));have F:=fun(f:World) (p:Ext w f)=>qh (bu (s:=⟨(txt x).toArray⟩) (N.ext p) sx);have G:=fun(f:World) (p:Ext w f)=>qh (bu (s:=⟨(txt y).toArray⟩) (N.ext p) sy);have e1:vaQ (An ⟨(txt x).toArray⟩)=x:=by unfold vaQ;rw[Cw,Cx];rfl
 have e2:vaQ (An ⟨(txt y).toArray⟩)=y:=by unfold vaQ;rw[Cw,Cx];rfl
 rw[e1]at F;rw[e2]at G;rw[Cw,Cw]at E;have O:=fun(f:World) (v v':Value) (p:Ext w f) (h:BU f v x) (h':BU f v' y)=>qh (QS (N.ext p) h h' (Af L.1 (by omega)) (Af L.2 (by omega)) (Af Q.1 (by omega)) (Af Q.2 (by omega)));have K:=L.add Q;have J:=fun(f:World) (v:Value) (p:Ext w f) (h:BU f v (x+y))=>qh (PL (N.ext p) h (Af K.1 (by omega)) (Af K.2 (by omega)))
 have D:∀ n d i a,ShQ (txt x) n d->ShQ (txt y) i a->∀ f,Ext w f->Hid (Calls prog 177 #[.int .i64 (n*(a:Int)+i*(d:Int)),.int .i64 ((d:Int)*(a:Int))] f fun e w'=>e = .returned (.string ⟨(txt (x+y)).toArray⟩)/\Ext f w')/\((-1000000000000000000<n*(a:Int)/\n*(a:Int)<1000000000000000000)/\(-1000000000000000000<i*(d:Int)/\i*(d:Int)<1000000000000000000))/\((d:Int)*(a:Int))<=9223372036854775807:=by
  rintro n d i a ⟨q1,b1,c1,f1⟩ ⟨q2,b2,c2,f2⟩ f p;rw[Cx]at q1 q2;have k1:x=mkRat n d:=tZ q1;have k2:y=mkRat i a:=tZ q2;have a5:(n*(a:Int)).natAbs<1000000000*1000000000:=by
   rw[qW];exact Nat.mul_lt_mul'' b1 f2
  have a6:(i*(d:Int)).natAbs<1000000000*1000000000:=by
   rw[qW];exact Nat.mul_lt_mul'' b2 f1
  have a3:d*a < 1000000000*1000000000:=Nat.mul_lt_mul'' f1 f2;have hd0:0<d*a:=tA c1 c2;have h:=aP (w:=f) (n:=n*(a:Int)+i*(d:Int)) (d:=d*a) (N.ext p) (by omega) (by omega) hd0 (by omega);rw[<-Rat.mkRat_add_mkRat _ _ (by omega) (by omega),<-k1,<-k2,q7]at h;refine⟨qh h,⟨⟨by omega,by omega⟩,by omega,by omega⟩,?_⟩;rw[<-q7];omega
 clear sx sy e1 e2 L Q K;obtain⟨S,hS⟩:∃ S:ByteArray,⟨(txt x).toArray⟩=S:=⟨_,rfl⟩;obtain⟨S',M⟩:∃ S:ByteArray,⟨(txt y).toArray⟩=S:=⟨_,rfl⟩;obtain⟨R,V⟩:∃ S:ByteArray,⟨(txt (x+y)).toArray⟩=S:=⟨_,rfl⟩;rw[hS]at E F |-;rw[M]at E G |-;rw[V]at J |-;simp only[V]at D;clear hS M V
 go_enter func111,ntmps111
 go_wp2_with fail
 refine E.out.mono ?_;rintro e H ⟨g,⟨n,d,i,a,rfl,hq,P⟩|rfl⟩
 · have Z:(shL n (d:Nat)).toArray=#[.int .i64 n,.int .i64 (d:Int)]:=rfl;have a4:(shL i (a:Nat)).toArray=#[.int .i64 i,.int .i64 (a:Int)]:=rfl;have t:=(Arr.new H 209 (shL 0 0)).alloc (.cells (shL 0 0).toArray 209);have j:=Arr.new (H.alloc (.cells (shL 0 0).toArray 209)) 209 (shL 0 0);have A:(H.alloc (.cells (shL 0 0).toArray 209)).heap.size=H.heap.size+1:=by simp
   rw[A]at j;have HQ:=qh (fun f p=>D n d i a hq P f p);clear D hq P A F G O J
   go_upto_region 2 with(first
    | (refine Aa (vs:=shL n (d:Nat)) rfl rfl rfl rfl rfl FI t rfl (H4 _ _) ?_;intro w2 B k;have z:=j.kept k (by simp))
    | (refine Aa (vs:=shL i (a:Nat)) rfl rfl rfl rfl rfl FI z rfl (H4 _ _) ?_;intro T o m;have I:=B.kept m (by simp)))
   have r:Ext w T:=(((g.alloc _).alloc _).grownR k g.size).grownR m (Nat.le_succ_of_le g.size);have p0:=I.c 0 rfl;have p1:=I.c 1 rfl;have q0:=o.c 0 rfl;have q1:=o.c 1 rfl;obtain⟨hF,⟨hr,a0⟩,a1⟩:=HQ.out T r;have a2:(0:Int)<=(d:Int)*(a:Int):=tX (by omega) (by omega);have m1:IntKind.i64.wrap (n*(a:Int))=n*(a:Int):=pq _ (by omega);have m3:IntKind.i64.wrap (i*(d:Int))=i*(d:Int):=pq _ (by omega);have m4:IntKind.i64.wrap (n*(a:Int)+i*(d:Int))=n*(a:Int)+i*(d:Int):=pq _ (by omega)
   have m2:IntKind.i64.wrap ((d:Int)*(a:Int))=(d:Int)*(a:Int):=pq _ (by omega);clear hr a0 a1 a2 B o I k m t j z HQ g
   go_wp2_with fail
   refine hF.out.mono ?_;rintro e w4 ⟨rfl,l⟩;go_wp2;go_ret;exact⟨rfl,r.trans l⟩
 · have Z:(shL 0 0).toArray=#[.int .i64 0,.int .i64 0]:=rfl;have t:=(Arr.new H 209 (shL 0 0)).alloc (.cells (shL 0 0).toArray 209);have j:=Arr.new (H.alloc (.cells (shL 0 0).toArray 209)) 209 (shL 0 0);have A:(H.alloc (.cells (shL 0 0).toArray 209)).heap.size=H.heap.size+1:=by simp
   rw[A]at j;clear D A
   go_upto_region 2 with(first
    | (refine Aa (vs:=shL 0 0) rfl rfl rfl rfl rfl FI t rfl (H4 _ _) ?_;intro w2 B k;have z:=j.kept k (by simp))
    | (refine Aa (vs:=shL 0 0) rfl rfl rfl rfl rfl FI z rfl (H4 _ _) ?_;intro T o m))
   have r:Ext w T:=(((g.alloc _).alloc _).grownR k g.size).grownR m (Nat.le_succ_of_le g.size);clear B o k m t j z g
   go_wp2_with fail
   refine(F _ r).out.mono ?_;rintro e w4 ⟨c4,rfl,l,W⟩;replace l:=r.trans l
   go_wp2_with fail
   refine(G _ l).out.mono ?_;rintro e w5 ⟨c5,rfl,q,X⟩;have L:BU w5 _ x:=⟨c4,rfl,W.ext q⟩;replace q:=l.trans q
   go_wp2_with fail
   refine(O _ _ _ q L ⟨c5,rfl,X⟩).out.mono ?_;rintro e w6 ⟨c6,rfl,C,Y⟩;replace C:=q.trans C
   go_wp2_with fail
   refine(J _ _ C ⟨c6,rfl,Y⟩).out.mono ?_;rintro e w7 ⟨rfl,U⟩;go_wp2;go_ret;exact⟨rfl,C.trans U⟩
theorem iZ(hT:AM w)(hs:s.size<=570):Calls prog 179 #[.string s] w fun e U=>e = .returned (.bool (AD (An s)).isSome)/\Ext w U:=by
 have S:=fun(g:World)=>qh (ae (s:=s) (w:=g) (by omega));have z:=Sg s;obtain⟨⟨⟨A,f,b⟩,ok⟩,K⟩:∃ P,C9 (An s)=P:=⟨_,rfl⟩;simp only[K]at z;have a0:(CC A f b).toArray=#[.bool A,.string ⟨f.toArray⟩,.string ⟨b.toArray⟩]:=rfl;rw[a0]at z;obtain⟨B,V⟩:∃ B,Hid ((AD (An s)).isSome=B):=⟨_,qh rfl⟩;rw[V.out]
 have HF:Hid (ok=false->B=false):=qh fun h=>by
  rw[<-V.out];unfold AD;simp[K,h]
 have HK:Hid (ok=true->W.digs f/\W.digs b/\f.length<=570/\b.length<=570/\B=if b=[]then true else decide (Nat.gcd (W.decV f) (W.decV b)=1)):=qh fun h=>by
  subst h;have hS:=LR K;have h1:=q9 List.length hS.eq;rw[Ay]at h1;simp only[pZ]at h1;refine⟨hS.dn,hS.dd,by omega,?_,?_⟩
  · by_cases h:b=[]
    · simp[h]
    · rw[pC h]at h1;simp at h1;omega
  · rw[<-V.out];unfold AD;simp only[K];have hz:(if A=true then -((W.decV f:Nat):Int)else((W.decV f:Nat):Int)).natAbs=W.decV f:=by split <;> omega
    by_cases h:b=[]
    · simp[h]
    · simp only[h,tJ];rw[hz];by_cases hg:Nat.gcd (W.decV f) (W.decV b)=1 <;> simp[hg]
 clear K
 go_enter func179,ntmps179
 go_wp2_with fail
 refine(S _).out.mono ?_;rintro e w1 ⟨E,⟨n,d,rfl,hq⟩|rfl⟩
 · have hl:(shL n (d:Nat)).toArray=#[.int .i64 n,.int .i64 (d:Int)]:=rfl;have L:=Arr.new w1 209 (shL 0 0);have C:Hid (B=true):=qh (by rw[<-V.out,hq.1];rfl)
   go_upto_region 2 with(refine Aa (vs:=shL n (d:Nat)) rfl rfl rfl rfl rfl FI L rfl (H4 _ _) ?_;intro w2 D o)
   have t:=E.trans (((Ext.refl w1).alloc _).grownR o (lrf _));clear D o L;go_wp2;go_ret;exact⟨by rw[C.out];rfl,t⟩
 · have hl:(shL 0 0).toArray=#[.int .i64 0,.int .i64 0]:=rfl;have L:=Arr.new w1 209 (shL 0 0)
   go_upto_region 2 with(refine Aa (vs:=shL 0 0) rfl rfl rfl rfl rfl FI L rfl (H4 _ _) ?_;intro w2 D o)
   have t:=E.trans (((Ext.refl w1).alloc _).grownR o (lrf _));clear D o L E S
   go_wp2_with fail
   refine(z w2 (by omega)).mono ?_;rintro e w3 ⟨rfl,J⟩;have M:=Arr.new w3 175 (CC false [] [])
   go_upto_region 5 with(refine Aa (vs:=CC A f b) rfl rfl rfl rfl rfl Bj M rfl (CT _ _ _) ?_;intro w4 q N)
   have y:=(t.trans J).trans (((Ext.refl w3).alloc _).grownR N (lrf _));obtain⟨F,hF⟩:∃ F,w3.heap.size=F:=⟨_,rfl⟩;rw[hF]at q |-;have c1:=q.c 1 rfl;have c2:=q.c 2 rfl;clear q N M t J hF z;cases ok with
   | false =>
    have C:=qh (HF.out rfl);go_wp2;go_ret;exact⟨by rw[C.out];rfl,y⟩
   | true =>
    obtain⟨X,Y,l1,l2,k⟩:=HK.out rfl;by_cases Z:b=[]
    · subst Z;rw[pP rfl]at k;have C:=qh k;clear k X Y l1 l2;go_wp2;go_ret;exact⟨by rw[C.out];rfl,y⟩
    · have a4:b.isEmpty=false:=by cases b with | nil=>exact absurd rfl Z | cons _ _=>rfl
      rw[pC Z]at k;have C:=qh k;have Q:=fun g=>qh (LP (s:=⟨f.toArray⟩) (w:=g) (by rw[Cw];exact X) (by show f.toArray.size<=_;simpa using l1));have R:=fun g=>qh (LP (s:=⟨b.toArray⟩) (w:=g) (by rw[Cw];exact Y) (by show b.toArray.size<=_;simpa using l2));rw[Cw]at Q R;have b1:=QX X l1;have b2:=QX Y l2;have O:=fun(g:World) (v v':Value) (i:Ext w g) (h:AF g v ((W.decV f:Nat):Int)) (h':AF g v' ((W.decV b:Nat):Int))=>qh (Gf (hT.ext i) h h' (Af b1 (by omega)) (Af b2 (by omega)))
      simp only[pX]at O;have a3:=fun(g:World) (v:Value) (h:AF g v ((Nat.gcd (W.decV f) (W.decV b):Nat):Int))=>qh (CY (r:=decide (Nat.gcd (W.decV f) (W.decV b)=1)) h (rV.2 (by omega)));clear k Z X Y l1 l2 b1 b2
      go_upto_region 7 with(fail)
      have p:=fun(g:World) (i:Ext w4 g)=>qh (And.intro (i.cell c1) (i.cell c2))
      refine B0
       [hdP F 1,he (.string ⟨f.toArray⟩),hp (fun v g=>NI ((W.decV f:Nat):Int) v g),hdP F 2,he (.string ⟨b.toArray⟩),hp (fun v g=>NI ((W.decV b:Nat):Int) v g),hp (fun v g=>NI ((Nat.gcd (W.decV f) (W.decV b):Nat):Int) v g),hp (fun v g=>v = .bool (decide (Nat.gcd (W.decV f) (W.decV b)=1)))]
       ⟨NI.x _,NI.x _,NI.x _,fun _ _ _ _ h=>h,trivial⟩ ⟨?o0,?o1,?o2,?o3,?o4,?o5,?o6,?o7,trivial⟩ ?fin
      case o0=>exact ofa (d:=1)
      case o1 | o4=>exact ol
      case o3=>exact ofa (d:=2)
      case o2 =>
       refine Ag rfl fun ρ g i m G h => ?_;have e1:_=_:=h.2.1;obtain⟨k1,k2⟩:=(p g i).out;refine⟨139,#[.string ⟨f.toArray⟩],by go_simp,((Q g).out).mono ?_⟩;rintro e U ⟨s,a,n,c,rfl,j,h1,h2⟩;exact⟨_,rfl,j,s,a,n,c,rfl,h1,h2⟩
      case o5 =>
       refine Ag rfl fun ρ g i m G h => ?_;have e1:_=_:=h.2.1;obtain⟨k1,k2⟩:=(p g i).out;refine⟨139,#[.string ⟨b.toArray⟩],by go_simp,((R g).out).mono ?_⟩;rintro e U ⟨s,a,n,c,rfl,j,h1,h2⟩;exact⟨_,rfl,j,s,a,n,c,rfl,h1,h2⟩
      case o6 =>
       refine Ag rfl fun ρ g i m G h => ?_;obtain⟨v1,e1,s1,H,T,l,rfl,i1,j1⟩:=h.2.1;obtain⟨v2,e2,s2,a2,n2,I,rfl,i2,j2⟩:=h.2.2.1;obtain⟨k1,k2⟩:=(p g i).out;refine⟨141,#[.agg (Ac s1 H T l).toArray,.agg (Ac s2 a2 n2 I).toArray],by go_simp,((O g _ _ (y.trans i) ⟨s1,H,T,l,rfl,i1,j1⟩ ⟨s2,a2,n2,I,rfl,i2,j2⟩).out).mono ?_⟩;rintro e U ⟨s,a,n,c,rfl,j,h1,h2⟩;exact⟨_,rfl,j,s,a,n,c,rfl,h1,h2⟩
      case o7 =>
       refine Ag rfl fun ρ g i m G h => ?_;obtain⟨v1,e1,s1,H,T,l,rfl,i1,j1⟩:=h.2.1;obtain⟨k1,k2⟩:=(p g i).out;refine⟨142,#[.agg (Ac s1 H T l).toArray],by go_simp,((a3 g _ ⟨s1,H,T,l,rfl,i1,j1⟩).out).mono ?_⟩;rintro e U ⟨rfl,j⟩;exact⟨_,rfl,j,rfl⟩
      case fin =>
       intro g i;rintro _ ⟨_,_,_,_,rfl,_,_⟩;rintro _ ⟨_,_,_,_,rfl,_,_⟩;rintro _ ⟨_,_,_,_,rfl,_,_⟩;rintro _ rfl;change wpList _ _ _ _ _ _;simp only[Ci];go_wp2;go_ret;exact⟨by rw[C.out];rfl,y.trans i⟩
theorem jN{p:Rat}(hT:AM w)(h:BU w v p)(h':BU w v' q)(b1:p.num.natAbs<P2 2400)(b2:p.den<P2 2400)(b3:(q⁻¹).num.natAbs<P2 2400)(b4:(q⁻¹).den<P2 2400) :
 Calls prog 180 #[v,v'] w (GN w (p*q⁻¹)):=by
 have A:=fun(g:World) (f:Ext w g)=>qh (fI (h'.ext f));have D:=fun(g:World) (u:Value) (f:Ext w g) (hu:BU g u q⁻¹)=>qh (Nx (hT.ext f) (h.ext f) hu b1 b2 b3 b4);obtain⟨_,rfl,s,a,n,c,b,m,d,rfl,HS,hx,hy⟩:=h;obtain⟨_,rfl,K,E,J,G,F,I,H,rfl,a8,V,X⟩:=h';have B:(Al s a n c false b m d).toArray=#[.bool s,.slice a n c,.bool false,.slice b m d]:=rfl;have C:(Al K E J G false F I H).toArray=#[.bool K,.slice E J G,.bool false,.slice F I H]:=rfl;rw[B]at D |-;rw[C]at A |-;clear b1 b2 b3 b4 hx hy V X B C
 go_enter func180,ntmps180
 go_upto_region 1 with(fail)
 refine CO ?_;intro w0 l i j t Z;have p0:=i.c 0 rfl;have p1:=i.c 1 rfl;have p2:=i.c 2 rfl;have p3:=i.c 3 rfl;have q0:=j.c 0 rfl;have q1:=j.c 1 rfl;have q2:=j.c 2 rfl;have q3:=j.c 3 rfl;have hR:Arr w0 (w.heap.size+2) 85 (Al false none 0 0 false none 0 0):=t;clear i j t Z;have o:=fun(g:World) (f:Ext w0 g)=>qh (And.intro (f.cell p0) (And.intro (f.cell p1) (And.intro (f.cell p2) (And.intro (f.cell p3) (And.intro (f.cell q0) (And.intro (f.cell q1) (And.intro (f.cell q2) (f.cell q3))))))))
 refine B0
  [he (.agg #[.bool s,.slice a n c,.bool false,.slice b m d]),he (.agg #[.bool K,.slice E J G,.bool false,.slice F I H]),hp (fun v g=>NR (q⁻¹) v g),hp (fun v g=>NR (p*q⁻¹) v g)]
  ⟨NR.x _,NR.x _,trivial⟩ ⟨?o0,?o1,?o2,?o3,trivial⟩ ?fin
 case o0 | o1=>exact ol4
 case o2 =>
  refine Ag rfl fun ρ g f z S h => ?_;have e1:_=_:=h.2.1;obtain⟨a0,a1,a2,a3,a4,a5,a6,a7⟩:=(o g f).out;refine⟨129,#[.agg #[.bool K,.slice E J G,.bool false,.slice F I H]],by go_simp,((A g (l.trans f)).out).mono ?_⟩;rintro e w' ⟨P,rfl,k,U⟩;exact⟨_,rfl,k,P,rfl,U⟩
 case o3 =>
  refine Ag rfl fun ρ g f z S h => ?_;have e1:_=_:=h.2.1;obtain⟨v2,e2,r,rfl,r2⟩:=h.2.2.1;obtain⟨a0,a1,a2,a3,a4,a5,a6,a7⟩:=(o g f).out;refine⟨85,#[.agg #[.bool s,.slice a n c,.bool false,.slice b m d],.agg r.toArray],by go_simp,((D g _ (l.trans f) ⟨r,rfl,r2⟩).out).mono ?_⟩;rintro e w' ⟨P,rfl,k,U⟩;exact⟨_,rfl,k,P,rfl,U⟩
 case fin =>
  intro g f;rintro _ ⟨_,rfl,_⟩;rintro _ ⟨_,rfl,s9,M,n9,O,N,m9,Q,rfl,L,W,Y⟩;change wpList _ _ _ _ _ _;simp only[Ci];have y:=hR.ext f;have aa:(Al s9 M n9 O false N m9 Q).toArray=#[.bool s9,.slice M n9 O,.bool false,.slice N m9 Q]:=rfl
  go_wp2_with(refine Aa (vs:=Al s9 M n9 O false N m9 Q) rfl rfl rfl rfl rfl Ak y rfl (Aq _ _ _ _ _ _ _ _) ?_;intro w9 R T)
  exact py (Ap rfl Ak rfl R) rfl (BG (l.trans f) y (AO _ _ _ _ _ _ _ _) T (by omega) L W Y)
theorem fy(d:AM w)(h0 : -9223372036854775808<=z)(h1:z<=9223372036854775807) :
 Calls prog 114 #[.int .i64 z] w fun e f=>e = .returned (.string ⟨(txt (z:Rat)).toArray⟩)/\Ext w f:=by
 have a:=qh (Lh d h0 h1);have e:Lib.itoa z=txt (z:Rat):=(bw (q:=(z:Rat)) rfl).symm;rw[e]at a;obtain⟨S,c⟩:∃ S:ByteArray,⟨(txt (z:Rat)).toArray⟩=S:=⟨_,rfl⟩;rw[c]at a |-;clear e c
 go_enter func114,ntmps114
 go_wp2_with fail
 refine a.out.mono ?_;rintro e g ⟨rfl,b⟩;go_wp2;go_ret;exact⟨rfl,b⟩
theorem gC:txt q=[48]<->q=0:=by
 have h0:AD [48]=some 0:=by decide
 constructor
 · intro h;have h1:=Cx q;rw[h,h0]at h1;exact(tZ h1).symm
 · rintro rfl;exact(Cp h0).symm
theorem ja(v:AM w)(i:(txt q).length<=570) :
 Calls prog 112 #[.string ⟨(txt q).toArray⟩] w fun e A=>(∃ r:Int,e = .returned (.int .i64 r)/\(r=0<->q=0))/\Ext w A:=by
 have f:=fun(B:World) (p:Ext w B)=>qh (iZ (s:=⟨(txt q).toArray⟩) (v.ext p) (by rw[<-Ay,Cw];exact i));rw[Cw,Cx]at f;simp only[vC]at f;have l:=jZ (txt q) [48];have g:=gC (q:=q)
 have a:txt q≠[]:=fun h=>by
  have h1:=Cx q;rw[h]at h1;have h2:AD []=none:=by decide
  rw[h2]at h1;cases h1
 by_cases h0:q=0
 · rw[g.2 h0];clear f l g a i
   go_enter func112,ntmps112
   go_wp2;go_ret;exact⟨⟨0,rfl,by simp[h0]⟩,Ext.refl _⟩
 · obtain⟨c,t,j⟩:=rS a;have d:¬ (c=48/\t=[]):=fun⟨m,o⟩=>h0 (g.1 (by rw[j,m,o]));have y:¬ c=48\/¬ t=[]:=by
    by_cases h:c=48
    · exact Or.inr fun h2=>d ⟨h,h2⟩
    · exact Or.inl h
   have z:(c == 48 && t.isEmpty)=false:=by
    by_cases h:c=48
    · have h2:t≠[]:=fun h2=>d ⟨h,h2⟩;cases t with
      | nil=>exact absurd rfl h2
      | cons _ _=>simp
    · simp[h]
   rw[j]at f |-;clear l g a i j
   go_enter func112,ntmps112
   go_wp2_with fail
   refine(f _ (Ext.refl _)).out.mono ?_;rintro e C ⟨rfl,b⟩;by_cases k:c=45
   · subst k;go_wp2;go_ret;exact⟨⟨-1,rfl,by simp[h0]⟩,b⟩
   · have x:=MR (t:=t) (n:=45) k;go_wp2;go_ret;exact⟨⟨1,rfl,by simp[h0]⟩,b⟩
theorem ib{n:Int}{a m:Nat}(b:0<a)(h:((m:Int):Rat)=mkRat n' a):n'=((m*a:Nat):Int)/\mkRat (n*(a:Int)) (d*(m*a))=mkRat n d*(((m:Int):Rat))⁻¹:=by
 have h1:((m:Int):Rat)=mkRat (m:Int) 1:=by rw[Rat.mkRat_one]
 have h2:n'=((m*a:Nat):Int):=by
  rw[h1]at h;have h3:=(Rat.mkRat_eq_iff (by omega) (by omega)).1 h;rw[q7];omega
 refine⟨h2,?_⟩;rw[<-rT,Rat.mkRat_mul_right (by omega)];have h4:(((m:Int):Rat))⁻¹=mkRat 1 m:=by
  rw[Pl.mkRat_div];show _=(1:Rat)*_;rw[Rat.one_mul];rfl
 rw[h4,Rat.mkRat_mul_mkRat,Int.mul_one]
theorem jQ{m:Nat}(hT:AM w)(hm:1<=m)(ax:m<=4096)(hb:b<=900)(hx:Pl.RB b x)(lx:(txt x).length<=570) :
 Calls prog 113 #[.string ⟨(txt x).toArray⟩,.string ⟨(txt ((m:Int):Rat)).toArray⟩] w fun e w'=>e = .returned (.tuple #[.string ⟨(txt (x*(((m:Int):Rat))⁻¹)).toArray⟩,.bool true])/\Ext w w':=by
 obtain⟨y,hy⟩:∃ y:Rat,((m:Int):Rat)=y:=⟨_,rfl⟩;have a7:y.num=(m:Int):=by rw[<-hy];rfl
 have a5:y.den=1:=by rw[<-hy];rfl
 have ai:y≠0:=fun h=>by
  have:=Pl.rat_num_den_zero.2 h;omega
 have a6:=Pl.rat_inv_pos (a:=y) (by omega);have Q:Pl.RB 13 y⁻¹:=by
  have e:P2 13=8192:=by unfold P2;decide
  exact⟨by rw[a6.1,a5];omega,by rw[a6.2,a7];omega⟩
 have ly:(txt y).length<=570:=by
  rw[bw a5,a7];have:=ee (z:=(m:Int)) (by omega) (by omega);omega
 have sx:(⟨(txt x).toArray⟩:ByteArray).size<=570:=by rw[<-Ay,Cw];exact lx
 have sy:(⟨(txt y).toArray⟩:ByteArray).size<=570:=by rw[<-Ay,Cw];exact ly
 rw[hy];have N:=qh (cU (w:=w) (s:=⟨(txt x).toArray⟩) (s':=⟨(txt y).toArray⟩) (by omega) (by omega));have O:=fun(f:World) (g:Ext w f)=>qh (bu (s:=⟨(txt x).toArray⟩) (hT.ext g) sx);have P:=fun(f:World) (g:Ext w f)=>qh (bu (s:=⟨(txt y).toArray⟩) (hT.ext g) sy);have e1:vaQ (An ⟨(txt x).toArray⟩)=x:=by unfold vaQ;rw[Cw,Cx];rfl
 have e2:vaQ (An ⟨(txt y).toArray⟩)=y:=by unfold vaQ;rw[Cw,Cx];rfl
 rw[e1]at O;rw[e2]at P;rw[Cw,Cw]at N;have ac:=fun(f:World) (v v':Value) (g:Ext w f) (h:BU f v x) (h':BU f v' y)=>qh (jN (hT.ext g) h h' (Af hx.1 (by omega)) (Af hx.2 (by omega)) (Af Q.1 (by omega)) (Af Q.2 (by omega)));have a4:=hx.mul Q;have a3:=fun(f:World) (v:Value) (g:Ext w f) (h:BU f v (x*y⁻¹))=>qh (PL (hT.ext g) h (Af a4.1 (by omega)) (Af a4.2 (by omega)));have a2:=fun(f:World) (v:Value) (h:BU f v y)=>qh (DU h (r:=false) (pN ai))
 have M:∀ n d q i,ShQ (txt x) n d->ShQ (txt y) q i->(q != 0)=true/\∀ f,Ext w f->Hid (Calls prog 177 #[.int .i64 (n*(i:Int)),.int .i64 ((d:Int)*q)] f fun e w'=>e = .returned (.string ⟨(txt (x*y⁻¹)).toArray⟩)/\Ext f w')/\(-1000000000000000000<n*(i:Int)/\n*(i:Int)<1000000000000000000)/\(0<=(d:Int)*q/\(d:Int)*q < 1000000000000000000):=by
  rintro n d q i ⟨q1,b1,I,f1⟩ ⟨q2,b2,c2,f2⟩;rw[Cx]at q1 q2;have k1:x=mkRat n d:=tZ q1;have k2:y=mkRat q i:=tZ q2;obtain⟨g1,g2⟩:=ib (n:=n) (d:=d) c2 (hy.trans k2);rw[hy,<-k1]at g2;have hp:0<m*i:=tA (by omega) c2;refine⟨by simp;omega,fun f g => ?_⟩;have b7:(n*(i:Int)).natAbs<1000000000*1000000000:=by
   rw[qW];exact Nat.mul_lt_mul'' b1 f2
  have ay:m*i < 1000000000:=by omega
  have b5:d*(m*i)<1000000000*1000000000:=Nat.mul_lt_mul'' f1 ay;have hd0:0<d*(m*i):=tA I hp;have h:=aP (w:=f) (n:=n*(i:Int)) (d:=d*(m*i)) (hT.ext g) (by omega) (by omega) hd0 (by omega);rw[g2,q7,<-g1]at h;refine⟨qh h,⟨by omega,by omega⟩,?_⟩;rw[g1,<-q7];omega
 clear sx sy e1 e2 hx a4 Q a6 ai a7 a5 hy lx ly hm ax;obtain⟨S,hS⟩:∃ S:ByteArray,⟨(txt x).toArray⟩=S:=⟨_,rfl⟩;obtain⟨S',aa⟩:∃ S:ByteArray,⟨(txt y).toArray⟩=S:=⟨_,rfl⟩;obtain⟨R,hR⟩:∃ S:ByteArray,⟨(txt (x*y⁻¹)).toArray⟩=S:=⟨_,rfl⟩;rw[hS]at N O |-;rw[aa]at N P |-;rw[hR]at a3 |-;simp only[hR]at M;clear hS aa hR
 go_enter func113,ntmps113
 go_wp2_with fail
 refine N.out.mono ?_;rintro e w1 ⟨k,⟨n,d,q,i,rfl,hq,ah⟩|rfl⟩
 · have ar:(shL n (d:Nat)).toArray=#[.int .i64 n,.int .i64 (d:Int)]:=rfl;have b6:(shL q (i:Nat)).toArray=#[.int .i64 q,.int .i64 (i:Int)]:=rfl;have F:=(Arr.new w1 209 (shL 0 0)).alloc (.cells (shL 0 0).toArray 209);have l:=Arr.new (w1.alloc (.cells (shL 0 0).toArray 209)) 209 (shL 0 0);have H:(w1.alloc (.cells (shL 0 0).toArray 209)).heap.size=w1.heap.size+1:=by simp
   rw[H]at l;obtain⟨b8,Z⟩:=M n d q i hq ah;have HQ:=qh Z;clear M Z hq ah H O P ac a3 a2
   go_upto_region 2 with(first
    | (refine Aa (vs:=shL n (d:Nat)) rfl rfl rfl rfl rfl FI F rfl (H4 _ _) ?_;intro w2 J o;have G:=l.kept o (by simp))
    | (refine Aa (vs:=shL q (i:Nat)) rfl rfl rfl rfl rfl FI G rfl (H4 _ _) ?_;intro w3 C A;have a1:=J.kept A (by simp)))
   have E:Ext w w3:=(((k.alloc _).alloc _).grownR o k.size).grownR A (Nat.le_succ_of_le k.size);have p0:=a1.c 0 rfl;have p1:=a1.c 1 rfl;have q0:=C.c 0 rfl;have q1:=C.c 1 rfl;obtain⟨hF,hr,aA⟩:=HQ.out w3 E;have m1:IntKind.i64.wrap (n*(i:Int))=n*(i:Int):=pq _ (by omega);have m2:IntKind.i64.wrap ((d:Int)*q)=(d:Int)*q:=pq _ (by omega);clear hr aA J C a1 o A F l G HQ k
   go_wp2_with fail
   refine hF.out.mono ?_;rintro e w4 ⟨rfl,K⟩;go_wp2
   go_ret2
   exact⟨rfl,E.trans K⟩
 · have ar:(shL 0 0).toArray=#[.int .i64 0,.int .i64 0]:=rfl;have F:=(Arr.new w1 209 (shL 0 0)).alloc (.cells (shL 0 0).toArray 209);have l:=Arr.new (w1.alloc (.cells (shL 0 0).toArray 209)) 209 (shL 0 0);have H:(w1.alloc (.cells (shL 0 0).toArray 209)).heap.size=w1.heap.size+1:=by simp
   rw[H]at l;clear M H
   go_upto_region 2 with(first
    | (refine Aa (vs:=shL 0 0) rfl rfl rfl rfl rfl FI F rfl (H4 _ _) ?_;intro w2 J o;have G:=l.kept o (by simp))
    | (refine Aa (vs:=shL 0 0) rfl rfl rfl rfl rfl FI G rfl (H4 _ _) ?_;intro w3 C A))
   have E:Ext w w3:=(((k.alloc _).alloc _).grownR o k.size).grownR A (Nat.le_succ_of_le k.size);clear J C o A F l G k
   go_wp2_with fail
   refine(P _ E).out.mono ?_;rintro e w4 ⟨_,rfl,K,s',T,n1,I,U,m',V,rfl,ap,b0,b3⟩;have W:=E.trans K;have ab:=Arr.new w4 85 (Al false none 0 0 false none 0 0);have av:(Al s' T n1 I false U m' V).toArray=#[.bool s',.slice T n1 I,.bool false,.slice U m' V]:=rfl
   go_upto_region 5 with(refine Aa (vs:=Al s' T n1 I false U m' V) rfl rfl rfl rfl rfl Ak ab rfl (Aq _ _ _ _ _ _ _ _) ?_;intro w5 t ag)
   have p:Ext w4 w5:=((Ext.refl w4).alloc _).grownR ag (lrf _);have a9:=W.trans p;obtain⟨Y,aq⟩:∃ y,w4.heap.size=y:=⟨_,rfl⟩;rw[aq]at t |-;have y0:=t.c 0 rfl;have y1:=t.c 1 rfl;have y2:=t.c 2 rfl;have y3:=t.c 3 rfl;have a8:BU w5 (.agg #[.bool s',.slice T n1 I,.bool false,.slice U m' V]) y:=⟨Al s' T n1 I false U m' V,rfl,s',T,n1,I,U,m',V,rfl,ap,b0.ext p,b3.ext p⟩;clear ab ag t K W p av
   go_wp2_with fail
   refine(a2 _ _ a8).out.mono ?_;rintro e w6 ⟨rfl,j⟩;have L:=a9.trans j;replace y0:=j.cell y0;replace y1:=j.cell y1;replace y2:=j.cell y2;replace y3:=j.cell y3;have b4:=fun(f:World) (g:Ext w6 f)=>a8.ext (j.trans g);clear a9 a2;go_wp2;have a0:=fun(f:World) (g:Ext w6 f)=>qh (And.intro (g.cell y0) (And.intro (g.cell y1) (And.intro (g.cell y2) (g.cell y3))))
   refine B0
    [he (.string S),hp (fun v f=>NR x v f),he (.agg #[.bool s',.slice T n1 I,.bool false,.slice U m' V]),hp (fun v f=>NR (x*y⁻¹) v f),hp (fun v f=>v = .string R)]
    ⟨NR.x _,NR.x _,fun _ _ _ _ h=>h,trivial⟩ ⟨?o0,?o1,?o2,?o3,?o4,trivial⟩ ?fin
   case o0=>exact omv
   case o2=>exact ol4
   case o1 =>
    refine Ag rfl fun ρ f g X ad h => ?_;have e1:_=_:=h.2.1;obtain⟨aj,ak,al,ao⟩:=(a0 f g).out;refine⟨178,#[.string S],by go_simp,((O f (L.trans g)).out).mono ?_⟩;rintro e w' ⟨cs,rfl,D,hr⟩;exact⟨_,rfl,D,cs,rfl,hr⟩
   case o3 =>
    refine Ag rfl fun ρ f g X ad h => ?_;obtain⟨v1,e1,B,rfl,r1⟩:=h.2.1;have e2:_=_:=h.2.2.1;obtain⟨aj,ak,al,ao⟩:=(a0 f g).out;refine⟨180,#[.agg B.toArray,.agg #[.bool s',.slice T n1 I,.bool false,.slice U m' V]],by go_simp,((ac f _ _ (L.trans g) ⟨B,rfl,r1⟩ (b4 f g)).out).mono ?_⟩;rintro e w' ⟨cs,rfl,D,hr⟩;exact⟨_,rfl,D,cs,rfl,hr⟩
   case o4 =>
    refine Ag rfl fun ρ f g X ad h => ?_;obtain⟨v1,e1,B,rfl,r1⟩:=h.2.1;obtain⟨aj,ak,al,ao⟩:=(a0 f g).out;refine⟨124,#[.agg B.toArray],by go_simp,((a3 f _ (L.trans g) ⟨B,rfl,r1⟩).out).mono ?_⟩;rintro e w' ⟨rfl,D⟩;exact⟨_,rfl,D,rfl⟩
   case fin =>
    intro f g;rintro _ ⟨_,rfl,_⟩;rintro _ ⟨_,rfl,_⟩;rintro _ rfl;change wpList _ _ _ _ _ _;simp only[Ci];go_wp2
    go_ret2
    exact⟨rfl,L.trans g⟩
theorem aY:prog.underlying 139=some (.map 132 9):=by kernel_rfl
theorem cw(w:World):(zeroValue 9).run prog w = .ok (.string ⟨#[]⟩) w:=by kernel_rfl
theorem jR:BV prog 132 G2 6 48:=⟨by kernel_rfl,rfl,by omega⟩
theorem kL(b:w.grownBy w' row)(hp:w.cell? p=some v)(a:some p.block≠row):w'.cell? p=some v:=by
 rw[sc (b.block _ (qV w p hp) a),hp]
theorem cB{r:Nat}(h:AR w base e k a n c rows)(hi:Br w r m):blk a≠some r:=by
 cases a with
 | none=>simp[blk]
 | some ad =>
  rcases h.2.2 with⟨b,_⟩|⟨g,d,f,b,_⟩
  · simp at b
  · simp only[pI,pz]at b;obtain⟨rfl,_⟩:=b;have:=Ej h hi;simpa[blk]using this
theorem ZY{m c':Nat}(h:Own w b e a n c cs)(f:AR w b' e' k a' m c' rows)(l:e≠e'):blk a=none\/blk a≠blk a':=by
 cases a' with
 | none =>
  cases o:blk a with
  | none=>exact Or.inl rfl
  | some g=>exact Or.inr (by simp[blk])
 | some ad =>
  have hp:∃ g,ad=⟨g,0,none⟩:=by
   rcases f.2.2 with⟨d,_⟩|⟨g,i,j,d,_⟩
   · simp at d
   · simp only[pI,pz]at d;exact⟨g,d.1⟩
  obtain⟨g,rfl⟩:=hp;exact Or.inr (by have:=II h f l;simpa[blk]using this)
structure Av1(w w2 wr:World)(RM:Nat)(K:List Pl.Tm)(ao:Option Addr)(no co:Nat):Prop where
 ext:Ext w2 wr
 mp:Br wr RM (aw K)
 ow:AR wr w2.heap.size 132 6 ao no co (K.map fun p=>p.1.map (Value.int .i64))
 len:no=K.length
 gm:w2.heap.size<=RM
theorem Av1.ex{a wr b:World}{K:List Pl.Tm}(h:Av1 w a wr RM K ao no co)(e:Ext wr b):Av1 w a b RM K ao no co:=⟨h.ext.trans e,h.mp.ext e,h.ow.ext e,h.len,h.gm⟩
theorem bA(L:List Pl.Tm):(L.map fun p=>p.1.map (Value.int .i64))=(L.map (·.1)).map fun e=>e.map (Value.int .i64):=by rw[sn];rfl
theorem eG{A q cg:Nat}{ts:List Tx}{l:List Pl.Tm}(hT:AM w)(hg:SlL w ag q cg gs)(hG:isG gs)(et:Zs gs A)(ha:AH w a n c ts)(hr:rdP (A:Int) ts=some l)(sa:∀ t∈ts,t.1.length<=570)(eq:kR gs A l) :
 Calls prog 49 #[.slice ag q cg,.agg #[.int .i64 (A:Int),.slice a n c]] w (Cd w (resQ A ((avT gs A (sumK gs A l)).map Es))):=by
 have hq:gs.length=q:=hg.len;have eu:0<q:=by have:=hG.pos;omega
 have cQ:A<=6:=by have:=(Pv.of hr).v0;omega
 have m7:n<=4096:=by have h1:=(AW hr).2.1;have h2:=ha.len;omega
 have m5:=BH hr;have m9:q<=1000:=by have:=eq.gl;omega
 have i3:=fun(o:World) (f:Ext w o)=>qh (by have h:=bI (hg.ext f) (by omega);rw[au hG]at h;exact h);have cR:=fun(o:World) (f:Ext w o)=>qh (by have h:=D7 (vars:=(A:Int)) (hT.ext f) (ha.ext f) sa;rw[hr]at h;exact h)
 have k7:Hid (∀ i,i<n->(ts.getD i tm0).2.length=A/\ts.getD i tm0=(txt (l.getD i ([],0)).2,(ts.getD i tm0).2)/\(l.getD i ([],0)).1=AY (ts.getD i tm0).2):=qh fun i hi=>by
  obtain⟨p1,_,p3,_,p5⟩:=Bm (Kn hr (i:=i) (by have:=ha.len;omega));exact⟨by omega,by rw[<-Cp p1],p5⟩
 have j9:Hid (∀ t∈l,t.1.length=6):=qh fun t ht=>(A5 hr t ht).1;have R:=qh eq;obtain⟨RQ,e7⟩:∃ r,resQ (A:Int) ((avT gs A (sumK gs A l)).map Es)=r:=⟨_,rfl⟩;rw[e7];have k9:=qh e7;have dj:=qh hq;have ma:(A != A)=false:=by simp
 clear sa eq hr e7 hq
 go_enter func49,ntmps49
 go_upto_region 1 with(fail)
 refine Cf ?_;intro w0 dt dq fO ln;have i5:=dq.c 0 rfl;have i6:=dq.c 1 rfl;have hR:Arr w0 (w.heap.size+1) 28 (Ah 0 none 0 0):=fO;clear dq fO
 go_wp2_with fail
 refine(i3 _ dt).out.mono ?_;rintro e w1 ⟨rfl,bd⟩;have d4:=dt.trans bd;have fr:=bd.cell i5;have fs:=bd.cell i6
 go_wp2_with fail
 refine(cR _ d4).out.mono ?_;rintro e w2 ⟨rfl,bf⟩;have b7:=d4.trans bf;have cs:=hR.ext (bd.trans bf);have c6:=bf.cell fr;have c8:=bf.cell fs;have eC:w.heap.size+2<=w2.heap.size:=by have:=(bd.trans bf).size;omega
 clear i5 i6 fr fs hR i3 cR dt bd bf ln d4;simp only[vC];obtain⟨bg,og,m2,lv,m3,rfl,fN,i8⟩:=(hg.ext b7).at eu;have lc:A=lv:=by
  have h1:=i8.len;have h2:=(et (gs.getD 0 []) (by rw[gqq,oO (by rw[dj.out];exact eu)];exact qG _)).2;omega
 subst lc;rw[qy]at fN
 go_upto_region 3 with(fail)
 go_region
 have bj:Ext w2 w2.drew:=(Ext.refl w2).drew;replace b7:=b7.trans bj;replace cs:=cs.ext bj;replace c6:=bj.cell c6;replace c8:=bj.cell c8;replace eC:w.heap.size+2<=w2.drew.heap.size:=pD eC bj.size;clear bj fN i8;generalize w2.drew=w3 at *
 go_upto_region 7 with(refine GJ rfl rfl ?_;intro w4 dy a6 T)
 obtain⟨RM,gi⟩:∃ g,w3.heap.size=g:=⟨_,rfl⟩;rw[gi]at dy T |-;have hA4:Av1 w w3 w4 RM (sumK gs A (l.take 0)) none 0 0:=⟨a6,dy,AR.nil _ _ _ _,rfl,vj gi⟩;obtain⟨j2,hS,fe,gU⟩:=ha;have HQ:=qh gU;have ce:=qh fe;have j0:=a6.cell c6;have j1:=a6.cell c8;clear dy fe gU;go_wp2
 go_loopw[6,44] (fun ov iv wr=>∃ (k:Nat) (ao:Option Addr) (no co:Nat),ov = .slice ao no co/\iv = .int .i64 k/\k<=n/\Av1 w w3 wr RM (sumK gs A (l.take k)) ao no co) (fun _ iv _=>n-(intOf iv).toNat)
 case atStart=>exact⟨0,none,0,0,rfl,rfl,pE _,hA4⟩
 case round =>
  clear hA4 a6 j0 j1 T;obtain⟨k,ao,no,co,rfl,rfl,hk,G⟩:=hrel;have hE:=G.ext;have av:=b7.trans hE;by_cases en:k<n
  · have ec:=hS.ext av;obtain⟨bq,mb,rfl,l3⟩:=ec.rd (by omega);obtain⟨s,ax,nx,dn,b8,d1,d2⟩:=HQ.out k en;have hY:=Arr.new wr 26 (tmL ⟨#[]⟩ none 0 0);have eX:j2.getD k []=tmL s ax nx dn:=b8
    go_upto_region 10 with(first
     | (refine Bg rfl rfl A4 rfl ec en ?_;rw[eX])
     | (refine Aa (vs:=tmL s ax nx dn) rfl rfl rfl rfl rfl A4 hY rfl (CI _ _ _ _) ?_;intro w5 Z bG))
    have aj:Ext wr w5:=((Ext.refl wr).alloc _).grownR bG (lrf _);obtain⟨X,hX⟩:∃ x,wr.heap.size=x:=⟨_,rfl⟩;rw[hX]at Z |-;obtain⟨r1,r2,r3⟩:=k7.out k en;obtain⟨t,kk⟩:∃ t,Hid (ts.getD k tm0=t):=⟨_,qh rfl⟩;rw[kk.out]at d1 d2 r1 r2 r3;obtain⟨t1,t2⟩:=t;simp only at d1 d2 r1 r3;have f7:X<w5.heap.size:=Z.lt;have y0:=Z.c 0 rfl;have y1:=Z.c 1 rfl;have d6:=av.trans aj;have db:SlI w5 ax nx dn t2:=d2.ext d6;have le:A=nx:=by have h1:=db.len;omega
    subst le;have bp:=iP (gs:=gs) (n:=A) (k:=k) (l:=l) (by have:=ce.out;omega);have i1:rk gs A (l.getD k ([],0)).1=AY (Yg gs t2):=by
     rw[r3];unfold rk;have h1:=Zn (l:=t2);rw[r1]at h1;rw[h1]
    rw[i1]at bp;have d0 : .string s=bB (txt (l.getD k ([],0)).2):=by
     rw[<-iO s,d1];exact q9 (fun x:Tx=>bB x.1) r2
    obtain⟨QT,e6⟩:∃ x,(l.getD k ([],0)).2=x:=⟨_,rfl⟩;have ef:Pl.RB 400 QT:=by
     rw[<-e6];exact R.out.cb _ (by rw[gqq,oO (by have:=ce.out;omega)];exact qG _)
    have c3:=R.out.rb k (AY (Yg gs t2));have iR:=R.out.rb (k+1) (AY (Yg gs t2));rw[e6]at bp d0;obtain⟨K,V⟩:∃ K,sumK gs A (l.take k)=K:=⟨_,rfl⟩;rw[V]at bp G c3;have f1:=qh bp;have dc:=qh V;have m0:no<=4096:=by
     have h1:=dR gs A (l.take k);have h2:=G.len;rw[V,qg]at h1;omega
    have ac:(AY (Yg gs t2)).length=6:=D0 (by unfold Yg;rw[ZZ];omega);have cz:BI (AY (Yg gs t2)) = .agg ((AY (Yg gs t2)).map (Value.int .i64)).toArray:=rfl;clear hY bG Z b8 eX l3 ec d2 d1 bp i1 r2 r3 e6 V
    go_wp2_with fail
    refine(ZB db cQ).mono ?_;rintro e w6 ⟨rfl,a0⟩
    go_wp2_with fail
    refine(aU (hg.ext (d6.trans a0)) et r1 cQ).mono ?_;rintro e w7 ⟨rfl,ak⟩;obtain⟨E,lo⟩:∃ E,AY (Yg gs t2)=E:=⟨_,rfl⟩;rw[cz];rw[lo]at ac cz f1 c3 iR |-;have hA7:=Arr.new w7 132 G2;obtain⟨I,J,M,N,O,Q,ay⟩:=Bt ac;obtain⟨KI,kr⟩:∃ KI:List Value,KI=[.int .i64 I,.int .i64 J,.int .i64 M,.int .i64 N,.int .i64 O,.int .i64 Q]:=⟨_,rfl⟩;have W:E.map (Value.int .i64)=[.int .i64 I,.int .i64 J,.int .i64 M,.int .i64 N,.int .i64 O,.int .i64 Q]:=by rw[ay];rfl
    rw[W];have em:([.int .i64 I,.int .i64 J,.int .i64 M,.int .i64 N,.int .i64 O,.int .i64 Q]:List Value).toArray=#[.int .i64 I,.int .i64 J,.int .i64 M,.int .i64 N,.int .i64 O,.int .i64 Q]:=rfl;have a3:Agg prog 132 ([.int .i64 I,.int .i64 J,.int .i64 M,.int .i64 N,.int .i64 O,.int .i64 Q]:List Value).length:=ZF;have bR:∀ u∈([.int .i64 I,.int .i64 J,.int .i64 M,.int .i64 N,.int .i64 O,.int .i64 Q]:List Value),u.oneCell'=true:=by rw[<-W];exact Cc _
    have gO:(Value.agg #[.int .i64 I,.int .i64 J,.int .i64 M,.int .i64 N,.int .i64 O,.int .i64 Q])=BI E:=by rw[cz,W]
    have aq:=qh gO;have kp:=qh ay;have dd:=qh W;clear kr KI gO cz W em ay
    go_upto_region 11 with(refine Aa (vs:=[.int .i64 I,.int .i64 J,.int .i64 M,.int .i64 N,.int .i64 O,.int .i64 Q]) rfl rfl rfl rfl rfl a3 hA7 rfl bR ?_;intro w8 ah gx)
    obtain⟨Y,ed⟩:∃ y,w7.heap.size=y:=⟨_,rfl⟩;rw[ed]at ah |-;have cx:∀ g,blk ao=some g->g<X:=fun g h=>by have h1:=(G.ow.lt h).2;omega
    have l1:X<Y:=by have h1:=aj.size;have h2:=(a0.trans ak).size;have h3:=f7;omega
    have bi:Ext w7 w8:=((Ext.refl w7).alloc _).grownR gx (lrf _);have h58:=(a0.trans ak).trans bi;have i0:=aj.trans h58;have B:=G.ex i0;replace y0:=h58.cell y0;replace y1:=h58.cell y1;have aa:=B.mp;clear hA7 gx bi ak a0 aj h58 i0 G db hE av d6;have ad:∀ b:Bool,decide (E∈K.map (·.1))=b->WR (aw K) E=b:=fun b hb=>by rw[jr];exact hb
    by_cases D:E∈K.map (·.1)
    case' pos =>
     obtain⟨SA,ap⟩:∃ SA:ByteArray,bB (txt (Pl.getK 0 K E)) = .string SA:=⟨_,rfl⟩;have U:=fU D;rw[ap]at U;have fA:Hid ((⟨(txt (Pl.getK 0 K E)).toArray⟩:ByteArray)=SA):=qh (by unfold bB at ap;injection ap);have bL:=ad true (qC D)
     go_upto_region 12 with(first
      | (refine Ev rfl rfl a3 rfl ah ?_)
      | (refine LH (k:=E) rfl rfl aY Q3 cw rfl aq.out aa ac ?_;rw[pP rfl,U,bL]))
     clear U bL ad ap
     go_upto_region 15 with(fail)
     have cq:AR w8 w3.heap.size 132 6 ao no co ((Pl.putK K E (Pl.getK 0 K E+QT)).map fun p=>p.1.map (Value.int .i64)):=by
      rw[bA,bV,pP D,<-bA];exact B.ow
     have cA:no=(Pl.putK K E (Pl.getK 0 K E+QT)).length:=by
      have h1:=q9 List.length (bV (k:=E) (q:=Pl.getK 0 K E+QT) (L:=K));rw[pP D,pH,pH]at h1;rw[h1];exact B.len
     have d5:=B.ext;have f3:=B.mp;have H:=ah;have ej:=B.gm;obtain⟨ba,e1⟩:∃ x,x=ao:=⟨_,rfl⟩;obtain⟨i4,e2⟩:∃ x,x=no:=⟨_,rfl⟩;obtain⟨bb,e3⟩:∃ x,x=co:=⟨_,rfl⟩;obtain⟨b6,e4⟩:∃ x,x=w8:=⟨_,rfl⟩;subst e1 e2 e3 e4;clear D aa B ah
    case' neg =>
     obtain⟨LV,U⟩:∃ v,Fu (.string ⟨#[]⟩) (aw K) E=v:=⟨_,rfl⟩;have bL:=ad false (pN D)
     go_upto_region 12 with(first
      | (refine Ev rfl rfl a3 rfl ah ?_)
      | (refine LH (k:=E) rfl rfl aY Q3 cw rfl aq.out aa ac ?_;rw[pP rfl,U,bL]))
     clear U bL ad;have iu:Hid ((⟨(txt (Pl.getK 0 K E)).toArray⟩:ByteArray)=⟨#[48]⟩):=qh (by rw[ip D,gC.2 rfl]);have cn:=B.ow.ext ((Ext.refl w8).alloc (.cells #[.int .i64 I,.int .i64 J,.int .i64 M,.int .i64 N,.int .i64 O,.int .i64 Q] 132));have g5:=BT (k:=6) (Arr.new w8 132 [.int .i64 I,.int .i64 J,.int .i64 M,.int .i64 N,.int .i64 O,.int .i64 Q]) rfl
     go_upto_region 15 with(first
      | (refine Ev rfl rfl a3 rfl ah ?_)
      | (refine Dn rfl rfl (by kernel_rfl) jR rfl cn rfl g5 (by intro r hr u hu;rw[pF.1 hr]at hu;exact bR u hu) (by unfold maxLen;omega) (by omega) (by have:=B.ext.size;simp;omega) ?_;intro ba bb b6 bo C d9))
     have g2:Ext w3 (w8.alloc (.cells #[.int .i64 I,.int .i64 J,.int .i64 M,.int .i64 N,.int .i64 O,.int .i64 Q] 132)):=B.ext.alloc _;have fn:∀ g,blk ao=some g->w3.heap.size<=g:=fun g h=>(cn.lt h).1;have cq:AR b6 w3.heap.size 132 6 ba (no+1) bb ((Pl.putK K E (Pl.getK 0 K E+QT)).map fun p=>p.1.map (Value.int .i64)):=by
      rw[bA,bV,pC D,qw,<-bA];show AR _ _ _ _ _ _ _ (_ ++ [E.map (Value.int .i64)]);rw[dd.out];exact bo
     have cA:no+1=(Pl.putK K E (Pl.getK 0 K E+QT)).length:=by
      have h1:=q9 List.length (bV (k:=E) (q:=Pl.getK 0 K E+QT) (L:=K));rw[pC D,pH,pZ,pH]at h1;rw[h1,<-B.len];rfl
     have d5:Ext w3 b6:=g2.grown C fn;have f3:=(aa.ext ((Ext.refl w8).alloc (.cells #[.int .i64 I,.int .i64 J,.int .i64 M,.int .i64 N,.int .i64 O,.int .i64 Q] 132))).kept C (fun h=>cB cn (aa.ext ((Ext.refl w8).alloc _)) h.symm);have H:=(ah.alloc (.cells #[.int .i64 I,.int .i64 J,.int .i64 M,.int .i64 N,.int .i64 O,.int .i64 Q] 132)).kept C (fun h=>by have:=cx _ h.symm;omega);have ej:=B.gm
     replace y0:=kL C (((Ext.refl w8).alloc (.cells #[.int .i64 I,.int .i64 J,.int .i64 M,.int .i64 N,.int .i64 O,.int .i64 Q] 132)).cell y0) (fun h=>wu X (cx X h.symm));replace y1:=kL C (((Ext.refl w8).alloc (.cells #[.int .i64 I,.int .i64 J,.int .i64 M,.int .i64 N,.int .i64 O,.int .i64 Q] 132)).cell y1) (fun h=>wu X (cx X h.symm));obtain⟨SA,ap⟩:∃ SA:ByteArray,(⟨#[48]⟩:ByteArray)=SA:=⟨_,rfl⟩;rw[ap];have fA:Hid ((⟨(txt (Pl.getK 0 K E)).toArray⟩:ByteArray)=SA):=qh (iu.out.trans ap);obtain⟨i4,e2⟩:∃ x,no+1=x:=⟨_,rfl⟩
     rw[e2]at cq cA |-;clear D aa B ah cn g5 bo C d9 ap e2 g2 fn
    all_goals
     have z0:=H.c 0 rfl;have z1:=H.c 1 rfl;have z2:=H.c 2 rfl;have z3:=H.c 3 rfl;have z4:=H.c 4 rfl;have z5:=H.c 5 rfl;have i9:=b7.trans d5;have kg:Hid ((⟨(txt QT).toArray⟩:ByteArray)=s):=qh (by unfold bB at d0;injection d0 with h;exact h.symm);have d8:=fun(o:World) (f:Ext w o)=>qh (jM (b:=400) (hT.ext f) (by omega) c3 ef (R.out.tb _ c3) (R.out.tb _ ef));rw[fA.out,kg.out]at d8;obtain⟨SN,ea⟩:∃ SN:ByteArray,(⟨(txt (Pl.getK 0 K E+QT)).toArray⟩:ByteArray)=SN:=⟨_,rfl⟩;rw[ea]at d8;have ii:=qh cA
     have kb:Hid (bB (txt (Pl.getK 0 K E+QT)) = .string SN):=qh (by unfold bB;rw[ea]);clear H c3 ef d0 ea cx l1 f7 cA;have fu:=fun(o:World) (f:Ext b6 o)=>qh (And.intro (f.cell z0) (And.intro (f.cell z1) (And.intro (f.cell z2) (And.intro (f.cell z3) (And.intro (f.cell z4) (And.intro (f.cell z5) (f.cell y0)))))))
     refine B0
      [he (.map (some RM)),he (.agg #[.int .i64 I,.int .i64 J,.int .i64 M,.int .i64 N,.int .i64 O,.int .i64 Q]),he (.string SA),hdP X 0,he (.string s),hp (fun v o=>v = .string SN)]
      ⟨fun _ _ _ _ h=>h,trivial⟩ ⟨?o0,?o1,?o2,?o3,?o4,?o5,trivial⟩ ?fin
     case o0 | o2=>exact omv
     case o3=>exact ofa (d:=0)
     case o4=>exact ol
     case o1 =>
      refine Aj rfl fun ρ o f F h => ?_;have e0:_=_:=h.1;obtain⟨aA,b0,b2,b3,b4,b5,ls⟩:=(fu o f).out;go_simp
     case o5 =>
      refine Ag rfl fun ρ o f F gw h => ?_;have e1:_=_:=h.2.1;have e2:_=_:=h.2.2.1;obtain⟨aA,b0,b2,b3,b4,b5,ls⟩:=(fu o f).out;refine⟨111,#[.string SA,.string s],by go_simp,((d8 o (i9.trans f)).out).mono ?_⟩;rintro e w' ⟨rfl,bx⟩;exact⟨_,rfl,bx,rfl⟩
     case fin =>
      intro o f;rintro _ rfl;change wpList _ _ _ _ _ _;simp only[Ci];have ab:=f3.ext f
      go_wp2_with(refine PG (k:=E) (v := .string SN) rfl (Or.inl rfl) aY Q3 rfl aq.out rfl ab ac ?_;intro mc iG fb)
      go_roundw
      case rel =>
       refine⟨k+1,ba,i4,bb,rfl,by go_num,by omega,?_⟩;rw[f1.out];refine⟨(d5.trans f).grown fb (fun g h=>by cases h;exact ej),?_,(cq.ext f).kept fb (Or.inr (cB (cq.ext f) ab)),ii.out,ej⟩;rw[<-kf,kb.out];exact iG
      case measure=>simp[intOf];omega
  · have l7:n=k:=by omega
    subst l7;have dw:sumK gs A (l.take n)=sumK gs A l:=by rw[pu (by have:=ce.out;omega)]
    rw[dw]at G;obtain⟨K,V⟩:∃ K,sumK gs A l=K:=⟨_,rfl⟩
    have k8:Hid (∀ e,Pl.RB 400 (Pl.getK 0 K e)):=qh fun e=>by
     have h:=R.out.rb n e;rw[dw,V]at h;exact h
    have l6:K.length<=4096:=by have:=dR gs A l;rw[V]at this;have:=ce.out;omega
    rw[V]at G;have dc:=qh V;have bs:Hid ((avT gs A K).length<=4096/\(∀ t∈avT gs A K,G9 A t)/\(∀ t∈avT gs A K,t.1.length<=570)/\EH ((avT gs A K).map Es)):=qh (by rw[<-V];exact⟨R.out.len,R.out.mkt,R.out.tx,R.out.fin⟩);clear dw V;have de:=qh G.len;obtain⟨wA,c5⟩:∃ x,x=wr:=⟨_,rfl⟩;subst c5;have ck:=G.ext;have gf:=G.ow;have g8:=G.mp;have g3:(K.map (·.1)).Nodup:=by have h:=g8.nodup;rw[Z0]at h;exact h
    have dd:=qh (fun(j:Nat) (hj:j<K.length)=>kh g3 hj)
    have j8:Hid (∀ j,j<K.length->∃ m:List Int,m.length=A/\(K.getD j ([],0)).1=AY m):=qh fun j hj=>by
     have h:=eN (gs:=gs) (n:=A) (l:=l) cQ j9.out;rw[dc.out]at h;exact h _ (by rw[gqq,oO hj];exact qG _)
    have c5:=b7.trans ck;have i7:=ck.cell c6;have lA:=ck.cell c8;have kx:=cs.ext ck;have ky:=gf.slk (by omega);have m4:=fun g (h:blk ao=some g)=>(gf.lt h).2;clear g3 c6 c8 cs G hk eC hS HQ
    go_upto_region 18 with(fail)
    have m8:no<=4096:=by rw[de.out];exact l6
    go_wp2
    go_loopw[13,74] (fun tv iv wr=>∃ (j:Nat) (bt:Option Addr) (nt ct:Nat),tv = .slice bt nt ct/\iv = .int .i64 j/\j<=no/\Ext wA wr/\TmO wr wA.heap.size bt nt ct (avT gs A (K.take j))) (fun _ iv _=>no-(intOf iv).toNat)
    case atStart=>exact⟨0,none,0,0,rfl,rfl,pE _,Ext.refl _,TmO.nil _ _⟩
    case round =>
     obtain⟨j,bt,nt,ct,rfl,rfl,hj,ar,bl⟩:=hrel;have av:=c5.trans ar;by_cases gB:j<no
     · have eb:=ky.ext ar;obtain⟨bk,ok,rfl,iK⟩:=eb.rd (by omega);have bN:j<K.length:=by rw[<-de.out];exact gB
       obtain⟨m,cP,ad⟩:=j8.out j bN;have bK:=dd.out j bN;have cd:=qh (jt (gs:=gs) (n:=A) (k:=j) (K:=K) bN);have b8:(K.map fun p=>p.1.map (Value.int .i64)).getD j []=(AY m).map (Value.int .i64):=by
        rw[<-ad];simp[bN]
       obtain⟨P,hP⟩:∃ P,K.getD j ([],0)=P:=⟨_,rfl⟩;rw[hP]at ad bK cd;obtain⟨E,QK⟩:=P;simp only at ad bK;subst ad;have ac:(AY m).length=6:=D0 (by omega);obtain⟨I,J,M,N,O,Q,ay⟩:=Bt ac;have W:(AY m).map (Value.int .i64)=[.int .i64 I,.int .i64 J,.int .i64 M,.int .i64 N,.int .i64 O,.int .i64 Q]:=by rw[ay];rfl
       rw[W]at b8;have aq:Hid ((Value.agg #[.int .i64 I,.int .i64 J,.int .i64 M,.int .i64 N,.int .i64 O,.int .i64 Q])=BI (AY m)):=qh (by unfold BI;rw[W]);have em:([.int .i64 I,.int .i64 J,.int .i64 M,.int .i64 N,.int .i64 O,.int .i64 Q]:List Value).toArray=#[.int .i64 I,.int .i64 J,.int .i64 M,.int .i64 N,.int .i64 O,.int .i64 Q]:=rfl;have a3:Agg prog 132 ([.int .i64 I,.int .i64 J,.int .i64 M,.int .i64 N,.int .i64 O,.int .i64 Q]:List Value).length:=ZF
       have bR:∀ u∈([.int .i64 I,.int .i64 J,.int .i64 M,.int .i64 N,.int .i64 O,.int .i64 Q]:List Value),u.oneCell'=true:=by rw[<-W];exact Cc _
       have gq:=Arr.new wr 132 G2;have kp:=qh ay;have m1:=qh W;have kv:=qh hP;clear W ay iK hP
       go_upto_region 21 with(first
        | (refine Bg rfl rfl ZF rfl eb gB ?_;rw[b8])
        | (refine Aa (vs:=[.int .i64 I,.int .i64 J,.int .i64 M,.int .i64 N,.int .i64 O,.int .i64 Q]) rfl rfl rfl rfl rfl a3 gq rfl bR ?_;intro w5 Z bG))
       obtain⟨Y,ed⟩:∃ y,wr.heap.size=y:=⟨_,rfl⟩;rw[ed]at Z |-;have aj:Ext wr w5:=((Ext.refl wr).alloc _).grownR bG (lrf _);have ca:=ar.trans aj;have f5:=bl.ext aj;have dA:=g8.ext ca;have D:AY m∈K.map (·.1):=by
        have h1:=q9 Prod.fst kv.out;have h2:K.getD j ([],0)∈K:=by rw[gqq,oO bN];exact qG _
        exact pU.2 ⟨_,h2,h1⟩
       obtain⟨SQ,cv⟩:∃ S:ByteArray,(⟨(txt QK).toArray⟩:ByteArray)=S:=⟨_,rfl⟩;have U:=fU D;rw[bK]at U;unfold bB at U;rw[cv]at U;have cT:Pl.RB 400 QK:=by rw[<-bK];exact k8.out _
       have ev:=qh (ja (q:=QK) (hT.ext (c5.trans ca)) (R.out.tb _ cT));rw[cv]at ev;have kd:=qh cv;have fv:=qh U;clear gq bG aj ar bl D cv U bK b8 av eb
       go_wp2_with(first
        | (refine Ev rfl rfl a3 rfl Z ?_)
        | (refine LH (k:=AY m) rfl rfl aY Q3 cw rfl aq.out dA ac ?_;rw[pC (by simp),fv.out]))
       refine ev.out.mono ?_;rintro e w6 ⟨⟨r,rfl,hr⟩,a0⟩;have bn:=ca.trans a0;have d7:=f5.ext a0;have g7:=dA.ext a0;have g0:=Z.ext a0;clear ev ca f5 dA Z a0;by_cases bm:QK=0
       · have i2:(r == 0)=true:=by simp[hr.2 bm]
         have dl:Hid (avT gs A (K.take (j+1))=avT gs A (K.take j)):=qh (by
          rw[cd.out];unfold orbT
          rw[pP bm,rD])
         clear hr bm;go_wp2;go_roundw
         case rel=>exact⟨j+1,bt,nt,ct,rfl,by go_num,by omega,bn,by rw[dl.out];exact d7⟩
         case measure=>simp[intOf];omega
       · have i2:(r == 0)=false:=by simpa using fun h=>bm (hr.1 h)
         have k5:=qh bm;clear hr bm
         go_upto_region 23 with(refine GJ rfl rfl ?_;intro w7 dB ak l8)
         obtain⟨RO,gj⟩:∃ g,w6.heap.size=g:=⟨_,rfl⟩;rw[gj]at dB l8 |-;have j7:Hid (∀ i,i<q->G1 (gs.getD i [])=true/\(gs.getD i []).length=A):=qh fun i hi=>et _ (by rw[gqq,oO (by rw[dj.out];exact hi)];exact qG _);clear i2;go_wp2
         go_loopw[86] (fun iv o=>∃ i:Nat,iv = .int .i64 i/\i<=q/\Ext w6 o/\Br o RO (Zo (Zw gs m i))) (fun iv _=>q-(intOf iv).toNat)
         case atStart=>exact⟨0,rfl,pE _,ak,dB⟩
         case round =>
          clear dB;obtain⟨i,rfl,hi,a8,ab⟩:=hrel;have cc:=(c5.trans bn).trans a8;have ai:=g0.ext a8;have ek:=hg.ext cc
          have bW:∀ x∈Zw gs m i,x.length=A:=fun x hx=>by
           obtain⟨j,_,rfl⟩:=(aV i x).1 hx;rw[H5];exact cP
          by_cases gz:i<q
          · obtain⟨b1,o1,a1,n1,c1,gt,g1,s1⟩:=ek.at gz;simp only[pz,qq,qO]at gt;obtain⟨rfl,rfl⟩:=gt;obtain⟨gp,gl⟩:=j7.out i gz;have l9:A=n1:=by have h1:=s1.len;omega
            subst l9;have eo:=aL s1 gp cP;rw[<-aq.out]at eo;have k2:=qh eo;have l5:(AY (mvd (gs.getD i []) m)).length=6:=D0 (by rw[H5];omega);clear eo ek s1
            go_wp2_with(first
             | (refine Ev rfl rfl a3 rfl ai ?_))
            refine k2.out.mono ?_;rintro e w8 ⟨rfl,bi⟩;have aa:=ab.ext bi
            go_upto_region 27 with(refine PG (k:=AY (mvd (gs.getD i []) m)) (v := .bool true) rfl (Or.inl rfl) ZE Q3 rfl rfl rfl aa l5 ?_;intro w9 dI cy)
            have l4:w6.heap.size<=RO:=vj gj
            have jv:Hid (Br w9 RO (Zo (Zw gs m (i+1)))):=qh (by
             rw[iQ bW (by rw[H5];exact cP)]at dI
             exact dI)
            have j6:=qh ((a8.trans bi).grown cy (fun g h=>by cases h;exact l4));clear dI cy aa ab bi a8 bW g1;go_wp2;go_roundw
            case rel=>exact⟨i+1,by go_num,by omega,j6.out,jv.out⟩
            case measure=>simp[intOf];omega
          · have iL:q=i:=by omega
            subst iL;obtain⟨L,hL⟩:∃ L,Zw gs m q=L:=⟨_,rfl⟩;have g6:L.Nodup:=by rw[<-hL];exact Z3 q
            have ks:L.length<=q:=by rw[<-hL];exact dp q
            have dx:0<L.length:=by
             rw[<-hL];exact rj ((aV q _).2 ⟨0,eu,rfl⟩)
            rw[hL]at ab bW;have js:=qh hL;clear hL ek
            go_upto_region 28 with(fail)
            have z0:=ai.c 0 rfl;have z1:=ai.c 1 rfl;have z2:=ai.c 2 rfl;have z3:=ai.c 3 rfl;have z4:=ai.c 4 rfl;have z5:=ai.c 5 rfl;have ga:=g7.ext a8
            have ff:∀ o,Ext wr o->(Instr.lookup 139 (.map (some RM)) (.agg #[.int .i64 I,.int .i64 J,.int .i64 M,.int .i64 N,.int .i64 O,.int .i64 Q]) false).run prog o = .ok (.string SQ) o:=fun o f=>by
             rw[aq.out,JK aY Q3 (cw o) (ga.ext f) ac false,pC (by simp),fv.out]
            have fg:∀ o,Ext wr o->(Builtin.len_ #[144] 3 #[.map (some RO)]).run prog o = .ok (.int .i64 (L.length:Int)) o:=fun o f=>by
             have h:=dQ (P:=prog) (ty:=3) ZE (ab.ext f).obj;have h2:(Cb 0 (Zo L)).toArray.size=L.length:=by simp[Eh,Zo]
             rw[h2]at h;exact h
            obtain⟨SL,e9⟩:∃ S:ByteArray,(⟨(txt ((L.length:Int):Rat)).toArray⟩:ByteArray)=S:=⟨_,rfl⟩;obtain⟨SD,e8⟩:∃ S:ByteArray,(⟨(txt (QK*(((L.length:Nat):Int):Rat)⁻¹)).toArray⟩:ByteArray)=S:=⟨_,rfl⟩;have ei:=fun(o:World) (f:Ext wr o)=>qh (fy (z:=(L.length:Int)) (hT.ext (cc.trans f)) (by omega) (by omega));have eg:=fun(o:World) (f:Ext wr o)=>qh (jQ (x:=QK) (m:=L.length) (b:=400) (hT.ext (cc.trans f)) dx (by omega) (by omega) cT (R.out.tb _ cT));rw[e9]at ei;rw[e9,kd.out,e8]at eg;have ka:=qh e8;clear e9 e8
            have b9:=fun(o:World) (f:Ext wr o)=>qh (And.intro (f.cell z0) (And.intro (f.cell z1) (And.intro (f.cell z2) (And.intro (f.cell z3) (And.intro (f.cell z4) (f.cell z5))))))
            refine B0
             [he (.map (some RM)),he (.agg #[.int .i64 I,.int .i64 J,.int .i64 M,.int .i64 N,.int .i64 O,.int .i64 Q]),he (.string SQ),he (.map (some RO)),hdI (L.length:Int),hp (fun v o=>v = .string SL),hp (fun v o=>v = .tuple #[.string SD,.bool true]),he (.tuple #[.string SD,.bool true]),he (.string SD),hdB true,he (.string SD),hdB true]
             ⟨fun _ _ _ _ h=>h,fun _ _ _ _ h=>h,trivial⟩ ⟨?o0,?o1,?o2,?o3,?o4,?o5,?o6,?o7,?o8,?o9,?o10,?o11,trivial⟩ ?fin
            case o0 | o3=>exact omv
            case o10 | o11=>exact oas
            case o2 =>
             refine Aj rfl fun ρ o f F h => ?_
             try have e0:_=_:=h.1
             try have e1:_=_:=h.2.1
             try have e2:_=_:=h.2.2.1
             have k0:=ff o f;go_simp
             try (first | (intros;omega) | exact pq _ (by omega))
            case o4 =>
             refine Aj rfl fun ρ o f F h => ?_
             try have e0:_=_:=h.1
             try have e1:_=_:=h.2.1
             try have e2:_=_:=h.2.2.1
             have k0:=fg o f;go_simp
             try (first | (intros;omega) | exact pq _ (by omega))
            case o1 =>
             refine Aj rfl fun ρ o f F h => ?_;have e0:_=_:=h.1;obtain⟨aA,b0,b2,b3,b4,b5⟩:=(b9 o f).out;go_simp
            case o5 =>
             refine Ag rfl fun ρ o f F gw h => ?_;have e1:_=_:=h.2.1;obtain⟨aA,b0,b2,b3,b4,b5⟩:=(b9 o f).out;refine⟨114,#[.int .i64 (L.length:Int)],by go_simp,((ei o f).out).mono ?_⟩;rintro e w' ⟨rfl,bx⟩;exact⟨_,rfl,bx,rfl⟩
            case o6 =>
             refine Ag rfl fun ρ o f F gw h => ?_;have e1:_=_:=h.2.1;obtain⟨v2,e2,rfl⟩:=h.2.2.1;obtain⟨aA,b0,b2,b3,b4,b5⟩:=(b9 o f).out;refine⟨113,#[.string SQ,.string SL],by go_simp,((eg o f).out).mono ?_⟩;rintro e w' ⟨rfl,bx⟩;exact⟨_,rfl,bx,rfl⟩
            case o7 =>
             refine Aj rfl fun ρ o f F h => ?_;obtain⟨v0,e0,rfl⟩:=h.1;obtain⟨aA,b0,b2,b3,b4,b5⟩:=(b9 o f).out;go_simp
            case o8 =>
             refine Aj rfl fun ρ o f F h => ?_;have e0:_=_:=h.1;obtain⟨aA,b0,b2,b3,b4,b5⟩:=(b9 o f).out;go_simp
            case o9 =>
             refine Aj rfl fun ρ o f F h => ?_;have e0:_=_:=h.1;obtain⟨aA,b0,b2,b3,b4,b5⟩:=(b9 o f).out;go_simp
            case fin =>
             intro o f;rintro _ rfl;rintro _ rfl;change wpList _ _ _ _ _ _;simp only[Ci];have lE:=((bn.trans a8).trans f).cell i7
             go_wp2_with fail
             have gb:=ab.ext f;refine(eF gb cQ bW (by omega) dx).mono ?_;rintro e w9 ⟨ps,⟨a9,n9,c9,d3,rfl,dv,ep,cp,e5⟩,es,da⟩;have er:ps.length=L.length:=es.length_eq;rw[<-er]at da;have gR:=ki g6 es da;clear da es ff fg ei eg gb ga cT lE z0 z1 z2 z3 z4 z5;have ds:=(bn.trans a8).trans f;have f2:=ds.trans dv;have f6:=((d7.ext a8).ext f).ext dv;obtain⟨B9,bv⟩:∃ b,o.heap.size=b:=⟨_,rfl⟩;rw[bv]at cp e5;have l2:wA.heap.size<=B9:=by rw[<-bv];exact ds.size
             obtain⟨OT,dT⟩:∃ OT,ps.map (fun e=>((txt (QK*(((L.length:Nat):Int):Rat)⁻¹),e):Tx))=OT:=⟨_,rfl⟩
             have fw:Hid (orbT gs A (AY m,QK)=OT):=qh (by
              have h1:=Zn (l:=m);rw[cP]at h1;unfold orbT;show(if QK=0 then []else(srtL (Zw gs ((AY m).take A) gs.length)).map fun e=>(txt (QK*((((Zw gs ((AY m).take A) gs.length).length:Nat):Int):Rat)⁻¹),e))=_
              rw[pC k5.out,h1,dj.out,js.out,<-gR,dT])
             have ch:Hid (OT.length=n9/\∀ i,i<n9->OT.getD i tm0=(txt (QK*(((L.length:Nat):Int):Rat)⁻¹),ps.getD i [])):=qh (by
              rw[<-dT]
              exact⟨by rw[pH,ep],fun i hi=>by simp[show i<ps.length by omega]⟩)
             have jj:Hid ((avT gs A (K.take j)).length+n9<=4096):=qh (by
              have h1:=fV gs A (j+1) K;rw[cd.out,fw.out,pZ,ch.out.1]at h1;have:=bs.out.1
              omega)
             have iN:0<n9:=by omega
             have lZ:n9<=1000:=by omega
             obtain⟨g9,rfl,lP,lQ⟩:=cp.place iN;have k3:=qh ep;clear gR er dT ep ab bW g6 ks dx dv f a8 g0 ai g7 d7 bn bv ds cc a3 em bR;go_wp2
             go_loopw[13,110] (fun tv iv o=>∃ (i:Nat) (a4:Option Addr) (n4 c4:Nat),tv = .slice a4 n4 c4/\iv = .int .i64 i/\i<=n9/\Ext wA o/\TmO o wA.heap.size a4 n4 c4 (avT gs A (K.take j) ++ OT.take i)/\Own o B9 24 (some ⟨g9,0,none⟩) n9 c9 d3/\QEl o B9 d3 ps) (fun _ iv _=>n9-(intOf iv).toNat)
             case atStart=>exact⟨0,bt,nt,ct,rfl,rfl,pE _,f2,by rw[rf,rD];exact f6,cp,e5⟩
             case round =>
              clear f6 cp e5 f2;obtain⟨i,a4,n4,c4,rfl,rfl,hi,a6,l0,bz,cr⟩:=hrel;obtain⟨f0,cl,T,c0⟩:=l0;have lW:(avT gs A (K.take j)).length+i=n4:=by
               rw[pZ,qg]at T;have:=ch.out.1;omega
              have m6:n4<=4096:=by have:=jj.out;omega
              by_cases el:i<n9
              · obtain⟨a1,n1,c1,gv,dJ⟩:=cr i (by rw[<-k3.out];exact el);have gc:=Own.cellAt bz (j:=i) el;rw[gv]at gc;have a5:=(Ext.refl wr).alloc (.cells #[.string SD,.slice a1 n1 c1] 26);have al:=cl.ext a5;have g4:=BT (k:=2) (Arr.new wr 26 (tmL SD a1 n1 c1)) rfl
                go_upto_region 33 with(refine Dn rfl rfl (by kernel_rfl) F5 rfl al rfl g4 (by intro r hr u hu;rw[pF.1 hr]at hu;exact CI _ _ _ _ u hu) (by unfold maxLen;omega) (by omega) (by have:=a6.size;simp;omega) ?_;intro ba bb b6 bo C d9)
                have fk:∀ g,blk a4=some g->wA.heap.size<=g:=fun g h=>(al.lt h).1;have ih:=qh ((a6.trans a5).grown C fk);have k4:=qh ((bz.ext a5).kept C (ZY (bz.ext a5) al (by decide)))
                have k6:Hid (QEl b6 B9 d3 ps):=qh fun i' gy=>by
                 obtain⟨a2,n2,c2,e1,e2⟩:=(cr.ext a5) i' gy;exact⟨a2,n2,c2,e1,Own.kept e2 C (ZY e2 al (by decide))⟩
                have ix:Hid (TmO b6 wA.heap.size ba (n4+1) bb (avT gs A (K.take j) ++ OT.take (i+1))):=qh (by
                 have lh:=al.len (by omega);have ku:=ch.out;have lm:OT.take (i+1)=OT.take i ++ [OT.getD i tm0]:=by
                  rw[pB (by omega)];simp[show i<OT.length by omega]
                 rw[lm,<-qi];refine⟨f0 ++ [tmL SD a1 n1 c1],bo,by rw[pZ,T];rfl,fun i' gy => ?_⟩;by_cases hx:i'=n4
                 · subst hx;rw[gqq,pW (by omega),lh,ro,gqq,pW (by omega),T,ro];show I5 _ _ (tmL SD a1 n1 c1) (OT.getD i tm0);rw[ku.2 i el];refine⟨SD,a1,n1,c1,rfl,by rw[<-ka.out,Cw],?_⟩;exact Own.mono (Own.kept (Own.ext dJ a5) C (ZY (Own.ext dJ a5) al (by decide))) l2
                 · rw[gqq,pO (by omega),<-gqq,gqq (l:=_ ++ [_]),pO (by omega),<-gqq];obtain⟨s9,a9,lu,kq,e1,e2,e3⟩:=(c0 i' (by omega)).ext a5
                   exact⟨s9,a9,lu,kq,e1,e2,e3.kept C (ZY e3 al (by decide))⟩)
                clear al g4 cl c0 bo C d9 bz cr dJ gc gv a5 a6 fk T;go_wp2;go_roundw
                case rel=>exact⟨i+1,ba,n4+1,bb,rfl,by go_num,by omega,ih.out,ix.out,k4.out,k6.out⟩
                case measure=>simp[intOf];omega
              · have lR:n9=i:=by omega
                have dl:Hid (TmO wr wA.heap.size a4 n4 c4 (avT gs A (K.take (j+1)))):=qh (by
                 rw[cd.out,fw.out];have h1:OT.take i=OT:=pu (by have:=ch.out.1;omega);rw[h1]at T c0
                 exact⟨f0,cl,T,c0⟩)
                have lY:¬ ((4096:Int)<(n4:Int)):=by omega
                clear cl c0 T bz cr;go_wp2;go_roundw
                case rel=>exact⟨j+1,a4,n4,c4,rfl,by go_num,by omega,a6,dl.out⟩
                case measure=>simp[intOf];omega
     · have lT:no=j:=by omega
       have gn:avT gs A (K.take j)=avT gs A K:=by rw[pu (by have:=de.out;omega)]
       rw[gn]at bl;have T:(avT gs A K).length=nt:=by obtain⟨_,_,h,_⟩:=bl;exact h
       have eD:=qh (Su (vars:=(A:Int)) (hT.ext av) bl.sl bs.out.2.2.1 (by have:=bs.out.1;omega) (fun _ _ _=>bs.out.2.2.2));have q0:=ar.cell i7;have q1:=ar.cell lA;have k1:=qh bs.out.2.1;have ik:Hid (resQ (A:Int) ((avT gs A K).map Es)=RQ):=qh (by rw[<-dc.out];exact k9.out);clear bl T gn
       go_wp2_with fail
       refine eD.out.mono ?_;rintro e w5 lg;have h3:Cd wr RQ e w5:=by
        rcases lg with⟨h1,_⟩|⟨_,_,h1,_⟩|⟨_,_,_,h1⟩
        · exact absurd ⟨by omega,by omega⟩ h1
        · exact absurd k1.out h1
        · rw[ik.out]at h1;exact h1
       obtain⟨a7,n7,c7,rfl,ak,kt⟩:=h3;have gg:=kx.ext (ar.trans ak);have cR:BS RQ.1 a7 n7 c7 = .agg #[.int .i64 RQ.1,.slice a7 n7 c7]:=rfl;rw[cR];have er:(Ah RQ.1 a7 n7 c7).toArray=#[.int .i64 RQ.1,.slice a7 n7 c7]:=rfl;clear eD
       go_wp2_with(refine Aa (vs:=Ah RQ.1 a7 n7 c7) rfl rfl rfl rfl rfl Ad gg rfl (Am _ _ _ _) ?_;intro w9 bv cy)
       refine py (Ao rfl Ad rfl rfl bv) rfl ?_;exact Kr av ak kt gg cy (by omega)
theorem Pn{p:List Pl.Tm}(a:1<=b)(f:∀ t∈p,Pl.RB b t.2)(he:∀ t∈p,t.1.length=6/\∀ x∈t.1,0<=x/\x<=1048576)(c:p.length*(b+1)+1<=1920):Cj p:=by
 have d:p.length<=p.length*(b+1):=Nat.le_mul_of_pos_right _ (by omega);refine⟨fun e h => ?_,by omega⟩;refine⟨RB.str (Pl.RB.coef a e f) c,?_⟩;obtain⟨t,g,rfl⟩:=Pl.coef_present h;obtain⟨h1,h2⟩:=he t g;exact⟨h1,fun x i=>by have:=h2 x i;omega⟩
theorem RN{p:List Pl.Tm}(a:1<=b)(c:∀ t∈p,Pl.RB b t.2)(he:∀ t∈p,t.1.length=6/\∀ x∈t.1,0<=x/\x<=1048576)(d:p.length*(b+1)+1<=1920):EH p :=
 OI a c (by omega) (Pn a c he d)
end Go.Proofs.YtlbmnokpiilfpaaGreatDoor
