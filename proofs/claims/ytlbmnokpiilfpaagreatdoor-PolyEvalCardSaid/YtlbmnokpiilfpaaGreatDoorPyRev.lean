/- Part PyRev. -/
import Derived.Test.YtlbmnokpiilfpaaGreatDoorPyRae
import Derived.Test.YtlbmnokpiilfpaaGreatDoorPyCoc

set_option linter.all false
set_option maxRecDepth 100000
set_option maxHeartbeats 100000000
namespace Go.Proofs.YtlbmnokpiilfpaaGreatDoor
open Tryz Go Go.RowKit
variable {va:Int} {c m n:Nat} {b:Option Addr} {w w':World}
noncomputable def evA (va:Int) (m:Nat) (ol:Option (List Pl.Tm)) (op:Option (List Rat)):List UInt8×Int :=
 match ol,op with
 | some l,some pt=>if(m:Int)=va then(txt (Pl.evq pt l),0)else([],4)
 | _,_=>([],1)
theorem Ru.a{ol:Option (List Pl.Tm)}{op:Option (List Rat)}{e:Ending}(h:Ru w va m ol op e w'):Cl w (evA va m ol op).1 (evA va m ol op).2 e w':=by
 rcases h with⟨l,d,rfl,rfl,b,h⟩|⟨c,b,h⟩|⟨c,h⟩
 · unfold evA;simp only[pq b];exact h
 · cases ol <;> cases op <;> simp at c;unfold evA;simp only[pf b];exact h
 · cases ol <;> cases op <;> simp at c <;> exact h
theorem Uc{ol:Option (List Pl.Tm)}{op:Option (List Rat)}(h:¬ (ol.isSome=true/\op.isSome=true)):evA va m ol op=([],1):=by
 cases ol <;> cases op <;> simp at h <;> rfl
theorem Ud(a:List Int)(v:Nat):(BA a).getD v 0=a.getD v 0:=by
 unfold BA;rcases gQ v a.length with h|h
 · rw[gqq,gF h,<-gqq]
 · rw[gqq,gN h,gqq,pu h];rcases gQ (v-a.length) (6-a.length)with h2|h2
   · rw[List.getElem?_replicate,pq h2];rfl
   · rw[List.getElem?_replicate,pf (by omega)]
theorem Ns(pt:List Rat)(a:List Int):∀ k,Pl.valE pt (BA a) k=Pl.valE pt a k
 | 0=>rfl
 | k+1=>by
  unfold Pl.valE;rw[Ns pt a k,Ud]
theorem PU(pt:List Rat):∀ l:List Pl.Tm,Pl.evq pt (A8 l)=Pl.evq pt l
 | []=>rfl
 | t :: r=>by
  show t.2*Pl.valE pt (BA t.1) pt.length+Pl.evq pt (A8 r)=t.2*Pl.valE pt t.1 pt.length+Pl.evq pt r;rw[Ns,PU pt r]
theorem Nt(l:List Pl.Tm):Dy (A8 l)=Dy l:=by
 unfold Dy A8;rw[List.foldl_map]
theorem ON{a:Option Addr}{d:Nat}{D:List Tx}{xs:List (List UInt8)}(ha:Be w a n c D)(hb:Db w b m d xs)(sa:∀ t∈D,t.1.length<=1000)(sb:∀ t∈xs,t.length<=570)(hn:n<=10000)(hm:m<=12)
 (a7:∀ l f,rdR va D=some l->rdAll xs=some f->(m:Int)=va->AtB f l) :
 Calls prog 58 #[.agg #[.int .i64 va,.slice a n c],.slice b m d] w (Cl w (evA va m (rdP va D) (rdAll xs)).1 (evA va m (rdP va D) (rdAll xs)).2):=by
 rw[Ju va D];have S:=qh ha.len;have ab:xs.length=m:=by obtain⟨_,_,h,_⟩:=hb;exact h
 obtain⟨oa,i⟩:∃ o,rdR va D=o:=⟨_,rfl⟩;obtain⟨op,j⟩:∃ o,rdAll xs=o:=⟨_,rfl⟩;have T:=qh i;have V:Hid (∀ f,op=some f->f.length=m):=qh fun f h=>by rw[Fh (j.trans h),ab]
 rw[i,j];obtain⟨r,hr⟩:∃ r,evA va m (oa.map A8) op=r:=⟨_,rfl⟩;have HR:=qh hr;rw[hr];clear hr ab;have U:Hid (∀ l f,oa=some l->op=some f->(m:Int)=va->AtB f l):=qh fun l f h1 h2=>a7 l f (i.trans h1) (j.trans h2);clear a7;have ac:∀ t∈D,t.1.length<=10000:=fun t ht=>oS (sa t ht) (by omega);clear sa
 go_enter func58,ntmps58
 go_upto_region 1 with(fail)
 refine AM ?_;intro w0 J I aq;have p0:=I.c 0 rfl;have p1:=I.c 1 rfl;have R:=Ext.refl w0;clear I aq;have q:=qh (FN (vars:=va) ha (J.trans R) ac);rw[i]at q;clear i
 go_wp2_with fail
 refine q.out.mono ?_;rintro e B ⟨a1,n1,c1,rfl,a0,a4⟩;obtain⟨x1,Q⟩:∃ y,(if oa.isSome=true then va else 0)=y:=⟨_,rfl⟩;obtain⟨k1,M⟩:∃ y,oa.isSome=y:=⟨_,rfl⟩;rw[Q,M];have Z:=qh Q;have F:=qh M;have hY:=Arr.new B 44 (pL 0 none 0 0);have aj:(pL x1 a1 n1 c1).toArray=#[.int .i64 x1,.slice a1 n1 c1]:=rfl;clear Q M q
 go_upto_region 2 with(refine Aa (vs:=pL x1 a1 n1 c1) rfl rfl rfl rfl rfl Bj hY rfl (Bv _ _ _ _) ?_;intro ar hB hg)
 have hF:Ext B ar:=((Ext.refl B).alloc _).grownR hg (lrf _);have hG:=a0.trans hF;have C:=R.trans hG;have X:=qh (a4.ext hF);obtain⟨Y1,a5⟩:∃ x,B.heap.size=x:=⟨_,rfl⟩;rw[a5]at hB |-;have ad:=hB.c 0 rfl;have ae:=hB.c 1 rfl;clear hY aj hg hB a5 a4 hF hG a0;have O:=qh (ST (hb.ext (J.trans C)) sb (by omega));rw[j]at O;clear j p0 p1
 go_wp2_with fail
 refine O.out.mono ?_;rintro e w2 ⟨a2,z,c2,rfl,g,a3⟩;obtain⟨k2,N⟩:∃ y,op.isSome=y:=⟨_,rfl⟩;rw[N];have G:=qh N;have E:=qh ((J.trans C).trans g);have W:=qh a3;have Y:=qh (X.out.ext g);replace ad:=g.cell ad;replace ae:=g.cell ae;clear N a3 g O hb sb ac ha X;have L:(k1=false\/k1=true/\k2=false)\/k1=true/\k2=true:=by
  cases k1 <;> cases k2 <;> simp
 rcases L with L|⟨rfl,rfl⟩
 · rcases L with rfl|⟨rfl,rfl⟩
   all_goals
    have H:Hid (evA va m (oa.map A8) op=([],1)):=qh (Uc (by
     intro h;have h1:=h.1;rw[Option.isSome_map]at h1
     first | exact Bool.noConfusion (h1.symm.trans F.out) | exact Bool.noConfusion (h.2.symm.trans G.out)))
    go_wp2
    go_ret2
    have p:=HR.out.symm.trans H.out;subst p;exact⟨rfl,E.out⟩
 obtain⟨s,ak⟩:=je.1 F.out;obtain⟨f,an⟩:=je.1 G.out;subst ak an;have ap:va=x1:=Z.out;subst ap;have k:=W.out;simp only[pg]at k;have am:z=m:=by have h1:=k.len;have h2:=V.out f rfl;omega
 subst am;by_cases P:(z:Int)=va
 case neg =>
  have ao:((z:Int) != va)=true:=by simpa using P
  have H:Hid (evA va z ((some s).map A8) (some f)=([],4)):=qh (by show(if(z:Int)=va then(txt (Pl.evq f (A8 s)),(0:Int))else(([]:List UInt8),(4:Int)))=_;exact pf P);clear P k;go_wp2
  go_ret2
  have p:=HR.out.symm.trans H.out;subst p;exact⟨rfl,E.out⟩
 have ao:((z:Int) != va)=false:=by simpa using P
 have A:=Y.out;simp only[pg]at A;have al:s.length<=10000:=by
  rw[(BP T.out).1,iM,S.out];omega
 have af:=A.sl.len;have K:=U.out s f rfl rfl P;have a6:=qh (SV A.sl k (by omega) (by omega) K);have a9:Pl.RB 1000000 (Pl.evq f s):=by
  have h1:=K.ats s.length
  rwa[kw]at h1
 have aa:=qh (fun(wx:World) (v:Value) (h:QV wx v (Pl.evq f s))=>Gh h a9)
 have ag:Hid (evA va z ((some s).map A8) (some f)=(txt (Pl.evq f s),0)):=qh (by
  show(if(z:Int)=va then(txt (Pl.evq f (A8 s)),(0:Int))else(([]:List UInt8),(4:Int)))=_
  rw[pq P,PU])
 have au:(pL (z:Int) a1 n1 c1).toArray=#[.int .i64 (z:Int),.slice a1 n1 c1]:=rfl;subst P;clear k A al af K a9 W Y U S T V Z F G
 go_wp2_with fail
 refine a6.out.mono ?_;intro e w3 h3;obtain⟨v3,rfl,ah,a8⟩:=h3.r;clear h3 a6
 go_wp2_with fail
 refine(aa.out _ _ a8).mono ?_;rintro e w4 ⟨rfl,ai⟩;clear aa a8;go_wp2
 go_ret2
 have p:=HR.out.symm.trans ag.out;subst p;exact⟨rfl,(E.out.trans ah).trans ai⟩
theorem Kr{a:Option Addr}{i:List Tx}(ha:Be w a n c i)(sa:∀ t∈i,t.1.length<=1000)(hn:n<=10000)
 (T:∀ l,rdR va i=some l->(∀ k,Pl.RB 1000000 (Dy (l.take k)))/\∀ t∈l,Pl.RB 1000000 t.2) :
 Calls prog 60 #[.agg #[.int .i64 va,.slice a n c]] w (Cl w (contA (rdP va i)).1 (contA (rdP va i)).2):=by
 rw[Ju va i];have H:=qh ha.len;obtain⟨C,b⟩:∃ o,rdR va i=o:=⟨_,rfl⟩;have p:=qh b;rw[b];obtain⟨r,hr⟩:∃ r,contA (C.map A8)=r:=⟨_,rfl⟩;have HR:=qh hr;rw[hr];clear hr;have I:Hid (∀ l,C=some l->(∀ k,Pl.RB 1000000 (Dy (l.take k)))/\∀ t∈l,Pl.RB 1000000 t.2):=qh fun l h1=>T l (b.trans h1);clear T;have Y:∀ t∈i,t.1.length<=10000:=fun t ht=>oS (sa t ht) (by omega);clear sa
 go_enter func60,ntmps60
 go_upto_region 1 with(fail)
 refine AM ?_;intro w0 M q a9;have p0:=q.c 0 rfl;have p1:=q.c 1 rfl;have E:=Ext.refl w0;clear q a9;have d:=qh (FN (vars:=va) ha (M.trans E) Y);rw[b]at d;clear b
 go_wp2_with fail
 refine d.out.mono ?_;rintro e j ⟨K,X,L,rfl,N,O⟩;obtain⟨D,B⟩:∃ y,(if C.isSome=true then va else 0)=y:=⟨_,rfl⟩;obtain⟨k1,z⟩:∃ y,C.isSome=y:=⟨_,rfl⟩;rw[B,z];have a2:=qh B;have m:=qh z;have hY:=Arr.new j 44 (pL 0 none 0 0);have a6:(pL D K X L).toArray=#[.int .i64 D,.slice K X L]:=rfl;clear B z d
 go_upto_region 2 with(refine Aa (vs:=pL D K X L) rfl rfl rfl rfl rfl Bj hY rfl (Bv _ _ _ _) ?_;intro aa Z hg)
 have hF:Ext j aa:=((Ext.refl j).alloc _).grownR hg (lrf _);have hG:=N.trans hF;have F:=E.trans hG;have J:=qh (O.ext hF);obtain⟨Y1,P⟩:∃ x,j.heap.size=x:=⟨_,rfl⟩;rw[P]at Z |-;have ac:=Z.c 0 rfl;have ad:=Z.c 1 rfl;clear hY a6 hg Z P O hF hG N;have G:=qh (M.trans F);clear p0 p1 ha Y;cases k1 with
 | false =>
  have a0:Hid (contA (C.map A8)=([],1)):=qh (by
   have h1:=m.out;cases C with
   | none=>rfl
   | some l=>cases h1)
  go_wp2
  go_ret2
  have A:=HR.out.symm.trans a0.out;subst A;exact⟨rfl,G.out⟩
 | true =>
  obtain⟨f,a7⟩:=je.1 m.out;subst a7;have g:=J.out;simp only[pg]at g;have a8:f.length<=10000:=by
   rw[(BP p.out).1,iM,H.out];omega
  have S:=g.sl.len;obtain⟨s,Q⟩:=I.out f rfl;have R:=qh (GJ (va:=D) g.sl (by omega) s Q);have V:Pl.RB 1000000 (Dy f):=by
   have h1:=s f.length
   rwa[kw]at h1
  have W:=qh (fun(wx:World) (v:Value) (h:QV wx v (Dy f))=>Gh h V)
  have a3:Hid (contA ((some f).map A8)=(txt (Dy f),0)):=qh (by
   show(txt (Pl.cont (A8 f)),(0:Int))=_;have hz:∀ t∈A8 f,t.2≠0:=(BW (show rdP va i=some (A8 f) by rw[Ju,p.out];rfl)).nz
   rw[<-Ld hz,Nt])
  have ab:(pL D K X L).toArray=#[.int .i64 D,.slice K X L]:=rfl;clear g a8 S s Q V I H p a2 m J
  go_wp2_with fail
  refine R.out.mono ?_;intro e w3 h3;obtain⟨v3,rfl,a4,U⟩:=h3.r;clear h3 R
  go_wp2_with fail
  refine(W.out _ _ U).mono ?_;rintro e w4 ⟨rfl,a5⟩;clear W U;go_wp2
  go_ret2
  have A:=HR.out.symm.trans a3.out;subst A;exact⟨rfl,(G.out.trans a4).trans a5⟩
end Go.Proofs.YtlbmnokpiilfpaaGreatDoor
