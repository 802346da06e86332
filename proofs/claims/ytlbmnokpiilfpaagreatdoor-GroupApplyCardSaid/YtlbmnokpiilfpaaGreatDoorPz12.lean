/- Part Pz12. -/
import Derived.Test.YtlbmnokpiilfpaaGreatDoorPz11
import Derived.Shelf.GgSortFunc.Insertion
import Derived.Shelf.SlLaysF
import Derived.Test.YtlbmnokpiilfpaaGreatDoorProg
import Derived.Shelf.SlSortCmp.Whole1
set_option linter.all false
set_option maxRecDepth 100000
set_option maxHeartbeats 100000000
namespace Go.Proofs.YtlbmnokpiilfpaaGreatDoor
open Tryz Go Go.RowKit
variable {L gs hs l ls ps qs:List (List Int)} {b m p x xs y:List Int} {cells cs:List Value} {base c ck g hi i j k lo n r vn:Nat} {a:Option Addr} {P:Program} {q:Rat} {e mt t ty:TypeId} {w:World}
def dL(xs:List Int)(ts:List Tx):List Tx:=ts.map fun t=>(t.1,mvd xs t.2)
theorem dM(xs:List Int)(ts:List Tx):(dL xs ts).length=ts.length:=pH ..
theorem kc{ts:List Tx}(h:i<ts.length):(dL xs ts).getD i tm0=((ts.getD i tm0).1,mvd xs (ts.getD i tm0).2):=by
 simp[dL,h]
theorem iJ{ts:List Tx}{l:List Pl.Tm}(d:rdP (vn:Int) ts=some l)(hp:G1 xs=true)(s:xs.length=vn):(∀ t∈dL xs ts,G9 vn t)/\(dL xs ts).map Es=ZC vn xs l:=by
 have r:=Pv.of d;have v:vn<=6:=by have:=r.v0;omega
 have b:=BH d
 have c:∀ i,i<ts.length->G9 vn ((ts.getD i tm0).1,mvd xs (ts.getD i tm0).2)/\Es ((ts.getD i tm0).1,mvd xs (ts.getD i tm0).2)=(mp vn xs (l.getD i ([],0)).1,(l.getD i ([],0)).2):=fun i a=>by
  obtain⟨g,_,p,q,j⟩:=Bm (Kn d a);have k:l.getD i ([],0)∈l:=by
   rw[gqq,oO (by omega)];exact qG _
  have f:=am d _ k;rw[j,M3]at f;generalize ts.getD i tm0=t at *
  have h3:t.2.length=vn:=by omega
  have e:=dY hp (m:=t.2) (by omega);refine⟨⟨by rw[g];rfl,by show((mvd xs t.2).length:Int)=_;rw[H5];exact p,CN.2 ⟨by rw[H5];omega,fun x o=>(q x (fq hp (by omega) o)).1,by rw[go e];exact f⟩⟩,?_⟩;unfold Es mp;rw[g,j];have:=Zn (l:=t.2);rw[h3]at this;rw[this];rfl
 refine⟨fun t n => ?_,?_⟩
 · obtain⟨u,hu,rfl⟩:=pU.1 n;obtain⟨i,a,rfl⟩:=ti hu;have:=(c i a).1;simpa[a]using this
 · apply rJ (by rw[pH,dM,fd,b]);intro i h1 h2;have a:i<ts.length:=by rw[pH,dM]at h1;exact h1
   have:=(c i a).2;simp only[gqq,oO a,oO (show i<l.length by omega),pY]at this;simp only[List.getElem_map,dL,ZC];exact this
theorem bH(i:SlI w a n c xs)(o:n<=1000000)(b:a=none->c=0) :
 Calls prog 87 #[.slice a n c] w fun e j=>∃ d f,e = .returned (.slice d n f)/\Ext w j/\Za j w.heap.size d n f xs:=by
 refine(aH i o b).mono ?_;rintro e q ⟨k,p,l,rfl,m,g⟩;have h:p=n:=by have h1:=g.sl.len;have h2:=i.len;omega
 subst h;exact⟨k,l,rfl,m,g⟩
theorem fR{cx:Nat}{x:Option Addr}{ts:List Tx}{l:List Pl.Tm}(hT:AM w)(hx:SlI w x vn cx xs)(ak:G1 xs=true)(ha:AH w a n c ts)(hr:rdP (vn:Int) ts=some l)(sa:∀ t∈ts,t.1.length<=570)(bi:EH (ZC vn xs l)) :
 Calls prog 47 #[.slice x vn cx,.agg #[.int .i64 (vn:Int),.slice a n c]] w (Cd w (actA vn xs (some l))):=by
 have bd:=hx.len;obtain⟨bf,bg⟩:=iJ hr ak bd;have aj:vn<=6:=by have:=(Pv.of hr).v0;omega
 have cr:n<=4096:=by have h1:=(AW hr).2.1;have h2:=ha.len;omega
 have bl:=fun(b:World) (f:Ext w b)=>qh (by have h:=G4 (hx.ext f);rw[ak]at h;exact h);have Q:=fun(b:World) (f:Ext w b)=>qh (by have h:=D7 (vars:=(vn:Int)) (hT.ext f) (ha.ext f) sa;rw[hr]at h;exact h);have bW:=qh sa
 have bR:Hid (∀ i,i<n->(ts.getD i tm0).2.length=vn):=qh fun i hi=>by
  have:=(Bm (Kn hr (i:=i) (by have:=ha.len;omega))).2.2.1;omega
 have a2:=qh (And.intro bf bg);have bK:=qh bi;have b1:Hid (actA vn xs (some l)=resQ vn (ZC vn xs l)):=qh rfl;rw[b1.out];obtain⟨RQ,ah⟩:∃ r,resQ (vn:Int) (ZC vn xs l)=r:=⟨_,rfl⟩;rw[ah];have bN:=qh ah;have ct:(vn != vn)=false:=by simp
 clear bf bg sa bi hr b1 ah bd
 go_enter func47,ntmps47
 go_upto_region 1 with(fail)
 refine Cf ?_;intro w0 a8 a5 b3 cn;have bo:=a5.c 0 rfl;have bp:=a5.c 1 rfl;have hR:Arr w0 (w.heap.size+1) 28 (Ah 0 none 0 0):=b3;clear a5 b3
 go_wp2_with fail
 refine(bl _ a8).out.mono ?_;rintro e w1 ⟨rfl,m⟩;have C:=a8.trans m;have av:=m.cell bo;have ay:=m.cell bp
 go_wp2_with fail
 refine(Q _ C).out.mono ?_;rintro e w2 ⟨rfl,o⟩;have U:=C.trans o;have c8:=hR.ext (m.trans o);have al:=o.cell av;have ao:=o.cell ay;have co:w.heap.size+2<=w2.heap.size:=by have:=(m.trans o).size;omega
 clear bo bp av ay hR bl Q a8 m o cn C;simp only[vC]
 go_upto_region 6 with(refine E0 rfl rfl (by kernel_rfl) F5 rfl rfl (by omega) (by unfold maxLen;omega) ?_;intro w4 ac M)
 obtain⟨G,hG⟩:∃ G,w2.heap.size=G:=⟨_,rfl⟩;rw[hG]at ac co |-;have bv:=M.cell al;have bx:=M.cell ao;have W:AR w4 w.heap.size 26 2 (some ⟨G,0,none⟩) n n (List.replicate n (tmL ⟨#[]⟩ none 0 0)):=ac.mono (by omega);obtain⟨bz,hS,ap,hq⟩:=ha;have HQ:=qh hq;have b0:=qh ap;clear ac hq ap;go_wp2
 go_loopw[32] (fun iv wr=>∃ (k:Nat) (rs:List (List Value)),iv = .int .i64 k/\k<=n/\Ext w2 wr/\AR wr w.heap.size 26 2 (some ⟨G,0,none⟩) n n rs/\Hid (∀ i,i<k->I5 wr w.heap.size (rs.getD i []) ((dL xs ts).getD i tm0))) (fun iv _=>n-(intOf iv).toNat)
 case atStart=>exact⟨0,_,rfl,pE _,M,W,qh (fun i hi=>absurd hi (by omega))⟩
 case round =>
  clear W M bv bx;obtain⟨k,rs,rfl,hk,hE,hO,HC⟩:=hrel;have N:=U.trans hE;by_cases p:k<n
  · have ai:=hS.ext N;obtain⟨bq,cv,rfl,cb⟩:=ai.rd (by omega);obtain⟨s,ax,nx,a3,aq,S,T⟩:=HQ.out k p;have hY:=Arr.new wr 26 (tmL ⟨#[]⟩ none 0 0);have H:bz.getD k []=tmL s ax nx a3:=aq
    go_upto_region 9 with(first
     | (refine Bg rfl rfl A4 rfl ai p ?_;rw[H])
     | (refine Aa (vs:=tmL s ax nx a3) rfl rfl rfl rfl rfl A4 hY rfl (CI _ _ _ _) ?_;intro w5 L b9))
    have aa:Ext wr w5:=((Ext.refl wr).alloc _).grownR b9 (lrf _);obtain⟨X,hX⟩:∃ x,wr.heap.size=x:=⟨_,rfl⟩;rw[hX]at L |-;have HM:Hid ((dL xs ts).getD k tm0=((ts.getD k tm0).1,mvd xs (ts.getD k tm0).2)):=qh (kc (by rw[b0.out];exact p));have K:=qh (bR.out k p);obtain⟨t,c2⟩:∃ t,Hid (ts.getD k tm0=t):=⟨_,qh rfl⟩;rw[c2.out]at HM K S T;obtain⟨t1,q⟩:=t;simp only at HM K S T;have y0:=L.c 0 rfl;have y1:=L.c 1 rfl;have V:=N.trans aa;have bm:=hx.ext V;have I:SlI w5 ax nx a3 q:=T.ext V
    have ch:vn=nx:=by have h1:=I.len;have h2:=K.out;omega
    subst ch;have bj:=K.out;have bb:BI (AY (mvd xs q)) = .agg ((AY (mvd xs q)).map (Value.int .i64)).toArray:=rfl;have O:(AY (mvd xs q)).length=6:=D0 (by rw[H5];omega);clear hY b9 L aq H cb ai T
    go_wp2_with fail
    refine(ZB I aj).mono ?_;rintro e w6 ⟨rfl,ab⟩
    go_wp2_with fail
    refine(aL (bm.ext ab) ak bj).mono ?_;rintro e w7 ⟨rfl,D⟩;rw[bb];have hA7:=Arr.new w7 132 G2;have b2:Agg prog 132 ((AY (mvd xs q)).map (Value.int .i64)).length:=by rw[pH,O];exact ZF
    have bn:G2.length=((AY (mvd xs q)).map (Value.int .i64)).length:=by rw[pH,O];rfl
    have a0:=qh O;clear O
    go_upto_region 10 with(refine Aa (vs:=(AY (mvd xs q)).map (Value.int .i64)) rfl rfl rfl rfl rfl b2 hA7 bn (Cc _) ?_;intro w8 a6 ba)
    obtain⟨Y,ca⟩:∃ y,w7.heap.size=y:=⟨_,rfl⟩;rw[ca]at a6 |-;have b4:Ext w7 w8:=((Ext.refl w7).alloc _).grownR ba (lrf _);have h58:=(ab.trans D).trans b4;have R:=aa.trans h58;have j:=hE.trans R;have h28:=U.trans j;have b6:=hO.ext R;have bG:Hid (∀ i,i<k->I5 w8 w.heap.size (rs.getD i []) ((dL xs ts).getD i tm0)):=qh fun i hi=>(HC.out i hi).ext R;have bL:=qh (b6.len (by omega));have c0:=qh S;replace y0:=h58.cell y0;replace y1:=h58.cell y1;have q0:=j.cell al;have q1:=j.cell ao;have ar:SlI w8 (some ⟨Y,0,none⟩) vn 6 (mvd xs q):=by
     have h1:=a6.sl (k:=vn) (by rw[pH,a0.out];exact aj) (by rw[pH,a0.out];unfold maxLen;decide);rw[pH,a0.out,<-pg]at h1;have h2:=Zn (l:=mvd xs q);rw[H5,bj]at h2;rw[h2]at h1;exact h1
    have bt:=fun(b:World) (f:Ext w8 b)=>qh (bH (ar.ext f) (by omega) (by simp));have cl:=fun b:World=>ZQ (P:=prog) (w:=b) (g:=Y) Q3.arr Pt aj;clear hA7 b2 bn a6 ba b4 D ab aa h58 R bm I ar S HC hO bb;go_wp2;have aA:=fun(b:World) (f:Ext w8 b)=>qh (And.intro (f.cell y0) (And.intro (f.cell y1) (And.intro (f.cell q0) (f.cell q1))))
    refine B0
     [hdS (some ⟨G,0,none⟩) n n,hdI k,hdP X 0,he (.string s),hdP w.heap.size 0,hdI vn,hdS (some ⟨Y,0,none⟩) vn 6,hp (fun v b=>∃ z A,v = .slice z vn A/\Own b w8.heap.size 3 z vn A ((mvd xs q).map (Value.int .i64))),hp (fun v b=>∃ z A,v = .agg #[.string s,.slice z vn A]/\Own b w8.heap.size 3 z vn A ((mvd xs q).map (Value.int .i64)))]
     ⟨fun v w w' e h=>by obtain⟨z,A,h1,h2⟩:=h;exact⟨z,A,h1,h2.ext e⟩,fun v w w' e h=>by obtain⟨z,A,h1,h2⟩:=h;exact⟨z,A,h1,h2.ext e⟩,trivial⟩ ⟨?o0,?o1,?o2,?o3,?o4,?o5,?o6,?o7,?o8,trivial⟩ ?fin
    case o0 | o1=>exact omv
    case o2 | o4=>exact ofa (d:=0)
    case o3 | o5=>exact ol
    case o6 =>
     refine Aj rfl fun ρ b f Z h => ?_
     try have e0:_=_:=h.1
     try have e1:_=_:=h.2.1
     try have e2:_=_:=h.2.2.1
     have k4:=cl b;go_simp
     try (first | (intros;omega) | exact pq _ (by omega))
    case o7 =>
     refine Ag rfl fun ρ b f Z cc h => ?_;have e1:_=_:=h.2.1;obtain⟨k0,k1,k2,k3⟩:=(aA b f).out;refine⟨87,#[.slice (some ⟨Y,0,none⟩) vn 6],by go_simp,((bt b f).out).mono ?_⟩;rintro e w' ⟨z,A,rfl,c5,c6⟩;exact⟨_,rfl,c5,z,A,rfl,c6.mono f.size⟩
    case o8 =>
     refine AE rfl ?_;intro ρ b hp f h;have Z:=hp.const;have cc:=hp.func;have e0:_=_:=h.1;obtain⟨v1,e1,a1,c1,rfl,i1⟩:=h.2.1;obtain⟨k0,k1,k2,k3⟩:=(aA b f).out;exact⟨_,b,by go_simp,Ext.refl _,_,_,rfl,i1⟩
    case fin =>
     intro b f;rintro _ ⟨_,_,rfl,_⟩;rintro _ ⟨J,B,rfl,ad⟩;change wpList _ _ _ _ _ _;simp only[Ci];have ag:=b6.ext f;have cp:(k:Int)<n:=by omega
     have cq:(tmL s J vn B).toArray=#[.string s,.slice J vn B]:=rfl
     go_wp2_with(refine Id (vs:=tmL s J vn B) rfl rfl (by omega) A4 rfl rfl rfl ag p rfl (CI _ _ _ _) ?_;intro cy bs E)
     go_roundw
     case rel =>
      have b5:Own b w.heap.size 3 J vn B ((mvd xs q).map (Value.int .i64)):=ad.mono (by have:=h28.size;omega);refine⟨k+1,_,by go_num,by omega,(j.trans f).grownR E (vj hG),bs,qh fun i hi => ?_⟩;by_cases ce:i=k
      · subst ce;rw[HM.out,gqq,tK (by rw[bL.out];exact p)];exact⟨_,_,vn,B,rfl,c0.out,b5.kept E (Or.inr (II b5 ag (by decide)))⟩
      · rw[gqq,List.getElem?_set_ne (by omega),<-gqq];obtain⟨s9,a9,n9,c9,e1,e2,e3⟩:=(bG.out i (by omega)).ext f;exact⟨s9,a9,n9,c9,e1,e2,e3.kept E (Or.inr (II e3 ag (by decide)))⟩
     case measure=>simp[intOf];omega
  · have cg:n=k:=by omega
    subst cg;have b8:TmO wr w.heap.size (some ⟨G,0,none⟩) n n (dL xs ts):=⟨rs,hO,by rw[dM];exact b0.out,HC.out⟩;have bk:∀ t∈dL xs ts,t.1.length<=570:=by
     rintro t ht;obtain⟨u,hu,rfl⟩:=pU.1 ht;exact bW.out u hu
    have F:=qh (Su (vars:=(vn:Int)) (hT.ext N) b8.sl bk (by omega) (fun _ _ _=>by rw[a2.out.2];exact bK.out));have q0:=hE.cell al;have q1:=hE.cell ao;clear b8 bk hO HC
    go_wp2_with fail
    refine F.out.mono ?_;rintro e w5 ck;have h3:Cd wr RQ e w5:=by
     rcases ck with⟨h1,_⟩|⟨_,_,h1,_⟩|⟨_,_,_,h1⟩
     · exact absurd ⟨by omega,by omega⟩ h1
     · exact absurd a2.out.1 h1
     · rw[a2.out.2,bN.out]at h1;exact h1
    obtain⟨J,n7,B,rfl,D,ad⟩:=h3;have b7:=c8.ext (hE.trans D);have Q:BS RQ.1 J n7 B = .agg #[.int .i64 RQ.1,.slice J n7 B]:=rfl;rw[Q];have cs:(Ah RQ.1 J n7 B).toArray=#[.int .i64 RQ.1,.slice J n7 B]:=rfl;clear F
    go_wp2_with(refine Aa (vs:=Ah RQ.1 J n7 B) rfl rfl rfl rfl rfl Ad b7 rfl (Am _ _ _ _) ?_;intro w9 c3 cd)
    refine py (Ao rfl Ad rfl rfl c3) rfl ?_;exact Kr N D ad b7 cd (by omega)
def li(w:World)(ps:List (List Int))(er:Int)(e:Ending)(w':World):Prop :=
 ∃ a n c cells,e = .returned (.tuple #[.slice a n c,.int .i64 er])/\Ext w w'/\n=ps.length/\Own w' w.heap.size 24 a n c cells/\QEl w' w.heap.size cells ps
theorem gP(g:n=ps.length)(e:Own w base 24 a n c cells)(f:QEl w base cells ps):SlL w a n c ps:=by
 refine⟨g.symm,cells,e.sl,fun i k => ?_⟩;obtain⟨b,j,d,h1,h2⟩:=f i (by omega);exact⟨b,j,d,h1,h2.sl⟩
theorem dN(hp:ps.Nodup)(k:qs.Nodup)(h:∀ x,x∈ps<->x∈qs)(op:ZK ps 0 ps.length)(oq:ZK qs 0 qs.length):ps=qs:=by
 have c:∀ {l:List (List Int)},ZK l 0 l.length->l.Pairwise (fun a b=>H3 a b<=0):=by
  intro l g;rw[rZ];intro i j f e d;have:=g i j (pE _) d e;simpa[f,e]using this
 refine List.Perm.eq_of_pairwise ?_ (c op) (c oq) (cN hp k h);intro a b _ _ h1 h2;have:=SZ a b;exact bT (by omega)
def ZW(l:List (List Int)):Prop:=∀ i j,i<j->j<l.length->H3 (l.getD i []) (l.getD j [])<0
theorem ZP{a c:List Int}(h1:H3 a b<0)(h2:H3 b c<0):H3 a c<0:=by
 have h:=ZG (vk h1) (vk h2);rcases Int.lt_or_eq_of_le h with h|h
 · exact h
 · have e:=bT h;subst e;have:=SZ a b;omega
theorem ZW.nodup(h:ZW l):l.Nodup:=by
 unfold List.Nodup;rw[rZ];intro i j c b a e;have:=h i j a b;simp only[gqq,oO c,oO b,pY,e,ZN]at this;omega
def plI(l:List (List Int))(p:List Int)(lo hi:Nat):Prop :=
 (∀ i,i<lo->H3 (l.getD i []) p<0)/\∀ i,hi<=i->i<l.length->¬ H3 (l.getD i []) p<0
theorem plI.up{m:Nat}(c:ZW l)(h:plI l p lo hi)(b:m<l.length)(a:H3 (l.getD m []) p<0):plI l p (m+1) hi:=by
 refine⟨fun i hi => ?_,h.2⟩;rcases qx i m with h1|h1
 · exact ZP (c i m h1 b) a
 · have:i=m:=by omega
   subst this;exact a
theorem plI.down{m:Nat}(c:ZW l)(h:plI l p lo hi)(b:¬ H3 (l.getD m []) p<0):plI l p lo m:=by
 refine⟨h.1,fun i hi a => ?_⟩;rcases Nat.eq_or_lt_of_le hi with h1|h1
 · subst h1;exact b
 · intro h2;exact b (ZP (c m i h1 a) h2)
theorem plI.found(d:ZW l)(h:plI l p k k):p∈l<->k<l.length/\l.getD k []=p:=by
 constructor
 · intro hp;obtain⟨j,b,e⟩:=r9.1 hp;have a:l.getD j []=p:=by rw[gqq,oO b];exact e
   have c:k<=j:=by
    rcases qx j k with h1|h1
    · have:=h.1 j h1;rw[a,ZN]at this;omega
    · exact h1
   rcases Nat.eq_or_lt_of_le c with h1|h1
   · subst h1;exact⟨b,a⟩
   · have:=d k j h1 b;rw[a]at this;exact absurd this (h.2 k (lrf _) (by omega))
 · rintro⟨h1,h2⟩;rw[<-h2,gqq,oO h1];exact qG h1
structure isG(l:List (List Int)):Prop where
 pos:0<l.length
 perms:Zs l (l.getD 0 []).length
 sort:ZW l
 closed:∀ p,Zz l (l.getD 0 []).length p->p∈l
noncomputable def isGB (l:List (List Int)):Bool:=@decide (isG l) (Classical.propDecidable _)
theorem au(h:isG l):isGB l=true:=by
 unfold isGB;exact @decide_eq_true _ (Classical.propDecidable _) h
theorem X1(h:¬ isG l):isGB l=false:=by
 unfold isGB;exact @decide_eq_false _ (Classical.propDecidable _) h
theorem kP:∀ n,n<7->∀ a∈gen n (idn n),H3 (idn n) a<=0:=by decide +kernel
theorem bh(h:G1 xs=true):xs.length<7/\xs∈gen xs.length (idn xs.length):=by
 have hp:=G3 h;exact⟨by have:=hp.1;omega,cf _ _ _ rfl hp.2.2 (fun x a=>ci.2 (hp.2.1 x a))⟩
theorem H6(h:i<l.length):l.getD i []∈l:=by
 rw[gqq,oO h];exact qG h
theorem Z2(h:p∈l):∃ i,i<l.length/\l.getD i []=p:=by
 obtain⟨i,a,e⟩:=r9.1 h;exact⟨i,a,by rw[gqq,oO a];exact e⟩
theorem isG.first(h:isG l):l.getD 0 []=idn (l.getD 0 []).length:=by
 have h0:=h.perms _ (H6 h.pos);obtain⟨i,b,e⟩:=Z2 (h.closed _ (Z1 l _));rcases pT i with a|a
 · subst a;exact e
 · have h1:=h.sort 0 i a b;have h2:=bh h0.1;have h3:=kP _ h2.1 _ h2.2;rw[e]at h1;have h4:=SZ (l.getD 0 []) (idn (l.getD 0 []).length);omega
theorem isG.few(h:isG l):l.length<=720:=by
 have h0:=h.perms _ (H6 h.pos);have h2:=bh h0.1;refine pD (nodup_le l (gen _ (idn (l.getD 0 []).length)) h.sort.nodup fun p hp => ?_) (im _ h2.1);obtain⟨h3,h4⟩:=h.perms p hp;have:=bh h3;rw[h4]at this;exact this.2
theorem kQ(h0:0<l.length)(h1:l.getD 0 []=idn (l.getD 0 []).length)(h2:Zs l (l.getD 0 []).length)(h3:ZW l)
 (h4:∀ i k,i<l.length->k<l.length->comp (l.getD i []) (l.getD k [])∈l):isG l:=by
 refine⟨h0,h2,h3,?_⟩;rintro p ⟨b,a,rfl⟩
 induction b with
 | nil =>
  rw[List.foldr_nil,<-h1];exact H6 h0
 | cons g b ih =>
  obtain⟨i,d,e⟩:=Z2 (a g (by simp));obtain⟨k,f,c⟩:=Z2 (ih (fun x j=>a x (by simp[j])));rw[oY,<-e,<-c];exact h4 i k d f
theorem isG.comp{l:List (List Int)}(h:isG l){i k:Nat}(hi:i<l.length)(b:k<l.length):comp (l.getD i []) (l.getD k [])∈l:=by
 refine h.closed _ ⟨[l.getD i [],l.getD k []],?_,?_⟩
 · intro g a;simp only[qj,rI,vQ]at a;rcases a with rfl|rfl
   · exact H6 hi
   · exact H6 b
 · have c:=(h.perms _ (H6 b)).2;rw[oY,oY,List.foldr_nil,<-c,ZU]
structure cW(l:List (List Int))(k:Nat):Prop where
 perms:∀ i,i<k->G1 (l.getD i [])=true/\(l.getD i []).length=(l.getD 0 []).length
 sort:∀ i j,i<j->j<k->H3 (l.getD i []) (l.getD j [])<0
theorem cW.one(h:G1 (l.getD 0 [])=true):cW l 1 :=
 ⟨fun i a=>by
  have:i=0:=by omega
  subst this
  exact⟨h,rfl⟩,fun i j h1 h2=>by omega⟩
theorem cW.succ(h:cW l (k+1))(hp:G1 (l.getD (k+1) [])=true/\(l.getD (k+1) []).length=(l.getD 0 []).length)(b:H3 (l.getD k []) (l.getD (k+1) [])<0):cW l (k+2):=by
 refine⟨fun i a => ?_,fun i j h1 h2 => ?_⟩
 · by_cases he:i=k+1
   · subst he;exact hp
   · exact h.perms i (by omega)
 · by_cases he:j=k+1
   · subst he;by_cases a:i=k
     · subst a;exact b
     · exact ZP (h.sort i k (by omega) (by omega)) b
   · exact h.sort i j h1 (by omega)
theorem cW.all(h:cW l k)(c:l.length<=k):Zs l (l.getD 0 []).length/\ZW l:=by
 refine⟨fun g a => ?_,fun i j h1 h2=>h.sort i j h1 (by omega)⟩;obtain⟨i,b,rfl⟩:=Z2 a;exact h.perms i (by omega)
noncomputable def posL (l:List (List Int)) (p:List Int):Nat:=@Classical.epsilon _ ⟨0⟩ (fun k=>k<=l.length/\plI l p k k)
theorem gQ(b:k<=l.length)(a:j<=l.length)(h1:plI l p k k)(h2:plI l p j j):k=j:=by
 rcases Nat.lt_trichotomy k j with h|h|h
 · exact absurd (h2.1 k h) (h1.2 k (lrf _) (by omega))
 · exact h
 · exact absurd (h1.1 j h) (h2.2 j (lrf _) (by omega))
theorem ke(a:k<=l.length)(h:plI l p k k):k=posL l p:=by
 have:=@Classical.epsilon_spec _ (fun k=>k<=l.length/\plI l p k k) ⟨k,a,h⟩;exact gQ a this.1 h this.2
theorem fS{m:List (List Int×Value)}(h:Br w r m):∃ a b,w.heap[r]?=some (.map a b)/\a.size=m.length:=by
 have h1:=cE h;unfold bM at h1;have h2:=h.1;exact⟨_,_,h2,by rw[h2]at h1;exact h1⟩
structure C3(l gs L:List (List Int))(k:Nat):Prop where
 sub:∀ g∈gs,g∈l
 nodup:L.Nodup
 reach:∀ p,p∈L<->Zz gs (l.getD 0 []).length p
 part:∀ i,i<k->l.getD i []∈L
 few:L.length<=l.length
theorem dO(h:∀ g∈gs,g∈hs):Zz gs n p->Zz hs n p
 | ⟨ws,h1,h2⟩=>⟨ws,fun g a=>h g (h1 g a),h2⟩
theorem dP(b:n<=6)(hp:Zs gs n){p q:List Int}(h1:Zz gs n p)(h2:Zz gs n q):Zz gs n (comp p q):=by
 obtain⟨d,c,rfl⟩:=h1
 induction d with
 | nil =>
  have e:=Zq b hp h2;have:comp (idn n) q=q:=by
   unfold comp
   conv=>rhs;rw[<-List.map_id q]
   apply so;intro x a;have:=(G3 e.1).2.1 x a;rw[cj (by omega)];simp;omega
  rw[List.foldr_nil,this];exact h2
 | cons g d ih =>
  have f:=Zq b hp h2;have i:=Zq b hp ⟨d,fun x a=>c x (by simp[a]),rfl⟩;rw[oY,ZH (by intro y j;have:=(G3 f.1).2.1 y j;rw[i.2];rw[f.2]at this;exact this)];exact dF (c g (by simp)) (ih (fun x a=>c x (by simp[a])))
theorem C3.too(a:isG l)(d:∀ g∈gs,g∈l)(b:L.Nodup)(c:∀ p,p∈L<->Zz gs (l.getD 0 []).length p):L.length<=l.length :=
 nodup_le L l b (fun p hp=>a.closed p (dO d ((c p).1 hp)))
theorem C3.fin(h:C3 l gs L k)(r:l.length<=k)(h0:0<l.length)(hp:Zs l (l.getD 0 []).length)(j:ZW l):isG l<->L.length=l.length:=by
 have h6:(l.getD 0 []).length<=6:=(G3 (hp _ (H6 h0)).1).1;have f:Zs gs (l.getD 0 []).length:=fun g o=>hp g (h.sub g o);have b:∀ p∈l,p∈L:=by
  intro p hp;obtain⟨i,q,rfl⟩:=Z2 hp;exact h.part i (by omega)
 constructor
 · intro _;have:=nodup_le l L j.nodup b;have:=h.few;omega
 · intro he;refine⟨h0,hp,j,?_⟩;have a:∀ p∈L,p∈l:=by
    intro p e;refine pQ fun d => ?_
    have:=nodup_le (p :: l) L (qL.2 ⟨d,j.nodup⟩) (fun x c=>by
     rcases qj.1 c with rfl|c
     · exact e
     · exact b x c)
    simp at this;omega
   rintro p ⟨n,m,rfl⟩;apply a;rw[h.reach]
   induction n with
   | nil=>exact Z1 gs _
   | cons g n ih=>exact dP h6 f ((h.reach g).1 (b g (m g (by simp)))) (ih (fun x c=>m x (by simp[c])))
def CEl(w:World)(cs:List Value)(ps:List (List Int)):Prop:=∀ i,i<ps.length->∃ a n c,cs.getD i undef = .slice a n c/\SlI w a n c (ps.getD i [])
theorem CEl.ext{w b:World}{cs:List Value}{ps:List (List Int)}(h:CEl w cs ps)(e:Ext w b):CEl b cs ps :=
 fun i d=>let ⟨a,n,c,h1,h2⟩:=h i d;⟨a,n,c,h1,h2.ext e⟩
theorem CEl.snoc(h:CEl w cs ps)(b:cs.length=ps.length)(hp:SlI w a n c p):CEl w (cs ++ [.slice a n c]) (ps ++ [p]):=by
 intro i g;simp only[pZ,List.length_singleton]at g;by_cases h1:i<ps.length
 · obtain⟨d,j,f,h2,h3⟩:=h i h1;refine⟨d,j,f,?_,?_⟩
   · rw[<-h2];simp[pO (b ▸ h1)]
   · simpa[pO h1]using h3
 · have e:i=ps.length:=by omega
   subst e;refine⟨a,n,c,?_,?_⟩
   · rw[<-b];simp
   · simpa using hp
theorem dQ{k:TypeId}{a:Array MapEntry}(c:P.underlying mt=some (.map k e))(b:w.heap[r]?=some (.map a ck)) :
 (Builtin.len_ #[mt] ty #[.map (some r)]).run P w = .ok (.int .i64 a.size) w:=by
 simp[Builtin.len_,qF c,run_getObj_map w r a ck b,goInt]
theorem bI(hx:SlL w a n c ls)(bN:n<=1000000) :
 Calls prog 109 #[.slice a n c] w (fun e w'=>e = .returned (.bool (isGB ls))/\Ext w w'):=by
 have z:=lz hx.len;by_cases h0:n=0
 · subst h0;have t:=lz (X1 (l:=ls) (fun h=>by have:=h.pos;rw[z.out]at this;omega))
   go_enter func109,ntmps109
   go_wp2;go_ret;exact⟨YJ t.out,Ext.refl w⟩
 · obtain⟨b1,o1,a1,Y,c1,rfl,g0,s1⟩:=hx.at (k:=0) (by omega);have g1:w.cell? ⟨b1,o1,none⟩=some (.slice a1 Y c1):=g0;have d:=lz s1.len;clear g0;have hz:((n:Int) == 0)=false:=by simp;omega
   go_enter func109,ntmps109
   go_wp2
   go_loopw[19] (fun i wr=>∃ k:Nat,i = .int .i64 k/\k<=n/\Ext w wr/\Hid (cW ls k)) (fun i _=>n-(intOf i).toNat)
   case atStart=>exact⟨0,rfl,pE _,Ext.refl _,lz ⟨fun i V=>by omega,fun i j h1 h2=>by omega⟩⟩
   case round =>
    obtain⟨k,rfl,hk,hE,HK⟩:=hrel;have ba:=hx.ext hE;by_cases b6:k<n
    · obtain⟨b2,o2,a2,Z,c2,M,g2,I⟩:=ba.at (k:=k) b6;simp only[pz,qq,qO]at M;obtain⟨rfl,rfl⟩:=M;have y:k<ls.length:=by rw[z.out];exact b6
      have ah:=lz I.len;cases hv:G1 (ls.getD k [])with
      | false =>
       have t:=lz (X1 (l:=ls) (fun h=>by have:=(h.perms _ (H6 y)).1;rw[hv]at this;cases this))
       go_wp2_with fail
       refine(G4 I).mono ?_;rw[hv];rintro e w1 ⟨rfl,m⟩;go_wp2;go_ret;exact⟨YJ t.out,hE.trans m⟩
      | true =>
       by_cases E:Z=Y
       · have bn:((Z:Int) != (Y:Int))=false:=by simp[E]
         have b8:G1 (ls.getD k [])=true/\(ls.getD k []).length=(ls.getD 0 []).length:=⟨hv,by rw[d.out,ah.out,E]⟩;have aj:=lz b8;clear b8 E;cases k with
         | zero =>
          rw[qy]at g2
          go_wp2_with fail
          refine(G4 I).mono ?_;rw[hv];rintro e w1 ⟨rfl,m⟩;go_wp2;go_roundw
          case rel=>exact⟨1,by go_num,by omega,hE.trans m,lz (cW.one aj.out.1)⟩
          case measure=>simp[intOf];omega
         | succ j =>
          obtain⟨b3,o3,a3,n3,c3,e3,g3,s3⟩:=ba.at (k:=j) (by omega);simp only[pz,qq,qO]at e3;obtain⟨rfl,rfl⟩:=e3;have bW:IntKind.i64.wrap ((j:Int)+1-1)=j:=by rw[oE];exact pq _ (by omega)
          have c0:IntKind.i64.wrap (j:Int)=j:=pq _ (by omega)
          go_wp2_with fail
          refine(G4 I).mono ?_;rw[hv];rintro e w1 ⟨rfl,m⟩;have bz:=m.cell g3
          go_wp2_with fail
          refine(Zt (s3.ext m) (I.ext m)).mono ?_;rintro e w2 ⟨rfl,bi⟩;have aq:=(hE.trans m).trans bi.ext;obtain⟨cv,a8⟩:∃ cv,H3 (ls.getD j []) (ls.getD (j+1) [])=cv:=⟨_,rfl⟩;rw[a8];have ac:=lz a8;clear a8;by_cases bK:0<=cv
          · have t:=lz (X1 (l:=ls) (fun h=>by have:=h.sort j (j+1) (by omega) y;rw[ac.out]at this;omega));go_wp2;go_ret;exact⟨YJ t.out,aq⟩
          · go_wp2;go_roundw
            case rel=>exact⟨j+1+1,by go_num,by omega,aq,lz (HK.out.succ aj.out (by rw[ac.out];omega))⟩
            case measure=>simp[intOf];omega
       · have bn:((Z:Int) != (Y:Int))=true:=by simp;omega
         have t:=lz (X1 (l:=ls) (fun h=>by have:=(h.perms _ (H6 y)).2;rw[d.out,ah.out]at this;exact E this));clear E
         go_wp2_with fail
         refine(G4 I).mono ?_;rw[hv];rintro e w1 ⟨rfl,m⟩;go_wp2;go_ret;exact⟨YJ t.out,hE.trans m⟩
    · have ek:k=n:=by omega
      obtain⟨Q,G⟩:=HK.out.all (by have:=z.out;omega);have K:=lz Q;have bg:=lz G;have D:Y<=6:=by rw[<-d.out];exact(G3 (Q _ (H6 (i:=0) (by have:=z.out;omega))).1).1
      rw[d.out]at Q;clear HK G ek Q
      go_wp2_with fail
      refine(Z8 (gs:=[]) ⟨rfl,[],Sl.nil wr,fun i V=>by simp at V⟩ D (by intro g s;cases s)).mono ?_;rintro e w2 ⟨r,L,rfl,ao,hr,hM,aa,C⟩;have ar:=hE.trans ao;have av:C3 ls [] L 0:=by
       refine⟨by simp,aa,by rw[d.out];exact C,fun i V=>by omega,?_⟩
       have:=nodup_le L [idn Y] aa (fun p hp=>by
        obtain⟨ws,h1,h2⟩:=(C p).1 hp;cases ws with
        | nil=>simp[h2]
        | cons g ws=>exact absurd (h1 g (by simp)) (by simp))
       rw[z.out];simp at this;omega
      have b9:w.heap.size<=r:=by have:=hE.size;omega
      clear ao hr aa C;go_wp2
      go_loopw[6,7,52] (fun v u i wr=>∃ k:Nat,∃ gs L ag ng cg gc r,v = .slice ag ng cg/\u = .map (some r)/\i = .int .i64 k/\k<=n/\Ext w wr/\Hid (ng=gs.length)/\ng<=k/\w.heap.size<=r/\Own wr w.heap.size 24 ag ng cg gc/\CEl w gc gs/\Br wr r (Zo L)/\Hid (C3 ls gs L k)) (fun _ _ i _=>n-(intOf i).toNat)
      case atStart=>exact⟨0,[],L,none,0,0,[],r,rfl,rfl,rfl,pE _,ar,lz rfl,lrf _,b9,Own.nil _ _ _,by intro i V;simp at V,hM,lz av⟩
      case round =>
       clear hM av b9 ar;obtain⟨k,gs,L,ag,ng,cg,gc,r,rfl,rfl,rfl,hk,B,A,bt,hr,hO,hC,hM,b⟩:=hrel;have ab:Zs gs Y:=fun g s=>by have:=K.out g (b.out.sub g s);rw[d.out]at this;exact this
       have bv:=lz ab;have bf:=lz (fun x hx=>(Zq D ab (by have:=(b.out.reach x).1 hx;rw[d.out]at this;exact this)).2);clear ab;obtain⟨es,ck,b0,b4⟩:=fS hM;have ad:Hid (es.size=L.length):=by show _=_;rw[b4];simp[Zo]
       clear b4;by_cases W:k<n
       · obtain⟨b2,o2,a2,Z,c2,M,g2,I⟩:=hx.at (k:=k) W;simp only[pz,qq,qO]at M;obtain⟨rfl,rfl⟩:=M;have y:k<ls.length:=by rw[z.out];exact W
         have O:=K.out _ (H6 y);rw[d.out]at O;have b7:=H6 y;obtain⟨J,F⟩:∃ J,ls.getD k []=J:=⟨_,rfl⟩;rw[F]at I O b7;have ai:=lz F;clear F;have bm:Z<=6:=by have:=I.len;omega
         have g2:=B.cell g2
         go_wp2_with fail
         refine(ZB (I.ext B) bm).mono ?_;rintro e w4 ⟨rfl,N⟩;have a5:=hM.ext N;have a6:=hO.ext N;have q:=B.trans N;have b5:(AY (J)).length=6:=D0 (by omega);have o:=eL bf.out O.2;clear b0 hM hO N;by_cases a9:J∈L
         · simp only[a9,vE]at o;have a0:Hid (C3 ls gs L (k+1)):=by
            show C3 ls gs L (k+1);refine⟨b.out.sub,b.out.nodup,b.out.reach,fun i V => ?_,b.out.few⟩;by_cases he:i=k
            · subst he;rw[ai.out];exact a9
            · exact b.out.part i (by omega)
           go_wp2_with(refine LH rfl rfl ZE Q3 be rfl rfl a5 b5 ?_;simp only[si,tJ];rw[o])
           go_roundw
           case rel=>exact⟨k+1,gs,L,ag,ng,cg,gc,r,rfl,rfl,by go_num,by omega,q,A,by omega,hr,a6,hC,a5,a0⟩
           case measure=>simp[intOf];omega
         · simp only[a9,oJ]at o;have hA6:Ext w4 (w4.alloc (.cells #[.slice a2 Z c2] 24)):=(Ext.refl w4).alloc _;have bj:=(AB w4 w.heap.size 24 #[.slice a2 Z c2] 1 rfl q.size (by omega)).sl;have ay:=a6.ext hA6
           go_wp2_with(first
            | (refine LH rfl rfl ZE Q3 be rfl rfl a5 b5 ?_;simp only[si,tJ];rw[o])
            | (refine B5 rfl rfl underlying54 Q5 rfl rfl ay rfl bj (by simp[Value.oneCell']) (by unfold maxLen;omega) (by omega) (by have:=q.size;simp;omega) ?_;intro a7 c7 w7 aA bl bG))
           have bp:∀ k,blk ag=some k->w.heap.size<=k:=fun k hk=>(ay.lt hk).1;have a4:Ext w w7:=(q.trans hA6).grown bl bp;have al:CEl w (gc ++ [.slice a2 Z c2]) (gs ++ [J]):=hC.snoc (by rw[a6.len,A.out]) I;have H:∀ g∈gs ++ [J],g∈ls:=by
            intro g s;rcases qd.1 s with s|s
            · exact b.out.sub g s
            · simp only[pF]at s;subst s;exact b7
           have bd:Zs (gs ++ [J]) Y:=fun g s=>by have:=K.out g (H g s);rw[d.out]at this;exact this
           have bk:SlL w7 a7 (ng+1) c7 (gs ++ [J]):=⟨by simp;exact A.out.symm,_,aA.sl,fun i V=>by
            obtain⟨a',n',c',h1,h2⟩:=al i (by simp;have:=A.out;omega)
            exact⟨a',n',c',h1,h2.ext a4⟩⟩
           refine(Z8 bk D bd).mono ?_;rintro e w8 ⟨r8,L8,rfl,ap,bR,ax,X,f⟩;rw[<-d.out]at f;obtain⟨ak,bx,bb,U⟩:=fS ax;have R:Hid (ak.size=L8.length):=by show _=_;rw[U];simp[Zo]
           clear U;have T:=a4.trans ap;have bs:=dQ (P:=prog) (ty:=3) ZE bb;by_cases bq:(n:Int)<(ak.size:Int)
           · have t:=lz (X1 (l:=ls) (fun h=>by have:=C3.too h H X f;have e1:=R.out;have M:=z.out;omega));go_wp2;go_ret;exact⟨YJ t.out,T⟩
           · have a0:Hid (C3 ls (gs ++ [J]) L8 (k+1)):=by
              show C3 ls _ L8 (k+1);refine⟨H,X,f,fun i V => ?_,by have e1:=R.out;have M:=z.out;omega⟩;by_cases he:i=k
              · subst he;rw[f,ai.out];refine⟨[J],by simp,?_⟩;rw[oY,List.foldr_nil,d.out,<-O.2,ZU]
              · rw[f];exact dO (fun g s=>List.mem_append_left _ s) ((b.out.reach _).1 (b.out.part i (by omega)))
             go_wp2;go_roundw
             case rel=>exact⟨k+1,_,L8,a7,ng+1,c7,_,r8,rfl,rfl,by go_num,by omega,T,lz (by rw[A.out];simp),by omega,by have:=a4.size;omega,aA.ext ap,al,ax,a0⟩
             case measure=>simp[intOf];omega
       · have S:=lz (b.out.fin (by have:=z.out;omega) (by have:=z.out;omega) K.out bg.out);have bL:=dQ (P:=prog) (ty:=3) ZE b0;by_cases hq:es.size=n
         · have bo:((es.size:Int) == (n:Int))=true:=by simp[hq]
           have t:=lz (au (S.out.2 (by have e1:=ad.out;have M:=z.out;omega)));clear hq;go_wp2;go_ret;exact⟨YJ t.out,B⟩
         · have bo:((es.size:Int) == (n:Int))=false:=by simp;omega
           have t:=lz (X1 (fun h=>hq (by have:=S.out.1 h;have e1:=ad.out;have M:=z.out;omega)));clear hq;go_wp2;go_ret;exact⟨YJ t.out,B⟩
theorem fT:∀ (x y z:List Int),x.length=y.length->H3 (x ++ z) (y ++ z)=H3 x y
 | [],[],z,_=>by simp[ZN,H3]
 | [],_ :: _,_,h=>by simp at h
 | _ :: _,[],_,h=>by simp at h
 | a :: x,b :: y,z,h=>by
  simp only[qk,Nat.add_right_cancel_iff]at h;simp only[rX,H3,fT x y z h]
theorem iM(h:x.length=y.length):H3 (AY x) (AY y)=H3 x y:=by
 unfold AY;rw[h];exact fT x y _ h
def Y2(gs:List (List Int))(m:List Int):Nat->List Int
 | 0=>m
 | k+1=>if H3 (mvd (gs.getD k []) m) (Y2 gs m k)<0 then mvd (gs.getD k []) m else Y2 gs m k
def Yg(gs:List (List Int))(m:List Int):List Int:=Y2 gs m gs.length
theorem ZZ(gs:List (List Int))(m:List Int):∀ k,(Y2 gs m k).length=m.length
 | 0=>rfl
 | k+1=>by
  unfold Y2;split
  · rw[mvd,ZA]
  · exact ZZ gs m k
theorem bJ :(Instr.sliceAt 132 (.pointer (some ⟨g,0,none⟩)) none none none).run prog w = .ok (.slice (some ⟨g,0,none⟩) 6 6) w:=by
 obtain⟨i,c,e,a,b⟩:=vw Pt;have d:prog.underlying 132=some (.array 6 3):=Q3.arr;simp[Instr.sliceAt,Instr.sliceBounds,qF d,sizeOf,typeInfo,c,Instr.sureAddr,Addr.add]
theorem Arr.slI(h:Arr w g t (xs.map (Value.int .i64)))(h6:xs.length=6):SlI w (some ⟨g,0,none⟩) 6 6 xs:=by
 have:=h.sl (k:=6) (by simp[h6]) (by simp[h6,maxLen]);rw[pH,h6,pu (by simp[h6])]at this;exact this
theorem aU{q:Nat}(hx:SlL w a q c gs)(hp:Zs gs n)(hm:m.length=n)(Z:n<=6) :
 Calls prog 110 #[.slice a q c,BI (AY m)] w fun e w'=>e = .returned (BI (AY (Yg gs m)))/\Ext w w':=by
 have HX:=lz hx.len;have ag:=hx.le;have HM:=lz hm;have HP:=lz hp;have Y:(AY m).length=6:=D0 (by omega);have A:Agg prog 132 ((AY m).map (Value.int .i64)).length:=by
  rw[pH,Y];exact ZF
 have a4:Hid (G2.length=((AY m).map (Value.int .i64)).length):=by
  show _=_;rw[pH,Y];rfl
 clear hm hp
 go_enter func110,ntmps110
 go_upto_region 1 with(fail)
 have D:Arr ((w.alloc (.cells ((AY m).map (Value.int .i64)).toArray 132)).alloc (.cells G2.toArray 132)) w.heap.size 132 ((AY m).map (Value.int .i64)):=(Arr.new w _ _).alloc _;have J:Arr ((w.alloc (.cells ((AY m).map (Value.int .i64)).toArray 132)).alloc (.cells G2.toArray 132)) (w.heap.size+1) 132 G2:=by
  have:=Arr.new (w.alloc (.cells ((AY m).map (Value.int .i64)).toArray 132)) 132 G2;simpa using this
 have I:Ext w ((w.alloc (.cells ((AY m).map (Value.int .i64)).toArray 132)).alloc (.cells G2.toArray 132)):=((Ext.refl w).alloc _).alloc _;have a1:((w.alloc (.cells ((AY m).map (Value.int .i64)).toArray 132)).alloc (.cells G2.toArray 132)).heap.size=w.heap.size+2:=by simp
 change Code.wp _ _ _ _ ((w.alloc (.cells ((AY m).map (Value.int .i64)).toArray 132)).alloc (.cells G2.toArray 132));generalize ((w.alloc (.cells ((AY m).map (Value.int .i64)).toArray 132)).alloc (.cells G2.toArray 132))=K at *
 have b:=lz a1;clear a1;have Q:Arr (K.alloc (.cells G2.toArray 132)) K.heap.size 132 G2:=Arr.new K _ _
 go_wp2_with(first
  | (refine Ev rfl rfl A rfl D ?_)
  | (refine Aa rfl rfl rfl rfl rfl A Q a4.out (Cc _) ?_;intro w1 R o))
 have O:Ext w w1:=(I.alloc _).grown o (by intro k y;simp at y;have:=b.out;omega);have M:=(D.alloc (.cells G2.toArray 132)).kept o (by have:=b.out;simp;omega);have U:=(J.alloc (.cells G2.toArray 132)).kept o (by have:=b.out;simp;omega);have ac:w.heap.size<K.heap.size:=by have:=b.out;omega
 have ad:w.heap.size+1<K.heap.size:=by have:=b.out;omega
 generalize K.heap.size=L0 at *
 clear D J I Q o
 go_loopw[12] (fun i wr=>∃ k:Nat,k<=q/\i = .int .i64 k/\Ext w wr/\Arr wr w.heap.size 132 ((AY m).map (Value.int .i64))/\Arr wr (w.heap.size+1) 132 G2/\Arr wr L0 132 ((AY (Y2 gs m k)).map (Value.int .i64))) (fun i _=>q-(intOf i).toNat)
 case atStart=>exact⟨0,pE _,rfl,O,M,U,R⟩
 case round =>
  clear M U R O;obtain⟨k,y,rfl,I,D,J,hL⟩:=hrel;have hx:=hx.ext I;have p:(AY (Y2 gs m k)).length=6:=D0 (by rw[ZZ,HM.out];exact Z);have B:Agg prog 132 ((AY (Y2 gs m k)).map (Value.int .i64)).length:=by
   rw[pH,p];exact ZF
  by_cases X:k<q
  · obtain⟨b2,o2,a2,n2,c2,rfl,g2,s2⟩:=hx.at X;have a0:=HP.out _ (H6 (l:=gs) (i:=k) (by rw[HX.out];exact X));have aa:n2=n:=by rw[<-s2.len];exact a0.2
    subst aa;have HS:Hid (Y2 gs m (k+1)=if H3 (AY (mvd (gs.getD k []) m)) (AY (Y2 gs m k))<0 then mvd (gs.getD k []) m else Y2 gs m k):=by
     show _=_;rw[iM (by rw[mvd,ZA,ZZ])];rfl
    have r:(AY (mvd (gs.getD k []) m)).length=6:=D0 (by rw[mvd,ZA,HM.out];exact Z);have C:Agg prog 132 ((AY (mvd (gs.getD k []) m)).map (Value.int .i64)).length:=by
     rw[pH,r];exact ZF
    have a6:Hid (G2.length=((AY (mvd (gs.getD k []) m)).map (Value.int .i64)).length):=by
     show _=_;rw[pH,r];rfl
    have a5:Hid (((AY (Y2 gs m k)).map (Value.int .i64)).length=((AY (mvd (gs.getD k []) m)).map (Value.int .i64)).length):=by
     show _=_;rw[pH,pH,r,p]
    have a9:=fun(s:World) (e:Ext wr s)=>aL (w:=s) (s2.ext e) a0.1 HM.out;generalize mvd (gs.getD k []) m=mv at *
    go_wp2_with(first
     | (refine Ev rfl rfl A rfl D ?_)
     | fail)
    refine(a9 wr (Ext.refl wr)).mono ?_;rintro e w2 ⟨rfl,d⟩;have j:=D.ext d;have V:=J.ext d;have E:=hL.ext d;have t:=I.trans d;have S:Arr (w2.alloc (.cells G2.toArray 132)) w2.heap.size 132 G2:=Arr.new w2 _ _;have ab:=E.lt;clear D J hL d
    go_wp2_with(first
     | (refine Aa rfl rfl rfl rfl rfl C S a6.out (Cc _) ?_;intro w3 T f))
    have P:Ext w w3:=(t.alloc _).grown f (by intro k y;simp at y;have:=t.size;omega);have N:=(j.alloc (.cells G2.toArray 132)).kept f (by simp;omega);have W:=(V.alloc (.cells G2.toArray 132)).kept f (by simp;omega);have F:=(E.alloc (.cells G2.toArray 132)).kept f (by simp;omega);clear S f j V E;generalize w2.heap.size=N0 at *
    have sN:=T.slI r;have sL:=F.slI p;have ah:=fun(s:World)=>bJ (w:=s) (g:=N0);have ai:=fun(s:World)=>bJ (w:=s) (g:=L0);obtain⟨cv,G⟩:∃ cv,H3 (AY mv) (AY (Y2 gs m k))=cv:=⟨_,rfl⟩;have x:=fun(s:World) (e:Ext w3 s)=>Zt (w:=s) (sN.ext e) (sL.ext e);rw[G]at x;have L:Hid (Y2 gs m (k+1)=if cv<0 then mv else Y2 gs m k):=by
     show _=_;rw[HS.out,G]
    clear G HS
    go_wp2_with fail
    go_quiet ((go_at_call 175;exact sV (x _ ((Ext.refl _).drewN _))))
    by_cases hc:cv<0
    · have z:Hid (Y2 gs m (k+1)=mv):=by
       show _=_;rw[L.out,pP hc]
      go_wp2_with(first
       | (refine Ev rfl rfl C rfl (T.drewN _) ?_)
       | (refine Aa rfl rfl rfl rfl rfl C (F.drewN _) a5.out (Cc _) ?_;intro w4 a7 H))
      go_roundw
      case rel =>
       refine⟨k+1,by omega,by go_num,(P.drewN _).grown H ?_,(N.drewN _).kept H ?_,(W.drewN _).kept H ?_,?_⟩
       · intro k y;simp at y;omega
       · simp;omega
       · simp;omega
       · rw[z.out];exact a7
      case measure=>simp[intOf];omega
    · have z:Hid (Y2 gs m (k+1)=Y2 gs m k):=by
       show _=_;rw[L.out,pC hc]
      go_wp2;go_roundw
      case rel=>exact⟨k+1,by omega,by go_num,P.drewN _,N.drewN _,W.drewN _,by rw[z.out];exact F.drewN _⟩
      case measure=>simp[intOf];omega
  · have e:k=q:=by omega
    have a3:Hid (G2.length=((AY (Y2 gs m k)).map (Value.int .i64)).length):=by
     show _=_;rw[pH,p];rfl
    have HF:Hid (AY (Yg gs m)=AY (Y2 gs m k)):=by
     show _=_;unfold Yg;rw[HX.out,e]
    clear e
    go_wp2_with(first
     | (refine Ev rfl rfl B rfl hL ?_)
     | (refine Aa rfl rfl rfl rfl rfl B J a3.out (Cc _) ?_;intro w2 j a8))
    rw[HF.out];refine py (v:=BI (AY (Y2 gs m k))) ?_ rfl ⟨rfl,I.grown a8 ?_⟩
    · exact Ap rfl B rfl j
    · intro k y;simp at y;omega
theorem ll:10^8<=P2 27:=by unfold P2;decide
def sg(g:Nat->Nat):Nat->Nat
 | 0=>0
 | k+1=>sg g k+g k
def bB(l:List UInt8):Value := .string ⟨l.toArray⟩
theorem iO(s:ByteArray):bB (An s) = .string s:=by
 unfold bB An;cases s;simp
def rk(gs:List (List Int))(n:Nat)(e:List Int):List Int:=AY (Yg gs (e.take n))
noncomputable def sumK (gs:List (List Int)) (n:Nat) (l:List Pl.Tm):List Pl.Tm:=l.foldl (fun acc t=>Pl.putK acc (rk gs n t.1) (Pl.getK 0 acc (rk gs n t.1)+t.2)) []
theorem iP{l:List Pl.Tm}(h:k<l.length):sumK gs n (l.take (k+1))=Pl.putK (sumK gs n (l.take k)) (rk gs n (l.getD k ([],0)).1) (Pl.getK 0 (sumK gs n (l.take k)) (rk gs n (l.getD k ([],0)).1)+(l.getD k ([],0)).2):=by
 unfold sumK;rw[pB h,List.foldl_append];simp[h]
theorem dR(gs:List (List Int))(n:Nat)(l:List Pl.Tm):(sumK gs n l).length<=l.length:=by
 have b:∀ (l a:List Pl.Tm),(l.foldl (fun a t=>Pl.putK a (rk gs n t.1) (Pl.getK 0 a (rk gs n t.1)+t.2)) a).length<=a.length+l.length:=by
  intro l
  induction l with
  | nil=>intro a;simp
  | cons t r ih =>
   intro a;rw[vf,qk];have h1:=ih (Pl.putK a (rk gs n t.1) (Pl.getK 0 a (rk gs n t.1)+t.2));have h2:=Pl.putK_length (rk gs n t.1) (Pl.getK 0 a (rk gs n t.1)+t.2) a;omega
 have:=b l [];simpa[sumK]using this
def aw(L:List Pl.Tm):List (List Int×Value):=L.map fun p=>(p.1,bB (txt p.2))
theorem Z0(L:List Pl.Tm):(aw L).map (·.1)=L.map (·.1):=by simp[aw]
theorem az(k:List Int):∀ (i:Nat) (L:List Pl.Tm),CR k i (aw L)=(Pl.posK k i L).map fun p=>(p.1,bB (txt p.2))
 | _,[]=>rfl
 | i,(k',q) :: r=>by
  show(if k=k' then some (i,bB (txt q))else CR k (i+1) (aw r))=_;unfold Pl.posK;by_cases h:k=k'
  · rw[pP h,pP h];rfl
  · rw[pC h,pC h,az k (i+1) r]
theorem jr(k:List Int)(L:List Pl.Tm):WR (aw L) k=decide (k∈L.map (·.1)):=by
 unfold WR;rw[<-Z0];cases h:CR k 0 (aw L)with
 | none=>simp[Gs.1 h]
 | some p =>
  have:¬ CR k 0 (aw L)=none:=by rw[h];simp
  rw[Gs]at this;simpa using this
theorem fU{k:List Int}{L:List Pl.Tm}(h:k∈L.map (·.1)):Fu (.string ⟨#[]⟩) (aw L) k=bB (txt (Pl.getK 0 L k)):=by
 unfold Fu Pl.getK;have h1:¬ CR k 0 (aw L)=none:=by rw[Gs,Z0];exact fun h2=>h2 h
 rw[az]at h1 |-;cases hp:Pl.posK k 0 L with
 | none=>rw[hp]at h1;exact absurd rfl h1
 | some p=>rfl
theorem ip{k:List Int}{L:List Pl.Tm}(h:k ∉ L.map (·.1)):Pl.getK 0 L k=0:=by
 unfold Pl.getK;have h1:CR k 0 (aw L)=none:=by rw[Gs,Z0];exact h
 rw[az]at h1;cases hp:Pl.posK k 0 L with
 | none=>rfl
 | some p=>rw[hp]at h1;cases h1
theorem kf(k:List Int)(q:Rat)(L:List Pl.Tm):NL (aw L) k (bB (txt q))=aw (Pl.putK L k q):=by
 unfold NL Pl.putK;rw[az];cases hp:Pl.posK k 0 L with
 | none=>simp[aw]
 | some p =>
  show(aw L).set p.1 (k,bB (txt q))=aw (L.set p.1 (k,q));simp[aw,tU]
theorem bV{k:List Int}{L:List Pl.Tm}:(Pl.putK L k q).map (·.1)=if k∈L.map (·.1)then L.map (·.1)else L.map (·.1) ++ [k]:=by
 have a:=az k 0 L;unfold Pl.putK;cases hp:Pl.posK k 0 L with
 | none =>
  rw[hp]at a;have h1:=Gs.1 a;rw[Z0]at h1;rw[pC h1];simp
 | some p =>
  rw[hp]at a;obtain⟨_,h2⟩:=JJ a;rw[vi]at h2;have h3:(aw L).map (·.1)=L.map (·.1):=Z0 L;have h4:k∈L.map (·.1):=by rw[<-h3];exact pU.2 ⟨_,ql h2,rfl⟩
  have h5:(L.map (·.1))[p.1]?=some k:=by
   rw[<-h3,sU,h2];rfl
  rw[pP h4];show(L.set p.1 (k,q)).map (·.1)=_;rw[tU];refine sF fun j => ?_;rw[sD];by_cases c:p.1=j
  · subst c;have b:p.1<(L.map (·.1)).length:=(qD.1 h5).1;rw[pP rfl,pP b,h5]
  · rw[pC c]
theorem dS(gs:List (List Int))(n:Nat)(l:List Pl.Tm):∀ p∈sumK gs n l,∃ t∈l,p.1=rk gs n t.1:=by
 have b:∀ (l a:List Pl.Tm),∀ e∈(l.foldl (fun a t=>Pl.putK a (rk gs n t.1) (Pl.getK 0 a (rk gs n t.1)+t.2)) a).map (·.1),e∈a.map (·.1)\/∃ t∈l,e=rk gs n t.1:=by
  intro l
  induction l with
  | nil=>exact fun a e h=>Or.inl h
  | cons t r ih =>
   intro a e h;rw[vf]at h;rcases ih _ e h with h|⟨s,c,h⟩
   · rcases(Pl.putK_keys _ _ a e).1 h with h1|h1
     · exact Or.inl h1
     · exact Or.inr ⟨t,by simp,h1⟩
   · exact Or.inr ⟨s,by simp[c],h⟩
 intro p hp;rcases b l [] p.1 (pU.2 ⟨p,hp,rfl⟩)with h|h
 · simp at h
 · exact h
theorem eN{l:List Pl.Tm}(b:n<=6)(h6:∀ t∈l,t.1.length=6):∀ p∈sumK gs n l,∃ m:List Int,m.length=n/\p.1=AY m:=fun p hp=>by
 obtain⟨t,a,e⟩:=dS gs n l p hp;exact⟨Yg gs (t.1.take n),by unfold Yg;rw[ZZ,qg,h6 t a];omega,e⟩
theorem iQ(b:∀ x∈L,x.length=n)(hp:p.length=n):NL (Zo L) (AY p) (.bool true)=Zo (if p∈L then L else L ++ [p]):=by
 by_cases h:p∈L
 · rw[pP h];unfold NL;cases a:CR (AY p) 0 (Zo L)with
   | none =>
    rw[Gs,bc,di b hp]at a;exact absurd h a
   | some q =>
    obtain⟨i,v⟩:=q;obtain⟨_,h2⟩:=JJ a;rw[vi]at h2;show(Zo L).set i (AY p,Value.bool true)=Zo L;have d:v = .bool true:=by
     have h3:=ql h2;obtain⟨x,_,e⟩:=pU.1 h3;exact(q9 Prod.snd e).symm
    rw[d]at h2;refine sF fun j => ?_;rw[sD];by_cases c:i=j
    · subst c;rw[pP rfl,pP (qD.1 h2).1,h2]
    · rw[pC c]
 · rw[pC h];exact fM b hp h
theorem kh{K:List Pl.Tm}(a:(K.map (·.1)).Nodup){j:Nat}(b:j<K.length):Pl.getK 0 K (K.getD j ([],0)).1=(K.getD j ([],0)).2:=by
 have c:K.getD j ([],0)∈K:=by
  rw[gqq,oO b];exact qG _
 rw[Pl.getK_coef K _ a,Pl.coef_mem a c]
def Zw(gs:List (List Int))(m:List Int):Nat->List (List Int)
 | 0=>[]
 | i+1=>if mvd (gs.getD i []) m∈Zw gs m i then Zw gs m i else Zw gs m i ++ [mvd (gs.getD i []) m]
theorem aV{gs:List (List Int)}{m:List Int}:∀ (i:Nat) (x:List Int),x∈Zw gs m i<->∃ j,j<i/\x=mvd (gs.getD j []) m
 | 0,x=>by simp[Zw]
 | i+1,x=>by
  have h:=aV (gs:=gs) (m:=m) i;unfold Zw;constructor
  · intro a;split at a
    · obtain⟨j,c,e⟩:=(h x).1 a;exact⟨j,by omega,e⟩
    · rcases qd.1 a with a|a
      · obtain⟨j,c,e⟩:=(h x).1 a;exact⟨j,by omega,e⟩
      · exact⟨i,by omega,by simpa using a⟩
  · rintro⟨j,c,rfl⟩;rcases qx j i with b|b
    · have h1:=(h _).2 ⟨j,b,rfl⟩;split
      · exact h1
      · exact List.mem_append_left _ h1
    · have e:j=i:=by omega
      subst e;split
      · assumption
      · simp
theorem Z3{gs:List (List Int)}{m:List Int}:∀ i,(Zw gs m i).Nodup
 | 0=>by simp[Zw]
 | i+1=>by
  have h:=Z3 (gs:=gs) (m:=m) i;unfold Zw;split
  · exact h
  · rename_i e;rw[th]
    exact⟨h,by simp,fun a d b c=>by
     simp only[pF]at c;subst c;rintro rfl
     exact e d⟩
theorem dp{gs:List (List Int)}{m:List Int}:∀ i,(Zw gs m i).length<=i
 | 0=>by simp[Zw]
 | i+1=>by
  have h:=dp (gs:=gs) (m:=m) i;unfold Zw;split
  · omega
  · simp;omega
noncomputable def srtL (L:List (List Int)):List (List Int):=Classical.epsilon fun a=>a.Perm L/\ZK a 0 a.length
theorem ki(b:L.Nodup)(h1:ps.Perm L)(h2:ZK ps 0 ps.length):ps=srtL L:=by
 have h:=tg (p:=fun ps=>ps.Perm L/\ZK ps 0 ps.length) ⟨ps,h1,h2⟩;exact dN (h1.nodup_iff.2 b) (h.1.nodup_iff.2 b) (fun x=>by rw[h1.mem_iff];exact(h.1.mem_iff (a:=x)).symm) h2 h.2
noncomputable def orbT (gs:List (List Int)) (n:Nat) (p:Pl.Tm):List Tx:=if p.2=0 then []else(srtL (Zw gs (p.1.take n) gs.length)).map fun e=>(txt (p.2*((((Zw gs (p.1.take n) gs.length).length:Nat):Int):Rat)⁻¹),e)
noncomputable def avT (gs:List (List Int)) (n:Nat) (K:List Pl.Tm):List Tx:=K.flatMap (orbT gs n)
theorem jt{K:List Pl.Tm}(h:k<K.length):avT gs n (K.take (k+1))=avT gs n (K.take k) ++ orbT gs n (K.getD k ([],0)):=by
 unfold avT;rw[pB h,List.flatMap_append];simp[h]
theorem fV(gs:List (List Int))(n k:Nat)(K:List Pl.Tm):(avT gs n (K.take k)).length<=(avT gs n K).length:=by
 have h:avT gs n K=avT gs n (K.take k) ++ avT gs n (K.drop k):=by
  unfold avT;rw[<-List.flatMap_append,rB]
 rw[h,pZ];omega
structure kR(gs:List (List Int))(n:Nat)(l:List Pl.Tm):Prop where
 rb:∀ k e,Pl.RB 400 (Pl.getK 0 (sumK gs n (l.take k)) e)
 cb:∀ t∈l,Pl.RB 400 t.2
 tb:∀ q,Pl.RB 400 q->(txt q).length<=570
 gl:gs.length<=1000
 len:(avT gs n (sumK gs n l)).length<=4096
 mkt:∀ t∈avT gs n (sumK gs n l),G9 n t
 tx:∀ t∈avT gs n (sumK gs n l),t.1.length<=570
 fin:EH ((avT gs n (sumK gs n l)).map Es)
theorem ju{a m:List Int}(hp:G1 a=true)(c:m.length=a.length):∀ k,k<=a.length->∀ j:Nat,(∃ i,i<k/\a.getD i 0=(j:Int))->(aQ a m k).getD j 0=m.getD ((Zr a k).getD j 0).toNat 0
 | 0,_,j,⟨i,hi,_⟩=>by omega
 | k+1,hk,j,⟨i,hi,he⟩=>by
  have h0:=Zm hp (i:=k) (by omega);show((aQ a m k).set (a.getD k 0).toNat (m.getD k 0)).getD j 0=m.getD (((Zr a k).set (a.getD k 0).toNat k).getD j 0).toNat 0;rw[cI (by rw[ZA];omega),cI (by rw[Zu];omega)];by_cases b:(a.getD k 0).toNat=j
  · rw[pP b,pP b];simp
  · rw[pC b,pC b];refine ju hp c k (by omega) j ⟨i,?_,he⟩;rcases qx i k with h|h
    · exact h
    · have:i=k:=by omega
      subst this;omega
theorem jw{a:List Int}(hp:G1 a=true)(c:m.length=a.length):mvd a m=comp m (Zr a a.length):=by
 have k:=aX hp;have l:=aC hp;apply rJ
 · rw[mvd,ZA,Y3,Zu,c]
 · intro j h1 h2;have d:j<a.length:=by rw[mvd,ZA,c]at h1;exact h1
   have b:j<(Zr a a.length).length:=by rw[Zu];exact d
   have i:=Zm k b;rw[Zu]at i
   have e:=ju hp c a.length (lrf _) j ⟨((Zr a a.length).getD j 0).toNat,by omega,by
    have:(comp a (Zr a a.length)).getD j 0=(idn a.length).getD j 0:=by rw[l]
    unfold comp at this;rw[ZT b,cj d]at this
    exact this⟩
   have f:(mvd a m)[j]=(mvd a m).getD j 0:=by simp[h1]
   have g:(comp m (Zr a a.length))[j]=(comp m (Zr a a.length)).getD j 0:=by simp[h2]
   rw[f,g];unfold comp;rw[ZT b];unfold mvd;rw[c];exact e
theorem kS:∀ n,n<7->∀ a∈gen n (idn n),(comp (Zr a a.length) a == idn a.length)=true:=by decide +kernel
theorem fW(h:G1 xs=true):comp (Zr xs xs.length) xs=idn xs.length:=by
 have:=kS _ (cm h).1 _ (cm h).2;simpa using this
theorem fh{a:List Int}(hp:G1 a=true)(b:x.length=a.length)(f:y.length=a.length):mvd a x=y<->x=comp y a:=by
 have e:=aX hp;have c:∀ z∈a,0<=z/\z<a.length:=(G3 hp).2.1;have d:∀ z∈Zr a a.length,0<=z/\z<a.length:=by
  have:=(G3 e).2.1;rw[Zu]at this;exact this
 rw[jw hp b];constructor
 · rintro rfl;rw[ZH (by rw[Zu];exact c),fW hp,<-b,ZU]
 · rintro rfl;rw[ZH d,aC hp,<-f,ZU]
def Zx(gs:List (List Int))(x y:List Int):Prop:=∃ g∈gs,mvd g x=y
theorem kT(a:isG gs){g:List Int}(h:g∈gs)(k:Nat):pw g k∈gs:=by
 refine a.closed _ ⟨List.replicate k g,fun x c=>by rw[(qS.1 c).2];exact h,?_⟩;have b:=(a.perms g h).2
 induction k with
 | zero=>simp[pw,b]
 | succ k ih=>rw[vo,oY,<-ih];rfl
theorem Zx.iff(a:isG gs){x y:List Int}(b:x.length=(gs.getD 0 []).length)(c:y.length=(gs.getD 0 []).length):Zx gs x y<->∃ g∈gs,x=comp y g:=by
 constructor
 · rintro⟨g,h1,h2⟩;obtain⟨p,l⟩:=a.perms g h1;exact⟨g,h1,(fh p (by rw[b,l]) (by rw[c,l])).1 h2⟩
 · rintro⟨g,h1,h2⟩;obtain⟨p,l⟩:=a.perms g h1;exact⟨g,h1,(fh p (by rw[b,l]) (by rw[c,l])).2 h2⟩
theorem Zx.refl(b:isG gs){x:List Int}(a:x.length=(gs.getD 0 []).length):Zx gs x x:=by
 rw[Zx.iff b a a];refine⟨idn (gs.getD 0 []).length,b.closed _ (Z1 _ _),?_⟩;rw[<-a,ZU]
theorem Zx.symm(a:isG gs){x y:List Int}(f:x.length=(gs.getD 0 []).length)(d:y.length=(gs.getD 0 []).length)(h:Zx gs x y):Zx gs y x:=by
 rw[Zx.iff a f d]at h;rw[Zx.iff a d f];obtain⟨g,h1,rfl⟩:=h;obtain⟨p,l⟩:=a.perms g h1;obtain⟨m,n,j,_⟩:=jF p;refine⟨pw g (cX g-1),kT a h1 _,?_⟩;have c:=iA p (cX g-1);have b:=gV g (cX g-1);have e:comp g (pw g (cX g-1))=idn g.length:=by
  rw[<-j];obtain⟨k,i⟩:∃ k,cX g=k+1:=⟨cX g-1,by omega⟩;rw[i];rfl
 rw[ZH (by have:=(G3 c).2.1;rw[b]at this;exact this),e,l,<-d,ZU]
theorem Zx.trans(a:isG gs){x y z:List Int}(b:x.length=(gs.getD 0 []).length)(c:y.length=(gs.getD 0 []).length)(d:z.length=(gs.getD 0 []).length)(h:Zx gs x y)(k:Zx gs y z):Zx gs x z:=by
 rw[Zx.iff a b c]at h;rw[Zx.iff a c d]at k;rw[Zx.iff a b d];obtain⟨g,h1,rfl⟩:=h;obtain⟨e,h2,rfl⟩:=k;obtain⟨p,l⟩:=a.perms g h1;obtain⟨o,n⟩:=a.perms e h2;obtain⟨i,f,rfl⟩:=Z2 h1;obtain⟨j,m,rfl⟩:=Z2 h2;refine⟨_,a.comp m f,?_⟩;rw[ZH (by have:=(G3 p).2.1;rw[l,<-n]at this;exact this)]
theorem fX{gs:List (List Int)}{m:List Int}:∀ k,H3 (Y2 gs m k) m<=0/\∀ j,j<k->H3 (Y2 gs m k) (mvd (gs.getD j []) m)<=0
 | 0=>⟨by rw[Y2,ZN];omega,fun j b=>by omega⟩
 | k+1=>by
  obtain⟨h1,h2⟩:=fX (gs:=gs) (m:=m) k;unfold Y2;by_cases a:H3 (mvd (gs.getD k []) m) (Y2 gs m k)<0
  · rw[pP a];refine⟨ZG (by omega) h1,fun j b => ?_⟩;by_cases he:j=k
    · subst he;rw[ZN];omega
    · exact ZG (by omega) (h2 j (by omega))
  · rw[pC a];refine⟨h1,fun j b => ?_⟩;by_cases he:j=k
    · subst he;have:=SZ (mvd (gs.getD j []) m) (Y2 gs m j);omega
    · exact h2 j (by omega)
theorem fY{gs:List (List Int)}{m:List Int}:∀ k,k<=gs.length->Y2 gs m k=m\/Zx gs m (Y2 gs m k)
 | 0,_=>Or.inl rfl
 | k+1,hk=>by
  unfold Y2;split
  · exact Or.inr ⟨_,H6 (by omega),rfl⟩
  · exact fY k (by omega)
theorem aJ(a:isG gs){x:List Int}(b:x.length=(gs.getD 0 []).length):Zx gs x (Yg gs x):=by
 rcases fY (gs:=gs) (m:=x) gs.length (lrf _)with h|h
 · have:=Zx.refl a b;unfold Yg;rw[h];exact this
 · exact h
theorem jx(h:Zx gs x y):H3 (Yg gs x) y<=0:=by
 obtain⟨g,h1,rfl⟩:=h;obtain⟨i,a,rfl⟩:=Z2 h1;exact(fX gs.length).2 i a
theorem br(gs:List (List Int))(x:List Int):(Yg gs x).length=x.length:=ZZ gs x _
theorem kj(a:isG gs){x y:List Int}(c:x.length=(gs.getD 0 []).length)(b:y.length=(gs.getD 0 []).length):Zx gs x y<->Yg gs x=Yg gs y:=by
 have e:(Yg gs x).length=(gs.getD 0 []).length:=by rw[br,c]
 have d:(Yg gs y).length=(gs.getD 0 []).length:=by rw[br,b]
 constructor
 · intro h;have h1:=jx (Zx.trans a b c e (Zx.symm a c b h) (aJ a c));have h2:=jx (Zx.trans a c b d h (aJ a b));have:=SZ (Yg gs x) (Yg gs y);exact bT (by omega)
 · intro h;have h1:=aJ a c;have h2:=aJ a b;rw[h]at h1;exact Zx.trans a c d b h1 (Zx.symm a b d h2)
def dk(ks:List (List Int)):Nat->List (List Int)
 | 0=>[]
 | i+1=>if ks.getD i []∈dk ks i then dk ks i else dk ks i ++ [ks.getD i []]
structure GNs(gs:List (List Int))(n:Nat):Prop where
 g:isG gs
 p:Zs gs n
 l:(gs.getD 0 []).length=n
 n6:n<=6
theorem aK :x∈Zw gs m gs.length<->Zx gs m x:=by
 rw[aV];constructor
 · rintro⟨j,a,rfl⟩;exact⟨_,H6 a,rfl⟩
 · rintro⟨g,b,rfl⟩;obtain⟨j,a,rfl⟩:=Z2 b;exact⟨j,a,rfl⟩
theorem kU(L:List (List Int)):∃ e:List (List Int),e.Perm L/\ZK e 0 e.length:=by
 refine⟨L.mergeSort (fun a b=>decide (H3 a b<=0)),List.mergeSort_perm _ _,?_⟩
 have h:=List.pairwise_mergeSort (le:=fun a b=>decide (H3 a b<=0)) (fun a b c h1 h2=>by
  simp only[qX]at *
  exact ZG h1 h2) (fun a b=>by
  simp only[vG,qX]
  exact gM a b) L
 rw[rZ]at h;intro i j _ d f;have h1:=h i j (by omega) f d;simp only[qX]at h1;rw[gqq,gqq,oO (by omega),oO f];exact h1
theorem bX(L:List (List Int)):(srtL L).Perm L:=(tg (p:=fun a=>a.Perm L/\ZK a 0 a.length) (kU L)).1
section
variable {gs:List (List Int)} {n:Nat} {l:List Pl.Tm}
theorem aB(G:GNs gs n){m x:List Int}(a:m.length=n)(b:x.length=n):Zx gs m x<->Yg gs m=Yg gs x:=kj G.g (a.trans G.l.symm) (b.trans G.l.symm)
theorem bY(G:GNs gs n){m x:List Int}(f:m.length=n)(i:x.length=n)(h:Yg gs m=Yg gs x):(Zw gs m gs.length).length=(Zw gs x gs.length).length:=by
 refine(Pl.perm_mem (Z3 _) (Z3 _) fun y => ?_).length_eq;rw[aK,aK]
 have c:∀ {a b:List Int},a.length=n->b.length=n->Yg gs a=Yg gs b->Zx gs a y->Zx gs b y:=fun d k h o=>by
  obtain⟨g,l,e⟩:=o;have j:y.length=n:=by rw[<-e,H5];exact d
  rw[aB G k j,<-h];exact(aB G d j).1 ⟨g,l,e⟩
 exact⟨c f i h,c i f h.symm⟩
theorem jy(G:GNs gs n){x:List Int}(a:x.length=n):Yg gs (Yg gs x)=Yg gs x:=by
 have h:=aJ G.g (a.trans G.l.symm);exact((aB G a (by rw[br];exact a)).1 h).symm
theorem eO{c:Rat}{x:List Int}(a:x.length=n):∀ {ps:List (List Int)},ps.Nodup->(∀ y∈ps,y.length=n)->Pl.coef (ps.map fun e=>((AY e,c):Pl.Tm)) (AY x)=if x∈ps then c else 0
 | [],_,_=>rfl
 | y :: r,hn,hl=>by
  have ih:=eO (c:=c) a (ps:=r) (qL.1 hn).2 fun z b=>hl z (by simp[b]);show(if AY y=AY x then c else 0)+Pl.coef (r.map fun e=>((AY e,c):Pl.Tm)) (AY x)=_;rw[ih];by_cases h:y=x
  · subst h;rw[pP rfl,pC (qL.1 hn).1,pP (by simp),wH]
  · have h1:¬ AY y=AY x:=fun e=>h (TA ((hl y (by simp)).trans a.symm) e);rw[pC h1,Rat.zero_add];by_cases h2:x∈r
    · rw[pP h2,pP (by simp[h2])]
    · rw[pC h2,pC (by simp[h2];exact fun e=>h e.symm)]
def oN(gs:List (List Int))(m:List Int):Rat:=(((Zw gs m gs.length).length:Nat):Int)
open Classical in
theorem jz(G:GNs gs n){m x:List Int}{q:Rat}(a:m.length=n)(c:x.length=n):Pl.coef ((orbT gs n (AY m,q)).map Es) (AY x)=if Yg gs m=Yg gs x then q*(oN gs m)⁻¹ else 0:=by
 have h1:=Zn (l:=m);rw[a]at h1;unfold orbT;show Pl.coef (List.map Es (if q=0 then []else(srtL (Zw gs ((AY m).take n) gs.length)).map fun e=>(txt (q*((((Zw gs ((AY m).take n) gs.length).length:Nat):Int):Rat)⁻¹),e))) (AY x)=_;rw[h1];by_cases b:q=0
 · rw[pP b,b,Rat.zero_mul];split <;> rfl
 · rw[pC b,sn];have hp:=bX (Zw gs m gs.length);have h2:(srtL (Zw gs m gs.length)).map (Es ∘ fun e=>((txt (q*((((Zw gs m gs.length).length:Nat):Int):Rat)⁻¹),e):Tx))=(srtL (Zw gs m gs.length)).map fun e=>((AY e,q*(oN gs m)⁻¹):Pl.Tm):=by
    refine so fun e _ => ?_;show(AY e,(AD (txt _)).getD 0)=_;rw[Cx];rfl
   rw[h2,eO c ((hp.nodup_iff).2 (Z3 _)) fun y d=>by
    obtain⟨g,_,e⟩:=aK.1 (hp.mem_iff.1 d)
    rw[<-e,H5,a]]
   by_cases h3:Yg gs m=Yg gs x
   · rw[pP h3,pP (hp.mem_iff.2 (aK.2 ((aB G a c).2 h3)))]
   · rw[pC h3,pC fun h=>h3 ((aB G a c).1 (aK.1 (hp.mem_iff.1 h)))]
theorem iq(G:GNs gs n){x:List Int}(a:x.length=n):∀ {K:List Pl.Tm},(∀ p∈K,∃ m:List Int,m.length=n/\p.1=AY m/\Yg gs m=m)->(K.map (·.1)).Nodup->Pl.coef ((avT gs n K).map Es) (AY x)=Pl.getK 0 K (AY (Yg gs x))*(oN gs x)⁻¹
 | [],_,_=>by
  show(0:Rat)=0*_;rw[Rat.zero_mul]
 | (k,q) :: r,hk,hn=>by
  obtain⟨m,hm,hkm,hr⟩:=hk (k,q) (by simp);simp only at hkm;subst hkm;have c:=iq G a (K:=r) (fun p hp=>hk p (by simp[hp])) (qL.1 hn).2;have b:avT gs n ((AY m,q) :: r)=orbT gs n (AY m,q) ++ avT gs n r:=by simp[avT]
  rw[b,qw,Pl.coef_app,c,jz G hm a,Pl.getK_cons];by_cases h:Yg gs m=Yg gs x
  · have h2:AY (Yg gs x)=AY m:=by rw[<-h,hr]
    have h3:(AY m) ∉ r.map (·.1):=(qL.1 hn).1;have h4:oN gs m=oN gs x:=by unfold oN;rw[bY G hm a h]
    rw[pP h,pP h2,h2,ip h3,Rat.zero_mul,wH,h4]
  · have h2:¬ AY (Yg gs x)=AY m:=fun e=>h (by rw[hr];exact(TA (by rw[br];omega) e).symm);rw[pC h,pC h2,Rat.zero_add]
theorem fZ(k:List Int)(v:Rat)(c:List Int):∀ L:List Pl.Tm,Pl.getK 0 (Pl.putK L k v) c=if c=k then v else Pl.getK 0 L c
 | []=>by
  rw[Pl.putK_nil,Pl.getK_cons]
 | (a,b) :: r=>by
  rw[Pl.putK_cons];by_cases h:k=a
  · subst h;rw[pP rfl,Pl.getK_cons,Pl.getK_cons];by_cases h2:c=k
    · rw[pP h2,pP h2]
    · rw[pC h2,pC h2,pC h2]
  · rw[pC h,Pl.getK_cons,fZ k v c r,Pl.getK_cons];by_cases h2:c=a
    · rw[pP h2,pP h2,pC (fun e=>h (e.symm.trans h2))]
    · rw[pC h2,pC h2]
theorem bZ(gs:List (List Int))(n:Nat)(k:List Int)(l:List Pl.Tm):Pl.getK 0 (sumK gs n l) k=Pl.lin (fun e=>if rk gs n e=k then 1 else 0) l:=by
 have b:∀ (l a:List Pl.Tm),Pl.getK 0 (l.foldl (fun a t=>Pl.putK a (rk gs n t.1) (Pl.getK 0 a (rk gs n t.1)+t.2)) a) k=Pl.getK 0 a k+Pl.lin (fun e=>if rk gs n e=k then 1 else 0) l:=by
  intro l
  induction l with
  | nil=>intro a;exact(wH _).symm
  | cons t r ih =>
   intro a;rw[vf,ih,fZ];show _=_+(t.2*(if rk gs n t.1=k then 1 else 0)+_);by_cases h:k=rk gs n t.1
   · rw[pP h,pP h.symm,h,wU,Rat.add_assoc]
   · rw[pC h,pC fun e=>h e.symm,Rat.mul_zero,Rat.zero_add]
 have h:=b l [];rw[Pl.getK_nil,Rat.zero_add]at h;exact h
end
noncomputable def avP (gs:List (List Int)) (n:Nat) (l:List Pl.Tm):List Pl.Tm:=(avT gs n (sumK gs n l)).map Es
def gS(gs:List (List Int))(n:Nat)(F:List Int->Rat):Prop:=∀ x:List Int,x.length=n->∀ a∈gs,F (AY (mvd a x))=F (AY x)
section
variable {gs:List (List Int)} {n:Nat} {l:List Pl.Tm} {F:List Int->Rat}
theorem f4{c d:Rat}:∀ {ps:List (List Int)},(∀ e∈ps,F (AY e)=d)->Pl.lin F (ps.map fun e=>((AY e,c):Pl.Tm))=c*d*(((ps.length:Nat):Int):Rat)
 | [],_=>(Rat.mul_zero _).symm
 | y :: r,h=>by
  have ih:=f4 (c:=c) (d:=d) (ps:=r) fun e he=>h e (by simp[he]);show c*F (AY y)+Pl.lin F (r.map fun e=>((AY e,c):Pl.Tm))=_;rw[ih,h y (by simp),qk];rw[show(((r.length+1:Nat):Int):Rat)=(((r.length:Nat):Int):Rat)+1 by rw[qe,vU];rfl];rw[Rat.mul_add,wU,Rat.add_comm]
theorem lr(G:GNs gs n)(m:List Int):oN gs m≠0:=by
 have h:0<(Zw gs m gs.length).length:=rj ((aV gs.length _).2 ⟨0,G.g.pos,rfl⟩);unfold oN;intro h0;have h1:(((Zw gs m gs.length).length:Nat):Int)=0:=by
  have h2:=q9 Rat.num h0;simpa using h2
 omega
theorem kl(G:GNs gs n)(hF:gS gs n F){m:List Int}{q:Rat}(b:m.length=n):Pl.lin F ((orbT gs n (AY m,q)).map Es)=q*F (AY m):=by
 have h1:=Zn (l:=m);rw[b]at h1;unfold orbT;show Pl.lin F (List.map Es (if q=0 then []else(srtL (Zw gs ((AY m).take n) gs.length)).map fun e=>(txt (q*((((Zw gs ((AY m).take n) gs.length).length:Nat):Int):Rat)⁻¹),e)))=_;rw[h1];by_cases a:q=0
 · rw[pP a,a,Rat.zero_mul];rfl
 · rw[pC a,sn];have hp:=bX (Zw gs m gs.length);have h2:(srtL (Zw gs m gs.length)).map (Es ∘ fun e=>((txt (q*((((Zw gs m gs.length).length:Nat):Int):Rat)⁻¹),e):Tx))=(srtL (Zw gs m gs.length)).map fun e=>((AY e,q*(oN gs m)⁻¹):Pl.Tm):=by
    refine so fun e _ => ?_;show(AY e,(AD (txt _)).getD 0)=_;rw[Cx];rfl
   rw[h2,f4 (d:=F (AY m)) fun e he=>by
    obtain⟨g,f,c⟩:=aK.1 (hp.mem_iff.1 he);rw[<-c]
    exact hF m b g f,hp.length_eq]
   show q*(oN gs m)⁻¹*F (AY m)*oN gs m=_;rw[vT,Rat.mul_comm (F (AY m)),<-vT,vT q,Rat.inv_mul_cancel _ (lr G m),wU]
theorem ir(G:GNs gs n)(hF:gS gs n F):∀ {K:List Pl.Tm},(∀ p∈K,∃ m:List Int,m.length=n/\p.1=AY m)->Pl.lin F ((avT gs n K).map Es)=Pl.lin F K
 | [],_=>rfl
 | (k,q) :: r,hk=>by
  obtain⟨m,hm,hkm⟩:=hk (k,q) (by simp);simp only at hkm;subst hkm;have a:avT gs n ((AY m,q) :: r)=orbT gs n (AY m,q) ++ avT gs n r:=by simp[avT]
  rw[a,qw,Pl.lin_app,ir G hF (fun p hp=>hk p (by simp[hp])),kl G hF hm];rfl
theorem iw(k:List Int)(v:Rat):∀ L:List Pl.Tm,Pl.lin F (Pl.putK L k (Pl.getK 0 L k+v))=Pl.lin F L+v*F k
 | []=>by
  rw[Pl.putK_nil,Pl.getK_nil,Rat.zero_add];show v*F k+0=0+v*F k;rw[wH,Rat.zero_add]
 | (a,b) :: r=>by
  rw[Pl.putK_cons,Pl.getK_cons];by_cases h:k=a
  · subst h;rw[pP rfl,pP rfl];show(b+v)*F k+Pl.lin F r=b*F k+Pl.lin F r+v*F k;rw[Rat.add_mul,Rat.add_assoc,Rat.add_comm (v*F k),<-Rat.add_assoc]
  · rw[pC h,pC h];show b*F a+Pl.lin F (Pl.putK r k (Pl.getK 0 r k+v))=b*F a+Pl.lin F r+v*F k;rw[iw k v r,Rat.add_assoc]
theorem lU(G:GNs gs n)(hF:gS gs n F){e:List Int}(he:InV n e):F (rk gs n e)=F e:=by
 have a:(e.take n).length=n:=he.tk G.n6;obtain⟨g,b,h⟩:=aJ G.g (a.trans G.l.symm);unfold rk;rw[<-h,hF _ a g b,he.2.2]
theorem jA(G:GNs gs n)(hF:gS gs n F)(b:∀ t∈l,InV n t.1):Pl.lin F (sumK gs n l)=Pl.lin F l:=by
 have c:∀ (l a:List Pl.Tm),(∀ t∈l,InV n t.1)->Pl.lin F (l.foldl (fun a t=>Pl.putK a (rk gs n t.1) (Pl.getK 0 a (rk gs n t.1)+t.2)) a)=Pl.lin F a+Pl.lin F l:=by
  intro l
  induction l with
  | nil=>intro a _;exact(wH _).symm
  | cons t r ih =>
   intro a b;rw[vf,ih _ fun s d=>b s (by simp[d]),iw,lU G hF (b t (by simp)),Rat.add_assoc];rfl
 have h:=c l [] b;rw[show Pl.lin F ([]:List Pl.Tm)=0 from rfl,Rat.zero_add]at h;exact h
theorem km(G:GNs gs n)(hF:gS gs n F)(a:∀ t∈l,InV n t.1):Pl.lin F (avP gs n l)=Pl.lin F l:=by
 unfold avP;rw[ir G hF (eN G.n6 fun t b=>(a t b).1),jA G hF a]
end
end Go.Proofs.YtlbmnokpiilfpaaGreatDoor
namespace Go.Proofs.YtlbmnokpiilfpaaGreatDoor
open Go Go.RowKit Go.Sort
variable {ps:List (List Int)} {cs:List Value} {base c g n:Nat} {a:Option Addr} {row:Option Nat} {w w':World}
def SlV(w:World)(g:Nat):Type:={ v:(Option Addr×Nat×Nat)×List Int // SlI w v.1.1 v.1.2.1 v.1.2.2 v.2/\blk v.1.1≠some g }
def SlV.enc(v:SlV w g):Value := .slice v.1.1.1 v.1.1.2.1 v.1.1.2.2
def SlV.xs(v:SlV w g):List Int:=v.1.2
instance (w:World) (g:Nat):Inhabited (SlV w g):=⟨⟨((none,0,0),[]),Sl.nil w,by simp[blk]⟩⟩
theorem Sl.kept(h:Sl w a n c cs)(j:w.grownBy w' row)(d:blk a=none\/blk a≠row):Sl w' a n c cs:=by
 refine⟨h.len,h.cap,h.max,fun h0 => ?_⟩;obtain⟨b,e,rfl,g⟩:=h.rd h0;refine⟨b,e,rfl,fun i k => ?_⟩;have h1:=g i k;have f:b<w.heap.size:=qV w ⟨b,e+i,none⟩ h1;rcases d with d|d
 · simp[blk]at d
 · rw[sc (w:=w) (j.block b f d),h1]
theorem ZV{b:Type}[Inhabited b](enc:b->Value)(w:World)(g m:Nat)(dk:Array b)(os:Array Obj):w.grownBy (sortWorld enc w g 0 m dk os) (some g):=by
 refine⟨rfl,rfl,rfl,by unfold sortWorld;simp,fun k c a => ?_⟩;unfold sortWorld;rw[heap_grow_old _ _ (by simpa using c)];have:g≠k:=by rintro rfl;exact a rfl
 simp[putRow,mapBlock,rP,this]
theorem eE{l:Type}[Inhabited l](enc:l->Value){w:World}{base g n c m:Nat}{e:TypeId}{a:List Value}{dk:Array l}(os:Array Obj)(h:Own w base e (some ⟨g,0,none⟩) n c a)(f:dk.size=n) :
 Own (sortWorld enc w g 0 m dk os) base e (some ⟨g,0,none⟩) n c (dk.toList.map enc):=by
 rcases h.2 with⟨d,_⟩|⟨s,o,b,d,q,p,h1,h2,h3,h4⟩
 · simp at d
 simp only[pI,pz,qq,qO,tP]at d;obtain⟨rfl,rfl⟩:=d;have k:g<w.heap.size:=by
  rcases qx g w.heap.size with h|h
  · exact h
  · simp[rl h]at p
 refine⟨by simp[f],Or.inr ⟨g,c,putCells enc 0 dk b,rfl,q,?_,h1,h2,by simp[putCells,h3],?_⟩⟩
 · unfold sortWorld;rw[heap_grow_old _ _ (by simpa using k)];simp[putRow,mapBlock,rP,p,onCells]
 · apply rJ
   · simp[putCells,h3,f];omega
   · intro i v r;have t:i<n:=by simpa[f]using r
     have j:i<dk.size:=by omega
     simp only[List.getElem_take,Array.getElem_toList,putCells,Array.getElem_mapIdx,List.getElem_map];rw[pP (by omega)];simp[j]
theorem iS(r:Srt w base g n c ps):∃ d:Array (SlV w g),d.size=n/\(∀ i,i<n->w.cell? ⟨g,i,none⟩=some d[i]!.enc/\w.frozen? ⟨g,i,none⟩=false)/\d.toList.map SlV.xs=ps:=by
 obtain⟨s,e,j,q⟩:=r;have k:∀ i,∃ v:SlV w g,i<n->w.cell? ⟨g,i,none⟩=some v.enc/\v.xs=ps.getD i []:=by
  intro i;by_cases b:i<n
  · obtain⟨a,m,o,p,h1⟩:=q i (by omega);refine⟨⟨((a,m,o),ps.getD i []),h1.sl,?_⟩,fun _=>⟨?_,rfl⟩⟩
    · have:=Xg h1 j (by decide);rcases this with h|h
      · simp only;rw[h];simp
      · exact h
    · rw[j.cellAt b,p];rfl
  · exact⟨default,fun h=>absurd h b⟩
 obtain⟨f,l⟩:=Classical.axiomOfChoice k;refine⟨((List.range n).map f).toArray,by simp,fun i b => ?_,?_⟩
 · have:(((List.range n).map f).toArray)[i]! = f i:=by simp[b]
   rw[this];exact⟨(l i b).1,j.frozenAt i⟩
 · apply rJ
   · simp[s]
   · intro i h1 h2;have b:i<n:=by simpa using h1
     simp only[List.getElem_map,List.getElem_range];rw[(l i b).2];simp[h2]
def cfV(x y:SlV w g):Int:=H3 x.xs y.xs
theorem jB{m:Nat}{b:Array (SlV w g)}{os:Array Obj}(x:Srt w base g n c ps)(o:b.size=n)(e:∀ v∈b.toList,∃ i,i<n/\w.cell? ⟨g,i,none⟩=some v.enc/\v.xs=ps.getD i []) :
 Srt (sortWorld SlV.enc w g 0 m b os) base g n c (b.toList.map SlV.xs):=by
 obtain⟨z,f,l,t⟩:=x;refine⟨by simp[o],b.toList.map SlV.enc,eE _ os l o,fun i p => ?_⟩;simp only[pH]at p;have d:i<b.toList.length:=by simpa using p
 obtain⟨j,y,h1,h2⟩:=e b.toList[i] (qG d);obtain⟨a,k,q,r,h3⟩:=t j (by omega);refine⟨a,k,q,?_,?_⟩
 · rw[l.cellAt y,r]at h1;simp only[pz]at h1;rw[h1,gqq,sU,oO d];rfl
 · have s:(b.toList.map SlV.xs).getD i []=ps.getD j []:=by
    rw[<-h2,gqq,sU,oO d];rfl
   rw[s];exact Own.kept h3 (ZV _ _ _ _ _ _) (Xg h3 l (by decide))
end Go.Proofs.YtlbmnokpiilfpaaGreatDoor
namespace Go.Proofs.YtlbmnokpiilfpaaGreatDoor
open Go.Shelf
def iT:Go.Shelf.Ren:=⟨fun | 6=>182 | 15=>206 | 14=>229 | 28=>252 | 29=>253 | 20=>273 | 21=>274 | 22=>275 | 23=>276 | 24=>277 | 25=>278 | 26=>279 | 27=>280 | 46=>307 | 47=>295 | 48=>296 | 49=>308 | 50=>309 | 57=>323 | n=>n,fun | 22=>54 | 24=>24 | 25=>182 | 3=>3 | 39=>222 | 0=>0 | 53=>241 | 55=>238 | 4=>4 | 46=>277 | 45=>276 | 50=>204 | 5=>5 | 9=>9 | 66=>309 | 70=>313 | 76=>333 | 77=>334 | n=>n,fun | n=>n⟩
theorem lF:Go.Proofs.SlLaysF.n6 Tryz.prog iT:={
 mixed:=by kernel_rfl
 f6:=⟨Tryz.f182.name,by decide,Tryz.func182.trans (q9 some (by kernel_rfl))⟩
 f14:=⟨Tryz.f229.name,by decide,Tryz.func229.trans (q9 some (by kernel_rfl))⟩
 f15:=Tryz.func206.trans (q9 some (by kernel_rfl))
 f20:=⟨Tryz.f273.name,by decide,Tryz.func273.trans (q9 some (by kernel_rfl))⟩
 f21:=⟨Tryz.f274.name,by decide,Tryz.func274.trans (q9 some (by kernel_rfl))⟩
 f22:=⟨Tryz.f275.name,by decide,Tryz.func275.trans (q9 some (by kernel_rfl))⟩
 f23:=⟨Tryz.f276.name,by decide,Tryz.func276.trans (q9 some (by kernel_rfl))⟩
 f24:=⟨Tryz.f277.name,by decide,Tryz.func277.trans (q9 some (by kernel_rfl))⟩
 f25:=⟨Tryz.f278.name,by decide,Tryz.func278.trans (q9 some (by kernel_rfl))⟩
 f26:=⟨Tryz.f279.name,by decide,Tryz.func279.trans (q9 some (by kernel_rfl))⟩
 f27:=⟨Tryz.f280.name,by decide,Tryz.func280.trans (q9 some (by kernel_rfl))⟩
 f28:=Tryz.func252.trans (q9 some (by kernel_rfl))
 f29:=Tryz.func253.trans (q9 some (by kernel_rfl))
 f46:=⟨Tryz.f307.name,by decide,Tryz.func307.trans (q9 some (by kernel_rfl))⟩
 f47:=Tryz.func295.trans (q9 some (by kernel_rfl))
 f48:=Tryz.func296.trans (q9 some (by kernel_rfl))
 f49:=⟨Tryz.f308.name,by decide,Tryz.func308.trans (q9 some (by kernel_rfl))⟩
 f50:=⟨Tryz.f309.name,by decide,Tryz.func309.trans (q9 some (by kernel_rfl))⟩
 f57:=⟨Tryz.f323.name,by decide,Tryz.func323.trans (q9 some (by kernel_rfl))⟩
 t0:=Tryz.underlying0
 a0:=Tryz.isAgg0
 z0:=Tryz.sizeOf0
 v0:=Tryz.zeroValue0
 t3:=Tryz.underlying3
 a3:=Tryz.isAgg3
 z3:=Tryz.sizeOf3
 v3:=Tryz.zeroValue3
 t4:=Tryz.underlying4
 a4:=Tryz.isAgg4
 z4:=Tryz.sizeOf4
 v4:=Tryz.zeroValue4
 t5:=Tryz.underlying5
 a5:=Tryz.isAgg5
 z5:=Tryz.sizeOf5
 v5:=Tryz.zeroValue5
 t9:=Tryz.underlying9
 a9:=Tryz.isAgg9
 z9:=Tryz.sizeOf9
 v9:=Tryz.zeroValue9
 t22:=Tryz.underlying54
 a22:=Tryz.isAgg54
 z22:=Tryz.sizeOf54
 v22:=Tryz.zeroValue54
 a24:=Tryz.isAgg24
 z24:=Tryz.sizeOf24
 t25:=Tryz.underlying182
 a25:=Tryz.isAgg182
 z25:=Tryz.sizeOf182
 v25:=Tryz.zeroValue182
 t39:=Tryz.underlying222
 a39:=Tryz.isAgg222
 z39:=Tryz.sizeOf222
 v39:=Tryz.zeroValue222
 t45:=Tryz.underlying276
 a45:=Tryz.isAgg276
 z45:=Tryz.sizeOf276
 v45:=Tryz.zeroValue276
 t46:=Tryz.underlying277
 a46:=Tryz.isAgg277
 z46:=Tryz.sizeOf277
 v46:=Tryz.zeroValue277
 t50:=Tryz.underlying204
 a50:=Tryz.isAgg204
 z50:=Tryz.sizeOf204
 v50:=Tryz.zeroValue204
 t53:=Tryz.underlying241
 a53:=Tryz.isAgg241
 z53:=Tryz.sizeOf241
 v53:=Tryz.zeroValue241
 t55:=Tryz.underlying238
 a55:=Tryz.isAgg238
 z55:=Tryz.sizeOf238
 v55:=Tryz.zeroValue238
 t66:=Tryz.underlying309
 a66:=Tryz.isAgg309
 z66:=Tryz.sizeOf309
 v66:=Tryz.zeroValue309
 t70:=Tryz.underlying313
 a70:=Tryz.isAgg313
 z70:=Tryz.sizeOf313
 v70:=Tryz.zeroValue313
 t76:=Tryz.underlying333
 a76:=Tryz.isAgg333
 z76:=Tryz.sizeOf333
 v76:=Tryz.zeroValue333
 t77:=Tryz.underlying334
 a77:=Tryz.isAgg334
 z77:=Tryz.sizeOf334
 v77:=Tryz.zeroValue334 }
end Go.Proofs.YtlbmnokpiilfpaaGreatDoor
namespace Go.Proofs.YtlbmnokpiilfpaaGreatDoor
open Tryz Go Go.RowKit Go.Sort
variable {ps:List (List Int)} {g:Nat} {w:World}
theorem f8{x y:SlV w g}(h:ltOf cfV x y=true):H3 x.xs y.xs<0:=rL h
theorem cG{x y:SlV w g}(h:ltOf cfV x y=false):¬ H3 x.xs y.xs<0:=of_decide_eq_false h
theorem kV{x y:SlV w g}(h:H3 x.xs y.xs<0):ltOf cfV x y=true:=qC h
theorem f9{x y:SlV w g}(h:¬ H3 x.xs y.xs<0):ltOf cfV x y=false:=pN h
theorem lV :SWO (ltOf (cfV (w:=w) (g:=g))) where
 irrefl x:=f9 (by rw[ZN];omega)
 trans x y z h1 h2:=kV (ZP (f8 h1) (f8 h2))
 ntrans x y z h1 h2:=by
  have d:=cG h1;have e:=cG h2;have h3:=SZ x.xs y.xs;have h4:=SZ y.xs z.xs;have h5:=SZ x.xs z.xs;have h6:=ZG (a:=z.xs) (b:=y.xs) (c:=x.xs) (by omega) (by omega);exact f9 (by omega)
theorem fi{base n c:Nat}(A:Srt w base g n c ps)(T:n<=1000) :
 Calls prog 182 #[.slice (some ⟨g,0,none⟩) n c,.func (.func 175) #[] #[]] w (dm w base g n c ps 0 n):=by
 obtain⟨d,G,a,z⟩:=iS A;have s:g<w.heap.size:=by
  obtain⟨_,C,M,_⟩:=A;exact(M.lt (k:=g) rfl).2
 have K:∀ l w,(callFunc 175 l).run prog w = .ok (.enter 175 l) w:=enters_of func175 (by kernel_rfl) rfl;have r:CmpReads prog 175 #[] (SlV.enc (w:=w) (g:=g)) cfV g 0 d.size w:=by
  intro m B dk _ x y;have t:=ZV SlV.enc w g m dk B;have P:SlI (sortWorld SlV.enc w g 0 m dk B) x.1.1.1 x.1.1.2.1 x.1.1.2.2 x.xs:=Sl.kept x.2.1 t (Or.inr x.2.2);have Q:SlI (sortWorld SlV.enc w g 0 m dk B) y.1.1.1 y.1.1.2.1 y.1.1.2.2 y.xs:=Sl.kept y.2.1 t (Or.inr y.2.2);exact Zt P Q
 have L:Holds SlV.enc w g 0 d:=by
  intro j S;rw[qA];exact a j (by omega)
 have h:=Any.slices_SortFunc lF SlV.enc (fun _=>rfl) cfV lV 175 #[] g 0 c d w K r.lays L s (by omega);rw[G]at h;refine h.mono ?_;rintro e U ⟨rfl,b,q,B,hp,F,rfl⟩;obtain⟨R,_,H⟩:=hp;have D:b.size=n:=by rw[R,G]
 have f:b.toList.Perm d.toList:=by
  rw[p7 (by omega),p7 (by omega)]at H;exact H
 refine⟨rfl,b.toList.map SlV.xs,jB A D ?_,⟨?_,?_⟩,?_,ZV _ _ _ _ _ _⟩
 · intro v O;have:=f.mem_iff.1 O;obtain⟨i,o,e⟩:=r9.1 this;have p:i<d.size:=by simpa using o
   have N:d[i]! = v:=by
    rw[<-e];simp[p]
   refine⟨i,by omega,by rw[<-N];exact(a i (by omega)).1,?_⟩;rw[<-z,<-e,gqq,sU,oO o];rfl
 · rw[<-z];exact f.map _
 · intro i o;rcases o with o|o
   · omega
   · rw[gqq,gqq,pV (by simp;omega),pV (by rw[A.len];exact o)]
 · intro i j h0 h1 h2;have:=F i j h0 h1 h2;have p:i<b.size:=by omega
   have E:j<b.size:=by omega
   have:=cG this;have I:(b.toList.map SlV.xs).getD i []=b[i]!.xs:=by simp[p]
   have J:(b.toList.map SlV.xs).getD j []=b[j]!.xs:=by simp[E]
   rw[I,J];have:=SZ b[i]!.xs b[j]!.xs;omega
end Go.Proofs.YtlbmnokpiilfpaaGreatDoor
namespace Go.Proofs.YtlbmnokpiilfpaaGreatDoor
open Tryz Go Go.RowKit
variable {L gs:List (List Int)} {q:List Int} {n r:Nat} {w:World}
theorem eF(hM:Br w r (Zo L))(hn:n<=6)(hL:∀ x∈L,x.length=n)(h12:L.length<=1000)(h1:0<L.length) :
 Calls prog 115 #[.int .i64 n,.map (some r)] w (fun e w'=>∃ ps,jq w ps e w'/\ps.Perm L/\ZK ps 0 L.length):=by
 have HL:=lz hL;have ag:(Zo L).length=L.length:=by simp[Zo]
 have F:=lz ag;clear hL ag
 go_enter func115,ntmps115
 go_wp2_with(refine JL rfl rfl ZE rfl hM ?_;intro w1 d R ak)
 have N:AN w1 w.heap.size r L.length []:=by rw[<-F.out];exact d
 go_frame
 go_loopw[5] (fun v wr=>SoR w L r w.heap.size v wr) (fun _ wr=>L.length-Z6 wr w.heap.size)
 case atStart=>exact⟨[],none,0,0,[],rfl,rfl,R,lrf _,hM.ext R,N,by simp,by simp,Own.nil _ _ _,fun i hi=>by simp at hi⟩
 case round =>
  clear d N R ak;obtain⟨c,al,nl,cl,Q,rfl,ai,hE,b8,z,d,E,D,hO,hQ⟩:=hrel;have o:=lz ai;clear ai;rw[<-F.out]at d;by_cases A:∀ i,i<(Zo L).length->i∈c
  · obtain⟨C,l⟩:=fP E D (fun i hi=>A i (by rw[F.out];exact hi));have ao:0<nl:=by rw[o.out,l];exact h1
    obtain⟨g,rfl,bd,q⟩:=hO.place ao;have hS:Srt wr w.heap.size g nl cl (c.map (fun i=>L.getD i [])):=⟨by rw[pH];exact o.out.symm,Q,hO,hQ⟩;have B:nl<=1000:=by rw[o.out,l];exact h12
    have av:=lz l;have ar:=lz C;clear l C
    go_wp2_with(refine FY rfl rfl rfl z d (fun _ => ?_) (fun i _ _ _ h1 h2 _ _ _=>absurd (A i h1) h2))
    refine(fi hS B).mono ?_;rintro e X ⟨rfl,ps,b5,ba,ap,b7⟩;go_wp2;go_ret;obtain⟨b9,H,I,J⟩:=b5;refine⟨ps,⟨_,_,_,H,rfl,hE.grown b7 (by intro k t;simp at t;omega),b9.symm,I,J⟩,ba.1.trans ar.out,?_⟩;rw[<-av.out,<-o.out];exact ap
  · have hz:=hE.size;have ax:Hid (Z6 wr w.heap.size=c.length):=aI d
    go_upto_region 4 with(refine FY rfl rfl rfl z d (fun h=>absurd h A) ?_;intro i k v X bf ad ah U q)
    obtain⟨W,t⟩:=fQ ah;have K:(L.getD i []).length=n:=HL.out _ (by simp[W]);have V:=z.kept q (cM z d);have I:=hO.kept q (Zv hO d);have J:=hQ.kept q (fun _ _ _ _ h=>Zv h d);have a2:Ext w X:=hE.grown q (by intro k t;simp at t;omega);have hA:=Arr.new X 132 G2;have Z:Agg prog 132 (k.map (Value.int .i64)).length:=by
     rw[pH,t,D0 (by rw[K];exact hn)];exact ZF
    have aj:G2.length=(k.map (Value.int .i64)).length:=by
     rw[pH,t,D0 (by rw[K];exact hn)];rfl
    have G:=lz aj;have HK:=lz t;have aq:=lz K;clear aj t K z hO hQ hE d q
    go_upto_region 5 with(first
     | (refine JM rfl rfl rfl V U ah ?_)
     | (refine Aa rfl rfl rfl rfl rfl Z hA G.out (Cc _) ?_;intro w3 a0 ac))
    go_frame
    have f:Ext X w3:=((Ext.refl X).alloc (.cells G2.toArray 132)).grown ac (by intro k t;simp at t;omega);have O:SlI w3 (some ⟨X.heap.size,0,none⟩) n 6 (L.getD i []):=by
     have h1:=a0.sl (k:=n) (by rw[<-G.out];exact hn) (by rw[<-G.out];unfold maxLen;decide);rw[<-G.out,HK.out,<-pg]at h1;have h2:=Ie (L.getD i []);rw[aq.out]at h2;rw[h2]at h1;exact h1
    have S:=a2.trans f;have a6:=V.ext f;have a3:=U.ext f;have a9:=I.ext f;have ab:=J.ext f;have B:nl<=1000:=by
     rw[o.out];have:=ZO c (List.range L.length) E (fun x M=>by rw[rg];exact D x M);simp at this;omega
    have bg:=fun wx:World=>ZQ (P:=prog) (w:=wx) (g:=X.heap.size) Q3.arr Pt hn;clear a0 ac f hA V U I J a2 Z
    go_wp2_with fail
    refine(aH O (by omega) (by simp)).mono ?_;rintro e w4 ⟨a4,n4,c4,rfl,p,aa⟩;have b1:=a9.ext p;have b3:=ab.ext p;have b0:=a6.ext p;have a5:=a3.ext p;have T:=S.trans p;have a1:Za w4 w.heap.size a4 n4 c4 (L.getD i []):=Own.mono aa S.size;clear a9 ab a6 a3 S p aa O;have hA6:Ext w4 (w4.alloc (.cells #[.slice a4 n4 c4] 24)):=(Ext.refl w4).alloc _;have b6:=(AB w4 w.heap.size 24 #[.slice a4 n4 c4] 1 rfl T.size (by omega)).sl;have m:=b1.ext hA6
    go_wp2_with(refine B5 rfl rfl underlying54 Q5 rfl rfl m rfl b6 (by simp[Value.oneCell']) (by unfold maxLen;omega) (by omega) (by have:=T.size;simp;omega) ?_;intro a7 c7 w7 b2 s bb)
    go_roundw
    case rel =>
     have aA:=T.trans hA6;have y:=a5.ext hA6;have a8:=b0.ext hA6;have M:∀ k,blk al=some k->w.heap.size<=k:=fun k t=>(m.lt t).1;refine⟨c ++ [i],a7,nl+1,c7,_,rfl,by rw[o.out];simp,aA.grown s M,b8,a8.kept s ?_,?_,?_,?_,b2,?_⟩
     · rcases ZM m a8 with h|h
       · rw[h];simp
       · exact fun h2=>h h2.symm
     · have:AN w7 w.heap.size r (Zo L).length (c ++ [i]):=y.kept s (by
        rcases Zv m y with h|h
        · rw[h];simp
        · exact fun h2=>h h2.symm)
       rw[<-F.out];exact this
     · rw[th];refine⟨E,by simp,?_⟩;intro a ha b hb;simp only[pF]at hb;subst hb;rintro rfl;exact ad ha
     · intro j Y;rcases qd.1 Y with Y|Y
       · exact D j Y
       · simp only[pF]at Y;subst Y;exact W
     · have b4:=(b3.ext hA6).kept s (fun _ _ _ _ h=>Xg h m (by decide));have ay:Za w7 w.heap.size a4 n4 c4 (L.getD i []):=Own.kept (Own.ext a1 hA6) s (Xg (Own.ext a1 hA6) m (by decide));rw[qw];exact b4.snoc (by rw[m.len,o.out];simp) ay
    case measure =>
     have y:=a5.ext hA6;have e1:Z6 w7 w.heap.size=c.length+1:=by
      have:AN w7 w.heap.size r (Zo L).length (c ++ [i]):=y.kept s (by
       rcases Zv m y with h|h
       · rw[h];simp
       · exact fun h2=>h h2.symm)
      rw[aI this];simp
     have e2:=ax.out;have:c.length<=L.length:=by
      have:=ZO c (List.range L.length) E (fun x M=>by rw[rg];exact D x M);simpa using this
     have h3:c.length<L.length:=by
      have:=ZO (i :: c) (List.range L.length) (qL.2 ⟨ad,E⟩) (fun x M=>by
       rw[rg];rcases qj.1 M with rfl|M
       · exact W
       · exact D x M)
      simp at this;omega
     rw[e1,e2];omega
theorem jC(h:∀ x∈q,0<=x/\x<n):comp (idn n) q=q:=by
 unfold comp
 conv=>rhs;rw[<-List.map_id q]
 refine so fun x a => ?_;have:=h x a;rw[cj (by omega)];simp;omega
theorem kW:∀ n,n<5->(gen n (idn n)).Nodup/\(gen n (idn n)).length∣24/\∀ a∈gen n (idn n),G1 a=true/\a.length=n:=by decide +kernel
theorem iy{gs:List (List Int)}(h0:0<gs.length)(f:List Int->List Int->List Int):∀ (k:Nat) (S:List (List Int)),S.length<=k->S.Nodup->(∀ x∈S,(gs.map (f x)).Nodup)->(∀ x∈S,∀ g∈gs,f x g∈S)->(∀ x∈S,∀ y∈S,∀ g∈gs,f y g∈gs.map (f x)->y∈gs.map (f x))->gs.length∣S.length
 | _,[],_,_,_,_,_=>Nat.dvd_zero _
 | 0,_ :: _,h,_,_,_,_=>by simp at h
 | k+1,x :: r,hk,hn,h1,h2,h3=>by
  obtain⟨S,hS⟩:∃ S,x :: r=S:=⟨_,rfl⟩;have d:x∈S:=by rw[<-hS];simp
  rw[hS]at hk hn h1 h2 h3 |-;have i:(S.filter fun y=>decide (y∈gs.map (f x))).length=gs.length:=by
   have h:=Pl.perm_mem (hn.filter _) (h1 x d) (l:=S.filter fun y=>decide (y∈gs.map (f x))) fun y=>by
    rw[sK];constructor
    · rintro⟨_,h⟩;exact rL h
    · intro h;obtain⟨g,b,rfl⟩:=pU.1 h;exact⟨h2 x d g b,qC h⟩
   rw[h.length_eq,pH]
  have e:=List.length_eq_countP_add_countP (fun y=>decide (y∈gs.map (f x))) (l:=S);rw[List.countP_eq_length_filter,List.countP_eq_length_filter]at e;rw[e,i];refine Nat.dvd_add (Nat.dvd_refl _) (iy h0 f k _ (by omega) (hn.filter _) (fun y a=>h1 y (sK.1 a).1) (fun y a g b => ?_) fun y a z j=>h3 y (sK.1 a).1 z (sK.1 j).1);have c:=sK.1 a;refine sK.2 ⟨h2 y c.1 g b,?_⟩;have h5:=rL c.2;refine qC fun h=>h5 ?_;have h6:=rL h;exact qC (h3 x d y c.1 g b h6)
theorem kn(G:GNs gs n)(h4:n<=4):gs.length∣24:=by
 obtain⟨B,C,i⟩:=kW n (by omega);have t:=G.l;refine tT (iy G.g.pos (fun y g=>comp y g) _ (gen n (idn n)) (lrf _) B (fun x c => ?_) (fun x c g j => ?_) fun x c y D g j h => ?_) C
 · rw[List.nodup_iff_pairwise_ne,sC];obtain⟨q,f⟩:=i x c;refine List.Pairwise.imp_of_mem ?_ (List.nodup_iff_pairwise_ne.1 G.g.sort.nodup);intro a b r s v e
   have d:∀ z∈gs,comp (Zr x x.length) (comp x z)=z:=fun z k=>by
    obtain⟨E,w⟩:=G.p z k;have k:=(G3 E).2.1;rw[<-ZH (by rw[f,<-w];exact k),fW q,jC (by rw[f,<-w];exact k)]
   exact v (by rw[<-d a r,<-d b s,e])
 · obtain⟨q,f⟩:=i x c;obtain⟨A,o⟩:=G.p g j;have h:=(bh (aD q A (f.trans o.symm))).2;rw[Y3,o]at h;exact h
 · obtain⟨q,f⟩:=i x c;obtain⟨K,J⟩:=i y D;obtain⟨A,o⟩:=G.p g j;have m:(comp y g).length=(gs.getD 0 []).length:=by rw[Y3,o,t]
   obtain⟨a,r,e⟩:=pU.1 h;have F:Zx gs (comp y g) x:=(Zx.iff G.g m (by omega)).2 ⟨a,r,e.symm⟩;have H:Zx gs (comp y g) y:=(Zx.iff G.g m (by omega)).2 ⟨g,j,rfl⟩;have I:=Zx.trans G.g (by omega) m (by omega) (Zx.symm G.g m (by omega) H) F;obtain⟨b,s,e⟩:=(Zx.iff G.g (by omega) (by omega)).1 I;exact pU.2 ⟨b,s,e.symm⟩
end Go.Proofs.YtlbmnokpiilfpaaGreatDoor
