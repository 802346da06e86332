/- Part Pq23. -/
import Derived.Test.YtlbmnokpiilfpaaGreatDoorPq22

set_option linter.all false
set_option maxRecDepth 100000
set_option maxHeartbeats 100000000
namespace Go.Proofs.YtlbmnokpiilfpaaGreatDoor
open Go Go.RowKit
def oV:=@Rat.one_mul
variable {cs:Array Value} {v va vb:Int} {rows:List (List Value)} {l xs:List Int} {D E Y Z b c d k n nt vars x:Nat} {p q:Rat} {w w':World}
theorem OG:∀ (l:List Int) (s:Int),s<=24->0<=s->0<=C5 s l->C5 s l=s+l.sum/\s+l.sum<=24/\∀ x∈l,0<=x
 | [],s,h1,h2,_=>⟨by simp[C5],by simpa using h1,by simp⟩
 | x :: r,s,h1,h2,h=>by
  unfold C5 at h |-;by_cases hc:x<0\/24-s<x
  · rw[gY hc]at h;omega
  · rw[gT hc]at h |-;obtain⟨g1,g2,g3⟩:=OG r (s+x) (by omega) (by omega) h;refine⟨by rw[g1,lr];omega,by rw[lr];omega,fun y a => ?_⟩;rcases iE.1 a with rfl|a
    · omega
    · exact g3 y a
theorem Dj:∀ {l:List Int},(∀ x∈l,0<=x)->0<=l.sum/\∀ x∈l,x<=l.sum
 | [],_=>by simp
 | y :: r,h=>by
  obtain⟨h1,h2⟩:=Dj (l:=r) (fun x a=>h x (by simp[a]));have h3:=h y (by simp);rw[lr];refine⟨by omega,fun x a => ?_⟩;rcases iE.1 a with rfl|a
  · omega
  · have:=h2 x a;omega
theorem F8:∀ (l:List Int) (s:Int),0<=s->(∀ x∈l,0<=x)->s+l.sum<=24->C5 s l=s+l.sum
 | [],s,_,_,_=>by simp[C5]
 | x :: r,s,h1,h2,h3=>by
  have hr:=Dj (l:=r) (fun y a=>h2 y (by simp[a]));have b:=h2 x (by simp);rw[lr]at h3 |-;unfold C5;rw[gT (by omega),F8 r (s+x) (by omega) (fun y a=>h2 y (by simp[a])) (by omega)];omega
theorem CN:A3 l=true<->l.length<=6/\(∀ x∈l,0<=x)/\l.sum<=24:=by
 unfold A3 Ds;rw[decide_eq_true_iff];constructor
 · intro h;split at h
   · omega
   · obtain⟨h1,h2,h3⟩:=OG l 0 (by omega) (by omega) h;exact⟨by omega,h3,by omega⟩
 · rintro⟨h1,h2,h3⟩;rw[gT (by omega),F8 l 0 (by omega) h2 (by omega)];have:=(Dj h2).1;omega
theorem TX{a b:List Int}(h:0<Pl.ordE a b):b.sum<=a.sum:=by
 unfold Pl.ordE at h;split at h
 · omega
 · have:=Pl.cmpI_pos.1 h;omega
def InV(vars:Nat)(e:List Int):Prop:=e.length=6/\(∀ x∈e,0<=x)/\AY (e.take vars)=e
theorem InV.pad(h:l.length=vars)(c:vars<=6)(b:∀ x∈l,0<=x):InV vars (AY l):=by
 refine⟨D0 (by omega),fun x a => ?_,by rw[<-h,Ie]⟩;rcases iw.1 a with a|a
 · exact b x a
 · rw[(jb.1 a).2];omega
theorem DQ{t:Pl.Tm}{r:List Pl.Tm}(h:Pl.Canon 6 (t :: r)):∀ s∈t :: r,s.1.sum<=t.1.sum:=by
 intro s a;rcases iE.1 a with rfl|a
 · omega
 · exact TX ((j9.1 h.desc).1 s a)
theorem OH{t:Pl.Tm}(d:vars<=6)(h:InV vars t.1)(b:t.2≠0)(c:t.1.sum<=24):AS vars (txt t.2,t.1.take vars)=some t:=by
 unfold AS;simp only[Cx];have a:(t.1.take vars).length=vars:=by rw[iq,h.1];omega
 rw[gY ⟨b,by rw[a],fun e he=>by
  have h1:=kU he;have h2:=Dj h.2.1;have:=h.2.1 e h1;have:=h2.2 e h1
  omega⟩,h.2.2]
theorem Kv{l:List Pl.Tm}(w:vars<=6)(j:Pl.Canon 6 l)(k:okW l)(b:∀ t∈l,InV vars t.1):rdP vars (wrT vars l)=some l:=by
 have f:∀ t∈l,t.1.sum<=24:=by
  cases l with
  | nil=>simp
  | cons t r =>
   intro s v;have h1:=DQ j s v;have h2:=(CN.1 (k.2 t r rfl)).2.2;omega
 have d:∀ t∈l,AS vars (txt t.2,t.1.take vars)=some t:=fun t g=>OH w (b t g) (j.nz t g) (f t g);have c:(wrT vars l).length=l.length:=by simp[wrT]
 have a:∀ i,i<l.length->(wrT vars l).getD i tm0=(txt (l.getD i ([],0)).2,(l.getD i ([],0)).1.take vars)/\l.getD i ([],0)∈l:=fun i b=>by
  refine⟨?_,by simp[b]⟩;simp[wrT,b]
 unfold rdP;rw[gY]
 · unfold rdWF;rw[gY]
   · congr 1;unfold wrT;rw[jO]
     conv=>rhs;rw[<-List.map_id l]
     apply kh;intro t g;simp only[Function.comp_apply,d t g,gP,id_eq]
   · refine⟨by omega,by omega,fun i h => ?_,fun i h => ?_⟩
     · obtain⟨h1,h2⟩:=a i (by omega);rw[h1,d _ h2];rfl
     · obtain⟨h1,h2⟩:=a i (by omega);obtain⟨h3,h4⟩:=a (i+1) (by omega);rw[h1,h3];have p:=b _ h2;have q:=b _ h4;have n:((l.getD i ([],0)).1.take vars).length=((l.getD (i+1) ([],0)).1.take vars).length:=by rw[iq,iq,p.1,q.1]
       rw[<-Km n,p.2.2,q.2.2];have hp:=mj.1 j.desc i (i+1) (by omega) (by omega) (by omega);simpa[show i<l.length by omega,show i+1<l.length by omega]using hp
 · refine⟨by rw[c];exact k.1,fun t r e => ?_⟩;cases l with
   | nil=>simp[wrT]at e
   | cons m s =>
    have o:(txt m.2,m.1.take vars) :: wrT vars s=t :: r:=e;simp only[lh]at o;rw[<-o.1];have h1:=b m (by simp);show A3 (m.1.take vars)=true;rw[<-GC (by rw[iq];omega),h1.2.2];exact k.2 m s rfl
theorem Rg:∀ (l:List (List Int)),∃ k:List (List Int),k.Nodup/\∀ e,e∈k<->e∈l
 | []=>⟨[],List.nodup_nil,fun _=>Iff.rfl⟩
 | x :: r=>by
  obtain⟨k,h1,h2⟩:=Rg r;by_cases h:x∈k
  · refine⟨k,h1,fun e => ?_⟩;rw[h2,iE];constructor
    · exact Or.inr
    · rintro(rfl|h3)
      · exact(h2 _).1 h
      · exact h3
  · exact⟨x :: k,kf.2 ⟨h,h1⟩,fun e=>by rw[iE,iE,h2]⟩
theorem L9(F:List Int->Rat):∀ (k:List (List Int)) (_:k.Nodup) (e:List Int),Pl.coef (k.map (fun x=>(x,F x))) e=if e∈k then F e else 0
 | [],_,e=>by simp[Pl.coef]
 | x :: r,h,e=>by
  have h1:=kf.1 h;have b:=L9 F r h1.2 e;rw[ja];unfold Pl.coef;rw[b];by_cases a:x=e
  · subst a;rw[gY rfl,gT h1.1,gY (by simp)];exact Rat.add_zero _
  · rw[gT a];by_cases he:e∈r
    · rw[gY he,gY (by simp[he])];exact Rat.zero_add _
    · rw[gT he,gT (by simp[he,Ne.symm a])];exact Rat.zero_add _
theorem Xf{p:List Pl.Tm}(h6:∀ t∈p,t.1.length=6):∃ a,Pl.Nrm a/\∀ e,Pl.coef a e=Pl.coef p e:=by
 obtain⟨k,h1,h2⟩:=Rg (p.map (·.1));refine⟨(k.map (fun x=>(x,Pl.coef p x))).filter (fun t=>decide (t.2≠0)),Pl.Nrm.filter ?_ ?_,fun e => ?_⟩
 · intro t b;obtain⟨x,d,rfl⟩:=ie.1 b;obtain⟨s,c,rfl⟩:=ie.1 ((h2 x).1 d);exact h6 s c
 · rw[jO];have:((fun t:Pl.Tm=>t.1) ∘ fun x=>(x,Pl.coef p x))=id:=rfl;rw[this,List.map_id];exact h1
 · rw[Pl.coef_nz,L9 _ k h1];by_cases he:e∈k
   · rw[gY he]
   · rw[gT he];refine(Pl.coef_absent fun t b h=>he ((h2 e).2 ?_)).symm;rw[<-h];exact jk b
theorem Dv{p:List Pl.Tm}(h6:∀ t∈p,t.1.length=6):Pl.Canon 6 (cnP p)/\∀ e,Pl.coef (cnP p) e=Pl.coef p e:=by
 obtain⟨b,h1,h2⟩:=Xf h6;obtain⟨l,h3,h4⟩:=Im b h1.len;have a:=h1.perm h3.symm;have c:Pl.Canon 6 l:=Pl.canon_of_sorted a.len a.nz h4 a.nodup;have e:cnP p=l:=Fe h1 h2 h3 h4;rw[e];exact⟨c,fun e=>by rw[Pl.coef_perm h3,h2]⟩
theorem Jp{p:List Pl.Tm}(h6:∀ t∈p,t.1.length=6){t:Pl.Tm}(a:t∈cnP p):∃ s∈p,s.1=t.1:=by
 obtain⟨h1,h2⟩:=Dv h6;have h3:Pl.coef p t.1≠0:=by
  rw[<-h2,Pl.coef_mem (Dh h1).nodup a];exact h1.nz t a
 exact Pl.coef_present h3
theorem Jq{p:List Pl.Tm}(hi:∀ t∈p,InV vars t.1):∀ t∈cnP p,InV vars t.1:=fun t a=>by
 obtain⟨s,b,e⟩:=Jp (fun t a=>(hi t a).1) a;rw[<-e];exact hi s b
theorem VD{ts:List Tx}{l:List Pl.Tm}(h:rdP vars ts=some l):∀ t∈l,InV vars t.1:=by
 intro m c;obtain⟨t,g,d⟩:=F7 h c;obtain⟨_,_,f,a,b⟩:=Bm d;rw[b];exact InV.pad (by omega) (by have:=(AW h).1;omega) (fun x e=>(a x e).1)
theorem OI{p:List Pl.Tm}(d:1<=b)(h:∀ t∈p,Pl.RB b t.2)(g:p.length*(b+1)+1<=2400)(f:Cj p):EH p:=by
 refine⟨fun a s e x => ?_,fun t c=>(h t c).mono ?_,f⟩
 · have h1:∀ t∈a,Pl.RB b t.2:=fun t c=>h t (by rw[<-e];simp[c]);refine(Pl.RB.coef d x h1).mono (gJ ?_ g);have:a.length<=p.length:=by rw[<-e];simp
   have:=gH (b+1) this;omega
 · have:1<=p.length:=nV c;have:=gH (b+1) this;omega
theorem Rh{p X:List Pl.Tm}(d:∀ e,Pl.coef p e=Pl.coef X e)(b:Pl.Canon 6 X)(c:∀ t∈X,Ek t.2/\∀ x∈t.1,0<=x/\x<=1099511627776)(f:p.length<=1000000):Cj p:=by
 refine⟨fun e he => ?_,f⟩;rw[d e]at he |-;obtain⟨t,a,rfl⟩:=Pl.coef_present he;rw[Pl.coef_mem (Dh b).nodup a];exact⟨(c t a).1,b.len t a,(c t a).2⟩
theorem GD(h1:q.num.natAbs<8)(h2:q.den<8)(c:3<=b):Pl.RB b q:=by
 have e:P2 3=8:=by unfold P2;decide
 exact⟨Af (a:=3) (by omega) c,Af (a:=3) (by omega) c⟩
namespace Aw
def s1:List UInt8:=[49]
def s12:List UInt8:=[49,47,50]
def Xh:List UInt8:=[45,49,47,50]
def s7:List UInt8:=[55]
def s14:List UInt8:=[49,47,52]
theorem VE:Lib.decDigits 1=[49]:=by rw[Lib.decDigits];rfl
theorem Ya:Lib.decDigits 2=[50]:=by rw[Lib.decDigits];rfl
theorem YO:Lib.decDigits 4=[52]:=by rw[Lib.decDigits];rfl
theorem YP:Lib.decDigits 7=[55]:=by rw[Lib.decDigits];rfl
theorem txt_one:txt 1=s1:=by
 unfold txt Lib.itoa;rw[gT (by decide),gY (by decide)];show Lib.decDigits 1 ++ []=_;rw[VE];rfl
theorem Yb:txt 7=s7:=by
 unfold txt Lib.itoa;rw[gT (by decide),gY (by decide)];show Lib.decDigits 7 ++ []=_;rw[YP];rfl
theorem Xi:txt (mkRat 1 2)=s12:=by
 unfold txt Lib.itoa;rw[gT (by decide),gT (by decide)];show Lib.decDigits 1 ++ 47 :: Lib.decDigits 2=_;rw[VE,Ya];rfl
theorem VF:txt (mkRat (-1) 2)=Xh:=by
 unfold txt Lib.itoa;rw[gY (by decide),gT (by decide)];show(45 :: Lib.decDigits 1) ++ 47 :: Lib.decDigits 2=_;rw[VE,Ya];rfl
theorem txt_14:txt (mkRat 1 4)=s14:=by
 unfold txt Lib.itoa;rw[gT (by decide),gT (by decide)];show Lib.decDigits 1 ++ 47 :: Lib.decDigits 4=_;rw[VE,YO];rfl
theorem Yc:AD s1=some 1:=by rw[<-txt_one,Cx]
theorem Yd:AD s7=some 7:=by rw[<-Yb,Cx]
theorem Ri:AD s12=some (mkRat 1 2):=by rw[<-Xi,Cx]
theorem TY:AD Xh=some (mkRat (-1) 2):=by rw[<-VF,Cx]
def e0:List Int:=[1,0,0,0,0,0]
def e00:List Int:=[2,0,0,0,0,0]
def e01:List Int:=[1,1,0,0,0,0]
def X1:List Pl.Tm:=[(e0,1)]
def X2:List Pl.Tm:=[(e00,1)]
def T1:List Tx:=[(s1,[1,0])]
def T2:List Tx:=[(s1,[2,0])]
def M:List Tx:=[(s12,[1,1]),(s1,[1,0]),(Xh,[1,1])]
theorem M8:Pl.Canon 6 X1:=⟨by simp[X1,e0],by simp[X1],lN _ _⟩
theorem TZ:Pl.Canon 6 X2:=⟨by simp[X2,e00],by simp[X2],lN _ _⟩
theorem wr1:wrT 2 X1=T1:=by unfold wrT X1 T1;simp[txt_one,e0]
theorem wr2:wrT 2 X2=T2:=by unfold wrT X2 T2;simp[txt_one,e00]
theorem rd1:rdP 2 T1=some X1:=by
 rw[<-wr1];refine Kv (vars:=2) (by omega) M8 ⟨by decide,fun t r e => ?_⟩ (fun t a => ?_)
 · simp only[X1,lh]at e;rw[<-e.1];decide
 · simp only[X1,gL]at a;subst a;exact⟨rfl,by decide,by decide⟩
theorem rd2:rdP 2 T2=some X2:=by
 rw[<-wr2];refine Kv (vars:=2) (by omega) TZ ⟨by decide,fun t r e => ?_⟩ (fun t a => ?_)
 · simp only[X2,lh]at e;rw[<-e.1];decide
 · simp only[X2,gL]at a;subst a;exact⟨rfl,by decide,by decide⟩
theorem Rj:M.map Es=[(e01,mkRat 1 2),(e0,1),(e01,mkRat (-1) 2)]:=by
 simp only[M,Es,ja,jE,Yc,Ri,TY,gP];rfl
theorem Rk(e:List Int):Pl.coef (M.map Es) e=Pl.coef X1 e:=by
 rw[Rj];by_cases h1:e01=e
 · subst h1;have:e0≠e01:=by decide
   have a:mkRat (-1) 2 = -(mkRat 1 2):=by decide
   simp only[Pl.coef,X1,li,gT this,a]
   grind
 · by_cases h2:e0=e
   · subst h2;simp only[Pl.coef,X1,li,gT h1]
     grind
   · simp only[Pl.coef,X1,gT h1,gT h2]
     grind
theorem mk_ok:∀ t∈M,G9 2 t:=by
 intro t a;simp only[M,iE,kC,mU]at a;rcases a with rfl|rfl|rfl
 · exact⟨by rw[Ri];rfl,rfl,by decide⟩
 · exact⟨by rw[Yc];rfl,rfl,by decide⟩
 · exact⟨by rw[TY];rfl,rfl,by decide⟩
theorem Xj:∀ t∈X1,Ek t.2/\∀ x∈t.1,0<=x/\x<=1099511627776:=by
 intro t a;simp only[X1,gL]at a;subst a;exact⟨El (by decide) (by decide),by decide⟩
theorem YQ:∀ t∈X2,Ek t.2/\∀ x∈t.1,0<=x/\x<=1099511627776:=by
 intro t a;simp only[X2,gL]at a;subst a;exact⟨El (by decide) (by decide),by decide⟩
theorem mk_sum:EH (M.map Es):=by
 refine OI (b:=3) (by omega) ?_ (by rw[Rj];decide) (Rh Rk M8 Xj (by rw[Rj];decide));rw[Rj];intro t a;simp only[iE,kC,mU]at a;rcases a with rfl|rfl|rfl
 · exact GD (by decide) (by decide) (by omega)
 · exact GD (by decide) (by decide) (by omega)
 · exact GD (by decide) (by decide) (by omega)
theorem mk_res:resQ 2 (M.map Es)=(2,T1,0):=Kq rd1 Rk
theorem var_res:resQ 2 [(IL 0,1)]=(2,T1,0):=Kq rd1 (fun _=>rfl)
theorem OJ(e:List Int):Pl.coef (Pl.prodT X1 X1) e=Pl.coef X2 e:=by
 have:Pl.prodT X1 X1=X2:=by
  show [(Pl.plE e0 e0,(1:Rat)*1)]=_;rw[nM];rfl
 rw[this]
theorem rb1:∀ t∈X1,Pl.RB 1000 t.2:=by
 intro t a;simp only[X1,gL]at a;subst a;exact GD (by decide) (by decide) (by omega)
theorem mul_ok:CF X1 X1 :=
 CF.of rb1 rb1 (fun t b=>⟨M8.len t b,(Xj t b).2⟩) (fun t b=>⟨M8.len t b,(Xj t b).2⟩) (Af (a:=1) (by decide) (by omega)) (Af (a:=1) (by decide) (by omega)) (by decide) (by decide) (Rh OJ TZ YQ (by decide))
theorem mul_res:resQ 2 (Pl.prodT X1 X1)=(2,T2,0):=Kq rd2 OJ
theorem mul_deg:¬ (X1≠[]/\X1≠[]/\24<Bu X1+Bu X1):=by decide
def Pt:List Rat:=[mkRat 1 2,7]
theorem pt_rd:rdAll [s12,s7]=some Pt:=by
 unfold rdAll;rw[gY]
 · simp only[ja,jE,Ri,Yd,gP];rfl
 · intro i a;have:i=0\/i=1:=by simp at a;omega
   rcases this with rfl|rfl
   · show(AD s12).isSome=true;rw[Ri];rfl
   · show(AD s7).isSome=true;rw[Yd];rfl
theorem ev_val:Pl.evq Pt X2=mkRat 1 4:=by
 show(1:Rat)*((1*(mkRat 1 2)^2)*(7:Rat)^0)+0=_;have h:mkRat 1 2*mkRat 1 2=mkRat 1 4:=by rw[Rat.mkRat_mul_mkRat];rfl
 rw[nm,lX,lX,nm,oV,oV,oV,nM,Rat.add_zero,h]
theorem ev_str:Ek (Pl.evq Pt X2):=by rw[ev_val];exact El (by decide) (by decide)
theorem En(h:x<1000){b:Nat}(c:10<=b):x<P2 b:=Af (a:=10) (by unfold P2;omega) c
theorem ev_ok:EvB X2 Pt where
 co:=by
  intro t b;simp only[X2,gL]at b;subst b;exact GD (by decide) (by decide) (by omega)
 po:=by
  intro q i;simp only[Pt,iE,kC,mU]at i;rcases i with rfl|rfl
  · exact GD (by decide) (by decide) (by omega)
  · exact GD (by decide) (by decide) (by omega)
 ex:=by decide
 lc:=by
  intro k;refine gN (C3 k) (En (by decide) (by omega))
 pn:=by
  intro v f e he;have g:v<2:=f;have:v=0\/v=1:=by omega
  rcases this with rfl|rfl
  · have a:e<=2:=he;have:e=0\/e=1\/e=2:=by omega
    rcases this with rfl|rfl|rfl <;> exact En (by decide) (by omega)
  · have a:e<=0:=he;have:e=0:=by omega
    subst this;exact En (by decide) (by omega)
 pd:=by
  intro v f e he;have g:v<2:=f;have:v=0\/v=1:=by omega
  rcases this with rfl|rfl
  · have a:e<=2:=he;have:e=0\/e=1\/e=2:=by omega
    rcases this with rfl|rfl|rfl <;> exact En (by decide) (by omega)
  · have a:e<=0:=he;have:e=0:=by omega
    subst this;exact En (by decide) (by omega)
 ze:=by
  intro t b k c;simp only[X2,gL]at b;subst b;have d:k<=2:=c;have:k=0\/k=1\/k=2:=by omega
  rcases this with rfl|rfl|rfl <;> exact En (by decide) (by omega)
 de:=by
  intro k c;have d:k<=2:=c;have:k=0\/k=1\/k=2:=by omega
  rcases this with rfl|rfl|rfl <;> exact En (by decide) (by omega)
 su:=En (by decide) (by omega)
theorem deg_val:degP 2 T2=2:=by
 unfold degP;rw[rd2,gY ⟨rfl,by decide⟩];decide
end Aw
theorem M9(a:cs.size=n)(h6:n<=1000000)(h:cs.toList=xs.map (Value.int .i64)):SlI (w.alloc (.cells cs 3)) (some ⟨w.heap.size,0,none⟩) n n xs:=by
 have:=(AB w 0 3 cs n a (gO _) h6).sl;rw[h]at this;exact this
theorem Sy{ts:List Tx}(f:∀ r∈rows,r.length=2)(d:rows.length=n)(e:ts.length=n)(g:n<=1000)(h:∀ i,i<n->Sh w (rows.getD i []) (ts.getD i tm0)) :
 AH (w.alloc (.cells rows.flatten.toArray 26)) (some ⟨w.heap.size,0,none⟩) n n ts:=by
 have a:=Arr.new w 26 rows.flatten;have b:=Arr.ownK (base:=0) a f d (gO _) (by unfold maxLen;omega);exact⟨rows,b.slk (by omega),e,fun i c=>(h i c).ext ((Ext.refl w).alloc _)⟩
theorem T0{l:List (List UInt8)}(b:cs.size=n)(h6:n<=1000000)(a:l.length=n)(h:∀ i,i<n->∃ s,cs.toList.getD i undef = .string s/\An s=l.getD i []) :
 IN (w.alloc (.cells cs 9)) (some ⟨w.heap.size,0,none⟩) n n l:=⟨cs.toList,(AB w 0 9 cs n b (gO _) h6).sl,a,h⟩
def awR(s:Nat):List (List Value):=[[.string ⟨#[49,47,50]⟩,.slice (some ⟨s,0,none⟩) 2 2],[.string ⟨#[49]⟩,.slice (some ⟨s+1,0,none⟩) 2 2],[.string ⟨#[45,49,47,50]⟩,.slice (some ⟨s+1+1,0,none⟩) 2 2]]
def T3(w:World):World:=(((w.alloc (.cells #[.int .i64 1,.int .i64 1] 3)).alloc (.cells #[.int .i64 1,.int .i64 0] 3)).alloc (.cells #[.int .i64 1,.int .i64 1] 3))
def awW(w:World):World:=(T3 w).alloc (.cells #[.string ⟨#[49,47,50]⟩,.slice (some ⟨w.heap.size,0,none⟩) 2 2,.string ⟨#[49]⟩,.slice (some ⟨w.heap.size+1,0,none⟩) 2 2,.string ⟨#[45,49,47,50]⟩,.slice (some ⟨w.heap.size+1+1,0,none⟩) 2 2] 26)
theorem D9(w:World)(o:Obj):(w.alloc o).heap.size=w.heap.size+1:=by simp
theorem Rl(w:World):Ext w (awW w):=((((Ext.refl w).alloc _).alloc _).alloc _).alloc _
theorem awM(w:World):AH (awW w) (some ⟨w.heap.size+1+1+1,0,none⟩) 3 3 Aw.M:=by
 have c:=M9 (w:=w) (cs:=#[.int .i64 1,.int .i64 1]) (xs:=[1,1]) (n:=2) rfl (by omega) rfl;have d:=M9 (w:=w.alloc (.cells #[.int .i64 1,.int .i64 1] 3)) (cs:=#[.int .i64 1,.int .i64 0]) (xs:=[1,0]) (n:=2) rfl (by omega) rfl;have a:=M9 (w:=(w.alloc (.cells #[.int .i64 1,.int .i64 1] 3)).alloc (.cells #[.int .i64 1,.int .i64 0] 3)) (cs:=#[.int .i64 1,.int .i64 1]) (xs:=[1,1]) (n:=2) rfl (by omega) rfl;have e:=(c.alloc (.cells #[.int .i64 1,.int .i64 0] 3)).alloc (.cells #[.int .i64 1,.int .i64 1] 3);have b:=d.alloc (.cells #[.int .i64 1,.int .i64 1] 3)
 rw[D9]at b a;rw[D9]at a;have f:(T3 w).heap.size=w.heap.size+1+1+1:=by unfold T3;rw[D9,D9,D9]
 have h:=Sy (w:=T3 w) (rows:=awR w.heap.size) (ts:=Aw.M) (n:=3) (by simp[awR]) rfl rfl (by omega) (fun i g=>by
  have h3:i=0\/i=1\/i=2:=by omega
  rcases h3 with rfl|rfl|rfl
  · exact⟨_,_,_,_,rfl,rfl,e⟩
  · exact⟨_,_,_,_,rfl,rfl,b⟩
  · exact⟨_,_,_,_,rfl,rfl,a⟩)
 rw[f]at h;exact h
theorem VG(a:AM w):Calls Tryz.prog 12 #[.int .i64 2,.slice (some ⟨w.heap.size+1+1+1,0,none⟩) 3 3] (awW w) (Cl (awW w) 2 Aw.T1 0):=by
 refine(Su (vars:=2) (a.ext (Rl w)) (awM w) (by decide) (by omega) (fun _ _ _=>Aw.mk_sum)).mono ?_;intro e b h;rcases h with⟨h,_⟩|⟨_,_,h,_⟩|⟨_,_,_,h⟩
 · exact absurd ⟨by omega,by omega⟩ h
 · exact absurd Aw.mk_ok h
 · rw[Aw.mk_res]at h;exact h
theorem Xk(b:AM w):Calls Tryz.prog 16 #[.int .i64 2,.int .i64 0] w (Cl w 2 Aw.T1 0):=by
 refine(TQ (vars:=2) (i:=0) b).mono ?_;intro e c h;rcases h with⟨_,_,_,_,h⟩|⟨h,_⟩
 · have a:Cd w (resQ 2 [(IL 0,1)]) e c:=h;rw[Aw.var_res]at a;exact a
 · exact absurd ⟨by omega,by omega,by omega,by omega⟩ h
theorem Xl{a:Option Addr}(b:AM w)(h:AH w a n c Aw.T1):Calls Tryz.prog 20 #[.agg #[.int .i64 2,.slice a n c],.agg #[.int .i64 2,.slice a n c]] w (Cl w 2 Aw.T2 0):=by
 have h6:∀ t∈Aw.T1,t.1.length<=570:=by decide
 refine(OA (va:=2) (vb:=2) b h h h6 h6 (fun d f h1 h2 _=>by
  rw[Aw.rd1]at h1 h2;cases h1;cases h2
  exact Aw.mul_ok)).mono ?_
 intro e g h;rw[Aw.rd1]at h;rcases h with⟨d,f,h1,h2,_,h⟩|⟨_,h,_⟩|⟨h,_⟩
 · cases h1;cases h2;rcases h with⟨_,h⟩|⟨h,_⟩
   · rw[Aw.mul_res]at h;exact h
   · exact absurd h Aw.mul_deg
 · exact absurd rfl h
 · simp at h
theorem VH{a b:Option Addr}(d:AM w)(h:AH w a n c Aw.T2)(f:IN w b 2 2 [Aw.s12,Aw.s7]):Calls Tryz.prog 57 #[.agg #[.int .i64 2,.slice a n c],.slice b 2 2] w (M7 w Aw.s14 0):=by
 refine(Sx (va:=2) d h f (by decide) (by decide) (by omega) (fun l g h1 h2 _=>by
  rw[Aw.rd2]at h1;rw[Aw.pt_rd]at h2;cases h1;cases h2
  exact⟨Aw.ev_ok,Aw.ev_str⟩)).mono ?_
 intro e i h;rw[Aw.rd2,Aw.pt_rd]at h;rcases h with⟨l,g,h1,h2,_,h⟩|⟨_,h,_⟩|⟨h,_⟩
 · cases h1;cases h2;rw[Aw.ev_val,Aw.txt_14]at h;exact h
 · exact absurd rfl h
 · simp at h
theorem T4{a b:Option Addr}{m:Nat}(g:AM w)(i:AH w a n c Aw.T1)(j:AH w b m d Aw.T1):Calls Tryz.prog 31 #[.agg #[.int .i64 2,.slice a n c],.agg #[.int .i64 2,.slice b m d]] w fun e f=>e = .returned (.bool true)/\Ext w f:=by
 refine(Ks (v1:=2) (v2:=2) g i j (by decide)).mono ?_;rintro e f ⟨rfl,h⟩;refine⟨?_,h⟩;rw[Aw.rd1];simp
theorem Sz{a:Option Addr}(d:AM w)(h:AH w a n c Aw.T2):Calls Tryz.prog 33 #[.agg #[.int .i64 2,.slice a n c]] w fun e b=>e = .returned (.int .i64 2)/\Ext w b:=by
 refine(IM (vars:=2) d h (by decide)).mono ?_;rintro e b ⟨rfl,h⟩;rw[Aw.deg_val];exact⟨rfl,h⟩
theorem F9(F:AM w):Calls Tryz.prog 11 #[] w fun e w'=>e = .returned (.bool true)/\Ext w w':=by
 have E:=qh (VG F);have y:=Rl w;unfold awW T3 at E y
 go_enter Tryz.func11,Tryz.ntmps11
 go_wp2_with fail
 refine E.out.mono ?_;rintro e w1 ⟨I,n1,L,rfl,O,Y⟩;have p:=y.trans O;have f:BS 2 I n1 L = .agg #[.int .i64 2,.slice I n1 L]:=rfl;rw[f];have o:(Ah 2 I n1 L).toArray=#[.int .i64 2,.slice I n1 L]:=rfl;have r:=Arr.new w1 28 (Ah 0 none 0 0);have S:=Y.sl;clear y O E Y
 go_upto_region 2 with(refine Aa (vs:=Ah 2 I n1 L) rfl rfl rfl rfl rfl Ad r rfl (Am _ _ _ _) ?_;intro w2 t a8)
 have z:Ext w1 w2:=((Ext.refl w1).alloc _).grownR a8 (lrf _);have k:=p.trans z;have T:=S.ext z;have G:=t.c 0 rfl;have H:=t.c 1 rfl;clear r a8 o f t S z p;generalize w1.heap.size=Q1 at *
 have ad:=qh (Xk (F.ext k))
 go_wp2_with fail
 refine ad.out.mono ?_;rintro e w3 ⟨J,n3,M,rfl,P,Z⟩;have f:BS 2 J n3 M = .agg #[.int .i64 2,.slice J n3 M]:=rfl;rw[f];have o:(Ah 2 J n3 M).toArray=#[.int .i64 2,.slice J n3 M]:=rfl;have r:=Arr.new w3 28 (Ah 0 none 0 0);have W:=Z.sl;clear ad Z
 go_upto_region 3 with(refine Aa (vs:=Ah 2 J n3 M) rfl rfl rfl rfl rfl Ad r rfl (Am _ _ _ _) ?_;intro w4 v a9)
 have A:Ext w3 w4:=((Ext.refl w3).alloc _).grownR a9 (lrf _);have d:=P.trans A;have l:=k.trans d;have U:=T.ext d;have C:=W.ext A;have G:=d.cell G;have H:=d.cell H;have q0:=v.c 0 rfl;have q1:=v.c 1 rfl;clear r a9 o f v T W P A d k;generalize w3.heap.size=Q3 at *
 have ab:=qh (Xl (F.ext l) C)
 go_wp2_with fail
 refine ab.out.mono ?_;rintro e w5 ⟨K,n5,N,rfl,Q,a0⟩;have f:BS 2 K n5 N = .agg #[.int .i64 2,.slice K n5 N]:=rfl;rw[f];have o:(Ah 2 K n5 N).toArray=#[.int .i64 2,.slice K n5 N]:=rfl;have r:=Arr.new w5 28 (Ah 0 none 0 0);have a2:=a0.sl;clear ab a0
 go_upto_region 4 with(refine Aa (vs:=Ah 2 K n5 N) rfl rfl rfl rfl rfl Ad r rfl (Am _ _ _ _) ?_;intro w6 x aa)
 have B:Ext w5 w6:=((Ext.refl w5).alloc _).grownR aa (lrf _);have b:=Q.trans B;have m:=l.trans b;have V:=U.ext b;have X:=C.ext b;have D:=a2.ext B;have G:=b.cell G;have H:=b.cell H;have q0:=b.cell q0;have q1:=b.cell q1;have r0:=x.c 0 rfl;have r1:=x.c 1 rfl;clear r aa o f x U C a2 Q B b l;generalize w5.heap.size=Q5 at *
 have g:=(Ext.refl w6).alloc (.cells #[.string ⟨#[49,47,50]⟩,.string ⟨#[55]⟩] 9)
 have ac:IN (w6.alloc (.cells #[.string ⟨#[49,47,50]⟩,.string ⟨#[55]⟩] 9)) (some ⟨w6.heap.size,0,none⟩) 2 2 [Aw.s12,Aw.s7]:=T0 rfl (by omega) rfl (fun i hi=>by
  have h2:i=0\/i=1:=by omega
  rcases h2 with rfl|rfl
  · exact⟨_,rfl,rfl⟩
  · exact⟨_,rfl,rfl⟩)
 have a7:=qh (VH (F.ext (m.trans g)) (D.ext g) ac);clear ac
 go_wp2_with fail
 refine a7.out.mono ?_;rintro e w7 ⟨rfl,R⟩;have a:=g.trans R;have n:=m.trans a;have G:=a.cell G;have H:=a.cell H;have q0:=a.cell q0;have q1:=a.cell q1;have r0:=a.cell r0;have r1:=a.cell r1;have a6:=qh (T4 (F.ext n) (V.ext a) (X.ext a));have a4:=D.ext a;have s:(Value.string ⟨Aw.s14.toArray⟩) = .string ⟨#[49,47,52]⟩:=rfl;rw[s];clear a7 g R V X D a m s
 go_wp2_with fail
 refine a6.out.mono ?_;rintro e w8 ⟨rfl,j⟩;have r0:=j.cell r0;have r1:=j.cell r1;have q:=n.trans j;have af:=qh (Sz (F.ext q) (a4.ext j));clear a6 j a4 n
 go_wp2_with fail
 refine af.out.mono ?_;rintro e w9 ⟨rfl,ae⟩;go_wp2;go_ret;exact⟨rfl,q.trans ae⟩
def Av(ts:List Tx)(nt d:Nat):Prop:=ts.length<=nt/\∀ t∈ts,t.1.length<=d/\t.2.length<=12
instance (ts:List Tx) (nt d:Nat):Decidable (Av ts nt d):=inferInstanceAs (Decidable (_/\_))
theorem Ea{a:Option Addr}{ts:List Tx}(O:AH w a n c ts) :
 Calls Tryz.prog 37 #[.agg #[.int .i64 va,.slice a n c],.int .i64 nt,.int .i64 d] w fun e W=>e = .returned (.bool (decide (Av ts nt d)))/\Ext w W:=by
 have s:=O.len;obtain⟨rx,N,_,v⟩:=O;have G:=qh v;have f:=qh s;clear v s;have S:=N.le
 go_enter Tryz.func37,Tryz.ntmps37
 go_upto_region 1 with(fail)
 refine AP ?_;intro X q l K;have U:=l.c 0 rfl;have L:=l.c 1 rfl;clear l K;by_cases R:nt<n
 · have b:Hid (decide (Av ts nt d)=false):=qh (by
    apply gR;rintro⟨h,_⟩;have:=f.out
    omega)
   have J:(nt:Int)<(n:Int):=by omega
   clear R;go_wp2;go_ret;exact⟨by rw[b.out];rfl,q⟩
 · have J:¬ (nt:Int)<(n:Int):=by omega
   go_wp2
   go_loopw[7] (fun i wr=>∃ k:Nat,k<=n/\i = .int .i64 k/\Ext X wr/\Hid (∀ i,i<k->(ts.getD i tm0).1.length<=d/\(ts.getD i tm0).2.length<=12)) (fun i _=>n-(intOf i).toNat)
   case atStart=>exact⟨0,gO _,rfl,Ext.refl _,qh (fun i C=>absurd C (by omega))⟩
   case round =>
    obtain⟨k,hk,rfl,m,M⟩:=hrel;have B:=q.trans m;have V:=m.cell L;by_cases g:k<n
    · obtain⟨Z,o1,rfl,o⟩:=(N.ext B).rd (by omega);obtain⟨s1,Y,D,c1,x,y,A⟩:=G.out k g;have P:=o k g 0 (by omega);have Q:=o k g 1 (by omega);rw[x]at P Q;simp only[kD,kQ,iO]at P Q;have r:=A.len;have z:s1.size=(ts.getD k tm0).1.length:=by rw[<-y,Ay]
      have j:Hid (s1.size=(ts.getD k tm0).1.length/\(ts.getD k tm0).2.length=D):=qh ⟨z,r⟩;have p:Hid (ts.getD k tm0∈ts):=qh (by simp[f.out,g]);clear o x y A r z;by_cases h1:d<s1.size
      · have H:(d:Int)<(s1.size:Int):=by omega
        have b:Hid (decide (Av ts nt d)=false):=qh (by
         apply gR;rintro⟨_,h⟩;have:=h _ p.out;have:=j.out
         omega)
        go_wp2;go_ret;exact⟨by rw[b.out];rfl,B⟩
      · have H:¬ (d:Int)<(s1.size:Int):=by omega
        by_cases h2:12<D
        · have I:(12:Int)<(D:Int):=by omega
          have b:Hid (decide (Av ts nt d)=false):=qh (by
           apply gR;rintro⟨_,h⟩;have:=h _ p.out;have:=j.out
           omega)
          go_wp2;go_ret;exact⟨by rw[b.out];rfl,B⟩
        · have I:¬ (12:Int)<(D:Int):=by omega
          have F:Hid (∀ i,i<k+1->(ts.getD i tm0).1.length<=d/\(ts.getD i tm0).2.length<=12):=qh (fun i C=>by
           by_cases e:i=k
           · subst e;have:=j.out;omega
           · exact M.out i (by omega))
          go_wp2;go_roundw
          case rel=>exact⟨k+1,by omega,by go_num,m,F⟩
          case measure=>simp[intOf];omega
    · have E:Hid (decide (Av ts nt d)=true):=qh (by
       apply iA;refine⟨by have:=f.out;omega,fun t T => ?_⟩;obtain⟨i,C,rfl⟩:=jX.1 T;have:=M.out i (by have:=f.out;omega)
       simpa[C]using this)
      go_wp2;go_ret;exact⟨by rw[E.out];rfl,B⟩
theorem AH.nil(w:World):AH w none 0 0 []:=⟨[],SlK.nil w 2,rfl,fun i a=>absurd a (by omega)⟩
theorem VI(h:(txt q).length<=k+2)(h1:1<=k):q.den<P2 (4*k):=by
 have e:(16:Nat)^k=P2 (4*k):=by unfold P2;rw[mo]
 have b:10^k<=16^k:=l9 (by omega) _;rw[<-e];by_cases a:q.den=1
 · rw[a];exact Nat.one_lt_pow (by omega) (by omega)
 · have h3:=M4 q.den;have h4:(Lib.decDigits q.den).length<=k:=by
    unfold txt at h;rw[gT a]at h;have h5:0<(Lib.itoa q.num).length:=by
     unfold Lib.itoa;split
     · simp
     · exact List.length_pos_iff.2 (W.dec_ne _)
    simp at h;omega
   exact ib h3 (gJ (ic (by omega) h4) b)
namespace Pl
theorem plE_len{a b:List Int}(h:a.length=b.length):(plE a b).length=a.length:=by
 unfold plE;rw[List.length_zipWith,h,Nat.min_self]
end Pl
namespace Pl
def QB(D Y:Nat)(q:Rat):Prop:=∃ z:Int,q*(D:Rat)=(z:Rat)/\z.natAbs<=Y
theorem QB.zero(D Y:Nat):QB D Y 0:=⟨0,by rw[Rat.zero_mul];rfl,by simp⟩
theorem QB.add(hp:QB D Y p)(a:QB D Z q):QB D (Y+Z) (p+q):=by
 obtain⟨x,h1,h2⟩:=hp;obtain⟨y,h3,h4⟩:=a;refine⟨x+y,by rw[Rat.add_mul,h1,h3,mZ],?_⟩;have:=mK x y;omega
theorem QB.mul(hp:QB D Y p)(a:QB E Z q):QB (D*E) (Y*Z) (p*q):=by
 obtain⟨x,h1,h2⟩:=hp;obtain⟨y,h3,h4⟩:=a;refine⟨x*y,?_,by rw[jC];exact j5 h2 h4⟩;rw[mB,lY,<-h1,<-h3]
 grind
theorem QB.neg(h:QB D Y q):QB D Y (-q):=by
 obtain⟨x,h1,h2⟩:=h;exact⟨-x,by rw[Rat.neg_mul,h1,Rat.intCast_neg],by rw[ml];exact h2⟩
theorem QB.mono(h:QB D Y q)(a:Y<=Z):QB D Z q:=by
 obtain⟨x,h1,h2⟩:=h;exact⟨x,h1,by omega⟩
theorem QB.scale(h:QB D Y q)(k:Nat):QB (D*k) (Y*k) q:=by
 obtain⟨x,h1,h2⟩:=h;refine⟨x*k,?_,by rw[jC];exact j5 h2 (lrf _)⟩;rw[mB,lY,<-h1,<-kW];rfl
theorem QB.parts(h:QB D Y q)(c:0<D):q.num.natAbs<=Y/\q.den∣D:=by
 obtain⟨z,h1,h2⟩:=h;have h0:(D:Rat)≠0:=fun h=>by have:=lJ.1 h;omega
 have e:q=mkRat z D:=by
  rw[F4,<-h1,kW,oD _ h0,nM]
 obtain⟨b,a⟩:=rat_frac (n:=z) (d:=D) (by omega);rw[e];refine⟨gJ (mkRat_le (by omega)).1 h2,?_⟩;rw[a];exact Nat.div_dvd_of_dvd (kF _ _)
theorem QB.rb(h:QB D Y q)(a:0<D)(h1:D<P2 b)(h2:Y<P2 b):RB b q :=
 ⟨gN (h.parts a).1 h2,gN (lK a (h.parts a).2) h1⟩
theorem QB.of(a:q.den∣D)(b:q.num.natAbs<=Y):QB D (Y*D) q:=by
 refine⟨zsc q D,(MT a).symm,?_⟩;unfold zsc;rw[jC];exact j5 b (iI _ _)
def SB(D Y:Nat)(l:List Tm):Prop:=∀ t∈l,QB D Y t.2
theorem SB.coef{D Y:Nat}(e:List Int):∀ {l:List Tm},SB D Y l->QB D (l.length*Y) (coef l e)
 | [],_=>QB.zero _ _
 | t :: r,h=>by
  have h1:QB D Y (if t.1=e then t.2 else 0):=by
   split
   · exact h t (by simp)
   · exact QB.zero _ _
  have h2:=QB.add h1 (SB.coef e (l:=r) (fun s a=>h s (by simp[a])));exact h2.mono (by rw[j8,iW];omega)
theorem SB.prod{a b:List Tm}(c:SB D Y a)(d:SB E Z b):SB (D*E) (Y*Z) (prodT a b):=by
 intro u hu;obtain⟨x,e,h⟩:=jS.1 hu;obtain⟨y,f,rfl⟩:=ie.1 h;exact(c x e).mul (d y f)
theorem SB.mono{D Y Z:Nat}{l:List Tm}(h:SB D Y l)(b:Y<=Z):SB D Z l:=fun t a=>(h t a).mono b
theorem SB.scale{D Y:Nat}{l:List Tm}(h:SB D Y l)(k:Nat):SB (D*k) (Y*k) l:=fun t a=>(h t a).scale k
theorem SB.app{a b:List Tm}(c:SB D Y a)(d:SB D Y b):SB D Y (a ++ b):=fun t e=>(iw.1 e).elim (c t) (d t)
theorem SB.app2{a b:List Tm}(c:SB D Y a)(d:SB E Z b):SB (D*E) (Y*E+Z*D) (a ++ b):=by
 refine SB.app ((c.scale E).mono (by omega)) ?_;rw[gV D E];exact(d.scale D).mono (by omega)
theorem Xm(a b:Nat):a*(b/Nat.gcd a b)=Nat.lcm a b:=by
 unfold Nat.lcm;rw[nI _ (kF a b)]
theorem T5{l:List Rat}(h:∀ q∈l,q.den∣D):Bk l∣D:=by
 have c:∀ (l:List Rat) (a:Nat),a∣D->(∀ q∈l,q.den∣D)->l.foldl (fun a q=>a*(q.den/Nat.gcd a q.den)) a∣D:=by
  intro l
  induction l with
  | nil=>intro a b _;exact b
  | cons q r ih =>
   intro a b h;rw[m7,Xm];exact ih _ (Nat.lcm_dvd b (h q (by simp))) (fun s d=>h s (by simp[d]))
 exact c l 1 (Nat.one_dvd _) h
theorem SB.lcm{l:List Tm}(h:SB D Y l)(a:0<D):Bk (l.map (·.2))<=D:=by
 refine lK a (T5 fun q b => ?_);obtain⟨t,c,rfl⟩:=ie.1 b;exact((h t c).parts a).2
theorem SB.of{Y:Nat}{l:List Tm}(h:∀ t∈l,t.2.num.natAbs<=Y):SB (Bk (l.map (·.2))) (Y*Bk (l.map (·.2))) l :=
 fun t a=>QB.of (GX (jk a)) (h t a)
end Pl
theorem Jr{p:List Pl.Tm}(h6:∀ t∈p,t.1.length=6):(cnP p).length<=p.length:=by
 have h:=Pl.nodup_le ((cnP p).map (·.1)) (p.map (·.1)) (Dh (Dv h6).1).nodup (fun e he=>by
  obtain⟨t,b,rfl⟩:=ie.1 he;obtain⟨s,a,e⟩:=Jp h6 b;rw[<-e]
  exact jk a)
 simpa using h
theorem SB.cn{p:List Pl.Tm}(h6:∀ t∈p,t.1.length=6)(h:Pl.SB D Y p):Pl.SB D (p.length*Y) (cnP p):=by
 intro t a;obtain⟨h1,h2⟩:=Dv h6;rw[<-Pl.coef_mem (Dh h1).nodup a,h2];exact h.coef t.1
theorem VJ(h:Pl.RB b q):(txt q).length<=2*(b/3)+4:=by
 have h1:=QR h.1;have h2:=ML h.2;unfold txt;rw[iD];split
 · simp;omega
 · simp;omega
theorem Ma{a b:List Pl.Tm}{t:Pl.Tm}(h:t∈Pl.prodT a b):∃ x∈a,∃ y∈b,t.1=Pl.plE x.1 y.1:=by
 obtain⟨x,c,h⟩:=jS.1 h;obtain⟨y,d,rfl⟩:=ie.1 h;exact⟨x,c,y,d,rfl⟩
def Lo(l:List Pl.Tm):Prop:=∀ t∈l,t.1.length=6/\∀ x∈t.1,0<=x/\x<=1048576
theorem Lo.small{l:List Pl.Tm}(h:Lo l):Bp l:=fun t a=>⟨(h t a).1,fun x b=>by have:=(h t a).2 x b;omega⟩
theorem Rm{B C:Int}:∀ {a b:List Int},(∀ x∈a,0<=x/\x<=B)->(∀ x∈b,0<=x/\x<=C)->∀ x∈Pl.plE a b,0<=x/\x<=B+C
 | [],_,_,_=>by simp[Pl.plE]
 | _ :: _,[],_,_=>by simp[Pl.plE]
 | x :: a,y :: b,h1,h2=>by
  intro u hu;have hu':u=x+y\/u∈Pl.plE a b:=by simpa[Pl.plE]using hu
  rcases hu' with rfl|hu
  · have:=h1 x (by simp);have:=h2 y (by simp);omega
  · exact Rm (fun z c=>h1 z (by simp[c])) (fun z c=>h2 z (by simp[c])) u hu
theorem Rn{p:List Pl.Tm}(h:Pl.SB D Y p)(a:0<D)(h1:D<P2 b)(h2:p.length*Y<P2 b)(c:b<=1920)(d:∀ t∈p,t.1.length=6/\∀ x∈t.1,0<=x/\x<=1099511627776)(f:p.length<=1000000):Cj p:=by
 refine⟨fun e he => ?_,f⟩;obtain⟨t,g,rfl⟩:=Pl.coef_present he;exact⟨RB.str ((h.coef t.1).rb a h1 h2) c,d t g⟩
theorem T6{la lb:List Pl.Tm}(ha:Pl.SB D Y la)(hb:Pl.SB E Z lb)(hD:0<D)(hE:0<E)(d1:D<P2 256)(d2:E<P2 256)(y1:Y<P2 1000)(y2:Z<P2 1000)(ka:Lo la)(kb:Lo lb)(na:la.length<=1000)(nb:lb.length<=1000)(hz:la.length*lb.length*(Y*Z)<P2 b)(hb1:512<=b)(hb2:b<=1920):CF la lb:=by
 refine CF.of (fun t ht=>(ha t ht).rb hD (Af d1 (by omega)) y1) (fun t ht=>(hb t ht).rb hE (Af d2 (by omega)) y2) ka.small kb.small (gN (ha.lcm hD) d1) (gN (hb.lcm hE) d2) (by omega) (by omega) ?_;have hlen:=Dg la lb;have hle:la.length*lb.length<=1000*1000:=j5 na nb;refine Rn (ha.prod hb) (m6 hD hE) (Af (BJ d1 d2) hb1) (by rw[hlen];exact hz) hb2 (fun t ht => ?_) (by rw[hlen];omega);obtain⟨x,hx,y,hy,e⟩:=Ma ht;rw[e,Pl.plE_len (by rw[(ka x hx).1,(kb y hy).1])];refine⟨(ka x hx).1,fun z hz => ?_⟩
 have:=Rm (ka x hx).2 (kb y hy).2 z hz;omega
theorem T7{p:List Pl.Tm}(h:Pl.SB D Y p)(d:0<D)(h1:D<P2 b)(h2:p.length*Y<P2 b)(j:b<=1920)(g:Lo p)(l:p.length<=1000):EH p where
 pre:=fun a s e x=>by
  have i:Pl.SB D Y a:=fun t c=>h t (by rw[<-e];simp[c]);have f:a.length<=p.length:=by rw[<-e];simp
  exact((i.coef x).rb d h1 (gN (gH _ f) h2)).mono (by omega)
 each:=fun t c=>((h t c).rb d h1 (gN (by
  have:1<=p.length:=nV c;have:=gH Y this
  omega) h2)).mono (by omega)
 fits:=Rn h d h1 h2 j (fun t c=>⟨(g t c).1,fun x k=>by have:=(g t c).2 x k;omega⟩) (by omega)
theorem VK(h:(txt q).length<=k):q.num.natAbs<10^k :=
 ib (Rb q).1 (ic (by omega) h)
theorem T8{ts:List Tx}{l:List Pl.Tm}{B:Nat}(h:rdP va ts=some l)(g:Av ts nt d)(o:3<=d)(n:10^d<=P2 B) :
 ∃ D,0<D/\D<P2 (4*(d-2)*nt+1)/\Pl.SB D (P2 (B+(4*(d-2)*nt+1))) l:=by
 have e:∀ t∈l,(txt t.2).length<=d:=by
  intro m e;obtain⟨t,c,j⟩:=F7 h e;have h1:=Cp (Bm j).1;rw[<-h1];exact(g.2 t c).1
 have a:=BH h;have f:Bk (l.map (·.2))<P2 (4*(d-2)*nt+1):=by
  have h1:=OD (l:=l.map (·.2)) (b:=4*(d-2)) (fun q i=>by
   obtain⟨t,c,rfl⟩:=ie.1 i
   exact VI (k:=d-2) (by have:=e t c;omega) (by omega))
  refine Af h1 ?_;have h2:l.length<=nt:=by rw[a];exact g.1
  have:=iB (4*(d-2)) h2;rw[iM];omega
 refine⟨_,Cn (l.map (·.2)),f,(Pl.SB.of (Y:=P2 B) (fun t c => ?_)).mono ?_⟩
 · have:=VK (e t c);omega
 · rw[Bw];exact iB _ (ko f)
open Classical in
noncomputable def mulA (va vb:Int) (oa ob:Option (List Pl.Tm)):Int×List Tx×Int :=
 match oa,ob with
 | some la,some lb=>if va=vb then(if la≠[]/\lb≠[]/\24<Bu la+Bu lb then(0,[],2)else resQ va (Pl.prodT la lb))else(0,[],4)
 | _,_=>(0,[],1)
theorem P5.a{oa ob:Option (List Pl.Tm)}{e:Ending}(h:P5 w va vb oa ob e w'):Cd w (mulA va vb oa ob) e w':=by
 unfold mulA;rcases h with⟨f,g,rfl,rfl,d,h⟩|⟨c,d,h⟩|⟨c,h⟩
 · simp only[gY d];rcases h with⟨b,h⟩|⟨b,h⟩
   · rw[gT b];exact h
   · rw[gY b];exact h
 · cases oa <;> cases ob <;> simp at c;simp only[gT d];exact h
 · cases oa <;> cases ob <;> simp at c <;> exact h
structure Pv(v:Int)(l:List Pl.Tm):Prop where
 v0:0<=v/\v<=6
 can:Pl.Canon 6 l
 inv:∀ t∈l,InV v.toNat t.1
theorem Pv.of{ts:List Tx}{l:List Pl.Tm}(h:rdP v ts=some l):Pv v l:=by
 have a:=(AW h).1;refine⟨a,BW h,?_⟩;obtain⟨k,rfl⟩:∃ k:Nat,v=(k:Int):=⟨v.toNat,by omega⟩;rw[jc];exact VD h
theorem InV.pl{a b:List Int}(r:InV n a)(s:InV n b):InV n (Pl.plE a b):=by
 obtain⟨i,m,j⟩:=r;obtain⟨o,p,k⟩:=s;refine⟨by rw[Pl.plE_len (by omega),i],fun x c => ?_,?_⟩
 · have f:∀ {a b:List Int},(∀ x∈a,0<=x)->(∀ x∈b,0<=x)->∀ x∈Pl.plE a b,0<=x:=by
    intro a
    induction a with
    | nil=>intro b _ _ x c;simp[Pl.plE]at c
    | cons u a ih =>
     intro b h1 h2 x c;cases b with
     | nil=>simp[Pl.plE]at c
     | cons w b =>
      have d:x=u+w\/x∈Pl.plE a b:=by simpa[Pl.plE]using c
      rcases d with rfl|c
      · have:=h1 u (by simp);have:=h2 w (by simp);omega
      · exact ih (fun z e=>h1 z (by simp[e])) (fun z e=>h2 z (by simp[e])) x c
   exact f m p x c
 · unfold AY at j k |-;have q:(Pl.plE a b).take n=Pl.plE (a.take n) (b.take n):=by unfold Pl.plE;rw[List.take_zipWith]
   have g:(a.take n).length=(b.take n).length:=by simp[i,o]
   have l:Pl.plE (a.take n ++ List.replicate (6-(a.take n).length) 0) (b.take n ++ List.replicate (6-(b.take n).length) 0)=Pl.plE (a.take n) (b.take n) ++ List.replicate (6-(a.take n).length) 0:=by
    unfold Pl.plE;rw[List.zipWith_append g,<-g];congr 1;rw[List.zipWith_replicate];simp
   rw[j,k]at l;rw[q,l,Pl.plE_len g]
theorem EI{a b:List Pl.Tm}(c:∀ t∈a,InV n t.1)(d:∀ t∈b,InV n t.1):∀ t∈Pl.prodT a b,InV n t.1:=by
 intro t f;obtain⟨x,g,y,i,e⟩:=Ma f;rw[e];exact(c x g).pl (d y i)
theorem Na{a b:List Pl.Tm}(c:∀ t∈a,InV n t.1)(d:∀ t∈b,InV n t.1):∀ t∈a ++ b,InV n t.1:=fun t e=>(iw.1 e).elim (c t) (d t)
theorem Pv.prod{a b:List Pl.Tm}(c:Pv v a)(d:Pv v b):Pv v (cnP (Pl.prodT a b)) :=
 ⟨c.v0,(Dv fun t e=>(EI c.inv d.inv t e).1).1,Jq (EI c.inv d.inv)⟩
theorem Pv.app{a b:List Pl.Tm}(c:Pv v a)(d:Pv v b):Pv v (cnP (a ++ b)) :=
 ⟨c.v0,(Dv fun t e=>(Na c.inv d.inv t e).1).1,Jq (Na c.inv d.inv)⟩
end Go.Proofs.YtlbmnokpiilfpaaGreatDoor
