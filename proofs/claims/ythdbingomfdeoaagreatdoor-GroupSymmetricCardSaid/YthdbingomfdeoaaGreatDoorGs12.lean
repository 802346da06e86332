/- Part Gs12. -/
import Derived.Test.YthdbingomfdeoaaGreatDoorGs11
import Derived.Shelf.GgSortFunc.Insertion
import Derived.Shelf.SlLaysF
import Derived.Test.YthdbingomfdeoaaGreatDoorProg
import Derived.Shelf.SlSortCmp.Whole1
set_option linter.all false
set_option maxRecDepth 100000
set_option maxHeartbeats 100000000
namespace Go.Proofs.YthdbingomfdeoaaGreatDoor
open Go Go.RowKit
def kS:=@List.foldl_append
def kj:=@Rat.add_zero
variable {B va vars:Int} {l:List Int} {b d k nt:Nat} {a:Option Addr} {q:Rat} {w:World}
theorem NB(k:Nat):∀ (l:List Int) (s:Int),s<=24->Du s (l ++ List.replicate k 0)=Du s l
 | [],s,hs=>by
  induction k with
  | zero=>rfl
  | succ k ih =>
   rw[iM,k9];unfold Du;rw[fl (by omega),Int.add_zero,<-iM (List.replicate k 0),ih];rfl
 | x :: r,s,hs=>by
  rw[jh];unfold Du;by_cases h:x<0\/24-s<x
  · rw[fG h,fG h]
  · rw[fl h,fl h,NB k r (s+x) (by omega)]
theorem J7(h:l.length<=6):Ci (Ab l)=Ci l:=by
 unfold Ci Jk;rw[fl (by rw[AA h];omega),fl (by omega)];unfold Ab;rw[NB _ _ _ (by omega)]
theorem GZ(l:List Int):(Ab l).sum=l.sum:=by
 unfold Ab;rw[List.sum_append];have:∀ k:Nat,(List.replicate k (0:Int)).sum=0:=by
  intro k
  induction k with
  | zero=>rfl
  | succ k ih=>rw[k9,jN,ih];rfl
 rw[this];omega
theorem Pb(k:Nat)(a b:List Int):Pl.ordR (List.replicate k 0 ++ a) (List.replicate k 0 ++ b)=Pl.ordR a b:=by
 induction k with
 | zero=>rfl
 | succ k ih =>
  rw[k9,jh,jh];show(if(0:Int)=0 then _ else _)=_;rw[fG rfl,ih]
theorem NC{a b:List Int}(h:a.length=b.length):Pl.ordE (Ab a) (Ab b)=Pl.ordE a b:=by
 unfold Pl.ordE;rw[GZ,GZ];have c:Pl.ordR (Ab a).reverse (Ab b).reverse=Pl.ordR a.reverse b.reverse:=by
  unfold Ab;rw[List.reverse_append,List.reverse_append,List.reverse_replicate,List.reverse_replicate,h,Pb]
 rw[c]
theorem BC{t:Tx}{m:Pl.Tm}(h:A3 vars t=some m):Bn t.1=some m.2/\m.2≠0/\(t.2.length:Int)=vars/\(∀ e∈t.2,0<=e/\e<=1048576)/\m.1=Ab t.2:=by
 unfold A3 at h;split at h
 · cases h
 · rename_i q b;split at h
   · rename_i a;cases h;exact⟨b,a.1,a.2.1,a.2.2,rfl⟩
   · cases h
theorem CH{ts:List Tx}{l:List Pl.Tm}(h:rdP vars ts=some l):(0<=vars/\vars<=6)/\ts.length<=4096/\(∀ t r,ts=t :: r->Ci t.2=true)/\okT vars ts ts.length/\l=ts.map (fun t=>(A3 vars t).getD z6):=by
 unfold rdP at h;split at h
 · rename_i h1;unfold rdWF at h;split at h
   · rename_i h2;cases h;exact⟨⟨h2.1,h2.2.1⟩,h1.1,h1.2,h2.2.2,rfl⟩
   · cases h
 · cases h
theorem J8{ts:List Tx}{l:List Pl.Tm}(h:rdP vars ts=some l){i:Nat}(hi:i<ts.length):A3 vars (ts.getD i tm0)=some (l.getD i ([],0)):=by
 obtain⟨_,_,_,b,rfl⟩:=CH h;have h1:=b.1 i hi;rw[ja]at h1;obtain⟨m,a⟩:=h1;have h2:ts.getD i tm0=ts[i]:=by simp[hi]
 rw[h2]at a |-;rw[a];simp[hi,a]
theorem FH{ts:List Tx}{l:List Pl.Tm}(h:rdP vars ts=some l):l.length=ts.length:=by
 obtain⟨_,_,_,a,rfl⟩:=CH h;simp
theorem G1{ts:List Tx}{l:List Pl.Tm}(h:rdP vars ts=some l){m:Pl.Tm}(c:m∈l):∃ t∈ts,A3 vars t=some m:=by
 obtain⟨i,b,rfl⟩:=io.1 c;have a:i<ts.length:=by rw[<-FH h];exact b
 have h1:=J8 h a;have h2:l.getD i ([],0)=l[i]:=by simp[b]
 have h3:ts.getD i tm0=ts[i]:=by simp[a]
 rw[h2,h3]at h1;exact⟨ts[i],fE a,h1⟩
theorem Ip{ts:List Tx}(h:∀ i,i+1<ts.length->0<Pl.ordE (ts.getD i tm0).2 (ts.getD (i+1) tm0).2):∀ d i,i+d+1<ts.length->0<Pl.ordE (ts.getD i tm0).2 (ts.getD (i+d+1) tm0).2
 | 0,i,hi=>h i hi
 | d+1,i,hi=>Pl.ordE_trans (Ip h d i (by omega)) (h (i+d+1) (by omega))
theorem Iq{ts:List Tx}{l:List Pl.Tm}(h:rdP vars ts=some l):Pl.Canon 6 l:=by
 obtain⟨w,_,_,s,_⟩:=CH h;have n:=FH h
 have a:∀ i,i<ts.length->(l.getD i ([],0)).1=Ab (ts.getD i tm0).2/\((ts.getD i tm0).2.length:Int)=vars:=fun i b=>by
  obtain⟨_,_,h3,_,h5⟩:=BC (J8 h b);exact⟨h5,h3⟩
 refine⟨fun m e => ?_,fun m e => ?_,?_⟩
 · obtain⟨t,v,f⟩:=G1 h e;obtain⟨_,_,h3,_,h5⟩:=BC f;rw[h5,AA (by omega)]
 · obtain⟨t,v,f⟩:=G1 h e;exact(BC f).2.1
 · rw[gt];intro i j b r q;have c:i<ts.length:=by omega
   have d:j<ts.length:=by omega
   have g:=a i c;have k:=a j d;have o:l.getD i ([],0)=l[i]:=by simp[b]
   have p:l.getD j ([],0)=l[j]:=by simp[r]
   rw[o]at g;rw[p]at k;rw[g.1,k.1,NC (by omega)];have:=Ip s.2 (j-i-1) i (by omega)
   rwa[show i+(j-i-1)+1=j by omega]at this
theorem X8{ts:List Tx}{l:List Pl.Tm}(h:rdP vars ts=some l):wrT vars.toNat l=ts:=by
 have a:=FH h;unfold wrT;apply iQ
 · simpa using a
 · intro i h1 h2;have g:i<l.length:=by simpa using h1
   obtain⟨b,j,f,k,c⟩:=BC (J8 h h2);have d:l.getD i ([],0)=l[i]:=by simp[g]
   have e:ts.getD i tm0=ts[i]:=by simp[h2]
   rw[d]at b c;rw[e]at b f c;rw[List.getElem_map,<-Ie b,c,show vars.toNat=(ts[i]).2.length by omega,LR]
theorem US{ts:List Tx}{l:List Pl.Tm}(h:rdP vars ts=some l):okW l:=by
 have a:=FH h;obtain⟨f,h1,h2,d,_⟩:=CH h;refine⟨by omega,fun m r e => ?_⟩;cases ts with
 | nil=>rw[e]at a;simp at a
 | cons t s =>
  have h3:=J8 h (i:=0) (by simp);rw[e]at h3;obtain⟨_,_,c,_,b⟩:=BC h3;simp only[lf]at c b;rw[b,J7 (by omega)];exact h2 t s rfl
theorem S5(a:0<=B)(h:∀ e∈l,0<=e/\e<=B):∀ e∈Ab l,0<=e/\e<=B:=by
 intro e he;rcases fL.1 he with he|he
 · exact h e he
 · rw[(gR.1 he).2];omega
theorem Fk{ts:List Tx}{l:List Pl.Tm}(h:rdP vars ts=some l):∀ t∈l,t.1.length=6/\∀ x∈t.1,0<=x/\x<=1048576:=by
 intro m a;obtain⟨t,f,d⟩:=G1 h a;obtain⟨_,_,e,b,c⟩:=BC d;exact⟨(Iq h).len m a,by rw[c];exact S5 (by omega) b⟩
theorem G2(n:Nat):n<10^(Lib.decDigits n).length:=by
 have:=W.decV_lt (W.digs_dec n)
 rwa[W.decV_dec]at this
theorem UT(q:Rat):q.num.natAbs<10^(txt q).length/\q.den<10^(txt q).length:=by
 have h1:=G2 q.num.natAbs;have h2:(Lib.decDigits q.num.natAbs).length<=(Lib.itoa q.num).length:=by
  unfold Lib.itoa;split
  · simp
  · have e:q.num.toNat=q.num.natAbs:=by omega
    simp[e]
 have h0:0<(Lib.decDigits q.num.natAbs).length:=List.length_pos_iff.2 (W.dec_ne _);have b:(Lib.itoa q.num).length<=(txt q).length:=by unfold txt;rw[fo];omega
 refine⟨fN h1 (fx (by omega) (by omega)),?_⟩;by_cases a:q.den=1
 · rw[a];exact Nat.one_lt_pow (by omega) (by omega)
 · have h3:=G2 q.den;refine fN h3 (fx (by omega) ?_);unfold txt;rw[fl a];simp;omega
theorem RB.str(h:Pl.RB b q)(a:b<=1920):Fh q:=Lu (Ak h.1 a) (Ak h.2 a)
theorem S6{l:List Rat}(h:∀ q∈l,q.den<P2 b):Id l<P2 (b*l.length+1):=by
 have e:∀ (l:List Rat) (a c:Nat),a<P2 c->(∀ q∈l,q.den<P2 b)->l.foldl (fun a q=>a*(q.den/Nat.gcd a q.den)) a<P2 (b*l.length+c):=by
  intro l
  induction l with
  | nil=>intro a c d _;simpa using d
  | cons q r ih =>
   intro a c d h;rw[jG,fP,jF,je,iU];refine ih _ (b+c) ?_ (fun s f=>h s (by simp[f]));rw[jp b c];exact CD d (fI (gy _ _) (h q (by simp)))
 exact e l 1 1 (by unfold P2;omega) h
theorem Ef{l:List Pl.Tm}(h:Pl.Canon 6 l):Pl.Nrm l:=by
 refine⟨h.len,h.nz,?_⟩;unfold List.Nodup;rw[iV];refine h.desc.imp ?_;intro a b c e;rw[e,Pl.ordE_self]at c;omega
theorem NE:∀ (l:List Int) (s:Int),s<=24->0<=s->0<=Du s l->Du s l=s+l.sum/\s+l.sum<=24/\∀ x∈l,0<=x
 | [],s,h1,h2,_=>⟨by simp[Du],by simpa using h1,by simp⟩
 | x :: r,s,h1,h2,h=>by
  unfold Du at h |-;by_cases hc:x<0\/24-s<x
  · rw[fG hc]at h;omega
  · rw[fl hc]at h |-;obtain⟨g1,g2,g3⟩:=NE r (s+x) (by omega) (by omega) h;refine⟨by rw[g1,jN];omega,by rw[jN];omega,fun y a => ?_⟩;rcases fV.1 a with rfl|a
    · omega
    · exact g3 y a
theorem Fl:∀ {l:List Int},(∀ x∈l,0<=x)->0<=l.sum/\∀ x∈l,x<=l.sum
 | [],_=>by simp
 | y :: r,h=>by
  obtain⟨h1,h2⟩:=Fl (l:=r) (fun x a=>h x (by simp[a]));have h3:=h y (by simp);rw[jN];refine⟨by omega,fun x a => ?_⟩;rcases fV.1 a with rfl|a
  · omega
  · have:=h2 x a;omega
theorem Ly:∀ (l:List Int) (s:Int),0<=s->(∀ x∈l,0<=x)->s+l.sum<=24->Du s l=s+l.sum
 | [],s,_,_,_=>by simp[Du]
 | x :: r,s,h1,h2,h3=>by
  have hr:=Fl (l:=r) (fun y a=>h2 y (by simp[a]));have b:=h2 x (by simp);rw[jN]at h3 |-;unfold Du;rw[fl (by omega),Ly r (s+x) (by omega) (fun y a=>h2 y (by simp[a])) (by omega)];omega
theorem EB:Ci l=true<->l.length<=6/\(∀ x∈l,0<=x)/\l.sum<=24:=by
 unfold Ci Jk;rw[decide_eq_true_iff];constructor
 · intro h;split at h
   · omega
   · obtain⟨h1,h2,h3⟩:=NE l 0 (by omega) (by omega) h;exact⟨by omega,h3,by omega⟩
 · rintro⟨h1,h2,h3⟩;rw[fl (by omega),Ly l 0 (by omega) h2 (by omega)];have:=(Fl h2).1;omega
theorem S7{a b:List Int}(h:0<Pl.ordE a b):b.sum<=a.sum:=by
 unfold Pl.ordE at h;split at h
 · omega
 · have:=Pl.cmpI_pos.1 h;omega
def InV(vars:Nat)(e:List Int):Prop:=e.length=6/\(∀ x∈e,0<=x)/\Ab (e.take vars)=e
theorem InV.pad{vars:Nat}(h:l.length=vars)(c:vars<=6)(b:∀ x∈l,0<=x):InV vars (Ab l):=by
 refine⟨AA (by omega),fun x a => ?_,by rw[<-h,LR]⟩;rcases fL.1 a with a|a
 · exact b x a
 · rw[(gR.1 a).2];omega
theorem Lz{t:Pl.Tm}{r:List Pl.Tm}(h:Pl.Canon 6 (t :: r)):∀ s∈t :: r,s.1.sum<=t.1.sum:=by
 intro s a;rcases fV.1 a with rfl|a
 · omega
 · exact S7 ((j3.1 h.desc).1 s a)
theorem NF{vars:Nat}{t:Pl.Tm}(d:vars<=6)(h:InV vars t.1)(b:t.2≠0)(c:t.1.sum<=24):A3 vars (txt t.2,t.1.take vars)=some t:=by
 unfold A3;simp only[A6];have a:(t.1.take vars).length=vars:=by rw[go,h.1];omega
 rw[fG ⟨b,by rw[a],fun e he=>by
  have h1:=im he;have h2:=Fl h.2.1;have:=h.2.1 e h1;have:=h2.2 e h1
  omega⟩,h.2.2]
theorem S8{vars:Nat}{l:List Pl.Tm}(w:vars<=6)(j:Pl.Canon 6 l)(k:okW l)(b:∀ t∈l,InV vars t.1):rdP vars (wrT vars l)=some l:=by
 have f:∀ t∈l,t.1.sum<=24:=by
  cases l with
  | nil=>simp
  | cons t r =>
   intro s v;have h1:=Lz j s v;have h2:=(EB.1 (k.2 t r rfl)).2.2;omega
 have d:∀ t∈l,A3 vars (txt t.2,t.1.take vars)=some t:=fun t g=>NF w (b t g) (j.nz t g) (f t g);have c:(wrT vars l).length=l.length:=by simp[wrT]
 have a:∀ i,i<l.length->(wrT vars l).getD i tm0=(txt (l.getD i ([],0)).2,(l.getD i ([],0)).1.take vars)/\l.getD i ([],0)∈l:=fun i b=>by
  refine⟨?_,by simp[b]⟩;simp[wrT,b]
 unfold rdP;rw[fG]
 · unfold rdWF;rw[fG]
   · congr 1;unfold wrT;rw[j4]
     conv=>rhs;rw[<-List.map_id l]
     apply gZ;intro t g;simp only[Function.comp_apply,d t g,fW,id_eq]
   · refine⟨by omega,by omega,fun i h => ?_,fun i h => ?_⟩
     · obtain⟨h1,h2⟩:=a i (by omega);rw[h1,d _ h2];rfl
     · obtain⟨h1,h2⟩:=a i (by omega);obtain⟨h3,h4⟩:=a (i+1) (by omega);rw[h1,h3];have p:=b _ h2;have q:=b _ h4;have n:((l.getD i ([],0)).1.take vars).length=((l.getD (i+1) ([],0)).1.take vars).length:=by rw[go,go,p.1,q.1]
       rw[<-NC n,p.2.2,q.2.2];have hp:=gt.1 j.desc i (i+1) (by omega) (by omega) (by omega);simpa[show i<l.length by omega,show i+1<l.length by omega]using hp
 · refine⟨by rw[c];exact k.1,fun t r e => ?_⟩;cases l with
   | nil=>simp[wrT]at e
   | cons m s =>
    have o:(txt m.2,m.1.take vars) :: wrT vars s=t :: r:=e;simp only[lh]at o;rw[<-o.1];have h1:=b m (by simp);show Ci (m.1.take vars)=true;rw[<-J7 (by rw[go];omega),h1.2.2];exact k.2 m s rfl
theorem Qj:∀ (l:List (List Int)),∃ k:List (List Int),k.Nodup/\∀ e,e∈k<->e∈l
 | []=>⟨[],List.nodup_nil,fun _=>Iff.rfl⟩
 | x :: r=>by
  obtain⟨k,h1,h2⟩:=Qj r;by_cases h:x∈k
  · refine⟨k,h1,fun e => ?_⟩;rw[h2,fV];constructor
    · exact Or.inr
    · rintro(rfl|h3)
      · exact(h2 _).1 h
      · exact h3
  · exact⟨x :: k,gG.2 ⟨h,h1⟩,fun e=>by rw[fV,fV,h2]⟩
theorem LA(F:List Int->Rat):∀ (k:List (List Int)) (_:k.Nodup) (e:List Int),Pl.coef (k.map (fun x=>(x,F x))) e=if e∈k then F e else 0
 | [],_,e=>by simp[Pl.coef]
 | x :: r,h,e=>by
  have h1:=gG.1 h;have b:=LA F r h1.2 e;rw[gD];unfold Pl.coef;rw[b];by_cases a:x=e
  · subst a;rw[fG rfl,fl h1.1,fG (by simp)];exact kj _
  · rw[fl a];by_cases he:e∈r
    · rw[fG he,fG (by simp[he])];exact Rat.zero_add _
    · rw[fl he,fl (by simp[he,Ne.symm a])];exact Rat.zero_add _
theorem Wr{p:List Pl.Tm}(h6:∀ t∈p,t.1.length=6):∃ a,Pl.Nrm a/\∀ e,Pl.coef a e=Pl.coef p e:=by
 obtain⟨k,h1,h2⟩:=Qj (p.map (·.1));refine⟨(k.map (fun x=>(x,Pl.coef p x))).filter (fun t=>decide (t.2≠0)),Pl.Nrm.filter ?_ ?_,fun e => ?_⟩
 · intro t b;obtain⟨x,d,rfl⟩:=fy.1 b;obtain⟨s,c,rfl⟩:=fy.1 ((h2 x).1 d);exact h6 s c
 · rw[j4];have:((fun t:Pl.Tm=>t.1) ∘ fun x=>(x,Pl.coef p x))=id:=rfl;rw[this,List.map_id];exact h1
 · rw[Pl.coef_nz,LA _ k h1];by_cases he:e∈k
   · rw[fG he]
   · rw[fl he];refine(Pl.coef_absent fun t b h=>he ((h2 e).2 ?_)).symm;rw[<-h];exact gJ b
theorem Cj{p:List Pl.Tm}(h6:∀ t∈p,t.1.length=6):Pl.Canon 6 (cnP p)/\∀ e,Pl.coef (cnP p) e=Pl.coef p e:=by
 obtain⟨b,h1,h2⟩:=Wr h6;obtain⟨l,h3,h4⟩:=Io b h1.len;have a:=h1.perm h3.symm;have c:Pl.Canon 6 l:=Pl.canon_of_sorted a.len a.nz h4 a.nodup;have e:cnP p=l:=EA h1 h2 h3 h4;rw[e];exact⟨c,fun e=>by rw[Pl.coef_perm h3,h2]⟩
theorem G3{p:List Pl.Tm}(h6:∀ t∈p,t.1.length=6){t:Pl.Tm}(a:t∈cnP p):∃ s∈p,s.1=t.1:=by
 obtain⟨h1,h2⟩:=Cj h6;have h3:Pl.coef p t.1≠0:=by
  rw[<-h2,Pl.coef_mem (Ef h1).nodup a];exact h1.nz t a
 exact Pl.coef_present h3
theorem G4{p:List Pl.Tm}{vars:Nat}(hi:∀ t∈p,InV vars t.1):∀ t∈cnP p,InV vars t.1:=fun t a=>by
 obtain⟨s,b,e⟩:=G3 (fun t a=>(hi t a).1) a;rw[<-e];exact hi s b
theorem Rm{p:List Pl.Tm}{vars:Nat}(c:vars<=6)(hi:∀ t∈p,InV vars t.1):(okW (cnP p)/\resQ (vars:Int) p=((vars:Int),wrT vars (cnP p),0)/\rdP vars (wrT vars (cnP p))=some (cnP p))\/(¬ okW (cnP p)/\resQ (vars:Int) p=(0,[],2)):=by
 by_cases a:okW (cnP p)
 · refine Or.inl ⟨a,?_,S8 c (Cj (fun t b=>(hi t b).1)).1 a (G4 hi)⟩;unfold resQ;rw[fG a,ix]
 · refine Or.inr ⟨a,?_⟩;unfold resQ;rw[fl a]
theorem Mq{vars:Nat}{ts:List Tx}{l:List Pl.Tm}(h:rdP vars ts=some l):∀ t∈l,InV vars t.1:=by
 intro m c;obtain⟨t,g,d⟩:=G1 h c;obtain⟨_,_,f,a,b⟩:=BC d;rw[b];exact InV.pad (by omega) (by have:=(CH h).1;omega) (fun x e=>(a x e).1)
namespace Aw
def s1:List UInt8:=[49]
def s12:List UInt8:=[49,47,50]
def XW:List UInt8:=[45,49,47,50]
def s7:List UInt8:=[55]
def e0:List Int:=[1,0,0,0,0,0]
def T1:List Tx:=[(s1,[1,0])]
def T2:List Tx:=[(s1,[2,0])]
def M:List Tx:=[(s12,[1,1]),(s1,[1,0]),(XW,[1,1])]
end Aw
def Dv(ts:List Tx)(nt d:Nat):Prop:=ts.length<=nt/\∀ t∈ts,t.1.length<=d/\t.2.length<=12
instance (ts:List Tx) (nt d:Nat):Decidable (Dv ts nt d):=inferInstanceAs (Decidable (_/\_))
theorem Fm{n c:Nat}{ts:List Tx}(O:CP w a n c ts) :
 Calls Tryz.prog 5 #[.agg #[.int .i64 va,.slice a n c],.int .i64 nt,.int .i64 d] w fun e W=>e = .returned (.bool (decide (Dv ts nt d)))/\Ext w W:=by
 have s:=O.len;obtain⟨rx,N,_,v⟩:=O;have G:=qh v;have f:=qh s;clear v s;have S:=N.le
 go_enter Tryz.func5,Tryz.ntmps5
 go_upto_region 1 with(fail)
 refine Bv ?_;intro X q l K;have U:=l.c 0 rfl;have L:=l.c 1 rfl;clear l K;by_cases R:nt<n
 · have b:Hid (decide (Dv ts nt d)=false):=qh (by
    apply fK;rintro⟨h,_⟩;have:=f.out
    omega)
   have J:(nt:Int)<(n:Int):=by omega
   clear R;go_wp2;go_ret;exact⟨by rw[b.out];rfl,q⟩
 · have J:¬ (nt:Int)<(n:Int):=by omega
   go_wp2
   go_loopw[7] (fun i wr=>∃ k:Nat,k<=n/\i = .int .i64 k/\Ext X wr/\Hid (∀ i,i<k->(ts.getD i tm0).1.length<=d/\(ts.getD i tm0).2.length<=12)) (fun i _=>n-(intOf i).toNat)
   case atStart=>exact⟨0,fu _,rfl,Ext.refl _,qh (fun i C=>absurd C (by omega))⟩
   case round =>
    obtain⟨k,hk,rfl,m,M⟩:=hrel;have B:=q.trans m;have V:=m.cell L;by_cases g:k<n
    · obtain⟨Z,o1,rfl,o⟩:=(N.ext B).rd (by omega);obtain⟨s1,Y,D,c1,x,y,A⟩:=G.out k g;have P:=o k g 0 (by omega);have Q:=o k g 1 (by omega);rw[x]at P Q;simp only[lf,lg,gE]at P Q;have r:=A.len;have z:s1.size=(ts.getD k tm0).1.length:=by rw[<-y,AD]
      have j:Hid (s1.size=(ts.getD k tm0).1.length/\(ts.getD k tm0).2.length=D):=qh ⟨z,r⟩;have p:Hid (ts.getD k tm0∈ts):=qh (by simp[f.out,g]);clear o x y A r z;by_cases h1:d<s1.size
      · have H:(d:Int)<(s1.size:Int):=by omega
        have b:Hid (decide (Dv ts nt d)=false):=qh (by
         apply fK;rintro⟨_,h⟩;have:=h _ p.out;have:=j.out
         omega)
        go_wp2;go_ret;exact⟨by rw[b.out];rfl,B⟩
      · have H:¬ (d:Int)<(s1.size:Int):=by omega
        by_cases h2:12<D
        · have I:(12:Int)<(D:Int):=by omega
          have b:Hid (decide (Dv ts nt d)=false):=qh (by
           apply fK;rintro⟨_,h⟩;have:=h _ p.out;have:=j.out
           omega)
          go_wp2;go_ret;exact⟨by rw[b.out];rfl,B⟩
        · have I:¬ (12:Int)<(D:Int):=by omega
          have F:Hid (∀ i,i<k+1->(ts.getD i tm0).1.length<=d/\(ts.getD i tm0).2.length<=12):=qh (fun i C=>by
           by_cases e:i=k
           · subst e;have:=j.out;omega
           · exact M.out i (by omega))
          go_wp2;go_roundw
          case rel=>exact⟨k+1,by omega,by go_num,m,F⟩
          case measure=>simp[intOf];omega
    · have E:Hid (decide (Dv ts nt d)=true):=qh (by
       apply gn;refine⟨by have:=f.out;omega,fun t T => ?_⟩;obtain⟨i,C,rfl⟩:=io.1 T;have:=M.out i (by have:=f.out;omega)
       simpa[C]using this)
      go_wp2;go_ret;exact⟨by rw[E.out];rfl,B⟩
theorem CP.nil(w:World):CP w none 0 0 []:=⟨[],SlK.nil w 2,rfl,fun i a=>absurd a (by omega)⟩
theorem UU(h:(txt q).length<=k+2)(h1:1<=k):q.den<P2 (4*k):=by
 have e:(16:Nat)^k=P2 (4*k):=by unfold P2;rw[ju]
 have b:10^k<=16^k:=iJ (by omega) _;rw[<-e];by_cases a:q.den=1
 · rw[a];exact Nat.one_lt_pow (by omega) (by omega)
 · have h3:=G2 q.den;have h4:(Lib.decDigits q.den).length<=k:=by
    unfold txt at h;rw[fl a]at h;have h5:0<(Lib.itoa q.num).length:=by
     unfold Lib.itoa;split
     · simp
     · exact List.length_pos_iff.2 (W.dec_ne _)
    simp at h;omega
   exact fN h3 (ft (fx (by omega) h4) b)
section
variable {va:Int} {ts:List Tx} {l:List Pl.Tm}
theorem NG(b:Dv ts nt d)(a:d<=570):∀ t∈ts,t.1.length<=570:=fun t c=>ft (b.2 t c).1 a
end
end Go.Proofs.YthdbingomfdeoaaGreatDoor
namespace Go.Proofs.YthdbingomfdeoaaGreatDoor.Pl
theorem lin_congr{F G:List Int->Rat}:∀ {l:List Tm},(∀ t∈l,F t.1=G t.1)->lin F l=lin G l
 | [],_=>rfl
 | t :: r,h=>by
  unfold lin;rw[h t (by simp),lin_congr (l:=r) (fun s a=>h s (by simp[a]))]
end Go.Proofs.YthdbingomfdeoaaGreatDoor.Pl
namespace Go.Proofs.YthdbingomfdeoaaGreatDoor
open Go Go.RowKit
variable {f:Act} {ops:Array Oper} {Q:Exit->Act->World->Prop} {va:Int} {L gs ps:List (List Int)} {k l m p x xs y:List Int} {rest:List Oper} {D E Y Z b g n:Nat} {o:Oper} {a:Option Addr} {q:Rat}
namespace Pl
theorem plE_len{a b:List Int}(h:a.length=b.length):(plE a b).length=a.length:=by
 unfold plE;rw[List.length_zipWith,h,Nat.min_self]
end Pl
namespace Pl
def QB(D Y:Nat)(q:Rat):Prop:=∃ z:Int,q*(D:Rat)=(z:Rat)/\z.natAbs<=Y
theorem QB.zero(D Y:Nat):QB D Y 0:=⟨0,by rw[Rat.zero_mul];rfl,by simp⟩
theorem QB.add{p:Rat}(hp:QB D Y p)(a:QB D Z q):QB D (Y+Z) (p+q):=by
 obtain⟨x,h1,h2⟩:=hp;obtain⟨y,h3,h4⟩:=a;refine⟨x+y,by rw[Rat.add_mul,h1,h3,mj],?_⟩;have:=m6 x y;omega
theorem QB.mul{p:Rat}(hp:QB D Y p)(a:QB E Z q):QB (D*E) (Y*Z) (p*q):=by
 obtain⟨x,h1,h2⟩:=hp;obtain⟨y,h3,h4⟩:=a;refine⟨x*y,?_,by rw[ia];exact gL h2 h4⟩;rw[kg,kh,<-h1,<-h3]
 grind
theorem QB.neg(h:QB D Y q):QB D Y (-q):=by
 obtain⟨x,h1,h2⟩:=h;exact⟨-x,by rw[Rat.neg_mul,h1,Rat.intCast_neg],by rw[kd];exact h2⟩
theorem QB.mono(h:QB D Y q)(a:Y<=Z):QB D Z q:=by
 obtain⟨x,h1,h2⟩:=h;exact⟨x,h1,by omega⟩
theorem QB.scale(h:QB D Y q)(k:Nat):QB (D*k) (Y*k) q:=by
 obtain⟨x,h1,h2⟩:=h;refine⟨x*k,?_,by rw[ia];exact gL h2 (lrf _)⟩;rw[kg,kh,<-h1,<-iT];rfl
theorem QB.parts(h:QB D Y q)(c:0<D):q.num.natAbs<=Y/\q.den∣D:=by
 obtain⟨z,h1,h2⟩:=h;have h0:(D:Rat)≠0:=fun h=>by have:=mC.1 h;omega
 have e:q=mkRat z D:=by
  rw[mkRat_div,<-h1,iT,mJ _ h0,kR]
 obtain⟨b,a⟩:=rat_frac (n:=z) (d:=D) (by omega);rw[e];refine⟨ft (mkRat_le (by omega)).1 h2,?_⟩;rw[a];exact Nat.div_dvd_of_dvd (jb _ _)
theorem QB.rb(h:QB D Y q)(a:0<D)(h1:D<P2 b)(h2:Y<P2 b):RB b q :=
 ⟨fI (h.parts a).1 h2,fI (kL a (h.parts a).2) h1⟩
theorem QB.of(a:q.den∣D)(b:q.num.natAbs<=Y):QB D (Y*D) q:=by
 refine⟨zsc q D,(SW a).symm,?_⟩;unfold zsc;rw[ia];exact gL b (gy _ _)
def SB(D Y:Nat)(l:List Tm):Prop:=∀ t∈l,QB D Y t.2
theorem SB.coef{D Y:Nat}(e:List Int):∀ {l:List Tm},SB D Y l->QB D (l.length*Y) (coef l e)
 | [],_=>QB.zero _ _
 | t :: r,h=>by
  have h1:QB D Y (if t.1=e then t.2 else 0):=by
   split
   · exact h t (by simp)
   · exact QB.zero _ _
  have h2:=QB.add h1 (SB.coef e (l:=r) (fun s a=>h s (by simp[a])));exact h2.mono (by rw[fP,ip];omega)
theorem SB.mono{D Y Z:Nat}{l:List Tm}(h:SB D Y l)(b:Y<=Z):SB D Z l:=fun t a=>(h t a).mono b
theorem SB.scale{D Y:Nat}{l:List Tm}(h:SB D Y l)(k:Nat):SB (D*k) (Y*k) l:=fun t a=>(h t a).scale k
theorem SB.app{a b:List Tm}(c:SB D Y a)(d:SB D Y b):SB D Y (a ++ b):=fun t e=>(fL.1 e).elim (c t) (d t)
theorem SB.app2{a b:List Tm}(c:SB D Y a)(d:SB E Z b):SB (D*E) (Y*E+Z*D) (a ++ b):=by
 refine SB.app ((c.scale E).mono (by omega)) ?_;rw[fJ D E];exact(d.scale D).mono (by omega)
theorem Ws(a b:Nat):a*(b/Nat.gcd a b)=Nat.lcm a b:=by
 unfold Nat.lcm;rw[lG _ (jb a b)]
theorem S9{l:List Rat}(h:∀ q∈l,q.den∣D):Id l∣D:=by
 have c:∀ (l:List Rat) (a:Nat),a∣D->(∀ q∈l,q.den∣D)->l.foldl (fun a q=>a*(q.den/Nat.gcd a q.den)) a∣D:=by
  intro l
  induction l with
  | nil=>intro a b _;exact b
  | cons q r ih =>
   intro a b h;rw[jG,Ws];exact ih _ (Nat.lcm_dvd b (h q (by simp))) (fun s d=>h s (by simp[d]))
 exact c l 1 (Nat.one_dvd _) h
theorem SB.lcm{l:List Tm}(h:SB D Y l)(a:0<D):Id (l.map (·.2))<=D:=by
 refine kL a (S9 fun q b => ?_);obtain⟨t,c,rfl⟩:=fy.1 b;exact((h t c).parts a).2
theorem SB.of{Y:Nat}{l:List Tm}(h:∀ t∈l,t.2.num.natAbs<=Y):SB (Id (l.map (·.2))) (Y*Id (l.map (·.2))) l :=
 fun t a=>QB.of (Nw (gJ a)) (h t a)
end Pl
theorem Rn{p q:List Pl.Tm}(h:∀ e,Pl.coef p e=Pl.coef q e):cnP p=cnP q:=by
 unfold cnP;simp only[h]
theorem G5{p:List Pl.Tm}(h6:∀ t∈p,t.1.length=6):(cnP p).length<=p.length:=by
 have h:=Pl.nodup_le ((cnP p).map (·.1)) (p.map (·.1)) (Ef (Cj h6).1).nodup (fun e he=>by
  obtain⟨t,b,rfl⟩:=fy.1 he;obtain⟨s,a,e⟩:=G3 h6 b;rw[<-e]
  exact gJ a)
 simpa using h
theorem SB.cn{p:List Pl.Tm}(h6:∀ t∈p,t.1.length=6)(h:Pl.SB D Y p):Pl.SB D (p.length*Y) (cnP p):=by
 intro t a;obtain⟨h1,h2⟩:=Cj h6;rw[<-Pl.coef_mem (Ef h1).nodup a,h2];exact h.coef t.1
theorem X7(h:Pl.RB b q):(txt q).length<=2*(b/3)+4:=by
 have h1:=VL h.1;have h2:=W7 h.2;unfold txt;rw[fo];split
 · simp;omega
 · simp;omega
def Lo(l:List Pl.Tm):Prop:=∀ t∈l,t.1.length=6/\∀ x∈t.1,0<=x/\x<=1048576
theorem UV{p:List Pl.Tm}(h:Pl.SB D Y p)(a:0<D)(h1:D<P2 b)(h2:p.length*Y<P2 b)(c:b<=1920)(d:∀ t∈p,t.1.length=6/\∀ x∈t.1,0<=x/\x<=1099511627776)(f:p.length<=1000000):Qg p:=by
 refine⟨fun e he => ?_,f⟩;obtain⟨t,g,rfl⟩:=Pl.coef_present he;exact⟨RB.str ((h.coef t.1).rb a h1 h2) c,d t g⟩
theorem X6{p:List Pl.Tm}(h:Pl.SB D Y p)(d:0<D)(h1:D<P2 b)(h2:p.length*Y<P2 b)(j:b<=1920)(g:Lo p)(l:p.length<=1000):Lw p where
 pre:=fun a s e x=>by
  have i:Pl.SB D Y a:=fun t c=>h t (by rw[<-e];simp[c]);have f:a.length<=p.length:=by rw[<-e];simp
  exact((i.coef x).rb d h1 (fI (fa _ f) h2)).mono (by omega)
 each:=fun t c=>((h t c).rb d h1 (fI (by
  have:1<=p.length:=gW c;have:=fa Y this
  omega) h2)).mono (by omega)
 fits:=UV h d h1 h2 j (fun t c=>⟨(g t c).1,fun x k=>by have:=(g t c).2 x k;omega⟩) (by omega)
theorem UW{k:Nat}(h:(txt q).length<=k):q.num.natAbs<10^k :=
 fN (UT q).1 (fx (by omega) h)
theorem Wt{ts:List Tx}{l:List Pl.Tm}{nt d B:Nat}(h:rdP va ts=some l)(g:Dv ts nt d)(o:3<=d)(n:10^d<=P2 B) :
 ∃ D,0<D/\D<P2 (4*(d-2)*nt+1)/\Pl.SB D (P2 (B+(4*(d-2)*nt+1))) l:=by
 have e:∀ t∈l,(txt t.2).length<=d:=by
  intro m e;obtain⟨t,c,j⟩:=G1 h e;have h1:=Ie (BC j).1;rw[<-h1];exact(g.2 t c).1
 have a:=FH h;have f:Id (l.map (·.2))<P2 (4*(d-2)*nt+1):=by
  have h1:=S6 (l:=l.map (·.2)) (b:=4*(d-2)) (fun q i=>by
   obtain⟨t,c,rfl⟩:=fy.1 i
   exact UU (k:=d-2) (by have:=e t c;omega) (by omega))
  refine Ak h1 ?_;have h2:l.length<=nt:=by rw[a];exact g.1
  have:=fX (4*(d-2)) h2;rw[fq];omega
 refine⟨_,OY (l.map (·.2)),f,(Pl.SB.of (Y:=P2 B) (fun t c => ?_)).mono ?_⟩
 · have:=UW (e t c);omega
 · rw[Dy];exact fX _ (iy f)
theorem J9{v:Int}{p q:List Pl.Tm}(h:∀ e,Pl.coef p e=Pl.coef q e):resQ v p=resQ v q:=by
 unfold resQ;rw[Rn h]
theorem Mr{v:Int}{p:List Pl.Tm}(a:0<=v/\v<=6)(hi:∀ t∈p,InV v.toNat t.1)(h:(resQ v p).2.2=0):(resQ v p).1=v/\rdP v (resQ v p).2.1=some (cnP p):=by
 obtain⟨k,rfl⟩:∃ k:Nat,v=(k:Int):=⟨v.toNat,by omega⟩;rw[ix]at hi;rcases Rm (vars:=k) (by omega) hi with⟨h1,h2,h3⟩|⟨h1,h2⟩
 · rw[h2];exact⟨rfl,h3⟩
 · rw[h2]at h;cases h
structure Pv(v:Int)(l:List Pl.Tm):Prop where
 v0:0<=v/\v<=6
 can:Pl.Canon 6 l
 inv:∀ t∈l,InV v.toNat t.1
theorem Pv.of{v:Int}{ts:List Tx}{l:List Pl.Tm}(h:rdP v ts=some l):Pv v l:=by
 have a:=(CH h).1;refine⟨a,Iq h,?_⟩;obtain⟨k,rfl⟩:∃ k:Nat,v=(k:Int):=⟨v.toNat,by omega⟩;rw[ix];exact Mq h
theorem InV.pl{a b:List Int}(r:InV n a)(s:InV n b):InV n (Pl.plE a b):=by
 obtain⟨i,m,j⟩:=r;obtain⟨o,p,k⟩:=s;refine⟨by rw[Pl.plE_len (by omega),i],fun x c => ?_,?_⟩
 · have f:∀ {a b:List Int},(∀ x∈a,0<=x)->(∀ x∈b,0<=x)->∀ x∈Pl.plE a b,0<=x:=by
    intro a
    induction a with
    | nil=>intro b _ _ x c;simp[Pl.plE]at c
    | cons u a ih =>
     intro b h1 h2 x c;cases b with
     | nil=>simp[Pl.plE]at c
     | cons w b =>
      have d:x=u+w\/x∈Pl.plE a b:=by simpa[Pl.plE]using c
      rcases d with rfl|c
      · have:=h1 u (by simp);have:=h2 w (by simp);omega
      · exact ih (fun z e=>h1 z (by simp[e])) (fun z e=>h2 z (by simp[e])) x c
   exact f m p x c
 · unfold Ab at j k |-;have q:(Pl.plE a b).take n=Pl.plE (a.take n) (b.take n):=by unfold Pl.plE;rw[List.take_zipWith]
   have g:(a.take n).length=(b.take n).length:=by simp[i,o]
   have l:Pl.plE (a.take n ++ List.replicate (6-(a.take n).length) 0) (b.take n ++ List.replicate (6-(b.take n).length) 0)=Pl.plE (a.take n) (b.take n) ++ List.replicate (6-(a.take n).length) 0:=by
    unfold Pl.plE;rw[List.zipWith_append g,<-g];congr 1;rw[List.zipWith_replicate];simp
   rw[j,k]at l;rw[q,l,Pl.plE_len g]
theorem Ms{a b:List Pl.Tm}(c:∀ t∈a,InV n t.1)(d:∀ t∈b,InV n t.1):∀ t∈a ++ b,InV n t.1:=fun t e=>(fL.1 e).elim (c t) (d t)
theorem Pv.app{v:Int}{a b:List Pl.Tm}(c:Pv v a)(d:Pv v b):Pv v (cnP (a ++ b)) :=
 ⟨c.v0,(Cj fun t e=>(Ms c.inv d.inv t e).1).1,G4 (Ms c.inv d.inv)⟩
theorem Ro{v:Int}{p:List Pl.Tm}(hi:∀ t∈p,InV v.toNat t.1)(c:p.length<=4096)(d:∀ t∈p,t.1.sum<=24):(resQ v p).2.2=0:=by
 have h6:∀ t∈p,t.1.length=6:=fun t f=>(hi t f).1;unfold resQ;rw[fG];refine⟨ft (G5 h6) c,fun t r e => ?_⟩;obtain⟨s,a,b⟩:=G3 h6 (t:=t) (by rw[e];simp);rw[<-b];exact EB.2 ⟨by rw[h6 s a];omega,(hi s a).2.1,d s a⟩
theorem Ka{a:Nat}(h:a<b):P2 a<P2 b:=Nat.pow_lt_pow_right (by omega) h
structure Bd(v:Int)(N d y:Nat)(l:List Pl.Tm):Prop where
 pv:Pv v l
 lo:Lo l
 len:l.length<=N
 sb:∃ D,0<D/\D<P2 d/\Pl.SB D (P2 y) l
section
variable {v:Int} {N M d e y z:Nat} {la lb:List Pl.Tm} {ts:List Tx}
theorem Bd.of{nt k B:Nat}(h:rdP v ts=some la)(a:Dv ts nt k)(c:3<=k)(b:10^k<=P2 B):Bd v nt (4*(k-2)*nt+1) (B+(4*(k-2)*nt+1)) la :=
 ⟨Pv.of h,Fk h,by rw[FH h];exact a.1,Wt h a c b⟩
theorem Lo.of{l:List Pl.Tm}(h:rdP v ts=some l):Lo l:=Fk h
theorem Bd.app1{m:Nat}(f:Bd v N d y la)(g:Bd v M e z lb)(h1:y+e<m)(h2:z+d<m):(la ++ lb).length<=N+M/\∃ D,0<D/\D<P2 (d+e)/\Pl.SB D (P2 m) (la ++ lb):=by
 obtain⟨D,i,b,j⟩:=f.sb;obtain⟨E,k,c,l⟩:=g.sb;refine⟨by have:=f.len;have:=g.len;rw[fo];omega,D*E,jj i k,CD b c,(j.app2 l).mono ?_⟩;have n:P2 y*E<=P2 (m-1):=by
  refine ft ?_ (OI (a:=y+e) (by omega));rw[Dy];exact fX _ (iy c)
 have o:P2 z*D<=P2 (m-1):=by
  refine ft ?_ (OI (a:=z+d) (by omega));rw[Dy];exact fX _ (iy b)
 have p:P2 m=P2 (m-1)*2:=by
  conv=>lhs;rw[show m=m-1+1 by omega,Dy]
  rfl
 omega
theorem Bd.app{k m:Nat}(a:Bd v N d y la)(b:Bd v M e z lb)(h:rdP v ts=some (cnP (la ++ lb)))(h1:y+e<m)(h2:z+d<m)(j:N+M<=P2 k):Bd v (N+M) (d+e) (k+m) (cnP (la ++ lb)):=by
 have h6:∀ t∈la ++ lb,t.1.length=6:=fun t l=>(Ms a.pv.inv b.pv.inv t l).1;obtain⟨c,D,f,g,i⟩:=a.app1 b h1 h2;refine⟨a.pv.app b.pv,Fk h,ft (G5 h6) c,D,f,g,(SB.cn h6 i).mono ?_⟩;rw[Dy];exact fa _ (ft c j)
theorem Bd.text(f:Bd v N d y la)(h:rdP v ts=some la)(h1:d<=840)(h2:y<840):∀ t∈ts,t.1.length<=570:=by
 intro t a;obtain⟨D,b,c,e⟩:=f.sb;have i:=X8 h;rw[<-i]at a;obtain⟨m,g,rfl⟩:=fy.1 a;have:=X7 ((e m g).rb b (Ak c h1) (Ka h2));show(txt m.2).length<=570;omega
end
def mp(n:Nat)(a e:List Int):List Int:=Ab (mvd a (e.take n))
def D6(n:Nat)(a:List Int)(l:List Pl.Tm):List Pl.Tm:=l.map fun t=>(mp n a t.1,t.2)
theorem CR:(Ab l).take l.length=l:=by unfold Ab;exact List.take_left
theorem Rp{l m:List Rat}(h:l.Perm m):∀ b,l.foldl (·*·) b=m.foldl (·*·) b:=by
 induction h with
 | nil=>exact fun b=>rfl
 | cons x _ ih=>exact fun b=>ih _
 | swap x y l =>
  intro b;show l.foldl (·*·) (b*y*x)=l.foldl (·*·) (b*x*y);rw[iT,lQ y x,<-iT]
 | trans _ _ h1 h2=>exact fun b=>(h1 b).trans (h2 b)
theorem Ir(pt:List Rat)(a:List Int):∀ k,Pl.valE pt a k=((List.range k).map fun v=>(pt.getD v 0)^(a.getD v 0).toNat).foldl (·*·) 1
 | 0=>rfl
 | k+1=>by
  rw[List.range_succ,fY,kS,<-Ir];rfl
theorem G6(pt:List Rat):∀ l:List Pl.Tm,Pl.evq pt l=Pl.lin (fun e=>Pl.valE pt e pt.length) l
 | []=>rfl
 | t :: r=>by
  show t.2*_+Pl.evq pt r=t.2*_+_;rw[G6 pt r]
theorem UX{pt:List Rat}{p q:List Pl.Tm}(h:∀ e,Pl.coef p e=Pl.coef q e):Pl.evq pt p=Pl.evq pt q:=by
 rw[G6,G6];exact Pl.lin_ext h
section
variable {n:Nat} {a b e f:List Int} {l k p q:List Pl.Tm}
theorem InV.tk(h:InV n e)(a:n<=6):(e.take n).length=n:=by rw[go,h.1];omega
theorem Mt(b:n<=6)(h:InV n e):(mp n a e).take n=mvd a (e.take n):=by
 have h1:(mvd a (e.take n)).length=n:=by rw[AV];exact h.tk b
 have:=CR (l:=mvd a (e.take n));rw[h1]at this;exact this
theorem Kb(hp:Af a=true)(c:a.length=n)(b:n<=6)(h:InV n e):InV n (mp n a e) :=
 InV.pad (by rw[AV];exact h.tk b) b fun x d=>h.2.1 x (im (Vi hp (by rw[h.tk b,c]) d))
theorem Xj(hp:Af a=true)(d:Af b=true)(g:a.length=n)(f:b.length=n)(c:n<=6)(h:InV n e):mp n a (mp n b e)=mp n (comp a b) e:=by
 show Ab (mvd a ((mp n b e).take n))=_;rw[Mt c h,MK hp d (by omega) (by rw[h.tk c,f])];rfl
theorem Pc(hp:Af a=true)(b:a.length=n)(c:n<=6)(h:InV n e):(mp n a e).sum=e.sum:=by
 unfold mp;rw[GZ,T0 (TZ hp (by rw[h.tk c,b]))]
 conv=>rhs;rw[<-h.2.2,GZ]
theorem Wu(hp:Af a=true)(g:a.length=n)(b:n<=6)(h:InV n e)(c:InV n f)(he:mp n a e=mp n a f):e=f:=by
 have h1:mvd a (e.take n)=mvd a (f.take n):=by rw[<-Mt b h,<-Mt b c,he]
 have h2:e.take n=f.take n:=by
  apply iQ (by rw[h.tk b,c.tk b]);intro i j l;rw[h.tk b]at j;have d:=Dx hp (m:=e.take n) (by rw[h.tk b,g]) (i:=i) (by omega);have k:=Dx hp (m:=f.take n) (by rw[c.tk b,g]) (i:=i) (by omega);rw[h1,k]at d;simpa[h.tk b,c.tk b,j]using d.symm
 rw[<-h.2.2,<-c.2.2,h2]
theorem Qk(F:List Int->Rat):∀ l:List Pl.Tm,Pl.lin F (D6 n a l)=Pl.lin (fun m=>F (mp n a m)) l
 | []=>rfl
 | t :: r=>by
  show t.2*F (mp n a t.1)+Pl.lin F (D6 n a r)=t.2*F (mp n a t.1)+_;rw[Qk F r]
theorem NH(hp:Af a=true)(c:a.length=n)(d:n<=6)(hi:∀ t∈l,InV n t.1)(h:InV n e):Pl.coef (D6 n a l) (mp n a e)=Pl.coef l e:=by
 rw[Pl.coef_lin,Pl.coef_lin,Qk];refine Pl.lin_congr fun t f => ?_;show(if mp n a t.1=mp n a e then(1:Rat)else 0)=if t.1=e then 1 else 0
 by_cases b:t.1=e
 · rw[b,fG rfl,fG rfl]
 · rw[fl b,fl fun he=>b (Wu hp c d (hi t f) h he)]
theorem JD{u:Pl.Tm}(hu:u∈D6 n a l):∃ t∈l,u=(mp n a t.1,t.2):=by
 obtain⟨t,b,rfl⟩:=fy.1 hu;exact⟨t,b,rfl⟩
theorem JE(hp:Af a=true)(b:a.length=n)(c:n<=6)(hi:∀ t∈l,InV n t.1):∀ u∈D6 n a l,InV n u.1:=by
 intro u hu;obtain⟨t,d,rfl⟩:=JD hu;exact Kb hp b c (hi t d)
theorem Mu:(D6 n a l).length=l.length:=fq ..
end
noncomputable def actA (va:Int) (a:List Int) (o:Option (List Pl.Tm)):Int×List Tx×Int:=match o with | some l=>resQ va (D6 va.toNat a l) | none=>(0,[],1)
section
variable {va:Int} {n N d y:Nat} {a b:List Int} {l k:List Pl.Tm} {ts:List Tx}
theorem LB(h:rdP va ts=some l):∀ t∈l,t.1.sum<=24:=by
 have a:=Iq h;have b:=US h;cases l with
 | nil=>intro t d;cases d
 | cons t r =>
  intro s c;have h1:=Lz a s c;have h2:=(EB.1 (b.2 t r rfl)).2.2;omega
theorem Pd(d:Pv (n:Int) l)(hp:Af a=true)(g:a.length=n)(i:n<=6){t:Pl.Tm}(c:t∈cnP (D6 n a l)):∃ s∈l,t=(mp n a s.1,s.2):=by
 have f:=JE hp g i d.inv;have j:=Cj fun t c=>(f t c).1;obtain⟨u,hu,e⟩:=G3 (fun t c=>(f t c).1) c;obtain⟨s,b,rfl⟩:=JD hu;have h1:=Pl.coef_mem (Ef j.1).nodup c;rw[<-e,j.2,NH hp g i d.inv (d.inv s b),Pl.coef_mem (Ef d.can).nodup b]at h1;exact⟨s,b,Prod.ext e.symm h1.symm⟩
theorem Bd.act(h:Bd (n:Int) N d y l)(hp:Af a=true)(c:a.length=n)(e:n<=6)(h3:rdP (n:Int) ts=some (cnP (D6 n a l))):Bd (n:Int) N d y (cnP (D6 n a l)):=by
 have j:=JE hp c e h.pv.inv;obtain⟨D,f,g,i⟩:=h.sb;refine⟨Pv.of h3,Fk h3,ft (G5 fun t b=>(j t b).1) (by rw[Mu];exact h.len),D,f,g,fun t b => ?_⟩;obtain⟨s,k,rfl⟩:=Pd h.pv hp c e b;exact i s k
end
structure Bx where
 g:Nat
 v:Int
 a:Option Addr
 n:Nat
 c:Nat
 ts:List Tx
def PBx(w0 w:World)(l:List Bx):Prop:=Ext w0 w/\∀ p∈l,Arr w p.g 24 (AF p.v p.a p.n p.c)/\CP w p.a p.n p.c p.ts
section
variable {w0 w w1 w':World} {l:List Bx} {i:Nat}
theorem PBx.e(h:PBx w0 w l):Ext w0 w:=h.1
theorem PBx.at{v:Int}{c:Nat}{ts:List Tx}(h:PBx w0 w l)(hi:l[i]?=some ⟨g,v,a,n,c,ts⟩):Arr w g 24 (AF v a n c)/\CP w a n c ts:=h.2 _ (gS hi)
theorem PBx.c{g:Nat}{v:Int}{a:Option Addr}{n c:Nat}{ts:List Tx}(h:PBx w0 w l)(hi:l[i]?=some ⟨g,v,a,n,c,ts⟩):w.cell? ⟨g,0,none⟩=some (.int .i64 v)/\w.cell? ⟨g,1,none⟩=some (.slice a n c) :=
 ⟨(h.at hi).1.cell (i:=0) (by simp[AF]),(h.at hi).1.cell (i:=1) (by simp[AF])⟩
theorem PBx.t{v:Int}{c:Nat}{ts:List Tx}(h:PBx w0 w l)(hi:l[i]?=some ⟨g,v,a,n,c,ts⟩):CP w a n c ts:=(h.at hi).2
theorem PBx.ext(h:PBx w0 w l)(e:Ext w w'):PBx w0 w' l:=⟨h.1.trans e,fun p hp=>⟨(h.2 p hp).1.ext e,(h.2 p hp).2.ext e⟩⟩
theorem PBx.one{v:Int}{c:Nat}{ts:List Tx}(b:Ext w0 w)(d:Arr w g 24 (AF v a n c))(e:CP w0 a n c ts):PBx w0 w [⟨g,v,a,n,c,ts⟩] :=
 ⟨b,fun p hp=>by rw[fi.1 hp];exact⟨d,e.ext b⟩⟩
theorem PBx.app{a:List Bx}(h:PBx w0 w l)(b:PBx w0 w a):PBx w0 w (l ++ a):=⟨h.1,fun p hp=>(fL.1 hp).elim (h.2 p) (b.2 p)⟩
theorem PBx.new{v:Int}{c:Nat}{ts:List Tx}{o:Obj}(h:PBx w0 w l)(d:Ext w w1)(e:CP w1 a n c ts)(b:Arr w' w1.heap.size 24 (AF v a n c))(f:(w1.alloc o).grownBy w' (some w1.heap.size)):PBx w0 w' (l ++ [⟨w1.heap.size,v,a,n,c,ts⟩]):=by
 have hF:Ext w1 w':=((Ext.refl w1).alloc _).grownR f (lrf _);have h1:=h.ext (d.trans hF);refine⟨h1.1,fun p hp => ?_⟩;rcases fL.1 hp with hp|hp
 · exact h1.2 p hp
 · rw[fi.1 hp];exact⟨b,e.ext hF⟩
end
section
variable {P:Program} {w:World}
theorem UY{x y:Operand}(b:o.guard=none)(j:o.op = .store 24 x y)
 {g:Nat} {t:TypeId} {cs:List Value} {v:Int} {a:Option Addr} {n c:Nat} (k:f.eval x = .pointer (some ⟨g,0,none⟩)) (l:f.eval y = .agg #[.int .i64 v,.slice a n c]) (h:Arr w g t cs) (i:cs.length=2)
 (e:∀ d,Arr d g t (AF v a n c)->w.grownBy d (some g)->wpList Tryz.prog ops Q rest (f.put o.dst undef) d):wpList Tryz.prog ops Q (o :: rest) f w :=
 Aa (vs:=AF v a n c) b j k l rfl Ax h i (AW _ _ _ _) e
end
def UZ(w:World)(e:Ending)(w':World):Prop:=e = .returned (.bool true)/\Ext w w'
def Xk(w0:World)(v:Int)(ts:List Tx)(err:Int)(e:Ending)(w':World):Prop:=∃ a n c,e = .returned (.tuple #[.agg #[.int .i64 v,.slice a n c],.int .i64 err])/\Ext w0 w'/\CP w' a n c ts
theorem Mo.v{w0:World}{v:Int}{ts:List Tx}{b:Int}{e:Ending}{d:World}(h:Mo w0 v ts b e d):Xk w0 v ts b e d:=by
 obtain⟨a,n,c,h1,h2,h3⟩:=h;exact⟨a,n,c,h1,h2,h3.sl⟩
def D10(k:Nat):Nat:=10^k
theorem Ta{a:Nat}(h:a<=b):10^a<=D10 b:=fx (by omega) h
structure Q6s(q:Rat):Prop where
 n:q.num.natAbs<10^6
 d:q.den<10^4
 m:q.den=1\/q.num.natAbs<10^4
theorem Q6s.of(h:(txt q).length<=6):Q6s q:=by
 have h1:=G2 q.num.natAbs;have h2:(Lib.decDigits q.num.natAbs).length<=(Lib.itoa q.num).length:=by
  unfold Lib.itoa;split
  · simp
  · have e:q.num.toNat=q.num.natAbs:=by omega
    simp[e]
 have h0:0<(Lib.decDigits q.num.natAbs).length:=List.length_pos_iff.2 (W.dec_ne _);have c:∀ {x a b:Nat},x<10^a->a<=b->x<10^b:=fun g d=>fN g (fx (by omega) d);unfold txt at h;rw[fo]at h;by_cases f:q.den=1
 · exact⟨c h1 (by omega),by rw[f];decide,Or.inl f⟩
 · have h3:=G2 q.den;have h4:0<(Lib.decDigits q.den).length:=List.length_pos_iff.2 (W.dec_ne _);rw[fl f,fP]at h;exact⟨c h1 (by omega),c h3 (by omega),Or.inr (c h1 (by omega))⟩
def sg(g:Nat->Nat):Nat->Nat
 | 0=>0
 | k+1=>sg g k+g k
theorem Xl{x:Rat}(h:Q6s x){g e:Nat}(he:e<=g):(Pl.pwz x g e).natAbs<=10^(4*g+2*e):=by
 unfold Pl.pwz;rw[ia,Int.natAbs_pow,Int.natAbs_pow,gF];rcases h.m with a|b
 · rw[a,Nat.one_pow,je];refine ft (iJ (iy h.n) e) ?_;rw[<-ju];exact fx (by omega) (by omega)
 · refine ft (gL (iJ (iy b) e) (iJ (iy h.d) (g-e))) ?_;rw[<-ju,<-ju,<-j9];exact fx (by omega) (by omega)
section
variable {d:Nat} {g:Nat->Nat} {pt:List Rat} {t:Pl.Tm} {l:List Pl.Tm}
theorem V0(a:∀ v,v<pt.length->Q6s (pt.getD v 0)):∀ k,k<=pt.length->(∀ v,v<k->(t.1.getD v 0).toNat<=g v)->(Pl.zev d g pt t k).natAbs<=(Pl.zsc t.2 d).natAbs*10^(4*sg g k+2*sg (fun v=>(t.1.getD v 0).toNat) k)
 | 0,_,_=>by
  show(Pl.zsc t.2 d).natAbs<=(Pl.zsc t.2 d).natAbs*1;omega
 | k+1,hk,he=>by
  unfold Pl.zev;rw[ia];refine ft (gL (V0 a k (by omega) fun v b=>he v (by omega)) (Xl (a k (by omega)) (he k (by omega)))) ?_;rw[iH,<-j9];refine kH (fM _ (fM _ ?_));show _=4*(sg g k+g k)+2*(sg (fun v=>(t.1.getD v 0).toNat) k+(t.1.getD k 0).toNat);omega
theorem V3(a:∀ v,v<pt.length->Q6s (pt.getD v 0)):∀ k,k<=pt.length->Pl.dev d g pt k<=d*10^(4*sg g k)
 | 0,_=>by
  show d<=d*1;omega
 | k+1,hk=>by
  unfold Pl.dev;refine ft (gL (V3 a k (by omega)) (iJ (iy (a k (by omega)).d) (g k))) ?_;rw[iH,<-ju,<-j9];refine kH (fM _ (fM _ ?_));show _=4*(sg g k+g k);omega
theorem Tb{e:List Int}(h:∀ x∈e,0<=x):∀ k,k<=e.length->((sg (fun v=>(e.getD v 0).toNat) k:Nat):Int)=(e.take k).sum
 | 0,_=>by simp[sg]
 | k+1,hk=>by
  have h1:=Tb h k (by omega);have h2:=h e[k] (fE _);have h3:e.getD k 0=e[k]:=by simp[(by omega:k<e.length)]
  rw[ff (by omega),List.sum_append,<-h1];show(((sg (fun v=>(e.getD v 0).toNat) k+(e.getD k 0).toNat:Nat)):Int)=_;rw[h3];simp;omega
theorem Xm{e:List Int}(h:∀ x∈e,0<=x){k:Nat}(a:k<=e.length)(c:e.sum<=24):sg (fun v=>(e.getD v 0).toNat) k<=24:=by
 have h1:=Tb h k a;have h2:e.sum=(e.take k).sum+(e.drop k).sum:=by rw[<-List.sum_append,iz]
 have h3:=(Fl (l:=e.drop k) fun x b=>h x (kC b)).1;omega
theorem Tc{B:Nat}(f:Pl.Tm->Int):∀ (l:List Pl.Tm),(∀ t∈l,(f t).natAbs<=B)->(l.foldr (fun t a=>f t+a) 0).natAbs<=l.length*B
 | [],_=>by simp
 | t :: r,h=>by
  have h1:=Tc f r fun s b=>h s (by simp[b]);have h2:=h t (by simp);rw[jg,fP,Nat.succ_mul];omega
end
section
variable {n N d y:Nat} {a b:List Int} {l k:List Pl.Tm} {ts:List Tx}
theorem Wv(f:Pv (n:Int) l)(g:∀ t∈l,t.1.sum<=24)(hp:Af a=true)(c:a.length=n)(d:n<=6):Lo (D6 n a l):=by
 intro u hu;obtain⟨t,b,rfl⟩:=JD hu;have h1:=Kb hp c d (f.inv t b);have h2:=Pc hp c d (f.inv t b);have h3:=g t b;exact⟨h1.1,fun x e=>⟨h1.2.1 x e,by have:=(Fl h1.2.1).2 x e;show x<=_;omega⟩⟩
theorem Bd.sumA(h:Bd (n:Int) N d y l)(k:∀ t∈l,t.1.sum<=24)(hp:Af a=true)(i:a.length=n)(j:n<=6)(h1:N<=1000)(h2:d<=1900)(h3:y<=1900):Lw (D6 n a l):=by
 obtain⟨D,c,e,f⟩:=h.sb;refine X6 (b:=1920) (D:=D) (Y:=P2 y) (fun u hu => ?_) c (Ak e (by omega)) ?_ (by omega) (Wv h.pv k hp i j) (by rw[Mu];have:=h.len;omega)
 · obtain⟨t,m,rfl⟩:=JD hu;exact f t m
 · rw[Mu];have g:l.length<=P2 10:=ft h.len (ft h1 (by unfold P2;decide));refine fI (fa _ g) ?_;rw[<-Dy];exact Ka (by omega)
end
def F3(l:List UInt8):Value := .string ⟨l.toArray⟩
theorem Rq(s:ByteArray):F3 (Ah s) = .string s:=by
 unfold F3 Ah;cases s;simp
def rk(gs:List (List Int))(n:Nat)(e:List Int):List Int:=Ab (Br gs (e.take n))
noncomputable def sumK (gs:List (List Int)) (n:Nat) (l:List Pl.Tm):List Pl.Tm:=l.foldl (fun acc t=>Pl.putK acc (rk gs n t.1) (Pl.getK 0 acc (rk gs n t.1)+t.2)) []
theorem Rr{k:Nat}{l:List Pl.Tm}(h:k<l.length):sumK gs n (l.take (k+1))=Pl.putK (sumK gs n (l.take k)) (rk gs n (l.getD k ([],0)).1) (Pl.getK 0 (sumK gs n (l.take k)) (rk gs n (l.getD k ([],0)).1)+(l.getD k ([],0)).2):=by
 unfold sumK;rw[ff h,kS];simp[h]
theorem Kc(gs:List (List Int))(n:Nat)(l:List Pl.Tm):(sumK gs n l).length<=l.length:=by
 have b:∀ (l a:List Pl.Tm),(l.foldl (fun a t=>Pl.putK a (rk gs n t.1) (Pl.getK 0 a (rk gs n t.1)+t.2)) a).length<=a.length+l.length:=by
  intro l
  induction l with
  | nil=>intro a;simp
  | cons t r ih =>
   intro a;rw[jG,fP];have h1:=ih (Pl.putK a (rk gs n t.1) (Pl.getK 0 a (rk gs n t.1)+t.2));have h2:=Pl.putK_length (rk gs n t.1) (Pl.getK 0 a (rk gs n t.1)+t.2) a;omega
 have:=b l [];simpa[sumK]using this
def Eg(L:List Pl.Tm):List (List Int×Value):=L.map fun p=>(p.1,F3 (txt p.2))
theorem DD(L:List Pl.Tm):(Eg L).map (·.1)=L.map (·.1):=by simp[Eg]
theorem Eh(k:List Int):∀ (i:Nat) (L:List Pl.Tm),Bw k i (Eg L)=(Pl.posK k i L).map fun p=>(p.1,F3 (txt p.2))
 | _,[]=>rfl
 | i,(k',q) :: r=>by
  show(if k=k' then some (i,F3 (txt q))else Bw k (i+1) (Eg r))=_;unfold Pl.posK;by_cases h:k=k'
  · rw[fG h,fG h];rfl
  · rw[fl h,fl h,Eh k (i+1) r]
theorem Td(k:List Int)(L:List Pl.Tm):RP (Eg L) k=decide (k∈L.map (·.1)):=by
 unfold RP;rw[<-DD];cases h:Bw k 0 (Eg L)with
 | none=>simp[Bh.1 h]
 | some p =>
  have:¬ Bw k 0 (Eg L)=none:=by rw[h];simp
  rw[Bh]at this;simpa using this
theorem NJ{L:List Pl.Tm}(h:k∈L.map (·.1)):Dr (.string ⟨#[]⟩) (Eg L) k=F3 (txt (Pl.getK 0 L k)):=by
 unfold Dr Pl.getK;have h1:¬ Bw k 0 (Eg L)=none:=by rw[Bh,DD];exact fun h2=>h2 h
 rw[Eh]at h1 |-;cases hp:Pl.posK k 0 L with
 | none=>rw[hp]at h1;exact absurd rfl h1
 | some p=>rfl
theorem Ql{L:List Pl.Tm}(h:k ∉ L.map (·.1)):Pl.getK 0 L k=0:=by
 unfold Pl.getK;have h1:Bw k 0 (Eg L)=none:=by rw[Bh,DD];exact h
 rw[Eh]at h1;cases hp:Pl.posK k 0 L with
 | none=>rfl
 | some p=>rw[hp]at h1;cases h1
theorem U0(k:List Int)(q:Rat)(L:List Pl.Tm):Ho (Eg L) k (F3 (txt q))=Eg (Pl.putK L k q):=by
 unfold Ho Pl.putK;rw[Eh];cases hp:Pl.posK k 0 L with
 | none=>simp[Eg]
 | some p =>
  show(Eg L).set p.1 (k,F3 (txt q))=Eg (L.set p.1 (k,q));simp[Eg,km]
theorem G7{L:List Pl.Tm}:(Pl.putK L k q).map (·.1)=if k∈L.map (·.1)then L.map (·.1)else L.map (·.1) ++ [k]:=by
 have a:=Eh k 0 L;unfold Pl.putK;cases hp:Pl.posK k 0 L with
 | none =>
  rw[hp]at a;have h1:=Bh.1 a;rw[DD]at h1;rw[fl h1];simp
 | some p =>
  rw[hp]at a;obtain⟨_,h2⟩:=C5 a;rw[jn]at h2;have h3:(Eg L).map (·.1)=L.map (·.1):=DD L;have h4:k∈L.map (·.1):=by rw[<-h3];exact fy.2 ⟨_,gS h2,rfl⟩
  have h5:(L.map (·.1))[p.1]?=some k:=by
   rw[<-h3,jD,h2];rfl
  rw[fG h4];show(L.set p.1 (k,q)).map (·.1)=_;rw[km];refine iw fun j => ?_;rw[ir];by_cases c:p.1=j
  · subst c;have b:p.1<(L.map (·.1)).length:=(gC.1 h5).1;rw[fG rfl,fG b,h5]
  · rw[fl c]
theorem Kd(gs:List (List Int))(n:Nat)(l:List Pl.Tm):∀ p∈sumK gs n l,∃ t∈l,p.1=rk gs n t.1:=by
 have b:∀ (l a:List Pl.Tm),∀ e∈(l.foldl (fun a t=>Pl.putK a (rk gs n t.1) (Pl.getK 0 a (rk gs n t.1)+t.2)) a).map (·.1),e∈a.map (·.1)\/∃ t∈l,e=rk gs n t.1:=by
  intro l
  induction l with
  | nil=>exact fun a e h=>Or.inl h
  | cons t r ih =>
   intro a e h;rw[jG]at h;rcases ih _ e h with h|⟨s,c,h⟩
   · rcases(Pl.putK_keys _ _ a e).1 h with h1|h1
     · exact Or.inl h1
     · exact Or.inr ⟨t,by simp,h1⟩
   · exact Or.inr ⟨s,by simp[c],h⟩
 intro p hp;rcases b l [] p.1 (fy.2 ⟨p,hp,rfl⟩)with h|h
 · simp at h
 · exact h
theorem LC{l:List Pl.Tm}(b:n<=6)(h6:∀ t∈l,t.1.length=6):∀ p∈sumK gs n l,∃ m:List Int,m.length=n/\p.1=Ab m:=fun p hp=>by
 obtain⟨t,a,e⟩:=Kd gs n l p hp;exact⟨Br gs (t.1.take n),by unfold Br;rw[DF,go,h6 t a];omega,e⟩
theorem Rs(b:∀ x∈L,x.length=n)(hp:p.length=n):Ho (B1 L) (Ab p) (.bool true)=B1 (if p∈L then L else L ++ [p]):=by
 by_cases h:p∈L
 · rw[fG h];unfold Ho;cases a:Bw (Ab p) 0 (B1 L)with
   | none =>
    rw[Bh,FQ,JK b hp]at a;exact absurd h a
   | some q =>
    obtain⟨i,v⟩:=q;obtain⟨_,h2⟩:=C5 a;rw[jn]at h2;show(B1 L).set i (Ab p,Value.bool true)=B1 L;have d:v = .bool true:=by
     have h3:=gS h2;obtain⟨x,_,e⟩:=fy.1 h3;exact(fM Prod.snd e).symm
    rw[d]at h2;refine iw fun j => ?_;rw[ir];by_cases c:i=j
    · subst c;rw[fG rfl,fG (gC.1 h2).1,h2]
    · rw[fl c]
 · rw[fl h];exact Om b hp h
theorem U1{K:List Pl.Tm}(a:(K.map (·.1)).Nodup){j:Nat}(b:j<K.length):Pl.getK 0 K (K.getD j ([],0)).1=(K.getD j ([],0)).2:=by
 have c:K.getD j ([],0)∈K:=by
  rw[gqq,eZ b];exact fE _
 rw[Pl.getK_coef K _ a,Pl.coef_mem a c]
def B5(gs:List (List Int))(m:List Int):Nat->List (List Int)
 | 0=>[]
 | i+1=>if mvd (gs.getD i []) m∈B5 gs m i then B5 gs m i else B5 gs m i ++ [mvd (gs.getD i []) m]
theorem Fo{gs:List (List Int)}{m:List Int}:∀ (i:Nat) (x:List Int),x∈B5 gs m i<->∃ j,j<i/\x=mvd (gs.getD j []) m
 | 0,x=>by simp[B5]
 | i+1,x=>by
  have h:=Fo (gs:=gs) (m:=m) i;unfold B5;constructor
  · intro a;split at a
    · obtain⟨j,c,e⟩:=(h x).1 a;exact⟨j,by omega,e⟩
    · rcases fL.1 a with a|a
      · obtain⟨j,c,e⟩:=(h x).1 a;exact⟨j,by omega,e⟩
      · exact⟨i,by omega,by simpa using a⟩
  · rintro⟨j,c,rfl⟩;rcases fS j i with b|b
    · have h1:=(h _).2 ⟨j,b,rfl⟩;split
      · exact h1
      · exact List.mem_append_left _ h1
    · have e:j=i:=by omega
      subst e;split
      · assumption
      · simp
theorem DJ{gs:List (List Int)}{m:List Int}:∀ i,(B5 gs m i).Nodup
 | 0=>by simp[B5]
 | i+1=>by
  have h:=DJ (gs:=gs) (m:=m) i;unfold B5;split
  · exact h
  · rename_i e;rw[iq]
    exact⟨h,by simp,fun a d b c=>by
     simp only[fi]at c;subst c;rintro rfl
     exact e d⟩
theorem JF{gs:List (List Int)}{m:List Int}:∀ i,(B5 gs m i).length<=i
 | 0=>by simp[B5]
 | i+1=>by
  have h:=JF (gs:=gs) (m:=m) i;unfold B5;split
  · omega
  · simp;omega
noncomputable def srtL (L:List (List Int)):List (List Int):=Classical.epsilon fun a=>a.Perm L/\Dt a 0 a.length
theorem U2(b:L.Nodup)(h1:ps.Perm L)(h2:Dt ps 0 ps.length):ps=srtL L:=by
 have h:=j6 (p:=fun ps=>ps.Perm L/\Dt ps 0 ps.length) ⟨ps,h1,h2⟩;exact EO (h1.nodup_iff.2 b) (h.1.nodup_iff.2 b) (fun x=>by rw[h1.mem_iff];exact(h.1.mem_iff (a:=x)).symm) h2 h.2
noncomputable def orbT (gs:List (List Int)) (n:Nat) (p:Pl.Tm):List Tx:=if p.2=0 then []else(srtL (B5 gs (p.1.take n) gs.length)).map fun e=>(txt (p.2*((((B5 gs (p.1.take n) gs.length).length:Nat):Int):Rat)⁻¹),e)
noncomputable def avT (gs:List (List Int)) (n:Nat) (K:List Pl.Tm):List Tx:=K.flatMap (orbT gs n)
theorem Te{k:Nat}{K:List Pl.Tm}(h:k<K.length):avT gs n (K.take (k+1))=avT gs n (K.take k) ++ orbT gs n (K.getD k ([],0)):=by
 unfold avT;rw[ff h,List.flatMap_append];simp[h]
theorem NK(gs:List (List Int))(n k:Nat)(K:List Pl.Tm):(avT gs n (K.take k)).length<=(avT gs n K).length:=by
 have h:avT gs n K=avT gs n (K.take k) ++ avT gs n (K.drop k):=by
  unfold avT;rw[<-List.flatMap_append,iz]
 rw[h,fo];omega
structure Tf(gs:List (List Int))(n:Nat)(l:List Pl.Tm):Prop where
 rb:∀ k e,Pl.RB 400 (Pl.getK 0 (sumK gs n (l.take k)) e)
 cb:∀ t∈l,Pl.RB 400 t.2
 tb:∀ q,Pl.RB 400 q->(txt q).length<=570
 gl:gs.length<=1000
 len:(avT gs n (sumK gs n l)).length<=4096
 mkt:∀ t∈avT gs n (sumK gs n l),Gt n t
 tx:∀ t∈avT gs n (sumK gs n l),t.1.length<=570
 fin:Lw ((avT gs n (sumK gs n l)).map Cr)
theorem Tg{a m:List Int}(hp:Af a=true)(c:m.length=a.length):∀ k,k<=a.length->∀ j:Nat,(∃ i,i<k/\a.getD i 0=(j:Int))->(Iw a m k).getD j 0=m.getD ((BR a k).getD j 0).toNat 0
 | 0,_,j,⟨i,hi,_⟩=>by omega
 | k+1,hk,j,⟨i,hi,he⟩=>by
  have h0:=BU hp (i:=k) (by omega);show((Iw a m k).set (a.getD k 0).toNat (m.getD k 0)).getD j 0=m.getD (((BR a k).set (a.getD k 0).toNat k).getD j 0).toNat 0;rw[Iv (by rw[Ck];omega),Iv (by rw[Cc];omega)];by_cases b:(a.getD k 0).toNat=j
  · rw[fG b,fG b];simp
  · rw[fl b,fl b];refine Tg hp c k (by omega) j ⟨i,?_,he⟩;rcases fS i k with h|h
    · exact h
    · have:i=k:=by omega
      subst this;omega
theorem Th{a:List Int}(hp:Af a=true)(c:m.length=a.length):mvd a m=comp m (BR a a.length):=by
 have k:=Hm hp;have l:=FP hp;apply iQ
 · rw[mvd,Ck,Bl,Cc,c]
 · intro j h1 h2;have d:j<a.length:=by rw[mvd,Ck,c]at h1;exact h1
   have b:j<(BR a a.length).length:=by rw[Cc];exact d
   have i:=BU k b;rw[Cc]at i
   have e:=Tg hp c a.length (lrf _) j ⟨((BR a a.length).getD j 0).toNat,by omega,by
    have:(comp a (BR a a.length)).getD j 0=(idn a.length).getD j 0:=by rw[l]
    unfold comp at this;rw[Dq b,Fv d]at this
    exact this⟩
   have f:(mvd a m)[j]=(mvd a m).getD j 0:=by simp[h1]
   have g:(comp m (BR a a.length))[j]=(comp m (BR a a.length)).getD j 0:=by simp[h2]
   rw[f,g];unfold comp;rw[Dq b];unfold mvd;rw[c];exact e
theorem Ww:∀ n,n<7->∀ a∈gen n (idn n),(comp (BR a a.length) a == idn a.length)=true:=by decide +kernel
theorem NL(h:Af xs=true):comp (BR xs xs.length) xs=idn xs.length:=by
 have:=Ww _ (Hl h).1 _ (Hl h).2;simpa using this
theorem Mv{a:List Int}(hp:Af a=true)(b:x.length=a.length)(f:y.length=a.length):mvd a x=y<->x=comp y a:=by
 have e:=Hm hp;have c:∀ z∈a,0<=z/\z<a.length:=(Ap hp).2.1;have d:∀ z∈BR a a.length,0<=z/\z<a.length:=by
  have:=(Ap e).2.1;rw[Cc]at this;exact this
 rw[Th hp b];constructor
 · rintro rfl;rw[C0 (by rw[Cc];exact c),NL hp,<-b,Cx]
 · rintro rfl;rw[C0 d,FP hp,<-f,Cx]
def B6(gs:List (List Int))(x y:List Int):Prop:=∃ g∈gs,mvd g x=y
theorem Wx(a:isG gs){g:List Int}(h:g∈gs)(k:Nat):pw g k∈gs:=by
 refine a.closed _ ⟨List.replicate k g,fun x c=>by rw[(gR.1 c).2];exact h,?_⟩;have b:=(a.perms g h).2
 induction k with
 | zero=>simp[pw,b]
 | succ k ih=>rw[k9,jg,<-ih];rfl
theorem B6.iff(a:isG gs){x y:List Int}(b:x.length=(gs.getD 0 []).length)(c:y.length=(gs.getD 0 []).length):B6 gs x y<->∃ g∈gs,x=comp y g:=by
 constructor
 · rintro⟨g,h1,h2⟩;obtain⟨p,l⟩:=a.perms g h1;exact⟨g,h1,(Mv p (by rw[b,l]) (by rw[c,l])).1 h2⟩
 · rintro⟨g,h1,h2⟩;obtain⟨p,l⟩:=a.perms g h1;exact⟨g,h1,(Mv p (by rw[b,l]) (by rw[c,l])).2 h2⟩
theorem B6.refl(b:isG gs){x:List Int}(a:x.length=(gs.getD 0 []).length):B6 gs x x:=by
 rw[B6.iff b a a];refine⟨idn (gs.getD 0 []).length,b.closed _ (CT _ _),?_⟩;rw[<-a,Cx]
theorem B6.symm(a:isG gs){x y:List Int}(f:x.length=(gs.getD 0 []).length)(d:y.length=(gs.getD 0 []).length)(h:B6 gs x y):B6 gs y x:=by
 rw[B6.iff a f d]at h;rw[B6.iff a d f];obtain⟨g,h1,rfl⟩:=h;obtain⟨p,l⟩:=a.perms g h1;obtain⟨m,n,j,_⟩:=TX p;refine⟨pw g (Jp g-1),Wx a h1 _,?_⟩;have c:=Qy p (Jp g-1);have b:=Py g (Jp g-1);have e:comp g (pw g (Jp g-1))=idn g.length:=by
  rw[<-j];obtain⟨k,i⟩:∃ k,Jp g=k+1:=⟨Jp g-1,by omega⟩;rw[i];rfl
 rw[C0 (by have:=(Ap c).2.1;rw[b]at this;exact this),e,l,<-d,Cx]
theorem B6.trans(a:isG gs){x y z:List Int}(b:x.length=(gs.getD 0 []).length)(c:y.length=(gs.getD 0 []).length)(d:z.length=(gs.getD 0 []).length)(h:B6 gs x y)(k:B6 gs y z):B6 gs x z:=by
 rw[B6.iff a b c]at h;rw[B6.iff a c d]at k;rw[B6.iff a b d];obtain⟨g,h1,rfl⟩:=h;obtain⟨e,h2,rfl⟩:=k;obtain⟨p,l⟩:=a.perms g h1;obtain⟨o,n⟩:=a.perms e h2;obtain⟨i,f,rfl⟩:=Gz h1;obtain⟨j,m,rfl⟩:=Gz h2;refine⟨_,a.comp m f,?_⟩;rw[C0 (by have:=(Ap p).2.1;rw[l,<-n]at this;exact this)]
theorem NM{gs:List (List Int)}{m:List Int}:∀ k,A8 (Bz gs m k) m<=0/\∀ j,j<k->A8 (Bz gs m k) (mvd (gs.getD j []) m)<=0
 | 0=>⟨by rw[Bz,DE];omega,fun j b=>by omega⟩
 | k+1=>by
  obtain⟨h1,h2⟩:=NM (gs:=gs) (m:=m) k;unfold Bz;by_cases a:A8 (mvd (gs.getD k []) m) (Bz gs m k)<0
  · rw[fG a];refine⟨C7 (by omega) h1,fun j b => ?_⟩;by_cases he:j=k
    · subst he;rw[DE];omega
    · exact C7 (by omega) (h2 j (by omega))
  · rw[fl a];refine⟨h1,fun j b => ?_⟩;by_cases he:j=k
    · subst he;have:=BE (mvd (gs.getD j []) m) (Bz gs m j);omega
    · exact h2 j (by omega)
theorem NN{gs:List (List Int)}{m:List Int}:∀ k,k<=gs.length->Bz gs m k=m\/B6 gs m (Bz gs m k)
 | 0,_=>Or.inl rfl
 | k+1,hk=>by
  unfold Bz;split
  · exact Or.inr ⟨_,Bt (by omega),rfl⟩
  · exact NN k (by omega)
theorem EC(a:isG gs){x:List Int}(b:x.length=(gs.getD 0 []).length):B6 gs x (Br gs x):=by
 rcases NN (gs:=gs) (m:=x) gs.length (lrf _)with h|h
 · have:=B6.refl a b;unfold Br;rw[h];exact this
 · exact h
theorem Ti(h:B6 gs x y):A8 (Br gs x) y<=0:=by
 obtain⟨g,h1,rfl⟩:=h;obtain⟨i,a,rfl⟩:=Gz h1;exact(NM gs.length).2 i a
theorem FI(gs:List (List Int))(x:List Int):(Br gs x).length=x.length:=DF gs x _
theorem U3(a:isG gs){x y:List Int}(c:x.length=(gs.getD 0 []).length)(b:y.length=(gs.getD 0 []).length):B6 gs x y<->Br gs x=Br gs y:=by
 have e:(Br gs x).length=(gs.getD 0 []).length:=by rw[FI,c]
 have d:(Br gs y).length=(gs.getD 0 []).length:=by rw[FI,b]
 constructor
 · intro h;have h1:=Ti (B6.trans a b c e (B6.symm a c b h) (EC a c));have h2:=Ti (B6.trans a c b d h (EC a b));have:=BE (Br gs x) (Br gs y);exact Hr (by omega)
 · intro h;have h1:=EC a c;have h2:=EC a b;rw[h]at h1;exact B6.trans a c d b h1 (B6.symm a b d h2)
def dk(ks:List (List Int)):Nat->List (List Int)
 | 0=>[]
 | i+1=>if ks.getD i []∈dk ks i then dk ks i else dk ks i ++ [ks.getD i []]
structure GNs(gs:List (List Int))(n:Nat):Prop where
 g:isG gs
 p:BL gs n
 l:(gs.getD 0 []).length=n
 n6:n<=6
theorem ED :x∈B5 gs m gs.length<->B6 gs m x:=by
 rw[Fo];constructor
 · rintro⟨j,a,rfl⟩;exact⟨_,Bt a,rfl⟩
 · rintro⟨g,b,rfl⟩;obtain⟨j,a,rfl⟩:=Gz b;exact⟨j,a,rfl⟩
theorem Tj(L:List (List Int)):∃ e:List (List Int),e.Perm L/\Dt e 0 e.length:=by
 refine⟨L.mergeSort (fun a b=>decide (A8 a b<=0)),List.mergeSort_perm _ _,?_⟩
 have h:=List.pairwise_mergeSort (le:=fun a b=>decide (A8 a b<=0)) (fun a b c h1 h2=>by
  simp only[gV]at *
  exact C7 h1 h2) (fun a b=>by
  simp only[jW,gV]
  exact Pz a b) L
 rw[gt]at h;intro i j _ d f;have h1:=h i j (by omega) f d;simp only[gV]at h1;rw[gqq,gqq,eZ (by omega),eZ f];exact h1
theorem G9(L:List (List Int)):(srtL L).Perm L:=(j6 (p:=fun a=>a.Perm L/\Dt a 0 a.length) (Tj L)).1
section
variable {gs:List (List Int)} {n:Nat} {l:List Pl.Tm}
theorem DK(G:GNs gs n){m x:List Int}(a:m.length=n)(b:x.length=n):B6 gs m x<->Br gs m=Br gs x:=U3 G.g (a.trans G.l.symm) (b.trans G.l.symm)
theorem Ha(G:GNs gs n){m x:List Int}(f:m.length=n)(i:x.length=n)(h:Br gs m=Br gs x):(B5 gs m gs.length).length=(B5 gs x gs.length).length:=by
 refine(Pl.perm_mem (DJ _) (DJ _) fun y => ?_).length_eq;rw[ED,ED]
 have c:∀ {a b:List Int},a.length=n->b.length=n->Br gs a=Br gs b->B6 gs a y->B6 gs b y:=fun d k h o=>by
  obtain⟨g,l,e⟩:=o;have j:y.length=n:=by rw[<-e,AV];exact d
  rw[DK G k j,<-h];exact(DK G d j).1 ⟨g,l,e⟩
 exact⟨c f i h,c i f h.symm⟩
theorem Tk(G:GNs gs n){x:List Int}(a:x.length=n):Br gs (Br gs x)=Br gs x:=by
 have h:=EC G.g (a.trans G.l.symm);exact((DK G a (by rw[FI];exact a)).1 h).symm
theorem LD{c:Rat}{x:List Int}(a:x.length=n):∀ {ps:List (List Int)},ps.Nodup->(∀ y∈ps,y.length=n)->Pl.coef (ps.map fun e=>((Ab e,c):Pl.Tm)) (Ab x)=if x∈ps then c else 0
 | [],_,_=>rfl
 | y :: r,hn,hl=>by
  have ih:=LD (c:=c) a (ps:=r) (gG.1 hn).2 fun z b=>hl z (by simp[b]);show(if Ab y=Ab x then c else 0)+Pl.coef (r.map fun e=>((Ab e,c):Pl.Tm)) (Ab x)=_;rw[ih];by_cases h:y=x
  · subst h;rw[fG rfl,fl (gG.1 hn).1,fG (by simp),kj]
  · have h1:¬ Ab y=Ab x:=fun e=>h (Ei ((hl y (by simp)).trans a.symm) e);rw[fl h1,Rat.zero_add];by_cases h2:x∈r
    · rw[fG h2,fG (by simp[h2])]
    · rw[fl h2,fl (by simp[h2];exact fun e=>h e.symm)]
def oN(gs:List (List Int))(m:List Int):Rat:=(((B5 gs m gs.length).length:Nat):Int)
open Classical in
theorem Tl(G:GNs gs n){m x:List Int}{q:Rat}(a:m.length=n)(c:x.length=n):Pl.coef ((orbT gs n (Ab m,q)).map Cr) (Ab x)=if Br gs m=Br gs x then q*(oN gs m)⁻¹ else 0:=by
 have h1:=CR (l:=m);rw[a]at h1;unfold orbT;show Pl.coef (List.map Cr (if q=0 then []else(srtL (B5 gs ((Ab m).take n) gs.length)).map fun e=>(txt (q*((((B5 gs ((Ab m).take n) gs.length).length:Nat):Int):Rat)⁻¹),e))) (Ab x)=_;rw[h1];by_cases b:q=0
 · rw[fG b,b,Rat.zero_mul];split <;> rfl
 · rw[fl b,j4];have hp:=G9 (B5 gs m gs.length);have h2:(srtL (B5 gs m gs.length)).map (Cr ∘ fun e=>((txt (q*((((B5 gs m gs.length).length:Nat):Int):Rat)⁻¹),e):Tx))=(srtL (B5 gs m gs.length)).map fun e=>((Ab e,q*(oN gs m)⁻¹):Pl.Tm):=by
    refine gZ fun e _ => ?_;show(Ab e,(Bn (txt _)).getD 0)=_;rw[A6];rfl
   rw[h2,LD c ((hp.nodup_iff).2 (DJ _)) fun y d=>by
    obtain⟨g,_,e⟩:=ED.1 (hp.mem_iff.1 d)
    rw[<-e,AV,a]]
   by_cases h3:Br gs m=Br gs x
   · rw[fG h3,fG (hp.mem_iff.2 (ED.2 ((DK G a c).2 h3)))]
   · rw[fl h3,fl fun h=>h3 ((DK G a c).1 (ED.1 (hp.mem_iff.1 h)))]
theorem Qm(G:GNs gs n){x:List Int}(a:x.length=n):∀ {K:List Pl.Tm},(∀ p∈K,∃ m:List Int,m.length=n/\p.1=Ab m/\Br gs m=m)->(K.map (·.1)).Nodup->Pl.coef ((avT gs n K).map Cr) (Ab x)=Pl.getK 0 K (Ab (Br gs x))*(oN gs x)⁻¹
 | [],_,_=>by
  show(0:Rat)=0*_;rw[Rat.zero_mul]
 | (k,q) :: r,hk,hn=>by
  obtain⟨m,hm,hkm,hr⟩:=hk (k,q) (by simp);simp only at hkm;subst hkm;have c:=Qm G a (K:=r) (fun p hp=>hk p (by simp[hp])) (gG.1 hn).2;have b:avT gs n ((Ab m,q) :: r)=orbT gs n (Ab m,q) ++ avT gs n r:=by simp[avT]
  rw[b,fY,Pl.coef_app,c,Tl G hm a,Pl.getK_cons];by_cases h:Br gs m=Br gs x
  · have h2:Ab (Br gs x)=Ab m:=by rw[<-h,hr]
    have h3:(Ab m) ∉ r.map (·.1):=(gG.1 hn).1;have h4:oN gs m=oN gs x:=by unfold oN;rw[Ha G hm a h]
    rw[fG h,fG h2,h2,Ql h3,Rat.zero_mul,kj,h4]
  · have h2:¬ Ab (Br gs x)=Ab m:=fun e=>h (by rw[hr];exact(Ei (by rw[FI];omega) e).symm);rw[fl h,fl h2,Rat.zero_add]
theorem NO(k:List Int)(v:Rat)(c:List Int):∀ L:List Pl.Tm,Pl.getK 0 (Pl.putK L k v) c=if c=k then v else Pl.getK 0 L c
 | []=>by
  rw[Pl.putK_nil,Pl.getK_cons]
 | (a,b) :: r=>by
  rw[Pl.putK_cons];by_cases h:k=a
  · subst h;rw[fG rfl,Pl.getK_cons,Pl.getK_cons];by_cases h2:c=k
    · rw[fG h2,fG h2]
    · rw[fl h2,fl h2,fl h2]
  · rw[fl h,Pl.getK_cons,NO k v c r,Pl.getK_cons];by_cases h2:c=a
    · rw[fG h2,fG h2,fl (fun e=>h (e.symm.trans h2))]
    · rw[fl h2,fl h2]
theorem Hb(gs:List (List Int))(n:Nat)(k:List Int)(l:List Pl.Tm):Pl.getK 0 (sumK gs n l) k=Pl.lin (fun e=>if rk gs n e=k then 1 else 0) l:=by
 have b:∀ (l a:List Pl.Tm),Pl.getK 0 (l.foldl (fun a t=>Pl.putK a (rk gs n t.1) (Pl.getK 0 a (rk gs n t.1)+t.2)) a) k=Pl.getK 0 a k+Pl.lin (fun e=>if rk gs n e=k then 1 else 0) l:=by
  intro l
  induction l with
  | nil=>intro a;exact(kj _).symm
  | cons t r ih =>
   intro a;rw[jG,ih,NO];show _=_+(t.2*(if rk gs n t.1=k then 1 else 0)+_);by_cases h:k=rk gs n t.1
   · rw[fG h,fG h.symm,h,kR,Rat.add_assoc]
   · rw[fl h,fl fun e=>h e.symm,Rat.mul_zero,Rat.zero_add]
 have h:=b l [];rw[Pl.getK_nil,Rat.zero_add]at h;exact h
end
noncomputable def avP (gs:List (List Int)) (n:Nat) (l:List Pl.Tm):List Pl.Tm:=(avT gs n (sumK gs n l)).map Cr
def Rt(gs:List (List Int))(n:Nat)(F:List Int->Rat):Prop:=∀ x:List Int,x.length=n->∀ a∈gs,F (Ab (mvd a x))=F (Ab x)
section
variable {gs:List (List Int)} {n:Nat} {l:List Pl.Tm} {F:List Int->Rat}
theorem NQ{c d:Rat}:∀ {ps:List (List Int)},(∀ e∈ps,F (Ab e)=d)->Pl.lin F (ps.map fun e=>((Ab e,c):Pl.Tm))=c*d*(((ps.length:Nat):Int):Rat)
 | [],_=>(Rat.mul_zero _).symm
 | y :: r,h=>by
  have ih:=NQ (c:=c) (d:=d) (ps:=r) fun e he=>h e (by simp[he]);show c*F (Ab y)+Pl.lin F (r.map fun e=>((Ab e,c):Pl.Tm))=_;rw[ih,h y (by simp),fP];rw[show(((r.length+1:Nat):Int):Rat)=(((r.length:Nat):Int):Rat)+1 by rw[gH,mj];rfl];rw[Rat.mul_add,kR,Rat.add_comm]
theorem Xn(G:GNs gs n)(m:List Int):oN gs m≠0:=by
 have h:0<(B5 gs m gs.length).length:=gW ((Fo gs.length _).2 ⟨0,G.g.pos,rfl⟩);unfold oN;intro h0;have h1:(((B5 gs m gs.length).length:Nat):Int)=0:=by
  have h2:=fM Rat.num h0;simpa using h2
 omega
theorem U4(G:GNs gs n)(hF:Rt gs n F){m:List Int}{q:Rat}(b:m.length=n):Pl.lin F ((orbT gs n (Ab m,q)).map Cr)=q*F (Ab m):=by
 have h1:=CR (l:=m);rw[b]at h1;unfold orbT;show Pl.lin F (List.map Cr (if q=0 then []else(srtL (B5 gs ((Ab m).take n) gs.length)).map fun e=>(txt (q*((((B5 gs ((Ab m).take n) gs.length).length:Nat):Int):Rat)⁻¹),e)))=_;rw[h1];by_cases a:q=0
 · rw[fG a,a,Rat.zero_mul];rfl
 · rw[fl a,j4];have hp:=G9 (B5 gs m gs.length);have h2:(srtL (B5 gs m gs.length)).map (Cr ∘ fun e=>((txt (q*((((B5 gs m gs.length).length:Nat):Int):Rat)⁻¹),e):Tx))=(srtL (B5 gs m gs.length)).map fun e=>((Ab e,q*(oN gs m)⁻¹):Pl.Tm):=by
    refine gZ fun e _ => ?_;show(Ab e,(Bn (txt _)).getD 0)=_;rw[A6];rfl
   rw[h2,NQ (d:=F (Ab m)) fun e he=>by
    obtain⟨g,f,c⟩:=ED.1 (hp.mem_iff.1 he);rw[<-c]
    exact hF m b g f,hp.length_eq]
   show q*(oN gs m)⁻¹*F (Ab m)*oN gs m=_;rw[iT,lQ (F (Ab m)),<-iT,iT q,Rat.inv_mul_cancel _ (Xn G m),kR]
theorem Qn(G:GNs gs n)(hF:Rt gs n F):∀ {K:List Pl.Tm},(∀ p∈K,∃ m:List Int,m.length=n/\p.1=Ab m)->Pl.lin F ((avT gs n K).map Cr)=Pl.lin F K
 | [],_=>rfl
 | (k,q) :: r,hk=>by
  obtain⟨m,hm,hkm⟩:=hk (k,q) (by simp);simp only at hkm;subst hkm;have a:avT gs n ((Ab m,q) :: r)=orbT gs n (Ab m,q) ++ avT gs n r:=by simp[avT]
  rw[a,fY,Pl.lin_app,Qn G hF (fun p hp=>hk p (by simp[hp])),U4 G hF hm];rfl
theorem Qo(k:List Int)(v:Rat):∀ L:List Pl.Tm,Pl.lin F (Pl.putK L k (Pl.getK 0 L k+v))=Pl.lin F L+v*F k
 | []=>by
  rw[Pl.putK_nil,Pl.getK_nil,Rat.zero_add];show v*F k+0=0+v*F k;rw[kj,Rat.zero_add]
 | (a,b) :: r=>by
  rw[Pl.putK_cons,Pl.getK_cons];by_cases h:k=a
  · subst h;rw[fG rfl,fG rfl];show(b+v)*F k+Pl.lin F r=b*F k+Pl.lin F r+v*F k;rw[Rat.add_mul,Rat.add_assoc,Rat.add_comm (v*F k),<-Rat.add_assoc]
  · rw[fl h,fl h];show b*F a+Pl.lin F (Pl.putK r k (Pl.getK 0 r k+v))=b*F a+Pl.lin F r+v*F k;rw[Qo k v r,Rat.add_assoc]
theorem XX(G:GNs gs n)(hF:Rt gs n F){e:List Int}(he:InV n e):F (rk gs n e)=F e:=by
 have a:(e.take n).length=n:=he.tk G.n6;obtain⟨g,b,h⟩:=EC G.g (a.trans G.l.symm);unfold rk;rw[<-h,hF _ a g b,he.2.2]
theorem Tn(G:GNs gs n)(hF:Rt gs n F)(b:∀ t∈l,InV n t.1):Pl.lin F (sumK gs n l)=Pl.lin F l:=by
 have c:∀ (l a:List Pl.Tm),(∀ t∈l,InV n t.1)->Pl.lin F (l.foldl (fun a t=>Pl.putK a (rk gs n t.1) (Pl.getK 0 a (rk gs n t.1)+t.2)) a)=Pl.lin F a+Pl.lin F l:=by
  intro l
  induction l with
  | nil=>intro a _;exact(kj _).symm
  | cons t r ih =>
   intro a b;rw[jG,ih _ fun s d=>b s (by simp[d]),Qo,XX G hF (b t (by simp)),Rat.add_assoc];rfl
 have h:=c l [] b;rw[show Pl.lin F ([]:List Pl.Tm)=0 from rfl,Rat.zero_add]at h;exact h
theorem Qp(G:GNs gs n)(hF:Rt gs n F)(a:∀ t∈l,InV n t.1):Pl.lin F (avP gs n l)=Pl.lin F l:=by
 unfold avP;rw[Qn G hF (LC G.n6 fun t b=>(a t b).1),Tn G hF a]
theorem U5(G:GNs gs n)(k:List Int):Rt gs n fun e=>if rk gs n e=k then 1 else 0:=by
 intro x b a g;have f:(mvd a x).length=n:=by rw[AV,b]
 have h:Br gs (mvd a x)=Br gs x:=((DK G b f).1 ⟨a,g,rfl⟩).symm;have c:=CR (l:=mvd a x);have d:=CR (l:=x);rw[f]at c;rw[b]at d;show(if rk gs n (Ab (mvd a x))=k then(1:Rat)else 0)=if rk gs n (Ab x)=k then 1 else 0
 unfold rk;rw[c,d,h]
end
end Go.Proofs.YthdbingomfdeoaaGreatDoor
namespace Go.Proofs.YthdbingomfdeoaaGreatDoor
open Go Go.RowKit Go.Sort
variable {ps:List (List Int)} {cs:List Value} {base c g n:Nat} {a:Option Addr} {row:Option Nat} {w w':World}
def SlV(w:World)(g:Nat):Type:={ v:(Option Addr×Nat×Nat)×List Int // SlI w v.1.1 v.1.2.1 v.1.2.2 v.2/\blk v.1.1≠some g }
def SlV.enc(v:SlV w g):Value := .slice v.1.1.1 v.1.1.2.1 v.1.1.2.2
def SlV.xs(v:SlV w g):List Int:=v.1.2
instance (w:World) (g:Nat):Inhabited (SlV w g):=⟨⟨((none,0,0),[]),Sl.nil w,by simp[blk]⟩⟩
theorem Sl.kept(h:Sl w a n c cs)(j:w.grownBy w' row)(d:blk a=none\/blk a≠row):Sl w' a n c cs:=by
 refine⟨h.len,h.cap,h.max,fun h0 => ?_⟩;obtain⟨b,e,rfl,g⟩:=h.rd h0;refine⟨b,e,rfl,fun i k => ?_⟩;have h1:=g i k;have f:b<w.heap.size:=gT w ⟨b,e+i,none⟩ h1;rcases d with d|d
 · simp[blk]at d
 · rw[il (w:=w) (j.block b f d),h1]
theorem Dw{b:Type}[Inhabited b](enc:b->Value)(w:World)(g m:Nat)(dk:Array b)(os:Array Obj):w.grownBy (sortWorld enc w g 0 m dk os) (some g):=by
 refine⟨rfl,rfl,rfl,by unfold sortWorld;simp,fun k c a => ?_⟩;unfold sortWorld;rw[heap_grow_old _ _ (by simpa using c)];have:g≠k:=by rintro rfl;exact a rfl
 simp[putRow,mapBlock,iA,this]
theorem K9{l:Type}[Inhabited l](enc:l->Value){w:World}{base g n c m:Nat}{e:TypeId}{a:List Value}{dk:Array l}(os:Array Obj)(h:Own w base e (some ⟨g,0,none⟩) n c a)(f:dk.size=n) :
 Own (sortWorld enc w g 0 m dk os) base e (some ⟨g,0,none⟩) n c (dk.toList.map enc):=by
 rcases h.2 with⟨d,_⟩|⟨s,o,b,d,q,p,h1,h2,h3,h4⟩
 · simp at d
 simp only[fd,fc,gz,ij,kf]at d;obtain⟨rfl,rfl⟩:=d;have k:g<w.heap.size:=by
  rcases fS g w.heap.size with h|h
  · exact h
  · simp[gQ h]at p
 refine⟨by simp[f],Or.inr ⟨g,c,putCells enc 0 dk b,rfl,q,?_,h1,h2,by simp[putCells,h3],?_⟩⟩
 · unfold sortWorld;rw[heap_grow_old _ _ (by simpa using k)];simp[putRow,mapBlock,iA,p,onCells]
 · apply iQ
   · simp[putCells,h3,f];omega
   · intro i v r;have t:i<n:=by simpa[f]using r
     have j:i<dk.size:=by omega
     simp only[List.getElem_take,Array.getElem_toList,putCells,Array.getElem_mapIdx,List.getElem_map];rw[fG (by omega)];simp[j]
theorem Ru(r:Srt w base g n c ps):∃ d:Array (SlV w g),d.size=n/\(∀ i,i<n->w.cell? ⟨g,i,none⟩=some d[i]!.enc/\w.frozen? ⟨g,i,none⟩=false)/\d.toList.map SlV.xs=ps:=by
 obtain⟨s,e,j,q⟩:=r;have k:∀ i,∃ v:SlV w g,i<n->w.cell? ⟨g,i,none⟩=some v.enc/\v.xs=ps.getD i []:=by
  intro i;by_cases b:i<n
  · obtain⟨a,m,o,p,h1⟩:=q i (by omega);refine⟨⟨((a,m,o),ps.getD i []),h1.sl,?_⟩,fun _=>⟨?_,rfl⟩⟩
    · have:=DM h1 j (by decide);rcases this with h|h
      · simp only;rw[h];simp
      · exact h
    · rw[j.cellAt b,p];rfl
  · exact⟨default,fun h=>absurd h b⟩
 obtain⟨f,l⟩:=Classical.axiomOfChoice k;refine⟨((List.range n).map f).toArray,by simp,fun i b => ?_,?_⟩
 · have:(((List.range n).map f).toArray)[i]! = f i:=by simp[b]
   rw[this];exact⟨(l i b).1,j.frozenAt i⟩
 · apply iQ
   · simp[s]
   · intro i h1 h2;have b:i<n:=by simpa using h1
     simp only[List.getElem_map,List.getElem_range];rw[(l i b).2];simp[h2]
def cfV(x y:SlV w g):Int:=A8 x.xs y.xs
theorem To{m:Nat}{b:Array (SlV w g)}{os:Array Obj}(x:Srt w base g n c ps)(o:b.size=n)(e:∀ v∈b.toList,∃ i,i<n/\w.cell? ⟨g,i,none⟩=some v.enc/\v.xs=ps.getD i []) :
 Srt (sortWorld SlV.enc w g 0 m b os) base g n c (b.toList.map SlV.xs):=by
 obtain⟨z,f,l,t⟩:=x;refine⟨by simp[o],b.toList.map SlV.enc,K9 _ os l o,fun i p => ?_⟩;simp only[fq]at p;have d:i<b.toList.length:=by simpa using p
 obtain⟨j,y,h1,h2⟩:=e b.toList[i] (fE d);obtain⟨a,k,q,r,h3⟩:=t j (by omega);refine⟨a,k,q,?_,?_⟩
 · rw[l.cellAt y,r]at h1;simp only[fc]at h1;rw[h1,gqq,jD,eZ d];rfl
 · have s:(b.toList.map SlV.xs).getD i []=ps.getD j []:=by
    rw[<-h2,gqq,jD,eZ d];rfl
   rw[s];exact Own.kept h3 (Dw _ _ _ _ _ _) (DM h3 l (by decide))
end Go.Proofs.YthdbingomfdeoaaGreatDoor
namespace Go.Proofs.YthdbingomfdeoaaGreatDoor
open Go.Shelf
def Rv:Go.Shelf.Ren:=⟨fun | 6=>49 | 15=>76 | 14=>75 | 28=>118 | 29=>119 | 20=>110 | 21=>111 | 22=>112 | 23=>113 | 24=>114 | 25=>115 | 26=>116 | 27=>117 | 46=>150 | 47=>151 | 48=>152 | 49=>153 | 50=>154 | 57=>197 | n=>n,fun | 22=>29 | 24=>35 | 25=>86 | 3=>3 | 39=>144 | 0=>0 | 53=>187 | 55=>101 | 4=>4 | 46=>180 | 45=>179 | 50=>184 | 5=>5 | 9=>9 | 66=>216 | 70=>220 | 76=>256 | 77=>257 | n=>n,fun | n=>n⟩
theorem Xo:Go.Proofs.SlLaysF.n6 Tryz.prog Rv:={
 mixed:=by kernel_rfl
 f6:=⟨Tryz.f49.name,by decide,Tryz.func49.trans (fM some (by kernel_rfl))⟩
 f14:=⟨Tryz.f75.name,by decide,Tryz.func75.trans (fM some (by kernel_rfl))⟩
 f15:=Tryz.func76.trans (fM some (by kernel_rfl))
 f20:=⟨Tryz.f110.name,by decide,Tryz.func110.trans (fM some (by kernel_rfl))⟩
 f21:=⟨Tryz.f111.name,by decide,Tryz.func111.trans (fM some (by kernel_rfl))⟩
 f22:=⟨Tryz.f112.name,by decide,Tryz.func112.trans (fM some (by kernel_rfl))⟩
 f23:=⟨Tryz.f113.name,by decide,Tryz.func113.trans (fM some (by kernel_rfl))⟩
 f24:=⟨Tryz.f114.name,by decide,Tryz.func114.trans (fM some (by kernel_rfl))⟩
 f25:=⟨Tryz.f115.name,by decide,Tryz.func115.trans (fM some (by kernel_rfl))⟩
 f26:=⟨Tryz.f116.name,by decide,Tryz.func116.trans (fM some (by kernel_rfl))⟩
 f27:=⟨Tryz.f117.name,by decide,Tryz.func117.trans (fM some (by kernel_rfl))⟩
 f28:=Tryz.func118.trans (fM some (by kernel_rfl))
 f29:=Tryz.func119.trans (fM some (by kernel_rfl))
 f46:=⟨Tryz.f150.name,by decide,Tryz.func150.trans (fM some (by kernel_rfl))⟩
 f47:=Tryz.func151.trans (fM some (by kernel_rfl))
 f48:=Tryz.func152.trans (fM some (by kernel_rfl))
 f49:=⟨Tryz.f153.name,by decide,Tryz.func153.trans (fM some (by kernel_rfl))⟩
 f50:=⟨Tryz.f154.name,by decide,Tryz.func154.trans (fM some (by kernel_rfl))⟩
 f57:=⟨Tryz.f197.name,by decide,Tryz.func197.trans (fM some (by kernel_rfl))⟩
 t0:=Tryz.underlying0
 a0:=Tryz.isAgg0
 z0:=Tryz.sizeOf0
 v0:=Tryz.zeroValue0
 t3:=Tryz.underlying3
 a3:=Tryz.isAgg3
 z3:=Tryz.sizeOf3
 v3:=Tryz.zeroValue3
 t4:=Tryz.underlying4
 a4:=Tryz.isAgg4
 z4:=Tryz.sizeOf4
 v4:=Tryz.zeroValue4
 t5:=Tryz.underlying5
 a5:=Tryz.isAgg5
 z5:=Tryz.sizeOf5
 v5:=Tryz.zeroValue5
 t9:=Tryz.underlying9
 a9:=Tryz.isAgg9
 z9:=Tryz.sizeOf9
 v9:=Tryz.zeroValue9
 t22:=Tryz.underlying29
 a22:=Tryz.isAgg29
 z22:=Tryz.sizeOf29
 v22:=Tryz.zeroValue29
 a24:=Tryz.isAgg35
 z24:=Tryz.sizeOf35
 t25:=Tryz.underlying86
 a25:=Tryz.isAgg86
 z25:=Tryz.sizeOf86
 v25:=Tryz.zeroValue86
 t39:=Tryz.underlying144
 a39:=Tryz.isAgg144
 z39:=Tryz.sizeOf144
 v39:=Tryz.zeroValue144
 t45:=Tryz.underlying179
 a45:=Tryz.isAgg179
 z45:=Tryz.sizeOf179
 v45:=Tryz.zeroValue179
 t46:=Tryz.underlying180
 a46:=Tryz.isAgg180
 z46:=Tryz.sizeOf180
 v46:=Tryz.zeroValue180
 t50:=Tryz.underlying184
 a50:=Tryz.isAgg184
 z50:=Tryz.sizeOf184
 v50:=Tryz.zeroValue184
 t53:=Tryz.underlying187
 a53:=Tryz.isAgg187
 z53:=Tryz.sizeOf187
 v53:=Tryz.zeroValue187
 t55:=Tryz.underlying101
 a55:=Tryz.isAgg101
 z55:=Tryz.sizeOf101
 v55:=Tryz.zeroValue101
 t66:=Tryz.underlying216
 a66:=Tryz.isAgg216
 z66:=Tryz.sizeOf216
 v66:=Tryz.zeroValue216
 t70:=Tryz.underlying220
 a70:=Tryz.isAgg220
 z70:=Tryz.sizeOf220
 v70:=Tryz.zeroValue220
 t76:=Tryz.underlying256
 a76:=Tryz.isAgg256
 z76:=Tryz.sizeOf256
 v76:=Tryz.zeroValue256
 t77:=Tryz.underlying257
 a77:=Tryz.isAgg257
 z77:=Tryz.sizeOf257
 v77:=Tryz.zeroValue257 }
end Go.Proofs.YthdbingomfdeoaaGreatDoor
namespace Go.Proofs.YthdbingomfdeoaaGreatDoor
open Tryz Go Go.RowKit Go.Sort
variable {ps:List (List Int)} {g:Nat} {w:World}
theorem NS{x y:SlV w g}(h:ltOf cfV x y=true):A8 x.xs y.xs<0:=gX h
theorem Is{x y:SlV w g}(h:ltOf cfV x y=false):¬ A8 x.xs y.xs<0:=of_decide_eq_false h
theorem Wy{x y:SlV w g}(h:A8 x.xs y.xs<0):ltOf cfV x y=true:=gn h
theorem NV{x y:SlV w g}(h:¬ A8 x.xs y.xs<0):ltOf cfV x y=false:=fK h
theorem XY :SWO (ltOf (cfV (w:=w) (g:=g))) where
 irrefl x:=NV (by rw[DE];omega)
 trans x y z h1 h2:=Wy (Gg (NS h1) (NS h2))
 ntrans x y z h1 h2:=by
  have d:=Is h1;have e:=Is h2;have h3:=BE x.xs y.xs;have h4:=BE y.xs z.xs;have h5:=BE x.xs z.xs;have h6:=C7 (a:=z.xs) (b:=y.xs) (c:=x.xs) (by omega) (by omega);exact NV (by omega)
theorem Mw{base n c:Nat}(A:Srt w base g n c ps)(T:n<=1000) :
 Calls prog 49 #[.slice (some ⟨g,0,none⟩) n c,.func (.func 41) #[] #[]] w (Vp w base g n c ps 0 n):=by
 obtain⟨d,G,a,z⟩:=Ru A;have s:g<w.heap.size:=by
  obtain⟨_,C,M,_⟩:=A;exact(M.lt (k:=g) rfl).2
 have K:∀ l w,(callFunc 41 l).run prog w = .ok (.enter 41 l) w:=enters_of func41 (by kernel_rfl) rfl;have r:CmpReads prog 41 #[] (SlV.enc (w:=w) (g:=g)) cfV g 0 d.size w:=by
  intro m B dk _ x y;have t:=Dw SlV.enc w g m dk B;have P:SlI (sortWorld SlV.enc w g 0 m dk B) x.1.1.1 x.1.1.2.1 x.1.1.2.2 x.xs:=Sl.kept x.2.1 t (Or.inr x.2.2);have Q:SlI (sortWorld SlV.enc w g 0 m dk B) y.1.1.1 y.1.1.2.1 y.1.1.2.2 y.xs:=Sl.kept y.2.1 t (Or.inr y.2.2);exact DL P Q
 have L:Holds SlV.enc w g 0 d:=by
  intro j S;rw[fZ];exact a j (by omega)
 have h:=Any.slices_SortFunc Xo SlV.enc (fun _=>rfl) cfV XY 41 #[] g 0 c d w K r.lays L s (by omega);rw[G]at h;refine h.mono ?_;rintro e U ⟨rfl,b,q,B,hp,F,rfl⟩;obtain⟨R,_,H⟩:=hp;have D:b.size=n:=by rw[R,G]
 have f:b.toList.Perm d.toList:=by
  rw[kw (by omega),kw (by omega)]at H;exact H
 refine⟨rfl,b.toList.map SlV.xs,To A D ?_,⟨?_,?_⟩,?_,Dw _ _ _ _ _ _⟩
 · intro v O;have:=f.mem_iff.1 O;obtain⟨i,o,e⟩:=io.1 this;have p:i<d.size:=by simpa using o
   have N:d[i]! = v:=by
    rw[<-e];simp[p]
   refine⟨i,by omega,by rw[<-N];exact(a i (by omega)).1,?_⟩;rw[<-z,<-e,gqq,jD,eZ o];rfl
 · rw[<-z];exact f.map _
 · intro i o;rcases o with o|o
   · omega
   · rw[gqq,gqq,fH (by simp;omega),fH (by rw[A.len];exact o)]
 · intro i j h0 h1 h2;have:=F i j h0 h1 h2;have p:i<b.size:=by omega
   have E:j<b.size:=by omega
   have:=Is this;have I:(b.toList.map SlV.xs).getD i []=b[i]!.xs:=by simp[p]
   have J:(b.toList.map SlV.xs).getD j []=b[j]!.xs:=by simp[E]
   rw[I,J];have:=BE b[i]!.xs b[j]!.xs;omega
end Go.Proofs.YthdbingomfdeoaaGreatDoor
namespace Go.Proofs.YthdbingomfdeoaaGreatDoor
open Tryz Go Go.RowKit
variable {L:List (List Int)} {n r:Nat} {w:World}
theorem Dg(hM:AB w r (B1 L))(hn:n<=6)(hL:∀ x∈L,x.length=n)(h12:L.length<=1000)(h1:0<L.length) :
 Calls prog 27 #[.int .i64 n,.map (some r)] w (fun e w'=>∃ ps,Xw w ps e w'/\ps.Perm L/\Dt ps 0 L.length):=by
 have HL:=f8 hL;have ae:(B1 L).length=L.length:=by simp[B1]
 have F:=f8 ae;clear hL ae
 go_enter func27,ntmps27
 go_wp2_with(refine Ok rfl rfl Cz rfl hM ?_;intro w1 d R ai)
 have N:AC w1 w.heap.size r L.length []:=by rw[<-F.out];exact d
 go_frame
 go_loopw[5] (fun v wr=>SoR w L r w.heap.size v wr) (fun _ wr=>L.length-Ht wr w.heap.size)
 case atStart=>exact⟨[],none,0,0,[],rfl,rfl,R,lrf _,hM.ext R,N,by simp,by simp,Own.nil _ _ _,fun i hi=>by simp at hi⟩
 case round =>
  clear d N R ai;obtain⟨c,al,nl,cl,Q,rfl,ag,hE,aC,z,d,E,D,hO,hQ⟩:=hrel;have o:=f8 ag;clear ag;rw[<-F.out]at d;by_cases A:∀ i,i<(B1 L).length->i∈c
  · obtain⟨C,l⟩:=T9 E D (fun i hi=>A i (by rw[F.out];exact hi));have aj:0<nl:=by rw[o.out,l];exact h1
    obtain⟨g,rfl,aG,q⟩:=hO.place aj;have hS:Srt wr w.heap.size g nl cl (c.map (fun i=>L.getD i [])):=⟨by rw[fq];exact o.out.symm,Q,hO,hQ⟩;have B:nl<=1000:=by rw[o.out,l];exact h12
    have ao:=f8 l;have an:=f8 C;clear l C
    go_wp2_with(refine JJ rfl rfl rfl z d (fun _ => ?_) (fun i _ _ _ h1 h2 _ _ _=>absurd (A i h1) h2))
    refine(Mw hS B).mono ?_;rintro e X ⟨rfl,ps,az,aE,ak,aB⟩;go_wp2;go_ret;obtain⟨aD,H,I,J⟩:=az;refine⟨ps,⟨_,_,_,H,rfl,hE.grown aB (by intro k t;simp at t;omega),aD.symm,I,J⟩,aE.1.trans an.out,?_⟩;rw[<-ao.out,<-o.out];exact ak
  · have hz:=hE.size;have ap:Hid (Ht wr w.heap.size=c.length):=Kz d
    go_upto_region 4 with(refine JJ rfl rfl rfl z d (fun h=>absurd h A) ?_;intro i k v X aH ad af U q)
    obtain⟨W,t⟩:=Ua af;have K:(L.getD i []).length=n:=HL.out _ (by simp[W]);have V:=z.kept q (On z d);have I:=hO.kept q (D4 hO d);have J:=hQ.kept q (fun _ _ _ _ h=>D4 h d);have a2:Ext w X:=hE.grown q (by intro k t;simp at t;omega);have hA:=Arr.new X 57 An;have Z:Agg prog 57 (k.map (Value.int .i64)).length:=by
     rw[fq,t,AA (by rw[K];exact hn)];exact Cg
    have ah:An.length=(k.map (Value.int .i64)).length:=by
     rw[fq,t,AA (by rw[K];exact hn)];rfl
    have G:=f8 ah;have HK:=f8 t;have am:=f8 K;clear ah t K z hO hQ hE d q
    go_upto_region 5 with(first
     | (refine Ol rfl rfl rfl V U af ?_)
     | (refine Aa rfl rfl rfl rfl rfl Z hA G.out (A4 _) ?_;intro w3 a0 ac))
    go_frame
    have f:Ext X w3:=((Ext.refl X).alloc (.cells An.toArray 57)).grown ac (by intro k t;simp at t;omega);have O:SlI w3 (some ⟨X.heap.size,0,none⟩) n 6 (L.getD i []):=by
     have h1:=a0.sl (k:=n) (by rw[<-G.out];exact hn) (by rw[<-G.out];unfold maxLen;decide);rw[<-G.out,HK.out,<-lL]at h1;have h2:=LR (L.getD i []);rw[am.out]at h2;rw[h2]at h1;exact h1
    have S:=a2.trans f;have a6:=V.ext f;have a3:=U.ext f;have a9:=I.ext f;have ab:=J.ext f;have B:nl<=1000:=by
     rw[o.out];have:=FT c (List.range L.length) E (fun x M=>by rw[gO];exact D x M);simp at this;omega
    have aI:=fun wx:World=>Le (P:=prog) (w:=wx) (g:=X.heap.size) Ba.arr BG hn;clear a0 ac f hA V U I J a2 Z
    go_wp2_with fail
    refine(EN O (by omega) (by simp)).mono ?_;rintro e w4 ⟨a4,n4,c4,rfl,p,aa⟩;have av:=a9.ext p;have ax:=ab.ext p;have au:=a6.ext p;have a5:=a3.ext p;have T:=S.trans p;have a1:BF w4 w.heap.size a4 n4 c4 (L.getD i []):=Own.mono aa S.size;clear a9 ab a6 a3 S p aa O;have hA6:Ext w4 (w4.alloc (.cells #[.slice a4 n4 c4] 35)):=(Ext.refl w4).alloc _;have aA:=(Au w4 w.heap.size 35 #[.slice a4 n4 c4] 1 rfl T.size (by omega)).sl;have m:=av.ext hA6
    go_wp2_with(refine BS rfl rfl underlying29 Ek rfl rfl m rfl aA (by simp[Value.oneCell']) (by unfold maxLen;omega) (by omega) (by have:=T.size;simp;omega) ?_;intro a7 c7 w7 aw s aF)
    go_roundw
    case rel =>
     have ar:=T.trans hA6;have y:=a5.ext hA6;have a8:=au.ext hA6;have M:∀ k,blk al=some k->w.heap.size<=k:=fun k t=>(m.lt t).1;refine⟨c ++ [i],a7,nl+1,c7,_,rfl,by rw[o.out];simp,ar.grown s M,aC,a8.kept s ?_,?_,?_,?_,aw,?_⟩
     · rcases CC m a8 with h|h
       · rw[h];simp
       · exact fun h2=>h h2.symm
     · have:AC w7 w.heap.size r (B1 L).length (c ++ [i]):=y.kept s (by
        rcases D4 m y with h|h
        · rw[h];simp
        · exact fun h2=>h h2.symm)
       rw[<-F.out];exact this
     · rw[iq];refine⟨E,by simp,?_⟩;intro a ha b hb;simp only[fi]at hb;subst hb;rintro rfl;exact ad ha
     · intro j Y;rcases fL.1 Y with Y|Y
       · exact D j Y
       · simp only[fi]at Y;subst Y;exact W
     · have ay:=(ax.ext hA6).kept s (fun _ _ _ _ h=>DM h m (by decide));have aq:BF w7 w.heap.size a4 n4 c4 (L.getD i []):=Own.kept (Own.ext a1 hA6) s (DM (Own.ext a1 hA6) m (by decide));rw[fY];exact ay.snoc (by rw[m.len,o.out];simp) aq
    case measure =>
     have y:=a5.ext hA6;have e1:Ht w7 w.heap.size=c.length+1:=by
      have:AC w7 w.heap.size r (B1 L).length (c ++ [i]):=y.kept s (by
       rcases D4 m y with h|h
       · rw[h];simp
       · exact fun h2=>h h2.symm)
      rw[Kz this];simp
     have e2:=ap.out;have:c.length<=L.length:=by
      have:=FT c (List.range L.length) E (fun x M=>by rw[gO];exact D x M);simpa using this
     have h3:c.length<L.length:=by
      have:=FT (i :: c) (List.range L.length) (gG.2 ⟨ad,E⟩) (fun x M=>by
       rw[gO];rcases fV.1 M with rfl|M
       · exact W
       · exact D x M)
      simp at this;omega
     rw[e1,e2];omega
def IY(w:World)(os:List (List Int))(er:Int)(e:Ending)(w':World):Prop :=
 ∃ a n c,e = .returned (.tuple #[.slice a n c,.int .i64 er])/\Ext w w'/\SlL w' a n c os
theorem IY.none{w c:World}{os:List (List Int)}{b a:Int}(he:Ext w c)(h:(os,b)=([],a)):IY w os b (.returned (.tuple #[.slice none 0 0,.int .i64 a])) c:=by
 simp only[jk]at h;obtain⟨rfl,rfl⟩:=h;exact⟨Option.none,0,0,rfl,he,rfl,[],Sl.nil _,fun i d=>by omega⟩
end Go.Proofs.YthdbingomfdeoaaGreatDoor
