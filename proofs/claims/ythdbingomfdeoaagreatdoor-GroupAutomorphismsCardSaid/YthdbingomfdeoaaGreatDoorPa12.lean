/- Part Pa12. -/
import Derived.Test.YthdbingomfdeoaaGreatDoorPa11

set_option linter.all false
set_option maxRecDepth 100000
set_option maxHeartbeats 100000000
namespace Go.Proofs.YthdbingomfdeoaaGreatDoor
def lm:=@List.foldl_append
variable {u:List Bool} {a e f:List Int} {i j k n:Nat}
abbrev PLs:=List Pl.Tm
def mvL(a:List Int)(l:PLs):PLs:=l.map fun t=>(mvd a t.1,t.2)
theorem IB(hp:Ak a=true)(he:e.length=a.length)(d:f.length=a.length)(h:mvd a e=mvd a f):e=f:=by
 apply j6 (by omega);intro i g j;have b:=En hp he (i:=i) (by omega);have c:=En hp d (i:=i) (by omega);rw[h,c]at b;simpa[g,j]using b.symm
theorem Q7(hp:Ak a=true)(he:e.length=a.length):∃ f:List Int,f.length=a.length/\mvd a f=e:=by
 refine⟨comp e a,Bj e a,?_⟩;refine Io (d:=0) hp (by rw[Bh,Bj]) he fun i b => ?_;rw[En hp (Bj e a) b,Oc b]
theorem Ol(b:n<=6)(he:e.length=n):mvd (idn n) e=e:=by
 have hp:=Dj b;refine Io (d:=0) hp (by rw[Bh,AC,he]) (by rw[AC,he]) fun i a => ?_;rw[AC]at a;rw[En hp (by rw[AC,he]) (by rw[AC];exact a),LJ a];rfl
theorem LV{x:PLs}(hp:Ak a=true)(b:∀ t∈x,t.1.length=a.length){e:List Int}(he:e.length=a.length):Pl.coef (mvL a x) (mvd a e)=Pl.coef x e:=by
 induction x with
 | nil=>rfl
 | cons t r ih =>
  have h1:=b t (by simp);have h2:=ih (fun s c=>b s (by simp[c]));show(if mvd a t.1=mvd a e then t.2 else 0)+Pl.coef (mvL a r) (mvd a e)=(if t.1=e then t.2 else 0)+Pl.coef r e;rw[h2];by_cases h:t.1=e
  · rw[fE h,fE (by rw[h])]
  · rw[fl h,fl (fun h3=>h (IB hp h1 he h3))]
theorem IC{x:PLs}(b:Pl.Canon n x){e:List Int}(he:e.length≠n):Pl.coef x e=0 :=
 Pl.coef_absent fun t a h=>he (by rw[<-h,b.len t a])
def Rl(a:List Int)(x y:PLs):Prop:=∀ e,Pl.coef (mvL a x) e=Pl.coef y e
section
variable {n:Nat} {a b:List Int} {x y z:PLs}
theorem Rl.at(h:Rl a x y)(hp:Ak a=true)(b:a.length=n)(d:Pl.Canon n x){e:List Int}(he:e.length=n):Pl.coef y (mvd a e)=Pl.coef x e:=by
 rw[<-h,LV hp (fun t c=>by rw[d.len t c,b]) (by rw[he,b])]
theorem Rl.mk(hp:Ak a=true)(b:a.length=n)(g:Pl.Canon n x)(k:Pl.Canon n y)(h:∀ e,e.length=n->Pl.coef y (mvd a e)=Pl.coef x e):Rl a x y:=fun e=>by
 by_cases he:e.length=n
 · obtain⟨f,d,rfl⟩:=Q7 hp (e:=e) (by rw[he,b]);rw[LV hp (fun t c=>by rw[g.len t c,b]) d,h f (by rw[d,b])]
 · rw[IC k he];refine Pl.coef_absent fun t c i=>he ?_;obtain⟨s,j,rfl⟩:=fh.1 c;rw[<-i];show(mvd a s.1).length=n;rw[Bh,g.len s j]
theorem Rl.det(h1:Rl a x y)(h2:Rl a x z)(b:Pl.Canon n y)(c:Pl.Canon n z):y=z :=
 Pl.canon_ext b c fun e=>by rw[<-h1,<-h2]
theorem Rl.inj(h1:Rl a x z)(h2:Rl a y z)(hp:Ak a=true)(d:a.length=n)(b:Pl.Canon n x)(c:Pl.Canon n y):x=y :=
 Pl.canon_ext b c fun e=>by
  by_cases he:e.length=n
  · rw[<-h1.at hp d b he,<-h2.at hp d c he]
  · rw[IC b he,IC c he]
theorem Rl.comp(h1:Rl b x y)(h2:Rl a y z)(pa:Ak a=true)(c:Ak b=true)(i:a.length=n)(lb:b.length=n)(d:Pl.Canon n x)(f:Pl.Canon n y)(g:Pl.Canon n z):Rl (comp a b) x z :=
 Rl.mk (EO pa c (by omega)) (by rw[Bj,lb]) d g fun e he=>by
  rw[<-Sp pa c (by omega) (by omega),h2.at pa i f (by rw[Bh,he]),h1.at c lb d he]
theorem Rl.one(a:n<=6)(b:Pl.Canon n x):Rl (idn n) x x :=
 Rl.mk (Dj a) (AC n) b b fun e he=>by rw[Ol a he]
theorem Es(a:Pl.Canon n x):(x.map (·.1)).Nodup:=by
 rw[List.nodup_iff_pairwise_ne,iZ];refine a.desc.imp fun {s t} h e => ?_;rw[e,Pl.ordE_self]at h;omega
theorem BJ(a:Pl.Canon n x){t:Pl.Tm}(b:t∈x):Pl.coef x t.1=t.2:=by
 induction x with
 | nil=>cases b
 | cons s r ih =>
  rcases fS.1 b with rfl|h
  · exact a.head
  · have h1:=ih a.tail h;have h2:=Es a;rw[gM,iH]at h2;show(if s.1=t.1 then s.2 else 0)+Pl.coef r t.1=t.2;rw[fl (fun e=>h2.1 (by rw[e];exact gn h)),h1]
    grind
theorem Nd(hp:Ak a=true)(d:a.length=n)(c:Pl.Canon n x):((mvL a x).map (·.1)).Nodup:=by
 have h:=Es c;rw[List.nodup_iff_pairwise_ne,iZ]at h |-;unfold mvL;rw[iZ];refine List.Pairwise.imp_of_mem ?_ h;intro s t f g b e;exact b (IB hp (by rw[c.len s f,d]) (by rw[c.len t g,d]) e)
def Mvs(a:List Int)(x y:PLs):Prop:=x.length=y.length/\∀ t∈x,Pl.coef y (mvd a t.1)=t.2
theorem K2(hp:Ak a=true)(g:a.length=n)(c:Pl.Canon n x)(m:Pl.Canon n y):Mvs a x y<->Rl a x y:=by
 have i:((mvL a x).map (·.1)).length=x.length:=by simp[mvL]
 constructor
 · rintro⟨w,h⟩;have j:∀ k∈(mvL a x).map (·.1),k∈y.map (·.1):=by
    intro k d;obtain⟨t,b,rfl⟩:=fh.1 d;obtain⟨s,f,rfl⟩:=fh.1 b;have h1:Pl.coef y (mvd a s.1)≠0:=by rw[h s f];exact c.nz s f
    obtain⟨u,hu,e⟩:=Pl.coef_present h1;exact fh.2 ⟨u,hu,e⟩
   refine Rl.mk hp g c m fun e he => ?_;by_cases o:∃ t∈x,t.1=e
   · obtain⟨t,b,rfl⟩:=o;rw[h t b,BJ c b]
   · rw[Pl.coef_absent (l:=x) (fun t b v=>o ⟨t,b,v⟩)];refine fk fun h1 => ?_;obtain⟨u,hu,q⟩:=Pl.coef_present h1;have p:mvd a e ∉ (mvL a x).map (·.1):=by
      intro d;obtain⟨t,b,r⟩:=fh.1 d;obtain⟨s,f,rfl⟩:=fh.1 b;exact o ⟨s,f,IB hp (by rw[c.len s f,g]) (by rw[he,g]) r⟩
     have h2:=nodup_le (mvd a e :: (mvL a x).map (·.1)) (y.map (·.1)) (iH.2 ⟨p,Nd hp g c⟩) (by
      intro k d;rcases fS.1 d with rfl|d
      · exact fh.2 ⟨u,hu,q⟩
      · exact j k d)
     rw[fW,i,ft]at h2;omega
 · intro h;refine⟨?_,fun t b=>by rw[h.at hp g c (c.len t b),BJ c b]⟩
   have h1:=nodup_le ((mvL a x).map (·.1)) (y.map (·.1)) (Nd hp g c) (by
    intro k d;obtain⟨t,b,rfl⟩:=fh.1 d;obtain⟨s,f,rfl⟩:=fh.1 b;have h1:Pl.coef y (mvd a s.1)≠0:=by rw[h.at hp g c (c.len s f),BJ c f];exact c.nz s f
    obtain⟨u,hu,e⟩:=Pl.coef_present h1
    exact fh.2 ⟨u,hu,e⟩)
   have h2:=nodup_le (y.map (·.1)) ((mvL a x).map (·.1)) (Es m) (by
    intro k d;obtain⟨t,b,rfl⟩:=fh.1 d;have h1:Pl.coef (mvL a x) t.1≠0:=by rw[h,BJ m b];exact m.nz t b
    obtain⟨u,hu,e⟩:=Pl.coef_present h1
    exact fh.2 ⟨u,hu,e⟩)
   rw[i,ft]at h1;rw[i,ft]at h2;omega
theorem Rl.perm(h:Rl a x y)(hp:Ak a=true)(m:a.length=n)(d:Pl.Canon n x)(f:Pl.Canon n y):(mvL a x).Perm y:=by
 have o:∀ {l:PLs},(l.map (·.1)).Nodup->l.Nodup:=fun {l} i=>by
  rw[List.nodup_iff_pairwise_ne]at i |-;rw[iZ]at i;exact i.imp fun j e=>j (by rw[e])
 refine(List.perm_ext_iff_of_nodup (o (Nd hp m d)) (o (Es f))).2 fun t => ?_;have g:∀ s∈x,Pl.coef y (mvd a s.1)=s.2:=fun s b=>by rw[h.at hp m d (d.len s b),BJ d b]
 constructor
 · intro c;obtain⟨s,b,rfl⟩:=fh.1 c;obtain⟨u,hu,e⟩:=Pl.coef_present (l:=y) (e:=mvd a s.1) (by rw[g s b];exact d.nz s b);have h2:=BJ f hu;rw[e,g s b]at h2;have:u=(mvd a s.1,s.2):=Prod.ext e h2.symm;rw[<-this];exact hu
 · intro c;obtain⟨u,hu,e⟩:=Pl.coef_present (l:=mvL a x) (e:=t.1) (by rw[h,BJ f c];exact f.nz t c);obtain⟨s,b,rfl⟩:=fh.1 hu;have h2:=g s b;have k:mvd a s.1=t.1:=e;rw[k,BJ f c]at h2;have:t=(mvd a s.1,s.2):=Prod.ext k.symm h2;rw[this];exact hu
end
def Kep(a:List Int)(L:List PLs):Prop:=∀ p∈L,∃ q∈L,Rl a p q/\L.count p=L.count q
def Hk(n:Nat)(L:List PLs):Prop:=∀ x∈L,Pl.Canon n x
section
variable {n:Nat} {a b:List Int} {L:List PLs}
theorem Kep.one(b:n<=6)(a:Hk n L):Kep (idn n) L:=fun p hp=>⟨p,hp,Rl.one b (a p hp),rfl⟩
theorem Kep.comp(h1:Kep b L)(h2:Kep a L)(pa:Ak a=true)(j:Ak b=true)(i:a.length=n)(lb:b.length=n)(c:Hk n L):Kep (comp a b) L:=fun p hp=>by
 obtain⟨q,d,k,f⟩:=h1 p hp;obtain⟨r,e,l,g⟩:=h2 q d;exact⟨r,e,k.comp l pa j i lb (c p hp) (c q d) (c r e),f.trans g⟩
theorem ID(hp:Ak a=true)(f:a.length=n){p q:PLs}(cp:Pl.Canon n p)(d:Pl.Canon n q)(h:Rl a p q):∀ {xs ms:List PLs},xs.length=ms.length->(∀ j,j<xs.length->Rl a (xs.getD j []) (ms.getD j []))->Hk n xs->Hk n ms->xs.count p=ms.count q
 | [],[],_,_,_,_=>rfl
 | [],_ :: _,e,_,_,_=>by simp at e
 | _ :: _,[],e,_,_,_=>by simp at e
 | x :: xs,m :: ms,e,hr,cx,cm=>by
  have ih:=ID hp f cp d h (xs:=xs) (ms:=ms) (by simpa using e) (fun j i=>by have:=hr (j+1) (by simpa using i);simpa using this) (fun y c=>cx y (by simp[c])) (fun y c=>cm y (by simp[c]));have h0:Rl a x m:=by simpa using hr 0 (by simp)
  rw[List.count_cons,List.count_cons,ih];have l:=cx x (by simp);have k:=cm m (by simp);by_cases he:x=p
  · subst he;have:=h0.det h k d;subst this;simp
  · have b:m≠q:=fun g=>he (by subst g;exact h0.inj h hp f l cp);rw[fl (by simpa using he),fl (by simpa using b)]
def BK:List PLs->List Bool->List PLs
 | x :: L,b :: u=>if b=true then x :: BK L u else BK L u
 | _,_=>[]
theorem LW:∀ (L:List PLs) (u:List Bool),(BK L u).length<=L.length
 | [],_=>by simp[BK]
 | _ :: _,[]=>by simp[BK]
 | x :: L,b :: u=>by
  have:=LW L u;unfold BK;split <;> simp <;> omega
theorem J5:∀ (L:List PLs) (u:List Bool),(BK L u).length=L.length->BK L u=L
 | [],_,_=>by simp[BK]
 | _ :: _,[],h=>by simp[BK]at h
 | x :: L,b :: u,h=>by
  have h1:=LW L u;unfold BK at h |-;cases b with
  | true=>simp only[j0,fW]at h |-; rw[J5 L u (by omega)]
  | false=>simp at h;omega
theorem J6:∀ (L:List PLs) (k:Nat),BK L (List.replicate k false)=[]
 | [],_=>by simp[BK]
 | _ :: _,0=>by simp[BK]
 | _ :: L,k+1=>by rw[jH];unfold BK;simp[J6 L k]
theorem LX:∀ (L:List PLs) (u:List Bool) (k:Nat),k<L.length->k<u.length->u.getD k false=false->(BK L (u.set k true)).Perm (L.getD k [] :: BK L u)
 | [],_,_,h,_,_=>by simp at h
 | _ :: _,[],_,_,h,_=>by simp at h
 | x :: L,b :: u,0,_,_,h=>by
  have:b=false:=by simpa using h
  subst this;simp[BK]
 | x :: L,b :: u,k+1,h1,h2,h3=>by
  have a:=LX L u k (by simpa using h1) (by simpa using h2) (by simpa using h3);rw[jn,kA];cases b with
  | true=>simp only[BK,j0];exact(a.cons x).trans (List.Perm.swap _ _ _)
  | false=>simpa[BK]using a
theorem IE(q:PLs):∀ (L:List PLs) (u:List Bool),u.length=L.length->(∀ k,k<L.length->L.getD k []=q->u.getD k false=true)->(BK L u).count q=L.count q
 | [],_,_,_=>by simp[BK]
 | _ :: _,[],h,_=>by simp at h
 | x :: L,b :: u,h,hm=>by
  have ih:=IE q L u (by simpa using h) (fun k c e=>by have:=hm (k+1) (by simpa using c) (by simpa using e);simpa using this);have h0:=hm 0 (by simp);cases b with
  | true=>simp only[BK,j0,List.count_cons,ih]
  | false =>
   have a:x≠q:=fun e=>by simp[e]at h0
   simp only[BK,List.count_cons];simp[a,ih]
structure GI(a:List Int)(L:List PLs)(i:Nat)(u:List Bool):Prop where
 ulen:u.length=L.length
 ile:i<=L.length
 mats:∃ ms:List PLs,ms.length=i/\(∀ j,j<i->Rl a (L.getD j []) (ms.getD j []))/\ms.Perm (BK L u)
theorem GI.start(a:List Int)(L:List PLs):GI a L 0 (List.replicate L.length false) :=
 ⟨by simp,f8 _,[],rfl,fun j b=>absurd b (by omega),by rw[J6]⟩
theorem GI.step(h:GI a L i u)(hi:i<L.length)(d:k<L.length)(hu:u.getD k false=false)(e:Rl a (L.getD i []) (L.getD k [])):GI a L (i+1) (u.set k true):=by
 obtain⟨h1,h2,c,h3,h4,h5⟩:=h;refine⟨by simp[h1],hi,c ++ [L.getD k []],by simp[h3],fun j f => ?_,?_⟩
 · by_cases b:j<i
   · have:(c ++ [L.getD k []]).getD j []=c.getD j []:=by simp[f4,h3,b]
     rw[this];exact h4 j b
   · have:j=i:=by omega
     subst this;have:(c ++ [L.getD k []]).getD j []=L.getD k []:=by simp[<-h3]
     rw[this];exact e
 · refine(jX (l₁:=c) (l₂:=[L.getD k []])).trans ?_;exact(h5.cons _).trans (LX L u k d (by omega) hu).symm
theorem CV{L:List PLs}(a:j<L.length):L.getD j []∈L:=by
 rw[gqq,eQ a];exact fu _
theorem GI.memL{ms:List PLs}(h:ms.Perm (BK L u)):∀ q∈ms,q∈L:=fun q a=>by
 have:∀ (L:List PLs) (u:List Bool),∀ q∈BK L u,q∈L:=by
  intro L
  induction L with
  | nil=>intro u q a;simp[BK]at a
  | cons x L ih =>
   intro u q a;cases u with
   | nil=>simp[BK]at a
   | cons b u =>
    unfold BK at a;split at a
    · rcases fS.1 a with rfl|a
      · simp
      · simp[ih u q a]
    · simp[ih u q a]
 exact this L u q (h.mem_iff.1 a)
theorem GI.done(h:GI a L L.length u)(hp:Ak a=true)(k:a.length=n)(c:Hk n L):Kep a L:=by
 obtain⟨h1,h2,ms,h3,h4,h5⟩:=h;have d:=GI.memL h5;have h6:BK L u=L:=J5 L u (by rw[<-h5.length_eq,h3]);rw[h6]at h5;intro p b;obtain⟨j,g,rfl⟩:=fR b;have f:=h4 j g;have e:L.getD j []=L[j]:=by simp[g]
 rw[e]at f;have i:ms.getD j []∈ms:=CV (by omega);refine⟨ms.getD j [],d _ i,f,?_⟩;rw[ID hp k (c _ b) (c _ (d _ i)) f (xs:=L) (ms:=ms) h3.symm h4 c (fun y l=>c y (d y l)),h5.count_eq]
theorem GI.fail(h:GI a L i u)(hi:i<L.length)(hp:Ak a=true)(m:a.length=n)(b:Hk n L)(c:∀ k,k<L.length->u.getD k false=false->¬ Rl a (L.getD i []) (L.getD k [])):¬ Kep a L:=by
 obtain⟨h1,h2,v,h3,h4,h5⟩:=h;have s:=GI.memL h5;intro l;obtain⟨q,t,f,B⟩:=l _ (CV hi);have w:(L.take i).count (L.getD i [])=v.count q:=by
  refine ID hp m (b _ (CV hi)) (b q t) f (by rw[go];omega) (fun j p => ?_) (fun y d=>b y (iU d)) (fun y d=>b y (s y d));rw[go]at p;have:(L.take i).getD j []=L.getD j []:=by simp[show j<i by omega]
  rw[this];exact h4 j (by omega)
 have x:=h5.count_eq q;have z:(L.take i).count (L.getD i [])<L.count (L.getD i []):=by
  have e:L.getD i []=L[i]:=by simp[hi]
  have g:L.count L[i]=(L.take i).count L[i]+(L.drop i).count L[i]:=by rw[<-List.count_append,iR]
  rw[e,g,fD hi,List.count_cons_self];omega
 have A:(BK L u).count q=L.count q:=IE q L u h1 fun k r e=>by
  cases o:u.getD k false with
  | true=>rfl
  | false=>exact absurd (by rw[e];exact f) (c k r o)
 omega
structure Ch(L:List PLs)(M:List (PLs×Nat)):Prop where
 nodup:(M.map (·.1)).Nodup
 mem:∀ x,x∈M.map (·.1)<->x∈L
 cnt:∀ p∈M,p.2=L.count p.1
theorem Ch.nil:Ch [] []:=⟨by simp,by simp,by simp⟩
theorem Ch.old{M:List (PLs×Nat)}{x:PLs}(h:Ch L M)(j:k<M.length)(c:(M.getD k ([],0)).1=x):Ch (L ++ [x]) (M.set k (x,(M.getD k ([],0)).2+1)):=by
 have l:M.getD k ([],0)=M[k]:=by simp[j]
 rw[l]at c |-;have a:(M.set k (x,M[k].2+1)).map (·.1)=M.map (·.1):=by
  rw[ju];apply j6 (by simp);intro i m n;rw[List.getElem_set];split
  · subst_vars;simp
  · rfl
 have f:x∈M.map (·.1):=fh.2 ⟨M[k],fu _,c⟩;refine⟨by rw[a];exact h.nodup,fun y => ?_,fun p hp => ?_⟩
 · rw[a,h.mem,fo,eV];constructor
   · exact Or.inl
   · rintro(h1|rfl)
     · exact h1
     · exact(h.mem _).1 f
 · obtain⟨i,g,rfl⟩:=fR hp;simp only[gL]at g;rw[List.getElem_set];by_cases b:k=i
   · subst b;rw[fE rfl];have:=h.cnt M[k] (fu _);rw[c]at this;simp[List.count_append,this]
   · rw[fl b];have h1:=h.cnt M[i] (fu _)
     have d:M[i].1≠x:=fun e=>by
      have h2:(M.map (·.1))[k]'(by simpa using j)=(M.map (·.1))[i]'(by simpa using g):=by simp[c,e]
      exact b ((List.getElem_inj h.nodup).1 h2)
     rw[List.count_append,List.count_singleton,h1,fl (by simpa using d.symm)];rfl
theorem Ch.new{M:List (PLs×Nat)}{x:PLs}(h:Ch L M)(b:x ∉ M.map (·.1)):Ch (L ++ [x]) (M ++ [(x,1)]):=by
 refine⟨?_,fun y => ?_,fun p hp => ?_⟩
 · rw[fM,io];refine⟨h.nodup,by simp,?_⟩;intro u hu v c e;have:v=x:=by simpa using c
   rw[e,this]at hu;exact b hu
 · rw[fM,fo,h.mem,fo];simp
 · rcases fo.1 hp with hp|hp
   · have a:p.1≠x:=fun e=>b (by rw[<-e];exact gn hp);rw[List.count_append,List.count_singleton,h.cnt p hp,fl (by simpa using a.symm)];rfl
   · have:p=(x,1):=by simpa using hp
     subst this;have:L.count x=0:=List.count_eq_zero.2 fun e=>b ((h.mem x).2 e);simp[List.count_append,this]
theorem Ch.kept{M:List (PLs×Nat)}(h:Ch L M):Kep a L<->∀ p∈M,∃ q∈M,Rl a p.1 q.1/\p.2=q.2:=by
 constructor
 · intro e p hp;obtain⟨q,d,g,f⟩:=e p.1 ((h.mem _).1 (gn hp));obtain⟨j,c,rfl⟩:=fh.1 ((h.mem q).2 d);exact⟨j,c,g,by rw[h.cnt p hp,h.cnt j c,f]⟩
 · intro e p hp;obtain⟨i,b,rfl⟩:=fh.1 ((h.mem p).2 hp);obtain⟨q,d,g,f⟩:=e i b;exact⟨q.1,(h.mem _).1 (gn d),g,by rw[<-h.cnt i b,<-h.cnt q d,f]⟩
end
def Aut(n:Nat)(Ls:List (List PLs))(a:List Int):Prop:=Ak a=true/\a.length=n/\∀ L∈Ls,Kep a L
section
variable {n:Nat} {Ls:List (List PLs)} {gs V:List (List Int)} {a p:List Int}
theorem Aut.comp{b:List Int}(d:∀ L∈Ls,Hk n L)(h1:Aut n Ls a)(h2:Aut n Ls b):Aut n Ls (comp a b) :=
 ⟨EO h1.1 h2.1 (by rw[h1.2.1,h2.2.1]),by rw[Bj,h2.2.1],fun L c=>(h2.2.2 L c).comp (h1.2.2 L c) h1.1 h2.1 h1.2.1 h2.2.1 (d L c)⟩
theorem Aut.reach(b:n<=6)(a:∀ L∈Ls,Hk n L)(d:∀ g∈gs,Aut n Ls g)(h:BI gs n p):Aut n Ls p:=by
 obtain⟨c,h1,rfl⟩:=h
 induction c with
 | nil=>exact⟨Dj b,AC n,fun L e=>Kep.one b (a L e)⟩
 | cons g c ih=>exact Aut.comp a (d g (h1 g (by simp))) (ih fun x f=>h1 x (by simp[f]))
theorem Nf(h:BI gs n p):BI (gs ++ [a]) n p:=by
 obtain⟨c,h1,rfl⟩:=h;exact⟨c,fun g b=>List.mem_append_left _ (h1 g b),rfl⟩
structure VI(n:Nat)(Ls:List (List PLs))(V gs:List (List Int)):Prop where
 gens:∀ g∈gs,Aut n Ls g
 seen:∀ a∈V,Aut n Ls a->BI gs n a
theorem VI.start(n:Nat)(a:List (List PLs)):VI n a [] []:=⟨by simp,by simp⟩
theorem VI.known(h:VI n Ls V gs)(e:BI gs n a):VI n Ls (V ++ [a]) gs :=
 ⟨h.gens,fun b c d=>by
  rcases fo.1 c with c|c
  · exact h.seen b c d
  · rw[eV.1 c];exact e⟩
theorem VI.out(h:VI n Ls V gs)(e:¬ Aut n Ls a):VI n Ls (V ++ [a]) gs :=
 ⟨h.gens,fun b c d=>by
  rcases fo.1 c with c|c
  · exact h.seen b c d
  · rw[eV.1 c]at d;exact absurd d e⟩
theorem VI.gen(h:VI n Ls V gs)(e:Aut n Ls a):VI n Ls (V ++ [a]) (gs ++ [a]) :=
 ⟨fun g d=>by
  rcases fo.1 d with d|d
  · exact h.gens g d
  · rw[eV.1 d];exact e,fun b c f=>by
  rcases fo.1 c with c|c
  · exact Nf (h.seen b c f)
  · rw[eV.1 c];refine⟨[a],by simp,?_⟩;show a=Go.Proofs.YthdbingomfdeoaaGreatDoor.comp a (idn n)
    rw[<-e.2.1,Im]⟩
theorem VI.perms(h:VI n Ls V gs):GC gs n:=fun g a=>⟨(h.gens g a).1,(h.gens g a).2.1⟩
theorem VI.done(h:VI n Ls V gs)(d:n<=6)(b:∀ L∈Ls,Hk n L)(c:∀ p,Ak p=true->p.length=n->p∈V):∀ p,BI gs n p<->Aut n Ls p :=
 fun p=>⟨Aut.reach d b h.gens,fun a=>h.seen p (c p a.1 a.2.1) a⟩
end
def prm(n:Nat):Nat->List Int->List (List Int)
 | 0,pre=>[pre]
 | k+1,pre=>(idn n).flatMap fun x=>if x∈pre then []else prm n k (pre ++ [x])
def Et(n:Nat):Nat->List (List Int)
 | 0=>[[]]
 | k+1=>(Et n k).flatMap fun p=>(idn n).flatMap fun v=>if v∈p then []else [p ++ [v]]
theorem SP:∀ n,n<5->prm n n []=gen n (idn n):=by decide +kernel
theorem LY:∀ n,n<5->Et n n=gen n (idn n):=by decide +kernel
theorem Q8:∀ n,n<5->(∀ p∈gen n (idn n),Ak p=true/\p.length=n)/\(gen n (idn n)).Pairwise (fun a b=>Bc a b<0):=by decide +kernel
theorem FX(a:n<5){p:List Int}:p∈gen n (idn n)<->Ak p=true/\p.length=n:=by
 refine⟨(Q8 n a).1 p,fun⟨h1,h2⟩=>FK n (idn n) p h2 (At h1).2.2 fun x b=>FL.2 ?_⟩;have:=(At h1).2.1 x b;rw[h2]at this;exact this
open Classical in
noncomputable def autL (n:Nat) (Ls:List (List PLs)):List (List Int):=(gen n (idn n)).filter fun a=>decide (Aut n Ls a)
theorem Q9(b:n<5){a:List (List PLs)}{p:List Int}:p∈autL n a<->Aut n a p:=by
 classical
 unfold autL;rw[jc,FX b];simp only[iY];exact⟨fun h=>h.2,fun h=>⟨⟨h.1,h.2.1⟩,h⟩⟩
theorem SQ(k:n<5){c:List (List PLs)}{ps:List (List Int)}(l:ps.Nodup)(q:Ed ps 0 ps.length)(o:∀ p,p∈ps<->Aut n c p):ps=autL n c:=by
 classical
 have f:(autL n c).Pairwise (fun a b=>Bc a b<0):=(Q8 n k).2.filter _;refine IA l ?_ (fun x=>by rw[o,Q9 k]) q ?_
 · refine f.imp fun {a b} h e => ?_;rw[e]at h;have:=Bv b b;omega
 · intro i j _ d g;rw[gH]at f;have:=f i j (by omega) g d;have m:i<(autL n c).length:=by omega
   simp only[gqq,eQ m,eQ g,fC];omega
end Go.Proofs.YthdbingomfdeoaaGreatDoor
namespace Go.Proofs.YthdbingomfdeoaaGreatDoor
open Tryz Go Go.RowKit
variable {f:Act} {p:Addr} {ops:Array Oper} {cur:Array Value} {s:ByteArray} {Q:Exit->Act->World->Prop} {k:Int} {m:List (List Int×Value)} {rows:List (List Value)} {b l pre xs:List Int} {ps:List Nat} {rest:List Oper} {cs:List Value} {B N base c c' cB cx fB g j n nx r:Nat} {o:Oper} {u y:Operand} {a a' x:Option Addr} {row:Option Nat} {q:Rat} {T e et kt mt t ty vt:TypeId} {v z:Value} {w w' w1 w2:World}
theorem K3{x:Int}(r:SlI w a n c xs)(E:n<=1000000) :
 Calls prog 74 #[.slice a n c,.int .i64 x] w fun e A=>∃ k:Int,e = .returned (.int .i64 k)/\Ext w A/\Hid (0<=k<->x∈xs):=by
 have q:=eP r.len
 go_enter func74,ntmps74
 go_wp2
 go_loopw[8] (fun p wr=>∃ k:Nat,p = .int .i64 k/\k<=n/\Ext w wr/\Hid (∀ i,i<k->xs.getD i 0≠x)) (fun p _=>n-(intOf p).toNat)
 case atStart=>exact⟨0,rfl,f8 _,Ext.refl _,eP (fun i j=>absurd j (by omega))⟩
 case round =>
  obtain⟨k,rfl,D,g,f⟩:=hrel;by_cases d:k<n
  · obtain⟨b,o,rfl,l⟩:=(r.ext g).at d;have C:=l k d;have t:Hid (xs.getD k 0∈xs):=eP (by have:=q.out;simp[show k<xs.length by omega]);by_cases m:x=xs.getD k 0
    · have B:=eP m;clear l;generalize xs.getD k 0=y at *
      subst m;go_wp2;go_ret;exact⟨k,rfl,g,eP ⟨fun _=>t.out,fun _=>jR _⟩⟩
    · have v:Hid (∀ i,i<k+1->xs.getD i 0≠x):=eP fun i j=>by
       by_cases h:i<k
       · exact f.out i h
       · have:i=k:=by omega
         subst this;exact fun e=>m e.symm
      clear l f;generalize xs.getD k 0=y at *
      go_wp2;go_roundw
      case rel=>exact⟨k+1,by go_num,by omega,g,v⟩
      case measure=>simp[intOf];omega
  · have s:Hid (x ∉ xs):=eP fun z=>by
     obtain⟨i,j,e⟩:=fR z;have h1:=f.out i (by have:=q.out;omega);simp[j,e]at h1
    clear f;go_wp2;go_ret;exact⟨-1,rfl,g,eP ⟨fun h=>by omega,fun h=>absurd h s.out⟩⟩
theorem CO{x:Int}(j:SlI w a n c xs)(i:n<=1000000) :
 Calls prog 48 #[.slice a n c,.int .i64 x] w fun e l=>e = .returned (.bool (decide (x∈xs)))/\Ext w l:=by
 obtain⟨r,b⟩:∃ r,decide (x∈xs)=r:=⟨_,rfl⟩;rw[b];have f:=eP b;clear b
 go_enter func48,ntmps48
 go_wp2_with fail
 refine(K3 j i).mono ?_;rintro e m ⟨k,rfl,g,d⟩;go_wp2;go_ret;refine⟨Nt ?_,g⟩;rw[<-f.out];exact k9.2 d.out.symm
structure KI(w w':World):Prop where
 size:w.heap.size<=w'.heap.size
 blk:∀ (g:Nat) (cs:Array Value) (fr:Nat×Nat),w.heap[g]?=some (Obj.cells cs 3 fr)->w'.heap[g]?=w.heap[g]?
theorem KI.refl(w:World):KI w w:=⟨lrf _,fun _ _ _ _=>rfl⟩
theorem KI.trans{a b c:World}(h:KI a b)(k:KI b c):KI a c :=
 ⟨eW h.size k.size,fun g d f e=>by rw[k.blk g d f (by rw[h.blk g d f e,e]),h.blk g d f e]⟩
theorem LZ{o:Obj}(e:w.heap[g]?=some o):g<w.heap.size:=by
 rcases fL g w.heap.size with h|h
 · exact h
 · rw[gN h]at e;cases e
theorem Ext.ki(h:Ext w w'):KI w w':=⟨h.size,fun _ _ _ e=>h.block (LZ e)⟩
theorem KI.grown(d:w.grownBy w' row)(c:∀ g,row=some g->∀ a b,w.heap[g]?≠some (Obj.cells a 3 b)):KI w w' :=
 ⟨d.size,fun g a b e=>d.block g (LZ e) (fun h=>c g h.symm a b e)⟩
theorem KI.drewN{w a:World}(h:KI w a)(k:Nat):KI w (a.drewN k):=⟨h.size,h.blk⟩
theorem AD.ki(h:AD w base a n c xs)(k:KI w w'):AD w' base a n c xs:=by
 obtain⟨h1,h2⟩:=h;refine⟨h1,?_⟩;rcases h2 with h2|⟨g,b,d,i,f,e,r⟩
 · exact Or.inl h2
 · exact Or.inr ⟨g,b,d,i,f,by rw[k.blk g _ _ e,e],r⟩
theorem AD.nilc(h:AD w base a n c xs)(e:a=none):c=0:=by
 obtain⟨h1,h2⟩:=h;rcases h2 with⟨b,_⟩|⟨g,d,f,b,_⟩
 · simp only[eY]at b;exact b.2.2
 · simp only[eY]at b;rw[e]at b;exact absurd b.1 (by simp)
theorem Ra{k:Nat}(a:j<n)(h:(j:Int)∈pre):((idn n).take (j+1)).flatMap (fun x=>if x∈pre then []else prm n k (pre ++ [x]))=((idn n).take j).flatMap (fun x=>if x∈pre then []else prm n k (pre ++ [x])):=by
 rw[eU (by rw[AC];exact a),List.flatMap_append];have:(idn n)[j]'(by rw[AC];exact a)=(j:Int):=by simp[idn]
 rw[this];simp[h]
theorem Rb{k:Nat}(a:j<n)(h:(j:Int) ∉ pre):((idn n).take (j+1)).flatMap (fun x=>if x∈pre then []else prm n k (pre ++ [x]))=((idn n).take j).flatMap (fun x=>if x∈pre then []else prm n k (pre ++ [x])) ++ prm n k (pre ++ [(j:Int)]):=by
 rw[eU (by rw[AC];exact a),List.flatMap_append];have:(idn n)[j]'(by rw[AC];exact a)=(j:Int):=by simp[idn]
 rw[this];simp[h]
def Vj(a b c d:Nat):Array Value:=#[.pointer (some ⟨a,0,none⟩),.pointer (some ⟨b,0,none⟩),.pointer (some ⟨c,0,none⟩),.pointer (some ⟨d,0,none⟩)]
theorem Fv{kB gB nB:Nat}{Inv:List (List Int)->World->Prop}(hn:n<=6)(P:∀ V w l,Inv V w->Ext w l->Inv V l)
 (t:∀ V w b a c xs,Inv V w->AD w b a n c xs->Ak xs=true->Calls prog 23 #[.slice a n c,.pointer (some ⟨kB,0,none⟩),.pointer (some ⟨fB,0,none⟩),.pointer (some ⟨gB,0,none⟩),.pointer (some ⟨nB,0,none⟩)] w fun e l=>e = .returned (.tuple #[])/\Inv (V ++ [xs]) l/\KI w l) :
 ∀ (k:Nat) (pre:List Int) (V:List (List Int)) (b:Nat) (a:Option Addr) (m c:Nat) (w:World),m+k=n->pre.Nodup->(∀ x∈pre,0<=x/\x<n)->Inv V w->AD w b a m c pre ->
  Calls prog 22 #[.int .i64 n,.slice a m c,.func (.func 23) #[] (Vj kB fB gB nB)] w fun e l=>e = .returned (.tuple #[])/\Inv (V ++ prm n k pre) l/\KI w l:=by
 intro k
 induction k with
 | zero =>
  intro pre V b a m c w J B G S z;have D:=z.sl.len;have F:m=n:=by omega
  subst F;have hp:Ak pre=true:=gl ⟨by omega,fun x Y=>by rw[D];exact G x Y,B⟩;have y:=eP (t V w b a c pre S z hp);clear D G B t P hp J
  go_enter func22,ntmps22
  go_wp2_with fail
  refine y.out.mono ?_;rintro e H ⟨rfl,h1,h2⟩;go_wp2
  (first | go_end0 | (simp only[Exit.inBlock,Exit.then];refine eZ (results_none rfl _ _ _) rfl ?_) | refine eZ (results_none rfl _ _ _) rfl ?_)
  exact⟨rfl,h1,h2⟩
 | succ k ih =>
  intro pre V b a m c w J B G S z;have D:=z.sl.len;have HL:=eP D;have F:m<n:=by omega
  have a1:((m:Int) == (n:Int))=false:=by simp;omega
  have HM:=eP J;have HR:=eP G;have HD:=eP B;have L:=eP P;have a0:=eP t;have IH:=eP ih;clear D J G B P t ih
  go_enter func22,ntmps22
  go_wp2
  go_loopw[15] (fun Z wr=>∃ j:Nat,Z = .int .i64 j/\j<=n/\KI w wr/\Hid (Inv (V ++ ((idn n).take j).flatMap (fun x=>if x∈pre then []else prm n k (pre ++ [x]))) wr)) (fun Z _=>n-(intOf Z).toNat)
  case atStart=>exact⟨0,rfl,f8 _,KI.refl _,eP (by simpa using S)⟩
  case round =>
   obtain⟨j,rfl,hj,I,y⟩:=hrel;have s:=z.ki I;by_cases E:j<n
   · by_cases d:(j:Int)∈pre
     · have K:=eP (Ra (k:=k) E d);have o:=eP (gl d);clear d
       go_wp2_with fail
       refine(CO (x:=(j:Int)) s.sl (by omega)).mono ?_;rintro e H ⟨rfl,f⟩;rw[o.out];go_wp2;go_roundw
       case rel=>exact⟨j+1,by go_num,by omega,I.trans f.ki,eP (by rw[K.out];exact L.out _ _ _ y.out f)⟩
       case measure=>simp[intOf];omega
     · have K:=eP (Rb (k:=k) E d);have o:=eP (fw d);have M:Hid ((pre ++ [(j:Int)]).Nodup):=eP (by rw[io];exact⟨HD.out,by simp,fun u hu v t e=>d (by rw[eV.1 t]at e;rw[<-e];exact hu)⟩)
       have N:Hid (∀ x∈pre ++ [(j:Int)],0<=x/\x<n):=eP fun x Y=>by
        rcases fo.1 Y with h|h
        · exact HR.out x h
        · rw[eV.1 h];omega
       clear d
       go_wp2_with fail
       refine(CO (x:=(j:Int)) s.sl (by omega)).mono ?_;rintro e H ⟨rfl,f⟩;rw[o.out];have q:=s.ext f
       go_wp2_with fail
       refine(DE q.sl (by omega) q.nilc).mono ?_;rintro e w2 ⟨a2,n2,c2,rfl,g,r⟩;have W:n2=m:=by have h1:=r.sl.len;have h2:=HL.out;omega
       subst W;have hL:=(Ag w2 H.heap.size 3 #[.int .i64 (j:Int)] 1 rfl g.size (by omega)).sl;have O:=Own.alloc r (.cells #[.int .i64 (j:Int)] 3);have X:=g.size
       go_wp2_with(refine AU rfl rfl underlying35 Cc rfl rfl O rfl hL (by simp[Value.oneCell']) (by unfold maxLen;omega) (by omega) (by simp;omega) ?_;intro a3 c3 w3 A C T)
       have p:Ext H w3:=(g.alloc _).grown C (fun k hk=>(O.lt hk).1);have i:AD w3 H.heap.size a3 (n2+1) c3 (pre ++ [(j:Int)]):=by
        unfold AD;rw[fM];exact A
       have HC:=eP (IH.out _ _ _ _ _ _ _ (by have:=HM.out;omega) M.out N.out (L.out _ _ _ (L.out _ _ _ y.out f) p) i);have Q:KI wr w3:=f.ki.trans p.ki;clear A i C T O hL r q g p X
       go_wp2_with fail
       refine HC.out.mono ?_;rintro e w4 ⟨rfl,h1,h2⟩;have H1:=eP h1;have R:=(I.trans Q).trans h2;clear h1 HC;go_wp2;go_roundw
       case rel=>exact⟨j+1,by go_num,by omega,R,eP (by rw[K.out,<-fZ];exact H1.out)⟩
       case measure=>simp[intOf];omega
   · have U:j=n:=by omega
     have HF:Hid (V ++ ((idn n).take j).flatMap (fun x=>if x∈pre then []else prm n k (pre ++ [x]))=V ++ prm n (k+1) pre):=eP (by
      rw[eR (by rw[AC];omega)]
      rfl)
     clear U;go_wp2
     (first | go_end0 | (simp only[Exit.inBlock,Exit.then];refine eZ (results_none rfl _ _ _) rfl ?_) | refine eZ (results_none rfl _ _ _) rfl ?_)
     exact⟨rfl,by rw[<-HF.out];exact y.out,I⟩
def Rc(x:Int):Int :=
 bits .xor .u64 (IntKind.u64.wrap (bits .xor .u64 (IntKind.u64.wrap (bits .xor .u64 x (x/1073741824)*13787848793156543929)) (IntKind.u64.wrap (bits .xor .u64 x (x/1073741824)*13787848793156543929)/134217728)*10723151780598845931)) (IntKind.u64.wrap (bits .xor .u64 (IntKind.u64.wrap (bits .xor .u64 x (x/1073741824)*13787848793156543929)) (IntKind.u64.wrap (bits .xor .u64 x (x/1073741824)*13787848793156543929)/134217728)*10723151780598845931)/2147483648)
def G5(x:Int)(b:UInt8):Int:=IntKind.u64.wrap (IntKind.u64.wrap (x*1099511628211)+IntKind.u64.wrap b.toNat)
def B5(l:List UInt8):Int:=Rc (l.foldl G5 l.length)
theorem Ng(s:ByteArray)(k:Nat)(h:k<s.size):(Ad s).take (k+1)=(Ad s).take k ++ [s[k]]:=by
 unfold Ad;rw[eU (by simpa using h)];simp;rfl
theorem PF{k:Nat}(h:k<s.size)(x:Int):((Ad s).take (k+1)).foldl G5 x=G5 (((Ad s).take k).foldl G5 x) s[k]:=by
 rw[Ng s k h,lm];rfl
theorem J7{x:Int}:Calls prog 73 #[.int .u64 x] w fun e a=>e = .returned (.int .u64 (Rc x))/\Ext w a:=by
 go_enter func73,ntmps73
 go_wp2;go_ret;exact⟨rfl,Ext.refl _⟩
theorem Nh(t:s.size<=1000000):Calls prog 71 #[.string s] w fun e o=>e = .returned (.int .u64 (B5 (Ad s)))/\Ext w o:=by
 have a:(Ad s).length=s.size:=Al s;have b:Hid (B5 (Ad s)=Rc ((Ad s).foldl G5 s.size)):=eP (by unfold B5;rw[a]);rw[b.out];have l:=eP a;clear a
 go_enter func71,ntmps71
 go_wp2
 go_loopw[3,10] (fun p g wr=>∃ (k:Nat) (x:Int),k<=s.size/\g = .int .i64 k/\p = .int .u64 x/\Ext w wr/\Hid (x=((Ad s).take k).foldl G5 s.size)) (fun _ g _=>s.size-(intOf g).toNat)
 case atStart=>exact⟨0,_,f8 _,rfl,rfl,Ext.refl _,eP rfl⟩
 case round =>
  obtain⟨k,x,r,rfl,rfl,i,c⟩:=hrel;by_cases f:k<s.size
  · have m:Hid (((Ad s).take (k+1)).foldl G5 s.size=IntKind.u64.wrap (IntKind.u64.wrap (x*1099511628211)+IntKind.u64.wrap s[k].toNat)):=eP (by rw[PF f,c.out];rfl);generalize n:s[k].toNat=q at *
    clear c;go_wp2;go_roundw
    case rel=>exact⟨k+1,_,by omega,by go_num,rfl,i,eP m.out.symm⟩
    case measure=>simp[intOf];omega
  · have j:Hid (x=(Ad s).foldl G5 s.size):=eP (by rw[c.out,eR (by rw[l.out];omega)])
    go_wp2_with fail
    refine J7.mono ?_;rintro e v ⟨rfl,d⟩;go_wp2;go_ret;exact⟨by rw[<-j.out];rfl,i.trans d⟩
def BL:Nat->List (Int×Value)->List MapEntry
 | _,[]=>[]
 | i,(k,v) :: r=>{ key:=(.int .u64 k),val:=v,born:=i } :: BL (i+1) r
structure AM(w:World)(r:Nat)(m:List (Int×Value)):Prop where
 obj:w.heap[r]?=some (.map (BL 0 m).toArray m.length)
 nodup:(m.map (·.1)).Nodup
def Bi(k:Int):Nat->List (Int×Value)->Option (Nat×Value)
 | _,[]=>none
 | i,(k',v) :: r=>if k=k' then some (i,v)else Bi k (i+1) r
theorem CH{k:Int}:∀ {i:Nat} {m:List (Int×Value)},Bi k i m=none<->k ∉ m.map (·.1)
 | _,[]=>by simp[Bi]
 | i,(k',v) :: r=>by
  unfold Bi;by_cases h:k=k'
  · simp[h]
  · simp[h,CH (i:=i+1) (m:=r)]
theorem DF:∀ (i:Nat) (m:List (Int×Value)),(BL i m).length=m.length
 | _,[]=>rfl
 | i,(_,_) :: r=>by simp[BL,DF (i+1) r]
theorem FY:∀ (i:Nat) (m:List (Int×Value)) (k:Int) (v:Value),BL i (m ++ [(k,v)])=BL i m ++ [{ key:=(.int .u64 k),val:=v,born:=i+m.length }]
 | _,[],_,_=>rfl
 | i,(_,_) :: r,k,v=>by
  simp only[iT,BL,FY (i+1) r k v,fW];rw[i7,ie 1]
section
variable {P:Program} {kt:TypeId} (w:World)
theorem G6(k:Int):∀ (m:List (Int×Value)) (b i:Nat),Instr.findNow (.int .u64) (.int .u64 k) (BL b m) i=some (Bi k i m)
 | [],_,_=>rfl
 | (k',v) :: r,b,i=>by
  unfold BL Bi Instr.findNow;by_cases h:k=k'
  · simp[Instr.sameNow,h]
  · have hb:(k == k')=false:=by simpa using h
    simp[Instr.sameNow,h,hb,G6 k r (b+1) (i+1)]
theorem FZ(a:P.underlying kt=some (.int .u64))(m:List (Int×Value)):(Instr.findKey kt (.int .u64 k) (BL 0 m)).run P w = .ok (Bi k 0 m) w:=by
 simp only[Instr.findKey,fq,fQ a,eX,G6];rfl
end
theorem K4(k:Int):Instr.sameBits 10000 (.int .u64 k) (.int .u64 k)=true:=by
 show Instr.sameBits (9999+1) _ _=true;simp[Instr.sameBits]
theorem AM.lt{m:List (Int×Value)}(h:AM w r m):r<w.heap.size:=by
 rcases fL r w.heap.size with b|a
 · exact b
 · have:=h.obj;rw[gN a]at this;cases this
theorem AM.of_block{m:List (Int×Value)}(h:AM w r m)(e:w'.heap[r]?=w.heap[r]?):AM w' r m:=⟨e.trans h.obj,h.nodup⟩
theorem AM.ext{m:List (Int×Value)}(h:AM w r m)(e:Ext w w'):AM w' r m:=h.of_block (e.block h.lt)
theorem AM.kept{m:List (Int×Value)}(h:AM w r m)(b:w.grownBy w' row)(a:some r≠row):AM w' r m:=h.of_block (b.block r h.lt a)
def Fw(z:Value)(m:List (Int×Value))(k:Int):Value:=((Bi k 0 m).map (·.2)).getD z
def TH(m:List (Int×Value))(k:Int):Bool:=(Bi k 0 m).isSome
def Db(m:List (Int×Value))(k:Int)(v:Value):List (Int×Value) :=
 match Bi k 0 m with
 | some (i,_)=>m.set i (k,v)
 | none=>m ++ [(k,v)]
theorem B6{k:Int}:∀ {j:Nat} {m:List (Int×Value)} {i:Nat} {v:Value},Bi k j m=some (i,v)->j<=i/\m[i-j]?=some (k,v)
 | _,[],_,_,h=>by simp[Bi]at h
 | j,(k',v') :: r,i,v,h=>by
  unfold Bi at h;by_cases hk:k=k'
  · rw[fE hk]at h;simp only[fc,j7]at h;obtain⟨rfl,rfl⟩:=h;subst hk;simp
  · rw[fl hk]at h;obtain⟨h1,h2⟩:=B6 h;refine⟨by omega,?_⟩;rw[show i-j=(i-(j+1))+1 by omega];simpa using h2
theorem ET:∀ (j:Nat) (m:List (Int×Value)) (i:Nat),(BL j m)[i]?=(m[i]?).map (fun p=>{ key:=(.int .u64 p.1),val:=p.2,born:=j+i })
 | _,[],_=>by simp[BL]
 | j,(k,v) :: r,0=>by simp[BL]
 | j,(k,v) :: r,i+1=>by
  simp only[BL,kO,ET (j+1) r i];rw[i7,ie 1 i]
theorem PG:∀ (j:Nat) (m:List (Int×Value)) (i:Nat) (k:Int) (v:Value),i<m.length->BL j (m.set i (k,v))=(BL j m).set i { key:=(.int .u64 k),val:=v,born:=j+i }:=by
 intro j m i k v b;apply iO;intro t;rw[ET,ip,ip,DF];by_cases a:i=t
 · subst a;simp[b]
 · simp[a,ET]
section
variable {P:Program} {kt mt vt:TypeId} {w:World}
theorem G7(g:P.underlying mt=some (.map kt vt))(f:P.underlying kt=some (.int .u64)){z:Value}(j:(zeroValue vt).run P w = .ok z w){r:Nat}{m:List (Int×Value)}(h:AM w r m){k:Int}(b:Bool) :
 (Instr.lookup mt (.map (some r)) (.int .u64 k) b).run P w = .ok (if b then .tuple #[Fw z m k,.bool (TH m k)]else Fw z m k) w:=by
 have d:∀ c,(Instr.checkKey c 10000 kt (.int .u64 k)).run P w = .ok () w:=fun c=>by rw[Instr.checkKey];simp[fQ f]
 have e:=FZ (k:=k) w f m;have i:=h.obj;unfold Fw TH;simp only[Instr.lookup,fq,fQ g,eX,getObj,Sem.run,i];cases a:Bi k 0 m with
 | none=>cases b <;> simp[j,d,e,a]
 | some p=>cases b <;> simp[d,e,a]
theorem Rd(I:P.underlying mt=some (.map kt vt))(H:P.underlying kt=some (.int .u64)){r:Nat}{m:List (Int×Value)}(h:AM w r m){k:Int}(v:Value) :
 ∃ C,(Instr.mapUpdate mt (.map (some r)) (.int .u64 k) v).run P w = .ok () C/\AM C r (Db m k v)/\w.grownBy C (some r):=by
 have F:∀ D,(Instr.checkKey D 10000 kt (.int .u64 k)).run P w = .ok () w:=fun D=>by rw[Instr.checkKey];simp[fQ H]
 have G:=FZ (k:=k) w H m;have y:=h.obj;have z:=h.lt;have l:∀ o:Obj,w.grownBy { w with heap:=w.heap.setIfInBounds r o } (some r):=by
  intro o;refine⟨rfl,rfl,rfl,by simp,fun j _ B => ?_⟩;have:r≠j:=by rintro rfl;exact B rfl
  simp only;rw[je this]
 have s:∀ o:Obj,({ w with heap:=w.heap.setIfInBounds r o }:World).heap[r]?=some o:=by
  intro o;simp only;rw[jx z]
 unfold Db;cases c:Bi k 0 m with
 | none =>
  refine⟨_,?_,⟨s (.map (BL 0 (m ++ [(k,v)])).toArray (m.length+1)) |>.trans (by simp),?_⟩,l _⟩
  · simp only[Instr.mapUpdate,fq,fQ I,eX,getObj,setObj,Sem.run,y,F];rw[G];simp[c,Sem.run,y,FY]
  · rw[fM,io];refine⟨h.nodup,by simp,?_⟩;intro a K b E;simp only[gM,ix,eV]at E;subst E;rintro rfl;exact CH.1 c K
 | some p =>
  obtain⟨i,J⟩:=p;obtain⟨_,n⟩:=B6 c;rw[j8]at n;have d:i<m.length:=by
   rcases fL i m.length with h|h
   · exact h
   · simp[fi h]at n
  have g:(m.set i (k,v)).map (·.1)=m.map (·.1):=by
   rw[ju];apply iO;intro t;rw[ip];by_cases x:i=t
   · subst x;have A:m[i]=(k,J):=by rw[eQ d]at n;simpa using n
     simp[d,A]
   · simp[x]
  refine⟨_,?_,⟨s (.map (BL 0 (m.set i (k,v))).toArray m.length) |>.trans (by simp),?_⟩,l _⟩
  · simp only[Instr.mapUpdate,fq,fQ I,eX,getObj,Sem.run,y,F];rw[G];have f:(BL 0 m)[i]?=some { key:=(.int .u64 k),val:=J,born:=0+i }:=by
     rw[ET,n];rfl
    have q:((BL 0 m).modify i fun e=>{ key:=(.int .u64 k),val:=v,born:=e.born })=BL 0 (m.set i (k,v)):=by
     rw[PG _ _ _ _ _ d];apply iO;intro t;rw[List.getElem?_modify,ip,DF];by_cases x:i=t
     · subst x;simp[f,d]
     · simp[x]
    simp[c,f,Instr.keyThatStays,K4,setObj,Sem.run,y,q]
  · rw[g];exact h.nodup
end
section
variable {P:Program} {kt mt vt:TypeId} {w:World}
theorem PH(c:o.guard=none)(e:o.op = .makeMap mt none)
 (d:∀ a,AM a w.heap.size []->Ext w a->w.heap.size<a.heap.size->wpList P ops Q rest (f.put o.dst (.map (some w.heap.size))) a):wpList P ops Q (o :: rest) f w:=by
 refine gu c fun K b => ?_;unfold Oper.wp execOp;have g:(Instr.makeMap mt none).run P w = .ok (.map (some w.heap.size)) (w.alloc (.map #[] 0)):=by
  simp[Instr.makeMap,newObj,Sem.run]
 simp only[e,km,fq,g,eX,fO,Oper.upon];exact b _ _ (d _ ⟨ji w _,by simp⟩ ((Ext.refl w).alloc _) (by simp))
theorem SR{x:Operand}(e:o.guard=none)(c:o.op = .mapUpdate mt x y u\/o.op = .insert mt x y u)
 (j:P.underlying mt=some (.map kt vt)) (i:P.underlying kt=some (.int .u64)) {r:Nat} {m:List (Int×Value)} {k:Int} {v:Value}
 (l:f.eval x = .map (some r)) (n:f.eval y=(.int .u64 k)) (hu:f.eval u=v) (h:AM w r m)
 (g:∀ b,AM b r (Db m k v)->w.grownBy b (some r)->wpList P ops Q rest (f.put o.dst undef) b):wpList P ops Q (o :: rest) f w:=by
 refine gu e fun K d => ?_;obtain⟨b,a,h2,h3⟩:=Rd (k:=k) j i h v;unfold Oper.wp execOp;rcases c with c|c
 all_goals
  simp only[c,l,n,hu,fq,a,eX,fO,Oper.upon];exact d _ _ (g b h2 h3)
end
section
variable {P:Program} {ops:Array Oper} {hs:List Hd} {a0:Act} {W:World} {i:Nat} {o:Oper}
theorem olA{t:Tmp}(j:Bg hs o=some true)(b:o.op = .load T (.tmp t))(k:∀ a w,Ey ops hs a0 o a w (.tmp t)->a (.tmp t) = .pointer (some ⟨g,0,none⟩))(e:Agg P T cs.length)(c:Arr W g ty cs)(f:v = .agg cs.toArray):obl P (fun l=>Ext W l) ops hs a0 i o (he v) :=
 A8 j fun a w hp d h=>by
  rw[b]at h;simp only[execOp,b,k a w h.1,fq,Ha e (c.ext d),eX,fO,f]
theorem olC{C:World->Prop}{t:Tmp}(f:Bg hs o=some true)(b:o.op = .load T (.tmp t))(g:∀ a w,Ey ops hs a0 o a w (.tmp t)->a (.tmp t) = .pointer (some p))(d:OL P T=true)(e:∀ w,C w->w.cell? p=some v):obl P C ops hs a0 i o (he v) :=
 A8 f fun a w hp c h=>by
  rw[b]at h;simp only[execOp,b,g a w h.1,fq,OM d (e w c),eX,fO]
theorem Vk{C:World->Prop}{t u:Tmp}{m:List (Int×Value)}(j:Bg hs o=some true)(b:o.op = .lookup mt (.tmp t) (.tmp u) false)(l:∀ a w,Ey ops hs a0 o a w (.tmp t)->a (.tmp t) = .map (some r))(n:∀ a w,Ey ops hs a0 o a w (.tmp u)->a (.tmp u) = .int .u64 k)
 (f:P.underlying mt=some (.map kt vt)) (e:P.underlying kt=some (.int .u64)) (p:∀ w,(zeroValue vt).run P w = .ok z w) (d:∀ w,C w->AM w r m) (g:Fw z m k=v):obl P C ops hs a0 i o (he v) :=
 A8 j fun a w hp c h=>by
  rw[b]at h;simp only[execOp,b,l a w h.1,n a w h.2.1,fq,G7 f e (p w) (d w c) false,eX,fO,g,iz,ja]
theorem olk{t u:Tmp}{k:List Int}(j:Bg hs o=some true)(b:o.op = .lookup mt (.tmp t) (.tmp u) false)(l:∀ a w,Ey ops hs a0 o a w (.tmp t)->a (.tmp t) = .map (some r))(n:∀ a w,Ey ops hs a0 o a w (.tmp u)->a (.tmp u)=AY k)
 (f:P.underlying mt=some (.map kt vt)) (e:FM P kt et) (p:∀ w,(zeroValue vt).run P w = .ok z w) (d:AB W r m) (h6:k.length=6) (g:Fg z m k=v):obl P (fun q=>Ext W q) ops hs a0 i o (he v) :=
 A8 j fun a w hp c h=>by
  rw[b]at h;simp only[execOp,b,l a w h.1,n a w h.2.1,fq,Ip f e (p w) (d.ext c) h6 false,eX,fO,g,iz,ja]
theorem olu{t u:Tmp}{m:List (Int×Value)}(j:Bg hs o=some true)(b:o.op = .lookup mt (.tmp t) (.tmp u) false)(l:∀ a w,Ey ops hs a0 o a w (.tmp t)->a (.tmp t) = .map (some r))(n:∀ a w,Ey ops hs a0 o a w (.tmp u)->a (.tmp u) = .int .u64 k)
 (f:P.underlying mt=some (.map kt vt)) (e:P.underlying kt=some (.int .u64)) (p:∀ w,(zeroValue vt).run P w = .ok z w) (d:AM W r m) (g:Fw z m k=v):obl P (fun q=>Ext W q) ops hs a0 i o (he v) :=
 A8 j fun a w hp c h=>by
  rw[b]at h;simp only[execOp,b,l a w h.1,n a w h.2.1,fq,G7 f e (p w) (d.ext c) false,eX,fO,g,iz,ja]
end
def ofL(l:List UInt8):ByteArray:=⟨l.toArray⟩
theorem Re(s:ByteArray):ofL (Ad s)=s:=De (BS _)
theorem IF:prog.underlying 77=some (.map 57 9):=by kernel_rfl
theorem J8(w:World):(zeroValue 9).run prog w = .ok (.string ⟨#[]⟩) w:=by kernel_rfl
def kvT(t:Pl.Tm):List Int×Value:=(An t.1,.string (ofL (txt t.2)))
def E8(t:Pl.Tm):List Value:=(An t.1).map (.int .i64)
def J9(t:Pl.Tm):Value := .int .u64 (B5 (txt t.2))
structure MbP(w:World)(base r:Nat)(ae:Option Addr)(ce:Nat)(am:Option Addr)(cm:Nat)(l:PLs):Prop where
 mpm:AB w r (l.map kvT)
 mpk:AE w base 57 6 ae l.length ce (l.map E8)
 mpn:Own w base 101 am l.length cm (l.map J9)
 mpr:base<=r
def mbL(r:Nat)(ae:Option Addr)(ne ce:Nat)(am:Option Addr)(nm cm:Nat)(c:Nat):List Value:=[.map (some r),.slice ae ne ce,.slice am nm cm,.int .i64 c]
def MbA(w:World)(base B:Nat)(l:PLs)(c:Nat):Prop:=∃ r ae ce am cm,Arr w B 100 (mbL r ae l.length ce am l.length cm c)/\MbP w base r ae ce am cm l
theorem MbP.ext{w f:World}{base r:Nat}{a:Option Addr}{c:Nat}{b:Option Addr}{d:Nat}{l:PLs}(h:MbP w base r a c b d l)(e:Ext w f):MbP f base r a c b d l:=⟨h.mpm.ext e,h.mpk.ext e,h.mpn.ext e,h.mpr⟩
theorem MbA.ext{w a:World}{base B:Nat}{l:PLs}{c:Nat}(h:MbA w base B l c)(e:Ext w a):MbA a base B l c:=by
 obtain⟨r,b,f,d,g,h1,h2⟩:=h;exact⟨r,b,f,d,g,h1.ext e,h2.ext e⟩
theorem MbA.lt{w:World}{base B:Nat}{l:PLs}{c:Nat}(h:MbA w base B l c):B<w.heap.size:=by
 obtain⟨r,a,d,b,e,h1,h2⟩:=h;exact h1.lt
theorem MbA.mono{w:World}{base a B:Nat}{l:PLs}{c:Nat}(h:MbA w base B l c)(b:a<=base):MbA w a B l c:=by
 obtain⟨r,d,f,e,g,h1,h2⟩:=h;exact⟨r,d,f,e,g,h1,h2.mpm,h2.mpk.mono b,h2.mpn.mono b,eW b h2.mpr⟩
theorem Au{j:Nat×Nat}(h:Own w base e a n c cs)(f:w.heap[g]?=some (.cells cur t j))(o:e≠t):blk a=none\/blk a≠some g:=by
 rcases h.2 with⟨b,_⟩|⟨k,i,d,b,_,m,_⟩
 · simp only[eY]at b;left;rw[b.1];rfl
 · simp only[eY]at b;right;rw[b.1];intro l;have:k=g:=by simpa[blk]using l
   subst this;rw[m]at f;injection f with h2;injection h2 with _ h3;exact o h3
theorem BM{k:Nat}{j:Nat×Nat}(h:AE w base e k a n c rows)(f:w.heap[g]?=some (.cells cur t j))(p:e≠t):blk a=none\/blk a≠some g:=by
 rcases h.2.2 with⟨b,_⟩|⟨l,i,d,b,_,o,_⟩
 · simp only[eY]at b;left;rw[b.1];rfl
 · simp only[eY]at b;right;rw[b.1];intro m;have:l=g:=by simpa[blk]using m
   subst this;rw[o]at f;injection f with h2;injection h2 with _ h3;exact p h3
theorem MbA.kept{w i:World}{base B g:Nat}{l:PLs}{c:Nat}{t:TypeId}{f:Array Value}{o:Nat×Nat}(h:MbA w base B l c)(b:w.heap[g]?=some (.cells f t o))(h1:57≠t)(h2:101≠t)(p:B≠g)(d:w.grownBy i (some g)):MbA i base B l c:=by
 obtain⟨r,j,m,k,n,q,a⟩:=h;refine⟨r,j,m,k,n,q.kept d (fun e=>p (fe e)),a.mpm.kept d (fun e => ?_),a.mpk.kept d (BM a.mpk b h1),a.mpn.kept d (Au a.mpn b h2),a.mpr⟩;have:r=g:=fe e;subst this;rw[a.mpm.obj]at b;cases b
theorem MbA.keptMap{l:PLs}{x:Array MapEntry}{k:Nat}(h:MbA w base B l c)(o:w.heap[g]?=some (.map x k))(z:g<base)(f:w.grownBy w' (some g)):MbA w' base B l c:=by
 obtain⟨r,j,s,q,v,p,d⟩:=h
 have i:∀ {t:TypeId} {m:List Value} {n c:Nat} {a:Option Addr},Own w base t a n c m->blk a=none\/blk a≠some g:=fun {t m n c a} y=>by
  cases b:blk a with
  | none=>exact .inl rfl
  | some g'=>exact .inr (fun e=>by have h3:=(y.lt b).1;have h4:=fe e;omega)
 refine⟨r,j,s,q,v,p.kept f (fun e => ?_),d.mpm.kept f (fun e => ?_),d.mpk.kept f ?_,d.mpn.kept f (i d.mpn),d.mpr⟩
 · have:B=g:=fe e;subst this;have h3:w.heap[B]?=_:=p;rw[h3]at o;cases o
 · have h3:r=g:=fe e;have:=d.mpr;omega
 · cases b:blk j with
   | none=>exact .inl rfl
   | some g'=>exact .inr (fun e=>by have h3:=(d.mpk.lt b).1;have h4:=fe e;omega)
noncomputable def lkS (l:PLs) (e:List Int):List UInt8:=if Pl.coef l e=0 then []else txt (Pl.coef l e)
theorem Om{l:PLs}(a:Pl.Canon n l){e:List Int}(he:e.length=n):Fg (.string ⟨#[]⟩) (l.map kvT) (An e) = .string (ofL (lkS l e)):=by
 unfold Fg;cases d:BF (An e) 0 (l.map kvT)with
 | none =>
  have h1:=BU.1 d
  have h2:Pl.coef l e=0:=Pl.coef_absent fun t c h=>h1 (by
   rw[jY]
   exact fh.2 ⟨t,c,by show An t.1=An e;rw[h]⟩)
  unfold lkS;rw[fE h2];rfl
 | some q =>
  obtain⟨i,v⟩:=q;obtain⟨_,f⟩:=DC d;rw[j8,jV,Option.map_eq_some_iff]at f;obtain⟨t,c,h1⟩:=f;have b:=gT c;have h2:An t.1=An e:=fV Prod.fst h1;have h3:Value.string (ofL (txt t.2))=v:=fV Prod.snd h1;have h4:t.1=e:=Jq (by rw[a.len t b,he]) h2;have h5:Pl.coef l e=t.2:=by rw[<-h4];exact BJ a b
  unfold lkS;rw[fl (by rw[h5];exact a.nz t b),h5];exact h3.symm
theorem T8(q:Rat):txt q≠[]:=fun h=>by
 have h1:=E0 q;rw[h]at h1;have h2:AZ []=none:=by rfl
 rw[h2]at h1;cases h1
theorem ST{p:Rat}(h:txt p=txt q):p=q:=by
 have h1:=E0 p;rw[h,E0]at h1;exact(fe h1).symm
theorem Ni{l:PLs}{e:List Int}(b:q≠0):lkS l e=txt q<->Pl.coef l e=q:=by
 unfold lkS;by_cases h:Pl.coef l e=0
 · rw[fE h,h];exact⟨fun a=>absurd a.symm (T8 q),fun a=>absurd a.symm b⟩
 · rw[fl h];exact⟨ST,fun a=>by rw[a]⟩
theorem IG(l:List UInt8):(ofL l).toList=l:=by rw[jI];rfl
theorem T9(a b:List UInt8):((ofL a).toList == (ofL b).toList)=decide (a=b):=by
 rw[IG,IG];by_cases h:a=b
 · subst h;simp
 · simp[h]
def fpT(m:Int)(es:List Int):Int:=Rc (es.foldl (fun x v=>IntKind.u64.wrap (IntKind.u64.wrap (x*31)+IntKind.u64.wrap v)) m)
noncomputable def fpI (a:List Int) (l:PLs):Int:=l.foldl (fun s t=>IntKind.u64.wrap (s+fpT (B5 (txt t.2)) (An (mvd a t.1)))) 0
theorem Rf{a:List Int}{l:PLs}{k:Nat}(h:k<l.length):fpI a (l.take (k+1))=IntKind.u64.wrap (fpI a (l.take k)+fpT (B5 (txt (l.getD k ([],0)).2)) (An (mvd a (l.getD k ([],0)).1))):=by
 unfold fpI;rw[eU h,lm,gqq,eQ h];rfl
theorem Ka(g:Pl.Tm->Int):∀ (l:PLs) (s:Int),l.foldl (fun s t=>IntKind.u64.wrap (s+g t)) (IntKind.u64.wrap s)=IntKind.u64.wrap (s+(l.map g).sum)
 | [],s=>by simp
 | t :: r,s=>by
  rw[lL];have h1:IntKind.u64.wrap (IntKind.u64.wrap s+g t)=IntKind.u64.wrap (s+g t):=by
   rw[gY,gY,gY,Int.emod_add_emod]
  rw[h1,Ka g r (s+g t),gM,kj,Int.add_assoc]
theorem PI{a:List Int}(h:a.Perm b):a.sum=b.sum:=by
 induction h with
 | nil=>rfl
 | cons x _ ih=>rw[kj,kj,ih]
 | swap x y l=>simp only[kj];omega
 | trans _ _ i1 i2=>rw[i1,i2]
theorem On(a:List Int)(l:PLs):fpI a l=IntKind.u64.wrap ((l.map fun t=>fpT (B5 (txt t.2)) (An (mvd a t.1))).sum):=by
 have h:=Ka (fun t=>fpT (B5 (txt t.2)) (An (mvd a t.1))) l 0;have h0:IntKind.u64.wrap 0=0:=by rw[gY];rfl
 rw[h0,Int.zero_add]at h;exact h
theorem Ua{a:List Int}{x y:PLs}(d:n<=6)(h:Rl a x y)(hp:Ak a=true)(c:a.length=n)(f:Pl.Canon n x)(b:Pl.Canon n y):fpI a x=fpI (idn n) y:=by
 have h1:=h.perm hp c f b;rw[On,On];have h2:(x.map fun t=>fpT (B5 (txt t.2)) (An (mvd a t.1)))=(mvL a x).map fun t=>fpT (B5 (txt t.2)) (An t.1):=by
  unfold mvL;rw[jY];rfl
 have h3:(y.map fun t=>fpT (B5 (txt t.2)) (An (mvd (idn n) t.1)))=y.map fun t=>fpT (B5 (txt t.2)) (An t.1) :=
  kz fun t e=>by rw[Ol d (b.len t e)]
 rw[h2,h3,PI (h1.map _)]
theorem PJ{k:Nat}(h:k<l.length)(g:Int->Int->Int)(s:Int):(l.take (k+1)).foldl g s=g ((l.take k).foldl g s) (l.getD k 0):=by
 rw[eU h,lm,gqq,eQ h];rfl
theorem Dc{l:PLs}(hM:MbA w base B l c)(hx:SlI w x nx cx xs)(hp:Ak xs=true)(hl:xs.length=N)(hc:Pl.Canon N l)(hb:l.length<=4096) :
 Calls prog 47 #[.pointer (some ⟨B,0,none⟩),.slice x nx cx] w fun e w'=>e = .returned (.int .u64 (fpI xs l))/\Ext w w':=by
 obtain⟨r,ae,ce,am,cm,hA,E⟩:=hM;obtain⟨nl,I⟩:∃ k,l.length=k:=⟨_,rfl⟩;have hK:=E.mpk.slk (by omega);have hN:=E.mpn.sl;rw[I]at hA hK hN hb;have b1:=hA.c 1 rfl;have b2:=hA.c 2 rfl;have J:=qh I;have HC:=qh hc;have HP:=qh hp;have HL:=qh hl;have W:=hx.len;have a2:=qh W;obtain⟨a8,g⟩:∃ s,fpI xs l=s:=⟨_,rfl⟩;have K:=qh g;rw[g];clear E I hc hp hl W g hA
 go_enter func47,ntmps47
 go_wp2
 go_loopw[5,16] (fun sv iv wr=>∃ (k:Nat) (s:Int),iv = .int .i64 k/\k<=nl/\Ext w wr/\sv = .int .u64 s/\Hid (s=fpI xs (l.take k))) (fun _ iv _=>nl-(intOf iv).toNat)
 case atStart=>exact⟨0,0,rfl,f8 _,Ext.refl _,rfl,qh rfl⟩
 case round =>
  obtain⟨k,s,rfl,hk,hE,rfl,HS⟩:=hrel;by_cases H:k<nl
  case neg =>
   have HF:Hid (s=a8):=qh (by rw[HS.out,eR (by rw[J.out];omega)];exact K.out);clear HS;go_wp2;go_ret;exact⟨by rw[<-HF.out];rfl,hE⟩
  have d:k<l.length:=by rw[J.out];exact H
  have Z:l.getD k ([],0)∈l:=by
   rw[gqq,eQ d];exact fu _
  have n:Hid (fpI xs (l.take (k+1))=IntKind.u64.wrap (s+fpT (B5 (txt (l.getD k ([],0)).2)) (An (mvd xs (l.getD k ([],0)).1)))):=qh (by rw[HS.out];exact Rf d);have Y:=HC.out.len _ Z;have D:=hK.ext hE;have Q:=hN.ext hE;obtain⟨be,oe,rfl,a6⟩:=D.rd (by omega);obtain⟨bm,om,rfl,R⟩:=Q.rd (by omega);have i:(l.map E8).getD k []=E8 (l.getD k ([],0)):=by simp[d]
  have L:=R k H;have U:(l.map J9).getD k undef = .int .u64 (B5 (txt (l.getD k ([],0)).2)):=by simp[d,J9]
  rw[U]at L;obtain⟨t,ht⟩:∃ t,l.getD k ([],0)=t:=⟨_,rfl⟩;rw[ht]at i L n Y;obtain⟨mk,o⟩:∃ m,B5 (txt t.2)=m:=⟨_,rfl⟩;rw[o]at L n;have hY:=Arr.new wr 57 As;have f:(E8 t).length=6:=by
   unfold E8;rw[ft];have:=HL.out;have h6:=(At HP.out).1;exact AV (by omega)
  have z:Agg prog 57 (E8 t).length:=by rw[f];exact C8
  have a1:As.length=(E8 t).length:=by rw[f];rfl
  have a3:=qh a1;have p:∀ v∈E8 t,v.oneCell'=true:=BN _;clear a6 R ht Z U o d f a1
  go_upto_region 5 with(first
   | (refine Cq rfl rfl C8 rfl D H ?_;rw[i])
   | (refine Aa (vs:=E8 t) rfl rfl rfl rfl rfl z hY a3.out p ?_;intro w5 A S))
  have C:Ext wr w5:=((Ext.refl wr).alloc _).grownR S (lrf _);obtain⟨X,hX⟩:∃ x,wr.heap.size=x:=⟨_,rfl⟩;rw[hX]at A |-;have a:=hE.trans C;have g2:=C.cell L;have c2:=a.cell b2;have T:Value.agg (E8 t).toArray=AY (An t.1):=rfl;have a0:=hx.ext a;have V:=qh (fun(wy:World) (hy:Ext w5 wy)=>Iq (m:=t.1) (a0.ext hy) HP.out (by have h1:=a2.out;have h2:=HL.out;omega));clear hY S i D Q L hX a0
  go_wp2_with(first
   | (refine CK rfl rfl z rfl A ?_;rw[T])
   | fail)
  refine(V.out w5 (Ext.refl _)).mono ?_;rintro e w6 ⟨rfl,M⟩;obtain⟨b,F⟩:∃ b,An (mvd xs t.1)=b:=⟨_,rfl⟩;have a7:b.length=6:=by
   rw[<-F];have h6:=(At HP.out).1;have:=HL.out;exact AV (by rw[Bh];omega)
  rw[F]at n |-;have q:=qh a7;unfold AY;have P:=a.trans M;clear V F Y p z A T g2 c2 C M a;go_wp2;obtain⟨wo,rfl⟩:∃ wo:World,wo=w6:=⟨_,rfl⟩
  go_loopw[8,31] (fun xv jv wi=>∃ (j:Nat) (x:Int),jv = .int .i64 j/\j<=6/\Ext wo wi/\xv = .int .u64 x/\Hid (x=(b.take j).foldl (fun x v=>IntKind.u64.wrap (IntKind.u64.wrap (x*31)+IntKind.u64.wrap v)) mk)) (fun _ jv _=>6-(intOf jv).toNat)
  case atStart=>exact⟨0,mk,rfl,by omega,Ext.refl _,rfl,qh rfl⟩
  case round =>
   obtain⟨j,xv,rfl,hj,O,rfl,HX⟩:=hrel;by_cases G:j<6
   · have HN:Hid ((b.take (j+1)).foldl (fun x v=>IntKind.u64.wrap (IntKind.u64.wrap (x*31)+IntKind.u64.wrap v)) mk=IntKind.u64.wrap (IntKind.u64.wrap (xv*31)+IntKind.u64.wrap (b.getD j 0))):=qh (by rw[PJ (by rw[q.out];exact G),<-HX.out]);have a5:(b.map (Value.int .i64)).toArray[j]?=some (.int .i64 (b.getD j 0)):=by
      have h1:j<b.length:=by rw[q.out];exact G
      simp[h1]
     clear HX;generalize b.getD j 0=y at *
     go_wp2_with(refine TW rfl rfl BH (k:=j) rfl rfl G a5 ?_)
     go_roundw
     case rel=>exact⟨j+1,_,by go_num,by omega,O,rfl,qh HN.out.symm⟩
     case measure=>simp[intOf];omega
   · have HF:Hid (Rc xv=fpT mk b):=qh (by
      rw[HX.out,eR (by rw[q.out];omega)]
      rfl)
     clear HX
     go_wp2_with fail
     refine J7.mono ?_;rintro e w7 ⟨rfl,a4⟩;go_wp2;go_roundw
     case rel=>exact⟨k+1,_,by go_num,by omega,(P.trans O).trans a4,rfl,qh (by rw[n.out,HF.out])⟩
     case measure=>simp[intOf];omega
open Classical in
noncomputable def rlB (a:List Int) (x y:PLs):Bool:=decide (Rl a x y)
theorem L3{R C cC:Nat}{l o:PLs}(hM:MbA w base B l cB)(ar:MbA w R C o cC)(hx:SlI w x nx cx xs)(hp:Ak xs=true)(hl:xs.length=N)(hc:Pl.Canon N l)(ab:Pl.Canon N o)(hb:l.length<=4096)(aw:o.length<=4096) :
 Calls prog 72 #[.pointer (some ⟨B,0,none⟩),.slice x nx cx,.pointer (some ⟨C,0,none⟩)] w fun e w'=>e = .returned (.bool (rlB xs l o))/\Ext w w':=by
 classical
 obtain⟨r,ae,ce,am,cm,hA,V⟩:=hM;obtain⟨q,be,de,bm,dm,I,M⟩:=ar;have aa:N<=6:=by rw[<-hl];exact(At hp).1
 obtain⟨P,a3⟩:∃ k,l.length=k:=⟨_,rfl⟩;obtain⟨ml,a2⟩:∃ k,o.length=k:=⟨_,rfl⟩;have hK:=V.mpk.slk (by omega);have ak:=V.mpm;have aj:=M.mpm;rw[a3]at hA hK hb;rw[a2]at I aw;have b0:=hA.c 0 rfl;have b1:=hA.c 1 rfl;have c0:w.cell? ⟨C,0,none⟩=some (.map (some q)):=I.cell (i:=0) (by simp[mbL]);have c1:w.cell? ⟨C,1,none⟩=some (.slice be ml de):=I.cell (i:=1) (by simp[mbL]);have ai:=hx.len;obtain⟨L,p⟩:∃ s,rlB xs l o=s:=⟨_,rfl⟩;have g:Hid (decide (Rl xs l o)=L):=qh p;rw[p];have G:=qh a3;have a6:=qh a2;have Q:=qh hc;have E:=qh ab;have HP:=qh hp
 have F:=qh hl;have ao:=qh ai;have a7:=qh aa;clear V M a3 a2 hc ab hp hl ai p hA I aa
 go_enter func72,ntmps72
 by_cases j:P=ml
 case neg =>
  have HF:Hid (L=false):=qh (by
   rw[<-g.out]
   exact fw fun h=>j (by rw[<-G.out,<-a6.out];exact((K2 HP.out F.out Q.out E.out).2 h).1))
  have ay:((P:Int) != (ml:Int))=true:=by simp;omega
  have aC:decide ((P:Int)=(ml:Int))=false:=fw (by omega);clear j
  go_upto_region 1 with(fail)
  go_quiet (fail)
  go_wp2;go_ret;exact⟨by rw[HF.out];rfl,(Ext.refl w).drewN _⟩
 have az:=qh j;subst j;have ay:((P:Int) != (P:Int))=false:=by simp
 go_upto_region 1 with(fail)
 go_quiet (fail)
 go_wp2
 go_loopw[25] (fun iv wr=>∃ k:Nat,iv = .int .i64 k/\k<=P/\Ext w wr/\Hid (∀ i,i<k->Pl.coef o (mvd xs (l.getD i ([],0)).1)=(l.getD i ([],0)).2)) (fun iv _=>P-(intOf iv).toNat)
 case atStart=>exact⟨0,rfl,f8 _,(Ext.refl w).drewN _,qh (fun i hi=>absurd hi (by omega))⟩
 case round =>
  obtain⟨k,rfl,hk,hE,HI⟩:=hrel;by_cases ag:k<P
  case neg =>
   have HT:Hid (L=true):=qh (by
    rw[<-g.out];refine gl ((K2 HP.out F.out Q.out E.out).1 ⟨by rw[G.out,a6.out],fun t ht => ?_⟩);obtain⟨i,hi,rfl⟩:=fR ht;have h1:=HI.out i (by have:=G.out;omega)
    simpa[hi]using h1)
   clear HI;go_wp2;go_ret;exact⟨by rw[HT.out];rfl,hE⟩
  have a1:k<l.length:=by rw[G.out];exact ag
  have H:Hid (l.getD k ([],0)∈l):=qh (by
   rw[gqq,eQ a1]
   exact fu _)
  have U:=hK.ext hE;obtain⟨aA,oe,rfl,ax⟩:=U.rd (by omega);have y:(l.map E8).getD k []=E8 (l.getD k ([],0)):=by simp[a1]
  have a5:=Q.out.len _ H.out;have ah:(mvd xs (l.getD k ([],0)).1).length=N:=by rw[Bh];exact a5
  obtain⟨S1,W⟩:∃ s,ofL (lkS o (mvd xs (l.getD k ([],0)).1))=s:=⟨_,rfl⟩;obtain⟨S2,Y⟩:∃ s,ofL (lkS l (l.getD k ([],0)).1)=s:=⟨_,rfl⟩;have Z:=Om E.out ah;have a0:=Om Q.out a5;rw[W]at Z;rw[Y]at a0;obtain⟨bb,a⟩:∃ b,(S1.toList == S2.toList) = !b:=⟨!(S1.toList == S2.toList),by simp⟩;have HB:=qh a
  have D:Hid ((bb=true->Pl.coef o (mvd xs (l.getD k ([],0)).1)≠(l.getD k ([],0)).2)/\(bb=false->Pl.coef o (mvd xs (l.getD k ([],0)).1)=(l.getD k ([],0)).2)):=qh (by
   have a4:=Q.out.nz _ H.out;have h1:=T9 (lkS o (mvd xs (l.getD k ([],0)).1)) (lkS l (l.getD k ([],0)).1);rw[W,Y,a]at h1;have h2:lkS l (l.getD k ([],0)).1=txt (l.getD k ([],0)).2:=(Ni a4).2 (BJ Q.out H.out);rw[h2]at h1;constructor
   · intro hb e;rw[hb]at h1;exact of_decide_eq_false h1.symm ((Ni a4).2 e)
   · intro hb;rw[hb]at h1
     exact(Ni a4).1 (gC h1.symm))
  obtain⟨n,z⟩:∃ n,An (l.getD k ([],0)).1=n:=⟨_,rfl⟩;obtain⟨μ,K⟩:∃ μ,An (mvd xs (l.getD k ([],0)).1)=μ:=⟨_,rfl⟩;have A:n.length=6:=by rw[<-z];exact AV (by have:=a7.out;omega)
  have an:μ.length=6:=by rw[<-K];exact AV (by have:=a7.out;omega)
  have J:=qh (fun(wy:World) (hy:Ext wr wy)=>Iq (m:=(l.getD k ([],0)).1) ((hx.ext hE).ext hy) HP.out (by have h1:=ao.out;have h2:=F.out;omega));have ad:E8 (l.getD k ([],0))=n.map (Value.int .i64):=by rw[<-z];rfl
  rw[z]at a0;rw[K]at Z;rw[z,K]at J;rw[ad]at y;have hY:=Arr.new wr 57 As;have S:Agg prog 57 (n.map (Value.int .i64)).length:=by rw[ft,A];exact C8
  have ap:Hid (As.length=(n.map (Value.int .i64)).length):=qh (by rw[ft,A];rfl);have O:∀ v∈n.map (Value.int .i64),v.oneCell'=true:=BN _;clear ax W Y a ad z K a5 ah a1
  go_upto_region 6 with(first
   | (refine Cq rfl rfl C8 rfl U ag ?_;rw[y])
   | (refine Aa (vs:=n.map (Value.int .i64)) rfl rfl rfl rfl rfl S hY ap.out O ?_;intro w5 T ac))
  have a8:Ext wr w5:=((Ext.refl wr).alloc _).grownR ac (lrf _);obtain⟨X,hX⟩:∃ x,wr.heap.size=x:=⟨_,rfl⟩;rw[hX]at T |-;have f:=hE.trans a8;replace b0:=f.cell b0;replace c0:=f.cell c0;have av:=ak.ext f;have au:=aj.ext f;have af:AY n = .agg (n.map (Value.int .i64)).toArray:=rfl;replace J:=qh (fun(wy:World) (hy:Ext w5 wy)=>J.out wy (a8.trans hy));clear hY ac y U hX O b1 c1
  refine Ac
   [hdP C 0,hdP C 0,hdP C 0,he (.map (some q)),hdS x nx cx,he (AY n),hp (fun v wx=>v=AY μ),he (.string S1),hdP B 0,hdP B 0,hdP B 0,he (.map (some r)),he (AY n),he (.string S2),hdB bb]
   ⟨fun _ _ _ _ h=>h,trivial⟩ ⟨?o0,?o1,?o2,?o3,?o4,?o5,?o6,?o7,?o8,?o9,?o10,?o11,?o12,?o13,?o14,trivial⟩ ?fin
  case o0 | o4 | o8=>exact omv
  case o1 | o9=>exact onc
  case o2 | o10=>exact ofa (d:=0)
  case o3 | o11=>exact ol
  case o5 =>
   exact olA rfl rfl (fun _ _=>id) S T af
  case o6 =>
   refine Ah rfl fun ρ wx hC al aB h => ?_;have e1:_=_:=h.2.1;have e2:_=_:=h.2.2.1;refine⟨37,#[.slice x nx cx,AY n],by go_simp,((J.out wx hC)).mono ?_⟩;rintro e w' ⟨rfl,aq⟩;exact⟨_,rfl,aq,rfl⟩
  case o7 =>
   exact olk (k:=μ) rfl rfl (fun _ _=>id) (fun _ _ h=>by obtain⟨v0,e0,rfl⟩:=h;exact e0) IF BH J8 au an Z
  case o12 =>
   exact olA rfl rfl (fun _ _=>id) S T af
  case o13 =>
   exact olk (k:=n) rfl rfl (fun _ _=>id) (fun _ _=>id) IF BH J8 av A a0
  case o14 =>
   refine Ae rfl fun ρ wx hC al h => ?_;have e0:_=_:=h.1;have e1:_=_:=h.2.1;go_simp;exact HB.out
  case fin =>
   intro wx hC;rintro _ rfl;change wpList _ _ _ _ _ _;simp only[Bs];have a9:=f.trans hC;cases a:bb with
   | true =>
    rw[a]at HB;have HN:Hid (L=false):=qh (by rw[<-g.out];exact fw fun h=>D.out.1 a (((K2 HP.out F.out Q.out E.out).2 h).2 _ H.out));clear a D HB g;go_wp2;go_ret;exact⟨by rw[HN.out];rfl,a9⟩
   | false =>
    rw[a]at HB
    have HN:Hid (∀ i,i<k+1->Pl.coef o (mvd xs (l.getD i ([],0)).1)=(l.getD i ([],0)).2):=qh fun i hi=>by
     by_cases h:i<k
     · exact HI.out i h
     · have:i=k:=by omega
       subst this;exact D.out.2 a
    clear a D HB HI;go_wp2;go_roundw
    case rel=>exact⟨k+1,by go_num,by omega,a9,HN⟩
    case measure=>simp[intOf];omega
theorem Kb{m:List (Int×Value)}(l:(m.map (·.1)).Nodup){p:Int×Value}(hp:p∈Db m k v):p=(k,v)\/(p∈m/\p.1≠k):=by
 unfold Db at hp;cases d:Bi k 0 m with
 | none =>
  rw[d]at hp;rcases fo.1 hp with h|h
  · exact .inr ⟨h,fun e=>CH.1 d (by rw[<-e];exact gn h)⟩
  · exact .inl (eV.1 h)
 | some q =>
  obtain⟨i,n⟩:=q;rw[d]at hp;obtain⟨_,b⟩:=B6 d;rw[j8]at b;obtain⟨j,g,rfl⟩:=fR hp;simp only[gL]at g;simp only[List.getElem_set];by_cases a:i=j
  · rw[fE a];exact .inl rfl
  · rw[fl a];refine .inr ⟨fu g,fun e => ?_⟩;have c:i<m.length:=by
     rcases fL i m.length with h|h
     · exact h
     · rw[fi h]at b;cases b
    have f:m[i]=(k,n):=by rw[eQ c]at b;exact fe b
    have h1:(m.map (·.1))[i]'(by simpa using c)=(m.map (·.1))[j]'(by simpa using g):=by
     rw[List.getElem_map,List.getElem_map,f,e]
    exact a ((List.getElem_inj l).1 h1)
theorem Kc{m:List (Int×Value)}{e:Int}(h:e=k\/e∈m.map (·.1)):e∈(Db m k v).map (·.1):=by
 unfold Db;cases f:Bi k 0 m with
 | none =>
  simp only[fM,fo,gM,ix,eV];exact h.symm
 | some q =>
  obtain⟨i,l⟩:=q;obtain⟨_,b⟩:=B6 f;rw[j8]at b;have a:i<m.length:=by
   rcases fL i m.length with h|h
   · exact h
   · rw[fi h]at b;cases b
  show e∈(m.set i (k,v)).map (·.1);rcases h with rfl|h
  · exact fh.2 ⟨(e,v),List.mem_set a _,rfl⟩
  · obtain⟨p,hp,rfl⟩:=fh.1 h;obtain⟨j,g,rfl⟩:=fR hp;by_cases c:i=j
    · subst c;have d:m[i]=(k,l):=by rw[eQ a]at b;exact fe b
      exact fh.2 ⟨(k,v),List.mem_set a _,by rw[d]⟩
    · refine fh.2 ⟨m[j],?_,rfl⟩;have h1:(m.set i (k,v))[j]'(by simpa using g)=m[j]:=by rw[List.getElem_set,fl c]
      rw[<-h1];exact fu _
theorem Rg{R:Int×Value->Int×Value->Prop}(z:∀ p q,R p q->R q p){m:List (Int×Value)}{k:Int}{v:Value}(t:(m.map (·.1)).Nodup)(h:m.Pairwise R)(n:∀ p∈m,p.1≠k->R p (k,v)):(Db m k v).Pairwise R:=by
 unfold Db;cases r:Bi k 0 m with
 | none =>
  refine List.pairwise_append.2 ⟨h,jP _ _,fun p hp q w => ?_⟩;rw[eV.1 w];exact n p hp fun e=>CH.1 r (by rw[<-e];exact gn hp)
 | some q =>
  obtain⟨i,A⟩:=q;obtain⟨_,a⟩:=B6 r;rw[j8]at a;have b:i<m.length:=by
   rcases fL i m.length with h|h
   · exact h
   · rw[fi h]at a;cases a
  have g:m[i]=(k,A):=by rw[eQ b]at a;exact fe a
  have c:∀ j (s:j<m.length),i≠j->m[j].1≠k:=fun j s l e=>by
   have h1:(m.map (·.1))[i]'(by simpa using b)=(m.map (·.1))[j]'(by simpa using s):=by
    rw[List.getElem_map,List.getElem_map,g,e]
   exact l ((List.getElem_inj t).1 h1)
  show(m.set i (k,v)).Pairwise R;refine gH.2 fun x y d f o => ?_;simp only[gL]at d f;simp only[List.getElem_set];by_cases h1:i=x
  · subst h1;rw[fE rfl,fl (by omega)];exact z _ _ (n _ (fu f) (c y f (by omega)))
  · rw[fl h1];by_cases h2:i=y
    · subst h2;rw[fE rfl];exact n _ (fu d) (c x d h1)
    · rw[fl h2];exact gH.1 h x y d f o
def E9:Value->Option Nat
 | .slice a _ _=>blk a
 | _=>none
structure PMp(w:World)(base B:Nat)(t:TypeId)(m:List (Int×Value))(F:Int->List Value):Prop where
 pmi:AM w B m
 pmb:base<=B
 pme:∀ p∈m,∃ a n c,p.2 = .slice a n c/\0<n/\Own w base t a n c (F p.1)
 pmk:∀ e,F e≠[]->e∈m.map (·.1)
 pmd:m.Pairwise fun p q=>E9 p.2≠E9 q.2
section
variable {w w':World} {base B:Nat} {t:TypeId} {m:List (Int×Value)} {F:Int->List Value}
theorem PMp.ext(h:PMp w base B t m F)(e:Ext w w'):PMp w' base B t m F :=
 ⟨h.pmi.ext e,h.pmb,fun p hp=>by obtain⟨a,n,c,h1,h2,h3⟩:=h.pme p hp;exact⟨a,n,c,h1,h2,h3.ext e⟩,h.pmk,h.pmd⟩
theorem PMp.new(h:AM w B [])(a:base<=B):PMp w base B t [] fun _=>[]:=⟨h,a,by simp,by simp,List.Pairwise.nil⟩
theorem PMp.congr{G:Int->List Value}(h:PMp w base B t m F)(e:∀ k,F k=G k):PMp w base B t m G:=by
 have:F=G:=funext e;subst this;exact h
theorem PMp.kept{g:Nat}{u:TypeId}{f:Array Value}{o:Nat×Nat}(h:PMp w base B t m F)(d:w.heap[g]?=some (.cells f u o))(i:t≠u)(k:w.grownBy w' (some g)):PMp w' base B t m F:=by
 refine⟨h.pmi.kept k (fun e => ?_),h.pmb,fun p hp => ?_,h.pmk,h.pmd⟩
 · have:B=g:=fe e;subst this;rw[h.pmi.obj]at d;cases d
 · obtain⟨a,n,c,h1,h2,h3⟩:=h.pme p hp;refine⟨a,n,c,h1,h2,h3.kept k ?_⟩;rcases h3.2 with⟨b,_⟩|⟨q,l,j,b,_,s,_⟩
   · simp only[eY]at b;left;rw[b.1];rfl
   · simp only[eY]at b;right;rw[b.1];intro r;have:q=g:=by simpa[blk]using r
     subst this;rw[s]at d;injection d with h4;injection h4 with _ h5;exact i h5
theorem PMp.keptO(h:PMp w base B t m F)(b:∀ p∈m,∀ g,E9 p.2=some g->some g≠row)(e:some B≠row)(d:w.grownBy w' row):PMp w' base B t m F:=by
 refine⟨h.pmi.kept d e,h.pmb,fun p hp => ?_,h.pmk,h.pmd⟩;obtain⟨a,n,c,h1,h2,h3⟩:=h.pme p hp;refine⟨a,n,c,h1,h2,h3.kept d ?_⟩;cases f:blk a with
 | none=>exact .inl rfl
 | some g=>exact .inr (b p hp g (by rw[h1];exact f))
theorem PMp.look(h:PMp w base B t m F)(k:Int):∃ a n c,Fw (.slice none 0 0) m k = .slice a n c/\Own w base t a n c (F k)/\(∀ p∈m,p.1≠k->∀ g,E9 p.2=some g->some g≠blk a)/\(∀ g,blk a=some g->∃ p∈m,E9 p.2=some g):=by
 unfold Fw;cases z:Bi k 0 m with
 | none =>
  have h1:=CH.1 z;have h2:F k=[]:=fk fun D=>h1 (h.pmk k D);refine⟨none,0,0,rfl,by rw[h2];exact Own.nil _ _ _,fun p hp f g b => ?_,fun g b=>by cases b⟩;simp[blk]
 | some q =>
  obtain⟨i,v⟩:=q;obtain⟨_,l⟩:=B6 z;rw[j8]at l;have C:=gT l;obtain⟨a,n,c,h1,h2,h3⟩:=h.pme _ C;have o:v = .slice a n c:=h1;refine⟨a,n,c,o,h3,fun p hp f g b => ?_,fun g b=>⟨_,C,by rw[h1];exact b⟩⟩;obtain⟨j,A,rfl⟩:=fR hp;have d:i<m.length:=by
   rcases fL i m.length with h|h
   · exact h
   · rw[fi h]at l;cases l
  have r:m[i]=(k,v):=by rw[eQ d]at l;exact fe l
  have x:i≠j:=fun e=>by subst e;rw[r]at f;exact f rfl
  have h5:E9 m[i].2=blk a:=by rw[r];show E9 v=_;rw[o];rfl
  intro e;rcases Nat.lt_or_gt_of_ne x with y|s
  · exact gH.1 h.pmd i j d A y (by rw[h5,<-e,b])
  · exact gH.1 h.pmd j i A d s (by rw[h5,<-e,b])
theorem CI(h:Own w base e a n c cs)(k:AM w r m):blk a≠some r:=by
 intro d;rcases h.2 with⟨b,_⟩|⟨g,i,j,b,_,f,_⟩
 · simp only[eY]at b;rw[b.1]at d;cases d
 · simp only[eY]at b;rw[b.1]at d;have:g=r:=by simpa[blk]using d
   subst this;rw[k.obj]at f;cases f
theorem PMp.step(h:PMp w base B t m F)(H:∀ p∈m,p.1≠k->∀ g,E9 p.2=some g->some g≠blk a)
 (y:Own w1 base t a' (n+1) c' (F k ++ [v])) (C:w.grownBy w1 (blk a)) (j:blk a'=blk a\/∃ g,blk a'=some g/\w.heap.size<=g) (M:AM w2 B (Db m k (.slice a' (n+1) c'))) (x:AM w1 B m) (D:w1.grownBy w2 (some B)) :
 PMp w2 base B t (Db m k (.slice a' (n+1) c')) fun e=>if e=k then F k ++ [v]else F e:=by
 have i:∀ {l:Option Addr} {E r:Nat} {s:List Value},Own w1 base t l E r s->Own w2 base t l E r s:=fun {l E r s} J=>J.kept D (by
  cases z:blk l with
  | none=>exact .inl rfl
  | some g=>exact .inr (fun e=>CI J x (by rw[z,e])))
 refine⟨M,h.pmb,fun p hp => ?_,fun e he => ?_,?_⟩
 · rcases Kb h.pmi.nodup hp with rfl|⟨hp,c⟩
   · refine⟨a',n+1,c',rfl,by omega,?_⟩;simp only[j0];exact i y
   · obtain⟨f,K,G,o,h0,d⟩:=h.pme p hp;refine⟨f,K,G,o,h0,?_⟩;simp only[fl c];have b:E9 p.2=blk f:=by rw[o];rfl
     refine i (d.kept C ?_);cases A:blk f with
     | none=>exact .inl rfl
     | some g=>exact .inr (H p hp c g (by rw[b,A]))
 · by_cases I:e=k
   · exact Kc (.inl I)
   · simp only[fl I]at he;exact Kc (.inr (h.pmk e he))
 · refine Rg (fun p q h=>fun e=>h e.symm) h.pmi.nodup h.pmd fun p hp c => ?_;show E9 p.2≠blk a';obtain⟨f,K,G,o,h0,d⟩:=h.pme p hp;have b:E9 p.2=blk f:=by rw[o];rfl
   obtain⟨g,rfl,_,O⟩:=d.place h0;rcases j with j|⟨L,j,N⟩
   · rw[j,b];exact H p hp c g (by rw[b];rfl)
   · rw[j,b];intro e;have:g=L:=by simpa[blk]using e
     omega
end
theorem II:prog.underlying 90=some (.map 101 91):=by kernel_rfl
theorem Kd(w:World):(zeroValue 91).run prog w = .ok (.slice none 0 0) w:=by kernel_rfl
def pvM(b:Nat):Value := .pointer (some ⟨b,0,none⟩)
abbrev FMs:=List (PLs×Nat)
def fz:PLs×Nat:=([],0)
noncomputable def grpI (N:Nat) (M:FMs) (h:Int):List Nat:=(List.range M.length).filter fun i=>decide (fpI (idn N) (M.getD i fz).1=h)
structure Eu(w:World)(base fB N:Nat)(M:FMs)(ps:List Nat)(a:Option Addr)(c rB:Nat)(fm:List (Int×Value)):Prop where
 fwl:ps.length=M.length
 fwn:ps.Nodup
 fwa:Arr w fB 93 [.slice a M.length c,.map (some rB)]
 fwr:base<=rB/\rB<fB
 fwo:Own w base 95 a M.length c (ps.map pvM)
 fwm:PMp w base rB 95 fm fun h=>(grpI N M h).map fun i=>pvM (ps.getD i 0)
 fwd:∀ p∈fm,∀ g,E9 p.2=some g->some g≠blk a
 fwp:∀ i,i<M.length->MbA w (fB+1) (ps.getD i 0) (M.getD i fz).1 (M.getD i fz).2
 fwb:∀ i,i<M.length->fB<ps.getD i 0
 fwc:∀ i,i<M.length->Pl.Canon N (M.getD i fz).1/\(M.getD i fz).1.length<=4096/\(M.getD i fz).2<=1000
theorem Eu.ext{w f:World}{base fB N:Nat}{M:FMs}{ps:List Nat}{a:Option Addr}{c d:Nat}{b:List (Int×Value)}(h:Eu w base fB N M ps a c d b)(e:Ext w f):Eu f base fB N M ps a c d b :=
 ⟨h.fwl,h.fwn,h.fwa.ext e,h.fwr,h.fwo.ext e,h.fwm.ext e,h.fwd,fun i g=>(h.fwp i g).ext e,h.fwb,h.fwc⟩
def ImO(xs:List Int)(x:PLs)(M:FMs):Option Nat->Prop
 | some i=>i<M.length/\Rl xs x (M.getD i fz).1
 | none=>∀ i,i<M.length->¬ Rl xs x (M.getD i fz).1
def Rh(ps:List Nat):Option Nat->Value
 | some i=>pvM (ps.getD i 0)
 | none => .pointer none
theorem G8{rB bb:Nat}{M:FMs}{fm:List (Int×Value)}{l:PLs}(hF:Eu w base fB N M ps a c rB fm)(hM:MbA w bb B l cB)(hx:SlI w x nx cx xs)(hp:Ak xs=true)(W:xs.length=N)(Z:Pl.Canon N l)(hb:l.length<=4096) :
 Calls prog 46 #[.pointer (some ⟨fB,0,none⟩),.pointer (some ⟨B,0,none⟩),.slice x nx cx] w fun e w'=>∃ o,e = .returned (Rh ps o)/\Ext w w'/\ImO xs l M o:=by
 classical
 have a7:N<=6:=by rw[<-W];exact(At hp).1
 have f1:w.cell? ⟨fB,1,none⟩=some (.map (some rB)):=hF.fwa.cell (i:=1) (by simp);have P:=hF.fwm.pmi;obtain⟨ag,y,cg,b,Q,_,_⟩:=hF.fwm.look (fpI xs l);have f:=Q.sl;have aa:y<=9223372036854775807:=by have h1:=f.cap;have h2:=f.max;unfold maxLen at h2;omega
 have D:(grpI N M (fpI xs l)).length=y:=by have:=f.len;rw[ft]at this;exact this
 have E:∀ j,j<y->(grpI N M (fpI xs l)).getD j 0<M.length/\fpI (idn N) (M.getD ((grpI N M (fpI xs l)).getD j 0) fz).1=fpI xs l:=fun j V=>by
  have h1:(grpI N M (fpI xs l)).getD j 0∈grpI N M (fpI xs l):=by
   rw[gqq,eQ (by omega)];exact fu _
  have h2:=jc.1 h1;exact⟨iA.1 h2.1,gC h2.2⟩
 have m:∀ i,i<M.length->Rl xs l (M.getD i fz).1->i∈grpI N M (fpI xs l):=fun i r s=>by
  refine jc.2 ⟨iA.2 r,gl ?_⟩;exact(Ua a7 s hp W Z (hF.fwc i r).1).symm
 obtain⟨g,hg⟩:∃ g,grpI N M (fpI xs l)=g:=⟨_,rfl⟩;obtain⟨hv,U⟩:∃ h,fpI xs l=h:=⟨_,rfl⟩;have C:=qh (fun(wy:World) (hy:Ext w wy)=>Dc (hM.ext hy) (hx.ext hy) hp W Z hb);rw[hg]at f D E m;rw[U]at C b;have a1:=qh E;have J:=qh D;have a0:=qh m;have HF:=qh hF;have a4:=qh hM;have HC:=qh Z;have HP:=qh hp;have HL:=qh W;have HB:=qh hb;clear hF hM Z hp W E D m Q hg U hb
 go_enter func46,ntmps46
 go_upto_region 1 with(fail)
 refine Ac
  [hdP fB 0,hdP fB 0,hdP fB 1,he (.map (some rB)),hdP B 0,hdS x nx cx,hp (fun v I=>v = .int .u64 hv),hdS ag y cg,hdI y,hdI 0]
  ⟨fun _ _ _ _ h=>h,trivial⟩ ⟨?o0,?o1,?o2,?o3,?o4,?o5,?o6,?o7,?o8,?o9,trivial⟩ ?fin
 case o0 | o4 | o5=>exact omv
 case o1=>exact onc
 case o2=>exact ofa (d:=1)
 case o3=>exact ol
 case o8 =>
  refine Ae rfl fun ρ I q t h => ?_
  try have e0:_=_:=h.1
  try have e1:_=_:=h.2.1
  try have e2:_=_:=h.2.2.1
  have a9:=q.cell f1;go_simp
  try (first | (intros;omega) | exact eT _ (by omega))
 case o6 =>
  refine Ah rfl fun ρ I q t ab h => ?_;have e1:_=_:=h.2.1;have e2:_=_:=h.2.2.1;refine⟨47,#[.pointer (some ⟨B,0,none⟩),.slice x nx cx],by go_simp,((C.out I q)).mono ?_⟩;rintro e w' ⟨rfl,a6⟩;exact⟨_,rfl,a6,rfl⟩
 case o7 =>
  exact olu (k:=hv) rfl rfl (fun _ _=>id) (fun _ _ h=>by obtain⟨v0,e0,rfl⟩:=h;exact e0) II underlying101 Kd P b
 case o9 =>
  refine Ae rfl fun ρ I q t h => ?_;have a9:=q.cell f1;go_simp
 case fin =>
  intro I q;rintro _ rfl;change wpList _ _ _ _ _ _;simp only[Bs];have S:=f.ext q;have z:=qh q;clear f1 C b P q;go_wp2;obtain⟨wo,Y⟩:∃ wo,I=wo:=⟨_,rfl⟩;rw[Y]at z S |-;have L:=z.out
  go_loopw[18] (fun iv wr=>∃ k:Nat,iv = .int .i64 k/\k<=y/\Ext w wr/\Hid (∀ j,j<k->¬ Rl xs l (M.getD (g.getD j 0) fz).1)) (fun iv _=>y-(intOf iv).toNat)
  case atStart=>exact⟨0,rfl,f8 _,L,qh (fun j V=>absurd V (by omega))⟩
  case round =>
   clear L Y z S;obtain⟨k,rfl,hk,A,K⟩:=hrel;by_cases F:k<y
   case neg =>
    have HN:Hid (ImO xs l M none):=qh fun i r s=>by
     obtain⟨j,V,e⟩:=fR (a0.out i r s);have h1:=K.out j (by have:=J.out;omega);have e2:g.getD j 0=i:=by rw[gqq,eQ V,fC,e]
     rw[e2]at h1;exact h1 s
    clear K;go_wp2;go_ret;exact⟨none,rfl,A,HN.out⟩
   have R:=f.ext A;obtain⟨b9,o9,rfl,T⟩:=R.rd (by omega);have gk:=T k F;obtain⟨i,r⟩:∃ i,g.getD k 0=i:=⟨_,rfl⟩;have X:(g.map fun i=>pvM (ps.getD i 0)).getD k undef = .pointer (some ⟨ps.getD i 0,0,none⟩):=by
    have h1:k<g.length:=by rw[J.out];exact F
    rw[<-r];simp[h1,pvM]
   rw[X]at gk;obtain⟨n,a8⟩:=a1.out k F;rw[r]at n;have a3:=qh n;obtain⟨h1,h2,h3⟩:=HF.out.fwc i n;have G:=qh (L3 (a4.out.ext A) ((HF.out.fwp i n).ext A) (hx.ext A) HP.out HL.out HC.out h1 HB.out h2);have a2:=qh r;obtain⟨pb,H⟩:∃ p,ps.getD i 0=p:=⟨_,rfl⟩;rw[H]at gk G;have a5:=qh H;clear T X r n a8 h1 h2 h3 H R
   go_wp2_with fail
   refine G.out.mono ?_;rintro e w1 ⟨rfl,O⟩;clear G;cases s:rlB xs l (M.getD i fz).1 with
   | true =>
    have HR:Hid (ImO xs l M (some i)):=qh ⟨a3.out,gC s⟩;clear s K gk;go_wp2;go_ret;exact⟨some i,by show _=Ending.returned (pvM (ps.getD i 0));rw[a5.out];rfl,A.trans O,HR.out⟩
   | false =>
    have HN:Hid (∀ j,j<k+1->¬ Rl xs l (M.getD (g.getD j 0) fz).1):=qh fun j V=>by
     by_cases h:j<k
     · exact K.out j h
     · have:j=k:=by omega
       subst this;rw[a2.out];exact of_decide_eq_false s
    clear s K gk;go_wp2;go_roundw
    case rel=>exact⟨k+1,by go_num,by omega,A.trans O,HN⟩
    case measure=>simp[intOf];omega
end Go.Proofs.YthdbingomfdeoaaGreatDoor
