/- Part Py12. -/
import Derived.Test.YtlbmnokpiilfpaaGreatDoorPy11

set_option linter.all false
set_option maxRecDepth 100000
set_option maxHeartbeats 100000000
namespace Go.Proofs.YtlbmnokpiilfpaaGreatDoor
open Tryz Go Go.RowKit
def jQ:=@Option.isSome_none
def kO:=@Rat.mul_one
def kY:=@Rat.mul_comm
def lX:=@Rat.pow_zero
def lm:=@Rat.pow_succ
def mP:=@List.pairwise_singleton
def mZ:=@List.foldr_cons
variable {s s':ByteArray} {i v1 v2 va vars vb:Int} {rows:List (List Value)} {e xs ys:List Int} {cs:List Value} {R base c d k m n:Nat} {A a b:Option Addr} {cons:Option Nat} {t:TypeId} {w w' w0:World}
structure DD(p:List Pl.Tm):Prop where
 atE:∀ e,Pl.coef p e≠0->Da (Pl.coef p e)/\e.length=6/\∀ x∈e,0<=x/\x<=1099511627776
 len:p.length<=1000000
theorem Mr{out p:List Pl.Tm}(b:Pl.Nrm out)(a:∀ e,Pl.coef out e=Pl.coef p e){t:Pl.Tm}(c:t∈out):Pl.coef p t.1=t.2:=by rw[<-a];exact Pl.coef_mem b.nodup c
theorem DD.out{out p:List Pl.Tm}(h:DD p)(c:Pl.Nrm out)(d:∀ e,Pl.coef out e=Pl.coef p e):GQ out/\(∀ t∈out,Da t.2)/\out.length<=1000000:=by
 have b:∀ t∈out,Pl.coef p t.1≠0:=fun t a=>by rw[Mr c d a];exact c.nz t a
 refine⟨fun t a=>(h.atE t.1 (b t a)).2,fun t a => ?_,?_⟩
 · have:=(h.atE t.1 (b t a)).1;rw[Mr c d a]at this;exact this
 · refine oS ?_ h.len
   have h1:=Pl.nodup_le (out.map (·.1)) (p.map (·.1)) c.nodup (fun e he=>by
    obtain⟨t,a,rfl⟩:=gT.1 he;obtain⟨s,f,e⟩:=Pl.coef_present (b t a);rw[<-e]
    exact jl f)
   simpa using h1
def UG(w:World)(va vb:Int)(oa ob:Option (List Pl.Tm))(e:Ending)(w':World):Prop :=
 ∃ a n c b m d err,e = .returned (.tuple #[.slice a n c,.slice b m d,.int .i64 err])/\Ext w w'/\((∃ la lb,oa=some la/\ob=some lb/\va=vb/\err=0/\BJ w' a n c la/\BJ w' b m d lb)\/((oa.isSome && ob.isSome)=true/\va≠vb/\err=4)\/((oa.isSome && ob.isSome)=false/\err=1))
theorem Ll{C D:List Tx}(H:AV w)(I:Be w a n c C)(J:Be w b m d D)(sa:∀ t∈C,t.1.length<=570)(sb:∀ t∈D,t.1.length<=570) :
 Calls prog 80 #[.agg #[.int .i64 va,.slice a n c],.agg #[.int .i64 vb,.slice b m d]] w (UG w va vb (rdP va C) (rdP vb D)):=by
 have z:=fun(G:World) (s:Ext w G)=>qh (Dh (vars:=va) (H.ext s) (I.ext s) sa);have A:=fun(G:World) (s:Ext w G)=>qh (Dh (vars:=vb) (H.ext s) (J.ext s) sb);obtain⟨R,x⟩:∃ o,rdP va C=o:=⟨_,rfl⟩;obtain⟨S,y⟩:∃ o,rdP vb D=o:=⟨_,rfl⟩;rw[x]at z |-;rw[y]at A |-;clear x y sa sb I J
 go_enter func80,ntmps80
 go_upto_region 1 with(fail)
 refine Ch ?_;intro U r p q F;have k:=p.c 0 rfl;have T:=p.c 1 rfl;have l:=q.c 0 rfl;have B:=q.c 1 rfl;clear p q F
 go_wp2_with fail
 refine(z _ r).out.mono ?_;rintro e V ⟨K,P,M,rfl,f,j⟩;have k:=f.cell k;have l:=f.cell l;have B:=f.cell B
 go_wp2_with fail
 refine(A _ (r.trans f)).out.mono ?_;rintro e W ⟨L,Q,N,rfl,g,v⟩;have k:=g.cell k;have l:=g.cell l;have i:=(r.trans f).trans g;have j:=j.ext g;cases R with
 | none =>
  simp only[jQ];go_wp2
  go_ret3
  exact⟨none,0,0,none,0,0,1,rfl,i,Or.inr (Or.inr ⟨rfl,rfl⟩)⟩
 | some la =>
  cases S with
  | none =>
   simp only[jQ,jD];go_wp2
   go_ret3
   exact⟨none,0,0,none,0,0,1,rfl,i,Or.inr (Or.inr ⟨rfl,rfl⟩)⟩
  | some lb =>
   simp only[jD,pg]at j v |-;by_cases E:va=vb
   · subst E;go_wp2
     go_ret3
     exact⟨K,P,M,L,Q,N,0,rfl,i,Or.inl ⟨la,lb,rfl,rfl,rfl,rfl,j,v⟩⟩
   · have O:(va != vb)=true:=by simpa using E
     go_wp2
     go_ret3
     exact⟨none,0,0,none,0,0,4,rfl,i,Or.inr (Or.inl ⟨rfl,E,rfl⟩)⟩
theorem Ms{b:Nat}{e:TypeId}{p:Nat}(h:AP w b e k a n c rows)(f:Arr w p t cs)(o:t≠e):blk a≠some p:=by
 rcases h.2.2 with⟨d,_⟩|⟨g,j,l,d,_,m,_⟩
 · simp only[pk]at d;rw[d.1];simp[blk]
 · simp only[pk]at d;rw[d.1];intro he;have i:g=p:=by simpa[blk]using he
   subst i;unfold Arr at f;rw[m]at f;simp only[oQ,jJ]at f;exact o f.2.1.symm
theorem TmO.keptA{ts:List Tx}(h:TmO w base a n c ts)(e:Arr w R 28 cs)(f:w.grownBy w' (some R)):TmO w' base a n c ts:=by
 obtain⟨b,h1,h2,h3⟩:=h;refine⟨b,h1.kept f (Or.inr (Ms h1 e (by decide))),h2,fun i m => ?_⟩;obtain⟨s,g,o,j,k,l,d⟩:=h3 i m;exact⟨s,g,o,j,k,l,d.kept f (Or.inr (EO d e (by decide)))⟩
def Mt(w0:World)(p:List Pl.Tm)(v:Value)(w:World):Prop:=∃ a n c out,v = .slice a n c/\Em w w0.heap.size a n c out/\Pl.Nrm out/\∀ e,Pl.coef out e=Pl.coef p e
theorem Mt.x(w0:World)(p:List Pl.Tm):StX (Mt w0 p):=fun _ _ _ x ⟨a,n,c,b,h1,h2,h3⟩=>⟨a,n,c,b,h1,h2.ext x,h3⟩
theorem I6(t:Pl.Tm)(h6:t.1.length=6):∀ (l:List Pl.Tm),(∀ s∈l,s.1.length=6)->Pl.desc l->∃ a,a.Perm (t :: l)/\Pl.desc a
 | [],_,_=>⟨[t],mD _,mP _ _⟩
 | s :: r,hl,hd=>by
  have hd2:=iC.1 hd;by_cases h:0<=Pl.ordE t.1 s.1
  · refine⟨t :: s :: r,mD _,iC.2 ⟨fun u hu => ?_,hd⟩⟩;rcases gV.1 hu with rfl|hu
    · exact h
    · have h1:=hd2.1 u hu;by_cases h2:Pl.ordE t.1 s.1=0
      · rw[Pl.ordE_eq (by rw[h6,hl s (by simp)]) h2];exact h1
      · by_cases h3:Pl.ordE s.1 u.1=0
        · rw[<-Pl.ordE_eq (by rw[hl s (by simp),hl u (by simp[hu])]) h3];exact h
        · exact lL (Pl.ordE_trans (b:=s.1) (by omega) (by omega))
  · obtain⟨a,h1,h2⟩:=I6 t h6 r (fun u hu=>hl u (by simp[hu])) hd2.2;refine⟨s :: a,(List.Perm.cons s h1).trans (List.Perm.swap t s r),iC.2 ⟨fun u hu => ?_,h2⟩⟩;rcases gV.1 (h1.mem_iff.1 hu)with rfl|hu
    · have:=Pl.ordE_anti s.1 u.1;omega
    · exact hd2.1 u hu
theorem GU:∀ (l:List Pl.Tm),(∀ s∈l,s.1.length=6)->∃ b,b.Perm l/\Pl.desc b
 | [],_=>⟨[],mD _,List.Pairwise.nil⟩
 | t :: r,h=>by
  obtain⟨l1,h1,h2⟩:=GU r (fun s a=>h s (by simp[a]));obtain⟨c,h3,h4⟩:=I6 t (h t (by simp)) l1 (fun s a=>h s (by simp[h1.mem_iff.1 a])) h2;exact⟨c,h3.trans (List.Perm.cons t h1),h4⟩
noncomputable def cnP (p:List Pl.Tm):List Pl.Tm:=Classical.epsilon (fun l=>Pl.Canon 6 l/\∀ e,Pl.coef l e=Pl.coef p e)
theorem NJ{p l:List Pl.Tm}(h:Pl.Canon 6 l)(a:∀ e,Pl.coef l e=Pl.coef p e):cnP p=l:=by
 have h1:Pl.Canon 6 (cnP p)/\∀ e,Pl.coef (cnP p) e=Pl.coef p e:=lg (p:=fun l=>Pl.Canon 6 l/\∀ e,Pl.coef l e=Pl.coef p e) ⟨l,h,a⟩;exact Pl.canon_ext h1.1 h (fun e=>by rw[h1.2,a])
theorem Eo{p out l:List Pl.Tm}(d:Pl.Nrm out)(b:∀ e,Pl.coef out e=Pl.coef p e)(hp:l.Perm out)(c:Pl.desc l):cnP p=l:=by
 have a:=d.perm hp.symm;exact NJ (Pl.canon_of_sorted a.len a.nz c a.nodup) (fun e=>by rw[Pl.coef_perm hp,b])
open Classical in
noncomputable def resQ (vars:Int) (p:List Pl.Tm):Int×List Tx×Int:=if okW (cnP p)then(vars,wrT vars.toNat (cnP p),0)else(0,[],2)
def DP(w:World)(r:Int×List Tx×Int)(e:Ending)(w':World):Prop:=EH w r.1 r.2.1 r.2.2 e w'
theorem Hq.q{vars:Nat}{out p:List Pl.Tm}{e:Ending}(h:Hq w0 vars out e w')(b:Pl.Nrm out)(c:∀ e,Pl.coef out e=Pl.coef p e):DP w0 (resQ vars p) e w':=by
 obtain⟨l,h1,h2⟩:=h;unfold resQ DP;rcases h2 with⟨d,a,g⟩|⟨a,g⟩
 · rw[Eo b c h1 d,pq a];exact g
 · have f:¬ okW (cnP p):=by
    rcases a with a|⟨d,a⟩
    · obtain⟨i,h3,h4⟩:=GU out b.len;rw[Eo b c h3 h4];intro h5;have:=h5.1;rw[h3.length_eq]at this;omega
    · rw[Eo b c h1 d];exact a
   rw[pf f];exact g
section
variable {P:Program} {ops:Array Oper} {hs:List Hd} {a0:Act} {C:World->Prop} {i:Nat} {o:Oper}
theorem GV{p:Value->World->Prop}(k:B4 hs o=some true)
 (h:∀ b w,C9 b->C w->B3 ops hs a0 o b w o.op.operands.toList->∃ f a,(execOp b o).run P w = .ok (.enter f a) w/\Calls P f a w (fun e c=>∃ u,e = .returned u/\C c/\Fv ops hs i o w c (List.range hs.length)/\p u c)) :
 obl P C ops hs a0 i o ⟨true,.pr p,cons⟩:=by
 unfold obl;rw[k];intro b w hp d l;obtain⟨f,a,j,g⟩:=h b w hp d l;rw[j];exact g
end
def NPE(w0:World)(r:Int×List Tx×Int)(v:Value)(w:World):Prop:=∃ a n c,v = .tuple #[C2 r.1 a n c,.int .i64 r.2.2]/\TmO w w0.heap.size a n c r.2.1
theorem NPE.x(w0:World)(r:Int×List Tx×Int):StX (NPE w0 r):=fun _ _ _ x ⟨a,n,c,h1,h2⟩=>⟨a,n,c,h1,h2.ext x⟩
def NPo(w0:World)(r:Int×List Tx×Int)(v:Value)(w:World):Prop:=∃ a n c,v=C2 r.1 a n c/\TmO w w0.heap.size a n c r.2.1
theorem NPo.x(w0:World)(r:Int×List Tx×Int):StX (NPo w0 r):=fun _ _ _ x ⟨a,n,c,h1,h2⟩=>⟨a,n,c,h1,h2.ext x⟩
theorem Rj{b:List Tx}{a:List Pl.Tm}(h:rdP va b=some a):0<=va/\va<=6:=by
 unfold rdP at h;split at h
 · unfold rdWF at h;split at h
   · rename_i h1;exact⟨h1.1,h1.2.1⟩
   · cases h
 · cases h
def NK(w:World)(va vb:Int)(oa ob:Option (List Pl.Tm))(e:Ending)(w':World):Prop :=
 (∃ la lb,oa=some la/\ob=some lb/\va=vb/\((¬ (la≠[]/\lb≠[]/\24<DJ la+DJ lb)/\DP w (resQ va (Pl.prodT la lb)) e w')\/((la≠[]/\lb≠[]/\24<DJ la+DJ lb)/\EH w 0 [] 2 e w'))) \/
 ((oa.isSome && ob.isSome)=true/\va≠vb/\EH w 0 [] 4 e w')\/((oa.isSome && ob.isSome)=false/\EH w 0 [] 1 e w')
structure WP(la lb:List Pl.Tm):Prop where
 pc:∀ {A B:Option Addr} {N C M D:Nat} {w:World},AV w->BJ w A N C la->BJ w B M D lb ->
  Calls prog 82 #[.slice A N C,.slice B M D] w (fun e w'=>∃ out,Ue w out e w'/\Pl.Nrm out/\∀ e,Pl.coef out e=Pl.coef (Pl.prodT la lb) e)
 ea:GQ la
 eb:GQ lb
 na:la.length<=1000000
 nb:lb.length<=1000000
 fits:DD (Pl.prodT la lb)
theorem WZ(a b:List Pl.Tm):(Pl.prodT a b).length=a.length*b.length:=by
 unfold Pl.prodT
 induction a with
 | nil=>simp
 | cons t r ih=>rw[oI,iD,ih];simp[iy];omega
theorem WP.of{d e:List Pl.Tm}(m:∀ t∈d,Pl.RB 1000 t.2)(n:∀ t∈e,Pl.RB 1000 t.2)(i:GQ d)(j:GQ e)(f:Bi (d.map (·.2))<P2 256)(g:Bi (e.map (·.2))<P2 256)
 (k:d.length<=1000000) (l:e.length<=1000000) (a:DD (Pl.prodT d e)):WP d e :=
 ⟨fun o b c=>WJ o b c m n i j (by rw[<-b.len];exact k) (by rw[<-c.len];exact l) (by rw[<-b.len,<-c.len,<-WZ];exact a.len) f g,i,j,k,l,a⟩
theorem Rk{ta tb:List Tx}(hT:AV w)(ha:Be w a n c ta)(hb:Be w b m d tb)(sa:∀ t∈ta,t.1.length<=570)(sb:∀ t∈tb,t.1.length<=570)
 (a3:∀ l C,rdP va ta=some l->rdP vb tb=some C->va=vb->WP l C) :
 Calls prog 20 #[.agg #[.int .i64 va,.slice a n c],.agg #[.int .i64 vb,.slice b m d]] w (NK w va vb (rdP va ta) (rdP vb tb)):=by
 have a4:=fun(f:World) (g:Ext w f)=>qh (Ll (va:=va) (vb:=vb) (hT.ext g) (ha.ext g) (hb.ext g) sa sb);have ak:∀ l,rdP va ta=some l->0<=va/\va<=6:=fun l h=>Rj h;obtain⟨oa,ay⟩:∃ o,rdP va ta=o:=⟨_,rfl⟩;obtain⟨ob,az⟩:∃ o,rdP vb tb=o:=⟨_,rfl⟩;rw[ay]at a4 a3 ak |-;rw[az]at a4 a3 |-;have ap:=qh a3;clear ay az sa sb ha hb a3
 go_enter func20,ntmps20
 go_upto_region 1 with(fail)
 refine CR ?_;intro w0 ad aa ab aq aG;have a5:=aa.c 0 rfl;have aI:=aa.c 1 rfl;have aJ:=ab.c 0 rfl;have aK:=ab.c 1 rfl;have hR:Arr w0 (w.heap.size+2) 28 (As 0 none 0 0):=aq;have aR:(As 0 none 0 0).toArray=#[.int .i64 0,.slice none 0 0]:=rfl;clear aa ab aq aG
 go_wp2_with fail
 refine(a4 _ ad).out.mono ?_;rintro e J ⟨a1,K,c1,b1,W,d1,aO,rfl,X,aA⟩;have i:=ad.trans X;have G:=hR.ext X;have a5:=X.cell a5;have aS:=ad.size;clear a4 aI aJ aK;rcases aA with⟨l,C,rfl,rfl,hv,rfl,Y,Z⟩|⟨hs,hv,rfl⟩|⟨hs,rfl⟩
 · have hM:=ap.out l C rfl rfl hv;have aT:=ak l rfl;have ai:=Y.len;have ah:=Z.len;have aN:=qh (And.intro ai ah);have HM:=qh hM;clear ap ak;obtain⟨vn,rfl⟩:∃ k:Nat,va=(k:Int):=⟨va.toNat,by omega⟩;have HV:=qh hv;clear hv;have A:=fun(f:World) (g:Ext J f)=>qh (HM.out.pc ((hT.ext i).ext g) (Y.ext g) (Z.ext g));have aw:=fun(f:World) (g:Ext J f)=>qh (Hr (Y.ext g) HM.out.ea);have ax:=fun(f:World) (g:Ext J f)=>qh (Hr (Z.ext g) HM.out.eb);have aL:=I1 hM.ea;have aM:=I1 hM.eb
   have a2:K=0<->l=[]:=by rw[<-ai];exact List.length_eq_zero_iff
   have a0:W=0<->C=[]:=by rw[<-ah];exact List.length_eq_zero_iff
   clear hM;have aQ:K<=1000000:=by have:=HM.out.na;omega
   have aP:W<=1000000:=by have:=HM.out.nb;omega
   clear ai ah;by_cases h0:K=0\/W=0
   · have a6:Hid (¬ (l≠[]/\C≠[]/\24<DJ l+DJ C)):=qh (fun⟨x,y,_⟩=>h0.elim (fun h=>x (a2.1 h)) (fun h=>y (a0.1 h)));have aB:(K=0)\/(0<K/\W=0):=by omega
     clear h0 a2 a0;rcases aB with h0|⟨h0,aC⟩
     case' inl =>
      have au:¬ ((0:Int)<(K:Int)):=by omega
      clear h0;go_wp2
     case' inr =>
      have au:(0:Int)<(K:Int):=by omega
      have aD:¬ ((0:Int)<(W:Int)):=by omega
      clear h0 aC;go_wp2
     all_goals
      obtain⟨B,L⟩:∃ r,Hid (resQ (vn:Int) (Pl.prodT l C)=r):=⟨_,qh rfl⟩
      refine Ac
       [hdP w.heap.size 0,hdI vn,hdS a1 K c1,hdS b1 W d1,hu 5 (fun v f=>Mt J (Pl.prodT l C) v f),hmp (fun v f=>NPE J B v f),hp (fun v f=>NPo J B v f),hdI B.2.2]
       ⟨Mt.x _ _,NPE.x _ _,NPo.x _ _,trivial⟩ ⟨?o0,?o1,?o2,?o3,?o4,?o5,?o6,?o7,trivial⟩ ?fin
      case o0=>exact ofa (d:=0)
      case o1=>exact ol
      case o2 | o3=>exact omv
      case o4 =>
       refine Ae rfl fun ρ f g S ag h => ?_;have e0:_=_:=h.2.1;have e1:_=_:=h.2.2.1;refine⟨82,#[.slice a1 K c1,.slice b1 W d1],by go_simp,((A f g).out).mono ?_⟩;rintro e w' ⟨am,⟨p,z,s,rfl,F,j⟩,h1,h2⟩;exact⟨_,rfl,F,p,z,s,am,rfl,j.mono g.size,h1,h2⟩
      case o5 =>
       refine GV rfl ?_;intro ρ f hp g h;have S:=hp.const;have ag:=hp.func;have e0:_=_:=h.2.1;obtain⟨v1,e1,a8,al,a9,aH,rfl,N,O,P⟩:=h.2.2.1;have T:=HM.out.fits.out O P;have aE:=N.len;refine⟨69,#[.int .i64 (vn:Int),.slice a8 al a9],by go_simp,(Dl (vars:=vn) (w0:=J) (hT.ext i) g N (by omega) T.1 T.2.1 (by omega)).mono ?_⟩;intro e w' hw;have hq:=Hq.q hw O P;rw[L.out]at hq;obtain⟨p,z,s,rfl,F,j⟩:=hq;exact⟨_,rfl,F,⟨trivial,trivial,trivial,trivial,trivial,trivial,trivial,trivial,trivial⟩,p,z,s,rfl,j⟩
      case o6 =>
       refine AR rfl ?_;intro ρ f hp g h;obtain⟨v0,e0,D,H,E,rfl,M⟩:=h.1;exact⟨C2 B.1 D H E,f,by go_simp,Ext.refl _,D,H,E,rfl,M⟩
      case o7 =>
       refine BR rfl ?_;intro ρ f hp g h;obtain⟨v0,e0,D,H,E,rfl,M⟩:=h.1;go_simp
      case fin =>
       intro f g;rintro _;rintro _ h42;rintro _ h43;change wpList _ _ _ _ _ _;simp only[A0];obtain⟨p,z,s,rfl,j⟩:=h43;clear h42;have af:=i.trans g;have R:=G.ext g;have aj:C2 B.1 p z s = .agg #[.int .i64 B.1,.slice p z s]:=rfl;rw[aj];have aF:(As B.1 p z s).toArray=#[.int .i64 B.1,.slice p z s]:=rfl
       go_wp2_with(refine Aa (vs:=As B.1 p z s) rfl rfl rfl rfl rfl An R rfl (AB _ _ _ _) ?_;intro w8 ac U)
       refine oM (Ar rfl An rfl rfl ac) rfl ?_;exact Or.inl ⟨l,C,rfl,rfl,HV.out,Or.inl ⟨a6.out,by rw[L.out];exact⟨p,z,s,rfl,af.grownR U (by omega),(j.mono i.size).keptA R U⟩⟩⟩
   · have au:(0:Int)<(K:Int):=by omega
     have aD:(0:Int)<(W:Int):=by omega
     have ao:Hid (l≠[]/\C≠[]):=qh ⟨fun h=>h0 (Or.inl (a2.2 h)),fun h=>h0 (Or.inr (a0.2 h))⟩;clear h0 a2 a0;generalize av:DJ l=dA at *
     generalize hdB:DJ C=dB at *
     go_wp2_with fail
     refine(aw _ (Ext.refl _)).out.mono ?_;rintro e w2 ⟨rfl,ae⟩
     go_wp2_with fail
     refine(ax _ ae).out.mono ?_;rintro e w3 ⟨rfl,ar⟩;have I:=ae.trans ar;have i:=i.trans I;have G:=G.ext I;have a5:=I.cell a5;have A:=fun(f:World) (g:Ext w3 f)=>A f (I.trans g);have aU:IntKind.i64.wrap (dA+dB)=dA+dB:=oP _ (by omega);obtain⟨aV,rfl⟩:∃ x:World,x=J:=⟨_,rfl⟩;obtain⟨J,rfl⟩:∃ x:World,x=w3:=⟨_,rfl⟩;clear aw ax ae ar Y Z X;by_cases an:24<dA+dB
     · go_wp2_with(refine Aa (vs:=As 0 none 0 0) rfl rfl rfl rfl rfl An G rfl (AB _ _ _ _) ?_;intro w9 Q V)
       refine oM (Ar rfl An rfl rfl Q) rfl ?_;exact Or.inl ⟨l,C,rfl,rfl,HV.out,Or.inr ⟨⟨ao.out.1,ao.out.2,by rw[av,hdB];exact an⟩,none,0,0,rfl,i.grownR V (by omega),TmO.nil _ _⟩⟩
     · have a6:Hid (¬ (l≠[]/\C≠[]/\24<DJ l+DJ C)):=qh (fun⟨_,_,h⟩=>an (by rw[<-av,<-hdB];exact h));go_wp2;obtain⟨B,L⟩:∃ r,Hid (resQ (vn:Int) (Pl.prodT l C)=r):=⟨_,qh rfl⟩
       refine Ac
        [hdP w.heap.size 0,hdI vn,hdS a1 K c1,hdS b1 W d1,hu 5 (fun v f=>Mt J (Pl.prodT l C) v f),hmp (fun v f=>NPE J B v f),hp (fun v f=>NPo J B v f),hdI B.2.2]
        ⟨Mt.x _ _,NPE.x _ _,NPo.x _ _,trivial⟩ ⟨?o0,?o1,?o2,?o3,?o4,?o5,?o6,?o7,trivial⟩ ?fin
       case o0=>exact ofa (d:=0)
       case o1=>exact ol
       case o2 | o3=>exact omv
       case o4 =>
        refine Ae rfl fun ρ f g S ag h => ?_;have e0:_=_:=h.2.1;have e1:_=_:=h.2.2.1;refine⟨82,#[.slice a1 K c1,.slice b1 W d1],by go_simp,((A f g).out).mono ?_⟩;rintro e w' ⟨am,⟨p,z,s,rfl,F,j⟩,h1,h2⟩;exact⟨_,rfl,F,p,z,s,am,rfl,j.mono g.size,h1,h2⟩
       case o5 =>
        refine GV rfl ?_;intro ρ f hp g h;have S:=hp.const;have ag:=hp.func;have e0:_=_:=h.2.1;obtain⟨v1,e1,a8,al,a9,aH,rfl,N,O,P⟩:=h.2.2.1;have T:=HM.out.fits.out O P;have aE:=N.len;refine⟨69,#[.int .i64 (vn:Int),.slice a8 al a9],by go_simp,(Dl (vars:=vn) (w0:=J) (hT.ext i) g N (by omega) T.1 T.2.1 (by omega)).mono ?_⟩;intro e w' hw;have hq:=Hq.q hw O P;rw[L.out]at hq;obtain⟨p,z,s,rfl,F,j⟩:=hq;exact⟨_,rfl,F,⟨trivial,trivial,trivial,trivial,trivial,trivial,trivial,trivial,trivial⟩,p,z,s,rfl,j⟩
       case o6 =>
        refine AR rfl ?_;intro ρ f hp g h;obtain⟨v0,e0,D,H,E,rfl,M⟩:=h.1;exact⟨C2 B.1 D H E,f,by go_simp,Ext.refl _,D,H,E,rfl,M⟩
       case o7 =>
        refine BR rfl ?_;intro ρ f hp g h;obtain⟨v0,e0,D,H,E,rfl,M⟩:=h.1;go_simp
       case fin =>
        intro f g;rintro _;rintro _ h42;rintro _ h43;change wpList _ _ _ _ _ _;simp only[A0];obtain⟨p,z,s,rfl,j⟩:=h43;clear h42;have af:=i.trans g;have R:=G.ext g;have aj:C2 B.1 p z s = .agg #[.int .i64 B.1,.slice p z s]:=rfl;rw[aj];have aF:(As B.1 p z s).toArray=#[.int .i64 B.1,.slice p z s]:=rfl
        go_wp2_with(refine Aa (vs:=As B.1 p z s) rfl rfl rfl rfl rfl An R rfl (AB _ _ _ _) ?_;intro w8 ac U)
        refine oM (Ar rfl An rfl rfl ac) rfl ?_;exact Or.inl ⟨l,C,rfl,rfl,HV.out,Or.inl ⟨a6.out,by rw[L.out];exact⟨p,z,s,rfl,af.grownR U (by omega),(j.mono i.size).keptA R U⟩⟩⟩
 · go_wp2_with(refine Aa (vs:=As 0 none 0 0) rfl rfl rfl rfl rfl An G rfl (AB _ _ _ _) ?_;intro w9 Q V)
   refine oM (Ar rfl An rfl rfl Q) rfl ?_;exact Or.inr (Or.inl ⟨hs,hv,none,0,0,rfl,i.grownR V (by omega),TmO.nil _ _⟩)
 · go_wp2_with(refine Aa (vs:=As 0 none 0 0) rfl rfl rfl rfl rfl An G rfl (AB _ _ _ _) ?_;intro w9 Q V)
   refine oM (Ar rfl An rfl rfl Q) rfl ?_;exact Or.inr (Or.inr ⟨hs,none,0,0,rfl,i.grownR V (by omega),TmO.nil _ _⟩)
def Hs(k:Nat):List Int:=ze.set k 1
theorem S9{q:Rat}(h:e.length=6)(a:q≠0):Pl.Nrm [(e,q)]:=⟨by simpa using h,by simpa using a,by simp⟩
theorem Mu{e b i:World}{r:Int×List Tx×Int}(f:Ext w e)(d:Ext e b)(j:TmO b e.heap.size a n c r.2.1)(k:Arr b R 28 cs)(g:b.grownBy i (some R))(l:w.heap.size<=R):DP w r (.returned (.tuple #[C2 r.1 a n c,.int .i64 r.2.2])) i :=
 ⟨a,n,c,rfl,(f.trans d).grownR g l,(j.mono f.size).keptA k g⟩
def Rl(w:World)(vars i:Int)(e:Ending)(w':World):Prop:=(0<=vars/\vars<=6/\0<=i/\i<vars/\DP w (resQ vars [(Hs i.toNat,1)]) e w')\/(¬ (0<=vars/\vars<=6/\0<=i/\i<vars)/\EH w 0 [] 3 e w')
theorem Rm(hT:AV w):Calls prog 16 #[.int .i64 vars,.int .i64 i] w (Rl w vars i):=by
 go_enter func16,ntmps16
 go_upto_region 1 with(fail)
 refine AM ?_;intro w0 B T aH;have hR:Arr w0 w.heap.size 28 (As 0 none 0 0):=T;have aK:(As 0 none 0 0).toArray=#[.int .i64 0,.slice none 0 0]:=rfl;clear T aH;by_cases E:0<=vars/\vars<=6/\0<=i/\i<vars
 · obtain⟨h1,h2,h3,h4⟩:=E;obtain⟨N,rfl⟩:∃ k:Nat,vars=(k:Int):=⟨vars.toNat,by omega⟩;obtain⟨k,rfl⟩:∃ k:Nat,i=(k:Int):=⟨i.toNat,by omega⟩;have c1:¬ ((N:Int)<0):=by omega
   have c2:¬ ((6:Int)<(N:Int)):=by omega
   have c3:¬ ((k:Int)<0):=by omega
   have c4:¬ ((N:Int)<=(k:Int)):=by omega
   have a3:=qh (QU (z:=1) (w:=w0) (by omega) (by omega))
   go_wp2_with fail
   refine a3.out.mono ?_;rintro e w1 ⟨_,rfl,C,s1,g,o,m,j,n,l,rfl,P,a5,a6⟩;have aC:(Ah s1 g o m false j n l).toArray=#[.bool s1,.slice g o m,.bool false,.slice j n l]:=rfl;have aI:(Ap ze s1 g o m j n l).toArray=#[.int .i64 0,.int .i64 0,.int .i64 0,.int .i64 0,.int .i64 0,.int .i64 0,.bool s1,.slice g o m,.bool false,.slice j n l]:=rfl;have hY:=Arr.new w1 92 (Ap ze false none 0 0 none 0 0)
   go_upto_region 4 with(refine Aa (vs:=Ap ze s1 g o m j n l) rfl rfl rfl rfl rfl Au hY rfl AY ?_;intro w3 a a2)
   have d:Ext w1 w3:=((Ext.refl w1).alloc _).grownR a2 (lrf _);have v:=C.trans d;have hX:w0.heap.size<=w1.heap.size:=C.size;have F:=a5.ext d;have G:=a6.ext d;obtain⟨X,Z⟩:∃ x,w1.heap.size=x:=⟨_,rfl⟩;rw[Z]at a hX |-;have aE:((1:Int):Rat)=1:=rfl;rw[aE]at F G P;clear a3 hY a2 C d a5 a6 Z aC;have a9:=a.c 0 rfl;have aa:=a.c 1 rfl;have ab:=a.c 2 rfl;have ac:=a.c 3 rfl;have ad:=a.c 4 rfl;have ae:=a.c 5 rfl;have af:=a.c 6 rfl;have ag:=a.c 7 rfl;have ah:=a.c 8 rfl;have ai:=a.c 9 rfl
   have f:k=0\/k=1\/k=2\/k=3\/k=4\/k=5:=by omega
   have aB:(k:Int)<6:=by omega
   have aj:w3.cell? ⟨X,k,none⟩=some (.int .i64 0):=by rcases f with rfl | rfl | rfl | rfl | rfl | rfl <;> assumption
   obtain⟨H,I,J,K,L,M,hu⟩:∃ H I J K L M,Hs k=[H,I,J,K,L,M]:=by rcases f with rfl|rfl|rfl|rfl|rfl|rfl <;> exact⟨_,_,_,_,_,_,rfl⟩
   have a4:(Ap ze s1 g o m j n l).set k (.int .i64 1)=Ap [H,I,J,K,L,M] s1 g o m j n l:=by
    rw[<-hu];rcases f with rfl|rfl|rfl|rfl|rfl|rfl <;> rfl
   have a0:∀ x∈[H,I,J,K,L,M],0<=x/\x<=1099511627776:=by
    rw[<-hu];rcases f with rfl|rfl|rfl|rfl|rfl|rfl <;> simp[Hs,ze]
   have HU:=qh hu;have a8:=qh a0;clear f hu a0;have ff:=a.frozen k;have b:Arr (w3.setCell ⟨X,k,none⟩ (.int .i64 1)) X 92 (Ap [H,I,J,K,L,M] s1 g o m j n l):=(by have:=a.set k (.int .i64 1);rw[a4]at this;exact this);have s:=Am w3 X k (.int .i64 1);have hU:=a.noU Bo;have aF:=F.keptU hU s;have aG:=G.keptU hU s;have y:=v.grownR s hX
   go_upto_region 5 with(fail)
   clear a9 aa ab ac ad ae af ag ah ai aj ff a4 aB s hU a F G v;generalize w3.setCell ⟨X,k,none⟩ (.int .i64 1)=w4 at *
   have ak:=b.c 0 rfl;have al:=b.c 1 rfl;have am:=b.c 2 rfl;have an:=b.c 3 rfl;have ao:=b.c 4 rfl;have ap:=b.c 5 rfl;have aq:=b.c 6 rfl;have ar:=b.c 7 rfl;have au:=b.c 8 rfl;have av:=b.c 9 rfl;have V:=Ri (e:=[H,I,J,K,L,M]) y rfl ⟨s1,g,o,m,j,n,l,rfl,P,aF,aG⟩;have A:=y.alloc (.cells (Ap [H,I,J,K,L,M] s1 g o m j n l).toArray 92)
   have Y:=Dl (vars:=N) (w0:=w0) (hT.ext B) A V (by omega) (by intro t ht;simp only[oZ]at ht;subst ht;exact⟨rfl,a8.out⟩) (by intro t ht;simp only[oZ]at ht;subst ht;exact DC (show(1:Rat).num.natAbs<18446744073709551616 by decide) (show(1:Rat).den<18446744073709551616 by decide)) (by omega);have Q:=qh Y;clear Y V A b
   go_wp2_with fail
   refine Q.out.mono ?_;intro e w7 hw;have hq:=Hq.q (p:=[(Hs k,1)]) hw (S9 rfl (by decide)) (fun _=>by rw[HU.out]);obtain⟨rr,O⟩:∃ r,Hid (resQ (N:Int) [(Hs k,1)]=r):=⟨_,qh rfl⟩;rw[O.out]at hq;obtain⟨R,n7,S,rfl,U,ay⟩:=hq;have aD:C2 rr.1 R n7 S = .agg #[.int .i64 rr.1,.slice R n7 S]:=rfl;rw[aD];have aJ:(As rr.1 R n7 S).toArray=#[.int .i64 rr.1,.slice R n7 S]:=rfl;have W:=hR.ext U;clear hw Q ak al am an ao ap aq ar au av
   go_wp2_with(refine Aa (vs:=As rr.1 R n7 S) rfl rfl rfl rfl rfl An W rfl (AB _ _ _ _) ?_;intro w8 aw az)
   refine oM (Ar rfl An rfl rfl aw) rfl ?_;exact Or.inl ⟨by omega,by omega,by omega,by omega,by show DP w (resQ (N:Int) [(Hs k,1)]) _ _;rw[O.out];exact Mu B U ay W az (lrf _)⟩
 · have HF:Hid (∀ e w',EH w 0 [] 3 e w'->Rl w vars i e w'):=qh (fun e w' h=>Or.inr ⟨E,h⟩);have D:vars<0\/(¬ vars<0/\6<vars)\/(¬ vars<0/\¬ 6<vars/\i<0)\/(¬ vars<0/\¬ 6<vars/\¬ i<0/\vars<=i):=by omega
   clear E;rcases D with h1|⟨h1,h2⟩|⟨h1,h2,h3⟩|⟨h1,h2,h3,h4⟩
   all_goals
    go_wp2_with(refine Aa (vs:=As 0 none 0 0) rfl rfl rfl rfl rfl An hR rfl (AB _ _ _ _) ?_;intro w9 ax aA)
    refine oM (Ar rfl An rfl rfl ax) rfl ?_;exact HF.out _ _ ⟨none,0,0,rfl,B.grownR aA (lrf _),TmO.nil _ _⟩
theorem Qb{ls:List (List Pl.Tm)}(a:k<ls.length):(ls.take (k+1)).flatten=(ls.take k).flatten ++ ls.getD k []:=by
 rw[nK,List.flatten_append];simp[a]
theorem NL{ls:List (List Pl.Tm)}(a:k<ls.length):(ls.take k).flatten ++ (ls.getD k [] ++ (ls.drop (k+1)).flatten)=ls.flatten:=by
 have h1:ls.take k ++ (ls.getD k [] :: ls.drop (k+1))=ls:=by
  have:ls.getD k [] :: ls.drop (k+1)=ls.drop k:=by
   rw[ig a,gqq,oN a];rfl
  rw[this,kn]
 conv=>rhs;rw[<-h1]
 simp
def Vw(w0:World)(r:Nat)(p:List Pl.Tm)(wr:World):Prop:=∃ l,Ext w0 wr/\DO wr r l/\Hid (∀ e,Pl.coef l e=Pl.coef p e)/\l.length<=p.length
def Wf(w0:World)(r it g c:Nat)(l:List Pl.Tm)(v:Value)(wr:World):Prop :=
 ∃ seen n rows,v = .slice (some ⟨g,0,none⟩) n c/\Ext w0 wr/\DO wr r l/\A1 wr it r l.length seen/\seen.Nodup/\(∀ i∈seen,i<l.length)/\EL wr w0.heap.size 92 10 g n c rows /\
  (Pl.picked l seen).length=n/\Hid (∀ i,i<n->BV wr (rows.getD i []) ((Pl.picked l seen).getD i ([],0)))
theorem Lm{ls:List (List Pl.Tm)}(hT:AV w)(h:Mm w a n c ls)(hn:n<=1000)(hN:ls.flatten.length<=1000000)(hB:∀ p s,p ++ s=ls.flatten->∀ e,Pl.RB 2400 (Pl.coef p e))(bH:∀ t∈ls.flatten,Pl.RB 2400 t.2) :
 Calls prog 70 #[.slice a n c] w (fun e w'=>∃ bd,Ue w bd e w'/\Pl.Nrm bd/\∀ e,Pl.coef bd e=Pl.coef ls.flatten e):=by
 obtain⟨cs,hS,hl,hq⟩:=h;have HQ:=qh hq;have HB:=qh hB;have cy:=qh bH;have HL:=qh hl;have HN:=qh hN;clear hq hB bH hl hN
 go_enter func70,ntmps70
 go_upto_region 2 with(refine Sw rfl rfl ?_;intro w1 bP bJ cv)
 go_wp2
 go_loopw[14] (fun iv wr=>∃ k:Nat,iv = .int .i64 k/\k<=n/\Vw w w.heap.size (ls.take k).flatten wr) (fun iv _=>n-(intOf iv).toNat)
 case atStart=>exact⟨0,rfl,oY _,[],bJ,DO.new bP,qh (fun e=>rfl),oY _⟩
 case round =>
  clear bP bJ cv;obtain⟨k,rfl,hk,a6⟩:=hrel;by_cases ao:k<n
  · obtain⟨l0,aP,bk,aF,aX⟩:=a6;obtain⟨b1,o1,rfl,ce⟩:=(hS.ext aP).rd (by omega);obtain⟨a2,n2,c2,e2,bL⟩:=HQ.out k ao;have g1:=ce k ao;rw[e2]at g1;have bs:=qh (NL (ls:=ls) (k:=k) (by rw[HL.out];exact ao));have bF:=qh (Qb (ls:=ls) (k:=k) (by rw[HL.out];exact ao));have cB:=qh e2;clear ce e2;obtain⟨L,aJ⟩:∃ L,Hid (ls.getD k []=L):=⟨_,qh rfl⟩;obtain⟨pre,aM⟩:∃ p,Hid ((ls.take k).flatten=p):=⟨_,qh rfl⟩;rw[aM.out]at aF aX;have br:Hid (pre ++ (L ++ (ls.drop (k+1)).flatten)=ls.flatten):=qh (by rw[<-aM.out,<-aJ.out];exact bs.out)
    have cH:Hid ((ls.take (k+1)).flatten=pre ++ L):=qh (by rw[<-aM.out,<-aJ.out];exact bF.out);rw[aJ.out]at bL;obtain⟨O,hR,bW,bX⟩:=bL;have cF:=qh bX;have aN:=qh bW;have d8:=hR.le;clear bX bW bs bF cB;obtain⟨wo,rfl⟩:∃ x:World,x=wr:=⟨_,rfl⟩;go_wp2
    go_loopw[20] (fun iv wr=>∃ j:Nat,iv = .int .i64 j/\j<=n2/\Vw w w.heap.size (pre ++ L.take j) wr) (fun iv _=>n2-(intOf iv).toNat)
    case atStart=>exact⟨0,rfl,oY _,l0,aP,bk,by simpa using aF,by simpa using aX⟩
    case round =>
     clear bk aF aX aP g1;obtain⟨j,rfl,hj,a6⟩:=hrel;by_cases an:j<n2
     · obtain⟨l,hE,a0,HC,ck⟩:=a6;have aV:=hR.ext hE;obtain⟨b,da,rfl,_⟩:=aV.rd (by omega);obtain⟨sx,S,Z,U,T,W,V,aC,h6,b2⟩:=cF.out j an
       have bz:Hid (L.take (j+1)=L.take j ++ [L.getD j ([],0)]):=qh (by
        rw[nK,gqq,oN (by rw[aN.out];exact an)];rfl)
       have cI:Hid (L.getD j ([],0)∈ls.flatten):=qh (by
        rw[<-br.out];refine List.mem_append_right _ (List.mem_append_left _ ?_);rw[gqq,oN (by rw[aN.out];exact an)]
        exact iF _)
       have bD:Hid (∀ e,Pl.RB 2400 (Pl.coef (pre ++ L.take j) e)):=qh (HB.out _ (L.drop j ++ (ls.drop (k+1)).flatten) (by rw[<-br.out,ia,<-ia (L.take j),kn]));generalize L.getD j ([],0)=t at *
       obtain⟨te,tq⟩:=t;obtain⟨D,E,F,G,H,I,ak⟩:=Cs h6;simp only at ak aC b2;subst ak;have hY:=Arr.new wr 92 (Ap [0,0,0,0,0,0] false none 0 0 none 0 0)
       go_upto_region 8 with(first
        | (refine Bz rfl rfl Au rfl aV an ?_;rw[aC])
        | (refine Aa (vs:=Ap [D,E,F,G,H,I] sx S Z U T W V) rfl rfl rfl rfl rfl Au hY rfl AY ?_;intro w3 Q cf))
       have a4:Ext wr w3:=((Ext.refl wr).alloc _).grownR cf (lrf _);have ah:=a0.ext a4;have a5:=hE.trans a4;have bo:=b2.ext a5;have d4:w.heap.size≠wr.heap.size:=by have:=a0.lt;omega
       clear hY cf a0 hE a4 aC h6 aV b2;generalize wr.heap.size=X at *
       have c0:=Q.c 0 rfl;have c1:=Q.c 1 rfl;have c2:=Q.c 2 rfl;have c3:=Q.c 3 rfl;have c4:=Q.c 4 rfl;have c5:=Q.c 5 rfl;have c6:=Q.c 6 rfl;have c7:=Q.c 7 rfl;have c8:=Q.c 8 rfl;have c9:=Q.c 9 rfl;obtain⟨m,a1,C⟩:=ah;have ae:=a1.nodup;have af:=qh C;obtain⟨LV,bB⟩:∃ v,Hid (JK Rf m [D,E,F,G,H,I]=v):=⟨_,qh rfl⟩;have bA:Hid ((l.map (·.1)).Nodup):=qh (by rw[<-C.keys];exact ae);have cC:Hid (BL w3 LV (Pl.getK 0 l [D,E,F,G,H,I])):=qh (by rw[<-bB.out,PZ];exact C.get (Rg w3) _)
       have aH:Hid (Pl.RB 2400 (Pl.getK 0 l [D,E,F,G,H,I])):=qh (by rw[Pl.getK_coef l _ bA.out,HC.out];exact bD.out _);have aO:Hid (Pl.RB 2400 tq):=qh (cy.out _ cI.out);have cu:=fun(wx:World) (hq:Ext w3 wx)=>qh (TZ ((hT.ext a5).ext hq) (cC.out.ext hq) (v' := .agg #[.bool sx,.slice S Z U,.bool false,.slice T W V]) (q:=tq) ⟨Ah sx S Z U false T W V,rfl,bo.ext hq⟩ aH.out.1 aH.out.2 aO.out.1 aO.out.2)
       have cG:Hid (∀ e,Pl.coef (Pl.putK l [D,E,F,G,H,I] (Pl.getK 0 l [D,E,F,G,H,I]+tq)) e=Pl.coef (pre ++ L.take (j+1)) e):=qh (fun e=>by
        rw[Pl.coef_step bA.out,HC.out,bz.out,<-ia,Pl.coef_app _ [_]])
       have cE:=qh (Pl.putK_length [D,E,F,G,H,I] (Pl.getK 0 l [D,E,F,G,H,I]+tq) l);have cA:Hid ((pre ++ L.take (j+1)).length=(pre ++ L.take j).length+1):=qh (by rw[bz.out];simp;omega);clear C ae bD aH aO bo;generalize Pl.getK 0 l [D,E,F,G,H,I]=gq at *
       have ai:=fun(wx:World) (J:Ext w3 wx)=>qh (And.intro (J.cell c0) (And.intro (J.cell c1) (And.intro (J.cell c2) (And.intro (J.cell c3) (And.intro (J.cell c4) (And.intro (J.cell c5) (And.intro (J.cell c6) (And.intro (J.cell c7) (And.intro (J.cell c8) (J.cell c9))))))))))
       refine Ac
        [he (.map (some w.heap.size)),hdP X 0,he (.agg #[.int .i64 D,.int .i64 E,.int .i64 F,.int .i64 G,.int .i64 H,.int .i64 I]),he (.map (some w.heap.size)),hdP X 0,he (.agg #[.int .i64 D,.int .i64 E,.int .i64 F,.int .i64 G,.int .i64 H,.int .i64 I]),he LV,hdP X 6,he (.agg #[.bool sx,.slice S Z U,.bool false,.slice T W V]),hp (fun v wx=>NR (gq+tq) v wx)]
        ⟨NR.x _,trivial⟩ ⟨?o0,?o1,?o2,?o3,?o4,?o5,?o6,?o7,?o8,?o9,trivial⟩ ?fin
       case o0 | o3=>exact omv
       case o1 | o4=>exact ofa (d:=0)
       case o7=>exact ofa (d:=6)
       case o8=>exact ol4
       case o2 =>
        refine Ao rfl fun ρ wx J aB h => ?_;have e0:_=_:=h.1;obtain⟨b3,b4,b5,b6,b7,b8,b9,ba,bb,bc⟩:=(ai wx J).out;go_simp
       case o5 =>
        refine Ao rfl fun ρ wx J aB h => ?_;have e0:_=_:=h.1;obtain⟨b3,b4,b5,b6,b7,b8,b9,ba,bb,bc⟩:=(ai wx J).out;go_simp
       case o6 =>
        refine Ao rfl fun ρ wx J aB h => ?_;have e0:_=_:=h.1;have e1:_=_:=h.2.1;obtain⟨b3,b4,b5,b6,b7,b8,b9,ba,bb,bc⟩:=(ai wx J).out;rw[<-bB.out];exact P0 rfl F4 Ct NC e0 e1 (a1.ext J) rfl
       case o9 =>
        refine Ae rfl fun ρ wx J aB d5 h => ?_;have e1:_=_:=h.2.1;have e2:_=_:=h.2.2.1;obtain⟨b3,b4,b5,b6,b7,b8,b9,ba,bb,bc⟩:=(ai wx J).out;refine⟨146,#[LV,.agg #[.bool sx,.slice S Z U,.bool false,.slice T W V]],by go_simp,((cu wx J).out).mono ?_⟩;rintro e w' ⟨cs,rfl,cJ,cU⟩;exact⟨_,rfl,cJ,cs,rfl,cU⟩
       case fin =>
        intro wx J;rintro _ ⟨bG,rfl,cV⟩;change wpList _ _ _ _ _ _;simp only[A0];have bS:=a1.ext J;have d3:=a5.size
        go_wp2_with(refine Vf rfl (Or.inl rfl) F4 Ct (k:=[D,E,F,G,H,I]) (v := .agg bG.toArray) rfl rfl rfl bS rfl ?_;intro w5 bQ a8)
        go_roundw
        case rel =>
         refine⟨j+1,by go_num,by omega,_,(a5.trans J).grownR a8 (lrf _),⟨_,by rw[Re]at bQ;exact bQ,?_⟩,cG,by have h1:=cE.out;have h2:=cA.out;omega⟩;have hU:=bS.noU;exact((af.out.mono fun _ _ h=>h.ext J).put _ ⟨bG,rfl,cV⟩).mono fun _ _ h=>h.keptU hU a8
        case measure=>simp[intOf];omega
     · have cP:j=n2:=by omega
       subst cP;rw[oL (by rw[aN.out];exact lrf _),<-cH.out]at a6;go_wp2;go_roundw
       case rel=>exact⟨k+1,by go_num,by omega,a6⟩
       case measure=>simp[intOf];omega
  · have cQ:k=n:=by omega
    subst cQ;rw[oL (by rw[HL.out];exact lrf _)]at a6;obtain⟨l,hE,a0,HC,ck⟩:=a6;have h6:=a0.six;have ae:=a0.nodup;have HP:=qh (And.intro h6 ae);clear h6 ae;obtain⟨m,a1,C⟩:=a0;have cm:=C.len;have aY:m.length<=1000000:=by have:=HN.out;omega
    have aK:=qh cm;have cS:=P4 (P:=prog) (ty:=3) F4 a1;have af:=qh C;clear cm C ck
    go_upto_region 12 with(refine PN rfl rfl (by kernel_rfl) Cr Bo rfl rfl (by omega) (by unfold maxLen;omega) ?_;intro w2 aT aQ)
    have z:=a1.ext aQ
    go_upto_region 13 with(refine Sx rfl rfl F4 rfl z ?_;intro w3 bN a4 cw)
    have ag:=aQ.trans a4;have a5:=hE.trans ag;have ah:DO w3 w.heap.size l:=⟨m,a1.ext ag,af.out.mono fun _ _ h=>h.ext ag⟩;have bj:A1 w3 w2.heap.size w.heap.size l.length []:=by rw[<-aK.out];exact bN
    have d6:w.heap.size<wr.heap.size:=a1.lt;have aU:=aT.ext a4;have d7:wr.heap.size<w2.heap.size:=aT.lt.2;have az:EL w3 w.heap.size 92 10 wr.heap.size 0 m.length []:=⟨aU.1.mono (by omega),aU.2⟩;clear bN z aQ a4 aT ag cS hE cw a1 aU;generalize wr.heap.size=g at *
    generalize w2.heap.size=it at *
    obtain⟨M,hM⟩:∃ M,m.length=M:=⟨_,rfl⟩;have bR:l.length=M:=by rw[<-hM];exact aK.out.symm
    have cD:=qh bR;rw[hM]at az aY |-;have cK:=aY;clear aY;clear hM bR af aK
    go_frame
    go_loopw[8] (fun v wr=>Wf w w.heap.size it g M l v wr) (fun _ wr=>l.length-OU wr it)
    case atStart=>exact⟨[],0,[],rfl,a5,ah,bj,by simp,by simp,az,rfl,qh (fun i hi=>absurd hi (by omega))⟩
    case round =>
     clear a5 ah bj az;obtain⟨f,N,O,rfl,hE,a0,hI,aq,ap,hO,cn,aG⟩:=hrel;have d0:N<=f.length/\f.length<=l.length:=by
      have h1:=Pl.picked_len l f;have h2:=Pl.seen_len aq ap;omega
     have R:=qh cn;clear cn;obtain⟨m2,z,au⟩:=a0;have aa:=au.len;rw[<-aa]at hI;have b0:=P3 z hI;by_cases aA:∀ i,i<m2.length->i∈f
     · have be:=Pl.picked_perm aq ap (fun i hi=>aA i (by rw[aa];exact hi));have bC:=qh be;clear be aa
       go_wp2_with(refine Px rfl rfl rfl z hI (fun _ => ?_) (fun i _ _ _ h1 h2 _ _ _=>absurd (aA i h1) h2))
       go_ret;refine⟨Pl.picked l f,⟨_,N,M,rfl,hE,O,hO.1,fun g' cM => ?_,R.out,aG.out⟩,(Pl.Nrm.filter HP.out.1 HP.out.2).perm bC.out.symm,fun e => ?_⟩
       · have:g=g':=by simpa[blk]using cM
         subst this;exact hO.2
       · rw[Pl.coef_perm bC.out,Pl.coef_nz,HC.out]
     · have bZ:OU wr it=f.length:=I0 hI;have cX:=hE.size;have bV:=IZ hO.1 hI;have d2:=Ho hO.1 z;have ar:=qh au;have bh:=qh aa;have cY:=hI.lt;have al:=hI.noU;clear au aa
       go_upto_region 14 with(refine Px rfl rfl rfl z hI (fun h=>absurd h aA) ?_;intro i k v w4 cN ch aZ aS a7)
       obtain⟨q,cl,bY⟩:=ar.out.nth aZ;have aI:Hid (l.getD i ([],0)=(k,q)):=qh (by rw[gqq,cl];rfl);have cj:k.length=6:=z.six _ (gY aZ);have bl:DO w4 w.heap.size l:=DO.keptU ⟨m2,z,ar.out⟩ al a7 b0;have bn:=z.kept a7 (by simpa using b0);have bT:=hO.kept a7 (by simpa using bV);have bf:Hid (∀ i,i<N->BV w4 (O.getD i []) ((Pl.picked l f).getD i ([],0))):=qh (fun i hi=>(aG.out i hi).keptU al a7);have ct:=bY.keptU al a7;have aR:Ext w w4:=hE.grownR a7 (by omega)
       have A:Hid ((f ++ [i]).Nodup/\(∀ j∈f ++ [i],j<l.length)/\f.length<l.length):=qh (by
        have cg:i<l.length:=by rw[<-bh.out];exact cN
        refine⟨oE.2 ⟨aq,by simp,fun x hx y hy=>by simp only[oZ]at hy;subst hy;rintro rfl;exact ch hx⟩,fun j hj => ?_,?_⟩
        · rcases il.1 hj with hj|hj
          · exact ap j hj
          · simp only[oZ]at hj;subst hj;exact cg
        · have:=Pl.seen_len (n:=l.length) (kS.2 ⟨ch,aq⟩) (fun x hx=>by
           rcases gV.1 hx with rfl|hx
           · exact cg
           · exact ap x hx)
          simp at this
          omega)
       obtain⟨D,E,F,G,H,I,ak⟩:=Cs cj;subst ak;obtain⟨_,rfl,sx,S,Z,U,T,W,V,rfl,bE,co,cp⟩:=ct;have bt:Hid (A1 w4 it w.heap.size l.length (f ++ [i])):=qh (by rw[<-bh.out];exact aS);have d9:=aR.size;clear bY aG hE z hO hI a7 al cj cl cX bV b0 ar;have ca:=JG w4 (ze.map (Value.int .i64)) (Ah false none 0 0 false none 0 0) 90 85;have cb:=JH w4 (ze.map (Value.int .i64)) (Ah false none 0 0 false none 0 0) 90 85;have bM:=VW w4 (.cells (ze.map (Value.int .i64)).toArray 90) (.cells (Ah false none 0 0 false none 0 0).toArray 85)
       go_upto_region 15 with(first
        | (refine Sy rfl rfl rfl bn aS aZ ?_)
        | (refine Aa (vs:=[D,E,F,G,H,I].map (Value.int .i64)) rfl rfl rfl rfl rfl Rd ca rfl (EN _) ?_;intro w5 bI a8;have cc:=cb.kept a8 (by simp);clear ca)
        | (refine Aa (vs:=Ah sx S Z U false T W V) rfl rfl rfl rfl rfl Af cc rfl (Ag _ _ _ _ _ _ _ _) ?_;intro w6 ac aW))
       have B:Ext w4 w6:=(bM.grownR a8 (lrf _)).grownR aW (by omega);have K:=bI.kept aW (by simp);have bK:=aR.trans B;have bm:=bl.ext B;have bu:Hid (A1 w6 it w.heap.size l.length (f ++ [i])):=qh (bt.out.ext B);have bU:=bT.ext B;have bg:Hid (∀ i,i<N->BV w6 (O.getD i []) ((Pl.picked l f).getD i ([],0))):=qh (fun i hi=>(bf.out i hi).ext B);have aD:=co.ext B;have aE:=cp.ext B;clear bI a8 aW bM cb cc B bl bt bT bf co cp aR bn aS;generalize w4.heap.size=Y at *
       have y0:w6.cell? ⟨Y,0,none⟩=some (.int .i64 D):=K.cell (i:=0) (by simp);have y1:w6.cell? ⟨Y,1,none⟩=some (.int .i64 E):=K.cell (i:=1) (by simp);have y2:w6.cell? ⟨Y,2,none⟩=some (.int .i64 F):=K.cell (i:=2) (by simp);have y3:w6.cell? ⟨Y,3,none⟩=some (.int .i64 G):=K.cell (i:=3) (by simp);have y4:w6.cell? ⟨Y,4,none⟩=some (.int .i64 H):=K.cell (i:=4) (by simp);have y5:w6.cell? ⟨Y,5,none⟩=some (.int .i64 I):=K.cell (i:=5) (by simp);have z0:=ac.c 0 rfl;have z1:=ac.c 1 rfl;have z2:=ac.c 2 rfl;have z3:=ac.c 3 rfl
       have ci:=qh (FV (w:=w6) (v := .agg #[.bool sx,.slice S Z U,.bool false,.slice T W V]) (q:=q) ⟨Ah sx S Z U false T W V,rfl,sx,S,Z,U,T,W,V,rfl,bE,aD,aE⟩ rfl);clear K ac
       go_wp2_with fail
       refine ci.out.mono ?_;rintro e w7 ⟨rfl,o⟩;have aw:=bK.trans o;have ay:=bm.ext o;have aj:Hid (A1 w7 it w.heap.size l.length (f ++ [i])):=qh (bu.out.ext o);have am:=bU.ext o;have av:Hid (∀ i,i<N->BV w7 (O.getD i []) ((Pl.picked l f).getD i ([],0))):=qh (fun i hi=>(bg.out i hi).ext o);have bp:=aD.ext o;have bq:=aE.ext o;have y0:=o.cell y0;have y1:=o.cell y1;have y2:=o.cell y2;have y3:=o.cell y3;have y4:=o.cell y4;have y5:=o.cell y5;have z0:=o.cell z0;have z1:=o.cell z1;have z2:=o.cell z2;have z3:=o.cell z3
       clear ci bK bm bu bU bg aD aE o;by_cases a9:q=0
       · rw[gX a9];have ab:Hid (Pl.picked l (f ++ [i])=Pl.picked l f):=qh (by rw[Pl.picked_snoc,pq (by rw[aI.out];exact a9)]);clear a9;go_wp2;go_roundw
         case rel=>exact⟨f ++ [i],N,O,rfl,aw,ay,aj.out,A.out.1,A.out.2.1,am,by rw[ab.out];exact R.out,by rw[ab.out];exact av⟩
         case measure =>
          have e1:=I0 aj.out;have e2:=A.out.2.2;rw[bZ,e1];simp;omega
       · rw[pb a9];have ab:Hid (Pl.picked l (f ++ [i])=Pl.picked l f ++ [([D,E,F,G,H,I],q)]):=qh (by rw[Pl.picked_snoc,pf (by rw[aI.out];exact a9),aI.out]);have d1:N<M:=by have h1:=A.out.2.2;have h2:=cD.out;omega
         have cZ:M<=1000000:=cK;clear a9;have a3:Ext w7 (w7.alloc (.cells (Ap [D,E,F,G,H,I] sx S Z U T W V).toArray 92)):=(Ext.refl w7).alloc _;have hA8:=am.ext a3;have bO:=Cj (k:=10) (Arr.new w7 92 (Ap [D,E,F,G,H,I] sx S Z U T W V)) rfl;have cR:(Ap [D,E,F,G,H,I] sx S Z U T W V).toArray=#[.int .i64 D,.int .i64 E,.int .i64 F,.int .i64 G,.int .i64 H,.int .i64 I,.bool sx,.slice S Z U,.bool false,.slice T W V]:=rfl
         have cd:w.heap.size<=(w7.alloc (.cells (Ap [D,E,F,G,H,I] sx S Z U T W V).toArray 92)).heap.size:=(aw.trans a3).size;have cz:=qh (aw.trans a3);have cr:Hid (∀ i,i<N->BV (w7.alloc (.cells (Ap [D,E,F,G,H,I] sx S Z U T W V).toArray 92)) (O.getD i []) ((Pl.picked l f).getD i ([],0))):=qh fun i hi=>(av.out i hi).ext a3
         have cq:Hid (BV (w7.alloc (.cells (Ap [D,E,F,G,H,I] sx S Z U T W V).toArray 92)) (Ap [D,E,F,G,H,I] sx S Z U T W V) ([D,E,F,G,H,I],q)):=qh ⟨sx,S,Z,U,T,W,V,rfl,rfl,sx,S,Z,U,T,W,V,rfl,bE,bp.ext a3,bq.ext a3⟩;have bi:=qh (ay.ext a3);have bv:=qh (aj.out.ext a3);have aL:=qh hA8;rw[cR]at hA8 bO cd;have cW:=am.1.len (by omega);clear ay am av aj bp bq
         go_wp2_with(refine L7 rfl rfl (by kernel_rfl) Cr rfl hA8 rfl bO (by intro r hr u hu;rw[oZ.1 hr]at hu;exact AY u hu) (by intro r hr u hu;rw[oZ.1 hr]at hu;exact Bo u hu) (by omega) (by omega) cd ?_;intro w9 cL ad)
         have bw:Hid (A1 w9 it w.heap.size l.length (f ++ [i])):=qh (bv.out.kept ad (by have:=IZ aL.out.1 bv.out;simpa using fun h=>this h.symm));go_roundw
         case rel =>
          have hU:=aL.out.2;have cT:w.heap.size≠g:=by
           obtain⟨m8,h8,_⟩:=bi.out;exact fun h=>Ho aL.out.1 h8 h.symm
          refine⟨f ++ [i],N+1,_,rfl,cz.out.grownR ad (by omega),bi.out.keptU hU ad cT,bw.out,A.out.1,A.out.2.1,cL,by rw[ab.out,iD,R.out];rfl,qh fun j hj => ?_⟩;rw[ab.out];by_cases cO:j=N
          · subst cO;rw[gqq,gN (by omega),cW,jt,gqq,gN (by rw[R.out];exact lrf _),R.out,jt];exact cq.out.keptU hU ad
          · rw[gqq,gF (by omega),<-gqq,gqq (l:=Pl.picked l f ++ _),gF (by rw[R.out];omega),<-gqq];exact(cr.out j (by omega)).keptU hU ad
         case measure =>
          have e1:=I0 bw.out;have e2:=A.out.2.2;rw[bZ,e1];simp;omega
theorem EP{k:Nat}:∀ (a:List (List Value)),(∀ r∈a,r.length=k)->∀ i o (vs:List Value),o+vs.length<=k->i<a.length ->
 a.flatten.take (i*k+o) ++ vs ++ a.flatten.drop (i*k+o+vs.length)=(a.set i ((a.getD i []).take o ++ vs ++ (a.getD i []).drop (o+vs.length))).flatten
 | [],_,i,o,vs,_,hi=>by simp at hi
 | r :: rest,h,0,o,vs,hv,_=>by
  have hr:r.length=k:=h r (by simp);simp only[pw,gL,kV,ll,jZ];rw[List.take_append_of_le_length (by omega),List.drop_append_of_le_length (by omega),<-ia]
 | r :: rest,h,i+1,o,vs,hv,hi=>by
  have hr:r.length=k:=h r (by simp);have d:=EP rest (fun x c=>h x (by simp[c])) i o vs hv (by simpa using hi);have e:(i+1)*k+o=k+(i*k+o):=by rw[iy];omega
  have b:k+(i*k+o)+vs.length=k+(i*k+o+vs.length):=by omega
  simp only[kV,kN,kc,e,b];rw[<-d,<-hr,List.take_length_add_append,List.drop_length_add_append];simp
section
variable {w:World} {base:Nat} {e:TypeId} {k g n:Nat} {rows:List (List Value)}
theorem AP.arrK(h:AP w base e k (some ⟨g,0,none⟩) n n rows):Arr w g e rows.flatten:=by
 rcases h.2.2 with⟨a,_⟩|⟨l,d,b,a,m,f,i,o,j,c⟩
 · simp at a
 simp only[pk,oQ,ic,iY,lh]at a;obtain⟨rfl,rfl⟩:=a;have h2:b.toList=rows.flatten:=by rw[<-c,oL (by simp[j])]
 unfold Arr;rw[f,<-h2]
theorem Arr.ownK(h:Arr w g e rows.flatten)(b:∀ r∈rows,r.length=k)(f:rows.length=n)(c:base<=g)(d:n<=maxLen):AP w base e k (some ⟨g,0,none⟩) n n rows:=by
 have a:=B7 rows b;rw[f]at a;refine⟨b,by rw[a],Or.inr ⟨g,n,rows.flatten.toArray,rfl,c,h,lrf _,d,by simpa using a,?_⟩⟩;simpa using oL (by rw[a];exact lrf _)
end
def F8(vars:Int)(t:Tx):Prop:=(AJ t.1).isSome=true/\(t.2.length:Int)=vars/\A4 t.2=true
def DK(t:Tx):Pl.Tm:=(BA t.2,(AJ t.1).getD 0)
def UH:List Value:=Ap ze false none 0 0 none 0 0
def OW(w:World)(vars:Int)(ts:List Tx)(e:Ending)(w':World):Prop :=
 (¬ (0<=vars/\vars<=6)/\EH w 0 [] 3 e w')\/(0<=vars/\vars<=6/\¬ (∀ t∈ts,F8 vars t)/\EH w 0 [] 1 e w')\/(0<=vars/\vars<=6/\(∀ t∈ts,F8 vars t)/\DP w (resQ vars (ts.map DK)) e w')
structure Mv(p:List Pl.Tm):Prop where
 pre:∀ a s,a ++ s=p->∀ e,Pl.RB 2400 (Pl.coef a e)
 each:∀ t∈p,Pl.RB 2400 t.2
 fits:DD p
theorem Qc{ts:List Tx}(hT:AV w)(h:Be w A n c ts)(hs:∀ t∈ts,t.1.length<=570)(hn:n<=1000000)(ay:0<=vars->vars<=6->(∀ t∈ts,F8 vars t)->Mv (ts.map DK)) :
 Calls prog 12 #[.int .i64 vars,.slice A n c] w (OW w vars ts):=by
 have aI:=h.len;obtain⟨bk,hS,_,hq⟩:=h;have HQ:=qh hq;have HL:=qh aI;have HS:=qh hs;clear hq aI hs
 go_enter func12,ntmps12
 go_upto_region 1 with(fail)
 refine AM ?_;intro w0 M aT bF;have hR:Arr w0 w.heap.size 28 (As 0 none 0 0):=aT;have bN:(As 0 none 0 0).toArray=#[.int .i64 0,.slice none 0 0]:=rfl;clear aT bF;by_cases hv:0<=vars/\vars<=6
 · obtain⟨a5,a6⟩:=hv;have bq:=qh (ay a5 a6);clear ay;obtain⟨E,rfl⟩:∃ k:Nat,vars=(k:Int):=⟨vars.toNat,by omega⟩;have c1:¬ ((E:Int)<0):=by omega
   have c2:¬ ((6:Int)<(E:Int)):=by omega
   have aJ:nuR (List.replicate n UH):=fun r hr u hu=>by rw[(ir.1 hr).2]at hu;exact Bo u hu
   go_upto_region 4 with(refine ED rfl rfl (by kernel_rfl) Cr rfl rfl (by omega) (by unfold maxLen;omega) ?_;intro w1 an aU)
   obtain⟨G,hG⟩:∃ G,w0.heap.size=G:=⟨_,rfl⟩;rw[hG]at an |-;go_wp2
   go_loopw[23] (fun iv wr=>∃ (k:Nat) (a:List (List Value)),iv = .int .i64 k/\k<=n/\Ext w0 wr/\AP wr w0.heap.size 92 10 (some ⟨G,0,none⟩) n n a/\nuR a/\Hid (∀ i,i<k->F8 E (ts.getD i tm0)/\BV wr (a.getD i []) (DK (ts.getD i tm0)))/\Hid (∀ i,k<=i->i<n->a.getD i []=UH)) (fun iv _=>n-(intOf iv).toNat)
   case atStart=>exact⟨0,_,rfl,oY _,aU,by rw[hG];exact an,aJ,qh (fun i d=>absurd d (by omega)),qh (fun i _ d=>by simp[d,UH,ze])⟩
   case round =>
    clear an aU aJ;obtain⟨k,a,rfl,hk,hE,hO,aw,HC,HZ⟩:=hrel;have aX:=M.trans hE;by_cases ad:k<n
    · have ao:=hS.ext aX;obtain⟨b,bO,rfl,bu⟩:=ao.rd (by omega);obtain⟨s,ax,nx,cx,aK,a4,af⟩:=HQ.out k ad;have hY:=Arr.new wr 26 (tmL ⟨#[]⟩ none 0 0);have aC:bk.getD k []=tmL s ax nx cx:=aK
      go_upto_region 7 with(first
       | (refine Bz rfl rfl CI rfl ao ad ?_;rw[aC])
       | (refine Aa (vs:=tmL s ax nx cx) rfl rfl rfl rfl rfl CI hY rfl (Fr _ _ _ _) ?_;intro w2 a8 b6))
      have a9:Ext wr w2:=((Ext.refl wr).alloc _).grownR b6 (lrf _);have aZ:=hO.ext a9;have ai:Hid (∀ i,i<k->F8 E (ts.getD i tm0)/\BV w2 (a.getD i []) (DK (ts.getD i tm0))):=qh fun i d=>⟨(HC.out i d).1,(HC.out i d).2.ext a9⟩;have ag:=hE.trans a9;have aF:=M.trans ag;have S:=af.ext aF;have F:Hid (ts.getD k tm0∈ts):=qh (by simp[HL.out,ad]);have ba:s.size<=570:=by rw[<-Ax,a4];exact HS.out _ F.out
      have a2:=qh (J1 (w:=w2) (hT.ext aF) ba);rw[a4]at a2;obtain⟨t,aR⟩:∃ t,Hid (ts.getD k tm0=t):=⟨_,qh rfl⟩;rw[aR.out]at a2 S af a4 F;obtain⟨t1,P⟩:=t;simp only at a2 S af a4;obtain⟨X,hX⟩:∃ x,wr.heap.size=x:=⟨_,rfl⟩;rw[hX]at a8 |-;have bI:G<X:=by have:=(hO.lt (g:=G) rfl).2;omega
      have y0:=a8.c 0 rfl;have y1:=a8.c 1 rfl;clear hY b6 hO hE a9 aK aC bu ao HC a4 ba
      go_wp2_with fail
      refine a2.out.mono ?_;rintro e w3 ⟨_,rfl,aa,B,f,m,j,o,z,y,rfl,aQ,bc,be⟩;have b5:=Arr.new w3 85 (Ah false none 0 0 false none 0 0);have bx:(Ah B f m j false o z y).toArray=#[.bool B,.slice f m j,.bool false,.slice o z y]:=rfl
      go_upto_region 8 with(refine Aa (vs:=Ah B f m j false o z y) rfl rfl rfl rfl rfl Af b5 rfl (Ag _ _ _ _ _ _ _ _) ?_;intro w4 U b7)
      have R:Ext w3 w4:=((Ext.refl w3).alloc _).grownR b7 (lrf _);have H:=aa.trans R;have Q:=ag.trans H;have I:=M.trans Q;have ab:=hR.ext Q;have C:=aZ.ext H;have aj:Hid (∀ i,i<k->F8 E (ts.getD i tm0)/\BV w4 (a.getD i []) (DK (ts.getD i tm0))):=qh fun i d=>⟨(ai.out i d).1,(ai.out i d).2.ext H⟩;have T:=S.ext H;have y1:=H.cell y1;have aA:=bc.ext R;have aB:=be.ext R;have ae:=T.len;obtain⟨Y,b4⟩:∃ x,w3.heap.size=x:=⟨_,rfl⟩;rw[b4]at U |-;have z0:=U.c 0 rfl;have z1:=U.c 1 rfl;have z2:=U.c 2 rfl
      have z3:=U.c 3 rfl;clear b5 b7 bx aa R bc be aZ ai S y0 a8 a2 ag U b4;cases K:AJ t1 with
      | none =>
       have a0:Hid (¬ ∀ t∈ts,F8 E t):=qh (fun h=>by have:=(h _ F.out).1;rw[K]at this;cases this);simp only[jQ];clear K
       go_wp2_with(refine Aa (vs:=As 0 none 0 0) rfl rfl rfl rfl rfl An ab rfl (AB _ _ _ _) ?_;intro w9 L O)
       refine oM (Ar rfl An rfl rfl L) rfl ?_;exact Or.inr (Or.inl ⟨a5,a6,a0.out,none,0,0,rfl,I.grownR O (lrf _),TmO.nil _ _⟩)
      | some q =>
       simp only[jD,K,pg]at aQ aA aB |-;by_cases D:(nx:Int)=E
       · have bi:((nx:Int) != (E:Int))=false:=by simp[D]
         cases Z:A4 P with
         | false =>
          have a0:Hid (¬ ∀ t∈ts,F8 E t):=qh (fun h=>by have:=(h _ F.out).2.2;rw[show((t1,P):Tx).2=P from rfl,Z]at this;cases this);have W:=qh (EF T);rw[Z]at W;have bo:=qh D;clear K Z D
          go_wp2_with fail
          refine W.out.mono ?_;rintro e w5 ⟨rfl,rfl⟩
          go_wp2_with(refine Aa (vs:=As 0 none 0 0) rfl rfl rfl rfl rfl An ab rfl (AB _ _ _ _) ?_;intro w9 L O)
          refine oM (Ar rfl An rfl rfl L) rfl ?_;exact Or.inr (Or.inl ⟨a5,a6,a0.out,none,0,0,rfl,I.grownR O (lrf _),TmO.nil _ _⟩)
         | true =>
          have bm:Hid (F8 E (t1,P)):=qh ⟨by rw[show((t1,P):Tx).1=t1 from rfl,K];rfl,by show(P.length:Int)=E;rw[ae];exact D,Z⟩;have bn:Hid (DK (t1,P)=(BA P,q)):=qh (by show(BA P,(AJ t1).getD 0)=_;rw[K];rfl);have W:=qh (EF T);rw[Z]at W;have bz:nx<=6:=by omega
          have b9:=HZ.out k (lrf _) ad;have az:=C.len (by omega);have aq:=B7 a C.1;rw[az]at aq
          have aN:Hid (a.flatten.take (k*10+6) ++ Ah B f m j false o z y ++ a.flatten.drop (k*10+6+(Ah B f m j false o z y).length)=(a.set k (Ap ze B f m j o z y)).flatten):=qh (by
           rw[EP a C.1 k 6 (Ah B f m j false o z y) (by simp[Ah,Ab]) (by omega),b9]
           rfl)
          have bb:∀ r∈a.set k (Ap ze B f m j o z y),r.length=10:=fun r hr=>by
           rcases iT hr with h|h
           · exact C.1 r h
           · rw[h,B8];rfl
          have bl:Hid ((a.set k (Ap ze B f m j o z y)).flatten.take (k*10) ++ P.map (Value.int .i64) ++ (a.set k (Ap ze B f m j o z y)).flatten.drop (k*10+nx)=(a.set k (Ap (BA P) B f m j o z y)).flatten):=qh (by
           have h1:=EP (a.set k (Ap ze B f m j o z y)) bb k 0 (P.map (Value.int .i64)) (by simp;omega) (by simp;omega);rw[gP,iM,ae]at h1;rw[h1,nN];congr 2;have e1:(a.set k (Ap ze B f m j o z y)).getD k []=Ap ze B f m j o z y:=by rw[gqq,jH (by omega)];rfl
           rw[e1,jK,iA,gL];unfold Ap BA;have hz:ze=List.replicate 6 0:=rfl
           rw[hz,lP,im,lP,mT,List.drop_replicate,ae,List.length_replicate,show nx-6=0 by omega,iw,ia])
          have hA4:=C.arrK;have bo:=qh D;have bp:=qh C.1;have bH:=(C.lt (g:=G) rfl);have ac:=C.noU aw;have b8:(k:Int)<n:=by omega
          have bK:X≠G:=by omega
          clear K Z D b9 C
          go_wp2_with fail
          refine W.out.mono ?_;rintro e w5 ⟨rfl,rfl⟩;clear W
          go_upto_region 11 with(refine C5 rfl rfl (Ah B f m j false o z y) _ (by kernel_rfl) rfl rfl rfl hA4 (by rw[aq];simp[Ah,Ab];omega) (Ag _ _ _ _ _ _ _ _) aN.out ?_;intro w5 hA5 N)
          have bG:∀ v∈(a.set k (Ap ze B f m j o z y)).flatten,∀ i,v ≠ .int .u64 i:=fun v hv=>by
           obtain⟨r,hr,hu⟩:=ld.1 hv;rcases iT hr with h|h
           · exact aw r h v hu
           · rw[h]at hu;exact Bo v hu
          have bC:w.heap.size<=G:=by have:=M.size;omega
          have aG:=I.grownR N bC;have aE:=Q.grownR N (kZ hG);have aL:=af.ext aG;have yy:w5.cell? ⟨X,1,none⟩=some (.slice ax nx cx):=by rw[jT (w:=w4) (N.block X (iP w4 ⟨X,1,none⟩ y1) (by simp;omega)),y1]
          have ak:Hid (∀ i,i<k->F8 E (ts.getD i tm0)/\BV w5 (a.getD i []) (DK (ts.getD i tm0))):=qh fun i d=>⟨(aj.out i d).1,(aj.out i d).2.keptU ac N⟩;have bd:=aA.keptU ac N;have bf:=aB.keptU ac N;have aH:=B7 _ bb;rw[oh,az]at aH;clear y1 z0 z1 z2 z3 hA4 ac N aj aA aB T ab Q I aN aq
          go_still_tail 7,(by kernel_rfl)
          change wpList _ _ _ _ _ w5.drew;have hA6:Arr w5.drew G 92 (a.set k (Ap ze B f m j o z y)).flatten:=hA5;have V:=(Ext.refl w5).drew;have bj:=aL.ext V;have bh:=aE.trans V;have aM:Hid (∀ i,i<k->F8 E (ts.getD i tm0)/\BV w5.drew (a.getD i []) (DK (ts.getD i tm0))):=qh fun i d=>⟨(ak.out i d).1,(ak.out i d).2.ext V⟩;have bD:=bd.ext V;have bE:=bf.ext V;clear hA5 aL aE aG ak bd bf V yy;generalize w5.drew=w6 at *
          have b2:=hA6.noU bG
          go_wp2_with(refine Ks (sT:=24) rfl rfl underlying24 Eg rfl rfl hA6 bj bz (by rw[aH];omega) (EN _) ?_;intro w7 hA7 au;rw[bl.out]at hA7)
          go_roundw
          case rel =>
           have bB:∀ r∈a.set k (Ap (BA P) B f m j o z y),r.length=10:=fun r hr=>by
            rcases iT hr with h|h
            · exact bp.out r h
            · rw[h,B8,Dw (by omega)]
           refine⟨k+1,a.set k (Ap (BA P) B f m j o z y),by go_num,by omega,bh.grownR au (kZ hG),hA7.ownK bB (by rw[oh];exact az) (kZ hG) (by unfold maxLen;omega),?_,qh fun i d => ?_,qh fun i h1 h2 => ?_⟩
           · intro r hr u hu;rcases iT hr with h|h
             · exact aw r h u hu
             · rw[h]at hu;exact Bo u hu
           · by_cases bw:i=k
             · subst bw;rw[aR.out];refine⟨bm.out,?_⟩;rw[bn.out,gqq,jH (by omega)];exact BV.keptU ⟨B,f,m,j,o,z,y,rfl,Dw (by show P.length<=6;omega),B,f,m,j,o,z,y,rfl,aQ,bD,bE⟩ b2 au
             · rw[gqq (l:=a.set _ _),List.getElem?_set_ne (by omega),<-gqq];exact⟨(aM.out i (by omega)).1,(aM.out i (by omega)).2.keptU b2 au⟩
           · rw[gqq (l:=a.set _ _),List.getElem?_set_ne (by omega),<-gqq];exact HZ.out i (by omega) h2
          case measure=>simp[intOf];omega
       · have a0:Hid (¬ ∀ t∈ts,F8 E t):=qh (fun h=>D (by have:=(h _ F.out).2.1;rw[<-ae];exact this));have bi:((nx:Int) != (E:Int))=true:=by simpa using D
         clear K D
         go_wp2_with(refine Aa (vs:=As 0 none 0 0) rfl rfl rfl rfl rfl An ab rfl (AB _ _ _ _) ?_;intro w9 L O)
         refine oM (Ar rfl An rfl rfl L) rfl ?_;exact Or.inr (Or.inl ⟨a5,a6,a0.out,none,0,0,rfl,I.grownR O (lrf _),TmO.nil _ _⟩)
    · have b8:k=n:=by omega
      subst b8
      have aD:Hid (∀ t∈ts,F8 E t):=qh (fun t ht=>by
       obtain⟨i,d,rfl⟩:=jC.1 ht;have:=(HC.out i (by rw[<-HL.out];exact d)).1;rw[gqq,oN d]at this
       exact this)
      have a1:=bq.out aD.out;have br:=qh a1
      have aW:BJ wr (some ⟨G,0,none⟩) k k (ts.map DK):=⟨a,hO.slk (by omega),by simp[HL.out],fun i d=>by
       have h1:=(HC.out i d).2;have h2:(ts.map DK).getD i ([],0)=DK (ts.getD i tm0):=by simp[HL.out,d]
       rw[h2];exact h1⟩
      have am:=(Ext.refl wr).alloc (.cells #[.slice (some ⟨G,0,none⟩) k k] 80);have aY:Mm (wr.alloc (.cells #[.slice (some ⟨G,0,none⟩) k k] 80)) (some ⟨wr.heap.size,0,none⟩) 1 1 [ts.map DK]:=by
       refine⟨[.slice (some ⟨G,0,none⟩) k k],(Ay wr wr.heap.size 80 #[.slice (some ⟨G,0,none⟩) k k] 1 rfl (lrf _) (by omega)).sl,rfl,fun i d => ?_⟩;have:i=0:=by omega
       subst this;exact⟨_,k,k,rfl,aW.ext am⟩
      have J:[ts.map DK].flatten=ts.map DK:=by simp
      have al:=qh (Lm ((hT.ext aX).ext am) aY (by omega) (by rw[J];exact a1.fits.len) (by rw[J];exact a1.pre) (by rw[J];exact a1.each));rw[J]at al;have ah:=hE.trans am;have bJ:=hR.ext ah;clear a1 aW aY hO HC HZ J
      go_wp2_with fail
      refine al.out.mono ?_;rintro e w3 ⟨bP,⟨f,m,j,rfl,aa,b0⟩,av,ap⟩;have ar:=br.out.fits.out av ap;have bL:=b0.len;have aS:=qh (Dl (vars:=E) (w0:=w0) (hT.ext M) (ah.trans aa) (b0.mono ah.size) (by omega) ar.1 ar.2.1 (by omega));have aO:=qh (And.intro av ap);clear av ap ar al
      go_wp2_with fail
      refine aS.out.mono ?_;intro e w7 hw;have hq:=Hq.q (p:=ts.map DK) hw aO.out.1 aO.out.2;obtain⟨rr,aP⟩:∃ r,Hid (resQ (E:Int) (ts.map DK)=r):=⟨_,qh rfl⟩;rw[aP.out]at hq;obtain⟨a7,n7,c7,rfl,aV,bt⟩:=hq;have bA:C2 rr.1 a7 n7 c7 = .agg #[.int .i64 rr.1,.slice a7 n7 c7]:=rfl;rw[bA];have bM:(As rr.1 a7 n7 c7).toArray=#[.int .i64 rr.1,.slice a7 n7 c7]:=rfl;have b1:=hR.ext aV;clear hw aS
      go_wp2_with(refine Aa (vs:=As rr.1 a7 n7 c7) rfl rfl rfl rfl rfl An b1 rfl (AB _ _ _ _) ?_;intro w8 bs bv)
      refine oM (Ar rfl An rfl rfl bs) rfl ?_;exact Or.inr (Or.inr ⟨a5,a6,aD.out,by rw[aP.out];exact Mu M aV bt b1 bv (lrf _)⟩)
 · have HF:Hid (∀ e w',EH w 0 [] 3 e w'->OW w vars ts e w'):=qh (fun e w' h=>Or.inl ⟨hv,h⟩);have bg:vars<0\/(¬ vars<0/\6<vars):=by omega
   clear hv ay;rcases bg with h1|⟨h1,h2⟩
   all_goals
    go_wp2_with(refine Aa (vs:=As 0 none 0 0) rfl rfl rfl rfl rfl An hR rfl (AB _ _ _ _) ?_;intro w9 L O)
    refine oM (Ar rfl An rfl rfl L) rfl ?_;exact HF.out _ _ ⟨none,0,0,rfl,M.grownR O (lrf _),TmO.nil _ _⟩
theorem Ln(g:SlI w a n c xs)(j:SlI w b m d ys) :
 Calls prog 92 #[.slice a n c,.slice b m d] w fun e F=>e = .returned (.bool (decide (xs=ys)))/\Qt w F:=by
 have L:=g.le;have E:=j.le;by_cases t:n=m
 · have x:((n:Int) != (m:Int))=false:=by simp[t]
   have y:=qh t;clear t
   go_enter func92,ntmps92
   go_wp2
   go_loopw[13] (fun i wr=>∃ k:Nat,k<=n/\i = .int .i64 k/\Qt w wr/\xs.take k=ys.take k) (fun i _=>n-(intOf i).toNat)
   case atStart=>exact⟨0,oY _,rfl,Qt.refl _,rfl⟩
   case round =>
    obtain⟨k,K,rfl,l,hp⟩:=hrel;have z:=qh hp;clear hp;have g:=g.ext l.ext;have j:=j.ext l.ext;by_cases q:k<n
    · have f:k<m:=by have:=y.out;omega
      obtain⟨G,M,rfl,o⟩:=g.at q;obtain⟨H,N,rfl,p⟩:=j.at f;have I:=o k q;have J:=p k f;clear o p;generalize r:xs.getD k 0=C at *
      generalize s:ys.getD k 0=D at *
      have A:=qh r;have B:=qh s;clear r s;go_wp2
      go_quiet (fail)
      by_cases he:(C != D)=true
      · go_wp2;go_ret;have:xs≠ys:=Ni (k:=k) (by rw[A.out,B.out];exact he);exact⟨by simp[this],l.drewN _⟩
      · have v:(C != D)=false:=by simpa using he
        go_wp2;go_roundw
        case rel=>exact⟨k+1,by omega,by go_num,l.drewN _,K8 z.out (by have:=g.len;omega) (by have:=j.len;omega) (by rw[A.out,B.out];exact v)⟩
        case measure=>simp[intOf];omega
    · go_wp2;go_ret;refine⟨?_,l⟩;have h1:=z.out;have h2:=y.out;rw[oL (by have:=g.len;omega),oL (by have:=j.len;omega)]at h1;simp[h1]
 · have x:((n:Int) != (m:Int))=true:=by simp;omega
   go_enter func92,ntmps92
   go_wp2;go_ret;refine⟨?_,Qt.refl _⟩;have:xs≠ys:=by rintro rfl;exact t (g.len.symm.trans j.len)
   simp[this]
theorem Mw(p:SlI w a n c xs)(q:SlI w b m d ys) :
 Calls prog 91 #[.agg #[.string s,.slice a n c],.agg #[.string s',.slice b m d]] w fun e r=>e = .returned (.bool (decide ((Al s,xs)=(Al s',ys))))/\Ext w r:=by
 have k:=fun(t:World) (o:Ext w t)=>qh (Ln (p.ext o) (q.ext o))
 go_enter func91,ntmps91
 go_upto_region 1 with(fail)
 refine Ch ?_;intro y i f g l;have v:=f.c 0 rfl;have x:=f.c 1 rfl;have u0:=g.c 0 rfl;have u1:=g.c 1 rfl;clear f g l;by_cases he:s.toList=s'.toList
 · go_wp2_with fail
   refine(k _ i).out.mono ?_;rintro e z ⟨rfl,j⟩;go_wp2;go_ret;rw[jb,jb]at he;exact⟨by unfold Al;simp[he],i.trans j.ext⟩
 · go_wp2_with fail
   go_ret;rw[jb,jb]at he;exact⟨by unfold Al;simp[he],i⟩
theorem NM{xs ys:List Tx}(hp:xs.take k=ys.take k)(h1:k<xs.length)(h2:k<ys.length)(he:xs.getD k tm0=ys.getD k tm0):xs.take (k+1)=ys.take (k+1):=by
 simp only[gqq,h1,h2,oN,pg]at he;rw[oW h1,oW h2,hp,he]
theorem GW{xs ys:List Tx}(hx:Be w a n c xs)(hy:Be w b m d ys) :
 Calls prog 90 #[.slice a n c,.slice b m d,.func (.func 91) #[] #[]] w fun e w'=>e = .returned (.bool (decide (xs=ys)))/\Ext w w':=by
 have G:=hx.len;have H:=hy.len;obtain⟨rx,hX,_,I⟩:=hx;obtain⟨ry,hY,_,J⟩:=hy;have U:=qh I;have V:=qh J;have p:=qh G;have q:=qh H;clear I J G H;have a5:=hX.le;have a4:=hY.le;by_cases S:n=m
 · have a0:((n:Int) != (m:Int))=false:=by simp[S]
   have HL:=qh S;clear S
   go_enter func90,ntmps90
   go_wp2
   go_loopw[17] (fun i wr=>∃ k:Nat,k<=n/\i = .int .i64 k/\Ext w wr/\xs.take k=ys.take k) (fun i _=>n-(intOf i).toNat)
   case atStart=>exact⟨0,oY _,rfl,Ext.refl _,rfl⟩
   case round =>
    obtain⟨k,hk,rfl,R,hp⟩:=hrel;have HP:=qh hp;clear hp;by_cases F:k<n
    · have o:k<m:=by have:=HL.out;omega
      have x:=hX.ext R;obtain⟨b1,o1,rfl,Y⟩:=x.rd (by omega);obtain⟨s1,a1,n1,c1,K,M,O⟩:=U.out k F;obtain⟨s2,a2,n2,c2,L,N,P⟩:=V.out k o;clear Y;have B:=Arr.new wr 26 (tmL ⟨#[]⟩ none 0 0)
      go_upto_region 6 with(first
       | (refine Bz rfl rfl CI rfl x F ?_;rw[K])
       | (refine Aa (vs:=tmL s1 a1 n1 c1) rfl rfl rfl rfl rfl CI B rfl (Fr _ _ _ _) ?_;intro Q r D))
      have C:Ext wr Q:=((Ext.refl wr).alloc _).grownR D (lrf _);have g:=R.trans C;have y:=hY.ext g;clear B D R C x;generalize wr.heap.size=Xg at *
      obtain⟨b2,o2,rfl,Z⟩:=y.rd (by omega);clear Z;have B:=Arr.new Q 26 (tmL ⟨#[]⟩ none 0 0)
      go_upto_region 7 with(first
       | (refine Bz rfl rfl CI rfl y o ?_;rw[L])
       | (refine Aa (vs:=tmL s2 a2 n2 c2) rfl rfl rfl rfl rfl CI B rfl (Fr _ _ _ _) ?_;intro w3 t E))
      have v:Ext Q w3:=((Ext.refl Q).alloc _).grownR E (lrf _);have j:=g.trans v;have f:=r.ext v;have a3:=r.lt;have A:=Mw (s:=s1) (s':=s2) (O.ext j) (P.ext j);rw[M,N]at A;have T:=qh A;clear A M N K L B E g v r O P y;generalize Q.heap.size=Yg at *
      have x0:w3.cell? ⟨Xg,0,none⟩=some (.string s1):=f.cell (i:=0) (by simp[tmL]);have x1:w3.cell? ⟨Xg,1,none⟩=some (.slice a1 n1 c1):=f.cell (i:=1) (by simp[tmL]);have y0:=t.c 0 rfl;have y1:=t.c 1 rfl;clear f t
      go_wp2_with fail
      refine T.out.mono ?_;rintro e w4 ⟨rfl,X⟩;have l:=j.trans X;obtain⟨W,z⟩:∃ W,decide (((xs.getD k tm0).1,(xs.getD k tm0).2)=((ys.getD k tm0).1,(ys.getD k tm0).2))=W:=⟨_,rfl⟩;rw[z];have HB:=qh z;clear z;cases W with
      | true =>
       go_wp2;go_roundw
       case rel=>exact⟨k+1,by omega,by go_num,l,NM HP.out (by have:=p.out;omega) (by have:=q.out;omega) (by have:=HB.out;exact kC this)⟩
       case measure=>simp[intOf];omega
      | false =>
       go_wp2;go_ret;have:xs≠ys:=by
        rintro rfl;have:=HB.out;simp at this
       exact⟨by simp[this],l⟩
    · go_wp2;go_ret;refine⟨?_,R⟩;have h1:=HP.out;have h2:=HL.out;rw[oL (by have:=p.out;omega),oL (by have:=q.out;omega)]at h1;simp[h1]
 · have a0:((n:Int) != (m:Int))=true:=by simp;omega
   go_enter func90,ntmps90
   go_wp2;go_ret;refine⟨?_,Ext.refl _⟩;have:xs≠ys:=by rintro rfl;exact S (p.out.symm.trans q.out)
   simp[this]
theorem NN{xs ys:List Tx}(F:AV w)(B:Be w a n c xs)(H:Be w b m d ys)(G:∀ t∈xs,t.1.length<=570) :
 Calls prog 31 #[.agg #[.int .i64 v1,.slice a n c],.agg #[.int .i64 v2,.slice b m d]] w fun e I=>e = .returned (.bool (decide (xs=ys) && decide (v1=v2) && (rdP v1 xs).isSome))/\Ext w I:=by
 have o:=fun(z:World) (p:Ext w z)=>qh (GW (B.ext p) (H.ext p));have s:=fun(z:World) (p:Ext w z)=>qh (I2 (vars:=v1) (F.ext p) (B.ext p) G);obtain⟨v,k⟩:∃ v,decide (xs=ys)=v:=⟨_,rfl⟩;obtain⟨A,l⟩:∃ A,(rdP v1 xs).isSome=A:=⟨_,rfl⟩;rw[k,l];rw[k]at o;rw[l]at s;clear k l
 go_enter func31,ntmps31
 go_upto_region 1 with(fail)
 refine Ch ?_;intro N q i j y;have C:=i.c 0 rfl;have D:=i.c 1 rfl;have u0:=j.c 0 rfl;have u1:=j.c 1 rfl;clear i j y;generalize w.heap.size=X at *
 go_wp2_with fail
 refine(o _ q).out.mono ?_;rintro e O ⟨rfl,f⟩;have g:=q.trans f;have J:=f.cell C;have K:=f.cell D;have L:=f.cell u0;have M:=f.cell u1;clear C D u0 u1 o;cases v with
 | false =>
  go_wp2_with fail
  go_ret;exact⟨by simp,g⟩
 | true =>
  by_cases r:v1=v2
  · have he:(v1 == v2)=true:=by simpa using r
    have E:=qh r;clear r
    go_wp2_with fail
    refine(s _ g).out.mono ?_;rintro e P ⟨rfl,x⟩;go_wp2;go_ret;exact⟨by simp[E.out],g.trans x⟩
  · have he:(v1 == v2)=false:=by simpa using r
    go_wp2_with fail
    go_ret;exact⟨by simp[r],g⟩
noncomputable def degP (vars:Int) (ts:List Tx):Int:=if(rdP vars ts).isSome=true/\0<ts.length then Dv (ts.getD 0 tm0).2 else -1
theorem Mx{ts:List Tx}(O:AV w)(h:Be w a n c ts)(Q:∀ t∈ts,t.1.length<=570) :
 Calls prog 33 #[.agg #[.int .i64 vars,.slice a n c]] w fun e R=>e = .returned (.int .i64 (degP vars ts))/\Ext w R:=by
 have x:=fun(S:World) (H:Ext w S)=>qh (I2 (vars:=vars) (O.ext H) (h.ext H) Q);obtain⟨r,v⟩:∃ r,degP vars ts=r:=⟨_,rfl⟩;rw[v];unfold degP at v;have d:=h.len;obtain⟨B,l⟩:∃ B,(rdP vars ts).isSome=B:=⟨_,rfl⟩;rw[l,d]at v;rw[l]at x;clear l;have A:=qh v;have T:=qh d;clear v d;have P:n<=maxLen:=by obtain⟨y,z,_⟩:=h;exact z.le
 go_enter func33,ntmps33
 go_upto_region 1 with(fail)
 refine AM ?_;intro w0 j i F;have K:=i.c 0 rfl;have L:=i.c 1 rfl;clear i F;generalize w.heap.size=X at *
 by_cases m:0<n
 · have he:((n:Int) == 0)=false:=by simp;omega
   go_wp2_with fail
   refine(x _ j).out.mono ?_;rintro e w1 ⟨rfl,k⟩;have f:=j.trans k;have Y:=k.cell K;have Z:=k.cell L;clear K L;cases B with
   | false =>
    go_wp2;go_ret;exact⟨by rw[<-A.out];simp,f⟩
   | true =>
    obtain⟨y,z,_,J⟩:=h;obtain⟨s,U,W,V,g,D,E⟩:=J 0 m;clear J;generalize ts.getD 0 tm0=tt at *
    have p:=z.ext f;obtain⟨b,o,rfl,I⟩:=p.rd m;have G:=I 0 m 1 (by omega);rw[g]at G;simp only[pw,gP,kc,jZ]at G;have q:=Ia (E.ext f);have M:=qh q;clear q I p z g D
    go_wp2_with fail
    refine M.out.mono ?_;rintro e w2 ⟨rfl,rfl⟩;go_wp2;go_ret;exact⟨by rw[<-A.out];simp[m],f⟩
 · have C:n=0:=by omega
   have he:((n:Int) == 0)=true:=by simp;omega
   have N:=qh m;clear C m
   go_wp2_with fail
   go_ret;exact⟨by rw[<-A.out];simp[N.out],j⟩
def Db(w:World)(a:Option Addr)(n c:Nat)(l:List (List UInt8)):Prop:=∃ cs,Sl w a n c cs/\l.length=n/\∀ i,i<n->∃ s,cs.getD i undef = .string s/\Al s=l.getD i []
theorem Db.ext{w b:World}{a:Option Addr}{n c:Nat}{l:List (List UInt8)}(h:Db w a n c l)(e:Ext w b):Db b a n c l:=by
 obtain⟨d,h1,h2,h3⟩:=h;exact⟨d,h1.ext e,h2,h3⟩
open Classical in
noncomputable def rdAll (l:List (List UInt8)):Option (List Rat):=if ∀ i,i<l.length->(AJ (l.getD i [])).isSome=true then some (l.map (fun t=>(AJ t).getD 0))else none
def Vx(w:World)(o:Option (List Rat))(e:Ending)(w':World):Prop:=∃ a n c,e = .returned (.tuple #[.slice a n c,.bool o.isSome])/\Ext w w'/\Ec w' a n c (o.getD [])
theorem Ec.nil(w:World):Ec w none 0 0 []:=⟨[],SlK.nil w 4,rfl,fun i a=>absurd a (by omega)⟩
theorem My{l:List (List UInt8)}(hT:AV w)(h:Db w a n c l)(hs:∀ t∈l,t.length<=570)(hn:n<=1000000) :
 Calls prog 122 #[.slice a n c] w (Vx w (rdAll l)):=by
 obtain⟨cs,hS,hl,hq⟩:=h;have HQ:=qh hq;have L:=qh hl;have HS:=qh hs;clear hq hl hs;obtain⟨r,m⟩:∃ r,rdAll l=r:=⟨_,rfl⟩;rw[m];have HR:=qh m;clear m;have p:nuR (List.replicate n (Ah false none 0 0 false none 0 0)):=fun r m u hu=>by rw[(ir.1 m).2]at hu;exact AC _ _ _ _ _ _ _ _ u hu
 go_enter func122,ntmps122
 go_upto_region 2 with(refine ED rfl rfl (by kernel_rfl) JZ rfl rfl (by omega) (by unfold maxLen;omega) ?_;intro w1 P N)
 go_wp2
 go_loopw[14] (fun iv wr=>∃ (k:Nat) (K:List (List Value)),iv = .int .i64 k/\k<=n/\Ext w wr/\AP wr w.heap.size 85 4 (some ⟨w.heap.size,0,none⟩) n n K/\nuR K/\Hid (∀ i,i<k->(AJ (l.getD i [])).isSome=true)/\Hid (∀ i,i<k->CU wr (K.getD i []) ((AJ (l.getD i [])).getD 0))) (fun iv _=>n-(intOf iv).toNat)
 case atStart=>exact⟨0,_,rfl,oY _,N,P,p,qh (fun i g=>absurd g (by omega)),qh (fun i g=>absurd g (by omega))⟩
 case round =>
  clear P N p;obtain⟨k,K,rfl,hk,M,hO,V,HK,HC⟩:=hrel;by_cases f:k<n
  · have Q:=hS.ext M;obtain⟨b,a9,rfl,S⟩:=Q.rd (by omega);obtain⟨s,T,D⟩:=HQ.out k f;have c0:=S k f;rw[T]at c0;have a6:s.size<=570:=by
     rw[<-Ax,D];exact HS.out _ (by simp[L.out,f])
    have C:=J1 (hT.ext M) a6;rw[D]at C;have v:=qh C;clear C S T D Q;obtain⟨o,Z⟩:∃ o,Hid (AJ (l.getD k [])=o):=⟨_,qh rfl⟩;rw[Z.out]at v
    go_wp2_with fail
    refine v.out.mono ?_;rintro e Y ⟨aa,rfl,x,s1,E,J,G,F,I,H,rfl,W⟩;have a7:(Ah s1 E J G false F I H).toArray=#[.bool s1,.slice E J G,.bool false,.slice F I H]:=rfl;have hY:=Arr.new Y 85 (Ah false none 0 0 false none 0 0)
    go_upto_region 6 with(refine Aa (vs:=Ah s1 E J G false F I H) rfl rfl rfl rfl rfl Af hY rfl (Ag _ _ _ _ _ _ _ _) ?_;intro w3 j U)
    have y:Ext Y w3:=((Ext.refl Y).alloc _).grownR U (lrf _);have d:=x.trans y;have O:=M.trans d;have z:=hO.ext d;have R:=z.noU V;have a3:=qh (z.len (by omega));have a0:Hid (∀ i,i<k->CU w3 (K.getD i []) ((AJ (l.getD i [])).getD 0)):=qh fun i g=>(HC.out i g).ext d;have a2:Hid (CU w3 (Ah s1 E J G false F I H) (o.getD 0)):=qh (CU.ext ⟨s1,E,J,G,F,I,H,rfl,W⟩ y);have a8:w.heap.size<Y.heap.size:=((hO.ext x).lt rfl).2;clear hY U hO M x y d W HC v c0;generalize Y.heap.size=X at *
    have x0:=j.c 0 rfl;have x1:=j.c 1 rfl;have x2:=j.c 2 rfl;have x3:=j.c 3 rfl;cases o with
    | none =>
     go_wp2
     go_ret2
     have:r=none:=by
      rw[<-HR.out];unfold rdAll;rw[pf];intro h;have:=h k (by rw[L.out];exact f);rw[Z.out]at this;simp at this
     rw[this];exact⟨none,0,0,rfl,O,Ec.nil _⟩
    | some q =>
     go_wp2_with(refine Hk (vs:=Ah s1 E J G false F I H) rfl rfl (by omega) Af rfl rfl rfl z f rfl (Ag _ _ _ _ _ _ _ _) ?_;intro w4 a4 A)
     go_roundw
     case rel =>
      refine⟨k+1,_,by go_num,by omega,O.grownR A (lrf _),a4,?_,qh fun i g => ?_,qh fun i g => ?_⟩
      · intro r m;rcases iT m with h|rfl
        · exact V r h
        · exact AC _ _ _ _ _ _ _ _
      · by_cases B:i=k
        · subst B;rw[Z.out];rfl
        · exact HK.out i (by omega)
      · by_cases B:i=k
        · subst B;rw[Z.out,gqq,jH (by rw[a3.out];exact f)];exact a2.out.keptU R A
        · rw[gqq,List.getElem?_set_ne (by omega),<-gqq];exact(a0.out i (by omega)).keptU R A
     case measure=>simp[intOf];omega
  · have a5:k=n:=by omega
    subst a5;go_wp2
    go_ret2
    have m:r=some (l.map (fun t=>(AJ t).getD 0)):=by
     rw[<-HR.out];unfold rdAll;rw[pq];intro i g;exact HK.out i (by rw[<-L.out];exact g)
    rw[m];refine⟨_,_,_,rfl,M,K,hO.slk (by omega),by simp[L.out],fun i g => ?_⟩;have:=HC.out i g;simpa[L.out,g]using this
end Go.Proofs.YtlbmnokpiilfpaaGreatDoor
namespace Go.Proofs.YtlbmnokpiilfpaaGreatDoor.Pl
variable {d e g:Nat} {x:Rat}
theorem OX(a b c:Rat):a*(b*c)=b*(a*c):=by rw[<-iB,kY a b,iB]
def grt(l:List Tm)(v:Nat):Nat:=l.foldl (fun a t=>max a (t.1.getD v 0).toNat) 0
theorem Kw(v:Nat):∀ (l:List Tm) (a:Nat),a<=l.foldl (fun a t=>max a (t.1.getD v 0).toNat) a/\∀ t∈l,(t.1.getD v 0).toNat<=l.foldl (fun a t=>max a (t.1.getD v 0).toNat) a
 | [],a=>⟨lrf _,by simp⟩
 | t :: r,a=>by
  have h:=Kw v r (max a (t.1.getD v 0).toNat);refine⟨oS (Nat.le_max_left _ _) h.1,fun s b => ?_⟩;rcases gV.1 b with rfl|b
  · exact oS (Nat.le_max_right _ _) h.1
  · exact h.2 s b
theorem le_grt{l:List Tm}{t:Tm}(v:Nat)(h:t∈l):(t.1.getD v 0).toNat<=grt l v:=(Kw v l 0).2 t h
theorem grt_take(l:List Tm)(v k:Nat)(a:k<l.length):grt (l.take (k+1)) v=max (grt (l.take k) v) ((l.getD k ([],0)).1.getD v 0).toNat:=by
 unfold grt;rw[oW a,kU];simp[a]
def pwz(x:Rat)(g e:Nat):Int:=x.num^e*(x.den:Int)^(g-e)
theorem EQ(z:Int):∀ e:Nat,((z^e:Int):Rat)=(z:Rat)^e
 | 0=>by rw[Int.pow_zero,lX];rfl
 | e+1=>by rw[Int.pow_succ,lm,oH,EQ z e]
theorem Rn(a b:Rat):∀ e:Nat,(a*b)^e=a^e*b^e
 | 0=>by simp[lX]
 | e+1=>by rw[lm,lm,lm,Rn a b e];simp only[iB,kY,OX]
theorem Ro(a:Rat)(i:Nat):∀ j:Nat,a^(i+j)=a^i*a^j
 | 0=>by simp[lX]
 | j+1=>by rw[<-jk,lm,lm,Ro a i j,iB]
theorem UI(h:e<=g):((pwz x g e:Int):Rat)=x^e*(x.den:Rat)^g:=by
 unfold pwz;rw[oH,EQ,EQ,<-q_den x,Rn,Rat.intCast_natCast,iB,<-Ro,Nat.add_sub_cancel' h]
def valE(pt:List Rat)(es:List Int):Nat->Rat
 | 0=>1
 | k+1=>valE pt es k*(pt.getD k 0)^(es.getD k 0).toNat
def evq(pt:List Rat)(l:List Tm):Rat:=l.foldr (fun t a=>t.2*valE pt t.1 pt.length+a) 0
def zev(d:Nat)(g:Nat->Nat)(pt:List Rat)(t:Tm):Nat->Int
 | 0=>zsc t.2 d
 | k+1=>zev d g pt t k*pwz (pt.getD k 0) (g k) (t.1.getD k 0).toNat
def dev(d:Nat)(g:Nat->Nat)(pt:List Rat):Nat->Nat
 | 0=>d
 | k+1=>dev d g pt k*(pt.getD k 0).den^(g k)
theorem Ht(z:Nat):∀ e:Nat,((z^e:Nat):Rat)=(z:Rat)^e
 | 0=>by rw[jE,lX];rfl
 | e+1=>by rw[gG,lm,kl,Ht z e]
theorem Rp{d:Nat}{g:Nat->Nat}{pt:List Rat}{t:Tm}(a:t.2.den∣d):∀ k,(∀ v,v<k->(t.1.getD v 0).toNat<=g v)->((zev d g pt t k:Int):Rat)=t.2*valE pt t.1 k*(dev d g pt k:Rat)
 | 0,_=>by
  unfold zev valE dev;rw[NE a,kO]
 | k+1,h=>by
  unfold zev valE dev;rw[oH,Rp a k (fun v b=>h v (by omega)),UI (h k (by omega)),kl,Ht];simp only[iB,kY,OX]
theorem dev_ne{d:Nat}{g:Nat->Nat}{pt:List Rat}(a:d≠0):∀ k,dev d g pt k≠0
 | 0=>a
 | k+1=>mW (dev_ne a k) (Nat.ne_of_gt (jx (pt.getD k 0).den_pos))
def zsum(f:Tm->Int)(l:List Tm):Int:=l.foldl (fun a t=>a+f t) 0
theorem zsum_foldl(f:Tm->Int):∀ (l:List Tm) (a:Int),l.foldl (fun a t=>a+f t) a=a+l.foldr (fun t a=>f t+a) 0
 | [],a=>by simp
 | t :: r,a=>by rw[kT,zsum_foldl f r,mZ];omega
theorem zsum_take(f:Tm->Int)(l:List Tm)(k:Nat)(a:k<l.length):zsum f (l.take (k+1))=zsum f (l.take k)+f (l.getD k ([],0)):=by
 unfold zsum;rw[oW a,kU];simp[a]
theorem Rq{d:Nat}{g:Nat->Nat}{pt:List Rat}:∀ {l:List Tm},(∀ t∈l,t.2.den∣d/\∀ v,v<pt.length->(t.1.getD v 0).toNat<=g v)->((l.foldr (fun t a=>zev d g pt t pt.length+a) 0:Int):Rat)=evq pt l*(dev d g pt pt.length:Rat)
 | [],_=>by simp[evq]
 | t :: r,h=>by
  have ih:=Rq (l:=r) (fun s c=>h s (by simp[c]));have b:=h t (by simp);unfold evq at ih |-;rw[mZ,mZ,oc,ih,Rp b.1 _ b.2,Rat.add_mul]
theorem ev_done{pt:List Rat}{l:List Tm}(b:d≠0)(h:∀ t∈l,t.2.den∣d) :
 mkRat (zsum (fun t=>zev d (grt l) pt t pt.length) l) (dev d (grt l) pt pt.length)=evq pt l:=by
 have h0:=dev_ne (g:=grt l) (pt:=pt) b pt.length;rw[GO];unfold zsum;rw[zsum_foldl,Int.zero_add,Rq (fun t a=>⟨h t a,fun v _=>le_grt v a⟩),iB,lM _ (by simpa using h0),kO]
end Go.Proofs.YtlbmnokpiilfpaaGreatDoor.Pl
namespace Go.Proofs.YtlbmnokpiilfpaaGreatDoor
open Tryz Go Go.RowKit
variable {f:Act} {ops:Array Oper} {va:Array Value} {s:Bool} {Q:Exit->Act->World->Prop} {z z':Int} {rest:List Oper} {c i m:Nat} {o:Oper} {x y:Operand} {a:Option Addr}
theorem Kx(w:World):I4 w (Ab false none 0 0) 0:=⟨false,none,0,0,rfl,qh rfl,Wd.nil _⟩
def CN(w:World)(base g n:Nat)(F:Nat->Int):Prop:=∃ rs,AP w base 83 2 (some ⟨g,0,none⟩) n n rs/\nuR rs/\∀ i,i<n->I4 w (rs.getD i []) (F i)
section
variable {w w':World} {base g n:Nat} {F G:Nat->Int}
theorem CN.ext(h:CN w base g n F)(e:Ext w w'):CN w' base g n F:=by
 obtain⟨b,h1,h2,h3⟩:=h;exact⟨b,h1.ext e,h2,fun i a=>(h3 i a).ext e⟩
theorem CN.congr(h:CN w base g n F)(e:∀ i,i<n->G i=F i):CN w base g n G:=by
 obtain⟨b,h1,h2,h3⟩:=h;exact⟨b,h1,h2,fun i a=>by rw[e i a];exact h3 i a⟩
theorem CN.mono{a:Nat}(h:CN w base g n F)(b:a<=base):CN w a g n F:=by
 obtain⟨c,h1,h2,h3⟩:=h;exact⟨c,h1.mono b,h2,h3⟩
theorem CN.noU(h:CN w base g n F):NoU w g:=by
 obtain⟨a,h1,h2,h3⟩:=h;exact h1.noU h2
theorem CN.lt(h:CN w base g n F):base<=g/\g<w.heap.size:=by
 obtain⟨a,h1,h2,h3⟩:=h;exact h1.lt rfl
theorem CN.kept{a:Nat}(h:CN w base g n F)(d:NoU w a)(c:w.grownBy w' (some a))(b:g≠a):CN w' base g n F:=by
 obtain⟨f,h1,h2,h3⟩:=h;exact⟨f,h1.kept c (Or.inr (by simpa[blk]using b)),h2,fun i e=>(h3 i e).keptU d c⟩
theorem CN.at(h:CN w base g n F){i:Nat}(hi:i<n):∃ s a m c,w.cell? ⟨g,i*2,none⟩=some (.bool s)/\w.cell? ⟨g,i*2+1,none⟩=some (.slice a m c)/\Hid (decide (F i<0)=s)/\Wd w a m c (F i).natAbs:=by
 obtain⟨r,h1,h2,h3⟩:=h;obtain⟨s,a,m,c,l,o,p⟩:=h3 i hi;have k:=h1.slk (by omega);obtain⟨b,q,f,j⟩:=k.rd (by omega);simp only[oQ,ic,iY]at f;obtain⟨rfl,rfl⟩:=f;have d:=j i hi 0 (by omega);have e:=j i hi 1 (by omega);rw[l]at d e;simp only[Ab,jZ,kc,gL,gP]at d e;exact⟨s,a,m,c,d,e,o,p⟩
theorem CN.made(h:AP w base 83 2 (some ⟨g,0,none⟩) n n (List.replicate n (Ab false none 0 0))):CN w base g n (fun _=>0):=by
 refine⟨_,h,fun r b u hu=>by rw[(ir.1 b).2]at hu;exact At _ _ _ _ u hu,fun i a => ?_⟩;have:(List.replicate n (Ab false none 0 0)).getD i []=Ab false none 0 0:=by simp[a]
 rw[this];exact Kx w
theorem Lp(k:o.guard=none)(B:o.op = .store 83 x y)
 (G:f.eval x = .pointer (some ⟨g,i*2,none⟩)) (H:f.eval y = .agg va) (l:va=(Ab s a m c).toArray) (h:CN w base g n F) (hi:i<n) (D:Hid (decide (z<0)=s)) (E:Wd w a m c z.natAbs)
 (q:∀ b,CN b base g n (fun j=>if j=i then z else F j)->w.grownBy b (some g)->wpList prog ops Q rest (f.put o.dst undef) b):wpList prog ops Q (o :: rest) f w:=by
 have p:=h.noU;obtain⟨I,h1,h2,h3⟩:=h;have A:=h1.len (by omega);refine Hk (vs:=Ab s a m c) k B (by omega) Ak G H l h1 hi rfl (Ad _ _ _ _) fun b t d=>q b ⟨_,t,?_,fun j v => ?_⟩ d
 · intro r C u hu;rcases iT C with h|h
   · exact h2 r h u hu
   · rw[h]at hu;exact At _ _ _ _ u hu
 · by_cases e:j=i
   · subst e;dsimp only;rw[pq rfl,gqq,jH (by rw[A];exact hi)];exact I4.keptU ⟨s,a,m,c,rfl,D,E⟩ p d
   · dsimp only;rw[pf e,gqq,List.getElem?_set_ne (by omega),<-gqq];exact(h3 j v).keptU p d
def EI(w:World)(g:Nat)(z:Int):Prop:=∃ row,Arr w g 83 row/\I4 w row z
theorem EI.ext{z:Int}(h:EI w g z)(e:Ext w w'):EI w' g z:=by
 obtain⟨a,h1,h2⟩:=h;exact⟨a,h1.ext e,h2.ext e⟩
theorem EI.lt{z:Int}(h:EI w g z):g<w.heap.size:=by
 obtain⟨a,h1,h2⟩:=h;exact h1.lt
theorem EI.noU{z:Int}(h:EI w g z):NoU w g:=by
 obtain⟨b,h1,s,a,m,c,rfl,h2⟩:=h;exact h1.noU (At _ _ _ _)
theorem EI.kept{z:Int}{a:Nat}(h:EI w g z)(e:NoU w a)(d:w.grownBy w' (some a))(b:g≠a):EI w' g z:=by
 obtain⟨c,h1,h2⟩:=h;exact⟨c,h1.kept d (by simpa using b),h2.keptU e d⟩
theorem EI.at(h:EI w g z):∃ s a m c,w.cell? ⟨g,0,none⟩=some (.bool s)/\w.cell? ⟨g,1,none⟩=some (.slice a m c)/\Hid (decide (z<0)=s)/\Wd w a m c z.natAbs:=by
 obtain⟨e,h1,s,a,m,c,rfl,b,d⟩:=h;exact⟨s,a,m,c,h1.cell (i:=0) (by simp[Ab]),h1.cell (i:=1) (by simp[Ab]),b,d⟩
theorem OY(d:o.guard=none)(n:o.op = .store 83 x y)
 (r:f.eval x = .pointer (some ⟨g,0,none⟩)) (t:f.eval y = .agg va) (e:va=(Ab s a m c).toArray) (h:EI w g z') (p:Hid (decide (z<0)=s)) (q:Wd w a m c z.natAbs)
 (j:∀ b,EI b g z->w.grownBy b (some g)->wpList prog ops Q rest (f.put o.dst undef) b):wpList prog ops Q (o :: rest) f w:=by
 have l:=h.noU;obtain⟨v,h1,D,A,C,B,rfl,_⟩:=h;exact Aa (vs:=Ab s a m c) d n r t e Ak h1 rfl (Ad _ _ _ _) fun b k i=>j b ⟨_,k,I4.keptU ⟨s,a,m,c,rfl,p,q⟩ l i⟩ i
theorem EI.new(w:World):EI (w.alloc (.cells (Ab false none 0 0).toArray 83)) w.heap.size 0:=⟨_,Arr.new w _ _,Kx _⟩
end
end Go.Proofs.YtlbmnokpiilfpaaGreatDoor
