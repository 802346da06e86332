/- Part Pq20. -/
import Derived.Test.YtlbmnokpiilfpaaGreatDoorPq19

set_option linter.all false
set_option maxRecDepth 100000
set_option maxHeartbeats 100000000
namespace Go.Proofs.YtlbmnokpiilfpaaGreatDoor
open Tryz Go Go.RowKit
def jz:=@Option.isSome_none
def lN:=@List.pairwise_singleton
variable {B i va vars vb:Int} {rows:List (List Value)} {e l:List Int} {cs:List Value} {R b base c d k m n:Nat} {a:Option Addr} {cons:Option Nat} {t:TypeId} {w w' w0:World}
structure Cj(p:List Pl.Tm):Prop where
 atE:∀ e,Pl.coef p e≠0->Ek (Pl.coef p e)/\e.length=6/\∀ x∈e,0<=x/\x<=1099511627776
 len:p.length<=1000000
theorem Kj{out p:List Pl.Tm}(b:Pl.Nrm out)(a:∀ e,Pl.coef out e=Pl.coef p e){t:Pl.Tm}(c:t∈out):Pl.coef p t.1=t.2:=by rw[<-a];exact Pl.coef_mem b.nodup c
theorem Cj.out{out p:List Pl.Tm}(h:Cj p)(c:Pl.Nrm out)(d:∀ e,Pl.coef out e=Pl.coef p e):Bp out/\(∀ t∈out,Ek t.2)/\out.length<=1000000:=by
 have b:∀ t∈out,Pl.coef p t.1≠0:=fun t a=>by rw[Kj c d a];exact c.nz t a
 refine⟨fun t a=>(h.atE t.1 (b t a)).2,fun t a => ?_,?_⟩
 · have:=(h.atE t.1 (b t a)).1;rw[Kj c d a]at this;exact this
 · refine gJ ?_ h.len
   have h1:=Pl.nodup_le (out.map (·.1)) (p.map (·.1)) c.nodup (fun e he=>by
    obtain⟨t,a,rfl⟩:=ie.1 he;obtain⟨s,f,e⟩:=Pl.coef_present (b t a);rw[<-e]
    exact jk f)
   simpa using h1
def Xa(w:World)(va vb:Int)(oa ob:Option (List Pl.Tm))(e:Ending)(w':World):Prop :=
 ∃ a n c b m d err,e = .returned (.tuple #[.slice a n c,.slice b m d,.int .i64 err])/\Ext w w'/\((∃ la lb,oa=some la/\ob=some lb/\va=vb/\err=0/\Bn w' a n c la/\Bn w' b m d lb)\/((oa.isSome && ob.isSome)=true/\va≠vb/\err=4)\/((oa.isSome && ob.isSome)=false/\err=1))
theorem Fd{b:Option Addr}{C D:List Tx}(H:AM w)(I:AH w a n c C)(J:AH w b m d D)(sa:∀ t∈C,t.1.length<=570)(sb:∀ t∈D,t.1.length<=570) :
 Calls prog 80 #[.agg #[.int .i64 va,.slice a n c],.agg #[.int .i64 vb,.slice b m d]] w (Xa w va vb (rdP va C) (rdP vb D)):=by
 have z:=fun(G:World) (s:Ext w G)=>qh (Db (vars:=va) (H.ext s) (I.ext s) sa);have A:=fun(G:World) (s:Ext w G)=>qh (Db (vars:=vb) (H.ext s) (J.ext s) sb);obtain⟨R,x⟩:∃ o,rdP va C=o:=⟨_,rfl⟩;obtain⟨S,y⟩:∃ o,rdP vb D=o:=⟨_,rfl⟩;rw[x]at z |-;rw[y]at A |-;clear x y sa sb I J
 go_enter func80,ntmps80
 go_upto_region 1 with(fail)
 refine Cf ?_;intro U r p q F;have k:=p.c 0 rfl;have T:=p.c 1 rfl;have l:=q.c 0 rfl;have B:=q.c 1 rfl;clear p q F
 go_wp2_with fail
 refine(z _ r).out.mono ?_;rintro e V ⟨K,P,M,rfl,f,j⟩;have k:=f.cell k;have l:=f.cell l;have B:=f.cell B
 go_wp2_with fail
 refine(A _ (r.trans f)).out.mono ?_;rintro e W ⟨L,Q,N,rfl,g,v⟩;have k:=g.cell k;have l:=g.cell l;have i:=(r.trans f).trans g;have j:=j.ext g;cases R with
 | none =>
  simp only[jz];go_wp2
  go_ret3
  exact⟨none,0,0,none,0,0,1,rfl,i,Or.inr (Or.inr ⟨rfl,rfl⟩)⟩
 | some la =>
  cases S with
  | none =>
   simp only[jz,jr];go_wp2
   go_ret3
   exact⟨none,0,0,none,0,0,1,rfl,i,Or.inr (Or.inr ⟨rfl,rfl⟩)⟩
  | some lb =>
   simp only[jr,gP]at j v |-;by_cases E:va=vb
   · subst E;go_wp2
     go_ret3
     exact⟨K,P,M,L,Q,N,0,rfl,i,Or.inl ⟨la,lb,rfl,rfl,rfl,rfl,j,v⟩⟩
   · have O:(va != vb)=true:=by simpa using E
     go_wp2
     go_ret3
     exact⟨none,0,0,none,0,0,4,rfl,i,Or.inr (Or.inl ⟨rfl,E,rfl⟩)⟩
theorem Oz{e:TypeId}{p:Nat}(h:AR w b e k a n c rows)(f:Arr w p t cs)(o:t≠e):blk a≠some p:=by
 rcases h.2.2 with⟨d,_⟩|⟨g,j,l,d,_,m,_⟩
 · simp only[gW]at d;rw[d.1];simp[blk]
 · simp only[gW]at d;rw[d.1];intro he;have i:g=p:=by simpa[blk]using he
   subst i;unfold Arr at f;rw[m]at f;simp only[gK,kz]at f;exact o f.2.1.symm
theorem TmO.keptA{ts:List Tx}(h:TmO w base a n c ts)(e:Arr w R 28 cs)(f:w.grownBy w' (some R)):TmO w' base a n c ts:=by
 obtain⟨b,h1,h2,h3⟩:=h;refine⟨b,h1.kept f (Or.inr (Oz h1 e (by decide))),h2,fun i m => ?_⟩;obtain⟨s,g,o,j,k,l,d⟩:=h3 i m;exact⟨s,g,o,j,k,l,d.kept f (Or.inr (FE d e (by decide)))⟩
def I7(w0:World)(p:List Pl.Tm)(v:Value)(w:World):Prop:=∃ a n c out,v = .slice a n c/\C1 w w0.heap.size a n c out/\Pl.Nrm out/\∀ e,Pl.coef out e=Pl.coef p e
theorem I7.x(w0:World)(p:List Pl.Tm):StX (I7 w0 p):=fun _ _ _ x ⟨a,n,c,b,h1,h2,h3⟩=>⟨a,n,c,b,h1,h2.ext x,h3⟩
theorem Kk(t:Pl.Tm)(h6:t.1.length=6):∀ (l:List Pl.Tm),(∀ s∈l,s.1.length=6)->Pl.desc l->∃ a,a.Perm (t :: l)/\Pl.desc a
 | [],_,_=>⟨[t],mN _,lN _ _⟩
 | s :: r,hl,hd=>by
  have hd2:=j9.1 hd;by_cases h:0<=Pl.ordE t.1 s.1
  · refine⟨t :: s :: r,mN _,j9.2 ⟨fun u hu => ?_,hd⟩⟩;rcases iE.1 hu with rfl|hu
    · exact h
    · have h1:=hd2.1 u hu;by_cases h2:Pl.ordE t.1 s.1=0
      · rw[Pl.ordE_eq (by rw[h6,hl s (by simp)]) h2];exact h1
      · by_cases h3:Pl.ordE s.1 u.1=0
        · rw[<-Pl.ordE_eq (by rw[hl s (by simp),hl u (by simp[hu])]) h3];exact h
        · exact mz (Pl.ordE_trans (b:=s.1) (by omega) (by omega))
  · obtain⟨a,h1,h2⟩:=Kk t h6 r (fun u hu=>hl u (by simp[hu])) hd2.2;refine⟨s :: a,(List.Perm.cons s h1).trans (List.Perm.swap t s r),j9.2 ⟨fun u hu => ?_,h2⟩⟩;rcases iE.1 (h1.mem_iff.1 hu)with rfl|hu
    · have:=Pl.ordE_anti s.1 u.1;omega
    · exact hd2.1 u hu
theorem Im:∀ (l:List Pl.Tm),(∀ s∈l,s.1.length=6)->∃ b,b.Perm l/\Pl.desc b
 | [],_=>⟨[],mN _,List.Pairwise.nil⟩
 | t :: r,h=>by
  obtain⟨l1,h1,h2⟩:=Im r (fun s a=>h s (by simp[a]));obtain⟨c,h3,h4⟩:=Kk t (h t (by simp)) l1 (fun s a=>h s (by simp[h1.mem_iff.1 a])) h2;exact⟨c,h3.trans (List.Perm.cons t h1),h4⟩
noncomputable def cnP (p:List Pl.Tm):List Pl.Tm:=Classical.epsilon (fun l=>Pl.Canon 6 l/\∀ e,Pl.coef l e=Pl.coef p e)
theorem P4{p l:List Pl.Tm}(h:Pl.Canon 6 l)(a:∀ e,Pl.coef l e=Pl.coef p e):cnP p=l:=by
 have h1:Pl.Canon 6 (cnP p)/\∀ e,Pl.coef (cnP p) e=Pl.coef p e:=lT (p:=fun l=>Pl.Canon 6 l/\∀ e,Pl.coef l e=Pl.coef p e) ⟨l,h,a⟩;exact Pl.canon_ext h1.1 h (fun e=>by rw[h1.2,a])
theorem Fe{p out l:List Pl.Tm}(d:Pl.Nrm out)(b:∀ e,Pl.coef out e=Pl.coef p e)(hp:l.Perm out)(c:Pl.desc l):cnP p=l:=by
 have a:=d.perm hp.symm;exact P4 (Pl.canon_of_sorted a.len a.nz c a.nodup) (fun e=>by rw[Pl.coef_perm hp,b])
open Classical in
noncomputable def resQ (vars:Int) (p:List Pl.Tm):Int×List Tx×Int:=if okW (cnP p)then(vars,wrT vars.toNat (cnP p),0)else(0,[],2)
def Cd(w:World)(r:Int×List Tx×Int)(e:Ending)(w':World):Prop:=Cl w r.1 r.2.1 r.2.2 e w'
theorem Fw.q{vars:Nat}{out p:List Pl.Tm}{e:Ending}(h:Fw w0 vars out e w')(b:Pl.Nrm out)(c:∀ e,Pl.coef out e=Pl.coef p e):Cd w0 (resQ vars p) e w':=by
 obtain⟨l,h1,h2⟩:=h;unfold resQ Cd;rcases h2 with⟨d,a,g⟩|⟨a,g⟩
 · rw[Fe b c h1 d,gY a];exact g
 · have f:¬ okW (cnP p):=by
    rcases a with a|⟨d,a⟩
    · obtain⟨i,h3,h4⟩:=Im out b.len;rw[Fe b c h3 h4];intro h5;have:=h5.1;rw[h3.length_eq]at this;omega
    · rw[Fe b c h1 d];exact a
   rw[gT f];exact g
section
variable {P:Program} {ops:Array Oper} {hs:List Hd} {a0:Act} {C:World->Prop} {i:Nat} {o:Oper}
theorem EG{p:Value->World->Prop}(k:Cr hs o=some true)
 (h:∀ b w,DE b->C w->Cq ops hs a0 o b w o.op.operands.toList->∃ f a,(execOp b o).run P w = .ok (.enter f a) w/\Calls P f a w (fun e c=>∃ u,e = .returned u/\C c/\Gk ops hs i o w c (List.range hs.length)/\p u c)) :
 obl P C ops hs a0 i o ⟨true,.pr p,cons⟩:=by
 unfold obl;rw[k];intro b w hp d l;obtain⟨f,a,j,g⟩:=h b w hp d l;rw[j];exact g
end
def NPE(w0:World)(r:Int×List Tx×Int)(v:Value)(w:World):Prop:=∃ a n c,v = .tuple #[BS r.1 a n c,.int .i64 r.2.2]/\TmO w w0.heap.size a n c r.2.1
theorem NPE.x(w0:World)(r:Int×List Tx×Int):StX (NPE w0 r):=fun _ _ _ x ⟨a,n,c,h1,h2⟩=>⟨a,n,c,h1,h2.ext x⟩
def NPo(w0:World)(r:Int×List Tx×Int)(v:Value)(w:World):Prop:=∃ a n c,v=BS r.1 a n c/\TmO w w0.heap.size a n c r.2.1
theorem NPo.x(w0:World)(r:Int×List Tx×Int):StX (NPo w0 r):=fun _ _ _ x ⟨a,n,c,h1,h2⟩=>⟨a,n,c,h1,h2.ext x⟩
theorem Kl{a:List Tx}{la:List Pl.Tm}(h:rdP va a=some la):0<=va/\va<=6:=by
 unfold rdP at h;split at h
 · unfold rdWF at h;split at h
   · rename_i h1;exact⟨h1.1,h1.2.1⟩
   · cases h
 · cases h
def P5(w:World)(va vb:Int)(oa ob:Option (List Pl.Tm))(e:Ending)(w':World):Prop :=
 (∃ la lb,oa=some la/\ob=some lb/\va=vb/\((¬ (la≠[]/\lb≠[]/\24<Bu la+Bu lb)/\Cd w (resQ va (Pl.prodT la lb)) e w')\/((la≠[]/\lb≠[]/\24<Bu la+Bu lb)/\Cl w 0 [] 2 e w'))) \/
 ((oa.isSome && ob.isSome)=true/\va≠vb/\Cl w 0 [] 4 e w')\/((oa.isSome && ob.isSome)=false/\Cl w 0 [] 1 e w')
structure CF(la lb:List Pl.Tm):Prop where
 pc:∀ {A B:Option Addr} {N C M D:Nat} {w:World},AM w->Bn w A N C la->Bn w B M D lb ->
  Calls prog 82 #[.slice A N C,.slice B M D] w (fun e w'=>∃ out,J4 w out e w'/\Pl.Nrm out/\∀ e,Pl.coef out e=Pl.coef (Pl.prodT la lb) e)
 ea:Bp la
 eb:Bp lb
 na:la.length<=1000000
 nb:lb.length<=1000000
 fits:Cj (Pl.prodT la lb)
theorem Dg(a b:List Pl.Tm):(Pl.prodT a b).length=a.length*b.length:=by
 unfold Pl.prodT
 induction a with
 | nil=>simp
 | cons t r ih=>rw[lF,iD,ih];simp[iW];omega
theorem CF.of{la lb:List Pl.Tm}(k:∀ t∈la,Pl.RB 1000 t.2)(l:∀ t∈lb,Pl.RB 1000 t.2)(f:Bp la)(g:Bp lb)(d:Bk (la.map (·.2))<P2 256)(e:Bk (lb.map (·.2))<P2 256)
 (i:la.length<=1000000) (j:lb.length<=1000000) (a:Cj (Pl.prodT la lb)):CF la lb :=
 ⟨fun m b c=>GY m b c k l f g (by rw[<-b.len];exact i) (by rw[<-c.len];exact j) (by rw[<-b.len,<-c.len,<-Dg];exact a.len) d e,f,g,i,j,a⟩
theorem OA{b:Option Addr}{ta tb:List Tx}(hT:AM w)(ha:AH w a n c ta)(hb:AH w b m d tb)(sa:∀ t∈ta,t.1.length<=570)(sb:∀ t∈tb,t.1.length<=570)
 (a5:∀ l C,rdP va ta=some l->rdP vb tb=some C->va=vb->CF l C) :
 Calls prog 20 #[.agg #[.int .i64 va,.slice a n c],.agg #[.int .i64 vb,.slice b m d]] w (P5 w va vb (rdP va ta) (rdP vb tb)):=by
 have a6:=fun(f:World) (g:Ext w f)=>qh (Fd (va:=va) (vb:=vb) (hT.ext g) (ha.ext g) (hb.ext g) sa sb);have am:∀ l,rdP va ta=some l->0<=va/\va<=6:=fun l h=>Kl h;obtain⟨oa,aB⟩:∃ o,rdP va ta=o:=⟨_,rfl⟩;obtain⟨ob,aC⟩:∃ o,rdP vb tb=o:=⟨_,rfl⟩;rw[aB]at a6 a5 am |-;rw[aC]at a6 a5 |-;have ar:=qh a5;clear aB aC sa sb ha hb a5
 go_enter func20,ntmps20
 go_upto_region 1 with(fail)
 refine CO ?_;intro w0 af ac ad au aJ;have a8:=ac.c 0 rfl;have aL:=ac.c 1 rfl;have aM:=ad.c 0 rfl;have aN:=ad.c 1 rfl;have hR:Arr w0 (w.heap.size+2) 28 (Ah 0 none 0 0):=au;have aU:(Ah 0 none 0 0).toArray=#[.int .i64 0,.slice none 0 0]:=rfl;clear ac ad au aJ
 go_wp2_with fail
 refine(a6 _ af).out.mono ?_;rintro e D ⟨a1,K,c1,b1,M,d1,aR,rfl,Z,aD⟩;have i:=af.trans Z;have H:=hR.ext Z;have a8:=Z.cell a8;have aV:=af.size;clear a6 aL aM aN;rcases aD with⟨l,C,rfl,rfl,hv,rfl,a0,a2⟩|⟨hs,hv,rfl⟩|⟨hs,rfl⟩
 · have hM:=ar.out l C rfl rfl hv;have aW:=am l rfl;have ak:=a0.len;have aj:=a2.len;have aQ:=qh (And.intro ak aj);have HM:=qh hM;clear ar am;obtain⟨Y,rfl⟩:∃ k:Nat,va=(k:Int):=⟨va.toNat,by omega⟩;have HV:=qh hv;clear hv;have A:=fun(f:World) (g:Ext D f)=>qh (HM.out.pc ((hT.ext i).ext g) (a0.ext g) (a2.ext g));have az:=fun(f:World) (g:Ext D f)=>qh (FG (a0.ext g) HM.out.ea);have aA:=fun(f:World) (g:Ext D f)=>qh (FG (a2.ext g) HM.out.eb);have aO:=FF hM.ea;have aP:=FF hM.eb
   have a4:K=0<->l=[]:=by rw[<-ak];exact List.length_eq_zero_iff
   have a3:M=0<->C=[]:=by rw[<-aj];exact List.length_eq_zero_iff
   clear hM;have aT:K<=1000000:=by have:=HM.out.na;omega
   have aS:M<=1000000:=by have:=HM.out.nb;omega
   clear ak aj;by_cases h0:K=0\/M=0
   · have a9:Hid (¬ (l≠[]/\C≠[]/\24<Bu l+Bu C)):=qh (fun⟨x,y,_⟩=>h0.elim (fun h=>x (a4.1 h)) (fun h=>y (a3.1 h)));have aE:(K=0)\/(0<K/\M=0):=by omega
     clear h0 a4 a3;rcases aE with h0|⟨h0,aF⟩
     case' inl =>
      have aw:¬ ((0:Int)<(K:Int)):=by omega
      clear h0;go_wp2
     case' inr =>
      have aw:(0:Int)<(K:Int):=by omega
      have aG:¬ ((0:Int)<(M:Int)):=by omega
      clear h0 aF;go_wp2
     all_goals
      obtain⟨B,N⟩:∃ r,Hid (resQ (Y:Int) (Pl.prodT l C)=r):=⟨_,qh rfl⟩
      refine Ab (by kernel_rfl) (fun f=>Ext D f)
       [he (.pointer (some ⟨w.heap.size,0,none⟩)),
 he (.int .i64 (Y:Int)),
 he (.slice a1 K c1),
 he (.slice b1 M d1),
 hu 5 (fun v f=>I7 D (Pl.prodT l C) v f),
 hmp (fun v f=>NPE D B v f),
 hp (fun v f=>NPo D B v f),
 he (.int .i64 B.2.2)]
       (by kernel_rfl) (fun _ _ e h=>h.trans e) ((Ext.refl D).drew) ⟨trivial,trivial,trivial,trivial,I7.x _ _,NPE.x _ _,NPo.x _ _,trivial,trivial⟩ ⟨?o0,?o1,?o2,?o3,?o4,?o5,?o6,?o7,trivial⟩ ?fin
      case o0=>exact ofa (d:=0)
      case o1=>exact ol
      case o2 | o3=>exact omv
      case o4 =>
       refine Ag rfl fun L f g U ai h => ?_;have e0:L (.tmp 39)=(.slice a1 K c1):=h.2.1;have e1:L (.tmp 40)=(.slice b1 M d1):=h.2.2.1;refine⟨82,#[.slice a1 K c1,.slice b1 M d1],by go_simp,((A f g).out).mono ?_⟩;rintro e w' ⟨ao,⟨p,z,s,rfl,G,j⟩,h1,h2⟩;exact⟨_,rfl,G,p,z,s,ao,rfl,j.mono g.size,h1,h2⟩
      case o5 =>
       refine EG rfl ?_;intro L f hp g h;have U:=hp.const;have ai:=hp.func;have e0:L (.tmp 38)=(.int .i64 (Y:Int)):=h.2.1;obtain⟨v1,e1,aa,an,ab,aK,rfl,P,Q,R⟩:=h.2.2.1;have V:=HM.out.fits.out Q R;have aH:=P.len;refine⟨69,#[.int .i64 (Y:Int),.slice aa an ab],by go_simp,(B6 (vars:=Y) (w0:=D) (hT.ext i) g P (by omega) V.1 V.2.1 (by omega)).mono ?_⟩;intro e w' hw;have hq:=Fw.q hw Q R;rw[N.out]at hq;obtain⟨p,z,s,rfl,G,j⟩:=hq
       exact⟨_,rfl,G,⟨trivial,trivial,trivial,trivial,trivial,trivial,trivial,trivial,trivial⟩,p,z,s,rfl,j⟩
      case o6 =>
       refine AE rfl ?_;intro L f hp g h;obtain⟨v0,e0,E,I,F,rfl,O⟩:=h.1;exact⟨BS B.1 E I F,f,by go_simp,Ext.refl _,E,I,F,rfl,O⟩
      case o7 =>
       refine BN rfl ?_;intro L f hp g h;obtain⟨v0,e0,E,I,F,rfl,O⟩:=h.1;go_simp
      case fin =>
       intro f g;rintro _;rintro _ h42;rintro _ h43;change wpList _ _ _ _ _ _;simp only[lq,lw,lx,lz,Act.put,lj,lk,ly];obtain⟨p,z,s,rfl,j⟩:=h43;clear h42;have ah:=i.trans g;have T:=H.ext g;have al:BS B.1 p z s = .agg #[.int .i64 B.1,.slice p z s]:=rfl;rw[al];have aI:(Ah B.1 p z s).toArray=#[.int .i64 B.1,.slice p z s]:=rfl
       go_wp2_with(refine Aa (vs:=Ah B.1 p z s) rfl rfl rfl rfl rfl Ad T rfl (Am _ _ _ _) ?_;intro w8 ae W)
       refine gF (Ao rfl Ad rfl rfl ae) rfl ?_;exact Or.inl ⟨l,C,rfl,rfl,HV.out,Or.inl ⟨a9.out,by rw[N.out];exact⟨p,z,s,rfl,ah.grownR W (by omega),(j.mono i.size).keptA T W⟩⟩⟩
   · have aw:(0:Int)<(K:Int):=by omega
     have aG:(0:Int)<(M:Int):=by omega
     have aq:Hid (l≠[]/\C≠[]):=qh ⟨fun h=>h0 (Or.inl (a4.2 h)),fun h=>h0 (Or.inr (a3.2 h))⟩;clear h0 a4 a3;generalize ax:Bu l=dA at *
     generalize ay:Bu C=dB at *
     go_wp2_with fail
     refine(az _ (Ext.refl _)).out.mono ?_;rintro e w2 ⟨rfl,ag⟩
     go_wp2_with fail
     refine(aA _ ag).out.mono ?_;rintro e w3 ⟨rfl,av⟩;have J:=ag.trans av;have i:=i.trans J;have H:=H.ext J;have a8:=J.cell a8;have A:=fun(f:World) (g:Ext w3 f)=>A f (J.trans g);have aX:IntKind.i64.wrap (dA+dB)=dA+dB:=gI _ (by omega);obtain⟨aY,rfl⟩:∃ x:World,x=D:=⟨_,rfl⟩;obtain⟨D,rfl⟩:∃ x:World,x=w3:=⟨_,rfl⟩;clear az aA ag av a0 a2 Z;by_cases ap:24<dA+dB
     · go_wp2_with(refine Aa (vs:=Ah 0 none 0 0) rfl rfl rfl rfl rfl Ad H rfl (Am _ _ _ _) ?_;intro w9 S X)
       refine gF (Ao rfl Ad rfl rfl S) rfl ?_;exact Or.inl ⟨l,C,rfl,rfl,HV.out,Or.inr ⟨⟨aq.out.1,aq.out.2,by rw[ax,ay];exact ap⟩,none,0,0,rfl,i.grownR X (by omega),TmO.nil _ _⟩⟩
     · have a9:Hid (¬ (l≠[]/\C≠[]/\24<Bu l+Bu C)):=qh (fun⟨_,_,h⟩=>ap (by rw[<-ax,<-ay];exact h));go_wp2;obtain⟨B,N⟩:∃ r,Hid (resQ (Y:Int) (Pl.prodT l C)=r):=⟨_,qh rfl⟩
       refine Ab (by kernel_rfl) (fun f=>Ext D f)
        [he (.pointer (some ⟨w.heap.size,0,none⟩)),
 he (.int .i64 (Y:Int)),
 he (.slice a1 K c1),
 he (.slice b1 M d1),
 hu 5 (fun v f=>I7 D (Pl.prodT l C) v f),
 hmp (fun v f=>NPE D B v f),
 hp (fun v f=>NPo D B v f),
 he (.int .i64 B.2.2)]
        (by kernel_rfl) (fun _ _ e h=>h.trans e) ((Ext.refl D).drew) ⟨trivial,trivial,trivial,trivial,I7.x _ _,NPE.x _ _,NPo.x _ _,trivial,trivial⟩ ⟨?o0,?o1,?o2,?o3,?o4,?o5,?o6,?o7,trivial⟩ ?fin
       case o0=>exact ofa (d:=0)
       case o1=>exact ol
       case o2 | o3=>exact omv
       case o4 =>
        refine Ag rfl fun L f g U ai h => ?_;have e0:L (.tmp 39)=(.slice a1 K c1):=h.2.1;have e1:L (.tmp 40)=(.slice b1 M d1):=h.2.2.1;refine⟨82,#[.slice a1 K c1,.slice b1 M d1],by go_simp,((A f g).out).mono ?_⟩;rintro e w' ⟨ao,⟨p,z,s,rfl,G,j⟩,h1,h2⟩;exact⟨_,rfl,G,p,z,s,ao,rfl,j.mono g.size,h1,h2⟩
       case o5 =>
        refine EG rfl ?_;intro L f hp g h;have U:=hp.const;have ai:=hp.func;have e0:L (.tmp 38)=(.int .i64 (Y:Int)):=h.2.1;obtain⟨v1,e1,aa,an,ab,aK,rfl,P,Q,R⟩:=h.2.2.1;have V:=HM.out.fits.out Q R;have aH:=P.len;refine⟨69,#[.int .i64 (Y:Int),.slice aa an ab],by go_simp,(B6 (vars:=Y) (w0:=D) (hT.ext i) g P (by omega) V.1 V.2.1 (by omega)).mono ?_⟩;intro e w' hw;have hq:=Fw.q hw Q R;rw[N.out]at hq;obtain⟨p,z,s,rfl,G,j⟩:=hq
        exact⟨_,rfl,G,⟨trivial,trivial,trivial,trivial,trivial,trivial,trivial,trivial,trivial⟩,p,z,s,rfl,j⟩
       case o6 =>
        refine AE rfl ?_;intro L f hp g h;obtain⟨v0,e0,E,I,F,rfl,O⟩:=h.1;exact⟨BS B.1 E I F,f,by go_simp,Ext.refl _,E,I,F,rfl,O⟩
       case o7 =>
        refine BN rfl ?_;intro L f hp g h;obtain⟨v0,e0,E,I,F,rfl,O⟩:=h.1;go_simp
       case fin =>
        intro f g;rintro _;rintro _ h42;rintro _ h43;change wpList _ _ _ _ _ _;simp only[lq,lw,lx,lz,Act.put,lj,lk,ly];obtain⟨p,z,s,rfl,j⟩:=h43;clear h42;have ah:=i.trans g;have T:=H.ext g;have al:BS B.1 p z s = .agg #[.int .i64 B.1,.slice p z s]:=rfl;rw[al];have aI:(Ah B.1 p z s).toArray=#[.int .i64 B.1,.slice p z s]:=rfl
        go_wp2_with(refine Aa (vs:=Ah B.1 p z s) rfl rfl rfl rfl rfl Ad T rfl (Am _ _ _ _) ?_;intro w8 ae W)
        refine gF (Ao rfl Ad rfl rfl ae) rfl ?_;exact Or.inl ⟨l,C,rfl,rfl,HV.out,Or.inl ⟨a9.out,by rw[N.out];exact⟨p,z,s,rfl,ah.grownR W (by omega),(j.mono i.size).keptA T W⟩⟩⟩
 · go_wp2_with(refine Aa (vs:=Ah 0 none 0 0) rfl rfl rfl rfl rfl Ad H rfl (Am _ _ _ _) ?_;intro w9 S X)
   refine gF (Ao rfl Ad rfl rfl S) rfl ?_;exact Or.inr (Or.inl ⟨hs,hv,none,0,0,rfl,i.grownR X (by omega),TmO.nil _ _⟩)
 · go_wp2_with(refine Aa (vs:=Ah 0 none 0 0) rfl rfl rfl rfl rfl Ad H rfl (Am _ _ _ _) ?_;intro w9 S X)
   refine gF (Ao rfl Ad rfl rfl S) rfl ?_;exact Or.inr (Or.inr ⟨hs,none,0,0,rfl,i.grownR X (by omega),TmO.nil _ _⟩)
theorem OC(k:Nat):∀ (l:List Int) (s:Int),s<=24->C5 s (l ++ List.replicate k 0)=C5 s l
 | [],s,hs=>by
  induction k with
  | zero=>rfl
  | succ k ih =>
   rw[jo,ni];unfold C5;rw[gT (by omega),Int.add_zero,<-jo (List.replicate k 0),ih];rfl
 | x :: r,s,hs=>by
  rw[jT];unfold C5;by_cases h:x<0\/24-s<x
  · rw[gY h,gY h]
  · rw[gT h,gT h,OC k r (s+x) (by omega)]
theorem GC(h:l.length<=6):A3 (AY l)=A3 l:=by
 unfold A3 Ds;rw[gT (by rw[D0 h];omega),gT (by omega)];unfold AY;rw[OC _ _ _ (by omega)]
theorem M3(l:List Int):(AY l).sum=l.sum:=by
 unfold AY;rw[List.sum_append];have:∀ k:Nat,(List.replicate k (0:Int)).sum=0:=by
  intro k
  induction k with
  | zero=>rfl
  | succ k ih=>rw[ni,lr,ih];rfl
 rw[this];omega
theorem P6(k:Nat)(a b:List Int):Pl.ordR (List.replicate k 0 ++ a) (List.replicate k 0 ++ b)=Pl.ordR a b:=by
 induction k with
 | zero=>rfl
 | succ k ih =>
  rw[ni,jT,jT];show(if(0:Int)=0 then _ else _)=_;rw[gY rfl,ih]
theorem Km{a b:List Int}(h:a.length=b.length):Pl.ordE (AY a) (AY b)=Pl.ordE a b:=by
 unfold Pl.ordE;rw[M3,M3];have c:Pl.ordR (AY a).reverse (AY b).reverse=Pl.ordR a.reverse b.reverse:=by
  unfold AY;rw[List.reverse_append,List.reverse_append,List.reverse_replicate,List.reverse_replicate,h,P6]
 rw[c]
theorem Bm{t:Tx}{m:Pl.Tm}(h:AS vars t=some m):AD t.1=some m.2/\m.2≠0/\(t.2.length:Int)=vars/\(∀ e∈t.2,0<=e/\e<=1048576)/\m.1=AY t.2:=by
 unfold AS at h;split at h
 · cases h
 · rename_i q b;split at h
   · rename_i a;cases h;exact⟨b,a.1,a.2.1,a.2.2,rfl⟩
   · cases h
theorem AW{ts:List Tx}{l:List Pl.Tm}(h:rdP vars ts=some l):(0<=vars/\vars<=6)/\ts.length<=4096/\(∀ t r,ts=t :: r->A3 t.2=true)/\okT vars ts ts.length/\l=ts.map (fun t=>(AS vars t).getD z6):=by
 unfold rdP at h;split at h
 · rename_i h1;unfold rdWF at h;split at h
   · rename_i h2;cases h;exact⟨⟨h2.1,h2.2.1⟩,h1.1,h1.2,h2.2.2,rfl⟩
   · cases h
 · cases h
theorem Kn{ts:List Tx}{l:List Pl.Tm}(h:rdP vars ts=some l){i:Nat}(hi:i<ts.length):AS vars (ts.getD i tm0)=some (l.getD i ([],0)):=by
 obtain⟨_,_,_,b,rfl⟩:=AW h;have h1:=b.1 i hi;rw[iY]at h1;obtain⟨m,a⟩:=h1;have h2:ts.getD i tm0=ts[i]:=by simp[hi]
 rw[h2]at a |-;rw[a];simp[hi,a]
theorem BH{ts:List Tx}{l:List Pl.Tm}(h:rdP vars ts=some l):l.length=ts.length:=by
 obtain⟨_,_,_,a,rfl⟩:=AW h;simp
theorem F7{ts:List Tx}{l:List Pl.Tm}(h:rdP vars ts=some l){m:Pl.Tm}(c:m∈l):∃ t∈ts,AS vars t=some m:=by
 obtain⟨i,b,rfl⟩:=jX.1 c;have a:i<ts.length:=by rw[<-BH h];exact b
 have h1:=Kn h a;have h2:l.getD i ([],0)=l[i]:=by simp[b]
 have h3:ts.getD i tm0=ts[i]:=by simp[a]
 rw[h2,h3]at h1;exact⟨ts[i],jl a,h1⟩
theorem In{ts:List Tx}(h:∀ i,i+1<ts.length->0<Pl.ordE (ts.getD i tm0).2 (ts.getD (i+1) tm0).2):∀ d i,i+d+1<ts.length->0<Pl.ordE (ts.getD i tm0).2 (ts.getD (i+d+1) tm0).2
 | 0,i,hi=>h i hi
 | d+1,i,hi=>Pl.ordE_trans (In h d i (by omega)) (h (i+d+1) (by omega))
theorem BW{ts:List Tx}{l:List Pl.Tm}(h:rdP vars ts=some l):Pl.Canon 6 l:=by
 obtain⟨w,_,_,s,_⟩:=AW h;have n:=BH h
 have a:∀ i,i<ts.length->(l.getD i ([],0)).1=AY (ts.getD i tm0).2/\((ts.getD i tm0).2.length:Int)=vars:=fun i b=>by
  obtain⟨_,_,h3,_,h5⟩:=Bm (Kn h b);exact⟨h5,h3⟩
 refine⟨fun m e => ?_,fun m e => ?_,?_⟩
 · obtain⟨t,v,f⟩:=F7 h e;obtain⟨_,_,h3,_,h5⟩:=Bm f;rw[h5,D0 (by omega)]
 · obtain⟨t,v,f⟩:=F7 h e;exact(Bm f).2.1
 · rw[mj];intro i j b r q;have c:i<ts.length:=by omega
   have d:j<ts.length:=by omega
   have g:=a i c;have k:=a j d;have o:l.getD i ([],0)=l[i]:=by simp[b]
   have p:l.getD j ([],0)=l[j]:=by simp[r]
   rw[o]at g;rw[p]at k;rw[g.1,k.1,Km (by omega)];have:=In s.2 (j-i-1) i (by omega)
   rwa[show i+(j-i-1)+1=j by omega]at this
theorem Ra{ts:List Tx}{l:List Pl.Tm}(h:rdP vars ts=some l):wrT vars.toNat l=ts:=by
 have a:=BH h;unfold wrT;apply mR
 · simpa using a
 · intro i h1 h2;have g:i<l.length:=by simpa using h1
   obtain⟨b,j,f,k,c⟩:=Bm (Kn h h2);have d:l.getD i ([],0)=l[i]:=by simp[g]
   have e:ts.getD i tm0=ts[i]:=by simp[h2]
   rw[d]at b c;rw[e]at b f c;rw[List.getElem_map,<-Cp b,c,show vars.toNat=(ts[i]).2.length by omega,Ie]
theorem Jo{ts:List Tx}{l:List Pl.Tm}(h:rdP vars ts=some l):okW l:=by
 have a:=BH h;obtain⟨f,h1,h2,d,_⟩:=AW h;refine⟨by omega,fun m r e => ?_⟩;cases ts with
 | nil=>rw[e]at a;simp at a
 | cons t s =>
  have h3:=Kn h (i:=0) (by simp);rw[e]at h3;obtain⟨_,_,c,_,b⟩:=Bm h3;simp only[kD]at c b;rw[b,GC (by omega)];exact h2 t s rfl
theorem TN(a:0<=B)(h:∀ e∈l,0<=e/\e<=B):∀ e∈AY l,0<=e/\e<=B:=by
 intro e he;rcases iw.1 he with he|he
 · exact h e he
 · rw[(jb.1 he).2];omega
theorem A5{ts:List Tx}{l:List Pl.Tm}(h:rdP vars ts=some l):∀ t∈l,t.1.length=6/\∀ x∈t.1,0<=x/\x<=1048576:=by
 intro m a;obtain⟨t,f,d⟩:=F7 h a;obtain⟨_,_,e,b,c⟩:=Bm d;exact⟨(BW h).len m a,by rw[c];exact TN (by omega) b⟩
theorem M4(n:Nat):n<10^(Lib.decDigits n).length:=by
 have:=W.decV_lt (W.digs_dec n)
 rwa[W.decV_dec]at this
theorem Rb(q:Rat):q.num.natAbs<10^(txt q).length/\q.den<10^(txt q).length:=by
 have h1:=M4 q.num.natAbs;have h2:(Lib.decDigits q.num.natAbs).length<=(Lib.itoa q.num).length:=by
  unfold Lib.itoa;split
  · simp
  · have e:q.num.toNat=q.num.natAbs:=by omega
    simp[e]
 have h0:0<(Lib.decDigits q.num.natAbs).length:=List.length_pos_iff.2 (W.dec_ne _);have b:(Lib.itoa q.num).length<=(txt q).length:=by unfold txt;rw[iD];omega
 refine⟨ib h1 (ic (by omega) (by omega)),?_⟩;by_cases a:q.den=1
 · rw[a];exact Nat.one_lt_pow (by omega) (by omega)
 · have h3:=M4 q.den;refine ib h3 (ic (by omega) ?_);unfold txt;rw[gT a];simp;omega
theorem Ko{q:Rat}(h:(txt q).length<=k):Pl.RB (4*k) q:=by
 have h1:=Rb q;have h2:10^(txt q).length<=P2 (4*k):=by
  refine gJ (ic (by omega) h) ?_;unfold P2;rw[mo];exact l9 (by omega) _
 exact⟨by omega,by omega⟩
theorem RB.str{q:Rat}(h:Pl.RB b q)(a:b<=1920):Ek q:=LZ (Af h.1 a) (Af h.2 a)
theorem OD{l:List Rat}(h:∀ q∈l,q.den<P2 b):Bk l<P2 (b*l.length+1):=by
 have e:∀ (l:List Rat) (a c:Nat),a<P2 c->(∀ q∈l,q.den<P2 b)->l.foldl (fun a q=>a*(q.den/Nat.gcd a q.den)) a<P2 (b*l.length+c):=by
  intro l
  induction l with
  | nil=>intro a c d _;simpa using d
  | cons q r ih =>
   intro a c d h;rw[m7,j8,jB,km,jR];refine ih _ (b+c) ?_ (fun s f=>h s (by simp[f]));rw[jW b c];exact BJ d (gN (iI _ _) (h q (by simp)))
 exact e l 1 1 (by unfold P2;omega) h
theorem Xb{ts:List Tx}{l p:List Pl.Tm}(h:rdP vars ts=some l)(a:∀ e,Pl.coef p e=Pl.coef l e):cnP p=l:=P4 (BW h) (fun e=>(a e).symm)
theorem Kq{ts:List Tx}{l p:List Pl.Tm}(h:rdP vars ts=some l)(a:∀ e,Pl.coef p e=Pl.coef l e):resQ vars p=(vars,ts,0):=by
 unfold resQ;rw[Xb h a,gY (Jo h),Ra h]
theorem Dh{l:List Pl.Tm}(h:Pl.Canon 6 l):Pl.Nrm l:=by
 refine⟨h.len,h.nz,?_⟩;unfold List.Nodup;rw[ma];refine h.desc.imp ?_;intro a b c e;rw[e,Pl.ordE_self]at c;omega
def IL(k:Nat):List Int:=ze.set k 1
theorem VC{q:Rat}(h:e.length=6)(a:q≠0):Pl.Nrm [(e,q)]:=⟨by simpa using h,by simpa using a,by simp⟩
theorem Kr{e b i:World}{r:Int×List Tx×Int}(f:Ext w e)(d:Ext e b)(j:TmO b e.heap.size a n c r.2.1)(k:Arr b R 28 cs)(g:b.grownBy i (some R))(l:w.heap.size<=R):Cd w r (.returned (.tuple #[BS r.1 a n c,.int .i64 r.2.2])) i :=
 ⟨a,n,c,rfl,(f.trans d).grownR g l,(j.mono f.size).keptA k g⟩
def TP(w:World)(vars i:Int)(e:Ending)(w':World):Prop:=(0<=vars/\vars<=6/\0<=i/\i<vars/\Cd w (resQ vars [(IL i.toNat,1)]) e w')\/(¬ (0<=vars/\vars<=6/\0<=i/\i<vars)/\Cl w 0 [] 3 e w')
theorem TQ(hT:AM w):Calls prog 16 #[.int .i64 vars,.int .i64 i] w (TP w vars i):=by
 go_enter func16,ntmps16
 go_upto_region 1 with(fail)
 refine AP ?_;intro w0 B T aH;have hR:Arr w0 w.heap.size 28 (Ah 0 none 0 0):=T;have aK:(Ah 0 none 0 0).toArray=#[.int .i64 0,.slice none 0 0]:=rfl;clear T aH;by_cases E:0<=vars/\vars<=6/\0<=i/\i<vars
 · obtain⟨h1,h2,h3,h4⟩:=E;obtain⟨N,rfl⟩:∃ k:Nat,vars=(k:Int):=⟨vars.toNat,by omega⟩;obtain⟨k,rfl⟩:∃ k:Nat,i=(k:Int):=⟨i.toNat,by omega⟩;have c1:¬ ((N:Int)<0):=by omega
   have c2:¬ ((6:Int)<(N:Int)):=by omega
   have c3:¬ ((k:Int)<0):=by omega
   have c4:¬ ((N:Int)<=(k:Int)):=by omega
   have a3:=qh (F0 (z:=1) (w:=w0) (by omega) (by omega))
   go_wp2_with fail
   refine a3.out.mono ?_;rintro e w1 ⟨_,rfl,C,s1,g,o,m,j,n,l,rfl,P,a5,a6⟩;have aC:(Al s1 g o m false j n l).toArray=#[.bool s1,.slice g o m,.bool false,.slice j n l]:=rfl;have aI:(As ze s1 g o m j n l).toArray=#[.int .i64 0,.int .i64 0,.int .i64 0,.int .i64 0,.int .i64 0,.int .i64 0,.bool s1,.slice g o m,.bool false,.slice j n l]:=rfl;have hY:=Arr.new w1 92 (As ze false none 0 0 none 0 0)
   go_upto_region 4 with(refine Aa (vs:=As ze s1 g o m j n l) rfl rfl rfl rfl rfl At hY rfl AI ?_;intro w3 a a2)
   have d:Ext w1 w3:=((Ext.refl w1).alloc _).grownR a2 (lrf _);have v:=C.trans d;have hX:w0.heap.size<=w1.heap.size:=C.size;have F:=a5.ext d;have G:=a6.ext d;obtain⟨X,Z⟩:∃ x,w1.heap.size=x:=⟨_,rfl⟩;rw[Z]at a hX |-;have aE:((1:Int):Rat)=1:=rfl;rw[aE]at F G P;clear a3 hY a2 C d a5 a6 Z aC;have a9:=a.c 0 rfl;have aa:=a.c 1 rfl;have ab:=a.c 2 rfl;have ac:=a.c 3 rfl;have ad:=a.c 4 rfl;have ae:=a.c 5 rfl;have af:=a.c 6 rfl;have ag:=a.c 7 rfl;have ah:=a.c 8 rfl;have ai:=a.c 9 rfl
   have f:k=0\/k=1\/k=2\/k=3\/k=4\/k=5:=by omega
   have aB:(k:Int)<6:=by omega
   have aj:w3.cell? ⟨X,k,none⟩=some (.int .i64 0):=by rcases f with rfl | rfl | rfl | rfl | rfl | rfl <;> assumption
   obtain⟨H,I,J,K,L,M,hu⟩:∃ H I J K L M,IL k=[H,I,J,K,L,M]:=by rcases f with rfl|rfl|rfl|rfl|rfl|rfl <;> exact⟨_,_,_,_,_,_,rfl⟩
   have a4:(As ze s1 g o m j n l).set k (.int .i64 1)=As [H,I,J,K,L,M] s1 g o m j n l:=by
    rw[<-hu];rcases f with rfl|rfl|rfl|rfl|rfl|rfl <;> rfl
   have a0:∀ x∈[H,I,J,K,L,M],0<=x/\x<=1099511627776:=by
    rw[<-hu];rcases f with rfl|rfl|rfl|rfl|rfl|rfl <;> simp[IL,ze]
   have HU:=qh hu;have a8:=qh a0;clear f hu a0;have ff:=a.frozen k;have b:Arr (w3.setCell ⟨X,k,none⟩ (.int .i64 1)) X 92 (As [H,I,J,K,L,M] s1 g o m j n l):=(by have:=a.set k (.int .i64 1);rw[a4]at this;exact this);have s:=Ar w3 X k (.int .i64 1);have hU:=a.noU AV;have aF:=F.keptU hU s;have aG:=G.keptU hU s;have y:=v.grownR s hX
   go_upto_region 5 with(fail)
   clear a9 aa ab ac ad ae af ag ah ai aj ff a4 aB s hU a F G v;generalize w3.setCell ⟨X,k,none⟩ (.int .i64 1)=w4 at *
   have ak:=b.c 0 rfl;have al:=b.c 1 rfl;have am:=b.c 2 rfl;have an:=b.c 3 rfl;have ao:=b.c 4 rfl;have ap:=b.c 5 rfl;have aq:=b.c 6 rfl;have ar:=b.c 7 rfl;have au:=b.c 8 rfl;have av:=b.c 9 rfl;have V:=On (e:=[H,I,J,K,L,M]) y rfl ⟨s1,g,o,m,j,n,l,rfl,P,aF,aG⟩;have A:=y.alloc (.cells (As [H,I,J,K,L,M] s1 g o m j n l).toArray 92)
   have Y:=B6 (vars:=N) (w0:=w0) (hT.ext B) A V (by omega) (by intro t ht;simp only[gL]at ht;subst ht;exact⟨rfl,a8.out⟩) (by intro t ht;simp only[gL]at ht;subst ht;exact El (show(1:Rat).num.natAbs<18446744073709551616 by decide) (show(1:Rat).den<18446744073709551616 by decide)) (by omega);have Q:=qh Y;clear Y V A b
   go_wp2_with fail
   refine Q.out.mono ?_;intro e w7 hw;have hq:=Fw.q (p:=[(IL k,1)]) hw (VC rfl (by decide)) (fun _=>by rw[HU.out]);obtain⟨rr,O⟩:∃ r,Hid (resQ (N:Int) [(IL k,1)]=r):=⟨_,qh rfl⟩;rw[O.out]at hq;obtain⟨R,n7,S,rfl,U,ay⟩:=hq;have aD:BS rr.1 R n7 S = .agg #[.int .i64 rr.1,.slice R n7 S]:=rfl;rw[aD];have aJ:(Ah rr.1 R n7 S).toArray=#[.int .i64 rr.1,.slice R n7 S]:=rfl;have W:=hR.ext U;clear hw Q ak al am an ao ap aq ar au av
   go_wp2_with(refine Aa (vs:=Ah rr.1 R n7 S) rfl rfl rfl rfl rfl Ad W rfl (Am _ _ _ _) ?_;intro w8 aw az)
   refine gF (Ao rfl Ad rfl rfl aw) rfl ?_;exact Or.inl ⟨by omega,by omega,by omega,by omega,by show Cd w (resQ (N:Int) [(IL k,1)]) _ _;rw[O.out];exact Kr B U ay W az (lrf _)⟩
 · have HF:Hid (∀ e w',Cl w 0 [] 3 e w'->TP w vars i e w'):=qh (fun e w' h=>Or.inr ⟨E,h⟩);have D:vars<0\/(¬ vars<0/\6<vars)\/(¬ vars<0/\¬ 6<vars/\i<0)\/(¬ vars<0/\¬ 6<vars/\¬ i<0/\vars<=i):=by omega
   clear E;rcases D with h1|⟨h1,h2⟩|⟨h1,h2,h3⟩|⟨h1,h2,h3,h4⟩
   all_goals
    go_wp2_with(refine Aa (vs:=Ah 0 none 0 0) rfl rfl rfl rfl rfl Ad hR rfl (Am _ _ _ _) ?_;intro w9 ax aA)
    refine gF (Ao rfl Ad rfl rfl ax) rfl ?_;exact HF.out _ _ ⟨none,0,0,rfl,B.grownR aA (lrf _),TmO.nil _ _⟩
end Go.Proofs.YtlbmnokpiilfpaaGreatDoor
