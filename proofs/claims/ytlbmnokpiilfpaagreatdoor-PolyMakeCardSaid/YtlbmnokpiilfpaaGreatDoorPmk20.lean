/- Part Pmk20. -/
import Derived.Test.YtlbmnokpiilfpaaGreatDoorPmk19
import Derived.Test.YtlbmnokpiilfpaaGreatDoorPmk1
import Derived.Test.YtlbmnokpiilfpaaGreatDoorPmk2
import Derived.Deep.QuietTactic
import Derived.BigQuiet
import Derived.Test.YtlbmnokpiilfpaaGreatDoorPmk4
set_option maxRecDepth 100000
set_option maxHeartbeats 100000000
namespace Go.Proofs.YtlbmnokpiilfpaaGreatDoor
open Tryz Go Go.RowKit
variable {i va vb:Int} {rows:List (List Value)} {l xs:List Nat} {cs:List Value} {B D R U V base c c' cy d g h k m n o p r s u v vars y y0 y1:Nat} {a b:Option Addr} {cons row:Option Nat} {e t t':TypeId} {w w' w0:World}
structure IE (p:List Pl.Tm):Prop where
 atE:∀ e,Pl.coef p e≠0->Dw (Pl.coef p e)/\e.length=6/\∀ x∈e,0<=x/\x<=1099511627776
 len:p.length<=1000000
theorem L0 {out p:List Pl.Tm} (b:Pl.Nrm out) (a:∀ e,Pl.coef out e=Pl.coef p e) {t:Pl.Tm} (c:t∈out):Pl.coef p t.1=t.2:=by rw [<-a]; exact Pl.coef_mem b.nodup c
theorem IE.out {out p:List Pl.Tm} (h:IE p) (c:Pl.Nrm out) (d:∀ e,Pl.coef out e=Pl.coef p e):Cv out/\(∀ t∈out,Dw t.2)/\out.length<=1000000:=by
 have b:∀ t∈out,Pl.coef p t.1≠0:=fun t a=>by rw [L0 c d a]; exact c.nz t a
 refine ⟨fun t a=>(h.atE t.1 (b t a)).2,fun t a => ?_, ?_⟩
 · have:=(h.atE t.1 (b t a)).1;rw [L0 c d a] at this;exact this
 · refine Nat.le_trans ?_ h.len
   have h1:=Pl.nodup_le (out.map (·.1)) (p.map (·.1)) c.nodup (fun e he=>by
    obtain ⟨t,a,rfl⟩:=List.mem_map.1 he;obtain ⟨s,f,e⟩:=Pl.coef_present (b t a);rw [<-e]
    exact List.mem_map_of_mem f)
   simpa using h1
def Th (w:World) (va vb:Int) (oa ob:Option (List Pl.Tm)) (e:Ending) (w':World):Prop :=
 ∃ a n c b m d err,e = .returned (.tuple #[.slice a n c, .slice b m d, .int .i64 err])/\Ext w w'/\((∃ la lb,oa=some la/\ob=some lb/\va=vb/\err=0/\Bn w' a n c la/\Bn w' b m d lb)\/((oa.isSome && ob.isSome)=true/\va≠vb/\err=4)\/((oa.isSome && ob.isSome)=false/\err=1))
theorem KI {C D:List Tx} (H:AR w) (I:Bk w a n c C) (J:Bk w b m d D) (sa:∀ t∈C,t.1.length<=570) (sb:∀ t∈D,t.1.length<=570) :
 Calls prog 80 #[.agg #[.int .i64 va, .slice a n c], .agg #[.int .i64 vb, .slice b m d]] w (Th w va vb (rdP va C) (rdP vb D)):=by
 have z:=fun (G:World) (s:Ext w G)=>qh (EP (vars:=va) (H.ext s) (I.ext s) sa);have A:=fun (G:World) (s:Ext w G)=>qh (EP (vars:=vb) (H.ext s) (J.ext s) sb);obtain ⟨R,x⟩:∃ o,rdP va C=o:=⟨_,rfl⟩;obtain ⟨S,y⟩:∃ o,rdP vb D=o:=⟨_,rfl⟩;rw [x] at z |-;rw [y] at A |-;clear x y sa sb I J
 go_enter func80,ntmps80
 go_upto_region 1 with (fail)
 refine Dm ?_;intro U r p q F;have k:=p.c 0 rfl;have T:=p.c 1 rfl;have l:=q.c 0 rfl;have B:=q.c 1 rfl;clear p q F
 go_wp2_with fail
 refine (z _ r).out.mono ?_;rintro e V ⟨K,P,M,rfl,f,j⟩;have k:=f.cell k;have l:=f.cell l;have B:=f.cell B
 go_wp2_with fail
 refine (A _ (r.trans f)).out.mono ?_;rintro e W ⟨L,Q,N,rfl,g,v⟩;have k:=g.cell k;have l:=g.cell l;have i:=(r.trans f).trans g;have j:=j.ext g;cases R with
 | none =>
  simp only [Option.isSome_none];go_wp2
  go_ret3
  exact ⟨none,0,0,none,0,0,1,rfl,i,Or.inr (Or.inr ⟨rfl,rfl⟩)⟩
 | some la =>
  cases S with
  | none =>
   simp only [Option.isSome_none,Option.isSome_some];go_wp2
   go_ret3
   exact ⟨none,0,0,none,0,0,1,rfl,i,Or.inr (Or.inr ⟨rfl,rfl⟩)⟩
  | some lb =>
   simp only [Option.isSome_some,Option.getD_some] at j v |-;by_cases E:va=vb
   · subst E;go_wp2
     go_ret3
     exact ⟨K,P,M,L,Q,N,0,rfl,i,Or.inl ⟨la,lb,rfl,rfl,rfl,rfl,j,v⟩⟩
   · have O:(va != vb)=true:=by simpa using E
     go_wp2
     go_ret3
     exact ⟨none,0,0,none,0,0,4,rfl,i,Or.inr (Or.inl ⟨rfl,E,rfl⟩)⟩
theorem L3 {b:Nat} (h:AP w b e k a n c rows) (f:Arr w p t cs) (o:t≠e):blk a≠some p:=by
 rcases h.2.2 with ⟨d,_⟩|⟨g,j,l,d,_,m,_⟩
 · simp only [Value.slice.injEq] at d;rw [d.1]; simp [blk]
 · simp only [Value.slice.injEq] at d;rw [d.1];intro he;have i:g=p:=by simpa [blk] using he
   subst i;unfold Arr at f;rw [m] at f;simp only [Option.some.injEq,Obj.cells.injEq] at f;exact o f.2.1.symm
theorem TmO.keptA {ts:List Tx} (h:TmO w base a n c ts) (e:Arr w R 28 cs) (f:w.grownBy w' (some R)):TmO w' base a n c ts:=by
 obtain ⟨b,h1,h2,h3⟩:=h;refine ⟨b,h1.kept f (Or.inr (L3 h1 e (by decide))),h2,fun i m => ?_⟩;obtain ⟨s,g,o,j,k,l,d⟩:=h3 i m;exact ⟨s,g,o,j,k,l,d.kept f (Or.inr (Ev d e (by decide)))⟩
def L4 (w0:World) (p:List Pl.Tm) (v:Value) (w:World):Prop:=∃ a n c out,v = .slice a n c/\DU w w0.heap.size a n c out/\Pl.Nrm out/\∀ e,Pl.coef out e=Pl.coef p e
theorem L4.x (w0:World) (p:List Pl.Tm):StX (L4 w0 p):=fun _ _ _ x ⟨a,n,c,b,h1,h2,h3⟩=>⟨a,n,c,b,h1,h2.ext x,h3⟩
theorem IF (t:Pl.Tm) (h6:t.1.length=6):∀ (l:List Pl.Tm),(∀ s∈l,s.1.length=6)->Pl.desc l->∃ a,a.Perm (t :: l)/\Pl.desc a
 | [],_,_=>⟨[t],List.Perm.refl _,List.pairwise_singleton _ _⟩
 | s :: r,hl,hd=>by
  have hd2:=List.pairwise_cons.1 hd;by_cases h:0<=Pl.ordE t.1 s.1
  · refine ⟨t :: s :: r,List.Perm.refl _,List.pairwise_cons.2 ⟨fun u hu => ?_,hd⟩⟩;rcases List.mem_cons.1 hu with rfl|hu
    · exact h
    · have h1:=hd2.1 u hu;by_cases h2:Pl.ordE t.1 s.1=0
      · rw [Pl.ordE_eq (by rw [h6,hl s (by simp)]) h2]; exact h1
      · by_cases h3:Pl.ordE s.1 u.1=0
        · rw [<-Pl.ordE_eq (by rw [hl s (by simp),hl u (by simp [hu])]) h3]; exact h
        · exact Int.le_of_lt (Pl.ordE_trans (b:=s.1) (by omega) (by omega))
  · obtain ⟨a,h1,h2⟩:=IF t h6 r (fun u hu=>hl u (by simp [hu])) hd2.2;refine ⟨s :: a,(List.Perm.cons s h1).trans (List.Perm.swap t s r),List.pairwise_cons.2 ⟨fun u hu => ?_,h2⟩⟩;rcases List.mem_cons.1 (h1.mem_iff.1 hu) with rfl|hu
    · have:=Pl.ordE_anti s.1 u.1; omega
    · exact hd2.1 u hu
theorem Gw:∀ (l:List Pl.Tm),(∀ s∈l,s.1.length=6)->∃ b,b.Perm l/\Pl.desc b
 | [],_=>⟨[],List.Perm.refl _,List.Pairwise.nil⟩
 | t :: r,h=>by
  obtain ⟨l1,h1,h2⟩:=Gw r (fun s a=>h s (by simp [a]));obtain ⟨c,h3,h4⟩:=IF t (h t (by simp)) l1 (fun s a=>h s (by simp [h1.mem_iff.1 a])) h2;exact ⟨c,h3.trans (List.Perm.cons t h1),h4⟩
noncomputable def cnP (p:List Pl.Tm):List Pl.Tm:=Classical.epsilon (fun l=>Pl.Canon 6 l/\∀ e,Pl.coef l e=Pl.coef p e)
theorem Na {p l:List Pl.Tm} (h:Pl.Canon 6 l) (a:∀ e,Pl.coef l e=Pl.coef p e):cnP p=l:=by
 have h1:Pl.Canon 6 (cnP p)/\∀ e,Pl.coef (cnP p) e=Pl.coef p e:=Classical.epsilon_spec (p:=fun l=>Pl.Canon 6 l/\∀ e,Pl.coef l e=Pl.coef p e) ⟨l,h,a⟩;exact Pl.canon_ext h1.1 h (fun e=>by rw [h1.2,a])
theorem D9 {p out l:List Pl.Tm} (d:Pl.Nrm out) (b:∀ e,Pl.coef out e=Pl.coef p e) (hp:l.Perm out) (c:Pl.desc l):cnP p=l:=by
 have a:=d.perm hp.symm;exact Na (Pl.canon_of_sorted a.len a.nz c a.nodup) (fun e=>by rw [Pl.coef_perm hp,b])
open Classical in
noncomputable def resQ (vars:Int) (p:List Pl.Tm):Int×List Tx×Int:=if okW (cnP p) then (vars,wrT vars.toNat (cnP p),0) else (0,[],2)
def C9 (w:World) (r:Int×List Tx×Int) (e:Ending) (w':World):Prop:=Cr w r.1 r.2.1 r.2.2 e w'
theorem FE.q {out p:List Pl.Tm} {e:Ending} (h:FE w0 vars out e w') (b:Pl.Nrm out) (c:∀ e,Pl.coef out e=Pl.coef p e):C9 w0 (resQ vars p) e w':=by
 obtain ⟨l,h1,h2⟩:=h;unfold resQ C9;rcases h2 with ⟨d,a,g⟩|⟨a,g⟩
 · rw [D9 b c h1 d,if_pos a];exact g
 · have f:¬ okW (cnP p):=by
    rcases a with a|⟨d,a⟩
    · obtain ⟨i,h3,h4⟩:=Gw out b.len;rw [D9 b c h3 h4];intro h5;have:=h5.1;rw [h3.length_eq] at this;omega
    · rw [D9 b c h1 d]; exact a
   rw [if_neg f];exact g
section
variable {P:Program} {ops:Array Oper} {hs:List Hd} {a0:Act} {C:World->Prop} {i:Nat} {o:Oper}
theorem Gx {p:Value->World->Prop} (k:BA hs o=some true)
 (h:∀ b w,Di b->C w->B0 ops hs a0 o b w o.op.operands.toList->∃ f a,(execOp b o).run P w = .ok (.enter f a) w/\Calls P f a w (fun e c=>∃ u,e = .returned u/\C c/\E5 ops hs i o w c (List.range hs.length)/\p u c)) :
 obl P C ops hs a0 i o ⟨true, .pr p,cons⟩:=by
 unfold obl;rw [k];intro b w hp d l;obtain ⟨f,a,j,g⟩:=h b w hp d l;rw [j];exact g
end
def NPE (w0:World) (r:Int×List Tx×Int) (v:Value) (w:World):Prop:=∃ a n c,v = .tuple #[BW r.1 a n c, .int .i64 r.2.2]/\TmO w w0.heap.size a n c r.2.1
theorem NPE.x (w0:World) (r:Int×List Tx×Int):StX (NPE w0 r):=fun _ _ _ x ⟨a,n,c,h1,h2⟩=>⟨a,n,c,h1,h2.ext x⟩
def NPo (w0:World) (r:Int×List Tx×Int) (v:Value) (w:World):Prop:=∃ a n c,v=BW r.1 a n c/\TmO w w0.heap.size a n c r.2.1
theorem NPo.x (w0:World) (r:Int×List Tx×Int):StX (NPo w0 r):=fun _ _ _ x ⟨a,n,c,h1,h2⟩=>⟨a,n,c,h1,h2.ext x⟩
theorem Qz {a:List Tx} {la:List Pl.Tm} (h:rdP va a=some la):0<=va/\va<=6:=by
 unfold rdP at h;split at h
 · unfold rdWF at h;split at h
   · rename_i h1; exact ⟨h1.1,h1.2.1⟩
   · cases h
 · cases h
def Nc (w:World) (va vb:Int) (oa ob:Option (List Pl.Tm)) (e:Ending) (w':World):Prop :=
 (∃ la lb,oa=some la/\ob=some lb/\va=vb/\((¬ (la≠[]/\lb≠[]/\24<Dl la+Dl lb)/\C9 w (resQ va (Pl.prodT la lb)) e w')\/((la≠[]/\lb≠[]/\24<Dl la+Dl lb)/\Cr w 0 [] 2 e w'))) \/
 ((oa.isSome && ob.isSome)=true/\va≠vb/\Cr w 0 [] 4 e w')\/((oa.isSome && ob.isSome)=false/\Cr w 0 [] 1 e w')
structure SN (la lb:List Pl.Tm):Prop where
 ba:∀ t∈la,Pl.RB 1000 t.2
 bb:∀ t∈lb,Pl.RB 1000 t.2
 ea:Cv la
 eb:Cv lb
 lla:Bq (la.map (·.2))<P2 256
 llb:Bq (lb.map (·.2))<P2 256
 na:la.length<=1000000
 nb:lb.length<=1000000
 fits:IE (Pl.prodT la lb)
theorem Pw (a b:List Pl.Tm):(Pl.prodT a b).length=a.length*b.length:=by
 unfold Pl.prodT
 induction a with
 | nil=>simp
 | cons t r ih=>rw [List.flatMap_cons,List.length_append,ih]; simp [Nat.add_mul]; omega
theorem QA {ta tb:List Tx} (hT:AR w) (ha:Bk w a n c ta) (hb:Bk w b m d tb) (sa:∀ t∈ta,t.1.length<=570) (sb:∀ t∈tb,t.1.length<=570)
 (ag:∀ la lb,rdP va ta=some la->rdP vb tb=some lb->va=vb->SN la lb) :
 Calls prog 20 #[.agg #[.int .i64 va, .slice a n c], .agg #[.int .i64 vb, .slice b m d]] w (Nc w va vb (rdP va ta) (rdP vb tb)):=by
 have ah:=fun (f:World) (g:Ext w f)=>qh (KI (va:=va) (vb:=vb) (hT.ext g) (ha.ext g) (hb.ext g) sa sb);have an:∀ la,rdP va ta=some la->0<=va/\va<=6:=fun la h=>Qz h;obtain ⟨oa,aB⟩:∃ o,rdP va ta=o:=⟨_,rfl⟩;obtain ⟨ob,aC⟩:∃ o,rdP vb tb=o:=⟨_,rfl⟩;rw [aB] at ah ag an |-;rw [aC] at ah ag |-;have aq:=qh ag;clear aB aC sa sb ha hb ag
 go_enter func20,ntmps20
 go_upto_region 1 with (fail)
 refine DF ?_;intro w0 al aj ak ar aJ;have ai:=aj.c 0 rfl;have aK:=aj.c 1 rfl;have aL:=ak.c 0 rfl;have aM:=ak.c 1 rfl;have hR:Arr w0 (w.heap.size+2) 28 (Aq 0 none 0 0):=ar;have aT:(Aq 0 none 0 0).toArray=#[.int .i64 0, .slice none 0 0]:=rfl;clear aj ak ar aJ
 go_wp2_with fail
 refine (ah _ al).out.mono ?_;rintro e F ⟨a1,R,c1,b1,T,d1,aQ,rfl,a9,aF⟩;have s:=al.trans a9;have M:=hR.ext a9;have ai:=a9.cell ai;have aU:=al.size;clear ah aK aL aM;rcases aF with ⟨la,lb,rfl,rfl,hv,rfl,aa,ab⟩|⟨hs,hv,rfl⟩|⟨hs,rfl⟩
 · have hM:=aq.out la lb rfl rfl hv;have aV:=an la rfl;have ad:=aa.len;have ac:=ab.len;have aP:=qh (And.intro ad ac);have S:=qh hM;clear aq an;obtain ⟨U,rfl⟩:∃ k:Nat,va=(k:Int):=⟨va.toNat,by omega⟩;have HV:=qh hv;clear hv;have D:=fun (f:World) (g:Ext F f)=>qh (KB ((hT.ext s).ext g) (aa.ext g) (ab.ext g) S.out.ba S.out.bb S.out.ea S.out.eb (by have:=S.out.na; omega) (by have:=S.out.nb; omega) (by have:=S.out.fits.len; rw [Pw] at this; rw [<-ad,<-ac]; exact this) S.out.lla S.out.llb)
   have ay:=fun (f:World) (g:Ext F f)=>qh (GT (aa.ext g) S.out.ea);have az:=fun (f:World) (g:Ext F f)=>qh (GT (ab.ext g) S.out.eb);have aN:=Iq hM.ea;have aO:=Iq hM.eb;have af:R=0<->la=[]:=by rw [<-ad]; exact List.length_eq_zero_iff
   have ae:T=0<->lb=[]:=by rw [<-ac]; exact List.length_eq_zero_iff
   clear hM;have aS:R<=1000000:=by have:=S.out.na; omega
   have aR:T<=1000000:=by have:=S.out.nb; omega
   clear ad ac;by_cases h0:R=0\/T=0
   · have a8:Hid (¬ (la≠[]/\lb≠[]/\24<Dl la+Dl lb)):=qh (fun ⟨x,y,_⟩=>h0.elim (fun h=>x (af.1 h)) (fun h=>y (ae.1 h)));have aG:(R=0)\/(0<R/\T=0):=by omega
     clear h0 af ae;rcases aG with h0|⟨h0,aH⟩
     · have av:¬ ((0:Int)<(R:Int)):=by omega
       clear h0;go_wp2;obtain ⟨z,H⟩:∃ r,Hid (resQ (U:Int) (Pl.prodT la lb)=r):=⟨_,qh rfl⟩
       refine Ab (by kernel_rfl) (fun f=>Ext F f)
        [he (.pointer (some ⟨w.heap.size,0,none⟩)),
 he (.int .i64 (U:Int)),
 he (.slice a1 R c1),
 he (.slice b1 T d1),
 hu 5 (fun v f=>L4 F (Pl.prodT la lb) v f),
 hmp (fun v f=>NPE F z v f),
 hp (fun v f=>NPo F z v f),
 he (.int .i64 z.2.2)]
        (by kernel_rfl) (fun _ _ e h=>h.trans e) ((Ext.refl F).drew) ⟨trivial,trivial,trivial,trivial,L4.x _ _,NPE.x _ _,NPo.x _ _,trivial,trivial⟩ ⟨?o0, ?o1, ?o2, ?o3, ?o4, ?o5, ?o6, ?o7,trivial⟩ ?fin
       case o0=>exact ofa (d:=0)
       case o1=>exact ol
       case o2 | o3=>exact omv
       case o4 =>
        refine Am rfl fun G f g O a2 h => ?_;have e0:G (.tmp 39)=(.slice a1 R c1):=h.2.1;have e1:G (.tmp 40)=(.slice b1 T d1):=h.2.2.1;refine ⟨82,#[.slice a1 R c1, .slice b1 T d1],by go_simp,((D f g).out).mono ?_⟩;rintro e w' ⟨a6,⟨j,p,l,rfl,C,i⟩,h1,h2⟩;exact ⟨_,rfl,C,j,p,l,a6,rfl,i.mono g.size,h1,h2⟩
       case o5 =>
        refine Gx rfl ?_;intro G f hp g h;have O:=hp.const;have a2:=hp.func;have e0:G (.tmp 38)=(.int .i64 (U:Int)):=h.2.1;obtain ⟨v1,e1,W,a5,X,aE,rfl,J,K,L⟩:=h.2.2.1;have P:=S.out.fits.out K L;have aA:=J.len;refine ⟨69,#[.int .i64 (U:Int), .slice W a5 X],by go_simp,(Cw (vars:=U) (w0:=F) (hT.ext s) g J (by omega) P.1 P.2.1 (by omega)).mono ?_⟩;intro e w' hw;have hq:=FE.q hw K L;rw [H.out] at hq;obtain ⟨j,p,l,rfl,C,i⟩:=hq
        exact ⟨_,rfl,C,⟨trivial,trivial,trivial,trivial,trivial,trivial,trivial,trivial,trivial⟩,j,p,l,rfl,i⟩
       case o6 =>
        refine AY rfl ?_;intro G f hp g h;obtain ⟨v0,e0,A,E,B,rfl,I⟩:=h.1;exact ⟨BW z.1 A E B,f,by go_simp,Ext.refl _,A,E,B,rfl,I⟩
       case o7 =>
        refine BE rfl ?_;intro G f hp g h;obtain ⟨v0,e0,A,E,B,rfl,I⟩:=h.1;go_simp
       case fin =>
        intro f g;rintro _;rintro _ h42;rintro _ h43;change wpList _ _ _ _ _ _;simp only [List.length_cons,List.length_nil,List.drop_succ_cons,List.drop_zero,Act.put,List.setIfInBounds_toArray,List.set_cons_succ,List.set_cons_zero];obtain ⟨j,p,l,rfl,i⟩:=h43;clear h42;have a0:=s.trans g;have N:=M.ext g;have a4:BW z.1 j p l = .agg #[.int .i64 z.1, .slice j p l]:=rfl;rw [a4];have aD:(Aq z.1 j p l).toArray=#[.int .i64 z.1, .slice j p l]:=rfl
        go_wp2_with (refine Aa (vs:=Aq z.1 j p l) rfl rfl rfl rfl rfl Ae N rfl (Ar _ _ _ _) ?_; intro w8 Y Q)
        refine bodyPost_ret (At rfl Ae rfl rfl Y) rfl ?_;exact Or.inl ⟨la,lb,rfl,rfl,HV.out,Or.inl ⟨a8.out,by rw [H.out]; exact ⟨j,p,l,rfl,a0.grownR Q (by omega),(i.mono s.size).keptA N Q⟩⟩⟩
     · have av:(0:Int)<(R:Int):=by omega
       have aI:¬ ((0:Int)<(T:Int)):=by omega
       clear h0 aH;go_wp2;obtain ⟨z,H⟩:∃ r,Hid (resQ (U:Int) (Pl.prodT la lb)=r):=⟨_,qh rfl⟩
       refine Ab (by kernel_rfl) (fun f=>Ext F f)
        [he (.pointer (some ⟨w.heap.size,0,none⟩)),
 he (.int .i64 (U:Int)),
 he (.slice a1 R c1),
 he (.slice b1 T d1),
 hu 5 (fun v f=>L4 F (Pl.prodT la lb) v f),
 hmp (fun v f=>NPE F z v f),
 hp (fun v f=>NPo F z v f),
 he (.int .i64 z.2.2)]
        (by kernel_rfl) (fun _ _ e h=>h.trans e) ((Ext.refl F).drew) ⟨trivial,trivial,trivial,trivial,L4.x _ _,NPE.x _ _,NPo.x _ _,trivial,trivial⟩ ⟨?o0, ?o1, ?o2, ?o3, ?o4, ?o5, ?o6, ?o7,trivial⟩ ?fin
       case o0=>exact ofa (d:=0)
       case o1=>exact ol
       case o2 | o3=>exact omv
       case o4 =>
        refine Am rfl fun G f g O a2 h => ?_;have e0:G (.tmp 39)=(.slice a1 R c1):=h.2.1;have e1:G (.tmp 40)=(.slice b1 T d1):=h.2.2.1;refine ⟨82,#[.slice a1 R c1, .slice b1 T d1],by go_simp,((D f g).out).mono ?_⟩;rintro e w' ⟨a6,⟨j,p,l,rfl,C,i⟩,h1,h2⟩;exact ⟨_,rfl,C,j,p,l,a6,rfl,i.mono g.size,h1,h2⟩
       case o5 =>
        refine Gx rfl ?_;intro G f hp g h;have O:=hp.const;have a2:=hp.func;have e0:G (.tmp 38)=(.int .i64 (U:Int)):=h.2.1;obtain ⟨v1,e1,W,a5,X,aE,rfl,J,K,L⟩:=h.2.2.1;have P:=S.out.fits.out K L;have aA:=J.len;refine ⟨69,#[.int .i64 (U:Int), .slice W a5 X],by go_simp,(Cw (vars:=U) (w0:=F) (hT.ext s) g J (by omega) P.1 P.2.1 (by omega)).mono ?_⟩;intro e w' hw;have hq:=FE.q hw K L;rw [H.out] at hq;obtain ⟨j,p,l,rfl,C,i⟩:=hq
        exact ⟨_,rfl,C,⟨trivial,trivial,trivial,trivial,trivial,trivial,trivial,trivial,trivial⟩,j,p,l,rfl,i⟩
       case o6 =>
        refine AY rfl ?_;intro G f hp g h;obtain ⟨v0,e0,A,E,B,rfl,I⟩:=h.1;exact ⟨BW z.1 A E B,f,by go_simp,Ext.refl _,A,E,B,rfl,I⟩
       case o7 =>
        refine BE rfl ?_;intro G f hp g h;obtain ⟨v0,e0,A,E,B,rfl,I⟩:=h.1;go_simp
       case fin =>
        intro f g;rintro _;rintro _ h42;rintro _ h43;change wpList _ _ _ _ _ _;simp only [List.length_cons,List.length_nil,List.drop_succ_cons,List.drop_zero,Act.put,List.setIfInBounds_toArray,List.set_cons_succ,List.set_cons_zero];obtain ⟨j,p,l,rfl,i⟩:=h43;clear h42;have a0:=s.trans g;have N:=M.ext g;have a4:BW z.1 j p l = .agg #[.int .i64 z.1, .slice j p l]:=rfl;rw [a4];have aD:(Aq z.1 j p l).toArray=#[.int .i64 z.1, .slice j p l]:=rfl
        go_wp2_with (refine Aa (vs:=Aq z.1 j p l) rfl rfl rfl rfl rfl Ae N rfl (Ar _ _ _ _) ?_; intro w8 Y Q)
        refine bodyPost_ret (At rfl Ae rfl rfl Y) rfl ?_;exact Or.inl ⟨la,lb,rfl,rfl,HV.out,Or.inl ⟨a8.out,by rw [H.out]; exact ⟨j,p,l,rfl,a0.grownR Q (by omega),(i.mono s.size).keptA N Q⟩⟩⟩
   · have av:(0:Int)<(R:Int):=by omega
     have aI:(0:Int)<(T:Int):=by omega
     have ap:Hid (la≠[]/\lb≠[]):=qh ⟨fun h=>h0 (Or.inl (af.2 h)),fun h=>h0 (Or.inr (ae.2 h))⟩;clear h0 af ae;generalize aw:Dl la=dA at *
     generalize ax:Dl lb=dB at *
     go_wp2_with fail
     refine (ay _ (Ext.refl _)).out.mono ?_;rintro e w2 ⟨rfl,am⟩
     go_wp2_with fail
     refine (az _ am).out.mono ?_;rintro e w3 ⟨rfl,au⟩;have V:=am.trans au;have s:=s.trans V;have M:=M.ext V;have ai:=V.cell ai;have D:=fun (f:World) (g:Ext w3 f)=>D f (V.trans g);have aW:IntKind.i64.wrap (dA+dB)=dA+dB:=IntWalk.i64_in _ (by omega);obtain ⟨aX,rfl⟩:∃ x:World,x=F:=⟨_,rfl⟩;obtain ⟨F,rfl⟩:∃ x:World,x=w3:=⟨_,rfl⟩;clear ay az am au aa ab a9;by_cases ao:24<dA+dB
     · go_wp2_with (refine Aa (vs:=Aq 0 none 0 0) rfl rfl rfl rfl rfl Ae M rfl (Ar _ _ _ _) ?_; intro w9 Z a3)
       refine bodyPost_ret (At rfl Ae rfl rfl Z) rfl ?_;exact Or.inl ⟨la,lb,rfl,rfl,HV.out,Or.inr ⟨⟨ap.out.1,ap.out.2,by rw [aw,ax]; exact ao⟩,none,0,0,rfl,s.grownR a3 (by omega),TmO.nil _ _⟩⟩
     · have a8:Hid (¬ (la≠[]/\lb≠[]/\24<Dl la+Dl lb)):=qh (fun ⟨_,_,h⟩=>ao (by rw [<-aw,<-ax]; exact h));go_wp2;obtain ⟨z,H⟩:∃ r,Hid (resQ (U:Int) (Pl.prodT la lb)=r):=⟨_,qh rfl⟩
       refine Ab (by kernel_rfl) (fun f=>Ext F f)
        [he (.pointer (some ⟨w.heap.size,0,none⟩)),
 he (.int .i64 (U:Int)),
 he (.slice a1 R c1),
 he (.slice b1 T d1),
 hu 5 (fun v f=>L4 F (Pl.prodT la lb) v f),
 hmp (fun v f=>NPE F z v f),
 hp (fun v f=>NPo F z v f),
 he (.int .i64 z.2.2)]
        (by kernel_rfl) (fun _ _ e h=>h.trans e) ((Ext.refl F).drew) ⟨trivial,trivial,trivial,trivial,L4.x _ _,NPE.x _ _,NPo.x _ _,trivial,trivial⟩ ⟨?o0, ?o1, ?o2, ?o3, ?o4, ?o5, ?o6, ?o7,trivial⟩ ?fin
       case o0=>exact ofa (d:=0)
       case o1=>exact ol
       case o2 | o3=>exact omv
       case o4 =>
        refine Am rfl fun G f g O a2 h => ?_;have e0:G (.tmp 39)=(.slice a1 R c1):=h.2.1;have e1:G (.tmp 40)=(.slice b1 T d1):=h.2.2.1;refine ⟨82,#[.slice a1 R c1, .slice b1 T d1],by go_simp,((D f g).out).mono ?_⟩;rintro e w' ⟨a6,⟨j,p,l,rfl,C,i⟩,h1,h2⟩;exact ⟨_,rfl,C,j,p,l,a6,rfl,i.mono g.size,h1,h2⟩
       case o5 =>
        refine Gx rfl ?_;intro G f hp g h;have O:=hp.const;have a2:=hp.func;have e0:G (.tmp 38)=(.int .i64 (U:Int)):=h.2.1;obtain ⟨v1,e1,W,a5,X,aE,rfl,J,K,L⟩:=h.2.2.1;have P:=S.out.fits.out K L;have aA:=J.len;refine ⟨69,#[.int .i64 (U:Int), .slice W a5 X],by go_simp,(Cw (vars:=U) (w0:=F) (hT.ext s) g J (by omega) P.1 P.2.1 (by omega)).mono ?_⟩;intro e w' hw;have hq:=FE.q hw K L;rw [H.out] at hq;obtain ⟨j,p,l,rfl,C,i⟩:=hq
        exact ⟨_,rfl,C,⟨trivial,trivial,trivial,trivial,trivial,trivial,trivial,trivial,trivial⟩,j,p,l,rfl,i⟩
       case o6 =>
        refine AY rfl ?_;intro G f hp g h;obtain ⟨v0,e0,A,E,B,rfl,I⟩:=h.1;exact ⟨BW z.1 A E B,f,by go_simp,Ext.refl _,A,E,B,rfl,I⟩
       case o7 =>
        refine BE rfl ?_;intro G f hp g h;obtain ⟨v0,e0,A,E,B,rfl,I⟩:=h.1;go_simp
       case fin =>
        intro f g;rintro _;rintro _ h42;rintro _ h43;change wpList _ _ _ _ _ _;simp only [List.length_cons,List.length_nil,List.drop_succ_cons,List.drop_zero,Act.put,List.setIfInBounds_toArray,List.set_cons_succ,List.set_cons_zero];obtain ⟨j,p,l,rfl,i⟩:=h43;clear h42;have a0:=s.trans g;have N:=M.ext g;have a4:BW z.1 j p l = .agg #[.int .i64 z.1, .slice j p l]:=rfl;rw [a4];have aD:(Aq z.1 j p l).toArray=#[.int .i64 z.1, .slice j p l]:=rfl
        go_wp2_with (refine Aa (vs:=Aq z.1 j p l) rfl rfl rfl rfl rfl Ae N rfl (Ar _ _ _ _) ?_; intro w8 Y Q)
        refine bodyPost_ret (At rfl Ae rfl rfl Y) rfl ?_;exact Or.inl ⟨la,lb,rfl,rfl,HV.out,Or.inl ⟨a8.out,by rw [H.out]; exact ⟨j,p,l,rfl,a0.grownR Q (by omega),(i.mono s.size).keptA N Q⟩⟩⟩
 · go_wp2_with (refine Aa (vs:=Aq 0 none 0 0) rfl rfl rfl rfl rfl Ae M rfl (Ar _ _ _ _) ?_; intro w9 Z a3)
   refine bodyPost_ret (At rfl Ae rfl rfl Z) rfl ?_;exact Or.inr (Or.inl ⟨hs,hv,none,0,0,rfl,s.grownR a3 (by omega),TmO.nil _ _⟩)
 · go_wp2_with (refine Aa (vs:=Aq 0 none 0 0) rfl rfl rfl rfl rfl Ae M rfl (Ar _ _ _ _) ?_; intro w9 Z a3)
   refine bodyPost_ret (At rfl Ae rfl rfl Z) rfl ?_;exact Or.inr (Or.inr ⟨hs,none,0,0,rfl,s.grownR a3 (by omega),TmO.nil _ _⟩)
def Ej (k:Nat):List Int:=ze.set k 1
theorem Ok {e:List Int} {q:Rat} (h:e.length=6) (a:q≠0):Pl.Nrm [(e,q)]:=⟨by simpa using h,by simpa using a,by simp⟩
theorem IG {e b i:World} {r:Int×List Tx×Int} (f:Ext w e) (d:Ext e b) (j:TmO b e.heap.size a n c r.2.1) (k:Arr b R 28 cs) (g:b.grownBy i (some R)) (l:w.heap.size<=R):C9 w r (.returned (.tuple #[BW r.1 a n c, .int .i64 r.2.2])) i :=
 ⟨a,n,c,rfl,(f.trans d).grownR g l,(j.mono f.size).keptA k g⟩
def IH (w:World) (vars i:Int) (e:Ending) (w':World):Prop:=(0<=vars/\vars<=6/\0<=i/\i<vars/\C9 w (resQ vars [(Ej i.toNat,1)]) e w')\/(¬ (0<=vars/\vars<=6/\0<=i/\i<vars)/\Cr w 0 [] 3 e w')
theorem L5 {vars:Int} (hT:AR w):Calls prog 16 #[.int .i64 vars, .int .i64 i] w (IH w vars i):=by
 go_enter func16,ntmps16
 go_upto_region 1 with (fail)
 refine AE ?_;intro w0 B T aH;have hR:Arr w0 w.heap.size 28 (Aq 0 none 0 0):=T;have aK:(Aq 0 none 0 0).toArray=#[.int .i64 0, .slice none 0 0]:=rfl;clear T aH;by_cases E:0<=vars/\vars<=6/\0<=i/\i<vars
 · obtain ⟨h1,h2,h3,h4⟩:=E;obtain ⟨N,rfl⟩:∃ k:Nat,vars=(k:Int):=⟨vars.toNat,by omega⟩;obtain ⟨k,rfl⟩:∃ k:Nat,i=(k:Int):=⟨i.toNat,by omega⟩;have c1:¬ ((N:Int)<0):=by omega
   have c2:¬ ((6:Int)<(N:Int)):=by omega
   have c3:¬ ((k:Int)<0):=by omega
   have c4:¬ ((N:Int)<=(k:Int)):=by omega
   have a3:=qh (Pa (z:=1) (w:=w0) (by omega) (by omega))
   go_wp2_with fail
   refine a3.out.mono ?_;rintro e w1 ⟨_,rfl,C,s1,g,o,m,j,n,l,rfl,P,a5,a6⟩;have aC:(Ao s1 g o m false j n l).toArray=#[.bool s1, .slice g o m, .bool false, .slice j n l]:=rfl;have aI:(As ze s1 g o m j n l).toArray=#[.int .i64 0, .int .i64 0, .int .i64 0, .int .i64 0, .int .i64 0, .int .i64 0, .bool s1, .slice g o m, .bool false, .slice j n l]:=rfl;have hY:=Arr.new w1 92 (As ze false none 0 0 none 0 0)
   go_upto_region 4 with (refine Aa (vs:=As ze s1 g o m j n l) rfl rfl rfl rfl rfl Au hY rfl AJ ?_; intro w3 a a2)
   have d:Ext w1 w3:=((Ext.refl w1).alloc _).grownR a2 (lrf _);have v:=C.trans d;have hX:w0.heap.size<=w1.heap.size:=C.size;have F:=a5.ext d;have G:=a6.ext d;obtain ⟨X,Z⟩:∃ x,w1.heap.size=x:=⟨_,rfl⟩;rw [Z] at a hX |-;have aE:((1:Int):Rat)=1:=rfl;rw [aE] at F G P;clear a3 hY a2 C d a5 a6 Z aC;have a9:=a.c 0 rfl;have aa:=a.c 1 rfl;have ab:=a.c 2 rfl;have ac:=a.c 3 rfl;have ad:=a.c 4 rfl;have ae:=a.c 5 rfl;have af:=a.c 6 rfl;have ag:=a.c 7 rfl;have ah:=a.c 8 rfl;have ai:=a.c 9 rfl
   have f:k=0\/k=1\/k=2\/k=3\/k=4\/k=5:=by omega
   have aB:(k:Int)<6:=by omega
   have aj:w3.cell? ⟨X,k,none⟩=some (.int .i64 0):=by rcases f with rfl | rfl | rfl | rfl | rfl | rfl <;> assumption
   obtain ⟨H,I,J,K,L,M,hu⟩:∃ H I J K L M,Ej k=[H,I,J,K,L,M]:=by rcases f with rfl|rfl|rfl|rfl|rfl|rfl <;> exact ⟨_,_,_,_,_,_,rfl⟩
   have a4:(As ze s1 g o m j n l).set k (.int .i64 1)=As [H,I,J,K,L,M] s1 g o m j n l:=by
    rw [<-hu];rcases f with rfl|rfl|rfl|rfl|rfl|rfl <;> rfl
   have a0:∀ x∈[H,I,J,K,L,M],0<=x/\x<=1099511627776:=by
    rw [<-hu];rcases f with rfl|rfl|rfl|rfl|rfl|rfl <;> simp [Ej,ze]
   have HU:=qh hu;have a8:=qh a0;clear f hu a0;have ff:=a.frozen k;have b:Arr (w3.setCell ⟨X,k,none⟩ (.int .i64 1)) X 92 (As [H,I,J,K,L,M] s1 g o m j n l):=(by have:=a.set k (.int .i64 1); rw [a4] at this; exact this);have s:=Af w3 X k (.int .i64 1);have hU:=a.noU Ba;have aF:=F.keptU hU s;have aG:=G.keptU hU s;have y:=v.grownR s hX
   go_upto_region 5 with (fail)
   clear a9 aa ab ac ad ae af ag ah ai aj ff a4 aB s hU a F G v;generalize w3.setCell ⟨X,k,none⟩ (.int .i64 1)=w4 at *
   have ak:=b.c 0 rfl;have al:=b.c 1 rfl;have am:=b.c 2 rfl;have an:=b.c 3 rfl;have ao:=b.c 4 rfl;have ap:=b.c 5 rfl;have aq:=b.c 6 rfl;have ar:=b.c 7 rfl;have au:=b.c 8 rfl;have av:=b.c 9 rfl;have V:=LR (e:=[H,I,J,K,L,M]) y rfl ⟨s1,g,o,m,j,n,l,rfl,P,aF,aG⟩;have A:=y.alloc (.cells (As [H,I,J,K,L,M] s1 g o m j n l).toArray 92)
   have Y:=Cw (vars:=N) (w0:=w0) (hT.ext B) A V (by omega) (by intro t ht; simp only [List.mem_singleton] at ht; subst ht; exact ⟨rfl,a8.out⟩) (by intro t ht; simp only [List.mem_singleton] at ht; subst ht; exact Dg (show (1:Rat).num.natAbs<18446744073709551616 by decide) (show (1:Rat).den<18446744073709551616 by decide)) (by omega);have Q:=qh Y;clear Y V A b
   go_wp2_with fail
   refine Q.out.mono ?_;intro e w7 hw;have hq:=FE.q (p:=[(Ej k,1)]) hw (Ok rfl (by decide)) (fun _=>by rw [HU.out]);obtain ⟨rr,O⟩:∃ r,Hid (resQ (N:Int) [(Ej k,1)]=r):=⟨_,qh rfl⟩;rw [O.out] at hq;obtain ⟨R,n7,S,rfl,U,ay⟩:=hq;have aD:BW rr.1 R n7 S = .agg #[.int .i64 rr.1, .slice R n7 S]:=rfl;rw [aD];have aJ:(Aq rr.1 R n7 S).toArray=#[.int .i64 rr.1, .slice R n7 S]:=rfl;have W:=hR.ext U;clear hw Q ak al am an ao ap aq ar au av
   go_wp2_with (refine Aa (vs:=Aq rr.1 R n7 S) rfl rfl rfl rfl rfl Ae W rfl (Ar _ _ _ _) ?_; intro w8 aw az)
   refine bodyPost_ret (At rfl Ae rfl rfl aw) rfl ?_;exact Or.inl ⟨by omega,by omega,by omega,by omega,by show C9 w (resQ (N:Int) [(Ej k,1)]) _ _; rw [O.out]; exact IG B U ay W az (lrf _)⟩
 · have HF:Hid (∀ e w',Cr w 0 [] 3 e w'->IH w vars i e w'):=qh (fun e w' h=>Or.inr ⟨E,h⟩);have D:vars<0\/(¬ vars<0/\6<vars)\/(¬ vars<0/\¬ 6<vars/\i<0)\/(¬ vars<0/\¬ 6<vars/\¬ i<0/\vars<=i):=by omega
   clear E;rcases D with h1|⟨h1,h2⟩|⟨h1,h2,h3⟩|⟨h1,h2,h3,h4⟩
   all_goals
    go_wp2_with (refine Aa (vs:=Aq 0 none 0 0) rfl rfl rfl rfl rfl Ae hR rfl (Ar _ _ _ _) ?_; intro w9 ax aA)
    refine bodyPost_ret (At rfl Ae rfl rfl ax) rfl ?_;exact HF.out _ _ ⟨none,0,0,rfl,B.grownR aA (lrf _),TmO.nil _ _⟩
theorem Bf (xs:List Nat) (k:Nat):W.val B (xs.take (k+1))=W.val B (xs.take k)+B^k*xs.getD k 0:=by
 by_cases h:k<xs.length
 · exact W.val_take_succ h
 · rw [List.take_of_length_le (by omega),List.take_of_length_le (by omega),gqq,List.getElem?_eq_none (by omega)];simp
theorem Hp (hp:p<l.length) (h:W.val B l+c*B^p=V) (e:s+B*c'=l.getD p 0+D+c):W.val B (l.set p s)+c'*B^(p+1)=V+D*B^p:=by
 have h1:=W.val_set (B:=B) (xs:=l) (i:=p) (v:=s) hp;have h2:B^p*(s+B*c')=B^p*(l.getD p 0+D+c):=by rw [e]
 rw [Nat.mul_add,Nat.mul_add,Nat.mul_add] at h2;have h3:B^p*(B*c')=c'*B^(p+1):=by rw [Nat.pow_succ,<-Nat.mul_assoc,Nat.mul_comm]
 have h4:B^p*D=D*B^p:=Nat.mul_comm _ _;have h5:B^p*c=c*B^p:=Nat.mul_comm _ _;omega
theorem Nd {Y A:Nat} (hp:p<l.length) (h:W.val B l+Y=V+c*B^p) (e:s+D+c=l.getD p 0+A+B*c'):W.val B (l.set p s)+(Y+D*B^p)=(V+A*B^p)+c'*B^(p+1):=by
 have h1:=W.val_set (B:=B) (xs:=l) (i:=p) (v:=s) hp;have h2:B^p*(s+D+c)=B^p*(l.getD p 0+A+B*c'):=by rw [e]
 rw [Nat.mul_add,Nat.mul_add,Nat.mul_add,Nat.mul_add] at h2;have h3:B^p*(B*c')=c'*B^(p+1):=by rw [Nat.pow_succ,<-Nat.mul_assoc,Nat.mul_comm]
 have h4:B^p*D=D*B^p:=Nat.mul_comm _ _;have h5:B^p*c=c*B^p:=Nat.mul_comm _ _;have h6:B^p*A=A*B^p:=Nat.mul_comm _ _;omega
theorem FQ (h:∀ j,k<=j->l.getD j 0=0):∀ j,k+1<=j->(l.set k s).getD j 0=0:=by
 intro j a;rw [gqq,List.getElem?_set_ne (by omega),<-gqq];exact h j (by omega)
theorem DD (n j:Nat):(List.replicate n 0).getD j 0=0:=by
 rw [gqq,List.getElem?_replicate];split <;> rfl
theorem ER (a:0<B) (n:Nat):W.bnd B (List.replicate n 0):=fun x b=>by rw [(List.mem_replicate.1 b).2]; exact a
theorem CF {x:Nat} (h:x<18446744073709551616):IntKind.u64.wrap (x:Int)=(x:Int):=by
 show (x:Int)%18446744073709551616=x;omega
theorem Hq (x:Nat):IntKind.u32.wrap (x:Int)=((x%4294967296:Nat):Int):=by
 show (x:Int)%4294967296=_;omega
theorem T0 (hu:u<4294967296) (d:v<4294967296) (b:o<4294967296) (a:c<4294967296):u*v+o+c<18446744073709551616:=by
 have:u*v<=4294967295*4294967295:=Nat.mul_le_mul (by omega) (by omega);omega
structure Est (b y1 U q h r:Nat):Prop where
 eq:h*y1+r=U
 lo:q<=h
 hi:h<=b+1
theorem Est.start {b q:Nat} (h1:b<=2*y1) (h0:y0<b) (d:U<=y1*b+y0) (a:q*(y1*b+y0)<=U*b+u) (hu:u<b):Est b y1 U q (U/y1) (U%y1):=by
 have c:0<y1:=by omega
 have e:U/y1*y1+U%y1=U:=Nat.div_add_mod' U y1;refine ⟨e,W.guess_hi e a hu (Nat.mod_lt _ c), ?_⟩;rcases Nat.lt_or_ge (b+1) (U/y1) with h|h
 · exfalso;have h2:(b+2)*y1<=U/y1*y1:=Nat.mul_le_mul_right _ h;have h4:(b+2)*y1=y1*b+2*y1:=by grind
   omega
 · exact h
theorem Est.down {b q:Nat} (E:Est b y1 U q h r) (d:q*(y1*b+y0)<=U*b+u) (a:q<b) (c:b<=h\/b*r+u<h*y0):0<h/\h-1<=b/\Est b y1 U q (h-1) (r+y1):=by
 have h1:=W.guess_down E.eq d a c;have h2:=E.hi;refine ⟨by omega,by omega, ?_,by omega,by omega⟩;have h3:=E.eq;obtain ⟨k,rfl⟩:∃ k,h=k+1:=⟨h-1,by omega⟩;rw [Nat.add_mul,Nat.one_mul] at h3;rw [Nat.add_sub_cancel];omega
theorem Est.done {b q d P lo a:Nat} (E:Est b y1 U q h r) (k:h*y0<=b*r+u) (h1:b<=2*y1) (g:2<=b) (f:d=(U*b+u)*P+lo) (e:D=(y1*b+y0)*P+a) (c:a < P) (i:d<(q+1)*D) (j:q<b):h<=q+1:=by
 have h2:h*(y1*b+y0)<=U*b+u:=by
  have h2:h*(y1*b+y0)=h*y1*b+h*y0:=by grind
  have h3:U*b=h*y1*b+r*b:=by rw [<-E.eq]; grind
  have h4:b*r=r*b:=Nat.mul_comm _ _;omega
 refine W.digit_lo (by omega) f e c i h2 ?_;have h3:1*b<=y1*b:=Nat.mul_le_mul_right _ (by omega);omega
theorem QC {w:Nat} (hp:o+k<l.length) (h:W.val B l+c*B^(o+k)=V+w*W.val B (xs.take k)*B^o) (e:s+B*c'=l.getD (o+k) 0+w*xs.getD k 0+c):W.val B (l.set (o+k) s)+c'*B^(o+(k+1))=V+w*W.val B (xs.take (k+1))*B^o:=by
 have h1:=Hp (D:=w*xs.getD k 0) hp h e;rw [Bf,Nat.mul_add,Nat.add_mul];have h2:w*(B^k*xs.getD k 0)*B^o=w*xs.getD k 0*B^(o+k):=by rw [Nat.pow_add]; grind
 rw [show o+(k+1)=o+k+1 by omega];omega
theorem Ti {w:Nat} (hp:o+k<l.length) (h:W.val B l+w*W.val B (xs.take k)*B^o=V+c*B^(o+k)) (e:s+w*xs.getD k 0+c=l.getD (o+k) 0+B*c'):W.val B (l.set (o+k) s)+w*W.val B (xs.take (k+1))*B^o=V+c'*B^(o+(k+1)):=by
 have h1:=Nd (D:=w*xs.getD k 0) (A:=0) hp h (by omega);rw [Bf,Nat.mul_add,Nat.add_mul];have h2:w*(B^k*xs.getD k 0)*B^o=w*xs.getD k 0*B^(o+k):=by rw [Nat.pow_add]; grind
 rw [show o+(k+1)=o+k+1 by omega];rw [Nat.zero_mul] at h1;omega
theorem BP:BL prog 241 (.int .u32 0) 4:=by unfold BL; kernel_rfl
def TyS (w:World) (a:Option Addr) (t:TypeId):Prop:=∀ g,blk a=some g->∃ cs fr,w.heap[g]?=some (.cells cs t fr)
theorem TyS.ext (h:TyS w a t) (e:Ext w w'):TyS w' a t:=fun g d=>by
 obtain ⟨b,c,h1⟩:=h g d;exact ⟨b,c,by rw [e.block (Array.getElem?_eq_some_iff.1 h1).1]; exact h1⟩
theorem TyS.kept (h:TyS w a t) (f:w.grownBy w' row) (c:blk a=none\/blk a≠row):TyS w' a t:=fun g b=>by
 obtain ⟨d,e,h1⟩:=h g b;have i:some g≠row:=by
  rcases c with h2|h2
  · rw [h2] at b; cases b
  · rw [b] at h2; exact h2
 exact ⟨d,e,by rw [f.block g (Array.getElem?_eq_some_iff.1 h1).1 i]; exact h1⟩
theorem TyS.none (w:World) (t:TypeId):TyS w none t:=fun g h=>by cases h
theorem Own.ty (h:Own w base e a n c cs):TyS w a e:=fun k d=>by
 rcases h.2 with ⟨b,_⟩|⟨g,f,i,b,l,j,_⟩
 · simp only [Value.slice.injEq] at b;rw [b.1] at d;cases d
 · simp only [Value.slice.injEq] at b;rw [b.1] at d;have:g=k:=by simpa [blk] using d
   subst this;exact ⟨_,_,j⟩
theorem Av.ty {k:IntKind} {w:World} {base:Nat} {e:TypeId} {g n c:Nat} {xs:List Nat} (h:Av k w base e g n c xs):TyS w (some ⟨g,0,Option.none⟩) e:=Own.ty h
theorem TyS.ne {cs:Array Value} {c:Nat×Nat} (h:TyS w a t) (e:w.heap[g]?=some (.cells cs t' c)) (i:t≠t'):blk a≠some g:=fun f=>by
 obtain ⟨b,d,h1⟩:=h g f;rw [e] at h1;simp only [Option.some.injEq,Obj.cells.injEq] at h1;exact i h1.2.1.symm
def Mg (w:World) (a:Option Addr) (n c:Nat) (x:Nat):Prop:=∃ xs,SlN .u32 w a n c xs/\Num 4294967296 xs x/\TyS w a 241
theorem Mg.ext {w b:World} {a:Option Addr} {n c x:Nat} (h:Mg w a n c x) (e:Ext w b):Mg b a n c x:=by
 obtain ⟨d,h1,h2,h3⟩:=h;exact ⟨d,h1.ext e,h2,h3.ext e⟩
theorem Mg.kept {w i:World} {a:Option Addr} {n c x:Nat} {row:Option Nat} (h:Mg w a n c x) (f:w.grownBy i row) (j:∀ g,row=some g->∃ d t e,w.heap[g]?=some (.cells d t e)/\241≠t):Mg i a n c x:=by
 obtain ⟨k,h1,h2,h3⟩:=h;have b:blk a=none\/blk a≠row:=by
  cases row with
  | none=>cases h:blk a <;> simp
  | some g =>
   obtain ⟨d,t,e,h4,h5⟩:=j g rfl;exact Or.inr (h3.ne h4 h5)
 exact ⟨k,h1.kept f b,h2,h3.kept f b⟩
theorem Mg.keptA {x:Nat} (h:Mg w a n c x) (d:Arr w g t cs) (f:241≠t) (e:w.grownBy w' (some g)):Mg w' a n c x :=
 h.kept e fun k b=>by
  injection b with b;subst b;exact ⟨_,_,_,d,f⟩
theorem Mg.nil (w:World):Mg w none 0 0 0:=⟨[],SlN.nil _ _,Num.nil _,TyS.none _ _⟩
theorem Mg.zero {x:Nat} (h:Mg w a n c x):n=0<->x=0:=by
 obtain ⟨b,h1,h2,-⟩:=h;have h3:=W.nrm_zero (B:=4294967296) (by omega) h2.nrm;rw [h2.val] at h3;have h4:=h1.len;constructor
 · intro h0;exact h3.2 (List.eq_nil_of_length_eq_zero (by omega))
 · intro h0;rw [h3.1 h0] at h4;exact h4.symm
def QD (w:World) (x:Nat) (e:Ending) (w':World):Prop:=∃ a n c,e = .returned (.slice a n c)/\Ext w w'/\Mg w' a n c x
theorem CG (i:SlN .u32 w a n c xs) (b:TyS w a 241) (e:m<=n) (f:W.trim xs=xs.take m) (d:W.bnd 4294967296 xs) (g:W.val 4294967296 xs=v):Mg w a m c v :=
 ⟨W.trim xs,by rw [f]; exact i.upto e,Num.trim d g,b⟩
theorem BB (g:SlN .u32 w a n c xs) :
 Calls prog 212 #[.slice a n c] w fun e B=>∃ m,e = .returned (.slice a m c)/\w=B/\m<=n/\W.trim xs=xs.take m:=by
 have q:=qh g.len;have x:=g.le;have p:=g.cap
 go_enter func212,ntmps212
 go_wp2
 go_loop [0] (fun v=>∃ k:Nat,k<=n/\v = .slice a k c/\Hid (W.trim xs=W.trimTo xs k)) (fun v=>match v with | .slice _ k _=>k | _=>0)
 case atStart=>exact ⟨n,lrf _,rfl,qh (by unfold W.trim; rw [q.out])⟩
 case round =>
  obtain ⟨k,D,rfl,i⟩:=hrel;cases k with
  | zero =>
   go_wp2;go_ret;exact ⟨0,rfl,rfl,by omega,by rw [i.out]; rfl⟩
  | succ k =>
   have z:=fun C:World=>D8 (P:=prog) (w:=C) (a:=a) (n:=k+1) underlying95 BP (k:=k) (c:=c) (by omega);obtain ⟨b,o,rfl,l⟩:=g.at (j:=k) (by omega);have r:=l k (by omega);have E:IntKind.i64.wrap (((k+1:Nat):Int)-1)=k:=by rw [Int.natCast_add,Int.natCast_one,Int.add_sub_cancel]; exact IntWalk.i64_in _ (by omega)
   have A:IntKind.i64.wrap ((k:Int)+1-1)=k:=by rw [Int.add_sub_cancel]; exact IntWalk.i64_in _ (by omega)
   have s:(k:Int)<(k:Int)+1:=by omega
   by_cases f:xs.getD k 0=0
   · have d:Hid (W.trim xs=W.trimTo xs k):=by
      show _=_;rw [i.out];exact if_pos f
     rw [f] at r;clear f l;go_wp2;go_round
     case rel=>exact ⟨k,by omega,rfl,d⟩
     case measure=>simp
   · have d:Hid (W.trim xs=xs.take (k+1)):=by
      show _=_;rw [i.out];exact if_neg f
     have t:(((xs.getD k 0:Nat):Int) == 0)=false:=by simpa using f
     generalize xs.getD k 0=y at *
     clear f l;go_wp2;go_ret;exact ⟨k+1,rfl,rfl,by omega,d.out⟩
theorem Ea {x:Nat} (E:Mg w a n c x) (F:Mg w b m d y) :
 Calls prog 259 #[.slice a n c, .slice b m d] w fun e Y=>e = .returned (.int .i64 (AN x y))/\Qt w Y:=by
 obtain ⟨xs,E,N,-⟩:=E;obtain ⟨ys,F,O,-⟩:=F;have p:=qh E.len;have q:=qh F.len;have X:=E.le;have V:=F.le;have r:=qh N;have s:=qh O;clear N O;by_cases D:n=m
 · have J:((n:Int) != (m:Int))=false:=by simp [D]
   have H:=qh D;clear D
   go_enter func259,ntmps259
   go_wp2
   go_loopw [5] (fun v wr=>∃ k:Nat,k<=n/\v = .int .i64 ((k:Int)-1)/\Qt w wr/\Hid (xs.drop k=ys.drop k)) (fun v _=>(intOf v+1).toNat)
   case atStart=>exact ⟨n,lrf _,by go_num,Qt.refl _,qh (by rw [List.drop_of_length_le (by rw [p.out]; exact lrf _),List.drop_of_length_le (by rw [q.out,H.out]; exact lrf _)])⟩
   case round =>
    obtain ⟨k,hk,rfl,A,G⟩:=hrel;cases k with
    | zero =>
     have P:Hid (x=y):=by
      have:=G.out;rw [List.drop_zero,List.drop_zero] at this;show x=y;rw [<-r.out.val,<-s.out.val,this]
     go_wp2;go_ret;exact ⟨CU (by rw [P.out,Oj]),A⟩
    | succ k =>
     have g:k<m:=by have:=H.out; omega
     obtain ⟨Z,o1,rfl,t⟩:=(E.ext A.ext).at (j:=k) (by omega);obtain ⟨b2,o2,rfl,z⟩:=(F.ext A.ext).at (j:=k) g;have L:=t k (by omega);have M:=z k g;have K:((k+1:Nat):Int)-1=k:=by omega
     rw [K];by_cases he:xs.getD k 0=ys.getD k 0
     · have S:(((xs.getD k 0:Nat):Int) != ((ys.getD k 0:Nat):Int))=false:=LY he;have I:Hid (xs.drop k=ys.drop k):=by
        show _=_;rw [List.drop_eq_getElem_cons (l:=xs) (by rw [p.out]; omega),List.drop_eq_getElem_cons (l:=ys) (by rw [q.out]; exact g),G.out];simp only [gqq,List.getElem?_eq_getElem (show k<xs.length by rw [p.out]; omega),List.getElem?_eq_getElem (show k<ys.length by rw [q.out]; exact g),Option.getD_some] at he;rw [he]
       generalize xs.getD k 0=u at *
       generalize ys.getD k 0=v at *
       clear he t z;go_wp2
       go_quiet (fail)
       go_wp2;go_roundw
       case rel=>exact ⟨k,by omega,by go_num,A.drewN _,I⟩
       case measure=>simp [intOf]
     · have S:(((xs.getD k 0:Nat):Int) != ((ys.getD k 0:Nat):Int))=true:=FO he;have f:Hid (AN x y=if xs.getD k 0<ys.getD k 0 then -1 else 1):=by
        show _=_;rcases Ho he with ⟨h1,h2⟩|⟨h1,h2⟩
        · have:=KH (B:=4294967296) (by rw [p.out,q.out,H.out]) (by rw [p.out]; omega) G.out r.out.bnd h1;rw [r.out.val,s.out.val] at this;rw [FM (by omega),if_pos h1]
        · have:=KH (B:=4294967296) (xs:=ys) (ys:=xs) (by rw [p.out,q.out,H.out]) (by rw [q.out]; omega) G.out.symm s.out.bnd h1;rw [r.out.val,s.out.val] at this;rw [FN (by omega),if_neg (by omega)]
       generalize xs.getD k 0=u at *
       generalize ys.getD k 0=v at *
       clear he t z;have U:(k:Int)<n:=by omega
       have T:(k:Int)<m:=by omega
       go_wp2
       go_quiet (fail)
       go_wp2;have Q:(wr.drewN nq).cell? _=_:=L;have R:(wr.drewN nq).cell? _=_:=M;have C:=A.drewN nq;generalize wr.drewN nq=wq at *
       clear L M;by_cases o:u<v
       · have i:(u:Int)<(v:Int):=by omega
         rw [if_pos o] at f;clear o
         go_quiet (fail)
         go_wp2;go_ret;exact ⟨CU f.out,C.drewN _⟩
       · have i:¬ (u:Int)<(v:Int):=by omega
         rw [if_neg o] at f;clear o
         go_quiet (fail)
         go_wp2;go_ret;exact ⟨CU f.out,C.drewN _⟩
 · have J:((n:Int) != (m:Int))=true:=by simp; omega
   have f:Hid (AN x y=if n<m then -1 else 1):=by
    show _=_;rcases Ho D with ⟨h1,h2⟩|⟨h1,h2⟩
    · have:=W.len_lt (B:=4294967296) (by omega) r.out.bnd s.out.nrm (by rw [p.out,q.out]; exact h1);rw [r.out.val,s.out.val] at this;rw [FM (by omega),if_pos h1]
    · have:=W.len_lt (B:=4294967296) (by omega) s.out.bnd r.out.nrm (by rw [p.out,q.out]; exact h1);rw [r.out.val,s.out.val] at this;rw [FN (by omega),if_neg (by omega)]
   clear D;by_cases i:n<m
   · rw [if_pos i] at f
     go_enter func259,ntmps259
     go_wp2;go_ret;exact ⟨CU f.out,Qt.refl _⟩
   · rw [if_neg i] at f
     go_enter func259,ntmps259
     go_wp2;go_ret;exact ⟨CU f.out,Qt.refl _⟩
theorem Ol (hp:p<l.length) (h0:l.getD p 0=0) (h:W.val B l+c*B^p=V):W.val B (l.set p c)=V:=by
 have:=Hp (B:=B) (D:=0) (s:=c) (c':=0) hp h (by rw [h0]; omega);omega
theorem II {x:Nat} (K:Mg w a n c x) (L:Mg w b m d y) (bn:n<=100000) (bm:m<=100000) :
 Calls prog 210 #[.slice a n c, .slice b m d] w (QD w (x+y)):=by
 obtain ⟨xs,K,O,-⟩:=K;obtain ⟨ys,L,Q,-⟩:=L;by_cases hl:n<m
 case' pos =>
  have V:n<=m:=by omega
  have HV:Hid (x+y=W.val 4294967296 ys+W.val 4294967296 xs):=qh (by rw [O.val,Q.val,Nat.add_comm]);have BX:=Q.bnd;have BY:=O.bnd;have hX:=L;have hY:=K;have bN:=bm;clear K L O Q bm bn;generalize b=A,m=N,d=C,ys=X,a=P,n=M,c=D,xs=Y at *
  have q1:(M:Int)<N:=by omega
  go_enter func210,ntmps210
  go_upto_region 3 with (fail)
  clear q1
 case' neg =>
  have V:m<=n:=by omega
  have HV:Hid (x+y=W.val 4294967296 xs+W.val 4294967296 ys):=qh (by rw [O.val,Q.val]);have BX:=O.bnd;have BY:=Q.bnd;have hX:=K;have hY:=L;have bN:=bn;clear K L O Q bm bn;generalize a=A,n=N,c=C,xs=X,b=P,m=M,d=D,ys=Y at *
  have q1:¬ (N:Int)<M:=by omega
  go_enter func210,ntmps210
  go_upto_region 3 with (fail)
  clear q1
 all_goals
  clear hl;generalize x+y=z at *
  have HX:=qh hX.len;have HY:=qh hY.len
  go_upto_region 4 with (at_make; refine Cs (n:=N+1) rfl rfl underlying95 BP rfl rfl rfl (by omega) (by unfold maxLen; omega) ?_; intro w1 Z U)
  go_wp2
  go_loopw [6,7] (fun cv iv wr=>∃ (k f:Nat) (t:List Nat),cv = .int .u64 f/\iv = .int .i64 k/\k<=N/\f<=1/\Ext w wr/\Av .u32 wr w.heap.size 241 w.heap.size (N+1) (N+1) t/\W.bnd 4294967296 t/\Hid (W.val 4294967296 t+f*4294967296^k=W.val 4294967296 (X.take k)+W.val 4294967296 (Y.take k))/\Hid (∀ j,k<=j->t.getD j 0=0)) (fun _ iv _=>N-(intOf iv).toNat)
  case atStart=>exact ⟨0,0,List.replicate (N+1) 0,rfl,rfl,Nat.zero_le _,by omega,U,Av.of_zeros Z,ER (by omega) _,qh (by rw [W.val_zeros]; simp [W.val]),qh (fun j _=>DD _ j)⟩
  case round =>
   clear Z U;obtain ⟨k,f,t,rfl,rfl,hk,a7,J,o,bz,I,R⟩:=hrel;by_cases G:k<N
   · obtain ⟨b1,o1,rfl,a0⟩:=(hX.ext J).at (j:=k) G;have g1:=a0 k G;have g3:=o.frozen k;have g4:=o.cell (i:=k) (by omega);have a9:=W.bnd_at BX (i:=k) (by rw [HX.out]; exact G);have a8:(k:Int)<N:=by omega
     generalize hu:X.getD k 0=u at *
     clear a0;have r:=R.out k (lrf _);by_cases F:k<M
     · have a2:(k:Int)<M:=by omega
       obtain ⟨b2,o2,rfl,a1⟩:=(hY.ext J).at (j:=k) F;have g2:=a1 k F;have aa:=W.bnd_at BY (i:=k) (by rw [HY.out]; exact F);generalize hv:Y.getD k 0=v at *
       clear a1;have S:=qh (Hp (B:=4294967296) (l:=t) (p:=k) (D:=u+v) (s:=(f+u+v)%4294967296) (c':=(f+u+v)/4294967296) (by rw [o.len]; omega) I.out (by rw [r,Nat.mod_add_div]; omega));have e1:((f:Int)+u+v)%4294967296=(((f+u+v)%4294967296:Nat):Int):=by omega
       have e2:((f:Int)+u+v)/4294967296=(((f+u+v)/4294967296:Nat):Int):=by omega
       have e3:(f+u+v)/4294967296<=1:=by omega
       have e4:(f+u+v)%4294967296<4294967296:=Nat.mod_lt _ (by omega);generalize (f+u+v)%4294967296=s at *
       generalize (f+u+v)/4294967296=T at *
       have E:Hid (W.val 4294967296 (t.set k s)+T*4294967296^(k+1)=W.val 4294967296 (X.take (k+1))+W.val 4294967296 (Y.take (k+1))):=by
        show _=_;rw [S.out,Bf,Bf,hu,hv,Nat.add_mul,Nat.mul_comm u,Nat.mul_comm v];omega
       clear S hu hv I;go_wp2;go_roundw
       case rel=>exact ⟨k+1,T,t.set k s,rfl,by go_num,by omega,e3,J.setCell (lrf _) _,o.set k s,W.bnd_set bz e4,E,qh (FQ R.out)⟩
       case measure=>simp [intOf]; omega
     · have a2:¬ (k:Int)<M:=by omega
       have hv:Y.getD k 0=0:=by rw [gqq,List.getElem?_eq_none (by rw [HY.out]; omega)]; rfl
       have S:=qh (Hp (B:=4294967296) (l:=t) (p:=k) (D:=u+0) (s:=(f+u)%4294967296) (c':=(f+u)/4294967296) (by rw [o.len]; omega) I.out (by rw [r,Nat.mod_add_div]; omega));have e1:((f:Int)+u)%4294967296=(((f+u)%4294967296:Nat):Int):=by omega
       have e2:((f:Int)+u)/4294967296=(((f+u)/4294967296:Nat):Int):=by omega
       have e3:(f+u)/4294967296<=1:=by omega
       have e4:(f+u)%4294967296<4294967296:=Nat.mod_lt _ (by omega);generalize (f+u)%4294967296=s at *
       generalize (f+u)/4294967296=T at *
       have E:Hid (W.val 4294967296 (t.set k s)+T*4294967296^(k+1)=W.val 4294967296 (X.take (k+1))+W.val 4294967296 (Y.take (k+1))):=by
        show _=_;rw [S.out,Bf,Bf,hu,hv,Nat.add_mul,Nat.mul_comm u,Nat.mul_comm 0];omega
       clear S hu hv I;go_wp2;go_roundw
       case rel=>exact ⟨k+1,T,t.set k s,rfl,by go_num,by omega,e3,J.setCell (lrf _) _,o.set k s,W.bnd_set bz e4,E,qh (FQ R.out)⟩
       case measure=>simp [intOf]; omega
   · have a5:k=N:=by omega
     subst a5;have g3:=o.frozen k;have g4:=o.cell (i:=k) (by omega);have r:=R.out k (lrf _);have g:=qh (Ol (by rw [o.len]; omega) r I.out);have a6:(f:Int)%4294967296=(f:Int):=by omega
     rw [List.take_of_length_le (by rw [HX.out]; exact lrf _),List.take_of_length_le (by rw [HY.out]; exact V),<-HV.out] at g;clear I R r
     go_upto_region 14 with (fail)
     have H:=o.set k f;have a3:=W.bnd_set bz (i:=k) (v:=f) (by omega);have a4:=J.setCell (p:=⟨w.heap.size,k,none⟩) (lrf _) (.int .u32 (f:Int));generalize wr.setCell ⟨w.heap.size,k,none⟩ (.int .u32 (f:Int))=w5 at *
     clear o bz J g3 g4
     go_wp2_with fail
     refine (BB H.sl).mono ?_;rintro e w6 ⟨q,rfl,rfl,hq,ht⟩;go_wp2;go_ret;exact ⟨_,q,_,rfl,a4,CG H.sl H.ty hq ht a3 g.out⟩
theorem Bt (x:Int):IntKind.u64.wrap x=x%18446744073709551616:=rfl
theorem QE (hu:u<4294967296) (c:v<4294967296) (b:cy<=1):∃ s a:Nat,s<4294967296/\a<=1/\s+v+cy=u+4294967296*a/\IntKind.u64.wrap (IntKind.u64.wrap ((u:Int)-cy)-v)%4294967296=s/\bits BinOp.and IntKind.u64 (IntKind.u64.wrap (IntKind.u64.wrap ((u:Int)-cy)-v)/4294967296) 1=a:=by
 rw [Bt,Bt];by_cases h:v+cy<=u
 · have h1:((u:Int)-cy)%18446744073709551616-v=((u-cy-v:Nat):Int):=by omega
   have h2:(((u:Int)-cy)%18446744073709551616-v)%18446744073709551616=((u-cy-v:Nat):Int):=by omega
   rw [h2];refine ⟨u-cy-v,0,by omega,by omega,by omega,by omega, ?_⟩;rw [show ((u-cy-v:Nat):Int)/4294967296=0 by omega];rfl
 · have h2:(((u:Int)-cy)%18446744073709551616-v)%18446744073709551616=((18446744073709551616+u-cy-v:Nat):Int):=by omega
   rw [h2];refine ⟨4294967296+u-cy-v,1,by omega,by omega,by omega,by omega, ?_⟩;rw [show ((18446744073709551616+u-cy-v:Nat):Int)/4294967296=4294967295 by omega];rfl
theorem Tj (hu:u<4294967296) (b:cy<=1):∃ s a:Nat,s<4294967296/\a<=1/\s+0+cy=u+4294967296*a/\IntKind.u64.wrap ((u:Int)-cy)%4294967296=s/\bits BinOp.and IntKind.u64 (IntKind.u64.wrap ((u:Int)-cy)/4294967296) 1=a:=by
 obtain ⟨s,a,h1,h2,h3,h4,h5⟩:=QE hu (v:=0) (by omega) b;rw [Bt] at h4 h5;have h6:(IntKind.u64.wrap ((u:Int)-cy)-((0:Nat):Int))%18446744073709551616=IntKind.u64.wrap ((u:Int)-cy):=by
  rw [Bt]; omega
 rw [h6] at h4 h5;exact ⟨s,a,h1,h2,h3,h4,h5⟩
theorem IJ {x:Nat} (R:Mg w a n c x) (T:Mg w b m d y) (bn:n<=100000) (P:y<=x) :
 Calls prog 260 #[.slice a n c, .slice b m d] w (QD w (x-y)):=by
 obtain ⟨Y,R,V,-⟩:=R;obtain ⟨G,T,X,-⟩:=T;have a1:m<=n:=by
  refine Classical.byContradiction fun hc => ?_;have:=W.len_lt (B:=4294967296) (by omega) V.bnd X.nrm (by rw [R.len,T.len]; omega);rw [V.val,X.val] at this;omega
 have BX:=V.bnd;have BY:=X.bnd;have VX:=qh V.val;have VY:=qh X.val;have HX:=qh R.len;have HY:=qh T.len;have HL:=qh P;clear V X P
 go_enter func260,ntmps260
 go_upto_region 2 with (at_make; refine Cs (n:=n) rfl rfl underlying95 BP rfl rfl rfl (by omega) (by unfold maxLen; omega) ?_; intro w1 K J)
 go_wp2
 go_loopw [6,7] (fun cv iv wr=>∃ (k t:Nat) (f:List Nat),cv = .int .u64 t/\iv = .int .i64 k/\k<=n/\t<=1/\Ext w wr/\Av .u32 wr w.heap.size 241 w.heap.size n n f/\W.bnd 4294967296 f/\Hid (W.val 4294967296 f+W.val 4294967296 (G.take k)=W.val 4294967296 (Y.take k)+t*4294967296^k)/\Hid (∀ j,k<=j->f.getD j 0=0)) (fun _ iv _=>n-(intOf iv).toNat)
 case atStart=>exact ⟨0,0,List.replicate n 0,rfl,rfl,Nat.zero_le _,by omega,J,Av.of_zeros K,ER (by omega) _,qh (by rw [W.val_zeros]; simp [W.val]),qh (fun j _=>DD _ j)⟩
 case round =>
  clear K J;obtain ⟨k,t,f,rfl,rfl,hk,N,I,g,bz,F,Z⟩:=hrel;by_cases E:k<n
  · obtain ⟨b1,o1,rfl,L⟩:=(R.ext I).at (j:=k) E;have g1:=L k E;have g3:=g.frozen k;have g4:=g.cell (i:=k) (by omega);have S:=W.bnd_at BX (i:=k) (by rw [HX.out]; exact E);have a3:(k:Int)<n:=by omega
    generalize hu:Y.getD k 0=u at *
    clear L;have U:=Z.out k (lrf _);by_cases z:k<m
    · have O:(k:Int)<m:=by omega
      obtain ⟨b2,o2,rfl,M⟩:=(T.ext I).at (j:=k) z;have g2:=M k z;have a2:=W.bnd_at BY (i:=k) (by rw [HY.out]; exact z);generalize Q:G.getD k 0=v at *
      clear M;obtain ⟨s,r,e4,e3,e0,e1,e2⟩:=QE S a2 N;have H:=qh (Nd (B:=4294967296) (l:=f) (p:=k) (D:=v) (A:=u) (s:=s) (c':=r) (by rw [g.len]; omega) F.out (by rw [U]; omega));have o:Hid (W.val 4294967296 (f.set k s)+W.val 4294967296 (G.take (k+1))=W.val 4294967296 (Y.take (k+1))+r*4294967296^(k+1)):=by
       show _=_;rw [Bf,Bf,hu,Q,Nat.mul_comm _ u,Nat.mul_comm _ v];exact H.out
      clear H hu Q F e0;go_wp2;go_roundw
      case rel=>exact ⟨k+1,r,f.set k s,rfl,by go_num,by omega,e3,I.setCell (lrf _) _,g.set k s,W.bnd_set bz e4,o,qh (FQ Z.out)⟩
      case measure=>simp [intOf]; omega
    · have O:¬ (k:Int)<m:=by omega
      have Q:G.getD k 0=0:=by rw [gqq,List.getElem?_eq_none (by rw [HY.out]; omega)]; rfl
      obtain ⟨s,r,e4,e3,e0,e1,e2⟩:=Tj S N;have H:=qh (Nd (B:=4294967296) (l:=f) (p:=k) (D:=0) (A:=u) (s:=s) (c':=r) (by rw [g.len]; omega) F.out (by rw [U]; omega));have o:Hid (W.val 4294967296 (f.set k s)+W.val 4294967296 (G.take (k+1))=W.val 4294967296 (Y.take (k+1))+r*4294967296^(k+1)):=by
       show _=_;rw [Bf,Bf,hu,Q,Nat.mul_comm _ u,Nat.mul_comm _ 0];exact H.out
      clear H hu Q F e0;go_wp2;go_roundw
      case rel=>exact ⟨k+1,r,f.set k s,rfl,by go_num,by omega,e3,I.setCell (lrf _) _,g.set k s,W.bnd_set bz e4,o,qh (FQ Z.out)⟩
      case measure=>simp [intOf]; omega
  · have a0:k=n:=by omega
    subst a0;have C:Hid (W.val 4294967296 f=x-y):=by
     show _=_;have h1:=F.out;rw [List.take_of_length_le (l:=G) (by rw [HY.out]; exact a1),List.take_of_length_le (l:=Y) (by rw [HX.out]; exact lrf _),VX.out,VY.out] at h1;have h2:=W.val_lt bz;rw [g.len] at h2;have h3:=HL.out;have h4:t=0:=by
      rcases Nat.eq_zero_or_pos t with h|h
      · exact h
      · exfalso;have:t=1:=by omega
        rw [this,Nat.one_mul] at h1;omega
     rw [h4,Nat.zero_mul] at h1;omega
    clear F Z
    go_wp2_with fail
    refine (BB g.sl).mono ?_;rintro e w6 ⟨q,rfl,rfl,hq,ht⟩;go_wp2;go_ret;exact ⟨_,q,_,rfl,I,CG g.sl g.ty hq ht bz C.out⟩
end Go.Proofs.YtlbmnokpiilfpaaGreatDoor
