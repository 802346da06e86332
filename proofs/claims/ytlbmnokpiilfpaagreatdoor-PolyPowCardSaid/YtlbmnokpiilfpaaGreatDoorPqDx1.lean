/- Part PqDx1. -/
import Derived.Test.YtlbmnokpiilfpaaGreatDoorPqCDx1
import Derived.WalkKit
set_option linter.all false
set_option maxRecDepth 100000
set_option maxHeartbeats 100000000
namespace Go.Proofs.YtlbmnokpiilfpaaGreatDoor.Pl
theorem Wm(F:List Int->Rat)(a b:List Tm):lin F (a ++ b)=lin F a+lin F b:=by
 induction a with
 | nil=>simp[lin];grind
 | cons t r ih=>simp only[jT,lin,ih];grind
theorem Pj(l:List Tm)(m e:List Int):coef (l.filter (fun t=>decide (t.1≠m))) e=if e=m then 0 else coef l e:=by
 induction l with
 | nil=>simp[coef]
 | cons t r ih =>
  by_cases h:t.1=m
  · rw[List.filter_cons_of_neg (by simp[h]),ih];by_cases he:e=m
    · simp[he]
    · simp only[gT he,coef];rw[gT (by rw[h];exact fun x=>he x.symm)]
      grind
  · rw[List.filter_cons_of_pos (by simp[h])];simp only[coef,ih];by_cases he:e=m
    · subst he;simp[h];grind
    · simp[he]
theorem QA(F:List Int->Rat)(l:List Tm)(m:List Int):lin F l=coef l m*F m+lin F (l.filter (fun t=>decide (t.1≠m))):=by
 induction l with
 | nil=>simp[coef,lin];grind
 | cons t r ih =>
  by_cases h:t.1=m
  · rw[List.filter_cons_of_neg (by simp[h])];simp only[coef,lin,h];rw[ih]
    grind
  · rw[List.filter_cons_of_pos (by simp[h])];simp only[coef,lin,gT h];rw[ih]
    grind
theorem Pk(F:List Int->Rat):∀ (n:Nat) (l:List Tm),l.length<=n->(∀ e,coef l e=0)->lin F l=0
 | 0,l,h,_=>by
  have:l=[]:=gQ (by omega);subst this;rfl
 | n+1,[],_,_=>rfl
 | n+1,t :: r,h,hz=>by
  rw[QA F (t :: r) t.1,hz t.1];have h1:((t :: r).filter (fun s=>decide (s.1≠t.1))).length<=n:=by
   rw[List.filter_cons_of_neg (by simp)];have:=List.length_filter_le (fun s:Tm=>decide (s.1≠t.1)) r;simp at h;omega
  rw[Pk F n _ h1 (fun e=>by
   rw[Pj,hz e]
   split <;> rfl)]
  grind
theorem Wo(F:List Int->Rat)(c:Rat)(l:List Tm):lin F (scl c l)=c*lin F l:=by
 induction l with
 | nil=>simp[scl,lin]
 | cons t r ih =>
  have:scl c (t :: r)=(t.1,c*t.2) :: scl c r:=rfl;rw[this];simp only[lin,ih]
  grind
theorem RM{F:List Int->Rat}{a b:List Tm}(h:∀ e,coef a e=coef b e):lin F a=lin F b:=by
 have h1:=Pk F _ (a ++ scl (-1) b) (lrf _) (fun e=>by rw[coef_app,coef_scl,h e];grind);rw[Wm,Wo]at h1
 grind
end Go.Proofs.YtlbmnokpiilfpaaGreatDoor.Pl
namespace Go.Proofs.YtlbmnokpiilfpaaGreatDoor
open Tryz Go Go.RowKit
variable {va vars:Int} {q:Rat} {v:Value} {w:World}
def CQ(q:Rat):List Pl.Tm:=if q=0 then []else [([0,0,0,0,0,0],q)]
theorem Lx(h:BU w v q):Calls prog 75 #[v] w (J4 w (CQ q)):=by
 obtain⟨_,rfl,s,a,n,c,b,m,d,rfl,r,t,x⟩:=h
 go_enter func75,ntmps75
 go_upto_region 1 with(fail)
 refine AP ?_;intro C k g p;have y:=g.c 0 rfl;have z:=g.c 1 rfl;have A:=g.c 2 rfl;have B:=g.c 3 rfl;have l:=qh (DU (w:=C) (v := .agg #[.bool s,.slice a n c,.bool false,.slice b m d]) (q:=q) ⟨Al s a n c false b m d,rfl,s,a,n,c,b,m,d,rfl,r,t.ext k,x.ext k⟩ rfl);clear g p
 go_wp2_with fail
 refine l.out.mono ?_;rintro e D ⟨rfl,i⟩;have y:=i.cell y;have z:=i.cell z;have A:=i.cell A;have B:=i.cell B;have j:=k.trans i;clear l;by_cases f:q=0
 · rw[iA f];have o:Hid (CQ q=[]):=qh (gY f);clear f;go_wp2;go_ret;rw[o.out];exact⟨none,0,0,rfl,j,C1.nil _ _⟩
 · rw[gR f];have o:Hid (CQ q=[([0,0,0,0,0,0],q)]):=qh (gT f);clear f;go_wp2;go_ret;rw[o.out];exact⟨_,1,1,rfl,j.alloc _,On (e:=[0,0,0,0,0,0]) j rfl ⟨s,a,n,c,b,m,d,rfl,r,t.ext j,x.ext j⟩⟩
theorem MA{ts:List Tx}{l:List Pl.Tm}(h:rdP vars ts=some l):Bp l:=fun t a=>⟨(A5 h t a).1,fun x b=>by have:=(A5 h t a).2 x b;omega⟩
theorem QC(q:Rat):Pl.Nrm (CQ q):=by
 unfold CQ;split
 · exact Pl.Nrm.nil
 · rename_i a;exact⟨by simp,by simpa using a,by simp⟩
theorem Wp{ts:List Tx}{l:List Pl.Tm}(h:rdP va ts=some l):Bu l<=24:=by
 refine JD (by omega) ?_;have a:=BW h;have b:=Jo h;cases l with
 | nil=>simp
 | cons t r =>
  intro s c;have h1:=DQ a s c;have h2:=(CN.1 (b.2 t r rfl)).2.2;omega
end Go.Proofs.YtlbmnokpiilfpaaGreatDoor
namespace Go.Proofs.YtlbmnokpiilfpaaGreatDoor.Pl
theorem coef_prod_ext{a c b d:List Tm}(f:∀ e,coef a e=coef c e)(g:∀ e,coef b e=coef d e)(e:List Int):coef (prodT a b) e=coef (prodT c d) e:=by
 rw[ET,ET,RM f];congr 1;funext s;exact RM g
end Go.Proofs.YtlbmnokpiilfpaaGreatDoor.Pl
namespace Go.Proofs.YtlbmnokpiilfpaaGreatDoor
open Tryz Go Go.RowKit
variable {k va vars:Int} {xs:List Int} {row:List Value} {b0 base c g n:Nat} {o:Oper} {a:Option Addr} {q:Rat} {v:Value} {w:World}
theorem Wq{ts:List Tx}{l:List Pl.Tm}(h:rdP vars ts=some l):degP vars ts=Bu l:=by
 have a:=BH h;unfold degP;rw[h];cases l with
 | nil =>
  rw[gT (by rintro⟨_,h0⟩;simp at a;omega)];rfl
 | cons t r =>
  have h0:0<ts.length:=by rw[<-a];simp
  rw[gY ⟨rfl,h0⟩];have h1:=Kn h h0;obtain⟨_,_,j,e,c⟩:=Bm h1;have k:=(AW h).1;rw[kD]at c;have b:=(Jo h).2 t r rfl;obtain⟨m,i,n⟩:=CN.1 b;have d:t.1.sum=(ts.getD 0 tm0).2.sum:=by rw[c,M3]
  rw[Gg (BW h) (by have:=(Dj i).1;omega),d];unfold Ds;have f:∀ x∈(ts.getD 0 tm0).2,0<=x:=fun x g=>(e x g).1;rw[gT (by omega),F8 _ 0 (by omega) f (by omega)];omega
theorem Wr{t:Pl.Tm}(a:Arr w g 103 row)(b:row.length=5)(c:TC w b0 row t):TSl w b0 (some ⟨g,0,none⟩) 1 1 [t] :=
 ⟨[row],BT a b,rfl,fun i d=>by
  have:i=0:=by omega
  subst this
  exact c⟩
theorem XJ(h:Own w base 3 a n c (xs.map (Value.int .i64))):XI w b0 a n c xs:=⟨h.sl,fun _ g b => .inr (Own.ty h g b)⟩
theorem S8{t:Pl.Tm}(h:Pl.RB 900000 t.2):Pl.SubOK [t]:=Pl.SubOK.of_rb (b:=900000) (by omega) (fun s a=>by rw[gL.1 a];exact h) (by simp)
theorem K7{vars:Nat}(hv:vars<=12)(h:QV w v q)(hb:Pl.RB 900000 q)(hw:b0<=w.heap.size) :
 Calls prog 77 #[.int .i64 vars,v] w (OM w b0 vars vars [(List.replicate vars 0,q)]):=by
 obtain⟨s,a,n,c,b,m,d,rfl,HS,Q,hy⟩:=h;have a2:((vars:Nat):Int)<=12:=by omega
 go_enter func77,ntmps77
 go_upto_region 1 with(fail)
 refine Cf ?_;intro p l k I a3;have p0:=k.c 0 rfl;have p1:=k.c 1 rfl;have p2:=k.c 2 rfl;have p3:=k.c 3 rfl;have hR:Arr p (w.heap.size+1) 44 (pL 0 none 0 0):=I;have hz:=fun(f:World) (i:Ext p f)=>qh (Tk (P:=prog) (w:=f) underlying24 Dt rfl (n:=vars) (by omega) (by unfold maxLen;omega))
 have K:TB vars [((List.replicate vars (0:Int)),q)]:=fun t ht=>by
  rw[gL.1 ht];exact⟨List.length_replicate,fun x Q=>by rw[List.eq_of_mem_replicate Q];omega⟩
 have M:(List.replicate vars (0:Int)).map (Value.int .i64)=List.replicate vars (.int .i64 0):=lW;generalize List.replicate vars (0:Int)=H at *
 rw[<-M]at hz;have Z:=qh (fun(f:World) (y g:Nat) (i:Ext p f) (hA:Arr f y 103 (tL s a n c b m d (some ⟨g,0,none⟩) vars vars)) (hO:Own f p.heap.size 3 (some ⟨g,0,none⟩) vars vars (H.map (Value.int .i64)))=>EL (N:=vars) (b0:=b0) hv (vars:=(vars:Int)) (Wr hA rfl (⟨s,a,n,c,b,m,d,_,_,_,rfl,HS,(Q.ext l).ext i,(hy.ext l).ext i,XJ hO⟩:TC f b0 _ (H,q))) K (gJ hw (l.trans i).size) (by omega) (S8 hb));clear k I M K Q hy
 have r:=fun(f:World) (i:Ext p f)=>qh (And.intro (i.cell p0) (And.intro (i.cell p1) (And.intro (i.cell p2) (i.cell p3))))
 refine Ab (by kernel_rfl) (fun f=>Ext p f)
  [he (.int .i64 (vars:Int)),
 he (.agg #[.bool s,.slice a n c,.bool false,.slice b m d]),
 he (.int .i64 (vars:Int)),
 hp (fun v f=>∃ g,v = .slice (some ⟨g,0,none⟩) vars vars/\Own f p.heap.size 3 (some ⟨g,0,none⟩) vars vars (H.map (Value.int .i64))),
 hp (fun v f=>∃ g,v = .agg #[.bool s,.slice a n c,.bool false,.slice b m d,.slice (some ⟨g,0,none⟩) vars vars]/\Own f p.heap.size 3 (some ⟨g,0,none⟩) vars vars (H.map (Value.int .i64))),
 hp (fun v f=>∃ y g,v = .slice (some ⟨y,0,none⟩) 1 1/\Arr f y 103 (tL s a n c b m d (some ⟨g,0,none⟩) vars vars)/\Own f p.heap.size 3 (some ⟨g,0,none⟩) vars vars (H.map (Value.int .i64))),
 hp (fun v f=>∃ E C F j,v = .agg (pL vars E C F).toArray/\TO f b0 w.heap.size E C F j/\C<=1/\Pl.Canon vars j/\∀ x,Pl.coef j x=Pl.coef [(H,q)] x)]
  (by kernel_rfl) (fun _ _ e h=>h.trans e) ((Ext.refl p).drew) ⟨trivial,trivial,trivial,fun v w G e ⟨g,h1,h2⟩=>⟨g,h1,h2.ext e⟩,fun v w G e ⟨g,h1,h2⟩=>⟨g,h1,h2.ext e⟩,fun v w G e ⟨y,g,h1,h2,h3⟩=>⟨y,g,h1,h2.ext e,h3.ext e⟩,fun v w G e ⟨E,C,F,j,h1,h2,h3⟩=>⟨E,C,F,j,h1,h2.ext e,h3⟩,trivial⟩ ⟨?o0,?o1,?o2,?o3,?o4,?o5,?o6,trivial⟩ ?fin
 case o0 | o2=>exact omv
 case o1=>exact ol4
 case o3 =>
  refine AE rfl ?_;intro D f hp i h;have o:=hp.const;have B:=hp.func;have e0:D (.tmp 7)=(.int .i64 (vars:Int)):=h.1;have e1:D (.tmp 7)=(.int .i64 (vars:Int)):=h.2.1;obtain⟨k0,k1,k2,k3⟩:=(r f i).out;obtain⟨G,O,A,z⟩:=(hz f i).out;exact⟨_,G,by simp[execOp,e0,O],z,f.heap.size,rfl,A.mono i.size⟩
 case o4 =>
  refine AE rfl ?_;intro D f hp i h;have o:=hp.const;have B:=hp.func;have e0:D (.tmp 6)=(.agg #[.bool s,.slice a n c,.bool false,.slice b m d]):=h.1;obtain⟨v1,e1,g1,rfl,i1⟩:=h.2.1;obtain⟨k0,k1,k2,k3⟩:=(r f i).out;refine⟨.agg #[.bool s,.slice a n c,.bool false,.slice b m d,.slice (some ⟨g1,0,none⟩) vars vars],f,?_,Ext.refl f,g1,rfl,i1⟩;go_simp
 case o5 =>
  refine AE rfl ?_;intro D f hp i h;have o:=hp.const;have B:=hp.func;obtain⟨v0,e0,g0,rfl,i0⟩:=h.1;obtain⟨k0,k1,k2,k3⟩:=(r f i).out;refine⟨_,_,?_,(Ext.refl f).alloc (.cells (tL s a n c b m d (some ⟨g0,0,none⟩) vars vars).toArray 103),f.heap.size,g0,rfl,Arr.new f 103 _,i0.alloc _⟩;simp[execOp,e0,EK underlying42 B8];rfl
 case o6 =>
  refine Ag rfl fun D f i o B h => ?_;have e1:D (.tmp 5)=(.int .i64 (vars:Int)):=h.2.1;obtain⟨v2,e2,q2,y,rfl,i2,j2⟩:=h.2.2.1;obtain⟨k0,k1,k2,k3⟩:=(r f i).out;refine⟨74,#[.int .i64 vars,.slice (some ⟨q2,0,none⟩) 1 1],by go_simp,(Z.out f q2 y i i2 j2).mono ?_⟩;rintro e G ⟨E,C,F,j,rfl,z,A,V,T,X⟩;exact⟨_,rfl,z,E,C,F,j,rfl,A.mono (l.trans i).size,V,T,X⟩
 case fin =>
  intro f i;rintro _ ⟨g8,rfl,_⟩;rintro _ ⟨g9,rfl,_⟩;rintro _ ⟨a0,a1,rfl,_,_⟩;rintro _ ⟨a9,n9,c9,j,rfl,S,W,U,Y⟩;change wpList _ _ _ _ _ _;simp only[lq,lw,lx,lz,Act.put,lj,lk,ly];have J:=hR.ext i
  go_wp2_with(refine Aa (vs:=pL vars a9 n9 c9) rfl rfl rfl rfl rfl AJ J rfl (AT _ _ _ _) ?_;intro w9 R L)
  exact gF (Ap rfl AJ rfl R) rfl ⟨a9,n9,c9,j,rfl,(l.trans i).grownR L (by omega),S.keptA J (by decide) (by decide) (by decide) (by omega) L,W,U,Y⟩
namespace Pl
def powT(l:List Tm):Nat->List Tm
 | 0=>CQ 1
 | k+1=>prodT (powT l k) l
end Pl
structure WL(l:List Pl.Tm)(k:Nat):Prop where
 step:∀ i,i<k->∀ out,Pl.Nrm out->(∀ e,Pl.coef out e=Pl.coef (Pl.powT l i) e)->CF out l
 fits:∀ out,Pl.Nrm out->(∀ e,Pl.coef out e=Pl.coef (Pl.powT l k) e)->Bp out/\(∀ t∈out,Ek t.2)/\out.length<=1000000
def QD(w:World)(va k:Int)(ol:Option (List Pl.Tm))(e:Ending)(w':World):Prop :=
 (ol=none/\Cl w 0 [] 1 e w')\/(∃ l,ol=some l/\((¬ (0<=k/\k<=24)/\Cl w 0 [] 3 e w')\/((0<=k/\k<=24)/\24<Bu l*k/\Cl w 0 [] 2 e w')\/((0<=k/\k<=24)/\¬ 24<Bu l*k/\Cd w (resQ va (Pl.powT l k.toNat)) e w')))
def PwI(w3:World)(l:List Pl.Tm)(i:Nat)(a:Option Addr)(n c:Nat)(wr:World):Prop:=Ext w3 wr/\∃ out,C1 wr w3.heap.size a n c out/\Hid (Pl.Nrm out/\∀ e,Pl.coef out e=Pl.coef (Pl.powT l i) e)
theorem UX{ts:List Tx}(hT:AM w)(ha:AH w a n c ts)(sa:∀ t∈ts,t.1.length<=570)
 (ag:∀ l,rdP va ts=some l->0<=k->k<=24->¬ 24<Bu l*k->WL l k.toNat) :
 Calls Tryz.prog 38 #[.agg #[.int .i64 va,.slice a n c],.int .i64 k] w (QD w va k (rdP va ts)):=by
 have W:=fun(wx:World) (hC:Ext w wx)=>qh (Db (vars:=va) (hT.ext hC) (ha.ext hC) sa);have HB:Hid (∀ l,rdP va ts=some l->Bp l/\0<=va/\va<=6):=qh (fun l h=>⟨MA h,(AW h).1⟩);have P:=qh ag;obtain⟨ol,ah⟩:∃ o,rdP va ts=o:=⟨_,rfl⟩;rw[ah]at W HB P |-;clear ah sa ha ag
 go_enter Tryz.func38,Tryz.ntmps38
 go_upto_region 1 with(fail)
 refine Cf ?_;intro w0 C Q a2 ax;have x:=Q.c 0 rfl;have az:=Q.c 1 rfl;have hR:Arr w0 (w.heap.size+1) 28 (Ah 0 none 0 0):=a2;have aG:(Ah 0 none 0 0).toArray=#[.int .i64 0,.slice none 0 0]:=rfl;clear Q a2 ax;have aH:=C.size
 go_wp2_with fail
 refine(W _ C).out.mono ?_;rintro e w3 ⟨a3,n3,c3,rfl,D,F⟩;have A:=C.trans D;have B:=hR.ext D;have x:=D.cell x;clear az hR W C D;cases ol with
 | none =>
  simp only[jz]
  go_wp2_with(refine Aa (vs:=Ah 0 none 0 0) rfl rfl rfl rfl rfl Ad B rfl (Am _ _ _ _) ?_;intro w9 f g)
  refine gF (Ao rfl Ad rfl rfl f) rfl ?_;exact Or.inl ⟨rfl,none,0,0,rfl,A.grownR g (by omega),TmO.nil _ _⟩
 | some l =>
  simp only[jr,gP]at F |-;have M:=qh (HB.out l rfl);have aI:=M.out.2;by_cases hk:0<=k/\k<=24
  · obtain⟨d,rfl⟩:∃ j:Nat,k=(j:Int):=⟨k.toNat,by omega⟩;have aA:d<=24:=by omega
    have aq:¬ ((d:Int)<0):=by omega
    have ar:¬ ((24:Int)<(d:Int)):=by omega
    have O:=qh hk;have ae:=qh (FG F M.out.1);have ad:=FF M.out.1;have am:Hid (Bu l=Bu l):=qh rfl;generalize ac:Bu l=dL at *
    have X:=qh ac;obtain⟨mm,V⟩:∃ m,dL*(d:Int)=m:=⟨_,rfl⟩;have aJ:IntKind.i64.wrap (dL*(d:Int))=mm:=by
     rw[<-V]
     exact gI _ (by
      have h1:dL*(d:Int)<=6597069766656*(d:Int):=jh ad.2 (by omega);have h2:(-1)*(d:Int)<=dL*(d:Int):=jh ad.1 (by omega)
      omega)
    clear hk am ac
    go_wp2_with fail
    refine ae.out.mono ?_;rintro e w4 ⟨rfl,y⟩;have b:=A.trans y;have U:=B.ext y;have a5:=F.ext y;have x:=y.cell x;clear B F y ae A;have Y:=qh V;clear V;by_cases K:24<mm
    · have s:Hid (24<Bu l*(d:Int)):=qh (by rw[X.out,Y.out];exact K)
      go_wp2_with(refine Aa (vs:=Ah 0 none 0 0) rfl rfl rfl rfl rfl Ad U rfl (Am _ _ _ _) ?_;intro w9 f g)
      refine gF (Ao rfl Ad rfl rfl f) rfl ?_;exact Or.inr ⟨l,rfl,Or.inr (Or.inl ⟨O.out,s.out,none,0,0,rfl,b.grownR g (by omega),TmO.nil _ _⟩)⟩
    · have s:Hid (¬ 24<Bu l*(d:Int)):=qh (by rw[X.out,Y.out];exact K);have Z:=qh (P.out l rfl O.out.1 O.out.2 (by first | exact s.out | exact Int.not_lt.1 s.out));obtain⟨vn,rfl⟩:∃ j:Nat,va=(j:Int):=⟨va.toNat,by omega⟩;clear P HB;have aj:=qh (F0 (z:=1) (w:=w4) (by omega) (by omega))
      go_wp2_with fail
      refine aj.out.mono ?_;rintro e w5 ⟨a1,rfl,S,ai⟩;have ab:=qh (Lx (v := .agg a1.toArray) (q:=((1:Int):Rat)) (w:=w5) ⟨a1,rfl,ai⟩)
      go_wp2_with fail
      refine ab.out.mono ?_;rintro e w6 ⟨a6,n6,c6,rfl,a4,a9⟩;have J:=S.trans a4;have a8:PwI w4 l 0 a6 n6 c6 w6:=⟨J,CQ ((1:Int):Rat),a9.mono S.size,qh ⟨QC _,fun _=>rfl⟩⟩;have aE:IntKind.i64.wrap (d:Int)=(d:Int):=gI _ (by omega);clear ab aj J a4 a9 S ai;go_wp2
      go_loopw[8,36] (fun rv iv wr=>∃ (i:Nat) (a':Option Addr) (n' c':Nat),iv = .int .i64 i/\rv = .slice a' n' c'/\i<=d/\PwI w4 l i a' n' c' wr) (fun _ iv _=>d-(intOf iv).toNat)
      case atStart=>exact⟨0,a6,n6,c6,rfl,rfl,gO _,a8⟩
      case round =>
       clear a8;obtain⟨i,a',n',c',rfl,rfl,hi,R,ay,hO,N⟩:=hrel;by_cases au:i<d
       · have an:=qh (Z.out.step i (by simpa using au) ay N.out.1 N.out.2);have aB:=qh (And.intro hO.len a5.len);have av:=qh (an.out.pc ((hT.ext b).ext R) hO.sl (a5.ext R))
         go_wp2_with fail
         refine av.out.mono ?_;rintro e w7 ⟨al,⟨H,L,I,rfl,E,T⟩,h71,h72⟩;go_wp2;go_roundw
         case rel=>exact⟨i+1,H,L,I,by go_num,rfl,by omega,R.trans E,al,T.mono R.size,qh ⟨h71,fun e=>by rw[h72];exact Pl.coef_prod_ext N.out.2 (fun _=>rfl) e⟩⟩
         case measure=>simp[intOf];omega
       · have ap:i=d:=by omega
         subst ap;have G:=qh (Z.out.fits _ N.out.1 (by simpa using N.out.2));have aD:=hO.len;have ak:=qh (B6 (vars:=vn) (w0:=w4) (hT.ext b) R hO (by omega) G.out.1 G.out.2.1 (by have:=G.out.2.2;omega));have x:=R.cell x;have aC:=U.ext R
         go_wp2_with fail
         refine ak.out.mono ?_;intro e w7 hw;have hq:=Fw.q (p:=Pl.powT l i) hw N.out.1 N.out.2;obtain⟨rr,a0⟩:∃ r,Hid (resQ (vn:Int) (Pl.powT l i)=r):=⟨_,qh rfl⟩;rw[a0.out]at hq;obtain⟨H,L,I,rfl,E,T⟩:=hq;have aw:BS rr.1 H L I = .agg #[.int .i64 rr.1,.slice H L I]:=rfl;rw[aw];have aF:(Ah rr.1 H L I).toArray=#[.int .i64 rr.1,.slice H L I]:=rfl;have aa:=U.ext E;clear hw ak G
         go_wp2_with(refine Aa (vs:=Ah rr.1 H L I) rfl rfl rfl rfl rfl Ad aa rfl (Am _ _ _ _) ?_;intro w8 ao af)
         refine gF (Ao rfl Ad rfl rfl ao) rfl ?_;exact Or.inr ⟨l,rfl,Or.inr (Or.inr ⟨O.out,(by first | exact s.out | exact Int.not_lt.2 s.out),by rw[jc,a0.out];exact⟨H,L,I,rfl,(b.trans E).grownR af (by omega),(T.mono b.size).keptA aa af⟩⟩)⟩
  · have O:=qh hk;by_cases aq:k<0
    · clear hk
      go_wp2_with(refine Aa (vs:=Ah 0 none 0 0) rfl rfl rfl rfl rfl Ad B rfl (Am _ _ _ _) ?_;intro w9 f g)
      refine gF (Ao rfl Ad rfl rfl f) rfl ?_;exact Or.inr ⟨l,rfl,Or.inl ⟨O.out,none,0,0,rfl,A.grownR g (by omega),TmO.nil _ _⟩⟩
    · have ar:24<k:=by omega
      clear hk
      go_wp2_with(refine Aa (vs:=Ah 0 none 0 0) rfl rfl rfl rfl rfl Ad B rfl (Am _ _ _ _) ?_;intro w9 f g)
      refine gF (Ao rfl Ad rfl rfl f) rfl ?_;exact Or.inr ⟨l,rfl,Or.inl ⟨O.out,none,0,0,rfl,A.grownR g (by omega),TmO.nil _ _⟩⟩
def Jg(N:Nat)(l:List Pl.Tm):Nat->List Pl.Tm
 | 0=>[(List.replicate N 0,1)]
 | k+1=>Pl.prodT (Jg N l k) l
structure PwS(N b:Nat)(la out:List Pl.Tm):Prop where
 ln:out.length<=3000
 tb:TBb 1099510000000 N out
 rb:∀ s∈out,Pl.RB 1000000 s.2
 pr:∀ s∈out,∀ t∈la,Pl.RB b (s.2*t.2)
def AlP(w0:World)(v:Value)(w:World):Prop:=∃ g,v = .pointer (some ⟨g,0,none⟩)/\w0.heap.size<=g/\Arr w g 44 (pL 0 none 0 0)
theorem AlP.x(w0:World):∀ (v:Value) (w a:World),Ext w a->AlP w0 v w->AlP w0 v a:=fun _ _ _ e ⟨g,h1,h2,h3⟩=>⟨g,h1,h2,h3.ext e⟩
theorem Zi(a:o.op = .alloc 44)(b:Operand->Value)(w:World):(execOp b o).run Tryz.prog w = .ok (.value (.pointer (some ⟨w.heap.size,0,none⟩))) (w.alloc (.cells (pL 0 none 0 0).toArray 44)):=by
 simp only[execOp,a];kernel_rfl
def PwL(w0:World)(b0 base X N:Nat)(l:List Pl.Tm)(wr:World):Prop:=∃ a n c out,Ext w0 wr/\Arr wr X 44 (pL (N:Int) a n c)/\TO wr b0 base a n c out/\n<=10000/\Hid (Pl.Canon N out/\∀ e,Pl.coef out e=Pl.coef l e)
def XU(w:World)(b0 N:Nat)(l:List Pl.Tm)(e:Ending)(w':World):Prop:=∃ a n c out,e = .returned (.agg (pL (N:Int) a n c).toArray)/\Ext w w'/\TO w' b0 w.heap.size a n c out/\n<=10000/\Pl.Canon N out/\∀ x,Pl.coef out x=Pl.coef l x
theorem Py{N b K:Nat}(hN:N<=12){a:Option Addr}{n c:Nat}{la:List Pl.Tm}{w:World}(ha:TSl w b0 a n c la)(ba:TBb 1048576 N la)(hw:b0<=w.heap.size)(hn:n<=3)(ra:∀ s∈la,Pl.RB 1000000 s.2)(ax:1<=b)(aH:b<=300000)(hK:K<=1000)
 (a8:∀ i,i<K->∀ G,Pl.Canon N G->(∀ e,Pl.coef G e=Pl.coef (Jg N la i) e)->PwS N b la G) :
 Calls Tryz.prog 97 #[.agg (pL (N:Int) a n c).toArray,.int .i64 (K:Int)] w (XU w b0 N (Jg N la K)):=by
 have ak:=qh a8;have al:=qh ra;have ag:=qh ba;have ai:=qh hw;clear a8 ra ba
 go_enter Tryz.func97,Tryz.ntmps97
 go_upto_region 1 with(fail)
 refine Cf ?_;intro B j C L aF;have av:Arr B (w.heap.size+1) 44 (pL 0 none 0 0):=L;have p0:=C.c 0 rfl;have p1:=C.c 1 rfl;clear C L aF
 refine Ab (by kernel_rfl) (fun f=>Ext B f)
  [he (.pointer (some ⟨w.heap.size,0,none⟩)),
 he (.int .i64 (N:Int)),
 hp (fun v f=>QV f v 1),
 hp (fun v f=>NSm b0 B.heap.size N [(List.replicate N 0,1)] v f),
 hp (fun v f=>AlP B v f)]
  (by kernel_rfl) (fun _ _ e h=>h.trans e) ((Ext.refl B).drew) ⟨trivial,trivial,fun v w w' e h=>QV.ext h e,NSm.x _ _ _ _,AlP.x _,trivial⟩ ⟨?o0,?o1,?o2,?o3,?o4,trivial⟩ ?fin
 case o0=>exact ofa (d:=0)
 case o1=>exact ol
 case o2 =>
  refine Ag rfl fun ρ f p Z az h => ?_;have kp:=p.cell p0;refine⟨118,#[.int .i64 1],by go_simp,(RI (z:=1) (by omega)).mono ?_⟩;rintro e w' ⟨s',a',n',c',b',m',d',rfl,D,am,an,ao⟩;exact⟨_,rfl,D,s',a',n',c',b',m',d',rfl,am,an,ao⟩
 case o3 =>
  refine Ag rfl fun ρ f p Z az h => ?_;have e1:ρ (.tmp 8)=(.int .i64 (N:Int)):=h.2.1;obtain⟨v2,e2,i2⟩:=h.2.2.1;have kp:=p.cell p0;refine⟨77,#[.int .i64 (N:Int),v2],by go_simp,(K7 (b0:=b0) (vars:=N) (w:=f) (q:=1) hN i2 ⟨Cu (by omega),Cu (by omega)⟩ (gJ hw (j.trans p).size)).mono ?_⟩;rintro e w' ⟨a',n',c',ae,rfl,D,ar,aB,ay,aE⟩;exact⟨_,rfl,D,a',n',c',ae,rfl,ar.mono p.size,aB,ay,aE⟩
 case o4 =>
  exact AE rfl fun ρ f _ p _=>⟨_,_,Zi rfl ρ f,(Ext.refl f).alloc _,f.heap.size,rfl,p.size,Arr.new f _ _⟩
 case fin =>
  intro f p;rintro _ _;rintro _ ⟨a5,n5,c5,af,rfl,P,a7,Y,aa⟩;rintro _ ⟨X,rfl,E,hY⟩;change wpList _ _ _ _ _ _;simp only[lq,lw,lx,lz,Act.put,lj,lk,ly];have aA:(pL (N:Int) a5 n5 c5).toArray=#[.int .i64 (N:Int),.slice a5 n5 c5]:=rfl;have ad:n5<=1:=a7;have J:=qh (And.intro Y aa);clear a7 Y aa
  go_upto_region 2 with(refine Aa (vs:=pL (N:Int) a5 n5 c5) rfl rfl rfl rfl rfl AJ hY rfl (AT _ _ _ _) ?_;intro w1 T F)
  have V:b0<=X:=gJ (gJ hw j.size) E;have Q:=P.keptA hY (by decide) (by decide) (by decide) V F;have M:Ext B w1:=p.grownR F E;clear hY aA F P p;go_wp2
  go_loopw[6] (fun iv wr=>∃ i:Nat,iv = .int .i64 i/\i<=K/\PwL B b0 B.heap.size X N (Jg N la i) wr) (fun iv _=>K-(intOf iv).toNat)
  case atStart=>exact⟨0,rfl,gO _,a5,n5,c5,af,M,T,Q,by omega,J⟩
  case round =>
   clear T M Q J ad;obtain⟨i,rfl,hi,H,y,I,A,t,S,r,a6,g⟩:=hrel;have aL:=t.cell p0;have aM:=t.cell p1;have y0:=S.c 0 rfl;have y1:=S.c 1 rfl;by_cases a2:i<K
   · have ac:(i:Int)<K:=by omega
     have R:=ak.out i a2 A g.out.1 g.out.2;have aC:=r.sl.len;have aD:n*y<=3*3000:=j5 hn (by have:=R.ln;omega);have ab:=qh (I1 (N:=N) (b0:=b0) (b:=b) hN r.sl (ha.ext (j.trans t)) R.tb ag.out (by omega) (gJ hw (j.trans t).size) (by omega) a6 (by omega) (Eq g.out.1) R.rb al.out ax R.pr (by have:n*(b+1)<=3*(b+1):=gH _ hn;omega));have aG:n*y<=10000:=by omega
     have e3:(pL (N:Int) H y I).toArray=#[.int .i64 (N:Int),.slice H y I]:=rfl;have e4:(pL (N:Int) a n c).toArray=#[.int .i64 (N:Int),.slice a n c]:=rfl;clear R aC aD r
     go_wp2_with fail
     refine ab.out.mono ?_;rintro e w3 ⟨a4,n4,c4,m,rfl,O,au,aK,W,a9⟩;have U:=S.ext O;have aJ:(pL (N:Int) a4 n4 c4).toArray=#[.int .i64 (N:Int),.slice a4 n4 c4]:=rfl
     have ah:Hid (Pl.Canon N m/\∀ e,Pl.coef m e=Pl.coef (Jg N la (i+1)) e):=qh ⟨W,fun e=>by
      rw[a9,PC]
      exact Pl.coef_prod_ext g.out.2 (fun _=>rfl) e⟩
     clear W a9 ab S e3 e4
     go_wp2_with(refine Aa (vs:=pL (N:Int) a4 n4 c4) rfl rfl rfl rfl rfl AJ U rfl (AT _ _ _ _) ?_;intro w4 aw a0)
     go_roundw
     case rel=>exact⟨i+1,by go_num,by omega,a4,n4,c4,m,(t.trans O).grownR a0 E,aw,(au.keptA U (by decide) (by decide) (by decide) V a0).mono t.size,by omega,ah⟩
     case measure=>simp[intOf];omega
   · have ac:¬ (i:Int)<K:=by omega
     have hR:=av.ext t;have aj:Hid (i=K):=qh (by omega);have aI:(pL (N:Int) H y I).toArray=#[.int .i64 (N:Int),.slice H y I]:=rfl;have aq:=j.trans t;clear S a2
     go_wp2_with(refine Aa (vs:=pL (N:Int) H y I) rfl rfl rfl rfl rfl AJ hR rfl (AT _ _ _ _) ?_;intro w9 ap a1)
     exact gF (Ap rfl AJ rfl ap) rfl ⟨H,y,I,A,rfl,aq.grownR a1 (by omega),(r.keptA hR (by decide) (by decide) (by decide) (by have:=ai.out;omega) a1).mono j.size,a6,g.out.1,by rw[<-aj.out];exact g.out.2⟩
noncomputable def powA (va k:Int) (o:Option (List Pl.Tm)):Int×List Tx×Int:=match o with
 | some l=>if 0<=k/\k<=24 then(if 24<Bu l*k then(0,[],2)else resQ va (Pl.powT l k.toNat))else(0,[],3)
 | none=>(0,[],1)
end Go.Proofs.YtlbmnokpiilfpaaGreatDoor
