/- Part Pa13. -/
import Derived.Test.YthdbingomfdeoaaGreatDoorPa12
import Derived.Shelf.GgSortFunc.Insertion
import Derived.Shelf.SlLaysF
import Derived.Test.YthdbingomfdeoaaGreatDoorProg
import Derived.Shelf.SlSortCmp.Whole1
set_option linter.all false
set_option maxRecDepth 100000
set_option maxHeartbeats 100000000
namespace Go.Proofs.YthdbingomfdeoaaGreatDoor
open Tryz Go Go.RowKit
def lN:=@Array.extract_eq_self_of_le
def lU:=@List.modify_zero_cons
def lV:=@List.modify_succ_cons
variable {f:Act} {p:Addr} {ops:Array Oper} {Q:Exit->Act->World->Prop} {vars:Int} {V:List (List Int)} {m:List (List Int×Value)} {rows:List (List Value)} {xs:List Int} {fs ps:List Nat} {rest:List Oper} {cells cs cs' mem zs:List Value} {B N b b' base bytes c c' cA cg' cx fB fp g0 i j k n n' ng nx r rB:Nat} {o:Oper} {s:Operand} {A a a' ag ag':Option Addr} {row:Option Nat} {P:Program} {e e' t t' ty:TypeId} {u v z:Value} {w w' w0 w1 w2:World}
theorem PK:Bu prog 57 As 6 48:=⟨by kernel_rfl,rfl,by omega⟩
def K5(w:World)(v:Value)(t:TypeId)(cs:List Value):Prop:=∃ g,v = .slice (some ⟨g,0,none⟩) 1 1/\Arr w g t cs
theorem K5.x(t:TypeId)(cs:List Value):∀ (v:Value) (w a:World),Ext w a->K5 w v t cs->K5 a v t cs:=fun _ _ _ e ⟨g,h1,h2⟩=>⟨g,h1,h2.ext e⟩
theorem DG{g:Nat}(h:Arr w g t cs)(a:AB w r m):g≠r:=fun e=>by
 subst e;have h1:w.heap[g]?=_:=h;rw[a.obj]at h1;cases h1
theorem F0(h:AE w base e k a n c rows)(l:AB w r m):blk a≠some r:=by
 intro d;rcases h.2.2 with⟨b,_⟩|⟨g,i,j,b,_,f,_⟩
 · simp only[eY]at b;rw[b.1]at d;cases d
 · simp only[eY]at b;rw[b.1]at d;have:g=r:=by simpa[blk]using d
   subst this;rw[l.obj]at f;cases f
theorem F3{g:Nat}(h:AE w base e k a n c rows)(l:Arr w g t cs)(o:e≠t):some g≠blk a:=by
 intro d;rcases h.2.2 with⟨b,_⟩|⟨j,f,i,b,_,m,_⟩
 · simp only[eY]at b;rw[b.1]at d;cases d
 · simp only[eY]at b;rw[b.1]at d;have:g=j:=by simpa[blk]using d
   subst this;have h1:w.heap[g]?=_:=l;rw[m]at h1;injection h1 with h2;injection h2 with _ h3;exact o h3
theorem L5(h:Own w base e a n c cs)(b:AB w r m):blk a≠some r:=by
 rcases BW h b with h1|h1
 · rw[h1];simp
 · exact h1
theorem B7{g:Nat}(h:Own w base e a n c cs)(b:Arr w g t cs')(d:e≠t):some g≠blk a:=by
 rcases Au h b d with h1|h1
 · rw[h1];simp
 · exact fun e=>h1 e.symm
theorem DH{g:Nat}(h:Own w base e a n c cs)(f:blk a=some g):∃ b j,w.heap[g]?=some (Obj.cells b e j):=by
 rcases h.2 with⟨d,_⟩|⟨k,i,b,d,_,l,_⟩
 · simp only[eY]at d;rw[d.1]at f;cases f
 · simp only[eY]at d;rw[d.1]at f;have:k=g:=by simpa[blk]using f
   subst this;exact⟨_,_,l⟩
theorem Ri{g:Nat}(h:AE w base e k a n c rows)(f:blk a=some g):∃ b j,w.heap[g]?=some (Obj.cells b e j):=by
 rcases h.2.2 with⟨d,_⟩|⟨l,i,b,d,_,m,_⟩
 · simp only[eY]at d;rw[d.1]at f;cases f
 · simp only[eY]at d;rw[d.1]at f;have:l=g:=by simpa[blk]using f
   subst this;exact⟨_,_,m⟩
theorem K6(h:Own w b e a n c cs)(f:AE w b' e' k a' n' c' rows)(j:e≠e'):blk a=none\/blk a≠blk a':=by
 cases i:blk a' with
 | none=>cases h1:blk a with | none=>exact .inl rfl | some g=>exact .inr (by simp)
 | some g =>
  obtain⟨d,l,h1⟩:=Ri f i;exact Au h h1 j
theorem L6(h:AE w b e k a n c rows)(f:Own w b' e' a' n' c' cs)(j:e≠e'):blk a=none\/blk a≠blk a':=by
 cases i:blk a' with
 | none=>cases h1:blk a with | none=>exact .inl rfl | some g=>exact .inr (by simp)
 | some g =>
  obtain⟨d,l,h1⟩:=DH f i;exact BM h h1 j
theorem SU{k:List Int}(h:k ∉ m.map (·.1)):LM m k v=m ++ [(k,v)]:=by
 unfold LM;rw[BU.2 h]
def NmI(w:World)(base mB r:Nat)(l:PLs)(k:Nat)(wr:World):Prop:=∃ ae ce am cm,Arr wr mB 100 (mbL r ae k ce am k cm 1)/\AB wr r ((l.take k).map kvT)/\AE wr base 57 6 ae k ce ((l.take k).map E8)/\Own wr base 101 am k cm ((l.take k).map J9)/\Ext w wr
theorem Hl{ts:List Tx}{l:PLs}(h:CS w a n c ts)(hl:ts=l.map fun t=>(txt t.2,t.1))(hc:Pl.Canon N l)(hN:N<=6)(hn:n<=4096)(hs:∀ t∈ts,t.1.length<=1000) :
 Calls prog 45 #[.agg #[.int .i64 vars,.slice a n c]] w fun e w'=>∃ B,e = .returned (.pointer (some ⟨B,0,none⟩))/\Ext w w'/\w.heap.size<=B/\MbA w' w.heap.size B l 1:=by
 obtain⟨bP,hS,aZ,hq⟩:=h;have HQ:=qh hq;have bk:l.length=n:=by rw[<-aZ,hl,ft]
 have b6:=qh bk;have HL:=qh hl;have HC:=qh hc;have HS:=qh hs;clear hq aZ hl hc hs bk
 go_enter func45,ntmps45
 go_upto_region 1 with(fail)
 refine AK ?_;intro w0 b9 ar bs;have p0:=ar.c 0 rfl;have p1:=ar.c 1 rfl;clear ar
 go_upto_region 2 with(refine LO rfl rfl ?_;intro w1 aa a9 S)
 refine AK ?_;intro w2 a1 P c0;rw[bs]at aa S;obtain⟨r,hr⟩:∃ r,w.heap.size+1=r:=⟨_,rfl⟩;obtain⟨o,bm⟩:∃ m,w1.heap.size=m:=⟨_,rfl⟩;rw[hr]at aa S P |-;rw[bm]at P S |-;have b8:Arr w2 o 100 (mbL r none 0 0 none 0 0 1):=P;have bc:=aa.ext a1;have aK:=(b9.trans a9).trans a1;have bf:w.heap.size<=r:=by omega
 have aC:o≠r:=by omega
 have bW:w.heap.size<=o:=by omega
 have q0:=(a9.trans a1).cell p0;have q1:=(a9.trans a1).cell p1;clear aa P p0 p1 b9 a9 a1 bs c0 hr bm S;go_wp2
 go_loopw[13] (fun iv wr=>∃ k:Nat,iv = .int .i64 k/\k<=n/\NmI w w.heap.size o r l k wr) (fun iv _=>n-(intOf iv).toNat)
 case atStart=>exact⟨0,rfl,f8 _,none,0,none,0,b8,bc,AE.nil _ _ _ _,Own.nil _ _ _,aK⟩
 case round =>
  clear bc b8 aK q0 q1;obtain⟨k,rfl,hk,ae,ce,am,cm,hB,hM,a2,ac,hE⟩:=hrel;by_cases bl:k<n
  · have ay:=hS.ext hE;obtain⟨bq,c9,rfl,bX⟩:=ay.rd (by omega);obtain⟨s,ax,nx,aq,b3,a4,aE⟩:=HQ.out k bl;have hY:=Arr.new wr 46 (tmL ⟨#[]⟩ none 0 0);have aH:bP.getD k []=tmL s ax nx aq:=b3
    go_upto_region 5 with(first
     | (refine Cq rfl rfl Gs rfl ay bl ?_;rw[aH])
     | (refine Aa (vs:=tmL s ax nx aq) rfl rfl rfl rfl rfl Gs hY rfl (O7 _ _ _ _) ?_;intro w5 V bh))
    have au:Ext wr w5:=((Ext.refl wr).alloc _).grownR bh (lrf _);obtain⟨X,hX⟩:∃ x,wr.heap.size=x:=⟨_,rfl⟩;rw[hX]at V |-;have j:k<l.length:=by have:=b6.out;omega
    obtain⟨t,ht⟩:∃ t,l.getD k ([],0)=t:=⟨_,rfl⟩;have aD:ts.getD k tm0=(txt t.2,t.1):=by
     rw[HL.out,<-ht];simp[j]
    have bp:t∈l:=by
     rw[<-ht,gqq,eQ j];exact fu _
    have bo:t.1.length=N:=HC.out.len t bp;have M:l.take (k+1)=l.take k ++ [t]:=by
     rw[eU j,<-ht];simp[j]
    rw[aD]at a4 aE;have c7:s.size<=1000:=by
     have h1:=HS.out (ts.getD k tm0) (by rw[gqq,eQ (by rw[HL.out,ft];exact j)];exact fu _);rw[aD,<-a4,Al]at h1;exact h1
    have bn:s=ofL (txt t.2):=by rw[<-Re s,a4]
    have y0:=V.c 0 rfl;have y1:=V.c 1 rfl;have ao:SlI w5 ax nx aq t.1:=aE.ext (hE.trans au);have bO:nx<=6:=by have h1:=ao.len;omega
    have aA:(An t.1).length=6:=AV (by omega);have af:AY (An t.1) = .agg ((An t.1).map (Value.int .i64)).toArray:=rfl;have R:An t.1 ∉ ((l.take k).map kvT).map (·.1):=by
     intro hm;rw[jY]at hm;obtain⟨u,hu,he⟩:=fh.1 hm;have h1:u.1=t.1:=Jq (by rw[HC.out.len u (iU hu),bo]) he;have h2:=Es HC.out;rw[<-iR k l,fM,io]at h2;have h3:t∈l.drop k:=by
      have e1:t=l[k]:=by rw[<-ht];simp[j]
      rw[fD j,e1];exact List.mem_cons_self
     exact h2.2.2 u.1 (gn hu) t.1 (gn h3) h1
    have aI:Hid (LM ((l.take k).map kvT) (An t.1) (.string s)=(l.take (k+1)).map kvT):=qh (by
     rw[SU R,M,fM,bn]
     rfl)
    have b7:=qh M;have bR:Hid (B5 (Ad s)=B5 (txt t.2)):=qh (by rw[a4]);have ap:Hid ((An t.1).map (Value.int .i64)=E8 t):=qh rfl;clear hY bh b3 aH bX ay aE a4 aD bp bo M R bn ht j
    go_wp2_with fail
    refine(CE ao bO).mono ?_;rintro e w7 ⟨rfl,av⟩;obtain⟨κ,bt⟩:∃ κ,An t.1=κ:=⟨_,rfl⟩;rw[af];rw[bt]at aA af aI ap |-;have hA7:=Arr.new w7 57 As;obtain⟨x0,x1,x2,x3,x4,x5,br⟩:=six aA;have a3:κ.map (Value.int .i64)=[.int .i64 x0,.int .i64 x1,.int .i64 x2,.int .i64 x3,.int .i64 x4,.int .i64 x5]:=by rw[br];rfl
    rw[a3];rw[a3]at ap;have bU:Agg prog 57 ([.int .i64 x0,.int .i64 x1,.int .i64 x2,.int .i64 x3,.int .i64 x4,.int .i64 x5]:List Value).length:=C8;have bj:∀ u∈([.int .i64 x0,.int .i64 x1,.int .i64 x2,.int .i64 x3,.int .i64 x4,.int .i64 x5]:List Value),u.oneCell'=true:=by rw[<-a3];exact BN _
    have bQ:Hid ((Value.agg #[.int .i64 x0,.int .i64 x1,.int .i64 x2,.int .i64 x3,.int .i64 x4,.int .i64 x5])=AY κ):=qh (by rw[af,a3]);clear af a3 br bt
    go_upto_region 6 with(refine Aa (vs:=[.int .i64 x0,.int .i64 x1,.int .i64 x2,.int .i64 x3,.int .i64 x4,.int .i64 x5]) rfl rfl rfl rfl rfl bU hA7 rfl bj ?_;intro w8 q bi)
    have ba:Ext w7 w8:=((Ext.refl w7).alloc _).grownR bi (lrf _);have h58:=av.trans ba;have Z:=au.trans h58;have c5:∀ g,blk ae=some g->g<X:=fun g hg=>by rw[<-hX];exact(a2.lt hg).2
    have c6:o<X:=by rw[<-hX];exact hB.lt
    have bJ:X<w7.heap.size:=by have h1:=av.size;have h2:=V.lt;omega
    obtain⟨Y,be⟩:∃ y,w7.heap.size=y:=⟨_,rfl⟩;rw[be]at q bJ |-;have a0:=hB.ext Z;have bd:=hM.ext Z;have ak:=a2.ext Z;have al:=ac.ext Z;have az:=V.ext h58;have aO:=hE.trans Z;replace y0:=h58.cell y0;replace y1:=h58.cell y1;have b0:=a0.c 0 rfl;have b1:=a0.c 1 rfl;have b2:=a0.c 2 rfl;have z0:=q.c 0 rfl;have z1:=q.c 1 rfl;have z2:=q.c 2 rfl;have z3:=q.c 3 rfl;have z4:=q.c 4 rfl;have z5:=q.c 5 rfl;clear hA7 bi ba av h58 Z hB hM a2 ac V hE ao au be hX
    refine Ac
     [hdP o 0,hdP o 0,hdP o 0,he (.map (some r)),he (.agg #[.int .i64 x0,.int .i64 x1,.int .i64 x2,.int .i64 x3,.int .i64 x4,.int .i64 x5]),hdP X 0,he (.string s)]
     trivial ⟨?o0,?o1,?o2,?o3,?o4,?o5,?o6,trivial⟩ ?fin
    case o0=>exact omv
    case o1=>exact onc
    case o2 | o5=>exact ofa (d:=0)
    case o3 | o6=>exact ol
    case o4 =>
     refine Ae rfl fun ρ f b Q h => ?_
     try have e0:_=_:=h.1
     try have e1:_=_:=h.2.1
     try have e2:_=_:=h.2.2.1
     have bu:=b.cell z0;have bv:=b.cell z1;have bw:=b.cell z2;have bx:=b.cell z3;have bz:=b.cell z4;have bA:=b.cell z5;have ag:=b.cell y0;have c8:=b.cell b0;go_simp
     try (first | (intros;omega) | exact eT _ (by omega))
    case fin =>
     intro f b;change wpList _ _ _ _ _ _;simp only[Bs];have W:=bd.ext b
     go_upto_region 7 with(refine M2 (k:=κ) (v := .string s) rfl (Or.inl rfl) IF BH rfl bQ.out rfl W aA ?_;intro w9 ab I)
     rw[aI.out]at ab;have a8:=(a0.ext b).kept I (fun e=>by have h1:=fe e;exact aC h1);have aV:=(ak.ext b).kept I (Or.inr (F0 (ak.ext b) W));have an:=(al.ext b).kept I (BW (al.ext b) W);have aw:Ext w w9:=(aO.trans b).grown I (fun g h=>by cases h;exact bf);have ad:=(az.ext b).kept I (fun e=>by have h1:=fe e;exact(DG (az.ext b) W) h1);have L:=(q.ext b).kept I (fun e=>by have h1:=fe e;exact(DG (q.ext b) W) h1);have bZ:=(eW b.size I.size)
     clear W I bd a0 ak al az q aO y0 y1 z0 z1 z2 z3 z4 z5 b0 b1 b2;have y0:=ad.c 0 rfl;have b1:=a8.c 1 rfl;have z0:=L.c 0 rfl;have z1:=L.c 1 rfl;have z2:=L.c 2 rfl;have z3:=L.c 3 rfl;have z4:=L.c 4 rfl;have z5:=L.c 5 rfl;have b4:=fun(f:World) (b:Ext w9 f)=>qh (And.intro (b.cell z0) (And.intro (b.cell z1) (And.intro (b.cell z2) (And.intro (b.cell z3) (And.intro (b.cell z4) (And.intro (b.cell z5) (And.intro (b.cell y0) (b.cell b1))))))))
     refine Dl 7 (by decide) (by kernel_rfl) (fun f=>Ext w9 f)
      [he (.pointer (some ⟨o,0,none⟩)),
 he (.pointer (some ⟨o,0,none⟩)),
 he (.pointer (some ⟨o,0,none⟩)),
 he (.pointer (some ⟨o,1,none⟩)),
 he (.slice ae k ce),
 he (.agg #[.int .i64 x0,.int .i64 x1,.int .i64 x2,.int .i64 x3,.int .i64 x4,.int .i64 x5]),
 hp (fun v f=>K5 f v 57 [.int .i64 x0,.int .i64 x1,.int .i64 x2,.int .i64 x3,.int .i64 x4,.int .i64 x5])]
      (by kernel_rfl) (by kernel_rfl) (fun _ _ _ d _ h=>by cases d <;> exact h) (fun _ _ e h=>h.trans e) ((Ext.refl w9).drew) ⟨trivial,trivial,trivial,trivial,trivial,trivial,K5.x _ _,trivial⟩ ⟨?o0,?o1,?o2,?o3,?o4,?o5,?o6,trivial⟩ ?fin
     case o0 | o1=>exact omv
     case o2=>exact onc
     case o3=>exact ofa (d:=1)
     case o4=>exact ol
     case o5 =>
      refine Ae rfl fun ρ f b Q h => ?_;have e0:_=_:=h.1;obtain⟨bu,bv,bw,bx,bz,bA,ag,c1⟩:=(b4 f b).out;go_simp
     case o6 =>
      refine Cv rfl ?_;intro ρ f hp b h;have Q:=hp.const;have bg:=hp.func;have e0:_=_:=h.1;obtain⟨bu,bv,bw,bx,bz,bA,ag,c1⟩:=(b4 f b).out;exact⟨.slice (some ⟨f.heap.size,0,none⟩) 1 1,f.alloc (.cells #[.int .i64 x0,.int .i64 x1,.int .i64 x2,.int .i64 x3,.int .i64 x4,.int .i64 x5] 57),by go_simp,(Ext.refl _).alloc _,_,rfl,Arr.new _ _ _⟩
     case fin =>
      intro f b;rintro _ bb;change wpList _ _ _ _ _ _;simp only[lV,lU,C5,fW,kW,ij,gm,Act.put,jC,jn,kF];obtain⟨c3,rfl,aP⟩:=id bb;have p:=aV.ext b;have aW:=BA (k:=6) aP rfl
      go_upto_region 8 with(refine CC rfl rfl (by kernel_rfl) PK rfl p rfl aW (by intro r' hr u hu;rw[eV.1 hr]at hu;exact bj u hu) (by unfold maxLen;omega) (by omega) (eW aw.size b.size) ?_;intro T U a5 ai D bK;have z:=(a8.ext b).kept D (F3 p (a8.ext b) (by decide));have bS:a5.cell? ⟨o,1,none⟩=some (.slice ae k ce):=z.cell (i:=1) (by simp[mbL]);have bM:=z.frozen 1)
      have aL:Ext w a5:=(aw.trans b).grown D (fun g hg=>(p.lt hg).1);have aS:=(ab.ext b).kept D (fun e=>absurd e.symm (F0 p (ab.ext b)));have K:=(an.ext b).kept D (K6 (an.ext b) p (by decide));have aY:=(ad.ext b).kept D (F3 p (ad.ext b) (by decide));have aJ:Arr (a5.setCell ⟨o,1,none⟩ (.slice T (k+1) U)) o 100 (mbL r T (k+1) U am k cm 1):=z.set 1 _;have E:=Ab a5 o 1 (.slice T (k+1) U);have aG:=AE.kept ai E (BM ai z (by decide))
      have bC:=K.kept E (Au K z (by decide));have aT:=aS.kept E (fun e=>aC (fe e).symm);have bI:=aY.kept E (fun e=>by have h1:=fe e;omega);have aM:=aL.grown E (fun g hg=>by have h1:=fe hg;omega);clear p aW ai D bK z bS bM aL aS K aY E aP bb a8 ab aV an ad L aw y0 b1 z0 z1 z2 z3 z4 z5 bZ b;generalize a5.setCell ⟨o,1,none⟩ (.slice T (k+1) U)=aF at *
      have y0:=bI.c 0 rfl;have b2:=aJ.c 2 rfl;have b5:=fun(f:World) (b:Ext aF f)=>qh (And.intro (b.cell y0) (b.cell b2))
      refine Dl 9 (by decide) (by kernel_rfl) (fun f=>Ext aF f)
       [he (.pointer (some ⟨o,0,none⟩)),
 he (.pointer (some ⟨o,0,none⟩)),
 he (.pointer (some ⟨o,0,none⟩)),
 he (.pointer (some ⟨o,2,none⟩)),
 he (.slice am k cm),
 he (.pointer (some ⟨X,0,none⟩)),
 he (.string s),
 hp (fun v f=>v = .int .u64 (B5 (Ad s))),
 hp (fun v f=>K5 f v 101 [.int .u64 (B5 (Ad s))])]
       (by kernel_rfl) (by kernel_rfl) (fun _ _ _ d _ h=>by cases d <;> exact h) (fun _ _ e h=>h.trans e) ((Ext.refl aF).drew) ⟨trivial,trivial,trivial,trivial,trivial,trivial,trivial,fun _ _ _ _ h=>h,K5.x _ _,trivial⟩ ⟨?o0,?o1,?o2,?o3,?o4,?o5,?o6,?o7,?o8,trivial⟩ ?fin
      case o0 | o1=>exact omv
      case o2=>exact onc
      case o3=>exact ofa (d:=2)
      case o4 | o6=>exact ol
      case o5=>exact ofa (d:=0)
      case o7 =>
       refine Ah rfl fun ρ f b Q bg h => ?_;have e1:_=_:=h.2.1;obtain⟨ag,c2⟩:=(b5 f b).out;refine⟨71,#[.string s],by go_simp,(Nh (by omega)).mono ?_⟩;rintro e w' ⟨rfl,bV⟩;exact⟨_,rfl,bV,rfl⟩
      case o8 =>
       refine Cv rfl ?_;intro ρ f hp b h;have Q:=hp.const;have bg:=hp.func;obtain⟨v0,e0,rfl⟩:=h.1;obtain⟨ag,c2⟩:=(b5 f b).out;exact⟨.slice (some ⟨f.heap.size,0,none⟩) 1 1,f.alloc (.cells #[.int .u64 (B5 (Ad s))] 101),by go_simp,(Ext.refl _).alloc _,_,rfl,Arr.new _ _ _⟩
      case fin =>
       intro wy F;rintro _ rfl;rintro _ aR;change wpList _ _ _ _ _ _;simp only[lV,lU,C5,fW,kW,ij,gm,Act.put,jC,jn,kF];obtain⟨c4,rfl,aQ⟩:=id aR;have C:=bC.ext F;have O:=aJ.ext F;have bT:=O.c 2 rfl;have aX:=aQ.sl (k:=1) (by simp) (by unfold maxLen;simp)
       go_wp2_with(refine AU rfl rfl underlying98 AG rfl rfl C rfl aX (by simp[Value.oneCell']) (by unfold maxLen;omega) (by omega) (eW aM.size F.size) ?_;intro a6 a7 ah aj G bL;have A:=O.kept G (B7 C O (by decide));have bE:ah.cell? ⟨o,2,none⟩=some (.slice am k cm):=A.cell (i:=2) (by simp[mbL]);have bN:=A.frozen 2)
       have aN:Ext w ah:=(aM.trans F).grown G (fun g hg=>(C.lt hg).1);have aU:=(aT.ext F).kept G (fun e=>absurd e.symm (L5 C (aT.ext F)));have J:=(aG.ext F).kept G (L6 (aG.ext F) C (by decide));have bF:Arr (ah.setCell ⟨o,2,none⟩ (.slice a6 (k+1) a7)) o 100 (mbL r T (k+1) U a6 (k+1) a7 1):=A.set 2 _;have H:=Ab ah o 2 (.slice a6 (k+1) a7);have bB:=J.kept H (BM J A (by decide));have bD:=Own.kept aj H (Au aj A (by decide))
       have bH:=aU.kept H (fun e=>aC (fe e).symm);have bG:=aN.grown H (fun g hg=>by have h1:=fe hg;omega);clear C O bT aX aj G bL A bE bN aN aU J H aQ aR;go_roundw
       case rel =>
        refine⟨k+1,by go_num,by omega,T,U,a6,a7,bF,bH,?_,?_,bG⟩
        · rw[b7.out,fM];show AE _ _ _ _ _ _ _ (_ ++ [E8 t]);rw[<-ap.out];exact bB
        · rw[b7.out,fM];show Own _ _ _ _ _ _ (_ ++ [J9 t]);unfold J9;rw[<-bR.out];exact bD
       case measure=>simp[intOf];omega
  · have bY:k=n:=by omega
    have aB:=b6.out;have ht:l.take k=l:=eR (by omega);rw[ht]at hM a2 ac;subst bY;go_wp2;go_ret;refine⟨o,rfl,hE,bW,r,ae,ce,am,cm,?_,hM,?_,?_,bf⟩
    · rw[aB];exact hB
    · rw[aB];exact a2
    · rw[aB];exact ac
theorem L7:AR prog 95 (.pointer none) 8:=by unfold AR;kernel_rfl
theorem IJ{g:Nat}(h:Arr w g t cs)(a:Arr w g t' cs'):t=t':=by
 have h1:w.heap[g]?=_:=h;have h2:w.heap[g]?=_:=a;rw[h1]at h2;injection h2 with h3;injection h3 with _ h4
theorem Ub(b:w.grownBy w' row)(hp:w.cell? p=some v)(a:some p.block≠row):w'.cell? p=some v:=by
 rw[ir (b.block _ (gF w p hp) a),hp]
theorem L8{g:Nat}{m:List (Int×Value)}(h:Arr w g t cs)(a:AM w r m):g≠r:=fun e=>by
 subst e;have h1:w.heap[g]?=_:=h;rw[a.obj]at h1;cases h1
structure Ev(w:World)(base fB:Nat)(M:FMs)(ps:List Nat)(a:Option Addr)(n c:Nat)(mem:List Value)(rB:Nat)(fm:List (Int×Value))(F:Int->List Value):Prop where
 fga:Arr w fB 93 [.slice a n c,.map (some rB)]
 fgr:base<=rB/\rB<fB
 fgo:Own w base 95 a n c mem
 fgm:PMp w base rB 95 fm F
 fgd:∀ p∈fm,∀ g,E9 p.2=some g->some g≠blk a
 fgp:∀ i,i<M.length->MbA w (fB+1) (ps.getD i 0) (M.getD i fz).1 (M.getD i fz).2
section
variable {w:World} {base fB:Nat} {M:FMs} {ps:List Nat} {a:Option Addr} {n c:Nat} {mem:List Value} {rB:Nat} {fm:List (Int×Value)} {F:Int->List Value}
theorem Eu.g(h:Eu w base fB N M ps a c rB fm):Ev w base fB M ps a M.length c (ps.map pvM) rB fm fun h=>(grpI N M h).map fun i=>pvM (ps.getD i 0) :=
 ⟨h.fwa,h.fwr,h.fwo,h.fwm,h.fwd,h.fwp⟩
theorem Ev.ext{b:World}(h:Ev w base fB M ps a n c mem rB fm F)(e:Ext w b):Ev b base fB M ps a n c mem rB fm F :=
 ⟨h.fga.ext e,h.fgr,h.fgo.ext e,h.fgm.ext e,h.fgd,fun i d=>(h.fgp i d).ext e⟩
theorem Ev.mb_ne{l:PLs}(h:Ev w base fB M ps a n c mem rB fm F)(b:MbA w (fB+1) B l k):B≠fB:=fun e=>by
 obtain⟨r,d,g,f,i,h1,_⟩:=b;subst e;exact absurd (IJ h1 h.fga) (by decide)
theorem Ev.bump{x:PLs}(h:Ev w base fB M ps a n c mem rB fm F)(s:ps.length=M.length)(g:ps.Nodup)(hi:i<M.length)(t:(M.getD i fz).1=x)(hu:u = .int .i64 (k:Nat)) :
 Ev (w.setCell ⟨ps.getD i 0,3,none⟩ u) base fB (M.set i (x,k)) ps a n c mem rB fm F:=by
 subst hu;obtain⟨r,m,p,o,q,h1,h2⟩:=h.fgp i hi;have b:=Ab w (ps.getD i 0) 3 (.int .i64 (k:Nat));have l:ps.getD i 0≠fB:=h.mb_ne (h.fgp i hi);refine⟨h.fga.kept b (fun e=>l (fe e).symm),h.fgr,h.fgo.kept b (Au h.fgo h1 (by decide)),h.fgm.kept h1 (by decide) b,h.fgd,fun j f => ?_⟩;rw[gL]at f;by_cases d:j=i
 · subst d;have e:(M.set j (x,k)).getD j fz=(x,k):=by simp[f]
   rw[e];rw[t]at h1 h2;refine⟨r,m,p,o,q,h1.set 3 _,h2.mpm.kept b (fun e=>DG h1 h2.mpm (fe e).symm),h2.mpk.kept b (BM h2.mpk h1 (by decide)),h2.mpn.kept b (Au h2.mpn h1 (by decide)),h2.mpr⟩
 · have e:(M.set i (x,k)).getD j fz=M.getD j fz:=by simp[ge (Ne.symm d)]
   rw[e];refine(h.fgp j f).kept h1 (by decide) (by decide) (fun e=>d ?_) b;have h3:ps[j]'(by omega)=ps[i]'(by omega):=by simpa[show j<ps.length by omega,show i<ps.length by omega]using e
   exact(List.getElem_inj g).1 h3
theorem Ev.app{x:PLs}(h:Ev w base fB M ps a n c mem rB fm F)(t:ps.length=M.length)(L:MbA w (fB+1) B x k)(H:Own w1 base 95 a' (n+1) c' (mem ++ [v]))(j:w.grownBy w1 (blk a))(o:blk a'=blk a\/∃ g,blk a'=some g/\w.heap.size<=g)(hu:u = .slice a' (n+1) c') :
 Ev (w1.setCell ⟨fB,0,none⟩ u) base fB (M ++ [(x,k)]) (ps ++ [B]) a' (n+1) c' (mem ++ [v]) rB fm F:=by
 subst hu;have hA1:Arr w1 fB 93 [.slice a n c,.map (some rB)]:=h.fga.kept j (B7 h.fgo h.fga (by decide));have d:=Ab w1 fB 0 (.slice a' (n+1) c');have D:PMp w1 base rB 95 fm F:=h.fgm.keptO h.fgd (fun e=>CI h.fgo h.fgm.pmi e.symm) j
 have q:∀ {l:Nat} {A:PLs} {z:Nat},MbA w (fB+1) l A z->MbA (w1.setCell ⟨fB,0,none⟩ (.slice a' (n+1) c')) (fB+1) l A z:=fun {l A z} y=>by
  have G:MbA w1 (fB+1) l A z:=by
   cases b:blk a with
   | none=>rw[b]at j;exact y.ext (DK j)
   | some g =>
    rw[b]at j;obtain⟨K,U,I⟩:=DH h.fgo b;refine y.kept I (by decide) (by decide) (fun e => ?_) j;obtain⟨r,P,S,Q,T,h1,_⟩:=y;subst e;have h2:w.heap[l]?=_:=h1;rw[I]at h2;injection h2 with h3;injection h3 with _ h4;exact absurd h4 (by decide)
  refine G.kept hA1 (by decide) (by decide) (fun e => ?_) d;exact h.mb_ne y e
 refine⟨hA1.set 0 _,h.fgr,H.kept d (Au H hA1 (by decide)),D.kept hA1 (by decide) d,fun p hp g s => ?_,fun i O => ?_⟩
 · rcases o with o|⟨V,o,N⟩
   · rw[o];exact h.fgd p hp g s
   · rw[o];intro e;obtain⟨J,W,R,m,_,E⟩:=h.fgm.pme p hp;have h3:E9 p.2=blk J:=by rw[m];rfl
     have h4:=(E.lt (h3 ▸ s)).2;have h5:=fe e;omega
 · rw[ff,List.length_singleton]at O;by_cases f:i<M.length
   · have C:(M ++ [(x,k)]).getD i fz=M.getD i fz:=by simp[f4,f]
     have m:(ps ++ [B]).getD i 0=ps.getD i 0:=by simp[f4,t,f]
     rw[C,m];exact q (h.fgp i f)
   · have:i=M.length:=by omega
     subst this;have C:(M ++ [(x,k)]).getD M.length fz=(x,k):=by simp
     have m:(ps ++ [B]).getD M.length 0=B:=by simp[<-t]
     rw[C,m];exact q L
theorem Ev.put{k:Int}(h:Ev w base fB M ps a n c mem rB fm F)
 (K:∀ p∈fm,p.1≠k->∀ g,E9 p.2=some g->some g≠blk ag) (G:∀ g,blk ag=some g->∃ p∈fm,E9 p.2=some g) (E:∀ g,blk ag=some g->∃ m y,w.heap[g]?=some (Obj.cells m 95 y))
 (J:Own w1 base 95 ag' (ng+1) cg' (F k ++ [v])) (o:w.grownBy w1 (blk ag)) (q:blk ag'=blk ag\/∃ g,blk ag'=some g/\w.heap.size<=g) (I:AM w2 rB (Db fm k (.slice ag' (ng+1) cg'))) (f:AM w1 rB fm) (j:w1.grownBy w2 (some rB)) :
 Ev w2 base fB M ps a n c mem rB (Db fm k (.slice ag' (ng+1) cg')) fun e=>if e=k then F k ++ [v]else F e:=by
 have B:∀ {t:TypeId} {D:List Value} {g:Nat},Arr w g t D->95≠t->some g≠blk ag:=fun {t D g} H C e=>by
  obtain⟨m,y,x⟩:=E g e.symm;have h1:w.heap[g]?=_:=H;rw[x]at h1;injection h1 with h2;injection h2 with _ h3;exact C h3
 have hA1:=h.fga.kept o (B h.fga (by decide))
 have s:Own w1 base 95 a n c mem:=h.fgo.kept o (by
  cases b:blk a with
  | none=>exact .inl rfl
  | some g =>
   refine .inr fun e => ?_;obtain⟨p,hp,l⟩:=G g e.symm
   exact h.fgd p hp g l b.symm)
 refine⟨hA1.kept j (fun e=>L8 hA1 f (fe e)),h.fgr,s.kept j ?_,h.fgm.step K J o q I f j,fun p hp g l => ?_,fun i N => ?_⟩
 · cases b:blk a with
   | none=>exact .inl rfl
   | some g=>exact .inr (fun e=>CI s f (by rw[b,e]))
 · rcases Kb h.fgm.pmi.nodup hp with rfl|⟨hp,_⟩
   · have d:blk ag'=some g:=l;rcases q with q|⟨S,q,L⟩
     · rw[q]at d;obtain⟨p,hp,h1⟩:=G g d;exact h.fgd p hp g h1
     · intro e;have h1:=(h.fgo.lt e.symm).2;rw[q]at d;have:=fe d;omega
   · exact h.fgd p hp g l
 · have z:=h.fgp i N;have A:MbA w1 (fB+1) (ps.getD i 0) (M.getD i fz).1 (M.getD i fz).2:=by
    cases b:blk ag with
    | none=>rw[b]at o;exact z.ext (DK o)
    | some g =>
     rw[b]at o;obtain⟨m,y,x⟩:=E g b;refine z.kept x (by decide) (by decide) (fun e => ?_) o;obtain⟨r,O,Q,P,R,h1,_⟩:=z;rw[e]at h1;have h2:w.heap[g]?=_:=h1;rw[x]at h2;injection h2 with h3;injection h3 with _ h4;exact absurd h4 (by decide)
   exact A.keptMap f.obj (by have:=h.fgr;omega) j
end
theorem Rj{M:FMs}{x:PLs}(h:Int):grpI N (M ++ [(x,k)]) h=if h=fpI (idn N) x then grpI N M h ++ [M.length]else grpI N M h:=by
 unfold grpI;rw[ff,List.length_singleton,List.range_succ,List.filter_append];have c:(List.range M.length).filter (fun i=>decide (fpI (idn N) ((M ++ [(x,k)]).getD i fz).1=h))=(List.range M.length).filter (fun i=>decide (fpI (idn N) (M.getD i fz).1=h)):=by
  refine List.filter_congr fun i d => ?_;have:(M ++ [(x,k)]).getD i fz=M.getD i fz:=by simp[f4,iA.1 d]
  rw[this]
 rw[c];have b:(M ++ [(x,k)]).getD M.length fz=(x,k):=by simp
 by_cases a:h=fpI (idn N) x
 · rw[fE a];have:[M.length].filter (fun i=>decide (fpI (idn N) ((M ++ [(x,k)]).getD i fz).1=h))=[M.length]:=by
    rw[List.filter_cons,b,fE (gl a.symm)];rfl
   rw[this]
 · rw[fl a];have:[M.length].filter (fun i=>decide (fpI (idn N) ((M ++ [(x,k)]).getD i fz).1=h))=[]:=by
    rw[List.filter_cons,b,fl (by simpa using fun e:fpI (idn N) x=h=>a e.symm)];rfl
   rw[this,gR]
theorem Rk{M:FMs}{x:PLs}(c:(M.getD i fz).1=x)(h:Int):grpI N (M.set i (x,k)) h=grpI N M h:=by
 unfold grpI;rw[gL];refine List.filter_congr fun j b => ?_;have b:=iA.1 b;have:((M.set i (x,k)).getD j fz).1=(M.getD j fz).1:=by
  by_cases a:i=j
  · subst a;rw[c];simp[b]
  · simp[ge a]
 rw[this]
theorem Eu.of{M:FMs}{e:List (Int×Value)}{F:Int->List Value}(h:Ev w base fB M ps a n c mem rB e F)(k:n=M.length)(j:mem=ps.map pvM)(hF:∀ h,F h=(grpI N M h).map fun i=>pvM (ps.getD i 0))(g:ps.length=M.length)(d:ps.Nodup)(b:∀ i,i<M.length->fB<ps.getD i 0)(f:∀ i,i<M.length->Pl.Canon N (M.getD i fz).1/\(M.getD i fz).1.length<=4096/\(M.getD i fz).2<=1000):Eu w base fB N M ps a c rB e:=by
 subst k j;exact⟨g,d,h.fga,h.fgr,h.fgo,h.fgm.congr hF,h.fgd,h.fgp,b,f⟩
def Rm(W:World)(v:Value)(w:World)(u:Value):Prop:=∃ g,W.heap.size<=g/\v = .slice (some ⟨g,0,none⟩) 1 1/\Arr w g 95 [u]
theorem Rm.x(W:World)(u:Value):∀ (v:Value) (w a:World),Ext w a->Rm W v w u->Rm W v a u:=fun _ _ _ e ⟨g,h0,h1,h2⟩=>⟨g,h0,h1,h2.ext e⟩
def Rn(W:World)(base:Nat)(a:Option Addr)(n:Nat)(G:List Value)(u v:Value)(w:World):Prop:=∃ a' c',v = .slice a' (n+1) c'/\Own w base 95 a' (n+1) c' (G ++ [u])/\(blk a'=blk a\/∃ g,blk a'=some g/\W.heap.size<=g)
theorem Rn.x(W:World)(base:Nat)(a:Option Addr)(n:Nat)(G:List Value)(u:Value):∀ (v:Value) (w b:World),Ext w b->Rn W base a n G u v w->Rn W base a n G u v b:=fun _ _ _ e ⟨c,d,h1,h2,h3⟩=>⟨c,d,h1,h2.ext e,h3⟩
theorem Ro{xs:List Value} 
 (L:P.underlying t=some (.slice e)) (o:AR P e z bytes) (N:z.cells.size=1) (d:Own w base e a n c xs) (O:Arr w g0 e [u]) (h1:u.oneCell'=true) (h63:n+1<=maxLen) (l:(n+1)*bytes<=140737488355328) (s:base<=w.heap.size) :
 ∃ r C B,(Builtin.append_ #[t,t] ty #[.slice a n c,.slice (some ⟨g0,0,none⟩) 1 1]).run P w = .ok (.slice r (n+1) C) B/\Own B base e r (n+1) C (xs ++ [u])/\w.grownBy B (blk a)/\(blk r=blk a\/blk r=some w.heap.size)/\Own B base e a n c xs:=by
 obtain⟨r,C,B,f,h2,h3,h4⟩:=Ou (P:=P) (ty:=ty) L o N d (O.sl (k:=1) (by simp) (by unfold maxLen;simp)) (by simpa using h1) h63 l s;refine⟨r,C,B,f,h2,h3,h4,?_⟩;replace f:(Builtin.append_ #[t,t] ty #[.slice a n c,.slice (some ⟨g0,0,none⟩) 1 1]).run P w = .ok (.slice r (n+1) C) B:=f;obtain⟨i,R,U,b,I⟩:=jJ o
 have p:∀ j v,[u][j]?=some v->w.cell? ((⟨g0,0,none⟩:Addr).add j)=some v:=fun j v E=>by
  match j,E with
  | 0,E=>cases E;exact O.cell (i:=0) (by simp)
  | j+1,E=>simp at E
 rcases d.2 with⟨G,h0⟩|⟨g,S,q,G,H,Q,K,J,D,A⟩
 · exact⟨d.1,.inl ⟨G,h0⟩⟩
 · have T:=G;simp only[eY]at G;obtain⟨rfl,_,rfl⟩:=G;by_cases y:n+1<=c
   · have m:n*i.size+[u].length<=q.size:=by rw[b,D];simp;omega
     have F:=run_append_room (P:=P) w t ty e i L R g n c q Q ⟨g0,0,none⟩ 1 1 [u] (by rw[b];simp) p (by simpa using h1) y m;rw[f]at F;injection F with _ M;rw[M];refine⟨d.1,.inr ⟨g,c,_,rfl,H,setRow_heap w g q _ e _ Q,K,J,?_,?_⟩⟩
     · simp only[List.size_toArray,ff,go,iC,Array.length_toList];rw[b]at m |-;simp at m |-;omega
     · have V:n*1<=q.size:=by rw[D];omega
       simp only[b,fZ];rw[List.take_append_of_le_length (by simp;omega),kZ,Nat.min_self];exact A
   · have x:∀ j v,xs[j]?=some v->w.cell? ((⟨g,0,none⟩:Addr).add j)=some v:=World.ownsRow.cells (g:=g) d rfl;have F:=run_append_grow (P:=P) w t ty e i z L R U ⟨g,0,none⟩ n c xs (by rw[b];exact d.1) x ⟨g0,0,none⟩ 1 1 [u] (by rw[b];simp) p (by omega) (by have h:=h63;unfold maxLen at h;omega) (growslice_fits (by have h:=h63;unfold maxLen at h;omega) (by rw[I];exact l));rw[f]at F;injection F with _ M;rw[M];exact(d.drew).alloc _
theorem Hm{qs:List (Int×List Tx)}{L:List PLs}(h:PSl w a n c qs)(hl:L.length=n)(hq:∀ i,i<n->(qs.getD i pz).2=(L.getD i []).map fun t=>(txt t.2,t.1))(hc:Hk N L)(hb:∀ x∈L,x.length<=100/\∀ t∈x,(txt t.2).length<=1000)(hN:N<=6)(hn:n<=100) :
 Calls prog 20 #[.int .i64 N,.slice a n c] w fun e w'=>∃ f M l am cm rB fm,e = .returned (.pointer (some ⟨f,0,none⟩))/\Ext w w'/\Eu w' w.heap.size f N M l am cm rB fm/\Ch L M:=by
 obtain⟨bY,hS,bF,bs⟩:=h;have bM:=qh bs;have HL:=qh hl;have HQ:=qh hq;have HC:=qh hc;have HB:=qh hb;clear bs bF hl hq hc hb
 go_enter func20,ntmps20
 go_upto_region 2 with(refine PH rfl rfl ?_;intro w1 aG b8 av)
 refine AK ?_;intro w2 az ao bV;obtain⟨rB,hr⟩:∃ r,w.heap.size=r:=⟨_,rfl⟩;obtain⟨f,hf⟩:∃ m,w1.heap.size=m:=⟨_,rfl⟩;rw[hr]at aG av;rw[hf]at ao av |-;have b7:Arr w2 f 93 [.slice none 0 0,.map (some rB)]:=by rw[<-hr];exact ao
 have be:=aG.ext az;have aQ:=b8.trans az;have b9:Eu w2 w.heap.size f N [] [] none 0 rB []:=⟨rfl,List.nodup_nil,b7,⟨by omega,av⟩,Own.nil _ _ _,PMp.new be (by omega),by simp,fun i q=>absurd q (by simp),fun i q=>absurd q (by simp),fun i q=>absurd q (by simp)⟩;clear ao b7 aG be b8 az bV hf
 go_wp2_with fail
 refine(Ek (by omega)).mono ?_;rintro e w3 ⟨ai,Z,ci,rfl,aA,bg⟩;have bU:Z=N:=by have:=bg.sl.len;rw[AC]at this;exact this.symm
 subst bU;have ba:=b9.ext aA;have bB:=aQ.trans aA;clear b9 aQ aA;go_wp2
 go_loopw[19] (fun iv wr=>∃ (k:Nat) (M:FMs) (l:List Nat) (am:Option Addr) (cm:Nat) (fm:List (Int×Value)),iv = .int .i64 k/\k<=n/\Ext w wr/\KI w3 wr/\Eu wr w.heap.size f Z M l am cm rB fm/\Hid (Ch (L.take k) M/\(∀ i,i<M.length->(M.getD i fz).2<=k)/\M.length<=k)) (fun iv _=>n-(intOf iv).toNat)
 case atStart=>exact⟨0,[],[],none,0,[],rfl,f8 _,bB,KI.refl _,ba,qh ⟨by rw[gZ];exact Ch.nil,fun i q=>absurd q (by simp),f8 _⟩⟩
 case round =>
  clear ba;obtain⟨k,M,l,am,cm,fm,rfl,hk,hE,bd,hF,HI⟩:=hrel;have bc:=(AD.ki bg bd).sl;by_cases al:k<n
  case neg =>
   have HZ:Hid (Ch L M):=qh (by
    have h1:=HI.out.1;rw[eR (by rw[HL.out];omega)]at h1
    exact h1)
   go_wp2;go_ret;exact⟨f,M,l,am,cm,rB,fm,rfl,hE,hF,HZ.out⟩
  have aH:=hS.ext hE;obtain⟨bq,c4,rfl,bS⟩:=aH.rd (by omega);obtain⟨A,m,d,aw,af⟩:=bM.out k al;have hY:=Arr.new wr 24 (B4 0 none 0 0);have ak:k<L.length:=by rw[HL.out];exact al
  obtain⟨x,hx⟩:∃ x,L.getD k []=x:=⟨_,rfl⟩;have aN:x∈L:=by rw[<-hx];exact CV ak
  have bt:L.take (k+1)=L.take k ++ [x]:=by
   rw[eU ak,<-hx];simp[ak]
  have aM:=HQ.out k al;rw[hx]at aM;obtain⟨va,bu⟩:∃ v,(qs.getD k pz).1=v:=⟨_,rfl⟩;rw[bu]at aw;rw[aM]at af;obtain⟨bh,bi⟩:=HB.out x aN;have bk:=HC.out x aN;have HX:=qh (And.intro bk (And.intro bh bi));have b6:=qh bt;have c2:m<=100:=by have h1:=af.len;rw[ft]at h1;omega
  clear bS hx aN bt aM bu ak bh bi bk
  go_upto_region 6 with(first
   | (refine Cq rfl rfl CM rfl aH al ?_;rw[aw])
   | (refine Aa (vs:=B4 va A m d) rfl rfl rfl rfl rfl CM hY rfl (Dm _ _ _ _) ?_;intro w5 aa bn))
  have W:Ext wr w5:=((Ext.refl wr).alloc _).grownR bn (lrf _);obtain⟨X,hX⟩:∃ x,wr.heap.size=x:=⟨_,rfl⟩;rw[hX]at aa |-;have y0:=aa.c 0 rfl;have y1:=aa.c 1 rfl;have aX:=af.ext (hE.trans W);have br:=qh (Hl (vars:=va) aX rfl HX.out.1 hN (by omega) (by intro t ht;obtain⟨u,hu,rfl⟩:=fh.1 ht;exact HX.out.2.2 u hu));have a3:=hF.ext W;have aR:=hE.trans W;have bb:=bc.ext W;clear hY bn aw aH hF af aX hX aa
  go_wp2_with fail
  refine br.out.mono ?_;rintro e w6 ⟨B,rfl,a2,bA,aV⟩;have aO:f+1<=w5.heap.size:=a3.fwa.lt;have J:=aV.mono aO;have aB:=a3.ext a2;have aS:=aR.trans a2;have aD:=bb.ext a2
  have b3:B ∉ l:=fun hm=>by
   obtain⟨i,q,e⟩:=fR hm;have h1:=(a3.fwp i (by have:=a3.fwl;omega)).lt;have h2:l.getD i 0=B:=by simp[q,e]
   omega
  have bD:=qh b3;have bJ:Hid (f<B):=qh (by omega);have bo:=qh (G8 aB J aD (Dj hN) (AC Z) HX.out.1 (by have:=HX.out.2.1;omega));clear br a3 bb b3 aO bA aV y0 y1
  go_wp2_with fail
  refine bo.out.mono ?_;rintro e w7 ⟨o,rfl,Y,hO⟩;have b:=aB.ext Y;have ac:=J.ext Y;have aE:=aD.ext Y;have ap:=aS.trans Y;have aF:KI w3 w7:=bd.trans (((W.trans a2).trans Y).ki);clear bo aB J aD bc W a2 Y aR aS;cases o with
  | some i =>
   have q:i<M.length:=hO.1;have a7:(M.getD i fz).1=x:=((Rl.one hN HX.out.1).det hO.2 HX.out.1 (b.fwc i q).1).symm;obtain⟨cn,aj⟩:∃ c,(M.getD i fz).2=c:=⟨_,rfl⟩;have bZ:cn<=k:=by rw[<-aj];exact HI.out.2.1 i q
   obtain⟨r1,e1,d1,a1,b1,hA1,_⟩:=b.fwp i q;rw[aj]at hA1;obtain⟨pi,an⟩:∃ p,l.getD i 0=p:=⟨_,rfl⟩;have aI:=b.g.bump (u := .int .i64 ((cn:Int)+1)) (k:=cn+1) b.fwl b.fwn q a7 (by simp);rw[an]at hA1 aI;have u1:=hA1.c 3 rfl;have c0:=hA1.frozen 3;have bX:w.heap.size<=pi:=by rw[<-an];have h1:=b.fwb i q;have h2:=b.fwr;omega
   have a8:Hid (Ch (L.take (k+1)) (M.set i (x,cn+1))/\(∀ j,j<(M.set i (x,cn+1)).length->((M.set i (x,cn+1)).getD j fz).2<=k+1)/\(M.set i (x,cn+1)).length<=k+1):=qh (by
    rw[b6.out];refine⟨by have h1:=HI.out.1.old q a7;rw[show(M.getD i ([],0)).2=cn from aj]at h1;exact h1,fun j S => ?_,by rw[gL];have:=HI.out.2.2;omega⟩;rw[gL]at S;by_cases a6:i=j
    · subst a6;simp[S];omega
    · have h1:=HI.out.2.1 j S;have e:(M.set i (x,cn+1)).getD j fz=M.getD j fz:=by simp[ge a6]
      rw[e];omega)
   have HW:=qh (Eu.of (N:=Z) aI (by rw[gL]) rfl (fun h=>by rw[Rk a7]) (by rw[gL];exact b.fwl) b.fwn (fun j S=>b.fwb j (by rw[gL]at S;exact S)) (fun j S=>by
    have h2:=a8.out.2.1 j S;rw[gL]at S;have e:((M.set i (x,cn+1)).getD j fz).1=(M.getD j fz).1:=by
     by_cases a6:i=j
     · subst a6;rw[a7];simp[S]
     · simp[ge a6]
    rw[e]
    exact⟨(b.fwc j S).1,(b.fwc j S).2.1,by omega⟩))
   have aJ:=Ab w7 pi 3 (.int .i64 ((cn:Int)+1));have I:=ap.grown aJ (fun g s=>by have h1:=fe s;omega);have ab:=aF.trans (KI.grown aJ (fun g s cs fr e=>by have h1:=fe s;rw[<-h1]at e;have h2:w7.heap[pi]?=_:=hA1;rw[e]at h2;injection h2 with h3;injection h3 with _ h4;exact absurd h4 (by decide)));clear hO a7 aj hA1 aI b ac aE HI aJ;simp only[Rh,pvM];rw[an];clear an;go_wp2;go_roundw
   case rel=>exact⟨k+1,_,l,am,cm,fm,by go_num,by omega,I,ab,HW.out,a8⟩
   case measure=>simp[intOf];omega
  | none =>
   have b2:x ∉ M.map (·.1):=fun hm=>by
    obtain⟨p,hp,he⟩:=fh.1 hm;obtain⟨i,q,rfl⟩:=fR hp;have e:(M.getD i fz).1=x:=by rw[<-he];simp[q]
    refine hO i q ?_;rw[e];exact Rl.one hN HX.out.1
   have a8:Hid (Ch (L.take (k+1)) (M ++ [(x,1)])/\(∀ j,j<(M ++ [(x,1)]).length->((M ++ [(x,1)]).getD j fz).2<=k+1)/\(M ++ [(x,1)]).length<=k+1):=qh (by
    rw[b6.out];refine⟨HI.out.1.new b2,fun j S => ?_,by rw[ff,List.length_singleton];have:=HI.out.2.2;omega⟩;rw[ff,List.length_singleton]at S;by_cases bp:j<M.length
    · have e:(M ++ [(x,1)]).getD j fz=M.getD j fz:=by simp[f4,bp]
      rw[e];have:=HI.out.2.1 j bp;omega
    · have:j=M.length:=by omega
      subst this
      simp)
   have bQ:M.length<=100:=by have:=HI.out.2.2;omega
   have bw:=qh b.fwn;have V:=qh b.fwl;have b4:=qh (And.intro b.fwb b.fwc);have bm:=qh (Dc ac aE (Dj hN) (AC Z) HX.out.1 (by have:=HX.out.2.1;omega));clear hO b2 HI;simp only[Rh]
   go_wp2_with fail
   refine bm.out.mono ?_;rintro e w8 ⟨rfl,I⟩;have D:=b.g.ext I;have bf:=ac.ext I;have Q:=ap.trans I;have ab:=aF.trans I.ki;obtain⟨F,aC⟩:∃ F,(fun h=>(grpI Z M h).map fun i=>pvM (l.getD i 0))=F:=⟨_,rfl⟩;rw[aC]at D;have ax:Hid (∀ h,F h=(grpI Z M h).map fun i=>pvM (l.getD i 0)):=qh fun h=>by rw[<-aC]
   obtain⟨T,aK⟩:∃ h,fpI (idn Z) x=h:=⟨_,rfl⟩;rw[aK];have bL:=qh aK;obtain⟨ml,aL⟩:∃ m,M.length=m:=⟨_,rfl⟩;have b5:=qh aL;rw[aL]at D bQ;have hA:=Own.alloc D.fgo (.cells #[.pointer (some ⟨B,0,none⟩)] 95);have hL:=(Ag w8 w.heap.size 95 #[.pointer (some ⟨B,0,none⟩)] 1 rfl Q.size (by omega)).sl;have K:Ext w8 (w8.alloc (.cells #[.pointer (some ⟨B,0,none⟩)] 95)):=(Ext.refl w8).alloc _;have f0:w8.cell? ⟨f,0,none⟩=some (.slice am ml cm):=D.fga.cell (i:=0) (by simp);have bI:=Q.size;clear b ac aE bm I aC aK aL ap aF
   go_upto_region 12 with(refine AU rfl rfl underlying91 L7 rfl rfl hA rfl hL (by simp[Value.oneCell']) (by unfold maxLen;omega) (by omega) (by simp;omega) ?_;intro z C a0 aW G aY;have hA11:=(D.fga.ext K).kept G (B7 hA (D.fga.ext K) (by decide));have bz:a0.cell? ⟨f,0,none⟩=some (.slice am ml cm):=hA11.cell (i:=0) (by simp);have bv:=hA11.frozen 0)
   have y:=(D.ext K).app (u := .slice z (ml+1) C) V.out (bf.ext K) aW G (by rcases aY with h1 | h1;exact .inl h1;exact .inr ⟨_,h1,lrf _⟩) rfl;have au:=Ab a0 f 0 (.slice z (ml+1) C);have aq:Ext w (a0.setCell ⟨f,0,none⟩ (.slice z (ml+1) C)):=((Q.trans K).grown G (fun g s=>(hA.lt s).1)).grown au (fun g s=>by have h1:=fe s;have h2:=D.fgr;omega)
   have aT:KI w3 (a0.setCell ⟨f,0,none⟩ (.slice z (ml+1) C)):=((ab.trans K.ki).trans (KI.grown G (fun g s cs fr e=>by obtain⟨bN,bO,h1⟩:=DH hA s;rw[e]at h1;injection h1 with h3;injection h3 with _ h4;exact absurd h4 (by decide)))).trans (KI.grown au (fun g s cs fr e=>by have h1:=fe s;rw[<-h1]at e;have h2:a0.heap[f]?=_:=hA11;rw[e]at h2;injection h2 with h3;injection h3 with _ h4;exact absurd h4 (by decide)));clear D bf hA hL K f0 aW G aY hA11 bz bv au Q ab bI
   generalize a0.setCell ⟨f,0,none⟩ (.slice z (ml+1) C)=W0 at *
   have HG:=qh y;obtain⟨ag,ng,cg,aP,E,aZ,b0⟩:=y.fgm.look T;have a4:=y.fgm.pmi;have f1:W0.cell? ⟨f,1,none⟩=some (.map (some rB)):=y.fga.cell (i:=1) (by simp);have bl:some f≠blk ag:=B7 E y.fga (by decide);have c3:ng<=100:=by
    have h1:=E.len;rw[ax.out,ft]at h1;have h2:(grpI Z M T).length<=(List.range M.length).length:=List.length_filter_le _ _;rw[List.length_range,b5.out]at h2;omega
   have bR:=aq.size
   have bK:Hid (∀ (O:World) (ay:List (Int×Value)),Ev O w.heap.size f (M ++ [(x,1)]) (l ++ [B]) z (ml+1) C (l.map pvM ++ [.pointer (some ⟨B,0,none⟩)]) rB ay (fun e=>if e=T then F T ++ [.pointer (some ⟨B,0,none⟩)]else F e)->Eu O w.heap.size f Z (M ++ [(x,1)]) (l ++ [B]) z C rB ay):=qh (by
    intro O ay hG;refine Eu.of hG (by rw[ff,List.length_singleton,b5.out]) (by rw[fM];rfl) (fun h => ?_) (by rw[ff,ff,V.out];rfl) ?_ (fun i q => ?_) (fun i q => ?_)
    · have bj:∀ h',(grpI Z M h').map (fun i=>pvM ((l ++ [B]).getD i 0))=(grpI Z M h').map fun i=>pvM (l.getD i 0):=fun h'=>by
       refine kz fun i q => ?_;have h1:=iA.1 (jc.1 q).1;have h2:i<l.length:=by rw[V.out];exact h1
       simp[f4,h2]
      rw[Rj,bL.out];by_cases hh:h=T
      · subst hh;rw[fE rfl,fE rfl,fM,bj,<-ax.out];have e:(l ++ [B]).getD M.length 0=B:=by rw[<-V.out];simp
        rw[gM,ix,e];rfl
      · rw[fl hh,fl hh,bj,ax.out]
    · rw[io];exact⟨bw.out,by simp,fun u hu v T e=>bD.out (by rw[eV.1 T]at e;rw[<-e];exact hu)⟩
    · rw[ff,List.length_singleton]at q;by_cases a5:i<M.length
      · have h2:i<l.length:=by rw[V.out];exact a5
        have e:(l ++ [B]).getD i 0=l.getD i 0:=by simp[f4,h2]
        rw[e];exact b4.out.1 i a5
      · have:i=l.length:=by rw[V.out];omega
        subst this;have e:(l ++ [B]).getD l.length 0=B:=by simp
        rw[e];exact bJ.out
    · rw[ff,List.length_singleton]at q;by_cases a5:i<M.length
      · have e:(M ++ [(x,1)]).getD i fz=M.getD i fz:=by simp[f4,a5]
        rw[e];exact b4.out.2 i a5
      · have:i=M.length:=by omega
        subst this;have e:(M ++ [(x,1)]).getD M.length fz=(x,1):=by simp
        rw[e]
        exact⟨HX.out.1,by have:=HX.out.2.1;show x.length<=_;omega,by show 1<=1000;omega⟩)
   clear y
   refine Co (by kernel_rfl) (fun U=>W0.grownBy U (blk ag)/\Own U w.heap.size 95 ag ng cg (F T))
    [he (.pointer (some ⟨f,0,none⟩)),
 he (.pointer (some ⟨f,0,none⟩)),
 he (.pointer (some ⟨f,1,none⟩)),
 he (.map (some rB)),
 he (.int .u64 T),
 he (.pointer (some ⟨f,0,none⟩)),
 he (.pointer (some ⟨f,0,none⟩)),
 he (.pointer (some ⟨f,1,none⟩)),
 he (.map (some rB)),
 he (.int .u64 T),
 he (.slice ag ng cg),
 he (.pointer (some ⟨B,0,none⟩)),
 hu 13 (fun v U=>Rm W0 v U (.pointer (some ⟨B,0,none⟩))),
 hmp (fun v U=>Rn W0 w.heap.size ag ng (F T) (.pointer (some ⟨B,0,none⟩)) v U)]
    (by kernel_rfl) (fun _ _ e h=>⟨CW h.1 e,h.2.ext e⟩) ⟨CW (C0 W0 _) (Ext.refl W0).drew,E.ext (Ext.refl W0).drew⟩ ⟨trivial,trivial,trivial,trivial,trivial,trivial,trivial,trivial,trivial,trivial,trivial,trivial,Rm.x _ _,Rn.x _ _ _ _ _ _,trivial⟩ ⟨?o0,?o1,?o2,?o3,?o4,?o5,?o6,?o7,?o8,?o9,?o10,?o11,?o12,?o13,trivial⟩ ?fin
   case o0 | o4 | o5 | o9 | o11=>exact omv
   case o1 | o6=>exact onc
   case o2 | o7=>exact ofa (d:=1)
   case o3 | o8=>exact olC rfl rfl (fun _ _=>id) (by kernel_rfl) (fun U H=>Ub H.1 f1 bl)
   case o10=>exact Vk (k:=T) rfl rfl (fun _ _=>id) (fun _ _=>id) II underlying101 Kd (fun U H=>a4.kept H.1 (fun e=>CI E a4 e.symm)) aP
   case o12 =>
    refine Cv rfl ?_;intro ρ U hp H h;have bW:=hp.const;have e0:_=_:=h.1;exact⟨.slice (some ⟨U.heap.size,0,none⟩) 1 1,U.alloc (.cells #[.pointer (some ⟨B,0,none⟩)] 95),by go_simp,(Ext.refl _).alloc _,_,H.1.size,rfl,Arr.new _ _ _⟩
   case o13 =>
    refine S0 rfl ?_;intro ρ U hp H h;have e0:_=_:=h.1;obtain⟨v1,e1,g9,c1,rfl,bP⟩:=h.2.1;obtain⟨a9,c9,w9,bG,ae,bT,ah,bH⟩:=Ro (P:=prog) (ty:=91) underlying91 L7 rfl H.2 bP rfl (by unfold maxLen;omega) (by omega) (eW bR H.1.size);refine⟨.slice a9 (ng+1) c9,w9,?_,⟨Ex H.1 bT,bH⟩,Nx (by kernel_rfl),a9,c9,rfl,ae,?_⟩
    · simp only[execOp,resolve,invoke,builtin,fq,fO,eX,iB,gM,ix,e0,e1,bG]
    · rcases ah with h1|h1
      · exact .inl h1
      · exact .inr ⟨_,h1,H.1.size⟩
   case fin =>
    intro U H;intro c5;rintro _ ⟨a9,c9,rfl,ae,ah⟩;change wpList _ _ _ _ _ _;simp only[Bs];have ad:AM U rB fm:=a4.kept H.1 (fun e=>CI E a4 e.symm)
    go_wp2_with(refine SR (k:=T) (v := .slice a9 (ng+1) c9) rfl (Or.inl rfl) II underlying101 rfl rfl rfl ad ?_;intro O aU R)
    have ar:=HG.out.put aZ b0 (fun g s=>DH E s) ae H.1 ah aU ad R;have bC:Ext w O:=(aq.grown H.1 (fun g s=>(E.lt s).1)).grown R (fun g s=>by have h1:=fe s;have h2:=ar.fgr;omega);have bx:Hid (Eu O w.heap.size f Z (M ++ [(x,1)]) (l ++ [B]) z C rB (Db fm T (.slice a9 (ng+1) c9))):=qh (bK.out _ _ ar)
    have bE:KI w3 O:=(aT.trans (KI.grown H.1 (fun g s cs fr e=>by obtain⟨bN,bO,h1⟩:=DH E s;rw[e]at h1;injection h1 with h3;injection h3 with _ h4;exact absurd h4 (by decide)))).trans (KI.grown R (fun g s cs fr e=>by have h1:=fe s;rw[<-h1,ad.obj]at e;cases e));clear ad aU R ar H ae ah f1 bl a4 E aP aZ b0 aT aq;go_roundw
    case rel=>exact⟨k+1,M ++ [(x,1)],l ++ [B],z,C,_,by go_num,by omega,bC,bE,bx.out,a8⟩
    case measure=>simp[intOf];omega
open Classical in
noncomputable def kpB (xs:List Int) (M:FMs):Bool:=decide (∀ i,i<M.length->∃ j,j<M.length/\Rl xs (M.getD i fz).1 (M.getD j fz).1/\(M.getD i fz).2=(M.getD j fz).2)
theorem Nj{M:FMs}{fm:List (Int×Value)}{x:Option Addr}(hF:Eu w base fB N M ps a c rB fm)(R:(M.map (·.1)).Nodup)(hx:SlI w x nx cx xs)(hp:Ak xs=true)(hl:xs.length=N) :
 Calls prog 25 #[.pointer (some ⟨fB,0,none⟩),.slice x nx cx] w fun e w'=>e = .returned (.bool (kpB xs M))/\Ext w w':=by
 classical
 obtain⟨v,s⟩:∃ m,M.length=m:=⟨_,rfl⟩;have Q:=hF.fwa.cell (i:=0) (by simp);have f0:w.cell? ⟨fB,0,none⟩=some (.slice a v c):=by rw[<-s];exact Q
 have z:=hF.fwo.sl;rw[s]at z;have a3:v<=9223372036854775807:=by have h1:=z.cap;have h2:=z.max;unfold maxLen at h2;omega
 obtain⟨A,t⟩:∃ b,kpB xs M=b:=⟨_,rfl⟩;rw[t];have X:Hid (decide (∀ i,i<v->∃ j,j<v/\Rl xs (M.getD i fz).1 (M.getD j fz).1/\(M.getD i fz).2=(M.getD j fz).2)=A):=qh (by rw[<-t,<-s];rfl);have B:=qh hF;have W:=qh R;have HP:=qh hp;have HL:=qh hl;have d:=qh s;clear hF R hp hl s Q t
 go_enter func25,ntmps25
 go_wp2
 go_loopw[13] (fun iv wr=>∃ k:Nat,iv = .int .i64 k/\k<=v/\Ext w wr/\Hid (∀ i,i<k->∃ j,j<v/\Rl xs (M.getD i fz).1 (M.getD j fz).1/\(M.getD i fz).2=(M.getD j fz).2)) (fun iv _=>v-(intOf iv).toNat)
 case atStart=>exact⟨0,rfl,f8 _,Ext.refl _,qh (fun i hi=>absurd hi (by omega))⟩
 case round =>
  obtain⟨k,rfl,hk,D,I⟩:=hrel;by_cases g:k<v
  case neg =>
   have HT:Hid (A=true):=qh (by rw[<-X.out];exact gl fun i hi=>I.out i (by omega));clear I;go_wp2;go_ret;exact⟨by rw[HT.out];rfl,D⟩
  have K:=z.ext D;obtain⟨b9,o9,rfl,P⟩:=K.rd (by omega);have gk:=P k g;have U:(ps.map pvM).getD k undef = .pointer (some ⟨ps.getD k 0,0,none⟩):=by
   have h1:k<ps.length:=by rw[B.out.fwl,d.out];exact g
   simp[h1,pvM]
  rw[U]at gk;obtain⟨q1,q2,q3⟩:=B.out.fwc k (by rw[d.out];exact g);have f:=qh (G8 (B.out.ext D) ((B.out.fwp k (by rw[d.out];exact g)).ext D) (hx.ext D) HP.out HL.out q1 q2);have y:=qh ((B.out.fwp k (by rw[d.out];exact g)).ext D);obtain⟨pb,S⟩:∃ p,ps.getD k 0=p:=⟨_,rfl⟩;rw[S]at gk f y;clear P U S K q1 q2 q3
  go_wp2_with fail
  refine f.out.mono ?_;rintro e w1 ⟨o,rfl,J,H⟩;clear f;have l:=D.trans J;cases o with
  | none =>
   have HN:Hid (A=false):=qh (by
    rw[<-X.out];refine fw fun h => ?_;obtain⟨j,V,hr,_⟩:=h k g
    exact H j (by rw[d.out];exact V) hr)
   clear H I y gk;simp only[Rh]
   go_upto_region 5 with(fail)
   go_quiet (fail)
   go_wp2;go_ret;exact⟨by rw[HN.out];rfl,l.drewN _⟩
  | some i =>
   have n:Hid (i<v/\Rl xs (M.getD k fz).1 (M.getD i fz).1):=qh ⟨by rw[<-d.out];exact H.1,H.2⟩;obtain⟨r1,e1,d1,a1,b1,hA1,_⟩:=y.out.ext J;obtain⟨r2,e2,d2,a2,b2,hA2,_⟩:=(B.out.fwp i H.1).ext l;have u1:=hA1.c 3 rfl;have u2:=hA2.c 3 rfl;simp only[Rh,pvM];obtain⟨pi,T⟩:∃ p,ps.getD i 0=p:=⟨_,rfl⟩;rw[T]at u2 |-
   have q:Hid ((M.getD k fz).2=(M.getD i fz).2->∀ j,j<k+1->∃ i,i<v/\Rl xs (M.getD j fz).1 (M.getD i fz).1/\(M.getD j fz).2=(M.getD i fz).2):=qh fun e j V=>by
    by_cases h:j<k
    · exact I.out j h
    · have:j=k:=by omega
      subst this;exact⟨i,n.out.1,n.out.2,e⟩
   have r:Hid ((M.getD k fz).2≠(M.getD i fz).2->A=false):=qh fun F=>by
    rw[<-X.out];refine fw fun h => ?_;obtain⟨j,V,hr,he⟩:=h k g;have E:j<M.length:=by rw[d.out];exact V
    have f:i<M.length:=by rw[d.out];exact n.out.1
    have G:=hr.det n.out.2 (B.out.fwc j E).1 (B.out.fwc i f).1;have a0:j=i:=by
     have h1:(M.map (·.1))[j]'(by simpa using E)=(M.map (·.1))[i]'(by simpa using f):=by
      simpa[E,f]using G
     exact(List.getElem_inj W.out).1 h1
    rw[a0]at he;exact F he
   obtain⟨Z,O⟩:∃ c,(M.getD k fz).2=c:=⟨_,rfl⟩;obtain⟨Y,L⟩:∃ c,(M.getD i fz).2=c:=⟨_,rfl⟩;rw[O]at u1 q r;rw[L]at u2 q r;clear H I y gk hA1 hA2 T O L n;by_cases G:Z=Y
   · have C:=qh (q.out G);have F:((Y:Int) != (Z:Int))=false:=by rw[G];simp
     clear G q r
     go_upto_region 5 with(fail)
     go_quiet (fail)
     go_wp2;go_roundw
     case rel=>exact⟨k+1,by go_num,by omega,l.drewN _,C⟩
     case measure=>simp[intOf];omega
   · have C:=qh (r.out G);have F:((Y:Int) != (Z:Int))=true:=by simp;omega
     clear G q r
     go_upto_region 5 with(fail)
     go_quiet (fail)
     go_wp2;go_ret;exact⟨by rw[C.out];rfl,l.drewN _⟩
def DI(w:World)(fp n:Nat)(L:List PLs):Prop:=∃ base M ps a c rB fm,Eu w base fp n M ps a c rB fm/\Ch L M
theorem DI.ext{w f:World}{d n:Nat}{L:List PLs}(h:DI w d n L)(e:Ext w f):DI f d n L:=by
 obtain⟨b,M,i,a,c,j,g,h1,h2⟩:=h;exact⟨b,M,i,a,c,j,g,h1.ext e,h2⟩
open Classical in
noncomputable def KpB (xs:List Int) (L:List PLs):Bool:=decide (Kep xs L)
theorem Uc{L:List PLs}{M:FMs}(h:Ch L M):kpB xs M=KpB xs L:=by
 classical
 unfold kpB KpB;refine k9.2 ?_;rw[h.kept]
 have c:∀ {i:Nat},i<M.length->M.getD i fz∈M:=fun {i} a=>by
  rw[gqq,eQ a];exact fu _
 constructor
 · intro H p hp;obtain⟨i,a,rfl⟩:=fR hp;obtain⟨j,b,h1,h2⟩:=H i a;have e:M.getD i fz=M[i]:=by simp[a]
   rw[e]at h1 h2;exact⟨_,c b,h1,h2⟩
 · intro H i a;obtain⟨q,d,h1,h2⟩:=H _ (c a);obtain⟨j,b,rfl⟩:=fR d;have e:M.getD j fz=M[j]:=by simp[b]
   exact⟨j,b,by rw[e];exact h1,by rw[e];exact h2⟩
theorem L9{L:List PLs}{x:Option Addr}(h:DI w fp n L)(f:SlI w x nx cx xs)(hp:Ak xs=true)(d:xs.length=n) :
 Calls prog 25 #[.pointer (some ⟨fp,0,none⟩),.slice x nx cx] w fun e g=>e = .returned (.bool (KpB xs L))/\Ext w g:=by
 obtain⟨b,M,j,a,c,k,i,h1,h2⟩:=h;rw[<-Uc h2];exact Nj h1 h2.nodup f hp d
theorem PL{a:List (List PLs)}(b:j<a.length):a.getD j []∈a:=by
 rw[gqq,eQ b];exact fu _
theorem Ma(h:Own w b e a n c cs)(d:Own w b' e' a' n' c' cs')(i:e≠e'):blk a=none\/blk a≠blk a':=by
 cases f:blk a' with
 | none=>cases h1:blk a with | none=>exact .inl rfl | some g=>exact .inr (by simp)
 | some g =>
  obtain⟨cs',j,h1⟩:=DH d f;exact Au h h1 i
theorem AD.mono{w:World}{base b:Nat}{a:Option Addr}{n c:Nat}{xs:List Int}(h:AD w base a n c xs)(d:b<=base):AD w b a n c xs:=Own.mono h d
def Jw(w0:World)(n:Nat)(Ls:List (List PLs))(kB gB:Nat)(V:List (List Int))(w:World):Prop :=
 ∃ r L gs ag ng cg gc,Ext w0 w/\Arr w kB 53 [.map (some r)]/\Arr w gB 29 [.slice ag ng cg]/\AB w r (Cj L)/\L.Nodup/\(∀ p,p∈L<->BI gs n p)/\Own w w0.heap.size 35 ag ng cg gc/\QEl w w0.heap.size gc gs/\ng=gs.length/\VI n Ls V gs/\gs.Nodup
theorem Jw.ext{w0 w b:World}{n:Nat}{a:List (List PLs)}{kB gB:Nat}{V:List (List Int)}(h:Jw w0 n a kB gB V w)(e:Ext w b):Jw w0 n a kB gB V b:=by
 obtain⟨r,L,g,c,i,d,f,h1,h2,h3,h4,h5,h6,h7,h8,h9,h10,h11⟩:=h;exact⟨r,L,g,c,i,d,f,h1.trans e,h2.ext e,h3.ext e,h4.ext e,h5,h6,h7.ext e,h8.ext e,h9,h10,h11⟩
theorem PM{kB gB nB sB:Nat}{E:List (List PLs)}(hn:n<=6)(bo:w0.heap.size<=kB)(bn:w0.heap.size<=gB)
 (bc:Arr w0 fB 52 [.slice (some ⟨sB,0,none⟩) 3 3]) (bd:∀ i,i<3->w0.cell? ⟨sB,i,none⟩=some (.pointer (some ⟨fs.getD i 0,0,none⟩))) (aT:∀ i,i<3->DI w0 (fs.getD i 0) n (E.getD i [])) (h3:E.length=3) (bg:Arr w0 nB 3 [.int .i64 n])
 (hV:Jw w0 n E kB gB V w) (U:AD w base a n c xs) (hp:Ak xs=true) :
 Calls prog 23 #[.slice a n c,.pointer (some ⟨kB,0,none⟩),.pointer (some ⟨fB,0,none⟩),.pointer (some ⟨gB,0,none⟩),.pointer (some ⟨nB,0,none⟩)] w fun e w'=>e = .returned (.tuple #[])/\Jw w0 n E kB gB (V ++ [xs]) w'/\KI w w':=by
 classical
 obtain⟨r,L,gs,ag,I,cg,gc,ah,hK,hG,hM,aW,am,aj,aY,aX,an,aU⟩:=hV;have ao:=U.sl.len;have bh:(An xs).length=6:=AV (by omega);have aM:∀ x∈L,x.length=n:=fun x hx=>(Ci hn an.perms ((am x).1 hx)).2;have be:=J1 aM ao;have k0:=hK.c 0 rfl;have f0:=bc.c 0 rfl;have n0:=bg.c 0 rfl;have aG:=qh aW;have Z:=qh am;have aa:=qh aY;have J:=qh aX;have H:=qh an;have Y:=qh aU;have HP:=qh hp;have ad:=qh ao;have b6:=qh aT;have aF:=qh h3;clear aW am aY aX an aU hp aT h3 aM ao
 go_enter func23,ntmps23
 go_upto_region 0 with(fail)
 refine Ac
  [he (.map (some r)),hdS a n c,hp (fun v G=>v=AY (An xs)),hdB (decide (xs∈L))]
  ⟨fun _ _ _ _ h=>h,trivial⟩ ⟨?o0,?o1,?o2,?o3,trivial⟩ ?fin
 case o0=>exact ol
 case o1=>exact omv
 case o2 =>
  refine Ah rfl fun ρ G y aB aR h => ?_;have e1:_=_:=h.2.1;refine⟨24,#[.slice a n c],by go_simp,(CE (U.sl.ext y) hn).mono ?_⟩;rintro e w' ⟨rfl,ae⟩;exact⟨_,rfl,ae,rfl⟩
 case o3 =>
  exact olk (k:=An xs) rfl rfl (fun _ _=>id) (fun _ _ h=>by obtain⟨v0,e0,rfl⟩:=h;exact e0) EQ BH GE hM bh be
 case fin =>
  intro G y;rintro _ rfl;change wpList _ _ _ _ _ _;simp only[Bs];cases a5:decide (xs∈L)with
  | true =>
   have b7:Hid (VI n E (V ++ [xs]) gs):=qh (H.out.known ((Z.out xs).1 (gC a5)));have ab:Hid (Jw w0 n E kB gB (V ++ [xs]) G):=qh ⟨r,L,gs,ag,I,cg,gc,ah.trans y,hK.ext y,hG.ext y,hM.ext y,aG.out,Z.out,aj.ext y,aa.out.ext y,J.out,b7.out,Y.out⟩;have ai:=y.ki;clear a5;go_wp2
   (first | go_end0 | (simp only[Exit.inBlock,Exit.then];refine eZ (results_none rfl _ _ _) rfl ?_) | refine eZ (results_none rfl _ _ _) rfl ?_)
   exact⟨rfl,ab.out,ai⟩
  | false =>
   have aH:Hid (¬ BI gs n xs):=qh fun h=>of_decide_eq_false a5 ((Z.out xs).2 h);clear a5;have aJ:=ah.trans y;have s0:=aJ.cell f0;go_wp2
   go_loopw[14] (fun iv wr=>∃ k:Nat,iv = .int .i64 k/\k<=3/\Ext G wr/\Hid (∀ i,i<k->Kep xs (E.getD i []))) (fun iv _=>3-(intOf iv).toNat)
   case atStart=>exact⟨0,rfl,by omega,Ext.refl _,qh (fun i hi=>absurd hi (by omega))⟩
   case round =>
    obtain⟨k,rfl,hk,af,HI⟩:=hrel;have a1:=aJ.trans af;have s:=y.trans af;by_cases al:k<3
    case pos =>
     have gk:=a1.cell (bd k al);obtain⟨fp,aS⟩:∃ p,fs.getD k 0=p:=⟨_,rfl⟩;have ak:=qh (L9 ((b6.out k al).ext a1) (U.sl.ext s) HP.out ad.out);rw[aS]at gk ak;clear aS
     go_wp2_with fail
     refine ak.out.mono ?_;rintro e w4 ⟨rfl,aI⟩;clear ak gk;have C:=s.trans aI;cases a6:KpB xs (E.getD k [])with
     | false =>
      have aZ:Hid (VI n E (V ++ [xs]) gs):=qh (H.out.out fun hA=>of_decide_eq_false a6 (hA.2.2 _ (PL (by rw[aF.out];exact al))));have ab:Hid (Jw w0 n E kB gB (V ++ [xs]) w4):=qh ⟨r,L,gs,ag,I,cg,gc,ah.trans C,hK.ext C,hG.ext C,hM.ext C,aG.out,Z.out,aj.ext C,aa.out.ext C,J.out,aZ.out,Y.out⟩;have ai:=C.ki;clear a6 HI;go_wp2
      (first | go_end0 | (simp only[Exit.inBlock,Exit.then];refine eZ (results_none rfl _ _ _) rfl ?_) | refine eZ (results_none rfl _ _ _) rfl ?_)
      exact⟨rfl,ab.out,ai⟩
     | true =>
      have HN:Hid (∀ i,i<k+1->Kep xs (E.getD i [])):=qh fun i hi=>by
       by_cases h:i<k
       · exact HI.out i h
       · have:i=k:=by omega
         subst this;exact gC a6
      clear a6 HI;go_wp2;go_roundw
      case rel=>exact⟨k+1,by go_num,by omega,af.trans aI,HN⟩
      case measure=>simp[intOf];omega
    case neg =>
     have aE:Hid (Aut n E xs):=qh ⟨HP.out,ad.out,fun M hM=>by
      obtain⟨i,hi,rfl⟩:=fR hM;have h1:=HI.out i (by have:=aF.out;omega)
      simpa[hi]using h1⟩
     clear HI;have Q:=hK.ext s;have a2:=hG.ext s;have ax:=aj.ext s;have au:=qh (aa.out.ext s);have b0:=a2.c 0 rfl;have aA:=qh (fun(wy:World) (hy:Ext wr wy)=>DE ((U.sl.ext s).ext hy) (by omega) (U.nilc));have bj:I<=720:=by rw[J.out];exact CF hn H.out.perms Y.out (fun g z=>⟨[g],by simpa using z,by show g=comp g (idn n);rw[<-(H.out.gens g z).2.1,Im]⟩)
     go_upto_region 6 with(fail)
     refine Ac
      [hdS ag I cg,hdS a n c,hp (fun v G=>∃ K N,v = .slice K n N/\AD G wr.heap.size K n N xs),hp (fun v G=>∃ K N,K5 G v 35 [.slice K n N]/\AD G wr.heap.size K n N xs)]
      ⟨fun v w w' e ⟨K,N,h1,h2⟩=>⟨K,N,h1,h2.ext e⟩,fun v w w' e ⟨K,N,h1,h2⟩=>⟨K,N,K5.x _ _ _ _ _ e h1,h2.ext e⟩,trivial⟩ ⟨?o0,?o1,?o2,?o3,trivial⟩ ?fin
     case o0=>exact ol
     case o1=>exact omv
     case o2 =>
      refine Ah rfl fun ρ G y aB aR h => ?_;have e1:_=_:=h.2.1;refine⟨26,#[.slice a n c],by go_simp,((aA.out G y)).mono ?_⟩;rintro e w' ⟨K,n4,N,rfl,ae,aO⟩;have bf:n4=n:=by have h1:=aO.sl.len;have h2:=ad.out;omega
      subst bf;exact⟨_,rfl,ae,K,N,rfl,aO.mono y.size⟩
     case o3 =>
      refine Cv rfl ?_;intro ρ G hp y h;have aB:=hp.const;have aR:=hp.func;obtain⟨v0,e0,a0,c0,rfl,i0⟩:=h.1;have bq:=y.cell b0;exact⟨.slice (some ⟨G.heap.size,0,none⟩) 1 1,G.alloc (.cells #[.slice a0 n c0] 35),by go_simp,(Ext.refl _).alloc _,_,_,⟨_,rfl,Arr.new _ _ _⟩,i0.ext ((Ext.refl _).alloc _)⟩
     case fin =>
      intro wy q;rintro _ ⟨a8,c8,rfl,bb⟩;rintro _ ⟨a9,c9,aN,aP⟩;change wpList _ _ _ _ _ _;simp only[Bs];obtain⟨g9,rfl,aL⟩:=id aN;have f:=ax.ext q;have a3:=a2.ext q;have bk:=q.size;have b3:=a3.c 0 rfl;have b5:=a1.size
      go_upto_region 7 with(refine AU rfl rfl underlying29 Ck rfl rfl f rfl (aL.sl (k:=1) (by simp) (by unfold maxLen;simp)) (by simp[Value.oneCell']) (by unfold maxLen;omega) (by omega) (by omega) ?_;intro A B t S l b2;have j:=a3.kept l (B7 f a3 (by decide));have b9:t.cell? ⟨gB,0,none⟩=some (.slice ag I cg):=j.cell (i:=0) (by simp);have b4:=j.frozen 0)
      have az:=fun(cs:Array Value) (fr:Nat×Nat) (g:Nat) (z:blk ag=some g) (e:wy.heap[g]?=some (Obj.cells cs 3 fr))=>(by obtain⟨bl,bm,h1⟩:=DH f z;rw[e]at h1;injection h1 with h3;injection h3 with _ h4;exact absurd h4 (by decide):False);have D:=fun(a0:Option Addr) (n0 c0:Nat) (ap:List Int) (ho:AD wy w0.heap.size a0 n0 c0 ap)=>Ma ho f (by decide);have ay:=(au.out.ext q).kept l D;have T:=(aP.mono b5);have aw:AD t w0.heap.size a9 n c9 xs:=Own.kept T l (D _ _ _ _ T);have X:=ay.snoc (by rw[f.len,J.out]) aw
      have o:=Ab t gB 0 (.slice A (I+1) B);have W:=X.kept o (fun a0 n0 c0 ap ho=>Au ho j (by decide));have F:=Own.kept S o (Au S j (by decide));have P:Arr (t.setCell ⟨gB,0,none⟩ (.slice A (I+1) B)) gB 29 [.slice A (I+1) B]:=j.set 0 _;have O:Ext w0 (t.setCell ⟨gB,0,none⟩ (.slice A (I+1) B)):=((a1.trans q).grown l (fun g z=>(f.lt z).1)).grown o (fun g z=>by have h1:=fe z;omega)
      have av:KI w (t.setCell ⟨gB,0,none⟩ (.slice A (I+1) B)):=((s.trans q).ki.trans (KI.grown l (fun g z cs fr e=>az cs fr g z e))).trans (KI.grown o (fun g z cs fr e=>by have h1:=fe z;rw[<-h1]at e;have h2:t.heap[gB]?=_:=j;rw[e]at h2;injection h2 with h3;injection h3 with _ h4;exact absurd h4 (by decide)));have aV:kB≠gB:=fun e=>by rw[e]at Q;exact absurd (IJ Q a2) (by decide)
      have aK:=((Q.ext q).kept l (B7 f (Q.ext q) (by decide))).kept o (fun e=>aV (fe e));have ac:Hid (VI n E (V ++ [xs]) (gs ++ [xs])):=qh (H.out.gen aE.out);have aq:Hid ((gs ++ [xs]).Nodup):=qh (by rw[io];exact⟨Y.out,by simp,fun u hu v hv e=>aH.out ⟨[u],by simpa using hu,by show xs=comp u (idn n);rw[<-(H.out.gens u hu).2.1,Im,e];exact(eV.1 hv).symm⟩⟩);have ar:Hid (I+1=(gs ++ [xs]).length):=qh (by rw[ff,J.out];rfl)
      clear f a3 b3 S l b2 j b9 b4 az D ay T aw X o aN aL bb aP ax a2 Q aA b0 au aE aH;generalize t.setCell ⟨gB,0,none⟩ (.slice A (I+1) B)=W1 at *
      have n1:=O.cell n0;have b1:=P.c 0 rfl;have aQ:=qh (Di (GH ar.out F W) hn ac.out.perms)
      go_wp2_with fail
      refine aQ.out.mono ?_;rintro e a7 ⟨r2,L2,rfl,b,_,R,aC,aD⟩;have d:=aK.ext b;have bp:=d.c 0 rfl;have bi:=d.frozen 0;have m:=Ab a7 kB 0 (.map (some r2))
      have b8:Hid (Jw w0 n E kB gB (V ++ [xs]) (a7.setCell ⟨kB,0,none⟩ (.map (some r2)))):=qh ⟨r2,L2,gs ++ [xs],A,I+1,B,_,(O.trans b).grown m (fun g z=>by have h1:=fe z;omega),d.set 0 _,(P.ext b).kept m (fun e=>aV (fe e).symm),R.kept m (fun e=>DG d R (fe e).symm),aC,aD,(F.ext b).kept m (Au (F.ext b) d (by decide)),(W.ext b).kept m (fun a0 n0 c0 ap ho=>Au ho d (by decide)),ar.out,ac.out,aq.out⟩
      have ba:KI w (a7.setCell ⟨kB,0,none⟩ (.map (some r2))):=(av.trans b.ki).trans (KI.grown m (fun g z cs fr e=>by have h1:=fe z;rw[<-h1]at e;have h2:a7.heap[kB]?=_:=d;rw[e]at h2;injection h2 with h3;injection h3 with _ h4;exact absurd h4 (by decide)));clear aQ b R aC aD m W F P O av aK ac aq n1 b1 d;go_wp2
      (first | go_end0 | (simp only[Exit.inBlock,Exit.then];refine eZ (results_none rfl _ _ _) rfl ?_) | refine eZ (results_none rfl _ _ _) rfl ?_)
      exact⟨rfl,b8.out,ba⟩
theorem Mb{u:TypeId}(A:P.underlying t=some (.slice e))(hu:P.underlying u=some (.int .i64))(a:Bu P e zs k bytes)(v:0<k)(h0:0<n)(x:n<=1000000)(q:bytes<=1000) :
 ∃ g c p,(Builtin.append_ #[t,u] ty #[.slice none 0 0,.int .i64 (n:Nat)]).run P w = .ok (.slice (some ⟨g,0,none⟩) n c) p/\Ext w p/\AE p w.heap.size e k (some ⟨g,0,none⟩) 0 c []/\n<=c:=by
 obtain⟨i,s,B,b,j⟩:=a.parts;have y:n*i.bytes<=1000000000:=by rw[j];exact eW (gO x q) (by omega)
 have h1:IntKind.i64.wrap (n:Int)=(n:Int):=eT _ (by omega);have h2:¬ ((n:Int)<0):=by omega
 have h3:¬ ((281474976710656:Int)<(n:Int)*(i.bytes:Int)):=by
  have:((n*i.bytes:Nat):Int)<=1000000000:=by omega
  rw[fH]at this;omega
 have f:¬ (n*i.size=0):=by rw[b];exact Nat.ne_of_gt (jr h0 v)
 have h6:¬ (9223372036854775807<(n:Int)):=by omega
 have h7:Builtin.nextslicecap n 0=n:=nextslicecap_zero h0;have h8:¬ (281474976710656<n*i.bytes):=by omega
 have m:=grownCap_ge w n 0 e;have l:grownCap w n 0 e<=maxLen:=grownCap_le_maxLen w n 0 e (by unfold maxLen;omega);have o:zs.length=k:=a.2.1
 have d:(Builtin.append_ #[t,u] ty #[.slice none 0 0,.int .i64 (n:Nat)]).run P w = .ok (.slice (some ⟨w.heap.size,0,none⟩) n (grownCap w n 0 e))
  (w.drew.alloc (.cells (Builtin.zeroCells zs.toArray n ++ Builtin.zeroCells zs.toArray (grownCap w n 0 e-n)) e)):=by
  simp[Builtin.append_,fQ A,fQ hu,sizeOf,typeInfo,zeroValue,s,B,asInt,asIntOf,h1,h2,h3,f,h6,h7,h8,Question.forced,newRow,grownCap,Builtin.firstCells,Value.cells];omega
 refine⟨_,_,_,d,((Ext.refl w).drew).alloc _,⟨fun r z=>(by cases z),by simp,.inr ⟨w.heap.size,_,_,rfl,lrf _,ji w.drew _,f8 _,l,?_,by simp⟩⟩,m⟩;simp only[Array.size_append,size_zeroCells,List.size_toArray,o,<-gA];congr 1;omega
theorem Nk{x:Operand}{u:TypeId}(i:o.guard=none)
 (q:o.op = .call { callee := .builtin .append,args:=#[s,x],argTypes:=#[t,u] })
 {e:TypeId} {zs:List Value} {k bytes n:Nat} (v:P.underlying t=some (.slice e)) (hu:P.underlying u=some (.int .i64)) (a:Bu P e zs k bytes) (m:0<k) (r:f.eval s = .slice none 0 0) (y:f.eval x = .int .i64 (n:Nat)) (h0:0<n) (p:n<=1000000) (l:bytes<=1000)
 (h:∀ g c d,Ext w d->AE d w.heap.size e k (some ⟨g,0,none⟩) 0 c []->n<=c->wpList P ops Q rest (f.put o.dst (.slice (some ⟨g,0,none⟩) n c)) d) :
 wpList P ops Q (o :: rest) f w:=by
 refine gu i fun _ j => ?_;obtain⟨g,c,d,b,h2,h3,h4⟩:=Mb (P:=P) (w:=w) (ty:=o.type) v hu a m h0 p l;unfold Oper.wp execOp;simp only[q,resolve,invoke,builtin,fq,fO,eX,iB,gM,ix,r,y,b];exact j _ _ (h g c d h2 h3 h4)
theorem K7{h:Nat}(f:P.underlying t=some (.slice e))(b:Bu P e zs k bytes)(d:h<=c) :
 (Instr.sliceAt t (.slice a n c) none (some (.int .i64 h)) none).run P w = .ok (.slice a h c) w:=Fo f b d
theorem K8(h0:0<n)(m:n<=10000):Calls prog 43 #[.slice none 0 0,.int .i64 n] w fun e i=>∃ g c,e = .returned (.slice (some ⟨g,0,none⟩) 0 c)/\Ext w i/\AE i w.heap.size 24 2 (some ⟨g,0,none⟩) 0 c []:=by
 have k:=fun f:World=>K7 (P:=prog) (t:=25) (a:=none) (n:=0) (c:=0) (h:=0) (w:=f) underlying25 CU (lrf _);have l:=fun(g c:Nat) (f:World)=>K7 (P:=prog) (t:=25) (a:=some ⟨g,0,none⟩) (n:=n) (c:=c) (h:=0) (w:=f) underlying25 CU (f8 _)
 go_enter func43,ntmps43
 go_wp2_with(refine Nk rfl rfl underlying25 underlying3 CU (by omega) rfl rfl h0 (by omega) (by omega) ?_;intro g c o b d j)
 go_ret;exact⟨g,c,rfl,b,d⟩
def RwS(w:World)(cells:List Value)(S:List (List (List Value))):Prop:=∀ i,i<S.length->∃ a n c,cells.getD i undef = .slice a n c/\SlK w 2 a n c (S.getD i [])
theorem DJ{S:List (List (List Value))}(h:k<S.length):(S.take (k+1)).flatten=(S.take k).flatten ++ S.getD k []:=by
 rw[eU h,List.flatten_append,gqq,eQ h];simp
theorem IK{m:Nat}{S:List (List (List Value))}(hA:Sl w A m cA cells)(hm:S.length=m)(hS:RwS w cells S)(hb:m<=10)(h0:0<S.flatten.length)(X:∀ r∈S,r.length<=100/\∀ x∈r,∀ u∈x,u.oneCell'=true) :
 Calls prog 19 #[.slice A m cA] w fun e w'=>∃ a c,e = .returned (.slice a S.flatten.length c)/\Ext w w'/\AE w' w.heap.size 24 2 a S.flatten.length c S.flatten:=by
 have HS:=qh hS;have p:=qh hm;have HB:=qh X
 have F:∀ k,k<=m->(S.take k).flatten.length<=100*k:=fun k=>by
  induction k with
  | zero=>intro _;simp
  | succ k ih =>
   intro hk;rw[DJ (by omega),ff];have h1:=ih (by omega);have h2:=(X (S.getD k []) (by rw[gqq,eQ (by omega)];exact fu _)).1;omega
 have I:=qh F;obtain⟨T,P⟩:∃ t,S.flatten.length=t:=⟨_,rfl⟩;have HT:=qh P;have a0:T<=1000:=by have h1:=F m (lrf _);rw[eR (by omega),P]at h1;omega
 rw[P]at h0 |-;clear hS hm X F P
 go_enter func19,ntmps19
 go_wp2
 go_loopw[3,11] (fun sv H wr=>∃ (k s:Nat),sv = .int .i64 s/\H = .int .i64 k/\k<=m/\Ext w wr/\Hid (s=(S.take k).flatten.length)/\s<=1000) (fun _ H _=>m-(intOf H).toNat)
 case atStart=>exact⟨0,0,rfl,rfl,f8 _,Ext.refl _,qh (by simp),by omega⟩
 case round =>
  obtain⟨k,s,rfl,rfl,hk,K,v,a4⟩:=hrel;by_cases G:k<m
  · have f:=hA.ext K;obtain⟨b9,o9,rfl,n⟩:=f.rd (by omega);have gk:=n k G;obtain⟨a1,z,c1,l,d⟩:=HS.out k (by rw[p.out];exact G);rw[l]at gk;have o:(S.getD k []).length=z:=d.len;have J:Hid (s+z=(S.take (k+1)).flatten.length):=qh (by rw[DJ (by rw[p.out];exact G),ff,<-v.out,o]);have Y:s+z<=1000:=by have h1:=I.out (k+1) (by omega);have h2:=J.out;omega
    clear n l d o f v;go_wp2;go_roundw
    case rel=>exact⟨k+1,s+z,by go_num,by go_num,by omega,K,J,Y⟩
    case measure=>simp[intOf];omega
  · have Q:Hid (s=T):=qh (by rw[v.out,eR (by rw[p.out];omega),HT.out]);clear v;have Z:s=T:=Q.out;subst Z
    go_wp2_with fail
    refine(K8 h0 (by omega)).mono ?_;rintro e w1 ⟨g,c,rfl,L,M⟩;have B:=K.trans L;have C:=M.mono K.size;clear M K L;go_wp2
    go_loopw[6,27] (fun ov H wr=>∃ (k E:Nat) (a:Option Addr) (c:Nat),ov = .slice a E c/\H = .int .i64 k/\k<=m/\Ext w wr/\AE wr w.heap.size 24 2 a E c (S.take k).flatten/\Hid (E=(S.take k).flatten.length)) (fun _ H _=>m-(intOf H).toNat)
    case atStart=>exact⟨0,0,_,_,rfl,rfl,f8 _,B,by simpa using C,qh (by simp)⟩
    case round =>
     clear C B;obtain⟨y,E,a,c2,rfl,rfl,a2,i,j,q⟩:=hrel;by_cases b:y<m
     · have f:=hA.ext i;obtain⟨b9,o9,rfl,n⟩:=f.rd (by omega);have gk:=n y b;obtain⟨a1,z,c1,l,d⟩:=HS.out y (by rw[p.out];exact b);rw[l]at gk;have o:(S.getD y []).length=z:=d.len;have J:Hid (E+z=(S.take (y+1)).flatten.length):=qh (by rw[DJ (by rw[p.out];exact b),ff,<-q.out,o]);have a3:E+z<=1000:=by have h1:=I.out (y+1) (by omega);have h2:=J.out;omega
       have HF:=qh (DJ (S:=S) (k:=y) (by rw[p.out];exact b));have D:=(HB.out (S.getD y []) (by rw[gqq,eQ (by rw[p.out];exact b)];exact fu _)).2;have N:=d.ext i;clear n l d o f q
       go_wp2_with(refine FI rfl rfl underlying25 CU rfl j rfl N D (by unfold maxLen;omega) (by omega) i.size ?_;intro a7 c7 w7 U O V)
       have R:=i.grown O (fun g hg=>(j.lt hg).1);clear O V j N D;go_roundw
       case rel=>exact⟨y+1,E+z,a7,c7,rfl,by go_num,by omega,R,by rw[HF.out];exact U,J⟩
       case measure=>simp[intOf];omega
     · have W:E=s:=by have h1:=q.out;rw[eR (by rw[p.out];omega),HT.out]at h1;exact h1
       rw[eR (by rw[p.out];omega)]at j;subst W;clear q;go_wp2;go_ret;exact⟨a,c2,rfl,i,j⟩
end Go.Proofs.YthdbingomfdeoaaGreatDoor
namespace Go.Proofs.YthdbingomfdeoaaGreatDoor
open Go Go.RowKit Go.Sort
variable {ps:List (List Int)} {cs:List Value} {base c g n:Nat} {a:Option Addr} {row:Option Nat} {w w':World}
def SlV(w:World)(g:Nat):Type:={ v:(Option Addr×Nat×Nat)×List Int // SlI w v.1.1 v.1.2.1 v.1.2.2 v.2/\blk v.1.1≠some g }
def SlV.enc(v:SlV w g):Value := .slice v.1.1.1 v.1.1.2.1 v.1.1.2.2
def SlV.xs(v:SlV w g):List Int:=v.1.2
instance (w:World) (g:Nat):Inhabited (SlV w g):=⟨⟨((none,0,0),[]),Sl.nil w,by simp[blk]⟩⟩
theorem Sl.kept(h:Sl w a n c cs)(j:w.grownBy w' row)(d:blk a=none\/blk a≠row):Sl w' a n c cs:=by
 refine⟨h.len,h.cap,h.max,fun h0 => ?_⟩;obtain⟨b,e,rfl,g⟩:=h.rd h0;refine⟨b,e,rfl,fun i k => ?_⟩;have h1:=g i k;have f:b<w.heap.size:=gF w ⟨b,e+i,none⟩ h1;rcases d with d|d
 · simp[blk]at d
 · rw[ir (w:=w) (j.block b f d),h1]
theorem CP{b:Type}[Inhabited b](enc:b->Value)(w:World)(g m:Nat)(dk:Array b)(os:Array Obj):w.grownBy (sortWorld enc w g 0 m dk os) (some g):=by
 refine⟨rfl,rfl,rfl,by unfold sortWorld;simp,fun k c a => ?_⟩;unfold sortWorld;rw[heap_grow_old _ _ (by simpa using c)];have:g≠k:=by rintro rfl;exact a rfl
 simp[putRow,mapBlock,iS,this]
theorem Jx{l:Type}[Inhabited l](enc:l->Value){w:World}{base g n c m:Nat}{e:TypeId}{a:List Value}{dk:Array l}(os:Array Obj)(h:Own w base e (some ⟨g,0,none⟩) n c a)(f:dk.size=n) :
 Own (sortWorld enc w g 0 m dk os) base e (some ⟨g,0,none⟩) n c (dk.toList.map enc):=by
 rcases h.2 with⟨d,_⟩|⟨s,o,b,d,q,p,h1,h2,h3,h4⟩
 · simp at d
 simp only[eY,fc,gV,iL,kX]at d;obtain⟨rfl,rfl⟩:=d;have k:g<w.heap.size:=by
  rcases fL g w.heap.size with h|h
  · exact h
  · simp[gN h]at p
 refine⟨by simp[f],Or.inr ⟨g,c,putCells enc 0 dk b,rfl,q,?_,h1,h2,by simp[putCells,h3],?_⟩⟩
 · unfold sortWorld;rw[heap_grow_old _ _ (by simpa using k)];simp[putRow,mapBlock,iS,p,onCells]
 · apply j6
   · simp[putCells,h3,f];omega
   · intro i v r;have t:i<n:=by simpa[f]using r
     have j:i<dk.size:=by omega
     simp only[List.getElem_take,Array.getElem_toList,putCells,Array.getElem_mapIdx,List.getElem_map];rw[fE (by omega)];simp[j]
theorem PN(r:Srt w base g n c ps):∃ d:Array (SlV w g),d.size=n/\(∀ i,i<n->w.cell? ⟨g,i,none⟩=some d[i]!.enc/\w.frozen? ⟨g,i,none⟩=false)/\d.toList.map SlV.xs=ps:=by
 obtain⟨s,e,j,q⟩:=r;have k:∀ i,∃ v:SlV w g,i<n->w.cell? ⟨g,i,none⟩=some v.enc/\v.xs=ps.getD i []:=by
  intro i;by_cases b:i<n
  · obtain⟨a,m,o,p,h1⟩:=q i (by omega);refine⟨⟨((a,m,o),ps.getD i []),h1.sl,?_⟩,fun _=>⟨?_,rfl⟩⟩
    · have:=CY h1 j (by decide);rcases this with h|h
      · simp only;rw[h];simp
      · exact h
    · rw[j.cellAt b,p];rfl
  · exact⟨default,fun h=>absurd h b⟩
 obtain⟨f,l⟩:=Classical.axiomOfChoice k;refine⟨((List.range n).map f).toArray,by simp,fun i b => ?_,?_⟩
 · have:(((List.range n).map f).toArray)[i]! = f i:=by simp[b]
   rw[this];exact⟨(l i b).1,j.frozenAt i⟩
 · apply j6
   · simp[s]
   · intro i h1 h2;have b:i<n:=by simpa using h1
     simp only[List.getElem_map,List.getElem_range];rw[(l i b).2];simp[h2]
def cfV(x y:SlV w g):Int:=Bc x.xs y.xs
theorem Rp{m:Nat}{b:Array (SlV w g)}{os:Array Obj}(x:Srt w base g n c ps)(o:b.size=n)(e:∀ v∈b.toList,∃ i,i<n/\w.cell? ⟨g,i,none⟩=some v.enc/\v.xs=ps.getD i []) :
 Srt (sortWorld SlV.enc w g 0 m b os) base g n c (b.toList.map SlV.xs):=by
 obtain⟨z,f,l,t⟩:=x;refine⟨by simp[o],b.toList.map SlV.enc,Jx _ os l o,fun i p => ?_⟩;simp only[ft]at p;have d:i<b.toList.length:=by simpa using p
 obtain⟨j,y,h1,h2⟩:=e b.toList[i] (fu d);obtain⟨a,k,q,r,h3⟩:=t j (by omega);refine⟨a,k,q,?_,?_⟩
 · rw[l.cellAt y,r]at h1;simp only[fc]at h1;rw[h1,gqq,jV,eQ d];rfl
 · have s:(b.toList.map SlV.xs).getD i []=ps.getD j []:=by
    rw[<-h2,gqq,jV,eQ d];rfl
   rw[s];exact Own.kept h3 (CP _ _ _ _ _ _) (CY h3 l (by decide))
end Go.Proofs.YthdbingomfdeoaaGreatDoor
namespace Go.Proofs.YthdbingomfdeoaaGreatDoor
open Go Go.RowKit
variable {a b c:List Int}
theorem Jy(h1:Bc a b<0)(h2:Bc b c<0):Bc a c<0:=by
 have h:=DD (jf h1) (jf h2);rcases Int.lt_or_eq_of_le h with h|h
 · exact h
 · have e:=K1 h;subst e;have:=Bv a b;omega
end Go.Proofs.YthdbingomfdeoaaGreatDoor
namespace Go.Proofs.YthdbingomfdeoaaGreatDoor
open Go.Shelf
def PQ:Go.Shelf.Ren:=⟨fun | 6=>49 | 15=>76 | 14=>75 | 28=>118 | 29=>119 | 20=>110 | 21=>111 | 22=>112 | 23=>113 | 24=>114 | 25=>115 | 26=>116 | 27=>117 | 46=>150 | 47=>151 | 48=>152 | 49=>153 | 50=>154 | 57=>197 | n=>n,fun | 22=>29 | 24=>35 | 25=>86 | 3=>3 | 39=>144 | 0=>0 | 53=>187 | 55=>101 | 4=>4 | 46=>180 | 45=>179 | 50=>184 | 5=>5 | 9=>9 | 66=>216 | 70=>220 | 76=>256 | 77=>257 | n=>n,fun | n=>n⟩
theorem UV:Go.Proofs.SlLaysF.n6 Tryz.prog PQ:={
 mixed:=by kernel_rfl
 f6:=⟨Tryz.f49.name,by decide,Tryz.func49.trans (fV some (by kernel_rfl))⟩
 f14:=⟨Tryz.f75.name,by decide,Tryz.func75.trans (fV some (by kernel_rfl))⟩
 f15:=Tryz.func76.trans (fV some (by kernel_rfl))
 f20:=⟨Tryz.f110.name,by decide,Tryz.func110.trans (fV some (by kernel_rfl))⟩
 f21:=⟨Tryz.f111.name,by decide,Tryz.func111.trans (fV some (by kernel_rfl))⟩
 f22:=⟨Tryz.f112.name,by decide,Tryz.func112.trans (fV some (by kernel_rfl))⟩
 f23:=⟨Tryz.f113.name,by decide,Tryz.func113.trans (fV some (by kernel_rfl))⟩
 f24:=⟨Tryz.f114.name,by decide,Tryz.func114.trans (fV some (by kernel_rfl))⟩
 f25:=⟨Tryz.f115.name,by decide,Tryz.func115.trans (fV some (by kernel_rfl))⟩
 f26:=⟨Tryz.f116.name,by decide,Tryz.func116.trans (fV some (by kernel_rfl))⟩
 f27:=⟨Tryz.f117.name,by decide,Tryz.func117.trans (fV some (by kernel_rfl))⟩
 f28:=Tryz.func118.trans (fV some (by kernel_rfl))
 f29:=Tryz.func119.trans (fV some (by kernel_rfl))
 f46:=⟨Tryz.f150.name,by decide,Tryz.func150.trans (fV some (by kernel_rfl))⟩
 f47:=Tryz.func151.trans (fV some (by kernel_rfl))
 f48:=Tryz.func152.trans (fV some (by kernel_rfl))
 f49:=⟨Tryz.f153.name,by decide,Tryz.func153.trans (fV some (by kernel_rfl))⟩
 f50:=⟨Tryz.f154.name,by decide,Tryz.func154.trans (fV some (by kernel_rfl))⟩
 f57:=⟨Tryz.f197.name,by decide,Tryz.func197.trans (fV some (by kernel_rfl))⟩
 t0:=Tryz.underlying0
 a0:=Tryz.isAgg0
 z0:=Tryz.sizeOf0
 v0:=Tryz.zeroValue0
 t3:=Tryz.underlying3
 a3:=Tryz.isAgg3
 z3:=Tryz.sizeOf3
 v3:=Tryz.zeroValue3
 t4:=Tryz.underlying4
 a4:=Tryz.isAgg4
 z4:=Tryz.sizeOf4
 v4:=Tryz.zeroValue4
 t5:=Tryz.underlying5
 a5:=Tryz.isAgg5
 z5:=Tryz.sizeOf5
 v5:=Tryz.zeroValue5
 t9:=Tryz.underlying9
 a9:=Tryz.isAgg9
 z9:=Tryz.sizeOf9
 v9:=Tryz.zeroValue9
 t22:=Tryz.underlying29
 a22:=Tryz.isAgg29
 z22:=Tryz.sizeOf29
 v22:=Tryz.zeroValue29
 a24:=Tryz.isAgg35
 z24:=Tryz.sizeOf35
 t25:=Tryz.underlying86
 a25:=Tryz.isAgg86
 z25:=Tryz.sizeOf86
 v25:=Tryz.zeroValue86
 t39:=Tryz.underlying144
 a39:=Tryz.isAgg144
 z39:=Tryz.sizeOf144
 v39:=Tryz.zeroValue144
 t45:=Tryz.underlying179
 a45:=Tryz.isAgg179
 z45:=Tryz.sizeOf179
 v45:=Tryz.zeroValue179
 t46:=Tryz.underlying180
 a46:=Tryz.isAgg180
 z46:=Tryz.sizeOf180
 v46:=Tryz.zeroValue180
 t50:=Tryz.underlying184
 a50:=Tryz.isAgg184
 z50:=Tryz.sizeOf184
 v50:=Tryz.zeroValue184
 t53:=Tryz.underlying187
 a53:=Tryz.isAgg187
 z53:=Tryz.sizeOf187
 v53:=Tryz.zeroValue187
 t55:=Tryz.underlying101
 a55:=Tryz.isAgg101
 z55:=Tryz.sizeOf101
 v55:=Tryz.zeroValue101
 t66:=Tryz.underlying216
 a66:=Tryz.isAgg216
 z66:=Tryz.sizeOf216
 v66:=Tryz.zeroValue216
 t70:=Tryz.underlying220
 a70:=Tryz.isAgg220
 z70:=Tryz.sizeOf220
 v70:=Tryz.zeroValue220
 t76:=Tryz.underlying256
 a76:=Tryz.isAgg256
 z76:=Tryz.sizeOf256
 v76:=Tryz.zeroValue256
 t77:=Tryz.underlying257
 a77:=Tryz.isAgg257
 z77:=Tryz.sizeOf257
 v77:=Tryz.zeroValue257 }
end Go.Proofs.YthdbingomfdeoaaGreatDoor
namespace Go.Proofs.YthdbingomfdeoaaGreatDoor
open Tryz Go Go.RowKit Go.Sort
variable {ps:List (List Int)} {g:Nat} {w:World}
theorem Mc{x y:SlV w g}(h:ltOf cfV x y=true):Bc x.xs y.xs<0:=gC h
theorem GJ{x y:SlV w g}(h:ltOf cfV x y=false):¬ Bc x.xs y.xs<0:=of_decide_eq_false h
theorem Ud{x y:SlV w g}(h:Bc x.xs y.xs<0):ltOf cfV x y=true:=gl h
theorem Md{x y:SlV w g}(h:¬ Bc x.xs y.xs<0):ltOf cfV x y=false:=fw h
theorem Vl :SWO (ltOf (cfV (w:=w) (g:=g))) where
 irrefl x:=Md (by rw[J3];omega)
 trans x y z h1 h2:=Ud (Jy (Mc h1) (Mc h2))
 ntrans x y z h1 h2:=by
  have d:=GJ h1;have e:=GJ h2;have h3:=Bv x.xs y.xs;have h4:=Bv y.xs z.xs;have h5:=Bv x.xs z.xs;have h6:=DD (a:=z.xs) (b:=y.xs) (c:=x.xs) (by omega) (by omega);exact Md (by omega)
theorem K9{base n c:Nat}(A:Srt w base g n c ps)(U:n<=1000) :
 Calls prog 49 #[.slice (some ⟨g,0,none⟩) n c,.func (.func 41) #[] #[]] w (SO w base g n c ps 0 n):=by
 obtain⟨d,H,a,z⟩:=PN A;have s:g<w.heap.size:=by
  obtain⟨_,C,N,_⟩:=A;exact(N.lt (k:=g) rfl).2
 have L:∀ l w,(callFunc 41 l).run prog w = .ok (.enter 41 l) w:=enters_of func41 (by kernel_rfl) rfl;have r:CmpReads prog 41 #[] (SlV.enc (w:=w) (g:=g)) cfV g 0 d.size w:=by
  intro m B D _ x y;have t:=CP SlV.enc w g m D B;have Q:SlI (sortWorld SlV.enc w g 0 m D B) x.1.1.1 x.1.1.2.1 x.1.1.2.2 x.xs:=Sl.kept x.2.1 t (Or.inr x.2.2);have R:SlI (sortWorld SlV.enc w g 0 m D B) y.1.1.1 y.1.1.2.1 y.1.1.2.2 y.xs:=Sl.kept y.2.1 t (Or.inr y.2.2);exact Iw Q R
 have M:Holds SlV.enc w g 0 d:=by
  intro j T;rw[fP];exact a j (by omega)
 have h:=Any.slices_SortFunc UV SlV.enc (fun _=>rfl) cfV Vl 41 #[] g 0 c d w L r.lays M s (by omega);rw[H]at h;refine h.mono ?_;rintro e V ⟨rfl,b,q,B,hp,G,rfl⟩;obtain⟨S,_,I⟩:=hp;have E:b.size=n:=by rw[S,H]
 have f:b.toList.Perm d.toList:=by
  rw[lN (by omega),lN (by omega)]at I;exact I
 refine⟨rfl,b.toList.map SlV.xs,Rp A E ?_,⟨?_,?_⟩,?_,CP _ _ _ _ _ _⟩
 · intro v P;have:=f.mem_iff.1 P;obtain⟨i,o,e⟩:=iw.1 this;have p:i<d.size:=by simpa using o
   have O:d[i]! = v:=by
    rw[<-e];simp[p]
   refine⟨i,by omega,by rw[<-O];exact(a i (by omega)).1,?_⟩;rw[<-z,<-e,gqq,jV,eQ o];rfl
 · rw[<-z];exact f.map _
 · intro i o;rcases o with o|o
   · omega
   · rw[gqq,gqq,fi (by simp;omega),fi (by rw[A.len];exact o)]
 · intro i j h0 h1 h2;have:=G i j h0 h1 h2;have p:i<b.size:=by omega
   have F:j<b.size:=by omega
   have:=GJ this;have J:(b.toList.map SlV.xs).getD i []=b[i]!.xs:=by simp[p]
   have K:(b.toList.map SlV.xs).getD j []=b[j]!.xs:=by simp[F]
   rw[J,K];have:=Bv b[i]!.xs b[j]!.xs;omega
end Go.Proofs.YthdbingomfdeoaaGreatDoor
