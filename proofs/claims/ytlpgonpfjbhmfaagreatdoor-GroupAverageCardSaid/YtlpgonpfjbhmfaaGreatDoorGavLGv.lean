/- Part GavLGv. -/
import Derived.Test.YtlpgonpfjbhmfaaGreatDoorGav37
import Derived.Test.YtlpgonpfjbhmfaaGreatDoorGav40
import Derived.Test.YtlpgonpfjbhmfaaGreatDoorGav39
import Derived.Test.YtlpgonpfjbhmfaaGreatDoorGav34
import Derived.Test.YtlpgonpfjbhmfaaGreatDoorGav6
import Derived.Test.YtlpgonpfjbhmfaaGreatDoorGav41
import Derived.Test.YtlpgonpfjbhmfaaGreatDoorGavOne
set_option maxRecDepth 100000
set_option maxHeartbeats 100000000
namespace Go.Proofs.YtlpgonpfjbhmfaaGreatDoor
open Tryz Go Go.RowKit
variable {a0:Act} {ops:Array Oper} {s:ByteArray} {err m0 v vp:Int} {gs:List (List Int)} {xs ys:List Int} {base c cx n vn:Nat} {o:Oper} {y:Operand} {a ag:Option Addr} {w:World}
theorem FF {q cg:Nat} {ts t:List Tx} {l:List Pl.Tm} (h:resQ (vn:Int) ((avT gs vn (sumK gs vn l)).map Ci)=(v,t,err)) (hT:A2 w) (ha:CJ w a n c ts) (hg:SlL w ag q cg gs) (G:GN gs vn) (hr:rdP (vn:Int) ts=some l) (sa:∀ t∈ts,t.1.length≤570) (hok:SV gs vn l) :
 Calls prog 31 #[.slice ag q cg, .agg #[.int .i64 (vn:Int), .slice a n c]] w (V3 w v t err) :=
 (K7 hT hg G.g G.p ha hr sa hok).mono fun e w' h'=>by
  rw [h] at h';exact Gs.v h'
theorem MT {x:Option Addr} {ts t:List Tx} {l:List Pl.Tm} (h:actA vn xs (rdP (vn:Int) ts)=(v,t,err)) (hT:A2 w) (ha:CJ w a n c ts) (hx:SlI w x vn cx xs) (hp:Ar xs=true) (hr:rdP (vn:Int) ts=some l) (sa:∀ t∈ts,t.1.length≤570) (hok:Dv (C6 vn xs l)) :
 Calls prog 14 #[.slice x vn cx, .agg #[.int .i64 (vn:Int), .slice a n c]] w (Gs w v t err) :=
 (Ob hT hx hp ha hr sa hok).mono fun e w' h'=>by
  rw [hr] at h;rw [h] at h';exact h'
def StP (p:Value→World→Prop):Prop:=∀ v w w' g cs cs',Arr w g 25 cs→w.grownBy w' (some g)→Arr w' g 25 cs'→cs'.length=cs.length→p v w→p v w'
def NPp (base:Nat) (v:Value) (w:World):Prop:=∃ g cs,v = .pointer (some ⟨g,0,none⟩)∧base≤g∧Arr w g 25 cs∧cs.length=2
theorem NPp.x (b:Nat):StX (NPp b):=fun _ _ _ e ⟨g,cs,h1,h2,h3,h4⟩=>⟨g,cs,h1,h2,h3.ext e,h4⟩
theorem NPp.i (b:Nat):StP (NPp b):=by
 intro v w w' g0 cs0 cs1 hA hg hA' hl ⟨g,cs,h1,h2,h3,h4⟩;by_cases e:g=g0
 · subst e;unfold Arr at hA h3;rw [hA] at h3;simp only [Option.some.injEq,Obj.cells.injEq,and_true] at h3;have h8:cs0=cs:=by simpa using h3
   subst h8;exact ⟨g,cs1,h1,h2,hA',by omega⟩
 · exact ⟨g,cs,h1,h2,h3.kept hg (by simpa using e),h4⟩
def NOp (base:Nat) (n:Nat) (t:List Tx) (v:Value) (w:World):Prop:=∃ a m c,v = .agg #[.int .i64 (n:Int), .slice a m c]∧TmO w base a m c t
theorem NOp.x (b n:Nat) (t:List Tx):StX (NOp b n t):=fun _ _ _ e ⟨a,m,c,h1,h2⟩=>⟨a,m,c,h1,h2.ext e⟩
def NOe (base:Nat) (n:Nat) (t:List Tx) (v:Value) (w:World):Prop:=∃ a m c,v = .tuple #[.agg #[.int .i64 (n:Int), .slice a m c], .int .i64 0]∧TmO w base a m c t
theorem NOe.x (b n:Nat) (t:List Tx):StX (NOe b n t):=fun _ _ _ e ⟨a,m,c,h1,h2⟩=>⟨a,m,c,h1,h2.ext e⟩
theorem NOp.i (b n:Nat) (t:List Tx):StP (NOp b n t):=fun _ _ _ _ _ _ hA hg _ _ ⟨a,m,c,h1,h2⟩=>⟨a,m,c,h1,h2.keptA hA hg⟩
theorem NOe.i (b n:Nat) (t:List Tx):StP (NOe b n t):=fun _ _ _ _ _ _ hA hg _ _ ⟨a,m,c,h1,h2⟩=>⟨a,m,c,h1,h2.keptA hA hg⟩
theorem WE (ho:o.op = .alloc 25) (ρ:Operand→Value) (w:World):(execOp ρ o).run prog w = .ok (.value (.pointer (some ⟨w.heap.size,0,none⟩))) (w.alloc (.cells (AZ 0 none 0 0).toArray 25)):=by
 simp only [execOp,ho];kernel_rfl
theorem Pm {hs:List Hd} {C:World→Prop} {i:Nat} (hg:o.guard=none) (ho:o.op = .alloc 25) (hCb:∀ w,C w→base≤w.heap.size):obl prog C ops hs a0 i o (hp (NPp base)) :=
 Bc hg fun ρ w _ hC _=>⟨_,_,WE ho ρ w,(Ext.refl w).alloc _,w.heap.size,AZ 0 none 0 0,rfl,hCb w hC,Arr.new w _ _,rfl⟩
def WI:List Hd→Prop
 | []=>True
 | h :: r=>(match h.ty with | .eq _=>True | .pr p=>StP p)∧WI r
theorem WF:∀ {l:List Hd},WI l→∀ h∈l,(match h.ty with | .eq _=>True | .pr p=>StP p)
 | [],_,h,hm=>absurd hm (by simp)
 | x :: r,hl,h,hm=>by
  rcases List.mem_cons.1 hm with rfl|hm
  · exact hl.1
  · exact WF hl.2 h hm
theorem WK {hs:List Hd} {i:Nat} (hn:WI hs) {w w':World} {g:Nat} {cs cs':List Value} (hA:Arr w g 25 cs) (hg:w.grownBy w' (some g)) (hA':Arr w' g 25 cs') (hl:cs'.length=cs.length):GM ops hs i o w w' (List.range hs.length):=by
 refine GP fun j hj v hv => ?_;have hj':j<hs.length:=by
  have:=(List.mem_filter.1 hj).1;simpa using this
 have hm:AD hs j∈hs:=by
  rw [AD,gqq,List.getElem?_eq_getElem hj'];simp
 have:=WF hn _ hm;revert this hv;cases (AD hs j).ty with
 | eq c=>exact fun hv _=>hv
 | pr p=>exact fun hv hp=>hp v w w' g cs cs' hA hg hA' hl hv
theorem WJ {hs:List Hd} {C:World→Prop} {i:Nat} {t:List Tx} {x:Operand} (hg:o.guard=none) (ho:o.op = .store 25 x y) (hn:WI hs) (hC2:∀ w w' g,C w→base≤g→w.grownBy w' (some g)→C w')
 (h:∀ ρ w,D5 ρ→C w→CO ops hs a0 o ρ w [x,y]→(∃ v,ρ x=v∧NPp base v w)∧(∃ v,ρ y=v∧NOp base n t v w)):obl prog C ops hs a0 i o (hmp (fun _ _=>True)):=by
 unfold obl Cf;rw [hg];intro ρ w hp hC hx;have hx':CO ops hs a0 o ρ w [x,y]:=by rw [ho] at hx; exact hx
 obtain ⟨⟨v1,e1,g,cs,rfl,h2,h3,h4⟩,⟨v2,e2,a,m,c,rfl,_⟩⟩:=h ρ w hp hC hx';have hrun:(execOp ρ o).run prog w = .ok .skip (w.setRow g (AZ (n:Int) a m c).toArray):=by
  have:=EM (P:=prog) (w:=w) (ty:=25) (g:=g) (cs:=cs) (vs:=AZ (n:Int) a m c) AK h3 (by rw [h4]; rfl) (Bn _ _ _ _);have e2':ρ y = .agg (AZ (n:Int) a m c).toArray:=e2;simp only [execOp,ho,e1,e2',Sem.run_bind,this,Result.andThen_ok,Sem.run_pure]
 rw [hrun];have hgr:=BJ w g (AZ (n:Int) a m c).toArray;exact ⟨hC2 w _ g hC h2 hgr,WK hn h3 hgr (C4 h3 _) (by rw [h4]; rfl),trivial⟩
theorem Iw {x y:Option Addr} {nx ny cy na ca:Nat} {tp:List Tx} (hT:A2 w) (hx:SlI w x nx cx xs) (hy:SlI w y ny cy ys) (ha:CJ w a na ca tp) :
 Calls prog 6 #[.int .i64 m0, .slice x nx cx, .slice y ny cy, .agg #[.int .i64 vp, .slice a na ca], .string s] w (Uf w):=by
 go_enter func6,ntmps6
 go_upto_region 1 with (fail)
 refine Bq ?_;intro w0 hE0 hB0 hz0
 have s1:=Jg (w:=w0) (cs:=#[.slice x nx cx, .slice y ny cy]) (xss:=[xs,ys]) (n:=2) rfl (by omega) rfl (by
  intro i hi;have:i=0∨i=1:=by omega
  rcases this with rfl|rfl
  · exact ⟨_,_,_,rfl,hx.ext hE0⟩
  · exact ⟨_,_,_,rfl,hy.ext hE0⟩)
 have HP:=PBx.one hE0 hB0 ha;clear hB0 hz0 ha
 go_wp2_with fail
 refine (T3 s1).mono ?_;rintro e w1 ⟨rfl,rfl⟩;have hF:Ext w0 (w0.alloc (.cells #[.slice x nx cx, .slice y ny cy] 22)):=(Ext.refl w0).alloc _;replace HP:=HP.ext hF;clear hF s1;generalize w0.alloc (.cells #[.slice x nx cx, .slice y ny cy] 22)=w2 at *
 generalize [xs,ys].all (fun x=>decide (x.length≤20))=fw;cases fw with
 | false =>
  go_wp2_with fail
  refine BV.mono ?_;rintro e w11 ⟨rfl,hF⟩;go_wp2;go_ret;exact ⟨rfl,HP.e.trans hF⟩
 | true =>
  by_cases s1:Dt tp 5 6;rotate_left
  · obtain ⟨x00,x01⟩:=HP.c (i:=0) rfl;have hcl:=qh (Fy (va:=vp) (nt:=5) (d:=6) (HP.t (i:=0) rfl));rw [decide_eq_false s1] at hcl;clear s1
    go_wp2_with fail
    refine hcl.out.mono ?_;rintro e w12 ⟨rfl,hF⟩;replace HP:=HP.ext hF;clear hcl hF x00 x01
    go_wp2_with fail
    refine BV.mono ?_;rintro e w13 ⟨rfl,hF⟩;go_wp2;go_ret;exact ⟨rfl,HP.e.trans hF⟩
  obtain ⟨x00,x01⟩:=HP.c (i:=0) rfl;have hcl:=qh (Fy (va:=vp) (nt:=5) (d:=6) (HP.t (i:=0) rfl));rw [decide_eq_true s1] at hcl;have HS1:=qh s1;clear s1
  go_wp2_with fail
  refine hcl.out.mono ?_;rintro e w14 ⟨rfl,hF⟩;replace HP:=HP.ext hF;clear hcl hF x00 x01;obtain ⟨x00,x01⟩:=HP.c (i:=0) rfl;have hcl:=qh (Gt (vars:=vp) (hT.ext HP.e) (HP.t (i:=0) rfl) (Kl HS1.out (by omega)));obtain ⟨p,hp⟩:∃ o,rdP vp tp=o:=⟨_,rfl⟩;rw [hp] at hcl
  go_wp2_with fail
  refine hcl.out.mono ?_;rintro e w15 ⟨rfl,hF⟩;replace HP:=HP.ext hF;clear hcl hF x00 x01;cases p with
  | none =>
   simp only [Option.isSome_none]
   go_wp2_with fail
   refine BV.mono ?_;rintro e w16 ⟨rfl,hF⟩;go_wp2;go_ret;exact ⟨rfl,HP.e.trans hF⟩
  | some lp =>
   simp only [Option.isSome_some];have Hp:=qh hp;clear hp;obtain ⟨x00,x01⟩:=HP.c (i:=0) rfl;by_cases c1:vp<1
   · go_wp2_with fail
     refine BV.mono ?_;rintro e w17 ⟨rfl,hF⟩;go_wp2;go_ret;exact ⟨rfl,HP.e.trans hF⟩
   by_cases c2:(4:Int)<vp
   · go_wp2_with fail
     refine BV.mono ?_;rintro e w18 ⟨rfl,hF⟩;go_wp2;go_ret;exact ⟨rfl,HP.e.trans hF⟩
   by_cases c3:(6:Int)<(s.size:Int)
   · go_wp2_with fail
     refine BV.mono ?_;rintro e w19 ⟨rfl,hF⟩;go_wp2;go_ret;exact ⟨rfl,HP.e.trans hF⟩
   have hvl:=qh (LK (s:=s) (hT.ext HP.e) (by omega));obtain ⟨vc,hvc⟩:∃ o,A8 (Am s)=o:=⟨_,rfl⟩;rw [hvc] at hvl
   go_wp2_with fail
   refine hvl.out.mono ?_;rintro e w20 ⟨rfl,hF⟩;replace HP:=HP.ext hF;clear hvl hF x00 x01;cases vc with
   | none =>
    simp only [Option.isSome_none]
    go_wp2_with fail
    refine BV.mono ?_;rintro e w21 ⟨rfl,hF⟩;go_wp2;go_ret;exact ⟨rfl,HP.e.trans hF⟩
   | some cq =>
   simp only [Option.isSome_some];have HC:=qh hvc;have HQ6:Hid (Q6 cq):=qh (Q6.of (by rw [←Fo hvc,AJ]; omega));have HX6:Hid (∀ m,∀ t∈List.replicate m (Am s),t.length≤570):=qh fun m t ht=>by rw [(List.mem_replicate.1 ht).2,AJ]; omega
   obtain ⟨n,rfl⟩:∃ k:Nat,vp=(k:Int):=⟨vp.toNat,by omega⟩;have n4:n≤4:=by omega
   clear c1 c2 c3 hvc;obtain ⟨x00,x01⟩:=HP.c (i:=0) rfl
   go_wp2_with fail
   refine (FC (hx.ext HP.e) (by omega)).mono ?_;rintro e w20 ⟨aA,cA,A,rfl,hF,hA,pA,lA⟩;replace HP:=HP.ext hF;clear hF x00 x01
   go_wp2_with fail
   refine (FC (hy.ext HP.e) (by omega)).mono ?_;rintro e w21 ⟨aB,cB,B,rfl,hF,hB,pB,lB⟩;replace HP:=HP.ext hF
   have s2:=Jg (w:=w21) (cs:=#[.slice aA n cA, .slice aB n cB]) (xss:=[A,B]) (n:=2) rfl (by omega) rfl (by
    intro i hi;have:i=0∨i=1:=by omega
    rcases this with rfl|rfl
    · exact ⟨_,_,_,rfl,hA.ext hF⟩
    · exact ⟨_,_,_,rfl,hB⟩)
   obtain ⟨gs,hgs,G,g24⟩:=Un n4 pA pB lA lB;have HGS:=qh hgs;clear hF hA hB hx hy hgs lA lB pA pB
   go_wp2_with fail
   refine (Kt s2).mono ?_;rw [show genS (n:Int) [A,B]=(gs,0) from HGS.out];rintro e w22 ⟨ag,q,cg,rfl,hF,hG⟩;replace HP:=(HP.ext ((Ext.refl w21).alloc _)).ext hF;have hEB:=HP.e;replace hT:=hT.ext hEB;replace HP:PBx w22 w22 _:=⟨Ext.refl _,HP.2⟩;have hq:gs.length=q:=hG.len;have hq24:q∣24:=by rw [←hq]; exact g24
   have hq1:0<q:=by rw [←hq]; exact G.g.pos
   have hqle:q≤24:=Nat.le_of_dvd (by omega) hq24;obtain ⟨tm,lm,AS⟩:=avS G (by omega) n4 Hp.out HS1.out;obtain ⟨bG,oG,hag⟩:∃ bG oG,ag=some ⟨bG,oG,none⟩:=by
    obtain ⟨b,o,_,_,_,h,_⟩:=hG.at hq1;exact ⟨b,o,h⟩
   subst hag;have HGS2:Hid (∀ i,i<q→gs.getD i []∈gs):=qh fun i hi=>Bs (by omega);have HQL:=qh hq;clear hF s2 g24 HGS hq;obtain ⟨x00,x01⟩:=HP.c (i:=0) rfl;have hcl:=qh (FF AS.r1 (hT.ext HP.e) (HP.t (i:=0) rfl) hG AS.G Hp.out (Kl HS1.out (by omega)) AS.o1)
   go_wp2_with fail
   refine hcl.out.mono ?_;rintro e w31 ⟨a31,n31,c31,rfl,hF,hO⟩;have hY:=Arr.new w31 25 (AZ 0 none 0 0);clear hcl x00 x01
   go_upto_region 6 with (refine My rfl rfl rfl rfl hY rfl ?_; intro w31' hB hg)
   replace HP:=HP.new hF hO hB hg;clear hY hB hg hF hO;have hig:=qh (by have h:=Ge (hG.ext HP.e) (by omega); rw [Iu AS.G.g] at h; exact h)
   go_wp2_with fail
   refine hig.out.mono ?_;rintro e w32 ⟨rfl,hF⟩;replace HP:=HP.ext hF;clear hig hF;have f1:((q:Int) == 0)=false:=by simp; omega
   have f2:¬ ((q:Int)=0):=by omega
   have f3:(24:Int).tmod (q:Int)=0:=by
    obtain ⟨c,hc⟩:=hq24;have:(24:Int)=(q:Int)*(c:Int):=by rw [←Int.natCast_mul,←hc]; rfl
    rw [this];exact Int.mul_tmod_right _ _
   go_upto_region 8 with (fail)
   clear f1 f2 f3;generalize hWG:w32=WG at *
   clear hWG;go_wp2
   go_loopw [15] (fun iv wr=>∃ k:Nat,iv = .int .i64 k∧k≤q∧Ext WG wr) (fun iv _=>q-(intOf iv).toNat)
   case atStart=>exact ⟨0,rfl,Nat.zero_le _,Ext.refl _⟩
   case round =>
    obtain ⟨k,rfl,hk,hE⟩:=hrel;by_cases hlt:k<q
    · have HQ:=HP.ext hE;obtain ⟨b1,o1,a1,n1,c1,hbe,g1,s1⟩:=(hG.ext HQ.e).at hlt;simp only [Option.some.injEq,Addr.mk.injEq,and_true] at hbe;obtain ⟨rfl,rfl⟩:=hbe;obtain ⟨pg,lg⟩:=AS.G.p _ (HGS2.out k hlt);have hn1:n=n1:=by have h1:=s1.len; omega
      subst hn1;obtain ⟨am,nm,cm,x10,x11,htm⟩:∃ (am:Option Addr) (nm cm:Nat),wr.cell? ⟨w31.heap.size,0,none⟩=some (.int .i64 (n:Int))∧wr.cell? ⟨w31.heap.size,1,none⟩=some (.slice am nm cm)∧CJ wr am nm cm tm:=⟨_,_,_,(HQ.c (i:=1) rfl).1,(HQ.c (i:=1) rfl).2,HQ.t (i:=1) rfl⟩;have hap:=fun (wx:World) (hC:Ext wr wx)=>qh (MT (AS.act _ (HGS2.out k hlt)) (hT.ext (HQ.e.trans hC)) (htm.ext hC) (s1.ext hC) pg AS.rm AS.xm (AS.sa _ (HGS2.out k hlt)))
      go_upto_region 11 with (fail)
      refine WH (by kernel_rfl) (fun wx=>Ext wr wx)
       [he (.slice (some ⟨bG,oG,none⟩) q cg),
 he (.int .i64 k),
 he (.pointer (some ⟨bG,(oG+k),none⟩)),
 he (.slice a1 n c1),
 he (.agg #[.int .i64 (n:Int), .slice am nm cm]),
 hp (fun v wx=>NOe wr.heap.size n tm v wx),
 hp (fun v wx=>NOe wr.heap.size n tm v wx),
 hp (fun v wx=>NOp wr.heap.size n tm v wx),
 hp (fun v wx=>v = .int .i64 0),
 hp (NPp wr.heap.size),
 hmp (fun _ _=>True)]
       (by kernel_rfl) (fun _ _ e h=>h.trans e) ((Ext.refl wr).drew) ⟨trivial,trivial,trivial,trivial,trivial,NOe.x _ _ _,NOe.x _ _ _,NOp.x _ _ _,fun _ _ _ _ h=>h,NPp.x _,NT.x,trivial⟩ ⟨?o0, ?o1, ?o2, ?o3, ?o4, ?o5, ?o6, ?o7, ?o8, ?o9, ?o10,trivial⟩ 9 10 7 25 (AZ 0 none 0 0) ⟨by simp,by simp,by simp⟩ (by omega) ?hk ?hs1 ?hp1 ?hnm AK ?hj1 ?fin
      case o0=>exact omv rfl rfl (fun _ _=>id)
      case o1=>exact omv rfl rfl (fun _ _=>id)
      case o2 =>
       refine AB rfl fun ρ wx hC hcst h => ?_;have e0:ρ (.tmp 111)=(.slice (some ⟨bG,oG,none⟩) q cg):=h.1;have e1:ρ (.tmp 112)=(.int .i64 k):=h.2.1;have kz:=hC.cell g1;go_simp
       try (first | (intros; omega) | exact IntWalk.i64_in _ (by omega))
      case o3=>exact ol rfl rfl (fun _ _=>id) (by kernel_rfl) (by assumption)
      case o4=>exact ol2 rfl rfl (fun _ _=>id) AK (by assumption) (by assumption)
      case o5 =>
       refine Aj rfl fun ρ wx hC hcst hfn h => ?_;have e1:ρ (.tmp 114)=(.slice a1 n c1):=h.2.1;have e2:ρ (.tmp 115)=(.agg #[.int .i64 (n:Int), .slice am nm cm]):=h.2.2.1;have kz:=hC.cell g1;refine ⟨14,#[.slice a1 n c1, .agg #[.int .i64 (n:Int), .slice am nm cm]],by go_simp,((hap wx hC).out).mono ?_⟩;rintro e w' ⟨a',n',c',rfl,hE',hO'⟩;exact ⟨_,rfl,hE',a',n',c',rfl,hO'.mono hC.size⟩
      case o6 =>
       refine Bc rfl ?_;intro ρ wx hp hC h;have hcst:=hp.const;have hfn:=hp.func;obtain ⟨v0,e0,a0,m0,c0,rfl,ho0⟩:=h.1;have kz:=hC.cell g1;exact ⟨_,wx,by go_simp,Ext.refl _,a0,m0,c0,rfl,ho0⟩
      case o7 =>
       refine Bc rfl ?_;intro ρ wx hp hC h;have hcst:=hp.const;have hfn:=hp.func;obtain ⟨v0,e0,a0,m0,c0,rfl,ho0⟩:=h.1;have kz:=hC.cell g1;exact ⟨_,wx,by go_simp,Ext.refl _,a0,m0,c0,rfl,ho0⟩
      case o8 =>
       refine Bc rfl ?_;intro ρ wx hp hC h;have hcst:=hp.const;have hfn:=hp.func;obtain ⟨v0,e0,a0,m0,c0,rfl,ho0⟩:=h.1;have kz:=hC.cell g1;exact ⟨_,wx,by go_simp,Ext.refl _,rfl⟩
      case o9 =>
       exact Pm rfl rfl (fun _ h=>h.size)
      case o10 =>
       exact WJ (base:=wr.heap.size) (n:=n) (t:=tm) rfl rfl ⟨trivial,trivial,trivial,trivial,trivial,NOe.i _ _ _,NOe.i _ _ _,NOp.i _ _ _,(fun _ _ _ _ _ _ _ _ _ _ h=>h),NPp.i _,(fun _ _ _ _ _ _ _ _ _ _ h=>h),trivial⟩ (fun w w' g h hb hg=>h.grownR hg hb) (fun ρ w _ _ h=>⟨h.1,h.2.1⟩)
      case hk =>
       intro o ho;cases ho; exact ⟨rfl,rfl,fun ρ wx=>WE rfl ρ wx⟩
      case hs1 =>
       intro o ho;cases ho;exact ⟨rfl,rfl,_,_,rfl,rfl,rfl⟩
      case hp1=>exact ⟨List.contains_iff_mem.1 (by kernel_rfl),List.contains_iff_mem.1 (by kernel_rfl)⟩
      case hnm =>
       intro i hi hne;simp only [List.length_cons,List.length_nil] at hi
       match i,hi,hne with
       | 0,_,_=>rfl
       | 1,_,_=>rfl
       | 2,_,_=>rfl
       | 3,_,_=>rfl
       | 4,_,_=>rfl
       | 5,_,_=>rfl
       | 6,_,_=>rfl
       | 7,_,_=>rfl
       | 8,_,_=>rfl
       | 9,_,_=>rfl
       | 10,_,hne=>exact absurd rfl hne
      case hj1 =>
       refine ⟨rfl,fun v w h => ?_⟩;obtain ⟨a,m,c,rfl,_⟩:=h;exact ⟨AZ (n:Int) a m c,rfl,rfl,Bn _ _ _ _⟩
      case fin =>
       intro wx hC;rintro _ ⟨_,_,_,rfl,_⟩;rintro _ ⟨_,_,_,rfl,_⟩;rintro _ ⟨a8,m8,c8,rfl,hO8⟩;rintro _ rfl;rintro _ ⟨gq,csq,rfl,_,_,_⟩;rintro _ _;simp only [List.length_cons,List.length_nil,List.drop_succ_cons,List.drop_zero,Act.put,List.setIfInBounds_toArray,List.set_cons_succ,List.set_cons_zero,AP,AY,List.getElem?_toArray,List.getElem?_cons_succ,List.getElem?_cons_zero,Option.bind_some];rintro ⟨ga,csx,e1,lq,e3,hAq⟩;have e1p:Value.pointer (some ⟨gq,0,none⟩) = .pointer (some ⟨ga,0,none⟩):=e1;have e3p:Value.agg (AZ (n:Int) a8 m8 c8).toArray = .agg csx.toArray:=e3
       simp only [Value.pointer.injEq,Option.some.injEq,Addr.mk.injEq,and_true] at e1p;have e4:csx=AZ (n:Int) a8 m8 c8:=by simpa using e3p.symm
       subst e1p;subst e4;clear e1 e3 e3p;change wpList _ _ _ _ _ _;generalize hw3:wx=w3 at *
       clear hw3
       go_upto_region 12 with (fail)
       have hE3:Ext wr w3:=hC;have hO3:=hO8.sl;have y0:=hAq.c 0 rfl;have y1:=hAq.c 1 rfl;have z0:=hE3.cell x10;have z1:=hE3.cell x11;have hcl:=qh (Kk (va:=(n:Int)) (vb:=(n:Int)) hO3 (htm.ext hE3));rw [show decide ((n:Int)=(n:Int)∧tm=tm)=true by simp] at hcl;clear hap hC lq hAq hO8 hO3 x10 x11 htm g1 s1 pg lg HQ
       go_wp2_with fail
       refine hcl.out.mono ?_;rintro e w4 ⟨rfl,hF⟩;have hE4:=(hE.trans hE3).trans hF;clear hcl;go_wp2;go_roundw
       case rel=>exact ⟨k+1,by go_num,by omega,hE4⟩
       case measure=>simp [intOf]; omega
    · have HQ:=HP.ext hE;clear HP;have HP:=HQ;clear HQ
      go_upto_region 14 with (fail)
      clear hlt hE hk;obtain ⟨x10,x11⟩:=HP.c (i:=1) rfl;have hcl:=qh (FF AS.r2 (hT.ext HP.e) (HP.t (i:=1) rfl) (hG.ext HP.e) AS.G AS.rm AS.xm AS.o2)
      go_wp2_with fail
      refine hcl.out.mono ?_;rintro e w33 ⟨a33,n33,c33,rfl,hF,hO⟩;have hY:=Arr.new w33 25 (AZ 0 none 0 0);clear hcl x10 x11
      go_upto_region 15 with (refine My rfl rfl rfl rfl hY rfl ?_; intro w33' hB hg)
      replace HP:=HP.new hF hO hB hg;clear hY hB hg hF hO;generalize hWC:w33'=WC at *
      clear hWC;go_wp2
      go_loopw [20,21] (fun sv iv wr=>∃ (k:Nat) (a4:Option Addr) (c4:Nat),sv = .slice a4 k c4∧iv = .int .i64 k∧k≤n∧Ext WC wr∧Own wr WC.heap.size 9 a4 k c4 ((List.replicate k (Am s)).map Ee)) (fun _ iv _=>n-(intOf iv).toNat)
      case atStart=>exact ⟨0,none,0,rfl,rfl,Nat.zero_le _,Ext.refl _,Own.nil _ _ _⟩
      case round =>
       obtain ⟨k,a4,c4,rfl,rfl,hk,hE,hO4⟩:=hrel;by_cases hlt:k<n
       · have hAl:=(Ext.refl wr).alloc (.cells #[.string s] 9);have hO5:=hO4.ext hAl;have hL5:=(Au wr 0 9 #[.string s] 1 rfl (Nat.zero_le _) (by omega)).sl
         go_upto_region 18 with (refine Bw rfl rfl underlying26 SR rfl rfl hO5 rfl hL5 (by simp [Value.oneCell']) (by unfold maxLen; omega) (by omega) (by have:=hE.size; simp; omega) ?_; intro a7 c7 w7 hO7 hg7 hb7)
         have HE7:Hid (Ext WC w7):=qh ((hE.trans hAl).grown hg7 fun g h=>(hO5.lt h).1)
         have HO7:Hid (Own w7 WC.heap.size 9 a7 (k+1) c7 ((List.replicate (k+1) (Am s)).map Ee)):=qh (by
          rw [List.replicate_succ',List.map_append,List.map_cons,List.map_nil,LF]
          exact hO7)
         clear hO7 hg7 hb7 hO5 hL5 hAl hO4;go_wp2;go_roundw
         case rel=>exact ⟨k+1,a7,c7,rfl,by go_num,by omega,HE7.out,HO7.out⟩
         case measure=>simp [intOf]; omega
       · have hkn:n=k:=by omega
         subst hkn;have hAt:=Rg hO4 (List.length_replicate ..);replace HP:=HP.ext hE;clear hO4 hE;obtain ⟨x00,x01⟩:=HP.c (i:=0) rfl;have hcl:=qh (Kq Hp.out (LI HC.out n) rfl (AS.e1 cq HQ6.out) (hT.ext HP.e) (HP.t (i:=0) rfl) hAt (Kl HS1.out (by omega)) (HX6.out n) (by omega));obtain ⟨SS,hS1⟩:∃ SS:ByteArray,⟨(txt (Pl.evq (List.replicate n cq) lp)).toArray⟩=SS:=⟨_,rfl⟩;have HEV:=qh (AS.ev cq);have HS0:=qh hS1;rw [hS1] at hcl;clear hS1
         go_wp2_with fail
         refine hcl.out.mono ?_;rintro e w80 ⟨rfl,hF⟩;replace HP:=HP.ext hF;replace hAt:=hAt.ext hF;clear hcl hF x00 x01;obtain ⟨x10,x11⟩:=HP.c (i:=1) rfl;have hcl:=qh (Kq AS.rm (LI HC.out n) rfl (AS.e2 cq HQ6.out) (hT.ext HP.e) (HP.t (i:=1) rfl) hAt AS.xm (HX6.out n) (by omega));rw [HEV.out,HS0.out] at hcl;have qS:(SS == SS)=true:=by show (SS.data == SS.data)=true; simp
         go_wp2_with fail
         refine hcl.out.mono ?_;rintro e w81 ⟨rfl,hF⟩;replace HP:=HP.ext hF;clear hcl hF hAt x10 x11;obtain ⟨x10,x11⟩:=HP.c (i:=1) rfl;obtain ⟨x20,x21⟩:=HP.c (i:=2) rfl;have hcl:=qh (Kk (va:=(n:Int)) (vb:=(n:Int)) (HP.t (i:=2) rfl) (HP.t (i:=1) rfl));rw [show decide ((n:Int)=(n:Int)∧tm=tm)=true by simp] at hcl
         go_wp2_with fail
         refine hcl.out.mono ?_;rintro e w34 ⟨rfl,hF⟩;replace HP:=HP.ext hF;clear hcl hF x10 x11 x20 x21
         go_wp2_with fail
         refine BV.mono ?_;rintro e w35 ⟨rfl,hF⟩;go_wp2;go_ret;exact ⟨rfl,hEB.trans (HP.e.trans hF)⟩
end Go.Proofs.YtlpgonpfjbhmfaaGreatDoor
