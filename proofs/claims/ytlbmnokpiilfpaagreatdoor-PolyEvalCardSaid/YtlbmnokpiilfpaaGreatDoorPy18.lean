/- Part Py18. -/
import Derived.Test.YtlbmnokpiilfpaaGreatDoorPy17
import Derived.Test.YtlbmnokpiilfpaaGreatDoorPyNu6
import Derived.Test.YtlbmnokpiilfpaaGreatDoorPy14
import Derived.Deep.CutBlock
import Derived.Deep.LoopGhost
import Derived.BigQuiet
set_option linter.all false
set_option maxRecDepth 100000
set_option maxHeartbeats 100000000
namespace Go.Proofs.YtlbmnokpiilfpaaGreatDoor
open Tryz Go Go.RowKit
variable {f:Act} {ops:Array Oper} {Q:Exit->Act->World->Prop} {B va vars:Int} {news rows rows':List (List Value)} {l xs:List Int} {rest:List Oper} {cs ds row zs:List Value} {N b b' b0 base bytes c c' cx g i k m n n':Nat} {o:Oper} {s y:Operand} {A a a':Option Addr} {cons:Option Nat} {P:Program} {q:Rat} {e e' t ty:TypeId} {r0 r1 r2 r3:Value} {w w' wA:World}
def pL(v:Int)(a:Option Addr)(n c:Nat):List Value:=[.int .i64 v,.slice a n c]
theorem Bv(v:Int)(a:Option Addr)(n c:Nat):∀ x∈pL v a n c,x.oneCell'=true:=by
 intro x b;simp only[pL,gV,jN,me]at b;rcases b with rfl|rfl <;> rfl
def Uh(w:World)(b0:Nat)(vars:Int)(N:Nat)(l:List Pl.Tm)(e:Ending)(w':World):Prop:=∃ a n c out,e = .returned (.agg (pL vars a n c).toArray)/\Ext w w'/\TO w' b0 w.heap.size a n c out/\n<=l.length/\Pl.Canon N out/\∀ x,Pl.coef out x=Pl.coef l x
theorem TO.keptA{l:List Pl.Tm}(h:TO w b0 base a n c l)(d:Arr w g t cs)(h1:103≠t)(h2:3≠t)(h3:241≠t)(m:b0<=g)(f:w.grownBy w' (some g)):TO w' b0 base a n c l:=by
 obtain⟨b,j,p,r⟩:=h;refine⟨b,j.kept f ?_,p,fun i o=>(r i o).kept d h2 h3 m f⟩;cases e:blk a with
 | none=>exact .inl rfl
 | some q =>
  refine .inr fun he => ?_;obtain⟨k,s,h4⟩:=j.ty e;injection he with he;subst he;unfold Arr at d;rw[d]at h4;simp only[oQ,jJ]at h4;exact h1 h4.2.1.symm
theorem AP.ne(h:AP w base e k a n c rows)(b:Arr w g t cs)(f:e≠t):some g≠blk a:=fun he=>by
 obtain⟨d,i,h4⟩:=h.ty he.symm;unfold Arr at b;rw[b]at h4;simp only[oQ,jJ]at h4;exact f h4.2.1.symm
theorem G4{r4:Value}(j:P.underlying t=some (.slice e))(a:BT P e zs 5 bytes) :
 (Instr.buildSlice t 1 #[(0,.agg #[r0,r1,r2,r3,r4])]).run P w = .ok (.slice (some ⟨w.heap.size,0,none⟩) 1 1) (w.alloc (.cells #[r0,r1,r2,r3,r4] e)):=by
 obtain⟨i,f,c,b,d⟩:=a.parts;have g:=a.2.1
 match zs,g,c with
 | [z0,z1,z2,z3,z4],_,c =>
 simp[Instr.buildSlice,ip j,sizeOf,typeInfo,f,b,Instr.fill,zeroValue,c,newRow,Value.cells,show Array.range 5=#[0,1,2,3,4] by decide]
theorem Hv(h:q≠0):q.num.sign≠0:=fun h1=>h (Rat.num_eq_zero.1 (Int.sign_eq_zero_iff_zero.1 h1))
theorem Qo(hN:N<=12){vars:Int}{a:Option Addr}{n c:Nat}{l:List Pl.Tm}{w:World}(h:TSl w b0 a n c l)(hb:TB N l)(hw:b0<=w.heap.size)(hn:n<=100000)(hs:Pl.SubOK l) :
 Calls prog 74 #[.int .i64 vars,.slice a n c] w (Uh w b0 vars N l):=by
 have bm:=h.len
 go_enter func74,ntmps74
 go_upto_region 1 with(fail)
 refine AM ?_;intro w0 am b6 cu;have bp:=qh (LG hN n (h.ext am) hb (oS hw am.size) hn);have bc:Arr w0 w.heap.size 44 (pL 0 none 0 0):=b6;clear b6 cu h
 go_wp2_with fail
 refine bp.out.mono ?_;rintro e w1 ⟨a1,B,c1,E,rfl,aG,t1,p1,d1⟩;have a3:=hb.perm p1;have bo:=hs.perm p1;have aS:=am.trans aG;have bd:=bc.ext aG;have cS:B<=100000:=by
  have W:B=n:=by rw[<-t1.len,p1.length_eq,bm]
  omega
 have HG:Hid (Pl.Canon N (Pl.grp E)/\∀ x,Pl.coef (Pl.grp E) x=Pl.coef l x):=qh (Pl.grp_sum (fun t ht=>(hb t ht).1) p1 d1);have aP:=oS hw aS.size;have aY:Hid (w.heap.size<w1.heap.size):=qh bd.lt;have bG:Hid (B=l.length):=by show B=l.length;rw[<-t1.len,p1.length_eq]
 clear bp hb hs bm p1 d1 am aG bc hn;have hY:=Arr.new w1 44 (pL 0 none 0 0)
 go_upto_region 3 with(refine Aa (vs:=pL vars none 0 0) rfl rfl rfl rfl rfl Bj hY rfl (Bv _ _ _ _) ?_;intro w2 aq bi)
 have b8:Ext w1 w2:=((Ext.refl w1).alloc _).grownR bi (lrf _);have aw:Hid (TO w2 b0 w1.heap.size none 0 0 []):=qh (TO.nil _ _ _);have aj:Hid (Pl.SS E [] 0):=qh (Pl.SS.start E);clear hY bi;obtain⟨PB,af⟩:∃ PB,w1.heap.size=PB:=⟨_,rfl⟩;rw[af]at aq aw aY;simp only[af];have ay:=qh af;rw[af]at aP;clear af;go_wp2
 go_loopg [7] B (fun gk iv wr=>∃ (i:Nat) (ao:Option Addr) (V co:Nat) (G:List Pl.Tm),iv = .int .i64 i/\i<=B/\B<=i+gk/\V<=i/\Ext w1 wr/\Arr wr PB 44 (pL vars ao V co)/\Hid (TO wr b0 PB ao V co G)/\Hid (Pl.SS E G i))
 case atStart=>exact⟨0,none,0,0,[],rfl,oY _,by omega,lrf _,b8,aq,aw,aj⟩
 case round =>
  clear aw aj aq b8;obtain⟨i,ao,V,co,G,rfl,cR,cQ,cT,hE,ap,HO,HS⟩:=hrel;by_cases hi:i<B
  case neg =>
   have cd:¬ (i:Int)<B:=by omega
   have bl:G=Pl.grp E:=by
    have h1:=HS.out;rw[show i=E.length by rw[t1.len];omega]at h1;exact h1.done
   have z0:=ap.c 0 rfl;have z1:=ap.c 1 rfl;have be:=bd.ext hE;have HX:Hid (Pl.Canon N G/\∀ x,Pl.coef G x=Pl.coef l x):=by rw[bl];exact HG
   clear bl HG HS ap
   go_wp2_with(refine Aa (vs:=pL vars ao V co) rfl rfl rfl rfl rfl Bj be rfl (Bv _ _ _ _) ?_;intro w9 bU a8)
   have c8:=(HO.out.keptA be (by decide) (by decide) (by decide) hw a8).mono (jc aY.out);exact oM (Ai rfl Bj rfl bU) rfl ⟨ao,V,co,G,rfl,(aS.trans hE).grownR a8 (lrf _),c8,by have:=bG.out;omega,HX.out.1,HX.out.2⟩
  have cd:(i:Int)<B:=by omega
  have X:i<E.length:=by rw[t1.len];exact hi
  obtain⟨f,m,cJ,s1,x1,m1,d1,y1,g1,h1,F,cv,f1,rfl,a4,C,aX,bn,bh,aQ⟩:=(t1.ext hE).row hi;have bx:N=cv:=by have q1:=aQ.1.len;have q2:=(a3.get (i:=i) X).1;omega
  subst bx;have bQ:wr.cell? ⟨f,m+i*5,none⟩=some (.bool s1):=by have:=a4.cl hi (j:=0) (by omega);rw[C]at this;exact this
  have bR:wr.cell? ⟨f,m+i*5+1,none⟩=some (.slice x1 m1 d1):=by have:=a4.cl hi (j:=1) (by omega);rw[C]at this;exact this
  have bS:wr.cell? ⟨f,m+i*5+2,none⟩=some (.bool false):=by have:=a4.cl hi (j:=2) (by omega);rw[C]at this;exact this
  have bT:wr.cell? ⟨f,m+i*5+3,none⟩=some (.slice y1 g1 h1):=by have:=a4.cl hi (j:=3) (by omega);rw[C]at this;exact this
  have aZ:wr.cell? ⟨f,m+i*5+4,none⟩=some (.slice F N f1):=by have:=a4.cl hi (j:=4) (by omega);rw[C]at this;exact this
  have bf:=Arr.new wr 99 (Ah false none 0 0 false none 0 0);have av:Hid (Pl.SI E i (i+1) (E.getD i tz) (E.getD i tz).2):=qh (Pl.SI.start (getD_some X));clear a4 C
  go_upto_region 6 with(refine Aa (vs:=Ah s1 x1 m1 d1 false y1 g1 h1) rfl rfl rfl rfl rfl AE bf rfl (Ag _ _ _ _ _ _ _ _) ?_;intro wa al bj)
  have ac:Ext wr wa:=((Ext.refl wr).alloc _).grownR bj (lrf _);have az:Hid (QV wa (.agg (Ah s1 x1 m1 d1 false y1 g1 h1).toArray) (E.getD i tz).2):=qh ⟨s1,x1,m1,d1,y1,g1,h1,rfl,aX,bn.ext ac,bh.ext ac⟩;have bE:Hid (w1.heap.size<=wr.heap.size):=qh hE.size;obtain⟨CB,ak⟩:∃ CB,wr.heap.size=CB:=⟨_,rfl⟩;simp only[ak]at al bE;simp only[ak];have cL:Hid (CB<=CB):=qh (lrf _);have bD:Hid (wr.heap.size<=CB):=qh (kZ ak);clear bf bj aX bn bh ak bQ bR bS bT;have bw:i+1<=B:=hi
  go_upto_block 2 with(fail)
  go_cut [9] from 25 to 54 (fun kv o=>∃ (k:Nat) (U:Rat) (M:Bool) (O:Option Addr) (L I:Nat) (P:Option Addr) (J K:Nat),kv = .int .i64 k/\k<=B/\i<k/\Ext wr o/\Arr o CB 99 (Ah M O L I false P J K)/\Hid (QV o (.agg (Ah M O L I false P J K).toArray) U)/\Hid (Pl.SS E (if U=0 then G else G ++ [((E.getD i tz).1,U)]) k))
  case first =>
   go_wp2_with fail
   go_loopw[9] (fun kv o=>∃ (k:Nat) (U:Rat) (M:Bool) (O:Option Addr) (L I:Nat) (P:Option Addr) (J K:Nat),kv = .int .i64 k/\k<=B/\i<k/\Ext wr o/\Arr o CB 99 (Ah M O L I false P J K)/\Hid (QV o (.agg (Ah M O L I false P J K).toArray) U)/\Hid (Pl.SI E i k (E.getD i tz) U)) (fun kv _=>B-(intOf kv).toNat)
   case atStart=>exact⟨i+1,_,s1,x1,m1,d1,y1,g1,h1,by go_num,bw,Nat.lt_succ_self _,ac,al,az,av⟩
   case round =>
    clear ac al az av;obtain⟨k,U,M,O,L,I,P,J,K,rfl,ag,aN,A,s,HV,HI⟩:=hrel;have ad:=hE.trans A;have gi:=A.cell aZ;by_cases hk:k<B
    case neg =>
     have ce:¬ (k:Int)<B:=by omega
     go_upto_region 7 with(fail)
     go_quiet (fail)
     have b:Ext wr (wr.drewN nq):=(Qt.drewN (Qt.refl wr) nq).ext;generalize wr.drewN nq=o at *
     have R:=qh (HI.out.stop HS.out (fun y hy=>by rw[pu (by rw[t1.len];omega)]at hy;cases hy));have aH:=A.trans b;have aE:=s.ext b;have aA:=qh (HV.out.ext b);clear HV HI A s b gi ad
     go_wp2_with fail
     go_meet
     exact⟨k,U,M,O,L,I,P,J,K,rfl,ag,aN,aH,aE,aA,R⟩
    have ce:(k:Int)<B:=by omega
    have H:k<E.length:=by rw[t1.len];exact hk
    obtain⟨cO,cV,cK,s2,x2,m2,d2,y2,g2,h2,aa,cw,f2,bg,a5,D,aj,cg,cb,bq⟩:=(t1.ext ad).row hk;simp only[oQ,ic,iY]at bg;obtain⟨rfl,rfl⟩:=bg;have bz:N=cw:=by have q1:=bq.1.len;have q2:=(a3.get (i:=k) H).1;omega
    subst bz;have b2:wr.cell? ⟨f,m+k*5,none⟩=some (.bool s2):=by have:=a5.cl hk (j:=0) (by omega);rw[D]at this;exact this
    have b3:wr.cell? ⟨f,m+k*5+1,none⟩=some (.slice x2 m2 d2):=by have:=a5.cl hk (j:=1) (by omega);rw[D]at this;exact this
    have b4:wr.cell? ⟨f,m+k*5+2,none⟩=some (.bool false):=by have:=a5.cl hk (j:=2) (by omega);rw[D]at this;exact this
    have b5:wr.cell? ⟨f,m+k*5+3,none⟩=some (.slice y2 g2 h2):=by have:=a5.cl hk (j:=3) (by omega);rw[D]at this;exact this
    have aD:wr.cell? ⟨f,m+k*5+4,none⟩=some (.slice aa N f2):=by have:=a5.cl hk (j:=4) (by omega);rw[D]at this;exact this
    have au:=qh (fun(wy:World) (b:Ext wr wy)=>EU ((aQ.ext A).1.ext b) (bq.1.ext b) hN (a3.get (i:=i) X).2 (a3.get (i:=k) H).2);obtain⟨r,hr⟩:∃ r,Pl.ordE (E.getD i tz).1 (E.getD k tz).1=r:=⟨_,rfl⟩;have HR:=qh hr;rw[hr]at au;clear hr a5 D;by_cases ah:r=0
    · have bA:(r == 0)=true:=by simp[ah]
      go_upto_region 7 with(fail)
      have S:=fun(o:World) (b:Ext wr o)=>qh (And.intro (b.cell gi) (b.cell aD))
      refine Ac
       [hdI k,hdS (some ⟨f,m,none⟩) B c1,hdI B,hdB true,hdB true,hdS (some ⟨f,m,none⟩) B c1,hdI i,hdP f (m+i*5),hdP f ((m+i*5)+4),hdS F N f1,hdS (some ⟨f,m,none⟩) B c1,hdI k,hdP f (m+k*5),hdP f ((m+k*5)+4),hdS aa N f2,hp (fun v o=>v = .int .i64 r),hdB true,hdB true]
       ⟨fun v w w' e h=>h,trivial⟩ ⟨?o0,?o1,?o2,?o3,?o4,?o5,?o6,?o7,?o8,?o9,?o10,?o11,?o12,?o13,?o14,?o15,?o16,?o17,trivial⟩ ?fin
      case o0 | o1 | o4 | o5 | o6 | o10 | o11=>exact omv
      case o8 | o13=>exact ofa (d:=4)
      case o9 | o14=>exact ol
      case o2 =>
       refine Ao rfl fun Q o b p h => ?_;have e0:_=_:=h.1;obtain⟨kx,ky⟩:=(S o b).out;go_simp
      case o3 =>
       refine Ao rfl fun Q o b p h => ?_;have e0:_=_:=h.1;have W:_=_:=h.2.1;obtain⟨kx,ky⟩:=(S o b).out;go_simp
       try (first | (intros;omega) | exact oP _ (by omega))
      case o7 =>
       refine Ao rfl fun Q o b p h => ?_;have e0:_=_:=h.1;have W:_=_:=h.2.1;obtain⟨kx,ky⟩:=(S o b).out;go_simp
       try (first | (intros;omega) | exact oP _ (by omega))
      case o12 =>
       refine Ao rfl fun Q o b p h => ?_;have e0:_=_:=h.1;have W:_=_:=h.2.1;obtain⟨kx,ky⟩:=(S o b).out;go_simp
       try (first | (intros;omega) | exact oP _ (by omega))
      case o15 =>
       refine Ae rfl fun Q o b p aL h => ?_;have W:_=_:=h.2.1;have e2:_=_:=h.2.2.1;obtain⟨kx,ky⟩:=(S o b).out;refine⟨154,#[.slice F N f1,.slice aa N f2],by go_simp,(au.out o b).mono ?_⟩;rintro e w' ⟨rfl,aK⟩;exact⟨_,rfl,aK.ext,rfl⟩
      case o16 =>
       refine Ao rfl fun Q o b p h => ?_;obtain⟨v0,e0,rfl⟩:=h.1;obtain⟨kx,ky⟩:=(S o b).out;go_simp
       try (first | (intros;omega) | exact oP _ (by omega))
      case o17 =>
       refine Ao rfl fun Q o b p h => ?_;have e0:_=_:=h.1;have W:_=_:=h.2.1;obtain⟨kx,ky⟩:=(S o b).out;go_simp
      case fin =>
       intro o b;rintro _ rfl;change wpList _ _ _ _ _ _;simp only[A0];generalize cr:o=wz at *
       clear cr;have ab:=b;have Y:=s.c 0 rfl;have Z:=s.c 1 rfl;have a0:=s.c 2 rfl;have a2:=s.c 3 rfl;have he:(E.getD i tz).1=(E.getD k tz).1:=Pl.ordE_eq (by rw[(a3.get (i:=i) X).1,(a3.get (i:=k) H).1]) (by rw[HR.out];exact ah);have bF:=qh (HI.out.step (getD_some H) he);have aT:=HI.out.rb bo;have aU:=bo.one (gY (getD_some H))
       have bv:=qh (fun(wy:World) (b:Ext wz wy)=>MH (HV.out.ext (ab.trans b)) (v' := .agg #[.bool s2,.slice x2 m2 d2,.bool false,.slice y2 g2 h2]) (q:=(E.getD k tz).2) ⟨s2,x2,m2,d2,y2,g2,h2,rfl,aj,cg.ext (ab.trans b),cb.ext (ab.trans b)⟩ aT aU);have q0:=b.cell Y;have q1:=b.cell Z;have q2:=b.cell a0;have q3:=b.cell a2;have r0:=b.cell b2;have r1:=b.cell b3;have r2:=b.cell b4;have r3:=b.cell b5;have b7:=s.ext b;have ae:=A.trans b;clear aT aU Y Z a0 a2 b2 b3 b4 b5 aD gi he ah
       go_upto_region 8 with(fail)
       have aW:=fun(o:World) (b:Ext wz o)=>qh (And.intro (b.cell q0) (And.intro (b.cell q1) (And.intro (b.cell q2) (And.intro (b.cell q3) (And.intro (b.cell r0) (And.intro (b.cell r1) (And.intro (b.cell r2) (b.cell r3))))))))
       refine Ac
        [he (.agg #[.bool M,.slice O L I,.bool false,.slice P J K]),hdS (some ⟨f,m,none⟩) B c1,hdI k,hdP f (m+k*5),hdP f (m+k*5),he (.agg #[.bool s2,.slice x2 m2 d2,.bool false,.slice y2 g2 h2]),hp (fun v o=>QV o v (U+(E.getD k tz).2))]
        ⟨fun v w w' e h=>QV.ext h e,trivial⟩ ⟨?o0,?o1,?o2,?o3,?o4,?o5,?o6,trivial⟩ ?fin
       case o0 | o5=>exact ol4
       case o1 | o2=>exact omv
       case o4=>exact ofa (d:=0)
       case o3 =>
        refine Ao rfl fun Q o b p h => ?_;have e0:_=_:=h.1;have W:_=_:=h.2.1;obtain⟨cx,cy,cz,cA,cB,cC,cD,cE⟩:=(aW o b).out;go_simp
        try (first | (intros;omega) | exact oP _ (by omega))
       case o6 =>
        refine Ae rfl fun Q o b p aL h => ?_;have W:_=_:=h.2.1;have e2:_=_:=h.2.2.1;obtain⟨cx,cy,cz,cA,cB,cC,cD,cE⟩:=(aW o b).out;refine⟨155,#[.agg #[.bool M,.slice O L I,.bool false,.slice P J K],.agg #[.bool s2,.slice x2 m2 d2,.bool false,.slice y2 g2 h2]],by go_simp,(bv.out o b).mono ?_⟩;rintro e w' ⟨s',a',n',c',b',m',d',rfl,bW,ck,ci,cf⟩;exact⟨_,rfl,bW,s',a',n',c',b',m',d',rfl,ck,ci,cf⟩
       case fin =>
        intro o b;rintro _ ⟨s9,a9,n9,c9,b9,m9,d9,rfl,bL,cs,ct⟩;change wpList _ _ _ _ _ _;simp only[A0];have aF:=b7.ext b;have bZ:=ae.trans b
        go_wp2_with(refine Aa (vs:=Ah s9 a9 n9 c9 false b9 m9 d9) rfl rfl rfl rfl rfl AE aF rfl (Ag _ _ _ _ _ _ _ _) ?_;intro w9 bV a8)
        have bB:=cs.keptA aF (by decide) a8;have bC:=ct.keptA aF (by decide) a8;go_roundw
        case rel=>exact⟨k+1,_,s9,a9,n9,c9,b9,m9,d9,by go_num,by omega,by omega,bZ.grownR a8 bD.out,bV,qh ⟨s9,a9,n9,c9,b9,m9,d9,rfl,bL,bB,bC⟩,bF⟩
        case measure=>simp[intOf];omega
    · have bA:(r == 0)=false:=by simpa using ah
      go_upto_region 7 with(fail)
      have T:=fun(o:World) (b:Ext wr o)=>qh (And.intro (b.cell gi) (b.cell aD))
      refine Ac
       [hdI k,hdS (some ⟨f,m,none⟩) B c1,hdI B,hdB true,hdB true,hdS (some ⟨f,m,none⟩) B c1,hdI i,hdP f (m+i*5),hdP f ((m+i*5)+4),hdS F N f1,hdS (some ⟨f,m,none⟩) B c1,hdI k,hdP f (m+k*5),hdP f ((m+k*5)+4),hdS aa N f2,hp (fun v o=>v = .int .i64 r),hdB false,hdB false]
       ⟨fun v w w' e h=>h,trivial⟩ ⟨?o0,?o1,?o2,?o3,?o4,?o5,?o6,?o7,?o8,?o9,?o10,?o11,?o12,?o13,?o14,?o15,?o16,?o17,trivial⟩ ?fin
      case o0 | o1 | o4 | o5 | o6 | o10 | o11=>exact omv
      case o8 | o13=>exact ofa (d:=4)
      case o9 | o14=>exact ol
      case o2 =>
       refine Ao rfl fun Q o b p h => ?_;have e0:_=_:=h.1;obtain⟨kx,ky⟩:=(T o b).out;go_simp
      case o3 =>
       refine Ao rfl fun Q o b p h => ?_;have e0:_=_:=h.1;have W:_=_:=h.2.1;obtain⟨kx,ky⟩:=(T o b).out;go_simp
       try (first | (intros;omega) | exact oP _ (by omega))
      case o7 =>
       refine Ao rfl fun Q o b p h => ?_;have e0:_=_:=h.1;have W:_=_:=h.2.1;obtain⟨kx,ky⟩:=(T o b).out;go_simp
       try (first | (intros;omega) | exact oP _ (by omega))
      case o12 =>
       refine Ao rfl fun Q o b p h => ?_;have e0:_=_:=h.1;have W:_=_:=h.2.1;obtain⟨kx,ky⟩:=(T o b).out;go_simp
       try (first | (intros;omega) | exact oP _ (by omega))
      case o15 =>
       refine Ae rfl fun Q o b p aL h => ?_;have W:_=_:=h.2.1;have e2:_=_:=h.2.2.1;obtain⟨kx,ky⟩:=(T o b).out;refine⟨154,#[.slice F N f1,.slice aa N f2],by go_simp,(au.out o b).mono ?_⟩;rintro e w' ⟨rfl,aK⟩;exact⟨_,rfl,aK.ext,rfl⟩
      case o16 =>
       refine Ao rfl fun Q o b p h => ?_;obtain⟨v0,e0,rfl⟩:=h.1;obtain⟨kx,ky⟩:=(T o b).out;go_simp
       try (first | (intros;omega) | exact oP _ (by omega))
      case o17 =>
       refine Ao rfl fun Q o b p h => ?_;have e0:_=_:=h.1;have W:_=_:=h.2.1;obtain⟨kx,ky⟩:=(T o b).out;go_simp
      case fin =>
       intro o b;rintro _ rfl;change wpList _ _ _ _ _ _;simp only[A0];have R:=qh (HI.out.stop HS.out (fun y hy he=>by rw[getD_some H]at hy;rw[<-lr hy]at he;rw[he,Pl.ordE_self]at HR;exact ah HR.out.symm));have aH:=A.trans b;have aE:=s.ext b;have aA:=qh (HV.out.ext b);clear HV HI A s b gi ad
       go_wp2_with fail
       go_meet
       exact⟨k,U,M,O,L,I,P,J,K,rfl,ag,aN,aH,aE,aA,R⟩
  case rest =>
   clear ac al az av;obtain⟨k,U,M,O,L,I,P,J,K,rfl,ag,aN,A,s,HV,R⟩:=hcut;have ad:=hE.trans A;have gi:=A.cell aZ;have c6:=ap.ext A;have bJ:=qh (HO.out.ext A);have Y:=s.c 0 rfl;have Z:=s.c 1 rfl;have a0:=s.c 2 rfl;have a2:=s.c 3 rfl;have b:=Ext.refl wc;have ab:=b;have ae:=ad.trans b;have aJ:=c6.ext b;have ax:=qh (bJ.out.ext b);have b7:=s.ext b;have aB:=qh (HV.out.ext b);have q0:=b.cell Y;have q1:=b.cell Z;have q2:=b.cell a0;have q3:=b.cell a2;have b1:=b.cell gi;obtain⟨sg,ai⟩:∃ sg,U.num.sign=sg:=⟨_,rfl⟩
   have aR:=qh (Fl aB.out ai);by_cases a6:U=0
   · have cm:sg=0:=by rw[<-ai,a6];rfl
     have HN:Hid (Pl.SS E G k):=by have:=R.out;rw[pq a6]at this;exact qh this
     subst cm;clear ai a6 R Y Z a0 a2 gi
     go_wp2_with fail
     refine aR.out.mono ?_;rintro e w5 ⟨rfl,z⟩;have ar:V<=k:=by omega
     go_wp2
     go_roundg (B-k)
     case rel=>exact⟨k,ao,V,co,G,rfl,ag,by omega,ar,ae.trans z,aJ.ext z,qh (ax.out.ext z),HN⟩
     case measure=>omega
   · have cn:¬ sg=0:=by rw[<-ai];exact Hv a6
     have cU:((sg:Int) == 0)=false:=by simpa using cn
     have HN:Hid (Pl.SS E (G ++ [((E.getD i tz).1,U)]) k):=by have:=R.out;rw[pf a6]at this;exact qh this
     clear ai a6 R Y Z a0 a2 gi
     go_wp2_with fail
     refine aR.out.mono ?_;rintro e w5 ⟨rfl,z⟩;have ba:=aJ.ext z;have bK:=qh (ax.out.ext z);have bN:=qh (aB.out.ext z);have u0:=z.cell q0;have u1:=z.cell q1;have u2:=z.cell q2;have u3:=z.cell q3;have aC:=z.cell b1;have pp:=ba.c 1 rfl;clear q0 q1 q2 q3 b1 aJ ax aB
     go_upto_region 11 with(fail)
     refine Ac
      [hdP PB 1,hdS ao V co,he (.agg #[.bool M,.slice O L I,.bool false,.slice P J K]),hdS (some ⟨f,m,none⟩) B c1,hdI i,hdP f (m+i*5),hdP f ((m+i*5)+4),hdS F N f1,he (.agg #[.bool M,.slice O L I,.bool false,.slice P J K,.slice F N f1]),hp (fun v wc=>∃ g,v = .slice (some ⟨g,0,none⟩) 1 1/\Arr wc g 103 (tL M O L I P J K F N f1))]
      ⟨fun v w w' e ⟨g,h1,h2⟩=>⟨g,h1,h2.ext e⟩,trivial⟩ ⟨?o0,?o1,?o2,?o3,?o4,?o5,?o6,?o7,?o8,?o9,trivial⟩ ?fin
     case o0=>exact ofa (d:=1)
     case o1 | o7=>exact ol
     case o2=>exact ol4
     case o3 | o4=>exact omv
     case o6=>exact ofa (d:=4)
     case o5 =>
      refine BR rfl ?_;intro Q wc hp b h;have p:=hp.const;have e0:_=_:=h.1;have W:_=_:=h.2.1;have br:=b.cell u0;have bs:=b.cell u1;have bt:=b.cell u2;have bu:=b.cell u3;have kg:=b.cell aC;have kp:=b.cell pp;go_simp
      try (first | (intros;omega) | exact oP _ (by omega))
     case o8 =>
      refine BR rfl ?_;intro Q wc hp b h;have p:=hp.const;have e0:_=_:=h.1;have W:_=_:=h.2.1;have br:=b.cell u0;have bs:=b.cell u1;have bt:=b.cell u2;have bu:=b.cell u3;have kg:=b.cell aC;have kp:=b.cell pp;go_simp
     case o9 =>
      refine AR rfl ?_;intro Q wc hp b h;have p:=hp.const;have aL:=hp.func;have e0:_=_:=h.1;have br:=b.cell u0;have bs:=b.cell u1;have bt:=b.cell u2;have bu:=b.cell u3;have kg:=b.cell aC;have kp:=b.cell pp;refine⟨_,_,?_,(Ext.refl wc).alloc (.cells (tL M O L I P J K F N f1).toArray 103),wc.heap.size,rfl,Arr.new wc 103 (tL M O L I P J K F N f1)⟩;simp[execOp,e0,G4 underlying42 CQ];rfl
     case fin =>
      intro wc b;rintro _ ⟨g9,rfl,c0⟩;change wpList _ _ _ _ _ _;simp only[A0];obtain⟨cN,hK,c3,c2⟩:=bK.out;have aI:=hK.ext b;have hL:=Cj (k:=5) c0 rfl;have bb:=ba.ext b;have cj:=aI.ne bb (by decide);have cM:=(ae.trans (z.trans b)).size;have cp:PB<=wc.heap.size:=by have:=ay.out;omega
      go_wp2_with(refine DI rfl rfl underlying42 CQ rfl aI rfl hL (by intro r hr u hu;rw[oZ.1 hr]at hu;exact FM u hu) (by unfold maxLen;omega) (by omega) cp ?_;intro a7 c7 w7 c4 aM cP;have an:=bb.kept aM cj;have cX:=an.frozen 1;have cW:w7.cell? ⟨PB,1,none⟩=some (.slice ao V co):=an.cell (i:=1) (by simp[pL]))
      obtain⟨cG,cH,cF,bO,cI,bP,ca,aO,bM,ch,cc⟩:=bN.out;have aV:(Ah M O L I false P J K)=(Ah cG cH cF bO false cI bP ca):=by injection aO with aO;exact List.toArray_inj aO
      simp only[Ah,Ab,jW,iA,kX,pA,pk,iY,lh]at aV;obtain⟨rfl,⟨rfl,rfl,rfl⟩,rfl,rfl,rfl⟩:=aV;have bH:=TO.grow aI c3 (fun j hj=>(c2 j hj).ext b) (⟨M,O,L,I,P,J,K,F,N,f1,rfl,bM,ch.ext b,cc.ext b,aQ.ext ((A.trans ab).trans (z.trans b))⟩:TC _ b0 (tL M O L I P J K F N f1) ((E.getD i tz).1,U)) aP c4 aM;have bX:Ext w1 w7:=(ae.trans (z.trans b)).grown aM (fun k hk=>by have:=(hK.lt hk).1;rw[ay.out];exact this);have bk:=Am w7 PB 1 (.slice a7 (V+1) c7)
      have c5:Arr (w7.setCell ⟨PB,1,none⟩ (.slice a7 (V+1) c7)) PB 44 (pL vars a7 (V+1) c7):=an.set 1 _;have bI:=bH.keptA an (by decide) (by decide) (by decide) aP bk;have bY:=bX.grownR bk (kZ ay.out);have ar:V+1<=k:=by omega
      go_roundg (B-k)
      case rel=>exact⟨k,a7,V+1,c7,_,rfl,ag,by omega,ar,bY,c5,qh bI,HN⟩
      case measure=>omega
def A8(l:List Pl.Tm):List Pl.Tm:=l.map (fun t=>(BA t.1,t.2))
theorem Js(l:List Pl.Tm):(A8 l).length=l.length:=iM ..
theorem Ob(d:n<=6){l:List Pl.Tm}(h:Pl.Canon n l):Pl.Canon 6 (A8 l):=by
 refine⟨?_,?_,?_⟩
 · intro t b;obtain⟨s,a,rfl⟩:=gT.1 b;exact Dw (by rw[h.len s a];exact d)
 · intro t b;obtain⟨s,a,rfl⟩:=gT.1 b;exact h.nz s a
 · refine lU.2 (h.desc.imp_of_mem ?_);intro s t a b c;rw[I7 ((h.len s a).trans (h.len t b).symm)];exact c
def wrU(l:List Pl.Tm):List Tx:=l.map (fun t=>(txt t.2,t.1))
theorem Tu{l:List Pl.Tm}(h:∀ t∈l,t.1.length=n):wrT n (A8 l)=wrU l:=by
 unfold wrT A8 wrU;rw[lJ];refine mo fun t a => ?_;show(txt t.2,(BA t.1).take n)=(txt t.2,t.1);rw[<-h t a,Lb]
def okU(l:List Pl.Tm):Prop:=l.length<=4096/\∀ t r,l=t :: r->A4 t.1=true
theorem Pf(b:n<=6){l:List Pl.Tm}(h:∀ t∈l,t.1.length=n):okW (A8 l)<->okU l:=by
 unfold okW okU;rw[Js];refine and_congr_right fun _ => ?_;cases l with
 | nil=>simp[A8]
 | cons t r =>
  have a:=FH (l:=t.1) (by rw[h t (by simp)];exact b);constructor
  · intro h1 d c he;injection he with h2 h3;subst h2;have:=h1 _ _ rfl;rw[<-a];exact this
  · intro h1 d c he;injection he with h2 h3;rw[<-h2];show A4 (BA t.1)=true;rw[a];exact h1 _ _ rfl
theorem MK(b:n<=6){l p:List Pl.Tm}(h:Pl.Canon n l)(c:∀ e,Pl.coef (A8 l) e=Pl.coef p e):(okU l/\resQ (n:Int) p=((n:Int),wrU l,0))\/(¬ okU l/\resQ (n:Int) p=(0,[],2)):=by
 have h1:cnP p=A8 l:=NJ (Ob b h) c;unfold resQ;rw[h1,jf,Tu h.len];by_cases a:okU l
 · exact Or.inl ⟨a,pq ((Pf b h.len).2 a)⟩
 · exact Or.inr ⟨a,pf fun h2=>a ((Pf b h.len).1 h2)⟩
def rdU(t:Tx):Pl.Tm:=(t.2,(AJ t.1).getD 0)
theorem Oc{t:Tx}{m:Pl.Tm}(h:AQ vars t=some m):m=(BA (rdU t).1,(rdU t).2):=by
 obtain⟨h1,_,_,_,h2⟩:=Bp h;unfold rdU;rw[h1];exact Prod.ext h2 rfl
theorem Pg{ts:List Tx}{l:List Pl.Tm}(h:rdP vars ts=some l):l=A8 (ts.map rdU)/\Pl.Canon vars.toNat (ts.map rdU):=by
 obtain⟨n,h1,h2,h3,h4⟩:=Bl h;have b:∀ t∈ts,∃ m,AQ vars t=some m:=by
  intro t b;obtain⟨i,c,rfl⟩:=jC.1 b;have:=h3.1 i c;rw[gqq,oN c,pg]at this;exact je.1 this
 refine⟨?_,?_,?_,?_⟩
 · rw[h4];unfold A8;rw[lJ];refine mo fun t h5 => ?_;obtain⟨m,a⟩:=b t h5;rw[a];exact Oc a
 · intro t h5;obtain⟨s,h6,rfl⟩:=gT.1 h5;obtain⟨m,a⟩:=b s h6;have:=(Bp a).2.2.1;show s.2.length=_;omega
 · intro t h5;obtain⟨s,h6,rfl⟩:=gT.1 h5;obtain⟨m,a⟩:=b s h6;obtain⟨d,f,_⟩:=Bp a;show(AJ s.1).getD 0≠0;rw[d];exact f
 · refine lU.2 (lG.2 fun i j c k g => ?_);have:=GX h3.2 (j-i-1) i (by omega);have e:i+(j-i-1)+1=j:=by omega
   rw[e,gqq,gqq,oN c,oN k,pg,pg]at this;exact this
theorem Jt(j:P.underlying t=some (.slice e))(a:BT P e zs 2 bytes) :
 (Instr.buildSlice t 1 #[(0,.agg #[r0,r1])]).run P w = .ok (.slice (some ⟨w.heap.size,0,none⟩) 1 1) (w.alloc (.cells #[r0,r1] e)):=by
 obtain⟨i,f,c,b,d⟩:=a.parts;have g:=a.2.1
 match zs,g,c with
 | [z0,z1],_,c =>
 simp[Instr.buildSlice,ip j,sizeOf,typeInfo,f,b,Instr.fill,zeroValue,c,newRow,Value.cells,show Array.range 2=#[0,1] by decide]
theorem RS(h:Own w b e a n c cs)(i:AP w b' e' k a' n' c' rows)(m:e≠e'):blk a=none\/blk a≠blk a':=by
 cases j:blk a with
 | none=>exact .inl rfl
 | some g =>
  refine .inr fun l => ?_;obtain⟨cs,o,h1⟩:=Own.ty h g j;obtain⟨d,f,h2⟩:=i.ty l.symm;rw[h1]at h2;simp only[oQ,jJ]at h2;exact m h2.2.1
theorem Tv(h:Own w b e a n c cs)(d:Arr w g t ds)(j:e≠t):blk a=none\/blk a≠some g:=by
 cases i:blk a with
 | none=>exact .inl rfl
 | some q =>
  refine .inr fun f => ?_;obtain⟨cs,k,h1⟩:=Own.ty h q i;injection f with f;subst f;unfold Arr at d;rw[h1]at d;simp only[oQ,jJ]at d;exact j d.2.1
theorem TmO.grow{l:List Tx}{t:Tx}(f:AP w base 26 2 a n c rows)(g:l.length=n)(o:∀ i,i<n->Id w base (rows.getD i []) (l.getD i tm0))(r:Id w base row t)(m:AP w' base 26 2 a' (n+1) c' (rows ++ [row]))(p:w.grownBy w' (blk a)):TmO w' base a' (n+1) c' (l ++ [t]):=by
 have d:∀ {row:List Value} {t:Tx},Id w base row t->Id w' base row t:=fun {row t} h=>by
  obtain⟨s,j,v,k,h1,h2,h3⟩:=h;exact⟨s,j,v,k,h1,h2,h3.kept p (RS h3 f (by decide))⟩
 refine⟨_,m,by simp[g],fun i x => ?_⟩;have q:rows.length=n:=f.len (by omega);by_cases e:i<n
 · have h1:(rows ++ [row]).getD i []=rows.getD i []:=by rw[gqq,gF (by omega),<-gqq]
   have h2:(l ++ [t]).getD i tm0=l.getD i tm0:=by rw[gqq,gF (by omega),<-gqq]
   rw[h1,h2];exact d (o i e)
 · have b:i=n:=by omega
   have h1:(rows ++ [row]).getD i []=row:=by rw[gqq,gN (by omega),q,b,jt];rfl
   have h2:(l ++ [t]).getD i tm0=t:=by rw[gqq,gN (by omega),g,b,jt];rfl
   rw[h1,h2];exact d r
theorem TmO.keptU{l:List Tx}(h:TmO w base a n c l)(f:Arr w g t cs)(h1:26≠t)(h2:3≠t)(j:w.grownBy w' (some g)):TmO w' base a n c l:=by
 obtain⟨b,k,x,y⟩:=h;refine⟨b,k.kept j ?_,x,fun i v => ?_⟩
 · cases d:blk a with
   | none=>exact .inl rfl
   | some q=>exact .inr fun he=>k.ne f h1 (by rw[d,he])
 · obtain⟨s,m,z,o,p,r,e⟩:=y i v;exact⟨s,m,z,o,p,r,e.kept j (Tv e f h2)⟩
def VM(w0:World)(vars:Int)(ts:List Tx)(e:Ending)(w':World):Prop:=∃ a n c,e = .returned (C2 vars a n c)/\Ext w0 w'/\TmO w' w0.heap.size a n c ts
theorem RT{l:List Pl.Tm}(hi:i<l.length):wrU (l.take i) ++ [(txt (l.getD i tz).2,(l.getD i tz).1)]=wrU (l.take (i+1)):=by
 unfold wrU;rw[oW hi,im,gqq,oN hi];rfl
theorem Hw{l:List Pl.Tm}(h:TSl w b0 a n c l)(hq:∀ t∈l,Pl.RB 1000000 t.2)(aL:∀ t∈l,t.1.length<=12)(hn:n<=100000) :
 Calls prog 76 #[.agg (pL vars a n c).toArray] w (VM w vars (wrU l)):=by
 have hl:=h.len
 go_enter func76,ntmps76
 go_upto_region 1 with(fail)
 refine Ch ?_;intro D U R ab a2;have aH:Arr D (w.heap.size+1) 28 (As 0 none 0 0):=ab;have p0:=R.c 0 rfl;have p1:=R.c 1 rfl;have E:=Arr.new D 28 (As vars none 0 0);have ac:=(Ext.refl D).alloc (.cells (As vars none 0 0).toArray 28);clear R ab
 go_upto_region 2 with(fail)
 change Code.wp _ _ _ _ (D.alloc (.cells (As vars none 0 0).toArray 28));generalize D.alloc (.cells (As vars none 0 0).toArray 28)=w2 at *
 have a6:Hid (TmO w2 D.heap.size none 0 0 []):=qh (TmO.nil _ _);have a4:Hid (D.heap.size<=w.heap.size+2):=qh (kZ a2);rw[a2]at E;obtain⟨L,W⟩:∃ L,w.heap.size+2=L:=⟨_,rfl⟩;rw[W]at E a4;simp only[W];have h0:=h.ext U;clear W h a2;go_wp2
 go_loopw[4] (fun iv wr=>∃ (i:Nat) (M:Option Addr) (O:Nat),iv = .int .i64 i/\i<=n/\Ext D wr/\Arr wr L 28 (As vars M i O)/\Hid (TmO wr D.heap.size M i O (wrU (l.take i)))) (fun iv _=>n-(intOf iv).toNat)
 case atStart=>exact⟨0,none,0,rfl,oY _,ac,E,by rw[jK];exact a6⟩
 case round =>
  clear a6 E ac;obtain⟨i,M,O,rfl,aJ,T,B,HO⟩:=hrel;have aN:=T.cell p1;by_cases hi:i<n
  case neg =>
   have aI:¬ (i:Int)<n:=by omega
   have aK:i=n:=by omega
   have HX:Hid (TmO wr D.heap.size M i O (wrU l)):=by have h1:=HO.out;rw[oL (by omega)]at h1;exact qh h1
   have z0:=B.c 0 rfl;have z1:=B.c 1 rfl;have af:=aH.ext T;clear aK HO B aJ
   go_wp2_with(refine Aa (vs:=As vars M i O) rfl rfl rfl rfl rfl An af rfl (AB _ _ _ _) ?_;intro w9 ax ai)
   exact oM (Ai rfl An rfl ax) rfl ⟨M,i,O,rfl,(U.trans T).grownR ai (by omega),(HX.out.keptU af (by decide) (by decide) ai).mono U.size⟩
  have aI:(i:Int)<n:=by omega
  have P:i<l.length:=by omega
  obtain⟨p,q,aO,s1,x1,m1,d1,y1,g1,h1,aa,N,f1,rfl,z,o,a5,ak,ag,Y⟩:=(h0.ext T).row hi;have Q:l.getD i tz∈l:=gY (getD_some P);have aP:N<=12:=by have q1:=Y.1.len;have q2:=aL _ Q;omega
  have aq:wr.cell? ⟨p,q+i*5,none⟩=some (.bool s1):=by have:=z.cl hi (j:=0) (by omega);rw[o]at this;exact this
  have ar:wr.cell? ⟨p,q+i*5+1,none⟩=some (.slice x1 m1 d1):=by have:=z.cl hi (j:=1) (by omega);rw[o]at this;exact this
  have au:wr.cell? ⟨p,q+i*5+2,none⟩=some (.bool false):=by have:=z.cl hi (j:=2) (by omega);rw[o]at this;exact this
  have av:wr.cell? ⟨p,q+i*5+3,none⟩=some (.slice y1 g1 h1):=by have:=z.cl hi (j:=3) (by omega);rw[o]at this;exact this
  have aw:wr.cell? ⟨p,q+i*5+4,none⟩=some (.slice aa N f1):=by have:=z.cl hi (j:=4) (by omega);rw[o]at this;exact this
  have pp:=B.c 1 rfl;have al:=qh (fun(b:World) (f:Ext wr b)=>Gh (v := .agg #[.bool s1,.slice x1 m1 d1,.bool false,.slice y1 g1 h1]) ⟨s1,x1,m1,d1,y1,g1,h1,rfl,a5,ak.ext f,ag.ext f⟩ (hq _ Q));obtain⟨S,hS⟩:∃ S:ByteArray,(⟨(txt (l.getD i tz).2).toArray⟩:ByteArray)=S:=⟨_,rfl⟩;rw[hS]at al;have ap:Hid (Al S=txt (l.getD i tz).2):=by rw[<-hS];exact qh rfl
  have a8:=qh (RT P);have C:∀ b,Ext wr b->wr.heap.size<=b.heap.size:=fun b f=>f.size;have Z:=Y.1;obtain⟨xs,am⟩:∃ xs,(l.getD i tz).1=xs:=⟨_,rfl⟩;rw[am]at Z a8;have aY:=Z.len;clear hS z o ak ag a5 Y am
  go_upto_region 5 with(fail)
  have A:=fun(b:World) (f:Ext wr b)=>qh (And.intro (f.cell pp) (And.intro (f.cell aN) (And.intro (f.cell aq) (And.intro (f.cell ar) (And.intro (f.cell au) (And.intro (f.cell av) (f.cell aw)))))))
  refine Ac
   [hdP L 1,hdS M i O,hdP w.heap.size 1,hdS (some ⟨p,q,none⟩) n c,hdI i,hdP p (q+i*5),hdP p (q+i*5),he (.agg #[.bool s1,.slice x1 m1 d1,.bool false,.slice y1 g1 h1]),hp (fun v b=>v = .string S),hu 16 (fun v b=>∃ g,v = .slice (some ⟨g,0,none⟩) 0 0/\Own b wr.heap.size 3 (some ⟨g,0,none⟩) 0 0 []),hdP w.heap.size 1,hdS (some ⟨p,q,none⟩) n c,hdI i,hdP p (q+i*5),hdP p ((q+i*5)+4),hdS aa N f1,hmp (fun v b=>∃ s x,v = .slice s N x/\Own b wr.heap.size 3 s N x (xs.map (Value.int .i64))),hp (fun v b=>∃ s x,v = .agg #[.string S,.slice s N x]/\Own b wr.heap.size 3 s N x (xs.map (Value.int .i64))),hp (fun v b=>∃ g s x,v = .slice (some ⟨g,0,none⟩) 1 1/\Arr b g 26 (tmL S s N x)/\Own b wr.heap.size 3 s N x (xs.map (Value.int .i64)))]
   ⟨fun v w w' e h=>h,fun v w w' e ⟨g,h1,h2⟩=>⟨g,h1,h2.ext e⟩,fun v w w' e ⟨s,x,h1,h2⟩=>⟨s,x,h1,h2.ext e⟩,fun v w w' e ⟨s,x,h1,h2⟩=>⟨s,x,h1,h2.ext e⟩,fun v w w' e ⟨g,s,x,h1,h2,h3⟩=>⟨g,s,x,h1,h2.ext e,h3.ext e⟩,trivial⟩ ⟨?o0,?o1,?o2,?o3,?o4,?o5,?o6,?o7,?o8,?o9,?o10,?o11,?o12,?o13,?o14,?o15,?o16,?o17,?o18,trivial⟩ ?fin
  case o0 | o2 | o10=>exact ofa (d:=1)
  case o1 | o3 | o11 | o15=>exact ol
  case o4 | o12=>exact omv
  case o6=>exact ofa (d:=0)
  case o7=>exact ol4
  case o14=>exact ofa (d:=4)
  case o5 =>
   refine Ao rfl fun ρ b f y h => ?_;have e0:_=_:=h.1;have e1:_=_:=h.2.1;obtain⟨kp,kq,G,H,I,J,K⟩:=(A b f).out;go_simp
   try (first | (intros;omega) | exact oP _ (by omega))
  case o8 =>
   refine Ae rfl fun ρ b f y ah h => ?_;have e1:_=_:=h.2.1;obtain⟨kp,kq,G,H,I,J,K⟩:=(A b f).out;refine⟨96,#[.agg #[.bool s1,.slice x1 m1 d1,.bool false,.slice y1 g1 h1]],by go_simp,(al.out b f).mono ?_⟩;rintro e w' ⟨rfl,ay⟩;exact⟨_,rfl,ay,rfl⟩
  case o9 =>
   exact Ra rfl rfl underlying24 Eg C
  case o13 =>
   refine Ao rfl fun ρ b f y h => ?_;have e0:_=_:=h.1;have e1:_=_:=h.2.1;obtain⟨kp,kq,G,H,I,J,K⟩:=(A b f).out;go_simp
   try (first | (intros;omega) | exact oP _ (by omega))
  case o16 =>
   refine S6 rfl rfl underlying24 Eg rfl (n:=0) (m:=N) (xs:=[]) (news:=(xs.map (Value.int .i64))) (EN _) (by omega) (by unfold maxLen;omega) (by omega) (iA _) C ?_;rintro ρ b hp f ⟨⟨v0,e0,g,rfl,ad⟩,h1,-⟩;refine⟨_,_,_,_,e0,ad,h1,Z.ext f,fun w' hg=>⟨f.grown hg ?_,Ku (j:=8) (by kernel_rfl) (fun _ h=>h)⟩⟩;intro k hk;exact(Own.lt ad hk).1
  case o17 =>
   refine AR rfl ?_;intro ρ b hp f h;have y:=hp.const;have ah:=hp.func;obtain⟨v0,e0,rfl⟩:=h.1;obtain⟨v1,e1,s,x,rfl,i1⟩:=h.2.1;obtain⟨kp,kq,G,H,I,J,K⟩:=(A b f).out;refine⟨.agg #[.string S,.slice s N x],b,?_,Ext.refl b,s,x,rfl,i1⟩;go_simp
  case o18 =>
   refine AR rfl ?_;intro ρ b hp f h;have y:=hp.const;have ah:=hp.func;obtain⟨v0,e0,a0,c0,rfl,i0⟩:=h.1;obtain⟨kp,kq,G,H,I,J,K⟩:=(A b f).out;refine⟨_,_,?_,(Ext.refl b).alloc (.cells (tmL S a0 N c0).toArray 26),b.heap.size,a0,c0,rfl,Arr.new b 26 (tmL S a0 N c0),i0.alloc _⟩;simp[execOp,e0,Jt underlying22 Fg];rfl
  case fin =>
   intro b f;rintro _ rfl;rintro _;rintro _ ⟨aT,aV,rfl,aQ⟩;rintro _ ⟨aU,aW,rfl,aR⟩;rintro _ ⟨g9,a9,c9,rfl,aB,aF⟩;change wpList _ _ _ _ _ _;simp only[A0];obtain⟨aS,hK,aD,aC⟩:=HO.out;have V:=hK.ext f;have hL:=Cj (k:=2) aB rfl;have ae:=B.ext f;have aM:=V.ne ae (by decide)
   go_wp2_with(refine DI rfl rfl underlying22 Fg rfl V rfl hL (by intro r hr u hu;rw[oZ.1 hr]at hu;exact Fr _ _ _ _ u hu) (by unfold maxLen;omega) (by omega) ((T.trans f).size) ?_;intro a7 c7 w7 aE X aX;have F:=ae.kept X aM;have b1:=F.frozen 1;have aZ:w7.cell? ⟨L,1,none⟩=some (.slice M i O):=F.cell (i:=1) (by simp[As]))
   have a3:=TmO.grow V aD (fun j hj=>(aC j hj).ext f) (⟨S,a9,N,c9,rfl,ap.out,aF.mono T.size⟩:Id _ _ (tmL S a9 N c9) (txt (l.getD i tz).2,xs)) aE X;rw[a8.out]at a3;have az:Ext D w7:=(T.trans f).grown X (fun k hk=>(hK.lt hk).1);have aj:=Am w7 L 1 (.slice a7 (i+1) c7);have aG:Arr (w7.setCell ⟨L,1,none⟩ (.slice a7 (i+1) c7)) L 28 (As vars a7 (i+1) c7):=F.set 1 _;have an:=a3.keptU F (by decide) (by decide) aj;have aA:=az.grownR aj a4.out;go_roundw
   case rel=>exact⟨i+1,a7,c7,by go_num,by omega,aA,aG,qh an⟩
   case measure=>simp[intOf];omega
theorem LH(l:SlI w a n c xs) :
 Calls prog 152 #[.slice a n c] w fun e D=>e = .returned (.int .i64 (Dv xs))/\w=D:=by
 have g:=oK l.len;have x:=l.le;by_cases h6:6<(n:Int)
 · have d:Hid (Dv xs = -1):=by
    show Dv xs = -1;unfold Dv;rw[pq (by rw[g.out];omega)]
   go_enter func152,ntmps152
   go_wp2;go_ret;exact⟨Dj d.out,rfl⟩
 · have d:Hid (Dv xs=CJ 0 xs):=by
    show Dv xs=_;unfold Dv;rw[pf (by rw[g.out];omega)]
   go_enter func152,ntmps152
   go_wp2
   go_loop[3,4] (fun v i=>∃ (s:Int) (k:Nat),v = .int .i64 s/\i = .int .i64 k/\k<=n/\0<=s/\s<=24/\Hid (CJ 0 xs=CJ s (xs.drop k))) (fun _ i=>n-(intOf i).toNat)
   case atStart=>exact⟨0,0,rfl,rfl,oY _,by omega,by omega,oK rfl⟩
   case round =>
    obtain⟨s,k,rfl,rfl,G,z,A,j⟩:=hrel;by_cases b:k<n
    · obtain⟨E,I,rfl,p⟩:=l.at b;have F:=p k b;have f:k<xs.length:=by rw[g.out];exact b
      have o:=oK (PL f j.out);have r:=oK (Nj f j.out);generalize xs.getD k 0=y at *
      clear p;by_cases C:y<0
      · go_wp2;go_ret;exact⟨Dj (by rw[d.out,o.out (Or.inl C)]),rfl⟩
      · have H:IntKind.i64.wrap (24-s)=24-s:=oP _ (by omega);by_cases m:24-s<y
        · go_wp2;go_ret;exact⟨Dj (by rw[d.out,o.out (Or.inr m)]),rfl⟩
        · have B:IntKind.i64.wrap (s+y)=s+y:=oP _ (by omega);go_wp2;go_round
          case rel=>exact⟨s+y,k+1,by go_num,by go_num,by omega,by omega,by omega,oK (r.out (by omega))⟩
          case measure=>simp[intOf];omega
    · have t:xs.drop k=[]:=gZ (by have:=g.out;omega);have q:Hid (Dv xs=s):=by
       show Dv xs=s;rw[d.out,j.out,t];rfl
      go_wp2;go_ret;exact⟨Dj q.out,rfl⟩
theorem ML(b:SlI w a n c xs) :
 Calls prog 72 #[.slice a n c] w fun e g=>e = .returned (.bool (A4 xs))/\w=g:=by
 have f:=oK b.len;by_cases h6:(n:Int)<=6
 · go_enter func72,ntmps72
   go_wp2_with fail
   refine(LH b).mono ?_;rintro e i ⟨rfl,rfl⟩;go_wp2;go_ret;exact⟨rfl,rfl⟩
 · have d:Hid (A4 xs=false):=by
    show A4 xs=false;unfold A4 Dv;rw[pq (by rw[f.out];omega)];rfl
   go_enter func72,ntmps72
   go_wp2;go_ret;exact⟨Uu d.out,rfl⟩
theorem U4(h:SlI w a n c xs):XI w w.heap.size a n c xs:=by
 refine⟨h,fun h0 g e => .inl ?_⟩;obtain⟨b,o,rfl,d⟩:=Sl.rd h h0;have h1:b<w.heap.size:=iP w _ (d 0 h0);have h2:b=g:=by simpa[blk]using e
 omega
theorem Pl.coef_canon{l:List Pl.Tm}(h:Pl.Canon n l){t:Pl.Tm}(d:t∈l):Pl.coef l t.1=t.2:=by
 refine Pl.coef_mem ?_ d;refine List.Pairwise.map _ (fun a b c => ?_) h.desc;intro he;rw[he,Pl.ordE_self]at c;omega
theorem RU{ts:List Tx}(a:k<ts.length):(ts.take k).map rdU ++ [rdU (ts.getD k tm0)]=(ts.take (k+1)).map rdU:=by
 rw[oW a,im,gqq,oN a];rfl
open Classical in
noncomputable def rdN (vars:Int) (ts:List Tx):Option (List Pl.Tm):=if 0<=vars/\vars<=6/\okT vars ts ts.length then some (ts.map rdU)else none
def Dp(b0:Nat)(w:World)(vars:Int)(o:Option (List Pl.Tm))(e:Ending)(w':World):Prop:=∃ a n c,e = .returned (.tuple #[.agg (pL (if o.isSome then vars else 0) a n c).toArray,.bool o.isSome])/\Ext w w'/\TO w' b0 w.heap.size a n c (o.getD [])
theorem Dp.no{o:Option (List Pl.Tm)}(h:o=none)(e:Ext w w'):Dp b0 w vars o (.returned (.tuple #[.agg (pL 0 none 0 0).toArray,.bool false])) w':=by
 subst h;exact⟨none,0,0,rfl,e,TO.nil _ _ _⟩
theorem Qp{t:Tx}(h1:AJ t.1=some q)(h2:q≠0)(h3:(t.2.length:Int)=vars)(h4:∀ e∈t.2,0<=e/\e<=1048576):(AQ vars t).isSome=true:=by
 unfold AQ;rw[h1];simp only;rw[pq ⟨h2,h3,h4⟩];rfl
theorem Fn{t:Tx}(h:∀ q,AJ t.1=some q->q≠0->(t.2.length:Int)=vars->¬ ∀ e∈t.2,0<=e/\e<=1048576):(AQ vars t).isSome=false:=by
 unfold AQ;cases b:AJ t.1 with
 | none=>rfl
 | some q =>
  simp only;rw[pf (fun a=>h q b a.1 a.2.1 a.2.2)];rfl
theorem Tw{ts:List Tx}(a:k<ts.length)(h:(AQ vars (ts.getD k tm0)).isSome=false):rdN vars ts=none:=by
 unfold rdN;rw[pf];rintro⟨_,_,h1,_⟩;have:=h1 k a;rw[h]at this;cases this
theorem Tz{ts:List Tx}(a:k+1<ts.length)(h:¬ 0<Pl.ordE (ts.getD k tm0).2 (ts.getD (k+1) tm0).2):rdN vars ts=none:=by
 unfold rdN;rw[pf];rintro⟨_,_,_,h1⟩;exact h (h1 k a)
theorem okT.step{ts:List Tx}(h:okT vars ts k)(h1:(AQ vars (ts.getD k tm0)).isSome=true)(h2:∀ j,k=j+1->0<Pl.ordE (ts.getD j tm0).2 (ts.getD (j+1) tm0).2):okT vars ts (k+1):=by
 refine⟨fun i b => ?_,fun i b => ?_⟩
 · by_cases a:i<k
   · exact h.1 i a
   · have:i=k:=by omega
     subst this;exact h1
 · by_cases a:i+1<k
   · exact h.2 i a
   · exact h2 i (by omega)
theorem RV(h:∀ i,i<l.length->0<=l.getD i 0/\l.getD i 0<=1048576):∀ x∈l,0<=x/\x<=1048576:=fun x b=>by
 obtain⟨i,a,rfl⟩:=kI b;have:=h i a
 rwa[gqq,oN a,pg]at this
theorem Od{ts:List Tx}(h:Be wA A n c ts)(hA:Ext wA w)(hs:∀ t∈ts,t.1.length<=10000)(hn:n<=100000) :
 Calls prog 88 #[.agg #[.int .i64 vars,.slice A n c]] w (Dp wA.heap.size w vars (rdN vars ts)):=by
 have b6:=h.len;obtain⟨cm,hS,_,hq⟩:=h;have HQ:=qh hq;have HL:=qh b6;have HS:=qh hs;obtain⟨r,hr⟩:∃ r,rdN vars ts=r:=⟨_,rfl⟩;rw[hr];have HR:=qh hr;clear hr hq b6 hs
 go_enter func88,ntmps88
 go_upto_region 1 with(fail)
 refine Ch ?_;intro w0 O aR bh b2;have aa:Arr w0 (w.heap.size+1) 44 (pL 0 none 0 0):=bh;have p0:=aR.c 0 rfl;have p1:=aR.c 1 rfl;have ar:=Arr.new w0 44 (pL vars none 0 0);have a6:=(Ext.refl w0).alloc (.cells (pL vars none 0 0).toArray 44);clear aR bh
 go_upto_region 2 with(fail)
 change Code.wp _ _ _ _ (w0.alloc (.cells (pL vars none 0 0).toArray 44));generalize w0.alloc (.cells (pL vars none 0 0).toArray 44)=w2 at *
 have aP:Hid (w0.heap.size<=w.heap.size+2):=qh (kZ b2);rw[b2]at ar;obtain⟨OB,aU⟩:∃ OB,w.heap.size+2=OB:=⟨_,rfl⟩;rw[aU]at ar aP;simp only[aU];clear aU b2;have q0:=a6.cell p0;by_cases hv:0<=vars/\vars<=6
 case neg =>
  have HF:Hid (r=none):=qh (by rw[<-HR.out];unfold rdN;rw[pf (fun h=>hv ⟨h.1,h.2.1⟩)]);have c4:vars<0\/¬ vars<0/\6<vars:=by omega
  have bX:=aa.ext a6;have aq:=O.trans a6;clear p0 p1;rcases c4 with c1|⟨c1,c2⟩
  all_goals
   go_wp2_with(refine Aa (vs:=pL 0 none 0 0) rfl rfl rfl rfl rfl Bj bX rfl (Bv _ _ _ _) ?_;intro w9 z o)
   exact oM (Ar rfl Bj rfl rfl z) rfl (Dp.no HF.out (aq.grownR o (by omega)))
 obtain⟨cf,cg⟩:=hv;obtain⟨vn,rfl⟩:∃ k:Nat,vars=(k:Int):=⟨vars.toNat,by omega⟩;have c1:¬ ((vn:Int)<0):=by omega
 have c2:¬ ((6:Int)<(vn:Int)):=by omega
 go_wp2;clear q0 c1 c2
 go_loopg [5] n (fun gk iv wr=>∃ (k:Nat) (ao:Option Addr) (co:Nat),iv = .int .i64 k/\k<=n/\n<=k+gk/\Ext w0 wr/\Arr wr OB 44 (pL vn ao k co)/\Hid (TO wr wA.heap.size w0.heap.size ao k co ((ts.take k).map rdU))/\Hid (okT vn ts k))
 case atStart=>exact⟨0,none,0,rfl,oY _,by omega,a6,ar,qh (by rw[jK];exact TO.nil _ _ _),qh ⟨fun i hi=>absurd hi (by omega),fun i hi=>absurd hi (by omega)⟩⟩
 case round =>
  clear a6 ar;obtain⟨k,ao,co,rfl,hk,cq,hE,a9,HO,HK⟩:=hrel;have aq:=O.trans hE;have an:=hA.trans aq;have bB:=hE.cell p0;have bC:=hE.cell p1;by_cases aX:k<n
  case neg =>
   have bG:¬ (k:Int)<n:=by omega
   have hT:TO wr wA.heap.size w0.heap.size ao k co (ts.map rdU):=by
    have h1:=HO.out;rw[oL (by have:=HL.out;omega)]at h1;exact h1
   have HT:=qh hT
   have HF:Hid (r=some (ts.map rdU)):=qh (by
    rw[<-HR.out];unfold rdN
    rw[pq ⟨cf,cg,by rw[HL.out,<-show k=n by omega];exact HK.out⟩])
   have z0:=a9.c 0 rfl;have z1:=a9.c 1 rfl;have bk:=aa.ext hE;clear HO HK hT a9 hk
   go_wp2_with(refine Aa (vs:=pL vn ao k co) rfl rfl rfl rfl rfl Bj bk rfl (Bv _ _ _ _) ?_;intro w9 z o)
   refine oM (Ar rfl Bj rfl rfl z) rfl ?_;rw[HF.out];exact⟨ao,k,co,rfl,aq.grownR o (by omega),(HT.out.keptA bk (by decide) (by decide) (by decide) (by have:=hA.size;omega) o).mono O.size⟩
  have bG:(k:Int)<n:=by omega
  have bl:=hS.ext an;obtain⟨b,M,rfl,aw⟩:=bl.rd (by omega);obtain⟨s,ax,I,cx,aM,b0,aF⟩:=HQ.out k aX;have ac:k<ts.length:=by have:=HL.out;omega
  have b4:Hid (ts.getD k tm0∈ts):=qh (by rw[gqq,oN ac,pg];exact iF ac);have gs:wr.cell? ⟨b,M+k*2,none⟩=some (.string s):=by have:=aw k aX 0 (by omega);rw[aM]at this;exact this
  have gx:wr.cell? ⟨b,M+k*2+1,none⟩=some (.slice ax I cx):=by have:=aw k aX 1 (by omega);rw[aM]at this;exact this
  have bu:=qh ((U4 aF).ext an);have af:=aF.ext an;have aY:=aF.len;have bs:s.size<=10000:=by rw[<-Ax,b0];exact HS.out _ b4.out
  have aC:=qh (MJ (w:=wr) bs);rw[b0]at aC;have bd:=qh (RU ac);have m:=fun h=>qh (Tw (vars:=(vn:Int)) ac h);have p:=fun h h2=>qh (HK.out.step (k:=k) h h2)
  have Z:Hid (∀ j,k=j+1->∃ ap cp,wr.cell? ⟨b,M+j*2+1,none⟩=some (.slice ap vn cp)/\SlI wr ap vn cp (ts.getD j tm0).2/\∀ x∈(ts.getD j tm0).2,0<=x/\x<=1048576):=qh (fun j hj=>by
   obtain⟨sp,ap,np,cp,bE,_,ae⟩:=HQ.out j (by omega);have h1:=C6 (HK.out.1 j (by omega));have h2:=ae.len;have h3:np=vn:=by omega
   subst h3;have h4:=aw j (by omega) 1 (by omega);rw[bE]at h4
   exact⟨ap,cp,h4,ae.ext an,h1.2⟩)
  have B:=fun j (hj:k=j+1) h=>qh (Tz (vars:=(vn:Int)) (ts:=ts) (k:=j) (by omega) h);rw[HR.out]at m B;obtain⟨t,aQ⟩:∃ t,Hid (ts.getD k tm0=t):=⟨_,qh rfl⟩;rw[aQ.out]at aC bu af aY b4 bd m p;have a5:=qh aY;clear aw aM aF b0 bs bl ac HK aY
  go_wp2_with fail
  refine aC.out.mono ?_;rintro e w3 ⟨X,Q,W,T,R,V,U,rfl,bi,b1⟩;have bn:=Arr.new w3 99 (Ah false none 0 0 false none 0 0);have ca:(Ah X Q W T false R V U).toArray=#[.bool X,.slice Q W T,.bool false,.slice R V U]:=rfl
  go_upto_region 8 with(refine Aa (vs:=Ah X Q W T false R V U) rfl rfl rfl rfl rfl AE bn rfl (Ag _ _ _ _ _ _ _ _) ?_;intro w4 a0 bq)
  have ah:Ext w3 w4:=((Ext.refl w3).alloc _).grownR bq (lrf _);have K:=bi.trans ah;have J:=hE.trans K;have aH:=K.cell bB;have aI:=K.cell bC;have am:=K.cell gx;obtain⟨Y,bm⟩:∃ x,w3.heap.size=x:=⟨_,rfl⟩;rw[bm]at a0 |-;have z0:=a0.c 0 rfl;have z1:=a0.c 1 rfl;have z2:=a0.c 2 rfl;have z3:=a0.c 3 rfl;clear bn bq ca aC a0 bm gs gx bB bC;cases ad:AJ t.1 with
  | none =>
   have G:Hid (r=none):=qh (m (Fn (fun q hq=>by rw[ad]at hq;cases hq))).out;have H:=aa.ext J;have L:=O.trans J;simp only[jQ];clear ad b1 Z B p m af
   go_upto_region 8 with(fail)
   go_quiet (fail)
   go_wp2_with(refine Aa (vs:=pL 0 none 0 0) rfl rfl rfl rfl rfl Bj H rfl (Bv _ _ _ _) ?_;intro w9 z o)
   exact oM (Ar rfl Bj rfl rfl z) rfl (Dp.no G.out ((L.drewN _).grownR o (by omega)))
  | some q =>
   obtain⟨bc,bt,bv⟩:=b1 q ad;have aE:=bt.ext ah;have aG:=bv.ext ah;simp only[jD];have al:=qh ad;obtain⟨S,ab⟩:∃ S,q.num.sign=S:=⟨_,rfl⟩;have aZ:=qh (fun(f:World) (a:Ext w4 f)=>Fl (v := .agg #[.bool X,.slice Q W T,.bool false,.slice R V U]) (q:=q) ⟨X,Q,W,T,R,V,U,rfl,bc,aE.ext a,aG.ext a⟩ ab);clear ad b1 bt bv;by_cases a1:q=0
   case pos =>
    have bZ:S=0:=by rw[<-ab,a1];rfl
    have G:Hid (r=none):=qh (m (Fn (fun q' aB cb=>by rw[al.out]at aB;injection aB with aB;exact absurd (aB.symm.trans a1) cb))).out;subst bZ;clear ab a1 Z B p m aE aG af
    go_upto_region 8 with(fail)
    have a4:=fun(f:World) (a:Ext w4 f)=>qh (And.intro (a.cell z0) (And.intro (a.cell z1) (And.intro (a.cell z2) (And.intro (a.cell z3) (And.intro (a.cell am) (And.intro (a.cell aH) (a.cell aI)))))))
    refine Ac
     [hdB true,hdB false,hdB false,he (.agg #[.bool X,.slice Q W T,.bool false,.slice R V U]),hp (fun v f=>v = .int .i64 0),hdB true,hdB true,hdB true,hdU,hdU,hdU,hdU,hdU,hdU,hdU,hdU,hdU,hdU,hdB true]
     ⟨fun v w w' e h=>h,trivial⟩ ⟨?o0,?o1,?o2,?o3,?o4,?o5,?o6,?o7,?o8,?o9,?o10,?o11,?o12,?o13,?o14,?o15,?o16,?o17,?o18,trivial⟩ ?fin
    case o0 | o2 | o7=>exact omv
    case o3=>exact ol4
    case o8 | o9 | o10 | o11 | o12 | o13 | o14 | o15 | o16 | o17=>exact MY rfl
    case o1 =>
     refine Ao rfl fun ρ f a l h => ?_;have e0:_=_:=h.1;obtain⟨C,D,E,F,kx,ka,kb⟩:=(a4 f a).out;go_simp
    case o4 =>
     refine Ae rfl fun ρ f a l bp h => ?_;have e1:_=_:=h.2.1;obtain⟨C,D,E,F,kx,ka,kb⟩:=(a4 f a).out;refine⟨132,#[.agg #[.bool X,.slice Q W T,.bool false,.slice R V U]],by go_simp,(aZ.out f a).mono ?_⟩;rintro e w' ⟨rfl,aS⟩;exact⟨_,rfl,aS,rfl⟩
    case o5 =>
     refine Ao rfl fun ρ f a l h => ?_;obtain⟨v0,e0,rfl⟩:=h.1;obtain⟨C,D,E,F,kx,ka,kb⟩:=(a4 f a).out;go_simp
     try (first | (intros;omega) | exact oP _ (by omega))
    case o6 =>
     refine Ao rfl fun ρ f a l h => ?_;have e0:_=_:=h.1;have e2:_=_:=h.2.2.1;obtain⟨C,D,E,F,kx,ka,kb⟩:=(a4 f a).out;go_simp
    case o18 =>
     refine Ao rfl fun ρ f a l h => ?_;have e0:_=_:=h.1;have e2:_=_:=h.2.2.1;obtain⟨C,D,E,F,kx,ka,kb⟩:=(a4 f a).out;go_simp
    case fin =>
     intro f a;rintro _ rfl;change wpList _ _ _ _ _ _;simp only[A0];have H:=(aa.ext J).ext a;have L:=(O.trans J).trans a
     go_wp2_with(refine Aa (vs:=pL 0 none 0 0) rfl rfl rfl rfl rfl Bj H rfl (Bv _ _ _ _) ?_;intro w9 z o)
     exact oM (Ar rfl Bj rfl rfl z) rfl (Dp.no G.out (L.grownR o (by omega)))
   have ce:((S:Int) == 0)=false:=by rw[<-ab];simpa using Hv a1
   obtain⟨bb,av⟩:∃ bb,((I:Int) != (vn:Int))=bb:=⟨_,rfl⟩;clear ab
   go_upto_region 8 with(fail)
   have N:=fun(f:World) (a:Ext w4 f)=>qh (And.intro (a.cell z0) (And.intro (a.cell z1) (And.intro (a.cell z2) (And.intro (a.cell z3) (And.intro (a.cell am) (And.intro (a.cell aH) (a.cell aI)))))))
   refine Ac
    [hdB true,hdB false,hdB false,he (.agg #[.bool X,.slice Q W T,.bool false,.slice R V U]),hp (fun v f=>v = .int .i64 S),hdB false,hdB false,hdB false,hdP w.heap.size 1,hdS (some ⟨b,M,none⟩) n c,hdI k,hdP b (M+k*2),hdP b ((M+k*2)+1),hdS ax I cx,hdI I,hdP w.heap.size 0,hdI vn,hdB bb,hdB bb]
    ⟨fun v w w' e h=>h,trivial⟩ ⟨?o0,?o1,?o2,?o3,?o4,?o5,?o6,?o7,?o8,?o9,?o10,?o11,?o12,?o13,?o14,?o15,?o16,?o17,?o18,trivial⟩ ?fin
   case o0 | o2 | o7 | o10=>exact omv
   case o3=>exact ol4
   case o8 | o12=>exact ofa (d:=1)
   case o9 | o13 | o16=>exact ol
   case o15=>exact ofa (d:=0)
   case o1 =>
    refine Ao rfl fun ρ f a l h => ?_;have e0:_=_:=h.1;obtain⟨C,D,E,F,kx,ka,kb⟩:=(N f a).out;go_simp
   case o4 =>
    refine Ae rfl fun ρ f a l bp h => ?_;have e1:_=_:=h.2.1;obtain⟨C,D,E,F,kx,ka,kb⟩:=(N f a).out;refine⟨132,#[.agg #[.bool X,.slice Q W T,.bool false,.slice R V U]],by go_simp,(aZ.out f a).mono ?_⟩;rintro e w' ⟨rfl,aS⟩;exact⟨_,rfl,aS,rfl⟩
   case o5 =>
    refine Ao rfl fun ρ f a l h => ?_;obtain⟨v0,e0,rfl⟩:=h.1;obtain⟨C,D,E,F,kx,ka,kb⟩:=(N f a).out;go_simp
    try (first | (intros;omega) | exact oP _ (by omega))
   case o6 =>
    refine Ao rfl fun ρ f a l h => ?_;have e0:_=_:=h.1;have e2:_=_:=h.2.2.1;obtain⟨C,D,E,F,kx,ka,kb⟩:=(N f a).out;go_simp
   case o11 =>
    refine Ao rfl fun ρ f a l h => ?_;have e0:_=_:=h.1;have e1:_=_:=h.2.1;obtain⟨C,D,E,F,kx,ka,kb⟩:=(N f a).out;go_simp
    try (first | (intros;omega) | exact oP _ (by omega))
   case o14 =>
    refine Ao rfl fun ρ f a l h => ?_;have e0:_=_:=h.1;obtain⟨C,D,E,F,kx,ka,kb⟩:=(N f a).out;go_simp
   case o17 =>
    refine Ao rfl fun ρ f a l h => ?_;have e0:_=_:=h.1;have e1:_=_:=h.2.1;obtain⟨C,D,E,F,kx,ka,kb⟩:=(N f a).out;go_simp
    try (first | (intros;omega) | exact oP _ (by omega))
   case o18 =>
    refine Ao rfl fun ρ f a l h => ?_;have e0:_=_:=h.1;have e2:_=_:=h.2.2.1;obtain⟨C,D,E,F,kx,ka,kb⟩:=(N f a).out;go_simp
   case fin =>
    intro f a;rintro _ rfl;change wpList _ _ _ _ _ _;simp only[A0];generalize ci:f=w5 at *
    clear ci;have b5:=J.trans a;have H:=aa.ext b5;have L:=O.trans b5;have cj:=a.cell aH;have bD:=a.cell aI;have gy:=a.cell am;have ag:=K.trans a;have P:=af.ext ag;have y0:=a.cell z0;have y1:=a.cell z1;have y2:=a.cell z2;have y3:=a.cell z3;have bf:=qh (aE.ext a);have bg:=qh (aG.ext a);clear z0 z1 z2 z3 aH aI am aZ aE aG a ce af K J bi ah;cases bb with
    | true =>
     have aA:¬ (I:Int)=vn:=by simpa using av
     have G:Hid (r=none):=qh (m (Fn (fun q' _ _ h3=>absurd (by rw[<-a5.out];exact h3) aA))).out;clear av aA Z B p m P
     go_wp2_with(refine Aa (vs:=pL 0 none 0 0) rfl rfl rfl rfl rfl Bj H rfl (Bv _ _ _ _) ?_;intro w9 z o)
     exact oM (Ar rfl Bj rfl rfl z) rfl (Dp.no G.out (L.grownR o (by omega)))
    | false =>
     have cd:(I:Int)=vn:=by simpa using av
     have cc:I=vn:=by omega
     have a5:=a5.out;subst cc;have aO:=qh a5;clear av cd a5;go_wp2
     go_loop[8] (fun kv=>∃ j:Nat,kv = .int .i64 j/\j<=I/\Hid (∀ i,i<j->0<=t.2.getD i 0/\t.2.getD i 0<=1048576)) (fun kv=>I-(intOf kv).toNat)
     case atStart=>exact⟨0,rfl,oY _,qh (fun i hi=>absurd hi (by omega))⟩
     case round =>
      obtain⟨j,rfl,hj,HJ⟩:=hrel;by_cases az:j<I
      · have bF:(j:Int)<I:=by omega
        obtain⟨b',cl,rfl,hc⟩:=P.at az;have c1:=hc j az;have HM:Hid (t.2.getD j 0∈t.2):=qh (Jp (by rw[aO.out];exact az))
        have aj:Hid (0<=t.2.getD j 0->t.2.getD j 0<=1048576->∀ i,i<j+1->0<=t.2.getD i 0/\t.2.getD i 0<=1048576):=qh (fun h1 h2 i hi=>by
         by_cases c6:i<j
         · exact HJ.out i c6
         · have:i=j:=by omega
           subst this
           exact⟨h1,h2⟩)
        have a2:Hid (¬ (0<=t.2.getD j 0/\t.2.getD j 0<=1048576)->r=none):=qh (fun h=>(m (Fn (fun _ _ _ _ h4=>h (h4 _ HM.out)))).out);clear hc HM Z B p m P HJ;generalize t.2.getD j 0=x at *
        by_cases cs:x<0
        · have G:Hid (r=none):=qh (a2.out (by omega));clear aj a2
          go_upto_region 14 with(fail)
          go_wp2_with(have hq:=H;clear H;refine Aa (vs:=pL 0 none 0 0) rfl rfl rfl rfl rfl Bj hq rfl (Bv _ _ _ _) ?_;intro w9 z o)
          have h9:=L.grownR o (by omega);exact oM (Ar rfl Bj rfl rfl z) rfl (Dp.no G.out h9)
        by_cases ct:1048576<x
        · have G:Hid (r=none):=qh (a2.out (by omega));clear aj a2
          go_upto_region 14 with(fail)
          go_wp2_with(have hq:=H;clear H;refine Aa (vs:=pL 0 none 0 0) rfl rfl rfl rfl rfl Bj hq rfl (Bv _ _ _ _) ?_;intro w9 z o)
          have h9:=L.grownR o (by omega);exact oM (Ar rfl Bj rfl rfl z) rfl (Dp.no G.out h9)
        have bI:=qh (aj.out (by omega) (by omega));clear aj a2;go_wp2;go_round
        case rel=>exact⟨j+1,by go_num,by omega,bI⟩
        case measure=>simp[intOf];omega
      have bF:¬ (j:Int)<I:=by omega
      have HB:Hid (∀ x∈t.2,0<=x/\x<=1048576):=qh (RV (fun i hi=>HJ.out i (by rw[aO.out]at hi;omega)));have be:Hid ((AQ (I:Int) t).isSome=true):=qh (Qp al.out a1 (by rw[aO.out]) HB.out);have bK:Hid (rdU t=(t.2,q)):=by show _=_;unfold rdU;rw[al.out];rfl
      clear HJ hj az m a1 al;have c5:k=0\/∃ j,k=j+1:=by cases k;exact .inl rfl;exact .inr ⟨_,rfl⟩
      go_upto_region 15 with(fail)
      rcases c5 with c9|⟨j,aW⟩
      case' inl =>
       have ba:Hid (okT I ts (k+1)):=qh (p be.out (fun j hj=>by omega)).out;have ay:¬ (0:Int)<k:=by omega
       have aK:¬ 0<k:=by omega
       have aL:decide ((0:Int)<k)=false:=pb ay;clear c9 Z B p
       go_quiet (fail)
       clear aK aL
      case' inr =>
       obtain⟨ap,cp,gp,ae,bo⟩:=Z.out j aW;have ai:=fun(f:World) (hq:Ext w5 f)=>qh (EU ((ae.ext ag).ext hq) (P.ext hq) (by omega) (fun x hx=>by have:=bo x hx;omega) (fun x hx=>by have:=HB.out x hx;omega));have bO:=ag.cell gp;obtain⟨v,HV⟩:∃ v,Hid (Pl.ordE (ts.getD j tm0).2 t.2=v):=⟨_,qh rfl⟩;rw[HV.out]at ai;have ch:IntKind.i64.wrap ((k:Int)-1)=(j:Int):=by rw[show(k:Int)-1=(j:Int) by omega];exact oP _ (by omega)
       have ay:(0:Int)<k:=by omega
       have aK:0<k:=by omega
       have aL:decide ((0:Int)<k)=true:=gX ay;have c8:(j:Int)<n:=by omega
       have ak:=qh aW;clear aW gp bo ae Z;by_cases b7:0<v
       case neg =>
        have G:Hid (r=none):=qh (B j ak.out (by rw[<-ak.out,aQ.out,HV.out];omega)).out;have aD:v<=0:=by omega
        have b8:decide (v<=0)=true:=gX aD;clear B p
        go_quiet (exact lH (ai _ ((Ext.refl w5).drewN _)).out)
        have bY:=H.ext ((Ext.refl w5).drewN nq);have bR:=L.drewN nq;generalize w5.drewN nq=w6 at *
        go_wp2_with(refine Aa (vs:=pL 0 none 0 0) rfl rfl rfl rfl rfl Bj bY rfl (Bv _ _ _ _) ?_;intro w9 z o)
        exact oM (Ar rfl Bj rfl rfl z) rfl (Dp.no G.out (bR.grownR o (by omega)))
       have ba:Hid (okT I ts (k+1)):=qh (p be.out (fun j' cr=>by
        have h1:j'=j:=by have:=ak.out;omega
        rw[h1,<-ak.out,aQ.out,HV.out]
        exact b7)).out
       have aD:¬ v<=0:=by omega
       have b8:decide (v<=0)=false:=pb aD;clear B p
       go_quiet (exact lH (ai _ ((Ext.refl w5).drewN _)).out)
       clear ai bO ch c8 b7 aK aL aD b8
      all_goals
       have y:Ext w5 (w5.drewN nq):=(Ext.refl w5).drewN nq;generalize w5.drewN nq=w6 at *
       have aJ:=ag.trans y;have pp:w6.cell? ⟨OB,1,none⟩=some (.slice ao k co):=(a9.ext aJ).cell (i:=1) (by simp[pL]);have ck:=y.cell bD;have gz:=y.cell gy;have u0:=y.cell y0;have u1:=y.cell y1;have u2:=y.cell y2;have u3:=y.cell y3;have bM:=qh (bu.out.ext aJ);have bL:=qh (bf.out.ext y);have bN:=qh (bg.out.ext y);clear cj bD gy y0 y1 y2 y3 bf bg y P H L ay
       go_upto_region 17 with(fail)
       have aN:=fun(f:World) (a:Ext w6 f)=>qh (And.intro (a.cell u0) (And.intro (a.cell u1) (And.intro (a.cell u2) (And.intro (a.cell u3) (And.intro (a.cell pp) (And.intro (a.cell ck) (a.cell gz)))))))
       refine Ac
        [hdP OB 1,hdS ao k co,he (.agg #[.bool X,.slice Q W T,.bool false,.slice R V U]),hdP w.heap.size 1,hdS (some ⟨b,M,none⟩) n c,hdI k,hdP b (M+k*2),hdP b ((M+k*2)+1),hdS ax I cx,he (.agg #[.bool X,.slice Q W T,.bool false,.slice R V U,.slice ax I cx]),hp (fun v f=>∃ g,v = .slice (some ⟨g,0,none⟩) 1 1/\Arr f g 103 (tL X Q W T R V U ax I cx))]
        ⟨fun v w w' e ⟨g,h1,h2⟩=>⟨g,h1,h2.ext e⟩,trivial⟩ ⟨?o0,?o1,?o2,?o3,?o4,?o5,?o6,?o7,?o8,?o9,?o10,trivial⟩ ?fin
       case o0 | o3 | o7=>exact ofa (d:=1)
       case o1 | o4 | o8=>exact ol
       case o2=>exact ol4
       case o5=>exact omv
       case o6 =>
        refine Ao rfl fun ρ f a l h => ?_;have e0:_=_:=h.1;have e1:_=_:=h.2.1;obtain⟨bw,bx,bz,bA,kp,kq,kg⟩:=(aN f a).out;go_simp
        try (first | (intros;omega) | exact oP _ (by omega))
       case o9 =>
        refine Ao rfl fun ρ f a l h => ?_;have e0:_=_:=h.1;have e1:_=_:=h.2.1;obtain⟨bw,bx,bz,bA,kp,kq,kg⟩:=(aN f a).out;go_simp
       case o10 =>
        refine AR rfl ?_;intro ρ f hp a h;have l:=hp.const;have bp:=hp.func;have e0:_=_:=h.1;obtain⟨bw,bx,bz,bA,kp,kq,kg⟩:=(aN f a).out;refine⟨_,_,?_,(Ext.refl f).alloc (.cells (tL X Q W T R V U ax I cx).toArray 103),f.heap.size,rfl,Arr.new f 103 (tL X Q W T R V U ax I cx)⟩;simp[execOp,e0,G4 underlying42 CQ];rfl
       case fin =>
        intro f a;rintro _ ⟨g9,rfl,bS⟩;change wpList _ _ _ _ _ _;simp only[A0];obtain⟨cu,hK,bU,bT⟩:=HO.out;have a8:=aJ.trans a;have aT:=hK.ext a8;have hL:=Cj (k:=5) bS rfl;have bj:=a9.ext a8;have aA:=aT.ne bj (by decide);have bH:=(hE.trans a8).size;have c0:wA.heap.size<=OB:=oS hA.size (oS O.size aP.out)
        go_wp2_with(refine DI rfl rfl underlying42 CQ rfl aT rfl hL (by intro r hr u hu;rw[oZ.1 hr]at hu;exact FM u hu) (by unfold maxLen;omega) (by omega) bH ?_;intro a7 c7 w7 bV aV cn;have au:=bj.kept aV aA;have cw:=au.frozen 1;have cv:w7.cell? ⟨OB,1,none⟩=some (.slice ao k co):=au.cell (i:=1) (by simp[pL]))
        have b9:=TO.grow aT bU (fun j hj=>(bT j hj).ext a8) (⟨X,Q,W,T,R,V,U,ax,I,cx,rfl,bc,bL.out.ext a,bN.out.ext a,bM.out.ext a⟩:TC _ wA.heap.size (tL X Q W T R V U ax I cx) (t.2,q)) (oS hA.size O.size) bV aV;rw[<-bK.out,bd.out]at b9;have bP:Ext w0 w7:=(hE.trans a8).grown aV (fun g hg=>(hK.lt hg).1);have br:=Am w7 OB 1 (.slice a7 (k+1) c7);have bW:Arr (w7.setCell ⟨OB,1,none⟩ (.slice a7 (k+1) c7)) OB 44 (pL I a7 (k+1) c7):=au.set 1 _;have bJ:=b9.keptA au (by decide) (by decide) (by decide) c0 br
        have bQ:=bP.grownR br aP.out
        go_roundg (n-(k+1))
        case rel=>exact⟨k+1,a7,c7,by go_num,by omega,by omega,bQ,bW,qh bJ,ba⟩
        case measure=>omega
open Classical in
noncomputable def rdR (vars:Int) (ts:List Tx):Option (List Pl.Tm):=if ts.length<=4096/\∀ t r,ts=t :: r->A4 t.2=true then rdN vars ts else none
theorem Oe{ts:List Tx}{l:List Pl.Tm}(h:rdN vars ts=some l):l=ts.map rdU:=by
 unfold rdN at h;split at h
 · injection h with h;exact h.symm
 · cases h
theorem RW{ts:List Tx}(h:rdN vars ts=none):rdR vars ts=none:=by
 unfold rdR;rw[h];split <;> rfl
theorem TA{ts:List Tx}{l:List Pl.Tm}(h:rdN vars ts=some l)(h0:l.length=0):rdR vars ts=some l:=by
 have h1:=Oe h;have h2:ts=[]:=by
  rw[h1,iM]at h0;exact oX h0
 unfold rdR;rw[h,pq];exact⟨by rw[h2];exact oY _,fun t r a=>by rw[h2]at a;cases a⟩
theorem RX{ts:List Tx}{l:List Pl.Tm}(h:rdN vars ts=some l)(h0:0<l.length)(c:ts.length<=4096):rdR vars ts=if A4 (l.getD 0 tz).1=true then some l else none:=by
 have h1:=Oe h;subst h1
 match ts,h0,c,h with
 | t :: r,_,c,h =>
 unfold rdR;rw[h];have e:((t :: r).map rdU).getD 0 tz=rdU t:=rfl;rw[e];by_cases a:A4 t.2=true
 · rw[pq (show A4 (rdU t).1=true from a),pq];exact⟨c,fun f d b=>by injection b with h2 h3;rw[<-h2];exact a⟩
 · rw[pf (show ¬ A4 (rdU t).1=true from a),pf];rintro⟨_,b⟩;exact a (b t r rfl)
theorem FN{ts:List Tx}(h:Be wA A n c ts)(hA:Ext wA w)(hs:∀ t∈ts,t.1.length<=10000) :
 Calls prog 25 #[.agg #[.int .i64 vars,.slice A n c]] w (Dp wA.heap.size w vars (rdR vars ts)):=by
 have j:=h.len;by_cases hn:n<=4096
 case neg =>
  have q:Hid (rdR vars ts=none):=qh (by unfold rdR;exact pf (fun hc=>hn (by rw[j]at hc;exact hc.1)))
  go_enter func25,ntmps25
  go_upto_region 1 with(fail)
  refine Ch ?_;intro w0 y k r a3;have I:Arr w0 (w.heap.size+1) 44 (pL 0 none 0 0):=r;have p1:=k.c 1 rfl;have R:(4096:Int)<n:=by omega
  clear k r j
  go_wp2_with(refine Aa (vs:=pL 0 none 0 0) rfl rfl rfl rfl rfl Bj I rfl (Bv _ _ _ _) ?_;intro H f g)
  exact oM (Ar rfl Bj rfl rfl f) rfl (Dp.no q.out (y.grownR g (by omega)))
 have HL:=qh j;clear j
 go_enter func25,ntmps25
 go_upto_region 1 with(fail)
 refine Ch ?_;intro w0 y k r a3;have I:Arr w0 (w.heap.size+1) 44 (pL 0 none 0 0):=r;have p0:=k.c 0 rfl;have p1:=k.c 1 rfl;have R:¬ (4096:Int)<n:=by omega
 have M:=qh (Od (vars:=vars) h (hA.trans y) hs (by omega));obtain⟨o,ho⟩:∃ o,rdN vars ts=o:=⟨_,rfl⟩;rw[ho]at M;have W:=qh ho;clear k r h hs ho
 go_wp2_with fail
 refine M.out.mono ?_;rintro e N ⟨D,p,B,rfl,O,J⟩;have P:=I.ext O;have U:=Arr.new N 44 (pL 0 none 0 0);have G:=y.trans O;clear M p0 p1 R;cases o with
 | none =>
  have q:=qh (RW W.out);simp only[jQ,lT,mI];have K:(pL 0 D p B).toArray=#[.int .i64 0,.slice D p B]:=rfl
  go_upto_region 4 with(refine Aa (vs:=pL 0 D p B) rfl rfl rfl rfl rfl Bj U rfl (Bv _ _ _ _) ?_;intro V v z)
  have d:Ext N V:=((Ext.refl N).alloc _).grownR z (lrf _);have a:=P.ext d;have i:=G.trans d;clear U z K
  go_upto_region 5 with(fail)
  go_wp2_with(have L:=a;clear a;refine Aa (vs:=pL 0 none 0 0) rfl rfl rfl rfl rfl Bj L rfl (Bv _ _ _ _) ?_;intro H f g)
  exact oM (Ar rfl Bj rfl rfl f) rfl (Dp.no q.out (i.grownR g (by omega)))
 | some l =>
  simp only[jD,kJ,pg]at J |-;have K:(pL vars D p B).toArray=#[.int .i64 vars,.slice D p B]:=rfl
  go_upto_region 4 with(refine Aa (vs:=pL vars D p B) rfl rfl rfl rfl rfl Bj U rfl (Bv _ _ _ _) ?_;intro V v z)
  have d:Ext N V:=((Ext.refl N).alloc _).grownR z (lrf _);have a:=P.ext d;have i:=G.trans d;have C:=qh (J.ext d);obtain⟨Y,Q⟩:∃ x,N.heap.size=x:=⟨_,rfl⟩;rw[Q]at v |-;have z0:=v.c 0 rfl;have z1:=v.c 1 rfl;clear U z K v Q J
  have F:Hid (rdR vars ts=some l->∀ H,V.grownBy H (some (w.heap.size+1))->Dp wA.heap.size w vars (rdR vars ts) (.returned (.tuple #[.agg (pL vars D p B).toArray,.bool true])) H):=qh (fun hr H hg=>by
   rw[hr]
   exact⟨D,p,B,rfl,i.grownR hg (by omega),(C.out.keptA a (by decide) (by decide) (by decide) (by have:=hA.size;omega) hg).mono y.size⟩)
  by_cases h0:0<p
  case neg =>
   have Z:¬ (0:Int)<p:=by omega
   have X:=qh (TA W.out (by have:=C.out.sl.len;omega));clear h0
   go_upto_region 6 with(fail)
   go_wp2_with(have L:=a;clear a;refine Aa (vs:=pL vars D p B) rfl rfl rfl rfl rfl Bj L rfl (Bv _ _ _ _) ?_;intro H f g)
   refine oM (Ar rfl Bj rfl rfl f) rfl ?_;exact F.out X.out _ g
  have Z:(0:Int)<p:=by omega
  obtain⟨b,a4,a0,s,a2,n2,c2,b2,m2,d2,e2,k2,f2,-,-,-,-,g4,-,-,-,S⟩:=C.out.sl.at h0;subst a0;have E:=qh (ML S.1);have T:=qh (RX W.out (by have:=C.out.sl.len;omega) (by rw[HL.out];exact hn));rw[pw,gP]at g4;clear S h0;cases m:A4 (l.getD 0 tz).1 with
  | false =>
   have q:Hid (rdR vars ts=none):=by have:=T.out;rw[m]at this;exact qh this
   rw[m]at E;clear m T
   go_wp2_with fail
   refine E.out.mono ?_;rintro e w5 ⟨rfl,rfl⟩
   go_upto_region 5 with(fail)
   go_wp2_with(have L:=a;clear a;refine Aa (vs:=pL 0 none 0 0) rfl rfl rfl rfl rfl Bj L rfl (Bv _ _ _ _) ?_;intro H f g)
   exact oM (Ar rfl Bj rfl rfl f) rfl (Dp.no q.out (i.grownR g (by omega)))
  | true =>
   have X:Hid (rdR vars ts=some l):=by have:=T.out;rw[m]at this;exact qh this
   rw[m]at E;clear m T
   go_wp2_with fail
   refine E.out.mono ?_;rintro e w5 ⟨rfl,rfl⟩
   go_upto_region 6 with(fail)
   go_wp2_with(have L:=a;clear a;refine Aa (vs:=pL vars (some ⟨b,a4,none⟩) p B) rfl rfl rfl rfl rfl Bj L rfl (Bv _ _ _ _) ?_;intro H f g)
   refine oM (Ar rfl Bj rfl rfl f) rfl ?_;exact F.out X.out _ g
theorem BP{ts:List Tx}{l:List Pl.Tm}(h:rdR va ts=some l):l=ts.map rdU/\ts.length<=4096/\0<=va/\va<=6/\okT va ts ts.length:=by
 unfold rdR at h;split at h
 · rename_i h1;have h2:=Oe h;unfold rdN at h;split at h
   · rename_i h3;exact⟨h2,h1.1,h3⟩
   · cases h
 · cases h
theorem Of(va:Int)(ts:List Tx):(rdR va ts).isSome=(rdP va ts).isSome:=by
 unfold rdR rdP rdN rdWF;by_cases h1:ts.length<=4096/\∀ t r,ts=t :: r->A4 t.2=true
 · rw[pq h1,pq h1];by_cases h2:0<=va/\va<=6/\okT va ts ts.length
   · rw[pq h2,pq h2];rfl
   · rw[pf h2,pf h2]
 · rw[pf h1,pf h1]
theorem Ju(va:Int)(ts:List Tx):rdP va ts=(rdR va ts).map A8:=by
 have h:=Of va ts;cases a:rdR va ts with
 | none =>
  rw[a]at h;cases hp:rdP va ts with
  | none=>rfl
  | some l=>rw[hp]at h;cases h
 | some l =>
  rw[a]at h;cases hp:rdP va ts with
  | none=>rw[hp]at h;cases h
  | some l' =>
   rw[(Pg hp).1,(BP a).1];rfl
theorem DU{ts:List Tx}{l:List Pl.Tm}(h:rdR va ts=some l):Pl.Canon va.toNat l:=by
 have h1:rdP va ts=some (A8 l):=by rw[Ju,h];rfl
 have h2:=(Pg h1).2
 rwa[<-(BP h).1]at h2
theorem U5{ts:List Tx}{l:List Pl.Tm}(h:rdR va ts=some l):TB va.toNat l:=fun t a=>by
 have h1:=BP h;refine⟨(DU h).len t a,?_⟩;rw[h1.1]at a;obtain⟨s,c,rfl⟩:=gT.1 a;obtain⟨i,b,rfl⟩:=kI c;have h2:=h1.2.2.2.2.1 i b;rw[gqq,oN b,pg]at h2;intro x d;have:=(C6 h2).2 x d;omega
theorem Og{ts:List Tx}{l:List Pl.Tm}(h:rdR va ts=some l)(e:∀ t∈ts,t.1.length<=k):∀ t∈l,Pl.RB (4*k) t.2:=fun t c=>by
 rw[(BP h).1]at c;obtain⟨s,a,rfl⟩:=gT.1 c;have h1:=BP h;obtain⟨i,b,he⟩:=kI a;have h2:=h1.2.2.2.2.1 i b;rw[gqq,oN b,pg,he]at h2;obtain⟨m,d⟩:=je.1 h2;have h3:=(Bp d).1;have h4:(rdU s).2=m.2:=by unfold rdU;rw[h3];rfl
 rw[h4];refine Rs ?_;rw[<-Du h3];exact e s a
theorem Qq(w:World)(base:Nat)(e:TypeId)(k:Nat)(a:base<=w.heap.size):AP (w.alloc (.cells #[] e)) base e k (some ⟨w.heap.size,0,none⟩) 0 0 []:=by
 have h:=nI (base:=base) (e:=e) (size:=k) w #[] 0 a (oY _) (by simp);exact⟨(fun _ h=>by cases h),h⟩
section
variable {P:Program} {w:World}
theorem Qr 
 (y:P.underlying t=some (.slice e)) (d:BT P e zs k bytes) (f:AP w base e k a n c rows) (p:SlK w k A m cx news)
 (h1:∀ r∈news,∀ u∈r,u.oneCell'=true) (h63:n+m<=maxLen) (j:(n+m)*bytes<=140737488355328) (l:base<=w.heap.size) :
 ∃ s B z,(Builtin.append_ #[t,t] ty #[.slice a n c,.slice A m cx]).run P w = .ok (.slice s (n+m) B) z/\AP z base e k s (n+m) B (rows ++ news) /\
  w.grownBy z (blk a)/\(blk s=blk a\/blk s=some w.heap.size):=by
 cases A with
 | some ad=>exact JY y d f p h1 h63 j l
 | none =>
  obtain⟨i,C,I,x,F⟩:=d.parts;have G:m=0:=by
   rcases oV m with h0|h0
   · exact h0
   · obtain⟨b,o,h,_⟩:=p.rd h0;cases h
  subst G;have H:news=[]:=oX p.len;subst H;refine⟨a,c,w,?_,by simpa using f,mr w _,.inl rfl⟩;rcases f.2.2 with⟨q,rfl⟩|⟨g,D,E,q,_,_,v,_⟩
  · simp only[pk]at q;obtain⟨rfl,_,rfl⟩:=q;simp[Builtin.append_,ip y,sizeOf,typeInfo,C,Builtin.lenOf,Builtin.firstCells]
  · simp only[pk]at q;obtain⟨rfl,_,rfl⟩:=q;simp[Builtin.append_,ip y,sizeOf,typeInfo,C,Builtin.lenOf,Builtin.firstCells,v,storeCells]
theorem RY{x:Operand}(v:o.guard=none)
 (C:o.op = .call { callee := .builtin .append,args:=#[s,x],argTypes:=#[t,t] })
 {e:TypeId} {zs:List Value} {k bytes base:Nat} {a:Option Addr} {n c:Nat} {rows:List (List Value)} {A:Option Addr} {m z:Nat} {news:List (List Value)}
 (E:P.underlying t=some (.slice e)) (g:BT P e zs k bytes) (D:f.eval s = .slice a n c) (j:AP w base e k a n c rows) (F:f.eval x = .slice A m z) (y:SlK w k A m z news)
 (h1:∀ r∈news,∀ u∈r,u.oneCell'=true) (h63:n+m<=maxLen) (b:(n+m)*bytes<=140737488355328) (d:base<=w.heap.size)
 (h:∀ i q p,AP p base e k i (n+m) q (rows ++ news)->w.grownBy p (blk a)->(blk i=blk a\/blk i=some w.heap.size)->wpList P ops Q rest (f.put o.dst (.slice i (n+m) q)) p) :
 wpList P ops Q (o :: rest) f w:=by
 refine iI v fun _ B => ?_;obtain⟨i,q,p,l,h2,h3,h4⟩:=Qr (P:=P) (ty:=o.type) E g j y h1 h63 b d;unfold Oper.wp execOp;simp only[C,resolve,invoke,builtin,gI,gS,p9,jo,iz,jg,D,F,l];exact B _ _ (h i q p h2 h3 h4)
end
theorem TO.app{l b:List Pl.Tm}(d:AP w base 103 5 a n c rows)(m:l.length=n)(p:∀ i,i<n->TC w b0 (rows.getD i []) (l.getD i tz))(g:b.length=n')(r:rows'.length=n')(e:∀ i,i<n'->TC w b0 (rows'.getD i []) (b.getD i tz))(j:b0<=base)(o:AP w' base 103 5 a' (n+n') c' (rows ++ rows'))(k:w.grownBy w' (blk a)):TO w' b0 base a' (n+n') c' (l ++ b):=by
 refine⟨_,o,by simp[m,g],fun i s => ?_⟩;have q:rows.length=n:=d.len (by omega);by_cases f:i<n
 · rw[gqq,gF (by omega),<-gqq,gqq (l:=l ++ b),gF (by omega),<-gqq];exact(p i f).grownO d j k
 · rw[gqq,gN (by omega),<-gqq,gqq (l:=l ++ b),gN (by omega),<-gqq,q,m];exact(e (i-n) (by omega)).grownO d j k
def Kb(w:World)(b0:Nat)(v:Value)(t:Pl.Tm):Prop:=∃ row,v = .agg row.toArray/\TC w b0 row t
theorem Kb.ext{w b:World}{b0:Nat}{v:Value}{t:Pl.Tm}(h:Kb w b0 v t)(e:Ext w b):Kb b b0 v t:=by
 obtain⟨a,h1,h2⟩:=h;exact⟨a,h1,h2.ext e⟩
theorem Kb.x(b0:Nat)(t:Pl.Tm):∀ (v:Value) (w a:World),Ext w a->Kb w b0 v t->Kb a b0 v t:=fun _ _ _ e h=>h.ext e
def LI(w:World)(b0:Nat)(v:Value)(t:Pl.Tm):Prop:=∃ g row,v = .slice (some ⟨g,0,none⟩) 1 1/\Arr w g 103 row/\TC w b0 row t
theorem LI.ext{w b:World}{b0:Nat}{v:Value}{t:Pl.Tm}(h:LI w b0 v t)(e:Ext w b):LI b b0 v t:=by
 obtain⟨g,a,h1,h2,h3⟩:=h;exact⟨g,a,h1,h2.ext e,h3.ext e⟩
theorem LI.x(b0:Nat)(t:Pl.Tm):∀ (v:Value) (w a:World),Ext w a->LI w b0 v t->LI a b0 v t:=fun _ _ _ e h=>h.ext e
theorem TC.five{t:Pl.Tm}(h:TC w b0 row t):row.length=5/\∀ v∈row,v.oneCell'=true:=by
 obtain⟨s,a,n,c,b,m,d,e,k,f,rfl,_⟩:=h;exact⟨rfl,FM⟩
section
variable {P:Program} {ops:Array Oper} {hs:List Hd} {a0:Act} {C:World->Prop} {i:Nat} {o:Oper}
theorem VN{x:Operand}(z:o.guard=none)(p:o.op = .build ty #[(0,x),(1,y)])
 (A:∀ {w:World} {r0 r1 r2 r3:Value} {e:Option Addr} {k f:Nat},(Instr.build ty #[(0,.agg #[r0,r1,r2,r3]),(1,.slice e k f)]).run P w = .ok (.agg #[r0,r1,r2,r3,.slice e k f]) w)
 (h:∀ g w,C9 g->C w->B3 ops hs a0 o g w [x,y]->QV w (g x) q/\∃ e k f,g y = .slice e k f/\XI w b0 e k f xs) :
 obl P C ops hs a0 i o ⟨false,.pr (fun v B=>Kb B b0 v (xs,q)),cons⟩ :=
 AR z fun g w hp t r=>by
  rw[p]at r;obtain⟨⟨s,a,n,c,b,m,d,h1,h2,h3,h4⟩,e,k,f,h5,h6⟩:=h g w hp t r;refine⟨.agg (tL s a n c b m d e k f).toArray,w,?_,Ext.refl w,_,rfl,s,a,n,c,b,m,d,e,k,f,rfl,h2,h3,h4,h6⟩;have l:=A (w:=w) (r0 := .bool s) (r1 := .slice a n c) (r2 := .bool false) (r3 := .slice b m d) (e:=e) (k:=k) (f:=f);have j:g x = .agg #[.bool s,.slice a n c,.bool false,.slice b m d]:=h1;simp only[execOp,p,j,h5,gI,jo,iz,jg,l,p9,gS];rfl
theorem U6{t:Pl.Tm}{x:Operand}(A:o.guard=none)(r:o.op = .buildSlice ty 1 #[(0,x)])
 (D:P.underlying ty=some (.slice 103)) (g:BT P 103 zs 5 bytes)
 (h:∀ j w,C9 j->C w->B3 ops hs a0 o j w [x]->Kb w b0 (j x) t) :
 obl P C ops hs a0 i o ⟨false,.pr (fun v F=>LI F b0 v t),cons⟩ :=
 AR A fun j w hp z y=>by
  rw[r]at y;obtain⟨E,h1,q⟩:=h j w hp z y;have p:=q;obtain⟨s,a,n,c,b,m,d,e,k,f,rfl,h2⟩:=p;have B:=G4 (P:=P) (w:=w) (r0 := .bool s) (r1 := .slice a n c) (r2 := .bool false) (r3 := .slice b m d) (r4 := .slice e k f) D g;have l:j x = .agg #[.bool s,.slice a n c,.bool false,.slice b m d,.slice e k f]:=h1;refine⟨_,_,?_,(Ext.refl w).alloc (.cells (tL s a n c b m d e k f).toArray 103),w.heap.size,_,rfl,Arr.new w 103 (tL s a n c b m d e k f),q.ext ((Ext.refl w).alloc _)⟩
  simp only[execOp,r,l,gI,jo,iz,jg,B,p9,gS];rfl
end
theorem RZ{l:List Pl.Tm}(a:k<l.length):Pl.scl q (l.take k) ++ [((l.getD k tz).1,q*(l.getD k tz).2)]=Pl.scl q (l.take (k+1)):=by
 unfold Pl.scl;rw[oW a,im,gqq,oN a];rfl
theorem Oh{e:Option Addr}{f:Nat}:(Instr.build 103 #[(0,.agg #[r0,r1,r2,r3]),(1,.slice e k f)]).run prog w = .ok (.agg #[r0,r1,r2,r3,.slice e k f]) w:=by
 go_simp
theorem TB.app{a b:List Pl.Tm}(c:TB N a)(d:TB N b):TB N (a ++ b):=fun t e=>(il.1 e).elim (c t) (d t)
theorem TB.scl_{a:List Pl.Tm}(b:TB N a)(q:Rat):TB N (Pl.scl q a):=fun t d=>by
 obtain⟨s,c,rfl⟩:=gT.1 d;exact b s c
theorem R4{l:List Pl.Tm}(d:rows.length=n)(b:∀ i,i<n->TC w b0 (rows.getD i []) (l.getD i tz)):∀ r∈rows,∀ u∈r,u.oneCell'=true:=fun r a=>by
 obtain⟨i,c,rfl⟩:=kI a;have h:=(b i (by omega)).five.2
 rwa[gqq,oN c]at h
theorem Oi(hN:N<=12){va vb:Int}{a b:Option Addr}{n c m d:Nat}{la E:List Pl.Tm}{v:Value}{q:Rat}{w:World}(ha:TSl w b0 a n c la)(hq:QV w v q)(hb:TSl w b0 b m d E)(ba:TB N la)(bb:TB N E)(hw:b0<=w.heap.size)(hn:n<=10000)(hm:m<=10000)(rq:Pl.RB 1000000 q)(rb:∀ t∈E,Pl.RB 1000000 t.2)(hs:Pl.SubOK (la ++ Pl.scl q E)) :
 Calls prog 119 #[.agg (pL va a n c).toArray,v,.agg (pL vb b m d).toArray] w (Uh w b0 va N (la ++ Pl.scl q E)):=by
 have H:=ha.len;have O:=hb.len;obtain⟨sq,xq,P,cq,yq,mq,dq,rfl,aG,b4,b5⟩:=hq
 go_enter func119,ntmps119
 go_upto_region 1 with(fail)
 refine TN ?_;intro K L W F a5 a6 b6;have aW:Arr K (w.heap.size+3) 44 (pL 0 none 0 0):=a6;have p0:=W.c 0 rfl;have p1:=W.c 1 rfl;have u0:=F.c 0 rfl;have u1:=F.c 1 rfl;have u2:=F.c 2 rfl;have u3:=F.c 3 rfl;have v1:=a5.c 1 rfl;clear W F a5 a6 b6;have aX:=ha.ext L;obtain⟨ra,X,_,Y⟩:=aX;have I:ra.length=n:=X.len;have z:=(Ext.refl K).alloc (.cells #[] 103);have M:=Qq K K.heap.size 103 5 (lrf _);have A:=X.ext z;have H1:=R4 I Y;have T:=z.size;have q1:=z.cell p1;have a3:=qh Y;clear Y ha
 go_upto_region 2 with(refine RY rfl rfl underlying42 CQ rfl M rfl A H1 (by unfold maxLen;omega) (by omega) T ?_;intro a7 c7 w7 ab Z aY)
 have a9:Ext K w7:=z.grown Z (fun k hk=>(M.lt hk).1);have V:=TO.app (l:=[]) M rfl (fun i hi=>absurd hi (by omega)) H I (fun i hi=>(a3.out i hi).ext z) (oS hw L.size) ab Z;rw[iA,gL]at V;have HO:=qh V;clear M A H1 ab Z aY z X a3 I T V q1
 try simp only[gL]
 go_wp2
 go_loopw[7,8] (fun lv iv wr=>∃ (k:Nat) (ao:Option Addr) (co:Nat),lv = .slice ao (n+k) co/\iv = .int .i64 k/\k<=m/\Ext K wr/\Hid (TO wr b0 K.heap.size ao (n+k) co (la ++ Pl.scl q (E.take k)))) (fun _ iv _=>m-(intOf iv).toNat)
 case atStart=>exact⟨0,a7,c7,by go_num,by go_num,oY _,a9,by rw[jK];show Hid (TO w7 b0 K.heap.size a7 (n+0) c7 (la ++ []));rw[jp];exact HO⟩
 case round =>
  clear HO a9;obtain⟨k,ao,co,rfl,rfl,hk,J,HO⟩:=hrel;have C:=L.trans J;have b8:=J.cell v1;by_cases D:k<m
  case neg =>
   have az:¬ (k:Int)<m:=by omega
   have aZ:k=m:=by omega
   have hT:TO wr b0 K.heap.size ao (n+k) co (la ++ Pl.scl q E):=by
    have h1:=HO.out;rw[oL (by omega)]at h1;exact h1
   have ak:=qh (Qo (N:=N) (b0:=b0) hN (vars:=va) hT.sl (ba.app (bb.scl_ q)) (oS hw C.size) (by omega) hs);have bf:=J.cell p0;have hR:=aW.ext J;have aC:=qh hw;clear HO hT hs aZ H O ba bb
   go_wp2_with fail
   refine ak.out.mono ?_;rintro e w1 ⟨a1,n1,c1,b7,rfl,z,aU,aj,Q,ae⟩;have ac:=hR.ext z;have HX:=qh Q;have HY:=qh ae;have aF:=qh aj;clear ak Q ae aj hR
   go_wp2_with(refine Aa (vs:=pL va a1 n1 c1) rfl rfl rfl rfl rfl Bj ac rfl (Bv _ _ _ _) ?_;intro w9 aO ah)
   exact oM (Ai rfl Bj rfl aO) rfl ⟨a1,n1,c1,b7,rfl,(C.trans z).grownR ah (by omega),(aU.keptA ac (by decide) (by decide) (by decide) (by have:=aC.out;omega) ah).mono C.size,aF.out,HX.out,HY.out⟩
  have az:(k:Int)<m:=by omega
  have G:k<E.length:=by omega
  obtain⟨s,y,b9,s1,x1,m1,d1,y1,g1,h1,a4,ay,f1,rfl,A,o,a2,ai,af,al⟩:=(hb.ext C).row D;have aJ:wr.cell? ⟨s,y+k*5,none⟩=some (.bool s1):=by have:=A.cl D (j:=0) (by omega);rw[o]at this;exact this
  have aK:wr.cell? ⟨s,y+k*5+1,none⟩=some (.slice x1 m1 d1):=by have:=A.cl D (j:=1) (by omega);rw[o]at this;exact this
  have aL:wr.cell? ⟨s,y+k*5+2,none⟩=some (.bool false):=by have:=A.cl D (j:=2) (by omega);rw[o]at this;exact this
  have aM:wr.cell? ⟨s,y+k*5+3,none⟩=some (.slice y1 g1 h1):=by have:=A.cl D (j:=3) (by omega);rw[o]at this;exact this
  have aN:wr.cell? ⟨s,y+k*5+4,none⟩=some (.slice a4 ay f1):=by have:=A.cl D (j:=4) (by omega);rw[o]at this;exact this
  have aH:=qh (RZ (q:=q) G);have S:E.getD k tz∈E:=gY (getD_some G);have aA:=qh (fun(wy:World) (f:Ext wr wy)=>Gg (v := .agg #[.bool sq,.slice xq P cq,.bool false,.slice yq mq dq]) (p:=q) ⟨sq,xq,P,cq,yq,mq,dq,rfl,aG,(b4.ext C).ext f,(b5.ext C).ext f⟩ (v' := .agg #[.bool s1,.slice x1 m1 d1,.bool false,.slice y1 g1 h1]) (q:=(E.getD k tz).2) ⟨s1,x1,m1,d1,y1,g1,h1,rfl,a2,ai.ext f,af.ext f⟩ rq (rb _ S));have aI:=qh al;have aD:=qh O;have aE:=qh H;generalize E.getD k tz=t at *
  have c0:=J.cell u0;have c1:=J.cell u1;have c2:=J.cell u2;have c3:=J.cell u3;clear A o S ai af al a2 O H G
  go_upto_region 5 with(fail)
  have U:=fun(B:World) (f:Ext wr B)=>qh (And.intro (f.cell c0) (And.intro (f.cell c1) (And.intro (f.cell c2) (And.intro (f.cell c3) (And.intro (f.cell aJ) (And.intro (f.cell aK) (And.intro (f.cell aL) (And.intro (f.cell aM) (And.intro (f.cell aN) (f.cell b8))))))))))
  refine Ac
   [hdS ao (n+k) co,he (.agg #[.bool sq,.slice xq P cq,.bool false,.slice yq mq dq]),hdP (w.heap.size+2) 1,hdS (some ⟨s,y,none⟩) m d,hdI k,hdP s (y+k*5),hdP s (y+k*5),he (.agg #[.bool s1,.slice x1 m1 d1,.bool false,.slice y1 g1 h1]),hp (fun v B=>QV B v (q*t.2)),hdP (w.heap.size+2) 1,hdS (some ⟨s,y,none⟩) m d,hdI k,hdP s (y+k*5),hdP s ((y+k*5)+4),hdS a4 ay f1,hp (fun v B=>Kb B b0 v (t.1,q*t.2)),hp (fun v B=>LI B b0 v (t.1,q*t.2))]
   ⟨fun v w w' e h=>QV.ext h e,Kb.x _ _,LI.x _ _,trivial⟩ ⟨?o0,?o1,?o2,?o3,?o4,?o5,?o6,?o7,?o8,?o9,?o10,?o11,?o12,?o13,?o14,?o15,?o16,trivial⟩ ?fin
  case o0 | o4 | o11=>exact omv
  case o1 | o7=>exact ol4
  case o2 | o9=>exact ofa (d:=1)
  case o3 | o10 | o14=>exact ol
  case o6=>exact ofa (d:=0)
  case o13=>exact ofa (d:=4)
  case o5 =>
   refine Ao rfl fun ρ B f R h => ?_;have e0:_=_:=h.1;have e1:_=_:=h.2.1;obtain⟨am,an,ap,aq,ar,au,av,aw,ax,kv⟩:=(U B f).out;go_simp
   try (first | (intros;omega) | exact oP _ (by omega))
  case o8 =>
   refine Ae rfl fun ρ B f R be h => ?_;have e1:_=_:=h.2.1;have e2:_=_:=h.2.2.1;obtain⟨am,an,ap,aq,ar,au,av,aw,ax,kv⟩:=(U B f).out;refine⟨167,#[.agg #[.bool sq,.slice xq P cq,.bool false,.slice yq mq dq],.agg #[.bool s1,.slice x1 m1 d1,.bool false,.slice y1 g1 h1]],by go_simp,(aA.out B f).mono ?_⟩;rintro e w' ⟨s',a',n',c',b',m',d',rfl,aP,b3,b2,b1⟩;exact⟨_,rfl,aP,s',a',n',c',b',m',d',rfl,b3,b2,b1⟩
  case o12 =>
   refine Ao rfl fun ρ B f R h => ?_;have e0:_=_:=h.1;have e1:_=_:=h.2.1;obtain⟨am,an,ap,aq,ar,au,av,aw,ax,kv⟩:=(U B f).out;go_simp
   try (first | (intros;omega) | exact oP _ (by omega))
  case o15 =>
   refine VN rfl rfl Oh ?_;rintro ρ B hp f ⟨⟨v0,e0,i0⟩,h1,-⟩;exact⟨by rw[e0];exact i0,_,_,_,h1,aI.out.ext f⟩
  case o16 =>
   refine U6 rfl rfl underlying42 CQ ?_;rintro ρ B hp f ⟨⟨v0,e0,i0⟩,-⟩;rw[e0];exact i0
  case fin =>
   intro B f;rintro _ _;rintro _ _;rintro _ ⟨g9,bc,rfl,aR,ad⟩;change wpList _ _ _ _ _ _;simp only[A0];obtain⟨bg,hK,aT,aS⟩:=HO.out;have aa:=hK.ext f;obtain⟨h5,h6⟩:=ad.five;have hL:=Cj (k:=5) aR h5;have aB:=(J.trans f).size
   go_wp2_with(refine DI rfl rfl underlying42 CQ rfl aa rfl hL (by intro r hr u hu;rw[oZ.1 hr]at hu;exact h6 u hu) (by unfold maxLen;omega) (by omega) aB ?_;intro a8 c8 w8 aV ag bd)
   have a0:=TO.grow aa aT (fun j hj=>(aS j hj).ext f) ad (oS hw L.size) aV ag;rw[ia,aH.out]at a0;have aQ:Ext K w8:=(J.trans f).grown ag (fun g hg=>(hK.lt hg).1);have O:=aD.out;have H:=aE.out;go_roundw
   case rel=>exact⟨k+1,a8,c8,by go_num,by go_num,by omega,aQ,qh a0⟩
   case measure=>simp[intOf];omega
def TBb(B:Int)(N:Nat)(l:List Pl.Tm):Prop:=∀ t∈l,t.1.length=N/\∀ x∈t.1,0<=x/\x<=B
theorem TBb.tb{l:List Pl.Tm}(h:TBb B N l)(c:B<=1099511627776):TB N l:=fun t a=>by
 obtain⟨h1,h2⟩:=h t a;exact⟨h1,fun x b=>by have:=h2 x b;omega⟩
theorem TG{ts:List Tx}{l:List Pl.Tm}(h:rdR va ts=some l):TBb 1048576 va.toNat l:=fun t a=>by
 have h1:=BP h;refine⟨(DU h).len t a,?_⟩;rw[h1.1]at a;obtain⟨s,c,rfl⟩:=gT.1 a;obtain⟨i,b,rfl⟩:=kI c;have h2:=h1.2.2.2.2.1 i b;rw[gqq,oN b,pg]at h2;exact(C6 h2).2
end Go.Proofs.YtlbmnokpiilfpaaGreatDoor
