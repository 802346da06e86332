/- Part Pq29. -/
import Derived.Test.YtlbmnokpiilfpaaGreatDoorPq28
import Derived.Deep.CutBlock
import Derived.Deep.LoopGhost
set_option linter.all false
set_option maxRecDepth 100000
set_option maxHeartbeats 100000000
namespace Go.Proofs.YtlbmnokpiilfpaaGreatDoor
open Tryz Go Go.RowKit
variable {s:ByteArray} {z:Int} {rows:List (List Value)} {ps:List Nat} {d l r:List UInt8} {cs xs ys zs:List Value} {N T b0 base base' bytes c g k n v x:Nat} {a a':Option Addr} {row:Option Nat} {P:Program} {q:Rat} {e e' t:TypeId} {w w':World}
def pL(v:Int)(a:Option Addr)(n c:Nat):List Value:=[.int .i64 v,.slice a n c]
theorem AT(v:Int)(a:Option Addr)(n c:Nat):∀ x∈pL v a n c,x.oneCell'=true:=by
 intro x b;simp only[pL,iE,kC,mU]at b;rcases b with rfl|rfl <;> rfl
def OM(w:World)(b0:Nat)(vars:Int)(N:Nat)(l:List Pl.Tm)(e:Ending)(w':World):Prop:=∃ a n c out,e = .returned (.agg (pL vars a n c).toArray)/\Ext w w'/\TO w' b0 w.heap.size a n c out/\n<=l.length/\Pl.Canon N out/\∀ x,Pl.coef out x=Pl.coef l x
theorem TO.keptA{l:List Pl.Tm}(h:TO w b0 base a n c l)(d:Arr w g t cs)(h1:103≠t)(h2:3≠t)(h3:241≠t)(m:b0<=g)(f:w.grownBy w' (some g)):TO w' b0 base a n c l:=by
 obtain⟨b,j,p,r⟩:=h;refine⟨b,j.kept f ?_,p,fun i o=>(r i o).kept d h2 h3 m f⟩;cases e:blk a with
 | none=>exact .inl rfl
 | some q =>
  refine .inr fun he => ?_;obtain⟨k,s,h4⟩:=j.ty e;injection he with he;subst he;unfold Arr at d;rw[d]at h4;simp only[gK,kz]at h4;exact h1 h4.2.1.symm
theorem AR.ne(h:AR w base e k a n c rows)(b:Arr w g t cs)(f:e≠t):some g≠blk a:=fun he=>by
 obtain⟨d,i,h4⟩:=h.ty he.symm;unfold Arr at b;rw[b]at h4;simp only[gK,kz]at h4;exact f h4.2.1.symm
theorem EK{r0 r1 r2 r3 r4:Value}(j:P.underlying t=some (.slice e))(a:BV P e zs 5 bytes) :
 (Instr.buildSlice t 1 #[(0,.agg #[r0,r1,r2,r3,r4])]).run P w = .ok (.slice (some ⟨w.heap.size,0,none⟩) 1 1) (w.alloc (.cells #[r0,r1,r2,r3,r4] e)):=by
 obtain⟨i,f,c,b,d⟩:=a.parts;have g:=a.2.1
 match zs,g,c with
 | [z0,z1,z2,z3,z4],_,c =>
 simp[Instr.buildSlice,j4 j,sizeOf,typeInfo,f,b,Instr.fill,zeroValue,c,newRow,Value.cells,show Array.range 5=#[0,1,2,3,4] by decide]
theorem IR(h:q≠0):q.num.sign≠0:=fun h1=>h (Rat.num_eq_zero.1 (Int.sign_eq_zero_iff_zero.1 h1))
theorem EL(hN:N<=12){vars:Int}{a:Option Addr}{n c:Nat}{l:List Pl.Tm}{w:World}(h:TSl w b0 a n c l)(hb:TB N l)(hw:b0<=w.heap.size)(hn:n<=100000)(hs:Pl.SubOK l) :
 Calls prog 74 #[.int .i64 vars,.slice a n c] w (OM w b0 vars N l):=by
 have bo:=h.len
 go_enter func74,ntmps74
 go_upto_region 1 with(fail)
 refine AP ?_;intro w0 ap b8 cw;have br:=qh (Nf hN n (h.ext ap) hb (gJ hw ap.size) hn);have be:Arr w0 w.heap.size 44 (pL 0 none 0 0):=b8;clear b8 cw h
 go_wp2_with fail
 refine br.out.mono ?_;rintro e w1 ⟨a1,z,S,G,rfl,aI,t1,p1,d1⟩;have a5:=hb.perm p1;have bq:=hs.perm p1;have aU:=ap.trans aI;have bf:=be.ext aI;have cU:z<=100000:=by
  have Z:z=n:=by rw[<-t1.len,p1.length_eq,bo]
  omega
 have HG:Hid (Pl.Canon N (Pl.grp G)/\∀ x,Pl.coef (Pl.grp G) x=Pl.coef l x):=qh (Pl.grp_sum (fun t ht=>(hb t ht).1) p1 d1);have aR:=gJ hw aU.size;have b1:Hid (w.heap.size<w1.heap.size):=qh bf.lt;have bI:Hid (z=l.length):=by show z=l.length;rw[<-t1.len,p1.length_eq]
 clear br hb hs bo p1 d1 ap aI be hn;have hY:=Arr.new w1 44 (pL 0 none 0 0)
 go_upto_region 3 with(refine Aa (vs:=pL vars none 0 0) rfl rfl rfl rfl rfl AJ hY rfl (AT _ _ _ _) ?_;intro w2 au bk)
 have bb:Ext w1 w2:=((Ext.refl w1).alloc _).grownR bk (lrf _);have ay:Hid (TO w2 b0 w1.heap.size none 0 0 []):=qh (TO.nil _ _ _);have al:Hid (Pl.SS G [] 0):=qh (Pl.SS.start G);clear hY bk;obtain⟨PB,ag⟩:∃ PB,w1.heap.size=PB:=⟨_,rfl⟩;rw[ag]at au ay b1;simp only[ag];have aA:=qh ag;rw[ag]at aR;clear ag;go_wp2
 go_loopg [7] z (fun gk iv wr=>∃ (i:Nat) (ao:Option Addr) (Y co:Nat) (H:List Pl.Tm),iv = .int .i64 i/\i<=z/\z<=i+gk/\Y<=i/\Ext w1 wr/\Arr wr PB 44 (pL vars ao Y co)/\Hid (TO wr b0 PB ao Y co H)/\Hid (Pl.SS G H i))
 case atStart=>exact⟨0,none,0,0,[],rfl,gO _,by omega,lrf _,bb,au,ay,al⟩
 case round =>
  clear ay al au bb;obtain⟨i,ao,Y,co,H,rfl,cT,cS,cV,hE,ar,HO,HS⟩:=hrel;by_cases hi:i<z
  case neg =>
   have cf:¬ (i:Int)<z:=by omega
   have bn:H=Pl.grp G:=by
    have h1:=HS.out;rw[show i=G.length by rw[t1.len];omega]at h1;exact h1.done
   have z0:=ar.c 0 rfl;have z1:=ar.c 1 rfl;have bg:=bf.ext hE;have HX:Hid (Pl.Canon N H/\∀ x,Pl.coef H x=Pl.coef l x):=by rw[bn];exact HG
   clear bn HG HS ar
   go_wp2_with(refine Aa (vs:=pL vars ao Y co) rfl rfl rfl rfl rfl AJ bg rfl (AT _ _ _ _) ?_;intro w9 bW ab)
   have cb:=(HO.out.keptA bg (by decide) (by decide) (by decide) hw ab).mono (ko b1.out);exact gF (Ap rfl AJ rfl bW) rfl ⟨ao,Y,co,H,rfl,(aU.trans hE).grownR ab (lrf _),cb,by have:=bI.out;omega,HX.out.1,HX.out.2⟩
  have cf:(i:Int)<z:=by omega
  have ak:i<G.length:=by rw[t1.len];exact hi
  obtain⟨f,m,cL,s1,x1,m1,d1,y1,g1,h1,A,cx,T,rfl,a6,E,aZ,bp,bj,aS⟩:=(t1.ext hE).row hi;have bA:N=cx:=by have q1:=aS.1.len;have q2:=(a5.get (i:=i) ak).1;omega
  subst bA;have bS:wr.cell? ⟨f,m+i*5,none⟩=some (.bool s1):=by have:=a6.cl hi (j:=0) (by omega);rw[E]at this;exact this
  have bT:wr.cell? ⟨f,m+i*5+1,none⟩=some (.slice x1 m1 d1):=by have:=a6.cl hi (j:=1) (by omega);rw[E]at this;exact this
  have bU:wr.cell? ⟨f,m+i*5+2,none⟩=some (.bool false):=by have:=a6.cl hi (j:=2) (by omega);rw[E]at this;exact this
  have bV:wr.cell? ⟨f,m+i*5+3,none⟩=some (.slice y1 g1 h1):=by have:=a6.cl hi (j:=3) (by omega);rw[E]at this;exact this
  have b2:wr.cell? ⟨f,m+i*5+4,none⟩=some (.slice A N T):=by have:=a6.cl hi (j:=4) (by omega);rw[E]at this;exact this
  have bh:=Arr.new wr 99 (Al false none 0 0 false none 0 0);have ax:Hid (Pl.SI G i (i+1) (G.getD i tz) (G.getD i tz).2):=qh (Pl.SI.start (getD_some ak));clear a6 E
  go_upto_region 6 with(refine Aa (vs:=Al s1 x1 m1 d1 false y1 g1 h1) rfl rfl rfl rfl rfl By bh rfl (Aq _ _ _ _ _ _ _ _) ?_;intro wa an bl)
  have ad:Ext wr wa:=((Ext.refl wr).alloc _).grownR bl (lrf _);have aB:Hid (QV wa (.agg (Al s1 x1 m1 d1 false y1 g1 h1).toArray) (G.getD i tz).2):=qh ⟨s1,x1,m1,d1,y1,g1,h1,rfl,aZ,bp.ext ad,bj.ext ad⟩;have bG:Hid (w1.heap.size<=wr.heap.size):=qh hE.size;obtain⟨CB,am⟩:∃ CB,wr.heap.size=CB:=⟨_,rfl⟩;simp only[am]at an bG;simp only[am];have cN:Hid (CB<=CB):=qh (lrf _);have bF:Hid (wr.heap.size<=CB):=qh (Nat.le_of_eq am);clear bh bl aZ bp bj am bS bT bU bV;have bz:i+1<=z:=hi
  go_upto_block 2 with(fail)
  go_cut [9] from 25 to 54 (fun kv o=>∃ (k:Nat) (W:Rat) (M:Bool) (O:Option Addr) (L I:Nat) (P:Option Addr) (J K:Nat),kv = .int .i64 k/\k<=z/\i<k/\Ext wr o/\Arr o CB 99 (Al M O L I false P J K)/\Hid (QV o (.agg (Al M O L I false P J K).toArray) W)/\Hid (Pl.SS G (if W=0 then H else H ++ [((G.getD i tz).1,W)]) k))
  case first =>
   go_wp2_with fail
   go_loopw[9] (fun kv o=>∃ (k:Nat) (W:Rat) (M:Bool) (O:Option Addr) (L I:Nat) (P:Option Addr) (J K:Nat),kv = .int .i64 k/\k<=z/\i<k/\Ext wr o/\Arr o CB 99 (Al M O L I false P J K)/\Hid (QV o (.agg (Al M O L I false P J K).toArray) W)/\Hid (Pl.SI G i k (G.getD i tz) W)) (fun kv _=>z-(intOf kv).toNat)
   case atStart=>exact⟨i+1,_,s1,x1,m1,d1,y1,g1,h1,by go_num,bz,Nat.lt_succ_self _,ad,an,aB,ax⟩
   case round =>
    clear ad an aB ax;obtain⟨k,W,M,O,L,I,P,J,K,rfl,ah,aP,D,B,HV,HI⟩:=hrel;have ae:=hE.trans D;have gi:=D.cell b2;by_cases hk:k<z
    case neg =>
     have cg:¬ (k:Int)<z:=by omega
     go_upto_region 7 with(fail)
     go_quiet (fail)
     have b:Ext wr (wr.drewN nq):=(Qt.drewN (Qt.refl wr) nq).ext;generalize wr.drewN nq=o at *
     have R:=qh (HI.out.stop HS.out (fun y hy=>by rw[ig (by rw[t1.len];omega)]at hy;cases hy));have aJ:=D.trans b;have aG:=B.ext b;have aC:=qh (HV.out.ext b);clear HV HI D B b gi ae
     go_wp2_with fail
     go_meet
     exact⟨k,W,M,O,L,I,P,J,K,rfl,ah,aP,aJ,aG,aC,R⟩
    have cg:(k:Int)<z:=by omega
    have Q:k<G.length:=by rw[t1.len];exact hk
    obtain⟨cQ,cX,cM,s2,x2,m2,d2,y2,g2,h2,X,cy,f2,bi,a8,F,al,ci,cd,bs⟩:=(t1.ext ae).row hk;simp only[gK,iV,jp]at bi;obtain⟨rfl,rfl⟩:=bi;have bB:N=cy:=by have q1:=bs.1.len;have q2:=(a5.get (i:=k) Q).1;omega
    subst bB;have b4:wr.cell? ⟨f,m+k*5,none⟩=some (.bool s2):=by have:=a8.cl hk (j:=0) (by omega);rw[F]at this;exact this
    have b5:wr.cell? ⟨f,m+k*5+1,none⟩=some (.slice x2 m2 d2):=by have:=a8.cl hk (j:=1) (by omega);rw[F]at this;exact this
    have b6:wr.cell? ⟨f,m+k*5+2,none⟩=some (.bool false):=by have:=a8.cl hk (j:=2) (by omega);rw[F]at this;exact this
    have b7:wr.cell? ⟨f,m+k*5+3,none⟩=some (.slice y2 g2 h2):=by have:=a8.cl hk (j:=3) (by omega);rw[F]at this;exact this
    have aF:wr.cell? ⟨f,m+k*5+4,none⟩=some (.slice X N f2):=by have:=a8.cl hk (j:=4) (by omega);rw[F]at this;exact this
    have aw:=qh (fun(wy:World) (b:Ext wr wy)=>FN ((aS.ext D).1.ext b) (bs.1.ext b) hN (a5.get (i:=i) ak).2 (a5.get (i:=k) Q).2);obtain⟨r,hr⟩:∃ r,Pl.ordE (G.getD i tz).1 (G.getD k tz).1=r:=⟨_,rfl⟩;have HR:=qh hr;rw[hr]at aw;clear hr a8 F;by_cases ai:r=0
    · have bC:(r == 0)=true:=by simp[ai]
      go_upto_region 7 with(fail)
      have U:=fun(o:World) (b:Ext wr o)=>qh (And.intro (b.cell gi) (b.cell aF))
      refine Ab (by kernel_rfl) (fun o=>Ext wr o)
       [he (.int .i64 (k:Int)),
 he (.slice (some ⟨f,m,none⟩) z S),
 he (.int .i64 z),
 he (.bool true),
 he (.bool true),
 he (.slice (some ⟨f,m,none⟩) z S),
 he (.int .i64 (i:Int)),
 he (.pointer (some ⟨f,(m+i*5),none⟩)),
 he (.pointer (some ⟨f,((m+i*5)+4),none⟩)),
 he (.slice A N T),
 he (.slice (some ⟨f,m,none⟩) z S),
 he (.int .i64 (k:Int)),
 he (.pointer (some ⟨f,(m+k*5),none⟩)),
 he (.pointer (some ⟨f,((m+k*5)+4),none⟩)),
 he (.slice X N f2),
 hp (fun v o=>v = .int .i64 r),
 he (.bool true),
 he (.bool true)]
       (by kernel_rfl) (fun _ _ e h=>h.trans e) ((Ext.refl wr).drew) ⟨trivial,trivial,trivial,trivial,trivial,trivial,trivial,trivial,trivial,trivial,trivial,trivial,trivial,trivial,trivial,fun v w w' e h=>h,trivial,trivial,trivial⟩ ⟨?o0,?o1,?o2,?o3,?o4,?o5,?o6,?o7,?o8,?o9,?o10,?o11,?o12,?o13,?o14,?o15,?o16,?o17,trivial⟩ ?fin
      case o0 | o1 | o4 | o5 | o6 | o10 | o11=>exact omv
      case o8 | o13=>exact ofa (d:=4)
      case o9 | o14=>exact ol
      case o2 =>
       refine Aj rfl fun s o b p h => ?_;have e0:s (.tmp 26)=(.slice (some ⟨f,m,none⟩) z S):=h.1;obtain⟨kx,ky⟩:=(U o b).out;go_simp
      case o3 =>
       refine Aj rfl fun s o b p h => ?_;have e0:s (.tmp 25)=(.int .i64 (k:Int)):=h.1;have Z:s (.tmp 27)=(.int .i64 z):=h.2.1;obtain⟨kx,ky⟩:=(U o b).out;go_simp
       try (first | (intros;omega) | exact gI _ (by omega))
      case o7 =>
       refine Aj rfl fun s o b p h => ?_;have e0:s (.tmp 30)=(.slice (some ⟨f,m,none⟩) z S):=h.1;have Z:s (.tmp 31)=(.int .i64 (i:Int)):=h.2.1;obtain⟨kx,ky⟩:=(U o b).out;go_simp
       try (first | (intros;omega) | exact gI _ (by omega))
      case o12 =>
       refine Aj rfl fun s o b p h => ?_;have e0:s (.tmp 35)=(.slice (some ⟨f,m,none⟩) z S):=h.1;have Z:s (.tmp 36)=(.int .i64 (k:Int)):=h.2.1;obtain⟨kx,ky⟩:=(U o b).out;go_simp
       try (first | (intros;omega) | exact gI _ (by omega))
      case o15 =>
       refine Ag rfl fun s o b p aN h => ?_;have Z:s (.tmp 34)=(.slice A N T):=h.2.1;have e2:s (.tmp 39)=(.slice X N f2):=h.2.2.1;obtain⟨kx,ky⟩:=(U o b).out;refine⟨154,#[.slice A N T,.slice X N f2],by go_simp,(aw.out o b).mono ?_⟩;rintro e w' ⟨rfl,aM⟩;exact⟨_,rfl,aM.ext,rfl⟩
      case o16 =>
       refine Aj rfl fun s o b p h => ?_;obtain⟨v0,e0,rfl⟩:=h.1;obtain⟨kx,ky⟩:=(U o b).out;go_simp
       try (first | (intros;omega) | exact gI _ (by omega))
      case o17 =>
       refine Aj rfl fun s o b p h => ?_;have e0:s (.tmp 29)=(.bool true):=h.1;have Z:s (.tmp 41)=(.bool true):=h.2.1;obtain⟨kx,ky⟩:=(U o b).out;go_simp
      case fin =>
       intro o b;rintro _ rfl;change wpList _ _ _ _ _ _;simp only[lq,lw,lx,lz,Act.put,lj,lk,ly];generalize ct:o=wz at *
       clear ct;have ac:=b;have a0:=B.c 0 rfl;have a2:=B.c 1 rfl;have a3:=B.c 2 rfl;have a4:=B.c 3 rfl;have he:(G.getD i tz).1=(G.getD k tz).1:=Pl.ordE_eq (by rw[(a5.get (i:=i) ak).1,(a5.get (i:=k) Q).1]) (by rw[HR.out];exact ai);have bH:=qh (HI.out.step (getD_some Q) he);have aV:=HI.out.rb bq;have aW:=bq.one (im (getD_some Q))
       have bx:=qh (fun(wy:World) (b:Ext wz wy)=>Ud (HV.out.ext (ac.trans b)) (v' := .agg #[.bool s2,.slice x2 m2 d2,.bool false,.slice y2 g2 h2]) (q:=(G.getD k tz).2) ⟨s2,x2,m2,d2,y2,g2,h2,rfl,al,ci.ext (ac.trans b),cd.ext (ac.trans b)⟩ aV aW);have q0:=b.cell a0;have q1:=b.cell a2;have q2:=b.cell a3;have q3:=b.cell a4;have r0:=b.cell b4;have r1:=b.cell b5;have r2:=b.cell b6;have r3:=b.cell b7;have ba:=B.ext b;have af:=D.trans b;clear aV aW a0 a2 a3 a4 b4 b5 b6 b7 aF gi he ai
       go_upto_region 8 with(fail)
       have aY:=fun(o:World) (b:Ext wz o)=>qh (And.intro (b.cell q0) (And.intro (b.cell q1) (And.intro (b.cell q2) (And.intro (b.cell q3) (And.intro (b.cell r0) (And.intro (b.cell r1) (And.intro (b.cell r2) (b.cell r3))))))))
       refine Ab (by kernel_rfl) (fun o=>Ext wz o)
        [he (.agg #[.bool M,.slice O L I,.bool false,.slice P J K]),
         he (.slice (some ⟨f,m,none⟩) z S),
         he (.int .i64 (k:Int)),
         he (.pointer (some ⟨f,(m+k*5),none⟩)),
         he (.pointer (some ⟨f,(m+k*5),none⟩)),
         he (.agg #[.bool s2,.slice x2 m2 d2,.bool false,.slice y2 g2 h2]),
         hp (fun v o=>QV o v (W+(G.getD k tz).2))]
        (by kernel_rfl) (fun _ _ e h=>h.trans e) ((Ext.refl wz).drew) ⟨trivial,trivial,trivial,trivial,trivial,trivial,fun v w w' e h=>QV.ext h e,trivial⟩ ⟨?o0,?o1,?o2,?o3,?o4,?o5,?o6,trivial⟩ ?fin
       case o0 | o5=>exact ol4
       case o1 | o2=>exact omv
       case o4=>exact ofa (d:=0)
       case o3 =>
        refine Aj rfl fun s o b p h => ?_;have e0:s (.tmp 44)=(.slice (some ⟨f,m,none⟩) z S):=h.1;have Z:s (.tmp 45)=(.int .i64 (k:Int)):=h.2.1;obtain⟨cz,cA,cB,cC,cD,cE,cF,cG⟩:=(aY o b).out;go_simp
        try (first | (intros;omega) | exact gI _ (by omega))
       case o6 =>
        refine Ag rfl fun s o b p aN h => ?_;have Z:s (.tmp 43)=(.agg #[.bool M,.slice O L I,.bool false,.slice P J K]):=h.2.1;have e2:s (.tmp 48)=(.agg #[.bool s2,.slice x2 m2 d2,.bool false,.slice y2 g2 h2]):=h.2.2.1;obtain⟨cz,cA,cB,cC,cD,cE,cF,cG⟩:=(aY o b).out;refine⟨155,#[.agg #[.bool M,.slice O L I,.bool false,.slice P J K],.agg #[.bool s2,.slice x2 m2 d2,.bool false,.slice y2 g2 h2]],by go_simp,(bx.out o b).mono ?_⟩;rintro e w' ⟨s',a',n',c',b',m',d',rfl,bY,cn,ck,ch⟩;exact⟨_,rfl,bY,s',a',n',c',b',m',d',rfl,cn,ck,ch⟩
       case fin =>
        intro o b;rintro _ ⟨s9,a9,n9,c9,b9,m9,d9,rfl,bN,cu,cv⟩;change wpList _ _ _ _ _ _;simp only[lq,lw,lx,lz,Act.put,lj,lk,ly];have aH:=ba.ext b;have c2:=af.trans b
        go_wp2_with(refine Aa (vs:=Al s9 a9 n9 c9 false b9 m9 d9) rfl rfl rfl rfl rfl By aH rfl (Aq _ _ _ _ _ _ _ _) ?_;intro w9 bX ab)
        have bD:=cu.keptA aH (by decide) ab;have bE:=cv.keptA aH (by decide) ab;go_roundw
        case rel=>exact⟨k+1,_,s9,a9,n9,c9,b9,m9,d9,by go_num,by omega,by omega,c2.grownR ab bF.out,bX,qh ⟨s9,a9,n9,c9,b9,m9,d9,rfl,bN,bD,bE⟩,bH⟩
        case measure=>simp[intOf];omega
    · have bC:(r == 0)=false:=by simpa using ai
      go_upto_region 7 with(fail)
      have V:=fun(o:World) (b:Ext wr o)=>qh (And.intro (b.cell gi) (b.cell aF))
      refine Ab (by kernel_rfl) (fun o=>Ext wr o)
       [he (.int .i64 (k:Int)),
 he (.slice (some ⟨f,m,none⟩) z S),
 he (.int .i64 z),
 he (.bool true),
 he (.bool true),
 he (.slice (some ⟨f,m,none⟩) z S),
 he (.int .i64 (i:Int)),
 he (.pointer (some ⟨f,(m+i*5),none⟩)),
 he (.pointer (some ⟨f,((m+i*5)+4),none⟩)),
 he (.slice A N T),
 he (.slice (some ⟨f,m,none⟩) z S),
 he (.int .i64 (k:Int)),
 he (.pointer (some ⟨f,(m+k*5),none⟩)),
 he (.pointer (some ⟨f,((m+k*5)+4),none⟩)),
 he (.slice X N f2),
 hp (fun v o=>v = .int .i64 r),
 he (.bool false),
 he (.bool false)]
       (by kernel_rfl) (fun _ _ e h=>h.trans e) ((Ext.refl wr).drew) ⟨trivial,trivial,trivial,trivial,trivial,trivial,trivial,trivial,trivial,trivial,trivial,trivial,trivial,trivial,trivial,fun v w w' e h=>h,trivial,trivial,trivial⟩ ⟨?o0,?o1,?o2,?o3,?o4,?o5,?o6,?o7,?o8,?o9,?o10,?o11,?o12,?o13,?o14,?o15,?o16,?o17,trivial⟩ ?fin
      case o0 | o1 | o4 | o5 | o6 | o10 | o11=>exact omv
      case o8 | o13=>exact ofa (d:=4)
      case o9 | o14=>exact ol
      case o2 =>
       refine Aj rfl fun s o b p h => ?_;have e0:s (.tmp 26)=(.slice (some ⟨f,m,none⟩) z S):=h.1;obtain⟨kx,ky⟩:=(V o b).out;go_simp
      case o3 =>
       refine Aj rfl fun s o b p h => ?_;have e0:s (.tmp 25)=(.int .i64 (k:Int)):=h.1;have Z:s (.tmp 27)=(.int .i64 z):=h.2.1;obtain⟨kx,ky⟩:=(V o b).out;go_simp
       try (first | (intros;omega) | exact gI _ (by omega))
      case o7 =>
       refine Aj rfl fun s o b p h => ?_;have e0:s (.tmp 30)=(.slice (some ⟨f,m,none⟩) z S):=h.1;have Z:s (.tmp 31)=(.int .i64 (i:Int)):=h.2.1;obtain⟨kx,ky⟩:=(V o b).out;go_simp
       try (first | (intros;omega) | exact gI _ (by omega))
      case o12 =>
       refine Aj rfl fun s o b p h => ?_;have e0:s (.tmp 35)=(.slice (some ⟨f,m,none⟩) z S):=h.1;have Z:s (.tmp 36)=(.int .i64 (k:Int)):=h.2.1;obtain⟨kx,ky⟩:=(V o b).out;go_simp
       try (first | (intros;omega) | exact gI _ (by omega))
      case o15 =>
       refine Ag rfl fun s o b p aN h => ?_;have Z:s (.tmp 34)=(.slice A N T):=h.2.1;have e2:s (.tmp 39)=(.slice X N f2):=h.2.2.1;obtain⟨kx,ky⟩:=(V o b).out;refine⟨154,#[.slice A N T,.slice X N f2],by go_simp,(aw.out o b).mono ?_⟩;rintro e w' ⟨rfl,aM⟩;exact⟨_,rfl,aM.ext,rfl⟩
      case o16 =>
       refine Aj rfl fun s o b p h => ?_;obtain⟨v0,e0,rfl⟩:=h.1;obtain⟨kx,ky⟩:=(V o b).out;go_simp
       try (first | (intros;omega) | exact gI _ (by omega))
      case o17 =>
       refine Aj rfl fun s o b p h => ?_;have e0:s (.tmp 29)=(.bool true):=h.1;have Z:s (.tmp 41)=(.bool false):=h.2.1;obtain⟨kx,ky⟩:=(V o b).out;go_simp
      case fin =>
       intro o b;rintro _ rfl;change wpList _ _ _ _ _ _;simp only[lq,lw,lx,lz,Act.put,lj,lk,ly];have R:=qh (HI.out.stop HS.out (fun y hy he=>by rw[getD_some Q]at hy;rw[<-lZ hy]at he;rw[he,Pl.ordE_self]at HR;exact ai HR.out.symm));have aJ:=D.trans b;have aG:=B.ext b;have aC:=qh (HV.out.ext b);clear HV HI D B b gi ae
       go_wp2_with fail
       go_meet
       exact⟨k,W,M,O,L,I,P,J,K,rfl,ah,aP,aJ,aG,aC,R⟩
  case rest =>
   clear ad an aB ax;obtain⟨k,W,M,O,L,I,P,J,K,rfl,ah,aP,D,B,HV,R⟩:=hcut;have ae:=hE.trans D;have gi:=D.cell b2;have ca:=ar.ext D;have bL:=qh (HO.out.ext D);have a0:=B.c 0 rfl;have a2:=B.c 1 rfl;have a3:=B.c 2 rfl;have a4:=B.c 3 rfl;have b:=Ext.refl wc;have ac:=b;have af:=ae.trans b;have aL:=ca.ext b;have az:=qh (bL.out.ext b);have ba:=B.ext b;have aD:=qh (HV.out.ext b);have q0:=b.cell a0;have q1:=b.cell a2;have q2:=b.cell a3;have q3:=b.cell a4;have b3:=b.cell gi;obtain⟨sg,aj⟩:∃ sg,W.num.sign=sg:=⟨_,rfl⟩
   have aT:=qh (Md aD.out aj);by_cases aa:W=0
   · have cp:sg=0:=by rw[<-aj,aa];rfl
     have HN:Hid (Pl.SS G H k):=by have:=R.out;rw[gY aa]at this;exact qh this
     subst cp;clear aj aa R a0 a2 a3 a4 gi
     go_wp2_with fail
     refine aT.out.mono ?_;rintro e w5 ⟨rfl,C⟩;have av:Y<=k:=by omega
     go_wp2
     go_roundg (z-k)
     case rel=>exact⟨k,ao,Y,co,H,rfl,ah,by omega,av,af.trans C,aL.ext C,qh (az.out.ext C),HN⟩
     case measure=>omega
   · have cr:¬ sg=0:=by rw[<-aj];exact IR aa
     have cW:((sg:Int) == 0)=false:=by simpa using cr
     have HN:Hid (Pl.SS G (H ++ [((G.getD i tz).1,W)]) k):=by have:=R.out;rw[gT aa]at this;exact qh this
     clear aj aa R a0 a2 a3 a4 gi
     go_wp2_with fail
     refine aT.out.mono ?_;rintro e w5 ⟨rfl,C⟩;have bc:=aL.ext C;have bM:=qh (az.out.ext C);have bP:=qh (aD.out.ext C);have u0:=C.cell q0;have u1:=C.cell q1;have u2:=C.cell q2;have u3:=C.cell q3;have aE:=C.cell b3;have pp:=bc.c 1 rfl;clear q0 q1 q2 q3 b3 aL az aD
     go_upto_region 11 with(fail)
     refine Ab (by kernel_rfl) (fun wc=>Ext w5 wc)
      [he (.pointer (some ⟨PB,1,none⟩)),
 he (.slice ao Y co),
 he (.agg #[.bool M,.slice O L I,.bool false,.slice P J K]),
 he (.slice (some ⟨f,m,none⟩) z S),
 he (.int .i64 (i:Int)),
 he (.pointer (some ⟨f,(m+i*5),none⟩)),
 he (.pointer (some ⟨f,((m+i*5)+4),none⟩)),
 he (.slice A N T),
 he (.agg #[.bool M,.slice O L I,.bool false,.slice P J K,.slice A N T]),
 hp (fun v wc=>∃ g,v = .slice (some ⟨g,0,none⟩) 1 1/\Arr wc g 103 (tL M O L I P J K A N T))]
      (by kernel_rfl) (fun _ _ e h=>h.trans e) ((Ext.refl w5).drew) ⟨trivial,trivial,trivial,trivial,trivial,trivial,trivial,trivial,trivial,fun v w w' e ⟨g,h1,h2⟩=>⟨g,h1,h2.ext e⟩,trivial⟩ ⟨?o0,?o1,?o2,?o3,?o4,?o5,?o6,?o7,?o8,?o9,trivial⟩ ?fin
     case o0=>exact ofa (d:=1)
     case o1 | o7=>exact ol
     case o2=>exact ol4
     case o3 | o4=>exact omv
     case o6=>exact ofa (d:=4)
     case o5 =>
      refine BN rfl ?_;intro s wc hp b h;have p:=hp.const;have e0:s (.tmp 58)=(.slice (some ⟨f,m,none⟩) z S):=h.1;have Z:s (.tmp 59)=(.int .i64 (i:Int)):=h.2.1;have bt:=b.cell u0;have bu:=b.cell u1;have bv:=b.cell u2;have bw:=b.cell u3;have kg:=b.cell aE;have kp:=b.cell pp;go_simp
      try (first | (intros;omega) | exact gI _ (by omega))
     case o8 =>
      refine BN rfl ?_;intro s wc hp b h;have p:=hp.const;have e0:s (.tmp 57)=(.agg #[.bool M,.slice O L I,.bool false,.slice P J K]):=h.1;have Z:s (.tmp 62)=(.slice A N T):=h.2.1;have bt:=b.cell u0;have bu:=b.cell u1;have bv:=b.cell u2;have bw:=b.cell u3;have kg:=b.cell aE;have kp:=b.cell pp;go_simp
     case o9 =>
      refine AE rfl ?_;intro s wc hp b h;have p:=hp.const;have aN:=hp.func;have e0:s (.tmp 63)=(.agg #[.bool M,.slice O L I,.bool false,.slice P J K,.slice A N T]):=h.1;have bt:=b.cell u0;have bu:=b.cell u1;have bv:=b.cell u2;have bw:=b.cell u3;have kg:=b.cell aE;have kp:=b.cell pp;refine⟨_,_,?_,(Ext.refl wc).alloc (.cells (tL M O L I P J K A N T).toArray 103),wc.heap.size,rfl,Arr.new wc 103 (tL M O L I P J K A N T)⟩;simp[execOp,e0,EK underlying42 B8];rfl
     case fin =>
      intro wc b;rintro _ ⟨g9,rfl,c3⟩;change wpList _ _ _ _ _ _;simp only[lq,lw,lx,lz,Act.put,lj,lk,ly];obtain⟨cP,hK,c5,c4⟩:=bM.out;have aK:=hK.ext b;have hL:=BT (k:=5) c3 rfl;have bd:=bc.ext b;have cm:=aK.ne bd (by decide);have cO:=(af.trans (C.trans b)).size;have cs:PB<=wc.heap.size:=by have:=aA.out;omega
      go_wp2_with(refine Dn rfl rfl underlying42 B8 rfl aK rfl hL (by intro r hr u hu;rw[gL.1 hr]at hu;exact FM u hu) (by unfold maxLen;omega) (by omega) cs ?_;intro a7 c7 w7 c6 aO cR;have aq:=bd.kept aO cm;have cZ:=aq.frozen 1;have cY:w7.cell? ⟨PB,1,none⟩=some (.slice ao Y co):=aq.cell (i:=1) (by simp[pL]))
      obtain⟨cI,cJ,cH,bQ,cK,bR,cc,aQ,bO,cj,ce⟩:=bP.out;have aX:(Al M O L I false P J K)=(Al cI cJ cH bQ false cK bR cc):=by injection aQ with aQ;exact List.toArray_inj aQ
      simp only[Al,Ac,jT,jo,lh,oN,gW,jp,lI]at aX;obtain⟨rfl,⟨rfl,rfl,rfl⟩,rfl,rfl,rfl⟩:=aX;have bJ:=TO.grow aK c5 (fun j hj=>(c4 j hj).ext b) (⟨M,O,L,I,P,J,K,A,N,T,rfl,bO,cj.ext b,ce.ext b,aS.ext ((D.trans ac).trans (C.trans b))⟩:TC _ b0 (tL M O L I P J K A N T) ((G.getD i tz).1,W)) aR c6 aO;have bZ:Ext w1 w7:=(af.trans (C.trans b)).grown aO (fun k hk=>by have:=(hK.lt hk).1;rw[aA.out];exact this);have bm:=Ar w7 PB 1 (.slice a7 (Y+1) c7)
      have c8:Arr (w7.setCell ⟨PB,1,none⟩ (.slice a7 (Y+1) c7)) PB 44 (pL vars a7 (Y+1) c7):=aq.set 1 _;have bK:=bJ.keptA aq (by decide) (by decide) (by decide) aR bm;have c0:=bZ.grownR bm (Nat.le_of_eq aA.out);have av:Y+1<=k:=by omega
      go_roundg (z-k)
      case rel=>exact⟨k,a7,Y+1,c7,_,rfl,ah,by omega,av,c0,c8,qh bK,HN⟩
      case measure=>omega
def nD(v:Nat):List UInt8:=if v=0 then []else Lib.decDigits v
theorem Rs:nD 0=[]:=gY rfl
theorem Ng(h:0<v):nD v=Lib.decDigits v:=gT (by omega)
theorem Xs:nD v=[]<->v=0:=by
 unfold nD;split
 · simp[*]
 · simp[*,W.dec_ne]
theorem VP{d:Nat}(a:d<10):nD (10*v+d)=if v=0/\d=0 then []else nD v ++ [UInt8.ofNat (48+d)]:=by
 by_cases h0:v=0
 · subst h0;by_cases h1:d=0
   · subst h1;rfl
   · rw[gT (by omega),Rs,Ng (by omega),Lib.decDigits,dif_pos (by omega)];simp
 · rw[gT (by omega),Ng (by omega),Ng (by omega),Lib.decDigits,dif_neg (by omega)];have h1:(10*v+d)/10=v:=by omega
   have h2:(10*v+d)%10=d:=by omega
   rw[h1,h2]
theorem VQ{H p j:Nat}(a:j<=8):H*10^(j+1)+p/10^(8-j)=10*(H*10^j+p/10^(9-j))+p/10^(8-j)%10:=by
 have h1:10^(9-j)=10^(8-j)*10:=by rw[<-ip];congr 1;omega
 have h2:H*10^(j+1)=10*(H*10^j):=by rw[ip];grind
 rw[h1,<-kO,h2];generalize p/10^(8-j)=t;generalize H*10^j=u;omega
def dD(j:Nat):Nat:=if j<=8 then 10^(8-j)else 0
theorem Xt(j:Nat):dD (j+1)=dD j/10:=by
 unfold dD;by_cases h:j<=7
 · rw[gY (by omega),gY (by omega)];have h1:10^(8-j)=10^(8-(j+1))*10:=by rw[<-ip];congr 1;omega
   rw[h1];omega
 · by_cases h8:j=8
   · subst h8;rfl
   · rw[gT (by omega),gT (by omega)]
def FO(l:List UInt8):Option Nat:=if(!l.isEmpty && l.all Lk)=true then some (W.decV l)else none
theorem Ip(h:W.digs l)(a:l≠[]):FO l=some (W.decV l):=by
 unfold FO;rw[gY];simp only[jn,oI,List.isEmpty_eq_false_iff,jI];exact⟨a,fun c b=>Ey.2 (h c b)⟩
def ON(l:List UInt8):Option Rat :=
 let neg:Bool:=decide (l.head?=some 45)
 let t:=if neg=true then l.tail else l
 let a:=t.takeWhile (· != 47)
 let b:=t.dropWhile (· != 47)
 match FO a with
 | none=>none
 | some n =>
  if b=[]then some (mkRat (if neg=true then -(n:Int)else n) 1)
  else match FO b.tail with
   | none=>none
   | some d=>if d=0 then none else some (mkRat (if neg=true then -(n:Int)else n) d)
theorem Ym(a:W.digs d)(e:∀ c,r.head?=some c->c=47):(d ++ r).takeWhile (· != 47)=d/\(d ++ r).dropWhile (· != 47)=r:=by
 induction d with
 | nil =>
  cases r with
  | nil=>exact⟨rfl,rfl⟩
  | cons c t =>
   have:=e c rfl;subst this;exact⟨rfl,rfl⟩
 | cons x t ih =>
  have f:(x != 47)=true:=by
   simp only[pb,ne_eq];rintro rfl;exact WA (a 47 (by simp))
  have:=ih (fun c b=>a c (by simp[b]));simp[f,this]
theorem Ue(q:Rat):ON (txt q)=some q:=by
 have o:=QW q;have l:=W.digs_dec q.num.natAbs;have e:=W.dec_ne q.num.natAbs;rw[o.eq];generalize f:decide (q.num<0)=a;have g:(if a=true then -(q.num.natAbs:Int)else(q.num.natAbs:Int))=q.num:=by
  subst f;by_cases h:q.num<0
  · simp only[h,nL,li];omega
  · simp only[h,oJ];simp;omega
 obtain⟨c,t,d⟩:=je e;have m:c≠45:=by rintro rfl;exact Wz (l 45 (by rw[d];simp))
 generalize j:(if(if q.den=1 then []else Lib.decDigits q.den)=[]then []else 47 :: (if q.den=1 then []else Lib.decDigits q.den))=R;have n:decide (((if a=true then [45]else []) ++ (Lib.decDigits q.num.natAbs ++ R)).head?=some 45)=a:=by
  rw[d];cases a <;> simp[m]
 have p:(if a=true then((if a=true then [45]else []) ++ (Lib.decDigits q.num.natAbs ++ R)).tail else(if a=true then [45]else []) ++ (Lib.decDigits q.num.natAbs ++ R))=Lib.decDigits q.num.natAbs ++ R:=by
  cases a <;> simp
 have hcut:=Ym (r:=R) l (by
  intro x i;rw[<-j]at i;split at i
  · simp at i
  · simpa[W.dec_ne]using i.symm)
 unfold ON;simp only[n,p,hcut.1,hcut.2,Ip l e,W.decV_dec,g];by_cases h1:q.den=1
 · have k:R=[]:=by rw[<-j];simp[h1]
   rw[gY k];have:=nB q;rw[h1]at this;rw[this]
 · have b:R=47 :: Lib.decDigits q.den:=by rw[<-j];simp[h1,W.dec_ne]
   rw[gT (by rw[b];simp),b,nF,Ip (W.digs_dec _) (W.dec_ne _),W.decV_dec];simp only[gT q.den_nz,nB]
theorem Iq(h:AD l=some q):ON l=some q:=by rw[Cp h];exact Ue q
theorem VR{r:Rat}(h:ON l=some r):(AD l).isSome=decide (txt r=l):=by
 by_cases a:txt r=l
 · rw[<-a,Cx];simp
 · cases b:AD l with
   | none=>simp[a]
   | some q =>
    have h1:=Iq b;rw[h]at h1;injection h1 with h1;subst h1;exact absurd (Cp b).symm a
theorem Ir(h:ON l=none):AD l=none:=by
 cases a:AD l with
 | none=>rfl
 | some q=>rw[Iq a]at h;cases h
theorem SC{k c':Nat}(h:Own w base e a n c xs)(f:Own w base' e' a' k c' ys)(he:e≠e'):blk a=none\/blk a≠blk a':=by
 cases i:blk a with
 | none=>exact .inl rfl
 | some g =>
  refine .inr fun j => ?_;obtain⟨l,m,h1⟩:=Own.ty h g i;obtain⟨b,d,h2⟩:=Own.ty f g j.symm;rw[h1]at h2;simp only[gK,kz]at h2;exact he h2.2.1
theorem Mg.apart(h:Mg w a n c x)(d:w.grownBy w' row)(b:blk a=none\/blk a≠row):Mg w' a n c x:=by
 obtain⟨e,h1,h2,h3⟩:=h;exact⟨e,h1.kept d b,h2,h3.kept d b⟩
theorem Mf(h:1000000000^n<=x)(a:x<P2 (32*k)):n<=2*k:=by
 refine oP fun b => ?_;unfold P2 at a;have h1:2^(29*n)<=1000000000^n:=by rw[mo];exact l9 (by omega) _
 have h2:2^(32*k)<=2^(29*n):=ic (by omega) (by omega);omega
theorem Is:x/T^n/T=x/T^(n+1):=by rw[kO,ip]
theorem Qd(a:ps.length=n)(h:∀ i,i<n->ps.getD i 0=x/T^i%T):∀ i,i<n+1->(ps ++ [x/T^n%T]).getD i 0=x/T^i%T:=by
 intro i b;by_cases h1:i<n
 · rw[gqq,gZ (by omega),<-gqq];exact h i h1
 · have:i=n:=by omega
   subst this;rw[gqq,iu (by omega),a,ju];rfl
structure DS(w wr:World)(x:Nat)(ps:List Nat)(a:Option Addr)(n c:Nat)(b:Option Addr)(m d:Nat):Prop where
 ext:Ext w wr
 own:Own wr w.heap.size 241 a n c (ps.map (BL .u32))
 mg:Mg wr b m d (x/1000000000^n)
 ap:blk a=none\/blk b=none\/blk b≠blk a
 ps:∀ i,i<n->ps.getD i 0=x/1000000000^i%1000000000
 low:n=0\/1000000000^(n-1)<=x
structure DW(w wr:World)(x:Nat)(ps:List Nat)(a:Option Addr)(n c:Nat)(b:Option Addr)(m d:Nat)(l:List UInt8):Prop where
 ext:Ext w wr
 own:Own wr w.heap.size 241 a n c (ps.map (BL .u32))
 out:Own wr w.heap.size 5 b m d (l.map A2)
theorem KI{v:Value}(h:ZR w v z)(bz:z.natAbs<P2 3200000) :
 Calls prog 169 #[v] w fun e w'=>e = .returned (.string ⟨(Lib.decDigits z.natAbs).toArray⟩)/\Ext w w':=by
 obtain⟨s,a,n,c,rfl,HS,hx⟩:=h;have K:=hx.zero;generalize z.natAbs=x at *
 clear HS;by_cases h0:n=0
 · have L:x=0:=K.1 h0;subst h0;subst L;have o:Hid ((⟨(Lib.decDigits 0).toArray⟩:ByteArray)={ data:=#[48] }):=by show _=_;rw[W.dec_zero]
   clear K bz
   go_enter func169,ntmps169
   go_upto_region 1 with(fail)
   refine AP ?_;intro w0 y G af;have aC:=G.c 1 rfl;go_wp2;go_ret;exact⟨by rw[o.out];rfl,y⟩
 · have ae:x≠0:=fun h=>h0 (K.2 h);have ad:((n:Int) == 0)=false:=by simpa using h0
   have a5:=qh ae;have F:=qh bz;clear K h0 bz ae
   go_enter func169,ntmps169
   go_upto_region 1 with(fail)
   refine AP ?_;intro w0 y G af;have aC:=G.c 1 rfl;have L:=hx.ext y;have a0:Hid (DS w w0 x [] none 0 0 a n c):=qh ⟨y,Own.nil _ _ _,by rw[kn,lf];exact L,.inl rfl,fun i hi=>by omega,.inl rfl⟩;clear G af hx L;go_wp2
   go_loopg [3,4] x (fun gk pv mv wr=>∃ (a:Option Addr) (n c:Nat) (b:Option Addr) (m d:Nat) (M:List Nat),pv = .slice a n c/\mv = .slice b m d/\x/1000000000^n<=gk/\Hid (DS w wr x M a n c b m d))
   case atStart=>exact⟨none,0,0,a,n,c,[],rfl,rfl,by rw[kn,lf];exact lrf _,a0⟩
   case round =>
    clear a0 y;obtain⟨a,n,c,b,m,d,M,rfl,rfl,aK,o⟩:=hrel;by_cases hm:0<m
    · have ap:(0:Int)<m:=by omega
      have g:0<x/1000000000^n:=by
       have:=o.out.mg.zero;refine jM fun h => ?_;have:=this.2 h;omega
      have U:1000000000^n<=x:=by
       refine oP fun hc => ?_;rw[jy hc]at g;omega
      have aw:n<=200000:=Mf (k:=100000) U F.out;have au:m<=100000:=o.out.mg.len (k:=100000) (gN (iI _ _) F.out);have az:=qh (Gm o.out.mg au (dd:=1000000000) (by omega) (by omega));have A:=o.out.ext;have l:=o.out.own;have aj:=qh U;have P:=qh g;clear U g ad
      go_wp2_with fail
      refine az.out.mono ?_;rintro e w3 ⟨n3,c3,rfl,S,aq⟩;have aA:=S.size;have aF:=A.size;have al:=l.ext S;obtain⟨r,hr⟩:∃ r,x/1000000000^n%1000000000=r:=⟨_,rfl⟩;rw[hr];have hA:=al.alloc (.cells #[.int .u32 (r:Int)] 241);have hL:=(AB w3 w.heap.size 241 #[.int .u32 (r:Int)] 1 rfl (by omega) (by omega)).sl;have I:=(Ext.refl w3).alloc (.cells #[.int .u32 (r:Int)] 241);have ar:=aq.ext I;have C:∀ k,blk a=some k->w.heap.size<=k/\k<wr.heap.size:=fun k Z=>Own.lt l Z
      go_wp2_with(refine B5 rfl rfl underlying95 Cs rfl rfl hA rfl hL (by simp[Value.oneCell']) (by unfold maxLen;omega) (by omega) (by simp;omega) ?_;intro a7 c7 w7 T E a6)
      go_roundg (x/1000000000^(n+1))
      case rel =>
       refine⟨a7,n+1,c7,_,n3,c3,M ++ [r],rfl,rfl,lrf _,qh ⟨((A.trans S).trans I).grown E (fun k Z=>(C k Z).1),?_,?_,?_,?_,.inr (by rw[nw];exact aj.out)⟩⟩
       · rw[iJ];exact T
       · rw[<-Is];refine ar.apart E (.inr fun h => ?_);have h9:w.heap.size<=wr.heap.size/\wr.heap.size<wr.heap.size:=C wr.heap.size h.symm;omega
       · refine .inr (.inr fun h => ?_);rcases a6 with h7|h7
         · rw[h7]at h;have h9:w.heap.size<=wr.heap.size/\wr.heap.size<wr.heap.size:=C wr.heap.size h.symm;omega
         · rw[h7]at h;have h8:wr.heap.size=(w3.alloc (.cells #[.int .u32 (r:Int)] 241)).heap.size:=lZ h;simp at h8;omega
       · rw[<-hr];exact Qd (by have:=l.len;simpa using this) o.out.ps
      case measure =>
       have h1:=P.out;have h2:x/1000000000^(n+1)<x/1000000000^n:=by rw[<-Is];exact Nat.div_lt_self h1 (by omega)
       omega
    · have ap:¬ (0:Int)<m:=by omega
      have g:x/1000000000^n=0:=o.out.mg.zero.1 (by omega);have ax:0<n:=by
       refine jM fun h => ?_;subst h;rw[kn,lf]at g;exact a5.out g
      have aw:n<=200001:=by
       rcases o.out.low with h|h
       · omega
       · have:=Mf (k:=100000) h F.out;omega
      have A:=o.out.ext;have l:=o.out.own;have P:=qh g;have q:Hid (DW w wr x M a n c none 0 0 []):=qh ⟨A,l,Own.nil _ _ _⟩;have ai:=qh o.out.ps;obtain⟨ab,ao,rfl,_⟩:=(show SlN .u32 wr a n c M from l.sl).at (j:=0) ax;have aS:IntKind.i64.wrap ((n:Int)-1)=(n:Int)-1:=gI _ (by omega);clear g o A l ad F;go_wp2
      go_loopw[7,8] (fun ov iv wr=>∃ (k:Nat) (b:Option Addr) (m d:Nat),ov = .slice b m d/\iv = .int .i64 ((k:Int)-1)/\k<=n/\m<=9*(n-k)/\Hid (DW w wr x M (some ⟨ab,ao,none⟩) n c b m d (nD (x/1000000000^k)))) (fun _ iv _=>(intOf iv+1).toNat)
      case atStart=>exact⟨n,none,0,0,rfl,rfl,lrf _,by omega,by rw[P.out,Rs];exact q⟩
      case round =>
       clear q;obtain⟨k,b,m,d,rfl,rfl,Z,ac,q⟩:=hrel;cases k with
       | zero =>
        have B:=q.out.out;have R:=q.out.ext;have HT:Hid (nD (x/1000000000^0)=Lib.decDigits x):=by show _=_;rw[kn,lf,Ng (jM a5.out)]
        rw[HT.out]at B;clear q
        go_wp2_with(refine EY rfl rfl underlying228 underlying5 underlying9 rfl B.sl ?_)
        go_ret;exact⟨rfl,R⟩
       | succ i =>
        have aB:((i+1:Nat):Int)-1=i:=by omega
        rw[aB];go_wp2
        go_loopw[7,9] (fun ov dv wr=>∃ (j:Nat) (b:Option Addr) (m d:Nat),ov = .slice b m d/\dv = .int .u32 ((dD j:Nat):Int)/\j<=9/\m<=9*(n-(i+1))+j/\Hid (DW w wr x M (some ⟨ab,ao,none⟩) n c b m d (nD (x/1000000000^(i+1)*10^j+x/1000000000^i%1000000000/10^(9-j))))) (fun _ dv _=>(intOf dv).toNat)
        case atStart=>exact⟨0,b,m,d,rfl,rfl,by omega,ac,by rw[kn,km,mp,jy (show x/1000000000^i%1000000000<10^9 from io _ (by omega)),iO];exact q⟩
        case round =>
         clear q ac;obtain⟨j,b,m,d,rfl,rfl,hj,aO,q⟩:=hrel;have R:=q.out.ext;have B:=q.out.out;have hP:=q.out.own;clear q;by_cases J:j<=8
         · have aJ:0<dD j:=by unfold dD;rw[gY J];exact kG (by omega)
           have aI:dD j<=100000000:=by unfold dD;rw[gY J];exact ic (n:=10) (by omega) (show 8-j<=8 by omega)
           have ah:Hid (dD j=10^(8-j)):=by show _=_;unfold dD;rw[gY J]
           have N:Hid (dD (j+1)=dD j/10):=qh (Xt j);obtain⟨p,hp⟩:∃ p,x/1000000000^i%1000000000=p:=⟨_,rfl⟩;obtain⟨H,hH⟩:∃ H,x/1000000000^(i+1)=H:=⟨_,rfl⟩;have ay:p<1000000000:=by rw[<-hp];exact io _ (by omega)
           obtain⟨bv,ov,a8,a9⟩:=(show SlN .u32 wr _ n c M from hP.sl).at (j:=i) (by omega);simp only[gK,iV,jp]at a8;obtain⟨rfl,rfl⟩:=a8;have g1:=a9 i (by omega);rw[ai.out i (by omega),hp]at g1;obtain⟨dd,X⟩:∃ dd,p/10^(8-j)%10=dd:=⟨_,rfl⟩;have aH:dd<=9:=by omega
           have a3:Hid (nD (H*10^(j+1)+p/10^(9-(j+1)))=if H*10^j+p/10^(9-j)=0/\dd=0 then []else nD (H*10^j+p/10^(9-j)) ++ [UInt8.ofNat (48+dd)]):=by
            show _=_;rw[show 9-(j+1)=8-j by omega,VQ J,X];exact VP (by omega)
           have O:=qh (Xs (v:=H*10^j+p/10^(9-j)));rw[hp,hH]at B;generalize hv:H * 10^j+p/10^(9-j)=vv at *
           have e1:(p:Int).tdiv ((dD j:Nat):Int)=((p/dD j:Nat):Int):=by rw[j3 (by omega)];rfl
           have e2:((p/dD j:Nat):Int).tmod 10=(dd:Int):=by rw[jx (nA _),ah.out,<-X];rfl
           have e3:((dD j:Nat):Int).tdiv 10=((dD (j+1):Nat):Int):=by rw[j3 (by omega),N.out];rfl
           have g:¬ ((dD j:Nat):Int)=0:=by omega
           have aQ:(((dD j:Nat):Int) == 0)=false:=by simp;omega
           have aP:p/dD j<1000000000:=gN (iI _ _) ay;have aE:(0:Int)<((dD j:Nat):Int):=by omega
           have e4:IntKind.u32.wrap (48+(dd:Int))=48+(dd:Int):=by show _%4294967296=_;omega
           have e5:IntKind.u8.wrap (48+(dd:Int))=48+(dd:Int):=by show _%256=_;omega
           have e6:(48+(dd:Int))%256=48+(dd:Int):=by omega
           have aL:(0:Int)<=(i:Int):=by omega
           have aM:(i:Int)<n:=by omega
           generalize dD j=D at *
           obtain⟨D1,Q⟩:∃ D1,dD (j+1)=D1:=⟨_,rfl⟩;rw[Q]at e3 N;have a1:=qh Q;have a4:=qh hp;have a2:=qh hH;clear Q;generalize p/D=pd at *
           have aG:D1<D:=by have:=N.out;omega
           have Y:m=(nD vv).length:=by have:=B.len;simpa using this.symm
           have aN:m<=1800009:=by omega
           have C:∀ k,blk b=some k->w.heap.size<=k:=fun k Z=>(Own.lt B Z).1;have ak:=SC hP B (by decide);have V:A2 (UInt8.ofNat (48+dd)) = .int .u8 (48+(dd:Int)):=by
            have h1:(UInt8.ofNat (48+dd)).toNat=48+dd:=by rw[UInt8.toNat_ofNat'];omega
            unfold A2;rw[h1];rfl
           clear hp hH X hv a9;by_cases f:vv=0/\dd=0
           · have aa:m=0:=by rw[Y,O.out.2 f.1];rfl
             have hd0:dd=0:=f.2;have HS:Hid (nD (H*10^(j+1)+p/10^(9-(j+1)))=nD vv):=by show _=_;rw[a3.out,gY f,O.out.2 f.1]
             subst aa;subst hd0;clear f Y;go_wp2;go_roundw
             case rel=>exact⟨j+1,b,0,d,rfl,by rw[a1.out],by omega,by omega,by rw[a4.out,a2.out,HS.out];exact qh ⟨R,hP,B⟩⟩
             case measure=>simp[intOf];omega
           · have HS:Hid (nD (H*10^(j+1)+p/10^(9-(j+1)))=nD vv ++ [UInt8.ofNat (48+dd)]):=by show _=_;rw[a3.out,gT f]
             have hA:=B.alloc (.cells #[.int .u8 (48+(dd:Int))] 5);have am:=hP.alloc (.cells #[.int .u8 (48+(dd:Int))] 5);have hL:=(AB wr w.heap.size 5 #[.int .u8 (48+(dd:Int))] 1 rfl R.size (by omega)).sl;have I:=R.alloc (.cells #[.int .u8 (48+(dd:Int))] 5);have aA:=R.size;by_cases aa:0<m
             case' neg =>
              have hd0:0<dd:=by
               refine jM fun h=>f ⟨O.out.1 ?_,h⟩;exact gQ (by omega)
              have av:m=0:=by omega
              have ag:((48+(dd:Int)) == 48)=false:=by simp;omega
              have aD:¬ (48+(dd:Int))=48:=by omega
              subst av
             all_goals
              clear f Y
              go_wp2_with(refine B5 rfl rfl underlying228 Ei rfl rfl hA rfl hL (by simp[Value.oneCell']) (by unfold maxLen;omega) (by omega) (by simp;omega) ?_;intro a7 c7 w7 T E a6)
              go_roundw
              case rel =>
               refine⟨j+1,a7,_,c7,rfl,by rw[a1.out],by omega,by omega,?_⟩;rw[a4.out,a2.out,HS.out];refine qh ⟨I.grown E C,am.kept E ak,?_⟩;rw[iJ,List.map_singleton,V];exact T
              case measure=>simp[intOf];omega
         · have an:j=9:=by omega
           subst an;have hd0:dD 9=0:=rfl;have ag:¬ (0:Int)<((dD 9:Nat):Int):=by rw[hd0];decide
           have HN:Hid (x/1000000000^(i+1)*10^9+x/1000000000^i%1000000000/10^(9-9)=x/1000000000^i):=by
            show _=_;rw[<-Is,ju,kn,lf];generalize x/1000000000^i=t;omega
           rw[HN.out]at B;have aR:IntKind.i64.wrap ((i:Int)-1)=(i:Int)-1:=gI _ (by omega);go_wp2;go_roundw
           case rel=>exact⟨i,b,m,d,rfl,rfl,by omega,by omega,qh ⟨R,hP,B⟩⟩
           case measure=>first | (simp[intOf];done) | (simp[intOf];omega)
def Yn(w:World)(o:Option Nat)(e:Ending)(w':World):Prop:=∃ s a n c,e = .returned (.tuple #[.agg (Ac s a n c).toArray,.bool o.isSome])/\Ext w w'/\∀ x,o=some x->s=false/\Mg w' a n c x
theorem Xu(h0:0<x)(c:x<4294967296):Mg (w.alloc (.cells #[.int .u32 (x:Int)] 241)) (some ⟨w.heap.size,0,none⟩) 1 1 x:=by
 have b:=AB w w.heap.size 241 #[.int .u32 (x:Int)] 1 rfl (lrf _) (by omega);have a:SlN .u32 (w.alloc (.cells #[.int .u32 (x:Int)] 241)) (some ⟨w.heap.size,0,none⟩) 1 1 [x]:=b.sl;exact⟨[x],a,⟨fun z d=>by rw[gL.1 d];exact c,W.nrm_single (by omega),by simp[W.val]⟩,b.ty⟩
theorem Mh(h:k<s.size):(An s).take (k+1)=(An s).take k ++ [s[k]]:=by
 have h1:k<(An s).length:=by rw[Ay];exact h
 rw[gM h1];have:=E5 h;rw[gqq,gD h1,gP]at this;rw[this]
theorem Uf(a:W.digs l):FO l=if l=[]then none else some (W.decV l):=by
 by_cases h:l=[]
 · subst h;rfl
 · rw[gT h,Ip a h]
theorem Ug(h:k<s.size)(b:¬ W.isDig s[k]):FO (An s)=none:=by
 unfold FO;rw[gT];simp only[jn,jI,not_and];intro _ a;have h1:s[k]∈An s:=by
  have h2:k<(An s).length:=by rw[Ay];exact h
  have:=E5 h;rw[gqq,gD h2,gP]at this;rw[<-this];exact jl h2
 exact b (Ey.1 (a _ h1))
theorem Nh(h:W.digs l){k:Nat}(a:l.length<=k):W.decV l<P2 (4*k):=by
 refine ib (W.decV_lt h) ?_;refine gJ (ic (by omega) a) ?_;unfold P2;rw[mo];exact l9 (by omega) _
structure FSt(w wr:World)(l:List UInt8)(k:Nat)(a:Option Addr)(n c:Nat):Prop where
 ext:Ext w wr
 res:Arr wr w.heap.size 97 (Ac false none 0 0)
 m:Mg wr a n c (W.decV (l.take k))
 ok:W.digs (l.take k)
theorem FP(hs:s.size<=100000):Calls prog 148 #[.string s] w (Yn w (FO (An s))):=by
 have ak:=Ay s
 go_enter func148,ntmps148
 go_upto_region 1 with(fail)
 refine AP ?_;intro w0 J I ah;have F:Hid (FSt w w0 (An s) 0 none 0 0):=qh ⟨J,I,by rw[jw];exact Mg.nil w0,by rw[jw];intro c P;cases P⟩;clear ah I J;go_wp2
 go_loopg [4,5] s.size (fun gk mv iv wr=>∃ (k n c:Nat) (a:Option Addr),mv = .slice a n c/\iv = .int .i64 k/\k<=s.size/\s.size<=k+gk/\Hid (FSt w wr (An s) k a n c))
 case atStart=>exact⟨0,0,0,none,rfl,rfl,gO _,by omega,F⟩
 case round =>
  clear F;obtain⟨k,n,c,a,rfl,rfl,hk,an,b⟩:=hrel;by_cases aa:k<s.size
  · go_wp2
    go_loop[6,7,5,8] (fun vv fv iv jv=>∃ j v f:Nat,vv = .int .u32 v/\fv = .int .u32 f/\iv = .int .i64 ((k+j:Nat):Int)/\jv = .int .i64 j/\j<=9/\k+j<=s.size/\v<f/\Hid (f=10^j/\W.digs ((An s).take (k+j))/\W.decV ((An s).take (k+j))=W.decV ((An s).take k)*f+v)) (fun _ _ _ jv=>9-(intOf jv).toNat)
    case atStart=>exact⟨0,0,1,rfl,rfl,rfl,rfl,by omega,by omega,by omega,qh ⟨rfl,b.out.ok,by simp⟩⟩
    case round =>
     obtain⟨j,v,f,rfl,rfl,rfl,rfl,hj,a8,ar,p⟩:=hrel;by_cases P:j<9/\k+j<s.size
     · obtain⟨ap,D⟩:=P;have a7:f<=100000000:=by
        rw[p.out.1];have:=ic (n:=10) (by omega) (show j<=8 by omega);omega
       have aj:((k+j:Nat):Int)<s.size:=by omega
       have ai:(j:Int)<9:=by omega
       by_cases A:W.isDig s[k+j]
       · have a2:¬ ((s[k+j].toNat:Nat):Int)<48:=by have:=A.1;omega
         have a4:¬ (57:Int)<((s[k+j].toNat:Nat):Int):=by have:=A.2;omega
         have Z:Hid (10*f=10^(j+1)/\W.digs ((An s).take (k+(j+1)))/\W.decV ((An s).take (k+(j+1)))=W.decV ((An s).take k)*(10*f)+(10*v+(s[k+j].toNat-48))):=by
          refine qh ⟨by rw[ip,<-p.out.1];omega,?_,?_⟩
          · rw[<-jR,Mh D];intro x g;rcases iw.1 g with g|g
            · exact p.out.2.1 x g
            · rw[gL.1 g];exact A
          · rw[<-jR,Mh D,W.decV_snoc,p.out.2.2]
            grind
         obtain⟨d,Q⟩:∃ d,s[k+j].toNat-48=d:=⟨_,rfl⟩;have am:d<=9:=by have:=A.2;omega
         have e1:IntKind.u8.wrap (((s[k+j].toNat:Nat):Int)-48)=(d:Int):=by
          have:=A.1;show _%256=_;omega
         have e2:IntKind.u32.wrap ((v:Int)*10)=((10*v:Nat):Int):=by show _%4294967296=_;omega
         have e3:IntKind.u32.wrap ((f:Int)*10)=((10*f:Nat):Int):=by show _%4294967296=_;omega
         have e4:IntKind.u32.wrap (((10*v:Nat):Int)+(d:Int))=((10*v+d:Nat):Int):=by show _%4294967296=_;omega
         rw[Q]at Z;clear A Q;go_wp2;go_round
         case rel=>exact⟨j+1,10*v+d,10*f,by go_num,by go_num,by go_num,by go_num,by omega,by omega,by omega,Z⟩
         case measure=>simp[intOf];omega
       · have HB:=qh (Ug D A);have hR:=b.out.res;have hE:=b.out.ext;by_cases a2:((s[k+j].toNat:Nat):Int)<48
         case' neg =>
          have a4:(57:Int)<((s[k+j].toNat:Nat):Int):=by
           have:¬ (48<=s[k+j].toNat/\s[k+j].toNat<=57):=A;omega
         all_goals
          clear A p
          go_wp2_with(refine Aa (vs:=Ac false none 0 0) rfl rfl rfl rfl rfl A6 hR rfl (Ae _ _ _ _) ?_;intro w9 l i)
          refine gF (Ao rfl A6 rfl rfl l) rfl ⟨false,none,0,0,by rw[HB.out];rfl,hE.grownR i (by omega),fun x g=>by rw[HB.out]at g;cases g⟩
     · have a6:0<f:=by omega
       have a7:f<=1000000000:=by
        rw[p.out.1];have:=ic (n:=10) (by omega) hj;omega
       have E:¬ (j:Int)<9\/(j:Int)<9/\¬ ((k+j:Nat):Int)<s.size:=by omega
       have ao:0<j:=by
        rcases gX j with h|h
        · subst h;exact absurd ⟨by omega,aa⟩ P
        · exact h
       have ad:n<=100000:=b.out.m.len (k:=100000) (Af (Nh b.out.ok (k:=100000) (by rw[iq];omega)) (by omega));clear P;have HM:=b.out.m;have y:=b.out.res;have q:=b.out.ext;clear b;rcases E with E|⟨E,al⟩
       all_goals
        go_upto_region 12 with(fail)
        have hf:=Xu (w:=wr) a6 (show f<4294967296 by omega);have M:=(Ext.refl wr).alloc (.cells #[.int .u32 (f:Int)] 241);have U:=qh (Ky (HM.ext M) hf ad (by omega))
        go_wp2_with fail
        refine U.out.mono ?_;rintro e Y ⟨a3,n3,c3,rfl,a0,S⟩;have V:=AB Y Y.heap.size 241 #[.int .u32 (v:Int)] 1 rfl (lrf _) (by omega);have X:SlN .u32 (Y.alloc (.cells #[.int .u32 (v:Int)] 241)) (some ⟨Y.heap.size,0,none⟩) 1 1 [v]:=V.sl;have N:=(Ext.refl Y).alloc (.cells #[.int .u32 (v:Int)] 241);have af:=V.ty
        go_wp2_with fail
        refine(Ce X).mono ?_;rintro e w4 ⟨kq,rfl,rfl,a9,ht⟩;have hv:=Dp X af a9 ht (fun z hz=>by rw[gL.1 hz];omega) (v:=v) (by simp[W.val]);have K:=(M.trans a0).trans N;have ae:n3<=100000:=by
         refine S.len (k:=100000) ?_;have h0:=p.out.2.2;refine gN (gJ (lP _ v) (Nat.le_of_eq h0.symm)) ?_;exact Af (Nh p.out.2.1 (k:=100000) (by rw[iq];omega)) (by omega)
        have O:=qh (Kw (S.ext N) hv ae (by omega))
        go_wp2_with fail
        refine O.out.mono ?_;rintro e w5 ⟨a5,n5,c5,rfl,L,ab⟩;have Z:Hid (FSt w w5 (An s) (k+j) a5 n5 c5):=qh ⟨(q.trans K).trans L,(y.ext K).ext L,by rw[p.out.2.2];exact ab,p.out.2.1⟩;go_wp2
        go_roundg (s.size-(k+j))
        case rel=>exact⟨k+j,n5,c5,a5,rfl,rfl,a8,by omega,Z⟩
        case measure=>omega
  · have aq:k=s.size:=by omega
    have B:(An s).take k=An s:=gG (by omega);have hM:=b.out.m;have C:=b.out.ok;have y:=b.out.res;have q:=b.out.ext;rw[B]at hM C;have HQ:=qh (Uf C);have T:=qh (KA (neg:=false) hM (z:=(W.decV (An s):Int)) (by simp));clear b B hM C;by_cases he:s=({ data:=#[] }:ByteArray)
    · have a1:s.toList.isEmpty=true:=by rw[jD,he];rfl
      have G:Hid (FO (An s)=none):=by show _=_;rw[HQ.out,gY (by rw[he];rfl)]
      clear HQ he
      go_wp2_with fail
      refine T.out.mono ?_;rintro e w2 ⟨s1,rfl,o,H,R⟩;have r:=y.ext o
      go_wp2_with(refine Aa (vs:=Ac s1 a n c) rfl rfl rfl rfl rfl A6 r rfl (Ae _ _ _ _) ?_;intro w9 l i)
      refine gF (Ao rfl A6 rfl rfl l) rfl ⟨s1,a,n,c,by rw[G.out];rfl,(q.trans o).grownR i (lrf _),fun x g=>by rw[G.out]at g;cases g⟩
    · have a1:s.toList.isEmpty=false:=by
       rw[jD];cases h:s.data.toList with
       | nil=>exact absurd (EX (s:=s) (t:=({ data:=#[] }:ByteArray)) h) he
       | cons=>rfl
      have G:Hid (FO (An s)=some (W.decV (An s))):=by show _=_;rw[HQ.out,gT (show ¬ An s=[] from fun h=>he (EX (s:=s) (t:=({ data:=#[] }:ByteArray)) h))]
      clear HQ he
      go_wp2_with fail
      refine T.out.mono ?_;rintro e w2 ⟨s1,rfl,o,H,R⟩;have r:=y.ext o
      go_wp2_with(refine Aa (vs:=Ac s1 a n c) rfl rfl rfl rfl rfl A6 r rfl (Ae _ _ _ _) ?_;intro w9 l i)
      have ac:=R.keptA r (by decide) i;refine gF (Ao rfl A6 rfl rfl l) rfl ⟨s1,a,n,c,by rw[G.out];rfl,(q.trans o).grownR i (lrf _),fun x g => ?_⟩;rw[G.out]at g;have ag:=lZ g;subst ag;exact⟨by rw[<-H.out];exact gR (by omega),ac⟩
end Go.Proofs.YtlbmnokpiilfpaaGreatDoor
