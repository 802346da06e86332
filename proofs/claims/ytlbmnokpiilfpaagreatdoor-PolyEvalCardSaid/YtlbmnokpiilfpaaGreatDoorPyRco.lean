/- Part PyRco. -/
import Derived.Test.YtlbmnokpiilfpaaGreatDoorPyRpa
import Derived.Test.YtlbmnokpiilfpaaGreatDoorPyRgc
import Derived.Test.YtlbmnokpiilfpaaGreatDoorPy18

set_option linter.all false
set_option maxRecDepth 100000
set_option maxHeartbeats 100000000
namespace Go.Proofs.YtlbmnokpiilfpaaGreatDoor
open Tryz Go Go.RowKit
variable {va:Int} {b0 c k n:Nat} {a:Option Addr} {w:World}
def Dy(l:List Pl.Tm):Rat:=l.foldl (fun g t=>rgc g t.2) 0
theorem Q4{l:List Pl.Tm}(a:k<l.length):rgc (Dy (l.take k)) (l.getD k tz).2=Dy (l.take (k+1)):=by
 unfold Dy;rw[oW a,kU,gqq,oN a];rfl
theorem GJ{m:List Pl.Tm}(ha:TSl w b0 a n c m)(hn:n<=10000)(hb:∀ k,Pl.RB 1000000 (Dy (m.take k)))(hq:∀ t∈m,Pl.RB 1000000 t.2) :
 Calls prog 128 #[.agg (pL va a n c).toArray] w (FL w (Dy m)):=by
 have a2:=ha.len;have HB:=qh hb;have HQ:=qh hq;have N:=qh a2;clear hb a2 hq
 go_enter func128,ntmps128
 go_upto_region 1 with(fail)
 refine Ch ?_;intro J V R T al;have Y:Arr J (w.heap.size+1) 99 (Ah false none 0 0 false none 0 0):=T;have p1:=R.c 1 rfl;have af:w.heap.size+2<=J.heap.size:=by omega
 have hY:=Arr.new J 99 (Ah false none 0 0 false none 0 0);clear R T al
 go_wp2_with(refine Aa (vs:=Ah false none 0 0 false none 0 0) rfl rfl rfl rfl rfl AE hY rfl (Ag _ _ _ _ _ _ _ _) ?_;intro w1 U a1)
 have z:Ext J w1:=((Ext.refl J).alloc _).grownR a1 (lrf _);have W:QBx w1 J.heap.size (Dy (m.take 0)):=⟨false,none,0,0,none,0,0,U,qh rfl,Mg.nil _,Mg.nil _⟩;have B:=V.trans z;have Z:=Y.ext z;have a4:=z.cell p1;clear hY U a1 Y p1 V z;generalize J.heap.size=S at *
 have a7:=qh af
 try simp only[Act.put]
 go_loopw[4] (fun iv wr=>∃ i:Nat,iv = .int .i64 i/\i<=n/\Ext w wr/\QBx wr S (Dy (m.take i))/\Arr wr (w.heap.size+1) 99 (Ah false none 0 0 false none 0 0)/\wr.cell? ⟨w.heap.size,1,none⟩=some (.slice a n c)) (fun iv _=>n-(intOf iv).toNat)
 case atStart=>exact⟨0,rfl,oY _,B,W,Z,a4⟩
 case round =>
  clear B W Z a4;obtain⟨i,rfl,hi,hE,hO,hR,p1⟩:=hrel;obtain⟨I,K,H,E,L,F,h3,o,i3,j3,k3⟩:=hO;have z0:=o.c 0 rfl;have z1:=o.c 1 rfl;have z2:=o.c 2 rfl;have z3:=o.c 3 rfl;by_cases r:i<n
  case neg =>
   have a6:¬ (i:Int)<n:=by omega
   have C:m.take i=m:=oL (by have:=N.out;omega);rw[C]at i3 j3 k3;have aA:(Ah I K H E false L F h3).toArray=#[.bool I,.slice K H E,.bool false,.slice L F h3]:=rfl;clear r C
   go_wp2_with(refine Aa (vs:=Ah I K H E false L F h3) rfl rfl rfl rfl rfl AE hR rfl (Ag _ _ _ _ _ _ _ _) ?_;intro w9 ad ag)
   exact oM (Ai rfl AE rfl ad) rfl (Bu hE hR (by decide) ag (by omega) i3 j3 k3)
  have a6:(i:Int)<n:=by omega
  have x:i<m.length:=by have:=N.out;omega
  obtain⟨g,l,aw,s1,x1,m1,P,y1,Q,h1,ay,aC,f1,rfl,s,f,O,a3,a0,ak⟩:=(ha.ext hE).row r;have a8:wr.cell? ⟨g,l+i*5,none⟩=some (.bool s1):=by have:=s.cl r (j:=0) (by omega);rw[f]at this;exact this
  have a9:wr.cell? ⟨g,l+i*5+1,none⟩=some (.slice x1 m1 P):=by have:=s.cl r (j:=1) (by omega);rw[f]at this;exact this
  have aa:wr.cell? ⟨g,l+i*5+2,none⟩=some (.bool false):=by have:=s.cl r (j:=2) (by omega);rw[f]at this;exact this
  have ab:wr.cell? ⟨g,l+i*5+3,none⟩=some (.slice y1 Q h1):=by have:=s.cl r (j:=3) (by omega);rw[f]at this;exact this
  have D:m.getD i tz∈m:=gY (getD_some x);have G:=qh (fun(y:World) (b:Ext wr y)=>Q6 (v := .agg #[.bool I,.slice K H E,.bool false,.slice L F h3]) (p:=Dy (m.take i)) ⟨I,K,H,E,L,F,h3,rfl,i3,j3.ext b,k3.ext b⟩ (v' := .agg #[.bool s1,.slice x1 m1 P,.bool false,.slice y1 Q h1]) (q:=(m.getD i tz).2) ⟨s1,x1,m1,P,y1,Q,h1,rfl,O,a3.ext b,a0.ext b⟩ (HB.out i) (HQ.out _ D));rw[Q4 x]at G;clear s f D a3 a0 ak O x i3 j3 k3
  go_upto_region 5 with(fail)
  have M:=fun(y:World) (b:Ext wr y)=>qh (And.intro (b.cell p1) (And.intro (b.cell z0) (And.intro (b.cell z1) (And.intro (b.cell z2) (And.intro (b.cell z3) (And.intro (b.cell a8) (And.intro (b.cell a9) (And.intro (b.cell aa) (b.cell ab)))))))))
  refine Ac
   [he (.agg #[.bool I,.slice K H E,.bool false,.slice L F h3]),hdP w.heap.size 1,hdS (some ⟨g,l,none⟩) n c,hdI i,hdP g (l+i*5),hdP g (l+i*5),he (.agg #[.bool s1,.slice x1 m1 P,.bool false,.slice y1 Q h1]),hp (fun v y=>QV y v (Dy (m.take (i+1))))]
   ⟨fun v w w' e h=>QV.ext h e,trivial⟩ ⟨?o0,?o1,?o2,?o3,?o4,?o5,?o6,?o7,trivial⟩ ?fin
  case o0 | o6=>exact ol4
  case o1=>exact ofa (d:=1)
  case o2=>exact ol
  case o3=>exact omv
  case o5=>exact ofa (d:=0)
  case o4 =>
   refine Ao rfl fun ρ y b a5 h => ?_;have e0:_=_:=h.1;have e1:_=_:=h.2.1;obtain⟨kq,aq,ar,au,av,am,an,ao,ap⟩:=(M y b).out;go_simp
   try (first | (intros;omega) | exact oP _ (by omega))
  case o7 =>
   refine Ae rfl fun ρ y b a5 az h => ?_;have e1:_=_:=h.2.1;have e2:_=_:=h.2.2.1;obtain⟨kq,aq,ar,au,av,am,an,ao,ap⟩:=(M y b).out;refine⟨197,#[.agg #[.bool I,.slice K H E,.bool false,.slice L F h3],.agg #[.bool s1,.slice x1 m1 P,.bool false,.slice y1 Q h1]],by go_simp,(G.out y b).mono ?_⟩;rintro e w' ⟨s',a',n',c',b',m',d',rfl,ae,aj,ai,ah⟩;exact⟨_,rfl,ae,s',a',n',c',b',m',d',rfl,aj,ai,ah⟩
  case fin =>
   intro y b;rintro _ ⟨s4,x4,m4,d4,y4,g4,h4,rfl,i4,j4,k4⟩;change wpList _ _ _ _ _ _;simp only[A0];have X:=o.ext b;have aB:(Ah s4 x4 m4 d4 false y4 g4 h4).toArray=#[.bool s4,.slice x4 m4 d4,.bool false,.slice y4 g4 h4]:=rfl;have ax:=a7.out;clear o G
   go_wp2_with(refine Aa (vs:=Ah s4 x4 m4 d4 false y4 g4 h4) rfl rfl rfl rfl rfl AE X rfl (Ag _ _ _ _ _ _ _ _) ?_;intro w8 ac A)
   go_roundw
   case rel=>exact⟨i+1,by go_num,by omega,(hE.trans b).grownR A (by omega),QBx.put X A ac i4 j4 k4,(hR.ext b).kept A (by intro e;injection e;omega),A.cell (b.cell p1) (by simp;omega)⟩
   case measure=>simp[intOf];omega
end Go.Proofs.YtlbmnokpiilfpaaGreatDoor
