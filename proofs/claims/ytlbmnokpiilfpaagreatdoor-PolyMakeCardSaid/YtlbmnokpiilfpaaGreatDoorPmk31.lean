/- Part Pmk31. -/
import Derived.Test.YtlbmnokpiilfpaaGreatDoorPmk30
import Derived.Test.YtlbmnokpiilfpaaGreatDoorPmk17
import Derived.Test.YtlbmnokpiilfpaaGreatDoorPmk26
import Derived.Test.YtlbmnokpiilfpaaGreatDoorPmk28
set_option maxRecDepth 100000
set_option maxHeartbeats 100000000
namespace Go.Proofs.YtlbmnokpiilfpaaGreatDoor
open Tryz Go Go.RowKit
variable {cs:Array Value} {va vb:Int} {rows:List (List Value)} {xs:List Int} {c d k m n:Nat} {a b:Option Addr} {q:Rat} {w:World}
theorem K5 (a:cs.size=n) (h6:n<=1000000) (h:cs.toList=xs.map (Value.int .i64)):SlI (w.alloc (.cells cs 3)) (some ⟨w.heap.size,0,none⟩) n n xs:=by
 have:=(Az w 0 3 cs n a (Nat.zero_le _) h6).sl;rw [h] at this;exact this
theorem PL {ts:List Tx} (f:∀ r∈rows,r.length=2) (d:rows.length=n) (e:ts.length=n) (g:n<=1000) (h:∀ i,i<n->Pf w (rows.getD i []) (ts.getD i tm0)) :
 Bk (w.alloc (.cells rows.flatten.toArray 26)) (some ⟨w.heap.size,0,none⟩) n n ts:=by
 have a:=Arr.new w 26 rows.flatten;have b:=Arr.ownK (base:=0) a f d (Nat.zero_le _) (by unfold maxLen; omega);exact ⟨rows,b.slk (by omega),e,fun i c=>(h i c).ext ((Ext.refl w).alloc _)⟩
theorem Rd {l:List (List UInt8)} (b:cs.size=n) (h6:n<=1000000) (a:l.length=n) (h:∀ i,i<n->∃ s,cs.toList.getD i undef = .string s/\Aj s=l.getD i []) :
 G0 (w.alloc (.cells cs 9)) (some ⟨w.heap.size,0,none⟩) n n l:=⟨cs.toList,(Az w 0 9 cs n b (Nat.zero_le _) h6).sl,a,h⟩
def awR (s:Nat):List (List Value):=[[.string ⟨#[49,47,50]⟩, .slice (some ⟨s,0,none⟩) 2 2],[.string ⟨#[49]⟩, .slice (some ⟨s+1,0,none⟩) 2 2],[.string ⟨#[45,49,47,50]⟩, .slice (some ⟨s+1+1,0,none⟩) 2 2]]
def Re (w:World):World:=(((w.alloc (.cells #[.int .i64 1, .int .i64 1] 3)).alloc (.cells #[.int .i64 1, .int .i64 0] 3)).alloc (.cells #[.int .i64 1, .int .i64 1] 3))
def awW (w:World):World:=(Re w).alloc (.cells #[.string ⟨#[49,47,50]⟩, .slice (some ⟨w.heap.size,0,none⟩) 2 2, .string ⟨#[49]⟩, .slice (some ⟨w.heap.size+1,0,none⟩) 2 2, .string ⟨#[45,49,47,50]⟩, .slice (some ⟨w.heap.size+1+1,0,none⟩) 2 2] 26)
theorem Dc (w:World) (o:Obj):(w.alloc o).heap.size=w.heap.size+1:=by simp
theorem OK (w:World):Ext w (awW w):=((((Ext.refl w).alloc _).alloc _).alloc _).alloc _
theorem awM (w:World):Bk (awW w) (some ⟨w.heap.size+1+1+1,0,none⟩) 3 3 Aw.M:=by
 have c:=K5 (w:=w) (cs:=#[.int .i64 1, .int .i64 1]) (xs:=[1,1]) (n:=2) rfl (by omega) rfl;have d:=K5 (w:=w.alloc (.cells #[.int .i64 1, .int .i64 1] 3)) (cs:=#[.int .i64 1, .int .i64 0]) (xs:=[1,0]) (n:=2) rfl (by omega) rfl;have a:=K5 (w:=(w.alloc (.cells #[.int .i64 1, .int .i64 1] 3)).alloc (.cells #[.int .i64 1, .int .i64 0] 3)) (cs:=#[.int .i64 1, .int .i64 1]) (xs:=[1,1]) (n:=2) rfl (by omega) rfl;have e:=(c.alloc (.cells #[.int .i64 1, .int .i64 0] 3)).alloc (.cells #[.int .i64 1, .int .i64 1] 3);have b:=d.alloc (.cells #[.int .i64 1, .int .i64 1] 3)
 rw [Dc] at b a;rw [Dc] at a;have f:(Re w).heap.size=w.heap.size+1+1+1:=by unfold Re; rw [Dc,Dc,Dc]
 have h:=PL (w:=Re w) (rows:=awR w.heap.size) (ts:=Aw.M) (n:=3) (by simp [awR]) rfl rfl (by omega) (fun i g=>by
  have h3:i=0\/i=1\/i=2:=by omega
  rcases h3 with rfl|rfl|rfl
  · exact ⟨_,_,_,_,rfl,rfl,e⟩
  · exact ⟨_,_,_,_,rfl,rfl,b⟩
  · exact ⟨_,_,_,_,rfl,rfl,a⟩)
 rw [f] at h;exact h
theorem Sk (a:AR w):Calls prog 12 #[.int .i64 2, .slice (some ⟨w.heap.size+1+1+1,0,none⟩) 3 3] (awW w) (Cr (awW w) 2 Aw.T1 0):=by
 refine (J5 (vars:=2) (a.ext (OK w)) (awM w) (by decide) (by omega) (fun _ _ _=>Aw.mk_sum)).mono ?_;intro e b h;rcases h with ⟨h,_⟩|⟨_,_,h,_⟩|⟨_,_,_,h⟩
 · exact absurd ⟨by omega,by omega⟩ h
 · exact absurd Aw.mk_ok h
 · rw [Aw.mk_res] at h;exact h
theorem TF (b:AR w):Calls prog 16 #[.int .i64 2, .int .i64 0] w (Cr w 2 Aw.T1 0):=by
 refine (L5 (vars:=2) (i:=0) b).mono ?_;intro e c h;rcases h with ⟨_,_,_,_,h⟩|⟨h,_⟩
 · have a:C9 w (resQ 2 [(Ej 0,1)]) e c:=h;rw [Aw.var_res] at a;exact a
 · exact absurd ⟨by omega,by omega,by omega,by omega⟩ h
theorem TG (b:AR w) (h:Bk w a n c Aw.T1):Calls prog 20 #[.agg #[.int .i64 2, .slice a n c], .agg #[.int .i64 2, .slice a n c]] w (Cr w 2 Aw.T2 0):=by
 have h6:∀ t∈Aw.T1,t.1.length<=570:=by decide
 refine (QA (va:=2) (vb:=2) b h h h6 h6 (fun la lb h1 h2 _=>by
  rw [Aw.rd1] at h1 h2;cases h1; cases h2
  exact Aw.mul_ok)).mono ?_
 intro e d h;rw [Aw.rd1] at h;rcases h with ⟨la,lb,h1,h2,_,h⟩|⟨_,h,_⟩|⟨h,_⟩
 · cases h1; cases h2;rcases h with ⟨_,h⟩|⟨h,_⟩
   · rw [Aw.mul_res] at h;exact h
   · exact absurd h Aw.mul_deg
 · exact absurd rfl h
 · simp at h
theorem Sm (d:AR w) (h:Bk w a n c Aw.T2) (f:G0 w b 2 2 [Aw.s12,Aw.s7]):Calls prog 57 #[.agg #[.int .i64 2, .slice a n c], .slice b 2 2] w (K2 w Aw.s14 0):=by
 refine (PK (va:=2) d h f (by decide) (by decide) (by omega) (fun l g h1 h2 _=>by
  rw [Aw.rd2] at h1;rw [Aw.pt_rd] at h2;cases h1; cases h2
  exact ⟨Aw.ev_ok,Aw.ev_str⟩)).mono ?_
 intro e i h;rw [Aw.rd2,Aw.pt_rd] at h;rcases h with ⟨l,g,h1,h2,_,h⟩|⟨_,h,_⟩|⟨h,_⟩
 · cases h1; cases h2;rw [Aw.ev_val,Aw.txt_14] at h;exact h
 · exact absurd rfl h
 · simp at h
theorem Rf (g:AR w) (i:Bk w a n c Aw.T1) (j:Bk w b m d Aw.T1):Calls prog 31 #[.agg #[.int .i64 2, .slice a n c], .agg #[.int .i64 2, .slice b m d]] w fun e f=>e = .returned (.bool true)/\Ext w f:=by
 refine (Nt (v1:=2) (v2:=2) g i j (by decide)).mono ?_;rintro e f ⟨rfl,h⟩;refine ⟨?_,h⟩;rw [Aw.rd1];simp
theorem PM (d:AR w) (h:Bk w a n c Aw.T2):Calls prog 33 #[.agg #[.int .i64 2, .slice a n c]] w fun e b=>e = .returned (.int .i64 2)/\Ext w b:=by
 refine (Mo (vars:=2) d h (by decide)).mono ?_;rintro e b ⟨rfl,h⟩;rw [Aw.deg_val];exact ⟨rfl,h⟩
theorem PN (F:AR w):Calls prog 11 #[] w fun e w'=>e = .returned (.bool true)/\Ext w w':=by
 have E:=qh (Sk F);have y:=OK w;unfold awW Re at E y
 go_enter func11,ntmps11
 go_wp2_with fail
 refine E.out.mono ?_;rintro e w1 ⟨I,n1,L,rfl,O,Y⟩;have p:=y.trans O;have f:BW 2 I n1 L = .agg #[.int .i64 2, .slice I n1 L]:=rfl;rw [f];have o:(Aq 2 I n1 L).toArray=#[.int .i64 2, .slice I n1 L]:=rfl;have r:=Arr.new w1 28 (Aq 0 none 0 0);have S:=Y.sl;clear y O E Y
 go_upto_region 2 with (refine Aa (vs:=Aq 2 I n1 L) rfl rfl rfl rfl rfl Ae r rfl (Ar _ _ _ _) ?_; intro w2 t a8)
 have z:Ext w1 w2:=((Ext.refl w1).alloc _).grownR a8 (lrf _);have k:=p.trans z;have T:=S.ext z;have G:=t.c 0 rfl;have H:=t.c 1 rfl;clear r a8 o f t S z p;generalize w1.heap.size=Q1 at *
 have ad:=qh (TF (F.ext k))
 go_wp2_with fail
 refine ad.out.mono ?_;rintro e w3 ⟨J,n3,M,rfl,P,Z⟩;have f:BW 2 J n3 M = .agg #[.int .i64 2, .slice J n3 M]:=rfl;rw [f];have o:(Aq 2 J n3 M).toArray=#[.int .i64 2, .slice J n3 M]:=rfl;have r:=Arr.new w3 28 (Aq 0 none 0 0);have W:=Z.sl;clear ad Z
 go_upto_region 3 with (refine Aa (vs:=Aq 2 J n3 M) rfl rfl rfl rfl rfl Ae r rfl (Ar _ _ _ _) ?_; intro w4 v a9)
 have A:Ext w3 w4:=((Ext.refl w3).alloc _).grownR a9 (lrf _);have d:=P.trans A;have l:=k.trans d;have U:=T.ext d;have C:=W.ext A;have G:=d.cell G;have H:=d.cell H;have q0:=v.c 0 rfl;have q1:=v.c 1 rfl;clear r a9 o f v T W P A d k;generalize w3.heap.size=Q3 at *
 have ab:=qh (TG (F.ext l) C)
 go_wp2_with fail
 refine ab.out.mono ?_;rintro e w5 ⟨K,n5,N,rfl,Q,a0⟩;have f:BW 2 K n5 N = .agg #[.int .i64 2, .slice K n5 N]:=rfl;rw [f];have o:(Aq 2 K n5 N).toArray=#[.int .i64 2, .slice K n5 N]:=rfl;have r:=Arr.new w5 28 (Aq 0 none 0 0);have a2:=a0.sl;clear ab a0
 go_upto_region 4 with (refine Aa (vs:=Aq 2 K n5 N) rfl rfl rfl rfl rfl Ae r rfl (Ar _ _ _ _) ?_; intro w6 x aa)
 have B:Ext w5 w6:=((Ext.refl w5).alloc _).grownR aa (lrf _);have b:=Q.trans B;have m:=l.trans b;have V:=U.ext b;have X:=C.ext b;have D:=a2.ext B;have G:=b.cell G;have H:=b.cell H;have q0:=b.cell q0;have q1:=b.cell q1;have r0:=x.c 0 rfl;have r1:=x.c 1 rfl;clear r aa o f x U C a2 Q B b l;generalize w5.heap.size=Q5 at *
 have g:=(Ext.refl w6).alloc (.cells #[.string ⟨#[49,47,50]⟩, .string ⟨#[55]⟩] 9)
 have ac:G0 (w6.alloc (.cells #[.string ⟨#[49,47,50]⟩, .string ⟨#[55]⟩] 9)) (some ⟨w6.heap.size,0,none⟩) 2 2 [Aw.s12,Aw.s7]:=Rd rfl (by omega) rfl (fun i hi=>by
  have h2:i=0\/i=1:=by omega
  rcases h2 with rfl|rfl
  · exact ⟨_,rfl,rfl⟩
  · exact ⟨_,rfl,rfl⟩)
 have a7:=qh (Sm (F.ext (m.trans g)) (D.ext g) ac);clear ac
 go_wp2_with fail
 refine a7.out.mono ?_;rintro e w7 ⟨rfl,R⟩;have a:=g.trans R;have n:=m.trans a;have G:=a.cell G;have H:=a.cell H;have q0:=a.cell q0;have q1:=a.cell q1;have r0:=a.cell r0;have r1:=a.cell r1;have a6:=qh (Rf (F.ext n) (V.ext a) (X.ext a));have a4:=D.ext a;have s:(Value.string ⟨Aw.s14.toArray⟩) = .string ⟨#[49,47,52]⟩:=rfl;rw [s];clear a7 g R V X D a m s
 go_wp2_with fail
 refine a6.out.mono ?_;rintro e w8 ⟨rfl,j⟩;have r0:=j.cell r0;have r1:=j.cell r1;have q:=n.trans j;have af:=qh (PM (F.ext q) (a4.ext j));clear a6 j a4 n
 go_wp2_with fail
 refine af.out.mono ?_;rintro e w9 ⟨rfl,ae⟩;go_wp2;go_ret;exact ⟨rfl,q.trans ae⟩
theorem Ny {xs ys:List Tx} (hp:xs.take k=ys.take k) (h1:k<xs.length) (h2:k<ys.length) (he:xs.getD k tm0=ys.getD k tm0):xs.take (k+1)=ys.take (k+1):=by
 simp only [gqq,h1,h2,List.getElem?_eq_getElem,Option.getD_some] at he;rw [List.take_succ_eq_append_getElem h1,List.take_succ_eq_append_getElem h2,hp,he]
theorem Fq {xs ys:List Tx} (hx:Bk w a n c xs) (hy:Bk w b m d ys) :
 Calls prog 18 #[.agg #[.int .i64 va, .slice a n c], .agg #[.int .i64 vb, .slice b m d]] w fun e w'=>e = .returned (.bool (decide (va=vb/\xs=ys)))/\Ext w w':=by
 obtain ⟨r,hr⟩:∃ r,decide (va=vb/\xs=ys)=r:=⟨_,rfl⟩;rw [hr];have HR:=qh hr;clear hr;have a0:=hx.len;have a3:=hy.len;obtain ⟨rx,hX,_,a4⟩:=hx;obtain ⟨ry,hY,_,a5⟩:=hy;have aj:=qh a4;have ak:=qh a5;have J:=qh a0;have K:=qh a3;clear a4 a5 a0 a3;have aw:=hX.le;have av:=hY.le
 go_enter func18,ntmps18
 go_upto_region 1 with (fail)
 refine Dm ?_;intro w0 P M N ap;have ax:=M.c 0 rfl;have aq:=M.c 1 rfl;have ay:=N.c 0 rfl;have ar:=N.c 1 rfl;clear M N ap;by_cases hv:va=vb
 · subst hv;have ao:(va != va)=false:=by simp
   by_cases Z:n=m
   · have an:((n:Int) != (m:Int))=false:=by simp [Z]
     have HL:=qh Z;clear Z;go_wp2
     go_loopw [5] (fun i wr=>∃ k:Nat,k<=n/\i = .int .i64 k/\Ext w0 wr/\Hid (xs.take k=ys.take k)) (fun i _=>n-(intOf i).toNat)
     case atStart=>exact ⟨0,Nat.zero_le _,rfl,Ext.refl _,qh rfl⟩
     case round =>
      obtain ⟨k,hk,rfl,H,HP⟩:=hrel;have O:=P.trans H;have ae:=H.cell aq;have af:=H.cell ar;by_cases T:k<n
      · have t:k<m:=by have:=HL.out; omega
        obtain ⟨q,o1,rfl,R⟩:=(hX.ext O).rd (by omega);obtain ⟨s,o2,rfl,S⟩:=(hY.ext O).rd (by omega);obtain ⟨s1,a1,n1,c1,a6,a8,ac⟩:=aj.out k T;obtain ⟨I,a2,n2,c2,a7,a9,ad⟩:=ak.out k t;have x0:=R k T 0 (by omega);have x1:=R k T 1 (by omega);have y0:=S k t 0 (by omega);have y1:=S k t 1 (by omega);rw [a6] at x0 x1;rw [a7] at y0 y1;simp only [List.getD_cons_zero,List.getD_cons_succ,Nat.add_zero] at x0 x1 y0 y1;have Y:=fun (g:World) (f:Ext wr g)=>qh (Pe ((ac.ext O).ext f) ((ad.ext O).ext f))
        have G:Hid ((xs.getD k tm0).1=Aj s1/\(ys.getD k tm0).1=Aj I):=qh ⟨a8.symm,a9.symm⟩
        have W:Hid (((xs.getD k tm0).1≠(ys.getD k tm0).1\/(xs.getD k tm0).2≠(ys.getD k tm0).2)->r=false):=qh (fun h=>by
         rw [<-HR.out];apply decide_eq_false;rintro ⟨_,rfl⟩
         rcases h with h|h <;> exact h rfl)
        clear R S a6 a7 a8 a9 ac ad;generalize aa:(xs.getD k tm0).2=E at *
        generalize ab:(ys.getD k tm0).2=e2 at *
        have X:=qh (And.intro aa ab);clear aa ab;go_wp2;by_cases x:s1.toList=I.toList
        · have ag:(s1.toList != I.toList)=false:=by simp [x]
          have al:Hid ((xs.getD k tm0).1=(ys.getD k tm0).1):=qh (by
           rw [G.out.1,G.out.2];unfold Aj;rw [ByteArray.toList_eq,ByteArray.toList_eq] at x
           exact x)
          obtain ⟨L,Q⟩:∃ L,decide (E=e2)=L:=⟨_,rfl⟩;have V:=fun (g:World) (f:Ext wr g)=>qh (Y g f).out;rw [Q] at V;have U:=qh Q;clear Y Q;have o:=fun (g:World) (f:Ext wr g)=>qh (And.intro (f.cell ae) (And.intro (f.cell af) (And.intro (f.cell x0) (And.intro (f.cell x1) (And.intro (f.cell y0) (f.cell y1))))))
          refine Ab (by kernel_rfl) (fun g=>Ext wr g)
           [he (.pointer (some ⟨w.heap.size,1,none⟩)),
 he (.slice (some ⟨q,o1,none⟩) n c),
 he (.int .i64 (k:Int)),
 he (.pointer (some ⟨q,(o1+k*2),none⟩)),
 he (.pointer (some ⟨q,(o1+k*2),none⟩)),
 he (.string s1),
 he (.pointer (some ⟨(w.heap.size+1),1,none⟩)),
 he (.slice (some ⟨s,o2,none⟩) m d),
 he (.int .i64 (k:Int)),
 he (.pointer (some ⟨s,(o2+k*2),none⟩)),
 he (.pointer (some ⟨s,(o2+k*2),none⟩)),
 he (.string I),
 he (.bool false),
 he (.bool false),
 he (.pointer (some ⟨w.heap.size,1,none⟩)),
 he (.slice (some ⟨q,o1,none⟩) n c),
 he (.int .i64 (k:Int)),
 he (.pointer (some ⟨q,(o1+k*2),none⟩)),
 he (.pointer (some ⟨q,((o1+k*2)+1),none⟩)),
 he (.slice a1 n1 c1),
 he (.pointer (some ⟨(w.heap.size+1),1,none⟩)),
 he (.slice (some ⟨s,o2,none⟩) m d),
 he (.int .i64 (k:Int)),
 he (.pointer (some ⟨s,(o2+k*2),none⟩)),
 he (.pointer (some ⟨s,((o2+k*2)+1),none⟩)),
 he (.slice a2 n2 c2),
 hp (fun v g=>v = .bool L),
 he (.bool (!L)),
 he (.bool (!L))]
           (by kernel_rfl) (fun _ _ e h=>h.trans e) ((Ext.refl wr).drew) ⟨trivial,trivial,trivial,trivial,trivial,trivial,trivial,trivial,trivial,trivial,trivial,trivial,trivial,trivial,trivial,trivial,trivial,trivial,trivial,trivial,trivial,trivial,trivial,trivial,trivial,trivial,fun v w w' e h=>h,trivial,trivial,trivial⟩ ⟨?o0, ?o1, ?o2, ?o3, ?o4, ?o5, ?o6, ?o7, ?o8, ?o9, ?o10, ?o11, ?o12, ?o13, ?o14, ?o15, ?o16, ?o17, ?o18, ?o19, ?o20, ?o21, ?o22, ?o23, ?o24, ?o25, ?o26, ?o27, ?o28,trivial⟩ ?fin
          case o0 | o6 | o14 | o18 | o20 | o24=>exact ofa (d:=1)
          case o1 | o5 | o7 | o11 | o15 | o19 | o21 | o25=>exact ol
          case o2 | o8 | o13 | o16 | o22=>exact omv
          case o4 | o10=>exact ofa (d:=0)
          case o3 =>
           refine An rfl fun l g f j h => ?_;have e0:l (.tmp 28)=(.slice (some ⟨q,o1,none⟩) n c):=h.1;have E:l (.tmp 29)=(.int .i64 (k:Int)):=h.2.1;obtain ⟨y,z,A,B,C,D⟩:=(o g f).out;go_simp
           try (first | (intros; omega) | exact IntWalk.i64_in _ (by omega))
          case o9 =>
           refine An rfl fun l g f j h => ?_;have e0:l (.tmp 34)=(.slice (some ⟨s,o2,none⟩) m d):=h.1;have E:l (.tmp 35)=(.int .i64 (k:Int)):=h.2.1;obtain ⟨y,z,A,B,C,D⟩:=(o g f).out;go_simp
           try (first | (intros; omega) | exact IntWalk.i64_in _ (by omega))
          case o12 =>
           refine An rfl fun l g f j h => ?_;have e0:l (.tmp 32)=(.string s1):=h.1;have E:l (.tmp 38)=(.string I):=h.2.1;obtain ⟨y,z,A,B,C,D⟩:=(o g f).out;go_simp
           try (first | (intros; omega) | exact IntWalk.i64_in _ (by omega))
          case o17 =>
           refine An rfl fun l g f j h => ?_;have e0:l (.tmp 42)=(.slice (some ⟨q,o1,none⟩) n c):=h.1;have E:l (.tmp 43)=(.int .i64 (k:Int)):=h.2.1;obtain ⟨y,z,A,B,C,D⟩:=(o g f).out;go_simp
           try (first | (intros; omega) | exact IntWalk.i64_in _ (by omega))
          case o23 =>
           refine An rfl fun l g f j h => ?_;have e0:l (.tmp 48)=(.slice (some ⟨s,o2,none⟩) m d):=h.1;have E:l (.tmp 49)=(.int .i64 (k:Int)):=h.2.1;obtain ⟨y,z,A,B,C,D⟩:=(o g f).out;go_simp
           try (first | (intros; omega) | exact IntWalk.i64_in _ (by omega))
          case o26 =>
           refine Am rfl fun l g f j au h => ?_;have E:l (.tmp 46)=(.slice a1 n1 c1):=h.2.1;have e2:l (.tmp 52)=(.slice a2 n2 c2):=h.2.2.1;obtain ⟨y,z,A,B,C,D⟩:=(o g f).out;refine ⟨26,#[.slice a1 n1 c1, .slice a2 n2 c2],by go_simp,((V g f).out).mono ?_⟩;rintro e w' ⟨rfl,am⟩;exact ⟨_,rfl,am.ext,rfl⟩
          case o27 =>
           refine An rfl fun l g f j h => ?_;obtain ⟨v0,e0,rfl⟩:=h.1;obtain ⟨y,z,A,B,C,D⟩:=(o g f).out;go_simp
          case o28 =>
           refine An rfl fun l g f j h => ?_;have e0:l (.tmp 40)=(.bool false):=h.1;have e2:l (.tmp 54)=(.bool (!L)):=h.2.2.1;obtain ⟨y,z,A,B,C,D⟩:=(o g f).out;go_simp
          case fin =>
           intro g f;rintro _ rfl;change wpList _ _ _ _ _ _;simp only [la,lb,ld,lz,Act.put,lq,ly,lx];cases L with
           | true =>
            have ah:=qh (of_decide_eq_true U.out);go_wp2;go_roundw
            case rel=>exact ⟨k+1,by omega,by go_num,H.trans f,qh (Ny HP.out (by have:=J.out; omega) (by have:=K.out; omega) (Prod.ext al.out (by rw [X.out.1,X.out.2,ah.out])))⟩
            case measure=>simp [intOf]; omega
           | false =>
            have p:Hid (r=false):=qh (W.out (Or.inr (of_decide_eq_false U.out)));go_wp2;go_ret;exact ⟨by rw [p.out]; rfl,O.trans f⟩
        · have ag:(s1.toList != I.toList)=true:=bne_iff_ne.2 x
          have p:Hid (r=false):=qh (W.out (Or.inl (by
           rw [G.out.1,G.out.2];unfold Aj;intro h;apply x;rw [ByteArray.toList_eq,ByteArray.toList_eq]
           exact h)))
          have F:=fun (g:World) (f:Ext wr g)=>qh (And.intro (f.cell ae) (And.intro (f.cell af) (And.intro (f.cell x0) (And.intro (f.cell x1) (And.intro (f.cell y0) (f.cell y1))))))
          refine Ab (by kernel_rfl) (fun g=>Ext wr g)
           [he (.pointer (some ⟨w.heap.size,1,none⟩)),
 he (.slice (some ⟨q,o1,none⟩) n c),
 he (.int .i64 (k:Int)),
 he (.pointer (some ⟨q,(o1+k*2),none⟩)),
 he (.pointer (some ⟨q,(o1+k*2),none⟩)),
 he (.string s1),
 he (.pointer (some ⟨(w.heap.size+1),1,none⟩)),
 he (.slice (some ⟨s,o2,none⟩) m d),
 he (.int .i64 (k:Int)),
 he (.pointer (some ⟨s,(o2+k*2),none⟩)),
 he (.pointer (some ⟨s,(o2+k*2),none⟩)),
 he (.string I),
 he (.bool true),
 he (.bool true),
 he undef,
 he undef,
 he undef,
 he undef,
 he undef,
 he undef,
 he undef,
 he undef,
 he undef,
 he undef,
 he undef,
 he undef,
 he undef,
 he undef,
 he (.bool true)]
           (by kernel_rfl) (fun _ _ e h=>h.trans e) ((Ext.refl wr).drew) ⟨trivial,trivial,trivial,trivial,trivial,trivial,trivial,trivial,trivial,trivial,trivial,trivial,trivial,trivial,trivial,trivial,trivial,trivial,trivial,trivial,trivial,trivial,trivial,trivial,trivial,trivial,trivial,trivial,trivial,trivial⟩ ⟨?o0, ?o1, ?o2, ?o3, ?o4, ?o5, ?o6, ?o7, ?o8, ?o9, ?o10, ?o11, ?o12, ?o13, ?o14, ?o15, ?o16, ?o17, ?o18, ?o19, ?o20, ?o21, ?o22, ?o23, ?o24, ?o25, ?o26, ?o27, ?o28,trivial⟩ ?fin
          case o0 | o6=>exact ofa (d:=1)
          case o1 | o5 | o7 | o11=>exact ol
          case o2 | o8 | o13=>exact omv
          case o4 | o10=>exact ofa (d:=0)
          case o14 | o15 | o16 | o17 | o18 | o19 | o20 | o21 | o22 | o23 | o24 | o25 | o26 | o27=>exact Rq rfl
          case o3 =>
           refine An rfl fun l g f j h => ?_;have e0:l (.tmp 28)=(.slice (some ⟨q,o1,none⟩) n c):=h.1;have E:l (.tmp 29)=(.int .i64 (k:Int)):=h.2.1;obtain ⟨y,z,A,B,C,D⟩:=(F g f).out;go_simp
           try (first | (intros; omega) | exact IntWalk.i64_in _ (by omega))
          case o9 =>
           refine An rfl fun l g f j h => ?_;have e0:l (.tmp 34)=(.slice (some ⟨s,o2,none⟩) m d):=h.1;have E:l (.tmp 35)=(.int .i64 (k:Int)):=h.2.1;obtain ⟨y,z,A,B,C,D⟩:=(F g f).out;go_simp
           try (first | (intros; omega) | exact IntWalk.i64_in _ (by omega))
          case o12 =>
           refine An rfl fun l g f j h => ?_;have e0:l (.tmp 32)=(.string s1):=h.1;have E:l (.tmp 38)=(.string I):=h.2.1;obtain ⟨y,z,A,B,C,D⟩:=(F g f).out;go_simp
           try (first | (intros; omega) | exact IntWalk.i64_in _ (by omega))
          case o28 =>
           refine An rfl fun l g f j h => ?_;have e0:l (.tmp 40)=(.bool true):=h.1;have e2:l (.tmp 54)=undef:=h.2.2.1;obtain ⟨y,z,A,B,C,D⟩:=(F g f).out;go_simp
          case fin =>
           intro g f;change wpList _ _ _ _ _ _;simp only [la,lb,ld,lz,Act.put,lq,ly,lx];go_wp2;go_ret;exact ⟨by rw [p.out]; rfl,O.trans f⟩
      · have ai:Hid (r=true):=qh (by
         rw [<-HR.out];apply decide_eq_true;refine ⟨by trivial, ?_⟩;have h1:=HP.out;have h2:=HL.out
         rwa [List.take_of_length_le (by have:=J.out; omega),List.take_of_length_le (by have:=K.out; omega)] at h1)
        go_wp2;go_ret;exact ⟨by rw [ai.out]; rfl,O⟩
   · have an:((n:Int) != (m:Int))=true:=by simp; omega
     have p:Hid (r=false):=qh (by
      rw [<-HR.out];apply decide_eq_false;rintro ⟨_,rfl⟩
      exact Z (J.out.symm.trans K.out))
     clear Z;go_wp2;go_ret;exact ⟨by rw [p.out]; rfl,P⟩
 · have ao:(va != vb)=true:=by simpa using hv
   have p:Hid (r=false):=qh (by
    rw [<-HR.out];apply decide_eq_false;rintro ⟨h,_⟩
    exact hv h)
   clear hv;go_wp2;go_ret;exact ⟨by rw [p.out]; rfl,P⟩
def Nz (ts:List Tx) (nt d:Nat):Prop:=ts.length<=nt/\∀ t∈ts,t.1.length<=d/\t.2.length<=12
instance (ts:List Tx) (nt d:Nat):Decidable (Nz ts nt d):=inferInstanceAs (Decidable (_/\_))
def NLL (ls:List (List Pl.Tm)) (v:Value) (w:World):Prop:=∃ a n c,v = .slice a n c/\n<=1000/\JO w a n c ls
theorem NLL.x (ls:List (List Pl.Tm)):StX (NLL ls):=fun _ _ _ x ⟨a,n,c,h1,h2,h3⟩=>⟨a,n,c,h1,h2,h3.ext x⟩
def Rg (w:World) (va vb:Int) (oa ob:Option (List Pl.Tm)) (e:Ending) (w':World):Prop :=
 (∃ la lb,oa=some la/\ob=some lb/\va=vb/\C9 w (resQ va (la ++ lb)) e w') \/
 ((oa.isSome && ob.isSome)=true/\va≠vb/\Cr w 0 [] 4 e w')\/((oa.isSome && ob.isSome)=false/\Cr w 0 [] 1 e w')
theorem Bk.nil (w:World):Bk w none 0 0 []:=⟨[],SlK.nil w 2,rfl,fun i a=>absurd a (by omega)⟩
theorem Sn (h:(txt q).length<=k+2) (h1:1<=k):q.den<P2 (4*k):=by
 have e:(16:Nat)^k=P2 (4*k):=by unfold P2; rw [Nat.pow_mul]
 have b:10^k<=16^k:=Nat.pow_le_pow_left (by omega) _;rw [<-e];by_cases a:q.den=1
 · rw [a];exact Nat.one_lt_pow (by omega) (by omega)
 · have h3:=KS q.den;have h4:(Lib.decDigits q.den).length<=k:=by
    unfold txt at h;rw [if_neg a] at h;have h5:0<(Lib.itoa q.num).length:=by
     unfold Lib.itoa;split
     · simp
     · exact List.length_pos_iff.2 (W.dec_ne _)
    simp at h;omega
   exact Nat.lt_of_lt_of_le h3 (Nat.le_trans (Nat.pow_le_pow_right (by omega) h4) b)
section
variable {va:Int} {ts:List Tx} {l:List Pl.Tm}
end
end Go.Proofs.YtlbmnokpiilfpaaGreatDoor
namespace Go.Proofs.YtlbmnokpiilfpaaGreatDoor.Pl

end Go.Proofs.YtlbmnokpiilfpaaGreatDoor.Pl
namespace Go.Proofs.YtlbmnokpiilfpaaGreatDoor
open Go Go.RowKit
variable {f:Act} {ops:Array Oper} {Q:Exit->Act->World->Prop} {i va vars vb:Int} {rest:List Oper} {l:List UInt8} {D Y Z b g k m n:Nat} {o:Oper} {x y:Operand} {p q:Rat} {w w':World}
namespace Pl
theorem plE_len {a b:List Int} (h:a.length=b.length):(plE a b).length=a.length:=by
 unfold plE;rw [List.length_zipWith,h,Nat.min_self]
end Pl
namespace Pl
def QB (D Y:Nat) (q:Rat):Prop:=∃ z:Int,q*(D:Rat)=(z:Rat)/\z.natAbs<=Y
theorem QB.zero (D Y:Nat):QB D Y 0:=⟨0,by rw [Rat.zero_mul]; rfl,by simp⟩
theorem QB.add (hp:QB D Y p) (a:QB D Z q):QB D (Y+Z) (p+q):=by
 obtain ⟨x,h1,h2⟩:=hp;obtain ⟨y,h3,h4⟩:=a;refine ⟨x+y,by rw [Rat.add_mul,h1,h3,Rat.intCast_add], ?_⟩;have:=Int.natAbs_add_le x y;omega
theorem QB.neg (h:QB D Y q):QB D Y (-q):=by
 obtain ⟨x,h1,h2⟩:=h;exact ⟨-x,by rw [Rat.neg_mul,h1,Rat.intCast_neg],by rw [Int.natAbs_neg]; exact h2⟩
theorem QB.mono (h:QB D Y q) (a:Y<=Z):QB D Z q:=by
 obtain ⟨x,h1,h2⟩:=h;exact ⟨x,h1,by omega⟩
theorem QB.scale (h:QB D Y q) (k:Nat):QB (D*k) (Y*k) q:=by
 obtain ⟨x,h1,h2⟩:=h;refine ⟨x*k, ?_,by rw [Int.natAbs_mul]; exact Nat.mul_le_mul h2 (lrf _)⟩;rw [Rat.natCast_mul,Rat.intCast_mul,<-h1,<-Rat.mul_assoc];rfl
theorem QB.parts (h:QB D Y q) (c:0<D):q.num.natAbs<=Y/\q.den∣D:=by
 obtain ⟨z,h1,h2⟩:=h;have h0:(D:Rat)≠0:=fun h=>by have:=Rat.natCast_eq_zero_iff.1 h; omega
 have e:q=mkRat z D:=by
  rw [EM,<-h1,Rat.mul_assoc,Rat.mul_inv_cancel _ h0,Rat.mul_one]
 obtain ⟨b,a⟩:=rat_frac (n:=z) (d:=D) (by omega);rw [e];refine ⟨Nat.le_trans (mkRat_le (by omega)).1 h2, ?_⟩;rw [a];exact Nat.div_dvd_of_dvd (Nat.gcd_dvd_right _ _)
theorem QB.rb (h:QB D Y q) (a:0<D) (h1:D<P2 b) (h2:Y<P2 b):RB b q :=
 ⟨Nat.lt_of_le_of_lt (h.parts a).1 h2,Nat.lt_of_le_of_lt (Nat.le_of_dvd a (h.parts a).2) h1⟩
theorem QB.of (a:q.den∣D) (b:q.num.natAbs<=Y):QB D (Y*D) q:=by
 refine ⟨zsc q D,(Kx a).symm, ?_⟩;unfold zsc;rw [Int.natAbs_mul];exact Nat.mul_le_mul b (Nat.div_le_self _ _)
def SB (D Y:Nat) (l:List Tm):Prop:=∀ t∈l,QB D Y t.2
theorem SB.coef {D Y:Nat} (e:List Int):∀ {l:List Tm},SB D Y l->QB D (l.length*Y) (coef l e)
 | [],_=>QB.zero _ _
 | t :: r,h=>by
  have h1:QB D Y (if t.1=e then t.2 else 0):=by
   split
   · exact h t (by simp)
   · exact QB.zero _ _
  have h2:=QB.add h1 (SB.coef e (l:=r) (fun s a=>h s (by simp [a])));exact h2.mono (by rw [List.length_cons,Nat.add_mul]; omega)
theorem SB.mono {D Y Z:Nat} {l:List Tm} (h:SB D Y l) (b:Y<=Z):SB D Z l:=fun t a=>(h t a).mono b
theorem SB.scale {D Y:Nat} {l:List Tm} (h:SB D Y l) (k:Nat):SB (D*k) (Y*k) l:=fun t a=>(h t a).scale k
theorem SB.app {a b:List Tm} (c:SB D Y a) (d:SB D Y b):SB D Y (a ++ b):=fun t e=>(List.mem_append.1 e).elim (c t) (d t)
theorem SB.app2 {E:Nat} {a b:List Tm} (c:SB D Y a) (d:SB E Z b):SB (D*E) (Y*E+Z*D) (a ++ b):=by
 refine SB.app ((c.scale E).mono (by omega)) ?_;rw [Nat.mul_comm D E];exact (d.scale D).mono (by omega)
theorem SB.of {Y:Nat} {l:List Tm} (h:∀ t∈l,t.2.num.natAbs<=Y):SB (Bq (l.map (·.2))) (Y*Bq (l.map (·.2))) l :=
 fun t a=>QB.of (FG (List.mem_map_of_mem a)) (h t a)
end Pl
theorem So {p:List Pl.Tm} (h6:∀ t∈p,t.1.length=6):(cnP p).length<=p.length:=by
 have h:=Pl.nodup_le ((cnP p).map (·.1)) (p.map (·.1)) (EU (FU h6).1).nodup (fun e he=>by
  obtain ⟨t,b,rfl⟩:=List.mem_map.1 he;obtain ⟨s,a,e⟩:=Oz h6 b;rw [<-e]
  exact List.mem_map_of_mem a)
 simpa using h
theorem SB.cn {p:List Pl.Tm} (h6:∀ t∈p,t.1.length=6) (h:Pl.SB D Y p):Pl.SB D (p.length*Y) (cnP p):=by
 intro t a;obtain ⟨h1,h2⟩:=FU h6;rw [<-Pl.coef_mem (EU h1).nodup a,h2];exact h.coef t.1
theorem Sp (h:Pl.RB b q):(txt q).length<=2*(b/3)+4:=by
 have h1:=N6 h.1;have h2:=Kq h.2;unfold txt;rw [List.length_append];split
 · simp; omega
 · simp; omega
def Lo (l:List Pl.Tm):Prop:=∀ t∈l,t.1.length=6/\∀ x∈t.1,0<=x/\x<=1048576
theorem Lo.small {l:List Pl.Tm} (h:Lo l):Cv l:=fun t a=>⟨(h t a).1,fun x b=>by have:=(h t a).2 x b; omega⟩
theorem Sq {p:List Pl.Tm} (h:Pl.SB D Y p) (a:0<D) (h1:D<P2 b) (h2:p.length*Y<P2 b) (c:b<=1920) (d:∀ t∈p,t.1.length=6/\∀ x∈t.1,0<=x/\x<=1099511627776) (f:p.length<=1000000):IE p:=by
 refine ⟨fun e he => ?_,f⟩;obtain ⟨t,g,rfl⟩:=Pl.coef_present he;exact ⟨RB.str ((h.coef t.1).rb a h1 h2) c,d t g⟩
theorem Rh {p:List Pl.Tm} (h:Pl.SB D Y p) (d:0<D) (h1:D<P2 b) (h2:p.length*Y<P2 b) (j:b<=1920) (g:Lo p) (l:p.length<=1000):J4 p where
 pre:=fun a s e x=>by
  have i:Pl.SB D Y a:=fun t c=>h t (by rw [<-e]; simp [c]);have f:a.length<=p.length:=by rw [<-e]; simp
  exact ((i.coef x).rb d h1 (Nat.lt_of_le_of_lt (Nat.mul_le_mul_right _ f) h2)).mono (by omega)
 each:=fun t c=>((h t c).rb d h1 (Nat.lt_of_le_of_lt (by
  have:1<=p.length:=List.length_pos_of_mem c;have:=Nat.mul_le_mul_right Y this
  omega) h2)).mono (by omega)
 fits:=Sq h d h1 h2 j (fun t c=>⟨(g t c).1,fun x k=>by have:=(g t c).2 x k; omega⟩) (by omega)
theorem Sr (h:(txt q).length<=k):q.num.natAbs<10^k :=
 Nat.lt_of_lt_of_le (Ox q).1 (Nat.pow_le_pow_right (by omega) h)
theorem TH {ts:List Tx} {l:List Pl.Tm} {nt d B:Nat} (h:rdP va ts=some l) (g:Nz ts nt d) (o:3<=d) (n:10^d<=P2 B) :
 ∃ D,0<D/\D<P2 (4*(d-2)*nt+1)/\Pl.SB D (P2 (B+(4*(d-2)*nt+1))) l:=by
 have e:∀ t∈l,(txt t.2).length<=d:=by
  intro m e;obtain ⟨t,c,j⟩:=FT h e;have h1:=Es (Cd j).1;rw [<-h1];exact (g.2 t c).1
 have a:=Eb h;have f:Bq (l.map (·.2))<P2 (4*(d-2)*nt+1):=by
  have h1:=QN (l:=l.map (·.2)) (b:=4*(d-2)) (fun q i=>by
   obtain ⟨t,c,rfl⟩:=List.mem_map.1 i
   exact Sn (k:=d-2) (by have:=e t c; omega) (by omega))
  refine Ah h1 ?_;have h2:l.length<=nt:=by rw [a]; exact g.1
  have:=Nat.mul_le_mul_left (4*(d-2)) h2;rw [List.length_map];omega
 refine ⟨_,Ck (l.map (·.2)),f,(Pl.SB.of (Y:=P2 B) (fun t c => ?_)).mono ?_⟩
 · have:=Sr (e t c);omega
 · rw [Co];exact Nat.mul_le_mul_left _ (Nat.le_of_lt f)
open Classical in
noncomputable def mulA (va vb:Int) (oa ob:Option (List Pl.Tm)):Int×List Tx×Int :=
 match oa,ob with
 | some la,some lb=>if va=vb then (if la≠[]/\lb≠[]/\24<Dl la+Dl lb then (0,[],2) else resQ va (Pl.prodT la lb)) else (0,[],4)
 | _,_=>(0,[],1)
noncomputable def addA (va vb:Int) (oa ob:Option (List Pl.Tm)):Int×List Tx×Int :=
 match oa,ob with
 | some la,some lb=>if va=vb then resQ va (la ++ lb) else (0,[],4)
 | _,_=>(0,[],1)
theorem Nc.a {oa ob:Option (List Pl.Tm)} {e:Ending} (h:Nc w va vb oa ob e w'):C9 w (mulA va vb oa ob) e w':=by
 unfold mulA;rcases h with ⟨la,lb,rfl,rfl,d,h⟩|⟨c,d,h⟩|⟨c,h⟩
 · simp only [if_pos d];rcases h with ⟨b,h⟩|⟨b,h⟩
   · rw [if_neg b]; exact h
   · rw [if_pos b]; exact h
 · cases oa <;> cases ob <;> simp at c;simp only [if_neg d];exact h
 · cases oa <;> cases ob <;> simp at c <;> exact h
theorem Rg.a {oa ob:Option (List Pl.Tm)} {e:Ending} (h:Rg w va vb oa ob e w'):C9 w (addA va vb oa ob) e w':=by
 unfold addA;rcases h with ⟨la,lb,rfl,rfl,c,h⟩|⟨b,c,h⟩|⟨b,h⟩
 · simp only [if_pos c];exact h
 · cases oa <;> cases ob <;> simp at b;simp only [if_neg c];exact h
 · cases oa <;> cases ob <;> simp at b <;> exact h
structure Pv (v:Int) (l:List Pl.Tm):Prop where
 v0:0<=v/\v<=6
 can:Pl.Canon 6 l
 inv:∀ t∈l,InV v.toNat t.1
theorem Pv.of {v:Int} {ts:List Tx} {l:List Pl.Tm} (h:rdP v ts=some l):Pv v l:=by
 have a:=(BT h).1;refine ⟨a,GE h, ?_⟩;obtain ⟨k,rfl⟩:∃ k:Nat,v=(k:Int):=⟨v.toNat,by omega⟩;rw [Int.toNat_natCast];exact Sc h
theorem InV.pl {a b:List Int} (q:InV n a) (r:InV n b):InV n (Pl.plE a b):=by
 obtain ⟨g,l,i⟩:=q;obtain ⟨m,o,j⟩:=r;refine ⟨by rw [Pl.plE_len (by omega),g],fun x c => ?_, ?_⟩
 · have f:∀ {a b:List Int},(∀ x∈a,0<=x)->(∀ x∈b,0<=x)->∀ x∈Pl.plE a b,0<=x:=by
    intro a
    induction a with
    | nil=>intro b _ _ x c; simp [Pl.plE] at c
    | cons u a ih =>
     intro b h1 h2 x c;cases b with
     | nil=>simp [Pl.plE] at c
     | cons w b =>
      have d:x=u+w\/x∈Pl.plE a b:=by simpa [Pl.plE] using c
      rcases d with rfl|c
      · have:=h1 u (by simp); have:=h2 w (by simp); omega
      · exact ih (fun z e=>h1 z (by simp [e])) (fun z e=>h2 z (by simp [e])) x c
   exact f l o x c
 · unfold A6 at i j |-;have p:(Pl.plE a b).take n=Pl.plE (a.take n) (b.take n):=by unfold Pl.plE; rw [List.take_zipWith]
   have la:(a.take n).length=(b.take n).length:=by simp [g,m]
   have k:Pl.plE (a.take n ++ List.replicate (6-(a.take n).length) 0) (b.take n ++ List.replicate (6-(b.take n).length) 0)=Pl.plE (a.take n) (b.take n) ++ List.replicate (6-(a.take n).length) 0:=by
    unfold Pl.plE;rw [List.zipWith_append la,<-la];congr 1;rw [List.zipWith_replicate];simp
   rw [i,j] at k;rw [p,k,Pl.plE_len la]
theorem K6 {a b:List Pl.Tm} (c:∀ t∈a,InV n t.1) (d:∀ t∈b,InV n t.1):∀ t∈a ++ b,InV n t.1:=fun t e=>(List.mem_append.1 e).elim (c t) (d t)
theorem Pv.app {v:Int} {a b:List Pl.Tm} (c:Pv v a) (d:Pv v b):Pv v (cnP (a ++ b)) :=
 ⟨c.v0,(FU fun t e=>(K6 c.inv d.inv t e).1).1,Sb (K6 c.inv d.inv)⟩
theorem Ri {a:Nat} (h:a<b):P2 a<P2 b:=Nat.pow_lt_pow_right (by omega) h
structure Bd (v:Int) (N d y:Nat) (l:List Pl.Tm):Prop where
 pv:Pv v l
 lo:Lo l
 len:l.length<=N
 sb:∃ D,0<D/\D<P2 d/\Pl.SB D (P2 y) l
section
variable {v:Int} {N M d e y z:Nat} {la lb:List Pl.Tm} {ts:List Tx}
theorem Bd.of {nt k B:Nat} (h:rdP v ts=some la) (a:Nz ts nt k) (c:3<=k) (b:10^k<=P2 B):Bd v nt (4*(k-2)*nt+1) (B+(4*(k-2)*nt+1)) la :=
 ⟨Pv.of h,IV h,by rw [Eb h]; exact a.1,TH h a c b⟩
theorem Lo.of {l:List Pl.Tm} (h:rdP v ts=some l):Lo l:=IV h
theorem Bd.app1 (f:Bd v N d y la) (g:Bd v M e z lb) (h1:y+e<m) (h2:z+d<m):(la ++ lb).length<=N+M/\∃ D,0<D/\D<P2 (d+e)/\Pl.SB D (P2 m) (la ++ lb):=by
 obtain ⟨D,i,b,j⟩:=f.sb;obtain ⟨E,k,c,l⟩:=g.sb;refine ⟨by have:=f.len; have:=g.len; rw [List.length_append]; omega,D*E,Nat.mul_pos i k,B9 b c,(j.app2 l).mono ?_⟩;have n:P2 y*E<=P2 (m-1):=by
  refine Nat.le_trans ?_ (MH (a:=y+e) (by omega));rw [Co];exact Nat.mul_le_mul_left _ (Nat.le_of_lt c)
 have o:P2 z*D<=P2 (m-1):=by
  refine Nat.le_trans ?_ (MH (a:=z+d) (by omega));rw [Co];exact Nat.mul_le_mul_left _ (Nat.le_of_lt b)
 have p:P2 m=P2 (m-1)*2:=by
  conv=>lhs; rw [show m=m-1+1 by omega,Co]
  rfl
 omega
theorem Bd.app {k m:Nat} (a:Bd v N d y la) (b:Bd v M e z lb) (h:rdP v ts=some (cnP (la ++ lb))) (h1:y+e<m) (h2:z+d<m) (j:N+M<=P2 k):Bd v (N+M) (d+e) (k+m) (cnP (la ++ lb)):=by
 have h6:∀ t∈la ++ lb,t.1.length=6:=fun t l=>(K6 a.pv.inv b.pv.inv t l).1;obtain ⟨c,D,f,g,i⟩:=a.app1 b h1 h2;refine ⟨a.pv.app b.pv,IV h,Nat.le_trans (So h6) c,D,f,g,(SB.cn h6 i).mono ?_⟩;rw [Co];exact Nat.mul_le_mul_right _ (Nat.le_trans c j)
theorem Bd.sum (a:Bd v N d y la) (c:Bd v M e z lb) (h1:y+e<m) (h2:z+d<m) (j:N+M<=P2 k) (h3:N+M<=1000) (h4:k+m<1920) (h5:d+e<=1920):J4 (la ++ lb):=by
 obtain ⟨l,D,f,g,i⟩:=a.app1 c h1 h2;refine Rh (b:=1920) i f (Ah g h5) ?_ (by omega) (fun t n=>(List.mem_append.1 n).elim (a.lo t) (c.lo t)) (by omega);refine Nat.lt_of_le_of_lt ?_ (Ri h4);rw [Co];exact Nat.mul_le_mul_right _ (Nat.le_trans l j)
theorem Bd.text (f:Bd v N d y la) (h:rdP v ts=some la) (h1:d<=840) (h2:y<840):∀ t∈ts,t.1.length<=570:=by
 intro t a;obtain ⟨D,b,c,e⟩:=f.sb;have i:=Ow h;rw [<-i] at a;obtain ⟨m,g,rfl⟩:=List.mem_map.1 a;have:=Sp ((e m g).rb b (Ah c h1) (Ri h2));show (txt m.2).length<=570;omega
end
structure Bx where
 g:Nat
 v:Int
 a:Option Addr
 n:Nat
 c:Nat
 ts:List Tx
def PBx (w0 w:World) (l:List Bx):Prop:=Ext w0 w/\∀ p∈l,Arr w p.g 28 (Aq p.v p.a p.n p.c)/\Bk w p.a p.n p.c p.ts
section
variable {w0 w w1 w':World} {l:List Bx} {i:Nat}
theorem PBx.e (h:PBx w0 w l):Ext w0 w:=h.1
theorem PBx.at {v:Int} {a:Option Addr} {c:Nat} {ts:List Tx} (h:PBx w0 w l) (hi:l[i]?=some ⟨g,v,a,n,c,ts⟩):Arr w g 28 (Aq v a n c)/\Bk w a n c ts:=h.2 _ (List.mem_of_getElem? hi)
theorem PBx.c {g:Nat} {v:Int} {a:Option Addr} {n c:Nat} {ts:List Tx} (h:PBx w0 w l) (hi:l[i]?=some ⟨g,v,a,n,c,ts⟩):w.cell? ⟨g,0,none⟩=some (.int .i64 v)/\w.cell? ⟨g,1,none⟩=some (.slice a n c) :=
 ⟨(h.at hi).1.cell (i:=0) (by simp [Aq]),(h.at hi).1.cell (i:=1) (by simp [Aq])⟩
theorem PBx.t {v:Int} {a:Option Addr} {c:Nat} {ts:List Tx} (h:PBx w0 w l) (hi:l[i]?=some ⟨g,v,a,n,c,ts⟩):Bk w a n c ts:=(h.at hi).2
theorem PBx.ext (h:PBx w0 w l) (e:Ext w w'):PBx w0 w' l:=⟨h.1.trans e,fun p hp=>⟨(h.2 p hp).1.ext e,(h.2 p hp).2.ext e⟩⟩
theorem PBx.one {v:Int} {a:Option Addr} {c:Nat} {ts:List Tx} (b:Ext w0 w) (d:Arr w g 28 (Aq v a n c)) (e:Bk w0 a n c ts):PBx w0 w [⟨g,v,a,n,c,ts⟩] :=
 ⟨b,fun p hp=>by rw [List.mem_singleton.1 hp]; exact ⟨d,e.ext b⟩⟩
theorem PBx.app {a:List Bx} (h:PBx w0 w l) (b:PBx w0 w a):PBx w0 w (l ++ a):=⟨h.1,fun p hp=>(List.mem_append.1 hp).elim (h.2 p) (b.2 p)⟩
theorem PBx.new {v:Int} {a:Option Addr} {c:Nat} {ts:List Tx} {o:Obj} (h:PBx w0 w l) (d:Ext w w1) (e:Bk w1 a n c ts) (b:Arr w' w1.heap.size 28 (Aq v a n c)) (f:(w1.alloc o).grownBy w' (some w1.heap.size)):PBx w0 w' (l ++ [⟨w1.heap.size,v,a,n,c,ts⟩]):=by
 have hF:Ext w1 w':=((Ext.refl w1).alloc _).grownR f (lrf _);have h1:=h.ext (d.trans hF);refine ⟨h1.1,fun p hp => ?_⟩;rcases List.mem_append.1 hp with hp|hp
 · exact h1.2 p hp
 · rw [List.mem_singleton.1 hp];exact ⟨b,e.ext hF⟩
end
section
variable {P:Program} {w:World}
theorem EW (b:o.guard=none) (j:o.op = .store 28 x y)
 {g:Nat} {t:TypeId} {cs:List Value} {v:Int} {a:Option Addr} {n c:Nat} (k:f.eval x = .pointer (some ⟨g,0,none⟩)) (l:f.eval y = .agg #[.int .i64 v, .slice a n c]) (h:Arr w g t cs) (i:cs.length=2)
 (e:∀ d,Arr d g t (Aq v a n c)->w.grownBy d (some g)->wpList Tryz.prog ops Q rest (f.put o.dst undef) d):wpList Tryz.prog ops Q (o :: rest) f w :=
 Aa (vs:=Aq v a n c) b j k l rfl Ae h i (Ar _ _ _ _) e
end
def Ss (w:World) (e:Ending) (w':World):Prop:=e = .returned (.bool true)/\Ext w w'
def NA (w0:World) (v:Int) (ts:List Tx) (err:Int) (e:Ending) (w':World):Prop:=∃ a n c,e = .returned (.tuple #[.agg #[.int .i64 v, .slice a n c], .int .i64 err])/\Ext w0 w'/\Bk w' a n c ts
theorem Cr.v {w0:World} {v:Int} {ts:List Tx} {b:Int} {e:Ending} {d:World} (h:Cr w0 v ts b e d):NA w0 v ts b e d:=by
 obtain ⟨a,n,c,h1,h2,h3⟩:=h;exact ⟨a,n,c,h1,h2,h3.sl⟩
section
variable {va vb:Int} {a b:Option Addr} {n c m d:Nat} {ta tb:List Tx} {w:World} {v err:Int} {t:List Tx}
end
open Classical in
noncomputable def mkA (vars:Int) (ts:List Tx):Int×List Tx×Int:=if 0<=vars/\vars<=6 then (if ∀ t∈ts,CS vars t then resQ vars (ts.map B7) else (0,[],1)) else (0,[],3)
noncomputable def cnA (vars:Int) (l:List UInt8):Int×List Tx×Int:=if 0<=vars/\vars<=6 then (match AF l with | none=>(0,[],1) | some q=>resQ vars (BZ q)) else (0,[],3)
noncomputable def vrA (vars i:Int):Int×List Tx×Int:=if 0<=vars/\vars<=6/\0<=i/\i<vars then resQ vars [(Ej i.toNat,1)] else (0,[],3)
theorem FV.v {ts:List Tx} {e:Ending} (h:FV w vars ts e w'):C9 w (mkA vars ts) e w':=by
 unfold mkA;rcases h with ⟨h1,h2⟩|⟨h1,h2,h3,h4⟩|⟨h1,h2,h3,h4⟩
 · rw [if_neg h1]; exact h2
 · rw [if_pos ⟨h1,h2⟩,if_neg h3]; exact h4
 · rw [if_pos ⟨h1,h2⟩,if_pos h3]; exact h4
theorem OC.v {e:Ending} (h:OC w vars l e w'):C9 w (cnA vars l) e w':=by
 unfold cnA;rcases h with ⟨h1,h2⟩|⟨h1,h2,h3,h4⟩|⟨h1,h2,q,h3,h4⟩
 · rw [if_neg h1]; exact h2
 · rw [if_pos ⟨h1,h2⟩,h3]; exact h4
 · rw [if_pos ⟨h1,h2⟩,h3]; exact h4
theorem IH.v {e:Ending} (h:IH w vars i e w'):C9 w (vrA vars i) e w':=by
 unfold vrA;rcases h with ⟨h1,h2,h3,h4,h5⟩|⟨h1,h2⟩
 · rw [if_pos ⟨h1,h2,h3,h4⟩]; exact h5
 · rw [if_neg h1]; exact h2
theorem K7 (h:AF l=some q) (a:l.length<=k):Pl.RB (4*k) q:=by
 refine Ts ?_;rw [<-Es h];exact a
theorem OL {t:Tx} (h:CS vars t) (b:t.1.length<=12):Pl.RB 48 (B7 t).2/\Pl.RB 48 (rdU t).2:=by
 obtain ⟨h1,-,-⟩:=h;obtain ⟨q,a⟩:=Option.isSome_iff_exists.1 h1;have h2:=K7 (k:=12) a b;unfold B7 rdU;rw [a];exact ⟨h2,h2⟩
theorem Mt {ts:List Tx} (f:∀ t∈ts,CS vars t) (i:∀ t∈ts,t.1.length<=12) (j:ts.length<=12):J4 (ts.map B7)/\Pl.SubOK (ts.map rdU):=by
 have h1:∀ t∈ts.map B7,Pl.RB 48 t.2:=fun t d=>by
  obtain ⟨s,a,rfl⟩:=List.mem_map.1 d;exact (OL (f s a) (i s a)).1
 have h2:∀ t∈ts.map rdU,Pl.RB 48 t.2:=fun t d=>by
  obtain ⟨s,a,rfl⟩:=List.mem_map.1 d;exact (OL (f s a) (i s a)).2
 refine ⟨Mr (b:=48) (by omega) h1 (by rw [List.length_map]; omega) ⟨fun e he => ?_,by rw [List.length_map]; omega⟩,Pl.SubOK.of_rb (b:=48) (by omega) h2 (by rw [List.length_map]; omega)⟩;have h3:=(Pl.RB.coef (by omega) e h1).mono (b:=1920) (by rw [List.length_map]; omega);refine ⟨EO h3.1 h3.2, ?_⟩;obtain ⟨t,d,rfl⟩:=Pl.coef_present he;obtain ⟨s,a,rfl⟩:=List.mem_map.1 d;obtain ⟨-,-,h4⟩:=f s a;obtain ⟨h5,h6,h7⟩:=Ec.1 h4;refine ⟨CL h5,fun x c => ?_⟩;have g:x∈s.2 ++ List.replicate (6-s.2.length) 0:=c;rcases List.mem_append.1 g with c|c
 · have:=h6 x c;have:=E9 h6 c;omega
 · rw [List.eq_of_mem_replicate c];omega
section
variable {vars i:Int} {A:Option Addr} {n c:Nat} {ts t:List Tx} {s:ByteArray} {w:World} {v err:Int}
theorem NB (g:mkA vars ts=(v,t,err)) (b:AR w) (h:Bk w A n c ts) (a:∀ t∈ts,t.1.length<=12) (f:n<=12):Calls Tryz.prog 12 #[.int .i64 vars, .slice A n c] w (NA w v t err) :=
 (J5 b h (fun t i=>by have:=a t i; omega) (by omega) (fun _ _ d=>(Mt d a (by rw [h.len]; exact f)).1)).mono fun e j h=>by
  have h:=h.v;rw [g] at h;exact Cr.v h
theorem Mu (f:mkA vars ts=(v,t,err)) (h:Bk w A n c ts) (a:∀ t∈ts,t.1.length<=12) (d:n<=12):Calls Tryz.prog 13 #[.int .i64 vars, .slice A n c] w (NA w v t err) :=
 (Np h (fun t g=>by have:=a t g; omega) (by omega) (fun _ _ b=>(Mt b a (by rw [h.len]; exact d)).2)).mono fun e i h=>by
  have h:=h.v;rw [f] at h;exact Cr.v h
theorem Mv (d:cnA vars (Aj s)=(v,t,err)) (a:AR w) (f:s.size<=20):Calls Tryz.prog 14 #[.int .i64 vars, .string s] w (NA w v t err) :=
 (Nr a (by omega) (fun q c=>by
  have:=(K7 (k:=20) c (by rw [Ax]; exact f)).mono (b:=1920) (by omega)
  exact ⟨this.1,this.2⟩)).mono fun e g h=>by
  have h:=h.v;rw [d] at h;exact Cr.v h
theorem K8 (b:cnA vars (Aj s)=(v,t,err)) (c:s.size<=20):Calls Tryz.prog 15 #[.int .i64 vars, .string s] w (NA w v t err) :=
 (Mm (by omega) (fun q a=>(K7 (k:=20) a (by rw [Ax]; exact c)).mono (by omega))).mono fun e d h=>by
  have h:=h.v;rw [b] at h;exact Cr.v h
theorem PO (b:vrA vars i=(v,t,err)) (a:AR w):Calls Tryz.prog 16 #[.int .i64 vars, .int .i64 i] w (NA w v t err) :=
 (L5 a).mono fun e c h=>by
  have h:=h.v;rw [b] at h;exact Cr.v h
theorem NC (a:vrA vars i=(v,t,err)):Calls Tryz.prog 17 #[.int .i64 vars, .int .i64 i] w (NA w v t err) :=
 PG.mono fun e b h=>by
  have h:=h.v;rw [a] at h;exact Cr.v h
end
end Go.Proofs.YtlbmnokpiilfpaaGreatDoor
