/- Part Gav27. -/
import Derived.Test.YtlpgonpfjbhmfaaGreatDoorGav26
import Derived.Test.YtlpgonpfjbhmfaaGreatDoorGav3
set_option maxRecDepth 100000
set_option maxHeartbeats 100000000
namespace Go.Proofs.YtlpgonpfjbhmfaaGreatDoor
open Tryz Go Go.RowKit
variable {f:Act} {ops:Array Oper} {neg:Bool} {s:ByteArray} {Q:Exit→Act→World→Prop} {e:List Int} {rest:List Oper} {den dt l num r t:List UInt8} {cs new vs:List Value} {c d g k n:Nat} {o:Oper} {x y:Operand} {a b:Option Addr} {q:Rat} {ty:TypeId} {v:Value} {w:World}
def Em (w:World) (a:Option Addr) (n c:Nat) (l:List Rat):Prop:=∃ rows,SlK w 4 a n c rows∧l.length=n∧∀ i,i<n→DD w (rows.getD i []) (l.getD i 0)
theorem Em.ext {w w':World} {a:Option Addr} {n c:Nat} {l:List Rat} (h:Em w a n c l) (e:Ext w w'):Em w' a n c l:=by
 obtain ⟨rows,h1,h2,h3⟩:=h;exact ⟨rows,h1.ext e,h2,fun i hi=>(h3 i hi).ext e⟩
theorem Ml {a:Nat} (ha:0<a) (hd:0<d):0<a*(d/Nat.gcd a d) :=
 Nat.mul_pos ha (Nat.div_pos (Nat.le_of_dvd hd (Nat.gcd_dvd_right _ _)) (Nat.gcd_pos_of_pos_left _ ha))
def Cv (l:List Rat):Nat:=l.foldl (fun a q=>a*(q.den/Nat.gcd a q.den)) 1
theorem Fn (l:List Rat):0<Cv l:=by
 have:∀ (l:List Rat) (a:Nat),0<a→0<l.foldl (fun a q=>a*(q.den/Nat.gcd a q.den)) a:=by
  intro l
  induction l with
  | nil=>intro a h; exact h
  | cons q r ih=>intro a h; exact ih _ (Ml h (Nat.pos_of_ne_zero q.den_nz))
 exact this l 1 (by omega)
theorem QP {l:List Rat} (h:k<l.length):Cv (l.take (k+1))=Cv (l.take k)*((l.getD k 0).den/Nat.gcd (Cv (l.take k)) (l.getD k 0).den):=by
 rw [List.take_add_one,List.getElem?_eq_getElem h];simp only [Option.toList,Cv,List.foldl_append,List.foldl_cons,List.foldl_nil];simp [h]
theorem KZ {l:List Rat} (hT:A2 w) (h:Em w a n c l) (hd:∀ q∈l,q.den<P2 2400) (hb:∀ k,Cv (l.take k)<P2 9600):Calls prog 128 #[.slice a n c] w (Ei w (Cv l:Int)):=by
 obtain ⟨rows,hS,hl,hq⟩:=h;have HB:=qh hb;have HD:=qh hd;clear hb hd;have hn:=hS.le
 go_enter func128,ntmps128
 go_upto_region 1 with (fail)
 refine Bq ?_;intro w0 hE0 hB0 hz0;have hR:Arr w0 w.heap.size 90 (Ab false none 0 0):=hB0;clear hz0
 go_wp2_with fail
 refine (Py (z:=1) (by omega) (by omega)).mono ?_;rintro e w1 ⟨s1,a1,n1,c1,rfl,hE1,HS1,hx1⟩;have hl1:(Ab s1 a1 n1 c1).toArray=#[.bool s1, .slice a1 n1 c1]:=rfl;have hY:=Arr.new w1 90 (Ab false none 0 0)
 go_upto_region 2 with (refine Aa (vs:=Ab s1 a1 n1 c1) rfl rfl rfl rfl rfl Ad hY rfl (Ai _ _ _ _) ?_; intro w2 hB2 hg2)
 have hE2:Ext w1 w2:=((Ext.refl w1).alloc _).grownR hg2 (lrf _);have hSz:w.heap.size<w1.heap.size:=(hR.ext hE1).lt;have hR2:=(hR.ext hE1).ext hE2;have hW:=(hE0.trans hE1).trans hE2;have hx2:=hx1.ext hE2;clear hR hB0 hY hg2 hl1;generalize w1.heap.size=S at *
 go_wp2
 go_loopw [9] (fun iv wr=>∃ (k:Nat) (s':Bool) (a':Option Addr) (n' c':Nat),iv = .int .i64 k∧k≤n∧Ext w wr∧Arr wr w.heap.size 90 (Ab false none 0 0)∧Arr wr S 90 (Ab s' a' n' c')∧Hid (decide (((Cv (l.take k):Nat):Int)<0)=s')∧Wd wr a' n' c' (Cv (l.take k))) (fun iv _=>n-(intOf iv).toNat)
 case atStart=>exact ⟨0,s1,a1,n1,c1,rfl,Nat.zero_le _,hW,hR2,hB2,HS1,hx2⟩
 case round =>
  obtain ⟨k,s',a',n',c',rfl,hk,hE,hR,hC,HS,hx⟩:=hrel;clear hW hR2 hB2 HS1 hx2 hx1 hE0 hE1 hE2;by_cases hlt:k<n
  · have hSw:=hS.ext hE;obtain ⟨b,off,rfl,_⟩:=hSw.rd (by omega);obtain ⟨sx,ax,nx,cx,bx,mx,dx,hrow,HSx,hxx,hyx⟩:=(hq k hlt).ext hE;have hY:=Arr.new wr 97 (An false none 0 0 false none 0 0)
    go_upto_region 5 with (first
     | (refine CZ rfl rfl Ac rfl hSw hlt ?_; rw [hrow])
     | (refine Aa (vs:=An sx ax nx cx false bx mx dx) rfl rfl rfl rfl rfl Ac hY rfl (Ap _ _ _ _ _ _ _ _) ?_; intro w3 hB3 hg3))
    have hE3:Ext wr w3:=((Ext.refl wr).alloc _).grownR hg3 (lrf _);have HL:=qh (QP (l:=l) (k:=k) (by omega));have HK:=qh (HB.out k);have HDk:=qh (HD.out (l.getD k 0) (by rw [gqq,List.getElem?_eq_getElem (by omega)]; simp));have HP:Hid (0<Cv (l.take k)):=qh (Fn _);have hXr:w.heap.size<wr.heap.size:=hR.lt;have hXs:S<wr.heap.size:=hC.lt;clear hY hg3 hrow;generalize wr.heap.size=X at *
    have c2:=hB3.c 2 rfl;have c3:=hB3.c 3 rfl;have hD3:=Be (hyx.ext hE3);have hx3:=hx.ext hE3;have hI3:Ax w3 (.agg (Ab s' a' n' c').toArray) ((Cv (l.take k):Nat):Int):=⟨s',a',n',c',rfl,HS,hx.ext hE3⟩;have hR3:=hR.ext hE3;have hC3:=hC.ext hE3;have hT3:=hT.ext (hE.trans hE3);have hEw3:=hE.trans hE3;clear hR hC hE hE3 hx hxx hyx hSw hq hB3;generalize l.getD k 0=q at *
    generalize hA:Cv (l.take k)=A at *
    go_wp2_with fail
    refine (Av (r:=decide (q.den=1)) hD3 (decide_eq_decide.2 AE)).mono ?_;rintro e w4 ⟨rfl,hE4⟩;by_cases hd1:q.den=1
    · rw [decide_eq_true hd1];have HL':Hid (Cv (l.take (k+1))=A):=by
       refine qh ?_;rw [HL.out,hd1,Nat.gcd_one_right,Nat.div_one,Nat.mul_one]
      clear hd1;go_wp2;go_roundw
      case rel=>exact ⟨k+1,s',a',n',c',by go_num,by omega,hEw3.trans hE4,hR3.ext hE4,hC3.ext hE4,by rw [HL'.out]; exact HS,by rw [HL'.out]; exact hx3.ext hE4⟩
      case measure=>simp [intOf]; omega
    · rw [decide_eq_false hd1];have HDn:=qh (DC hd1);have hd0:Hid (q.den≠0):=qh q.den_nz;rw [HDn.out] at hD3;clear hd1;have e2:=hE4.cell c2;have e3:=hE4.cell c3;have hC4:=hC3.ext hE4;have f0:=hC4.c 0 rfl;have f1:=hC4.c 1 rfl
      go_wp2_with fail
      refine (Qy (r:=decide (q.den=A)) (hD3.ext hE4) (hI3.ext hE4) (decide_eq_decide.2 (by omega))).mono ?_;rintro e w5 ⟨rfl,hE5⟩;have hE35:=hE4.trans hE5;clear e2 e3 f0 f1;by_cases hqA:q.den=A
      · rw [decide_eq_true hqA];have HL':Hid (Cv (l.take (k+1))=A):=by
         refine qh ?_;rw [HL.out,hqA,Nat.gcd_self,Nat.div_self HP.out,Nat.mul_one]
        clear hqA;go_wp2;go_roundw
        case rel=>exact ⟨k+1,s',a',n',c',by go_num,by omega,hEw3.trans hE35,hR3.ext hE35,hC3.ext hE35,by rw [HL'.out]; exact HS,by rw [HL'.out]; exact hx3.ext hE35⟩
        case measure=>simp [intOf]; omega
      · rw [decide_eq_false hqA];clear hqA;have e2:=hE35.cell c2;have e3:=hE35.cell c3;have hC5:=hC3.ext hE35;have f0:=hC5.c 0 rfl;have f1:=hC5.c 1 rfl;have hlc:=TK (hT3.ext hE35) (hI3.ext hE35) (hD3.ext hE35) HK.out (Ag HDk.out (by omega)) (by have:=HP.out; omega) (by have:=hd0.out; omega);simp only [Int.natAbs_natCast,←HL.out] at hlc
        go_wp2_with fail
        refine hlc.mono ?_;rintro e w6 ⟨s6,a6,n6,c6,rfl,hE6,HS6,hx6⟩;have hl6:(Ab s6 a6 n6 c6).toArray=#[.bool s6, .slice a6 n6 c6]:=rfl;have hC6:=hC5.ext hE6;have hR6:=(hR3.ext hE35).ext hE6
        go_wp2_with (refine Aa (vs:=Ab s6 a6 n6 c6) rfl rfl rfl rfl rfl Ad hC6 rfl (Ai _ _ _ _) ?_; intro w7 hB7 hg7)
        go_roundw
        case rel=>exact ⟨k+1,s6,a6,n6,c6,by go_num,by omega,((hEw3.trans hE35).trans hE6).grownR hg7 (by omega),hR6.kept hg7 (by simp; omega),hB7,HS6,hx6.kept hC6 (Aq _ _ _ _) hg7⟩
        case measure=>simp [intOf]; omega
  · have hkn:k=n:=by omega
    subst hkn;have HT:Hid (l.take k=l):=qh (List.take_of_length_le (by omega));rw [HT.out] at HS hx;have f0:=hC.c 0 rfl;have f1:=hC.c 1 rfl;have hl':(Ab s' a' n' c').toArray=#[.bool s', .slice a' n' c']:=rfl
    go_wp2_with (refine Aa (vs:=Ab s' a' n' c') rfl rfl rfl rfl rfl Ad hR rfl (Ai _ _ _ _) ?_; intro w9 hB9 hg9)
    exact bodyPost_ret (Al rfl Ad rfl hB9) rfl (Bt hE hR (Aq _ _ _ _) hg9 (by omega) HS hx)
theorem AA:Agg prog 111 10:=⟨by kernel_rfl,by kernel_rfl⟩
theorem JW:El prog 97 (An false none 0 0 false none 0 0) 4 64:=⟨by kernel_rfl,rfl,by omega⟩
def At (e:List Int) (s:Bool) (a:Option Addr) (n c:Nat) (b:Option Addr) (m d:Nat):List Value:=e.map (Value.int .i64) ++ An s a n c false b m d
theorem C0:El prog 111 (At [0,0,0,0,0,0] false none 0 0 none 0 0) 10 112:=⟨by kernel_rfl,rfl,by omega⟩
def Cm (w:World) (row:List Value) (t:Pl.Tm):Prop:=∃ s a n c b m d,row=At t.1 s a n c b m d∧t.1.length=6∧DD w (An s a n c false b m d) t.2
theorem Cm.ext {w w':World} {row:List Value} {t:Pl.Tm} (h:Cm w row t) (e:Ext w w'):Cm w' row t:=by
 obtain ⟨s,a,n,c,b,m,d,h1,h2,h3⟩:=h;exact ⟨s,a,n,c,b,m,d,h1,h2,h3.ext e⟩
def Cx (w:World) (a:Option Addr) (n c:Nat) (l:List Pl.Tm):Prop:=∃ rows,SlK w 10 a n c rows∧l.length=n∧∀ i,i<n→Cm w (rows.getD i []) (l.getD i ([],0))
theorem Cx.ext {w w':World} {a:Option Addr} {n c:Nat} {l:List Pl.Tm} (h:Cx w a n c l) (e:Ext w w'):Cx w' a n c l:=by
 obtain ⟨rows,h1,h2,h3⟩:=h;exact ⟨rows,h1.ext e,h2,fun i hi=>(h3 i hi).ext e⟩
theorem Bk {s:Bool} {m:Nat}:∀ v∈At e s a n c b m d,v.oneCell'=true:=by
 intro v hv;rcases List.mem_append.1 hv with hv|hv
 · obtain ⟨x,_,rfl⟩:=List.mem_map.1 hv; rfl
 · exact Ap _ _ _ _ _ _ _ _ v hv
theorem Dr (h:e.length=6):∃ x0 x1 x2 x3 x4 x5,e=[x0,x1,x2,x3,x4,x5]:=by
 match e,h with
 | [x0,x1,x2,x3,x4,x5],_=>exact ⟨x0,x1,x2,x3,x4,x5,rfl⟩
theorem GW {l:List Pl.Tm} (h:Cx w a n c l) (hn:n≤1000000):Calls prog 129 #[.slice a n c] w (fun e w'=>∃ a' c',e = .returned (.slice a' n c')∧Ext w w'∧Em w' a' n c' (l.map (·.2))):=by
 obtain ⟨rows,hS,hl,hq⟩:=h;have HQ:=qh hq;clear hq
 go_enter func129,ntmps129
 go_upto_region 2 with (refine Fm rfl rfl (by kernel_rfl) JW rfl rfl (by omega) (by unfold maxLen; omega) ?_; intro w1 hO1 hE1)
 go_wp2
 go_loopw [11] (fun iv wr=>∃ (k:Nat) (rs:List (List Value)),iv = .int .i64 k∧k≤n∧Ext w wr∧A3 wr w.heap.size 97 4 (some ⟨w.heap.size,0,none⟩) n n rs∧Hid (∀ i,i<k→DD w (rs.getD i []) ((l.map (·.2)).getD i 0))) (fun iv _=>n-(intOf iv).toNat)
 case atStart=>exact ⟨0,_,rfl,Nat.zero_le _,hE1,hO1,qh (fun i hi=>absurd hi (by omega))⟩
 case round =>
  obtain ⟨k,rs,rfl,hk,hE,hO,HC⟩:=hrel;clear hO1 hE1;by_cases hlt:k<n
  · have hSw:=hS.ext hE;obtain ⟨b,off,rfl,_⟩:=hSw.rd (by omega);obtain ⟨sx,ax,nx,cx,bx,mx,dx,hrow,h6,hrc⟩:=HQ.out k hlt;have HM:Hid ((l.map (·.2)).getD k 0=(l.getD k ([],0)).2):=qh (by simp [hl,hlt]);generalize l.getD k ([],0)=t at *
    obtain ⟨te,tq⟩:=t;obtain ⟨x0,x1,x2,x3,x4,x5,h6e⟩:=Dr h6;simp only at h6e hrow HM hrc;subst h6e;have hY:=Arr.new wr 111 (At [0,0,0,0,0,0] false none 0 0 none 0 0)
    go_upto_region 5 with (first
     | (refine CZ rfl rfl AA rfl hSw hlt ?_; rw [hrow])
     | (refine Aa (vs:=At [x0,x1,x2,x3,x4,x5] sx ax nx cx bx mx dx) rfl rfl rfl rfl rfl AA hY rfl Bk ?_; intro w3 hB3 hg3))
    have hE3:Ext wr w3:=((Ext.refl wr).alloc _).grownR hg3 (lrf _);have hO3:=hO.ext hE3;have hEw:=hE.trans hE3;clear hY hg3 hO hE hE3 hrow h6 hSw;generalize wr.heap.size=X at *
    have c6:=hB3.c 6 rfl;have c7:=hB3.c 7 rfl;have c8:=hB3.c 8 rfl;have c9:=hB3.c 9 rfl;have hl9:(An sx ax nx cx false bx mx dx).toArray=#[.bool sx, .slice ax nx cx, .bool false, .slice bx mx dx]:=rfl;have HRL:=qh (hO3.len (by omega))
    go_wp2_with (refine JV (vs:=An sx ax nx cx false bx mx dx) rfl rfl (by omega) Ac rfl rfl rfl hO3 hlt rfl (Ap _ _ _ _ _ _ _ _) ?_; intro w4 hO4 hg4)
    go_roundw
    case rel =>
     refine ⟨k+1,_,by go_num,by omega,hEw.grownR hg4 (lrf _),hO4,qh fun i hi => ?_⟩;by_cases hik:i=k
     · subst hik;rw [HM.out,gqq,List.getElem?_set_self (by rw [HRL.out]; exact hlt)];exact hrc
     · rw [gqq,List.getElem?_set_ne (by omega),←gqq];exact HC.out i (by omega)
    case measure=>simp [intOf]; omega
  · have hkn:k=n:=by omega
    subst hkn;go_wp2;go_ret;exact ⟨_,_,rfl,hE,rs,hO.slk (by omega),by simp [hl],fun i hi=>(HC.out i hi).ext hE⟩
theorem JX {l:List Pl.Tm} (hT:A2 w) (h:Cx w a n c l) (hn:n≤1000000) (hd:∀ q∈l.map (·.2),q.den<P2 2400) (hb:∀ k,Cv ((l.map (·.2)).take k)<P2 9600):Calls prog 84 #[.slice a n c] w (Ei w (Cv (l.map (·.2)):Int)):=by
 have hco:=fun (wx:World) (hC:Ext w wx)=>qh (GW (h.ext hC) hn);have hcd:=fun (wx:World) (hC:Ext w wx) (a':Option Addr) (c':Nat) (hr:Em wx a' n c' (l.map (·.2)))=>qh (KZ (hT.ext hC) hr hd hb);clear hd hb h
 go_enter func84,ntmps84
 go_upto_region 1 with (fail)
 refine Bq ?_;intro w0 hE0 hB0 hz0;have hR:Arr w0 w.heap.size 90 (Ab false none 0 0):=hB0;clear hz0
 go_wp2_with fail
 refine (hco _ hE0).out.mono ?_;rintro e w1 ⟨a1,c1,rfl,hE1,hr1⟩
 go_wp2_with fail
 refine (hcd _ (hE0.trans hE1) _ _ hr1).out.mono ?_;rintro e w2 ⟨s2,a2,n2,c2,rfl,hE2,HS2,hx2⟩;have hl2:(Ab s2 a2 n2 c2).toArray=#[.bool s2, .slice a2 n2 c2]:=rfl;have hR2:=(hR.ext hE1).ext hE2
 go_wp2_with (refine Aa (vs:=Ab s2 a2 n2 c2) rfl rfl rfl rfl rfl Ad hR2 rfl (Ai _ _ _ _) ?_; intro w9 hB9 hg9)
 exact bodyPost_ret (Al rfl Ad rfl hB9) rfl (Bt ((hE0.trans hE1).trans hE2) hR2 (Aq _ _ _ _) hg9 (lrf _) HS2 hx2)
def Mm (c:UInt8):Bool:=decide (48≤c.toNat) && decide (c.toNat≤57)
theorem JY {c:UInt8}:Mm c=true↔W.isDig c:=by simp [Mm,W.isDig]
def pre (l:List UInt8):List UInt8:=l.takeWhile Mm
def suf (l:List UInt8):List UInt8:=l.dropWhile Mm
theorem FK (l:List UInt8):pre l ++ suf l=l:=List.takeWhile_append_dropWhile
theorem JZ (l:List UInt8):W.digs (pre l):=fun c hc=>by
 induction l with
 | nil=>simp [pre] at hc
 | cons x r ih =>
  unfold pre at hc ih;rw [List.takeWhile_cons] at hc;split at hc
  · rename_i h;rcases List.mem_cons.1 hc with rfl|hc
    · exact JY.1 h
    · exact ih hc
  · simp at hc
theorem PI {d:List UInt8} (hd:W.digs d) (hr:∀ c,r.head?=some c→¬ W.isDig c):pre (d ++ r)=d∧suf (d ++ r)=r:=by
 induction d with
 | nil =>
  cases r with
  | nil=>exact ⟨rfl,rfl⟩
  | cons c t =>
   have:Mm c=false:=by
    cases h:Mm c with
    | false=>rfl
    | true=>exact absurd (JY.1 h) (hr c rfl)
   simp [pre,suf,this]
 | cons x t ih =>
  have hx:Mm x=true:=JY.2 (hd x (by simp));have:=ih (fun c hc=>hd c (by simp [hc]));unfold pre suf at *
  simp [hx,this]
def CI (l:List UInt8):(Bool×List UInt8×List UInt8)×Bool :=
 let neg:Bool:=decide (l.head?=some 45)
 let r1:=if neg=true then l.tail else l
 let num:=pre r1
 let r2:=suf r1
 if num=[48] then ((neg,num,[]),!neg && decide (r2=[]))
 else if num=[]∨num.head?=some 48 then ((neg,num,[]),false)
 else if r2=[] then ((neg,num,[]),true)
 else if r2.head?≠some 47 then ((neg,num,[]),false)
 else ((neg,num,pre r2.tail),decide (suf r2.tail=[]) && decide (pre r2.tail≠[]) && decide ((pre r2.tail).head?≠some 48) && decide (pre r2.tail≠[49]))
structure Spl (l:List UInt8) (neg:Bool) (num den:List UInt8):Prop where
 eq:l=(if neg=true then [45] else []) ++ (num ++ (if den=[] then [] else 47 :: den))
 dn:W.digs num
 dd:W.digs den
 ne:num≠[]
 z:num.head?=some 48→num=[48]∧neg=false∧den=[]
 nd:den.head?≠some 48
 n1:den≠[49]
theorem VP:¬ W.isDig 45:=by simp [W.isDig]
theorem VQ:¬ W.isDig 47:=by simp [W.isDig]
theorem Spl.split {l num den:List UInt8} {neg:Bool} (h:Spl l neg num den):CI l=((neg,num,den),true):=by
 obtain ⟨rfl,h1,h2,h3,h4,h5,h6⟩:=h;obtain ⟨c,t,rfl⟩:=List.exists_cons_of_ne_nil h3;have hc:c≠45:=by rintro rfl; exact VP (h1 45 (by simp))
 have hneg:decide (((if neg=true then [45] else []) ++ ((c :: t) ++ (if den=[] then [] else 47 :: den))).head?=some 45)=neg:=by
  cases neg <;> simp [hc]
 have hr1:(if neg=true then ((if neg=true then [45] else []) ++ ((c :: t) ++ (if den=[] then [] else 47 :: den))).tail else (if neg=true then [45] else []) ++ ((c :: t) ++ (if den=[] then [] else 47 :: den)))=(c :: t) ++ (if den=[] then [] else 47 :: den):=by
  cases neg <;> simp
 have hp:=PI (d:=c :: t) (r:=if den=[] then [] else 47 :: den) h1 (by
  intro x hx;split at hx
  · simp at hx
  · simp only [List.head?_cons,Option.some.injEq] at hx
    subst hx; exact VQ)
 unfold CI;simp only [hneg,hr1,hp.1,hp.2];by_cases hz:c=48
 · subst hz;obtain ⟨e1,e2,e3⟩:=h4 rfl;subst e2 e3;rw [if_pos e1];simp
 · have hn1:¬ (c :: t=[48]):=by intro h; simp at h; exact hz h.1
   rw [if_neg hn1,if_neg (by simp [hz])];by_cases hd:den=[]
   · subst hd;simp
   · simp only [if_neg hd];rw [if_neg (by simp),if_neg (by simp)];have hp2:=PI (d:=den) (r:=[]) h2 (by simp);rw [List.append_nil] at hp2;simp only [List.tail_cons,hp2.1,hp2.2];simp [hd,h5,h6]
theorem FL (h:CI l=((neg,num,den),true)):Spl l neg num den:=by
 unfold CI at h;simp only at h;generalize hng:decide (l.head?=some 45)=ng at h;generalize hr1:(if ng=true then l.tail else l)=r1 at h;have hl:l=(if ng=true then [45] else []) ++ r1:=by
  cases ng with
  | true =>
   simp only [decide_eq_true_eq] at hng;simp only [if_true] at hr1 ⊢;cases l with
   | nil=>simp at hng
   | cons c t=>simp at hng hr1; rw [hng,hr1]; rfl
  | false=>simp at hr1 ⊢; exact hr1
 have hps:=FK r1;have hpd:=JZ r1;generalize pre r1=nm at *
 generalize suf r1=r2 at *
 split at h
 · rename_i h0;simp only [Prod.mk.injEq,Bool.and_eq_true,Bool.not_eq_true',decide_eq_true_eq] at h;obtain ⟨⟨rfl,rfl,rfl⟩,rfl,rfl⟩:=h;subst h0;exact ⟨by rw [hl,←hps]; simp,hpd,by simp [W.digs],by simp,fun _=>⟨rfl,rfl,rfl⟩,by simp,by simp⟩
 · split at h
   · simp at h
   · rename_i h0 h1;simp only [not_or] at h1;split at h
     · rename_i h2;simp only [Prod.mk.injEq,and_true] at h;obtain ⟨rfl,rfl,rfl⟩:=h;subst h2;exact ⟨by rw [hl,←hps]; simp,hpd,by simp [W.digs],h1.1,fun h=>absurd h h1.2,by simp,by simp⟩
     · split at h
       · simp at h
       · rename_i h2 h3;have h3':r2.head?=some 47:=Classical.byContradiction h3;obtain ⟨c,t,rfl⟩:=List.exists_cons_of_ne_nil h2;simp only [List.head?_cons,Option.some.injEq] at h3';subst h3';simp only [List.tail_cons,Prod.mk.injEq,Bool.and_eq_true] at h;obtain ⟨⟨rfl,rfl,rfl⟩,⟨⟨h4,h5⟩,h6⟩,h7⟩:=h;have h4:=of_decide_eq_true h4;have h5:=of_decide_eq_true h5;have h6:=of_decide_eq_true h6;have h7:=of_decide_eq_true h7;have hps2:=FK t;rw [h4,List.append_nil] at hps2;refine ⟨?_,hpd,JZ t,h1.1,fun h=>absurd h h1.2,h6,h7⟩;rw [hl,←hps,if_neg h5,hps2]
theorem PJ (z:Int):Lib.itoa z=(if z<0 then [45] else []) ++ Lib.decDigits z.natAbs:=by
 unfold Lib.itoa;split
 · rfl
 · rw [show z.toNat=z.natAbs by omega]; rfl
theorem PK (h:(Lib.decDigits n).head?=some 48):n=0:=by
 rcases Nat.eq_zero_or_pos n with h0|h0
 · exact h0
 · obtain ⟨c,r,e,hc⟩:=W.dec_head h0;rw [e] at h;simp at h;exact absurd h hc
def A8 (l:List UInt8):Option Rat :=
 let p:=CI l
 if p.2=true then
  let n:Int:=if p.1.1=true then -(W.decV p.1.2.1:Int) else W.decV p.1.2.1
  if p.1.2.2=[] then some (mkRat n 1) else if n.natAbs.gcd (W.decV p.1.2.2)=1 then some (mkRat n (W.decV p.1.2.2)) else none
 else none
theorem TX (q:Rat):Spl (txt q) (decide (q.num<0)) (Lib.decDigits q.num.natAbs) (if q.den=1 then [] else Lib.decDigits q.den):=by
 have hdn:=q.den_nz;refine ⟨?_,W.digs_dec _, ?_,W.dec_ne _, ?_, ?_, ?_⟩
 · unfold txt;rw [PJ];by_cases h:q.den=1
   · simp [h]
   · simp [h,W.dec_ne]
 · split
   · simp [W.digs]
   · exact W.digs_dec _
 · intro h;have h0:=PK h;have hz:q.num=0:=by omega
   have hq:=Pl.rat_num_den_zero.1 hz;refine ⟨by rw [h0,W.dec_zero],by simp [hz], ?_⟩;subst hq;rfl
 · split
   · simp
   · intro h;exact hdn (PK h)
 · split
   · simp
   · rename_i h1;intro h;have:=congrArg W.decV h;rw [W.decV_dec] at this;exact h1 (by rw [this]; rfl)
theorem Bm (q:Rat):A8 (txt q)=some q:=by
 have h:=(TX q).split;unfold A8;simp only [h,if_true];have hn:(if decide (q.num<0)=true then -((W.decV (Lib.decDigits q.num.natAbs):Nat):Int) else ((W.decV (Lib.decDigits q.num.natAbs):Nat):Int))=q.num:=by
  rw [W.decV_dec];by_cases h:q.num<0
  · simp only [h,decide_true,if_true]; omega
  · simp only [h,decide_false]; simp; omega
 rw [hn];by_cases h1:q.den=1
 · simp only [h1,if_true];have:=Rat.mkRat_self q;rw [h1] at this;rw [this]
 · simp only [if_neg h1,if_neg (W.dec_ne _),W.decV_dec];rw [if_pos q.reduced,Rat.mkRat_self]
theorem Fo (h:A8 l=some q):l=txt q:=by
 unfold A8 at h;generalize hp:CI l=p at h;obtain ⟨⟨neg,num,den⟩,ok⟩:=p;simp only at h;cases ok with
 | false=>simp at h
 | true =>
  have hs:=FL hp;simp only [if_true] at h;generalize hn:(if neg=true then -((W.decV num:Nat):Int) else ((W.decV num:Nat):Int))=n at h
  have hdec:Lib.decDigits (W.decV num)=num:=W.dec_of_digs hs.dn hs.ne (fun c r e hc=>by
   have:=(hs.z (by rw [e,hc]; rfl)).1;rw [e] at this;simp at this
   exact this.2)
  have habs:n.natAbs=W.decV num:=by rw [←hn]; split <;> omega
  have hsg:n<0↔neg=true:=by
   rw [←hn];cases neg with
   | false=>simp
   | true =>
    simp only [if_true,iff_true];have h0:W.decV num≠0:=by
     intro h0;rw [h0,W.dec_zero] at hdec;have:=(hs.z (by rw [←hdec]; rfl)).2.1;simp at this
    omega
  have hit:Lib.itoa n=(if neg=true then [45] else []) ++ num:=by
   rw [PJ,habs,hdec];simp only [hsg]
  by_cases hd:den=[]
  · rw [if_pos hd] at h;simp only [Option.some.injEq] at h;have:=Pl.rat_eq_mk (q:=q) (n:=n) (d:=1) (by omega) (Nat.gcd_one_right _) h.symm;rw [hs.eq,txt,this.1,this.2,hit,hd];simp
  · rw [if_neg hd] at h;split at h
    · rename_i hg;simp only [Option.some.injEq] at h
      have hdd:Lib.decDigits (W.decV den)=den:=W.dec_of_digs hs.dd hd (fun c r e hc=>by
       have:=hs.nd;rw [e,hc] at this
       simp at this)
      have hd0:W.decV den≠0:=by
       intro h0;rw [h0,W.dec_zero] at hdd;have:=hs.nd;rw [←hdd] at this;simp at this
      have hd1:W.decV den≠1:=by
       intro h0;rw [h0] at hdd;have:=hs.n1;rw [←hdd] at this;exact this (by rw [Lib.decDigits]; rfl)
      have:=Pl.rat_eq_mk (q:=q) (n:=n) (d:=W.decV den) hd0 hg h.symm;rw [hs.eq,txt,this.1,this.2,hit,if_neg hd,if_neg hd1,hdd];simp
    · simp at h
section
variable {P:Program} {w:World}
theorem QR {o:Nat} {t:TypeId} (hsz:(P.info? ty).map (·.size)=some vs.length) (hv:v.cells=vs.toArray) (h:Arr w g t cs) (ho:o+vs.length≤cs.length) (h1:∀ v∈vs,v.oneCell'=true) (hnew:cs.take o ++ vs ++ cs.drop (o+vs.length)=new) :
 ∃ w',(Instr.storeAt ty (.pointer (some ⟨g,o,none⟩)) v).run P w = .ok () w'∧Arr w' g t new∧w.grownBy w' (some g):=by
 have hrun:=run_storeCells_at (P:=P) g o t vs 0 cs.toArray w h (by simpa using ho) h1;rw [Nat.add_zero] at hrun;simp only [hnew] at hrun;refine ⟨w.setRow g new.toArray, ?_,C4 h new,BJ w g _⟩;cases hq:P.info? ty with
 | none=>simp [hq] at hsz
 | some inf =>
  have hs:inf.size=vs.length:=by simpa [hq] using hsz
  simp [Instr.storeAt,Instr.sureAddr,storeVar,Go.sizeOf,typeInfo,hq,hv,hs,hrun]
theorem Cn (hgd:o.guard=none) (ho:o.op = .store ty x y)
 {g off:Nat} {t:TypeId} {cs:List Value} (vs new:List Value) {v:Value} (hsz:(P.info? ty).map (·.size)=some vs.length) (hx:f.eval x = .pointer (some ⟨g,off,none⟩)) (hy:f.eval y=v) (hv:v.cells=vs.toArray) (h:Arr w g t cs) (hl:off+vs.length≤cs.length) (h1:∀ v∈vs,v.oneCell'=true) (hnew:cs.take off ++ vs ++ cs.drop (off+vs.length)=new)
 (hK:∀ w',Arr w' g t new→w.grownBy w' (some g)→wpList P ops Q rest (f.put o.dst undef) w'):wpList P ops Q (o :: rest) f w:=by
 refine wpList_plain hgd fun K hK' => ?_;obtain ⟨w',hrun,h2,h3⟩:=QR (P:=P) hsz hv h hl h1 hnew;unfold Oper.wp execOp;simp only [ho,hx,hy,Sem.run_bind,hrun,Result.andThen_ok,Sem.run_pure,Oper.upon];exact hK' _ _ (hK _ h2 h3)
end
theorem PL (h:k<s.size):(Am s).getD k 0=s[k]:=by
 have h1:k<(Am s).length:=by rw [AJ]; exact h
 rw [gqq,List.getElem?_eq_getElem h1];rfl
theorem TY (h:s.size=0):Am s=[]:=List.eq_nil_of_length_eq_zero (by rw [AJ]; exact h)
theorem VR (h0:0<s.size):((s.extract 0 1).toList == [45])=decide ((Am s).head?=some 45)∧(Am s).tail=Am (s.extract 1 s.size):=by
 have e1:(s.extract 0 1).toList=Am (s.extract 0 1):=ByteArray.toList_eq ..;rw [e1,B1,B1];have hl:=AJ s;generalize Am s=l at *
 cases l with
 | nil=>simp at hl; omega
 | cons c r =>
  refine ⟨?_, ?_⟩
  · simp;by_cases h:c=45 <;> simp [h]
  · simp only [List.tail_cons,List.drop_succ_cons,List.drop_zero];rw [List.take_of_length_le (by simp at hl; omega)]
theorem K0 (s:ByteArray) (w:World) :
 Calls prog 91 #[.string s, .string { data:=#[45] }] w fun e w'=>e = .returned (.tuple #[.string ⟨(if (Am s).head?=some 45 then (Am s).tail else Am s).toArray⟩, .bool (decide ((Am s).head?=some 45))])∧w'=w:=by
 by_cases h0:s.size=0
 · have e:=TY h0;have hs:s=⟨#[]⟩:=TP e;subst hs
   go_enter func91,ntmps91
   go_wp2
   go_ret2
   exact ⟨rfl,rfl⟩
 · have h1:(1:Int)≤(s.size:Int):=by omega
   obtain ⟨e1,e2⟩:=VR (s:=s) (by omega);by_cases h:(Am s).head?=some 45
   · simp only [h,if_true,decide_true] at e1 ⊢
     go_enter func91,ntmps91
     go_wp2
     go_ret2
     exact ⟨by rw [e2]; rfl,rfl⟩
   · simp only [h,if_false,decide_false] at e1 ⊢
     go_enter func91,ntmps91
     go_wp2
     go_ret2
     exact ⟨rfl,rfl⟩
theorem Vd (hk:k<(pre l).length):k<l.length∧48≤(l.getD k 0).toNat∧(l.getD k 0).toNat≤57:=by
 have hps:=FK l;have hl:=congrArg List.length hps;rw [List.length_append] at hl;have h1:l.getD k 0=(pre l)[k]:=by
  have:(pre l ++ suf l).getD k 0=(pre l)[k]:=by simp [List.getElem?_append_left hk,hk]
  rw [hps] at this;exact this
 have h2:=JZ l _ (List.getElem_mem hk);rw [h1];exact ⟨by omega,h2.1,h2.2⟩
theorem Sh (h:(pre l).length<l.length):¬ (48≤(l.getD (pre l).length 0).toNat∧(l.getD (pre l).length 0).toNat≤57):=by
 induction l with
 | nil=>simp at h
 | cons c r ih =>
  by_cases hc:Mm c=true
  · have e:pre (c :: r)=c :: pre r:=by simp [pre,hc]
    rw [e] at h ⊢;simp only [List.length_cons,List.getD_cons_succ] at h ⊢;exact ih (by omega)
  · have e:pre (c :: r)=[]:=by simp [pre,hc]
    rw [e];simpa [Mm] using hc
theorem F9 (s:ByteArray) (w:World) (hs:s.size≤1000000) :
 Calls prog 92 #[.string s] w fun e w'=>e = .returned (.tuple #[.string ⟨(pre (Am s)).toArray⟩, .string ⟨(suf (Am s)).toArray⟩])∧Ext w w':=by
 obtain ⟨K,hK⟩:∃ K,(pre (Am s)).length=K:=⟨_,rfl⟩
 have HD:Hid (∀ k,k<K→∃ h:k<s.size,48≤((s[k].toNat:Nat):Int)∧((s[k].toNat:Nat):Int)≤57):=qh fun k hk=>by
  obtain ⟨h1,h2,h3⟩:=Vd (l:=Am s) (k:=k) (by omega);rw [AJ] at h1;rw [PL h1] at h2 h3;exact ⟨h1,by omega,by omega⟩
 have HS:Hid (∀ h:K<s.size,¬ (48≤((s[K].toNat:Nat):Int)∧((s[K].toNat:Nat):Int)≤57)):=qh fun h=>by
  have h1:=Sh (l:=Am s) (by rw [AJ,hK]; exact h);rw [hK,PL h] at h1;omega
 have hKs:K≤s.size:=by
  have:=congrArg List.length (FK (Am s));rw [List.length_append,AJ] at this;omega
 have HR:Hid (pre (Am s)=Am (s.extract 0 K)∧suf (Am s)=Am (s.extract K s.size)):=by
  have h1:=FK (Am s);refine qh ⟨?_, ?_⟩
  · rw [B1,List.drop_zero,Nat.sub_zero];have h2:(pre (Am s) ++ suf (Am s)).take K=pre (Am s):=by rw [←hK]; simp
    rw [h1] at h2;exact h2.symm
  · rw [B1];have h2:(pre (Am s) ++ suf (Am s)).drop K=suf (Am s):=by rw [←hK]; simp
    rw [h1] at h2;rw [h2,List.take_of_length_le];rw [←h2,List.length_drop,AJ];omega
 clear hK
 go_enter func92,ntmps92
 go_wp2
 go_loop [4] (fun iv=>∃ k:Nat,iv = .int .i64 k∧k≤K) (fun iv=>K-(intOf iv).toNat)
 case atStart=>exact ⟨0,rfl,Nat.zero_le _⟩
 case round =>
  obtain ⟨k,rfl,hk⟩:=hrel;by_cases hlt:k<K
  · obtain ⟨h1,h2,h3⟩:=HD.out k hlt;go_wp2;go_round
    case rel=>exact ⟨k+1,by go_num,by omega⟩
    case measure=>simp [intOf]; omega
  · have hkK:k=K:=by omega
    subst hkK;by_cases hsz:k<s.size
    · have h1:=HS.out hsz;by_cases h2:48≤((s[k].toNat:Nat):Int)
      · have h3:¬ ((s[k].toNat:Nat):Int)≤57:=fun h3=>h1 ⟨h2,h3⟩;clear h1;go_wp2
        go_quiet (fail)
        go_wp2
        go_ret2
        exact ⟨by rw [HR.out.1,HR.out.2]; rfl,(Ext.refl w).drewN _⟩
      · clear h1;go_wp2
        go_quiet (fail)
        go_wp2
        go_ret2
        exact ⟨by rw [HR.out.1,HR.out.2]; rfl,(Ext.refl w).drewN _⟩
    · have hsz':¬ (k:Int)<(s.size:Int):=by omega
      go_wp2
      go_quiet (fail)
      go_wp2
      go_ret2
      exact ⟨by rw [HR.out.1,HR.out.2]; rfl,(Ext.refl w).drewN _⟩
theorem Jb {c:UInt8} (h:c≠UInt8.ofNat n):((((({ data:=(c :: t).toArray }:ByteArray)[0]'(by show 0<(c :: t).toArray.size; simp)).toNat:Nat):Int) == (n:Int))=false:=by
 show ((c.toNat:Int) == (n:Int))=false;have h1:c.toNat≠n:=fun e=>h (by rw [←e]; simp);simp;omega
theorem d49 {d:UInt8}:decide (d :: dt≠[49])=(!d == 49 || !dt.isEmpty):=by
 by_cases h1:d=49 <;> cases dt <;> simp [h1]
theorem A4:Agg prog 85 3:=⟨by kernel_rfl,by kernel_rfl⟩
def BN (neg:Bool) (num den:List UInt8):List Value:=[.bool neg, .string ⟨num.toArray⟩, .string ⟨den.toArray⟩]
theorem Cb (neg:Bool) (num den:List UInt8):∀ v∈BN neg num den,v.oneCell'=true:=by
 intro v hv;simp only [BN,List.mem_cons,List.not_mem_nil,or_false] at hv;rcases hv with rfl|rfl|rfl <;> rfl
theorem TZ (a b:List UInt8):((⟨a.toArray⟩:ByteArray).toList == (⟨b.toArray⟩:ByteArray).toList)=decide (a=b):=by
 rw [ByteArray.toList_eq,ByteArray.toList_eq];show (a == b)=_;by_cases h:a=b <;> simp [h]
theorem Ib (s:ByteArray) (w:World) (hs:s.size≤1000000) :
 Calls prog 48 #[.string s] w fun e w'=>e = .returned (.tuple #[.agg (BN (CI (Am s)).1.1 (CI (Am s)).1.2.1 (CI (Am s)).1.2.2).toArray, .bool (CI (Am s)).2])∧Ext w w':=by
 obtain ⟨neg,hneg⟩:∃ b:Bool,decide ((Am s).head?=some 45)=b:=⟨_,rfl⟩;have hpc:=K0 s;rw [hneg] at hpc;have hif:(if (Am s).head?=some 45 then (Am s).tail else Am s)=if neg=true then (Am s).tail else Am s:=by rw [←hneg]; by_cases h:(Am s).head?=some 45 <;> simp [h]
 rw [hif] at hpc;obtain ⟨P,hP⟩:∃ P,CI (Am s)=P:=⟨_,rfl⟩;rw [hP];unfold CI at hP;simp only [hneg] at hP;have hr1:(if neg=true then (Am s).tail else Am s).length≤1000000:=by
  have:=AJ s;split
  · simp; omega
  · omega
 clear hif hneg;generalize (if neg=true then (Am s).tail else Am s)=r1 at *
 have hcd:=fun (wx:World)=>qh (F9 ⟨r1.toArray⟩ wx (by show r1.toArray.size≤_; simpa using hr1));simp only [AU] at hcd;have hsl:(suf r1).length≤1000000:=by have:=congrArg List.length (FK r1); rw [List.length_append] at this; omega
 generalize pre r1=num at *
 generalize suf r1=r2 at *
 have HP:=qh hP;clear hP hr1
 go_enter func48,ntmps48
 go_upto_region 2 with (fail)
 refine F0 ?_;intro w0 hE0 hB0 hB1 hz0;have hR:Arr w0 w.heap.size 85 (BN false [] []):=hB0;have hF:Arr w0 (w.heap.size+1) 85 (BN false [] []):=hB1;clear hB0 hB1 hz0
 go_wp2_with fail
 refine (hpc w0).mono ?_;rintro e w1 ⟨rfl,rfl⟩
 go_upto_region 4 with (refine Cn rfl rfl [.bool neg] (BN neg [] []) (by kernel_rfl) rfl rfl rfl hF (by simp [BN]) (by simp [Value.oneCell']) rfl ?_; intro w2 hF2 hg2)
 have hE2:=hE0.grownR hg2 (by omega);have hR2:=hR.kept hg2 (by simp);clear hE0 hR hF hg2
 go_wp2_with fail
 refine (hcd w2).out.mono ?_;rintro e w3 ⟨rfl,hE3⟩;have hF3:=hF2.ext hE3
 go_upto_region 5 with (refine Cn rfl rfl [.string ⟨num.toArray⟩] (BN neg num []) (by kernel_rfl) rfl rfl rfl hF3 (by simp [BN]) (by simp [Value.oneCell']) rfl ?_; intro w4 hF4 hg4)
 have hE4:=(hE2.trans hE3).grownR hg4 (by omega);have hR4:=(hR2.ext hE3).kept hg4 (by simp);clear hE2 hE3 hF3 hF2 hR2 hg4;have c0:=hF4.c 0 rfl;have c1:=hF4.c 1 rfl;have c2:=hF4.c 2 rfl;by_cases h48:num=[48]
 · subst h48;cases neg with
   | true =>
    have HQ:Hid (((true,[48],[]),false)=P):=by rw [←HP.out,if_pos rfl]; exact qh (by simp)
    go_wp2_with (refine Aa (vs:=BN true [48] []) rfl rfl rfl rfl rfl A4 hR4 rfl (Cb _ _ _) ?_; intro w9 hB9 hg9)
    refine bodyPost_ret (AH rfl A4 rfl rfl hB9) rfl ⟨?_,hE4.grownR hg9 (by omega)⟩;rw [←HQ.out];rfl
   | false =>
    have HQ:Hid (((false,[48],[]),r2.isEmpty)=P):=by rw [←HP.out,if_pos rfl]; exact qh (by cases r2 <;> rfl)
    go_wp2_with (refine Aa (vs:=BN false [48] []) rfl rfl rfl rfl rfl A4 hR4 rfl (Cb _ _ _) ?_; intro w9 hB9 hg9)
    refine bodyPost_ret (AH rfl A4 rfl rfl hB9) rfl ⟨?_,hE4.grownR hg9 (by omega)⟩;rw [←HQ.out];rfl
 · have k48:(num == [48])=false:=by simpa using h48
   rw [if_neg h48] at HP;by_cases h0:num=[]
   · subst h0;have HQ:Hid (((neg,[],[]),false)=P):=by rw [←HP.out,if_pos (Or.inl rfl)]; exact qh rfl
     go_wp2_with (refine Aa (vs:=BN neg [] []) rfl rfl rfl rfl rfl A4 hR4 rfl (Cb _ _ _) ?_; intro w9 hB9 hg9)
     refine bodyPost_ret (AH rfl A4 rfl rfl hB9) rfl ⟨?_,hE4.grownR hg9 (by omega)⟩;rw [←HQ.out];rfl
   · obtain ⟨c,nt,rfl⟩:=List.exists_cons_of_ne_nil h0;by_cases hc:c=48
     · subst hc;have HQ:Hid (((neg,48 :: nt,[]),false)=P):=by rw [←HP.out,if_pos (Or.inr (by simp))]; exact qh rfl
       go_wp2_with (refine Aa (vs:=BN neg (48 :: nt) []) rfl rfl rfl rfl rfl A4 hR4 rfl (Cb _ _ _) ?_; intro w9 hB9 hg9)
       refine bodyPost_ret (AH rfl A4 rfl rfl hB9) rfl ⟨?_,hE4.grownR hg9 (by omega)⟩;rw [←HQ.out];rfl
     · rw [if_neg (by simp [hc])] at HP;have hcq:=Jb (t:=nt) (n:=48) hc;by_cases hr:r2=[]
       · subst hr;have HQ:Hid (((neg,c :: nt,[]),true)=P):=by rw [←HP.out,if_pos rfl]; exact qh rfl
         go_wp2_with (refine Aa (vs:=BN neg (c :: nt) []) rfl rfl rfl rfl rfl A4 hR4 rfl (Cb _ _ _) ?_; intro w9 hB9 hg9)
         refine bodyPost_ret (AH rfl A4 rfl rfl hB9) rfl ⟨?_,hE4.grownR hg9 (by omega)⟩;rw [←HQ.out];rfl
       · obtain ⟨d,rt,rfl⟩:=List.exists_cons_of_ne_nil hr;rw [if_neg (by simp)] at HP;by_cases hd:d=47
         · subst hd;rw [if_neg (by simp)] at HP;have hst:Am (({ data:=(47 :: rt).toArray }:ByteArray).extract 1 (rt.length+1))=rt:=by
            rw [B1,AU,List.drop_succ_cons,List.drop_zero,Nat.add_sub_cancel,List.take_length]
           have hcd2:=F9 (({ data:=(47 :: rt).toArray }:ByteArray).extract 1 (rt.length+1)) w4 (by rw [←AJ,hst]; simp at hsl; omega);rw [hst] at hcd2;have HC2:=qh hcd2;clear hcd2 hst;obtain ⟨den,hden⟩:∃ d,pre rt=d:=⟨_,rfl⟩;obtain ⟨r3,hr3⟩:∃ d,suf rt=d:=⟨_,rfl⟩;simp only [List.tail_cons,hden,hr3] at HP HC2;clear hden hr3
           go_wp2_with fail
           refine HC2.out.mono ?_;rintro e w5 ⟨rfl,hE5⟩;have hF5:=hF4.ext hE5;have hR5:=hR4.ext hE5
           go_upto_region 14 with (refine Cn rfl rfl [.string ⟨den.toArray⟩] (BN neg (c :: nt) den) (by kernel_rfl) rfl rfl rfl hF5 (by simp [BN]) (by simp [Value.oneCell']) rfl ?_; intro w6 hF6 hg6)
           have hE6:=(hE4.trans hE5).grownR hg6 (by omega);have hR6:=hR5.kept hg6 (by simp);clear hE4 hE5 hF5 hF4 hR4 hR5 hg6 c0 c1 c2 hcq;have c0:=hF6.c 0 rfl;have c1:=hF6.c 1 rfl;have c2:=hF6.c 2 rfl;have d0:=hR6.c 0 rfl;have d1:=hR6.c 1 rfl;have d2:=hR6.c 2 rfl;have f0:=hR6.frozen 0;have f1:=hR6.frozen 1;have f2:=hR6.frozen 2;by_cases h3:r3=[]
           · subst h3;by_cases hd0:den=[]
             · subst hd0;have HQ:Hid (((neg,c :: nt,[]),false)=P):=by rw [←HP.out]; exact qh (by simp)
               go_region
               go_wp2;refine bodyPost_ret (AH rfl A4 rfl rfl (((hR6.set 0 _).set 1 _).set 2 _)) rfl ⟨?_,(((hE6.setCell (lrf _) _).setCell (lrf _) _).setCell (lrf _) _).drew⟩;rw [←HQ.out];rfl
             · obtain ⟨d,dt,rfl⟩:=List.exists_cons_of_ne_nil hd0;by_cases hd4:d=48
               · subst hd4;have hdq:((((({ data:=(48 :: dt).toArray }:ByteArray)[0]'(by show 0<(48 :: dt).toArray.size; simp)).toNat:Nat):Int) != 48)=false:=rfl;have HQ:Hid (((neg,c :: nt,48 :: dt),false)=P):=by rw [←HP.out]; exact qh (by simp)
                 go_region
                 go_wp2;refine bodyPost_ret (AH rfl A4 rfl rfl (((hR6.set 0 _).set 1 _).set 2 _)) rfl ⟨?_,(((hE6.setCell (lrf _) _).setCell (lrf _) _).setCell (lrf _) _).drew⟩;rw [←HQ.out];rfl
               · have hdq:((((({ data:=(d :: dt).toArray }:ByteArray)[0]'(by show 0<(d :: dt).toArray.size; simp)).toNat:Nat):Int) != 48)=true:=congrArg (!·) (Jb (t:=dt) (n:=48) hd4);have HQ:Hid (((neg,c :: nt,d :: dt),(!d == 49 || !dt.isEmpty))=P):=by rw [←HP.out]; exact qh (by rw [Prod.mk.injEq]; refine ⟨rfl, ?_⟩; rw [d49]; simp [hd4])
                 go_region
                 go_wp2;refine bodyPost_ret (AH rfl A4 rfl rfl (((hR6.set 0 _).set 1 _).set 2 _)) rfl ⟨?_,(((hE6.setCell (lrf _) _).setCell (lrf _) _).setCell (lrf _) _).drew⟩;rw [←HQ.out];rfl
           · obtain ⟨x,xt,rfl⟩:=List.exists_cons_of_ne_nil h3;have HQ:Hid (((neg,c :: nt,den),false)=P):=by rw [←HP.out]; exact qh (by simp)
             go_region
             go_wp2;refine bodyPost_ret (AH rfl A4 rfl rfl (((hR6.set 0 _).set 1 _).set 2 _)) rfl ⟨?_,(((hE6.setCell (lrf _) _).setCell (lrf _) _).setCell (lrf _) _).drew⟩;rw [←HQ.out];rfl
         · have hdq:=Jb (t:=rt) (n:=47) hd;have HQ:Hid (((neg,c :: nt,[]),false)=P):=by rw [←HP.out,if_pos (by simp [hd])]; exact qh rfl
           go_wp2_with (refine Aa (vs:=BN neg (c :: nt) []) rfl rfl rfl rfl rfl A4 hR4 rfl (Cb _ _ _) ?_; intro w9 hB9 hg9)
           refine bodyPost_ret (AH rfl A4 rfl rfl hB9) rfl ⟨?_,hE4.grownR hg9 (by omega)⟩;rw [←HQ.out];rfl
end Go.Proofs.YtlpgonpfjbhmfaaGreatDoor
