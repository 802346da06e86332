/- Part Pq8. -/
import Derived.Test.YtlbmnokpiilfpaaGreatDoorPq7

set_option linter.all false
set_option maxRecDepth 100000
set_option maxHeartbeats 100000000
namespace Go.Proofs.YtlbmnokpiilfpaaGreatDoor
open Tryz Go Go.RowKit
def iu:=@List.getElem?_append_right
def kz:=@Obj.cells.injEq
def lh:=@List.cons.injEq
def mI:=@Int.sign_eq_one_of_pos
def mP:=@List.getElem?_toArray
def oL:=@List.eq_nil_iff_forall_not_mem
def oN:=@Value.bool.injEq
def p6:=@Bool.eq_iff_iff
def p8:=@Int.sign_eq_neg_one_of_neg
def ph:=@List.modify_zero_cons
def pk:=@List.modify_succ_cons
variable {s:Bool} {y z:Int} {xs ys zs zs':List Nat} {l:List Oper} {cs cs':List Value} {B N R V X base c cx d g i j m n nx p x:Nat} {a ax ay b:Option Addr} {qa qb r:Option Nat} {e t:TypeId} {v v':Value} {w w' w0 w1 w2 w9:World}
theorem SP(h:w.grownBy w1 r)(k:w1.grownBy w2 (some g))(d:w.heap.size<=g):w.grownBy w2 r :=
 ⟨k.os.trans h.os,k.tape.trans h.tape,k.output.trans h.output,gJ h.size k.size,fun b c a=>by
  rw[k.block b (ib c h.size) (by intro he;simp only[gK]at he;omega),h.block b c a]⟩
structure Tot(w:World)(a:Option Addr)(base:Nat)(wr:World)(a':Option Addr)(n c:Nat)(zs:List Nat):Prop where
 grown:w.grownBy wr (blk a)
 own:Own wr base 238 a' n c (zs.map (BL .u64))
 src:blk a'=blk a\/∃ g,blk a'=some g/\w.heap.size<=g
 bnd:W.bnd 18446744073709551616 zs
section
variable {w wr w2:World} {a a' a2:Option Addr} {base n c n2 c2:Nat} {zs zs2:List Nat}
theorem Tot.len(h:Tot w a base wr a' n c zs):zs.length=n:=by have:=h.own.len;simpa using this
theorem Tot.step(h:Tot w a base wr a' n c zs)(b:wr.grownBy w2 (blk a'))(j:Own w2 base 238 a2 n2 c2 (zs2.map (BL .u64)))(k:blk a2=blk a'\/blk a2=some wr.heap.size)(i:W.bnd 18446744073709551616 zs2):Tot w a base w2 a2 n2 c2 zs2:=by
 have d:w.grownBy w2 (blk a):=by
  rcases h.src with e|⟨g,e,f⟩
  · rw[e]at b;exact JI h.grown b
  · rw[e]at b;exact SP h.grown b f
 refine⟨d,j,?_,i⟩;rcases k with e|e
 · rw[e];exact h.src
 · exact Or.inr ⟨_,e,h.grown.size⟩
theorem Tot.ext(h:Tot w a base wr a' n c zs)(e:Ext wr w2):Tot w a base w2 a' n c zs:=⟨Hz h.grown e,h.own.ext e,h.src,h.bnd⟩
theorem Tot.slice(h:Tot w a base wr a' n c zs)(d:SlN .u64 w ax nx cx xs)(b:blk ax≠blk a):SlN .u64 wr ax nx cx xs:=d.kept h.grown (Or.inr b)
theorem Tot.sep(h:Tot w a base wr a' n c zs)(i:SlN .u64 w ax nx cx xs)(h0:0<nx)(d:blk ax≠blk a){g:Nat}(f:blk a'=some g):blk ax≠some g:=by
 rcases h.src with e|⟨j,e,b⟩
 · rw[<-f,e];exact d
 · rw[f]at e;simp only[gK]at e;subst e;exact i.fresh b h0
end
def O7:Value->Nat | .slice _ n _=>n | _=>0
theorem UA{S wd cy:Nat}(a:W.val B zs=V+X*S)(h:W.val B zs'+cy*B^(i+n)=W.val B zs+wd*X*B^i):W.val B zs'+cy*B^(i+n)=V+X*(S+B^i*wd):=by
 rw[h,a];generalize B^i=p
 grind
def YW(w:World)(a:Option Addr)(base n m V:Nat)(e:Ending)(w':World):Prop :=
 ∃ a' n' c' zs,e = .returned (.slice a' n' c')/\Tot w a base w' a' n' c' zs/\W.val 18446744073709551616 zs=V/\n'<=max n m+40
theorem FW{H J Y:Nat}(hO:Own w base 238 a n c (zs.map (BL .u64)))(bz:W.bnd 18446744073709551616 zs)(hV:W.val 18446744073709551616 zs=V)(Q:SlN .u64 w ax nx cx xs)(hy:SlN .u64 w ay H J ys)(nX:Num 18446744073709551616 xs X)(nY:Num 18446744073709551616 ys Y)(a9:0<nx)(aa:0<H)(z:blk ax≠blk a)(A:blk ay≠blk a)(h40:nx<40\/H<40)(bx:nx<=100000)(aU:H<=100000)(bn:n<=1000000000)(hb:base<=w.heap.size) :
 Calls prog 263 #[.slice a n c,.slice ax nx cx,.slice ay H J] w (YW w a base n (nx+H) (V+X*Y)):=by
 have HX:=qh Q.len;have HY:=qh hy.len;have NX:=qh nX;have NY:=qh nY;have HV:=qh hV;clear nX nY hV;by_cases hs:nx<H
 case' pos =>
  rw[jW nx H,gV X Y]
  go_enter func263,ntmps263
  go_wp2;have a3:=hy;have ad:=Q;have a6:=NY;have a7:=NX;have I:=HX;have a8:=A;have af:=z;have ag:=aa;clear Q hy NX NY HX HY z A a9 aa;obtain⟨al,rfl⟩:∃ q,q=ay:=⟨_,rfl⟩;obtain⟨r,rfl⟩:∃ q,q=H:=⟨_,rfl⟩;obtain⟨cl,rfl⟩:∃ q,q=J:=⟨_,rfl⟩;obtain⟨xl,rfl⟩:∃ q,q=ys:=⟨_,rfl⟩;obtain⟨XL,rfl⟩:∃ q,q=Y:=⟨_,rfl⟩;obtain⟨ah,rfl⟩:∃ q,q=ax:=⟨_,rfl⟩;obtain⟨y,rfl⟩:∃ q,q=nx:=⟨_,rfl⟩;obtain⟨ch,rfl⟩:∃ q,q=cx:=⟨_,rfl⟩;obtain⟨xh,rfl⟩:∃ q,q=xs:=⟨_,rfl⟩;obtain⟨XH,rfl⟩:∃ q,q=X:=⟨_,rfl⟩
 case' neg =>
  go_enter func263,ntmps263
  go_wp2;have a3:=Q;have ad:=hy;have a6:=NX;have a7:=NY;have I:=HY;have a8:=z;have af:=A;have ag:=a9;clear Q hy NX NY HX HY z A a9 aa;obtain⟨al,rfl⟩:∃ q,q=ax:=⟨_,rfl⟩;obtain⟨r,rfl⟩:∃ q,q=nx:=⟨_,rfl⟩;obtain⟨cl,rfl⟩:∃ q,q=cx:=⟨_,rfl⟩;obtain⟨xl,rfl⟩:∃ q,q=xs:=⟨_,rfl⟩;obtain⟨XL,rfl⟩:∃ q,q=X:=⟨_,rfl⟩;obtain⟨ah,rfl⟩:∃ q,q=ay:=⟨_,rfl⟩;obtain⟨y,rfl⟩:∃ q,q=H:=⟨_,rfl⟩;obtain⟨ch,rfl⟩:∃ q,q=J:=⟨_,rfl⟩;obtain⟨xh,rfl⟩:∃ q,q=ys:=⟨_,rfl⟩;obtain⟨XH,rfl⟩:∃ q,q=Y:=⟨_,rfl⟩
 all_goals
  go_loopw[0] (fun R wr=>∃ (S:Option Addr) (v c':Nat) (t:List Nat),R = .slice S v c'/\Tot w a base wr S v c' t/\v<=max n (r+y)/\Hid (W.val 18446744073709551616 t=V)) (fun R _=>r+y-O7 R)
  case atStart=>exact⟨a,n,c,zs,rfl,⟨C8 _ _,hO,Or.inl rfl,bz⟩,by omega,HV⟩
  case round =>
   obtain⟨a1,n1,c1,aD,rfl,m,aP,U⟩:=hrel;have aw:=m.grown.size;by_cases E:n1<r+y
   · have hA:=(Ext.refl wr).alloc (.cells #[.int .u64 0] 238);have D:=m.ext hA;have K:=D.own;have L:=(AB wr base 238 #[.int .u64 0] 1 rfl (by omega) (by omega)).sl
     go_wp2_with(refine B5 rfl rfl underlying81 AK rfl rfl K rfl L (by simp[Value.oneCell']) (by unfold maxLen;omega) (by omega) (by simp;omega) ?_;intro a2 G w2 aK O aL)
     go_roundw
     case rel =>
      refine⟨a2,n1+1,G,aD ++ [0],rfl,D.step O (by rw[iJ];exact aK) aL (W.bnd_app m.bnd (by intro x Q;simp at Q;omega)),by omega,qh ?_⟩;rw[W.val_snoc,U.out,kY,iO]
     case measure=>simp[O7];omega
   · obtain⟨wo,rfl⟩:∃ x:World,x=wr:=⟨_,rfl⟩;clear aw;have aH:n1=max n (r+y)\/n1=n1:=Or.inr rfl;clear aH;go_wp2
     go_loopw[0,38] (fun R iv wr=>∃ (i:Nat) (S:Option Addr) (v c':Nat) (t:List Nat),R = .slice S v c'/\iv = .int .i64 i/\i<=y/\Tot w a base wr S v c' t/\r+y<=v/\v<=max n (r+y)+i/\Hid (W.val 18446744073709551616 t=V+XL*W.val 18446744073709551616 (xh.take i))) (fun _ iv _=>y-(intOf iv).toNat)
     case atStart=>exact⟨0,a1,n1,c1,aD,rfl,rfl,gO _,m,by omega,by omega,qh (by rw[U.out];simp[W.val])⟩
     case round =>
      clear m aP U E;obtain⟨i,a2,n2,G,zs2,rfl,rfl,hi,m,au,ar,Z⟩:=hrel;by_cases E:i<y
      · obtain⟨g,rfl,aM,aN⟩:=m.own.place (by omega);have aA:=m.slice ad af;obtain⟨b9,o9,e9,an⟩:=aA.at (j:=i) E;subst e9;have g9:=an i E;have aR:=W.bnd_at a7.out.bnd (i:=i) (by rw[I.out];exact E);have aI:=qh (W.val_take_succ (B:=18446744073709551616) (xs:=xh) (i:=i) (by rw[I.out];exact E))
        have aQ:∀ C:World,(Instr.sliceAt 81 (.slice (some ⟨g,0,none⟩) n2 G) (some (.int .i64 i)) (some (.int .i64 ((i:Int)+r))) none).run prog C = .ok (.slice (some ⟨g,i,none⟩) r (G-i)) C:=fun C=>by
         have aS:=m.own.cap;have:=CH (P:=prog) (w:=C) (g:=g) (n:=n2) (c:=G) (lo:=i) (hi:=i+r) underlying81 AK (by omega) (by omega) (by omega);rw[lM,iy]at this;exact this
        have aY:IntKind.i64.wrap ((i:Int)+r)=(i:Int)+r:=gI _ (by omega);have p:Az .u64 wr base 238 g n2 G zs2:=m.own;have hp:=Eb (w:=wr) (o:=i) (c':=G-i) p (m.slice a3 a8) (Or.inr (m.sep a3 ag a8 rfl)) (by omega) m.bnd a6.out.bnd aR;have aJ:=qh a6.out.val;generalize xh.getD i 0=wd at *
        clear an
        go_upto_region 11 with(fail)
        refine hp.mono ?_;rintro e w2 ⟨f,ab,rfl,N,O,aC,ae,az,aO⟩;have aj:Tot w a base w2 (some ⟨g,0,none⟩) n2 G ab:=m.step O aC (Or.inl rfl) ae;have ac:Hid (W.val 18446744073709551616 ab+f*18446744073709551616^(i+r)=V+XL*W.val 18446744073709551616 (xh.take (i+1))):=qh (by rw[aI.out];exact UA Z.out (by rw[<-aJ.out];exact az));clear hp aQ az aO aC O ae p Z m g9 aA;go_wp2
        go_loopw[0,9,10] (fun R cv kv wr=>∃ (k f:Nat) (S:Option Addr) (v c':Nat) (t:List Nat),R = .slice S v c'/\cv = .int .u64 f/\kv = .int .i64 k/\f<18446744073709551616/\k<=v/\Tot w a base wr S v c' t/\r+y<=v/\(v<=max n (r+y)+i\/(v<=max n (r+y)+i+1/\f=0))/\Hid (W.val 18446744073709551616 t+f*18446744073709551616^k=V+XL*W.val 18446744073709551616 (xh.take (i+1)))) (fun R cv kv _=>O7 R-(intOf kv).toNat+min 1 (intOf cv).toNat)
        case atStart=>exact⟨i+r,f,_,n2,G,ab,rfl,rfl,by go_num,N,by omega,aj,au,Or.inl ar,ac⟩
        case round =>
         clear aj ac au ar N aM aN;obtain⟨k,f,a4,n4,c4,d,rfl,rfl,rfl,N,hk,m,av,aX,a0⟩:=hrel;by_cases am:f=0
         · subst am;go_wp2;go_roundw
           case rel=>exact⟨i+1,a4,n4,c4,d,rfl,by go_num,by omega,m,av,by omega,qh (by have:=a0.out;rw[jg,iO]at this;exact this)⟩
           case measure=>simp[intOf];omega
         · have aG:n4<=max n (r+y)+i:=by omega
           have aT:((f:Int) != 0)=true:=Kh (b:=0) am;have aW:¬ ((f:Int)=0):=by omega
           have aw:=m.grown.size;by_cases ap:k=n4
           · subst ap;have hA:=(Ext.refl wr).alloc (.cells #[.int .u64 0] 238);have D:=m.ext hA;have K:=D.own;have L:=(AB wr base 238 #[.int .u64 0] 1 rfl (by omega) (by omega)).sl
             go_upto_region 16 with(refine B5 rfl rfl underlying81 AK rfl rfl K rfl L (by simp[Value.oneCell']) (by unfold maxLen;omega) (by omega) (by simp;omega) ?_;intro a5 c5 w5 ai ao ak)
             have M:Tot w a base w5 a5 (k+1) c5 (d ++ [0]):=D.step ao (by rw[iJ];exact ai) ak (W.bnd_app m.bnd (by intro x Q;simp at Q;omega));have aq:=m.len;clear ai ao ak L K D hA m;obtain⟨g5,rfl,aE,aF⟩:=M.own.place (by omega);have p:Az .u64 w5 base 238 g5 (k+1) c5 (d ++ [0]):=M.own;have q2:=p.cell (i:=k) (by omega);have q3:=p.frozen k;have aB:(d ++ [0]).getD k 0=0:=by rw[gqq,iu (by omega),aq,ju];rfl
             rw[aB]at q2;have T:∀ C:World,(callFunc 300 #[.int .u64 0,.int .u64 (f:Int),.int .u64 0]).run prog C = .ok (.value (.tuple #[.int .u64 (((0+f+0)%18446744073709551616:Nat):Int),.int .u64 (((0+f+0)/18446744073709551616:Nat):Int)])) C:=fun C=>Cz 0 f 0 (by omega) C;have e1:(0+f+0)%18446744073709551616=f:=by omega
             have e2:(0+f+0)/18446744073709551616=0:=by omega
             rw[e1,e2]at T;have HS:=qh (W.add_step0 (B:=18446744073709551616) (l:=d ++ [0]) (k:=k) (s:=f) (c':=0) (V:=V+XL*W.val 18446744073709551616 (xh.take (i+1))) (c:=f) (by simp[aq]) (by rw[W.val_snoc,kY,iO];exact a0.out) (by rw[aB];omega));go_wp2;go_roundw
             case rel=>exact⟨k+1,0,_,k+1,c5,_,rfl,rfl,by go_num,by omega,by omega,M.step (Ar w5 g5 k (.int .u64 (f:Int))) (p.set k f) (Or.inl rfl) (W.bnd_set M.bnd N),by omega,Or.inr ⟨by omega,rfl⟩,HS⟩
             case measure =>
              simp only[O7,intOf];omega
           · have F:k<n4:=by omega
             have aV:((k:Int) == n4)=false:=Ki ap;obtain⟨g5,rfl,aE,aF⟩:=m.own.place (by omega);have p:Az .u64 wr base 238 g5 n4 c4 d:=m.own;have q2:=p.cell (i:=k) F;have q3:=p.frozen k;have aZ:=W.bnd_at m.bnd (i:=k) (by rw[m.len];exact F);have HS:=qh (W.add_step0 (B:=18446744073709551616) (l:=d) (k:=k) (s:=(d.getD k 0+f+0)%18446744073709551616) (c':=(d.getD k 0+f+0)/18446744073709551616) (by rw[m.len];exact F) a0.out (by rw[W9];omega))
             have T:∀ C:World,(callFunc 300 #[.int .u64 ((d.getD k 0:Nat):Int),.int .u64 (f:Int),.int .u64 0]).run prog C = .ok (.value (.tuple #[.int .u64 (((d.getD k 0+f+0)%18446744073709551616:Nat):Int),.int .u64 (((d.getD k 0+f+0)/18446744073709551616:Nat):Int)])) C:=fun C=>Cz (d.getD k 0) f 0 (by omega) C;have hs:(d.getD k 0+f+0)%18446744073709551616<18446744073709551616:=io _ (by omega);have hC:(d.getD k 0+f+0)/18446744073709551616<18446744073709551616:=by omega
             generalize (d.getD k 0+f+0)%18446744073709551616=s at *
             generalize (d.getD k 0+f+0)/18446744073709551616=cc at *
             generalize d.getD k 0=u at *
             go_wp2;go_roundw
             case rel=>exact⟨k+1,cc,_,n4,c4,d.set k s,rfl,rfl,by go_num,hC,by omega,m.step (zs2:=d.set k s) (Ar wr g5 k (.int .u64 (s:Int))) (p.set k s) (Or.inl rfl) (W.bnd_set m.bnd hs),av,Or.inl aG,HS⟩
             case measure =>
              simp only[O7,intOf];omega
      · have ei:i=y:=by omega
        subst ei;go_wp2;go_ret;refine⟨a2,n2,G,zs2,rfl,m,?_,by omega⟩;rw[Z.out,gG (by rw[I.out];exact lrf _),a7.out.val]
def Eg(j:Nat)(o:Oper):Oper:={ o with after:=o.after.push { on:=j,ground := .data } }
theorem IX(j:Nat)(o:Oper)(d:Operand->Value):execOp d (Eg j o)=execOp d o:=by
 obtain⟨e,f,c,g,a,b⟩:=o;cases f <;> rfl
section
variable {P:Program} {Q:Exit->Act->World->Prop}
theorem Hr(l:List Oper)(m j:Nat):(l.modify m (Eg 0)).toArray[j]?=(l.toArray[j]?).map (fun o=>if m=j then Eg 0 o else o):=by
 simp only[mP,List.getElem?_modify];cases l[j]? with
 | none=>rfl
 | some o=>by_cases h:m=j <;> simp[h]
theorem GF{L:Array Bool}(h0:L.getD 0 false=true):j∈Region.ready .any (l.modify m (Eg 0)).toArray L<->j∈Region.ready .any l.toArray L:=by
 rw[oC,oC,Hr];constructor
 · rintro⟨h1,o,b,a⟩;cases d:l.toArray[j]? with
   | none=>rw[d]at b;cases b
   | some o' =>
    rw[d]at b;simp only[jJ,gK]at b;refine⟨h1,o',rfl,fun e he c=>a e ?_ c⟩;rw[<-b];split
    · exact Array.mem_push_of_mem _ he
    · exact he
 · rintro⟨h1,o,b,a⟩;rw[b];refine⟨h1,_,rfl,fun e he c => ?_⟩;split at he
   · rcases Array.mem_push.1 he with he|he
     · exact a e he c
     · rw[he];exact h0
   · exact a e he c
theorem Nt(l:List Oper)(m:Nat)(t:Array Value):yielded (l.modify m (Eg 0)).toArray t=yielded l.toArray t:=by
 funext g;unfold yielded;rw[Hr];cases l.toArray[g]? with
 | none=>rfl
 | some o=>by_cases h:m=g <;> simp[h,Eg]
theorem SQ{K:Act->World->Prop}{a:Act}(h:wpOp P (l.modify m (Eg 0)).toArray Q i K a w):wpOp P l.toArray Q i K a w:=by
 unfold wpOp at *
 rw[Hr]at h;cases c:l.toArray[i]? with
 | none=>rw[c]at h;exact h
 | some o =>
  rw[c]at h;simp only[jJ,Nt]at h;by_cases b:m=i
  · simp only[gY b]at h;have d:Region.wanted (Eg 0 o) (yielded l.toArray a.tmps)=Region.wanted o (yielded l.toArray a.tmps):=rfl;have e:Oper.wp P (Eg 0 o) a w K Q=Oper.wp P o a w K Q:=by unfold Oper.wp;rw[IX];rfl
    have f:Oper.asks P (Eg 0 o) a w=Oper.asks P o a w:=by unfold Oper.asks;rw[IX]
    rw[d,e,f]at h;exact h
  · simp only[gT b]at h;exact h
theorem KY{l:List Oper}{m:Nat}:∀ (f:Nat) (L:Array Bool) (a:Act) (w:World),L.getD 0 false=true->wpAny P .any (l.modify m (Eg 0)).toArray Q f L a w->wpAny P .any l.toArray Q f L a w
 | 0,L,a,w,h0,h=>by
  refine⟨?_,h.2⟩;refine oL.2 fun j b => ?_;have:=(GF (m:=m) h0).2 b;rw[h.1]at this;cases this
 | f+1,L,a,w,h0,h=>by
  refine⟨fun g=>h.1 (oL.2 fun j b => ?_),fun i e => ?_⟩
  · have:=(GF h0).1 b;rw[g]at this;cases this
  · exact wpOp_mono (fun c k d=>KY f _ c k (kV h0) d) (SQ (h.2 i ((GF h0).2 e)))
def Yt:Op->Bool | .select _ _=>true | _=>false
def RE(ops:Array Oper):Bool :=
 (match ops[0]? with
  | some o=>(match o.op with | .move _=>true | _=>false) && o.guard.isNone && o.after.isEmpty && (List.range ops.size).all (fun j=>j == 0 || (match ops[j]? with | some oj=>oj.after.any (fun e=>Region.binds .any e && e.on == 0) || o.apart ops oj | none=>true))
  | none=>false) && (List.range ops.size).all (fun j=>match ops[j]? with | some o => !Yt o.op | none=>true)
theorem EQ{id:Nat}{a:Act}(m:Nat)(J:m≠0)(Z:P.follows .mixedOrders=true)(C:World->Prop)(n:List Hd)
 (L:CX (l.modify m (Eg 0)).toArray (n.map (·.cons)) a.tmps.size=true) (f:RE l.toArray=true)
 (W:∀ c a w d v,Q (.panic c) (Act.put a d v) w->Q (.panic c) a w)
 (E:∀ w p,Ext w p->C w->C p) (V:C w.drew) (O:GZ n)
 (B:MX P C (l.modify m (Eg 0)).toArray n a 0 (l.modify m (Eg 0)) n)
 (r:∀ p,C p->EE p (fun U=>wpList P (l.modify m (Eg 0)).toArray Q ((l.modify m (Eg 0)).drop n.length) U p) (l.modify m (Eg 0)) n a):(Code.region id l.toArray true).wp P Q a w:=by
 have h:=Hp (P:=P) (Q:=Q) C n L E V O B r;refine pf Z ?_;unfold RE at f;simp only[jn]at f;obtain⟨h1,h2⟩:=f;cases h0:l.toArray[0]? with
 | none=>rw[h0]at h1;cases h1
 | some o =>
  rw[h0]at h1;simp only[jn]at h1;obtain⟨⟨⟨z,I⟩,F⟩,G⟩:=h1;obtain⟨x,R⟩:∃ x,o.op = .move x:=by
   cases M:o.op <;> rw[M]at z <;> first | exact⟨_,rfl⟩ | cases z
  have s:o.guard=none:=by simpa using I
  have q:o.after=#[]:=by simpa using F
  have a0:0<l.toArray.size:=(iS.1 h0).1;have y:(l.modify m (Eg 0)).toArray.size=l.toArray.size:=by simp
  rw[y]at h;obtain⟨k,Y⟩:∃ k,l.toArray.size=k+1:=⟨l.toArray.size-1,by omega⟩;rw[Y]at h |-;have hy:Yields P l.toArray o (a.eval x) a:=Or.inl ⟨by simp[Region.wanted,s],fun w=>by simp only[execOp,R];rfl⟩;have hr:0∈Region.ready .any l.toArray (Array.replicate (k+1) false):=by
   rw[oC];refine⟨by simp,o,h0,fun e he => ?_⟩;rw[q]at he;simp at he
  have D:∀ (j:Nat) (o:Oper) S b,l.toArray[j]?=some o->o.op ≠ .select S b:=by
   intro j oj S b t X;have g:j<l.toArray.size:=(iS.1 t).1;have:=jI.1 h2 j (lQ.2 g);rw[t]at this;simp[X,Yt]at this
  refine wpAny_first (i:=0) (oi:=o) (v:=a.eval x) h0 D (fun c a w=>W c a w _ _) k _ a _ ?_ hr hy ?_
  · intro j oj t K _ A;have g:j<l.toArray.size:=(iS.1 t).1;have:=jI.1 G j (lQ.2 g);rw[t]at this;simp only[mH,ou]at this;rcases this with h|h|h
    · exact absurd h K
    · obtain⟨e,he,H⟩:=Array.any_eq_true'.1 h;simp only[jn,ou]at H;exact absurd H.2 (A e he H.1)
    · exact h
  · refine KY (m:=m) k _ _ _ (by simp) ?_;have T:(l.modify m (Eg 0)).toArray[0]?=some o:=by rw[Hr,h0];simp[J]
    have N:0∈Region.ready .any (l.modify m (Eg 0)).toArray (Array.replicate (k+1) false):=by
     rw[oC];refine⟨by simp,o,T,fun e he => ?_⟩;rw[q]at he;simp at he
    have h3:=h.2 0 N;unfold wpOp at h3;rw[T]at h3;simp only at h3;rw[gY (by simp[Region.wanted,s])]at h3;rcases h3 with h3|h3
    · simp only[Oper.wp,execOp,R]at h3;exact h3
    · exfalso;have:=h3.1;simp only[Oper.asks,execOp,R]at this;exact absurd (show noRoomEvent∈(#[]:Array Event) from this.1) (by simp)
end
theorem Yu{y:Nat}(f:Wd w a n c x)(g:Wd w b m d y)(i:x<P2 9600)(e:y<P2 9600) :
 Calls prog 255 #[.slice a n c,.slice b m d] w (Lu w (x+y)):=by
 have h1:=f.len (k:=150) i;have h2:=g.len (k:=150) e;obtain⟨j,h3,h4⟩:=f;obtain⟨l,h5,h6⟩:=g;exact(Nk h3 h5 h4 h6 (by omega) (by omega)).mono fun _ _ h=>h.wd
theorem WF{y:Nat}(f:Wd w a n c x)(i:Wd w b m d y)(g:x<P2 9600)(e:y<=x) :
 Calls prog 256 #[.slice a n c,.slice b m d] w (Lu w (x-y)):=by
 have h1:=f.len (k:=150) g;obtain⟨j,h3,h4⟩:=f;obtain⟨l,h5,h6⟩:=i;exact(Hf h3 h5 h4 h6 (by omega) e).mono fun _ _ h=>h.wd
theorem WG{y:Nat}(f:Wd w a n c x)(g:Wd w b m d y) :
 Calls prog 232 #[.slice a n c,.slice b m d] w fun e i=>e = .returned (.int .i64 (AZ x y))/\Qt w i:=by
 obtain⟨j,h3,h4⟩:=f;obtain⟨k,h5,h6⟩:=g;exact Bl h3 h5 h4 h6
def Yv(w:World)(q r:Nat)(e:Ending)(w':World):Prop:=∃ a n c a' n' c',e = .returned (.tuple #[.slice a n c,.slice a' n' c'])/\Ext w w'/\Wd w' a n c q/\Wd w' a' n' c' r/\Hg w.heap.size (fun _=>False) a n
theorem WH{y:Nat}(l:Wd w a n c x)(o:Wd w b m d y)(r:x<P2 9600)(g:y<P2 9600)(h0:0<y) :
 Calls prog 240 #[.slice a n c,.slice b m d] w (Yv w (x/y) (x%y)):=by
 have h1:=l.len (k:=150) r;have h2:=o.len (k:=150) g;obtain⟨F,h3,h4⟩:=l;obtain⟨G,h5,h6⟩:=o;refine(DD h3 h5 h4 h6 (by omega) (by omega) h0 (by omega)).mono ?_;rintro e E ⟨p,B,s,i,q,C,t,j,rfl,v,s1,z,D,A,f⟩;exact⟨p,B,s,q,C,t,rfl,v,⟨i,s1,z⟩,⟨j,D,A⟩,f⟩
def KZ(w:World)(S:Nat->Prop)(z:Int)(e:Ending)(w':World):Prop:=∃ s a n c,e = .returned (.agg (Ac s a n c).toArray)/\Ext w w'/\Hid (decide (z<0)=s)/\Wd w' a n c z.natAbs/\Hg w.heap.size S a n
theorem KZ.plain{S:Nat->Prop}{e:Ending}(h:KZ w S z e w'):EP w z e w':=by
 obtain⟨s,a,n,c,h1,h2,h3,h4,_⟩:=h;exact⟨s,a,n,c,h1,h2,h3,h4⟩
def Ix(S:Nat->Prop)(v:Value):Prop:=∀ s a n c,v = .agg (Ac s a n c).toArray->0<n->∀ g,blk a=some g->S g
theorem Ix.at{S:Nat->Prop}(h:Ix S (.agg (Ac s a n c).toArray)):0<n->∀ g,blk a=some g->S g:=h s a n c rfl
theorem DM{S:Nat->Prop}(h:0<n->∀ g,blk a=some g->S g):Ix S (.agg (Ac s a n c).toArray):=by
 intro i b f d e;simp only[Ac,Value.agg.injEq,Array.mk.injEq,lh,oN,gW,jp]at e;obtain⟨_,rfl,rfl,rfl⟩:=e;exact h
theorem WI(a:x<18446744073709551616):Calls prog 217 #[.int .u64 x] w (Lu w x):=(DJ a).mono fun _ _ h=>h.wd
theorem FX{S:Nat->Prop}(f:Ext w w1)(g:Arr w1 R t cs)(b:∀ v∈cs,∀ i,v ≠ .int .u64 i)(d:w1.grownBy w9 (some R))(k:w.heap.size<=R)(e:Hid (decide (z<0)=s))(l:Wd w1 a n c z.natAbs)(j:Hg w.heap.size S a n):KZ w S z (.returned (.agg (Ac s a n c).toArray)) w9 :=
 ⟨s,a,n,c,rfl,f.grownR d k,e,l.kept g b d,j⟩
theorem BA(f:Ext w w1)(g:Arr w1 R t cs)(b:∀ v∈cs,∀ i,v ≠ .int .u64 i)(d:w1.grownBy w9 (some R))(j:w.heap.size<=R)(e:Hid (decide (z<0)=s))(k:Wd w1 a n c z.natAbs):EP w z (.returned (.agg (Ac s a n c).toArray)) w9 :=
 ⟨s,a,n,c,rfl,f.grownR d j,e,k.kept g b d⟩
theorem Wb(h:AF w v z):Calls prog 140 #[v] w (EP w (-z)):=by
 obtain⟨s,a,n,c,rfl,q,y⟩:=h
 go_enter func140,ntmps140
 go_upto_region 1 with(fail)
 refine Cf ?_;intro D d b j p;have B:=b.c 0 rfl;have C:=b.c 1 rfl;have m:=qh (BR (neg := !s) (y.ext d) (z := -z) (by rw[<-q.out];by_cases h:z<0 <;> simp[h] <;> omega));have x:Arr D (w.heap.size+1) 83 (Ac false none 0 0):=j;clear p
 go_wp2_with fail
 refine m.out.mono ?_;rintro e E ⟨s1,r,A,t,rfl,f,i,o⟩;have g:=x.ext f
 go_wp2_with(refine Aa (vs:=Ac s1 r A t) rfl rfl rfl rfl rfl Ai g rfl (Ae _ _ _ _) ?_;intro F k l)
 exact gF (Ap rfl Ai rfl k) rfl (BA (d.trans f) g (Ax _ _ _ _) l (by omega) i o)
theorem AA(h:AF w v z){r:Bool}(f:decide (z=0)=r):Calls prog 162 #[v] w fun e m=>e = .returned (.bool r)/\Ext w m:=by
 obtain⟨s,a,n,c,rfl,o,i⟩:=h;have g:((n:Int) == 0)=r:=by
  have:=i.zero;rw[<-f,p6];simp;omega
 clear f
 go_enter func162,ntmps162
 go_upto_region 1 with(fail)
 refine AP ?_;intro p d b j;have k:=b.c 0 rfl;have l:=b.c 1 rfl;go_wp2;go_ret;exact⟨rfl,d⟩
theorem UB(h:AF w v z){r:Int}(g:z.sign=r):Calls prog 198 #[v] w fun e y=>e = .returned (.int .i64 r)/\Ext w y:=by
 obtain⟨s,a,n,c,rfl,o,x⟩:=h;have f:=x.zero;by_cases h0:z=0
 · have q:n=0:=f.2 (by omega);have i:Hid (r=0):=by show _=_;rw[<-g,h0];rfl
   subst q;clear g h0 f
   go_enter func198,ntmps198
   go_upto_region 1 with(fail)
   refine AP ?_;intro p d b j;have k:=b.c 0 rfl;have l:=b.c 1 rfl;go_wp2;go_ret;exact⟨by rw[i.out];rfl,d⟩
 · have t:((n:Int) == 0)=false:=by
    have:n≠0:=fun h=>h0 (by have:=f.1 h;omega);simpa using this
   clear f;cases s with
   | true =>
    have m:z<0:=by simpa using o.out
    have i:Hid (r = -1):=by show _=_;rw[<-g,p8 m]
    clear g h0 m
    go_enter func198,ntmps198
    go_upto_region 1 with(fail)
    refine AP ?_;intro p d b j;have k:=b.c 0 rfl;have l:=b.c 1 rfl;go_wp2;go_ret;exact⟨by rw[i.out];rfl,d⟩
   | false =>
    have m:¬ z<0:=by simpa using o.out
    have i:Hid (r=1):=by show _=_;rw[<-g,mI (by omega)]
    clear g h0 m
    go_enter func198,ntmps198
    go_upto_region 1 with(fail)
    refine AP ?_;intro p d b j;have k:=b.c 0 rfl;have l:=b.c 1 rfl;go_wp2;go_ret;exact⟨by rw[i.out];rfl,d⟩
theorem CY(h:AF w v z){r:Bool}(i:decide (z=1)=r):Calls prog 142 #[v] w fun e F=>e = .returned (.bool r)/\Ext w F:=by
 obtain⟨s,a,n,c,rfl,t,q⟩:=h;cases s with
 | true =>
  have m:z<0:=by simpa using t.out
  have p:Hid (r=false):=by show _=_;rw[<-i];simp;omega
  clear i m
  go_enter func142,ntmps142
  go_upto_region 1 with(fail)
  refine AP ?_;intro B f d g;have j:=d.c 0 rfl;have l:=d.c 1 rfl;go_wp2;go_ret;exact⟨by rw[p.out];rfl,f⟩
 | false =>
  have m:¬ z<0:=by simpa using t.out
  by_cases A:n=1
  · subst A;obtain⟨b,o,rfl,y,G,H⟩:=q.one;have E:((z.natAbs:Int) == 1)=r:=by
     rw[<-i,p6];simp;omega
    clear i m;generalize z.natAbs=x at *
    go_enter func142,ntmps142
    go_upto_region 1 with(fail)
    refine AP ?_;intro B f d g;have j:=d.c 0 rfl;have l:=d.c 1 rfl;have C:=f.cell y;clear g y;go_wp2;go_ret;exact⟨rfl,f⟩
  · have D:((n:Int) == 1)=false:=by simp;omega
    have p:Hid (r=false):=by
     show _=_;rw[<-i];have h1:z≠1:=by
      intro h1;have h2:=q.len (k:=1) (by rw[h1,O6];decide);have h3:=q.zero;omega
     simp[h1]
    clear i m A
    go_enter func142,ntmps142
    go_upto_region 1 with(fail)
    refine AP ?_;intro B f d g;have j:=d.c 0 rfl;have l:=d.c 1 rfl;go_wp2;go_ret;exact⟨by rw[p.out];rfl,f⟩
theorem Nu(h1 : -9223372036854775808<=z)(h2:z<=9223372036854775807):Calls prog 156 #[.int .i64 z] w (EP w z):=by
 by_cases r:z<0
 · have k:Hid (decide (z<0)=true):=qh (by simpa using r);have s:IntKind.u64.wrap (-IntKind.u64.wrap z)=(z.natAbs:Int):=by rw[jU,jU];omega
   have o:z.natAbs<18446744073709551616:=by omega
   go_enter func156,ntmps156
   go_upto_region 1 with(fail)
   refine AP ?_;intro q f c j;have n:Arr q w.heap.size 83 (Ac false none 0 0):=c;clear j
   go_wp2_with fail
   refine(WI o).mono ?_;rintro e t ⟨l,p,m,rfl,a,i⟩;have b:=n.ext a
   go_wp2_with(refine Aa (vs:=Ac true l p m) rfl rfl rfl rfl rfl Ai b rfl (Ae _ _ _ _) ?_;intro v d g)
   exact gF (Ap rfl Ai rfl d) rfl (BA (f.trans a) b (Ax _ _ _ _) g (by omega) k i)
 · have k:Hid (decide (z<0)=false):=qh (by simpa using r);have s:IntKind.u64.wrap z=(z.natAbs:Int):=by rw[jU];omega
   have o:z.natAbs<18446744073709551616:=by omega
   go_enter func156,ntmps156
   go_upto_region 1 with(fail)
   refine AP ?_;intro q f c j;have n:Arr q w.heap.size 83 (Ac false none 0 0):=c;clear j
   go_wp2_with fail
   refine(WI o).mono ?_;rintro e t ⟨l,p,m,rfl,a,i⟩;have b:=n.ext a
   go_wp2_with(refine Aa (vs:=Ac false l p m) rfl rfl rfl rfl rfl Ai b rfl (Ae _ _ _ _) ?_;intro v d g)
   exact gF (Ap rfl Ai rfl d) rfl (BA (f.trans a) b (Ax _ _ _ _) g (by omega) k i)
theorem Gf(G:AM w)(h:AF w v z)(E:AF w v' y)(C:z.natAbs<P2 9600)(o:y.natAbs<P2 9600):Calls prog 141 #[v,v'] w (EP w ((Nat.gcd z.natAbs y.natAbs:Nat):Int)):=by
 obtain⟨s,a,n,c,rfl,Q,I⟩:=h;obtain⟨t,b,m,d,rfl,R,J⟩:=E
 go_enter func141,ntmps141
 go_upto_region 1 with(fail)
 refine CO ?_;intro P f g i p A;have L:=g.c 0 rfl;have M:=g.c 1 rfl;have N:=i.c 0 rfl;have O:=i.c 1 rfl;have F:Arr P (w.heap.size+2) 83 (Ac false none 0 0):=p;have H:=qh (WE (G.ext f) (I.ext f) (J.ext f) C o);have l:Hid (decide (((Nat.gcd z.natAbs y.natAbs:Nat):Int)<0)=false):=qh (by simp);clear A
 go_wp2_with fail
 refine H.out.mono ?_;rintro e S ⟨B,K,D,rfl,j,x⟩;have k:=F.ext j
 go_wp2_with(refine Aa (vs:=Ac false B K D) rfl rfl rfl rfl rfl Ai k rfl (Ae _ _ _ _) ?_;intro T q r)
 exact gF (Ap rfl Ai rfl q) rfl (BA (f.trans j) k (Ax _ _ _ _) r (by omega) l x)
theorem Nw{t:Bool}(a:decide (z<0)=s)(b:decide (y<0)=t):z*y=if(s != t)=true then -((z.natAbs*y.natAbs:Nat):Int)else((z.natAbs*y.natAbs:Nat):Int):=by
 rw[<-Int.natAbs_mul];subst a;subst b;by_cases h1:z<0 <;> by_cases h2:y<0 <;> simp[h1,h2]
 · have:=Int.mul_nonneg_of_nonpos_of_nonpos (mz h1) (mz h2);omega
 · have:=Int.mul_nonpos_of_nonpos_of_nonneg (mz h1) (show 0<=y by omega);omega
 · have:=Int.mul_nonpos_of_nonneg_of_nonpos (show 0<=z by omega) (mz h2);omega
 · have:=lR (show 0<=z by omega) (show 0<=y by omega);omega
theorem K0{S:Nat->Prop}(h:AF w v z)(h':AF w v' y)(bz:z.natAbs<P2 9600)(B:y.natAbs<P2 9600)(I:z.natAbs<P2 2496\/y.natAbs<P2 2496)(F:Ix S v)(G:Ix S v'):Calls prog 163 #[v,v'] w (KZ w S (z*y)):=by
 obtain⟨s,a,n,c,rfl,HS,hx⟩:=h;obtain⟨t,b,m,d,rfl,HT,hy⟩:=h';have X:=F.at
 have Y:=G.at
 clear F G
 go_enter func163,ntmps163
 go_upto_region 1 with(fail)
 refine CO ?_;intro N l C D P a0;have a3:=C.c 0 rfl;have a4:=C.c 1 rfl;have a5:=D.c 0 rfl;have a6:=D.c 1 rfl;have hR:Arr N (w.heap.size+2) 83 (Ac false none 0 0):=P;have H:=fun(g:World) (f:Ext N g)=>qh (XB ((hx.ext l).ext f) ((hy.ext l).ext f) bz B I X Y);clear a0 bz B I;have p:=fun(g:World) (f:Ext N g)=>qh (And.intro (f.cell a3) (And.intro (f.cell a4) (And.intro (f.cell a5) (f.cell a6))))
 refine Ab (by kernel_rfl) (fun g=>Ext N g)
  [he (.pointer (some ⟨w.heap.size,0,none⟩)),
 he (.bool s),
 he (.pointer (some ⟨(w.heap.size+1),0,none⟩)),
 he (.bool t),
 he (.bool (s != t)),
 he (.pointer (some ⟨w.heap.size,1,none⟩)),
 he (.slice a n c),
 he (.pointer (some ⟨(w.heap.size+1),1,none⟩)),
 he (.slice b m d),
 hp (fun v g=>∃ i j k,v = .slice i j k/\Wd g i j k (z.natAbs*y.natAbs)/\Hg w.heap.size S i j),
 hp (fun v g=>∃ A i j k,v = .agg (Ac A i j k).toArray/\Hid (decide (z*y<0)=A)/\Wd g i j k (z*y).natAbs/\Hg w.heap.size S i j)]
  (by kernel_rfl) (fun _ _ e h=>h.trans e) ((Ext.refl N).drew) ⟨trivial,trivial,trivial,trivial,trivial,trivial,trivial,trivial,trivial,fun v w w' e ⟨i,j,k,h1,h2,h3⟩=>⟨i,j,k,h1,h2.ext e,h3⟩,fun v w w' e ⟨A,i,j,k,h1,h2,h3,h4⟩=>⟨A,i,j,k,h1,h2,h3.ext e,h4⟩,trivial⟩ ⟨?o0,?o1,?o2,?o3,?o4,?o5,?o6,?o7,?o8,?o9,?o10,trivial⟩ ?fin
 case o0 | o2=>exact ofa (d:=0)
 case o1 | o3 | o6 | o8=>exact ol
 case o5 | o7=>exact ofa (d:=1)
 case o4 =>
  refine Aj rfl fun x g f o h => ?_;have e0:x (.tmp 6)=(.bool s):=h.1;have e1:x (.tmp 8)=(.bool t):=h.2.1;obtain⟨J,K,L,M⟩:=(p g f).out;go_simp;cases s <;> cases t <;> rfl
 case o9 =>
  refine Ag rfl fun x g f o U h => ?_;have e1:x (.tmp 11)=(.slice a n c):=h.2.1;have e2:x (.tmp 13)=(.slice b m d):=h.2.2.1;obtain⟨J,K,L,M⟩:=(p g f).out;refine⟨222,#[.slice a n c,.slice b m d],by go_simp,((H g f).out).mono ?_⟩;rintro e w' ⟨i,j,k,rfl,q,r,R⟩;exact⟨_,rfl,q,i,j,k,rfl,r,R.of (l.trans f).size (fun _ h=>Or.inr h)⟩
 case o10 =>
  refine Ag rfl fun x g f o U h => ?_;have e1:x (.tmp 9)=(.bool (s != t)):=h.2.1;obtain⟨v2,e2,a2,n2,c2,rfl,d2,f2⟩:=h.2.2.1;obtain⟨J,K,L,M⟩:=(p g f).out;refine⟨203,#[.bool (s != t),.slice a2 n2 c2],by go_simp,(FV d2 (z:=z*y) (Nw HS.out HT.out)).mono ?_⟩;rintro e w' ⟨A,rfl,q,W,r⟩;exact⟨_,rfl,q,A,a2,n2,c2,rfl,W,r,f2⟩
 case fin =>
  intro g f;rintro _ ⟨_,_,_,rfl,_,_⟩;rintro _ ⟨s1,a1,n1,c1,rfl,O,Z,T⟩;change wpList _ _ _ _ _ _;simp only[lq,lw,lx,lz,Act.put,lj,lk,ly];have E:=hR.ext f
  go_wp2_with(refine Aa (vs:=Ac s1 a1 n1 c1) rfl rfl rfl rfl rfl Ai E rfl (Ae _ _ _ _) ?_;intro w9 Q V)
  exact gF (Ap rfl Ai rfl Q) rfl (FX (l.trans f) E (Ax _ _ _ _) V (by omega) O Z T)
theorem CA(h:AF w v z)(d:AF w v' y)(c:z.natAbs<P2 9600)(a:y.natAbs<P2 9600)(b:z.natAbs<P2 2496\/y.natAbs<P2 2496):Calls prog 163 #[v,v'] w (EP w (z*y)) :=
 (K0 (S:=fun _=>True) h d c a b (fun _ _ _ _ _ _ _ _=>trivial) (fun _ _ _ _ _ _ _ _=>trivial)).mono fun _ _ h=>h.plain
structure Kp(S:Nat->Prop)(w w':World):Prop where
 os:w'.os=w.os
 tape:w'.tape=w.tape
 output:w'.output=w.output
 size:w.heap.size<=w'.heap.size
 block:∀ b,b<w.heap.size->¬ S b->w'.heap[b]?=w.heap[b]?
section
variable {S S':Nat->Prop} {w w1 w2:World}
theorem Kp.ofExt(h:Ext w w1):Kp S w w1:=⟨h.os,h.tape,h.output,h.size,fun _ a _=>h.block a⟩
theorem Kp.ofGrown(h:w.grownBy w1 r)(d:∀ g,r=some g->S g):Kp S w w1:=⟨h.os,h.tape,h.output,h.size,fun b a c=>h.block b a (fun e=>c (d b e.symm))⟩
theorem Kp.trans(h:Kp S w w1)(k:Kp S' w1 w2)(d:∀ b,b<w.heap.size->S' b->S b):Kp S w w2 :=
 ⟨k.os.trans h.os,k.tape.trans h.tape,k.output.trans h.output,gJ h.size k.size,fun b a c=>by
  rw[k.block b (ib a h.size) (fun x=>c (d b a x)),h.block b a c]⟩
theorem Kp.ext(h0:Ext w0 w)(h:Kp S w w1)(c:∀ b,S b->w0.heap.size<=b):Ext w0 w1 :=
 ⟨h.os.trans h0.os,h.tape.trans h0.tape,h.output.trans h0.output,gJ h0.size h.size,fun b a=>by
  rw[h.block b (ib a h0.size) (fun x=>by have:=c b x;omega),h0.block a]⟩
theorem Kp.mono(h:Kp S w w1)(c:∀ b,b<w.heap.size->S b->S' b):Kp S' w w1:=⟨h.os,h.tape,h.output,h.size,fun b a d=>h.block b a (fun x=>d (c b a x))⟩
theorem Kp.cell(h:Kp S w w1){p:Addr}{v:Value}(hp:w.cell? p=some v)(a:¬ S p.block):w1.cell? p=some v:=by
 rw[kJ (w:=w) (h.block _ (jq w p hp) a),hp]
theorem Kp.arr(h:Kp S w w1)(a:Arr w g t cs)(b:¬ S g):Arr w1 g t cs:=(h.block g a.lt b).trans a
theorem Kp.own(h:Kp S w w1)(l:Own w base e a n c cs)(o:∀ g,blk a=some g->¬ S g):Own w1 base e a n c cs:=by
 obtain⟨h1,h2⟩:=l;refine⟨h1,?_⟩;rcases h2 with h2|⟨g,b,d,j,m,k,r⟩
 · exact Or.inl h2
 · refine Or.inr ⟨g,b,d,j,m,?_,r⟩;have i:g<w.heap.size:=by
    rcases iH g w.heap.size with h|h
    · exact h
    · simp[jY h]at k
   have f:blk a=some g:=by
    simp only[gW]at j;rw[j.1];rfl
   rw[h.block g i (o g f),k]
theorem Kp.wd(h:Kp S w w1)(j:Wd w a n c x)(f:0<n->∀ g,blk a=some g->¬ S g):Wd w1 a n c x:=by
 obtain⟨k,h1,h2⟩:=j;refine⟨k,?_,h2⟩;refine⟨Sl.len h1,Sl.cap h1,Sl.max h1,fun h0 => ?_⟩;obtain⟨b,o,rfl,d⟩:=Sl.rd h1 h0;exact⟨b,o,rfl,fun i e=>h.cell (d i e) (f h0 b rfl)⟩
end
theorem Dm(h:Own w base e a n c cs)(d:Arr w p t cs')(l:t≠e):blk a≠some p:=by
 rcases h.2 with⟨b,_⟩|⟨g,i,j,b,_,k,_⟩
 · simp only[gW]at b;rw[b.1];simp[blk]
 · simp only[gW]at b;rw[b.1];intro he;have f:g=p:=by simpa[blk]using he
   subst f;unfold Arr at d;rw[k]at d;simp only[gK,kz]at d;exact l d.2.1.symm
def Hs(pa:Option Addr)(pn pc:Nat)(na:Option Addr)(nn nc:Nat):List Value:=[.slice pa pn pc,.slice na nn nc]
def Ct(w:World)(base p:Nat)(qa qb:Option Nat)(N:Nat)(z:Int):Prop :=
 ∃ pa pn pc na nn nc ps ns,Arr w p 224 (Hs pa pn pc na nn nc)/\blk pa=qa/\blk na=qb/\Own w base 238 pa pn pc (ps.map (BL .u64))/\Own w base 238 na nn nc (ns.map (BL .u64)) /\
  W.bnd 18446744073709551616 ps/\W.bnd 18446744073709551616 ns/\(qa=none\/qa≠qb)/\(qb=none\/qb≠qa)/\pn<=N/\nn<=N/\z=(W.val 18446744073709551616 ps:Int)-(W.val 18446744073709551616 ns:Int)/\base<=p
theorem Ct.ext{w c:World}{base p N:Nat}{a b:Option Nat}{z:Int}(h:Ct w base p a b N z)(e:Ext w c):Ct c base p a b N z:=by
 obtain⟨j,l,k,d,g,f,m,i,h1,h2,h3,h4,h5,h6⟩:=h;exact⟨j,l,k,d,g,f,m,i,h1.ext e,h2,h3,h4.ext e,h5.ext e,h6⟩
theorem Ct.kp{S:Nat->Prop}(h:Ct w base p qa qb N z)(e:Kp S w w')(hp:¬ S p)(b:∀ g,qa=some g->¬ S g)(c:∀ g,qb=some g->¬ S g):Ct w' base p qa qb N z:=by
 obtain⟨k,m,l,d,i,f,n,j,h1,h2,h3,h4,h5,h6⟩:=h;exact⟨k,m,l,d,i,f,n,j,e.arr h1 hp,h2,h3,e.own h4 (fun g a=>b g (h2.symm.trans a)),e.own h5 (fun g a=>c g (h3.symm.trans a)),h6⟩
theorem Ct.le{M:Nat}(h:Ct w base p qa qb N z)(j:N<=M):Ct w base p qa qb M z:=by
 obtain⟨e,g,f,a,c,b,i,d,h1,h2,h3,h4,h5,h6,h7,h8,h9,h10,h11,h12⟩:=h;exact⟨e,g,f,a,c,b,i,d,h1,h2,h3,h4,h5,h6,h7,h8,h9,by omega,by omega,h12⟩
theorem Ct.new(h:Arr w p 224 (Hs none 0 0 none 0 0))(b:base<=p):Ct w base p none none 0 0 :=
 ⟨none,0,0,none,0,0,[],[],h,rfl,rfl,Own.nil _ _ _,Own.nil _ _ _,(fun x a=>by simp at a),(fun x a=>by simp at a),Or.inl rfl,Or.inl rfl,lrf _,lrf _,by simp[W.val],b⟩
theorem Ct.lt{w:World}{base p N:Nat}{b c:Option Nat}{z:Int}(h:Ct w base p b c N z):(base<=p/\p<w.heap.size)/\(∀ g,b=some g->base<=g/\g<w.heap.size)/\(∀ g,c=some g->base<=g/\g<w.heap.size):=by
 obtain⟨j,l,k,d,f,e,m,i,h1,h2,h3,h4,h5,h6,h7,h8,h9,h10,h11,h12,h13⟩:=h;exact⟨⟨h13,h1.lt⟩,fun g a=>h4.lt (h2.trans a),fun g a=>h5.lt (h3.trans a)⟩
theorem XC{x:Int}(a:decide (x<0)=s)(b:decide (y<0)=s):x*y=((x.natAbs*y.natAbs:Nat):Int):=by
 have:=Nw a b;rw[this];cases s <;> simp
theorem XD{x:Int}{t:Bool}(a:decide (x<0)=s)(b:decide (y<0)=t)(h:s≠t):x*y = -((x.natAbs*y.natAbs:Nat):Int):=by
 have:=Nw a b;rw[this];cases s <;> cases t <;> simp at h |-
def WJ(w:World)(base p:Nat)(qa qb:Option Nat)(N:Nat)(z:Int)(e:Ending)(w':World):Prop :=
 e = .returned (.tuple #[])/\∃ qa' qb',Ct w' base p qa' qb' (max N 300+40) z/\Kp (fun b=>b=p\/qa=some b\/qb=some b) w w'/\(qa'=qa\/∃ g,qa'=some g/\w.heap.size<=g)/\(qb'=qb\/∃ g,qb'=some g/\w.heap.size<=g)
theorem Ee{x:Int}(hS:Ct w base p qa qb N z)(hx:AF w v x)(hy:AF w v' y)(sx:Ix (fun g=>qa≠some g/\qb≠some g) v)(sy:Ix (fun g=>qa≠some g/\qb≠some g) v')(bx:x.natAbs<P2 9600)(a3:y.natAbs<P2 9600)(ab:x.natAbs<P2 2496\/y.natAbs<P2 2496)(hN:N<=100000000)(hb:base<=w.heap.size) :
 Calls prog 221 #[.pointer (some ⟨p,0,none⟩),v,v'] w (WJ w base p qa qb N (z+x*y)):=by
 obtain⟨s,a,n,c,rfl,HS,hx⟩:=hx;obtain⟨t,b,m,d,rfl,HT,hy⟩:=hy;have sx:=sx.at
 have sy:=sy.at
 have k1:=hx.len (k:=150) bx;have k2:=hy.len (k:=150) a3;have k3:=hx.zero;have k4:=hy.zero;have ac:n<40\/m<40:=by
  rcases ab with h|h
  · left;have:=hx.len (k:=39) h;omega
  · right;have:=hy.len (k:=39) h;omega
 clear bx a3 ab;obtain⟨xs,L,nx⟩:=hx;obtain⟨ys,M,ny⟩:=hy;have a2:=qh hS;obtain⟨pa,pn,pc,na,nn,nc,ps,ns,K,a9,aa,C,B,bp,bn,a7,a8,al,ak,hz,a6⟩:=hS;have l:=qh (And.intro (And.intro a9 aa) (And.intro a7 a8));have HZ:=qh hz;have I:=qh (And.intro bp bn);have SX:=qh sx;have SY:=qh sy;have NX:=qh nx;have NY:=qh ny;have am:=K.lt;clear a9 aa a7 a8 hz bp bn sx sy nx ny
 go_enter func221,ntmps221
 go_upto_region 1 with(fail)
 refine Cf ?_;intro w0 f T U ah;have an:=T.c 0 rfl;have ao:=T.c 1 rfl;have ap:=U.c 0 rfl;have aq:=U.c 1 rfl;have u0:w0.cell? ⟨p,0,none⟩=some (.slice pa pn pc):=(K.ext f).cell (i:=0) (by simp[Hs]);have u1:w0.cell? ⟨p,1,none⟩=some (.slice na nn nc):=(K.ext f).cell (i:=1) (by simp[Hs]);clear T U ah;by_cases a5:n=0
 · have O:Hid (z+x*y=z):=qh (by have:=k3.1 a5;rw[show x=0 by omega];simp);subst a5;go_wp2
   go_end0
   rw[O.out];exact⟨rfl,qa,qb,(a2.out.ext f).le (by omega),Kp.ofExt f,Or.inl rfl,Or.inl rfl⟩
 · have aj:((n:Int) == 0)=false:=by simp;omega
   by_cases a4:m=0
   · have O:Hid (z+x*y=z):=qh (by have:=k4.1 a4;rw[show y=0 by omega];simp);subst a4;go_wp2
     go_end0
     rw[O.out];exact⟨rfl,qa,qb,(a2.out.ext f).le (by omega),Kp.ofExt f,Or.inl rfl,Or.inl rfl⟩
   · have ai:((m:Int) == 0)=false:=by simp;omega
     cases s <;> cases t
     case false.false | true.true =>
      have a0:blk a≠qa:=fun he=>by
       obtain⟨P,oo,rfl,_⟩:=L.at (j:=0) (by omega);exact(SX.out (by omega) P rfl).1 he.symm
      have a1:blk b≠qa:=fun he=>by
       obtain⟨P,oo,rfl,_⟩:=M.at (j:=0) (by omega);exact(SY.out (by omega) P rfl).1 he.symm
      have F:blk pa≠some p:=Dm C K (by decide);have G:blk na≠some p:=Dm B K (by decide);go_wp2
      refine EQ 9 (by decide) (by kernel_rfl) (fun wx=>Ext w0 wx)
       [he (.pointer (some ⟨p,0,none⟩)),
 he (.pointer (some ⟨p,0,none⟩)),
 he (.pointer (some ⟨p,0,none⟩)),
 he (.pointer (some ⟨p,0,none⟩)),
 he (.slice pa pn pc),
 he (.pointer (some ⟨w.heap.size,1,none⟩)),
 he (.slice a n c),
 he (.pointer (some ⟨(w.heap.size+1),1,none⟩)),
 he (.slice b m d)]
       (by kernel_rfl) (by kernel_rfl) (fun _ _ _ d _ h=>by cases d <;> exact h) (fun _ _ e h=>h.trans e) ((Ext.refl w0).drew) ⟨trivial,trivial,trivial,trivial,trivial,trivial,trivial,trivial,trivial,trivial⟩ ⟨?o0,?o1,?o2,?o3,?o4,?o5,?o6,?o7,?o8,trivial⟩ ?fin
      case o0 | o1=>exact omv
      case o2=>exact onc
      case o3=>exact ofa (d:=0)
      case o4 | o6 | o8=>exact ol
      case o5 | o7=>exact ofa (d:=1)
      case fin =>
       intro wx r;change wpList _ _ _ _ _ _;simp only[pk,ph,Eg,j8,mE,lg,ji,Act.put,nj,lu,lV];have R:=(K.ext f).ext r;have Z:=(C.ext f).ext r;have Y:=(B.ext f).ext r;have ag:=r.size;have ad:=f.size
       have q:=FW (w:=wx) (V:=W.val 18446744073709551616 ps) Z I.out.1 rfl ((L.ext f).ext r) ((M.ext f).ext r) NX.out NY.out (by omega) (by omega) (by rw[l.out.1.1];exact a0) (by rw[l.out.1.1];exact a1) ac (by omega) (by omega) (by omega) (by omega)
       go_wp2_with fail
       refine q.mono ?_;rintro e w2 ⟨J,n',Q,zs,rfl,o,hv,af⟩;have hA2:=R.kept o.grown (fun he=>F he.symm);have q1:=hA2.c 0 rfl;have q2:=hA2.frozen 0;have X:=Y.kept o.grown (by rw[l.out.1.2,l.out.1.1];exact l.out.2.2);have HV:=qh hv;have ae:=o.grown.size;clear q hv;go_wp2
       go_end0
       have A:=Ar w2 p 0 (.slice J n' Q);have H:=Dm o.own hA2 (by decide);have E:=f.trans r;refine⟨rfl,blk J,qb,⟨J,n',Q,na,nn,nc,zs,ns,hA2.set 0 (.slice J n' Q),rfl,l.out.1.2,o.own.kept A (Or.inr H),X.kept A (Or.inr G),o.bnd,I.out.2,?_,?_,by omega,by omega,?_,a6⟩,?_,?_,?_⟩
       · rcases o.src with e|⟨g,e,D⟩
         · rw[e,l.out.1.1];exact l.out.2.1
         · refine Or.inr fun he => ?_;rw[e,<-l.out.1.2]at he;have:=(B.lt he.symm).2;omega
       · rcases l.out.2.2 with h|h
         · exact Or.inl h
         · refine Or.inr fun he => ?_;rcases o.src with e|⟨g,e,D⟩
           · rw[e,l.out.1.1]at he;exact h he
           · rw[e,<-l.out.1.2]at he;have:=(B.lt he).2;omega
       · rw[HZ.out,HV.out,XC HS.out HT.out,iy];omega
       · exact((Kp.ofExt E).trans (Kp.ofGrown o.grown (S:=fun b=>b=p\/qa=some b\/qb=some b) (fun g D=>Or.inr (Or.inl (l.out.1.1.symm.trans D)))) (fun _ _ h=>h)).trans (Kp.ofGrown A (S:=fun b=>b=p\/qa=some b\/qb=some b) (fun g D=>Or.inl (by simpa using D.symm))) (fun _ _ h=>h)
       · rcases o.src with e|⟨g,e,D⟩
         · exact Or.inl (e.trans l.out.1.1)
         · exact Or.inr ⟨g,e,by omega⟩
       · exact Or.inl rfl
     case false.true | true.false =>
      have a0:blk a≠qb:=fun he=>by
       obtain⟨P,oo,rfl,_⟩:=L.at (j:=0) (by omega);exact(SX.out (by omega) P rfl).2 he.symm
      have a1:blk b≠qb:=fun he=>by
       obtain⟨P,oo,rfl,_⟩:=M.at (j:=0) (by omega);exact(SY.out (by omega) P rfl).2 he.symm
      have F:blk na≠some p:=Dm B K (by decide);have G:blk pa≠some p:=Dm C K (by decide);go_wp2
      refine EQ 9 (by decide) (by kernel_rfl) (fun wx=>Ext w0 wx)
       [he (.pointer (some ⟨p,0,none⟩)),
 he (.pointer (some ⟨p,0,none⟩)),
 he (.pointer (some ⟨p,0,none⟩)),
 he (.pointer (some ⟨p,1,none⟩)),
 he (.slice na nn nc),
 he (.pointer (some ⟨w.heap.size,1,none⟩)),
 he (.slice a n c),
 he (.pointer (some ⟨(w.heap.size+1),1,none⟩)),
 he (.slice b m d)]
       (by kernel_rfl) (by kernel_rfl) (fun _ _ _ d _ h=>by cases d <;> exact h) (fun _ _ e h=>h.trans e) ((Ext.refl w0).drew) ⟨trivial,trivial,trivial,trivial,trivial,trivial,trivial,trivial,trivial,trivial⟩ ⟨?o0,?o1,?o2,?o3,?o4,?o5,?o6,?o7,?o8,trivial⟩ ?fin
      case o0 | o1=>exact omv
      case o2=>exact onc
      case o3 | o5 | o7=>exact ofa (d:=1)
      case o4 | o6 | o8=>exact ol
      case fin =>
       intro wx r;change wpList _ _ _ _ _ _;simp only[pk,ph,Eg,j8,mE,lg,ji,Act.put,nj,lu,lV];have R:=(K.ext f).ext r;have Z:=(B.ext f).ext r;have Y:=(C.ext f).ext r;have ag:=r.size;have ad:=f.size
       have q:=FW (w:=wx) (V:=W.val 18446744073709551616 ns) Z I.out.2 rfl ((L.ext f).ext r) ((M.ext f).ext r) NX.out NY.out (by omega) (by omega) (by rw[l.out.1.2];exact a0) (by rw[l.out.1.2];exact a1) ac (by omega) (by omega) (by omega) (by omega)
       go_wp2_with fail
       refine q.mono ?_;rintro e w2 ⟨J,n',Q,zs,rfl,o,hv,af⟩;have hA2:=R.kept o.grown (fun he=>F he.symm);have q1:=hA2.c 1 rfl;have q2:=hA2.frozen 1;have X:=Y.kept o.grown (by rw[l.out.1.1,l.out.1.2];exact l.out.2.1);have HV:=qh hv;have ae:=o.grown.size;clear q hv;go_wp2
       go_end0
       have A:=Ar w2 p 1 (.slice J n' Q);have H:=Dm o.own hA2 (by decide);have E:=f.trans r;refine⟨rfl,qa,blk J,⟨pa,pn,pc,J,n',Q,ps,zs,hA2.set 1 (.slice J n' Q),l.out.1.1,rfl,X.kept A (Or.inr G),o.own.kept A (Or.inr H),I.out.1,o.bnd,?_,?_,by omega,by omega,?_,a6⟩,?_,?_,?_⟩
       · rcases l.out.2.1 with h|h
         · exact Or.inl h
         · refine Or.inr fun he => ?_;rcases o.src with e|⟨g,e,D⟩
           · rw[e,l.out.1.2]at he;exact h he
           · rw[e,<-l.out.1.1]at he;have:=(C.lt he).2;omega
       · rcases o.src with e|⟨g,e,D⟩
         · rw[e,l.out.1.2];exact l.out.2.2
         · refine Or.inr fun he => ?_;rw[e,<-l.out.1.1]at he;have:=(C.lt he.symm).2;omega
       · rw[HZ.out,HV.out,XD HS.out HT.out (by decide),iy];omega
       · exact((Kp.ofExt E).trans (Kp.ofGrown o.grown (S:=fun b=>b=p\/qa=some b\/qb=some b) (fun g D=>Or.inr (Or.inr (l.out.1.2.symm.trans D)))) (fun _ _ h=>h)).trans (Kp.ofGrown A (S:=fun b=>b=p\/qa=some b\/qb=some b) (fun g D=>Or.inl (by simpa using D.symm))) (fun _ _ h=>h)
       · exact Or.inl rfl
       · rcases o.src with e|⟨g,e,D⟩
         · exact Or.inl (e.trans l.out.1.2)
         · exact Or.inr ⟨g,e,by omega⟩
end Go.Proofs.YtlbmnokpiilfpaaGreatDoor
