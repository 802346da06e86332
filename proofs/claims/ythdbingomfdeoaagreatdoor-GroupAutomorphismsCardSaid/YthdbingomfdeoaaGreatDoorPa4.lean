/- Part Pa4. -/
import Derived.Test.YthdbingomfdeoaaGreatDoorPa3
import Derived.Deep.LoopGhost
set_option linter.all false
set_option maxRecDepth 100000
set_option maxHeartbeats 100000000
namespace Go.Proofs.YthdbingomfdeoaaGreatDoor
open Tryz Go Go.RowKit
def fJ:=@Int.natAbs_natCast
def fZ:=@List.append_assoc
def ft:=@List.length_map
def gR:=@List.append_nil
def gT:=@List.mem_of_getElem?
def iA:=@List.mem_range
def iD:=@Int.natAbs_mul
def iY:=@decide_eq_true_eq
def j9:=@Nat.pow_mul
def jj:=@Int.natAbs_neg
def jt:=@Nat.le_of_lt
def k9:=@decide_eq_decide
def kD:=@decide_false
def kM:=@Array.getElem?_eq_getElem
def kU:=@Classical.epsilon_spec
def ke:=@getD_replicate_false
def lM:=@Bool.eq_iff_iff
variable {p q:Addr} {neg odd s t:Bool} {z:Int} {xs ys:List Nat} {l:List Oper} {cs:List Value} {N R X c d k m n off x y:Nat} {a b:Option Addr} {cons:Option Nat} {T:TypeId} {u v v':Value} {w w' w1 w9 wb:World}
def Vn(wb:World)(ga n ca gb cb p q:Nat)(e:Ending)(w':World):Prop :=
 e = .returned (.tuple #[])/\Ext wb w'/\∃ zs ts,Am .u64 w' wb.heap.size 101 ga n ca zs/\Am .u64 w' wb.heap.size 101 gb n cb ts/\W.bnd 18446744073709551616 zs/\W.bnd 18446744073709551616 ts/\W.val 18446744073709551616 zs=p/\W.val 18446744073709551616 ts=q
theorem P6{g m ca cb u0 u1 V v1 p q:Nat}(ah:Ext wb w)(hx:Am .u64 w wb.heap.size 101 g n ca xs)(hy:Am .u64 w wb.heap.size 101 m n cb ys)(aT:g≠m)(bx:W.bnd 18446744073709551616 xs)(a1:W.bnd 18446744073709551616 ys)(vx:W.val 18446744073709551616 xs=x)(vy:W.val 18446744073709551616 ys=y)(aF:u0<18446744073709551616)(aG:u1<18446744073709551616)(aH:V<18446744073709551616)(aI:v1<18446744073709551616)(al:W.Steps x y u0 u1 V v1 odd p q)(hn:n<=1000000) :
 Calls prog 176 #[.agg (Cn u0 u1 V v1 odd).toArray,.slice (some ⟨g,0,none⟩) n ca,.slice (some ⟨m,0,none⟩) n cb] w (Vn wb g n ca m cb p q):=by
 have HX:=eP hx.len;have HY:=eP hy.len;have ag:=eP vx;have a0:=eP vy;have K:=eP al;have BX:=eP bx;have BY:=eP a1;have aM:=hx.lt;have aN:=hy.lt;have ae:=hx.lo;have af:=hy.lo;clear vx vy al
 go_enter func176,ntmps176
 go_upto_region 1 with(fail)
 refine AK ?_;intro w1 R aj aJ;have ak:Arr w1 w.heap.size 236 (Cn u0 u1 V v1 odd):=aj;have an:=hx.ext R;have ap:=hy.ext R;have ai:=ah.trans R;generalize ay:w.heap.size=S at *
 clear aj hx hy ah R aJ ay;go_wp2
 go_loopw[6,7,8,9,10,11,21] (fun a6 a7 a8 a9 aw ax iv wr=>∃ (k cP cQ cR cT b f:Nat) (zs j:List Nat),a6 = .int .u64 cP/\a7 = .int .u64 cQ/\a8 = .int .u64 cR/\a9 = .int .u64 cT/\aw = .int .u64 b/\ax = .int .u64 f/\iv = .int .i64 k/\k<=n/\(cP<18446744073709551616/\cQ<18446744073709551616/\cR<18446744073709551616/\cT<18446744073709551616)/\b<=1/\f<=1/\Ext wb wr/\Arr wr S 236 (Cn u0 u1 V v1 odd)/\Am .u64 wr wb.heap.size 101 g n ca zs/\Am .u64 wr wb.heap.size 101 m n cb j/\W.bnd 18446744073709551616 zs/\W.bnd 18446744073709551616 j/\Hid (zs.drop k=xs.drop k)/\Hid (j.drop k=ys.drop k)/\Hid (if odd=true then W.val 18446744073709551616 (zs.take k)+V*W.val 18446744073709551616 (ys.take k)+cP*18446744073709551616^k=u0*W.val 18446744073709551616 (xs.take k)+(cQ+b)*18446744073709551616^k else W.val 18446744073709551616 (zs.take k)+u0*W.val 18446744073709551616 (xs.take k)+cQ*18446744073709551616^k=V*W.val 18446744073709551616 (ys.take k)+(cP+b)*18446744073709551616^k)/\Hid (if odd=true then W.val 18446744073709551616 (j.take k)+u1*W.val 18446744073709551616 (xs.take k)+cR*18446744073709551616^k=v1*W.val 18446744073709551616 (ys.take k)+(cT+f)*18446744073709551616^k else W.val 18446744073709551616 (j.take k)+v1*W.val 18446744073709551616 (ys.take k)+cT*18446744073709551616^k=u1*W.val 18446744073709551616 (xs.take k)+(cR+f)*18446744073709551616^k)) (fun _ _ _ _ _ _ iv _=>n-(intOf iv).toNat)
 case atStart=>exact⟨0,0,0,0,0,0,0,xs,ys,rfl,rfl,rfl,rfl,rfl,rfl,rfl,f8 _,⟨by omega,by omega,by omega,by omega⟩,by omega,by omega,ai,ak,an,ap,bx,a1,eP rfl,eP rfl,eP (by simp[W.val]),eP (by simp[W.val])⟩
 case round =>
  clear ai ak an ap bx a1;obtain⟨k,cP,cQ,cR,cT,b,f,zs,j,rfl,rfl,rfl,rfl,rfl,rfl,rfl,hk,⟨az,aA,aB,aC⟩,T,U,hE,hS,J,I,bz,bt,DZ,DT,H1,H2⟩:=hrel;have aK:S≠g:=by omega
  have aL:S≠m:=by omega
  by_cases a:k<n
  · have c1:=J.cell (i:=k) a;have c2:=I.cell (i:=k) a;have f1:=J.frozen k;have f2:=I.frozen k;have s0:=hS.c 0 rfl;have s1:=hS.c 1 rfl;have s2:=hS.c 2 rfl;have s3:=hS.c 3 rfl;have s4:=hS.c 4 rfl;have b1:=W.bnd_at bz (i:=k) (by rw[J.len];exact a);have b2:=W.bnd_at bt (i:=k) (by rw[I.len];exact a);have ao:zs.getD k 0=xs.getD k 0:=DU DZ.out;have aq:j.getD k 0=ys.getD k 0:=DU DT.out;have L:=eP ao;have M:=eP aq;clear ao aq;generalize zs.getD k 0=xk at *
    generalize j.getD k 0=yk at *
    have aO:(k:Int)<n:=by omega
    go_wp2_with fail
    refine(Bm b1 aF az).mono ?_;rintro e w2 ⟨r,N,rfl,rfl,aP,X,E⟩;have E1:=eP E;clear E
    go_wp2_with fail
    refine(Bm b2 aH aA).mono ?_;rintro e w2 ⟨s,O,rfl,rfl,aQ,Y,E⟩;have E2:=eP E;clear E
    go_wp2_with fail
    refine(Bm b2 aI aB).mono ?_;rintro e w2 ⟨t,P,rfl,rfl,aR,Z,E⟩;have E3:=eP E;clear E
    go_wp2_with fail
    refine(Bm b1 aG aC).mono ?_;rintro e w2 ⟨z,Q,rfl,rfl,aS,ad,E⟩;have E4:=eP E;clear E;cases odd with
    | true =>
     have au:=Dp r s b T;have av:=Dp t z f U;have d1:=S3 (x:=r) (y:=s) (c:=b) (by omega) (by omega) T;have d2:=S3 (x:=t) (y:=z) (c:=f) (by omega) (by omega) U;have q1:(r+18446744073709551616-s-b)%18446744073709551616<18446744073709551616:=fN _ (by omega);have q2:(t+18446744073709551616-z-f)%18446744073709551616<18446744073709551616:=fN _ (by omega);have r1:=S4 (x:=r) (y:=s) (c:=b);have r2:=S4 (x:=t) (y:=z) (c:=f);generalize (r+18446744073709551616-s-b)%18446744073709551616=l at *
     generalize (t+18446744073709551616-z-f)%18446744073709551616=o at *
     generalize (if r<s+b then 1 else 0)=D at *
     generalize (if t<z+f then 1 else 0)=H at *
     have a2:=J.set k l;have a3:=(I.kept (Ab wr g k (.int .u64 (l:Int))) (by simp;omega)).set k o;have a4:=a2.kept (Ab (wr.setCell ⟨g,k,none⟩ (.int .u64 (l:Int))) m k (.int .u64 (o:Int))) (by simp;omega);have a5:=(hS.far (p:=⟨g,k,none⟩) (by show S≠g;omega) (.int .u64 (l:Int))).far (p:=⟨m,k,none⟩) (by show S≠m;omega) (.int .u64 (o:Int));have aa:=(hE.setCell (p:=⟨g,k,none⟩) ae (.int .u64 (l:Int))).setCell (p:=⟨m,k,none⟩) af (.int .u64 (o:Int))
     have A:=eP (Gg (B:=18446744073709551616) (zs:=zs) (xs:=ys) (ys:=xs) (k:=k) (d:=l) (u:=V) (v:=u0) (c1:=cP) (c2:=cQ+b) (c1':=N) (c2':=O+D) (by rw[J.len];exact a) (by rw[HY.out];exact a) (by rw[HX.out];exact a) (by have:=H1.out;rw[fE rfl]at this;exact this) (by rw[<-L.out,<-M.out];have:=E1.out;have:=E2.out;omega))
     have C:=eP (Gg (B:=18446744073709551616) (zs:=j) (xs:=xs) (ys:=ys) (k:=k) (d:=o) (u:=u1) (v:=v1) (c1:=cR) (c2:=cT+f) (c1':=P) (c2':=Q+H) (by rw[I.len];exact a) (by rw[HX.out];exact a) (by rw[HY.out];exact a) (by have:=H2.out;rw[fE rfl]at this;exact this) (by rw[<-L.out,<-M.out];have:=E3.out;have:=E4.out;omega));clear d1 d2 E1 E2 E3 E4 H1 H2;go_wp2;go_roundw
     case rel=>exact⟨k+1,N,O,P,Q,D,H,zs.set k l,j.set k o,rfl,rfl,rfl,rfl,rfl,rfl,by go_num,by omega,⟨X,Y,Z,ad⟩,r1,r2,aa,a5,a4,a3,W.bnd_set bz q1,W.bnd_set bt q2,eP (Dr DZ.out),eP (Dr DT.out),eP (by first | exact A.out | (rw[fE rfl];exact A.out)),eP (by first | exact C.out | (rw[fE rfl];exact C.out))⟩
     case measure=>simp[intOf];omega
    | false =>
     have au:=Dp s r b T;have av:=Dp z t f U;have d1:=S3 (x:=s) (y:=r) (c:=b) (by omega) (by omega) T;have d2:=S3 (x:=z) (y:=t) (c:=f) (by omega) (by omega) U;have q1:(s+18446744073709551616-r-b)%18446744073709551616<18446744073709551616:=fN _ (by omega);have q2:(z+18446744073709551616-t-f)%18446744073709551616<18446744073709551616:=fN _ (by omega);have r1:=S4 (x:=s) (y:=r) (c:=b);have r2:=S4 (x:=z) (y:=t) (c:=f);generalize (s+18446744073709551616-r-b)%18446744073709551616=l at *
     generalize (z+18446744073709551616-t-f)%18446744073709551616=o at *
     generalize (if s<r+b then 1 else 0)=D at *
     generalize (if z<t+f then 1 else 0)=H at *
     have a2:=J.set k l;have a3:=(I.kept (Ab wr g k (.int .u64 (l:Int))) (by simp;omega)).set k o;have a4:=a2.kept (Ab (wr.setCell ⟨g,k,none⟩ (.int .u64 (l:Int))) m k (.int .u64 (o:Int))) (by simp;omega);have a5:=(hS.far (p:=⟨g,k,none⟩) (by show S≠g;omega) (.int .u64 (l:Int))).far (p:=⟨m,k,none⟩) (by show S≠m;omega) (.int .u64 (o:Int));have aa:=(hE.setCell (p:=⟨g,k,none⟩) ae (.int .u64 (l:Int))).setCell (p:=⟨m,k,none⟩) af (.int .u64 (o:Int))
     have A:=eP (Gg (B:=18446744073709551616) (zs:=zs) (xs:=xs) (ys:=ys) (k:=k) (d:=l) (u:=u0) (v:=V) (c1:=cQ) (c2:=cP+b) (c1':=O) (c2':=N+D) (by rw[J.len];exact a) (by rw[HX.out];exact a) (by rw[HY.out];exact a) (by have:=H1.out;rw[fl (by simp)]at this;exact this) (by rw[<-L.out,<-M.out];have:=E1.out;have:=E2.out;omega))
     have C:=eP (Gg (B:=18446744073709551616) (zs:=j) (xs:=ys) (ys:=xs) (k:=k) (d:=o) (u:=v1) (v:=u1) (c1:=cT) (c2:=cR+f) (c1':=Q) (c2':=P+H) (by rw[I.len];exact a) (by rw[HY.out];exact a) (by rw[HX.out];exact a) (by have:=H2.out;rw[fl (by simp)]at this;exact this) (by rw[<-L.out,<-M.out];have:=E3.out;have:=E4.out;omega));clear d1 d2 E1 E2 E3 E4 H1 H2;go_wp2;go_roundw
     case rel=>exact⟨k+1,N,O,P,Q,D,H,zs.set k l,j.set k o,rfl,rfl,rfl,rfl,rfl,rfl,by go_num,by omega,⟨X,Y,Z,ad⟩,r1,r2,aa,a5,a4,a3,W.bnd_set bz q1,W.bnd_set bt q2,eP (Dr DZ.out),eP (Dr DT.out),eP (by first | exact A.out | (rw[fl (by simp)];exact A.out)),eP (by first | exact C.out | (rw[fl (by simp)];exact C.out))⟩
     case measure=>simp[intOf];omega
  · have ek:k=n:=by omega
    have ar:zs.take k=zs:=eR (by rw[J.len];omega);have am:j.take k=j:=eR (by rw[I.len];omega);have ab:xs.take k=xs:=eR (by rw[HX.out];omega);have ac:ys.take k=ys:=eR (by rw[HY.out];omega);have h1:=H1.out;have h2:=H2.out;rw[ar,ab,ac,ag.out,a0.out,ek]at h1;rw[am,ab,ac,ag.out,a0.out,ek]at h2;have l1:=W.val_lt bz;have l2:=W.val_lt bt;have l3:=W.val_lt BY.out;rw[J.len]at l1;rw[I.len]at l2;rw[HY.out,a0.out]at l3;have aD:=K.out.le;have aE:=K.out.lt;have F:=K.out.ep
    have G:=K.out.eq;have HF:Hid (W.val 18446744073709551616 zs=p/\W.val 18446744073709551616 j=q):=by
     show _/\_;cases odd with
     | true =>
      rw[fE rfl]at h1 h2 F G;exact⟨W.comb_end h1 F l1 (by omega),W.comb_end h2 G l2 (by omega)⟩
     | false =>
      rw[fl (by simp)]at h1 h2 F G;exact⟨W.comb_end h1 F l1 (by omega),W.comb_end h2 G l2 (by omega)⟩
    clear h1 h2 F G l1 l2 l3 ar am ab ac ek aD aE;go_wp2
    go_end0
    exact⟨rfl,hE,zs,j,J,I,bz,bt,HF.out.1,HF.out.2⟩
theorem GN(i:SlN .u64 w a n c xs)(e:SlN .u64 w b m d ys)(j:Num 18446744073709551616 xs x)(f:Num 18446744073709551616 ys y)(p:n<=100000)(h0:0<y) :
 Calls prog 208 #[.slice a n c,.slice b m d] w (FB a .u64 18446744073709551616 w (x/y) (x%y)):=by
 by_cases g:x<y
 · exact DR i e j f g
 · have l:=e.len;rcases fL m 2 with h2|h2
   · have o:m=1:=by
      rcases fj m with h|h
      · subst h;have:ys=[]:=fa l;have k:=f.val;rw[this]at k;simp only[W.val]at k;omega
      · omega
     subst o;exact Ef i e j f (by omega) (by omega) h0
   · exact Eg i e j f p (by omega) (mm:=m-2) (by omega)
theorem Ds(t:SlN .u64 w a n c xs)(v:SlN .u64 w b m d ys)(z:Num 18446744073709551616 xs x)(A:Num 18446744073709551616 ys y)(s:n<=100000)(D:m<=100000)(h0:0<y)(C:m<80\/n<m+80) :
 Calls prog 175 #[.slice a n c,.slice b m d] w (FB a .u64 18446744073709551616 w (x/y) (x%y)):=by
 have r:=GN t v z A s h0;have q:=eP r;clear r;have E:IntKind.i64.wrap ((n:Int)-m)=(n:Int)-m:=eT _ (by omega);by_cases h1:m<80
 · have h2:¬ ((80:Int)<=(m:Int)):=by omega
   go_enter func175,ntmps175
   go_wp2_with fail
   refine q.out.mono ?_;rintro e B ⟨i,o,k,f,j,p,l,g,rfl,h⟩;have H:=eP h;clear h;go_wp2
   go_ret2
   exact⟨i,o,k,f,j,p,l,g,rfl,H.out⟩
 · have h2:(80:Int)<=(m:Int):=by omega
   have h3:¬ ((80:Int)<=(n:Int)-m):=by omega
   go_enter func175,ntmps175
   go_wp2_with fail
   refine q.out.mono ?_;rintro e B ⟨i,o,k,f,j,p,l,g,rfl,h⟩;have H:=eP h;clear h;go_wp2
   go_ret2
   exact⟨i,o,k,f,j,p,l,g,rfl,H.out⟩
theorem Hq(i:SlN .u64 w a n c xs)(j:SlN .u64 w b m d ys)(k:Num 18446744073709551616 xs x)(l:Num 18446744073709551616 ys y)(g:n<=100000)(f:m<=100000)(h0:0<y)(e:m<80\/n<m+80) :
 Calls prog 175 #[.slice a n c,.slice b m d] w (TI .u64 18446744073709551616 w (x/y) (x%y)) :=
 (Ds i j k l g f h0 e).mono fun _ _ h=>h.q
def RK(w:World)(n:Nat)(xs:List Nat)(e:Ending)(w':World):Prop:=∃ a' c',e = .returned (.slice a' n c')/\Ext w w'/\Own w' w.heap.size 101 a' n c' (xs.map (Bk .u64))
theorem DV(i:SlN .u64 w a n c xs)(y:n<=1000000) :
 Calls prog 170 #[.slice a n c] w (RK w n xs):=by
 rcases fj n with h0|h0
 · subst h0;have j:xs=[]:=fa i.len;subst j;have v:=fun m:World=>Lib.run_eql_slice_nil (P:=prog) m 98 101 a 0 c 0 0 underlying98;cases a with
   | none =>
    go_enter func170,ntmps170
    go_wp2;go_ret;exact⟨none,0,rfl,Ext.refl w,Own.nil _ _ _⟩
   | some p =>
    go_enter func170,ntmps170
    go_upto_region 3 with(fail)
    have l:Ext w (w.alloc (.cells #[] 101)):=(Ext.refl w).alloc _;have b:=Ag w w.heap.size 101 #[] 0 rfl (lrf _) (by omega)
    go_wp2_with(refine AU (news:=[]) rfl rfl underlying98 AG rfl rfl b rfl (i.ext l) (by simp) (by unfold maxLen;omega) (by omega) (by simp) ?_;intro o r z d f t)
    go_ret;exact⟨o,r,rfl,l.grown f (fun k x=>(b.lt x).1),d⟩
 · refine(Un i y h0).mono ?_;rintro e m ⟨g,q,rfl,s,b⟩;exact⟨_,q,rfl,s,b⟩
section
variable {P:Program} {ops:Array Oper} {hs:List Hd} {a0:Act} {C:World->Prop} {i:Nat} {o:Oper}
theorem A8{c:Value}(d:Bg hs o=some true)(h:∀ a w,Dd a->C w->Cf ops hs a0 o a w o.op.operands.toList->(execOp a o).run P w = .ok (.value c) w) :
 obl P C ops hs a0 i o (he c):=by
 unfold obl;rw[d];intro a w hp b e;rw[h a w hp b e];exact⟨rfl,rfl⟩
theorem Gh(a:Bg hs o=some false):obl P C ops hs a0 i o (he undef):=by
 unfold obl;rw[a];exact fun w _=>rfl
theorem Kv{c:Value}{x:Operand}(e:Bg hs o=some true)(a:o.op = .move x\/o.op = .assign x)(h:∀ b w,Dd b->Cf ops hs a0 o b w [x]->b x=c):obl P C ops hs a0 i o (he c) :=
 A8 e fun b w hp _ d=>by
  rcases a with a|a <;>
  · rw[a]at d;simp only[execOp,a,h b w hp d];rfl
theorem RL{p:Value->World->Prop}(k:Bg hs o=some true)
 (h:∀ b w,Dd b->C w->Cf ops hs a0 o b w o.op.operands.toList->∃ f a,(execOp b o).run P w = .ok (.enter f a) w/\Calls P f a w (fun e c=>∃ u,e = .returned u/\Ext w c/\p u c)) :
 obl P C ops hs a0 i o ⟨false,.pr p,cons⟩:=by
 unfold obl;rw[k];intro b w hp d l;obtain⟨f,a,j,g⟩:=h b w hp d l;rw[j];exact g
theorem Ae{c:Value}(d:Bg hs o=some true)(h:∀ a w,C w->(∀ v,a (.const v)=v)->Cf ops hs a0 o a w o.op.operands.toList->(execOp a o).run P w = .ok (.value c) w):obl P C ops hs a0 i o (he c):=A8 d fun a w hp b e=>h a w b hp.const e
theorem Ah{p:Value->World->Prop}(g:Bg hs o=some true)(h:∀ b w,C w->(∀ v,b (.const v)=v)->(∀ f,b (.func f) = .func (.func f) #[] #[])->Cf ops hs a0 o b w o.op.operands.toList->∃ f a,(execOp b o).run P w = .ok (.enter f a) w/\Calls P f a w (fun e c=>∃ u,e = .returned u/\Ext w c/\p u c)):obl P C ops hs a0 i o ⟨false,.pr p,cons⟩:=RL g fun b w hp d j=>h b w d hp.const hp.func j
end
def Lr(ops:Array Oper)(n:Nat)(i:Nat)(o:Oper):Bool :=
 (List.range n).all (fun j=>(anc ops 12 (Bq o)).contains j) || (Bq o).any (fun k=>n<=k && k<i)
def Dt(ops:Array Oper)(cons:List (Option Nat))(size:Nat):Bool :=
 let n:=cons.length
 decide (n<=ops.size) && (List.range ops.size).all (fun i=>match ops[i]? with | some o=>if i<n then Nu ops cons n size i o else Lr ops n i o | none=>false) &&
 cons.all (fun k=>match k with | some k=>k<n | none=>true) &&
 Region.seqB .any ops (ops.size-n) n ((Array.range ops.size).map (fun j=>decide (j<n)))
section
variable {P:Program} {Q:Exit->Act->World->Prop}
theorem Gi{a:Act}(C:World->Prop)(b:List Hd)
 (N:Dt l.toArray (b.map (·.cons)) a.tmps.size=true)
 (a3:∀ w f,Ext w f->C w->C f) (hC:C w.drew) (a9:IP b)
 (Z:Nw P C l.toArray b a 0 l b)
 (T:∀ f,C f->F7 f (fun x=>wpList P l.toArray Q (l.drop b.length) x f) l b a):wpAny P .any l.toArray Q l.toArray.size (Array.replicate l.toArray.size false) a w.drew:=by
 unfold Dt at N;simp only[gJ,ft,iY]at N;obtain⟨⟨⟨hn,O⟩,ac⟩,I⟩:=N;have ad:l.toArray.size=l.length:=by simp
 have g:∀ i o,l.toArray[i]?=some o->(i<b.length->GL l.toArray (b.map (·.cons)) b.length a.tmps.size i o)/\(b.length<=i->Lr l.toArray b.length i o=true):=by
  intro i o s;have G:i<l.toArray.size:=(gr.1 s).1;have:=il.1 O i (by simpa using G);rw[s]at this;simp only at this;refine⟨fun h => ?_,fun h => ?_⟩
  · rw[fE h]at this;exact Ml this
  · rw[fl (by omega)]at this;exact this
 have ab:∀ m listed x f,unl listed b.length=m->Rw l.toArray b a C listed x f->wpAny P .any l.toArray Q (m+(l.toArray.size-b.length)) listed x f:=by
  intro m
  induction m with
  | zero =>
   intro listed x f hu e;have q:=IX hu;have L:listed=(Array.range l.toArray.size).map (fun j=>decide (j<b.length)):=by
    apply Array.ext
    · rw[e.size];simp
    · intro i h1 h2;simp only[Array.getElem_map,Array.getElem_range];by_cases G:i<b.length
      · have:=q i G;simp[h1]at this;simp[this,G]
      · have:=e.tailF i (by omega);simp[h1]at this;simp[this,G]
   -- the frame
   have ha:x=CQ (fun j=>match Bf l.toArray j with | some d=>x.tmps.getD d undef | none=>Classical.epsilon (fun v=>(A7 b j).ty.ok v f)) 0 l b a:=by
    apply SZ
    · rw[JA];exact e.defers
    · rw[Mn];exact e.tmps
    · intro t;by_cases J:∃ j o,j<b.length/\l[j]?=some o/\o.dst=some t
      · obtain⟨j,o,H,s,r⟩:=J;have X:l.toArray[j]?=some o:=by simpa using s
        have A:=(g j o X).1 H
        rw[NB b l 0 a j o H s r (A.dst t r) (by
         intro k' o' a7 M a4;have Y:l.toArray[k']?=some o':=by simpa using M
         by_cases W:k'=j
         · exact W
         · have:=A.apart k' a7 W (by rw[DM Y,a4,r]);rw[r]at this
           cases this)]
        rw[fP,DM X,r]
      · rw[F8 b l 0 a (fun k o D s r=>J ⟨k,o,D,s,r⟩)];refine e.frame t fun j H _ r=>J ?_;unfold Bf at r;cases s:l.toArray[j]? with
        | none=>rw[s]at r;cases r
        | some o=>rw[s]at r;exact⟨j,o,H,by simpa using s,r⟩
   have F:=NA (vs:=fun j=>match Bf l.toArray j with | some d=>x.tmps.getD d undef | none=>Classical.epsilon (fun v=>(A7 b j).ty.ok v f)) b l 0 a (T f e.world)
    (by
     intro k D c R;rw[fP];cases r:Bf l.toArray k with
     | some d=>exact e.values k c D (q k D) R d r
     | none =>
      have:(A7 b k).ty.ok (Classical.epsilon (fun v=>(A7 b k).ty.ok v f)) f:=by
       apply kU (p:=fun v=>(A7 b k).ty.ok v f);refine⟨c,?_⟩;rw[show(A7 b k).ty = .eq c from R];rfl
      have h2:(A7 b k).ty = .eq c:=R;rw[h2]at this;simp only[Ty.ok]at this;rw[h2]
      exact this)
    (by
     intro k D p hp R;rw[fP]
     obtain⟨v,hv,aa⟩:=e.facts k D (q k D) (by
      intro k' S;have h1:(A7 b k).cons=none:=R;rw[h1]at S
      cases S)
     have h2:(A7 b k).ty = .pr p:=hp;cases r:Bf l.toArray k with
     | some d =>
      simp only;rw[aa d r];rw[h2]at hv;exact hv
     | none =>
      have:(A7 b k).ty.ok (Classical.epsilon (fun v=>(A7 b k).ty.ok v f)) f:=kU (p:=fun v=>(A7 b k).ty.ok v f) ⟨v,hv⟩;simp only;rw[h2]at this |-
      exact this)
   rw[<-ha]at F;rw[fP];have hl:(l.drop b.length).length=l.toArray.size-b.length:=by simp
   rw[<-hl];rw[<-hl,<-L]at I;exact wpAny_of_seq (l.drop b.length) b.length listed x f (by intro j;simp) I F
  | succ m ih =>
   intro listed x f hu e;rw[show m+1+(l.toArray.size-b.length)=(m+(l.toArray.size-b.length))+1 by omega];refine⟨fun z => ?_,fun i G => ?_⟩
   · obtain⟨j,H,B,a6⟩:=Ld (listed:=listed) (n:=b.length) (by omega);have V:j<l.toArray.size:=by omega
     have s:l.toArray[j]?=some l.toArray[j]:=kM V;have A:=(g j _ s).1 H
     have:j∈Region.ready .any l.toArray listed:=Rx (by
      have:j<listed.size:=by rw[e.size];exact V
      simpa[this]using B) s (fun p hp=>a6 p (A.lt p hp))
     rw[z]at this;cases this
   · obtain⟨h0,o,s,a0⟩:=IQ G;have U:i<listed.size:=by rw[e.size];exact(gr.1 s).1
     have a5:listed.getD i false=false:=by simpa[U]using h0
     have K:i<b.length:=by
      rcases fL i b.length with h|h
      · exact h
      · exfalso;have ht:=(g i o s).2 h;unfold Lr at ht;simp only[kC,il,iA,jZ,List.any_eq_true,gJ,iY]at ht;rcases ht with ht|⟨k,D,a8,_⟩
        · obtain⟨j,H,B,_⟩:=Ld (listed:=listed) (n:=b.length) (by omega);rw[DL e.closed 12 (Bq o) a0 j (ht j H)]at B;cases B
        · have:=a0 k D;rw[e.tailF k a8]at this;cases this
     refine RA (by simpa using Z) a9 a3 e G K (fun o' M=>(g i o' M).1 K) fun a2 w2 a1 => ?_;refine ih _ a2 w2 ?_ a1;have:=Ow U a5 K;omega
 have E:Rw l.toArray b a C (Array.replicate l.toArray.size false) a w.drew:=by
  have A:∀ j,(Array.replicate l.toArray.size false).getD j false=false:=fun j=>ke _ j;refine⟨by simp,fun j _=>A j,(fun j h=>by rw[A j]at h;cases h),hC,rfl,rfl,fun _ _=>rfl,(fun j _ h=>by rw[A j]at h;cases h),(fun j c _ h=>by rw[A j]at h;cases h)⟩
 have y:unl (Array.replicate l.toArray.size false) b.length=b.length:=by
  have:∀ n,unl (Array.replicate l.toArray.size false) n=n:=by
   intro n
   induction n with
   | zero=>rfl
   | succ n ih=>rw[unl,ih,ke];simp
  exact this _
 have:=ab b.length _ a w.drew y E
 rwa[show b.length+(l.toArray.size-b.length)=l.toArray.size by omega]at this
theorem Co{id:Nat}{a:Act}(m:P.follows .mixedOrders=true)(C:World->Prop)(b:List Hd)
 (g:Dt l.toArray (b.map (·.cons)) a.tmps.size=true)
 (f:∀ w c,Ext w c->C w->C c) (k:C w.drew) (i:IP b)
 (e:Nw P C l.toArray b a 0 l b)
 (d:∀ c,C c->F7 c (fun j=>wpList P l.toArray Q (l.drop b.length) j c) l b a):(Code.region id l.toArray true).wp P Q a w :=
 wp_region_any m (Gi C b g f k i e d)
theorem Bs:(∀ {α:Type} {a:α} {l:List α},(a :: l).length=l.length+1)/\(∀ {α:Type},([]:List α).length=0)/\(∀ {α:Type} {a:α} {l:List α} {n:Nat},(a :: l).drop (n+1)=l.drop n)/\(∀ {α:Type} {l:List α},l.drop 0=l)/\(∀ (a:Act) (d:Tmp) (v:Value),a.put (some d) v={ a with tmps:=a.tmps.setIfInBounds d v })/\(∀ (a:Act) (v:Value),a.put none v=a)/\(∀ {α:Type} {l:List α} {i:Nat} {a:α},l.toArray.setIfInBounds i a=(l.set i a).toArray)/\(∀ {α:Type} {x:α} {l:List α} {n:Nat} {a:α},(x :: l).set (n+1) a=x :: l.set n a)/\(∀ {α:Type} {x:α} {l:List α} {a:α},(x :: l).set 0 a=a :: l) :=
 ⟨fW,kW,ij,gm,fun _ _ _=>rfl,fun _ _=>rfl,jC ..,jn,kF⟩
def OI:List Hd->Prop
 | []=>True
 | ⟨_,.eq _,_⟩ :: r=>OI r
 | ⟨_,.pr p,_⟩ :: r=>(∀ v w w',Ext w w'->p v w->p v w')/\OI r
theorem ED:∀ {hs:List Hd},OI hs->IP hs
 | [],_=>trivial
 | ⟨_,.eq _,_⟩ :: _,h=>⟨trivial,ED h⟩
 | ⟨_,.pr _,_⟩ :: _,h=>⟨h.1,ED h.2⟩
abbrev hdP(b o:Nat):Hd:=he (.pointer (some ⟨b,o,none⟩))
abbrev hdI(z:Int):Hd:=he (.int .i64 z)
abbrev hdB(b:Bool):Hd:=he (.bool b)
abbrev hdS(a:Option Addr)(n c:Nat):Hd:=he (.slice a n c)
abbrev hdU:Hd:=he undef
theorem Ac{id:Nat}{a:Act}(b:List Hd)(g:OI b)
 (d:Nw P (fun m=>Ext w m) l.toArray b a 0 l b)
 (c:∀ i,Ext w i->F7 i (fun j=>wpList P l.toArray Q (l.drop b.length) j i) l b a)
 (k:P.follows .mixedOrders=true:=by kernel_rfl) (f:Dt l.toArray (b.map (·.cons)) a.tmps.size=true:=by kernel_rfl):(Code.region id l.toArray true).wp P Q a w :=
 Co k _ b f (fun _ _ e h=>h.trans e) ((Ext.refl w).drew) (ED g) d c
end
structure OJ(w wr:World)(N G:Nat)(aa:Option Addr)(na ca:Nat)(ab:Option Addr)(nb cb X Y:Nat)(xs ys:List Nat):Prop where
 ext:Ext w wr
 own1:Own wr w.heap.size 101 aa na ca (xs.map (Bk .u64))
 own2:Own wr w.heap.size 101 ab nb cb (ys.map (Bk .u64))
 ne:0<nb->blk aa≠blk ab
 n1:Num 18446744073709551616 xs X
 n2:Num 18446744073709551616 ys Y
 le:Y<=X
 pos:0<X
 gcd:Nat.gcd X Y=G
 bnd:X<18446744073709551616^N
theorem Gj(h:Num 18446744073709551616 xs X)(a:X<18446744073709551616^N):xs.length<=N :=
 W.nrm_len (B:=18446744073709551616) (by omega) h.nrm (by rw[h.val];exact a)
theorem Tc(h:Num 18446744073709551616 xs X)(hp:0<X):0<xs.length:=by
 rcases fj xs.length with h0|h0
 · have:xs=[]:=fa h0;have a:=h.val;rw[this]at a;simp only[W.val]at a;omega
 · exact h0
theorem I7(h:Num 18446744073709551616 xs X)(hp:xs.length=0):X=0:=by
 have:xs=[]:=fa hp;have a:=h.val;rw[this]at a;exact a.symm
theorem OK(h:Num 18446744073709551616 xs X)(hp:xs.length=1):xs.getD 0 0=X/\X<18446744073709551616/\0<X:=by
 match xs,hp with
 | [u],_ =>
  have a:=h.val;have b:=h.bnd u (by simp);have c:=h.nrm (by simp);simp[W.val]at a c;subst a;exact⟨rfl,b,by omega⟩
def TJ(w:World)(G0:Nat)(cv:Int)(v0 v1:Value):Prop:=∃ a n c b m d xs ys x y,v0 = .slice a n c/\v1 = .slice b m d/\SlN .u64 w a n c xs/\SlN .u64 w b m d ys/\Num 18446744073709551616 xs x/\Num 18446744073709551616 ys y/\n<=150/\m<=150/\Nat.gcd x y=G0/\(cv<0<->x<y)
theorem Lt(hT:BE w)(Q:SlN .u64 w a n c xs)(hy:SlN .u64 w b m d ys)(N:Num 18446744073709551616 xs x)(ny:Num 18446744073709551616 ys y)(hn:n<=150)(hm:m<=150) :
 Calls prog 136 #[.slice a n c,.slice b m d] w (PU .u64 18446744073709551616 w (Nat.gcd x y)):=by
 have ah:=eP (Bw Q hy N ny);obtain⟨F,l⟩:∃ F,Nat.gcd x y=F:=⟨_,rfl⟩;rw[l];have a5:=eP (C2 (x:=x) (y:=y));obtain⟨cv,aK⟩:∃ cv,AQ (x:Int) (y:Int)=cv:=⟨_,rfl⟩;rw[aK]at ah a5;have HI:Hid (TJ w F cv (.slice a n c) (.slice b m d)):=eP ⟨a,n,c,b,m,d,xs,ys,x,y,rfl,rfl,Q,hy,N,ny,hn,hm,l,by have:=a5.out;omega⟩;clear aK l Q hy N ny hn hm a5
 go_enter func136,ntmps136
 go_wp2_with fail
 refine ah.out.mono ?_;rintro e w0 ⟨rfl,aF⟩;have t:=aF.ext;clear ah aF
 go_upto_if 13 with(fail)
 go_cut [0,1] from 14 to 71 (fun v0 v1 o=>TJ w F 0 v0 v1/\o=w0)
 case first =>
  obtain⟨a,n,c,b,m,d,xs,ys,x,y,h1,h2,Q,hy,N,ny,hn,hm,l,D⟩:=HI.out;simp only[eY]at h1 h2;obtain⟨rfl,rfl,rfl⟩:=h1;obtain⟨rfl,rfl,rfl⟩:=h2;have aA:=eP D;have az:=eP l;clear D l HI;by_cases hc:cv<0
  · go_wp2_with fail
    go_meet
    exact⟨⟨_,_,_,_,_,_,ys,xs,y,x,rfl,rfl,hy,Q,ny,N,hm,hn,by rw[iX];exact az.out,by have:=aA.out.1 hc;omega⟩,rfl⟩
  · go_wp2_with fail
    go_meet
    exact⟨⟨_,_,_,_,_,_,xs,ys,x,y,rfl,rfl,Q,hy,N,ny,hn,hm,az.out,by have:=mt aA.out.2 (by omega);omega⟩,rfl⟩
 case rest =>
  obtain⟨⟨a,n,c,b,m,d,xs,ys,x,y,rfl,rfl,Q,hy,N,ny,hn,hm,l,D⟩,bw⟩:=hcut;subst bw;have ay:=eP l;have HX:=eP Q.len;have HY:=eP hy.len;have NX:=eP N;have NY:=eP ny;have aI:x<18446744073709551616^n:=by have:=W.val_lt N.bnd;rw[N.val,Q.len]at this;exact this
  have HB:=eP aI;have ap:y<=x:=by have:=D;omega
  have am:=Q.ext t;have aS:=hy.ext t;clear aI N ny D l HI;by_cases E:m=0
  · have aw:y=0:=I7 NY.out (by rw[HY.out];exact E);have f:Hid (F=x):=by show _=_;rw[<-ay.out,aw];exact jN _
    have bi:((m:Int) == 0)=true:=by simp[E]
    clear aw E;go_wp2;go_ret;exact⟨a,n,c,xs,rfl,t,am,by rw[f.out];exact NX.out⟩
  have bi:((m:Int) == 0)=false:=by simpa using E
  have bF:0<y:=by
   rcases fj y with h|h
   · exfalso;have h1:W.val 18446744073709551616 ys=0:=by rw[NY.out.val,h]
     have h2:=(W.nrm_zero (B:=18446744073709551616) (by omega) NY.out.nrm).1 h1;have h3:=HY.out;rw[h2]at h3;exact E h3.symm
   · exact h
  clear E
  go_wp2_with fail
  refine(DV am (by omega)).mono ?_;rintro e w1 ⟨a1,c1,rfl,Z,ac⟩
  go_wp2_with fail
  refine(DV (aS.ext Z) (by omega)).mono ?_;rintro e w2 ⟨a2,c2,rfl,a8,ad⟩;have L:OJ w w2 n (F) a1 n c1 a2 m c2 x y xs ys:=by
   refine⟨(t.trans Z).trans a8,(ac.mono t.size).ext a8,ad.mono (t.trans Z).size,fun h0 he => ?_,NX.out,NY.out,ap,by omega,ay.out,HB.out⟩;obtain⟨g2,rfl,bS,_⟩:=ad.place h0;have:=(ac.lt (k:=g2) (by rw[he];rfl)).2;omega
  have f:=eP L;clear L ac ad Z a8 am aS t;go_wp2
  go_loopg [5,6] (x+y) (fun gk av bv wr=>∃ (aa G:Option Addr) (s O i U X Y:Nat) (us R:List Nat),av = .slice aa s O/\bv = .slice G i U/\s<=150/\i<=s/\X+Y<=gk/\Hid (OJ w wr n (F) aa s O G i U X Y us R))
  case atStart =>
   refine⟨a1,a2,n,c1,m,c2,x,y,xs,ys,rfl,rfl,by omega,?_,lrf _,f⟩;have h1:=Gj NY.out (fU ap HB.out);rw[HY.out]at h1;exact h1
  case round =>
   clear f;obtain⟨aa,G,s,O,i,U,X,Y,us,R,rfl,rfl,bX,bk,bV,f⟩:=hrel;have HU:Hid (us.length=s):=eP (by have:=f.out.own1.len;simpa using this);have HV:Hid (R.length=i):=eP (by have:=f.out.own2.len;simpa using this);have be:=f.out.pos;have a0:=f.out.le;have aq:0<s:=by have:=Tc f.out.n1 be;rw[HU.out]at this;exact this
   have K:SlN .u64 wr aa s O us:=f.out.own1.sl;have a3:SlN .u64 wr G i U R:=f.out.own2.sl;obtain⟨P,rfl,bI,aU⟩:=f.out.own1.place aq;by_cases h1:i<=1
   · by_cases h0:i=0
     · have aG:Y=0:=I7 f.out.n2 (by rw[HV.out];exact h0);have HF:Hid (Num 18446744073709551616 us (F)):=by
        have h2:=f.out.gcd;rw[aG,jN]at h2;have h3:=f.out.n1;rw[h2]at h3;exact eP h3
       have V:=f.out.ext;subst h0;clear aG h1;go_wp2;go_ret;exact⟨_,s,O,us,rfl,V,K,HF.out⟩
     · have h11:i=1:=by omega
       subst h11;obtain⟨k1,k2,k3⟩:=OK f.out.n2 HV.out;obtain⟨b2,o2,rfl,I⟩:=a3.at (j:=0) (by omega);have g1:=I 0 (by omega);rw[k1,gd]at g1;have HF:Hid (Nat.gcd Y (X%Y)=F):=by
        show _=_;rw[<-f.out.gcd,iX X Y,lK Y X,iX]
       have V:=f.out.ext;have bd:=hT.ext V;have bh:Nat.gcd Y (X%Y)<18446744073709551616:=by have:=ld k3 (jh Y (X%Y));omega
       have bo:=fun(o:World) (h:Ext wr o)=>Gc (d:=Y) (K.ext h) f.out.n1.bnd f.out.n1.val k2 k3 (by omega);clear I h1 h0 k1;have aX:X%Y<18446744073709551616:=by have:=fN X k3;omega
       go_wp2
       refine Ac
        [hdS (some ⟨b2,o2,none⟩) 1 U,hdP b2 o2,he (.int .u64 (Y:Int)),hdS (some ⟨P,0,none⟩) s O,hdS (some ⟨b2,o2,none⟩) 1 U,hdP b2 o2,he (.int .u64 (Y:Int)),hp (fun v o=>v = .int .u64 ((X%Y:Nat):Int)),hp (fun v o=>v = .int .u64 ((Nat.gcd Y (X%Y):Nat):Int)),hp (fun v o=>∃ a' n' c' zs,v = .slice a' n' c'/\SlN .u64 o a' n' c' zs/\Num 18446744073709551616 zs (Nat.gcd Y (X%Y)))]
        ⟨fun v w w' e h=>h,fun v w w' e h=>h,fun v w w' e ⟨a',n',c',zs,h1,h2,h3⟩=>⟨a',n',c',zs,h1,h2.ext e,h3⟩,trivial⟩ ⟨?o0,?o1,?o2,?o3,?o4,?o5,?o6,?o7,?o8,?o9,trivial⟩ ?fin
       case o0 | o3 | o4=>exact Kv rfl (.inl rfl) (fun _ _ _ h=>h.1)
       case o1 | o2 | o5 | o6 =>
        refine Ae rfl fun ρ o hC J h => ?_
        try have e0:_=_:=h.1
        try have e1:_=_:=h.2.1
        try have e2:_=_:=h.2.2.1
        have bU:=hC.cell g1;go_simp
        try (first | (intros;omega) | exact eT _ (by omega))
       case o7 =>
        refine Ah rfl fun ρ o hC J aM h => ?_;have e1:_=_:=h.2.1;have e2:_=_:=h.2.2.1;refine⟨179,#[.slice (some ⟨P,0,none⟩) s O,.int .u64 (Y:Int)],by go_simp,(bo o hC).mono ?_⟩;rintro e w' ⟨rfl,ba⟩;exact⟨_,rfl,ba.ext,rfl⟩
       case o8 =>
        refine Ah rfl fun ρ o hC J aM h => ?_;have e1:_=_:=h.2.1;obtain⟨v2,e2,rfl⟩:=h.2.2.1;refine⟨178,#[.int .u64 (Y:Int),.int .u64 ((X%Y:Nat):Int)],by go_simp,(MC (bd.ext hC) k2 aX).mono ?_⟩;rintro e w' ⟨rfl,rfl⟩;exact⟨_,rfl,Ext.refl _,rfl⟩
       case o9 =>
        refine Ah rfl fun ρ o hC J aM h => ?_;obtain⟨v1,e1,rfl⟩:=h.2.1;refine⟨177,#[.int .u64 ((Nat.gcd Y (X%Y):Nat):Int)],by go_simp,(Le bh).mono ?_⟩;rintro e w' ⟨a',n',c',zs,rfl,b5,bp,bj⟩;exact⟨_,rfl,b5,a',n',c',zs,rfl,bp,bj⟩
       case fin =>
        intro o hC;rintro _ rfl;rintro _ rfl;rintro _ ⟨b1,bA,b3,bE,rfl,bC,bD⟩;change wpList _ _ _ _ _ _;simp only[Bs];go_wp2;go_ret;exact⟨b1,bA,b3,bE,rfl,V.trans hC,bC,by rw[<-HF.out];exact bD⟩
   · have bf:(1:Int)<i:=by omega
     obtain⟨gb,rfl,bL,aV⟩:=f.out.own2.place (by omega);have bY:P≠gb:=by have:=f.out.ne (by omega);simpa[blk]using this
     have V:=f.out.ext
     go_wp2_with fail
     refine(Lq K a3 f.out.n1 f.out.n2 (by omega) a0 (nn:=s-2) (by omega)).mono ?_;rintro e w3 ⟨u0,u1,v0,v1,aT,rfl,H,bq,br,bs,bu,L⟩;have aB:=eP L;clear L
     go_upto_region 8 with(refine Aa rfl rfl rfl rfl rfl Cm (Arr.new _ _ _) rfl (FC _ _ _ _ _) ?_;intro w4 ae aN)
     have aC:Ext w3 w4:=((Ext.refl w3).alloc _).grownR aN (lrf _);have g:=H.trans aC;have o1:=f.out.own1.ext g;have o2:=f.out.own2.ext g;have s2:=ae.c 2 rfl;by_cases M:v0=0
     · subst M;have C:0<Y:=by
        rcases fj Y with h|h
        · exfalso;have h2:=(W.nrm_zero (B:=18446744073709551616) (by omega) f.out.n2.nrm).1 (by rw[f.out.n2.val,h]);have h3:=HV.out;rw[h2]at h3;simp at h3;omega
        · exact h
       have aL:=Hq (K.ext g) (a3.ext g) f.out.n1 f.out.n2 (by omega) (by omega) C (by omega)
       go_wp2_with fail
       refine aL.mono ?_;rintro e w5 ⟨p1,p2,p3,p4,ar,nr,cr,rs,rfl,A,_,_,aj,an,_⟩;have bZ:nr<=150:=by
        have h1:=Gj an (jK (fN X C) (fU a0 f.out.bnd));rw[aj.len]at h1;omega
       have bn:nr<=i:=by
        have h1:=W.val_lt f.out.n2.bnd;rw[f.out.n2.val,HV.out]at h1;have h2:=Gj an (jK (fN X C) h1);rw[aj.len]at h2;exact h2
       clear aL
       go_wp2_with fail
       refine(DV aj (by omega)).mono ?_;rintro e w6 ⟨a6,c6,rfl,b6,aD⟩;have ao:=(g.trans A).trans b6;have a4:Hid (OJ w w6 n (F) (some ⟨gb,0,none⟩) i U a6 nr c6 Y (X%Y) R rs):=by
        refine eP ⟨V.trans ao,f.out.own2.ext ao,aD.mono ((V.trans g).trans A).size,fun h0 he => ?_,f.out.n2,an,jt (fN X C),C,?_,fU a0 f.out.bnd⟩
        · obtain⟨g6,rfl,bT,_⟩:=aD.place h0;simp only[blk,i8,fc]at he;have:=g.size;have:=A.size;omega
        · rw[<-f.out.gcd,iX X Y,lK Y X,iX]
       have bW:Y+X%Y<X+Y:=by have:=fN X C;omega
       go_wp2
       go_roundg (Y+X%Y)
       case rel=>exact⟨_,a6,i,U,nr,c6,Y,X%Y,R,rs,rfl,rfl,by omega,bn,lrf _,a4⟩
       case measure=>omega
     · have bP:((v0:Int) == 0)=false:=by simpa using M
       have b0:∃ p q,W.Steps X Y u0 u1 v0 v1 aT p q:=by
        rcases aB.out with h|h
        · exact absurd h M
        · exact h
       obtain⟨p,q,aQ⟩:=b0;have T:=eP aQ;clear aQ aB;have bM:gb<w3.heap.size:=fG aV H.size;have bK:P<w3.heap.size:=fG aU H.size;have bR:w.heap.size<=w3.heap.size:=(V.trans H).size;have A:=V.trans g;clear K a3 bf aC aN g H;generalize w3.heap.size=S at *
       go_wp2;clear s2;obtain⟨wo,bx⟩:∃ wo:World,wo=wr:=⟨_,rfl⟩;subst bx
       go_loopw[6] (fun bv o=>∃ (G:Option Addr) (z cc:Nat),bv = .slice G z cc/\i<=z/\z<=s/\Ext w o/\Own o w.heap.size 101 (some ⟨P,0,none⟩) s O (us.map (Bk .u64))/\Own o w.heap.size 101 G z cc ((R ++ List.replicate (z-i) 0).map (Bk .u64))/\blk G≠some P/\Arr o S 236 (Cn u0 u1 v0 v1 aT)/\blk G≠some S) (fun bv _=>match bv with | .slice _ k _=>s-k | _=>0)
       case atStart=>exact⟨_,i,U,rfl,lrf _,bk,A,o1,by rw[iW,List.replicate_zero,gR];exact o2,by simp[blk];omega,ae,by simp[blk];omega⟩
       case round =>
        clear o1 o2 ae A;obtain⟨G,z,cc,rfl,bN,bO,a9,o1,o2,ag,r,aJ⟩:=hrel;by_cases D:z<s
        · have hA:=o2.alloc (.cells #[.int .u64 0] 101);have hL:=(Ag wr w.heap.size 101 #[.int .u64 0] 1 rfl a9.size (by omega)).sl;have bg:∀ k,blk G=some k->w.heap.size<=k:=fun k hk=>(o2.lt hk).1;have bJ:=(o1.lt (k:=P) rfl).2;have bQ:=r.lt
          go_wp2_with(refine AU rfl rfl underlying98 AG rfl rfl hA rfl hL (by simp[Value.oneCell']) (by unfold maxLen;omega) (by omega) (by simp;omega) ?_;intro a7 c7 w7 aE ai af)
          have b7:Ext w w7:=(a9.alloc _).grown ai bg;have bB:=(o1.alloc (.cells #[.int .u64 0] 101)).kept ai (Or.inr (fun h=>ag h.symm));have bc:=(r.alloc (.cells #[.int .u64 0] 101)).kept ai (fun h=>aJ h.symm);have aY:blk a7≠some P:=by
           rcases af with h|h
           · rw[h];exact ag
           · rw[h];simp;omega
          have aZ:blk a7≠some S:=by
           rcases af with h|h
           · rw[h];exact aJ
           · rw[h];simp;omega
          have b9:Own w7 w.heap.size 101 a7 (z+1) c7 ((R ++ List.replicate (z+1-i) 0).map (Bk .u64)):=by
           have e1:z+1-i=z-i+1:=by omega
           rw[e1,List.replicate_succ',<-fZ,fM];exact aE
          clear aE hA hL af;go_roundw
          case rel=>exact⟨a7,z+1,c7,rfl,by omega,by omega,b7,bB,b9,aY,bc,aZ⟩
          case measure=>simp;omega
        · have b4:z=s:=by omega
          subst b4;obtain⟨g2,rfl,bG,bH⟩:=o2.place aq;have au:P≠g2:=by intro h;subst h;exact ag rfl
          have vb:W.val 18446744073709551616 (R ++ List.replicate (z-i) 0)=Y:=by rw[Oz,f.out.n2.val]
          have bb:W.bnd 18446744073709551616 (R ++ List.replicate (z-i) 0):=OA (by omega) f.out.n2.bnd _;have aH:=P6 a9 o1 o2 au f.out.n1.bnd bb f.out.n1.val vb bq br bs bu T.out (by omega);have ax:=eP aH;clear aH vb bb;have s0:=r.c 0 rfl;have s1:=r.c 1 rfl;have s2:=r.c 2 rfl;have s3:=r.c 3 rfl;have s4:=r.c 4 rfl
          go_wp2_with fail
          refine ax.out.mono ?_;rintro e w8 ⟨rfl,b8,zs,ts,oz,ot,bz,bt,vz,vt⟩;clear s0 s1 s2 s3 s4 r ax
          go_wp2_with fail
          refine(BO oz.sl).mono ?_;rintro e w9 ⟨m1,rfl,rfl,aO,ak⟩
          go_wp2_with fail
          refine(BO ot.sl).mono ?_;rintro e w9 ⟨m2,rfl,rfl,aP,al⟩;obtain⟨t1,t2⟩:=Cg oz.sl aO ak bz vz;obtain⟨t3,t4⟩:=Cg ot.sl aP al bt vt;have o3:=oz.upto aO;have o4:=ot.upto aP;rw[<-ak]at o3;rw[<-al]at o4;have aR:=T.out.lt;have bl:=T.out.le;have bm:p<18446744073709551616^n:=fU (eW bl a0) f.out.bnd;have aW:m2<=m1:=by
           have h1:=W.val_lt t2.bnd;rw[t2.val,t1.len]at h1;have h2:=Gj t4 (jK aR h1);rw[t3.len]at h2;exact h2
          have a4:Hid (OJ w w8 n (F) (some ⟨P,0,none⟩) m1 O (some ⟨g2,0,none⟩) m2 cc p q (W.trim zs) (W.trim ts)) :=
           eP ⟨b8,o3,o4,fun _=>by simpa[blk]using au,t2,t4,jt aR,by omega,by rw[T.out.gcd,f.out.gcd],bm⟩
          clear ak al t1 t2 t3 t4 o3 o4 oz ot bz bt vz vt o1 o2;go_wp2
          go_roundg (p+q)
          case rel=>exact⟨_,_,m1,O,m2,cc,p,q,W.trim zs,W.trim ts,rfl,rfl,by omega,aW,lrf _,a4⟩
          case measure=>omega
def OL(P:Program)(T:TypeId):Bool:=match P.underlying T with
 | none | some (.struct _) | some (.array _ _)=>false
 | _=>true
def Ut(P:Program)(T:TypeId)(k:Nat):Option Nat:=match P.underlying T with
 | some (.struct fs)=>(fs[k]?).bind fun f=>(match (P.info? f.type).map (·.size)with | some (_+1)=>some f.offset | _=>none)
 | _=>none
section
variable {P:Program} {w:World}
theorem OM(a:OL P T=true)(c:w.cell? p=some v):(Instr.loadAt T (.pointer (some p))).run P w = .ok v w:=by
 unfold OL at a;cases h:P.underlying T with
 | none=>rw[h]at a;cases a
 | some d =>
  rw[h]at a;have b:(isAgg T).run P w = .ok false w:=by
   simp only[isAgg,fq,fQ h,eX];cases d <;> first | rfl | cases a
  simp[Instr.loadAt,Instr.sureAddr,loadVar,b,c]
theorem ON{b:Nat}(e:Agg P T cs.length)(f:∀ j v,cs[j]?=some v->w.cell? ⟨b,off+j,none⟩=some v):(Instr.loadAt T (.pointer (some ⟨b,off,none⟩))).run P w = .ok (.agg cs.toArray) w:=by
 obtain⟨d,hu,g,a⟩:=e.parts;have h1:(isAgg T).run P w = .ok true w:=by
  simp only[isAgg,fq,fQ hu,eX];cases d <;> first | rfl | exact absurd g (by simp)
 obtain⟨i,c,l⟩:∃ i,P.info? T=some i/\i.size=cs.length:=by
  cases h:P.info? T with
  | none=>rw[h]at a;cases a
  | some i=>rw[h]at a;exact⟨i,rfl,by simpa using a⟩
 have h2:=run_loadCells_list (P:=P) w ⟨b,off,none⟩ cs (fun j v k=>by
  have:=f j v k;unfold Addr.add;split
  · rename_i h0;rw[h0,gd]at this;exact this
  · exact this)
 simp[Instr.loadAt,Instr.sureAddr,loadVar,h1,sizeOf,typeInfo,c,l,h2]
theorem Uu{b:Nat}(h:Ut P T k=some d):(Instr.fieldAt T (.pointer (some ⟨b,off,none⟩)) k).run P w = .ok (.pointer (some ⟨b,off+d,none⟩)) w:=by
 unfold Ut at h;split at h
 · rename_i j hu;cases c:j[k]? with
   | none=>rw[c]at h;cases h
   | some f =>
    rw[c]at h;simp only[jF]at h;split at h
    · rename_i n a;cases h;obtain⟨i,g,l⟩:∃ i,P.info? f.type=some i/\i.size=n+1:=by
       cases h:P.info? f.type with
       | none=>rw[h]at a;cases a
       | some i=>rw[h]at a;exact⟨i,rfl,by simpa using a⟩
      have e:(⟨b,off,none⟩:Addr).add f.offset=⟨b,off+f.offset,none⟩:=by
       unfold Addr.add;split
       · rename_i h0;rw[h0,gd]
       · rfl
      simp[Instr.fieldAt,fQ hu,c,Instr.sureAddr,fieldPlace,sizeOf,typeInfo,g,l,e]
    · cases h
 · cases h
end
section
variable {P:Program} {ops:Array Oper} {hs:List Hd} {a0:Act} {W:World} {i:Nat} {o:Oper}
theorem ol{t:Tmp}(f:Bg hs o=some true:=by rfl)(b:o.op = .load T (.tmp t):=by rfl)(g:∀ a w,Ey ops hs a0 o a w (.tmp t)->a (.tmp t) = .pointer (some p):=by exact fun _ _=>id)(d:OL P T=true:=by kernel_rfl)(e:W.cell? p=some v:=by assumption):obl P (fun j=>Ext W j) ops hs a0 i o (he v) :=
 A8 f fun a w hp c h=>by
  rw[b]at h;simp only[execOp,b,g a w h.1,fq,OM d (c.cell e),eX,fO]
theorem ol2{t:Tmp}{b:Nat}(k:Bg hs o=some true:=by rfl)(e:o.op = .load T (.tmp t):=by rfl)(l:∀ c w,Ey ops hs a0 o c w (.tmp t)->c (.tmp t) = .pointer (some ⟨b,off,none⟩):=by exact fun _ _=>id)(f:Agg P T 2:=by exact⟨by kernel_rfl,by kernel_rfl⟩)(h0:W.cell? ⟨b,off,none⟩=some u:=by assumption)(h1:W.cell? ⟨b,off+1,none⟩=some v:=by assumption):obl P (fun m=>Ext W m) ops hs a0 i o (he (.agg #[u,v])) :=
 A8 k fun c w hp d h=>by
  rw[e]at h
  have g:(Instr.loadAt T (.pointer (some ⟨b,off,none⟩))).run P w = .ok (.agg [u,v].toArray) w:=ON (cs:=[u,v]) f (fun j x a=>by
   match j,a with
   | 0,a=>cases a;exact d.cell h0
   | 1,a=>cases a;exact d.cell h1
   | j+2,a=>simp at a)
  simp only[execOp,e,l c w h.1,fq,g,eX,fO]
theorem ol4{t:Tmp}{b:Nat}{x y:Value}(k:Bg hs o=some true:=by rfl)(e:o.op = .load T (.tmp t):=by rfl)(l:∀ d w,Ey ops hs a0 o d w (.tmp t)->d (.tmp t) = .pointer (some ⟨b,off,none⟩):=by exact fun _ _=>id)(f:Agg P T 4:=by exact⟨by kernel_rfl,by kernel_rfl⟩)(h0:W.cell? ⟨b,off,none⟩=some u:=by assumption)(h1:W.cell? ⟨b,off+1,none⟩=some v:=by assumption)(h2:W.cell? ⟨b,off+2,none⟩=some x:=by assumption)(h3:W.cell? ⟨b,off+3,none⟩=some y:=by assumption):obl P (fun m=>Ext W m) ops hs a0 i o (he (.agg #[u,v,x,y])) :=
 A8 k fun d w hp c h=>by
  rw[e]at h
  have g:(Instr.loadAt T (.pointer (some ⟨b,off,none⟩))).run P w = .ok (.agg [u,v,x,y].toArray) w:=ON (cs:=[u,v,x,y]) f (fun j z a=>by
   match j,a with
   | 0,a=>cases a;exact c.cell h0
   | 1,a=>cases a;exact c.cell h1
   | 2,a=>cases a;exact c.cell h2
   | 3,a=>cases a;exact c.cell h3
   | j+4,a=>simp at a)
  simp only[execOp,e,l d w h.1,fq,g,eX,fO]
theorem ofa{t:Tmp}{b:Nat}(g:Bg hs o=some true:=by rfl)(c:o.op = .fieldAddr T (.tmp t) k:=by rfl)(j:∀ a w,Ey ops hs a0 o a w (.tmp t)->a (.tmp t) = .pointer (some ⟨b,off,none⟩):=by exact fun _ _=>id)(e:Ut P T k=some d:=by kernel_rfl)(f:q=⟨b,off+d,none⟩:=by rfl){C:World->Prop}:obl P C ops hs a0 i o (he (.pointer (some q))) :=
 A8 g fun a w hp l h=>by
  rw[c]at h;simp only[execOp,c,j a w h.1,fq,Uu e,eX,fO,f]
theorem onc{t:Tmp}(c:Bg hs o=some true:=by rfl)(b:o.op = .nilCheck (.tmp t):=by rfl)(d:∀ a w,Ey ops hs a0 o a w (.tmp t)->a (.tmp t) = .pointer (some p):=by exact fun _ _=>id){C:World->Prop}:obl P C ops hs a0 i o (he (.pointer (some p))) :=
 A8 c fun a w hp e h=>by
  rw[b]at h;simp only[execOp,b,d a w h.1,fO]
theorem omv{t:Tmp}{c:Value}(d:Bg hs o=some true:=by rfl)(b:o.op = .move (.tmp t):=by rfl)(e:∀ a w,Ey ops hs a0 o a w (.tmp t)->a (.tmp t)=c:=by exact fun _ _=>id){C:World->Prop}:obl P C ops hs a0 i o (he c) :=
 Kv d (.inl b) fun a w _ h=>e a w h.1
end
def P2(b:Nat):Nat:=2^b
theorem RM(b:Nat):0<P2 b:=fy b
theorem DX(a b:Nat):P2 (a+b)=P2 a*P2 b:=ig 2 a b
theorem OO{a b:Nat}(h:a<=b):P2 a<=P2 b:=fd (by omega) h
theorem RN(k:Nat):P2 (64*k)=18446744073709551616^k:=by unfold P2;rw[j9]
theorem DY{a b:Nat}(c:x<P2 a)(d:y<P2 b):x*y<P2 (a+b):=by
 rw[DX];exact Nat.mul_lt_mul'' c d
theorem RO{a:Nat}(b:x<P2 a)(c:y<P2 a):x+y<P2 (a+1):=by
 rw[DX];show x+y<P2 a*2;omega
theorem AO{a b:Nat}(c:x<P2 a)(h:a<=b):x<P2 b:=fG c (OO h)
theorem Cz:Agg prog 123 2:=⟨by kernel_rfl,by kernel_rfl⟩
theorem qh{p:Prop}(h:p):Hid p:=eP h
def Aj(neg:Bool)(a:Option Addr)(n c:Nat):List Value:=[.bool neg,.slice a n c]
theorem Ai(neg:Bool)(a:Option Addr)(n c:Nat):∀ v∈Aj neg a n c,v.oneCell'=true:=by
 intro v b;simp only[Aj,fS,ia,jL]at b;rcases b with rfl|rfl <;> rfl
def Wd(w:World)(a:Option Addr)(n c:Nat)(x:Nat):Prop:=∃ xs,SlN .u64 w a n c xs/\Num 18446744073709551616 xs x
theorem Wd.ext{w b:World}{a:Option Addr}{n c x:Nat}(h:Wd w a n c x)(e:Ext w b):Wd b a n c x:=by
 obtain⟨d,h1,h2⟩:=h;exact⟨d,h1.ext e,h2⟩
theorem Wd.len{w:World}{a:Option Addr}{n c x:Nat}(h:Wd w a n c x){k:Nat}(b:x<P2 (64*k)):n<=k:=by
 obtain⟨d,h1,h2⟩:=h;rw[RN]at b;have:=Gj h2 b;rw[h1.len]at this;exact this
theorem Wd.nil(w:World):Wd w none 0 0 0:=⟨[],SlN.nil _ _,Num.nil _⟩
theorem Wd.zero(h:Wd w a n c x):n=0<->x=0:=by
 obtain⟨b,h1,h2⟩:=h;constructor
 · intro h0;exact I7 h2 (by rw[h1.len];exact h0)
 · intro h0;have h3:=(W.nrm_zero (B:=18446744073709551616) (by omega) h2.nrm).1 (by rw[h2.val,h0]);rw[<-h1.len,h3];rfl
theorem Wd.one(h:Wd w a 1 c x):∃ b o,a=some ⟨b,o,none⟩/\w.cell? ⟨b,o,none⟩=some (.int .u64 (x:Int))/\x<18446744073709551616/\0<x:=by
 obtain⟨i,h1,h2⟩:=h;obtain⟨e,f,g⟩:=OK h2 h1.len;obtain⟨b,o,rfl,d⟩:=h1.at (j:=0) (by omega);have:=d 0 (by omega);rw[e,gd]at this;exact⟨b,o,rfl,this,f,g⟩
def RP(w:World)(x:Nat)(e:Ending)(w':World):Prop:=∃ a n c,e = .returned (.slice a n c)/\Ext w w'/\Wd w' a n c x
theorem PU.wd{e:Ending}(h:PU .u64 18446744073709551616 w x e w'):RP w x e w':=by
 obtain⟨a,n,c,b,h1,h2,h3,h4⟩:=h;exact⟨a,n,c,h1,h2,b,h3,h4⟩
theorem U2(j:BE w)(f:Wd w a n c x)(g:Wd w b m d y)(i:x<P2 9600)(e:y<P2 9600) :
 Calls prog 136 #[.slice a n c,.slice b m d] w (RP w (Nat.gcd x y)):=by
 have h1:=f.len (k:=150) i;have h2:=g.len (k:=150) e;obtain⟨l,h3,h4⟩:=f;obtain⟨o,h5,h6⟩:=g;exact(Lt j h3 h5 h4 h6 h1 h2).mono fun _ _ h=>h.wd
def Gk(w:World)(v:Value)(z:Int):Prop:=∃ s a n c,v = .agg (Aj s a n c).toArray/\Hid (decide (z<0)=s)/\Wd w a n c z.natAbs
theorem Gk.ext{w b:World}{v:Value}{z:Int}(h:Gk w v z)(e:Ext w b):Gk b v z:=by
 obtain⟨s,a,n,c,h1,d,h2⟩:=h;exact⟨s,a,n,c,h1,d,h2.ext e⟩
def NM(w:World)(z:Int)(e:Ending)(w':World):Prop:=∃ s a n c,e = .returned (.agg (Aj s a n c).toArray)/\Ext w w'/\Hid (decide (z<0)=s)/\Wd w' a n c z.natAbs
theorem NM.r{e:Ending}(h:NM w z e w'):∃ v,e = .returned v/\Ext w w'/\Gk w' v z:=by
 obtain⟨s,a,n,c,h1,h2,h3,h4⟩:=h;exact⟨_,h1,h2,s,a,n,c,rfl,h3,h4⟩
theorem Wd.kept{w f:World}{a:Option Addr}{n c x R:Nat}{t:TypeId}{cs:List Value}(h:Wd w a n c x)(e:Arr w R t cs)(d:∀ v∈cs,∀ i,v ≠ .int .u64 i)(k:w.grownBy f (some R)):Wd f a n c x:=by
 obtain⟨l,h1,h2⟩:=h;refine⟨l,?_,h2⟩;rcases fj n with h0|h0
 · subst h0;exact⟨Sl.len h1,Sl.cap h1,Sl.max h1,fun h=>absurd h (l9 _)⟩
 · refine h1.kept k (Or.inr fun he => ?_);obtain⟨b,o,rfl,g⟩:=h1.at (j:=0) h0;simp only[blk,i8,fc]at he;subst he;have h3:=g 0 h0;have h4:w.cell? ⟨b,o+0,none⟩=cs[o+0]?:=by
    unfold Arr at e;simp[World.cell?,e]
   rw[h4]at h3;exact d _ (gT h3) _ rfl
theorem Gl(s:Bool)(a:Option Addr)(n c:Nat):∀ v∈Aj s a n c,∀ i,v ≠ .int .u64 i:=by
 intro v b i;simp only[Aj,fS,ia,jL]at b;rcases b with rfl|rfl <;> simp
def U3(w:World)(a:Option Addr)(n c:Nat)(z:Int)(e:Ending)(w':World):Prop:=∃ s,e = .returned (.agg (Aj s a n c).toArray)/\Ext w w'/\Hid (decide (z<0)=s)/\Wd w' a n c z.natAbs
theorem MD(k:Wd w a n c x){z:Int}(i:z=if neg=true then -(x:Int)else x) :
 Calls prog 131 #[.bool neg,.slice a n c] w (U3 w a n c z):=by
 have g:=k.zero;have m:Hid (z.natAbs=x):=by show _=_;rw[i];split <;> omega
 cases neg with
 | true =>
  have j:Hid (decide (z<0)=decide (0<n)):=by show _=_;rw[i,fE rfl];apply k9.2;omega
  clear g i
  go_enter func131,ntmps131
  go_upto_region 1 with(fail)
  refine AK ?_;intro o b e l
  go_wp2_with(refine Aa (vs:=Aj _ a n c) rfl rfl rfl rfl rfl Cz e rfl (Ai _ _ _ _) ?_;intro p f d)
  refine eZ (v := .agg (Aj (decide (0<n)) a n c).toArray) (Aq rfl Cz rfl f) rfl ⟨_,rfl,b.grownR d (lrf _),j,by rw[m.out];exact k.ext (b.grownR d (lrf _))⟩
 | false =>
  have j:Hid (decide (z<0)=false):=by show _=_;rw[i,fl (by simp)];simp
  clear g i
  go_enter func131,ntmps131
  go_upto_region 1 with(fail)
  refine AK ?_;intro o b e l
  go_wp2_with(refine Aa (vs:=Aj _ a n c) rfl rfl rfl rfl rfl Cz e rfl (Ai _ _ _ _) ?_;intro p f d)
  refine eZ (v := .agg (Aj false a n c).toArray) (Aq rfl Cz rfl f) rfl ⟨_,rfl,b.grownR d (lrf _),j,by rw[m.out];exact k.ext (b.grownR d (lrf _))⟩
theorem NN(b:Wd w a n c x){z:Int}(d:z=if neg=true then -(x:Int)else x) :
 Calls prog 131 #[.bool neg,.slice a n c] w (NM w z) :=
 (MD b d).mono fun _ _ ⟨s,h1,h2,h3,h4⟩=>⟨s,a,n,c,h1,h2,h3,h4⟩
theorem Lu{t:TypeId}(f:Ext w w1)(g:Arr w1 R t cs)(b:∀ v∈cs,∀ i,v ≠ .int .u64 i)(d:w1.grownBy w9 (some R))(j:w.heap.size<=R)(e:Hid (decide (z<0)=s))(k:Wd w1 a n c z.natAbs):NM w z (.returned (.agg (Aj s a n c).toArray)) w9 :=
 ⟨s,a,n,c,rfl,f.grownR d j,e,k.kept g b d⟩
theorem Td(h:Gk w v z):Calls prog 106 #[v] w (NM w (-z)):=by
 obtain⟨s,a,n,c,rfl,q,y⟩:=h
 go_enter func106,ntmps106
 go_upto_region 1 with(fail)
 refine I6 ?_;intro D d b j p;have B:=b.c 0 rfl;have C:=b.c 1 rfl;have m:=qh (NN (neg := !s) (y.ext d) (z := -z) (by rw[<-q.out];by_cases h:z<0 <;> simp[h] <;> omega));have x:Arr D (w.heap.size+1) 123 (Aj false none 0 0):=j;clear p
 go_wp2_with fail
 refine m.out.mono ?_;rintro e E ⟨s1,r,A,t,rfl,f,i,o⟩;have g:=x.ext f
 go_wp2_with(refine Aa (vs:=Aj s1 r A t) rfl rfl rfl rfl rfl Cz g rfl (Ai _ _ _ _) ?_;intro F k l)
 exact eZ (Aq rfl Cz rfl k) rfl (Lu (d.trans f) g (Gl _ _ _ _) l (by omega) i o)
theorem I8(h:Gk w v z){r:Bool}(f:decide (z=0)=r):Calls prog 91 #[v] w fun e m=>e = .returned (.bool r)/\Ext w m:=by
 obtain⟨s,a,n,c,rfl,o,i⟩:=h;have g:((n:Int) == 0)=r:=by
  have:=i.zero;rw[<-f,lM];simp;omega
 clear f
 go_enter func91,ntmps91
 go_upto_region 1 with(fail)
 refine AK ?_;intro p d b j;have k:=b.c 0 rfl;have l:=b.c 1 rfl;go_wp2;go_ret;exact⟨rfl,d⟩
theorem Kw(h:Gk w v z){r:Bool}(i:decide (z=1)=r):Calls prog 96 #[v] w fun e F=>e = .returned (.bool r)/\Ext w F:=by
 obtain⟨s,a,n,c,rfl,t,q⟩:=h;cases s with
 | true =>
  have m:z<0:=by simpa using t.out
  have p:Hid (r=false):=by show _=_;rw[<-i];simp;omega
  clear i m
  go_enter func96,ntmps96
  go_upto_region 1 with(fail)
  refine AK ?_;intro B f d g;have j:=d.c 0 rfl;have l:=d.c 1 rfl;go_wp2;go_ret;exact⟨by rw[p.out];rfl,f⟩
 | false =>
  have m:¬ z<0:=by simpa using t.out
  by_cases A:n=1
  · subst A;obtain⟨b,o,rfl,y,G,H⟩:=q.one;have E:((z.natAbs:Int) == 1)=r:=by
     rw[<-i,lM];simp;omega
    clear i m;generalize z.natAbs=x at *
    go_enter func96,ntmps96
    go_upto_region 1 with(fail)
    refine AK ?_;intro B f d g;have j:=d.c 0 rfl;have l:=d.c 1 rfl;have C:=f.cell y;clear g y;go_wp2;go_ret;exact⟨rfl,f⟩
  · have D:((n:Int) == 1)=false:=by simp;omega
    have p:Hid (r=false):=by
     show _=_;rw[<-i];have h1:z≠1:=by
      intro h1;have h2:=q.len (k:=1) (by rw[h1,RN];decide);have h3:=q.zero;omega
     simp[h1]
    clear i m A
    go_enter func96,ntmps96
    go_upto_region 1 with(fail)
    refine AK ?_;intro B f d g;have j:=d.c 0 rfl;have l:=d.c 1 rfl;go_wp2;go_ret;exact⟨by rw[p.out];rfl,f⟩
theorem OP{y:Int}(G:BE w)(h:Gk w v z)(E:Gk w v' y)(C:z.natAbs<P2 9600)(o:y.natAbs<P2 9600):Calls prog 94 #[v,v'] w (NM w ((Nat.gcd z.natAbs y.natAbs:Nat):Int)):=by
 obtain⟨s,a,n,c,rfl,Q,I⟩:=h;obtain⟨t,b,m,d,rfl,R,J⟩:=E
 go_enter func94,ntmps94
 go_upto_region 1 with(fail)
 refine Ln ?_;intro P f g i p A;have L:=g.c 0 rfl;have M:=g.c 1 rfl;have N:=i.c 0 rfl;have O:=i.c 1 rfl;have F:Arr P (w.heap.size+2) 123 (Aj false none 0 0):=p;have H:=qh (U2 (G.ext f) (I.ext f) (J.ext f) C o);have l:Hid (decide (((Nat.gcd z.natAbs y.natAbs:Nat):Int)<0)=false):=qh (by simp);clear A
 go_wp2_with fail
 refine H.out.mono ?_;rintro e S ⟨B,K,D,rfl,j,x⟩;have k:=F.ext j
 go_wp2_with(refine Aa (vs:=Aj false B K D) rfl rfl rfl rfl rfl Cz k rfl (Ai _ _ _ _) ?_;intro T q r)
 exact eZ (Aq rfl Cz rfl q) rfl (Lu (f.trans j) k (Gl _ _ _ _) r (by omega) l x)
theorem Uv{y:Int}(a:decide (z<0)=s)(b:decide (y<0)=t):z*y=if(s != t)=true then -((z.natAbs*y.natAbs:Nat):Int)else((z.natAbs*y.natAbs:Nat):Int):=by
 rw[<-iD];subst a;subst b;by_cases h1:z<0 <;> by_cases h2:y<0 <;> simp[h1,h2]
 · have:=Int.mul_nonneg_of_nonpos_of_nonpos (jf h1) (jf h2);omega
 · have:=Int.mul_nonpos_of_nonpos_of_nonneg (jf h1) (show 0<=y by omega);omega
 · have:=Int.mul_nonpos_of_nonneg_of_nonpos (show 0<=z by omega) (jf h2);omega
 · have:=jk (show 0<=z by omega) (show 0<=y by omega);omega
theorem Uw{y:Int}(a:decide (z<0)=s)(b:decide (y<0)=s):z+y=if s=true then -((z.natAbs+y.natAbs:Nat):Int)else((z.natAbs+y.natAbs:Nat):Int):=by
 subst a;by_cases h1:z<0 <;> by_cases h2:y<0 <;> simp[h1,h2]at b |- <;> omega
theorem Te{y:Int}(c:decide (z<0)=s)(d:decide (y<0)=t)(a:s≠t)(b:y.natAbs<=z.natAbs):z+y=if s=true then -((z.natAbs-y.natAbs:Nat):Int)else((z.natAbs-y.natAbs:Nat):Int):=by
 subst c;subst d;by_cases h1:z<0 <;> by_cases h2:y<0 <;> simp[h1,h2]at a |- <;> omega
theorem Tf{y:Int}(c:decide (z<0)=s)(d:decide (y<0)=t)(a:s≠t)(b:z.natAbs<y.natAbs):z+y=if t=true then -((y.natAbs-z.natAbs:Nat):Int)else((y.natAbs-z.natAbs:Nat):Int):=by
 subst c;subst d;by_cases h1:z<0 <;> by_cases h2:y<0 <;> simp[h1,h2]at a |- <;> omega
theorem Hc:0<=AQ (x:Int) (y:Int)<->y<=x:=by
 unfold AQ;split
 · omega
 · split <;> omega
theorem Ux{y:Int}(c:decide (z<0)=s)(d:decide (y<0)=t):z.tdiv y=if(s != t)=true then -((z.natAbs/y.natAbs:Nat):Int)else((z.natAbs/y.natAbs:Nat):Int):=by
 subst c;subst d;have h0:∀ x:Int,x<0->x = -(x.natAbs:Int):=fun x h=>by omega
 have h1:∀ x:Int,¬ x<0->x=(x.natAbs:Int):=fun x h=>by omega
 by_cases b:z<0 <;> by_cases a:y<0 <;> simp only[b,a,jU,kD]
 · rw[h0 z b,h0 y a,Int.neg_tdiv_neg,jj,jj,fJ,fJ];simp
 · rw[h0 z b,h1 y a,Int.neg_tdiv,jj,fJ,fJ];simp
 · rw[h1 z b,h0 y a,Int.tdiv_neg,jj,fJ,fJ];simp
 · rw[h1 z b,h1 y a,fJ,fJ];simp
theorem Uy{y:Int}(b:decide (z<0)=s):z.tmod y=if s=true then -((z.natAbs%y.natAbs:Nat):Int)else((z.natAbs%y.natAbs:Nat):Int):=by
 subst b;have c:z.tmod y=z.tmod (y.natAbs:Int):=by
  rcases Int.natAbs_eq y with h|h
  · rw[<-h]
  · rw[h,Int.tmod_neg,jj,fJ]
 rw[c];by_cases a:z<0
 · have h0:z = -(z.natAbs:Int):=by omega
   rw[h0,Int.neg_tmod];simp only[jj,fJ];rw[<-h0,gP (by omega)];simp[a]
 · have h0:z=(z.natAbs:Int):=by omega
   rw[h0];simp only[fJ];rw[gP (by omega),<-h0];simp[a];rw[<-h0]
end Go.Proofs.YthdbingomfdeoaaGreatDoor
