/- Part Pa2. -/
import Derived.Test.YthdbingomfdeoaaGreatDoorPa1
import Derived.Deep.QuietTactic
import Derived.BigQuiet
import Derived.WalkSpells
import Derived.Deep.CutBlock
import Derived.Deep.DeepCutAuto
import Derived.Laws.BitsAllLaws
import Derived.Lib.ItoaNum
set_option linter.all false
set_option maxRecDepth 100000
set_option maxHeartbeats 100000000
namespace Go.Proofs.YthdbingomfdeoaaGreatDoor
open Tryz Go Go.RowKit
def fH:=@Int.natCast_mul
def fI:=@Int.natCast_add
def fM:=@List.map_append
def fY:=@Nat.div_add_mod
def fh:=@List.mem_map
def fy:=@Nat.two_pow_pos
def gE:=@Int.tdiv_eq_ediv_of_nonneg
def gG:=@Nat.div_lt_iff_lt_mul
def gK:=@Nat.mul_lt_mul_of_pos_right
def gL:=@List.length_set
def gP:=@Int.tmod_eq_emod_of_nonneg
def gW:=@Nat.mod_eq_of_lt
def gX:=@Nat.div_eq_of_lt
def gY:=@IntKind.wrap_u64
def gh:=@Nat.div_le_self
def i6:=@Nat.lt_of_mul_lt_mul_right
def iQ:=@Nat.mod_add_div
def j3:=@Nat.mul_add_div
def j5:=@Nat.dvd_mul_left
def jA:=@Int.toNat_natCast
def jB:=@Nat.eq_of_mul_eq_mul_right
def jM:=@Nat.mul_div_cancel_left
def jW:=@Nat.and_two_pow_sub_one_eq_mod
def jb:=@Nat.mul_add_mod
def jp:=@Obj.cells.injEq
def jq:=@Nat.mul_zero
def kN:=@u64_or_nat
def kP:=@Nat.mul_mod_left
def kY:=@Nat.div_lt_of_lt_mul
def lC:=@Int.natCast_ediv
def lD:=@nat_join
def lJ:=@Nat.or_comm
def lS:=@List.getElem?_set_self
def lT:=@List.set_set
def ll:=@Nat.dvd_add_right
variable {l xs zs:List Nat} {cs:List Value} {B L M N U V Y base bytes c c' cy d dd g hi k lo m n o r s u v wd x y z:Nat} {a b:Option Addr} {row:Option Nat} {P:Program} {e t t':TypeId} {w w':World}
theorem Br:AR prog 187 (.int .u32 0) 4:=by unfold AR;kernel_rfl
def TyS(w:World)(a:Option Addr)(t:TypeId):Prop:=∀ g,blk a=some g->∃ cs fr,w.heap[g]?=some (.cells cs t fr)
theorem TyS.ext(h:TyS w a t)(e:Ext w w'):TyS w' a t:=fun g d=>by
 obtain⟨b,c,h1⟩:=h g d;exact⟨b,c,by rw[e.block (gr.1 h1).1];exact h1⟩
theorem TyS.kept(h:TyS w a t)(f:w.grownBy w' row)(c:blk a=none\/blk a≠row):TyS w' a t:=fun g b=>by
 obtain⟨d,e,h1⟩:=h g b;have i:some g≠row:=by
  rcases c with h2|h2
  · rw[h2]at b;cases b
  · rw[b]at h2;exact h2
 exact⟨d,e,by rw[f.block g (gr.1 h1).1 i];exact h1⟩
theorem TyS.none(w:World)(t:TypeId):TyS w none t:=fun g h=>by cases h
theorem Own.ty(h:Own w base e a n c cs):TyS w a e:=fun k d=>by
 rcases h.2 with⟨b,_⟩|⟨g,f,i,b,l,j,_⟩
 · simp only[eY]at b;rw[b.1]at d;cases d
 · simp only[eY]at b;rw[b.1]at d;have:g=k:=by simpa[blk]using d
   subst this;exact⟨_,_,j⟩
theorem Am.ty{k:IntKind}{w:World}{base:Nat}{e:TypeId}{g n c:Nat}{xs:List Nat}(h:Am k w base e g n c xs):TyS w (some ⟨g,0,Option.none⟩) e:=Own.ty h
theorem TyS.ne{cs:Array Value}{c:Nat×Nat}(h:TyS w a t)(e:w.heap[g]?=some (.cells cs t' c))(i:t≠t'):blk a≠some g:=fun f=>by
 obtain⟨b,d,h1⟩:=h g f;rw[e]at h1;simp only[fc,jp]at h1;exact i h1.2.1.symm
def Mg(w:World)(a:Option Addr)(n c:Nat)(x:Nat):Prop:=∃ xs,SlN .u32 w a n c xs/\Num 4294967296 xs x/\TyS w a 187
theorem Mg.ext{w b:World}{a:Option Addr}{n c x:Nat}(h:Mg w a n c x)(e:Ext w b):Mg b a n c x:=by
 obtain⟨d,h1,h2,h3⟩:=h;exact⟨d,h1.ext e,h2,h3.ext e⟩
theorem Mg.kept{w i:World}{a:Option Addr}{n c x:Nat}{row:Option Nat}(h:Mg w a n c x)(f:w.grownBy i row)(j:∀ g,row=some g->∃ d t e,w.heap[g]?=some (.cells d t e)/\187≠t):Mg i a n c x:=by
 obtain⟨k,h1,h2,h3⟩:=h;have b:blk a=none\/blk a≠row:=by
  cases row with
  | none=>cases h:blk a <;> simp
  | some g =>
   obtain⟨d,t,e,h4,h5⟩:=j g rfl;exact Or.inr (h3.ne h4 h5)
 exact⟨k,h1.kept f b,h2,h3.kept f b⟩
theorem Mg.keptA(h:Mg w a n c x)(d:Arr w g t cs)(f:187≠t)(e:w.grownBy w' (some g)):Mg w' a n c x :=
 h.kept e fun k b=>by
  injection b with b;subst b;exact⟨_,_,_,d,f⟩
theorem Mg.nil(w:World):Mg w none 0 0 0:=⟨[],SlN.nil _ _,Num.nil _,TyS.none _ _⟩
theorem Mg.zero(h:Mg w a n c x):n=0<->x=0:=by
 obtain⟨b,h1,h2,-⟩:=h;have h3:=W.nrm_zero (B:=4294967296) (by omega) h2.nrm;rw[h2.val]at h3;have h4:=h1.len;constructor
 · intro h0;exact h3.2 (fa (by omega))
 · intro h0;rw[h3.1 h0]at h4;exact h4.symm
def RD(w:World)(x:Nat)(e:Ending)(w':World):Prop:=∃ a n c,e = .returned (.slice a n c)/\Ext w w'/\Mg w' a n c x
theorem Cw(i:SlN .u32 w a n c xs)(b:TyS w a 187)(e:m<=n)(f:W.trim xs=xs.take m)(d:W.bnd 4294967296 xs)(g:W.val 4294967296 xs=v):Mg w a m c v :=
 ⟨W.trim xs,by rw[f];exact i.upto e,Num.trim d g,b⟩
theorem Bl(g:SlN .u32 w a n c xs) :
 Calls prog 157 #[.slice a n c] w fun e B=>∃ m,e = .returned (.slice a m c)/\w=B/\m<=n/\W.trim xs=xs.take m:=by
 have q:=eP g.len;have x:=g.le;have p:=g.cap
 go_enter func157,ntmps157
 go_wp2
 go_loop[0] (fun v=>∃ k:Nat,k<=n/\v = .slice a k c/\Hid (W.trim xs=W.trimTo xs k)) (fun v=>match v with | .slice _ k _=>k | _=>0)
 case atStart=>exact⟨n,lrf _,rfl,eP (by unfold W.trim;rw[q.out])⟩
 case round =>
  obtain⟨k,D,rfl,i⟩:=hrel;cases k with
  | zero =>
   go_wp2;go_ret;exact⟨0,rfl,rfl,by omega,by rw[i.out];rfl⟩
  | succ k =>
   have z:=fun C:World=>DN (P:=prog) (w:=C) (a:=a) (n:=k+1) underlying105 Br (k:=k) (c:=c) (by omega);obtain⟨b,o,rfl,l⟩:=g.at (j:=k) (by omega);have r:=l k (by omega);have E:IntKind.i64.wrap (((k+1:Nat):Int)-1)=k:=by rw[fI,Int.natCast_one,lg];exact eT _ (by omega)
   have A:IntKind.i64.wrap ((k:Int)+1-1)=k:=by rw[lg];exact eT _ (by omega)
   have s:(k:Int)<(k:Int)+1:=by omega
   by_cases f:xs.getD k 0=0
   · have d:Hid (W.trim xs=W.trimTo xs k):=by
      show _=_;rw[i.out];exact fE f
     rw[f]at r;clear f l;go_wp2;go_round
     case rel=>exact⟨k,by omega,rfl,d⟩
     case measure=>simp
   · have d:Hid (W.trim xs=xs.take (k+1)):=by
      show _=_;rw[i.out];exact fl f
     have t:(((xs.getD k 0:Nat):Int) == 0)=false:=by simpa using f
     generalize xs.getD k 0=y at *
     clear f l;go_wp2;go_ret;exact⟨k+1,rfl,rfl,by omega,d.out⟩
theorem DO(E:Mg w a n c x)(F:Mg w b m d y) :
 Calls prog 200 #[.slice a n c,.slice b m d] w fun e Y=>e = .returned (.int .i64 (AQ x y))/\Qt w Y:=by
 obtain⟨xs,E,N,-⟩:=E;obtain⟨ys,F,O,-⟩:=F;have p:=eP E.len;have q:=eP F.len;have X:=E.le;have V:=F.le;have r:=eP N;have s:=eP O;clear N O;by_cases D:n=m
 · have J:((n:Int) != (m:Int))=false:=by simp[D]
   have H:=eP D;clear D
   go_enter func200,ntmps200
   go_wp2
   go_loopw[5] (fun v wr=>∃ k:Nat,k<=n/\v = .int .i64 ((k:Int)-1)/\Qt w wr/\Hid (xs.drop k=ys.drop k)) (fun v _=>(intOf v+1).toNat)
   case atStart=>exact⟨n,lrf _,by go_num,Qt.refl _,eP (by rw[fK (by rw[p.out];exact lrf _),fK (by rw[q.out,H.out];exact lrf _)])⟩
   case round =>
    obtain⟨k,hk,rfl,A,G⟩:=hrel;cases k with
    | zero =>
     have P:Hid (x=y):=by
      have:=G.out;rw[gm,gm]at this;show x=y;rw[<-r.out.val,<-s.out.val,this]
     go_wp2;go_ret;exact⟨Cd (by rw[P.out,Oy]),A⟩
    | succ k =>
     have g:k<m:=by have:=H.out;omega
     obtain⟨Z,o1,rfl,t⟩:=(E.ext A.ext).at (j:=k) (by omega);obtain⟨b2,o2,rfl,z⟩:=(F.ext A.ext).at (j:=k) g;have L:=t k (by omega);have M:=z k g;have K:((k+1:Nat):Int)-1=k:=by omega
     rw[K];by_cases he:xs.getD k 0=ys.getD k 0
     · have S:(((xs.getD k 0:Nat):Int) != ((ys.getD k 0:Nat):Int))=false:=Mq he;have I:Hid (xs.drop k=ys.drop k):=by
        show _=_;rw[fD (l:=xs) (by rw[p.out];omega),fD (l:=ys) (by rw[q.out];exact g),G.out];simp only[gqq,eQ (show k<xs.length by rw[p.out];omega),eQ (show k<ys.length by rw[q.out];exact g),fC]at he;rw[he]
       generalize xs.getD k 0=u at *
       generalize ys.getD k 0=v at *
       clear he t z;go_wp2
       go_quiet (fail)
       go_wp2;go_roundw
       case rel=>exact⟨k,by omega,by go_num,A.drewN _,I⟩
       case measure=>simp[intOf]
     · have S:(((xs.getD k 0:Nat):Int) != ((ys.getD k 0:Nat):Int))=true:=Mp he;have f:Hid (AQ x y=if xs.getD k 0<ys.getD k 0 then -1 else 1):=by
        show _=_;rcases H6 he with⟨h1,h2⟩|⟨h1,h2⟩
        · have:=Lh (B:=4294967296) (by rw[p.out,q.out,H.out]) (by rw[p.out];omega) G.out r.out.bnd h1;rw[r.out.val,s.out.val]at this;rw[F9 (by omega),fE h1]
        · have:=Lh (B:=4294967296) (xs:=ys) (ys:=xs) (by rw[p.out,q.out,H.out]) (by rw[q.out];omega) G.out.symm s.out.bnd h1;rw[r.out.val,s.out.val]at this;rw[Ga (by omega),fl (by omega)]
       generalize xs.getD k 0=u at *
       generalize ys.getD k 0=v at *
       clear he t z;have U:(k:Int)<n:=by omega
       have T:(k:Int)<m:=by omega
       go_wp2
       go_quiet (fail)
       go_wp2;have Q:(wr.drewN nq).cell? _=_:=L;have R:(wr.drewN nq).cell? _=_:=M;have C:=A.drewN nq;generalize wr.drewN nq=wq at *
       clear L M;by_cases o:u<v
       · have i:(u:Int)<(v:Int):=by omega
         rw[fE o]at f;clear o
         go_quiet (fail)
         go_wp2;go_ret;exact⟨Cd f.out,C.drewN _⟩
       · have i:¬ (u:Int)<(v:Int):=by omega
         rw[fl o]at f;clear o
         go_quiet (fail)
         go_wp2;go_ret;exact⟨Cd f.out,C.drewN _⟩
 · have J:((n:Int) != (m:Int))=true:=by simp;omega
   have f:Hid (AQ x y=if n<m then -1 else 1):=by
    show _=_;rcases H6 D with⟨h1,h2⟩|⟨h1,h2⟩
    · have:=W.len_lt (B:=4294967296) (by omega) r.out.bnd s.out.nrm (by rw[p.out,q.out];exact h1);rw[r.out.val,s.out.val]at this;rw[F9 (by omega),fE h1]
    · have:=W.len_lt (B:=4294967296) (by omega) s.out.bnd r.out.nrm (by rw[p.out,q.out];exact h1);rw[r.out.val,s.out.val]at this;rw[Ga (by omega),fl (by omega)]
   clear D;by_cases i:n<m
   · rw[fE i]at f
     go_enter func200,ntmps200
     go_wp2;go_ret;exact⟨Cd f.out,Qt.refl _⟩
   · rw[fl i]at f
     go_enter func200,ntmps200
     go_wp2;go_ret;exact⟨Cd f.out,Qt.refl _⟩
theorem Cx{z:Value}(k:P.underlying t=some (.slice e))(a:AR P e z bytes)(h1:lo<=hi)(h2:hi<=c)(h3:lo<c) :
 (Instr.sliceAt t (.slice (some ⟨g,0,none⟩) n c) (some (.int .i64 lo)) (some (.int .i64 hi)) none).run P w = .ok (.slice (some ⟨g,lo,none⟩) (hi-lo) (c-lo)) w:=by
 obtain⟨i,d,l,b,j⟩:=jJ a;have e0:¬ c=lo:=by omega
 have f:Addr.add ⟨g,0,none⟩ lo=⟨g,lo,none⟩:=by
  unfold Addr.add;by_cases h0:lo=0 <;> simp[h0]
 have m:(lo:Int)<=hi:=by omega
 have o:(hi:Int)<=c:=by omega
 simp[Instr.sliceAt,Instr.slice,Instr.sliceBounds,Instr.sliceBound,fQ k,asIntOf,sizeOf,typeInfo,d,b,h1,h2,e0,f]
theorem Un(s:SlN .u64 w a n c xs)(B:n<=1000000)(h0:0<n) :
 Calls prog 170 #[.slice a n c] w (fun e f=>∃ g m,e = .returned (.slice (some ⟨g,0,none⟩) n m)/\Ext w f/\Am .u64 f w.heap.size 101 g n m xs):=by
 obtain⟨b,o,rfl,_⟩:=s.at h0;have y:=fun f:World=>Lib.run_eql_slice_nil (P:=prog) f 98 101 (some ⟨b,o,none⟩) n c 0 0 underlying98
 go_enter func170,ntmps170
 go_upto_region 3 with(fail)
 have q:Ext w (w.alloc (.cells #[] 101)):=(Ext.refl w).alloc _;have r:=Ag w w.heap.size 101 #[] 0 rfl (lrf _) (by omega);have i:∀ u∈xs.map (Bk .u64),u.oneCell'=true:=by
  intro u hu;obtain⟨x,_,rfl⟩:=fh.1 hu;rfl
 go_wp2_with(refine AU rfl rfl underlying98 AG rfl rfl r rfl (s.ext q) i (by unfold maxLen;omega) (by omega) (by simp) ?_;intro t p A j l v)
 go_ret;have d:Own A w.heap.size 101 t n p (xs.map (Bk .u64)):=by simpa using j
 obtain⟨g,rfl,_,_⟩:=d.place h0;exact⟨g,p,rfl,q.grown l (fun k z=>(r.lt z).1),d⟩
theorem wrap_u64{x:Int}(h0:0<=x)(h1:x<18446744073709551616):IntKind.u64.wrap x=x:=by
 rw[gY];exact Int.emod_eq_of_lt h0 h1
theorem H7(a:x<18446744073709551616)(b:y<18446744073709551616)(w:World):Calls prog 205 #[.int .u64 x,.int .u64 y] w fun e c=>e = .returned (.tuple #[.int .u64 ((x*y/18446744073709551616:Nat):Int),.int .u64 ((x*y%18446744073709551616:Nat):Int)])/\c=w:=Any.bits_Mul64 Ul x y a b w
theorem Kk{w:Nat}(f:o+k<l.length)(g:k<xs.length)(h:W.val B l+c*B^(o+k)=V+w*W.val B (xs.take k)*B^o)(e:s+B*c'=l.getD (o+k) 0+xs.getD k 0*w+c) :
 W.val B (l.set (o+k) s)+c'*B^(o+(k+1))=V+w*W.val B (xs.take (k+1))*B^o:=by
 have h1:=W.val_set (B:=B) (xs:=l) (i:=o+k) (v:=s) f;have h2:=W.val_take_succ (B:=B) g;rw[h2,<-i7,fT];have h3:B^(o+k)=B^o*B^k:=ig _ _ _;rw[h3]at h h1 |-;generalize l.getD (o+k) 0=x at *
 generalize xs.getD k 0=y at *
 generalize W.val B (l.set (o+k) s)=a at *
 generalize W.val B l=b at *
 generalize W.val B (xs.take k)=d at *
 generalize B^k=p at *
 generalize B^o=q at *
 grind
theorem S5(xs:List Nat):∀ v∈xs.map (Bk .u64),v.oneCell'=true:=by
 intro u hu;obtain⟨x,_,rfl⟩:=fh.1 hu;rfl
theorem Oz(B:Nat)(xs:List Nat)(n:Nat):W.val B (xs ++ List.replicate n 0)=W.val B xs:=by
 rw[W.val_app,W.val_zeros];simp
theorem OA(a:0<B){xs:List Nat}(h:W.bnd B xs)(n:Nat):W.bnd B (xs ++ List.replicate n 0):=by
 refine W.bnd_app h ?_;intro x b;rw[(gQ.1 b).2];exact a
theorem Uo(h:Arr w g t ((List.map (Bk .u64) (List.replicate N 0)).take 0 ++ xs.map (Bk .u64) ++ (List.map (Bk .u64) (List.replicate N 0)).drop (0+xs.length))):BC .u64 w g t (xs ++ List.replicate (N-xs.length) 0):=by
 unfold BC;rw[fM];simpa using h
theorem EB(n j:Nat):(List.replicate n 0).getD j 0=0:=by
 rw[gqq,List.getElem?_replicate];split <;> rfl
theorem NH(b:x<18446744073709551616)(w:World):Calls prog 206 #[.int .u64 x] w fun e a=>e = .returned (.int .i64 (64-Lib.bitLen x))/\a=w:=by
 have:=Any.bits_LeadingZeros64 UX (x:Int) w (by omega) (by omega);rw[jA]at this;exact this
theorem Li(h0:0<y)(a:y<18446744073709551616):∃ s:Nat,s<=63/\(64-(Lib.bitLen y:Int))=s/\9223372036854775808<=y*2^s/\y*2^s<18446744073709551616:=by
 obtain⟨h1,h2,h3⟩:=Lib.bitLenAux_bounds 64 y (by omega) (by omega);have h4:Lib.bitLenAux 64 y<=64:=Lib.bitLen_le y 64 (by omega) (by omega);refine⟨64-Lib.bitLen y,?_,?_,?_,?_⟩
 · unfold Lib.bitLen;omega
 · unfold Lib.bitLen;omega
 · unfold Lib.bitLen;generalize Lib.bitLenAux 64 y=k at *
   have e:2^(k-1)*2^(64-k)=2^63:=by rw[<-ig];congr 1;omega
   have:=eS (2^(64-k)) h2;rw[e]at this;omega
 · unfold Lib.bitLen;generalize Lib.bitLenAux 64 y=k at *
   have e:2^k*2^(64-k)=2^64:=by rw[<-ig];congr 1;omega
   have:=gK h3 (fy (64-k));rw[e]at this;omega
theorem Hn(g:y<18446744073709551616)(a:lo<18446744073709551616)(h0:0<y) :
 Calls prog 211 #[.int .u64 0,.int .u64 lo,.int .u64 y] w fun e d=>e = .returned (.tuple #[.int .u64 ((lo/y:Nat):Int),.int .u64 ((lo%y:Nat):Int)])/\Qt w d:=by
 have f:((y:Int) == 0)=false:=by simp;omega
 have b:IntKind.u64.wrap ((lo:Int)/(y:Int))=((lo/y:Nat):Int):=by
  rw[<-lC];have h1:=gh lo y;generalize lo/y=q at *
  exact wrap_u64 (by omega) (by omega)
 have c:(lo:Int)%(y:Int)=((lo%y:Nat):Int):=(Int.natCast_emod _ _).symm;generalize lo/y=q at *
 generalize lo%y=r at *
 go_enter func211,ntmps211
 go_wp2
 go_quiet (fail)
 go_wp2
 go_ret2
 exact⟨by rw[<-b,<-c];rfl,(Qt.refl w).drewN _⟩
theorem NI{u1 u0 Q1 R1 Q0 R0:Nat}(k:Y=y*2^s)(i:L=u1*4294967296+u0)(j:U*18446744073709551616+L=N*2^s)(f:U*4294967296+u1=Q1*Y+R1)(d:R1*4294967296+u0=Q0*Y+R0)(b:R0<Y) :
 N/y=Q1*4294967296+Q0/\N%y=R0/2^s:=by
 have hp:0<2^s:=fy s;have e:N*2^s=(Q1*4294967296+Q0)*Y+R0:=by
  rw[<-j,i];have h1:U*18446744073709551616+(u1*4294967296+u0)=(U*4294967296+u1)*4294967296+u0:=by grind
  rw[h1,f];have h2:(Q1*Y+R1)*4294967296+u0=Q1*Y*4294967296+(R1*4294967296+u0):=by grind
  rw[h2,d]
  grind
 subst k;have m:0<y:=by
  rcases fj y with h|h
  · rw[h]at b;simp at b
  · exact h
 -- the rest is a multiple of the power
 have l:2^s∣R0:=by
  have h1:2^s∣N*2^s:=j5 _ _;rw[e]at h1;refine(ll ?_).1 h1;exact⟨(Q1*4294967296+Q0)*y,by grind⟩
 obtain⟨r,c⟩:=l;subst c;have g:N=(Q1*4294967296+Q0)*y+r:=by
  apply jB hp;rw[e]
  grind
 have c:r<y:=by
  rw[f9]at b;exact i6 b
 rw[jM _ hp];generalize Q1*4294967296+Q0=q at g |-;subst g;refine⟨?_,?_⟩
 · rw[f9,j3 m,gX c,gd]
 · rw[f9,jb,gW c]
theorem Kl(b:s<=63)(a:lo<18446744073709551616):∃ L V:Nat,lo*2^s=V*18446744073709551616+L/\L<18446744073709551616/\V=lo/2^(64-s)/\V<2^s/\L=lo*2^s%18446744073709551616:=by
 have e:2^(64-s)*2^s=18446744073709551616:=by rw[<-ig,show 64-s+s=64 by omega]
 refine⟨lo*2^s%18446744073709551616,lo/2^(64-s),?_,fN _ (by omega),rfl,?_,rfl⟩
 · have h1:lo*2^s/18446744073709551616=lo/2^(64-s):=by
    rw[<-e,Nat.mul_div_mul_right _ _ (fy s)]
   have h2:=fY (lo*2^s) 18446744073709551616;rw[h1,f9 18446744073709551616]at h2;exact h2.symm
 · rw[gG (fy _),f9,e];exact a
theorem Gb(h:x%18446744073709551616=M):IntKind.u64.wrap (x:Int)=(M:Int):=by
 rw[gY,<-h];omega
theorem Km{Q R:Nat}(h:U*4294967296+u=Q*Y+R)(b:R<18446744073709551616):IntKind.u64.wrap (IntKind.u64.wrap (IntKind.u64.wrap ((U:Int)*4294967296)+u)-IntKind.u64.wrap ((Q:Int)*Y))=(R:Int):=by
 have a:((Q*Y:Nat):Int)=(Q:Int)*Y:=fH Q Y;rw[<-a];generalize Q * Y=z at *
 simp only[gY];omega
theorem Kn(h:U=g*y+r)(b:r<18446744073709551616):IntKind.u64.wrap ((U:Int)-IntKind.u64.wrap ((g:Int)*y))=(r:Int):=by
 have a:((g*y:Nat):Int)=(g:Int)*y:=fH g y;rw[<-a];generalize g * y=z at *
 simp only[gY];omega
theorem Af{x:Int}(h:x=(n:Int))(a:n<18446744073709551616):IntKind.u64.wrap x=(n:Int):=by
 rw[h];exact wrap_u64 (by omega) (by omega)
theorem IZ(hy:y<18446744073709551616)(aJ:lo<18446744073709551616)(hh:hi<y)(h0:0<hi) :
 Calls prog 211 #[.int .u64 hi,.int .u64 lo,.int .u64 y] w fun e w'=>e = .returned (.tuple #[.int .u64 (((hi*18446744073709551616+lo)/y:Nat):Int),.int .u64 (((hi*18446744073709551616+lo)%y:Nat):Int)])/\Qt w w':=by
 have hb:((y:Int) == 0)=false:=by simp;omega
 have aZ:((hi:Int) == 0)=false:=by simp;omega
 obtain⟨s,hs,av,aI,a7⟩:=Li (by omega) hy;obtain⟨Y,hY⟩:∃ Y,y*2^s=Y:=⟨_,rfl⟩;rw[hY]at aI a7;have e1:IntKind.u64.wrap ((y:Int)*2^s)=(Y:Int):=Af (by rw[<-hY];push_cast;rfl) a7;obtain⟨L,V,al,aF,ao,ap,am⟩:=Kl hs aJ;obtain⟨H,hH⟩:∃ H,hi*2^s=H:=⟨_,rfl⟩;have aE:H+2^s<=Y:=by
  rw[<-hH,<-hY];have:=eS (2^s) hh;rw[Nat.succ_mul]at this;exact this
 obtain⟨U,hU⟩:∃ U,H+V=U:=⟨_,rfl⟩;have e4:IntKind.u64.wrap ((hi:Int)*2^s)=(H:Int):=Af (by rw[<-hH];push_cast;rfl) (by omega);have e5:bits BinOp.or IntKind.u64 (H:Int) ((lo:Int)/2^(64-s))=(U:Int):=by
  have:(lo:Int)/2^(64-s)=(V:Int):=by rw[ao];push_cast;rfl
  rw[this,kN H V (by omega) (by omega),lD s H V (by rw[<-hH];exact kP _ _) ap,hU]
 have e6:IntKind.u64.wrap ((lo:Int)*2^s)=(L:Int):=by
  have:=Gb (x:=lo*2^s) (M:=L) am.symm;push_cast at this;exact this
 have hN:U*18446744073709551616+L=(hi*18446744073709551616+lo)*2^s:=by
  rw[<-hU,<-hH];have h1:(hi*18446744073709551616+lo)*2^s=hi*2^s*18446744073709551616+lo*2^s:=by grind
  rw[h1,al]
  grind
 obtain⟨y1,aL⟩:∃ y1,Y/4294967296=y1:=⟨_,rfl⟩;obtain⟨y0,aC⟩:∃ y0,Y%4294967296=y0:=⟨_,rfl⟩;obtain⟨u1,aK⟩:∃ u1,L/4294967296=u1:=⟨_,rfl⟩;obtain⟨u0,ax⟩:∃ u0,L%4294967296=u0:=⟨_,rfl⟩;have e2:(Y:Int)/4294967296=(y1:Int):=by omega
 have e3:bits BinOp.and IntKind.u64 (Y:Int) 4294967295=(y0:Int):=by
  have:=u64_and_nat Y 4294967295 a7 (by omega);rw[jW Y 32]at this;rw[<-aC];exact this
 have e7:(L:Int)/4294967296=(u1:Int):=by omega
 have e8:bits BinOp.and IntKind.u64 (L:Int) 4294967295=(u0:Int):=by
  have:=u64_and_nat L 4294967295 aF (by omega);rw[jW L 32]at this;rw[<-ax];exact this
 have aY:U<Y:=by omega
 have aU:2147483648<=y1/\y1<4294967296:=by omega
 have aT:y0<4294967296:=by omega
 have aS:u1<4294967296:=by omega
 have aR:u0<4294967296:=by omega
 have f:Hid (Y=y1*4294967296+y0):=by show _=_;omega
 obtain⟨Q1,ae⟩:∃ Q1,(U*4294967296+u1)/Y=Q1:=⟨_,rfl⟩;obtain⟨R1,S⟩:∃ R1,(U*4294967296+u1)%Y=R1:=⟨_,rfl⟩;have a6:U*4294967296+u1=Q1*Y+R1:=by
  have:=fY (U*4294967296+u1) Y;rw[ae,S,f9]at this;exact this.symm
 have aX:R1<Y:=by rw[<-S];exact fN _ (by omega)
 obtain⟨Q0,ad⟩:∃ Q0,(R1*4294967296+u0)/Y=Q0:=⟨_,rfl⟩;obtain⟨R0,P⟩:∃ R0,(R1*4294967296+u0)%Y=R0:=⟨_,rfl⟩;have a5:R1*4294967296+u0=Q0*Y+R0:=by
  have:=fY (R1*4294967296+u0) Y;rw[ad,P,f9]at this;exact this.symm
 have aH:R0<Y:=by rw[<-P];exact fN _ (by omega)
 obtain⟨f1,f2⟩:=NI (N:=hi*18446744073709551616+lo) (y:=y) (Y:=Y) (U:=U) (L:=L) (s:=s) (u1:=u1) (u0:=u0) (Q1:=Q1) (R1:=R1) (Q0:=Q0) (R0:=R0) hY.symm (by omega) hN a6 a5 aH;obtain⟨QQ,aG⟩:∃ QQ,Q1*4294967296+Q0=QQ:=⟨_,rfl⟩;obtain⟨RR,an⟩:∃ RR,R0/2^s=RR:=⟨_,rfl⟩;rw[aG]at f1;rw[an]at f2;have F1:=eP f1;have F2:=eP f2;have kr:(R0:Int)/2^s=(RR:Int):=by rw[<-an];push_cast;rfl
 have aW:=eP a6;have aV:=eP a5;have n:Hid (Q1*(y1*4294967296+y0)<=U*4294967296+u1):=by show _<=_;rw[<-f.out];omega
 have F:Hid (U*4294967296+u1<(Q1+1)*(y1*4294967296+y0)):=by show _<_;rw[<-f.out,gA];omega
 have d:Hid (Q0*(y1*4294967296+y0)<=R1*4294967296+u0):=by show _<=_;rw[<-f.out];omega
 have m:Hid (R1*4294967296+u0<(Q0+1)*(y1*4294967296+y0)):=by show _<_;rw[<-f.out,gA];omega
 have ai:Hid (U<y1*4294967296+y0):=by show _<_;rw[<-f.out];omega
 have J:Hid (R1<y1*4294967296+y0):=by show _<_;rw[<-f.out];omega
 have aQ:=W.digit_lt (b:=4294967296) (y:=y1*4294967296+y0) (U:=U) (u:=u1) ai.out (by omega) n.out;have aP:=W.digit_lt (b:=4294967296) (y:=y1*4294967296+y0) (U:=R1) (u:=u0) J.out (by omega) d.out;have aO:IntKind.u64.wrap ((Q1:Int)*4294967296)=(Q1:Int)*4294967296:=wrap_u64 (by omega) (by omega);have kq:IntKind.u64.wrap ((Q1:Int)*4294967296+(Q0:Int))=(QQ:Int):=Af (by omega) (by omega);obtain⟨gU,Z⟩:∃ gU,U/y1=gU:=⟨_,rfl⟩;obtain⟨rU,a9⟩:∃ rU,U%y1=rU:=⟨_,rfl⟩;have aa:gU*y1+rU=U:=by rw[<-Z,<-a9,f9];exact fY _ _
 have b1:rU<y1:=by rw[<-a9];exact fN _ (by omega)
 have aM:gU<=U:=by rw[<-Z];exact gh _ _
 have k1:IntKind.u64.wrap ((U:Int)/(y1:Int))=(gU:Int):=Af (by rw[<-Z];exact(lC _ _).symm) (by omega);have b0:IntKind.u64.wrap ((U:Int).tdiv (y1:Int))=(gU:Int):=by rw[gE (by omega)];exact k1
 have k2:IntKind.u64.wrap ((U:Int)-IntKind.u64.wrap ((gU:Int)*(y1:Int)))=(rU:Int):=Kn aa.symm (by omega);have aj:=eP aa;have aD:Hid (gU<=4294967297):=by have:=W.guess_le (b:=4294967296) (y1:=y1) (y0:=y0) (U:=U) (by omega) (by omega) (by rw[<-f.out];omega);rw[Z]at this;exact this
 clear aa aM Z a9;obtain⟨C,X⟩:∃ C,R1/y1=C:=⟨_,rfl⟩;obtain⟨rR,a8⟩:∃ rR,R1%y1=rR:=⟨_,rfl⟩;have ab:C*y1+rR=R1:=by rw[<-X,<-a8,f9];exact fY _ _
 have b3:rR<y1:=by rw[<-a8];exact fN _ (by omega)
 have aN:C<=R1:=by rw[<-X];exact gh _ _
 have k3:IntKind.u64.wrap ((R1:Int)/(y1:Int))=(C:Int):=Af (by rw[<-X];exact(lC _ _).symm) (by omega);have b2:IntKind.u64.wrap ((R1:Int).tdiv (y1:Int))=(C:Int):=by rw[gE (by omega)];exact k3
 have k4:IntKind.u64.wrap ((R1:Int)-IntKind.u64.wrap ((C:Int)*(y1:Int)))=(rR:Int):=Kn ab.symm (by omega);have a4:=eP ab;have ac:Hid (C<=4294967297):=by have:=W.guess_le (b:=4294967296) (y1:=y1) (y0:=y0) (U:=R1) (by omega) (by omega) (by rw[<-f.out];omega);rw[X]at this;exact this
 clear ab aN X a8;have k5:=Km (U:=U) (u:=u1) (Q:=Q1) (Y:=Y) (R:=R1) a6 (by omega);have k6:=Km (U:=R1) (u:=u0) (Q:=Q0) (Y:=Y) (R:=R0) a5 (by omega);rw[f1,f2];clear al ao ap am hH aE hU hN aL aC aK ax ae S ad P f1 f2 hY
 go_enter func211,ntmps211
 generalize hK:(4294967296:Int)=K at aO kq k5 k6 |-;have o:=eP hK;clear hK
 go_wp2_with fail
 refine(NH hy _).mono ?_;rintro e w1 ⟨rfl,rfl⟩;rw[av];clear av;clear a6 a5;go_wp2
 go_loop[15,16] (fun O rv=>∃ g r:Nat,O = .int .u64 g/\rv = .int .u64 r/\Hid (g*y1+r=U)/\Hid (Q1<=g)/\Hid (g<=4294967297/\r<4294967296)) (fun O _=>(intOf O).toNat)
 case atStart=>exact⟨gU,rU,rfl,rfl,aj,eP (W.guess_hi (b:=4294967296) (y1:=y1) (y0:=y0) (U:=U) (u:=u1) (q:=Q1) (g:=gU) (r:=rU) aj.out n.out (by omega) (by omega)),eP ⟨aD.out,by omega⟩⟩
 case round =>
  obtain⟨g,r,rfl,rfl,E,G,HB⟩:=hrel;obtain⟨ar,aw⟩:=HB.out;obtain⟨p,hp⟩:∃ p,g*y0=p:=⟨_,rfl⟩;obtain⟨l,B⟩:∃ l,4294967296*r+u1=l:=⟨_,rfl⟩;have aB:IntKind.u64.wrap (K*(r:Int))=K*(r:Int):=by rw[<-show(4294967296:Int)=K from o.out];exact wrap_u64 (by omega) (by omega)
  have ag:IntKind.u64.wrap (K*(r:Int)+(u1:Int))=(l:Int):=by rw[<-show(4294967296:Int)=K from o.out];exact Af (by omega) (by omega)
  have k:=eP hp;have v:=eP B;clear hp B;have I:Hid (Q1<4294967296):=W.digit_lt (b:=4294967296) (y:=y1*4294967296+y0) (U:=U) (u:=u1) ai.out (by omega) n.out;by_cases T:4294967296<=g\/(g<4294967296/\l<p)
  · have HD:Hid (Q1<g):=W.guess_down (b:=4294967296) (y1:=y1) (y0:=y0) (U:=U) (u:=u1) E.out n.out I.out (by rw[k.out,v.out];omega);obtain⟨a,rfl⟩:∃ a,g=a+1:=⟨g-1,by have:=HD.out;omega⟩;have ay:IntKind.u64.wrap ((a:Int)+1-1)=a:=Af (by omega) (by omega);have af:IntKind.u64.wrap (a:Int)=a:=Af (by omega) (by omega);obtain⟨i,j⟩:∃ i,r+y1=i:=⟨_,rfl⟩;have az:IntKind.u64.wrap ((r:Int)+(y1:Int))=(i:Int):=Af (by omega) (by omega);have t:Hid (a*y1+i=U):=by
     have h1:=E.out;show _=_;rw[<-j,<-h1]
     grind
    have z:Hid (Q1<=a):=by have:=HD.out;show _<=_;omega
    have ah:=eP j;clear j;have c:K<=(a:Int)+1\/((a:Int)+1<K/\IntKind.u64.wrap (((a:Int)+1)*(y0:Int))=(p:Int)/\(l:Int)<p):=by
     have ak:=o.out;rcases T with h|⟨h1,h2⟩
     · left;omega
     · right;refine⟨by omega,Af (by rw[<-k.out];push_cast;rfl) ?_,by omega⟩;rw[<-k.out];have:(a+1)*y0<=4294967295*4294967295:=gO (by omega) (by omega);omega
    clear T;by_cases a3:4294967296<=i
    · have D:Hid (a=Q1):=by
       show _=_;have h1:=W.guess_done (b:=4294967296) (y1:=y1) (y0:=y0) (U:=U) (u:=u1) (q:=Q1) t.out F.out (W.guess_over a3 (by omega) (by omega));have h2:=z.out;omega
      have hF:=D.out;subst hF;have A:K<=(i:Int):=by have:=o.out;omega
      rcases c with hk|⟨a0,a1,a2⟩
      all_goals
       go_wp2
       go_loop[18,16] (fun O rv=>∃ g r:Nat,O = .int .u64 g/\rv = .int .u64 r/\Hid (g*y1+r=R1)/\Hid (Q0<=g)/\Hid (g<=4294967297/\r<4294967296)) (fun O _=>(intOf O).toNat)
       case atStart=>exact⟨C,rR,rfl,rfl,a4,eP (W.guess_hi (b:=4294967296) (y1:=y1) (y0:=y0) (U:=R1) (u:=u0) (q:=Q0) (g:=C) (r:=rR) a4.out d.out (by omega) (by omega)),eP ⟨ac.out,by omega⟩⟩
       case round =>
        obtain⟨g,r,rfl,rfl,E,G,HB⟩:=hrel;obtain⟨ar,aw⟩:=HB.out;obtain⟨p,hp⟩:∃ p,g*y0=p:=⟨_,rfl⟩;obtain⟨l,B⟩:∃ l,4294967296*r+u0=l:=⟨_,rfl⟩;have aB:IntKind.u64.wrap (K*(r:Int))=K*(r:Int):=by rw[<-show(4294967296:Int)=K from o.out];exact wrap_u64 (by omega) (by omega)
        have ag:IntKind.u64.wrap (K*(r:Int)+(u0:Int))=(l:Int):=by rw[<-show(4294967296:Int)=K from o.out];exact Af (by omega) (by omega)
        have k:=eP hp;have v:=eP B;clear hp B;have I:Hid (Q0<4294967296):=W.digit_lt (b:=4294967296) (y:=y1*4294967296+y0) (U:=R1) (u:=u0) J.out (by omega) d.out;by_cases T:4294967296<=g\/(g<4294967296/\l<p)
        · have HD:Hid (Q0<g):=W.guess_down (b:=4294967296) (y1:=y1) (y0:=y0) (U:=R1) (u:=u0) E.out d.out I.out (by rw[k.out,v.out];omega);obtain⟨a,rfl⟩:∃ a,g=a+1:=⟨g-1,by have:=HD.out;omega⟩;have ay:IntKind.u64.wrap ((a:Int)+1-1)=a:=Af (by omega) (by omega);have af:IntKind.u64.wrap (a:Int)=a:=Af (by omega) (by omega);obtain⟨i,j⟩:∃ i,r+y1=i:=⟨_,rfl⟩;have az:IntKind.u64.wrap ((r:Int)+(y1:Int))=(i:Int):=Af (by omega) (by omega);have t:Hid (a*y1+i=R1):=by
           have h1:=E.out;show _=_;rw[<-j,<-h1]
           grind
          have z:Hid (Q0<=a):=by have:=HD.out;show _<=_;omega
          have ah:=eP j;clear j;have c:K<=(a:Int)+1\/((a:Int)+1<K/\IntKind.u64.wrap (((a:Int)+1)*(y0:Int))=(p:Int)/\(l:Int)<p):=by
           have ak:=o.out;rcases T with h|⟨h1,h2⟩
           · left;omega
           · right;refine⟨by omega,Af (by rw[<-k.out];push_cast;rfl) ?_,by omega⟩;rw[<-k.out];have:(a+1)*y0<=4294967295*4294967295:=gO (by omega) (by omega);omega
          clear T;by_cases a3:4294967296<=i
          · have D:Hid (a=Q0):=by
             show _=_;have h1:=W.guess_done (b:=4294967296) (y1:=y1) (y0:=y0) (U:=R1) (u:=u0) (q:=Q0) t.out m.out (W.guess_over a3 (by omega) (by omega));have h2:=z.out;omega
            have hF:=D.out;subst hF;have A:K<=(i:Int):=by have:=o.out;omega
            rcases c with hk|⟨a0,a1,a2⟩
            all_goals
             go_wp2
             go_ret2
             exact⟨rfl,Qt.refl _⟩
          · have A:(i:Int)<K:=by have:=o.out;omega
            rcases c with hk|⟨a0,a1,a2⟩
            all_goals
             go_wp2;go_round
             case rel=>exact⟨a,i,by go_num,rfl,t,z,eP ⟨by omega,by omega⟩⟩
             case measure=>simp[intOf]
        · have D:Hid (g=Q0):=by
           show _=_;have h1:=W.guess_done (b:=4294967296) (y1:=y1) (y0:=y0) (U:=R1) (u:=u0) (q:=Q0) E.out m.out (by rw[k.out,v.out];omega);have h2:=G.out;omega
          have aq:(g:Int)<K:=by have:=o.out;omega
          have aA:IntKind.u64.wrap ((g:Int)*(y0:Int))=(p:Int):=by
           refine Af (by rw[<-k.out];push_cast;rfl) ?_;rw[<-k.out];have:g*y0<=4294967295*4294967295:=gO (by omega) (by omega);omega
          have au:(p:Int)<=(l:Int):=by omega
          have hF:=D.out;subst hF;clear T;go_wp2
          go_ret2
          exact⟨rfl,Qt.refl _⟩
    · have A:(i:Int)<K:=by have:=o.out;omega
      rcases c with hk|⟨a0,a1,a2⟩
      all_goals
       go_wp2;go_round
       case rel=>exact⟨a,i,by go_num,rfl,t,z,eP ⟨by omega,by omega⟩⟩
       case measure=>simp[intOf]
  · have D:Hid (g=Q1):=by
     show _=_;have h1:=W.guess_done (b:=4294967296) (y1:=y1) (y0:=y0) (U:=U) (u:=u1) (q:=Q1) E.out F.out (by rw[k.out,v.out];omega);have h2:=G.out;omega
    have aq:(g:Int)<K:=by have:=o.out;omega
    have aA:IntKind.u64.wrap ((g:Int)*(y0:Int))=(p:Int):=by
     refine Af (by rw[<-k.out];push_cast;rfl) ?_;rw[<-k.out];have:g*y0<=4294967295*4294967295:=gO (by omega) (by omega);omega
    have au:(p:Int)<=(l:Int):=by omega
    have hF:=D.out;subst hF;clear T;go_wp2
    go_loop[18,16] (fun O rv=>∃ g r:Nat,O = .int .u64 g/\rv = .int .u64 r/\Hid (g*y1+r=R1)/\Hid (Q0<=g)/\Hid (g<=4294967297/\r<4294967296)) (fun O _=>(intOf O).toNat)
    case atStart=>exact⟨C,rR,rfl,rfl,a4,eP (W.guess_hi (b:=4294967296) (y1:=y1) (y0:=y0) (U:=R1) (u:=u0) (q:=Q0) (g:=C) (r:=rR) a4.out d.out (by omega) (by omega)),eP ⟨ac.out,by omega⟩⟩
    case round =>
     obtain⟨g,r,rfl,rfl,E,G,HB⟩:=hrel;obtain⟨ar,aw⟩:=HB.out;obtain⟨p,hp⟩:∃ p,g*y0=p:=⟨_,rfl⟩;obtain⟨l,B⟩:∃ l,4294967296*r+u0=l:=⟨_,rfl⟩;have aB:IntKind.u64.wrap (K*(r:Int))=K*(r:Int):=by rw[<-show(4294967296:Int)=K from o.out];exact wrap_u64 (by omega) (by omega)
     have ag:IntKind.u64.wrap (K*(r:Int)+(u0:Int))=(l:Int):=by rw[<-show(4294967296:Int)=K from o.out];exact Af (by omega) (by omega)
     have k:=eP hp;have v:=eP B;clear hp B;have I:Hid (Q0<4294967296):=W.digit_lt (b:=4294967296) (y:=y1*4294967296+y0) (U:=R1) (u:=u0) J.out (by omega) d.out;by_cases T:4294967296<=g\/(g<4294967296/\l<p)
     · have HD:Hid (Q0<g):=W.guess_down (b:=4294967296) (y1:=y1) (y0:=y0) (U:=R1) (u:=u0) E.out d.out I.out (by rw[k.out,v.out];omega);obtain⟨a,rfl⟩:∃ a,g=a+1:=⟨g-1,by have:=HD.out;omega⟩;have ay:IntKind.u64.wrap ((a:Int)+1-1)=a:=Af (by omega) (by omega);have af:IntKind.u64.wrap (a:Int)=a:=Af (by omega) (by omega);obtain⟨i,j⟩:∃ i,r+y1=i:=⟨_,rfl⟩;have az:IntKind.u64.wrap ((r:Int)+(y1:Int))=(i:Int):=Af (by omega) (by omega);have t:Hid (a*y1+i=R1):=by
        have h1:=E.out;show _=_;rw[<-j,<-h1]
        grind
       have z:Hid (Q0<=a):=by have:=HD.out;show _<=_;omega
       have ah:=eP j;clear j;have c:K<=(a:Int)+1\/((a:Int)+1<K/\IntKind.u64.wrap (((a:Int)+1)*(y0:Int))=(p:Int)/\(l:Int)<p):=by
        have ak:=o.out;rcases T with h|⟨h1,h2⟩
        · left;omega
        · right;refine⟨by omega,Af (by rw[<-k.out];push_cast;rfl) ?_,by omega⟩;rw[<-k.out];have:(a+1)*y0<=4294967295*4294967295:=gO (by omega) (by omega);omega
       clear T;by_cases a3:4294967296<=i
       · have D:Hid (a=Q0):=by
          show _=_;have h1:=W.guess_done (b:=4294967296) (y1:=y1) (y0:=y0) (U:=R1) (u:=u0) (q:=Q0) t.out m.out (W.guess_over a3 (by omega) (by omega));have h2:=z.out;omega
         have hF:=D.out;subst hF;have A:K<=(i:Int):=by have:=o.out;omega
         rcases c with hk|⟨a0,a1,a2⟩
         all_goals
          go_wp2
          go_ret2
          exact⟨rfl,Qt.refl _⟩
       · have A:(i:Int)<K:=by have:=o.out;omega
         rcases c with hk|⟨a0,a1,a2⟩
         all_goals
          go_wp2;go_round
          case rel=>exact⟨a,i,by go_num,rfl,t,z,eP ⟨by omega,by omega⟩⟩
          case measure=>simp[intOf]
     · have D:Hid (g=Q0):=by
        show _=_;have h1:=W.guess_done (b:=4294967296) (y1:=y1) (y0:=y0) (U:=R1) (u:=u0) (q:=Q0) E.out m.out (by rw[k.out,v.out];omega);have h2:=G.out;omega
       have aq:(g:Int)<K:=by have:=o.out;omega
       have aA:IntKind.u64.wrap ((g:Int)*(y0:Int))=(p:Int):=by
        refine Af (by rw[<-k.out];push_cast;rfl) ?_;rw[<-k.out];have:g*y0<=4294967295*4294967295:=gO (by omega) (by omega);omega
       have au:(p:Int)<=(l:Int):=by omega
       have hF:=D.out;subst hF;clear T;go_wp2
       go_ret2
       exact⟨rfl,Qt.refl _⟩
theorem DP(f:y<18446744073709551616)(a:lo<18446744073709551616)(b:hi<y) :
 Calls prog 211 #[.int .u64 hi,.int .u64 lo,.int .u64 y] w fun e d=>∃ q r:Nat,e = .returned (.tuple #[.int .u64 (q:Int),.int .u64 (r:Int)])/\q<18446744073709551616/\r<y/\hi*18446744073709551616+lo=q*y+r/\Qt w d:=by
 rcases fj hi with h0|h0
 · subst h0;refine(Hn f a b).mono ?_;rintro e d ⟨rfl,c⟩;refine⟨lo/y,lo%y,rfl,?_,fN _ b,?_,c⟩
   · have:=gh lo y;omega
   · have:=fY lo y;rw[f9]at this;rw[ic,fP];exact this.symm
 · refine(IZ f a b h0).mono ?_;rintro e d ⟨rfl,c⟩;refine⟨(hi*18446744073709551616+lo)/y,(hi*18446744073709551616+lo)%y,rfl,?_,fN _ (by omega),?_,c⟩
   · rw[gG (by omega)];have:(hi+1)*18446744073709551616<=y*18446744073709551616:=eS _ b;omega
   · have:=fY (hi*18446744073709551616+lo) y;rw[f9]at this;exact this.symm
theorem Cy(h:k<xs.length):xs.drop k=xs.getD k 0 :: xs.drop (k+1):=by
 rw[fD h,gqq,eQ h];rfl
theorem drop_set{zs:List Nat}{k q:Nat}(h:k<zs.length):(zs.set k q).drop k=q :: zs.drop (k+1):=by
 rw[Cy (xs:=zs.set k q) (by simpa using h)];have h1:(zs.set k q).getD k 0=q:=by simp[h]
 have h2:(zs.set k q).drop (k+1)=zs.drop (k+1):=by rw[List.drop_set];simp
 rw[h1,h2]
theorem I0{q r':Nat}(a:k<xs.length)(b:k<zs.length)(h:W.val B (xs.drop (k+1))=W.val B (zs.drop (k+1))*d+r)(e:r*B+xs.getD k 0=q*d+r') :
 W.val B (xs.drop k)=W.val B ((zs.set k q).drop k)*d+r':=by
 rw[Cy a,drop_set b];simp only[W.val];rw[h];generalize xs.getD k 0=x at *
 generalize W.val B (zs.drop (k+1))=Z at *
 have h1:x+B*(Z*d+r)=B*Z*d+(r*B+x):=by grind
 rw[h1,e]
 grind
theorem I1(R:SlN .u64 w a n c xs)(N:W.bnd 18446744073709551616 xs)(Q:W.val 18446744073709551616 xs=x)(Y:d<18446744073709551616)(h0:0<d)(hn:n<=1000000) :
 Calls prog 226 #[.slice a n c,.int .u64 d] w fun e S=>∃ A L P T,e = .returned (.tuple #[.slice A L P,.int .u64 ((x%d:Nat):Int)])/\Ext w S/\SlN .u64 S A L P T/\Num 18446744073709551616 T (x/d)/\NG w.heap.size (fun _=>False) A L:=by
 have t:=eP R.len;have U:=eP N;have X:=eP Q;clear N Q
 go_enter func226,ntmps226
 go_upto_region 3 with(at_make;refine CJ (n:=n) rfl rfl underlying98 AG rfl rfl rfl (by omega) (by unfold maxLen;omega) ?_;intro w1 m l)
 go_wp2
 go_loopw[7,8] (fun rv iv wr=>∃ (k r:Nat) (zs:List Nat),k<=n/\rv = .int .u64 r/\iv = .int .i64 ((k:Int)-1)/\r<d/\Ext w wr/\Am .u64 wr w.heap.size 101 w.heap.size n n zs/\W.bnd 18446744073709551616 zs/\Hid (W.val 18446744073709551616 (xs.drop k)=W.val 18446744073709551616 (zs.drop k)*d+r)) (fun _ v _=>(intOf v+1).toNat)
 case atStart=>exact⟨n,0,List.replicate n 0,lrf _,rfl,by go_num,h0,l,Am.of_zeros m,fun z f=>by rw[(gQ.1 f).2];omega,eP (by rw[fK (by rw[t.out];exact lrf _),fK (by simp)];simp[W.val])⟩
 case round =>
  clear m l;obtain⟨k,r,zs,hk,rfl,rfl,H,C,f,O,M⟩:=hrel;cases k with
  | zero =>
   have b:x/d=W.val 18446744073709551616 zs/\x%d=r:=by
    have h1:=M.out;rw[gm,gm,X.out]at h1;rw[h1,f9];exact⟨by rw[j3 h0,gX H,gd],by rw[jb,gW H]⟩
   go_wp2_with fail
   refine(BO f.sl).mono ?_;rintro e w4 ⟨q,rfl,rfl,G,Z⟩;obtain⟨t1,t2⟩:=Cg f.sl G Z O b.1.symm;go_wp2
   go_ret2
   exact⟨_,q,_,_,by rw[b.2];rfl,C,t1,t2,fun _ g h=>Or.inl (by cases h;exact lrf _)⟩
  | succ k =>
   obtain⟨b1,o1,rfl,o⟩:=(R.ext C).at (j:=k) (by omega);have g1:=o k (by omega);have J:((k+1:Nat):Int)-1=k:=by omega
   rw[J];have K:=W.bnd_at U.out (i:=k) (by rw[t.out];omega);have s:=eP (fun q r'=>I0 (B:=18446744073709551616) (xs:=xs) (zs:=zs) (k:=k) (q:=q) (r:=r) (r':=r') (d:=d) (by rw[t.out];omega) (by rw[f.len];omega) M.out);generalize xs.getD k 0=u at *
   have F:=fun wx:World=>DP (w:=wx) (hi:=r) (lo:=u) (y:=d) Y K H;clear o
   go_wp2_with fail
   refine(F _).mono ?_;rintro e w2 ⟨q,r',rfl,G,I,he,E⟩;have g3:=(f.ext E.ext).frozen k;have V:=eP (s.out q r' he);have p:=f.ext E.ext;have D:=C.trans E.ext;have g4:=p.cell (i:=k) (by omega);clear he;go_wp2;go_roundw
   case rel=>exact⟨k,r',zs.set k q,by omega,rfl,by go_num,I,D.setCell (lrf _) _,p.set k q,W.bnd_set O G,V⟩
   case measure=>simp[intOf]
theorem Gc(E:SlN .u64 w a n c xs)(C:W.bnd 18446744073709551616 xs)(D:W.val 18446744073709551616 xs=x)(I:d<18446744073709551616)(h0:0<d)(R:n<=1000000) :
 Calls prog 179 #[.slice a n c,.int .u64 d] w fun e M=>e = .returned (.int .u64 ((x%d:Nat):Int))/\Qt w M:=by
 have o:=eP E.len;have F:=eP C;have H:=eP D;clear C D
 go_enter func179,ntmps179
 go_wp2
 go_loopw[5,6] (fun L K wr=>∃ (k r:Nat),k<=n/\L = .int .u64 r/\K = .int .i64 ((k:Int)-1)/\r<d/\Qt w wr/\Hid (W.val 18446744073709551616 (xs.drop k)%d=r)) (fun _ v _=>(intOf v+1).toNat)
 case atStart=>exact⟨n,0,lrf _,rfl,by go_num,h0,Qt.refl _,eP (by rw[fK (by rw[o.out];exact lrf _)];simp[W.val])⟩
 case round =>
  obtain⟨k,r,Q,rfl,rfl,J,p,B⟩:=hrel;cases k with
  | zero =>
   have l:x%d=r:=by
    have h1:=B.out;rw[gm,H.out]at h1;exact h1
   go_wp2;go_ret;exact⟨by rw[l];rfl,p⟩
  | succ k =>
   obtain⟨O,T,rfl,g⟩:=(E.ext p.ext).at (j:=k) (by omega);have P:=g k (by omega);have z:((k+1:Nat):Int)-1=k:=by omega
   rw[z];have A:=W.bnd_at F.out (i:=k) (by rw[o.out];omega);have m:Hid (∀ q b,r*18446744073709551616+xs.getD k 0=q*d+b->b < d->W.val 18446744073709551616 (xs.drop k)%d=b):=by
    show ∀ q b,r*18446744073709551616+xs.getD k 0=q*d+b->b < d->W.val 18446744073709551616 (xs.drop k)%d=b;intro q b e f;rw[Cy (by rw[o.out];omega)];simp only[W.val];have h1:=B.out;have h2:=fY (W.val 18446744073709551616 (xs.drop (k+1))) d;rw[h1]at h2;rw[<-h2];generalize W.val 18446744073709551616 (xs.drop (k+1))/d=Z;generalize xs.getD k 0=u at *
    have h3:u+18446744073709551616*(d*Z+r)=d*(18446744073709551616*Z+q)+b:=by grind
    rw[h3,jb,gW f]
   generalize xs.getD k 0=u at *
   have t:=fun N:World=>DP (w:=N) (hi:=r) (lo:=u) (y:=d) I A J;clear g
   go_wp2_with fail
   refine(t _).mono ?_;rintro e U ⟨q,b,rfl,S,f,he,s⟩;have G:=eP (m.out q b he f);clear he;go_wp2;go_roundw
   case rel=>exact⟨k,b,by omega,rfl,by go_num,f,p.trans s,G⟩
   case measure=>simp[intOf]
theorem PX{w:Nat}(f:o+k<l.length)(g:k<xs.length)(h:W.val B l+w*W.val B (xs.take k)*B^o=V+c*B^(o+k))(e:s+xs.getD k 0*w+c=l.getD (o+k) 0+B*c') :
 W.val B (l.set (o+k) s)+w*W.val B (xs.take (k+1))*B^o=V+c'*B^(o+(k+1)):=by
 have h1:=W.val_set (B:=B) (xs:=l) (i:=o+k) (v:=s) f;have h2:=W.val_take_succ (B:=B) g;rw[h2,<-i7,fT];have h3:B^(o+k)=B^o*B^k:=ig _ _ _;rw[h3]at h h1 |-;generalize l.getD (o+k) 0=x at *
 generalize xs.getD k 0=y at *
 generalize W.val B (l.set (o+k) s)=a at *
 generalize W.val B l=b at *
 generalize W.val B (xs.take k)=d at *
 generalize B^k=p at *
 generalize B^o=q at *
 grind
theorem RF(c:z<18446744073709551616)(hu:u<18446744073709551616)(b:wd<18446744073709551616)(a:cy<18446744073709551616) :
 u*wd/18446744073709551616+(u*wd%18446744073709551616+cy+0)/18446744073709551616<18446744073709551616/\u*wd/18446744073709551616+(u*wd%18446744073709551616+cy+0)/18446744073709551616+(if z<(u*wd%18446744073709551616+cy+0)%18446744073709551616+0 then 1 else 0)<18446744073709551616 /\
 (z+18446744073709551616-(u*wd%18446744073709551616+cy+0)%18446744073709551616-0)%18446744073709551616+u*wd+cy=z+18446744073709551616*(u*wd/18446744073709551616+(u*wd%18446744073709551616+cy+0)/18446744073709551616+(if z<(u*wd%18446744073709551616+cy+0)%18446744073709551616+0 then 1 else 0)):=by
 have:u*wd<=18446744073709551615*18446744073709551615:=gO (by omega) (by omega);generalize u * wd=p at *
 split <;> omega
theorem Fb{C:Nat}(Q:Am .u64 w base 101 g N C zs)(P:SlN .u64 w a n d xs)(r:blk a=none\/blk a≠some g)(ho:o+n<=N)(Y:W.bnd 18446744073709551616 zs)(X:W.bnd 18446744073709551616 xs)(Z:wd<18446744073709551616) :
 Calls prog 228 #[.slice (some ⟨g,o,none⟩) n c',.slice a n d,.int .u64 wd] w fun e w'=>∃ (b:Nat) (p:List Nat),e = .returned (.int .u64 b)/\b<18446744073709551616/\w.grownBy w' (some g)/\Am .u64 w' base 101 g N C p/\W.bnd 18446744073709551616 p/\W.val 18446744073709551616 p+wd*W.val 18446744073709551616 xs*18446744073709551616^o=W.val 18446744073709551616 zs+b*18446744073709551616^(o+n)/\(∀ j,o+n<=j->p.getD j 0=zs.getD j 0):=by
 have HZ:=eP Q.len;have H:=eP P.len;have a1:=P.le;have BX:=eP X;clear X
 go_enter func228,ntmps228
 go_wp2
 go_loopw[7,16] (fun cv S wr=>∃ (k b:Nat) (c:List Nat),cv = .int .u64 b/\S = .int .i64 k/\k<=n/\b<18446744073709551616/\w.grownBy wr (some g)/\Am .u64 wr base 101 g N C c/\W.bnd 18446744073709551616 c/\Hid (W.val 18446744073709551616 c+wd*W.val 18446744073709551616 (xs.take k)*18446744073709551616^o=W.val 18446744073709551616 zs+b*18446744073709551616^(o+k))/\Hid (∀ j,o+n<=j->c.getD j 0=zs.getD j 0)) (fun _ S _=>n-(intOf S).toNat)
 case atStart=>exact⟨0,0,zs,rfl,rfl,f8 _,by omega,C0 _ _,Q,Y,eP (by simp[W.val]),eP (fun _ _=>rfl)⟩
 case round =>
  clear Q Y;obtain⟨k,b,c,rfl,rfl,hk,D,L,v,I,U,V⟩:=hrel;by_cases f:k<n
  · obtain⟨b1,o1,rfl,y⟩:=(P.kept L r).at (j:=k) f;have g1:=y k f;have g2:=v.cell (i:=o+k) (by omega);have g3:=v.frozen (o+k);have R:=W.bnd_at I (i:=o+k) (by rw[v.len];omega);have F:=W.bnd_at BX.out (i:=k) (by rw[H.out];exact f);obtain⟨m1,m2,m3⟩:=RF R F Z D;have HS:=eP (PX (B:=18446744073709551616) (l:=c) (xs:=xs) (k:=k) (o:=o) (w:=wd) (by rw[v.len];omega) (by rw[H.out];exact f) U.out m3);have a0:(k:Int)<n:=by omega
    have G:Hid (∀ s j,o+n<=j->(c.set (o+k) s).getD j 0=zs.getD j 0):=by
     show ∀ s j,o+n<=j->(c.set (o+k) s).getD j 0=zs.getD j 0;intro s j hj;rw[<-V.out j hj];have r:¬ o+k=j:=by omega
     simp[r]
    generalize c.getD (o+k) 0=z at *
    generalize xs.getD k 0=u at *
    have E:=H7 F Z;have J:∀ m:World,(callFunc 202 #[.int .u64 ((u*wd%18446744073709551616:Nat):Int),.int .u64 (b:Int),.int .u64 0]).run prog m = .ok (.value (.tuple #[.int .u64 (((u*wd%18446744073709551616+b+0)%18446744073709551616:Nat):Int),.int .u64 (((u*wd%18446744073709551616+b+0)/18446744073709551616:Nat):Int)])) m:=fun m=>Do (u*wd%18446744073709551616) b 0 (by omega) m;generalize u * wd/18446744073709551616=t at *
    generalize u * wd%18446744073709551616=pl at *
    generalize M:(pl+b+0)%18446744073709551616=s1 at *
    generalize A:(pl+b+0)/18446744073709551616=q at *
    have K:∀ m:World,(callFunc 204 #[.int .u64 (z:Int),.int .u64 (s1:Int),.int .u64 0]).run prog m = .ok (.value (.tuple #[.int .u64 (((z+18446744073709551616-s1-0)%18446744073709551616:Nat):Int),.int .u64 ((if z<s1+0 then 1 else 0:Nat):Int)])) m:=fun m=>Dp z s1 0 (by omega) m;have O:(z+18446744073709551616-s1-0)%18446744073709551616<18446744073709551616:=fN _ (by omega);generalize (z+18446744073709551616-s1-0)%18446744073709551616=T at *
    generalize (if z<s1+0 then 1 else 0)=x at *
    have a2:IntKind.u64.wrap ((t:Int)+q)=((t+q:Nat):Int):=by rw[wrap_u64 (by omega) (by omega)];omega
    have a3:IntKind.u64.wrap (((t+q:Nat):Int)+x)=((t+q+x:Nat):Int):=by rw[wrap_u64 (by omega) (by omega)];omega
    have a4:IntKind.u64.wrap ((t:Int)+(q:Int)+x)=((t+q+x:Nat):Int):=by rw[wrap_u64 (by omega) (by omega)];omega
    clear y M A m3
    go_wp2_with(go_at_call 205;refine(E _).mono ?_;rintro e w1 ⟨rfl,rfl⟩)
    go_roundw
    case rel=>exact⟨k+1,t+q+x,c.set (o+k) T,by first | rfl | go_num,by go_num,by omega,m2,Kg L _ _,v.set (o+k) T,W.bnd_set I O,HS,eP (G.out T)⟩
    case measure=>simp[intOf];omega
  · have ek:k=n:=by omega
    go_wp2;go_ret;have h1:=U.out;rw[ek,eR (by rw[H.out];exact lrf _)]at h1;exact⟨b,c,rfl,D,L,v,I,h1,V.out⟩
theorem Mt(a:k+1<l.length)(b:k<xs.length)(h:W.val B l=W.val B (xs.take k)*2^s)(h0:l.getD (k+1) 0=0)(e:xs.getD k 0*2^s=V*B+L) :
 W.val B ((l.set k (l.getD k 0+L)).set (k+1) V)=W.val B (xs.take (k+1))*2^s:=by
 have h1:=W.val_set (B:=B) (xs:=l) (i:=k) (v:=l.getD k 0+L) (by omega);have h2:=W.val_set (B:=B) (xs:=l.set k (l.getD k 0+L)) (i:=k+1) (v:=V) (by simpa using a);have h3:(l.set k (l.getD k 0+L)).getD (k+1) 0=0:=by
  simpa using h0
 rw[h3]at h2;rw[W.val_take_succ b,gA,im,e];rw[fT]at h2;generalize l.getD k 0=z at *
 generalize W.val B ((l.set k (z+L)).set (k+1) V)=X at *
 generalize W.val B (l.set k (z+L))=Y at *
 generalize W.val B l=Z at *
 generalize W.val B (xs.take k) * 2^s=T at *
 generalize B^k=p at *
 grind
theorem B9(a:s<=63):2^(64-s)*2^s=18446744073709551616:=by rw[<-ig,show 64-s+s=64 by omega]
theorem S6(a:s<=63)(e:lo*2^s=V*18446744073709551616+L):L%2^s=0:=by
 have h1:=B9 a;have h2:2^s∣V*18446744073709551616+L:=by rw[<-e];exact j5 _ _
 have h3:2^s∣V*18446744073709551616:=by rw[<-h1];exact⟨V*2^(64-s),by grind⟩
 exact Nat.mod_eq_zero_of_dvd ((ll h3).1 h2)
theorem S7(c:s<=63)(b:L%2^s=0)(a:L<18446744073709551616)(d:z<2^s):z+L<18446744073709551616:=by
 have h1:=B9 c;have h2:=fY L (2^s);rw[b,gd]at h2;have h3:L/2^s<2^(64-s):=by
  rw[gG (fy s),h1];exact a
 have h4:2^s*(L/2^s+1)<=2^s*2^(64-s):=fx _ h3;rw[f9 (2^s) (2^(64-s)),h1,gS,iN,h2]at h4;omega
theorem Fk(Y:SlN .u64 w a n c xs)(nx:Num 18446744073709551616 xs x)(G:s<=63)(hn:n<=1000000) :
 Calls prog 220 #[.slice a n c,.int .u64 s] w (PU .u64 18446744073709551616 w (x*2^s)):=by
 have E:=eP Y.len;have p:=eP nx;clear nx;by_cases h0:n=0\/s=0
 · have HZ:Hid (x*2^s=x):=by
    show _=_;rcases h0 with h0|h0
    · have h1:xs=[]:=fa (by rw[E.out,h0]);have h2:=p.out.val;rw[h1]at h2;simp only[W.val]at h2;rw[<-h2];simp
    · rw[h0];simp
   have o:((n:Int) == 0)=true\/(((n:Int) == 0)=false/\((s:Int) == 0)=true):=by
    by_cases h1:n=0
    · left;simp[h1]
    · right;exact⟨by simpa using h1,by simp;omega⟩
   clear h0;rcases o with hp|⟨hp,a1⟩
   all_goals
    go_enter func220,ntmps220
    go_wp2;go_ret;exact⟨a,n,c,xs,rfl,Ext.refl w,Y,⟨p.out.bnd,p.out.nrm,by rw[p.out.val,HZ.out]⟩⟩
 · have R:((n:Int) == 0)=false:=by simp;omega
   have S:((s:Int) == 0)=false:=by simp;omega
   have F:(s:Int)/64=0:=by omega
   have U:(s:Int).tdiv 64=0:=by rw[gE (by omega)];exact F
   have hr:(s:Int)%64=s:=by omega
   have X:(s:Int).tmod 64=s:=by rw[gP (by omega)];exact hr
   clear h0
   go_enter func220,ntmps220
   go_upto_region 5 with(at_make;refine CJ (n:=n+1) rfl rfl underlying98 AG rfl rfl rfl (by omega) (by unfold maxLen;omega) ?_;intro w1 A r)
   clear F U hr X R S;go_wp2
   go_loopw[31] (fun iv wr=>∃ (k:Nat) (b:List Nat),iv = .int .i64 k/\k<=n/\Ext w wr/\Am .u64 wr w.heap.size 101 w.heap.size (n+1) (n+1) b/\W.bnd 18446744073709551616 b/\Hid (W.val 18446744073709551616 b=W.val 18446744073709551616 (xs.take k)*2^s)/\Hid (∀ j,k<j->b.getD j 0=0)/\Hid (b.getD k 0<2^s)) (fun iv _=>n-(intOf iv).toNat)
   case atStart=>exact⟨0,List.replicate (n+1) 0,rfl,f8 _,r,Am.of_zeros A,fun z d=>by rw[(gQ.1 d).2];omega,eP (by rw[W.val_zeros];simp[W.val]),eP (fun j _=>EB _ j),eP (by rw[EB];exact fy s)⟩
   case round =>
    clear A r;obtain⟨k,b,rfl,hk,O,d,N,HV,I,HP⟩:=hrel;by_cases f:k<n
    · obtain⟨b1,o1,rfl,D⟩:=(Y.ext O).at (j:=k) f;have g1:=D k f;have g2:=d.cell (i:=k) (by omega);have g3:=d.frozen k;have g4:=d.frozen (k+1);have g5:=d.cell (i:=k+1) (by omega);rw[I.out (k+1) (by omega)]at g5;have Z:=W.bnd_at p.out.bnd (i:=k) (by rw[E.out];exact f);obtain⟨L,V,m,t,C,P,y⟩:=Kl G Z;have g:=S6 G m;have HS:=eP (Mt (B:=18446744073709551616) (l:=b) (xs:=xs) (k:=k) (s:=s) (L:=L) (V:=V) (by rw[d.len];omega) (by rw[E.out];exact f) HV.out (I.out _ (by omega)) m)
      have a0:b.getD k 0<18446744073709551616:=W.bnd_at N (i:=k) (by rw[d.len];omega);have T:=S7 G g t HP.out;have J:Hid (∀ v j,k+1<j->((b.set k v).set (k+1) V).getD j 0=0):=by
       show ∀ v j,k+1<j->((b.set k v).set (k+1) V).getD j 0=0;intro v j hj;have h0:=I.out j (by omega);have h1:¬ k=j:=by omega
       have h2:¬ k+1=j:=by omega
       simpa[h1,h2]using h0
      have K:Hid (∀ v,((b.set k v).set (k+1) V).getD (k+1) 0<2^s):=by
       show ∀ v,((b.set k v).set (k+1) V).getD (k+1) 0<2^s;intro v;have h1:k+1<b.length:=by rw[d.len];omega
       have h2:((b.set k v).set (k+1) V).getD (k+1) 0=V:=by simp[h1]
       rw[h2];exact P
      have e5:bits BinOp.or IntKind.u64 ((b.getD k 0:Nat):Int) (L:Int)=((b.getD k 0+L:Nat):Int):=by
       rw[kN _ L a0 t,lJ,lD s L (b.getD k 0) g HP.out,ie]
      generalize a2:b.getD k 0+L=H at *
      generalize b.getD k 0=z at *
      have e6:IntKind.u64.wrap (((xs.getD k 0:Nat):Int)*2^s)=(L:Int):=by
       have:=Gb (x:=xs.getD k 0*2^s) (M:=L) y.symm;push_cast at this;exact this
      have e7:((xs.getD k 0:Nat):Int)/2^(64-s)=(V:Int):=by rw[C];push_cast;rfl
      clear m y C;generalize xs.getD k 0=u at *
      have Q:V<18446744073709551616:=by
       have:=fd (n:=2) (by omega) (show s<=63 from G);omega
      clear D;go_wp2;go_roundw
      case rel=>exact⟨k+1,(b.set k H).set (k+1) V,by go_num,by omega,(O.setCell (lrf _) _).setCell (lrf _) _,(d.set k H).set (k+1) V,W.bnd_set (W.bnd_set N T) Q,HS,eP (J.out H),eP (K.out H)⟩
      case measure=>simp[intOf];omega
    · have ek:k=n:=by omega
      have hv:W.val 18446744073709551616 b=x*2^s:=by
       have h1:=HV.out;rw[ek,eR (by rw[E.out];exact lrf _),p.out.val]at h1;exact h1
      go_wp2_with fail
      refine(BO d.sl).mono ?_;rintro e w4 ⟨q,rfl,rfl,F,ht⟩;obtain⟨t1,t2⟩:=Cg d.sl F ht N hv;go_wp2;go_ret;exact⟨_,q,_,_,rfl,O,t1,t2⟩
theorem S8(a:s<=63):2^s*(x*2^(64-s)%18446744073709551616)=18446744073709551616*(x%2^s)/\x*2^(64-s)%18446744073709551616%2^(64-s)=0:=by
 have h1:=B9 a;have h2:x*2^(64-s)%18446744073709551616=x%2^s*2^(64-s):=by
  rw[<-h1,f9 (2^(64-s)) (2^s),Nat.mul_mod_mul_right]
 rw[h2];refine⟨?_,kP _ _⟩;rw[<-h1];generalize 2^(64-s)=p;generalize 2^s=q
 grind
theorem Up(a:s<=63)(b:x<18446744073709551616):x/2^s<2^(64-s):=by
 rw[gG (fy s),B9 a];exact b
theorem Lj(a:x<18446744073709551616)(b:y<18446744073709551616):x ||| y<18446744073709551616:=Nat.or_lt_two_pow (n:=64) a b
theorem Mu(a:s<=63)(b:x<18446744073709551616):∃ z:Nat,z<18446744073709551616/\x/2^s ||| (y*2^(64-s)%18446744073709551616)=z/\2^s*z+x%2^s=x+18446744073709551616*(y%2^s):=by
 obtain⟨h1,h2⟩:=S8 (x:=y) a;have h3:=Up a b;have h4:=lD (64-s) (y*2^(64-s)%18446744073709551616) (x/2^s) h2 h3;refine⟨x/2^s ||| (y*2^(64-s)%18446744073709551616),Lj ?_ (fN _ (by omega)),rfl,?_⟩
 · have:=gh x (2^s);omega
 · rw[lJ,h4,gS,h1];have:=fY x (2^s);generalize 2^s * (x/2^s)=p at *
   omega
theorem Gd(c:k<l.length)(d:k<xs.length)(h:2^s*W.val B (l.take k)+V=W.val B (xs.take k)+B^k*(xs.getD k 0%2^s))(e:2^s*z+xs.getD k 0%2^s=xs.getD k 0+B*(xs.getD (k+1) 0%2^s)) :
 2^s*W.val B ((l.set k z).take (k+1))+V=W.val B (xs.take (k+1))+B^(k+1)*(xs.getD (k+1) 0%2^s):=by
 have h1:=W.val_take_succ (B:=B) (xs:=l.set k z) (i:=k) (by simpa using c);have h2:(l.set k z).getD k 0=z:=by simp[c]
 have h3:(l.set k z).take k=l.take k:=by rw[List.take_set,List.set_eq_of_length_le (by simp;omega)]
 rw[h2,h3]at h1;rw[h1,W.val_take_succ d,fT];generalize xs.getD (k+1) 0%2^s=b at *
 generalize xs.getD k 0%2^s=a at *
 generalize xs.getD k 0=u at *
 generalize W.val B (l.take k)=A at *
 generalize W.val B (xs.take k)=X at *
 generalize B^k=p at *
 generalize 2^s=q at *
 grind
theorem Ho(hx:SlN .u64 w a n c xs)(nx:Num 18446744073709551616 xs x)(hs:s<=63)(hn:n<=1000000) :
 Calls prog 225 #[.slice a n c,.int .u64 s] w (Mo .u64 18446744073709551616 w (fun _=>False) (x/2^s)):=by
 have r:=eP hx.len;have Q:=eP nx;clear nx;have O:(s:Int)/64=0:=by omega
 have Y:(s:Int).tdiv 64=0:=by rw[gE (by omega)];exact O
 have hr:(s:Int)%64=s:=by omega
 have Z:(s:Int).tmod 64=s:=by rw[gP (by omega)];exact hr
 by_cases h0:n=0
 · have HZ:Hid (x/2^s=0):=by
    show _=_;have h1:xs=[]:=fa (by rw[r.out,h0]);have h2:=Q.out.val;rw[h1]at h2;simp only[W.val]at h2;rw[<-h2];simp
   subst h0
   go_enter func225,ntmps225
   go_wp2;go_ret;exact⟨none,0,0,[],rfl,Ext.refl w,SlN.nil _ _,by rw[HZ.out];exact Num.nil _,fun _ h=>by cases h⟩
 · have X:(0:Int)<(n:Int):=by omega
   clear h0
   go_enter func225,ntmps225
   go_upto_region 5 with(at_make;refine CJ (n:=n) rfl rfl underlying98 AG rfl rfl rfl (by omega) (by unfold maxLen;omega) ?_;intro w1 F E)
   clear O Y hr Z X;go_wp2
   go_loopw[27] (fun iv wr=>∃ (k:Nat) (m:List Nat),iv = .int .i64 k/\k<=n/\Ext w wr/\Am .u64 wr w.heap.size 101 w.heap.size n n m/\W.bnd 18446744073709551616 m/\Hid (2^s*W.val 18446744073709551616 (m.take k)+xs.getD 0 0%2^s=W.val 18446744073709551616 (xs.take k)+18446744073709551616^k*(xs.getD k 0%2^s))) (fun iv _=>n-(intOf iv).toNat)
   case atStart=>exact⟨0,List.replicate n 0,rfl,f8 _,E,Am.of_zeros F,fun z d=>by rw[(gQ.1 d).2];omega,eP (by simp[W.val])⟩
   case round =>
    clear F E;obtain⟨k,m,rfl,hk,J,d,R,C⟩:=hrel;by_cases b:k<n
    · obtain⟨b1,o1,rfl,o⟩:=(hx.ext J).at (j:=k) b;have g1:=o k b;have g2:=d.cell (i:=k) b;have g3:=d.frozen k;have G:=W.bnd_at Q.out.bnd (i:=k) (by rw[r.out];exact b);by_cases t:k+1<n
      · have g4:=o (k+1) t;have a1:b1≠w.heap.size:=by have:=hx.fresh (lrf _) (by omega);simpa[blk]using this
        obtain⟨f,v,A,D⟩:=Mu (y:=xs.getD (k+1) 0) hs G;have P:=eP (Gd (B:=18446744073709551616) (l:=m) (xs:=xs) (k:=k) (s:=s) (z:=f) (by rw[d.len];omega) (by rw[r.out];exact b) C.out D);obtain⟨L,K⟩:∃ L,xs.getD (k+1) 0*2^(64-s)%18446744073709551616=L:=⟨_,rfl⟩;obtain⟨V,N⟩:∃ V,xs.getD k 0/2^s=V:=⟨_,rfl⟩;have T:L<18446744073709551616:=by rw[<-K];exact fN _ (by omega)
        have U:V<18446744073709551616:=by rw[<-N];have:=gh (xs.getD k 0) (2^s);omega
        rw[K,N]at A;have f5:bits BinOp.or IntKind.u64 (V:Int) (L:Int)=(f:Int):=by rw[kN V L U T,A]
        have f6:IntKind.u64.wrap (((xs.getD (k+1) 0:Nat):Int)*2^(64-s))=(L:Int):=by
         have:=Gb (x:=xs.getD (k+1) 0*2^(64-s)) (M:=L) K;push_cast at this;exact this
        have f7:((xs.getD k 0:Nat):Int)/2^s=(V:Int):=by rw[<-N];push_cast;rfl
        clear K N A D C;generalize a0:xs.getD (k+1) 0=y at *
        generalize xs.getD k 0=u at *
        generalize m.getD k 0=z at *
        clear o;go_wp2;have S:=((J.setCell (p:=⟨w.heap.size,k,none⟩) (lrf _) (.int .u64 (V:Int))).setCell (p:=⟨w.heap.size,k,none⟩) (lrf _) (.int .u64 (f:Int))).drewN 1;have I:=((d.set k V).set k f).drewN 1;rw[lT]at I
        go_region
        go_wp2;go_roundw
        case rel=>exact⟨k+1,m.set k f,by go_num,by omega,S,I,W.bnd_set R v,by rw[a0];exact P⟩
        case measure=>simp[intOf];omega
      · have H:xs.getD (k+1) 0=0:=by
         rw[gqq,fi (by rw[r.out];omega)];rfl
        obtain⟨f,v,A,D⟩:=Mu (y:=0) hs G;have P:=eP (Gd (B:=18446744073709551616) (l:=m) (xs:=xs) (k:=k) (s:=s) (z:=f) (by rw[d.len];omega) (by rw[r.out];exact b) C.out (by rw[H];exact D));have e7:xs.getD k 0/2^s=f:=by rw[<-A];simp
        have f7:((xs.getD k 0:Nat):Int)/2^s=(f:Int):=by rw[<-e7];push_cast;rfl
        clear A D e7 C H;generalize xs.getD k 0=u at *
        generalize m.getD k 0=z at *
        clear o;go_wp2;go_roundw
        case rel=>exact⟨k+1,m.set k f,by go_num,by omega,J.setCell (lrf _) _,d.set k f,W.bnd_set R v,P⟩
        case measure=>simp[intOf];omega
    · have ek:k=n:=by omega
      have hv:W.val 18446744073709551616 m=x/2^s:=by
       have h1:=C.out;have h2:xs.getD n 0=0:=by
        rw[gqq,fi (by rw[r.out];omega)];rfl
       rw[ek,eR (by rw[d.len];exact lrf _),eR (by rw[r.out];exact lrf _),Q.out.val,h2,Nat.zero_mod,jq,gd]at h1;rw[<-h1,j3 (fy s),gX (fN _ (fy s)),gd]
      go_wp2_with fail
      refine(BO d.sl).mono ?_;rintro e w4 ⟨q,rfl,rfl,O,ht⟩;obtain⟨t1,t2⟩:=Cg d.sl O ht R hv;go_wp2;go_ret;exact⟨_,q,_,_,rfl,J,t1,t2,fun g h=>Or.inl (by cases h;exact lrf _)⟩
theorem OC{p:Nat}(hp:p<l.length)(h0:l.getD p 0=0)(h:W.val B l+c*B^p=V):W.val B (l.set p c)=V:=by
 have:=Hy (B:=B) (D:=0) (s:=c) (c':=0) hp h (by rw[h0];omega);omega
theorem I2(K:Mg w a n c x)(L:Mg w b m d y)(bn:n<=100000)(bm:m<=100000) :
 Calls prog 155 #[.slice a n c,.slice b m d] w (RD w (x+y)):=by
 obtain⟨xs,K,O,-⟩:=K;obtain⟨ys,L,Q,-⟩:=L;by_cases hl:n<m
 case' pos =>
  have V:n<=m:=by omega
  have HV:Hid (x+y=W.val 4294967296 ys+W.val 4294967296 xs):=eP (by rw[O.val,Q.val,ie]);have BX:=Q.bnd;have BY:=O.bnd;have hX:=L;have hY:=K;have bN:=bm;clear K L O Q bm bn;generalize b=A,m=N,d=C,ys=X,a=P,n=M,c=D,xs=Y at *
  have q1:(M:Int)<N:=by omega
  go_enter func155,ntmps155
  go_upto_region 3 with(fail)
  clear q1
 case' neg =>
  have V:m<=n:=by omega
  have HV:Hid (x+y=W.val 4294967296 xs+W.val 4294967296 ys):=eP (by rw[O.val,Q.val]);have BX:=O.bnd;have BY:=Q.bnd;have hX:=K;have hY:=L;have bN:=bn;clear K L O Q bm bn;generalize a=A,n=N,c=C,xs=X,b=P,m=M,d=D,ys=Y at *
  have q1:¬ (N:Int)<M:=by omega
  go_enter func155,ntmps155
  go_upto_region 3 with(fail)
  clear q1
 all_goals
  clear hl;generalize x+y=z at *
  have HX:=eP hX.len;have HY:=eP hY.len
  go_upto_region 4 with(at_make;refine CJ (n:=N+1) rfl rfl underlying105 Br rfl rfl rfl (by omega) (by unfold maxLen;omega) ?_;intro w1 Z U)
  go_wp2
  go_loopw[6,7] (fun cv iv wr=>∃ (k f:Nat) (t:List Nat),cv = .int .u64 f/\iv = .int .i64 k/\k<=N/\f<=1/\Ext w wr/\Am .u32 wr w.heap.size 187 w.heap.size (N+1) (N+1) t/\W.bnd 4294967296 t/\Hid (W.val 4294967296 t+f*4294967296^k=W.val 4294967296 (X.take k)+W.val 4294967296 (Y.take k))/\Hid (∀ j,k<=j->t.getD j 0=0)) (fun _ iv _=>N-(intOf iv).toNat)
  case atStart=>exact⟨0,0,List.replicate (N+1) 0,rfl,rfl,f8 _,by omega,U,Am.of_zeros Z,EU (by omega) _,eP (by rw[W.val_zeros];simp[W.val]),eP (fun j _=>Dn _ j)⟩
  case round =>
   clear Z U;obtain⟨k,f,t,rfl,rfl,hk,a7,J,o,bz,I,R⟩:=hrel;by_cases G:k<N
   · obtain⟨b1,o1,rfl,a0⟩:=(hX.ext J).at (j:=k) G;have g1:=a0 k G;have g3:=o.frozen k;have g4:=o.cell (i:=k) (by omega);have a9:=W.bnd_at BX (i:=k) (by rw[HX.out];exact G);have a8:(k:Int)<N:=by omega
     generalize hu:X.getD k 0=u at *
     clear a0;have r:=R.out k (lrf _);by_cases F:k<M
     · have a2:(k:Int)<M:=by omega
       obtain⟨b2,o2,rfl,a1⟩:=(hY.ext J).at (j:=k) F;have g2:=a1 k F;have aa:=W.bnd_at BY (i:=k) (by rw[HY.out];exact F);generalize hv:Y.getD k 0=v at *
       clear a1;have S:=eP (Hy (B:=4294967296) (l:=t) (p:=k) (D:=u+v) (s:=(f+u+v)%4294967296) (c':=(f+u+v)/4294967296) (by rw[o.len];omega) I.out (by rw[r,iQ];omega));have e1:((f:Int)+u+v)%4294967296=(((f+u+v)%4294967296:Nat):Int):=by omega
       have e2:((f:Int)+u+v)/4294967296=(((f+u+v)/4294967296:Nat):Int):=by omega
       have e3:(f+u+v)/4294967296<=1:=by omega
       have e4:(f+u+v)%4294967296<4294967296:=fN _ (by omega);generalize (f+u+v)%4294967296=s at *
       generalize (f+u+v)/4294967296=T at *
       have E:Hid (W.val 4294967296 (t.set k s)+T*4294967296^(k+1)=W.val 4294967296 (X.take (k+1))+W.val 4294967296 (Y.take (k+1))):=by
        show _=_;rw[S.out,A4,A4,hu,hv,gA,f9 u,f9 v];omega
       clear S hu hv I;go_wp2;go_roundw
       case rel=>exact⟨k+1,T,t.set k s,rfl,by go_num,by omega,e3,J.setCell (lrf _) _,o.set k s,W.bnd_set bz e4,E,eP (F5 R.out)⟩
       case measure=>simp[intOf];omega
     · have a2:¬ (k:Int)<M:=by omega
       have hv:Y.getD k 0=0:=by rw[gqq,fi (by rw[HY.out];omega)];rfl
       have S:=eP (Hy (B:=4294967296) (l:=t) (p:=k) (D:=u+0) (s:=(f+u)%4294967296) (c':=(f+u)/4294967296) (by rw[o.len];omega) I.out (by rw[r,iQ];omega));have e1:((f:Int)+u)%4294967296=(((f+u)%4294967296:Nat):Int):=by omega
       have e2:((f:Int)+u)/4294967296=(((f+u)/4294967296:Nat):Int):=by omega
       have e3:(f+u)/4294967296<=1:=by omega
       have e4:(f+u)%4294967296<4294967296:=fN _ (by omega);generalize (f+u)%4294967296=s at *
       generalize (f+u)/4294967296=T at *
       have E:Hid (W.val 4294967296 (t.set k s)+T*4294967296^(k+1)=W.val 4294967296 (X.take (k+1))+W.val 4294967296 (Y.take (k+1))):=by
        show _=_;rw[S.out,A4,A4,hu,hv,gA,f9 u,f9 0];omega
       clear S hu hv I;go_wp2;go_roundw
       case rel=>exact⟨k+1,T,t.set k s,rfl,by go_num,by omega,e3,J.setCell (lrf _) _,o.set k s,W.bnd_set bz e4,E,eP (F5 R.out)⟩
       case measure=>simp[intOf];omega
   · have a5:k=N:=by omega
     subst a5;have g3:=o.frozen k;have g4:=o.cell (i:=k) (by omega);have r:=R.out k (lrf _);have g:=eP (OC (by rw[o.len];omega) r I.out);have a6:(f:Int)%4294967296=(f:Int):=by omega
     rw[eR (by rw[HX.out];exact lrf _),eR (by rw[HY.out];exact V),<-HV.out]at g;clear I R r
     go_upto_region 14 with(fail)
     have H:=o.set k f;have a3:=W.bnd_set bz (i:=k) (v:=f) (by omega);have a4:=J.setCell (p:=⟨w.heap.size,k,none⟩) (lrf _) (.int .u32 (f:Int));generalize wr.setCell ⟨w.heap.size,k,none⟩ (.int .u32 (f:Int))=w5 at *
     clear o bz J g3 g4
     go_wp2_with fail
     refine(Bl H.sl).mono ?_;rintro e w6 ⟨q,rfl,rfl,hq,ht⟩;go_wp2;go_ret;exact⟨_,q,_,rfl,a4,Cw H.sl H.ty hq ht a3 g.out⟩
theorem A9(x:Int):IntKind.u64.wrap x=x%18446744073709551616:=rfl
theorem RG(hu:u<4294967296)(c:v<4294967296)(b:cy<=1):∃ s a:Nat,s<4294967296/\a<=1/\s+v+cy=u+4294967296*a/\IntKind.u64.wrap (IntKind.u64.wrap ((u:Int)-cy)-v)%4294967296=s/\bits BinOp.and IntKind.u64 (IntKind.u64.wrap (IntKind.u64.wrap ((u:Int)-cy)-v)/4294967296) 1=a:=by
 rw[A9,A9];by_cases h:v+cy<=u
 · have h1:((u:Int)-cy)%18446744073709551616-v=((u-cy-v:Nat):Int):=by omega
   have h2:(((u:Int)-cy)%18446744073709551616-v)%18446744073709551616=((u-cy-v:Nat):Int):=by omega
   rw[h2];refine⟨u-cy-v,0,by omega,by omega,by omega,by omega,?_⟩;rw[show((u-cy-v:Nat):Int)/4294967296=0 by omega];rfl
 · have h2:(((u:Int)-cy)%18446744073709551616-v)%18446744073709551616=((18446744073709551616+u-cy-v:Nat):Int):=by omega
   rw[h2];refine⟨4294967296+u-cy-v,1,by omega,by omega,by omega,by omega,?_⟩;rw[show((18446744073709551616+u-cy-v:Nat):Int)/4294967296=4294967295 by omega];rfl
theorem Uq(hu:u<4294967296)(b:cy<=1):∃ s a:Nat,s<4294967296/\a<=1/\s+0+cy=u+4294967296*a/\IntKind.u64.wrap ((u:Int)-cy)%4294967296=s/\bits BinOp.and IntKind.u64 (IntKind.u64.wrap ((u:Int)-cy)/4294967296) 1=a:=by
 obtain⟨s,a,h1,h2,h3,h4,h5⟩:=RG hu (v:=0) (by omega) b;rw[A9]at h4 h5;have h6:(IntKind.u64.wrap ((u:Int)-cy)-((0:Nat):Int))%18446744073709551616=IntKind.u64.wrap ((u:Int)-cy):=by
  rw[A9];omega
 rw[h6]at h4 h5;exact⟨s,a,h1,h2,h3,h4,h5⟩
theorem I3(R:Mg w a n c x)(T:Mg w b m d y)(bn:n<=100000)(P:y<=x) :
 Calls prog 201 #[.slice a n c,.slice b m d] w (RD w (x-y)):=by
 obtain⟨Y,R,V,-⟩:=R;obtain⟨G,T,X,-⟩:=T;have a1:m<=n:=by
  refine fk fun hc => ?_;have:=W.len_lt (B:=4294967296) (by omega) V.bnd X.nrm (by rw[R.len,T.len];omega);rw[V.val,X.val]at this;omega
 have BX:=V.bnd;have BY:=X.bnd;have VX:=eP V.val;have VY:=eP X.val;have HX:=eP R.len;have HY:=eP T.len;have HL:=eP P;clear V X P
 go_enter func201,ntmps201
 go_upto_region 2 with(at_make;refine CJ (n:=n) rfl rfl underlying105 Br rfl rfl rfl (by omega) (by unfold maxLen;omega) ?_;intro w1 K J)
 go_wp2
 go_loopw[6,7] (fun cv iv wr=>∃ (k t:Nat) (f:List Nat),cv = .int .u64 t/\iv = .int .i64 k/\k<=n/\t<=1/\Ext w wr/\Am .u32 wr w.heap.size 187 w.heap.size n n f/\W.bnd 4294967296 f/\Hid (W.val 4294967296 f+W.val 4294967296 (G.take k)=W.val 4294967296 (Y.take k)+t*4294967296^k)/\Hid (∀ j,k<=j->f.getD j 0=0)) (fun _ iv _=>n-(intOf iv).toNat)
 case atStart=>exact⟨0,0,List.replicate n 0,rfl,rfl,f8 _,by omega,J,Am.of_zeros K,EU (by omega) _,eP (by rw[W.val_zeros];simp[W.val]),eP (fun j _=>Dn _ j)⟩
 case round =>
  clear K J;obtain⟨k,t,f,rfl,rfl,hk,N,I,g,bz,F,Z⟩:=hrel;by_cases E:k<n
  · obtain⟨b1,o1,rfl,L⟩:=(R.ext I).at (j:=k) E;have g1:=L k E;have g3:=g.frozen k;have g4:=g.cell (i:=k) (by omega);have S:=W.bnd_at BX (i:=k) (by rw[HX.out];exact E);have a3:(k:Int)<n:=by omega
    generalize hu:Y.getD k 0=u at *
    clear L;have U:=Z.out k (lrf _);by_cases z:k<m
    · have O:(k:Int)<m:=by omega
      obtain⟨b2,o2,rfl,M⟩:=(T.ext I).at (j:=k) z;have g2:=M k z;have a2:=W.bnd_at BY (i:=k) (by rw[HY.out];exact z);generalize Q:G.getD k 0=v at *
      clear M;obtain⟨s,r,e4,e3,e0,e1,e2⟩:=RG S a2 N;have H:=eP (Ns (B:=4294967296) (l:=f) (p:=k) (D:=v) (A:=u) (s:=s) (c':=r) (by rw[g.len];omega) F.out (by rw[U];omega));have o:Hid (W.val 4294967296 (f.set k s)+W.val 4294967296 (G.take (k+1))=W.val 4294967296 (Y.take (k+1))+r*4294967296^(k+1)):=by
       show _=_;rw[A4,A4,hu,Q,f9 _ u,f9 _ v];exact H.out
      clear H hu Q F e0;go_wp2;go_roundw
      case rel=>exact⟨k+1,r,f.set k s,rfl,by go_num,by omega,e3,I.setCell (lrf _) _,g.set k s,W.bnd_set bz e4,o,eP (F5 Z.out)⟩
      case measure=>simp[intOf];omega
    · have O:¬ (k:Int)<m:=by omega
      have Q:G.getD k 0=0:=by rw[gqq,fi (by rw[HY.out];omega)];rfl
      obtain⟨s,r,e4,e3,e0,e1,e2⟩:=Uq S N;have H:=eP (Ns (B:=4294967296) (l:=f) (p:=k) (D:=0) (A:=u) (s:=s) (c':=r) (by rw[g.len];omega) F.out (by rw[U];omega));have o:Hid (W.val 4294967296 (f.set k s)+W.val 4294967296 (G.take (k+1))=W.val 4294967296 (Y.take (k+1))+r*4294967296^(k+1)):=by
       show _=_;rw[A4,A4,hu,Q,f9 _ u,f9 _ 0];exact H.out
      clear H hu Q F e0;go_wp2;go_roundw
      case rel=>exact⟨k+1,r,f.set k s,rfl,by go_num,by omega,e3,I.setCell (lrf _) _,g.set k s,W.bnd_set bz e4,o,eP (F5 Z.out)⟩
      case measure=>simp[intOf];omega
  · have a0:k=n:=by omega
    subst a0;have C:Hid (W.val 4294967296 f=x-y):=by
     show _=_;have h1:=F.out;rw[eR (l:=G) (by rw[HY.out];exact a1),eR (l:=Y) (by rw[HX.out];exact lrf _),VX.out,VY.out]at h1;have h2:=W.val_lt bz;rw[g.len]at h2;have h3:=HL.out;have h4:t=0:=by
      rcases fj t with h|h
      · exact h
      · exfalso;have:t=1:=by omega
        rw[this,ii]at h1;omega
     rw[h4,ic]at h1;omega
    clear F Z
    go_wp2_with fail
    refine(Bl g.sl).mono ?_;rintro e w6 ⟨q,rfl,rfl,hq,ht⟩;go_wp2;go_ret;exact⟨_,q,_,rfl,I,Cw g.sl g.ty hq ht bz C.out⟩
theorem I4(U:Mg w a n c x)(V:Mg w b m d y)(bn:n<=100000)(bm:m<=100000) :
 Calls prog 156 #[.slice a n c,.slice b m d] w (RD w (x*y)):=by
 have z1:=U.zero;have z2:=V.zero;obtain⟨xs,U,nx,-⟩:=U;obtain⟨H,V,ny,-⟩:=V;by_cases h0:n=0\/m=0
 · have HZ:Hid (x*y=0):=by
    show _=_;rcases h0 with h0|h0
    · rw[z1.1 h0,ic]
    · rw[z2.1 h0,jq]
   have G:((n:Int) == 0)=true\/(((n:Int) == 0)=false/\((m:Int) == 0)=true):=by
    by_cases h1:n=0
    · left;simp[h1]
    · right;exact⟨by simpa using h1,by simp;omega⟩
   clear h0 z1 z2;rcases G with hp|⟨hp,af⟩
   all_goals
    go_enter func156,ntmps156
    go_wp2;go_ret;exact⟨none,0,0,rfl,Ext.refl w,by rw[HZ.out];exact Mg.nil w⟩
 · have a1:((n:Int) == 0)=false:=by simp;omega
   have a2:((m:Int) == 0)=false:=by simp;omega
   have BX:=nx.bnd;have BY:=ny.bnd;have VX:=eP nx.val;have VY:=eP ny.val;have HX:=eP U.len;have HY:=eP V.len;clear h0 z1 z2 nx ny
   go_enter func156,ntmps156
   go_upto_region 4 with(at_make;refine CJ (n:=n+m) rfl rfl underlying105 Br rfl rfl rfl (by omega) (by unfold maxLen;omega) ?_;intro w1 M L)
   clear a1 a2;go_wp2
   go_loopw[6] (fun iv wr=>∃ (i:Nat) (f:List Nat),iv = .int .i64 i/\i<=n/\Ext w wr/\Am .u32 wr w.heap.size 187 w.heap.size (n+m) (n+m) f/\W.bnd 4294967296 f/\Hid (W.val 4294967296 f=W.val 4294967296 (xs.take i)*y)/\Hid (∀ j,i+m<=j->f.getD j 0=0)) (fun iv _=>n-(intOf iv).toNat)
   case atStart=>exact⟨0,List.replicate (n+m) 0,rfl,f8 _,L,Am.of_zeros M,EU (by omega) _,eP (by rw[W.val_zeros];simp[W.val]),eP (fun j _=>Dn _ j)⟩
   case round =>
    clear M L;obtain⟨i,X,rfl,hi,D,r,C,A,I⟩:=hrel;by_cases F:i<n
    · have R:(i:Int)<n:=by omega
      obtain⟨b1,o1,rfl,N⟩:=(U.ext (Ext.refl w)).at (j:=i) F;have gx:=N i F;have a7:=W.bnd_at BX (i:=i) (by rw[HX.out];exact F);have HT:Hid (W.val 4294967296 (xs.take (i+1))=W.val 4294967296 (xs.take i)+4294967296^i*xs.getD i 0):=eP (A4 xs i);generalize xs.getD i 0=u at *
      clear N;go_wp2
      go_loopw[7,8] (fun cv kv wr=>∃ (k p:Nat) (f:List Nat),cv = .int .u64 p/\kv = .int .i64 k/\k<=m/\p<4294967296/\Ext w wr/\Am .u32 wr w.heap.size 187 w.heap.size (n+m) (n+m) f/\W.bnd 4294967296 f/\Hid (W.val 4294967296 f+p*4294967296^(i+k)=W.val 4294967296 (xs.take i)*y+u*W.val 4294967296 (H.take k)*4294967296^i)/\Hid (∀ j,i+m<=j->f.getD j 0=0)) (fun _ kv _=>m-(intOf kv).toNat)
      case atStart=>exact⟨0,0,X,rfl,rfl,f8 _,by omega,D,r,C,eP (by rw[A.out];simp[W.val]),I⟩
      case round =>
       clear D r C A I;obtain⟨k,p,f,rfl,rfl,hk,P,K,z,bz,Y,Z⟩:=hrel;by_cases E:k<m
       · have ab:(k:Int)<m:=by omega
         obtain⟨b2,o2,rfl,O⟩:=(V.ext K).at (j:=k) E;have g1:=K.cell gx;have g2:=O k E;have g3:=z.cell (i:=i+k) (by omega);have g4:=z.frozen (i+k);have a8:=W.bnd_at BY (i:=k) (by rw[HY.out];exact E);have a9:=W.bnd_at bz (i:=i+k) (by rw[z.len];omega);have Q:=UW a7 a8 a9 P;have HS:=eP (Rs (B:=4294967296) (l:=f) (xs:=H) (k:=k) (o:=i) (w:=u) (s:=(u*H.getD k 0+f.getD (i+k) 0+p)%4294967296) (c':=(u*H.getD k 0+f.getD (i+k) 0+p)/4294967296) (by rw[z.len];omega) Y.out (by rw[iQ];omega))
         have a6:IntKind.i64.wrap ((i:Int)+k)=((i+k:Nat):Int):=by rw[<-fI];exact eT _ (by omega)
         obtain⟨t,T⟩:∃ t,u*H.getD k 0+f.getD (i+k) 0+p=t:=⟨_,rfl⟩;rw[T]at HS Q;generalize H.getD k 0=v at *
         generalize f.getD (i+k) 0=o at *
         have a3:t/4294967296<4294967296:=by omega
         have a5:t%4294967296<4294967296:=fN _ (by omega);have J:Hid (IntKind.u64.wrap ((p:Int)+IntKind.u64.wrap (IntKind.u64.wrap ((u:Int)*v)+o))=(t:Int)):=by
          show _=_;rw[<-fH,Ct (by omega),<-fI,Ct (by omega),<-fI,ie,T,Ct (by omega)]
         clear T O;have f1:(t:Int)%4294967296=((t%4294967296:Nat):Int):=by omega
         have f2:(t:Int)/4294967296=((t/4294967296:Nat):Int):=by omega
         have a4:(i:Int)+k<n+m:=by omega
         go_upto_region 11 with(fail)
         go_quiet (fail)
         rw[J.out];have a0:=K.drewN nq;have aa:=z.drewN nq;have ac:(wr.drewN nq).cell? _=_:=g3;have ad:(wr.drewN nq).frozen? _=_:=g4;generalize wr.drewN nq=wq at *
         generalize t%4294967296=s at *
         generalize t/4294967296=c2 at *
         clear J g1 g2 g3 g4 K z Y;go_wp2;go_roundw
         case rel=>exact⟨k+1,c2,f.set (i+k) s,rfl,by go_num,by omega,a3,a0.setCell (lrf _) _,aa.set (i+k) s,W.bnd_set bz a5,HS,eP (fun j hj=>by rw[gqq,ge (by omega),<-gqq];exact Z.out j hj)⟩
         case measure=>simp[intOf];omega
       · have S:k=m:=by omega
         subst S;have g3:=z.cell (i:=i+k) (by omega);have g4:=z.frozen (i+k);have g:=eP (OC (by rw[z.len];omega) (Z.out (i+k) (by omega)) Y.out);have a6:IntKind.i64.wrap ((i:Int)+k)=((i+k:Nat):Int):=by rw[<-fI];exact eT _ (by omega)
         have a4:(i:Int)+k<n+k:=by omega
         have ae:(p:Int)%4294967296=(p:Int):=by omega
         go_wp2;go_roundw
         case rel =>
          refine⟨i+1,f.set (i+k) p,by go_num,by omega,K.setCell (lrf _) _,z.set (i+k) p,W.bnd_set bz P,?_,eP (fun j hj=>by rw[gqq,ge (by omega),<-gqq];exact Z.out j (by omega))⟩;show _=_;rw[g.out,HT.out,eR (l:=H) (by rw[HY.out];exact lrf _),VY.out,gA,f9 (4294967296^i) u,Nat.mul_right_comm]
         case measure=>simp[intOf];omega
    · have R:i=n:=by omega
      subst R;have g:Hid (W.val 4294967296 X=x*y):=by
       show _=_;rw[A.out,eR (by rw[HX.out];exact lrf _),VX.out]
      go_wp2_with fail
      refine(Bl r.sl).mono ?_;rintro e w6 ⟨q,rfl,rfl,hq,T⟩;go_wp2;go_ret;exact⟨_,q,_,rfl,D,Cw r.sl r.ty hq T C g.out⟩
theorem Ur(a:r<4294967296)(hu:u<4294967296):bits BinOp.or IntKind.u64 ((r:Int)*4294967296) (u:Int)=((r*4294967296+u:Nat):Int):=by
 have h:=kN (r*4294967296) u (by omega) (by omega);rw[lD 32 (r*4294967296) u (by omega) (by omega)]at h;rw[<-h,fH];rfl
theorem Fl(v:Mg w a n c x)(bn:n<=100000)(h0:0<dd)(hd:dd<4294967296) :
 Calls prog 199 #[.slice a n c,.int .u32 dd] w fun e M=>∃ L K,e = .returned (.tuple #[.slice (some ⟨w.heap.size,0,none⟩) L K,.int .u32 ((x%dd:Nat):Int)])/\Ext w M/\Mg M (some ⟨w.heap.size,0,none⟩) L K (x/dd):=by
 obtain⟨xs,v,I,-⟩:=v;have N:=I.bnd;have S:=eP I.val;have z:=eP v.len;have O:=eP h0;clear I
 go_enter func199,ntmps199
 go_upto_region 2 with(at_make;refine CJ (n:=n) rfl rfl underlying105 Br rfl rfl rfl (by omega) (by unfold maxLen;omega) ?_;intro w1 l g)
 go_wp2
 go_loopw[7,8] (fun Z H wr=>∃ (k r:Nat) (zs:List Nat),Z = .int .u64 r/\H = .int .i64 ((k:Int)-1)/\k<=n/\r<dd/\Ext w wr/\Am .u32 wr w.heap.size 187 w.heap.size n n zs/\W.bnd 4294967296 zs/\Hid (W.val 4294967296 (xs.drop k)=W.val 4294967296 (zs.drop k)*dd+r)) (fun _ H _=>(intOf H+1).toNat)
 case atStart=>exact⟨n,0,List.replicate n 0,rfl,by go_num,lrf _,h0,g,Am.of_zeros l,EU (by omega) _,eP (by rw[fK (by rw[z.out];exact lrf _),fK (by simp)];simp[W.val])⟩
 case round =>
  clear l g;obtain⟨k,r,zs,rfl,rfl,hk,D,A,f,J,s⟩:=hrel;cases k with
  | zero =>
   have C:W.val 4294967296 zs=x/dd/\r=x%dd:=by
    have h1:=s.out;rw[gm,gm,S.out]at h1;rw[h1];constructor
    · rw[f9,j3 (O.out),gX D,gd]
    · rw[f9,jb,gW D]
   obtain⟨o,b⟩:=C;have Q:=eP o;have R:=eP b;clear o b s;have X:(r:Int)%4294967296=(r:Int):=by omega
   go_wp2_with fail
   refine(Bl f.sl).mono ?_;rintro e w6 ⟨q,rfl,rfl,C,p⟩;go_wp2
   go_ret2
   exact⟨q,_,by rw[R.out];rfl,A,Cw f.sl f.ty C p J Q.out⟩
  | succ k =>
   obtain⟨b1,o1,rfl,m⟩:=(v.ext A).at (j:=k) (by omega);have g1:=m k (by omega);have g3:=f.frozen k;have g4:=f.cell (i:=k) (by omega);have G:=W.bnd_at N (i:=k) (by rw[z.out];omega);have F:((k+1:Nat):Int)-1=k:=by omega
   rw[F];have U:(k:Int)<n:=by omega
   generalize hu:xs.getD k 0=u at *
   clear m;obtain⟨t,p⟩:∃ t,r*4294967296+u=t:=⟨_,rfl⟩;have e1:bits BinOp.or IntKind.u64 ((r:Int)*4294967296) (u:Int)=(t:Int):=by rw[Ur (by omega) G,p]
   have e2:(t:Int).tdiv (dd:Int)=((t/dd:Nat):Int):=by rw[gE (by omega)];rfl
   have e3:(t:Int).tmod (dd:Int)=((t%dd:Nat):Int):=by rw[gP (by omega)];rfl
   have hd0:((dd:Int) == 0)=false:=by simp;omega
   have T:¬ (dd:Int)=0:=by omega
   have E:t%dd<dd:=fN _ h0;have b:t/dd<4294967296:=by
    refine kY ?_;have h1:(r+1)*4294967296<=dd*4294967296:=eS _ D;omega
   have P:=eP (I0 (B:=4294967296) (xs:=xs) (zs:=zs) (k:=k) (q:=t/dd) (r':=t%dd) (d:=dd) (by rw[z.out];omega) (by rw[f.len];omega) s.out (by rw[hu,p,f9];exact(fY t dd).symm));generalize t%dd=Y at *
   generalize t/dd=y at *
   have V:(y:Int)%4294967296=(y:Int):=by omega
   clear p s hu;go_wp2;go_roundw
   case rel=>exact⟨k,Y,zs.set k y,rfl,by go_num,by omega,E,A.setCell (lrf _) _,f.set k y,W.bnd_set J b,P⟩
   case measure=>simp[intOf]
theorem Lk(k:Mg w a n c x)(i:n<=100000)(h0:0<dd)(j:dd<4294967296) :
 Calls prog 199 #[.slice a n c,.int .u32 dd] w fun e g=>∃ f d b,e = .returned (.tuple #[.slice f d b,.int .u32 ((x%dd:Nat):Int)])/\Ext w g/\Mg g f d b (x/dd) :=
 (Fl k i h0 j).mono fun _ _ ⟨d,b,h⟩=>⟨_,d,b,h⟩
theorem Ko(a:s<=32):2^(32-s)*2^s=4294967296:=by rw[<-ig,show 32-s+s=32 by omega]
theorem UY(a:s<=31)(hu:u<4294967296):∃ L V:Nat,u*2^s=V*4294967296+L/\L<4294967296/\V<2^s/\L%2^s=0/\V=u*2^s/4294967296/\L=u*2^s%4294967296/\u*2^s<18446744073709551616:=by
 have hp:=Ko (s:=s) (by omega);have h1:u*2^s<4294967296*2^s:=gK hu (fy s);have h2:2^s<=2^31:=fd (by omega) a;have h3:4294967296*2^s<=4294967296*2^31:=fx _ h2;refine⟨u*2^s%4294967296,u*2^s/4294967296,?_,fN _ (by omega),?_,?_,rfl,rfl,by omega⟩
 · rw[f9 (u*2^s/4294967296)];exact(fY _ _).symm
 · exact kY h1
 · rw[<-hp,Nat.mod_mul_left_mod,kP]
theorem Fm(U:SlN .u32 w a n c xs)(Y:W.bnd 4294967296 xs)(bn:n<=100000)(hs:s<=31) :
 Calls prog 219 #[.slice a n c,.int .u64 s] w fun e X=>∃ b,e = .returned (.slice (some ⟨w.heap.size,0,none⟩) (n+1) (n+1))/\Ext w X/\Am .u32 X w.heap.size 187 w.heap.size (n+1) (n+1) b/\W.bnd 4294967296 b/\W.val 4294967296 b=W.val 4294967296 xs*2^s:=by
 have I:=eP U.len
 go_enter func219,ntmps219
 go_upto_region 2 with(at_make;refine CJ (n:=n+1) rfl rfl underlying105 Br rfl rfl rfl (by omega) (by unfold maxLen;omega) ?_;intro w1 r m)
 go_wp2
 go_loopw[6] (fun R wr=>∃ (k:Nat) (b:List Nat),R = .int .i64 k/\k<=n/\Ext w wr/\Am .u32 wr w.heap.size 187 w.heap.size (n+1) (n+1) b/\W.bnd 4294967296 b/\Hid (W.val 4294967296 b=W.val 4294967296 (xs.take k)*2^s)/\Hid (∀ j,k<j->b.getD j 0=0)/\Hid (b.getD k 0<2^s)) (fun R _=>n-(intOf R).toNat)
 case atStart=>exact⟨0,List.replicate (n+1) 0,rfl,f8 _,m,Am.of_zeros r,EU (by omega) _,eP (by rw[W.val_zeros];simp[W.val]),eP (fun j _=>Dn _ j),eP (by rw[Dn];exact fy s)⟩
 case round =>
  clear r m;obtain⟨k,b,rfl,hk,K,f,J,H,C,S⟩:=hrel;by_cases d:k<n
  · obtain⟨b1,o1,rfl,y⟩:=(U.ext K).at (j:=k) d;have g1:=y k d;have g2:=f.cell (i:=k) (by omega);have g3:=f.frozen k;have g4:=f.frozen (k+1);have g5:=f.cell (i:=k+1) (by omega);rw[C.out (k+1) (by omega)]at g5;have P:=W.bnd_at Y (i:=k) (by rw[I.out];exact d);obtain⟨L,V,g,o,M,A,x,p,q⟩:=UY hs P;have Z:=eP (Mt (B:=4294967296) (l:=b) (xs:=xs) (k:=k) (s:=s) (L:=L) (V:=V) (by rw[f.len];omega) (by rw[I.out];exact d) H.out (C.out _ (by omega)) g);have Q:b.getD k 0<4294967296:=W.bnd_at J (i:=k) (by rw[f.len];omega)
    have F:Hid (∀ v j,k+1<j->((b.set k v).set (k+1) V).getD j 0=0):=by
     show ∀ v j,k+1<j->((b.set k v).set (k+1) V).getD j 0=0;intro v j hj;rw[gqq,ge (by omega),ge (by omega),<-gqq];exact C.out j (by omega)
    have G:Hid (∀ v,((b.set k v).set (k+1) V).getD (k+1) 0<2^s):=by
     show ∀ v,((b.set k v).set (k+1) V).getD (k+1) 0<2^s;intro v;rw[gqq,lS (by rw[gL,f.len];omega)];exact M
    have O:b.getD k 0+L<4294967296:=by
     have h1:=Ko (s:=s) (by omega);have h2:L/2^s*2^s+L%2^s=L:=Nat.div_add_mod' L (2^s);have h3:L/2^s<2^(32-s):=kY (by rw[f9,h1];exact o);have h4:(L/2^s+1)*2^s<=2^(32-s)*2^s:=eS _ h3;rw[gA,ii]at h4;have h5:=S.out;omega
    have e3:bits BinOp.or IntKind.u32 ((b.getD k 0:Nat):Int) (L:Int)=((b.getD k 0+L:Nat):Int):=by
     rw[u32_or_nat _ L Q o,lJ,lD s L (b.getD k 0) A S.out,ie]
    generalize xs.getD k 0=u at *
    obtain⟨t,D⟩:∃ t,u*2^s=t:=⟨_,rfl⟩;have e1:IntKind.u64.wrap ((u:Int)*2^s)=(t:Int):=by
     have:=Ct q;rw[D]at this;rw[<-this,<-D];push_cast;rfl
    rw[D]at g x p q;have e2:(t:Int)%4294967296=(L:Int):=by omega
    have e4:(t:Int)/4294967296=(V:Int):=by omega
    have N:V<4294967296:=by omega
    have a0:(V:Int)%4294967296=(V:Int):=by omega
    generalize b.getD k 0+L=E at *
    generalize b.getD k 0=z at *
    have a1:(k:Int)<n:=by omega
    have T:(k:Int)<(n:Int)+1:=by omega
    clear y g x p D H C;go_wp2;go_roundw
    case rel=>exact⟨k+1,(b.set k E).set (k+1) V,by go_num,by omega,(K.setCell (lrf _) _).setCell (lrf _) _,(f.set k E).set (k+1) V,W.bnd_set (W.bnd_set J O) N,Z,eP (F.out E),eP (G.out E)⟩
    case measure=>simp[intOf];omega
  · have ek:k=n:=by omega
    have hv:W.val 4294967296 b=W.val 4294967296 xs*2^s:=by
     have h1:=H.out;rw[ek,eR (by rw[I.out];exact lrf _)]at h1;exact h1
    go_wp2;go_ret;exact⟨b,rfl,K,f,J,hv⟩
end Go.Proofs.YthdbingomfdeoaaGreatDoor
