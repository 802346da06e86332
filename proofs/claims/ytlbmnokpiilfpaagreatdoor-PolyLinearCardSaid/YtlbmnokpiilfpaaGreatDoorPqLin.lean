/- Part PqLin. -/
import Derived.Test.YtlbmnokpiilfpaaGreatDoorPqRcb

set_option linter.all false
set_option maxRecDepth 100000
set_option maxHeartbeats 100000000
namespace Go.Proofs.YtlbmnokpiilfpaaGreatDoor
open Tryz Go Go.RowKit
variable {va:Int} {N:Nat} {q:Rat} {w w':World}
noncomputable def sclB (va:Int) (oq:Option Rat) (oa:Option (List Pl.Tm)):Int×List Tx×Int:=match oq,oa with | some q,some l=>resQ va (BO q l) | _,_=>(0,[],1)
theorem Qw.b{oq:Option Rat}{ol:Option (List Pl.Tm)}{e:Ending}(h:Qw w va oq ol e w'):Cd w (sclB va oq ol) e w':=by
 rcases h with⟨q,l,rfl,rfl,h⟩|⟨a,h⟩
 · exact h
 · cases oq <;> cases ol <;> simp at a <;> exact h
theorem K9(q:Rat)(l:List Pl.Tm)(e:List Int):Pl.coef (BO q l) e=Pl.coef (Pl.scl q l) e:=by rw[S0,Pl.coef_scl]
theorem UY(va vb:Int)(oa ob:Option (List Pl.Tm)):cmbA va vb oa (some 1) ob=addA va vb oa ob:=by
 cases oa <;> cases ob <;> try rfl
 rename_i a b;unfold cmbA addA;simp only;split
 · exact Fr fun e=>by rw[Pl.coef_app,Pl.coef_app,Pl.coef_scl,oV]
 · rfl
theorem UZ(va vb:Int)(oa ob:Option (List Pl.Tm)):cmbA va vb oa (some (-1)) ob=addA va vb oa (ob.map (BO (-1))):=by
 cases oa <;> cases ob <;> try rfl
 rename_i a b;unfold cmbA addA;simp only[jJ];split
 · exact Fr fun e=>by rw[Pl.coef_app,Pl.coef_app,K9]
 · rfl
theorem Pm{oq:Option Rat}{oa:Option (List Pl.Tm)}(h:oa.isSome=true):cmbA va va (some []) oq oa=sclB va oq oa:=by
 obtain⟨l,rfl⟩:=iY.1 h;cases oq with
 | none=>rfl
 | some q =>
  show(if va=va then resQ va ([] ++ Pl.scl q l)else((0:Int),([]:List Tx),(4:Int)))=resQ va (BO q l);rw[gY rfl];exact Fr fun e=>by rw[jo,K9]
theorem S9(va:Int)(q:Rat)(oa:Option (List Pl.Tm)):sclB va (some q) oa=sclA va q oa:=by cases oa <;> rfl
theorem U0{oq:Option Rat}{oa:Option (List Pl.Tm)}(h:oa.isSome=false):sclB va oq oa=(0,[],1):=by
 cases oa with
 | some l=>cases h
 | none=>cases oq <;> rfl
theorem U1{a:List Tx}{l:List Pl.Tm}(h:rdP va a=some l):rdP va []=some []:=Wj (AW h).1
theorem XM:AD (An ⟨#[49]⟩)=some 1:=by
 have h:=Cx 1;rw[Aw.txt_one]at h;exact h
theorem WM:AD (An ⟨#[45,49]⟩)=some (-1):=by
 have h:=Cx (-1);rw[Qx]at h;exact h
theorem Pn{p:List Pl.Tm}{b:Nat}(a:1<=b)(f:∀ t∈p,Pl.RB b t.2)(he:∀ t∈p,t.1.length=6/\∀ x∈t.1,0<=x/\x<=1048576)(c:p.length*(b+1)+1<=1920):Cj p:=by
 have d:p.length<=p.length*(b+1):=Nat.le_mul_of_pos_right _ (by omega);refine⟨fun e h => ?_,by omega⟩;refine⟨RB.str (Pl.RB.coef a e f) c,?_⟩;obtain⟨t,g,rfl⟩:=Pl.coef_present h;obtain⟨h1,h2⟩:=he t g;exact⟨h1,fun x i=>by have:=h2 x i;omega⟩
theorem RN{p:List Pl.Tm}{b:Nat}(a:1<=b)(c:∀ t∈p,Pl.RB b t.2)(he:∀ t∈p,t.1.length=6/\∀ x∈t.1,0<=x/\x<=1048576)(d:p.length*(b+1)+1<=1920):EH p :=
 OI a c (by omega) (Pn a c he d)
theorem Po{l:List Pl.Tm}{t:Pl.Tm}(h:t∈BO q l):∃ s∈l,t=(s.1,s.2*q):=by
 unfold BO at h;split at h
 · cases h
 · obtain⟨s,a,rfl⟩:=ie.1 h;exact⟨s,a,rfl⟩
theorem RO(q:Rat)(l:List Pl.Tm):(BO q l).length<=l.length:=by
 unfold BO;split
 · exact gO _
 · rw[iM];exact lrf _
section
variable {va vb:Int} {a b:Option Addr} {n c m d:Nat} {ta tb:List Tx} {s:ByteArray} {w:World} {v err:Int} {t:List Tx} {la lb:List Pl.Tm} {q:Rat}
theorem NA(h:rdP va ta=some la)(a:Av ta 8 12):∀ t∈la,Pl.RB 48 t.2:=Eu h (k:=12) (fun t b=>(a.2 t b).1)
theorem Hw(h:rdP va ta=some la)(a:Av ta 8 12):la.length<=8:=by rw[BH h];exact a.1
theorem NB{b:Nat}{p:List Pl.Tm}(h:p.length<=N)(a:N*(b+1)+1<=1920):p.length*(b+1)+1<=1920:=by
 have:=gH (b+1) h;omega
theorem U2(h:rdP va ta=some la)(b:Av ta 8 12)(a:Pl.RB 48 q):∀ t∈BO q la,Pl.RB 96 t.2:=fun t c=>by
 obtain⟨s,h1,rfl⟩:=Po c;exact Pl.RB.mul (NA h b s h1) a
theorem Pp(h:rdP va ta=some la):∀ t∈BO q la,t.1.length=6/\∀ x∈t.1,0<=x/\x<=1048576:=fun t a=>by
 obtain⟨s,h1,rfl⟩:=Po a;exact A5 h s h1
theorem XN(a:rdP va ta=some la)(c:rdP vb tb=some lb)(sa:Av ta 8 12)(sb:Av tb 8 12):EH (la ++ lb) :=
 RN (b:=48) (by omega) (fun t d=>(iw.1 d).elim (NA a sa t) (NA c sb t)) (fun t d=>(iw.1 d).elim (A5 a t) (A5 c t))
  (NB (N:=16) (by have:=Hw a sa;have:=Hw c sb;rw[iD];omega) (by omega))
theorem QE:Pl.RB 48 (-1):=⟨Cu (by omega),Cu (by omega)⟩
theorem Y4:Pl.RB 48 1:=⟨Cu (by omega),Cu (by omega)⟩
theorem XO(a:rdP va ta=some la)(c:rdP vb tb=some lb)(sa:Av ta 8 12)(sb:Av tb 8 12):EH (la ++ BO (-1) lb) :=
 RN (b:=96) (by omega) (fun t d=>(iw.1 d).elim (fun h=>(NA a sa t h).mono (by omega)) (U2 c sb QE t)) (fun t d=>(iw.1 d).elim (A5 a t) (Pp c t))
  (NB (N:=16) (by have:=Hw a sa;have:=Hw c sb;have:=RO (-1) lb;rw[iD];omega) (by omega))
theorem QF(a:rdP va ta=some la)(sa:Av ta 8 12)(c:Pl.RB 48 q):Cj (BO q la) :=
 Pn (b:=96) (by omega) (U2 a sa c) (Pp a) (NB (N:=8) (by have:=Hw a sa;have:=RO q la;omega) (by omega))
theorem XP(c:rdR va ta=some la)(d:rdR vb tb=some lb)(sa:Av ta 8 12)(sb:Av tb 8 12)(e:Pl.RB 48 q):Pl.RB 1000000 q/\(∀ t∈lb,Pl.RB 1000000 t.2)/\Pl.SubOK (la ++ Pl.scl q lb):=by
 have h1:=Et c (k:=12) (fun t a=>(sa.2 t a).1);have h2:=Et d (k:=12) (fun t a=>(sb.2 t a).1);have g:la.length<=8:=by rw[(AU c).1,iM];exact sa.1
 have i:lb.length<=8:=by rw[(AU d).1,iM];exact sb.1
 refine⟨e.mono (by omega),fun t a=>(h2 t a).mono (by omega),Pl.SubOK.of_rb (b:=96) (by omega) (fun t a => ?_) (by rw[iD,show(Pl.scl q lb).length=lb.length from iM _];omega)⟩;rcases iw.1 a with h|h
 · exact(h1 t h).mono (by omega)
 · obtain⟨s,f,rfl⟩:=ie.1 h;exact Pl.RB.mul e (h2 s f)
theorem Ta(j:addA va vb (rdP va ta) ((rdP vb tb).map (BO (-1)))=(v,t,err))(f:AM w)(g:AH w a n c ta)(i:AH w b m d tb)(sa:Av ta 8 12)(sb:Av tb 8 12) :
 Calls prog 53 #[.agg #[.int .i64 va,.slice a n c],.agg #[.int .i64 vb,.slice b m d]] w (Jc w v t err) :=
 (UP f g i (Bz sa (by omega)) (Bz sb (by omega)) (fun _ _ h1 h2 _=>XO h1 h2 sa sb)).mono fun e k h=>by
  have h:=h.a;rw[j]at h;exact Cl.v h
theorem B0(j:cmbA va vb (rdP va ta) (AD (An s)) (rdP vb tb)=(v,t,err))(g:AH w a n c ta)(i:AH w b m d tb)(sa:Av ta 8 12)(sb:Av tb 8 12)(l:s.size<=12) :
 Calls prog 52 #[.agg #[.int .i64 va,.slice a n c],.string s,.agg #[.int .i64 vb,.slice b m d]] w (Jc w v t err) :=
 (LC g i (fun t f=>gJ (sa.2 t f).1 (by omega)) (fun t f=>gJ (sb.2 t f).1 (by omega)) (by omega) (fun _ _ q h1 h2 h3 _=>XP h1 h2 sa sb (by
  have h4:=Cp h3
  exact Ko (k:=12) (by rw[<-h4,Ay];exact l)))).mono fun e o h=>by
  rw[j]at h;exact Cl.v h
theorem I0(g:sclB va (AD (An s)) (rdP va ta)=(v,t,err))(d:AM w)(f:AH w a n c ta)(sa:Av ta 8 12)(i:s.size<=12) :
 Calls prog 55 #[.string s,.agg #[.int .i64 va,.slice a n c]] w (Jc w v t err) :=
 (K6 d f (by omega) (Bz sa (by omega)) (fun q l h1 h2=>QF h2 sa (by
  have h4:=Cp h1
  exact Ko (k:=12) (by rw[<-h4,Ay];exact i)))).mono fun e j h=>by
  have h:=h.b;rw[g]at h;exact Cl.v h
end
end Go.Proofs.YtlbmnokpiilfpaaGreatDoor
