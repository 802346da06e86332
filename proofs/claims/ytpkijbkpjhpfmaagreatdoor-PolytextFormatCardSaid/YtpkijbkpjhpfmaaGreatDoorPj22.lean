/- Part Pj22. -/
import Derived.Test.YtpkijbkpjhpfmaaGreatDoorPj21
import Derived.Shelf.SlLaysF0
import Derived.Test.YtpkijbkpjhpfmaaGreatDoorProg
import Derived.Shelf.SlSortCmp.NoneTotal
set_option linter.all false
set_option maxRecDepth 100000
set_option maxHeartbeats 100000000
namespace Go.Proofs.YtpkijbkpjhpfmaaGreatDoor
open Tryz Go Go.RowKit
def kM:=@List.flatMap_cons
def kQ:=@Rat.natCast_eq_zero_iff
def lm:=@List.getElem?_map
def mE:=@List.pairwise_iff_getElem
def mF:=@List.Perm.refl
def mU:=@Rat.natCast_mul
def mV:=@Rat.intCast_mul
def mz:=@List.map_map
def nG:=@Rat.mul_inv_cancel
def nH:=@Rat.mul_assoc
def nV:=@Rat.mul_eq_zero
def nW:=@Rat.intCast_add
def oF:=@List.map_congr_left
def oJ:=@List.pairwise_map
def od:=@Array.extract_eq_self_of_le
variable {m:List (List Int×Value)} {rows:List (List Value)} {seen:List Nat} {base c g it k n r:Nat} {o:Oper} {x y:Operand} {a:Option Addr} {P:Program} {e et kt mt ty vt:TypeId} {w:World}
theorem AY:F5 prog 121 3:=⟨by kernel_rfl,by kernel_rfl,by kernel_rfl⟩
theorem Gh:prog.underlying 127=some (.map 121 94):=by kernel_rfl
theorem EK:Agg prog 121 6:=⟨by kernel_rfl,by kernel_rfl⟩
theorem GO(k:List Int):∀(m:List (List Int×Value)) (i:Nat),Cw k i m=Pl.posK k i m
|[],_=>rfl
|(k',v)::r,i=>by unfold Cw Pl.posK;rw[GO k r (i+1)]
theorem Kl(z:Value)(m:List (List Int×Value))(k:List Int):EF z m k=Pl.getK z m k:=by unfold EF Pl.getK;rw[GO]
theorem RP(m:List (List Int×Value))(k:List Int)(v:Value):MF m k v=Pl.putK m k v:=by unfold MF Pl.putK;rw[GO];cases Pl.posK k 0 m<;>rfl
theorem Be.noU(h:Be w r m):NoU w r:=by intro j i e;simp[World.cell?,h.obj]at e
theorem AN.noU(h:AN w it r n seen):NoU w it:=by intro j i e;unfold AN at h;simp[World.cell?,h]at e
theorem Du.keptU{w i:World}{cs:List Value}{q:Rat}{g:Nat}(h:Du w cs q)(e:NoU w g)(f:w.grownBy i (some g)):Du i cs q:=by obtain⟨s,a,n,c,b,m,d,h3,h4,h5,h6⟩:=h;exact⟨s,a,n,c,b,m,d,h3,h4,h5.keptU e f,h6.keptU e f⟩
theorem Bk.keptU{w a:World}{v:Value}{q:Rat}{g:Nat}(h:Bk w v q)(c:NoU w g)(d:w.grownBy a (some g)):Bk a v q:=by obtain⟨b,h1,h2⟩:=h;exact⟨b,h1,h2.keptU c d⟩
def DO(w:World)(r:Nat)(l:List Pl.Tm):Prop:=∃m,Be w r m/\Pl.RelL (fun v q=>Bk w v q) m l
section
variable {w w':World} {r:Nat} {l:List Pl.Tm}
theorem DO.ext(h:DO w r l)(e:Ext w w'):DO w' r l:=by obtain⟨m,h1,h2⟩:=h;exact⟨m,h1.ext e,h2.mono fun _ _ h=>h.ext e⟩
theorem DO.keptU{g:Nat}(h:DO w r l)(c:NoU w g)(b:w.grownBy w' (some g))(a:r≠g):DO w' r l:=by obtain⟨m,h1,h2⟩:=h;exact⟨m,h1.kept b (by simpa using a),h2.mono fun _ _ h=>h.keptU c b⟩
theorem DO.nodup(h:DO w r l):(l.map (·.1)).Nodup:=by obtain⟨m,h1,h2⟩:=h;rw[<-h2.keys];exact h1.nodup
theorem DO.six(h:DO w r l):∀t∈l,t.1.length=6:=by (obtain⟨m,h1,h2⟩:=h;intro t a;have h3:t.1∈m.map (·.1):=by rw[h2.keys];exact jc a);obtain⟨p,hp,e⟩:=iZ.1 h3;rw[<-e];exact h1.six p hp
theorem DO.lt(h:DO w r l):r<w.heap.size:=by obtain⟨m,h1,_⟩:=h;exact h1.lt
theorem DO.new(h:Be w r []):DO w r []:=⟨[],h,trivial⟩
end
def RQ:Value := .agg #[.bool false,.slice none 0 0,.bool false,.slice none 0 0]
theorem RS(w:World):Bk w RQ 0:=⟨_,rfl,DL w⟩
theorem Om(w:World):(zeroValue 94).run prog w=.ok RQ w:=Tryz.zeroValue94 w
theorem Qj{a:Operand->Value}(d:o.op=.lookup mt x y false)(c:P.underlying mt=some (.map kt vt))(b:F5 P kt et){z:Value}(g:∀w,(zeroValue vt).run P w=.ok z w){r:Nat}{m:List (List Int×Value)}{k:List Int}(e:a x=.map (some r))(f:a y=Bu k)(h:Be w r m)(h6:k.length=6):(execOp a o).run P w=.ok (.value (EF z m k)) w:=by unfold execOp;simp only[d,e,f,io,IV c b (g w) h h6 false,gT,iT];rfl
def Dw(w:World)(base:Nat)(a:Option Addr)(n c:Nat)(l:List Pl.Tm):Prop:=∃rows,A9 w base 123 10 a n c rows/\(∀g,blk a=some g->NoU w g)/\l.length=n/\∀i,i<n->BR w (rows.getD i []) (l.getD i ([],0))
section
variable {w w':World} {base:Nat} {a:Option Addr} {n c:Nat} {l:List Pl.Tm}
theorem Dw.sl(h:Dw w base a n c l):Bi w a n c l:=by obtain⟨b,h1,h2,h3,h4⟩:=h;exact⟨b,h1.slk (by omega),h3,h4⟩
theorem Dw.ext(h:Dw w base a n c l)(e:Ext w w'):Dw w' base a n c l:=by obtain⟨b,h1,h2,h3,h4⟩:=h;exact⟨b,h1.ext e,fun g d=>(h2 g d).ext (h1.lt d).2 e,h3,fun i f=>(h4 i f).ext e⟩
theorem Dw.len(h:Dw w base a n c l):l.length=n:=by obtain⟨b,h1,h2,h3,h4⟩:=h;exact h3
theorem Dw.nil(w:World)(base:Nat):Dw w base none 0 0 []:=⟨[],A9.nil _ _ _ _,(fun g a=>by simp[blk]at a),rfl,fun i b=>absurd b (by omega)⟩
theorem Dw.mono{b:Nat}(h:Dw w base a n c l)(e:b<=base):Dw w b a n c l:=by obtain⟨d,h1,h2⟩:=h;exact⟨d,h1.mono e,h2⟩
end
def Km(w:World)(l:List Pl.Tm)(e:Ending)(w':World):Prop:=∃a n c,e=.returned (.slice a n c)/\Ext w w'/\Dw w' w.heap.size a n c l
def Hb(w:World)(a:Option Addr)(n c:Nat)(ls:List (List Pl.Tm)):Prop:=∃cs,Sl w a n c cs/\ls.length=n/\∀i,i<n->∃a' n' c',cs.getD i undef=.slice a' n' c'/\Bi w a' n' c' (ls.getD i [])
theorem Hb.ext{w b:World}{a:Option Addr}{n c:Nat}{ls:List (List Pl.Tm)}(h:Hb w a n c ls)(e:Ext w b):Hb b a n c ls:=by obtain⟨d,h1,h2,h3⟩:=h;exact⟨d,h1.ext e,h2,fun i f=>let ⟨a',n',c',h4,h5⟩:=h3 i f;⟨a',n',c',h4,h5.ext e⟩⟩
theorem Bi.len{l:List Pl.Tm}(h:Bi w a n c l):l.length=n:=by obtain⟨b,h1,h2,h3⟩:=h;exact h2
theorem Qk{r':Nat}(h:Be w r m)(hi:AN w it r' k seen):r≠it:=by rintro rfl;unfold AN at hi;rw[h.obj]at hi;cases hi
theorem Ef{N:Nat}(h:A9 w base e k (some ⟨g,0,none⟩) n c rows)(hi:AN w it r N seen):g≠it:=by rcases h.2.2 with⟨a,_⟩|⟨i,b,d,a,_,f,_⟩;{simp at a};simp only[gY,gJ,iX,jr,lf]at a;rintro rfl;unfold AN at hi;rw[a.1]at hi;rw[f]at hi;cases hi
theorem Hc(h:A9 w base e k (some ⟨g,0,none⟩) n c rows)(hi:Be w r m):g≠r:=by rcases h.2.2 with⟨a,_⟩|⟨i,b,d,a,_,f,_⟩;{simp at a};simp only[gY,gJ,iX,jr,lf]at a;rintro rfl;have:=hi.obj;rw[a.1]at this;rw[f]at this;cases this
theorem Kn{k:TypeId}(c:P.underlying mt=some (.map k e))(a:Be w r m):(Builtin.len_ #[mt] ty #[.map (some r)]).run P w=.ok (.int .i64 m.length) w:=by (have b:(BN 0 m).toArray.size=m.length:=by simp[Dp]);rw[<-b];simp[Builtin.len_,j9 c,run_getObj_map w r _ _ a.obj,goInt]
def Ko(w:World)(it:Nat):Nat:=match w.heap[it]? with|some (.mapIter _ _ seen _)=>seen.size|_=>0
theorem DP(h:AN w it r n seen):Ko w it=seen.length:=by unfold Ko;unfold AN at h;rw[h];simp
end Go.Proofs.YtpkijbkpjhpfmaaGreatDoor
namespace Go.Proofs.YtpkijbkpjhpfmaaGreatDoor.Pl
variable {z:Int} {d k sa sb:Nat} {q:Rat}
def plE(a b:List Int):List Int:=List.zipWith (·+·) a b
def prodT(a b:List Tm):List Tm:=a.flatMap (fun s=>b.map (fun t=>(plE s.1 t.1,s.2*t.2)))
def zsc(q:Rat)(k:Nat):Int:=q.num*((k/q.den:Nat):Int)
theorem VD(q:Rat):q*(q.den:Rat)=(q.num:Rat):=by (have h:q=(q.num:Rat)/(q.den:Rat):=by rw[<-Rat.mkRat_eq_div,nA]);(have h0:(q.den:Rat)≠0:=by intro h;have:=kQ.1 h;exact q.den_nz this);(conv=>lhs;lhs;rw[h]);rw[Rat.div_mul_cancel h0]
theorem On(h:q.den∣k):((zsc q k:Int):Rat)=q*(k:Rat):=by obtain⟨c,rfl⟩:=h;unfold zsc;rw[lL _ (jF q.den_nz),mV,<-VD,mU];rw[nH];rfl
theorem M1{b d:Type}{f g:b->List d}:∀{a:List b},(∀x∈a,f x=g x)->a.flatMap f=a.flatMap g
|[],_=>rfl
|x::r,h=>by rw[kM,kM,h x (by simp),M1 (fun y c=>h y (by simp[c]))]
def prodZ(sa sb:Nat)(a b:List Tm):List Tm:=a.flatMap (fun s=>b.map (fun t=>(plE s.1 t.1,((zsc s.2 sa*zsc t.2 sb:Int):Rat))))
theorem RT{a b:List Tm}(c:∀t∈a,t.2.den∣sa)(d:∀t∈b,t.2.den∣sb):prodZ sa sb a b=scl ((sa:Rat)*(sb:Rat)) (prodT a b):=by unfold prodZ prodT scl;rw[List.map_flatMap];apply M1;intro s e;rw[mz];apply oF;intro t f;simp only[Function.comp,kj,lf];rw[mV,On (c s e),On (d t f)];grind
theorem mkRat_div(z:Int)(d:Nat):mkRat z d=(z:Rat)*((d:Rat))⁻¹:=by rw[Rat.mkRat_eq_div,Rat.div_def]
theorem Pe(d:Nat):∀(l:List (List Int×Int)) (e:List Int),coef (l.map (fun f=>(f.1,mkRat f.2 d))) e=((d:Rat))⁻¹*coef (l.map (fun f=>(f.1,(f.2:Rat)))) e
|[],e=>by simp[coef]
|f::r,e=>by simp only[jx,coef];rw[Pe d r e,mkRat_div];by_cases h:f.1=e;{simp only[gS h];grind};simp only[gN h];grind
theorem coef_done{a b:List Tm}{l:List (List Int×Int)}(c:∀t∈a,t.2.den∣sa)(d:∀t∈b,t.2.den∣sb)(h1:sa≠0)(h2:sb≠0)(g:∀e,coef (l.map (fun f=>(f.1,(f.2:Rat)))) e=coef (prodZ sa sb a b) e)(e:List Int):coef (l.map (fun f=>(f.1,mkRat f.2 (sa*sb)))) e=coef (prodT a b) e:=by rw[Pe,g,RT c d,MN,mU];have h3:(sa:Rat)≠0:=fun h=>h1 (kQ.1 h);have h4:(sb:Rat)≠0:=fun h=>h2 (kQ.1 h);have h5:(sa:Rat)*(sb:Rat)≠0:=fun h=>(nV.1 h).elim h3 h4;rw[<-nH,Rat.inv_mul_cancel _ h5];grind
theorem coef_mem:∀{l:List Tm} {t:Tm},(l.map (·.1)).Nodup->t∈l->coef l t.1=t.2
|[],_,_,h=>by cases h
|s::r,t,hn,h=>by simp only[jx,kD]at hn;rcases iI.1 h with rfl|h;{simp only[coef,kW,IX hn.1];grind};have hne:s.1≠t.1:=fun e=>hn.1 (by rw[e];exact jc h);simp only[coef,gN hne,coef_mem hn.2 h];grind
theorem coef_int{B:Nat}(e:List Int):∀{l:List Tm},(∀t∈l,∃c:Int,t.2=(c:Rat)/\c.natAbs<=B)->∃z:Int,coef l e=(z:Rat)/\z.natAbs<=l.length*B
|[],_=>⟨0,rfl,by simp⟩
|t::r,h=>by obtain⟨c,h1,h2⟩:=h t (by simp);obtain⟨z,h3,h4⟩:=coef_int e (l:=r) (fun s b=>h s (by simp[b]));by_cases a:t.1=e;{refine⟨c+z,?_,?_⟩;{simp only[coef,gS a,h1,h3,nW]};have:=mJ c z;simp only[ig,jf];omega};refine⟨z,?_,?_⟩;{simp only[coef,gN a,h3];grind};simp only[ig,jf];omega
theorem mkRat_zero(a:d≠0):mkRat z d=0<->z=0:=by rw[mkRat_div];constructor;{intro h;rcases nV.1 h with h|h;{exact Rat.intCast_eq_zero_iff.1 h};exfalso;have h3:(d:Rat)≠0:=fun h=>a (kQ.1 h);have:=nG _ h3;rw[h]at this;grind};intro h;rw[h];grind
end Go.Proofs.YtpkijbkpjhpfmaaGreatDoor.Pl
namespace Go.Proofs.YtpkijbkpjhpfmaaGreatDoor
open Go.Shelf
def Ql:Go.Shelf.Ren:=⟨fun|6=>74|15=>110|14=>109|28=>163|29=>164|20=>155|21=>156|22=>157|23=>158|24=>159|25=>160|26=>161|27=>162|46=>209|47=>210|48=>211|49=>212|50=>213|57=>245|n=>n,fun|22=>84|24=>123|25=>125|3=>3|39=>158|0=>0|53=>153|55=>156|4=>4|46=>202|45=>201|50=>206|5=>5|9=>9|66=>244|70=>248|76=>274|77=>275|n=>n,fun|n=>n⟩
theorem TS:Go.Proofs.SlLaysF0.n6 Tryz.prog Ql:={mixed:=by kernel_rfl,f6:=⟨Tryz.f74.name,by decide,Tryz.func74.trans (gX some (by kernel_rfl))⟩,f14:=⟨Tryz.f109.name,by decide,Tryz.func109.trans (gX some (by kernel_rfl))⟩,f15:=Tryz.func110.trans (gX some (by kernel_rfl)),f20:=⟨Tryz.f155.name,by decide,Tryz.func155.trans (gX some (by kernel_rfl))⟩,f21:=⟨Tryz.f156.name,by decide,Tryz.func156.trans (gX some (by kernel_rfl))⟩,f22:=⟨Tryz.f157.name,by decide,Tryz.func157.trans (gX some (by kernel_rfl))⟩,f23:=⟨Tryz.f158.name,by decide,Tryz.func158.trans (gX some (by kernel_rfl))⟩,f24:=⟨Tryz.f159.name,by decide,Tryz.func159.trans (gX some (by kernel_rfl))⟩,f25:=⟨Tryz.f160.name,by decide,Tryz.func160.trans (gX some (by kernel_rfl))⟩,f26:=⟨Tryz.f161.name,by decide,Tryz.func161.trans (gX some (by kernel_rfl))⟩,f27:=⟨Tryz.f162.name,by decide,Tryz.func162.trans (gX some (by kernel_rfl))⟩,f28:=Tryz.func163.trans (gX some (by kernel_rfl)),f29:=Tryz.func164.trans (gX some (by kernel_rfl)),f46:=⟨Tryz.f209.name,by decide,Tryz.func209.trans (gX some (by kernel_rfl))⟩,f47:=Tryz.func210.trans (gX some (by kernel_rfl)),f48:=Tryz.func211.trans (gX some (by kernel_rfl)),f49:=⟨Tryz.f212.name,by decide,Tryz.func212.trans (gX some (by kernel_rfl))⟩,f50:=⟨Tryz.f213.name,by decide,Tryz.func213.trans (gX some (by kernel_rfl))⟩,f57:=⟨Tryz.f245.name,by decide,Tryz.func245.trans (gX some (by kernel_rfl))⟩,t0:=Tryz.underlying0,a0:=Tryz.isAgg0,z0:=Tryz.sizeOf0,v0:=Tryz.zeroValue0,t3:=Tryz.underlying3,a3:=Tryz.isAgg3,z3:=Tryz.sizeOf3,v3:=Tryz.zeroValue3,t4:=Tryz.underlying4,a4:=Tryz.isAgg4,z4:=Tryz.sizeOf4,v4:=Tryz.zeroValue4,t5:=Tryz.underlying5,a5:=Tryz.isAgg5,z5:=Tryz.sizeOf5,v5:=Tryz.zeroValue5,t9:=Tryz.underlying9,a9:=Tryz.isAgg9,z9:=Tryz.sizeOf9,v9:=Tryz.zeroValue9,t22:=Tryz.underlying84,a22:=Tryz.isAgg84,z22:=Tryz.sizeOf84,v22:=Tryz.zeroValue84,t25:=Tryz.underlying125,a25:=Tryz.isAgg125,z25:=Tryz.sizeOf125,v25:=Tryz.zeroValue125,t39:=Tryz.underlying158,a39:=Tryz.isAgg158,z39:=Tryz.sizeOf158,v39:=Tryz.zeroValue158,t45:=Tryz.underlying201,a45:=Tryz.isAgg201,z45:=Tryz.sizeOf201,v45:=Tryz.zeroValue201,t46:=Tryz.underlying202,a46:=Tryz.isAgg202,z46:=Tryz.sizeOf202,v46:=Tryz.zeroValue202,t50:=Tryz.underlying206,a50:=Tryz.isAgg206,z50:=Tryz.sizeOf206,v50:=Tryz.zeroValue206,t53:=Tryz.underlying153,a53:=Tryz.isAgg153,z53:=Tryz.sizeOf153,v53:=Tryz.zeroValue153,t55:=Tryz.underlying156,a55:=Tryz.isAgg156,z55:=Tryz.sizeOf156,v55:=Tryz.zeroValue156,t66:=Tryz.underlying244,a66:=Tryz.isAgg244,z66:=Tryz.sizeOf244,v66:=Tryz.zeroValue244,t70:=Tryz.underlying248,a70:=Tryz.isAgg248,z70:=Tryz.sizeOf248,v70:=Tryz.zeroValue248,t76:=Tryz.underlying274,a76:=Tryz.isAgg274,z76:=Tryz.sizeOf274,v76:=Tryz.zeroValue274,t77:=Tryz.underlying275,a77:=Tryz.isAgg275,z77:=Tryz.sizeOf275,v77:=Tryz.zeroValue275}
end Go.Proofs.YtpkijbkpjhpfmaaGreatDoor
namespace Go.Proofs.YtpkijbkpjhpfmaaGreatDoor
open Tryz Go Go.RowKit Go.Sort
variable {s s':Bool} {rows:List (List Value)} {e te te':List Int} {base c d g m n:Nat} {a a' b b':Option Addr} {t:TypeId} {w:World}
def EV:Type:={p:List Value×Pl.Tm // (∃s a n c b m d,p.1=As p.2.1 s a n c b m d)/\p.2.1.length=6/\∀x∈p.2.1,0<=x/\x<=1099511627776}
def EV.enc(v:EV):List Value:=v.1.1
def EV.tm(v:EV):Pl.Tm:=v.1.2
instance:Inhabited EV:=⟨⟨(As ze false none 0 0 none 0 0,(ze,0)),⟨false,none,0,0,none,0,0,rfl⟩,rfl,by simp[ze]⟩⟩
theorem EV.len(v:EV):v.enc.length=10:=by obtain⟨⟨r,t⟩,⟨s,a,n,c,b,m,d,h⟩,h6,_⟩:=v;show r.length=10;rw[show r=_ from h,Df,h6]
theorem EV.one(v:EV):∀u∈v.enc,u.oneCell'=true:=by obtain⟨⟨r,t⟩,⟨s,a,n,c,b,m,d,h⟩,h6,_⟩:=v;intro u hu;have:r=As t.1 s a n c b m d:=h;subst this;exact AR u hu
theorem EV.nu(v:EV):∀u∈v.enc,∀i,u≠.int .u64 i:=by obtain⟨⟨r,t⟩,⟨s,a,n,c,b,m,d,h⟩,h6,_⟩:=v;intro u hu;have:r=As t.1 s a n c b m d:=h;subst this;exact Bm u hu
theorem EV.six(v:EV):v.tm.1.length=6:=v.2.2.1
def cfE(x y:EV):Int:=Pl.ordE y.tm.1 x.tm.1
theorem M2{x y:EV}(h:ltOf cfE x y=true):cfE x y<0:=lh h
theorem GP{x y:EV}(h:ltOf cfE x y=false):¬cfE x y<0:=of_decide_eq_false h
theorem VR:SWO (ltOf cfE) where
 irrefl x:=gL (by unfold cfE;rw[Pl.ordE_self];omega)
 trans x y z h1 h2:=by
  have e:=M2 h1;have d:=M2 h2;unfold cfE at e d;have f:=Pl.ordE_anti x.tm.1 y.tm.1;have g:=Pl.ordE_anti y.tm.1 z.tm.1;have i:=Pl.ordE_anti x.tm.1 z.tm.1;have:=Pl.ordE_trans (a:=x.tm.1) (b:=y.tm.1) (c:=z.tm.1) (by omega) (by omega);exact ij (by unfold cfE;omega)
 ntrans x y z h1 h2:=by
  have e:=GP h1;have d:=GP h2;unfold cfE at e d;refine gL ?_;unfold cfE;intro h3;have f:=Pl.ordE_anti x.tm.1 y.tm.1;have g:=Pl.ordE_anti y.tm.1 z.tm.1;have i:=Pl.ordE_anti x.tm.1 z.tm.1;by_cases h:Pl.ordE y.tm.1 x.tm.1=0
  · rw[Pl.ordE_eq (by rw[x.six,y.six]) h]at d;omega
  · have:=Pl.ordE_trans (a:=y.tm.1) (b:=x.tm.1) (c:=z.tm.1) (by omega) (by omega);omega
theorem M3(w:World)(A B:Obj)(n:Nat):((w.alloc A).alloc B).drewN n=grow (w.drewN n) #[A,B]:=by rw[alloc_eq_grow,alloc_eq_grow,grow_grow];rfl
theorem LE(h:Arr w g t (As e s a n c b m d))(h6:e.length=6):SlI w (some ⟨g,0,none⟩) 6 6 e:=by (refine⟨by simpa using h6,lrf _,by unfold maxLen;omega,fun _=>⟨g,0,rfl,fun i f=>?_⟩⟩;rw[iE,h.cell (by rw[Df];omega)];have h1:(As e s a n c b m d).getD i undef=(e.map (Value.int .i64)).getD i undef:=by unfold As;rw[gqq,iy (by simp;omega),<-gqq]);rw[h1]
theorem Oo{o c' l f:Nat}(h6:te.length=6)(I:te'.length=6)(M:∀x∈te,0<=x/\x<=1099511627776)(g:∀x∈te',0<=x/\x<=1099511627776):Calls prog 75 #[.agg (As te s a n c b m d).toArray,.agg (As te' s' a' o c' b' l f).toArray] w fun e R=>e=.returned (.int .i64 (Pl.ordE te' te))/\∃q Q,R=grow (w.drewN q) Q:=by have K:=fun(O:World) (h1:SlI O (some ⟨w.heap.size+1,0,none⟩) 6 6 te') (h2:SlI O (some ⟨w.heap.size,0,none⟩) 6 6 te)=>qh (Je h1 h2 (by omega) (fun z J=>by have:=g z J;omega) (fun z J=>by have:=M z J;omega));obtain⟨V,L⟩:∃V,Pl.ordE te' te=V:=⟨_,rfl⟩;rw[L]at K|-;clear M g L;obtain⟨p,r,t,v,y,A,P⟩:=Cd h6;obtain⟨B,C,D,E,F,G,H⟩:=Cd I;subst P;subst H;have N:(As [p,r,t,v,y,A] s a n c b m d).toArray=#[.int .i64 p,.int .i64 r,.int .i64 t,.int .i64 v,.int .i64 y,.int .i64 A,.bool s,.slice a n c,.bool false,.slice b m d]:=rfl;have i:(As [B,C,D,E,F,G] s' a' o c' b' l f).toArray=#[.int .i64 B,.int .i64 C,.int .i64 D,.int .i64 E,.int .i64 F,.int .i64 G,.bool s',.slice a' o c',.bool false,.slice b' l f]:=rfl;have hA0:=F3 w (As [p,r,t,v,y,A] s a n c b m d) (As [B,C,D,E,F,G] s' a' o c' b' l f) 123 123;have hA1:=F4 w (As [p,r,t,v,y,A] s a n c b m d) (As [B,C,D,E,F,G] s' a' o c' b' l f) 123 123;have j:=LE hA0 rfl;have k:=LE hA1 rfl;rw[N,i]at j k;rw[N,i];clear hA0 hA1;go_enter func75,ntmps75;go_wp2;go_quiet (exact kL (K _ (k.ext ((Ext.refl _).drewN _)) (j.ext ((Ext.refl _).drewN _))).out);go_wp2;go_ret;exact⟨rfl,nq,_,M3 _ _ _ _⟩
theorem Qm(x y:EV)(w:World):Calls prog 75 #[.agg x.enc.toArray,.agg y.enc.toArray] w fun e G=>e=.returned (.int .i64 (cfE x y))/\∃q C,G=grow (w.drewN q) C:=by obtain⟨⟨r,t⟩,⟨s,a,n,c,b,m,d,h⟩,h6,z⟩:=x;obtain⟨⟨D,F⟩,⟨E,i,B,k,j,A,l,v⟩,f,g⟩:=y;have o:r=As t.1 s a n c b m d:=h;have p:D=As F.1 E i B k j A l:=v;subst o;subst p;exact Oo h6 f z g
theorem Eg(d:Array EV):(flatK EV.enc 10 d).toList=(d.toList.map EV.enc).flatten:=by (have e:∀r∈d.toList.map EV.enc,r.length=10:=by intro r g;obtain⟨v,_,rfl⟩:=iZ.1 g;exact v.len);refine kN fun j=>?_;by_cases f:j<d.size*10;{(have b:j=j/10*10+j%10:=by omega);(have a:j/10<d.size:=by omega);have h3:=DK (d.toList.map EV.enc) e (j/10) (j%10) (by omega);rw[<-b]at h3;rw[h3];have c:d[j/10].enc.length=10:=EV.len _;simp[flatK,f,a];rw[gG (by rw[c];omega)];rfl};(have h1:(flatK EV.enc 10 d).toList.length<=j:=by simp;omega);(have h2:(d.toList.map EV.enc).flatten.length<=j:=by rw[CT _ e];simp;omega);rw[iC h1,iC h2]
theorem M4(w:World)(g m:Nat)(dk:Array EV)(os:Array Obj):w.grownBy (sortWorldK EV.enc 10 w g 0 m dk os) (some g):=by (refine⟨rfl,rfl,rfl,by unfold sortWorldK putRowK;simp,fun k b a=>?_⟩;unfold sortWorldK putRowK;rw[heap_grow_old _ _ (by simpa using b)];have:g≠k:=by rintro rfl;exact a rfl);simp[putRow,mapBlock,jY,this]
theorem Qn{e:TypeId}{dk:Array EV}(os:Array Obj)(h:A9 w base e 10 (some ⟨g,0,none⟩) n c rows)(z:dk.size=n)(x:NoU w g):A9 (sortWorldK EV.enc 10 w g 0 m dk os) base e 10 (some ⟨g,0,none⟩) n c (dk.toList.map EV.enc)/\NoU (sortWorldK EV.enc 10 w g 0 m dk os) g:=by rcases h.2.2 with⟨o,_⟩|⟨B,t,a,o,y,p,h1,h2,h3,h4⟩;{simp at o};(simp only[gY,gJ,iX,jr,lf]at o;obtain⟨rfl,rfl⟩:=o;have q:g<w.heap.size:=by rcases ir g w.heap.size with h|h;{exact h};simp[j5 h]at p);(have d:(flatK EV.enc 10 dk).size=n*10:=by rw[size_flatK,z]);(have f:(sortWorldK EV.enc 10 w g 0 m dk os).heap[g]?=some (.cells (putCells id 0 (flatK EV.enc 10 dk) a) e (0,0)):=by unfold sortWorldK putRowK;rw[heap_grow_old _ _ (by simpa using q)];simp[putRow,mapBlock,jY,p,onCells]);(have k:∀j,(putCells id 0 (flatK EV.enc 10 dk) a)[j]?=if j<a.size then(if j<n*10 then(flatK EV.enc 10 dk)[j]? else a[j]?)else none:=by intro j;unfold putCells;rw[Array.getElem?_mapIdx];by_cases l:j<a.size;{rw[gS l,jW l];simp only[jO,gW,lf,iE,d,id,lX];by_cases b:j<n*10;{rw[gS b,gS b,jW (by rw[d];exact b)];simp[d,b]};rw[gN b,gN b]};rw[gN l,j5 (by omega)];rfl);(have A:n*10<=a.size:=by rw[h3];exact gH 10 h1);refine⟨⟨?_,?_,Or.inr ⟨g,c,putCells id 0 (flatK EV.enc 10 dk) a,rfl,y,f,h1,h2,by simp[putCells,h3],?_⟩⟩,?_⟩;{intro r s;obtain⟨v,_,rfl⟩:=iZ.1 s;exact v.len};{rw[<-Eg];simp[d]};{rw[<-Eg];refine kN fun j=>?_;rw[List.getElem?_take];by_cases l:j<n*10;{rw[gS l];have:=k j;rw[gS (by omega),gS l]at this;simpa using this};rw[gN l,iC (by simp[d];omega)]};intro j i he;rw[nB _ g _ _ e (0,0) f,k j]at he;split at he;{split at he;{(have h5:(flatK EV.enc 10 dk).toList[j]?=some (.int .u64 i):=by simpa using he);rw[Eg]at h5;obtain⟨r,s,hu⟩:=lF.1 (iO h5);obtain⟨v,_,rfl⟩:=iZ.1 s;exact v.nu _ hu i rfl};refine x j i ?_;rw[nB w g _ a e (0,0) p];exact he};cases he
def BJ(l:List Pl.Tm):Prop:=∀t∈l,t.1.length=6/\∀x∈t.1,0<=x/\x<=1099511627776
theorem Gi{l:List Pl.Tm}(O:Dw w base a n c l)(hb:BJ l)(hn:n<=1000000):Calls prog 74 #[.slice a n c,.func (.func 75) #[] #[]] w fun e N=>e=.returned (.tuple #[])/\∃Z,Z.Perm l/\Pl.desc Z/\Dw N base a n c Z/\w.grownBy N (blk a):=by rcases gV n with h0|h0;{subst h0;refine(AnyF.slices_SortFunc_none TS a c _ w).mono ?_;rintro e N ⟨rfl,rfl⟩;refine⟨rfl,l,mF _,?_,O,nF _ _⟩;have:l=[]:=gO O.len;subst this;exact List.Pairwise.nil};(obtain⟨p,h1,h2,h3,h4⟩:=O;obtain⟨g,rfl,a3,S⟩:=h1.place h0;have hU:=h2 g rfl;have J:=h1.slk (by omega);have Q:∀i,∃v:EV,i<n->v.enc=p.getD i []/\v.tm=l.getD i ([],0):=by intro i;by_cases z:i<n;{obtain⟨s,a,n',c',b,m,d,F,e2,e3⟩:=h4 i z;have hm:=hb (l.getD i ([],0)) (by simp[show i<l.length by omega]);exact⟨⟨(p.getD i [],l.getD i ([],0)),⟨s,a,n',c',b,m,d,F⟩,hm.1,hm.2⟩,fun _=>⟨rfl,rfl⟩⟩};exact⟨default,fun h=>absurd h z⟩);obtain⟨f,K⟩:=Classical.axiomOfChoice Q;let d:Array EV:=((List.range n).map f).toArray;(have A:d.size=n:=by simp[d]);(have P:∀i,i<n->d[i]! = f i:=fun i z=>by simp[d,z]);(have hH:HoldsK EV.enc 10 w g 0 d:=by (intro j L;rw[size_flatK,A]at L;rw[iE,get_flatK _ _ _ _ (by rw[A];exact L)];obtain⟨b',a4,F,hc⟩:=J.rd h0;simp only[gJ,iX,jr]at F;obtain⟨rfl,rfl⟩:=F;have B:j/10<n:=by omega);(have G:=hc (j/10) B (j%10) (by omega);have V:0+j/10*10+j%10=j:=by omega);rw[V]at G;refine⟨?_,?_⟩;{(rw[G,P _ B,(K _ B).1];have W:=J.row B;have h9:j%10<(p.getD (j/10) []).length:=by rw[W];omega);simp only[id,gJ];rw[gqq,gG h9,getElem!_pos (p.getD (j/10) []) (j%10) h9];rfl};rcases h1.2.2 with⟨M,_⟩|⟨g1,a0,a1,M,a2,hh,_⟩;{simp at M};simp only[gY,gJ,iX,jr,lf]at M;rw[M.1];simp[World.frozen?,hh]);(have eg:∀C w,(callFunc 75 C).run prog w=.ok (.enter 75 C) w:=enters_of func75 (by kernel_rfl) rfl;have H:CmpLays prog 75 #[] EV.enc 10 cfE g 0 d.size w:=fun m os dk _ x y=>Qm x y _;have h:=AnyQ.slices_SortFunc TS 10 (fun w=>Tryz.isAgg123 w) (fun w=>Tryz.sizeOf123 w) EV.enc EV.len EV.one cfE VR 75 #[] g 0 c d w eg H hH S (by omega);rw[A]at h;refine h.mono ?_;rintro e N ⟨rfl,o,q,os,hp,X,rfl⟩;obtain⟨p1,_,p3⟩:=hp;have D:o.size=n:=by rw[p1,A]);(have t:o.toList.Perm d.toList:=by rw[od (by omega),od (by omega)]at p3;exact p3);(have I:=M4 w g q o os;obtain⟨o1,o2⟩:=Qn (m:=q) (dk:=o) os h1 D hU;have Y:d.toList.map EV.tm=l:=by apply nR;{simp[d,h3]};(intro i i1 i2;have z:i<n:=by omega);simp only[d,mz,List.getElem_map,List.getElem_range,Function.comp];rw[(K i z).2];simp[i2]);refine⟨rfl,o.toList.map EV.tm,?_,?_,⟨o.toList.map EV.enc,o1,fun g' R=>?_,by simp[D],fun i z=>?_⟩,I⟩;{rw[<-Y];exact t.map _};{(unfold Pl.desc;rw[oJ];rw[mE];intro i j z L T;have r:i<o.size:=by simpa using z);(have U:j<o.size:=by simpa using L);have h5:=GP (X i j (gW _) T (by omega));unfold cfE at h5;rw[getElem!_pos o i r,getElem!_pos o j U]at h5;have h6:=Pl.ordE_anti o[i].tm.1 o[j].tm.1;simp only[Array.getElem_toList];omega};{(have:g=g':=by simpa[blk]using R);subst this;exact o2};(have r:i<o.toList.length:=by simpa[D]using z);(obtain⟨k,hk,e⟩:=kh.1 (t.mem_iff.1 (j6 r));have E:k<n:=by simpa[d]using hk);(have F:o.toList[i]=f k:=by rw[<-e];simp[d]);(have h7:=h4 k E;rw[<-(K k E).1,<-(K k E).2,<-F]at h7;have e2:(o.toList.map EV.enc).getD i []=o.toList[i].enc:=by rw[gqq,lm,gG r];rfl);(have e3:(o.toList.map EV.tm).getD i ([],0)=o.toList[i].tm:=by rw[gqq,lm,gG r];rfl);rw[e2,e3];exact h7.keptU hU I
end Go.Proofs.YtpkijbkpjhpfmaaGreatDoor
