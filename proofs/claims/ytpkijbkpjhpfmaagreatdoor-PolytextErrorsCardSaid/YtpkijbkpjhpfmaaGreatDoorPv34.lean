/- Part Pv34. -/
import Derived.Test.YtpkijbkpjhpfmaaGreatDoorPv32
import Derived.Shelf.Strconv.Itoa3
import Derived.Test.YtpkijbkpjhpfmaaGreatDoorProg
set_option linter.all false
set_option maxRecDepth 100000
set_option maxHeartbeats 100000000
namespace Go.Proofs.YtpkijbkpjhpfmaaGreatDoor
open Go Go.RowKit
variable {e:Int} {xs:List Int} {g l r r' s x:List UInt8} {b i k:Nat} {a:Option Addr} {w:World}
namespace Pt
theorem NL{p:UInt8->Bool}{d:List UInt8}(a:∀c∈d,p c=true)(b:∀c r,s=c::r->p c=false):(d++s).takeWhile p=d:=by induction d with|nil=>{cases s with|nil=>{rfl}|cons c r=>simp[b c r rfl]}|cons c d ih=>simp only[j7,List.takeWhile_cons,a c (by simp),kW];rw[ih fun x e=>a x (by simp[e])]
theorem PG(c:UInt8)(r:List UInt8):frac (c::r)=if c.toNat=46/\0<dlen r then 1+dlen r else 0:=rfl
theorem KQ(c:UInt8)(r:List UInt8):kl (c::r)=if isD c then(110,dlen (c::r)+frac ((c::r).drop (dlen (c::r))))else if isL c then(119,wlen (c::r))else if isP c then(c.toNat,1)else(63,0):=rfl
structure T3(r:List UInt8)(k:Nat)(d s:List UInt8):Prop where
 kd:kd r=k
 tk:tk r=d
 nx:nx r=s
theorem T3.of{d:List UInt8}(h:skp r=l)(h1:l=d++s)(h2:kl l=(k,d.length)):T3 r k d s:=by refine⟨by unfold Pt.kd;rw[h,h2],by unfold Pt.tk;rw[h,h2,h1];simp,by unfold Pt.nx;rw[h,h2,h1];simp⟩
theorem T3.sp{c:UInt8}{d:List UInt8}(a:isSp c=true)(h:T3 r k d s):T3 (c::r) k d s:=by (have e:skp (c::r)=skp r:=by unfold skp;rw[List.dropWhile_cons,gS a]);exact⟨by unfold Pt.kd;rw[e];exact h.kd,by unfold Pt.tk;rw[e];exact h.tk,by unfold Pt.nx;rw[e];exact h.nx⟩
theorem T3.nil:T3 [] 0 [] []:=⟨rfl,rfl,rfl⟩
theorem NM{c:UInt8}(h:isSp c=false):skp (c::r)=c::r:=by unfold skp;rw[List.dropWhile_cons,gN (by simp[h])]
theorem Uh{c:UInt8}(h:isD c=true):isSp c=false:=by simp[isD,isSp]at *; omega
theorem Ui{c:UInt8}(h:isL c=true):isSp c=false/\isD c=false/\isW c=true:=by simp[isL,isSp,isD,isW]at *; omega
theorem Uj{c:UInt8}(h:isP c=true):isSp c=false/\isD c=false/\isL c=false:=by simp[isP,isSp,isD,isL]at *; omega
def JC(s:List UInt8):Prop:=∀c r,s=c::r->isW c=false/\c.toNat≠46
theorem JC.d(h:JC s):∀c r,s=c::r->isD c=false:=fun c r e=>by have:=(h c r e).1;simp[isW]at this;simp[this.1.2]
theorem PH(h:JC s):frac s=0:=by cases s with|nil=>{rfl}|cons c r=>rw[PG,gN fun a=>(h c r rfl).2 a.1]
theorem T3.num{d:List UInt8}(h0:d≠[])(b:∀c∈d,isD c=true)(f:JC s):T3 (d++s) 110 d s:=by (obtain⟨c,r,rfl⟩:=j3 h0;have a:=b c (by simp);have e:dlen ((c::r)++s)=(c::r).length:=by unfold dlen;rw[NL b f.d]);(refine T3.of (l:=(c::r)++s) (NM (Uh a)) rfl ?_;rw[j7]at e|-;rw[KQ,gS a,e];have:(c::(r++s)).drop (c::r).length=s:=by simp);rw[this,PH f];rfl
theorem T3.name{d:List UInt8}(b:vName d=true)(i:JC s):T3 (d++s) 119 d s:=by (simp only[vName,iA,iD]at b;obtain⟨⟨⟨h0,h1⟩,h2⟩,h3⟩:=b;obtain⟨c,r,rfl⟩:=j3 h0;have a:=Ui h2;have g:∀x∈c::r,isW x=true:=by have hp:(c::r).takeWhile isW <+: c::r:=List.takeWhile_prefix _;have:(c::r).takeWhile isW=c::r:=hp.eq_of_length h3;intro x f;rw[<-this]at f;exact jp.1 List.all_takeWhile x f);(have e:wlen ((c::r)++s)=(c::r).length:=by unfold wlen;rw[NL g fun c r e=>(i c r e).1]);refine T3.of (l:=(c::r)++s) (NM a.1) rfl ?_;rw[j7]at e|-;rw[KQ,gN (by simp[a.2.1]),gS h2,e]
theorem T3.pun{c:UInt8}(a:isP c=true):T3 (c::s) c.toNat [c] s:=by have h:=Uj a;refine T3.of (l:=[c]++s) (NM h.1) rfl ?_;show kl (c::s)=_;rw[KQ,gN (by simp[h.2.1]),gN (by simp[h.2.2]),gS a];rfl
theorem Ev{c:UInt8}(a:isP c=true\/isSp c=true):JC (c::s):=by intro x r e;cases e;rcases a with a|a<;>simp[isP,isSp,isW,isL,isD]at *<;>omega
end Pt
namespace Pt
structure Mon(n:Nat)(E:List Int)(c:Rat):Prop where
 vars:n<=6
 inv:InV n E
 sum:E.sum<=24
 nz:c≠0
 rb:Pl.RB 60 c
variable {n:Nat} {E F:List Int} {c d:Rat}
theorem NO(h6:E.length=6)(a:c≠0):Pl.Canon 6 [(E,c)]:=⟨by simp[h6],by simp[a],by simp⟩
theorem Mon.cn(h:Mon n E c):cnP [(E,c)]=[(E,c)]:=Jn (NO h.inv.1 h.nz) fun _=>rfl
theorem Mon.fine(h:Mon n E c):Fine n [(E,c)] where
 vars:=h.vars
 inv:=by intro t a;simp at a;subst a;exact h.inv
 ok:=KB (by intro t a;simp at a;subst a;exact h.inv) (by simp) (by intro t a;simp at a;subst a;exact h.sum)
 text:=by rw[h.cn];intro t a;simp at a;subst a;exact ia (LQ h.rb) (by omega)
theorem sum_mem{E:List Int}(h:∀x∈E,0<=x):∀x∈E,x<=E.sum:=by induction E with|nil=>{simp}|cons y r ih=>have b:=fun x a=>h x (nj y a);have:=CX b;intro x a;rw[kn];rcases iI.1 a with rfl|a;{omega};have:=ih b x a;have:=h y (by simp);omega
theorem Mon.low(h:Mon n E c):E.length=6/\∀x∈E,0<=x/\x<=24:=⟨h.inv.1,fun x a=>⟨h.inv.2.1 x a,by have:=sum_mem h.inv.2.1 x a;have:=h.sum;omega⟩⟩
theorem IA(a:b<=1920)(h:Pl.RB b c):El c:=EZ (Ah h.1 a) (Ah h.2 a)
theorem TG(e:b<=1920)(h:Pl.RB b c)(a:E.length=6/\∀x∈E,0<=x/\x<=1099511627776)(f:c≠0):BE [(E,c)] := Pj (fun _=>rfl) (NO a.1 f) (by intro t d;simp at d;subst d;exact⟨IA e h,a.2⟩) (by simp)
theorem NQ(b:E.length=6/\∀x∈E,0<=x/\x<=1099511627776):BJ [(E,c)]:=by intro t a;simp at a;subst a;exact b
theorem Mon.low'(h:Mon n E c):E.length=6/\∀x∈E,0<=x/\x<=1099511627776:=⟨h.low.1,fun x a=>⟨(h.low.2 x a).1,by have:=(h.low.2 x a).2;omega⟩⟩
theorem Q5(h:Mon n E c):BO [(E,c)]=E.sum:=by have:=CX h.inv.2.1;unfold BO;simp;omega
theorem U8:Bq ([(E,c)].map (·.2))=c.den:=by unfold Bq;simp
theorem Q6(h:Mon n E c)(k:Mon n F d)(e:(Pl.plE E F).length=6/\∀x∈Pl.plE E F,0<=x/\x<=1099511627776)(f:Pl.RB 200 (c*d))(h0:c*d≠0):EP [(E,c)] [(F,d)] := EP.of (by intro t a;simp at a;subst a;exact h.rb.mono (by omega)) (by intro t a;simp at a;subst a;exact k.rb.mono (by omega)) (NQ h.low') (NQ k.low') (by rw[U8];exact Ah h.rb.2 (by omega)) (by rw[U8];exact Ah k.rb.2 (by omega)) (by simp) (by simp) (TG (b:=200) (by omega) f e h0)
theorem SK(h:Mon n E c)(k:Mon n F d)(m:Mon n (Pl.plE E F) (c*d)):BinOK true n 42 ((n:Int),[(E,c)]) ((n:Int),[(F,d)]) ((n:Int),[(Pl.plE E F,c*d)]):=by (unfold BinOK;rw[gS rfl];have e:opV 42 [(E,c)] [(F,d)]=[(Pl.plE E F,c*d)]:=by unfold opV;rw[h.cn,k.cn];rfl);refine⟨_,_,rfl,rfl,by rw[e],h.fine,k.fine,⟨by omega,by omega,fun _=>?_⟩,by rw[e];exact m.fine⟩;rw[h.cn,k.cn];refine⟨Q6 h k m.low' (m.rb.mono (by omega)) m.nz,fun a=>?_⟩;have h1:=a.2.2;rw[Q5 h,Q5 k]at h1;have:=m.sum;have b:(Pl.plE E F).sum=E.sum+F.sum:=Pl.plE_sum (by rw[h.inv.1,k.inv.1]);omega
theorem OR(h:Mon n E c){q:Rat}(a:q≠0)(m:Mon n E (c*q)):UnOK true n (A3 q) (fun l=>BE (A3 q l)) ((n:Int),[(E,c)]) ((n:Int),[(E,c*q)]):=by (unfold UnOK;rw[gS rfl];have e:A3 q [(E,c)]=[(E,c*q)]:=by unfold A3;rw[gN a];rfl);refine⟨_,rfl,by rw[h.cn,e],h.fine,by show BE (A3 q (cnP [(E,c)]));rw[h.cn,e];exact TG (b:=60) (by omega) m.rb m.low' m.nz,by rw[h.cn,e];exact m.fine⟩
theorem TH(E e:List Int)(c:Rat):Pl.coef [(E,c)] e=if E=e then c else 0:=by simp only[Pl.coef];split<;>grind
theorem U9{out:List Pl.Tm}(b:Pl.Nrm out)(d:∀e,Pl.coef out e=Pl.coef [(E,c)] e)(h0:c≠0):out=[(E,c)]:=by (have a:∀t∈out,t=(E,c):=fun t f=>by have h1:=Pl.coef_mem b.nodup f;rw[d,TH]at h1;by_cases h:E=t.1;{rw[gS h]at h1;rw[h,h1]};rw[gN h]at h1;exact absurd h1.symm (b.nz t f));match out,b,d,a with|[],_,d,_=>{have:=d E;rw[TH,gS rfl]at this;exact absurd this.symm h0}|[t],_,_,a=>{rw[a t (by simp)]}|t::u::r,b,_,a=>have h1:=b.nodup;rw[a t (by simp),a u (by simp)]at h1;simp at h1
theorem Mk{i:Nat}(hi:i<6):∀k:Nat,Pl.powT [(BP i,1)] k=[(ze.set i (k:Int),1)]
|0=>by (have h:i=0\/i=1\/i=2\/i=3\/i=4\/i=5:=by omega);rcases h with rfl|rfl|rfl|rfl|rfl|rfl<;>simp[Pl.powT,Bc,ze]
|k+1=>by (show Pl.prodT (Pl.powT [(BP i,1)] k) [(BP i,1)]=_;rw[Mk hi k];have h:i=0\/i=1\/i=2\/i=3\/i=4\/i=5:=by omega);rcases h with rfl|rfl|rfl|rfl|rfl|rfl<;>simp[Pl.prodT,Pl.plE,ze,BP]
theorem CA(b:n<=6)(hi:i<n)(d:k<=24):Mon n (ze.set i (k:Int)) 1:=by refine⟨b,?_,?_,by decide,LN (by decide) (by decide) (by omega)⟩;{(have h:i=0\/i=1\/i=2\/i=3\/i=4\/i=5:=by omega);(have a:n=1\/n=2\/n=3\/n=4\/n=5\/n=6:=by omega);rcases h with rfl|rfl|rfl|rfl|rfl|rfl<;>rcases a with rfl|rfl|rfl|rfl|rfl|rfl<;>first|omega|(refine⟨rfl,?_,rfl⟩;intro x c;simp[ze]at c;omega)};(have h:i=0\/i=1\/i=2\/i=3\/i=4\/i=5:=by omega);rcases h with rfl|rfl|rfl|rfl|rfl|rfl<;>simp[ze]<;>omega
theorem SL(c:n<=6)(hi:i<n)(p:k<=24):UnOK true n (fun l=>Pl.powT l k) (fun l=>KD l k/\¬24<BO l*(k:Int)) ((n:Int),[(BP i,1)]) ((n:Int),[(ze.set i (k:Int),1)]):=by have hu:BP i=ze.set i ((1:Nat):Int):=rfl;have h:=CA (n:=n) (k:=1) c hi (by omega);rw[<-hu]at h;have m:=CA (n:=n) c hi p;have e:=Mk (i:=i) (by omega);unfold UnOK;rw[gS rfl];refine⟨_,rfl,by show _=(_,Pl.powT (cnP _) k);rw[h.cn,e],h.fine,?_,by show Fine n (Pl.powT (cnP _) k);rw[h.cn,e];exact m.fine⟩;show KD (cnP _) k/\¬24<BO (cnP _)*(k:Int);rw[h.cn,Q5 h];refine⟨⟨fun j r g f a=>?_,fun g f a=>?_⟩,?_⟩;{(rw[e]at a;have d:=CA (n:=n) (k:=j) c hi (by omega);rw[U9 f a (by decide)];have h2:Pl.plE (ze.set i (j:Int)) (BP i)=ze.set i ((j+1:Nat):Int):=by have h3:=e (j+1);have h4:Pl.powT [(BP i,(1:Rat))] (j+1)=Pl.prodT (Pl.powT [(BP i,1)] j) [(BP i,1)]:=rfl;rw[h4,e j]at h3;simp[Pl.prodT]at h3;simpa using h3);have q:=CA (n:=n) (k:=j+1) c hi (by omega);refine Q6 d h (by rw[h2];exact q.low') (by rw[md];exact LN (by decide) (by decide) (by omega)) (by rw[md];decide)};{rw[e]at a;rw[U9 f a (by decide)];exact⟨NQ m.low',fun t o=>by simp at o;subst o;exact IA (b:=60) (by omega) m.rb,by simp⟩};(have h5:(BP i).sum=1:=by (have h6:i=0\/i=1\/i=2\/i=3\/i=4\/i=5:=by omega);rcases h6 with rfl|rfl|rfl|rfl|rfl|rfl<;>rfl);rw[h5];omega
end Pt
namespace Pt
def wr(names:List (List UInt8)):Nat->List Int->Bool->List UInt8
| _,[],_=>[]
| i,e::r,sep=>if e=0 then wr names (i+1) r sep else(if sep then [42]else [])++(names.getD i []++((if 1<e then 94::Lib.itoa e else [])++wr names (i+1) r true))
def trm(names:List (List UInt8))(c:Rat)(E:List Int):List UInt8:=if c≠1\/¬∃e∈E,0<e then txt c++wr names 0 E true else wr names 0 E false
def put:Nat->List Int->List Int->List Int
| _,[],acc=>acc
| i,e::r,acc=>put (i+1) r (if e=0 then acc else Pl.plE acc (ze.set i e))
structure Stop(s:List UInt8):Prop where
 edge:JC s
 pow:kd s≠94
 mul:kd s≠42
 div:kd s≠47
variable {names:List (List UInt8)} {n:Nat} {E acc:List Int} {c:Rat} {s:List UInt8}
theorem SM{x:UInt8}:isD x=true<->W.isDig x:=by simp[isD,W.isDig]
theorem Ew(h:W.digs l):∀x∈l,isD x=true:=fun x a=>SM.2 (h x a)
theorem ES(h:W.digs l):dlen l=l.length:=by have:=NL (s:=[]) (Ew h) (fun c r e=>by cases e);unfold dlen;rw[jd]at this;rw[this]
theorem Ml(k:Nat):Lib.itoa (k:Int)=Lib.decDigits k:=by rw[B9,gN (by omega)];simp
structure Nms(names:List (List UInt8)):Prop where
 len:names.length<=6
 ok:∀i,i<names.length->vName (names.getD i [])=true/\names.getD i []∉names.take i
theorem Uk{x:UInt8}(a:isP x=true):kd (x::r)=x.toNat:=(T3.pun a).kd
theorem TI(N:Nms names){i k:Nat}(hi:i<names.length)(v:1<=k)(g:k<=24)(he:JC s)(hp:kd s≠94):G true names .f (names.getD i []++((if 1<(k:Int)then 94::Lib.itoa (k:Int)else [])++s)) ((names.length:Int),[(ze.set i (k:Int),1)]) s:=by (have p:=N.len;obtain⟨q,l⟩:=N.ok i hi;have hu:BP i=ze.set i ((1:Nat):Int):=rfl;have o:=CA (n:=names.length) (k:=1) p hi (by omega);rw[<-hu]at o;have b:ValOK true names.length [(BP i,1)] ((names.length:Int),[(BP i,1)]):=by unfold ValOK;rw[gS rfl];exact⟨rfl,o.fine⟩);by_cases h1:1<(k:Int);{(rw[gS h1];have e:isP 94=true:=by decide);(have a:T3 (names.getD i []++((94::Lib.itoa (k:Int))++s)) 119 (names.getD i []) ((94::Lib.itoa (k:Int))++s):=T3.name q (Ev (Or.inl e));have d:=G.var (ev:=true) (names:=names) a.kd hi a.tk.symm (by rw[a.tk];exact l) b;rw[a.nx]at d;have c:T3 ((94::Lib.itoa (k:Int))++s) 94 [94] (Lib.decDigits k++s):=by rw[Ml];exact T3.pun e);(have j:T3 (Lib.decDigits k++s) 110 (Lib.decDigits k) s:=T3.num (W.dec_ne k) (Ew (W.digs_dec k)) he;have t:(Lib.decDigits k).length<=2:=W.dec_len (by omega) (by omega);have m:W.decV (tk (nx ((94::Lib.itoa (k:Int))++s)))=k:=by rw[c.nx,j.tk];exact W.decV_dec k);have:=G.pow (ev:=true) (names:=names) (u:=((names.length:Int),[(ze.set i (k:Int),1)])) d c.kd (by rw[c.nx];exact j.kd) (by rw[c.nx,j.tk];exact ES (W.digs_dec k)) (by rw[c.nx,j.tk];omega) (by rw[m];exact g) (by rw[m];exact SL p hi g);rw[c.nx,j.nx]at this;exact this};(rw[gN h1];have r:k=1:=by omega);subst r;have a:T3 (names.getD i []++s) 119 (names.getD i []) s:=T3.name q he;have d:=G.var (ev:=true) (names:=names) a.kd hi a.tk.symm (by rw[a.tk];exact l) b;rw[a.nx]at d;exact G.atom d hp
theorem Q7(h:Mon n acc c){i k:Nat}(hi:i<n)(a:acc.sum+k<=24):Mon n (Pl.plE acc (ze.set i (k:Int))) c:=by (have h0:0<=acc.sum:=(CX h.inv.2.1).1;have hu:=CA (n:=n) (k:=k) h.vars hi (by omega);refine⟨h.vars,InV.pl h.inv hu.inv,?_,h.nz,h.rb⟩;rw[Pl.plE_sum (by rw[h.inv.1,hu.inv.1])];have:(ze.set i (k:Int)).sum=k:=by (have h6:=h.vars;have h6:i=0\/i=1\/i=2\/i=3\/i=4\/i=5:=by omega);rcases h6 with rfl|rfl|rfl|rfl|rfl|rfl<;>simp[ze]);omega
theorem Hw(N:Nms names)(a:Stop s):∀(r:List Int) (i:Nat),JC (wr names i r true++s)/\kd (wr names i r true++s)≠94
|[],_=>⟨a.edge,a.pow⟩
|e::r,i=>by unfold wr;by_cases h:e=0;{rw[gS h];exact Hw N a r (i+1)};(rw[gN h,gS rfl];have hp:isP 42=true:=by decide);refine⟨Ev (Or.inl hp),?_⟩;show kd (42::_)≠94;rw[Uk hp];decide
theorem KR(N:Nms names)(b:Stop s):∀(r:List Int) (i:Nat) (a:List Int),i+r.length=names.length->(∀e∈r,0<=e)->a.sum+r.sum<=24->Mon names.length a c->G true names (.tt ((names.length:Int),[(a,c)])) (wr names i r true++s) ((names.length:Int),[(put i r a,c)]) s
|[],_,_,_,_,_,_=>G.tend b.mul b.div
|e::r,i,a,hl,h0,hS,M=>by rw[ig]at hl;rw[kn]at hS;have e0:=h0 e (by simp);have d:∀x∈r,0<=x:=fun x o=>h0 x (by simp[o]);have w:0<=r.sum:=(CX d).1;have v:0<=a.sum:=(CX M.inv.2.1).1;unfold wr put;by_cases h:e=0;{rw[gS h,gS h];exact KR N b r (i+1) a (by omega) d (by omega) M};(rw[gN h,gN h,gS rfl];obtain⟨k,rfl⟩:∃k:Nat,e=(k:Int):=⟨e.toNat,by omega⟩;obtain⟨q,t⟩:=Hw N b r (i+1);have f:=TI N (i:=i) (k:=k) (by omega) (by omega) (by omega) q t;have m:=Q7 M (i:=i) (k:=k) (by omega) (by omega);have hp:isP 42=true:=by decide);(have j:T3 (42::(names.getD i []++((if 1<(k:Int)then 94::Lib.itoa (k:Int)else [])++(wr names (i+1) r true++s)))) 42 [42] _:=T3.pun hp;have l:([42]++(names.getD i []++((if 1<(k:Int)then 94::Lib.itoa (k:Int)else [])++wr names (i+1) r true)))++s=42::(names.getD i []++((if 1<(k:Int)then 94::Lib.itoa (k:Int)else [])++(wr names (i+1) r true++s))):=by simp);(rw[l];rw[<-j.nx]at f;have g:=SK M (CA (n:=names.length) (i:=i) (k:=k) N.len (by omega) (by omega)) (by rw[md];exact m);rw[md]at g;refine G.tmul j.kd f g ?_;have p:(ze.set i (k:Int)).sum=k:=by (have h6:=N.len;have h6:i=0\/i=1\/i=2\/i=3\/i=4\/i=5:=by omega);rcases h6 with rfl|rfl|rfl|rfl|rfl|rfl<;>simp[ze]);have hu:=CA (n:=names.length) (i:=i) (k:=k) N.len (by omega) (by omega);exact KR N b r (i+1) _ (by omega) d (by rw[Pl.plE_sum (by rw[M.inv.1,hu.inv.1]),p];omega) m
end Pt
namespace Pt
variable {names:List (List UInt8)} {n:Nat} {E acc:List Int} {c:Rat} {s:List UInt8}
theorem Ul(h:acc.length=6):(if e=0 then acc else Pl.plE acc (ze.set i e))=Pl.plE acc (ze.set i e):=by by_cases h0:e=0;{rw[gS h0,h0];match acc,h with|[a,b,c,d,f,g],_=>match i with|0|1|2|3|4|5=>{simp[Pl.plE,ze]}|i+6=>simp[Pl.plE,ze]};rw[gN h0]
theorem AU{r:List Int}(h:acc.length=6):put i (e::r) acc=put (i+1) r (Pl.plE acc (ze.set i e)):=by show put (i+1) r _=_;rw[Ul h]
theorem SN:∀{E:List Int},E.length<=6->put 0 E ze=Ca E
|[],_=>rfl
|[a],_=>by rw[AU rfl];simp[put,Pl.plE,ze,Ca]
|[a,b],_=>by rw[AU rfl,AU rfl];simp[put,Pl.plE,ze,Ca]
|[a,b,c],_=>by rw[AU rfl,AU rfl,AU rfl];simp[put,Pl.plE,ze,Ca]
|[a,b,c,d],_=>by rw[AU rfl,AU rfl,AU rfl,AU rfl];simp[put,Pl.plE,ze,Ca]
|[a,b,c,d,e],_=>by rw[AU rfl,AU rfl,AU rfl,AU rfl,AU rfl];simp[put,Pl.plE,ze,Ca]
|[a,b,c,d,e,f],_=>by rw[AU rfl,AU rfl,AU rfl,AU rfl,AU rfl,AU rfl];simp[put,Pl.plE,ze,Ca]
|a::b::c::d::e::f::g::r,h=>by simp at h
theorem OS(N:Nms names)(c:Stop s):∀(r:List Int) (i:Nat),i+r.length=names.length->(∀e∈r,0<=e)->r.sum<=24->(∃e∈r,0<e)->G true names .t (wr names i r false++s) ((names.length:Int),[(put i r ze,1)]) s
|[],_,_,_,_,h=>by obtain⟨e,h,_⟩:=h;cases h
|e::r,i,hl,h0,hS,a=>by rw[ig]at hl;rw[kn]at hS;have e0:=h0 e (by simp);have b:∀x∈r,0<=x:=fun x a=>h0 x (by simp[a]);have o:0<=r.sum:=(CX b).1;unfold wr put;by_cases h:e=0;{rw[gS h,gS h];refine OS N c r (i+1) (by omega) b (by omega) ?_;obtain⟨x,a,h2⟩:=a;rcases iI.1 a with rfl|a;{omega};exact⟨x,a,h2⟩};(rw[gN h,gN h,gN (by simp)];obtain⟨k,rfl⟩:∃k:Nat,e=(k:Int):=⟨e.toNat,by omega⟩;obtain⟨j,l⟩:=Hw N c r (i+1);have f:=TI N (i:=i) (k:=k) (by omega) (by omega) (by omega) j l;have m:=CA (n:=names.length) (i:=i) (k:=k) N.len (by omega) (by omega);have g:(ze.set i (k:Int)).sum=k:=by (have h6:=N.len;have h6:i=0\/i=1\/i=2\/i=3\/i=4\/i=5:=by omega);rcases h6 with rfl|rfl|rfl|rfl|rfl|rfl<;>simp[ze]);(have hp:Pl.plE ze (ze.set i (k:Int))=ze.set i (k:Int):=by (have h6:=N.len;have h6:i=0\/i=1\/i=2\/i=3\/i=4\/i=5:=by omega);rcases h6 with rfl|rfl|rfl|rfl|rfl|rfl<;>simp[ze,Pl.plE]);(have d:([]++(names.getD i []++((if 1<(k:Int)then 94::Lib.itoa (k:Int)else [])++wr names (i+1) r true)))++s=names.getD i []++((if 1<(k:Int)then 94::Lib.itoa (k:Int)else [])++(wr names (i+1) r true++s)):=by simp);rw[d,hp];exact G.term f (KR N c r (i+1) _ (by omega) b (by rw[g];omega) m)
theorem EU(h0:0<c.num):txt c=Lib.decDigits c.num.toNat++(if c.den=1 then []else 47::Lib.decDigits c.den):=by (unfold txt;rw[B9,gN (by omega),jn];have:c.num.natAbs=c.num.toNat:=by omega);rw[this]
theorem Q8(b:n<=6):InV n ze:=by (have a:n=0\/n=1\/n=2\/n=3\/n=4\/n=5\/n=6:=by omega);rcases a with rfl|rfl|rfl|rfl|rfl|rfl|rfl<;>exact⟨rfl,by simp[ze],rfl⟩
theorem Va(N:Nms names)(z:Stop s)(P:E.length=names.length)(h0:∀e∈E,0<=e)(L:E.sum<=24)(r:0<c.num)(y:Pl.RB 60 c):G true names .t (trm names c E++s) ((names.length:Int),[(put 0 E ze,c)]) s:=by unfold trm;by_cases p:c≠1\/¬∃e∈E,0<e;{(rw[gS p,EU r];obtain⟨m,w⟩:∃m:Nat,c.num=(m:Int):=⟨c.num.toNat,by omega⟩;have Q:0<m:=by omega);(have x:c.num.toNat=m:=by omega);(rw[x];have H:=Q8 N.len;have f:ze.sum=0:=rfl;have k:Pl.RB 60 ((m:Int):Rat):=⟨by show((m:Int)).natAbs<_;have:=y.1;rw[w]at this;exact this,by show 1<_;unfold P2;decide⟩;have j:((m:Int):Rat)≠0:=by intro h;have:=(Rat.intCast_eq_zero_iff).1 h;omega);(have B:Mon names.length ze ((m:Int):Rat):=⟨N.len,H,by rw[f];omega,j,k⟩;have A:Mon names.length ze c:=⟨N.len,H,by rw[f];omega,fun h=>by rw[h]at r;exact absurd r (by decide),y⟩;obtain⟨I,O⟩:=Hw N z E 0;have C:=KR (c:=c) N z E 0 ze (by omega) h0 (by rw[f];omega) A;have hp:isP 47=true:=by decide);(have M:(Lib.decDigits m).length<=30:=by have h2:=I4 (n:=m) (b:=60) (by have:=k.1;exact this);omega);(have d:ValOK true names.length (Bc ((W.decV (Lib.decDigits m):Int):Rat)) ((names.length:Int),[(ze,((m:Int):Rat))]):=by (rw[W.decV_dec];unfold ValOK;rw[gS rfl];have:Bc ((m:Int):Rat)=[(ze,((m:Int):Rat))]:=by unfold Bc;rw[gN j];rfl);exact⟨by rw[this],by rw[this];exact B.fine⟩);by_cases v:c.den=1;{rw[gS v,jd,gZ];have a:T3 (Lib.decDigits m++(wr names 0 E true++s)) 110 (Lib.decDigits m) (wr names 0 E true++s):=T3.num (W.dec_ne m) (Ew (W.digs_dec m)) I;have i:=G.num (ev:=true) (names:=names) a.kd (by rw[a.tk];exact ES (W.digs_dec m)) (by rw[a.tk];omega) (by rw[a.tk];exact d);rw[a.nx]at i;have o:((m:Int):Rat)=c:=Rat.ext (by rw[w];rfl) (by rw[v];rfl);rw[o]at i;exact G.term (G.atom i O) C};(rw[gN v];have K:Lib.decDigits m++47::Lib.decDigits c.den++wr names 0 E true++s=Lib.decDigits m++(47::(Lib.decDigits c.den++(wr names 0 E true++s))):=by simp);rw[K];have a:T3 (Lib.decDigits m++(47::(Lib.decDigits c.den++(wr names 0 E true++s)))) 110 (Lib.decDigits m) (47::(Lib.decDigits c.den++(wr names 0 E true++s))):=T3.num (W.dec_ne m) (Ew (W.digs_dec m)) (Ev (Or.inl hp));have i:=G.num (ev:=true) (names:=names) a.kd (by rw[a.tk];exact ES (W.digs_dec m)) (by rw[a.tk];omega) (by rw[a.tk];exact d);rw[a.nx]at i;have g:T3 (47::(Lib.decDigits c.den++(wr names 0 E true++s))) 47 [47] (Lib.decDigits c.den++(wr names 0 E true++s)):=T3.pun hp;(have l:T3 (Lib.decDigits c.den++(wr names 0 E true++s)) 110 (Lib.decDigits c.den) (wr names 0 E true++s):=T3.num (W.dec_ne _) (Ew (W.digs_dec _)) I;have D:(Lib.decDigits c.den).length<=30:=by have h2:=I4 (n:=c.den) (b:=60) y.2;omega);(have F:W.decV (tk (nx (47::(Lib.decDigits c.den++(wr names 0 E true++s)))))=c.den:=by rw[g.nx,l.tk];exact W.decV_dec _);(have J:((c.den:Int):Rat)≠0:=by intro h;have:=(Rat.intCast_eq_zero_iff).1 h;have:=c.den_nz;omega);(have o:((m:Int):Rat)*(((c.den:Int):Rat))⁻¹=c:=by rw[<-w];have h:=Rat.mkRat_eq_div c.num c.den;rw[nA,Rat.div_def]at h;rw[Rat.intCast_natCast];exact h.symm);have hu:=OR B (q:=(((c.den:Int):Rat))⁻¹) (fun h=>by have h2:=nG _ J;rw[h,Rat.mul_zero]at h2;exact absurd h2 (by decide)) (by rw[o];exact A);rw[o]at hu;refine G.term (G.atom i (by rw[g.kd];decide)) (G.tdiv g.kd (by rw[g.nx];exact l.kd) (by rw[g.nx,l.tk];exact ES (W.digs_dec _)) (by rw[g.nx,l.tk];omega) (by rw[F];exact jF c.den_nz) (by rw[F];exact hu) ?_);rw[g.nx,l.nx];exact C};rw[gN p];have h1:c=1:=ie fun h=>p (Or.inl h);have h2:∃e∈E,0<e:=ie fun h=>p (Or.inr h);rw[h1];exact OS N z E 0 (by omega) h0 L h2
end Pt
namespace Pt
variable {names:List (List UInt8)} {n:Nat} {E acc:List Int} {c:Rat} {s:List UInt8} {ev:Bool}
theorem Q9(h:skp x=skp r):kd x=kd r/\tk x=tk r/\nx x=nx r:=by unfold kd tk nx;rw[h];exact⟨rfl,rfl,rfl⟩
theorem VH{v:V}{b:Cat}(h:skp x=skp r)(j:b=.a\/b=.f\/b=.t\/b=.e)(g:G ev names b r v r'):G ev names b x v r':=by obtain⟨c,d,i⟩:=Q9 h;induction g generalizing x with|num h1 h2 h3 h4=>{rw[<-i];exact G.num (by rw[c];exact h1) (by rw[d];exact h2) (by rw[d];exact h3) (by rw[d];exact h4)}|var h1 h2 h3 h4 h5=>{rw[<-i];exact G.var (by rw[c];exact h1) h2 (by rw[d];exact h3) (by rw[d];exact h4) h5}|par h1 g h2 _=>{exact G.par (by rw[c];exact h1) (by rw[i];exact g) h2}|atom g h1 ih=>{exact G.atom (ih h (Or.inl rfl) c d i) h1}|pow g h1 h2 h3 h4 h5 h6 ih=>{exact G.pow (ih h (Or.inl rfl) c d i) h1 h2 h3 h4 h5 h6}|term g g2 ih _=>{exact G.term (ih h (Or.inr (Or.inl rfl)) c d i) g2}|tend=>{rcases j with h|h|h|h<;>cases h}|tmul=>{rcases j with h|h|h|h<;>cases h}|tdiv=>{rcases j with h|h|h|h<;>cases h}|expr h1 g g2 ih _=>{exact G.expr (by rw[c];exact h1) (ih h (Or.inr (Or.inr (Or.inl rfl))) c d i) g2}|eneg h1 g h2 g2 _ _=>{exact G.eneg (by rw[c];exact h1) (by rw[i];exact g) h2 g2}|eend=>{rcases j with h|h|h|h<;>cases h}|eop=>rcases j with h|h|h|h<;>cases h
theorem TJ{v:V}{b:Cat}(d:∀c∈g,isSp c=true)(i:b=.a\/b=.f\/b=.t\/b=.e)(h:G ev names b x v r'):G ev names b (g++x) v r':=by refine VH ?_ i h;unfold skp;induction g with|nil=>{rfl}|cons y g ih=>rw[j7,List.dropWhile_cons,gS (d y (by simp))];exact ih fun z j=>d z (by simp[j])
def zc:Cat->Cat
| .et _=>.et (0,[])
| .tt _=>.tt (0,[])
| x=>x
theorem g_syn{v:V}{a:Cat}(g:G true names a r v r'):G false names (zc a) r (0,[]) r':=by (have c:∀p,ValOK false names.length p (0,[]):=fun p=>by unfold ValOK;rw[gN (by decide)]);(have b:∀f C,UnOK false names.length f C (0,[]) (0,[]):=fun f C=>by unfold UnOK;rw[gN (by decide)];exact⟨rfl,rfl⟩);(have d:∀k,BinOK false names.length k (0,[]) (0,[]) (0,[]):=fun k=>by unfold BinOK;rw[gN (by decide)];exact⟨rfl,rfl,rfl⟩);induction g with|num h1 h2 h3 h4=>{exact G.num h1 h2 h3 (c _)}|var h1 h2 h3 h4 h5=>{exact G.var h1 h2 h3 h4 (c _)}|par h1 g h2 ih=>{exact G.par h1 ih h2}|atom g h1 ih=>{exact G.atom ih h1}|pow g h1 h2 h3 h4 h5 h6 ih=>{exact G.pow ih h1 h2 h3 h4 h5 (b _ _)}|term g g2 ih ih2=>{exact G.term ih ih2}|tend h1 h2=>{exact G.tend h1 h2}|tmul h1 g h2 g2 ih ih2=>{exact G.tmul h1 ih (d _) ih2}|tdiv h1 h2 h3 h4 h5 h6 g2 ih2=>{exact G.tdiv h1 h2 h3 h4 h5 (b _ _) ih2}|expr h1 g g2 ih ih2=>{exact G.expr h1 ih ih2}|eneg h1 g h2 g2 ih ih2=>{exact G.eneg h1 ih (b _ _) ih2}|eend h1 h2=>{exact G.eend h1 h2}|eop h1 g h2 g2 ih ih2=>exact G.eop h1 ih (d _) ih2
def absQ(c:Rat):Rat:=if c.num<0 then -c else c
def fmtR(names:List (List UInt8))(l:List Pl.Tm):List UInt8:=l.flatMap fun t=>(if t.2.num<0 then [32,45,32]else [32,43,32])++trm names (absQ t.2) (t.1.take names.length)
def fmt(names:List (List UInt8)):List Pl.Tm->List UInt8
| []=>[48]
| t::r=>(if t.2.num<0 then [45]else [])++(trm names (absQ t.2) (t.1.take names.length)++fmtR names r)
structure Pol(n:Nat)(l:List Pl.Tm):Prop where
 vars:n<=6
 canon:Pl.Canon 6 l
 inv:∀t∈l,InV n t.1
 sum:∀t∈l,t.1.sum<=24
 rb:∀t∈l,Pl.RB 60 t.2
 len:l.length<=30
theorem Mm{c:Rat}(h:c≠0):0<(absQ c).num:=by have h0:c.num≠0:=fun e=>h (Rat.num_eq_zero.1 e);unfold absQ;split;{rw[Rat.neg_num];omega};omega
theorem KT(h:Pl.RB b c):Pl.RB b (absQ c):=by unfold absQ;split;{refine⟨?_,?_⟩;{rw[Rat.neg_num];have:=h.1;omega};rw[Rat.neg_den];exact h.2};exact h
variable {l p q:List Pl.Tm} {t:Pl.Tm}
theorem Pol.pre(h:Pol n (p++q)):Pol n p where
 vars:=h.vars
 canon:=⟨fun t a=>h.canon.len t (by simp[a]),fun t a=>h.canon.nz t (by simp[a]),(List.pairwise_append.1 h.canon.desc).1⟩
 inv:=fun t a=>h.inv t (by simp[a])
 sum:=fun t a=>h.sum t (by simp[a])
 rb:=fun t a=>h.rb t (by simp[a])
 len:=by have:=h.len;rw[gI]at this;omega
theorem Pol.cn(h:Pol n p):cnP p=p:=Jn h.canon fun _=>rfl
theorem Pol.fine(h:Pol n p):Fine n p where
 vars:=h.vars
 inv:=h.inv
 ok:=KB h.inv (by have:=h.len;omega) h.sum
 text:=by rw[h.cn];exact fun t a=>ia (LQ (h.rb t a)) (by omega)
theorem Pol.fits(h:Pol n p):BE p:=Pj (fun _=>rfl) h.canon (fun t a=>⟨IA (by omega) (h.rb t a),fun x b=>⟨(h.inv t a).2.1 x b,by have:=sum_mem (h.inv t a).2.1 x b;have:=h.sum t a;omega⟩⟩) (by have:=h.len;omega)
theorem Pol.ok(h:Pol n p):Fk p:=Sd (b:=60) (by omega) h.rb (by have:=h.len;omega) h.fits
theorem Pol.mon(h:Pol n p)(a:t∈p):Mon n t.1 (absQ t.2):=⟨h.vars,h.inv t a,h.sum t a,fun e=>by have:=Mm (h.canon.nz t a);rw[e]at this;exact absurd this (by decide),KT (h.rb t a)⟩
theorem Vb{c:UInt8}(a:isSp c=true):kd (c::r)=kd r/\nx (c::r)=nx r:=by (have e:skp (c::r)=skp r:=by unfold skp;rw[List.dropWhile_cons,gS a]);exact⟨(Q9 e).1,(Q9 e).2.2⟩
theorem NS(N:Nms names)(f:Stop s)(h:Pol names.length p)(b:t∈p):G true names .t (trm names (absQ t.2) (t.1.take names.length)++s) ((names.length:Int),[(t.1,absQ t.2)]) s:=by (have a:=h.inv t b;have e:(t.1.take names.length).length=names.length:=by rw[ip,a.1];have:=h.vars;omega);(have h2:(t.1.take names.length).sum<=t.1.sum:=by have h3:=jN names.length t.1;have h4:=gX List.sum h3;rw[List.sum_append]at h4;have:=(CX (l:=t.1.drop names.length) fun x d=>a.2.1 x (m6 d)).1;omega);have:=Va (c:=absQ t.2) N f e (fun x d=>a.2.1 x (jw d)) (by have:=h.sum t b;omega) (Mm (h.canon.nz t b)) (KT (h.rb t b));rw[SN (by rw[e];exact h.vars),a.2.2]at this;exact this
end Pt
theorem Gx(hi:i<100):Calls Tryz.prog 66 #[.int .i64 (i:Nat)] w fun e a=>e=.returned (.string ⟨(Lib.itoa (i:Int)).toArray⟩)/\Ext w a:=by refine(Any.strconv_Itoa_small U4 i hi w).mono ?_;rintro e a ⟨rfl,b⟩;exact⟨rfl,by rw[b];exact Ext.refl _⟩
theorem Hi(s:ByteArray)(b:UInt8)(w:World):Calls Tryz.prog 99 #[.string s,.string {data:=#[b]}] w fun e f=>e=.returned (.string ⟨(if(Ab s).head?=some b then(Ab s).tail else Ab s).toArray⟩)/\f=w:=by by_cases h0:s.size=0;{have e:=FF h0;have d:s=⟨#[]⟩:=Di e;subst d;go_enter Tryz.func99,Tryz.ntmps99;go_wp2;go_ret;exact⟨rfl,rfl⟩};(have h1:(1:Int)<=(s.size:Int):=by omega);obtain⟨a,c⟩:=UU (s:=s) b (by omega);by_cases h:(Ab s).head?=some b;{simp only[h,kW,mc]at a|-;go_enter Tryz.func99,Tryz.ntmps99;go_wp2;go_ret;exact⟨by rw[c];rfl,rfl⟩};simp only[h,lU,mT]at a|-;go_enter Tryz.func99,Tryz.ntmps99;go_wp2;go_ret;exact⟨rfl,rfl⟩
theorem KU{q:Rat}(h:q.num<0):txt q=45::txt (-q):=by have a:(-q).num=-q.num:=Rat.neg_num ..;have b:(-q).den=q.den:=Rat.neg_den ..;unfold txt;rw[a,b,B9,B9,gS h,gN (show ¬-q.num<0 by omega),kK];rfl
theorem EU{q:Rat}(h:¬q.num<0):(txt q).head?≠some 45:=by unfold txt;rw[B9,gN h];have h0:=W.dec_ne q.num.natAbs;have a:=W.digs_dec q.num.natAbs;obtain⟨c,r,b⟩:=j3 h0;rw[b]at a|-;have:=a c (by simp);intro he;simp only[jn,j7,List.head?_cons,gJ]at he;subst he;simp[W.isDig]at this
theorem Ra{q:Rat}(f:AE w)(g:(txt q).length<=570):Calls Tryz.prog 63 #[.string ⟨(txt q).toArray⟩] w fun e i=>e=.returned (.string ⟨(txt (Pt.absQ q)).toArray⟩)/\Ext w i:=by (have c:=qh (JV (s:=⟨(txt q).toArray⟩) f (by rw[<-Aa,Ay];exact g));rw[Ay,Bn]at c;simp only[jE]at c;have a:=fun j=>qh (Hi ⟨(txt q).toArray⟩ 45 j);have he:(if(Ab ⟨(txt q).toArray⟩).head?=some 45 then(Ab ⟨(txt q).toArray⟩).tail else Ab ⟨(txt q).toArray⟩)=txt (Pt.absQ q):=by rw[Ay];unfold Pt.absQ;by_cases h:q.num<0;{rw[gS h,KU h];rfl};rw[gN h,gN (EU h)]);rw[he]at a;clear he;generalize (⟨(txt q).toArray⟩:ByteArray)=S at*;go_enter Tryz.func63,Tryz.ntmps63;go_wp2_with fail;refine c.out.mono ?_;rintro e k ⟨rfl,b⟩;go_wp2_with fail;refine(a _).out.mono ?_;rintro e l ⟨rfl,d⟩;rw[d];go_wp2;go_ret;exact⟨rfl,b⟩
theorem PI{q:Rat}(x:AE w)(k:(txt q).length<=570):Calls Tryz.prog 32 #[.string ⟨(txt q).toArray⟩] w fun e B=>(∃r:Int,e=.returned (.int .i64 r)/\Hid (r<0<->q.num<0))/\Ext w B:=by have f:=fun(C:World) (v:Ext w C)=>qh (JV (s:=⟨(txt q).toArray⟩) (x.ext v) (by rw[<-Aa,Ay];exact k));rw[Ay,Bn]at f;simp only[jE]at f;have i:=QS (q:=q);(have a:txt q≠[]:=fun h=>by (have h1:=Bn q;rw[h]at h1;have h2:Bf []=none:=by decide);rw[h2]at h1;cases h1);have g:Hid (q.num<0<->(txt q).head?=some 45):=qh ⟨fun h=>by rw[KU h];rfl,fun h=>by by_cases h2:q.num<0;{exact h2};exact absurd h (EU h2)⟩;by_cases h0:q=0;{have m:Hid ((0:Int)<0<->q.num<0):=qh (by rw[h0];exact⟨fun h=>absurd h (by decide),fun h=>absurd h (by decide)⟩);rw[i.2 h0];clear f i a k g h0;go_enter Tryz.func32,Tryz.ntmps32;go_wp2;go_ret;exact⟨⟨0,rfl,m⟩,Ext.refl _⟩};(obtain⟨c,t,l⟩:=j3 a;have d:¬(c=48/\t=[]):=fun⟨o,p⟩=>h0 (i.1 (by rw[l,o,p]));have z:¬c=48\/¬t=[]:=by by_cases h:c=48;{exact Or.inr fun h2=>d ⟨h,h2⟩};exact Or.inl h);(have A:(c==48 && t.isEmpty)=false:=by by_cases h:c=48;{have h2:t≠[]:=fun h2=>d ⟨h,h2⟩;cases t with|nil=>{exact absurd rfl h2}|cons _ _=>simp};simp[h]);rw[l]at f g|-;clear i a k l h0;go_enter Tryz.func32,Tryz.ntmps32;go_wp2_with fail;refine(f _ (Ext.refl _)).out.mono ?_;rintro e D ⟨rfl,b⟩;by_cases j:c=45;{subst j;go_wp2;go_ret;exact⟨⟨-1,rfl,qh ⟨fun _=>g.out.2 rfl,fun _=>by decide⟩⟩,b⟩};have y:=Ig (t:=t) (n:=45) j;go_wp2;go_ret;exact⟨⟨1,rfl,qh ⟨fun h=>absurd h (by decide),fun h=>absurd (lK (g.out.1 h)) j⟩⟩,b⟩
theorem Um(x:Int)(w:World):Calls Tryz.prog 65 #[.int .i64 x] w fun e a=>e=.returned (.bool (decide (0<x)))/\a=w:=by go_enter Tryz.func65,Tryz.ntmps65;go_wp2;go_ret;exact⟨rfl,rfl⟩
theorem KV{n c:Nat}(h:SlI w a n c xs):Calls Tryz.prog 100 #[.slice a n c,.func (.func 65) #[] #[]] w fun e C=>(∃z:Int,e=.returned (.int .i64 z)/\Hid (0<=z<->∃x∈xs,0<x))/\C=w:=by have A:=h.le;have s:=gF h.len;have y:=gF h;clear h;go_enter Tryz.func100,Tryz.ntmps100;go_wp2;go_loopw[8] (fun r wr=>∃k:Nat,r=.int .i64 k/\k<=n/\w=wr/\Hid (∀i,i<k->xs.getD i 0<=0)) (fun r _=>n-(intOf r).toNat);(case atStart=>exact⟨0,rfl,gW _,rfl,gF fun i l=>absurd l (by omega)⟩);case round=>obtain⟨k,rfl,E,rfl,t⟩:=hrel;by_cases f:k<n;{obtain⟨b,B,rfl,d⟩:=y.out.at f;have q:=d k f;have hp:=gF (Um (xs.getD k 0) w);obtain⟨x,j⟩:∃x,xs.getD k 0=x:=⟨_,rfl⟩;rw[j]at q hp;have v:=gF j;clear d j;go_wp2_with fail;refine hp.out.mono ?_;rintro e D ⟨rfl,g⟩;rw[g];clear g D hp;by_cases h0:0<x;{have o:Hid (0<=(k:Int)<->∃x∈xs,0<x):=gF ⟨fun _=>⟨x,by rw[<-v.out,gqq,gG (by rw[s.out];exact f)];exact j6 _,h0⟩,fun _=>by omega⟩;go_wp2;go_ret;exact⟨⟨_,rfl,o⟩,rfl⟩};(have m:Hid (∀i,i<k+1->xs.getD i 0<=0):=gF fun i l=>by by_cases p:i<k;{exact t.out i p};(have:i=k:=by omega);subst this;rw[v.out];omega);go_wp2;go_roundw;(case rel=>exact⟨k+1,by go_num,by omega,by trivial,m⟩);case measure=>simp[intOf];omega};have o:Hid (0<=(-1:Int)<->∃x∈xs,0<x):=gF ⟨fun h=>absurd h (by decide),fun⟨x,j,h0⟩=>by obtain⟨i,l,rfl⟩:=List.getElem_of_mem j;have:=t.out i (by have:=s.out;omega);rw[gqq,gG l]at this;exact absurd h0 (by simpa using this)⟩;go_wp2;go_ret;exact⟨⟨_,rfl,o⟩,rfl⟩
open Classical in
theorem Hj{n c:Nat}(h:SlI w a n c xs):Calls Tryz.prog 64 #[.slice a n c,.func (.func 65) #[] #[]] w fun e g=>e=.returned (.bool (decide (∃x∈xs,0<x)))/\g=w:=by have d:=gF (KV h);go_enter Tryz.func64,Tryz.ntmps64;go_wp2_with fail;refine d.out.mono ?_;rintro e i ⟨⟨z,rfl,f⟩,b⟩;rw[b];clear b i d;go_wp2;go_ret;exact⟨CC (jA.2 f.out.symm),rfl⟩
end Go.Proofs.YtpkijbkpjhpfmaaGreatDoor
