/- Part Pv36. -/
import Derived.Test.YtpkijbkpjhpfmaaGreatDoorPv35
import Derived.ProofKit
import Derived.Lib.LaidTab
import Derived.Stop.LaidErr
import Derived.MakeChecks
import Derived.SliceStrings
set_option linter.all false
set_option maxRecDepth 100000
set_option maxHeartbeats 100000000
namespace Go.Proofs.YtpkijbkpjhpfmaaGreatDoor
open Go Go.RowKit
variable {r' y:List UInt8} {g k:Nat} {a:Option Addr} {X:Rat} {w:World}
namespace Pt
variable {names:List (List UInt8)} {n:Nat} {E acc:List Int} {c:Rat} {s:List UInt8} {ev:Bool} {l p q r:List Pl.Tm} {t:Pl.Tm}
theorem Pol.mon0(h:Pol n [t]):Mon n t.1 t.2:=⟨h.vars,h.inv t (by simp),h.sum t (by simp),h.canon.nz t (by simp),h.rb t (by simp)⟩
theorem KX{x:UInt8}(h:x=43\/x=45):Stop (32::x::y)/\kd (32::x::y)=x.toNat/\nx (32::x::y)=y:=by (have hp:isP x=true:=by rcases h with rfl|rfl<;>decide);obtain⟨a,b⟩:=Vb (c:=32) (r:=x::y) (by decide);have d:T3 (x::y) x.toNat [x] y:=T3.pun hp;rw[d.kd]at a;rw[d.nx]at b;refine⟨⟨Ev (Or.inr (by decide)),?_,?_,?_⟩,a,b⟩<;>rw[a]<;>rcases h with rfl|rfl<;>decide
theorem JY:fmtR names (t::r)++s=32::(if t.2.num<0 then 45 else 43)::32::(trm names (absQ t.2) (t.1.take names.length)++(fmtR names r++s)):=by unfold fmtR;rw[kM];split<;>simp
theorem JZ(a:Stop s):∀r:List Pl.Tm,Stop (fmtR names r++s)
|[]=>a
|t::r=>by rw[JY];exact(KX (by split<;>simp)).1
theorem Hz{c:Rat}(h:c.num<0):absQ c * -1=c:=by unfold absQ;rw[gS h,Rat.mul_neg,md,Rat.neg_neg]
theorem KY{c:Rat}(h:¬c.num<0):absQ c=c:=by unfold absQ;rw[gN h]
theorem Vc:A3 (-1) [(E,X)]=[(E,X * -1)]:=by unfold A3;rw[gN (by decide)];rfl
theorem SP(h:Pol n (p++[t]))(M:Mon n t.1 (absQ t.2))(h0:¬t.2.num<0):BinOK true n 43 ((n:Int),p) ((n:Int),[(t.1,absQ t.2)]) ((n:Int),p++[t]):=by (unfold BinOK;rw[gS rfl];have e:opV 43 p [(t.1,absQ t.2)]=p++[t]:=by unfold opV;rw[gS rfl,h.pre.cn,M.cn,KY h0]);refine⟨_,_,rfl,rfl,by rw[e],h.pre.fine,M.fine,⟨fun _=>?_,by omega,by omega⟩,by rw[e];exact h.fine⟩;rw[h.pre.cn,M.cn,KY h0];exact h.ok
theorem SQ(h:Pol n (p++[t]))(M:Mon n t.1 (absQ t.2))(h0:t.2.num<0):BinOK true n 45 ((n:Int),p) ((n:Int),[(t.1,absQ t.2)]) ((n:Int),p++[t]):=by (unfold BinOK;rw[gS rfl];have e:opV 45 p [(t.1,absQ t.2)]=p++[t]:=by unfold opV;rw[gN (by decide),gS rfl,h.pre.cn,M.cn,Vc,Hz h0]);refine⟨_,_,rfl,rfl,by rw[e],h.pre.fine,M.fine,⟨by omega,fun _=>?_,by omega⟩,by rw[e];exact h.fine⟩;rw[h.pre.cn,M.cn,Vc,Hz h0];exact h.ok
theorem NW(N:Nms names)(c:Stop s)(h1:kd s≠43)(h2:kd s≠45):∀(r p:List Pl.Tm),Pol names.length (p++r)->G true names (.et ((names.length:Int),p)) (fmtR names r++s) ((names.length:Int),p++r) s
|[],p,_=>by rw[jd];exact G.eend h1 h2
|t::r,p,h=>by (rw[JY];have e:p++t::r=(p++[t])++r:=by simp);rw[e]at h|-;have d:=NS N (JZ (names:=names) c r) h (t:=t) (by simp);have M:=h.mon (t:=t) (by simp);obtain⟨_,b,f⟩:=KX (x:=if t.2.num<0 then 45 else 43) (y:=32::(trm names (absQ t.2) (t.1.take names.length)++(fmtR names r++s))) (by split<;>simp);have a:=TJ (g:=[32]) (by simp;decide) (Or.inr (Or.inr (Or.inl rfl))) d;rw[show [32]++(trm names (absQ t.2) (t.1.take names.length)++(fmtR names r++s))=32::(trm names (absQ t.2) (t.1.take names.length)++(fmtR names r++s)) from rfl,<-f]at a;by_cases h0:t.2.num<0;{rw[gS h0]at b a|-;refine G.eop (Or.inr b) a ?_ (NW N c h1 h2 r (p++[t]) h);rw[b];exact SQ h.pre M h0};rw[gN h0]at b a|-;refine G.eop (Or.inl b) a ?_ (NW N c h1 h2 r (p++[t]) h);rw[b];exact SP h.pre M h0
theorem Vd{b:Cat}{r:List UInt8}{v:V}(g:G ev names b r v r')(c:b=.a\/b=.f\/b=.t):kd r≠45:=by induction g with|num h1=>{rw[h1];decide}|var h1=>{rw[h1];decide}|par h1=>{rw[h1];decide}|atom g h1 ih=>{exact ih (Or.inl rfl)}|pow g h1 h2 h3 h4 h5 h6 ih=>{exact ih (Or.inl rfl)}|term g g2 ih ih2=>{exact ih (Or.inr (Or.inl rfl))}|_=>rcases c with h|h|h<;>cases h
theorem g_fmt(N:Nms names)(b:Stop s)(h1:kd s≠43)(h2:kd s≠45)(h:Pol names.length l):G true names .e (fmt names l++s) ((names.length:Int),l) s:=by match l,h with|[],h=>{(have a:T3 ([48]++s) 110 [48] s:=T3.num (by simp) (by simp;decide) b.edge;have k:ValOK true names.length (Bc ((W.decV [48]:Int):Rat)) ((names.length:Int),[]):=by have:W.decV [48]=0:=rfl;rw[this];unfold ValOK;rw[gS rfl];exact⟨rfl,h.fine⟩);have f:=G.num (ev:=true) (names:=names) a.kd (by rw[a.tk];rfl) (by rw[a.tk];simp) (by rw[a.tk];exact k);rw[a.nx]at f;exact G.expr (by show kd ([48]++s)≠45;rw[a.kd];decide) (G.term (G.atom f b.pow) (G.tend b.mul b.div)) (G.eend h1 h2)}|t::r,h=>have c:=NS N (JZ (names:=names) b r) h (t:=t) (by simp);have M:=h.mon (t:=t) (by simp);have g:=NW N b h1 h2 r [t] h;have e0:fmt names (t::r)=(if t.2.num<0 then [45]else [])++(trm names (absQ t.2) (t.1.take names.length)++fmtR names r):=rfl;rw[e0];by_cases h0:t.2.num<0;{(rw[gS h0];have a:T3 (45::(trm names (absQ t.2) (t.1.take names.length)++(fmtR names r++s))) 45 [45] _:=T3.pun (by decide);have j:[45]++(trm names (absQ t.2) (t.1.take names.length)++fmtR names r)++s=45::(trm names (absQ t.2) (t.1.take names.length)++(fmtR names r++s)):=by simp);rw[j];rw[<-a.nx]at c;have d:Pol names.length [t]:=Pol.pre (q:=r) h;have hu:=OR M (q := -1) (by decide) (by rw[Hz h0];exact d.mon0);rw[Hz h0]at hu;exact G.eneg a.kd c hu g};rw[gN h0,jn,gZ];have i:=Vd c (Or.inr (Or.inr rfl));rw[KY h0]at c i|-;exact G.expr i c g
end Pt
namespace Pt
namespace Aw
def nm:List (List UInt8):=[[120],[121]]
theorem N2:Nms nm:=⟨by decide,by decide⟩
def pa:List Pl.Tm:=[([2,1,0,0,0,0],mkRat 3 2)]
def pq:List Pl.Tm:=[([1,0,0,0,0,0],1),([0,0,0,0,0,0],-7)]
def pl:List Pl.Tm:=[([2,1,0,0,0,0],mkRat 3 2),([1,0,0,0,0,0],-1),([0,0,0,0,0,0],7)]
theorem okL:Pol nm.length pl where
 vars:=by decide
 canon:=⟨by decide,by decide,by decide⟩
 inv:=by intro t a;simp[pl]at a;rcases a with rfl|rfl|rfl<;>exact⟨rfl,by decide,rfl⟩
 sum:=by decide
 rb:=by intro t a;simp[pl]at a;rcases a with rfl|rfl|rfl<;>exact LN (by decide) (by decide) (by omega)
 len:=by decide
theorem okQ:Pol nm.length pq where
 vars:=by decide
 canon:=⟨by decide,by decide,by decide⟩
 inv:=by intro t a;simp[pq]at a;rcases a with rfl|rfl<;>exact⟨rfl,by decide,rfl⟩
 sum:=by decide
 rb:=by intro t a;simp[pq]at a;rcases a with rfl|rfl<;>exact LN (by decide) (by decide) (by omega)
 len:=by decide
theorem okA:Pol nm.length pa:=Pol.pre (q:=pl.drop 1) okL
theorem VI:Lib.decDigits 3=[51]:=by rw[Lib.decDigits];rfl
theorem Un:Lib.decDigits 2=[50]:=by rw[Lib.decDigits];rfl
theorem Ve:Lib.decDigits 7=[55]:=by rw[Lib.decDigits];rfl
theorem Vf:Lib.decDigits 1=[49]:=by rw[Lib.decDigits];rfl
theorem Vg:txt (mkRat 3 2)=[51,47,50]:=by (have h1:(mkRat 3 2).num=3:=by decide);(have h2:(mkRat 3 2).den=2:=by decide);rw[EU (by rw[h1];decide),h1,h2,gN (by decide),Un];show Lib.decDigits 3++_=_;rw[VI];rfl
theorem VJ:txt 7=[55]:=by rw[EU (by decide),gS (by decide)];show Lib.decDigits 7++_=_;rw[Ve];rfl
theorem VK:Lib.itoa 2=[50]:=by rw[show(2:Int)=((2:Nat):Int) from rfl,Ml,Un]
theorem tA:trm nm (mkRat 3 2) [2,1]=[51,47,50,42,120,94,50,42,121]:=by unfold trm;rw[gS (Or.inl (by decide)),Vg];simp[wr,VK,nm]
theorem tX:trm nm 1 [1,0]=[120]:=by unfold trm;rw[gN (by decide)];simp[wr,nm]
theorem t7:trm nm 7 [0,0]=[55]:=by unfold trm;rw[gS (Or.inl (by decide)),VJ];simp[wr]
theorem ab7:absQ (-7)=7:=by decide
theorem abm:absQ (-1)=1:=by decide
theorem ab1:absQ 1=1:=by decide
theorem VL:absQ 7=7:=by decide
theorem Uo:absQ (mkRat 3 2)=mkRat 3 2:=by decide
theorem fQ:fmt nm pq=[120,32,45,32,55]:=by show(if(1:Rat).num<0 then [45]else [])++(trm nm (absQ 1) [1,0]++(((if(-7:Rat).num<0 then [32,45,32]else [32,43,32])++trm nm (absQ (-7)) [0,0])++[]))=_;rw[ab1,ab7,tX,t7];rfl
theorem fL:fmt nm pl=[51,47,50,42,120,94,50,42,121,32,45,32,120,32,43,32,55]:=by show(if(mkRat 3 2).num<0 then [45]else [])++(trm nm (absQ (mkRat 3 2)) [2,1]++(((if(-1:Rat).num<0 then [32,45,32]else [32,43,32])++trm nm (absQ (-1)) [1,0])++(((if(7:Rat).num<0 then [32,45,32]else [32,43,32])++trm nm (absQ 7) [0,0])++[])))=_;rw[Uo,abm,VL,tA,tX,t7];rfl
def tx:List UInt8:=[51,47,50,42,120,94,50,42,121,32,45,32,40,120,32,45,32,55,41]
theorem g_tx:G true nm .e tx ((2:Int),pl) []:=by (have h41:isP 41=true:=by decide);(have h40:isP 40=true:=by decide);have a:T3 [41] 41 [41] []:=T3.pun h41;have f:Stop [41]:=⟨Ev (Or.inl h41),by rw[a.kd];decide,by rw[a.kd];decide,by rw[a.kd];decide⟩;have k:=g_fmt N2 f (by rw[a.kd];decide) (by rw[a.kd];decide) okQ;have c:T3 (40::(fmt nm pq++[41])) 40 [40] (fmt nm pq++[41]):=T3.pun h40;rw[<-c.nx]at k;have j:=G.par c.kd k a.kd;rw[a.nx]at j;have o:=G.term (G.atom j (by decide)) (G.tend (by decide) (by decide));have l:=TJ (g:=[32]) (by decide) (Or.inr (Or.inr (Or.inl rfl))) o;(obtain⟨r,m,q⟩:=KX (x:=45) (y:=[32]++(40::(fmt nm pq++[41]))) (Or.inr rfl);rw[<-q]at l;have d:=NS N2 r okA (t:=([2,1,0,0,0,0],mkRat 3 2)) (by simp[pa]);have n:tx=trm nm (absQ (mkRat 3 2)) (([2,1,0,0,0,0]:List Int).take nm.length)++(32::45::([32]++(40::(fmt nm pq++[41])))):=by show tx=trm nm (absQ (mkRat 3 2)) [2,1]++_;rw[Uo,tA,fQ];rfl);(have b:cnP pa++A3 (-1) (cnP pq)=pl:=by rw[okA.cn,okQ.cn];unfold A3;rw[gN (by decide)];show _++[([1,0,0,0,0,0],(1:Rat) * -1),([0,0,0,0,0,0],(-7:Rat) * -1)]=_;rw[oD,Rat.mul_neg,md,show -(-7:Rat)=7 from by decide];rfl);(have i:opV 45 pa pq=pl:=by unfold opV;rw[gN (by decide),gS rfl,b]);(have p:BinOK true nm.length 45 ((nm.length:Int),pa) ((nm.length:Int),pq) ((nm.length:Int),pl):=by unfold BinOK;rw[gS rfl];exact⟨_,_,rfl,rfl,by rw[i],okA.fine,okQ.fine,⟨by omega,fun _=>by rw[b];exact okL.ok,by omega⟩,by rw[i];exact okL.fine⟩);rw[n];rw[Uo]at d|-;exact G.expr (Vd d (Or.inr (Or.inr rfl))) d (G.eop (Or.inr m) l (by rw[m];exact p) (G.eend (by decide) (by decide)))
end Aw
end Pt
namespace Pt
namespace Aw
theorem vn:vNames nm=true:=by decide
theorem TK:rdP (2:Int) (vtx ((2:Int),pl))=some pl:=by have h:=(Bp okL.fine).2.1;rw[okL.cn]at h;exact h
theorem pl_fmt:fmtA (2:Int) (vtx ((2:Int),pl)) nm=([51,47,50,42,120,94,50,42,121,32,45,32,120,32,43,32,55],0):=by unfold fmtA;rw[TK];show(if _ then(if _ then _ else _)else _)=_;rw[gS vn,gS (show(nm.length:Int)=2 from rfl),fL]
theorem pl_ok:OT (2:Int) (vtx ((2:Int),pl)) nm:=by intro l h _ _;rw[TK]at h;cases h;refine⟨by rw[fL];decide,fun t a=>?_⟩;have h1:=KT (okL.rb t a);have h2:=Lv h1.1;have h3:=I4 h1.2;unfold txt;rw[gI];split;{simp;omega};simp;omega
end Aw
end Pt
theorem OU(h:Arr w g 9 [.string ⟨#[120]⟩,.string ⟨#[121]⟩]):Bt w (some ⟨g,0,none⟩) 2 2 Pt.Aw.nm := ⟨[.string ⟨#[120]⟩,.string ⟨#[121]⟩],h.sl (k:=2) (lrf _) (by decide),rfl,fun i a=>by match i,a with|0,_=>{exact⟨_,rfl,rfl⟩}|1,_=>exact⟨_,rfl,rfl⟩⟩
theorem IC(E:AE w):Calls Tryz.prog 9 #[] w (Il w):=by have a:=Arr.new w 9 [.string ⟨#[120]⟩,.string ⟨#[121]⟩];have j:Ext w (w.alloc (.cells #[.string ⟨#[120]⟩,.string ⟨#[121]⟩] 9)):=(Ext.refl w).alloc _;replace a:Arr (w.alloc (.cells #[.string ⟨#[120]⟩,.string ⟨#[121]⟩] 9)) w.heap.size 9 [.string ⟨#[120]⟩,.string ⟨#[121]⟩]:=a;have z:=qh (Mi (T:=⟨#[51,47,50,42,120,94,50,42,121,32,45,32,40,120,32,45,32,55,41]⟩) (E.ext j) (OU a) Pt.Aw.vn (by decide) (Pt.g_syn Pt.Aw.g_tx) rfl Pt.Aw.g_tx rfl);have n:=fun(D:World) (I:Ext w D) (b:Option Addr) (m d:Nat) (G:TmO D 0 b m d (vtx ((2:Int),Pt.Aw.pl))) (g:Nat) (hA:Arr D g 9 [.string ⟨#[120]⟩,.string ⟨#[121]⟩])=>qh (JX (E.ext I) G.sl (Bp Pt.Aw.okL.fine).2.2 (OU hA) (by decide) Pt.Aw.pl_ok);simp only[Pt.Aw.pl_fmt]at n;go_enter Tryz.func9,Tryz.ntmps9;go_wp2_with fail;refine z.out.mono ?_;rintro e F ⟨p,r,q,rfl,t,x⟩;have l:=j.trans t;rw[show Br ((2:Int),Pt.Aw.pl).1 p r q=.agg #[.int .i64 2,.slice p r q] from rfl];have C:(Ad 2 p r q).toArray=#[.int .i64 2,.slice p r q]:=rfl;have B:=Arr.new F 30 (Ad 0 none 0 0);clear z a j t;go_upto_region 2 with(refine Ac 2 p r q Ag B ?_;intro s i o);have v:=(l.alloc (.cells (Ad 0 none 0 0).toArray 30)).grownR o l.size;have y:=(x.ext ((Ext.refl F).alloc (.cells (Ad 0 none 0 0).toArray 30))).keptA B o;have K:=i.c 0 rfl;have L:=i.c 1 rfl;have f:=Arr.new s 9 [.string ⟨#[120]⟩,.string ⟨#[121]⟩];have k:Ext s (s.alloc (.cells #[.string ⟨#[120]⟩,.string ⟨#[121]⟩] 9)):=(Ext.refl s).alloc _;replace f:Arr (s.alloc (.cells #[.string ⟨#[120]⟩,.string ⟨#[121]⟩] 9)) s.heap.size 9 [.string ⟨#[120]⟩,.string ⟨#[121]⟩]:=f;have H:=n _ (v.trans k) p r q (y.ext k) _ f;clear n B o i x y C l f;go_wp2_with fail;refine H.out.mono ?_;rintro e J ⟨rfl,A⟩;go_wp2;go_ret;exact⟨rfl,(v.trans k).trans A⟩
theorem Rc{b:Type}{l:List (List b)}{p:List b->Bool}(a:k<l.length)(h:(l.take k).all p=true)(h1:p (l.getD k [])=true):(l.take (k+1)).all p=true:=by rw[ic a,List.all_append,h];simp[a]at h1;simp[h1]
theorem Up{b:Type}{l:List (List b)}{p:List b->Bool}(a:k<l.length)(h1:p (l.getD k [])=false):l.all p=false:=by simp[a]at h1;rw[List.all_eq_false];exact⟨l[k],j6 a,by simp[h1]⟩
theorem NZ{n c m:Nat}{xs:List (List UInt8)}(A:Bt w a n c xs):Calls Tryz.prog 22 #[.int .i64 (m:Int),.slice a n c] w fun e C=>e=.returned (.bool (xs.all (fun x=>decide (x.length<=m))))/\w=C:=by obtain⟨D,o,t,p⟩:=A;have z:n<=maxLen:=ia o.cap o.max;unfold maxLen at z;have l:=qh t;have v:=qh p;clear t p;go_enter Tryz.func22,Tryz.ntmps22;go_wp2;go_loop[5] (fun i=>∃k:Nat,k<=n/\i=.int .i64 k/\(xs.take k).all (fun x=>decide (x.length<=m))=true) (fun i=>n-(intOf i).toNat);(case atStart=>exact⟨0,gW _,rfl,rfl⟩);case round=>obtain⟨k,E,rfl,hp⟩:=hrel;have q:=qh hp;clear hp;by_cases g:k<n;{obtain⟨b,B,rfl,d⟩:=o.rd (by omega);obtain⟨s,f,j⟩:=v.out k g;have y:=d k g;rw[f]at y;have r:Hid ((xs.getD k []).length=s.size):=qh (by rw[<-j,Aa]);clear j d f;by_cases p:(m:Int)<(s.size:Int);{go_wp2;go_ret;refine⟨CC ?_,rfl⟩;rw[Up (k:=k) (by have:=l.out;omega) (by rw[r.out];simp;omega)]};go_wp2;go_round;(case rel=>exact⟨k+1,by omega,by go_num,Rc (by have:=l.out;omega) q.out (by rw[r.out];simp;omega)⟩);case measure=>simp[intOf];omega};go_wp2;go_ret;refine⟨CC ?_,rfl⟩;have h1:=q.out;rwa[gK (by have:=l.out;omega)]at h1
def JD(names:List (List UInt8)):Bool:=decide (names.length<=10) && names.all (fun x=>decide (x.length<=40))
theorem ID{names:List (List UInt8)}(h:JD names=true):∀i,i<names.length->(names.getD i []).length<=1000000:=by unfold JD at h;simp only[iA,jp,iD]at h;intro i a;have:=h.2 (names.getD i []) (by rw[gqq,gG a];exact j6 _);omega
theorem Gz{n c:Nat}{names:List (List UInt8)}(j:Bt w a n c names):Calls Tryz.prog 8 #[.slice a n c] w fun e l=>e=.returned (.bool (JD names))/\l=w:=by (have f:=qh (NZ (m:=40) j);have b:names.length=n:=by obtain⟨_,_,h2,_⟩:=j;exact h2);obtain⟨F,hF⟩:∃F,JD names=F:=⟨_,rfl⟩;unfold JD at hF;rw[b]at hF;obtain⟨q,i⟩:∃q,names.all (fun x=>decide (x.length<=40))=q:=⟨_,rfl⟩;rw[i]at f hF;have k:=qh hF;rw[show JD names=F by rw[<-hF];unfold JD;rw[b,i]];clear hF b j;by_cases h10:n<=10;{(have h1:(n:Int)<=10:=by omega);have d:Hid (q=F):=qh (by rw[<-k.out,ij h10];rfl);clear i;go_enter Tryz.func8,Tryz.ntmps8;go_wp2_with fail;refine f.out.mono ?_;rintro e o ⟨rfl,g⟩;rw[<-g];clear g o;go_wp2;go_ret;exact⟨CC d.out.symm,rfl⟩};(have h1:¬(n:Int)<=10:=by omega);have d:Hid (F=false):=qh (by rw[<-k.out,gL h10];rfl);clear i;go_enter Tryz.func8,Tryz.ntmps8;go_wp2;go_ret;exact⟨CC d.out,rfl⟩
end Go.Proofs.YtpkijbkpjhpfmaaGreatDoor
namespace Go.Proofs.YtpkijbkpjhpfmaaGreatDoor
open Tryz Go Go.RowKit Go.ChangeShapes Go.WideShapes Go.ChangeAt
variable {x:Addr} {v:Value} {w:World}
theorem GA(h:w.cell? x=some v):x.spot=none:=by unfold World.cell? at h;split at h;{cases a:x.spot with|none=>{rfl}|some s=>rw[a]at h;simp at h};cases h
theorem FP{b a i:Nat}:Addr.add ⟨b,a,none⟩ i=⟨b,a+i,none⟩:=by unfold Addr.add;split;{next h=>subst h;rfl};rfl
theorem J0:prog.cellsOf 9=1:=by kernel_rfl
end Go.Proofs.YtpkijbkpjhpfmaaGreatDoor
namespace Go.Proofs.YtpkijbkpjhpfmaaGreatDoor
open Tryz Go Go.RowKit Go.ChangeShapes Go.WideShapes Go.ChangeAt
variable {held:Bool} {cs:List Value} {base c fuel n:Nat} {a:Option Addr} {w:World}
theorem N0{H:Type}{enc:TypeId×Value->H}{x:DataW H×List MemPlace}(h:DataW.trod enc prog w base (fun _=>true) held fuel 22 cs=some x):∃a n c s,cs=[.slice a n c]/\Bt w a n c s:=by rcases open_strings underlying22 underlying9 J0 h with⟨f,_⟩|⟨y,l,c,g,f,_,o,p,q,_,d,_⟩;{exact⟨none,0,0,[],f,[],Sl.nil w,rfl,fun i j=>absurd j (by omega)⟩};(have r:g.length=c:=by simpa using q);refine⟨some y,l,c,(g.take l).map Ab,f,(g.take l).map Value.string,⟨by simp;omega,o,p,fun t=>?_⟩,by simp;omega,fun i j=>⟨g.getD i ByteArray.empty,?_,?_⟩⟩;{(have h0:=d 0 (by omega);have m:y.spot=none:=GA (x:=y) (by simpa[Addr.add]using h0);obtain⟨b,k,v⟩:=y;simp only at m;subst m;refine⟨b,k,rfl,fun i j=>?_⟩;have h1:=d i (by omega);rw[FP]at h1;rw[h1];have e:i<g.length:=by omega);simp[j,e]};{(have e:i<g.length:=by omega);simp[j,e]};(have e:i<g.length:=by omega);simp[j,e]
theorem GB{H:Type}{enc:TypeId×Value->H}{x:DataW H×List MemPlace}(h:DataW.trod enc prog w base (fun _=>true) held fuel 22 [.slice a n c]=some x):∃b,Bt w a n c b:=by obtain⟨f,i,g,b,e,d⟩:=N0 h;cases e;exact⟨b,d⟩
end Go.Proofs.YtpkijbkpjhpfmaaGreatDoor
