/- Part Pq22. -/
import Derived.Test.YtlbmnokpiilfpaaGreatDoorPq21

set_option linter.all false
set_option maxRecDepth 100000
set_option maxHeartbeats 100000000
namespace Go.Proofs.YtlbmnokpiilfpaaGreatDoor
open Go Go.RowKit
def lX:=@Rat.pow_succ
def nm:=@Rat.pow_zero
def nM:=@Rat.mul_one
def nZ:=@Rat.mul_comm
def oY:=@List.foldr_cons
def p9:=@IntWalk.u64_in
end Go.Proofs.YtlbmnokpiilfpaaGreatDoor
namespace Go.Proofs.YtlbmnokpiilfpaaGreatDoor.Pl
variable {d e g:Nat} {x:Rat}
theorem Rd(a b c:Rat):a*(b*c)=b*(a*c):=by rw[<-kW,nZ a b,kW]
def grt(l:List Tm)(v:Nat):Nat:=l.foldl (fun a t=>max a (t.1.getD v 0).toNat) 0
theorem L7(v:Nat):∀ (l:List Tm) (a:Nat),a<=l.foldl (fun a t=>max a (t.1.getD v 0).toNat) a/\∀ t∈l,(t.1.getD v 0).toNat<=l.foldl (fun a t=>max a (t.1.getD v 0).toNat) a
 | [],a=>⟨lrf _,by simp⟩
 | t :: r,a=>by
  have h:=L7 v r (max a (t.1.getD v 0).toNat);refine⟨gJ (Nat.le_max_left _ _) h.1,fun s b => ?_⟩;rcases iE.1 b with rfl|b
  · exact gJ (Nat.le_max_right _ _) h.1
  · exact h.2 s b
theorem le_grt{l:List Tm}{t:Tm}(v:Nat)(h:t∈l):(t.1.getD v 0).toNat<=grt l v:=(L7 v l 0).2 t h
theorem grt_take(l:List Tm)(v k:Nat)(a:k<l.length):grt (l.take (k+1)) v=max (grt (l.take k) v) ((l.getD k ([],0)).1.getD v 0).toNat:=by
 unfold grt;rw[gM a,mJ];simp[a]
def pwz(x:Rat)(g e:Nat):Int:=x.num^e*(x.den:Int)^(g-e)
theorem FL(z:Int):∀ e:Nat,((z^e:Int):Rat)=(z:Rat)^e
 | 0=>by rw[Int.pow_zero,nm];rfl
 | e+1=>by rw[Int.pow_succ,lX,lY,FL z e]
theorem TR(a b:Rat):∀ e:Nat,(a*b)^e=a^e*b^e
 | 0=>by simp[nm]
 | e+1=>by rw[lX,lX,lX,TR a b e];simp only[kW,nZ,Rd]
theorem TS(a:Rat)(i:Nat):∀ j:Nat,a^(i+j)=a^i*a^j
 | 0=>by simp[nm]
 | j+1=>by rw[<-jR,lX,lX,TS a i j,kW]
theorem Xe(h:e<=g):((pwz x g e:Int):Rat)=x^e*(x.den:Rat)^g:=by
 unfold pwz;rw[lY,FL,FL,<-WB x,TR,Rat.intCast_natCast,kW,<-TS,Nat.add_sub_cancel' h]
def TT(pt:List Rat)(es:List Int):Nat->Rat
 | 0=>1
 | k+1=>TT pt es k*(pt.getD k 0)^(es.getD k 0).toNat
def evq(pt:List Rat)(l:List Tm):Rat:=l.foldr (fun t a=>t.2*TT pt t.1 pt.length+a) 0
def zev(d:Nat)(g:Nat->Nat)(pt:List Rat)(t:Tm):Nat->Int
 | 0=>zsc t.2 d
 | k+1=>zev d g pt t k*pwz (pt.getD k 0) (g k) (t.1.getD k 0).toNat
def dev(d:Nat)(g:Nat->Nat)(pt:List Rat):Nat->Nat
 | 0=>d
 | k+1=>dev d g pt k*(pt.getD k 0).den^(g k)
theorem IP(z:Nat):∀ e:Nat,((z^e:Nat):Rat)=(z:Rat)^e
 | 0=>by rw[kn,nm];rfl
 | e+1=>by rw[ip,lX,mB,IP z e]
theorem TU{d:Nat}{g:Nat->Nat}{pt:List Rat}{t:Tm}(a:t.2.den∣d):∀ k,(∀ v,v<k->(t.1.getD v 0).toNat<=g v)->((zev d g pt t k:Int):Rat)=t.2*TT pt t.1 k*(dev d g pt k:Rat)
 | 0,_=>by
  unfold zev TT dev;rw[MT a,nM]
 | k+1,h=>by
  unfold zev TT dev;rw[lY,TU a k (fun v b=>h v (by omega)),Xe (h k (by omega)),mB,IP];simp only[kW,nZ,Rd]
theorem dev_ne{d:Nat}{g:Nat->Nat}{pt:List Rat}(a:d≠0):∀ k,dev d g pt k≠0
 | 0=>a
 | k+1=>od (dev_ne a k) (Nat.ne_of_gt (kG (pt.getD k 0).den_pos))
def zsum(f:Tm->Int)(l:List Tm):Int:=l.foldl (fun a t=>a+f t) 0
theorem Kt(f:Tm->Int):∀ (l:List Tm) (a:Int),l.foldl (fun a t=>a+f t) a=a+l.foldr (fun t a=>f t+a) 0
 | [],a=>by simp
 | t :: r,a=>by rw[m7,Kt f r,oY];omega
theorem zsum_take(f:Tm->Int)(l:List Tm)(k:Nat)(a:k<l.length):zsum f (l.take (k+1))=zsum f (l.take k)+f (l.getD k ([],0)):=by
 unfold zsum;rw[gM a,mJ];simp[a]
theorem TV{d:Nat}{g:Nat->Nat}{pt:List Rat}:∀ {l:List Tm},(∀ t∈l,t.2.den∣d/\∀ v,v<pt.length->(t.1.getD v 0).toNat<=g v)->((l.foldr (fun t a=>zev d g pt t pt.length+a) 0:Int):Rat)=evq pt l*(dev d g pt pt.length:Rat)
 | [],_=>by simp[evq]
 | t :: r,h=>by
  have ih:=TV (l:=r) (fun s c=>h s (by simp[c]));have b:=h t (by simp);unfold evq at ih |-;rw[oY,oY,mZ,ih,TU b.1 _ b.2,Rat.add_mul]
theorem ev_done{pt:List Rat}{l:List Tm}(b:d≠0)(h:∀ t∈l,t.2.den∣d) :
 mkRat (zsum (fun t=>zev d (grt l) pt t pt.length) l) (dev d (grt l) pt pt.length)=evq pt l:=by
 have h0:=dev_ne (g:=grt l) (pt:=pt) b pt.length;rw[F4];unfold zsum;rw[Kt,Int.zero_add,TV (fun t a=>⟨h t a,fun v _=>le_grt v a⟩),kW,oD _ (by simpa using h0),nM]
end Go.Proofs.YtlbmnokpiilfpaaGreatDoor.Pl
namespace Go.Proofs.YtlbmnokpiilfpaaGreatDoor
open Tryz Go Go.RowKit
variable {f:Act} {ops:Array Oper} {va:Array Value} {s:Bool} {Q:Exit->Act->World->Prop} {z z':Int} {e:List Int} {rest:List Oper} {c d i m n v:Nat} {o:Oper} {x y:Operand} {A B a b:Option Addr} {w:World}
theorem L8(w:World):GW w (Ac false none 0 0) 0:=⟨false,none,0,0,rfl,qh rfl,Wd.nil _⟩
def Di(w:World)(base g n:Nat)(F:Nat->Int):Prop:=∃ rs,AR w base 83 2 (some ⟨g,0,none⟩) n n rs/\nuR rs/\∀ i,i<n->GW w (rs.getD i []) (F i)
section
variable {w w':World} {base g n:Nat} {F G:Nat->Int}
theorem Di.ext(h:Di w base g n F)(e:Ext w w'):Di w' base g n F:=by
 obtain⟨b,h1,h2,h3⟩:=h;exact⟨b,h1.ext e,h2,fun i a=>(h3 i a).ext e⟩
theorem Di.congr(h:Di w base g n F)(e:∀ i,i<n->G i=F i):Di w base g n G:=by
 obtain⟨b,h1,h2,h3⟩:=h;exact⟨b,h1,h2,fun i a=>by rw[e i a];exact h3 i a⟩
theorem Di.mono{a:Nat}(h:Di w base g n F)(b:a<=base):Di w a g n F:=by
 obtain⟨c,h1,h2,h3⟩:=h;exact⟨c,h1.mono b,h2,h3⟩
theorem Di.noU(h:Di w base g n F):NoU w g:=by
 obtain⟨a,h1,h2,h3⟩:=h;exact h1.noU h2
theorem Di.lt(h:Di w base g n F):base<=g/\g<w.heap.size:=by
 obtain⟨a,h1,h2,h3⟩:=h;exact h1.lt rfl
theorem Di.kept{a:Nat}(h:Di w base g n F)(d:NoU w a)(c:w.grownBy w' (some a))(b:g≠a):Di w' base g n F:=by
 obtain⟨f,h1,h2,h3⟩:=h;exact⟨f,h1.kept c (Or.inr (by simpa[blk]using b)),h2,fun i e=>(h3 i e).keptU d c⟩
theorem Di.at(h:Di w base g n F){i:Nat}(hi:i<n):∃ s a m c,w.cell? ⟨g,i*2,none⟩=some (.bool s)/\w.cell? ⟨g,i*2+1,none⟩=some (.slice a m c)/\Hid (decide (F i<0)=s)/\Wd w a m c (F i).natAbs:=by
 obtain⟨r,h1,h2,h3⟩:=h;obtain⟨s,a,m,c,l,o,p⟩:=h3 i hi;have k:=h1.slk (by omega);obtain⟨b,q,f,j⟩:=k.rd (by omega);simp only[gK,iV,jp]at f;obtain⟨rfl,rfl⟩:=f;have d:=j i hi 0 (by omega);have e:=j i hi 1 (by omega);rw[l]at d e;simp only[Ac,kD,kQ,iz,iO]at d e;exact⟨s,a,m,c,d,e,o,p⟩
theorem Di.made(h:AR w base 83 2 (some ⟨g,0,none⟩) n n (List.replicate n (Ac false none 0 0))):Di w base g n (fun _=>0):=by
 refine⟨_,h,fun r b u hu=>by rw[(jb.1 b).2]at hu;exact Ax _ _ _ _ u hu,fun i a => ?_⟩;have:(List.replicate n (Ac false none 0 0)).getD i []=Ac false none 0 0:=by simp[a]
 rw[this];exact L8 w
theorem M6(k:o.guard=none)(B:o.op = .store 83 x y)
 (G:f.eval x = .pointer (some ⟨g,i*2,none⟩)) (H:f.eval y = .agg va) (l:va=(Ac s a m c).toArray) (h:Di w base g n F) (hi:i<n) (D:Hid (decide (z<0)=s)) (E:Wd w a m c z.natAbs)
 (q:∀ b,Di b base g n (fun j=>if j=i then z else F j)->w.grownBy b (some g)->wpList prog ops Q rest (f.put o.dst undef) b):wpList prog ops Q (o :: rest) f w:=by
 have p:=h.noU;obtain⟨I,h1,h2,h3⟩:=h;have A:=h1.len (by omega);refine Id (vs:=Ac s a m c) k B (by omega) Ai G H l h1 hi rfl (Ae _ _ _ _) fun b t d=>q b ⟨_,t,?_,fun j v => ?_⟩ d
 · intro r C u hu;rcases j7 C with h|h
   · exact h2 r h u hu
   · rw[h]at hu;exact Ax _ _ _ _ u hu
 · by_cases e:j=i
   · subst e;dsimp only;rw[gY rfl,gqq,jF (by rw[A];exact hi)];exact GW.keptU ⟨s,a,m,c,rfl,D,E⟩ p d
   · dsimp only;rw[gT e,gqq,List.getElem?_set_ne (by omega),<-gqq];exact(h3 j v).keptU p d
def Fx(w:World)(g:Nat)(z:Int):Prop:=∃ row,Arr w g 83 row/\GW w row z
theorem Fx.ext{z:Int}(h:Fx w g z)(e:Ext w w'):Fx w' g z:=by
 obtain⟨a,h1,h2⟩:=h;exact⟨a,h1.ext e,h2.ext e⟩
theorem Fx.lt{z:Int}(h:Fx w g z):g<w.heap.size:=by
 obtain⟨a,h1,h2⟩:=h;exact h1.lt
theorem Fx.noU{z:Int}(h:Fx w g z):NoU w g:=by
 obtain⟨b,h1,s,a,m,c,rfl,h2⟩:=h;exact h1.noU (Ax _ _ _ _)
theorem Fx.kept{z:Int}{a:Nat}(h:Fx w g z)(e:NoU w a)(d:w.grownBy w' (some a))(b:g≠a):Fx w' g z:=by
 obtain⟨c,h1,h2⟩:=h;exact⟨c,h1.kept d (by simpa using b),h2.keptU e d⟩
theorem Fx.at(h:Fx w g z):∃ s a m c,w.cell? ⟨g,0,none⟩=some (.bool s)/\w.cell? ⟨g,1,none⟩=some (.slice a m c)/\Hid (decide (z<0)=s)/\Wd w a m c z.natAbs:=by
 obtain⟨e,h1,s,a,m,c,rfl,b,d⟩:=h;exact⟨s,a,m,c,h1.cell (i:=0) (by simp[Ac]),h1.cell (i:=1) (by simp[Ac]),b,d⟩
theorem Re(d:o.guard=none)(n:o.op = .store 83 x y)
 (r:f.eval x = .pointer (some ⟨g,0,none⟩)) (t:f.eval y = .agg va) (e:va=(Ac s a m c).toArray) (h:Fx w g z') (p:Hid (decide (z<0)=s)) (q:Wd w a m c z.natAbs)
 (j:∀ b,Fx b g z->w.grownBy b (some g)->wpList prog ops Q rest (f.put o.dst undef) b):wpList prog ops Q (o :: rest) f w:=by
 have l:=h.noU;obtain⟨v,h1,D,A,C,B,rfl,_⟩:=h;exact Aa (vs:=Ac s a m c) d n r t e Ai h1 rfl (Ae _ _ _ _) fun b k i=>j b ⟨_,k,GW.keptU ⟨s,a,m,c,rfl,p,q⟩ l i⟩ i
theorem Fx.new(w:World):Fx (w.alloc (.cells (Ac false none 0 0).toArray 83)) w.heap.size 0:=⟨_,Arr.new w _ _,L8 _⟩
end
structure EvB(l:List Pl.Tm)(pt:List Rat):Prop where
 co:∀ t∈l,Pl.RB 2400 t.2
 po:∀ q∈pt,Pl.RB 2400 q
 ex:∀ t∈l,∀ e∈t.1,0<=e/\e<=1048576
 lc:∀ k,Bk ((l.map (·.2)).take k)<P2 9600
 pn:∀ v,v<pt.length->∀ e,e<=Pl.grt l v->(pt.getD v 0).num.natAbs^e<P2 1200
 pd:∀ v,v<pt.length->∀ e,e<=Pl.grt l v->(pt.getD v 0).den^e<P2 1200
 ze:∀ t∈l,∀ k,k<=pt.length->(Pl.zev (Bk (l.map (·.2))) (Pl.grt l) pt t k).natAbs<P2 9600
 de:∀ k,k<=pt.length->Pl.dev (Bk (l.map (·.2))) (Pl.grt l) pt k<P2 9600
 su:(Pl.zsum (fun t=>Pl.zev (Bk (l.map (·.2))) (Pl.grt l) pt t pt.length) l).natAbs<P2 9600
def EvS(w:World)(R DB S N:Nat)(F:Nat->Int)(z:Int)(wr:World):Prop:=Ext w wr/\Arr wr R 85 (Al false none 0 0 false none 0 0)/\Fx wr DB z/\Di wr R S N F
theorem EvS.ext{w:World}{R a S N:Nat}{F:Nat->Int}{z:Int}{wr b:World}(h:EvS w R a S N F z wr)(e:Ext wr b):EvS w R a S N F z b:=⟨h.1.trans e,h.2.1.ext e,h.2.2.1.ext e,h.2.2.2.ext e⟩
theorem TW{v B:Nat}:∀ (l:List Pl.Tm) (a:Nat),a<=B->(∀ t∈l,(t.1.getD v 0).toNat<=B)->l.foldl (fun a t=>max a (t.1.getD v 0).toNat) a<=B
 | [],_,ha,_=>ha
 | t :: r,_,ha,h=>TW r _ (Nat.max_le.2 ⟨ha,h t (by simp)⟩) (fun s b=>h s (by simp[b]))
theorem Ku(h:∀ x∈e,0<=x/\x<=1048576):0<=e.getD v 0/\e.getD v 0<=1048576:=by
 rw[gqq];cases a:e[v]? with
 | none=>simp
 | some x=>exact h x (im a)
theorem Wd.blt{x:Nat}(h:Wd w a n c x)(h0:0<n){g:Nat}(f:blk a=some g):g<w.heap.size:=by
 obtain⟨i,h1,_⟩:=h;obtain⟨b,o,rfl,e⟩:=h1.at (j:=0) h0;have d:b=g:=by simpa[blk]using f
 subst d;exact jq w _ (e 0 h0)
theorem Fh(z:Int)(e:Nat):(z^e).natAbs=z.natAbs^e:=Int.natAbs_pow z e
theorem Rf(h6:e.length=6)(f:v<6):(As e s a n c b m d).getD v undef = .int .i64 (e.getD v 0):=by
 unfold As;rw[gqq,gZ (by simp[h6,f])];simp[h6,f]
theorem Sv{N C M D:Nat}{l:List Pl.Tm}{pt:List Rat}(hT:AM w)(hL:Bn w A N C l)(hP:Ex w B M D pt)(hM:M<=6)(hN:N<=1000000)(hB:EvB l pt) :
 Calls prog 123 #[.slice A N C,.slice B M D] w (GN w (Pl.evq pt l)):=by
 have bF:=fun(o:World) (r:Ext w o)=>qh (Co (hT.ext r) (hL.ext r) hN (fun q hq=>by obtain⟨t,ht,rfl⟩:=ie.1 hq;exact(hB.co t ht).2) hB.lc);obtain⟨fr,hS,cc,hR⟩:=hL;obtain⟨fq,eE,da,cV⟩:=hP;obtain⟨F,hd0⟩:∃ d,Bk (l.map (·.2))=d:=⟨_,rfl⟩;rw[hd0]at bF;have ak:=qh hd0;have HB:=qh hB;have HR:=qh hR;have ea:=qh cV;have ab:=qh cc;have ac:=qh da;have ek:Hid (F<P2 9600):=qh (by rw[<-hd0];exact hB.de 0 (gO _));clear hB hR cV cc da hd0
 go_enter func123,ntmps123
 go_upto_region 1 with(fail)
 refine AP ?_;intro w0 bv cE ay;have bl:Arr w0 w.heap.size 85 (Al false none 0 0 false none 0 0):=cE;clear cE ay
 go_wp2_with fail
 refine(bF _ bv).out.mono ?_;rintro e w1 ⟨s1,a1,n1,c1,rfl,ba,eb,dg⟩;have hY:=Fx.new w1;have eJ:(Ac s1 a1 n1 c1).toArray=#[.bool s1,.slice a1 n1 c1]:=rfl
 go_upto_region 2 with(refine Re (z:=(F:Int)) rfl rfl rfl rfl rfl hY eb (dg.ext ((Ext.refl w1).alloc _)) ?_;intro w2 bt d5)
 have bw:Ext w1 w2:=((Ext.refl w1).alloc _).grownR d5 (lrf _);have bk:=(bv.trans ba).trans bw;have bR:=(bl.ext ba).ext bw;have eC:w.heap.size<w1.heap.size:=(bl.ext ba).lt;clear hY d5 dg bw bl bv ba eJ bF;generalize w1.heap.size=DB at *
 go_upto_region 3 with(refine E0 rfl rfl (by kernel_rfl) J7 rfl rfl (by omega) (by unfold maxLen;omega) ?_;intro w3 cQ bc)
 have bd:=(Di.made cQ).mono bk.size;have cG:=bt.ext bc;have bi:=bR.ext bc;have es:DB<w2.heap.size:=bt.lt;have c4:=bk.trans bc;clear cQ bc bt bR;obtain⟨R,eD⟩:∃ x,w.heap.size=x:=⟨_,rfl⟩;obtain⟨S,cW⟩:∃ x,w2.heap.size=x:=⟨_,rfl⟩;rw[cW]at bd es |-;rw[eD]at bi eC bd |-;have aD:EvS w R DB S N (fun _=>0) (F:Int) w3:=⟨c4,bi,cG,bd⟩;clear c4 bi cG bd cW bk;go_wp2
 go_loopw[28] (fun iv wr=>∃ k:Nat,iv = .int .i64 k/\k<=N/\EvS w R DB S N (fun i=>if i<k then Pl.zsc (l.getD i ([],0)).2 F else 0) (F:Int) wr) (fun iv _=>N-(intOf iv).toNat)
 case atStart=>exact⟨0,rfl,gO _,aD.1,aD.2.1,aD.2.2.1,aD.2.2.2.congr (fun i _=>by simp)⟩
 case round =>
  clear aD;obtain⟨k,rfl,hk,s⟩:=hrel;by_cases aQ:k<N
  · have T:=hS.ext s.1;obtain⟨bb,bQ,rfl,_⟩:=T.rd (by omega);obtain⟨sx,V,nx,Z,W,mx,dx,H,h6,ao⟩:=HR.out k aQ;have bs:Hid (Pl.RB 2400 (l.getD k ([],0)).2):=qh (HB.out.co _ (by simp[ab.out,aQ]))
    have cp:Hid (∀ i,(if i<k+1 then Pl.zsc (l.getD i ([],0)).2 F else 0)=if i=k then Pl.zsc (l.getD k ([],0)).2 F else if i<k then Pl.zsc (l.getD i ([],0)).2 F else 0):=qh fun i=>by
     by_cases e:i=k
     · subst e;rw[gY (by omega),gY rfl]
     · rw[gT e];by_cases e2:i<k
       · rw[gY e2,gY (by omega)]
       · rw[gT e2,gT (by omega)]
    generalize aR:l.getD k ([],0)=t at *
    clear aR;obtain⟨te,tq⟩:=t;obtain⟨x0,x1,x2,x3,x4,x5,af⟩:=Bt h6;simp only at af H ao bs cp;subst af;have hY:=Arr.new wr 92 (As [0,0,0,0,0,0] false none 0 0 none 0 0)
    go_upto_region 6 with(first
     | (refine Bg rfl rfl At rfl T aQ ?_;rw[H])
     | (refine Aa (vs:=As [x0,x1,x2,x3,x4,x5] sx V nx Z W mx dx) rfl rfl rfl rfl rfl At hY rfl AI ?_;intro w4 aK d6))
    have cI:Ext wr w4:=((Ext.refl wr).alloc _).grownR d6 (lrf _);have b3:=s.ext cI;have ce:=ao.ext b3.1;clear hY d6 s cI H h6 T ao;generalize wr.heap.size=X at *
    have c6:=aK.c 6 rfl;have c7:=aK.c 7 rfl;have c8:=aK.c 8 rfl;have c9:=aK.c 9 rfl;obtain⟨sd,ad,nd,cd,aI,aJ,al,ap⟩:=b3.2.2.1.at
    have dd:=qh (JZ (v := .agg #[.bool sx,.slice V nx Z,.bool false,.slice W mx dx]) (q:=tq) ⟨Al sx V nx Z false W mx dx,rfl,ce⟩ (v' := .agg #[.bool sd,.slice ad nd cd]) (k:=F) ⟨sd,ad,nd,cd,rfl,al,ap⟩ bs.out.1 (Af bs.out.2 (by omega)) ek.out);clear aK ce al ap
    go_wp2_with fail
    refine dd.out.mono ?_;rintro e w5 ⟨s5,a5,n5,c5,rfl,cJ,ec,eP⟩;have b4:=b3.ext cJ;have fF:(Ac s5 a5 n5 c5).toArray=#[.bool s5,.slice a5 n5 c5]:=rfl;have cM:=b4.2.2.2;clear dd c6 c7 c8 c9 aI aJ b3 cJ
    go_wp2_with(refine M6 (z:=Pl.zsc tq F) rfl rfl rfl rfl rfl cM aQ ec eP ?_;intro w6 ew bG)
    go_roundw
    case rel =>
     have eF:=cM.noU;exact⟨k+1,by go_num,by omega,b4.1.grownR bG (by omega),b4.2.1.kept bG (by simp;omega),b4.2.2.1.kept eF bG (by omega),ew.congr (fun i _=>cp.out i)⟩
    case measure=>simp[intOf];omega
  · have eI:k=N:=by omega
    subst eI;have cf:EvS w R DB S k (fun i=>Pl.zev F (Pl.grt l) pt (l.getD i ([],0)) 0) (Pl.dev F (Pl.grt l) pt 0:Int) wr:=⟨s.1,s.2.1,s.2.2.1,s.2.2.2.congr (fun i hi=>by rw[gY hi];rfl)⟩;clear s hk aQ;go_wp2;obtain⟨wo,rfl⟩:∃ x,x=wr:=⟨_,rfl⟩
    go_loopw[43] (fun iv wr=>∃ v:Nat,iv = .int .i64 v/\v<=M/\EvS w R DB S k (fun i=>Pl.zev F (Pl.grt l) pt (l.getD i ([],0)) v) (Pl.dev F (Pl.grt l) pt v:Int) wr) (fun iv _=>M-(intOf iv).toNat)
    case atStart=>exact⟨0,rfl,gO _,cf⟩
    case round =>
     clear cf;obtain⟨v,rfl,hv,s⟩:=hrel;by_cases aT:v<M
     · have T:=eE.ext s.1;obtain⟨bb,bQ,rfl,_⟩:=T.rd (by omega);obtain⟨sx,V,nx,Z,W,mx,dx,H,eg,bJ,bK⟩:=ea.out v aT;generalize dc:pt.getD v 0=O at *
       have aH:=qh dc;clear dc;have eL:(Al sx V nx Z false W mx dx).toArray=#[.bool sx,.slice V nx Z,.bool false,.slice W mx dx]:=rfl;have hY:=Arr.new wr 85 (Al false none 0 0 false none 0 0)
       go_upto_region 11 with(first
        | (refine Bg rfl rfl Ak rfl T aT ?_;rw[H])
        | (refine Aa (vs:=Al sx V nx Z false W mx dx) rfl rfl rfl rfl rfl Ak hY rfl (Aq _ _ _ _ _ _ _ _) ?_;intro w7 aq d7))
       have cK:Ext wr w7:=((Ext.refl wr).alloc _).grownR d7 (lrf _);have aE:=s.ext cK;have dV:=bJ.ext aE.1;have dW:=bK.ext aE.1;have fD:S<wr.heap.size:=s.2.2.2.lt.2;clear hY d7 s cK H T eL;generalize wr.heap.size=X at *
       have x0:=aq.c 0 rfl;have x1:=aq.c 1 rfl;have x2:=aq.c 2 rfl;have x3:=aq.c 3 rfl;have cw:CJ w (Al sx V nx Z false W mx dx) O:=⟨sx,V,nx,Z,W,mx,dx,rfl,eg,bJ,bK⟩;have cF:=aq;clear aq dV dW bJ bK;go_wp2;obtain⟨eV,rfl⟩:∃ x,x=w7:=⟨_,rfl⟩
       go_loopw[11,50] (fun gv iv wr=>∃ j:Nat,iv = .int .i64 j/\j<=k/\gv = .int .i64 (Pl.grt (l.take j) v:Int)/\Ext eV wr) (fun _ iv _=>k-(intOf iv).toNat)
       case atStart=>exact⟨0,rfl,gO _,by simp[Pl.grt],Ext.refl _⟩
       case round =>
        obtain⟨j,rfl,hj,rfl,hE⟩:=hrel;by_cases aO:j<k
        · have T:=hS.ext (aE.1.trans hE);obtain⟨bb,bQ,rfl,_⟩:=T.rd (by omega);obtain⟨s8,a8,n8,c8,b8,m8,d8,H,h6,ao⟩:=HR.out j aO;have bq:Hid (Pl.grt (l.take (j+1)) v=max (Pl.grt (l.take j) v) ((l.getD j ([],0)).1.getD v 0).toNat):=qh (Pl.grt_take l v j (by rw[ab.out];exact aO));have aM:0<=(l.getD j ([],0)).1.getD v 0:=(Ku (HB.out.ex (l.getD j ([],0)) (by simp[ab.out,aO]))).1;obtain⟨ev,U⟩:∃ ev,Hid ((l.getD j ([],0)).1.getD v 0=ev):=⟨_,qh rfl⟩;rw[U.out]at bq aM;obtain⟨en,rfl⟩:∃ en:Nat,ev=(en:Int):=⟨ev.toNat,by omega⟩
          rw[jc]at bq;generalize aR:l.getD j ([],0)=t at *
          clear aR ao aM;obtain⟨te,tq⟩:=t;obtain⟨y0,y1,y2,y3,y4,y5,af⟩:=Bt h6;simp only at af H U;subst af;have hY:=Arr.new wr 92 (As [0,0,0,0,0,0] false none 0 0 none 0 0)
          go_upto_region 15 with(first
           | (refine Bg rfl rfl At rfl T aO ?_;rw[H])
           | (refine Aa (vs:=As [y0,y1,y2,y3,y4,y5] s8 a8 n8 c8 b8 m8 d8) rfl rfl rfl rfl rfl At hY rfl AI ?_;intro w8 aL aN))
          have a0:Ext wr w8:=((Ext.refl wr).alloc _).grownR aN (lrf _);have e0:w8.cell? ⟨wr.heap.size,v,none⟩=some (.int .i64 (en:Int)):=by
           rw[aL.cell (i:=v) (by simp[As,Al,Ac];omega),Rf rfl (by omega),U.out]
          clear hY aN H T aL h6 U;go_wp2;go_roundw
          case rel=>exact⟨j+1,by go_num,by omega,by rw[bq.out];simp;omega,hE.trans a0⟩
          case measure=>simp[intOf];omega
        · have eH:j=k:=by omega
          subst eH;have cq:Hid (Pl.grt (l.take j) v=Pl.grt l v):=qh (by rw[gG (by rw[ab.out];exact lrf _)]);rw[cq.out];have ey:Pl.grt l v<=1048576:=TW l 0 (by omega) (fun t ht=>by have:=Ku (v:=v) (HB.out.ex t ht);omega);have aA:Hid (∀ e,e<=Pl.grt l v->O.num.natAbs^e<P2 1200):=qh (by have h1:=HB.out.pn v (by rw[ac.out];exact aT);rw[aH.out]at h1;exact h1);have ag:Hid (∀ e,e<=Pl.grt l v->O.den^e<P2 1200):=qh (by have h1:=HB.out.pd v (by rw[ac.out];exact aT);rw[aH.out]at h1;exact h1)
          have cv:Hid (Pl.RB 2400 O):=qh (by
           have h1:=HB.out.po (pt.getD v 0) (by simp[ac.out,aT]);rw[aH.out]at h1
           exact h1)
          have e7:Hid (O.num.natAbs<P2 2496):=qh (Af cv.out.1 (by omega));have bW:Hid ((O.den:Int).natAbs<P2 2496):=qh (Af cv.out.2 (by omega));obtain⟨G,hG⟩:∃ g,Pl.grt l v=g:=⟨_,rfl⟩;rw[hG]at ey aA ag |-;have bp:=qh hG;have b5:=aE.ext hE;have aW:=cF.ext hE;have dJ:=aW.lt;have eO:IntKind.i64.wrap ((G:Int)+1)=((G+1:Nat):Int):=by rw[gI _ (by omega)];omega
          obtain⟨wa,rfl⟩:∃ x,x=wr:=⟨_,rfl⟩;clear aE cF cq hG aO hj hE x0 x1 x2 x3
          go_upto_region 18 with(refine E0 (n:=G+1) rfl rfl (by kernel_rfl) J7 rfl rfl (by omega) (by unfold maxLen;omega) ?_;intro w9 cR cL)
          have bB:=Di.made cR;have dP:=b5.1.size;obtain⟨P,eA⟩:∃ x,wa.heap.size=x:=⟨_,rfl⟩;rw[eA]at bB dJ dP |-;clear cR eO;go_wp2
          go_loopw[66] (fun iv wq=>∃ I:Nat,iv = .int .i64 I/\I<=G+1/\Ext wa wq/\Di wq P P (G+1) (fun i=>if i<I then Pl.pwz O G i else 0)) (fun iv _=>G+1-(intOf iv).toNat)
          case atStart=>exact⟨0,rfl,gO _,cL,bB.congr (fun i _=>by simp)⟩
          case round =>
           clear bB cL;obtain⟨I,rfl,eG,ar,hP⟩:=hrel;by_cases d4:I<G+1
           · have aB:=aW.ext ar;have au:=cw.ext (b5.1.trans ar)
             have e5:Hid (∀ i,(if i<I+1 then Pl.pwz O G i else 0)=if i=I then Pl.pwz O G I else if i<I then Pl.pwz O G i else 0):=qh fun i=>by
              by_cases e:i=I
              · subst e;rw[gY (by omega),gY rfl]
              · rw[gT e];by_cases e2:i<I
                · rw[gY e2,gY (by omega)]
                · rw[gT e2,gT (by omega)]
             have F:=aB.c 0 rfl;have d1:=aB.c 1 rfl;have d2:=aB.c 2 rfl;have d3:=aB.c 3 rfl;have e8:=fun(o:World) (r:Ext wr o)=>qh (Vs (v := .agg #[.bool sx,.slice V nx Z,.bool false,.slice W mx dx]) (q:=O) ⟨Al sx V nx Z false W mx dx,rfl,au.ext r⟩);have bn:=fun(o:World) (r:Ext wr o)=>qh (Jj (v := .agg #[.bool sx,.slice V nx Z,.bool false,.slice W mx dx]) (q:=O) ⟨Al sx V nx Z false W mx dx,rfl,au.ext r⟩)
             have e9:=fun(o:World) (x1:Value) (h1:AF o x1 O.num)=>qh (MI (e:=I) h1 e7.out (by omega) (Af (aA.out I (by omega)) (by omega)));have br:=fun(o:World) (x1:Value) (h1:AF o x1 (O.den:Int))=>qh (MI (e:=G-I) h1 bW.out (by omega) (Af (ag.out (G-I) (by omega)) (by omega)))
             have aG:=fun(o:World) (x1 x2:Value) (h1:AF o x1 (O.num^I)) (h2:AF o x2 ((O.den:Int)^(G-I)))=>qh (CA h1 h2 (by rw[Fh];exact Af (aA.out I (by omega)) (by omega)) (by rw[Fh];exact Af (ag.out (G-I) (by omega)) (by omega)) (Or.inl (by rw[Fh];exact Af (aA.out I (by omega)) (by omega))));have dK:IntKind.u64.wrap (I:Int)=(I:Int):=p9 _ (by omega);have fg:IntKind.u64.wrap ((G:Int)-(I:Int))=((G-I:Nat):Int):=by rw[p9 _ (by omega)];omega
             have fh:IntKind.i64.wrap ((G:Int)-(I:Int))=(G:Int)-(I:Int):=gI _ (by omega);clear aB au;go_wp2;have ae:=fun(o:World) (r:Ext wr o)=>qh (And.intro (r.cell F) (And.intro (r.cell d1) (And.intro (r.cell d2) (r.cell d3))))
             refine Ab (by kernel_rfl) (fun o=>Ext wr o)
              [he (.slice (some ⟨P,0,none⟩) (G+1) (G+1)),
 he (.int .i64 (I:Int)),
 he (.agg #[.bool sx,.slice V nx Z,.bool false,.slice W mx dx]),
 hp (fun v o=>NI (O.num) v o),
 he (.int .i64 (I:Int)),
 he (.int .u64 (I:Int)),
 hp (fun v o=>NI (O.num^I) v o),
 he (.agg #[.bool sx,.slice V nx Z,.bool false,.slice W mx dx]),
 hp (fun v o=>NI ((O.den:Int)) v o),
 he (.int .i64 (G:Int)),
 he (.int .i64 (I:Int)),
 he (.int .i64 ((G:Int)-(I:Int))),
 he (.int .u64 ((G-I:Nat):Int)),
 hp (fun v o=>NI ((O.den:Int)^(G-I)) v o),
 hp (fun v o=>NI (Pl.pwz O G I) v o)]
              (by kernel_rfl) (fun _ _ e h=>h.trans e) ((Ext.refl wr).drew) ⟨trivial,trivial,trivial,NI.x _,trivial,trivial,NI.x _,trivial,NI.x _,trivial,trivial,trivial,trivial,NI.x _,NI.x _,trivial⟩ ⟨?o0,?o1,?o2,?o3,?o4,?o5,?o6,?o7,?o8,?o9,?o10,?o11,?o12,?o13,?o14,trivial⟩ ?fin
             case o0 | o1 | o4 | o9 | o10=>exact omv
             case o2 | o7=>exact ol4
             case o3 =>
              refine Ag rfl fun Q o r E aa h => ?_;have e1:Q (.tmp 71)=(.agg #[.bool sx,.slice V nx Z,.bool false,.slice W mx dx]):=h.2.1;obtain⟨a3,a4,a6,a7⟩:=(ae o r).out;refine⟨188,#[.agg #[.bool sx,.slice V nx Z,.bool false,.slice W mx dx]],by go_simp,((e8 o r).out).mono ?_⟩;rintro e w' ⟨s',a',n',c',rfl,J,L,K⟩;exact⟨_,rfl,J,s',a',n',c',rfl,L,K⟩
             case o5 =>
              refine Aj rfl fun Q o r E h => ?_;have e0:Q (.tmp 73)=(.int .i64 (I:Int)):=h.1;obtain⟨a3,a4,a6,a7⟩:=(ae o r).out;go_simp
             case o6 =>
              refine Ag rfl fun Q o r E aa h => ?_;obtain⟨v1,e1,s1,a1,n1,c1,rfl,i1,j1⟩:=h.2.1;have e2:Q (.tmp 74)=(.int .u64 (I:Int)):=h.2.2.1;obtain⟨a3,a4,a6,a7⟩:=(ae o r).out;refine⟨189,#[.agg (Ac s1 a1 n1 c1).toArray,.int .u64 (I:Int)],by go_simp,((e9 o _ ⟨s1,a1,n1,c1,rfl,i1,j1⟩).out).mono ?_⟩;rintro e w' ⟨s',a',n',c',rfl,J,L,K⟩;exact⟨_,rfl,J,s',a',n',c',rfl,L,K⟩
             case o8 =>
              refine Ag rfl fun Q o r E aa h => ?_;have e1:Q (.tmp 76)=(.agg #[.bool sx,.slice V nx Z,.bool false,.slice W mx dx]):=h.2.1;obtain⟨a3,a4,a6,a7⟩:=(ae o r).out;refine⟨165,#[.agg #[.bool sx,.slice V nx Z,.bool false,.slice W mx dx]],by go_simp,((bn o r).out).mono ?_⟩;rintro e w' ⟨s',a',n',c',rfl,J,L,K⟩;exact⟨_,rfl,J,s',a',n',c',rfl,L,K⟩
             case o11 =>
              refine Aj rfl fun Q o r E h => ?_;have e0:Q (.tmp 78)=(.int .i64 (G:Int)):=h.1;have e1:Q (.tmp 79)=(.int .i64 (I:Int)):=h.2.1;obtain⟨a3,a4,a6,a7⟩:=(ae o r).out;go_simp
              try (first | (intros;omega) | exact gI _ (by omega))
             case o12 =>
              refine Aj rfl fun Q o r E h => ?_;have e0:Q (.tmp 80)=(.int .i64 ((G:Int)-(I:Int))):=h.1;obtain⟨a3,a4,a6,a7⟩:=(ae o r).out;go_simp
             case o13 =>
              refine Ag rfl fun Q o r E aa h => ?_;obtain⟨v1,e1,s1,a1,n1,c1,rfl,i1,j1⟩:=h.2.1;have e2:Q (.tmp 81)=(.int .u64 ((G-I:Nat):Int)):=h.2.2.1;obtain⟨a3,a4,a6,a7⟩:=(ae o r).out;refine⟨189,#[.agg (Ac s1 a1 n1 c1).toArray,.int .u64 ((G-I:Nat):Int)],by go_simp,((br o _ ⟨s1,a1,n1,c1,rfl,i1,j1⟩).out).mono ?_⟩;rintro e w' ⟨s',a',n',c',rfl,J,L,K⟩;exact⟨_,rfl,J,s',a',n',c',rfl,L,K⟩
             case o14 =>
              refine Ag rfl fun Q o r E aa h => ?_;obtain⟨v1,e1,s1,a1,n1,c1,rfl,i1,j1⟩:=h.2.1;obtain⟨v2,e2,s2,a2,n2,c2,rfl,i2,j2⟩:=h.2.2.1;obtain⟨a3,a4,a6,a7⟩:=(ae o r).out;refine⟨163,#[.agg (Ac s1 a1 n1 c1).toArray,.agg (Ac s2 a2 n2 c2).toArray],by go_simp,((aG o _ _ ⟨s1,a1,n1,c1,rfl,i1,j1⟩ ⟨s2,a2,n2,c2,rfl,i2,j2⟩).out).mono ?_⟩;rintro e w' ⟨s',a',n',c',rfl,J,L,K⟩;exact⟨_,rfl,J,s',a',n',c',rfl,L,K⟩
             case fin =>
              intro o r;rintro _ ⟨fK,fv,fG,fz,rfl,f4,fj⟩;rintro _ ⟨fL,fw,fH,fA,rfl,f5,fk⟩;rintro _ ⟨fM,fx,fI,fB,rfl,f6,fl⟩;rintro _ ⟨fN,fy,fJ,fC,rfl,f7,fm⟩;rintro _ ⟨dl,cy,dk,cz,rfl,dy,dS⟩;change wpList _ _ _ _ _ _;simp only[lq,lw,lx,lz,Act.put,lj,lk,ly];have eB:=hP.ext r;have dO:(I:Int)<((G+1:Nat):Int):=by omega
              have bH:(Ac dl cy dk cz).toArray=#[.bool dl,.slice cy dk cz]:=rfl
              go_wp2_with(refine M6 (z:=Pl.pwz O G I) rfl rfl rfl rfl rfl eB d4 dy dS ?_;intro eU dG ai)
              go_roundw
              case rel=>exact⟨I+1,by go_num,by omega,(ar.trans r).grownR ai (by omega),dG.congr (fun i _=>e5.out i)⟩
              case measure=>simp[intOf];omega
           · have dZ:=qh (show I=G+1 by omega);have cT:=hP.congr (G:=Pl.pwz O G) (fun i hi=>(gY (by have:=dZ.out;omega)).symm);have c3:=aW.ext ar;have aF:=b5.ext ar;clear hP;go_wp2;clear eG d4;obtain⟨wb,rfl⟩:∃ x,x=wr:=⟨_,rfl⟩
             go_loopw[88] (fun iv wq=>∃ i:Nat,iv = .int .i64 i/\i<=j/\EvS w R DB S j (fun m=>if m<i then Pl.zev F (Pl.grt l) pt (l.getD m ([],0)) (v+1)else Pl.zev F (Pl.grt l) pt (l.getD m ([],0)) v) (Pl.dev F (Pl.grt l) pt v:Int) wq/\Arr wq X 85 (Al sx V nx Z false W mx dx)/\Di wq P P (G+1) (Pl.pwz O G)) (fun iv _=>j-(intOf iv).toNat)
             case atStart=>exact⟨0,rfl,gO _,⟨aF.1,aF.2.1,aF.2.2.1,aF.2.2.2.congr (fun m _=>gT (by omega))⟩,c3,cT⟩
             case round =>
              clear aF c3 cT aW b5 ar;obtain⟨i,rfl,hi,s,am,be⟩:=hrel;by_cases aw:i<j
              · have T:=hS.ext s.1;obtain⟨bb,bQ,rfl,_⟩:=T.rd (by omega);obtain⟨s8,a8,n8,c8,b8,m8,d8,H,h6,ao⟩:=HR.out i aw;have b2:l.getD i ([],0)∈l:=by simp[ab.out,aw]
                have aM:0<=(l.getD i ([],0)).1.getD v 0:=(Ku (HB.out.ex _ b2)).1;obtain⟨ev,U⟩:∃ ev,Hid ((l.getD i ([],0)).1.getD v 0=ev):=⟨_,qh rfl⟩;rw[U.out]at aM;obtain⟨en,rfl⟩:∃ en:Nat,ev=(en:Int):=⟨ev.toNat,by omega⟩;have dL:en<=G:=by
                 have h1:=Pl.le_grt v b2;rw[bp.out,U.out]at h1;simpa using h1
                have cZ:Pl.zev F (Pl.grt l) pt (l.getD i ([],0)) (v+1)=Pl.zev F (Pl.grt l) pt (l.getD i ([],0)) v*Pl.pwz O G en:=by
                 show Pl.zev F (Pl.grt l) pt (l.getD i ([],0)) v*Pl.pwz (pt.getD v 0) (Pl.grt l v) ((l.getD i ([],0)).1.getD v 0).toNat=_;rw[aH.out,bp.out,U.out,jc]
                have cY:(Pl.zev F (Pl.grt l) pt (l.getD i ([],0)) v).natAbs<P2 9600:=by
                 have h1:=HB.out.ze _ b2 v (by rw[ac.out];omega)
                 rwa[ak.out]at h1
                have bV:Hid (∀ m,(if m<i+1 then Pl.zev F (Pl.grt l) pt (l.getD m ([],0)) (v+1)else Pl.zev F (Pl.grt l) pt (l.getD m ([],0)) v)=if m=i then Pl.zev F (Pl.grt l) pt (l.getD i ([],0)) v*Pl.pwz O G en else if m<i then Pl.zev F (Pl.grt l) pt (l.getD m ([],0)) (v+1)else Pl.zev F (Pl.grt l) pt (l.getD m ([],0)) v):=qh fun m=>by
                 by_cases e:m=i
                 · subst e;rw[gY (by omega),gY rfl,cZ]
                 · rw[gT e];by_cases e2:m<i
                   · rw[gY e2,gY (by omega)]
                   · rw[gT e2,gT (by omega)]
                obtain⟨z0,ay⟩:∃ z,Pl.zev F (Pl.grt l) pt (l.getD i ([],0)) v=z:=⟨_,rfl⟩;have e4:Hid (∀ m,(if m<i+1 then Pl.zev F (Pl.grt l) pt (l.getD m ([],0)) (v+1)else Pl.zev F (Pl.grt l) pt (l.getD m ([],0)) v)=if m=i then z0*Pl.pwz O G en else if m<i then Pl.zev F (Pl.grt l) pt (l.getD m ([],0)) (v+1)else Pl.zev F (Pl.grt l) pt (l.getD m ([],0)) v):=qh (fun m=>by rw[<-ay];exact bV.out m);have eh:Hid (z0.natAbs<P2 9600):=qh (by rw[<-ay];exact cY)
                have cr:Hid ((Pl.pwz O G en).natAbs<P2 2400):=qh (by
                 unfold Pl.pwz;rw[jC,Fh,Fh]
                 exact BJ (a:=1200) (b:=1200) (aA.out en dL) (ag.out (G-en) (by omega)))
                obtain⟨sS,aS,nS,cS,cA,cB,ct,bI⟩:=s.2.2.2.at aw;obtain⟨sP,aP,nP,cP,cC,cD,ee,dh⟩:=be.at (i:=en) (by omega);rw[gT (nN i),ay]at ct bI;clear bV cZ cY ay b2 aM;generalize aR:l.getD i ([],0)=t at H h6 U;clear aR ao;obtain⟨te,tq⟩:=t;obtain⟨y0,y1,y2,y3,y4,y5,af⟩:=Bt h6;simp only at af H U;subst af;have hY:=Arr.new wr 92 (As [0,0,0,0,0,0] false none 0 0 none 0 0)
                go_upto_region 26 with(first
                 | (refine Bg rfl rfl At rfl T aw ?_;rw[H])
                 | (refine Aa (vs:=As [y0,y1,y2,y3,y4,y5] s8 a8 n8 c8 b8 m8 d8) rfl rfl rfl rfl rfl At hY rfl AI ?_;intro w8 aL aN))
                have a0:Ext wr w8:=((Ext.refl wr).alloc _).grownR aN (lrf _);have er:w8.cell? ⟨wr.heap.size,v,none⟩=some (.int .i64 (en:Int)):=by
                 rw[aL.cell (i:=v) (by simp[As,Al,Ac];omega),Rf rfl (by omega),U.out]
                have f0:=a0.cell cA;have f1:=a0.cell cB;have g0:=a0.cell cC;have g1:=a0.cell cD;have cg:=s.ext a0;have dB:=am.ext a0;have dH:=be.ext a0;have dU:=bI.ext a0;have dT:=dh.ext a0;have aG:=fun(o:World) (r:Ext w8 o)=>qh (CA (v := .agg #[.bool sS,.slice aS nS cS]) (z:=z0) ⟨sS,aS,nS,cS,rfl,ct,dU.ext r⟩ (v' := .agg #[.bool sP,.slice aP nP cP]) (y:=Pl.pwz O G en) ⟨sP,aP,nP,cP,rfl,ee,dT.ext r⟩ eh.out (Af cr.out (by omega)) (Or.inr (Af cr.out (by omega))));clear hY aN H T aL h6 U cA cB cC cD s am be bI dh a0
                generalize wr.heap.size=Y at *
                have b6:=fun(o:World) (r:Ext w8 o)=>qh (And.intro (r.cell f0) (And.intro (r.cell f1) (And.intro (r.cell g0) (And.intro (r.cell g1) (r.cell er)))))
                refine Ab (by kernel_rfl) (fun o=>Ext w8 o)
                 [he (.slice (some ⟨S,0,none⟩) j j),
 he (.int .i64 (i:Int)),
 he (.slice (some ⟨S,0,none⟩) j j),
 he (.int .i64 (i:Int)),
 he (.pointer (some ⟨S,(i*2),none⟩)),
 he (.agg #[.bool sS,.slice aS nS cS]),
 he (.slice (some ⟨P,0,none⟩) (G+1) (G+1)),
 he (.int .i64 (v:Int)),
 he (.pointer (some ⟨Y,0,none⟩)),
 he (.pointer (some ⟨Y,v,none⟩)),
 he (.int .i64 (en:Int)),
 he (.pointer (some ⟨P,(en*2),none⟩)),
 he (.agg #[.bool sP,.slice aP nP cP]),
 hp (fun v o=>NI (z0*Pl.pwz O G en) v o)]
                 (by kernel_rfl) (fun _ _ e h=>h.trans e) ((Ext.refl w8).drew) ⟨trivial,trivial,trivial,trivial,trivial,trivial,trivial,trivial,trivial,trivial,trivial,trivial,trivial,NI.x _,trivial⟩ ⟨?o0,?o1,?o2,?o3,?o4,?o5,?o6,?o7,?o8,?o9,?o10,?o11,?o12,?o13,trivial⟩ ?fin
                case o0 | o1 | o2 | o3 | o6 | o7=>exact omv
                case o5 | o12=>exact ol2
                case o8=>exact ofa (d:=0)
                case o10=>exact ol
                case o4 =>
                 refine Aj rfl fun Q o r E h => ?_;have e0:Q (.tmp 95)=(.slice (some ⟨S,0,none⟩) j j):=h.1;have e1:Q (.tmp 96)=(.int .i64 (i:Int)):=h.2.1;obtain⟨bL,bM,bN,bO,ke⟩:=(b6 o r).out;go_simp
                 try (first | (intros;omega) | exact gI _ (by omega))
                case o9 =>
                 refine Aj rfl fun Q o r E h => ?_;have e0:Q (.tmp 101)=(.pointer (some ⟨Y,0,none⟩)):=h.1;have e1:Q (.tmp 100)=(.int .i64 (v:Int)):=h.2.1;obtain⟨bL,bM,bN,bO,ke⟩:=(b6 o r).out;go_simp
                 try (first | (intros;omega) | exact gI _ (by omega))
                case o11 =>
                 refine Aj rfl fun Q o r E h => ?_;have e0:Q (.tmp 99)=(.slice (some ⟨P,0,none⟩) (G+1) (G+1)):=h.1;have e1:Q (.tmp 103)=(.int .i64 (en:Int)):=h.2.1;obtain⟨bL,bM,bN,bO,ke⟩:=(b6 o r).out;go_simp
                 try (first | (intros;omega) | exact gI _ (by omega))
                case o13 =>
                 refine Ag rfl fun Q o r E aa h => ?_;have e1:Q (.tmp 98)=(.agg #[.bool sS,.slice aS nS cS]):=h.2.1;have e2:Q (.tmp 105)=(.agg #[.bool sP,.slice aP nP cP]):=h.2.2.1;obtain⟨bL,bM,bN,bO,ke⟩:=(b6 o r).out;refine⟨163,#[.agg #[.bool sS,.slice aS nS cS],.agg #[.bool sP,.slice aP nP cP]],by go_simp,((aG o r).out).mono ?_⟩;rintro e w' ⟨s',a',n',c',rfl,J,L,K⟩;exact⟨_,rfl,J,s',a',n',c',rfl,L,K⟩
                case fin =>
                 intro o r;rintro _ ⟨ck,bX,ci,bZ,rfl,dn,dq⟩;change wpList _ _ _ _ _ _;simp only[lq,lw,lx,lz,Act.put,lj,lk,ly];have cN:=cg.2.2.2.ext r;have dO:(i:Int)<(j:Int):=by omega
                 have bH:(Ac ck bX ci bZ).toArray=#[.bool ck,.slice bX ci bZ]:=rfl
                 go_wp2_with(refine M6 (z:=z0*Pl.pwz O G en) rfl rfl rfl rfl rfl cN aw dn dq ?_;intro eU dE ai)
                 go_roundw
                 case rel =>
                  have bf:=cN.noU;have aj:=cg.ext r;exact⟨i+1,by go_num,by omega,⟨aj.1.grownR ai (by omega),aj.2.1.kept ai (by simp;omega),aj.2.2.1.kept bf ai (by omega),dE.congr (fun m _=>e4.out m)⟩,(dB.ext r).kept ai (by simp;omega),(dH.ext r).kept bf ai (by omega)⟩
                 case measure=>simp[intOf];omega
              · have dN:i=j:=by omega
                subst dN;obtain⟨sd,ad,nd,cd,aI,aJ,al,ap⟩:=s.2.2.1.at
                have el:=am.c 0 rfl;have em:=am.c 1 rfl;have eo:=am.c 2 rfl;have eq:=am.c 3 rfl;have au:=cw.ext s.1;have bn:=fun(o:World) (r:Ext wr o)=>qh (Jj (v := .agg #[.bool sx,.slice V nx Z,.bool false,.slice W mx dx]) (q:=O) ⟨Al sx V nx Z false W mx dx,rfl,au.ext r⟩);have br:=fun(o:World) (x1:Value) (h1:AF o x1 (O.den:Int))=>qh (MI (e:=G) h1 bW.out (by omega) (Af (ag.out G (lrf _)) (by omega)));have ah:Pl.dev F (Pl.grt l) pt v<P2 9600:=by
                 have h1:=HB.out.de v (by rw[ac.out];omega)
                 rwa[ak.out]at h1
                have bu:((Pl.dev F (Pl.grt l) pt (v+1):Nat):Int)=(Pl.dev F (Pl.grt l) pt v:Int)*(O.den:Int)^G:=by
                 show((Pl.dev F (Pl.grt l) pt v*(pt.getD v 0).den^(Pl.grt l v):Nat):Int)=_;rw[aH.out,bp.out,ir,Int.natCast_pow]
                obtain⟨dv,bg⟩:∃ d,Pl.dev F (Pl.grt l) pt v=d:=⟨_,rfl⟩;rw[bg]at ah bu al ap s;have dY:=qh bu;have dX:=qh ah;have aG:=fun(o:World) (r:Ext wr o) (x2:Value) (h2:AF o x2 ((O.den:Int)^G))=>qh (CA (v := .agg #[.bool sd,.slice ad nd cd]) (z:=(dv:Int)) ⟨sd,ad,nd,cd,rfl,al,ap.ext r⟩ h2 dX.out (by rw[Fh];exact Af (ag.out G (lrf _)) (by omega)) (Or.inr (by rw[Fh];exact Af (ag.out G (lrf _)) (by omega))));have dK:IntKind.u64.wrap (G:Int)=(G:Int):=p9 _ (by omega);clear bu ah au am be hi aw
                go_wp2;have b7:=fun(o:World) (r:Ext wr o)=>qh (And.intro (r.cell aI) (And.intro (r.cell aJ) (And.intro (r.cell el) (And.intro (r.cell em) (And.intro (r.cell eo) (r.cell eq))))))
                refine Ab (by kernel_rfl) (fun o=>Ext wr o)
                 [he (.agg #[.bool sd,.slice ad nd cd]),
 he (.agg #[.bool sx,.slice V nx Z,.bool false,.slice W mx dx]),
 hp (fun v o=>NI ((O.den:Int)) v o),
 he (.int .i64 (G:Int)),
 he (.int .u64 (G:Int)),
 hp (fun v o=>NI ((O.den:Int)^G) v o),
 hp (fun v o=>NI ((dv:Int)*(O.den:Int)^G) v o)]
                 (by kernel_rfl) (fun _ _ e h=>h.trans e) ((Ext.refl wr).drew) ⟨trivial,trivial,NI.x _,trivial,trivial,NI.x _,NI.x _,trivial⟩ ⟨?o0,?o1,?o2,?o3,?o4,?o5,?o6,trivial⟩ ?fin
                case o0=>exact ol2
                case o1=>exact ol4
                case o3=>exact omv
                case o2 =>
                 refine Ag rfl fun Q o r E aa h => ?_;have e1:Q (.tmp 110)=(.agg #[.bool sx,.slice V nx Z,.bool false,.slice W mx dx]):=h.2.1;obtain⟨aU,aV,a3,a4,a6,a7⟩:=(b7 o r).out;refine⟨165,#[.agg #[.bool sx,.slice V nx Z,.bool false,.slice W mx dx]],by go_simp,((bn o r).out).mono ?_⟩;rintro e w' ⟨s',a',n',c',rfl,J,L,K⟩;exact⟨_,rfl,J,s',a',n',c',rfl,L,K⟩
                case o4 =>
                 refine Aj rfl fun Q o r E h => ?_;have e0:Q (.tmp 112)=(.int .i64 (G:Int)):=h.1;obtain⟨aU,aV,a3,a4,a6,a7⟩:=(b7 o r).out;go_simp
                case o5 =>
                 refine Ag rfl fun Q o r E aa h => ?_;obtain⟨v1,e1,s1,a1,n1,c1,rfl,i1,j1⟩:=h.2.1;have e2:Q (.tmp 113)=(.int .u64 (G:Int)):=h.2.2.1;obtain⟨aU,aV,a3,a4,a6,a7⟩:=(b7 o r).out;refine⟨189,#[.agg (Ac s1 a1 n1 c1).toArray,.int .u64 (G:Int)],by go_simp,((br o _ ⟨s1,a1,n1,c1,rfl,i1,j1⟩).out).mono ?_⟩;rintro e w' ⟨s',a',n',c',rfl,J,L,K⟩;exact⟨_,rfl,J,s',a',n',c',rfl,L,K⟩
                case o6 =>
                 refine Ag rfl fun Q o r E aa h => ?_;have e1:Q (.tmp 109)=(.agg #[.bool sd,.slice ad nd cd]):=h.2.1;obtain⟨v2,e2,s2,a2,n2,c2,rfl,i2,j2⟩:=h.2.2.1;obtain⟨aU,aV,a3,a4,a6,a7⟩:=(b7 o r).out;refine⟨163,#[.agg #[.bool sd,.slice ad nd cd],.agg (Ac s2 a2 n2 c2).toArray],by go_simp,((aG o r _ ⟨s2,a2,n2,c2,rfl,i2,j2⟩).out).mono ?_⟩;rintro e w' ⟨s',a',n',c',rfl,J,L,K⟩;exact⟨_,rfl,J,s',a',n',c',rfl,L,K⟩
                case fin =>
                 intro o r;rintro _ ⟨fs,f8,fn,fb,rfl,eW,eZ⟩;rintro _ ⟨ft,f9,fo,fc,rfl,eX,f2⟩;rintro _ ⟨cl,bY,cj,c0,rfl,dp,dr⟩;change wpList _ _ _ _ _ _;simp only[lq,lw,lx,lz,Act.put,lj,lk,ly];have cH:=s.2.2.1.ext r;have bH:(Ac cl bY cj c0).toArray=#[.bool cl,.slice bY cj c0]:=rfl
                 go_wp2_with(refine Re (z:=(dv:Int)*(O.den:Int)^G) rfl rfl rfl rfl rfl cH dp dr ?_;intro fO dC bm)
                 go_roundw
                 case rel =>
                  have bf:=cH.noU;have aj:=s.ext r;refine⟨v+1,by go_num,by omega,aj.1.grownR bm (by omega),aj.2.1.kept bm (by simp;omega),?_,?_⟩
                  · rw[dY.out];exact dC
                  · exact(aj.2.2.2.kept bf bm (by omega)).congr (fun m hm=>(gY hm).symm)
                 case measure=>simp[intOf];omega
     · have dR:v=M:=by omega
       subst dR;have aC:=(Ct.new (Arr.new wr 224 (Hs none 0 0 none 0 0)) (lrf _)).le (gO 300);have aX:=(Ext.refl wr).alloc (.cells (Hs none 0 0 none 0 0).toArray 224);have df:(Hs none 0 0 none 0 0).toArray=#[.slice none 0 0,.slice none 0 0]:=rfl;rw[df]at aC aX;obtain⟨az,rfl⟩:∃ x,x=wr:=⟨_,rfl⟩
       go_upto_region 31 with(fail)
       have ez:az.heap.size<=(az.alloc (.cells #[.slice none 0 0,.slice none 0 0] 224)).heap.size:=aX.size;generalize az.alloc (.cells #[.slice none 0 0,.slice none 0 0] 224)=fP at *
       have ah:Pl.dev F (Pl.grt l) pt v<P2 9600:=by
        have h1:=HB.out.de v (by rw[ac.out];exact lrf _)
        rwa[ak.out]at h1
       have bz:∀ i,i<k->(Pl.zev F (Pl.grt l) pt (l.getD i ([],0)) v).natAbs<P2 9600:=fun i hi=>by
        have h1:=HB.out.ze (l.getD i ([],0)) (by simp[ab.out,hi]) v (by rw[ac.out];exact lrf _)
        rwa[ak.out]at h1
       have bD:∀ i,i<k->Pl.zsum (fun t=>Pl.zev F (Pl.grt l) pt t v) (l.take (i+1))=Pl.zsum (fun t=>Pl.zev F (Pl.grt l) pt t v) (l.take i)+Pl.zev F (Pl.grt l) pt (l.getD i ([],0)) v:=fun i hi=>Pl.zsum_take _ l i (by rw[ab.out];exact hi);have bE:(Pl.zsum (fun t=>Pl.zev F (Pl.grt l) pt t v) (l.take k)).natAbs<P2 9600:=by
        rw[gG (by rw[ab.out];exact lrf _)];have h1:=HB.out.su
        rwa[ak.out,ac.out]at h1
       have aZ:mkRat (Pl.zsum (fun t=>Pl.zev F (Pl.grt l) pt t v) (l.take k)) (Pl.dev F (Pl.grt l) pt v)=Pl.evq pt l:=by
        rw[gG (by rw[ab.out];exact lrf _)];have h1:=Pl.ev_done (d:=Bk (l.map (·.2))) (pt:=pt) (l:=l) (Nat.ne_of_gt (Cn _)) (fun t ht=>GX (jk ht))
        rwa[ak.out,ac.out]at h1
       have hd0:Pl.dev F (Pl.grt l) pt v≠0:=Pl.dev_ne (by rw[<-ak.out];exact Nat.ne_of_gt (Cn _)) v;have bC:Pl.zsum (fun t=>Pl.zev F (Pl.grt l) pt t v) (l.take 0)=0:=rfl;obtain⟨ZS,ca⟩:∃ f:Nat->Int,∀ i,f i=Pl.zsum (fun t=>Pl.zev F (Pl.grt l) pt t v) (l.take i):=⟨_,fun _=>rfl⟩;obtain⟨FI,bA⟩:∃ f:Nat->Int,∀ i,f i=Pl.zev F (Pl.grt l) pt (l.getD i ([],0)) v:=⟨_,fun _=>rfl⟩;obtain⟨dv,bg⟩:∃ d,Pl.dev F (Pl.grt l) pt v=d:=⟨_,rfl⟩;simp only[<-ca,<-bA]at bz bD bE aZ bC;rw[bg]at ah aZ hd0 s
       have s:=(⟨s.1,s.2.1,s.2.2.1,s.2.2.2.congr (fun i _=>bA i)⟩:EvS w R DB S k FI (dv:Int) az);have e3:=qh bz;have ei:=qh bD;have ej:=qh bE;have dw:=qh aZ;have du:=qh ah;have dt:=qh hd0;rw[<-bC]at aC;have dQ:=s.1.size;obtain⟨p,eM⟩:∃ x,az.heap.size=x:=⟨_,rfl⟩;rw[eM]at aC dQ ez |-;clear bz bD bE aZ ah hd0 bC ca bA bg df;go_wp2
       go_loopw[119] (fun iv wq=>∃ (i:Nat) (qa qb:Option Nat),iv = .int .i64 i/\i<=k/\Ext az wq/\Ct wq p p qa qb (300+40*i) (ZS i)) (fun iv _=>k-(intOf iv).toNat)
       case atStart=>exact⟨0,none,none,rfl,gO _,aX,aC⟩
       case round =>
        clear aC aX;obtain⟨i,qa,qb,rfl,hi,hE,av⟩:=hrel;by_cases bh:i<k
        · have cO:=s.2.2.2;obtain⟨sn,an,nn,cn,n0,n1,ef,di⟩:=(cO.ext hE).at bh;obtain⟨_,_,_,_,_,m1,_,ch⟩:=cO.at bh;have fi:=hE.size;have db:=av.lt;have bP:=hE.cell m1;rw[n1]at bP;simp only[gK,gW]at bP;obtain⟨rfl,rfl,rfl⟩:=bP
          have dz:Hid (∀ (w':World),w'.heap.size=w'.heap.size->Ix (fun g=>qa≠some g/\qb≠some g) (.agg (Ac sn an nn cn).toArray)):=qh (fun _ _=>DM (fun h0 g hg=>by
           have h1:=ch.blt h0 hg;refine⟨fun h => ?_,fun h => ?_⟩
           · have:=(db.2.1 _ h).1;omega
           · have:=(db.2.2 _ h).1;omega))
          have hY:=Arr.new wr 83 (Ac false none 0 0);have eK:(Ac sn an nn cn).toArray=#[.bool sn,.slice an nn cn]:=rfl;have fE:(i:Int)<(k:Int):=by omega
          clear m1 ch
          go_upto_region 34 with(refine Aa (vs:=Ac sn an nn cn) rfl rfl rfl rfl rfl Ai hY rfl (Ae _ _ _ _) ?_;intro dm bj cb)
          have aY:Ext wr dm:=((Ext.refl wr).alloc _).grownR cb (lrf _);have bU:=di.ext aY;have bS:=av.ext aY;have ds:=qh (Wf bS (v := .agg #[.bool sn,.slice an nn cn]) (x:=FI i) ⟨sn,an,nn,cn,rfl,ef,bU⟩ (dz.out dm rfl) (e3.out i bh) (by omega) (by have:=aY.size;omega));obtain⟨Y,cX⟩:∃ x,wr.heap.size=x:=⟨_,rfl⟩;rw[cX]at bj |-;have b0:=bj.c 0 rfl;have b1:=bj.c 1 rfl;have et:=hE.trans aY;clear hY cb eK n0 n1 di bU av hE cX
          go_wp2_with fail
          refine ds.out.mono ?_;rintro e fQ ⟨rfl,eS,eT,dI,dF,fe,ff⟩;have bT:=bS.lt;go_wp2;go_roundw
          case rel =>
           refine⟨i+1,eS,eT,by go_num,by omega,dF.ext et (fun b hb => ?_),?_⟩
           · rcases hb with rfl|hb|hb
             · omega
             · have:=(bT.2.1 _ hb).1;omega
             · have:=(bT.2.2 _ hb).1;omega
           · rw[ei.out i bh];exact dI.le (by omega)
          case measure=>simp[intOf];omega
        · have e6:=qh (show i=k by omega);rw[e6.out]at av;obtain⟨sd,ad,nd,cd,aI,aJ,al,ap⟩:=(s.2.2.1.ext hE).at
          have eu:=s.1.trans hE;have cu:=fun(o:World) (r:Ext wr o)=>qh (Mx (av.ext r) (by omega));have bo:=fun(o:World) (r:Ext wr o) (x1:Value) (h1:AF o x1 (ZS k))=>qh (GO ((hT.ext eu).ext r) h1 (v' := .agg #[.bool sd,.slice ad nd cd]) (k:=dv) ⟨sd,ad,nd,cd,rfl,al,ap.ext r⟩ ej.out du.out dt.out);rw[dw.out]at bo;obtain⟨zt,dj⟩:∃ z,ZS k=z:=⟨_,rfl⟩;rw[dj]at cu bo;clear dj av;go_wp2;have cm:=fun(o:World) (r:Ext wr o)=>qh (And.intro (r.cell aI) (r.cell aJ))
          refine Ab (by kernel_rfl) (fun o=>Ext wr o)
           [hp (fun v o=>NI (zt) v o),
 he (.agg #[.bool sd,.slice ad nd cd]),
 hp (fun v o=>NR (Pl.evq pt l) v o)]
           (by kernel_rfl) (fun _ _ e h=>h.trans e) ((Ext.refl wr).drew) ⟨NI.x _,trivial,NR.x _,trivial⟩ ⟨?o0,?o1,?o2,trivial⟩ ?fin
          case o1=>exact ol2
          case o0 =>
           refine Ag rfl fun Q o r E aa h => ?_;have e1:Q (.tmp 18)=(.pointer (some ⟨p,0,none⟩)):=h.2.1;obtain⟨aU,aV⟩:=(cm o r).out;refine⟨192,#[.pointer (some ⟨p,0,none⟩)],by go_simp,((cu o r).out).mono ?_⟩;rintro e w' ⟨s',a',n',c',rfl,J,L,K⟩;exact⟨_,rfl,J,s',a',n',c',rfl,L,K⟩
          case o2 =>
           refine Ag rfl fun Q o r E aa h => ?_;obtain⟨v1,e1,s1,a1,n1,c1,rfl,i1,j1⟩:=h.2.1;have e2:Q (.tmp 127)=(.agg #[.bool sd,.slice ad nd cd]):=h.2.2.1;obtain⟨aU,aV⟩:=(cm o r).out;refine⟨191,#[.agg (Ac s1 a1 n1 c1).toArray,.agg #[.bool sd,.slice ad nd cd]],by go_simp,((bo o r _ ⟨s1,a1,n1,c1,rfl,i1,j1⟩).out).mono ?_⟩;rintro e w' ⟨cs,rfl,J,eN⟩;exact⟨_,rfl,J,cs,rfl,eN⟩
          case fin =>
           intro o r;rintro _ ⟨fu,fa,fp,fd,rfl,eY,f3⟩;rintro _ ⟨_,rfl,s9,a9,n9,c9,b9,m9,d9,rfl,ed,eQ,eR⟩;change wpList _ _ _ _ _ _;simp only[lq,lw,lx,lz,Act.put,lj,lk,ly];have cU:=s.2.1.ext (hE.trans r);have bH:(Al s9 a9 n9 c9 false b9 m9 d9).toArray=#[.bool s9,.slice a9 n9 c9,.bool false,.slice b9 m9 d9]:=rfl
           go_wp2_with(refine Aa (vs:=Al s9 a9 n9 c9 false b9 m9 d9) rfl rfl rfl rfl rfl Ak cU rfl (Aq _ _ _ _ _ _ _ _) ?_;intro fR dA dM)
           exact gF (Ap rfl Ak rfl dA) rfl (BG ((s.1.trans hE).trans r) cU (AO _ _ _ _ _ _ _ _) dM (by omega) ed eQ eR)
theorem Ex.len{l:List Rat}(h:Ex w a n c l):l.length=n:=by
 obtain⟨_,_,h,_⟩:=h;exact h
theorem Sw{xs:List (List UInt8)}{pt:List Rat}(h:rdAll xs=some pt):pt.length=xs.length:=by
 unfold rdAll at h;split at h
 · cases h;simp
 · cases h
def M7(w:World)(s:List UInt8)(err:Int)(e:Ending)(w':World):Prop:=e = .returned (.tuple #[.string ⟨s.toArray⟩,.int .i64 err])/\Ext w w'
def X9(w:World)(va:Int)(m:Nat)(ol:Option (List Pl.Tm))(op:Option (List Rat))(e:Ending)(w':World):Prop :=
 (∃ l pt,ol=some l/\op=some pt/\(m:Int)=va/\M7 w (txt (Pl.evq pt l)) 0 e w') \/
 ((ol.isSome && op.isSome)=true/\(m:Int)≠va/\M7 w [] 4 e w')\/((ol.isSome && op.isSome)=false/\M7 w [] 1 e w')
theorem Sx{va:Int}{ts:List Tx}{xs:List (List UInt8)}(M:AM w)(Y:AH w a n c ts)(N:IN w b m d xs)(sa:∀ t∈ts,t.1.length<=570)(sb:∀ t∈xs,t.length<=570)(hm:m<=1000000)
 (G:∀ l f,rdP va ts=some l->rdAll xs=some f->(m:Int)=va->EvB l f/\Ek (Pl.evq f l)) :
 Calls prog 57 #[.agg #[.int .i64 va,.slice a n c],.slice b m d] w (X9 w va m (rdP va ts) (rdAll xs)):=by
 have B:=fun(W:World) (E:Ext w W)=>qh (Db (vars:=va) (M.ext E) (Y.ext E) sa);have A:=fun(W:World) (E:Ext w W)=>qh (OF (M.ext E) (N.ext E) sb hm);have K:xs.length=m:=by obtain⟨_,_,h,_⟩:=N;exact h
 have L:Hid (∀ l f,rdP va ts=some l->rdAll xs=some f->l.length<=4096/\0<=va/\va<=6/\f.length=m):=qh (fun l f h1 h2=>⟨by rw[BH h1];exact(AW h1).2.1,(AW h1).1.1,(AW h1).1.2,by rw[Sw h2,K]⟩);have j:=qh G;obtain⟨ol,H⟩:∃ o,rdP va ts=o:=⟨_,rfl⟩;obtain⟨op,I⟩:∃ o,rdAll xs=o:=⟨_,rfl⟩;rw[H]at B L j |-;rw[I]at A L j |-;clear H I sa sb Y N G K
 go_enter func57,ntmps57
 go_upto_region 1 with(fail)
 refine AP ?_;intro w0 x v U;have r:=v.c 0 rfl;have V:=v.c 1 rfl;clear v U
 go_wp2_with fail
 refine(B _ x).out.mono ?_;rintro e w1 ⟨a1,n1,c1,rfl,y,F⟩;have g:=x.trans y;have r:=y.cell r;clear x y B V
 go_wp2_with fail
 refine(A _ g).out.mono ?_;rintro e w2 ⟨a2,n2,c2,rfl,k,q⟩;have i:=g.trans k;have p:=F.ext k;have r:=k.cell r;clear g k A F;cases ol with
 | none =>
  simp only[jz];go_wp2
  go_ret2
  exact Or.inr (Or.inr ⟨rfl,rfl,i⟩)
 | some l =>
  cases op with
  | none =>
   simp only[jz,jr];go_wp2
   go_ret2
   exact Or.inr (Or.inr ⟨rfl,rfl,i⟩)
  | some f =>
   simp only[jr,gP]at p q |-;have N:=L.out l f rfl rfl;by_cases C:(m:Int)=va
   · have T:((m:Int) != va)=false:=by simp[C]
     have z:=j.out l f rfl rfl C;have a0:f.length=n2:=q.len;have Z:l.length=n1:=p.len;have D:=qh (Sv (M.ext i) p q (by omega) (by omega) z.1);have P:=qh z.2;have Q:=qh C;clear z C j L p q
     go_wp2_with fail
     refine D.out.mono ?_;rintro e w3 ⟨X,rfl,R,J⟩;have s:=i.trans R;have O:=qh (P.out w3 (.agg X.toArray) (M.ext s) ⟨X,rfl,J⟩);clear D J
     go_wp2_with fail
     refine O.out.mono ?_;rintro e w4 ⟨rfl,S⟩;go_wp2
     go_ret2
     exact Or.inl ⟨l,f,rfl,rfl,Q.out,rfl,s.trans S⟩
   · have T:((m:Int) != va)=true:=by simpa using C
     have Q:=qh C;clear C;go_wp2
     go_ret2
     exact Or.inr (Or.inl ⟨rfl,Q.out,rfl,i⟩)
end Go.Proofs.YtlbmnokpiilfpaaGreatDoor
