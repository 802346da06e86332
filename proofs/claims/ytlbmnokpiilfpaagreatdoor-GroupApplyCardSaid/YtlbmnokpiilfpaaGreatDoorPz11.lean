/- Part Pz11. -/
import Derived.Test.YtlbmnokpiilfpaaGreatDoorPz10
import Derived.BigRegion
import Derived.WalkSpells
import Derived.Maps.RangeWalk
set_option linter.all false
set_option maxRecDepth 100000
set_option maxHeartbeats 100000000
namespace Go.Proofs.YtlbmnokpiilfpaaGreatDoor
open Go Go.RowKit
def oB:=@List.take_succ_cons
def oY:=@List.foldr_cons
def vU:=@Rat.intCast_add
def wH:=@Rat.add_zero
def wU:=@Rat.mul_one
variable {B va vars vb:Int} {l:List Int} {b c d k n nt:Nat} {a:Option Addr} {q:Rat} {w:World}
theorem OC(k:Nat):∀ (l:List Int) (s:Int),s<=24->C5 s (l ++ List.replicate k 0)=C5 s l
 | [],s,hs=>by
  induction k with
  | zero=>rfl
  | succ k ih =>
   rw[qR,vo];unfold C5;rw[pC (by omega),Int.add_zero,<-qR (List.replicate k 0),ih];rfl
 | x :: r,s,hs=>by
  rw[rX];unfold C5;by_cases h:x<0\/24-s<x
  · rw[pP h,pP h]
  · rw[pC h,pC h,OC k r (s+x) (by omega)]
theorem GC(h:l.length<=6):A3 (AY l)=A3 l:=by
 unfold A3 Ds;rw[pC (by rw[D0 h];omega),pC (by omega)];unfold AY;rw[OC _ _ _ (by omega)]
theorem M3(l:List Int):(AY l).sum=l.sum:=by
 unfold AY;rw[List.sum_append];have:∀ k:Nat,(List.replicate k (0:Int)).sum=0:=by
  intro k
  induction k with
  | zero=>rfl
  | succ k ih=>rw[vo,ww,ih];rfl
 rw[this];omega
theorem P6(k:Nat)(a b:List Int):Pl.ordR (List.replicate k 0 ++ a) (List.replicate k 0 ++ b)=Pl.ordR a b:=by
 induction k with
 | zero=>rfl
 | succ k ih =>
  rw[vo,rX,rX];show(if(0:Int)=0 then _ else _)=_;rw[pP rfl,ih]
theorem Km{a b:List Int}(h:a.length=b.length):Pl.ordE (AY a) (AY b)=Pl.ordE a b:=by
 unfold Pl.ordE;rw[M3,M3];have c:Pl.ordR (AY a).reverse (AY b).reverse=Pl.ordR a.reverse b.reverse:=by
  unfold AY;rw[List.reverse_append,List.reverse_append,List.reverse_replicate,List.reverse_replicate,h,P6]
 rw[c]
theorem Bm{t:Tx}{m:Pl.Tm}(h:AS vars t=some m):AD t.1=some m.2/\m.2≠0/\(t.2.length:Int)=vars/\(∀ e∈t.2,0<=e/\e<=1048576)/\m.1=AY t.2:=by
 unfold AS at h;split at h
 · cases h
 · rename_i q b;split at h
   · rename_i a;cases h;exact⟨b,a.1,a.2.1,a.2.2,rfl⟩
   · cases h
theorem AW{ts:List Tx}{l:List Pl.Tm}(h:rdP vars ts=some l):(0<=vars/\vars<=6)/\ts.length<=4096/\(∀ t r,ts=t :: r->A3 t.2=true)/\okT vars ts ts.length/\l=ts.map (fun t=>(AS vars t).getD z6):=by
 unfold rdP at h;split at h
 · rename_i h1;unfold rdWF at h;split at h
   · rename_i h2;cases h;exact⟨⟨h2.1,h2.2.1⟩,h1.1,h1.2,h2.2.2,rfl⟩
   · cases h
 · cases h
theorem Kn{ts:List Tx}{l:List Pl.Tm}(h:rdP vars ts=some l){i:Nat}(hi:i<ts.length):AS vars (ts.getD i tm0)=some (l.getD i ([],0)):=by
 obtain⟨_,_,_,b,rfl⟩:=AW h;have h1:=b.1 i hi;rw[sP]at h1;obtain⟨m,a⟩:=h1;have h2:ts.getD i tm0=ts[i]:=by simp[hi]
 rw[h2]at a |-;rw[a];simp[hi,a]
theorem BH{ts:List Tx}{l:List Pl.Tm}(h:rdP vars ts=some l):l.length=ts.length:=by
 obtain⟨_,_,_,a,rfl⟩:=AW h;simp
theorem F7{ts:List Tx}{l:List Pl.Tm}(h:rdP vars ts=some l){m:Pl.Tm}(c:m∈l):∃ t∈ts,AS vars t=some m:=by
 obtain⟨i,b,rfl⟩:=r9.1 c;have a:i<ts.length:=by rw[<-BH h];exact b
 have h1:=Kn h a;have h2:l.getD i ([],0)=l[i]:=by simp[b]
 have h3:ts.getD i tm0=ts[i]:=by simp[a]
 rw[h2,h3]at h1;exact⟨ts[i],qG a,h1⟩
theorem In{ts:List Tx}(h:∀ i,i+1<ts.length->0<Pl.ordE (ts.getD i tm0).2 (ts.getD (i+1) tm0).2):∀ d i,i+d+1<ts.length->0<Pl.ordE (ts.getD i tm0).2 (ts.getD (i+d+1) tm0).2
 | 0,i,hi=>h i hi
 | d+1,i,hi=>Pl.ordE_trans (In h d i (by omega)) (h (i+d+1) (by omega))
theorem BW{ts:List Tx}{l:List Pl.Tm}(h:rdP vars ts=some l):Pl.Canon 6 l:=by
 obtain⟨w,_,_,s,_⟩:=AW h;have n:=BH h
 have a:∀ i,i<ts.length->(l.getD i ([],0)).1=AY (ts.getD i tm0).2/\((ts.getD i tm0).2.length:Int)=vars:=fun i b=>by
  obtain⟨_,_,h3,_,h5⟩:=Bm (Kn h b);exact⟨h5,h3⟩
 refine⟨fun m e => ?_,fun m e => ?_,?_⟩
 · obtain⟨t,v,f⟩:=F7 h e;obtain⟨_,_,h3,_,h5⟩:=Bm f;rw[h5,D0 (by omega)]
 · obtain⟨t,v,f⟩:=F7 h e;exact(Bm f).2.1
 · rw[rZ];intro i j b r q;have c:i<ts.length:=by omega
   have d:j<ts.length:=by omega
   have g:=a i c;have k:=a j d;have o:l.getD i ([],0)=l[i]:=by simp[b]
   have p:l.getD j ([],0)=l[j]:=by simp[r]
   rw[o]at g;rw[p]at k;rw[g.1,k.1,Km (by omega)];have:=In s.2 (j-i-1) i (by omega)
   rwa[show i+(j-i-1)+1=j by omega]at this
theorem Jo{ts:List Tx}{l:List Pl.Tm}(h:rdP vars ts=some l):okW l:=by
 have a:=BH h;obtain⟨f,h1,h2,d,_⟩:=AW h;refine⟨by omega,fun m r e => ?_⟩;cases ts with
 | nil=>rw[e]at a;simp at a
 | cons t s =>
  have h3:=Kn h (i:=0) (by simp);rw[e]at h3;obtain⟨_,_,c,_,b⟩:=Bm h3;simp only[vN]at c b;rw[b,GC (by omega)];exact h2 t s rfl
theorem TN(a:0<=B)(h:∀ e∈l,0<=e/\e<=B):∀ e∈AY l,0<=e/\e<=B:=by
 intro e he;rcases qd.1 he with he|he
 · exact h e he
 · rw[(qS.1 he).2];omega
theorem A5{ts:List Tx}{l:List Pl.Tm}(h:rdP vars ts=some l):∀ t∈l,t.1.length=6/\∀ x∈t.1,0<=x/\x<=1048576:=by
 intro m a;obtain⟨t,f,d⟩:=F7 h a;obtain⟨_,_,e,b,c⟩:=Bm d;exact⟨(BW h).len m a,by rw[c];exact TN (by omega) b⟩
theorem M4(n:Nat):n<10^(Lib.decDigits n).length:=by
 have:=W.decV_lt (W.digs_dec n)
 rwa[W.decV_dec]at this
theorem Rb(q:Rat):q.num.natAbs<10^(txt q).length/\q.den<10^(txt q).length:=by
 have h1:=M4 q.num.natAbs;have h2:(Lib.decDigits q.num.natAbs).length<=(Lib.itoa q.num).length:=by
  unfold Lib.itoa;split
  · simp
  · have e:q.num.toNat=q.num.natAbs:=by omega
    simp[e]
 have h0:0<(Lib.decDigits q.num.natAbs).length:=List.length_pos_iff.2 (W.dec_ne _);have b:(Lib.itoa q.num).length<=(txt q).length:=by unfold txt;rw[pZ];omega
 refine⟨pS h1 (pR (by omega) (by omega)),?_⟩;by_cases a:q.den=1
 · rw[a];exact Nat.one_lt_pow (by omega) (by omega)
 · have h3:=M4 q.den;refine pS h3 (pR (by omega) ?_);unfold txt;rw[pC a];simp;omega
theorem Ko(h:(txt q).length<=k):Pl.RB (4*k) q:=by
 have h1:=Rb q;have h2:10^(txt q).length<=P2 (4*k):=by
  refine pD (pR (by omega) h) ?_;unfold P2;rw[vM];exact tG (by omega) _
 exact⟨by omega,by omega⟩
theorem Eu{ts:List Tx}{l:List Pl.Tm}(h:rdP vars ts=some l)(c:∀ t∈ts,t.1.length<=k):∀ t∈l,Pl.RB (4*k) t.2:=by
 intro m a;obtain⟨t,d,b⟩:=F7 h a;have h1:=Cp (Bm b).1;exact Ko (by rw[<-h1];exact c t d)
theorem RB.str(h:Pl.RB b q)(a:b<=1920):Ek q:=LZ (Af h.1 a) (Af h.2 a)
theorem OD{l:List Rat}(h:∀ q∈l,q.den<P2 b):Bk l<P2 (b*l.length+1):=by
 have e:∀ (l:List Rat) (a c:Nat),a<P2 c->(∀ q∈l,q.den<P2 b)->l.foldl (fun a q=>a*(q.den/Nat.gcd a q.den)) a<P2 (b*l.length+c):=by
  intro l
  induction l with
  | nil=>intro a c d _;simpa using d
  | cons q r ih =>
   intro a c d h;rw[vf,qk,rM,sH,sB];refine ih _ (b+c) ?_ (fun s f=>h s (by simp[f]));rw[rO b c];exact BJ d (pJ (qE _ _) (h q (by simp)))
 exact e l 1 1 (by unfold P2;omega) h
theorem Dh{l:List Pl.Tm}(h:Pl.Canon 6 l):Pl.Nrm l:=by
 refine⟨h.len,h.nz,?_⟩;unfold List.Nodup;rw[sC];refine h.desc.imp ?_;intro a b c e;rw[e,Pl.ordE_self]at c;omega
theorem OG:∀ (l:List Int) (s:Int),s<=24->0<=s->0<=C5 s l->C5 s l=s+l.sum/\s+l.sum<=24/\∀ x∈l,0<=x
 | [],s,h1,h2,_=>⟨by simp[C5],by simpa using h1,by simp⟩
 | x :: r,s,h1,h2,h=>by
  unfold C5 at h |-;by_cases hc:x<0\/24-s<x
  · rw[pP hc]at h;omega
  · rw[pC hc]at h |-;obtain⟨g1,g2,g3⟩:=OG r (s+x) (by omega) (by omega) h;refine⟨by rw[g1,ww];omega,by rw[ww];omega,fun y a => ?_⟩;rcases qj.1 a with rfl|a
    · omega
    · exact g3 y a
theorem Dj:∀ {l:List Int},(∀ x∈l,0<=x)->0<=l.sum/\∀ x∈l,x<=l.sum
 | [],_=>by simp
 | y :: r,h=>by
  obtain⟨h1,h2⟩:=Dj (l:=r) (fun x a=>h x (by simp[a]));have h3:=h y (by simp);rw[ww];refine⟨by omega,fun x a => ?_⟩;rcases qj.1 a with rfl|a
  · omega
  · have:=h2 x a;omega
theorem F8:∀ (l:List Int) (s:Int),0<=s->(∀ x∈l,0<=x)->s+l.sum<=24->C5 s l=s+l.sum
 | [],s,_,_,_=>by simp[C5]
 | x :: r,s,h1,h2,h3=>by
  have hr:=Dj (l:=r) (fun y a=>h2 y (by simp[a]));have b:=h2 x (by simp);rw[ww]at h3 |-;unfold C5;rw[pC (by omega),F8 r (s+x) (by omega) (fun y a=>h2 y (by simp[a])) (by omega)];omega
theorem CN:A3 l=true<->l.length<=6/\(∀ x∈l,0<=x)/\l.sum<=24:=by
 unfold A3 Ds;rw[decide_eq_true_iff];constructor
 · intro h;split at h
   · omega
   · obtain⟨h1,h2,h3⟩:=OG l 0 (by omega) (by omega) h;exact⟨by omega,h3,by omega⟩
 · rintro⟨h1,h2,h3⟩;rw[pC (by omega),F8 l 0 (by omega) h2 (by omega)];have:=(Dj h2).1;omega
theorem TX{a b:List Int}(h:0<Pl.ordE a b):b.sum<=a.sum:=by
 unfold Pl.ordE at h;split at h
 · omega
 · have:=Pl.cmpI_pos.1 h;omega
def InV(vars:Nat)(e:List Int):Prop:=e.length=6/\(∀ x∈e,0<=x)/\AY (e.take vars)=e
theorem InV.pad{vars:Nat}(h:l.length=vars)(c:vars<=6)(b:∀ x∈l,0<=x):InV vars (AY l):=by
 refine⟨D0 (by omega),fun x a => ?_,by rw[<-h,Ie]⟩;rcases qd.1 a with a|a
 · exact b x a
 · rw[(qS.1 a).2];omega
theorem DQ{t:Pl.Tm}{r:List Pl.Tm}(h:Pl.Canon 6 (t :: r)):∀ s∈t :: r,s.1.sum<=t.1.sum:=by
 intro s a;rcases qj.1 a with rfl|a
 · omega
 · exact TX ((qY.1 h.desc).1 s a)
theorem Rg:∀ (l:List (List Int)),∃ k:List (List Int),k.Nodup/\∀ e,e∈k<->e∈l
 | []=>⟨[],List.nodup_nil,fun _=>Iff.rfl⟩
 | x :: r=>by
  obtain⟨k,h1,h2⟩:=Rg r;by_cases h:x∈k
  · refine⟨k,h1,fun e => ?_⟩;rw[h2,qj];constructor
    · exact Or.inr
    · rintro(rfl|h3)
      · exact(h2 _).1 h
      · exact h3
  · exact⟨x :: k,qL.2 ⟨h,h1⟩,fun e=>by rw[qj,qj,h2]⟩
theorem L9(F:List Int->Rat):∀ (k:List (List Int)) (_:k.Nodup) (e:List Int),Pl.coef (k.map (fun x=>(x,F x))) e=if e∈k then F e else 0
 | [],_,e=>by simp[Pl.coef]
 | x :: r,h,e=>by
  have h1:=qL.1 h;have b:=L9 F r h1.2 e;rw[qP];unfold Pl.coef;rw[b];by_cases a:x=e
  · subst a;rw[pP rfl,pC h1.1,pP (by simp)];exact wH _
  · rw[pC a];by_cases he:e∈r
    · rw[pP he,pP (by simp[he])];exact Rat.zero_add _
    · rw[pC he,pC (by simp[he,Ne.symm a])];exact Rat.zero_add _
theorem Xf{p:List Pl.Tm}(h6:∀ t∈p,t.1.length=6):∃ a,Pl.Nrm a/\∀ e,Pl.coef a e=Pl.coef p e:=by
 obtain⟨k,h1,h2⟩:=Rg (p.map (·.1));refine⟨(k.map (fun x=>(x,Pl.coef p x))).filter (fun t=>decide (t.2≠0)),Pl.Nrm.filter ?_ ?_,fun e => ?_⟩
 · intro t b;obtain⟨x,d,rfl⟩:=pU.1 b;obtain⟨s,c,rfl⟩:=pU.1 ((h2 x).1 d);exact h6 s c
 · rw[sn];have:((fun t:Pl.Tm=>t.1) ∘ fun x=>(x,Pl.coef p x))=id:=rfl;rw[this,List.map_id];exact h1
 · rw[Pl.coef_nz,L9 _ k h1];by_cases he:e∈k
   · rw[pP he]
   · rw[pC he];refine(Pl.coef_absent fun t b h=>he ((h2 e).2 ?_)).symm;rw[<-h];exact ri b
theorem Dv{p:List Pl.Tm}(h6:∀ t∈p,t.1.length=6):Pl.Canon 6 (cnP p)/\∀ e,Pl.coef (cnP p) e=Pl.coef p e:=by
 obtain⟨b,h1,h2⟩:=Xf h6;obtain⟨l,h3,h4⟩:=Im b h1.len;have a:=h1.perm h3.symm;have c:Pl.Canon 6 l:=Pl.canon_of_sorted a.len a.nz h4 a.nodup;have e:cnP p=l:=Fe h1 h2 h3 h4;rw[e];exact⟨c,fun e=>by rw[Pl.coef_perm h3,h2]⟩
theorem Jp{p:List Pl.Tm}(h6:∀ t∈p,t.1.length=6){t:Pl.Tm}(a:t∈cnP p):∃ s∈p,s.1=t.1:=by
 obtain⟨h1,h2⟩:=Dv h6;have h3:Pl.coef p t.1≠0:=by
  rw[<-h2,Pl.coef_mem (Dh h1).nodup a];exact h1.nz t a
 exact Pl.coef_present h3
theorem Jq{p:List Pl.Tm}{vars:Nat}(hi:∀ t∈p,InV vars t.1):∀ t∈cnP p,InV vars t.1:=fun t a=>by
 obtain⟨s,b,e⟩:=Jp (fun t a=>(hi t a).1) a;rw[<-e];exact hi s b
theorem VD{vars:Nat}{ts:List Tx}{l:List Pl.Tm}(h:rdP vars ts=some l):∀ t∈l,InV vars t.1:=by
 intro m c;obtain⟨t,g,d⟩:=F7 h c;obtain⟨_,_,f,a,b⟩:=Bm d;rw[b];exact InV.pad (by omega) (by have:=(AW h).1;omega) (fun x e=>(a x e).1)
theorem OI{p:List Pl.Tm}(d:1<=b)(h:∀ t∈p,Pl.RB b t.2)(g:p.length*(b+1)+1<=2400)(f:Cj p):EH p:=by
 refine⟨fun a s e x => ?_,fun t c=>(h t c).mono ?_,f⟩
 · have h1:∀ t∈a,Pl.RB b t.2:=fun t c=>h t (by rw[<-e];simp[c]);refine(Pl.RB.coef d x h1).mono (pD ?_ g);have:a.length<=p.length:=by rw[<-e];simp
   have:=px (b+1) this;omega
 · have:1<=p.length:=rj c;have:=px (b+1) this;omega
namespace Aw
def s1:List UInt8:=[49]
def s12:List UInt8:=[49,47,50]
def Xh:List UInt8:=[45,49,47,50]
def s7:List UInt8:=[55]
def e0:List Int:=[1,0,0,0,0,0]
def T1:List Tx:=[(s1,[1,0])]
def T2:List Tx:=[(s1,[2,0])]
def M:List Tx:=[(s12,[1,1]),(s1,[1,0]),(Xh,[1,1])]
end Aw
theorem Qs{xs ys:List Tx}(hp:xs.take k=ys.take k)(h1:k<xs.length)(h2:k<ys.length)(he:xs.getD k tm0=ys.getD k tm0):xs.take (k+1)=ys.take (k+1):=by
 simp only[gqq,h1,h2,oO,pY]at he;rw[pB h1,pB h2,hp,he]
theorem B9{b:Option Addr}{m:Nat}{xs ys:List Tx}(hx:AH w a n c xs)(hy:AH w b m d ys) :
 Calls Tryz.prog 18 #[.agg #[.int .i64 va,.slice a n c],.agg #[.int .i64 vb,.slice b m d]] w fun e w'=>e = .returned (.bool (decide (va=vb/\xs=ys)))/\Ext w w':=by
 obtain⟨r,hr⟩:∃ r,decide (va=vb/\xs=ys)=r:=⟨_,rfl⟩;rw[hr];have HR:=qh hr;clear hr;have a0:=hx.len;have a3:=hy.len;obtain⟨rx,hX,_,a4⟩:=hx;obtain⟨ry,hY,_,a5⟩:=hy;have al:=qh a4;have ao:=qh a5;have I:=qh a0;have J:=qh a3;clear a4 a5 a0 a3;have b4:=hX.le;have b3:=hY.le
 go_enter Tryz.func18,Tryz.ntmps18
 go_upto_region 1 with(fail)
 refine Cf ?_;intro w0 N K L ax;have b5:=K.c 0 rfl;have ay:=K.c 1 rfl;have b6:=L.c 0 rfl;have aA:=L.c 1 rfl;clear K L ax;by_cases hv:va=vb
 · subst hv;have av:(va != va)=false:=by simp
   by_cases Z:n=m
   · have ar:((n:Int) != (m:Int))=false:=by simp[Z]
     have HL:=qh Z;clear Z;go_wp2
     go_loopw[5] (fun i wr=>∃ k:Nat,k<=n/\i = .int .i64 k/\Ext w0 wr/\Hid (xs.take k=ys.take k)) (fun i _=>n-(intOf i).toNat)
     case atStart=>exact⟨0,pE _,rfl,Ext.refl _,qh rfl⟩
     case round =>
      obtain⟨k,hk,rfl,H,HP⟩:=hrel;have M:=N.trans H;have ag:=H.cell ay;have ah:=H.cell aA;by_cases R:k<n
      · have p:k<m:=by have:=HL.out;omega
        obtain⟨F,o1,rfl,P⟩:=(hX.ext M).rd (by omega);obtain⟨G,o2,rfl,Q⟩:=(hY.ext M).rd (by omega);obtain⟨s1,a1,n1,c1,a6,a8,ac⟩:=al.out k R;obtain⟨T,a2,n2,c2,a7,a9,ad⟩:=ao.out k p;have x0:=P k R 0 (by omega);have x1:=P k R 1 (by omega);have y0:=Q k p 0 (by omega);have y1:=Q k p 1 (by omega);rw[a6]at x0 x1;rw[a7]at y0 y1;simp only[vN,vO,qy]at x0 x1 y0 y1;have Y:=fun(g:World) (f:Ext wr g)=>qh (LT ((ac.ext M).ext f) ((ad.ext M).ext f))
        have E:Hid ((xs.getD k tm0).1=An s1/\(ys.getD k tm0).1=An T):=qh ⟨a8.symm,a9.symm⟩
        have W:Hid (((xs.getD k tm0).1≠(ys.getD k tm0).1\/(xs.getD k tm0).2≠(ys.getD k tm0).2)->r=false):=qh (fun h=>by
         rw[<-HR.out];apply pN;rintro⟨_,rfl⟩
         rcases h with h|h <;> exact h rfl)
        clear P Q a6 a7 a8 a9 ac ad;generalize aa:(xs.getD k tm0).2=C at *
        generalize ab:(ys.getD k tm0).2=e2 at *
        have X:=qh (And.intro aa ab);clear aa ab;go_wp2;by_cases q:s1.toList=T.toList
        · have ai:(s1.toList != T.toList)=false:=by simp[q]
          have ap:Hid ((xs.getD k tm0).1=(ys.getD k tm0).1):=qh (by
           rw[E.out.1,E.out.2];unfold An;rw[sz,sz]at q
           exact q)
          obtain⟨S,O⟩:∃ S,decide (C=e2)=S:=⟨_,rfl⟩;have V:=fun(g:World) (f:Ext wr g)=>qh (Y g f).out;rw[O]at V;have U:=qh O;clear Y O;have l:=fun(g:World) (f:Ext wr g)=>qh (And.intro (f.cell ag) (And.intro (f.cell ah) (And.intro (f.cell x0) (And.intro (f.cell x1) (And.intro (f.cell y0) (f.cell y1))))))
          refine B0
           [hdP w.heap.size 1,hdS (some ⟨F,o1,none⟩) n c,hdI k,hdP F (o1+k*2),hdP F (o1+k*2),he (.string s1),hdP (w.heap.size+1) 1,hdS (some ⟨G,o2,none⟩) m d,hdI k,hdP G (o2+k*2),hdP G (o2+k*2),he (.string T),hdB false,hdB false,hdP w.heap.size 1,hdS (some ⟨F,o1,none⟩) n c,hdI k,hdP F (o1+k*2),hdP F ((o1+k*2)+1),hdS a1 n1 c1,hdP (w.heap.size+1) 1,hdS (some ⟨G,o2,none⟩) m d,hdI k,hdP G (o2+k*2),hdP G ((o2+k*2)+1),hdS a2 n2 c2,hp (fun v g=>v = .bool S),hdB (!S),hdB (!S)]
           ⟨fun v w w' e h=>h,trivial⟩ ⟨?o0,?o1,?o2,?o3,?o4,?o5,?o6,?o7,?o8,?o9,?o10,?o11,?o12,?o13,?o14,?o15,?o16,?o17,?o18,?o19,?o20,?o21,?o22,?o23,?o24,?o25,?o26,?o27,?o28,trivial⟩ ?fin
          case o0 | o6 | o14 | o18 | o20 | o24=>exact ofa (d:=1)
          case o1 | o5 | o7 | o11 | o15 | o19 | o21 | o25=>exact ol
          case o2 | o8 | o13 | o16 | o22=>exact omv
          case o4 | o10=>exact ofa (d:=0)
          case o3 =>
           refine Aj rfl fun B g f j h => ?_;have e0:_=_:=h.1;have C:_=_:=h.2.1;obtain⟨s,t,x,y,z,A⟩:=(l g f).out;go_simp
           try (first | (intros;omega) | exact pq _ (by omega))
          case o9 =>
           refine Aj rfl fun B g f j h => ?_;have e0:_=_:=h.1;have C:_=_:=h.2.1;obtain⟨s,t,x,y,z,A⟩:=(l g f).out;go_simp
           try (first | (intros;omega) | exact pq _ (by omega))
          case o12 =>
           refine Aj rfl fun B g f j h => ?_;have e0:_=_:=h.1;have C:_=_:=h.2.1;obtain⟨s,t,x,y,z,A⟩:=(l g f).out;go_simp
           try (first | (intros;omega) | exact pq _ (by omega))
          case o17 =>
           refine Aj rfl fun B g f j h => ?_;have e0:_=_:=h.1;have C:_=_:=h.2.1;obtain⟨s,t,x,y,z,A⟩:=(l g f).out;go_simp
           try (first | (intros;omega) | exact pq _ (by omega))
          case o23 =>
           refine Aj rfl fun B g f j h => ?_;have e0:_=_:=h.1;have C:_=_:=h.2.1;obtain⟨s,t,x,y,z,A⟩:=(l g f).out;go_simp
           try (first | (intros;omega) | exact pq _ (by omega))
          case o26 =>
           refine Ag rfl fun B g f j b0 h => ?_;have C:_=_:=h.2.1;have e2:_=_:=h.2.2.1;obtain⟨s,t,x,y,z,A⟩:=(l g f).out;refine⟨26,#[.slice a1 n1 c1,.slice a2 n2 c2],by go_simp,((V g f).out).mono ?_⟩;rintro e w' ⟨rfl,aq⟩;exact⟨_,rfl,aq.ext,rfl⟩
          case o27 =>
           refine Aj rfl fun B g f j h => ?_;obtain⟨v0,e0,rfl⟩:=h.1;obtain⟨s,t,x,y,z,A⟩:=(l g f).out;go_simp
          case o28 =>
           refine Aj rfl fun B g f j h => ?_;have e0:_=_:=h.1;have e2:_=_:=h.2.2.1;obtain⟨s,t,x,y,z,A⟩:=(l g f).out;go_simp
          case fin =>
           intro g f;rintro _ rfl;change wpList _ _ _ _ _ _;simp only[Ci];cases S with
           | true =>
            have aj:=qh (rL U.out);go_wp2;go_roundw
            case rel=>exact⟨k+1,by omega,by go_num,H.trans f,qh (Qs HP.out (by have:=I.out;omega) (by have:=J.out;omega) (Prod.ext ap.out (by rw[X.out.1,X.out.2,aj.out])))⟩
            case measure=>simp[intOf];omega
           | false =>
            have o:Hid (r=false):=qh (W.out (Or.inr (of_decide_eq_false U.out)));go_wp2;go_ret;exact⟨by rw[o.out];rfl,M.trans f⟩
        · have ai:(s1.toList != T.toList)=true:=pb.2 q
          have o:Hid (r=false):=qh (W.out (Or.inl (by
           rw[E.out.1,E.out.2];unfold An;intro h;apply q;rw[sz,sz]
           exact h)))
          have D:=fun(g:World) (f:Ext wr g)=>qh (And.intro (f.cell ag) (And.intro (f.cell ah) (And.intro (f.cell x0) (And.intro (f.cell x1) (And.intro (f.cell y0) (f.cell y1))))))
          refine B0
           [hdP w.heap.size 1,hdS (some ⟨F,o1,none⟩) n c,hdI k,hdP F (o1+k*2),hdP F (o1+k*2),he (.string s1),hdP (w.heap.size+1) 1,hdS (some ⟨G,o2,none⟩) m d,hdI k,hdP G (o2+k*2),hdP G (o2+k*2),he (.string T),hdB true,hdB true,hdU,hdU,hdU,hdU,hdU,hdU,hdU,hdU,hdU,hdU,hdU,hdU,hdU,hdU,hdB true]
           trivial ⟨?o0,?o1,?o2,?o3,?o4,?o5,?o6,?o7,?o8,?o9,?o10,?o11,?o12,?o13,?o14,?o15,?o16,?o17,?o18,?o19,?o20,?o21,?o22,?o23,?o24,?o25,?o26,?o27,?o28,trivial⟩ ?fin
          case o0 | o6=>exact ofa (d:=1)
          case o1 | o5 | o7 | o11=>exact ol
          case o2 | o8 | o13=>exact omv
          case o4 | o10=>exact ofa (d:=0)
          case o14 | o15 | o16 | o17 | o18 | o19 | o20 | o21 | o22 | o23 | o24 | o25 | o26 | o27=>exact O5 rfl
          case o3 =>
           refine Aj rfl fun B g f j h => ?_;have e0:_=_:=h.1;have C:_=_:=h.2.1;obtain⟨s,t,x,y,z,A⟩:=(D g f).out;go_simp
           try (first | (intros;omega) | exact pq _ (by omega))
          case o9 =>
           refine Aj rfl fun B g f j h => ?_;have e0:_=_:=h.1;have C:_=_:=h.2.1;obtain⟨s,t,x,y,z,A⟩:=(D g f).out;go_simp
           try (first | (intros;omega) | exact pq _ (by omega))
          case o12 =>
           refine Aj rfl fun B g f j h => ?_;have e0:_=_:=h.1;have C:_=_:=h.2.1;obtain⟨s,t,x,y,z,A⟩:=(D g f).out;go_simp
           try (first | (intros;omega) | exact pq _ (by omega))
          case o28 =>
           refine Aj rfl fun B g f j h => ?_;have e0:_=_:=h.1;have e2:_=_:=h.2.2.1;obtain⟨s,t,x,y,z,A⟩:=(D g f).out;go_simp
          case fin =>
           intro g f;change wpList _ _ _ _ _ _;simp only[Ci];go_wp2;go_ret;exact⟨by rw[o.out];rfl,M.trans f⟩
      · have ak:Hid (r=true):=qh (by
         rw[<-HR.out];apply qC;refine⟨by trivial,?_⟩;have h1:=HP.out;have h2:=HL.out
         rwa[pu (by have:=I.out;omega),pu (by have:=J.out;omega)]at h1)
        go_wp2;go_ret;exact⟨by rw[ak.out];rfl,M⟩
   · have ar:((n:Int) != (m:Int))=true:=by simp;omega
     have o:Hid (r=false):=qh (by
      rw[<-HR.out];apply pN;rintro⟨_,rfl⟩
      exact Z (I.out.symm.trans J.out))
     clear Z;go_wp2;go_ret;exact⟨by rw[o.out];rfl,N⟩
 · have av:(va != vb)=true:=by simpa using hv
   have o:Hid (r=false):=qh (by
    rw[<-HR.out];apply pN;rintro⟨h,_⟩
    exact hv h)
   clear hv;go_wp2;go_ret;exact⟨by rw[o.out];rfl,N⟩
def Av(ts:List Tx)(nt d:Nat):Prop:=ts.length<=nt/\∀ t∈ts,t.1.length<=d/\t.2.length<=12
instance (ts:List Tx) (nt d:Nat):Decidable (Av ts nt d):=inferInstanceAs (Decidable (_/\_))
theorem Ea{ts:List Tx}(O:AH w a n c ts) :
 Calls Tryz.prog 37 #[.agg #[.int .i64 va,.slice a n c],.int .i64 nt,.int .i64 d] w fun e W=>e = .returned (.bool (decide (Av ts nt d)))/\Ext w W:=by
 have s:=O.len;obtain⟨rx,N,_,v⟩:=O;have G:=qh v;have f:=qh s;clear v s;have S:=N.le
 go_enter Tryz.func37,Tryz.ntmps37
 go_upto_region 1 with(fail)
 refine AP ?_;intro X q l K;have U:=l.c 0 rfl;have L:=l.c 1 rfl;clear l K;by_cases R:nt<n
 · have b:Hid (decide (Av ts nt d)=false):=qh (by
    apply pN;rintro⟨h,_⟩;have:=f.out
    omega)
   have J:(nt:Int)<(n:Int):=by omega
   clear R;go_wp2;go_ret;exact⟨by rw[b.out];rfl,q⟩
 · have J:¬ (nt:Int)<(n:Int):=by omega
   go_wp2
   go_loopw[7] (fun i wr=>∃ k:Nat,k<=n/\i = .int .i64 k/\Ext X wr/\Hid (∀ i,i<k->(ts.getD i tm0).1.length<=d/\(ts.getD i tm0).2.length<=12)) (fun i _=>n-(intOf i).toNat)
   case atStart=>exact⟨0,pE _,rfl,Ext.refl _,qh (fun i C=>absurd C (by omega))⟩
   case round =>
    obtain⟨k,hk,rfl,m,M⟩:=hrel;have B:=q.trans m;have V:=m.cell L;by_cases g:k<n
    · obtain⟨Z,o1,rfl,o⟩:=(N.ext B).rd (by omega);obtain⟨s1,Y,D,c1,x,y,A⟩:=G.out k g;have P:=o k g 0 (by omega);have Q:=o k g 1 (by omega);rw[x]at P Q;simp only[vN,vO,qy]at P Q;have r:=A.len;have z:s1.size=(ts.getD k tm0).1.length:=by rw[<-y,Ay]
      have j:Hid (s1.size=(ts.getD k tm0).1.length/\(ts.getD k tm0).2.length=D):=qh ⟨z,r⟩;have p:Hid (ts.getD k tm0∈ts):=qh (by simp[f.out,g]);clear o x y A r z;by_cases h1:d<s1.size
      · have H:(d:Int)<(s1.size:Int):=by omega
        have b:Hid (decide (Av ts nt d)=false):=qh (by
         apply pN;rintro⟨_,h⟩;have:=h _ p.out;have:=j.out
         omega)
        go_wp2;go_ret;exact⟨by rw[b.out];rfl,B⟩
      · have H:¬ (d:Int)<(s1.size:Int):=by omega
        by_cases h2:12<D
        · have I:(12:Int)<(D:Int):=by omega
          have b:Hid (decide (Av ts nt d)=false):=qh (by
           apply pN;rintro⟨_,h⟩;have:=h _ p.out;have:=j.out
           omega)
          go_wp2;go_ret;exact⟨by rw[b.out];rfl,B⟩
        · have I:¬ (12:Int)<(D:Int):=by omega
          have F:Hid (∀ i,i<k+1->(ts.getD i tm0).1.length<=d/\(ts.getD i tm0).2.length<=12):=qh (fun i C=>by
           by_cases e:i=k
           · subst e;have:=j.out;omega
           · exact M.out i (by omega))
          go_wp2;go_roundw
          case rel=>exact⟨k+1,by omega,by go_num,m,F⟩
          case measure=>simp[intOf];omega
    · have E:Hid (decide (Av ts nt d)=true):=qh (by
       apply qC;refine⟨by have:=f.out;omega,fun t T => ?_⟩;obtain⟨i,C,rfl⟩:=r9.1 T;have:=M.out i (by have:=f.out;omega)
       simpa[C]using this)
      go_wp2;go_ret;exact⟨by rw[E.out];rfl,B⟩
theorem AH.nil(w:World):AH w none 0 0 []:=⟨[],SlK.nil w 2,rfl,fun i a=>absurd a (by omega)⟩
theorem VI(h:(txt q).length<=k+2)(h1:1<=k):q.den<P2 (4*k):=by
 have e:(16:Nat)^k=P2 (4*k):=by unfold P2;rw[vM]
 have b:10^k<=16^k:=tG (by omega) _;rw[<-e];by_cases a:q.den=1
 · rw[a];exact Nat.one_lt_pow (by omega) (by omega)
 · have h3:=M4 q.den;have h4:(Lib.decDigits q.den).length<=k:=by
    unfold txt at h;rw[pC a]at h;have h5:0<(Lib.itoa q.num).length:=by
     unfold Lib.itoa;split
     · simp
     · exact List.length_pos_iff.2 (W.dec_ne _)
    simp at h;omega
   exact pS h3 (pD (pR (by omega) h4) b)
section
variable {va:Int} {ts:List Tx} {l:List Pl.Tm}
theorem Bz(b:Av ts nt d)(a:d<=570):∀ t∈ts,t.1.length<=570:=fun t c=>pD (b.2 t c).1 a
end
end Go.Proofs.YtlbmnokpiilfpaaGreatDoor
namespace Go.Proofs.YtlbmnokpiilfpaaGreatDoor.Pl
theorem lin_congr{F G:List Int->Rat}:∀ {l:List Tm},(∀ t∈l,F t.1=G t.1)->lin F l=lin G l
 | [],_=>rfl
 | t :: r,h=>by
  unfold lin;rw[h t (by simp),lin_congr (l:=r) (fun s a=>h s (by simp[a]))]
theorem lin_zer{F:List Int->Rat}:∀ {l:List Tm},(∀ t∈l,F t.1=0)->lin F l=0
 | [],_=>rfl
 | t :: r,h=>by
  unfold lin;rw[h t (by simp),lin_zer (l:=r) (fun s a=>h s (by simp[a])),Rat.mul_zero];exact Rat.zero_add _
theorem lin_add(F G:List Int->Rat):∀ l:List Tm,lin (fun m=>F m+G m) l=lin F l+lin G l
 | []=>by simp[lin];grind
 | t :: r=>by unfold lin;rw[lin_add F G r];grind
end Go.Proofs.YtlbmnokpiilfpaaGreatDoor.Pl
namespace Go.Proofs.YtlbmnokpiilfpaaGreatDoor
open Go Go.RowKit
variable {f:Act} {ops:Array Oper} {Q:Exit->Act->World->Prop} {va:Int} {L gs l ps ps0 q:List (List Int)} {m:List (List Int×Value)} {k p xs ys:List Int} {seen:List Nat} {rest:List Oper} {cs cs' qc:List Value} {D E Y Z b base base' c' cg d g i it j n n' ng r:Nat} {o:Oper} {x y:Operand} {a a' ag:Option Addr} {P:Program} {e':TypeId} {w:World}
namespace Pl
theorem plE_len{a b:List Int}(h:a.length=b.length):(plE a b).length=a.length:=by
 unfold plE;rw[List.length_zipWith,h,Nat.min_self]
end Pl
namespace Pl
def QB(D Y:Nat)(q:Rat):Prop:=∃ z:Int,q*(D:Rat)=(z:Rat)/\z.natAbs<=Y
theorem QB.zero(D Y:Nat):QB D Y 0:=⟨0,by rw[Rat.zero_mul];rfl,by simp⟩
theorem QB.add{p q:Rat}(hp:QB D Y p)(a:QB D Z q):QB D (Y+Z) (p+q):=by
 obtain⟨x,h1,h2⟩:=hp;obtain⟨y,h3,h4⟩:=a;refine⟨x+y,by rw[Rat.add_mul,h1,h3,vU],?_⟩;have:=we x y;omega
theorem QB.mul{p q:Rat}(hp:QB D Y p)(a:QB E Z q):QB (D*E) (Y*Z) (p*q):=by
 obtain⟨x,h1,h2⟩:=hp;obtain⟨y,h3,h4⟩:=a;refine⟨x*y,?_,by rw[qW];exact qK h2 h4⟩;rw[vS,wC,<-h1,<-h3]
 grind
theorem QB.neg{q:Rat}(h:QB D Y q):QB D Y (-q):=by
 obtain⟨x,h1,h2⟩:=h;exact⟨-x,by rw[Rat.neg_mul,h1,Rat.intCast_neg],by rw[vK];exact h2⟩
theorem QB.mono{q:Rat}(h:QB D Y q)(a:Y<=Z):QB D Z q:=by
 obtain⟨x,h1,h2⟩:=h;exact⟨x,h1,by omega⟩
theorem QB.scale{q:Rat}(h:QB D Y q)(k:Nat):QB (D*k) (Y*k) q:=by
 obtain⟨x,h1,h2⟩:=h;refine⟨x*k,?_,by rw[qW];exact qK h2 (lrf _)⟩;rw[vS,wC,<-h1,<-vT];rfl
theorem QB.parts{q:Rat}(h:QB D Y q)(c:0<D):q.num.natAbs<=Y/\q.den∣D:=by
 obtain⟨z,h1,h2⟩:=h;have h0:(D:Rat)≠0:=fun h=>by have:=vl.1 h;omega
 have e:q=mkRat z D:=by
  rw[mkRat_div,<-h1,vT,Rat.mul_inv_cancel _ h0,wU]
 obtain⟨b,a⟩:=rat_frac (n:=z) (d:=D) (by omega);rw[e];refine⟨pD (mkRat_le (by omega)).1 h2,?_⟩;rw[a];exact Nat.div_dvd_of_dvd (sR _ _)
theorem QB.rb{q:Rat}(h:QB D Y q)(a:0<D)(h1:D<P2 b)(h2:Y<P2 b):RB b q :=
 ⟨pJ (h.parts a).1 h2,pJ (tR a (h.parts a).2) h1⟩
theorem QB.of{q:Rat}(a:q.den∣D)(b:q.num.natAbs<=Y):QB D (Y*D) q:=by
 refine⟨zsc q D,(MT a).symm,?_⟩;unfold zsc;rw[qW];exact qK b (qE _ _)
def SB(D Y:Nat)(l:List Tm):Prop:=∀ t∈l,QB D Y t.2
theorem SB.coef{D Y:Nat}(e:List Int):∀ {l:List Tm},SB D Y l->QB D (l.length*Y) (coef l e)
 | [],_=>QB.zero _ _
 | t :: r,h=>by
  have h1:QB D Y (if t.1=e then t.2 else 0):=by
   split
   · exact h t (by simp)
   · exact QB.zero _ _
  have h2:=QB.add h1 (SB.coef e (l:=r) (fun s a=>h s (by simp[a])));exact h2.mono (by rw[qk,qJ];omega)
theorem SB.mono{D Y Z:Nat}{l:List Tm}(h:SB D Y l)(b:Y<=Z):SB D Z l:=fun t a=>(h t a).mono b
theorem SB.scale{D Y:Nat}{l:List Tm}(h:SB D Y l)(k:Nat):SB (D*k) (Y*k) l:=fun t a=>(h t a).scale k
theorem SB.app{a b:List Tm}(c:SB D Y a)(d:SB D Y b):SB D Y (a ++ b):=fun t e=>(qd.1 e).elim (c t) (d t)
theorem SB.app2{a b:List Tm}(c:SB D Y a)(d:SB E Z b):SB (D*E) (Y*E+Z*D) (a ++ b):=by
 refine SB.app ((c.scale E).mono (by omega)) ?_;rw[pM D E];exact(d.scale D).mono (by omega)
theorem SB.of{Y:Nat}{l:List Tm}(h:∀ t∈l,t.2.num.natAbs<=Y):SB (Bk (l.map (·.2))) (Y*Bk (l.map (·.2))) l :=
 fun t a=>QB.of (GX (ri a)) (h t a)
end Pl
theorem Jr{p:List Pl.Tm}(h6:∀ t∈p,t.1.length=6):(cnP p).length<=p.length:=by
 have h:=Pl.nodup_le ((cnP p).map (·.1)) (p.map (·.1)) (Dh (Dv h6).1).nodup (fun e he=>by
  obtain⟨t,b,rfl⟩:=pU.1 he;obtain⟨s,a,e⟩:=Jp h6 b;rw[<-e]
  exact ri a)
 simpa using h
theorem SB.cn{p:List Pl.Tm}(h6:∀ t∈p,t.1.length=6)(h:Pl.SB D Y p):Pl.SB D (p.length*Y) (cnP p):=by
 intro t a;obtain⟨h1,h2⟩:=Dv h6;rw[<-Pl.coef_mem (Dh h1).nodup a,h2];exact h.coef t.1
theorem VJ{q:Rat}(h:Pl.RB b q):(txt q).length<=2*(b/3)+4:=by
 have h1:=QR h.1;have h2:=ML h.2;unfold txt;rw[pZ];split
 · simp;omega
 · simp;omega
def Lo(l:List Pl.Tm):Prop:=∀ t∈l,t.1.length=6/\∀ x∈t.1,0<=x/\x<=1048576
theorem Rn{p:List Pl.Tm}(h:Pl.SB D Y p)(a:0<D)(h1:D<P2 b)(h2:p.length*Y<P2 b)(c:b<=1920)(d:∀ t∈p,t.1.length=6/\∀ x∈t.1,0<=x/\x<=1099511627776)(f:p.length<=1000000):Cj p:=by
 refine⟨fun e he => ?_,f⟩;obtain⟨t,g,rfl⟩:=Pl.coef_present he;exact⟨RB.str ((h.coef t.1).rb a h1 h2) c,d t g⟩
theorem T7{p:List Pl.Tm}(h:Pl.SB D Y p)(d:0<D)(h1:D<P2 b)(h2:p.length*Y<P2 b)(j:b<=1920)(g:Lo p)(l:p.length<=1000):EH p where
 pre:=fun a s e x=>by
  have i:Pl.SB D Y a:=fun t c=>h t (by rw[<-e];simp[c]);have f:a.length<=p.length:=by rw[<-e];simp
  exact((i.coef x).rb d h1 (pJ (px _ f) h2)).mono (by omega)
 each:=fun t c=>((h t c).rb d h1 (pJ (by
  have:1<=p.length:=rj c;have:=px Y this
  omega) h2)).mono (by omega)
 fits:=Rn h d h1 h2 j (fun t c=>⟨(g t c).1,fun x k=>by have:=(g t c).2 x k;omega⟩) (by omega)
theorem VK{q:Rat}{k:Nat}(h:(txt q).length<=k):q.num.natAbs<10^k :=
 pS (Rb q).1 (pR (by omega) h)
theorem T8{ts:List Tx}{l:List Pl.Tm}{nt B:Nat}(h:rdP va ts=some l)(g:Av ts nt d)(o:3<=d)(n:10^d<=P2 B) :
 ∃ D,0<D/\D<P2 (4*(d-2)*nt+1)/\Pl.SB D (P2 (B+(4*(d-2)*nt+1))) l:=by
 have e:∀ t∈l,(txt t.2).length<=d:=by
  intro m e;obtain⟨t,c,j⟩:=F7 h e;have h1:=Cp (Bm j).1;rw[<-h1];exact(g.2 t c).1
 have a:=BH h;have f:Bk (l.map (·.2))<P2 (4*(d-2)*nt+1):=by
  have h1:=OD (l:=l.map (·.2)) (b:=4*(d-2)) (fun q i=>by
   obtain⟨t,c,rfl⟩:=pU.1 i
   exact VI (k:=d-2) (by have:=e t c;omega) (by omega))
  refine Af h1 ?_;have h2:l.length<=nt:=by rw[a];exact g.1
  have:=qp (4*(d-2)) h2;rw[pH];omega
 refine⟨_,Cn (l.map (·.2)),f,(Pl.SB.of (Y:=P2 B) (fun t c => ?_)).mono ?_⟩
 · have:=VK (e t c);omega
 · rw[Bw];exact qp _ (sI f)
structure Pv(v:Int)(l:List Pl.Tm):Prop where
 v0:0<=v/\v<=6
 can:Pl.Canon 6 l
 inv:∀ t∈l,InV v.toNat t.1
theorem Pv.of{v:Int}{ts:List Tx}{l:List Pl.Tm}(h:rdP v ts=some l):Pv v l:=by
 have a:=(AW h).1;refine⟨a,BW h,?_⟩;obtain⟨k,rfl⟩:∃ k:Nat,v=(k:Int):=⟨v.toNat,by omega⟩;rw[qZ];exact VD h
theorem InV.pl{a b:List Int}(r:InV n a)(s:InV n b):InV n (Pl.plE a b):=by
 obtain⟨i,m,j⟩:=r;obtain⟨o,p,k⟩:=s;refine⟨by rw[Pl.plE_len (by omega),i],fun x c => ?_,?_⟩
 · have f:∀ {a b:List Int},(∀ x∈a,0<=x)->(∀ x∈b,0<=x)->∀ x∈Pl.plE a b,0<=x:=by
    intro a
    induction a with
    | nil=>intro b _ _ x c;simp[Pl.plE]at c
    | cons u a ih =>
     intro b h1 h2 x c;cases b with
     | nil=>simp[Pl.plE]at c
     | cons w b =>
      have d:x=u+w\/x∈Pl.plE a b:=by simpa[Pl.plE]using c
      rcases d with rfl|c
      · have:=h1 u (by simp);have:=h2 w (by simp);omega
      · exact ih (fun z e=>h1 z (by simp[e])) (fun z e=>h2 z (by simp[e])) x c
   exact f m p x c
 · unfold AY at j k |-;have q:(Pl.plE a b).take n=Pl.plE (a.take n) (b.take n):=by unfold Pl.plE;rw[List.take_zipWith]
   have g:(a.take n).length=(b.take n).length:=by simp[i,o]
   have l:Pl.plE (a.take n ++ List.replicate (6-(a.take n).length) 0) (b.take n ++ List.replicate (6-(b.take n).length) 0)=Pl.plE (a.take n) (b.take n) ++ List.replicate (6-(a.take n).length) 0:=by
    unfold Pl.plE;rw[List.zipWith_append g,<-g];congr 1;rw[List.zipWith_replicate];simp
   rw[j,k]at l;rw[q,l,Pl.plE_len g]
theorem Na{a b:List Pl.Tm}(c:∀ t∈a,InV n t.1)(d:∀ t∈b,InV n t.1):∀ t∈a ++ b,InV n t.1:=fun t e=>(qd.1 e).elim (c t) (d t)
theorem Pv.app{v:Int}{a b:List Pl.Tm}(c:Pv v a)(d:Pv v b):Pv v (cnP (a ++ b)) :=
 ⟨c.v0,(Dv fun t e=>(Na c.inv d.inv t e).1).1,Jq (Na c.inv d.inv)⟩
theorem S4{v:Int}{p:List Pl.Tm}(hi:∀ t∈p,InV v.toNat t.1)(c:p.length<=4096)(d:∀ t∈p,t.1.sum<=24):(resQ v p).2.2=0:=by
 have h6:∀ t∈p,t.1.length=6:=fun t f=>(hi t f).1;unfold resQ;rw[pP];refine⟨pD (Jr h6) c,fun t r e => ?_⟩;obtain⟨s,a,b⟩:=Jp h6 (t:=t) (by rw[e];simp);rw[<-b];exact CN.2 ⟨by rw[h6 s a];omega,(hi s a).2.1,d s a⟩
theorem DC{a:Nat}(h:a<b):P2 a<P2 b:=Nat.pow_lt_pow_right (by omega) h
structure Bd(v:Int)(N d y:Nat)(l:List Pl.Tm):Prop where
 pv:Pv v l
 lo:Lo l
 len:l.length<=N
 sb:∃ D,0<D/\D<P2 d/\Pl.SB D (P2 y) l
section
variable {v:Int} {N M d e y z:Nat} {la lb:List Pl.Tm} {ts:List Tx}
theorem Bd.of{nt k B:Nat}(h:rdP v ts=some la)(a:Av ts nt k)(c:3<=k)(b:10^k<=P2 B):Bd v nt (4*(k-2)*nt+1) (B+(4*(k-2)*nt+1)) la :=
 ⟨Pv.of h,A5 h,by rw[BH h];exact a.1,T8 h a c b⟩
theorem Lo.of{l:List Pl.Tm}(h:rdP v ts=some l):Lo l:=A5 h
theorem Bd.app1{m:Nat}(f:Bd v N d y la)(g:Bd v M e z lb)(h1:y+e<m)(h2:z+d<m):(la ++ lb).length<=N+M/\∃ D,0<D/\D<P2 (d+e)/\Pl.SB D (P2 m) (la ++ lb):=by
 obtain⟨D,i,b,j⟩:=f.sb;obtain⟨E,k,c,l⟩:=g.sb;refine⟨by have:=f.len;have:=g.len;rw[pZ];omega,D*E,tA i k,BJ b c,(j.app2 l).mono ?_⟩;have n:P2 y*E<=P2 (m-1):=by
  refine pD ?_ (Hq (a:=y+e) (by omega));rw[Bw];exact qp _ (sI c)
 have o:P2 z*D<=P2 (m-1):=by
  refine pD ?_ (Hq (a:=z+d) (by omega));rw[Bw];exact qp _ (sI b)
 have p:P2 m=P2 (m-1)*2:=by
  conv=>lhs;rw[show m=m-1+1 by omega,Bw]
  rfl
 omega
theorem Bd.app{k m:Nat}(a:Bd v N d y la)(b:Bd v M e z lb)(h:rdP v ts=some (cnP (la ++ lb)))(h1:y+e<m)(h2:z+d<m)(j:N+M<=P2 k):Bd v (N+M) (d+e) (k+m) (cnP (la ++ lb)):=by
 have h6:∀ t∈la ++ lb,t.1.length=6:=fun t l=>(Na a.pv.inv b.pv.inv t l).1;obtain⟨c,D,f,g,i⟩:=a.app1 b h1 h2;refine⟨a.pv.app b.pv,A5 h,pD (Jr h6) c,D,f,g,(SB.cn h6 i).mono ?_⟩;rw[Bw];exact px _ (pD c j)
theorem Bd.sum{k m:Nat}(a:Bd v N d y la)(c:Bd v M e z lb)(h1:y+e<m)(h2:z+d<m)(j:N+M<=P2 k)(h3:N+M<=1000)(h4:k+m<1920)(h5:d+e<=1920):EH (la ++ lb):=by
 obtain⟨l,D,f,g,i⟩:=a.app1 c h1 h2;refine T7 (b:=1920) i f (Af g h5) ?_ (by omega) (fun t n=>(qd.1 n).elim (a.lo t) (c.lo t)) (by omega);refine pJ ?_ (DC h4);rw[Bw];exact px _ (pD l j)
end
def mp(n:Nat)(a e:List Int):List Int:=AY (mvd a (e.take n))
def ZC(n:Nat)(a:List Int)(l:List Pl.Tm):List Pl.Tm:=l.map fun t=>(mp n a t.1,t.2)
theorem Zn{l:List Int}:(AY l).take l.length=l:=by unfold AY;exact List.take_left
section
variable {n:Nat} {a b e f:List Int} {l k p q:List Pl.Tm}
theorem InV.tk(h:InV n e)(a:n<=6):(e.take n).length=n:=by rw[qg,h.1];omega
theorem eY(b:n<=6)(h:InV n e):(mp n a e).take n=mvd a (e.take n):=by
 have h1:(mvd a (e.take n)).length=n:=by rw[H5];exact h.tk b
 have:=Zn (l:=mvd a (e.take n));rw[h1]at this;exact this
theorem eZ(hp:G1 a=true)(c:a.length=n)(b:n<=6)(h:InV n e):InV n (mp n a e) :=
 InV.pad (by rw[H5];exact h.tk b) b fun x d=>h.2.1 x (rF (fq hp (by rw[h.tk b,c]) d))
theorem kJ(hp:G1 a=true)(d:G1 b=true)(g:a.length=n)(f:b.length=n)(c:n<=6)(h:InV n e):mp n a (mp n b e)=mp n (comp a b) e:=by
 show AY (mvd a ((mp n b e).take n))=_;rw[eY c h,fp hp d (by omega) (by rw[h.tk c,f])];rfl
theorem fa(hp:G1 a=true)(b:a.length=n)(c:n<=6)(h:InV n e):(mp n a e).sum=e.sum:=by
 unfold mp;rw[M3,go (dY hp (by rw[h.tk c,b]))]
 conv=>rhs;rw[<-h.2.2,M3]
theorem kO(hp:G1 a=true)(g:a.length=n)(b:n<=6)(h:InV n e)(c:InV n f)(he:mp n a e=mp n a f):e=f:=by
 have h1:mvd a (e.take n)=mvd a (f.take n):=by rw[<-eY b h,<-eY b c,he]
 have h2:e.take n=f.take n:=by
  apply rJ (by rw[h.tk b,c.tk b]);intro i j l;rw[h.tk b]at j;have d:=bP hp (m:=e.take n) (by rw[h.tk b,g]) (i:=i) (by omega);have k:=bP hp (m:=f.take n) (by rw[c.tk b,g]) (i:=i) (by omega);rw[h1,k]at d;simpa[h.tk b,c.tk b,j]using d.symm
 rw[<-h.2.2,<-c.2.2,h2]
theorem fc(F:List Int->Rat):∀ l:List Pl.Tm,Pl.lin F (ZC n a l)=Pl.lin (fun m=>F (mp n a m)) l
 | []=>rfl
 | t :: r=>by
  show t.2*F (mp n a t.1)+Pl.lin F (ZC n a r)=t.2*F (mp n a t.1)+_;rw[fc F r]
theorem jo(hp:G1 a=true)(c:a.length=n)(d:n<=6)(hi:∀ t∈l,InV n t.1)(h:InV n e):Pl.coef (ZC n a l) (mp n a e)=Pl.coef l e:=by
 rw[Pl.coef_lin,Pl.coef_lin,fc];refine Pl.lin_congr fun t f => ?_;show(if mp n a t.1=mp n a e then(1:Rat)else 0)=if t.1=e then 1 else 0
 by_cases b:t.1=e
 · rw[b,pP rfl,pP rfl]
 · rw[pC b,pC fun he=>b (kO hp c d (hi t f) h he)]
theorem dg{u:Pl.Tm}(hu:u∈ZC n a l):∃ t∈l,u=(mp n a t.1,t.2):=by
 obtain⟨t,b,rfl⟩:=pU.1 hu;exact⟨t,b,rfl⟩
theorem dh(hp:G1 a=true)(b:a.length=n)(c:n<=6)(hi:∀ t∈l,InV n t.1):∀ u∈ZC n a l,InV n u.1:=by
 intro u hu;obtain⟨t,d,rfl⟩:=dg hu;exact eZ hp b c (hi t d)
theorem fd:(ZC n a l).length=l.length:=pH ..
end
noncomputable def actA (va:Int) (a:List Int) (o:Option (List Pl.Tm)):Int×List Tx×Int:=match o with | some l=>resQ va (ZC va.toNat a l) | none=>(0,[],1)
section
variable {va:Int} {n N d y:Nat} {a b:List Int} {l k:List Pl.Tm} {ts:List Tx}
theorem am(h:rdP va ts=some l):∀ t∈l,t.1.sum<=24:=by
 have a:=BW h;have b:=Jo h;cases l with
 | nil=>intro t d;cases d
 | cons t r =>
  intro s c;have h1:=DQ a s c;have h2:=(CN.1 (b.2 t r rfl)).2.2;omega
end
def Zz(gs:List (List Int))(n:Nat)(p:List Int):Prop:=∃ ws:List (List Int),(∀ g∈ws,g∈gs)/\p=ws.foldr comp (idn n)
theorem Z1(gs:List (List Int))(n:Nat):Zz gs n (idn n):=⟨[],by simp,rfl⟩
theorem dF{g:List Int}(b:g∈gs)(h:Zz gs n p):Zz gs n (comp g p):=by
 obtain⟨c,h1,rfl⟩:=h;refine⟨g :: c,?_,rfl⟩;intro x a;rcases qj.1 a with rfl|a
 · exact b
 · exact h1 x a
def Zs(gs:List (List Int))(n:Nat):Prop:=∀ g∈gs,G1 g=true/\g.length=n
theorem Zq(d:n<=6)(c:Zs gs n){p:List Int}(h:Zz gs n p):G1 p=true/\p.length=n:=by
 obtain⟨b,h1,rfl⟩:=h
 induction b with
 | nil=>exact⟨dV d,ZJ n⟩
 | cons g b ih =>
  obtain⟨f,a⟩:=ih (fun x e=>h1 x (by simp[e]));obtain⟨i,j⟩:=c g (h1 g (by simp));exact⟨aD i f (by rw[j,a]),by rw[oY,Y3,a]⟩
structure an(gs:List (List Int))(n:Nat)(L q:List (List Int)):Prop where
 nodup:L.Nodup
 reach:∀ p∈L,Zz gs n p
 one:idn n∈L
 sub:∀ p∈q,p∈L
 closed:∀ p∈L,p ∉ q->∀ g∈gs,comp g p∈L
 short:q.length<=L.length
theorem an.start(gs:List (List Int))(n:Nat):an gs n [idn n] [idn n] :=
 ⟨by simp,by simp[Z1],by simp,by simp,by simp,by simp⟩
theorem an.done(h:an gs n L [])(p:List Int):p∈L<->Zz gs n p:=by
 refine⟨h.reach p,?_⟩;rintro⟨a,h1,rfl⟩
 induction a with
 | nil=>exact h.one
 | cons g a ih=>exact h.closed _ (ih (fun x b=>h1 x (by simp[b]))) (by simp) g (h1 g (by simp))
structure aT(gs:List (List Int))(n:Nat)(L q:List (List Int))(a:List Int)(j:Nat):Prop where
 nodup:L.Nodup
 reach:∀ p∈L,Zz gs n p
 one:idn n∈L
 sub:∀ p∈q,p∈L
 mem:a∈L
 closed:∀ p∈L,p ∉ q->p≠a->∀ g∈gs,comp g p∈L
 part:∀ g∈gs.take j,comp g a∈L
 short:q.length<=L.length
theorem aT.start{a:List Int}(h:an gs n L (a :: q)):aT gs n L q a 0 :=
 ⟨h.nodup,h.reach,h.one,fun p hp=>h.sub p (by simp[hp]),h.sub a (by simp),fun p hp d b g c=>h.closed p hp (by simp[d,b]) g c,by simp,by have:=h.short;simp only[qk]at this;omega⟩
theorem aT.fin{a:List Int}(h:aT gs n L q a j)(d:gs.length<=j):an gs n L q:=by
 refine⟨h.nodup,h.reach,h.one,h.sub,fun p hp e g c => ?_,h.short⟩;by_cases b:p=a
 · subst b;exact h.part g (by rw[pu d];exact c)
 · exact h.closed p hp e b g c
theorem bE(a:j<gs.length){g:List Int}(h:g∈gs.take (j+1)):g∈gs.take j\/g=gs.getD j []:=by
 rw[pB a,qd]at h;rcases h with h|h
 · exact Or.inl h
 · right;simp only[pF]at h;simp[a,h]
theorem aT.old{a:List Int}(h:aT gs n L q a j)(d:j<gs.length)(b:comp (gs.getD j []) a∈L):aT gs n L q a (j+1):=by
 refine⟨h.nodup,h.reach,h.one,h.sub,h.mem,h.closed,fun g c => ?_,h.short⟩;rcases bE d c with h1|rfl
 · exact h.part g h1
 · exact b
theorem aT.new{a:List Int}(h:aT gs n L q a j)(e:j<gs.length)(i:comp (gs.getD j []) a ∉ L) :
 aT gs n (L ++ [comp (gs.getD j []) a]) (q ++ [comp (gs.getD j []) a]) a (j+1):=by
 have b:gs.getD j []∈gs:=by simp[e]
 refine⟨?_,?_,by simp[h.one],?_,by simp[h.mem],?_,?_,by have:=h.short;simp;omega⟩
 · rw[th];refine⟨h.nodup,by simp,?_⟩;intro x k y f;simp only[pF]at f;subst f;rintro rfl;exact i k
 · intro p hp;rcases qd.1 hp with hp|hp
   · exact h.reach p hp
   · simp only[pF]at hp;subst hp;exact dF b (h.reach a h.mem)
 · intro p hp;rcases qd.1 hp with hp|hp
   · simp[h.sub p hp]
   · exact List.mem_append_right _ hp
 · intro p hp d c g b;simp only[qd,pF,not_or]at d;rcases qd.1 hp with hp|hp
   · simp[h.closed p hp d.1 c g b]
   · simp only[pF]at hp;exact absurd hp d.2
 · intro g b;rcases bE e b with h1|rfl
   · simp[h.part g h1]
   · simp
theorem nodup_le:∀ (L M:List (List Int)),L.Nodup->(∀ x∈L,x∈M)->L.length<=M.length
 | [],_,_,_=>by simp
 | x :: L,M,hn,hs=>by
  rw[qL]at hn;have hx:x∈M:=hs x (by simp);have:=nodup_le L (M.erase x) hn.2 (fun y a=>(List.mem_erase_of_ne (by rintro rfl;exact hn.1 a)).2 (hs y (by simp[a])));rw[List.length_erase_of_mem hx]at this;have:0<M.length:=rj hx;simp only[qk];omega
theorem im:∀ n,n<7->(gen n (idn n)).length<=720:=by decide +kernel
theorem ZI(c:n<=6)(b:Zs gs n){L:List (List Int)}(a:L.Nodup)(d:∀ p∈L,Zz gs n p):L.length<=720:=by
 refine pD (nodup_le L (gen n (idn n)) a fun p hp => ?_) (im n (by omega));obtain⟨h1,h2⟩:=Zq c b (d p hp);refine cf n (idn n) p h2 (G3 h1).2.2 fun x e=>ci.2 ?_;have:=(G3 h1).2.1 x e;rw[h2]at this;exact this
def Zo(L:List (List Int)):List (List Int×Value):=L.map (fun p=>(AY p,Value.bool true))
theorem bc(L:List (List Int)):(Zo L).map (·.1)=L.map AY:=by simp[Zo]
theorem di(a:∀ x∈L,x.length=n)(hp:p.length=n):AY p∈L.map AY<->p∈L:=by
 rw[pU];constructor
 · rintro⟨x,b,e⟩
   rwa[<-TA (by rw[a x b,hp]) e]
 · intro h;exact⟨p,h,rfl⟩
theorem jp{v:Value}(h:CR k 0 (Zo L)=some (i,v)):v = .bool true:=by
 obtain⟨_,h2⟩:=JJ h;have:=ql h2;simp only[Zo,pU]at this;obtain⟨x,_,e⟩:=this;exact((sW ..).mp e).2.symm
theorem eL(b:∀ x∈L,x.length=n)(hp:p.length=n):Fu (.bool false) (Zo L) (AY p) = .bool (decide (p∈L)):=by
 unfold Fu;cases h:CR (AY p) 0 (Zo L)with
 | none =>
  have:=Gs.1 h;rw[bc,di b hp]at this;simp[this]
 | some q =>
  obtain⟨i,v⟩:=q;have d:=jp h;have c:p∈L:=by
   rw[<-di b hp,<-bc];by_cases a:AY p∈(Zo L).map (·.1)
   · exact a
   · rw[<-Gs (i:=0)]at a;rw[h]at a;cases a
  simp[d,c]
theorem fM(a:∀ x∈L,x.length=n)(hp:p.length=n)(b:p ∉ L):NL (Zo L) (AY p) (.bool true)=Zo (L ++ [p]):=by
 have:CR (AY p) 0 (Zo L)=none:=by
  rw[Gs,bc,di a hp];exact b
 unfold NL;rw[this];simp[Zo]
def QEl(w:World)(base:Nat)(qc:List Value)(q:List (List Int)):Prop:=∀ i,i<q.length->∃ a n c,qc.getD i undef = .slice a n c/\Za w base a n c (q.getD i [])
theorem QEl.ext{w d:World}{base:Nat}{b:List Value}{q:List (List Int)}(h:QEl w base b q)(e:Ext w d):QEl d base b q :=
 fun i f=>let ⟨a,n,c,h1,h2⟩:=h i f;⟨a,n,c,h1,h2.ext e⟩
theorem ZM{e:TypeId}{c:Nat}(h:Own w base e a n c cs)(j:Br w r m):blk a=none\/blk a≠some r:=by
 rcases h.2 with⟨b,_⟩|⟨g,d,f,b,_,i,_⟩
 · simp only[pI]at b;left;rw[b.1];rfl
 · simp only[pI]at b;right;rw[b.1];intro he;have:g=r:=by simpa[blk]using he
   subst this;have:=j.obj;rw[i]at this;cases this
theorem Z5{e:TypeId}{c:Nat}(h:Own w base e a n c cs)(o:ZD w base' e' a' n' c' cs')(i:e≠e'):blk a=none\/blk a≠blk a':=by
 rcases h.2 with⟨d,_⟩|⟨g,k,l,d,_,p,_⟩
 · simp only[pI]at d;left;rw[d.1];rfl
 · simp only[pI]at d;right;rw[d.1];rcases o.2.2.2 with⟨f,_⟩|⟨m,q,j,f,_,b,_⟩
   · subst f;simp[blk]
   · subst f;intro he;have:g=m:=by simpa[blk]using he
     subst this;rw[p]at b;simp only[pz,rW]at b;exact i b.2.1
theorem cK{e:TypeId}{c:Nat}(h:ZD w base e a n c cs)(i:Br w r m):blk a=none\/blk a≠some r:=by
 rcases h.2.2.2 with⟨b,_⟩|⟨g,j,d,b,_,f,_⟩
 · subst b;exact Or.inl rfl
 · subst b;right;intro he;have:g=r:=by simpa[blk]using he
   subst this;have:=i.obj;rw[f]at this;cases this
theorem QEl.kept{w e:World}{base:Nat}{d:List Value}{q:List (List Int)}{row:Option Nat}(h:QEl w base d q)(f:w.grownBy e row)(b:∀ a n c j,Za w base a n c j->blk a=none\/blk a≠row):QEl e base d q :=
 fun i g=>let ⟨a,n,c,h1,h2⟩:=h i g;⟨a,n,c,h1,Own.kept h2 f (b _ _ _ _ h2)⟩
theorem QEl.tail(h:QEl w base qc (p :: q)):QEl w base (qc.drop 1) q:=by
 intro i b;obtain⟨a,n,c,h1,h2⟩:=h (i+1) (by simpa using b);refine⟨a,n,c,?_,by simpa using h2⟩;rw[<-h1];simp
theorem QEl.snoc{c:Nat}(h:QEl w base qc q)(f:qc.length=q.length)(hp:Za w base a n c p):QEl w base (qc ++ [.slice a n c]) (q ++ [p]):=by
 intro i e;simp only[pZ,List.length_singleton]at e;by_cases h1:i<q.length
 · obtain⟨b,g,d,h2,h3⟩:=h i h1;refine⟨b,g,d,?_,?_⟩
   · rw[<-h2];simp[pO (show i<qc.length by omega)]
   · simpa[pO h1]using h3
 · have:i=q.length:=by omega
   subst this;refine⟨a,n,c,?_,?_⟩
   · simp[<-f]
   · simpa using hp
theorem j4{t:TypeId}(j:o.guard=none)(p:o.op = .slice t x (some y) none none)
 {e:TypeId} {z:Value} {bytes base:Nat} {a:Option Addr} {n c k:Nat} {cs:List Value} (q:P.underlying t=some (.slice e)) (d:Ca P e z bytes) (r:f.eval x = .slice a n c) (s:f.eval y = .int .i64 k) (h:ZD w base e a n c cs) (l:k<=n)
 (m:∀ g,blk g=blk a->ZD w base e g (n-k) (c-k) (cs.drop k)->wpList P ops Q rest (f.put o.dst (.slice g (n-k) (c-k))) w):wpList P ops Q (o :: rest) f w:=by
 refine qT j fun K i => ?_;unfold Oper.wp execOp;simp only[p,r,s,qU,oW,q8,aR q d l,pK,qz,Oper.upon];refine i _ _ (m _ ?_ (h.from l));split
 · rfl
 · cases a with
   | none=>rfl
   | some b=>simp[blk,Addr.add];split <;> rfl
theorem Q5:Ca Tryz.prog 24 (.slice none 0 0) 24:=by unfold Ca;kernel_rfl
theorem ZE:Tryz.prog.underlying 144=some (.map 132 4):=by kernel_rfl
theorem be(w:World):(zeroValue 4).run Tryz.prog w = .ok (.bool false) w:=by kernel_rfl
def bM(w:World)(r:Nat):Nat:=match w.heap[r]? with | some (.map es _)=>es.size | _=>0
theorem cE(h:Br w r m):bM w r=m.length:=by
 unfold bM;rw[h.obj];simp[Eh]
def dG:Value->Nat | .slice _ n _=>n | _=>0
def ClR(w0:World)(gs:List (List Int))(n r:Nat)(v:Value)(wr:World):Prop :=
 ∃ L q aq nq cq qc,v = .slice aq nq cq/\nq=q.length/\Ext w0 wr/\w0.heap.size<=r/\Br wr r (Zo L)/\ZD wr w0.heap.size 24 aq nq cq qc/\QEl wr w0.heap.size qc q/\an gs n L q
def lO(w0:World)(gs:List (List Int))(n r:Nat)(a:List Int)(aa:Option Addr)(na ca:Nat)(M:Nat)(v i:Value)(wr:World):Prop :=
 ∃ L q aq nq cq qc,∃ j:Nat,v = .slice aq nq cq/\nq=q.length/\i = .int .i64 j/\j<=gs.length/\Ext w0 wr/\w0.heap.size<=r/\Br wr r (Zo L)/\ZD wr w0.heap.size 24 aq nq cq qc/\QEl wr w0.heap.size qc q /\
  Za wr w0.heap.size aa na ca a/\aT gs n L q a j/\2*(720-L.length)+q.length<=M
def lS(w:World)(gs:List (List Int))(n:Nat)(e:Ending)(w':World):Prop :=
 ∃ r L,e = .returned (.map (some r))/\Ext w w'/\w.heap.size<=r/\Br w' r (Zo L)/\L.Nodup/\∀ p,p∈L<->Zz gs n p
theorem Z8(hg:SlL w ag ng cg gs)(Q:n<=6)(hp:Zs gs n) :
 Calls Tryz.prog 171 #[.int .i64 n,.slice ag ng cg] w (lS w gs n):=by
 have ch:=hg.le;have HG:=lz hg.len;have bN:(idn n).length<=6:=by rw[ZJ];exact Q
 have HP:=lz hp;clear hp
 go_enter Tryz.func171,Tryz.ntmps171
 go_wp2_with fail
 refine(dz (by omega)).mono ?_;rintro e w1 ⟨a1,s,c1,rfl,a0,S⟩;have bW:s=n:=by have:=S.sl.len;rw[ZJ]at this;omega
 subst bW
 go_wp2_with(refine GJ rfl rfl ?_;intro w2 y d c7)
 refine(ZB (S.sl.ext d) Q).mono ?_;rintro e w3 ⟨rfl,a⟩;have o:=(S.ext d).ext a;have a2:=y.ext a;have aA:Ext w w3:=(a0.trans d).trans a;have c2:w.heap.size<=w1.heap.size:=a0.size;generalize w1.heap.size=r at *
 clear y S a d a0
 go_wp2_with(refine PG rfl (Or.inr rfl) ZE Q3 rfl rfl rfl a2 (D0 bN) ?_;intro w4 m aa)
 have X:Br w4 r (Zo [idn s]):=m;have b:Ext w w4:=aA.grown aa (by intro k hk;simp at hk;omega);have C:Za w4 w.heap.size a1 s c1 (idn s):=Own.kept o aa (ZM o a2);clear m aa a2 o aA;go_wp2
 go_loopw[7] (fun v wr=>ClR w gs s r v wr) (fun v wr=>2*(720-bM wr r)+dG v)
 case atStart =>
  have bv:=AB w4 w.heap.size 24 #[.slice a1 s c1] 1 rfl b.size (by omega);refine⟨[idn s],[idn s],_,_,_,_,rfl,rfl,b.alloc _,c2,X.ext ((Ext.refl w4).alloc _),ZD.of bv,?_,an.start gs s⟩;intro i hi;have:i=0:=by simpa using hi
  subst this;exact⟨a1,s,c1,rfl,Own.alloc C _⟩
 case round =>
  clear X b C;obtain⟨L,q,aq,nq,cq,qc,rfl,bb,hE,hr,hM,hO,hQ,hI⟩:=hrel;have F:=lz bb;clear bb;have hb:=ZI Q HP.out hI.nodup hI.reach;have aj:bM wr r=L.length:=by rw[cE hM];simp[Zo]
  have V:=lz aj;clear aj;cases q with
  | nil =>
   have hz:nq=0:=F.out;subst hz;go_wp2;go_ret;exact⟨r,L,rfl,hE,hr,hM,hI.nodup,hI.done⟩
  | cons p q =>
   have al:0<nq:=by rw[F.out];simp
   have cl:nq<=720:=by have:=hI.short;have h2:=F.out;omega
   obtain⟨ap,np,cp,ao,b3⟩:=hQ 0 (by simp);obtain⟨bq,oq,rfl,b8⟩:=hO.sl.rd al;have b7:=b8 0 al;rw[ao,qy]at b7;have c6:=hO.sl.cap;have bR:=hO.sl.max;unfold maxLen at bR;clear b8 ao
   go_wp2_with(refine j4 rfl rfl Tryz.underlying54 Q5 rfl rfl (k:=1) hO (by omega) ?_;intro a7 cc f)
   obtain⟨wo,rfl⟩:∃ wo:World,wo=wr:=⟨_,rfl⟩
   go_loopw[7,30] (fun v i wr=>lO w gs s r p ap np cp (2*(720-L.length)+q.length) v i wr) (fun _ i _=>gs.length-(intOf i).toNat)
   case atStart =>
    refine⟨L,q,a7,nq-1,cq-1,qc.drop 1,0,rfl,by rw[F.out];simp,rfl,pE _,hE,hr,hM,f,hQ.tail,b3,aT.start hI,lrf _⟩
   case round =>
    have bn:Hid (2*(720-bM wo r)+dG (.slice (some ⟨bq,oq,none⟩) nq cq)=2*(720-L.length)+(q.length+1)):=by
     show _=_;rw[V.out];simp only[dG];rw[F.out];rfl
    clear hO hQ b3 hM hI f b7 V;obtain⟨L2,q2,ax,U,ay,bf,j,rfl,P,rfl,hj,d,_,y,a4,a6,A,l,bj⟩:=hrel;have g:=lz P;clear P;have cb:=ZI Q HP.out l.nodup l.reach;have b0:∀ x∈L2,x.length=s:=fun x hx=>(Zq Q HP.out (l.reach x hx)).2;have O:bM wr r=L2.length:=by rw[cE y];simp[Zo]
    have bi:=lz O;have ar:=lz b0;clear O b0;have bL:=hg.ext d;have ck:j<=ng:=by rw[<-HG.out];exact hj
    by_cases ai:j<ng
    · obtain⟨bg,og,c9,c4,ca,rfl,ce,b5⟩:=bL.at ai;have T:j<gs.length:=by rw[HG.out];exact ai
      have b9:gs.getD j []∈gs:=by simp[T]
      obtain⟨cn,c5⟩:=HP.out _ b9;obtain⟨bd,ac⟩:=Zq Q HP.out (l.reach p l.mem);have ad:=l.old T;have Y:=l.new T;have b6:(comp (gs.getD j []) p).length=s:=by rw[Y3];exact ac
      generalize bK:gs.getD j []=gj at *
      have ak:c4=s:=by have:=b5.len;omega
      have ba:np=s:=by have:=A.sl.len;omega
      have bk:=lz ad;have E:=lz Y;have R:=lz b6;have PP:=lz bd;have bp:=lz ac;have bo:=lz ak;have av:=lz ba;clear ad Y b6 bK c5 bd ac ak ba T b9
      go_wp2_with fail
      refine(bC b5 A.sl ?_ (by have:=av.out;omega)).mono ?_
      · intro i hi;have h1:=av.out;have h2:=bo.out;have h3:=bp.out;have:=Zm PP.out (i:=i) (by omega);omega
      rintro e w3 ⟨a3,n3,c3,rfl,a,o⟩;have c0:n3=s:=by have:=o.sl.len;rw[R.out]at this;exact this.symm
      subst c0
      go_wp2_with fail
      refine(ZB o.sl Q).mono ?_;rintro e w4 ⟨rfl,b⟩;have m:=(y.ext a).ext b;have C:=(a4.ext a).ext b;have a9:=(a6.ext a).ext b;have K:=(A.ext a).ext b;have I:Za w4 w.heap.size a3 n3 c3 (comp gj p):=Own.mono (Own.ext o b) d.size;have G:=(d.trans a).trans b;clear y a4 a6 A o a b d;have ab:(AY (comp gj p)).length=6:=D0 (by rw[R.out];exact Q);have c:=eL ar.out R.out;by_cases z:comp gj p∈L2
      · simp only[z,vE]at c
        go_wp2_with(refine LH rfl rfl ZE Q3 be rfl rfl m ab ?_;simp only[si,tJ];rw[c])
        go_roundw
        case rel=>exact⟨L2,q2,ax,U,ay,bf,j+1,rfl,g.out,by go_num,by have:=HG.out;omega,G,hr,m,C,a9,K,bk.out z,bj⟩
        case measure=>have:=HG.out;simp[intOf];omega
      · simp only[z,oJ]at c
        go_wp2_with(refine LH rfl rfl ZE Q3 be rfl rfl m ab ?_;simp only[si,tJ];rw[c])
        refine(ZB I.sl Q).mono ?_;rintro e w5 ⟨rfl,t⟩;have B:=m.ext t;have a5:=C.ext t;have b4:=a9.ext t;have M:=K.ext t;have J:=I.ext t;have W:=G.trans t;clear m C a9 K I t G c
        go_upto_region 13 with(refine PG (v := .bool true) rfl (Or.inl rfl) ZE Q3 rfl rfl rfl B ab ?_;intro w6 b1 D)
        rw[fM ar.out R.out z]at b1;have bs:=a5.kept D (cK a5 B);have bx:=b4.kept D (fun _ _ _ _ h=>ZM h B);have ah:Za w6 w.heap.size ap np cp p:=Own.kept M D (ZM M B);have Z:Za w6 w.heap.size a3 n3 c3 (comp gj p):=Own.kept J D (ZM J B);have H:Ext w w6:=W.grown D (by intro k hk;simp at hk;omega);have P:U<=720:=by have:=l.short;have h2:=g.out;omega
        clear B a5 b4 M J W D;have hA7:Ext w6 (w6.alloc (.cells #[.slice a3 n3 c3] 24)):=(Ext.refl w6).alloc _;have bG:=(AB w6 w.heap.size 24 #[.slice a3 n3 c3] 1 rfl H.size (by omega)).sl;have f:=bs.ext hA7
        go_wp2_with(refine kz rfl rfl Tryz.underlying54 Q5 rfl rfl f rfl bG (by simp[Value.oneCell']) (by unfold maxLen;omega) (by omega) (by have:=H.size;simp;omega) (by omega) ?_;intro a8 c8 w8 bt N cd)
        go_roundw
        case rel =>
         have bl:=H.trans hA7;refine⟨L2 ++ [comp gj p],q2 ++ [comp gj p],a8,U+1,c8,_,j+1,rfl,by rw[g.out];simp,by go_num,by have:=HG.out;omega,bl.grown N (fun k hk=>(f.lt hk).1),hr,?_,bt,?_,?_,E.out z,?_⟩
         · have b2:=b1.ext hA7;refine b2.kept N ?_;rcases cK f b2 with h|h
           · rw[h];simp
           · exact fun h2=>h h2.symm
         · have bz:=(bx.ext hA7).kept N (fun _ _ _ _ h=>Z5 h f (by decide));have bm:Za _ w.heap.size a3 n3 c3 (comp gj p):=Own.kept (Own.ext Z hA7) N (Z5 (Own.ext Z hA7) f (by decide));exact bz.snoc (by rw[f.len,g.out]) bm
         · exact Own.kept (Own.ext ah hA7) N (Z5 (Own.ext ah hA7) f (by decide))
         · have:=ZI Q HP.out (E.out z).nodup (E.out z).reach;simp only[pZ,List.length_singleton]at this |-;omega
        case measure=>have:=HG.out;simp[intOf];omega
    · go_wp2;go_roundw
      case rel=>exact⟨L2,q2,ax,U,ay,bf,rfl,g.out,d,hr,y,a4,a6,l.fin (by have:=HG.out;omega)⟩
      case measure =>
       have h1:=bn.out;have h2:=bi.out;have h3:=g.out;simp[dG]at h1 |-;omega
def cmpI(x y:Int):Int:=if x<y then -1 else if y<x then 1 else 0
def H3:List Int->List Int->Int
 | [],[]=>0
 | [],_ :: _ => -1
 | _ :: _,[]=>1
 | x :: xs,y :: ys=>if x<y then -1 else if y<x then 1 else H3 xs ys
theorem ZN:∀ a:List Int,H3 a a=0
 | []=>rfl
 | x :: a=>by simp[H3,ZN a]
theorem bT:∀ {a b:List Int},H3 a b=0->a=b
 | [],[],_=>rfl
 | [],_ :: _,h=>by simp[H3]at h
 | _ :: _,[],h=>by simp[H3]at h
 | x :: a,y :: b,h=>by
  unfold H3 at h;by_cases h1:x<y
  · simp[h1]at h
  · by_cases h2:y<x
    · simp[h1,h2]at h
    · simp only[h1,h2,tJ]at h;have:x=y:=by omega
      rw[this,bT h]
theorem SZ:∀ a b:List Int,H3 b a = - H3 a b
 | [],[]=>rfl
 | [],_ :: _=>rfl
 | _ :: _,[]=>rfl
 | x :: a,y :: b=>by
  unfold H3;by_cases h1:x<y
  · have h2:¬ y<x:=by omega
    simp[h1,h2]
  · by_cases h2:y<x
    · simp[h1,h2]
    · simp[h1,h2,SZ a b]
theorem ZG:∀ {a b c:List Int},H3 a b<=0->H3 b c<=0->H3 a c<=0
 | [],_,[],_,_=>by simp[H3]
 | [],_,_ :: _,_,_=>by simp[H3]
 | _ :: _,[],_,h,_=>by simp[H3]at h
 | _ :: _,_ :: _,[],_,h=>by simp[H3]at h
 | x :: a,y :: b,z :: c,h1,h2=>by
  unfold H3 at h1 h2 |-;by_cases xy:x<y
  · by_cases yz:y<z
    · simp[show x<z by omega]
    · by_cases zy:z<y
      · simp[yz,zy]at h2
      · simp[show x<z by omega]
  · by_cases yx:y<x
    · simp[xy,yx]at h1
    · simp only[xy,yx,tJ]at h1;by_cases yz:y<z
      · simp[show x<z by omega]
      · by_cases zy:z<y
        · simp[yz,zy]at h2
        · simp only[yz,zy,tJ]at h2;have e1:¬ x<z:=by omega
          have d:¬ z<x:=by omega
          simp only[e1,d,tJ];exact ZG h1 h2
theorem gM(a b:List Int):H3 a b<=0\/H3 b a<=0:=by
 have:=SZ a b;omega
theorem ZS:∀ (k:Nat) (a b:List Int),a.take k=b.take k->k<=a.length->k<=b.length->H3 a b=H3 (a.drop k) (b.drop k)
 | 0,_,_,_,_,_=>rfl
 | k+1,x :: a,y :: b,h,h1,h2=>by
  simp only[oB,tI]at h;obtain⟨rfl,h⟩:=h;simp only[qk]at h1 h2;rw[sO,sO,<-ZS k a b h (by omega) (by omega)];simp[H3]
 | k+1,[],_,_,h1,_=>by simp at h1
 | k+1,_ :: _,[],_,_,h2=>by simp at h2
theorem cF(x:Int)(w:World):Calls Tryz.prog 254 #[.int .i64 x] w fun e a=>e = .returned (.bool false)/\w=a:=by
 have h:(x != x)=false:=by simp
 go_enter Tryz.func254,Tryz.ntmps254
 go_wp2;go_ret;exact⟨rfl,rfl⟩
theorem cL(x y:Int)(w:World):Calls Tryz.prog 207 #[.int .i64 x,.int .i64 y] w fun e b=>e = .returned (.int .i64 (cmpI x y))/\w=b:=by
 by_cases h1:x<y
 · have H:Hid (cmpI x y = -1):=by show _=_;simp[cmpI,h1]
   go_enter Tryz.func207,Tryz.ntmps207
   go_wp2_with(go_at_call 254;refine(cF _ _).mono ?_;rintro e a ⟨rfl,rfl⟩)
   go_ret;exact⟨DF H.out,rfl⟩
 · by_cases h2:y<x
   · have H:Hid (cmpI x y=1):=by show _=_;simp[cmpI,h1,h2]
     go_enter Tryz.func207,Tryz.ntmps207
     go_wp2_with(go_at_call 254;refine(cF _ _).mono ?_;rintro e a ⟨rfl,rfl⟩)
     go_ret;exact⟨DF H.out,rfl⟩
   · have H:Hid (cmpI x y=0):=by show _=_;simp[cmpI,h1,h2]
     go_enter Tryz.func207,Tryz.ntmps207
     go_wp2_with(go_at_call 254;refine(cF _ _).mono ?_;rintro e a ⟨rfl,rfl⟩)
     go_ret;exact⟨DF H.out,rfl⟩
theorem j5{xs ys:List Int}{k:Nat}(hp:xs.take k=ys.take k)(h1:k<xs.length)(h2:k<ys.length)(a:cmpI (xs.getD k 0) (ys.getD k 0)≠0):H3 xs ys=cmpI (xs.getD k 0) (ys.getD k 0):=by
 rw[ZS k xs ys hp (by omega) (by omega),qo h1,qo h2];simp only[gqq,oO h1,oO h2,pY]at a |-;unfold cmpI at a |-;unfold H3;by_cases b:xs[k]<ys[k]
 · simp[b]
 · by_cases c:ys[k]<xs[k]
   · simp[b,c]
   · simp[b,c]at a
theorem cmpI_zero{x y:Int}(h:cmpI x y=0):x=y:=by
 unfold cmpI at h;by_cases a:x<y
 · simp[a]at h
 · by_cases b:y<x
   · simp[a,b]at h
   · omega
theorem Zt{b:Option Addr}{c m:Nat}(v:SlI w a n c xs)(y:SlI w b m d ys) :
 Calls Tryz.prog 175 #[.slice a n c,.slice b m d] w fun e K=>e = .returned (.int .i64 (H3 xs ys))/\Qt w K:=by
 have S:=v.le;have J:=y.le;have f:=lz v.len;have g:=lz y.len
 go_enter Tryz.func175,Tryz.ntmps175
 go_wp2
 go_loopw[11] (fun i wr=>∃ k:Nat,k<=n/\k<=m/\i = .int .i64 k/\Qt w wr/\xs.take k=ys.take k) (fun i _=>n-(intOf i).toNat)
 case atStart=>exact⟨0,pE _,pE _,rfl,Qt.refl _,rfl⟩
 case round =>
  obtain⟨k,R,H,rfl,o,hp⟩:=hrel;have p:=lz hp;clear hp;have v:=v.ext o.ext;have y:=y.ext o.ext;by_cases t:k<n
  · obtain⟨M,T,rfl,q⟩:=v.at t;have P:=q k t;clear q;by_cases j:k<m
    · obtain⟨N,U,rfl,r⟩:=y.at j;have Q:=r k j;clear r;have s:=@j5 xs ys k p.out (by have:=f.out;omega) (by have:=g.out;omega);generalize x:xs.getD k 0=F at *
      generalize z:ys.getD k 0=G at *
      have C:=lz x;have D:=lz z;have A:=lz s;clear x z s;by_cases he:cmpI F G=0
      · have E:(cmpI F G != 0)=false:=by simp[he]
        have B:=lz he;clear he
        go_wp2_with(go_at_call 207;refine(cL _ _ _).mono ?_;rintro e L ⟨rfl,rfl⟩)
        go_roundw
        case rel=>exact⟨k+1,by omega,by omega,by go_num,o,LS p.out (by have:=f.out;omega) (by have:=g.out;omega) (by rw[C.out,D.out,cmpI_zero B.out];simp)⟩
        case measure=>simp[intOf];omega
      · have E:(cmpI F G != 0)=true:=by simp[he]
        have B:=lz he;clear he
        go_wp2_with(go_at_call 207;refine(cL _ _ _).mono ?_;rintro e L ⟨rfl,rfl⟩)
        go_ret;exact⟨DF (A.out B.out),o⟩
    · go_wp2;go_ret;refine⟨DF ?_,o⟩;rw[ZS k xs ys p.out (by have:=f.out;omega) (by have:=g.out;omega),qm (l:=ys) (by have:=g.out;omega),qo (l:=xs) (by have:=f.out;omega)];rfl
  · have O:k=n:=by omega
    by_cases I:n<m
    · go_wp2;go_ret;refine⟨DF ?_,o⟩;rw[ZS k xs ys p.out (by have:=f.out;omega) (by have:=g.out;omega),qm (l:=xs) (by have:=f.out;omega),qo (l:=ys) (by have:=g.out;omega)];rfl
    · go_wp2;go_ret;refine⟨DF ?_,o⟩;rw[ZS k xs ys p.out (by have:=f.out;omega) (by have:=g.out;omega),qm (l:=xs) (by have:=f.out;omega),qm (l:=ys) (by have:=g.out;omega)];rfl
def bF(l:List (List Int))(i j:Nat):List (List Int):=(l.set i (l.getD j [])).set j (l.getD i [])
theorem eM(l:List (List Int))(i j:Nat):(bF l i j).length=l.length:=by simp[bF]
theorem dH(hi:i<l.length)(a:j<l.length)(k:Nat):(bF l i j).getD k []=if k=j then l.getD i []else if k=i then l.getD j []else l.getD k []:=by
 simp only[bF,gqq,sD];by_cases h1:j=k
 · subst h1;simp[a]
 · by_cases h2:i=k
   · subst h2;simp[h1,hi,Ne.symm h1]
   · simp[h1,h2,Ne.symm h1,Ne.symm h2]
theorem gN(hi:i<l.length)(a:j<l.length):(bF l i j).Perm l:=by
 have h:=Array.swap_perm (xs:=l.toArray) (i:=i) (j:=j) (by simpa using hi) (by simpa using a);have h2:=Array.perm_iff_toList_perm.1 h;simpa[bF,hi,a]using h2
def Srt(w:World)(base g n c:Nat)(ps:List (List Int)):Prop :=
 ps.length=n/\∃ cells,Own w base 24 (some ⟨g,0,none⟩) n c cells/\QEl w base cells ps
theorem Xg{e:TypeId}{c:Nat}(h:Own w base e a n c cs)(d:Own w base' e' a' n' c' cs')(b:e≠e'):blk a=none\/blk a≠blk a' :=
 Z5 h (ZD.of d) b
section
variable {w w':World} {base g n c:Nat} {ps:List (List Int)}
theorem Srt.len(h:Srt w base g n c ps):ps.length=n:=h.1
theorem Srt.le(h:Srt w base g n c ps):n<=9223372036854775807:=by
 obtain⟨_,a,h1,_⟩:=h;have:=h1.sl.max;have h2:=h1.cap;unfold maxLen at this;omega
theorem Srt.at(h:Srt w base g n c ps){k:Nat}(f:k<n):∃ a m b,w.cell? ⟨g,k,none⟩=some (.slice a m b)/\SlI w a m b (ps.getD k [])/\w.frozen? ⟨g,k,none⟩=false:=by
 obtain⟨h0,d,h1,h2⟩:=h;obtain⟨a,m,b,e,h3⟩:=h2 k (by omega);exact⟨a,m,b,by rw[h1.cellAt f,e],h3.sl,h1.frozenAt k⟩
theorem Srt.swap(h:Srt w base g n c ps){i j:Nat}{u v:Value}(hi:i<n)(y:j<n)(hu:w.cell? ⟨g,i,none⟩=some u)(B:w.cell? ⟨g,j,none⟩=some v) :
 Srt ((w.setCell ⟨g,i,none⟩ v).setCell ⟨g,j,none⟩ u) base g n c (bF ps i j)/\w.grownBy ((w.setCell ⟨g,i,none⟩ v).setCell ⟨g,j,none⟩ u) (some g):=by
 obtain⟨h0,b,h1,h2⟩:=h;have s:=Ar w g i v;have x:=Ar (w.setCell ⟨g,i,none⟩ v) g j u
 have p:w.grownBy ((w.setCell ⟨g,i,none⟩ v).setCell ⟨g,j,none⟩ u) (some g) :=
  ⟨rfl,rfl,rfl,pD s.size x.size,fun k q r=>(x.block k (pS q s.size) r).trans (s.block k q r)⟩
 refine⟨⟨by rw[eM];exact h0,(b.set i v).set j u,(h1.stored i v).stored j u,?_⟩,p⟩;have o:=h1.len;have z:b.getD i undef=u:=by have:=h1.cellAt hi;rw[hu]at this;simpa using this.symm
 have A:b.getD j undef=v:=by have:=h1.cellAt y;rw[B]at this;simpa using this.symm
 have t:=h2.kept p (fun _ _ _ _ C=>Xg C h1 (by decide));intro k q;rw[eM]at q;rw[dH (by omega) (by omega)];by_cases d:k=j
 · subst d;obtain⟨a,m,f,l,h3⟩:=t i (by omega);refine⟨a,m,f,?_,by simpa using h3⟩;rw[<-l,z];simp[o,y]
 · by_cases e:k=i
   · subst e;obtain⟨a,m,f,l,h3⟩:=t j (by omega);refine⟨a,m,f,?_,by simpa[d]using h3⟩;rw[<-l,A];simp[o,hi,Ne.symm d]
   · obtain⟨a,m,f,l,h3⟩:=t k q;refine⟨a,m,f,?_,by simpa[d,e]using h3⟩;rw[<-l];simp[Ne.symm d,Ne.symm e]
end
def ZK(ps:List (List Int))(a b:Nat):Prop:=∀ i j,a<=i->i<j->j<b->H3 (ps.getD i []) (ps.getD j [])<=0
def ZX(ps0 ps:List (List Int))(a b:Nat):Prop:=ps.Perm ps0/\∀ i,(i<a\/b<=i)->ps.getD i []=ps0.getD i []
theorem ZX.refl(ps:List (List Int))(a b:Nat):ZX ps ps a b:=⟨vJ _,fun _ _=>rfl⟩
theorem ZX.swap{a:Nat}(h:ZX ps0 ps a b)(hi:i<ps.length)(c:j<ps.length)(e:a<=i)(g:i<b)(f:a<=j)(l:j<b):ZX ps0 (bF ps i j) a b:=by
 refine⟨(gN hi c).trans h.1,fun k d => ?_⟩;rw[dH hi c,pC (by omega),pC (by omega)];exact h.2 k d
def dm(w:World)(base g n c:Nat)(ps:List (List Int))(a b:Nat)(e:Ending)(w':World):Prop :=
 e = .returned (.tuple #[])/\∃ ps',Srt w' base g n c ps'/\ZX ps ps' a b/\ZK ps' a b/\w.grownBy w' (some g)
theorem aH{c:Nat}(i:SlI w a n c xs)(t:n<=1000000)(b:a=none->c=0) :
 Calls Tryz.prog 87 #[.slice a n c] w (du w xs):=by
 cases a with
 | none =>
  have h0:c=0:=b rfl;subst h0;have h1:n=0:=by have:=Sl.cap i;omega
  subst h1;have d:xs=[]:=pG i.len;have o:=lz d;clear d;have f:=fun j:World=>Lib.run_eql_slice_nil (P:=Tryz.prog) j 24 3 none 0 0 0 0 Tryz.underlying24
  go_enter Tryz.func87,Tryz.ntmps87
  go_wp2;go_ret;exact⟨none,0,0,rfl,Ext.refl w,by rw[o.out];exact Own.nil _ _ _⟩
 | some ad =>
  have f:=fun j:World=>Lib.run_eql_slice_nil (P:=Tryz.prog) j 24 3 (some ad) n c 0 0 Tryz.underlying24
  go_enter Tryz.func87,Tryz.ntmps87
  go_upto_region 3 with(fail)
  have l:Ext w (w.alloc (.cells #[] 3)):=(Ext.refl w).alloc _;have m:=AB w w.heap.size 3 #[] 0 rfl (lrf _) (by omega)
  go_wp2_with(refine B5 rfl rfl Tryz.underlying24 Pt rfl rfl m rfl (i.ext l) (Cc _) (by unfold maxLen;omega) (by omega) (by simp) ?_;intro p q v e g r)
  go_ret;refine⟨p,n,q,rfl,l.grown g (fun k s=>(m.lt s).1),?_⟩;simpa[Za]using e
def jq(w:World)(ps:List (List Int))(e:Ending)(w':World):Prop :=
 ∃ a n c cells,e = .returned (.slice a n c)/\Ext w w'/\n=ps.length/\Own w' w.heap.size 24 a n c cells/\QEl w' w.heap.size cells ps
def Z6(w:World)(it:Nat):Nat:=match w.heap[it]? with | some (.mapIter _ _ seen _)=>seen.size | _=>0
theorem aI(h:AN w it r n seen):Z6 w it=seen.length:=by
 unfold Z6;unfold AN at h;rw[h];simp
def SoR(w0:World)(L:List (List Int))(r it:Nat)(v:Value)(wr:World):Prop :=
 ∃ seen al nl cl cells,v = .slice al nl cl/\nl=seen.length/\Ext w0 wr/\w0.heap.size<=it/\Br wr r (Zo L)/\AN wr it r L.length seen/\seen.Nodup/\(∀ i∈seen,i<L.length) /\
  Own wr w0.heap.size 24 al nl cl cells/\QEl wr w0.heap.size cells (seen.map (fun i=>L.getD i []))
theorem Zv{e:TypeId}{c k:Nat}(h:Own w base e a n c cs)(hi:AN w it r k seen):blk a=none\/blk a≠some it:=by
 rcases h.2 with⟨b,_⟩|⟨g,d,f,b,_,i,_⟩
 · simp only[pI]at b;left;rw[b.1];rfl
 · simp only[pI]at b;right;rw[b.1];intro he;have:g=it:=by simpa[blk]using he
   subst this;unfold AN at hi;rw[i]at hi;cases hi
theorem cM{r' k:Nat}(h:Br w r m)(hi:AN w it r' k seen):some r≠some it:=by
 intro he;have:r=it:=by simpa using he
 subst this;unfold AN at hi;rw[h.obj]at hi;cases hi
theorem cN{c:Type}[BEq c][LawfulBEq c]{l k:List c}(f:l.Nodup)(e:k.Nodup)(h:∀ a,a∈l<->a∈k):l.Perm k:=by
 rw[List.perm_iff_count];intro a;have h1:=List.nodup_iff_count.1 f a;have h2:=List.nodup_iff_count.1 e a;have h3:0<l.count a<->a∈l:=List.count_pos_iff;have h4:0<k.count a<->a∈k:=List.count_pos_iff;have:=h a;by_cases b:a∈l
 · have:=h3.2 b;have:=h4.2 ((h a).1 b);omega
 · have g:¬ 0<l.count a:=fun h=>b (h3.1 h);have i:¬ 0<k.count a:=fun d=>b ((h a).2 (h4.1 d));omega
theorem dK(L:List (List Int)):(List.range L.length).map (fun i=>L.getD i [])=L:=by
 apply rJ
 · simp
 · intro i h1 h2;simp[h2]
theorem fP(c:seen.Nodup)(d:∀ i∈seen,i<L.length)(b:∀ i,i<L.length->i∈seen):(seen.map (fun i=>L.getD i [])).Perm L/\seen.length=L.length:=by
 have hp:seen.Perm (List.range L.length):=cN c List.nodup_range (fun a=>by
  rw[rg]
  exact⟨d a,b a⟩)
 refine⟨?_,by simpa using hp.length_eq⟩;have:=hp.map (fun i=>L.getD i [])
 rwa[dK]at this
theorem fQ{v:Value}(h:(Zo L)[i]?=some (k,v)):i<L.length/\k=AY (L.getD i []):=by
 unfold Zo at h;rw[sU]at h;cases a:L[i]? with
 | none=>rw[a]at h;cases h
 | some p =>
  rw[a]at h;have c:i<L.length:=by
   rcases qx i L.length with b | b
   · exact b
   · simp[pV b]at a
  refine⟨c,?_⟩;simp only[qU,pz,sW]at h;rw[gqq,a];exact h.1.symm
theorem ZO:∀ (L M:List Nat),L.Nodup->(∀ x∈L,x∈M)->L.length<=M.length
 | [],_,_,_=>by simp
 | x :: L,M,hn,hs=>by
  rw[qL]at hn;have hx:x∈M:=hs x (by simp);have:=ZO L (M.erase x) hn.2 (fun y a=>(List.mem_erase_of_ne (by rintro rfl;exact hn.1 a)).2 (hs y (by simp[a])));rw[List.length_erase_of_mem hx]at this;have:0<M.length:=rj hx;simp only[qk];omega
structure Bx where
 g:Nat
 v:Int
 a:Option Addr
 n:Nat
 c:Nat
 ts:List Tx
def PBx(w0 w:World)(l:List Bx):Prop:=Ext w0 w/\∀ p∈l,Arr w p.g 28 (Ah p.v p.a p.n p.c)/\AH w p.a p.n p.c p.ts
section
variable {w0 w w1 w':World} {l:List Bx} {i:Nat}
theorem PBx.e(h:PBx w0 w l):Ext w0 w:=h.1
theorem PBx.at{v:Int}{c:Nat}{ts:List Tx}(h:PBx w0 w l)(hi:l[i]?=some ⟨g,v,a,n,c,ts⟩):Arr w g 28 (Ah v a n c)/\AH w a n c ts:=h.2 _ (ql hi)
theorem PBx.c{g:Nat}{v:Int}{a:Option Addr}{n c:Nat}{ts:List Tx}(h:PBx w0 w l)(hi:l[i]?=some ⟨g,v,a,n,c,ts⟩):w.cell? ⟨g,0,none⟩=some (.int .i64 v)/\w.cell? ⟨g,1,none⟩=some (.slice a n c) :=
 ⟨(h.at hi).1.cell (i:=0) (by simp[Ah]),(h.at hi).1.cell (i:=1) (by simp[Ah])⟩
theorem PBx.t{v:Int}{c:Nat}{ts:List Tx}(h:PBx w0 w l)(hi:l[i]?=some ⟨g,v,a,n,c,ts⟩):AH w a n c ts:=(h.at hi).2
theorem PBx.ext(h:PBx w0 w l)(e:Ext w w'):PBx w0 w' l:=⟨h.1.trans e,fun p hp=>⟨(h.2 p hp).1.ext e,(h.2 p hp).2.ext e⟩⟩
theorem PBx.one{v:Int}{c:Nat}{ts:List Tx}(b:Ext w0 w)(d:Arr w g 28 (Ah v a n c))(e:AH w0 a n c ts):PBx w0 w [⟨g,v,a,n,c,ts⟩] :=
 ⟨b,fun p hp=>by rw[pF.1 hp];exact⟨d,e.ext b⟩⟩
theorem PBx.app{a:List Bx}(h:PBx w0 w l)(b:PBx w0 w a):PBx w0 w (l ++ a):=⟨h.1,fun p hp=>(qd.1 hp).elim (h.2 p) (b.2 p)⟩
theorem PBx.new{v:Int}{c:Nat}{ts:List Tx}{o:Obj}(h:PBx w0 w l)(d:Ext w w1)(e:AH w1 a n c ts)(b:Arr w' w1.heap.size 28 (Ah v a n c))(f:(w1.alloc o).grownBy w' (some w1.heap.size)):PBx w0 w' (l ++ [⟨w1.heap.size,v,a,n,c,ts⟩]):=by
 have hF:Ext w1 w':=((Ext.refl w1).alloc _).grownR f (lrf _);have h1:=h.ext (d.trans hF);refine⟨h1.1,fun p hp => ?_⟩;rcases qd.1 hp with hp|hp
 · exact h1.2 p hp
 · rw[pF.1 hp];exact⟨b,e.ext hF⟩
end
section
variable {P:Program} {w:World}
theorem Bo(b:o.guard=none)(j:o.op = .store 28 x y)
 {g:Nat} {t:TypeId} {cs:List Value} {v:Int} {a:Option Addr} {n c:Nat} (k:f.eval x = .pointer (some ⟨g,0,none⟩)) (l:f.eval y = .agg #[.int .i64 v,.slice a n c]) (h:Arr w g t cs) (i:cs.length=2)
 (e:∀ d,Arr d g t (Ah v a n c)->w.grownBy d (some g)->wpList Tryz.prog ops Q rest (f.put o.dst undef) d):wpList Tryz.prog ops Q (o :: rest) f w :=
 Aa (vs:=Ah v a n c) b j k l rfl Ad h i (Am _ _ _ _) e
end
def Jz(w:World)(e:Ending)(w':World):Prop:=e = .returned (.bool true)/\Ext w w'
def Jc(w0:World)(v:Int)(ts:List Tx)(err:Int)(e:Ending)(w':World):Prop:=∃ a n c,e = .returned (.tuple #[.agg #[.int .i64 v,.slice a n c],.int .i64 err])/\Ext w0 w'/\AH w' a n c ts
theorem Cl.v{w0:World}{v:Int}{ts:List Tx}{b:Int}{e:Ending}{d:World}(h:Cl w0 v ts b e d):Jc w0 v ts b e d:=by
 obtain⟨a,n,c,h1,h2,h3⟩:=h;exact⟨a,n,c,h1,h2,h3.sl⟩
end Go.Proofs.YtlbmnokpiilfpaaGreatDoor
