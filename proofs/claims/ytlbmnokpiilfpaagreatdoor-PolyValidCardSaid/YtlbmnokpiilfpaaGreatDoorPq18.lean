/- Part Pq18. -/
import Derived.Test.YtlbmnokpiilfpaaGreatDoorPq17

set_option linter.all false
set_option maxRecDepth 100000
set_option maxHeartbeats 100000000
namespace Go.Proofs.YtlbmnokpiilfpaaGreatDoor
open Tryz Go Go.RowKit
def jr:=@Option.isSome_some
def lH:=@Nat.le_of_eq
variable {f:Act} {ops:Array Oper} {s:Bool} {Q:Exit->Act->World->Prop} {vars z':Int} {rows:List (List Value)} {k key xs ys:List Int} {rest:List Oper} {cs cs' cur:List Value} {H H0 H1 b' base c g i m n p:Nat} {o:Oper} {d:Operand} {A a b:Option Addr} {qa qa' qb qb':Option Nat} {q:Rat} {dT e e' et sT t ty:TypeId} {z:Value} {w w' w0 w1 w2 w4 wr:World}
section
variable {P:Program} {w:World}
theorem Vw{bytes d dc:Nat}(E:P.underlying dT=some (.slice e))(f:Ca P e z bytes)
 (h:Arr w g t cur) (C:cur.length=d) (D:Sl w A m c cs) (s:d<=m) (h1:∀ v∈cs,v.oneCell'=true) :
 ∃ y,(Builtin.copy_ #[dT,sT] ty #[.slice (some ⟨g,0,none⟩) d dc,.slice A m c]).run P w = .ok (goInt d) y/\Arr y g t (cs.take d)/\w.grownBy y (some g):=by
 obtain⟨i,J,L,k,H⟩:=nH f;have p:(P.info? e).map (·.size)=some 1:=by simp[J,k]
 have l:=D.len;by_cases h0:d=0
 · subst h0;have r:cur=[]:=gQ C;refine⟨w,run_copy_none w dT sT ty e _ _ 0 dc m c E p (by simp),?_,⟨rfl,rfl,rfl,lrf _,fun _ _ _=>rfl⟩⟩;rw[jw,<-r];exact h
 · obtain⟨b,x,G,I⟩:=D.rd (by omega);subst G;have o:m.min d=d:=Nat.min_eq_right s
   have:=run_copy_row (P:=P) w dT sT ty e g 0 d dc ⟨b,x,none⟩ m c cur.toArray t (cs.take d) E p h (by rw[o,iq,l];exact jK s) (by
    intro j v q;have K:j<(cs.take d).length:=by
     rcases iH j (cs.take d).length with h|h
     · exact h
     · simp[ig h]at q
    rw[iq]at K;have h2:=I j (by omega);rw[List.getElem?_take_of_lt (by omega)]at q;rw[gqq,q]at h2;rw[<-gP (a:=v) (b:=undef),<-h2.symm.symm];unfold Addr.add
    by_cases h3:j=0 <;> simp[h3]at h2 |- <;> exact h2) (by simp[C];omega) (fun v q=>h1 v (kU q))
   have n:(cs.take d).length=d:=by rw[iq,l];exact jK s
   refine⟨_,by rw[this,n],?_,BK w g _⟩;have h9:=Cm h (cur.take 0 ++ cs.take d ++ cur.drop (0+(cs.take d).length));rw[n]at h9;have B:cur.take 0 ++ cs.take d ++ cur.drop (0+d)=cs.take d:=by
    rw[jw,jo,iz,iX (by omega),jL]
   rw[B]at h9;have F:cur.toArray.toList.take 0 ++ cs.take d ++ cur.toArray.toList.drop (0+d)=cs.take d:=B;rw[F];exact h9
theorem W2{s:Operand}(n:o.guard=none)
 (B:o.op = .call { callee := .builtin .copy,args:=#[d,s],argTypes:=#[dT,sT] })
 {e:TypeId} {z:Value} {bytes g i dc m c:Nat} {A:Option Addr} {t:TypeId} {b cs:List Value} (D:P.underlying dT=some (.slice e)) (a:Ca P e z bytes)
 (r:f.eval d = .slice (some ⟨g,0,none⟩) i dc) (p:f.eval s = .slice A m c)
 (h:Arr w g t b) (x:b.length=i) (C:Sl w A m c cs) (y:i<=m) (h1:∀ v∈cs,v.oneCell'=true)
 (q:∀ k,Arr k g t (cs.take i)->w.grownBy k (some g)->wpList P ops Q rest (f.put o.dst (goInt i)) k):wpList P ops Q (o :: rest) f w:=by
 refine jf n fun K l => ?_;obtain⟨k,j,h2,h3⟩:=Vw (P:=P) (ty:=o.type) (sT:=sT) (dc:=dc) D a h x C y h1;unfold Oper.wp execOp;simp only[B,resolve,invoke,builtin,ij,iF,gS,jH,ja,jE,r,p,j,Oper.upon];exact l _ _ (q k h2 h3)
end
def Vx(w:World)(g:Nat)(xs:List Int):Prop:=Arr w g 3 (xs.map (Value.int .i64))
theorem Vx.own(h:Vx w g xs)(a:base<=g)(b:xs.length<=maxLen):Own w base 3 (some ⟨g,0,none⟩) xs.length xs.length (xs.map (Value.int .i64)):=by
 refine⟨by simp,Or.inr ⟨g,xs.length,(xs.map (Value.int .i64)).toArray,rfl,a,h,lrf _,b,by simp,?_⟩⟩;rw[km];exact gG (by simp)
theorem FE(h:Own w base e a n c cs)(d:Arr w p t cs')(l:t≠e):blk a≠some p:=by
 rcases h.2 with⟨b,_⟩|⟨g,i,j,b,_,k,_⟩
 · simp only[gW]at b;rw[b.1];simp[blk]
 · simp only[gW]at b;rw[b.1];intro he;have f:g=p:=by simpa[blk]using he
   subst f;unfold Arr at d;rw[k]at d;simp only[gK,kz]at d;exact l d.2.1.symm
theorem F5:BV prog 26 (tmL ⟨#[]⟩ none 0 0) 2 40:=⟨by kernel_rfl,rfl,by omega⟩
def I5(w:World)(base:Nat)(row:List Value)(t:Tx):Prop:=∃ s a n c,row=tmL s a n c/\An s=t.1/\Own w base 3 a n c (t.2.map (Value.int .i64))
def TmO(w:World)(base:Nat)(a:Option Addr)(n c:Nat)(ts:List Tx):Prop:=∃ rows,AR w base 26 2 a n c rows/\ts.length=n/\∀ i,i<n->I5 w base (rows.getD i []) (ts.getD i tm0)
theorem I5.ext{w b:World}{base:Nat}{row:List Value}{t:Tx}(h:I5 w base row t)(e:Ext w b):I5 b base row t:=by
 obtain⟨s,a,n,c,h1,h2,h3⟩:=h;exact⟨s,a,n,c,h1,h2,h3.ext e⟩
theorem TmO.ext{w d:World}{base:Nat}{a:Option Addr}{n c:Nat}{ts:List Tx}(h:TmO w base a n c ts)(e:Ext w d):TmO d base a n c ts:=by
 obtain⟨b,h1,h2,h3⟩:=h;exact⟨b,h1.ext e,h2,fun i f=>(h3 i f).ext e⟩
theorem TmO.sl{w:World}{base:Nat}{a:Option Addr}{n c:Nat}{ts:List Tx}(h:TmO w base a n c ts):AH w a n c ts:=by
 obtain⟨b,h1,h2,h3⟩:=h;refine⟨b,h1.slk (by omega),h2,fun i k => ?_⟩;obtain⟨s,d,l,e,f,g,j⟩:=h3 i k;exact⟨s,d,l,e,f,g,j.sl⟩
theorem TmO.nil(w:World)(base:Nat):TmO w base none 0 0 []:=⟨[],AR.nil _ _ _ _,rfl,fun i a=>absurd a (by omega)⟩
theorem TmO.mono{w:World}{base b:Nat}{a:Option Addr}{n c:Nat}{ts:List Tx}(h:TmO w base a n c ts)(e:b<=base):TmO w b a n c ts:=by
 obtain⟨d,h1,h2,h3⟩:=h;refine⟨d,h1.mono e,h2,fun i m => ?_⟩;obtain⟨s,f,o,g,j,k,l⟩:=h3 i m;exact⟨s,f,o,g,j,k,l.mono e⟩
theorem II{b:Nat}{k v c':Nat}(h:Own w b e a n c cs)(r:AR w b' e' k (some ⟨g,0,none⟩) v c' rows)(t:e≠e'):blk a≠some g:=by
 rcases r.2.2 with⟨i,_⟩|⟨x,o,p,i,_,s,_⟩
 · simp at i
 simp only[gW,gK,iV,jp,lI]at i;rcases h.2 with⟨f,_⟩|⟨q,l,m,f,_,d,_⟩
 · simp only[gW]at f;rw[f.1];simp[blk]
 · simp only[gW]at f;rw[f.1];intro he;have j:q=g:=by simpa[blk]using he
   rw[j]at d;rw[i.1]at d;rw[s]at d;simp only[gK,kz]at d;exact t d.2.1.symm
def Ek(q:Rat):Prop:=∀ (w:World) (v:Value),AM w->BU w v q->Calls prog 124 #[v] w fun e w'=>e = .returned (.string ⟨(txt q).toArray⟩)/\Ext w w'
theorem LZ(b:q.num.natAbs<P2 1920)(c:q.den<P2 1920):Ek q:=fun _ _ a h=>PL a h b c
theorem El(b:q.num.natAbs<18446744073709551616)(c:q.den<18446744073709551616):Ek q:=by
 have e:P2 64=18446744073709551616:=by unfold P2;decide
 exact LZ (Af (a:=64) (by omega) (by omega)) (Af (a:=64) (by omega) (by omega))
def wrT(vars:Nat)(l:List Pl.Tm):List Tx:=l.map (fun t=>(txt t.2,t.1.take vars))
def BS(vars:Int)(a:Option Addr)(n c:Nat):Value := .agg #[.int .i64 vars,.slice a n c]
def Cl(w0:World)(vars:Int)(ts:List Tx)(err:Int)(e:Ending)(w':World):Prop:=∃ a n c,e = .returned (.tuple #[BS vars a n c,.int .i64 err])/\Ext w0 w'/\TmO w' w0.heap.size a n c ts
def Ah(vars:Int)(a:Option Addr)(n c:Nat):List Value:=[.int .i64 vars,.slice a n c]
theorem Am(vars:Int)(a:Option Addr)(n c:Nat):∀ v∈Ah vars a n c,v.oneCell'=true:=by
 intro v b;simp only[Ah,iE,kC,mU]at b;rcases b with rfl|rfl <;> rfl
def okW(l:List Pl.Tm):Prop:=l.length<=4096/\∀ t r,l=t :: r->A3 t.1=true
def Fw(w0:World)(vars:Nat)(l:List Pl.Tm)(e:Ending)(w':World):Prop:=∃ l',l'.Perm l/\((Pl.desc l'/\okW l'/\Cl w0 vars (wrT vars l') 0 e w')\/((4096<l.length\/(Pl.desc l'/\¬ okW l'))/\Cl w0 0 [] 2 e w'))
theorem B6{vars:Nat}{l:List Pl.Tm}(b1:AM w0)(ad:Ext w0 w)(V:C1 w w0.heap.size a n c l)(hv:vars<=6)(hb:Bp l)(aM:∀ t∈l,Ek t.2)(hn:n<=1000000) :
 Calls prog 69 #[.int .i64 vars,.slice a n c] w (Fw w0 vars l):=by
 have aL:=fun(j:World) (f:Ext w j)=>qh (GV (V.ext f) hb hn);have aX:=qh aM;have aV:=qh V.len;have ay:=qh (fun g hg=>(by obtain⟨ac,h1,_⟩:=V;exact h1.lt hg:w0.heap.size<=g/\g<w.heap.size):∀ g,blk a=some g->w0.heap.size<=g/\g<w.heap.size);have aR:=GV V hb hn;have b2:AM w0:=b1;have bs:=V.len
 go_enter func69,ntmps69
 go_upto_region 1 with(fail)
 refine AP ?_;intro w1 ae aC b8;have hR:Arr w1 w.heap.size 28 (Ah 0 none 0 0):=aC;have ar:=aL w1 ae;have h01:=ad.trans ae;have bu:(Ah 0 none 0 0).toArray=#[.int .i64 0,.slice none 0 0]:=rfl;clear aC b8 aL aR aM V;by_cases bp:4096<n
 · go_wp2_with(refine Aa (vs:=Ah 0 none 0 0) rfl rfl rfl rfl rfl Ad hR rfl (Am _ _ _ _) ?_;intro w9 I q)
   refine gF (Ao rfl Ad rfl rfl I) rfl ?_;exact⟨l,mN _,Or.inr ⟨Or.inl (by have:=aV.out;omega),none,0,0,rfl,h01.grownR q ad.size,TmO.nil _ _⟩⟩
 · go_wp2_with fail
   refine ar.out.mono ?_;rintro e w2 ⟨rfl,D,O,an,T,a6⟩;have HP:=qh (And.intro O an);have M:Arr w2 w.heap.size 28 (Ah 0 none 0 0):=hR.kept a6 (fun he=>by have:=(ay.out _ he.symm).2;omega);have h02:Ext w0 w2:=h01.grown a6 (fun k hk=>(ay.out k hk).1);have aT:w.heap.size<w2.heap.size:=M.lt;have C:=T.len;have aO:Hid (∀ t∈D,Ek t.2):=qh (fun t ht=>aX.out t (O.mem_iff.1 ht));clear O an ar a6 hR ae;have ab:=ad.size;have b9:n=0\/(∃ t r,D=t :: r/\A3 t.1=true)\/(∃ t r,D=t :: r/\A3 t.1=false):=by
    rcases gX n with h|h
    · exact Or.inl h
    · right;cases D with
      | nil=>simp at C;omega
      | cons t r=>cases aN:A3 t.1 with
       | true=>exact Or.inl ⟨t,r,rfl,aN⟩
       | false=>exact Or.inr ⟨t,r,rfl,aN⟩
   have R:n=0->okW D:=fun h=>⟨by omega,fun t r e=>by rw[e]at C;simp at C;omega⟩;have a4:0<n->∃ g,a=some ⟨g,0,none⟩/\∀ t r,D=t :: r->∀ j,Ext w2 j->Hid (Calls prog 68 #[.slice (some ⟨g,0,none⟩) 6 6] j fun e w'=>e = .returned (.bool (A3 t.1))/\Qt j w'):=by
    intro h0;obtain⟨ac,h1,h2,h3,h4⟩:=T;obtain⟨g,rfl,br,a6⟩:=h1.place h0;refine⟨g,rfl,fun t r Y j f=>qh ?_⟩;obtain⟨s,a',n',c',b,m,d,e1,e2,e3⟩:=h4 0 h0;have a7:=h1.slk (by omega);obtain⟨b',bn,e4,hc⟩:=a7.rd h0;simp only[gK,iV,jp]at e4;obtain⟨rfl,rfl⟩:=e4;rw[Y]at e1 e2;have b7:SlI w2 (some ⟨g,0,none⟩) 6 6 t.1:=by
     refine⟨by simpa using e2,lrf _,by unfold maxLen;omega,fun _=>⟨g,0,rfl,fun i hi => ?_⟩⟩;have h5:=hc 0 h0 i (by omega);rw[e1]at h5;rw[jg]at h5;rw[h5];have:((t :: r).getD 0 ([],0))=t:=rfl;rw[this]at e2 |-;have h1:(As t.1 s a' n' c' b m d).getD i undef=(t.1.map (Value.int .i64)).getD i undef:=by
      unfold As;rw[gqq,gZ (by simp[e2];omega),<-gqq]
     rw[h1]
    exact(E6 (b7.ext f)).mono fun _ _ h=>⟨h.1,h.2 ▸ Qt.refl _⟩
   rcases b9 with h0|⟨t,r,Y,P⟩|⟨t,r,Y,P⟩
   · have aK:=R h0;have W:=qh aK;clear aK R a4;have aJ:¬ ((0:Int)<(n:Int)):=by omega
     clear h0;have hY:=fun j:World=>Arr.new j 28 (Ah 0 none 0 0)
     go_upto_region 7 with(first
      | (refine E0 rfl rfl (by kernel_rfl) F5 rfl rfl (by omega) (by unfold maxLen;omega) ?_;intro w4 J Z)
      | (refine Aa (vs:=Ah vars (some ⟨w2.heap.size,0,none⟩) n n) rfl rfl rfl rfl rfl Ad (hY _) rfl (Am _ _ _ _) ?_;intro w5 B a2))
     have p:Ext w4 w5:=((Ext.refl w4).alloc _).grownR a2 (lrf _);have F:=Z.trans p;have K:AR w5 w0.heap.size 26 2 (some ⟨w2.heap.size,0,none⟩) n n (List.replicate n (tmL ⟨#[]⟩ none 0 0)):=(J.ext p).mono h02.size;have U:w4.heap.size≠w2.heap.size:=by have:=(J.lt (g:=w2.heap.size) rfl).2;omega
     obtain⟨PB,a0⟩:∃ x,w4.heap.size=x:=⟨_,rfl⟩;obtain⟨G,hG⟩:∃ x,w2.heap.size=x:=⟨_,rfl⟩;rw[a0]at B U;rw[hG]at B U K;rw[a0];clear hY J Z p a2;obtain⟨ac,hK,hU,b5,a3⟩:=T;have aw:=qh a3;have aE:=hK.slk (by omega);clear a3 hU hK;go_wp2
     go_loopw[35] (fun iv wr=>∃ (k:Nat) (rs:List (List Value)),iv = .int .i64 k/\k<=n/\Ext w2 wr/\AR wr w0.heap.size 26 2 (some ⟨G,0,none⟩) n n rs/\Arr wr PB 28 (Ah vars (some ⟨G,0,none⟩) n n)/\Hid (∀ i,i<k->I5 wr w0.heap.size (rs.getD i []) ((wrT vars D).getD i tm0))) (fun iv _=>n-(intOf iv).toNat)
     case atStart=>exact⟨0,_,rfl,gO _,F,K,B,qh (fun i hi=>absurd hi (by omega))⟩
     case round =>
      clear K B F;obtain⟨k,rs,rfl,hk,hE,V,hP,HC⟩:=hrel;by_cases N:k<n
      · exfalso;omega
      · have ak:k=n:=by omega
        subst ak;have q0:=hP.c 0 rfl;have q1:=hP.c 1 rfl;have a1:=M.ext hE;have b6:(Ah vars (some ⟨G,0,none⟩) k k).toArray=#[.int .i64 vars,.slice (some ⟨G,0,none⟩) k k]:=rfl
        go_wp2_with(refine Aa (vs:=Ah vars (some ⟨G,0,none⟩) k k) rfl rfl rfl rfl rfl Ad a1 rfl (Am _ _ _ _) ?_;intro w9 I q)
        refine gF (Ao rfl Ad rfl rfl I) rfl ?_;have ai:w.heap.size≠G:=by omega
        refine⟨D,HP.out.1,Or.inl ⟨HP.out.2,W.out,_,k,k,rfl,(h02.trans hE).grownR q ab,rs,V.kept q (Or.inr (by simpa[blk]using fun h=>ai h.symm)),by simp[wrT,C],fun i hi => ?_⟩⟩;obtain⟨s9,a9,n9,c9,e1,e2,e3⟩:=HC.out i hi;exact⟨s9,a9,n9,c9,e1,e2,e3.kept q (Or.inr (FE e3 a1 (by decide)))⟩
   · have al:0<n:=by rw[<-C,Y];simp
     obtain⟨g,rfl,H⟩:=a4 al;have z:=H t r Y;clear a4;have W:Hid (okW D):=qh ⟨by omega,fun t' r' e=>by rw[Y]at e;cases e;exact P⟩;have aJ:(0:Int)<(n:Int):=by omega
     rw[P]at z;clear H R P Y
     go_wp2_with fail
     refine(z _ (Ext.refl _)).out.mono ?_;rintro e w3 ⟨rfl,L⟩;have T:=T.ext L.ext;have M:=M.ext L.ext;have h02:=h02.trans L.ext;have aT:w.heap.size<w3.heap.size:=M.lt;clear z L;generalize (some (⟨g,0,none⟩:Addr))=A at *
     have hY:=fun j:World=>Arr.new j 28 (Ah 0 none 0 0)
     go_upto_region 7 with(first
      | (refine E0 rfl rfl (by kernel_rfl) F5 rfl rfl (by omega) (by unfold maxLen;omega) ?_;intro w4 J Z)
      | (refine Aa (vs:=Ah vars (some ⟨w3.heap.size,0,none⟩) n n) rfl rfl rfl rfl rfl Ad (hY _) rfl (Am _ _ _ _) ?_;intro w5 B a2))
     have p:Ext w4 w5:=((Ext.refl w4).alloc _).grownR a2 (lrf _);have F:=Z.trans p;have K:AR w5 w0.heap.size 26 2 (some ⟨w3.heap.size,0,none⟩) n n (List.replicate n (tmL ⟨#[]⟩ none 0 0)):=(J.ext p).mono h02.size;have U:w4.heap.size≠w3.heap.size:=by have:=(J.lt (g:=w3.heap.size) rfl).2;omega
     obtain⟨PB,a0⟩:∃ x,w4.heap.size=x:=⟨_,rfl⟩;obtain⟨G,hG⟩:∃ x,w3.heap.size=x:=⟨_,rfl⟩;rw[a0]at B U;rw[hG]at B U K;rw[a0];clear hY J Z p a2;obtain⟨ac,hK,hU,b5,a3⟩:=T;have aw:=qh a3;have aE:=hK.slk (by omega);clear a3 hU hK;go_wp2
     go_loopw[35] (fun iv wr=>∃ (k:Nat) (rs:List (List Value)),iv = .int .i64 k/\k<=n/\Ext w3 wr/\AR wr w0.heap.size 26 2 (some ⟨G,0,none⟩) n n rs/\Arr wr PB 28 (Ah vars (some ⟨G,0,none⟩) n n)/\Hid (∀ i,i<k->I5 wr w0.heap.size (rs.getD i []) ((wrT vars D).getD i tm0))) (fun iv _=>n-(intOf iv).toNat)
     case atStart=>exact⟨0,_,rfl,gO _,F,K,B,qh (fun i hi=>absurd hi (by omega))⟩
     case round =>
      clear K B F;obtain⟨k,rs,rfl,hk,hE,V,hP,HC⟩:=hrel;by_cases N:k<n
      · have aj:=aE.ext hE;obtain⟨bb,bn,ha,_⟩:=aj.rd (by omega)
        first
         | subst ha
         | (simp only[gK,iV,jp]at ha;obtain⟨rfl,rfl⟩:=ha)
        obtain⟨sx,ax,nx,cx,bx,mx,dx,aa,h6,am⟩:=aw.out k N;have HM:Hid ((wrT vars D).getD k tm0=(txt (D.getD k ([],0)).2,(D.getD k ([],0)).1.take vars)):=qh (by simp[wrT,C,N]);have az:Hid (Ek (D.getD k ([],0)).2):=qh (aO.out _ (by simp[C,N]));generalize D.getD k ([],0)=t at *
        obtain⟨te,tq⟩:=t;obtain⟨x0,x1,x2,x3,x4,x5,aB⟩:=Bt h6;simp only at aB aa HM am az;subst aB;have hY:=Arr.new wr 92 (As [0,0,0,0,0,0] false none 0 0 none 0 0)
        go_upto_region 10 with(first
         | (refine Bg rfl rfl At rfl aj N ?_;rw[aa])
         | (refine Aa (vs:=(As [x0,x1,x2,x3,x4,x5] sx ax nx cx bx mx dx)) rfl rfl rfl rfl rfl At hY rfl AI ?_;intro w6 S aH))
        have af:Ext wr w6:=((Ext.refl wr).alloc _).grownR aH (lrf _);have bo:wr.heap.size<w6.heap.size:=S.lt;obtain⟨X,hX⟩:∃ x,wr.heap.size=x:=⟨_,rfl⟩;rw[hX]at S;rw[hX];have a7:=MU S rfl;clear hY aH aa h6 aj
        go_upto_region 11 with(refine C6 (n:=vars) rfl rfl underlying24 Dt rfl rfl rfl (by omega) (by unfold maxLen;omega) ?_;intro w7 aF a5)
        have hA7:=Own.arr aF;have aq:=a7.ext a5;have zc:w7.cell? ⟨X,0,none⟩=some (.int .i64 x0):=(S.ext a5).cell (i:=0) (by simp[As])
        go_upto_region 12 with(refine W2 (sT:=24) rfl rfl underlying24 Dt rfl rfl hA7 (by simp) aq hv (Cc _) ?_;intro w8 hA8 aI)
        have a8:Ext w6 w8:=a5.grownR aI (lrf _);have y:=af.trans a8;have ao:=hE.trans y;have aG:=V.ext y;have ah:=hP.ext y;have o:=S.ext a8;have aU:Hid (∀ i,i<k->I5 w8 w0.heap.size (rs.getD i []) ((wrT vars D).getD i tm0)):=qh fun i hi=>(HC.out i hi).ext y;have ap:=am.ext ao;have aA:=h02.trans hE
        have au:Hid (Own w8 w0.heap.size 3 (some ⟨w6.heap.size,0,none⟩) vars vars (([x0,x1,x2,x3,x4,x5].take vars).map (Value.int .i64))):=qh (by
         have h1:Vx w8 w6.heap.size ([x0,x1,x2,x3,x4,x5].take vars):=by unfold Vx;rw[pg];exact hA8
         have h2:=h1.own (base:=w0.heap.size) (by have:=(aA.trans af).size;omega) (by unfold maxLen;rw[iq];simp;omega);have h3:([x0,x1,x2,x3,x4,x5].take vars).length=vars:=by rw[iq];simp;omega
         rw[h3]at h2
         exact h2)
        obtain⟨E,aZ⟩:∃ x,w6.heap.size=x:=⟨_,rfl⟩;rw[aZ]at au |-;have aW:=qh (aG.len (by omega));have aS:=fun(j:World) (f:Ext w8 j)=>qh (az.out j (.agg #[.bool sx,.slice ax nx cx,.bool false,.slice bx mx dx]) (b2.ext ((aA.trans y).trans f)) ⟨Al sx ax nx cx false bx mx dx,rfl,ap.ext f⟩);clear zc aF hA7 hA8 aI a5 af a8 a7 aq S V hP hE HC am y;have c0:=o.c 0 rfl;have c1:=o.c 1 rfl;have c2:=o.c 2 rfl;have c3:=o.c 3 rfl;have c4:=o.c 4 rfl;have c5:=o.c 5 rfl;have c6:=o.c 6 rfl;have c7:=o.c 7 rfl;have c8:=o.c 8 rfl;have c9:=o.c 9 rfl
        have q0:=ah.c 0 rfl;have q1:=ah.c 1 rfl;clear o ap;have av:=fun(j:World) (f:Ext w8 j)=>qh (And.intro (f.cell c0) (And.intro (f.cell c1) (And.intro (f.cell c2) (And.intro (f.cell c3) (And.intro (f.cell c4) (And.intro (f.cell c5) (And.intro (f.cell c6) (And.intro (f.cell c7) (And.intro (f.cell c8) (And.intro (f.cell c9) (And.intro (f.cell q0) (f.cell q1))))))))))))
        refine Ab (by kernel_rfl) (fun j=>Ext w8 j)
         [he (.pointer (some ⟨PB,1,none⟩)),
 he (.slice (some ⟨G,0,none⟩) n n),
 he (.int .i64 k),
 he (.pointer (some ⟨X,6,none⟩)),
 he (.agg #[.bool sx,.slice ax nx cx,.bool false,.slice bx mx dx]),
 hp (fun v j=>v = .string ⟨(txt tq).toArray⟩),
 he (.slice (some ⟨E,0,none⟩) vars vars),
 hp (fun v j=>v = .agg #[.string ⟨(txt tq).toArray⟩,.slice (some ⟨E,0,none⟩) vars vars])]
         (by kernel_rfl) (fun _ _ e h=>h.trans e) ((Ext.refl w8).drew) ⟨trivial,trivial,trivial,trivial,trivial,fun _ _ _ _ h=>h,trivial,fun _ _ _ _ h=>h,trivial⟩ ⟨?o0,?o1,?o2,?o3,?o4,?o5,?o6,?o7,trivial⟩ ?fin
        case o0=>exact ofa (d:=1)
        case o1=>exact ol
        case o2 | o6=>exact omv
        case o3=>exact ofa (d:=6)
        case o4=>exact ol4
        case o5 =>
         refine Ag rfl fun ρ j f aQ b3 h => ?_;have e1:ρ (.tmp 50)=(.agg #[.bool sx,.slice ax nx cx,.bool false,.slice bx mx dx]):=h.2.1;obtain⟨bd,be,bf,bg,bh,bi,bj,bk,bl,bm,ba,bc⟩:=(av j f).out;refine⟨124,#[.agg #[.bool sx,.slice ax nx cx,.bool false,.slice bx mx dx]],by go_simp,((aS j f).out).mono ?_⟩;rintro e w' ⟨rfl,aY⟩;exact⟨_,rfl,aY,rfl⟩
        case o7 =>
         refine AE rfl ?_;intro ρ j hp f h;have aQ:=hp.const;have b3:=hp.func;obtain⟨v0,e0,rfl⟩:=h.1;have e1:ρ (.tmp 52)=(.slice (some ⟨E,0,none⟩) vars vars):=h.2.1;obtain⟨bd,be,bf,bg,bh,bi,bj,bk,bl,bm,ba,bc⟩:=(av j f).out;exact⟨_,j,by go_simp,Ext.refl _,rfl⟩
        case fin =>
         intro j f;rintro _ rfl;rintro _ rfl;change wpList _ _ _ _ _ _;simp only[lq,lw,lx,lz,Act.put,lj,lk,ly];have ag:=aG.ext f;have bq:(k:Int)<n:=by omega
         have bt:(tmL ⟨(txt tq).toArray⟩ (some ⟨E,0,none⟩) vars vars).toArray=#[.string ⟨(txt tq).toArray⟩,.slice (some ⟨E,0,none⟩) vars vars]:=rfl
         go_wp2_with(refine Id (vs:=tmL ⟨(txt tq).toArray⟩ (some ⟨E,0,none⟩) vars vars) rfl rfl (by omega) A4 rfl rfl rfl ag N rfl (CI _ _ _ _) ?_;intro bv aP Q)
         go_roundw
         case rel =>
          have aD:Own j w0.heap.size 3 (some ⟨E,0,none⟩) vars vars (([x0,x1,x2,x3,x4,x5].take vars).map (Value.int .i64)):=au.out.ext f;refine⟨k+1,_,by go_num,by omega,(ao.trans f).grownR Q (lH hG),aP,(ah.ext f).kept Q (fun he=>U (by simpa using he)),qh fun i hi => ?_⟩;by_cases b4:i=k
          · subst b4;rw[HM.out,gqq,jF (by rw[aW.out];exact N)];exact⟨_,_,vars,vars,rfl,rfl,aD.kept Q (Or.inr (II aD ag (by decide)))⟩
          · rw[gqq,List.getElem?_set_ne (by omega),<-gqq];obtain⟨s9,a9,n9,c9,e1,e2,e3⟩:=(aU.out i (by omega)).ext f;exact⟨s9,a9,n9,c9,e1,e2,e3.kept Q (Or.inr (II e3 ag (by decide)))⟩
         case measure=>simp[intOf];omega
      · have ak:k=n:=by omega
        subst ak;have q0:=hP.c 0 rfl;have q1:=hP.c 1 rfl;have a1:=M.ext hE;have b6:(Ah vars (some ⟨G,0,none⟩) k k).toArray=#[.int .i64 vars,.slice (some ⟨G,0,none⟩) k k]:=rfl
        go_wp2_with(refine Aa (vs:=Ah vars (some ⟨G,0,none⟩) k k) rfl rfl rfl rfl rfl Ad a1 rfl (Am _ _ _ _) ?_;intro w9 I q)
        refine gF (Ao rfl Ad rfl rfl I) rfl ?_;have ai:w.heap.size≠G:=by omega
        refine⟨D,HP.out.1,Or.inl ⟨HP.out.2,W.out,_,k,k,rfl,(h02.trans hE).grownR q ab,rs,V.kept q (Or.inr (by simpa[blk]using fun h=>ai h.symm)),by simp[wrT,C],fun i hi => ?_⟩⟩;obtain⟨s9,a9,n9,c9,e1,e2,e3⟩:=HC.out i hi;exact⟨s9,a9,n9,c9,e1,e2,e3.kept q (Or.inr (FE e3 a1 (by decide)))⟩
   · have al:0<n:=by rw[<-C,Y];simp
     obtain⟨g,rfl,H⟩:=a4 al;have z:=H t r Y;clear a4;have W:Hid (¬ okW D):=qh fun h=>by have:=h.2 t r Y;rw[P]at this;cases this
     have aJ:(0:Int)<(n:Int):=by omega
     rw[P]at z;clear H R P Y
     go_wp2_with fail
     refine(z _ (Ext.refl _)).out.mono ?_;rintro e w3 ⟨rfl,L⟩;have b0:=M.ext L.ext
     go_wp2_with(refine Aa (vs:=Ah 0 none 0 0) rfl rfl rfl rfl rfl Ad b0 rfl (Am _ _ _ _) ?_;intro w9 I q)
     refine gF (Ao rfl Ad rfl rfl I) rfl ?_;exact⟨D,HP.out.1,Or.inr ⟨Or.inr ⟨HP.out.2,W.out⟩,none,0,0,rfl,(h02.trans L.ext).grownR q ab,TmO.nil _ _⟩⟩
section
variable {P:Program} {w:World}
theorem DA{x i:Operand}(c:o.guard=none)(l:o.op = .index t x i)(d:GG P t et)
 {cs:Array Value} {k:Nat} {v:Value} (p:f.eval x = .agg cs) (hi:f.eval i = .int .i64 (k:Int)) (h6:k<6) (j:cs[k]?=some v) (e:wpList P ops Q rest (f.put o.dst v) w):wpList P ops Q (o :: rest) f w:=by
 refine jf c fun K b => ?_;obtain⟨q,a,n⟩:∃ i,P.info? et=some i/\i.size=1:=by
  have:=d.size;cases h:P.info? et with
  | none=>rw[h]at this;cases this
  | some i=>rw[h]at this;exact⟨i,rfl,by simpa using this⟩
 have m:(Instr.index t (.agg cs) (.int .i64 (k:Int))).run P w = .ok v w:=by
  have g:(0:Int)<=(k:Int)/\(k:Int)<((6:Nat):Int):=by omega
  simp only[Instr.index,asIntOf,ij,iF,gS,j4 d.arr];rw[gY g];simp[sizeOf,typeInfo,a,n,A0 w d cs k v j]
 unfold Oper.wp execOp;simp only[l,p,hi,ij,m,gS,iF,Oper.upon];exact b _ _ e
end
abbrev TE(a b:List Int):List Int:=Pl.plE a b
def TF(x0 x1 x2 x3 x4 x5 y0 y1 y2 y3 y4 y5:Int):Nat->List Int
 | 0=>[x0,x1,x2,x3,x4,x5]
 | 1=>[x0+y0,x1,x2,x3,x4,x5]
 | 2=>[x0+y0,x1+y1,x2,x3,x4,x5]
 | 3=>[x0+y0,x1+y1,x2+y2,x3,x4,x5]
 | 4=>[x0+y0,x1+y1,x2+y2,x3+y3,x4,x5]
 | 5=>[x0+y0,x1+y1,x2+y2,x3+y3,x4+y4,x5]
 | _=>[x0+y0,x1+y1,x2+y2,x3+y3,x4+y4,x5+y5]
theorem L0(L:xs.length=6)(M:ys.length=6)(v:∀ x∈xs,0<=x/\x<=1099511627776)(b:∀ x∈ys,0<=x/\x<=1099511627776) :
 Calls prog 160 #[BI xs,BI ys] w fun e w'=>e = .returned (BI (TE xs ys))/\Ext w w':=by
 obtain⟨f,g,i,j,l,m,rfl⟩:=Bt L;obtain⟨n,o,p,q,r,s,rfl⟩:=Bt M;have O:=v f (by simp);have U:=b n (by simp);have P:=v g (by simp);have V:=b o (by simp);have Q:=v i (by simp);have W:=b p (by simp);have R:=v j (by simp);have X:=b q (by simp);have S:=v l (by simp);have Y:=b r (by simp);have T:=v m (by simp);have Z:=b s (by simp);clear v b L M;have hl:BI [f,g,i,j,l,m] = .agg #[.int .i64 f,.int .i64 g,.int .i64 i,.int .i64 j,.int .i64 l,.int .i64 m]:=rfl
 have I:BI [n,o,p,q,r,s] = .agg #[.int .i64 n,.int .i64 o,.int .i64 p,.int .i64 q,.int .i64 r,.int .i64 s]:=rfl;rw[hl,I]
 go_enter func160,ntmps160
 go_upto_region 1 with(fail)
 refine CO ?_;intro N D B d C J;have hA0:Arr N w.heap.size 90 ((TF f g i j l m n o p q r s 0).map (Value.int .i64)):=B;have t:Arr N (w.heap.size+2) 90 (ze.map (Value.int .i64)):=C;have d0:=d.c 0 rfl;have d1:=d.c 1 rfl;have d2:=d.c 2 rfl;have d3:=d.c 3 rfl;have d4:=d.c 4 rfl;have d5:=d.c 5 rfl;clear B d C J;go_wp2
 go_loopw[8] (fun K wr=>∃ k:Nat,K = .int .i64 k/\k<=6/\Ext w wr/\Arr wr w.heap.size 90 ((TF f g i j l m n o p q r s k).map (Value.int .i64))/\Arr wr (w.heap.size+2) 90 (ze.map (Value.int .i64))) (fun K _=>6-(intOf K).toNat)
 case atStart=>exact⟨0,rfl,by omega,D,hA0,t⟩
 case round =>
  clear hA0 t D d0 d1 d2 d3 d4 d5;obtain⟨k,rfl,hk,y,a,t⟩:=hrel;have H:k=0\/k=1\/k=2\/k=3\/k=4\/k=5\/k=6:=by omega
  rcases H with rfl|rfl|rfl|rfl|rfl|rfl|rfl
  · have z:=a.c 0 rfl;have A:=a.frozen 0;have E:IntKind.i64.wrap (f+n)=f+n:=gI _ (by omega)
    go_wp2_with(refine DA rfl rfl A1 (k:=0) rfl rfl (by omega) rfl ?_)
    go_roundw
    case rel=>exact⟨1,by go_num,by omega,y.setCell (lrf _) _,a.set 0 (.int .i64 (f+n)),t.far (by simp) _⟩
    case measure=>simp[intOf]
  · have z:=a.c 1 rfl;have A:=a.frozen 1;have E:IntKind.i64.wrap (g+o)=g+o:=gI _ (by omega)
    go_wp2_with(refine DA rfl rfl A1 (k:=1) rfl rfl (by omega) rfl ?_)
    go_roundw
    case rel=>exact⟨2,by go_num,by omega,y.setCell (lrf _) _,a.set 1 (.int .i64 (g+o)),t.far (by simp) _⟩
    case measure=>simp[intOf]
  · have z:=a.c 2 rfl;have A:=a.frozen 2;have E:IntKind.i64.wrap (i+p)=i+p:=gI _ (by omega)
    go_wp2_with(refine DA rfl rfl A1 (k:=2) rfl rfl (by omega) rfl ?_)
    go_roundw
    case rel=>exact⟨3,by go_num,by omega,y.setCell (lrf _) _,a.set 2 (.int .i64 (i+p)),t.far (by simp) _⟩
    case measure=>simp[intOf]
  · have z:=a.c 3 rfl;have A:=a.frozen 3;have E:IntKind.i64.wrap (j+q)=j+q:=gI _ (by omega)
    go_wp2_with(refine DA rfl rfl A1 (k:=3) rfl rfl (by omega) rfl ?_)
    go_roundw
    case rel=>exact⟨4,by go_num,by omega,y.setCell (lrf _) _,a.set 3 (.int .i64 (j+q)),t.far (by simp) _⟩
    case measure=>simp[intOf]
  · have z:=a.c 4 rfl;have A:=a.frozen 4;have E:IntKind.i64.wrap (l+r)=l+r:=gI _ (by omega)
    go_wp2_with(refine DA rfl rfl A1 (k:=4) rfl rfl (by omega) rfl ?_)
    go_roundw
    case rel=>exact⟨5,by go_num,by omega,y.setCell (lrf _) _,a.set 4 (.int .i64 (l+r)),t.far (by simp) _⟩
    case measure=>simp[intOf]
  · have z:=a.c 5 rfl;have A:=a.frozen 5;have E:IntKind.i64.wrap (m+s)=m+s:=gI _ (by omega)
    go_wp2_with(refine DA rfl rfl A1 (k:=5) rfl rfl (by omega) rfl ?_)
    go_roundw
    case rel=>exact⟨6,by go_num,by omega,y.setCell (lrf _) _,a.set 5 (.int .i64 (m+s)),t.far (by simp) _⟩
    case measure=>simp[intOf]
  · have hA6:Arr wr w.heap.size 90 ([f+n,g+o,i+p,j+q,l+r,m+s].map (Value.int .i64)):=a;have c0:=hA6.c 0 rfl;have z:=hA6.c 1 rfl;have A:=hA6.c 2 rfl;have c3:=hA6.c 3 rfl;have c4:=hA6.c 4 rfl;have c5:=hA6.c 5 rfl;have a0:([f+n,g+o,i+p,j+q,l+r,m+s].map (Value.int .i64)).toArray=#[.int .i64 (f+n),.int .i64 (g+o),.int .i64 (i+p),.int .i64 (j+q),.int .i64 (l+r),.int .i64 (m+s)]:=rfl
    go_wp2_with(refine Aa (vs:=[f+n,g+o,i+p,j+q,l+r,m+s].map (Value.int .i64)) rfl rfl rfl rfl rfl D4 t rfl (Cc _) ?_;intro w9 F G)
    exact gF (Ap rfl D4 rfl F) rfl ⟨rfl,y.grownR G (by omega)⟩
def Bu(l:List Pl.Tm):Int:=l.foldl (fun m t=>max m t.1.sum) (-1)
theorem Sm{l:List Pl.Tm}{k:Nat}(h:k<l.length):Bu (l.take (k+1))=max (Bu (l.take k)) (l.getD k ([],0)).1.sum:=by
 unfold Bu;rw[gM h,mJ];simp[h]
theorem FF{l:List Pl.Tm}(b:Bp l) : -1<=Bu l/\Bu l<=6597069766656:=by
 have c:∀ (l:List Pl.Tm) (m:Int),Bp l -> -1<=m->m<=6597069766656 -> -1<=l.foldl (fun m t=>max m t.1.sum) m/\l.foldl (fun m t=>max m t.1.sum) m<=6597069766656:=by
  intro l
  induction l with
  | nil=>intro m _ h1 h2;exact⟨h1,h2⟩
  | cons t r ih =>
   intro m b h1 h2;obtain⟨h6,a⟩:=b t (by simp);obtain⟨e,f,g,i,j,k,he⟩:=Bt h6;rw[he]at a;have n:=a e (by simp);have o:=a f (by simp);have p:=a g (by simp);have q:=a i (by simp);have v:=a j (by simp);have w:=a k (by simp);refine ih _ (fun s d=>b s (by simp[d])) ?_ ?_
   · simp only[he];omega
   · simp only[he,lr,List.sum_nil];omega
 exact c l (-1) b (by omega) (by omega)
def Be(x0 x1 x2 x3 x4 x5:Int):Nat->Int
 | 0=>0
 | 1=>x0
 | 2=>x0+x1
 | 3=>x0+x1+x2
 | 4=>x0+x1+x2+x3
 | 5=>x0+x1+x2+x3+x4
 | _=>x0+x1+x2+x3+x4+x5
theorem FG{l:List Pl.Tm}(W:Bn w a n c l)(P:Bp l):Calls prog 81 #[.slice a n c] w fun e w'=>e = .returned (.int .i64 (Bu l))/\Ext w w':=by
 obtain⟨Q,N,v,M⟩:=W;have R:=qh M;have L:=qh P;have x:=qh v;have Z:=N.le;clear M P v
 go_enter func81,ntmps81
 go_wp2
 go_loopw[3,11] (fun mv z wr=>∃ (k:Nat) (m:Int),mv = .int .i64 m/\z = .int .i64 k/\k<=n/\Ext w wr/\Hid (m=Bu (l.take k))) (fun _ z _=>n-(intOf z).toNat)
 case atStart=>exact⟨0,-1,rfl,rfl,gO _,Ext.refl w,qh rfl⟩
 case round =>
  obtain⟨k,m,rfl,rfl,hk,F,G⟩:=hrel;by_cases s:k<n
  · have y:=N.ext F;obtain⟨bb,a0,rfl,_⟩:=y.rd (by omega);obtain⟨sx,S,nx,U,T,mx,V,r,h6,_⟩:=R.out k s;have A:=qh (Sm (l:=l) (k:=k) (by rw[x.out];exact s));have p:=(L.out (l.getD k ([],0)) (by simp[x.out,s])).2;have Y : -1<=m/\m<=6597069766656:=by rw[G.out];exact FF (fun t ht=>L.out t (kU ht))
    generalize l.getD k ([],0)=t at *
    obtain⟨te,tq⟩:=t;obtain⟨b,d,f,g,i,o,B⟩:=Bt h6;simp only at B r A p;subst B;have b0:=p b (by simp);have b1:=p d (by simp);have b2:=p f (by simp);have b3:=p g (by simp);have b4:=p i (by simp);have b5:=p o (by simp);have O:=Arr.new wr 92 (As [0,0,0,0,0,0] false none 0 0 none 0 0)
    go_upto_region 5 with(first
     | (refine Bg rfl rfl At rfl y s ?_;rw[r])
     | (refine Aa (vs:=(As [b,d,f,g,i,o] sx S nx U T mx V)) rfl rfl rfl rfl rfl At O rfl AI ?_;intro w3 q D))
    have C:Ext wr w3:=((Ext.refl wr).alloc _).grownR D (lrf _);have I:=F.trans C;clear O D F C r h6 y p;generalize wr.heap.size=X at *
    have c0:=q.c 0 rfl;have c1:=q.c 1 rfl;have c2:=q.c 2 rfl;have c3:=q.c 3 rfl;have c4:=q.c 4 rfl;have c5:=q.c 5 rfl;clear q;go_wp2
    go_loop[6,17] (fun sv z=>∃ j:Nat,sv = .int .i64 (Be b d f g i o j)/\z = .int .i64 j/\j<=6) (fun _ z=>6-(intOf z).toNat)
    case atStart=>exact⟨0,rfl,rfl,by omega⟩
    case round =>
     obtain⟨j,rfl,rfl,hj⟩:=hrel;have J:j=0\/j=1\/j=2\/j=3\/j=4\/j=5\/j=6:=by omega
     rcases J with rfl|rfl|rfl|rfl|rfl|rfl|rfl
     · have E:IntKind.i64.wrap (Be b d f g i o 0+b)=Be b d f g i o 1:=by
        have e:Be b d f g i o 1=Be b d f g i o 0+b:=by simp[Be]
        rw[e];exact gI _ (by simp only[Be];omega)
       go_wp2_with(refine DA rfl rfl A1 (k:=0) rfl rfl (by omega) rfl ?_)
       go_round
       case rel=>exact⟨1,rfl,by go_num,by omega⟩
       case measure=>simp[intOf]
     · have E:IntKind.i64.wrap (Be b d f g i o 1+d)=Be b d f g i o 2:=by
        have e:Be b d f g i o 2=Be b d f g i o 1+d:=by simp[Be]
        rw[e];exact gI _ (by simp only[Be];omega)
       go_wp2_with(refine DA rfl rfl A1 (k:=1) rfl rfl (by omega) rfl ?_)
       go_round
       case rel=>exact⟨2,rfl,by go_num,by omega⟩
       case measure=>simp[intOf]
     · have E:IntKind.i64.wrap (Be b d f g i o 2+f)=Be b d f g i o 3:=by
        have e:Be b d f g i o 3=Be b d f g i o 2+f:=by simp[Be]
        rw[e];exact gI _ (by simp only[Be];omega)
       go_wp2_with(refine DA rfl rfl A1 (k:=2) rfl rfl (by omega) rfl ?_)
       go_round
       case rel=>exact⟨3,rfl,by go_num,by omega⟩
       case measure=>simp[intOf]
     · have E:IntKind.i64.wrap (Be b d f g i o 3+g)=Be b d f g i o 4:=by
        have e:Be b d f g i o 4=Be b d f g i o 3+g:=by simp[Be]
        rw[e];exact gI _ (by simp only[Be];omega)
       go_wp2_with(refine DA rfl rfl A1 (k:=3) rfl rfl (by omega) rfl ?_)
       go_round
       case rel=>exact⟨4,rfl,by go_num,by omega⟩
       case measure=>simp[intOf]
     · have E:IntKind.i64.wrap (Be b d f g i o 4+i)=Be b d f g i o 5:=by
        have e:Be b d f g i o 5=Be b d f g i o 4+i:=by simp[Be]
        rw[e];exact gI _ (by simp only[Be];omega)
       go_wp2_with(refine DA rfl rfl A1 (k:=4) rfl rfl (by omega) rfl ?_)
       go_round
       case rel=>exact⟨5,rfl,by go_num,by omega⟩
       case measure=>simp[intOf]
     · have E:IntKind.i64.wrap (Be b d f g i o 5+o)=Be b d f g i o 6:=by
        have e:Be b d f g i o 6=Be b d f g i o 5+o:=by simp[Be]
        rw[e];exact gI _ (by simp only[Be];omega)
       go_wp2_with(refine DA rfl rfl A1 (k:=5) rfl rfl (by omega) rfl ?_)
       go_round
       case rel=>exact⟨6,rfl,by go_num,by omega⟩
       case measure=>simp[intOf]
     · have H:Hid (Be b d f g i o 6=[b,d,f,g,i,o].sum):=qh (by simp[Be];omega);go_wp2;go_roundw
       case rel=>exact⟨k+1,_,rfl,by go_num,by omega,I,qh (by rw[A.out,<-G.out,<-H.out])⟩
       case measure=>simp[intOf];omega
  · have K:k=n:=by omega
    subst K;go_wp2;go_ret;exact⟨DF (by rw[G.out,gG (by rw[x.out];exact lrf _)]),F⟩
open Classical in
noncomputable def rdP (vars:Int) (ts:List Tx):Option (List Pl.Tm):=if ts.length<=4096/\∀ t r,ts=t :: r->A3 t.2=true then rdWF vars ts else none
theorem Db{ts:List Tx}(Y:AM w)(h:AH w a n c ts)(S:∀ t∈ts,t.1.length<=570) :
 Calls prog 84 #[.agg #[.int .i64 vars,.slice a n c]] w (X4 w (rdP vars ts)):=by
 have g:=h.len;have d:=fun(J:World) (O:Ext w J) (Z:n<=4096)=>qh (IG (vars:=vars) (Y.ext O) (h.ext O) S Z);have A:¬ n<=4096->rdP vars ts=none:=fun h=>by unfold rdP;exact gT (fun h'=>h (by omega))
 obtain⟨V,P,_,F⟩:=h;have a0:=P.le
 go_enter func84,ntmps84
 go_upto_region 1 with(fail)
 refine AP ?_;intro w0 x v H;have p0:=v.c 0 rfl;have U:=v.c 1 rfl;clear v H S;by_cases Q:4096<n
 · have m:=qh (A (by omega));go_wp2
   go_ret2
   rw[m.out];exact⟨none,0,0,rfl,x,Bn.nil _⟩
 · have d:=d w0 x (by omega);clear A
   go_wp2_with fail
   refine d.out.mono ?_;rintro e I ⟨L,T,N,rfl,z,k⟩;have U:=z.cell U;have i:=x.trans z;cases b:rdWF vars ts with
   | none =>
    have m:Hid (rdP vars ts=none):=qh (by unfold rdP;rw[b];split <;> rfl);rw[b]at k;clear d b;go_wp2
    go_ret2
    rw[m.out];exact⟨none,0,0,rfl,i,Bn.nil _⟩
   | some l =>
    rw[b]at k;simp only[gP,jr]at k |-;rcases gX n with h0|h0
    · have m:Hid (rdP vars ts=some l):=qh (by
       unfold rdP
       rw[b,gY ⟨by omega,fun t r e=>by rw[e]at g;simp at g;omega⟩])
      have E:¬ ((0:Int)<(n:Int)):=by omega
      clear d b;go_wp2
      go_ret2
      rw[m.out];exact⟨L,T,N,rfl,i,k⟩
    · have E:(0:Int)<(n:Int):=by omega
      obtain⟨M,B,rfl,C⟩:=(P.ext i).rd h0;obtain⟨s,W,nx,X,q,_,G⟩:=F 0 h0;have o:=C 0 h0 1 (by omega);rw[q]at o;have R:I.cell? ⟨M,B+1,none⟩=some (.slice W nx X):=o;have f:=C 0 h0 0 (by omega);rw[q]at f;have D:I.cell? ⟨M,B,none⟩=some (.string s):=by simpa using f
      have p:=fun(J:World) (F:Ext I J)=>qh (E6 ((G.ext i).ext F));have K:Hid (∀ t r,ts=t :: r->t.2=(ts.getD 0 tm0).2):=qh (fun t r e=>by rw[e];rfl);generalize (ts.getD 0 tm0).2=xs at *
      cases j:A3 xs with
      | true =>
       have m:Hid (rdP vars ts=some l):=qh (by
        unfold rdP
        rw[b,gY ⟨by omega,fun t r e=>by rw[K.out t r e];exact j⟩])
       rw[j]at p;clear d b j C o f
       go_wp2_with fail
       refine(p _ (Ext.refl _)).out.mono ?_;rintro e w2 ⟨rfl,rfl⟩;go_wp2
       go_ret2
       rw[m.out];exact⟨L,T,N,rfl,i,k⟩
      | false =>
       have m:Hid (rdP vars ts=none):=qh (by
        unfold rdP;rw[gT];rintro⟨_,h2⟩;cases y:ts with
        | nil=>rw[y]at g;simp at g;omega
        | cons t r =>
         have h3:=h2 t r y;rw[K.out t r y,j]at h3
         cases h3)
       rw[j]at p;clear d b j C o f
       go_wp2_with fail
       refine(p _ (Ext.refl _)).out.mono ?_;rintro e w2 ⟨rfl,rfl⟩;go_wp2
       go_ret2
       rw[m.out];exact⟨none,0,0,rfl,i,Bn.nil _⟩
theorem D7{ts:List Tx}(l:AM w)(h:AH w a n c ts)(m:∀ t∈ts,t.1.length<=570) :
 Calls prog 27 #[.agg #[.int .i64 vars,.slice a n c]] w fun e p=>e = .returned (.bool (rdP vars ts).isSome)/\Ext w p:=by
 have f:=fun(q:World) (j:Ext w q)=>qh (Db (vars:=vars) (l.ext j) (h.ext j) m);obtain⟨o,k⟩:∃ o,rdP vars ts=o:=⟨_,rfl⟩;rw[k]at f |-;clear k
 go_enter func27,ntmps27
 go_upto_region 1 with(fail)
 refine AP ?_;intro z d b i;have x:=b.c 0 rfl;have y:=b.c 1 rfl;clear b i
 go_wp2_with fail
 refine(f _ d).out.mono ?_;rintro e A ⟨r,v,s,rfl,g,_⟩;go_wp2;go_ret;exact⟨rfl,d.trans g⟩
structure Dc where
 p:Nat
 qa:Option Nat
 qb:Option Nat
 z:Int
def Dc.has(f:Dc)(b:Nat):Prop:=b=f.p\/f.qa=some b\/f.qb=some b
def PR(p:Nat):Value := .pointer (some ⟨p,0,none⟩)
abbrev SF:=List (List Int×Dc)
def EB(fs:SF):List (List Int×Value):=fs.map (fun f=>(f.1,PR f.2.p))
def lzF(fs:SF):List (List Int×Int):=fs.map (fun f=>(f.1,f.2.z))
def lqF(fs:SF):List Pl.Tm:=(lzF fs).map (fun f=>(f.1,(f.2:Rat)))
theorem FH:prog.underlying 250=some (.map 90 251):=by kernel_rfl
theorem Oj(w:World):(zeroValue 251).run prog w = .ok (.pointer none) w:=Tryz.zeroValue251 w
theorem Ij(fs:SF):(EB fs).map (·.1)=fs.map (·.1):=by simp[EB]
theorem Ok(fs:SF):(lqF fs).map (·.1)=fs.map (·.1):=by simp[lqF,lzF]
theorem PS{N:Nat}{z:Int}(h:Ct w base p qa qb N z):∀ b,(b=p\/qa=some b\/qb=some b)->∃ i t j,w.heap[b]?=some (.cells i t j):=by
 obtain⟨o,r,q,k,m,l,s,n,h1,h2,h3,h4,h5,_⟩:=h;intro b a;rcases a with rfl|a|a
 · exact⟨_,_,_,h1⟩
 · rcases h4.2 with⟨c,_⟩|⟨g,d,e,c,_,f,_⟩
   · simp only[gW]at c;rw[<-h2,c.1]at a;simp[blk]at a
   · simp only[gW]at c;rw[<-h2,c.1]at a;have:g=b:=by simpa[blk]using a
     subst this;exact⟨_,_,_,f⟩
 · rcases h5.2 with⟨c,_⟩|⟨g,d,e,c,_,f,_⟩
   · simp only[gW]at c;rw[<-h3,c.1]at a;simp[blk]at a
   · simp only[gW]at c;rw[<-h3,c.1]at a;have:g=b:=by simpa[blk]using a
     subst this;exact⟨_,_,_,f⟩
structure BP(w2:World)(r Nb:Nat)(fs:SF)(wr:World):Prop where
 ext:Ext w2 wr
 rge:w2.heap.size<=r
 map:Br wr r (EB fs)
 sums:∀ f∈fs,Ct wr w2.heap.size f.2.p f.2.qa f.2.qb Nb f.2.z
 dist:∀ (i j:Nat) f g,i≠j->fs[i]?=some f->fs[j]?=some g->∀ b,f.2.has b->¬ g.2.has b
section
variable {w2 wr w':World} {r Nb:Nat} {fs:SF}
theorem BP.step(h:BP w2 r Nb fs wr)(e:Ext wr w'):BP w2 r Nb fs w':=⟨h.ext.trans e,h.rge,h.map.ext e,fun f a=>(h.sums f a).ext e,h.dist⟩
theorem BP.lt(h:BP w2 r Nb fs wr){f:List Int×Dc}(d:f∈fs){b:Nat}(a:f.2.has b):w2.heap.size<=b/\b<wr.heap.size:=by
 have c:=(h.sums f d).lt;rcases a with rfl|a|a
 · exact c.1
 · exact c.2.1 b a
 · exact c.2.2 b a
theorem BP.ne(h:BP w2 r Nb fs wr){f:List Int×Dc}(c:f∈fs){b:Nat}(a:f.2.has b):b≠r:=by
 rintro rfl;obtain⟨d,t,g,e⟩:=PS (h.sums f c) b a;rw[h.map.obj]at e;cases e
theorem BP.nodup(h:BP w2 r Nb fs wr):(fs.map (·.1)).Nodup:=by rw[<-Ij];exact h.map.nodup
theorem BP.le{a:Nat}(h:BP w2 r Nb fs wr)(b:Nb<=a):BP w2 r a fs wr:=⟨h.ext,h.rge,h.map,fun f c=>(h.sums f c).le b,h.dist⟩
theorem BP.new(h:BP w2 r Nb fs wr){key:List Int}{p:Nat}{t n:World}(z:key ∉ fs.map (·.1))(v:Ext wr t)(y:Arr t p 224 (Hs none 0 0 none 0 0))(hp:wr.heap.size<=p)
 (w:Br n r (NL (EB fs) key (PR p))) (l:t.grownBy n (some r)):BP w2 r Nb (fs ++ [(key,⟨p,none,none,0⟩)]) n:=by
 have m:NL (EB fs) key (PR p)=EB (fs ++ [(key,⟨p,none,none,0⟩)]):=by
  have A:CR key 0 (EB fs)=none:=Gs.2 (by rw[Ij];exact z);unfold NL;rw[A];simp[EB]
 rw[m]at w;have s:p≠r:=by have:=h.map.lt;omega
 have hA4:Arr n p 224 (Hs none 0 0 none 0 0):=y.kept l (by simpa using s);have B:=h.ext.size;refine⟨(h.ext.trans v).grownR l h.rge,h.rge,w,fun f k => ?_,fun i j f g o d x b e => ?_⟩
 · rcases iw.1 k with k|k
   · have h3:=(h.sums f k).ext v;refine h3.kp (Kp.ofGrown l (S:=fun b=>b=r) (fun g l=>by simpa using l.symm)) ?_ ?_ ?_
     · exact h.ne k (Or.inl rfl)
     · exact fun g l=>h.ne k (Or.inr (Or.inl l))
     · exact fun g l=>h.ne k (Or.inr (Or.inr l))
   · simp only[gL]at k;subst k;exact(Ct.new hA4 (by omega)).le (gO _)
 · have c:∀ (i:Nat) (f:List Int×Dc),(fs ++ [(key,(⟨p,none,none,0⟩:Dc))])[i]?=some f->(i<fs.length/\fs[i]?=some f)\/(i=fs.length/\f=(key,⟨p,none,none,0⟩)):=by
    intro i f d;rcases iH i fs.length with h1|h1
    · rw[gZ h1]at d;exact Or.inl ⟨h1,d⟩
    · rw[iu h1]at d;right;rcases gX (i-fs.length)with h2|h2
      · rw[h2]at d;simp at d;exact⟨by omega,d.symm⟩
      · rw[ig (by simp;omega)]at d;cases d
   rcases c i f d with⟨h1,h2⟩|⟨h1,rfl⟩
   · rcases c j g x with⟨h3,h4⟩|⟨h3,rfl⟩
     · exact h.dist i j f g o h2 h4 b e
     · intro a;have q:=(h.lt (im h2) e).2;rcases a with a|a|a
       · simp only at a;omega
       · cases a
       · cases a
   · rcases c j g x with⟨h3,h4⟩|⟨h3,_⟩
     · intro a;have q:=(h.lt (im h4) a).2;rcases e with e|e|e
       · simp only at e;omega
       · cases e
       · cases e
     · omega
theorem MV{f:Dc}(a:qa'=f.qa\/∃ g,qa'=some g/\H<=g)(c:qb'=f.qb\/∃ g,qb'=some g/\H<=g){b:Nat}(h:(⟨f.p,qa',qb',z'⟩:Dc).has b):f.has b\/H<=b:=by
 rcases h with h|h|h
 · exact Or.inl (Or.inl h)
 · rcases a with e|⟨g,e,d⟩
   · rw[show(⟨f.p,qa',qb',z'⟩:Dc).qa=qa' from rfl,e]at h;exact Or.inl (Or.inr (Or.inl h))
   · rw[show(⟨f.p,qa',qb',z'⟩:Dc).qa=qa' from rfl,e]at h;right;have:g=b:=by simpa using h
     omega
 · rcases c with e|⟨g,e,d⟩
   · rw[show(⟨f.p,qa',qb',z'⟩:Dc).qb=qb' from rfl,e]at h;exact Or.inl (Or.inr (Or.inr h))
   · rw[show(⟨f.p,qa',qb',z'⟩:Dc).qb=qb' from rfl,e]at h;right;have:g=b:=by simpa using h
     omega
theorem BP.add(h:BP w2 r Nb fs wr){i:Nat}{key:List Int}{f:Dc}{a c:Option Nat}{o:Nat}{z:Int}(hi:fs[i]?=some (key,f))(I:Ct w' w2.heap.size f.p a c o z)(C:Kp (fun b=>f.has b) wr w')
 (G:a=f.qa\/∃ g,a=some g/\wr.heap.size<=g) (n:c=f.qb\/∃ g,c=some g/\wr.heap.size<=g) (H:Nb<=o):BP w2 r o (fs.set i (key,⟨f.p,a,c,z⟩)) w':=by
 have v:=im hi;have x:i<fs.length:=(iZ.1 hi).1;have y:EB (fs.set i (key,⟨f.p,a,c,z⟩))=EB fs:=by
  unfold EB;rw[mw];apply lG;intro t;rw[mc];by_cases j:i=t
  · subst j;simp[x];have e:fs[i]=(key,f):=(iZ.1 hi).2;rw[e];exact⟨rfl,rfl⟩
  · simp[j]
 have d:∀ (t:Nat) (g:List Int×Dc),(fs.set i (key,(⟨f.p,a,c,z⟩:Dc)))[t]?=some g->(t=i/\g=(key,⟨f.p,a,c,z⟩))\/(t≠i/\fs[t]?=some g):=by
  intro t g q;rw[mc]at q;by_cases j:i=t
  · subst j;simp[x]at q;exact Or.inl ⟨rfl,q.symm⟩
  · rw[gT j]at q;exact Or.inr ⟨fun e=>j e.symm,q⟩
 refine⟨C.ext h.ext (fun b n=>(h.lt v n).1),h.rge,?_,fun g q => ?_,fun s t B A m K j b k => ?_⟩
 · rw[y];exact h.map.of_block (C.block r h.map.lt (fun J=>h.ne v J rfl))
 · obtain⟨t,j⟩:=og.1 q;rcases d t g j with⟨_,rfl⟩|⟨E,w⟩
   · exact I
   · have D:=h.dist t i g (key,f) E w hi;refine((h.sums g (im w)).kp C ?_ ?_ ?_).le H
     · exact D _ (Or.inl rfl)
     · exact fun b n=>D b (Or.inr (Or.inl n))
     · exact fun b n=>D b (Or.inr (Or.inr n))
 · rcases d s B K with⟨rfl,rfl⟩|⟨L,h1⟩
   · rcases d t A j with⟨rfl,_⟩|⟨F,h2⟩
     · exact absurd rfl m
     · intro l;rcases MV G n k with h3|h3
       · exact h.dist s t (key,f) A m hi h2 b h3 l
       · have:=(h.lt (im h2) l).2;omega
   · rcases d t A j with⟨rfl,rfl⟩|⟨F,h2⟩
     · intro l;rcases MV G n l with h3|h3
       · exact h.dist t s (key,f) B (fun e=>m e.symm) hi h1 b h3 k
       · have:=(h.lt (im h1) k).2;omega
     · exact h.dist s t B A m h1 h2 b k
end
theorem J5{a b:Type}(g:a->b)(k:List Int):∀ (l:List (List Int×a)) (i:Nat),Pl.posK k i (l.map (fun f=>(f.1,g f.2)))=(Pl.posK k i l).map (fun p=>(p.1,g p.2))
 | [],_=>rfl
 | (k',v) :: r,i=>by
  simp only[ja,Pl.posK];by_cases h:k=k'
  · simp[h]
  · simp only[gT h];exact J5 g k r (i+1)
theorem J6{a:Type}(k:List Int):∀ (l:List (List Int×a)) (j i:Nat) (v:a),Pl.posK k j l=some (i,v)->j<=i/\l[i-j]?=some (k,v)
 | [],_,_,_,h=>by simp[Pl.posK]at h
 | (k',x) :: r,j,i,v,h=>by
  unfold Pl.posK at h;by_cases hk:k=k'
  · rw[gY hk]at h;simp only[gK,kX]at h;obtain⟨rfl,rfl⟩:=h;subst hk;simp
  · rw[gT hk]at h;obtain⟨h1,h2⟩:=J6 k r (j+1) i v h;refine⟨by omega,?_⟩;rw[show i-j=(i-(j+1))+1 by omega];simpa using h2
theorem L3{a:Type}{k:List Int}:∀ {l:List (List Int×a)} {i:Nat},Pl.posK k i l=none->k ∉ l.map (·.1)
 | [],_,_=>by simp
 | (k',v) :: r,i,h=>by
  unfold Pl.posK at h;by_cases hk:k=k'
  · rw[gY hk]at h;cases h
  · rw[gT hk]at h;have:=L3 h;simp[hk];simpa using this
theorem Ol{a:Type}{k:List Int}{v:a}:∀ {l:List (List Int×a)} {i:Nat},Pl.posK k i l=none->Pl.posK k i (l ++ [(k,v)])=some (i+l.length,v)
 | [],i,_=>by simp[Pl.posK]
 | (k',x) :: r,i,h=>by
  unfold Pl.posK at h;by_cases hk:k=k'
  · rw[gY hk]at h;cases h
  · rw[gT hk]at h;rw[jT,Pl.posK,gT hk,Ol h];simp;omega
theorem Vy(fs:SF)(k:List Int):Pl.posK k 0 (lqF fs)=(Pl.posK k 0 fs).map (fun p=>(p.1,(p.2.z:Rat))):=by
 unfold lqF lzF;rw[jO];exact J5 (fun f:Dc=>(f.z:Rat)) k fs 0
theorem Sn{fs:SF}:Fu (.pointer none) (EB fs) k=match Pl.posK k 0 fs with | some p=>PR p.2.p | none => .pointer none:=by
 rw[Ig];unfold Pl.getK EB;rw[J5 (fun f:Dc=>PR f.p) k fs 0];cases Pl.posK k 0 fs <;> rfl
theorem Om{fs:SF}{f:Dc}{x:Int}(a:(fs.map (·.1)).Nodup)(hp:Pl.posK key 0 fs=some (i,f))(e:List Int) :
 Pl.coef (lqF (fs.set i (key,⟨f.p,qa',qb',f.z+x⟩))) e=Pl.coef (lqF fs) e+Pl.coef [(key,(x:Rat))] e:=by
 have h1:Pl.posK key 0 (lqF fs)=some (i,(f.z:Rat)):=by rw[Vy,hp];rfl
 have h2:lqF (fs.set i (key,⟨f.p,qa',qb',f.z+x⟩))=Pl.putK (lqF fs) key (Pl.getK 0 (lqF fs) key+(x:Rat)):=by
  have h3:Pl.getK 0 (lqF fs) key=(f.z:Rat):=by unfold Pl.getK;rw[h1];rfl
  rw[h3];unfold Pl.putK;rw[h1];unfold lqF lzF;rw[mw,mw,mZ]
 rw[h2,Pl.coef_step (by rw[Ok];exact a)]
theorem Vz(fs:SF)(key:List Int)(p:Nat)(e:List Int):Pl.coef (lqF (fs ++ [(key,⟨p,none,none,0⟩)])) e=Pl.coef (lqF fs) e:=by
 unfold lqF lzF;rw[iJ,iJ,Pl.coef_app];have:Pl.coef (List.map (fun f:List Int×Int=>(f.1,(f.2:Rat))) (List.map (fun f:List Int×Dc=>(f.1,f.2.z)) [(key,⟨p,none,none,0⟩)])) e=0:=by
  simp only[ja,jE,Pl.coef];split <;> grind
 rw[this]
 grind
def Gw(H0:Nat)(w4 wr:World):Prop:=w4.heap.size<=wr.heap.size/\∀ b,H0<=b->b<w4.heap.size->wr.heap[b]?=w4.heap[b]?
theorem Gw.refl(a:Nat)(w:World):Gw a w w:=⟨lrf _,fun _ _ _=>rfl⟩
theorem Gw.ext(h:Gw H0 w4 wr)(e:Ext wr w'):Gw H0 w4 w':=⟨gJ h.1 e.size,fun b h1 h2=>(e.block (ib h2 h.1)).trans (h.2 b h1 h2)⟩
theorem Gw.kp{S:Nat->Prop}(h:Gw H0 w4 wr)(e:Kp S wr w')(a:∀ b,S b->b<H0\/w4.heap.size<=b):Gw H0 w4 w' :=
 ⟨gJ h.1 e.size,fun b h1 h2=>(e.block b (ib h2 h.1) (fun x=>by have:=a b x;omega)).trans (h.2 b h1 h2)⟩
theorem Gw.arr(h:Gw H0 w4 wr)(a:Arr w4 g t cs)(b:H0<=g):Arr wr g t cs:=(h.2 g b a.lt).trans a
theorem Gw.wd{x:Nat}(h:Gw H0 w4 wr)(m:Wd w4 a n c x)(h4:Ext w2 w4)(k:Ext w2 wr)(l:0<n->∀ g,blk a=some g->H0<=g\/g<w2.heap.size):Wd wr a n c x:=by
 obtain⟨p,h1,h2⟩:=m;refine⟨p,?_,h2⟩;refine⟨Sl.len h1,Sl.cap h1,Sl.max h1,fun h0 => ?_⟩;obtain⟨b,o,rfl,f⟩:=Sl.rd h1 h0;refine⟨b,o,rfl,fun i j => ?_⟩;have h5:=f i j;have e:b<w4.heap.size:=jq w4 ⟨b,o+i,none⟩ h5;have d:wr.heap[b]?=w4.heap[b]?:=by
  rcases l h0 b rfl with h6|h6
  · exact h.2 b h6 e
  · rw[k.block h6,h4.block h6]
 rw[kJ (w:=w4) d,h5]
def Gap(H0 H1:Nat)(fs:SF):Prop:=∀ f∈fs,∀ b,f.2.has b->b<H0\/H1<=b
theorem Gap.add{fs:SF}(h:Gap H0 H1 fs){i:Nat}{key:List Int}{f:Dc}{a c:Option Nat}{l:Int}(hi:fs[i]?=some (key,f))(m:H1<=H)
 (j:a=f.qa\/∃ g,a=some g/\H<=g) (k:c=f.qb\/∃ g,c=some g/\H<=g):Gap H0 H1 (fs.set i (key,⟨f.p,a,c,l⟩)):=by
 intro g e b d;rcases j7 e with e|rfl
 · exact h g e b d
 · rcases MV j k d with h3|h3
   · exact h _ (im hi) b h3
   · right;omega
theorem Gap.new{fs:SF}(h:Gap H0 H1 fs){key:List Int}{p:Nat}(hp:H1<=p):Gap H0 H1 (fs ++ [(key,⟨p,none,none,0⟩)]):=by
 intro g c b a;rcases iw.1 c with c|c
 · exact h g c b a
 · simp only[gL]at c;subst c;rcases a with a|a|a
   · right;simp only at a;omega
   · cases a
   · cases a
def GW(w:World)(row:List Value)(z:Int):Prop:=∃ s a n c,row=Ac s a n c/\Hid (decide (z<0)=s)/\Wd w a n c z.natAbs
theorem GW.ext{w b:World}{row:List Value}{z:Int}(h:GW w row z)(e:Ext w b):GW b row z:=by
 obtain⟨s,a,n,c,h1,h2,h3⟩:=h;exact⟨s,a,n,c,h1,h2,h3.ext e⟩
theorem GW.keptU{w b:World}{row:List Value}{z:Int}{g:Nat}(h:GW w row z)(d:NoU w g)(e:w.grownBy b (some g)):GW b row z:=by
 obtain⟨s,a,n,c,h1,h2,h3⟩:=h;exact⟨s,a,n,c,h1,h2,h3.keptU d e⟩
theorem J7:BV prog 83 (Ac false none 0 0) 2 32:=⟨by kernel_rfl,rfl,by omega⟩
theorem TG(w:World)(base:Nat)(e:TypeId)(row:List Value)(k:Nat)(b:base<=w.heap.size)(a:row.length=k):AR (w.alloc (.cells row.toArray e)) base e k (some ⟨w.heap.size,0,none⟩) 1 1 [row]:=by
 refine⟨by simpa using a,?_⟩;have:=oF (base:=base) (e:=e) (size:=k) w row.toArray 1 b (by unfold maxLen;omega) (by simpa using a);simpa using this
theorem On{e:List Int}{d:Nat}(h1:Ext w w1)(h6:e.length=6)(k:CJ w1 (Al s a n c false b m d) q):C1 (w1.alloc (.cells (As e s a n c b m d).toArray 92)) w.heap.size (some ⟨w1.heap.size,0,none⟩) 1 1 [(e,q)]:=by
 have f:=(Ext.refl w1).alloc (.cells (As e s a n c b m d).toArray 92);refine⟨[As e s a n c b m d],TG w1 _ _ _ 10 h1.size (by rw[BC,h6]),fun g j => ?_,rfl,fun i l => ?_⟩
 · have:w1.heap.size=g:=by simpa[blk]using j
   subst this;exact(Arr.new w1 _ _).noU AV
 · have:i=0:=by omega
   subst this;exact⟨s,a,n,c,b,m,d,rfl,h6,k.ext f⟩
def NEn(e:List Int)(q:Rat)(v:Value)(w:World):Prop:=∃ s a n c b m d,v = .agg (As e s a n c b m d).toArray/\CJ w (Al s a n c false b m d) q
theorem NEn.x(e:List Int)(q:Rat):StX (NEn e q):=fun _ _ _ x ⟨s,a,n,c,b,m,d,h1,h2⟩=>⟨s,a,n,c,b,m,d,h1,h2.ext x⟩
end Go.Proofs.YtlbmnokpiilfpaaGreatDoor
