/- Part Gs13. -/
import Derived.Test.YthdbingomfdeoaaGreatDoorGs12

set_option linter.all false
set_option maxRecDepth 100000
set_option maxHeartbeats 100000000
namespace Go.Proofs.YthdbingomfdeoaaGreatDoor
open Tryz Go Go.RowKit
variable {s s':ByteArray} {n' v z:Int} {gs ps:List (List Int)} {A B:List Int} {l:List UInt8} {cs:List Value} {D Y b c cg d g m n ng y:Nat} {ag:Option Addr} {P:Program} {p q x:Rat} {T ty ty':TypeId} {v':Value} {w w' wb:World}
def Gd(n:Nat)(gs ps:List (List Int)):Prop:=ps.Nodup/\(∀ p,p∈ps<->Bq gs n p)/\Dt ps 0 ps.length
theorem Gd.eq(h:Gd n gs ps):ps=Classical.epsilon (Gd n gs):=by
 have h2:=j6 (p:=Gd n gs) ⟨ps,h⟩;exact EO h.1 h2.1 (fun x=>by rw[h.2.1,h2.2.1]) h.2.2 h2.2.2
noncomputable def genS (n:Int) (gs:List (List Int)):List (List Int)×Int :=
 if n<0\/6<n then([],3)
 else if 16<gs.length then([],2)
 else if gs.all Af=true then
  if gs.all (fun m=>decide ((m.length:Int)=n))=true then(Classical.epsilon (Gd n.toNat gs),0)else([],4)
 else([],1)
theorem Ke{n:Int}(F:SlL w ag ng cg gs) :
 Calls prog 13 #[.int .i64 n,.slice ag ng cg] w (IY w (genS n gs).1 (genS n gs).2):=by
 have D:=f8 F.len;by_cases G:n<0
 · have l:Hid (genS n gs=([],3)):=by
    show _=_;unfold genS;rw[fG (Or.inl G)]
   go_enter func13,ntmps13
   go_wp2
   go_ret2
   exact IY.none (Ext.refl w) (by rw[l.out])
 · by_cases I:6<n
   · have l:Hid (genS n gs=([],3)):=by
      show _=_;unfold genS;rw[fG (Or.inr I)]
     go_enter func13,ntmps13
     go_wp2
     go_ret2
     exact IY.none (Ext.refl w) (by rw[l.out])
   · by_cases h16:(16:Int)<ng
     · have l:Hid (genS n gs=([],2)):=by
        show _=_;unfold genS;rw[fl (by omega),fG (by rw[D.out];omega)]
       go_enter func13,ntmps13
       go_wp2
       go_ret2
       exact IY.none (Ext.refl w) (by rw[l.out])
     · obtain⟨a,X,c⟩:∃ a:Nat,n=(a:Int)/\a<=6:=⟨n.toNat,by omega,by omega⟩;subst X;have t:Hid (genS a gs=if gs.all Af=true then if gs.all (fun m=>decide ((m.length:Int)=a))=true then(Classical.epsilon (Gd a gs),0)else([],4)else([],1)):=by
        show _=_;unfold genS;rw[fl (by omega),fl (by rw[D.out];omega)];rfl
       clear G I
       go_enter func13,ntmps13
       go_wp2
       go_loopw[21] (fun i wr=>∃ k:Nat,k<=ng/\i = .int .i64 k/\Ext w wr/\Hid ((gs.take k).all Af=true)) (fun i _=>ng-(intOf i).toNat)
       case atStart=>exact⟨0,fu _,rfl,Ext.refl _,f8 rfl⟩
       case round =>
        obtain⟨k,hk,rfl,E,A⟩:=hrel;have C:=F.ext E;by_cases j:k<ng
        · obtain⟨bg,og,P,y,R,rfl,W,f⟩:=C.at j;have s:k<gs.length:=by rw[D.out];exact j
          cases M:Af (gs.getD k [])with
          | false =>
           have l:Hid (genS a gs=([],1)):=by
            show _=_;rw[t.out,fl (by rw[O5 s M];simp)]
           go_wp2_with fail
           refine(AU f).mono ?_;rw[M];rintro e w1 ⟨rfl,o⟩;go_wp2
           go_ret2
           exact IY.none (E.trans o) (by rw[l.out])
          | true =>
           have B:=f8 (J0 s A.out M)
           go_wp2_with fail
           refine(AU f).mono ?_;rw[M];rintro e w1 ⟨rfl,o⟩;go_wp2;go_roundw
           case rel=>exact⟨k+1,by omega,by go_num,E.trans o,B⟩
           case measure=>simp[intOf];omega
        · have q:Hid (gs.all Af=true):=by
           have:=A.out;rw[f9 (by have:=D.out;omega)]at this;exact this
          obtain⟨wo,rfl⟩:∃ wo:World,wo=wr:=⟨_,rfl⟩;clear A;go_wp2
          go_loop[31] (fun i=>∃ k:Nat,k<=ng/\i = .int .i64 k/\Hid ((gs.take k).all (fun m=>decide ((m.length:Int)=a))=true)) (fun i=>ng-(intOf i).toNat)
          case atStart=>exact⟨0,fu _,rfl,f8 rfl⟩
          case round =>
           clear j;obtain⟨k,hk,rfl,A⟩:=hrel;by_cases j:k<ng
           · obtain⟨bg,og,P,y,R,rfl,W,f⟩:=C.at j;have s:k<gs.length:=by rw[D.out];exact j
             have HL:=f8 f.len;by_cases v:y=a
             · have Y:((y:Int) != (a:Int))=false:=by simp[v]
               have B:=f8 (J0 s A.out (by rw[HL.out];simp[v]));clear v f;go_wp2;go_round
               case rel=>exact⟨k+1,by omega,by go_num,B⟩
               case measure=>simp[intOf];omega
             · have Y:((y:Int) != (a:Int))=true:=by simp;omega
               have l:Hid (genS a gs=([],4)):=by
                show _=_;rw[t.out,fG q.out,fl];rw[O5 s (by rw[HL.out];simp;omega)];simp
               clear v f;go_wp2
               go_ret2
               exact IY.none E (by rw[l.out])
           · have z:Hid (gs.all (fun m=>decide ((m.length:Int)=a))=true):=by
              have:=A.out;rw[f9 (by have:=D.out;omega)]at this;exact this
             have l:Hid (genS a gs=(Classical.epsilon (Gd a gs),0)):=by
              show _=_;rw[t.out,fG q.out,fG z.out]
             have O:Hid (BL gs a):=by
              show BL gs a;intro g F;have h1:=q.out;have h2:=z.out;rw[iS]at h1 h2;have h3:=h2 g F;rw[gV]at h3;exact⟨h1 g F,by omega⟩
             clear A t
             go_wp2_with fail
             refine(Cd C c O.out).mono ?_;rintro e w1 ⟨r,L,rfl,o,hr,hM,J,d⟩;have a0:=CM c O.out J (fun p hp=>(d p).1 hp);have T:0<L.length:=gW ((d _).2 (CT gs a))
             go_wp2_with fail
             refine(Dg hM c (fun x hx=>(Bi c O.out ((d x).1 hx)).2) (by omega) T).mono ?_;rintro e w2 ⟨ps,⟨a2,n2,c2,Q,rfl,S,H,U,V⟩,b,K⟩;have N:=f8 H;clear H;go_wp2
             go_ret2
             have Z:Gd a gs ps:=⟨b.nodup_iff.2 J,fun p=>by rw[b.mem_iff,d],by rw[b.length_eq];exact K⟩;rw[l.out,<-Gd.eq Z];exact⟨a2,n2,c2,rfl,(E.trans o).trans S,MO N.out U V⟩
theorem Tp{q:List Int}(h:∀ x∈q,0<=x/\x<n):comp (idn n) q=q:=by
 unfold comp
 conv=>rhs;rw[<-List.map_id q]
 refine gZ fun x a => ?_;have:=h x a;rw[Fv (by omega)];simp;omega
theorem Tq:∀ n,n<5->(gen n (idn n)).Nodup/\(gen n (idn n)).length∣24/\∀ a∈gen n (idn n),Af a=true/\a.length=n:=by decide +kernel
theorem Qq{gs:List (List Int)}(h0:0<gs.length)(f:List Int->List Int->List Int):∀ (k:Nat) (S:List (List Int)),S.length<=k->S.Nodup->(∀ x∈S,(gs.map (f x)).Nodup)->(∀ x∈S,∀ g∈gs,f x g∈S)->(∀ x∈S,∀ y∈S,∀ g∈gs,f y g∈gs.map (f x)->y∈gs.map (f x))->gs.length∣S.length
 | _,[],_,_,_,_,_=>Nat.dvd_zero _
 | 0,_ :: _,h,_,_,_,_=>by simp at h
 | k+1,x :: r,hk,hn,h1,h2,h3=>by
  obtain⟨S,hS⟩:∃ S,x :: r=S:=⟨_,rfl⟩;have d:x∈S:=by rw[<-hS];simp
  rw[hS]at hk hn h1 h2 h3 |-;have i:(S.filter fun y=>decide (y∈gs.map (f x))).length=gs.length:=by
   have h:=Pl.perm_mem (hn.filter _) (h1 x d) (l:=S.filter fun y=>decide (y∈gs.map (f x))) fun y=>by
    rw[ig];constructor
    · rintro⟨_,h⟩;exact gX h
    · intro h;obtain⟨g,b,rfl⟩:=fy.1 h;exact⟨h2 x d g b,gn h⟩
   rw[h.length_eq,fq]
  have e:=List.length_eq_countP_add_countP (fun y=>decide (y∈gs.map (f x))) (l:=S);rw[List.countP_eq_length_filter,List.countP_eq_length_filter]at e;rw[e,i];refine Nat.dvd_add (Nat.dvd_refl _) (Qq h0 f k _ (by omega) (hn.filter _) (fun y a=>h1 y (ig.1 a).1) (fun y a g b => ?_) fun y a z j=>h3 y (ig.1 a).1 z (ig.1 j).1);have c:=ig.1 a;refine ig.2 ⟨h2 y c.1 g b,?_⟩;have h5:=gX c.2;refine gn fun h=>h5 ?_;have h6:=gX h;exact gn (h3 x d y c.1 g b h6)
theorem U6(G:GNs gs n)(h4:n<=4):gs.length∣24:=by
 obtain⟨B,C,i⟩:=Tq n (by omega);have t:=G.l;refine jz (Qq G.g.pos (fun y g=>comp y g) _ (gen n (idn n)) (lrf _) B (fun x c => ?_) (fun x c g j => ?_) fun x c y D g j h => ?_) C
 · rw[List.nodup_iff_pairwise_ne,iV];obtain⟨q,f⟩:=i x c;refine List.Pairwise.imp_of_mem ?_ (List.nodup_iff_pairwise_ne.1 G.g.sort.nodup);intro a b r s v e
   have d:∀ z∈gs,comp (BR x x.length) (comp x z)=z:=fun z k=>by
    obtain⟨pz,w⟩:=G.p z k;have k:=(Ap pz).2.1;rw[<-C0 (by rw[f,<-w];exact k),NL q,Tp (by rw[f,<-w];exact k)]
   exact v (by rw[<-d a r,<-d b s,e])
 · obtain⟨q,f⟩:=i x c;obtain⟨A,o⟩:=G.p g j;have h:=(Em (C3 q A (f.trans o.symm))).2;rw[Bl,o]at h;exact h
 · obtain⟨q,f⟩:=i x c;obtain⟨J,I⟩:=i y D;obtain⟨A,o⟩:=G.p g j;have m:(comp y g).length=(gs.getD 0 []).length:=by rw[Bl,o,t]
   obtain⟨a,r,e⟩:=fy.1 h;have E:B6 gs (comp y g) x:=(B6.iff G.g m (by omega)).2 ⟨a,r,e.symm⟩;have F:B6 gs (comp y g) y:=(B6.iff G.g m (by omega)).2 ⟨g,j,rfl⟩;have H:=B6.trans G.g (by omega) m (by omega) (B6.symm G.g m (by omega) F) E;obtain⟨b,s,e⟩:=(B6.iff G.g (by omega) (by omega)).1 H;exact fy.2 ⟨b,s,e.symm⟩
open Classical in
theorem U8(h0:n<=4)(v:Af A=true)(w:Af B=true)(s:A.length=n)(t:B.length=n):∃ gs,genS (n:Int) [A,B]=(gs,0)/\GNs gs n/\gs.length∣24:=by
 have f:BL [A,B] n:=fun g m=>by
  simp only[fV,ib,kx]at m;rcases m with rfl|rfl
  · exact⟨v,s⟩
  · exact⟨w,t⟩
 obtain⟨z,_,_⟩:=Tq n (by omega);obtain⟨b,h1,h2⟩:=Tj ((gen n (idn n)).filter fun p=>decide (Bq [A,B] n p))
 have d:∀ p,p∈b<->Bq [A,B] n p:=fun p=>by
  rw[h1.mem_iff,ig,gV];refine⟨fun h=>h.2,fun h=>⟨?_,h⟩⟩;obtain⟨F,E⟩:=Bi (by omega) f h;have:=(Em F).2;rw[E]at this;exact this
 have q:b.Nodup:=(h1.nodup_iff).2 (z.filter _);have e:=Gd.eq (n:=n) (gs:=[A,B]) ⟨q,d,h2⟩;have c:BL b n:=fun p hp=>Bi (by omega) f ((d p).1 hp);have a:0<b.length:=gW ((d _).2 (CT _ _));have l:(b.getD 0 []).length=n:=(c _ (Bt a)).2;have C:isG b:=by
  refine⟨a,by rw[l];exact c,fun i j k o => ?_,?_⟩
  · have h3:=h2 i j (by omega) k o;rcases Int.lt_or_eq_of_le h3 with h|h
    · exact h
    · have h4:=Hr h;rw[gqq,gqq,eZ (by omega),eZ o,fW,fW]at h4;have:=(List.getElem_inj q).1 h4;omega
  · rw[l];rintro p ⟨y,r,rfl⟩;rw[d]
    induction y with
    | nil=>exact CT _ n
    | cons g y ih=>exact KC (by omega) f ((d g).1 (r g (by simp))) (ih fun x D=>r x (by simp[D]))
 have G:GNs b n:=⟨C,c,l,by omega⟩;refine⟨b,?_,G,U6 G h0⟩;unfold genS;rw[fl (by omega),fl (by simp),fG (by simp[v,w]),fG (by simp[s,t]),e];rfl
theorem Xp:∀ m,m<25->0<m->m∣5354228880:=by decide
theorem NW:5354228880<P2 33:=by unfold P2;decide
theorem Tr(h:Pl.QB D Y q)(h0:0<m)(h1:m<=24):Pl.QB (D*5354228880) (Y*5354228880) (q*(((m:Nat):Int):Rat)⁻¹):=by
 obtain⟨z,e,i⟩:=h;obtain⟨c,a⟩:=Xp m (by omega) h0;refine⟨z*(c:Int),?_,?_⟩
 · have b:(((m:Nat):Int):Rat)≠0:=fun h=>by
    have:=fM Rat.num h;simp at this;omega
   rw[a,kg,kg,kh,<-e];have d:((m:Nat):Rat)=(((m:Nat):Int):Rat):=rfl;have f:((c:Nat):Rat)=(((c:Nat):Int):Rat):=rfl;rw[d,f];obtain⟨M,g⟩:∃ M,(((m:Nat):Int):Rat)=M:=⟨_,rfl⟩;rw[g]at b |-;have h5:=Rat.inv_mul_cancel _ b;generalize (((c:Nat):Int):Rat)=C;generalize (D:Rat)=E
   calc q*M⁻¹*(E*(M*C))=q*E*C*(M⁻¹*M):=by grind
    _=q*E*C:=by rw[h5,kR]
 · rw[ia,gF,a];exact gL i (Nat.le_mul_of_pos_left _ h0)
theorem Mx{D Y:Nat}{c:List Int->Prop}[∀ e,Decidable (c e)]:∀ {l:List Pl.Tm},Pl.SB D Y l->Pl.QB D (l.length*Y) (Pl.lin (fun e=>if c e then 1 else 0) l)
 | [],_=>Pl.QB.zero _ _
 | t :: r,h=>by
  have h1:Pl.QB D Y (t.2*(if c t.1 then 1 else 0)):=by
   split
   · rw[kR];exact h t (by simp)
   · rw[Rat.mul_zero];exact Pl.QB.zero _ _
  have h2:=Pl.QB.add h1 (Mx (c:=c) (l:=r) (fun s a=>h s (by simp[a])));exact h2.mono (by rw[fP,ip];omega)
theorem Ts{p:List Pl.Tm}(h:Pl.SB D Y p)(d:0<D)(h1:D<P2 b)(h2:p.length*Y<P2 b)(j:b<=1920)(g:Lo p)(l:p.length<=4096):Lw p where
 pre:=fun a s e x=>by
  have i:Pl.SB D Y a:=fun t c=>h t (by rw[<-e];simp[c]);have f:a.length<=p.length:=by rw[<-e];simp
  exact((i.coef x).rb d h1 (fI (fa _ f) h2)).mono (by omega)
 each:=fun t c=>((h t c).rb d h1 (fI (by
  have:1<=p.length:=gW c;have:=fa Y this
  omega) h2)).mono (by omega)
 fits:=UV h d h1 h2 j (fun t c=>⟨(g t c).1,fun x k=>by have:=(g t c).2 x k;omega⟩) (by omega)
theorem Dm{p:List Pl.Tm}(h:∀ t∈p,InV n t.1){e:List Int}(he:¬ InV n e):Pl.coef p e=0 :=
 Pl.coef_absent fun t a h1=>he (by rw[<-h1];exact h t a)
section
variable {gs:List (List Int)} {n N d y:Nat} {l:List Pl.Tm}
theorem Gu(gs:List (List Int))(n:Nat)(l:List Pl.Tm):((sumK gs n l).map (·.1)).Nodup:=by
 have b:∀ (l a:List Pl.Tm),(a.map (·.1)).Nodup->((l.foldl (fun a t=>Pl.putK a (rk gs n t.1) (Pl.getK 0 a (rk gs n t.1)+t.2)) a).map (·.1)).Nodup:=by
  intro l
  induction l with
  | nil=>exact fun a h=>h
  | cons t r ih=>exact fun a h=>ih _ (Pl.putK_nodup _ _ _ h)
 exact b l [] (by simp)
theorem Hc(G:GNs gs n)(a:∀ t∈l,InV n t.1){x:List Int}(c:x.length=n):Pl.coef (avP gs n l) (Ab x)=Pl.lin (fun e=>if rk gs n e=Ab (Br gs x)then 1 else 0) l*(oN gs x)⁻¹:=by
 unfold avP;rw[Qm G c (fun p hp => ?_) (Gu gs n l),Hb];obtain⟨t,b,e⟩:=Kd gs n l p hp;have h:=(a t b).tk G.n6;exact⟨Br gs (t.1.take n),by rw[FI,h],e,Tk G h⟩
theorem My(G:GNs gs n)(z:∀ t∈l,InV n t.1){t:Tx}(c:t∈avT gs n (sumK gs n l)):∃ s∈l,∃ a,Af a=true/\a.length=n/\Ab t.2=mp n a s.1/\t.2.length=n/\∃ k m,t.1=txt (Pl.getK 0 (sumK gs n l) k*(((m:Nat):Int):Rat)⁻¹)/\0<m/\m<=gs.length:=by
 obtain⟨p,hp,c⟩:=mf.1 c;obtain⟨s,i,e⟩:=Kd gs n l p hp;have b:=(z s i).tk G.n6;unfold orbT at c;split at c
 · cases c
 · obtain⟨x,d,rfl⟩:=fy.1 c;rw[(G9 _).mem_iff]at d;obtain⟨g,w,q⟩:=ED.1 d;obtain⟨h,y,r⟩:=EC G.g (b.trans G.l.symm);obtain⟨j,B⟩:=G.p g w;obtain⟨o,A⟩:=G.p h y;have v:p.1.take n=mvd h (s.1.take n):=by
    have h1:=CR (l:=Br gs (s.1.take n));rw[FI,b]at h1;rw[e];unfold rk;rw[h1,r]
   have f:x=mvd (comp g h) (s.1.take n):=by
    rw[<-q,v,MK j o (by omega) (by omega)]
   refine⟨s,i,comp g h,C3 j o (by omega),by rw[Bl,A],?_,?_,p.1,_,?_,gW d,JF _⟩
   · show Ab x=Ab _;rw[f]
   · show x.length=n;rw[f,AV,b]
   · rw[Pl.getK_coef _ _ (Gu gs n l),Pl.coef_mem (Gu gs n l) hp]
theorem Mz(G:GNs gs n)(c:∀ t∈l,InV n t.1){u:Pl.Tm}(hu:u∈avP gs n l):∃ s∈l,∃ a,Af a=true/\a.length=n/\u.1=mp n a s.1/\∃ k m,u.2=Pl.getK 0 (sumK gs n l) k*(((m:Nat):Int):Rat)⁻¹/\0<m/\m<=gs.length:=by
 obtain⟨t,f,rfl⟩:=fy.1 hu;obtain⟨s,d,a,i,g,e,_,k,m,b,h1,h2⟩:=My G c f;refine⟨s,d,a,i,g,e,k,m,?_,h1,h2⟩;show(Bn t.1).getD 0=_;rw[b,A6];rfl
theorem D0(G:GNs gs n)(b:∀ t∈l,InV n t.1):∀ u∈avP gs n l,InV n u.1:=fun u hu=>by
 obtain⟨s,c,a,f,d,e,_⟩:=Mz G b hu;rw[e];exact Kb f d G.n6 (b s c)
theorem Qr(G:GNs gs n)(b:∀ t∈l,InV n t.1)(h24:∀ t∈l,t.1.sum<=24):∀ u∈avP gs n l,u.1.sum<=24:=fun u hu=>by
 obtain⟨s,c,a,f,d,e,_⟩:=Mz G b hu;rw[e,Pc f d G.n6 (b s c)];exact h24 s c
theorem JG(h24:gs.length<=24):(avT gs n (sumK gs n l)).length<=l.length*24:=by
 have a:∀ K:List Pl.Tm,(avT gs n K).length<=K.length*24:=by
  intro K
  induction K with
  | nil=>simp[avT]
  | cons p r ih =>
   have b:avT gs n (p :: r)=orbT gs n p ++ avT gs n r:=by simp[avT]
   have h1:(orbT gs n p).length<=24:=by
    unfold orbT;split
    · simp
    · rw[fq,(G9 _).length_eq];exact ft (JF _) h24
   rw[b,fo,fP];omega
 exact ft (a _) (fa _ (Kc gs n l))
theorem Lo.avP(G:GNs gs n)(a:∀ t∈l,InV n t.1)(h24:∀ t∈l,t.1.sum<=24):Lo (avP gs n l):=fun u hu=>by
 have h1:=D0 G a u hu;have h2:=Qr G a h24 u hu;exact⟨h1.1,fun x b=>⟨h1.2.1 x b,by have:=(Fl h1.2.1).2 x b;show x<=_;omega⟩⟩
theorem SB.avP(G:GNs gs n)(b:∀ t∈l,InV n t.1)(a:gs.length<=24){D Y:Nat}(h:Pl.SB D Y l):Pl.SB (D*5354228880) (l.length*Y*5354228880) (avP gs n l):=fun u hu=>by
 obtain⟨_,_,_,_,_,_,k,m,e,h1,h2⟩:=Mz G b hu;rw[e,Hb];exact Tr (Mx h) h1 (by omega)
theorem V4(G:GNs gs n)(o:gs.length<=24)(h:Bd (n:Int) N d y l)(h24:∀ t∈l,t.1.sum<=24)(J:N<=128)(Q:d<=300)(R:y<=300):Tf gs n l:=by
 have j:=h.pv.inv;obtain⟨D,r,v,w⟩:=h.sb;have h7:l.length<=P2 7:=ft h.len (ft J (by unfold P2;decide));have F:l.length*P2 y<P2 308:=by
  refine fI (fa _ h7) ?_;rw[<-Dy];exact Ka (by omega)
 have H:l.length*P2 y*5354228880<P2 341:=CD F NW
 have M:∀ k e,Pl.RB 400 (Pl.getK 0 (sumK gs n (l.take k)) e):=fun k e=>by
  have h1:=Mx (c:=fun f=>rk gs n f=e) (l:=l.take k) (fun t i=>w t (im i));rw[Hb];refine h1.rb r (Ak v (by omega)) (Ak (fI (fa _ ?_) F) (by omega));rw[go];omega
 have p:∀ q,Pl.RB 400 q->(txt q).length<=570:=fun q h=>by have:=X7 h;omega
 have L:=JG (gs:=gs) (n:=n) (l:=l) o;have K:l.length*24<=128*24:=fa _ (ft h.len J);refine⟨M,fun t i=>(w t i).rb r (Ak v (by omega)) (Ka (by omega)),p,by omega,by omega,fun t i => ?_,fun t i => ?_,?_⟩
 · obtain⟨s,A,a,E,C,e,g,k,m,z,_⟩:=My G j i;have I:=Kb E C G.n6 (j s A);have B:=Pc E C G.n6 (j s A);rw[<-e]at I B;rw[GZ]at B;refine⟨by rw[z,A6];rfl,by rw[g],EB.2 ⟨by have:=G.n6;omega,fun x O=>I.2.1 x (List.mem_append_left _ O),by rw[B];exact h24 s A⟩⟩
 · obtain⟨s,A,a,E,C,e,g,k,m,z,h1,h2⟩:=My G j i;rw[z,Hb];refine p _ ((Tr (Mx w) h1 (by omega)).rb (jj r (by omega)) (Ak (CD v NW) (by omega)) (Ak H (by omega)))
 · refine Ts (b:=400) (SB.avP G j o w) (jj r (by omega)) (Ak (CD v NW) (by omega)) ?_ (by omega) (Lo.avP G j h24) (by rw[fq];omega);have h12:(avP gs n l).length<=P2 12:=by
    have P:(avP gs n l).length=(avT gs n (sumK gs n l)).length:=fq ..;have z:4096<=P2 12:=by unfold P2;decide
    omega
   have h3:(avP gs n l).length*(l.length*P2 y*5354228880)<=P2 12*P2 341:=gL h12 (iy H);rw[<-Dy]at h3;exact fI h3 (Ka (by omega))
theorem Bd.avP(G:GNs gs n)(a:gs.length<=24)(h:Bd (n:Int) N d y l)(h24:∀ t∈l,t.1.sum<=24){k:Nat}(m:N*(N*24)<=P2 k):Bd (n:Int) (N*24) (d+33) (k+(y+33)) (cnP (avP gs n l)):=by
 have c:=D0 G h.pv.inv;have h6:∀ t∈Go.Proofs.YthdbingomfdeoaaGreatDoor.avP gs n l,t.1.length=6:=fun t b=>(c t b).1;have p:(Go.Proofs.YthdbingomfdeoaaGreatDoor.avP gs n l).length<=l.length*24:=by unfold Go.Proofs.YthdbingomfdeoaaGreatDoor.avP;rw[fq];exact JG a
 have o:l.length*24<=N*24:=fa _ h.len;obtain⟨D,f,g,i⟩:=h.sb;refine⟨⟨h.pv.v0,(Cj h6).1,G4 c⟩,fun t b => ?_,ft (G5 h6) (by omega),D*5354228880,jj f (by omega),CD g NW,(SB.cn h6 (SB.avP G h.pv.inv a i)).mono ?_⟩
 · obtain⟨s,q,e⟩:=G3 h6 b;rw[<-e];exact Lo.avP G h.pv.inv h24 s q
 · have h3:(Go.Proofs.YthdbingomfdeoaaGreatDoor.avP gs n l).length*(l.length*P2 y*5354228880)<=N*24*(N*P2 y*P2 33):=gL (by omega) (gL (fa _ h.len) (iy NW));refine ft h3 ?_;have j:N*24*(N*P2 y*P2 33)=N*(N*24)*(P2 y*P2 33):=by
    rw[iH N (P2 y),<-iH,iH N 24 N,fJ 24 N]
   rw[j,Dy,Dy];exact fa _ m
theorem Wz(G:GNs gs n)(o:∀ t∈l,InV n t.1){a:List Int}(r:a∈gs)(e:List Int):Pl.coef (D6 n a (cnP (avP gs n l))) e=Pl.coef (avP gs n l) e:=by
 obtain⟨i,b⟩:=G.p a r;have m:=D0 G o;have h6:∀ t∈avP gs n l,t.1.length=6:=fun t d=>(m t d).1;have g:=G4 m;by_cases he:InV n e
 · have s:=Hm i;have w:(BR a a.length).length=n:=by rw[Cc,b]
   have j:=Kb s w G.n6 he;have q:mp n a (mp n (BR a a.length) e)=e:=by
    rw[Xj i s b w G.n6 he,FP i];unfold mp;have d:=he.tk G.n6;have h1:mvd (idn a.length) (e.take n)=e.take n:=by
     refine(Mv (CS (by rw[b];exact G.n6)) (by rw[AY,d,b]) (by rw[AY,d,b])).2 ?_;rw[b]
     conv=>rhs;rw[<-d]
     rw[d]
     conv=>rhs;rw[show idn n=idn (e.take n).length by rw[d]]
     rw[Cx]
    rw[h1,he.2.2]
   generalize mp n (BR a a.length) e=f at j q;subst q;rw[NH i b G.n6 g j,(Cj h6).2];have k:=j.tk G.n6;have x:Ab (f.take n)=f:=j.2.2;have y:mp n a f=Ab (mvd a (f.take n)):=rfl;have c:(mvd a (f.take n)).length=n:=by rw[AV,k]
   have v:=(DK G k c).1 ⟨a,r,rfl⟩;rw[y]
   conv=>lhs;rw[<-x]
   rw[Hc G o k,Hc G o c,<-v];unfold oN;rw[Ha G k c v]
 · rw[Dm m he,Dm (JE i b G.n6 g) he]
theorem Xq(G:GNs gs n)(c:∀ t∈l,InV n t.1)(e:List Int):Pl.coef (avP gs n (cnP (avP gs n l))) e=Pl.coef (avP gs n l) e:=by
 have b:=D0 G c;have h6:∀ t∈avP gs n l,t.1.length=6:=fun t f=>(b t f).1;have a:=G4 b;by_cases he:InV n e
 · have d:Ab (e.take n)=e:=he.2.2;rw[<-d,Hc G a (he.tk G.n6),Hc G c (he.tk G.n6),Pl.lin_ext (Cj h6).2,Qp G (U5 G _) c]
 · rw[Dm b he,Dm (D0 G a) he]
theorem Xr(G:GNs gs n)(e:∀ t∈l,InV n t.1)(c:Rat):Pl.evq (List.replicate n c) (cnP (avP gs n l))=Pl.evq (List.replicate n c) l:=by
 have f:=D0 G e;have h6:∀ t∈avP gs n l,t.1.length=6:=fun t o=>(f t o).1;rw[UX (Cj h6).2,G6,G6];refine Qp G (fun x r a g => ?_) e;obtain⟨d,q⟩:=G.p a g;rw[List.length_replicate,Ir,Ir];have h1:=(Kw d).map (fun v=>((List.replicate n c).getD v 0)^((Ab (mvd a x)).getD v 0).toNat);rw[j4,q]at h1;rw[<-Rp h1];congr 1;refine gZ fun i k => ?_;have b:=gO.1 k;have h0:=BU d (i:=i) (by omega)
 show(List.replicate n c).getD (a.getD i 0).toNat 0^((Ab (mvd a x)).getD (a.getD i 0).toNat 0).toNat=(List.replicate n c).getD i 0^((Ab x).getD i 0).toNat
 have h2:(Ab (mvd a x)).getD (a.getD i 0).toNat 0=(Ab x).getD i 0:=by
  rw[Iz (by rw[AV];omega),Iz (by omega),Dx d (by omega) (by omega)]
 have h3:∀ j,j<n->(List.replicate n c).getD j 0=c:=fun j m=>by simp[m]
 rw[h2,h3 _ (by omega),h3 _ b]
end
theorem WA:10^6<=P2 20:=by unfold P2;decide
theorem WB:5*(5*24)<=P2 10:=by unfold P2;decide
theorem V5{g:Nat->Nat}(h:∀ v,g v<=24):∀ k,sg g k<=24*k
 | 0=>lrf _
 | k+1=>by
  have h1:=V5 h k;have h2:=h k;show sg g k+g k<=_;omega
theorem Tt{N:Nat}{l:List Pl.Tm}{pt:List Rat}(h:Bd v N d y l)(h24:∀ t∈l,t.1.sum<=24)(j:∀ q∈pt,Q6s q)(V:pt.length<=4)(U:N<=128)(F:d<=150)(W:y<=170):EvB l pt/\Fh (Pl.evq pt l):=by
 obtain⟨D,J,K,M⟩:=h.sb;have P:=h.len;have f:=h.lo;have Q:D<P2 150:=Ak K F
 have o:∀ v,v<pt.length->Q6s (pt.getD v 0):=fun v i=>by
  rw[gqq,eZ i];exact j _ (fE _)
 have G:∀ t∈l,∀ k,k<=pt.length->sg (fun v=>(t.1.getD v 0).toNat) k<=24:=fun t b k c =>
  Xm (fun x j=>((f t b).2 x j).1) (by rw[(f t b).1];omega) (h24 t b)
 have E:∀ v,Pl.grt l v<=24:=fun v=>S3 l 0 (fu _) fun t b=>by
  have h1:=(S4 (v:=v) (f t b).2).1;have h2:=h24 t b;have h3:=Fl fun x j=>((f t b).2 x j).1;rcases fS v t.1.length with i|i
  · have h4:=h3.2 _ (fE i);rw[gqq,eZ i,fW];omega
  · rw[gqq,fH i];simp
 have O:∀ k,k<=pt.length->sg (Pl.grt l) k<=96:=fun k c=>by
  have:=V5 E k;omega
 have z:∀ t∈l,Pl.RB 171 t.2:=fun t b=>(M t b).rb J (Ak K (by omega)) (fN (Ka (Nat.lt_succ_self y)) (OI (by omega)));obtain⟨L,p⟩:∃ L,Id (l.map (·.2))=L:=⟨_,rfl⟩
 have w:∀ k,Id ((l.map (·.2)).take k)<P2 150:=fun k=>by
  rw[<-lL];exact fI (Pl.SB.lcm (fun t b=>M t (im b)) J) Q
 have s:L<P2 150:=by
  have:=w (l.map (·.2)).length;rw[kX,p]at this;exact this
 have B:∀ t∈l,∀ k,k<=pt.length->(Pl.zev L (Pl.grt l) pt t k).natAbs<=P2 171*P2 150*D10 432:=fun t b k c=>by
  refine ft (V0 o k c fun v _=>Pl.le_grt v b) (gL ?_ (Ta ?_))
  · unfold Pl.zsc;rw[ia];exact gL (iy (z t b).1) (ft (gy _ _) (iy s))
  · have h1:=O k c;have h2:=G t b k c;omega
 have S:(Pl.zsum (fun t=>Pl.zev L (Pl.grt l) pt t pt.length) l).natAbs<=128*(P2 171*P2 150*D10 432):=by
  unfold Pl.zsum;rw[Pl.zsum_foldl,Int.zero_add];exact ft (Tc _ l fun t b=>B t b _ (lrf _)) (fa _ (by omega))
 have A:∀ k,k<=pt.length->Pl.dev L (Pl.grt l) pt k<=P2 150*D10 384:=fun k c =>
  ft (V3 o k c) (gL (iy s) (Ta (by have:=O k c;omega)))
 have X:128*(P2 171*P2 150*D10 432)<P2 1920:=by unfold P2 D10;decide +kernel
 have Y:P2 150*D10 384<P2 1920:=by unfold P2 D10;decide +kernel
 have pw:∀ x e,x<10^6->e<=24->x^e<P2 1200:=fun x e j he=>by
  refine fI (iJ (iy j) e) ?_;rw[<-ju];refine fI (m:=10^144) (fx (by omega) (by omega)) ?_;unfold P2;decide +kernel
 have I:∀ q∈pt,Pl.RB 24 q:=fun q C=>by
  have T:10^6<=P2 24:=by unfold P2;decide
  have h1:=(j q C).n;have h2:=(j q C).d;exact⟨by omega,by omega⟩
 have F:∀ t∈l,t.2.den∣L:=fun t b=>by
  rw[<-p];exact Nw (fy.2 ⟨t,b,rfl⟩)
 have r:L≠0:=by rw[<-p];exact Nat.ne_of_gt (OY _)
 refine⟨⟨fun t b=>(z t b).mono (by omega),fun q C=>(I q C).mono (by omega),fun t b=>(f t b).2,fun k=>Ak (w k) (by omega),fun v i e he=>pw _ _ (o v i).n (ft he (E v)),fun v i e he=>pw _ _ (by have:=(o v i).d;omega) (ft he (E v)),?_,?_,?_⟩,?_⟩
 · intro t b k c;rw[p];have:=B t b k c;exact Ak (a:=1920) (by omega) (by omega)
 · intro k c;rw[p];have:=A k c;exact Ak (a:=1920) (by omega) (by omega)
 · rw[p];exact Ak (a:=1920) (by omega) (by omega)
 · have he:=Pl.ev_done (pt:=pt) r F;have H:=Pl.dev_ne (g:=Pl.grt l) (pt:=pt) r pt.length;have R:=Pl.mkRat_le (n:=Pl.zsum (fun t=>Pl.zev L (Pl.grt l) pt t pt.length) l) H;rw[he]at R;have:=A _ (lrf pt.length);exact Lu (by omega) (by omega)
structure AvS(n:Nat)(gs:List (List Int))(tm:List Tx)(lp lm:List Pl.Tm):Prop where
 G:GNs gs n
 o1:Tf gs n lp
 r1:resQ (n:Int) ((avT gs n (sumK gs n lp)).map Cr)=((n:Int),tm,0)
 rm:rdP (n:Int) tm=some lm
 xm:∀ t∈tm,t.1.length<=570
 act:∀ a∈gs,actA n a (rdP (n:Int) tm)=((n:Int),tm,0)
 sa:∀ a∈gs,Lw (D6 n a lm)
 o2:Tf gs n lm
 r2:resQ (n:Int) ((avT gs n (sumK gs n lm)).map Cr)=((n:Int),tm,0)
 ev:∀ c,Pl.evq (List.replicate n c) lm=Pl.evq (List.replicate n c) lp
 e1:∀ c,Q6s c->EvB lp (List.replicate n c)/\Fh (Pl.evq (List.replicate n c) lp)
 e2:∀ c,Q6s c->EvB lm (List.replicate n c)/\Fh (Pl.evq (List.replicate n c) lm)
theorem avS{x:List Tx}{b:List Pl.Tm}(G:GNs gs n)(e:gs.length<=24)(w:n<=4)(hp:rdP (n:Int) x=some b)(s1:Dv x 5 6):∃ E C,AvS n gs E b C:=by
 have d:Bd (n:Int) 5 81 101 b:=Bd.of hp s1 (by omega) WA;have f:=LB hp;have o:=D0 G d.pv.inv;have h6:∀ t∈avP gs n b,t.1.length=6:=fun t A=>(o t A).1;have j:(avP gs n b).length<=4096:=by
  have h1:=JG (gs:=gs) (n:=n) (l:=b) e;have h2:=d.len;unfold avP;rw[fq];omega
 have h0:(resQ (n:Int) (avP gs n b)).2.2=0:=Ro o j (Qr G d.pv.inv f);obtain⟨y,m⟩:=Mr d.pv.v0 o h0;have k:Bd (n:Int) (5*24) (81+33) (10+(101+33)) (cnP (avP gs n b)):=d.avP G e f WB;have g:=LB m;have s:resQ (n:Int) (avP gs n b)=((n:Int),(resQ (n:Int) (avP gs n b)).2.1,0):=by
  conv=>lhs;rw[<-Prod.eta (resQ (n:Int) (avP gs n b)),<-Prod.eta (resQ (n:Int) (avP gs n b)).2,y,h0]
 have v:∀ c,Q6s c->∀ q∈List.replicate n c,Q6s q:=fun c i q z=>by rw[(gR.1 z).2];exact i
 refine⟨(resQ (n:Int) (avP gs n b)).2.1,cnP (avP gs n b),G,V4 G e d f (by omega) (by omega) (by omega),s,m,k.text m (by omega) (by omega),fun a r => ?_,fun a r => ?_,V4 G e k g (by omega) (by omega) (by omega),?_,fun c=>Xr G d.pv.inv c,fun c i=>Tt d f (v c i) (by rw[List.length_replicate];exact w) (by omega) (by omega) (by omega),fun c i=>Tt k g (v c i) (by rw[List.length_replicate];exact w) (by omega) (by omega) (by omega)⟩
 · rw[m,<-s];exact J9 (Wz G d.pv.inv r)
 · obtain⟨D,B⟩:=G.p a r;exact k.sumA g D B G.n6 (by omega) (by omega) (by omega)
 · rw[<-s];exact J9 (Xq G d.pv.inv)
theorem Pe(s:ByteArray)(k:Nat)(h:k<s.size):(Ah s).take (k+1)=(Ah s).take k ++ [s[k]]:=by
 unfold Ah;rw[ff (by simpa using h)];rfl
theorem EZ(n:W.digs (Ah s))(F:s.size<=9) :
 Calls prog 129 #[.string s] w fun e D=>e = .returned (.int .i64 ((W.decV (Ah s):Nat):Int))/\D=w:=by
 have p:=qh n;have b:(Ah s).length=s.size:=AD s;have r:=qh b;clear b n
 go_enter func129,ntmps129
 go_wp2
 go_loop[3,7] (fun C j=>∃ k m:Nat,k<=s.size/\j = .int .i64 k/\C = .int .i64 (m:Int)/\m<10^k/\Hid (m=W.decV ((Ah s).take k))) (fun _ j=>s.size-(intOf j).toNat)
 case atStart=>exact⟨0,0,fu _,rfl,rfl,by decide,qh rfl⟩
 case round =>
  obtain⟨k,m,E,rfl,rfl,o,l⟩:=hrel;by_cases i:k<s.size
  · have a:=Pe s k i
    have f:W.isDig s[k]:=p.out _ (by
     have:s[k]∈(Ah s).take (k+1):=by rw[a];simp
     exact im this)
    have y:48<=s[k].toNat:=f.1;have z:s[k].toNat<=57:=f.2;have t:Hid (W.decV ((Ah s).take (k+1))=10*m+(s[k].toNat-48)):=qh (by rw[a,W.decV_snoc,l.out]);have d:10^k<=10^8:=fx (by omega) (by omega);have B:(m:Int)<100000000:=by
     have:(10:Nat)^8=100000000:=by decide
     omega
    have c:10^(k+1)=10*10^k:=by rw[gr,fJ]
    have v:=qh (And.intro o c);generalize A:s[k].toNat=x at *
    clear a f d o c;go_wp2;go_round
    case rel=>exact⟨k+1,10*m+(x-48),by omega,by go_num,by congr 1;omega,by have:=v.out;omega,qh (by rw[t.out])⟩
    case measure=>simp[intOf];omega
  · have g:k=s.size:=by omega
    subst g;have q:Hid (m=W.decV (Ah s)):=qh (by rw[l.out,f9 (by rw[r.out];exact lrf _)]);go_wp2;go_ret;refine⟨?_,rfl⟩;show Ending.returned (.int .i64 (m:Int))=_;rw[q.out]
theorem NZ{x:Nat}(p:x<=9223372036854775807)(q:y<=9223372036854775807) :
 Calls prog 89 #[.int .i64 (x:Int),.int .i64 (y:Int)] w fun e r=>e = .returned (.int .i64 ((Nat.gcd x y:Nat):Int))/\Qt w r:=by
 go_enter func89,ntmps89
 go_wp2
 go_loopw[0,1] (fun j f wr=>∃ a b:Nat,j = .int .i64 (a:Int)/\f = .int .i64 (b:Int)/\a<=9223372036854775807/\b<=9223372036854775807/\Hid (Nat.gcd a b=Nat.gcd x y)/\Qt w wr) (fun _ f _=>(intOf f).toNat)
 case atStart=>exact⟨x,y,rfl,rfl,p,q,qh rfl,Qt.refl _⟩
 case round =>
  obtain⟨a,b,rfl,rfl,s,k,g,i⟩:=hrel;by_cases c:b=0
  · have d:Hid (a=Nat.gcd x y):=qh (by rw[<-g.out,c,kM]);subst c;go_wp2;go_ret;refine⟨?_,i⟩;show Ending.returned (.int .i64 (a:Int))=_;rw[d.out]
  · have n:((b:Int) != 0)=true:=by simp;omega
    have m:((b:Int) == 0)=false:=by simp;omega
    have l:(0:Int)<(b:Int):=by omega
    have d:Hid (Nat.gcd b (a%b)=Nat.gcd x y):=qh (by rw[<-g.out,jB b,<-mo,jB]);have o:a%b<b:=gx _ (by omega);go_wp2
    go_quiet (fail)
    go_wp2;go_roundw
    case rel=>exact⟨b,a%b,rfl,by first | rfl | (congr 1),k,by omega,d,i.drewN _⟩
    case measure=>simp[intOf];omega
def ShQ(l:List UInt8)(n:Int)(d:Nat):Prop:=Bn l=some (mkRat n d)/\n.natAbs<1000000000/\0<d/\d<1000000000
theorem Ag:Agg prog 118 2:=⟨by kernel_rfl,by kernel_rfl⟩
def shL(n d:Int):List Value:=[.int .i64 n,.int .i64 d]
theorem AN(n d:Int):∀ v∈shL n d,v.oneCell'=true:=by
 intro v a;simp only[shL,fV,ib,kx]at a;rcases a with rfl|rfl <;> rfl
def Xs(w:World)(l:List UInt8)(e:Ending)(w':World):Prop:=Ext w w'/\((∃ n d,e = .returned (.tuple #[.agg (shL n (d:Nat)).toArray,.bool true])/\ShQ l n d)\/e = .returned (.tuple #[.agg (shL 0 0).toArray,.bool false]))
theorem D7(hs:s.size<=1000000):Calls prog 88 #[.string s] w (Xs w (Ah s)):=by
 have Z:=fun(wx:World)=>qh (Ij s wx hs);obtain⟨⟨⟨g,f,a⟩,ok⟩,hP⟩:∃ P,CG (Ah s)=P:=⟨_,rfl⟩;simp only[hP]at Z;have HP:=qh hP;have ak:(BK g f a).toArray=#[.bool g,.string ⟨f.toArray⟩,.string ⟨a.toArray⟩]:=rfl;have am:(shL 0 0).toArray=#[.int .i64 0,.int .i64 0]:=rfl;clear hP
 go_enter func88,ntmps88
 go_upto_region 1 with(fail)
 refine Bv ?_;intro w0 a1 a0 ae;have hR:Arr w0 w.heap.size 118 (shL 0 0):=a0;clear a0 ae;by_cases h20:(20:Int)<(s.size:Int)
 · go_wp2_with(refine Aa (vs:=shL 0 0) rfl rfl rfl rfl rfl Ag hR rfl (AN _ _) ?_;intro J b d)
   refine fh (Az rfl Ag rfl rfl b) rfl ?_;exact⟨a1.grownR d (lrf _),Or.inr rfl⟩
 · go_wp2_with fail
   refine(Z _).out.mono ?_;rintro e w1 ⟨rfl,M⟩;have hY:=Arr.new w1 167 (BK false [] [])
   go_upto_region 4 with(refine Aa (vs:=BK g f a) rfl rfl rfl rfl rfl A5 hY rfl (Cb _ _ _) ?_;intro w2 l a5)
   have O:Ext w1 w2:=((Ext.refl w1).alloc _).grownR a5 (lrf _);have p:=(hR.ext M).ext O;have B:=(a1.trans M).trans O;have f0:=l.c 0 rfl;have f1:=l.c 1 rfl;have f2:=l.c 2 rfl;clear hY a5 hR M O Z;cases ok with
   | false =>
    go_wp2_with(refine Aa (vs:=shL 0 0) rfl rfl rfl rfl rfl Ag p rfl (AN _ _) ?_;intro J b d)
    refine fh (Az rfl Ag rfl rfl b) rfl ?_;exact⟨B.grownR d (lrf _),Or.inr rfl⟩
   | true =>
    have hS:=FZ HP.out;by_cases al:(9:Int)<(f.length:Int)
    · clear hS
      go_wp2_with(refine Aa (vs:=shL 0 0) rfl rfl rfl rfl rfl Ag p rfl (AN _ _) ?_;intro J b d)
      refine fh (Az rfl Ag rfl rfl b) rfl ?_;exact⟨B.grownR d (lrf _),Or.inr rfl⟩
    · by_cases ai:(9:Int)<(a.length:Int)
      · clear hS
        go_wp2_with(refine Aa (vs:=shL 0 0) rfl rfl rfl rfl rfl Ag p rfl (AN _ _) ?_;intro J b d)
        refine fh (Az rfl Ag rfl rfl b) rfl ?_;exact⟨B.grownR d (lrf _),Or.inr rfl⟩
      · have V:=qh (EZ (s:=⟨f.toArray⟩) (w:=w2) (by rw[AO];exact hS.dn) (by show f.toArray.size<=9;simp;omega));rw[AO]at V;have HS:=qh hS;clear hS
        go_wp2_with fail
        refine V.out.mono ?_;rintro e w3 ⟨rfl,ac⟩;subst ac;have hN:W.decV f<1000000000:=by
         have h1:=W.decV_lt HS.out.dn;have h2:10^f.length<=10^9:=fx (by omega) (by omega);have h3:(10:Nat)^9=1000000000:=by decide
         omega
        have ag:W.decV a<1000000000:=by
         have h1:=W.decV_lt HS.out.dd;have h2:10^a.length<=10^9:=fx (by omega) (by omega);have h3:(10:Nat)^9=1000000000:=by decide
         omega
        obtain⟨o,t⟩:∃ o,Hid (Bn (Ah s)=o/\o=if a=[]then some (mkRat (if g=true then -((W.decV f:Nat):Int)else((W.decV f:Nat):Int)) 1)else if(if g=true then -((W.decV f:Nat):Int)else((W.decV f:Nat):Int)).natAbs.gcd (W.decV a)=1 then some (mkRat (if g=true then -((W.decV f:Nat):Int)else((W.decV f:Nat):Int)) (W.decV a))else none):=⟨_,qh ⟨rfl,by unfold Bn;simp[HP.out]⟩⟩;have E:=fun(wx:World)=>qh (EZ (s:=⟨a.toArray⟩) (w:=wx) (by rw[AO];exact HS.out.dd) (by show a.toArray.size<=9;simp;omega));rw[AO]at E
        generalize W.decV f=N at *
        have hY:=Arr.new w3 118 (shL 0 0);have ab:(shL (N:Int) 1).toArray=#[.int .i64 (N:Int),.int .i64 1]:=rfl;clear V
        go_upto_region 7 with(refine Aa (vs:=shL (N:Int) 1) rfl rfl rfl rfl rfl Ag hY rfl (AN _ _) ?_;intro w4 i a6)
        have j:Ext w3 w4:=((Ext.refl w3).alloc _).grownR a6 (lrf _);have n:=B.trans j;have C:=p.ext j;have a8:=l.ext j;have f0:=j.cell f0;have f2:=j.cell f2;have U:w.heap.size<w3.heap.size:=p.lt;clear hY a6 j ab;by_cases k:a=[]
        · have L:Hid (o=some (mkRat (if g=true then -(N:Int)else(N:Int)) 1)):=qh (by rw[t.out.2,fG k]);clear E;subst k;cases g with
          | false =>
           have I:=i.c 0 rfl;have q1:=i.c 1 rfl;have X:(shL (N:Int) 1).toArray=#[.int .i64 (N:Int),.int .i64 1]:=rfl
           go_wp2_with(refine Aa (vs:=shL (N:Int) 1) rfl rfl rfl rfl rfl Ag C rfl (AN _ _) ?_;intro J b d)
           refine fh (Az rfl Ag rfl rfl b) rfl ?_;exact⟨n.grownR d (lrf _),Or.inl ⟨(N:Int),1,rfl,(by first | exact⟨by rw[t.out.1,L.out];rfl,by omega,by omega,by omega⟩ | exact⟨by rw[t.out.1,L.out];simp,by omega,by omega,by omega⟩)⟩⟩
          | true =>
           have I:=i.c 0 rfl;have Y:IntKind.i64.wrap (-(N:Int)) = -(N:Int):=fO _ (by omega)
           go_upto_region 13 with(refine Ch rfl rfl [.int .i64 (-(N:Int))] (shL (-(N:Int)) 1) (by kernel_rfl) rfl rfl rfl i (by simp[shL]) (by simp[Value.oneCell']) rfl ?_;intro w8 m q)
           have R:=n.grownR q (iy U);have T:=C.kept q (by simp;omega);clear I Y;have I:=m.c 0 rfl;have q1:=m.c 1 rfl;have X:(shL (-(N:Int)) 1).toArray=#[.int .i64 (-(N:Int)),.int .i64 1]:=rfl
           go_wp2_with(refine Aa (vs:=shL (-(N:Int)) 1) rfl rfl rfl rfl rfl Ag T rfl (AN _ _) ?_;intro J b d)
           refine fh (Az rfl Ag rfl rfl b) rfl ?_;exact⟨R.grownR d (lrf _),Or.inl ⟨(-(N:Int)),1,rfl,(by first | exact⟨by rw[t.out.1,L.out];rfl,by omega,by omega,by omega⟩ | exact⟨by rw[t.out.1,L.out];simp,by omega,by omega,by omega⟩)⟩⟩
        · have aj:a.isEmpty=false:=by cases a with | nil=>exact absurd rfl k | cons _ _=>rfl
          have af:0<W.decV a:=by
           refine jM fun h0 => ?_;have h1:=W.dec_of_digs HS.out.dd k (fun c r e h=>absurd (by rw[e,h];rfl) HS.out.nd);rw[h0,W.dec_zero]at h1;exact HS.out.nd (by rw[<-h1];rfl)
          have L:Hid (o=if(if g=true then -(N:Int)else(N:Int)).natAbs.gcd (W.decV a)=1 then some (mkRat (if g=true then -(N:Int)else(N:Int)) (W.decV a))else none):=qh (by rw[t.out.2,fl k])
          go_wp2_with fail
          refine(E _).out.mono ?_;rintro e w5 ⟨rfl,ad⟩;subst ad;clear E k;generalize W.decV a=D at *
          go_upto_region 9 with(refine Ch rfl rfl [.int .i64 (D:Int)] (shL (N:Int) (D:Int)) (by kernel_rfl) rfl rfl rfl i (by simp[shL]) (by simp[Value.oneCell']) rfl ?_;intro w6 z H)
          have a2:=n.grownR H (iy U);have a4:=C.kept H (by simp;omega);have ah:w1.heap.size<w3.heap.size:=l.lt;have a3:=a8.kept H (by simp;omega);have I:=z.c 0 rfl;have q1:=z.c 1 rfl;have a7:=qh (NZ (x:=N) (y:=D) (w:=w6) (by omega) (by omega))
          have K:Hid (Nat.gcd N D=1->o=some (mkRat (if g=true then -(N:Int)else(N:Int)) D)):=qh (fun h=>by
           rw[L.out,fG]
           cases g <;> simpa using h)
          generalize Nat.gcd N D=G at *
          clear H C i L
          go_wp2_with fail
          refine a7.out.mono ?_;rintro e w7 ⟨rfl,hQ⟩;have Q:=a2.trans hQ.ext;have S:=a4.ext hQ.ext;have A:=z.ext hQ.ext;have a9:=a3.ext hQ.ext;clear a7 I q1 a2 a4 z a3 hQ;by_cases F:G=1
          · have v:=qh (K.out F);have aa:((G:Int) != 1)=false:=by simp[F]
            have f0:=a9.c 0 rfl;clear F K;cases g with
            | false =>
             have I:=A.c 0 rfl;have q1:=A.c 1 rfl;have X:(shL (N:Int) (D:Int)).toArray=#[.int .i64 (N:Int),.int .i64 (D:Int)]:=rfl
             go_wp2_with(refine Aa (vs:=shL (N:Int) (D:Int)) rfl rfl rfl rfl rfl Ag S rfl (AN _ _) ?_;intro J b d)
             refine fh (Az rfl Ag rfl rfl b) rfl ?_;exact⟨Q.grownR d (lrf _),Or.inl ⟨(N:Int),D,rfl,(by first | exact⟨by rw[t.out.1,v.out];rfl,by omega,by omega,by omega⟩ | exact⟨by rw[t.out.1,v.out];simp,by omega,by omega,by omega⟩)⟩⟩
            | true =>
             have I:=A.c 0 rfl;have Y:IntKind.i64.wrap (-(N:Int)) = -(N:Int):=fO _ (by omega)
             go_upto_region 13 with(refine Ch rfl rfl [.int .i64 (-(N:Int))] (shL (-(N:Int)) (D:Int)) (by kernel_rfl) rfl rfl rfl A (by simp[shL]) (by simp[Value.oneCell']) rfl ?_;intro w8 m q)
             have R:=Q.grownR q (iy U);have T:=S.kept q (by simp;omega);clear I Y;have I:=m.c 0 rfl;have q1:=m.c 1 rfl;have X:(shL (-(N:Int)) (D:Int)).toArray=#[.int .i64 (-(N:Int)),.int .i64 (D:Int)]:=rfl
             go_wp2_with(refine Aa (vs:=shL (-(N:Int)) (D:Int)) rfl rfl rfl rfl rfl Ag T rfl (AN _ _) ?_;intro J b d)
             refine fh (Az rfl Ag rfl rfl b) rfl ?_;exact⟨R.grownR d (lrf _),Or.inl ⟨(-(N:Int)),D,rfl,(by first | exact⟨by rw[t.out.1,v.out];rfl,by omega,by omega,by omega⟩ | exact⟨by rw[t.out.1,v.out];simp,by omega,by omega,by omega⟩)⟩⟩
          · have aa:((G:Int) != 1)=true:=by simp;omega
            clear F K
            go_wp2_with(refine Aa (vs:=shL 0 0) rfl rfl rfl rfl rfl Ag S rfl (AN _ _) ?_;intro J b d)
            refine fh (Az rfl Ag rfl rfl b) rfl ?_;exact⟨Q.grownR d (lrf _),Or.inr rfl⟩
theorem MA{i:Func}{p q r:Tmp}(m:i.results=#[.cell p ty,.cell q ty',.tmp r]){a:Array Value}{g b:Nat}{t t':TypeId}{cs cs':List Value}{v:Value}(k:Agg P ty cs.length)(c:Agg P ty' cs'.length)
 (hp:a.getD p undef = .pointer (some ⟨g,0,none⟩)) (l:a.getD q undef = .pointer (some ⟨b,0,none⟩)) (n:a.getD r undef=v) (h:Arr w g t cs) (j:Arr w b t' cs'):(results i a).run P w = .ok (.tuple #[.agg cs.toArray,.agg cs'.toArray,v]) w:=by
 have d:a[p]?.getD undef = .pointer (some ⟨g,0,none⟩):=by simpa using hp
 have e:a[q]?.getD undef = .pointer (some ⟨b,0,none⟩):=by simpa using l
 have f:a[r]?.getD undef=v:=by simpa using n
 simp[results,m,d,e,f,asAddr,KM k h,KM c j]
def Xt(w:World)(l l':List UInt8)(e:Ending)(w':World):Prop:=Ext w w'/\((∃ n d n' d',e = .returned (.tuple #[.agg (shL n (d:Nat)).toArray,.agg (shL n' (d':Nat)).toArray,.bool true])/\ShQ l n d/\ShQ l' n' d')\/e = .returned (.tuple #[.agg (shL 0 0).toArray,.agg (shL 0 0).toArray,.bool false]))
theorem IZ(hs:s.size<=1000000)(Z:s'.size<=1000000):Calls prog 58 #[.string s,.string s'] w (Xt w (Ah s) (Ah s')):=by
 have Q:=fun(wx:World)=>qh (D7 (w:=wx) hs);have R:=fun(wx:World)=>qh (D7 (w:=wx) Z);have a6:(shL 0 0).toArray=#[.int .i64 0,.int .i64 0]:=rfl
 go_enter func58,ntmps58
 go_upto_region 1 with(fail)
 refine PK ?_;intro w0 N L M a0;have W:Arr w0 w.heap.size 118 (shL 0 0):=L;have T:Arr w0 (w.heap.size+1) 118 (shL 0 0):=M;clear L M a0
 go_wp2_with fail
 refine(Q _).out.mono ?_;rintro e K ⟨x,⟨n,d,rfl,hq⟩|rfl⟩
 · have HQ:=qh hq;have O:(shL n (d:Nat)).toArray=#[.int .i64 n,.int .i64 (d:Int)]:=rfl;have q:=Arr.new K 118 (shL 0 0);clear hq
   go_upto_region 2 with(refine Aa (vs:=shL n (d:Nat)) rfl rfl rfl rfl rfl Ag q rfl (AN _ _) ?_;intro w2 G r)
   have y:Ext K w2:=((Ext.refl K).alloc _).grownR r (lrf _);have b:=x.trans y;have g:=N.trans b;have B:=W.ext b;have C:=T.ext b;have a3:=(T.ext x).lt;clear q r x y b W T Q O
   go_wp2_with fail
   refine(R _).out.mono ?_;rintro e D ⟨z,⟨F,E,rfl,P⟩|rfl⟩
   · have U:=qh P;have O:(shL F (E:Nat)).toArray=#[.int .i64 F,.int .i64 (E:Int)]:=rfl;have q:=Arr.new D 118 (shL 0 0);clear P
     go_upto_region 5 with(refine Aa (vs:=shL F (E:Nat)) rfl rfl rfl rfl rfl Ag q rfl (AN _ _) ?_;intro S H t)
     have A:Ext D S:=((Ext.refl D).alloc _).grownR t (lrf _);have a:=z.trans A;have o:=g.trans a;have j:=B.ext a;have k:=C.ext a;have m:=G.ext a;have x0:=m.c 0 rfl;have x1:=m.c 1 rfl;have y0:=H.c 0 rfl;have y1:=H.c 1 rfl;have a2:w.heap.size+1<D.heap.size:=by have:=z.size;have:=G.lt;omega
     clear q t z A a m R;have r0:=j.c 0 rfl;have r1:=j.c 1 rfl;have s0:=k.c 0 rfl;have s1:=k.c 1 rfl;have fr:∀ i,S.frozen? ⟨w.heap.size,i,none⟩=false:=fun i=>j.frozen i;have fs:∀ i,S.frozen? ⟨(w.heap.size+1),i,none⟩=false:=fun i=>k.frozen i;have a4:D.heap.size≠w.heap.size:=by omega
     have a5:w.heap.size≠D.heap.size:=by omega
     go_wp2
     go_region
     have X:=(((j.set 0 (.int .i64 n)).set 1 (.int .i64 (d:Int))).far (p:=⟨w.heap.size+1,0,none⟩) (by simp) (.int .i64 F)).far (p:=⟨w.heap.size+1,1,none⟩) (by simp) (.int .i64 (E:Int));have Y:=(((k.far (p:=⟨w.heap.size,0,none⟩) (by simp) (.int .i64 n)).far (p:=⟨w.heap.size,1,none⟩) (by simp) (.int .i64 (d:Int))).set 0 (.int .i64 F)).set 1 (.int .i64 (E:Int))
     have V:=(((o.setCell (p:=⟨w.heap.size,0,none⟩) (lrf _) (.int .i64 n)).setCell (p:=⟨w.heap.size,1,none⟩) (lrf _) (.int .i64 (d:Int))).setCell (p:=⟨w.heap.size+1,0,none⟩) (Nat.le_succ _) (.int .i64 F)).setCell (p:=⟨w.heap.size+1,1,none⟩) (Nat.le_succ _) (.int .i64 (E:Int));go_wp2;refine fh (MA (cs:=shL n (d:Nat)) (cs':=shL F (E:Nat)) rfl Ag Ag rfl rfl rfl X Y) rfl ?_;exact⟨V.drew,Or.inl ⟨n,d,F,E,rfl,HQ.out,U.out⟩⟩
   · have q:=Arr.new D 118 (shL 0 0)
     go_upto_region 5 with(refine Aa (vs:=shL 0 0) rfl rfl rfl rfl rfl Ag q rfl (AN _ _) ?_;intro S H t)
     have A:Ext D S:=((Ext.refl D).alloc _).grownR t (lrf _);have a:=z.trans A;have o:=g.trans a;have j:=B.ext a;have k:=C.ext a;clear q t
     go_wp2_with(first
      | (refine Aa (vs:=shL 0 0) rfl rfl rfl rfl rfl Ag j rfl (AN _ _) ?_;intro w9 I v;have J:=k.kept v (by simp))
      | (refine Aa (vs:=shL 0 0) rfl rfl rfl rfl rfl Ag J rfl (AN _ _) ?_;intro a1 l f))
     refine fh (MA rfl Ag Ag rfl rfl rfl (I.kept f (by simp)) l) rfl ?_;exact⟨((o.grownR v (lrf _))).grownR f (by omega),Or.inr rfl⟩
 · have q:=Arr.new K 118 (shL 0 0)
   go_upto_region 2 with(refine Aa (vs:=shL 0 0) rfl rfl rfl rfl rfl Ag q rfl (AN _ _) ?_;intro w2 G r)
   have y:Ext K w2:=((Ext.refl K).alloc _).grownR r (lrf _);have b:=x.trans y;have g:=N.trans b;have B:=W.ext b;have C:=T.ext b;clear q r
   go_wp2_with(first
    | (refine Aa (vs:=shL 0 0) rfl rfl rfl rfl rfl Ag B rfl (AN _ _) ?_;intro w9 I v;have J:=C.kept v (by simp))
    | (refine Aa (vs:=shL 0 0) rfl rfl rfl rfl rfl Ag J rfl (AN _ _) ?_;intro a1 l f))
   refine fh (MA rfl Ag Ag rfl rfl rfl (I.kept f (by simp)) l) rfl ?_;exact⟨((g.grownR v (lrf _))).grownR f (by omega),Or.inr rfl⟩
def vaQ(l:List UInt8):Rat:=(Bn l).getD 0
theorem FJ(K:Bk w)(M:s.size<=570):Calls prog 60 #[.string s] w (Ib w (vaQ (Ah s))):=by
 have g:=fun(P:World) (J:Ext w P)=>qh (J1 (s:=s) (K.ext J) M);obtain⟨o,z⟩:∃ o,Bn (Ah s)=o:=⟨_,rfl⟩;have I:Hid (vaQ (Ah s)=o.getD 0):=qh (by unfold vaQ;rw[z]);rw[z]at g;clear z
 go_enter func60,ntmps60
 go_upto_region 1 with(fail)
 refine Bv ?_;intro N d i E;have G:Arr N w.heap.size 125 (As false none 0 0 false none 0 0):=i;clear i E
 go_wp2_with fail
 refine(g _ d).out.mono ?_;rintro e F ⟨_,rfl,f,s1,l,r,n,m,q,p,rfl,t,A,C⟩;have H:=Arr.new F 125 (As false none 0 0 false none 0 0);have L:(As s1 l r n false m q p).toArray=#[.bool s1,.slice l r n,.bool false,.slice m q p]:=rfl
 go_upto_region 2 with(refine Aa (vs:=As s1 l r n false m q p) rfl rfl rfl rfl rfl Ac H rfl (Aq _ _ _ _ _ _ _ _) ?_;intro O b k)
 have a:Ext F O:=((Ext.refl F).alloc _).grownR k (lrf _);have x:=(d.trans f).trans a;have j:=(G.ext f).ext a;have B:=A.ext a;have D:=C.ext a;have R:=b.c 0 rfl;have S:=b.c 1 rfl;have T:=b.c 2 rfl;have U:=b.c 3 rfl;clear g G d f a H k
 go_wp2_with(refine Aa (vs:=As s1 l r n false m q p) rfl rfl rfl rfl rfl Ac j rfl (Aq _ _ _ _ _ _ _ _) ?_;intro Q v y)
 refine fh (At rfl Ac rfl v) rfl ?_;rw[I.out];exact BJ x j (AM _ _ _ _ _ _ _ _) y (lrf _) t B D
theorem V6:∃ i,prog.info? 5=some i/\i.size=1:=by
 have h:=D5;unfold A9 at h;cases a:prog.info? 5 with
 | none=>rw[a]at h;cases h
 | some i=>rw[a]at h;simp at h;exact⟨i,rfl,h.2.1⟩
def Tu(wb:World)(g c:Nat)(T:TypeId)(l:List UInt8)(e:Ending)(w':World):Prop:=e = .returned (.slice (some ⟨g,0,none⟩) l.length c)/\Ext wb w'/\∃ cs',Arr w' g T cs'/\cs'.length=c/\cs'.take l.length=l.map AG
theorem QS.bg{e:Ending}(h:QS w g c T l e w')(a:Ext wb w)(b:wb.heap.size<=g):Tu wb g c T l e w':=by
 obtain⟨h1,⟨d,h2,h3⟩,h4⟩:=h;exact⟨h1,(a.trans h2).grownR h3 b,h4⟩
theorem Xu(w:World)(b:UInt8):Go.Src prog 1 159 (.slice (some ⟨w.heap.size,0,none⟩) 1 1) 1 ([b].map AG) (w.alloc (.cells #[AG b] 5)):=by
 refine Go.Src.ofSlice (P:=prog) _ underlying159 _ _ _ _ (by simp) (fun j v c => ?_) (IM _);have d:=Arr.new w 5 [AG b];have a:j=0:=by have:=(gC.1 c).1;simp at this;omega
 subst a;have e:v=AG b:=by simpa using c.symm
 rw[e];exact d.cell (i:=0) (by simp)
theorem Pf(B:Bk wb)(s:Ext wb w)(t:wb.heap.size<=g)(j:Arr w g T cs)(o:cs.length=c)(p:l.length=n)(H:n+21<=c)(q:cs.take n=l.map AG)(h0 : -4000000000000000000<z)(h1:z<4000000000000000000) :
 Calls prog 130 #[.slice (some ⟨g,0,none⟩) n c,.int .i64 z,.int .i64 10] w (Tu wb g c T (l ++ Lib.itoa z)):=by
 obtain⟨I,A,y⟩:=V6;by_cases D:z<0
 · have x:Lib.itoa z=[45] ++ Lib.decDigits z.natAbs:=by unfold Lib.itoa;rw[fG D];rfl
   rw[x,<-ge];have hA1:Arr (w.alloc (.cells #[.int .u8 45] 5)) g T cs:=j.alloc _;have i:=Xu w 45;have C:([45].map AG).length=1:=rfl;obtain⟨r,b⟩:∃ r,l ++ [45] ++ Lib.decDigits z.natAbs=r:=⟨_,rfl⟩;rw[b];have d:=qh (And.intro o (And.intro p q));clear o p q j
   go_enter func130,ntmps130
   go_upto_region 4 with(refine JP (m:=1) rfl rfl underlying159 A y rfl rfl i hA1 (by omega) (by rw[d.out.1];omega) ?_;intro G hA2 v)
   have f:Ext wb G:=(s.alloc _).grownR v t
   have a:=qh (IQ (u:=z.natAbs) (l:=l ++ [45]) (n:=n+1) (B.ext f) hA2 (M7 rfl d.out.1 (by omega)) (by rw[fo,d.out.2.1];rfl) (by omega) (by
    have h:=JQ (r:=[45]) (m:=1) d.out.2.2;rw[fo,d.out.2.1]at h
    exact h) (by omega))
   have E:IntKind.u64.wrap (-(IntKind.u64.wrap z))=(z.natAbs:Int):=by
    rw[gN,gN];omega
   rw[b]at a;clear b
   go_wp2_with fail
   refine a.out.mono ?_;rintro e F h;obtain⟨rfl,h1,h2⟩:=h.bg f t;go_wp2;go_ret;exact⟨rfl,h1,h2⟩
 · have x:Lib.itoa z=Lib.decDigits z.natAbs:=by unfold Lib.itoa;rw[fl D];congr 1;omega
   rw[x];obtain⟨k,rfl⟩:∃ k:Nat,z=k:=⟨z.natAbs,by omega⟩;rw[gF];have a:=qh (IQ (u:=k) (B.ext s) j o p (by omega) q (by omega));have E:IntKind.u64.wrap (k:Int)=(k:Int):=wrap_u64 (by omega) (by omega);obtain⟨r,b⟩:∃ r,l ++ Lib.decDigits k=r:=⟨_,rfl⟩;rw[b]at a |-;clear o p q j b
   go_enter func130,ntmps130
   go_wp2_with fail
   refine a.out.mono ?_;rintro e F h;obtain⟨rfl,h1,h2⟩:=h.bg s t;go_wp2;go_ret;exact⟨rfl,h1,h2⟩
theorem LE(k:Bk wb)(j:Ext wb w)(o:wb.heap.size<=g)(a:Arr w g T cs)(b:cs.length=c)(d:l.length=n)(m:n+21<=c)(i:cs.take n=l.map AG)(h0 : -4000000000000000000<z)(h1:z<4000000000000000000) :
 Calls prog 90 #[.slice (some ⟨g,0,none⟩) n c,.int .i64 z,.int .i64 10] w (Tu wb g c T (l ++ Lib.itoa z)):=by
 have h:=qh (Pf k j o a b d m i h0 h1);obtain⟨r,f⟩:∃ r,l ++ Lib.itoa z=r:=⟨_,rfl⟩;rw[f]at h |-;clear b d i a f
 go_enter func90,ntmps90
 go_wp2_with fail
 refine h.out.mono ?_;rintro e p ⟨rfl,h1,h2⟩;go_wp2;go_ret;exact⟨rfl,h1,h2⟩
theorem FK(h:q.den=1):txt q=Lib.itoa q.num:=by unfold txt;rw[fG h,iO]
theorem Tv(h:q.den≠1):txt q=(Lib.itoa q.num ++ [47]) ++ Lib.itoa (q.den:Int):=by
 have e:Lib.itoa (q.den:Int)=Lib.decDigits q.den:=by unfold Lib.itoa;rw[fl (by omega)];rfl
 unfold txt;rw[fl h,e,ge];rfl
theorem Kf(h0 : -4000000000000000000<z)(h1:z<4000000000000000000):(Lib.itoa z).length<=20:=by
 have a:∀ n:Nat,n<10000000000000000000->(Lib.decDigits n).length<=19:=fun n h=>W.dec_len (k:=19) (by omega) (by omega);unfold Lib.itoa;split
 · have:=a z.natAbs (by omega);simp;omega
 · have:=a z.toNat (by omega);omega
theorem E0{n:Int}(hT:Bk w)(h0 : -4000000000000000000<n)(h1:n<4000000000000000000)(hd:0<d)(h2:d<4000000000000000000) :
 Calls prog 59 #[.int .i64 n,.int .i64 (d:Int)] w fun e w'=>e = .returned (.string ⟨(txt (mkRat n d)).toArray⟩)/\Ext w w':=by
 obtain⟨iu,a8,a7⟩:=V6;obtain⟨I,J⟩:=Pl.rat_frac (n:=n) (d:=d) (by omega);obtain⟨q,hq⟩:∃ q,mkRat n d=q:=⟨_,rfl⟩;rw[hq]at I J |-;have D:=fun(wx:World) (hC:Ext w wx) (z:Int) (a : -4000000000000000000<z) (b:z<4000000000000000000)=>qh (D8 (z:=z) (hT.ext hC) (by omega) (by omega));have af:¬ (d:Int)<0:=by omega
 by_cases a5:d=1
 · subst a5;have V:q.den=1:=by rw[J,jC]
   have X:q.num=n:=by rw[I,jC];exact md _
   rw[FK V,X];clear I J hq V X
   go_enter func59,ntmps59
   go_wp2_with fail
   refine(D _ (Ext.refl _) n h0 h1).out.mono ?_;rintro e w1 ⟨rfl,f⟩;go_wp2;go_ret;exact⟨rfl,f⟩
 · have O:0<Nat.gcd n.natAbs d:=lH _ hd;have E:∀ (wx:World) (m:Int),m=(n.natAbs:Int)->Hid _:=fun wx m hm=>qh (by have h:=NZ (x:=n.natAbs) (y:=d) (w:=wx) (by omega) (by omega);rw[<-hm]at h;exact h);obtain⟨G,hG⟩:∃ G,Nat.gcd n.natAbs d=G:=⟨_,rfl⟩;rw[hG]at I J O E;have a4:(G:Int)≠0:=by omega
   have a6:¬ (d:Int)=1:=by omega
   have C:(d:Int).tdiv (G:Int)=((d/G:Nat):Int):=rfl;have g : -4000000000000000000<q.num/\q.num<4000000000000000000:=by
    have h1:q.num.natAbs<=n.natAbs:=by rw[I,lS];exact gy _ _
    omega
   have ae:q.den<4000000000000000000:=by rw[J];exact fI (gy _ _) h2
   rw[<-J]at C;have Z:=I.symm;obtain⟨t,ht⟩:∃ t,txt q=t:=⟨_,rfl⟩;rw[ht];have HT:=qh ht;clear I J hq hG O ht
   go_enter func59,ntmps59
   go_wp2_with fail
   all_goals
    refine(E _ _ (by omega)).out.mono ?_;rintro e w1 ⟨rfl,hQ⟩;have f:=hQ.ext;clear hQ
    go_upto_region 5 with(fail)
    have k1:IntKind.i64.wrap (n.tdiv (G:Int))=q.num:=by rw[Z];exact fO _ (by omega)
    have k2:IntKind.i64.wrap ((d:Int).tdiv (G:Int))=(q.den:Int):=by rw[C];exact fO _ (by omega)
    go_region
    replace f:=f.drew;generalize w1.drew=w2 at *
    clear k1 k2 C Z a4 a6 E;by_cases j:q.den=1
    · have HR:Hid (Lib.itoa q.num=t):=qh (by rw[<-FK j];exact HT.out);have a9:((q.den:Int) == 1)=true:=by simp[j]
      clear j
      go_wp2_with fail
      refine(D _ f _ g.1 g.2).out.mono ?_;rintro e w3 ⟨rfl,i⟩;go_wp2;go_ret;exact⟨by rw[<-HR.out];rfl,f.trans i⟩
    · have HR:Hid (Lib.itoa q.num ++ [47] ++ Lib.itoa (q.den:Int)=t):=qh (by rw[<-Tv j];exact HT.out);have a9:((q.den:Int) == 1)=false:=by simp;omega
      clear j D;obtain⟨p,B⟩:∃ p,w2.heap.size=p:=⟨_,rfl⟩
      go_upto_region 9 with(fail)
      refine Bv ?_;intro w3 i A ab;rw[B]at A;replace i:=f.trans i;have hg:w.heap.size<=p:=by rw[<-B];exact f.size
      obtain⟨cs,hB,hl⟩:∃ cs,Arr w3 p 158 cs/\cs.length=48:=⟨_,A,rfl⟩;clear A ab B f
      have aa:∀ W,(Instr.sliceAt 158 (.pointer (some ⟨p,0,none⟩)) none (some (.int .i64 0)) none).run prog W = .ok (.slice (some ⟨p,0,none⟩) 0 48) W:=fun W=>by
       have Q:prog.arrayLen 158=48:=by kernel_rfl
       have h:=run_sliceAt_array_h (P:=prog) W 158 ⟨p,0,none⟩ (by simp[Program.arrayLen,Program.elem,underlying158]) .i64 0 (by omega) (by rw[Q];omega);rw[h,Q];go_simp
      have S:=Kf g.1 g.2;have c:=qh (LE (l:=[]) (n:=0) hT i hg hB hl rfl (by omega) rfl g.1 g.2);rw[iM]at c;obtain⟨t1,Y⟩:∃ t1,Lib.itoa q.num=t1:=⟨_,rfl⟩;rw[Y]at c HR S;obtain⟨L,hL⟩:∃ L,t1.length=L:=⟨_,rfl⟩;rw[hL]at S;have HL:=qh hL;clear Y hL hB hl
      go_wp2_with fail
      refine c.out.mono ?_;rintro e w4 ⟨rfl,a1,a0,K,T,F⟩;rw[HL.out]at F |-;have v:=qh (And.intro T F);clear c T F aa;have hA5:Arr (w4.alloc (.cells #[.int .u8 47] 5)) p 158 a0:=K.alloc _;have s:=Xu w4 47;have U:([47].map AG).length=1:=rfl;clear K
      go_upto_region 11 with(refine JP (m:=1) rfl rfl underlying159 a8 a7 rfl rfl s hA5 (by omega) (by rw[v.out.1];omega) ?_;intro w5 M R)
      have a2:Ext w w5:=(a1.alloc _).grownR R hg
      have c:=qh (LE (l:=t1 ++ [47]) (n:=L+1) (z:=(q.den:Int)) hT a2 hg M (M7 rfl v.out.1 (by omega)) (by rw[fo,HL.out];rfl) (by omega) (by
       have h:=JQ (r:=[47]) (m:=1) v.out.2;rw[fo,HL.out]at h
       exact h) (by omega) (by omega))
      rw[HR.out]at c;clear M R s U
      go_wp2_with fail
      refine c.out.mono ?_;rintro e w6 ⟨rfl,a3,ad,N,o,H⟩;have ac:t.length<=48:=by
       have h:=fM List.length H;simp only[go,fq,o]at h;omega
      have hS:=N.sl (k:=t.length) (by omega) (by rw[o];unfold maxLen;omega);rw[o,H]at hS;clear H o N c
      go_wp2_with(refine ET rfl rfl underlying159 underlying5 underlying9 rfl hS ?_)
      go_ret;exact⟨rfl,a3⟩
theorem Tw{y:Rat}(N:Bk w)(hb:b<=900)(L:Pl.RB b x)(Q:Pl.RB b y)(lx:(txt x).length<=570)(ly:(txt y).length<=570) :
 Calls prog 35 #[.string ⟨(txt x).toArray⟩,.string ⟨(txt y).toArray⟩] w fun e w'=>e = .returned (.string ⟨(txt (x+y)).toArray⟩)/\Ext w w':=by
 have sx:(⟨(txt x).toArray⟩:ByteArray).size<=570:=by rw[<-AD,AO];exact lx
 have sy:(⟨(txt y).toArray⟩:ByteArray).size<=570:=by rw[<-AD,AO];exact ly
 have E:=qh (IZ (w:=w) (s:=⟨(txt x).toArray⟩) (s':=⟨(txt y).toArray⟩) (by omega) (by omega));have F:=fun(f:World) (p:Ext w f)=>qh (FJ (s:=⟨(txt x).toArray⟩) (N.ext p) sx);have G:=fun(f:World) (p:Ext w f)=>qh (FJ (s:=⟨(txt y).toArray⟩) (N.ext p) sy);have e1:vaQ (Ah ⟨(txt x).toArray⟩)=x:=by unfold vaQ;rw[AO,A6];rfl
 have e2:vaQ (Ah ⟨(txt y).toArray⟩)=y:=by unfold vaQ;rw[AO,A6];rfl
 rw[e1]at F;rw[e2]at G;rw[AO,AO]at E;have O:=fun(f:World) (v v':Value) (p:Ext w f) (h:BI f v x) (h':BI f v' y)=>qh (QV (N.ext p) h h' (Ak L.1 (by omega)) (Ak L.2 (by omega)) (Ak Q.1 (by omega)) (Ak Q.2 (by omega)));have K:=L.add Q;have J:=fun(f:World) (v:Value) (p:Ext w f) (h:BI f v (x+y))=>qh (GI (N.ext p) h (Ak K.1 (by omega)) (Ak K.2 (by omega)))
 have D:∀ n d i a,ShQ (txt x) n d->ShQ (txt y) i a->∀ f,Ext w f->Hid (Calls prog 59 #[.int .i64 (n*(a:Int)+i*(d:Int)),.int .i64 ((d:Int)*(a:Int))] f fun e w'=>e = .returned (.string ⟨(txt (x+y)).toArray⟩)/\Ext f w')/\((-1000000000000000000<n*(a:Int)/\n*(a:Int)<1000000000000000000)/\(-1000000000000000000<i*(d:Int)/\i*(d:Int)<1000000000000000000))/\((d:Int)*(a:Int))<=9223372036854775807:=by
  rintro n d i a ⟨q1,b1,c1,f1⟩ ⟨q2,b2,c2,f2⟩ f p;rw[A6]at q1 q2;have k1:x=mkRat n d:=fD q1;have k2:y=mkRat i a:=fD q2;have a5:(n*(a:Int)).natAbs<1000000000*1000000000:=by
   rw[ia];exact Nat.mul_lt_mul'' b1 f2
  have a6:(i*(d:Int)).natAbs<1000000000*1000000000:=by
   rw[ia];exact Nat.mul_lt_mul'' b2 f1
  have a3:d*a < 1000000000*1000000000:=Nat.mul_lt_mul'' f1 f2;have hd0:0<d*a:=jj c1 c2;have h:=E0 (w:=f) (n:=n*(a:Int)+i*(d:Int)) (d:=d*a) (N.ext p) (by omega) (by omega) hd0 (by omega);rw[<-Rat.mkRat_add_mkRat _ _ (by omega) (by omega),<-k1,<-k2,fU]at h;refine⟨qh h,⟨⟨by omega,by omega⟩,by omega,by omega⟩,?_⟩;rw[<-fU];omega
 clear sx sy e1 e2 L Q K;obtain⟨S,hS⟩:∃ S:ByteArray,⟨(txt x).toArray⟩=S:=⟨_,rfl⟩;obtain⟨S',M⟩:∃ S:ByteArray,⟨(txt y).toArray⟩=S:=⟨_,rfl⟩;obtain⟨R,V⟩:∃ S:ByteArray,⟨(txt (x+y)).toArray⟩=S:=⟨_,rfl⟩;rw[hS]at E F |-;rw[M]at E G |-;rw[V]at J |-;simp only[V]at D;clear hS M V
 go_enter func35,ntmps35
 go_wp2_with fail
 refine E.out.mono ?_;rintro e H ⟨g,⟨n,d,i,a,rfl,hq,P⟩|rfl⟩
 · have Z:(shL n (d:Nat)).toArray=#[.int .i64 n,.int .i64 (d:Int)]:=rfl;have a4:(shL i (a:Nat)).toArray=#[.int .i64 i,.int .i64 (a:Int)]:=rfl;have t:=(Arr.new H 118 (shL 0 0)).alloc (.cells (shL 0 0).toArray 118);have j:=Arr.new (H.alloc (.cells (shL 0 0).toArray 118)) 118 (shL 0 0);have A:(H.alloc (.cells (shL 0 0).toArray 118)).heap.size=H.heap.size+1:=by simp
   rw[A]at j;have HQ:=qh (fun f p=>D n d i a hq P f p);clear D hq P A F G O J
   go_upto_region 2 with(first
    | (refine Aa (vs:=shL n (d:Nat)) rfl rfl rfl rfl rfl Ag t rfl (AN _ _) ?_;intro w2 B k;have z:=j.kept k (by simp))
    | (refine Aa (vs:=shL i (a:Nat)) rfl rfl rfl rfl rfl Ag z rfl (AN _ _) ?_;intro T o m;have I:=B.kept m (by simp)))
   have r:Ext w T:=(((g.alloc _).alloc _).grownR k g.size).grownR m (Nat.le_succ_of_le g.size);have p0:=I.c 0 rfl;have p1:=I.c 1 rfl;have q0:=o.c 0 rfl;have q1:=o.c 1 rfl;obtain⟨hF,⟨hr,a0⟩,a1⟩:=HQ.out T r;have a2:(0:Int)<=(d:Int)*(a:Int):=jQ (by omega) (by omega);have m1:IntKind.i64.wrap (n*(a:Int))=n*(a:Int):=fO _ (by omega);have m3:IntKind.i64.wrap (i*(d:Int))=i*(d:Int):=fO _ (by omega);have m4:IntKind.i64.wrap (n*(a:Int)+i*(d:Int))=n*(a:Int)+i*(d:Int):=fO _ (by omega)
   have m2:IntKind.i64.wrap ((d:Int)*(a:Int))=(d:Int)*(a:Int):=fO _ (by omega);clear hr a0 a1 a2 B o I k m t j z HQ g
   go_wp2_with fail
   refine hF.out.mono ?_;rintro e w4 ⟨rfl,l⟩;go_wp2;go_ret;exact⟨rfl,r.trans l⟩
 · have Z:(shL 0 0).toArray=#[.int .i64 0,.int .i64 0]:=rfl;have t:=(Arr.new H 118 (shL 0 0)).alloc (.cells (shL 0 0).toArray 118);have j:=Arr.new (H.alloc (.cells (shL 0 0).toArray 118)) 118 (shL 0 0);have A:(H.alloc (.cells (shL 0 0).toArray 118)).heap.size=H.heap.size+1:=by simp
   rw[A]at j;clear D A
   go_upto_region 2 with(first
    | (refine Aa (vs:=shL 0 0) rfl rfl rfl rfl rfl Ag t rfl (AN _ _) ?_;intro w2 B k;have z:=j.kept k (by simp))
    | (refine Aa (vs:=shL 0 0) rfl rfl rfl rfl rfl Ag z rfl (AN _ _) ?_;intro T o m))
   have r:Ext w T:=(((g.alloc _).alloc _).grownR k g.size).grownR m (Nat.le_succ_of_le g.size);clear B o k m t j z g
   go_wp2_with fail
   refine(F _ r).out.mono ?_;rintro e w4 ⟨c4,rfl,l,W⟩;replace l:=r.trans l
   go_wp2_with fail
   refine(G _ l).out.mono ?_;rintro e w5 ⟨c5,rfl,q,X⟩;have L:BI w5 _ x:=⟨c4,rfl,W.ext q⟩;replace q:=l.trans q
   go_wp2_with fail
   refine(O _ _ _ q L ⟨c5,rfl,X⟩).out.mono ?_;rintro e w6 ⟨c6,rfl,C,Y⟩;replace C:=q.trans C
   go_wp2_with fail
   refine(J _ _ C ⟨c6,rfl,Y⟩).out.mono ?_;rintro e w7 ⟨rfl,U⟩;go_wp2;go_ret;exact⟨rfl,C.trans U⟩
theorem Rw(hT:Bk w)(hs:s.size<=570):Calls prog 63 #[.string s] w fun e U=>e = .returned (.bool (Bn (Ah s)).isSome)/\Ext w U:=by
 have S:=fun(g:World)=>qh (D7 (s:=s) (w:=g) (by omega));have z:=Ij s;obtain⟨⟨⟨A,f,b⟩,ok⟩,K⟩:∃ P,CG (Ah s)=P:=⟨_,rfl⟩;simp only[K]at z;have a0:(BK A f b).toArray=#[.bool A,.string ⟨f.toArray⟩,.string ⟨b.toArray⟩]:=rfl;rw[a0]at z;obtain⟨B,V⟩:∃ B,Hid ((Bn (Ah s)).isSome=B):=⟨_,qh rfl⟩;rw[V.out]
 have HF:Hid (ok=false->B=false):=qh fun h=>by
  rw[<-V.out];unfold Bn;simp[K,h]
 have HK:Hid (ok=true->W.digs f/\W.digs b/\f.length<=570/\b.length<=570/\B=if b=[]then true else decide (Nat.gcd (W.decV f) (W.decV b)=1)):=qh fun h=>by
  subst h;have hS:=FZ K;have h1:=fM List.length hS.eq;rw[AD]at h1;simp only[fo]at h1;refine⟨hS.dn,hS.dd,by omega,?_,?_⟩
  · by_cases h:b=[]
    · simp[h]
    · rw[fl h]at h1;simp at h1;omega
  · rw[<-V.out];unfold Bn;simp only[K];have hz:(if A=true then -((W.decV f:Nat):Int)else((W.decV f:Nat):Int)).natAbs=W.decV f:=by split <;> omega
    by_cases h:b=[]
    · simp[h]
    · simp only[h,jZ];rw[hz];by_cases hg:Nat.gcd (W.decV f) (W.decV b)=1 <;> simp[hg]
 clear K
 go_enter func63,ntmps63
 go_wp2_with fail
 refine(S _).out.mono ?_;rintro e w1 ⟨E,⟨n,d,rfl,hq⟩|rfl⟩
 · have hl:(shL n (d:Nat)).toArray=#[.int .i64 n,.int .i64 (d:Int)]:=rfl;have L:=Arr.new w1 118 (shL 0 0);have C:Hid (B=true):=qh (by rw[<-V.out,hq.1];rfl)
   go_upto_region 2 with(refine Aa (vs:=shL n (d:Nat)) rfl rfl rfl rfl rfl Ag L rfl (AN _ _) ?_;intro w2 D o)
   have t:=E.trans (((Ext.refl w1).alloc _).grownR o (lrf _));clear D o L;go_wp2;go_ret;exact⟨by rw[C.out];rfl,t⟩
 · have hl:(shL 0 0).toArray=#[.int .i64 0,.int .i64 0]:=rfl;have L:=Arr.new w1 118 (shL 0 0)
   go_upto_region 2 with(refine Aa (vs:=shL 0 0) rfl rfl rfl rfl rfl Ag L rfl (AN _ _) ?_;intro w2 D o)
   have t:=E.trans (((Ext.refl w1).alloc _).grownR o (lrf _));clear D o L E S
   go_wp2_with fail
   refine(z w2 (by omega)).mono ?_;rintro e w3 ⟨rfl,J⟩;have M:=Arr.new w3 167 (BK false [] [])
   go_upto_region 5 with(refine Aa (vs:=BK A f b) rfl rfl rfl rfl rfl A5 M rfl (Cb _ _ _) ?_;intro w4 q N)
   have y:=(t.trans J).trans (((Ext.refl w3).alloc _).grownR N (lrf _));obtain⟨F,hF⟩:∃ F,w3.heap.size=F:=⟨_,rfl⟩;rw[hF]at q |-;have c1:=q.c 1 rfl;have c2:=q.c 2 rfl;clear q N M t J hF z;cases ok with
   | false =>
    have C:=qh (HF.out rfl);go_wp2;go_ret;exact⟨by rw[C.out];rfl,y⟩
   | true =>
    obtain⟨X,Y,l1,l2,k⟩:=HK.out rfl;by_cases Z:b=[]
    · subst Z;rw[fG rfl]at k;have C:=qh k;clear k X Y l1 l2;go_wp2;go_ret;exact⟨by rw[C.out];rfl,y⟩
    · have a4:b.isEmpty=false:=by cases b with | nil=>exact absurd rfl Z | cons _ _=>rfl
      rw[fl Z]at k;have C:=qh k;have Q:=fun g=>qh (FX (s:=⟨f.toArray⟩) (w:=g) (by rw[AO];exact X) (by show f.toArray.size<=_;simpa using l1));have R:=fun g=>qh (FX (s:=⟨b.toArray⟩) (w:=g) (by rw[AO];exact Y) (by show b.toArray.size<=_;simpa using l2));rw[AO]at Q R;have b1:=JC X l1;have b2:=JC Y l2;have O:=fun(g:World) (v v':Value) (i:Ext w g) (h:AQ g v ((W.decV f:Nat):Int)) (h':AQ g v' ((W.decV b:Nat):Int))=>qh (FV (hT.ext i) h h' (Ak b1 (by omega)) (Ak b2 (by omega)))
      simp only[gF]at O;have a3:=fun(g:World) (v:Value) (h:AQ g v ((Nat.gcd (W.decV f) (W.decV b):Nat):Int))=>qh (Dd (r:=decide (Nat.gcd (W.decV f) (W.decV b)=1)) h (jJ.2 (by omega)));clear k Z X Y l1 l2 b1 b2
      go_upto_region 7 with(fail)
      have p:=fun(g:World) (i:Ext w4 g)=>qh (And.intro (i.cell c1) (i.cell c2))
      refine Ad
       [hdP F 1,he (.string ⟨f.toArray⟩),hp (fun v g=>NI ((W.decV f:Nat):Int) v g),hdP F 2,he (.string ⟨b.toArray⟩),hp (fun v g=>NI ((W.decV b:Nat):Int) v g),hp (fun v g=>NI ((Nat.gcd (W.decV f) (W.decV b):Nat):Int) v g),hp (fun v g=>v = .bool (decide (Nat.gcd (W.decV f) (W.decV b)=1)))]
       ⟨NI.x _,NI.x _,NI.x _,fun _ _ _ _ h=>h,trivial⟩ ⟨?o0,?o1,?o2,?o3,?o4,?o5,?o6,?o7,trivial⟩ ?fin
      case o0=>exact ofa (d:=1)
      case o1 | o4=>exact ol
      case o3=>exact ofa (d:=2)
      case o2 =>
       refine Ai rfl fun ρ g i m G h => ?_;have e1:_=_:=h.2.1;obtain⟨k1,k2⟩:=(p g i).out;refine⟨102,#[.string ⟨f.toArray⟩],by go_simp,((Q g).out).mono ?_⟩;rintro e U ⟨s,a,n,c,rfl,j,h1,h2⟩;exact⟨_,rfl,j,s,a,n,c,rfl,h1,h2⟩
      case o5 =>
       refine Ai rfl fun ρ g i m G h => ?_;have e1:_=_:=h.2.1;obtain⟨k1,k2⟩:=(p g i).out;refine⟨102,#[.string ⟨b.toArray⟩],by go_simp,((R g).out).mono ?_⟩;rintro e U ⟨s,a,n,c,rfl,j,h1,h2⟩;exact⟨_,rfl,j,s,a,n,c,rfl,h1,h2⟩
      case o6 =>
       refine Ai rfl fun ρ g i m G h => ?_;obtain⟨v1,e1,s1,H,T,l,rfl,i1,j1⟩:=h.2.1;obtain⟨v2,e2,s2,a2,n2,I,rfl,i2,j2⟩:=h.2.2.1;obtain⟨k1,k2⟩:=(p g i).out;refine⟨94,#[.agg (Ae s1 H T l).toArray,.agg (Ae s2 a2 n2 I).toArray],by go_simp,((O g _ _ (y.trans i) ⟨s1,H,T,l,rfl,i1,j1⟩ ⟨s2,a2,n2,I,rfl,i2,j2⟩).out).mono ?_⟩;rintro e U ⟨s,a,n,c,rfl,j,h1,h2⟩;exact⟨_,rfl,j,s,a,n,c,rfl,h1,h2⟩
      case o7 =>
       refine Ai rfl fun ρ g i m G h => ?_;obtain⟨v1,e1,s1,H,T,l,rfl,i1,j1⟩:=h.2.1;obtain⟨k1,k2⟩:=(p g i).out;refine⟨96,#[.agg (Ae s1 H T l).toArray],by go_simp,((a3 g _ ⟨s1,H,T,l,rfl,i1,j1⟩).out).mono ?_⟩;rintro e U ⟨rfl,j⟩;exact⟨_,rfl,j,rfl⟩
      case fin =>
       intro g i;rintro _ ⟨_,_,_,_,rfl,_,_⟩;rintro _ ⟨_,_,_,_,rfl,_,_⟩;rintro _ ⟨_,_,_,_,rfl,_,_⟩;rintro _ rfl;change wpList _ _ _ _ _ _;simp only[CB];go_wp2;go_ret;exact⟨by rw[C.out];rfl,y.trans i⟩
theorem Tz{v:Value}(hT:Bk w)(h:BI w v p)(h':BI w v' q)(b1:p.num.natAbs<P2 2400)(b2:p.den<P2 2400)(b3:(q⁻¹).num.natAbs<P2 2400)(b4:(q⁻¹).den<P2 2400) :
 Calls prog 65 #[v,v'] w (Ib w (p*q⁻¹)):=by
 have A:=fun(g:World) (f:Ext w g)=>qh (OV (h'.ext f));have D:=fun(g:World) (u:Value) (f:Ext w g) (hu:BI g u q⁻¹)=>qh (VN (hT.ext f) (h.ext f) hu b1 b2 b3 b4);obtain⟨_,rfl,s,a,n,c,b,m,d,rfl,HS,hx,hy⟩:=h;obtain⟨_,rfl,K,E,J,G,F,I,H,rfl,a8,V,X⟩:=h';have B:(As s a n c false b m d).toArray=#[.bool s,.slice a n c,.bool false,.slice b m d]:=rfl;have C:(As K E J G false F I H).toArray=#[.bool K,.slice E J G,.bool false,.slice F I H]:=rfl;rw[B]at D |-;rw[C]at A |-;clear b1 b2 b3 b4 hx hy V X B C
 go_enter func65,ntmps65
 go_upto_region 1 with(fail)
 refine IG ?_;intro w0 l i j t Z;have p0:=i.c 0 rfl;have p1:=i.c 1 rfl;have p2:=i.c 2 rfl;have p3:=i.c 3 rfl;have q0:=j.c 0 rfl;have q1:=j.c 1 rfl;have q2:=j.c 2 rfl;have q3:=j.c 3 rfl;have hR:Arr w0 (w.heap.size+2) 125 (As false none 0 0 false none 0 0):=t;clear i j t Z;have o:=fun(g:World) (f:Ext w0 g)=>qh (And.intro (f.cell p0) (And.intro (f.cell p1) (And.intro (f.cell p2) (And.intro (f.cell p3) (And.intro (f.cell q0) (And.intro (f.cell q1) (And.intro (f.cell q2) (f.cell q3))))))))
 refine Ad
  [he (.agg #[.bool s,.slice a n c,.bool false,.slice b m d]),he (.agg #[.bool K,.slice E J G,.bool false,.slice F I H]),hp (fun v g=>NR (q⁻¹) v g),hp (fun v g=>NR (p*q⁻¹) v g)]
  ⟨NR.x _,NR.x _,trivial⟩ ⟨?o0,?o1,?o2,?o3,trivial⟩ ?fin
 case o0 | o1=>exact ol4
 case o2 =>
  refine Ai rfl fun ρ g f z S h => ?_;have e1:_=_:=h.2.1;obtain⟨a0,a1,a2,a3,a4,a5,a6,a7⟩:=(o g f).out;refine⟨104,#[.agg #[.bool K,.slice E J G,.bool false,.slice F I H]],by go_simp,((A g (l.trans f)).out).mono ?_⟩;rintro e w' ⟨P,rfl,k,U⟩;exact⟨_,rfl,k,P,rfl,U⟩
 case o3 =>
  refine Ai rfl fun ρ g f z S h => ?_;have e1:_=_:=h.2.1;obtain⟨v2,e2,r,rfl,r2⟩:=h.2.2.1;obtain⟨a0,a1,a2,a3,a4,a5,a6,a7⟩:=(o g f).out;refine⟨103,#[.agg #[.bool s,.slice a n c,.bool false,.slice b m d],.agg r.toArray],by go_simp,((D g _ (l.trans f) ⟨r,rfl,r2⟩).out).mono ?_⟩;rintro e w' ⟨P,rfl,k,U⟩;exact⟨_,rfl,k,P,rfl,U⟩
 case fin =>
  intro g f;rintro _ ⟨_,rfl,_⟩;rintro _ ⟨_,rfl,s9,M,n9,O,N,m9,Q,rfl,L,W,Y⟩;change wpList _ _ _ _ _ _;simp only[CB];have y:=hR.ext f;have aa:(As s9 M n9 O false N m9 Q).toArray=#[.bool s9,.slice M n9 O,.bool false,.slice N m9 Q]:=rfl
  go_wp2_with(refine Aa (vs:=As s9 M n9 O false N m9 Q) rfl rfl rfl rfl rfl Ac y rfl (Aq _ _ _ _ _ _ _ _) ?_;intro w9 R T)
  exact fh (At rfl Ac rfl R) rfl (BJ (l.trans f) y (AM _ _ _ _ _ _ _ _) T (by omega) L W Y)
theorem MB(d:Bk w)(h0 : -9223372036854775808<=z)(h1:z<=9223372036854775807) :
 Calls prog 39 #[.int .i64 z] w fun e f=>e = .returned (.string ⟨(txt (z:Rat)).toArray⟩)/\Ext w f:=by
 have a:=qh (D8 d h0 h1);have e:Lib.itoa z=txt (z:Rat):=(FK (q:=(z:Rat)) rfl).symm;rw[e]at a;obtain⟨S,c⟩:∃ S:ByteArray,⟨(txt (z:Rat)).toArray⟩=S:=⟨_,rfl⟩;rw[c]at a |-;clear e c
 go_enter func39,ntmps39
 go_wp2_with fail
 refine a.out.mono ?_;rintro e g ⟨rfl,b⟩;go_wp2;go_ret;exact⟨rfl,b⟩
theorem N2:txt q=[48]<->q=0:=by
 have h0:Bn [48]=some 0:=by decide
 constructor
 · intro h;have h1:=A6 q;rw[h,h0]at h1;exact(fD h1).symm
 · rintro rfl;exact(Ie h0).symm
theorem Rx(v:Bk w)(i:(txt q).length<=570) :
 Calls prog 36 #[.string ⟨(txt q).toArray⟩] w fun e A=>(∃ r:Int,e = .returned (.int .i64 r)/\(r=0<->q=0))/\Ext w A:=by
 have f:=fun(B:World) (p:Ext w B)=>qh (Rw (s:=⟨(txt q).toArray⟩) (v.ext p) (by rw[<-AD,AO];exact i));rw[AO,A6]at f;simp only[kJ]at f;have l:=UN (txt q) [48];have g:=N2 (q:=q)
 have a:txt q≠[]:=fun h=>by
  have h1:=A6 q;rw[h]at h1;have h2:Bn []=none:=by decide
  rw[h2]at h1;cases h1
 by_cases h0:q=0
 · rw[g.2 h0];clear f l g a i
   go_enter func36,ntmps36
   go_wp2;go_ret;exact⟨⟨0,rfl,by simp[h0]⟩,Ext.refl _⟩
 · obtain⟨c,t,j⟩:=iY a;have d:¬ (c=48/\t=[]):=fun⟨m,o⟩=>h0 (g.1 (by rw[j,m,o]));have y:¬ c=48\/¬ t=[]:=by
    by_cases h:c=48
    · exact Or.inr fun h2=>d ⟨h,h2⟩
    · exact Or.inl h
   have z:(c == 48 && t.isEmpty)=false:=by
    by_cases h:c=48
    · have h2:t≠[]:=fun h2=>d ⟨h,h2⟩;cases t with
      | nil=>exact absurd rfl h2
      | cons _ _=>simp
    · simp[h]
   rw[j]at f |-;clear l g a i j
   go_enter func36,ntmps36
   go_wp2_with fail
   refine(f _ (Ext.refl _)).out.mono ?_;rintro e C ⟨rfl,b⟩;by_cases k:c=45
   · subst k;go_wp2;go_ret;exact⟨⟨-1,rfl,by simp[h0]⟩,b⟩
   · have x:=JB (t:=t) (n:=45) k;go_wp2;go_ret;exact⟨⟨1,rfl,by simp[h0]⟩,b⟩
theorem Pg{n:Int}{a:Nat}(b:0<a)(h:((m:Int):Rat)=mkRat n' a):n'=((m*a:Nat):Int)/\mkRat (n*(a:Int)) (d*(m*a))=mkRat n d*(((m:Int):Rat))⁻¹:=by
 have h1:((m:Int):Rat)=mkRat (m:Int) 1:=by rw[Rat.mkRat_one]
 have h2:n'=((m*a:Nat):Int):=by
  rw[h1]at h;have h3:=(Rat.mkRat_eq_iff (by omega) (by omega)).1 h;rw[fU];omega
 refine⟨h2,?_⟩;rw[<-iH,Rat.mkRat_mul_right (by omega)];have h4:(((m:Int):Rat))⁻¹=mkRat 1 m:=by
  rw[Pl.mkRat_div];show _=(1:Rat)*_;rw[Rat.one_mul];rfl
 rw[h4,Rat.mkRat_mul_mkRat,Int.mul_one]
theorem TA(hT:Bk w)(hm:1<=m)(ap:m<=4096)(hb:b<=900)(hx:Pl.RB b x)(lx:(txt x).length<=570) :
 Calls prog 38 #[.string ⟨(txt x).toArray⟩,.string ⟨(txt ((m:Int):Rat)).toArray⟩] w fun e w'=>e = .returned (.tuple #[.string ⟨(txt (x*(((m:Int):Rat))⁻¹)).toArray⟩,.bool true])/\Ext w w':=by
 obtain⟨y,hy⟩:∃ y:Rat,((m:Int):Rat)=y:=⟨_,rfl⟩;have a7:y.num=(m:Int):=by rw[<-hy];rfl
 have a5:y.den=1:=by rw[<-hy];rfl
 have ag:y≠0:=fun h=>by
  have:=Pl.rat_num_den_zero.2 h;omega
 have a6:=Pl.rat_inv_pos (a:=y) (by omega);have Q:Pl.RB 13 y⁻¹:=by
  have e:P2 13=8192:=by unfold P2;decide
  exact⟨by rw[a6.1,a5];omega,by rw[a6.2,a7];omega⟩
 have ly:(txt y).length<=570:=by
  rw[FK a5,a7];have:=Kf (z:=(m:Int)) (by omega) (by omega);omega
 have sx:(⟨(txt x).toArray⟩:ByteArray).size<=570:=by rw[<-AD,AO];exact lx
 have sy:(⟨(txt y).toArray⟩:ByteArray).size<=570:=by rw[<-AD,AO];exact ly
 rw[hy];have N:=qh (IZ (w:=w) (s:=⟨(txt x).toArray⟩) (s':=⟨(txt y).toArray⟩) (by omega) (by omega));have O:=fun(f:World) (g:Ext w f)=>qh (FJ (s:=⟨(txt x).toArray⟩) (hT.ext g) sx);have P:=fun(f:World) (g:Ext w f)=>qh (FJ (s:=⟨(txt y).toArray⟩) (hT.ext g) sy);have e1:vaQ (Ah ⟨(txt x).toArray⟩)=x:=by unfold vaQ;rw[AO,A6];rfl
 have e2:vaQ (Ah ⟨(txt y).toArray⟩)=y:=by unfold vaQ;rw[AO,A6];rfl
 rw[e1]at O;rw[e2]at P;rw[AO,AO]at N;have ac:=fun(f:World) (v v':Value) (g:Ext w f) (h:BI f v x) (h':BI f v' y)=>qh (Tz (hT.ext g) h h' (Ak hx.1 (by omega)) (Ak hx.2 (by omega)) (Ak Q.1 (by omega)) (Ak Q.2 (by omega)));have a4:=hx.mul Q;have a3:=fun(f:World) (v:Value) (g:Ext w f) (h:BI f v (x*y⁻¹))=>qh (GI (hT.ext g) h (Ak a4.1 (by omega)) (Ak a4.2 (by omega)));have a2:=fun(f:World) (v:Value) (h:BI f v y)=>qh (GJ h (r:=false) (fK ag))
 have M:∀ n d q i,ShQ (txt x) n d->ShQ (txt y) q i->(q != 0)=true/\∀ f,Ext w f->Hid (Calls prog 59 #[.int .i64 (n*(i:Int)),.int .i64 ((d:Int)*q)] f fun e w'=>e = .returned (.string ⟨(txt (x*y⁻¹)).toArray⟩)/\Ext f w')/\(-1000000000000000000<n*(i:Int)/\n*(i:Int)<1000000000000000000)/\(0<=(d:Int)*q/\(d:Int)*q < 1000000000000000000):=by
  rintro n d q i ⟨q1,b1,I,f1⟩ ⟨q2,b2,c2,f2⟩;rw[A6]at q1 q2;have k1:x=mkRat n d:=fD q1;have k2:y=mkRat q i:=fD q2;obtain⟨g1,g2⟩:=Pg (n:=n) (d:=d) c2 (hy.trans k2);rw[hy,<-k1]at g2;have hp:0<m*i:=jj (by omega) c2;refine⟨by simp;omega,fun f g => ?_⟩;have az:(n*(i:Int)).natAbs<1000000000*1000000000:=by
   rw[ia];exact Nat.mul_lt_mul'' b1 f2
  have aq:m*i < 1000000000:=by omega
  have ax:d*(m*i)<1000000000*1000000000:=Nat.mul_lt_mul'' f1 aq;have hd0:0<d*(m*i):=jj I hp;have h:=E0 (w:=f) (n:=n*(i:Int)) (d:=d*(m*i)) (hT.ext g) (by omega) (by omega) hd0 (by omega);rw[g2,fU,<-g1]at h;refine⟨qh h,⟨by omega,by omega⟩,?_⟩;rw[g1,<-fU];omega
 clear sx sy e1 e2 hx a4 Q a6 ag a7 a5 hy lx ly hm ap;obtain⟨S,hS⟩:∃ S:ByteArray,⟨(txt x).toArray⟩=S:=⟨_,rfl⟩;obtain⟨S',aa⟩:∃ S:ByteArray,⟨(txt y).toArray⟩=S:=⟨_,rfl⟩;obtain⟨R,hR⟩:∃ S:ByteArray,⟨(txt (x*y⁻¹)).toArray⟩=S:=⟨_,rfl⟩;rw[hS]at N O |-;rw[aa]at N P |-;rw[hR]at a3 |-;simp only[hR]at M;clear hS aa hR
 go_enter func38,ntmps38
 go_wp2_with fail
 refine N.out.mono ?_;rintro e w1 ⟨k,⟨n,d,q,i,rfl,hq,af⟩|rfl⟩
 · have an:(shL n (d:Nat)).toArray=#[.int .i64 n,.int .i64 (d:Int)]:=rfl;have ay:(shL q (i:Nat)).toArray=#[.int .i64 q,.int .i64 (i:Int)]:=rfl;have F:=(Arr.new w1 118 (shL 0 0)).alloc (.cells (shL 0 0).toArray 118);have l:=Arr.new (w1.alloc (.cells (shL 0 0).toArray 118)) 118 (shL 0 0);have H:(w1.alloc (.cells (shL 0 0).toArray 118)).heap.size=w1.heap.size+1:=by simp
   rw[H]at l;obtain⟨aA,Z⟩:=M n d q i hq af;have HQ:=qh Z;clear M Z hq af H O P ac a3 a2
   go_upto_region 2 with(first
    | (refine Aa (vs:=shL n (d:Nat)) rfl rfl rfl rfl rfl Ag F rfl (AN _ _) ?_;intro w2 J o;have G:=l.kept o (by simp))
    | (refine Aa (vs:=shL q (i:Nat)) rfl rfl rfl rfl rfl Ag G rfl (AN _ _) ?_;intro w3 C A;have a1:=J.kept A (by simp)))
   have E:Ext w w3:=(((k.alloc _).alloc _).grownR o k.size).grownR A (Nat.le_succ_of_le k.size);have p0:=a1.c 0 rfl;have p1:=a1.c 1 rfl;have q0:=C.c 0 rfl;have q1:=C.c 1 rfl;obtain⟨hF,hr,ar⟩:=HQ.out w3 E;have m1:IntKind.i64.wrap (n*(i:Int))=n*(i:Int):=fO _ (by omega);have m2:IntKind.i64.wrap ((d:Int)*q)=(d:Int)*q:=fO _ (by omega);clear hr ar J C a1 o A F l G HQ k
   go_wp2_with fail
   refine hF.out.mono ?_;rintro e w4 ⟨rfl,K⟩;go_wp2
   go_ret2
   exact⟨rfl,E.trans K⟩
 · have an:(shL 0 0).toArray=#[.int .i64 0,.int .i64 0]:=rfl;have F:=(Arr.new w1 118 (shL 0 0)).alloc (.cells (shL 0 0).toArray 118);have l:=Arr.new (w1.alloc (.cells (shL 0 0).toArray 118)) 118 (shL 0 0);have H:(w1.alloc (.cells (shL 0 0).toArray 118)).heap.size=w1.heap.size+1:=by simp
   rw[H]at l;clear M H
   go_upto_region 2 with(first
    | (refine Aa (vs:=shL 0 0) rfl rfl rfl rfl rfl Ag F rfl (AN _ _) ?_;intro w2 J o;have G:=l.kept o (by simp))
    | (refine Aa (vs:=shL 0 0) rfl rfl rfl rfl rfl Ag G rfl (AN _ _) ?_;intro w3 C A))
   have E:Ext w w3:=(((k.alloc _).alloc _).grownR o k.size).grownR A (Nat.le_succ_of_le k.size);clear J C o A F l G k
   go_wp2_with fail
   refine(P _ E).out.mono ?_;rintro e w4 ⟨_,rfl,K,s',T,n1,I,U,m',V,rfl,al,au,av⟩;have W:=E.trans K;have ab:=Arr.new w4 125 (As false none 0 0 false none 0 0);have ao:(As s' T n1 I false U m' V).toArray=#[.bool s',.slice T n1 I,.bool false,.slice U m' V]:=rfl
   go_upto_region 5 with(refine Aa (vs:=As s' T n1 I false U m' V) rfl rfl rfl rfl rfl Ac ab rfl (Aq _ _ _ _ _ _ _ _) ?_;intro w5 t ae)
   have p:Ext w4 w5:=((Ext.refl w4).alloc _).grownR ae (lrf _);have a9:=W.trans p;obtain⟨Y,am⟩:∃ y,w4.heap.size=y:=⟨_,rfl⟩;rw[am]at t |-;have y0:=t.c 0 rfl;have y1:=t.c 1 rfl;have y2:=t.c 2 rfl;have y3:=t.c 3 rfl;have a8:BI w5 (.agg #[.bool s',.slice T n1 I,.bool false,.slice U m' V]) y:=⟨As s' T n1 I false U m' V,rfl,s',T,n1,I,U,m',V,rfl,al,au.ext p,av.ext p⟩;clear ab ae t K W p ao
   go_wp2_with fail
   refine(a2 _ _ a8).out.mono ?_;rintro e w6 ⟨rfl,j⟩;have L:=a9.trans j;replace y0:=j.cell y0;replace y1:=j.cell y1;replace y2:=j.cell y2;replace y3:=j.cell y3;have aw:=fun(f:World) (g:Ext w6 f)=>a8.ext (j.trans g);clear a9 a2;go_wp2;have a0:=fun(f:World) (g:Ext w6 f)=>qh (And.intro (g.cell y0) (And.intro (g.cell y1) (And.intro (g.cell y2) (g.cell y3))))
   refine Ad
    [he (.string S),hp (fun v f=>NR x v f),he (.agg #[.bool s',.slice T n1 I,.bool false,.slice U m' V]),hp (fun v f=>NR (x*y⁻¹) v f),hp (fun v f=>v = .string R)]
    ⟨NR.x _,NR.x _,fun _ _ _ _ h=>h,trivial⟩ ⟨?o0,?o1,?o2,?o3,?o4,trivial⟩ ?fin
   case o0=>exact omv
   case o2=>exact ol4
   case o1 =>
    refine Ai rfl fun ρ f g X ad h => ?_;have e1:_=_:=h.2.1;obtain⟨ah,ai,aj,ak⟩:=(a0 f g).out;refine⟨60,#[.string S],by go_simp,((O f (L.trans g)).out).mono ?_⟩;rintro e w' ⟨cs,rfl,D,hr⟩;exact⟨_,rfl,D,cs,rfl,hr⟩
   case o3 =>
    refine Ai rfl fun ρ f g X ad h => ?_;obtain⟨v1,e1,B,rfl,r1⟩:=h.2.1;have e2:_=_:=h.2.2.1;obtain⟨ah,ai,aj,ak⟩:=(a0 f g).out;refine⟨65,#[.agg B.toArray,.agg #[.bool s',.slice T n1 I,.bool false,.slice U m' V]],by go_simp,((ac f _ _ (L.trans g) ⟨B,rfl,r1⟩ (aw f g)).out).mono ?_⟩;rintro e w' ⟨cs,rfl,D,hr⟩;exact⟨_,rfl,D,cs,rfl,hr⟩
   case o4 =>
    refine Ai rfl fun ρ f g X ad h => ?_;obtain⟨v1,e1,B,rfl,r1⟩:=h.2.1;obtain⟨ah,ai,aj,ak⟩:=(a0 f g).out;refine⟨62,#[.agg B.toArray],by go_simp,((a3 f _ (L.trans g) ⟨B,rfl,r1⟩).out).mono ?_⟩;rintro e w' ⟨rfl,D⟩;exact⟨_,rfl,D,rfl⟩
   case fin =>
    intro f g;rintro _ ⟨_,rfl,_⟩;rintro _ ⟨_,rfl,_⟩;rintro _ rfl;change wpList _ _ _ _ _ _;simp only[CB];go_wp2
    go_ret2
    exact⟨rfl,L.trans g⟩
end Go.Proofs.YthdbingomfdeoaaGreatDoor
