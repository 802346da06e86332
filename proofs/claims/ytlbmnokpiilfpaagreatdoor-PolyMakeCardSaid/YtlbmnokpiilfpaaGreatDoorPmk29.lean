/- Part Pmk29. -/
import Derived.Test.YtlbmnokpiilfpaaGreatDoorPmk28
import Derived.Test.YtlbmnokpiilfpaaGreatDoorPmk17
set_option maxRecDepth 100000
set_option maxHeartbeats 100000000
namespace Go.Proofs.YtlbmnokpiilfpaaGreatDoor
open Tryz Go Go.RowKit
variable {s s':ByteArray} {v1 v2 vars:Int} {xs ys:List Int} {c d k m n:Nat} {a b:Option Addr} {w:World}
theorem KY (g:SlI w a n c xs) (j:SlI w b m d ys) :
 Calls prog 92 #[.slice a n c, .slice b m d] w fun e F=>e = .returned (.bool (decide (xs=ys)))/\Qt w F:=by
 have L:=g.le;have E:=j.le;by_cases t:n=m
 · have x:((n:Int) != (m:Int))=false:=by simp [t]
   have y:=qh t;clear t
   go_enter func92,ntmps92
   go_wp2
   go_loopw [13] (fun i wr=>∃ k:Nat,k<=n/\i = .int .i64 k/\Qt w wr/\xs.take k=ys.take k) (fun i _=>n-(intOf i).toNat)
   case atStart=>exact ⟨0,Nat.zero_le _,rfl,Qt.refl _,rfl⟩
   case round =>
    obtain ⟨k,K,rfl,l,hp⟩:=hrel;have z:=qh hp;clear hp;have g:=g.ext l.ext;have j:=j.ext l.ext;by_cases q:k<n
    · have f:k<m:=by have:=y.out; omega
      obtain ⟨G,M,rfl,o⟩:=g.at q;obtain ⟨H,N,rfl,p⟩:=j.at f;have I:=o k q;have J:=p k f;clear o p;generalize r:xs.getD k 0=C at *
      generalize s:ys.getD k 0=D at *
      have A:=qh r;have B:=qh s;clear r s;go_wp2
      go_quiet (fail)
      by_cases he:(C != D)=true
      · go_wp2;go_ret;have:xs≠ys:=LG (k:=k) (by rw [A.out,B.out]; exact he);exact ⟨by simp [this],l.drewN _⟩
      · have v:(C != D)=false:=by simpa using he
        go_wp2;go_roundw
        case rel=>exact ⟨k+1,by omega,by go_num,l.drewN _,JK z.out (by have:=g.len; omega) (by have:=j.len; omega) (by rw [A.out,B.out]; exact v)⟩
        case measure=>simp [intOf]; omega
    · go_wp2;go_ret;refine ⟨?_,l⟩;have h1:=z.out;have h2:=y.out;rw [List.take_of_length_le (by have:=g.len; omega),List.take_of_length_le (by have:=j.len; omega)] at h1;simp [h1]
 · have x:((n:Int) != (m:Int))=true:=by simp; omega
   go_enter func92,ntmps92
   go_wp2;go_ret;refine ⟨?_,Qt.refl _⟩;have:xs≠ys:=by rintro rfl; exact t (g.len.symm.trans j.len)
   simp [this]
theorem Mn (p:SlI w a n c xs) (q:SlI w b m d ys) :
 Calls prog 91 #[.agg #[.string s, .slice a n c], .agg #[.string s', .slice b m d]] w fun e r=>e = .returned (.bool (decide ((Aj s,xs)=(Aj s',ys))))/\Ext w r:=by
 have k:=fun (t:World) (o:Ext w t)=>qh (KY (p.ext o) (q.ext o))
 go_enter func91,ntmps91
 go_upto_region 1 with (fail)
 refine Dm ?_;intro y i f g l;have v:=f.c 0 rfl;have x:=f.c 1 rfl;have u0:=g.c 0 rfl;have u1:=g.c 1 rfl;clear f g l;by_cases he:s.toList=s'.toList
 · go_wp2_with fail
   refine (k _ i).out.mono ?_;rintro e z ⟨rfl,j⟩;go_wp2;go_ret;rw [ByteArray.toList_eq,ByteArray.toList_eq] at he;exact ⟨by unfold Aj; simp [he],i.trans j.ext⟩
 · go_wp2_with fail
   go_ret;rw [ByteArray.toList_eq,ByteArray.toList_eq] at he;exact ⟨by unfold Aj; simp [he],i⟩
theorem Ns {xs ys:List Tx} (hp:xs.take k=ys.take k) (h1:k<xs.length) (h2:k<ys.length) (he:xs.getD k tm0=ys.getD k tm0):xs.take (k+1)=ys.take (k+1):=by
 simp only [gqq,h1,h2,List.getElem?_eq_getElem,Option.getD_some] at he;rw [List.take_succ_eq_append_getElem h1,List.take_succ_eq_append_getElem h2,hp,he]
theorem GG {xs ys:List Tx} (hx:Bk w a n c xs) (hy:Bk w b m d ys) :
 Calls prog 90 #[.slice a n c, .slice b m d, .func (.func 91) #[] #[]] w fun e w'=>e = .returned (.bool (decide (xs=ys)))/\Ext w w':=by
 have G:=hx.len;have H:=hy.len;obtain ⟨rx,hX,_,I⟩:=hx;obtain ⟨ry,hY,_,J⟩:=hy;have U:=qh I;have V:=qh J;have p:=qh G;have q:=qh H;clear I J G H;have a5:=hX.le;have a4:=hY.le;by_cases S:n=m
 · have a0:((n:Int) != (m:Int))=false:=by simp [S]
   have HL:=qh S;clear S
   go_enter func90,ntmps90
   go_wp2
   go_loopw [17] (fun i wr=>∃ k:Nat,k<=n/\i = .int .i64 k/\Ext w wr/\xs.take k=ys.take k) (fun i _=>n-(intOf i).toNat)
   case atStart=>exact ⟨0,Nat.zero_le _,rfl,Ext.refl _,rfl⟩
   case round =>
    obtain ⟨k,hk,rfl,R,hp⟩:=hrel;have HP:=qh hp;clear hp;by_cases F:k<n
    · have o:k<m:=by have:=HL.out; omega
      have x:=hX.ext R;obtain ⟨b1,o1,rfl,Y⟩:=x.rd (by omega);obtain ⟨s1,a1,n1,c1,K,M,O⟩:=U.out k F;obtain ⟨s2,a2,n2,c2,L,N,P⟩:=V.out k o;clear Y;have B:=Arr.new wr 26 (tmL ⟨#[]⟩ none 0 0)
      go_upto_region 6 with (first
       | (refine Br rfl rfl Cm rfl x F ?_; rw [K])
       | (refine Aa (vs:=tmL s1 a1 n1 c1) rfl rfl rfl rfl rfl Cm B rfl (EL _ _ _ _) ?_; intro Q r D))
      have C:Ext wr Q:=((Ext.refl wr).alloc _).grownR D (lrf _);have g:=R.trans C;have y:=hY.ext g;clear B D R C x;generalize wr.heap.size=Xg at *
      obtain ⟨b2,o2,rfl,Z⟩:=y.rd (by omega);clear Z;have B:=Arr.new Q 26 (tmL ⟨#[]⟩ none 0 0)
      go_upto_region 7 with (first
       | (refine Br rfl rfl Cm rfl y o ?_; rw [L])
       | (refine Aa (vs:=tmL s2 a2 n2 c2) rfl rfl rfl rfl rfl Cm B rfl (EL _ _ _ _) ?_; intro w3 t E))
      have v:Ext Q w3:=((Ext.refl Q).alloc _).grownR E (lrf _);have j:=g.trans v;have f:=r.ext v;have a3:=r.lt;have A:=Mn (s:=s1) (s':=s2) (O.ext j) (P.ext j);rw [M,N] at A;have T:=qh A;clear A M N K L B E g v r O P y;generalize Q.heap.size=Yg at *
      have x0:w3.cell? ⟨Xg,0,none⟩=some (.string s1):=f.cell (i:=0) (by simp [tmL]);have x1:w3.cell? ⟨Xg,1,none⟩=some (.slice a1 n1 c1):=f.cell (i:=1) (by simp [tmL]);have y0:=t.c 0 rfl;have y1:=t.c 1 rfl;clear f t
      go_wp2_with fail
      refine T.out.mono ?_;rintro e w4 ⟨rfl,X⟩;have l:=j.trans X;obtain ⟨W,z⟩:∃ W,decide (((xs.getD k tm0).1,(xs.getD k tm0).2)=((ys.getD k tm0).1,(ys.getD k tm0).2))=W:=⟨_,rfl⟩;rw [z];have HB:=qh z;clear z;cases W with
      | true =>
       go_wp2;go_roundw
       case rel=>exact ⟨k+1,by omega,by go_num,l,Ns HP.out (by have:=p.out; omega) (by have:=q.out; omega) (by have:=HB.out; exact of_decide_eq_true this)⟩
       case measure=>simp [intOf]; omega
      | false =>
       go_wp2;go_ret;have:xs≠ys:=by
        rintro rfl;have:=HB.out;simp at this
       exact ⟨by simp [this],l⟩
    · go_wp2;go_ret;refine ⟨?_,R⟩;have h1:=HP.out;have h2:=HL.out;rw [List.take_of_length_le (by have:=p.out; omega),List.take_of_length_le (by have:=q.out; omega)] at h1;simp [h1]
 · have a0:((n:Int) != (m:Int))=true:=by simp; omega
   go_enter func90,ntmps90
   go_wp2;go_ret;refine ⟨?_,Ext.refl _⟩;have:xs≠ys:=by rintro rfl; exact S (p.out.symm.trans q.out)
   simp [this]
theorem Nt {xs ys:List Tx} (F:AR w) (B:Bk w a n c xs) (H:Bk w b m d ys) (G:∀ t∈xs,t.1.length<=570) :
 Calls prog 31 #[.agg #[.int .i64 v1, .slice a n c], .agg #[.int .i64 v2, .slice b m d]] w fun e I=>e = .returned (.bool (decide (xs=ys) && decide (v1=v2) && (rdP v1 xs).isSome))/\Ext w I:=by
 have o:=fun (z:World) (p:Ext w z)=>qh (GG (B.ext p) (H.ext p));have s:=fun (z:World) (p:Ext w z)=>qh (Ir (vars:=v1) (F.ext p) (B.ext p) G);obtain ⟨v,k⟩:∃ v,decide (xs=ys)=v:=⟨_,rfl⟩;obtain ⟨A,l⟩:∃ A,(rdP v1 xs).isSome=A:=⟨_,rfl⟩;rw [k,l];rw [k] at o;rw [l] at s;clear k l
 go_enter func31,ntmps31
 go_upto_region 1 with (fail)
 refine Dm ?_;intro N q i j y;have C:=i.c 0 rfl;have D:=i.c 1 rfl;have u0:=j.c 0 rfl;have u1:=j.c 1 rfl;clear i j y;generalize w.heap.size=X at *
 go_wp2_with fail
 refine (o _ q).out.mono ?_;rintro e O ⟨rfl,f⟩;have g:=q.trans f;have J:=f.cell C;have K:=f.cell D;have L:=f.cell u0;have M:=f.cell u1;clear C D u0 u1 o;cases v with
 | false =>
  go_wp2_with fail
  go_ret;exact ⟨by simp,g⟩
 | true =>
  by_cases r:v1=v2
  · have he:(v1 == v2)=true:=by simpa using r
    have E:=qh r;clear r
    go_wp2_with fail
    refine (s _ g).out.mono ?_;rintro e P ⟨rfl,x⟩;go_wp2;go_ret;exact ⟨by simp [E.out],g.trans x⟩
  · have he:(v1 == v2)=false:=by simpa using r
    go_wp2_with fail
    go_ret;exact ⟨by simp [r],g⟩
noncomputable def degP (vars:Int) (ts:List Tx):Int:=if (rdP vars ts).isSome=true/\0<ts.length then C7 (ts.getD 0 tm0).2 else -1
theorem Mo {ts:List Tx} (O:AR w) (h:Bk w a n c ts) (Q:∀ t∈ts,t.1.length<=570) :
 Calls prog 33 #[.agg #[.int .i64 vars, .slice a n c]] w fun e R=>e = .returned (.int .i64 (degP vars ts))/\Ext w R:=by
 have x:=fun (S:World) (H:Ext w S)=>qh (Ir (vars:=vars) (O.ext H) (h.ext H) Q);obtain ⟨r,v⟩:∃ r,degP vars ts=r:=⟨_,rfl⟩;rw [v];unfold degP at v;have d:=h.len;obtain ⟨B,l⟩:∃ B,(rdP vars ts).isSome=B:=⟨_,rfl⟩;rw [l,d] at v;rw [l] at x;clear l;have A:=qh v;have T:=qh d;clear v d;have P:n<=maxLen:=by obtain ⟨y,z,_⟩:=h; exact z.le
 go_enter func33,ntmps33
 go_upto_region 1 with (fail)
 refine AE ?_;intro w0 j i F;have K:=i.c 0 rfl;have L:=i.c 1 rfl;clear i F;generalize w.heap.size=X at *
 by_cases m:0<n
 · have he:((n:Int) == 0)=false:=by simp; omega
   go_wp2_with fail
   refine (x _ j).out.mono ?_;rintro e w1 ⟨rfl,k⟩;have f:=j.trans k;have Y:=k.cell K;have Z:=k.cell L;clear K L;cases B with
   | false =>
    go_wp2;go_ret;exact ⟨by rw [<-A.out]; simp,f⟩
   | true =>
    obtain ⟨y,z,_,J⟩:=h;obtain ⟨s,U,W,V,g,D,E⟩:=J 0 m;clear J;generalize ts.getD 0 tm0=tt at *
    have p:=z.ext f;obtain ⟨b,o,rfl,I⟩:=p.rd m;have G:=I 0 m 1 (by omega);rw [g] at G;simp only [Nat.zero_mul,Nat.add_zero,List.getD_cons_succ,List.getD_cons_zero] at G;have q:=GO (E.ext f);have M:=qh q;clear q I p z g D
    go_wp2_with fail
    refine M.out.mono ?_;rintro e w2 ⟨rfl,rfl⟩;go_wp2;go_ret;exact ⟨by rw [<-A.out]; simp [m],f⟩
 · have C:n=0:=by omega
   have he:((n:Int) == 0)=true:=by simp; omega
   have N:=qh m;clear C m
   go_wp2_with fail
   go_ret;exact ⟨by rw [<-A.out]; simp [N.out],j⟩
def G0 (w:World) (a:Option Addr) (n c:Nat) (l:List (List UInt8)):Prop:=∃ cs,Sl w a n c cs/\l.length=n/\∀ i,i<n->∃ s,cs.getD i undef = .string s/\Aj s=l.getD i []
theorem G0.ext {w b:World} {a:Option Addr} {n c:Nat} {l:List (List UInt8)} (h:G0 w a n c l) (e:Ext w b):G0 b a n c l:=by
 obtain ⟨d,h1,h2,h3⟩:=h;exact ⟨d,h1.ext e,h2,h3⟩
open Classical in
noncomputable def rdAll (l:List (List UInt8)):Option (List Rat):=if ∀ i,i<l.length->(AF (l.getD i [])).isSome=true then some (l.map (fun t=>(AF t).getD 0)) else none
def Uh (w:World) (o:Option (List Rat)) (e:Ending) (w':World):Prop:=∃ a n c,e = .returned (.tuple #[.slice a n c, .bool o.isSome])/\Ext w w'/\Dp w' a n c (o.getD [])
theorem Dp.nil (w:World):Dp w none 0 0 []:=⟨[],SlK.nil w 4,rfl,fun i a=>absurd a (by omega)⟩
theorem Mp {l:List (List UInt8)} (hT:AR w) (h:G0 w a n c l) (hs:∀ t∈l,t.length<=570) (hn:n<=1000000) :
 Calls prog 122 #[.slice a n c] w (Uh w (rdAll l)):=by
 obtain ⟨cs,hS,hl,hq⟩:=h;have HQ:=qh hq;have L:=qh hl;have HS:=qh hs;clear hq hl hs;obtain ⟨r,m⟩:∃ r,rdAll l=r:=⟨_,rfl⟩;rw [m];have HR:=qh m;clear m;have p:nuR (List.replicate n (Ao false none 0 0 false none 0 0)):=fun r m u hu=>by rw [(List.mem_replicate.1 m).2] at hu; exact AI _ _ _ _ _ _ _ _ u hu
 go_enter func122,ntmps122
 go_upto_region 2 with (refine Er rfl rfl (by kernel_rfl) In rfl rfl (by omega) (by unfold maxLen; omega) ?_; intro w1 P N)
 go_wp2
 go_loopw [14] (fun iv wr=>∃ (k:Nat) (K:List (List Value)),iv = .int .i64 k/\k<=n/\Ext w wr/\AP wr w.heap.size 85 4 (some ⟨w.heap.size,0,none⟩) n n K/\nuR K/\Hid (∀ i,i<k->(AF (l.getD i [])).isSome=true)/\Hid (∀ i,i<k->CQ wr (K.getD i []) ((AF (l.getD i [])).getD 0))) (fun iv _=>n-(intOf iv).toNat)
 case atStart=>exact ⟨0,_,rfl,Nat.zero_le _,N,P,p,qh (fun i g=>absurd g (by omega)),qh (fun i g=>absurd g (by omega))⟩
 case round =>
  clear P N p;obtain ⟨k,K,rfl,hk,M,hO,V,HK,HC⟩:=hrel;by_cases f:k<n
  · have Q:=hS.ext M;obtain ⟨b,a9,rfl,S⟩:=Q.rd (by omega);obtain ⟨s,T,D⟩:=HQ.out k f;have c0:=S k f;rw [T] at c0;have a6:s.size<=570:=by
     rw [<-Ax,D];exact HS.out _ (by simp [L.out,f])
    have C:=FA (hT.ext M) a6;rw [D] at C;have v:=qh C;clear C S T D Q;obtain ⟨o,Z⟩:∃ o,Hid (AF (l.getD k [])=o):=⟨_,qh rfl⟩;rw [Z.out] at v
    go_wp2_with fail
    refine v.out.mono ?_;rintro e Y ⟨aa,rfl,x,s1,E,J,G,F,I,H,rfl,W⟩;have a7:(Ao s1 E J G false F I H).toArray=#[.bool s1, .slice E J G, .bool false, .slice F I H]:=rfl;have hY:=Arr.new Y 85 (Ao false none 0 0 false none 0 0)
    go_upto_region 6 with (refine Aa (vs:=Ao s1 E J G false F I H) rfl rfl rfl rfl rfl Ai hY rfl (Ap _ _ _ _ _ _ _ _) ?_; intro w3 j U)
    have y:Ext Y w3:=((Ext.refl Y).alloc _).grownR U (lrf _);have d:=x.trans y;have O:=M.trans d;have z:=hO.ext d;have R:=z.noU V;have a3:=qh (z.len (by omega));have a0:Hid (∀ i,i<k->CQ w3 (K.getD i []) ((AF (l.getD i [])).getD 0)):=qh fun i g=>(HC.out i g).ext d;have a2:Hid (CQ w3 (Ao s1 E J G false F I H) (o.getD 0)):=qh (CQ.ext ⟨s1,E,J,G,F,I,H,rfl,W⟩ y);have a8:w.heap.size<Y.heap.size:=((hO.ext x).lt rfl).2;clear hY U hO M x y d W HC v c0;generalize Y.heap.size=X at *
    have x0:=j.c 0 rfl;have x1:=j.c 1 rfl;have x2:=j.c 2 rfl;have x3:=j.c 3 rfl;cases o with
    | none =>
     go_wp2
     go_ret2
     have:r=none:=by
      rw [<-HR.out];unfold rdAll;rw [if_neg];intro h;have:=h k (by rw [L.out]; exact f);rw [Z.out] at this;simp at this
     rw [this];exact ⟨none,0,0,rfl,O,Dp.nil _⟩
    | some q =>
     go_wp2_with (refine Im (vs:=Ao s1 E J G false F I H) rfl rfl (by omega) Ai rfl rfl rfl z f rfl (Ap _ _ _ _ _ _ _ _) ?_; intro w4 a4 A)
     go_roundw
     case rel =>
      refine ⟨k+1,_,by go_num,by omega,O.grownR A (lrf _),a4, ?_,qh fun i g => ?_,qh fun i g => ?_⟩
      · intro r m;rcases List.mem_or_eq_of_mem_set m with h|rfl
        · exact V r h
        · exact AI _ _ _ _ _ _ _ _
      · by_cases B:i=k
        · subst B; rw [Z.out]; rfl
        · exact HK.out i (by omega)
      · by_cases B:i=k
        · subst B;rw [Z.out,gqq,List.getElem?_set_self (by rw [a3.out]; exact f)];exact a2.out.keptU R A
        · rw [gqq,List.getElem?_set_ne (by omega),<-gqq];exact (a0.out i (by omega)).keptU R A
     case measure=>simp [intOf]; omega
  · have a5:k=n:=by omega
    subst a5;go_wp2
    go_ret2
    have m:r=some (l.map (fun t=>(AF t).getD 0)):=by
     rw [<-HR.out];unfold rdAll;rw [if_pos];intro i g;exact HK.out i (by rw [<-L.out]; exact g)
    rw [m];refine ⟨_,_,_,rfl,M,K,hO.slk (by omega),by simp [L.out],fun i g => ?_⟩;have:=HC.out i g;simpa [L.out,g] using this
end Go.Proofs.YtlbmnokpiilfpaaGreatDoor
namespace Go.Proofs.YtlbmnokpiilfpaaGreatDoor.Pl
variable {d e g:Nat} {x:Rat}
theorem OD (a b c:Rat):a*(b*c)=b*(a*c):=by rw [<-Rat.mul_assoc,Rat.mul_comm a b,Rat.mul_assoc]
def grt (l:List Tm) (v:Nat):Nat:=l.foldl (fun a t=>max a (t.1.getD v 0).toNat) 0
theorem J6 (v:Nat):∀ (l:List Tm) (a:Nat),a<=l.foldl (fun a t=>max a (t.1.getD v 0).toNat) a/\∀ t∈l,(t.1.getD v 0).toNat<=l.foldl (fun a t=>max a (t.1.getD v 0).toNat) a
 | [],a=>⟨lrf _,by simp⟩
 | t :: r,a=>by
  have h:=J6 v r (max a (t.1.getD v 0).toNat);refine ⟨Nat.le_trans (Nat.le_max_left _ _) h.1,fun s b => ?_⟩;rcases List.mem_cons.1 b with rfl|b
  · exact Nat.le_trans (Nat.le_max_right _ _) h.1
  · exact h.2 s b
theorem le_grt {l:List Tm} {t:Tm} (v:Nat) (h:t∈l):(t.1.getD v 0).toNat<=grt l v:=(J6 v l 0).2 t h
theorem grt_take (l:List Tm) (v k:Nat) (a:k<l.length):grt (l.take (k+1)) v=max (grt (l.take k) v) ((l.getD k ([],0)).1.getD v 0).toNat:=by
 unfold grt;rw [List.take_succ_eq_append_getElem a,List.foldl_append];simp [a]
def pwz (x:Rat) (g e:Nat):Int:=x.num^e*(x.den:Int)^(g-e)
theorem EE (z:Int):∀ e:Nat,((z^e:Int):Rat)=(z:Rat)^e
 | 0=>by rw [Int.pow_zero,Rat.pow_zero]; rfl
 | e+1=>by rw [Int.pow_succ,Rat.pow_succ,Rat.intCast_mul,EE z e]
theorem QY (a b:Rat):∀ e:Nat,(a*b)^e=a^e*b^e
 | 0=>by simp [Rat.pow_zero]
 | e+1=>by rw [Rat.pow_succ,Rat.pow_succ,Rat.pow_succ,QY a b e]; simp only [Rat.mul_assoc,Rat.mul_comm,OD]
theorem QZ (a:Rat) (i:Nat):∀ j:Nat,a^(i+j)=a^i*a^j
 | 0=>by simp [Rat.pow_zero]
 | j+1=>by rw [<-Nat.add_assoc,Rat.pow_succ,Rat.pow_succ,QZ a i j,Rat.mul_assoc]
theorem Tz (h:e<=g):((pwz x g e:Int):Rat)=x^e*(x.den:Rat)^g:=by
 unfold pwz;rw [Rat.intCast_mul,EE,EE,<-SK x,QY,Rat.intCast_natCast,Rat.mul_assoc,<-QZ,Nat.add_sub_cancel' h]
def Q2 (pt:List Rat) (es:List Int):Nat->Rat
 | 0=>1
 | k+1=>Q2 pt es k*(pt.getD k 0)^(es.getD k 0).toNat
def evq (pt:List Rat) (l:List Tm):Rat:=l.foldr (fun t a=>t.2*Q2 pt t.1 pt.length+a) 0
def zev (d:Nat) (g:Nat->Nat) (pt:List Rat) (t:Tm):Nat->Int
 | 0=>zsc t.2 d
 | k+1=>zev d g pt t k*pwz (pt.getD k 0) (g k) (t.1.getD k 0).toNat
def dev (d:Nat) (g:Nat->Nat) (pt:List Rat):Nat->Nat
 | 0=>d
 | k+1=>dev d g pt k*(pt.getD k 0).den^(g k)
theorem G1 (z:Nat):∀ e:Nat,((z^e:Nat):Rat)=(z:Rat)^e
 | 0=>by rw [Nat.pow_zero,Rat.pow_zero]; rfl
 | e+1=>by rw [Nat.pow_succ,Rat.pow_succ,Rat.natCast_mul,G1 z e]
theorem Q4 {d:Nat} {g:Nat->Nat} {pt:List Rat} {t:Tm} (a:t.2.den∣d):∀ k,(∀ v,v<k->(t.1.getD v 0).toNat<=g v)->((zev d g pt t k:Int):Rat)=t.2*Q2 pt t.1 k*(dev d g pt k:Rat)
 | 0,_=>by
  unfold zev Q2 dev;rw [Kx a,Rat.mul_one]
 | k+1,h=>by
  unfold zev Q2 dev;rw [Rat.intCast_mul,Q4 a k (fun v b=>h v (by omega)),Tz (h k (by omega)),Rat.natCast_mul,G1];simp only [Rat.mul_assoc,Rat.mul_comm,OD]
theorem dev_ne {d:Nat} {g:Nat->Nat} {pt:List Rat} (a:d≠0):∀ k,dev d g pt k≠0
 | 0=>a
 | k+1=>Nat.mul_ne_zero (dev_ne a k) (Nat.ne_of_gt (Nat.pow_pos (pt.getD k 0).den_pos))
def zsum (f:Tm->Int) (l:List Tm):Int:=l.foldl (fun a t=>a+f t) 0
theorem I0 (f:Tm->Int):∀ (l:List Tm) (a:Int),l.foldl (fun a t=>a+f t) a=a+l.foldr (fun t a=>f t+a) 0
 | [],a=>by simp
 | t :: r,a=>by rw [List.foldl_cons,I0 f r,List.foldr_cons]; omega
theorem zsum_take (f:Tm->Int) (l:List Tm) (k:Nat) (a:k<l.length):zsum f (l.take (k+1))=zsum f (l.take k)+f (l.getD k ([],0)):=by
 unfold zsum;rw [List.take_succ_eq_append_getElem a,List.foldl_append];simp [a]
theorem Q6 {d:Nat} {g:Nat->Nat} {pt:List Rat}:∀ {l:List Tm},(∀ t∈l,t.2.den∣d/\∀ v,v<pt.length->(t.1.getD v 0).toNat<=g v)->((l.foldr (fun t a=>zev d g pt t pt.length+a) 0:Int):Rat)=evq pt l*(dev d g pt pt.length:Rat)
 | [],_=>by simp [evq]
 | t :: r,h=>by
  have ih:=Q6 (l:=r) (fun s c=>h s (by simp [c]));have b:=h t (by simp);unfold evq at ih |-;rw [List.foldr_cons,List.foldr_cons,Rat.intCast_add,ih,Q4 b.1 _ b.2,Rat.add_mul]
theorem ev_done {pt:List Rat} {l:List Tm} (b:d≠0) (h:∀ t∈l,t.2.den∣d) :
 mkRat (zsum (fun t=>zev d (grt l) pt t pt.length) l) (dev d (grt l) pt pt.length)=evq pt l:=by
 have h0:=dev_ne (g:=grt l) (pt:=pt) b pt.length;rw [EM];unfold zsum;rw [I0,Int.zero_add,Q6 (fun t a=>⟨h t a,fun v _=>le_grt v a⟩),Rat.mul_assoc,Rat.mul_inv_cancel _ (by simpa using h0),Rat.mul_one]
end Go.Proofs.YtlbmnokpiilfpaaGreatDoor.Pl
namespace Go.Proofs.YtlbmnokpiilfpaaGreatDoor
open Tryz Go Go.RowKit
variable {f:Act} {ops:Array Oper} {va:Array Value} {s:Bool} {Q:Exit->Act->World->Prop} {z z':Int} {rest:List Oper} {c i m:Nat} {o:Oper} {x y:Operand} {a:Option Addr}
theorem J7 (w:World):FF w (Ac false none 0 0) 0:=⟨false,none,0,0,rfl,qh rfl,Wd.nil _⟩
def CC (w:World) (base g n:Nat) (F:Nat->Int):Prop:=∃ rs,AP w base 83 2 (some ⟨g,0,none⟩) n n rs/\nuR rs/\∀ i,i<n->FF w (rs.getD i []) (F i)
section
variable {w w':World} {base g n:Nat} {F G:Nat->Int}
theorem CC.ext (h:CC w base g n F) (e:Ext w w'):CC w' base g n F:=by
 obtain ⟨b,h1,h2,h3⟩:=h;exact ⟨b,h1.ext e,h2,fun i a=>(h3 i a).ext e⟩
theorem CC.congr (h:CC w base g n F) (e:∀ i,i<n->G i=F i):CC w base g n G:=by
 obtain ⟨b,h1,h2,h3⟩:=h;exact ⟨b,h1,h2,fun i a=>by rw [e i a]; exact h3 i a⟩
theorem CC.mono {a:Nat} (h:CC w base g n F) (b:a<=base):CC w a g n F:=by
 obtain ⟨c,h1,h2,h3⟩:=h;exact ⟨c,h1.mono b,h2,h3⟩
theorem CC.noU (h:CC w base g n F):NoU w g:=by
 obtain ⟨a,h1,h2,h3⟩:=h;exact h1.noU h2
theorem CC.lt (h:CC w base g n F):base<=g/\g<w.heap.size:=by
 obtain ⟨a,h1,h2,h3⟩:=h;exact h1.lt rfl
theorem CC.kept {a:Nat} (h:CC w base g n F) (d:NoU w a) (c:w.grownBy w' (some a)) (b:g≠a):CC w' base g n F:=by
 obtain ⟨f,h1,h2,h3⟩:=h;exact ⟨f,h1.kept c (Or.inr (by simpa [blk] using b)),h2,fun i e=>(h3 i e).keptU d c⟩
theorem CC.at (h:CC w base g n F) {i:Nat} (hi:i<n):∃ s a m c,w.cell? ⟨g,i*2,none⟩=some (.bool s)/\w.cell? ⟨g,i*2+1,none⟩=some (.slice a m c)/\Hid (decide (F i<0)=s)/\Wd w a m c (F i).natAbs:=by
 obtain ⟨r,h1,h2,h3⟩:=h;obtain ⟨s,a,m,c,l,o,p⟩:=h3 i hi;have k:=h1.slk (by omega);obtain ⟨b,q,f,j⟩:=k.rd (by omega);simp only [Option.some.injEq,Addr.mk.injEq,and_true] at f;obtain ⟨rfl,rfl⟩:=f;have d:=j i hi 0 (by omega);have e:=j i hi 1 (by omega);rw [l] at d e;simp only [Ac,List.getD_cons_zero,List.getD_cons_succ,Nat.zero_add,Nat.add_zero] at d e;exact ⟨s,a,m,c,d,e,o,p⟩
theorem CC.made (h:AP w base 83 2 (some ⟨g,0,none⟩) n n (List.replicate n (Ac false none 0 0))):CC w base g n (fun _=>0):=by
 refine ⟨_,h,fun r b u hu=>by rw [(List.mem_replicate.1 b).2] at hu; exact Ay _ _ _ _ u hu,fun i a => ?_⟩;have:(List.replicate n (Ac false none 0 0)).getD i []=Ac false none 0 0:=by simp [a]
 rw [this];exact J7 w
theorem KZ (k:o.guard=none) (B:o.op = .store 83 x y)
 (G:f.eval x = .pointer (some ⟨g,i*2,none⟩)) (H:f.eval y = .agg va) (l:va=(Ac s a m c).toArray) (h:CC w base g n F) (hi:i<n) (D:Hid (decide (z<0)=s)) (E:Wd w a m c z.natAbs)
 (q:∀ b,CC b base g n (fun j=>if j=i then z else F j)->w.grownBy b (some g)->wpList prog ops Q rest (f.put o.dst undef) b):wpList prog ops Q (o :: rest) f w:=by
 have p:=h.noU;obtain ⟨I,h1,h2,h3⟩:=h;have A:=h1.len (by omega);refine Im (vs:=Ac s a m c) k B (by omega) Ag G H l h1 hi rfl (Ad _ _ _ _) fun b t d=>q b ⟨_,t, ?_,fun j v => ?_⟩ d
 · intro r C u hu;rcases List.mem_or_eq_of_mem_set C with h|h
   · exact h2 r h u hu
   · rw [h] at hu; exact Ay _ _ _ _ u hu
 · by_cases e:j=i
   · subst e;dsimp only;rw [if_pos rfl,gqq,List.getElem?_set_self (by rw [A]; exact hi)];exact FF.keptU ⟨s,a,m,c,rfl,D,E⟩ p d
   · dsimp only;rw [if_neg e,gqq,List.getElem?_set_ne (by omega),<-gqq];exact (h3 j v).keptU p d
def Ek (w:World) (g:Nat) (z:Int):Prop:=∃ row,Arr w g 83 row/\FF w row z
theorem Ek.ext {z:Int} (h:Ek w g z) (e:Ext w w'):Ek w' g z:=by
 obtain ⟨a,h1,h2⟩:=h;exact ⟨a,h1.ext e,h2.ext e⟩
theorem Ek.lt {z:Int} (h:Ek w g z):g<w.heap.size:=by
 obtain ⟨a,h1,h2⟩:=h;exact h1.lt
theorem Ek.noU {z:Int} (h:Ek w g z):NoU w g:=by
 obtain ⟨b,h1,s,a,m,c,rfl,h2⟩:=h;exact h1.noU (Ay _ _ _ _)
theorem Ek.kept {z:Int} {a:Nat} (h:Ek w g z) (e:NoU w a) (d:w.grownBy w' (some a)) (b:g≠a):Ek w' g z:=by
 obtain ⟨c,h1,h2⟩:=h;exact ⟨c,h1.kept d (by simpa using b),h2.keptU e d⟩
theorem Ek.at (h:Ek w g z):∃ s a m c,w.cell? ⟨g,0,none⟩=some (.bool s)/\w.cell? ⟨g,1,none⟩=some (.slice a m c)/\Hid (decide (z<0)=s)/\Wd w a m c z.natAbs:=by
 obtain ⟨e,h1,s,a,m,c,rfl,b,d⟩:=h;exact ⟨s,a,m,c,h1.cell (i:=0) (by simp [Ac]),h1.cell (i:=1) (by simp [Ac]),b,d⟩
theorem OE (d:o.guard=none) (n:o.op = .store 83 x y)
 (r:f.eval x = .pointer (some ⟨g,0,none⟩)) (t:f.eval y = .agg va) (e:va=(Ac s a m c).toArray) (h:Ek w g z') (p:Hid (decide (z<0)=s)) (q:Wd w a m c z.natAbs)
 (j:∀ b,Ek b g z->w.grownBy b (some g)->wpList prog ops Q rest (f.put o.dst undef) b):wpList prog ops Q (o :: rest) f w:=by
 have l:=h.noU;obtain ⟨v,h1,D,A,C,B,rfl,_⟩:=h;exact Aa (vs:=Ac s a m c) d n r t e Ag h1 rfl (Ad _ _ _ _) fun b k i=>j b ⟨_,k,FF.keptU ⟨s,a,m,c,rfl,p,q⟩ l i⟩ i
theorem Ek.new (w:World):Ek (w.alloc (.cells (Ac false none 0 0).toArray 83)) w.heap.size 0:=⟨_,Arr.new w _ _,J7 _⟩
end
end Go.Proofs.YtlbmnokpiilfpaaGreatDoor
