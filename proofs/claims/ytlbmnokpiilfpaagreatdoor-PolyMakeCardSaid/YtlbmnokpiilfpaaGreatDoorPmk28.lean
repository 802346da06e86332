/- Part Pmk28. -/
import Derived.Test.YtlbmnokpiilfpaaGreatDoorPmk20
import Derived.Test.YtlbmnokpiilfpaaGreatDoorPmk27
import Derived.Test.YtlbmnokpiilfpaaGreatDoorPmk25
import Derived.Test.YtlbmnokpiilfpaaGreatDoorPmk6
import Derived.Test.YtlbmnokpiilfpaaGreatDoorPmk26
set_option maxRecDepth 100000
set_option maxHeartbeats 100000000
namespace Go.Proofs.YtlbmnokpiilfpaaGreatDoor
open Tryz Go Go.RowKit
variable {s:ByteArray} {vars:Int} {l x xs:List Int} {row:List Value} {b0 base c g i k n:Nat} {A a:Option Addr} {q:Rat} {v:Value} {w:World}
theorem ED {k:Nat}:∀ (a:List (List Value)),(∀ r∈a,r.length=k)->∀ i o (vs:List Value),o+vs.length<=k->i<a.length ->
 a.flatten.take (i*k+o) ++ vs ++ a.flatten.drop (i*k+o+vs.length)=(a.set i ((a.getD i []).take o ++ vs ++ (a.getD i []).drop (o+vs.length))).flatten
 | [],_,i,o,vs,_,hi=>by simp at hi
 | r :: rest,h,0,o,vs,hv,_=>by
  have hr:r.length=k:=h r (by simp);simp only [Nat.zero_mul,Nat.zero_add,List.flatten_cons,List.set_cons_zero,List.getD_cons_zero];rw [List.take_append_of_le_length (by omega),List.drop_append_of_le_length (by omega),<-List.append_assoc]
 | r :: rest,h,i+1,o,vs,hv,hi=>by
  have hr:r.length=k:=h r (by simp);have d:=ED rest (fun x c=>h x (by simp [c])) i o vs hv (by simpa using hi);have e:(i+1)*k+o=k+(i*k+o):=by rw [Nat.add_mul]; omega
  have b:k+(i*k+o)+vs.length=k+(i*k+o+vs.length):=by omega
  simp only [List.flatten_cons,List.set_cons_succ,List.getD_cons_succ,e,b];rw [<-d,<-hr,List.take_length_add_append,List.drop_length_add_append];simp
section
variable {w:World} {base:Nat} {e:TypeId} {k g n:Nat} {rows:List (List Value)}
theorem AP.arrK (h:AP w base e k (some ⟨g,0,none⟩) n n rows):Arr w g e rows.flatten:=by
 rcases h.2.2 with ⟨a,_⟩|⟨l,d,b,a,m,f,i,o,j,c⟩
 · simp at a
 simp only [Value.slice.injEq,Option.some.injEq,Addr.mk.injEq,and_true,true_and] at a;obtain ⟨rfl,rfl⟩:=a;have h2:b.toList=rows.flatten:=by rw [<-c,List.take_of_length_le (by simp [j])]
 unfold Arr;rw [f,<-h2]
theorem Arr.ownK (h:Arr w g e rows.flatten) (b:∀ r∈rows,r.length=k) (f:rows.length=n) (c:base<=g) (d:n<=maxLen):AP w base e k (some ⟨g,0,none⟩) n n rows:=by
 have a:=BN rows b;rw [f] at a;refine ⟨b,by rw [a],Or.inr ⟨g,n,rows.flatten.toArray,rfl,c,h,lrf _,d,by simpa using a, ?_⟩⟩;simpa using List.take_of_length_le (by rw [a]; exact lrf _)
end
def CS (vars:Int) (t:Tx):Prop:=(AF t.1).isSome=true/\(t.2.length:Int)=vars/\AU t.2=true
def B7 (t:Tx):Pl.Tm:=(A6 t.2,(AF t.1).getD 0)
def Tv:List Value:=As ze false none 0 0 none 0 0
def FV (w:World) (vars:Int) (ts:List Tx) (e:Ending) (w':World):Prop :=
 (¬ (0<=vars/\vars<=6)/\Cr w 0 [] 3 e w')\/(0<=vars/\vars<=6/\¬ (∀ t∈ts,CS vars t)/\Cr w 0 [] 1 e w')\/(0<=vars/\vars<=6/\(∀ t∈ts,CS vars t)/\C9 w (resQ vars (ts.map B7)) e w')
structure J4 (p:List Pl.Tm):Prop where
 pre:∀ a s,a ++ s=p->∀ e,Pl.RB 2400 (Pl.coef a e)
 each:∀ t∈p,Pl.RB 2400 t.2
 fits:IE p
theorem J5 {ts:List Tx} (hT:AR w) (h:Bk w A n c ts) (hs:∀ t∈ts,t.1.length<=570) (hn:n<=1000000) (ay:0<=vars->vars<=6->(∀ t∈ts,CS vars t)->J4 (ts.map B7)) :
 Calls prog 12 #[.int .i64 vars, .slice A n c] w (FV w vars ts):=by
 have aI:=h.len;obtain ⟨bk,hS,_,hq⟩:=h;have HQ:=qh hq;have HL:=qh aI;have HS:=qh hs;clear hq aI hs
 go_enter func12,ntmps12
 go_upto_region 1 with (fail)
 refine AE ?_;intro w0 M aT bF;have hR:Arr w0 w.heap.size 28 (Aq 0 none 0 0):=aT;have bN:(Aq 0 none 0 0).toArray=#[.int .i64 0, .slice none 0 0]:=rfl;clear aT bF;by_cases hv:0<=vars/\vars<=6
 · obtain ⟨a5,a6⟩:=hv;have bq:=qh (ay a5 a6);clear ay;obtain ⟨E,rfl⟩:∃ k:Nat,vars=(k:Int):=⟨vars.toNat,by omega⟩;have c1:¬ ((E:Int)<0):=by omega
   have c2:¬ ((6:Int)<(E:Int)):=by omega
   have aJ:nuR (List.replicate n Tv):=fun r hr u hu=>by rw [(List.mem_replicate.1 hr).2] at hu; exact Ba u hu
   go_upto_region 4 with (refine Er rfl rfl (by kernel_rfl) BO rfl rfl (by omega) (by unfold maxLen; omega) ?_; intro w1 an aU)
   obtain ⟨G,hG⟩:∃ G,w0.heap.size=G:=⟨_,rfl⟩;rw [hG] at an |-;go_wp2
   go_loopw [23] (fun iv wr=>∃ (k:Nat) (a:List (List Value)),iv = .int .i64 k/\k<=n/\Ext w0 wr/\AP wr w0.heap.size 92 10 (some ⟨G,0,none⟩) n n a/\nuR a/\Hid (∀ i,i<k->CS E (ts.getD i tm0)/\Bv wr (a.getD i []) (B7 (ts.getD i tm0)))/\Hid (∀ i,k<=i->i<n->a.getD i []=Tv)) (fun iv _=>n-(intOf iv).toNat)
   case atStart=>exact ⟨0,_,rfl,Nat.zero_le _,aU,by rw [hG]; exact an,aJ,qh (fun i d=>absurd d (by omega)),qh (fun i _ d=>by simp [d,Tv,ze])⟩
   case round =>
    clear an aU aJ;obtain ⟨k,a,rfl,hk,hE,hO,aw,HC,HZ⟩:=hrel;have aX:=M.trans hE;by_cases ad:k<n
    · have ao:=hS.ext aX;obtain ⟨b,bO,rfl,bu⟩:=ao.rd (by omega);obtain ⟨s,ax,nx,cx,aK,a4,af⟩:=HQ.out k ad;have hY:=Arr.new wr 26 (tmL ⟨#[]⟩ none 0 0);have aC:bk.getD k []=tmL s ax nx cx:=aK
      go_upto_region 7 with (first
       | (refine Br rfl rfl Cm rfl ao ad ?_; rw [aC])
       | (refine Aa (vs:=tmL s ax nx cx) rfl rfl rfl rfl rfl Cm hY rfl (EL _ _ _ _) ?_; intro w2 a8 b6))
      have a9:Ext wr w2:=((Ext.refl wr).alloc _).grownR b6 (lrf _);have aZ:=hO.ext a9;have ai:Hid (∀ i,i<k->CS E (ts.getD i tm0)/\Bv w2 (a.getD i []) (B7 (ts.getD i tm0))):=qh fun i d=>⟨(HC.out i d).1,(HC.out i d).2.ext a9⟩;have ag:=hE.trans a9;have aF:=M.trans ag;have S:=af.ext aF;have F:Hid (ts.getD k tm0∈ts):=qh (by simp [HL.out,ad]);have ba:s.size<=570:=by rw [<-Ax,a4]; exact HS.out _ F.out
      have a2:=qh (FA (w:=w2) (hT.ext aF) ba);rw [a4] at a2;obtain ⟨t,aR⟩:∃ t,Hid (ts.getD k tm0=t):=⟨_,qh rfl⟩;rw [aR.out] at a2 S af a4 F;obtain ⟨t1,P⟩:=t;simp only at a2 S af a4;obtain ⟨X,hX⟩:∃ x,wr.heap.size=x:=⟨_,rfl⟩;rw [hX] at a8 |-;have bI:G<X:=by have:=(hO.lt (g:=G) rfl).2; omega
      have y0:=a8.c 0 rfl;have y1:=a8.c 1 rfl;clear hY b6 hO hE a9 aK aC bu ao HC a4 ba
      go_wp2_with fail
      refine a2.out.mono ?_;rintro e w3 ⟨_,rfl,aa,B,f,m,j,o,z,y,rfl,aQ,bc,be⟩;have b5:=Arr.new w3 85 (Ao false none 0 0 false none 0 0);have bx:(Ao B f m j false o z y).toArray=#[.bool B, .slice f m j, .bool false, .slice o z y]:=rfl
      go_upto_region 8 with (refine Aa (vs:=Ao B f m j false o z y) rfl rfl rfl rfl rfl Ai b5 rfl (Ap _ _ _ _ _ _ _ _) ?_; intro w4 U b7)
      have R:Ext w3 w4:=((Ext.refl w3).alloc _).grownR b7 (lrf _);have H:=aa.trans R;have Q:=ag.trans H;have I:=M.trans Q;have ab:=hR.ext Q;have C:=aZ.ext H;have aj:Hid (∀ i,i<k->CS E (ts.getD i tm0)/\Bv w4 (a.getD i []) (B7 (ts.getD i tm0))):=qh fun i d=>⟨(ai.out i d).1,(ai.out i d).2.ext H⟩;have T:=S.ext H;have y1:=H.cell y1;have aA:=bc.ext R;have aB:=be.ext R;have ae:=T.len;obtain ⟨Y,b4⟩:∃ x,w3.heap.size=x:=⟨_,rfl⟩;rw [b4] at U |-;have z0:=U.c 0 rfl;have z1:=U.c 1 rfl;have z2:=U.c 2 rfl
      have z3:=U.c 3 rfl;clear b5 b7 bx aa R bc be aZ ai S y0 a8 a2 ag U b4;cases K:AF t1 with
      | none =>
       have a0:Hid (¬ ∀ t∈ts,CS E t):=qh (fun h=>by have:=(h _ F.out).1; rw [K] at this; cases this);simp only [Option.isSome_none];clear K
       go_wp2_with (refine Aa (vs:=Aq 0 none 0 0) rfl rfl rfl rfl rfl Ae ab rfl (Ar _ _ _ _) ?_; intro w9 L O)
       refine bodyPost_ret (At rfl Ae rfl rfl L) rfl ?_;exact Or.inr (Or.inl ⟨a5,a6,a0.out,none,0,0,rfl,I.grownR O (lrf _),TmO.nil _ _⟩)
      | some q =>
       simp only [Option.isSome_some,K,Option.getD_some] at aQ aA aB |-;by_cases D:(nx:Int)=E
       · have bi:((nx:Int) != (E:Int))=false:=by simp [D]
         cases Z:AU P with
         | false =>
          have a0:Hid (¬ ∀ t∈ts,CS E t):=qh (fun h=>by have:=(h _ F.out).2.2; rw [show ((t1,P):Tx).2=P from rfl,Z] at this; cases this);have W:=qh (DQ T);rw [Z] at W;have bo:=qh D;clear K Z D
          go_wp2_with fail
          refine W.out.mono ?_;rintro e w5 ⟨rfl,rfl⟩
          go_wp2_with (refine Aa (vs:=Aq 0 none 0 0) rfl rfl rfl rfl rfl Ae ab rfl (Ar _ _ _ _) ?_; intro w9 L O)
          refine bodyPost_ret (At rfl Ae rfl rfl L) rfl ?_;exact Or.inr (Or.inl ⟨a5,a6,a0.out,none,0,0,rfl,I.grownR O (lrf _),TmO.nil _ _⟩)
         | true =>
          have bm:Hid (CS E (t1,P)):=qh ⟨by rw [show ((t1,P):Tx).1=t1 from rfl,K]; rfl,by show (P.length:Int)=E; rw [ae]; exact D,Z⟩;have bn:Hid (B7 (t1,P)=(A6 P,q)):=qh (by show (A6 P,(AF t1).getD 0)=_; rw [K]; rfl);have W:=qh (DQ T);rw [Z] at W;have bz:nx<=6:=by omega
          have b9:=HZ.out k (lrf _) ad;have az:=C.len (by omega);have aq:=BN a C.1;rw [az] at aq
          have aN:Hid (a.flatten.take (k*10+6) ++ Ao B f m j false o z y ++ a.flatten.drop (k*10+6+(Ao B f m j false o z y).length)=(a.set k (As ze B f m j o z y)).flatten):=qh (by
           rw [ED a C.1 k 6 (Ao B f m j false o z y) (by simp [Ao,Ac]) (by omega),b9]
           rfl)
          have bb:∀ r∈a.set k (As ze B f m j o z y),r.length=10:=fun r hr=>by
           rcases List.mem_or_eq_of_mem_set hr with h|h
           · exact C.1 r h
           · rw [h,Cl]; rfl
          have bl:Hid ((a.set k (As ze B f m j o z y)).flatten.take (k*10) ++ P.map (Value.int .i64) ++ (a.set k (As ze B f m j o z y)).flatten.drop (k*10+nx)=(a.set k (As (A6 P) B f m j o z y)).flatten):=qh (by
           have h1:=ED (a.set k (As ze B f m j o z y)) bb k 0 (P.map (Value.int .i64)) (by simp; omega) (by simp; omega);rw [Nat.add_zero,List.length_map,ae] at h1;rw [h1,List.set_set];congr 2;have e1:(a.set k (As ze B f m j o z y)).getD k []=As ze B f m j o z y:=by rw [gqq,List.getElem?_set_self (by omega)]; rfl
           rw [e1,List.take_zero,List.nil_append,Nat.zero_add];unfold As A6;have hz:ze=List.replicate 6 0:=rfl
           rw [hz,List.map_replicate,List.map_append,List.map_replicate,List.drop_append,List.drop_replicate,ae,List.length_replicate,show nx-6=0 by omega,List.drop_zero,List.append_assoc])
          have hA4:=C.arrK;have bo:=qh D;have bp:=qh C.1;have bH:=(C.lt (g:=G) rfl);have ac:=C.noU aw;have b8:(k:Int)<n:=by omega
          have bK:X≠G:=by omega
          clear K Z D b9 C
          go_wp2_with fail
          refine W.out.mono ?_;rintro e w5 ⟨rfl,rfl⟩;clear W
          go_upto_region 11 with (refine CK rfl rfl (Ao B f m j false o z y) _ (by kernel_rfl) rfl rfl rfl hA4 (by rw [aq]; simp [Ao,Ac]; omega) (Ap _ _ _ _ _ _ _ _) aN.out ?_; intro w5 hA5 N)
          have bG:∀ v∈(a.set k (As ze B f m j o z y)).flatten,∀ i,v ≠ .int .u64 i:=fun v hv=>by
           obtain ⟨r,hr,hu⟩:=List.mem_flatten.1 hv;rcases List.mem_or_eq_of_mem_set hr with h|h
           · exact aw r h v hu
           · rw [h] at hu; exact Ba v hu
          have bC:w.heap.size<=G:=by have:=M.size; omega
          have aG:=I.grownR N bC;have aE:=Q.grownR N (Nat.le_of_eq hG);have aL:=af.ext aG;have yy:w5.cell? ⟨X,1,none⟩=some (.slice ax nx cx):=by rw [World.cell?_of_block (w:=w4) (N.block X (World.block_lt_of_cell? w4 ⟨X,1,none⟩ y1) (by simp; omega)),y1]
          have ak:Hid (∀ i,i<k->CS E (ts.getD i tm0)/\Bv w5 (a.getD i []) (B7 (ts.getD i tm0))):=qh fun i d=>⟨(aj.out i d).1,(aj.out i d).2.keptU ac N⟩;have bd:=aA.keptU ac N;have bf:=aB.keptU ac N;have aH:=BN _ bb;rw [List.length_set,az] at aH;clear y1 z0 z1 z2 z3 hA4 ac N aj aA aB T ab Q I aN aq
          go_still_tail 7,(by kernel_rfl)
          change wpList _ _ _ _ _ w5.drew;have hA6:Arr w5.drew G 92 (a.set k (As ze B f m j o z y)).flatten:=hA5;have V:=(Ext.refl w5).drew;have bj:=aL.ext V;have bh:=aE.trans V;have aM:Hid (∀ i,i<k->CS E (ts.getD i tm0)/\Bv w5.drew (a.getD i []) (B7 (ts.getD i tm0))):=qh fun i d=>⟨(ak.out i d).1,(ak.out i d).2.ext V⟩;have bD:=bd.ext V;have bE:=bf.ext V;clear hA5 aL aE aG ak bd bf V yy;generalize w5.drew=w6 at *
          have b2:=hA6.noU bG
          go_wp2_with (refine Jw (sT:=24) rfl rfl underlying24 CM rfl rfl hA6 bj bz (by rw [aH]; omega) (CN _) ?_; intro w7 hA7 au; rw [bl.out] at hA7)
          go_roundw
          case rel =>
           have bB:∀ r∈a.set k (As (A6 P) B f m j o z y),r.length=10:=fun r hr=>by
            rcases List.mem_or_eq_of_mem_set hr with h|h
            · exact bp.out r h
            · rw [h,Cl,CL (by omega)]
           refine ⟨k+1,a.set k (As (A6 P) B f m j o z y),by go_num,by omega,bh.grownR au (Nat.le_of_eq hG),hA7.ownK bB (by rw [List.length_set]; exact az) (Nat.le_of_eq hG) (by unfold maxLen; omega), ?_,qh fun i d => ?_,qh fun i h1 h2 => ?_⟩
           · intro r hr u hu;rcases List.mem_or_eq_of_mem_set hr with h|h
             · exact aw r h u hu
             · rw [h] at hu; exact Ba u hu
           · by_cases bw:i=k
             · subst bw;rw [aR.out];refine ⟨bm.out, ?_⟩;rw [bn.out,gqq,List.getElem?_set_self (by omega)];exact Bv.keptU ⟨B,f,m,j,o,z,y,rfl,CL (by show P.length<=6; omega),B,f,m,j,o,z,y,rfl,aQ,bD,bE⟩ b2 au
             · rw [gqq (l:=a.set _ _),List.getElem?_set_ne (by omega),<-gqq];exact ⟨(aM.out i (by omega)).1,(aM.out i (by omega)).2.keptU b2 au⟩
           · rw [gqq (l:=a.set _ _),List.getElem?_set_ne (by omega),<-gqq];exact HZ.out i (by omega) h2
          case measure=>simp [intOf]; omega
       · have a0:Hid (¬ ∀ t∈ts,CS E t):=qh (fun h=>D (by have:=(h _ F.out).2.1; rw [<-ae]; exact this));have bi:((nx:Int) != (E:Int))=true:=by simpa using D
         clear K D
         go_wp2_with (refine Aa (vs:=Aq 0 none 0 0) rfl rfl rfl rfl rfl Ae ab rfl (Ar _ _ _ _) ?_; intro w9 L O)
         refine bodyPost_ret (At rfl Ae rfl rfl L) rfl ?_;exact Or.inr (Or.inl ⟨a5,a6,a0.out,none,0,0,rfl,I.grownR O (lrf _),TmO.nil _ _⟩)
    · have b8:k=n:=by omega
      subst b8
      have aD:Hid (∀ t∈ts,CS E t):=qh (fun t ht=>by
       obtain ⟨i,d,rfl⟩:=List.mem_iff_getElem.1 ht;have:=(HC.out i (by rw [<-HL.out]; exact d)).1;rw [gqq,List.getElem?_eq_getElem d] at this
       exact this)
      have a1:=bq.out aD.out;have br:=qh a1
      have aW:Bn wr (some ⟨G,0,none⟩) k k (ts.map B7):=⟨a,hO.slk (by omega),by simp [HL.out],fun i d=>by
       have h1:=(HC.out i d).2;have h2:(ts.map B7).getD i ([],0)=B7 (ts.getD i tm0):=by simp [HL.out,d]
       rw [h2]; exact h1⟩
      have am:=(Ext.refl wr).alloc (.cells #[.slice (some ⟨G,0,none⟩) k k] 80);have aY:JO (wr.alloc (.cells #[.slice (some ⟨G,0,none⟩) k k] 80)) (some ⟨wr.heap.size,0,none⟩) 1 1 [ts.map B7]:=by
       refine ⟨[.slice (some ⟨G,0,none⟩) k k],(Az wr wr.heap.size 80 #[.slice (some ⟨G,0,none⟩) k k] 1 rfl (lrf _) (by omega)).sl,rfl,fun i d => ?_⟩;have:i=0:=by omega
       subst this;exact ⟨_,k,k,rfl,aW.ext am⟩
      have J:[ts.map B7].flatten=ts.map B7:=by simp
      have al:=qh (KW ((hT.ext aX).ext am) aY (by omega) (by rw [J]; exact a1.fits.len) (by rw [J]; exact a1.pre) (by rw [J]; exact a1.each));rw [J] at al;have ah:=hE.trans am;have bJ:=hR.ext ah;clear a1 aW aY hO HC HZ J
      go_wp2_with fail
      refine al.out.mono ?_;rintro e w3 ⟨bP,⟨f,m,j,rfl,aa,b0⟩,av,ap⟩;have ar:=br.out.fits.out av ap;have bL:=b0.len;have aS:=qh (Cw (vars:=E) (w0:=w0) (hT.ext M) (ah.trans aa) (b0.mono ah.size) (by omega) ar.1 ar.2.1 (by omega));have aO:=qh (And.intro av ap);clear av ap ar al
      go_wp2_with fail
      refine aS.out.mono ?_;intro e w7 hw;have hq:=FE.q (p:=ts.map B7) hw aO.out.1 aO.out.2;obtain ⟨rr,aP⟩:∃ r,Hid (resQ (E:Int) (ts.map B7)=r):=⟨_,qh rfl⟩;rw [aP.out] at hq;obtain ⟨a7,n7,c7,rfl,aV,bt⟩:=hq;have bA:BW rr.1 a7 n7 c7 = .agg #[.int .i64 rr.1, .slice a7 n7 c7]:=rfl;rw [bA];have bM:(Aq rr.1 a7 n7 c7).toArray=#[.int .i64 rr.1, .slice a7 n7 c7]:=rfl;have b1:=hR.ext aV;clear hw aS
      go_wp2_with (refine Aa (vs:=Aq rr.1 a7 n7 c7) rfl rfl rfl rfl rfl Ae b1 rfl (Ar _ _ _ _) ?_; intro w8 bs bv)
      refine bodyPost_ret (At rfl Ae rfl rfl bs) rfl ?_;exact Or.inr (Or.inr ⟨a5,a6,aD.out,by rw [aP.out]; exact IG M aV bt b1 bv (lrf _)⟩)
 · have HF:Hid (∀ e w',Cr w 0 [] 3 e w'->FV w vars ts e w'):=qh (fun e w' h=>Or.inl ⟨hv,h⟩);have bg:vars<0\/(¬ vars<0/\6<vars):=by omega
   clear hv ay;rcases bg with h1|⟨h1,h2⟩
   all_goals
    go_wp2_with (refine Aa (vs:=Aq 0 none 0 0) rfl rfl rfl rfl rfl Ae hR rfl (Ar _ _ _ _) ?_; intro w9 L O)
    refine bodyPost_ret (At rfl Ae rfl rfl L) rfl ?_;exact HF.out _ _ ⟨none,0,0,rfl,M.grownR O (lrf _),TmO.nil _ _⟩
theorem Sf {t:Pl.Tm} (a:Arr w g 103 row) (b:row.length=5) (c:TC w b0 row t):TSl w b0 (some ⟨g,0,none⟩) 1 1 [t] :=
 ⟨[row],B4 a b,rfl,fun i d=>by
  have:i=0:=by omega
  subst this
  exact c⟩
theorem QT (h:Own w base 3 a n c (xs.map (Value.int .i64))):XI w b0 a n c xs:=⟨h.sl,fun _ g b => .inr (Own.ty h g b)⟩
theorem PE {t:Pl.Tm} (h:Pl.RB 900000 t.2):Pl.SubOK [t]:=Pl.SubOK.of_rb (b:=900000) (by omega) (fun s a=>by rw [List.mem_singleton.1 a]; exact h) (by simp)
theorem IX {vars:Nat} (hv:vars<=12) (h:QV w v q) (hb:Pl.RB 900000 q) (hw:b0<=w.heap.size) :
 Calls prog 77 #[.int .i64 vars,v] w (QH w b0 vars vars [(List.replicate vars 0,q)]):=by
 obtain ⟨s,a,n,c,b,m,d,rfl,HS,Q,hy⟩:=h;have a2:((vars:Nat):Int)<=12:=by omega
 go_enter func77,ntmps77
 go_upto_region 1 with (fail)
 refine Dm ?_;intro p l k I a3;have p0:=k.c 0 rfl;have p1:=k.c 1 rfl;have p2:=k.c 2 rfl;have p3:=k.c 3 rfl;have hR:Arr p (w.heap.size+1) 44 (pL 0 none 0 0):=I;have hz:=fun (f:World) (i:Ext p f)=>qh (P0 (P:=prog) (w:=f) underlying24 CM rfl (n:=vars) (by omega) (by unfold maxLen; omega))
 have K:TB vars [((List.replicate vars (0:Int)),q)]:=fun t ht=>by
  rw [List.mem_singleton.1 ht];exact ⟨List.length_replicate,fun x Q=>by rw [List.eq_of_mem_replicate Q]; omega⟩
 have M:(List.replicate vars (0:Int)).map (Value.int .i64)=List.replicate vars (.int .i64 0):=List.map_replicate;generalize List.replicate vars (0:Int)=H at *
 rw [<-M] at hz;have Z:=qh (fun (f:World) (y g:Nat) (i:Ext p f) (hA:Arr f y 103 (tL s a n c b m d (some ⟨g,0,none⟩) vars vars)) (hO:Own f p.heap.size 3 (some ⟨g,0,none⟩) vars vars (H.map (Value.int .i64)))=>JY (N:=vars) (b0:=b0) hv (vars:=(vars:Int)) (Sf hA rfl (⟨s,a,n,c,b,m,d,_,_,_,rfl,HS,(Q.ext l).ext i,(hy.ext l).ext i,QT hO⟩:TC f b0 _ (H,q))) K (Nat.le_trans hw (l.trans i).size) (by omega) (PE hb));clear k I M K Q hy
 have r:=fun (f:World) (i:Ext p f)=>qh (And.intro (i.cell p0) (And.intro (i.cell p1) (And.intro (i.cell p2) (i.cell p3))))
 refine Ab (by kernel_rfl) (fun f=>Ext p f)
  [he (.int .i64 (vars:Int)),
 he (.agg #[.bool s, .slice a n c, .bool false, .slice b m d]),
 he (.int .i64 (vars:Int)),
 hp (fun v f=>∃ g,v = .slice (some ⟨g,0,none⟩) vars vars/\Own f p.heap.size 3 (some ⟨g,0,none⟩) vars vars (H.map (Value.int .i64))),
 hp (fun v f=>∃ g,v = .agg #[.bool s, .slice a n c, .bool false, .slice b m d, .slice (some ⟨g,0,none⟩) vars vars]/\Own f p.heap.size 3 (some ⟨g,0,none⟩) vars vars (H.map (Value.int .i64))),
 hp (fun v f=>∃ y g,v = .slice (some ⟨y,0,none⟩) 1 1/\Arr f y 103 (tL s a n c b m d (some ⟨g,0,none⟩) vars vars)/\Own f p.heap.size 3 (some ⟨g,0,none⟩) vars vars (H.map (Value.int .i64))),
 hp (fun v f=>∃ E C F j,v = .agg (pL vars E C F).toArray/\TO f b0 w.heap.size E C F j/\C<=1/\Pl.Canon vars j/\∀ x,Pl.coef j x=Pl.coef [(H,q)] x)]
  (by kernel_rfl) (fun _ _ e h=>h.trans e) ((Ext.refl p).drew) ⟨trivial,trivial,trivial,fun v w G e ⟨g,h1,h2⟩=>⟨g,h1,h2.ext e⟩,fun v w G e ⟨g,h1,h2⟩=>⟨g,h1,h2.ext e⟩,fun v w G e ⟨y,g,h1,h2,h3⟩=>⟨y,g,h1,h2.ext e,h3.ext e⟩,fun v w G e ⟨E,C,F,j,h1,h2,h3⟩=>⟨E,C,F,j,h1,h2.ext e,h3⟩,trivial⟩ ⟨?o0, ?o1, ?o2, ?o3, ?o4, ?o5, ?o6,trivial⟩ ?fin
 case o0 | o2=>exact omv
 case o1=>exact ol4
 case o3 =>
  refine AY rfl ?_;intro D f hp i h;have o:=hp.const;have B:=hp.func;have e0:D (.tmp 7)=(.int .i64 (vars:Int)):=h.1;have e1:D (.tmp 7)=(.int .i64 (vars:Int)):=h.2.1;obtain ⟨k0,k1,k2,k3⟩:=(r f i).out;obtain ⟨G,O,A,z⟩:=(hz f i).out;exact ⟨_,G,by simp [execOp,e0,O],z,f.heap.size,rfl,A.mono i.size⟩
 case o4 =>
  refine AY rfl ?_;intro D f hp i h;have o:=hp.const;have B:=hp.func;have e0:D (.tmp 6)=(.agg #[.bool s, .slice a n c, .bool false, .slice b m d]):=h.1;obtain ⟨v1,e1,g1,rfl,i1⟩:=h.2.1;obtain ⟨k0,k1,k2,k3⟩:=(r f i).out;refine ⟨.agg #[.bool s, .slice a n c, .bool false, .slice b m d, .slice (some ⟨g1,0,none⟩) vars vars],f, ?_,Ext.refl f,g1,rfl,i1⟩;go_simp
 case o5 =>
  refine AY rfl ?_;intro D f hp i h;have o:=hp.const;have B:=hp.func;obtain ⟨v0,e0,g0,rfl,i0⟩:=h.1;obtain ⟨k0,k1,k2,k3⟩:=(r f i).out;refine ⟨_,_, ?_,(Ext.refl f).alloc (.cells (tL s a n c b m d (some ⟨g0,0,none⟩) vars vars).toArray 103),f.heap.size,g0,rfl,Arr.new f 103 _,i0.alloc _⟩;simp [execOp,e0,Gz underlying42 Da];rfl
 case o6 =>
  refine Am rfl fun D f i o B h => ?_;have e1:D (.tmp 5)=(.int .i64 (vars:Int)):=h.2.1;obtain ⟨v2,e2,q2,y,rfl,i2,j2⟩:=h.2.2.1;obtain ⟨k0,k1,k2,k3⟩:=(r f i).out;refine ⟨74,#[.int .i64 vars, .slice (some ⟨q2,0,none⟩) 1 1],by go_simp,(Z.out f q2 y i i2 j2).mono ?_⟩;rintro e G ⟨E,C,F,j,rfl,z,A,V,T,X⟩;exact ⟨_,rfl,z,E,C,F,j,rfl,A.mono (l.trans i).size,V,T,X⟩
 case fin =>
  intro f i;rintro _ ⟨g8,rfl,_⟩;rintro _ ⟨g9,rfl,_⟩;rintro _ ⟨a0,a1,rfl,_,_⟩;rintro _ ⟨a9,n9,c9,j,rfl,S,W,U,Y⟩;change wpList _ _ _ _ _ _;simp only [la,lb,ld,lz,Act.put,lq,ly,lx];have J:=hR.ext i
  go_wp2_with (refine Aa (vs:=pL vars a9 n9 c9) rfl rfl rfl rfl rfl IR J rfl (KN _ _ _ _) ?_; intro w9 R L)
  exact bodyPost_ret (Al rfl IR rfl R) rfl ⟨a9,n9,c9,j,rfl,(l.trans i).grownR L (by omega),S.keptA J (by decide) (by decide) (by decide) (by omega) L,W,U,Y⟩
theorem IY {vars:Nat} (hv:vars<=12) (hi:i<vars) (hw:b0<=w.heap.size) :
 Calls prog 79 #[.int .i64 vars, .int .i64 i] w (QH w b0 vars vars [((List.replicate vars 0).set i 1,1)]):=by
 have a1:((vars:Nat):Int)<=12:=by omega
 have a0:(i:Int)<vars:=by omega
 have x:Hid (Pl.Canon vars [((List.replicate vars (0:Int)).set i 1,(1:Rat))]):=qh ⟨fun t U=>by rw [List.mem_singleton.1 U]; simp,fun t U=>by rw [List.mem_singleton.1 U]; exact (by decide:(1:Rat)≠0),List.pairwise_singleton _ _⟩
 go_enter func79,ntmps79
 go_upto_region 1 with (fail)
 refine AE ?_;intro K B A J;have R:Arr K w.heap.size 44 (pL 0 none 0 0):=A;clear A
 go_upto_region 2 with (refine Cs rfl rfl underlying24 CM rfl rfl rfl (n:=vars) (by omega) (by unfold maxLen; omega) ?_; intro X g p)
 have H:List.replicate vars (Value.int .i64 0)=(List.replicate vars (0:Int)).map (Value.int .i64):=List.map_replicate.symm;rw [H] at g;generalize List.replicate vars (0:Int)=L at *
 have M:=g.cellAt (j:=i) hi;have N:=g.frozenAt i;have k:=g.stored i (.int .i64 1);have F:((L.map (Value.int .i64)).set i (.int .i64 1))=(L.set i 1).map (Value.int .i64):=by rw [List.map_set]
 rw [F] at k;have l:=p.grownR (Af X K.heap.size i (.int .i64 1)) (lrf _);have q:=(R.ext p).kept (Af X K.heap.size i (.int .i64 1)) (by have:=R.lt; simp; omega);have T:=qh (fun wx=>T8 (z:=1) (w:=wx) (by omega));have Q:K.heap.size<=w.heap.size+1:=Nat.le_of_eq J;rw [J] at M N k l q;obtain ⟨G,Z⟩:∃ G,w.heap.size+1=G:=⟨_,rfl⟩;rw [Z] at M N k l q Q;simp only [Z];clear g p R H F
 go_upto_region 3 with (fail)
 generalize X.setCell ⟨G,i,none⟩ (.int .i64 1)=w2 at *
 clear M N
 go_wp2_with fail
 refine (T.out w2).mono ?_;rintro e v ⟨s,a,n,c,b,m,d,rfl,o,Y,V,W⟩;have hl:(Ao s a n c false b m d).toArray=#[.bool s, .slice a n c, .bool false, .slice b m d]:=rfl;rw [hl];have f:=(Ext.refl v).alloc (.cells (tL s a n c b m d (some ⟨G,0,none⟩) vars vars).toArray 103);have y:=Arr.new v 103 (tL s a n c b m d (some ⟨G,0,none⟩) vars vars);have h1:((1:Int):Rat)=1:=rfl;rw [h1] at Y V W;have C:=(q.ext o).ext f;have I:=(B.trans (l.trans o)).size
 have D:TC (v.alloc (.cells (tL s a n c b m d (some ⟨G,0,none⟩) vars vars).toArray 103)) b0 (tL s a n c b m d (some ⟨G,0,none⟩) vars vars) (L.set i 1,1):=⟨s,a,n,c,b,m,d,_,_,_,rfl,Y,V.ext f,W.ext f,QT ((k.ext o).ext f)⟩;have S:TO (v.alloc (.cells (tL s a n c b m d (some ⟨G,0,none⟩) vars vars).toArray 103)) b0 w.heap.size (some ⟨v.heap.size,0,none⟩) 1 1 [(L.set i 1,1)]:=by
  refine ⟨[tL s a n c b m d (some ⟨G,0,none⟩) vars vars],Arr.ownK (by simpa using y) (fun r hr=>by rw [List.mem_singleton.1 hr]; rfl) rfl I (by unfold maxLen; omega),rfl,fun j hj => ?_⟩;have:j=0:=by omega
  subst this;exact D
 have P:=(B.trans (l.trans o)).trans f;clear V W k y D
 go_wp2_with (refine Aa (vs:=pL vars (some ⟨v.heap.size,0,none⟩) 1 1) rfl rfl rfl rfl rfl IR C rfl (KN _ _ _ _) ?_; intro w9 O E)
 exact bodyPost_ret (Al rfl IR rfl O) rfl ⟨_,1,1,_,rfl,P.grownR E (lrf _),S.keptA C (by decide) (by decide) (by decide) hw E,lrf _,x.out,fun _=>rfl⟩
theorem Tw (h:SlI w a n c xs):XI w w.heap.size a n c xs:=by
 refine ⟨h,fun h0 g e => .inl ?_⟩;obtain ⟨b,o,rfl,d⟩:=Sl.rd h h0;have h1:b<w.heap.size:=World.block_lt_of_cell? w _ (d 0 h0);have h2:b=g:=by simpa [blk] using e
 omega
theorem Sg (ts:List Tx):EB (ts.map rdU)=ts.map B7:=by
 unfold EB;rw [List.map_map];rfl
theorem E9 (h:∀ x∈l,0<=x) {x:Int} (c:x∈l):x<=l.sum:=by
 induction l with
 | nil=>cases c
 | cons a r ih =>
  have h0:=h a (by simp);have h1:0<=r.sum:=by
   clear ih c
   induction r with
   | nil=>exact Int.le_refl _
   | cons b t ih2 =>
    have:=h b (by simp);have:=ih2 (fun y d=>h y (by rcases List.mem_cons.1 d with rfl | d <;> simp [*]));rw [List.sum_cons];omega
  rw [List.sum_cons];rcases List.mem_cons.1 c with rfl|c
  · omega
  · have:=ih (fun y d=>h y (List.mem_cons_of_mem _ d)) c;omega
theorem Pl.coef_canon {l:List Pl.Tm} (h:Pl.Canon n l) {t:Pl.Tm} (d:t∈l):Pl.coef l t.1=t.2:=by
 refine Pl.coef_mem ?_ d;refine List.Pairwise.map _ (fun a b c => ?_) h.desc;intro he;rw [he,Pl.ordE_self] at c;omega
theorem Mk {out:List Pl.Tm} {ts:List Tx} (h:Pl.Canon n out) (a:TB n (ts.map rdU)) (b:∀ x,Pl.coef out x=Pl.coef (ts.map rdU) x):∀ e,Pl.coef (EB out) e=Pl.coef (ts.map B7) e:=by
 rw [<-Sg];exact Mi h.len (fun t c=>(a t c).1) (fun e _=>b e)
theorem QU {vars:Nat} {ts:List Tx} (h:∀ t∈ts,CS vars t):TB vars (ts.map rdU):=fun t c=>by
 obtain ⟨s,b,rfl⟩:=List.mem_map.1 c;obtain ⟨-,h2,h3⟩:=h s b;obtain ⟨-,h4,h5⟩:=Ec.1 h3
 refine ⟨by have:s.2.length=vars:=by omega
            exact this,fun x d => ?_⟩
 have a:x∈s.2:=d;have h6:=E9 h4 a;have h7:=h4 x a;omega
theorem QW {ts:List Tx} (a:k<ts.length):(ts.take k).map rdU ++ [rdU (ts.getD k tm0)]=(ts.take (k+1)).map rdU:=by
 rw [List.take_succ_eq_append_getElem a,List.map_append,gqq,List.getElem?_eq_getElem a];rfl
theorem Np {ts:List Tx} (h:Bk w A n c ts) (hs:∀ t∈ts,t.1.length<=10000) (hn:n<=1000) (aT:0<=vars->vars<=6->(∀ t∈ts,CS vars t)->Pl.SubOK (ts.map rdU)) :
 Calls prog 13 #[.int .i64 vars, .slice A n c] w (FV w vars ts):=by
 have aC:=h.len;obtain ⟨bA,hS,_,hq⟩:=h;have HQ:=qh hq;have HL:=qh aC;have HS:=qh hs;clear hq aC hs
 go_enter func13,ntmps13
 go_upto_region 1 with (fail)
 refine AE ?_;intro w0 a9 aH bw;have hR:Arr w0 w.heap.size 28 (Aq 0 none 0 0):=aH;clear aH bw;by_cases hv:0<=vars/\vars<=6
 case neg =>
  have bm:vars<0\/¬ vars<0/\6<vars:=by omega
  rcases bm with c1|⟨c1,c2⟩
  all_goals
   go_wp2_with (refine Aa (vs:=Aq 0 none 0 0) rfl rfl rfl rfl rfl Ae hR rfl (Ar _ _ _ _) ?_; intro w9 m f)
   exact bodyPost_ret (At rfl Ae rfl rfl m) rfl (.inl ⟨hv,none,0,0,rfl,a9.grownR f (lrf _),TmO.nil _ _⟩)
 obtain ⟨K,L⟩:=hv;have bb:=qh (aT K L);clear aT;obtain ⟨l,rfl⟩:∃ k:Nat,vars=(k:Int):=⟨vars.toNat,by omega⟩;have c1:¬ ((l:Int)<0):=by omega
 have c2:¬ ((6:Int)<(l:Int)):=by omega
 go_wp2
 go_loopw [6,7] (fun lv iv wr=>∃ (k:Nat) (ao:Option Addr) (co:Nat),lv = .slice ao k co/\iv = .int .i64 k/\k<=n/\Ext w0 wr/\Hid (TO wr w.heap.size w0.heap.size ao k co ((ts.take k).map rdU))/\Hid (∀ i,i<k->CS l (ts.getD i tm0))) (fun _ iv _=>n-(intOf iv).toNat)
 case atStart=>exact ⟨0,none,0,rfl,rfl,Nat.zero_le _,Ext.refl _,qh (by rw [List.take_zero]; exact TO.nil _ _ _),qh (fun i hi=>absurd hi (by omega))⟩
 case round =>
  obtain ⟨k,ao,co,rfl,rfl,hk,hE,HO,HC⟩:=hrel;have a5:=a9.trans hE;have bl:=hR.ext hE;by_cases ap:k<n
  case neg =>
   have b2:¬ (k:Int)<n:=by omega
   have H:∀ t∈ts,CS l t:=fun t ht=>by
    obtain ⟨i,hi,rfl⟩:=List.getElem_of_mem ht;have h1:=HC.out i (by have:=HL.out; omega);rw [gqq,List.getElem?_eq_getElem hi,Option.getD_some] at h1;exact h1
   have hT:TO wr w.heap.size w0.heap.size ao k co (ts.map rdU):=by
    have h1:=HO.out;rw [List.take_of_length_le (by have:=HL.out; omega)] at h1;exact h1
   have ag:=bb.out H;have aU:=qh (JY (N:=l) (b0:=w.heap.size) (by omega) (vars:=(l:Int)) hT.sl (QU H) a5.size (by omega) ag);have Z:=qh H;have b1:=qh ag;have aS:=hT.sl.len;have b9:=qh aS;clear aS;clear hT H ag HO HC
   go_wp2_with fail
   refine aU.out.mono ?_;rintro e w1 ⟨a1,n1,aG,bx,rfl,aI,aL,bp,B,al⟩
   have au:=qh (KV (vars:=(l:Int)) aL.sl (fun t ht=>by
    have h1:=Pl.coef_canon B ht;rw [<-h1,al]
    exact b1.out (ts.map rdU) [] (by simp) t.1) (fun t ht=>by have:=B.len t ht; omega) (by have:=b9.out; omega))
   have aM:=bl.ext aI;have aA:=Mj (n:=l) (by omega) B (p:=ts.map B7) (Mk B (QU Z.out) al);have az:=qh aA;have bz:(pL (l:Int) a1 n1 aG).toArray=#[.int .i64 l, .slice a1 n1 aG]:=rfl;clear aU B al aL aA bp
   go_wp2_with fail
   refine au.out.mono ?_;rintro e w2 br;have G:=a5.trans aI;rcases br with ⟨am,I,O,a,rfl,a4,ai⟩|⟨am,I,O,a,rfl,a4,ai⟩
   · have hr:resQ (l:Int) (ts.map B7)=((l:Int),wrU bx,0):=by
      rcases az.out with h|h
      · exact h.2
      · exact absurd am h.1
     have HR:=qh hr;have a6:=aM.ext a4;have ar:BW (l:Int) I O a = .agg #[.int .i64 l, .slice I O a]:=rfl;rw [ar];have bq:(Aq (l:Int) I O a).toArray=#[.int .i64 l, .slice I O a]:=rfl;clear hr au
     go_wp2_with (refine Aa (vs:=Aq (l:Int) I O a) rfl rfl rfl rfl rfl Ae a6 rfl (Ar _ _ _ _) ?_; intro w9 m f)
     refine bodyPost_ret (At rfl Ae rfl rfl m) rfl (.inr (.inr ⟨K,L,Z.out, ?_⟩));rw [HR.out];exact ⟨I,O,a,rfl,(G.trans a4).grownR f (lrf _),(ai.mono G.size).keptU a6 (by decide) (by decide) f⟩
   · have hr:resQ (l:Int) (ts.map B7)=(0,[],2):=by
      rcases az.out with h|h
      · exact absurd h.1 am
      · exact h.2
     have HR:=qh hr;have a6:=aM.ext a4;have ar:BW 0 I O a = .agg #[.int .i64 0, .slice I O a]:=rfl;rw [ar];have bq:(Aq 0 I O a).toArray=#[.int .i64 0, .slice I O a]:=rfl;clear hr au
     go_wp2_with (refine Aa (vs:=Aq 0 I O a) rfl rfl rfl rfl rfl Ae a6 rfl (Ar _ _ _ _) ?_; intro w9 m f)
     refine bodyPost_ret (At rfl Ae rfl rfl m) rfl (.inr (.inr ⟨K,L,Z.out, ?_⟩));rw [HR.out];exact ⟨I,O,a,rfl,(G.trans a4).grownR f (lrf _),(ai.mono G.size).keptU a6 (by decide) (by decide) f⟩
  have b2:(k:Int)<n:=by omega
  have aN:=hS.ext a5;obtain ⟨b,Q,rfl,ak⟩:=aN.rd (by omega);obtain ⟨s,ax,P,cx,af,av,ac⟩:=HQ.out k ap;have an:k<ts.length:=by have:=HL.out; omega
  have y:Hid (ts.getD k tm0∈ts):=qh (by rw [gqq,List.getElem?_eq_getElem an,Option.getD_some]; exact List.getElem_mem an);have gs:wr.cell? ⟨b,Q+k*2,none⟩=some (.string s):=by have:=ak k ap 0 (by omega); rw [af] at this; exact this
  have gx:wr.cell? ⟨b,Q+k*2+1,none⟩=some (.slice ax P cx):=by have:=ak k ap 1 (by omega); rw [af] at this; exact this
  have aw:=(Tw ac).ext a5;have ay:=ac.ext a5;have aq:=ac.len;have aV:s.size<=10000:=by rw [<-Ax,av]; exact HS.out _ y.out
  have ab:=qh (Mc (w:=wr) aV);rw [av] at ab;have aE:=qh (QW an);obtain ⟨t,aF⟩:∃ t,Hid (ts.getD k tm0=t):=⟨_,qh rfl⟩;rw [aF.out] at ab aw ay aq y aE;clear ak af ac av aV aN
  go_wp2_with fail
  refine ab.out.mono ?_;rintro e w3 ⟨X,R,W,T,S,V,U,rfl,bf,a8⟩;have aP:=Arr.new w3 99 (Ao false none 0 0 false none 0 0);have bo:(Ao X R W T false S V U).toArray=#[.bool X, .slice R W T, .bool false, .slice S V U]:=rfl
  go_upto_region 8 with (refine Aa (vs:=Ao X R W T false S V U) rfl rfl rfl rfl rfl Bo aP rfl (Ap _ _ _ _ _ _ _ _) ?_; intro w4 J aQ)
  have ad:Ext w3 w4:=((Ext.refl w3).alloc _).grownR aQ (lrf _);have z:=bf.trans ad;have F:=hE.trans z;have ae:=a9.trans F;have aj:=hR.ext F;have be:=z.cell gx;have b7:=ay.ext z;have b6:=aw.ext z;obtain ⟨Y,aO⟩:∃ x,w3.heap.size=x:=⟨_,rfl⟩;rw [aO] at J |-;have z0:=J.c 0 rfl;have z1:=J.c 1 rfl;have z2:=J.c 2 rfl;have z3:=J.c 3 rfl;clear aP aQ bo ab J aO gs gx ay aw;cases C:AF t.1 with
  | none =>
   have a0:Hid (¬ ∀ t∈ts,CS l t):=qh (fun h=>by have:=(h _ y.out).1; rw [C] at this; cases this);simp only [Option.isSome_none];clear C a8
   go_wp2_with (refine Aa (vs:=Aq 0 none 0 0) rfl rfl rfl rfl rfl Ae aj rfl (Ar _ _ _ _) ?_; intro w9 m f)
   refine bodyPost_ret (At rfl Ae rfl rfl m) rfl ?_;exact Or.inr (Or.inl ⟨K,L,a0.out,none,0,0,rfl,ae.grownR f (lrf _),TmO.nil _ _⟩)
  | some q =>
   obtain ⟨bd,bs,bu⟩:=a8 q C;have bt:=bs.ext ad;have bv:=bu.ext ad;simp only [Option.isSome_some];by_cases D:(P:Int)=l
   case neg =>
    have b4:((P:Int) != (l:Int))=true:=by simpa using D
    have a0:Hid (¬ ∀ t∈ts,CS l t):=qh (fun h=>D (by have:=(h _ y.out).2.1; rw [<-aq]; exact this));clear C a8 D
    go_wp2_with (refine Aa (vs:=Aq 0 none 0 0) rfl rfl rfl rfl rfl Ae aj rfl (Ar _ _ _ _) ?_; intro w9 m f)
    refine bodyPost_ret (At rfl Ae rfl rfl m) rfl ?_;exact Or.inr (Or.inl ⟨K,L,a0.out,none,0,0,rfl,ae.grownR f (lrf _),TmO.nil _ _⟩)
   have b4:((P:Int) != (l:Int))=false:=by simp [D]
   have ba:=qh D;have aa:=qh (GZ b7);cases M:AU t.2 with
   | false =>
    have a0:Hid (¬ ∀ t∈ts,CS l t):=qh (fun h=>by have:=(h _ y.out).2.2; rw [M] at this; cases this);rw [M] at aa;clear C M D a8
    go_wp2_with fail
    refine aa.out.mono ?_;rintro e w5 ⟨rfl,rfl⟩
    go_wp2_with (refine Aa (vs:=Aq 0 none 0 0) rfl rfl rfl rfl rfl Ae aj rfl (Ar _ _ _ _) ?_; intro w9 m f)
    refine bodyPost_ret (At rfl Ae rfl rfl m) rfl ?_;exact Or.inr (Or.inl ⟨K,L,a0.out,none,0,0,rfl,ae.grownR f (lrf _),TmO.nil _ _⟩)
   | true =>
    have b8:Hid (∀ i,i<k+1->CS l (ts.getD i tm0)):=qh (fun i hi=>by
     by_cases bn:i<k
     · exact HC.out i bn
     · have:i=k:=by omega
       subst this;rw [aF.out]
       exact ⟨by rw [C]; rfl,by rw [aq]; exact ba.out,M⟩)
    have bc:Hid (rdU t=(t.2,q)):=by show _=_; unfold rdU; rw [C]; rfl
    rw [M] at aa;clear C M D a8
    go_wp2_with fail
    refine aa.out.mono ?_;rintro e w5 ⟨rfl,rfl⟩
    go_upto_region 10 with (fail)
    have ah:=fun (E:World) (o:Ext w4 E)=>qh (And.intro (o.cell z0) (And.intro (o.cell z1) (And.intro (o.cell z2) (And.intro (o.cell z3) (o.cell be)))))
    refine Ab (by kernel_rfl) (fun E=>Ext w4 E)
     [he (.slice ao k co),
 he (.agg #[.bool X, .slice R W T, .bool false, .slice S V U]),
 he (.slice (some ⟨b,Q,none⟩) n c),
 he (.int .i64 (k:Int)),
 he (.pointer (some ⟨b,(Q+k*2),none⟩)),
 he (.pointer (some ⟨b,((Q+k*2)+1),none⟩)),
 he (.slice ax P cx),
 he (.agg #[.bool X, .slice R W T, .bool false, .slice S V U, .slice ax P cx]),
 hp (fun v E=>∃ g,v = .slice (some ⟨g,0,none⟩) 1 1/\Arr E g 103 (tL X R W T S V U ax P cx))]
     (by kernel_rfl) (fun _ _ e h=>h.trans e) ((Ext.refl w4).drew) ⟨trivial,trivial,trivial,trivial,trivial,trivial,trivial,trivial,fun v w w' e ⟨g,h1,h2⟩=>⟨g,h1,h2.ext e⟩,trivial⟩ ⟨?o0, ?o1, ?o2, ?o3, ?o4, ?o5, ?o6, ?o7, ?o8,trivial⟩ ?fin
    case o0 | o2 | o3=>exact omv
    case o1=>exact ol4
    case o5=>exact ofa (d:=1)
    case o6=>exact ol
    case o4 =>
     refine An rfl fun ρ E o aB h => ?_;have e0:ρ (.tmp 56)=(.slice (some ⟨b,Q,none⟩) n c):=h.1;have e1:ρ (.tmp 57)=(.int .i64 (k:Int)):=h.2.1;obtain ⟨aW,aX,aY,aZ,kx⟩:=(ah E o).out;go_simp
     try (first | (intros; omega) | exact IntWalk.i64_in _ (by omega))
    case o7 =>
     refine An rfl fun ρ E o aB h => ?_;have e0:ρ (.tmp 55)=(.agg #[.bool X, .slice R W T, .bool false, .slice S V U]):=h.1;have e1:ρ (.tmp 60)=(.slice ax P cx):=h.2.1;obtain ⟨aW,aX,aY,aZ,kx⟩:=(ah E o).out;go_simp
    case o8 =>
     refine AY rfl ?_;intro ρ E hp o h;have aB:=hp.const;have bC:=hp.func;have e0:ρ (.tmp 61)=(.agg #[.bool X, .slice R W T, .bool false, .slice S V U, .slice ax P cx]):=h.1;obtain ⟨aW,aX,aY,aZ,kx⟩:=(ah E o).out;refine ⟨_,_, ?_,(Ext.refl E).alloc (.cells (tL X R W T S V U ax P cx).toArray 103),E.heap.size,rfl,Arr.new E 103 (tL X R W T S V U ax P cx)⟩;simp [execOp,e0,Gz underlying42 Da];rfl
    case fin =>
     intro E o;rintro _ ⟨g9,rfl,bh⟩;change wpList _ _ _ _ _ _;simp only [la,lb,ld,lz,Act.put,lq,ly,lx];obtain ⟨bD,hK,bj,bi⟩:=HO.out;have aJ:=z.trans o;have aK:=hK.ext aJ;have hL:=B4 (k:=5) bh rfl;have b5:=(F.trans o).size
     go_wp2_with (refine DO rfl rfl underlying42 Da rfl aK rfl hL (by intro r hr u hu; rw [List.mem_singleton.1 hr] at hu; exact Gy u hu) (by unfold maxLen; omega) (by omega) b5 ?_; intro a7 c7 w7 bk aR bB)
     have aD:=TO.grow aK bj (fun j hj=>(bi j hj).ext aJ) (⟨X,R,W,T,S,V,U,ax,P,cx,rfl,bd,bt.ext o,bv.ext o,b6.ext o⟩:TC _ w.heap.size (tL X R W T S V U ax P cx) (t.2,q)) a9.size bk aR;rw [<-bc.out,aE.out] at aD;have bg:Ext w0 w7:=(F.trans o).grown aR (fun k hk=>(hK.lt hk).1);go_roundw
     case rel=>exact ⟨k+1,a7,c7,rfl,by go_num,by omega,bg,qh aD,b8⟩
     case measure=>simp [intOf]; omega
def OC (w:World) (vars:Int) (l:List UInt8) (e:Ending) (w':World):Prop:=(¬ (0<=vars/\vars<=6)/\Cr w 0 [] 3 e w')\/(0<=vars/\vars<=6/\AF l=none/\Cr w 0 [] 1 e w')\/(0<=vars/\vars<=6/\∃ q,AF l=some q/\C9 w (resQ vars (BZ q)) e w')
theorem Nq {out:List Pl.Tm} (d:AU x=true) (a:Pl.Canon n out) (b:∀ e,Pl.coef out e=Pl.coef [(x,q)] e) (f:out.length<=1):okU out:=by
 refine ⟨by omega,fun t r h => ?_⟩;have c:t∈out:=by rw [h]; simp
 have h1:=Pl.coef_canon a c;have h2:=a.nz t c;rw [b] at h1;by_cases he:x=t.1
 · rw [<-he]; exact d
 · refine absurd ?_ h2;rw [<-h1];show (if x=t.1 then q else 0)+0=0;rw [if_neg he];exact Rat.add_zero 0
theorem KX (h:n<=6):AU (List.replicate n 0)=true:=by
 refine Ec.2 ⟨by simpa using h,fun x a=>by rw [List.eq_of_mem_replicate a]; exact Int.le_refl _, ?_⟩;rw [List.sum_replicate_int];omega
theorem IZ (g:n<=6) {x:List Int} {q:Rat} {out p:List Pl.Tm} (j:AU x=true) (d:x.length=n) (a:Pl.Canon n out) (c:∀ e,Pl.coef out e=Pl.coef [(x,q)] e) (f:out.length<=1) (hp:∀ e,Pl.coef [(A6 x,q)] e=Pl.coef p e):resQ (n:Int) p=((n:Int),wrU out,0):=by
 have h1:∀ e,Pl.coef (EB out) e=Pl.coef p e:=by
  intro e;rw [<-hp e];exact Mi (b:=[(x,q)]) a.len (fun t i=>by rw [List.mem_singleton.1 i]; exact d) (fun e _=>c e) e
 rcases Mj g a h1 with h|h
 · exact h.2
 · exact absurd (Nq j a c f) h.1
theorem PF (h:n<=6):A6 (List.replicate n 0)=ze:=by
 have:n=0\/n=1\/n=2\/n=3\/n=4\/n=5\/n=6:=by omega
 rcases this with rfl|rfl|rfl|rfl|rfl|rfl|rfl <;> rfl
theorem Ml (q:Rat) (e:List Int):Pl.coef (BZ q) e=Pl.coef [(ze,q)] e:=by
 unfold BZ;by_cases h:q=0
 · rw [if_pos h,h];show (0:Rat)=(if ze=e then 0 else 0)+0;rw [ite_self];exact (Rat.add_zero 0).symm
 · rw [if_neg h];rfl
theorem Mm (hs:s.size<=10000) (hb:∀ q,AF (Aj s)=some q->Pl.RB 900000 q):Calls prog 15 #[.int .i64 vars, .string s] w (OC w vars (Aj s)):=by
 go_enter func15,ntmps15
 go_upto_region 1 with (fail)
 refine AE ?_;intro w0 I H ab;have hR:Arr w0 w.heap.size 28 (Aq 0 none 0 0):=H;clear H ab;by_cases hv:0<=vars/\vars<=6
 case neg =>
  have a7:vars<0\/¬ vars<0/\6<vars:=by omega
  rcases a7 with c1|⟨c1,c2⟩
  all_goals
   go_wp2_with (refine Aa (vs:=Aq 0 none 0 0) rfl rfl rfl rfl rfl Ae hR rfl (Ar _ _ _ _) ?_; intro w9 j d)
   exact bodyPost_ret (At rfl Ae rfl rfl j) rfl (.inl ⟨hv,none,0,0,rfl,I.grownR d (lrf _),TmO.nil _ _⟩)
 obtain ⟨U,V⟩:=hv;obtain ⟨g,rfl⟩:∃ k:Nat,vars=(k:Int):=⟨vars.toNat,by omega⟩;have c1:¬ ((g:Int)<0):=by omega
 have c2:¬ ((6:Int)<(g:Int)):=by omega
 have S:=qh (Mc (w:=w0) hs);have HB:=qh hb;clear hb
 go_wp2_with fail
 refine S.out.mono ?_;rintro e w3 ⟨s3,D,Z,F,E,Y,G,rfl,J,z⟩;have O:=Arr.new w3 99 (Ao false none 0 0 false none 0 0);have ad:(Ao s3 D Z F false E Y G).toArray=#[.bool s3, .slice D Z F, .bool false, .slice E Y G]:=rfl
 go_upto_region 4 with (refine Aa (vs:=Ao s3 D Z F false E Y G) rfl rfl rfl rfl rfl Bo O rfl (Ap _ _ _ _ _ _ _ _) ?_; intro w4 i Q)
 have a:Ext w3 w4:=((Ext.refl w3).alloc _).grownR Q (lrf _);have l:=I.trans (J.trans a);have M:=hR.ext (J.trans a);have z0:=i.c 0 rfl;have z1:=i.c 1 rfl;have z2:=i.c 2 rfl;have z3:=i.c 3 rfl;clear O Q S i;cases f:AF (Aj s) with
 | none =>
  simp only [Option.isSome_none];have o:=qh f;clear f z
  go_wp2_with (refine Aa (vs:=Aq 0 none 0 0) rfl rfl rfl rfl rfl Ae M rfl (Ar _ _ _ _) ?_; intro w9 j d)
  exact bodyPost_ret (At rfl Ae rfl rfl j) rfl (.inr (.inl ⟨U,V,o.out,none,0,0,rfl,l.grownR d (lrf _),TmO.nil _ _⟩))
 | some q =>
  obtain ⟨a1,W,X⟩:=z q f;simp only [Option.isSome_some];have o:=qh f;have y:=HB.out q f;have P:=qh (IX (b0:=w.heap.size) (vars:=g) (w:=w4) (v := .agg #[.bool s3, .slice D Z F, .bool false, .slice E Y G]) (q:=q) (by omega) ⟨s3,D,Z,F,E,Y,G,rfl,a1,W.ext a,X.ext a⟩ y l.size);have a0:=qh y;clear f z W X y
  go_wp2_with fail
  refine P.out.mono ?_;rintro e w5 ⟨a5,n5,c5,ag,rfl,K,r,R,b,x⟩;have a8:=r.sl.len;have ae:n5<=1:=R
  have aa:=qh (EC (vars:=(g:Int)) r.sl (fun t ht=>by
   have h1:=Pl.coef_canon b ht;rw [x] at h1;rw [<-h1];by_cases he:List.replicate g (0:Int)=t.1
   · simp only [Pl.coef,he,if_true,Rat.add_zero];exact a0.out.mono (by omega)
   · simp only [Pl.coef,he,if_false,Rat.add_zero]
     exact Pl.RB.zero (by omega)) (fun t ht=>by have:=b.len t ht; omega) (by omega))
  have T:=qh (IZ (n:=g) (by omega) (p:=BZ q) (KX (by omega)) List.length_replicate b x (by omega) (fun e=>by
   rw [PF (by omega)]
   exact (Ml q e).symm))
  have a4:=M.ext K;have ac:(pL (g:Int) a5 n5 c5).toArray=#[.int .i64 g, .slice a5 n5 c5]:=rfl;have m:=l.trans K;clear P b x r R a8
  go_wp2_with fail
  refine aa.out.mono ?_;rintro e w6 ⟨A,C,B,rfl,L,a2⟩;have N:=a4.ext L;have a9:BW (g:Int) A C B = .agg #[.int .i64 g, .slice A C B]:=rfl;rw [a9];have af:(Aq (g:Int) A C B).toArray=#[.int .i64 g, .slice A C B]:=rfl
  go_wp2_with (refine Aa (vs:=Aq (g:Int) A C B) rfl rfl rfl rfl rfl Ae N rfl (Ar _ _ _ _) ?_; intro w9 j d)
  refine bodyPost_ret (At rfl Ae rfl rfl j) rfl (.inr (.inr ⟨U,V,q,o.out, ?_⟩));rw [T.out];exact ⟨A,C,B,rfl,(m.trans L).grownR d (lrf _),(a2.mono m.size).keptU N (by decide) (by decide) d⟩
theorem Sh (a:n<=6) (hi:i<n):A6 ((List.replicate n 0).set i 1)=Ej i/\AU ((List.replicate n 0).set i 1)=true:=by
 have h1:∀ n,n<=6->∀ i,i<n->A6 ((List.replicate n 0).set i 1)=Ej i/\AU ((List.replicate n 0).set i 1)=true:=by decide
 exact h1 n a i hi
theorem PG {i:Int}:Calls prog 17 #[.int .i64 vars, .int .i64 i] w (IH w vars i):=by
 go_enter func17,ntmps17
 go_upto_region 1 with (fail)
 refine AE ?_;intro T j s M;have R:Arr T w.heap.size 28 (Aq 0 none 0 0):=s;clear s M;by_cases A:0<=vars/\vars<=6/\0<=i/\i<vars
 case neg =>
  have H:vars<0\/(¬ vars<0/\6<vars)\/(¬ vars<0/\¬ 6<vars/\i<0)\/(¬ vars<0/\¬ 6<vars/\¬ i<0/\vars<=i):=by omega
  rcases H with D|⟨D,E⟩|⟨D,E,P⟩|⟨D,E,P,W⟩
  all_goals
   go_wp2_with (refine Aa (vs:=Aq 0 none 0 0) rfl rfl rfl rfl rfl Ae R rfl (Ar _ _ _ _) ?_; intro w9 g d)
   exact bodyPost_ret (At rfl Ae rfl rfl g) rfl (.inr ⟨A,none,0,0,rfl,j.grownR d (lrf _),TmO.nil _ _⟩)
 obtain ⟨h1,h2,h3,h4⟩:=A;obtain ⟨b,rfl⟩:∃ k:Nat,vars=(k:Int):=⟨vars.toNat,by omega⟩;obtain ⟨k,rfl⟩:∃ k:Nat,i=(k:Int):=⟨i.toNat,by omega⟩;have D:¬ ((b:Int)<0):=by omega
 have E:¬ ((6:Int)<(b:Int)):=by omega
 have P:¬ ((k:Int)<0):=by omega
 have W:¬ ((b:Int)<=(k:Int)):=by omega
 obtain ⟨u1,u2⟩:=Sh (n:=b) (i:=k) (by omega) (by omega);have C:=qh (IY (b0:=w.heap.size) (vars:=b) (i:=k) (w:=T) (by omega) (by omega) j.size);have U:=qh u1;have V:=qh u2;clear u1 u2
 go_wp2_with fail
 refine C.out.mono ?_;rintro e w5 ⟨O,N,Q,Z,rfl,v,l,z,c,m⟩;have I:=l.sl.len;have X:N<=1:=z
 have L:=qh (EC (vars:=(b:Int)) l.sl (fun t K=>by
  have h1:=Pl.coef_canon c K;rw [m] at h1;rw [<-h1];by_cases he:(List.replicate b (0:Int)).set k 1=t.1
  · simp only [Pl.coef,he,if_true,Rat.add_zero];exact ⟨Ah (a:=1) (by decide) (by omega),Ah (a:=1) (by decide) (by omega)⟩
  · simp only [Pl.coef,he,if_false,Rat.add_zero]
    exact Pl.RB.zero (by omega)) (fun t K=>by have:=c.len t K; omega) (by omega))
 have B:=qh (IZ (n:=b) (by omega) (p:=[(Ej k,1)]) V.out (by simp) c m (by omega) (fun e=>by rw [U.out]));have G:=R.ext v;have S:(pL (b:Int) O N Q).toArray=#[.int .i64 b, .slice O N Q]:=rfl;have f:=j.trans v;clear C c m l z I
 go_wp2_with fail
 refine L.out.mono ?_;rintro e w6 ⟨o,r,q,rfl,x,F⟩;have y:=G.ext x;have J:BW (b:Int) o r q = .agg #[.int .i64 b, .slice o r q]:=rfl;rw [J];have Y:(Aq (b:Int) o r q).toArray=#[.int .i64 b, .slice o r q]:=rfl
 go_wp2_with (refine Aa (vs:=Aq (b:Int) o r q) rfl rfl rfl rfl rfl Ae y rfl (Ar _ _ _ _) ?_; intro w9 g d)
 refine bodyPost_ret (At rfl Ae rfl rfl g) rfl (.inl ⟨h1,h2,h3,h4, ?_⟩);rw [Int.toNat_natCast,B.out];exact ⟨o,r,q,rfl,(f.trans x).grownR d (lrf _),(F.mono f.size).keptU y (by decide) (by decide) d⟩
theorem PH (q:Rat):Pl.Nrm (BZ q):=by
 unfold BZ;by_cases h:q=0
 · rw [if_pos h]; exact Pl.Nrm.nil
 · rw [if_neg h]; exact Ok rfl h
theorem QX {t:Pl.Tm} (h:t∈BZ q):t=([0,0,0,0,0,0],q):=by
 unfold BZ at h;split at h
 · cases h
 · simpa using h
theorem Nr (hT:AR w) (hs:s.size<=570) (hb:∀ q,AF (Aj s)=some q->q.num.natAbs<P2 1920/\q.den<P2 1920):Calls prog 14 #[.int .i64 vars, .string s] w (OC w vars (Aj s)):=by
 go_enter func14,ntmps14
 go_upto_region 1 with (fail)
 refine AE ?_;intro w0 f G ac;have hR:Arr w0 w.heap.size 28 (Aq 0 none 0 0):=G;clear G ac;by_cases hv:0<=vars/\vars<=6
 case neg =>
  have a9:vars<0\/¬ vars<0/\6<vars:=by omega
  rcases a9 with c1|⟨c1,c2⟩
  all_goals
   go_wp2_with (refine Aa (vs:=Aq 0 none 0 0) rfl rfl rfl rfl rfl Ae hR rfl (Ar _ _ _ _) ?_; intro w9 j m)
   exact bodyPost_ret (At rfl Ae rfl rfl j) rfl (.inl ⟨hv,none,0,0,rfl,f.grownR m (lrf _),TmO.nil _ _⟩)
 obtain ⟨R,S⟩:=hv;obtain ⟨vn,rfl⟩:∃ k:Nat,vars=(k:Int):=⟨vars.toNat,by omega⟩;have c1:¬ ((vn:Int)<0):=by omega
 have c2:¬ ((6:Int)<(vn:Int)):=by omega
 have Q:=qh (FA (w:=w0) (hT.ext f) hs);have HB:=qh hb;clear hb
 go_wp2_with fail
 refine Q.out.mono ?_;rintro e w3 ⟨_,rfl,a2,Z,A,W,D,C,V,F,rfl,y,T,U⟩;have K:=Arr.new w3 85 (Ao false none 0 0 false none 0 0);have ad:(Ao Z A W D false C V F).toArray=#[.bool Z, .slice A W D, .bool false, .slice C V F]:=rfl
 go_upto_region 4 with (refine Aa (vs:=Ao Z A W D false C V F) rfl rfl rfl rfl rfl Ai K rfl (Ap _ _ _ _ _ _ _ _) ?_; intro w4 d M)
 have g:Ext w3 w4:=((Ext.refl w3).alloc _).grownR M (lrf _);have a:=a2.trans g;have I:=f.trans a;have a8:=hR.ext a;have z0:=d.c 0 rfl;have z1:=d.c 1 rfl;have z2:=d.c 2 rfl;have z3:=d.c 3 rfl;have n:=T.ext g;have o:=U.ext g;clear K M Q d T U;cases b:AF (Aj s) with
 | none =>
  simp only [Option.isSome_none];have i:=qh b;clear b
  go_wp2_with (refine Aa (vs:=Aq 0 none 0 0) rfl rfl rfl rfl rfl Ae a8 rfl (Ar _ _ _ _) ?_; intro w9 j m)
  exact bodyPost_ret (At rfl Ae rfl rfl j) rfl (.inr (.inl ⟨R,S,i.out,none,0,0,rfl,I.grownR m (lrf _),TmO.nil _ _⟩))
 | some q =>
  simp only [Option.isSome_some,b,Option.getD_some] at y n o |-;have i:=qh b;obtain ⟨O,P⟩:=HB.out q b;have L:=qh (Jo (w:=w4) (v := .agg #[.bool Z, .slice A W D, .bool false, .slice C V F]) (q:=q) ⟨_,rfl,Z,A,W,D,C,V,F,rfl,y,n,o⟩);have a0:=qh (EO O P);clear b n o O P
  go_wp2_with fail
  refine L.out.mono ?_;rintro e w5 ⟨a5,n5,c5,rfl,a4,l⟩;have N:n5<=1000000:=by
   have h1:=l.len;have h2:(BZ q).length<=1:=by unfold BZ; split <;> simp
   omega
  have z:=qh (Cw (vars:=vn) (w0:=w0) (hT.ext f) (a.trans a4) (l.mono a.size) (by omega) (fun t ht=>by rw [QX ht]; exact ⟨rfl,by simp⟩) (fun t ht=>by rw [QX ht]; exact a0.out) N);clear L l N
  go_wp2_with fail
  refine z.out.mono ?_;intro e w7 hw;have hq:=FE.q (p:=BZ q) hw (PH q) (fun _=>rfl);obtain ⟨Y,x⟩:∃ r,Hid (resQ (vn:Int) (BZ q)=r):=⟨_,qh rfl⟩;rw [x.out] at hq;obtain ⟨B,X,E,rfl,H,a6⟩:=hq;have ab:BW Y.1 B X E = .agg #[.int .i64 Y.1, .slice B X E]:=rfl;rw [ab];have ae:(Aq Y.1 B X E).toArray=#[.int .i64 Y.1, .slice B X E]:=rfl;have J:=hR.ext H;clear hw z
  go_wp2_with (refine Aa (vs:=Aq Y.1 B X E) rfl rfl rfl rfl rfl Ae J rfl (Ar _ _ _ _) ?_; intro w8 a1 aa)
  refine bodyPost_ret (At rfl Ae rfl rfl a1) rfl (.inr (.inr ⟨R,S,q,i.out, ?_⟩));rw [x.out];exact IG f H a6 J aa (lrf _)
end Go.Proofs.YtlbmnokpiilfpaaGreatDoor
