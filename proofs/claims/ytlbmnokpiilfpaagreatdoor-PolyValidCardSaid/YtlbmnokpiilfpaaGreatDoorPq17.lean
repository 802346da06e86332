/- Part Pq17. -/
import Derived.Test.YtlbmnokpiilfpaaGreatDoorPq16
import Derived.Shelf.SlLaysF0
import Derived.Test.YtlbmnokpiilfpaaGreatDoorProg
import Derived.Shelf.SlSortCmp.NoneTotal
set_option linter.all false
set_option maxRecDepth 100000
set_option maxHeartbeats 100000000
namespace Go.Proofs.YtlbmnokpiilfpaaGreatDoor
open Tryz Go Go.RowKit
def jO:=@List.map_map
def kh:=@List.map_congr_left
def kW:=@Rat.mul_assoc
def lF:=@List.flatMap_cons
def lJ:=@Rat.natCast_eq_zero_iff
def lY:=@Rat.intCast_mul
def ma:=@List.pairwise_map
def me:=@List.getElem?_map
def mj:=@List.pairwise_iff_getElem
def mB:=@Rat.natCast_mul
def mN:=@List.Perm.refl
def mY:=@Rat.mul_eq_zero
def mZ:=@Rat.intCast_add
def oD:=@Rat.mul_inv_cancel
def p7:=@Array.extract_eq_self_of_le
variable {vars:Int} {m:List (List Int×Value)} {rows:List (List Value)} {seen:List Nat} {row:List Value} {base c g it k n r:Nat} {o:Oper} {x y:Operand} {a:Option Addr} {P:Program} {e et kt mt t ty vt:TypeId} {w:World}
abbrev Tx:=List UInt8×List Int
def tm0:Tx:=([],[])
def Sh(w:World)(row:List Value)(t:Tx):Prop:=∃ s a n c,row=[.string s,.slice a n c]/\An s=t.1/\SlI w a n c t.2
theorem Sh.ext{w b:World}{row:List Value}{t:Tx}(h:Sh w row t)(e:Ext w b):Sh b row t:=by
 obtain⟨s,a,n,c,h1,h2,h3⟩:=h;exact⟨s,a,n,c,h1,h2,h3.ext e⟩
def AH(w:World)(a:Option Addr)(n c:Nat)(ts:List Tx):Prop:=∃ rows,SlK w 2 a n c rows/\ts.length=n/\∀ i,i<n->Sh w (rows.getD i []) (ts.getD i tm0)
theorem AH.ext{w d:World}{a:Option Addr}{n c:Nat}{ts:List Tx}(h:AH w a n c ts)(e:Ext w d):AH d a n c ts:=by
 obtain⟨b,h1,h2,h3⟩:=h;exact⟨b,h1.ext e,h2,fun i f=>(h3 i f).ext e⟩
theorem AH.len{ts:List Tx}(h:AH w a n c ts):ts.length=n:=by
 obtain⟨b,h1,h2,h3⟩:=h;exact h2
theorem A4:Agg prog 26 2:=⟨by kernel_rfl,by kernel_rfl⟩
theorem Ad:Agg prog 28 2:=⟨by kernel_rfl,by kernel_rfl⟩
def tmL(s:ByteArray)(a:Option Addr)(n c:Nat):List Value:=[.string s,.slice a n c]
theorem CI(s:ByteArray)(a:Option Addr)(n c:Nat):∀ v∈tmL s a n c,v.oneCell'=true:=by
 intro v b;simp only[tmL,iE,kC,mU]at b;rcases b with rfl|rfl <;> rfl
theorem CU{t:Tx}(h:(AS vars t).isSome=true):(t.2.length:Int)=vars/\∀ e∈t.2,0<=e/\e<=1048576:=by
 unfold AS at h;split at h
 · simp at h
 · split at h
   · rename_i h1;exact⟨h1.2.1,h1.2.2⟩
   · simp at h
def z6:Pl.Tm:=([0,0,0,0,0,0],0)
def okT(vars:Int)(ts:List Tx)(k:Nat):Prop:=(∀ i,i<k->(AS vars (ts.getD i tm0)).isSome=true)/\∀ i,i+1<k->0<Pl.ordE (ts.getD i tm0).2 (ts.getD (i+1) tm0).2
open Classical in
noncomputable def rdWF (vars:Int) (ts:List Tx):Option (List Pl.Tm):=if 0<=vars/\vars<=6/\okT vars ts ts.length then some (ts.map (fun t=>(AS vars t).getD z6))else none
def X4(w:World)(o:Option (List Pl.Tm))(e:Ending)(w':World):Prop:=∃ a n c,e = .returned (.tuple #[.slice a n c,.bool o.isSome])/\Ext w w'/\Bn w' a n c (o.getD [])
theorem Bn.nil(w:World):Bn w none 0 0 []:=⟨[],SlK.nil w 10,rfl,fun i a=>absurd a (by omega)⟩
theorem BB.keptU{w i:World}{row:List Value}{t:Pl.Tm}{g:Nat}(h:BB w row t)(e:NoU w g)(f:w.grownBy i (some g)):BB i row t:=by
 obtain⟨s,a,n,c,b,m,d,h1,h2,r,j,q,l,k,p,o,h3,h4,h5,h6⟩:=h;exact⟨s,a,n,c,b,m,d,h1,h2,r,j,q,l,k,p,o,h3,h4,h5.keptU e f,h6.keptU e f⟩
theorem BT(h:Arr w g t row)(b:row.length=k):SlK w k (some ⟨g,0,none⟩) 1 1 [row]:=by
 refine⟨rfl,lrf _,by unfold maxLen;omega,by simpa using b,fun _=>⟨g,0,rfl,fun i c j d => ?_⟩⟩;have a:i=0:=by omega
 subst a;rw[jg,iz];rw[h.cell (by omega)];rfl
theorem IG{ts:List Tx}(hT:AM w)(h:AH w a n c ts)(hs:∀ t∈ts,t.1.length<=570)(hn:n<=4096) :
 Calls prog 89 #[.agg #[.int .i64 vars,.slice a n c]] w (X4 w (rdWF vars ts)):=by
 have HS:=qh hs;clear hs;have R:=h.len;obtain⟨b5,hS,_,hq⟩:=h;have HQ:=qh hq;clear hq;obtain⟨r,hr⟩:∃ r,rdWF vars ts=r:=⟨_,rfl⟩;rw[hr];have HR:=qh hr;clear hr;by_cases hv:0<=vars/\vars<=6
 · obtain⟨aX,aK⟩:=hv
   go_enter func89,ntmps89
   go_upto_region 1 with(fail)
   refine AP ?_;intro w0 G T ay;have u0:=T.c 0 rfl;have u1:=T.c 1 rfl;clear T ay
   go_upto_region 4 with(refine Jk rfl rfl (by kernel_rfl) Bs AV rfl rfl (by omega) (by unfold maxLen;omega) ?_;intro w1 aP aE)
   have v1:=aE.cell u1;go_wp2
   go_loopw[4,24] (fun tv iv wr=>∃ (k:Nat) (rs:List (List Value)),tv = .slice (some ⟨w0.heap.size,0,none⟩) k n/\iv = .int .i64 k/\k<=n/\Ext w0 wr/\Er wr w0.heap.size 92 10 w0.heap.size k n rs/\Hid (okT vars ts k)/\Hid (∀ i,i<k->BB wr (rs.getD i []) ((AS vars (ts.getD i tm0)).getD z6))) (fun _ iv _=>n-(intOf iv).toNat)
   case atStart=>exact⟨0,[],rfl,rfl,gO _,aE,aP,qh ⟨fun i E=>absurd E (by omega),fun i E=>absurd E (by omega)⟩,qh (fun i E=>absurd E (by omega))⟩
   case round =>
    obtain⟨k,rs,rfl,rfl,hk,hE,hO,HK,HC⟩:=hrel;by_cases aq:k<n
    · have aO:=G.trans hE;have U:=hS.ext aO;obtain⟨b,aZ,rfl,a8⟩:=U.rd (by omega);obtain⟨s,ax,nx,cx,K,aw,aY⟩:=HQ.out k aq;have hY:=Arr.new wr 26 (tmL ⟨#[]⟩ none 0 0)
      go_upto_region 7 with(first
       | (refine Bg rfl rfl A4 rfl U aq ?_;rw[K])
       | (refine Aa (vs:=tmL s ax nx cx) rfl rfl rfl rfl rfl A4 hY rfl (CI _ _ _ _) ?_;intro w2 a4 aI))
      have a5:Ext wr w2:=((Ext.refl wr).alloc _).grownR aI (lrf _);have J:=hE.trans a5;have aF:=hO.ext a5;have aB:Hid (∀ i,i<k->BB w2 (rs.getD i []) ((AS vars (ts.getD i tm0)).getD z6)):=qh fun i E=>(HC.out i E).ext a5;have v0:=J.cell u0;have v1:=J.cell u1;have hX:w0.heap.size<wr.heap.size:=hO.lt.2;have ab:=aY.ext (G.trans J);have aQ:=qh aw;have aW:s.size<=570:=by
       rw[<-Ay,aw];exact HS.out _ (by simp[R,aq])
      clear hY aI hO HC hE a5 K aw a8 U;generalize wr.heap.size=X at *
      have y0:=a4.c 0 rfl;have y1:=a4.c 1 rfl;have av:=Lm (vars:=vars) (hT.ext (G.trans J)) aW ab aK;have aN:Hid (AS vars (An s,(ts.getD k tm0).2)=AS vars (ts.getD k tm0)):=qh (by rw[aQ.out]);rw[aN.out]at av;have aD:=qh av;clear av
      go_wp2_with fail
      refine aD.out.mono ?_;rintro e w3 ⟨ba,rfl,ah,q,d,p,g,f,m,l,K,h6,ar⟩;obtain⟨o,HO⟩:∃ o,Hid (AS vars (ts.getD k tm0)=o):=⟨_,qh rfl⟩;rw[HO.out]at h6 K ar |-;obtain⟨y,z,A,B,C,D,ag⟩:=Bt h6;rw[ag]at K;have aC:Hid (BB w3 (As [y,z,A,B,C,D] q d p g f m l) (o.getD ([0,0,0,0,0,0],0))):=qh ⟨q,d,p,g,f,m,l,by rw[ag],h6,ar⟩;subst K;clear ag h6 ar
      have Q:(As [y,z,A,B,C,D] q d p g f m l).toArray=#[.int .i64 y,.int .i64 z,.int .i64 A,.int .i64 B,.int .i64 C,.int .i64 D,.bool q,.slice d p g,.bool false,.slice f m l]:=rfl;have hY:=Arr.new w3 92 (As ze false none 0 0 none 0 0)
      go_upto_region 8 with(refine Aa (vs:=As [y,z,A,B,C,D] q d p g f m l) rfl rfl rfl rfl rfl At hY rfl AI ?_;intro L a7 aJ)
      have ai:Ext w3 L:=((Ext.refl w3).alloc _).grownR aJ (lrf _);have H:=ah.trans ai;have F:=J.trans H;have a6:=aF.ext H;have ac:Hid (∀ i,i<k->BB L (rs.getD i []) ((AS vars (ts.getD i tm0)).getD z6)):=qh fun i E=>(aB.out i E).ext H;have M:Hid (BB L (As [y,z,A,B,C,D] q d p g f m l) (o.getD ([0,0,0,0,0,0],0))):=qh (aC.out.ext ai);have q1:=H.cell v1;have z1:=H.cell y1;have b7:X<w3.heap.size:=(a4.ext ah).lt;have aL:=qh H;clear hY aJ aF aB ah ai aC Q v0 v1 y0 y1 J a4 H aD;generalize w3.heap.size=Y at *
      cases o with
      | none =>
       have HF:Hid (r=none):=qh (by
        rw[<-HR.out];unfold rdWF;rw[gT];rintro⟨_,_,h1,_⟩;have:=h1 k (by omega);rw[HO.out]at this
        simp at this)
       go_quiet (fail)
       go_wp2
       go_ret2
       rw[HF.out];exact⟨none,0,0,rfl,(G.trans F).drewN _,Bn.nil _⟩
      | some tm =>
       simp only[gP]at M;have am:=CU (vars:=vars) (t:=ts.getD k tm0) (by rw[HO.out];rfl);have aT:=ab.len;by_cases aR:k=0
       · subst aR;have af:Hid (okT vars ts (0+1)):=qh ⟨fun i E=>by rw[show i=0 by omega,HO.out];rfl,fun i E=>absurd E (by omega)⟩
         go_quiet (fail)
         have al:Arr (L.drewN nq) Y 92 (As [y,z,A,B,C,D] q d p g f m l):=a7;have N:=F.drewN nq;have a1:=a6.ext ((Ext.refl L).drewN nq);have ad:Hid (∀ i,i<0->BB (L.drewN nq) (rs.getD i []) ((AS vars (ts.getD i tm0)).getD z6)):=qh fun i E=>absurd E (by omega);have Z:Hid (BB (L.drewN nq) (As [y,z,A,B,C,D] q d p g f m l) tm):=qh (M.out.ext ((Ext.refl L).drewN nq));clear a7 F a6 ac M q1 z1;generalize L.drewN nq=O at *
         have ak:Arr O Y 92 (As [y,z,A,B,C,D] q d p g f m l):=al;have I:Ext O (O.alloc (.cells (As [y,z,A,B,C,D] q d p g f m l).toArray 92)):=(Ext.refl O).alloc _;have hA5:=a1.ext I;have a0:=BT (k:=10) (Arr.new O 92 (As [y,z,A,B,C,D] q d p g f m l)) rfl;have Q:(As [y,z,A,B,C,D] q d p g f m l).toArray=#[.int .i64 y,.int .i64 z,.int .i64 A,.int .i64 B,.int .i64 C,.int .i64 D,.bool q,.slice d p g,.bool false,.slice f m l]:=rfl
         have a2:w0.heap.size<=(O.alloc (.cells (As [y,z,A,B,C,D] q d p g f m l).toArray 92)).heap.size:=(N.trans I).size;rw[Q]at hA5 a0 a2;have ae:=qh (N.trans I);have V:Hid (∀ i,i<0->BB (O.alloc (.cells (As [y,z,A,B,C,D] q d p g f m l).toArray 92)) (rs.getD i []) ((AS vars (ts.getD i tm0)).getD z6)):=qh fun i E=>(ad.out i E).ext I;have W:Hid (BB (O.alloc (.cells (As [y,z,A,B,C,D] q d p g f m l).toArray 92)) (As [y,z,A,B,C,D] q d p g f m l) tm):=qh (Z.out.ext I)
         have aa:Agg prog 92 (As [y,z,A,B,C,D] q d p g f m l).length:=At
         go_wp2_with(first
          | (refine Ev rfl rfl aa rfl ak ?_;rw[Q])
          | (refine GT rfl rfl (by kernel_rfl) Bs rfl hA5 rfl a0 (by intro r hr u hu;rw[gL.1 hr]at hu;exact AI u hu) (by intro r hr u hu;rw[gL.1 hr]at hu;exact AV u hu) (by omega) (by omega) a2 ?_;intro w7 aj P))
         go_roundw
         case rel =>
          refine⟨0+1,_,rfl,by go_num,by omega,ae.out.grownR P (lrf _),aj,af,qh fun i E => ?_⟩;have au:=a1.1.len (by omega);by_cases ao:i=0
          · subst ao;rw[HO.out,gP,gqq,iu (by omega),au,ju];exact W.out.keptU hA5.2 P
          · rw[gqq,gZ (by omega),<-gqq];exact(V.out i (by omega)).keptU hA5.2 P
         case measure=>simp[intOf];omega
       · have U:=hS.ext (G.trans F);obtain⟨b2,b4,aG,a8⟩:=U.rd (by omega);simp only[gK,iV,jp]at aG;obtain⟨rfl,rfl⟩:=aG;obtain⟨j,rfl⟩:∃ j,k=j+1:=⟨k-1,by omega⟩;obtain⟨sp,ap,np,cp,az,_,a9⟩:=HQ.out j (by omega);have aH:=CU (vars:=vars) (t:=ts.getD j tm0) (HK.out.1 j (by omega));have aU:=a9.len;have an:=a8 j (by omega) 1 (by omega);rw[az]at an;have aM:L.cell? ⟨b,aZ+j*2+1,none⟩=some (.slice ap np cp):=an;have aV:np=nx:=by omega
         subst aV;have b9:IntKind.i64.wrap (((j+1:Nat):Int)-1)=(j:Int):=by rw[show((j+1:Nat):Int)-1=(j:Int) by omega];exact gI _ (by omega)
         have S:=fun(wx:World) (hq:Ext L wx)=>qh (J2 ((a9.ext (G.trans F)).ext hq) (ab.ext ((Ext.refl _).trans (aL.out.trans hq))) (by omega) (fun x hx=>by have:=aH.2 x hx;omega) (fun x hx=>by have:=am.2 x hx;omega));have HB:=qh am;have b6:=qh a9;obtain⟨v,HV⟩:∃ v,Hid (Pl.ordE (ts.getD j tm0).2 (ts.getD (j+1) tm0).2=v):=⟨_,qh rfl⟩;rw[HV.out]at S;clear a8 an U am aH aT aU a9 az;have b8:(0:Int)<((j+1:Nat):Int):=by omega
         by_cases aA:0<v
         · have af:Hid (okT vars ts (j+1+1)):=qh ⟨fun i E=>by
            by_cases h:i=j+1
            · rw[h,HO.out];rfl
            · exact HK.out.1 i (by omega),fun i E=>by
            by_cases h:i=j
            · rw[h,HV.out];exact aA
            · exact HK.out.2 i (by omega)⟩
           go_quiet (exact lS (S _ ((Ext.refl L).drewN _)).out)
           have al:Arr (L.drewN nq) Y 92 (As [y,z,A,B,C,D] q d p g f m l):=a7;have N:=F.drewN nq;have a1:=a6.ext ((Ext.refl L).drewN nq);have ad:Hid (∀ i,i<j+1->BB (L.drewN nq) (rs.getD i []) ((AS vars (ts.getD i tm0)).getD z6)):=qh fun i E=>(ac.out i E).ext ((Ext.refl L).drewN nq);have Z:Hid (BB (L.drewN nq) (As [y,z,A,B,C,D] q d p g f m l) tm):=qh (M.out.ext ((Ext.refl L).drewN nq));clear a7 F a6 ac M q1 z1 S aM;generalize L.drewN nq=O at *
           have ak:Arr O Y 92 (As [y,z,A,B,C,D] q d p g f m l):=al;have I:Ext O (O.alloc (.cells (As [y,z,A,B,C,D] q d p g f m l).toArray 92)):=(Ext.refl O).alloc _;have hA5:=a1.ext I;have a0:=BT (k:=10) (Arr.new O 92 (As [y,z,A,B,C,D] q d p g f m l)) rfl;have Q:(As [y,z,A,B,C,D] q d p g f m l).toArray=#[.int .i64 y,.int .i64 z,.int .i64 A,.int .i64 B,.int .i64 C,.int .i64 D,.bool q,.slice d p g,.bool false,.slice f m l]:=rfl
           have a2:w0.heap.size<=(O.alloc (.cells (As [y,z,A,B,C,D] q d p g f m l).toArray 92)).heap.size:=(N.trans I).size;rw[Q]at hA5 a0 a2;have ae:=qh (N.trans I);have V:Hid (∀ i,i<j+1->BB (O.alloc (.cells (As [y,z,A,B,C,D] q d p g f m l).toArray 92)) (rs.getD i []) ((AS vars (ts.getD i tm0)).getD z6)):=qh fun i E=>(ad.out i E).ext I;have W:Hid (BB (O.alloc (.cells (As [y,z,A,B,C,D] q d p g f m l).toArray 92)) (As [y,z,A,B,C,D] q d p g f m l) tm):=qh (Z.out.ext I)
           have aa:Agg prog 92 (As [y,z,A,B,C,D] q d p g f m l).length:=At
           go_wp2_with(first
            | (refine Ev rfl rfl aa rfl ak ?_;rw[Q])
            | (refine GT rfl rfl (by kernel_rfl) Bs rfl hA5 rfl a0 (by intro r hr u hu;rw[gL.1 hr]at hu;exact AI u hu) (by intro r hr u hu;rw[gL.1 hr]at hu;exact AV u hu) (by omega) (by omega) a2 ?_;intro w7 aj P))
           go_roundw
           case rel =>
            refine⟨j+1+1,_,rfl,by go_num,by omega,ae.out.grownR P (lrf _),aj,af,qh fun i E => ?_⟩;have au:=a1.1.len (by omega);by_cases ao:i=j+1
            · subst ao;rw[HO.out,gP,gqq,iu (by omega),au,ju];exact W.out.keptU hA5.2 P
            · rw[gqq,gZ (by omega),<-gqq];exact(V.out i (by omega)).keptU hA5.2 P
           case measure=>simp[intOf];omega
         · have HF:Hid (r=none):=qh (by
            rw[<-HR.out];unfold rdWF;rw[gT];rintro⟨_,_,_,h1⟩;have:=h1 j (by omega);rw[HV.out]at this
            exact aA this)
           go_quiet (exact lS (S _ ((Ext.refl L).drewN _)).out)
           go_wp2
           go_ret2
           rw[HF.out];exact⟨none,0,0,rfl,(G.trans F).drewN _,Bn.nil _⟩
    · have aS:k=n:=by omega
      subst aS
      have HF:Hid (r=some (ts.map (fun t=>(AS vars t).getD z6))):=qh (by
       rw[<-HR.out];unfold rdWF
       rw[gY ⟨aX,aK,by rw[R];exact HK.out⟩])
      go_wp2
      go_ret2
      rw[HF.out];refine⟨_,_,_,rfl,G.trans hE,rs,hO.1.slk (by omega),by simp[R],fun i E => ?_⟩;have h1:=HC.out i E;have h2:(ts.map (fun t=>(AS vars t).getD z6)).getD i ([],0)=(AS vars (ts.getD i tm0)).getD z6:=by simp[R,E]
      rw[gP,h2];exact h1
 · have HF:Hid (r=none):=qh (by
    rw[<-HR.out];unfold rdWF
    rw[gT (fun h=>hv ⟨h.1,h.2.1⟩)])
   go_enter func89,ntmps89
   go_upto_region 1 with(fail)
   refine AP ?_;intro w0 G T ay;have u0:=T.c 0 rfl;clear T ay;by_cases b1:vars<0
   · clear hv;go_wp2
     go_ret2
     rw[HF.out];exact⟨none,0,0,rfl,G,Bn.nil _⟩
   · have b0:6<vars:=by omega
     clear hv;go_wp2
     go_ret2
     rw[HF.out];exact⟨none,0,0,rfl,G,Bn.nil _⟩
theorem A1:GG prog 90 3:=⟨by kernel_rfl,by kernel_rfl,by kernel_rfl⟩
theorem Du:prog.underlying 184=some (.map 90 85):=by kernel_rfl
theorem D4:Agg prog 90 6:=⟨by kernel_rfl,by kernel_rfl⟩
theorem If(k:List Int):∀ (m:List (List Int×Value)) (i:Nat),CR k i m=Pl.posK k i m
 | [],_=>rfl
 | (k',v) :: r,i=>by unfold CR Pl.posK;rw[If k r (i+1)]
theorem Ig(z:Value)(m:List (List Int×Value))(k:List Int):Fu z m k=Pl.getK z m k:=by unfold Fu Pl.getK;rw[If]
theorem Od(m:List (List Int×Value))(k:List Int)(v:Value):NL m k v=Pl.putK m k v:=by
 unfold NL Pl.putK;rw[If];cases Pl.posK k 0 m <;> rfl
theorem Br.noU(h:Br w r m):NoU w r:=by
 intro j i e;simp[World.cell?,h.obj]at e
theorem AN.noU(h:AN w it r n seen):NoU w it:=by
 intro j i e;unfold AN at h;simp[World.cell?,h]at e
theorem CJ.keptU{w i:World}{cs:List Value}{q:Rat}{g:Nat}(h:CJ w cs q)(e:NoU w g)(f:w.grownBy i (some g)):CJ i cs q:=by
 obtain⟨s,a,n,c,b,m,d,h3,h4,h5,h6⟩:=h;exact⟨s,a,n,c,b,m,d,h3,h4,h5.keptU e f,h6.keptU e f⟩
theorem BU.keptU{w a:World}{v:Value}{q:Rat}{g:Nat}(h:BU w v q)(c:NoU w g)(d:w.grownBy a (some g)):BU a v q:=by
 obtain⟨b,h1,h2⟩:=h;exact⟨b,h1,h2.keptU c d⟩
def Dz(w:World)(r:Nat)(l:List Pl.Tm):Prop:=∃ m,Br w r m/\Pl.RelL (fun v q=>BU w v q) m l
section
variable {w w':World} {r:Nat} {l:List Pl.Tm}
theorem Dz.ext(h:Dz w r l)(e:Ext w w'):Dz w' r l:=by
 obtain⟨m,h1,h2⟩:=h;exact⟨m,h1.ext e,h2.mono fun _ _ h=>h.ext e⟩
theorem Dz.keptU{g:Nat}(h:Dz w r l)(c:NoU w g)(b:w.grownBy w' (some g))(a:r≠g):Dz w' r l:=by
 obtain⟨m,h1,h2⟩:=h;exact⟨m,h1.kept b (by simpa using a),h2.mono fun _ _ h=>h.keptU c b⟩
theorem Dz.nodup(h:Dz w r l):(l.map (·.1)).Nodup:=by
 obtain⟨m,h1,h2⟩:=h;rw[<-h2.keys];exact h1.nodup
theorem Dz.six(h:Dz w r l):∀ t∈l,t.1.length=6:=by
 obtain⟨m,h1,h2⟩:=h;intro t a;have h3:t.1∈m.map (·.1):=by rw[h2.keys];exact jk a
 obtain⟨p,hp,e⟩:=ie.1 h3;rw[<-e];exact h1.six p hp
theorem Dz.lt(h:Dz w r l):r<w.heap.size:=by
 obtain⟨m,h1,_⟩:=h;exact h1.lt
theorem Dz.new(h:Br w r []):Dz w r []:=⟨[],h,trivial⟩
end
def Q2:Value := .agg #[.bool false,.slice none 0 0,.bool false,.slice none 0 0]
theorem Oe(w:World):BU w Q2 0:=⟨_,rfl,Ez w⟩
theorem J3(w:World):(zeroValue 85).run prog w = .ok Q2 w:=Tryz.zeroValue85 w
theorem LX{a:Operand->Value}(d:o.op = .lookup mt x y false)(c:P.underlying mt=some (.map kt vt))(b:GG P kt et){z:Value}(g:∀ w,(zeroValue vt).run P w = .ok z w)
 {r:Nat} {m:List (List Int×Value)} {k:List Int} (e:a x = .map (some r)) (f:a y=BI k) (h:Br w r m) (h6:k.length=6):(execOp a o).run P w = .ok (.value (Fu z m k)) w:=by
 unfold execOp;simp only[d,e,f,ij,JK c b (g w) h h6 false,gS,iF];rfl
def C1(w:World)(base:Nat)(a:Option Addr)(n c:Nat)(l:List Pl.Tm):Prop:=∃ rows,AR w base 92 10 a n c rows/\(∀ g,blk a=some g->NoU w g)/\l.length=n/\∀ i,i<n->BB w (rows.getD i []) (l.getD i ([],0))
section
variable {w w':World} {base:Nat} {a:Option Addr} {n c:Nat} {l:List Pl.Tm}
theorem C1.sl(h:C1 w base a n c l):Bn w a n c l:=by
 obtain⟨b,h1,h2,h3,h4⟩:=h;exact⟨b,h1.slk (by omega),h3,h4⟩
theorem C1.ext(h:C1 w base a n c l)(e:Ext w w'):C1 w' base a n c l:=by
 obtain⟨b,h1,h2,h3,h4⟩:=h;exact⟨b,h1.ext e,fun g d=>(h2 g d).ext (h1.lt d).2 e,h3,fun i f=>(h4 i f).ext e⟩
theorem C1.len(h:C1 w base a n c l):l.length=n:=by
 obtain⟨b,h1,h2,h3,h4⟩:=h;exact h3
theorem C1.nil(w:World)(base:Nat):C1 w base none 0 0 []:=⟨[],AR.nil _ _ _ _,(fun g a=>by simp[blk]at a),rfl,fun i b=>absurd b (by omega)⟩
theorem C1.mono{b:Nat}(h:C1 w base a n c l)(e:b<=base):C1 w b a n c l:=by
 obtain⟨d,h1,h2⟩:=h;exact⟨d,h1.mono e,h2⟩
end
def J4(w:World)(l:List Pl.Tm)(e:Ending)(w':World):Prop:=∃ a n c,e = .returned (.slice a n c)/\Ext w w'/\C1 w' w.heap.size a n c l
def GU(w:World)(a:Option Addr)(n c:Nat)(ls:List (List Pl.Tm)):Prop:=∃ cs,Sl w a n c cs/\ls.length=n/\∀ i,i<n->∃ a' n' c',cs.getD i undef = .slice a' n' c'/\Bn w a' n' c' (ls.getD i [])
theorem GU.ext{w b:World}{a:Option Addr}{n c:Nat}{ls:List (List Pl.Tm)}(h:GU w a n c ls)(e:Ext w b):GU b a n c ls:=by
 obtain⟨d,h1,h2,h3⟩:=h;exact⟨d,h1.ext e,h2,fun i f=>let ⟨a',n',c',h4,h5⟩:=h3 i f;⟨a',n',c',h4,h5.ext e⟩⟩
theorem Bn.len{l:List Pl.Tm}(h:Bn w a n c l):l.length=n:=by
 obtain⟨b,h1,h2,h3⟩:=h;exact h2
theorem LY{r':Nat}(h:Br w r m)(hi:AN w it r' k seen):r≠it:=by
 rintro rfl;unfold AN at hi;rw[h.obj]at hi;cases hi
theorem Da{N:Nat}(h:AR w base e k (some ⟨g,0,none⟩) n c rows)(hi:AN w it r N seen):g≠it:=by
 rcases h.2.2 with⟨a,_⟩|⟨i,b,d,a,_,f,_⟩
 · simp at a
 · simp only[gW,gK,iV,jp,lI]at a;rintro rfl;unfold AN at hi;rw[a.1]at hi;rw[f]at hi;cases hi
theorem Ej(h:AR w base e k (some ⟨g,0,none⟩) n c rows)(hi:Br w r m):g≠r:=by
 rcases h.2.2 with⟨a,_⟩|⟨i,b,d,a,_,f,_⟩
 · simp at a
 · simp only[gW,gK,iV,jp,lI]at a;rintro rfl;have:=hi.obj;rw[a.1]at this;rw[f]at this;cases this
theorem Ih{k:TypeId}(c:P.underlying mt=some (.map k e))(a:Br w r m) :
 (Builtin.len_ #[mt] ty #[.map (some r)]).run P w = .ok (.int .i64 m.length) w:=by
 have b:(Cb 0 m).toArray.size=m.length:=by simp[Eh]
 rw[<-b];simp[Builtin.len_,j4 c,run_getObj_map w r _ _ a.obj,goInt]
def IH(w:World)(it:Nat):Nat:=match w.heap[it]? with | some (.mapIter _ _ seen _)=>seen.size | _=>0
theorem C2(h:AN w it r n seen):IH w it=seen.length:=by
 unfold IH;unfold AN at h;rw[h];simp
end Go.Proofs.YtlbmnokpiilfpaaGreatDoor
namespace Go.Proofs.YtlbmnokpiilfpaaGreatDoor.Pl
variable {z:Int} {d k sa sb:Nat} {q:Rat}
def plE(a b:List Int):List Int:=List.zipWith (·+·) a b
def prodT(a b:List Tm):List Tm:=a.flatMap (fun s=>b.map (fun t=>(plE s.1 t.1,s.2*t.2)))
def zsc(q:Rat)(k:Nat):Int:=q.num*((k/q.den:Nat):Int)
theorem WB(q:Rat):q*(q.den:Rat)=(q.num:Rat):=by
 have h:q=(q.num:Rat)/(q.den:Rat):=by rw[<-Rat.mkRat_eq_div,nB]
 have h0:(q.den:Rat)≠0:=by
  intro h;have:=lJ.1 h;exact q.den_nz this
 conv=>lhs;lhs;rw[h]
 rw[Rat.div_mul_cancel h0]
theorem MT(h:q.den∣k):((zsc q k:Int):Rat)=q*(k:Rat):=by
 obtain⟨c,rfl⟩:=h;unfold zsc;rw[mC _ (jM q.den_nz),lY,<-WB,mB];rw[kW];rfl
theorem Of{b d:Type}{f g:b->List d}:∀ {a:List b},(∀ x∈a,f x=g x)->a.flatMap f=a.flatMap g
 | [],_=>rfl
 | x :: r,h=>by rw[lF,lF,h x (by simp),Of (fun y c=>h y (by simp[c]))]
def prodZ(sa sb:Nat)(a b:List Tm):List Tm:=a.flatMap (fun s=>b.map (fun t=>(plE s.1 t.1,((zsc s.2 sa*zsc t.2 sb:Int):Rat))))
theorem TD{a b:List Tm}(c:∀ t∈a,t.2.den∣sa)(d:∀ t∈b,t.2.den∣sb):prodZ sa sb a b=scl ((sa:Rat)*(sb:Rat)) (prodT a b):=by
 unfold prodZ prodT scl;rw[List.map_flatMap];apply Of;intro s e;rw[jO];apply kh;intro t f;simp only[Function.comp,kX,lI];rw[lY,MT (c s e),MT (d t f)]
 grind
theorem F4(z:Int)(d:Nat):mkRat z d=(z:Rat)*((d:Rat))⁻¹:=by
 rw[Rat.mkRat_eq_div,Rat.div_def]
theorem Q4(d:Nat):∀ (l:List (List Int×Int)) (e:List Int),coef (l.map (fun f=>(f.1,mkRat f.2 d))) e=((d:Rat))⁻¹*coef (l.map (fun f=>(f.1,(f.2:Rat)))) e
 | [],e=>by simp[coef]
 | f :: r,e=>by
  simp only[ja,coef];rw[Q4 d r e,F4];by_cases h:f.1=e
  · simp only[gY h];grind
  · simp only[gT h];grind
theorem coef_done{a b:List Tm}{l:List (List Int×Int)}(c:∀ t∈a,t.2.den∣sa)(d:∀ t∈b,t.2.den∣sb)(h1:sa≠0)(h2:sb≠0)(g:∀ e,coef (l.map (fun f=>(f.1,(f.2:Rat)))) e=coef (prodZ sa sb a b) e)(e:List Int):coef (l.map (fun f=>(f.1,mkRat f.2 (sa*sb)))) e=coef (prodT a b) e:=by
 rw[Q4,g,TD c d,coef_scl,mB];have h3:(sa:Rat)≠0:=fun h=>h1 (lJ.1 h);have h4:(sb:Rat)≠0:=fun h=>h2 (lJ.1 h);have h5:(sa:Rat)*(sb:Rat)≠0:=fun h=>(mY.1 h).elim h3 h4;rw[<-kW,Rat.inv_mul_cancel _ h5]
 grind
theorem coef_mem:∀ {l:List Tm} {t:Tm},(l.map (·.1)).Nodup->t∈l->coef l t.1=t.2
 | [],_,_,h=>by cases h
 | s :: r,t,hn,h=>by
  simp only[ja,kf]at hn;rcases iE.1 h with rfl|h
  · simp only[coef,li,JQ hn.1];grind
  · have hne:s.1≠t.1:=fun e=>hn.1 (by rw[e];exact jk h);simp only[coef,gT hne,coef_mem hn.2 h];grind
theorem coef_int{B:Nat}(e:List Int):∀ {l:List Tm},(∀ t∈l,∃ c:Int,t.2=(c:Rat)/\c.natAbs<=B)->∃ z:Int,coef l e=(z:Rat)/\z.natAbs<=l.length*B
 | [],_=>⟨0,rfl,by simp⟩
 | t :: r,h=>by
  obtain⟨c,h1,h2⟩:=h t (by simp);obtain⟨z,h3,h4⟩:=coef_int e (l:=r) (fun s b=>h s (by simp[b]));by_cases a:t.1=e
  · refine⟨c+z,?_,?_⟩
    · simp only[coef,gY a,h1,h3,mZ]
    · have:=mK c z;simp only[j8,iW];omega
  · refine⟨z,?_,?_⟩
    · simp only[coef,gT a,h3];grind
    · simp only[j8,iW];omega
theorem mkRat_zero(a:d≠0):mkRat z d=0<->z=0:=by
 rw[F4];constructor
 · intro h;rcases mY.1 h with h|h
   · exact Rat.intCast_eq_zero_iff.1 h
   · exfalso;have h3:(d:Rat)≠0:=fun h=>a (lJ.1 h);have:=oD _ h3;rw[h]at this
     grind
 · intro h;rw[h];grind
end Go.Proofs.YtlbmnokpiilfpaaGreatDoor.Pl
namespace Go.Proofs.YtlbmnokpiilfpaaGreatDoor
open Go.Shelf
def Si:Go.Shelf.Ren:=⟨fun | 6=>143 | 15=>206 | 14=>205 | 28=>252 | 29=>253 | 20=>244 | 21=>245 | 22=>246 | 23=>247 | 24=>248 | 25=>249 | 26=>250 | 27=>251 | 46=>294 | 47=>295 | 48=>296 | 49=>297 | 50=>298 | 57=>321 | n=>n,fun | 22=>80 | 24=>92 | 25=>183 | 3=>3 | 39=>222 | 0=>0 | 53=>241 | 55=>238 | 4=>4 | 46=>277 | 45=>276 | 50=>204 | 5=>5 | 9=>9 | 66=>309 | 70=>313 | 76=>333 | 77=>334 | n=>n,fun | n=>n⟩
theorem WC:Go.Proofs.SlLaysF0.n6 Tryz.prog Si:={
 mixed:=by kernel_rfl
 f6:=⟨Tryz.f143.name,by decide,Tryz.func143.trans (iP some (by kernel_rfl))⟩
 f14:=⟨Tryz.f205.name,by decide,Tryz.func205.trans (iP some (by kernel_rfl))⟩
 f15:=Tryz.func206.trans (iP some (by kernel_rfl))
 f20:=⟨Tryz.f244.name,by decide,Tryz.func244.trans (iP some (by kernel_rfl))⟩
 f21:=⟨Tryz.f245.name,by decide,Tryz.func245.trans (iP some (by kernel_rfl))⟩
 f22:=⟨Tryz.f246.name,by decide,Tryz.func246.trans (iP some (by kernel_rfl))⟩
 f23:=⟨Tryz.f247.name,by decide,Tryz.func247.trans (iP some (by kernel_rfl))⟩
 f24:=⟨Tryz.f248.name,by decide,Tryz.func248.trans (iP some (by kernel_rfl))⟩
 f25:=⟨Tryz.f249.name,by decide,Tryz.func249.trans (iP some (by kernel_rfl))⟩
 f26:=⟨Tryz.f250.name,by decide,Tryz.func250.trans (iP some (by kernel_rfl))⟩
 f27:=⟨Tryz.f251.name,by decide,Tryz.func251.trans (iP some (by kernel_rfl))⟩
 f28:=Tryz.func252.trans (iP some (by kernel_rfl))
 f29:=Tryz.func253.trans (iP some (by kernel_rfl))
 f46:=⟨Tryz.f294.name,by decide,Tryz.func294.trans (iP some (by kernel_rfl))⟩
 f47:=Tryz.func295.trans (iP some (by kernel_rfl))
 f48:=Tryz.func296.trans (iP some (by kernel_rfl))
 f49:=⟨Tryz.f297.name,by decide,Tryz.func297.trans (iP some (by kernel_rfl))⟩
 f50:=⟨Tryz.f298.name,by decide,Tryz.func298.trans (iP some (by kernel_rfl))⟩
 f57:=⟨Tryz.f321.name,by decide,Tryz.func321.trans (iP some (by kernel_rfl))⟩
 t0:=Tryz.underlying0
 a0:=Tryz.isAgg0
 z0:=Tryz.sizeOf0
 v0:=Tryz.zeroValue0
 t3:=Tryz.underlying3
 a3:=Tryz.isAgg3
 z3:=Tryz.sizeOf3
 v3:=Tryz.zeroValue3
 t4:=Tryz.underlying4
 a4:=Tryz.isAgg4
 z4:=Tryz.sizeOf4
 v4:=Tryz.zeroValue4
 t5:=Tryz.underlying5
 a5:=Tryz.isAgg5
 z5:=Tryz.sizeOf5
 v5:=Tryz.zeroValue5
 t9:=Tryz.underlying9
 a9:=Tryz.isAgg9
 z9:=Tryz.sizeOf9
 v9:=Tryz.zeroValue9
 t22:=Tryz.underlying80
 a22:=Tryz.isAgg80
 z22:=Tryz.sizeOf80
 v22:=Tryz.zeroValue80
 t25:=Tryz.underlying183
 a25:=Tryz.isAgg183
 z25:=Tryz.sizeOf183
 v25:=Tryz.zeroValue183
 t39:=Tryz.underlying222
 a39:=Tryz.isAgg222
 z39:=Tryz.sizeOf222
 v39:=Tryz.zeroValue222
 t45:=Tryz.underlying276
 a45:=Tryz.isAgg276
 z45:=Tryz.sizeOf276
 v45:=Tryz.zeroValue276
 t46:=Tryz.underlying277
 a46:=Tryz.isAgg277
 z46:=Tryz.sizeOf277
 v46:=Tryz.zeroValue277
 t50:=Tryz.underlying204
 a50:=Tryz.isAgg204
 z50:=Tryz.sizeOf204
 v50:=Tryz.zeroValue204
 t53:=Tryz.underlying241
 a53:=Tryz.isAgg241
 z53:=Tryz.sizeOf241
 v53:=Tryz.zeroValue241
 t55:=Tryz.underlying238
 a55:=Tryz.isAgg238
 z55:=Tryz.sizeOf238
 v55:=Tryz.zeroValue238
 t66:=Tryz.underlying309
 a66:=Tryz.isAgg309
 z66:=Tryz.sizeOf309
 v66:=Tryz.zeroValue309
 t70:=Tryz.underlying313
 a70:=Tryz.isAgg313
 z70:=Tryz.sizeOf313
 v70:=Tryz.zeroValue313
 t76:=Tryz.underlying333
 a76:=Tryz.isAgg333
 z76:=Tryz.sizeOf333
 v76:=Tryz.zeroValue333
 t77:=Tryz.underlying334
 a77:=Tryz.isAgg334
 z77:=Tryz.sizeOf334
 v77:=Tryz.zeroValue334 }
end Go.Proofs.YtlbmnokpiilfpaaGreatDoor
namespace Go.Proofs.YtlbmnokpiilfpaaGreatDoor
open Tryz Go Go.RowKit Go.Sort
variable {s s':Bool} {rows:List (List Value)} {e te te':List Int} {base c d g m n:Nat} {a a' b b':Option Addr} {t:TypeId} {w:World}
def EV:Type:={ p:List Value×Pl.Tm // (∃ s a n c b m d,p.1=As p.2.1 s a n c b m d)/\p.2.1.length=6/\∀ x∈p.2.1,0<=x/\x<=1099511627776 }
def EV.enc(v:EV):List Value:=v.1.1
def EV.tm(v:EV):Pl.Tm:=v.1.2
instance : Inhabited EV:=⟨⟨(As ze false none 0 0 none 0 0,(ze,0)),⟨false,none,0,0,none,0,0,rfl⟩,rfl,by simp[ze]⟩⟩
theorem EV.len(v:EV):v.enc.length=10:=by
 obtain⟨⟨r,t⟩,⟨s,a,n,c,b,m,d,h⟩,h6,_⟩:=v;show r.length=10;rw[show r=_ from h,BC,h6]
theorem EV.one(v:EV):∀ u∈v.enc,u.oneCell'=true:=by
 obtain⟨⟨r,t⟩,⟨s,a,n,c,b,m,d,h⟩,h6,_⟩:=v;intro u hu;have:r=As t.1 s a n c b m d:=h;subst this;exact AI u hu
theorem EV.nu(v:EV):∀ u∈v.enc,∀ i,u ≠ .int .u64 i:=by
 obtain⟨⟨r,t⟩,⟨s,a,n,c,b,m,d,h⟩,h6,_⟩:=v;intro u hu;have:r=As t.1 s a n c b m d:=h;subst this;exact AV u hu
theorem EV.six(v:EV):v.tm.1.length=6:=v.2.2.1
def cfE(x y:EV):Int:=Pl.ordE y.tm.1 x.tm.1
theorem Og{x y:EV}(h:ltOf cfE x y=true):cfE x y<0:=kE h
theorem Ii{x y:EV}(h:ltOf cfE x y=false):¬ cfE x y<0:=of_decide_eq_false h
theorem YM:SWO (ltOf cfE) where
 irrefl x:=gR (by unfold cfE;rw[Pl.ordE_self];omega)
 trans x y z h1 h2:=by
  have e:=Og h1;have d:=Og h2;unfold cfE at e d;have f:=Pl.ordE_anti x.tm.1 y.tm.1;have g:=Pl.ordE_anti y.tm.1 z.tm.1;have i:=Pl.ordE_anti x.tm.1 z.tm.1;have:=Pl.ordE_trans (a:=x.tm.1) (b:=y.tm.1) (c:=z.tm.1) (by omega) (by omega);exact iA (by unfold cfE;omega)
 ntrans x y z h1 h2:=by
  have e:=Ii h1;have d:=Ii h2;unfold cfE at e d;refine gR ?_;unfold cfE;intro h3;have f:=Pl.ordE_anti x.tm.1 y.tm.1;have g:=Pl.ordE_anti y.tm.1 z.tm.1;have i:=Pl.ordE_anti x.tm.1 z.tm.1;by_cases h:Pl.ordE y.tm.1 x.tm.1=0
  · rw[Pl.ordE_eq (by rw[x.six,y.six]) h]at d;omega
  · have:=Pl.ordE_trans (a:=y.tm.1) (b:=x.tm.1) (c:=z.tm.1) (by omega) (by omega);omega
theorem Oh(w:World)(A B:Obj)(n:Nat):((w.alloc A).alloc B).drewN n=grow (w.drewN n) #[A,B]:=by
 rw[alloc_eq_grow,alloc_eq_grow,grow_grow];rfl
theorem MU(h:Arr w g t (As e s a n c b m d))(h6:e.length=6):SlI w (some ⟨g,0,none⟩) 6 6 e:=by
 refine⟨by simpa using h6,lrf _,by unfold maxLen;omega,fun _=>⟨g,0,rfl,fun i f => ?_⟩⟩;rw[iz,h.cell (by rw[BC];omega)];have h1:(As e s a n c b m d).getD i undef=(e.map (Value.int .i64)).getD i undef:=by
  unfold As;rw[gqq,gZ (by simp;omega),<-gqq]
 rw[h1]
theorem PQ{o c' l f:Nat}(h6:te.length=6)(I:te'.length=6)(M:∀ x∈te,0<=x/\x<=1099511627776)(g:∀ x∈te',0<=x/\x<=1099511627776) :
 Calls prog 144 #[.agg (As te s a n c b m d).toArray,.agg (As te' s' a' o c' b' l f).toArray] w fun e R=>e = .returned (.int .i64 (Pl.ordE te' te))/\∃ q Q,R=grow (w.drewN q) Q:=by
 have K:=fun(O:World) (h1:SlI O (some ⟨w.heap.size+1,0,none⟩) 6 6 te') (h2:SlI O (some ⟨w.heap.size,0,none⟩) 6 6 te)=>qh (J2 h1 h2 (by omega) (fun z J=>by have:=g z J;omega) (fun z J=>by have:=M z J;omega));obtain⟨V,L⟩:∃ V,Pl.ordE te' te=V:=⟨_,rfl⟩;rw[L]at K |-;clear M g L;obtain⟨p,r,t,v,y,A,P⟩:=Bt h6;obtain⟨B,C,D,E,F,G,H⟩:=Bt I;subst P;subst H
 have N:(As [p,r,t,v,y,A] s a n c b m d).toArray=#[.int .i64 p,.int .i64 r,.int .i64 t,.int .i64 v,.int .i64 y,.int .i64 A,.bool s,.slice a n c,.bool false,.slice b m d]:=rfl;have i:(As [B,C,D,E,F,G] s' a' o c' b' l f).toArray=#[.int .i64 B,.int .i64 C,.int .i64 D,.int .i64 E,.int .i64 F,.int .i64 G,.bool s',.slice a' o c',.bool false,.slice b' l f]:=rfl;have hA0:=ER w (As [p,r,t,v,y,A] s a n c b m d) (As [B,C,D,E,F,G] s' a' o c' b' l f) 92 92
 have hA1:=ES w (As [p,r,t,v,y,A] s a n c b m d) (As [B,C,D,E,F,G] s' a' o c' b' l f) 92 92;have j:=MU hA0 rfl;have k:=MU hA1 rfl;rw[N,i]at j k;rw[N,i];clear hA0 hA1
 go_enter func144,ntmps144
 go_wp2
 go_quiet (exact lS (K _ (k.ext ((Ext.refl _).drewN _)) (j.ext ((Ext.refl _).drewN _))).out)
 go_wp2;go_ret;exact⟨rfl,nq,_,Oh _ _ _ _⟩
theorem Sj(x y:EV)(w:World):Calls prog 144 #[.agg x.enc.toArray,.agg y.enc.toArray] w fun e G=>e = .returned (.int .i64 (cfE x y))/\∃ q C,G=grow (w.drewN q) C:=by
 obtain⟨⟨r,t⟩,⟨s,a,n,c,b,m,d,h⟩,h6,z⟩:=x;obtain⟨⟨D,F⟩,⟨E,i,B,k,j,A,l,v⟩,f,g⟩:=y;have o:r=As t.1 s a n c b m d:=h;have p:D=As F.1 E i B k j A l:=v;subst o;subst p;exact PQ h6 f z g
theorem E8(d:Array EV):(flatK EV.enc 10 d).toList=(d.toList.map EV.enc).flatten:=by
 have e:∀ r∈d.toList.map EV.enc,r.length=10:=by
  intro r g;obtain⟨v,_,rfl⟩:=ie.1 g;exact v.len
 refine lG fun j => ?_;by_cases f:j<d.size*10
 · have b:j=j/10*10+j%10:=by omega
   have a:j/10<d.size:=by omega
   have h3:=DX (d.toList.map EV.enc) e (j/10) (j%10) (by omega);rw[<-b]at h3;rw[h3];have c:d[j/10].enc.length=10:=EV.len _;simp[flatK,f,a];rw[gD (by rw[c];omega)];rfl
 · have h1:(flatK EV.enc 10 d).toList.length<=j:=by simp;omega
   have h2:(d.toList.map EV.enc).flatten.length<=j:=by rw[BM _ e];simp;omega
   rw[ig h1,ig h2]
theorem Oi(w:World)(g m:Nat)(dk:Array EV)(os:Array Obj):w.grownBy (sortWorldK EV.enc 10 w g 0 m dk os) (some g):=by
 refine⟨rfl,rfl,rfl,by unfold sortWorldK putRowK;simp,fun k b a => ?_⟩;unfold sortWorldK putRowK;rw[heap_grow_old _ _ (by simpa using b)];have:g≠k:=by rintro rfl;exact a rfl
 simp[putRow,mapBlock,kS,this]
theorem Sk{e:TypeId}{dk:Array EV}(os:Array Obj)(h:AR w base e 10 (some ⟨g,0,none⟩) n c rows)(z:dk.size=n)(x:NoU w g) :
 AR (sortWorldK EV.enc 10 w g 0 m dk os) base e 10 (some ⟨g,0,none⟩) n c (dk.toList.map EV.enc)/\NoU (sortWorldK EV.enc 10 w g 0 m dk os) g:=by
 rcases h.2.2 with⟨o,_⟩|⟨B,t,a,o,y,p,h1,h2,h3,h4⟩
 · simp at o
 simp only[gW,gK,iV,jp,lI]at o;obtain⟨rfl,rfl⟩:=o;have q:g<w.heap.size:=by
  rcases iH g w.heap.size with h|h
  · exact h
  · simp[jY h]at p
 have d:(flatK EV.enc 10 dk).size=n*10:=by rw[size_flatK,z]
 have f:(sortWorldK EV.enc 10 w g 0 m dk os).heap[g]?=some (.cells (putCells id 0 (flatK EV.enc 10 dk) a) e (0,0)):=by
  unfold sortWorldK putRowK;rw[heap_grow_old _ _ (by simpa using q)];simp[putRow,mapBlock,kS,p,onCells]
 have k:∀ j,(putCells id 0 (flatK EV.enc 10 dk) a)[j]?=if j<a.size then(if j<n*10 then(flatK EV.enc 10 dk)[j]? else a[j]?)else none:=by
  intro j;unfold putCells;rw[Array.getElem?_mapIdx];by_cases l:j<a.size
  · rw[gY l,kR l];simp only[jJ,gO,lI,iz,d,id,mp];by_cases b:j<n*10
    · rw[gY b,gY b,kR (by rw[d];exact b)];simp[d,b]
    · rw[gT b,gT b]
  · rw[gT l,jY (by omega)];rfl
 have A:n*10<=a.size:=by rw[h3];exact gH 10 h1
 refine⟨⟨?_,?_,Or.inr ⟨g,c,putCells id 0 (flatK EV.enc 10 dk) a,rfl,y,f,h1,h2,by simp[putCells,h3],?_⟩⟩,?_⟩
 · intro r s;obtain⟨v,_,rfl⟩:=ie.1 s;exact v.len
 · rw[<-E8];simp[d]
 · rw[<-E8];refine lG fun j => ?_;rw[List.getElem?_take];by_cases l:j<n*10
   · rw[gY l];have:=k j;rw[gY (by omega),gY l]at this;simpa using this
   · rw[gT l,ig (by simp[d];omega)]
 · intro j i he;rw[mX _ g _ _ e (0,0) f,k j]at he;split at he
   · split at he
     · have h5:(flatK EV.enc 10 dk).toList[j]?=some (.int .u64 i):=by simpa using he
       rw[E8]at h5;obtain⟨r,s,hu⟩:=kM.1 (im h5);obtain⟨v,_,rfl⟩:=ie.1 s;exact v.nu _ hu i rfl
     · refine x j i ?_;rw[mX w g _ a e (0,0) p];exact he
   · cases he
def Bp(l:List Pl.Tm):Prop:=∀ t∈l,t.1.length=6/\∀ x∈t.1,0<=x/\x<=1099511627776
theorem GV{l:List Pl.Tm}(O:C1 w base a n c l)(hb:Bp l)(hn:n<=1000000) :
 Calls prog 143 #[.slice a n c,.func (.func 144) #[] #[]] w fun e N=>e = .returned (.tuple #[])/\∃ Z,Z.Perm l/\Pl.desc Z/\C1 N base a n c Z/\w.grownBy N (blk a):=by
 rcases gX n with h0|h0
 · subst h0;refine(AnyF.slices_SortFunc_none WC a c _ w).mono ?_;rintro e N ⟨rfl,rfl⟩;refine⟨rfl,l,mN _,?_,O,nl _ _⟩;have:l=[]:=gQ O.len;subst this;exact List.Pairwise.nil
 · obtain⟨p,h1,h2,h3,h4⟩:=O;obtain⟨g,rfl,a3,S⟩:=h1.place h0;have hU:=h2 g rfl;have J:=h1.slk (by omega);have Q:∀ i,∃ v:EV,i<n->v.enc=p.getD i []/\v.tm=l.getD i ([],0):=by
    intro i;by_cases z:i<n
    · obtain⟨s,a,n',c',b,m,d,F,e2,e3⟩:=h4 i z;have hm:=hb (l.getD i ([],0)) (by simp[show i<l.length by omega]);exact⟨⟨(p.getD i [],l.getD i ([],0)),⟨s,a,n',c',b,m,d,F⟩,hm.1,hm.2⟩,fun _=>⟨rfl,rfl⟩⟩
    · exact⟨default,fun h=>absurd h z⟩
   obtain⟨f,K⟩:=Classical.axiomOfChoice Q
   let d:Array EV:=((List.range n).map f).toArray
   have A:d.size=n:=by simp[d]
   have P:∀ i,i<n->d[i]! = f i:=fun i z=>by simp[d,z]
   have hH:HoldsK EV.enc 10 w g 0 d:=by
    intro j L;rw[size_flatK,A]at L;rw[iz,get_flatK _ _ _ _ (by rw[A];exact L)];obtain⟨b',a4,F,hc⟩:=J.rd h0;simp only[gK,iV,jp]at F;obtain⟨rfl,rfl⟩:=F;have B:j/10<n:=by omega
    have G:=hc (j/10) B (j%10) (by omega);have V:0+j/10*10+j%10=j:=by omega
    rw[V]at G;refine⟨?_,?_⟩
    · rw[G,P _ B,(K _ B).1];have W:=J.row B;have h9:j%10<(p.getD (j/10) []).length:=by rw[W];omega
      simp only[id,gK];rw[gqq,gD h9,getElem!_pos (p.getD (j/10) []) (j%10) h9];rfl
    · rcases h1.2.2 with⟨M,_⟩|⟨g1,a0,a1,M,a2,hh,_⟩
      · simp at M
      simp only[gW,gK,iV,jp,lI]at M;rw[M.1];simp[World.frozen?,hh]
   have eg:∀ C w,(callFunc 144 C).run prog w = .ok (.enter 144 C) w:=enters_of func144 (by kernel_rfl) rfl;have H:CmpLays prog 144 #[] EV.enc 10 cfE g 0 d.size w:=fun m os dk _ x y=>Sj x y _;have h:=AnyQ.slices_SortFunc WC 10 (fun w=>Tryz.isAgg92 w) (fun w=>Tryz.sizeOf92 w) EV.enc EV.len EV.one cfE YM 144 #[] g 0 c d w eg H hH S (by omega);rw[A]at h;refine h.mono ?_;rintro e N ⟨rfl,o,q,os,hp,X,rfl⟩;obtain⟨p1,_,p3⟩:=hp;have D:o.size=n:=by rw[p1,A]
   have t:o.toList.Perm d.toList:=by
    rw[p7 (by omega),p7 (by omega)]at p3;exact p3
   have I:=Oi w g q o os;obtain⟨o1,o2⟩:=Sk (m:=q) (dk:=o) os h1 D hU;have Y:d.toList.map EV.tm=l:=by
    apply mR
    · simp[d,h3]
    · intro i i1 i2;have z:i<n:=by omega
      simp only[d,jO,List.getElem_map,List.getElem_range,Function.comp];rw[(K i z).2];simp[i2]
   refine⟨rfl,o.toList.map EV.tm,?_,?_,⟨o.toList.map EV.enc,o1,fun g' R => ?_,by simp[D],fun i z => ?_⟩,I⟩
   · rw[<-Y];exact t.map _
   · unfold Pl.desc;rw[ma];rw[mj];intro i j z L T;have r:i<o.size:=by simpa using z
     have U:j<o.size:=by simpa using L
     have h5:=Ii (X i j (gO _) T (by omega));unfold cfE at h5;rw[getElem!_pos o i r,getElem!_pos o j U]at h5;have h6:=Pl.ordE_anti o[i].tm.1 o[j].tm.1;simp only[Array.getElem_toList];omega
   · have:g=g':=by simpa[blk]using R
     subst this;exact o2
   · have r:i<o.toList.length:=by simpa[D]using z
     obtain⟨k,hk,e⟩:=jX.1 (t.mem_iff.1 (jl r));have E:k<n:=by simpa[d]using hk
     have F:o.toList[i]=f k:=by rw[<-e];simp[d]
     have h7:=h4 k E;rw[<-(K k E).1,<-(K k E).2,<-F]at h7;have e2:(o.toList.map EV.enc).getD i []=o.toList[i].enc:=by rw[gqq,me,gD r];rfl
     have e3:(o.toList.map EV.tm).getD i ([],0)=o.toList[i].tm:=by rw[gqq,me,gD r];rfl
     rw[e2,e3];exact h7.keptU hU I
end Go.Proofs.YtlbmnokpiilfpaaGreatDoor
