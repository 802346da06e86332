/- Part Gav33. -/
import Derived.Test.YtlpgonpfjbhmfaaGreatDoorGav32
set_option maxRecDepth 100000
set_option maxHeartbeats 100000000
namespace Go.Proofs.YtlpgonpfjbhmfaaGreatDoor
open Tryz Go Go.RowKit
variable {s:Bool} {e:List Int} {c n v:Nat} {A B a b:Option Addr} {w:World}
structure EvB (l:List Pl.Tm) (pt:List Rat):Prop where
 co:∀ t∈l,Pl.RB 2400 t.2
 po:∀ q∈pt,Pl.RB 2400 q
 ex:∀ t∈l,∀ e∈t.1,0≤e∧e≤1048576
 lc:∀ k,Cv ((l.map (·.2)).take k)<P2 9600
 pn:∀ v,v<pt.length→∀ e,e≤Pl.grt l v→(pt.getD v 0).num.natAbs^e<P2 1200
 pd:∀ v,v<pt.length→∀ e,e≤Pl.grt l v→(pt.getD v 0).den^e<P2 1200
 ze:∀ t∈l,∀ k,k≤pt.length→(Pl.zev (Cv (l.map (·.2))) (Pl.grt l) pt t k).natAbs<P2 9600
 de:∀ k,k≤pt.length→Pl.dev (Cv (l.map (·.2))) (Pl.grt l) pt k<P2 9600
 su:(Pl.zsum (fun t=>Pl.zev (Cv (l.map (·.2))) (Pl.grt l) pt t pt.length) l).natAbs<P2 9600
def EvS (w:World) (R DB S N:Nat) (F:Nat→Int) (z:Int) (wr:World):Prop:=Ext w wr∧Arr wr R 97 (An false none 0 0 false none 0 0)∧Fa wr DB z∧C5 wr R S N F
theorem EvS.ext {w:World} {R DB S N:Nat} {F:Nat→Int} {z:Int} {wr w':World} (h:EvS w R DB S N F z wr) (e:Ext wr w'):EvS w R DB S N F z w':=⟨h.1.trans e,h.2.1.ext e,h.2.2.1.ext e,h.2.2.2.ext e⟩
theorem O0 {v B:Nat}:∀ (l:List Pl.Tm) (a:Nat),a≤B→(∀ t∈l,(t.1.getD v 0).toNat≤B)→l.foldl (fun a t=>max a (t.1.getD v 0).toNat) a≤B
 | [],_,ha,_=>ha
 | t :: r,_,ha,h=>O0 r _ (Nat.max_le.2 ⟨ha,h t (by simp)⟩) (fun s hs=>h s (by simp [hs]))
theorem G7 (h:∀ x∈e,0≤x∧x≤1048576):0≤e.getD v 0∧e.getD v 0≤1048576:=by
 rw [gqq];cases hv:e[v]? with
 | none=>simp
 | some x=>exact h x (List.mem_of_getElem? hv)
theorem Wd.blt {x:Nat} (h:Wd w a n c x) (h0:0<n) {g:Nat} (hg:blk a=some g):g<w.heap.size:=by
 obtain ⟨xs,h1,_⟩:=h;obtain ⟨b,o,rfl,hc⟩:=h1.at (j:=0) h0;have hb:b=g:=by simpa [blk] using hg
 subst hb;exact World.block_lt_of_cell? w _ (hc 0 h0)
theorem EP (z:Int) (e:Nat):(z^e).natAbs=z.natAbs^e:=Int.natAbs_pow z e
theorem P3 {m d:Nat} (h6:e.length=6) (hv:v<6):(At e s a n c b m d).getD v undef = .int .i64 (e.getD v 0):=by
 unfold At;rw [gqq,List.getElem?_append_left (by simp [h6,hv])];simp [h6,hv]
theorem Q9 {N C M D:Nat} {l:List Pl.Tm} {pt:List Rat} (hT:A2 w) (hL:Cx w A N C l) (hP:Em w B M D pt) (hM:M≤6) (hN:N≤1000000) (hB:EvB l pt) :
 Calls prog 53 #[.slice A N C, .slice B M D] w (F4 w (Pl.evq pt l)):=by
 have hcd:=fun (wx:World) (hC:Ext w wx)=>qh (JX (hT.ext hC) (hL.ext hC) hN (fun q hq=>by obtain ⟨t,ht,rfl⟩:=List.mem_map.1 hq; exact (hB.co t ht).2) hB.lc);obtain ⟨rows,hS,hlen,hR⟩:=hL;obtain ⟨rowp,hSp,hlp,hRp⟩:=hP;obtain ⟨d0,hd0⟩:∃ d,Cv (l.map (·.2))=d:=⟨_,rfl⟩;rw [hd0] at hcd;have HD0:=qh hd0;have HB:=qh hB;have HR:=qh hR;have HRP:=qh hRp;have HLN:=qh hlen;have HLP:=qh hlp;have HdB:Hid (d0<P2 9600):=qh (by rw [←hd0]; exact hB.de 0 (Nat.zero_le _));clear hB hR hRp hlen hlp hd0
 go_enter func53,ntmps53
 go_upto_region 1 with (fail)
 refine Bq ?_;intro w0 hE0 hB0 hz0;have hRes:Arr w0 w.heap.size 97 (An false none 0 0 false none 0 0):=hB0;clear hB0 hz0
 go_wp2_with fail
 refine (hcd _ hE0).out.mono ?_;rintro e w1 ⟨s1,a1,n1,c1,rfl,hE1,HS1,hx1⟩;have hY:=Fa.new w1;have hl1:(Ab s1 a1 n1 c1).toArray=#[.bool s1, .slice a1 n1 c1]:=rfl
 go_upto_region 2 with (refine P0 (z:=(d0:Int)) rfl rfl rfl rfl rfl hY HS1 (hx1.ext ((Ext.refl w1).alloc _)) ?_; intro w2 hD2 hg2)
 have hE2:Ext w1 w2:=((Ext.refl w1).alloc _).grownR hg2 (lrf _);have hEw2:=(hE0.trans hE1).trans hE2;have hRes2:=(hRes.ext hE1).ext hE2;have hRD:w.heap.size<w1.heap.size:=(hRes.ext hE1).lt;clear hY hg2 hx1 hE2 hRes hE0 hE1 hl1 hcd;generalize w1.heap.size=DB at *
 go_upto_region 3 with (refine Fm rfl rfl (by kernel_rfl) NG rfl rfl (by omega) (by unfold maxLen; omega) ?_; intro w3 hO3 hE3)
 have hF3:=(C5.made hO3).mono hEw2.size;have hD3:=hD2.ext hE3;have hRes3:=hRes2.ext hE3;have hDS:DB<w2.heap.size:=hD2.lt;have hEw3:=hEw2.trans hE3;clear hO3 hE3 hD2 hRes2;obtain ⟨R,hRe⟩:∃ x,w.heap.size=x:=⟨_,rfl⟩;obtain ⟨S,hSe⟩:∃ x,w2.heap.size=x:=⟨_,rfl⟩;rw [hSe] at hF3 hDS ⊢;rw [hRe] at hRes3 hRD hF3 ⊢;have hst3:EvS w R DB S N (fun _=>0) (d0:Int) w3:=⟨hEw3,hRes3,hD3,hF3⟩;clear hEw3 hRes3 hD3 hF3 hSe hEw2;go_wp2
 go_loopw [28] (fun iv wr=>∃ k:Nat,iv = .int .i64 k∧k≤N∧EvS w R DB S N (fun i=>if i<k then Pl.zsc (l.getD i ([],0)).2 d0 else 0) (d0:Int) wr) (fun iv _=>N-(intOf iv).toNat)
 case atStart=>exact ⟨0,rfl,Nat.zero_le _,hst3.1,hst3.2.1,hst3.2.2.1,hst3.2.2.2.congr (fun i _=>by simp)⟩
 case round =>
  clear hst3;obtain ⟨k,rfl,hk,hst⟩:=hrel;by_cases hlt:k<N
  · have hSw:=hS.ext hst.1;obtain ⟨bb,off,rfl,_⟩:=hSw.rd (by omega);obtain ⟨sx,ax,nx,cx,bx,mx,dx,hrow,h6,hrc⟩:=HR.out k hlt;have HTB:Hid (Pl.RB 2400 (l.getD k ([],0)).2):=qh (HB.out.co _ (by simp [HLN.out,hlt]))
    have HFk:Hid (∀ i,(if i<k+1 then Pl.zsc (l.getD i ([],0)).2 d0 else 0)=if i=k then Pl.zsc (l.getD k ([],0)).2 d0 else if i<k then Pl.zsc (l.getD i ([],0)).2 d0 else 0):=qh fun i=>by
     by_cases e:i=k
     · subst e; rw [if_pos (by omega),if_pos rfl]
     · rw [if_neg e];by_cases e2:i<k
       · rw [if_pos e2,if_pos (by omega)]
       · rw [if_neg e2,if_neg (by omega)]
    generalize htk:l.getD k ([],0)=t at *
    clear htk;obtain ⟨te,tq⟩:=t;obtain ⟨x0,x1,x2,x3,x4,x5,h6e⟩:=Dr h6;simp only at h6e hrow hrc HTB HFk;subst h6e;have hY:=Arr.new wr 111 (At [0,0,0,0,0,0] false none 0 0 none 0 0)
    go_upto_region 6 with (first
     | (refine CZ rfl rfl AA rfl hSw hlt ?_; rw [hrow])
     | (refine Aa (vs:=At [x0,x1,x2,x3,x4,x5] sx ax nx cx bx mx dx) rfl rfl rfl rfl rfl AA hY rfl Bk ?_; intro w4 hB4 hg4))
    have hE4:Ext wr w4:=((Ext.refl wr).alloc _).grownR hg4 (lrf _);have hst4:=hst.ext hE4;have hrc4:=hrc.ext hst4.1;clear hY hg4 hst hE4 hrow h6 hSw hrc;generalize wr.heap.size=X at *
    have c6:=hB4.c 6 rfl;have c7:=hB4.c 7 rfl;have c8:=hB4.c 8 rfl;have c9:=hB4.c 9 rfl;obtain ⟨sd,ad,nd,cd,db0,db1,HSd,hxd⟩:=hst4.2.2.1.at
    have hsc:=qh (ON (v := .agg #[.bool sx, .slice ax nx cx, .bool false, .slice bx mx dx]) (q:=tq) ⟨An sx ax nx cx false bx mx dx,rfl,hrc4⟩ (v' := .agg #[.bool sd, .slice ad nd cd]) (k:=d0) ⟨sd,ad,nd,cd,rfl,HSd,hxd⟩ HTB.out.1 (Ag HTB.out.2 (by omega)) HdB.out);clear hB4 hrc4 HSd hxd
    go_wp2_with fail
    refine hsc.out.mono ?_;rintro e w5 ⟨s5,a5,n5,c5,rfl,hE5,HS5,hx5⟩;have hst5:=hst4.ext hE5;have hl5:(Ab s5 a5 n5 c5).toArray=#[.bool s5, .slice a5 n5 c5]:=rfl;have hF5:=hst5.2.2.2;clear hsc c6 c7 c8 c9 db0 db1 hst4 hE5
    go_wp2_with (refine Mt (z:=Pl.zsc tq d0) rfl rfl rfl rfl rfl hF5 hlt HS5 hx5 ?_; intro w6 hF6 hg6)
    go_roundw
    case rel =>
     have hU5:=hF5.noU;exact ⟨k+1,by go_num,by omega,hst5.1.grownR hg6 (by omega),hst5.2.1.kept hg6 (by simp; omega),hst5.2.2.1.kept hU5 hg6 (by omega),hF6.congr (fun i _=>HFk.out i)⟩
    case measure=>simp [intOf]; omega
  · have hkn:k=N:=by omega
    subst hkn;have hst0:EvS w R DB S k (fun i=>Pl.zev d0 (Pl.grt l) pt (l.getD i ([],0)) 0) (Pl.dev d0 (Pl.grt l) pt 0:Int) wr:=⟨hst.1,hst.2.1,hst.2.2.1,hst.2.2.2.congr (fun i hi=>by rw [if_pos hi]; rfl)⟩;clear hst hk hlt;go_wp2;obtain ⟨wo,rfl⟩:∃ x,x=wr:=⟨_,rfl⟩
    go_loopw [43] (fun iv wr=>∃ v:Nat,iv = .int .i64 v∧v≤M∧EvS w R DB S k (fun i=>Pl.zev d0 (Pl.grt l) pt (l.getD i ([],0)) v) (Pl.dev d0 (Pl.grt l) pt v:Int) wr) (fun iv _=>M-(intOf iv).toNat)
    case atStart=>exact ⟨0,rfl,Nat.zero_le _,hst0⟩
    case round =>
     clear hst0;obtain ⟨v,rfl,hv,hst⟩:=hrel;by_cases hvM:v<M
     · have hSw:=hSp.ext hst.1;obtain ⟨bb,off,rfl,_⟩:=hSw.rd (by omega);obtain ⟨sx,ax,nx,cx,bx,mx,dx,hrow,HSx,hxx,hyx⟩:=HRP.out v hvM;generalize hqv:pt.getD v 0=xq at *
       have HQV:=qh hqv;clear hqv;have hlr:(An sx ax nx cx false bx mx dx).toArray=#[.bool sx, .slice ax nx cx, .bool false, .slice bx mx dx]:=rfl;have hY:=Arr.new wr 97 (An false none 0 0 false none 0 0)
       go_upto_region 11 with (first
        | (refine CZ rfl rfl Ac rfl hSw hvM ?_; rw [hrow])
        | (refine Aa (vs:=An sx ax nx cx false bx mx dx) rfl rfl rfl rfl rfl Ac hY rfl (Ap _ _ _ _ _ _ _ _) ?_; intro w7 hB7 hg7))
       have hE7:Ext wr w7:=((Ext.refl wr).alloc _).grownR hg7 (lrf _);have hst7:=hst.ext hE7;have hxx7:=hxx.ext hst7.1;have hyx7:=hyx.ext hst7.1;have hSX:S<wr.heap.size:=hst.2.2.2.lt.2;clear hY hg7 hst hE7 hrow hSw hlr;generalize wr.heap.size=X at *
       have x0:=hB7.c 0 rfl;have x1:=hB7.c 1 rfl;have x2:=hB7.c 2 rfl;have x3:=hB7.c 3 rfl;have HXC:DD w (An sx ax nx cx false bx mx dx) xq:=⟨sx,ax,nx,cx,bx,mx,dx,rfl,HSx,hxx,hyx⟩;have hBX:=hB7;clear hB7 hxx7 hyx7 hxx hyx;go_wp2;obtain ⟨wo2,rfl⟩:∃ x,x=w7:=⟨_,rfl⟩
       go_loopw [11,50] (fun gv iv wr=>∃ j:Nat,iv = .int .i64 j∧j≤k∧gv = .int .i64 (Pl.grt (l.take j) v:Int)∧Ext wo2 wr) (fun _ iv _=>k-(intOf iv).toNat)
       case atStart=>exact ⟨0,rfl,Nat.zero_le _,by simp [Pl.grt],Ext.refl _⟩
       case round =>
        obtain ⟨j,rfl,hj,rfl,hE⟩:=hrel;by_cases hjk:j<k
        · have hSw:=hS.ext (hst7.1.trans hE);obtain ⟨bb,off,rfl,_⟩:=hSw.rd (by omega);obtain ⟨s8,a8,n8,c8,b8,m8,d8,hrow,h6,hrc⟩:=HR.out j hjk;have HGR:Hid (Pl.grt (l.take (j+1)) v=max (Pl.grt (l.take j) v) ((l.getD j ([],0)).1.getD v 0).toNat):=qh (Pl.grt_take l v j (by rw [HLN.out]; exact hjk));have hex:0≤(l.getD j ([],0)).1.getD v 0:=(G7 (HB.out.ex (l.getD j ([],0)) (by simp [HLN.out,hjk]))).1;obtain ⟨ev,HEV⟩:∃ ev,Hid ((l.getD j ([],0)).1.getD v 0=ev):=⟨_,qh rfl⟩;rw [HEV.out] at HGR hex;obtain ⟨en,rfl⟩:∃ en:Nat,ev=(en:Int):=⟨ev.toNat,by omega⟩
          rw [Int.toNat_natCast] at HGR;generalize htk:l.getD j ([],0)=t at *
          clear htk hrc hex;obtain ⟨te,tq⟩:=t;obtain ⟨y0,y1,y2,y3,y4,y5,h6e⟩:=Dr h6;simp only at h6e hrow HEV;subst h6e;have hY:=Arr.new wr 111 (At [0,0,0,0,0,0] false none 0 0 none 0 0)
          go_upto_region 15 with (first
           | (refine CZ rfl rfl AA rfl hSw hjk ?_; rw [hrow])
           | (refine Aa (vs:=At [y0,y1,y2,y3,y4,y5] s8 a8 n8 c8 b8 m8 d8) rfl rfl rfl rfl rfl AA hY rfl Bk ?_; intro w8 hB8 hg8))
          have hE8:Ext wr w8:=((Ext.refl wr).alloc _).grownR hg8 (lrf _);have e0:w8.cell? ⟨wr.heap.size,v,none⟩=some (.int .i64 (en:Int)):=by
           rw [hB8.cell (i:=v) (by simp [At,An,Ab]; omega),P3 rfl (by omega),HEV.out]
          clear hY hg8 hrow hSw hB8 h6 HEV;go_wp2;go_roundw
          case rel=>exact ⟨j+1,by go_num,by omega,by rw [HGR.out]; simp; omega,hE.trans hE8⟩
          case measure=>simp [intOf]; omega
        · have hjn:j=k:=by omega
          subst hjn;have HGT:Hid (Pl.grt (l.take j) v=Pl.grt l v):=qh (by rw [List.take_of_length_le (by rw [HLN.out]; exact lrf _)]);rw [HGT.out];have hGB:Pl.grt l v≤1048576:=O0 l 0 (by omega) (fun t ht=>by have:=G7 (v:=v) (HB.out.ex t ht); omega);have HPN1:Hid (∀ e,e≤Pl.grt l v→xq.num.natAbs^e<P2 1200):=qh (by have h1:=HB.out.pn v (by rw [HLP.out]; exact hvM); rw [HQV.out] at h1; exact h1);have HPD1:Hid (∀ e,e≤Pl.grt l v→xq.den^e<P2 1200):=qh (by have h1:=HB.out.pd v (by rw [HLP.out]; exact hvM); rw [HQV.out] at h1; exact h1)
          have HXB:Hid (Pl.RB 2400 xq):=qh (by
           have h1:=HB.out.po (pt.getD v 0) (by simp [HLP.out,hvM]);rw [HQV.out] at h1
           exact h1)
          have HNB:Hid (xq.num.natAbs<P2 2496):=qh (Ag HXB.out.1 (by omega));have HNB2:Hid ((xq.den:Int).natAbs<P2 2496):=qh (Ag HXB.out.2 (by omega));obtain ⟨G,hG⟩:∃ g,Pl.grt l v=g:=⟨_,rfl⟩;rw [hG] at hGB HPN1 HPD1 ⊢;have HGE:=qh hG;have hstA:=hst7.ext hE;have hBXa:=hBX.ext hE;have hXlt:=hBXa.lt;have hwG:IntKind.i64.wrap ((G:Int)+1)=((G+1:Nat):Int):=by rw [IntWalk.i64_in _ (by omega)]; omega
          obtain ⟨wa,rfl⟩:∃ x,x=wr:=⟨_,rfl⟩;clear hst7 hBX HGT hG hjk hj hE x0 x1 x2 x3
          go_upto_region 18 with (refine Fm (n:=G+1) rfl rfl (by kernel_rfl) NG rfl rfl (by omega) (by unfold maxLen; omega) ?_; intro w9 hO9 hE9)
          have hP9:=C5.made hO9;have hszA:=hstA.1.size;obtain ⟨P,hPe⟩:∃ x,wa.heap.size=x:=⟨_,rfl⟩;rw [hPe] at hP9 hXlt hszA ⊢;clear hO9 hwG;go_wp2
          go_loopw [66] (fun iv wq=>∃ ep:Nat,iv = .int .i64 ep∧ep≤G+1∧Ext wa wq∧C5 wq P P (G+1) (fun i=>if i<ep then Pl.pwz xq G i else 0)) (fun iv _=>G+1-(intOf iv).toNat)
          case atStart=>exact ⟨0,rfl,Nat.zero_le _,hE9,hP9.congr (fun i _=>by simp)⟩
          case round =>
           clear hP9 hE9;obtain ⟨ep,rfl,hep,hEa,hP⟩:=hrel;by_cases heG:ep<G+1
           · have hBXr:=hBXa.ext hEa;have hRx:=HXC.ext (hstA.1.trans hEa)
             have HFp:Hid (∀ i,(if i<ep+1 then Pl.pwz xq G i else 0)=if i=ep then Pl.pwz xq G ep else if i<ep then Pl.pwz xq G i else 0):=qh fun i=>by
              by_cases e:i=ep
              · subst e; rw [if_pos (by omega),if_pos rfl]
              · rw [if_neg e];by_cases e2:i<ep
                · rw [if_pos e2,if_pos (by omega)]
                · rw [if_neg e2,if_neg (by omega)]
             have d0:=hBXr.c 0 rfl;have d1:=hBXr.c 1 rfl;have d2:=hBXr.c 2 rfl;have d3:=hBXr.c 3 rfl;have HNm:=fun (wx:World) (hC:Ext wr wx)=>qh (TT (v := .agg #[.bool sx, .slice ax nx cx, .bool false, .slice bx mx dx]) (q:=xq) ⟨An sx ax nx cx false bx mx dx,rfl,hRx.ext hC⟩);have HDn:=fun (wx:World) (hC:Ext wr wx)=>qh (GU (v := .agg #[.bool sx, .slice ax nx cx, .bool false, .slice bx mx dx]) (q:=xq) ⟨An sx ax nx cx false bx mx dx,rfl,hRx.ext hC⟩)
             have HPW:=fun (wx:World) (x1:Value) (h1:Ax wx x1 xq.num)=>qh (Me (e:=ep) h1 HNB.out (by omega) (Ag (HPN1.out ep (by omega)) (by omega)));have HPV:=fun (wx:World) (x1:Value) (h1:Ax wx x1 (xq.den:Int))=>qh (Me (e:=G-ep) h1 HNB2.out (by omega) (Ag (HPD1.out (G-ep) (by omega)) (by omega)))
             have HML:=fun (wx:World) (x1 x2:Value) (h1:Ax wx x1 (xq.num^ep)) (h2:Ax wx x2 ((xq.den:Int)^(G-ep)))=>qh (CB h1 h2 (by rw [EP]; exact Ag (HPN1.out ep (by omega)) (by omega)) (by rw [EP]; exact Ag (HPD1.out (G-ep) (by omega)) (by omega)) (Or.inl (by rw [EP]; exact Ag (HPN1.out ep (by omega)) (by omega))));have hcv1:IntKind.u64.wrap (ep:Int)=(ep:Int):=IntWalk.u64_in _ (by omega);have hcv2:IntKind.u64.wrap ((G:Int)-(ep:Int))=((G-ep:Nat):Int):=by rw [IntWalk.u64_in _ (by omega)]; omega
             have hcv3:IntKind.i64.wrap ((G:Int)-(ep:Int))=(G:Int)-(ep:Int):=IntWalk.i64_in _ (by omega);clear hBXr hRx;go_wp2;have HF1:=fun (wx:World) (hC:Ext wr wx)=>qh (And.intro (hC.cell d0) (And.intro (hC.cell d1) (And.intro (hC.cell d2) (hC.cell d3))))
             refine Af (by kernel_rfl) (fun wx=>Ext wr wx)
              [he (.slice (some ⟨P,0,none⟩) (G+1) (G+1)),
 he (.int .i64 (ep:Int)),
 he (.agg #[.bool sx, .slice ax nx cx, .bool false, .slice bx mx dx]),
 hp (fun v wx=>NI (xq.num) v wx),
 he (.int .i64 (ep:Int)),
 he (.int .u64 (ep:Int)),
 hp (fun v wx=>NI (xq.num^ep) v wx),
 he (.agg #[.bool sx, .slice ax nx cx, .bool false, .slice bx mx dx]),
 hp (fun v wx=>NI ((xq.den:Int)) v wx),
 he (.int .i64 (G:Int)),
 he (.int .i64 (ep:Int)),
 he (.int .i64 ((G:Int)-(ep:Int))),
 he (.int .u64 ((G-ep:Nat):Int)),
 hp (fun v wx=>NI ((xq.den:Int)^(G-ep)) v wx),
 hp (fun v wx=>NI (Pl.pwz xq G ep) v wx)]
              (by kernel_rfl) (fun _ _ e h=>h.trans e) ((Ext.refl wr).drew) ⟨trivial,trivial,trivial,NI.x _,trivial,trivial,NI.x _,trivial,NI.x _,trivial,trivial,trivial,trivial,NI.x _,NI.x _,trivial⟩ ⟨?o0, ?o1, ?o2, ?o3, ?o4, ?o5, ?o6, ?o7, ?o8, ?o9, ?o10, ?o11, ?o12, ?o13, ?o14,trivial⟩ ?fin
             case o0=>exact omv rfl rfl (fun _ _=>id)
             case o1=>exact omv rfl rfl (fun _ _=>id)
             case o2=>exact ol4 rfl rfl (fun _ _=>id) ⟨by kernel_rfl,by kernel_rfl⟩ (by assumption) (by assumption) (by assumption) (by assumption)
             case o3 =>
              refine Aj rfl fun ρ wx hC hcst hfn h => ?_;have e1:ρ (.tmp 71)=(.agg #[.bool sx, .slice ax nx cx, .bool false, .slice bx mx dx]):=h.2.1;obtain ⟨kd0,kd1,kd2,kd3⟩:=(HF1 wx hC).out;refine ⟨96,#[.agg #[.bool sx, .slice ax nx cx, .bool false, .slice bx mx dx]],by go_simp,((HNm wx hC).out).mono ?_⟩;rintro e w' ⟨s',a',n',c',rfl,hE',hs',hn'⟩;exact ⟨_,rfl,hE',s',a',n',c',rfl,hs',hn'⟩
             case o4=>exact omv rfl rfl (fun _ _=>id)
             case o5 =>
              refine AB rfl fun ρ wx hC hcst h => ?_;have e0:ρ (.tmp 73)=(.int .i64 (ep:Int)):=h.1;obtain ⟨kd0,kd1,kd2,kd3⟩:=(HF1 wx hC).out;go_simp
             case o6 =>
              refine Aj rfl fun ρ wx hC hcst hfn h => ?_;obtain ⟨v1,e1,s1,a1,n1,c1,rfl,i1,j1⟩:=h.2.1;have e2:ρ (.tmp 74)=(.int .u64 (ep:Int)):=h.2.2.1;obtain ⟨kd0,kd1,kd2,kd3⟩:=(HF1 wx hC).out;refine ⟨97,#[.agg (Ab s1 a1 n1 c1).toArray, .int .u64 (ep:Int)],by go_simp,((HPW wx _ ⟨s1,a1,n1,c1,rfl,i1,j1⟩).out).mono ?_⟩;rintro e w' ⟨s',a',n',c',rfl,hE',hs',hn'⟩;exact ⟨_,rfl,hE',s',a',n',c',rfl,hs',hn'⟩
             case o7=>exact ol4 rfl rfl (fun _ _=>id) ⟨by kernel_rfl,by kernel_rfl⟩ (by assumption) (by assumption) (by assumption) (by assumption)
             case o8 =>
              refine Aj rfl fun ρ wx hC hcst hfn h => ?_;have e1:ρ (.tmp 76)=(.agg #[.bool sx, .slice ax nx cx, .bool false, .slice bx mx dx]):=h.2.1;obtain ⟨kd0,kd1,kd2,kd3⟩:=(HF1 wx hC).out;refine ⟨99,#[.agg #[.bool sx, .slice ax nx cx, .bool false, .slice bx mx dx]],by go_simp,((HDn wx hC).out).mono ?_⟩;rintro e w' ⟨s',a',n',c',rfl,hE',hs',hn'⟩;exact ⟨_,rfl,hE',s',a',n',c',rfl,hs',hn'⟩
             case o9=>exact omv rfl rfl (fun _ _=>id)
             case o10=>exact omv rfl rfl (fun _ _=>id)
             case o11 =>
              refine AB rfl fun ρ wx hC hcst h => ?_;have e0:ρ (.tmp 78)=(.int .i64 (G:Int)):=h.1;have e1:ρ (.tmp 79)=(.int .i64 (ep:Int)):=h.2.1;obtain ⟨kd0,kd1,kd2,kd3⟩:=(HF1 wx hC).out;go_simp
              try (first | (intros; omega) | exact IntWalk.i64_in _ (by omega))
             case o12 =>
              refine AB rfl fun ρ wx hC hcst h => ?_;have e0:ρ (.tmp 80)=(.int .i64 ((G:Int)-(ep:Int))):=h.1;obtain ⟨kd0,kd1,kd2,kd3⟩:=(HF1 wx hC).out;go_simp
             case o13 =>
              refine Aj rfl fun ρ wx hC hcst hfn h => ?_;obtain ⟨v1,e1,s1,a1,n1,c1,rfl,i1,j1⟩:=h.2.1;have e2:ρ (.tmp 81)=(.int .u64 ((G-ep:Nat):Int)):=h.2.2.1;obtain ⟨kd0,kd1,kd2,kd3⟩:=(HF1 wx hC).out;refine ⟨97,#[.agg (Ab s1 a1 n1 c1).toArray, .int .u64 ((G-ep:Nat):Int)],by go_simp,((HPV wx _ ⟨s1,a1,n1,c1,rfl,i1,j1⟩).out).mono ?_⟩;rintro e w' ⟨s',a',n',c',rfl,hE',hs',hn'⟩;exact ⟨_,rfl,hE',s',a',n',c',rfl,hs',hn'⟩
             case o14 =>
              refine Aj rfl fun ρ wx hC hcst hfn h => ?_;obtain ⟨v1,e1,s1,a1,n1,c1,rfl,i1,j1⟩:=h.2.1;obtain ⟨v2,e2,s2,a2,n2,c2,rfl,i2,j2⟩:=h.2.2.1;obtain ⟨kd0,kd1,kd2,kd3⟩:=(HF1 wx hC).out;refine ⟨98,#[.agg (Ab s1 a1 n1 c1).toArray, .agg (Ab s2 a2 n2 c2).toArray],by go_simp,((HML wx _ _ ⟨s1,a1,n1,c1,rfl,i1,j1⟩ ⟨s2,a2,n2,c2,rfl,i2,j2⟩).out).mono ?_⟩;rintro e w' ⟨s',a',n',c',rfl,hE',hs',hn'⟩;exact ⟨_,rfl,hE',s',a',n',c',rfl,hs',hn'⟩
             case fin =>
              intro wx hC;rintro _ ⟨s72,a72,n72,c72,rfl,HS72,hx72⟩;rintro _ ⟨s75,a75,n75,c75,rfl,HS75,hx75⟩;rintro _ ⟨s77,a77,n77,c77,rfl,HS77,hx77⟩;rintro _ ⟨s82,a82,n82,c82,rfl,HS82,hx82⟩;rintro _ ⟨s83,a83,n83,c83,rfl,HS83,hx83⟩;change wpList _ _ _ _ _ _;simp only [List.length_cons,List.length_nil,List.drop_succ_cons,List.drop_zero,Act.put,List.setIfInBounds_toArray,List.set_cons_succ,List.set_cons_zero];have hPx:=hP.ext hC;have hlt':(ep:Int)<((G+1:Nat):Int):=by omega
              have hl9:(Ab s83 a83 n83 c83).toArray=#[.bool s83, .slice a83 n83 c83]:=rfl
              go_wp2_with (refine Mt (z:=Pl.pwz xq G ep) rfl rfl rfl rfl rfl hPx heG HS83 hx83 ?_; intro w10 hP10 hg10)
              go_roundw
              case rel=>exact ⟨ep+1,by go_num,by omega,(hEa.trans hC).grownR hg10 (by omega),hP10.congr (fun i _=>HFp.out i)⟩
              case measure=>simp [intOf]; omega
           · have HEG:=qh (show ep=G+1 by omega);have hP1:=hP.congr (G:=Pl.pwz xq G) (fun i hi=>(if_pos (by have:=HEG.out; omega)).symm);have hBXb:=hBXa.ext hEa;have hstB:=hstA.ext hEa;clear hP;go_wp2;clear hep heG;obtain ⟨wb,rfl⟩:∃ x,x=wr:=⟨_,rfl⟩
             go_loopw [88] (fun iv wq=>∃ i:Nat,iv = .int .i64 i∧i≤j∧EvS w R DB S j (fun m=>if m<i then Pl.zev d0 (Pl.grt l) pt (l.getD m ([],0)) (v+1) else Pl.zev d0 (Pl.grt l) pt (l.getD m ([],0)) v) (Pl.dev d0 (Pl.grt l) pt v:Int) wq∧Arr wq X 97 (An sx ax nx cx false bx mx dx)∧C5 wq P P (G+1) (Pl.pwz xq G)) (fun iv _=>j-(intOf iv).toNat)
             case atStart=>exact ⟨0,rfl,Nat.zero_le _,⟨hstB.1,hstB.2.1,hstB.2.2.1,hstB.2.2.2.congr (fun m _=>if_neg (by omega))⟩,hBXb,hP1⟩
             case round =>
              clear hstB hBXb hP1 hBXa hstA hEa;obtain ⟨i,rfl,hi,hst,hBx,hPw⟩:=hrel;by_cases hij:i<j
              · have hSw:=hS.ext hst.1;obtain ⟨bb,off,rfl,_⟩:=hSw.rd (by omega);obtain ⟨s8,a8,n8,c8,b8,m8,d8,hrow,h6,hrc⟩:=HR.out i hij;have hmem:l.getD i ([],0)∈l:=by simp [HLN.out,hij]
                have hex:0≤(l.getD i ([],0)).1.getD v 0:=(G7 (HB.out.ex _ hmem)).1;obtain ⟨ev,HEV⟩:∃ ev,Hid ((l.getD i ([],0)).1.getD v 0=ev):=⟨_,qh rfl⟩;rw [HEV.out] at hex;obtain ⟨en,rfl⟩:∃ en:Nat,ev=(en:Int):=⟨ev.toNat,by omega⟩;have henG:en≤G:=by
                 have h1:=Pl.le_grt v hmem;rw [HGE.out,HEV.out] at h1;simpa using h1
                have hZE:Pl.zev d0 (Pl.grt l) pt (l.getD i ([],0)) (v+1)=Pl.zev d0 (Pl.grt l) pt (l.getD i ([],0)) v*Pl.pwz xq G en:=by
                 show Pl.zev d0 (Pl.grt l) pt (l.getD i ([],0)) v*Pl.pwz (pt.getD v 0) (Pl.grt l v) ((l.getD i ([],0)).1.getD v 0).toNat=_;rw [HQV.out,HGE.out,HEV.out,Int.toNat_natCast]
                have hZB:(Pl.zev d0 (Pl.grt l) pt (l.getD i ([],0)) v).natAbs<P2 9600:=by
                 have h1:=HB.out.ze _ hmem v (by rw [HLP.out]; omega)
                 rwa [HD0.out] at h1
                have HFi0:Hid (∀ m,(if m<i+1 then Pl.zev d0 (Pl.grt l) pt (l.getD m ([],0)) (v+1) else Pl.zev d0 (Pl.grt l) pt (l.getD m ([],0)) v)=if m=i then Pl.zev d0 (Pl.grt l) pt (l.getD i ([],0)) v*Pl.pwz xq G en else if m<i then Pl.zev d0 (Pl.grt l) pt (l.getD m ([],0)) (v+1) else Pl.zev d0 (Pl.grt l) pt (l.getD m ([],0)) v):=qh fun m=>by
                 by_cases e:m=i
                 · subst e; rw [if_pos (by omega),if_pos rfl,hZE]
                 · rw [if_neg e];by_cases e2:m<i
                   · rw [if_pos e2,if_pos (by omega)]
                   · rw [if_neg e2,if_neg (by omega)]
                obtain ⟨z0,hz0⟩:∃ z,Pl.zev d0 (Pl.grt l) pt (l.getD i ([],0)) v=z:=⟨_,rfl⟩;have HFi:Hid (∀ m,(if m<i+1 then Pl.zev d0 (Pl.grt l) pt (l.getD m ([],0)) (v+1) else Pl.zev d0 (Pl.grt l) pt (l.getD m ([],0)) v)=if m=i then z0*Pl.pwz xq G en else if m<i then Pl.zev d0 (Pl.grt l) pt (l.getD m ([],0)) (v+1) else Pl.zev d0 (Pl.grt l) pt (l.getD m ([],0)) v):=qh (fun m=>by rw [←hz0]; exact HFi0.out m);have HZB:Hid (z0.natAbs<P2 9600):=qh (by rw [←hz0]; exact hZB)
                have HPB:Hid ((Pl.pwz xq G en).natAbs<P2 2400):=qh (by
                 unfold Pl.pwz;rw [Int.natAbs_mul,EP,EP]
                 exact B0 (a:=1200) (b:=1200) (HPN1.out en henG) (HPD1.out (G-en) (by omega)))
                obtain ⟨sS,aS,nS,cS,fq0,fq1,HSS,hxS⟩:=hst.2.2.2.at hij;obtain ⟨sP,aP,nP,cP,gq0,gq1,HSP,hxP⟩:=hPw.at (i:=en) (by omega);rw [if_neg (Nat.lt_irrefl i),hz0] at HSS hxS;clear HFi0 hZE hZB hz0 hmem hex;generalize htk:l.getD i ([],0)=t at hrow h6 HEV;clear htk hrc;obtain ⟨te,tq⟩:=t;obtain ⟨y0,y1,y2,y3,y4,y5,h6e⟩:=Dr h6;simp only at h6e hrow HEV;subst h6e;have hY:=Arr.new wr 111 (At [0,0,0,0,0,0] false none 0 0 none 0 0)
                go_upto_region 26 with (first
                 | (refine CZ rfl rfl AA rfl hSw hij ?_; rw [hrow])
                 | (refine Aa (vs:=At [y0,y1,y2,y3,y4,y5] s8 a8 n8 c8 b8 m8 d8) rfl rfl rfl rfl rfl AA hY rfl Bk ?_; intro w8 hB8 hg8))
                have hE8:Ext wr w8:=((Ext.refl wr).alloc _).grownR hg8 (lrf _);have e0v:w8.cell? ⟨wr.heap.size,v,none⟩=some (.int .i64 (en:Int)):=by
                 rw [hB8.cell (i:=v) (by simp [At,An,Ab]; omega),P3 rfl (by omega),HEV.out]
                have f0:=hE8.cell fq0;have f1:=hE8.cell fq1;have g0:=hE8.cell gq0;have g1:=hE8.cell gq1;have hst8:=hst.ext hE8;have hBx8:=hBx.ext hE8;have hPw8:=hPw.ext hE8;have hxS8:=hxS.ext hE8;have hxP8:=hxP.ext hE8;have HML:=fun (wx:World) (hC:Ext w8 wx)=>qh (CB (v := .agg #[.bool sS, .slice aS nS cS]) (z:=z0) ⟨sS,aS,nS,cS,rfl,HSS,hxS8.ext hC⟩ (v' := .agg #[.bool sP, .slice aP nP cP]) (y:=Pl.pwz xq G en) ⟨sP,aP,nP,cP,rfl,HSP,hxP8.ext hC⟩ HZB.out (Ag HPB.out (by omega)) (Or.inr (Ag HPB.out (by omega))));clear hY hg8 hrow hSw hB8 h6 HEV fq0 fq1 gq0 gq1 hst hBx hPw hxS hxP hE8
                generalize wr.heap.size=Y at *
                have HF2:=fun (wx:World) (hC:Ext w8 wx)=>qh (And.intro (hC.cell f0) (And.intro (hC.cell f1) (And.intro (hC.cell g0) (And.intro (hC.cell g1) (hC.cell e0v)))))
                refine Af (by kernel_rfl) (fun wx=>Ext w8 wx)
                 [he (.slice (some ⟨S,0,none⟩) j j),
 he (.int .i64 (i:Int)),
 he (.slice (some ⟨S,0,none⟩) j j),
 he (.int .i64 (i:Int)),
 he (.pointer (some ⟨S,(i*2),none⟩)),
 he (.agg #[.bool sS, .slice aS nS cS]),
 he (.slice (some ⟨P,0,none⟩) (G+1) (G+1)),
 he (.int .i64 (v:Int)),
 he (.pointer (some ⟨Y,0,none⟩)),
 he (.pointer (some ⟨Y,v,none⟩)),
 he (.int .i64 (en:Int)),
 he (.pointer (some ⟨P,(en*2),none⟩)),
 he (.agg #[.bool sP, .slice aP nP cP]),
 hp (fun v wx=>NI (z0*Pl.pwz xq G en) v wx)]
                 (by kernel_rfl) (fun _ _ e h=>h.trans e) ((Ext.refl w8).drew) ⟨trivial,trivial,trivial,trivial,trivial,trivial,trivial,trivial,trivial,trivial,trivial,trivial,trivial,NI.x _,trivial⟩ ⟨?o0, ?o1, ?o2, ?o3, ?o4, ?o5, ?o6, ?o7, ?o8, ?o9, ?o10, ?o11, ?o12, ?o13,trivial⟩ ?fin
                case o0=>exact omv rfl rfl (fun _ _=>id)
                case o1=>exact omv rfl rfl (fun _ _=>id)
                case o2=>exact omv rfl rfl (fun _ _=>id)
                case o3=>exact omv rfl rfl (fun _ _=>id)
                case o4 =>
                 refine AB rfl fun ρ wx hC hcst h => ?_;have e0:ρ (.tmp 95)=(.slice (some ⟨S,0,none⟩) j j):=h.1;have e1:ρ (.tmp 96)=(.int .i64 (i:Int)):=h.2.1;obtain ⟨kf0,kf1,kg0,kg1,ke⟩:=(HF2 wx hC).out;go_simp
                 try (first | (intros; omega) | exact IntWalk.i64_in _ (by omega))
                case o5=>exact ol2 rfl rfl (fun _ _=>id) ⟨by kernel_rfl,by kernel_rfl⟩ (by assumption) (by assumption)
                case o6=>exact omv rfl rfl (fun _ _=>id)
                case o7=>exact omv rfl rfl (fun _ _=>id)
                case o8=>exact ofa (d:=0) rfl rfl (fun _ _=>id) (by kernel_rfl) rfl
                case o9 =>
                 refine AB rfl fun ρ wx hC hcst h => ?_;have e0:ρ (.tmp 101)=(.pointer (some ⟨Y,0,none⟩)):=h.1;have e1:ρ (.tmp 100)=(.int .i64 (v:Int)):=h.2.1;obtain ⟨kf0,kf1,kg0,kg1,ke⟩:=(HF2 wx hC).out;go_simp
                 try (first | (intros; omega) | exact IntWalk.i64_in _ (by omega))
                case o10=>exact ol rfl rfl (fun _ _=>id) (by kernel_rfl) (by assumption)
                case o11 =>
                 refine AB rfl fun ρ wx hC hcst h => ?_;have e0:ρ (.tmp 99)=(.slice (some ⟨P,0,none⟩) (G+1) (G+1)):=h.1;have e1:ρ (.tmp 103)=(.int .i64 (en:Int)):=h.2.1;obtain ⟨kf0,kf1,kg0,kg1,ke⟩:=(HF2 wx hC).out;go_simp
                 try (first | (intros; omega) | exact IntWalk.i64_in _ (by omega))
                case o12=>exact ol2 rfl rfl (fun _ _=>id) ⟨by kernel_rfl,by kernel_rfl⟩ (by assumption) (by assumption)
                case o13 =>
                 refine Aj rfl fun ρ wx hC hcst hfn h => ?_;have e1:ρ (.tmp 98)=(.agg #[.bool sS, .slice aS nS cS]):=h.2.1;have e2:ρ (.tmp 105)=(.agg #[.bool sP, .slice aP nP cP]):=h.2.2.1;obtain ⟨kf0,kf1,kg0,kg1,ke⟩:=(HF2 wx hC).out;refine ⟨98,#[.agg #[.bool sS, .slice aS nS cS], .agg #[.bool sP, .slice aP nP cP]],by go_simp,((HML wx hC).out).mono ?_⟩;rintro e w' ⟨s',a',n',c',rfl,hE',hs',hn'⟩;exact ⟨_,rfl,hE',s',a',n',c',rfl,hs',hn'⟩
                case fin =>
                 intro wx hC;rintro _ ⟨s106,a106,n106,c106,rfl,HS106,hx106⟩;change wpList _ _ _ _ _ _;simp only [List.length_cons,List.length_nil,List.drop_succ_cons,List.drop_zero,Act.put,List.setIfInBounds_toArray,List.set_cons_succ,List.set_cons_zero];have hFx:=hst8.2.2.2.ext hC;have hlt':(i:Int)<(j:Int):=by omega
                 have hl9:(Ab s106 a106 n106 c106).toArray=#[.bool s106, .slice a106 n106 c106]:=rfl
                 go_wp2_with (refine Mt (z:=z0*Pl.pwz xq G en) rfl rfl rfl rfl rfl hFx hij HS106 hx106 ?_; intro w10 hF10 hg10)
                 go_roundw
                 case rel =>
                  have hUx:=hFx.noU;have hstx:=hst8.ext hC;exact ⟨i+1,by go_num,by omega,⟨hstx.1.grownR hg10 (by omega),hstx.2.1.kept hg10 (by simp; omega),hstx.2.2.1.kept hUx hg10 (by omega),hF10.congr (fun m _=>HFi.out m)⟩,(hBx8.ext hC).kept hg10 (by simp; omega),(hPw8.ext hC).kept hUx hg10 (by omega)⟩
                 case measure=>simp [intOf]; omega
              · have hij2:i=j:=by omega
                subst hij2;obtain ⟨sd,ad,nd,cd,db0,db1,HSd,hxd⟩:=hst.2.2.1.at
                have dx0:=hBx.c 0 rfl;have dx1:=hBx.c 1 rfl;have dx2:=hBx.c 2 rfl;have dx3:=hBx.c 3 rfl;have hRx:=HXC.ext hst.1;have HDn:=fun (wx:World) (hC:Ext wr wx)=>qh (GU (v := .agg #[.bool sx, .slice ax nx cx, .bool false, .slice bx mx dx]) (q:=xq) ⟨An sx ax nx cx false bx mx dx,rfl,hRx.ext hC⟩);have HPV:=fun (wx:World) (x1:Value) (h1:Ax wx x1 (xq.den:Int))=>qh (Me (e:=G) h1 HNB2.out (by omega) (Ag (HPD1.out G (lrf _)) (by omega)));have hdvb:Pl.dev d0 (Pl.grt l) pt v<P2 9600:=by
                 have h1:=HB.out.de v (by rw [HLP.out]; omega)
                 rwa [HD0.out] at h1
                have hDV:((Pl.dev d0 (Pl.grt l) pt (v+1):Nat):Int)=(Pl.dev d0 (Pl.grt l) pt v:Int)*(xq.den:Int)^G:=by
                 show ((Pl.dev d0 (Pl.grt l) pt v*(pt.getD v 0).den^(Pl.grt l v):Nat):Int)=_;rw [HQV.out,HGE.out,Int.natCast_mul,Int.natCast_pow]
                obtain ⟨dv,hdv⟩:∃ d,Pl.dev d0 (Pl.grt l) pt v=d:=⟨_,rfl⟩;rw [hdv] at hdvb hDV HSd hxd hst;have HDV:=qh hDV;have HDB:=qh hdvb;have HML:=fun (wx:World) (hC:Ext wr wx) (x2:Value) (h2:Ax wx x2 ((xq.den:Int)^G))=>qh (CB (v := .agg #[.bool sd, .slice ad nd cd]) (z:=(dv:Int)) ⟨sd,ad,nd,cd,rfl,HSd,hxd.ext hC⟩ h2 HDB.out (by rw [EP]; exact Ag (HPD1.out G (lrf _)) (by omega)) (Or.inr (by rw [EP]; exact Ag (HPD1.out G (lrf _)) (by omega))));have hcv1:IntKind.u64.wrap (G:Int)=(G:Int):=IntWalk.u64_in _ (by omega);clear hDV hdvb hRx hBx hPw hi hij
                go_wp2;have HF3:=fun (wx:World) (hC:Ext wr wx)=>qh (And.intro (hC.cell db0) (And.intro (hC.cell db1) (And.intro (hC.cell dx0) (And.intro (hC.cell dx1) (And.intro (hC.cell dx2) (hC.cell dx3))))))
                refine Af (by kernel_rfl) (fun wx=>Ext wr wx)
                 [he (.agg #[.bool sd, .slice ad nd cd]),
 he (.agg #[.bool sx, .slice ax nx cx, .bool false, .slice bx mx dx]),
 hp (fun v wx=>NI ((xq.den:Int)) v wx),
 he (.int .i64 (G:Int)),
 he (.int .u64 (G:Int)),
 hp (fun v wx=>NI ((xq.den:Int)^G) v wx),
 hp (fun v wx=>NI ((dv:Int)*(xq.den:Int)^G) v wx)]
                 (by kernel_rfl) (fun _ _ e h=>h.trans e) ((Ext.refl wr).drew) ⟨trivial,trivial,NI.x _,trivial,trivial,NI.x _,NI.x _,trivial⟩ ⟨?o0, ?o1, ?o2, ?o3, ?o4, ?o5, ?o6,trivial⟩ ?fin
                case o0=>exact ol2 rfl rfl (fun _ _=>id) ⟨by kernel_rfl,by kernel_rfl⟩ (by assumption) (by assumption)
                case o1=>exact ol4 rfl rfl (fun _ _=>id) ⟨by kernel_rfl,by kernel_rfl⟩ (by assumption) (by assumption) (by assumption) (by assumption)
                case o2 =>
                 refine Aj rfl fun ρ wx hC hcst hfn h => ?_;have e1:ρ (.tmp 110)=(.agg #[.bool sx, .slice ax nx cx, .bool false, .slice bx mx dx]):=h.2.1;obtain ⟨kb0,kb1,kd0,kd1,kd2,kd3⟩:=(HF3 wx hC).out;refine ⟨99,#[.agg #[.bool sx, .slice ax nx cx, .bool false, .slice bx mx dx]],by go_simp,((HDn wx hC).out).mono ?_⟩;rintro e w' ⟨s',a',n',c',rfl,hE',hs',hn'⟩;exact ⟨_,rfl,hE',s',a',n',c',rfl,hs',hn'⟩
                case o3=>exact omv rfl rfl (fun _ _=>id)
                case o4 =>
                 refine AB rfl fun ρ wx hC hcst h => ?_;have e0:ρ (.tmp 112)=(.int .i64 (G:Int)):=h.1;obtain ⟨kb0,kb1,kd0,kd1,kd2,kd3⟩:=(HF3 wx hC).out;go_simp
                case o5 =>
                 refine Aj rfl fun ρ wx hC hcst hfn h => ?_;obtain ⟨v1,e1,s1,a1,n1,c1,rfl,i1,j1⟩:=h.2.1;have e2:ρ (.tmp 113)=(.int .u64 (G:Int)):=h.2.2.1;obtain ⟨kb0,kb1,kd0,kd1,kd2,kd3⟩:=(HF3 wx hC).out;refine ⟨97,#[.agg (Ab s1 a1 n1 c1).toArray, .int .u64 (G:Int)],by go_simp,((HPV wx _ ⟨s1,a1,n1,c1,rfl,i1,j1⟩).out).mono ?_⟩;rintro e w' ⟨s',a',n',c',rfl,hE',hs',hn'⟩;exact ⟨_,rfl,hE',s',a',n',c',rfl,hs',hn'⟩
                case o6 =>
                 refine Aj rfl fun ρ wx hC hcst hfn h => ?_;have e1:ρ (.tmp 109)=(.agg #[.bool sd, .slice ad nd cd]):=h.2.1;obtain ⟨v2,e2,s2,a2,n2,c2,rfl,i2,j2⟩:=h.2.2.1;obtain ⟨kb0,kb1,kd0,kd1,kd2,kd3⟩:=(HF3 wx hC).out;refine ⟨98,#[.agg #[.bool sd, .slice ad nd cd], .agg (Ab s2 a2 n2 c2).toArray],by go_simp,((HML wx hC _ ⟨s2,a2,n2,c2,rfl,i2,j2⟩).out).mono ?_⟩;rintro e w' ⟨s',a',n',c',rfl,hE',hs',hn'⟩;exact ⟨_,rfl,hE',s',a',n',c',rfl,hs',hn'⟩
                case fin =>
                 intro wx hC;rintro _ ⟨s111,a111,n111,c111,rfl,HS111,hx111⟩;rintro _ ⟨s114,a114,n114,c114,rfl,HS114,hx114⟩;rintro _ ⟨s115,a115,n115,c115,rfl,HS115,hx115⟩;change wpList _ _ _ _ _ _;simp only [List.length_cons,List.length_nil,List.drop_succ_cons,List.drop_zero,Act.put,List.setIfInBounds_toArray,List.set_cons_succ,List.set_cons_zero];have hDx:=hst.2.2.1.ext hC;have hl9:(Ab s115 a115 n115 c115).toArray=#[.bool s115, .slice a115 n115 c115]:=rfl
                 go_wp2_with (refine P0 (z:=(dv:Int)*(xq.den:Int)^G) rfl rfl rfl rfl rfl hDx HS115 hx115 ?_; intro w11 hD11 hg11)
                 go_roundw
                 case rel =>
                  have hUx:=hDx.noU;have hstx:=hst.ext hC;refine ⟨v+1,by go_num,by omega,hstx.1.grownR hg11 (by omega),hstx.2.1.kept hg11 (by simp; omega), ?_, ?_⟩
                  · rw [HDV.out]; exact hD11
                  · exact (hstx.2.2.2.kept hUx hg11 (by omega)).congr (fun m hm=>(if_pos hm).symm)
                 case measure=>simp [intOf]; omega
     · have hvM2:v=M:=by omega
       subst hvM2;have hSm0:=(Ck.new (Arr.new wr 149 (Jw none 0 0 none 0 0)) (lrf _)).le (Nat.zero_le 300);have hE0s:=(Ext.refl wr).alloc (.cells (Jw none 0 0 none 0 0).toArray 149);have hsl:(Jw none 0 0 none 0 0).toArray=#[.slice none 0 0, .slice none 0 0]:=rfl;rw [hsl] at hSm0 hE0s;obtain ⟨wo3,rfl⟩:∃ x,x=wr:=⟨_,rfl⟩
       go_upto_region 31 with (fail)
       have hP3:wo3.heap.size≤(wo3.alloc (.cells #[.slice none 0 0, .slice none 0 0] 149)).heap.size:=hE0s.size;generalize wo3.alloc (.cells #[.slice none 0 0, .slice none 0 0] 149)=w12 at *
       have hdvb:Pl.dev d0 (Pl.grt l) pt v<P2 9600:=by
        have h1:=HB.out.de v (by rw [HLP.out]; exact lrf _)
        rwa [HD0.out] at h1
       have hFB:∀ i,i<k→(Pl.zev d0 (Pl.grt l) pt (l.getD i ([],0)) v).natAbs<P2 9600:=fun i hi=>by
        have h1:=HB.out.ze (l.getD i ([],0)) (by simp [HLN.out,hi]) v (by rw [HLP.out]; exact lrf _)
        rwa [HD0.out] at h1
       have hZS:∀ i,i<k→Pl.zsum (fun t=>Pl.zev d0 (Pl.grt l) pt t v) (l.take (i+1))=Pl.zsum (fun t=>Pl.zev d0 (Pl.grt l) pt t v) (l.take i)+Pl.zev d0 (Pl.grt l) pt (l.getD i ([],0)) v:=fun i hi=>Pl.zsum_take _ l i (by rw [HLN.out]; exact hi);have hZT:(Pl.zsum (fun t=>Pl.zev d0 (Pl.grt l) pt t v) (l.take k)).natAbs<P2 9600:=by
        rw [List.take_of_length_le (by rw [HLN.out]; exact lrf _)];have h1:=HB.out.su
        rwa [HD0.out,HLP.out] at h1
       have hEVQ:mkRat (Pl.zsum (fun t=>Pl.zev d0 (Pl.grt l) pt t v) (l.take k)) (Pl.dev d0 (Pl.grt l) pt v)=Pl.evq pt l:=by
        rw [List.take_of_length_le (by rw [HLN.out]; exact lrf _)];have h1:=Pl.ev_done (d:=Cv (l.map (·.2))) (pt:=pt) (l:=l) (Nat.ne_of_gt (Fn _)) (fun t ht=>Ke (List.mem_map_of_mem ht))
        rwa [HD0.out,HLP.out] at h1
       have hd0:Pl.dev d0 (Pl.grt l) pt v≠0:=Pl.dev_ne (by rw [←HD0.out]; exact Nat.ne_of_gt (Fn _)) v;have hZ0:Pl.zsum (fun t=>Pl.zev d0 (Pl.grt l) pt t v) (l.take 0)=0:=rfl;obtain ⟨ZS,hZSe⟩:∃ f:Nat→Int,∀ i,f i=Pl.zsum (fun t=>Pl.zev d0 (Pl.grt l) pt t v) (l.take i):=⟨_,fun _=>rfl⟩;obtain ⟨FI,hFI⟩:∃ f:Nat→Int,∀ i,f i=Pl.zev d0 (Pl.grt l) pt (l.getD i ([],0)) v:=⟨_,fun _=>rfl⟩;obtain ⟨dv,hdv⟩:∃ d,Pl.dev d0 (Pl.grt l) pt v=d:=⟨_,rfl⟩;simp only [←hZSe,←hFI] at hFB hZS hZT hEVQ hZ0;rw [hdv] at hdvb hEVQ hd0 hst
       have hst:=(⟨hst.1,hst.2.1,hst.2.2.1,hst.2.2.2.congr (fun i _=>hFI i)⟩:EvS w R DB S k FI (dv:Int) wo3);have HFB:=qh hFB;have HZS:=qh hZS;have HZT:=qh hZT;have HEVQ:=qh hEVQ;have HDVB:=qh hdvb;have HD00:=qh hd0;rw [←hZ0] at hSm0;have hszo:=hst.1.size;obtain ⟨p,hpe⟩:∃ x,wo3.heap.size=x:=⟨_,rfl⟩;rw [hpe] at hSm0 hszo hP3 ⊢;clear hFB hZS hZT hEVQ hdvb hd0 hZ0 hZSe hFI hdv hsl;go_wp2
       go_loopw [119] (fun iv wq=>∃ (i:Nat) (qa qb:Option Nat),iv = .int .i64 i∧i≤k∧Ext wo3 wq∧Ck wq p p qa qb (300+40*i) (ZS i)) (fun iv _=>k-(intOf iv).toNat)
       case atStart=>exact ⟨0,none,none,rfl,Nat.zero_le _,hE0s,hSm0⟩
       case round =>
        clear hSm0 hE0s;obtain ⟨i,qa,qb,rfl,hi,hE,hSm⟩:=hrel;by_cases hik:i<k
        · have hIO:=hst.2.2.2;obtain ⟨sn,an,nn,cn,n0,n1,HSn,hxn⟩:=(hIO.ext hE).at hik;obtain ⟨_,_,_,_,_,m1,_,hxn0⟩:=hIO.at hik;have hsz2:=hE.size;have hpl:=hSm.lt;have m1':=hE.cell m1;rw [n1] at m1';simp only [Option.some.injEq,Value.slice.injEq] at m1';obtain ⟨rfl,rfl,rfl⟩:=m1'
          have HSRC:Hid (∀ (w':World),w'.heap.size=w'.heap.size→H3 (fun g=>qa≠some g∧qb≠some g) (.agg (Ab sn an nn cn).toArray)):=qh (fun _ _=>I4 (fun h0 g hg=>by
           have h1:=hxn0.blt h0 hg;refine ⟨fun h => ?_,fun h => ?_⟩
           · have:=(hpl.2.1 _ h).1; omega
           · have:=(hpl.2.2 _ h).1; omega))
          have hY:=Arr.new wr 90 (Ab false none 0 0);have hln:(Ab sn an nn cn).toArray=#[.bool sn, .slice an nn cn]:=rfl;have hki:(i:Int)<(k:Int):=by omega
          clear m1 hxn0
          go_upto_region 34 with (refine Aa (vs:=Ab sn an nn cn) rfl rfl rfl rfl rfl Ad hY rfl (Ai _ _ _ _) ?_; intro w13 hB13 hg13)
          have hE13:Ext wr w13:=((Ext.refl wr).alloc _).grownR hg13 (lrf _);have hxn13:=hxn.ext hE13;have hSm13:=hSm.ext hE13;have HADD:=qh (TL hSm13 (v := .agg #[.bool sn, .slice an nn cn]) (x:=FI i) ⟨sn,an,nn,cn,rfl,HSn,hxn13⟩ (HSRC.out w13 rfl) (HFB.out i hik) (by omega) (by have:=hE13.size; omega));obtain ⟨Y,hYe⟩:∃ x,wr.heap.size=x:=⟨_,rfl⟩;rw [hYe] at hB13 ⊢;have b0:=hB13.c 0 rfl;have b1:=hB13.c 1 rfl;have hEo:=hE.trans hE13;clear hY hg13 hln n0 n1 hxn hxn13 hSm hE hYe
          go_wp2_with fail
          refine HADD.out.mono ?_;rintro e w14 ⟨rfl,qa',qb',hS14,hK14,ha14,hb14⟩;have hpl13:=hSm13.lt;go_wp2;go_roundw
          case rel =>
           refine ⟨i+1,qa',qb',by go_num,by omega,hK14.ext hEo (fun b hb => ?_), ?_⟩
           · rcases hb with rfl|hb|hb
             · omega
             · have:=(hpl13.2.1 _ hb).1; omega
             · have:=(hpl13.2.2 _ hb).1; omega
           · rw [HZS.out i hik];exact hS14.le (by omega)
          case measure=>simp [intOf]; omega
        · have HIK:=qh (show i=k by omega);rw [HIK.out] at hSm;obtain ⟨sd,ad,nd,cd,db0,db1,HSd,hxd⟩:=(hst.2.2.1.ext hE).at
          have hEw:=hst.1.trans hE;have HVL:=fun (wx:World) (hC:Ext wr wx)=>qh (Qz (hSm.ext hC) (by omega));have HFR:=fun (wx:World) (hC:Ext wr wx) (x1:Value) (h1:Ax wx x1 (ZS k))=>qh (Mk ((hT.ext hEw).ext hC) h1 (v' := .agg #[.bool sd, .slice ad nd cd]) (k:=dv) ⟨sd,ad,nd,cd,rfl,HSd,hxd.ext hC⟩ HZT.out HDVB.out HD00.out);rw [HEVQ.out] at HFR;obtain ⟨zt,hzt⟩:∃ z,ZS k=z:=⟨_,rfl⟩;rw [hzt] at HVL HFR;clear hzt hSm;go_wp2;have HF4:=fun (wx:World) (hC:Ext wr wx)=>qh (And.intro (hC.cell db0) (hC.cell db1))
          refine Af (by kernel_rfl) (fun wx=>Ext wr wx)
           [hp (fun v wx=>NI (zt) v wx),
 he (.agg #[.bool sd, .slice ad nd cd]),
 hp (fun v wx=>NR (Pl.evq pt l) v wx)]
           (by kernel_rfl) (fun _ _ e h=>h.trans e) ((Ext.refl wr).drew) ⟨NI.x _,trivial,NR.x _,trivial⟩ ⟨?o0, ?o1, ?o2,trivial⟩ ?fin
          case o0 =>
           refine Aj rfl fun ρ wx hC hcst hfn h => ?_;have e1:ρ (.tmp 18)=(.pointer (some ⟨p,0,none⟩)):=h.2.1;obtain ⟨kb0,kb1⟩:=(HF4 wx hC).out;refine ⟨102,#[.pointer (some ⟨p,0,none⟩)],by go_simp,((HVL wx hC).out).mono ?_⟩;rintro e w' ⟨s',a',n',c',rfl,hE',hs',hn'⟩;exact ⟨_,rfl,hE',s',a',n',c',rfl,hs',hn'⟩
          case o1=>exact ol2 rfl rfl (fun _ _=>id) ⟨by kernel_rfl,by kernel_rfl⟩ (by assumption) (by assumption)
          case o2 =>
           refine Aj rfl fun ρ wx hC hcst hfn h => ?_;obtain ⟨v1,e1,s1,a1,n1,c1,rfl,i1,j1⟩:=h.2.1;have e2:ρ (.tmp 127)=(.agg #[.bool sd, .slice ad nd cd]):=h.2.2.1;obtain ⟨kb0,kb1⟩:=(HF4 wx hC).out;refine ⟨101,#[.agg (Ab s1 a1 n1 c1).toArray, .agg #[.bool sd, .slice ad nd cd]],by go_simp,((HFR wx hC _ ⟨s1,a1,n1,c1,rfl,i1,j1⟩).out).mono ?_⟩;rintro e w' ⟨cs,rfl,hE',hr'⟩;exact ⟨_,rfl,hE',cs,rfl,hr'⟩
          case fin =>
           intro wx hC;rintro _ ⟨s126,a126,n126,c126,rfl,HS126,hx126⟩;rintro _ ⟨_,rfl,s9,a9,n9,c9,b9,m9,d9,rfl,HS9,hx9,hy9⟩;change wpList _ _ _ _ _ _;simp only [List.length_cons,List.length_nil,List.drop_succ_cons,List.drop_zero,Act.put,List.setIfInBounds_toArray,List.set_cons_succ,List.set_cons_zero];have hR1:=hst.2.1.ext (hE.trans hC);have hl9:(An s9 a9 n9 c9 false b9 m9 d9).toArray=#[.bool s9, .slice a9 n9 c9, .bool false, .slice b9 m9 d9]:=rfl
           go_wp2_with (refine Aa (vs:=An s9 a9 n9 c9 false b9 m9 d9) rfl rfl rfl rfl rfl Ac hR1 rfl (Ap _ _ _ _ _ _ _ _) ?_; intro w20 hB20 hg20)
           exact bodyPost_ret (Al rfl Ac rfl hB20) rfl (Bf ((hst.1.trans hE).trans hC) hR1 (AC _ _ _ _ _ _ _ _) hg20 (by omega) HS9 hx9 hy9)
end Go.Proofs.YtlpgonpfjbhmfaaGreatDoor
