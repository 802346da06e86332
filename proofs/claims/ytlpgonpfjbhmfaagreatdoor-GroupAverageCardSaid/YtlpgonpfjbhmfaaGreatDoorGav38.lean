/- Part Gav38. -/
import Derived.Test.YtlpgonpfjbhmfaaGreatDoorGav35
import Derived.Test.YtlpgonpfjbhmfaaGreatDoorGav6
import Derived.Test.YtlpgonpfjbhmfaaGreatDoorGav28
import Derived.Test.YtlpgonpfjbhmfaaGreatDoorGav24
set_option maxRecDepth 100000
set_option maxHeartbeats 100000000
namespace Go.Proofs.YtlpgonpfjbhmfaaGreatDoor
open Tryz Go Go.RowKit
variable {s s':ByteArray} {xs:List Int} {c i n vn y:Nat} {a x:Option Addr} {P:Program} {ty ty':TypeId} {w:World}
def Ku (xs:List Int) (ts:List Tx):List Tx:=ts.map fun t=>(t.1,mvd xs t.2)
theorem Kv (xs:List Int) (ts:List Tx):(Ku xs ts).length=ts.length:=List.length_map ..
theorem Uo {ts:List Tx} (h:i<ts.length):(Ku xs ts).getD i tm0=((ts.getD i tm0).1,mvd xs (ts.getD i tm0).2):=by
 simp [Ku,h]
theorem Rm {ts:List Tx} {l:List Pl.Tm} (hr:rdP (vn:Int) ts=some l) (hp:Ar xs=true) (hl:xs.length=vn):(∀ t∈Ku xs ts,Fv vn t)∧(Ku xs ts).map Ci=C6 vn xs l:=by
 have pv:=Pv.of hr;have hn:vn≤6:=by have:=pv.v0; omega
 have hlen:=DE hr
 have key:∀ i,i<ts.length→Fv vn ((ts.getD i tm0).1,mvd xs (ts.getD i tm0).2)∧Ci ((ts.getD i tm0).1,mvd xs (ts.getD i tm0).2)=(mp vn xs (l.getD i ([],0)).1,(l.getD i ([],0)).2):=fun i hi=>by
  obtain ⟨p1,_,p3,p4,p5⟩:=BQ (Gu hr hi);have hm:l.getD i ([],0)∈l:=by
   rw [gqq,List.getElem?_eq_getElem (by omega)];exact List.getElem_mem _
  have hs:=Io hr _ hm;rw [p5,FQ] at hs;generalize ts.getD i tm0=t at *
  have h3:t.2.length=vn:=by omega
  have hpm:=Nz hp (m:=t.2) (by omega);refine ⟨⟨by rw [p1]; rfl,by show ((mvd xs t.2).length:Int)=_; rw [Bg]; exact p3,DR.2 ⟨by rw [Bg]; omega,fun x hx=>(p4 x (PW hp (by omega) hx)).1,by rw [NA hpm]; exact hs⟩⟩, ?_⟩;unfold Ci mp;rw [p1,p5];have:=Cz (l:=t.2);rw [h3] at this;rw [this];rfl
 refine ⟨fun t ht => ?_, ?_⟩
 · obtain ⟨u,hu,rfl⟩:=List.mem_map.1 ht;obtain ⟨i,hi,rfl⟩:=List.getElem_of_mem hu;have:=(key i hi).1;simpa [hi] using this
 · apply List.ext_getElem (by rw [List.length_map,Kv,Je,hlen]);intro i h1 h2;have hi:i<ts.length:=by rw [List.length_map,Kv] at h1; exact h1
   have:=(key i hi).2;simp only [gqq,List.getElem?_eq_getElem hi,List.getElem?_eq_getElem (show i<l.length by omega),Option.getD_some] at this;simp only [List.getElem_map,Ku,C6];exact this
theorem K5 (hx:SlI w a n c xs) (hn:n≤1000000) (hnil:a=none→c=0) :
 Calls prog 41 #[.slice a n c] w fun e w'=>∃ a' c',e = .returned (.slice a' n c')∧Ext w w'∧CT w' w.heap.size a' n c' xs:=by
 refine (ET hx hn hnil).mono ?_;rintro e w1 ⟨a1,n1,c1,rfl,hE,hO⟩;have h:n1=n:=by have h1:=hO.sl.len; have h2:=hx.len; omega
 subst h;exact ⟨a1,c1,rfl,hE,hO⟩
theorem Ob {cx:Nat} {ts:List Tx} {l:List Pl.Tm} (hT:A2 w) (hx:SlI w x vn cx xs) (hpm:Ar xs=true) (ha:CJ w a n c ts) (hr:rdP (vn:Int) ts=some l) (sa:∀ t∈ts,t.1.length≤570) (hok:Dv (C6 vn xs l)) :
 Calls prog 14 #[.slice x vn cx, .agg #[.int .i64 (vn:Int), .slice a n c]] w (E0 w (actA vn xs (some l))):=by
 have hlx:=hx.len;obtain ⟨hmk,hml⟩:=Rm hr hpm hlx;have hn6:vn≤6:=by have:=(Pv.of hr).v0; omega
 have hnl:n≤4096:=by have h1:=(BR hr).2.1; have h2:=ha.len; omega
 have hva:=fun (wx:World) (hC:Ext w wx)=>qh (by have h:=AW (hx.ext hC); rw [hpm] at h; exact h);have hpv:=fun (wx:World) (hC:Ext w wx)=>qh (by have h:=Gt (vars:=(vn:Int)) (hT.ext hC) (ha.ext hC) sa; rw [hr] at h; exact h);have HSA:=qh sa
 have HRT:Hid (∀ i,i<n→(ts.getD i tm0).2.length=vn):=qh fun i hi=>by
  have:=(BQ (Gu hr (i:=i) (by have:=ha.len; omega))).2.2.1;omega
 have HMK:=qh (And.intro hmk hml);have HOK:=qh hok;have HRS:Hid (actA vn xs (some l)=resQ vn (C6 vn xs l)):=qh rfl;rw [HRS.out];obtain ⟨RQ,hRQ⟩:∃ r,resQ (vn:Int) (C6 vn xs l)=r:=⟨_,rfl⟩;rw [hRQ];have HRQ:=qh hRQ;have hvn:(vn != vn)=false:=by simp
 clear hmk hml sa hok hr HRS hRQ hlx
 go_enter func14,ntmps14
 go_upto_region 1 with (fail)
 refine F0 ?_;intro w0 hE0 hB0 hB1 hz0;have p00:=hB0.c 0 rfl;have p01:=hB0.c 1 rfl;have hR:Arr w0 (w.heap.size+1) 25 (AZ 0 none 0 0):=hB1;clear hB0 hB1
 go_wp2_with fail
 refine (hva _ hE0).out.mono ?_;rintro e w1 ⟨rfl,hE1⟩;have hE01:=hE0.trans hE1;have p00':=hE1.cell p00;have p01':=hE1.cell p01
 go_wp2_with fail
 refine (hpv _ hE01).out.mono ?_;rintro e w2 ⟨rfl,hE2⟩;have hE02:=hE01.trans hE2;have hR2:=hR.ext (hE1.trans hE2);have q00:=hE2.cell p00';have q01:=hE2.cell p01';have hz2:w.heap.size+2≤w2.heap.size:=by have:=(hE1.trans hE2).size; omega
 clear p00 p01 p00' p01' hR hva hpv hE0 hE1 hE2 hz0 hE01;simp only [Option.isSome_some]
 go_upto_region 6 with (refine Fm rfl rfl (by kernel_rfl) FP rfl rfl (by omega) (by unfold maxLen; omega) ?_; intro w4 hO4 hE4)
 obtain ⟨G,hG⟩:∃ G,w2.heap.size=G:=⟨_,rfl⟩;rw [hG] at hO4 hz2 ⊢;have q00':=hE4.cell q00;have q01':=hE4.cell q01;have hO4':A3 w4 w.heap.size 60 2 (some ⟨G,0,none⟩) n n (List.replicate n (tmL ⟨#[]⟩ none 0 0)):=hO4.mono (by omega);obtain ⟨rows,hS,hlen,hq⟩:=ha;have HQ:=qh hq;have HLN:=qh hlen;clear hO4 hq hlen;go_wp2
 go_loopw [32] (fun iv wr=>∃ (k:Nat) (rs:List (List Value)),iv = .int .i64 k∧k≤n∧Ext w2 wr∧A3 wr w.heap.size 60 2 (some ⟨G,0,none⟩) n n rs∧Hid (∀ i,i<k→K3 wr w.heap.size (rs.getD i []) ((Ku xs ts).getD i tm0))) (fun iv _=>n-(intOf iv).toNat)
 case atStart=>exact ⟨0,_,rfl,Nat.zero_le _,hE4,hO4',qh (fun i hi=>absurd hi (by omega))⟩
 case round =>
  clear hO4' hE4 q00' q01';obtain ⟨k,rs,rfl,hk,hE,hO,HC⟩:=hrel;have hEw:=hE02.trans hE;by_cases hlt:k<n
  · have hSw:=hS.ext hEw;obtain ⟨bq,off,rfl,hcl⟩:=hSw.rd (by omega);obtain ⟨s,ax,nx,cx',hrow,hst,hxs⟩:=HQ.out k hlt;have hY:=Arr.new wr 60 (tmL ⟨#[]⟩ none 0 0);have hrow':rows.getD k []=tmL s ax nx cx':=hrow
    go_upto_region 9 with (first
     | (refine CZ rfl rfl Cy rfl hSw hlt ?_; rw [hrow'])
     | (refine Aa (vs:=tmL s ax nx cx') rfl rfl rfl rfl rfl Cy hY rfl (EL _ _ _ _) ?_; intro w5 hB5 hg5))
    have hE5:Ext wr w5:=((Ext.refl wr).alloc _).grownR hg5 (lrf _);obtain ⟨X,hX⟩:∃ x,wr.heap.size=x:=⟨_,rfl⟩;rw [hX] at hB5 ⊢;have HM:Hid ((Ku xs ts).getD k tm0=((ts.getD k tm0).1,mvd xs (ts.getD k tm0).2)):=qh (Uo (by rw [HLN.out]; exact hlt));have HT2:=qh (HRT.out k hlt);obtain ⟨t,HTT⟩:∃ t,Hid (ts.getD k tm0=t):=⟨_,qh rfl⟩;rw [HTT.out] at HM HT2 hst hxs;obtain ⟨t1,t2⟩:=t;simp only at HM HT2 hst hxs;have y0:=hB5.c 0 rfl;have y1:=hB5.c 1 rfl;have hEw5:=hEw.trans hE5;have hx5:=hx.ext hEw5;have hxs5:SlI w5 ax nx cx' t2:=hxs.ext hEw5
    have hnx:vn=nx:=by have h1:=hxs5.len; have h2:=HT2.out; omega
    subst hnx;have ht2:=HT2.out;have hkv:BD (Ae (mvd xs t2)) = .agg ((Ae (mvd xs t2)).map (Value.int .i64)).toArray:=rfl;have hl6:(Ae (mvd xs t2)).length=6:=AQ (by rw [Bg]; omega);clear hY hg5 hB5 hrow hrow' hcl hSw hxs
    go_wp2_with fail
    refine (CR hxs5 hn6).mono ?_;rintro e w6 ⟨rfl,hE6⟩
    go_wp2_with fail
    refine (Gx (hx5.ext hE6) hpm ht2).mono ?_;rintro e w7 ⟨rfl,hE7⟩;rw [hkv];have hA7:=Arr.new w7 70 As;have hAg:Agg prog 70 ((Ae (mvd xs t2)).map (Value.int .i64)).length:=by rw [List.length_map,hl6]; exact CW
    have hz6:As.length=((Ae (mvd xs t2)).map (Value.int .i64)).length:=by rw [List.length_map,hl6]; rfl
    have HL6:=qh hl6;clear hl6
    go_upto_region 10 with (refine Aa (vs:=(Ae (mvd xs t2)).map (Value.int .i64)) rfl rfl rfl rfl rfl hAg hA7 hz6 (A6 _) ?_; intro w8 hB8 hg8)
    obtain ⟨Y,hYY⟩:∃ y,w7.heap.size=y:=⟨_,rfl⟩;rw [hYY] at hB8 ⊢;have hE8:Ext w7 w8:=((Ext.refl w7).alloc _).grownR hg8 (lrf _);have h58:=(hE6.trans hE7).trans hE8;have hr8:=hE5.trans h58;have hE28:=hE.trans hr8;have h28:=hE02.trans hE28;have hO8:=hO.ext hr8;have HC8:Hid (∀ i,i<k→K3 w8 w.heap.size (rs.getD i []) ((Ku xs ts).getD i tm0)):=qh fun i hi=>(HC.out i hi).ext hr8;have HRL:=qh (hO8.len (by omega));have HST:=qh hst;replace y0:=h58.cell y0;replace y1:=h58.cell y1;have q0:=hE28.cell q00;have q1:=hE28.cell q01;have hsl8:SlI w8 (some ⟨Y,0,none⟩) vn 6 (mvd xs t2):=by
     have h1:=hB8.sl (k:=vn) (by rw [List.length_map,HL6.out]; exact hn6) (by rw [List.length_map,HL6.out]; unfold maxLen; decide);rw [List.length_map,HL6.out,←List.map_take] at h1;have h2:=Cz (l:=mvd xs t2);rw [Bg,ht2] at h2;rw [h2] at h1;exact h1
    have hclo:=fun (wx:World) (hC:Ext w8 wx)=>qh (K5 (hsl8.ext hC) (by omega) (by simp));have hsa:=fun wx:World=>Ec (P:=prog) (w:=wx) (g:=Y) Br.arr Bz hn6;clear hA7 hAg hz6 hB8 hg8 hE8 hE7 hE6 hE5 h58 hr8 hx5 hxs5 hsl8 hst HC hO hkv;go_wp2;have HF1:=fun (wx:World) (hC:Ext w8 wx)=>qh (And.intro (hC.cell y0) (And.intro (hC.cell y1) (And.intro (hC.cell q0) (hC.cell q1))))
    refine Af (by kernel_rfl) (fun wx=>Ext w8 wx)
     [he (.slice (some ⟨G,0,none⟩) n n),
 he (.int .i64 k),
 he (.pointer (some ⟨X,0,none⟩)),
 he (.string s),
 he (.pointer (some ⟨w.heap.size,0,none⟩)),
 he (.int .i64 (vn:Int)),
 he (.slice (some ⟨Y,0,none⟩) vn 6),
 hp (fun v wx=>∃ a4 c4,v = .slice a4 vn c4∧Own wx w8.heap.size 3 a4 vn c4 ((mvd xs t2).map (Value.int .i64))),
 hp (fun v wx=>∃ a4 c4,v = .agg #[.string s, .slice a4 vn c4]∧Own wx w8.heap.size 3 a4 vn c4 ((mvd xs t2).map (Value.int .i64)))]
     (by kernel_rfl) (fun _ _ e h=>h.trans e) ((Ext.refl w8).drew) ⟨trivial,trivial,trivial,trivial,trivial,trivial,trivial,fun v w w' e h=>by obtain ⟨a4,c4,h1,h2⟩:=h; exact ⟨a4,c4,h1,h2.ext e⟩,fun v w w' e h=>by obtain ⟨a4,c4,h1,h2⟩:=h; exact ⟨a4,c4,h1,h2.ext e⟩,trivial⟩ ⟨?o0, ?o1, ?o2, ?o3, ?o4, ?o5, ?o6, ?o7, ?o8,trivial⟩ ?fin
    case o0=>exact omv rfl rfl (fun _ _=>id)
    case o1=>exact omv rfl rfl (fun _ _=>id)
    case o2=>exact ofa (d:=0) rfl rfl (fun _ _=>id) (by kernel_rfl) rfl
    case o3=>exact ol rfl rfl (fun _ _=>id) (by kernel_rfl) (by assumption)
    case o4=>exact ofa (d:=0) rfl rfl (fun _ _=>id) (by kernel_rfl) rfl
    case o5=>exact ol rfl rfl (fun _ _=>id) (by kernel_rfl) (by assumption)
    case o6 =>
     refine AB rfl fun ρ wx hC hcst h => ?_;have e0:ρ (.tmp 9)=(.pointer (some ⟨Y,0,none⟩)):=h.1;have e1:ρ (.tmp 47)=(.int .i64 (vn:Int)):=h.2.1;have k4:=hsa wx;go_simp
    case o7 =>
     refine Aj rfl fun ρ wx hC hcst hfn h => ?_;have e1:ρ (.tmp 48)=(.slice (some ⟨Y,0,none⟩) vn 6):=h.2.1;obtain ⟨k0,k1,k2,k3⟩:=(HF1 wx hC).out;refine ⟨41,#[.slice (some ⟨Y,0,none⟩) vn 6],by go_simp,((hclo wx hC).out).mono ?_⟩;rintro e w' ⟨a4,c4,rfl,hE',hO'⟩;exact ⟨_,rfl,hE',a4,c4,rfl,hO'.mono hC.size⟩
    case o8 =>
     refine Bc rfl ?_;intro ρ wx hp hC h;have hcst:=hp.const;have hfn:=hp.func;have e0:ρ (.tmp 45)=(.string s):=h.1;obtain ⟨v1,e1,a1,c1,rfl,i1⟩:=h.2.1;obtain ⟨k0,k1,k2,k3⟩:=(HF1 wx hC).out;exact ⟨_,wx,by go_simp,Ext.refl _,_,_,rfl,i1⟩
    case fin =>
     intro wx hC;rintro _ ⟨_,_,rfl,_⟩;rintro _ ⟨a7,c7,rfl,hO7⟩;change wpList _ _ _ _ _ _;simp only [List.length_cons,List.length_nil,List.drop_succ_cons,List.drop_zero,Act.put,List.setIfInBounds_toArray,List.set_cons_succ,List.set_cons_zero];have hOx:=hO8.ext hC;have hlt':(k:Int)<n:=by omega
     have hl9:(tmL s a7 vn c7).toArray=#[.string s, .slice a7 vn c7]:=rfl
     go_wp2_with (refine JV (vs:=tmL s a7 vn c7) rfl rfl (by omega) Cy rfl rfl rfl hOx hlt rfl (EL _ _ _ _) ?_; intro w10 hO10 hg10)
     go_roundw
     case rel =>
      have hEx:Own wx w.heap.size 3 a7 vn c7 ((mvd xs t2).map (Value.int .i64)):=hO7.mono (by have:=h28.size; omega);refine ⟨k+1,_,by go_num,by omega,(hE28.trans hC).grownR hg10 (Nat.le_of_eq hG),hO10,qh fun i hi => ?_⟩;by_cases hik:i=k
      · subst hik;rw [HM.out,gqq,List.getElem?_set_self (by rw [HRL.out]; exact hlt)];exact ⟨_,_,vn,c7,rfl,HST.out,hEx.kept hg10 (Or.inr (Dn hEx hOx (by decide)))⟩
      · rw [gqq,List.getElem?_set_ne (by omega),←gqq];obtain ⟨s9,a9,n9,c9,e1,e2,e3⟩:=(HC8.out i (by omega)).ext hC;exact ⟨s9,a9,n9,c9,e1,e2,e3.kept hg10 (Or.inr (Dn e3 hOx (by decide)))⟩
     case measure=>simp [intOf]; omega
  · have hkn:n=k:=by omega
    subst hkn;have hTO:TmO wr w.heap.size (some ⟨G,0,none⟩) n n (Ku xs ts):=⟨rs,hO,by rw [Kv]; exact HLN.out,HC.out⟩;have htx:∀ t∈Ku xs ts,t.1.length≤570:=by
     rintro t ht;obtain ⟨u,hu,rfl⟩:=List.mem_map.1 ht;exact HSA.out u hu
    have hmake:=qh (Lx (vars:=(vn:Int)) (hT.ext hEw) hTO.sl htx (by omega) (fun _ _ _=>by rw [HMK.out.2]; exact HOK.out));have q0:=hE.cell q00;have q1:=hE.cell q01;clear hTO htx hO HC
    go_wp2_with fail
    refine hmake.out.mono ?_;rintro e w5 hq5;have h3:E0 wr RQ e w5:=by
     rcases hq5 with ⟨h1,_⟩|⟨_,_,h1,_⟩|⟨_,_,_,h1⟩
     · exact absurd ⟨by omega,by omega⟩ h1
     · exact absurd HMK.out.1 h1
     · rw [HMK.out.2,HRQ.out] at h1;exact h1
    obtain ⟨a7,n7,c7,rfl,hE7,hO7⟩:=h3;have hR7:=hR2.ext (hE.trans hE7);have hpv:Kb RQ.1 a7 n7 c7 = .agg #[.int .i64 RQ.1, .slice a7 n7 c7]:=rfl;rw [hpv];have hpl:(AZ RQ.1 a7 n7 c7).toArray=#[.int .i64 RQ.1, .slice a7 n7 c7]:=rfl;clear hmake
    go_wp2_with (refine Aa (vs:=AZ RQ.1 a7 n7 c7) rfl rfl rfl rfl rfl AK hR7 rfl (Bn _ _ _ _) ?_; intro w9 hB9 hg9)
    refine bodyPost_ret (AH rfl AK rfl rfl hB9) rfl ?_;exact Kh hEw hE7 hO7 hR7 hg9 (by omega)
theorem O6 (s:ByteArray) (k:Nat) (h:k<s.size):(Am s).take (k+1)=(Am s).take k ++ [s[k]]:=by
 unfold Am;rw [List.take_succ_eq_append_getElem (by simpa using h)];rfl
theorem E5 (hd:W.digs (Am s)) (hl:s.size≤9) :
 Calls prog 89 #[.string s] w fun e w'=>e = .returned (.int .i64 ((W.decV (Am s):Nat):Int))∧w'=w:=by
 have HD:=qh hd;have hls:(Am s).length=s.size:=AJ s;have HL:=qh hls;clear hls hd
 go_enter func89,ntmps89
 go_wp2
 go_loop [3,7] (fun nv iv=>∃ k m:Nat,k≤s.size∧iv = .int .i64 k∧nv = .int .i64 (m:Int)∧m<10^k∧Hid (m=W.decV ((Am s).take k))) (fun _ iv=>s.size-(intOf iv).toNat)
 case atStart=>exact ⟨0,0,Nat.zero_le _,rfl,rfl,by decide,qh rfl⟩
 case round =>
  obtain ⟨k,m,hk,rfl,rfl,hm,HM⟩:=hrel;by_cases hlt:k<s.size
  · have hts:=O6 s k hlt
    have hc:W.isDig s[k]:=HD.out _ (by
     have:s[k]∈(Am s).take (k+1):=by rw [hts]; simp
     exact List.mem_of_mem_take this)
    have hc1:48≤s[k].toNat:=hc.1;have hc2:s[k].toNat≤57:=hc.2;have HN:Hid (W.decV ((Am s).take (k+1))=10*m+(s[k].toNat-48)):=qh (by rw [hts,W.decV_snoc,HM.out]);have hpow:10^k≤10^8:=Nat.pow_le_pow_right (by omega) (by omega)
    have hmb:(m:Int)<100000000:=by have:(10:Nat)^8=100000000:=by decide
                                   omega
    have hp1:10^(k+1)=10*10^k:=by rw [Nat.pow_succ,Nat.mul_comm]
    have HP:=qh (And.intro hm hp1);generalize hck:s[k].toNat=ck at *
    clear hts hc hpow hm hp1;go_wp2;go_round
    case rel=>exact ⟨k+1,10*m+(ck-48),by omega,by go_num,by congr 1; omega,by have:=HP.out; omega,qh (by rw [HN.out])⟩
    case measure=>simp [intOf]; omega
  · have hks:k=s.size:=by omega
    subst hks;have HE:Hid (m=W.decV (Am s)):=qh (by rw [HM.out,List.take_of_length_le (by rw [HL.out]; exact lrf _)]);go_wp2;go_ret;refine ⟨?_,rfl⟩;show Ending.returned (.int .i64 (m:Int))=_;rw [HE.out]
theorem Oc {x:Nat} (hx:x≤9223372036854775807) (hy:y≤9223372036854775807) :
 Calls prog 90 #[.int .i64 (x:Int), .int .i64 (y:Int)] w fun e w'=>e = .returned (.int .i64 ((Nat.gcd x y:Nat):Int))∧Qt w w':=by
 go_enter func90,ntmps90
 go_wp2
 go_loopw [0,1] (fun av bv wr=>∃ a b:Nat,av = .int .i64 (a:Int)∧bv = .int .i64 (b:Int)∧a≤9223372036854775807∧b≤9223372036854775807∧Hid (Nat.gcd a b=Nat.gcd x y)∧Qt w wr) (fun _ bv _=>(intOf bv).toNat)
 case atStart=>exact ⟨x,y,rfl,rfl,hx,hy,qh rfl,Qt.refl _⟩
 case round =>
  obtain ⟨a,b,rfl,rfl,ha,hb,HG,hQ⟩:=hrel;by_cases hb0:b=0
  · have HE:Hid (a=Nat.gcd x y):=qh (by rw [←HG.out,hb0,Nat.gcd_zero_right]);subst hb0;go_wp2;go_ret;refine ⟨?_,hQ⟩;show Ending.returned (.int .i64 (a:Int))=_;rw [HE.out]
  · have hbn:((b:Int) != 0)=true:=by simp; omega
    have hbe:((b:Int) == 0)=false:=by simp; omega
    have hb1:(0:Int)<(b:Int):=by omega
    have HE:Hid (Nat.gcd b (a%b)=Nat.gcd x y):=qh (by rw [←HG.out,Nat.gcd_comm b,←Nat.gcd_rec,Nat.gcd_comm]);have hlt:a%b<b:=Nat.mod_lt _ (by omega);go_wp2
    go_quiet (fail)
    go_wp2;go_roundw
    case rel=>exact ⟨b,a%b,rfl,by first | rfl | (congr 1),hb,by omega,HE,hQ.drewN _⟩
    case measure=>simp [intOf]; omega
def ShQ (l:List UInt8) (n:Int) (d:Nat):Prop:=A8 l=some (mkRat n d)∧n.natAbs<1000000000∧0<d∧d<1000000000
theorem Ak:Agg prog 81 2:=⟨by kernel_rfl,by kernel_rfl⟩
def shL (n d:Int):List Value:=[.int .i64 n, .int .i64 d]
theorem AV (n d:Int):∀ v∈shL n d,v.oneCell'=true:=by
 intro v hv;simp only [shL,List.mem_cons,List.not_mem_nil,or_false] at hv;rcases hv with rfl|rfl <;> rfl
def Wc (w:World) (l:List UInt8) (e:Ending) (w':World):Prop:=Ext w w'∧((∃ n d,e = .returned (.tuple #[.agg (shL n (d:Nat)).toArray, .bool true])∧ShQ l n d)∨e = .returned (.tuple #[.agg (shL 0 0).toArray, .bool false]))
theorem Ef (hs:s.size≤1000000):Calls prog 47 #[.string s] w (Wc w (Am s)):=by
 have hsp:=fun (wx:World)=>qh (Ib s wx hs);obtain ⟨⟨⟨neg,num,den⟩,ok⟩,hP⟩:∃ P,CI (Am s)=P:=⟨_,rfl⟩;simp only [hP] at hsp;have HP:=qh hP;have hfl:(BN neg num den).toArray=#[.bool neg, .string ⟨num.toArray⟩, .string ⟨den.toArray⟩]:=rfl;have hsl:(shL 0 0).toArray=#[.int .i64 0, .int .i64 0]:=rfl;clear hP
 go_enter func47,ntmps47
 go_upto_region 1 with (fail)
 refine Bq ?_;intro w0 hE0 hB0 hz0;have hR:Arr w0 w.heap.size 81 (shL 0 0):=hB0;clear hB0 hz0;by_cases h20:(20:Int)<(s.size:Int)
 · go_wp2_with (refine Aa (vs:=shL 0 0) rfl rfl rfl rfl rfl Ak hR rfl (AV _ _) ?_; intro w9 hB9 hg9)
   refine bodyPost_ret (AH rfl Ak rfl rfl hB9) rfl ?_;exact ⟨hE0.grownR hg9 (lrf _),Or.inr rfl⟩
 · go_wp2_with fail
   refine (hsp _).out.mono ?_;rintro e w1 ⟨rfl,hE1⟩;have hY:=Arr.new w1 85 (BN false [] [])
   go_upto_region 4 with (refine Aa (vs:=BN neg num den) rfl rfl rfl rfl rfl A4 hY rfl (Cb _ _ _) ?_; intro w2 hB2 hg2)
   have hE2:Ext w1 w2:=((Ext.refl w1).alloc _).grownR hg2 (lrf _);have hR2:=(hR.ext hE1).ext hE2;have hEw:=(hE0.trans hE1).trans hE2;have f0:=hB2.c 0 rfl;have f1:=hB2.c 1 rfl;have f2:=hB2.c 2 rfl;clear hY hg2 hR hE1 hE2 hsp;cases ok with
   | false =>
    go_wp2_with (refine Aa (vs:=shL 0 0) rfl rfl rfl rfl rfl Ak hR2 rfl (AV _ _) ?_; intro w9 hB9 hg9)
    refine bodyPost_ret (AH rfl Ak rfl rfl hB9) rfl ?_;exact ⟨hEw.grownR hg9 (lrf _),Or.inr rfl⟩
   | true =>
    have hS:=FL HP.out;by_cases hn9:(9:Int)<(num.length:Int)
    · clear hS
      go_wp2_with (refine Aa (vs:=shL 0 0) rfl rfl rfl rfl rfl Ak hR2 rfl (AV _ _) ?_; intro w9 hB9 hg9)
      refine bodyPost_ret (AH rfl Ak rfl rfl hB9) rfl ?_;exact ⟨hEw.grownR hg9 (lrf _),Or.inr rfl⟩
    · by_cases hd9:(9:Int)<(den.length:Int)
      · clear hS
        go_wp2_with (refine Aa (vs:=shL 0 0) rfl rfl rfl rfl rfl Ak hR2 rfl (AV _ _) ?_; intro w9 hB9 hg9)
        refine bodyPost_ret (AH rfl Ak rfl rfl hB9) rfl ?_;exact ⟨hEw.grownR hg9 (lrf _),Or.inr rfl⟩
      · have hdn:=qh (E5 (s:=⟨num.toArray⟩) (w:=w2) (by rw [AU]; exact hS.dn) (by show num.toArray.size≤9; simp; omega));rw [AU] at hdn;have HS:=qh hS;clear hS
        go_wp2_with fail
        refine hdn.out.mono ?_;rintro e w3 ⟨rfl,hw3⟩;subst hw3;have hN:W.decV num<1000000000:=by
         have h1:=W.decV_lt HS.out.dn;have h2:10^num.length≤10^9:=Nat.pow_le_pow_right (by omega) (by omega);have h3:(10:Nat)^9=1000000000:=by decide
         omega
        have hDd:W.decV den<1000000000:=by
         have h1:=W.decV_lt HS.out.dd;have h2:10^den.length≤10^9:=Nat.pow_le_pow_right (by omega) (by omega);have h3:(10:Nat)^9=1000000000:=by decide
         omega
        obtain ⟨o,HO⟩:∃ o,Hid (A8 (Am s)=o∧o=if den=[] then some (mkRat (if neg=true then -((W.decV num:Nat):Int) else ((W.decV num:Nat):Int)) 1) else if (if neg=true then -((W.decV num:Nat):Int) else ((W.decV num:Nat):Int)).natAbs.gcd (W.decV den)=1 then some (mkRat (if neg=true then -((W.decV num:Nat):Int) else ((W.decV num:Nat):Int)) (W.decV den)) else none):=⟨_,qh ⟨rfl,by unfold A8; simp [HP.out]⟩⟩;have hdd:=fun (wx:World)=>qh (E5 (s:=⟨den.toArray⟩) (w:=wx) (by rw [AU]; exact HS.out.dd) (by show den.toArray.size≤9; simp; omega));rw [AU] at hdd
        generalize W.decV num=N at *
        have hY:=Arr.new w3 81 (shL 0 0);have hl1:(shL (N:Int) 1).toArray=#[.int .i64 (N:Int), .int .i64 1]:=rfl;clear hdn
        go_upto_region 7 with (refine Aa (vs:=shL (N:Int) 1) rfl rfl rfl rfl rfl Ak hY rfl (AV _ _) ?_; intro w4 hB4 hg4)
        have hE4:Ext w3 w4:=((Ext.refl w3).alloc _).grownR hg4 (lrf _);have hEw4:=hEw.trans hE4;have hR4:=hR2.ext hE4;have hF4:=hB2.ext hE4;have f0:=hE4.cell f0;have f2:=hE4.cell f2;have hXR:w.heap.size<w3.heap.size:=hR2.lt;clear hY hg4 hE4 hl1;by_cases hde:den=[]
        · have HQ:Hid (o=some (mkRat (if neg=true then -(N:Int) else (N:Int)) 1)):=qh (by rw [HO.out.2,if_pos hde]);clear hdd;subst hde;cases neg with
          | false =>
           have q0:=hB4.c 0 rfl;have q1:=hB4.c 1 rfl;have hl2:(shL (N:Int) 1).toArray=#[.int .i64 (N:Int), .int .i64 1]:=rfl
           go_wp2_with (refine Aa (vs:=shL (N:Int) 1) rfl rfl rfl rfl rfl Ak hR4 rfl (AV _ _) ?_; intro w9 hB9 hg9)
           refine bodyPost_ret (AH rfl Ak rfl rfl hB9) rfl ?_;exact ⟨hEw4.grownR hg9 (lrf _),Or.inl ⟨(N:Int),1,rfl,(by first | exact ⟨by rw [HO.out.1,HQ.out]; rfl,by omega,by omega,by omega⟩ | exact ⟨by rw [HO.out.1,HQ.out]; simp,by omega,by omega,by omega⟩)⟩⟩
          | true =>
           have q0:=hB4.c 0 rfl;have hnw:IntKind.i64.wrap (-(N:Int)) = -(N:Int):=IntWalk.i64_in _ (by omega)
           go_upto_region 13 with (refine Cn rfl rfl [.int .i64 (-(N:Int))] (shL (-(N:Int)) 1) (by kernel_rfl) rfl rfl rfl hB4 (by simp [shL]) (by simp [Value.oneCell']) rfl ?_; intro w8 hB8 hg8)
           have hE8:=hEw4.grownR hg8 (Nat.le_of_lt hXR);have hR8:=hR4.kept hg8 (by simp; omega);clear q0 hnw;have q0:=hB8.c 0 rfl;have q1:=hB8.c 1 rfl;have hl2:(shL (-(N:Int)) 1).toArray=#[.int .i64 (-(N:Int)), .int .i64 1]:=rfl
           go_wp2_with (refine Aa (vs:=shL (-(N:Int)) 1) rfl rfl rfl rfl rfl Ak hR8 rfl (AV _ _) ?_; intro w9 hB9 hg9)
           refine bodyPost_ret (AH rfl Ak rfl rfl hB9) rfl ?_;exact ⟨hE8.grownR hg9 (lrf _),Or.inl ⟨(-(N:Int)),1,rfl,(by first | exact ⟨by rw [HO.out.1,HQ.out]; rfl,by omega,by omega,by omega⟩ | exact ⟨by rw [HO.out.1,HQ.out]; simp,by omega,by omega,by omega⟩)⟩⟩
        · have hdb:den.isEmpty=false:=by cases den with | nil=>exact absurd rfl hde | cons _ _=>rfl
          have hD0:0<W.decV den:=by
           refine Nat.pos_of_ne_zero fun h0 => ?_;have h1:=W.dec_of_digs HS.out.dd hde (fun c r e h=>absurd (by rw [e,h]; rfl) HS.out.nd);rw [h0,W.dec_zero] at h1;exact HS.out.nd (by rw [←h1]; rfl)
          have HQ:Hid (o=if (if neg=true then -(N:Int) else (N:Int)).natAbs.gcd (W.decV den)=1 then some (mkRat (if neg=true then -(N:Int) else (N:Int)) (W.decV den)) else none):=qh (by rw [HO.out.2,if_neg hde])
          go_wp2_with fail
          refine (hdd _).out.mono ?_;rintro e w5 ⟨rfl,hw5⟩;subst hw5;clear hdd hde;generalize W.decV den=D at *
          go_upto_region 9 with (refine Cn rfl rfl [.int .i64 (D:Int)] (shL (N:Int) (D:Int)) (by kernel_rfl) rfl rfl rfl hB4 (by simp [shL]) (by simp [Value.oneCell']) rfl ?_; intro w6 hB6 hg6)
          have hE6:=hEw4.grownR hg6 (Nat.le_of_lt hXR);have hR6:=hR4.kept hg6 (by simp; omega);have hFX:w1.heap.size<w3.heap.size:=hB2.lt;have hF6:=hF4.kept hg6 (by simp; omega);have q0:=hB6.c 0 rfl;have q1:=hB6.c 1 rfl;have hgc:=qh (Oc (x:=N) (y:=D) (w:=w6) (by omega) (by omega))
          have HGQ:Hid (Nat.gcd N D=1→o=some (mkRat (if neg=true then -(N:Int) else (N:Int)) D)):=qh (fun h=>by
           rw [HQ.out,if_pos]
           cases neg <;> simpa using h)
          generalize Nat.gcd N D=G at *
          clear hg6 hR4 hB4 HQ
          go_wp2_with fail
          refine hgc.out.mono ?_;rintro e w7 ⟨rfl,hQ⟩;have hE7:=hE6.trans hQ.ext;have hR7:=hR6.ext hQ.ext;have hB7:=hB6.ext hQ.ext;have hF7:=hF6.ext hQ.ext;clear hgc q0 q1 hE6 hR6 hB6 hF6 hQ;by_cases hg1:G=1
          · have HG1:=qh (HGQ.out hg1);have hgb:((G:Int) != 1)=false:=by simp [hg1]
            have f0:=hF7.c 0 rfl;clear hg1 HGQ;cases neg with
            | false =>
             have q0:=hB7.c 0 rfl;have q1:=hB7.c 1 rfl;have hl2:(shL (N:Int) (D:Int)).toArray=#[.int .i64 (N:Int), .int .i64 (D:Int)]:=rfl
             go_wp2_with (refine Aa (vs:=shL (N:Int) (D:Int)) rfl rfl rfl rfl rfl Ak hR7 rfl (AV _ _) ?_; intro w9 hB9 hg9)
             refine bodyPost_ret (AH rfl Ak rfl rfl hB9) rfl ?_;exact ⟨hE7.grownR hg9 (lrf _),Or.inl ⟨(N:Int),D,rfl,(by first | exact ⟨by rw [HO.out.1,HG1.out]; rfl,by omega,by omega,by omega⟩ | exact ⟨by rw [HO.out.1,HG1.out]; simp,by omega,by omega,by omega⟩)⟩⟩
            | true =>
             have q0:=hB7.c 0 rfl;have hnw:IntKind.i64.wrap (-(N:Int)) = -(N:Int):=IntWalk.i64_in _ (by omega)
             go_upto_region 13 with (refine Cn rfl rfl [.int .i64 (-(N:Int))] (shL (-(N:Int)) (D:Int)) (by kernel_rfl) rfl rfl rfl hB7 (by simp [shL]) (by simp [Value.oneCell']) rfl ?_; intro w8 hB8 hg8)
             have hE8:=hE7.grownR hg8 (Nat.le_of_lt hXR);have hR8:=hR7.kept hg8 (by simp; omega);clear q0 hnw;have q0:=hB8.c 0 rfl;have q1:=hB8.c 1 rfl;have hl2:(shL (-(N:Int)) (D:Int)).toArray=#[.int .i64 (-(N:Int)), .int .i64 (D:Int)]:=rfl
             go_wp2_with (refine Aa (vs:=shL (-(N:Int)) (D:Int)) rfl rfl rfl rfl rfl Ak hR8 rfl (AV _ _) ?_; intro w9 hB9 hg9)
             refine bodyPost_ret (AH rfl Ak rfl rfl hB9) rfl ?_;exact ⟨hE8.grownR hg9 (lrf _),Or.inl ⟨(-(N:Int)),D,rfl,(by first | exact ⟨by rw [HO.out.1,HG1.out]; rfl,by omega,by omega,by omega⟩ | exact ⟨by rw [HO.out.1,HG1.out]; simp,by omega,by omega,by omega⟩)⟩⟩
          · have hgb:((G:Int) != 1)=true:=by simp; omega
            clear hg1 HGQ
            go_wp2_with (refine Aa (vs:=shL 0 0) rfl rfl rfl rfl rfl Ak hR7 rfl (AV _ _) ?_; intro w9 hB9 hg9)
            refine bodyPost_ret (AH rfl Ak rfl rfl hB9) rfl ?_;exact ⟨hE7.grownR hg9 (lrf _),Or.inr rfl⟩
theorem MF {fn:Func} {p q r:Tmp} (hr:fn.results=#[.cell p ty, .cell q ty', .tmp r]) {tmps:Array Value} {g g':Nat} {t t':TypeId} {cs cs':List Value} {v:Value} (ha:Agg P ty cs.length) (ha':Agg P ty' cs'.length)
 (hp:tmps.getD p undef = .pointer (some ⟨g,0,none⟩)) (hq:tmps.getD q undef = .pointer (some ⟨g',0,none⟩)) (hv:tmps.getD r undef=v) (h:Arr w g t cs) (h':Arr w g' t' cs'):(results fn tmps).run P w = .ok (.tuple #[.agg cs.toArray, .agg cs'.toArray,v]) w:=by
 have hp':tmps[p]?.getD undef = .pointer (some ⟨g,0,none⟩):=by simpa using hp
 have hq':tmps[q]?.getD undef = .pointer (some ⟨g',0,none⟩):=by simpa using hq
 have hv':tmps[r]?.getD undef=v:=by simpa using hv
 simp [results,hr,hp',hq',hv',asAddr,Js ha h,Js ha' h']
def We (w:World) (l l':List UInt8) (e:Ending) (w':World):Prop:=Ext w w'∧((∃ n d n' d',e = .returned (.tuple #[.agg (shL n (d:Nat)).toArray, .agg (shL n' (d':Nat)).toArray, .bool true])∧ShQ l n d∧ShQ l' n' d')∨e = .returned (.tuple #[.agg (shL 0 0).toArray, .agg (shL 0 0).toArray, .bool false]))
theorem IF (hs:s.size≤1000000) (hs':s'.size≤1000000):Calls prog 59 #[.string s, .string s'] w (We w (Am s) (Am s')):=by
 have hr1:=fun (wx:World)=>qh (Ef (w:=wx) hs);have hr2:=fun (wx:World)=>qh (Ef (w:=wx) hs');have hsl:(shL 0 0).toArray=#[.int .i64 0, .int .i64 0]:=rfl
 go_enter func59,ntmps59
 go_upto_region 1 with (fail)
 refine F0 ?_;intro w0 hE0 hB0 hB1 hz0;have hR:Arr w0 w.heap.size 81 (shL 0 0):=hB0;have hS:Arr w0 (w.heap.size+1) 81 (shL 0 0):=hB1;clear hB0 hB1 hz0
 go_wp2_with fail
 refine (hr1 _).out.mono ?_;rintro e w1 ⟨hE1,⟨n,d,rfl,hq⟩|rfl⟩
 · have HQ:=qh hq;have hl1:(shL n (d:Nat)).toArray=#[.int .i64 n, .int .i64 (d:Int)]:=rfl;have hY:=Arr.new w1 81 (shL 0 0);clear hq
   go_upto_region 2 with (refine Aa (vs:=shL n (d:Nat)) rfl rfl rfl rfl rfl Ak hY rfl (AV _ _) ?_; intro w2 hB2 hg2)
   have hE2:Ext w1 w2:=((Ext.refl w1).alloc _).grownR hg2 (lrf _);have hE12:=hE1.trans hE2;have hEw2:=hE0.trans hE12;have hR2:=hR.ext hE12;have hS2:=hS.ext hE12;have hX1:=(hS.ext hE1).lt;clear hY hg2 hE1 hE2 hE12 hR hS hr1 hl1
   go_wp2_with fail
   refine (hr2 _).out.mono ?_;rintro e w3 ⟨hE3,⟨n',d',rfl,hq'⟩|rfl⟩
   · have HQ':=qh hq';have hl1:(shL n' (d':Nat)).toArray=#[.int .i64 n', .int .i64 (d':Int)]:=rfl;have hY:=Arr.new w3 81 (shL 0 0);clear hq'
     go_upto_region 5 with (refine Aa (vs:=shL n' (d':Nat)) rfl rfl rfl rfl rfl Ak hY rfl (AV _ _) ?_; intro w4 hB4 hg4)
     have hE4:Ext w3 w4:=((Ext.refl w3).alloc _).grownR hg4 (lrf _);have hE34:=hE3.trans hE4;have hEw4:=hEw2.trans hE34;have hR4:=hR2.ext hE34;have hS4:=hS2.ext hE34;have hB24:=hB2.ext hE34;have x0:=hB24.c 0 rfl;have x1:=hB24.c 1 rfl;have y0:=hB4.c 0 rfl;have y1:=hB4.c 1 rfl;have hE3x:w.heap.size+1<w3.heap.size:=by have:=hE3.size; have:=hB2.lt; omega
     clear hY hg4 hE3 hE4 hE34 hB24 hr2;have r0:=hR4.c 0 rfl;have r1:=hR4.c 1 rfl;have s0:=hS4.c 0 rfl;have s1:=hS4.c 1 rfl;have fr:∀ i,w4.frozen? ⟨w.heap.size,i,none⟩=false:=fun i=>hR4.frozen i;have fs:∀ i,w4.frozen? ⟨(w.heap.size+1),i,none⟩=false:=fun i=>hS4.frozen i;have hn1:w3.heap.size≠w.heap.size:=by omega
     have hn2:w.heap.size≠w3.heap.size:=by omega
     go_wp2
     go_region
     have hRa:=(((hR4.set 0 (.int .i64 n)).set 1 (.int .i64 (d:Int))).far (p:=⟨w.heap.size+1,0,none⟩) (by simp) (.int .i64 n')).far (p:=⟨w.heap.size+1,1,none⟩) (by simp) (.int .i64 (d':Int));have hSa:=(((hS4.far (p:=⟨w.heap.size,0,none⟩) (by simp) (.int .i64 n)).far (p:=⟨w.heap.size,1,none⟩) (by simp) (.int .i64 (d:Int))).set 0 (.int .i64 n')).set 1 (.int .i64 (d':Int))
     have hEa:=(((hEw4.setCell (p:=⟨w.heap.size,0,none⟩) (lrf _) (.int .i64 n)).setCell (p:=⟨w.heap.size,1,none⟩) (lrf _) (.int .i64 (d:Int))).setCell (p:=⟨w.heap.size+1,0,none⟩) (Nat.le_succ _) (.int .i64 n')).setCell (p:=⟨w.heap.size+1,1,none⟩) (Nat.le_succ _) (.int .i64 (d':Int));go_wp2;refine bodyPost_ret (MF (cs:=shL n (d:Nat)) (cs':=shL n' (d':Nat)) rfl Ak Ak rfl rfl rfl hRa hSa) rfl ?_;exact ⟨hEa.drew,Or.inl ⟨n,d,n',d',rfl,HQ.out,HQ'.out⟩⟩
   · have hY:=Arr.new w3 81 (shL 0 0)
     go_upto_region 5 with (refine Aa (vs:=shL 0 0) rfl rfl rfl rfl rfl Ak hY rfl (AV _ _) ?_; intro w4 hB4 hg4)
     have hE4:Ext w3 w4:=((Ext.refl w3).alloc _).grownR hg4 (lrf _);have hE34:=hE3.trans hE4;have hEw4:=hEw2.trans hE34;have hR4:=hR2.ext hE34;have hS4:=hS2.ext hE34;clear hY hg4
     go_wp2_with (first
      | (refine Aa (vs:=shL 0 0) rfl rfl rfl rfl rfl Ak hR4 rfl (AV _ _) ?_; intro w9 hB9 hg9; have hS9:=hS4.kept hg9 (by simp))
      | (refine Aa (vs:=shL 0 0) rfl rfl rfl rfl rfl Ak hS9 rfl (AV _ _) ?_; intro w10 hB10 hg10))
     refine bodyPost_ret (MF rfl Ak Ak rfl rfl rfl (hB9.kept hg10 (by simp)) hB10) rfl ?_;exact ⟨((hEw4.grownR hg9 (lrf _))).grownR hg10 (by omega),Or.inr rfl⟩
 · have hY:=Arr.new w1 81 (shL 0 0)
   go_upto_region 2 with (refine Aa (vs:=shL 0 0) rfl rfl rfl rfl rfl Ak hY rfl (AV _ _) ?_; intro w2 hB2 hg2)
   have hE2:Ext w1 w2:=((Ext.refl w1).alloc _).grownR hg2 (lrf _);have hE12:=hE1.trans hE2;have hEw2:=hE0.trans hE12;have hR2:=hR.ext hE12;have hS2:=hS.ext hE12;clear hY hg2
   go_wp2_with (first
    | (refine Aa (vs:=shL 0 0) rfl rfl rfl rfl rfl Ak hR2 rfl (AV _ _) ?_; intro w9 hB9 hg9; have hS9:=hS2.kept hg9 (by simp))
    | (refine Aa (vs:=shL 0 0) rfl rfl rfl rfl rfl Ak hS9 rfl (AV _ _) ?_; intro w10 hB10 hg10))
   refine bodyPost_ret (MF rfl Ak Ak rfl rfl rfl (hB9.kept hg10 (by simp)) hB10) rfl ?_;exact ⟨((hEw2.grownR hg9 (lrf _))).grownR hg10 (by omega),Or.inr rfl⟩
def vaQ (l:List UInt8):Rat:=(A8 l).getD 0
theorem FT (hT:A2 w) (hs:s.size≤570):Calls prog 61 #[.string s] w (F4 w (vaQ (Am s))):=by
 have hrd:=fun (wx:World) (hC:Ext w wx)=>qh (GX (s:=s) (hT.ext hC) hs);obtain ⟨o,ho⟩:∃ o,A8 (Am s)=o:=⟨_,rfl⟩;have HV:Hid (vaQ (Am s)=o.getD 0):=qh (by unfold vaQ; rw [ho]);rw [ho] at hrd;clear ho
 go_enter func61,ntmps61
 go_upto_region 1 with (fail)
 refine Bq ?_;intro w0 hE0 hB0 hz0;have hR:Arr w0 w.heap.size 97 (An false none 0 0 false none 0 0):=hB0;clear hB0 hz0
 go_wp2_with fail
 refine (hrd _ hE0).out.mono ?_;rintro e w1 ⟨_,rfl,hE1,s1,a1,n1,c1,b1,m1,d1,rfl,HS1,hx1,hy1⟩;have hY:=Arr.new w1 97 (An false none 0 0 false none 0 0);have hl1:(An s1 a1 n1 c1 false b1 m1 d1).toArray=#[.bool s1, .slice a1 n1 c1, .bool false, .slice b1 m1 d1]:=rfl
 go_upto_region 2 with (refine Aa (vs:=An s1 a1 n1 c1 false b1 m1 d1) rfl rfl rfl rfl rfl Ac hY rfl (Ap _ _ _ _ _ _ _ _) ?_; intro w2 hB2 hg2)
 have hE2:Ext w1 w2:=((Ext.refl w1).alloc _).grownR hg2 (lrf _);have hEw:=(hE0.trans hE1).trans hE2;have hR2:=(hR.ext hE1).ext hE2;have hx2:=hx1.ext hE2;have hy2:=hy1.ext hE2;have y0:=hB2.c 0 rfl;have y1:=hB2.c 1 rfl;have y2:=hB2.c 2 rfl;have y3:=hB2.c 3 rfl;clear hrd hR hE0 hE1 hE2 hY hg2
 go_wp2_with (refine Aa (vs:=An s1 a1 n1 c1 false b1 m1 d1) rfl rfl rfl rfl rfl Ac hR2 rfl (Ap _ _ _ _ _ _ _ _) ?_; intro w9 hB9 hg9)
 refine bodyPost_ret (Al rfl Ac rfl hB9) rfl ?_;rw [HV.out];exact Bf hEw hR2 (AC _ _ _ _ _ _ _ _) hg9 (lrf _) HS1 hx2 hy2
end Go.Proofs.YtlpgonpfjbhmfaaGreatDoor
