/- Part Gav37. -/
import Derived.Test.YtlpgonpfjbhmfaaGreatDoorGav36
import Derived.Test.YtlpgonpfjbhmfaaGreatDoorGav6
import Derived.Test.YtlpgonpfjbhmfaaGreatDoorGav35
set_option maxRecDepth 100000
set_option maxHeartbeats 100000000
namespace Go.Proofs.YtlpgonpfjbhmfaaGreatDoor
open Tryz Go Go.RowKit
variable {v:Int} {L gs ps:List (List Int)} {A B q:List Int} {t:List UInt8} {D Y cg n ng r:Nat} {ag:Option Addr} {c:Rat} {w:World}
theorem Ga (hM:AN w r (BK L)) (hn:n≤6) (hL:∀ x∈L,x.length=n) (h12:L.length≤1000) (h1:0<L.length) :
 Calls prog 72 #[.int .i64 n, .map (some r)] w (fun e w'=>∃ ps,UP w ps e w'∧ps.Perm L∧CX ps 0 L.length):=by
 have HL:=qh hL;have hkl:(BK L).length=L.length:=by simp [BK]
 have HKL:=qh hkl;clear hL hkl
 go_enter func72,ntmps72
 go_wp2_with (refine Ky rfl rfl CC rfl hM ?_; intro w1 hI1 hE1 hlt1)
 have hI1':AG w1 w.heap.size r L.length []:=by rw [←HKL.out]; exact hI1
 go_frame
 go_loopw [5] (fun v wr=>SoR w L r w.heap.size v wr) (fun _ wr=>L.length-D9 wr w.heap.size)
 case atStart=>exact ⟨[],none,0,0,[],rfl,rfl,hE1,lrf _,hM.ext hE1,hI1',by simp,by simp,Own.nil _ _ _,fun i hi=>by simp at hi⟩
 case round =>
  clear hI1 hI1' hE1 hlt1;obtain ⟨seen,al,nl,cl,cells,rfl,hnl,hE,hit,hM1,hI1,hsn,hsl,hO,hQ⟩:=hrel;have HNL:=qh hnl;clear hnl;rw [←HKL.out] at hI1;by_cases hall:∀ i,i<(BK L).length→i∈seen
  · obtain ⟨hperm,hslen⟩:=Ol hsn hsl (fun i hi=>hall i (by rw [HKL.out]; exact hi));have hnlp:0<nl:=by rw [HNL.out,hslen]; exact h1
    obtain ⟨g,rfl,hg1,hg2⟩:=hO.place hnlp;have hS:Srt wr w.heap.size g nl cl (seen.map (fun i=>L.getD i [])):=⟨by rw [List.length_map]; exact HNL.out.symm,cells,hO,hQ⟩;have hnl12:nl≤1000:=by rw [HNL.out,hslen]; exact h12
    have HSL:=qh hslen;have HPM:=qh hperm;clear hslen hperm
    go_wp2_with (refine FV rfl rfl rfl hM1 hI1 (fun _ => ?_) (fun i _ _ _ h1 h2 _ _ _=>absurd (hall i h1) h2))
    refine (MA hS hnl12).mono ?_;rintro e w2 ⟨rfl,ps,hS2,hmv,hord,hgr⟩;go_wp2;go_ret;obtain ⟨hl2,cells2,hO2,hQ2⟩:=hS2;refine ⟨ps,⟨_,_,_,cells2,rfl,hE.grown hgr (by intro k hk; simp at hk; omega),hl2.symm,hO2,hQ2⟩,hmv.1.trans HPM.out, ?_⟩;rw [←HSL.out,←HNL.out];exact hord
  · have hz:=hE.size;have HSN:Hid (D9 wr w.heap.size=seen.length):=EU hI1
    go_upto_region 4 with (refine FV rfl rfl rfl hM1 hI1 (fun h=>absurd h hall) ?_; intro i k v w2 hil his hmi hI2 hg2)
    obtain ⟨hiL,hk⟩:=Om hmi;have hpl:(L.getD i []).length=n:=HL.out _ (by simp [hiL]);have hM2:=hM1.kept hg2 (IL hM1 hI1);have hO2:=hO.kept hg2 (BW hO hI1);have hQ2:=hQ.kept hg2 (fun _ _ _ _ h=>BW h hI1);have hE2:Ext w w2:=hE.grown hg2 (by intro k hk; simp at hk; omega);have hA:=Arr.new w2 70 As;have hAg:Agg prog 70 (k.map (Value.int .i64)).length:=by
     rw [List.length_map,hk,AQ (by rw [hpl]; exact hn)];exact CW
    have hz6:As.length=(k.map (Value.int .i64)).length:=by
     rw [List.length_map,hk,AQ (by rw [hpl]; exact hn)];rfl
    have HZ6:=qh hz6;have HK:=qh hk;have HPL:=qh hpl;clear hz6 hk hpl hM1 hO hQ hE hI1 hg2
    go_upto_region 5 with (first
     | (refine Kz rfl rfl rfl hM2 hI2 hmi ?_)
     | (refine Aa rfl rfl rfl rfl rfl hAg hA HZ6.out (A6 _) ?_; intro w3 hB3 hg3))
    go_frame
    have hE23:Ext w2 w3:=((Ext.refl w2).alloc (.cells As.toArray 70)).grown hg3 (by intro k hk; simp at hk; omega);have hsl3:SlI w3 (some ⟨w2.heap.size,0,none⟩) n 6 (L.getD i []):=by
     have h1:=hB3.sl (k:=n) (by rw [←HZ6.out]; exact hn) (by rw [←HZ6.out]; unfold maxLen; decide);rw [←HZ6.out,HK.out,←List.map_take] at h1;have h2:=FO (L.getD i []);rw [HPL.out] at h2;rw [h2] at h1;exact h1
    have hE3:=hE2.trans hE23;have hM3:=hM2.ext hE23;have hI3:=hI2.ext hE23;have hO3:=hO2.ext hE23;have hQ3:=hQ2.ext hE23;have hnl12:nl≤1000:=by
     rw [HNL.out];have:=Da seen (List.range L.length) hsn (fun x hx=>by rw [List.mem_range]; exact hsl x hx);simp at this;omega
    have hsa:=fun wx:World=>Ec (P:=prog) (w:=wx) (g:=w2.heap.size) Br.arr Bz hn;clear hB3 hg3 hE23 hA hM2 hI2 hO2 hQ2 hE2 hAg
    go_wp2_with fail
    refine (ET hsl3 (by omega) (by simp)).mono ?_;rintro e w4 ⟨a4,n4,c4,rfl,hE4,hO4⟩;have hO5:=hO3.ext hE4;have hQ5:=hQ3.ext hE4;have hM5:=hM3.ext hE4;have hI5:=hI3.ext hE4;have hE5:=hE3.trans hE4;have hB5:CT w4 w.heap.size a4 n4 c4 (L.getD i []):=Own.mono hO4 hE3.size;clear hO3 hQ3 hM3 hI3 hE3 hE4 hO4 hsl3;have hA6:Ext w4 (w4.alloc (.cells #[.slice a4 n4 c4] 22)):=(Ext.refl w4).alloc _;have hS6:=(Au w4 w.heap.size 22 #[.slice a4 n4 c4] 1 rfl hE5.size (by omega)).sl;have hO6:=hO5.ext hA6
    go_wp2_with (refine Bw rfl rfl underlying53 Ey rfl rfl hO6 rfl hS6 (by simp [Value.oneCell']) (by unfold maxLen; omega) (by omega) (by have:=hE5.size; simp; omega) ?_; intro a7 c7 w7 hO7 hg7 hb7)
    go_roundw
    case rel =>
     have hE6:=hE5.trans hA6;have hI6:=hI5.ext hA6;have hM6:=hM5.ext hA6;have hx:∀ k,blk al=some k→w.heap.size≤k:=fun k hk=>(hO6.lt hk).1;refine ⟨seen ++ [i],a7,nl+1,c7,_,rfl,by rw [HNL.out]; simp,hE6.grown hg7 hx,hit,hM6.kept hg7 ?_, ?_, ?_, ?_,hO7, ?_⟩
     · rcases C8 hO6 hM6 with h|h
       · rw [h]; simp
       · exact fun h2=>h h2.symm
     · have:AG w7 w.heap.size r (BK L).length (seen ++ [i]):=hI6.kept hg7 (by
        rcases BW hO6 hI6 with h|h
        · rw [h]; simp
        · exact fun h2=>h h2.symm)
       rw [←HKL.out];exact this
     · rw [List.nodup_append];refine ⟨hsn,by simp, ?_⟩;intro a ha b hb;simp only [List.mem_singleton] at hb;subst hb;rintro rfl;exact his ha
     · intro j hj;rcases List.mem_append.1 hj with hj|hj
       · exact hsl j hj
       · simp only [List.mem_singleton] at hj;subst hj;exact hiL
     · have hQ7:=(hQ5.ext hA6).kept hg7 (fun _ _ _ _ h=>CL h hO6 (by decide));have hB7:CT w7 w.heap.size a4 n4 c4 (L.getD i []):=Own.kept (Own.ext hB5 hA6) hg7 (CL (Own.ext hB5 hA6) hO6 (by decide));rw [List.map_append];exact hQ7.snoc (by rw [hO6.len,HNL.out]; simp) hB7
    case measure =>
     have hI6:=hI5.ext hA6;have e1:D9 w7 w.heap.size=seen.length+1:=by
      have:AG w7 w.heap.size r (BK L).length (seen ++ [i]):=hI6.kept hg7 (by
       rcases BW hO6 hI6 with h|h
       · rw [h]; simp
       · exact fun h2=>h h2.symm)
      rw [EU this];simp
     have e2:=HSN.out;have:seen.length≤L.length:=by
      have:=Da seen (List.range L.length) hsn (fun x hx=>by rw [List.mem_range]; exact hsl x hx);simpa using this
     have h3:seen.length<L.length:=by
      have:=Da (i :: seen) (List.range L.length) (List.nodup_cons.2 ⟨his,hsn⟩) (fun x hx=>by
       rw [List.mem_range];rcases List.mem_cons.1 hx with rfl|hx
       · exact hiL
       · exact hsl x hx)
      simp at this;omega
     rw [e1,e2];omega
def IE (w:World) (os:List (List Int)) (er:Int) (e:Ending) (w':World):Prop :=
 ∃ a n c,e = .returned (.tuple #[.slice a n c, .int .i64 er])∧Ext w w'∧SlL w' a n c os
theorem IE.none {w w':World} {os:List (List Int)} {er er':Int} (he:Ext w w') (h:(os,er)=([],er')):IE w os er (.returned (.tuple #[.slice none 0 0, .int .i64 er'])) w':=by
 simp only [Prod.mk.injEq] at h;obtain ⟨rfl,rfl⟩:=h;exact ⟨Option.none,0,0,rfl,he,rfl,[],Sl.nil _,fun i hi=>by omega⟩
def Gb (n:Nat) (gs ps:List (List Int)):Prop:=ps.Nodup∧(∀ p,p∈ps↔Ch gs n p)∧CX ps 0 ps.length
theorem Gb.eq (h:Gb n gs ps):ps=Classical.epsilon (Gb n gs):=by
 have h2:=Classical.epsilon_spec (p:=Gb n gs) ⟨ps,h⟩;exact GA h.1 h2.1 (fun x=>by rw [h.2.1,h2.2.1]) h.2.2 h2.2.2
noncomputable def genS (n:Int) (gs:List (List Int)):List (List Int)×Int :=
 if n<0∨6<n then ([],3)
 else if 16<gs.length then ([],2)
 else if gs.all Ar=true then
  if gs.all (fun m=>decide ((m.length:Int)=n))=true then (Classical.epsilon (Gb n.toNat gs),0) else ([],4)
 else ([],1)
theorem Kt {n:Int} (hg:SlL w ag ng cg gs) :
 Calls prog 30 #[.int .i64 n, .slice ag ng cg] w (IE w (genS n gs).1 (genS n gs).2):=by
 have HG:=qh hg.len;by_cases hn0:n<0
 · have HS:Hid (genS n gs=([],3)):=by
    show _=_;unfold genS;rw [if_pos (Or.inl hn0)]
   go_enter func30,ntmps30
   go_wp2
   go_ret2
   exact IE.none (Ext.refl w) (by rw [HS.out])
 · by_cases hn6:6<n
   · have HS:Hid (genS n gs=([],3)):=by
      show _=_;unfold genS;rw [if_pos (Or.inr hn6)]
     go_enter func30,ntmps30
     go_wp2
     go_ret2
     exact IE.none (Ext.refl w) (by rw [HS.out])
   · by_cases h16:(16:Int)<ng
     · have HS:Hid (genS n gs=([],2)):=by
        show _=_;unfold genS;rw [if_neg (by omega),if_pos (by rw [HG.out]; omega)]
       go_enter func30,ntmps30
       go_wp2
       go_ret2
       exact IE.none (Ext.refl w) (by rw [HS.out])
     · obtain ⟨k6,hk6,hk6'⟩:∃ k6:Nat,n=(k6:Int)∧k6≤6:=⟨n.toNat,by omega,by omega⟩;subst hk6;have HS0:Hid (genS k6 gs=if gs.all Ar=true then if gs.all (fun m=>decide ((m.length:Int)=k6))=true then (Classical.epsilon (Gb k6 gs),0) else ([],4) else ([],1)):=by
        show _=_;unfold genS;rw [if_neg (by omega),if_neg (by rw [HG.out]; omega)];rfl
       clear hn0 hn6
       go_enter func30,ntmps30
       go_wp2
       go_loopw [21] (fun i wr=>∃ k:Nat,k≤ng∧i = .int .i64 k∧Ext w wr∧Hid ((gs.take k).all Ar=true)) (fun i _=>ng-(intOf i).toNat)
       case atStart=>exact ⟨0,Nat.zero_le _,rfl,Ext.refl _,qh rfl⟩
       case round =>
        obtain ⟨k,hk,rfl,hE,HV⟩:=hrel;have hgw:=hg.ext hE;by_cases hlt:k<ng
        · obtain ⟨bg,og,ag1,ng1,cg1,rfl,hcg,hSg⟩:=hgw.at hlt;have hkl:k<gs.length:=by rw [HG.out]; exact hlt
          cases hv:Ar (gs.getD k []) with
          | false =>
           have HS:Hid (genS k6 gs=([],1)):=by
            show _=_;rw [HS0.out,if_neg (by rw [OS hkl hv]; simp)]
           go_wp2_with fail
           refine (AW hSg).mono ?_;rw [hv];rintro e w1 ⟨rfl,hE1⟩;go_wp2
           go_ret2
           exact IE.none (hE.trans hE1) (by rw [HS.out])
          | true =>
           have HV2:=qh (J4 hkl HV.out hv)
           go_wp2_with fail
           refine (AW hSg).mono ?_;rw [hv];rintro e w1 ⟨rfl,hE1⟩;go_wp2;go_roundw
           case rel=>exact ⟨k+1,by omega,by go_num,hE.trans hE1,HV2⟩
           case measure=>simp [intOf]; omega
        · have hall:Hid (gs.all Ar=true):=by
           have:=HV.out;rw [List.take_of_length_le (by have:=HG.out; omega)] at this;exact this
          obtain ⟨wo,rfl⟩:∃ wo:World,wo=wr:=⟨_,rfl⟩;clear HV;go_wp2
          go_loop [31] (fun i=>∃ k:Nat,k≤ng∧i = .int .i64 k∧Hid ((gs.take k).all (fun m=>decide ((m.length:Int)=k6))=true)) (fun i=>ng-(intOf i).toNat)
          case atStart=>exact ⟨0,Nat.zero_le _,rfl,qh rfl⟩
          case round =>
           clear hlt;obtain ⟨k,hk,rfl,HV⟩:=hrel;by_cases hlt:k<ng
           · obtain ⟨bg,og,ag1,ng1,cg1,rfl,hcg,hSg⟩:=hgw.at hlt;have hkl:k<gs.length:=by rw [HG.out]; exact hlt
             have HL:=qh hSg.len;by_cases hne:ng1=k6
             · have hnb:((ng1:Int) != (k6:Int))=false:=by simp [hne]
               have HV2:=qh (J4 hkl HV.out (by rw [HL.out]; simp [hne]));clear hne hSg;go_wp2;go_round
               case rel=>exact ⟨k+1,by omega,by go_num,HV2⟩
               case measure=>simp [intOf]; omega
             · have hnb:((ng1:Int) != (k6:Int))=true:=by simp; omega
               have HS:Hid (genS k6 gs=([],4)):=by
                show _=_;rw [HS0.out,if_pos hall.out,if_neg];rw [OS hkl (by rw [HL.out]; simp; omega)];simp
               clear hne hSg;go_wp2
               go_ret2
               exact IE.none hE (by rw [HS.out])
           · have hlen:Hid (gs.all (fun m=>decide ((m.length:Int)=k6))=true):=by
              have:=HV.out;rw [List.take_of_length_le (by have:=HG.out; omega)] at this;exact this
             have HS:Hid (genS k6 gs=(Classical.epsilon (Gb k6 gs),0)):=by
              show _=_;rw [HS0.out,if_pos hall.out,if_pos hlen.out]
             have HP:Hid (B5 gs k6):=by
              show B5 gs k6;intro g hg;have h1:=hall.out;have h2:=hlen.out;rw [List.all_eq_true] at h1 h2;have h3:=h2 g hg;rw [decide_eq_true_eq] at h3;exact ⟨h1 g hg,by omega⟩
             clear HV HS0
             go_wp2_with fail
             refine (Dg hgw hk6' HP.out).mono ?_;rintro e w1 ⟨r,L,rfl,hE1,hr,hM,hnd,hmem⟩;have hLb:=D7 hk6' HP.out hnd (fun p hp=>(hmem p).1 hp);have hL1:0<L.length:=List.length_pos_of_mem ((hmem _).2 (Do gs k6))
             go_wp2_with fail
             refine (Ga hM hk6' (fun x hx=>(BE hk6' HP.out ((hmem x).1 hx)).2) (by omega) hL1).mono ?_;rintro e w2 ⟨ps,⟨a2,n2,c2,cells,rfl,hE2,hn2,hO2,hQ2⟩,hperm,hord⟩;have HN2:=qh hn2;clear hn2;go_wp2
             go_ret2
             have hok:Gb k6 gs ps:=⟨hperm.nodup_iff.2 hnd,fun p=>by rw [hperm.mem_iff,hmem],by rw [hperm.length_eq]; exact hord⟩;rw [HS.out,←Gb.eq hok];exact ⟨a2,n2,c2,rfl,(hE.trans hE1).trans hE2,Tp HN2.out hO2 hQ2⟩
theorem S7 (h:∀ x∈q,0≤x∧x<n):comp (idn n) q=q:=by
 unfold comp
 conv=>rhs; rw [←List.map_id q]
 refine List.map_congr_left fun x hx => ?_;have:=h x hx;rw [G3 (by omega)];simp;omega
theorem S8:∀ n,n<5→(gen n (idn n)).Nodup∧(gen n (idn n)).length∣24∧∀ xs∈gen n (idn n),Ar xs=true∧xs.length=n:=by decide +kernel
theorem Qd {gs:List (List Int)} (h0:0<gs.length) (f:List Int→List Int→List Int):∀ (k:Nat) (S:List (List Int)),S.length≤k→S.Nodup→(∀ x∈S,(gs.map (f x)).Nodup)→(∀ x∈S,∀ g∈gs,f x g∈S)→(∀ x∈S,∀ y∈S,∀ g∈gs,f y g∈gs.map (f x)→y∈gs.map (f x))→gs.length∣S.length
 | _,[],_,_,_,_,_=>Nat.dvd_zero _
 | 0,_ :: _,h,_,_,_,_=>by simp at h
 | k+1,x :: r,hk,hn,h1,h2,h3=>by
  obtain ⟨S,hS⟩:∃ S,x :: r=S:=⟨_,rfl⟩;have hx:x∈S:=by rw [←hS]; simp
  rw [hS] at hk hn h1 h2 h3 ⊢;have e1:(S.filter fun y=>decide (y∈gs.map (f x))).length=gs.length:=by
   have h:=Pl.perm_mem (hn.filter _) (h1 x hx) (l:=S.filter fun y=>decide (y∈gs.map (f x))) fun y=>by
    rw [List.mem_filter];constructor
    · rintro ⟨_,h⟩;exact of_decide_eq_true h
    · intro h;obtain ⟨g,hg,rfl⟩:=List.mem_map.1 h;exact ⟨h2 x hx g hg,decide_eq_true h⟩
   rw [h.length_eq,List.length_map]
  have e2:=List.length_eq_countP_add_countP (fun y=>decide (y∈gs.map (f x))) (l:=S);rw [List.countP_eq_length_filter,List.countP_eq_length_filter] at e2;rw [e2,e1];refine Nat.dvd_add (Nat.dvd_refl _) (Qd h0 f k _ (by omega) (hn.filter _) (fun y hy=>h1 y (List.mem_filter.1 hy).1) (fun y hy g hg => ?_) fun y hy z hz=>h3 y (List.mem_filter.1 hy).1 z (List.mem_filter.1 hz).1);have hm:=List.mem_filter.1 hy;refine List.mem_filter.2 ⟨h2 y hm.1 g hg, ?_⟩;have h5:=of_decide_eq_true hm.2;refine decide_eq_true fun h=>h5 ?_;have h6:=of_decide_eq_true h;exact decide_eq_true (h3 x hx y hm.1 g hg h6)
theorem Um (G:GN gs n) (h4:n≤4):gs.length∣24:=by
 obtain ⟨b1,b2,b3⟩:=S8 n (by omega);have hgl:=G.l;refine Nat.dvd_trans (Qd G.g.pos (fun y g=>comp y g) _ (gen n (idn n)) (lrf _) b1 (fun x hx => ?_) (fun x hx g hg => ?_) fun x hx y hy g hg h => ?_) b2
 · rw [List.nodup_iff_pairwise_ne,List.pairwise_map];obtain ⟨px,lx⟩:=b3 x hx;refine List.Pairwise.imp_of_mem ?_ (List.nodup_iff_pairwise_ne.1 G.g.sort.nodup);intro a b ha hb hne e
   have key:∀ z∈gs,comp (BU x x.length) (comp x z)=z:=fun z hz=>by
    obtain ⟨pz,lz⟩:=G.p z hz;have hz:=(AF pz).2.1;rw [←C3 (by rw [lx,←lz]; exact hz),N3 px,S7 (by rw [lx,←lz]; exact hz)]
   exact hne (by rw [←key a ha,←key b hb,e])
 · obtain ⟨px,lx⟩:=b3 x hx;obtain ⟨pg,lg⟩:=G.p g hg;have h:=(Ez (Es px pg (lx.trans lg.symm))).2;rw [B6,lg] at h;exact h
 · obtain ⟨px,lx⟩:=b3 x hx;obtain ⟨py,ly⟩:=b3 y hy;obtain ⟨pg,lg⟩:=G.p g hg;have lc:(comp y g).length=(gs.getD 0 []).length:=by rw [B6,lg,hgl]
   obtain ⟨a,ha,e⟩:=List.mem_map.1 h;have r1:Ca gs (comp y g) x:=(Ca.iff G.g lc (by omega)).2 ⟨a,ha,e.symm⟩;have r2:Ca gs (comp y g) y:=(Ca.iff G.g lc (by omega)).2 ⟨g,hg,rfl⟩;have r3:=Ca.trans G.g (by omega) lc (by omega) (Ca.symm G.g lc (by omega) r2) r1;obtain ⟨b,hb,e⟩:=(Ca.iff G.g (by omega) (by omega)).1 r3;exact List.mem_map.2 ⟨b,hb,e.symm⟩
open Classical in
theorem Un (h0:n≤4) (pA:Ar A=true) (pB:Ar B=true) (lA:A.length=n) (lB:B.length=n):∃ gs,genS (n:Int) [A,B]=(gs,0)∧GN gs n∧gs.length∣24:=by
 have hP:B5 [A,B] n:=fun g hg=>by
  simp only [List.mem_cons,List.not_mem_nil,or_false] at hg;rcases hg with rfl|rfl
  · exact ⟨pA,lA⟩
  · exact ⟨pB,lB⟩
 obtain ⟨b1,_,_⟩:=S8 n (by omega);obtain ⟨ps,h1,h2⟩:=S2 ((gen n (idn n)).filter fun p=>decide (Ch [A,B] n p))
 have hR:∀ p,p∈ps↔Ch [A,B] n p:=fun p=>by
  rw [h1.mem_iff,List.mem_filter,decide_eq_true_eq];refine ⟨fun h=>h.2,fun h=>⟨?_,h⟩⟩;obtain ⟨pp,lp⟩:=BE (by omega) hP h;have:=(Ez pp).2;rw [lp] at this;exact this
 have hn:ps.Nodup:=(h1.nodup_iff).2 (b1.filter _);have e:=Gb.eq (n:=n) (gs:=[A,B]) ⟨hn,hR,h2⟩;have hps:B5 ps n:=fun p hp=>BE (by omega) hP ((hR p).1 hp);have hpos:0<ps.length:=List.length_pos_of_mem ((hR _).2 (Do _ _));have hl:(ps.getD 0 []).length=n:=(hps _ (Bs hpos)).2;have hG:isG ps:=by
  refine ⟨hpos,by rw [hl]; exact hps,fun i j hij hj => ?_, ?_⟩
  · have h3:=h2 i j (by omega) hij hj;rcases Int.lt_or_eq_of_le h3 with h|h
    · exact h
    · have h4:=Hs h;rw [gqq,gqq,List.getElem?_eq_getElem (by omega),List.getElem?_eq_getElem hj,Option.getD_some,Option.getD_some] at h4;have:=(List.getElem_inj hn).1 h4;omega
  · rw [hl];rintro p ⟨ws,hw,rfl⟩;rw [hR]
    induction ws with
    | nil=>exact Do _ n
    | cons g ws ih=>exact KL (by omega) hP ((hR g).1 (hw g (by simp))) (ih fun x hx=>hw x (by simp [hx]))
 have G:GN ps n:=⟨hG,hps,hl,by omega⟩;refine ⟨ps, ?_,G,Um G h0⟩;unfold genS;rw [if_neg (by omega),if_neg (by simp),if_pos (by simp [pA,pB]),if_pos (by simp [lA,lB]),e];rfl
theorem V8:∀ m,m<25→0<m→m∣5354228880:=by decide
theorem Oa:5354228880<P2 33:=by unfold P2; decide
theorem S9 {m:Nat} {q:Rat} (h:Pl.QB D Y q) (h0:0<m) (h1:m≤24):Pl.QB (D*5354228880) (Y*5354228880) (q*(((m:Nat):Int):Rat)⁻¹):=by
 obtain ⟨z,e,hz⟩:=h;obtain ⟨c,hc⟩:=V8 m (by omega) h0;refine ⟨z*(c:Int), ?_, ?_⟩
 · have hm:(((m:Nat):Int):Rat)≠0:=fun h=>by
    have:=congrArg Rat.num h;simp at this;omega
   rw [hc,Rat.natCast_mul,Rat.natCast_mul,Rat.intCast_mul,←e];have e2:((m:Nat):Rat)=(((m:Nat):Int):Rat):=rfl;have e3:((c:Nat):Rat)=(((c:Nat):Int):Rat):=rfl;rw [e2,e3];obtain ⟨M,hM⟩:∃ M,(((m:Nat):Int):Rat)=M:=⟨_,rfl⟩;rw [hM] at hm ⊢;have h5:=Rat.inv_mul_cancel _ hm;generalize (((c:Nat):Int):Rat)=C;generalize (D:Rat)=E
   calc q*M⁻¹*(E*(M*C))=q*E*C*(M⁻¹*M):=by grind
    _=q*E*C:=by rw [h5,Rat.mul_one]
 · rw [Int.natAbs_mul,Int.natAbs_natCast,hc];exact Nat.mul_le_mul hz (Nat.le_mul_of_pos_left _ h0)
theorem MB {D Y:Nat} {c:List Int→Prop} [∀ e,Decidable (c e)]:∀ {l:List Pl.Tm},Pl.SB D Y l→Pl.QB D (l.length*Y) (Pl.lin (fun e=>if c e then 1 else 0) l)
 | [],_=>Pl.QB.zero _ _
 | t :: r,h=>by
  have h1:Pl.QB D Y (t.2*(if c t.1 then 1 else 0)):=by
   split
   · rw [Rat.mul_one];exact h t (by simp)
   · rw [Rat.mul_zero];exact Pl.QB.zero _ _
  have h2:=Pl.QB.add h1 (MB (c:=c) (l:=r) (fun s hs=>h s (by simp [hs])));exact h2.mono (by rw [List.length_cons,Nat.add_mul]; omega)
theorem Ta {b:Nat} {p:List Pl.Tm} (h:Pl.SB D Y p) (hD:0<D) (h1:D<P2 b) (h2:p.length*Y<P2 b) (hb:b≤1920) (hk:Lo p) (hl:p.length≤4096):Dv p where
 pre:=fun a s e x=>by
  have ha:Pl.SB D Y a:=fun t ht=>h t (by rw [←e]; simp [ht]);have hla:a.length≤p.length:=by rw [←e]; simp
  exact ((ha.coef x).rb hD h1 (Nat.lt_of_le_of_lt (Nat.mul_le_mul_right _ hla) h2)).mono (by omega)
 each:=fun t ht=>((h t ht).rb hD h1 (Nat.lt_of_le_of_lt (by
  have:1≤p.length:=List.length_pos_of_mem ht;have:=Nat.mul_le_mul_right Y this
  omega) h2)).mono (by omega)
 fits:=Mu h hD h1 h2 hb (fun t ht=>⟨(hk t ht).1,fun x hx=>by have:=(hk t ht).2 x hx; omega⟩) (by omega)
theorem Di {p:List Pl.Tm} (h:∀ t∈p,InV n t.1) {e:List Int} (he:¬ InV n e):Pl.coef p e=0 :=
 Pl.coef_absent fun t ht h1=>he (by rw [←h1]; exact h t ht)
section
variable {gs:List (List Int)} {n N d y:Nat} {l:List Pl.Tm}
theorem Gv (gs:List (List Int)) (n:Nat) (l:List Pl.Tm):((sumK gs n l).map (·.1)).Nodup:=by
 have key:∀ (l acc:List Pl.Tm),(acc.map (·.1)).Nodup→((l.foldl (fun acc t=>Pl.putK acc (rk gs n t.1) (Pl.getK 0 acc (rk gs n t.1)+t.2)) acc).map (·.1)).Nodup:=by
  intro l
  induction l with
  | nil=>exact fun acc h=>h
  | cons t r ih=>exact fun acc h=>ih _ (Pl.putK_nodup _ _ _ h)
 exact key l [] (by simp)
theorem Hj (G:GN gs n) (hl:∀ t∈l,InV n t.1) {x:List Int} (hx:x.length=n):Pl.coef (avP gs n l) (Ae x)=Pl.lin (fun e=>if rk gs n e=Ae (Bv gs x) then 1 else 0) l*(oN gs x)⁻¹:=by
 unfold avP;rw [P9 G hx (fun p hp => ?_) (Gv gs n l),Hi];obtain ⟨t,ht,e⟩:=Ks gs n l p hp;have h:=(hl t ht).tk G.n6;exact ⟨Bv gs (t.1.take n),by rw [FSq,h],e,S3 G h⟩
theorem MC (G:GN gs n) (hl:∀ t∈l,InV n t.1) {t:Tx} (ht:t∈avT gs n (sumK gs n l)):∃ s∈l,∃ a,Ar a=true∧a.length=n∧Ae t.2=mp n a s.1∧t.2.length=n∧∃ k m,t.1=txt (Pl.getK 0 (sumK gs n l) k*(((m:Nat):Int):Rat)⁻¹)∧0<m∧m≤gs.length:=by
 obtain ⟨p,hp,ht⟩:=List.mem_flatMap.1 ht;obtain ⟨s,hs,e⟩:=Ks gs n l p hp;have hsl:=(hl s hs).tk G.n6;unfold orbT at ht;split at ht
 · cases ht
 · obtain ⟨x,hx,rfl⟩:=List.mem_map.1 ht;rw [(Hg _).mem_iff] at hx;obtain ⟨g,hg,e1⟩:=ER.1 hx;obtain ⟨h,hh,e2⟩:=EQ G.g (hsl.trans G.l.symm);obtain ⟨pg,lg⟩:=G.p g hg;obtain ⟨ph,lh⟩:=G.p h hh;have e3:p.1.take n=mvd h (s.1.take n):=by
    have h1:=Cz (l:=Bv gs (s.1.take n));rw [FSq,hsl] at h1;rw [e];unfold rk;rw [h1,e2]
   have e4:x=mvd (comp g h) (s.1.take n):=by
    rw [←e1,e3,PV pg ph (by omega) (by omega)]
   refine ⟨s,hs,comp g h,Es pg ph (by omega),by rw [B6,lh], ?_, ?_,p.1,_, ?_,List.length_pos_of_mem hx,Jf _⟩
   · show Ae x=Ae _;rw [e4]
   · show x.length=n;rw [e4,Bg,hsl]
   · rw [Pl.getK_coef _ _ (Gv gs n l),Pl.coef_mem (Gv gs n l) hp]
theorem MD (G:GN gs n) (hl:∀ t∈l,InV n t.1) {u:Pl.Tm} (hu:u∈avP gs n l):∃ s∈l,∃ a,Ar a=true∧a.length=n∧u.1=mp n a s.1∧∃ k m,u.2=Pl.getK 0 (sumK gs n l) k*(((m:Nat):Int):Rat)⁻¹∧0<m∧m≤gs.length:=by
 obtain ⟨t,ht,rfl⟩:=List.mem_map.1 hu;obtain ⟨s,hs,a,pa,la,e,_,k,m,e2,h1,h2⟩:=MC G hl ht;refine ⟨s,hs,a,pa,la,e,k,m, ?_,h1,h2⟩;show (A8 t.1).getD 0=_;rw [e2,Bm];rfl
theorem ES (G:GN gs n) (hl:∀ t∈l,InV n t.1):∀ u∈avP gs n l,InV n u.1:=fun u hu=>by
 obtain ⟨s,hs,a,pa,la,e,_⟩:=MD G hl hu;rw [e];exact Ko pa la G.n6 (hl s hs)
theorem Qe (G:GN gs n) (hl:∀ t∈l,InV n t.1) (h24:∀ t∈l,t.1.sum≤24):∀ u∈avP gs n l,u.1.sum≤24:=fun u hu=>by
 obtain ⟨s,hs,a,pa,la,e,_⟩:=MD G hl hu;rw [e,O4 pa la G.n6 (hl s hs)];exact h24 s hs
theorem ME (h24:gs.length≤24):(avT gs n (sumK gs n l)).length≤l.length*24:=by
 have key:∀ K:List Pl.Tm,(avT gs n K).length≤K.length*24:=by
  intro K
  induction K with
  | nil=>simp [avT]
  | cons p r ih =>
   have e1:avT gs n (p :: r)=orbT gs n p ++ avT gs n r:=by simp [avT]
   have h1:(orbT gs n p).length≤24:=by
    unfold orbT;split
    · simp
    · rw [List.length_map,(Hg _).length_eq];exact Nat.le_trans (Jf _) h24
   rw [e1,List.length_append,List.length_cons];omega
 exact Nat.le_trans (key _) (Nat.mul_le_mul_right _ (Kr gs n l))
theorem Lo.avP (G:GN gs n) (hl:∀ t∈l,InV n t.1) (h24:∀ t∈l,t.1.sum≤24):Lo (avP gs n l):=fun u hu=>by
 have h1:=ES G hl u hu;have h2:=Qe G hl h24 u hu;exact ⟨h1.1,fun x hx=>⟨h1.2.1 x hx,by have:=(Fx h1.2.1).2 x hx; show x≤_; omega⟩⟩
theorem SB.avP (G:GN gs n) (hl:∀ t∈l,InV n t.1) (g24:gs.length≤24) {D Y:Nat} (h:Pl.SB D Y l):Pl.SB (D*5354228880) (l.length*Y*5354228880) (avP gs n l):=fun u hu=>by
 obtain ⟨_,_,_,_,_,_,k,m,e,h1,h2⟩:=MD G hl hu;rw [e,Hi];exact S9 (MB h) h1 (by omega)
theorem UL (G:GN gs n) (g24:gs.length≤24) (h:Bd (n:Int) N d y l) (h24:∀ t∈l,t.1.sum≤24) (hN:N≤128) (hd:d≤300) (hy:y≤300):SV gs n l:=by
 have hl:=h.pv.inv;obtain ⟨D,d1,d2,d3⟩:=h.sb;have h7:l.length≤P2 7:=Nat.le_trans h.len (Nat.le_trans hN (by unfold P2; decide));have b1:l.length*P2 y<P2 308:=by
  refine Nat.lt_of_le_of_lt (Nat.mul_le_mul_right _ h7) ?_;rw [←BZ];exact Ed (by omega)
 have b2:l.length*P2 y*5354228880<P2 341:=B0 b1 Oa
 have hq:∀ k e,Pl.RB 400 (Pl.getK 0 (sumK gs n (l.take k)) e):=fun k e=>by
  have h1:=MB (c:=fun f=>rk gs n f=e) (l:=l.take k) (fun t ht=>d3 t (List.mem_of_mem_take ht));rw [Hi];refine h1.rb d1 (Ag d2 (by omega)) (Ag (Nat.lt_of_le_of_lt (Nat.mul_le_mul_right _ ?_) b1) (by omega));rw [List.length_take];omega
 have htx:∀ q,Pl.RB 400 q→(txt q).length≤570:=fun q h=>by have:=P5 h; omega
 have hln:=ME (gs:=gs) (n:=n) (l:=l) g24;have hl2:l.length*24≤128*24:=Nat.mul_le_mul_right _ (Nat.le_trans h.len hN);refine ⟨hq,fun t ht=>(d3 t ht).rb d1 (Ag d2 (by omega)) (Ed (by omega)),htx,by omega,by omega,fun t ht => ?_,fun t ht => ?_, ?_⟩
 · obtain ⟨s,hs,a,pa,la,e,hlen,k,m,e2,_⟩:=MC G hl ht;have hI:=Ko pa la G.n6 (hl s hs);have hS:=O4 pa la G.n6 (hl s hs);rw [←e] at hI hS;rw [FQ] at hS;refine ⟨by rw [e2,Bm]; rfl,by rw [hlen],DR.2 ⟨by have:=G.n6; omega,fun x hx=>hI.2.1 x (List.mem_append_left _ hx),by rw [hS]; exact h24 s hs⟩⟩
 · obtain ⟨s,hs,a,pa,la,e,hlen,k,m,e2,h1,h2⟩:=MC G hl ht;rw [e2,Hi];refine htx _ ((S9 (MB d3) h1 (by omega)).rb (Nat.mul_pos d1 (by omega)) (Ag (B0 d2 Oa) (by omega)) (Ag b2 (by omega)))
 · refine Ta (b:=400) (SB.avP G hl g24 d3) (Nat.mul_pos d1 (by omega)) (Ag (B0 d2 Oa) (by omega)) ?_ (by omega) (Lo.avP G hl h24) (by rw [List.length_map]; omega);have h12:(avP gs n l).length≤P2 12:=by
    have e1:(avP gs n l).length=(avT gs n (sumK gs n l)).length:=List.length_map ..;have e2:4096≤P2 12:=by unfold P2; decide
    omega
   have h3:(avP gs n l).length*(l.length*P2 y*5354228880)≤P2 12*P2 341:=Nat.mul_le_mul h12 (Nat.le_of_lt b2);rw [←BZ] at h3;exact Nat.lt_of_le_of_lt h3 (Ed (by omega))
theorem Bd.avP (G:GN gs n) (g24:gs.length≤24) (h:Bd (n:Int) N d y l) (h24:∀ t∈l,t.1.sum≤24) {k:Nat} (hN:N*(N*24)≤P2 k):Bd (n:Int) (N*24) (d+33) (k+(y+33)) (cnP (avP gs n l)):=by
 have hI:=ES G h.pv.inv;have h6:∀ t∈Go.Proofs.YtlpgonpfjbhmfaaGreatDoor.avP gs n l,t.1.length=6:=fun t ht=>(hI t ht).1;have hln:(Go.Proofs.YtlpgonpfjbhmfaaGreatDoor.avP gs n l).length≤l.length*24:=by unfold Go.Proofs.YtlpgonpfjbhmfaaGreatDoor.avP; rw [List.length_map]; exact ME g24
 have hl2:l.length*24≤N*24:=Nat.mul_le_mul_right _ h.len;obtain ⟨D,d1,d2,d3⟩:=h.sb;refine ⟨⟨h.pv.v0,(Cq h6).1,FR hI⟩,fun t ht => ?_,Nat.le_trans (Hc h6) (by omega),D*5354228880,Nat.mul_pos d1 (by omega),B0 d2 Oa,(SB.cn h6 (SB.avP G h.pv.inv g24 d3)).mono ?_⟩
 · obtain ⟨s,hs,e⟩:=Hb h6 ht;rw [←e];exact Lo.avP G h.pv.inv h24 s hs
 · have h3:(Go.Proofs.YtlpgonpfjbhmfaaGreatDoor.avP gs n l).length*(l.length*P2 y*5354228880)≤N*24*(N*P2 y*P2 33):=Nat.mul_le_mul (by omega) (Nat.mul_le_mul (Nat.mul_le_mul_right _ h.len) (Nat.le_of_lt Oa));refine Nat.le_trans h3 ?_;have e1:N*24*(N*P2 y*P2 33)=N*(N*24)*(P2 y*P2 33):=by
    rw [Nat.mul_assoc N (P2 y),←Nat.mul_assoc,Nat.mul_assoc N 24 N,Nat.mul_comm 24 N]
   rw [e1,BZ,BZ];exact Nat.mul_le_mul_right _ hN
theorem Vu (G:GN gs n) (hl:∀ t∈l,InV n t.1) {a:List Int} (ha:a∈gs) (e:List Int):Pl.coef (C6 n a (cnP (avP gs n l))) e=Pl.coef (avP gs n l) e:=by
 obtain ⟨pa,la⟩:=G.p a ha;have hI:=ES G hl;have h6:∀ t∈avP gs n l,t.1.length=6:=fun t ht=>(hI t ht).1;have hIc:=FR hI;by_cases he:InV n e
 · have hb:=G5 pa;have lb:(BU a a.length).length=n:=by rw [Cc,la]
   have hf:=Ko hb lb G.n6 he;have e1:mp n a (mp n (BU a a.length) e)=e:=by
    rw [V0 pa hb la lb G.n6 he,FN pa];unfold mp;have ht:=he.tk G.n6;have h1:mvd (idn a.length) (e.take n)=e.take n:=by
     refine (Mz (J6 (by rw [la]; exact G.n6)) (by rw [Dw,ht,la]) (by rw [Dw,ht,la])).2 ?_;rw [la]
     conv=>rhs; rw [←ht]
     rw [ht]
     conv=>rhs; rw [show idn n=idn (e.take n).length by rw [ht]]
     rw [DQ]
    rw [h1,he.2.2]
   generalize mp n (BU a a.length) e=f at hf e1;subst e1;rw [NW pa la G.n6 hIc hf,(Cq h6).2];have hx:=hf.tk G.n6;have e2:Ae (f.take n)=f:=hf.2.2;have e3:mp n a f=Ae (mvd a (f.take n)):=rfl;have hl2:(mvd a (f.take n)).length=n:=by rw [Bg,hx]
   have hr:=(DU G hx hl2).1 ⟨a,ha,rfl⟩;rw [e3]
   conv=>lhs; rw [←e2]
   rw [Hj G hl hx,Hj G hl hl2,←hr];unfold oN;rw [Hh G hx hl2 hr]
 · rw [Di hI he,Di (Mx pa la G.n6 hIc) he]
theorem V9 (G:GN gs n) (hl:∀ t∈l,InV n t.1) (e:List Int):Pl.coef (avP gs n (cnP (avP gs n l))) e=Pl.coef (avP gs n l) e:=by
 have hI:=ES G hl;have h6:∀ t∈avP gs n l,t.1.length=6:=fun t ht=>(hI t ht).1;have hIc:=FR hI;by_cases he:InV n e
 · have e2:Ae (e.take n)=e:=he.2.2;rw [←e2,Hj G hIc (he.tk G.n6),Hj G hl (he.tk G.n6),Pl.lin_ext (Cq h6).2,Qc G (Ul G _) hl]
 · rw [Di hI he,Di (ES G hIc) he]
theorem Wa (G:GN gs n) (hl:∀ t∈l,InV n t.1) (c:Rat):Pl.evq (List.replicate n c) (cnP (avP gs n l))=Pl.evq (List.replicate n c) l:=by
 have hI:=ES G hl;have h6:∀ t∈avP gs n l,t.1.length=6:=fun t ht=>(hI t ht).1;rw [Ue (Cq h6).2,He,He];refine Qc G (fun x hx a ha => ?_) hl;obtain ⟨pa,la⟩:=G.p a ha;rw [List.length_replicate,Im,Im];have h1:=(J8 pa).map (fun v=>((List.replicate n c).getD v 0)^((Ae (mvd a x)).getD v 0).toNat);rw [List.map_map,la] at h1;rw [←Rf h1];congr 1;refine List.map_congr_left fun i hi => ?_;have hi':=List.mem_range.1 hi;have h0:=B3 pa (i:=i) (by omega)
 show (List.replicate n c).getD (a.getD i 0).toNat 0^((Ae (mvd a x)).getD (a.getD i 0).toNat 0).toNat=(List.replicate n c).getD i 0^((Ae x).getD i 0).toNat
 have h2:(Ae (mvd a x)).getD (a.getD i 0).toNat 0=(Ae x).getD i 0:=by
  rw [Ir (by rw [Bg]; omega),Ir (by omega),Fr pa (by omega) (by omega)]
 have h3:∀ j,j<n→(List.replicate n c).getD j 0=c:=fun j hj=>by simp [hj]
 rw [h2,h3 _ (by omega),h3 _ hi']
end
theorem Wb:10^6≤P2 20:=by unfold P2; decide
theorem Vv:5*(5*24)≤P2 10:=by unfold P2; decide
theorem UM {g:Nat→Nat} (h:∀ v,g v≤24):∀ k,sg g k≤24*k
 | 0=>lrf _
 | k+1=>by
  have h1:=UM h k;have h2:=h k;show sg g k+g k≤_;omega
theorem Tb {N d y:Nat} {l:List Pl.Tm} {pt:List Rat} (h:Bd v N d y l) (h24:∀ t∈l,t.1.sum≤24) (hx:∀ q∈pt,Q6 q) (hl:pt.length≤4) (hN:N≤128) (hd:d≤150) (hy:y≤170):EvB l pt∧EZ (Pl.evq pt l):=by
 obtain ⟨D,d1,d2,d3⟩:=h.sb;have hlen:=h.len;have hex:=h.lo;have hD:D<P2 150:=Ag d2 hd
 have hx':∀ v,v<pt.length→Q6 (pt.getD v 0):=fun v hv=>by
  rw [gqq,List.getElem?_eq_getElem hv];exact hx _ (List.getElem_mem _)
 have hg6:∀ t∈l,∀ k,k≤pt.length→sg (fun v=>(t.1.getD v 0).toNat) k≤24:=fun t ht k hk =>
  V5 (fun x hx=>((hex t ht).2 x hx).1) (by rw [(hex t ht).1]; omega) (h24 t ht)
 have gr:∀ v,Pl.grt l v≤24:=fun v=>O0 l 0 (Nat.zero_le _) fun t ht=>by
  have h1:=(G7 (v:=v) (hex t ht).2).1;have h2:=h24 t ht;have h3:=Fx fun x hx=>((hex t ht).2 x hx).1;rcases Nat.lt_or_ge v t.1.length with hv|hv
  · have h4:=h3.2 _ (List.getElem_mem hv);rw [gqq,List.getElem?_eq_getElem hv,Option.getD_some];omega
  · rw [gqq,List.getElem?_eq_none hv];simp
 have hG:∀ k,k≤pt.length→sg (Pl.grt l) k≤96:=fun k hk=>by
  have:=UM gr k;omega
 have hcf:∀ t∈l,Pl.RB 171 t.2:=fun t ht=>(d3 t ht).rb d1 (Ag d2 (by omega)) (Nat.lt_of_lt_of_le (Ed (Nat.lt_succ_self y)) (M5 (by omega)));obtain ⟨L,hL⟩:∃ L,Cv (l.map (·.2))=L:=⟨_,rfl⟩
 have hLb:∀ k,Cv ((l.map (·.2)).take k)<P2 150:=fun k=>by
  rw [←List.map_take];exact Nat.lt_of_le_of_lt (Pl.SB.lcm (fun t ht=>d3 t (List.mem_of_mem_take ht)) d1) hD
 have hL1:L<P2 150:=by
  have:=hLb (l.map (·.2)).length;rw [List.take_length,hL] at this;exact this
 have hze:∀ t∈l,∀ k,k≤pt.length→(Pl.zev L (Pl.grt l) pt t k).natAbs≤P2 171*P2 150*D10 432:=fun t ht k hk=>by
  refine Nat.le_trans (UJ hx' k hk fun v _=>Pl.le_grt v ht) (Nat.mul_le_mul ?_ (SM ?_))
  · unfold Pl.zsc;rw [Int.natAbs_mul];exact Nat.mul_le_mul (Nat.le_of_lt (hcf t ht).1) (Nat.le_trans (Nat.div_le_self _ _) (Nat.le_of_lt hL1))
  · have h1:=hG k hk;have h2:=hg6 t ht k hk;omega
 have hzs:(Pl.zsum (fun t=>Pl.zev L (Pl.grt l) pt t pt.length) l).natAbs≤128*(P2 171*P2 150*D10 432):=by
  unfold Pl.zsum;rw [Pl.zsum_foldl,Int.zero_add];exact Nat.le_trans (SP _ l fun t ht=>hze t ht _ (lrf _)) (Nat.mul_le_mul_right _ (by omega))
 have hde:∀ k,k≤pt.length→Pl.dev L (Pl.grt l) pt k≤P2 150*D10 384:=fun k hk =>
  Nat.le_trans (UK hx' k hk) (Nat.mul_le_mul (Nat.le_of_lt hL1) (SM (by have:=hG k hk; omega)))
 have n1:128*(P2 171*P2 150*D10 432)<P2 1920:=by unfold P2 D10; decide +kernel
 have n2:P2 150*D10 384<P2 1920:=by unfold P2 D10; decide +kernel
 have pw:∀ x e,x<10^6→e≤24→x^e<P2 1200:=fun x e hx he=>by
  refine Nat.lt_of_le_of_lt (Nat.pow_le_pow_left (Nat.le_of_lt hx) e) ?_;rw [←Nat.pow_mul];refine Nat.lt_of_le_of_lt (m:=10^144) (Nat.pow_le_pow_right (by omega) (by omega)) ?_;unfold P2;decide +kernel
 have q24:∀ q∈pt,Pl.RB 24 q:=fun q hq=>by
  have e1:10^6≤P2 24:=by unfold P2; decide
  have h1:=(hx q hq).n;have h2:=(hx q hq).d;exact ⟨by omega,by omega⟩
 have hd:∀ t∈l,t.2.den∣L:=fun t ht=>by
  rw [←hL];exact Ke (List.mem_map.2 ⟨t,ht,rfl⟩)
 have hL0:L≠0:=by rw [←hL]; exact Nat.ne_of_gt (Fn _)
 refine ⟨⟨fun t ht=>(hcf t ht).mono (by omega),fun q hq=>(q24 q hq).mono (by omega),fun t ht=>(hex t ht).2,fun k=>Ag (hLb k) (by omega),fun v hv e he=>pw _ _ (hx' v hv).n (Nat.le_trans he (gr v)),fun v hv e he=>pw _ _ (by have:=(hx' v hv).d; omega) (Nat.le_trans he (gr v)), ?_, ?_, ?_⟩, ?_⟩
 · intro t ht k hk;rw [hL];have:=hze t ht k hk;exact Ag (a:=1920) (by omega) (by omega)
 · intro k hk;rw [hL];have:=hde k hk;exact Ag (a:=1920) (by omega) (by omega)
 · rw [hL];exact Ag (a:=1920) (by omega) (by omega)
 · have he:=Pl.ev_done (pt:=pt) hL0 hd;have hn0:=Pl.dev_ne (g:=Pl.grt l) (pt:=pt) hL0 pt.length;have hm:=Pl.mkRat_le (n:=Pl.zsum (fun t=>Pl.zev L (Pl.grt l) pt t pt.length) l) hn0;rw [he] at hm;have:=hde _ (lrf pt.length);exact Lt (by omega) (by omega)
theorem LI (h:A8 t=some c) (n:Nat):rdAll (List.replicate n t)=some (List.replicate n c):=by
 unfold rdAll;rw [if_pos fun i hi => ?_]
 · rw [List.map_replicate,h];rfl
 · rw [List.length_replicate] at hi;simp [hi,h]
structure AvS (n:Nat) (gs:List (List Int)) (tm:List Tx) (lp lm:List Pl.Tm):Prop where
 G:GN gs n
 o1:SV gs n lp
 r1:resQ (n:Int) ((avT gs n (sumK gs n lp)).map Ci)=((n:Int),tm,0)
 rm:rdP (n:Int) tm=some lm
 xm:∀ t∈tm,t.1.length≤570
 act:∀ a∈gs,actA n a (rdP (n:Int) tm)=((n:Int),tm,0)
 sa:∀ a∈gs,Dv (C6 n a lm)
 o2:SV gs n lm
 r2:resQ (n:Int) ((avT gs n (sumK gs n lm)).map Ci)=((n:Int),tm,0)
 ev:∀ c,Pl.evq (List.replicate n c) lm=Pl.evq (List.replicate n c) lp
 e1:∀ c,Q6 c→EvB lp (List.replicate n c)∧EZ (Pl.evq (List.replicate n c) lp)
 e2:∀ c,Q6 c→EvB lm (List.replicate n c)∧EZ (Pl.evq (List.replicate n c) lm)
theorem avS {tp:List Tx} {lp:List Pl.Tm} (G:GN gs n) (g24:gs.length≤24) (n4:n≤4) (hp:rdP (n:Int) tp=some lp) (s1:Dt tp 5 6):∃ tm lm,AvS n gs tm lp lm:=by
 have b1:Bd (n:Int) 5 81 101 lp:=Bd.of hp s1 (by omega) Wb;have s24:=Io hp;have hI:=ES G b1.pv.inv;have h6:∀ t∈avP gs n lp,t.1.length=6:=fun t ht=>(hI t ht).1;have hlen:(avP gs n lp).length≤4096:=by
  have h1:=ME (gs:=gs) (n:=n) (l:=lp) g24;have h2:=b1.len;unfold avP;rw [List.length_map];omega
 have h0:(resQ (n:Int) (avP gs n lp)).2.2=0:=Re hI hlen (Qe G b1.pv.inv s24);obtain ⟨g1,g2⟩:=Ud b1.pv.v0 hI h0;have b2:Bd (n:Int) (5*24) (81+33) (10+(101+33)) (cnP (avP gs n lp)):=b1.avP G g24 s24 Vv;have t24:=Io g2;have r1:resQ (n:Int) (avP gs n lp)=((n:Int),(resQ (n:Int) (avP gs n lp)).2.1,0):=by
  conv=>lhs; rw [←Prod.eta (resQ (n:Int) (avP gs n lp)),←Prod.eta (resQ (n:Int) (avP gs n lp)).2,g1,h0]
 have hQ:∀ c,Q6 c→∀ q∈List.replicate n c,Q6 q:=fun c hc q hq=>by rw [(List.mem_replicate.1 hq).2]; exact hc
 refine ⟨(resQ (n:Int) (avP gs n lp)).2.1,cnP (avP gs n lp),G,UL G g24 b1 s24 (by omega) (by omega) (by omega),r1,g2,b2.text g2 (by omega) (by omega),fun a ha => ?_,fun a ha => ?_,UL G g24 b2 t24 (by omega) (by omega) (by omega), ?_,fun c=>Wa G b1.pv.inv c,fun c hc=>Tb b1 s24 (hQ c hc) (by rw [List.length_replicate]; exact n4) (by omega) (by omega) (by omega),fun c hc=>Tb b2 t24 (hQ c hc) (by rw [List.length_replicate]; exact n4) (by omega) (by omega) (by omega)⟩
 · rw [g2,←r1];exact Km (Vu G b1.pv.inv ha)
 · obtain ⟨pa,la⟩:=G.p a ha;exact b2.sumA t24 pa la G.n6 (by omega) (by omega) (by omega)
 · rw [←r1];exact Km (V9 G b1.pv.inv)
end Go.Proofs.YtlpgonpfjbhmfaaGreatDoor
