/- Part Gav6. -/
import Derived.Test.YtlpgonpfjbhmfaaGreatDoorGav5
import Derived.WalkSpells
import Derived.Maps.RangeWalk
import Derived.Test.YtlpgonpfjbhmfaaGreatDoorGav2
set_option maxRecDepth 100000
set_option maxHeartbeats 100000000
namespace Go.Proofs.YtlpgonpfjbhmfaaGreatDoor
open Tryz Go Go.RowKit
variable {L gs hs l ls ps qs:List (List Int)} {m:List (List Int×Value)} {b p xs:List Int} {seen:List Nat} {cells cs:List Value} {base c cg ck g hi i it k lo n ng r:Nat} {x:Operand} {a ag:Option Addr} {cons:Option Nat} {P:Program} {e mt ty:TypeId} {v:Value} {w:World}
theorem K9 {L:Int} (hS:Srt w base g n c ps) (hn:n≤12) :
 Calls prog 154 #[.slice (some ⟨g,0,none⟩) n c, .int .i64 0, .int .i64 n, .int .i64 L, .func (.func 78) #[] #[]] w (Ji w base g n c ps 0 n):=by
 go_enter func154,ntmps154
 go_wp2_with fail
 go_loopw [1,2] (fun a b wr=>a = .int .i64 0∧b = .int .i64 n∧wr=w) (fun _ _ _=>0)
 case atStart=>exact ⟨rfl,rfl,rfl⟩
 case round =>
  obtain ⟨rfl,rfl,rfl⟩:=hrel
  go_wp2_with fail
  refine (K8 (a:=0) hS (Nat.zero_le _) (lrf _) (by omega)).mono ?_;rintro e w1 ⟨rfl,h⟩;go_wp2
  go_end0
  exact ⟨rfl,h⟩
theorem KH (hS:Srt w base g n c ps) (hn:n≤12) :
 Calls prog 121 #[.slice (some ⟨g,0,none⟩) n c, .func (.func 78) #[] #[]] w (Ji w base g n c ps 0 n):=by
 go_enter func121,ntmps121
 go_wp2_with fail
 refine (bits_Len _ _ (by omega) (by omega)).mono ?_;rintro e w1 ⟨rfl,rfl⟩
 go_wp2_with fail
 refine (K9 hS hn).mono ?_;rintro e w1 ⟨rfl,h⟩;go_wp2
 go_end0
 exact ⟨rfl,h⟩
theorem ET (hx:SlI w a n c xs) (hn:n≤1000000) (hnil:a=none→c=0) :
 Calls prog 41 #[.slice a n c] w (Po w xs):=by
 cases a with
 | none =>
  have h0:c=0:=hnil rfl;subst h0;have h1:n=0:=by have:=Sl.cap hx; omega
  subst h1;have hxs:xs=[]:=List.eq_nil_of_length_eq_zero hx.len;have HX:=Lib.hid hxs;clear hxs;have heq:=fun w':World=>Lib.run_eql_slice_nil (P:=prog) w' 22 3 none 0 0 0 0 underlying22
  go_enter func41,ntmps41
  go_wp2;go_ret;exact ⟨none,0,0,rfl,Ext.refl w,by rw [HX.out]; exact Own.nil _ _ _⟩
 | some ad =>
  have heq:=fun w':World=>Lib.run_eql_slice_nil (P:=prog) w' 22 3 (some ad) n c 0 0 underlying22
  go_enter func41,ntmps41
  go_upto_region 3 with (fail)
  have hA:Ext w (w.alloc (.cells #[] 3)):=(Ext.refl w).alloc _;have hO:=Au w w.heap.size 3 #[] 0 rfl (lrf _) (by omega)
  go_wp2_with (refine Bw rfl rfl underlying22 Bz rfl rfl hO rfl (hx.ext hA) (A6 _) (by unfold maxLen; omega) (by omega) (by simp) ?_; intro a1 c1 w1 hO1 hg1 hb1)
  go_ret;refine ⟨a1,n,c1,rfl,hA.grown hg1 (fun k hk=>(hO.lt hk).1), ?_⟩;simpa [CT] using hO1
def UP (w:World) (ps:List (List Int)) (e:Ending) (w':World):Prop :=
 ∃ a n c cells,e = .returned (.slice a n c)∧Ext w w'∧n=ps.length∧Own w' w.heap.size 22 a n c cells∧QEl w' w.heap.size cells ps
def D9 (w:World) (it:Nat):Nat:=match w.heap[it]? with | some (.mapIter _ _ seen _)=>seen.size | _=>0
theorem EU (h:AG w it r n seen):D9 w it=seen.length:=by
 unfold D9;unfold AG at h;rw [h];simp
def SoR (w0:World) (L:List (List Int)) (r it:Nat) (v:Value) (wr:World):Prop :=
 ∃ seen al nl cl cells,v = .slice al nl cl∧nl=seen.length∧Ext w0 wr∧w0.heap.size≤it∧AN wr r (BK L)∧AG wr it r L.length seen∧seen.Nodup∧(∀ i∈seen,i < L.length) ∧
  Own wr w0.heap.size 22 al nl cl cells∧QEl wr w0.heap.size cells (seen.map (fun i=>L.getD i []))
theorem BW (h:Own w base e a n c cs) (hi:AG w it r k seen):blk a=none∨blk a≠some it:=by
 rcases h.2 with ⟨hv,_⟩ | ⟨g,cap,cur,hv,_,hh,_⟩
 · simp only [Value.slice.injEq] at hv;left;rw [hv.1];rfl
 · simp only [Value.slice.injEq] at hv;right;rw [hv.1];intro he;have:g=it:=by simpa [blk] using he
   subst this;unfold AG at hi;rw [hh] at hi;cases hi
theorem IL {r':Nat} (h:AN w r m) (hi:AG w it r' k seen):some r≠some it:=by
 intro he;have:r=it:=by simpa using he
 subst this;unfold AG at hi;rw [h.obj] at hi;cases hi
theorem IM {α:Type} [BEq α] [LawfulBEq α] {l k:List α} (hl:l.Nodup) (hk:k.Nodup) (h:∀ a,a∈l↔a∈k):l.Perm k:=by
 rw [List.perm_iff_count];intro a;have h1:=List.nodup_iff_count.1 hl a;have h2:=List.nodup_iff_count.1 hk a;have h3:0 < l.count a↔a∈l:=List.count_pos_iff;have h4:0 < k.count a↔a∈k:=List.count_pos_iff;have:=h a;by_cases hm:a∈l
 · have:=h3.2 hm;have:=h4.2 ((h a).1 hm);omega
 · have e1:¬ 0 < l.count a:=fun h=>hm (h3.1 h);have e2:¬ 0 < k.count a:=fun h'=>hm ((h a).2 (h4.1 h'));omega
theorem KJ (L:List (List Int)):(List.range L.length).map (fun i=>L.getD i [])=L:=by
 apply List.ext_getElem
 · simp
 · intro i h1 h2;simp [h2]
theorem Ol (hn:seen.Nodup) (hs:∀ i∈seen,i < L.length) (hall:∀ i,i < L.length→i∈seen):(seen.map (fun i=>L.getD i [])).Perm L∧seen.length=L.length:=by
 have hp:seen.Perm (List.range L.length):=IM hn List.nodup_range (fun a=>by
  rw [List.mem_range]
  exact ⟨hs a,hall a⟩)
 refine ⟨?_,by simpa using hp.length_eq⟩;have:=hp.map (fun i=>L.getD i [])
 rwa [KJ] at this
theorem Om {k:List Int} (h:(BK L)[i]?=some (k,v)):i < L.length∧k=Ae (L.getD i []):=by
 unfold BK at h;rw [List.getElem?_map] at h;cases hi:L[i]? with
 | none=>rw [hi] at h; cases h
 | some p =>
  rw [hi] at h;have hlt:i < L.length:=by
   rcases Nat.lt_or_ge i L.length with h' | h'
   · exact h'
   · simp [List.getElem?_eq_none h'] at hi
  refine ⟨hlt, ?_⟩;simp only [Option.map_some,Option.some.injEq,Prod.mk.injEq] at h;rw [gqq,hi];exact h.1.symm
theorem Da:∀ (L M:List Nat),L.Nodup→(∀ x∈L,x∈M)→L.length≤M.length
 | [],_,_,_=>by simp
 | x :: L,M,hn,hs=>by
  rw [List.nodup_cons] at hn;have hx:x∈M:=hs x (by simp);have:=Da L (M.erase x) hn.2 (fun y hy=>(List.mem_erase_of_ne (by rintro rfl; exact hn.1 hy)).2 (hs y (by simp [hy])));rw [List.length_erase_of_mem hx] at this;have:0 < M.length:=List.length_pos_of_mem hx;simp only [List.length_cons];omega
theorem ML (hM:AN w r (BK L)) (hn:n≤6) (hL:∀ x∈L,x.length=n) (h12:L.length≤12) (h1:0 < L.length) :
 Calls prog 72 #[.int .i64 n, .map (some r)] w (fun e w'=>∃ ps,UP w ps e w'∧ps.Perm L∧CX ps 0 L.length):=by
 have HL:=Lib.hid hL;have hkl:(BK L).length=L.length:=by simp [BK]
 have HKL:=Lib.hid hkl;clear hL hkl
 go_enter func72,ntmps72
 go_wp2_with (refine Ky rfl rfl CC rfl hM ?_; intro w1 hI1 hE1 hlt1)
 have hI1':AG w1 w.heap.size r L.length []:=by rw [←HKL.out]; exact hI1
 go_frame
 go_loopw [5] (fun v wr=>SoR w L r w.heap.size v wr) (fun _ wr=>L.length - D9 wr w.heap.size)
 case atStart=>exact ⟨[],none,0,0,[],rfl,rfl,hE1,lrf _,hM.ext hE1,hI1',by simp,by simp,Own.nil _ _ _,fun i hi=>by simp at hi⟩
 case round =>
  clear hI1 hI1' hE1 hlt1;obtain ⟨seen,al,nl,cl,cells,rfl,hnl,hE,hit,hM1,hI1,hsn,hsl,hO,hQ⟩:=hrel;have HNL:=Lib.hid hnl;clear hnl;rw [←HKL.out] at hI1;by_cases hall:∀ i,i < (BK L).length→i∈seen
  · obtain ⟨hperm,hslen⟩:=Ol hsn hsl (fun i hi=>hall i (by rw [HKL.out]; exact hi));have hnlp:0 < nl:=by rw [HNL.out,hslen]; exact h1
    obtain ⟨g,rfl,hg1,hg2⟩:=hO.place hnlp;have hS:Srt wr w.heap.size g nl cl (seen.map (fun i=>L.getD i [])):=⟨by rw [List.length_map]; exact HNL.out.symm,cells,hO,hQ⟩;have hnl12:nl≤12:=by rw [HNL.out,hslen]; exact h12
    have HSL:=Lib.hid hslen;have HPM:=Lib.hid hperm;clear hslen hperm
    go_wp2_with (refine FV rfl rfl rfl hM1 hI1 (fun _ => ?_) (fun i _ _ _ h1 h2 _ _ _=>absurd (hall i h1) h2))
    refine (KH hS hnl12).mono ?_;rintro e w2 ⟨rfl,ps,hS2,hmv,hord,hgr⟩;go_wp2;go_ret;obtain ⟨hl2,cells2,hO2,hQ2⟩:=hS2;refine ⟨ps,⟨_,_,_,cells2,rfl,hE.grown hgr (by intro k hk; simp at hk; omega),hl2.symm,hO2,hQ2⟩,hmv.1.trans HPM.out, ?_⟩;rw [←HSL.out,←HNL.out];exact hord
  · have hz:=hE.size;have HSN:Hid (D9 wr w.heap.size=seen.length):=EU hI1
    go_upto_region 4 with (refine FV rfl rfl rfl hM1 hI1 (fun h=>absurd h hall) ?_; intro i k v w2 hil his hmi hI2 hg2)
    obtain ⟨hiL,hk⟩:=Om hmi;have hpl:(L.getD i []).length=n:=HL.out _ (by simp [hiL]);have hM2:=hM1.kept hg2 (IL hM1 hI1);have hO2:=hO.kept hg2 (BW hO hI1);have hQ2:=hQ.kept hg2 (fun _ _ _ _ h=>BW h hI1);have hE2:Ext w w2:=hE.grown hg2 (by intro k hk; simp at hk; omega);have hA:=Arr.new w2 70 As;have hAg:Agg prog 70 (k.map (Value.int .i64)).length:=by
     rw [List.length_map,hk,AQ (by rw [hpl]; exact hn)];exact CW
    have hz6:As.length=(k.map (Value.int .i64)).length:=by
     rw [List.length_map,hk,AQ (by rw [hpl]; exact hn)];rfl
    have HZ6:=Lib.hid hz6;have HK:=Lib.hid hk;have HPL:=Lib.hid hpl;clear hz6 hk hpl hM1 hO hQ hE hI1 hg2
    go_upto_region 5 with (first
     | (refine Kz rfl rfl rfl hM2 hI2 hmi ?_)
     | (refine Aa rfl rfl rfl rfl rfl hAg hA HZ6.out (A6 _) ?_; intro w3 hB3 hg3))
    go_frame
    have hE23:Ext w2 w3:=((Ext.refl w2).alloc (.cells As.toArray 70)).grown hg3 (by intro k hk; simp at hk; omega);have hsl3:SlI w3 (some ⟨w2.heap.size,0,none⟩) n 6 (L.getD i []):=by
     have h1:=hB3.sl (k:=n) (by rw [←HZ6.out]; exact hn) (by rw [←HZ6.out]; unfold maxLen; decide);rw [←HZ6.out,HK.out,←List.map_take] at h1;have h2:=FO (L.getD i []);rw [HPL.out] at h2;rw [h2] at h1;exact h1
    have hE3:=hE2.trans hE23;have hM3:=hM2.ext hE23;have hI3:=hI2.ext hE23;have hO3:=hO2.ext hE23;have hQ3:=hQ2.ext hE23;have hnl12:nl≤12:=by
     rw [HNL.out];have:=Da seen (List.range L.length) hsn (fun x hx=>by rw [List.mem_range]; exact hsl x hx);simp at this;omega
    have hsa:=fun wx:World=>Ec (P:=prog) (w:=wx) (g:=w2.heap.size) Br.arr Bz hn;clear hB3 hg3 hE23 hA hM2 hI2 hO2 hQ2 hE2 hAg
    go_wp2_with fail
    refine (ET hsl3 (by omega) (by simp)).mono ?_;rintro e w4 ⟨a4,n4,c4,rfl,hE4,hO4⟩;have hO5:=hO3.ext hE4;have hQ5:=hQ3.ext hE4;have hM5:=hM3.ext hE4;have hI5:=hI3.ext hE4;have hE5:=hE3.trans hE4;have hB5:CT w4 w.heap.size a4 n4 c4 (L.getD i []):=Own.mono hO4 hE3.size;clear hO3 hQ3 hM3 hI3 hE3 hE4 hO4 hsl3;have hA6:Ext w4 (w4.alloc (.cells #[.slice a4 n4 c4] 22)):=(Ext.refl w4).alloc _;have hS6:=(Au w4 w.heap.size 22 #[.slice a4 n4 c4] 1 rfl hE5.size (by omega)).sl;have hO6:=hO5.ext hA6
    go_wp2_with (refine Bw rfl rfl underlying53 Ey rfl rfl hO6 rfl hS6 (by simp [Value.oneCell']) (by unfold maxLen; omega) (by omega) (by have:=hE5.size; simp; omega) ?_; intro a7 c7 w7 hO7 hg7 hb7)
    go_roundw
    case rel =>
     have hE6:=hE5.trans hA6;have hI6:=hI5.ext hA6;have hM6:=hM5.ext hA6;have hx:∀ k,blk al=some k→w.heap.size≤k:=fun k hk=>(hO6.lt hk).1;refine ⟨seen ++ [i],a7,nl+1,c7,_,rfl,by rw [HNL.out]; simp,hE6.grown hg7 hx,hit,hM6.kept hg7 ?_, ?_, ?_, ?_,hO7, ?_⟩
     · rcases C8 hO6 hM6 with h | h
       · rw [h]; simp
       · exact fun h2=>h h2.symm
     · have:AG w7 w.heap.size r (BK L).length (seen ++ [i]):=hI6.kept hg7 (by
        rcases BW hO6 hI6 with h | h
        · rw [h]; simp
        · exact fun h2=>h h2.symm)
       rw [←HKL.out];exact this
     · rw [List.nodup_append];refine ⟨hsn,by simp, ?_⟩;intro a ha b hb;simp only [List.mem_singleton] at hb;subst hb;rintro rfl;exact his ha
     · intro j hj;rcases List.mem_append.1 hj with hj | hj
       · exact hsl j hj
       · simp only [List.mem_singleton] at hj;subst hj;exact hiL
     · have hQ7:=(hQ5.ext hA6).kept hg7 (fun _ _ _ _ h=>CL h hO6 (by decide));have hB7:CT w7 w.heap.size a4 n4 c4 (L.getD i []):=Own.kept (Own.ext hB5 hA6) hg7 (CL (Own.ext hB5 hA6) hO6 (by decide));rw [List.map_append];exact hQ7.snoc (by rw [hO6.len,HNL.out]; simp) hB7
    case measure =>
     have hI6:=hI5.ext hA6;have e1:D9 w7 w.heap.size=seen.length+1:=by
      have:AG w7 w.heap.size r (BK L).length (seen ++ [i]):=hI6.kept hg7 (by
       rcases BW hO6 hI6 with h | h
       · rw [h]; simp
       · exact fun h2=>h h2.symm)
      rw [EU this];simp
     have e2:=HSN.out;have:seen.length≤L.length:=by
      have:=Da seen (List.range L.length) hsn (fun x hx=>by rw [List.mem_range]; exact hsl x hx);simpa using this
     have h3:seen.length < L.length:=by
      have:=Da (i :: seen) (List.range L.length) (List.nodup_cons.2 ⟨his,hsn⟩) (fun x hx=>by
       rw [List.mem_range];rcases List.mem_cons.1 hx with rfl | hx
       · exact hiL
       · exact hsl x hx)
      simp at this;omega
     rw [e1,e2];omega
def Wg (w:World) (ps:List (List Int)) (er:Int) (e:Ending) (w':World):Prop :=
 ∃ a n c cells,e = .returned (.tuple #[.slice a n c, .int .i64 er])∧Ext w w'∧n=ps.length∧Own w' w.heap.size 22 a n c cells∧QEl w' w.heap.size cells ps
theorem Tp (hn:n=ps.length) (hO:Own w base 22 a n c cells) (hQ:QEl w base cells ps):SlL w a n c ps:=by
 refine ⟨hn.symm,cells,hO.sl,fun i hi => ?_⟩;obtain ⟨a',n',c',h1,h2⟩:=hQ i (by omega);exact ⟨a',n',c',h1,h2.sl⟩
theorem Ht (hg:SlL w ag ng cg gs) (hn:n≤6) (hp:B5 gs n) (h16:ng≤16)
 (h12:∀ L:List (List Int),L.Nodup→(∀ p,p∈L↔Ch gs n p)→L.length≤12) :
 Calls prog 30 #[.int .i64 n, .slice ag ng cg] w (fun e w'=>∃ ps,Wg w ps 0 e w'∧ps.Nodup∧(∀ p,p∈ps↔Ch gs n p)∧CX ps 0 ps.length):=by
 have HG:=Lib.hid hg.len;have HP:=Lib.hid hp;have H12:=Lib.hid h12;clear hp h12
 go_enter func30,ntmps30
 go_wp2
 go_loopw [21] (fun i wr=>∃ k:Nat,k≤ng∧i = .int .i64 k∧Ext w wr) (fun i _=>ng - (intOf i).toNat)
 case atStart=>exact ⟨0,Nat.zero_le _,rfl,Ext.refl _⟩
 case round =>
  obtain ⟨k,hk,rfl,hE⟩:=hrel;have hgw:=hg.ext hE;by_cases hlt:k < ng
  · obtain ⟨bg,og,ag1,ng1,cg1,rfl,hcg,hSg⟩:=hgw.at hlt;have hv:Ar (gs.getD k [])=true:=(HP.out _ (by simp [HG.out,hlt])).1;generalize gs.getD k []=gk at *
    go_wp2_with fail
    refine (AW hSg).mono ?_;rintro e w1 ⟨rfl,hE1⟩;go_wp2;go_roundw
    case rel=>exact ⟨k+1,by omega,by go_num,hE.trans hE1⟩
    case measure=>simp [intOf]; omega
  · obtain ⟨wo,rfl⟩:∃ wo:World,wo=wr:=⟨_,rfl⟩;go_wp2
    go_loop [31] (fun i=>∃ k:Nat,k≤ng∧i = .int .i64 k) (fun i=>ng - (intOf i).toNat)
    case atStart=>exact ⟨0,Nat.zero_le _,rfl⟩
    case round =>
     clear hlt;obtain ⟨k,hk,rfl⟩:=hrel;by_cases hlt:k < ng
     · obtain ⟨bg,og,ag1,ng1,cg1,rfl,hcg,hSg⟩:=hgw.at hlt;have hl:(gs.getD k []).length=n:=(HP.out _ (by simp [HG.out,hlt])).2;have hl2:ng1=n:=by have:=hSg.len; omega
       have hne:((ng1:Int) != (n:Int))=false:=by simp [hl2]
       clear hl hl2 hSg;go_wp2;go_round
       case rel=>exact ⟨k+1,by omega,by go_num⟩
       case measure=>simp [intOf]; omega
     · go_wp2_with fail
       refine (Dg hgw hn HP.out).mono ?_;rintro e w1 ⟨r,L,rfl,hE1,hr,hM,hnd,hmem⟩;have hL12:=H12.out L hnd hmem;have hL1:0 < L.length:=List.length_pos_of_mem ((hmem _).2 (Do gs n))
       go_wp2_with fail
       refine (ML hM hn (fun x hx=>(BE hn HP.out ((hmem x).1 hx)).2) hL12 hL1).mono ?_;rintro e w2 ⟨ps,⟨a2,n2,c2,cells,rfl,hE2,hn2,hO2,hQ2⟩,hperm,hord⟩;have HN2:=Lib.hid hn2;clear hn2;go_wp2
       go_ret2
       have hE3:=hE.trans hE1;refine ⟨ps,⟨a2,n2,c2,cells,rfl,hE3.trans hE2,HN2.out,Own.mono hO2 hE3.size, ?_⟩,hperm.nodup_iff.2 hnd,fun p=>by rw [hperm.mem_iff,hmem],by rw [hperm.length_eq]; exact hord⟩;intro i hi;obtain ⟨a',n',c',h1,h2⟩:=hQ2 i hi;exact ⟨a',n',c',h1,Own.mono h2 hE3.size⟩
theorem GA (hp:ps.Nodup) (hq:qs.Nodup) (h:∀ x,x∈ps↔x∈qs) (op:CX ps 0 ps.length) (oq:CX qs 0 qs.length):ps=qs:=by
 have key:∀ {l:List (List Int)},CX l 0 l.length→l.Pairwise (fun a b=>A0 a b≤0):=by
  intro l hl;rw [List.pairwise_iff_getElem];intro i j hi hj hij;have:=hl i j (Nat.zero_le _) hij hj;simpa [hi,hj] using this
 refine List.Perm.eq_of_pairwise ?_ (key op) (key oq) (IM hp hq h);intro a b _ _ h1 h2;have:=BI a b;exact Hs (by omega)
def awG:List (List Int):=[[1,2,0]]
def awE:List (List Int):=[[0,1,2],[1,2,0],[2,0,1]]
theorem Qh (p:List Int):p∈awE↔Ch awG 3 p:=by
 constructor
 · intro h;simp only [awE,List.mem_cons,List.not_mem_nil,or_false] at h;rcases h with rfl | rfl | rfl
   · exact ⟨[],by simp,by decide⟩
   · exact ⟨[[1,2,0]],by simp [awG],by decide⟩
   · exact ⟨[[1,2,0],[1,2,0]],by simp [awG],by decide⟩
 · rintro ⟨ws,h1,rfl⟩
   induction ws with
   | nil=>decide
   | cons g ws ih =>
    have hg:g=[1,2,0]:=by simpa [awG] using h1 g (by simp)
    have:=ih (fun x hx=>h1 x (by simp [hx]));subst hg;rw [List.foldr_cons];revert this;generalize List.foldr comp (idn 3) ws=q;intro this;simp only [awE,List.mem_cons,List.not_mem_nil,or_false] at this;rcases this with rfl | rfl | rfl <;> decide
def IOq (l:List (List Int)):Prop:=∀ i j,i < j→j < l.length→A0 (l.getD i []) (l.getD j []) < 0
theorem Dh {a c:List Int} (h1:A0 a b < 0) (h2:A0 b c < 0):A0 a c < 0:=by
 have h:=CK (Int.le_of_lt h1) (Int.le_of_lt h2);rcases Int.lt_or_eq_of_le h with h | h
 · exact h
 · have e:=Hs h;subst e;have:=BI a b;omega
theorem IOq.nodup (h:IOq l):l.Nodup:=by
 unfold List.Nodup;rw [List.pairwise_iff_getElem];intro i j hi hj hij e;have:=h i j hij hj;simp only [gqq,List.getElem?_eq_getElem hi,List.getElem?_eq_getElem hj,Option.getD_some,e,C9] at this;omega
def plI (l:List (List Int)) (p:List Int) (lo hi:Nat):Prop :=
 (∀ i,i < lo→A0 (l.getD i []) p < 0)∧∀ i,hi≤i→i < l.length→¬ A0 (l.getD i []) p < 0
theorem plI.up {m:Nat} (hs:IOq l) (h:plI l p lo hi) (hm:m < l.length) (hc:A0 (l.getD m []) p < 0):plI l p (m+1) hi:=by
 refine ⟨fun i hi => ?_,h.2⟩;rcases Nat.lt_or_ge i m with h1 | h1
 · exact Dh (hs i m h1 hm) hc
 · have:i=m:=by omega
   subst this;exact hc
theorem plI.down {m:Nat} (hs:IOq l) (h:plI l p lo hi) (hc:¬ A0 (l.getD m []) p < 0):plI l p lo m:=by
 refine ⟨h.1,fun i hi hil => ?_⟩;rcases Nat.eq_or_lt_of_le hi with h1 | h1
 · subst h1;exact hc
 · intro h2;exact hc (Dh (hs m i h1 hil) h2)
theorem plI.found (hs:IOq l) (h:plI l p k k):p∈l↔k < l.length∧l.getD k []=p:=by
 constructor
 · intro hp;obtain ⟨j,hj,e⟩:=List.mem_iff_getElem.1 hp;have e':l.getD j []=p:=by rw [gqq,List.getElem?_eq_getElem hj]; exact e
   have hkj:k≤j:=by
    rcases Nat.lt_or_ge j k with h1 | h1
    · have:=h.1 j h1;rw [e',C9] at this;omega
    · exact h1
   rcases Nat.eq_or_lt_of_le hkj with h1 | h1
   · subst h1;exact ⟨hj,e'⟩
   · have:=hs k j h1 hj;rw [e'] at this;exact absurd this (h.2 k (lrf _) (by omega))
 · rintro ⟨h1,h2⟩;rw [←h2,gqq,List.getElem?_eq_getElem h1];exact List.getElem_mem h1
structure isG (l:List (List Int)):Prop where
 pos:0 < l.length
 perms:B5 l (l.getD 0 []).length
 sort:IOq l
 closed:∀ p,Ch l (l.getD 0 []).length p→p∈l
noncomputable def isGB (l:List (List Int)):Bool:=@decide (isG l) (Classical.propDecidable _)
theorem Iu (h:isG l):isGB l=true:=by
 unfold isGB;exact @decide_eq_true _ (Classical.propDecidable _) h
theorem Db (h:¬ isG l):isGB l=false:=by
 unfold isGB;exact @decide_eq_false _ (Classical.propDecidable _) h
theorem Vx:∀ n,n < 7→∀ xs∈gen n (idn n),A0 (idn n) xs≤0:=by decide +kernel
theorem Ez (h:Ar xs=true):xs.length < 7∧xs∈gen xs.length (idn xs.length):=by
 have hp:=AF h;exact ⟨by have:=hp.1; omega,G1 _ _ _ rfl hp.2.2 (fun x hx=>G2.2 (hp.2.1 x hx))⟩
theorem Bs (h:i < l.length):l.getD i []∈l:=by
 rw [gqq,List.getElem?_eq_getElem h];exact List.getElem_mem h
theorem DW (h:p∈l):∃ i,i < l.length∧l.getD i []=p:=by
 obtain ⟨i,hi,e⟩:=List.mem_iff_getElem.1 h;exact ⟨i,hi,by rw [gqq,List.getElem?_eq_getElem hi]; exact e⟩
theorem isG.first (h:isG l):l.getD 0 []=idn (l.getD 0 []).length:=by
 have h0:=h.perms _ (Bs h.pos);obtain ⟨i,hi,e⟩:=DW (h.closed _ (Do l _));rcases Nat.eq_zero_or_pos i with hz | hz
 · subst hz;exact e
 · have h1:=h.sort 0 i hz hi;have h2:=Ez h0.1;have h3:=Vx _ h2.1 _ h2.2;rw [e] at h1;have h4:=BI (l.getD 0 []) (idn (l.getD 0 []).length);omega
theorem isG.few (h:isG l):l.length≤720:=by
 have h0:=h.perms _ (Bs h.pos);have h2:=Ez h0.1;refine Nat.le_trans (nodup_le l (gen _ (idn (l.getD 0 []).length)) h.sort.nodup fun p hp => ?_) (Qg _ h2.1);obtain ⟨h3,h4⟩:=h.perms p hp;have:=Ez h3;rw [h4] at this;exact this.2
theorem isG.comp {l:List (List Int)} (h:isG l) {i k:Nat} (hi:i < l.length) (hk:k < l.length):comp (l.getD i []) (l.getD k [])∈l:=by
 refine h.closed _ ⟨[l.getD i [],l.getD k []], ?_, ?_⟩
 · intro g hg;simp only [List.mem_cons,List.not_mem_nil,or_false] at hg;rcases hg with rfl | rfl
   · exact Bs hi
   · exact Bs hk
 · have hl:=(h.perms _ (Bs hk)).2;rw [List.foldr_cons,List.foldr_cons,List.foldr_nil,←hl,DQ]
structure MM (l:List (List Int)) (k:Nat):Prop where
 perms:∀ i,i < k→Ar (l.getD i [])=true∧(l.getD i []).length=(l.getD 0 []).length
 sort:∀ i j,i < j→j < k→A0 (l.getD i []) (l.getD j []) < 0
theorem MM.one (h:Ar (l.getD 0 [])=true):MM l 1 :=
 ⟨fun i hi=>by have:i=0:=by omega
               subst this; exact ⟨h,rfl⟩,fun i j h1 h2=>by omega⟩
theorem MM.succ (h:MM l (k+1)) (hp:Ar (l.getD (k+1) [])=true∧(l.getD (k+1) []).length=(l.getD 0 []).length) (hl:A0 (l.getD k []) (l.getD (k+1) []) < 0):MM l (k+2):=by
 refine ⟨fun i hi => ?_,fun i j h1 h2 => ?_⟩
 · by_cases he:i=k+1
   · subst he; exact hp
   · exact h.perms i (by omega)
 · by_cases he:j=k+1
   · subst he;by_cases hi:i=k
     · subst hi; exact hl
     · exact Dh (h.sort i k (by omega) (by omega)) hl
   · exact h.sort i j h1 (by omega)
theorem MM.all (h:MM l k) (hk:l.length≤k):B5 l (l.getD 0 []).length∧IOq l:=by
 refine ⟨fun g hg => ?_,fun i j h1 h2=>h.sort i j h1 (by omega)⟩;obtain ⟨i,hi,rfl⟩:=DW hg;exact h.perms i (by omega)
section
variable {P:Program} {ops:Array Oper} {hs:List Hd} {a0:Act} {C:World→Prop} {i:Nat} {o:Oper}
theorem DX {c:Value} (hw:Cf hs o=some true) (h:∀ ρ w,D5 ρ→C w→CO ops hs a0 o ρ w o.op.operands.toList→(execOp ρ o).run P w = .ok (.value c) w) :
 obl P C ops hs a0 i o (he c):=by
 unfold obl;rw [hw];intro ρ w hp hC hx;rw [h ρ w hp hC hx];exact ⟨rfl,rfl⟩
theorem BL (hw:Cf hs o=some false):obl P C ops hs a0 i o (he undef):=by
 unfold obl;rw [hw];exact fun w _=>rfl
theorem CS {c:Value} (hw:Cf hs o=some true) (ho:o.op = .move x∨o.op = .assign x) (h:∀ ρ w,D5 ρ→CO ops hs a0 o ρ w [x]→ρ x=c):obl P C ops hs a0 i o (he c) :=
 DX hw fun ρ w hp _ hx=>by
  rcases ho with ho | ho <;>
  · rw [ho] at hx;simp only [execOp,ho,h ρ w hp hx];rfl
theorem Tq {p:Value→World→Prop} (hw:Cf hs o=some true)
 (h:∀ ρ w,D5 ρ→C w→CO ops hs a0 o ρ w o.op.operands.toList→∃ f args,(execOp ρ o).run P w = .ok (.enter f args) w∧Calls P f args w (fun e w'=>∃ u,e = .returned u∧Ext w w'∧p u w')) :
 obl P C ops hs a0 i o ⟨false, .pr p,cons⟩:=by
 unfold obl;rw [hw];intro ρ w hp hC hx;obtain ⟨f,args,hr,hc⟩:=h ρ w hp hC hx;rw [hr];exact hc
theorem AB {c:Value} (hw:Cf hs o=some true) (h:∀ ρ w,C w→(∀ v,ρ (.const v)=v)→CO ops hs a0 o ρ w o.op.operands.toList→(execOp ρ o).run P w = .ok (.value c) w):obl P C ops hs a0 i o (he c):=DX hw fun ρ w hp hC hx=>h ρ w hC hp.const hx
theorem Aj {p:Value→World→Prop} (hw:Cf hs o=some true) (h:∀ ρ w,C w→(∀ v,ρ (.const v)=v)→(∀ f,ρ (.func f) = .func (.func f) #[] #[])→CO ops hs a0 o ρ w o.op.operands.toList→∃ f args,(execOp ρ o).run P w = .ok (.enter f args) w∧Calls P f args w (fun e w'=>∃ u,e = .returned u∧Ext w w'∧p u w')):obl P C ops hs a0 i o ⟨false, .pr p,cons⟩:=Tq hw fun ρ w hp hC hx=>h ρ w hC hp.const hp.func hx
end
theorem On (h:AN w r m):∃ es ck,w.heap[r]?=some (.map es ck)∧es.size=m.length:=by
 have h1:=Is h;unfold Gz at h1;have h2:=h.1;exact ⟨_,_,h2,by rw [h2] at h1; exact h1⟩
structure GI (l gs L:List (List Int)) (k:Nat):Prop where
 sub:∀ g∈gs,g∈l
 nodup:L.Nodup
 reach:∀ p,p∈L↔Ch gs (l.getD 0 []).length p
 part:∀ i,i < k→l.getD i []∈L
 few:L.length≤l.length
theorem KK (h:∀ g∈gs,g∈hs):Ch gs n p→Ch hs n p
 | ⟨ws,h1,h2⟩=>⟨ws,fun g hg=>h g (h1 g hg),h2⟩
theorem KL (hn:n≤6) (hp:B5 gs n) {p q:List Int} (h1:Ch gs n p) (h2:Ch gs n q):Ch gs n (comp p q):=by
 obtain ⟨ws,hw,rfl⟩:=h1
 induction ws with
 | nil =>
  have e:=BE hn hp h2;have:comp (idn n) q=q:=by
   unfold comp
   conv=>rhs; rw [←List.map_id q]
   apply List.map_congr_left;intro x hx;have:=(AF e.1).2.1 x hx;rw [G3 (by omega)];simp;omega
  rw [List.foldr_nil,this];exact h2
 | cons g ws ih =>
  have hq:=BE hn hp h2;have hr:=BE hn hp ⟨ws,fun x hx=>hw x (by simp [hx]),rfl⟩;rw [List.foldr_cons,C3 (by intro y hy; have:=(AF hq.1).2.1 y hy; rw [hr.2]; rw [hq.2] at this; exact this)];exact KE (hw g (by simp)) (ih (fun x hx=>hw x (by simp [hx])))
theorem GI.too (hg:isG l) (hs:∀ g∈gs,g∈l) (hn:L.Nodup) (hr:∀ p,p∈L↔Ch gs (l.getD 0 []).length p):L.length≤l.length :=
 nodup_le L l hn (fun p hp=>hg.closed p (KK hs ((hr p).1 hp)))
theorem GI.fin (h:GI l gs L k) (hk:l.length≤k) (h0:0 < l.length) (hp:B5 l (l.getD 0 []).length) (hs:IOq l):isG l↔L.length=l.length:=by
 have h6:(l.getD 0 []).length≤6:=(AF (hp _ (Bs h0)).1).1;have hpg:B5 gs (l.getD 0 []).length:=fun g hg=>hp g (h.sub g hg);have hin:∀ p∈l,p∈L:=by
  intro p hp;obtain ⟨i,hi,rfl⟩:=DW hp;exact h.part i (by omega)
 constructor
 · intro _;have:=nodup_le l L hs.nodup hin;have:=h.few;omega
 · intro he;refine ⟨h0,hp,hs, ?_⟩;have hback:∀ p∈L,p∈l:=by
    intro p hpL;refine Classical.byContradiction fun hno => ?_
    have:=nodup_le (p :: l) L (List.nodup_cons.2 ⟨hno,hs.nodup⟩) (fun x hx=>by
     rcases List.mem_cons.1 hx with rfl | hx
     · exact hpL
     · exact hin x hx)
    simp at this;omega
   rintro p ⟨ws,hw,rfl⟩;apply hback;rw [h.reach]
   induction ws with
   | nil=>exact Do gs _
   | cons g ws ih=>exact KL h6 hpg ((h.reach g).1 (hin g (hw g (by simp)))) (ih (fun x hx=>hw x (by simp [hx])))
def CEl (w:World) (cs:List Value) (ps:List (List Int)):Prop:=∀ i,i < ps.length→∃ a n c,cs.getD i undef = .slice a n c∧SlI w a n c (ps.getD i [])
theorem CEl.ext {w w':World} {cs:List Value} {ps:List (List Int)} (h:CEl w cs ps) (e:Ext w w'):CEl w' cs ps :=
 fun i hi=>let ⟨a,n,c,h1,h2⟩:=h i hi; ⟨a,n,c,h1,h2.ext e⟩
theorem CEl.snoc (h:CEl w cs ps) (hl:cs.length=ps.length) (hp:SlI w a n c p):CEl w (cs ++ [.slice a n c]) (ps ++ [p]):=by
 intro i hi;simp only [List.length_append,List.length_singleton] at hi;by_cases h1:i < ps.length
 · obtain ⟨a',n',c',h2,h3⟩:=h i h1;refine ⟨a',n',c', ?_, ?_⟩
   · rw [←h2];simp [List.getElem?_append_left (hl ▸ h1)]
   · simpa [List.getElem?_append_left h1] using h3
 · have e:i=ps.length:=by omega
   subst e;refine ⟨a,n,c, ?_, ?_⟩
   · rw [←hl];simp
   · simpa using hp
theorem KM {k:TypeId} {es:Array MapEntry} (ht:P.underlying mt=some (.map k e)) (hb:w.heap[r]?=some (.map es ck)) :
 (Builtin.len_ #[mt] ty #[.map (some r)]).run P w = .ok (.int .i64 es.size) w:=by
 simp [Builtin.len_,run_underlying ht,run_getObj_map w r es ck hb,goInt]
theorem Ge (hx:SlL w a n c ls) (hn6:n≤1000000) :
 Calls prog 32 #[.slice a n c] w (fun e w'=>e = .returned (.bool (isGB ls))∧Ext w w'):=by
 have HX:=Lib.hid hx.len;by_cases h0:n=0
 · subst h0;have HG:=Lib.hid (Db (l:=ls) (fun h=>by have:=h.pos; rw [HX.out] at this; omega))
   go_enter func32,ntmps32
   go_wp2;go_ret;exact ⟨GD HG.out,Ext.refl w⟩
 · obtain ⟨b1,o1,a1,n1,c1,rfl,g0,s1⟩:=hx.at (k:=0) (by omega);have g1:w.cell? ⟨b1,o1,none⟩=some (.slice a1 n1 c1):=g0;have HL1:=Lib.hid s1.len;clear g0;have hz:((n:Int) == 0)=false:=by simp; omega
   go_enter func32,ntmps32
   go_wp2
   go_loopw [19] (fun i wr=>∃ k:Nat,i = .int .i64 k∧k≤n∧Ext w wr∧Hid (MM ls k)) (fun i _=>n - (intOf i).toNat)
   case atStart=>exact ⟨0,rfl,Nat.zero_le _,Ext.refl _,Lib.hid ⟨fun i hi=>by omega,fun i j h1 h2=>by omega⟩⟩
   case round =>
    obtain ⟨k,rfl,hk,hE,HK⟩:=hrel;have hxr:=hx.ext hE;by_cases hlt:k < n
    · obtain ⟨b2,o2,a2,n2,c2,e2,g2,s2⟩:=hxr.at (k:=k) hlt;simp only [Option.some.injEq,Addr.mk.injEq,and_true] at e2;obtain ⟨rfl,rfl⟩:=e2;have hkl:k < ls.length:=by rw [HX.out]; exact hlt
      have HL2:=Lib.hid s2.len;cases hv:Ar (ls.getD k []) with
      | false =>
       have HG:=Lib.hid (Db (l:=ls) (fun h=>by have:=(h.perms _ (Bs hkl)).1; rw [hv] at this; cases this))
       go_wp2_with fail
       refine (AW s2).mono ?_;rw [hv];rintro e w1 ⟨rfl,hE1⟩;go_wp2;go_ret;exact ⟨GD HG.out,hE.trans hE1⟩
      | true =>
       by_cases hne:n2=n1
       · have hnb:((n2:Int) != (n1:Int))=false:=by simp [hne]
         have hpl:Ar (ls.getD k [])=true∧(ls.getD k []).length=(ls.getD 0 []).length:=⟨hv,by rw [HL1.out,HL2.out,hne]⟩;have HPL:=Lib.hid hpl;clear hpl hne;cases k with
         | zero =>
          rw [Nat.add_zero] at g2
          go_wp2_with fail
          refine (AW s2).mono ?_;rw [hv];rintro e w1 ⟨rfl,hE1⟩;go_wp2;go_roundw
          case rel=>exact ⟨1,by go_num,by omega,hE.trans hE1,Lib.hid (MM.one HPL.out.1)⟩
          case measure=>simp [intOf]; omega
         | succ j =>
          obtain ⟨b3,o3,a3,n3,c3,e3,g3,s3⟩:=hxr.at (k:=j) (by omega);simp only [Option.some.injEq,Addr.mk.injEq,and_true] at e3;obtain ⟨rfl,rfl⟩:=e3;have hw1:IntKind.i64.wrap ((j:Int)+1 - 1)=j:=by rw [Int.add_sub_cancel]; exact IntWalk.i64_in _ (by omega)
          have hw2:IntKind.i64.wrap (j:Int)=j:=IntWalk.i64_in _ (by omega)
          go_wp2_with fail
          refine (AW s2).mono ?_;rw [hv];rintro e w1 ⟨rfl,hE1⟩;have g3':=hE1.cell g3
          go_wp2_with fail
          refine (Cr (s3.ext hE1) (s2.ext hE1)).mono ?_;rintro e w2 ⟨rfl,hQ2⟩;have hEE:=(hE.trans hE1).trans hQ2.ext;obtain ⟨cv,hcv⟩:∃ cv,A0 (ls.getD j []) (ls.getD (j+1) [])=cv:=⟨_,rfl⟩;rw [hcv];have HCV:=Lib.hid hcv;clear hcv;by_cases hge:0≤cv
          · have HG:=Lib.hid (Db (l:=ls) (fun h=>by have:=h.sort j (j+1) (by omega) hkl; rw [HCV.out] at this; omega));go_wp2;go_ret;exact ⟨GD HG.out,hEE⟩
          · go_wp2;go_roundw
            case rel=>exact ⟨j+1+1,by go_num,by omega,hEE,Lib.hid (HK.out.succ HPL.out (by rw [HCV.out]; omega))⟩
            case measure=>simp [intOf]; omega
       · have hnb:((n2:Int) != (n1:Int))=true:=by simp; omega
         have HG:=Lib.hid (Db (l:=ls) (fun h=>by have:=(h.perms _ (Bs hkl)).2; rw [HL1.out,HL2.out] at this; exact hne this));clear hne
         go_wp2_with fail
         refine (AW s2).mono ?_;rw [hv];rintro e w1 ⟨rfl,hE1⟩;go_wp2;go_ret;exact ⟨GD HG.out,hE.trans hE1⟩
    · have ek:k=n:=by omega
      obtain ⟨hpm,hsort⟩:=HK.out.all (by have:=HX.out; omega);have HPM:=Lib.hid hpm;have HSO:=Lib.hid hsort;have hn16:n1≤6:=by rw [←HL1.out]; exact (AF (hpm _ (Bs (i:=0) (by have:=HX.out; omega))).1).1
      rw [HL1.out] at hpm;clear HK hsort ek hpm
      go_wp2_with fail
      refine (Dg (gs:=[]) ⟨rfl,[],Sl.nil wr,fun i hi=>by simp at hi⟩ hn16 (by intro g hg; cases hg)).mono ?_;rintro e w2 ⟨r,L,rfl,hE2,hr,hM,hnd,hmem⟩;have hEo:=hE.trans hE2;have hGI:GI ls [] L 0:=by
       refine ⟨by simp,hnd,by rw [HL1.out]; exact hmem,fun i hi=>by omega, ?_⟩
       have:=nodup_le L [idn n1] hnd (fun p hp=>by
        obtain ⟨ws,h1,h2⟩:=(hmem p).1 hp;cases ws with
        | nil=>simp [h2]
        | cons g ws=>exact absurd (h1 g (by simp)) (by simp))
       rw [HX.out];simp at this;omega
      have hrw:w.heap.size≤r:=by have:=hE.size; omega
      clear hE2 hr hnd hmem;go_wp2
      go_loopw [6,7,52] (fun v u i wr=>∃ k:Nat,∃ gs L ag ng cg gc r,v = .slice ag ng cg∧u = .map (some r)∧i = .int .i64 k∧k≤n∧Ext w wr∧Hid (ng=gs.length)∧ng≤k∧w.heap.size≤r∧Own wr w.heap.size 22 ag ng cg gc∧CEl w gc gs∧AN wr r (BK L)∧Hid (GI ls gs L k)) (fun _ _ i _=>n - (intOf i).toNat)
      case atStart=>exact ⟨0,[],L,none,0,0,[],r,rfl,rfl,rfl,Nat.zero_le _,hEo,Lib.hid rfl,lrf _,hrw,Own.nil _ _ _,by intro i hi; simp at hi,hM,Lib.hid hGI⟩
      case round =>
       clear hM hGI hrw hEo;obtain ⟨k,gs,L,ag,ng,cg,gc,r,rfl,rfl,rfl,hk,hE3,HNG,hngk,hr,hO,hC,hM,HGI⟩:=hrel;have hpg:B5 gs n1:=fun g hg=>by have:=HPM.out g (HGI.out.sub g hg); rw [HL1.out] at this; exact this
       have HPG:=Lib.hid hpg;have HLL:=Lib.hid (fun x hx=>(BE hn16 hpg (by have:=(HGI.out.reach x).1 hx; rw [HL1.out] at this; exact this)).2);clear hpg;obtain ⟨es,ck,hes,hez⟩:=On hM;have HEZ:Hid (es.size=L.length):=by show _=_; rw [hez]; simp [BK]
       clear hez;by_cases hlt2:k < n
       · obtain ⟨b2,o2,a2,n2,c2,e2,g2,s2⟩:=hx.at (k:=k) hlt2;simp only [Option.some.injEq,Addr.mk.injEq,and_true] at e2;obtain ⟨rfl,rfl⟩:=e2;have hkl:k < ls.length:=by rw [HX.out]; exact hlt2
         have hpk:=HPM.out _ (Bs hkl);rw [HL1.out] at hpk;have hmk:=Bs hkl;obtain ⟨pk,hpkE⟩:∃ pk,ls.getD k []=pk:=⟨_,rfl⟩;rw [hpkE] at s2 hpk hmk;have HPK:=Lib.hid hpkE;clear hpkE;have hn2:n2≤6:=by have:=s2.len; omega
         have g2:=hE3.cell g2
         go_wp2_with fail
         refine (CR (s2.ext hE3) hn2).mono ?_;rintro e w4 ⟨rfl,hE4⟩;have hM4:=hM.ext hE4;have hO4:=hO.ext hE4;have hEw4:=hE3.trans hE4;have hk6:(Ae (pk)).length=6:=AQ (by omega);have hlook:=LO HLL.out hpk.2;clear hes hM hO hE4;by_cases hin:pk∈L
         · simp only [hin,decide_true] at hlook;have HGn:Hid (GI ls gs L (k+1)):=by
            show GI ls gs L (k+1);refine ⟨HGI.out.sub,HGI.out.nodup,HGI.out.reach,fun i hi => ?_,HGI.out.few⟩;by_cases he:i=k
            · subst he; rw [HPK.out]; exact hin
            · exact HGI.out.part i (by omega)
           go_wp2_with (refine C7 rfl rfl CC Br FY rfl rfl hM4 hk6 ?_; simp only [Bool.false_eq_true,if_false]; rw [hlook])
           go_roundw
           case rel=>exact ⟨k+1,gs,L,ag,ng,cg,gc,r,rfl,rfl,by go_num,by omega,hEw4,HNG,by omega,hr,hO4,hC,hM4,HGn⟩
           case measure=>simp [intOf]; omega
         · simp only [hin,decide_false] at hlook;have hA6:Ext w4 (w4.alloc (.cells #[.slice a2 n2 c2] 22)):=(Ext.refl w4).alloc _;have hS6:=(Au w4 w.heap.size 22 #[.slice a2 n2 c2] 1 rfl hEw4.size (by omega)).sl;have hO6:=hO4.ext hA6
           go_wp2_with (first
            | (refine C7 rfl rfl CC Br FY rfl rfl hM4 hk6 ?_; simp only [Bool.false_eq_true,if_false]; rw [hlook])
            | (refine Bw rfl rfl underlying53 Ey rfl rfl hO6 rfl hS6 (by simp [Value.oneCell']) (by unfold maxLen; omega) (by omega) (by have:=hEw4.size; simp; omega) ?_; intro a7 c7 w7 hO7 hg7 hb7))
           have hx7:∀ k,blk ag=some k→w.heap.size≤k:=fun k hk=>(hO6.lt hk).1;have hE7:Ext w w7:=(hEw4.trans hA6).grown hg7 hx7;have hC7:CEl w (gc ++ [.slice a2 n2 c2]) (gs ++ [pk]):=hC.snoc (by rw [hO4.len,HNG.out]) s2;have hsub:∀ g∈gs ++ [pk],g∈ls:=by
            intro g hg;rcases List.mem_append.1 hg with hg | hg
            · exact HGI.out.sub g hg
            · simp only [List.mem_singleton] at hg;subst hg;exact hmk
           have hpg2:B5 (gs ++ [pk]) n1:=fun g hg=>by have:=HPM.out g (hsub g hg); rw [HL1.out] at this; exact this
           have hSL:SlL w7 a7 (ng+1) c7 (gs ++ [pk]):=⟨by simp; exact HNG.out.symm,_,hO7.sl,fun i hi=>by
            obtain ⟨a',n',c',h1,h2⟩:=hC7 i (by simp; have:=HNG.out; omega)
            exact ⟨a',n',c',h1,h2.ext hE7⟩⟩
           refine (Dg hSL hn16 hpg2).mono ?_;rintro e w8 ⟨r8,L8,rfl,hE8,hr8,hM8,hnd8,hmem8⟩;rw [←HL1.out] at hmem8;obtain ⟨es8,ck8,hes8,hez8⟩:=On hM8;have HEZ8:Hid (es8.size=L8.length):=by show _=_; rw [hez8]; simp [BK]
           clear hez8;have hEw8:=hE7.trans hE8;have hlm8:=KM (P:=prog) (ty:=3) CC hes8;by_cases hbig:(n:Int) < (es8.size:Int)
           · have HG:=Lib.hid (Db (l:=ls) (fun h=>by have:=GI.too h hsub hnd8 hmem8; have e1:=HEZ8.out; have e2:=HX.out; omega));go_wp2;go_ret;exact ⟨GD HG.out,hEw8⟩
           · have HGn:Hid (GI ls (gs ++ [pk]) L8 (k+1)):=by
              show GI ls _ L8 (k+1);refine ⟨hsub,hnd8,hmem8,fun i hi => ?_,by have e1:=HEZ8.out; have e2:=HX.out; omega⟩;by_cases he:i=k
              · subst he;rw [hmem8,HPK.out];refine ⟨[pk],by simp, ?_⟩;rw [List.foldr_cons,List.foldr_nil,HL1.out,←hpk.2,DQ]
              · rw [hmem8];exact KK (fun g hg=>List.mem_append_left _ hg) ((HGI.out.reach _).1 (HGI.out.part i (by omega)))
             go_wp2;go_roundw
             case rel=>exact ⟨k+1,_,L8,a7,ng+1,c7,_,r8,rfl,rfl,by go_num,by omega,hEw8,Lib.hid (by rw [HNG.out]; simp),by omega,by have:=hE7.size; omega,hO7.ext hE8,hC7,hM8,HGn⟩
             case measure=>simp [intOf]; omega
       · have HFIN:=Lib.hid (HGI.out.fin (by have:=HX.out; omega) (by have:=HX.out; omega) HPM.out HSO.out);have hlm:=KM (P:=prog) (ty:=3) CC hes;by_cases hq:es.size=n
         · have hqq:((es.size:Int) == (n:Int))=true:=by simp [hq]
           have HG:=Lib.hid (Iu (HFIN.out.2 (by have e1:=HEZ.out; have e2:=HX.out; omega)));clear hq;go_wp2;go_ret;exact ⟨GD HG.out,hE3⟩
         · have hqq:((es.size:Int) == (n:Int))=false:=by simp; omega
           have HG:=Lib.hid (Db (fun h=>hq (by have:=HFIN.out.1 h; have e1:=HEZ.out; have e2:=HX.out; omega)));clear hq;go_wp2;go_ret;exact ⟨GD HG.out,hE3⟩
end Go.Proofs.YtlpgonpfjbhmfaaGreatDoor
