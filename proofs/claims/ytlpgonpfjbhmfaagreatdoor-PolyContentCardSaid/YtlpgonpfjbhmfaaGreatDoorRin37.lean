/- Part Rin37. -/
import Derived.Test.YtlpgonpfjbhmfaaGreatDoorRin23
import Derived.Test.YtlpgonpfjbhmfaaGreatDoorRin19
import Derived.Test.YtlpgonpfjbhmfaaGreatDoorRin17
import Derived.Test.YtlpgonpfjbhmfaaGreatDoorRin15
set_option maxRecDepth 100000
set_option maxHeartbeats 100000000
namespace Go.Proofs.YtlpgonpfjbhmfaaGreatDoor
open Go Go.RowKit
theorem take_snocB (s:ByteArray) (k:Nat) (h:k<s.size):(strL s).take (k+1)=(strL s).take k ++ [s[k]]:=by
 unfold strL;rw [List.take_succ_eq_append_getElem (by simpa using h)];rfl
theorem rat_digitsValue {s:ByteArray} {w:World} (hd:W.digs (strL s)) (hl:s.size≤9) :
 Calls Tryz.prog 89 #[.string s] w fun e w'=>e = .returned (.int .i64 ((W.decV (strL s):Nat):Int))∧w'=w:=by
 have HD:=qh hd;have hls:(strL s).length=s.size:=strL_len s;have HL:=qh hls;clear hls hd
 go_enter Tryz.func89,Tryz.ntmps89
 go_wp2
 go_loop [3,7] (fun nv iv=>∃ k m:Nat,k≤s.size∧iv = .int .i64 k∧nv = .int .i64 (m:Int)∧m<10^k∧Hid (m=W.decV ((strL s).take k))) (fun _ iv=>s.size-(intOf iv).toNat)
 case atStart=>exact ⟨0,0,Nat.zero_le _,rfl,rfl,by decide,qh rfl⟩
 case round =>
  obtain ⟨k,m,hk,rfl,rfl,hm,HM⟩:=hrel;by_cases hlt:k<s.size
  · have hts:=take_snocB s k hlt
    have hc:W.isDig s[k]:=HD.out _ (by
     have:s[k]∈(strL s).take (k+1):=by rw [hts]; simp
     exact List.mem_of_mem_take this)
    have hc1:48≤s[k].toNat:=hc.1;have hc2:s[k].toNat≤57:=hc.2;have HN:Hid (W.decV ((strL s).take (k+1))=10*m+(s[k].toNat-48)):=qh (by rw [hts,W.decV_snoc,HM.out]);have hpow:10^k≤10^8:=Nat.pow_le_pow_right (by omega) (by omega)
    have hmb:(m:Int)<100000000:=by have:(10:Nat)^8=100000000:=by decide
                                   omega
    have hp1:10^(k+1)=10*10^k:=by rw [Nat.pow_succ,Nat.mul_comm]
    have HP:=qh (And.intro hm hp1);generalize hck:s[k].toNat=ck at *
    clear hts hc hpow hm hp1;go_wp2;go_round
    case rel=>exact ⟨k+1,10*m+(ck-48),by omega,by go_num,by congr 1; omega,by have:=HP.out; omega,qh (by rw [HN.out])⟩
    case measure=>simp [intOf]; omega
  · have hks:k=s.size:=by omega
    subst hks;have HE:Hid (m=W.decV (strL s)):=qh (by rw [HM.out,List.take_of_length_le (by rw [HL.out]; exact Nat.le_refl _)]);go_wp2;go_ret;refine ⟨?_,rfl⟩;show Ending.returned (.int .i64 (m:Int))=_;rw [HE.out]
theorem rat_gcdI {x y:Nat} {w:World} (hx:x≤9223372036854775807) (hy:y≤9223372036854775807) :
 Calls Tryz.prog 90 #[.int .i64 (x:Int), .int .i64 (y:Int)] w fun e w'=>e = .returned (.int .i64 ((Nat.gcd x y:Nat):Int))∧Qt w w':=by
 go_enter Tryz.func90,Tryz.ntmps90
 go_wp2
 go_loopw [0,1] (fun av bv wr=>∃ a b:Nat,av = .int .i64 (a:Int)∧bv = .int .i64 (b:Int)∧a≤9223372036854775807∧b≤9223372036854775807∧Hid (Nat.gcd a b=Nat.gcd x y)∧Qt w wr) (fun _ bv _=>(intOf bv).toNat)
 case atStart=>exact ⟨x,y,rfl,rfl,hx,hy,qh rfl,Qt.refl _⟩
 case round =>
  obtain ⟨a,b,rfl,rfl,ha,hb,HG,hQ⟩:=hrel;by_cases hb0:b=0
  · have HE:Hid (a=Nat.gcd x y):=qh (by rw [←HG.out,hb0,Nat.gcd_zero_right]);subst hb0;go_wp2;go_ret;refine ⟨?_,hQ⟩;show Ending.returned (.int .i64 (a:Int))=_;rw [HE.out]
  · have hbn:((b:Int) != 0)=true:=by simp; omega
    have hbe:((b:Int) == 0)=false:=by simp; omega
    have hb1:(0:Int)<(b:Int):=by omega
    have HE:Hid (Nat.gcd b (a%b)=Nat.gcd x y):=qh (by rw [←HG.out,Nat.gcd_comm b,←Nat.gcd_rec,Nat.gcd_comm]);have hlt:a%b<b:=Nat.mod_lt _ (by omega);go_wp2
    go_quiet (fail)
    go_wp2;go_roundw
    case rel=>exact ⟨b,a%b,rfl,by first | rfl | (congr 1),hb,by omega,HE,hQ.drewN _⟩
    case measure=>simp [intOf]; omega
def ShQ (l:List UInt8) (n:Int) (d:Nat):Prop:=readQ l=some (mkRat n d)∧n.natAbs<1000000000∧0<d∧d<1000000000
theorem agg_short:Agg Tryz.prog 81 2:=⟨by kernel_rfl,by kernel_rfl⟩
def shL (n d:Int):List Value:=[.int .i64 n, .int .i64 d]
theorem shL_one (n d:Int):∀ v∈shL n d,v.oneCell'=true:=by
 intro v hv;simp only [shL,List.mem_cons,List.not_mem_nil,or_false] at hv;rcases hv with rfl|rfl <;> rfl
def RetSh (w:World) (l:List UInt8) (e:Ending) (w':World):Prop:=Ext w w'∧((∃ n d,e = .returned (.tuple #[.agg (shL n (d:Nat)).toArray, .bool true])∧ShQ l n d)∨e = .returned (.tuple #[.agg (shL 0 0).toArray, .bool false]))
theorem rat_readShort {s:ByteArray} {w:World} (hs:s.size≤1000000):Calls Tryz.prog 47 #[.string s] w (RetSh w (strL s)):=by
 have hsp:=fun (wx:World)=>qh (rat_split s wx hs);obtain ⟨⟨⟨neg,num,den⟩,ok⟩,hP⟩:∃ P,splitP (strL s)=P:=⟨_,rfl⟩;simp only [hP] at hsp;have HP:=qh hP;have hfl:(fracL neg num den).toArray=#[.bool neg, .string ⟨num.toArray⟩, .string ⟨den.toArray⟩]:=rfl;have hsl:(shL 0 0).toArray=#[.int .i64 0, .int .i64 0]:=rfl;clear hP
 go_enter Tryz.func47,Tryz.ntmps47
 go_upto_region 1 with (fail)
 refine box1 ?_;intro w0 hE0 hB0 hz0;have hR:Arr w0 w.heap.size 81 (shL 0 0):=hB0;clear hB0 hz0;by_cases h20:(20:Int)<(s.size:Int)
 · go_wp2_with (refine wl_stArr (vs:=shL 0 0) rfl rfl rfl rfl rfl agg_short hR rfl (shL_one _ _) ?_; intro w9 hB9 hg9)
   refine bodyPost_ret (res_ct rfl agg_short rfl rfl hB9) rfl ?_;exact ⟨hE0.grownR hg9 (Nat.le_refl _),Or.inr rfl⟩
 · go_wp2_with fail
   refine (hsp _).out.mono ?_;rintro e w1 ⟨rfl,hE1⟩;have hY:=Arr.new w1 85 (fracL false [] [])
   go_upto_region 4 with (refine wl_stArr (vs:=fracL neg num den) rfl rfl rfl rfl rfl agg_frac hY rfl (fracL_one _ _ _) ?_; intro w2 hB2 hg2)
   have hE2:Ext w1 w2:=((Ext.refl w1).alloc _).grownR hg2 (Nat.le_refl _);have hR2:=(hR.ext hE1).ext hE2;have hEw:=(hE0.trans hE1).trans hE2;have f0:=hB2.c 0 rfl;have f1:=hB2.c 1 rfl;have f2:=hB2.c 2 rfl;clear hY hg2 hR hE1 hE2 hsp;cases ok with
   | false =>
    go_wp2_with (refine wl_stArr (vs:=shL 0 0) rfl rfl rfl rfl rfl agg_short hR2 rfl (shL_one _ _) ?_; intro w9 hB9 hg9)
    refine bodyPost_ret (res_ct rfl agg_short rfl rfl hB9) rfl ?_;exact ⟨hEw.grownR hg9 (Nat.le_refl _),Or.inr rfl⟩
   | true =>
    have hS:=split_spl HP.out;by_cases hn9:(9:Int)<(num.length:Int)
    · clear hS
      go_wp2_with (refine wl_stArr (vs:=shL 0 0) rfl rfl rfl rfl rfl agg_short hR2 rfl (shL_one _ _) ?_; intro w9 hB9 hg9)
      refine bodyPost_ret (res_ct rfl agg_short rfl rfl hB9) rfl ?_;exact ⟨hEw.grownR hg9 (Nat.le_refl _),Or.inr rfl⟩
    · by_cases hd9:(9:Int)<(den.length:Int)
      · clear hS
        go_wp2_with (refine wl_stArr (vs:=shL 0 0) rfl rfl rfl rfl rfl agg_short hR2 rfl (shL_one _ _) ?_; intro w9 hB9 hg9)
        refine bodyPost_ret (res_ct rfl agg_short rfl rfl hB9) rfl ?_;exact ⟨hEw.grownR hg9 (Nat.le_refl _),Or.inr rfl⟩
      · have hdn:=qh (rat_digitsValue (s:=⟨num.toArray⟩) (w:=w2) (by rw [strL_mk]; exact hS.dn) (by show num.toArray.size≤9; simp; omega));rw [strL_mk] at hdn;have HS:=qh hS;clear hS
        go_wp2_with fail
        refine hdn.out.mono ?_;rintro e w3 ⟨rfl,hw3⟩;subst hw3;have hN:W.decV num<1000000000:=by
         have h1:=W.decV_lt HS.out.dn;have h2:10^num.length≤10^9:=Nat.pow_le_pow_right (by omega) (by omega);have h3:(10:Nat)^9=1000000000:=by decide
         omega
        have hDd:W.decV den<1000000000:=by
         have h1:=W.decV_lt HS.out.dd;have h2:10^den.length≤10^9:=Nat.pow_le_pow_right (by omega) (by omega);have h3:(10:Nat)^9=1000000000:=by decide
         omega
        obtain ⟨o,HO⟩:∃ o,Hid (readQ (strL s)=o∧o=if den=[] then some (mkRat (if neg=true then -((W.decV num:Nat):Int) else ((W.decV num:Nat):Int)) 1) else if (if neg=true then -((W.decV num:Nat):Int) else ((W.decV num:Nat):Int)).natAbs.gcd (W.decV den)=1 then some (mkRat (if neg=true then -((W.decV num:Nat):Int) else ((W.decV num:Nat):Int)) (W.decV den)) else none):=⟨_,qh ⟨rfl,by unfold readQ; simp [HP.out]⟩⟩;have hdd:=fun (wx:World)=>qh (rat_digitsValue (s:=⟨den.toArray⟩) (w:=wx) (by rw [strL_mk]; exact HS.out.dd) (by show den.toArray.size≤9; simp; omega));rw [strL_mk] at hdd
        generalize W.decV num=N at *
        have hY:=Arr.new w3 81 (shL 0 0);have hl1:(shL (N:Int) 1).toArray=#[.int .i64 (N:Int), .int .i64 1]:=rfl;clear hdn
        go_upto_region 7 with (refine wl_stArr (vs:=shL (N:Int) 1) rfl rfl rfl rfl rfl agg_short hY rfl (shL_one _ _) ?_; intro w4 hB4 hg4)
        have hE4:Ext w3 w4:=((Ext.refl w3).alloc _).grownR hg4 (Nat.le_refl _);have hEw4:=hEw.trans hE4;have hR4:=hR2.ext hE4;have hF4:=hB2.ext hE4;have f0:=hE4.cell f0;have f2:=hE4.cell f2;have hXR:w.heap.size<w3.heap.size:=hR2.lt;clear hY hg4 hE4 hl1;by_cases hde:den=[]
        · have HQ:Hid (o=some (mkRat (if neg=true then -(N:Int) else (N:Int)) 1)):=qh (by rw [HO.out.2,if_pos hde]);clear hdd;subst hde;cases neg with
          | false =>
           have q0:=hB4.c 0 rfl;have q1:=hB4.c 1 rfl;have hl2:(shL (N:Int) 1).toArray=#[.int .i64 (N:Int), .int .i64 1]:=rfl
           go_wp2_with (refine wl_stArr (vs:=shL (N:Int) 1) rfl rfl rfl rfl rfl agg_short hR4 rfl (shL_one _ _) ?_; intro w9 hB9 hg9)
           refine bodyPost_ret (res_ct rfl agg_short rfl rfl hB9) rfl ?_;exact ⟨hEw4.grownR hg9 (Nat.le_refl _),Or.inl ⟨(N:Int),1,rfl,(by first | exact ⟨by rw [HO.out.1,HQ.out]; rfl,by omega,by omega,by omega⟩ | exact ⟨by rw [HO.out.1,HQ.out]; simp,by omega,by omega,by omega⟩)⟩⟩
          | true =>
           have q0:=hB4.c 0 rfl;have hnw:IntKind.i64.wrap (-(N:Int)) = -(N:Int):=IntWalk.i64_in _ (by omega)
           go_upto_region 13 with (refine wl_stSub rfl rfl [.int .i64 (-(N:Int))] (shL (-(N:Int)) 1) (by kernel_rfl) rfl rfl rfl hB4 (by simp [shL]) (by simp [Value.oneCell']) rfl ?_; intro w8 hB8 hg8)
           have hE8:=hEw4.grownR hg8 (Nat.le_of_lt hXR);have hR8:=hR4.kept hg8 (by simp; omega);clear q0 hnw;have q0:=hB8.c 0 rfl;have q1:=hB8.c 1 rfl;have hl2:(shL (-(N:Int)) 1).toArray=#[.int .i64 (-(N:Int)), .int .i64 1]:=rfl
           go_wp2_with (refine wl_stArr (vs:=shL (-(N:Int)) 1) rfl rfl rfl rfl rfl agg_short hR8 rfl (shL_one _ _) ?_; intro w9 hB9 hg9)
           refine bodyPost_ret (res_ct rfl agg_short rfl rfl hB9) rfl ?_;exact ⟨hE8.grownR hg9 (Nat.le_refl _),Or.inl ⟨(-(N:Int)),1,rfl,(by first | exact ⟨by rw [HO.out.1,HQ.out]; rfl,by omega,by omega,by omega⟩ | exact ⟨by rw [HO.out.1,HQ.out]; simp,by omega,by omega,by omega⟩)⟩⟩
        · have hdb:den.isEmpty=false:=by cases den with | nil=>exact absurd rfl hde | cons _ _=>rfl
          have hD0:0<W.decV den:=by
           refine Nat.pos_of_ne_zero fun h0 => ?_;have h1:=W.dec_of_digs HS.out.dd hde (fun c r e h=>absurd (by rw [e,h]; rfl) HS.out.nd);rw [h0,W.dec_zero] at h1;exact HS.out.nd (by rw [←h1]; rfl)
          have HQ:Hid (o=if (if neg=true then -(N:Int) else (N:Int)).natAbs.gcd (W.decV den)=1 then some (mkRat (if neg=true then -(N:Int) else (N:Int)) (W.decV den)) else none):=qh (by rw [HO.out.2,if_neg hde])
          go_wp2_with fail
          refine (hdd _).out.mono ?_;rintro e w5 ⟨rfl,hw5⟩;subst hw5;clear hdd hde;generalize W.decV den=D at *
          go_upto_region 9 with (refine wl_stSub rfl rfl [.int .i64 (D:Int)] (shL (N:Int) (D:Int)) (by kernel_rfl) rfl rfl rfl hB4 (by simp [shL]) (by simp [Value.oneCell']) rfl ?_; intro w6 hB6 hg6)
          have hE6:=hEw4.grownR hg6 (Nat.le_of_lt hXR);have hR6:=hR4.kept hg6 (by simp; omega);have hFX:w1.heap.size<w3.heap.size:=hB2.lt;have hF6:=hF4.kept hg6 (by simp; omega);have q0:=hB6.c 0 rfl;have q1:=hB6.c 1 rfl;have hgc:=qh (rat_gcdI (x:=N) (y:=D) (w:=w6) (by omega) (by omega))
          have HGQ:Hid (Nat.gcd N D=1→o=some (mkRat (if neg=true then -(N:Int) else (N:Int)) D)):=qh (fun h=>by
           rw [HQ.out,if_pos]
           cases neg <;> simpa using h)
          generalize Nat.gcd N D=G at *
          clear hg6 hR4 hB4 HQ
          go_wp2_with fail
          refine hgc.out.mono ?_;rintro e w7 ⟨rfl,hQ⟩;have hE7:=hE6.trans hQ.ext;have hR7:=hR6.ext hQ.ext;have hB7:=hB6.ext hQ.ext;have hF7:=hF6.ext hQ.ext;clear hgc q0 q1 hE6 hR6 hB6 hF6 hQ;by_cases hg1:G=1
          · have HG1:=qh (HGQ.out hg1);have hgb:((G:Int) != 1)=false:=by simp [hg1]
            have f0:=hF7.c 0 rfl;clear hg1 HGQ;cases neg with
            | false =>
             have q0:=hB7.c 0 rfl;have q1:=hB7.c 1 rfl;have hl2:(shL (N:Int) (D:Int)).toArray=#[.int .i64 (N:Int), .int .i64 (D:Int)]:=rfl
             go_wp2_with (refine wl_stArr (vs:=shL (N:Int) (D:Int)) rfl rfl rfl rfl rfl agg_short hR7 rfl (shL_one _ _) ?_; intro w9 hB9 hg9)
             refine bodyPost_ret (res_ct rfl agg_short rfl rfl hB9) rfl ?_;exact ⟨hE7.grownR hg9 (Nat.le_refl _),Or.inl ⟨(N:Int),D,rfl,(by first | exact ⟨by rw [HO.out.1,HG1.out]; rfl,by omega,by omega,by omega⟩ | exact ⟨by rw [HO.out.1,HG1.out]; simp,by omega,by omega,by omega⟩)⟩⟩
            | true =>
             have q0:=hB7.c 0 rfl;have hnw:IntKind.i64.wrap (-(N:Int)) = -(N:Int):=IntWalk.i64_in _ (by omega)
             go_upto_region 13 with (refine wl_stSub rfl rfl [.int .i64 (-(N:Int))] (shL (-(N:Int)) (D:Int)) (by kernel_rfl) rfl rfl rfl hB7 (by simp [shL]) (by simp [Value.oneCell']) rfl ?_; intro w8 hB8 hg8)
             have hE8:=hE7.grownR hg8 (Nat.le_of_lt hXR);have hR8:=hR7.kept hg8 (by simp; omega);clear q0 hnw;have q0:=hB8.c 0 rfl;have q1:=hB8.c 1 rfl;have hl2:(shL (-(N:Int)) (D:Int)).toArray=#[.int .i64 (-(N:Int)), .int .i64 (D:Int)]:=rfl
             go_wp2_with (refine wl_stArr (vs:=shL (-(N:Int)) (D:Int)) rfl rfl rfl rfl rfl agg_short hR8 rfl (shL_one _ _) ?_; intro w9 hB9 hg9)
             refine bodyPost_ret (res_ct rfl agg_short rfl rfl hB9) rfl ?_;exact ⟨hE8.grownR hg9 (Nat.le_refl _),Or.inl ⟨(-(N:Int)),D,rfl,(by first | exact ⟨by rw [HO.out.1,HG1.out]; rfl,by omega,by omega,by omega⟩ | exact ⟨by rw [HO.out.1,HG1.out]; simp,by omega,by omega,by omega⟩)⟩⟩
          · have hgb:((G:Int) != 1)=true:=by simp; omega
            clear hg1 HGQ
            go_wp2_with (refine wl_stArr (vs:=shL 0 0) rfl rfl rfl rfl rfl agg_short hR7 rfl (shL_one _ _) ?_; intro w9 hB9 hg9)
            refine bodyPost_ret (res_ct rfl agg_short rfl rfl hB9) rfl ?_;exact ⟨hE7.grownR hg9 (Nat.le_refl _),Or.inr rfl⟩
theorem res_cct {P:Program} {w:World} {fn:Func} {p q r:Tmp} {ty ty':TypeId} (hr:fn.results=#[.cell p ty, .cell q ty', .tmp r]) {tmps:Array Value} {g g':Nat} {t t':TypeId} {cs cs':List Value} {v:Value} (ha:Agg P ty cs.length) (ha':Agg P ty' cs'.length)
 (hp:tmps.getD p undef = .pointer (some ⟨g,0,none⟩)) (hq:tmps.getD q undef = .pointer (some ⟨g',0,none⟩)) (hv:tmps.getD r undef=v) (h:Arr w g t cs) (h':Arr w g' t' cs'):(results fn tmps).run P w = .ok (.tuple #[.agg cs.toArray, .agg cs'.toArray,v]) w:=by
 have hp':tmps[p]?.getD undef = .pointer (some ⟨g,0,none⟩):=by simpa using hp
 have hq':tmps[q]?.getD undef = .pointer (some ⟨g',0,none⟩):=by simpa using hq
 have hv':tmps[r]?.getD undef=v:=by simpa using hv
 simp [results,hr,hp',hq',hv',asAddr,ld_row ha h,ld_row ha' h']
def RetTw (w:World) (l l':List UInt8) (e:Ending) (w':World):Prop:=Ext w w'∧((∃ n d n' d',e = .returned (.tuple #[.agg (shL n (d:Nat)).toArray, .agg (shL n' (d':Nat)).toArray, .bool true])∧ShQ l n d∧ShQ l' n' d')∨e = .returned (.tuple #[.agg (shL 0 0).toArray, .agg (shL 0 0).toArray, .bool false]))
theorem rat_readTwo {s s':ByteArray} {w:World} (hs:s.size≤1000000) (hs':s'.size≤1000000):Calls Tryz.prog 59 #[.string s, .string s'] w (RetTw w (strL s) (strL s')):=by
 have hr1:=fun (wx:World)=>qh (rat_readShort (w:=wx) hs);have hr2:=fun (wx:World)=>qh (rat_readShort (w:=wx) hs');have hsl:(shL 0 0).toArray=#[.int .i64 0, .int .i64 0]:=rfl
 go_enter Tryz.func59,Tryz.ntmps59
 go_upto_region 1 with (fail)
 refine box2 ?_;intro w0 hE0 hB0 hB1 hz0;have hR:Arr w0 w.heap.size 81 (shL 0 0):=hB0;have hS:Arr w0 (w.heap.size+1) 81 (shL 0 0):=hB1;clear hB0 hB1 hz0
 go_wp2_with fail
 refine (hr1 _).out.mono ?_;rintro e w1 ⟨hE1,⟨n,d,rfl,hq⟩|rfl⟩
 · have HQ:=qh hq;have hl1:(shL n (d:Nat)).toArray=#[.int .i64 n, .int .i64 (d:Int)]:=rfl;have hY:=Arr.new w1 81 (shL 0 0);clear hq
   go_upto_region 2 with (refine wl_stArr (vs:=shL n (d:Nat)) rfl rfl rfl rfl rfl agg_short hY rfl (shL_one _ _) ?_; intro w2 hB2 hg2)
   have hE2:Ext w1 w2:=((Ext.refl w1).alloc _).grownR hg2 (Nat.le_refl _);have hE12:=hE1.trans hE2;have hEw2:=hE0.trans hE12;have hR2:=hR.ext hE12;have hS2:=hS.ext hE12;have hX1:=(hS.ext hE1).lt;clear hY hg2 hE1 hE2 hE12 hR hS hr1 hl1
   go_wp2_with fail
   refine (hr2 _).out.mono ?_;rintro e w3 ⟨hE3,⟨n',d',rfl,hq'⟩|rfl⟩
   · have HQ':=qh hq';have hl1:(shL n' (d':Nat)).toArray=#[.int .i64 n', .int .i64 (d':Int)]:=rfl;have hY:=Arr.new w3 81 (shL 0 0);clear hq'
     go_upto_region 5 with (refine wl_stArr (vs:=shL n' (d':Nat)) rfl rfl rfl rfl rfl agg_short hY rfl (shL_one _ _) ?_; intro w4 hB4 hg4)
     have hE4:Ext w3 w4:=((Ext.refl w3).alloc _).grownR hg4 (Nat.le_refl _);have hE34:=hE3.trans hE4;have hEw4:=hEw2.trans hE34;have hR4:=hR2.ext hE34;have hS4:=hS2.ext hE34;have hB24:=hB2.ext hE34;have x0:=hB24.c 0 rfl;have x1:=hB24.c 1 rfl;have y0:=hB4.c 0 rfl;have y1:=hB4.c 1 rfl;have hE3x:w.heap.size+1<w3.heap.size:=by have:=hE3.size; have:=hB2.lt; omega
     clear hY hg4 hE3 hE4 hE34 hB24 hr2;have r0:=hR4.c 0 rfl;have r1:=hR4.c 1 rfl;have s0:=hS4.c 0 rfl;have s1:=hS4.c 1 rfl;have fr:∀ i,w4.frozen? ⟨w.heap.size,i,none⟩=false:=fun i=>hR4.frozen i;have fs:∀ i,w4.frozen? ⟨(w.heap.size+1),i,none⟩=false:=fun i=>hS4.frozen i;have hn1:w3.heap.size≠w.heap.size:=by omega
     have hn2:w.heap.size≠w3.heap.size:=by omega
     go_wp2
     go_region
     have hRa:=(((hR4.set 0 (.int .i64 n)).set 1 (.int .i64 (d:Int))).far (p:=⟨w.heap.size+1,0,none⟩) (by simp) (.int .i64 n')).far (p:=⟨w.heap.size+1,1,none⟩) (by simp) (.int .i64 (d':Int));have hSa:=(((hS4.far (p:=⟨w.heap.size,0,none⟩) (by simp) (.int .i64 n)).far (p:=⟨w.heap.size,1,none⟩) (by simp) (.int .i64 (d:Int))).set 0 (.int .i64 n')).set 1 (.int .i64 (d':Int))
     have hEa:=(((hEw4.setCell (p:=⟨w.heap.size,0,none⟩) (Nat.le_refl _) (.int .i64 n)).setCell (p:=⟨w.heap.size,1,none⟩) (Nat.le_refl _) (.int .i64 (d:Int))).setCell (p:=⟨w.heap.size+1,0,none⟩) (Nat.le_succ _) (.int .i64 n')).setCell (p:=⟨w.heap.size+1,1,none⟩) (Nat.le_succ _) (.int .i64 (d':Int));go_wp2;refine bodyPost_ret (res_cct (cs:=shL n (d:Nat)) (cs':=shL n' (d':Nat)) rfl agg_short agg_short rfl rfl rfl hRa hSa) rfl ?_;exact ⟨hEa.drew,Or.inl ⟨n,d,n',d',rfl,HQ.out,HQ'.out⟩⟩
   · have hY:=Arr.new w3 81 (shL 0 0)
     go_upto_region 5 with (refine wl_stArr (vs:=shL 0 0) rfl rfl rfl rfl rfl agg_short hY rfl (shL_one _ _) ?_; intro w4 hB4 hg4)
     have hE4:Ext w3 w4:=((Ext.refl w3).alloc _).grownR hg4 (Nat.le_refl _);have hE34:=hE3.trans hE4;have hEw4:=hEw2.trans hE34;have hR4:=hR2.ext hE34;have hS4:=hS2.ext hE34;clear hY hg4
     go_wp2_with (first
      | (refine wl_stArr (vs:=shL 0 0) rfl rfl rfl rfl rfl agg_short hR4 rfl (shL_one _ _) ?_; intro w9 hB9 hg9; have hS9:=hS4.kept hg9 (by simp))
      | (refine wl_stArr (vs:=shL 0 0) rfl rfl rfl rfl rfl agg_short hS9 rfl (shL_one _ _) ?_; intro w10 hB10 hg10))
     refine bodyPost_ret (res_cct rfl agg_short agg_short rfl rfl rfl (hB9.kept hg10 (by simp)) hB10) rfl ?_;exact ⟨((hEw4.grownR hg9 (Nat.le_refl _))).grownR hg10 (by omega),Or.inr rfl⟩
 · have hY:=Arr.new w1 81 (shL 0 0)
   go_upto_region 2 with (refine wl_stArr (vs:=shL 0 0) rfl rfl rfl rfl rfl agg_short hY rfl (shL_one _ _) ?_; intro w2 hB2 hg2)
   have hE2:Ext w1 w2:=((Ext.refl w1).alloc _).grownR hg2 (Nat.le_refl _);have hE12:=hE1.trans hE2;have hEw2:=hE0.trans hE12;have hR2:=hR.ext hE12;have hS2:=hS.ext hE12;clear hY hg2
   go_wp2_with (first
    | (refine wl_stArr (vs:=shL 0 0) rfl rfl rfl rfl rfl agg_short hR2 rfl (shL_one _ _) ?_; intro w9 hB9 hg9; have hS9:=hS2.kept hg9 (by simp))
    | (refine wl_stArr (vs:=shL 0 0) rfl rfl rfl rfl rfl agg_short hS9 rfl (shL_one _ _) ?_; intro w10 hB10 hg10))
   refine bodyPost_ret (res_cct rfl agg_short agg_short rfl rfl rfl (hB9.kept hg10 (by simp)) hB10) rfl ?_;exact ⟨((hEw2.grownR hg9 (Nat.le_refl _))).grownR hg10 (by omega),Or.inr rfl⟩
def vaQ (l:List UInt8):Rat:=(readQ l).getD 0
theorem rat_value {s:ByteArray} {w:World} (hT:Tabs w) (hs:s.size≤570):Calls Tryz.prog 61 #[.string s] w (RetR w (vaQ (strL s))):=by
 have hrd:=fun (wx:World) (hC:Ext w wx)=>qh (rat_Read (s:=s) (hT.ext hC) hs);obtain ⟨o,ho⟩:∃ o,readQ (strL s)=o:=⟨_,rfl⟩;have HV:Hid (vaQ (strL s)=o.getD 0):=qh (by unfold vaQ; rw [ho]);rw [ho] at hrd;clear ho
 go_enter Tryz.func61,Tryz.ntmps61
 go_upto_region 1 with (fail)
 refine box1 ?_;intro w0 hE0 hB0 hz0;have hR:Arr w0 w.heap.size 97 (ratL false none 0 0 false none 0 0):=hB0;clear hB0 hz0
 go_wp2_with fail
 refine (hrd _ hE0).out.mono ?_;rintro e w1 ⟨_,rfl,hE1,s1,a1,n1,c1,b1,m1,d1,rfl,HS1,hx1,hy1⟩;have hY:=Arr.new w1 97 (ratL false none 0 0 false none 0 0);have hl1:(ratL s1 a1 n1 c1 false b1 m1 d1).toArray=#[.bool s1, .slice a1 n1 c1, .bool false, .slice b1 m1 d1]:=rfl
 go_upto_region 2 with (refine wl_stArr (vs:=ratL s1 a1 n1 c1 false b1 m1 d1) rfl rfl rfl rfl rfl agg_Ratio hY rfl (ratL_one _ _ _ _ _ _ _ _) ?_; intro w2 hB2 hg2)
 have hE2:Ext w1 w2:=((Ext.refl w1).alloc _).grownR hg2 (Nat.le_refl _);have hEw:=(hE0.trans hE1).trans hE2;have hR2:=(hR.ext hE1).ext hE2;have hx2:=hx1.ext hE2;have hy2:=hy1.ext hE2;have y0:=hB2.c 0 rfl;have y1:=hB2.c 1 rfl;have y2:=hB2.c 2 rfl;have y3:=hB2.c 3 rfl;clear hrd hR hE0 hE1 hE2 hY hg2
 go_wp2_with (refine wl_stArr (vs:=ratL s1 a1 n1 c1 false b1 m1 d1) rfl rfl rfl rfl rfl agg_Ratio hR2 rfl (ratL_one _ _ _ _ _ _ _ _) ?_; intro w9 hB9 hg9)
 refine bodyPost_ret (res_arr rfl agg_Ratio rfl hB9) rfl ?_;rw [HV.out];exact retR_of hEw hR2 (ratL_nu _ _ _ _ _ _ _ _) hg9 (Nat.le_refl _) HS1 hx2 hy2
theorem info8:∃ i,Tryz.prog.info? 5=some i∧i.size=1:=by
 have h:=info_u8;unfold Elem1 at h;cases hx:Tryz.prog.info? 5 with
 | none=>rw [hx] at h; cases h
 | some i=>rw [hx] at h; simp at h; exact ⟨i,rfl,h.2.1⟩
def RetBg (wb:World) (g c:Nat) (T:TypeId) (l:List UInt8) (e:Ending) (w':World):Prop:=e = .returned (.slice (some ⟨g,0,none⟩) l.length c)∧Ext wb w'∧∃ cs',Arr w' g T cs'∧cs'.length=c∧cs'.take l.length=l.map byteV
theorem RetBf.bg {wb w:World} {g c:Nat} {T:TypeId} {l:List UInt8} {e:Ending} {w':World} (h:RetBf w g c T l e w') (hE:Ext wb w) (hg:wb.heap.size≤g):RetBg wb g c T l e w':=by
 obtain ⟨h1,⟨w1,h2,h3⟩,h4⟩:=h;exact ⟨h1,(hE.trans h2).grownR h3 hg,h4⟩
theorem src1 (w:World) (b:UInt8):Go.Src Tryz.prog 1 154 (.slice (some ⟨w.heap.size,0,none⟩) 1 1) 1 ([b].map byteV) (w.alloc (.cells #[byteV b] 5)):=by
 refine Go.Src.ofSlice (P:=Tryz.prog) _ Tryz.underlying154 _ _ _ _ (by simp) (fun j v hj => ?_) (byteV_one _);have hA:=Arr.new w 5 [byteV b];have hj0:j=0:=by have:=(List.getElem?_eq_some_iff.1 hj).1; simp at this; omega
 subst hj0;have e:v=byteV b:=by simpa using hj.symm
 rw [e];exact hA.cell (i:=0) (by simp)
theorem str_AppIA0 {wb w:World} {g n c:Nat} {z:Int} {T:TypeId} {cs:List Value} {l:List UInt8} (hT:Tabs wb) (hE:Ext wb w) (hg:wb.heap.size≤g) (hA:Arr w g T cs) (hl:cs.length=c) (hn:l.length=n) (hc:n+21≤c) (ht:cs.take n=l.map byteV) (h0 : -1000000000000000000<z) (h1:z<1000000000000000000) :
 Calls Tryz.prog 150 #[.slice (some ⟨g,0,none⟩) n c, .int .i64 z, .int .i64 10] w (RetBg wb g c T (l ++ Lib.itoa z)):=by
 obtain ⟨iu,hiu,his⟩:=info8;by_cases hz:z<0
 · have hi:Lib.itoa z=[45] ++ Lib.decDigits z.natAbs:=by unfold Lib.itoa; rw [if_pos hz]; rfl
   rw [hi,←List.append_assoc];have hA1:Arr (w.alloc (.cells #[.int .u8 45] 5)) g T cs:=hA.alloc _;have hsrc:=src1 w 45;have hlen:([45].map byteV).length=1:=rfl;obtain ⟨r,hr⟩:∃ r,l ++ [45] ++ Lib.decDigits z.natAbs=r:=⟨_,rfl⟩;rw [hr];have HL:=qh (And.intro hl (And.intro hn ht));clear hl hn ht hA
   go_enter Tryz.func150,Tryz.ntmps150
   go_upto_region 4 with (refine wl_appA (m:=1) rfl rfl Tryz.underlying154 hiu his rfl rfl hsrc hA1 (by omega) (by rw [HL.out.1]; omega) ?_; intro w2 hA2 hg2)
   have hE2:Ext wb w2:=(hE.alloc _).grownR hg2 hg
   have happ:=qh (str_AppUA (u:=z.natAbs) (l:=l ++ [45]) (n:=n+1) (hT.ext hE2) hA2 (bf_len rfl HL.out.1 (by omega)) (by rw [List.length_append,HL.out.2.1]; rfl) (by omega) (by
    have h:=bf_take (r:=[45]) (m:=1) HL.out.2.2;rw [List.length_append,HL.out.2.1] at h
    exact h) (by omega))
   have hw:IntKind.u64.wrap (-(IntKind.u64.wrap z))=(z.natAbs:Int):=by
    rw [IntKind.wrap_u64,IntKind.wrap_u64];omega
   rw [hr] at happ;clear hr
   go_wp2_with fail
   refine happ.out.mono ?_;rintro e w' h;obtain ⟨rfl,h1,h2⟩:=h.bg hE2 hg;go_wp2;go_ret;exact ⟨rfl,h1,h2⟩
 · have hi:Lib.itoa z=Lib.decDigits z.natAbs:=by unfold Lib.itoa; rw [if_neg hz]; congr 1; omega
   rw [hi];obtain ⟨k,rfl⟩:∃ k:Nat,z=k:=⟨z.natAbs,by omega⟩;rw [Int.natAbs_natCast];have happ:=qh (str_AppUA (u:=k) (hT.ext hE) hA hl hn (by omega) ht (by omega));have hw:IntKind.u64.wrap (k:Int)=(k:Int):=wrap_u64 (by omega) (by omega);obtain ⟨r,hr⟩:∃ r,l ++ Lib.decDigits k=r:=⟨_,rfl⟩;rw [hr] at happ ⊢;clear hl hn ht hA hr
   go_enter Tryz.func150,Tryz.ntmps150
   go_wp2_with fail
   refine happ.out.mono ?_;rintro e w' h;obtain ⟨rfl,h1,h2⟩:=h.bg hE hg;go_wp2;go_ret;exact ⟨rfl,h1,h2⟩
theorem str_AppIA {wb w:World} {g n c:Nat} {z:Int} {T:TypeId} {cs:List Value} {l:List UInt8} (hT:Tabs wb) (hE:Ext wb w) (hg:wb.heap.size≤g) (hA:Arr w g T cs) (hl:cs.length=c) (hn:l.length=n) (hc:n+21≤c) (ht:cs.take n=l.map byteV) (h0 : -1000000000000000000<z) (h1:z<1000000000000000000) :
 Calls Tryz.prog 113 #[.slice (some ⟨g,0,none⟩) n c, .int .i64 z, .int .i64 10] w (RetBg wb g c T (l ++ Lib.itoa z)):=by
 have h:=qh (str_AppIA0 hT hE hg hA hl hn hc ht h0 h1);obtain ⟨r,hr⟩:∃ r,l ++ Lib.itoa z=r:=⟨_,rfl⟩;rw [hr] at h ⊢;clear hl hn ht hA hr
 go_enter Tryz.func113,Tryz.ntmps113
 go_wp2_with fail
 refine h.out.mono ?_;rintro e w' ⟨rfl,h1,h2⟩;go_wp2;go_ret;exact ⟨rfl,h1,h2⟩
theorem txt_whole {q:Rat} (h:q.den=1):txt q=Lib.itoa q.num:=by unfold txt; rw [if_pos h,List.append_nil]
theorem txt_frac {q:Rat} (h:q.den≠1):txt q=(Lib.itoa q.num ++ [47]) ++ Lib.itoa (q.den:Int):=by
 have e:Lib.itoa (q.den:Int)=Lib.decDigits q.den:=by unfold Lib.itoa; rw [if_neg (by omega)]; rfl
 unfold txt;rw [if_neg h,e,List.append_assoc];rfl
theorem itoa_len18 {z:Int} (h0 : -1000000000000000000<z) (h1:z<1000000000000000000):(Lib.itoa z).length≤19:=by
 have key:∀ n:Nat,n<1000000000000000000→(Lib.decDigits n).length≤18:=fun n h=>W.dec_len (k:=18) (by omega) (by omega);unfold Lib.itoa;split
 · have:=key z.natAbs (by omega); simp; omega
 · have:=key z.toNat (by omega); omega
theorem rat_formatShort {n:Int} {d:Nat} {w:World} (hT:Tabs w) (h0 : -1000000000000000000<n) (h1:n<1000000000000000000) (hd:0<d) (h2:d<1000000000000000000) :
 Calls Tryz.prog 60 #[.int .i64 n, .int .i64 (d:Int)] w fun e w'=>e = .returned (.string ⟨(txt (mkRat n d)).toArray⟩)∧Ext w w':=by
 obtain ⟨iu,hiu,his⟩:=info8;obtain ⟨p1,p2⟩:=Pl.rat_frac (n:=n) (d:=d) (by omega);obtain ⟨q,hq⟩:∃ q,mkRat n d=q:=⟨_,rfl⟩;rw [hq] at p1 p2 ⊢;have hfi:=fun (wx:World) (hC:Ext w wx) (z:Int) (a : -1000000000000000000<z) (b:z<1000000000000000000)=>qh (str_FormatInt (z:=z) (hT.ext hC) (by omega) (by omega));have hdn:¬ (d:Int)<0:=by omega
 by_cases hd1:d=1
 · subst hd1;have hqd:q.den=1:=by rw [p2,Nat.gcd_one_right]
   have hqn:q.num=n:=by rw [p1,Nat.gcd_one_right]; exact Int.tdiv_one _
   rw [txt_whole hqd,hqn];clear p1 p2 hq hqd hqn
   go_enter Tryz.func60,Tryz.ntmps60
   go_wp2_with fail
   refine (hfi _ (Ext.refl _) n h0 h1).out.mono ?_;rintro e w1 ⟨rfl,hE1⟩;go_wp2;go_ret;exact ⟨rfl,hE1⟩
 · have hG0:0<Nat.gcd n.natAbs d:=Nat.gcd_pos_of_pos_right _ hd;have hgc:∀ (wx:World) (m:Int),m=(n.natAbs:Int)→Hid _:=fun wx m hm=>qh (by have h:=rat_gcdI (x:=n.natAbs) (y:=d) (w:=wx) (by omega) (by omega); rw [←hm] at h; exact h);obtain ⟨G,hG⟩:∃ G,Nat.gcd n.natAbs d=G:=⟨_,rfl⟩;rw [hG] at p1 p2 hG0 hgc;have hGi:(G:Int)≠0:=by omega
   have hdi:¬ (d:Int)=1:=by omega
   have hdd:(d:Int).tdiv (G:Int)=((d/G:Nat):Int):=rfl;have hb1 : -1000000000000000000<q.num∧q.num<1000000000000000000:=by
    have h1:q.num.natAbs≤n.natAbs:=by rw [p1,Int.natAbs_tdiv]; exact Nat.div_le_self _ _
    omega
   have hb2:q.den<1000000000000000000:=by rw [p2]; exact Nat.lt_of_le_of_lt (Nat.div_le_self _ _) h2
   rw [←p2] at hdd;have p1':=p1.symm;obtain ⟨t,ht⟩:∃ t,txt q=t:=⟨_,rfl⟩;rw [ht];have HT:=qh ht;clear p1 p2 hq hG hG0 ht
   go_enter Tryz.func60,Tryz.ntmps60
   go_wp2_with fail
   all_goals
    refine (hgc _ _ (by omega)).out.mono ?_;rintro e w1 ⟨rfl,hQ⟩;have hE1:=hQ.ext;clear hQ
    go_upto_region 5 with (fail)
    have k1:IntKind.i64.wrap (n.tdiv (G:Int))=q.num:=by rw [p1']; exact IntWalk.i64_in _ (by omega)
    have k2:IntKind.i64.wrap ((d:Int).tdiv (G:Int))=(q.den:Int):=by rw [hdd]; exact IntWalk.i64_in _ (by omega)
    go_region
    replace hE1:=hE1.drew;generalize w1.drew=w2 at *
    clear k1 k2 hdd p1' hGi hdi hgc;by_cases hq1:q.den=1
    · have HR:Hid (Lib.itoa q.num=t):=qh (by rw [←txt_whole hq1]; exact HT.out);have hqb:((q.den:Int) == 1)=true:=by simp [hq1]
      clear hq1
      go_wp2_with fail
      refine (hfi _ hE1 _ hb1.1 hb1.2).out.mono ?_;rintro e w3 ⟨rfl,hE3⟩;go_wp2;go_ret;exact ⟨by rw [←HR.out]; rfl,hE1.trans hE3⟩
    · have HR:Hid (Lib.itoa q.num ++ [47] ++ Lib.itoa (q.den:Int)=t):=qh (by rw [←txt_frac hq1]; exact HT.out);have hqb:((q.den:Int) == 1)=false:=by simp; omega
      clear hq1 hfi;obtain ⟨G8,hG8⟩:∃ G8,w2.heap.size=G8:=⟨_,rfl⟩
      go_upto_region 9 with (fail)
      refine box1 ?_;intro w3 hE3 hB3 hz3;rw [hG8] at hB3;replace hE3:=hE1.trans hE3;have hg:w.heap.size≤G8:=by rw [←hG8]; exact hE1.size
      obtain ⟨cs,hB,hl⟩:∃ cs,Arr w3 G8 161 cs∧cs.length=48:=⟨_,hB3,rfl⟩;clear hB3 hz3 hG8 hE1
      have hsl:∀ W,(Instr.sliceAt 161 (.pointer (some ⟨G8,0,none⟩)) none (some (.int .i64 0)) none).run Tryz.prog W = .ok (.slice (some ⟨G8,0,none⟩) 0 48) W:=fun W=>by
       have hal:Tryz.prog.arrayLen 161=48:=by kernel_rfl
       have h:=run_sliceAt_array_h (P:=Tryz.prog) W 161 ⟨G8,0,none⟩ (by simp [Program.arrayLen,Program.elem,Tryz.underlying161]) .i64 0 (by omega) (by rw [hal]; omega);rw [h,hal];go_simp
      have hl1:=itoa_len18 hb1.1 hb1.2;have happ:=qh (str_AppIA (l:=[]) (n:=0) hT hE3 hg hB hl rfl (by omega) rfl hb1.1 hb1.2);rw [List.nil_append] at happ;obtain ⟨t1,ht1⟩:∃ t1,Lib.itoa q.num=t1:=⟨_,rfl⟩;rw [ht1] at happ HR hl1;obtain ⟨L,hL⟩:∃ L,t1.length=L:=⟨_,rfl⟩;rw [hL] at hl1;have HL:=qh hL;clear ht1 hL hB hl
      go_wp2_with fail
      refine happ.out.mono ?_;rintro e w4 ⟨rfl,hE4,cs4,hB4,hl4,ht4⟩;rw [HL.out] at ht4 ⊢;have HL4:=qh (And.intro hl4 ht4);clear happ hl4 ht4 hsl;have hA5:Arr (w4.alloc (.cells #[.int .u8 47] 5)) G8 161 cs4:=hB4.alloc _;have hsrc:=src1 w4 47;have hlen:([47].map byteV).length=1:=rfl;clear hB4
      go_upto_region 11 with (refine wl_appA (m:=1) rfl rfl Tryz.underlying154 hiu his rfl rfl hsrc hA5 (by omega) (by rw [HL4.out.1]; omega) ?_; intro w5 hB5 hg5)
      have hE5:Ext w w5:=(hE4.alloc _).grownR hg5 hg
      have happ:=qh (str_AppIA (l:=t1 ++ [47]) (n:=L+1) (z:=(q.den:Int)) hT hE5 hg hB5 (bf_len rfl HL4.out.1 (by omega)) (by rw [List.length_append,HL.out]; rfl) (by omega) (by
       have h:=bf_take (r:=[47]) (m:=1) HL4.out.2;rw [List.length_append,HL.out] at h
       exact h) (by omega) (by omega))
      rw [HR.out] at happ;clear hB5 hg5 hsrc hlen
      go_wp2_with fail
      refine happ.out.mono ?_;rintro e w6 ⟨rfl,hE6,cs6,hB6,hl6,ht6⟩;have hd48:t.length≤48:=by
       have h:=congrArg List.length ht6;simp only [List.length_take,List.length_map,hl6] at h;omega
      have hS:=hB6.sl (k:=t.length) (by omega) (by rw [hl6]; unfold maxLen; omega);rw [hl6,ht6] at hS;clear ht6 hl6 hB6 happ
      go_wp2_with (refine wl_fromBytes rfl rfl Tryz.underlying154 Tryz.underlying5 Tryz.underlying9 rfl hS ?_)
      go_ret;exact ⟨rfl,hE6⟩
theorem rat_MulT {x y:Rat} {w:World} (hT:Tabs w) (hx:Pl.RB 149 x) (hy:Pl.RB 149 y) (lx:(txt x).length≤570) (ly:(txt y).length≤570) :
 Calls Tryz.prog 21 #[.string ⟨(txt x).toArray⟩, .string ⟨(txt y).toArray⟩] w fun e w'=>e = .returned (.string ⟨(txt (x*y)).toArray⟩)∧Ext w w':=by
 have sx:(⟨(txt x).toArray⟩:ByteArray).size≤570:=by rw [←strL_len,strL_mk]; exact lx
 have sy:(⟨(txt y).toArray⟩:ByteArray).size≤570:=by rw [←strL_len,strL_mk]; exact ly
 have htw:=qh (rat_readTwo (w:=w) (s:=⟨(txt x).toArray⟩) (s':=⟨(txt y).toArray⟩) (by omega) (by omega));have hv1:=fun (wx:World) (hC:Ext w wx)=>qh (rat_value (s:=⟨(txt x).toArray⟩) (hT.ext hC) sx);have hv2:=fun (wx:World) (hC:Ext w wx)=>qh (rat_value (s:=⟨(txt y).toArray⟩) (hT.ext hC) sy);have e1:vaQ (strL ⟨(txt x).toArray⟩)=x:=by unfold vaQ; rw [strL_mk,readQ_txt]; rfl
 have e2:vaQ (strL ⟨(txt y).toArray⟩)=y:=by unfold vaQ; rw [strL_mk,readQ_txt]; rfl
 rw [e1] at hv1;rw [e2] at hv2;rw [strL_mk,strL_mk] at htw;have hml:=fun (wx:World) (v v':Value) (hC:Ext w wx) (h:RatR wx v x) (h':RatR wx v' y)=>qh (rat_Mul (hT.ext hC) h h' (P2_lt hx.1 (by omega)) (P2_lt hx.2 (by omega)) (P2_lt hy.1 (by omega)) (P2_lt hy.2 (by omega)));have hxy:=hx.mul hy;have hst:=fun (wx:World) (v:Value) (hC:Ext w wx) (h:RatR wx v (x*y))=>qh (rat_String (hT.ext hC) h (P2_lt hxy.1 (by omega)) (P2_lt hxy.2 (by omega)))
 have hsh:∀ n d n' d',ShQ (txt x) n d→ShQ (txt y) n' d'→∀ wx,Ext w wx→Hid (Calls Tryz.prog 60 #[.int .i64 (n*n'), .int .i64 ((d:Int)*(d':Int))] wx fun e w'=>e = .returned (.string ⟨(txt (x*y)).toArray⟩)∧Ext wx w')∧(-9223372036854775808≤n*n'∧n*n'≤9223372036854775807)∧((d:Int)*(d':Int))≤9223372036854775807:=by
  rintro n d n' d' ⟨q1,b1,c1,f1⟩ ⟨q2,b2,c2,f2⟩ wx hC;rw [readQ_txt] at q1 q2;have k1:x=mkRat n d:=Option.some.inj q1;have k2:y=mkRat n' d':=Option.some.inj q2;have hnn:(n*n').natAbs<1000000000*1000000000:=by
   rw [Int.natAbs_mul];exact Nat.mul_lt_mul'' b1 b2
  have hdd:d*d' < 1000000000*1000000000:=Nat.mul_lt_mul'' f1 f2;have hd0:0<d*d':=Nat.mul_pos c1 c2;have h:=rat_formatShort (w:=wx) (n:=n*n') (d:=d*d') (hT.ext hC) (by omega) (by omega) hd0 (by omega);rw [←Rat.mkRat_mul_mkRat,←k1,←k2,Int.natCast_mul] at h;refine ⟨qh h,by omega, ?_⟩;rw [←Int.natCast_mul];omega
 clear sx sy e1 e2 hx hy hxy;obtain ⟨S,hS⟩:∃ S:ByteArray,⟨(txt x).toArray⟩=S:=⟨_,rfl⟩;obtain ⟨S',hS'⟩:∃ S:ByteArray,⟨(txt y).toArray⟩=S:=⟨_,rfl⟩;obtain ⟨R,hR⟩:∃ S:ByteArray,⟨(txt (x*y)).toArray⟩=S:=⟨_,rfl⟩;rw [hS] at htw hv1 ⊢;rw [hS'] at htw hv2 ⊢;rw [hR] at hst ⊢;simp only [hR] at hsh;clear hS hS' hR
 go_enter Tryz.func21,Tryz.ntmps21
 go_wp2_with fail
 refine htw.out.mono ?_;rintro e w1 ⟨hE1,⟨n,d,n',d',rfl,hq,hq'⟩|rfl⟩
 · have hl1:(shL n (d:Nat)).toArray=#[.int .i64 n, .int .i64 (d:Int)]:=rfl;have hl2:(shL n' (d':Nat)).toArray=#[.int .i64 n', .int .i64 (d':Int)]:=rfl;have hY5:=(Arr.new w1 81 (shL 0 0)).alloc (.cells (shL 0 0).toArray 81);have hY6:=Arr.new (w1.alloc (.cells (shL 0 0).toArray 81)) 81 (shL 0 0);have hsz:(w1.alloc (.cells (shL 0 0).toArray 81)).heap.size=w1.heap.size+1:=by simp
   rw [hsz] at hY6;have HQ:=qh (fun wx hC=>hsh n d n' d' hq hq' wx hC);clear hsh hq hq' hsz hv1 hv2 hml hst
   go_upto_region 2 with (first
    | (refine wl_stArr (vs:=shL n (d:Nat)) rfl rfl rfl rfl rfl agg_short hY5 rfl (shL_one _ _) ?_; intro w2 hB2 hg2; have hY7:=hY6.kept hg2 (by simp))
    | (refine wl_stArr (vs:=shL n' (d':Nat)) rfl rfl rfl rfl rfl agg_short hY7 rfl (shL_one _ _) ?_; intro w3 hB3 hg3; have hB4:=hB2.kept hg3 (by simp)))
   have hEw:Ext w w3:=(((hE1.alloc _).alloc _).grownR hg2 hE1.size).grownR hg3 (Nat.le_succ_of_le hE1.size);have p0:=hB4.c 0 rfl;have p1:=hB4.c 1 rfl;have q0:=hB3.c 0 rfl;have q1:=hB3.c 1 rfl;obtain ⟨hF,hr,hr2⟩:=HQ.out w3 hEw;have hr3:(0:Int)≤(d:Int)*(d':Int):=Int.mul_nonneg (by omega) (by omega);have m1:IntKind.i64.wrap (n*n')=n*n':=IntWalk.i64_in _ (by omega);have m2:IntKind.i64.wrap ((d:Int)*(d':Int))=(d:Int)*(d':Int):=IntWalk.i64_in _ (by omega);clear hr hr2 hr3 hB2 hB3 hB4 hg2 hg3 hY5 hY6 hY7 HQ hE1
   go_wp2_with fail
   refine hF.out.mono ?_;rintro e w4 ⟨rfl,hE4⟩;go_wp2;go_ret;exact ⟨rfl,hEw.trans hE4⟩
 · have hl1:(shL 0 0).toArray=#[.int .i64 0, .int .i64 0]:=rfl;have hY5:=(Arr.new w1 81 (shL 0 0)).alloc (.cells (shL 0 0).toArray 81);have hY6:=Arr.new (w1.alloc (.cells (shL 0 0).toArray 81)) 81 (shL 0 0);have hsz:(w1.alloc (.cells (shL 0 0).toArray 81)).heap.size=w1.heap.size+1:=by simp
   rw [hsz] at hY6;clear hsh hsz
   go_upto_region 2 with (first
    | (refine wl_stArr (vs:=shL 0 0) rfl rfl rfl rfl rfl agg_short hY5 rfl (shL_one _ _) ?_; intro w2 hB2 hg2; have hY7:=hY6.kept hg2 (by simp))
    | (refine wl_stArr (vs:=shL 0 0) rfl rfl rfl rfl rfl agg_short hY7 rfl (shL_one _ _) ?_; intro w3 hB3 hg3))
   have hEw:Ext w w3:=(((hE1.alloc _).alloc _).grownR hg2 hE1.size).grownR hg3 (Nat.le_succ_of_le hE1.size);clear hB2 hB3 hg2 hg3 hY5 hY6 hY7 hE1
   go_wp2_with fail
   refine (hv1 _ hEw).out.mono ?_;rintro e w4 ⟨c4,rfl,hE4,hR4⟩;replace hE4:=hEw.trans hE4
   go_wp2_with fail
   refine (hv2 _ hE4).out.mono ?_;rintro e w5 ⟨c5,rfl,hE5,hR5⟩;have hx:RatR w5 _ x:=⟨c4,rfl,hR4.ext hE5⟩;replace hE5:=hE4.trans hE5
   go_wp2_with fail
   refine (hml _ _ _ hE5 hx ⟨c5,rfl,hR5⟩).out.mono ?_;rintro e w6 ⟨c6,rfl,hE6,hR6⟩;replace hE6:=hE5.trans hE6
   go_wp2_with fail
   refine (hst _ _ hE6 ⟨c6,rfl,hR6⟩).out.mono ?_;rintro e w7 ⟨rfl,hE7⟩;go_wp2;go_ret;exact ⟨rfl,hE6.trans hE7⟩
end Go.Proofs.YtlpgonpfjbhmfaaGreatDoor
