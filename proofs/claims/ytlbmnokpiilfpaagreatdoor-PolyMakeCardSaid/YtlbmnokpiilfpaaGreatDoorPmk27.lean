/- Part Pmk27. -/
import Derived.Test.YtlbmnokpiilfpaaGreatDoorPmk25
import Derived.Test.YtlbmnokpiilfpaaGreatDoorPmk26
import Derived.Test.YtlbmnokpiilfpaaGreatDoorPmk18
import Derived.Test.YtlbmnokpiilfpaaGreatDoorPmk16
import Derived.Test.YtlbmnokpiilfpaaGreatDoorPmk20
import Derived.Test.YtlbmnokpiilfpaaGreatDoorPmk17
set_option maxRecDepth 100000
set_option maxHeartbeats 100000000
namespace Go.Proofs.YtlbmnokpiilfpaaGreatDoor
open Tryz Go Go.RowKit
variable {vars:Int} {rows:List (List Value)} {xs:List Int} {cs ds row zs:List Value} {b b' b0 base bytes c c' g i k n:Nat} {a a':Option Addr} {P:Program} {e e' t:TypeId} {r0 r1:Value} {w w':World}
theorem Nm (j:P.underlying t=some (.slice e)) (a:Cj P e zs 2 bytes) :
 (Instr.buildSlice t 1 #[(0, .agg #[r0,r1])]).run P w = .ok (.slice (some ⟨w.heap.size,0,none⟩) 1 1) (w.alloc (.cells #[r0,r1] e)):=by
 obtain ⟨i,f,c,b,d⟩:=a.parts;have g:=a.2.1
 match zs,g,c with
 | [z0,z1],_,c =>
 simp [Instr.buildSlice,run_underlying j,sizeOf,typeInfo,f,b,Instr.fill,zeroValue,c,newRow,Value.cells,show Array.range 2=#[0,1] by decide]
theorem QR {o:Nat} (h:Own w b e a n c cs) (i:AP w b' e' k a' o c' rows) (m:e≠e'):blk a=none\/blk a≠blk a':=by
 cases j:blk a with
 | none=>exact .inl rfl
 | some g =>
  refine .inr fun l => ?_;obtain ⟨cs,p,h1⟩:=Own.ty h g j;obtain ⟨d,f,h2⟩:=i.ty l.symm;rw [h1] at h2;simp only [Option.some.injEq,Obj.cells.injEq] at h2;exact m h2.2.1
theorem Se (h:Own w b e a n c cs) (d:Arr w g t ds) (j:e≠t):blk a=none\/blk a≠some g:=by
 cases i:blk a with
 | none=>exact .inl rfl
 | some q =>
  refine .inr fun f => ?_;obtain ⟨cs,k,h1⟩:=Own.ty h q i;injection f with f;subst f;unfold Arr at d;rw [h1] at d;simp only [Option.some.injEq,Obj.cells.injEq] at d;exact j d.2.1
theorem TmO.grow {l:List Tx} {t:Tx} (f:AP w base 26 2 a n c rows) (g:l.length=n) (o:∀ i,i<n->G9 w base (rows.getD i []) (l.getD i tm0)) (r:G9 w base row t) (m:AP w' base 26 2 a' (n+1) c' (rows ++ [row])) (p:w.grownBy w' (blk a)):TmO w' base a' (n+1) c' (l ++ [t]):=by
 have d:∀ {row:List Value} {t:Tx},G9 w base row t->G9 w' base row t:=fun {row t} h=>by
  obtain ⟨s,j,v,k,h1,h2,h3⟩:=h;exact ⟨s,j,v,k,h1,h2,h3.kept p (QR h3 f (by decide))⟩
 refine ⟨_,m,by simp [g],fun i x => ?_⟩;have q:rows.length=n:=f.len (by omega);by_cases e:i<n
 · have h1:(rows ++ [row]).getD i []=rows.getD i []:=by rw [gqq,List.getElem?_append_left (by omega),<-gqq]
   have h2:(l ++ [t]).getD i tm0=l.getD i tm0:=by rw [gqq,List.getElem?_append_left (by omega),<-gqq]
   rw [h1,h2];exact d (o i e)
 · have b:i=n:=by omega
   have h1:(rows ++ [row]).getD i []=row:=by rw [gqq,List.getElem?_append_right (by omega),q,b,Nat.sub_self]; rfl
   have h2:(l ++ [t]).getD i tm0=t:=by rw [gqq,List.getElem?_append_right (by omega),g,b,Nat.sub_self]; rfl
   rw [h1,h2];exact d r
theorem TmO.keptU {l:List Tx} (h:TmO w base a n c l) (f:Arr w g t cs) (h1:26≠t) (h2:3≠t) (j:w.grownBy w' (some g)):TmO w' base a n c l:=by
 obtain ⟨b,k,x,y⟩:=h;refine ⟨b,k.kept j ?_,x,fun i v => ?_⟩
 · cases d:blk a with
   | none=>exact .inl rfl
   | some q=>exact .inr fun he=>k.ne f h1 (by rw [d,he])
 · obtain ⟨s,m,z,o,p,r,e⟩:=y i v;exact ⟨s,m,z,o,p,r,e.kept j (Se e f h2)⟩
def Ud (w0:World) (vars:Int) (ts:List Tx) (e:Ending) (w':World):Prop:=∃ a n c,e = .returned (BW vars a n c)/\Ext w0 w'/\TmO w' w0.heap.size a n c ts
theorem QS {l:List Pl.Tm} (hi:i<l.length):wrU (l.take i) ++ [(txt (l.getD i tz).2,(l.getD i tz).1)]=wrU (l.take (i+1)):=by
 unfold wrU;rw [List.take_succ_eq_append_getElem hi,List.map_append,gqq,List.getElem?_eq_getElem hi];rfl
theorem EC {l:List Pl.Tm} (h:TSl w b0 a n c l) (hq:∀ t∈l,Pl.RB 1000000 t.2) (aM:∀ t∈l,t.1.length<=12) (hn:n<=100000) :
 Calls prog 76 #[.agg (pL vars a n c).toArray] w (Ud w vars (wrU l)):=by
 have hl:=h.len
 go_enter func76,ntmps76
 go_upto_region 1 with (fail)
 refine Dm ?_;intro D V T ac a3;have aI:Arr D (w.heap.size+1) 28 (Aq 0 none 0 0):=ac;have p0:=T.c 0 rfl;have p1:=T.c 1 rfl;have F:=Arr.new D 28 (Aq vars none 0 0);have ad:=(Ext.refl D).alloc (.cells (Aq vars none 0 0).toArray 28);clear T ac
 go_upto_region 2 with (fail)
 change Code.wp _ _ _ _ (D.alloc (.cells (Aq vars none 0 0).toArray 28));generalize D.alloc (.cells (Aq vars none 0 0).toArray 28)=w2 at *
 have a8:Hid (TmO w2 D.heap.size none 0 0 []):=qh (TmO.nil _ _);have a5:Hid (D.heap.size<=w.heap.size+2):=qh (Nat.le_of_eq a3);rw [a3] at F;obtain ⟨M,X⟩:∃ M,w.heap.size+2=M:=⟨_,rfl⟩;rw [X] at F a5;simp only [X];have h0:=h.ext V;clear X h a3;go_wp2
 go_loopw [4] (fun iv wr=>∃ (i:Nat) (O:Option Addr) (P:Nat),iv = .int .i64 i/\i<=n/\Ext D wr/\Arr wr M 28 (Aq vars O i P)/\Hid (TmO wr D.heap.size O i P (wrU (l.take i)))) (fun iv _=>n-(intOf iv).toNat)
 case atStart=>exact ⟨0,none,0,rfl,Nat.zero_le _,ad,F,by rw [List.take_zero]; exact a8⟩
 case round =>
  clear a8 F ad;obtain ⟨i,O,P,rfl,aK,U,B,HO⟩:=hrel;have aO:=U.cell p1;by_cases hi:i<n
  case neg =>
   have aJ:¬ (i:Int)<n:=by omega
   have aL:i=n:=by omega
   have HX:Hid (TmO wr D.heap.size O i P (wrU l)):=by have h1:=HO.out; rw [List.take_of_length_le (by omega)] at h1; exact qh h1
   have z0:=B.c 0 rfl;have z1:=B.c 1 rfl;have ag:=aI.ext U;clear aL HO B aK
   go_wp2_with (refine Aa (vs:=Aq vars O i P) rfl rfl rfl rfl rfl Ae ag rfl (Ar _ _ _ _) ?_; intro w9 ay aj)
   exact bodyPost_ret (Al rfl Ae rfl ay) rfl ⟨O,i,P,rfl,(V.trans U).grownR aj (by omega),(HX.out.keptU ag (by decide) (by decide) aj).mono V.size⟩
  have aJ:(i:Int)<n:=by omega
  have Q:i<l.length:=by omega
  obtain ⟨o,q,aP,s1,x1,m1,d1,y1,g1,h1,ab,N,f1,rfl,z,p,a6,al,ah,Z⟩:=(h0.ext U).row hi;have R:l.getD i tz∈l:=List.mem_of_getElem? (getD_some Q);have aQ:N<=12:=by have q1:=Z.1.len; have q2:=aM _ R; omega
  have ar:wr.cell? ⟨o,q+i*5,none⟩=some (.bool s1):=by have:=z.cl hi (j:=0) (by omega); rw [p] at this; exact this
  have au:wr.cell? ⟨o,q+i*5+1,none⟩=some (.slice x1 m1 d1):=by have:=z.cl hi (j:=1) (by omega); rw [p] at this; exact this
  have av:wr.cell? ⟨o,q+i*5+2,none⟩=some (.bool false):=by have:=z.cl hi (j:=2) (by omega); rw [p] at this; exact this
  have aw:wr.cell? ⟨o,q+i*5+3,none⟩=some (.slice y1 g1 h1):=by have:=z.cl hi (j:=3) (by omega); rw [p] at this; exact this
  have ax:wr.cell? ⟨o,q+i*5+4,none⟩=some (.slice ab N f1):=by have:=z.cl hi (j:=4) (by omega); rw [p] at this; exact this
  have pp:=B.c 1 rfl;have am:=qh (fun (b:World) (f:Ext wr b)=>Mb (v := .agg #[.bool s1, .slice x1 m1 d1, .bool false, .slice y1 g1 h1]) ⟨s1,x1,m1,d1,y1,g1,h1,rfl,a6,al.ext f,ah.ext f⟩ (hq _ R));obtain ⟨S,hS⟩:∃ S:ByteArray,(⟨(txt (l.getD i tz).2).toArray⟩:ByteArray)=S:=⟨_,rfl⟩;rw [hS] at am;have aq:Hid (Aj S=txt (l.getD i tz).2):=by rw [<-hS]; exact qh rfl
  have aa:=qh (QS Q);have C:∀ b,Ext wr b->wr.heap.size<=b.heap.size:=fun b f=>f.size;have a2:=Z.1;obtain ⟨xs,an⟩:∃ xs,(l.getD i tz).1=xs:=⟨_,rfl⟩;rw [an] at a2 aa;have aZ:=a2.len;clear hS z p al ah a6 Z an
  go_upto_region 5 with (fail)
  have A:=fun (b:World) (f:Ext wr b)=>qh (And.intro (f.cell pp) (And.intro (f.cell aO) (And.intro (f.cell ar) (And.intro (f.cell au) (And.intro (f.cell av) (And.intro (f.cell aw) (f.cell ax)))))))
  refine Ab (by kernel_rfl) (fun b=>Ext wr b)
   [he (.pointer (some ⟨M,1,none⟩)),
 he (.slice O i P),
 he (.pointer (some ⟨w.heap.size,1,none⟩)),
 he (.slice (some ⟨o,q,none⟩) n c),
 he (.int .i64 (i:Int)),
 he (.pointer (some ⟨o,(q+i*5),none⟩)),
 he (.pointer (some ⟨o,(q+i*5),none⟩)),
 he (.agg #[.bool s1, .slice x1 m1 d1, .bool false, .slice y1 g1 h1]),
 hp (fun v b=>v = .string S),
 hu 16 (fun v b=>∃ g,v = .slice (some ⟨g,0,none⟩) 0 0/\Own b wr.heap.size 3 (some ⟨g,0,none⟩) 0 0 []),
 he (.pointer (some ⟨w.heap.size,1,none⟩)),
 he (.slice (some ⟨o,q,none⟩) n c),
 he (.int .i64 (i:Int)),
 he (.pointer (some ⟨o,(q+i*5),none⟩)),
 he (.pointer (some ⟨o,((q+i*5)+4),none⟩)),
 he (.slice ab N f1),
 hmp (fun v b=>∃ s x,v = .slice s N x/\Own b wr.heap.size 3 s N x (xs.map (Value.int .i64))),
 hp (fun v b=>∃ s x,v = .agg #[.string S, .slice s N x]/\Own b wr.heap.size 3 s N x (xs.map (Value.int .i64))),
 hp (fun v b=>∃ g s x,v = .slice (some ⟨g,0,none⟩) 1 1/\Arr b g 26 (tmL S s N x)/\Own b wr.heap.size 3 s N x (xs.map (Value.int .i64)))]
   (by kernel_rfl) (fun _ _ e h=>h.trans e) ((Ext.refl wr).drew) ⟨trivial,trivial,trivial,trivial,trivial,trivial,trivial,trivial,fun v w w' e h=>h,fun v w w' e ⟨g,h1,h2⟩=>⟨g,h1,h2.ext e⟩,trivial,trivial,trivial,trivial,trivial,trivial,fun v w w' e ⟨s,x,h1,h2⟩=>⟨s,x,h1,h2.ext e⟩,fun v w w' e ⟨s,x,h1,h2⟩=>⟨s,x,h1,h2.ext e⟩,fun v w w' e ⟨g,s,x,h1,h2,h3⟩=>⟨g,s,x,h1,h2.ext e,h3.ext e⟩,trivial⟩ ⟨?o0, ?o1, ?o2, ?o3, ?o4, ?o5, ?o6, ?o7, ?o8, ?o9, ?o10, ?o11, ?o12, ?o13, ?o14, ?o15, ?o16, ?o17, ?o18,trivial⟩ ?fin
  case o0 | o2 | o10=>exact ofa (d:=1)
  case o1 | o3 | o11 | o15=>exact ol
  case o4 | o12=>exact omv
  case o6=>exact ofa (d:=0)
  case o7=>exact ol4
  case o14=>exact ofa (d:=4)
  case o5 =>
   refine An rfl fun E b f y h => ?_;have e0:E (.tmp 18)=(.slice (some ⟨o,q,none⟩) n c):=h.1;have e1:E (.tmp 19)=(.int .i64 (i:Int)):=h.2.1;obtain ⟨kp,kq,H,I,J,K,L⟩:=(A b f).out;go_simp
   try (first | (intros; omega) | exact IntWalk.i64_in _ (by omega))
  case o8 =>
   refine Am rfl fun E b f y ai h => ?_;have e1:E (.tmp 22)=(.agg #[.bool s1, .slice x1 m1 d1, .bool false, .slice y1 g1 h1]):=h.2.1;obtain ⟨kp,kq,H,I,J,K,L⟩:=(A b f).out;refine ⟨96,#[.agg #[.bool s1, .slice x1 m1 d1, .bool false, .slice y1 g1 h1]],by go_simp,(am.out b f).mono ?_⟩;rintro e w' ⟨rfl,az⟩;exact ⟨_,rfl,az,rfl⟩
  case o9 =>
   exact Qx rfl rfl underlying24 CM C
  case o13 =>
   refine An rfl fun E b f y h => ?_;have e0:E (.tmp 26)=(.slice (some ⟨o,q,none⟩) n c):=h.1;have e1:E (.tmp 27)=(.int .i64 (i:Int)):=h.2.1;obtain ⟨kp,kq,H,I,J,K,L⟩:=(A b f).out;go_simp
   try (first | (intros; omega) | exact IntWalk.i64_in _ (by omega))
  case o16 =>
   refine RV rfl rfl underlying24 CM rfl (n:=0) (m:=N) (xs:=[]) (news:=(xs.map (Value.int .i64))) (CN _) (by omega) (by unfold maxLen; omega) (by omega) (List.nil_append _) C ?_;rintro E b hp f ⟨⟨v0,e0,g,rfl,ae⟩,h1,-⟩;refine ⟨_,_,_,_,e0,ae,h1,a2.ext f,fun w' hg=>⟨f.grown hg ?_,JU (j:=8) (by kernel_rfl) (fun _ h=>h)⟩⟩;intro k hk;exact (Own.lt ae hk).1
  case o17 =>
   refine AY rfl ?_;intro E b hp f h;have y:=hp.const;have ai:=hp.func;obtain ⟨v0,e0,rfl⟩:=h.1;obtain ⟨v1,e1,s,x,rfl,i1⟩:=h.2.1;obtain ⟨kp,kq,H,I,J,K,L⟩:=(A b f).out;refine ⟨.agg #[.string S, .slice s N x],b, ?_,Ext.refl b,s,x,rfl,i1⟩;go_simp
  case o18 =>
   refine AY rfl ?_;intro E b hp f h;have y:=hp.const;have ai:=hp.func;obtain ⟨v0,e0,a0,c0,rfl,i0⟩:=h.1;obtain ⟨kp,kq,H,I,J,K,L⟩:=(A b f).out;refine ⟨_,_, ?_,(Ext.refl b).alloc (.cells (tmL S a0 N c0).toArray 26),b.heap.size,a0,c0,rfl,Arr.new b 26 (tmL S a0 N c0),i0.alloc _⟩;simp [execOp,e0,Nm underlying22 EN];rfl
  case fin =>
   intro b f;rintro _ rfl;rintro _;rintro _ ⟨aU,aW,rfl,aR⟩;rintro _ ⟨aV,aX,rfl,aS⟩;rintro _ ⟨g9,a9,c9,rfl,aC,aG⟩;change wpList _ _ _ _ _ _;simp only [la,lb,ld,lz,Act.put,lq,ly,lx];obtain ⟨aT,hK,aE,aD⟩:=HO.out;have W:=hK.ext f;have hL:=B4 (k:=2) aC rfl;have af:=B.ext f;have aN:=W.ne af (by decide)
   go_wp2_with (refine DO rfl rfl underlying22 EN rfl W rfl hL (by intro r hr u hu; rw [List.mem_singleton.1 hr] at hu; exact EL _ _ _ _ u hu) (by unfold maxLen; omega) (by omega) ((U.trans f).size) ?_; intro a7 c7 w7 aF Y aY; have G:=af.kept Y aN; have b2:=G.frozen 1; have b1:w7.cell? ⟨M,1,none⟩=some (.slice O i P):=G.cell (i:=1) (by simp [Aq]))
   have a4:=TmO.grow W aE (fun j hj=>(aD j hj).ext f) (⟨S,a9,N,c9,rfl,aq.out,aG.mono U.size⟩:G9 _ _ (tmL S a9 N c9) (txt (l.getD i tz).2,xs)) aF Y;rw [aa.out] at a4;have aA:Ext D w7:=(U.trans f).grown Y (fun k hk=>(hK.lt hk).1);have ak:=Af w7 M 1 (.slice a7 (i+1) c7);have aH:Arr (w7.setCell ⟨M,1,none⟩ (.slice a7 (i+1) c7)) M 28 (Aq vars a7 (i+1) c7):=G.set 1 _;have ap:=a4.keptU G (by decide) (by decide) ak;have aB:=aA.grownR ak a5.out;go_roundw
   case rel=>exact ⟨i+1,a7,c7,by go_num,by omega,aB,aH,qh ap⟩
   case measure=>simp [intOf]; omega
theorem KU (l:SlI w a n c xs) :
 Calls prog 152 #[.slice a n c] w fun e D=>e = .returned (.int .i64 (C7 xs))/\w=D:=by
 have g:=qh l.len;have x:=l.le;by_cases h6:6<(n:Int)
 · have d:Hid (C7 xs = -1):=by
    show C7 xs = -1;unfold C7;rw [if_pos (by rw [g.out]; omega)]
   go_enter func152,ntmps152
   go_wp2;go_ret;exact ⟨CU d.out,rfl⟩
 · have d:Hid (C7 xs=Cq 0 xs):=by
    show C7 xs=_;unfold C7;rw [if_neg (by rw [g.out]; omega)]
   go_enter func152,ntmps152
   go_wp2
   go_loop [3,4] (fun v i=>∃ (s:Int) (k:Nat),v = .int .i64 s/\i = .int .i64 k/\k<=n/\0<=s/\s<=24/\Hid (Cq 0 xs=Cq s (xs.drop k))) (fun _ i=>n-(intOf i).toNat)
   case atStart=>exact ⟨0,0,rfl,rfl,Nat.zero_le _,by omega,by omega,qh rfl⟩
   case round =>
    obtain ⟨s,k,rfl,rfl,G,z,A,j⟩:=hrel;by_cases b:k<n
    · obtain ⟨E,I,rfl,p⟩:=l.at b;have F:=p k b;have f:k<xs.length:=by rw [g.out]; exact b
      have o:=qh (Oc f j.out);have r:=qh (LH f j.out);generalize xs.getD k 0=y at *
      clear p;by_cases C:y<0
      · go_wp2;go_ret;exact ⟨CU (by rw [d.out,o.out (Or.inl C)]),rfl⟩
      · have H:IntKind.i64.wrap (24-s)=24-s:=IntWalk.i64_in _ (by omega);by_cases m:24-s<y
        · go_wp2;go_ret;exact ⟨CU (by rw [d.out,o.out (Or.inr m)]),rfl⟩
        · have B:IntKind.i64.wrap (s+y)=s+y:=IntWalk.i64_in _ (by omega);go_wp2;go_round
          case rel=>exact ⟨s+y,k+1,by go_num,by go_num,by omega,by omega,by omega,qh (r.out (by omega))⟩
          case measure=>simp [intOf]; omega
    · have t:xs.drop k=[]:=List.drop_of_length_le (by have:=g.out; omega);have q:Hid (C7 xs=s):=by
       show C7 xs=s;rw [d.out,j.out,t];rfl
      go_wp2;go_ret;exact ⟨CU q.out,rfl⟩
theorem GZ (b:SlI w a n c xs) :
 Calls prog 72 #[.slice a n c] w fun e g=>e = .returned (.bool (AU xs))/\w=g:=by
 have f:=qh b.len;by_cases h6:(n:Int)<=6
 · go_enter func72,ntmps72
   go_wp2_with fail
   refine (KU b).mono ?_;rintro e i ⟨rfl,rfl⟩;go_wp2;go_ret;exact ⟨rfl,rfl⟩
 · have d:Hid (AU xs=false):=by
    show AU xs=false;unfold AU C7;rw [if_pos (by rw [f.out]; omega)];rfl
   go_enter func72,ntmps72
   go_wp2;go_ret;exact ⟨Uw d.out,rfl⟩
def Ue (w:World) (l:List Pl.Tm) (e:Ending) (w':World):Prop:=∃ b,e = .returned (.bool b)/\(b=true<->okU l)/\Ext w w'
theorem Nn {l:List Pl.Tm} (h:TSl w b0 a n c l) :
 Calls prog 120 #[.agg (pL vars a n c).toArray] w (Ue w l):=by
 have D:=h.len;by_cases h1:n<=4096
 · have m:(n:Int)<=4096:=by omega
   rcases Nat.eq_zero_or_pos n with h0|h0
   · subst h0;have f:okU l:=⟨by omega,fun t r e=>by rw [e] at D; simp at D⟩;clear h1 m
     go_enter func120,ntmps120
     go_upto_region 1 with (fail)
     refine AE ?_;intro C d b k;have E:=b.c 1 rfl;go_wp2;go_ret;exact ⟨true,rfl,by simp [f],d⟩
   · have J:((n:Int) == 0)=false:=by simp; omega
     have y:0<l.length:=by omega
     have f:okU l<->AU (l.getD 0 tz).1=true:=by
      cases l with
      | nil=>simp at y
      | cons t r=>exact ⟨fun h=>h.2 t r rfl,fun h=>⟨by omega,fun R Q e=>by injection e with F M; subst F; exact h⟩⟩
     clear h1
     go_enter func120,ntmps120
     go_upto_region 1 with (fail)
     refine AE ?_;intro C d b k;have E:=b.c 1 rfl;obtain ⟨s,A,B,s1,T,P,L,U,O,h1,v,N,G,rfl,o,g,q,z,x,i⟩:=(h.ext d).row h0;have H:C.cell? ⟨s,A+4,none⟩=some (.slice v N G):=by have:=o.cl h0 (j:=4) (by omega); rw [g,Nat.zero_mul,Nat.add_zero] at this; exact this
     have I:(0:Int)<n:=by omega
     obtain ⟨e0,p⟩:∃ e0,(l.getD 0 tz).1=e0:=⟨_,rfl⟩;rw [p] at i f;have K:=qh (GZ i.1);clear p;clear o g q z x i k b
     go_wp2_with fail
     refine K.out.mono ?_;rintro e S ⟨rfl,rfl⟩;go_wp2;go_ret;exact ⟨_,rfl,f.symm,d⟩
 · have m:¬ (n:Int)<=4096:=by omega
   have f:¬ okU l:=fun h=>by have:=h.1; omega
   clear h1
   go_enter func120,ntmps120
   go_upto_region 1 with (fail)
   refine AE ?_;intro C d b k;have E:=b.c 1 rfl;go_wp2;go_ret;exact ⟨false,rfl,by simp [f],d⟩
def Uf (w:World) (vars:Int) (l:List Pl.Tm) (e:Ending) (w':World):Prop:=(okU l/\Cr w vars (wrU l) 0 e w')\/(¬ okU l/\Cr w 0 [] 2 e w')
theorem KV {l:List Pl.Tm} (h:TSl w b0 a n c l) (J:∀ t∈l,Pl.RB 1000000 t.2) (z:∀ t∈l,t.1.length<=12) (I:n<=100000) :
 Calls prog 73 #[.agg (pL vars a n c).toArray] w (Uf w vars l):=by
 have y:=qh (fun (G:World) (B:Ext w G)=>Nn (vars:=vars) (h.ext B));have E:=qh (fun (G:World) (B:Ext w G)=>EC (vars:=vars) (h.ext B) J z I);clear h J z I
 go_enter func73,ntmps73
 go_upto_region 1 with (fail)
 refine Dm ?_;intro N r i q F;have H:Arr N (w.heap.size+1) 28 (Aq 0 none 0 0):=q;have K:=i.c 0 rfl;have L:=i.c 1 rfl;clear i q F
 go_wp2_with fail
 refine (y.out _ r).mono ?_;rintro e R ⟨b,rfl,A,f⟩;have v:=H.ext f;have P:=f.cell K;have Q:=f.cell L;have d:=r.trans f;clear y K L H;cases b with
 | false =>
  have k:¬ okU l:=fun h=>by have:=A.2 h; cases this
  clear A
  go_wp2_with (refine Aa (vs:=Aq 0 none 0 0) rfl rfl rfl rfl rfl Ae v rfl (Ar _ _ _ _) ?_; intro O j g)
  exact bodyPost_ret (At rfl Ae rfl rfl j) rfl (.inr ⟨k,none,0,0,rfl,d.grownR g (by omega),TmO.nil _ _⟩)
 | true =>
  have k:okU l:=A.1 rfl;clear A
  go_wp2_with fail
  refine (E.out _ d).mono ?_;rintro e S ⟨m,p,o,rfl,s,C⟩;have x:=v.ext s;have D:BW vars m p o = .agg #[.int .i64 vars, .slice m p o]:=rfl;rw [D];have M:(Aq vars m p o).toArray=#[.int .i64 vars, .slice m p o]:=rfl
  go_wp2_with (refine Aa (vs:=Aq vars m p o) rfl rfl rfl rfl rfl Ae x rfl (Ar _ _ _ _) ?_; intro O j g)
  exact bodyPost_ret (At rfl Ae rfl rfl j) rfl (.inl ⟨k,m,p,o,rfl,(d.trans s).grownR g (by omega),(C.mono d.size).keptU x (by decide) (by decide) g⟩)
theorem PD {ls:List (List Pl.Tm)} (a:k<ls.length):(ls.take (k+1)).flatten=(ls.take k).flatten ++ ls.getD k []:=by
 rw [List.take_add_one,List.flatten_append];simp [a]
theorem No {ls:List (List Pl.Tm)} (a:k<ls.length):(ls.take k).flatten ++ (ls.getD k [] ++ (ls.drop (k+1)).flatten)=ls.flatten:=by
 have h1:ls.take k ++ (ls.getD k [] :: ls.drop (k+1))=ls:=by
  have:ls.getD k [] :: ls.drop (k+1)=ls.drop k:=by
   rw [List.drop_eq_getElem_cons a,gqq,List.getElem?_eq_getElem a]; rfl
  rw [this,List.take_append_drop]
 conv=>rhs; rw [<-h1]
 simp
def Ug (w0:World) (r:Nat) (p:List Pl.Tm) (wr:World):Prop:=∃ l,Ext w0 wr/\Du wr r l/\Hid (∀ e,Pl.coef l e=Pl.coef p e)/\l.length<=p.length
def UD (w0:World) (r it g c:Nat) (l:List Pl.Tm) (v:Value) (wr:World):Prop :=
 ∃ seen n rows,v = .slice (some ⟨g,0,none⟩) n c/\Ext w0 wr/\Du wr r l/\AG wr it r l.length seen/\seen.Nodup/\(∀ i∈seen,i<l.length)/\Dt wr w0.heap.size 92 10 g n c rows /\
  (Pl.picked l seen).length=n/\Hid (∀ i,i<n->Bv wr (rows.getD i []) ((Pl.picked l seen).getD i ([],0)))
theorem KW {ls:List (List Pl.Tm)} (hT:AR w) (h:JO w a n c ls) (hn:n<=1000) (hN:ls.flatten.length<=1000000) (hB:∀ p s,p ++ s=ls.flatten->∀ e,Pl.RB 2400 (Pl.coef p e)) (bI:∀ t∈ls.flatten,Pl.RB 2400 t.2) :
 Calls prog 70 #[.slice a n c] w (fun e w'=>∃ be,Oe w be e w'/\Pl.Nrm be/\∀ e,Pl.coef be e=Pl.coef ls.flatten e):=by
 obtain ⟨cs,hS,hl,hq⟩:=h;have HQ:=qh hq;have HB:=qh hB;have cz:=qh bI;have HL:=qh hl;have HN:=qh hN;clear hq hB bI hl hN
 go_enter func70,ntmps70
 go_upto_region 2 with (refine Lq rfl rfl ?_; intro w1 bQ bK cw)
 go_wp2
 go_loopw [14] (fun iv wr=>∃ k:Nat,iv = .int .i64 k/\k<=n/\Ug w w.heap.size (ls.take k).flatten wr) (fun iv _=>n-(intOf iv).toNat)
 case atStart=>exact ⟨0,rfl,Nat.zero_le _,[],bK,Du.new bQ,qh (fun e=>rfl),Nat.zero_le _⟩
 case round =>
  clear bQ bK cw;obtain ⟨k,rfl,hk,a6⟩:=hrel;by_cases ap:k<n
  · obtain ⟨l0,aQ,bl,aG,aY⟩:=a6;obtain ⟨b1,o1,rfl,cf⟩:=(hS.ext aQ).rd (by omega);obtain ⟨a2,n2,c2,e2,bM⟩:=HQ.out k ap;have g1:=cf k ap;rw [e2] at g1;have bt:=qh (No (ls:=ls) (k:=k) (by rw [HL.out]; exact ap));have bG:=qh (PD (ls:=ls) (k:=k) (by rw [HL.out]; exact ap));have cC:=qh e2;clear cf e2;obtain ⟨L,aK⟩:∃ L,Hid (ls.getD k []=L):=⟨_,qh rfl⟩;obtain ⟨pre,aN⟩:∃ p,Hid ((ls.take k).flatten=p):=⟨_,qh rfl⟩;rw [aN.out] at aG aY;have bs:Hid (pre ++ (L ++ (ls.drop (k+1)).flatten)=ls.flatten):=qh (by rw [<-aN.out,<-aK.out]; exact bt.out)
    have cI:Hid ((ls.take (k+1)).flatten=pre ++ L):=qh (by rw [<-aN.out,<-aK.out]; exact bG.out);rw [aK.out] at bM;obtain ⟨O,hR,bX,bY⟩:=bM;have cG:=qh bY;have aO:=qh bX;have d9:=hR.le;clear bY bX bt bG cC;obtain ⟨wo,rfl⟩:∃ x:World,x=wr:=⟨_,rfl⟩;go_wp2
    go_loopw [20] (fun iv wr=>∃ j:Nat,iv = .int .i64 j/\j<=n2/\Ug w w.heap.size (pre ++ L.take j) wr) (fun iv _=>n2-(intOf iv).toNat)
    case atStart=>exact ⟨0,rfl,Nat.zero_le _,l0,aQ,bl,by simpa using aG,by simpa using aY⟩
    case round =>
     clear bl aG aY aQ g1;obtain ⟨j,rfl,hj,a6⟩:=hrel;by_cases ao:j<n2
     · obtain ⟨l,hE,a0,HC,cl⟩:=a6;have aW:=hR.ext hE;obtain ⟨b,db,rfl,_⟩:=aW.rd (by omega);obtain ⟨Z,Q,W,S,R,V,T,aD,h6,b3⟩:=cG.out j ao
       have bA:Hid (L.take (j+1)=L.take j ++ [L.getD j ([],0)]):=qh (by
        rw [List.take_add_one,gqq,List.getElem?_eq_getElem (by rw [aO.out]; exact ao)]; rfl)
       have cJ:Hid (L.getD j ([],0)∈ls.flatten):=qh (by
        rw [<-bs.out];refine List.mem_append_right _ (List.mem_append_left _ ?_);rw [gqq,List.getElem?_eq_getElem (by rw [aO.out]; exact ao)]
        exact List.getElem_mem _)
       have bE:Hid (∀ e,Pl.RB 2400 (Pl.coef (pre ++ L.take j) e)):=qh (HB.out _ (L.drop j ++ (ls.drop (k+1)).flatten) (by rw [<-bs.out,List.append_assoc,<-List.append_assoc (L.take j),List.take_append_drop]));generalize L.getD j ([],0)=t at *
       obtain ⟨te,tq⟩:=t;obtain ⟨D,E,F,G,H,I,al⟩:=BH h6;simp only at al aD b3;subst al;have hY:=Arr.new wr 92 (As [0,0,0,0,0,0] false none 0 0 none 0 0)
       go_upto_region 8 with (first
        | (refine Br rfl rfl Au rfl aW ao ?_; rw [aD])
        | (refine Aa (vs:=As [D,E,F,G,H,I] Z Q W S R V T) rfl rfl rfl rfl rfl Au hY rfl AJ ?_; intro w3 U cg))
       have a4:Ext wr w3:=((Ext.refl wr).alloc _).grownR cg (lrf _);have ai:=a0.ext a4;have a5:=hE.trans a4;have bp:=b3.ext a5;have d5:w.heap.size≠wr.heap.size:=by have:=a0.lt; omega
       clear hY cg a0 hE a4 aD h6 aW b3;generalize wr.heap.size=X at *
       have c0:=U.c 0 rfl;have c1:=U.c 1 rfl;have c2:=U.c 2 rfl;have c3:=U.c 3 rfl;have c4:=U.c 4 rfl;have c5:=U.c 5 rfl;have c6:=U.c 6 rfl;have c7:=U.c 7 rfl;have c8:=U.c 8 rfl;have c9:=U.c 9 rfl;obtain ⟨m,a1,C⟩:=ai;have af:=a1.nodup;have ag:=qh C;obtain ⟨LV,bC⟩:∃ v,Hid (Eo Ql m [D,E,F,G,H,I]=v):=⟨_,qh rfl⟩;have bB:Hid ((l.map (·.1)).Nodup):=qh (by rw [<-C.keys]; exact af);have cD:Hid (Ct w3 LV (Pl.getK 0 l [D,E,F,G,H,I])):=qh (by rw [<-bC.out,JN]; exact C.get (Qm w3) _)
       have aI:Hid (Pl.RB 2400 (Pl.getK 0 l [D,E,F,G,H,I])):=qh (by rw [Pl.getK_coef l _ bB.out,HC.out]; exact bE.out _);have aP:Hid (Pl.RB 2400 tq):=qh (cz.out _ cJ.out);have cv:=fun (wx:World) (hq:Ext w3 wx)=>qh (RK ((hT.ext a5).ext hq) (cD.out.ext hq) (v' := .agg #[.bool Z, .slice Q W S, .bool false, .slice R V T]) (q:=tq) ⟨Ao Z Q W S false R V T,rfl,bp.ext hq⟩ aI.out.1 aI.out.2 aP.out.1 aP.out.2)
       have cH:Hid (∀ e,Pl.coef (Pl.putK l [D,E,F,G,H,I] (Pl.getK 0 l [D,E,F,G,H,I]+tq)) e=Pl.coef (pre ++ L.take (j+1)) e):=qh (fun e=>by
        rw [Pl.coef_step bB.out,HC.out,bA.out,<-List.append_assoc,Pl.coef_app _ [_]])
       have cF:=qh (Pl.putK_length [D,E,F,G,H,I] (Pl.getK 0 l [D,E,F,G,H,I]+tq) l);have cB:Hid ((pre ++ L.take (j+1)).length=(pre ++ L.take j).length+1):=qh (by rw [bA.out]; simp; omega);clear C af bE aI aP bp;generalize Pl.getK 0 l [D,E,F,G,H,I]=gq at *
       have aj:=fun (wx:World) (J:Ext w3 wx)=>qh (And.intro (J.cell c0) (And.intro (J.cell c1) (And.intro (J.cell c2) (And.intro (J.cell c3) (And.intro (J.cell c4) (And.intro (J.cell c5) (And.intro (J.cell c6) (And.intro (J.cell c7) (And.intro (J.cell c8) (J.cell c9))))))))))
       refine Ab (by kernel_rfl) (fun wx=>Ext w3 wx)
        [he (.map (some w.heap.size)),
 he (.pointer (some ⟨X,0,none⟩)),
 he (.agg #[.int .i64 D, .int .i64 E, .int .i64 F, .int .i64 G, .int .i64 H, .int .i64 I]),
 he (.map (some w.heap.size)),
 he (.pointer (some ⟨X,0,none⟩)),
 he (.agg #[.int .i64 D, .int .i64 E, .int .i64 F, .int .i64 G, .int .i64 H, .int .i64 I]),
 he LV,
 he (.pointer (some ⟨X,6,none⟩)),
 he (.agg #[.bool Z, .slice Q W S, .bool false, .slice R V T]),
 hp (fun v wx=>NR (gq+tq) v wx)]
        (by kernel_rfl) (fun _ _ e h=>h.trans e) ((Ext.refl w3).drew) ⟨trivial,trivial,trivial,trivial,trivial,trivial,trivial,trivial,trivial,NR.x _,trivial⟩ ⟨?o0, ?o1, ?o2, ?o3, ?o4, ?o5, ?o6, ?o7, ?o8, ?o9,trivial⟩ ?fin
       case o0 | o3=>exact omv
       case o1 | o4=>exact ofa (d:=0)
       case o7=>exact ofa (d:=6)
       case o8=>exact ol4
       case o2 =>
        refine An rfl fun ρ wx J aC h => ?_;have e0:ρ (.tmp 25)=(.pointer (some ⟨X,0,none⟩)):=h.1;obtain ⟨b4,b5,b6,b7,b8,b9,ba,bb,bc,bd⟩:=(aj wx J).out;go_simp
       case o5 =>
        refine An rfl fun ρ wx J aC h => ?_;have e0:ρ (.tmp 28)=(.pointer (some ⟨X,0,none⟩)):=h.1;obtain ⟨b4,b5,b6,b7,b8,b9,ba,bb,bc,bd⟩:=(aj wx J).out;go_simp
       case o6 =>
        refine An rfl fun ρ wx J aC h => ?_;have e0:ρ (.tmp 27)=(.map (some w.heap.size)):=h.1;have e1:ρ (.tmp 29)=(.agg #[.int .i64 D, .int .i64 E, .int .i64 F, .int .i64 G, .int .i64 H, .int .i64 I]):=h.2.1;obtain ⟨b4,b5,b6,b7,b8,b9,ba,bb,bc,bd⟩:=(aj wx J).out;rw [<-bC.out];exact Pg rfl FC AS MY e0 e1 (a1.ext J) rfl
       case o9 =>
        refine Am rfl fun ρ wx J aC d6 h => ?_;have e1:ρ (.tmp 30)=LV:=h.2.1;have e2:ρ (.tmp 32)=(.agg #[.bool Z, .slice Q W S, .bool false, .slice R V T]):=h.2.2.1;obtain ⟨b4,b5,b6,b7,b8,b9,ba,bb,bc,bd⟩:=(aj wx J).out;refine ⟨146,#[LV, .agg #[.bool Z, .slice Q W S, .bool false, .slice R V T]],by go_simp,((cv wx J).out).mono ?_⟩;rintro e w' ⟨cs,rfl,cK,cV⟩;exact ⟨_,rfl,cK,cs,rfl,cV⟩
       case fin =>
        intro wx J;rintro _ ⟨bH,rfl,cW⟩;change wpList _ _ _ _ _ _;simp only [la,lb,ld,lz,Act.put,lq,ly,lx];have bT:=a1.ext J;have d4:=a5.size
        go_wp2_with (refine P6 rfl (Or.inl rfl) FC AS (k:=[D,E,F,G,H,I]) (v := .agg bH.toArray) rfl rfl rfl bT rfl ?_; intro w5 bR a9)
        go_roundw
        case rel =>
         refine ⟨j+1,by go_num,by omega,_,(a5.trans J).grownR a9 (lrf _),⟨_,by rw [Qk] at bR; exact bR, ?_⟩,cH,by have h1:=cF.out; have h2:=cB.out; omega⟩;have hU:=bT.noU;exact ((ag.out.mono fun _ _ h=>h.ext J).put _ ⟨bH,rfl,cW⟩).mono fun _ _ h=>h.keptU hU a9
        case measure=>simp [intOf]; omega
     · have cQ:j=n2:=by omega
       subst cQ;rw [List.take_of_length_le (by rw [aO.out]; exact lrf _),<-cI.out] at a6;go_wp2;go_roundw
       case rel=>exact ⟨k+1,by go_num,by omega,a6⟩
       case measure=>simp [intOf]; omega
  · have cR:k=n:=by omega
    subst cR;rw [List.take_of_length_le (by rw [HL.out]; exact lrf _)] at a6;obtain ⟨l,hE,a0,HC,cl⟩:=a6;have h6:=a0.six;have af:=a0.nodup;have HP:=qh (And.intro h6 af);clear h6 af;obtain ⟨m,a1,C⟩:=a0;have cn:=C.len;have aZ:m.length<=1000000:=by have:=HN.out; omega
    have aL:=qh cn;have cT:=JP (P:=prog) (ty:=3) FC a1;have ag:=qh C;clear cn C cl
    go_upto_region 12 with (refine Kw rfl rfl (by kernel_rfl) BO Ba rfl rfl (by omega) (by unfold maxLen; omega) ?_; intro w2 aU aR)
    have z:=a1.ext aR
    go_upto_region 13 with (refine Lr rfl rfl FC rfl z ?_; intro w3 bO a4 cy)
    have ah:=aR.trans a4;have a5:=hE.trans ah;have ai:Du w3 w.heap.size l:=⟨m,a1.ext ah,ag.out.mono fun _ _ h=>h.ext ah⟩;have bk:AG w3 w2.heap.size w.heap.size l.length []:=by rw [<-aL.out]; exact bO
    have d7:w.heap.size<wr.heap.size:=a1.lt;have aV:=aU.ext a4;have d8:wr.heap.size<w2.heap.size:=aU.lt.2;have aA:Dt w3 w.heap.size 92 10 wr.heap.size 0 m.length []:=⟨aV.1.mono (by omega),aV.2⟩;clear bO z aR a4 aU ah cT hE cy a1 aV;generalize wr.heap.size=g at *
    generalize w2.heap.size=it at *
    obtain ⟨M,hM⟩:∃ M,m.length=M:=⟨_,rfl⟩;have bS:l.length=M:=by rw [<-hM]; exact aL.out.symm
    have cE:=qh bS;rw [hM] at aA aZ |-;have cL:=aZ;clear aZ;clear hM bS ag aL
    go_frame
    go_loopw [8] (fun v wr=>UD w w.heap.size it g M l v wr) (fun _ wr=>l.length-JQ wr it)
    case atStart=>exact ⟨[],0,[],rfl,a5,ai,bk,by simp,by simp,aA,rfl,qh (fun i hi=>absurd hi (by omega))⟩
    case round =>
     clear a5 ai bk aA;obtain ⟨f,N,O,rfl,hE,a0,hI,ar,aq,hO,co,aH⟩:=hrel;have d1:N<=f.length/\f.length<=l.length:=by
      have h1:=Pl.picked_len l f;have h2:=Pl.seen_len ar aq;omega
     have a8:=qh co;clear co;obtain ⟨m2,z,av⟩:=a0;have ab:=av.len;rw [<-ab] at hI;have b2:=Ph z hI;by_cases aB:∀ i,i<m2.length->i∈f
     · have bf:=Pl.picked_perm ar aq (fun i hi=>aB i (by rw [ab]; exact hi));have bD:=qh bf;clear bf ab
       go_wp2_with (refine Hj rfl rfl rfl z hI (fun _ => ?_) (fun i _ _ _ h1 h2 _ _ _=>absurd (aB i h1) h2))
       go_ret;refine ⟨Pl.picked l f,⟨_,N,M,rfl,hE,O,hO.1,fun g' cN => ?_,a8.out,aH.out⟩,(Pl.Nrm.filter HP.out.1 HP.out.2).perm bD.out.symm,fun e => ?_⟩
       · have:g=g':=by simpa [blk] using cN
         subst this;exact hO.2
       · rw [Pl.coef_perm bD.out,Pl.coef_nz,HC.out]
     · have ca:JQ wr it=f.length:=Dv hI;have cY:=hE.size;have bW:=DV hO.1 hI;have d3:=GQ hO.1 z;have au:=qh av;have bi:=qh ab;have cZ:=hI.lt;have am:=hI.noU;clear av ab
       go_upto_region 14 with (refine Hj rfl rfl rfl z hI (fun h=>absurd h aB) ?_; intro i k v w4 cO ci b0 aT a7)
       obtain ⟨q,cm,bZ⟩:=au.out.nth b0;have aJ:Hid (l.getD i ([],0)=(k,q)):=qh (by rw [gqq,cm]; rfl);have ck:k.length=6:=z.six _ (List.mem_of_getElem? b0);have bm:Du w4 w.heap.size l:=Du.keptU ⟨m2,z,au.out⟩ am a7 b2;have bo:=z.kept a7 (by simpa using b2);have bU:=hO.kept a7 (by simpa using bW);have bg:Hid (∀ i,i<N->Bv w4 (O.getD i []) ((Pl.picked l f).getD i ([],0))):=qh (fun i hi=>(aH.out i hi).keptU am a7);have cu:=bZ.keptU am a7;have aS:Ext w w4:=hE.grownR a7 (by omega)
       have A:Hid ((f ++ [i]).Nodup/\(∀ j∈f ++ [i],j<l.length)/\f.length<l.length):=qh (by
        have ch:i<l.length:=by rw [<-bi.out]; exact cO
        refine ⟨List.nodup_append.2 ⟨ar,by simp,fun x hx y hy=>by simp only [List.mem_singleton] at hy; subst hy; rintro rfl; exact ci hx⟩,fun j hj => ?_, ?_⟩
        · rcases List.mem_append.1 hj with hj|hj
          · exact aq j hj
          · simp only [List.mem_singleton] at hj; subst hj; exact ch
        · have:=Pl.seen_len (n:=l.length) (List.nodup_cons.2 ⟨ci,ar⟩) (fun x hx=>by
           rcases List.mem_cons.1 hx with rfl|hx
           · exact ch
           · exact aq x hx)
          simp at this
          omega)
       obtain ⟨D,E,F,G,H,I,al⟩:=BH ck;subst al;obtain ⟨_,rfl,Z,Q,W,S,R,V,T,rfl,bF,cp,cq⟩:=cu;have bu:Hid (AG w4 it w.heap.size l.length (f ++ [i])):=qh (by rw [<-bi.out]; exact aT);have da:=aS.size;clear bZ aH hE z hO hI a7 am ck cm cY bW b2 au;have cb:=Gd w4 (ze.map (Value.int .i64)) (Ao false none 0 0 false none 0 0) 90 85;have cc:=Ge w4 (ze.map (Value.int .i64)) (Ao false none 0 0 false none 0 0) 90 85;have bN:=TN w4 (.cells (ze.map (Value.int .i64)).toArray 90) (.cells (Ao false none 0 0 false none 0 0).toArray 85)
       go_upto_region 15 with (first
        | (refine Ls rfl rfl rfl bo aT b0 ?_)
        | (refine Aa (vs:=[D,E,F,G,H,I].map (Value.int .i64)) rfl rfl rfl rfl rfl Eu cb rfl (CN _) ?_; intro w5 bJ a9; have cd:=cc.kept a9 (by simp); clear cb)
        | (refine Aa (vs:=Ao Z Q W S false R V T) rfl rfl rfl rfl rfl Ai cd rfl (Ap _ _ _ _ _ _ _ _) ?_; intro w6 ad aX))
       have B:Ext w4 w6:=(bN.grownR a9 (lrf _)).grownR aX (by omega);have K:=bJ.kept aX (by simp);have bL:=aS.trans B;have bn:=bm.ext B;have bv:Hid (AG w6 it w.heap.size l.length (f ++ [i])):=qh (bu.out.ext B);have bV:=bU.ext B;have bh:Hid (∀ i,i<N->Bv w6 (O.getD i []) ((Pl.picked l f).getD i ([],0))):=qh (fun i hi=>(bg.out i hi).ext B);have aE:=cp.ext B;have aF:=cq.ext B;clear bJ a9 aX bN cc cd B bm bu bU bg cp cq aS bo aT;generalize w4.heap.size=Y at *
       have y0:w6.cell? ⟨Y,0,none⟩=some (.int .i64 D):=K.cell (i:=0) (by simp);have y1:w6.cell? ⟨Y,1,none⟩=some (.int .i64 E):=K.cell (i:=1) (by simp);have y2:w6.cell? ⟨Y,2,none⟩=some (.int .i64 F):=K.cell (i:=2) (by simp);have y3:w6.cell? ⟨Y,3,none⟩=some (.int .i64 G):=K.cell (i:=3) (by simp);have y4:w6.cell? ⟨Y,4,none⟩=some (.int .i64 H):=K.cell (i:=4) (by simp);have y5:w6.cell? ⟨Y,5,none⟩=some (.int .i64 I):=K.cell (i:=5) (by simp);have z0:=ad.c 0 rfl;have z1:=ad.c 1 rfl;have z2:=ad.c 2 rfl;have z3:=ad.c 3 rfl
       have cj:=qh (Ff (w:=w6) (v := .agg #[.bool Z, .slice Q W S, .bool false, .slice R V T]) (q:=q) ⟨Ao Z Q W S false R V T,rfl,Z,Q,W,S,R,V,T,rfl,bF,aE,aF⟩ rfl);clear K ad
       go_wp2_with fail
       refine cj.out.mono ?_;rintro e w7 ⟨rfl,o⟩;have ay:=bL.trans o;have az:=bn.ext o;have ak:Hid (AG w7 it w.heap.size l.length (f ++ [i])):=qh (bv.out.ext o);have an:=bV.ext o;have aw:Hid (∀ i,i<N->Bv w7 (O.getD i []) ((Pl.picked l f).getD i ([],0))):=qh (fun i hi=>(bh.out i hi).ext o);have bq:=aE.ext o;have br:=aF.ext o;have y0:=o.cell y0;have y1:=o.cell y1;have y2:=o.cell y2;have y3:=o.cell y3;have y4:=o.cell y4;have y5:=o.cell y5;have z0:=o.cell z0;have z1:=o.cell z1;have z2:=o.cell z2;have z3:=o.cell z3
       clear cj bL bn bv bV bh aE aF o;by_cases aa:q=0
       · rw [decide_eq_true aa];have ac:Hid (Pl.picked l (f ++ [i])=Pl.picked l f):=qh (by rw [Pl.picked_snoc,if_pos (by rw [aJ.out]; exact aa)]);clear aa;go_wp2;go_roundw
         case rel=>exact ⟨f ++ [i],N,O,rfl,ay,az,ak.out,A.out.1,A.out.2.1,an,by rw [ac.out]; exact a8.out,by rw [ac.out]; exact aw⟩
         case measure =>
          have e1:=Dv ak.out;have e2:=A.out.2.2;rw [ca,e1];simp;omega
       · rw [decide_eq_false aa];have ac:Hid (Pl.picked l (f ++ [i])=Pl.picked l f ++ [([D,E,F,G,H,I],q)]):=qh (by rw [Pl.picked_snoc,if_neg (by rw [aJ.out]; exact aa),aJ.out]);have d2:N<M:=by have h1:=A.out.2.2; have h2:=cE.out; omega
         have d0:M<=1000000:=cL;clear aa;have a3:Ext w7 (w7.alloc (.cells (As [D,E,F,G,H,I] Z Q W S R V T).toArray 92)):=(Ext.refl w7).alloc _;have hA8:=an.ext a3;have bP:=B4 (k:=10) (Arr.new w7 92 (As [D,E,F,G,H,I] Z Q W S R V T)) rfl;have cS:(As [D,E,F,G,H,I] Z Q W S R V T).toArray=#[.int .i64 D, .int .i64 E, .int .i64 F, .int .i64 G, .int .i64 H, .int .i64 I, .bool Z, .slice Q W S, .bool false, .slice R V T]:=rfl
         have ce:w.heap.size<=(w7.alloc (.cells (As [D,E,F,G,H,I] Z Q W S R V T).toArray 92)).heap.size:=(ay.trans a3).size;have cA:=qh (ay.trans a3);have ct:Hid (∀ i,i<N->Bv (w7.alloc (.cells (As [D,E,F,G,H,I] Z Q W S R V T).toArray 92)) (O.getD i []) ((Pl.picked l f).getD i ([],0))):=qh fun i hi=>(aw.out i hi).ext a3
         have cr:Hid (Bv (w7.alloc (.cells (As [D,E,F,G,H,I] Z Q W S R V T).toArray 92)) (As [D,E,F,G,H,I] Z Q W S R V T) ([D,E,F,G,H,I],q)):=qh ⟨Z,Q,W,S,R,V,T,rfl,rfl,Z,Q,W,S,R,V,T,rfl,bF,bq.ext a3,br.ext a3⟩;have bj:=qh (az.ext a3);have bw:=qh (ak.out.ext a3);have aM:=qh hA8;rw [cS] at hA8 bP ce;have cX:=an.1.len (by omega);clear az an aw ak bq br
         go_wp2_with (refine Hl rfl rfl (by kernel_rfl) BO rfl hA8 rfl bP (by intro r hr u hu; rw [List.mem_singleton.1 hr] at hu; exact AJ u hu) (by intro r hr u hu; rw [List.mem_singleton.1 hr] at hu; exact Ba u hu) (by omega) (by omega) ce ?_; intro w9 cM ae)
         have bz:Hid (AG w9 it w.heap.size l.length (f ++ [i])):=qh (bw.out.kept ae (by have:=DV aM.out.1 bw.out; simpa using fun h=>this h.symm));go_roundw
         case rel =>
          have hU:=aM.out.2;have cU:w.heap.size≠g:=by
           obtain ⟨m8,h8,_⟩:=bj.out;exact fun h=>GQ aM.out.1 h8 h.symm
          refine ⟨f ++ [i],N+1,_,rfl,cA.out.grownR ae (by omega),bj.out.keptU hU ae cU,bz.out,A.out.1,A.out.2.1,cM,by rw [ac.out,List.length_append,a8.out]; rfl,qh fun j hj => ?_⟩;rw [ac.out];by_cases cP:j=N
          · subst cP;rw [gqq,List.getElem?_append_right (by omega),cX,Nat.sub_self,gqq,List.getElem?_append_right (by rw [a8.out]; exact lrf _),a8.out,Nat.sub_self];exact cr.out.keptU hU ae
          · rw [gqq,List.getElem?_append_left (by omega),<-gqq,gqq (l:=Pl.picked l f ++ _),List.getElem?_append_left (by rw [a8.out]; omega),<-gqq];exact (ct.out j (by omega)).keptU hU ae
         case measure =>
          have e1:=Dv bz.out;have e2:=A.out.2.2;rw [ca,e1];simp;omega
end Go.Proofs.YtlbmnokpiilfpaaGreatDoor
