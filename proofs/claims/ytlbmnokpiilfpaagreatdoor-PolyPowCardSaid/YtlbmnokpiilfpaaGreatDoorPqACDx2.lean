/- Part PqACDx2. -/
import Derived.Test.YtlbmnokpiilfpaaGreatDoorPqACDx1
import Derived.Test.YtlbmnokpiilfpaaGreatDoorPq31

set_option linter.all false
set_option maxRecDepth 100000
set_option maxHeartbeats 100000000
namespace Go.Proofs.YtlbmnokpiilfpaaGreatDoor
open Tryz Go Go.RowKit
variable {f:Act} {ops:Array Oper} {Q:Exit->Act->World->Prop} {vars:Int} {rest:List Oper} {zs:List Value} {N b0 bytes c i n:Nat} {o:Oper} {x y:Operand} {a:Option Addr} {P:Program} {e t:TypeId} {r0 r1:Value} {w w':World}
theorem Qu(j:P.underlying t=some (.slice e))(a:BV P e zs 2 bytes) :
 (Instr.buildSlice t 1 #[(0,.agg #[r0,r1])]).run P w = .ok (.slice (some ⟨w.heap.size,0,none⟩) 1 1) (w.alloc (.cells #[r0,r1] e)):=by
 obtain⟨i,f,c,b,d⟩:=a.parts;have g:=a.2.1
 match zs,g,c with
 | [z0,z1],_,c =>
 simp[Instr.buildSlice,j4 j,sizeOf,typeInfo,f,b,Instr.fill,zeroValue,c,newRow,Value.cells,show Array.range 2=#[0,1] by decide]
def Yz(w0:World)(vars:Int)(ts:List Tx)(e:Ending)(w':World):Prop:=∃ a n c,e = .returned (BS vars a n c)/\Ext w0 w'/\TmO w' w0.heap.size a n c ts
theorem UM{l:List Pl.Tm}(hi:i<l.length):wrU (l.take i) ++ [(txt (l.getD i tz).2,(l.getD i tz).1)]=wrU (l.take (i+1)):=by
 unfold wrU;rw[gM hi,iJ,gqq,gD hi];rfl
theorem IZ{l:List Pl.Tm}(h:TSl w b0 a n c l)(hq:∀ t∈l,Pl.RB 1000000 t.2)(aM:∀ t∈l,t.1.length<=12)(hn:n<=100000) :
 Calls prog 76 #[.agg (pL vars a n c).toArray] w (Yz w vars (wrU l)):=by
 have hl:=h.len
 go_enter func76,ntmps76
 go_upto_region 1 with(fail)
 refine Cf ?_;intro D V T ac a3;have aI:Arr D (w.heap.size+1) 28 (Ah 0 none 0 0):=ac;have p0:=T.c 0 rfl;have p1:=T.c 1 rfl;have F:=Arr.new D 28 (Ah vars none 0 0);have ad:=(Ext.refl D).alloc (.cells (Ah vars none 0 0).toArray 28);clear T ac
 go_upto_region 2 with(fail)
 change Code.wp _ _ _ _ (D.alloc (.cells (Ah vars none 0 0).toArray 28));generalize D.alloc (.cells (Ah vars none 0 0).toArray 28)=w2 at *
 have a8:Hid (TmO w2 D.heap.size none 0 0 []):=qh (TmO.nil _ _);have a5:Hid (D.heap.size<=w.heap.size+2):=qh (lH a3);rw[a3]at F;obtain⟨M,X⟩:∃ M,w.heap.size+2=M:=⟨_,rfl⟩;rw[X]at F a5;simp only[X];have h0:=h.ext V;clear X h a3;go_wp2
 go_loopw[4] (fun iv wr=>∃ (i:Nat) (O:Option Addr) (P:Nat),iv = .int .i64 i/\i<=n/\Ext D wr/\Arr wr M 28 (Ah vars O i P)/\Hid (TmO wr D.heap.size O i P (wrU (l.take i)))) (fun iv _=>n-(intOf iv).toNat)
 case atStart=>exact⟨0,none,0,rfl,gO _,ad,F,by rw[jw];exact a8⟩
 case round =>
  clear a8 F ad;obtain⟨i,O,P,rfl,aK,U,B,HO⟩:=hrel;have aO:=U.cell p1;by_cases hi:i<n
  case neg =>
   have aJ:¬ (i:Int)<n:=by omega
   have aL:i=n:=by omega
   have HX:Hid (TmO wr D.heap.size O i P (wrU l)):=by have h1:=HO.out;rw[gG (by omega)]at h1;exact qh h1
   have z0:=B.c 0 rfl;have z1:=B.c 1 rfl;have ag:=aI.ext U;clear aL HO B aK
   go_wp2_with(refine Aa (vs:=Ah vars O i P) rfl rfl rfl rfl rfl Ad ag rfl (Am _ _ _ _) ?_;intro w9 ay aj)
   exact gF (Ap rfl Ad rfl ay) rfl ⟨O,i,P,rfl,(V.trans U).grownR aj (by omega),(HX.out.keptU ag (by decide) (by decide) aj).mono V.size⟩
  have aJ:(i:Int)<n:=by omega
  have Q:i<l.length:=by omega
  obtain⟨o,q,aP,s1,x1,m1,d1,y1,g1,h1,ab,N,f1,rfl,z,p,a6,al,ah,Z⟩:=(h0.ext U).row hi;have R:l.getD i tz∈l:=im (getD_some Q);have aQ:N<=12:=by have q1:=Z.1.len;have q2:=aM _ R;omega
  have ar:wr.cell? ⟨o,q+i*5,none⟩=some (.bool s1):=by have:=z.cl hi (j:=0) (by omega);rw[p]at this;exact this
  have au:wr.cell? ⟨o,q+i*5+1,none⟩=some (.slice x1 m1 d1):=by have:=z.cl hi (j:=1) (by omega);rw[p]at this;exact this
  have av:wr.cell? ⟨o,q+i*5+2,none⟩=some (.bool false):=by have:=z.cl hi (j:=2) (by omega);rw[p]at this;exact this
  have aw:wr.cell? ⟨o,q+i*5+3,none⟩=some (.slice y1 g1 h1):=by have:=z.cl hi (j:=3) (by omega);rw[p]at this;exact this
  have ax:wr.cell? ⟨o,q+i*5+4,none⟩=some (.slice ab N f1):=by have:=z.cl hi (j:=4) (by omega);rw[p]at this;exact this
  have pp:=B.c 1 rfl;have am:=qh (fun(b:World) (f:Ext wr b)=>KK (v := .agg #[.bool s1,.slice x1 m1 d1,.bool false,.slice y1 g1 h1]) ⟨s1,x1,m1,d1,y1,g1,h1,rfl,a6,al.ext f,ah.ext f⟩ (hq _ R));obtain⟨S,hS⟩:∃ S:ByteArray,(⟨(txt (l.getD i tz).2).toArray⟩:ByteArray)=S:=⟨_,rfl⟩;rw[hS]at am;have aq:Hid (An S=txt (l.getD i tz).2):=by rw[<-hS];exact qh rfl
  have aa:=qh (UM Q);have C:∀ b,Ext wr b->wr.heap.size<=b.heap.size:=fun b f=>f.size;have a2:=Z.1;obtain⟨xs,an⟩:∃ xs,(l.getD i tz).1=xs:=⟨_,rfl⟩;rw[an]at a2 aa;have aZ:=a2.len;clear hS z p al ah a6 Z an
  go_upto_region 5 with(fail)
  have A:=fun(b:World) (f:Ext wr b)=>qh (And.intro (f.cell pp) (And.intro (f.cell aO) (And.intro (f.cell ar) (And.intro (f.cell au) (And.intro (f.cell av) (And.intro (f.cell aw) (f.cell ax)))))))
  refine Ab (by kernel_rfl) (fun b=>Ext wr b)
   [he (.pointer (some ⟨M,1,none⟩)),
 he (.slice O i P),
 he (.pointer (some ⟨w.heap.size,1,none⟩)),
 he (.slice (some ⟨o,q,none⟩) n c),
 he (.int .i64 (i:Int)),
 he (.pointer (some ⟨o,(q+i*5),none⟩)),
 he (.pointer (some ⟨o,(q+i*5),none⟩)),
 he (.agg #[.bool s1,.slice x1 m1 d1,.bool false,.slice y1 g1 h1]),
 hp (fun v b=>v = .string S),
 hu 16 (fun v b=>∃ g,v = .slice (some ⟨g,0,none⟩) 0 0/\Own b wr.heap.size 3 (some ⟨g,0,none⟩) 0 0 []),
 he (.pointer (some ⟨w.heap.size,1,none⟩)),
 he (.slice (some ⟨o,q,none⟩) n c),
 he (.int .i64 (i:Int)),
 he (.pointer (some ⟨o,(q+i*5),none⟩)),
 he (.pointer (some ⟨o,((q+i*5)+4),none⟩)),
 he (.slice ab N f1),
 hmp (fun v b=>∃ s x,v = .slice s N x/\Own b wr.heap.size 3 s N x (xs.map (Value.int .i64))),
 hp (fun v b=>∃ s x,v = .agg #[.string S,.slice s N x]/\Own b wr.heap.size 3 s N x (xs.map (Value.int .i64))),
 hp (fun v b=>∃ g s x,v = .slice (some ⟨g,0,none⟩) 1 1/\Arr b g 26 (tmL S s N x)/\Own b wr.heap.size 3 s N x (xs.map (Value.int .i64)))]
   (by kernel_rfl) (fun _ _ e h=>h.trans e) ((Ext.refl wr).drew) ⟨trivial,trivial,trivial,trivial,trivial,trivial,trivial,trivial,fun v w w' e h=>h,fun v w w' e ⟨g,h1,h2⟩=>⟨g,h1,h2.ext e⟩,trivial,trivial,trivial,trivial,trivial,trivial,fun v w w' e ⟨s,x,h1,h2⟩=>⟨s,x,h1,h2.ext e⟩,fun v w w' e ⟨s,x,h1,h2⟩=>⟨s,x,h1,h2.ext e⟩,fun v w w' e ⟨g,s,x,h1,h2,h3⟩=>⟨g,s,x,h1,h2.ext e,h3.ext e⟩,trivial⟩ ⟨?o0,?o1,?o2,?o3,?o4,?o5,?o6,?o7,?o8,?o9,?o10,?o11,?o12,?o13,?o14,?o15,?o16,?o17,?o18,trivial⟩ ?fin
  case o0 | o2 | o10=>exact ofa (d:=1)
  case o1 | o3 | o11 | o15=>exact ol
  case o4 | o12=>exact omv
  case o6=>exact ofa (d:=0)
  case o7=>exact ol4
  case o14=>exact ofa (d:=4)
  case o5 =>
   refine Aj rfl fun E b f y h => ?_;have e0:E (.tmp 18)=(.slice (some ⟨o,q,none⟩) n c):=h.1;have e1:E (.tmp 19)=(.int .i64 (i:Int)):=h.2.1;obtain⟨kp,kq,H,I,J,K,L⟩:=(A b f).out;go_simp
   try (first | (intros;omega) | exact gI _ (by omega))
  case o8 =>
   refine Ag rfl fun E b f y ai h => ?_;have e1:E (.tmp 22)=(.agg #[.bool s1,.slice x1 m1 d1,.bool false,.slice y1 g1 h1]):=h.2.1;obtain⟨kp,kq,H,I,J,K,L⟩:=(A b f).out;refine⟨96,#[.agg #[.bool s1,.slice x1 m1 d1,.bool false,.slice y1 g1 h1]],by go_simp,(am.out b f).mono ?_⟩;rintro e w' ⟨rfl,az⟩;exact⟨_,rfl,az,rfl⟩
  case o9 =>
   exact UK rfl rfl underlying24 Dt C
  case o13 =>
   refine Aj rfl fun E b f y h => ?_;have e0:E (.tmp 26)=(.slice (some ⟨o,q,none⟩) n c):=h.1;have e1:E (.tmp 27)=(.int .i64 (i:Int)):=h.2.1;obtain⟨kp,kq,H,I,J,K,L⟩:=(A b f).out;go_simp
   try (first | (intros;omega) | exact gI _ (by omega))
  case o16 =>
   refine Wi rfl rfl underlying24 Dt rfl (n:=0) (m:=N) (xs:=[]) (news:=(xs.map (Value.int .i64))) (Cc _) (by omega) (by unfold maxLen;omega) (by omega) (jo _) C ?_;rintro E b hp f ⟨⟨v0,e0,g,rfl,ae⟩,h1,-⟩;refine⟨_,_,_,_,e0,ae,h1,a2.ext f,fun w' hg=>⟨f.grown hg ?_,L6 (j:=8) (by kernel_rfl) (fun _ h=>h)⟩⟩;intro k hk;exact(Own.lt ae hk).1
  case o17 =>
   refine AE rfl ?_;intro E b hp f h;have y:=hp.const;have ai:=hp.func;obtain⟨v0,e0,rfl⟩:=h.1;obtain⟨v1,e1,s,x,rfl,i1⟩:=h.2.1;obtain⟨kp,kq,H,I,J,K,L⟩:=(A b f).out;refine⟨.agg #[.string S,.slice s N x],b,?_,Ext.refl b,s,x,rfl,i1⟩;go_simp
  case o18 =>
   refine AE rfl ?_;intro E b hp f h;have y:=hp.const;have ai:=hp.func;obtain⟨v0,e0,a0,c0,rfl,i0⟩:=h.1;obtain⟨kp,kq,H,I,J,K,L⟩:=(A b f).out;refine⟨_,_,?_,(Ext.refl b).alloc (.cells (tmL S a0 N c0).toArray 26),b.heap.size,a0,c0,rfl,Arr.new b 26 (tmL S a0 N c0),i0.alloc _⟩;simp[execOp,e0,Qu underlying22 F5];rfl
  case fin =>
   intro b f;rintro _ rfl;rintro _;rintro _ ⟨aU,aW,rfl,aR⟩;rintro _ ⟨aV,aX,rfl,aS⟩;rintro _ ⟨g9,a9,c9,rfl,aC,aG⟩;change wpList _ _ _ _ _ _;simp only[lq,lw,lx,lz,Act.put,lj,lk,ly];obtain⟨aT,hK,aE,aD⟩:=HO.out;have W:=hK.ext f;have hL:=BT (k:=2) aC rfl;have af:=B.ext f;have aN:=W.ne af (by decide)
   go_wp2_with(refine Dn rfl rfl underlying22 F5 rfl W rfl hL (by intro r hr u hu;rw[gL.1 hr]at hu;exact CI _ _ _ _ u hu) (by unfold maxLen;omega) (by omega) ((U.trans f).size) ?_;intro a7 c7 w7 aF Y aY;have G:=af.kept Y aN;have b2:=G.frozen 1;have b1:w7.cell? ⟨M,1,none⟩=some (.slice O i P):=G.cell (i:=1) (by simp[Ah]))
   have a4:=TmO.grow W aE (fun j hj=>(aD j hj).ext f) (⟨S,a9,N,c9,rfl,aq.out,aG.mono U.size⟩:I5 _ _ (tmL S a9 N c9) (txt (l.getD i tz).2,xs)) aF Y;rw[aa.out]at a4;have aA:Ext D w7:=(U.trans f).grown Y (fun k hk=>(hK.lt hk).1);have ak:=Ar w7 M 1 (.slice a7 (i+1) c7);have aH:Arr (w7.setCell ⟨M,1,none⟩ (.slice a7 (i+1) c7)) M 28 (Ah vars a7 (i+1) c7):=G.set 1 _;have ap:=a4.keptU G (by decide) (by decide) ak;have aB:=aA.grownR ak a5.out;go_roundw
   case rel=>exact⟨i+1,a7,c7,by go_num,by omega,aB,aH,qh ap⟩
   case measure=>simp[intOf];omega
def YA(w:World)(l:List Pl.Tm)(e:Ending)(w':World):Prop:=∃ b,e = .returned (.bool b)/\(b=true<->okU l)/\Ext w w'
theorem Qv{l:List Pl.Tm}(h:TSl w b0 a n c l) :
 Calls prog 120 #[.agg (pL vars a n c).toArray] w (YA w l):=by
 have D:=h.len;by_cases h1:n<=4096
 · have m:(n:Int)<=4096:=by omega
   rcases gX n with h0|h0
   · subst h0;have f:okU l:=⟨by omega,fun t r e=>by rw[e]at D;simp at D⟩;clear h1 m
     go_enter func120,ntmps120
     go_upto_region 1 with(fail)
     refine AP ?_;intro C d b k;have E:=b.c 1 rfl;go_wp2;go_ret;exact⟨true,rfl,by simp[f],d⟩
   · have J:((n:Int) == 0)=false:=by simp;omega
     have y:0<l.length:=by omega
     have f:okU l<->A3 (l.getD 0 tz).1=true:=by
      cases l with
      | nil=>simp at y
      | cons t r=>exact⟨fun h=>h.2 t r rfl,fun h=>⟨by omega,fun R Q e=>by injection e with F M;subst F;exact h⟩⟩
     clear h1
     go_enter func120,ntmps120
     go_upto_region 1 with(fail)
     refine AP ?_;intro C d b k;have E:=b.c 1 rfl;obtain⟨s,A,B,s1,T,P,L,U,O,h1,v,N,G,rfl,o,g,q,z,x,i⟩:=(h.ext d).row h0;have H:C.cell? ⟨s,A+4,none⟩=some (.slice v N G):=by have:=o.cl h0 (j:=4) (by omega);rw[g,jg,iO]at this;exact this
     have I:(0:Int)<n:=by omega
     obtain⟨e0,p⟩:∃ e0,(l.getD 0 tz).1=e0:=⟨_,rfl⟩;rw[p]at i f;have K:=qh (IT i.1);clear p;clear o g q z x i k b
     go_wp2_with fail
     refine K.out.mono ?_;rintro e S ⟨rfl,rfl⟩;go_wp2;go_ret;exact⟨_,rfl,f.symm,d⟩
 · have m:¬ (n:Int)<=4096:=by omega
   have f:¬ okU l:=fun h=>by have:=h.1;omega
   clear h1
   go_enter func120,ntmps120
   go_upto_region 1 with(fail)
   refine AP ?_;intro C d b k;have E:=b.c 1 rfl;go_wp2;go_ret;exact⟨false,rfl,by simp[f],d⟩
def Mi(w:World)(vars:Int)(l:List Pl.Tm)(e:Ending)(w':World):Prop:=(okU l/\Cl w vars (wrU l) 0 e w')\/(¬ okU l/\Cl w 0 [] 2 e w')
theorem Fq{l:List Pl.Tm}(h:TSl w b0 a n c l)(J:∀ t∈l,Pl.RB 1000000 t.2)(z:∀ t∈l,t.1.length<=12)(I:n<=100000) :
 Calls prog 73 #[.agg (pL vars a n c).toArray] w (Mi w vars l):=by
 have y:=qh (fun(G:World) (B:Ext w G)=>Qv (vars:=vars) (h.ext B));have E:=qh (fun(G:World) (B:Ext w G)=>IZ (vars:=vars) (h.ext B) J z I);clear h J z I
 go_enter func73,ntmps73
 go_upto_region 1 with(fail)
 refine Cf ?_;intro N r i q F;have H:Arr N (w.heap.size+1) 28 (Ah 0 none 0 0):=q;have K:=i.c 0 rfl;have L:=i.c 1 rfl;clear i q F
 go_wp2_with fail
 refine(y.out _ r).mono ?_;rintro e R ⟨b,rfl,A,f⟩;have v:=H.ext f;have P:=f.cell K;have Q:=f.cell L;have d:=r.trans f;clear y K L H;cases b with
 | false =>
  have k:¬ okU l:=fun h=>by have:=A.2 h;cases this
  clear A
  go_wp2_with(refine Aa (vs:=Ah 0 none 0 0) rfl rfl rfl rfl rfl Ad v rfl (Am _ _ _ _) ?_;intro O j g)
  exact gF (Ao rfl Ad rfl rfl j) rfl (.inr ⟨k,none,0,0,rfl,d.grownR g (by omega),TmO.nil _ _⟩)
 | true =>
  have k:okU l:=A.1 rfl;clear A
  go_wp2_with fail
  refine(E.out _ d).mono ?_;rintro e S ⟨m,p,o,rfl,s,C⟩;have x:=v.ext s;have D:BS vars m p o = .agg #[.int .i64 vars,.slice m p o]:=rfl;rw[D];have M:(Ah vars m p o).toArray=#[.int .i64 vars,.slice m p o]:=rfl
  go_wp2_with(refine Aa (vs:=Ah vars m p o) rfl rfl rfl rfl rfl Ad x rfl (Am _ _ _ _) ?_;intro O j g)
  exact gF (Ao rfl Ad rfl rfl j) rfl (.inl ⟨k,m,p,o,rfl,(d.trans s).grownR g (by omega),(C.mono d.size).keptU x (by decide) (by decide) g⟩)
theorem Pl.coef_canon{l:List Pl.Tm}(h:Pl.Canon n l){t:Pl.Tm}(d:t∈l):Pl.coef l t.1=t.2:=by
 refine Pl.coef_mem ?_ d;refine List.Pairwise.map _ (fun a b c => ?_) h.desc;intro he;rw[he,Pl.ordE_self]at c;omega
section
variable {P:Program} {w:World}
theorem Bo(b:o.guard=none)(j:o.op = .store 28 x y)
 {g:Nat} {t:TypeId} {cs:List Value} {v:Int} {a:Option Addr} {n c:Nat} (k:f.eval x = .pointer (some ⟨g,0,none⟩)) (l:f.eval y = .agg #[.int .i64 v,.slice a n c]) (h:Arr w g t cs) (i:cs.length=2)
 (e:∀ d,Arr d g t (Ah v a n c)->w.grownBy d (some g)->wpList prog ops Q rest (f.put o.dst undef) d):wpList prog ops Q (o :: rest) f w :=
 Aa (vs:=Ah v a n c) b j k l rfl Ad h i (Am _ _ _ _) e
end
theorem Mi.q{out l:List Pl.Tm}{e:Ending}(h:Mi w (N:Int) out e w')(d:N<=6)(a:Pl.Canon N out)(g:∀ t∈l,t.1.length=N)(f:∀ x,Pl.coef out x=Pl.coef l x):Cd w (resQ (N:Int) (AC l)) e w':=by
 have h1:=OS d a (p:=AC l) (KM a.len g (fun e _=>f e));rcases h with⟨b,h⟩|⟨b,h⟩
 · rcases h1 with⟨_,h2⟩|⟨c,_⟩
   · rw[h2];exact h
   · exact absurd b c
 · rcases h1 with⟨c,_⟩|⟨_,h2⟩
   · exact absurd c b
   · rw[h2];exact h
end Go.Proofs.YtlbmnokpiilfpaaGreatDoor
