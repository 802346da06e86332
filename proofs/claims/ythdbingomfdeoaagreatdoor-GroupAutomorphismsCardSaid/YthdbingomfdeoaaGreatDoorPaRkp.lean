/- Part PaRkp. -/
import Derived.Test.YthdbingomfdeoaaGreatDoorPaRal
import Derived.Test.YthdbingomfdeoaaGreatDoorPa12

set_option linter.all false
set_option maxRecDepth 100000
set_option maxHeartbeats 100000000
namespace Go.Proofs.YthdbingomfdeoaaGreatDoor
open Tryz Go Go.RowKit
variable {xs:List Int} {N b0 cx:Nat} {row:Option Nat} {a b c:World}
structure ShP(N:Nat)(l:PLs):Prop where
 can:Pl.Canon N l
 few:l.length<=100
 rbs:∀ t∈l,Pl.RB 48 t.2
 tbs:TB N l
theorem ShP.moved{l out:PLs}(h:ShP N l)(hp:Ak xs=true)(e:xs.length=N)(d:Pl.Canon N out)(f:Rl xs l out):ShP N out:=by
 have a:=f.perm hp e h.can d;refine⟨d,by rw[<-a.length_eq];unfold mvL;rw[ft];exact h.few,fun t c => ?_,fun t c => ?_⟩
 · obtain⟨s,b,rfl⟩:=fh.1 (a.mem_iff.2 c);exact h.rbs s b
 · obtain⟨s,b,rfl⟩:=fh.1 (a.mem_iff.2 c);obtain⟨i,j⟩:=h.tbs s b;exact⟨by show(mvd xs s.1).length=N;rw[Bh];exact i,fun x g=>j x (Od hp (by omega) g)⟩
theorem Js{base:Nat}(F:N<=6){x a:Option Addr}{xs:List Int}{n c:Nat}{f:PLs}{w:World}(o:SlI w x N cx xs)(hp:Ak xs=true)(l:TSl w b0 a n c f)(h:ShP N f)(D:b0<=w.heap.size)(z:base<=w.heap.size) :
 Calls prog 54 #[.slice x N cx,.agg #[.int .i64 (N:Int),.slice a n c]] w fun e i=>∃ j p k d,e = .returned (.agg #[.int .i64 (N:Int),.slice j p k])/\Ext w i/\TO i b0 base j p k d/\Rl xs f d/\ShP N d:=by
 have G:n<=100:=by have h1:=l.len;have h2:=h.few;omega
 refine(PD (by omega) o hp l h.tbs D (by omega) (Pl.SubOK.of_rb (b:=48) (by omega) (fun t C=>by obtain⟨s,B,rfl⟩:=fh.1 C;exact h.rbs s B) (by rw[QU];have:=h.few;omega))).mono ?_;rintro e i ⟨q,E,r,d,rfl,v,y,_,A,g⟩;have m:Rl xs f d:=fun e=>(g e).symm;exact⟨q,E,r,d,rfl,v,y.mono z,m,h.moved hp o.len A m⟩
theorem Dh(q:N<=6){a b:Option Addr}{n c m d:Nat}{g lb:PLs}{w:World}(i:TSl w b0 a n c g)(j:TSl w b0 b m d lb)(sa:ShP N g)(sb:ShP N lb)(p:b0<=w.heap.size) :
 Calls prog 53 #[.agg #[.int .i64 (N:Int),.slice a n c],.agg #[.int .i64 (N:Int),.slice b m d]] w fun e k=>e = .returned (.bool (sameB g lb))/\Ext w k:=by
 have h1:=i.len;have h2:=j.len;have h3:=sa.few;have h4:=sb.few;refine(M9 (by omega) (va:=(N:Int)) (vb:=(N:Int)) i j (fun _=>sa.tbs) (fun _=>sb.tbs) p (by omega) (by omega) (fun t f=>(sb.rbs t f).mono (by omega)) (fun _=>Pl.SubOK.of_rb (b:=96) (by omega) (fun t f => ?_) (by rw[ff,show(Pl.scl (-1) lb).length=lb.length from ft _];omega))).mono ?_
 · rcases fo.1 f with h|h
   · exact(sa.rbs t h).mono (by omega)
   · obtain⟨s,o,rfl⟩:=fh.1 h;exact Pl.RB.mul Q2 (sb.rbs s o)
 · rintro e k ⟨rfl,l⟩;exact⟨by simp,l⟩
theorem O9{b out lb:PLs}(h:Rl xs b out):(sameB out lb=true->Rl xs b lb)/\(sameB out lb=false->¬ Rl xs b lb):=by
 classical
 have a:(∀ x,Pl.coef (out ++ Pl.scl (-1) lb) x=0)<->Rl xs b lb:=by
  have d:∀ x,Pl.coef (out ++ Pl.scl (-1) lb) x=Pl.coef out x + -1*Pl.coef lb x:=fun x=>by rw[Pl.coef_app,Pl.coef_scl]
  constructor
  · intro H e;have:=H e;rw[d,<-h e]at this
    grind
  · intro H x;rw[d,<-h x,H x]
    grind
 exact⟨fun c=>a.1 (gC c),fun c f=>of_decide_eq_false c (a.2 f)⟩
def PRs(w:World)(b0 N:Nat)(A:Option Addr)(m d:Nat)(L:List PLs):Prop:=∃ rows,SlK w 2 A m d rows/\L.length=m/\∀ i,i<m->∃ B n c,rows.getD i []=pL (N:Int) B n c/\TSl w b0 B n c (L.getD i [])
theorem PRs.ext{w b:World}{b0 N:Nat}{A:Option Addr}{m d:Nat}{L:List PLs}(h:PRs w b0 N A m d L)(e:Ext w b):PRs b b0 N A m d L:=by
 obtain⟨a,h1,h2,h3⟩:=h;exact⟨a,h1.ext e,h2,fun i f=>by obtain⟨B,n,c,g,j⟩:=h3 i f;exact⟨B,n,c,g,j.ext e⟩⟩
theorem _root_.Go.World.grownBy.trans_e(h:a.grownBy b row)(k:Ext b c):a.grownBy c row:=CW h k
theorem _root_.Go.World.grownBy.trans_g(h:a.grownBy b row)(k:b.grownBy c row):a.grownBy c row:=Ex h k
open Classical in
noncomputable def KepR (xs:List Int) (L:List PLs):Bool:=decide (Kep xs L)
theorem Hg{m d:Nat}(hN:N<=6){x A:Option Addr}{xs:List Int}{L:List PLs}{w:World}(hx:SlI w x N cx xs)(hp:Ak xs=true)(hl:xs.length=N)(hP:PRs w b0 N A m d L)(hL:∀ l∈L,ShP N l)(hm:m<=100)(hw:b0<=w.heap.size) :
 Calls prog 55 #[.slice x N cx,.slice A m d] w fun e w'=>e = .returned (.bool (KepR xs L))/\Ext w w':=by
 classical
 obtain⟨aK,hS,ap,au⟩:=hP;have a9:=qh au;have o:=qh ap;have HL:=qh hL;have HP:=qh hp;have ac:=qh hl;have a7:Hid (Hk N L):=qh fun l h=>(hL l h).can;obtain⟨a6,G⟩:∃ r,KepR xs L=r:=⟨_,rfl⟩;have HR:Hid (decide (Kep xs L)=a6):=qh G;rw[G];clear au ap hL hp hl G
 go_enter func55,ntmps55
 go_wp2_with(at_make;refine CJ rfl rfl underlying152 Pn rfl rfl rfl (by omega) (by unfold maxLen;omega) ?_;intro w1 ae ad)
 obtain⟨U,hU⟩:∃ u,w.heap.size=u:=⟨_,rfl⟩;have ai:Own w1 w.heap.size 4 (some ⟨U,0,none⟩) m m ((List.replicate m false).map Value.bool):=by
  rw[jo,<-hU];exact ae
 rw[hU];clear ae;go_wp2
 go_loopw[6] (fun iv wr=>∃ (i:Nat) (u:List Bool),iv = .int .i64 i/\i<=m/\Ext w wr/\Own wr w.heap.size 4 (some ⟨U,0,none⟩) m m (u.map Value.bool)/\Hid (GI xs L i u)) (fun iv _=>m-(intOf iv).toNat)
 case atStart=>exact⟨0,_,rfl,f8 _,ad,ai,qh (by have h1:=GI.start xs L;rw[o.out]at h1;exact h1)⟩
 case round =>
  clear ai ad;obtain⟨i,u,rfl,hi,hE,R,HG⟩:=hrel;by_cases f:i<m
  case neg =>
   have HT:Hid (a6=true):=qh (by
    have hg:=HG.out;have:i=L.length:=by rw[o.out];omega
    subst this;rw[<-HR.out]
    exact gl (hg.done HP.out ac.out a7.out))
   clear HG;go_wp2;go_ret;exact⟨by rw[HT.out];rfl,hE⟩
  have af:=hS.ext hE;obtain⟨lb,lo,rfl,y⟩:=af.rd (by omega);obtain⟨B1,n1,c1,c,a3⟩:=a9.out i f;have r0:wr.cell? ⟨lb,lo+i*2,none⟩=some (.int .i64 (N:Int)):=by have:=y i f 0 (by omega);rw[c]at this;exact this
  have r1:wr.cell? ⟨lb,lo+i*2+1,none⟩=some (.slice B1 n1 c1):=by have:=y i f 1 (by omega);rw[c]at this;exact this
  obtain⟨I,T⟩:∃ l,L.getD i []=l:=⟨_,rfl⟩;have Z:I∈L:=by rw[<-T];exact CV (by rw[o.out];exact f)
  rw[T]at a3;have a8:=qh T;have an:=qh (Js (base:=w.heap.size) hN (hx.ext hE) HP.out (a3.ext hE) (HL.out I Z) (eW hw hE.size) hE.size);clear y c a3 T Z af
  go_wp2_with fail
  refine an.out.mono ?_;rintro e w2 ⟨aq,nq,cq,ay,rfl,O,ag,ar,av⟩;have aa:=qh (And.intro ar av);have am:=Arr.new w2 65 (pL 0 none 0 0);have aH:(pL (N:Int) aq nq cq).toArray=#[.int .i64 (N:Int),.slice aq nq cq]:=rfl;clear an ar av r0 r1
  go_upto_region 6 with(refine Aa (vs:=pL (N:Int) aq nq cq) rfl rfl rfl rfl rfl Av am rfl (AX _ _ _ _) ?_;intro w3 S ao)
  have P:Ext w2 w3:=((Ext.refl w2).alloc _).grownR ao (lrf _);obtain⟨Q,hQ⟩:∃ q,w2.heap.size=q:=⟨_,rfl⟩;rw[hQ]at S |-;have z:=(R.ext O).ext P;have X:=ag.ext P;have W:=(hE.trans O).trans P;have aj:U≠Q:=fun e=>by have h1:=(R.lt (k:=U) rfl).2;have h2:=O.size;omega
  have aL:w.heap.size<=U:=by omega
  clear am ao aH O P ag R hQ;go_wp2;obtain⟨wo,ax⟩:∃ wo:World,w3=wo:=⟨_,rfl⟩;rw[ax]at S z X W |-;clear ax;have aD:=qh z
  go_loopw[8,9] (fun fv kv wr=>∃ (k:Nat) (K:Bool) (s:List Bool),fv = .bool K/\kv = .int .i64 k/\k<=m/\wo.grownBy wr (some U)/\Own wr w.heap.size 4 (some ⟨U,0,none⟩) m m (s.map Value.bool)/\Hid (if K=true then ∃ j,j<m/\u.getD j false=false/\Rl xs I (L.getD j [])/\s=u.set j true else s=u/\∀ j,j<k->u.getD j false=false->¬ Rl xs I (L.getD j []))) (fun _ kv _=>m-(intOf kv).toNat)
  case atStart=>exact⟨0,false,u,rfl,rfl,f8 _,C0 _ _,z,qh ⟨rfl,fun j E=>absurd E (by omega)⟩⟩
  case round =>
   clear z;obtain⟨k,K,s,rfl,rfl,hk,hF,R,a⟩:=hrel;have C:Ext w wr:=W.grown hF (fun g hg=>by have h1:=fe hg;omega);cases K with
   | true =>
    obtain⟨j,E⟩:=a.out
    have aC:Hid (GI xs L (i+1) s):=qh (by
     rw[E.2.2.2]
     exact HG.out.step (by rw[o.out];exact f) (by rw[o.out];exact E.1) E.2.1 (by rw[a8.out];exact E.2.2.1))
    clear a E HG;by_cases aO:k<m
    all_goals
     go_wp2;go_roundw
     case rel=>exact⟨i+1,s,by go_num,by omega,C,R,aC⟩
     case measure=>simp[intOf];omega
   | false =>
    replace a:Hid (s=u/\∀ j,j<k->u.getD j false=false->¬ Rl xs I (L.getD j [])):=a;by_cases F:k<m
    case neg =>
     have aB:Hid (a6=false):=qh (by
      rw[<-HR.out];refine fw (HG.out.fail (by rw[o.out];exact f) HP.out ac.out a7.out fun j E hu => ?_);rw[a8.out]
      exact a.out.2 j (by rw[o.out]at E;omega) hu)
     clear a HG;go_wp2;go_ret;exact⟨by rw[aB.out];rfl,C⟩
    have al:Arr wr U 4 (s.map Value.bool):=Own.arr R;have az:s.length=m:=by have h1:=R.len;rw[ft]at h1;exact h1
    have p:wr.cell? ⟨U,k,none⟩=some (.bool (u.getD k false)):=by
     have h1:=al.cell (i:=k) (by rw[ft];omega);rw[h1,<-a.out.1];simp[show k<s.length by omega]
    obtain⟨uk,a5⟩:∃ b,u.getD k false=b:=⟨_,rfl⟩;rw[a5]at p;have a1:=qh a5;clear a5 al az;cases uk with
    | true =>
     have u0:=p;clear p
     go_upto_region 10 with(fail)
     refine Ac
      [hdS (some ⟨U,0,none⟩) m m,hdI k,hdP U k,hdB true,hdB false,hdB false,hdU,hdU,hdU,hdU,hdU,hdU,hdB false]
      trivial ⟨?o0,?o1,?o2,?o3,?o4,?o5,?o6,?o7,?o8,?o9,?o10,?o11,?o12,trivial⟩ ?fin
     case o0 | o1 | o5=>exact omv
     case o3=>exact ol
     case o6 | o7 | o8 | o9 | o10 | o11=>exact Gh rfl
     case o2 | o4 | o12 =>
      refine Ae rfl fun ρ B n D h => ?_
      try have e0:_=_:=h.1
      try have e1:_=_:=h.2.1
      try have e2:_=_:=h.2.2.1
      have ku:=n.cell u0;go_simp
      try (first | (intros;omega) | exact eT _ (by omega))
     case fin =>
      intro B n;change wpList _ _ _ _ _ _;simp only[Bs];have M:=hF.trans_e n
      have HN:Hid (∀ j,j<k+1->u.getD j false=false->¬ Rl xs I (L.getD j [])):=qh fun j E hu=>by
       by_cases h:j<k
       · exact a.out.2 j h hu
       · have:j=k:=by omega
         subst this;rw[a1.out]at hu;cases hu
      have t:=R.ext n;have a0:=qh a.out.1;clear a n u0;go_wp2;go_roundw
      case rel=>exact⟨k+1,false,s,rfl,by go_num,by omega,M,t,qh ⟨a0.out,HN.out⟩⟩
      case measure=>simp[intOf];omega
    | false =>
     have u0:=p;clear p;obtain⟨ak,nk,ck,c,ah⟩:=a9.out k F;have a2:=hS.ext C;have l0:wr.cell? ⟨lb,lo+k*2,none⟩=some (.int .i64 (N:Int)):=by
      obtain⟨aI,aJ,he,y⟩:=a2.rd (by omega);cases he;have:=y k F 0 (by omega);rw[c]at this;exact this
     have l1:wr.cell? ⟨lb,lo+k*2+1,none⟩=some (.slice ak nk ck):=by
      obtain⟨aI,aJ,he,y⟩:=a2.rd (by omega);cases he;have:=y k F 1 (by omega);rw[c]at this;exact this
     have q0:wr.cell? ⟨Q,0,none⟩=some (.int .i64 (N:Int)):=(S.kept hF (fun e=>aj (fe e).symm)).cell (i:=0) (by simp[pL]);have q1:wr.cell? ⟨Q,1,none⟩=some (.slice aq nq cq):=(S.kept hF (fun e=>aj (fe e).symm)).cell (i:=1) (by simp[pL]);obtain⟨sb,H⟩:∃ b,sameB ay (L.getD k [])=b:=⟨_,rfl⟩;have J:Hid ((sb=true->Rl xs I (L.getD k []))/\(sb=false->¬ Rl xs I (L.getD k []))):=qh (by rw[<-H];exact O9 aa.out.1);have Y:TO wr b0 w.heap.size aq nq cq ay:=by
      have aG:Arr wo U 4 (u.map Value.bool):=Own.arr aD.out;exact X.keptA aG (by decide) (by decide) (by decide) (by omega) hF
     have aw:=qh (fun(B:World) (n:Ext wr B)=>Dh hN (Y.ext n).sl ((ah.ext C).ext n) aa.out.2 (HL.out _ (CV (by rw[o.out];exact F))) (eW hw (C.trans n).size));rw[H]at aw;clear c ah a2 H Y
     go_upto_region 10 with(fail)
     refine Ac
      [hdS (some ⟨U,0,none⟩) m m,hdI k,hdP U k,hdB false,hdB true,hdB true,he (.agg #[.int .i64 (N:Int),.slice aq nq cq]),hdS (some ⟨lb,lo,none⟩) m d,hdI k,hdP lb (lo+k*2),he (.agg #[.int .i64 (N:Int),.slice ak nk ck]),hp (fun v B=>v = .bool sb),hdB sb]
      ⟨fun _ _ _ _ h=>h,trivial⟩ ⟨?o0,?o1,?o2,?o3,?o4,?o5,?o6,?o7,?o8,?o9,?o10,?o11,?o12,trivial⟩ ?fin
     case o0 | o1 | o5 | o7 | o8=>exact omv
     case o3=>exact ol
     case o2 | o4 | o9 =>
      refine Ae rfl fun ρ B n D h => ?_
      try have e0:_=_:=h.1
      try have e1:_=_:=h.2.1
      try have e2:_=_:=h.2.2.1
      have ku:=n.cell u0;go_simp
      try (first | (intros;omega) | exact eT _ (by omega))
     case o6 =>
      exact ol2 rfl rfl (fun _ _=>id) Av q0 q1
     case o10 =>
      exact ol2 rfl rfl (fun _ _=>id) Av l0 l1
     case o11 =>
      refine Ah rfl fun ρ B n D aM h => ?_;have e1:_=_:=h.2.1;have e2:_=_:=h.2.2.1;refine⟨53,#[.agg #[.int .i64 (N:Int),.slice aq nq cq],.agg #[.int .i64 (N:Int),.slice ak nk ck]],by go_simp,((aw.out B n)).mono ?_⟩;rintro e w' ⟨rfl,aE⟩;exact⟨_,rfl,aE,rfl⟩
     case o12 =>
      refine Ae rfl fun ρ B n D h => ?_;have e0:_=_:=h.1;obtain⟨v1,e1,rfl⟩:=h.2.1;go_simp
     case fin =>
      intro B n;rintro _ rfl;change wpList _ _ _ _ _ _;simp only[Bs];have M:=hF.trans_e n;have t:=R.ext n;cases V:sb with
      | true =>
       have aA:Hid (∃ j,j<m/\u.getD j false=false/\Rl xs I (L.getD j [])/\u.set k true=u.set j true):=qh ⟨k,F,a1.out,J.out.1 V,rfl⟩;have ab:Hid (s=u):=qh a.out.1;have a4:Arr B U 4 (s.map Value.bool):=Own.arr t;have v0:B.cell? ⟨U,k,none⟩=some (.bool false):=by
        have h1:=a4.cell (i:=k) (by rw[ft];have:=t.len;rw[ft]at this;omega);rw[h1];have h2:k<s.length:=by have:=t.len;rw[ft]at this;omega
        have h3:=a1.out;rw[<-ab.out]at h3;simp[h2]at h3 |-;exact h3
       have aN:=a4.frozen k;have z:Own (B.setCell ⟨U,k,none⟩ (.bool true)) w.heap.size 4 (some ⟨U,0,none⟩) m m ((s.set k true).map Value.bool):=by
        have h1:=Own.stored t k (.bool true);rw[ju];exact h1
       have aF:=M.trans_g (Ab B U k (.bool true));clear a n V J u0 a4;go_wp2;go_roundw
       case rel=>exact⟨k+1,true,s.set k true,rfl,by go_num,by omega,aF,z,qh (by rw[ab.out];exact aA.out)⟩
       case measure=>simp[intOf];omega
      | false =>
       have HN:Hid (∀ j,j<k+1->u.getD j false=false->¬ Rl xs I (L.getD j [])):=qh fun j E hu=>by
        by_cases h:j<k
        · exact a.out.2 j h hu
        · have:j=k:=by omega
          subst this;exact J.out.2 V
       have a0:=qh a.out.1;clear a n V J u0;go_wp2;go_roundw
       case rel=>exact⟨k+1,false,s,rfl,by go_num,by omega,M,t,qh ⟨a0.out,HN.out⟩⟩
       case measure=>simp[intOf];omega
end Go.Proofs.YthdbingomfdeoaaGreatDoor
