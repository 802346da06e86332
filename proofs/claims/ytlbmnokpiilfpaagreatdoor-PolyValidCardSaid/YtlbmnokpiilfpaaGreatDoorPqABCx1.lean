/- Part PqABCx1. -/
import Derived.Test.YtlbmnokpiilfpaaGreatDoorPq23

set_option linter.all false
set_option maxRecDepth 100000
set_option maxHeartbeats 100000000
namespace Go.Proofs.YtlbmnokpiilfpaaGreatDoor
open Tryz Go Go.RowKit
variable {f:Act} {ops:Array Oper} {Q:Exit->Act->World->Prop} {va vb:Int} {rest:List Oper} {r s zs:List Value} {bytes c d g k n nt:Nat} {o:Oper} {x y:Operand} {a b:Option Addr} {e t:TypeId} {w:World}
section
variable {va:Int} {ts:List Tx} {l:List Pl.Tm}
theorem Bz(b:Av ts nt d)(a:d<=570):∀ t∈ts,t.1.length<=570:=fun t c=>gJ (b.2 t c).1 a
end
abbrev pz:Int×List Tx:=(0,[])
def PSl(w:World)(a:Option Addr)(n c:Nat)(ps:List (Int×List Tx)):Prop:=∃ rows,SlK w 2 a n c rows/\ps.length=n/\∀ i,i<n->∃ A m d,rows.getD i []=Ah (ps.getD i pz).1 A m d/\AH w A m d (ps.getD i pz).2
theorem Wg(h:Arr w g t (r ++ s))(a:r.length=k)(b:s.length=k):SlK w k (some ⟨g,0,none⟩) 2 2 [r,s]:=by
 refine⟨rfl,lrf _,by unfold maxLen;omega,by simp[a,b],fun _=>⟨g,0,rfl,fun i c j d => ?_⟩⟩;have h01:i=0\/i=1:=by omega
 rcases h01 with rfl|rfl
 · rw[jg,iz,h.cell (by simp;omega)];show _=some (r.getD j undef);rw[gqq,gZ (by omega),<-gqq]
 · rw[jZ,iz,h.cell (by simp;omega)];show _=some (s.getD j undef);rw[gqq,iu (by omega),a,show k+j-k=j by omega,<-gqq]
theorem PSl.two{m:Nat}{e f:List Tx}(h:Arr w g 28 (Ah va a n c ++ Ah vb b m d))(j:AH w a n c e)(k:AH w b m d f):PSl w (some ⟨g,0,none⟩) 2 2 [(va,e),(vb,f)]:=by
 refine⟨_,Wg h rfl rfl,rfl,fun i l => ?_⟩;have h01:i=0\/i=1:=by omega
 rcases h01 with rfl|rfl
 · exact⟨a,n,c,rfl,j⟩
 · exact⟨b,m,d,rfl,k⟩
section
variable {P:Program} {w:World}
theorem ST{r0 r1 d s1:Value}(k:P.underlying t=some (.slice e))(a:BV P e zs 2 bytes) :
 (Instr.buildSlice t 2 #[(0,.agg #[r0,r1]),(1,.agg #[d,s1])]).run P w = .ok (.slice (some ⟨w.heap.size,0,none⟩) 2 2) (w.alloc (.cells #[r0,r1,d,s1] e)):=by
 obtain⟨i,g,c,b,f⟩:=a.parts;have j:=a.2.1
 match zs,j,c with
 | [z0,z1],_,c =>
 simp[Instr.buildSlice,j4 k,sizeOf,typeInfo,g,b,Instr.fill,zeroValue,c,newRow,Value.cells,show Array.range 4=#[0,1,2,3] by decide]
theorem Dx(b:o.guard=none)(g:o.op = .buildSlice t 2 #[(0,x),(1,y)])
 {r0 r1 c s1:Value} {e:TypeId} {zs:List Value} {bytes:Nat} (i:P.underlying t=some (.slice e)) (a:BV P e zs 2 bytes) (j:f.eval x = .agg #[r0,r1]) (k:f.eval y = .agg #[c,s1])
 (h:wpList P ops Q rest (f.put o.dst (.slice (some ⟨w.heap.size,0,none⟩) 2 2)) (w.alloc (.cells #[r0,r1,c,s1] e))):wpList P ops Q (o :: rest) f w:=by
 refine jf b fun _ d => ?_;unfold Oper.wp execOp;simp only[g,jH,ja,jE,j,k,ij,ST i a,gS,iF];exact d _ _ h
end
theorem C0:BV prog 28 [.int .i64 0,.slice none 0 0] 2 32:=⟨by kernel_rfl,rfl,by omega⟩
theorem Iy{ps:List (Int×List Tx)}(h:PSl w a n c ps)(V:n<=10) :
 Calls prog 19 #[.slice a n c] w fun e S=>e = .returned (.bool (decide (∀ p∈ps,Av p.2 8 12)))/\Ext w S:=by
 obtain⟨M,O,K,L⟩:=h;have N:=qh L;have H:=qh K;obtain⟨r,E⟩:∃ r,decide (∀ p∈ps,Av p.2 8 12)=r:=⟨_,rfl⟩;rw[E];have J:=qh E;clear E L K
 go_enter func19,ntmps19
 go_wp2
 go_loopw[3] (fun F wr=>∃ k:Nat,F = .int .i64 k/\k<=n/\Ext w wr/\Hid (∀ i,i<k->Av (ps.getD i pz).2 8 12)) (fun F _=>n-(intOf F).toNat)
 case atStart=>exact⟨0,rfl,gO _,Ext.refl _,qh (fun i z=>absurd z (by omega))⟩
 case round =>
  obtain⟨k,rfl,U,s,x⟩:=hrel;by_cases o:k<n
  case neg =>
   have t:¬ (k:Int)<n:=by omega
   have B:Hid (r=true):=qh (by
    rw[<-J.out];refine iA fun p hp => ?_;obtain⟨i,z,rfl⟩:=List.getElem_of_mem hp;have h1:=x.out i (by have:=H.out;omega)
    rwa[gqq,gD z,gP]at h1)
   clear x;go_wp2;go_ret;exact⟨by rw[B.out];rfl,s⟩
  have t:(k:Int)<n:=by omega
  have l:=O.ext s;obtain⟨b,Q,rfl,_⟩:=l.rd (by omega);obtain⟨A,m,d,f,v⟩:=N.out k o;have I:Hid (ps.getD k pz∈ps):=qh (by have:=H.out;rw[gqq,gD (by omega),gP];exact jl _)
  have y:Hid (Av (ps.getD k pz).2 8 12->∀ i,i<k+1->Av (ps.getD i pz).2 8 12):=qh (fun h1 i z=>by
   by_cases D:i<k
   · exact x.out i D
   · have:i=k:=by omega
     subst this
     exact h1)
  generalize ps.getD k pz=p at *
  obtain⟨G,R⟩:=p;have g:=qh (Ea (va:=G) (nt:=8) (d:=12) (v.ext s));have P:(Ah G A m d).toArray=#[.int .i64 G,.slice A m d]:=rfl;simp only at f I y;clear v x;by_cases q:Av R 8 12
  · have C:=qh (y.out q);rw[iA q]at g;clear q y
    go_wp2_with(refine Bg rfl rfl Ad rfl l o ?_;rw[f])
    refine g.out.mono ?_;rintro e T ⟨rfl,j⟩;go_wp2;go_roundw
    case rel=>exact⟨k+1,by go_num,by omega,s.trans j,C⟩
    case measure=>simp[intOf];omega
  · have B:Hid (r=false):=qh (by
     rw[<-J.out]
     exact gR fun h1=>q (h1 _ I.out))
    rw[gR q]at g;clear q y
    go_wp2_with(refine Bg rfl rfl Ad rfl l o ?_;rw[f])
    refine g.out.mono ?_;rintro e T ⟨rfl,j⟩;go_wp2;go_ret;exact⟨by rw[B.out];rfl,s.trans j⟩
end Go.Proofs.YtlbmnokpiilfpaaGreatDoor
