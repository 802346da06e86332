/- Part Rin31. -/
import Derived.Test.YtlpgonpfjbhmfaaGreatDoorRin30
set_option maxRecDepth 100000
set_option maxHeartbeats 100000000
namespace Go.Proofs.YtlpgonpfjbhmfaaGreatDoor
open Go Go.RowKit
theorem intC_zero (w:World):IntC w (intL false none 0 0) 0:=⟨false,none,0,0,rfl,qh rfl,Wd.nil _⟩
def IntO (w:World) (base g n:Nat) (F:Nat→Int):Prop:=∃ rs,OwnK w base 90 2 (some ⟨g,0,none⟩) n n rs∧nuR rs∧∀ i,i<n→IntC w (rs.getD i []) (F i)
section
variable {w w':World} {base g n:Nat} {F G:Nat→Int}
theorem IntO.ext (h:IntO w base g n F) (e:Ext w w'):IntO w' base g n F:=by
 obtain ⟨rs,h1,h2,h3⟩:=h;exact ⟨rs,h1.ext e,h2,fun i hi=>(h3 i hi).ext e⟩
theorem IntO.congr (h:IntO w base g n F) (e:∀ i,i<n→G i=F i):IntO w base g n G:=by
 obtain ⟨rs,h1,h2,h3⟩:=h;exact ⟨rs,h1,h2,fun i hi=>by rw [e i hi]; exact h3 i hi⟩
theorem IntO.mono {base':Nat} (h:IntO w base g n F) (hb:base'≤base):IntO w base' g n F:=by
 obtain ⟨rs,h1,h2,h3⟩:=h;exact ⟨rs,h1.mono hb,h2,h3⟩
theorem IntO.noU (h:IntO w base g n F):NoU w g:=by
 obtain ⟨rs,h1,h2,h3⟩:=h;exact h1.noU h2
theorem IntO.lt (h:IntO w base g n F):base≤g∧g<w.heap.size:=by
 obtain ⟨rs,h1,h2,h3⟩:=h;exact h1.lt rfl
theorem IntO.kept {g':Nat} (h:IntO w base g n F) (hU:NoU w g') (hg:w.grownBy w' (some g')) (hne:g≠g'):IntO w' base g n F:=by
 obtain ⟨rs,h1,h2,h3⟩:=h;exact ⟨rs,h1.kept hg (Or.inr (by simpa [blk] using hne)),h2,fun i hi=>(h3 i hi).keptU hU hg⟩
theorem IntO.at (h:IntO w base g n F) {i:Nat} (hi:i<n):∃ s a m c,w.cell? ⟨g,i*2,none⟩=some (.bool s)∧w.cell? ⟨g,i*2+1,none⟩=some (.slice a m c)∧Hid (decide (F i<0)=s)∧Wd w a m c (F i).natAbs:=by
 obtain ⟨rs,h1,h2,h3⟩:=h;obtain ⟨s,a,m,c,hr,hs,hw⟩:=h3 i hi;have hk:=h1.slk (by omega);obtain ⟨b,off,hb,hc⟩:=hk.rd (by omega);simp only [Option.some.injEq,Addr.mk.injEq,and_true] at hb;obtain ⟨rfl,rfl⟩:=hb;have c0:=hc i hi 0 (by omega);have c1:=hc i hi 1 (by omega);rw [hr] at c0 c1;simp only [intL,List.getD_cons_zero,List.getD_cons_succ,Nat.zero_add,Nat.add_zero] at c0 c1;exact ⟨s,a,m,c,c0,c1,hs,hw⟩
theorem IntO.made (h:OwnK w base 90 2 (some ⟨g,0,none⟩) n n (List.replicate n (intL false none 0 0))):IntO w base g n (fun _=>0):=by
 refine ⟨_,h,fun r hr u hu=>by rw [(List.mem_replicate.1 hr).2] at hu; exact intL_nu _ _ _ _ u hu,fun i hi => ?_⟩;have:(List.replicate n (intL false none 0 0)).getD i []=intL false none 0 0:=by simp [List.getD_eq_getElem?_getD,hi]
 rw [this];exact intC_zero w
theorem wl_stIO {ops:Array Oper} {rest:List Oper} {o:Oper} {f:Act} {Q:Exit→Act→World→Prop} {x y:Operand} {i:Nat} {z:Int} {s:Bool} {a:Option Addr} {m c:Nat} {va:Array Value} (hgd:o.guard=none) (ho:o.op = .store 90 x y)
 (hx:f.eval x = .pointer (some ⟨g,i*2,none⟩)) (hy:f.eval y = .agg va) (hva:va=(intL s a m c).toArray) (h:IntO w base g n F) (hi:i<n) (hs:Hid (decide (z<0)=s)) (hw:Wd w a m c z.natAbs)
 (hK:∀ w',IntO w' base g n (fun j=>if j=i then z else F j)→w.grownBy w' (some g)→wpList Tryz.prog ops Q rest (f.put o.dst undef) w'):wpList Tryz.prog ops Q (o :: rest) f w:=by
 have hU:=h.noU;obtain ⟨rs,h1,h2,h3⟩:=h;have hl:=h1.len (by omega);refine wl_stK (vs:=intL s a m c) hgd ho (by omega) agg_Int hx hy hva h1 hi rfl (intL_one _ _ _ _) fun w' hO hg=>hK w' ⟨_,hO, ?_,fun j hj => ?_⟩ hg
 · intro r hr u hu;rcases List.mem_or_eq_of_mem_set hr with h|h
   · exact h2 r h u hu
   · rw [h] at hu; exact intL_nu _ _ _ _ u hu
 · by_cases e:j=i
   · subst e;dsimp only;rw [if_pos rfl,List.getD_eq_getElem?_getD,List.getElem?_set_self (by rw [hl]; exact hi)];exact IntC.keptU ⟨s,a,m,c,rfl,hs,hw⟩ hU hg
   · dsimp only;rw [if_neg e,List.getD_eq_getElem?_getD,List.getElem?_set_ne (by omega),←List.getD_eq_getElem?_getD];exact (h3 j hj).keptU hU hg
def IntB (w:World) (g:Nat) (z:Int):Prop:=∃ row,Arr w g 90 row∧IntC w row z
theorem IntB.ext {z:Int} (h:IntB w g z) (e:Ext w w'):IntB w' g z:=by
 obtain ⟨row,h1,h2⟩:=h;exact ⟨row,h1.ext e,h2.ext e⟩
theorem IntB.lt {z:Int} (h:IntB w g z):g<w.heap.size:=by
 obtain ⟨row,h1,h2⟩:=h;exact h1.lt
theorem IntB.noU {z:Int} (h:IntB w g z):NoU w g:=by
 obtain ⟨row,h1,s,a,m,c,rfl,h2⟩:=h;exact h1.noU (intL_nu _ _ _ _)
theorem IntB.kept {z:Int} {g':Nat} (h:IntB w g z) (hU:NoU w g') (hg:w.grownBy w' (some g')) (hne:g≠g'):IntB w' g z:=by
 obtain ⟨row,h1,h2⟩:=h;exact ⟨row,h1.kept hg (by simpa using hne),h2.keptU hU hg⟩
theorem IntB.at {z:Int} (h:IntB w g z):∃ s a m c,w.cell? ⟨g,0,none⟩=some (.bool s)∧w.cell? ⟨g,1,none⟩=some (.slice a m c)∧Hid (decide (z<0)=s)∧Wd w a m c z.natAbs:=by
 obtain ⟨row,h1,s,a,m,c,rfl,hs,hw⟩:=h;exact ⟨s,a,m,c,h1.cell (i:=0) (by simp [intL]),h1.cell (i:=1) (by simp [intL]),hs,hw⟩
theorem wl_stIB {ops:Array Oper} {rest:List Oper} {o:Oper} {f:Act} {Q:Exit→Act→World→Prop} {x y:Operand} {z z':Int} {s:Bool} {a:Option Addr} {m c:Nat} {va:Array Value} (hgd:o.guard=none) (ho:o.op = .store 90 x y)
 (hx:f.eval x = .pointer (some ⟨g,0,none⟩)) (hy:f.eval y = .agg va) (hva:va=(intL s a m c).toArray) (h:IntB w g z') (hs:Hid (decide (z<0)=s)) (hw:Wd w a m c z.natAbs)
 (hK:∀ w',IntB w' g z→w.grownBy w' (some g)→wpList Tryz.prog ops Q rest (f.put o.dst undef) w'):wpList Tryz.prog ops Q (o :: rest) f w:=by
 have hU:=h.noU;obtain ⟨row,h1,s',a',m',c',rfl,_⟩:=h;exact wl_stArr (vs:=intL s a m c) hgd ho hx hy hva agg_Int h1 rfl (intL_one _ _ _ _) fun w' hO hg=>hK w' ⟨_,hO,IntC.keptU ⟨s,a,m,c,rfl,hs,hw⟩ hU hg⟩ hg
theorem IntB.new (w:World):IntB (w.alloc (.cells (intL false none 0 0).toArray 90)) w.heap.size 0:=⟨_,Arr.new w _ _,intC_zero _⟩
end
end Go.Proofs.YtlpgonpfjbhmfaaGreatDoor
