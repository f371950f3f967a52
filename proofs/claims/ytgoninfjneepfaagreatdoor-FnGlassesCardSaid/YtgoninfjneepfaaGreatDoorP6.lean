import Derived.Lib.LaidTab
import Derived.Lib.AppendIntMem
import Derived.LaidMore
import Derived.WideLaws
import Derived.Shelf.Vars
import Derived.Lib.SmallJoins
import Derived.Shelf.Strings.Split
import Derived.Shelf.Strings.Cut
import Derived.Test.YtgoninfjneepfaaGreatDoorP4
namespace Go.Proofs.YtgoninfjneepfaaGreatDoorX
open Go Go.RowKit
set_option linter.unusedVariables false
theorem St.tab {P:Program} {w0 w:World} {Γ:List As} {name:String} {k:IntKind} {zs:List Int} (h:St w0 Γ w) (ht:Lib.TabIs P w0 name k zs):Lib.TabIs P w name k zs:=by
 unfold Lib.TabIs World.var? at*
 cases hg:P.globalNamed name with
 |none=>simp [hg] at ht
 |some g=>
  simp only [hg,Option.bind_some] at ht ⊢
  have hlt:g< w0.heap.size:=by
   rcases Nat.lt_or_ge g w0.heap.size with h'|h'
   ·exact h'
   ·rw [Array.getElem?_eq_none h'] at ht;simp at ht
  rw [h.below.block g hlt]
  exact ht
theorem St.of_grow {w0 w:World} {k:Nat} {os:Array Obj} (e:w=Go.Sort.grow (w0.drewN k) os):St w0 [] w:=by
 subst e
 exact St.of_below (Lib.below_grow _ w0 (Nat.le_refl _) k os)
theorem tab_of_laid {P:Program} {W:World} {name:String} {k:IntKind} {zs:List Int} {g:Nat} {t e:TypeId} {n:Nat}
 (hg:P.globalNamed name=some g) (hty:(P.globals[g]?).map (·.type)=some t) (ht:P.underlying t=some (.array n e)) (he:P.underlying e=some (.int k)) (hce:P.cellsOf e=1) (hct:P.cellsOf t=n):
 ∀ (laid:List (String×DataW Unit)) (ps:List MemPlace),DataW.LaidVars P W laid ps→(name,Lib.tabData k zs)∈laid→Lib.TabIs P W name k zs:=by
 intro laid
 induction laid with
 |nil=>intro ps _ hm;cases hm
 |cons x rest ih=>
  intro ps h hm
  obtain ⟨nm,d⟩:=x
  obtain ⟨g',t',cs,fuel,p,q,hg',ht',hvar,hd,hr,_⟩:=h
  rcases List.mem_cons.1 hm with hx|hx
  ·obtain ⟨rfl,rfl⟩:=Prod.mk.inj hx
   obtain rfl:=QsJ (hg.symm.trans hg')
   obtain rfl:=QsJ (hty.symm.trans ht')
   unfold Lib.TabIs
   rw [hvar,← Lib.cells_of_tab ht he hce hct hd]
  ·exact ih q hr hx
end Go.Proofs.YtgoninfjneepfaaGreatDoorX
namespace Go.Proofs.YtgoninfjneepfaaGreatDoorX
open Go Go.RowKit Go.Proofs
set_option linter.unusedVariables false
set_option linter.unusedSectionVars false
def CellI (w:World) (g:Nat):Prop:=∃ m,w.cell? ⟨g,0,none⟩=some (.int .i64 m)
def CellE (w:World) (g:Nat):Prop:=∃ ev,w.cell? ⟨g,0,none⟩=some ev∧(ev= .nilIface∨∃ te pe,ev= .iface te pe)
theorem St.cellAt {w0 w:World} {Γ:List As} (h:St w0 Γ w) {g:Nat} {v:Value} (hc:w0.cell? ⟨g,0,none⟩=some v):w.cell? ⟨g,0,none⟩=some v:=by
 have hlt:g< w0.heap.size:=by
  rcases Nat.lt_or_ge g w0.heap.size with h'|h'
  ·exact h'
  ·simp [World.cell?,Array.getElem?_eq_none h'] at hc
 rw [cell_keep (h.below.block g hlt)]
 exact hc
theorem St.cellI {w0 w:World} {Γ:List As} (h:St w0 Γ w) {g:Nat} (hc:CellI w0 g):CellI w g:=by
 obtain ⟨m,hm⟩:=hc
 exact ⟨m,h.cellAt hm⟩
theorem St.cellE {w0 w:World} {Γ:List As} (h:St w0 Γ w) {g:Nat} (hc:CellE w0 g):CellE w g:=by
 obtain ⟨m,hm,hk⟩:=hc
 exact ⟨m,h.cellAt hm,hk⟩
def ErrIs (u:Value) (b:Bool):Prop:=(b=false∧u= .nilIface)∨(b=true∧∃ t p,u= .iface t p)
section
variable {P:Program} {w:World} {t:List Value} {o:Oper}
theorem QcI {x:Operand} {T T':TypeId} {u:Value} {b:Bool} (hop:o.op= .binOp .neq T x (.const .nilIface) T') (hT:P.underlying T=some (.interface (P.methodsAt T))) (hx:ev t x=u) (h:ErrIs u b):
 (execOp (ev t) o).run P w= .ok (.value (.bool b)) w:=by
 have hy:ev t (.const .nilIface)= .nilIface:=rfl
 rcases h with ⟨rfl,rfl⟩|⟨rfl,tt,p,rfl⟩
 ·have q:=run_neq_nil_nil (w:=w) T hT
  simp [execOp,hop,hx,hy,eqGuard_nil_constR,q]
 ·have q:=run_neq_held_nil (w:=w) T tt p hT
  simp [execOp,hop,hx,hy,eqGuard_at_iface,q]
end
theorem split_row {w0 w:World} {E:TypeId} {ys:List ByteArray} {n:Nat} (hn:ys.length=n) (hle:n≤4294967285) (hw:w=w0.alloc (.cells (ys.map Value.string).toArray E)):St w0 [Row E K.str (.slice (some ⟨w0.heap.size,0,none⟩) n n) ys] w:=by
 subst hw
 have hfl:(ys.map encS).flatten=ys.map Value.string:=by
  clear hn
  induction ys with
  |nil=>rfl
  |cons y ys ih=>rw [List.map_cons,List.flatten_cons,ih];rfl
 refine (St.refl w0).new (Turn.alloc w0 _) (F':=[w0.heap.size]) ⟨(ys.map encS).flatten,[],rfl,?_,Els.flat fkS ys⟩ (by simp) (by simp)
 have:=World.ownsRow_lit (e:=E) (size:=1) w0 (ys.map Value.string).toArray n (Nat.zero_le _) (by unfold maxLen;omega) (by simp [hn])
 rw [hfl,hn,show K.str.n=1 from rfl]
 simpa using this
theorem St.of_drew {w0 w:World} {n:Nat} (e:w=w0.drewN n):St w0 [] w:=by
 subst e
 exact St.of_below ⟨rfl,rfl,rfl,Nat.le_refl _,fun _ _=>rfl⟩
theorem St.of_bytes {w0 w:World} {ty:TypeId} (e:w=w0∨∃ t,w=Lib.bytesWorld w0 ty t):St w0 [] w:=by
 rcases e with rfl|⟨t,rfl⟩
 ·exact St.refl _
 ·exact St.of_below (Go.Joins.below_bytesWorld _ _ _ _ (Nat.le_refl _))
end Go.Proofs.YtgoninfjneepfaaGreatDoorX
