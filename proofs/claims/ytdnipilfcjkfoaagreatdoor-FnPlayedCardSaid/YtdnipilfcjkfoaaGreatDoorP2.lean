import Derived.Calls
import Derived.RowKit3
import Derived.Below
import Derived.WalkKit
namespace Go.Proofs.YtdnipilfcjkfoaaGreatDoorX
open Go Go.RowKit
set_option linter.unusedVariables false
def fr0 (f:FuncId):Frame:={ (default:Frame) with fn:=f,kind:= .normal }
def G (P:Program) (f:FuncId) (R:Ending→World→Prop) (todo:List Item) (t:List Value) (w:World):Prop:=
 ∀ cs,∃ e w' fr,R e w'∧Comes P (lone ((fr0 f).at ⟨t.toArray,[]⟩ todo) cs w) (lone fr cs w') e∧fr.fn=f∧fr.leaving P w' e
section
variable {P:Program} {f:FuncId} {R:Ending→World→Prop} {k:List Item} {t:List Value} {w:World}
theorem G.mono {R':Ending→World→Prop} (h:G P f R k t w) (hr:∀ e w,R e w→R' e w):G P f R' k t w:=
 fun cs=>let ⟨e,w',fr,r,rest⟩:=h cs;⟨e,w',fr,hr _ _ r,rest⟩
theorem G.of_step {k':List Item} {t':List Value} {w':World}
 (hs:∀ cs,step P (lone ((fr0 f).at ⟨t.toArray,[]⟩ k) cs w)= .next (lone ((fr0 f).at ⟨t'.toArray,[]⟩ k') cs w'))
 (h:G P f R k' t' w'):G P f R k t w:=by
 intro cs
 obtain ⟨e,w2,fr,r,hc,rest⟩:=h cs
 exact ⟨e,w2,fr,r,Comes.of_steps (.one (hs cs)) hc,rest⟩
theorem QaE (h:G P f R k t w):G P f R (.code .skip::k) t w:=h.of_step fun _=>step_skip
theorem QaH {id:Nat} (h:G P f R k t w):G P f R (.inBlock id::k) t w:=h.of_step fun _=>step_inBlock
theorem Qaf {x y:Code} (h:G P f R (.code x:: .code y::k) t w):G P f R (.code (.seq x y)::k) t w:=h.of_step fun _=>step_seq
theorem Qbz {id:Nat} {c:Code} (h:G P f R (.code c:: .inBlock id::k) t w):G P f R (.code (.block id c)::k) t w:=h.of_step fun _=>step_block
theorem Qdd {c:Code} (h:G P f R (.code c:: .inLoop c::k) t w):G P f R (.code (.loop c)::k) t w:=h.of_step fun _=>step_loop
theorem Qc0 {c:Code} (h:G P f R (.code c:: .inLoop c::k) t w):G P f R (.inLoop c::k) t w:=h.of_step fun _=>step_inLoop
theorem Qbq {id:Nat} {k':List Item} (e:exitTo id k=some k') (h:G P f R k' t w):G P f R (.code (.exit id)::k) t w:=h.of_step fun _=>step_exit e
theorem Qc1 {id:Nat} {ops:Array Oper} (h:G P f R (.inRegion ops (List.range ops.size)::k) t w):G P f R (.code (.region id ops false)::k) t w:=
 h.of_step fun _=>step_region
theorem QcD {id:Nat} {ops:Array Oper}
 (h:∀ s,G P f R (.inRegion ops (Region.schedule (P.follows .mixedOrders) ops s)::k) t { w with drawn:=w.drawn+1 }):G P f R (.code (.region id ops true)::k) t w:=
 (h _).of_step fun _=>step_region_draw
theorem Qab {ops:Array Oper} (h:G P f R k t w):G P f R (.inRegion ops []::k) t w:=h.of_step fun _=>step_region_end
def ev (t:List Value):Operand→Value
 | .tmp i=>t.getD i undef
 | .const v=>v
 | .global g=> .pointer (some ⟨g,0,none⟩)
 | .func f=> .func (.func f) #[] #[]
theorem ev_eq (t:List Value):Act.eval ⟨t.toArray,[]⟩=ev t:=by
 funext x;cases x<;>simp [Act.eval,ev,Array.getD_eq_getD_getElem?,List.getD]
def put (t:List Value):Option Tmp→Value→List Value
 |some d,v=>t.set d v
 |none,_=>t
theorem put_eq (t:List Value) (d:Option Tmp) (v:Value):Act.put ⟨t.toArray,[]⟩ d v=⟨(put t d v).toArray,[]⟩:=by
 cases d<;>simp [Act.put,put]
def yl (ops:Array Oper) (t:List Value) (i:Nat):Option Bool:=yielded ops t.toArray i
theorem QcU {c:Operand} {x y:Code} {b:Bool} (hc:ev t c= .bool b) (h:G P f R (.code (if b then x else y)::k) t w):G P f R (.code (.cond c x y)::k) t w:=
 h.of_step fun _=>step_cond (by rw [ev_eq];exact hc)
theorem Qam {c:Operand} {x y:Code} (hc:ev t c= .bool true) (h:G P f R (.code x::k) t w):G P f R (.code (.cond c x y)::k) t w:=QcU hc h
theorem Qap {c:Operand} {x y:Code} (hc:ev t c= .bool false) (h:G P f R (.code y::k) t w):G P f R (.code (.cond c x y)::k) t w:=QcU hc h
theorem Qaa {ops:Array Oper} {i:Nat} {rest:List Nat} {o:Oper} {v:Value} {w':World} (ho:ops[i]?=some o)
 (hw:Region.wanted o (yl ops t)=true) (hr:(execOp (ev t) o).run P w= .ok (.value v) w')
 (h:G P f R (.inRegion ops rest::k) (put t o.dst v) w'):G P f R (.inRegion ops (i::rest)::k) t w:=by
 refine h.of_step fun cs=>?_
 have hg:=stepG_op (P:=P) (b:=fr0 f) (a:=⟨t.toArray,[]⟩) (k:=k) (cs:=cs) (w:=w) (rest:=rest) ho hw
 refine step_lone_go ?_
 rw [← put_eq]
 have hfin:((fr0 f).at ⟨t.toArray,[]⟩ (.inRegion ops (i::rest)::k)).finish v=(fr0 f).at (Act.put ⟨t.toArray,[]⟩ o.dst v) (.inRegion ops rest::k):=by
  rw [Frame.finish_at,ho];rfl
 rw [hg,← hfin,ev_eq];simp [stepG.apply,hr]
theorem QcL {ops:Array Oper} {i:Nat} {rest:List Nat} {o:Oper} {w':World} (ho:ops[i]?=some o)
 (hw:Region.wanted o (yl ops t)=true) (hr:(execOp (ev t) o).run P w= .ok .skip w')
 (h:G P f R (.inRegion ops rest::k) (put t o.dst undef) w'):G P f R (.inRegion ops (i::rest)::k) t w:=by
 refine h.of_step fun cs=>?_
 have hg:=stepG_op (P:=P) (b:=fr0 f) (a:=⟨t.toArray,[]⟩) (k:=k) (cs:=cs) (w:=w) (rest:=rest) ho hw
 refine step_lone_go ?_
 rw [← put_eq]
 have hfin:((fr0 f).at ⟨t.toArray,[]⟩ (.inRegion ops (i::rest)::k)).finish undef=(fr0 f).at (Act.put ⟨t.toArray,[]⟩ o.dst undef) (.inRegion ops rest::k):=by
  rw [Frame.finish_at,ho];rfl
 rw [hg,← hfin,ev_eq];simp [stepG.apply,hr]
theorem Qad {ops:Array Oper} {i:Nat} {rest:List Nat} {o:Oper} (ho:ops[i]?=some o) (hw:Region.wanted o (yl ops t)=false)
 (h:G P f R (.inRegion ops rest::k) (put t o.dst undef) w):G P f R (.inRegion ops (i::rest)::k) t w:=by
 refine h.of_step fun cs=>?_
 have hs:=step_op_skip (P:=P) (b:=fr0 f) (a:=⟨t.toArray,[]⟩) (k:=k) (cs:=cs) (w:=w) (ops:=ops) (i:=i) (rest:=rest) (by simp only [ho,Option.map_some,Option.getD_some];exact hw)
 simp only [ho,Option.bind_some] at hs
 rw [← put_eq]
 exact hs
theorem Qdc {ops:Array Oper} {i:Nat} {rest:List Nat} {o:Oper} {g:FuncId} {args:Array Value} {w1:World} {R':Value→World→Prop} (ho:ops[i]?=some o)
 (hw:Region.wanted o (yl ops t)=true) (hr:(execOp (ev t) o).run P w= .ok (.enter g args) w1)
 (hc:Calls P g args w1 fun e w'=>∃ v,e= .returned v∧R' v w')
 (h:∀ v w',R' v w'→G P f R (.inRegion ops rest::k) (put t o.dst v) w'):G P f R (.inRegion ops (i::rest)::k) t w:=by
 intro cs
 have hg:=stepG_op (P:=P) (b:=fr0 f) (a:=⟨t.toArray,[]⟩) (k:=k) (cs:=cs) (w:=w) (rest:=rest) ho hw
 obtain ⟨e,w'',fr,⟨v,rfl,hR⟩,hsteps,_,hleave⟩:=hc ((fr0 f).at ⟨t.toArray,[]⟩ (.inRegion ops (i::rest)::k)::cs)
 have henter:step P (lone ((fr0 f).at ⟨t.toArray,[]⟩ (.inRegion ops (i::rest)::k)) cs w)=
  .next (lone (Frame.enter P g args .normal) ((fr0 f).at ⟨t.toArray,[]⟩ (.inRegion ops (i::rest)::k)::cs) w1):=
  step_lone_go (by rw [hg,ev_eq];simp [stepG.apply,hr,Frame.at])
 have hfin:((fr0 f).at ⟨t.toArray,[]⟩ (.inRegion ops (i::rest)::k)).finish v=(fr0 f).at (Act.put ⟨t.toArray,[]⟩ o.dst v) (.inRegion ops rest::k):=by
  rw [Frame.finish_at,ho];rfl
 obtain ⟨e2,w2,fr2,r2,hc2,rest2⟩:=h v w'' hR cs
 refine ⟨e2,w2,fr2,r2,Comes.of_steps ?_ hc2,rest2⟩
 have hl:=step_leave_returned (cs:=cs) (c:=(fr0 f).at ⟨t.toArray,[]⟩ (.inRegion ops (i::rest)::k)) hleave
 rw [hfin,put_eq] at hl
 exact .head henter (hsteps.trans (.one hl))
theorem Qax {fn:Func} {v:Value} (hf:P.funcs[f]?=some fn) (hr:(results fn t.toArray).run P w= .ok v w) (h:R (.returned v) w):G P f R (.code .ret::k) t w:=
 fun cs=>⟨.returned v,w,_,h, .one step_ret,rfl,rfl,rfl,rfl,fn,hf,hr⟩
end
theorem calls_of_g {P:Program} {f:FuncId} {fn:Func} {c:Code} {args:List Value} {w:World} {R:Ending→World→Prop} {n:Nat}
 (hf:P.funcs[f]?=some fn) (hb:fn.body=some c) (hn:fn.ntmps - args.length=n)
 (h:G P f R [.code c] (args++List.replicate n undef) w):Calls P f args.toArray w R:=by
 intro cs
 have henter:Frame.enter P f args.toArray .normal=(fr0 f).at ⟨(args++List.replicate n undef).toArray,[]⟩ [.code c]:=by
  subst hn
  simp [Frame.enter,Frame.at,hf,hb,fr0]
 rw [henter]
 exact h cs
end Go.Proofs.YtdnipilfcjkfoaaGreatDoorX
namespace Go.Proofs.YtdnipilfcjkfoaaGreatDoorX
open Go Go.RowKit
set_option linter.unusedVariables false
set_option linter.unusedSimpArgs false
structure As where
 on:List Nat→World→Prop
 loc:∀ {F:List Nat} {w w':World},(∀ b∈F,w'.heap[b]?=w.heap[b]?)→on F w→on F w'
 lt:∀ {F:List Nat} {w:World},on F w→∀ b∈F,b< w.heap.size
def Sep (w:World):List As→List Nat→Prop
 |[],F=>F=[]
 |A::Γ,F=>∃ F1 F2,F=F1++F2∧A.on F1 w∧Sep w Γ F2
theorem Sep.loc {w w':World}:∀ {Γ:List As} {F:List Nat},(∀ b∈F,w'.heap[b]?=w.heap[b]?)→Sep w Γ F→Sep w' Γ F
 |[],_,_,h=>h
 |A::Γ,_,hb,⟨F1,F2,e,h1,h2⟩=>by
  subst e
  exact ⟨F1,F2,rfl,A.loc (fun b h=>hb b (List.mem_append_left _ h)) h1,Sep.loc (fun b h=>hb b (List.mem_append_right _ h)) h2⟩
theorem Sep.lt {w:World}:∀ {Γ:List As} {F:List Nat},Sep w Γ F→∀ b∈F,b< w.heap.size
 |[],_,h=>by simp only [Sep] at h;subst h;simp
 |A::Γ,_,⟨F1,F2,e,h1,h2⟩=>by
  subst e
  intro b hb
  rcases List.mem_append.1 hb with h|h
  ·exact A.lt h1 b h
  ·exact Sep.lt h2 b h
theorem Sep.perm {w:World} {Γ Γ':List As} (h:Γ.Perm Γ'):∀ {F:List Nat},Sep w Γ F→∃ F',F.Perm F'∧Sep w Γ' F':=by
 induction h with
 |nil=>exact fun h=>⟨_,List.Perm.refl _,h⟩
 |cons A _ ih=>
  rintro F ⟨F1,F2,rfl,h1,h2⟩
  obtain ⟨F2',p,h2'⟩:=ih h2
  exact ⟨F1++F2',List.Perm.append_left _ p,F1,F2',rfl,h1,h2'⟩
 |swap A B Γ=>
  rintro F ⟨F1,_,rfl,h1,F2,F3,rfl,h2,h3⟩
  refine ⟨F2++(F1++F3),?_,F2,_,rfl,h2,F1,F3,rfl,h1,h3⟩
  rw [← List.append_assoc,← List.append_assoc]
  exact List.Perm.append_right _ List.perm_append_comm
 |trans _ _ ih1 ih2=>
  intro F h
  obtain ⟨F1,p1,h1⟩:=ih1 h
  obtain ⟨F2,p2,h2⟩:=ih2 h1
  exact ⟨F2,p1.trans p2,h2⟩
theorem Sep.append {w:World}:∀ {Γ Γ':List As} {F F':List Nat},Sep w Γ F→Sep w Γ' F'→Sep w (Γ++Γ') (F++F')
 |[],_,_,_,h,h'=>by simp only [Sep] at h;subst h;exact h'
 |A::Γ,_,_,_,⟨F1,F2,e,h1,h2⟩,h'=>by
  subst e
  exact ⟨F1,F2++_,by simp,h1,Sep.append h2 h'⟩
theorem Sep.split {w:World}:∀ {Γ Γ':List As} {F:List Nat},Sep w (Γ++Γ') F→∃ F1 F2,F=F1++F2∧Sep w Γ F1∧Sep w Γ' F2
 |[],_,F,h=>⟨[],F,rfl,rfl,h⟩
 |A::Γ,_,_,⟨F1,F2,e,h1,h2⟩=>by
  subst e
  obtain ⟨F3,F4,rfl,h3,h4⟩:=Sep.split h2
  exact ⟨F1++F3,F4,by simp,⟨F1,F3,rfl,h1,h3⟩,h4⟩
structure St (w0:World) (Γ:List As) (w:World):Prop where
 below:Below w0.heap.size w0 w
 sep:∃ F,Sep w Γ F∧F.Nodup∧∀ b∈F,w0.heap.size≤b
section
variable {w0 w w':World} {Γ Γ':List As} {A B:As}
theorem St.refl (w:World):St w [] w:=⟨Below.refl _ _,[],rfl,List.nodup_nil,by simp⟩
theorem St.perm (h:St w0 Γ w) (p:Γ.Perm Γ'):St w0 Γ' w:=by
 obtain ⟨hb,F,hs,hn,hl⟩:=h
 obtain ⟨F',pF,hs'⟩:=hs.perm p
 exact ⟨hb,F',hs',(pF.nodup_iff).1 hn,fun b hb=>hl b (pF.mem_iff.2 hb)⟩
theorem perm_pull:∀ (Γ:List As) (i:Nat) (A:As),Γ[i]?=some A→Γ.Perm (A::Γ.eraseIdx i)
 |[],_,_,h=>by simp at h
 |B::Γ,0,A,h=>by simp at h;subst h;exact List.Perm.refl _
 |B::Γ,i+1,A,h=>by
  have ih:=perm_pull Γ i A (by simpa using h)
  exact (List.Perm.cons B ih).trans (List.Perm.swap _ _ _)
theorem St.pull (h:St w0 Γ w) (i:Nat) {A:As} (hi:Γ[i]?=some A):St w0 (A::Γ.eraseIdx i) w:=h.perm (perm_pull Γ i A hi)
theorem St.drop (h:St w0 (A::Γ) w):St w0 Γ w:=by
 obtain ⟨hb,F,⟨F1,F2,rfl,h1,h2⟩,hn,hl⟩:=h
 exact ⟨hb,F2,h2,(List.nodup_append.1 hn).2.1,fun b hb=>hl b (List.mem_append_right _ hb)⟩
theorem St.all (h:St w0 Γ w):St w0 [] w:=⟨h.below,[],rfl,List.nodup_nil,by simp⟩
theorem St.take (h:St w0 (Γ++Γ') w):St w0 Γ w:=by
 obtain ⟨hb,F,hs,hn,hl⟩:=h
 obtain ⟨F1,F2,rfl,h1,_⟩:=hs.split
 exact ⟨hb,F1,h1,(List.nodup_append.1 hn).1,fun b hb=>hl b (List.mem_append_left _ hb)⟩
theorem St.drew (h:St w0 Γ w):St w0 Γ { w with drawn:=w.drawn+1 }:=by
 obtain ⟨hb,F,hs,hn,hl⟩:=h
 exact ⟨hb.drew,F,Sep.loc (w:=w) (fun _ _=>rfl) hs,hn,hl⟩
theorem St.call (h:St w0 Γ w) (hc:St w Γ' w'):St w0 (Γ'++Γ) w':=by
 obtain ⟨hb,F,hs,hn,hl⟩:=h
 obtain ⟨hb',F',hs',hn',hl'⟩:=hc
 have hlt:=hs.lt
 refine ⟨hb.trans (hb'.mono hb.size),F'++F,hs'.append (hs.loc fun b hF=>hb'.block b (hlt b hF)),?_,?_⟩
 ·refine List.nodup_append.2 ⟨hn',hn,?_⟩
  intro a ha b hF e
  subst e
  have:=hl' _ ha
  have:=hlt _ hF
  omega
 ·intro b hF
  rcases List.mem_append.1 hF with h|h
  ·exact Nat.le_trans hb.size (hl' b h)
  ·exact hl b h
structure Turn (F:List Nat) (w w':World):Prop where
 os:w'.os=w.os
 tape:w'.tape=w.tape
 output:w'.output=w.output
 size:w.heap.size≤w'.heap.size
 block:∀ b,b< w.heap.size→b∉F→w'.heap[b]?=w.heap[b]?
theorem Turn.refl (F:List Nat) (w:World):Turn F w w:=⟨rfl,rfl,rfl,Nat.le_refl _,fun _ _ _=>rfl⟩
theorem Turn.trans {F:List Nat} {a b c:World} (h:Turn F a b) (k:Turn F b c):Turn F a c:=
 ⟨k.os.trans h.os,k.tape.trans h.tape,k.output.trans h.output,Nat.le_trans h.size k.size,
  fun i hi hF=>(k.block i (Nat.lt_of_lt_of_le hi h.size) hF).trans (h.block i hi hF)⟩
theorem Turn.mono {F F':List Nat} (h:Turn F w w') (hF:∀ b∈F,b∈F'):Turn F' w w':=
 ⟨h.os,h.tape,h.output,h.size,fun b hb hn=>h.block b hb fun hf=>hn (hF b hf)⟩
theorem Turn.of_grown {row:Option Nat} (h:w.grownBy w' row):Turn row.toList w w':=
 ⟨h.os,h.tape,h.output,h.size,fun b hb hF=>h.block b hb fun e=>hF (by subst e;simp)⟩
theorem Turn.alloc (w:World) (o:Obj):Turn [] w (w.alloc o):=⟨rfl,rfl,rfl,by simp,fun b hb _=>Below.heap_alloc w o b hb⟩
theorem St.turn (h:St w0 (A::Γ) w)
 (hx:∀ F,A.on F w→F.Nodup→Turn F w w'∧∃ F',B.on F' w'∧F'.Nodup∧∀ b∈F',b∈F∨w.heap.size≤b):St w0 (B::Γ) w':=by
 obtain ⟨hb,_,⟨F1,F2,rfl,h1,h2⟩,hn,hl⟩:=h
 obtain ⟨hn1,hn2,hdis⟩:=List.nodup_append.1 hn
 obtain ⟨ht,F',h1',hn',hF'⟩:=hx F1 h1 hn1
 have hlt2:=h2.lt
 refine ⟨?_,F'++F2,⟨F',F2,rfl,h1',h2.loc fun b hF=>ht.block b (hlt2 b hF) fun hf=>hdis _ hf _ hF rfl⟩,?_,?_⟩
 ·refine hb.trans ⟨ht.os,ht.tape,ht.output,ht.size,fun b hb'=>ht.block b (Nat.lt_of_lt_of_le hb' hb.size) fun hf=>?_⟩
  have:=hl b (List.mem_append_left _ hf)
  omega
 ·refine List.nodup_append.2 ⟨hn',hn2,?_⟩
  intro a ha b hF e
  subst e
  rcases hF' _ ha with h|h
  ·exact hdis _ h _ hF rfl
  ·have:=hlt2 _ hF;omega
 ·intro b hF
  rcases List.mem_append.1 hF with h|h
  ·rcases hF' b h with h|h
   ·exact hl b (List.mem_append_left _ h)
   ·exact Nat.le_trans hb.size h
  ·exact hl b (List.mem_append_right _ h)
def As.emp:As:=⟨fun F _=>F=[],fun _ h=>h,fun h=>by subst h;simp⟩
theorem St.emp (h:St w0 Γ w):St w0 (As.emp::Γ) w:=by
 obtain ⟨hb,F,hs,hn,hl⟩:=h
 exact ⟨hb,F,⟨[],F,rfl,rfl,hs⟩,hn,hl⟩
theorem St.new (h:St w0 Γ w) (ht:Turn [] w w') {F':List Nat} (hB:B.on F' w') (hn:F'.Nodup) (hF:∀ b∈F',w.heap.size≤b):St w0 (B::Γ) w':=
 h.emp.turn fun F hF0 _=>by
  simp only [As.emp] at hF0
  subst hF0
  exact ⟨ht,F',hB,hn,fun b hb=> .inr (hF b hb)⟩
def As.star (A B:As):As:=⟨fun F w=>∃ F1 F2,F=F1++F2∧A.on F1 w∧B.on F2 w,
 fun h ⟨F1,F2,e,h1,h2⟩=>by subst e;exact ⟨F1,F2,rfl,A.loc (fun b hb=>h b (List.mem_append_left _ hb)) h1,B.loc (fun b hb=>h b (List.mem_append_right _ hb)) h2⟩,
 fun ⟨F1,F2,e,h1,h2⟩ b hb=>by subst e;exact (List.mem_append.1 hb).elim (A.lt h1 b) (B.lt h2 b)⟩
theorem St.part (h:St w0 (A.star B::Γ) w):St w0 (A::B::Γ) w:=by
 obtain ⟨hb,_,⟨_,F3,rfl,⟨F1,F2,rfl,h1,h2⟩,h3⟩,hn,hl⟩:=h
 exact ⟨hb,F1++(F2++F3),⟨F1,F2++F3,rfl,h1,F2,F3,rfl,h2,h3⟩,by rw [← List.append_assoc];exact hn,by rw [← List.append_assoc];exact hl⟩
theorem St.head (h:St w0 (A::Γ) w):∃ F,A.on F w∧F.Nodup:=by
 obtain ⟨hb,_,⟨F1,F2,rfl,h1,h2⟩,hn,hl⟩:=h
 exact ⟨F1,h1,(List.nodup_append.1 hn).1⟩
theorem St.imp (h:St w0 (A::Γ) w) (hi:∀ F,A.on F w→F.Nodup→∃ F',B.on F' w∧F'.Nodup∧∀ b∈F',b∈F):St w0 (B::Γ) w:=
 h.turn fun F hF hn=>by
  obtain ⟨F',hB,hn',hs⟩:=hi F hF hn
  exact ⟨Turn.refl _ _,F',hB,hn',fun b hb=> .inl (hs b hb)⟩
end
def Cells (b:Nat) (cs:List Value) (E:TypeId):As:=
 ⟨fun F w=>F=[b]∧w.heap[b]?=some (.cells cs.toArray E (0,0)),fun h ⟨e,hb⟩=>by subst e;exact ⟨rfl,by rw [h b (by simp)];exact hb⟩,
  fun ⟨e,hb⟩=>by subst e;simp;exact (Array.getElem?_eq_some_iff.1 hb).1⟩
structure K (α:Type) where
 n:Nat
 own:List Nat→World→List Value→α→Prop
 rd:World→List Value→α→Prop
 loc:∀ {F:List Nat} {w w':World} {cs:List Value} {x:α},(∀ b∈F,w'.heap[b]?=w.heap[b]?)→own F w cs x→own F w' cs x
 lt:∀ {F:List Nat} {w:World} {cs:List Value} {x:α},own F w cs x→∀ b∈F,b< w.heap.size
 keep:∀ {w w':World} {cs:List Value} {x:α},(∀ b,b< w.heap.size→w'.heap[b]?=w.heap[b]?)→w.heap.size≤w'.heap.size→rd w cs x→rd w' cs x
 see:∀ {F:List Nat} {w:World} {cs:List Value} {x:α},own F w cs x→rd w cs x
 len:∀ {w:World} {cs:List Value} {x:α},rd w cs x→cs.length=n
 one:∀ {w:World} {cs:List Value} {x:α},rd w cs x→∀ v∈cs,v.oneCell'=true
def K.fl {α:Type} (n:Nat) (enc:α→List Value) (hl:∀ x,(enc x).length=n) (h1:∀ x,∀ v∈enc x,v.oneCell'=true):K α:=
 { n,own:=fun F _ cs x=>F=[]∧cs=enc x,rd:=fun _ cs x=>cs=enc x,loc:=fun _ h=>h,lt:=fun ⟨e,_⟩=>by subst e;simp,keep:=fun _ _ h=>h,see:=fun h=>h.2,
   len:=fun h=>by subst h;exact hl _,one:=fun h=>by subst h;exact h1 _ }
structure Flat {α:Type} (k:K α) (enc:α→List Value):Prop where
 own:∀ {F w cs x},k.own F w cs x↔F=[]∧cs=enc x
 rd:∀ {w cs x},k.rd w cs x↔cs=enc x
 len:∀ x,(enc x).length=k.n
 one:∀ x,∀ v∈enc x,v.oneCell'=true
theorem Flat.fl {α:Type} {n:Nat} {enc:α→List Value} {hl h1}:Flat (K.fl (α:=α) n enc hl h1) enc:=
 ⟨Iff.rfl,Iff.rfl,hl,h1⟩
def K.int (q:IntKind):K Int:=K.fl 1 (fun x=>[.int q x]) (fun _=>rfl) (by simp [Value.oneCell'])
def K.bool:K Bool:=K.fl 1 (fun x=>[.bool x]) (fun _=>rfl) (by simp [Value.oneCell'])
def K.str:K ByteArray:=K.fl 1 (fun x=>[.string x]) (fun _=>rfl) (by simp [Value.oneCell'])
inductive Els {α:Type} (k:K α) (w:World):List Nat→List Value→List α→Prop
 |nil:Els k w [] [] []
 |cons {F1 F2 c cs x xs}:k.own F1 w c x→Els k w F2 cs xs→Els k w (F1++F2) (c++cs) (x::xs)
section
variable {α:Type} {k:K α} {w w':World}
theorem Els.loc {F cs xs} (h:Els k w F cs xs) (hF:∀ b∈F,w'.heap[b]?=w.heap[b]?):Els k w' F cs xs:=by
 induction h with
 |nil=>exact .nil
 |cons h _ ih=>exact .cons (k.loc (fun b hb=>hF b (List.mem_append_left _ hb)) h) (ih fun b hb=>hF b (List.mem_append_right _ hb))
theorem Els.lt {F cs xs} (h:Els k w F cs xs):∀ b∈F,b< w.heap.size:=by
 induction h with
 |nil=>simp
 |cons h _ ih=>
  intro b hb
  rcases List.mem_append.1 hb with hb|hb
  ·exact k.lt h b hb
  ·exact ih b hb
theorem Els.len {F cs xs} (h:Els k w F cs xs):cs.length=xs.length*k.n:=by
 induction h with
 |nil=>simp
 |cons h _ ih=>rw [List.length_append,ih,k.len (k.see h),List.length_cons,Nat.succ_mul];omega
theorem Els.one {F cs xs} (h:Els k w F cs xs):∀ v∈cs,v.oneCell'=true:=by
 induction h with
 |nil=>simp
 |cons h _ ih=>
  intro v hv
  rcases List.mem_append.1 hv with hv|hv
  ·exact k.one (k.see h) v hv
  ·exact ih v hv
theorem Els.append {F cs xs F' cs' xs'} (h:Els k w F cs xs) (h':Els k w F' cs' xs'):Els k w (F++F') (cs++cs') (xs++xs'):=by
 induction h with
 |nil=>exact h'
 |cons h _ ih=>simp only [List.append_assoc,List.cons_append];exact .cons h ih
theorem Els.flat {enc:α→List Value} (hk:Flat k enc):∀ (xs:List α),Els k w [] (xs.map enc).flatten xs
 |[]=> .nil
 |x::xs=>by
  have:=Els.cons (k:=k) (w:=w) (F1:=[]) (c:=enc x) (x:=x) (hk.own.2 ⟨rfl,rfl⟩) (Els.flat hk xs)
  simpa using this
theorem Els.of_flat {enc:α→List Value} (hk:Flat k enc) {F cs xs} (h:Els k w F cs xs):F=[]∧cs=(xs.map enc).flatten:=by
 induction h with
 |nil=>simp
 |cons h _ ih=>obtain ⟨rfl,rfl⟩:=hk.own.1 h;obtain ⟨rfl,rfl⟩:=ih;simp
theorem Els.get {F cs xs} (h:Els k w F cs xs) (i:Nat) (hi:i< xs.length):∃ c,k.rd w c xs[i]∧∀ j u,c[j]?=some u→cs[i*k.n+j]?=some u:=by
 induction h generalizing i with
 |nil=>simp at hi
 |@cons F1 F2 c cs x xs h _ ih=>
  have hl:=k.len (k.see h)
  cases i with
  |zero=>
   refine ⟨c,k.see h,fun j u hj=>?_⟩
   have:j< c.length:=(List.getElem?_eq_some_iff.1 hj).1
   rw [Nat.zero_mul,Nat.zero_add,List.getElem?_append_left this]
   exact hj
  |succ i=>
   obtain ⟨c',h1,h2⟩:=ih i (by simpa using hi)
   refine ⟨c',h1,fun j u hj=>?_⟩
   rw [List.getElem?_append_right (by rw [hl,Nat.succ_mul];omega),hl]
   have:(i+1)*k.n+j - k.n=i*k.n+j:=by rw [Nat.succ_mul];omega
   rw [this]
   exact h2 j u hj
end
def Row {α:Type} (E:TypeId) (k:K α) (v:Value) (xs:List α):As:=
 ⟨fun F w=>∃ cs F',F=v.ownBlock.toList++F'∧w.ownsRow 0 E k.n v xs.length cs∧Els k w F' cs xs,
  fun {F w w'} hF ⟨cs,F',e,h,he⟩=>by
   subst e
   refine ⟨cs,F',rfl,?_,he.loc fun b hb=>hF b (List.mem_append_right _ hb)⟩
   refine ⟨h.1,?_⟩
   rcases h.2 with hn|⟨g,cap,cur,hv,h0,hg,rest⟩
   ·exact .inl hn
   ·refine .inr ⟨g,cap,cur,hv,h0,?_,rest⟩
    rw [hF g (by subst hv;simp [Value.ownBlock])]
    exact hg,
  fun {F w} ⟨cs,F',e,h,he⟩ b hb=>by
   subst e
   rcases List.mem_append.1 hb with hb|hb
   ·exact (h.lt b (by simpa using hb)).2
   ·exact he.lt b hb⟩
def RdRow {α:Type} (k:K α) (w:World) (v:Value) (xs:List α):Prop:=
 ∃ A cap,v= .slice A xs.length cap∧xs.length≤cap∧∀ (i:Nat) (h:i< xs.length),∃ ad cs,A=some ad∧ad.block< w.heap.size∧(∀ j u,cs[j]?=some u→w.cell? (ad.add (i*k.n+j))=some u)∧k.rd w cs xs[i]
theorem cell_keep {w w':World} {a:Addr} (h:w'.heap[a.block]?=w.heap[a.block]?):w'.cell? a=w.cell? a:=by simp [World.cell?,h]
theorem RdRow.keep {α:Type} {k:K α} {w w':World} {v:Value} {xs:List α} (h:RdRow k w v xs) (hb:∀ b,b< w.heap.size→w'.heap[b]?=w.heap[b]?) (hs:w.heap.size≤w'.heap.size):RdRow k w' v xs:=by
 obtain ⟨A,cap,e,hc,he⟩:=h
 refine ⟨A,cap,e,hc,fun i hi=>?_⟩
 obtain ⟨ad,cs,hA,hlt,hcell,hr⟩:=he i hi
 refine ⟨ad,cs,hA,Nat.lt_of_lt_of_le hlt hs,fun j u hj=>?_,k.keep hb hs hr⟩
 rw [cell_keep (hb _ (by unfold Addr.add;split<;>exact hlt))]
 exact hcell j u hj
theorem ownsRow.rd {α:Type} {E:TypeId} {k:K α} {w:World} {v:Value} {xs:List α} {cs:List Value} {F:List Nat} (h:w.ownsRow 0 E k.n v xs.length cs) (he:Els k w F cs xs):RdRow k w v xs:=by
 rcases h.2 with ⟨rfl,h0⟩|⟨g,cap,cur,rfl,_,hg,hnc,hcm,hcs,htake⟩
 ·refine ⟨none,0,by rw [h0],by omega,fun i hi=>?_⟩
  omega
 ·refine ⟨some ⟨g,0,none⟩,cap,rfl,hnc,fun i hi=>?_⟩
  obtain ⟨c,hr,hc⟩:=he.get i hi
  refine ⟨⟨g,0,none⟩,c,rfl,(Array.getElem?_eq_some_iff.1 hg).1,fun j u hj=>?_,hr⟩
  have h1:=hc j u hj
  have h2:=h.cells (g:=g) (by rfl) _ u h1
  exact h2
theorem St.row_rd {α:Type} {E:TypeId} {k:K α} {w0 w:World} {v:Value} {xs:List α} {Γ:List As} (h:St w0 (Row E k v xs::Γ) w):RdRow k w v xs:=by
 obtain ⟨F,⟨cs,F',_,h1,h2⟩,_⟩:=h.head
 exact ownsRow.rd h1 h2
theorem St.rd {α:Type} {k:K α} {w0 w:World} {v:Value} {xs:List α} {Γ:List As} (h:St w0 Γ w) (hr:RdRow k w0 v xs):RdRow k w v xs:=
 hr.keep (fun b hb=>h.below.block b hb) h.below.size
def K.sl {α:Type} (E:TypeId) (k:K α):K (List α):=
 { n:=1,own:=fun F w cs xs=>∃ v,cs=[v]∧(Row E k v xs).on F w,
   rd:=fun w cs xs=>∃ v,cs=[v]∧RdRow k w v xs
   loc:=fun hF ⟨v,e,h⟩=>⟨v,e,(Row E k v _).loc hF h⟩,lt:=fun ⟨v,_,h⟩=>(Row E k v _).lt h
   keep:=fun hb hs ⟨v,e,h⟩=>⟨v,e,h.keep hb hs⟩
   see:=fun ⟨v,e,cs',F',_,h1,h2⟩=>⟨v,e,ownsRow.rd h1 h2⟩
   len:=fun ⟨v,e,_⟩=>by subst e;rfl
   one:=fun ⟨v,e,A,cap,e',_⟩=>by subst e;subst e';simp [Value.oneCell'] }
end Go.Proofs.YtdnipilfcjkfoaaGreatDoorX
