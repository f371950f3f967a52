import Derived.Maps.AppendAt
import Derived.Laws.CopyRow
import Derived.BigFrame
import Derived.Laws.StructEq
import Derived.MapKept
import Derived.Lib.AppendZeros
import Derived.Sort.Row
import Derived.Sort.Grow
import Derived.ChangeKeysEq
import Derived.Shelf.Strings.BuilderK
import Derived.Test.YtdnipilfcjkfoaaGreatDoorP2
import Derived.Test.YtdnipilfcjkfoaaGreatDoorP1
namespace Go.Proofs.YtdnipilfcjkfoaaGreatDoorX
open Go Go.RowKit
set_option linter.unusedVariables false
set_option linter.unusedSimpArgs false
set_option linter.unusedSectionVars false
theorem run_value {P:Program} {s:Sem Value} {v:Value} {w w':World} (h:s.run P w= .ok v w'):(do pure (Next.value (← s)):Sem Next).run P w= .ok (.value v) w':=by
 rw [Sem.run_bind,h];rfl
theorem run_unit {P:Program} {s:Sem Unit} {w w':World} (h:s.run P w= .ok () w'):(do s;pure Next.skip:Sem Next).run P w= .ok .skip w':=by
 rw [Sem.run_bind,h];rfl
section
variable {P:Program} {f:FuncId} {R:Ending→World→Prop} {k:List Item} {t:List Value} {w0 w:World} {Γ:List As} {ops:Array Oper} {i:Nat} {rest:List Nat} {o:Oper}
theorem QaA {B:Bool} (ho:ops[i]?=some o) (hw:Region.wanted o (yl ops t)=true) (hr:(execOp (ev t) o).run P w= .ok (.value (.bool B)) w)
 (h1:B=true→G P f R (.inRegion ops rest::k) (put t o.dst (.bool true)) w) (h2:B=false→G P f R (.inRegion ops rest::k) (put t o.dst (.bool false)) w):
 G P f R (.inRegion ops (i::rest)::k) t w:=by
 cases B
 ·exact Qaa ho hw hr (h2 rfl)
 ·exact Qaa ho hw hr (h1 rfl)
theorem QaZ {c:Code} (I:Nat→List Value→World→Prop) (n:Nat) (h0:I n t w) (hz:∀ t w,¬ I 0 t w)
 (hs:∀ m,(∀ t w,I m t w→G P f R (.inLoop c::k) t w)→∀ t w,I (m+1) t w→G P f R (.code c:: .inLoop c::k) t w):G P f R (.code (.loop c)::k) t w:=by
 have key:∀ m t w,I m t w→G P f R (.code c:: .inLoop c::k) t w:=by
  intro m
  induction m with
  |zero=>exact fun t w h=>(hz t w h).elim
  |succ m ih=>exact hs m fun t w h=>Qc0 (ih t w h)
 exact Qdd (key n t w h0)
theorem QaF {id:Nat} {c:Code} (J:List Value→World→Prop) (ha:∀ t w,J t w→G P f R k t w)
 (hb:(∀ t w,J t w→G P f R k t w)→G P f R (.code c:: .inBlock id::k) t w):G P f R (.code (.block id c)::k) t w:=Qbz (hb ha)
theorem St.at (h:St w0 Γ w) (j:Nat) {A:As} (hj:Γ[j]?=some A):∃ F,A.on F w:=by
 obtain ⟨F,hA,_⟩:=(h.pull j hj).head
 exact ⟨F,hA⟩
theorem St.cells (h:St w0 Γ w) (j:Nat) {b E cs} (hj:Γ[j]?=some (Cells b cs E)):w.heap[b]?=some (.cells cs.toArray E (0,0)):=by
 obtain ⟨F,_,hb⟩:=h.at j hj
 exact hb
theorem St.row (h:St w0 Γ w) (j:Nat) {α:Type} {E} {κ:K α} {v xs} (hj:Γ[j]?=some (Row E κ v xs)):RdRow κ w v xs:=(h.pull j hj).row_rd
def CellsAt (w:World) (p:Addr) (es:List Value):Prop:=∀ j u,es[j]?=some u→w.cell? (p.add j)=some u
theorem cellsAt_block {b off n:Nat} {cs:List Value} {E:TypeId} {fz:Nat×Nat} (hb:w.heap[b]?=some (.cells cs.toArray E fz)) (n:Nat):CellsAt w ⟨b,off,none⟩ ((cs.drop off).take n):=by
 intro j u hj
 rw [List.getElem?_take] at hj
 split at hj
 ·rw [List.getElem?_drop] at hj
  have:(⟨b,off,none⟩:Addr).add j=⟨b,off+j,none⟩:=by unfold Addr.add;split<;>simp_all
  rw [this,cell_of_row w b (off+j) cs.toArray E fz hb]
  simpa using hj
 ·cases hj
theorem Qbx (h:St w0 Γ w) (ho:ops[i]?=some o) (hw:Region.wanted o (yl ops t)=true) {E:TypeId} {x:Operand} {cs:List Value} (hop:o.op= .box E x)
 (hv:(ev t x).cells=cs.toArray) (hk:∀ b w1,St w0 (Cells b cs E::Γ) w1→G P f R (.inRegion ops rest::k) (put t o.dst (.pointer (some ⟨b,0,none⟩))) w1):
 G P f R (.inRegion ops (i::rest)::k) t w:=by
 refine Qaa (v:= .pointer (some ⟨w.heap.size,0,none⟩)) (w':=w.alloc (.cells cs.toArray E)) ho hw ?_ (hk _ _ ?_)
 ·simp only [execOp,hop]
  exact run_value (by simp [Instr.box,newVar,newRow,hv])
 ·exact h.new (Turn.alloc w _) (F':=[w.heap.size]) ⟨rfl,heap_alloc_new w _⟩ (by simp) (by simp)
theorem Qa5 (h:St w0 Γ w) (ho:ops[i]?=some o) (hw:Region.wanted o (yl ops t)=true) {E:TypeId} {z:Value} {cs:List Value} (hop:o.op= .alloc E)
 (hz:∀ w,(zeroValue E).run P w= .ok z w) (hv:z.cells=cs.toArray) (hk:∀ b w1,St w0 (Cells b cs E::Γ) w1→G P f R (.inRegion ops rest::k) (put t o.dst (.pointer (some ⟨b,0,none⟩))) w1):
 G P f R (.inRegion ops (i::rest)::k) t w:=by
 refine Qaa (v:= .pointer (some ⟨w.heap.size,0,none⟩)) (w':=w.alloc (.cells cs.toArray E)) ho hw ?_ (hk _ _ ?_)
 ·simp only [execOp,hop]
  exact run_value (by simp [Instr.alloc,hz,newVar,newRow,hv])
 ·exact h.new (Turn.alloc w _) (F':=[w.heap.size]) ⟨rfl,heap_alloc_new w _⟩ (by simp) (by simp)
theorem run_loadVar_one {T:TypeId} {p:Addr} {v:Value} (ha:(isAgg T).run P w= .ok false w) (hp:CellsAt w p [v]):(loadVar T p).run P w= .ok v w:=by
 have h0:=hp 0 v rfl
 have:p.add 0=p:=rfl
 rw [this] at h0
 simp [loadVar,ha,h0]
theorem run_loadVar_agg {T:TypeId} {p:Addr} {es:List Value} (ha:(isAgg T).run P w= .ok true w) (hsz:(sizeOf T).run P w= .ok es.length w) (hp:CellsAt w p es):
 (loadVar T p).run P w= .ok (.agg es.toArray) w:=by
 have h1:=run_loadCells_list (P:=P) (w:=w) p es hp
 simp [loadVar,ha,hsz,h1]
theorem Qaw (ho:ops[i]?=some o) (hw:Region.wanted o (yl ops t)=true) {T:TypeId} {x:Operand} {p:Addr} {v:Value} (hop:o.op= .load T x) (hx:ev t x= .pointer (some p))
 (ha:∀ w,(isAgg T).run P w= .ok false w) (hp:CellsAt w p [v]) (hk:G P f R (.inRegion ops rest::k) (put t o.dst v) w):G P f R (.inRegion ops (i::rest)::k) t w:=by
 refine Qaa (v:=v) ho hw ?_ hk
 simp only [execOp,hop]
 exact run_value (by simp [Instr.loadAt,hx,Instr.sureAddr,run_loadVar_one (ha w) hp])
theorem QaG (ho:ops[i]?=some o) (hw:Region.wanted o (yl ops t)=true) {T:TypeId} {x:Operand} {p:Addr} {es:List Value} (hop:o.op= .load T x) (hx:ev t x= .pointer (some p))
 (ha:∀ w,(isAgg T).run P w= .ok true w) {n:Nat} (hsz:∀ w,(sizeOf T).run P w= .ok n w) (hn:es.length=n) (hp:CellsAt w p es)
 (hk:G P f R (.inRegion ops rest::k) (put t o.dst (.agg es.toArray)) w):G P f R (.inRegion ops (i::rest)::k) t w:=by
 subst hn
 refine Qaa (v:= .agg es.toArray) ho hw ?_ hk
 simp only [execOp,hop]
 exact run_value (by simp [Instr.loadAt,hx,Instr.sureAddr,run_loadVar_agg (ha w) (hsz w) hp])
theorem turn_setRow {g:Nat} {cs:Array Value}:Turn [g] w (w.setRow g cs):=
 ⟨rfl,rfl,rfl,by simp,fun b hb hF=>setRow_other w g b cs (by simpa using hF)⟩
theorem Qck {b off:Nat} {cs:List Value} {E:TypeId} (h:St w0 (Cells b cs E::Γ) w) (ho:ops[i]?=some o) (hw:Region.wanted o (yl ops t)=true) {T:TypeId} {a x:Operand} {vs cs':List Value}
 (hop:o.op= .store T a x) (ha:ev t a= .pointer (some ⟨b,off,none⟩)) (hv:(ev t x).cells=vs.toArray) {n:Nat} (hsz:∀ w,(sizeOf T).run P w= .ok n w) (hn:vs.length=n)
 (hfit:off+vs.length≤cs.length) (h1:∀ v∈vs,v.oneCell'=true) (hcs:cs.take off++vs++cs.drop (off+vs.length)=cs')
 (hk:∀ w1,St w0 (Cells b cs' E::Γ) w1→G P f R (.inRegion ops rest::k) (put t o.dst undef) w1):G P f R (.inRegion ops (i::rest)::k) t w:=by
 subst hn
 subst hcs
 obtain ⟨F,⟨rfl,hb⟩,_⟩:=h.head
 have hr:=run_storeCells_at P b off E vs 0 cs.toArray w hb (by simpa using hfit) h1
 refine QcL (w':=w.setRow b (cs.take off++vs++cs.drop (off+vs.length)).toArray) ho hw ?_ (hk _ ?_)
 ·simp only [execOp,hop]
  exact run_unit (by simp [Instr.storeAt,ha,Instr.sureAddr,storeVar,hv,hsz,hr])
 ·refine h.turn fun F hF _=>?_
  obtain ⟨rfl,hb'⟩:=hF
  exact ⟨turn_setRow,[b],⟨rfl,setRow_heap w b cs.toArray _ E (0,0) hb⟩,by simp,fun b hb=> .inl hb⟩
theorem QcR {α:Type} {κ:K α} {v:Value} {xs:List α} (hr:RdRow κ w v xs) (ho:ops[i]?=some o) (hw:Region.wanted o (yl ops t)=true) {T E:TypeId} {x ix:Operand} {q:IntKind} {n:Int}
 (hop:o.op= .indexAddr T x ix) (hx:ev t x=v) (hi:ev t ix= .int q n) (h0:0≤n) (h1:n< xs.length) (hT:P.underlying T=some (.slice E)) (hsz:∀ w,(sizeOf E).run P w= .ok κ.n w)
 (hk:∀ p es,CellsAt w p es→κ.rd w es (xs[n.toNat]'(by omega))→p.block< w.heap.size→(∀ b N c,v= .slice (some ⟨b,0,none⟩) N c→p=⟨b,n.toNat*κ.n,none⟩)→
  G P f R (.inRegion ops rest::k) (put t o.dst (.pointer (some p))) w):G P f R (.inRegion ops (i::rest)::k) t w:=by
 obtain ⟨A,cap,rfl,hc,he⟩:=hr
 obtain ⟨ad,es,rfl,hlt,hcell,hrd⟩:=he n.toNat (by omega)
 refine Qaa (v:= .pointer (some (ad.add (n.toNat*κ.n)))) ho hw ?_ (hk _ es ?_ hrd ?_ ?_)
 ·simp only [execOp,hop]
  exact run_value (by simp [Instr.indexAt,hx,hi,asIntOf,run_underlying hT,h0,h1,hsz])
 ·intro j u hj
  have:(ad.add (n.toNat*κ.n)).add j=ad.add (n.toNat*κ.n+j):=by
   unfold Addr.add
   by_cases e1:n.toNat*κ.n=0<;>by_cases e2:j=0<;>simp [e1,e2]
   ·omega
  rw [this]
  exact hcell j u hj
 ·unfold Addr.add;split<;>exact hlt
 ·intro b N c e
  cases e
  unfold Addr.add
  split
  ·simp [*]
  ·simp
theorem Qbp {α:Type} {κ:K α} {v:Value} {xs:List α} (hr:RdRow κ w v xs) (ho:ops[i]?=some o) (hw:Region.wanted o (yl ops t)=true) {ty:TypeId} {x:Operand}
 (hop:o.op= .call { callee:= .builtin .len,args:=#[x],argTypes:=#[ty] }) {E:TypeId} (hT:P.underlying ty=some (.slice E)) (hx:ev t x=v) (hk:G P f R (.inRegion ops rest::k) (put t o.dst (.int .i64 xs.length)) w):
 G P f R (.inRegion ops (i::rest)::k) t w:=by
 obtain ⟨A,cap,rfl,hc,he⟩:=hr
 refine Qaa (v:= .int .i64 xs.length) ho hw ?_ hk
 simp [execOp,hop,resolve,hx,invoke,builtin,Builtin.len_,goInt,run_underlying hT]
theorem QcS {α:Type} {κ:K α} {enc:α→List Value} (fk:Flat κ enc) {v:Value} {xs:List α} {E:TypeId} (h:St w0 (Row E κ v xs::Γ) w) (ho:ops[i]?=some o) (hw:Region.wanted o (yl ops t)=true)
 {T:TypeId} {a x:Operand} {y:α} {p:Addr} {n:Nat} (hop:o.op= .store T a x) (ha:ev t a= .pointer (some p)) (hp:∀ b N c,v= .slice (some ⟨b,0,none⟩) N c→p=⟨b,n*κ.n,none⟩)
 (hn:n< xs.length) (hv:(ev t x).cells=(enc y).toArray) (hsz:∀ w,(sizeOf T).run P w= .ok κ.n w)
 (hk:∀ w1,St w0 (Row E κ v (xs.set n y)::Γ) w1→G P f R (.inRegion ops rest::k) (put t o.dst undef) w1):G P f R (.inRegion ops (i::rest)::k) t w:=by
 obtain ⟨F,⟨cs,F',rfl,how,hel⟩,_⟩:=h.head
 rcases how.2 with ⟨rfl,h0⟩|⟨g,cap,cur,rfl,hbg,hg,hnc,hcm,hcs,htake⟩
 ·omega
 ·have hlen:=fk.len y
  obtain rfl:=hp _ _ _ rfl
  have hb1:n*κ.n+κ.n≤xs.length*κ.n:=by rw [← Nat.succ_mul];exact Nat.mul_le_mul_right _ hn
  have hb2:xs.length*κ.n≤cap*κ.n:=Nat.mul_le_mul_right _ hnc
  have hr:=run_storeCells_at P g (n*κ.n) E (enc y) 0 cur w hg (by rw [hlen,hcs];omega) (fk.one y)
  refine QcL (w':=w.setRow g (cur.toList.take (n*κ.n)++enc y++cur.toList.drop (n*κ.n+(enc y).length)).toArray) ho hw ?_ (hk _ ?_)
  ·simp only [execOp,hop]
   exact run_unit (by simp [Instr.storeAt,ha,Instr.sureAddr,storeVar,hv,hsz,hlen,hr])
  ·refine h.turn fun F hF hnd=>?_
   obtain ⟨cs2,F2,rfl,how2,hel2⟩:=hF
   obtain ⟨rfl,rfl⟩:=Els.of_flat fk hel2
   refine ⟨Turn.mono turn_setRow (by simp [Value.ownBlock]),_,⟨((xs.set n y).map enc).flatten,[],rfl,⟨?_, .inr ⟨g,cap,_,by simp,hbg,setRow_heap w g cur _ E (0,0) hg,by simpa using hnc,hcm,?_,?_⟩⟩,Els.flat fk _⟩,by simp [Value.ownBlock],fun b hb=> .inl (by simpa using hb)⟩
   ·exact (Els.flat (w:=w) fk (xs.set n y)).len
   ·simp only [List.size_toArray,List.length_append,List.length_take,List.length_drop,Array.length_toList,hlen,hcs]
    omega
   ·have hold:(xs.map enc).flatten=cur.toList.take (xs.length*κ.n):=by
     have e2:=how2.2
     rcases e2 with ⟨hv2,_⟩|⟨g2,cap2,cur2,hv2,_,hg2,_,_,_,ht2⟩
     ·simp at hv2
     ·simp only [Value.slice.injEq,Option.some.injEq,Addr.mk.injEq,and_true,true_and] at hv2
      obtain ⟨rfl,rfl⟩:=hv2
      rw [hg] at hg2
      simp only [Option.some.injEq,Obj.cells.injEq,and_true] at hg2
      subst hg2
      exact ht2.symm
    have hfl:∀ (l:List α),(l.map enc).flatten.length=l.length*κ.n:=fun l=>(Els.flat (w:=w) fk l).len
    have hsplit:xs=xs.take n++xs[n]::xs.drop (n+1):=by simp
    have e1:cur.toList.take (n*κ.n)=((xs.take n).map enc).flatten:=by
     have:cur.toList.take (n*κ.n)=(cur.toList.take (xs.length*κ.n)).take (n*κ.n):=by rw [List.take_take];congr 1;omega
     rw [this,← hold]
     conv=>lhs;rw [hsplit]
     rw [List.map_append,List.flatten_append,List.take_left']
     rw [hfl,List.length_take,Nat.min_eq_left (by omega)]
    have e2:(cur.toList.drop (n*κ.n+κ.n)).take (xs.length*κ.n - (n*κ.n+κ.n))=((xs.drop (n+1)).map enc).flatten:=by
     have:(cur.toList.drop (n*κ.n+κ.n)).take (xs.length*κ.n - (n*κ.n+κ.n))=(cur.toList.take (xs.length*κ.n)).drop (n*κ.n+κ.n):=by rw [List.drop_take]
     rw [this,← hold]
     conv=>lhs;rw [hsplit]
     rw [List.map_append,List.flatten_append,List.map_cons,List.flatten_cons,← List.append_assoc,List.drop_left']
     rw [List.length_append,hfl,fk.len,List.length_take,Nat.min_eq_left (by omega)]
    have hset:xs.set n y=xs.take n++y::xs.drop (n+1):=by rw [List.set_eq_take_append_cons_drop,if_pos hn]
    rw [hlen,List.length_set,hset,List.map_append,List.flatten_append,List.map_cons,List.flatten_cons,← e1,← e2]
    simp only [List.append_assoc]
    have hcl:cur.toList.length=cap*κ.n:=by simpa using hcs
    rw [List.take_append,List.take_append,List.take_take]
    have l1:(cur.toList.take (n*κ.n)).length=n*κ.n:=by rw [List.length_take];omega
    rw [l1]
    congr 1
    ·congr 1;omega
    ·rw [hlen]
     congr 1
     ·rw [List.take_of_length_le (by rw [hlen];omega)]
     ·congr 1
      omega
theorem Qat {g:FuncId} {oas:List Operand} {tys:Array TypeId} {args:List Value} (hop:o.op= .call { callee:= .value (.func g),args:=oas.toArray,argTypes:=tys })
 (hg:∀ args w,(callFunc g args).run P w= .ok (.enter g args) w) (ha:oas.map (ev t)=args):(execOp (ev t) o).run P w= .ok (.enter g args.toArray) w:=by
 subst ha
 simp [execOp,hop,resolve,ev,Deferred.ofValue,invoke,hg]
theorem made_eq (zc:List Value):∀ m,(madeCells zc.toArray (m*zc.length)).toList=(List.replicate m zc).flatten:=by
 have key:∀ m,(List.range (m*zc.length)).map (fun j=>zc.toArray[j%zc.toArray.size]!)=(List.replicate m zc).flatten:=by
  intro m
  induction m with
  |zero=>simp
  |succ m ih=>
   rw [Nat.succ_mul,List.range_add,List.map_append,ih,List.replicate_succ',List.flatten_append]
   congr 1
   apply List.ext_getElem?
   intro j
   by_cases hj:j< zc.length
   ·simp [hj,Nat.mod_eq_of_lt hj]
   ·simp [hj]
 intro m
 rw [← key m]
 simp [madeCells]
theorem callFunc_enter {g : FuncId} {fn : Func} (hf : P.funcs[g]? = some fn) (hn : (fn.name == "runtime.NumGoroutine") = false) (hb : fn.body.isNone = false) : ∀ args w, (callFunc g args).run P w = .ok (.enter g args) w := by
 intro args w
 have hn' : ¬ fn.name = "runtime.NumGoroutine" := by simpa using hn
 have hb':¬ fn.body=none:=by intro e;simp [e] at hb
 simp [callFunc,hf,hn',hb']
theorem Qde {α:Type} {κ:K α} {z:α} {zc:List Value} (h:St w0 Γ w) (ho:ops[i]?=some o) (hw:Region.wanted o (yl ops t)=true) {T E:TypeId} {x y:Operand} {q q':IntKind} {n:Int} {inf:TypeInfo} {zv:Value}
 (hop:o.op= .makeSlice T x y) (hx:ev t x= .int q n) (hy:ev t y= .int q' n) (h0:0≤n) (hT:P.underlying T=some (.slice E)) (hi:P.info? E=some inf) (hz:inf.zero=some zv) (hzc:zv.cells=zc.toArray)
 (hs:inf.size=κ.n) (hzo:∀ w,κ.own [] w zc z) {B:Nat} (hby:inf.bytes=B) (hB:0< B) (hn:n*B≤281474976710656)
 (hk:∀ v w1,St w0 (Row E κ v (List.replicate n.toNat z)::Γ) w1→G P f R (.inRegion ops rest::k) (put t o.dst v) w1):G P f R (.inRegion ops (i::rest)::k) t w:=by
 obtain ⟨m,rfl⟩:∃ m:Nat,n=(m:Int):=⟨n.toNat,by omega⟩
 subst hby
 have hm:m*inf.bytes≤281474976710656:=by
  have:((m*inf.bytes:Nat):Int)≤281474976710656:=by rw [Int.natCast_mul];exact hn
  omega
 have hm':m≤281474976710656:=Nat.le_trans (Nat.le_mul_of_pos_right _ hB) hm
 obtain ⟨w',hr,how,hgr⟩:=run_make_full (P:=P) w 0 T E inf zv κ.n hT hi hz hs q q' m (by rw [Nat.mul_comm];exact hm) (by unfold maxLen;omega) (Nat.zero_le _)
 have hzl:zc.length=κ.n:=κ.len (κ.see (hzo w))
 have hcells:∀ m,(madeCells zv.cells (m*κ.n)).toList=(List.replicate m zc).flatten:=by
  intro m;rw [hzc,← hzl];exact made_eq zc m
 have hels:∀ m,Els κ w' [] (List.replicate m zc).flatten (List.replicate m z):=by
  intro m
  induction m with
  |zero=>exact .nil
  |succ m ih=>exact Els.cons (F1:=[]) (hzo w') ih
 refine Qaa (v:= .slice (some ⟨w.heap.size,0,none⟩) m m) (w':=w') ho hw ?_ (hk _ _ ?_)
 ·simp only [execOp,hop]
  exact run_value (by rw [hx,hy];exact hr)
 ·refine h.new (Turn.mono (Turn.of_grown hgr) (by simp)) (F':=[w.heap.size]) ⟨(madeCells zv.cells (m*κ.n)).toList,[],rfl,?_,?_⟩ (by simp) (by simp)
  ·simp only [Int.toNat_natCast,List.length_replicate]
   exact how
  ·rw [hcells,Int.toNat_natCast];exact hels m
theorem Qci {α:Type} {κ:K α} {enc:α→List Value} (fk:Flat κ enc) {E:TypeId} {v u:Value} {xs ys:List α} (h:St w0 (Row E κ v xs::Γ) w) (hy:RdRow κ w u ys)
 (ho:ops[i]?=some o) (hw:Region.wanted o (yl ops t)=true) {T:TypeId} {x y:Operand} {inf:TypeInfo} {zv:Value}
 (hop:o.op= .call { callee:= .builtin .append,args:=#[x,y],argTypes:=#[T,T] }) (hx:ev t x=v) (hyv:ev t y=u)
 (hT:P.underlying T=some (.slice E)) (hi:P.info? E=some inf) (hz:inf.zero=some zv) (hzs:zv.cells.size=κ.n) (hpos:0< κ.n)
 (hs:inf.size=κ.n) {B:Nat} (hby:inf.bytes=B) (hB:0< B) (hn:(xs.length+ys.length)*B≤140737488355328)
 (hk:∀ v' w1,St w0 (Row E κ v' (xs++ys)::Γ) w1→G P f R (.inRegion ops rest::k) (put t o.dst v') w1):G P f R (.inRegion ops (i::rest)::k) t w:=by
 subst hby
 obtain ⟨F,⟨cs,F',rfl,how,hel⟩,_⟩:=h.head
 obtain ⟨rfl,rfl⟩:=Els.of_flat fk hel
 have hfl:∀ (l:List α),(l.map enc).flatten.length=l.length*κ.n:=fun l=>(Els.flat (w:=w) fk l).len
 obtain ⟨A,cap,rfl,hc,he⟩:=hy
 have hm':xs.length+ys.length≤140737488355328:=Nat.le_trans (Nat.le_mul_of_pos_right _ hB) hn
 have key:∃ v' w',(Builtin.append_ #[T,T] o.type #[v, .slice A ys.length cap]).run P w= .ok v' w'∧w'.ownsRow 0 E κ.n v' (xs.length+ys.length) ((xs.map enc).flatten++(ys.map enc).flatten)∧w.grownBy w' v.ownBlock∧
  (∀ b,v'.ownBlock=some b→v.ownBlock=some b∨w.heap.size≤b):=by
  have hys:(ys.map enc).flatten.length=ys.length*κ.n:=hfl ys
  by_cases h0:ys.length=0
  ·
   have hy0:ys=[]:=List.eq_nil_of_length_eq_zero h0
   subst hy0
   refine ⟨v,w,?_,by simpa using how,⟨rfl,rfl,rfl,Nat.le_refl _,fun _ _ _=>rfl⟩,fun b hb=> .inl hb⟩
   have hfc:∀ s,(Builtin.firstCells s 0 (.slice A 0 cap)).run P w= .ok #[] w:=by
    intro s
    cases A<;>simp [Builtin.firstCells,loadCells,loadCellsFrom]
   rcases how.2 with ⟨rfl,hl0⟩|⟨g,c2,cur,rfl,_,_,hnc,_⟩
   ·simp [Builtin.append_,run_underlying hT,sizeOf,typeInfo,hi,Builtin.lenOf,hfc]
   ·simp [Builtin.append_,run_underlying hT,sizeOf,typeInfo,hi,Builtin.lenOf,hfc,hnc,storeCells]
  ·obtain ⟨ad,es,rfl,_⟩:=he 0 (by omega)
   have hnews:∀ j u,(ys.map enc).flatten[j]?=some u→w.cell? (ad.add j)=some u:=by
    have gen:∀ (zs:List α) (off:Nat),(∀ i (hi:i< zs.length),∀ j u,(enc zs[i])[j]?=some u→w.cell? (ad.add ((off+i)*κ.n+j))=some u)→
     ∀ j u,(zs.map enc).flatten[j]?=some u→w.cell? (ad.add (off*κ.n+j))=some u:=by
     intro zs
     induction zs with
     |nil=>intro off _ j u hj;simp at hj
     |cons z zs ih=>
      intro off hz j u hj
      rw [List.map_cons,List.flatten_cons] at hj
      by_cases hlt:j< (enc z).length
      ·rw [List.getElem?_append_left hlt] at hj
       have:=hz 0 (by simp) j u hj
       simpa using this
      ·rw [List.getElem?_append_right (by omega)] at hj
       have h2:=ih (off+1) (fun i hi j u hj=>by
        have:=hz (i+1) (by simpa using hi) j u hj
        rw [show off+1+i=off+(i+1) from by omega]
        exact this) _ u hj
       rw [fk.len] at h2 hlt
       rw [show (off+1)*κ.n+(j - κ.n)=off*κ.n+j from by rw [Nat.succ_mul];omega] at h2
       exact h2
    have:=gen ys 0 (fun i hi j u hj=>by
     obtain ⟨ad',es',e,_,hc',hr'⟩:=he i hi
     cases e
     have:=fk.rd.1 hr'
     subst this
     rw [Nat.zero_add]
     exact hc' j u hj)
    intro j u hj
    have h3:=this j u hj
    simpa using h3
   have h1:∀ u∈(ys.map enc).flatten,u.oneCell'=true:=(Els.flat (w:=w) fk ys).one
   obtain ⟨v',w',hr,how',hgr,_,hloc⟩:=run_append_own_at (P:=P) w 0 T o.type E inf zv κ.n inf.bytes hT hi hz hs rfl hzs hpos v xs.length _ how ad ys.length cap _ hys hnews h1 (by unfold maxLen;omega) hn (Nat.zero_le _)
   refine ⟨v',w',hr,how',hgr,fun b hb=>?_⟩
   rcases hloc with e|e
   ·exact .inl (by rw [← e];exact hb)
   ·right
    rw [e] at hb
    cases hb
    exact Nat.le_refl _
 obtain ⟨v',w',hr,how',hgr,hblk⟩:=key
 refine Qaa (v:=v') (w':=w') ho hw ?_ (hk _ _ ?_)
 ·simp only [execOp,hop,resolve]
  simp [invoke,builtin,hx,hyv]
  rw [hr];rfl
 ·refine h.turn fun F hF hnd=>?_
  obtain ⟨cs2,F2,rfl,how2,hel2⟩:=hF
  obtain ⟨rfl,rfl⟩:=Els.of_flat fk hel2
  refine ⟨Turn.mono (Turn.of_grown hgr) (by simp),_,⟨((xs++ys).map enc).flatten,[],rfl,by rw [List.length_append,List.map_append,List.flatten_append];exact how',Els.flat fk _⟩,by cases v'.ownBlock<;>simp,fun b hb=>?_⟩
  simp only [List.append_nil,Option.mem_toList] at hb
  rcases hblk b hb with h|h
  ·exact .inl (by simp [h])
  ·exact .inr h
end
def encI (q:IntKind) (x:Int):List Value:=[.int q x]
def encB (x:Bool):List Value:=[.bool x]
def encS (x:ByteArray):List Value:=[.string x]
theorem fkI (q:IntKind):Flat (K.int q) (encI q):=Flat.fl
theorem fkB:Flat K.bool encB:=Flat.fl
theorem fkS:Flat K.str encS:=Flat.fl
def encA {α:Type} {n:Nat} (e:α→List Value) (a:Ar α n):List Value:=(a.l.map e).flatten
theorem encA_len {α:Type} {n m:Nat} {e:α→List Value} (he:∀ x,(e x).length=m) (a:Ar α n):(encA e a).length=n*m:=by
 have:∀ l:List α,(l.map e).flatten.length=l.length*m:=by
  intro l
  induction l with
  |nil=>simp
  |cons x l ih=>simp [he,Nat.succ_mul] at ih ⊢;omega
 unfold encA
 rw [this,a.h]
theorem encA_one {α:Type} {n:Nat} {e:α→List Value} (h1:∀ x,∀ v∈e x,v.oneCell'=true) (a:Ar α n):∀ v∈encA e a,v.oneCell'=true:=by
 intro v hv
 simp only [encA,List.mem_flatten,List.mem_map] at hv
 obtain ⟨l,⟨x,_,rfl⟩,hv⟩:=hv
 exact h1 x v hv
def K.ar {α:Type} (n m:Nat) (e:α→List Value) (he:∀ x,(e x).length=m) (h1:∀ x,∀ v∈e x,v.oneCell'=true):K (Ar α n):=K.fl (n*m) (encA e) (encA_len he) (encA_one h1)
theorem fkA {α:Type} {n m:Nat} {e:α→List Value} {he:∀ x,(e x).length=m} {h1}:Flat (K.ar n m e he h1) (encA e):=Flat.fl
theorem encA_at {α:Type} {n m:Nat} {e:α→List Value} (he:∀ x,(e x).length=m) (a:Ar α n) (i:Int) (z:α) (h0:0≤i) (h1:i< n):
 ((encA e a).drop (i.toNat*m)).take m=e (a.get i z):=by
 have key:∀ (l:List α) (j:Nat) (hj:j< l.length),((l.map e).flatten.drop (j*m)).take m=e l[j]:=by
  intro l
  induction l with
  |nil=>intro j hj;simp at hj
  |cons x l ih=>
   intro j hj
   cases j with
   |zero=>simp;rw [List.take_append_of_le_length (by rw [he];omega),List.take_of_length_le (by rw [he];omega)]
   |succ j=>
    rw [List.map_cons,List.flatten_cons,Nat.succ_mul,List.drop_append,List.drop_eq_nil_of_le (by rw [he];omega),List.nil_append,he]
    rw [show j*m+m - m=j*m from by omega]
    simpa using ih j (by simpa using hj)
 have:=key a.l i.toNat (by rw [a.h];omega)
 unfold encA
 rw [this]
 congr 1
 simp [Ar.get,a.h]
 rw [List.getElem?_eq_getElem (by rw [a.h];omega)]
 rfl
theorem encA_set {α:Type} {n m:Nat} {e:α→List Value} (he:∀ x,(e x).length=m) (a:Ar α n) (i:Int) (y:α) (h0:0≤i) (h1:i< n):
 (encA e a).take (i.toNat*m)++e y++(encA e a).drop (i.toNat*m+(e y).length)=encA e (a.set i y):=by
 have key:∀ (l:List α) (j:Nat) (hj:j< l.length),(l.map e).flatten.take (j*m)++e y++(l.map e).flatten.drop (j*m+m)=((l.set j y).map e).flatten:=by
  intro l
  induction l with
  |nil=>intro j hj;simp at hj
  |cons x l ih=>
   intro j hj
   cases j with
   |zero=>
    simp only [Nat.zero_mul,Nat.zero_add,List.take_zero,List.nil_append,List.set_cons_zero,List.map_cons,List.flatten_cons]
    rw [List.drop_append,List.drop_eq_nil_of_le (by rw [he];omega),List.nil_append,he,Nat.sub_self,List.drop_zero]
   |succ j=>
    have ih':=ih j (by simpa using hj)
    rw [List.set_cons_succ,List.map_cons,List.map_cons,List.flatten_cons,List.flatten_cons,← ih']
    rw [List.take_append,List.take_of_length_le (by rw [he,Nat.succ_mul];omega),List.drop_append,List.drop_eq_nil_of_le (by rw [he,Nat.succ_mul];omega),List.nil_append,he]
    rw [show (j+1)*m - m=j*m from by rw [Nat.succ_mul];omega,show (j+1)*m+m - m=j*m+m from by rw [Nat.succ_mul];omega]
    simp only [List.append_assoc]
 rw [he]
 exact key a.l i.toNat (by rw [a.h];omega)
section
variable {P:Program} {f:FuncId} {R:Ending→World→Prop} {k:List Item} {t:List Value} {w0 w:World} {Γ:List As} {ops:Array Oper} {i:Nat} {rest:List Nat} {o:Oper}
theorem Qcm {α:Type} {κ:K α} {enc:α→List Value} (fk:Flat κ enc) (z:α) {v:Value} {xs:List α} {T E:TypeId} (hr:RdRow κ w v xs) (hT:P.underlying T=some (.slice E)) (hsz:∀ w,(Go.sizeOf E).run P w= .ok κ.n w) {n:Int} (h0:0≤n) (h1:n< xs.length)
 (ho:ops[i]?=some o) (hw:Region.wanted o (yl ops t)=true) {x ix:Operand} {q:IntKind}
 (hop:o.op= .indexAddr T x ix) (hx:ev t x=v) (hi:ev t ix= .int q n)
 (hk:∀ p,CellsAt w p (enc (rdL xs n z))→p.block< w.heap.size→(∀ b N c,v= .slice (some ⟨b,0,none⟩) N c→p=⟨b,n.toNat*κ.n,none⟩)→
  G P f R (.inRegion ops rest::k) (put t o.dst (.pointer (some p))) w):G P f R (.inRegion ops (i::rest)::k) t w:=by
 refine QcR hr ho hw hop hx hi h0 h1 hT hsz fun p es hc hrd hlt hb=>hk p ?_ hlt hb
 have:=fk.rd.1 hrd
 rw [rdL_get (z:=z)] at this
 rw [← this]
 exact hc
theorem Qba {n:Int} {b off m N:Nat} {T E:TypeId} (hT:P.underlying T=some (.array N E)) (hsz:∀ w,(Go.sizeOf E).run P w= .ok m w) (h0:0≤n) (h1:n< N)
 (ho:ops[i]?=some o) (hw:Region.wanted o (yl ops t)=true) {x ix:Operand} {q:IntKind} (hop:o.op= .indexAddr T x ix) (hx:ev t x= .pointer (some ⟨b,off,none⟩)) (hi:ev t ix= .int q n)
 (hk:G P f R (.inRegion ops rest::k) (put t o.dst (.pointer (some ⟨b,off+n.toNat*m,none⟩))) w):G P f R (.inRegion ops (i::rest)::k) t w:=by
 refine Qaa (v:= .pointer (some ⟨b,off+n.toNat*m,none⟩)) ho hw ?_ hk
 simp only [execOp,hop]
 have:(⟨b,off,none⟩:Addr).add (n.toNat*m)=⟨b,off+n.toNat*m,none⟩:=by unfold Addr.add;split<;>simp_all
 exact run_value (by simp [Instr.indexAt,hx,hi,asIntOf,Instr.sureAddr,run_underlying hT,h0,h1,hsz,this])
theorem QcO {α:Type} {n:Int} {N:Nat} {a:Ar α N} {enc:α→List Value} {c:α→Value} (hc:∀ x,enc x=[c x]) (z:α) {T E:TypeId} (hT:P.underlying T=some (.array N E)) (hsz:∀ w,(Go.sizeOf E).run P w= .ok 1 w)
 (hag:∀ w,(isAgg E).run P w= .ok false w) (h0:0≤n) (h1:n< N)
 (ho:ops[i]?=some o) (hw:Region.wanted o (yl ops t)=true) {x ix:Operand} {q:IntKind} (hop:o.op= .index T x ix) (hx:ev t x= .agg (encA enc a).toArray) (hi:ev t ix= .int q n)
 (hk:G P f R (.inRegion ops rest::k) (put t o.dst (c (a.get n z))) w):G P f R (.inRegion ops (i::rest)::k) t w:=by
 refine Qaa (v:=c (a.get n z)) ho hw ?_ hk
 have h2:=encA_at (m:=1) (e:=enc) (fun x=>by rw [hc];rfl) a n z h0 h1
 have h3:(encA enc a)[n.toNat]?=some (c (a.get n z)):=by
  have h4:(((encA enc a).drop (n.toNat*1)).take 1)[0]?=some (c (a.get n z)):=by rw [h2,hc];rfl
  rw [List.getElem?_take] at h4
  simpa using h4
 simp only [execOp,hop]
 exact run_value (by simp [Instr.index,hx,hi,asIntOf,run_underlying hT,h0,h1,hsz,part,hag,h3])
theorem cells_load {b:Nat} {cs:List Value} {E:TypeId} {fz:Nat×Nat} (hb:w.heap[b]?=some (.cells cs.toArray E fz)) (off n:Nat) {es:List Value} (he:(cs.drop off).take n=es):CellsAt w ⟨b,off,none⟩ es:=by
 subst he;exact cellsAt_block (n:=n) hb n
theorem CellsAt.lift {p:Addr} {es:List Value} (h:CellsAt w0 p es) (hs:St w0 Γ w):CellsAt w p es:=by
 intro j u hj
 have h1:=h j u hj
 have hlt:=block_lt_of_cell h1
 rw [cell_keep (hs.below.block _ hlt)]
 exact h1
theorem res1 {fn:Func} {i:Nat} {v:Value} (h:fn.results=#[.tmp i]) (hv:t.getD i undef=v):(results fn t.toArray).run P w= .ok v w:=by
 subst hv;rw [results_tmp h];simp [Array.getD_eq_getD_getElem?,List.getD]
def ResIs (P:Program) (w:World) (t:List Value):List ResultVar→List Value→Prop
 |[],[]=>True
 | .tmp i::l,v::vs=>t.getD i undef=v∧ResIs P w t l vs
 | .cell a T::l,v::vs=>(∃ p,t.getD a undef= .pointer (some p)∧(loadVar T p).run P w= .ok v w)∧ResIs P w t l vs
 |_,_=>False
def resOne (t:Array Value):ResultVar→Sem Value
 | .tmp i=>pure (t.getD i undef)
 | .cell a T=>do loadVar T (← asAddr (t.getD a undef))
theorem results_eq (fn:Func) (t:Array Value):results fn t=(do let vs ← fn.results.mapM (resOne t);pure (if h:vs.size=1 then vs[0] else .tuple vs)):=rfl
theorem getD_toArray (t:List Value) (i:Nat):t.toArray.getD i undef=t.getD i undef:=by simp [Array.getD_eq_getD_getElem?,List.getD]
theorem ResIs.run {P:Program} {w:World} {t:List Value}:∀ {l:List ResultVar} {vs:List Value},ResIs P w t l vs→(l.mapM (resOne t.toArray)).run P w= .ok vs w
 |[],[],_=>by simp
 | .tmp i::l,v::vs,⟨h,hl⟩=>by
  have ih:=ResIs.run hl
  have h1:(resOne t.toArray (.tmp i)).run P w= .ok v w:=by simp only [resOne,getD_toArray,h];rfl
  simp only [List.mapM_cons,Sem.run_bind,h1,Result.andThen_ok,ih]
  rfl
 | .cell a T::l,v::vs,⟨⟨p,h,hv⟩,hl⟩=>by
  have ih:=ResIs.run hl
  have h1:(resOne t.toArray (.cell a T)).run P w= .ok v w:=by simp only [resOne,getD_toArray,h,asAddr,Sem.run_bind,Sem.run_pure,Result.andThen_ok,hv]
  simp only [List.mapM_cons,Sem.run_bind,h1,Result.andThen_ok,ih]
  rfl
 |[],_::_,h=>h.elim
 | .tmp _::_,[],h=>h.elim
 | .cell _ _::_,[],h=>h.elim
theorem resN {fn:Func} {l:List ResultVar} {vs:List Value} (h:fn.results=l.toArray) (hr:ResIs P w t l vs) (hn:vs.length≠1):(results fn t.toArray).run P w= .ok (.tuple vs.toArray) w:=by
 have h1:=hr.run
 rw [results_eq,h]
 simp only [List.mapM_toArray,Sem.run_bind,Sem.run_map,h1,Result.andThen_ok]
 rw [dif_neg (by simpa using hn)]
 rfl
theorem resC {fn:Func} {r:ResultVar} {v:Value} (h:fn.results=#[r]) (hr:ResIs P w t [r] [v]):(results fn t.toArray).run P w= .ok v w:=by
 have h1:=hr.run
 have h:fn.results=[r].toArray:=h
 rw [results_eq,h]
 simp only [List.mapM_toArray,Sem.run_bind,Sem.run_map,h1,Result.andThen_ok]
 rfl
theorem cells_all {b:Nat} {cs:List Value} {E:TypeId} {fz:Nat×Nat} (hb:w.heap[b]?=some (.cells cs.toArray E fz)):CellsAt w ⟨b,0,none⟩ cs:=
 cells_load hb 0 cs.length (by simp)
theorem QaB {b:Nat} {cs:List Value} {E:TypeId} (h:St w0 (Cells b cs E::Γ) w) {n:Nat} (hc:cs.length=n) (ho:ops[i]?=some o) (hw:Region.wanted o (yl ops t)=true) {T:TypeId} {a x:Operand} {vs:List Value}
 (hop:o.op= .store T a x) (ha:ev t a= .pointer (some ⟨b,0,none⟩)) (hv:(ev t x).cells=vs.toArray) (hsz:∀ w,(Go.sizeOf T).run P w= .ok n w) (hn:vs.length=n)
 (h1:∀ v∈vs,v.oneCell'=true) (hk:∀ w1,St w0 (Cells b vs E::Γ) w1→G P f R (.inRegion ops rest::k) (put t o.dst undef) w1):G P f R (.inRegion ops (i::rest)::k) t w:=by
 refine Qck h ho hw hop ha hv hsz hn (by omega) h1 ?_ hk
 rw [Nat.zero_add,List.drop_eq_nil_of_le (by omega)]
 simp
theorem QbN {α:Type} {N m:Nat} {e:α→List Value} (he:∀ x,(e x).length=m) (h1:∀ x,∀ v∈e x,v.oneCell'=true) {a:Ar α N} {n:Int} (h0:0≤n) (hn:n< N) {b:Nat} {E:TypeId} (h:St w0 (Cells b (encA e a) E::Γ) w)
 (ho:ops[i]?=some o) (hw:Region.wanted o (yl ops t)=true) {T:TypeId} {ad x:Operand} {y:α}
 (hop:o.op= .store T ad x) (ha:ev t ad= .pointer (some ⟨b,0+n.toNat*m,none⟩)) (hv:(ev t x).cells=(e y).toArray) (hsz:∀ w,(Go.sizeOf T).run P w= .ok m w)
 (hk:∀ w1,St w0 (Cells b (encA e (a.set n y)) E::Γ) w1→G P f R (.inRegion ops rest::k) (put t o.dst undef) w1):G P f R (.inRegion ops (i::rest)::k) t w:=by
 rw [Nat.zero_add] at ha
 refine Qck h ho hw hop ha hv hsz (he y) ?_ (h1 y) (encA_set he a n y h0 hn) hk
 rw [he,encA_len he,← Nat.succ_mul]
 exact Nat.mul_le_mul_right _ (by omega)
theorem Qc7 {α:Type} {κ:K α} {enc:α→List Value} (fk:Flat κ enc) {v:Value} {xs:List α} {E:TypeId} {n:Int} (h0:0≤n) (hn:n< xs.length) {p:Addr} (hp:∀ b N c,v= .slice (some ⟨b,0,none⟩) N c→p=⟨b,n.toNat*κ.n,none⟩)
 (h:St w0 (Row E κ v xs::Γ) w) (ho:ops[i]?=some o) (hw:Region.wanted o (yl ops t)=true) {T:TypeId} {a x:Operand} {y:α}
 (hop:o.op= .store T a x) (ha:ev t a= .pointer (some p)) (hv:(ev t x).cells=(enc y).toArray) (hsz:∀ w,(Go.sizeOf T).run P w= .ok κ.n w)
 (hk:∀ w1,St w0 (Row E κ v (stL xs n y)::Γ) w1→G P f R (.inRegion ops rest::k) (put t o.dst undef) w1):G P f R (.inRegion ops (i::rest)::k) t w:=
 QcS fk h ho hw hop ha hp (by omega) hv hsz hk
theorem St.nil {α:Type} (E:TypeId) (κ:K α) (h:St w0 Γ w):St w0 (Row E κ (.slice none 0 0) []::Γ) w:=
 h.new (Turn.refl _ _) (F':=[]) ⟨[],[],rfl,World.ownsRow_nil _ _ _ _, .nil⟩ (by simp) (by simp)
theorem rdNil {α:Type} (κ:K α):RdRow κ w (.slice none 0 0) []:=⟨none,0,rfl,Nat.le_refl _,fun i h=>by simp at h⟩
theorem QcB {α:Type} {κ:K α} (h:St w0 Γ w) (ho:ops[i]?=some o) (hw:Region.wanted o (yl ops t)=true) {T E:TypeId} {n:Nat} (hop:o.op= .buildSlice T 0 #[]) (hT:P.underlying T=some (.slice E)) (hsz:∀ w,(Go.sizeOf E).run P w= .ok n w)
 (hk:∀ v w1,St w0 (Row E κ v []::Γ) w1→G P f R (.inRegion ops rest::k) (put t o.dst v) w1):G P f R (.inRegion ops (i::rest)::k) t w:=by
 refine Qaa (v:= .slice (some ⟨w.heap.size,0,none⟩) 0 0) (w':=w.alloc (.cells #[] E)) ho hw ?_ (hk _ _ ?_)
 ·simp only [execOp,hop]
  exact run_value (by simp [Instr.buildSlice,run_underlying hT,hsz,Instr.fill,newRow,Array.range_zero'])
 ·refine h.new (Turn.alloc w _) (F':=[w.heap.size]) ⟨[],[],rfl,?_, .nil⟩ (by simp) (by simp)
  exact World.ownsRow_lit w #[] 0 (Nat.zero_le _) (Nat.zero_le _) (by simp)
theorem Qcr {α:Type} {κ:K α} {enc:α→List Value} (fk:Flat κ enc) {y:α} (h:St w0 Γ w) (ho:ops[i]?=some o) (hw:Region.wanted o (yl ops t)=true) {T E:TypeId} {x:Operand} (hop:o.op= .buildSlice T 1 #[(0,x)]) (hT:P.underlying T=some (.slice E))
 (hsz:∀ w,(Go.sizeOf E).run P w= .ok κ.n w) {zv:Value} (hz:∀ w,(zeroValue E).run P w= .ok zv w) (hzs:zv.cells.size=κ.n) (hpos:0< κ.n) (hle:κ.n≤100000) (hv:(ev t x).cells=(enc y).toArray)
 (hk:∀ v w1,St w0 (Row E κ v [y]::Γ) w1→G P f R (.inRegion ops rest::k) (put t o.dst v) w1):G P f R (.inRegion ops (i::rest)::k) t w:=by
 have hl:=fk.len y
 have hfill:∀ (vs:List Value) (cs:Array Value),vs.length=cs.size→vs.toArray.zipIdx.foldl (fun cs (c,j)=>cs.setIfInBounds (0+j) c) cs=vs.toArray:=by
  intro vs cs hcs
  have gen:∀ (vs:List Value) (n:Nat) (cs:Array Value),(vs.zipIdx n).foldl (fun (cs:Array Value) (p:Value×Nat)=>cs.setIfInBounds (0+p.2) p.1) cs=(cs.toList.take n++(vs++(cs.toList.drop (n+vs.length)))).toArray∨cs.size< n+vs.length:=by
   intro vs
   induction vs with
   |nil=>intro n cs;left;simp
   |cons v vs ih=>
    intro n cs
    by_cases hlt:cs.size< n+(v::vs).length
    ·exact .inr hlt
    ·left
     simp only [List.length_cons] at hlt
     rw [List.zipIdx_cons,List.foldl_cons]
     rcases ih (n+1) (cs.setIfInBounds (0+n) v) with h|h
     ·rw [h]
      congr 1
      have h1:(cs.setIfInBounds (0+n) v).toList=cs.toList.set n v:=by simp
      have:=list_seg_step cs.toList n v vs (by simp;omega)
      rw [h1]
      simpa [Nat.add_assoc,Nat.add_comm,Nat.add_left_comm] using this
     ·simp at h;omega
  rcases gen vs 0 cs with h|h
  ·rw [← Array.foldl_toList,Array.toList_zipIdx]
   exact h.trans (by simp [hcs])
  ·omega
 refine Qaa (v:= .slice (some ⟨w.heap.size,0,none⟩) 1 1) (w':=w.alloc (.cells (enc y).toArray E)) ho hw ?_ (hk _ _ ?_)
 ·simp only [execOp,hop]
  have hn1:¬ κ.n=0:=by omega
  have hn2:¬ 16777216< κ.n:=by omega
  have hf:Instr.fill (fun i=>some (i*κ.n,κ.n)) ((Array.range κ.n).map (zv.cells[· %zv.cells.size]!)) [(0,ev t x)]=some (enc y).toArray:=by
   simp only [Instr.fill,hv,Nat.zero_mul]
   simp [hl]
   have:=hfill (enc y) (madeCells zv.cells κ.n) (by rw [hl,size_madeCells])
   simpa [madeCells] using this
  exact run_value (by simp [Instr.buildSlice,run_underlying hT,hsz,hz,hn1,hn2,hf,newRow])
 ·refine h.new (Turn.alloc w _) (F':=[w.heap.size]) ⟨enc y,[],rfl,?_,by simpa using Els.flat fk [y]⟩ (by simp) (by simp)
  exact World.ownsRow_lit w (enc y).toArray 1 (Nat.zero_le _) (by unfold maxLen;omega) (by simp [hl])
theorem Qcp {c:Code} (J:List Value→World→Prop) (ha:∀ t w,J t w→G P f R k t w) (hb:(∀ t w,J t w→G P f R k t w)→G P f R (.code c::k) t w):G P f R (.code c::k) t w:=hb ha
theorem Qcq {c c2:Code} (J:List Value→World→Prop) (ha:∀ t w,J t w→G P f R k t w) (hb:(∀ t w,J t w→G P f R k t w)→G P f R (.code c:: .code c2::k) t w):G P f R (.code c:: .code c2::k) t w:=hb ha
end
section
variable {P:Program} {f:FuncId} {R:Ending→World→Prop} {k:List Item} {t:List Value} {w0 w:World} {Γ:List As} {ops:Array Oper} {i:Nat} {rest:List Nat} {o:Oper}
theorem Qas {g:FuncId} {args:List Value} {w1:World} {R':Value→World→Prop} (ho:ops[i]?=some o) (hw:Region.wanted o (yl ops t)=true)
 (hr:(execOp (ev t) o).run P w= .ok (.enter g args.toArray) w1) (hc:Calls P g args.toArray w1 fun e w'=>∃ v,e= .returned v∧R' v w')
 (h:∀ v w',R' v w'→G P f R (.inRegion ops rest::k) (put t o.dst v) w'):G P f R (.inRegion ops (i::rest)::k) t w:=Qdc ho hw hr hc h
theorem Qc8 {g:FuncId} {x:Operand} {oas:List Operand} {tys:Array TypeId} {caps args:List Value} (hop:o.op= .call { callee:= .value x,args:=oas.toArray,argTypes:=tys })
 (hg:∀ args w,(callFunc g args).run P w= .ok (.enter g args) w) (hx:ev t x= .func (.func g) #[] caps.toArray) (ha:oas.map (ev t)++caps=args):(execOp (ev t) o).run P w= .ok (.enter g args.toArray) w:=by
 subst ha
 simp [execOp,hop,resolve,hx,Deferred.ofValue,invoke,hg]
theorem Qc3 {f:FuncId} {cs:List Operand} {caps:List Value} (hop:o.op= .makeFunc (.func f) #[] cs.toArray) (hc:cs.map (ev t)=caps):
 (execOp (ev t) o).run P w= .ok (.value (.func (.func f) #[] caps.toArray)) w:=by
 subst hc
 simp [execOp,hop,Instr.makeFunc]
theorem Qc2 {x y:Operand} {T T':TypeId} {q:IntKind} {a b:Int} (hop:o.op= .binOp .quo T x y T') (hx:ev t x= .int q a) (hy:ev t y= .int q b) (h:¬ b=0):
 (execOp (ev t) o).run P w= .ok (.value (.int q (q.wrap (a.tdiv b)))) w:=by
 simp [execOp,hop,hx,hy,eqGuard,binOp,Op.intDiv,h]
theorem QcQ {x y:Operand} {T T':TypeId} {q:IntKind} {a b:Int} (hop:o.op= .binOp .rem T x y T') (hx:ev t x= .int q a) (hy:ev t y= .int q b) (h:¬ b=0):
 (execOp (ev t) o).run P w= .ok (.value (.int q (a.tmod b))) w:=by
 simp [execOp,hop,hx,hy,eqGuard,binOp,Op.intDiv,h]
theorem QcG {x y:Operand} {T T':TypeId} {q q':IntKind} {a b:Int} (hop:o.op= .binOp .shl T x y T') (hx:ev t x= .int q a) (hy:ev t y= .int q' b) (h:0≤b):
 (execOp (ev t) o).run P w= .ok (.value (.int q (shlI q a b))) w:=by
 have:¬ b< 0:=by omega
 simp [execOp,hop,hx,hy,eqGuard,binOp,Op.shift,this,shlI]
theorem QcC {x y:Operand} {T T':TypeId} {q q':IntKind} {a b:Int} (hop:o.op= .binOp .shr T x y T') (hx:ev t x= .int q a) (hy:ev t y= .int q' b) (h:0≤b):
 (execOp (ev t) o).run P w= .ok (.value (.int q (shrI q a b))) w:=by
 have:¬ b< 0:=by omega
 simp [execOp,hop,hx,hy,eqGuard,binOp,Op.shift,this,shrI]
theorem Qc6 {x y:Operand} {tys:Array TypeId} {q:IntKind} {a b:Int} (hop:o.op= .call { callee:= .builtin .max,args:=#[x,y],argTypes:=tys }) (hx:ev t x= .int q a) (hy:ev t y= .int q b):
 (execOp (ev t) o).run P w= .ok (.value (.int q (mxI a b))) w:=by
 simp [execOp,hop,resolve,invoke,builtin,hx,hy,Builtin.max_,Builtin.max2,mxI]
theorem QcY {x:Operand} {T:TypeId} {s:ByteArray} (hop:o.op= .call { callee:= .builtin .len,args:=#[x],argTypes:=#[T] }) (hT:P.underlying T=some .string) (hx:ev t x= .string s):
 (execOp (ev t) o).run P w= .ok (.value (.int .i64 s.size)) w:=by
 simp [execOp,hop,resolve,hx,invoke,builtin,Builtin.len_,goInt,run_underlying hT]
theorem Qcz {x y:Operand} {T:TypeId} {s:ByteArray} {q:IntKind} {n:Int} (hop:o.op= .index T x y) (hT:P.underlying T=some .string) (hx:ev t x= .string s) (hy:ev t y= .int q n)
 (h0:0≤n) (h1:n< s.size):(execOp (ev t) o).run P w= .ok (.value (.int .u8 (btS s n))) w:=by
 have h2:n.toNat< s.size:=by omega
 simp only [execOp,hop]
 refine run_value ?_
 have h3:s[n.toNat]?=some s[n.toNat]:=getElem?_pos s n.toNat h2
 have h4:s.data.toList.getD n.toNat 0=s[n.toNat]:=by
  have:n.toNat< s.data.toList.length:=by simpa using h2
  simp [List.getD,List.getElem?_eq_getElem this]
  rfl
 simp only [btS,h4]
 simp [Instr.index,hx,hy,asIntOf,run_underlying hT,h0,h3]
theorem Qb7 {T:TypeId} {v:Value} {ps:List (Nat×Operand)} (hop:o.op= .build T ps.toArray) (h:(Instr.build T (ps.map fun x=>(x.1,ev t x.2)).toArray).run P w= .ok v w):(execOp (ev t) o).run P w= .ok (.value v) w:=by
 simp only [execOp,hop]
 refine run_value ?_
 simpa using h
end
theorem foldl_put (vs:List Value):∀ (n off:Nat) (cs:Array Value),off+n+vs.length≤cs.size→
 (vs.zipIdx n).foldl (fun (cs:Array Value) (p:Value×Nat)=>cs.setIfInBounds (off+p.2) p.1) cs=(cs.toList.take (off+n)++(vs++cs.toList.drop (off+n+vs.length))).toArray:=by
 induction vs with
 |nil=>intro n off cs h;simp
 |cons v vs ih=>
  intro n off cs h
  simp only [List.length_cons] at h
  rw [List.zipIdx_cons,List.foldl_cons,ih (n+1) off _ (by simp;omega)]
  congr 1
  have h1:(cs.setIfInBounds (off+n) v).toList=cs.toList.set (off+n) v:=by simp
  have:=list_seg_step cs.toList (off+n) v vs (by simp;omega)
  rw [h1]
  simpa [Nat.add_assoc,Nat.add_comm,Nat.add_left_comm] using this
def segPl:Nat→List (List Value)→List (Nat×Nat)
 |_,[]=>[]
 |o,s::ss=>(o,s.length)::segPl (o+s.length) ss
theorem segPl_get:∀ (ss:List (List Value)) (o i:Nat) (s:List Value),ss[i]?=some s→(segPl o ss)[i]?=some (o+(ss.take i).flatten.length,s.length)
 |[],_,_,_,h=>by simp at h
 |x::ss,o,0,s,h=>by simp at h;subst h;simp [segPl]
 |x::ss,o,i+1,s,h=>by
  have:=segPl_get ss (o+x.length) i s (by simpa using h)
  simp only [segPl,List.getElem?_cons_succ,this,List.take_succ_cons,List.flatten_cons,List.length_append]
  congr 2
  omega
theorem segPl_set:∀ (ss:List (List Value)) (o i:Nat) (s vs:List Value),ss[i]?=some s→vs.length=s.length→segPl o (ss.set i vs)=segPl o ss
 |[],_,_,_,_,h,_=>by simp at h
 |x::ss,o,0,s,vs,h,hl=>by simp at h;subst h;simp [segPl,hl]
 |x::ss,o,i+1,s,vs,h,hl=>by
  simp only [List.set_cons_succ,segPl]
  rw [segPl_set ss (o+x.length) i s vs (by simpa using h) hl]
theorem seg_set:∀ (ss:List (List Value)) (i:Nat) (s vs:List Value),ss[i]?=some s→vs.length=s.length→
 ss.flatten.take ((ss.take i).flatten.length)++(vs++ss.flatten.drop ((ss.take i).flatten.length+vs.length))=(ss.set i vs).flatten
 |[],_,_,_,h,_=>by simp at h
 |x::ss,0,s,vs,h,hl=>by
  simp at h;subst h
  simp [hl]
 |x::ss,i+1,s,vs,h,hl=>by
  have ih:=seg_set ss i s vs (by simpa using h) hl
  simp only [List.take_succ_cons,List.flatten_cons,List.length_append,List.set_cons_succ,← ih]
  rw [List.take_append,List.take_of_length_le (by omega),List.drop_append,List.drop_eq_nil_of_le (by omega),List.nil_append,List.append_assoc]
  congr 2
  ·congr 1;omega
  ·congr 2;omega
theorem fill_segs:∀ (parts:List (Nat×Value)) (segs:List (List Value)),(∀ p∈parts,∃ s,segs[p.1]?=some s∧p.2.cells.size=s.length)→
 Instr.fill (fun i=>(segPl 0 segs)[i]?) segs.flatten.toArray parts=some ((parts.foldl (fun s p=>s.set p.1 p.2.cells.toList) segs).flatten.toArray)
 |[],segs,_=>rfl
 |(i,v)::parts,segs,h=>by
  obtain ⟨s,hs,hv⟩:=h (i,v) (by simp)
  have hp:=segPl_get segs 0 i s hs
  have hfit:(segs.take i).flatten.length+s.length≤segs.flatten.length:=by
   have hi:i< segs.length:=(List.getElem?_eq_some_iff.1 hs).1
   have e:segs=segs.take i++s::segs.drop (i+1):=by
    have:=(List.getElem?_eq_some_iff.1 hs).2
    conv=>lhs;rw [← List.take_append_drop i segs]
    rw [List.drop_eq_getElem_cons hi,this]
   conv=>rhs;rw [e]
   simp
  have hc1:¬ (v.cells.size≠s.length):=by simpa using hv
  have hc2:¬ (segs.flatten.toArray.size< 0+(segs.take i).flatten.length+v.cells.size):=by rw [List.size_toArray,hv];omega
  have hfold:v.cells.zipIdx.foldl (fun cs (c,j)=>cs.setIfInBounds (0+(segs.take i).flatten.length+j) c) segs.flatten.toArray=((segs.set i v.cells.toList).flatten).toArray:=by
   rw [← Array.foldl_toList,Array.toList_zipIdx]
   have:=foldl_put v.cells.toList 0 (0+(segs.take i).flatten.length) segs.flatten.toArray (by simp only [List.size_toArray,Array.length_toList,hv];omega)
   refine this.trans ?_
   congr 1
   have h2:=seg_set segs i s v.cells.toList hs (by simpa using hv)
   simpa using h2
  have ih:=fill_segs parts (segs.set i v.cells.toList) (fun p hp'=>by
   obtain ⟨s',hs',hv'⟩:=h p (List.mem_cons_of_mem _ hp')
   by_cases e:i=p.1
   ·have hi:i< segs.length:=(List.getElem?_eq_some_iff.1 hs).1
    subst e
    rw [hs] at hs';cases hs'
    exact ⟨v.cells.toList,by simp [hi],by rw [hv'];simp [hv]⟩
   ·exact ⟨s',by rw [List.getElem?_set_ne e];exact hs',hv'⟩)
  rw [segPl_set segs 0 i s _ hs (by simpa using hv)] at ih
  simp only [Instr.fill,hp,List.foldl_cons]
  rw [if_neg (by simp only [Bool.or_eq_true,decide_eq_true_eq,not_or];exact ⟨hc1,by simpa using hc2⟩)]
  exact (congrArg (fun c=>Instr.fill _ c parts) hfold).trans ih
section
variable {P:Program} {t:List Value} {w:World} {o:Oper}
def PlOk (P:Program):List Field→List (Nat×Nat)→Prop
 |[],[]=>True
 |f::fs,(a,s)::pl=>f.offset=a∧(∀ w,(Go.sizeOf f.type).run P w= .ok s w)∧PlOk P fs pl
 |_,_=>False
def place1 (f:Field):Sem (Nat×Nat):=do pure (f.offset,← Go.sizeOf f.type)
theorem PlOk.run {P:Program} {w:World}:∀ {fs:List Field} {pl:List (Nat×Nat)},PlOk P fs pl→(fs.mapM place1).run P w= .ok pl w
 |[],[],_=>by simp
 |f::fs,(a,s)::pl,⟨h1,h2,h3⟩=>by
  have ih:=PlOk.run (P:=P) (w:=w) h3
  have e1:(place1 f).run P w= .ok (a,s) w:=by simp [place1,h2,h1]
  simp only [List.mapM_cons,Sem.run_bind,e1,Result.andThen_ok,ih]
  rfl
 |[],_::_,h=>h.elim
 |_::_,[],h=>h.elim
theorem build_eq (T:TypeId) (ps:Array (Nat×Value)):Instr.build T ps=(do
 let zero:=(← zeroValue T).cells
 match ← underlying T with
 | .struct fields=>
  let places ← fields.mapM place1
  let some cells := Instr.fill (places[·]?) zero ps.toList | stuck "build: no such field, or a part of the wrong size"
  pure (.agg cells)
 | .array _ elem=>
  let size ← Go.sizeOf elem
  let some cells := Instr.fill (fun i => some (i * size, size)) zero ps.toList | stuck "build: a part of the wrong size"
  pure (.agg cells)
 | _ => stuck "build: struct or array type expected") := rfl
theorem QbB {T:TypeId} {ps:List (Nat×Operand)} {fs:List Field} {segs:List (List Value)} {cs:List Value} (hop:o.op= .build T ps.toArray) (hT:P.underlying T=some (.struct fs.toArray))
 (hz:∀ w,(zeroValue T).run P w= .ok (.agg segs.flatten.toArray) w) (hpl:PlOk P fs (segPl 0 segs))
 (hps:∀ p∈ps.map (fun x=>(x.1,ev t x.2)),∃ s,segs[p.1]?=some s∧p.2.cells.size=s.length) (hc:((ps.map fun x=>(x.1,ev t x.2)).foldl (fun s p=>s.set p.1 p.2.cells.toList) segs).flatten=cs):
 (execOp (ev t) o).run P w= .ok (.value (.agg cs.toArray)) w:=by
 subst hc
 have hf:=fill_segs (ps.map fun x=>(x.1,ev t x.2)) segs hps
 refine Qb7 hop ?_
 have h1:=hpl.run (w:=w)
 have e1:(fun (x:Nat)=>(segPl 0 segs).toArray[x]?)=(fun (i:Nat)=>(segPl 0 segs)[i]?):=by funext x;simp
 have h2:(fs.toArray.mapM place1).run P w= .ok (segPl 0 segs).toArray w:=by rw [List.mapM_toArray];simp [h1]
 rw [build_eq]
 simp only [Sem.run_bind,hz,Result.andThen_ok,run_underlying hT,h2,Value.cells,e1,hf,Sem.run_pure]
end
theorem slCells {α:Type} {κ:K α} {w:World} {v:Value} {xs:List α} (h:RdRow κ w v xs):v.cells=[v].toArray:=by obtain ⟨A,cap,rfl,_⟩:=h;rfl
theorem slSize {α:Type} {κ:K α} {w:World} {v:Value} {xs:List α} (h:RdRow κ w v xs):v.cells.size=1:=by rw [slCells h];rfl
theorem slOne {α:Type} {κ:K α} {w:World} {v:Value} {xs:List α} (h:RdRow κ w v xs):v.oneCell'=true:=by obtain ⟨A,cap,rfl,_⟩:=h;rfl
def AllLt:Nat→(Nat→Prop)→Prop
 |0,_=>True
 |n+1,p=>AllLt n p∧p n
theorem AllLt.get:∀ {n:Nat} {p:Nat→Prop},AllLt n p→∀ i,i< n→p i
 |0,_,_,i,h=>by omega
 |n+1,p,⟨h1,h2⟩,i,h=>by
  by_cases e:i=n
  ·subst e;exact h2
  ·exact AllLt.get h1 i (by omega)
def predsOf (o:Oper):List Nat:=(o.after.toList.filter (Region.binds .any)).map (·.on)
def AllDone (D:Nat→Bool):List Nat→Prop
 |[]=>True
 |i::l=>D i=true∧AllDone D l
theorem AllDone.of {D:Nat→Bool}:∀ {l:List Nat},(∀ i∈l,D i=true)→AllDone D l
 |[],_=>trivial
 |i::l,h=>⟨h i (by simp),AllDone.of fun j hj=>h j (by simp [hj])⟩
def upd (D:Nat→Bool) (i j:Nat):Bool:=j==i||D j
def backB (ops:Array Oper) (m:Region.Mode) (rk:List Nat):Bool:=ops.toList.zipIdx.all fun (o,i)=>o.after.toList.all fun e=>!Region.binds m e||(rk.getD e.on 0< rk.getD i 0&&e.on< ops.size)
section
variable {P:Program} {f:FuncId} {R:Ending→World→Prop} {k:List Item} {t:List Value} {w:World} {ops:Array Oper}
def goTail (m:Region.Mode) (ops:Array Oper):Nat→Nat→Array Bool→List Nat
 |0,_,_=>[]
 |fuel+1,t,listed=>
  let rs:=(List.range ops.size).filter fun i=>!listed.getD i true&&((ops[i]?).map (·.after.all fun e=>!Region.binds m e||listed.getD e.on false)).getD false
  match rs[t%rs.length]? with
  |some i=>i::goTail m ops fuel (t/rs.length) (listed.setIfInBounds i true)
  |none=>[]
theorem go_tail (m:Region.Mode) (ops:Array Oper):∀ (fuel t:Nat) (listed:Array Bool) (acc:List Nat),Region.linearise.go m ops fuel t listed acc=acc.reverse++goTail m ops fuel t listed
 |0,t,listed,acc=>by simp [Region.linearise.go,goTail]
 |fuel+1,t,listed,acc=>by
  simp only [Region.linearise.go,goTail]
  generalize ((List.range ops.size).filter fun i=>!listed.getD i true&&((ops[i]?).map (·.after.all fun e=>!Region.binds m e||listed.getD e.on false)).getD false)=rs
  cases h:rs[t%rs.length]? with
  |some i=>
   simp only []
   rw [go_tail m ops fuel]
   simp
  |none=>simp
theorem any_tail (m:Region.Mode) (rk:List Nat) (hback:backB ops m rk=true) (Inv:(Nat→Bool)→List Value→World→Prop)
 (hs:∀ i,i< ops.size→∀ D t w,D i=false→(∀ e∈(ops[i]?).map predsOf|>.getD [],D e=true)→Inv D t w→∀ rest,(∀ t w,Inv (upd D i) t w→G P f R (.inRegion ops rest::k) t w)→G P f R (.inRegion ops (i::rest)::k) t w)
 (hend:∀ D t w,(∀ i,i< ops.size→D i=true)→Inv D t w→G P f R k t w):
 ∀ (fuel:Nat) (s:Nat) (listed:Array Bool) (t:List Value) (w:World),listed.size=ops.size→(listed.toList.filter (fun b=>!b)).length≤fuel→Inv (fun i=>listed.getD i true) t w→
  G P f R (.inRegion ops (goTail m ops fuel s listed)::k) t w:=by
 have hb:∀ i (o:Oper),ops[i]?=some o→∀ e∈o.after.toList,Region.binds m e=true→rk.getD e.on 0< rk.getD i 0∧e.on< ops.size:=by
  intro i o ho e he hm
  have h1:=List.all_eq_true.1 hback (o,i) (by
   rw [List.mem_iff_getElem?]
   refine ⟨i,?_⟩
   simp [List.getElem?_zipIdx]
   simpa using ho)
  have h2:=List.all_eq_true.1 h1 e he
  simpa [hm] using h2
 intro fuel
 induction fuel with
 |zero=>
  intro s listed t w hsz hc hI
  simp only [goTail]
  refine Qab (hend _ t w (fun i hi=>?_) hI)
  have hnil:listed.toList.filter (fun b=>!b)=[]:=List.eq_nil_of_length_eq_zero (by omega)
  have hi':i< listed.size:=by omega
  have:=List.filter_eq_nil_iff.1 hnil (listed[i]) (by simp)
  simpa [Array.getD,hi'] using this
 |succ fuel ih=>
  intro s listed t w hsz hc hI
  simp only [goTail]
  generalize hrs:((List.range ops.size).filter fun i=>!listed.getD i true&&((ops[i]?).map (·.after.all fun e=>!Region.binds m e||listed.getD e.on false)).getD false)=rs
  split
  ·rename_i i hi
   have hmem:i∈rs:=List.mem_of_getElem? hi
   rw [← hrs,List.mem_filter,List.mem_range] at hmem
   obtain ⟨hlt,hready⟩:=hmem
   simp only [Bool.and_eq_true,Bool.not_eq_true'] at hready
   obtain ⟨h1,h2⟩:=hready
   have ho:ops[i]?=some ops[i]:=Array.getElem?_eq_getElem hlt
   refine hs i hlt _ t w h1 ?_ hI _ ?_
   ·intro e he
    rw [ho] at he h2
    simp only [Option.map_some,Option.getD_some,predsOf,List.mem_map,List.mem_filter] at he h2
    obtain ⟨ed,⟨hed,hbd⟩,rfl⟩:=he
    rw [Array.all_eq_true] at h2
    obtain ⟨j,hj,rfl⟩:=List.mem_iff_getElem.1 hed
    have h3:=h2 j (by simpa using hj)
    have hbm:Region.binds m (ops[i].after.toList[j])=true:=by
     revert hbd
     simp only [Region.binds]
     cases (ops[i].after.toList[j]).ground<;>simp
    simp only [Array.getElem_toList] at hbm ⊢
    rw [hbm] at h3
    simp only [Bool.not_true,Bool.false_or] at h3
    have hlt2:(ops[i].after[j]).on< listed.size:=by
     rcases Nat.lt_or_ge (ops[i].after[j]).on listed.size with h|h
     ·exact h
     ·rw [Array.getD,dif_neg (by omega)] at h3;cases h3
    rw [Array.getD,dif_pos hlt2] at h3 ⊢
    exact h3
   ·intro t w hI'
    refine ih _ _ t w (by simpa using hsz) ?_ ?_
    ·have hil:i< listed.size:=by omega
     have hfi:listed[i]=false:=by simpa [Array.getD,hil] using h1
     have:((listed.setIfInBounds i true).toList.filter (fun b=>!b)).length+1=(listed.toList.filter (fun b=>!b)).length:=by
      have key:∀ (l:List Bool) (i:Nat),l[i]?=some false→((l.set i true).filter (fun b=>!b)).length+1=(l.filter (fun b=>!b)).length:=by
       intro l
       induction l with
       |nil=>intro i h;simp at h
       |cons a l ihl=>
        intro i h
        cases i with
        |zero=>simp at h;subst h;simp
        |succ i=>
         have:=ihl i (by simpa using h)
         simp only [List.set_cons_succ]
         cases a<;>simp [List.filter_cons]<;>omega
      simpa using key listed.toList i (by simp [hil,hfi])
     omega
    ·have:(fun j=>(listed.setIfInBounds i true).getD j true)=upd (fun j=>listed.getD j true) i:=by
      funext j
      simp only [upd,Array.getD_eq_getD_getElem?,Array.getElem?_setIfInBounds]
      by_cases e:i=j
      ·subst e
       by_cases hl:i< listed.size<;>simp [hl]
      ·have e':¬ j=i:=fun h=>e h.symm
       simp [e,e']
     rw [this]
     exact hI'
  ·rename_i hi
   have hnil:rs=[]:=by
    cases hr:rs with
    |nil=>rfl
    |cons a l=>
     rw [hr] at hi
     have:=Nat.mod_lt s (show 0< (a::l).length by simp)
     rw [List.getElem?_eq_none_iff] at hi
     omega
   refine Qab (hend _ t w (fun i hi'=>?_) hI)
   generalize hrk:rk.getD i 0=q
   induction q using Nat.strongRecOn generalizing i with
   |_ q ihi=>
    cases hd:listed.getD i true with
    |true=>rfl
    |false=>
     exfalso
     have ho:ops[i]?=some ops[i]:=Array.getElem?_eq_getElem hi'
     have:i∈rs:=by
      rw [← hrs,List.mem_filter,List.mem_range]
      refine ⟨hi',?_⟩
      rw [ho]
      simp only [hd,Bool.not_false,Option.map_some,Option.getD_some,Bool.true_and,Array.all_eq_true]
      intro j hj
      cases hbm:Region.binds m ops[i].after[j] with
      |false=>rfl
      |true=>
      obtain ⟨hlt,hlt3⟩:=hb i _ ho (ops[i].after[j]) (by simp) hbm
      have h4:=ihi _ (by omega) _ hlt3 rfl
      have hlt2:(ops[i].after[j]).on< listed.size:=by omega
      rw [Array.getD,dif_pos hlt2] at h4
      rw [Array.getD,dif_pos hlt2]
      show (!true||listed[(ops[i].after[j]).on])=true
      have h5:listed[(ops[i].after[j]).on]=true:=h4
      rw [h5,Bool.or_true]
     rw [hnil] at this
     cases this
theorem Qcl {id:Nat} {n:Nat} (hn:ops.size=n) (r1 r2:List Nat) (hb1:backB ops .text r1=true) (hb2:backB ops .gc r2=true) (Inv:(Nat→Bool)→List Value→World→Prop) (h0:∀ w',w'.heap=w.heap→Below w.heap.size w w'→Inv (fun _=>false) t w')
 (hs:AllLt n fun i=>∀ D t w,D i=false→AllDone D ((ops[i]?).map predsOf|>.getD [])→(AllLt n fun j=>D j=true→AllDone D ((ops[j]?).map predsOf|>.getD []))→Inv D t w→∀ rest,(∀ t w,Inv (upd D i) t w→G P f R (.inRegion ops rest::k) t w)→G P f R (.inRegion ops (i::rest)::k) t w)
 (hend:∀ D t w,(∀ i,i< n→D i=true)→Inv D t w→G P f R k t w):G P f R (.code (.region id ops true)::k) t w:=by
 subst hn
 refine QcD fun s=>?_
 have hb0:backB ops .any r1=true:=by
  unfold backB at hb1 ⊢
  rw [List.all_eq_true] at hb1 ⊢
  intro x hx
  have h1:=hb1 x hx
  rw [List.all_eq_true] at h1 ⊢
  intro e he
  have h2:=h1 e he
  revert h2
  simp only [Region.binds]
  cases e.ground<;>simp
 have key:∀ m rk s',backB ops m rk=true→G P f R (.inRegion ops (Region.linearise m ops s')::k) t { w with drawn:=w.drawn+1 }:=by
  intro m rk s' hback
  have e:Region.linearise m ops s'=goTail m ops ops.size s' (Array.replicate ops.size false):=by
   unfold Region.linearise
   rw [go_tail];simp
  rw [e]
  have mk:∀ {n:Nat} {p:Nat→Prop},(∀ i,i< n→p i)→AllLt n p:=by
   intro n p
   induction n with
   |zero=>exact fun _=>trivial
   |succ n ih=>exact fun h=>⟨ih fun i hi=>h i (by omega),h n (by omega)⟩
  refine any_tail m rk hback (fun D t w=>(∀ j,j< ops.size→D j=true→AllDone (fun i=>if i< ops.size then D i else false) ((ops[j]?).map predsOf|>.getD []))∧Inv (fun i=>if i< ops.size then D i else false) t w) ?_ ?_ _ _ _ _ _ (by simp) (by simp) ?_
  ·intro i hi D t w hD hp ⟨hcl,hI⟩ rest hk
   have hpD:AllDone (fun i=>if i< ops.size then D i else false) ((ops[i]?).map predsOf|>.getD []):=AllDone.of fun e he=>by
    have ho:ops[i]?=some ops[i]:=Array.getElem?_eq_getElem hi
    have he':=he
    rw [ho] at he'
    simp only [Option.map_some,Option.getD_some,predsOf,List.mem_map,List.mem_filter] at he'
    obtain ⟨ed,⟨hed,hbd⟩,rfl⟩:=he'
    have h1:=List.all_eq_true.1 hb0 (ops[i],i) (by
     rw [List.mem_iff_getElem?]
     exact ⟨i,by simp [List.getElem?_zipIdx,hi]⟩)
    have h2:=List.all_eq_true.1 h1 ed hed
    have h3:ed.on< ops.size:=by
     simp only [hbd,Bool.not_true,Bool.false_or,Bool.and_eq_true,decide_eq_true_eq] at h2
     exact h2.2
    simp [hp _ he,h3]
   refine hs.get i hi _ t w (by simp [hi,hD]) hpD (mk fun j hj hDj=>?_) hI rest fun t w hI'=>hk t w ⟨?_,?_⟩
   ·exact hcl j hj (by simpa [hj] using hDj)
   ·intro j hj hDj
    have up:∀ l,AllDone (fun i=>if i< ops.size then D i else false) l→AllDone (fun i_1=>if i_1< ops.size then upd D i i_1 else false) l:=by
     intro l
     induction l with
     |nil=>exact fun _=>trivial
     |cons a l ih=>
      intro h
      refine ⟨?_,ih h.2⟩
      have h1:=h.1
      by_cases ha:a< ops.size
      ·simp only [ha,if_true] at h1 ⊢
       simp [upd,h1]
      ·simp [ha] at h1
    by_cases e:j=i
    ·subst e;exact up _ hpD
    ·exact up _ (hcl j hj (by simpa [upd,e] using hDj))
   ·have:(fun j=>if j< ops.size then upd D i j else false)=upd (fun j=>if j< ops.size then D j else false) i:=by
     funext j
     by_cases hj:j< ops.size
     ·simp [upd,hj]
     ·have:¬ j=i:=by omega
      simp [upd,hj,this]
    rw [this];exact hI'
  ·intro D t w hD hI
   exact hend _ t w (fun i hi=>by simp [hi,hD i hi]) hI.2
  ·have e0:(fun i=>if i< ops.size then (Array.replicate ops.size false).getD i true else false)=fun _=>false:=by
    funext i
    by_cases hi:i< ops.size<;>simp [hi,Array.getD]
   simp only [e0]
   refine ⟨fun j hj hD=>by simp [Array.getD,hj] at hD,?_⟩
   exact h0 { w with drawn:=w.drawn+1 } rfl ⟨rfl,rfl,rfl,Nat.le_refl _,fun _ _=>rfl⟩
 unfold Region.schedule
 split
 ·exact key _ _ _ hb0
 ·split
  ·exact key _ _ _ hb1
  ·exact key _ _ _ hb2
end
def Asc (b:Bool) (A:As):As:=match b with|true=>A|false=>As.emp
theorem St.fill {w0 w:World} {Γ:List As} {A:As} (h:St w0 (A::Γ) w) (j:Nat) (hj:Γ[j]?=some As.emp):St w0 (Γ.set j A) w:=by
 have p1:=perm_pull Γ j As.emp hj
 have h1:St w0 (A::As.emp::Γ.eraseIdx j) w:=h.perm (List.Perm.cons A p1)
 have h2:St w0 (As.emp::A::Γ.eraseIdx j) w:=h1.perm (List.Perm.swap _ _ _)
 refine (h2.drop).perm ?_
 have hlt:j< Γ.length:=(List.getElem?_eq_some_iff.1 hj).1
 have p2:=perm_pull (Γ.set j A) j A (by simp [hlt])
 have e:(Γ.set j A).eraseIdx j=Γ.eraseIdx j:=by
  apply List.ext_getElem?
  intro i
  simp only [List.getElem?_eraseIdx,List.getElem?_set]
  by_cases h1:i< j
  ·have:¬ j=i:=by omega
   simp [h1,this]
  ·have:¬ j=i+1:=by omega
   simp [h1,this]
 rw [e] at p2
 exact p2.symm
theorem not_yet {D:Nat→Bool} {j:Nat} {l:List Nat} (h:D j=true→AllDone D l) (pos a:Nat) (hl:l[pos]?=some a) (hf:D a=false):D j=false:=by
 have all:∀ (l:List Nat) (pos:Nat),l[pos]?=some a→AllDone D l→D a=true:=by
  intro l
  induction l with
  |nil=>intro pos h;simp at h
  |cons b l ih=>
   intro pos hp hd
   cases pos with
   |zero=>simp at hp;subst hp;exact hd.1
   |succ pos=>exact ih pos (by simpa using hp) hd.2
 cases hj:D j with
 |false=>rfl
 |true=>rw [all l pos hl (h hj)] at hf;cases hf
theorem St.cast {w0 w:World} {Γ Γ':List As} (h:St w0 Γ w) (e:Γ=Γ'):St w0 Γ' w:=e▸h
theorem St.push {w0 w:World} {Γ:List As} {A:As} (h:St w0 (A::Γ) w) (j:Nat) (hj:j≤Γ.length):St w0 (Γ.take j++A::Γ.drop j) w:=by
 refine h.perm ?_
 have:(A::Γ).Perm (A::(Γ.take j++Γ.drop j)):=by rw [List.take_append_drop]
 exact this.trans List.perm_middle.symm
theorem St.samew {w0 w w':World} {Γ:List As} (h:St w0 Γ w) (hh:w'.heap=w.heap) (hb:Below w.heap.size w w'):St w0 Γ w':=by
 obtain ⟨hb0,F,hs,hn,hl⟩:=h
 exact ⟨hb0.trans (hb.mono hb0.size),F,Sep.loc (w:=w) (fun b _=>by rw [hh]) hs,hn,hl⟩
theorem sl_at {α:Type} {κ:K α} {w:World} {v:Value} {xs:List α} {n:Int} (h:RdRow κ w v xs) (h0:0≤n) (h1:n< xs.length):∃ ad N c,v= .slice (some ad) N c:=by
 obtain ⟨A,cap,rfl,hc,he⟩:=h
 obtain ⟨ad,es,rfl,_⟩:=he n.toNat (by omega)
 exact ⟨ad,_,_,rfl⟩
section
variable {P:Program} {f:FuncId} {R:Ending→World→Prop} {k:List Item} {t:List Value} {w0 w:World} {Γ:List As} {ops:Array Oper} {i:Nat} {rest:List Nat} {o:Oper}
theorem add_add (ad:Addr) (a j:Nat):(ad.add a).add j=ad.add (a+j):=by
 unfold Addr.add
 by_cases e1:a=0<;>by_cases e2:j=0<;>simp [e1,e2]
 ·omega
theorem cellsAt_of {α:Type} {κ:K α} {enc:α→List Value} (fk:Flat κ enc) (z:α) {v:Value} {xs:List α} {n:Int} (h:RdRow κ w v xs) {ad:Addr} {N c:Nat} (hv:v= .slice (some ad) N c) (h0:0≤n) (h1:n< xs.length):
 CellsAt w (ad.add (n.toNat*κ.n)) (enc (rdL xs n z)):=by
 obtain ⟨A,cap,e,hc,he⟩:=h
 rw [hv] at e
 cases e
 obtain ⟨ad',es,e',_,hcell,hr⟩:=he n.toNat (by omega)
 cases e'
 have:=fk.rd.1 hr
 rw [rdL_get (z:=z)] at this
 subst this
 intro j u hj
 rw [add_add]
 exact hcell j u hj
theorem Qcn {α:Type} {κ:K α} {v:Value} {xs:List α} {T E:TypeId} {m:Nat} (hm:κ.n=m) (hr:RdRow κ w v xs) (hT:P.underlying T=some (.slice E)) (hsz:∀ w,(Go.sizeOf E).run P w= .ok κ.n w) {n:Int} (h0:0≤n) (h1:n< xs.length)
 {ad:Addr} {N c:Nat} (hv:v= .slice (some ad) N c) (ho:ops[i]?=some o) (hw:Region.wanted o (yl ops t)=true) {x ix:Operand} {q:IntKind}
 (hop:o.op= .indexAddr T x ix) (hx:ev t x=v) (hi:ev t ix= .int q n)
 (hk:G P f R (.inRegion ops rest::k) (put t o.dst (.pointer (some (ad.add (n.toNat*m))))) w):G P f R (.inRegion ops (i::rest)::k) t w:=by
 subst hm
 obtain ⟨A,cap,e,hc,he⟩:=hr
 rw [hv] at e
 cases e
 refine Qaa (v:= .pointer (some (ad.add (n.toNat*κ.n)))) ho hw ?_ hk
 simp only [execOp,hop]
 exact run_value (by simp [Instr.indexAt,hx,hv,hi,asIntOf,run_underlying hT,h0,h1,hsz])
end
def Pack (Γ:List As):As:=⟨fun F w=>Sep w Γ F,fun h hs=>Sep.loc h hs,fun h=>Sep.lt h⟩
section
variable {w0 w:World} {Γ Γ':List As} {A:As}
theorem St.pack (n:Nat) (h:St w0 Γ w):St w0 (Γ.take n++[Pack (Γ.drop n)]) w:=by
 obtain ⟨hb,F,hs,hn,hl⟩:=h
 rw [← List.take_append_drop n Γ] at hs
 obtain ⟨F1,F2,rfl,h1,h2⟩:=hs.split
 exact ⟨hb,F1++F2,h1.append ⟨F2,[],by simp,h2,rfl⟩,hn,hl⟩
theorem St.unpack (h:St w0 (Γ++[Pack Γ']) w):St w0 (Γ++Γ') w:=by
 obtain ⟨hb,F,hs,hn,hl⟩:=h
 obtain ⟨F1,F2,rfl,h1,h2⟩:=hs.split
 obtain ⟨F3,F4,rfl,h3,h4⟩:=h2
 simp only [Sep] at h4
 subst h4
 refine ⟨hb,F1++F3,h1.append h3,by simpa using hn,by simpa using hl⟩
end
def oT (O:Nat→Value) (a:Nat) (r:List Value):List Value:=O (10*a)::O (10*a+1)::O (10*a+2)::O (10*a+3)::O (10*a+4)::O (10*a+5)::O (10*a+6)::O (10*a+7)::O (10*a+8)::O (10*a+9)::r
def Fr (t:List Value) (F:(Nat→Value)→List Value):Prop:=t=F fun i=>t.getD i undef
theorem Fr.open {t:List Value} {F:(Nat→Value)→List Value} (h:Fr t F):∃ O,t=F O:=⟨_,h⟩
section
variable {P:Program} {f:FuncId} {R:Ending→World→Prop} {k:List Item} {t:List Value} {w0 w:World} {Γ:List As} {ops:Array Oper} {i:Nat} {rest:List Nat} {o:Oper}
theorem Qbu (h:∀ T,T=t→G P f R k T w):G P f R k t w:=h t rfl
theorem QcF {x y:Operand} {T T':TypeId} {a b:ByteArray} (hop:o.op= .binOp .add T x y T') (hx:ev t x= .string a) (hy:ev t y= .string b) (h:(a.size:Int)+b.size≤9223372036854775807):
 (execOp (ev t) o).run P w= .ok (.value (.string (a++b))) w:=by
 have h1:¬ ((a.size+b.size:Nat):Int)>IntKind.i64.max:=by
  have:IntKind.i64.max=9223372036854775807:=rfl
  rw [this];omega
 simp only [execOp,hop]
 refine run_value ?_
 simp only [hx,hy,eqGuard,binOp,Op.stringOp,if_neg h1]
 rfl
theorem push_all:∀ (ns:List Int) (s:ByteArray),ns.foldl (fun r n=>r.push (UInt8.ofNat n.toNat)) s=s++bsOf ns
 |[],s=>by
  show s=s++bsOf []
  apply ByteArray.ext
  simp [bsOf,ByteArray.data_append]
 |n::ns,s=>by
  rw [List.foldl_cons,push_all ns]
  apply ByteArray.ext
  simp [bsOf,ByteArray.data_append]
theorem Qc5 {x:Operand} {T T' E:TypeId} {v:Value} {xs:List Int} (hop:o.op= .convert T T' x) (hT:P.underlying T=some (.slice E)) (hE:P.underlying E=some (.int .u8)) (hT':P.underlying T'=some .string)
 (hx:ev t x=v) (hr:RdRow (K.int .u8) w v xs):(execOp (ev t) o).run P w= .ok (.value (.string (bsOf xs))) w:=by
 simp only [execOp,hop]
 refine run_value ?_
 obtain ⟨A,cap,rfl,hc,he⟩:=hr
 rw [hx,run_convert_bytes_string w T T' E A _ _ hT hE hT']
 cases A with
 |none=>
  have:xs=[]:=by
   cases xs with
   |nil=>rfl
   |cons a l=>obtain ⟨ad,es,h,_⟩:=he 0 (by simp);cases h
  subst this
  rfl
 |some a=>
  have hl:=run_loadCells_list (P:=P) (w:=w) a (xs.map (Value.int .u8)) (fun j u hj=>by
   rw [List.getElem?_map] at hj
   have hj':j< xs.length:=by
    rcases Nat.lt_or_ge j xs.length with h|h
    ·exact h
    ·rw [List.getElem?_eq_none h] at hj;cases hj
   obtain ⟨ad,es,h,_,hcell,hrd⟩:=he j hj'
   cases h
   have hes:es=[.int .u8 xs[j]]:=hrd
   have:=hcell 0 (.int .u8 xs[j]) (by rw [hes];rfl)
   rw [List.getElem?_eq_getElem hj'] at hj
   simp at hj
   rw [← hj]
   simpa [K.int,K.fl] using this)
  rw [List.length_map] at hl
  rw [run_bytesToString w a _ _ xs hl,push_all]
  congr 2
theorem Qc4 {x:Operand} {T E:TypeId} {n:Nat} {b:Nat} (hop:o.op= .slice T x none none none) (hT:P.underlying T=some (.array n E)) (hsz:∀ w,∃ m,(Go.sizeOf E).run P w= .ok m w) (hx:ev t x= .pointer (some ⟨b,0,none⟩)):
 (execOp (ev t) o).run P w= .ok (.value (.slice (some ⟨b,0,none⟩) n n)) w:=by
 obtain ⟨m,hm⟩:=hsz w
 simp only [execOp,hop]
 refine run_value ?_
 simp [Instr.sliceAt,run_underlying hT,hx,Instr.sureAddr,Instr.sliceBounds,hm]
 intro;rfl
theorem rdBox {α:Type} {κ:K α} {enc:α→List Value} (fk:Flat κ enc) {n:Nat} {a:Ar α n} {b:Nat} {E:TypeId} {fz:Nat×Nat} (hb:w.heap[b]?=some (.cells (encA enc a).toArray E fz)):RdRow κ w (.slice (some ⟨b,0,none⟩) n n) a.l:=by
 refine ⟨some ⟨b,0,none⟩,n,by rw [a.h],by rw [a.h];exact Nat.le_refl _,fun i hi=>⟨⟨b,0,none⟩,enc a.l[i],rfl,(Array.getElem?_eq_some_iff.1 hb).1,fun j u hj=>?_,fk.rd.2 rfl⟩⟩
 have hlen:(enc a.l[i]).length=κ.n:=fk.len _
 have h1:((encA enc a).drop (i*κ.n)).take κ.n=enc a.l[i]:=by
  have:=encA_at (e:=enc) fk.len a (i:Int) a.l[i] (by omega) (by rw [a.h] at hi;omega)
  simp only [Int.toNat_natCast,Ar.get,List.getD,List.getElem?_eq_getElem hi,Option.getD_some] at this
  exact this
 have hj':j< κ.n:=by
  rcases Nat.lt_or_ge j κ.n with h|h
  ·exact h
  ·rw [List.getElem?_eq_none (by rw [hlen];exact h)] at hj;cases hj
 have h2:(encA enc a)[i*κ.n+j]?=some u:=by
  rw [← h1,List.getElem?_take,if_pos hj',List.getElem?_drop] at hj
  exact hj
 have h3:(⟨b,0,none⟩:Addr).add (i*κ.n+j)=⟨b,i*κ.n+j,none⟩:=by unfold Addr.add;split<;>simp_all
 rw [h3,cell_of_row w b _ _ E fz hb]
 simpa using h2
end
section
variable {P:Program} {f:FuncId} {R:Ending→World→Prop} {k:List Item} {t:List Value} {w:World} {ops:Array Oper}
def prd (ops:Array Oper) (i:Nat):List Nat:=((ops[i]?).map predsOf).getD []
inductive Ord (ops:Array Oper):(Nat→Bool)→List Nat→Prop
 |nil {D:Nat→Bool} (h:∀ i,i< ops.size→D i=true):Ord ops D []
 |cons {D:Nat→Bool} {i:Nat} {rest:List Nat} (hi:i< ops.size) (hD:D i=false) (hp:∀ e∈prd ops i,D e=true) (h:Ord ops (upd D i) rest):Ord ops D (i::rest)
theorem ord_tail (m:Region.Mode) (rk:List Nat) (hback:backB ops m rk=true):
 ∀ (fuel:Nat) (s:Nat) (listed:Array Bool),listed.size=ops.size→(listed.toList.filter (fun b=>!b)).length≤fuel→Ord ops (fun i=>listed.getD i true) (goTail m ops fuel s listed):=by
 have hb:∀ i (o:Oper),ops[i]?=some o→∀ e∈o.after.toList,Region.binds m e=true→rk.getD e.on 0< rk.getD i 0∧e.on< ops.size:=by
  intro i o ho e he hm
  have h1:=List.all_eq_true.1 hback (o,i) (by
   rw [List.mem_iff_getElem?]
   refine ⟨i,?_⟩
   simp [List.getElem?_zipIdx]
   simpa using ho)
  have h2:=List.all_eq_true.1 h1 e he
  simpa [hm] using h2
 intro fuel
 induction fuel with
 |zero=>
  intro s listed hsz hc
  simp only [goTail]
  refine .nil fun i hi=>?_
  have hnil:listed.toList.filter (fun b=>!b)=[]:=List.eq_nil_of_length_eq_zero (by omega)
  have hi':i< listed.size:=by omega
  have:=List.filter_eq_nil_iff.1 hnil (listed[i]) (by simp)
  simpa [Array.getD,hi'] using this
 |succ fuel ih=>
  intro s listed hsz hc
  simp only [goTail]
  generalize hrs:((List.range ops.size).filter fun i=>!listed.getD i true&&((ops[i]?).map (·.after.all fun e=>!Region.binds m e||listed.getD e.on false)).getD false)=rs
  split
  ·rename_i i hi
   have hmem:i∈rs:=List.mem_of_getElem? hi
   rw [← hrs,List.mem_filter,List.mem_range] at hmem
   obtain ⟨hlt,hready⟩:=hmem
   simp only [Bool.and_eq_true,Bool.not_eq_true'] at hready
   obtain ⟨h1,h2⟩:=hready
   have ho:ops[i]?=some ops[i]:=Array.getElem?_eq_getElem hlt
   refine .cons hlt h1 ?_ ?_
   ·intro e he
    unfold prd at he
    rw [ho] at he h2
    simp only [Option.map_some,Option.getD_some,predsOf,List.mem_map,List.mem_filter] at he h2
    obtain ⟨ed,⟨hed,hbd⟩,rfl⟩:=he
    rw [Array.all_eq_true] at h2
    obtain ⟨j,hj,rfl⟩:=List.mem_iff_getElem.1 hed
    have h3:=h2 j (by simpa using hj)
    have hbm:Region.binds m (ops[i].after.toList[j])=true:=by
     revert hbd
     simp only [Region.binds]
     cases (ops[i].after.toList[j]).ground<;>simp
    simp only [Array.getElem_toList] at hbm ⊢
    rw [hbm] at h3
    simp only [Bool.not_true,Bool.false_or] at h3
    have hlt2:(ops[i].after[j]).on< listed.size:=by
     rcases Nat.lt_or_ge (ops[i].after[j]).on listed.size with h|h
     ·exact h
     ·rw [Array.getD,dif_neg (by omega)] at h3;cases h3
    rw [Array.getD,dif_pos hlt2] at h3 ⊢
    exact h3
   ·have:(fun j=>(listed.setIfInBounds i true).getD j true)=upd (fun j=>listed.getD j true) i:=by
     funext j
     simp only [upd,Array.getD_eq_getD_getElem?,Array.getElem?_setIfInBounds]
     by_cases e:i=j
     ·subst e
      by_cases hl:i< listed.size<;>simp [hl]
     ·have e':¬ j=i:=fun h=>e h.symm
      simp [e,e']
    rw [← this]
    refine ih _ _ (by simpa using hsz) ?_
    have hil:i< listed.size:=by omega
    have hfi:listed[i]=false:=by simpa [Array.getD,hil] using h1
    have:((listed.setIfInBounds i true).toList.filter (fun b=>!b)).length+1=(listed.toList.filter (fun b=>!b)).length:=by
     have key:∀ (l:List Bool) (i:Nat),l[i]?=some false→((l.set i true).filter (fun b=>!b)).length+1=(l.filter (fun b=>!b)).length:=by
      intro l
      induction l with
      |nil=>intro i h;simp at h
      |cons a l ihl=>
       intro i h
       cases i with
       |zero=>simp at h;subst h;simp
       |succ i=>
        have:=ihl i (by simpa using h)
        simp only [List.set_cons_succ]
        cases a<;>simp [List.filter_cons]<;>omega
     simpa using key listed.toList i (by simp [hil,hfi])
    omega
  ·rename_i hi
   have hnil:rs=[]:=by
    cases hr:rs with
    |nil=>rfl
    |cons a l=>
     rw [hr] at hi
     have:=Nat.mod_lt s (show 0< (a::l).length by simp)
     rw [List.getElem?_eq_none_iff] at hi
     omega
   refine .nil fun i hi'=>?_
   generalize hrk:rk.getD i 0=q
   induction q using Nat.strongRecOn generalizing i with
   |_ q ihi=>
    cases hd:listed.getD i true with
    |true=>rfl
    |false=>
     exfalso
     have ho:ops[i]?=some ops[i]:=Array.getElem?_eq_getElem hi'
     have:i∈rs:=by
      rw [← hrs,List.mem_filter,List.mem_range]
      refine ⟨hi',?_⟩
      rw [ho]
      simp only [hd,Bool.not_false,Option.map_some,Option.getD_some,Bool.true_and,Array.all_eq_true]
      intro j hj
      cases hbm:Region.binds m ops[i].after[j] with
      |false=>rfl
      |true=>
      obtain ⟨hlt,hlt3⟩:=hb i _ ho (ops[i].after[j]) (by simp) hbm
      have h4:=ihi _ (by omega) _ hlt3 rfl
      have hlt2:(ops[i].after[j]).on< listed.size:=by omega
      rw [Array.getD,dif_pos hlt2] at h4
      rw [Array.getD,dif_pos hlt2]
      show (!true||listed[(ops[i].after[j]).on])=true
      have h5:listed[(ops[i].after[j]).on]=true:=h4
      rw [h5,Bool.or_true]
     rw [hnil] at this
     cases this
abbrev OrdM (ops:Array Oper) (n:Nat) (m:Nat) (rest:List Nat):Prop:=Ord ops (fun j=>m.testBit j||decide (n≤j)) rest
theorem Qcj {id:Nat} {n:Nat} (hn:ops.size=n) (r1 r2:List Nat) (hb1:backB ops .text r1=true) (hb2:backB ops .gc r2=true)
 (h:∀ rest w',w'.heap=w.heap→Below w.heap.size w w'→OrdM ops n 0 rest→G P f R (.inRegion ops rest::k) t w'):G P f R (.code (.region id ops true)::k) t w:=by
 subst hn
 refine QcD fun s=>?_
 have hb0:backB ops .any r1=true:=by
  unfold backB at hb1 ⊢
  rw [List.all_eq_true] at hb1 ⊢
  intro x hx
  have h1:=hb1 x hx
  rw [List.all_eq_true] at h1 ⊢
  intro e he
  have h2:=h1 e he
  revert h2
  simp only [Region.binds]
  cases e.ground<;>simp
 have key:∀ m rk s',backB ops m rk=true→G P f R (.inRegion ops (Region.linearise m ops s')::k) t { w with drawn:=w.drawn+1 }:=by
  intro m rk s' hback
  have e:Region.linearise m ops s'=goTail m ops ops.size s' (Array.replicate ops.size false):=by
   unfold Region.linearise
   rw [go_tail];simp
  rw [e]
  refine h _ { w with drawn:=w.drawn+1 } rfl ⟨rfl,rfl,rfl,Nat.le_refl _,fun _ _=>rfl⟩ ?_
  have q:=ord_tail m rk hback ops.size s' (Array.replicate ops.size false) (by simp) (by
   refine Nat.le_trans (List.length_filter_le _ _) (by simp))
  have e0:(fun i=>(Array.replicate ops.size false).getD i true)=fun j=>(0:Nat).testBit j||decide (ops.size≤j):=by
   funext i
   by_cases hi:i< ops.size
   ·simp [hi,Array.getD,Nat.not_le.2 hi]
   ·simp [hi,Array.getD,Nat.le_of_not_lt hi]
  rw [e0] at q
  exact q
 unfold Region.schedule
 split
 ·exact key _ _ _ hb0
 ·split
  ·exact key _ _ _ hb1
  ·exact key _ _ _ hb2
def onlyB (ops:Array Oper) (n m i:Nat):Bool:=
 !m.testBit i&&decide (i< n)&&(List.range n).all fun j=>m.testBit j||j==i||!((prd ops j).all fun e=>m.testBit e||decide (n≤e))
theorem upd_mask {n m i:Nat}:upd (fun j=>m.testBit j||decide (n≤j)) i=fun j=>(m|||1 <<< i).testBit j||decide (n≤j):=by
 funext j
 simp only [upd,Nat.testBit_or,Nat.one_shiftLeft,Nat.testBit_two_pow]
 by_cases h:j=i
 ·subst h;simp
 ·have h':¬ i=j:=fun e=>h e.symm
  simp [h,h']
theorem ord_one {n m:Nat} {rest:List Nat} (h:OrdM ops n m rest) (hn:ops.size=n) (i:Nat) {m':Nat} (ho:onlyB ops n m i=true) (hm:m|||1 <<< i=m'):∃ rest',rest=i::rest'∧OrdM ops n m' rest':=by
 subst hn hm
 simp only [onlyB,Bool.and_eq_true,Bool.not_eq_true',decide_eq_true_eq,List.all_eq_true,List.mem_range,Bool.or_eq_true,beq_iff_eq,Bool.not_eq_true'] at ho
 obtain ⟨⟨h1,h2⟩,h3⟩:=ho
 cases h with
 |nil hd=>
  have:=hd i h2
  simp [h1,Nat.not_le.2 h2] at this
 |@cons _ j rest hi hD hp hrest=>
  have hj:j=i:=by
   rcases h3 j hi with h|h
   ·rcases h with h|h
    ·simp [h] at hD
    ·exact h
   ·exfalso
    rw [List.all_eq_false] at h
    obtain ⟨e,he,hf⟩:=h
    exact hf (hp e he)
  subst hj
  refine ⟨_,rfl,?_⟩
  unfold OrdM
  rw [← upd_mask]
  exact hrest
theorem ord_end {n m:Nat} {rest:List Nat} (h:OrdM ops n m rest) (hn:ops.size=n) (ho:((List.range n).all fun j=>m.testBit j)=true):rest=[]:=by
 subst hn
 cases h with
 |nil _=>rfl
 |@cons _ j rest hi hD hp hrest=>
  rw [List.all_eq_true] at ho
  have:=ho j (List.mem_range.2 hi)
  simp [this] at hD
def AllOf:List Nat→(Nat→Prop)→Prop
 |[],_=>True
 |i::l,p=>p i∧AllOf l p
theorem AllOf.get:∀ {l:List Nat} {p:Nat→Prop},AllOf l p→∀ i∈l,p i
 |[],_,_,i,h=>by cases h
 |a::l,p,h,i,hi=>by
  rcases List.mem_cons.1 hi with rfl|hi
  ·exact h.1
  ·exact AllOf.get h.2 i hi
def layerB (ops:Array Oper) (n m0 m1:Nat) (L A:List Nat):Bool:=
 ((List.range n).all fun j=>(List.range n).all fun i=>!(A.getD j 0).testBit i||(prd ops j).any fun e=>e==i||(A.getD e 0).testBit i)&&
 ((List.range n).all fun j=>!m0.testBit j||((List.range n).all fun i=>!(A.getD j 0).testBit i||m0.testBit i)&&(prd ops j).all fun e=>m0.testBit e)&&
 ((List.range n).all fun j=>m1.testBit j||(List.range n).all fun i=>!m1.testBit i||m0.testBit i||(A.getD j 0).testBit i)&&
 ((List.range n).all fun j=>if m0.testBit j then m1.testBit j&&!L.contains j else m1.testBit j==L.contains j)&&
 ((List.range n).all fun j=>(prd ops j).all fun e=>decide (e< n))
theorem QbV {n m0:Nat} {rest:List Nat} (hO:OrdM ops n m0 rest) (hn:ops.size=n) (m1:Nat) (L A:List Nat) (hB:layerB ops n m0 m1 L A=true) (Inv:(Nat→Bool)→List Value→World→Prop)
 (h0:Inv (fun j=>m0.testBit j||decide (n≤j)) t w)
 (hs:AllOf L fun i=>∀ D t w,D i=false→AllDone D (prd ops i)→(∀ j,j< n→D j=true→AllDone D (prd ops j))→Inv D t w→∀ rest,(∀ t w,Inv (upd D i) t w→G P f R (.inRegion ops rest::k) t w)→G P f R (.inRegion ops (i::rest)::k) t w)
 (hend:∀ D t w rest,(∀ i,i< n→m1.testBit i=true→D i=true)→OrdM ops n m1 rest→Inv D t w→G P f R (.inRegion ops rest::k) t w):G P f R (.inRegion ops rest::k) t w:=by
 subst hn
 simp only [layerB,Bool.and_eq_true,List.all_eq_true,List.mem_range] at hB
 obtain ⟨⟨⟨⟨b1,b2⟩,b3⟩,b4⟩,b5⟩:=hB
 have main:∀ (rest:List Nat) (D:Nat→Bool) (t:List Value) (w:World),Ord ops D rest→(∀ j,ops.size≤j→D j=true)→(∀ j,j< ops.size→m0.testBit j=true→D j=true)→(∀ j,j< ops.size→D j=true→m1.testBit j=true)→
  (∀ j,j< ops.size→D j=true→(∀ i,i< ops.size→(A.getD j 0).testBit i=true→D i=true))→(∀ j,j< ops.size→D j=true→AllDone D (prd ops j))→Inv D t w→G P f R (.inRegion ops rest::k) t w:=by
  intro rest
  induction rest with
  |nil=>
   intro D t w hO hout h0 h1 hA hcl hI
   cases hO with
   |nil hd=>
    have hall:∀ j,j< ops.size→m1.testBit j=true:=fun j hj=>h1 j hj (hd j hj)
    exact hend D t w [] (fun i hi _=>hd i hi) (.nil fun i hi=>by simp [hall i hi]) hI
  |cons i rest ih=>
   intro D t w hO hout h0 h1 hA hcl hI
   have hO':=hO
   cases hO with
   |cons hi hD hp hrest=>
    by_cases hm:m1.testBit i=true
    ·
     have hL:i∈L:=by
      have q:=b4 i hi
      have n0:m0.testBit i=false:=by
       cases e:m0.testBit i with
       |false=>rfl
       |true=>rw [h0 i hi e] at hD;cases hD
      rw [n0,hm] at q
      simpa using q
     refine hs.get i hL D t w hD (AllDone.of hp) hcl hI rest fun t w hI'=>ih (upd D i) t w hrest ?_ ?_ ?_ ?_ ?_ hI'
     ·intro j hj;simp [upd,hout j hj]
     ·intro j hj h;simp [upd,h0 j hj h]
     ·intro j hj h
      by_cases e:j=i
      ·subst e;exact hm
      ·exact h1 j hj (by simpa [upd,e] using h)
     ·intro j hj h q hq hAq
      by_cases e:j=i
      ·subst e
       have r:=b1 j hj q hq
       rw [hAq] at r
       simp only [Bool.not_true,Bool.false_or,List.any_eq_true,Bool.or_eq_true,beq_iff_eq] at r
       obtain ⟨e',he',hh⟩:=r
       have hde:=hp e' he'
       rcases hh with rfl|hh
       ·simp [upd,hde]
       ·have:=hA e' (by simpa using b5 j hj e' he') hde q hq hh
        simp [upd,this]
      ·have:=hA j hj (by simpa [upd,e] using h) q hq hAq
       simp [upd,this]
     ·intro j hj h
      have up:∀ l,AllDone D l→AllDone (upd D i) l:=by
       intro l
       induction l with
       |nil=>exact fun _=>trivial
       |cons a l ih=>exact fun h=>⟨by simp [upd,h.1],ih h.2⟩
      by_cases e:j=i
      ·subst e;exact up _ (AllDone.of hp)
      ·exact up _ (hcl j hj (by simpa [upd,e] using h))
    ·
     have hall:∀ j,j< ops.size→m1.testBit j=true→D j=true:=by
      intro j hj hmj
      by_cases e0:m0.testBit j=true
      ·exact h0 j hj e0
      ·have q:=b3 i hi
       rw [Bool.eq_false_iff.2 hm] at q
       simp only [Bool.false_or,List.all_eq_true,List.mem_range] at q
       have q':=q j hj
       rw [hmj,Bool.eq_false_iff.2 e0] at q'
       simp only [Bool.not_true,Bool.false_or] at q'
       have r:=b1 i hi j hj
       rw [q'] at r
       simp only [Bool.not_true,Bool.false_or,List.any_eq_true,Bool.or_eq_true,beq_iff_eq] at r
       obtain ⟨e',he',hh⟩:=r
       have hde:=hp e' he'
       rcases hh with rfl|hh
       ·exact hde
       ·exact hA e' (by simpa using b5 i hi e' he') hde j hj hh
     have eD:D=fun j=>m1.testBit j||decide (ops.size≤j):=by
      funext j
      by_cases hj:j< ops.size
      ·cases e:D j with
       |true=>simp [h1 j hj e]
       |false=>
        have:¬ m1.testBit j=true:=fun h=>by rw [hall j hj h] at e;cases e
        simp [Bool.eq_false_iff.2 this,hj,Nat.not_le.2 hj]
      ·simp [hout j (by omega),Nat.le_of_not_lt hj]
     refine hend D t w (i::rest) hall ?_ hI
     rw [eD] at hO'
     exact hO'
 refine main rest _ t w hO ?_ ?_ ?_ ?_ ?_ h0
 ·intro j hj;simp [hj]
 ·intro j hj h;simp [h]
 ·intro j hj h
  simp only [Nat.not_le.2 hj,decide_false,Bool.or_false] at h
  have q:=b4 j hj
  rw [h] at q
  simp only [if_true,Bool.and_eq_true] at q
  exact q.1
 ·intro j hj h q hq hAq
  simp only [Nat.not_le.2 hj,decide_false,Bool.or_false] at h
  have r:=b2 j hj
  rw [h] at r
  simp only [Bool.not_true,Bool.false_or,Bool.and_eq_true,List.all_eq_true,List.mem_range] at r
  have r1:=r.1 q hq
  rw [hAq] at r1
  simp only [Bool.not_true,Bool.false_or] at r1
  simp [r1]
 ·intro j hj h
  simp only [Nat.not_le.2 hj,decide_false,Bool.or_false] at h
  have r:=b2 j hj
  rw [h] at r
  simp only [Bool.not_true,Bool.false_or,Bool.and_eq_true,List.all_eq_true,List.mem_range] at r
  exact AllDone.of fun e he=>by simp [r.2 e he]
end
theorem St.box {w0 w:World} {Γ:List As} {b:Nat} {o:Obj} (hs:St w0 Γ w) (hp:w0.heap[b]?=some o):w.heap[b]?=some o:=by
 rw [hs.below.block b (Array.getElem?_eq_some_iff.1 hp).1]
 exact hp
end Go.Proofs.YtdnipilfcjkfoaaGreatDoorX
namespace Go.Proofs.YtdnipilfcjkfoaaGreatDoorX
open Go Go.RowKit
set_option linter.unusedVariables false
set_option linter.unusedSectionVars false
set_option linter.unusedSimpArgs false
section
variable {P:Program} {f:FuncId} {R:Ending→World→Prop} {k:List Item} {t:List Value} {w0 w:World} {Γ:List As} {ops:Array Oper} {i:Nat} {rest:List Nat} {o:Oper}
theorem Qcv {n:Int} {b off m N:Nat} (j:Nat) (hj:n=(j:Int)) (hl:j< N) {T E:TypeId} (hT:P.underlying T=some (.array N E)) (hsz:∀ w,(Go.sizeOf E).run P w= .ok m w)
 (ho:ops[i]?=some o) (hw:Region.wanted o (yl ops t)=true) {x ix:Operand} {q:IntKind} (hop:o.op= .indexAddr T x ix) (hx:ev t x= .pointer (some ⟨b,off,none⟩)) (hi:ev t ix= .int q n)
 (hk:G P f R (.inRegion ops rest::k) (put t o.dst (.pointer (some ⟨b,off+j*m,none⟩))) w):G P f R (.inRegion ops (i::rest)::k) t w:=by
 subst hj
 exact Qba hT hsz (by omega) (by omega) ho hw hop hx hi hk
theorem Qco {n:Int} {N:Nat} (j:Nat) (hj:n=(j:Int)) (hl:j< N) {cs:List Value} {v:Value} (hc:cs[j]?=some v) {T E:TypeId} (hT:P.underlying T=some (.array N E)) (hsz:∀ w,(Go.sizeOf E).run P w= .ok 1 w)
 (hag:∀ w,(isAgg E).run P w= .ok false w)
 (ho:ops[i]?=some o) (hw:Region.wanted o (yl ops t)=true) {x ix:Operand} {q:IntKind} (hop:o.op= .index T x ix) (hx:ev t x= .agg cs.toArray) (hi:ev t ix= .int q n)
 (hk:G P f R (.inRegion ops rest::k) (put t o.dst v) w):G P f R (.inRegion ops (i::rest)::k) t w:=by
 subst hj
 refine Qaa (v:=v) ho hw ?_ hk
 have h0:(0:Int)≤(j:Int):=by omega
 have h1:((j:Nat):Int)< (N:Int):=by omega
 simp only [execOp,hop]
 exact run_value (by simp [Instr.index,hx,hi,asIntOf,run_underlying hT,h0,hl,hsz,part,hag,hc])
def subV (v:Value) (m lo hi:Nat):Value:=match v with
 | .slice a _ cap=> .slice (if cap=lo then a else a.map (·.add (lo*m))) (hi - lo) (cap - lo)
 |_=>undef
theorem rdSub {α:Type} {κ:K α} {v:Value} {xs:List α} (h:RdRow κ w v xs) (m:Nat) (hm:κ.n=m) {lo hi:Int} (h0:0≤lo) (h1:lo≤hi) (h2:hi≤(xs.length:Int)):RdRow κ w (subV v m lo.toNat hi.toNat) ((xs.drop lo.toNat).take (hi.toNat - lo.toNat)):=by
 obtain ⟨a,rfl⟩:=Int.eq_ofNat_of_zero_le h0
 obtain ⟨b,rfl⟩:=Int.eq_ofNat_of_zero_le (Int.le_trans h0 h1)
 simp only [Int.toNat_natCast]
 subst hm
 obtain ⟨A,cap,rfl,hc,he⟩:=h
 have hlen:((xs.drop a).take (b - a)).length=b - a:=by simp;omega
 refine ⟨_,cap - a,by unfold subV;rw [hlen],by omega,fun i hi=>?_⟩
 rw [hlen] at hi
 obtain ⟨ad,cs,rfl,hlt,hcell,hr⟩:=he (a+i) (by omega)
 have hne:¬ cap=a:=by omega
 refine ⟨ad.add (a*κ.n),cs,by simp [hne],by unfold Addr.add;split<;>exact hlt,fun j u hj=>?_,?_⟩
 ·rw [add_add]
  have:=hcell j u hj
  rwa [show (a+i)*κ.n+j=a*κ.n+(i*κ.n+j) by rw [Nat.add_mul];omega] at this
 ·have e:((xs.drop a).take (b - a))[i]'(by omega)=xs[a+i]:=by simp
  rw [e];exact hr
theorem Qcx {α:Type} {κ:K α} {v:Value} {xs:List α} (h:RdRow κ w v xs) {T E:TypeId} {m:Nat} {x:Operand} {lo hi:Option Operand} {a b:Int} (hop:o.op= .slice T x lo hi none) (hT:P.underlying T=some (.slice E)) (hsz:∀ w,(Go.sizeOf E).run P w= .ok m w) (hx:ev t x=v)
 (hlo:(lo=none∧a=0)∨∃ y q,lo=some y∧ev t y= .int q a) (hhi:(hi=none∧b=xs.length)∨∃ y q,hi=some y∧ev t y= .int q b) (h0:0≤a) (h1:a≤b) (h2:b≤xs.length):
 (execOp (ev t) o).run P w= .ok (.value (subV v m a.toNat b.toNat)) w:=by
 obtain ⟨A,cap,rfl,hc,_⟩:=h
 simp only [execOp,hop]
 refine run_value ?_
 have hb:b.toNat≤xs.length:=by omega
 have h3:a≤(b.toNat:Int):=by omega
 have h4:0≤b:=by omega
 have h5:b≤(cap:Int):=by omega
 rcases hlo with ⟨rfl,rfl⟩|⟨y,q,rfl,hy⟩<;>rcases hhi with ⟨rfl,rfl⟩|⟨y',q',rfl,hy'⟩<;>
  simp [Instr.sliceAt,Instr.slice,Instr.sliceBounds,Instr.sliceBound,run_underlying hT,hx,asIntOf,hsz,subV, *]
 all_goals (first|rfl|(intro hh;omega)|(split<;>simp_all))
theorem CellsAt.sub {p:Addr} {es:List Value} (h:CellsAt w p es) (off n:Nat) {fs:List Value} (he:(es.drop off).take n=fs):CellsAt w (p.add off) fs:=by
 subst he
 intro j u hj
 rw [add_add]
 refine h (off+j) u ?_
 rw [List.getElem?_take] at hj
 split at hj
 ·rwa [List.getElem?_drop] at hj
 ·cases hj
theorem QcE {p:Addr} {T:TypeId} {x:Operand} {fd:Nat} {fs:Array Field} {fl:Field} (hop:o.op= .fieldAddr T x fd) (hT:P.underlying T=some (.struct fs)) (hf:fs[fd]?=some fl) {off:Nat} (hof:fl.offset=off) (hx:ev t x= .pointer (some p)) {m:Nat} (hsz:∀ w,(Go.sizeOf fl.type).run P w= .ok m w) (hm:¬ m=0):
 (execOp (ev t) o).run P w= .ok (.value (.pointer (some (p.add off)))) w:=by
 subst hof
 simp only [execOp,hop]
 refine run_value ?_
 simp [Instr.fieldAt,hx,Instr.sureAddr,run_underlying hT,hf,fieldPlace,hsz,hm]
end
end Go.Proofs.YtdnipilfcjkfoaaGreatDoorX
namespace Go.Proofs.YtdnipilfcjkfoaaGreatDoorX
open Go Go.RowKit
set_option linter.unusedVariables false
set_option linter.unusedSimpArgs false
set_option linter.unusedSectionVars false
section
variable {P:Program} {f:FuncId} {R:Ending→World→Prop} {k:List Item} {t:List Value} {w0 w:World} {Γ:List As} {ops:Array Oper} {i:Nat} {rest:List Nat} {o:Oper}
end
section
variable {P:Program} {f:FuncId} {R:Ending→World→Prop} {k:List Item} {t:List Value} {w0 w:World} {Γ:List As} {ops:Array Oper} {i:Nat} {rest:List Nat} {o:Oper}
theorem St.prefix {α:Type} {κ:K α} {enc:α→List Value} (fk:Flat κ enc) {v:Value} {xs:List α} {E:TypeId} (h:St w0 (Row E κ v xs::Γ) w) (m:Nat) {hi:Int} (h1:hi≤(xs.length:Int)):
 St w0 (Row E κ (subV v m ((0:Int)).toNat hi.toNat) ((xs.drop ((0:Int)).toNat).take (hi.toNat - ((0:Int)).toNat))::Γ) w:=by
 have h0:((0:Int)).toNat=0:=rfl
 rw [h0,List.drop_zero,Nat.sub_zero]
 generalize hb:hi.toNat=b
 have hb1:b≤xs.length:=by omega
 refine h.turn fun F hF hnd=>?_
 obtain ⟨cs,F',rfl,how,hel⟩:=hF
 obtain ⟨rfl,rfl⟩:=Els.of_flat fk hel
 have hfl:∀ (l:List α),(l.map enc).flatten.length=l.length*κ.n:=fun l=>(Els.flat (w:=w) fk l).len
 have hlt:(xs.take b).length=b:=by rw [List.length_take];omega
 rcases how.2 with ⟨rfl,h0⟩|⟨g,cap,cur,rfl,hbg,hg,hnc,hcm,hcs,htake⟩
 ·obtain rfl:xs=[]:=List.length_eq_zero_iff.1 h0
  obtain rfl:b=0:=by simpa using hb1
  refine ⟨Turn.refl _ _,_,⟨[],[],rfl,?_,by simpa using Els.nil⟩,by simp [Value.ownBlock,subV],fun c hc=> .inl (by simpa [subV] using hc)⟩
  simpa [subV] using World.ownsRow_nil _ _ _ _
 ·have hv:subV (.slice (some ⟨g,0,none⟩) xs.length cap) m 0 b= .slice (some ⟨g,0,none⟩) b cap:=by
   simp only [subV,Nat.zero_mul,Nat.sub_zero]
   split<;>simp [Addr.add]
  rw [hv]
  refine ⟨Turn.refl _ _,_,⟨((xs.take b).map enc).flatten,[],rfl,⟨?_, .inr ⟨g,cap,cur,by rw [hlt],hbg,hg,by omega,hcm,hcs,?_⟩⟩,Els.flat fk _⟩,by simp [Value.ownBlock],fun c hc=> .inl (by simpa [Value.ownBlock] using hc)⟩
  ·exact hfl _
  ·have e1:(xs.map enc).flatten=((xs.take b).map enc).flatten++((xs.drop b).map enc).flatten:=by
    rw [← List.flatten_append,← List.map_append,List.take_append_drop]
   have e2:(cur.toList.take (xs.length*κ.n)).take (b*κ.n)=((xs.take b).map enc).flatten:=by
    rw [htake,e1,List.take_left']
    rw [hfl,hlt]
   rw [hlt,← e2,List.take_take]
   congr 1
   exact (Nat.min_eq_left (Nat.mul_le_mul_right _ hb1)).symm
end
end Go.Proofs.YtdnipilfcjkfoaaGreatDoorX
namespace Go.Proofs.YtdnipilfcjkfoaaGreatDoorX
open Go Go.RowKit
set_option linter.unusedVariables false
set_option linter.unusedSimpArgs false
def QaC (x:Qav):List Value:=[Value.int .u64 x.Qbh,Value.bool x.QbH]
theorem QcJ (x:Qav):(QaC x).length=2:=rfl
theorem QcK (x:Qav):∀ v∈QaC x,v.oneCell'=true:=by
 intro v hv
 simp only [QaC,List.mem_append,List.mem_cons,List.not_mem_nil,or_false] at hv
 repeat (first|(subst hv;rfl)|(exact (by assumption:∀ v∈_,v.oneCell'=true) v hv)|(rcases hv with hv|hv))
 all_goals first|(subst hv;rfl)
def Qao:K Qav:=K.fl 2 QaC QcJ QcK
theorem QaX:Flat Qao QaC:=Flat.fl
section
variable {P:Program} {t:List Value} {w:World} {o:Oper} {d:Nat} {xs ys:Array Value}
theorem eqFields_nil:(Op.eqFields d xs ys []).run P w= .ok true w:=by simp [Op.eqFields]
theorem eqFields_step {f : Field} {fs : List Field} {a b : Value} {r rest : Bool} (hn : f.name ≠ "_") (hp : (part f.type xs f.offset).run P w = .ok a w) (hq : (part f.type ys f.offset).run P w = .ok b w)
 (he:(Op.equalIn d f.type a b).run P w= .ok r w) (hr:(Op.eqFields d xs ys fs).run P w= .ok rest w):(Op.eqFields d xs ys (f::fs)).run P w= .ok (r&&rest) w:=by
 simp only [Op.eqFields,hn,ne_eq,not_false_eq_true,if_true,Sem.run_bind,hp,hq,he,Result.andThen_ok]
 cases r
 ·simp
 ·simpa using hr
theorem equalIn_int {T:TypeId} {k:IntKind} {a b:Int} (ht:P.underlying T=some (.int k)):(Op.equalIn (d+1) T (.int k a) (.int k b)).run P w= .ok (a==b) w:=by
 simp [Op.equalIn,run_underlying ht]
theorem equalIn_bool {T:TypeId} {a b:Bool} (ht:P.underlying T=some .bool):(Op.equalIn (d+1) T (.bool a) (.bool b)).run P w= .ok (a==b) w:=by
 simp [Op.equalIn,run_underlying ht]
theorem equal_struct {T:TypeId} {fs:List Field} {r:Bool} (ht:P.underlying T=some (.struct fs.toArray)) (hp:P.stoodInHeld T=false) (h:(Op.eqFields 9999 xs ys fs).run P w= .ok r w):
 (Op.equal T (.agg xs) (.agg ys)).run P w= .ok r w:=by
 have e:P.fieldsOf T=fs.toArray:=by simp [Program.fieldsOf,ht]
 have q:=run_equalIn_struct w 9999 T xs ys (by rw [e];exact ht) hp
 rw [e] at q
 exact q.trans (by simpa using h)
theorem Qdf {x y:Operand} {T T':TypeId} {r:Bool} (hop:o.op= .binOp .eql T x y T') (hx:ev t x= .agg xs) (hy:ev t y= .agg ys) (hg:P.eqGuardType P.depth T=false) (h:(Op.equal T (.agg xs) (.agg ys)).run P w= .ok r w):
 (execOp (ev t) o).run P w= .ok (.value (.bool r)) w:=by
 simp [execOp,hop,hx,hy,eqGuard,hg,binOp,h]
theorem QcH {x y:Operand} {T T':TypeId} {r:Bool} (hop:o.op= .binOp .neq T x y T') (hx:ev t x= .agg xs) (hy:ev t y= .agg ys) (hg:P.eqGuardType P.depth T=false) (h:(Op.equal T (.agg xs) (.agg ys)).run P w= .ok r w):
 (execOp (ev t) o).run P w= .ok (.value (.bool (!r))) w:=by
 simp [execOp,hop,hx,hy,eqGuard,hg,binOp,h]
end
end Go.Proofs.YtdnipilfcjkfoaaGreatDoorX
namespace Go.Proofs.YtdnipilfcjkfoaaGreatDoorX
open Go Go.RowKit
set_option linter.unusedVariables false
set_option linter.unusedSimpArgs false
set_option linter.unusedSectionVars false
section
variable {κ ν:Type} [DecidableEq κ] {ek:κ→Value} {en:ν→Value}
def Ents (ek:κ→Value) (en:ν→Value) (es:Array MapEntry) (kv:List (κ×ν)):Prop:=
 es.toList.map (fun e=>(e.key,e.val))=kv.map (fun p=>(ek p.1,en p.2))∧∀ (i:Nat) e,es[i]?=some e→e.born=i
def MapAs (b:Nat) (ek:κ→Value) (en:ν→Value) (kv:List (κ×ν)):As:=
 ⟨fun F w=>F=[b]∧∃ es,w.heap[b]?=some (.map es es.size)∧Ents ek en es kv,fun h ⟨e,es,hb,he⟩=>by subst e;exact ⟨rfl,es,by rw [h b (by simp)];exact hb,he⟩,
  fun ⟨e,es,hb,_⟩=>by subst e;simp;exact (Array.getElem?_eq_some_iff.1 hb).1⟩
end
section
variable {P:Program} {f:FuncId} {R:Ending→World→Prop} {k:List Item} {t:List Value} {w0 w:World} {Γ:List As} {ops:Array Oper} {i:Nat} {rest:List Nat} {o:Oper}
variable {κ ν:Type} [DecidableEq κ] {ek:κ→Value} {en:ν→Value} {kt:TypeId}
theorem St.mp (h:St w0 Γ w) (j:Nat) {b:Nat} {kv:List (κ×ν)} (hj:Γ[j]?=some (MapAs b ek en kv)):∃ es,w.heap[b]?=some (.map es es.size)∧Ents ek en es kv:=by
 obtain ⟨F,⟨_,h1⟩,_⟩:=(h.pull j hj).head
 exact h1
end
section
variable {κ ν:Type} [DecidableEq κ]
end
section
variable {P:Program} {f:FuncId} {R:Ending→World→Prop} {k:List Item} {t:List Value} {w0 w:World} {Γ:List As} {ops:Array Oper} {i:Nat} {rest:List Nat} {o:Oper}
variable {κ ν:Type} [DecidableEq κ] {ek:κ→Value} {en:ν→Value} {kt:TypeId}
end
end Go.Proofs.YtdnipilfcjkfoaaGreatDoorX
namespace Go.Proofs.YtdnipilfcjkfoaaGreatDoorX
open Go Go.RowKit Go.Sort
set_option linter.unusedVariables false
set_option linter.unusedSimpArgs false
set_option linter.unusedSectionVars false
section
variable {P:Program} {f:FuncId} {R:Ending→World→Prop} {k:List Item} {t:List Value} {w0 w:World} {Γ:List As} {ops:Array Oper} {i:Nat} {rest:List Nat} {o:Oper}
theorem QcX {α:Type} {κ:K α} {E0:TypeId} {v:Value} {xs:List (List α)} {T E:TypeId} (hr:RdRow (K.sl E0 κ) w0 v xs) (hs:St w0 Γ w) (hT:P.underlying T=some (.slice E)) (hsz:∀ w,(Go.sizeOf E).run P w= .ok 1 w) {n:Int} (h0:0≤n) (h1:n< xs.length)
 (ho:ops[i]?=some o) (hw:Region.wanted o (yl ops t)=true) {x ix:Operand} {q:IntKind} (hop:o.op= .indexAddr T x ix) (hx:ev t x=v) (hi:ev t ix= .int q n)
 (hk:∀ p u,CellsAt w0 p [u]→RdRow κ w0 u (rdL xs n [])→G P f R (.inRegion ops rest::k) (put t o.dst (.pointer (some p))) w):G P f R (.inRegion ops (i::rest)::k) t w:=by
 obtain ⟨A,cap,rfl,hc,he⟩:=hr
 obtain ⟨n,rfl⟩:=Int.eq_ofNat_of_zero_le h0
 have hn:n< xs.length:=by omega
 obtain ⟨ad,cs,rfl,hlt,hcell,u,rfl,hu⟩:=he n hn
 have e1:rdL xs (n:Int) []=xs[n]:=by rw [← rdL_get (by simpa using hn)];simp
 refine Qaa (v:= .pointer (some (ad.add n))) ho hw ?_ (hk (ad.add n) u ?_ (by rw [e1];exact hu))
 ·simp only [execOp,hop]
  refine run_value ?_
  have h2:((n:Int)< (xs.length:Int)):=by omega
  simp [Instr.indexAt,hx,hi,asIntOf,Instr.sureAddr,run_underlying hT,hsz,h2,hn]
 ·intro j y hj
  have:=hcell j y hj
  rw [add_add]
  have hk1:(K.sl E0 κ).n=1:=rfl
  rw [hk1,Nat.mul_one] at this
  exact this
inductive RdEach {α:Type} (κ:K α) (w:World):List Value→List (List α)→Prop
 |nil:RdEach κ w [] []
 |cons {v vs x xs}:RdRow κ w v x→RdEach κ w vs xs→RdEach κ w (v::vs) (x::xs)
theorem RdEach.len {α:Type} {κ:K α} {vs:List Value} {xs:List (List α)} (h:RdEach κ w vs xs):vs.length=xs.length:=by
 induction h with
 |nil=>rfl
 |cons _ _ ih=>simp [ih]
theorem RdEach.at {α:Type} {κ:K α} {vs:List Value} {xs:List (List α)} (h:RdEach κ w vs xs):∀ (i:Nat) (hi:i< xs.length),∃ v,vs[i]?=some v∧RdRow κ w v xs[i]:=by
 induction h with
 |nil=>intro i hi;simp at hi
 |cons h _ ih=>
  intro i hi
  cases i with
  |zero=>exact ⟨_,rfl,h⟩
  |succ i=>
   obtain ⟨v,h1,h2⟩:=ih i (by simpa using hi)
   exact ⟨v,by simpa using h1,by simpa using h2⟩
theorem rdBoxR {α:Type} {κ:K α} {E0:TypeId} {b:Nat} {vs:List Value} {xs:List (List α)} {E:TypeId} {fz:Nat×Nat} (hb:w.heap[b]?=some (.cells vs.toArray E fz)) {n:Nat} (hn:xs.length=n) (h:RdEach κ w vs xs):
 RdRow (K.sl E0 κ) w (.slice (some ⟨b,0,none⟩) n n) xs:=by
 subst hn
 refine ⟨_,xs.length,rfl,Nat.le_refl _,fun i hi=>?_⟩
 obtain ⟨v,h1,h2⟩:=h.at i hi
 refine ⟨⟨b,0,none⟩,[v],rfl,(Array.getElem?_eq_some_iff.1 hb).1,fun j u hj=>?_,v,rfl,h2⟩
 have hj0:j=0:=by
  cases j with
  |zero=>rfl
  |succ j=>simp at hj
 subst hj0
 simp only [List.getElem?_cons_zero,Option.some.injEq] at hj
 subst hj
 have:=(cells_load hb i 1 rfl:CellsAt w ⟨b,i,none⟩ ((vs.drop i).take 1)) 0 v (by
  rw [List.getElem?_take,if_pos (by decide),List.getElem?_drop];simpa using h1)
 have e:(⟨b,0,none⟩:Addr).add (i*1+0)=(⟨b,i,none⟩:Addr).add 0:=by unfold Addr.add;split<;>simp_all
 have hk1:(K.sl E0 κ).n=1:=rfl
 rw [hk1,e]
 exact this
theorem QcP {x:Operand} {T E:TypeId} (hop:o.op= .call { callee:= .builtin .cap,args:=#[x],argTypes:=#[T] }) (hT:P.underlying T=some (.slice E)) (hx:ev t x= .slice none 0 0):
 (execOp (ev t) o).run P w= .ok (.value (.int .i64 0)) w:=by
 simp [execOp,hop,resolve,hx,invoke,builtin,Builtin.cap_,goInt,run_underlying hT]
theorem zeros_one (z:Value) (n:Nat):Builtin.zeroCells #[z] n=(List.replicate n z).toArray:=by
 apply Array.ext
 ·simp [Builtin.zeroCells]
 ·intro i h1 h2
  simp [Builtin.zeroCells,Nat.mod_one]
theorem rep_flat (u:Value) (n:Nat):(List.replicate n [u]).flatten=List.replicate n u:=by
 induction n with
 |zero=>rfl
 |succ n ih=>rw [List.replicate_succ,List.flatten_cons,ih];rfl
theorem QcV {α:Type} {κ:K α} {enc:α→List Value} (fk:Flat κ enc) (c:α→Value) (hc:∀ x,enc x=[c x]) (h1n:κ.n=1) (z:α) (h:St w0 Γ w) (ho:ops[i]?=some o) (hw:Region.wanted o (yl ops t)=true) {T Tn E:TypeId} {x y:Operand} {inf:TypeInfo} {kn q:IntKind} {n:Int}
 (hop:o.op= .call { callee:= .builtin .append,args:=#[x,y],argTypes:=#[T,Tn] }) (hx:ev t x= .slice none 0 0) (hy:ev t y= .int q n)
 (hT:P.underlying T=some (.slice E)) (hTn:P.underlying Tn=some (.int kn)) (hi:P.info? E=some inf) (hz:inf.zero=some (c z)) (hzc:(c z).cells=#[c z]) (hs:inf.size=1) {B:Nat} (hby:inf.bytes=B) (hB:0< B) (h0:0< n) (hn:n*B≤140737488355328)
 (hk:∀ v w1,St w0 (Row E κ v (List.replicate n.toNat z)::Γ) w1→G P f R (.inRegion ops rest::k) (put t o.dst v) w1):G P f R (.inRegion ops (i::rest)::k) t w:=by
 obtain ⟨n,rfl⟩:=Int.eq_ofNat_of_zero_le (Int.le_of_lt h0)
 simp only [Int.toNat_natCast] at hk
 have hnB:n*B≤140737488355328:=by
  have:((n*B:Nat):Int)≤140737488355328:=by rw [Int.natCast_mul];exact hn
  omega
 have hn1:n≤140737488355328:=Nat.le_trans (Nat.le_mul_of_pos_right _ hB) hnB
 have hr:=Lib.run_append_nil_zeros (P:=P) w T Tn o.type E inf (c z) q kn hT hTn hi hz n (by omega) (by omega) (by omega) (by rw [hby];omega)
 rw [hzc,zeros_one,zeros_one] at hr
 have hge:=grownCap_ge w n 0 E
 have hle:=grownCap_le_maxLen w n 0 E (by unfold maxLen;omega)
 refine Qaa (v:= .slice (some ⟨w.heap.size,0,none⟩) n (grownCap w n 0 E)) (w':=w.drew.alloc (.cells ((List.replicate n (c z)).toArray++(List.replicate (grownCap w n 0 E - n) (c z)).toArray) E)) ho hw ?_ (hk _ _ ?_)
 ·simp only [execOp,hop,resolve]
  simp [invoke,builtin,hx,hy]
  simp at hr
  rw [hr];rfl
 ·have hfl:((List.replicate n z).map enc).flatten=List.replicate n (c z):=by
   rw [List.map_replicate,hc,rep_flat]
  have hturn:∀ o,Turn [] w (w.drew.alloc o):=fun o=>⟨rfl,rfl,rfl,by simp,fun b hb _=>Below.heap_alloc w.drew o b hb⟩
  refine h.new (hturn _) (F':=[w.heap.size]) ⟨((List.replicate n z).map enc).flatten,[],rfl,⟨?_, .inr ⟨w.heap.size,grownCap w n 0 E,_,by simp,Nat.zero_le _,heap_alloc_new w.drew _,by simpa using hge,hle,?_,?_⟩⟩,Els.flat fk _⟩ (by simp) (by simp)
  ·rw [hfl];simp [h1n]
  ·rw [h1n];simp;omega
  ·rw [hfl,h1n];simp
theorem run_bool {b b':Bool} (h:(execOp (ev t) o).run P w= .ok (.value (.bool b)) w) (e:b=b'):(execOp (ev t) o).run P w= .ok (.value (.bool b')) w:=by rw [h,e]
theorem nilCases {α:Type} {κ:K α} {v:Value} {xs:List α} (h:RdRow κ w v xs):(∃ n cap,v= .slice none n cap∧xs=[])∨∃ ad n cap,v= .slice (some ad) n cap:=by
 obtain ⟨A,cap,rfl,hc,he⟩:=h
 cases A with
 |some ad=>exact .inr ⟨_,_,_,rfl⟩
 |none=>
  left
  refine ⟨_,_,rfl,?_⟩
  cases xs with
  |nil=>rfl
  |cons x xs=>obtain ⟨ad,_,e,_⟩:=he 0 (by simp);cases e
theorem slNil {d:Nat} {T E:TypeId} {n cap:Nat} (ht:P.underlying T=some (.slice E)):(Op.equalIn (d+1) T (.slice none n cap) (.slice none 0 0)).run P w= .ok true w:=by
 simp [Op.equalIn,run_underlying ht]
theorem slSome {d:Nat} {T E:TypeId} {ad:Addr} {n cap:Nat} (ht:P.underlying T=some (.slice E)):(Op.equalIn (d+1) T (.slice (some ad) n cap) (.slice none 0 0)).run P w= .ok false w:=by
 simp [Op.equalIn,run_underlying ht]
theorem Qc9 {x y:Operand} {T T' E:TypeId} {v:Value} {n cap:Nat} (hop:o.op= .binOp .eql T x y T') (hT:P.underlying T=some (.slice E)) (hx:ev t x=v) (hv:v= .slice none n cap) (hy:ev t y= .slice none 0 0):
 (execOp (ev t) o).run P w= .ok (.value (.bool true)) w:=by
 subst hv
 have h:(Op.equal T (.slice none n cap) (.slice none 0 0)).run P w= .ok true w:=slNil (d:=9999) hT
 simp [execOp,hop,hx,hy,eqGuard,binOp,h]
theorem Qdb {x y:Operand} {T T' E:TypeId} {v:Value} {ad:Addr} {n cap:Nat} (hop:o.op= .binOp .eql T x y T') (hT:P.underlying T=some (.slice E)) (hx:ev t x=v) (hv:v= .slice (some ad) n cap) (hy:ev t y= .slice none 0 0):
 (execOp (ev t) o).run P w= .ok (.value (.bool false)) w:=by
 subst hv
 have h:(Op.equal T (.slice (some ad) n cap) (.slice none 0 0)).run P w= .ok false w:=slSome (d:=9999) hT
 simp [execOp,hop,hx,hy,eqGuard,binOp,h]
theorem sortHolds {w:World} {g:Nat} {cur:Array Value} {e:TypeId} {ss:List Int} (hb:w.heap[g]?=some (.cells cur e (0,0))) (ht:cur.toList.take ss.length=ss.map (Value.int .i64)):Holds (Value.int .i64) w g 0 ss.toArray:=by
 intro j hj
 have hj':j< ss.length:=by simpa using hj
 refine ⟨?_,by simp [World.frozen?,hb]⟩
 have h1:(cur.toList.take ss.length)[j]?=(ss.map (Value.int .i64))[j]?:=by rw [ht]
 rw [List.getElem?_take_of_lt hj'] at h1
 simp only [World.cell?,hb,Nat.zero_add]
 simp only [Option.isSome_none,Bool.false_eq_true,if_false]
 rw [← Array.getElem?_toList,h1]
 simp [hj']
theorem sortHeap {w:World} {g n:Nat} {os:Array Obj} {cur:Array Value} {e:TypeId} {fr:Nat×Nat} (d:Array Int) (hb:w.heap[g]?=some (.cells cur e fr)):
 (grow (putRow (Value.int .i64) (Sort.ahead w n) g 0 d) os).heap[g]?=some (.cells (putCells (Value.int .i64) 0 d cur) e fr):=by
 have hg:g< w.heap.size:=(Array.getElem?_eq_some_iff.1 hb).1
 rw [heap_grow_old _ _ (by simpa using hg)]
 simp [putRow,mapBlock,Sort.ahead,Array.getElem?_modify,hb,onCells]
theorem sortTurn {w:World} {g n:Nat} {os:Array Obj} (d:Array Int):Turn [g] w (grow (putRow (Value.int .i64) (Sort.ahead w n) g 0 d) os):=by
 refine ⟨rfl,rfl,rfl,by simp,fun k hk hne=>?_⟩
 rw [heap_grow_old _ _ (by simpa using hk)]
 have:g≠k:=fun e=>hne (by simp [e])
 simp [putRow,mapBlock,Sort.ahead,Array.getElem?_modify,this]
theorem sortTake (cur:Array Value) (ts:List Int) (h:ts.length≤cur.size):(putCells (Value.int .i64) 0 ts.toArray cur).toList.take ts.length=ts.map (Value.int .i64):=by
 apply List.ext_getElem?
 intro j
 by_cases hj:j< ts.length
 ·rw [List.getElem?_take_of_lt hj,Array.getElem?_toList]
  simp [putCells,hj,show j< cur.size by omega]
 ·rw [List.getElem?_take_eq_none (by omega),List.getElem?_eq_none (by simp;omega)]
theorem flat_ints (l:List Int):(l.map fun x=>[Value.int .i64 x]).flatten=l.map (Value.int .i64):=by
 induction l with
 |nil=>rfl
 |cons a l ih=>rw [List.map_cons,List.flatten_cons,ih];rfl
theorem sort_row {fn:Nat} (c1:∀ (blk off cap:Nat) (zs:List Int) (w:World),Holds (Value.int .i64) w blk off zs.toArray→blk< w.heap.size→zs.length< 4611686018427387904→
 Calls P fn #[.slice (some ⟨blk,off,none⟩) zs.length cap] w fun e w'=>e= .returned (.tuple #[])∧∃ n os,w'=grow (putRow (Value.int .i64) (Sort.ahead w n) blk off (zs.mergeSort fun x y=>decide (x≤y)).toArray) os)
 (c0:∀ (p:Option Addr) (cap:Nat) (w:World),Calls P fn #[.slice p 0 cap] w fun e w'=>e= .returned (.tuple #[])∧w'=w)
 {v:Value} {wb:World} {Z:As} {E:TypeId} {xs:List Int} (hs:St wb [Row E (K.int .i64) v xs,Z] w) (hl:xs.length< 4611686018427387904):
 Calls P fn #[v] w fun e w'=>e= .returned (.tuple #[])∧St wb [Row E (K.int .i64) v (xs.mergeSort fun x y=>decide (x≤y)),Z] w':=by
 have fk:=fkI .i64
 obtain ⟨F,⟨cs,F',rfl,how,hel⟩,_⟩:=hs.head
 obtain ⟨rfl,rfl⟩:=Els.of_flat fk hel
 rcases how.2 with ⟨rfl,h0⟩|⟨g,cap,cur,rfl,hbg,hg,hnc,hcm,hcs,htake⟩
 ·obtain rfl:xs=[]:=List.length_eq_zero_iff.1 h0
  exact (c0 none 0 w).mono fun e w' ⟨he,hw⟩=>⟨he,by subst hw;simpa using hs⟩
 ·have hn1:(K.int .i64).n=1:=rfl
  rw [hn1,Nat.mul_one] at hcs htake
  have ht:cur.toList.take xs.length=xs.map (Value.int .i64):=htake.trans (flat_ints xs)
  refine (c1 g 0 cap xs w (sortHolds hg ht) (Array.getElem?_eq_some_iff.1 hg).1 hl).mono fun e w' ⟨he,n,os,hw⟩=>⟨he,?_⟩
  subst hw
  generalize hts:(xs.mergeSort fun x y=>decide (x≤y))=ts
  have hlen:ts.length=xs.length:=by rw [← hts];simp
  refine hs.turn fun F hF hnd=>?_
  obtain ⟨cs2,F2,rfl,how2,hel2⟩:=hF
  obtain ⟨rfl,rfl⟩:=Els.of_flat fk hel2
  refine ⟨Turn.mono (sortTurn _) (by simp [Value.ownBlock]),_,⟨(ts.map fun x=>[Value.int .i64 x]).flatten,[],rfl,⟨?_, .inr ⟨g,cap,_,by rw [hlen],hbg,sortHeap _ hg,by rw [hlen];exact hnc,hcm,?_,?_⟩⟩,Els.flat fk _⟩,by simp [Value.ownBlock],fun b hb=> .inl (by simpa [Value.ownBlock] using hb)⟩
  ·exact (Els.flat (w:=w) fk ts).len
  ·rw [hn1,Nat.mul_one];simp [putCells,hcs]
  ·rw [flat_ints,hn1,Nat.mul_one]
   exact sortTake cur ts (by omega)
end
end Go.Proofs.YtdnipilfcjkfoaaGreatDoorX
namespace Go.Proofs.YtdnipilfcjkfoaaGreatDoorX
open Go
theorem cq:(∀ {α:Type} (x y:α),cnd true x y=x)∧(∀ {α:Type} (x y:α),cnd false x y=y)∧(∀ A:As,Asc true A=A)∧(∀ A:As,Asc false A=As.emp)∧(∀ b:Bool,(true||b)=true)∧(∀ b:Bool,(false||b)=b)∧(∀ (D:Nat→Bool) (i j:Nat),upd D i j=(j==i||D j)):=
 ⟨fun _ _=>rfl,fun _ _=>rfl,fun _=>rfl,fun _=>rfl,fun _=>rfl,fun _=>rfl,fun _ _ _=>rfl⟩
theorem lq:(∀ {α:Type} (a:α) (l:List α) (n:Nat),(a::l).take (n+1)=a::l.take n)∧(∀ {α:Type} (l:List α),l.take 0=[])∧(∀ {α:Type} (a:α) (l:List α) (n:Nat),(a::l).drop (n+1)=l.drop n)∧(∀ {α:Type} (l:List α),l.drop 0=l)∧
 (∀ {α:Type} (a:α) (l m:List α),(a::l)++m=a::(l++m))∧(∀ {α:Type} (l:List α),[]++l=l)∧(∀ {α:Type} (a b:α) (l:List α),(a::l).set 0 b=b::l)∧(∀ {α:Type} (a b:α) (l:List α) (n:Nat),(a::l).set (n+1) b=a::l.set n b)∧
 (∀ {α:Type} (a:α) (l:List α),(a::l).eraseIdx 0=l)∧(∀ {α:Type} (a:α) (l:List α) (n:Nat),(a::l).eraseIdx (n+1)=a::l.eraseIdx n):=
 ⟨fun _ _ _=>rfl,fun _=>rfl,fun _ _ _=>rfl,fun _=>rfl,fun _ _ _=>rfl,fun _=>rfl,fun _ _ _=>rfl,fun _ _ _ _=>rfl,fun _ _=>rfl,fun _ _ _=>rfl⟩
section
variable {ops:Array Oper} {D:Nat→Bool} {n:Nat}
theorem ny (hcl:∀ j,j< n→D j=true→AllDone D (prd ops j)) (j pos:Nat) {a:Nat} (hf:D a=false) (hj:j< n:=by decide) (hl:(prd ops j)[pos]?=some a:=by rfl):D j=false:=not_yet (hcl j hj) pos a hl hf
theorem nz (hcl:AllLt n fun j=>D j=true→AllDone D ((ops[j]?).map predsOf|>.getD [])) (j pos:Nat) {a:Nat} (hf:D a=false) (hj:j< n:=by decide) (hl:((ops[j]?).map predsOf|>.getD [])[pos]?=some a:=by rfl):D j=false:=not_yet (hcl.get j hj) pos a hl hf
end
theorem Qak {P:Program} {f:FuncId} {R:Ending→World→Prop} {k:List Item} {t:List Value} {w:World} {id:Nat} {ops:Array Oper} (l:List Nat) (hl:List.range ops.size=l) (h:G P f R (.inRegion ops l::k) t w):G P f R (.code (.region id ops false)::k) t w:=by
 subst hl
 exact Qc1 h
def Code.kid:Code→Nat→Code
 | .seq a b,i=>match i with|0=>a|_=>b
 | .cond _ a b,i=>match i with|0=>a|_=>b
 | .block _ b,_=>b
 | .loop b,_=>b
 |c,_=>c
def Code.at_ (c:Code):List Nat→Code
 |[]=>c
 |i::l=>Code.at_ (Code.kid c i) l
theorem encAI_len {n:Nat} (q:IntKind) (a:Ar Int n):(encA (encI q) a).length=n:=(encA_len (m:=1) (fun _=>rfl) a).trans (Nat.mul_one n)
theorem encAB_len {n:Nat} (a:Ar Bool n):(encA encB a).length=n:=(encA_len (m:=1) (fun _=>rfl) a).trans (Nat.mul_one n)
theorem Qai {α:Type} (a:α) (l:List α) (b:α):(a::l).set 0 b=b::l:=rfl
theorem Qaj {α:Type} (a:α) (l:List α) (n:Nat) (b:α):(a::l).set (n+1) b=a::l.set n b:=rfl
section
variable {P:Program} {f:FuncId} {R:Ending→World→Prop} {k:List Item} {t:List Value} {w:World}
theorem g_d {o:Option Tmp} {d:Nat} {v:Value} (h:o=some d) (hk:G P f R k (t.set d v) w):G P f R k (put t o v) w:=by subst h;exact hk
theorem g_n {o:Option Tmp} {v:Value} (h:o=none) (hk:G P f R k t w):G P f R k (put t o v) w:=by subst h;exact hk
end
end Go.Proofs.YtdnipilfcjkfoaaGreatDoorX
namespace Go.Proofs.YtdnipilfcjkfoaaGreatDoorX
open Go Go.RowKit
set_option linter.unusedVariables false
set_option linter.unusedSimpArgs false
set_option linter.unusedSectionVars false
theorem ar4 {α:Type} (a:Ar α 4):∃ x y z t,a=⟨[x,y,z,t],rfl⟩:=by
 obtain ⟨l,h⟩:=a
 match l,h with
 |[x,y,z,t],_=>exact ⟨x,y,z,t,rfl⟩
section
variable {P:Program} {w:World} {t:List Value} {o:Oper}
theorem eqItems_step {d:Nat} {e:TypeId} {c j:Nat} {js:List Nat} {xs ys:Array Value} {k:IntKind} {x y:Int} {r:Bool} (he:P.underlying e=some (.int k)) (p:(part e xs (j*c)).run P w= .ok (.int k x) w) (q:(part e ys (j*c)).run P w= .ok (.int k y) w)
 (h:(Op.eqItems (d+1) e c xs ys js).run P w= .ok r w):(Op.eqItems (d+1) e c xs ys (j::js)).run P w= .ok ((x==y)&&r) w:=by
 have hq:=equalIn_int (w:=w) (d:=d) (a:=x) (b:=y) he
 simp only [Op.eqItems,Sem.run_bind,p,q,hq,Result.andThen_ok]
 cases hxy:(x==y) with
 |false=>simp
 |true=>simpa using h
theorem equalIn_arr4 {d:Nat} {T e:TypeId} {i:TypeInfo} {k:IntKind} {xs ys:Array Value} {x0 x1 x2 x3 y0 y1 y2 y3:Int} (hu:P.underlying T=some (.array 4 e)) (hi:P.info? e=some i) (he:P.underlying e=some (.int k)) (hc:P.cellsOf e=1)
 (p0:(part e xs (0*1)).run P w= .ok (.int k x0) w) (p1:(part e xs (1*1)).run P w= .ok (.int k x1) w) (p2:(part e xs (2*1)).run P w= .ok (.int k x2) w) (p3:(part e xs (3*1)).run P w= .ok (.int k x3) w)
 (q0:(part e ys (0*1)).run P w= .ok (.int k y0) w) (q1:(part e ys (1*1)).run P w= .ok (.int k y1) w) (q2:(part e ys (2*1)).run P w= .ok (.int k y2) w) (q3:(part e ys (3*1)).run P w= .ok (.int k y3) w):
 (Op.equalIn (d+2) T (.agg xs) (.agg ys)).run P w= .ok ((x0==y0)&&((x1==y1)&&((x2==y2)&&((x3==y3)&&true)))) w:=by
 rw [run_equalIn_array w (d+1) xs ys hu hi,hc]
 exact eqItems_step he p0 q0 (eqItems_step he p1 q1 (eqItems_step he p2 q2 (eqItems_step he p3 q3 (by simp [Op.eqItems]))))
end
end Go.Proofs.YtdnipilfcjkfoaaGreatDoorX
namespace Go.Proofs.YtdnipilfcjkfoaaGreatDoorX
open Go Go.RowKit
set_option linter.unusedVariables false
section
variable {P:Program} {f:FuncId} {R:Ending→World→Prop} {k:List Item} {t:List Value} {w0 w:World} {Γ:List As} {ops:Array Oper} {i:Nat} {rest:List Nat} {o:Oper}
end
end Go.Proofs.YtdnipilfcjkfoaaGreatDoorX
namespace Go.Proofs.YtdnipilfcjkfoaaGreatDoorX
open Go Go.RowKit
set_option linter.unusedVariables false
set_option linter.unusedSimpArgs false
set_option linter.unusedSectionVars false
def Bld (T e:TypeId) (b:Nat) (s:ByteArray):As:=
 ⟨fun F w=>∃ p v,(p= .pointer none∨p= .pointer (some ⟨b,0,none⟩))∧F=b::v.ownBlock.toList∧w.heap[b]?=some (.cells #[p,v] T (0,0))∧w.ownsRowF 0 e 1 v (Lib.strCells s).length (Lib.strCells s)∧v.ownBlock≠some b,
  fun {F w w'} hF ⟨p,v,hp,e0,hb,hr,hne⟩=>by
   subst e0
   refine ⟨p,v,hp,rfl,by rw [hF b (by simp)];exact hb,⟨hr.1,?_⟩,hne⟩
   rcases hr.2 with hn|⟨g,cap,cur,fz,hv,h0,hg,rest⟩
   ·exact .inl hn
   ·refine .inr ⟨g,cap,cur,fz,hv,h0,?_,rest⟩
    rw [hF g (by subst hv;simp [Value.ownBlock])]
    exact hg,
  fun {F w} ⟨p,v,hp,e0,hb,hr,hne⟩ k hk=>by
   subst e0
   rcases List.mem_cons.1 hk with rfl|hk
   ·exact (Array.getElem?_eq_some_iff.1 hb).1
   ·exact (hr.lt k (by simpa using hk)).2⟩
section
variable {P:Program} {f:FuncId} {R:Ending→World→Prop} {k:List Item} {t:List Value} {w0 w:World} {Γ:List As} {ops:Array Oper} {i:Nat} {rest:List Nat} {o:Oper} {T e:TypeId} {b:Nat} {s x:ByteArray}
theorem St.bld0 (h:St w0 (Cells b [.pointer none, .slice none 0 0] T::Γ) w):St w0 (Bld T e b ⟨#[]⟩::Γ) w:=
 h.imp fun F hF hn=>by
  obtain ⟨rfl,hb⟩:=hF
  exact ⟨[b],⟨_,_, .inl rfl,rfl,hb,World.ownsRowF_nil w 0 e 1,by simp [Value.ownBlock]⟩,by simp,by simp⟩
def Not8 (e:TypeId) (A:As):Prop:=∀ F w,A.on F w→∀ k∈F,∀ c fz,w.heap[k]?≠some (.cells c e fz)
theorem not8_cells {b:Nat} {cs:List Value} {E:TypeId} (h:E≠e):Not8 e (Cells b cs E):=by
 rintro F w ⟨rfl,hb⟩ k hk c fz hc
 simp only [List.mem_singleton] at hk
 subst hk
 rw [hb] at hc
 injection hc with hc
 injection hc with _ h1 _
 exact h h1
theorem not8_nil:∀ A∈([]:List As),Not8 e A:=by simp
theorem not8_cons {A:As} (h:Not8 e A) (hs:∀ B∈Γ,Not8 e B):∀ B∈A::Γ,Not8 e B:=by
 intro B hB
 rcases List.mem_cons.1 hB with rfl|hB
 ·exact h
 ·exact hs B hB
theorem not8_sep:∀ {Γ:List As} {F:List Nat} {w:World},(∀ A∈Γ,Not8 e A)→Sep w Γ F→∀ k∈F,∀ c fz,w.heap[k]?≠some (.cells c e fz)
 |[],F,w,_,h=>by simp only [Sep] at h;subst h;simp
 |A::Γ,_,w,hA,⟨F1,F2,e0,h1,h2⟩=>by
  subst e0
  intro k hk
  rcases List.mem_append.1 hk with hk|hk
  ·exact hA A List.mem_cons_self F1 w h1 k hk
  ·exact not8_sep (fun B hB=>hA B (List.mem_cons_of_mem _ hB)) h2 k hk
theorem St.isBld (h:St w0 (Bld T e b s::Γ) w):Lib.IsBuilderF T e w0.heap.size b (Lib.strCells s) w∧w0.heap.size≤w.heap.size:=by
 refine ⟨?_,h.below.size⟩
 obtain ⟨_,_,⟨F1,F2,rfl,⟨p,v,hp,rfl,hb,hr,hne⟩,_⟩,_,hl⟩:=h
 have hA:Lib.BuilderAtF T e w0.heap.size b p (Lib.strCells s) w:=by
  refine ⟨hl b (by simp),v,hb,⟨hr.1,?_⟩,hne⟩
  rcases hr.2 with hn|⟨g,cap,cur,fz,hv,h0,rest⟩
  ·exact .inl hn
  ·exact .inr ⟨g,cap,cur,fz,hv,hl g (by subst hv;simp [Value.ownBlock]),rest⟩
 rcases hp with rfl|rfl
 ·exact .inl hA
 ·exact .inr hA
theorem St.ofBld {w':World} {x:ByteArray} (hΓ:∀ A∈Γ,Not8 e A) (h:St w0 (Bld T e b s::Γ) w) {p:Value} (hp:p= .pointer none∨p= .pointer (some ⟨b,0,none⟩)) (hA:Lib.BuilderAtF T e w0.heap.size b p (Lib.strCells x) w') (hB:Below w0.heap.size w w') (hO:Lib.OthersKept e (some b) w w'):St w0 (Bld T e b x::Γ) w':=by
 obtain ⟨hb0,v,hb,hr,hne⟩:=hA
 obtain ⟨hbel,_,⟨F1,F2,rfl,⟨p0,v0,hp0,rfl,hbw,hr0,hne0⟩,hs⟩,hn,hl⟩:=h
 have hn:=List.nodup_append.1 hn
 have hkeep:∀ k∈F2,w'.heap[k]?=w.heap[k]?:=by
  intro k hk
  have hlt:=hs.lt k hk
  rw [Array.getElem?_eq_getElem hlt]
  refine hO k _ (Array.getElem?_eq_getElem hlt) (fun q=>?_) (fun c fz q=>?_)
  ·exact hn.2.2 b (by simp) k hk (QsJ q).symm
  ·exact not8_sep hΓ hs k hk c fz (by rw [Array.getElem?_eq_getElem hlt,q])
 have hs':=hs.loc hkeep
 refine ⟨hbel.trans hB,(b::v.ownBlock.toList)++F2,⟨_,F2,rfl,⟨p,v,hp,rfl,hb,⟨hr.1,?_⟩,hne⟩,hs'⟩,?_,?_⟩
 ·rcases hr.2 with hn|⟨g,cap,cur,fz,hv,h0,rest⟩
  ·exact .inl hn
  ·exact .inr ⟨g,cap,cur,fz,hv,Nat.zero_le _,rest⟩
 ·refine List.nodup_append.2 ⟨?_,hn.2.1,?_⟩
  ·cases hv:v.ownBlock with
   |none=>simp
   |some g=>rw [hv] at hne;simp;exact fun q=>hne (by rw [q])
  ·intro a ha c hc hac
   subst hac
   rcases List.mem_cons.1 ha with rfl|ha
   ·exact hn.2.2 a (by simp) a hc rfl
   ·have hg:v.ownBlock=some a:=by simpa using ha
    rcases hr.2 with ⟨rfl,_⟩|⟨g,cap,cur,fz,rfl,_,hg',_⟩
    ·simp [Value.ownBlock] at hg
    ·simp [Value.ownBlock] at hg
     subst hg
     exact not8_sep hΓ hs' g hc cur fz hg'
 ·intro q hq
  rcases List.mem_append.1 hq with hq|hq
  ·rcases List.mem_cons.1 hq with rfl|hq
   ·exact hb0
   ·exact (hr.lt q (by simpa using hq)).1
  ·exact hl q (List.mem_append_right _ hq)
theorem strCells_app (s x:ByteArray):Lib.strCells (s++x)=Lib.strCells s++Lib.strCells x:=by simp [Lib.strCells]
theorem QcN {fn:FuncId}
 (c:∀ (B b:Nat) (bs:List Value) (s:ByteArray) (w:World),Lib.IsBuilderF T e B b bs w→bs.length+s.size≤140737488355328→B≤w.heap.size→
  Calls P fn #[.pointer (some ⟨b,0,none⟩), .string s] w fun e' w'=>e'= .returned (.tuple #[.int .i64 s.size, .nilIface])∧(Lib.BuilderAtF T e B b (.pointer (some ⟨b,0,none⟩)) (bs++Lib.strCells s) w'∧Below B w w'∧Lib.OthersKept e (some b) w w'))
 (hΓ:∀ A∈Γ,Not8 e A) (h:St w0 (Bld T e b s::Γ) w) (ho:ops[i]?=some o) (hw:Region.wanted o (yl ops t)=true)
 (hr:(execOp (ev t) o).run P w= .ok (.enter fn [.pointer (some ⟨b,0,none⟩), .string x].toArray) w) (hl:s.size+x.size≤140737488355328)
 (hk:∀ w1,St w0 (Bld T e b (s++x)::Γ) w1→G P f R (.inRegion ops rest::k) (put t o.dst (.tuple #[.int .i64 x.size, .nilIface])) w1):G P f R (.inRegion ops (i::rest)::k) t w:=by
 obtain ⟨h1,h2⟩:=h.isBld
 refine Qas (R':=fun v' w1=>v'= .tuple #[.int .i64 x.size, .nilIface]∧St w0 (Bld T e b (s++x)::Γ) w1) ho hw hr ((c _ b _ x w h1 (by rw [Lib.strCells_length];exact hl) h2).mono fun e' w' ⟨he,hA,hB,hO⟩=>⟨_,he,rfl,?_⟩) fun v' w1 ⟨e1,e2⟩=>by subst e1;exact hk w1 e2
 rw [← strCells_app] at hA
 exact h.ofBld hΓ (.inr rfl) hA hB hO
theorem QcW {fn:FuncId}
 (c:∀ (B b:Nat) (l:List UInt8) (w:World),Lib.IsBuilderF T e B b (Lib.byteCells l) w→B≤w.heap.size→
  Calls P fn #[.pointer (some ⟨b,0,none⟩)] w fun e' w'=>e'= .returned (.string ⟨l.toArray⟩)∧(Lib.IsBuilderF T e B b (Lib.byteCells l) w'∧Below B w w'∧Lib.OthersKept e (some b) w w'))
 (hΓ:∀ A∈Γ,Not8 e A) (h:St w0 (Bld T e b s::Γ) w) (ho:ops[i]?=some o) (hw:Region.wanted o (yl ops t)=true)
 (hr:(execOp (ev t) o).run P w= .ok (.enter fn [.pointer (some ⟨b,0,none⟩)].toArray) w)
 (hk:∀ w1,St w0 (Bld T e b s::Γ) w1→G P f R (.inRegion ops rest::k) (put t o.dst (.string s)) w1):G P f R (.inRegion ops (i::rest)::k) t w:=by
 obtain ⟨h1,h2⟩:=h.isBld
 have e0:(⟨s.data.toList.toArray⟩:ByteArray)=s:=rfl
 refine Qas (R':=fun v' w1=>v'= .string s∧St w0 (Bld T e b s::Γ) w1) ho hw hr ((c _ b s.data.toList w h1 h2).mono fun e' w' ⟨he,hA,hB,hO⟩=>⟨_,he,rfl,?_⟩) fun v' w1 ⟨e1,e2⟩=>by subst e1;exact hk w1 e2
 rcases hA with hA|hA
 ·exact h.ofBld hΓ (.inl rfl) hA hB hO
 ·exact h.ofBld hΓ (.inr rfl) hA hB hO
theorem QcZ {y z:Operand} {T' E:TypeId} {n m:Nat} {q:IntKind} {c:Int} (hop:o.op= .slice T' y (some z) none none) (hT:P.underlying T'=some (.array n E)) (hsz:∀ w,(Go.sizeOf E).run P w= .ok m w) (hx:ev t y= .pointer (some ⟨b,0,none⟩)) (hy:ev t z= .int q c) (h0:0≤c) (h1:c≤n):
 (execOp (ev t) o).run P w= .ok (.value (subV (.slice (some ⟨b,0,none⟩) n n) m c.toNat ((n:Nat):Int).toNat)) w:=by
 obtain ⟨c,rfl⟩:=Int.eq_ofNat_of_zero_le h0
 simp only [execOp,hop]
 refine run_value ?_
 have h2:c≤n:=by omega
 simp [Instr.sliceAt,run_underlying hT,hx,hy,Instr.sureAddr,Instr.sliceBounds,Instr.sliceBound,asIntOf,hsz,subV,h2]
 all_goals (first|rfl|(intro hh;omega)|(split<;>simp_all)|skip)
end
def CellU (w:World) (g i:Nat) (v:Int):Prop:=w.cell? ⟨g,i,none⟩=some (.int .u8 v)
theorem St.cellU {w0 w:World} {Γ:List As} (h:St w0 Γ w) {g i:Nat} {v:Int} (hc:CellU w0 g i v):CellU w g i v:=by
 unfold CellU at*
 have hlt:g< w0.heap.size:=by
  rcases Nat.lt_or_ge g w0.heap.size with h'|h'
  ·exact h'
  ·simp [World.cell?,Array.getElem?_eq_none h'] at hc
 rw [cell_keep (h.below.block g hlt)]
 exact hc
end Go.Proofs.YtdnipilfcjkfoaaGreatDoorX
