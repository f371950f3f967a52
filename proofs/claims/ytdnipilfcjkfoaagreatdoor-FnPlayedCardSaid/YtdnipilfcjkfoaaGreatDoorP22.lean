import Derived.Handed
import Derived.OpenShut
import Derived.Stop.Joined
import Derived.Test.YtdnipilfcjkfoaaGreatDoorP5
namespace Go.Proofs.YtdnipilfcjkfoaaGreatDoorX
open Go Go.RowKit
set_option linter.unusedVariables false
theorem row_and_shaped {H:Type} {enc:TypeId×Value→H} {C:Checked} {os:Os} {f:FuncId} {fn:Func} {s:ChangeSpec} {apart fresh handsOn again:Bool} {X:World→Prop}
 (hX:∀ w w':World,w.heap=w'.heap→X w→X w') (own:ownKnob C.prog.godebug=none) (started:os.Started) (noInit:C.prog.inits.idxOf? f=none) (hfn:C.prog.funcs[f]?=some fn)
 (witness:∃ (w:World) (tape:Tape) (i:Input),w.os=os∧(w.forCall tape i).Shaped C.prog∧i.vars=[]∧Input.okWide C.prog (w.forCall tape i) .any w.heap.size f i∧
  ((s.pre enc C.prog fn [] apart (w.forCall tape i).memory i.args∧X (w.forCall tape i).memory)∧sizedMet enc C.prog fn (OpenSpec.ofChange s) apart (w.forCall tape i).memory i.args)∧Assume.holds {} C.prog (lone (Frame.enter C.prog f i.args .normal) [] (w.forCall tape i)))
 (main:∀ (W:World) (base:Nat) (args:Array Value) (ds gs:List (DataW H)) (before:List MemPlace),
  (∀ (j:Nat) t v,fn.params[j]?=some t→args[j]?=some v→Value.okWide C.prog W .any base t v)→
  DataW.Whole enc C.prog fn.params.toList s.vars apart W args.toList ds gs before→X W→W.ShapedOpen C.prog→
  Calls C.prog f args W fun e W'=>∃ v,e= .returned v∧s.post enc C.prog fn apart fresh handsOn again W args v W'):
 ReturnsInHanded {} C os f .any (fun w args=>(s.pre enc C.prog fn [] apart w args∧X w)∧sizedMet enc C.prog fn (OpenSpec.ofChange s) apart w args) (s.post enc C.prog fn apart fresh handsOn again):=by
 refine returnsInHanded_of_calls own started noInit witness fun w tape i _ shaped _ ok pre _=>?_
 obtain ⟨_,_,_,fn',hf',_,_,_,_,val⟩:=ok
 obtain rfl:fn'=fn:=QsJ (hf'.symm.trans hfn)
 obtain ⟨⟨⟨ds,gs,before,whole,_⟩,x⟩,_⟩:=pre
 refine (main (w.forCall tape i) w.heap.size i.args ds gs before val (DataW.Whole.of_heap (w':=w.forCall tape i) (by rfl) whole) (hX _ _ (by rfl) x) shaped).mono fun e W' ⟨v,he,hp⟩=>?_
 subst he
 exact ChangeSpec.post_blind hp
theorem trod_iface {H:Type} {enc:TypeId×Value→H} {P:Program} {w:World} {base:Nat} {sp:Nat→Bool} {held:Bool} {fuel:Nat} {t:TypeId} {ms:Array (String×TypeId)} {cs:List Value} {x:DataW H×List MemPlace}
 (hu:P.underlying t=some (.interface ms)) (h:DataW.trod enc P w base sp held fuel t cs=some x):∃ c,cs=[c]∧(c= .nilIface∨∃ u v,c= .iface u v):=by
 cases fuel with
 |zero=>simp [DataW.trod] at h
 |succ fuel=>
  rcases cs with _|⟨c,_|⟨c2,r⟩⟩
  ·simp [DataW.trod,hu] at h
  ·cases c<;>first|exact ⟨_,rfl, .inl rfl⟩|exact ⟨_,rfl, .inr ⟨_,_,rfl⟩⟩|simp [DataW.trod,hu] at h
  ·simp [DataW.trod,hu] at h
theorem cellE_of_laid {P:Program} {W:World} {name:String} {g:Nat} {t:TypeId} {ms:Array (String×TypeId)} {d:DataW Unit}
 (hg:P.globalNamed name=some g) (hty:(P.globals[g]?).map (·.type)=some t) (hu:P.underlying t=some (.interface ms)):
 ∀ (laid:List (String×DataW Unit)) (ps:List MemPlace),DataW.LaidVars P W laid ps→(name,d)∈laid→CellE W g:=by
 intro laid
 induction laid with
 |nil=>intro ps _ hm;cases hm
 |cons x rest ih=>
  intro ps h hm
  obtain ⟨nm,d'⟩:=x
  obtain ⟨g',t',cs,fuel,p,q,hg',ht',hvar,hd,hr,_⟩:=h
  rcases List.mem_cons.1 hm with hx|hx
  ·obtain ⟨rfl,rfl⟩:=Prod.mk.inj hx
   obtain rfl:=QsJ (hg.symm.trans hg')
   obtain rfl:=QsJ (hty.symm.trans ht')
   obtain ⟨c,hc,hk⟩:=trod_iface hu hd
   refine ⟨c,?_,hk⟩
   rw [World.var?_cell hg hvar 0,← Array.getElem?_toList,hc]
   rfl
  ·exact ih q hr hx
end Go.Proofs.YtdnipilfcjkfoaaGreatDoorX
