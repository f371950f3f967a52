import Derived.Test.YtmpcchpnfhafoaaRows
import Derived.ProofKit
import Derived.Test.YtmpcchpnfhafoaaP10
import Derived.Test.YtmpcchpnfhafoaaP12
namespace Go.Proofs.Ytmpcchpnfhafoaa.fnExactWaysAcross
open Go.ChangeShapes Go.WideShapes Go.ChangeAt Go.RowKit Go.Proofs.YtmpcchpnfhafoaaX
open Go.ChangeMaps (open_string shut_string)
set_option linter.unusedVariables false
theorem own:ownKnob Try.prog.godebug=none:=by kernel_rfl
theorem laidOut:laidOutB Try.prog=true:=by kernel_rfl
set_option maxRecDepth 100000 in
theorem lifted (os:Os) (started:os.Started) (H:Type) (enc:TypeId×Value→H):
    ReturnsInHanded {} Try.checked os 3 .any (Rows.fnExactWaysAcrossSpec.pre6 enc Try.prog Try.f3 Rows.fnExactWaysAcrossRow.domain false) (Rows.fnExactWaysAcrossSpec.post enc Try.prog Try.f3 false true false false):=by
  refine returnsInHanded_of_change_sized (C:=Try.checked) own started (by kernel_rfl) Try.func3
    (ChangeSpec.witness6 (enc:=enc) (C:=Try.checked) false ⟨#[],#[.agg #[.int .i8 0, .int .i8 0, .slice none 0 0]],[]⟩ 8 (by kernel_rfl) (by kernel_rfl) (by kernel_rfl) (by kernel_rfl)) ?_
  intro W base args ds gs before hval0 hW hcnd hsz0 _
  have hval:∀ (j:Nat) t v,Try.f3.params[j]?=some t→args[j]?=some v→Value.okWide Try.prog W .any base t v:=hval0
  have hW':=hW
  obtain ⟨p,q,hA0,hV,rfl,hfz,hnd⟩:=hW
  have hA:DataW.TrodAll enc Try.prog W 0 (fun _=>true) true Try.f3.params.toList args.toList ds p:=hA0
  rw [Try.params3] at hA hval
  obtain ⟨v0,vs0,d0,ds0,p0,q0,hargs,rfl,rfl,h0,r0⟩:=trodAll_cons hA
  obtain ⟨rfl,rfl,rfl⟩:=trodAll_nil r0
  obtain rfl:args=#[v0]:=by cases args;simp_all
  obtain ⟨rfl,rfl⟩:=trodVars_none hV
  have k0:=h0
  have lt0:∀ x∈p0,x.block< W.heap.size:=by obtain ⟨m,hm⟩:=k0;exact DataW.trod_lt m _ _ _ hm
  obtain ⟨v0_0,v0_1,v0_2,x0_0,x0_1,x0_2,rfl,⟨rfl,oo0_0⟩,⟨rfl,oo0_1⟩,⟨rr0_2,ll0_2,oo0_2⟩⟩:=op_st3 Try.underlying25 (by kernel_rfl) ⟨rfl,rfl,by kernel_rfl⟩ ⟨rfl,rfl,by kernel_rfl⟩ ⟨rfl,rfl,by kernel_rfl⟩ (cell_int Try.underlying22) (cell_int Try.underlying22) (cell_row (n:=1) (e:=YtmpcchpnfhafoaaX.encI .u16) (hl:=fun _=>rfl) (h1:=fun x v hv=>by obtain rfl:=List.mem_singleton.1 hv;rfl) Try.underlying23 (by kernel_rfl) (by decide) (opf_int Try.underlying46)) (by obtain ⟨c,e,_⟩:=okWide_struct Try.underlying25 (hval 0 25 v0 rfl rfl);exact ⟨c,e⟩) h0
  clear hA0 hval0 hsz0
  obtain ⟨N,hN⟩:=Qa0.told (⟨x0_0,x0_1,x0_2⟩:Qae) oo0_0 oo0_1 oo0_2 ll0_2
  refine (Qa0.calls (show RdRow (K.int .u16) W v0_2 (⟨x0_0,x0_1,x0_2⟩:Qae).Qai from rr0_2) hN).mono fun e W' ⟨v,he,hv,hst⟩=>?_
  subst he
  subst hv
  have bel:=hst.below
  exact ⟨_,rfl,_,_,_,[],_,[],hW',trodAll_mk1 (shut_bool Try.underlying4 _),(trodAll_cons_mk (Below.trod laidOut (by kernel_rfl) (of_decide_eq_true (by kernel_rfl)) k0 bel lt0) trodAll_mk0),rfl,bel.frame _,fun h=>by cases h⟩
theorem over:Rows.fnExactWaysAcrossRow.holds Try.pinned (OpenSpec.ofChange Rows.fnExactWaysAcrossSpec):=
  OpenClaim.holds_of_wide 3 Try.f3 rfl rfl rfl rfl rfl rfl rfl ⟨rfl,rfl,rfl,rfl,rfl⟩ rfl rfl rfl rfl rfl (by kernel_rfl) Try.func3 (by kernel_rfl)
    (of_decide_eq_true (by kernel_rfl)) (by unfold Func.isWrapper;first|(rw [if_pos (by decide+kernel)];kernel_rfl)|(rw [if_neg (by decide+kernel)];exact ⟨rfl,rfl⟩))
    (fun os started H enc _=>lifted os started H enc)
end Go.Proofs.Ytmpcchpnfhafoaa.fnExactWaysAcross
namespace Go.Proofs.Ytmpcchpnfhafoaa
theorem fnExactWaysAcross_holds:Rows.FnExactWaysAcrossSaid:=fnExactWaysAcross.over
end Go.Proofs.Ytmpcchpnfhafoaa
