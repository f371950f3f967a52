import Derived.Test.YtljkpeeabpdalaaDoorRows
import Derived.Lay
import Derived.Stop.Joined
import Derived.SevenTiedAt
import Derived.Test.YtljkpeeabpdalaaDoorCards
import Derived.Test.YtljkpeeabpdalaaDoorTie
import Derived.ProofKit
import Derived.Test.YtljkpeeabpdalaaDoorP10
import Derived.Test.YtljkpeeabpdalaaDoorP12
namespace Go.Proofs.YtljkpeeabpdalaaDoor.fnExactGameText
open Go.ChangeShapes Go.WideShapes Go.ChangeAt Go.RowKit Go.Proofs.YtljkpeeabpdalaaDoorX
open Go.ChangeMaps (open_string shut_string)
set_option linter.unusedVariables false
theorem own:ownKnob Tryd.prog.godebug=none:=by kernel_rfl
theorem laidOut:laidOutB Tryd.prog=true:=by kernel_rfl
theorem door_met (os:Os) (args:Array Value):laidMetH Tryd.prog Rows.fnExactGameTextRow.laid ((World.doorLaid Tryd.prog 400 os).forCall (fun _ _=>0) ⟨#[],args,[]⟩).memory:=
  laidMetH_of_parts3 (fuel:=8) (laidMet_of_run' 8 (by kernel_rfl) (by kernel_rfl)) (by kernel_rfl) (by kernel_rfl)
theorem tab_of {W : World} (h : laidMetH Tryd.prog Rows.fnExactGameTextRow.laid W) : Lib.TabIs Tryd.prog W "internal/strconv.uint64pow10" .u64 Lib.pow10Tab := by
  rw [MakeChecks.laidMetH_plain _ _ _ (by kernel_rfl)] at h
  obtain ⟨ps,h,_⟩:=h
  exact tab_of_laid (g:=0) (t:=113) (e:=53) (n:=20) (by kernel_rfl) (by kernel_rfl) Tryd.underlying113 Tryd.underlying53 (by kernel_rfl) (by kernel_rfl) _ ps h (List.mem_of_getElem? (i:=2) rfl)
theorem dbr_of {W:World} (h:laidMetH Tryd.prog Rows.fnExactGameTextRow.laid W):CellU W 5 15 4:=by
  rw [MakeChecks.laidMetH_plain _ _ _ (by kernel_rfl)] at h
  obtain ⟨ps,h,_⟩:=h
  have t : Lib.TabIs Tryd.prog W "math/bits.deBruijn64tab" .u8 [0, 1, 56, 2, 57, 49, 28, 3, 61, 58, 42, 50, 38, 29, 17, 4, 62, 47, 59, 36, 45, 43, 51, 22, 53, 39, 33, 30, 24, 18, 12, 5, 63, 55, 48, 27, 60, 41, 37, 16, 46, 35, 44, 21, 52, 32, 23, 11, 54, 26, 40, 15, 34, 20, 31, 10, 25, 14, 19, 9, 13, 8, 7, 6] :=
    tab_of_laid (g:=5) (t:=135) (e:=5) (n:=64) (by kernel_rfl) (by kernel_rfl) Tryd.underlying135 Tryd.underlying5 (by kernel_rfl) (by kernel_rfl) _ ps h (List.mem_of_getElem? (i:=1) rfl)
  exact t.cell (g:=5) (by kernel_rfl) 15 (by decide)
set_option maxRecDepth 100000 in
theorem lifted (os:Os) (started:os.Started) (H:Type) (enc:TypeId×Value→H):
    ReturnsInHanded {} Tryd.checked os 3 .any (fun w args=>(Rows.fnExactGameTextSpec.pre enc Tryd.prog Tryd.f3 [] false w args∧laidMetH Tryd.prog Rows.fnExactGameTextRow.laid w)∧sizedMet enc Tryd.prog Tryd.f3 (OpenSpec.ofChange Rows.fnExactGameTextSpec) false w args)
      (Rows.fnExactGameTextSpec.post enc Tryd.prog Tryd.f3 false true false false):=by
  refine returnsInHanded_of_change_and (C:=Tryd.checked) (X:=fun w _=>laidMetH Tryd.prog Rows.fnExactGameTextRow.laid w) (fun _ _ _ hh h=>h.of_heap hh) own started (by kernel_rfl) Tryd.func3
    (ChangeSpec.witness_shaped (enc:=enc) (C:=Tryd.checked) (os:=os) (X:=fun w _=>laidMetH Tryd.prog Rows.fnExactGameTextRow.laid w) false (World.doorLaid Tryd.prog 400 os) #[.agg #[.int .i8 0, .int .i8 0, .slice none 0 0]] 8 rfl (World.shaped_of_RefB (by kernel_rfl) (by kernel_rfl)) (by kernel_rfl) (by kernel_rfl) (by kernel_rfl) (door_met os _)) ?_
  intro W base args ds gs before hval0 hW _ _ hL _
  have hval:∀ (j:Nat) t v,Tryd.f3.params[j]?=some t→args[j]?=some v→Value.okWide Tryd.prog W .any base t v:=hval0
  have hW':=hW
  obtain ⟨p,q,hA0,hV,rfl,hfz,hnd⟩:=hW
  have hA:DataW.TrodAll enc Tryd.prog W 0 (fun _=>true) true Tryd.f3.params.toList args.toList ds p:=hA0
  rw [Tryd.params3] at hA hval
  obtain ⟨v0,vs0,d0,ds0,p0,q0,hargs,rfl,rfl,h0,r0⟩:=trodAll_cons hA
  obtain ⟨rfl,rfl,rfl⟩:=trodAll_nil r0
  obtain rfl:args=#[v0]:=by cases args;simp_all
  obtain ⟨rfl,rfl⟩:=trodVars_none hV
  have k0:=h0
  have lt0:∀ x∈p0,x.block< W.heap.size:=by obtain ⟨m,hm⟩:=k0;exact DataW.trod_lt m _ _ _ hm
  obtain ⟨v0_0,v0_1,v0_2,x0_0,x0_1,x0_2,rfl,⟨rfl,oo0_0⟩,⟨rfl,oo0_1⟩,⟨rr0_2,ll0_2,oo0_2⟩⟩:=op_st3 Tryd.underlying25 (by kernel_rfl) ⟨rfl,rfl,by kernel_rfl⟩ ⟨rfl,rfl,by kernel_rfl⟩ ⟨rfl,rfl,by kernel_rfl⟩ (cell_int Tryd.underlying22) (cell_int Tryd.underlying22) (cell_row (n:=2) (e:=Qat) (hl:=Qbp) (h1:=Qbq) Tryd.underlying23 (by kernel_rfl) (by decide) (opf_st2 (ok:=fun x:Qas=>(IntKind.min .u64≤x.QaE∧x.QaE≤IntKind.max .u64)∧(True)) (mk:=Qas.mk) (c0:=Value.int .u64) (c1:=Value.bool) (fun _ _=>rfl) (fun _ _ h0 h1=>⟨h0,h1⟩) Tryd.underlying76 (by kernel_rfl) ⟨rfl,rfl,by kernel_rfl⟩ ⟨rfl,rfl,by kernel_rfl⟩ (opf_int Tryd.underlying53) (opf_bool Tryd.underlying4))) (by obtain ⟨c,e,_⟩:=okWide_struct Tryd.underlying25 (hval 0 25 v0 rfl rfl);exact ⟨c,e⟩) h0
  clear hA0 hval0
  obtain ⟨N,hN⟩:=QaN.told (⟨x0_0,x0_1,x0_2⟩:QaI) oo0_0 oo0_1 oo0_2 ll0_2
  refine (QaN.calls (tab_of hL) (dbr_of hL) (show RdRow QaC W v0_2 (⟨x0_0,x0_1,x0_2⟩:QaI).Qaf from rr0_2) hN).mono fun e W' ⟨v,he,hv,hst⟩=>?_
  subst he
  subst hv
  have bel:=hst.below
  exact ⟨_,rfl,_,_,_,[],_,[],hW',trodAll_mk1 (shut_bool Tryd.underlying4 _),(trodAll_cons_mk (Below.trod laidOut (by kernel_rfl) (of_decide_eq_true (by kernel_rfl)) k0 bel lt0) trodAll_mk0),rfl,bel.frame _,fun h=>by cases h⟩
theorem over:Rows.fnExactGameTextRow.holds Tryd.pinned (OpenSpec.ofChange Rows.fnExactGameTextSpec):=
  OpenClaim.holds_of_wide 3 Tryd.f3 rfl rfl rfl rfl rfl rfl rfl ⟨rfl,rfl,rfl,rfl,rfl⟩ rfl rfl rfl rfl rfl (by kernel_rfl) Tryd.func3 (by kernel_rfl)
    (of_decide_eq_true (by kernel_rfl)) (by unfold Func.isWrapper;first|(rw [if_pos (by decide+kernel)];kernel_rfl)|(rw [if_neg (by decide+kernel)];exact ⟨rfl,rfl⟩))
    (fun os started H enc _=>lifted os started H enc)
theorem card:Claim7.holds Tryd.pinned (.plain (OpenSpec.ofChange Rows.fnExactGameTextSpec)) Rows.fnExactGameTextCard:=
  Claim7.holds_tied_plain_at .later [] [.data, .data, .data] true (true, "e96348b68d762485e57392f0ab095addba905106206cf2f52b26a88c866a5786") true
    over (fun _ h=>by cases h) (by kernel_rfl) (fun _ h=>by cases h) fnExactGameText_row_tie rfl ⟨rfl,rfl⟩ (by kernel_rfl) rfl
    (fun f fn hf hfn=>by
      obtain rfl : f = 3 := Option.some.inj ((show Tryd.prog.funcNamed "loop.example/g01281/laws.FnExactGameText" = some 3 by kernel_rfl).symm.trans hf) |>.symm
      obtain rfl:fn=Tryd.f3:=(Option.some.inj (Tryd.func3.symm.trans hfn)).symm
      exact ⟨by kernel_rfl,fun j t ht=>by
        rw [Tryd.params3] at ht
        have hm:t∈[25]:=by simpa using Array.mem_of_getElem? ht
        have hall:([25].all fun u=>!Tryd.prog.wantsStandIn u)=true:=by kernel_rfl
        exact (show Tryd.prog.wantsStandIn t=false by simpa using List.all_eq_true.1 hall t hm)⟩)
    (by kernel_rfl)
end Go.Proofs.YtljkpeeabpdalaaDoor.fnExactGameText
namespace Go.Proofs.YtljkpeeabpdalaaDoor
theorem fnExactGameText_holds:Rows.FnExactGameTextCardSaid:=fnExactGameText.card
end Go.Proofs.YtljkpeeabpdalaaDoor
