import Derived.Test.YtgoninfjneepfaaGreatDoorRows
import Derived.Lay
import Derived.SevenTiedAt
import Derived.Test.YtgoninfjneepfaaGreatDoorCards
import Derived.Test.YtgoninfjneepfaaGreatDoorTie
import Derived.ProofKit
import Derived.Test.YtgoninfjneepfaaGreatDoorP15
import Derived.Test.YtgoninfjneepfaaGreatDoorP17
import Derived.Test.YtgoninfjneepfaaGreatDoorP18
namespace Go.Proofs.YtgoninfjneepfaaGreatDoor.fnGlasses
open Go.ChangeShapes Go.WideShapes Go.ChangeAt Go.RowKit Go.Proofs.YtgoninfjneepfaaGreatDoorX
open Go.ChangeMaps (open_string shut_string)
set_option linter.unusedVariables false
theorem own:ownKnob Tryz.prog.godebug=none:=by kernel_rfl
theorem laidOut:laidOutB Tryz.prog=true:=by kernel_rfl
theorem tab_of {W : World} (h : laidMetH Tryz.prog Rows.fnGlassesRow.laid W) : Lib.TabIs Tryz.prog W "internal/strconv.uint64pow10" .u64 Lib.pow10Tab := by
  rw [MakeChecks.laidMetH_plain _ _ _ (by kernel_rfl)] at h
  obtain ⟨ps,h,_⟩:=h
  exact tab_of_laid (g:=5) (t:=154) (e:=79) (n:=20) (by kernel_rfl) (by kernel_rfl) Tryz.underlying154 Tryz.underlying79 (by kernel_rfl) (by kernel_rfl) _ ps h (List.mem_of_getElem? (i:=2) rfl)
theorem max_of {W:World} (h:W.ShapedOpen Tryz.prog):CellI W 0:=
  Go.Proofs.cell_of_shapedOpen_int (zero:=#[.int .i64 0]) (t:=3) h (of_decide_eq_true (by kernel_rfl)) (by kernel_rfl) rfl (by kernel_rfl) (by kernel_rfl) Tryz.underlying3
theorem syn_of {W:World} (h:laidMetH Tryz.prog Rows.fnGlassesRow.laid W):CellE W 1:=by
  rw [MakeChecks.laidMetH_plain _ _ _ (by kernel_rfl)] at h
  obtain ⟨ps,h,_⟩:=h
  exact cellE_of_laid (g := 1) (t := 92) (d := Rows.laid_strconv_ErrSyntax) (name := "strconv.ErrSyntax") (by kernel_rfl) (by kernel_rfl) Tryz.underlying92 _ ps h (List.mem_of_getElem? (i := 5) rfl)
theorem rng_of {W:World} (h:laidMetH Tryz.prog Rows.fnGlassesRow.laid W):CellE W 2:=by
  rw [MakeChecks.laidMetH_plain _ _ _ (by kernel_rfl)] at h
  obtain ⟨ps,h,_⟩:=h
  exact cellE_of_laid (g := 2) (t := 92) (d := Rows.laid_strconv_ErrRange) (name := "strconv.ErrRange") (by kernel_rfl) (by kernel_rfl) Tryz.underlying92 _ ps h (List.mem_of_getElem? (i := 4) rfl)
set_option maxRecDepth 100000 in
theorem lifted (os:Os) (started:os.Started) (H:Type) (enc:TypeId×Value→H):
    ReturnsInHanded {} Tryz.checked os 3 .any (fun w args=>(Rows.fnGlassesSpec.pre enc Tryz.prog Tryz.f3 [] false w args∧laidMetH Tryz.prog Rows.fnGlassesRow.laid w)∧sizedMet enc Tryz.prog Tryz.f3 (OpenSpec.ofChange Rows.fnGlassesSpec) false w args)
      (Rows.fnGlassesSpec.post enc Tryz.prog Tryz.f3 false true false false):=by
  refine row_and_shaped (C:=Tryz.checked) (X:=fun w=>laidMetH Tryz.prog Rows.fnGlassesRow.laid w) (fun _ _ hh h=>h.of_heap hh) own started (by kernel_rfl) Tryz.func3
    (ChangeSpec.witness_shaped (enc:=enc) (C:=Tryz.checked) (os:=os) (X:=fun w _=>laidMetH Tryz.prog Rows.fnGlassesRow.laid w) false (World.laidAll Tryz.prog os Rows.fnGlassesRow.laid) #[.slice none 0 0, .slice none 0 0] 8 (World.laidAll_os _ _ _) (World.shaped_of_ZipB (by kernel_rfl) (by kernel_rfl)) (by kernel_rfl) (by kernel_rfl) (by kernel_rfl) (by rw [MakeChecks.laidMetH_plain _ _ _ (by kernel_rfl)];exact laidMet_laidAll _ (by kernel_rfl) (by kernel_rfl))) ?_
  intro W base args ds gs before hval0 hW hL hS
  have hval:∀ (j:Nat) t v,Tryz.f3.params[j]?=some t→args[j]?=some v→Value.okWide Tryz.prog W .any base t v:=hval0
  have hW':=hW
  obtain ⟨p,q,hA0,hV,rfl,hfz,hnd⟩:=hW
  have hA:DataW.TrodAll enc Tryz.prog W 0 (fun _=>true) true Tryz.f3.params.toList args.toList ds p:=hA0
  rw [Tryz.params3] at hA hval
  obtain ⟨v0,vs0,d0,ds0,p0,q0,hargs,rfl,rfl,h0,r0⟩:=trodAll_cons hA
  obtain ⟨v1,vs1,d1,ds1,p1,q1,rfl,rfl,rfl,h1,r1⟩:=trodAll_cons r0
  obtain ⟨rfl,rfl,rfl⟩:=trodAll_nil r1
  obtain rfl:args=#[v0,v1]:=by cases args;simp_all
  obtain ⟨rfl,rfl⟩:=trodVars_none hV
  have k0:=h0
  have lt0:∀ x∈p0,x.block< W.heap.size:=by obtain ⟨m,hm⟩:=k0;exact DataW.trod_lt m _ _ _ hm
  obtain ⟨x0,rr0,ll0,oo0⟩:∃ xs:List (Int),RdRow (K.int .u8) W v0 xs∧xs.length≤9223372036854775807∧∀ x∈xs,IntKind.min .u8≤x∧x≤IntKind.max .u8:=op_row Tryz.underlying22 (by kernel_rfl) (by decide) (opf_int Tryz.underlying5) (okWide_slice Tryz.underlying22 (hval 0 22 v0 rfl rfl)) h0
  have k1:=h1
  have lt1:∀ x∈p1,x.block< W.heap.size:=by obtain ⟨m,hm⟩:=k1;exact DataW.trod_lt m _ _ _ hm
  obtain ⟨x1,rr1,ll1,oo1⟩:∃ xs:List (Int),RdRow (K.int .u8) W v1 xs∧xs.length≤9223372036854775807∧∀ x∈xs,IntKind.min .u8≤x∧x≤IntKind.max .u8:=op_row Tryz.underlying22 (by kernel_rfl) (by decide) (opf_int Tryz.underlying5) (okWide_slice Tryz.underlying22 (hval 1 22 v1 rfl rfl)) h1
  clear hA0 hval0
  obtain ⟨N,hN⟩:=Qam.told x0 oo0 ll0 x1 oo1 ll1
  refine (Qam.calls (tab_of hL) (max_of hS) (syn_of hL) (rng_of hL) rr0 rr1 hN).mono fun e W' ⟨v,he,_,rfl,hv,hst⟩=>?_
  subst he
  subst hv
  have bel:=hst.below
  exact ⟨_,rfl,_,_,_,[],_,[],hW',trodAll_mk1 (shut_bool Tryz.underlying4 _),(trodAll_cons_mk (Below.trod laidOut (by kernel_rfl) (of_decide_eq_true (by kernel_rfl)) k0 bel lt0) (trodAll_cons_mk (Below.trod laidOut (by kernel_rfl) (of_decide_eq_true (by kernel_rfl)) k1 bel lt1) trodAll_mk0)),rfl,bel.frame _,fun h=>by cases h⟩
theorem over:Rows.fnGlassesRow.holds Tryz.pinned (OpenSpec.ofChange Rows.fnGlassesSpec):=
  OpenClaim.holds_of_wide 3 Tryz.f3 rfl rfl rfl rfl rfl rfl rfl ⟨rfl,rfl,rfl,rfl,rfl⟩ rfl rfl rfl rfl rfl (by kernel_rfl) Tryz.func3 (by kernel_rfl)
    (of_decide_eq_true (by kernel_rfl)) (by unfold Func.isWrapper;first|(rw [if_pos (by decide+kernel)];kernel_rfl)|(rw [if_neg (by decide+kernel)];exact ⟨rfl,rfl⟩))
    (fun os started H enc _=>lifted os started H enc)
theorem card:Claim7.holds Tryz.pinned (.plain (OpenSpec.ofChange Rows.fnGlassesSpec)) Rows.fnGlassesCard:=
  Claim7.holds_tied_plain_at .later [] [.data, .data, .data, .data, .sentinel, .sentinel, .pinned] true (true, "4a25023471d39dd81d4d9a54372e1cb04e03baafe68b824167675b0d402ca36d") true
    over (fun _ h=>by cases h) (by kernel_rfl) (fun _ h=>by cases h) fnGlasses_row_tie rfl ⟨rfl,rfl⟩ (by kernel_rfl) rfl
    (fun f fn hf hfn=>by
      obtain rfl : f = 3 := Option.some.inj ((show Tryz.prog.funcNamed "loop.example/g01281/laws.FnGlasses" = some 3 by kernel_rfl).symm.trans hf) |>.symm
      obtain rfl:fn=Tryz.f3:=(Option.some.inj (Tryz.func3.symm.trans hfn)).symm
      exact ⟨by kernel_rfl,fun j t ht=>by
        rw [Tryz.params3] at ht
        have hm:t∈[22,22]:=by simpa using Array.mem_of_getElem? ht
        have hall:([22,22].all fun u=>!Tryz.prog.wantsStandIn u)=true:=by kernel_rfl
        exact (show Tryz.prog.wantsStandIn t=false by simpa using List.all_eq_true.1 hall t hm)⟩)
    (by kernel_rfl)
end Go.Proofs.YtgoninfjneepfaaGreatDoor.fnGlasses
namespace Go.Proofs.YtgoninfjneepfaaGreatDoor
theorem fnGlasses_holds:Rows.FnGlassesCardSaid:=fnGlasses.card
end Go.Proofs.YtgoninfjneepfaaGreatDoor
