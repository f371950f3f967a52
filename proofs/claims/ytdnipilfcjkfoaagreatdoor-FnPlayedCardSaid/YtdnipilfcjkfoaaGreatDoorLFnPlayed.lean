import Derived.Test.YtdnipilfcjkfoaaGreatDoorRows
import Derived.Lay
import Derived.SevenTiedAt
import Derived.Test.YtdnipilfcjkfoaaGreatDoorCards
import Derived.Test.YtdnipilfcjkfoaaGreatDoorTie
import Derived.ProofKit
import Derived.Test.YtdnipilfcjkfoaaGreatDoorP19
import Derived.Test.YtdnipilfcjkfoaaGreatDoorP21
import Derived.Test.YtdnipilfcjkfoaaGreatDoorP22
namespace Go.Proofs.YtdnipilfcjkfoaaGreatDoor.fnPlayed
open Go.ChangeShapes Go.WideShapes Go.ChangeAt Go.RowKit Go.Proofs.YtdnipilfcjkfoaaGreatDoorX
open Go.ChangeMaps (open_string shut_string)
set_option linter.unusedVariables false
theorem own:ownKnob Tryz.prog.godebug=none:=by kernel_rfl
theorem laidOut:laidOutB Tryz.prog=true:=by kernel_rfl
theorem tab_of {W : World} (h : laidMetH Tryz.prog Rows.fnPlayedRow.laid W) : Lib.TabIs Tryz.prog W "internal/strconv.uint64pow10" .u64 Lib.pow10Tab := by
  rw [MakeChecks.laidMetH_plain _ _ _ (by kernel_rfl)] at h
  obtain ⟨ps,h,_⟩:=h
  exact tab_of_laid (g:=1) (t:=179) (e:=50) (n:=20) (by kernel_rfl) (by kernel_rfl) Tryz.underlying179 Tryz.underlying50 (by kernel_rfl) (by kernel_rfl) _ ps h (List.mem_of_getElem? (i:=2) rfl)
theorem max_of {W:World} (h:W.ShapedOpen Tryz.prog):CellI W 0:=
  Go.Proofs.cell_of_shapedOpen_int (zero:=#[.int .i64 0]) (t:=3) h (of_decide_eq_true (by kernel_rfl)) (by kernel_rfl) rfl (by kernel_rfl) (by kernel_rfl) Tryz.underlying3
theorem syn_of {W:World} (h:laidMetH Tryz.prog Rows.fnPlayedRow.laid W):CellE W 2:=by
  rw [MakeChecks.laidMetH_plain _ _ _ (by kernel_rfl)] at h
  obtain ⟨ps,h,_⟩:=h
  exact cellE_of_laid (g := 2) (t := 85) (d := Rows.laid_strconv_ErrSyntax) (name := "strconv.ErrSyntax") (by kernel_rfl) (by kernel_rfl) Tryz.underlying85 _ ps h (List.mem_of_getElem? (i := 5) rfl)
theorem rng_of {W:World} (h:laidMetH Tryz.prog Rows.fnPlayedRow.laid W):CellE W 3:=by
  rw [MakeChecks.laidMetH_plain _ _ _ (by kernel_rfl)] at h
  obtain ⟨ps,h,_⟩:=h
  exact cellE_of_laid (g := 3) (t := 85) (d := Rows.laid_strconv_ErrRange) (name := "strconv.ErrRange") (by kernel_rfl) (by kernel_rfl) Tryz.underlying85 _ ps h (List.mem_of_getElem? (i := 4) rfl)
theorem dbr_of {W:World} (h:laidMetH Tryz.prog Rows.fnPlayedRow.laid W):CellU W 7 15 4:=by
  rw [MakeChecks.laidMetH_plain _ _ _ (by kernel_rfl)] at h
  obtain ⟨ps,h,_⟩:=h
  have t : Lib.TabIs Tryz.prog W "math/bits.deBruijn64tab" .u8 [0, 1, 56, 2, 57, 49, 28, 3, 61, 58, 42, 50, 38, 29, 17, 4, 62, 47, 59, 36, 45, 43, 51, 22, 53, 39, 33, 30, 24, 18, 12, 5, 63, 55, 48, 27, 60, 41, 37, 16, 46, 35, 44, 21, 52, 32, 23, 11, 54, 26, 40, 15, 34, 20, 31, 10, 25, 14, 19, 9, 13, 8, 7, 6] :=
    tab_of_laid (g:=7) (t:=206) (e:=5) (n:=64) (by kernel_rfl) (by kernel_rfl) Tryz.underlying206 Tryz.underlying5 (by kernel_rfl) (by kernel_rfl) _ ps h (List.mem_of_getElem? (i:=1) rfl)
  exact t.cell (g:=7) (by kernel_rfl) 15 (by decide)
set_option maxRecDepth 100000 in
theorem lifted (os:Os) (started:os.Started) (H:Type) (enc:TypeId×Value→H):
    ReturnsInHanded {} Tryz.checked os 3 .any (fun w args=>(Rows.fnPlayedSpec.pre enc Tryz.prog Tryz.f3 [] false w args∧laidMetH Tryz.prog Rows.fnPlayedRow.laid w)∧sizedMet enc Tryz.prog Tryz.f3 (OpenSpec.ofChange Rows.fnPlayedSpec) false w args)
      (Rows.fnPlayedSpec.post enc Tryz.prog Tryz.f3 false true false false):=by
  refine row_and_shaped (C:=Tryz.checked) (X:=fun w=>laidMetH Tryz.prog Rows.fnPlayedRow.laid w) (fun _ _ hh h=>h.of_heap hh) own started (by kernel_rfl) Tryz.func3
    (ChangeSpec.witness_shaped (enc:=enc) (C:=Tryz.checked) (os:=os) (X:=fun w _=>laidMetH Tryz.prog Rows.fnPlayedRow.laid w) false (World.laidAll Tryz.prog os Rows.fnPlayedRow.laid) #[.slice none 0 0, .slice none 0 0] 8 (World.laidAll_os _ _ _) (World.shaped_of_ZipB (by kernel_rfl) (by kernel_rfl)) (by kernel_rfl) (by kernel_rfl) (by kernel_rfl) (by rw [MakeChecks.laidMetH_plain _ _ _ (by kernel_rfl)];exact laidMet_laidAll _ (by kernel_rfl) (by kernel_rfl))) ?_
  intro W base args ds gs before hval0 hW hL hS
  have hval:∀ (j:Nat) t v,Tryz.f3.params[j]?=some t→args[j]?=some v→Value.okWide Tryz.prog W .any base t v:=hval0
  have hW':=hW
  obtain ⟨p,q,hA0,hV,rfl,hfz,hnd⟩:=hW
  have hA:DataW.TrodAll enc Tryz.prog W 0 (fun _=>true) true Tryz.f3.params.toList args.toList ds p:=hA0
  rw [Tryz.params3] at hA hval
  obtain ⟨v0,vs0,d0,ds0,p0,q0,hargs,rfl,rfl,h0,r0⟩:=trodAll_cons hA
  obtain ⟨v1,vs1,d1,ds1,p1,q1,rfl,rfl,rfl,h1,r1⟩:=trodAll_cons r0
  obtain ⟨rfl,rfl,rfl⟩:=trodAll_nil r1
  obtain rfl:args=#[v0,v1]:=by cases args;simp_all
  obtain ⟨rfl,rfl⟩:=trodVars_none hV
  have k0:=h0
  have lt0:∀ x∈p0,x.block< W.heap.size:=by obtain ⟨m,hm⟩:=k0;exact DataW.trod_lt m _ _ _ hm
  obtain ⟨x0,rr0,ll0,oo0⟩:∃ xs:List (Int),RdRow (K.int .u8) W v0 xs∧xs.length≤9223372036854775807∧∀ x∈xs,IntKind.min .u8≤x∧x≤IntKind.max .u8:=op_row Tryz.underlying22 (by kernel_rfl) (by decide) (opf_int Tryz.underlying5) (okWide_slice Tryz.underlying22 (hval 0 22 v0 rfl rfl)) h0
  have k1:=h1
  have lt1:∀ x∈p1,x.block< W.heap.size:=by obtain ⟨m,hm⟩:=k1;exact DataW.trod_lt m _ _ _ hm
  obtain ⟨x1,rr1,ll1,oo1⟩:∃ xs:List (Int),RdRow (K.int .u8) W v1 xs∧xs.length≤9223372036854775807∧∀ x∈xs,IntKind.min .u8≤x∧x≤IntKind.max .u8:=op_row Tryz.underlying22 (by kernel_rfl) (by decide) (opf_int Tryz.underlying5) (okWide_slice Tryz.underlying22 (hval 1 22 v1 rfl rfl)) h1
  clear hA0 hval0
  obtain ⟨N,hN⟩:=Qal.told x0 oo0 ll0 x1 oo1 ll1
  refine (Qal.calls (tab_of hL) (max_of hS) (syn_of hL) (rng_of hL) (dbr_of hL) rr0 rr1 hN).mono fun e W' ⟨v,he,hv,hst⟩=>?_
  subst he
  subst hv
  have bel:=hst.below
  exact ⟨_,rfl,_,_,_,[],_,[],hW',trodAll_mk1 (shut_bool Tryz.underlying4 _),(trodAll_cons_mk (Below.trod laidOut (by kernel_rfl) (of_decide_eq_true (by kernel_rfl)) k0 bel lt0) (trodAll_cons_mk (Below.trod laidOut (by kernel_rfl) (of_decide_eq_true (by kernel_rfl)) k1 bel lt1) trodAll_mk0)),rfl,bel.frame _,fun h=>by cases h⟩
theorem over:Rows.fnPlayedRow.holds Tryz.pinned (OpenSpec.ofChange Rows.fnPlayedSpec):=
  OpenClaim.holds_of_wide 3 Tryz.f3 rfl rfl rfl rfl rfl rfl rfl ⟨rfl,rfl,rfl,rfl,rfl⟩ rfl rfl rfl rfl rfl (by kernel_rfl) Tryz.func3 (by kernel_rfl)
    (of_decide_eq_true (by kernel_rfl)) (by unfold Func.isWrapper;first|(rw [if_pos (by decide+kernel)];kernel_rfl)|(rw [if_neg (by decide+kernel)];exact ⟨rfl,rfl⟩))
    (fun os started H enc _=>lifted os started H enc)
theorem card:Claim7.holds Tryz.pinned (.plain (OpenSpec.ofChange Rows.fnPlayedSpec)) Rows.fnPlayedCard:=
  Claim7.holds_tied_plain_at .later [] [.data, .data, .data, .data, .sentinel, .sentinel, .pinned] true (true, "0ad8e0c3fbaac8092456cd695bc7d6540ac67f184c0b0b1e4ae16315f59a0ae7") true
    over (fun _ h=>by cases h) (by kernel_rfl) (fun _ h=>by cases h) fnPlayed_row_tie rfl ⟨rfl,rfl⟩ (by kernel_rfl) rfl
    (fun f fn hf hfn=>by
      obtain rfl : f = 3 := Option.some.inj ((show Tryz.prog.funcNamed "loop.example/g01281/laws.FnPlayed" = some 3 by kernel_rfl).symm.trans hf) |>.symm
      obtain rfl:fn=Tryz.f3:=(Option.some.inj (Tryz.func3.symm.trans hfn)).symm
      exact ⟨by kernel_rfl,fun j t ht=>by
        rw [Tryz.params3] at ht
        have hm:t∈[22,22]:=by simpa using Array.mem_of_getElem? ht
        have hall:([22,22].all fun u=>!Tryz.prog.wantsStandIn u)=true:=by kernel_rfl
        exact (show Tryz.prog.wantsStandIn t=false by simpa using List.all_eq_true.1 hall t hm)⟩)
    (by kernel_rfl)
end Go.Proofs.YtdnipilfcjkfoaaGreatDoor.fnPlayed
namespace Go.Proofs.YtdnipilfcjkfoaaGreatDoor
theorem fnPlayed_holds:Rows.FnPlayedCardSaid:=fnPlayed.card
end Go.Proofs.YtdnipilfcjkfoaaGreatDoor
