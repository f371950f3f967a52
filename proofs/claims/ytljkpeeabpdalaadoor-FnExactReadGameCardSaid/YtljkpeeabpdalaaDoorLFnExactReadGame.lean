import Derived.Test.YtljkpeeabpdalaaDoorRows
import Derived.Lay
import Derived.SevenTiedAt
import Derived.Test.YtljkpeeabpdalaaDoorCards
import Derived.Test.YtljkpeeabpdalaaDoorTie
import Derived.ProofKit
import Derived.Test.YtljkpeeabpdalaaDoorP11
import Derived.Test.YtljkpeeabpdalaaDoorP15
import Derived.Test.YtljkpeeabpdalaaDoorP16
namespace Go.Proofs.YtljkpeeabpdalaaDoor.fnExactReadGame
open Go.ChangeShapes Go.WideShapes Go.ChangeAt Go.RowKit Go.Proofs.YtljkpeeabpdalaaDoorX
open Go.ChangeMaps (open_string shut_string)
set_option linter.unusedVariables false
theorem own:ownKnob Tryd.prog.godebug=none:=by kernel_rfl
theorem laidOut:laidOutB Tryd.prog=true:=by kernel_rfl
theorem tab_of {W : World} (h : laidMetH Tryd.prog Rows.fnExactReadGameRow.laid W) : Lib.TabIs Tryd.prog W "internal/strconv.uint64pow10" .u64 Lib.pow10Tab := by
  rw [MakeChecks.laidMetH_plain _ _ _ (by kernel_rfl)] at h
  obtain ⟨ps,h,_⟩:=h
  exact tab_of_laid (g:=0) (t:=113) (e:=53) (n:=20) (by kernel_rfl) (by kernel_rfl) Tryd.underlying113 Tryd.underlying53 (by kernel_rfl) (by kernel_rfl) _ ps h (List.mem_of_getElem? (i:=2) rfl)
theorem max_of {W:World} (h:W.ShapedOpen Tryd.prog):CellI W 1:=
  Go.Proofs.cell_of_shapedOpen_int (zero:=#[.int .i64 0]) (t:=3) h (of_decide_eq_true (by kernel_rfl)) (by kernel_rfl) rfl (by kernel_rfl) (by kernel_rfl) Tryd.underlying3
theorem syn_of {W:World} (h:laidMetH Tryd.prog Rows.fnExactReadGameRow.laid W):CellE W 2:=by
  rw [MakeChecks.laidMetH_plain _ _ _ (by kernel_rfl)] at h
  obtain ⟨ps,h,_⟩:=h
  exact cellE_of_laid (g := 2) (t := 49) (d := Rows.laid_strconv_ErrSyntax) (name := "strconv.ErrSyntax") (by kernel_rfl) (by kernel_rfl) Tryd.underlying49 _ ps h (List.mem_of_getElem? (i := 5) rfl)
theorem rng_of {W:World} (h:laidMetH Tryd.prog Rows.fnExactReadGameRow.laid W):CellE W 3:=by
  rw [MakeChecks.laidMetH_plain _ _ _ (by kernel_rfl)] at h
  obtain ⟨ps,h,_⟩:=h
  exact cellE_of_laid (g := 3) (t := 49) (d := Rows.laid_strconv_ErrRange) (name := "strconv.ErrRange") (by kernel_rfl) (by kernel_rfl) Tryd.underlying49 _ ps h (List.mem_of_getElem? (i := 4) rfl)
theorem dbr_of {W:World} (h:laidMetH Tryd.prog Rows.fnExactReadGameRow.laid W):CellU W 5 15 4:=by
  rw [MakeChecks.laidMetH_plain _ _ _ (by kernel_rfl)] at h
  obtain ⟨ps,h,_⟩:=h
  have t : Lib.TabIs Tryd.prog W "math/bits.deBruijn64tab" .u8 [0, 1, 56, 2, 57, 49, 28, 3, 61, 58, 42, 50, 38, 29, 17, 4, 62, 47, 59, 36, 45, 43, 51, 22, 53, 39, 33, 30, 24, 18, 12, 5, 63, 55, 48, 27, 60, 41, 37, 16, 46, 35, 44, 21, 52, 32, 23, 11, 54, 26, 40, 15, 34, 20, 31, 10, 25, 14, 19, 9, 13, 8, 7, 6] :=
    tab_of_laid (g:=5) (t:=135) (e:=5) (n:=64) (by kernel_rfl) (by kernel_rfl) Tryd.underlying135 Tryd.underlying5 (by kernel_rfl) (by kernel_rfl) _ ps h (List.mem_of_getElem? (i:=1) rfl)
  exact t.cell (g:=5) (by kernel_rfl) 15 (by decide)
set_option maxRecDepth 100000 in
theorem lifted (os:Os) (started:os.Started) (H:Type) (enc:TypeId×Value→H):
    ReturnsInHanded {} Tryd.checked os 4 .any (fun w args=>(Rows.fnExactReadGameSpec.pre enc Tryd.prog Tryd.f4 [] false w args∧laidMetH Tryd.prog Rows.fnExactReadGameRow.laid w)∧sizedMet enc Tryd.prog Tryd.f4 (OpenSpec.ofChange Rows.fnExactReadGameSpec) false w args)
      (Rows.fnExactReadGameSpec.post enc Tryd.prog Tryd.f4 false true false false):=by
  refine row_and_shaped (C:=Tryd.checked) (X:=fun w=>laidMetH Tryd.prog Rows.fnExactReadGameRow.laid w) (fun _ _ hh h=>h.of_heap hh) own started (by kernel_rfl) Tryd.func4
    (ChangeSpec.witness_shaped (enc:=enc) (C:=Tryd.checked) (os:=os) (X:=fun w _=>laidMetH Tryd.prog Rows.fnExactReadGameRow.laid w) false (World.laidAll Tryd.prog os Rows.fnExactReadGameRow.laid) #[.string ⟨#[]⟩] 8 (World.laidAll_os _ _ _) (World.shaped_of_ZipB (by kernel_rfl) (by kernel_rfl)) (by kernel_rfl) (by kernel_rfl) (by kernel_rfl) (by rw [MakeChecks.laidMetH_plain _ _ _ (by kernel_rfl)];exact laidMet_laidAll _ (by kernel_rfl) (by kernel_rfl))) ?_
  intro W base args ds gs before hval0 hW hL hS
  have hval:∀ (j:Nat) t v,Tryd.f4.params[j]?=some t→args[j]?=some v→Value.okWide Tryd.prog W .any base t v:=hval0
  have hW':=hW
  obtain ⟨p,q,hA0,hV,rfl,hfz,hnd⟩:=hW
  have hA:DataW.TrodAll enc Tryd.prog W 0 (fun _=>true) true Tryd.f4.params.toList args.toList ds p:=hA0
  rw [Tryd.params4] at hA hval
  obtain ⟨v0,vs0,d0,ds0,p0,q0,hargs,rfl,rfl,h0,r0⟩:=trodAll_cons hA
  obtain ⟨rfl,rfl,rfl⟩:=trodAll_nil r0
  obtain rfl:args=#[v0]:=by cases args;simp_all
  obtain ⟨rfl,rfl⟩:=trodVars_none hV
  have k0:=h0
  have lt0:∀ x∈p0,x.block< W.heap.size:=by obtain ⟨m,hm⟩:=k0;exact DataW.trod_lt m _ _ _ hm
  obtain ⟨x0,rfl⟩:=okWide_string Tryd.underlying9 (hval 0 9 v0 rfl rfl)
  clear hA0 hval0
  obtain ⟨N,hN⟩:=QaS.told x0
  refine (QaS.calls (tab_of hL) (max_of hS) (syn_of hL) (rng_of hL) (dbr_of hL) hN).mono fun e W' ⟨v,he,hv,hst⟩=>?_
  subst he
  subst hv
  have bel:=hst.below
  exact ⟨_,rfl,_,_,_,[],_,[],hW',trodAll_mk1 (shut_bool Tryd.underlying4 _),(trodAll_cons_mk (Below.trod laidOut (by kernel_rfl) (of_decide_eq_true (by kernel_rfl)) k0 bel lt0) trodAll_mk0),rfl,bel.frame _,fun h=>by cases h⟩
theorem over:Rows.fnExactReadGameRow.holds Tryd.pinned (OpenSpec.ofChange Rows.fnExactReadGameSpec):=
  OpenClaim.holds_of_wide 4 Tryd.f4 rfl rfl rfl rfl rfl rfl rfl ⟨rfl,rfl,rfl,rfl,rfl⟩ rfl rfl rfl rfl rfl (by kernel_rfl) Tryd.func4 (by kernel_rfl)
    (of_decide_eq_true (by kernel_rfl)) (by unfold Func.isWrapper;first|(rw [if_pos (by decide+kernel)];kernel_rfl)|(rw [if_neg (by decide+kernel)];exact ⟨rfl,rfl⟩))
    (fun os started H enc _=>lifted os started H enc)
theorem card:Claim7.holds Tryd.pinned (.plain (OpenSpec.ofChange Rows.fnExactReadGameSpec)) Rows.fnExactReadGameCard:=
  Claim7.holds_tied_plain_at .later [] [.data, .data, .data, .data, .sentinel, .sentinel, .pinned] true (true, "e96348b68d762485e57392f0ab095addba905106206cf2f52b26a88c866a5786") true
    over (fun _ h=>by cases h) (by kernel_rfl) (fun _ h=>by cases h) fnExactReadGame_row_tie rfl ⟨rfl,rfl⟩ (by kernel_rfl) rfl
    (fun f fn hf hfn=>by
      obtain rfl : f = 4 := Option.some.inj ((show Tryd.prog.funcNamed "loop.example/g01281/laws.FnExactReadGame" = some 4 by kernel_rfl).symm.trans hf) |>.symm
      obtain rfl:fn=Tryd.f4:=(Option.some.inj (Tryd.func4.symm.trans hfn)).symm
      exact ⟨by kernel_rfl,fun j t ht=>by
        rw [Tryd.params4] at ht
        have hm:t∈[9]:=by simpa using Array.mem_of_getElem? ht
        have hall:([9].all fun u=>!Tryd.prog.wantsStandIn u)=true:=by kernel_rfl
        exact (show Tryd.prog.wantsStandIn t=false by simpa using List.all_eq_true.1 hall t hm)⟩)
    (by kernel_rfl)
end Go.Proofs.YtljkpeeabpdalaaDoor.fnExactReadGame
namespace Go.Proofs.YtljkpeeabpdalaaDoor
theorem fnExactReadGame_holds:Rows.FnExactReadGameCardSaid:=fnExactReadGame.card
end Go.Proofs.YtljkpeeabpdalaaDoor
