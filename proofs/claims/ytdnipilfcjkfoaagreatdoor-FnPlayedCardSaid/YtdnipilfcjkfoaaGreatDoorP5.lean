import Derived.Lib.LaidTab
import Derived.Lib.AppendIntMem
import Derived.LaidMore
import Derived.WideLaws
import Derived.Shelf.Vars
import Derived.Lib.SmallJoins
import Derived.Test.YtdnipilfcjkfoaaGreatDoorP4
import Derived.Test.YtdnipilfcjkfoaaGreatDoorP3
namespace Go.Proofs
open Go Go.Shelf Go.RowKit
set_option linter.unusedVariables false
set_option linter.unusedSimpArgs false
set_option maxHeartbeats 2000000 in
set_option maxRecDepth 100000 in
theorem YtdnipilfcjkfoaaGreatDoorX.bld_used (b:Nat) (w:World) (h0:w.cell? ⟨b,0,none⟩=some (.pointer (some ⟨b,0,none⟩))):
 Calls Tryz.prog 84 #[.pointer (some ⟨b,0,none⟩)] w fun e w'=>e= .returned (.tuple #[])∧w'=w:=by
 obtain ⟨j,hj,_⟩:=Option.map_eq_some_iff.1 (show (Tryz.prog.info? 83).map (·.size)=some 2 from Tryz.Builder_Extra_169.sizeBuilder)
 go_enter Tryz.func84,Tryz.ntmps84
 go_wp2
 rw [Lib.run_neq_ptr_same w _ Tryz.underlying81 hj]
 go_wp2
 go_end0
 exact ⟨rfl,rfl⟩
set_option maxHeartbeats 2000000 in
set_option maxRecDepth 100000 in
theorem YtdnipilfcjkfoaaGreatDoorX.bld_fresh (b:Nat) (w:World) (h0:w.cell? ⟨b,0,none⟩=some (.pointer none)) (hsh:w.shape? b=some (83,2)) (hfz:w.frozen? ⟨b,0,none⟩=false):
 Calls Tryz.prog 84 #[.pointer (some ⟨b,0,none⟩)] w fun e w'=>e= .returned (.tuple #[])∧w'=w.setCell ⟨b,0,none⟩ (.pointer (some ⟨b,0,none⟩)):=by
 obtain ⟨j,hj,hjs⟩:=Option.map_eq_some_iff.1 (show (Tryz.prog.info? 83).map (·.size)=some 2 from Tryz.Builder_Extra_169.sizeBuilder)
 go_enter Tryz.func84,Tryz.ntmps84
 go_wp2
 rw [Lib.run_to_unsafe w ⟨b,0,none⟩ Tryz.underlying81 Tryz.underlying145 hj (by rw [hjs];decide) hsh (Nat.zero_lt_succ 1)]
 simp only [Result.andThen]
 rw [Oper.upon_value]
 go_wp2
 rw [run_callFunc_extern Tryz.func106 (by kernel_rfl) (by kernel_rfl) (by kernel_rfl) (e:=Extern.AbiNoEscape.same) (by kernel_rfl)]
 rw [Lib.run_noEscape]
 simp only [Result.andThen]
 rw [Oper.upon_value]
 go_wp2
 rw [Lib.run_from_unsafe w ⟨b,0,none⟩ Tryz.underlying145 Tryz.underlying81 hj hsh Tryz.Builder_Extra_169.liesBuilder]
 simp only [Result.andThen]
 rw [Oper.upon_value]
 go_wp2
 go_end0
 exact ⟨rfl,rfl⟩
theorem YtdnipilfcjkfoaaGreatDoorX.bld_check (B b:Nat) (bs:List Value) (w:World) (h:Lib.IsBuilderF 83 5 B b bs w):
 Calls Tryz.prog 84 #[.pointer (some ⟨b,0,none⟩)] w fun e w'=>e= .returned (.tuple #[])∧(Lib.BuilderAtF 83 5 B b (.pointer (some ⟨b,0,none⟩)) bs w'∧Below B w w'∧Lib.OthersKept 5 (some b) w w'):=by
 rcases h with h|h
 ·refine (YtdnipilfcjkfoaaGreatDoorX.bld_fresh b w h.cell0 h.shape h.frozen0).mono ?_
  rintro e w' ⟨rfl,rfl⟩
  exact ⟨rfl,h.used _,(Below.refl B w).setCell (p:=⟨b,0,none⟩) h.1 _,(Lib.OthersKept.refl _ _ w).setCell ⟨b,0,none⟩ rfl _⟩
 ·refine (YtdnipilfcjkfoaaGreatDoorX.bld_used b w h.cell0).mono ?_
  rintro e w' ⟨rfl,rfl⟩
  exact ⟨rfl,h,Below.refl B _,Lib.OthersKept.refl _ _ _⟩
set_option maxHeartbeats 2000000 in
set_option maxRecDepth 100000 in
theorem YtdnipilfcjkfoaaGreatDoorX.bld_write (B b:Nat) (bs:List Value) (s:ByteArray) (w:World) (h:Lib.IsBuilderF 83 5 B b bs w) (hlen:bs.length+s.size≤140737488355328) (hBw:B≤w.heap.size):
 Calls Tryz.prog 45 #[.pointer (some ⟨b,0,none⟩), .string s] w fun e w'=>e= .returned (.tuple #[.int .i64 s.size, .nilIface])∧(Lib.BuilderAtF 83 5 B b (.pointer (some ⟨b,0,none⟩)) (bs++Lib.strCells s) w'∧Below B w w'∧Lib.OthersKept 5 (some b) w w'):=by
 obtain ⟨i0,hi,hz0,hz1,hz2⟩:=info_parts Tryz.Builder_Extra_169.infoByte
 have eCC:∀ args w,(callFunc 84 args).run Tryz.prog w= .ok (.enter 84 args) w:=enters_of Tryz.func84 (by kernel_rfl) rfl
 go_enter Tryz.func45,Tryz.ntmps45
 go_wp2_with (go_at_fn 84;refine (YtdnipilfcjkfoaaGreatDoorX.bld_check B b bs _ h).mono ?_)
 rintro e w1 ⟨rfl,h1,hb1,hk1⟩
 obtain ⟨hB,v,hbk,hown,hne⟩:=h1
 have c0:w1.cell? ⟨b,0,none⟩=some (.pointer (some ⟨b,0,none⟩)):=by rw [Lib.cell_of_heap hbk];rfl
 have c1:w1.cell? ⟨b,1,none⟩=some v:=by rw [Lib.cell_of_heap hbk];rfl
 go_wp2_with (at_builtin;refine Lib.wpList_append_own_stringF _ rfl _ _ 22 9 rfl B 5 i0 Tryz.underlying22 Tryz.underlying9 hi hz0 hz1 hz2 _ _ _ rfl hown s rfl ?c3 ?c4 ?c5 ?_)
 case c3=>unfold maxLen;omega
 case c4=>omega
 case c5=>have:=hb1.size;omega
 intro v' w2 hown' hgrow _
 have hlt:b< w1.heap.size:=by
  rcases Nat.lt_or_ge b w1.heap.size with h'|h'
  ·exact h'
  ·simp [Array.getElem?_eq_none h'] at hbk
 have hb2:w2.heap[b]?=some (.cells #[.pointer (some ⟨b,0,none⟩),v] 83 (0,0)):=by
  rw [hgrow.block b hlt (fun e=>hne e.symm)]
  exact hbk
 have d0:w2.cell? ⟨b,0,none⟩=some (.pointer (some ⟨b,0,none⟩)):=by rw [Lib.cell_of_heap hb2];rfl
 have d1:w2.cell? ⟨b,1,none⟩=some v:=by rw [Lib.cell_of_heap hb2];rfl
 have f1:w2.frozen? ⟨b,1,none⟩=false:=Lib.frozen_of_heap hb2 1
 obtain ⟨ao,n',cap,rfl⟩:∃ ao n' cap,v'= .slice ao n' cap:=by
  rcases hown'.2 with ⟨hv,_⟩|⟨g,cap,cur,fz,hv,_⟩
  ·exact ⟨_,_,_,hv⟩
  ·exact ⟨_,_,_,hv⟩
 go_wp2
 go_ret2
 refine ⟨rfl,?_,?_,(hk1.grown hgrow (Lib.ownsRowF_kind hown)).setCell ⟨b,1,none⟩ rfl _⟩
 ·exact Lib.BuilderAtF.put (T:=83) (e:=5) hB hb2 (bs':=bs++Lib.strCells s) (by simpa [Lib.strCells_length] using hown') (by decide)
 ·exact (hb1.grown hgrow (by have:=hb1.size;omega) (fun k hk=>(hown.lt k hk).1)).setCell (p:=⟨b,1,none⟩) hB _
set_option maxHeartbeats 1000000 in
theorem YtdnipilfcjkfoaaGreatDoorX.tz_core (x k idx:Nat) (w:World) (hx0:((x:Int)==0)=false)
 (key:IntKind.u64.wrap (bits BinOp.and IntKind.u64 (x:Int) (IntKind.u64.wrap (-(x:Int)))*285870213051353865)/288230376151711744=(idx:Int))
 (hi:idx< 64) (hk:k< 64) (hcell:w.cell? ⟨7,idx,none⟩=some (.int .u8 k)):
 Calls Tryz.prog 159 #[.int .u64 x] w fun e w'=>e= .returned (.int .i64 k)∧w'=w:=by
 have g1 : Tryz.prog.globals.findIdx? (·.name == "math/bits.deBruijn64tab") = some 7 := by kernel_rfl
 go_enter Tryz.func159,Tryz.ntmps159
 go_wp2_with (simp only [key])
 go_ret
 exact ⟨rfl,rfl⟩
theorem YtdnipilfcjkfoaaGreatDoorX.tz16 (w:World) (hcell:w.cell? ⟨7,15,none⟩=some (.int .u8 4)):
 Calls Tryz.prog 159 #[.int .u64 16] w fun e w'=>e= .returned (.int .i64 4)∧w'=w:=
 YtdnipilfcjkfoaaGreatDoorX.tz_core 16 4 15 w rfl (by decide+kernel) (by decide) (by decide) hcell
set_option maxHeartbeats 2000000 in
set_option maxRecDepth 100000 in
theorem YtdnipilfcjkfoaaGreatDoorX.hp32 (w:World):Calls Tryz.prog 88 #[.string ⟨#[32,32,32,32,32,32,32,32,32,32,32,32,32,32,32,32,32,32,32,32,32,32,32,32,32,32,32,32,32,32,32,32,32,32,32,32,32,32,32,32,32,32,32,32,32,32,32,32,32,32,32,32,32,32,32,32,32,32,32,32,32,32,32,32,32,32,32,32,32,32,32,32,32,32,32,32,32,32,32,32,32,32,32,32,32,32,32,32,32,32,32,32,32,32,32,32,32,32,32,32,32,32,32,32,32,32,32,32,32,32,32,32,32,32,32,32,32,32,32,32,32,32,32,32,32,32,32,32]⟩, .string ⟨#[48]⟩] w fun e w'=>e= .returned (.bool false)∧w'=w:=by
 go_enter Tryz.func88,Tryz.ntmps88
 go_wp2_with (go_in)
 go_ret
 have e1:((⟨#[32,32,32,32,32,32,32,32,32,32,32,32,32,32,32,32,32,32,32,32,32,32,32,32,32,32,32,32,32,32,32,32,32,32,32,32,32,32,32,32,32,32,32,32,32,32,32,32,32,32,32,32,32,32,32,32,32,32,32,32,32,32,32,32,32,32,32,32,32,32,32,32,32,32,32,32,32,32,32,32,32,32,32,32,32,32,32,32,32,32,32,32,32,32,32,32,32,32,32,32,32,32,32,32,32,32,32,32,32,32,32,32,32,32,32,32,32,32,32,32,32,32,32,32,32,32,32,32]⟩:ByteArray).extract 0 1).toList=[32]:=by rw [Lib.toList_data,ByteArray.data_extract];rfl
 refine ⟨?_,rfl⟩
 show Ending.returned (.bool (((⟨#[32,32,32,32,32,32,32,32,32,32,32,32,32,32,32,32,32,32,32,32,32,32,32,32,32,32,32,32,32,32,32,32,32,32,32,32,32,32,32,32,32,32,32,32,32,32,32,32,32,32,32,32,32,32,32,32,32,32,32,32,32,32,32,32,32,32,32,32,32,32,32,32,32,32,32,32,32,32,32,32,32,32,32,32,32,32,32,32,32,32,32,32,32,32,32,32,32,32,32,32,32,32,32,32,32,32,32,32,32,32,32,32,32,32,32,32,32,32,32,32,32,32,32,32,32,32,32,32]⟩:ByteArray).extract 0 1).toList==[48]))=_
 rw [e1]
 rfl
set_option maxHeartbeats 2000000 in
set_option maxRecDepth 100000 in
theorem YtdnipilfcjkfoaaGreatDoorX.hp45 (w:World):Calls Tryz.prog 88 #[.string ⟨#[45,45,45,45,45,45,45,45,45,45,45,45,45,45,45,45,45,45,45,45,45,45,45,45,45,45,45,45,45,45,45,45,45,45,45,45,45,45,45,45,45,45,45,45,45,45,45,45,45,45,45,45,45,45,45,45,45,45,45,45,45,45,45,45,45,45,45,45,45,45,45,45,45,45,45,45,45,45,45,45,45,45,45,45,45,45,45,45,45,45,45,45,45,45,45,45,45,45,45,45,45,45,45,45,45,45,45,45,45,45,45,45,45,45,45,45,45,45,45,45,45,45,45,45,45,45,45,45]⟩, .string ⟨#[48]⟩] w fun e w'=>e= .returned (.bool false)∧w'=w:=by
 go_enter Tryz.func88,Tryz.ntmps88
 go_wp2_with (go_in)
 go_ret
 have e1:((⟨#[45,45,45,45,45,45,45,45,45,45,45,45,45,45,45,45,45,45,45,45,45,45,45,45,45,45,45,45,45,45,45,45,45,45,45,45,45,45,45,45,45,45,45,45,45,45,45,45,45,45,45,45,45,45,45,45,45,45,45,45,45,45,45,45,45,45,45,45,45,45,45,45,45,45,45,45,45,45,45,45,45,45,45,45,45,45,45,45,45,45,45,45,45,45,45,45,45,45,45,45,45,45,45,45,45,45,45,45,45,45,45,45,45,45,45,45,45,45,45,45,45,45,45,45,45,45,45,45]⟩:ByteArray).extract 0 1).toList=[45]:=by rw [Lib.toList_data,ByteArray.data_extract];rfl
 refine ⟨?_,rfl⟩
 show Ending.returned (.bool (((⟨#[45,45,45,45,45,45,45,45,45,45,45,45,45,45,45,45,45,45,45,45,45,45,45,45,45,45,45,45,45,45,45,45,45,45,45,45,45,45,45,45,45,45,45,45,45,45,45,45,45,45,45,45,45,45,45,45,45,45,45,45,45,45,45,45,45,45,45,45,45,45,45,45,45,45,45,45,45,45,45,45,45,45,45,45,45,45,45,45,45,45,45,45,45,45,45,45,45,45,45,45,45,45,45,45,45,45,45,45,45,45,45,45,45,45,45,45,45,45,45,45,45,45,45,45,45,45,45,45]⟩:ByteArray).extract 0 1).toList==[48]))=_
 rw [e1]
 rfl
set_option maxHeartbeats 2000000 in
set_option maxRecDepth 100000 in
theorem YtdnipilfcjkfoaaGreatDoorX.hp48 (w:World):Calls Tryz.prog 88 #[.string ⟨#[48,48,48,48,48,48,48,48,48,48,48,48,48,48,48,48,48,48,48,48,48,48,48,48,48,48,48,48,48,48,48,48,48,48,48,48,48,48,48,48,48,48,48,48,48,48,48,48,48,48,48,48,48,48,48,48,48,48,48,48,48,48,48,48]⟩, .string ⟨#[48]⟩] w fun e w'=>e= .returned (.bool true)∧w'=w:=by
 go_enter Tryz.func88,Tryz.ntmps88
 go_wp2_with (go_in)
 go_ret
 have e1:((⟨#[48,48,48,48,48,48,48,48,48,48,48,48,48,48,48,48,48,48,48,48,48,48,48,48,48,48,48,48,48,48,48,48,48,48,48,48,48,48,48,48,48,48,48,48,48,48,48,48,48,48,48,48,48,48,48,48,48,48,48,48,48,48,48,48]⟩:ByteArray).extract 0 1).toList=[48]:=by rw [Lib.toList_data,ByteArray.data_extract];rfl
 refine ⟨?_,rfl⟩
 show Ending.returned (.bool (((⟨#[48,48,48,48,48,48,48,48,48,48,48,48,48,48,48,48,48,48,48,48,48,48,48,48,48,48,48,48,48,48,48,48,48,48,48,48,48,48,48,48,48,48,48,48,48,48,48,48,48,48,48,48,48,48,48,48,48,48,48,48,48,48,48,48]⟩:ByteArray).extract 0 1).toList==[48]))=_
 rw [e1]
 rfl
theorem YtdnipilfcjkfoaaGreatDoorX.mul1 (n:Nat) (hn:n< 16) (w:World):Calls Tryz.prog 87 #[.int .u64 1, .int .u64 (n:Int)] w fun e w'=>e= .returned (.tuple #[.int .u64 0, .int .u64 (n:Int)])∧w'=w:=by
 have h:=Tryz.bits_Mul 1 n (by decide) (by omega) w
 have e1:1*n/18446744073709551616=0:=by omega
 have e2:1*n%18446744073709551616=n:=by omega
 rw [e1,e2] at h
 exact h
set_option maxHeartbeats 2000000 in
set_option maxRecDepth 100000 in
theorem YtdnipilfcjkfoaaGreatDoorX.rep0 (w:World):Calls Tryz.prog 48 #[.string ⟨#[48]⟩, .int .i64 0] w fun e w'=>e= .returned (.string ⟨#[]⟩)∧w'=w:=by
 go_enter Tryz.func48,Tryz.ntmps48
 go_wp2
 go_ret
 exact ⟨rfl,rfl⟩
set_option maxHeartbeats 2000000 in
set_option maxRecDepth 100000 in
theorem YtdnipilfcjkfoaaGreatDoorX.rep1 (w:World):Calls Tryz.prog 48 #[.string ⟨#[48]⟩, .int .i64 1] w fun e w'=>e= .returned (.string ⟨#[48]⟩)∧w'=w:=by
 go_enter Tryz.func48,Tryz.ntmps48
 go_wp2
 go_ret
 exact ⟨rfl,rfl⟩
set_option maxHeartbeats 2000000 in
set_option maxRecDepth 100000 in
theorem YtdnipilfcjkfoaaGreatDoorX.rep2 (w:World):Calls Tryz.prog 48 #[.string ⟨#[48]⟩, .int .i64 2] w fun e w'=>e= .returned (.string ⟨#[48,48]⟩)∧w'=w:=by
 go_enter Tryz.func48,Tryz.ntmps48
 have eM:∀ args w,(callFunc 87 args).run Tryz.prog w= .ok (.enter 87 args) w:=enters_of Tryz.func87 (by kernel_rfl) rfl
 have eH:∀ args w,(callFunc 88 args).run Tryz.prog w= .ok (.enter 88 args) w:=enters_of Tryz.func88 (by kernel_rfl) rfl
 go_wp2_with (go_at_fn 87;refine (YtdnipilfcjkfoaaGreatDoorX.mul1 2 (by decide) _).mono ?_)
 rintro _ _ ⟨rfl,rfl⟩
 go_wp2_with (go_at_fn 88;refine (YtdnipilfcjkfoaaGreatDoorX.hp32 _).mono ?_)
 rintro _ _ ⟨rfl,rfl⟩
 go_wp2_with (go_at_fn 88;refine (YtdnipilfcjkfoaaGreatDoorX.hp45 _).mono ?_)
 rintro _ _ ⟨rfl,rfl⟩
 go_wp2_with (go_at_fn 88;refine (YtdnipilfcjkfoaaGreatDoorX.hp48 _).mono ?_)
 rintro _ _ ⟨rfl,rfl⟩
 go_wp2
 go_ret
 exact ⟨rfl,rfl⟩
set_option maxHeartbeats 2000000 in
set_option maxRecDepth 100000 in
theorem YtdnipilfcjkfoaaGreatDoorX.rep3 (w:World):Calls Tryz.prog 48 #[.string ⟨#[48]⟩, .int .i64 3] w fun e w'=>e= .returned (.string ⟨#[48,48,48]⟩)∧w'=w:=by
 go_enter Tryz.func48,Tryz.ntmps48
 have eM:∀ args w,(callFunc 87 args).run Tryz.prog w= .ok (.enter 87 args) w:=enters_of Tryz.func87 (by kernel_rfl) rfl
 have eH:∀ args w,(callFunc 88 args).run Tryz.prog w= .ok (.enter 88 args) w:=enters_of Tryz.func88 (by kernel_rfl) rfl
 go_wp2_with (go_at_fn 87;refine (YtdnipilfcjkfoaaGreatDoorX.mul1 3 (by decide) _).mono ?_)
 rintro _ _ ⟨rfl,rfl⟩
 go_wp2_with (go_at_fn 88;refine (YtdnipilfcjkfoaaGreatDoorX.hp32 _).mono ?_)
 rintro _ _ ⟨rfl,rfl⟩
 go_wp2_with (go_at_fn 88;refine (YtdnipilfcjkfoaaGreatDoorX.hp45 _).mono ?_)
 rintro _ _ ⟨rfl,rfl⟩
 go_wp2_with (go_at_fn 88;refine (YtdnipilfcjkfoaaGreatDoorX.hp48 _).mono ?_)
 rintro _ _ ⟨rfl,rfl⟩
 go_wp2
 go_ret
 exact ⟨rfl,rfl⟩
set_option maxHeartbeats 2000000 in
set_option maxRecDepth 100000 in
theorem YtdnipilfcjkfoaaGreatDoorX.rep4 (w:World):Calls Tryz.prog 48 #[.string ⟨#[48]⟩, .int .i64 4] w fun e w'=>e= .returned (.string ⟨#[48,48,48,48]⟩)∧w'=w:=by
 go_enter Tryz.func48,Tryz.ntmps48
 have eM:∀ args w,(callFunc 87 args).run Tryz.prog w= .ok (.enter 87 args) w:=enters_of Tryz.func87 (by kernel_rfl) rfl
 have eH:∀ args w,(callFunc 88 args).run Tryz.prog w= .ok (.enter 88 args) w:=enters_of Tryz.func88 (by kernel_rfl) rfl
 go_wp2_with (go_at_fn 87;refine (YtdnipilfcjkfoaaGreatDoorX.mul1 4 (by decide) _).mono ?_)
 rintro _ _ ⟨rfl,rfl⟩
 go_wp2_with (go_at_fn 88;refine (YtdnipilfcjkfoaaGreatDoorX.hp32 _).mono ?_)
 rintro _ _ ⟨rfl,rfl⟩
 go_wp2_with (go_at_fn 88;refine (YtdnipilfcjkfoaaGreatDoorX.hp45 _).mono ?_)
 rintro _ _ ⟨rfl,rfl⟩
 go_wp2_with (go_at_fn 88;refine (YtdnipilfcjkfoaaGreatDoorX.hp48 _).mono ?_)
 rintro _ _ ⟨rfl,rfl⟩
 go_wp2
 go_ret
 exact ⟨rfl,rfl⟩
set_option maxHeartbeats 2000000 in
set_option maxRecDepth 100000 in
theorem YtdnipilfcjkfoaaGreatDoorX.rep5 (w:World):Calls Tryz.prog 48 #[.string ⟨#[48]⟩, .int .i64 5] w fun e w'=>e= .returned (.string ⟨#[48,48,48,48,48]⟩)∧w'=w:=by
 go_enter Tryz.func48,Tryz.ntmps48
 have eM:∀ args w,(callFunc 87 args).run Tryz.prog w= .ok (.enter 87 args) w:=enters_of Tryz.func87 (by kernel_rfl) rfl
 have eH:∀ args w,(callFunc 88 args).run Tryz.prog w= .ok (.enter 88 args) w:=enters_of Tryz.func88 (by kernel_rfl) rfl
 go_wp2_with (go_at_fn 87;refine (YtdnipilfcjkfoaaGreatDoorX.mul1 5 (by decide) _).mono ?_)
 rintro _ _ ⟨rfl,rfl⟩
 go_wp2_with (go_at_fn 88;refine (YtdnipilfcjkfoaaGreatDoorX.hp32 _).mono ?_)
 rintro _ _ ⟨rfl,rfl⟩
 go_wp2_with (go_at_fn 88;refine (YtdnipilfcjkfoaaGreatDoorX.hp45 _).mono ?_)
 rintro _ _ ⟨rfl,rfl⟩
 go_wp2_with (go_at_fn 88;refine (YtdnipilfcjkfoaaGreatDoorX.hp48 _).mono ?_)
 rintro _ _ ⟨rfl,rfl⟩
 go_wp2
 go_ret
 exact ⟨rfl,rfl⟩
set_option maxHeartbeats 2000000 in
set_option maxRecDepth 100000 in
theorem YtdnipilfcjkfoaaGreatDoorX.rep6 (w:World):Calls Tryz.prog 48 #[.string ⟨#[48]⟩, .int .i64 6] w fun e w'=>e= .returned (.string ⟨#[48,48,48,48,48,48]⟩)∧w'=w:=by
 go_enter Tryz.func48,Tryz.ntmps48
 have eM:∀ args w,(callFunc 87 args).run Tryz.prog w= .ok (.enter 87 args) w:=enters_of Tryz.func87 (by kernel_rfl) rfl
 have eH:∀ args w,(callFunc 88 args).run Tryz.prog w= .ok (.enter 88 args) w:=enters_of Tryz.func88 (by kernel_rfl) rfl
 go_wp2_with (go_at_fn 87;refine (YtdnipilfcjkfoaaGreatDoorX.mul1 6 (by decide) _).mono ?_)
 rintro _ _ ⟨rfl,rfl⟩
 go_wp2_with (go_at_fn 88;refine (YtdnipilfcjkfoaaGreatDoorX.hp32 _).mono ?_)
 rintro _ _ ⟨rfl,rfl⟩
 go_wp2_with (go_at_fn 88;refine (YtdnipilfcjkfoaaGreatDoorX.hp45 _).mono ?_)
 rintro _ _ ⟨rfl,rfl⟩
 go_wp2_with (go_at_fn 88;refine (YtdnipilfcjkfoaaGreatDoorX.hp48 _).mono ?_)
 rintro _ _ ⟨rfl,rfl⟩
 go_wp2
 go_ret
 exact ⟨rfl,rfl⟩
set_option maxHeartbeats 2000000 in
set_option maxRecDepth 100000 in
theorem YtdnipilfcjkfoaaGreatDoorX.rep7 (w:World):Calls Tryz.prog 48 #[.string ⟨#[48]⟩, .int .i64 7] w fun e w'=>e= .returned (.string ⟨#[48,48,48,48,48,48,48]⟩)∧w'=w:=by
 go_enter Tryz.func48,Tryz.ntmps48
 have eM:∀ args w,(callFunc 87 args).run Tryz.prog w= .ok (.enter 87 args) w:=enters_of Tryz.func87 (by kernel_rfl) rfl
 have eH:∀ args w,(callFunc 88 args).run Tryz.prog w= .ok (.enter 88 args) w:=enters_of Tryz.func88 (by kernel_rfl) rfl
 go_wp2_with (go_at_fn 87;refine (YtdnipilfcjkfoaaGreatDoorX.mul1 7 (by decide) _).mono ?_)
 rintro _ _ ⟨rfl,rfl⟩
 go_wp2_with (go_at_fn 88;refine (YtdnipilfcjkfoaaGreatDoorX.hp32 _).mono ?_)
 rintro _ _ ⟨rfl,rfl⟩
 go_wp2_with (go_at_fn 88;refine (YtdnipilfcjkfoaaGreatDoorX.hp45 _).mono ?_)
 rintro _ _ ⟨rfl,rfl⟩
 go_wp2_with (go_at_fn 88;refine (YtdnipilfcjkfoaaGreatDoorX.hp48 _).mono ?_)
 rintro _ _ ⟨rfl,rfl⟩
 go_wp2
 go_ret
 exact ⟨rfl,rfl⟩
set_option maxHeartbeats 2000000 in
set_option maxRecDepth 100000 in
theorem YtdnipilfcjkfoaaGreatDoorX.rep8 (w:World):Calls Tryz.prog 48 #[.string ⟨#[48]⟩, .int .i64 8] w fun e w'=>e= .returned (.string ⟨#[48,48,48,48,48,48,48,48]⟩)∧w'=w:=by
 go_enter Tryz.func48,Tryz.ntmps48
 have eM:∀ args w,(callFunc 87 args).run Tryz.prog w= .ok (.enter 87 args) w:=enters_of Tryz.func87 (by kernel_rfl) rfl
 have eH:∀ args w,(callFunc 88 args).run Tryz.prog w= .ok (.enter 88 args) w:=enters_of Tryz.func88 (by kernel_rfl) rfl
 go_wp2_with (go_at_fn 87;refine (YtdnipilfcjkfoaaGreatDoorX.mul1 8 (by decide) _).mono ?_)
 rintro _ _ ⟨rfl,rfl⟩
 go_wp2_with (go_at_fn 88;refine (YtdnipilfcjkfoaaGreatDoorX.hp32 _).mono ?_)
 rintro _ _ ⟨rfl,rfl⟩
 go_wp2_with (go_at_fn 88;refine (YtdnipilfcjkfoaaGreatDoorX.hp45 _).mono ?_)
 rintro _ _ ⟨rfl,rfl⟩
 go_wp2_with (go_at_fn 88;refine (YtdnipilfcjkfoaaGreatDoorX.hp48 _).mono ?_)
 rintro _ _ ⟨rfl,rfl⟩
 go_wp2
 go_ret
 exact ⟨rfl,rfl⟩
set_option maxHeartbeats 2000000 in
set_option maxRecDepth 100000 in
theorem YtdnipilfcjkfoaaGreatDoorX.rep9 (w:World):Calls Tryz.prog 48 #[.string ⟨#[48]⟩, .int .i64 9] w fun e w'=>e= .returned (.string ⟨#[48,48,48,48,48,48,48,48,48]⟩)∧w'=w:=by
 go_enter Tryz.func48,Tryz.ntmps48
 have eM:∀ args w,(callFunc 87 args).run Tryz.prog w= .ok (.enter 87 args) w:=enters_of Tryz.func87 (by kernel_rfl) rfl
 have eH:∀ args w,(callFunc 88 args).run Tryz.prog w= .ok (.enter 88 args) w:=enters_of Tryz.func88 (by kernel_rfl) rfl
 go_wp2_with (go_at_fn 87;refine (YtdnipilfcjkfoaaGreatDoorX.mul1 9 (by decide) _).mono ?_)
 rintro _ _ ⟨rfl,rfl⟩
 go_wp2_with (go_at_fn 88;refine (YtdnipilfcjkfoaaGreatDoorX.hp32 _).mono ?_)
 rintro _ _ ⟨rfl,rfl⟩
 go_wp2_with (go_at_fn 88;refine (YtdnipilfcjkfoaaGreatDoorX.hp45 _).mono ?_)
 rintro _ _ ⟨rfl,rfl⟩
 go_wp2_with (go_at_fn 88;refine (YtdnipilfcjkfoaaGreatDoorX.hp48 _).mono ?_)
 rintro _ _ ⟨rfl,rfl⟩
 go_wp2
 go_ret
 exact ⟨rfl,rfl⟩
set_option maxHeartbeats 2000000 in
set_option maxRecDepth 100000 in
theorem YtdnipilfcjkfoaaGreatDoorX.rep10 (w:World):Calls Tryz.prog 48 #[.string ⟨#[48]⟩, .int .i64 10] w fun e w'=>e= .returned (.string ⟨#[48,48,48,48,48,48,48,48,48,48]⟩)∧w'=w:=by
 go_enter Tryz.func48,Tryz.ntmps48
 have eM:∀ args w,(callFunc 87 args).run Tryz.prog w= .ok (.enter 87 args) w:=enters_of Tryz.func87 (by kernel_rfl) rfl
 have eH:∀ args w,(callFunc 88 args).run Tryz.prog w= .ok (.enter 88 args) w:=enters_of Tryz.func88 (by kernel_rfl) rfl
 go_wp2_with (go_at_fn 87;refine (YtdnipilfcjkfoaaGreatDoorX.mul1 10 (by decide) _).mono ?_)
 rintro _ _ ⟨rfl,rfl⟩
 go_wp2_with (go_at_fn 88;refine (YtdnipilfcjkfoaaGreatDoorX.hp32 _).mono ?_)
 rintro _ _ ⟨rfl,rfl⟩
 go_wp2_with (go_at_fn 88;refine (YtdnipilfcjkfoaaGreatDoorX.hp45 _).mono ?_)
 rintro _ _ ⟨rfl,rfl⟩
 go_wp2_with (go_at_fn 88;refine (YtdnipilfcjkfoaaGreatDoorX.hp48 _).mono ?_)
 rintro _ _ ⟨rfl,rfl⟩
 go_wp2
 go_ret
 exact ⟨rfl,rfl⟩
set_option maxHeartbeats 2000000 in
set_option maxRecDepth 100000 in
theorem YtdnipilfcjkfoaaGreatDoorX.rep11 (w:World):Calls Tryz.prog 48 #[.string ⟨#[48]⟩, .int .i64 11] w fun e w'=>e= .returned (.string ⟨#[48,48,48,48,48,48,48,48,48,48,48]⟩)∧w'=w:=by
 go_enter Tryz.func48,Tryz.ntmps48
 have eM:∀ args w,(callFunc 87 args).run Tryz.prog w= .ok (.enter 87 args) w:=enters_of Tryz.func87 (by kernel_rfl) rfl
 have eH:∀ args w,(callFunc 88 args).run Tryz.prog w= .ok (.enter 88 args) w:=enters_of Tryz.func88 (by kernel_rfl) rfl
 go_wp2_with (go_at_fn 87;refine (YtdnipilfcjkfoaaGreatDoorX.mul1 11 (by decide) _).mono ?_)
 rintro _ _ ⟨rfl,rfl⟩
 go_wp2_with (go_at_fn 88;refine (YtdnipilfcjkfoaaGreatDoorX.hp32 _).mono ?_)
 rintro _ _ ⟨rfl,rfl⟩
 go_wp2_with (go_at_fn 88;refine (YtdnipilfcjkfoaaGreatDoorX.hp45 _).mono ?_)
 rintro _ _ ⟨rfl,rfl⟩
 go_wp2_with (go_at_fn 88;refine (YtdnipilfcjkfoaaGreatDoorX.hp48 _).mono ?_)
 rintro _ _ ⟨rfl,rfl⟩
 go_wp2
 go_ret
 exact ⟨rfl,rfl⟩
set_option maxHeartbeats 2000000 in
set_option maxRecDepth 100000 in
theorem YtdnipilfcjkfoaaGreatDoorX.rep12 (w:World):Calls Tryz.prog 48 #[.string ⟨#[48]⟩, .int .i64 12] w fun e w'=>e= .returned (.string ⟨#[48,48,48,48,48,48,48,48,48,48,48,48]⟩)∧w'=w:=by
 go_enter Tryz.func48,Tryz.ntmps48
 have eM:∀ args w,(callFunc 87 args).run Tryz.prog w= .ok (.enter 87 args) w:=enters_of Tryz.func87 (by kernel_rfl) rfl
 have eH:∀ args w,(callFunc 88 args).run Tryz.prog w= .ok (.enter 88 args) w:=enters_of Tryz.func88 (by kernel_rfl) rfl
 go_wp2_with (go_at_fn 87;refine (YtdnipilfcjkfoaaGreatDoorX.mul1 12 (by decide) _).mono ?_)
 rintro _ _ ⟨rfl,rfl⟩
 go_wp2_with (go_at_fn 88;refine (YtdnipilfcjkfoaaGreatDoorX.hp32 _).mono ?_)
 rintro _ _ ⟨rfl,rfl⟩
 go_wp2_with (go_at_fn 88;refine (YtdnipilfcjkfoaaGreatDoorX.hp45 _).mono ?_)
 rintro _ _ ⟨rfl,rfl⟩
 go_wp2_with (go_at_fn 88;refine (YtdnipilfcjkfoaaGreatDoorX.hp48 _).mono ?_)
 rintro _ _ ⟨rfl,rfl⟩
 go_wp2
 go_ret
 exact ⟨rfl,rfl⟩
set_option maxHeartbeats 2000000 in
set_option maxRecDepth 100000 in
theorem YtdnipilfcjkfoaaGreatDoorX.rep13 (w:World):Calls Tryz.prog 48 #[.string ⟨#[48]⟩, .int .i64 13] w fun e w'=>e= .returned (.string ⟨#[48,48,48,48,48,48,48,48,48,48,48,48,48]⟩)∧w'=w:=by
 go_enter Tryz.func48,Tryz.ntmps48
 have eM:∀ args w,(callFunc 87 args).run Tryz.prog w= .ok (.enter 87 args) w:=enters_of Tryz.func87 (by kernel_rfl) rfl
 have eH:∀ args w,(callFunc 88 args).run Tryz.prog w= .ok (.enter 88 args) w:=enters_of Tryz.func88 (by kernel_rfl) rfl
 go_wp2_with (go_at_fn 87;refine (YtdnipilfcjkfoaaGreatDoorX.mul1 13 (by decide) _).mono ?_)
 rintro _ _ ⟨rfl,rfl⟩
 go_wp2_with (go_at_fn 88;refine (YtdnipilfcjkfoaaGreatDoorX.hp32 _).mono ?_)
 rintro _ _ ⟨rfl,rfl⟩
 go_wp2_with (go_at_fn 88;refine (YtdnipilfcjkfoaaGreatDoorX.hp45 _).mono ?_)
 rintro _ _ ⟨rfl,rfl⟩
 go_wp2_with (go_at_fn 88;refine (YtdnipilfcjkfoaaGreatDoorX.hp48 _).mono ?_)
 rintro _ _ ⟨rfl,rfl⟩
 go_wp2
 go_ret
 exact ⟨rfl,rfl⟩
set_option maxHeartbeats 2000000 in
set_option maxRecDepth 100000 in
theorem YtdnipilfcjkfoaaGreatDoorX.rep14 (w:World):Calls Tryz.prog 48 #[.string ⟨#[48]⟩, .int .i64 14] w fun e w'=>e= .returned (.string ⟨#[48,48,48,48,48,48,48,48,48,48,48,48,48,48]⟩)∧w'=w:=by
 go_enter Tryz.func48,Tryz.ntmps48
 have eM:∀ args w,(callFunc 87 args).run Tryz.prog w= .ok (.enter 87 args) w:=enters_of Tryz.func87 (by kernel_rfl) rfl
 have eH:∀ args w,(callFunc 88 args).run Tryz.prog w= .ok (.enter 88 args) w:=enters_of Tryz.func88 (by kernel_rfl) rfl
 go_wp2_with (go_at_fn 87;refine (YtdnipilfcjkfoaaGreatDoorX.mul1 14 (by decide) _).mono ?_)
 rintro _ _ ⟨rfl,rfl⟩
 go_wp2_with (go_at_fn 88;refine (YtdnipilfcjkfoaaGreatDoorX.hp32 _).mono ?_)
 rintro _ _ ⟨rfl,rfl⟩
 go_wp2_with (go_at_fn 88;refine (YtdnipilfcjkfoaaGreatDoorX.hp45 _).mono ?_)
 rintro _ _ ⟨rfl,rfl⟩
 go_wp2_with (go_at_fn 88;refine (YtdnipilfcjkfoaaGreatDoorX.hp48 _).mono ?_)
 rintro _ _ ⟨rfl,rfl⟩
 go_wp2
 go_ret
 exact ⟨rfl,rfl⟩
set_option maxHeartbeats 2000000 in
set_option maxRecDepth 100000 in
theorem YtdnipilfcjkfoaaGreatDoorX.rep15 (w:World):Calls Tryz.prog 48 #[.string ⟨#[48]⟩, .int .i64 15] w fun e w'=>e= .returned (.string ⟨#[48,48,48,48,48,48,48,48,48,48,48,48,48,48,48]⟩)∧w'=w:=by
 go_enter Tryz.func48,Tryz.ntmps48
 have eM:∀ args w,(callFunc 87 args).run Tryz.prog w= .ok (.enter 87 args) w:=enters_of Tryz.func87 (by kernel_rfl) rfl
 have eH:∀ args w,(callFunc 88 args).run Tryz.prog w= .ok (.enter 88 args) w:=enters_of Tryz.func88 (by kernel_rfl) rfl
 go_wp2_with (go_at_fn 87;refine (YtdnipilfcjkfoaaGreatDoorX.mul1 15 (by decide) _).mono ?_)
 rintro _ _ ⟨rfl,rfl⟩
 go_wp2_with (go_at_fn 88;refine (YtdnipilfcjkfoaaGreatDoorX.hp32 _).mono ?_)
 rintro _ _ ⟨rfl,rfl⟩
 go_wp2_with (go_at_fn 88;refine (YtdnipilfcjkfoaaGreatDoorX.hp45 _).mono ?_)
 rintro _ _ ⟨rfl,rfl⟩
 go_wp2_with (go_at_fn 88;refine (YtdnipilfcjkfoaaGreatDoorX.hp48 _).mono ?_)
 rintro _ _ ⟨rfl,rfl⟩
 go_wp2
 go_ret
 exact ⟨rfl,rfl⟩
theorem YtdnipilfcjkfoaaGreatDoorX.rep16 (n:Nat) (hn:n< 16) (w:World):Calls Tryz.prog 48 #[.string ⟨#[48]⟩, .int .i64 (n:Int)] w fun e w'=>e= .returned (.string ⟨(List.replicate n 48).toArray⟩)∧w'=w:=by
 match n,hn with
 |0,_=>exact YtdnipilfcjkfoaaGreatDoorX.rep0 w
 |1,_=>exact YtdnipilfcjkfoaaGreatDoorX.rep1 w
 |2,_=>exact YtdnipilfcjkfoaaGreatDoorX.rep2 w
 |3,_=>exact YtdnipilfcjkfoaaGreatDoorX.rep3 w
 |4,_=>exact YtdnipilfcjkfoaaGreatDoorX.rep4 w
 |5,_=>exact YtdnipilfcjkfoaaGreatDoorX.rep5 w
 |6,_=>exact YtdnipilfcjkfoaaGreatDoorX.rep6 w
 |7,_=>exact YtdnipilfcjkfoaaGreatDoorX.rep7 w
 |8,_=>exact YtdnipilfcjkfoaaGreatDoorX.rep8 w
 |9,_=>exact YtdnipilfcjkfoaaGreatDoorX.rep9 w
 |10,_=>exact YtdnipilfcjkfoaaGreatDoorX.rep10 w
 |11,_=>exact YtdnipilfcjkfoaaGreatDoorX.rep11 w
 |12,_=>exact YtdnipilfcjkfoaaGreatDoorX.rep12 w
 |13,_=>exact YtdnipilfcjkfoaaGreatDoorX.rep13 w
 |14,_=>exact YtdnipilfcjkfoaaGreatDoorX.rep14 w
 |15,_=>exact YtdnipilfcjkfoaaGreatDoorX.rep15 w
 |k+16,h=>exact absurd h (by omega)
end Go.Proofs
namespace Go.Proofs.YtdnipilfcjkfoaaGreatDoorX
open Go Go.RowKit
set_option linter.unusedVariables false
theorem St.of_below {w0 w:World} (h:Below w0.heap.size w0 w):St w0 [] w:=⟨h,[],rfl,List.nodup_nil,by simp⟩
theorem St.tab {P:Program} {w0 w:World} {Γ:List As} {name:String} {k:IntKind} {zs:List Int} (h:St w0 Γ w) (ht:Lib.TabIs P w0 name k zs):Lib.TabIs P w name k zs:=by
 unfold Lib.TabIs World.var? at*
 cases hg:P.globalNamed name with
 |none=>simp [hg] at ht
 |some g=>
  simp only [hg,Option.bind_some] at ht ⊢
  have hlt:g< w0.heap.size:=by
   rcases Nat.lt_or_ge g w0.heap.size with h'|h'
   ·exact h'
   ·rw [Array.getElem?_eq_none h'] at ht;simp at ht
  rw [h.below.block g hlt]
  exact ht
theorem St.of_grow {w0 w:World} {k:Nat} {os:Array Obj} (e:w=Go.Sort.grow (w0.drewN k) os):St w0 [] w:=by
 subst e
 exact St.of_below (Lib.below_grow _ w0 (Nat.le_refl _) k os)
theorem tab_of_laid {P:Program} {W:World} {name:String} {k:IntKind} {zs:List Int} {g:Nat} {t e:TypeId} {n:Nat}
 (hg:P.globalNamed name=some g) (hty:(P.globals[g]?).map (·.type)=some t) (ht:P.underlying t=some (.array n e)) (he:P.underlying e=some (.int k)) (hce:P.cellsOf e=1) (hct:P.cellsOf t=n):
 ∀ (laid:List (String×DataW Unit)) (ps:List MemPlace),DataW.LaidVars P W laid ps→(name,Lib.tabData k zs)∈laid→Lib.TabIs P W name k zs:=by
 intro laid
 induction laid with
 |nil=>intro ps _ hm;cases hm
 |cons x rest ih=>
  intro ps h hm
  obtain ⟨nm,d⟩:=x
  obtain ⟨g',t',cs,fuel,p,q,hg',ht',hvar,hd,hr,_⟩:=h
  rcases List.mem_cons.1 hm with hx|hx
  ·obtain ⟨rfl,rfl⟩:=Prod.mk.inj hx
   obtain rfl:=QsJ (hg.symm.trans hg')
   obtain rfl:=QsJ (hty.symm.trans ht')
   unfold Lib.TabIs
   rw [hvar,← Lib.cells_of_tab ht he hce hct hd]
  ·exact ih q hr hx
end Go.Proofs.YtdnipilfcjkfoaaGreatDoorX
namespace Go.Proofs.YtdnipilfcjkfoaaGreatDoorX
open Go Go.RowKit Go.Proofs
set_option linter.unusedVariables false
set_option linter.unusedSectionVars false
def CellI (w:World) (g:Nat):Prop:=∃ m,w.cell? ⟨g,0,none⟩=some (.int .i64 m)
def CellE (w:World) (g:Nat):Prop:=∃ ev,w.cell? ⟨g,0,none⟩=some ev∧(ev= .nilIface∨∃ te pe,ev= .iface te pe)
theorem St.cellAt {w0 w:World} {Γ:List As} (h:St w0 Γ w) {g:Nat} {v:Value} (hc:w0.cell? ⟨g,0,none⟩=some v):w.cell? ⟨g,0,none⟩=some v:=by
 have hlt:g< w0.heap.size:=by
  rcases Nat.lt_or_ge g w0.heap.size with h'|h'
  ·exact h'
  ·simp [World.cell?,Array.getElem?_eq_none h'] at hc
 rw [cell_keep (h.below.block g hlt)]
 exact hc
theorem St.cellI {w0 w:World} {Γ:List As} (h:St w0 Γ w) {g:Nat} (hc:CellI w0 g):CellI w g:=by
 obtain ⟨m,hm⟩:=hc
 exact ⟨m,h.cellAt hm⟩
theorem St.cellE {w0 w:World} {Γ:List As} (h:St w0 Γ w) {g:Nat} (hc:CellE w0 g):CellE w g:=by
 obtain ⟨m,hm,hk⟩:=hc
 exact ⟨m,h.cellAt hm,hk⟩
def ErrIs (u:Value) (b:Bool):Prop:=(b=false∧u= .nilIface)∨(b=true∧∃ t p,u= .iface t p)
section
variable {P:Program} {w:World} {t:List Value} {o:Oper}
theorem Qda {x:Operand} {T T':TypeId} {u:Value} {b:Bool} (hop:o.op= .binOp .neq T x (.const .nilIface) T') (hT:P.underlying T=some (.interface (P.methodsAt T))) (hx:ev t x=u) (h:ErrIs u b):
 (execOp (ev t) o).run P w= .ok (.value (.bool b)) w:=by
 have hy:ev t (.const .nilIface)= .nilIface:=rfl
 rcases h with ⟨rfl,rfl⟩|⟨rfl,tt,p,rfl⟩
 ·have q:=run_neq_nil_nil (w:=w) T hT
  simp [execOp,hop,hx,hy,eqGuard_nil_constR,q]
 ·have q:=run_neq_held_nil (w:=w) T tt p hT
  simp [execOp,hop,hx,hy,eqGuard_at_iface,q]
end
theorem split_row {w0 w:World} {E:TypeId} {ys:List ByteArray} {n:Nat} (hn:ys.length=n) (hle:n≤4294967285) (hw:w=w0.alloc (.cells (ys.map Value.string).toArray E)):St w0 [Row E K.str (.slice (some ⟨w0.heap.size,0,none⟩) n n) ys] w:=by
 subst hw
 have hfl:(ys.map encS).flatten=ys.map Value.string:=by
  clear hn
  induction ys with
  |nil=>rfl
  |cons y ys ih=>rw [List.map_cons,List.flatten_cons,ih];rfl
 refine (St.refl w0).new (Turn.alloc w0 _) (F':=[w0.heap.size]) ⟨(ys.map encS).flatten,[],rfl,?_,Els.flat fkS ys⟩ (by simp) (by simp)
 have:=World.ownsRow_lit (e:=E) (size:=1) w0 (ys.map Value.string).toArray n (Nat.zero_le _) (by unfold maxLen;omega) (by simp [hn])
 rw [hfl,hn,show K.str.n=1 from rfl]
 simpa using this
theorem St.of_drew {w0 w:World} {n:Nat} (e:w=w0.drewN n):St w0 [] w:=by
 subst e
 exact St.of_below ⟨rfl,rfl,rfl,Nat.le_refl _,fun _ _=>rfl⟩
theorem St.of_bytes {w0 w:World} {ty:TypeId} (e:w=w0∨∃ t,w=Lib.bytesWorld w0 ty t):St w0 [] w:=by
 rcases e with rfl|⟨t,rfl⟩
 ·exact St.refl _
 ·exact St.of_below (Go.Joins.below_bytesWorld _ _ _ _ (Nat.le_refl _))
end Go.Proofs.YtdnipilfcjkfoaaGreatDoorX
