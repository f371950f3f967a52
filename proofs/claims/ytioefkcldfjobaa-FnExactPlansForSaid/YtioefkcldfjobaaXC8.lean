/- Contracts, printed by gen.py. -/
import Derived.Test.YtioefkcldfjobaaXT
import Derived.Test.YtioefkcldfjobaaProg
import Derived.Test.YtioefkcldfjobaaXRowR
import Derived.Test.YtioefkcldfjobaaXSeg
import Derived.Test.YtioefkcldfjobaaXKey
import Derived.Test.YtioefkcldfjobaaXIter
import Derived.Test.YtioefkcldfjobaaXC1
import Derived.Test.YtioefkcldfjobaaXC4
import Derived.Test.YtioefkcldfjobaaXC7
namespace Go.Proofs.YtioefkcldfjobaaX
open Go Go.RowKit Go.Proofs
set_option linter.unusedVariables false
set_option linter.unusedSimpArgs false
/- function 7 laws_FnExactPlansFor -/
def laws_FnExactPlansFor.post (w0 : World) (r : Bool) (v : Value) (w : World) : Prop := v = Value.bool r ∧ St w0 [] w
set_option maxHeartbeats 8000000 in
set_option maxRecDepth 100000 in
theorem laws_FnExactPlansFor.calls {N : Nat} {a1 : (List Int)} {a3 : (Ar Int 4)} {a4 : Int} {a5 : Int} {v2 : Value} {w0 : World} {Q : Bool → Prop} (hr0 : RdRow (K.int .i16) w0 v2 a1) (H : laws_FnExactPlansFor.f N a1 a3 a4 a5 Q) :
    Calls Try.prog 7 #[v2, Value.agg ((encA (encI .i16)) a3).toArray, Value.int .i64 a4, Value.int .i64 a5] w0 fun e w => ∃ v, e = .returned v ∧ ∃ r, Q r ∧ laws_FnExactPlansFor.post w0 r v w := by
  unfold laws_FnExactPlansFor.f at H
  have hs : St w0 [] w0 := St.refl w0
  refine calls_of_g (n := 47) Try.func7 rfl rfl ?_
  show G _ _ _ _ [_,_,_,_,_,_,_,_,_,_,_,_,_,_,_,_,_,_,_,_,_,_,_,_,_,_,_,_,_,_,_,_,_,_,_,_,_,_,_,_,_,_,_,_,_,_,_,_,_,_,_] _
  refine g_seq ?_
  refine g_region ?_
  show G _ _ _ (.inRegion _ [0, 1] :: _) _ _
  refine s_box hs rfl rfl (cs := ((encA (encI .i16)) a3)) rfl rfl ?_
  intro b6 w hs
  refine g_op (v := Value.bool false) rfl rfl rfl ?_
  show G _ _ _ _ [_,_,_,_,_,_,_,_,_,_,_,_,_,_,_,_,_,_,_,_,_,_,_,_,_,_,_,_,_,_,_,_,_,_,_,_,_,_,_,_,_,_,_,_,_,_,_,_,_,_,_] _
  refine g_ops_nil ?_
  refine g_seq ?_
  refine g_seq ?_
  refine g_region ?_
  show G _ _ _ (.inRegion _ [0, 1, 2] :: _) _ _
  refine g_op (v := v2) rfl rfl rfl ?_
  refine s_len (hs.rd hr0) rfl rfl rfl rfl rfl ?_
  refine g_op_b (B := decide ((a1.length : Int) > 1048576)) rfl rfl rfl ?_ ?_
  ·
   intro hb
   rw [if_pos (b_dec_t hb)] at H
   show G _ _ _ _ [_,_,_,_,_,_,_,_,_,_,_,_,_,_,_,_,_,_,_,_,_,_,_,_,_,_,_,_,_,_,_,_,_,_,_,_,_,_,_,_,_,_,_,_,_,_,_,_,_,_,_] _
   refine g_ops_nil ?_
   refine g_cond_true rfl ?_
   refine g_seq ?_
   refine g_region ?_
   show G _ _ _ (.inRegion _ [0] :: _) _ _
   refine g_op (v := Value.bool true) rfl rfl rfl ?_
   refine g_ops_nil ?_
   refine g_ret Try.func7 (v := Value.bool true) (res1 rfl rfl) ?_
   have hs : St _ [] _ := St.take (Γ' := [_]) hs
   exact ⟨_, rfl, _, H, rfl, hs⟩
  ·
   intro hb
   rw [if_neg (b_dec_f hb)] at H
   refine g_ops_nil ?_
   refine g_cond_false rfl ?_
   refine g_skip ?_
   refine g_seq ?_
   obtain ⟨r8, Hr8, H⟩ := H
   obtain ⟨r11, Hr11, H⟩ := H
   obtain ⟨r12, Hr12, H⟩ := H
   refine g_name ?_
   intro T hT
   refine g_any (n := 12) rfl [0, 1, 2, 3, 4, 5, 6, 7, 8, 9, 10, 11] [0, 1, 2, 3, 4, 5, 6, 7, 8, 10, 9, 11] rfl rfl (Inv := fun D t w => ∃ v9 : Value, ∃ O : Nat → Value, t = [v2, Value.agg ((encA (encI .i16)) a3).toArray, Value.int .i64 a4, Value.int .i64 a5, O 4, Value.pointer (some ⟨b6, 0, none⟩), O 6, O 7, Value.bool false, cnd (D 10) (Value.int .i64 r12.1) (O 9), cnd (D 11) (Value.int .i64 r12.2) (O 10), O 11, O 12, O 13, v2, Value.int .i64 (a1.length : Int), Value.bool false, cnd (D 7) (Value.tuple #[Value.int .i64 r12.1, Value.int .i64 r12.2]) (O 17), cnd (D 0) v2 (O 18), cnd (D 1) v9 (O 19), cnd (D 2) (Value.agg ((encA (encI .i16)) a3).toArray) (O 20), cnd (D 3) (Value.agg ((encA (encI .i16)) r11).toArray) (O 21), cnd (D 4) (Value.int .i64 a4) (O 22), cnd (D 5) (Value.int .i64 a5) (O 23), cnd (D 6) (Value.tuple #[Value.int .i64 r12.1, Value.int .i64 r12.2]) (O 24), cnd (D 8) (Value.int .i64 r12.1) (O 25), cnd (D 9) (Value.int .i64 r12.2) (O 26), O 27, O 28, O 29, O 30, O 31, O 32, O 33, O 34, O 35, O 36, O 37, O 38, O 39, O 40, O 41, O 42, O 43, O 44, O 45, O 46, O 47, O 48, O 49, O 50] ∧ St w0 [Asc (D 1) (Row 23 (K.int .i16) v9 r8), Cells b6 ((encA (encI .i16)) a3) 24] w) ?_ ⟨⟨⟨⟨⟨⟨⟨⟨⟨⟨⟨⟨trivial, ?_⟩, ?_⟩, ?_⟩, ?_⟩, ?_⟩, ?_⟩, ?_⟩, ?_⟩, ?_⟩, ?_⟩, ?_⟩, ?_⟩ ?_
   ·
    intro w hh hbw
    have hs := hs.samew hh hbw
    have hs := hs.emp
    exact ⟨undef, fun i => T.getD i undef, (by subst hT; rfl), hs⟩
   ·
    intro D t w hD hp hcl hI rest hk
    obtain ⟨v9, O, ht, hs⟩ := hI
    have q1_ : D 1 = false := not_yet (hcl.get 1 (by decide)) 0 0 rfl hD
    have q3_ : D 3 = false := not_yet (hcl.get 3 (by decide)) 1 1 rfl q1_
    have q6_ : D 6 = false := not_yet (hcl.get 6 (by decide)) 0 1 rfl q1_
    have q7_ : D 7 = false := not_yet (hcl.get 7 (by decide)) 0 6 rfl q6_
    have q8_ : D 8 = false := not_yet (hcl.get 8 (by decide)) 0 7 rfl q7_
    have q9_ : D 9 = false := not_yet (hcl.get 9 (by decide)) 0 7 rfl q7_
    have q10_ : D 10 = false := not_yet (hcl.get 10 (by decide)) 0 8 rfl q8_
    have q11_ : D 11 = false := not_yet (hcl.get 11 (by decide)) 0 9 rfl q9_
    simp only [hD, q1_, q3_, q6_, q7_, q8_, q9_, q10_, q11_, cnd_t, cnd_f, Asc_t, Asc_f] at ht hs
    subst ht
    refine g_op (v := v2) rfl rfl rfl ?_
    show G _ _ _ _ [_,_,_,_,_,_,_,_,_,_,_,_,_,_,_,_,_,_,_,_,_,_,_,_,_,_,_,_,_,_,_,_,_,_,_,_,_,_,_,_,_,_,_,_,_,_,_,_,_,_,_] _
    exact hk _ _ ⟨v9, O, (by simp only [upd, Nat.reduceBEq, Bool.true_or, Bool.false_or, q1_, q3_, q6_, q7_, q8_, q9_, q10_, q11_, cnd_t, cnd_f, Asc_t, Asc_f]), hs.cast (by first | rfl | simp only [List.take, List.drop, List.cons_append, List.nil_append, List.set_cons_zero, List.set_cons_succ, List.eraseIdx, upd, Nat.reduceBEq, Bool.true_or, Bool.false_or, q1_, q3_, q6_, q7_, q8_, q9_, q10_, q11_, cnd_t, cnd_f, Asc_t, Asc_f])⟩
   ·
    intro D t w hD hp hcl hI rest hk
    obtain ⟨v9, O, ht, hs⟩ := hI
    obtain ⟨p0_, _⟩ := hp
    have q3_ : D 3 = false := not_yet (hcl.get 3 (by decide)) 1 1 rfl hD
    have q6_ : D 6 = false := not_yet (hcl.get 6 (by decide)) 0 1 rfl hD
    have q7_ : D 7 = false := not_yet (hcl.get 7 (by decide)) 0 6 rfl q6_
    have q8_ : D 8 = false := not_yet (hcl.get 8 (by decide)) 0 7 rfl q7_
    have q9_ : D 9 = false := not_yet (hcl.get 9 (by decide)) 0 7 rfl q7_
    have q10_ : D 10 = false := not_yet (hcl.get 10 (by decide)) 0 8 rfl q8_
    have q11_ : D 11 = false := not_yet (hcl.get 11 (by decide)) 0 9 rfl q9_
    simp only [hD, p0_, q3_, q6_, q7_, q8_, q9_, q10_, q11_, cnd_t, cnd_f, Asc_t, Asc_f] at ht hs
    subst ht
    refine s_call (args := [v2]) rfl rfl (x_call rfl (callFunc_enter Try.func10 rfl rfl) rfl) (laws_toGlasses.calls (a1 := a1) (hs.rd hr0) Hr8) ?_
    intro v9 w hs2
    have hs : St _ [_,_,_] _ := hs.call hs2
    show G _ _ _ _ [_,_,_,_,_,_,_,_,_,_,_,_,_,_,_,_,_,_,_,_,_,_,_,_,_,_,_,_,_,_,_,_,_,_,_,_,_,_,_,_,_,_,_,_,_,_,_,_,_,_,_] _
    have hs := hs.fill 0 rfl
    exact hk _ _ ⟨v9, O, (by simp only [upd, Nat.reduceBEq, Bool.true_or, Bool.false_or, p0_, q3_, q6_, q7_, q8_, q9_, q10_, q11_, cnd_t, cnd_f, Asc_t, Asc_f]), hs.cast (by first | rfl | simp only [List.take, List.drop, List.cons_append, List.nil_append, List.set_cons_zero, List.set_cons_succ, List.eraseIdx, upd, Nat.reduceBEq, Bool.true_or, Bool.false_or, p0_, q3_, q6_, q7_, q8_, q9_, q10_, q11_, cnd_t, cnd_f, Asc_t, Asc_f])⟩
   ·
    intro D t w hD hp hcl hI rest hk
    obtain ⟨v9, O, ht, hs⟩ := hI
    have q3_ : D 3 = false := not_yet (hcl.get 3 (by decide)) 0 2 rfl hD
    have q6_ : D 6 = false := not_yet (hcl.get 6 (by decide)) 1 3 rfl q3_
    have q7_ : D 7 = false := not_yet (hcl.get 7 (by decide)) 0 6 rfl q6_
    have q8_ : D 8 = false := not_yet (hcl.get 8 (by decide)) 0 7 rfl q7_
    have q9_ : D 9 = false := not_yet (hcl.get 9 (by decide)) 0 7 rfl q7_
    have q10_ : D 10 = false := not_yet (hcl.get 10 (by decide)) 0 8 rfl q8_
    have q11_ : D 11 = false := not_yet (hcl.get 11 (by decide)) 0 9 rfl q9_
    simp only [hD, q3_, q6_, q7_, q8_, q9_, q10_, q11_, cnd_t, cnd_f, Asc_t, Asc_f] at ht hs
    subst ht
    refine s_loadA rfl rfl (es := ((encA (encI .i16)) a3)) rfl rfl (fun _ => rfl) (n := 4) (fun _ => rfl) ((fkA (n := 4) (he := (fkI .i16).len) (h1 := (fkI .i16).one)).len _) (cells_all (hs.cells 1 rfl)) ?_
    show G _ _ _ _ [_,_,_,_,_,_,_,_,_,_,_,_,_,_,_,_,_,_,_,_,_,_,_,_,_,_,_,_,_,_,_,_,_,_,_,_,_,_,_,_,_,_,_,_,_,_,_,_,_,_,_] _
    exact hk _ _ ⟨v9, O, (by simp only [upd, Nat.reduceBEq, Bool.true_or, Bool.false_or, q3_, q6_, q7_, q8_, q9_, q10_, q11_, cnd_t, cnd_f, Asc_t, Asc_f]), hs.cast (by first | rfl | simp only [List.take, List.drop, List.cons_append, List.nil_append, List.set_cons_zero, List.set_cons_succ, List.eraseIdx, upd, Nat.reduceBEq, Bool.true_or, Bool.false_or, q3_, q6_, q7_, q8_, q9_, q10_, q11_, cnd_t, cnd_f, Asc_t, Asc_f])⟩
   ·
    intro D t w hD hp hcl hI rest hk
    obtain ⟨v9, O, ht, hs⟩ := hI
    obtain ⟨p2_, p1_, _⟩ := hp
    obtain ⟨p0_, _⟩ := (hcl.get 1 (by decide)) p1_
    have q6_ : D 6 = false := not_yet (hcl.get 6 (by decide)) 1 3 rfl hD
    have q7_ : D 7 = false := not_yet (hcl.get 7 (by decide)) 0 6 rfl q6_
    have q8_ : D 8 = false := not_yet (hcl.get 8 (by decide)) 0 7 rfl q7_
    have q9_ : D 9 = false := not_yet (hcl.get 9 (by decide)) 0 7 rfl q7_
    have q10_ : D 10 = false := not_yet (hcl.get 10 (by decide)) 0 8 rfl q8_
    have q11_ : D 11 = false := not_yet (hcl.get 11 (by decide)) 0 9 rfl q9_
    simp only [hD, p0_, p1_, p2_, q6_, q7_, q8_, q9_, q10_, q11_, cnd_t, cnd_f, Asc_t, Asc_f] at ht hs
    subst ht
    refine s_call (args := [Value.agg ((encA (encI .i16)) a3).toArray]) rfl rfl (x_call rfl (callFunc_enter Try.func11 rfl rfl) rfl) (laws_toTops.calls (a1 := a3) Hr11) ?_
    rintro _ w ⟨rfl, hs2⟩
    have hs : St _ [_,_] _ := hs.call hs2
    show G _ _ _ _ [_,_,_,_,_,_,_,_,_,_,_,_,_,_,_,_,_,_,_,_,_,_,_,_,_,_,_,_,_,_,_,_,_,_,_,_,_,_,_,_,_,_,_,_,_,_,_,_,_,_,_] _
    exact hk _ _ ⟨v9, O, (by simp only [upd, Nat.reduceBEq, Bool.true_or, Bool.false_or, p0_, p1_, p2_, q6_, q7_, q8_, q9_, q10_, q11_, cnd_t, cnd_f, Asc_t, Asc_f]), hs.cast (by first | rfl | simp only [List.take, List.drop, List.cons_append, List.nil_append, List.set_cons_zero, List.set_cons_succ, List.eraseIdx, upd, Nat.reduceBEq, Bool.true_or, Bool.false_or, p0_, p1_, p2_, q6_, q7_, q8_, q9_, q10_, q11_, cnd_t, cnd_f, Asc_t, Asc_f])⟩
   ·
    intro D t w hD hp hcl hI rest hk
    obtain ⟨v9, O, ht, hs⟩ := hI
    have q6_ : D 6 = false := not_yet (hcl.get 6 (by decide)) 2 4 rfl hD
    have q7_ : D 7 = false := not_yet (hcl.get 7 (by decide)) 0 6 rfl q6_
    have q8_ : D 8 = false := not_yet (hcl.get 8 (by decide)) 0 7 rfl q7_
    have q9_ : D 9 = false := not_yet (hcl.get 9 (by decide)) 0 7 rfl q7_
    have q10_ : D 10 = false := not_yet (hcl.get 10 (by decide)) 0 8 rfl q8_
    have q11_ : D 11 = false := not_yet (hcl.get 11 (by decide)) 0 9 rfl q9_
    simp only [hD, q6_, q7_, q8_, q9_, q10_, q11_, cnd_t, cnd_f, Asc_t, Asc_f] at ht hs
    subst ht
    refine g_op (v := Value.int .i64 a4) rfl rfl rfl ?_
    show G _ _ _ _ [_,_,_,_,_,_,_,_,_,_,_,_,_,_,_,_,_,_,_,_,_,_,_,_,_,_,_,_,_,_,_,_,_,_,_,_,_,_,_,_,_,_,_,_,_,_,_,_,_,_,_] _
    exact hk _ _ ⟨v9, O, (by simp only [upd, Nat.reduceBEq, Bool.true_or, Bool.false_or, q6_, q7_, q8_, q9_, q10_, q11_, cnd_t, cnd_f, Asc_t, Asc_f]), hs.cast (by first | rfl | simp only [List.take, List.drop, List.cons_append, List.nil_append, List.set_cons_zero, List.set_cons_succ, List.eraseIdx, upd, Nat.reduceBEq, Bool.true_or, Bool.false_or, q6_, q7_, q8_, q9_, q10_, q11_, cnd_t, cnd_f, Asc_t, Asc_f])⟩
   ·
    intro D t w hD hp hcl hI rest hk
    obtain ⟨v9, O, ht, hs⟩ := hI
    have q6_ : D 6 = false := not_yet (hcl.get 6 (by decide)) 3 5 rfl hD
    have q7_ : D 7 = false := not_yet (hcl.get 7 (by decide)) 0 6 rfl q6_
    have q8_ : D 8 = false := not_yet (hcl.get 8 (by decide)) 0 7 rfl q7_
    have q9_ : D 9 = false := not_yet (hcl.get 9 (by decide)) 0 7 rfl q7_
    have q10_ : D 10 = false := not_yet (hcl.get 10 (by decide)) 0 8 rfl q8_
    have q11_ : D 11 = false := not_yet (hcl.get 11 (by decide)) 0 9 rfl q9_
    simp only [hD, q6_, q7_, q8_, q9_, q10_, q11_, cnd_t, cnd_f, Asc_t, Asc_f] at ht hs
    subst ht
    refine g_op (v := Value.int .i64 a5) rfl rfl rfl ?_
    show G _ _ _ _ [_,_,_,_,_,_,_,_,_,_,_,_,_,_,_,_,_,_,_,_,_,_,_,_,_,_,_,_,_,_,_,_,_,_,_,_,_,_,_,_,_,_,_,_,_,_,_,_,_,_,_] _
    exact hk _ _ ⟨v9, O, (by simp only [upd, Nat.reduceBEq, Bool.true_or, Bool.false_or, q6_, q7_, q8_, q9_, q10_, q11_, cnd_t, cnd_f, Asc_t, Asc_f]), hs.cast (by first | rfl | simp only [List.take, List.drop, List.cons_append, List.nil_append, List.set_cons_zero, List.set_cons_succ, List.eraseIdx, upd, Nat.reduceBEq, Bool.true_or, Bool.false_or, q6_, q7_, q8_, q9_, q10_, q11_, cnd_t, cnd_f, Asc_t, Asc_f])⟩
   ·
    intro D t w hD hp hcl hI rest hk
    obtain ⟨v9, O, ht, hs⟩ := hI
    obtain ⟨p1_, p3_, p4_, p5_, _, _⟩ := hp
    obtain ⟨p2_, _, _⟩ := (hcl.get 3 (by decide)) p3_
    obtain ⟨p0_, _⟩ := (hcl.get 1 (by decide)) p1_
    have q7_ : D 7 = false := not_yet (hcl.get 7 (by decide)) 0 6 rfl hD
    have q8_ : D 8 = false := not_yet (hcl.get 8 (by decide)) 0 7 rfl q7_
    have q9_ : D 9 = false := not_yet (hcl.get 9 (by decide)) 0 7 rfl q7_
    have q10_ : D 10 = false := not_yet (hcl.get 10 (by decide)) 0 8 rfl q8_
    have q11_ : D 11 = false := not_yet (hcl.get 11 (by decide)) 0 9 rfl q9_
    simp only [hD, p0_, p1_, p2_, p3_, p4_, p5_, q7_, q8_, q9_, q10_, q11_, cnd_t, cnd_f, Asc_t, Asc_f] at ht hs
    subst ht
    refine s_call (args := [v9, Value.agg ((encA (encI .i16)) r11).toArray, Value.int .i64 a4, Value.int .i64 a5]) rfl rfl (x_call rfl (callFunc_enter Try.func27 rfl rfl) rfl) (spec_PlansFor.calls (a1 := r8) (a3 := r11) (a4 := a4) (a5 := a5) (hs.row 0 rfl) Hr12) ?_
    rintro _ w ⟨rfl, hs2⟩
    have hs : St _ [_,_] _ := hs.call hs2
    show G _ _ _ _ [_,_,_,_,_,_,_,_,_,_,_,_,_,_,_,_,_,_,_,_,_,_,_,_,_,_,_,_,_,_,_,_,_,_,_,_,_,_,_,_,_,_,_,_,_,_,_,_,_,_,_] _
    exact hk _ _ ⟨v9, O, (by simp only [upd, Nat.reduceBEq, Bool.true_or, Bool.false_or, p0_, p1_, p2_, p3_, p4_, p5_, q7_, q8_, q9_, q10_, q11_, cnd_t, cnd_f, Asc_t, Asc_f]), hs.cast (by first | rfl | simp only [List.take, List.drop, List.cons_append, List.nil_append, List.set_cons_zero, List.set_cons_succ, List.eraseIdx, upd, Nat.reduceBEq, Bool.true_or, Bool.false_or, p0_, p1_, p2_, p3_, p4_, p5_, q7_, q8_, q9_, q10_, q11_, cnd_t, cnd_f, Asc_t, Asc_f])⟩
   ·
    intro D t w hD hp hcl hI rest hk
    obtain ⟨v9, O, ht, hs⟩ := hI
    obtain ⟨p6_, _⟩ := hp
    obtain ⟨p1_, p3_, p4_, p5_, _, _⟩ := (hcl.get 6 (by decide)) p6_
    obtain ⟨p2_, _, _⟩ := (hcl.get 3 (by decide)) p3_
    obtain ⟨p0_, _⟩ := (hcl.get 1 (by decide)) p1_
    have q8_ : D 8 = false := not_yet (hcl.get 8 (by decide)) 0 7 rfl hD
    have q9_ : D 9 = false := not_yet (hcl.get 9 (by decide)) 0 7 rfl hD
    have q10_ : D 10 = false := not_yet (hcl.get 10 (by decide)) 0 8 rfl q8_
    have q11_ : D 11 = false := not_yet (hcl.get 11 (by decide)) 0 9 rfl q9_
    simp only [hD, p0_, p1_, p2_, p3_, p4_, p5_, p6_, q8_, q9_, q10_, q11_, cnd_t, cnd_f, Asc_t, Asc_f] at ht hs
    subst ht
    refine g_op (v := Value.tuple #[Value.int .i64 r12.1, Value.int .i64 r12.2]) rfl rfl rfl ?_
    show G _ _ _ _ [_,_,_,_,_,_,_,_,_,_,_,_,_,_,_,_,_,_,_,_,_,_,_,_,_,_,_,_,_,_,_,_,_,_,_,_,_,_,_,_,_,_,_,_,_,_,_,_,_,_,_] _
    exact hk _ _ ⟨v9, O, (by simp only [upd, Nat.reduceBEq, Bool.true_or, Bool.false_or, p0_, p1_, p2_, p3_, p4_, p5_, p6_, q8_, q9_, q10_, q11_, cnd_t, cnd_f, Asc_t, Asc_f]), hs.cast (by first | rfl | simp only [List.take, List.drop, List.cons_append, List.nil_append, List.set_cons_zero, List.set_cons_succ, List.eraseIdx, upd, Nat.reduceBEq, Bool.true_or, Bool.false_or, p0_, p1_, p2_, p3_, p4_, p5_, p6_, q8_, q9_, q10_, q11_, cnd_t, cnd_f, Asc_t, Asc_f])⟩
   ·
    intro D t w hD hp hcl hI rest hk
    obtain ⟨v9, O, ht, hs⟩ := hI
    obtain ⟨p7_, _⟩ := hp
    obtain ⟨p6_, _⟩ := (hcl.get 7 (by decide)) p7_
    obtain ⟨p1_, p3_, p4_, p5_, _, _⟩ := (hcl.get 6 (by decide)) p6_
    obtain ⟨p2_, _, _⟩ := (hcl.get 3 (by decide)) p3_
    obtain ⟨p0_, _⟩ := (hcl.get 1 (by decide)) p1_
    have q10_ : D 10 = false := not_yet (hcl.get 10 (by decide)) 0 8 rfl hD
    have q11_ : D 11 = false := not_yet (hcl.get 11 (by decide)) 1 10 rfl q10_
    simp only [hD, p0_, p1_, p2_, p3_, p4_, p5_, p6_, p7_, q10_, q11_, cnd_t, cnd_f, Asc_t, Asc_f] at ht hs
    subst ht
    refine g_op (v := Value.int .i64 r12.1) rfl rfl rfl ?_
    show G _ _ _ _ [_,_,_,_,_,_,_,_,_,_,_,_,_,_,_,_,_,_,_,_,_,_,_,_,_,_,_,_,_,_,_,_,_,_,_,_,_,_,_,_,_,_,_,_,_,_,_,_,_,_,_] _
    exact hk _ _ ⟨v9, O, (by simp only [upd, Nat.reduceBEq, Bool.true_or, Bool.false_or, p0_, p1_, p2_, p3_, p4_, p5_, p6_, p7_, q10_, q11_, cnd_t, cnd_f, Asc_t, Asc_f]), hs.cast (by first | rfl | simp only [List.take, List.drop, List.cons_append, List.nil_append, List.set_cons_zero, List.set_cons_succ, List.eraseIdx, upd, Nat.reduceBEq, Bool.true_or, Bool.false_or, p0_, p1_, p2_, p3_, p4_, p5_, p6_, p7_, q10_, q11_, cnd_t, cnd_f, Asc_t, Asc_f])⟩
   ·
    intro D t w hD hp hcl hI rest hk
    obtain ⟨v9, O, ht, hs⟩ := hI
    obtain ⟨p7_, _⟩ := hp
    obtain ⟨p6_, _⟩ := (hcl.get 7 (by decide)) p7_
    obtain ⟨p1_, p3_, p4_, p5_, _, _⟩ := (hcl.get 6 (by decide)) p6_
    obtain ⟨p2_, _, _⟩ := (hcl.get 3 (by decide)) p3_
    obtain ⟨p0_, _⟩ := (hcl.get 1 (by decide)) p1_
    have q11_ : D 11 = false := not_yet (hcl.get 11 (by decide)) 0 9 rfl hD
    simp only [hD, p0_, p1_, p2_, p3_, p4_, p5_, p6_, p7_, q11_, cnd_t, cnd_f, Asc_t, Asc_f] at ht hs
    subst ht
    refine g_op (v := Value.int .i64 r12.2) rfl rfl rfl ?_
    show G _ _ _ _ [_,_,_,_,_,_,_,_,_,_,_,_,_,_,_,_,_,_,_,_,_,_,_,_,_,_,_,_,_,_,_,_,_,_,_,_,_,_,_,_,_,_,_,_,_,_,_,_,_,_,_] _
    exact hk _ _ ⟨v9, O, (by simp only [upd, Nat.reduceBEq, Bool.true_or, Bool.false_or, p0_, p1_, p2_, p3_, p4_, p5_, p6_, p7_, q11_, cnd_t, cnd_f, Asc_t, Asc_f]), hs.cast (by first | rfl | simp only [List.take, List.drop, List.cons_append, List.nil_append, List.set_cons_zero, List.set_cons_succ, List.eraseIdx, upd, Nat.reduceBEq, Bool.true_or, Bool.false_or, p0_, p1_, p2_, p3_, p4_, p5_, p6_, p7_, q11_, cnd_t, cnd_f, Asc_t, Asc_f])⟩
   ·
    intro D t w hD hp hcl hI rest hk
    obtain ⟨v9, O, ht, hs⟩ := hI
    obtain ⟨p8_, p6_, p0_, p1_, p2_, p3_, p4_, p5_, _, p7_, _, _⟩ := hp
    have q11_ : D 11 = false := not_yet (hcl.get 11 (by decide)) 1 10 rfl hD
    simp only [hD, p0_, p1_, p2_, p3_, p4_, p5_, p6_, p7_, p8_, q11_, cnd_t, cnd_f, Asc_t, Asc_f] at ht hs
    subst ht
    refine g_op (v := Value.int .i64 r12.1) rfl rfl rfl ?_
    show G _ _ _ _ [_,_,_,_,_,_,_,_,_,_,_,_,_,_,_,_,_,_,_,_,_,_,_,_,_,_,_,_,_,_,_,_,_,_,_,_,_,_,_,_,_,_,_,_,_,_,_,_,_,_,_] _
    exact hk _ _ ⟨v9, O, (by simp only [upd, Nat.reduceBEq, Bool.true_or, Bool.false_or, p0_, p1_, p2_, p3_, p4_, p5_, p6_, p7_, p8_, q11_, cnd_t, cnd_f, Asc_t, Asc_f]), hs.cast (by first | rfl | simp only [List.take, List.drop, List.cons_append, List.nil_append, List.set_cons_zero, List.set_cons_succ, List.eraseIdx, upd, Nat.reduceBEq, Bool.true_or, Bool.false_or, p0_, p1_, p2_, p3_, p4_, p5_, p6_, p7_, p8_, q11_, cnd_t, cnd_f, Asc_t, Asc_f])⟩
   ·
    intro D t w hD hp hcl hI rest hk
    obtain ⟨v9, O, ht, hs⟩ := hI
    obtain ⟨p9_, p10_, p0_, p1_, p2_, p3_, p4_, p5_, p6_, p7_, p8_, _, _, _⟩ := hp
    simp only [hD, p0_, p1_, p2_, p3_, p4_, p5_, p6_, p7_, p8_, p9_, p10_, cnd_t, cnd_f, Asc_t, Asc_f] at ht hs
    subst ht
    refine g_op (v := Value.int .i64 r12.2) rfl rfl rfl ?_
    show G _ _ _ _ [_,_,_,_,_,_,_,_,_,_,_,_,_,_,_,_,_,_,_,_,_,_,_,_,_,_,_,_,_,_,_,_,_,_,_,_,_,_,_,_,_,_,_,_,_,_,_,_,_,_,_] _
    exact hk _ _ ⟨v9, O, (by simp only [upd, Nat.reduceBEq, Bool.true_or, Bool.false_or, p0_, p1_, p2_, p3_, p4_, p5_, p6_, p7_, p8_, p9_, p10_, cnd_t, cnd_f, Asc_t, Asc_f]), hs.cast (by first | rfl | simp only [List.take, List.drop, List.cons_append, List.nil_append, List.set_cons_zero, List.set_cons_succ, List.eraseIdx, upd, Nat.reduceBEq, Bool.true_or, Bool.false_or, p0_, p1_, p2_, p3_, p4_, p5_, p6_, p7_, p8_, p9_, p10_, cnd_t, cnd_f, Asc_t, Asc_f])⟩
   ·
    intro D t w hall hI
    obtain ⟨v9, O, ht, hs⟩ := hI
    have p0_ : D 0 = true := hall 0 (by decide)
    have p1_ : D 1 = true := hall 1 (by decide)
    have p2_ : D 2 = true := hall 2 (by decide)
    have p3_ : D 3 = true := hall 3 (by decide)
    have p4_ : D 4 = true := hall 4 (by decide)
    have p5_ : D 5 = true := hall 5 (by decide)
    have p6_ : D 6 = true := hall 6 (by decide)
    have p7_ : D 7 = true := hall 7 (by decide)
    have p8_ : D 8 = true := hall 8 (by decide)
    have p9_ : D 9 = true := hall 9 (by decide)
    have p10_ : D 10 = true := hall 10 (by decide)
    have p11_ : D 11 = true := hall 11 (by decide)
    simp only [p0_, p1_, p2_, p3_, p4_, p5_, p6_, p7_, p8_, p9_, p10_, p11_, cnd_t, cnd_f, Asc_t, Asc_f] at ht hs
    subst ht
    refine g_seq ?_
    refine g_region ?_
    show G _ _ _ (.inRegion _ [0, 1, 2] :: _) _ _
    refine g_op (v := v2) rfl rfl rfl ?_
    obtain ⟨r14, Hr14, H⟩ := H
    refine s_call (args := [v2]) rfl rfl (x_call rfl (callFunc_enter Try.func10 rfl rfl) rfl) (laws_toGlasses.calls (a1 := a1) (hs.rd hr0) Hr14) ?_
    intro v15 w hs2
    have hs : St _ [_,_,_] _ := hs.call hs2
    show G _ _ _ _ [_,_,_,_,_,_,_,_,_,_,_,_,_,_,_,_,_,_,_,_,_,_,_,_,_,_,_,_,_,_,_,_,_,_,_,_,_,_,_,_,_,_,_,_,_,_,_,_,_,_,_] _
    refine g_op (v := v15) rfl rfl rfl ?_
    refine g_ops_nil ?_
    refine g_seq ?_
    refine g_region ?_
    show G _ _ _ (.inRegion _ [0, 1, 2, 3, 4, 5, 6, 7, 8, 9, 10] :: _) _ _
    refine g_op (v := v15) rfl rfl rfl ?_
    refine s_loadA rfl rfl (es := ((encA (encI .i16)) a3)) rfl rfl (fun _ => rfl) (n := 4) (fun _ => rfl) ((fkA (n := 4) (he := (fkI .i16).len) (h1 := (fkI .i16).one)).len _) (cells_all (hs.cells 2 rfl)) ?_
    obtain ⟨r17, Hr17, H⟩ := H
    refine s_call (args := [Value.agg ((encA (encI .i16)) a3).toArray]) rfl rfl (x_call rfl (callFunc_enter Try.func11 rfl rfl) rfl) (laws_toTops.calls (a1 := a3) Hr17) ?_
    rintro _ w ⟨rfl, hs2⟩
    have hs : St _ [_,_,_] _ := hs.call hs2
    show G _ _ _ _ [_,_,_,_,_,_,_,_,_,_,_,_,_,_,_,_,_,_,_,_,_,_,_,_,_,_,_,_,_,_,_,_,_,_,_,_,_,_,_,_,_,_,_,_,_,_,_,_,_,_,_] _
    refine g_op (v := Value.int .i64 a4) rfl rfl rfl ?_
    refine g_op (v := Value.int .i64 a5) rfl rfl rfl ?_
    refine s_call (args := [v15, Value.agg ((encA (encI .i16)) r17).toArray, Value.int .i64 a4, Value.int .i64 a5]) rfl rfl (x_call rfl (callFunc_enter Try.func28 rfl rfl) rfl) (impl_PlansFor.calls (a1 := r14) (a3 := r17) (a4 := a4) (a5 := a5) (hs.row 0 rfl) H) ?_
    rintro _ w ⟨r18, H, rfl, hs2⟩
    try dsimp only at H
    have hs : St _ [_,_,_] _ := hs.call hs2
    refine g_op (v := Value.tuple #[Value.int .i64 r18.1, Value.int .i64 r18.2]) rfl rfl rfl ?_
    refine g_op (v := Value.int .i64 r18.1) rfl rfl rfl ?_
    refine g_op (v := Value.int .i64 r18.2) rfl rfl rfl ?_
    refine g_op (v := Value.int .i64 r18.1) rfl rfl rfl ?_
    refine g_op (v := Value.int .i64 r18.2) rfl rfl rfl ?_
    show G _ _ _ _ [_,_,_,_,_,_,_,_,_,_,_,_,_,_,_,_,_,_,_,_,_,_,_,_,_,_,_,_,_,_,_,_,_,_,_,_,_,_,_,_,_,_,_,_,_,_,_,_,_,_,_] _
    refine g_ops_nil ?_
    refine g_seq ?_
    refine g_seq ?_
    refine g_region ?_
    show G _ _ _ (.inRegion _ [0, 1, 2, 3, 4, 5, 6, 7] :: _) _ _
    refine g_op (v := Value.int .i64 r18.1) rfl rfl rfl ?_
    refine g_op (v := Value.int .i64 r12.1) rfl rfl rfl ?_
    refine g_op_b (B := r18.1 != r12.1) rfl rfl rfl ?_ ?_
    ·
     intro hb
     rw [if_neg (b_bne_t hb)] at H
     refine g_op (v := Value.bool true) rfl rfl rfl ?_
     refine g_op_not rfl rfl ?_
     refine g_op_not rfl rfl ?_
     refine g_op_not rfl rfl ?_
     refine g_op (v := Value.bool true) rfl rfl rfl ?_
     show G _ _ _ _ [_,_,_,_,_,_,_,_,_,_,_,_,_,_,_,_,_,_,_,_,_,_,_,_,_,_,_,_,_,_,_,_,_,_,_,_,_,_,_,_,_,_,_,_,_,_,_,_,_,_,_] _
     refine g_ops_nil ?_
     refine g_cond_true rfl ?_
     refine g_seq ?_
     refine g_region ?_
     show G _ _ _ (.inRegion _ [0] :: _) _ _
     refine g_op (v := Value.bool false) rfl rfl rfl ?_
     refine g_ops_nil ?_
     refine g_ret Try.func7 (v := Value.bool false) (res1 rfl rfl) ?_
     have hs : St _ [] _ := St.take (Γ' := [_,_,_]) hs
     exact ⟨_, rfl, _, H, rfl, hs⟩
    ·
     intro hb
     rw [if_pos (b_bne_f hb)] at H
     refine g_op (v := Value.bool false) rfl rfl rfl ?_
     refine g_op (v := Value.int .i64 r18.2) rfl rfl rfl ?_
     refine g_op (v := Value.int .i64 r12.2) rfl rfl rfl ?_
     refine g_op_b (B := r18.2 != r12.2) rfl rfl rfl ?_ ?_
     ·
      intro hb
      rw [if_neg (b_bne_t hb)] at H
      refine g_op (v := Value.bool true) rfl rfl rfl ?_
      refine g_ops_nil ?_
      refine g_cond_true rfl ?_
      refine g_seq ?_
      refine g_region ?_
      show G _ _ _ (.inRegion _ [0] :: _) _ _
      refine g_op (v := Value.bool false) rfl rfl rfl ?_
      show G _ _ _ _ [_,_,_,_,_,_,_,_,_,_,_,_,_,_,_,_,_,_,_,_,_,_,_,_,_,_,_,_,_,_,_,_,_,_,_,_,_,_,_,_,_,_,_,_,_,_,_,_,_,_,_] _
      refine g_ops_nil ?_
      refine g_ret Try.func7 (v := Value.bool false) (res1 rfl rfl) ?_
      have hs : St _ [] _ := St.take (Γ' := [_,_,_]) hs
      exact ⟨_, rfl, _, H, rfl, hs⟩
     ·
      intro hb
      rw [if_pos (b_bne_f hb)] at H
      refine g_op (v := Value.bool false) rfl rfl rfl ?_
      show G _ _ _ _ [_,_,_,_,_,_,_,_,_,_,_,_,_,_,_,_,_,_,_,_,_,_,_,_,_,_,_,_,_,_,_,_,_,_,_,_,_,_,_,_,_,_,_,_,_,_,_,_,_,_,_] _
      refine g_ops_nil ?_
      refine g_cond_false rfl ?_
      refine g_skip ?_
      refine g_seq ?_
      refine g_seq ?_
      refine g_region ?_
      show G _ _ _ (.inRegion _ [0, 1, 2, 3, 4] :: _) _ _
      refine g_op (v := v15) rfl rfl rfl ?_
      refine g_op (v := v2) rfl rfl rfl ?_
      obtain ⟨r19, Hr19, H⟩ := H
      refine s_call (args := [v2]) rfl rfl (x_call rfl (callFunc_enter Try.func10 rfl rfl) rfl) (laws_toGlasses.calls (a1 := a1) (hs.rd hr0) Hr19) ?_
      intro v20 w hs2
      have hs : St _ [_,_,_,_] _ := hs.call hs2
      obtain ⟨r22, Hr22, H⟩ := H
      refine s_call (args := [v15, v20]) rfl rfl (x_call rfl (callFunc_enter Try.func13 rfl rfl) rfl) (laws_eqGlasses.calls (a1 := r14) (a3 := r19) (hs.row 1 rfl) (hs.row 0 rfl) Hr22) ?_
      rintro _ w ⟨rfl, hs2⟩
      have hs : St _ [_,_,_,_] _ := hs.call hs2
      cases r22 with
      | true =>
        rw [if_pos rfl] at H
        refine g_op (v := Value.bool false) rfl rfl rfl ?_
        show G _ _ _ _ [_,_,_,_,_,_,_,_,_,_,_,_,_,_,_,_,_,_,_,_,_,_,_,_,_,_,_,_,_,_,_,_,_,_,_,_,_,_,_,_,_,_,_,_,_,_,_,_,_,_,_] _
        refine g_ops_nil ?_
        refine g_cond_false rfl ?_
        refine g_skip ?_
        refine g_seq ?_
        refine g_region ?_
        show G _ _ _ (.inRegion _ [0] :: _) _ _
        refine g_op (v := Value.bool true) rfl rfl rfl ?_
        refine g_ops_nil ?_
        refine g_ret Try.func7 (v := Value.bool true) (res1 rfl rfl) ?_
        have hs : St _ [] _ := St.take (Γ' := [_,_,_,_]) hs
        exact ⟨_, rfl, _, H, rfl, hs⟩
      | false =>
        rw [if_neg Bool.false_ne_true] at H
        refine g_op (v := Value.bool true) rfl rfl rfl ?_
        show G _ _ _ _ [_,_,_,_,_,_,_,_,_,_,_,_,_,_,_,_,_,_,_,_,_,_,_,_,_,_,_,_,_,_,_,_,_,_,_,_,_,_,_,_,_,_,_,_,_,_,_,_,_,_,_] _
        refine g_ops_nil ?_
        refine g_cond_true rfl ?_
        refine g_seq ?_
        refine g_region ?_
        show G _ _ _ (.inRegion _ [0] :: _) _ _
        refine g_op (v := Value.bool false) rfl rfl rfl ?_
        refine g_ops_nil ?_
        refine g_ret Try.func7 (v := Value.bool false) (res1 rfl rfl) ?_
        have hs : St _ [] _ := St.take (Γ' := [_,_,_,_]) hs
        exact ⟨_, rfl, _, H, rfl, hs⟩

end Go.Proofs.YtioefkcldfjobaaX
