/- Contracts, printed by gen.py. -/
import Derived.Test.YtcocgeodfbiehaaXC10
namespace Go.Proofs.YtcocgeodfbiehaaX
open Go Go.RowKit Go.Proofs
set_option linter.unusedVariables false
set_option linter.unusedSimpArgs false
/- function 5 laws_FnExactSplitCases -/
def laws_FnExactSplitCases.post (w0 : World) (r : Bool) (v : Value) (w : World) : Prop := v = Value.bool r ∧ St w0 [] w
set_option maxHeartbeats 8000000 in
set_option maxRecDepth 100000 in
theorem laws_FnExactSplitCases.calls {N : Nat} {a1 : S_laws_Task} {a2 : (Ar Int 14)} {a3 : (List S_impl_Case)} {v4 : Value} {w0 : World} {r : Bool} (hr2 : RdRow k_S_impl_Case w0 v4 a3) (H : laws_FnExactSplitCases.f N a1 a2 a3 = some r) :
    Calls Try.prog 5 #[Value.agg (enc_S_laws_Task a1).toArray, Value.agg ((encA (encI .i8)) a2).toArray, v4] w0 fun e w => ∃ v, e = .returned v ∧ laws_FnExactSplitCases.post w0 r v w := by
  unfold laws_FnExactSplitCases.f at H
  have hs : St w0 [] w0 := St.refl w0
  refine calls_of_g (n := 109) Try.func5 rfl rfl ?_
  show G _ _ _ _ [_, _, _, _, _, _, _, _, _, _, _, _, _, _, _, _, _, _, _, _, _, _, _, _, _, _, _, _, _, _, _, _, _, _, _, _, _, _, _, _, _, _, _, _, _, _, _, _, _, _, _, _, _, _, _, _, _, _, _, _, _, _, _, _, _, _, _, _, _, _, _, _, _, _, _, _, _, _, _, _, _, _, _, _, _, _, _, _, _, _, _, _, _, _, _, _, _, _, _, _, _, _, _, _, _, _, _, _, _, _, _, _] _
  refine g_seq ?_
  refine g_region ?_
  show G _ _ _ (.inRegion _ [0, 1, 2] :: _) _ _
  refine s_box hs rfl rfl (cs := (enc_S_laws_Task a1)) rfl rfl ?_
  intro b5 w hs
  show G _ _ _ _ [_, _, _, _, _, _, _, _, _, _, _, _, _, _, _, _, _, _, _, _, _, _, _, _, _, _, _, _, _, _, _, _, _, _, _, _, _, _, _, _, _, _, _, _, _, _, _, _, _, _, _, _, _, _, _, _, _, _, _, _, _, _, _, _, _, _, _, _, _, _, _, _, _, _, _, _, _, _, _, _, _, _, _, _, _, _, _, _, _, _, _, _, _, _, _, _, _, _, _, _, _, _, _, _, _, _, _, _, _, _, _, _] _
  refine s_box hs rfl rfl (cs := ((encA (encI .i8)) a2)) rfl rfl ?_
  intro b7 w hs
  show G _ _ _ _ [_, _, _, _, _, _, _, _, _, _, _, _, _, _, _, _, _, _, _, _, _, _, _, _, _, _, _, _, _, _, _, _, _, _, _, _, _, _, _, _, _, _, _, _, _, _, _, _, _, _, _, _, _, _, _, _, _, _, _, _, _, _, _, _, _, _, _, _, _, _, _, _, _, _, _, _, _, _, _, _, _, _, _, _, _, _, _, _, _, _, _, _, _, _, _, _, _, _, _, _, _, _, _, _, _, _, _, _, _, _, _, _] _
  refine g_op (v := Value.bool false) rfl rfl rfl ?_
  show G _ _ _ _ [_, _, _, _, _, _, _, _, _, _, _, _, _, _, _, _, _, _, _, _, _, _, _, _, _, _, _, _, _, _, _, _, _, _, _, _, _, _, _, _, _, _, _, _, _, _, _, _, _, _, _, _, _, _, _, _, _, _, _, _, _, _, _, _, _, _, _, _, _, _, _, _, _, _, _, _, _, _, _, _, _, _, _, _, _, _, _, _, _, _, _, _, _, _, _, _, _, _, _, _, _, _, _, _, _, _, _, _, _, _, _, _] _
  refine g_ops_nil ?_
  refine g_seq ?_
  refine g_region ?_
  show G _ _ _ (.inRegion _ [0] :: _) _ _
  refine g_op (v := Value.int .i64 1048576) rfl rfl rfl ?_
  show G _ _ _ _ [_, _, _, _, _, _, _, _, _, _, _, _, _, _, _, _, _, _, _, _, _, _, _, _, _, _, _, _, _, _, _, _, _, _, _, _, _, _, _, _, _, _, _, _, _, _, _, _, _, _, _, _, _, _, _, _, _, _, _, _, _, _, _, _, _, _, _, _, _, _, _, _, _, _, _, _, _, _, _, _, _, _, _, _, _, _, _, _, _, _, _, _, _, _, _, _, _, _, _, _, _, _, _, _, _, _, _, _, _, _, _, _] _
  refine g_ops_nil ?_
  refine g_seq ?_
  refine g_region ?_
  show G _ _ _ (.inRegion _ [0, 1, 2, 3] :: _) _ _
  refine g_op (v := v4) rfl rfl rfl ?_
  refine g_op (v := Value.int .i64 1048576) rfl rfl rfl ?_
  obtain ⟨r9, Hr9, H⟩ := bind_get H
  refine s_call (args := [v4, Value.int .i64 1048576]) rfl rfl (x_call rfl (callFunc_enter Try.func15 rfl rfl) rfl) (laws_szCaseS.calls (a1 := a3) (a3 := 1048576) (hs.rd hr2) Hr9) ?_
  rintro _ w ⟨rfl, hs2⟩
  have hs : St _ [_, _] _ := hs.call hs2
  show G _ _ _ _ [_, _, _, _, _, _, _, _, _, _, _, _, _, _, _, _, _, _, _, _, _, _, _, _, _, _, _, _, _, _, _, _, _, _, _, _, _, _, _, _, _, _, _, _, _, _, _, _, _, _, _, _, _, _, _, _, _, _, _, _, _, _, _, _, _, _, _, _, _, _, _, _, _, _, _, _, _, _, _, _, _, _, _, _, _, _, _, _, _, _, _, _, _, _, _, _, _, _, _, _, _, _, _, _, _, _, _, _, _, _, _, _] _
  refine g_op (v := Value.int .i64 r9) rfl rfl rfl ?_
  show G _ _ _ _ [_, _, _, _, _, _, _, _, _, _, _, _, _, _, _, _, _, _, _, _, _, _, _, _, _, _, _, _, _, _, _, _, _, _, _, _, _, _, _, _, _, _, _, _, _, _, _, _, _, _, _, _, _, _, _, _, _, _, _, _, _, _, _, _, _, _, _, _, _, _, _, _, _, _, _, _, _, _, _, _, _, _, _, _, _, _, _, _, _, _, _, _, _, _, _, _, _, _, _, _, _, _, _, _, _, _, _, _, _, _, _, _] _
  refine g_ops_nil ?_
  refine g_seq ?_
  refine g_seq ?_
  refine g_region ?_
  show G _ _ _ (.inRegion _ [0, 1] :: _) _ _
  refine g_op (v := Value.int .i64 r9) rfl rfl rfl ?_
  refine g_op_b (B := decide (r9 < 0)) rfl rfl rfl ?_ ?_
  ·
   intro hb
   rw [if_pos (b_dec_t hb)] at H
   show G _ _ _ _ [_, _, _, _, _, _, _, _, _, _, _, _, _, _, _, _, _, _, _, _, _, _, _, _, _, _, _, _, _, _, _, _, _, _, _, _, _, _, _, _, _, _, _, _, _, _, _, _, _, _, _, _, _, _, _, _, _, _, _, _, _, _, _, _, _, _, _, _, _, _, _, _, _, _, _, _, _, _, _, _, _, _, _, _, _, _, _, _, _, _, _, _, _, _, _, _, _, _, _, _, _, _, _, _, _, _, _, _, _, _, _, _] _
   refine g_ops_nil ?_
   refine g_cond_true rfl ?_
   refine g_seq ?_
   refine g_region ?_
   show G _ _ _ (.inRegion _ [0] :: _) _ _
   refine g_op (v := Value.bool true) rfl rfl rfl ?_
   show G _ _ _ _ [_, _, _, _, _, _, _, _, _, _, _, _, _, _, _, _, _, _, _, _, _, _, _, _, _, _, _, _, _, _, _, _, _, _, _, _, _, _, _, _, _, _, _, _, _, _, _, _, _, _, _, _, _, _, _, _, _, _, _, _, _, _, _, _, _, _, _, _, _, _, _, _, _, _, _, _, _, _, _, _, _, _, _, _, _, _, _, _, _, _, _, _, _, _, _, _, _, _, _, _, _, _, _, _, _, _, _, _, _, _, _, _] _
   refine g_ops_nil ?_
   obtain rfl := Option.some.inj H
   refine g_ret Try.func5 (v := Value.bool true) (res1 rfl rfl) ?_
   have hs : St _ [] _ := St.take (Γ' := [_, _]) hs
   exact ⟨_, rfl, rfl, hs⟩
  ·
   intro hb
   rw [if_neg (b_dec_f hb)] at H
   show G _ _ _ _ [_, _, _, _, _, _, _, _, _, _, _, _, _, _, _, _, _, _, _, _, _, _, _, _, _, _, _, _, _, _, _, _, _, _, _, _, _, _, _, _, _, _, _, _, _, _, _, _, _, _, _, _, _, _, _, _, _, _, _, _, _, _, _, _, _, _, _, _, _, _, _, _, _, _, _, _, _, _, _, _, _, _, _, _, _, _, _, _, _, _, _, _, _, _, _, _, _, _, _, _, _, _, _, _, _, _, _, _, _, _, _, _] _
   refine g_ops_nil ?_
   refine g_cond_false rfl ?_
   refine g_skip ?_
   refine g_seq ?_
   obtain ⟨r10, Hr10, H⟩ := bind_get H
   obtain ⟨r11, Hr11, H⟩ := bind_get H
   obtain ⟨r12, Hr12, H⟩ := bind_get H
   obtain ⟨r15, Hr15, H⟩ := bind_get H
   refine g_name ?_
   intro T hT
   refine g_any (n := 13) rfl [0, 1, 2, 3, 4, 5, 6, 7, 8, 9, 10, 11, 12] [0, 1, 2, 3, 4, 5, 6, 7, 8, 11, 9, 10, 12] rfl rfl (Inv := fun D t w => ∃ v13 : Value, ∃ v16 : Value, ∃ v17 : Value, ∃ v18 : Value, ∃ b22 : Nat, ∃ O : Nat → Value, t = [Value.agg (enc_S_laws_Task a1).toArray, Value.agg ((encA (encI .i8)) a2).toArray, v4, Value.pointer (some ⟨b5, 0, none⟩), Value.pointer (some ⟨b7, 0, none⟩), O 5, Value.bool false, Value.int .i64 r9, cnd (D 10) (Value.pointer (some ⟨b22, 0, none⟩)) (O 8), cnd (D 12) (Value.int .i64 r15.2) (O 9), O 10, O 11, O 12, O 13, O 14, O 15, O 16, O 17, v4, Value.int .i64 1048576, Value.int .i64 r9, Value.int .i64 r9, Value.bool false, cnd (D 7) (Value.tuple #[Value.agg (([v16, v17, v18] : List Value)).toArray, Value.int .i64 r15.2]) (O 23), cnd (D 0) (Value.agg (enc_S_laws_Task a1).toArray) (O 24), cnd (D 1) (Value.agg (enc_S_laws_Task r10).toArray) (O 25), cnd (D 2) (Value.agg ((encA (encI .i8)) a2).toArray) (O 26), cnd (D 3) (Value.agg ((encA (encI .i8)) r11).toArray) (O 27), cnd (D 4) v4 (O 28), cnd (D 5) v13 (O 29), cnd (D 6) (Value.tuple #[Value.agg (([v16, v17, v18] : List Value)).toArray, Value.int .i64 r15.2]) (O 30), cnd (D 8) (Value.agg (([v16, v17, v18] : List Value)).toArray) (O 31), cnd (D 9) (Value.int .i64 r15.2) (O 32), O 33, O 34, O 35, O 36, O 37, O 38, O 39, O 40, O 41, O 42, O 43, O 44, O 45, O 46, O 47, O 48, O 49, O 50, O 51, O 52, O 53, O 54, O 55, O 56, O 57, O 58, O 59, O 60, O 61, O 62, O 63, O 64, O 65, O 66, O 67, O 68, O 69, O 70, O 71, O 72, O 73, O 74, O 75, O 76, O 77, O 78, O 79, O 80, O 81, O 82, O 83, O 84, O 85, O 86, O 87, O 88, O 89, O 90, O 91, O 92, O 93, O 94, O 95, O 96, O 97, O 98, O 99, O 100, O 101, O 102, O 103, O 104, O 105, O 106, O 107, O 108, O 109, O 110, O 111] ∧ St w0 [Asc (D 5) (Row 84 k_S_impl_Case v13 r12), Asc (D 6) (Row 84 k_S_impl_Case v16 (r15.1.get 0 [])), Asc (D 6) (Row 84 k_S_impl_Case v17 (r15.1.get 1 [])), Asc (D 6) (Row 84 k_S_impl_Case v18 (r15.1.get 2 [])), Asc (D 10) (Cells b22 (cnd (D 11) (([v16, v17, v18] : List Value)) (([Value.slice none 0 0, Value.slice none 0 0, Value.slice none 0 0] : List Value))) 47), Cells b7 ((encA (encI .i8)) a2) 43, Cells b5 (enc_S_laws_Task a1) 42] w) ?_ ⟨⟨⟨⟨⟨⟨⟨⟨⟨⟨⟨⟨⟨trivial, ?_⟩, ?_⟩, ?_⟩, ?_⟩, ?_⟩, ?_⟩, ?_⟩, ?_⟩, ?_⟩, ?_⟩, ?_⟩, ?_⟩, ?_⟩ ?_
   ·
    intro w hh hbw
    have hs := hs.samew hh hbw
    have hs := hs.emp
    have hs := hs.emp
    have hs := hs.emp
    have hs := hs.emp
    have hs := hs.emp
    exact ⟨undef, undef, undef, undef, 0, fun i => T.getD i undef, (by subst hT; rfl), hs⟩
   ·
    intro D t w hD hp hcl hI rest hk
    obtain ⟨v13, v16, v17, v18, b22, O, ht, hs⟩ := hI
    have q1_ : D 1 = false := not_yet (hcl.get 1 (by decide)) 0 0 rfl hD
    have q3_ : D 3 = false := not_yet (hcl.get 3 (by decide)) 1 1 rfl q1_
    have q5_ : D 5 = false := not_yet (hcl.get 5 (by decide)) 1 3 rfl q3_
    have q6_ : D 6 = false := not_yet (hcl.get 6 (by decide)) 0 1 rfl q1_
    have q7_ : D 7 = false := not_yet (hcl.get 7 (by decide)) 0 6 rfl q6_
    have q8_ : D 8 = false := not_yet (hcl.get 8 (by decide)) 0 7 rfl q7_
    have q9_ : D 9 = false := not_yet (hcl.get 9 (by decide)) 0 7 rfl q7_
    have q11_ : D 11 = false := not_yet (hcl.get 11 (by decide)) 1 8 rfl q8_
    have q12_ : D 12 = false := not_yet (hcl.get 12 (by decide)) 0 9 rfl q9_
    have u0_ : upd D 0 0 = true := rfl; have u1_ : upd D 0 1 = D 1 := rfl; have u2_ : upd D 0 2 = D 2 := rfl; have u3_ : upd D 0 3 = D 3 := rfl; have u4_ : upd D 0 4 = D 4 := rfl; have u5_ : upd D 0 5 = D 5 := rfl; have u6_ : upd D 0 6 = D 6 := rfl; have u7_ : upd D 0 7 = D 7 := rfl; have u8_ : upd D 0 8 = D 8 := rfl; have u9_ : upd D 0 9 = D 9 := rfl; have u10_ : upd D 0 10 = D 10 := rfl; have u11_ : upd D 0 11 = D 11 := rfl; have u12_ : upd D 0 12 = D 12 := rfl
    simp only [hD, q1_, q3_, q5_, q6_, q7_, q8_, q9_, q11_, q12_, cnd_t, cnd_f, Asc_t, Asc_f] at ht hs
    subst ht
    refine s_loadA rfl rfl (es := (enc_S_laws_Task a1)) rfl rfl (fun _ => rfl) (n := 4) (fun _ => rfl) (fk_S_laws_Task.len _) (cells_all (hs.cells 6 rfl)) ?_
    show G _ _ _ _ [_, _, _, _, _, _, _, _, _, _, _, _, _, _, _, _, _, _, _, _, _, _, _, _, _, _, _, _, _, _, _, _, _, _, _, _, _, _, _, _, _, _, _, _, _, _, _, _, _, _, _, _, _, _, _, _, _, _, _, _, _, _, _, _, _, _, _, _, _, _, _, _, _, _, _, _, _, _, _, _, _, _, _, _, _, _, _, _, _, _, _, _, _, _, _, _, _, _, _, _, _, _, _, _, _, _, _, _, _, _, _, _] _
    exact hk _ _ ⟨v13, v16, v17, v18, b22, O, (by simp only [u0_, u1_, u2_, u3_, u4_, u5_, u6_, u7_, u8_, u9_, u10_, u11_, u12_, q1_, q3_, q5_, q6_, q7_, q8_, q9_, q11_, q12_, cnd_t, cnd_f, Asc_t, Asc_f]), hs.cast (by first | rfl | simp only [List.take, List.drop, List.cons_append, List.nil_append, List.set_cons_zero, List.set_cons_succ, List.eraseIdx, u0_, u1_, u2_, u3_, u4_, u5_, u6_, u7_, u8_, u9_, u10_, u11_, u12_, q1_, q3_, q5_, q6_, q7_, q8_, q9_, q11_, q12_, cnd_t, cnd_f, Asc_t, Asc_f])⟩
   ·
    intro D t w hD hp hcl hI rest hk
    obtain ⟨v13, v16, v17, v18, b22, O, ht, hs⟩ := hI
    obtain ⟨p0_, _⟩ := hp
    have q3_ : D 3 = false := not_yet (hcl.get 3 (by decide)) 1 1 rfl hD
    have q5_ : D 5 = false := not_yet (hcl.get 5 (by decide)) 1 3 rfl q3_
    have q6_ : D 6 = false := not_yet (hcl.get 6 (by decide)) 0 1 rfl hD
    have q7_ : D 7 = false := not_yet (hcl.get 7 (by decide)) 0 6 rfl q6_
    have q8_ : D 8 = false := not_yet (hcl.get 8 (by decide)) 0 7 rfl q7_
    have q9_ : D 9 = false := not_yet (hcl.get 9 (by decide)) 0 7 rfl q7_
    have q11_ : D 11 = false := not_yet (hcl.get 11 (by decide)) 1 8 rfl q8_
    have q12_ : D 12 = false := not_yet (hcl.get 12 (by decide)) 0 9 rfl q9_
    have u0_ : upd D 1 0 = D 0 := rfl; have u1_ : upd D 1 1 = true := rfl; have u2_ : upd D 1 2 = D 2 := rfl; have u3_ : upd D 1 3 = D 3 := rfl; have u4_ : upd D 1 4 = D 4 := rfl; have u5_ : upd D 1 5 = D 5 := rfl; have u6_ : upd D 1 6 = D 6 := rfl; have u7_ : upd D 1 7 = D 7 := rfl; have u8_ : upd D 1 8 = D 8 := rfl; have u9_ : upd D 1 9 = D 9 := rfl; have u10_ : upd D 1 10 = D 10 := rfl; have u11_ : upd D 1 11 = D 11 := rfl; have u12_ : upd D 1 12 = D 12 := rfl
    simp only [hD, p0_, q3_, q5_, q6_, q7_, q8_, q9_, q11_, q12_, cnd_t, cnd_f, Asc_t, Asc_f] at ht hs
    subst ht
    refine s_call (args := [Value.agg (enc_S_laws_Task a1).toArray]) rfl rfl (x_call rfl (callFunc_enter Try.func17 rfl rfl) rfl) (laws_toTask.calls (a1 := a1) Hr10) ?_
    rintro _ w ⟨rfl, hs2⟩
    have hs : St _ [_, _, _, _, _, _, _] _ := hs.call hs2
    show G _ _ _ _ [_, _, _, _, _, _, _, _, _, _, _, _, _, _, _, _, _, _, _, _, _, _, _, _, _, _, _, _, _, _, _, _, _, _, _, _, _, _, _, _, _, _, _, _, _, _, _, _, _, _, _, _, _, _, _, _, _, _, _, _, _, _, _, _, _, _, _, _, _, _, _, _, _, _, _, _, _, _, _, _, _, _, _, _, _, _, _, _, _, _, _, _, _, _, _, _, _, _, _, _, _, _, _, _, _, _, _, _, _, _, _, _] _
    exact hk _ _ ⟨v13, v16, v17, v18, b22, O, (by simp only [u0_, u1_, u2_, u3_, u4_, u5_, u6_, u7_, u8_, u9_, u10_, u11_, u12_, p0_, q3_, q5_, q6_, q7_, q8_, q9_, q11_, q12_, cnd_t, cnd_f, Asc_t, Asc_f]), hs.cast (by first | rfl | simp only [List.take, List.drop, List.cons_append, List.nil_append, List.set_cons_zero, List.set_cons_succ, List.eraseIdx, u0_, u1_, u2_, u3_, u4_, u5_, u6_, u7_, u8_, u9_, u10_, u11_, u12_, p0_, q3_, q5_, q6_, q7_, q8_, q9_, q11_, q12_, cnd_t, cnd_f, Asc_t, Asc_f])⟩
   ·
    intro D t w hD hp hcl hI rest hk
    obtain ⟨v13, v16, v17, v18, b22, O, ht, hs⟩ := hI
    have q3_ : D 3 = false := not_yet (hcl.get 3 (by decide)) 0 2 rfl hD
    have q5_ : D 5 = false := not_yet (hcl.get 5 (by decide)) 1 3 rfl q3_
    have q6_ : D 6 = false := not_yet (hcl.get 6 (by decide)) 1 3 rfl q3_
    have q7_ : D 7 = false := not_yet (hcl.get 7 (by decide)) 0 6 rfl q6_
    have q8_ : D 8 = false := not_yet (hcl.get 8 (by decide)) 0 7 rfl q7_
    have q9_ : D 9 = false := not_yet (hcl.get 9 (by decide)) 0 7 rfl q7_
    have q11_ : D 11 = false := not_yet (hcl.get 11 (by decide)) 1 8 rfl q8_
    have q12_ : D 12 = false := not_yet (hcl.get 12 (by decide)) 0 9 rfl q9_
    have u0_ : upd D 2 0 = D 0 := rfl; have u1_ : upd D 2 1 = D 1 := rfl; have u2_ : upd D 2 2 = true := rfl; have u3_ : upd D 2 3 = D 3 := rfl; have u4_ : upd D 2 4 = D 4 := rfl; have u5_ : upd D 2 5 = D 5 := rfl; have u6_ : upd D 2 6 = D 6 := rfl; have u7_ : upd D 2 7 = D 7 := rfl; have u8_ : upd D 2 8 = D 8 := rfl; have u9_ : upd D 2 9 = D 9 := rfl; have u10_ : upd D 2 10 = D 10 := rfl; have u11_ : upd D 2 11 = D 11 := rfl; have u12_ : upd D 2 12 = D 12 := rfl
    simp only [hD, q3_, q5_, q6_, q7_, q8_, q9_, q11_, q12_, cnd_t, cnd_f, Asc_t, Asc_f] at ht hs
    subst ht
    refine s_loadA rfl rfl (es := ((encA (encI .i8)) a2)) rfl rfl (fun _ => rfl) (n := 14) (fun _ => rfl) ((fkA (n := 14) (he := (fkI .i8).len) (h1 := (fkI .i8).one)).len _) (cells_all (hs.cells 5 rfl)) ?_
    show G _ _ _ _ [_, _, _, _, _, _, _, _, _, _, _, _, _, _, _, _, _, _, _, _, _, _, _, _, _, _, _, _, _, _, _, _, _, _, _, _, _, _, _, _, _, _, _, _, _, _, _, _, _, _, _, _, _, _, _, _, _, _, _, _, _, _, _, _, _, _, _, _, _, _, _, _, _, _, _, _, _, _, _, _, _, _, _, _, _, _, _, _, _, _, _, _, _, _, _, _, _, _, _, _, _, _, _, _, _, _, _, _, _, _, _, _] _
    exact hk _ _ ⟨v13, v16, v17, v18, b22, O, (by simp only [u0_, u1_, u2_, u3_, u4_, u5_, u6_, u7_, u8_, u9_, u10_, u11_, u12_, q3_, q5_, q6_, q7_, q8_, q9_, q11_, q12_, cnd_t, cnd_f, Asc_t, Asc_f]), hs.cast (by first | rfl | simp only [List.take, List.drop, List.cons_append, List.nil_append, List.set_cons_zero, List.set_cons_succ, List.eraseIdx, u0_, u1_, u2_, u3_, u4_, u5_, u6_, u7_, u8_, u9_, u10_, u11_, u12_, q3_, q5_, q6_, q7_, q8_, q9_, q11_, q12_, cnd_t, cnd_f, Asc_t, Asc_f])⟩
   ·
    intro D t w hD hp hcl hI rest hk
    obtain ⟨v13, v16, v17, v18, b22, O, ht, hs⟩ := hI
    obtain ⟨p2_, p1_, _⟩ := hp
    obtain ⟨p0_, _⟩ := (hcl.get 1 (by decide)) p1_
    have q5_ : D 5 = false := not_yet (hcl.get 5 (by decide)) 1 3 rfl hD
    have q6_ : D 6 = false := not_yet (hcl.get 6 (by decide)) 1 3 rfl hD
    have q7_ : D 7 = false := not_yet (hcl.get 7 (by decide)) 0 6 rfl q6_
    have q8_ : D 8 = false := not_yet (hcl.get 8 (by decide)) 0 7 rfl q7_
    have q9_ : D 9 = false := not_yet (hcl.get 9 (by decide)) 0 7 rfl q7_
    have q11_ : D 11 = false := not_yet (hcl.get 11 (by decide)) 1 8 rfl q8_
    have q12_ : D 12 = false := not_yet (hcl.get 12 (by decide)) 0 9 rfl q9_
    have u0_ : upd D 3 0 = D 0 := rfl; have u1_ : upd D 3 1 = D 1 := rfl; have u2_ : upd D 3 2 = D 2 := rfl; have u3_ : upd D 3 3 = true := rfl; have u4_ : upd D 3 4 = D 4 := rfl; have u5_ : upd D 3 5 = D 5 := rfl; have u6_ : upd D 3 6 = D 6 := rfl; have u7_ : upd D 3 7 = D 7 := rfl; have u8_ : upd D 3 8 = D 8 := rfl; have u9_ : upd D 3 9 = D 9 := rfl; have u10_ : upd D 3 10 = D 10 := rfl; have u11_ : upd D 3 11 = D 11 := rfl; have u12_ : upd D 3 12 = D 12 := rfl
    simp only [hD, p0_, p1_, p2_, q5_, q6_, q7_, q8_, q9_, q11_, q12_, cnd_t, cnd_f, Asc_t, Asc_f] at ht hs
    subst ht
    refine s_call (args := [Value.agg ((encA (encI .i8)) a2).toArray]) rfl rfl (x_call rfl (callFunc_enter Try.func18 rfl rfl) rfl) (laws_toWeighing.calls (a1 := a2) Hr11) ?_
    rintro _ w ⟨rfl, hs2⟩
    have hs : St _ [_, _, _, _, _, _, _] _ := hs.call hs2
    show G _ _ _ _ [_, _, _, _, _, _, _, _, _, _, _, _, _, _, _, _, _, _, _, _, _, _, _, _, _, _, _, _, _, _, _, _, _, _, _, _, _, _, _, _, _, _, _, _, _, _, _, _, _, _, _, _, _, _, _, _, _, _, _, _, _, _, _, _, _, _, _, _, _, _, _, _, _, _, _, _, _, _, _, _, _, _, _, _, _, _, _, _, _, _, _, _, _, _, _, _, _, _, _, _, _, _, _, _, _, _, _, _, _, _, _, _] _
    exact hk _ _ ⟨v13, v16, v17, v18, b22, O, (by simp only [u0_, u1_, u2_, u3_, u4_, u5_, u6_, u7_, u8_, u9_, u10_, u11_, u12_, p0_, p1_, p2_, q5_, q6_, q7_, q8_, q9_, q11_, q12_, cnd_t, cnd_f, Asc_t, Asc_f]), hs.cast (by first | rfl | simp only [List.take, List.drop, List.cons_append, List.nil_append, List.set_cons_zero, List.set_cons_succ, List.eraseIdx, u0_, u1_, u2_, u3_, u4_, u5_, u6_, u7_, u8_, u9_, u10_, u11_, u12_, p0_, p1_, p2_, q5_, q6_, q7_, q8_, q9_, q11_, q12_, cnd_t, cnd_f, Asc_t, Asc_f])⟩
   ·
    intro D t w hD hp hcl hI rest hk
    obtain ⟨v13, v16, v17, v18, b22, O, ht, hs⟩ := hI
    have q5_ : D 5 = false := not_yet (hcl.get 5 (by decide)) 0 4 rfl hD
    have q6_ : D 6 = false := not_yet (hcl.get 6 (by decide)) 2 5 rfl q5_
    have q7_ : D 7 = false := not_yet (hcl.get 7 (by decide)) 0 6 rfl q6_
    have q8_ : D 8 = false := not_yet (hcl.get 8 (by decide)) 0 7 rfl q7_
    have q9_ : D 9 = false := not_yet (hcl.get 9 (by decide)) 0 7 rfl q7_
    have q11_ : D 11 = false := not_yet (hcl.get 11 (by decide)) 1 8 rfl q8_
    have q12_ : D 12 = false := not_yet (hcl.get 12 (by decide)) 0 9 rfl q9_
    have u0_ : upd D 4 0 = D 0 := rfl; have u1_ : upd D 4 1 = D 1 := rfl; have u2_ : upd D 4 2 = D 2 := rfl; have u3_ : upd D 4 3 = D 3 := rfl; have u4_ : upd D 4 4 = true := rfl; have u5_ : upd D 4 5 = D 5 := rfl; have u6_ : upd D 4 6 = D 6 := rfl; have u7_ : upd D 4 7 = D 7 := rfl; have u8_ : upd D 4 8 = D 8 := rfl; have u9_ : upd D 4 9 = D 9 := rfl; have u10_ : upd D 4 10 = D 10 := rfl; have u11_ : upd D 4 11 = D 11 := rfl; have u12_ : upd D 4 12 = D 12 := rfl
    simp only [hD, q5_, q6_, q7_, q8_, q9_, q11_, q12_, cnd_t, cnd_f, Asc_t, Asc_f] at ht hs
    subst ht
    refine g_op (v := v4) rfl rfl rfl ?_
    show G _ _ _ _ [_, _, _, _, _, _, _, _, _, _, _, _, _, _, _, _, _, _, _, _, _, _, _, _, _, _, _, _, _, _, _, _, _, _, _, _, _, _, _, _, _, _, _, _, _, _, _, _, _, _, _, _, _, _, _, _, _, _, _, _, _, _, _, _, _, _, _, _, _, _, _, _, _, _, _, _, _, _, _, _, _, _, _, _, _, _, _, _, _, _, _, _, _, _, _, _, _, _, _, _, _, _, _, _, _, _, _, _, _, _, _, _] _
    exact hk _ _ ⟨v13, v16, v17, v18, b22, O, (by simp only [u0_, u1_, u2_, u3_, u4_, u5_, u6_, u7_, u8_, u9_, u10_, u11_, u12_, q5_, q6_, q7_, q8_, q9_, q11_, q12_, cnd_t, cnd_f, Asc_t, Asc_f]), hs.cast (by first | rfl | simp only [List.take, List.drop, List.cons_append, List.nil_append, List.set_cons_zero, List.set_cons_succ, List.eraseIdx, u0_, u1_, u2_, u3_, u4_, u5_, u6_, u7_, u8_, u9_, u10_, u11_, u12_, q5_, q6_, q7_, q8_, q9_, q11_, q12_, cnd_t, cnd_f, Asc_t, Asc_f])⟩
   ·
    intro D t w hD hp hcl hI rest hk
    obtain ⟨v13, v16, v17, v18, b22, O, ht, hs⟩ := hI
    obtain ⟨p4_, p3_, _⟩ := hp
    obtain ⟨p2_, p1_, _⟩ := (hcl.get 3 (by decide)) p3_
    obtain ⟨p0_, _⟩ := (hcl.get 1 (by decide)) p1_
    have q6_ : D 6 = false := not_yet (hcl.get 6 (by decide)) 2 5 rfl hD
    have q7_ : D 7 = false := not_yet (hcl.get 7 (by decide)) 0 6 rfl q6_
    have q8_ : D 8 = false := not_yet (hcl.get 8 (by decide)) 0 7 rfl q7_
    have q9_ : D 9 = false := not_yet (hcl.get 9 (by decide)) 0 7 rfl q7_
    have q11_ : D 11 = false := not_yet (hcl.get 11 (by decide)) 1 8 rfl q8_
    have q12_ : D 12 = false := not_yet (hcl.get 12 (by decide)) 0 9 rfl q9_
    have u0_ : upd D 5 0 = D 0 := rfl; have u1_ : upd D 5 1 = D 1 := rfl; have u2_ : upd D 5 2 = D 2 := rfl; have u3_ : upd D 5 3 = D 3 := rfl; have u4_ : upd D 5 4 = D 4 := rfl; have u5_ : upd D 5 5 = true := rfl; have u6_ : upd D 5 6 = D 6 := rfl; have u7_ : upd D 5 7 = D 7 := rfl; have u8_ : upd D 5 8 = D 8 := rfl; have u9_ : upd D 5 9 = D 9 := rfl; have u10_ : upd D 5 10 = D 10 := rfl; have u11_ : upd D 5 11 = D 11 := rfl; have u12_ : upd D 5 12 = D 12 := rfl
    simp only [hD, p0_, p1_, p2_, p3_, p4_, q6_, q7_, q8_, q9_, q11_, q12_, cnd_t, cnd_f, Asc_t, Asc_f] at ht hs
    subst ht
    refine s_call (args := [v4]) rfl rfl (x_call rfl (callFunc_enter Try.func19 rfl rfl) rfl) (laws_toCaseS.calls (a1 := a3) (hs.rd hr2) Hr12) ?_
    intro v13 w hs2
    have hs : St _ [_, _, _, _, _, _, _, _] _ := hs.call hs2
    show G _ _ _ _ [_, _, _, _, _, _, _, _, _, _, _, _, _, _, _, _, _, _, _, _, _, _, _, _, _, _, _, _, _, _, _, _, _, _, _, _, _, _, _, _, _, _, _, _, _, _, _, _, _, _, _, _, _, _, _, _, _, _, _, _, _, _, _, _, _, _, _, _, _, _, _, _, _, _, _, _, _, _, _, _, _, _, _, _, _, _, _, _, _, _, _, _, _, _, _, _, _, _, _, _, _, _, _, _, _, _, _, _, _, _, _, _] _
    have hs := hs.fill 0 rfl
    exact hk _ _ ⟨v13, v16, v17, v18, b22, O, (by simp only [u0_, u1_, u2_, u3_, u4_, u5_, u6_, u7_, u8_, u9_, u10_, u11_, u12_, p0_, p1_, p2_, p3_, p4_, q6_, q7_, q8_, q9_, q11_, q12_, cnd_t, cnd_f, Asc_t, Asc_f]), hs.cast (by first | rfl | simp only [List.take, List.drop, List.cons_append, List.nil_append, List.set_cons_zero, List.set_cons_succ, List.eraseIdx, u0_, u1_, u2_, u3_, u4_, u5_, u6_, u7_, u8_, u9_, u10_, u11_, u12_, p0_, p1_, p2_, p3_, p4_, q6_, q7_, q8_, q9_, q11_, q12_, cnd_t, cnd_f, Asc_t, Asc_f])⟩
   ·
    intro D t w hD hp hcl hI rest hk
    obtain ⟨v13, v16, v17, v18, b22, O, ht, hs⟩ := hI
    obtain ⟨p1_, p3_, p5_, _, _⟩ := hp
    obtain ⟨p4_, _, _⟩ := (hcl.get 5 (by decide)) p5_
    obtain ⟨p2_, _, _⟩ := (hcl.get 3 (by decide)) p3_
    obtain ⟨p0_, _⟩ := (hcl.get 1 (by decide)) p1_
    have q7_ : D 7 = false := not_yet (hcl.get 7 (by decide)) 0 6 rfl hD
    have q8_ : D 8 = false := not_yet (hcl.get 8 (by decide)) 0 7 rfl q7_
    have q9_ : D 9 = false := not_yet (hcl.get 9 (by decide)) 0 7 rfl q7_
    have q11_ : D 11 = false := not_yet (hcl.get 11 (by decide)) 1 8 rfl q8_
    have q12_ : D 12 = false := not_yet (hcl.get 12 (by decide)) 0 9 rfl q9_
    have u0_ : upd D 6 0 = D 0 := rfl; have u1_ : upd D 6 1 = D 1 := rfl; have u2_ : upd D 6 2 = D 2 := rfl; have u3_ : upd D 6 3 = D 3 := rfl; have u4_ : upd D 6 4 = D 4 := rfl; have u5_ : upd D 6 5 = D 5 := rfl; have u6_ : upd D 6 6 = true := rfl; have u7_ : upd D 6 7 = D 7 := rfl; have u8_ : upd D 6 8 = D 8 := rfl; have u9_ : upd D 6 9 = D 9 := rfl; have u10_ : upd D 6 10 = D 10 := rfl; have u11_ : upd D 6 11 = D 11 := rfl; have u12_ : upd D 6 12 = D 12 := rfl
    simp only [hD, p0_, p1_, p2_, p3_, p4_, p5_, q7_, q8_, q9_, q11_, q12_, cnd_t, cnd_f, Asc_t, Asc_f] at ht hs
    subst ht
    refine s_call (args := [Value.agg (enc_S_laws_Task r10).toArray, Value.agg ((encA (encI .i8)) r11).toArray, v13]) rfl rfl (x_call rfl (callFunc_enter Try.func16 rfl rfl) rfl) (spec_SplitCases.calls (a1 := r10) (a2 := r11) (a3 := r12) (hs.row 0 rfl) Hr15) ?_
    rintro _ w ⟨v16, v17, v18, rfl, hs2⟩
    have hs : St _ [_, _, _, _, _, _, _, _, _, _] _ := hs.call hs2
    show G _ _ _ _ [_, _, _, _, _, _, _, _, _, _, _, _, _, _, _, _, _, _, _, _, _, _, _, _, _, _, _, _, _, _, _, _, _, _, _, _, _, _, _, _, _, _, _, _, _, _, _, _, _, _, _, _, _, _, _, _, _, _, _, _, _, _, _, _, _, _, _, _, _, _, _, _, _, _, _, _, _, _, _, _, _, _, _, _, _, _, _, _, _, _, _, _, _, _, _, _, _, _, _, _, _, _, _, _, _, _, _, _, _, _, _, _] _
    have hs := hs.fill 3 rfl
    have hs := hs.fill 3 rfl
    have hs := hs.fill 3 rfl
    exact hk _ _ ⟨v13, v16, v17, v18, b22, O, (by simp only [u0_, u1_, u2_, u3_, u4_, u5_, u6_, u7_, u8_, u9_, u10_, u11_, u12_, p0_, p1_, p2_, p3_, p4_, p5_, q7_, q8_, q9_, q11_, q12_, cnd_t, cnd_f, Asc_t, Asc_f]), hs.cast (by first | rfl | simp only [List.take, List.drop, List.cons_append, List.nil_append, List.set_cons_zero, List.set_cons_succ, List.eraseIdx, u0_, u1_, u2_, u3_, u4_, u5_, u6_, u7_, u8_, u9_, u10_, u11_, u12_, p0_, p1_, p2_, p3_, p4_, p5_, q7_, q8_, q9_, q11_, q12_, cnd_t, cnd_f, Asc_t, Asc_f])⟩
   ·
    intro D t w hD hp hcl hI rest hk
    obtain ⟨v13, v16, v17, v18, b22, O, ht, hs⟩ := hI
    obtain ⟨p6_, _⟩ := hp
    obtain ⟨p1_, p3_, p5_, _, _⟩ := (hcl.get 6 (by decide)) p6_
    obtain ⟨p4_, _, _⟩ := (hcl.get 5 (by decide)) p5_
    obtain ⟨p2_, _, _⟩ := (hcl.get 3 (by decide)) p3_
    obtain ⟨p0_, _⟩ := (hcl.get 1 (by decide)) p1_
    have q8_ : D 8 = false := not_yet (hcl.get 8 (by decide)) 0 7 rfl hD
    have q9_ : D 9 = false := not_yet (hcl.get 9 (by decide)) 0 7 rfl hD
    have q11_ : D 11 = false := not_yet (hcl.get 11 (by decide)) 1 8 rfl q8_
    have q12_ : D 12 = false := not_yet (hcl.get 12 (by decide)) 0 9 rfl q9_
    have u0_ : upd D 7 0 = D 0 := rfl; have u1_ : upd D 7 1 = D 1 := rfl; have u2_ : upd D 7 2 = D 2 := rfl; have u3_ : upd D 7 3 = D 3 := rfl; have u4_ : upd D 7 4 = D 4 := rfl; have u5_ : upd D 7 5 = D 5 := rfl; have u6_ : upd D 7 6 = D 6 := rfl; have u7_ : upd D 7 7 = true := rfl; have u8_ : upd D 7 8 = D 8 := rfl; have u9_ : upd D 7 9 = D 9 := rfl; have u10_ : upd D 7 10 = D 10 := rfl; have u11_ : upd D 7 11 = D 11 := rfl; have u12_ : upd D 7 12 = D 12 := rfl
    simp only [hD, p0_, p1_, p2_, p3_, p4_, p5_, p6_, q8_, q9_, q11_, q12_, cnd_t, cnd_f, Asc_t, Asc_f] at ht hs
    subst ht
    refine g_op (v := Value.tuple #[Value.agg (([v16, v17, v18] : List Value)).toArray, Value.int .i64 r15.2]) rfl rfl rfl ?_
    show G _ _ _ _ [_, _, _, _, _, _, _, _, _, _, _, _, _, _, _, _, _, _, _, _, _, _, _, _, _, _, _, _, _, _, _, _, _, _, _, _, _, _, _, _, _, _, _, _, _, _, _, _, _, _, _, _, _, _, _, _, _, _, _, _, _, _, _, _, _, _, _, _, _, _, _, _, _, _, _, _, _, _, _, _, _, _, _, _, _, _, _, _, _, _, _, _, _, _, _, _, _, _, _, _, _, _, _, _, _, _, _, _, _, _, _, _] _
    exact hk _ _ ⟨v13, v16, v17, v18, b22, O, (by simp only [u0_, u1_, u2_, u3_, u4_, u5_, u6_, u7_, u8_, u9_, u10_, u11_, u12_, p0_, p1_, p2_, p3_, p4_, p5_, p6_, q8_, q9_, q11_, q12_, cnd_t, cnd_f, Asc_t, Asc_f]), hs.cast (by first | rfl | simp only [List.take, List.drop, List.cons_append, List.nil_append, List.set_cons_zero, List.set_cons_succ, List.eraseIdx, u0_, u1_, u2_, u3_, u4_, u5_, u6_, u7_, u8_, u9_, u10_, u11_, u12_, p0_, p1_, p2_, p3_, p4_, p5_, p6_, q8_, q9_, q11_, q12_, cnd_t, cnd_f, Asc_t, Asc_f])⟩
   ·
    intro D t w hD hp hcl hI rest hk
    obtain ⟨v13, v16, v17, v18, b22, O, ht, hs⟩ := hI
    obtain ⟨p7_, _⟩ := hp
    obtain ⟨p6_, _⟩ := (hcl.get 7 (by decide)) p7_
    obtain ⟨p1_, p3_, p5_, _, _⟩ := (hcl.get 6 (by decide)) p6_
    obtain ⟨p4_, _, _⟩ := (hcl.get 5 (by decide)) p5_
    obtain ⟨p2_, _, _⟩ := (hcl.get 3 (by decide)) p3_
    obtain ⟨p0_, _⟩ := (hcl.get 1 (by decide)) p1_
    have q11_ : D 11 = false := not_yet (hcl.get 11 (by decide)) 1 8 rfl hD
    have q12_ : D 12 = false := not_yet (hcl.get 12 (by decide)) 1 11 rfl q11_
    have u0_ : upd D 8 0 = D 0 := rfl; have u1_ : upd D 8 1 = D 1 := rfl; have u2_ : upd D 8 2 = D 2 := rfl; have u3_ : upd D 8 3 = D 3 := rfl; have u4_ : upd D 8 4 = D 4 := rfl; have u5_ : upd D 8 5 = D 5 := rfl; have u6_ : upd D 8 6 = D 6 := rfl; have u7_ : upd D 8 7 = D 7 := rfl; have u8_ : upd D 8 8 = true := rfl; have u9_ : upd D 8 9 = D 9 := rfl; have u10_ : upd D 8 10 = D 10 := rfl; have u11_ : upd D 8 11 = D 11 := rfl; have u12_ : upd D 8 12 = D 12 := rfl
    simp only [hD, p0_, p1_, p2_, p3_, p4_, p5_, p6_, p7_, q11_, q12_, cnd_t, cnd_f, Asc_t, Asc_f] at ht hs
    subst ht
    refine g_op (v := Value.agg (([v16, v17, v18] : List Value)).toArray) rfl rfl rfl ?_
    show G _ _ _ _ [_, _, _, _, _, _, _, _, _, _, _, _, _, _, _, _, _, _, _, _, _, _, _, _, _, _, _, _, _, _, _, _, _, _, _, _, _, _, _, _, _, _, _, _, _, _, _, _, _, _, _, _, _, _, _, _, _, _, _, _, _, _, _, _, _, _, _, _, _, _, _, _, _, _, _, _, _, _, _, _, _, _, _, _, _, _, _, _, _, _, _, _, _, _, _, _, _, _, _, _, _, _, _, _, _, _, _, _, _, _, _, _] _
    exact hk _ _ ⟨v13, v16, v17, v18, b22, O, (by simp only [u0_, u1_, u2_, u3_, u4_, u5_, u6_, u7_, u8_, u9_, u10_, u11_, u12_, p0_, p1_, p2_, p3_, p4_, p5_, p6_, p7_, q11_, q12_, cnd_t, cnd_f, Asc_t, Asc_f]), hs.cast (by first | rfl | simp only [List.take, List.drop, List.cons_append, List.nil_append, List.set_cons_zero, List.set_cons_succ, List.eraseIdx, u0_, u1_, u2_, u3_, u4_, u5_, u6_, u7_, u8_, u9_, u10_, u11_, u12_, p0_, p1_, p2_, p3_, p4_, p5_, p6_, p7_, q11_, q12_, cnd_t, cnd_f, Asc_t, Asc_f])⟩
   ·
    intro D t w hD hp hcl hI rest hk
    obtain ⟨v13, v16, v17, v18, b22, O, ht, hs⟩ := hI
    obtain ⟨p7_, _⟩ := hp
    obtain ⟨p6_, _⟩ := (hcl.get 7 (by decide)) p7_
    obtain ⟨p1_, p3_, p5_, _, _⟩ := (hcl.get 6 (by decide)) p6_
    obtain ⟨p4_, _, _⟩ := (hcl.get 5 (by decide)) p5_
    obtain ⟨p2_, _, _⟩ := (hcl.get 3 (by decide)) p3_
    obtain ⟨p0_, _⟩ := (hcl.get 1 (by decide)) p1_
    have q12_ : D 12 = false := not_yet (hcl.get 12 (by decide)) 0 9 rfl hD
    have u0_ : upd D 9 0 = D 0 := rfl; have u1_ : upd D 9 1 = D 1 := rfl; have u2_ : upd D 9 2 = D 2 := rfl; have u3_ : upd D 9 3 = D 3 := rfl; have u4_ : upd D 9 4 = D 4 := rfl; have u5_ : upd D 9 5 = D 5 := rfl; have u6_ : upd D 9 6 = D 6 := rfl; have u7_ : upd D 9 7 = D 7 := rfl; have u8_ : upd D 9 8 = D 8 := rfl; have u9_ : upd D 9 9 = true := rfl; have u10_ : upd D 9 10 = D 10 := rfl; have u11_ : upd D 9 11 = D 11 := rfl; have u12_ : upd D 9 12 = D 12 := rfl
    simp only [hD, p0_, p1_, p2_, p3_, p4_, p5_, p6_, p7_, q12_, cnd_t, cnd_f, Asc_t, Asc_f] at ht hs
    subst ht
    refine g_op (v := Value.int .i64 r15.2) rfl rfl rfl ?_
    show G _ _ _ _ [_, _, _, _, _, _, _, _, _, _, _, _, _, _, _, _, _, _, _, _, _, _, _, _, _, _, _, _, _, _, _, _, _, _, _, _, _, _, _, _, _, _, _, _, _, _, _, _, _, _, _, _, _, _, _, _, _, _, _, _, _, _, _, _, _, _, _, _, _, _, _, _, _, _, _, _, _, _, _, _, _, _, _, _, _, _, _, _, _, _, _, _, _, _, _, _, _, _, _, _, _, _, _, _, _, _, _, _, _, _, _, _] _
    exact hk _ _ ⟨v13, v16, v17, v18, b22, O, (by simp only [u0_, u1_, u2_, u3_, u4_, u5_, u6_, u7_, u8_, u9_, u10_, u11_, u12_, p0_, p1_, p2_, p3_, p4_, p5_, p6_, p7_, q12_, cnd_t, cnd_f, Asc_t, Asc_f]), hs.cast (by first | rfl | simp only [List.take, List.drop, List.cons_append, List.nil_append, List.set_cons_zero, List.set_cons_succ, List.eraseIdx, u0_, u1_, u2_, u3_, u4_, u5_, u6_, u7_, u8_, u9_, u10_, u11_, u12_, p0_, p1_, p2_, p3_, p4_, p5_, p6_, p7_, q12_, cnd_t, cnd_f, Asc_t, Asc_f])⟩
   ·
    intro D t w hD hp hcl hI rest hk
    obtain ⟨v13, v16, v17, v18, b22, O, ht, hs⟩ := hI
    have q11_ : D 11 = false := not_yet (hcl.get 11 (by decide)) 0 10 rfl hD
    have q12_ : D 12 = false := not_yet (hcl.get 12 (by decide)) 1 11 rfl q11_
    have u0_ : upd D 10 0 = D 0 := rfl; have u1_ : upd D 10 1 = D 1 := rfl; have u2_ : upd D 10 2 = D 2 := rfl; have u3_ : upd D 10 3 = D 3 := rfl; have u4_ : upd D 10 4 = D 4 := rfl; have u5_ : upd D 10 5 = D 5 := rfl; have u6_ : upd D 10 6 = D 6 := rfl; have u7_ : upd D 10 7 = D 7 := rfl; have u8_ : upd D 10 8 = D 8 := rfl; have u9_ : upd D 10 9 = D 9 := rfl; have u10_ : upd D 10 10 = true := rfl; have u11_ : upd D 10 11 = D 11 := rfl; have u12_ : upd D 10 12 = D 12 := rfl
    simp only [hD, q11_, q12_, cnd_t, cnd_f, Asc_t, Asc_f] at ht hs
    subst ht
    refine s_alloc hs rfl rfl (z := (Value.agg #[Value.slice none 0 0, Value.slice none 0 0, Value.slice none 0 0])) (cs := (([Value.slice none 0 0, Value.slice none 0 0, Value.slice none 0 0] : List Value))) rfl (fun _ => rfl) rfl ?_
    intro b22 w hs
    show G _ _ _ _ [_, _, _, _, _, _, _, _, _, _, _, _, _, _, _, _, _, _, _, _, _, _, _, _, _, _, _, _, _, _, _, _, _, _, _, _, _, _, _, _, _, _, _, _, _, _, _, _, _, _, _, _, _, _, _, _, _, _, _, _, _, _, _, _, _, _, _, _, _, _, _, _, _, _, _, _, _, _, _, _, _, _, _, _, _, _, _, _, _, _, _, _, _, _, _, _, _, _, _, _, _, _, _, _, _, _, _, _, _, _, _, _] _
    have hs := hs.fill 4 rfl
    exact hk _ _ ⟨v13, v16, v17, v18, b22, O, (by simp only [u0_, u1_, u2_, u3_, u4_, u5_, u6_, u7_, u8_, u9_, u10_, u11_, u12_, q11_, q12_, cnd_t, cnd_f, Asc_t, Asc_f]), hs.cast (by first | rfl | simp only [List.take, List.drop, List.cons_append, List.nil_append, List.set_cons_zero, List.set_cons_succ, List.eraseIdx, u0_, u1_, u2_, u3_, u4_, u5_, u6_, u7_, u8_, u9_, u10_, u11_, u12_, q11_, q12_, cnd_t, cnd_f, Asc_t, Asc_f])⟩
   ·
    intro D t w hD hp hcl hI rest hk
    obtain ⟨v13, v16, v17, v18, b22, O, ht, hs⟩ := hI
    obtain ⟨p10_, p8_, p6_, p0_, p1_, p2_, p3_, p4_, p5_, _, p7_, _, _, _⟩ := hp
    have q12_ : D 12 = false := not_yet (hcl.get 12 (by decide)) 1 11 rfl hD
    have u0_ : upd D 11 0 = D 0 := rfl; have u1_ : upd D 11 1 = D 1 := rfl; have u2_ : upd D 11 2 = D 2 := rfl; have u3_ : upd D 11 3 = D 3 := rfl; have u4_ : upd D 11 4 = D 4 := rfl; have u5_ : upd D 11 5 = D 5 := rfl; have u6_ : upd D 11 6 = D 6 := rfl; have u7_ : upd D 11 7 = D 7 := rfl; have u8_ : upd D 11 8 = D 8 := rfl; have u9_ : upd D 11 9 = D 9 := rfl; have u10_ : upd D 11 10 = D 10 := rfl; have u11_ : upd D 11 11 = true := rfl; have u12_ : upd D 11 12 = D 12 := rfl
    simp only [hD, p0_, p1_, p2_, p3_, p4_, p5_, p6_, p7_, p8_, p10_, q12_, cnd_t, cnd_f, Asc_t, Asc_f] at ht hs
    subst ht
    have hs := hs.pull 4 rfl
    have hs : St _ [_, _, _, _, _, _, _] _ := hs
    refine s_storeAll (n := 3) hs rfl rfl rfl (vs := (([v16, v17, v18] : List Value))) rfl rfl rfl (fun _ => rfl) rfl (by intro v hv; simp only [List.mem_append, List.mem_cons, List.not_mem_nil, or_false] at hv; repeat (first | (subst hv; first | rfl | exact slOne (hs.row 2 rfl) | exact slOne (hs.row 3 rfl) | exact slOne (hs.row 4 rfl)) | (rcases hv with hv | hv))) ?_
    intro w hs
    show G _ _ _ _ [_, _, _, _, _, _, _, _, _, _, _, _, _, _, _, _, _, _, _, _, _, _, _, _, _, _, _, _, _, _, _, _, _, _, _, _, _, _, _, _, _, _, _, _, _, _, _, _, _, _, _, _, _, _, _, _, _, _, _, _, _, _, _, _, _, _, _, _, _, _, _, _, _, _, _, _, _, _, _, _, _, _, _, _, _, _, _, _, _, _, _, _, _, _, _, _, _, _, _, _, _, _, _, _, _, _, _, _, _, _, _, _] _
    have hs := hs.push 4 (by simp)
    exact hk _ _ ⟨v13, v16, v17, v18, b22, O, (by simp only [u0_, u1_, u2_, u3_, u4_, u5_, u6_, u7_, u8_, u9_, u10_, u11_, u12_, p0_, p1_, p2_, p3_, p4_, p5_, p6_, p7_, p8_, p10_, q12_, cnd_t, cnd_f, Asc_t, Asc_f]), hs.cast (by first | rfl | simp only [List.take, List.drop, List.cons_append, List.nil_append, List.set_cons_zero, List.set_cons_succ, List.eraseIdx, u0_, u1_, u2_, u3_, u4_, u5_, u6_, u7_, u8_, u9_, u10_, u11_, u12_, p0_, p1_, p2_, p3_, p4_, p5_, p6_, p7_, p8_, p10_, q12_, cnd_t, cnd_f, Asc_t, Asc_f])⟩
   ·
    intro D t w hD hp hcl hI rest hk
    obtain ⟨v13, v16, v17, v18, b22, O, ht, hs⟩ := hI
    obtain ⟨p9_, p11_, p0_, p1_, p2_, p3_, p4_, p5_, p6_, p7_, p8_, _, p10_, _, _⟩ := hp
    have u0_ : upd D 12 0 = D 0 := rfl; have u1_ : upd D 12 1 = D 1 := rfl; have u2_ : upd D 12 2 = D 2 := rfl; have u3_ : upd D 12 3 = D 3 := rfl; have u4_ : upd D 12 4 = D 4 := rfl; have u5_ : upd D 12 5 = D 5 := rfl; have u6_ : upd D 12 6 = D 6 := rfl; have u7_ : upd D 12 7 = D 7 := rfl; have u8_ : upd D 12 8 = D 8 := rfl; have u9_ : upd D 12 9 = D 9 := rfl; have u10_ : upd D 12 10 = D 10 := rfl; have u11_ : upd D 12 11 = D 11 := rfl; have u12_ : upd D 12 12 = true := rfl
    simp only [hD, p0_, p1_, p2_, p3_, p4_, p5_, p6_, p7_, p8_, p9_, p10_, p11_, cnd_t, cnd_f, Asc_t, Asc_f] at ht hs
    subst ht
    refine g_op (v := Value.int .i64 r15.2) rfl rfl rfl ?_
    show G _ _ _ _ [_, _, _, _, _, _, _, _, _, _, _, _, _, _, _, _, _, _, _, _, _, _, _, _, _, _, _, _, _, _, _, _, _, _, _, _, _, _, _, _, _, _, _, _, _, _, _, _, _, _, _, _, _, _, _, _, _, _, _, _, _, _, _, _, _, _, _, _, _, _, _, _, _, _, _, _, _, _, _, _, _, _, _, _, _, _, _, _, _, _, _, _, _, _, _, _, _, _, _, _, _, _, _, _, _, _, _, _, _, _, _, _] _
    exact hk _ _ ⟨v13, v16, v17, v18, b22, O, (by simp only [u0_, u1_, u2_, u3_, u4_, u5_, u6_, u7_, u8_, u9_, u10_, u11_, u12_, p0_, p1_, p2_, p3_, p4_, p5_, p6_, p7_, p8_, p9_, p10_, p11_, cnd_t, cnd_f, Asc_t, Asc_f]), hs.cast (by first | rfl | simp only [List.take, List.drop, List.cons_append, List.nil_append, List.set_cons_zero, List.set_cons_succ, List.eraseIdx, u0_, u1_, u2_, u3_, u4_, u5_, u6_, u7_, u8_, u9_, u10_, u11_, u12_, p0_, p1_, p2_, p3_, p4_, p5_, p6_, p7_, p8_, p9_, p10_, p11_, cnd_t, cnd_f, Asc_t, Asc_f])⟩
   ·
    intro D t w hall hI
    obtain ⟨v13, v16, v17, v18, b22, O, ht, hs⟩ := hI
    have p0_ : D 0 = true := hall 0 (by decide)
    have p1_ : D 1 = true := hall 1 (by decide)
    have p2_ : D 2 = true := hall 2 (by decide)
    have p3_ : D 3 = true := hall 3 (by decide)
    have p4_ : D 4 = true := hall 4 (by decide)
    have p5_ : D 5 = true := hall 5 (by decide)
    have p6_ : D 6 = true := hall 6 (by decide)
    have p7_ : D 7 = true := hall 7 (by decide)
    have p8_ : D 8 = true := hall 8 (by decide)
    have p9_ : D 9 = true := hall 9 (by decide)
    have p10_ : D 10 = true := hall 10 (by decide)
    have p11_ : D 11 = true := hall 11 (by decide)
    have p12_ : D 12 = true := hall 12 (by decide)
    simp only [p0_, p1_, p2_, p3_, p4_, p5_, p6_, p7_, p8_, p9_, p10_, p11_, p12_, cnd_t, cnd_f, Asc_t, Asc_f] at ht hs
    subst ht
    refine g_seq ?_
    refine g_region ?_
    show G _ _ _ (.inRegion _ [0, 1, 2] :: _) _ _
    refine g_op (v := v4) rfl rfl rfl ?_
    obtain ⟨r29, Hr29, H⟩ := bind_get H
    refine s_call (args := [v4]) rfl rfl (x_call rfl (callFunc_enter Try.func19 rfl rfl) rfl) (laws_toCaseS.calls (a1 := a3) (hs.rd hr2) Hr29) ?_
    intro v30 w hs2
    have hs : St _ [_, _, _, _, _, _, _, _] _ := hs.call hs2
    show G _ _ _ _ [_, _, _, _, _, _, _, _, _, _, _, _, _, _, _, _, _, _, _, _, _, _, _, _, _, _, _, _, _, _, _, _, _, _, _, _, _, _, _, _, _, _, _, _, _, _, _, _, _, _, _, _, _, _, _, _, _, _, _, _, _, _, _, _, _, _, _, _, _, _, _, _, _, _, _, _, _, _, _, _, _, _, _, _, _, _, _, _, _, _, _, _, _, _, _, _, _, _, _, _, _, _, _, _, _, _, _, _, _, _, _, _] _
    refine g_op (v := v30) rfl rfl rfl ?_
    show G _ _ _ _ [_, _, _, _, _, _, _, _, _, _, _, _, _, _, _, _, _, _, _, _, _, _, _, _, _, _, _, _, _, _, _, _, _, _, _, _, _, _, _, _, _, _, _, _, _, _, _, _, _, _, _, _, _, _, _, _, _, _, _, _, _, _, _, _, _, _, _, _, _, _, _, _, _, _, _, _, _, _, _, _, _, _, _, _, _, _, _, _, _, _, _, _, _, _, _, _, _, _, _, _, _, _, _, _, _, _, _, _, _, _, _, _] _
    refine g_ops_nil ?_
    refine g_seq ?_
    obtain ⟨r32, Hr32, H⟩ := bind_get H
    obtain ⟨r33, Hr33, H⟩ := bind_get H
    obtain ⟨r34, Hr34, H⟩ := bind_get H
    refine g_name ?_
    intro T hT
    refine g_any (n := 12) rfl [0, 1, 2, 3, 4, 5, 6, 7, 8, 9, 10, 11] [0, 1, 2, 3, 4, 5, 6, 7, 10, 8, 9, 11] rfl rfl (Inv := fun D t w => ∃ v35 : Value, ∃ v36 : Value, ∃ v37 : Value, ∃ b41 : Nat, ∃ O : Nat → Value, t = [Value.agg (enc_S_laws_Task a1).toArray, Value.agg ((encA (encI .i8)) a2).toArray, v4, Value.pointer (some ⟨b5, 0, none⟩), Value.pointer (some ⟨b7, 0, none⟩), O 5, Value.bool false, Value.int .i64 r9, Value.pointer (some ⟨b22, 0, none⟩), Value.int .i64 r15.2, v30, cnd (D 9) (Value.pointer (some ⟨b41, 0, none⟩)) (O 11), cnd (D 11) (Value.int .i64 r34.2) (O 12), O 13, O 14, O 15, O 16, O 17, v4, Value.int .i64 1048576, Value.int .i64 r9, Value.int .i64 r9, Value.bool false, Value.tuple #[Value.agg (([v16, v17, v18] : List Value)).toArray, Value.int .i64 r15.2], Value.agg (enc_S_laws_Task a1).toArray, Value.agg (enc_S_laws_Task r10).toArray, Value.agg ((encA (encI .i8)) a2).toArray, Value.agg ((encA (encI .i8)) r11).toArray, v4, v13, Value.tuple #[Value.agg (([v16, v17, v18] : List Value)).toArray, Value.int .i64 r15.2], Value.agg (([v16, v17, v18] : List Value)).toArray, Value.int .i64 r15.2, v4, v30, cnd (D 6) (Value.tuple #[Value.agg (([v35, v36, v37] : List Value)).toArray, Value.int .i64 r34.2]) (O 35), cnd (D 0) (Value.agg (enc_S_laws_Task a1).toArray) (O 36), cnd (D 1) (Value.agg (enc_S_laws_Task r32).toArray) (O 37), cnd (D 2) (Value.agg ((encA (encI .i8)) a2).toArray) (O 38), cnd (D 3) (Value.agg ((encA (encI .i8)) r33).toArray) (O 39), cnd (D 4) v30 (O 40), cnd (D 5) (Value.tuple #[Value.agg (([v35, v36, v37] : List Value)).toArray, Value.int .i64 r34.2]) (O 41), cnd (D 7) (Value.agg (([v35, v36, v37] : List Value)).toArray) (O 42), cnd (D 8) (Value.int .i64 r34.2) (O 43), O 44, O 45, O 46, O 47, O 48, O 49, O 50, O 51, O 52, O 53, O 54, O 55, O 56, O 57, O 58, O 59, O 60, O 61, O 62, O 63, O 64, O 65, O 66, O 67, O 68, O 69, O 70, O 71, O 72, O 73, O 74, O 75, O 76, O 77, O 78, O 79, O 80, O 81, O 82, O 83, O 84, O 85, O 86, O 87, O 88, O 89, O 90, O 91, O 92, O 93, O 94, O 95, O 96, O 97, O 98, O 99, O 100, O 101, O 102, O 103, O 104, O 105, O 106, O 107, O 108, O 109, O 110, O 111] ∧ St w0 [Asc (D 5) (Row 84 k_S_impl_Case v35 (r34.1.get 0 [])), Asc (D 5) (Row 84 k_S_impl_Case v36 (r34.1.get 1 [])), Asc (D 5) (Row 84 k_S_impl_Case v37 (r34.1.get 2 [])), Asc (D 9) (Cells b41 (cnd (D 10) (([v35, v36, v37] : List Value)) (([Value.slice none 0 0, Value.slice none 0 0, Value.slice none 0 0] : List Value))) 47), Row 84 k_S_impl_Case v30 r29, Row 84 k_S_impl_Case v13 r12, Row 84 k_S_impl_Case v16 (r15.1.get 0 []), Row 84 k_S_impl_Case v17 (r15.1.get 1 []), Row 84 k_S_impl_Case v18 (r15.1.get 2 []), Cells b22 (([v16, v17, v18] : List Value)) 47, Cells b7 ((encA (encI .i8)) a2) 43, Cells b5 (enc_S_laws_Task a1) 42] w) ?_ ⟨⟨⟨⟨⟨⟨⟨⟨⟨⟨⟨⟨trivial, ?_⟩, ?_⟩, ?_⟩, ?_⟩, ?_⟩, ?_⟩, ?_⟩, ?_⟩, ?_⟩, ?_⟩, ?_⟩, ?_⟩ ?_
    ·
     intro w hh hbw
     have hs := hs.samew hh hbw
     have hs := hs.emp
     have hs := hs.emp
     have hs := hs.emp
     have hs := hs.emp
     exact ⟨undef, undef, undef, 0, fun i => T.getD i undef, (by subst hT; rfl), hs⟩
    ·
     intro D t w hD hp hcl hI rest hk
     obtain ⟨v35, v36, v37, b41, O, ht, hs⟩ := hI
     have q1_ : D 1 = false := not_yet (hcl.get 1 (by decide)) 0 0 rfl hD
     have q3_ : D 3 = false := not_yet (hcl.get 3 (by decide)) 1 1 rfl q1_
     have q5_ : D 5 = false := not_yet (hcl.get 5 (by decide)) 0 1 rfl q1_
     have q6_ : D 6 = false := not_yet (hcl.get 6 (by decide)) 0 5 rfl q5_
     have q7_ : D 7 = false := not_yet (hcl.get 7 (by decide)) 0 6 rfl q6_
     have q8_ : D 8 = false := not_yet (hcl.get 8 (by decide)) 0 6 rfl q6_
     have q10_ : D 10 = false := not_yet (hcl.get 10 (by decide)) 1 7 rfl q7_
     have q11_ : D 11 = false := not_yet (hcl.get 11 (by decide)) 0 8 rfl q8_
     have u0_ : upd D 0 0 = true := rfl; have u1_ : upd D 0 1 = D 1 := rfl; have u2_ : upd D 0 2 = D 2 := rfl; have u3_ : upd D 0 3 = D 3 := rfl; have u4_ : upd D 0 4 = D 4 := rfl; have u5_ : upd D 0 5 = D 5 := rfl; have u6_ : upd D 0 6 = D 6 := rfl; have u7_ : upd D 0 7 = D 7 := rfl; have u8_ : upd D 0 8 = D 8 := rfl; have u9_ : upd D 0 9 = D 9 := rfl; have u10_ : upd D 0 10 = D 10 := rfl; have u11_ : upd D 0 11 = D 11 := rfl
     simp only [hD, q1_, q3_, q5_, q6_, q7_, q8_, q10_, q11_, cnd_t, cnd_f, Asc_t, Asc_f] at ht hs
     subst ht
     refine s_loadA rfl rfl (es := (enc_S_laws_Task a1)) rfl rfl (fun _ => rfl) (n := 4) (fun _ => rfl) (fk_S_laws_Task.len _) (cells_all (hs.cells 11 rfl)) ?_
     show G _ _ _ _ [_, _, _, _, _, _, _, _, _, _, _, _, _, _, _, _, _, _, _, _, _, _, _, _, _, _, _, _, _, _, _, _, _, _, _, _, _, _, _, _, _, _, _, _, _, _, _, _, _, _, _, _, _, _, _, _, _, _, _, _, _, _, _, _, _, _, _, _, _, _, _, _, _, _, _, _, _, _, _, _, _, _, _, _, _, _, _, _, _, _, _, _, _, _, _, _, _, _, _, _, _, _, _, _, _, _, _, _, _, _, _, _] _
     exact hk _ _ ⟨v35, v36, v37, b41, O, (by simp only [u0_, u1_, u2_, u3_, u4_, u5_, u6_, u7_, u8_, u9_, u10_, u11_, q1_, q3_, q5_, q6_, q7_, q8_, q10_, q11_, cnd_t, cnd_f, Asc_t, Asc_f]), hs.cast (by first | rfl | simp only [List.take, List.drop, List.cons_append, List.nil_append, List.set_cons_zero, List.set_cons_succ, List.eraseIdx, u0_, u1_, u2_, u3_, u4_, u5_, u6_, u7_, u8_, u9_, u10_, u11_, q1_, q3_, q5_, q6_, q7_, q8_, q10_, q11_, cnd_t, cnd_f, Asc_t, Asc_f])⟩
    ·
     intro D t w hD hp hcl hI rest hk
     obtain ⟨v35, v36, v37, b41, O, ht, hs⟩ := hI
     obtain ⟨p0_, _⟩ := hp
     have q3_ : D 3 = false := not_yet (hcl.get 3 (by decide)) 1 1 rfl hD
     have q5_ : D 5 = false := not_yet (hcl.get 5 (by decide)) 0 1 rfl hD
     have q6_ : D 6 = false := not_yet (hcl.get 6 (by decide)) 0 5 rfl q5_
     have q7_ : D 7 = false := not_yet (hcl.get 7 (by decide)) 0 6 rfl q6_
     have q8_ : D 8 = false := not_yet (hcl.get 8 (by decide)) 0 6 rfl q6_
     have q10_ : D 10 = false := not_yet (hcl.get 10 (by decide)) 1 7 rfl q7_
     have q11_ : D 11 = false := not_yet (hcl.get 11 (by decide)) 0 8 rfl q8_
     have u0_ : upd D 1 0 = D 0 := rfl; have u1_ : upd D 1 1 = true := rfl; have u2_ : upd D 1 2 = D 2 := rfl; have u3_ : upd D 1 3 = D 3 := rfl; have u4_ : upd D 1 4 = D 4 := rfl; have u5_ : upd D 1 5 = D 5 := rfl; have u6_ : upd D 1 6 = D 6 := rfl; have u7_ : upd D 1 7 = D 7 := rfl; have u8_ : upd D 1 8 = D 8 := rfl; have u9_ : upd D 1 9 = D 9 := rfl; have u10_ : upd D 1 10 = D 10 := rfl; have u11_ : upd D 1 11 = D 11 := rfl
     simp only [hD, p0_, q3_, q5_, q6_, q7_, q8_, q10_, q11_, cnd_t, cnd_f, Asc_t, Asc_f] at ht hs
     subst ht
     refine s_call (args := [Value.agg (enc_S_laws_Task a1).toArray]) rfl rfl (x_call rfl (callFunc_enter Try.func17 rfl rfl) rfl) (laws_toTask.calls (a1 := a1) Hr32) ?_
     rintro _ w ⟨rfl, hs2⟩
     have hs : St _ [_, _, _, _, _, _, _, _, _, _, _, _] _ := hs.call hs2
     show G _ _ _ _ [_, _, _, _, _, _, _, _, _, _, _, _, _, _, _, _, _, _, _, _, _, _, _, _, _, _, _, _, _, _, _, _, _, _, _, _, _, _, _, _, _, _, _, _, _, _, _, _, _, _, _, _, _, _, _, _, _, _, _, _, _, _, _, _, _, _, _, _, _, _, _, _, _, _, _, _, _, _, _, _, _, _, _, _, _, _, _, _, _, _, _, _, _, _, _, _, _, _, _, _, _, _, _, _, _, _, _, _, _, _, _, _] _
     exact hk _ _ ⟨v35, v36, v37, b41, O, (by simp only [u0_, u1_, u2_, u3_, u4_, u5_, u6_, u7_, u8_, u9_, u10_, u11_, p0_, q3_, q5_, q6_, q7_, q8_, q10_, q11_, cnd_t, cnd_f, Asc_t, Asc_f]), hs.cast (by first | rfl | simp only [List.take, List.drop, List.cons_append, List.nil_append, List.set_cons_zero, List.set_cons_succ, List.eraseIdx, u0_, u1_, u2_, u3_, u4_, u5_, u6_, u7_, u8_, u9_, u10_, u11_, p0_, q3_, q5_, q6_, q7_, q8_, q10_, q11_, cnd_t, cnd_f, Asc_t, Asc_f])⟩
    ·
     intro D t w hD hp hcl hI rest hk
     obtain ⟨v35, v36, v37, b41, O, ht, hs⟩ := hI
     have q3_ : D 3 = false := not_yet (hcl.get 3 (by decide)) 0 2 rfl hD
     have q5_ : D 5 = false := not_yet (hcl.get 5 (by decide)) 1 3 rfl q3_
     have q6_ : D 6 = false := not_yet (hcl.get 6 (by decide)) 0 5 rfl q5_
     have q7_ : D 7 = false := not_yet (hcl.get 7 (by decide)) 0 6 rfl q6_
     have q8_ : D 8 = false := not_yet (hcl.get 8 (by decide)) 0 6 rfl q6_
     have q10_ : D 10 = false := not_yet (hcl.get 10 (by decide)) 1 7 rfl q7_
     have q11_ : D 11 = false := not_yet (hcl.get 11 (by decide)) 0 8 rfl q8_
     have u0_ : upd D 2 0 = D 0 := rfl; have u1_ : upd D 2 1 = D 1 := rfl; have u2_ : upd D 2 2 = true := rfl; have u3_ : upd D 2 3 = D 3 := rfl; have u4_ : upd D 2 4 = D 4 := rfl; have u5_ : upd D 2 5 = D 5 := rfl; have u6_ : upd D 2 6 = D 6 := rfl; have u7_ : upd D 2 7 = D 7 := rfl; have u8_ : upd D 2 8 = D 8 := rfl; have u9_ : upd D 2 9 = D 9 := rfl; have u10_ : upd D 2 10 = D 10 := rfl; have u11_ : upd D 2 11 = D 11 := rfl
     simp only [hD, q3_, q5_, q6_, q7_, q8_, q10_, q11_, cnd_t, cnd_f, Asc_t, Asc_f] at ht hs
     subst ht
     refine s_loadA rfl rfl (es := ((encA (encI .i8)) a2)) rfl rfl (fun _ => rfl) (n := 14) (fun _ => rfl) ((fkA (n := 14) (he := (fkI .i8).len) (h1 := (fkI .i8).one)).len _) (cells_all (hs.cells 10 rfl)) ?_
     show G _ _ _ _ [_, _, _, _, _, _, _, _, _, _, _, _, _, _, _, _, _, _, _, _, _, _, _, _, _, _, _, _, _, _, _, _, _, _, _, _, _, _, _, _, _, _, _, _, _, _, _, _, _, _, _, _, _, _, _, _, _, _, _, _, _, _, _, _, _, _, _, _, _, _, _, _, _, _, _, _, _, _, _, _, _, _, _, _, _, _, _, _, _, _, _, _, _, _, _, _, _, _, _, _, _, _, _, _, _, _, _, _, _, _, _, _] _
     exact hk _ _ ⟨v35, v36, v37, b41, O, (by simp only [u0_, u1_, u2_, u3_, u4_, u5_, u6_, u7_, u8_, u9_, u10_, u11_, q3_, q5_, q6_, q7_, q8_, q10_, q11_, cnd_t, cnd_f, Asc_t, Asc_f]), hs.cast (by first | rfl | simp only [List.take, List.drop, List.cons_append, List.nil_append, List.set_cons_zero, List.set_cons_succ, List.eraseIdx, u0_, u1_, u2_, u3_, u4_, u5_, u6_, u7_, u8_, u9_, u10_, u11_, q3_, q5_, q6_, q7_, q8_, q10_, q11_, cnd_t, cnd_f, Asc_t, Asc_f])⟩
    ·
     intro D t w hD hp hcl hI rest hk
     obtain ⟨v35, v36, v37, b41, O, ht, hs⟩ := hI
     obtain ⟨p2_, p1_, _⟩ := hp
     obtain ⟨p0_, _⟩ := (hcl.get 1 (by decide)) p1_
     have q5_ : D 5 = false := not_yet (hcl.get 5 (by decide)) 1 3 rfl hD
     have q6_ : D 6 = false := not_yet (hcl.get 6 (by decide)) 0 5 rfl q5_
     have q7_ : D 7 = false := not_yet (hcl.get 7 (by decide)) 0 6 rfl q6_
     have q8_ : D 8 = false := not_yet (hcl.get 8 (by decide)) 0 6 rfl q6_
     have q10_ : D 10 = false := not_yet (hcl.get 10 (by decide)) 1 7 rfl q7_
     have q11_ : D 11 = false := not_yet (hcl.get 11 (by decide)) 0 8 rfl q8_
     have u0_ : upd D 3 0 = D 0 := rfl; have u1_ : upd D 3 1 = D 1 := rfl; have u2_ : upd D 3 2 = D 2 := rfl; have u3_ : upd D 3 3 = true := rfl; have u4_ : upd D 3 4 = D 4 := rfl; have u5_ : upd D 3 5 = D 5 := rfl; have u6_ : upd D 3 6 = D 6 := rfl; have u7_ : upd D 3 7 = D 7 := rfl; have u8_ : upd D 3 8 = D 8 := rfl; have u9_ : upd D 3 9 = D 9 := rfl; have u10_ : upd D 3 10 = D 10 := rfl; have u11_ : upd D 3 11 = D 11 := rfl
     simp only [hD, p0_, p1_, p2_, q5_, q6_, q7_, q8_, q10_, q11_, cnd_t, cnd_f, Asc_t, Asc_f] at ht hs
     subst ht
     refine s_call (args := [Value.agg ((encA (encI .i8)) a2).toArray]) rfl rfl (x_call rfl (callFunc_enter Try.func18 rfl rfl) rfl) (laws_toWeighing.calls (a1 := a2) Hr33) ?_
     rintro _ w ⟨rfl, hs2⟩
     have hs : St _ [_, _, _, _, _, _, _, _, _, _, _, _] _ := hs.call hs2
     show G _ _ _ _ [_, _, _, _, _, _, _, _, _, _, _, _, _, _, _, _, _, _, _, _, _, _, _, _, _, _, _, _, _, _, _, _, _, _, _, _, _, _, _, _, _, _, _, _, _, _, _, _, _, _, _, _, _, _, _, _, _, _, _, _, _, _, _, _, _, _, _, _, _, _, _, _, _, _, _, _, _, _, _, _, _, _, _, _, _, _, _, _, _, _, _, _, _, _, _, _, _, _, _, _, _, _, _, _, _, _, _, _, _, _, _, _] _
     exact hk _ _ ⟨v35, v36, v37, b41, O, (by simp only [u0_, u1_, u2_, u3_, u4_, u5_, u6_, u7_, u8_, u9_, u10_, u11_, p0_, p1_, p2_, q5_, q6_, q7_, q8_, q10_, q11_, cnd_t, cnd_f, Asc_t, Asc_f]), hs.cast (by first | rfl | simp only [List.take, List.drop, List.cons_append, List.nil_append, List.set_cons_zero, List.set_cons_succ, List.eraseIdx, u0_, u1_, u2_, u3_, u4_, u5_, u6_, u7_, u8_, u9_, u10_, u11_, p0_, p1_, p2_, q5_, q6_, q7_, q8_, q10_, q11_, cnd_t, cnd_f, Asc_t, Asc_f])⟩
    ·
     intro D t w hD hp hcl hI rest hk
     obtain ⟨v35, v36, v37, b41, O, ht, hs⟩ := hI
     have q5_ : D 5 = false := not_yet (hcl.get 5 (by decide)) 2 4 rfl hD
     have q6_ : D 6 = false := not_yet (hcl.get 6 (by decide)) 0 5 rfl q5_
     have q7_ : D 7 = false := not_yet (hcl.get 7 (by decide)) 0 6 rfl q6_
     have q8_ : D 8 = false := not_yet (hcl.get 8 (by decide)) 0 6 rfl q6_
     have q10_ : D 10 = false := not_yet (hcl.get 10 (by decide)) 1 7 rfl q7_
     have q11_ : D 11 = false := not_yet (hcl.get 11 (by decide)) 0 8 rfl q8_
     have u0_ : upd D 4 0 = D 0 := rfl; have u1_ : upd D 4 1 = D 1 := rfl; have u2_ : upd D 4 2 = D 2 := rfl; have u3_ : upd D 4 3 = D 3 := rfl; have u4_ : upd D 4 4 = true := rfl; have u5_ : upd D 4 5 = D 5 := rfl; have u6_ : upd D 4 6 = D 6 := rfl; have u7_ : upd D 4 7 = D 7 := rfl; have u8_ : upd D 4 8 = D 8 := rfl; have u9_ : upd D 4 9 = D 9 := rfl; have u10_ : upd D 4 10 = D 10 := rfl; have u11_ : upd D 4 11 = D 11 := rfl
     simp only [hD, q5_, q6_, q7_, q8_, q10_, q11_, cnd_t, cnd_f, Asc_t, Asc_f] at ht hs
     subst ht
     refine g_op (v := v30) rfl rfl rfl ?_
     show G _ _ _ _ [_, _, _, _, _, _, _, _, _, _, _, _, _, _, _, _, _, _, _, _, _, _, _, _, _, _, _, _, _, _, _, _, _, _, _, _, _, _, _, _, _, _, _, _, _, _, _, _, _, _, _, _, _, _, _, _, _, _, _, _, _, _, _, _, _, _, _, _, _, _, _, _, _, _, _, _, _, _, _, _, _, _, _, _, _, _, _, _, _, _, _, _, _, _, _, _, _, _, _, _, _, _, _, _, _, _, _, _, _, _, _, _] _
     exact hk _ _ ⟨v35, v36, v37, b41, O, (by simp only [u0_, u1_, u2_, u3_, u4_, u5_, u6_, u7_, u8_, u9_, u10_, u11_, q5_, q6_, q7_, q8_, q10_, q11_, cnd_t, cnd_f, Asc_t, Asc_f]), hs.cast (by first | rfl | simp only [List.take, List.drop, List.cons_append, List.nil_append, List.set_cons_zero, List.set_cons_succ, List.eraseIdx, u0_, u1_, u2_, u3_, u4_, u5_, u6_, u7_, u8_, u9_, u10_, u11_, q5_, q6_, q7_, q8_, q10_, q11_, cnd_t, cnd_f, Asc_t, Asc_f])⟩
    ·
     intro D t w hD hp hcl hI rest hk
     obtain ⟨v35, v36, v37, b41, O, ht, hs⟩ := hI
     obtain ⟨p1_, p3_, p4_, _, _⟩ := hp
     obtain ⟨p2_, _, _⟩ := (hcl.get 3 (by decide)) p3_
     obtain ⟨p0_, _⟩ := (hcl.get 1 (by decide)) p1_
     have q6_ : D 6 = false := not_yet (hcl.get 6 (by decide)) 0 5 rfl hD
     have q7_ : D 7 = false := not_yet (hcl.get 7 (by decide)) 0 6 rfl q6_
     have q8_ : D 8 = false := not_yet (hcl.get 8 (by decide)) 0 6 rfl q6_
     have q10_ : D 10 = false := not_yet (hcl.get 10 (by decide)) 1 7 rfl q7_
     have q11_ : D 11 = false := not_yet (hcl.get 11 (by decide)) 0 8 rfl q8_
     have u0_ : upd D 5 0 = D 0 := rfl; have u1_ : upd D 5 1 = D 1 := rfl; have u2_ : upd D 5 2 = D 2 := rfl; have u3_ : upd D 5 3 = D 3 := rfl; have u4_ : upd D 5 4 = D 4 := rfl; have u5_ : upd D 5 5 = true := rfl; have u6_ : upd D 5 6 = D 6 := rfl; have u7_ : upd D 5 7 = D 7 := rfl; have u8_ : upd D 5 8 = D 8 := rfl; have u9_ : upd D 5 9 = D 9 := rfl; have u10_ : upd D 5 10 = D 10 := rfl; have u11_ : upd D 5 11 = D 11 := rfl
     simp only [hD, p0_, p1_, p2_, p3_, p4_, q6_, q7_, q8_, q10_, q11_, cnd_t, cnd_f, Asc_t, Asc_f] at ht hs
     subst ht
     refine s_call (args := [Value.agg (enc_S_laws_Task r32).toArray, Value.agg ((encA (encI .i8)) r33).toArray, v30]) rfl rfl (x_call rfl (callFunc_enter Try.func20 rfl rfl) rfl) (impl_SplitCases.calls (a1 := r32) (a2 := r33) (a3 := r29) (hs.row 4 rfl) Hr34) ?_
     rintro _ w ⟨v35, v36, v37, rfl, hs2⟩
     have hs : St _ [_, _, _, _, _, _, _, _, _, _, _, _, _, _, _] _ := hs.call hs2
     show G _ _ _ _ [_, _, _, _, _, _, _, _, _, _, _, _, _, _, _, _, _, _, _, _, _, _, _, _, _, _, _, _, _, _, _, _, _, _, _, _, _, _, _, _, _, _, _, _, _, _, _, _, _, _, _, _, _, _, _, _, _, _, _, _, _, _, _, _, _, _, _, _, _, _, _, _, _, _, _, _, _, _, _, _, _, _, _, _, _, _, _, _, _, _, _, _, _, _, _, _, _, _, _, _, _, _, _, _, _, _, _, _, _, _, _, _] _
     have hs := hs.fill 2 rfl
     have hs := hs.fill 2 rfl
     have hs := hs.fill 2 rfl
     exact hk _ _ ⟨v35, v36, v37, b41, O, (by simp only [u0_, u1_, u2_, u3_, u4_, u5_, u6_, u7_, u8_, u9_, u10_, u11_, p0_, p1_, p2_, p3_, p4_, q6_, q7_, q8_, q10_, q11_, cnd_t, cnd_f, Asc_t, Asc_f]), hs.cast (by first | rfl | simp only [List.take, List.drop, List.cons_append, List.nil_append, List.set_cons_zero, List.set_cons_succ, List.eraseIdx, u0_, u1_, u2_, u3_, u4_, u5_, u6_, u7_, u8_, u9_, u10_, u11_, p0_, p1_, p2_, p3_, p4_, q6_, q7_, q8_, q10_, q11_, cnd_t, cnd_f, Asc_t, Asc_f])⟩
    ·
     intro D t w hD hp hcl hI rest hk
     obtain ⟨v35, v36, v37, b41, O, ht, hs⟩ := hI
     obtain ⟨p5_, _⟩ := hp
     obtain ⟨p1_, p3_, p4_, _, _⟩ := (hcl.get 5 (by decide)) p5_
     obtain ⟨p2_, _, _⟩ := (hcl.get 3 (by decide)) p3_
     obtain ⟨p0_, _⟩ := (hcl.get 1 (by decide)) p1_
     have q7_ : D 7 = false := not_yet (hcl.get 7 (by decide)) 0 6 rfl hD
     have q8_ : D 8 = false := not_yet (hcl.get 8 (by decide)) 0 6 rfl hD
     have q10_ : D 10 = false := not_yet (hcl.get 10 (by decide)) 1 7 rfl q7_
     have q11_ : D 11 = false := not_yet (hcl.get 11 (by decide)) 0 8 rfl q8_
     have u0_ : upd D 6 0 = D 0 := rfl; have u1_ : upd D 6 1 = D 1 := rfl; have u2_ : upd D 6 2 = D 2 := rfl; have u3_ : upd D 6 3 = D 3 := rfl; have u4_ : upd D 6 4 = D 4 := rfl; have u5_ : upd D 6 5 = D 5 := rfl; have u6_ : upd D 6 6 = true := rfl; have u7_ : upd D 6 7 = D 7 := rfl; have u8_ : upd D 6 8 = D 8 := rfl; have u9_ : upd D 6 9 = D 9 := rfl; have u10_ : upd D 6 10 = D 10 := rfl; have u11_ : upd D 6 11 = D 11 := rfl
     simp only [hD, p0_, p1_, p2_, p3_, p4_, p5_, q7_, q8_, q10_, q11_, cnd_t, cnd_f, Asc_t, Asc_f] at ht hs
     subst ht
     refine g_op (v := Value.tuple #[Value.agg (([v35, v36, v37] : List Value)).toArray, Value.int .i64 r34.2]) rfl rfl rfl ?_
     show G _ _ _ _ [_, _, _, _, _, _, _, _, _, _, _, _, _, _, _, _, _, _, _, _, _, _, _, _, _, _, _, _, _, _, _, _, _, _, _, _, _, _, _, _, _, _, _, _, _, _, _, _, _, _, _, _, _, _, _, _, _, _, _, _, _, _, _, _, _, _, _, _, _, _, _, _, _, _, _, _, _, _, _, _, _, _, _, _, _, _, _, _, _, _, _, _, _, _, _, _, _, _, _, _, _, _, _, _, _, _, _, _, _, _, _, _] _
     exact hk _ _ ⟨v35, v36, v37, b41, O, (by simp only [u0_, u1_, u2_, u3_, u4_, u5_, u6_, u7_, u8_, u9_, u10_, u11_, p0_, p1_, p2_, p3_, p4_, p5_, q7_, q8_, q10_, q11_, cnd_t, cnd_f, Asc_t, Asc_f]), hs.cast (by first | rfl | simp only [List.take, List.drop, List.cons_append, List.nil_append, List.set_cons_zero, List.set_cons_succ, List.eraseIdx, u0_, u1_, u2_, u3_, u4_, u5_, u6_, u7_, u8_, u9_, u10_, u11_, p0_, p1_, p2_, p3_, p4_, p5_, q7_, q8_, q10_, q11_, cnd_t, cnd_f, Asc_t, Asc_f])⟩
    ·
     intro D t w hD hp hcl hI rest hk
     obtain ⟨v35, v36, v37, b41, O, ht, hs⟩ := hI
     obtain ⟨p6_, _⟩ := hp
     obtain ⟨p5_, _⟩ := (hcl.get 6 (by decide)) p6_
     obtain ⟨p1_, p3_, p4_, _, _⟩ := (hcl.get 5 (by decide)) p5_
     obtain ⟨p2_, _, _⟩ := (hcl.get 3 (by decide)) p3_
     obtain ⟨p0_, _⟩ := (hcl.get 1 (by decide)) p1_
     have q10_ : D 10 = false := not_yet (hcl.get 10 (by decide)) 1 7 rfl hD
     have q11_ : D 11 = false := not_yet (hcl.get 11 (by decide)) 1 10 rfl q10_
     have u0_ : upd D 7 0 = D 0 := rfl; have u1_ : upd D 7 1 = D 1 := rfl; have u2_ : upd D 7 2 = D 2 := rfl; have u3_ : upd D 7 3 = D 3 := rfl; have u4_ : upd D 7 4 = D 4 := rfl; have u5_ : upd D 7 5 = D 5 := rfl; have u6_ : upd D 7 6 = D 6 := rfl; have u7_ : upd D 7 7 = true := rfl; have u8_ : upd D 7 8 = D 8 := rfl; have u9_ : upd D 7 9 = D 9 := rfl; have u10_ : upd D 7 10 = D 10 := rfl; have u11_ : upd D 7 11 = D 11 := rfl
     simp only [hD, p0_, p1_, p2_, p3_, p4_, p5_, p6_, q10_, q11_, cnd_t, cnd_f, Asc_t, Asc_f] at ht hs
     subst ht
     refine g_op (v := Value.agg (([v35, v36, v37] : List Value)).toArray) rfl rfl rfl ?_
     show G _ _ _ _ [_, _, _, _, _, _, _, _, _, _, _, _, _, _, _, _, _, _, _, _, _, _, _, _, _, _, _, _, _, _, _, _, _, _, _, _, _, _, _, _, _, _, _, _, _, _, _, _, _, _, _, _, _, _, _, _, _, _, _, _, _, _, _, _, _, _, _, _, _, _, _, _, _, _, _, _, _, _, _, _, _, _, _, _, _, _, _, _, _, _, _, _, _, _, _, _, _, _, _, _, _, _, _, _, _, _, _, _, _, _, _, _] _
     exact hk _ _ ⟨v35, v36, v37, b41, O, (by simp only [u0_, u1_, u2_, u3_, u4_, u5_, u6_, u7_, u8_, u9_, u10_, u11_, p0_, p1_, p2_, p3_, p4_, p5_, p6_, q10_, q11_, cnd_t, cnd_f, Asc_t, Asc_f]), hs.cast (by first | rfl | simp only [List.take, List.drop, List.cons_append, List.nil_append, List.set_cons_zero, List.set_cons_succ, List.eraseIdx, u0_, u1_, u2_, u3_, u4_, u5_, u6_, u7_, u8_, u9_, u10_, u11_, p0_, p1_, p2_, p3_, p4_, p5_, p6_, q10_, q11_, cnd_t, cnd_f, Asc_t, Asc_f])⟩
    ·
     intro D t w hD hp hcl hI rest hk
     obtain ⟨v35, v36, v37, b41, O, ht, hs⟩ := hI
     obtain ⟨p6_, _⟩ := hp
     obtain ⟨p5_, _⟩ := (hcl.get 6 (by decide)) p6_
     obtain ⟨p1_, p3_, p4_, _, _⟩ := (hcl.get 5 (by decide)) p5_
     obtain ⟨p2_, _, _⟩ := (hcl.get 3 (by decide)) p3_
     obtain ⟨p0_, _⟩ := (hcl.get 1 (by decide)) p1_
     have q11_ : D 11 = false := not_yet (hcl.get 11 (by decide)) 0 8 rfl hD
     have u0_ : upd D 8 0 = D 0 := rfl; have u1_ : upd D 8 1 = D 1 := rfl; have u2_ : upd D 8 2 = D 2 := rfl; have u3_ : upd D 8 3 = D 3 := rfl; have u4_ : upd D 8 4 = D 4 := rfl; have u5_ : upd D 8 5 = D 5 := rfl; have u6_ : upd D 8 6 = D 6 := rfl; have u7_ : upd D 8 7 = D 7 := rfl; have u8_ : upd D 8 8 = true := rfl; have u9_ : upd D 8 9 = D 9 := rfl; have u10_ : upd D 8 10 = D 10 := rfl; have u11_ : upd D 8 11 = D 11 := rfl
     simp only [hD, p0_, p1_, p2_, p3_, p4_, p5_, p6_, q11_, cnd_t, cnd_f, Asc_t, Asc_f] at ht hs
     subst ht
     refine g_op (v := Value.int .i64 r34.2) rfl rfl rfl ?_
     show G _ _ _ _ [_, _, _, _, _, _, _, _, _, _, _, _, _, _, _, _, _, _, _, _, _, _, _, _, _, _, _, _, _, _, _, _, _, _, _, _, _, _, _, _, _, _, _, _, _, _, _, _, _, _, _, _, _, _, _, _, _, _, _, _, _, _, _, _, _, _, _, _, _, _, _, _, _, _, _, _, _, _, _, _, _, _, _, _, _, _, _, _, _, _, _, _, _, _, _, _, _, _, _, _, _, _, _, _, _, _, _, _, _, _, _, _] _
     exact hk _ _ ⟨v35, v36, v37, b41, O, (by simp only [u0_, u1_, u2_, u3_, u4_, u5_, u6_, u7_, u8_, u9_, u10_, u11_, p0_, p1_, p2_, p3_, p4_, p5_, p6_, q11_, cnd_t, cnd_f, Asc_t, Asc_f]), hs.cast (by first | rfl | simp only [List.take, List.drop, List.cons_append, List.nil_append, List.set_cons_zero, List.set_cons_succ, List.eraseIdx, u0_, u1_, u2_, u3_, u4_, u5_, u6_, u7_, u8_, u9_, u10_, u11_, p0_, p1_, p2_, p3_, p4_, p5_, p6_, q11_, cnd_t, cnd_f, Asc_t, Asc_f])⟩
    ·
     intro D t w hD hp hcl hI rest hk
     obtain ⟨v35, v36, v37, b41, O, ht, hs⟩ := hI
     have q10_ : D 10 = false := not_yet (hcl.get 10 (by decide)) 0 9 rfl hD
     have q11_ : D 11 = false := not_yet (hcl.get 11 (by decide)) 1 10 rfl q10_
     have u0_ : upd D 9 0 = D 0 := rfl; have u1_ : upd D 9 1 = D 1 := rfl; have u2_ : upd D 9 2 = D 2 := rfl; have u3_ : upd D 9 3 = D 3 := rfl; have u4_ : upd D 9 4 = D 4 := rfl; have u5_ : upd D 9 5 = D 5 := rfl; have u6_ : upd D 9 6 = D 6 := rfl; have u7_ : upd D 9 7 = D 7 := rfl; have u8_ : upd D 9 8 = D 8 := rfl; have u9_ : upd D 9 9 = true := rfl; have u10_ : upd D 9 10 = D 10 := rfl; have u11_ : upd D 9 11 = D 11 := rfl
     simp only [hD, q10_, q11_, cnd_t, cnd_f, Asc_t, Asc_f] at ht hs
     subst ht
     refine s_alloc hs rfl rfl (z := (Value.agg #[Value.slice none 0 0, Value.slice none 0 0, Value.slice none 0 0])) (cs := (([Value.slice none 0 0, Value.slice none 0 0, Value.slice none 0 0] : List Value))) rfl (fun _ => rfl) rfl ?_
     intro b41 w hs
     show G _ _ _ _ [_, _, _, _, _, _, _, _, _, _, _, _, _, _, _, _, _, _, _, _, _, _, _, _, _, _, _, _, _, _, _, _, _, _, _, _, _, _, _, _, _, _, _, _, _, _, _, _, _, _, _, _, _, _, _, _, _, _, _, _, _, _, _, _, _, _, _, _, _, _, _, _, _, _, _, _, _, _, _, _, _, _, _, _, _, _, _, _, _, _, _, _, _, _, _, _, _, _, _, _, _, _, _, _, _, _, _, _, _, _, _, _] _
     have hs := hs.fill 3 rfl
     exact hk _ _ ⟨v35, v36, v37, b41, O, (by simp only [u0_, u1_, u2_, u3_, u4_, u5_, u6_, u7_, u8_, u9_, u10_, u11_, q10_, q11_, cnd_t, cnd_f, Asc_t, Asc_f]), hs.cast (by first | rfl | simp only [List.take, List.drop, List.cons_append, List.nil_append, List.set_cons_zero, List.set_cons_succ, List.eraseIdx, u0_, u1_, u2_, u3_, u4_, u5_, u6_, u7_, u8_, u9_, u10_, u11_, q10_, q11_, cnd_t, cnd_f, Asc_t, Asc_f])⟩
    ·
     intro D t w hD hp hcl hI rest hk
     obtain ⟨v35, v36, v37, b41, O, ht, hs⟩ := hI
     obtain ⟨p9_, p7_, p5_, p0_, p1_, p2_, p3_, p4_, _, p6_, _, _, _⟩ := hp
     have q11_ : D 11 = false := not_yet (hcl.get 11 (by decide)) 1 10 rfl hD
     have u0_ : upd D 10 0 = D 0 := rfl; have u1_ : upd D 10 1 = D 1 := rfl; have u2_ : upd D 10 2 = D 2 := rfl; have u3_ : upd D 10 3 = D 3 := rfl; have u4_ : upd D 10 4 = D 4 := rfl; have u5_ : upd D 10 5 = D 5 := rfl; have u6_ : upd D 10 6 = D 6 := rfl; have u7_ : upd D 10 7 = D 7 := rfl; have u8_ : upd D 10 8 = D 8 := rfl; have u9_ : upd D 10 9 = D 9 := rfl; have u10_ : upd D 10 10 = true := rfl; have u11_ : upd D 10 11 = D 11 := rfl
     simp only [hD, p0_, p1_, p2_, p3_, p4_, p5_, p6_, p7_, p9_, q11_, cnd_t, cnd_f, Asc_t, Asc_f] at ht hs
     subst ht
     have hs := hs.pull 3 rfl
     have hs : St _ [_, _, _, _, _, _, _, _, _, _, _, _] _ := hs
     refine s_storeAll (n := 3) hs rfl rfl rfl (vs := (([v35, v36, v37] : List Value))) rfl rfl rfl (fun _ => rfl) rfl (by intro v hv; simp only [List.mem_append, List.mem_cons, List.not_mem_nil, or_false] at hv; repeat (first | (subst hv; first | rfl | exact slOne (hs.row 1 rfl) | exact slOne (hs.row 2 rfl) | exact slOne (hs.row 3 rfl)) | (rcases hv with hv | hv))) ?_
     intro w hs
     show G _ _ _ _ [_, _, _, _, _, _, _, _, _, _, _, _, _, _, _, _, _, _, _, _, _, _, _, _, _, _, _, _, _, _, _, _, _, _, _, _, _, _, _, _, _, _, _, _, _, _, _, _, _, _, _, _, _, _, _, _, _, _, _, _, _, _, _, _, _, _, _, _, _, _, _, _, _, _, _, _, _, _, _, _, _, _, _, _, _, _, _, _, _, _, _, _, _, _, _, _, _, _, _, _, _, _, _, _, _, _, _, _, _, _, _, _] _
     have hs := hs.push 3 (by simp)
     exact hk _ _ ⟨v35, v36, v37, b41, O, (by simp only [u0_, u1_, u2_, u3_, u4_, u5_, u6_, u7_, u8_, u9_, u10_, u11_, p0_, p1_, p2_, p3_, p4_, p5_, p6_, p7_, p9_, q11_, cnd_t, cnd_f, Asc_t, Asc_f]), hs.cast (by first | rfl | simp only [List.take, List.drop, List.cons_append, List.nil_append, List.set_cons_zero, List.set_cons_succ, List.eraseIdx, u0_, u1_, u2_, u3_, u4_, u5_, u6_, u7_, u8_, u9_, u10_, u11_, p0_, p1_, p2_, p3_, p4_, p5_, p6_, p7_, p9_, q11_, cnd_t, cnd_f, Asc_t, Asc_f])⟩
    ·
     intro D t w hD hp hcl hI rest hk
     obtain ⟨v35, v36, v37, b41, O, ht, hs⟩ := hI
     obtain ⟨p8_, p10_, p0_, p1_, p2_, p3_, p4_, p5_, p6_, p7_, _, p9_, _, _⟩ := hp
     have u0_ : upd D 11 0 = D 0 := rfl; have u1_ : upd D 11 1 = D 1 := rfl; have u2_ : upd D 11 2 = D 2 := rfl; have u3_ : upd D 11 3 = D 3 := rfl; have u4_ : upd D 11 4 = D 4 := rfl; have u5_ : upd D 11 5 = D 5 := rfl; have u6_ : upd D 11 6 = D 6 := rfl; have u7_ : upd D 11 7 = D 7 := rfl; have u8_ : upd D 11 8 = D 8 := rfl; have u9_ : upd D 11 9 = D 9 := rfl; have u10_ : upd D 11 10 = D 10 := rfl; have u11_ : upd D 11 11 = true := rfl
     simp only [hD, p0_, p1_, p2_, p3_, p4_, p5_, p6_, p7_, p8_, p9_, p10_, cnd_t, cnd_f, Asc_t, Asc_f] at ht hs
     subst ht
     refine g_op (v := Value.int .i64 r34.2) rfl rfl rfl ?_
     show G _ _ _ _ [_, _, _, _, _, _, _, _, _, _, _, _, _, _, _, _, _, _, _, _, _, _, _, _, _, _, _, _, _, _, _, _, _, _, _, _, _, _, _, _, _, _, _, _, _, _, _, _, _, _, _, _, _, _, _, _, _, _, _, _, _, _, _, _, _, _, _, _, _, _, _, _, _, _, _, _, _, _, _, _, _, _, _, _, _, _, _, _, _, _, _, _, _, _, _, _, _, _, _, _, _, _, _, _, _, _, _, _, _, _, _, _] _
     exact hk _ _ ⟨v35, v36, v37, b41, O, (by simp only [u0_, u1_, u2_, u3_, u4_, u5_, u6_, u7_, u8_, u9_, u10_, u11_, p0_, p1_, p2_, p3_, p4_, p5_, p6_, p7_, p8_, p9_, p10_, cnd_t, cnd_f, Asc_t, Asc_f]), hs.cast (by first | rfl | simp only [List.take, List.drop, List.cons_append, List.nil_append, List.set_cons_zero, List.set_cons_succ, List.eraseIdx, u0_, u1_, u2_, u3_, u4_, u5_, u6_, u7_, u8_, u9_, u10_, u11_, p0_, p1_, p2_, p3_, p4_, p5_, p6_, p7_, p8_, p9_, p10_, cnd_t, cnd_f, Asc_t, Asc_f])⟩
    ·
     intro D t w hall hI
     obtain ⟨v35, v36, v37, b41, O, ht, hs⟩ := hI
     have p0_ : D 0 = true := hall 0 (by decide)
     have p1_ : D 1 = true := hall 1 (by decide)
     have p2_ : D 2 = true := hall 2 (by decide)
     have p3_ : D 3 = true := hall 3 (by decide)
     have p4_ : D 4 = true := hall 4 (by decide)
     have p5_ : D 5 = true := hall 5 (by decide)
     have p6_ : D 6 = true := hall 6 (by decide)
     have p7_ : D 7 = true := hall 7 (by decide)
     have p8_ : D 8 = true := hall 8 (by decide)
     have p9_ : D 9 = true := hall 9 (by decide)
     have p10_ : D 10 = true := hall 10 (by decide)
     have p11_ : D 11 = true := hall 11 (by decide)
     simp only [p0_, p1_, p2_, p3_, p4_, p5_, p6_, p7_, p8_, p9_, p10_, p11_, cnd_t, cnd_f, Asc_t, Asc_f] at ht hs
     subst ht
     refine g_seq ?_
     refine g_seq ?_
     refine g_region ?_
     show G _ _ _ (.inRegion _ [0, 1, 2, 3, 4, 5, 6, 7, 8] :: _) _ _
     refine s_loadA rfl rfl (es := (([v35, v36, v37] : List Value))) rfl rfl (fun _ => rfl) (n := 3) (fun _ => rfl) rfl (cells_all (hs.cells 3 rfl)) ?_
     show G _ _ _ _ [_, _, _, _, _, _, _, _, _, _, _, _, _, _, _, _, _, _, _, _, _, _, _, _, _, _, _, _, _, _, _, _, _, _, _, _, _, _, _, _, _, _, _, _, _, _, _, _, _, _, _, _, _, _, _, _, _, _, _, _, _, _, _, _, _, _, _, _, _, _, _, _, _, _, _, _, _, _, _, _, _, _, _, _, _, _, _, _, _, _, _, _, _, _, _, _, _, _, _, _, _, _, _, _, _, _, _, _, _, _, _, _] _
     refine s_loadA rfl rfl (es := (([v16, v17, v18] : List Value))) rfl rfl (fun _ => rfl) (n := 3) (fun _ => rfl) rfl (cells_all (hs.cells 9 rfl)) ?_
     show G _ _ _ _ [_, _, _, _, _, _, _, _, _, _, _, _, _, _, _, _, _, _, _, _, _, _, _, _, _, _, _, _, _, _, _, _, _, _, _, _, _, _, _, _, _, _, _, _, _, _, _, _, _, _, _, _, _, _, _, _, _, _, _, _, _, _, _, _, _, _, _, _, _, _, _, _, _, _, _, _, _, _, _, _, _, _, _, _, _, _, _, _, _, _, _, _, _, _, _, _, _, _, _, _, _, _, _, _, _, _, _, _, _, _, _, _] _
     obtain ⟨r47, Hr47, H⟩ := bind_get H
     refine s_call (args := [Value.agg (([v35, v36, v37] : List Value)).toArray, Value.agg (([v16, v17, v18] : List Value)).toArray]) rfl rfl (x_call rfl (callFunc_enter Try.func21 rfl rfl) rfl) (laws_eqCaseSA3.calls (a1 := (⟨[(r34.1.get 0 []), (r34.1.get 1 []), (r34.1.get 2 [])], rfl⟩ : (Ar (List S_impl_Case) 3))) (a8 := (⟨[(r15.1.get 0 []), (r15.1.get 1 []), (r15.1.get 2 [])], rfl⟩ : (Ar (List S_impl_Case) 3))) (hs.row 0 rfl) (hs.row 1 rfl) (hs.row 2 rfl) (hs.row 6 rfl) (hs.row 7 rfl) (hs.row 8 rfl) Hr47) ?_
     rintro _ w ⟨rfl, hs2⟩
     have hs : St _ [_, _, _, _, _, _, _, _, _, _, _, _] _ := hs.call hs2
     cases r47 with
     | true =>
       rw [if_pos rfl] at H
       show G _ _ _ _ [_, _, _, _, _, _, _, _, _, _, _, _, _, _, _, _, _, _, _, _, _, _, _, _, _, _, _, _, _, _, _, _, _, _, _, _, _, _, _, _, _, _, _, _, _, _, _, _, _, _, _, _, _, _, _, _, _, _, _, _, _, _, _, _, _, _, _, _, _, _, _, _, _, _, _, _, _, _, _, _, _, _, _, _, _, _, _, _, _, _, _, _, _, _, _, _, _, _, _, _, _, _, _, _, _, _, _, _, _, _, _, _] _
       refine g_op (v := Value.bool false) rfl rfl rfl ?_
       show G _ _ _ _ [_, _, _, _, _, _, _, _, _, _, _, _, _, _, _, _, _, _, _, _, _, _, _, _, _, _, _, _, _, _, _, _, _, _, _, _, _, _, _, _, _, _, _, _, _, _, _, _, _, _, _, _, _, _, _, _, _, _, _, _, _, _, _, _, _, _, _, _, _, _, _, _, _, _, _, _, _, _, _, _, _, _, _, _, _, _, _, _, _, _, _, _, _, _, _, _, _, _, _, _, _, _, _, _, _, _, _, _, _, _, _, _] _
       refine g_op (v := Value.bool false) rfl rfl rfl ?_
       refine g_op (v := Value.int .i64 r34.2) rfl rfl rfl ?_
       refine g_op (v := Value.int .i64 r15.2) rfl rfl rfl ?_
       refine g_op_b (B := r34.2 != r15.2) rfl rfl rfl ?_ ?_
       ·
        intro hb
        rw [if_neg (b_bne_t hb)] at H
        show G _ _ _ _ [_, _, _, _, _, _, _, _, _, _, _, _, _, _, _, _, _, _, _, _, _, _, _, _, _, _, _, _, _, _, _, _, _, _, _, _, _, _, _, _, _, _, _, _, _, _, _, _, _, _, _, _, _, _, _, _, _, _, _, _, _, _, _, _, _, _, _, _, _, _, _, _, _, _, _, _, _, _, _, _, _, _, _, _, _, _, _, _, _, _, _, _, _, _, _, _, _, _, _, _, _, _, _, _, _, _, _, _, _, _, _, _] _
        refine g_op (v := Value.bool true) rfl rfl rfl ?_
        show G _ _ _ _ [_, _, _, _, _, _, _, _, _, _, _, _, _, _, _, _, _, _, _, _, _, _, _, _, _, _, _, _, _, _, _, _, _, _, _, _, _, _, _, _, _, _, _, _, _, _, _, _, _, _, _, _, _, _, _, _, _, _, _, _, _, _, _, _, _, _, _, _, _, _, _, _, _, _, _, _, _, _, _, _, _, _, _, _, _, _, _, _, _, _, _, _, _, _, _, _, _, _, _, _, _, _, _, _, _, _, _, _, _, _, _, _] _
        refine g_ops_nil ?_
        refine g_cond_true rfl ?_
        refine g_seq ?_
        refine g_region ?_
        show G _ _ _ (.inRegion _ [0] :: _) _ _
        refine g_op (v := Value.bool false) rfl rfl rfl ?_
        show G _ _ _ _ [_, _, _, _, _, _, _, _, _, _, _, _, _, _, _, _, _, _, _, _, _, _, _, _, _, _, _, _, _, _, _, _, _, _, _, _, _, _, _, _, _, _, _, _, _, _, _, _, _, _, _, _, _, _, _, _, _, _, _, _, _, _, _, _, _, _, _, _, _, _, _, _, _, _, _, _, _, _, _, _, _, _, _, _, _, _, _, _, _, _, _, _, _, _, _, _, _, _, _, _, _, _, _, _, _, _, _, _, _, _, _, _] _
        refine g_ops_nil ?_
        obtain rfl := Option.some.inj H
        refine g_ret Try.func5 (v := Value.bool false) (res1 rfl rfl) ?_
        have hs : St _ [] _ := St.take (Γ' := [_, _, _, _, _, _, _, _, _, _, _, _]) hs
        exact ⟨_, rfl, rfl, hs⟩
       ·
        intro hb
        rw [if_pos (b_bne_f hb)] at H
        show G _ _ _ _ [_, _, _, _, _, _, _, _, _, _, _, _, _, _, _, _, _, _, _, _, _, _, _, _, _, _, _, _, _, _, _, _, _, _, _, _, _, _, _, _, _, _, _, _, _, _, _, _, _, _, _, _, _, _, _, _, _, _, _, _, _, _, _, _, _, _, _, _, _, _, _, _, _, _, _, _, _, _, _, _, _, _, _, _, _, _, _, _, _, _, _, _, _, _, _, _, _, _, _, _, _, _, _, _, _, _, _, _, _, _, _, _] _
        refine g_op (v := Value.bool false) rfl rfl rfl ?_
        show G _ _ _ _ [_, _, _, _, _, _, _, _, _, _, _, _, _, _, _, _, _, _, _, _, _, _, _, _, _, _, _, _, _, _, _, _, _, _, _, _, _, _, _, _, _, _, _, _, _, _, _, _, _, _, _, _, _, _, _, _, _, _, _, _, _, _, _, _, _, _, _, _, _, _, _, _, _, _, _, _, _, _, _, _, _, _, _, _, _, _, _, _, _, _, _, _, _, _, _, _, _, _, _, _, _, _, _, _, _, _, _, _, _, _, _, _] _
        refine g_ops_nil ?_
        refine g_cond_false rfl ?_
        refine g_skip ?_
        refine g_seq ?_
        refine g_seq ?_
        refine g_region ?_
        show G _ _ _ (.inRegion _ [0, 1, 2, 3, 4] :: _) _ _
        refine g_op (v := v30) rfl rfl rfl ?_
        refine g_op (v := v4) rfl rfl rfl ?_
        obtain ⟨r48, Hr48, H⟩ := bind_get H
        refine s_call (args := [v4]) rfl rfl (x_call rfl (callFunc_enter Try.func19 rfl rfl) rfl) (laws_toCaseS.calls (a1 := a3) (hs.rd hr2) Hr48) ?_
        intro v49 w hs2
        have hs : St _ [_, _, _, _, _, _, _, _, _, _, _, _, _] _ := hs.call hs2
        show G _ _ _ _ [_, _, _, _, _, _, _, _, _, _, _, _, _, _, _, _, _, _, _, _, _, _, _, _, _, _, _, _, _, _, _, _, _, _, _, _, _, _, _, _, _, _, _, _, _, _, _, _, _, _, _, _, _, _, _, _, _, _, _, _, _, _, _, _, _, _, _, _, _, _, _, _, _, _, _, _, _, _, _, _, _, _, _, _, _, _, _, _, _, _, _, _, _, _, _, _, _, _, _, _, _, _, _, _, _, _, _, _, _, _, _, _] _
        obtain ⟨r51, Hr51, H⟩ := bind_get H
        refine s_call (args := [v30, v49]) rfl rfl (x_call rfl (callFunc_enter Try.func22 rfl rfl) rfl) (laws_eqCaseS.calls (a1 := r29) (a3 := r48) (hs.row 5 rfl) (hs.row 0 rfl) Hr51) ?_
        rintro _ w ⟨rfl, hs2⟩
        have hs : St _ [_, _, _, _, _, _, _, _, _, _, _, _, _] _ := hs.call hs2
        cases r51 with
        | true =>
          rw [if_pos rfl] at H
          show G _ _ _ _ [_, _, _, _, _, _, _, _, _, _, _, _, _, _, _, _, _, _, _, _, _, _, _, _, _, _, _, _, _, _, _, _, _, _, _, _, _, _, _, _, _, _, _, _, _, _, _, _, _, _, _, _, _, _, _, _, _, _, _, _, _, _, _, _, _, _, _, _, _, _, _, _, _, _, _, _, _, _, _, _, _, _, _, _, _, _, _, _, _, _, _, _, _, _, _, _, _, _, _, _, _, _, _, _, _, _, _, _, _, _, _, _] _
          refine g_op (v := Value.bool false) rfl rfl rfl ?_
          show G _ _ _ _ [_, _, _, _, _, _, _, _, _, _, _, _, _, _, _, _, _, _, _, _, _, _, _, _, _, _, _, _, _, _, _, _, _, _, _, _, _, _, _, _, _, _, _, _, _, _, _, _, _, _, _, _, _, _, _, _, _, _, _, _, _, _, _, _, _, _, _, _, _, _, _, _, _, _, _, _, _, _, _, _, _, _, _, _, _, _, _, _, _, _, _, _, _, _, _, _, _, _, _, _, _, _, _, _, _, _, _, _, _, _, _, _] _
          refine g_ops_nil ?_
          refine g_cond_false rfl ?_
          refine g_skip ?_
          refine g_seq ?_
          refine g_region ?_
          show G _ _ _ (.inRegion _ [0] :: _) _ _
          refine g_op (v := Value.int .i64 1) rfl rfl rfl ?_
          show G _ _ _ _ [_, _, _, _, _, _, _, _, _, _, _, _, _, _, _, _, _, _, _, _, _, _, _, _, _, _, _, _, _, _, _, _, _, _, _, _, _, _, _, _, _, _, _, _, _, _, _, _, _, _, _, _, _, _, _, _, _, _, _, _, _, _, _, _, _, _, _, _, _, _, _, _, _, _, _, _, _, _, _, _, _, _, _, _, _, _, _, _, _, _, _, _, _, _, _, _, _, _, _, _, _, _, _, _, _, _, _, _, _, _, _, _] _
          refine g_ops_nil ?_
          refine g_seq ?_
          refine g_region ?_
          show G _ _ _ (.inRegion _ [0, 1, 2, 3] :: _) _ _
          refine g_op (v := v30) rfl rfl rfl ?_
          refine g_op (v := Value.int .i64 1) rfl rfl rfl ?_
          obtain ⟨r52, Hr52, H⟩ := bind_get H
          have hs := hs.pull 5 rfl
          have hs : St _ [_, _, _, _, _, _, _, _, _, _, _, _, _] _ := hs
          have hs := hs.pack 1
          refine s_call (args := [v30, Value.int .i64 1]) rfl rfl (x_call rfl (callFunc_enter Try.func23 rfl rfl) rfl) (laws_markCaseS.calls (a1 := r29) (a4 := 1) hs Hr52) ?_
          rintro _ w ⟨rfl, hs⟩
          have hs := St.unpack (Γ := [_]) hs
          have hs : St _ [_, _, _, _, _, _, _, _, _, _, _, _, _] _ := hs
          show G _ _ _ _ [_, _, _, _, _, _, _, _, _, _, _, _, _, _, _, _, _, _, _, _, _, _, _, _, _, _, _, _, _, _, _, _, _, _, _, _, _, _, _, _, _, _, _, _, _, _, _, _, _, _, _, _, _, _, _, _, _, _, _, _, _, _, _, _, _, _, _, _, _, _, _, _, _, _, _, _, _, _, _, _, _, _, _, _, _, _, _, _, _, _, _, _, _, _, _, _, _, _, _, _, _, _, _, _, _, _, _, _, _, _, _, _] _
          refine g_op (v := Value.int .i64 r52.1) rfl rfl rfl ?_
          show G _ _ _ _ [_, _, _, _, _, _, _, _, _, _, _, _, _, _, _, _, _, _, _, _, _, _, _, _, _, _, _, _, _, _, _, _, _, _, _, _, _, _, _, _, _, _, _, _, _, _, _, _, _, _, _, _, _, _, _, _, _, _, _, _, _, _, _, _, _, _, _, _, _, _, _, _, _, _, _, _, _, _, _, _, _, _, _, _, _, _, _, _, _, _, _, _, _, _, _, _, _, _, _, _, _, _, _, _, _, _, _, _, _, _, _, _] _
          refine g_ops_nil ?_
          refine g_seq ?_
          refine g_seq ?_
          refine g_region ?_
          show G _ _ _ (.inRegion _ [0, 1, 2, 3, 4, 5, 6, 7, 8, 9, 10, 11, 12] :: _) _ _
          refine g_op (v := Value.int .i64 r52.1) rfl rfl rfl ?_
          refine g_op_b (B := decide (r52.1 < 0)) rfl rfl rfl ?_ ?_
          ·
           intro hb
           rw [if_pos (b_dec_t hb)] at H
           show G _ _ _ _ [_, _, _, _, _, _, _, _, _, _, _, _, _, _, _, _, _, _, _, _, _, _, _, _, _, _, _, _, _, _, _, _, _, _, _, _, _, _, _, _, _, _, _, _, _, _, _, _, _, _, _, _, _, _, _, _, _, _, _, _, _, _, _, _, _, _, _, _, _, _, _, _, _, _, _, _, _, _, _, _, _, _, _, _, _, _, _, _, _, _, _, _, _, _, _, _, _, _, _, _, _, _, _, _, _, _, _, _, _, _, _, _] _
           refine g_op (v := Value.bool true) rfl rfl rfl ?_
           refine g_op_not rfl rfl ?_
           show G _ _ _ _ [_, _, _, _, _, _, _, _, _, _, _, _, _, _, _, _, _, _, _, _, _, _, _, _, _, _, _, _, _, _, _, _, _, _, _, _, _, _, _, _, _, _, _, _, _, _, _, _, _, _, _, _, _, _, _, _, _, _, _, _, _, _, _, _, _, _, _, _, _, _, _, _, _, _, _, _, _, _, _, _, _, _, _, _, _, _, _, _, _, _, _, _, _, _, _, _, _, _, _, _, _, _, _, _, _, _, _, _, _, _, _, _] _
           refine g_op_not rfl rfl ?_
           show G _ _ _ _ [_, _, _, _, _, _, _, _, _, _, _, _, _, _, _, _, _, _, _, _, _, _, _, _, _, _, _, _, _, _, _, _, _, _, _, _, _, _, _, _, _, _, _, _, _, _, _, _, _, _, _, _, _, _, _, _, _, _, _, _, _, _, _, _, _, _, _, _, _, _, _, _, _, _, _, _, _, _, _, _, _, _, _, _, _, _, _, _, _, _, _, _, _, _, _, _, _, _, _, _, _, _, _, _, _, _, _, _, _, _, _, _] _
           refine g_op_not rfl rfl ?_
           show G _ _ _ _ [_, _, _, _, _, _, _, _, _, _, _, _, _, _, _, _, _, _, _, _, _, _, _, _, _, _, _, _, _, _, _, _, _, _, _, _, _, _, _, _, _, _, _, _, _, _, _, _, _, _, _, _, _, _, _, _, _, _, _, _, _, _, _, _, _, _, _, _, _, _, _, _, _, _, _, _, _, _, _, _, _, _, _, _, _, _, _, _, _, _, _, _, _, _, _, _, _, _, _, _, _, _, _, _, _, _, _, _, _, _, _, _] _
           refine g_op_not rfl rfl ?_
           show G _ _ _ _ [_, _, _, _, _, _, _, _, _, _, _, _, _, _, _, _, _, _, _, _, _, _, _, _, _, _, _, _, _, _, _, _, _, _, _, _, _, _, _, _, _, _, _, _, _, _, _, _, _, _, _, _, _, _, _, _, _, _, _, _, _, _, _, _, _, _, _, _, _, _, _, _, _, _, _, _, _, _, _, _, _, _, _, _, _, _, _, _, _, _, _, _, _, _, _, _, _, _, _, _, _, _, _, _, _, _, _, _, _, _, _, _] _
           refine g_op (v := Value.bool true) rfl rfl rfl ?_
           show G _ _ _ _ [_, _, _, _, _, _, _, _, _, _, _, _, _, _, _, _, _, _, _, _, _, _, _, _, _, _, _, _, _, _, _, _, _, _, _, _, _, _, _, _, _, _, _, _, _, _, _, _, _, _, _, _, _, _, _, _, _, _, _, _, _, _, _, _, _, _, _, _, _, _, _, _, _, _, _, _, _, _, _, _, _, _, _, _, _, _, _, _, _, _, _, _, _, _, _, _, _, _, _, _, _, _, _, _, _, _, _, _, _, _, _, _] _
           refine g_op (v := Value.bool true) rfl rfl rfl ?_
           refine g_op_not rfl rfl ?_
           refine g_op_not rfl rfl ?_
           refine g_op_not rfl rfl ?_
           show G _ _ _ _ [_, _, _, _, _, _, _, _, _, _, _, _, _, _, _, _, _, _, _, _, _, _, _, _, _, _, _, _, _, _, _, _, _, _, _, _, _, _, _, _, _, _, _, _, _, _, _, _, _, _, _, _, _, _, _, _, _, _, _, _, _, _, _, _, _, _, _, _, _, _, _, _, _, _, _, _, _, _, _, _, _, _, _, _, _, _, _, _, _, _, _, _, _, _, _, _, _, _, _, _, _, _, _, _, _, _, _, _, _, _, _, _] _
           refine g_op (v := Value.bool true) rfl rfl rfl ?_
           show G _ _ _ _ [_, _, _, _, _, _, _, _, _, _, _, _, _, _, _, _, _, _, _, _, _, _, _, _, _, _, _, _, _, _, _, _, _, _, _, _, _, _, _, _, _, _, _, _, _, _, _, _, _, _, _, _, _, _, _, _, _, _, _, _, _, _, _, _, _, _, _, _, _, _, _, _, _, _, _, _, _, _, _, _, _, _, _, _, _, _, _, _, _, _, _, _, _, _, _, _, _, _, _, _, _, _, _, _, _, _, _, _, _, _, _, _] _
           refine g_ops_nil ?_
           refine g_cond_true rfl ?_
           refine g_seq ?_
           refine g_region ?_
           show G _ _ _ (.inRegion _ [0] :: _) _ _
           refine g_op (v := Value.bool false) rfl rfl rfl ?_
           show G _ _ _ _ [_, _, _, _, _, _, _, _, _, _, _, _, _, _, _, _, _, _, _, _, _, _, _, _, _, _, _, _, _, _, _, _, _, _, _, _, _, _, _, _, _, _, _, _, _, _, _, _, _, _, _, _, _, _, _, _, _, _, _, _, _, _, _, _, _, _, _, _, _, _, _, _, _, _, _, _, _, _, _, _, _, _, _, _, _, _, _, _, _, _, _, _, _, _, _, _, _, _, _, _, _, _, _, _, _, _, _, _, _, _, _, _] _
           refine g_ops_nil ?_
           obtain rfl := Option.some.inj H
           refine g_ret Try.func5 (v := Value.bool false) (res1 rfl rfl) ?_
           have hs : St _ [] _ := St.take (Γ' := [_, _, _, _, _, _, _, _, _, _, _, _, _]) hs
           exact ⟨_, rfl, rfl, hs⟩
          ·
           intro hb
           rw [if_neg (b_dec_f hb)] at H
           show G _ _ _ _ [_, _, _, _, _, _, _, _, _, _, _, _, _, _, _, _, _, _, _, _, _, _, _, _, _, _, _, _, _, _, _, _, _, _, _, _, _, _, _, _, _, _, _, _, _, _, _, _, _, _, _, _, _, _, _, _, _, _, _, _, _, _, _, _, _, _, _, _, _, _, _, _, _, _, _, _, _, _, _, _, _, _, _, _, _, _, _, _, _, _, _, _, _, _, _, _, _, _, _, _, _, _, _, _, _, _, _, _, _, _, _, _] _
           refine g_op (v := Value.bool false) rfl rfl rfl ?_
           refine s_loadA rfl rfl (es := (([v35, v36, v37] : List Value))) rfl rfl (fun _ => rfl) (n := 3) (fun _ => rfl) rfl (cells_all (hs.cells 5 rfl)) ?_
           show G _ _ _ _ [_, _, _, _, _, _, _, _, _, _, _, _, _, _, _, _, _, _, _, _, _, _, _, _, _, _, _, _, _, _, _, _, _, _, _, _, _, _, _, _, _, _, _, _, _, _, _, _, _, _, _, _, _, _, _, _, _, _, _, _, _, _, _, _, _, _, _, _, _, _, _, _, _, _, _, _, _, _, _, _, _, _, _, _, _, _, _, _, _, _, _, _, _, _, _, _, _, _, _, _, _, _, _, _, _, _, _, _, _, _, _, _] _
           refine s_loadA rfl rfl (es := (([v16, v17, v18] : List Value))) rfl rfl (fun _ => rfl) (n := 3) (fun _ => rfl) rfl (cells_all (hs.cells 10 rfl)) ?_
           show G _ _ _ _ [_, _, _, _, _, _, _, _, _, _, _, _, _, _, _, _, _, _, _, _, _, _, _, _, _, _, _, _, _, _, _, _, _, _, _, _, _, _, _, _, _, _, _, _, _, _, _, _, _, _, _, _, _, _, _, _, _, _, _, _, _, _, _, _, _, _, _, _, _, _, _, _, _, _, _, _, _, _, _, _, _, _, _, _, _, _, _, _, _, _, _, _, _, _, _, _, _, _, _, _, _, _, _, _, _, _, _, _, _, _, _, _] _
           obtain ⟨r53, Hr53, H⟩ := bind_get H
           refine s_call (args := [Value.agg (([v35, v36, v37] : List Value)).toArray, Value.agg (([v16, v17, v18] : List Value)).toArray]) rfl rfl (x_call rfl (callFunc_enter Try.func21 rfl rfl) rfl) (laws_eqCaseSA3.calls (a1 := (⟨[(r34.1.get 0 []), (r34.1.get 1 []), (r34.1.get 2 [])], rfl⟩ : (Ar (List S_impl_Case) 3))) (a8 := (⟨[(r15.1.get 0 []), (r15.1.get 1 []), (r15.1.get 2 [])], rfl⟩ : (Ar (List S_impl_Case) 3))) (hs.row 2 rfl) (hs.row 3 rfl) (hs.row 4 rfl) (hs.row 7 rfl) (hs.row 8 rfl) (hs.row 9 rfl) Hr53) ?_
           rintro _ w ⟨rfl, hs2⟩
           have hs : St _ [_, _, _, _, _, _, _, _, _, _, _, _, _] _ := hs.call hs2
           show G _ _ _ _ [_, _, _, _, _, _, _, _, _, _, _, _, _, _, _, _, _, _, _, _, _, _, _, _, _, _, _, _, _, _, _, _, _, _, _, _, _, _, _, _, _, _, _, _, _, _, _, _, _, _, _, _, _, _, _, _, _, _, _, _, _, _, _, _, _, _, _, _, _, _, _, _, _, _, _, _, _, _, _, _, _, _, _, _, _, _, _, _, _, _, _, _, _, _, _, _, _, _, _, _, _, _, _, _, _, _, _, _, _, _, _, _] _
           refine g_op (v := Value.bool (!r53)) rfl rfl rfl ?_
           show G _ _ _ _ [_, _, _, _, _, _, _, _, _, _, _, _, _, _, _, _, _, _, _, _, _, _, _, _, _, _, _, _, _, _, _, _, _, _, _, _, _, _, _, _, _, _, _, _, _, _, _, _, _, _, _, _, _, _, _, _, _, _, _, _, _, _, _, _, _, _, _, _, _, _, _, _, _, _, _, _, _, _, _, _, _, _, _, _, _, _, _, _, _, _, _, _, _, _, _, _, _, _, _, _, _, _, _, _, _, _, _, _, _, _, _, _] _
           refine g_op_b (B := !r53) rfl rfl rfl ?_ ?_
           ·
            intro hb
            rw [if_neg (b_not_t hb)] at H
            show G _ _ _ _ [_, _, _, _, _, _, _, _, _, _, _, _, _, _, _, _, _, _, _, _, _, _, _, _, _, _, _, _, _, _, _, _, _, _, _, _, _, _, _, _, _, _, _, _, _, _, _, _, _, _, _, _, _, _, _, _, _, _, _, _, _, _, _, _, _, _, _, _, _, _, _, _, _, _, _, _, _, _, _, _, _, _, _, _, _, _, _, _, _, _, _, _, _, _, _, _, _, _, _, _, _, _, _, _, _, _, _, _, _, _, _, _] _
            refine g_op (v := Value.bool true) rfl rfl rfl ?_
            refine g_op_not rfl rfl ?_
            refine g_op_not rfl rfl ?_
            refine g_op_not rfl rfl ?_
            show G _ _ _ _ [_, _, _, _, _, _, _, _, _, _, _, _, _, _, _, _, _, _, _, _, _, _, _, _, _, _, _, _, _, _, _, _, _, _, _, _, _, _, _, _, _, _, _, _, _, _, _, _, _, _, _, _, _, _, _, _, _, _, _, _, _, _, _, _, _, _, _, _, _, _, _, _, _, _, _, _, _, _, _, _, _, _, _, _, _, _, _, _, _, _, _, _, _, _, _, _, _, _, _, _, _, _, _, _, _, _, _, _, _, _, _, _] _
            refine g_op (v := Value.bool true) rfl rfl rfl ?_
            show G _ _ _ _ [_, _, _, _, _, _, _, _, _, _, _, _, _, _, _, _, _, _, _, _, _, _, _, _, _, _, _, _, _, _, _, _, _, _, _, _, _, _, _, _, _, _, _, _, _, _, _, _, _, _, _, _, _, _, _, _, _, _, _, _, _, _, _, _, _, _, _, _, _, _, _, _, _, _, _, _, _, _, _, _, _, _, _, _, _, _, _, _, _, _, _, _, _, _, _, _, _, _, _, _, _, _, _, _, _, _, _, _, _, _, _, _] _
            refine g_ops_nil ?_
            refine g_cond_true rfl ?_
            refine g_seq ?_
            refine g_region ?_
            show G _ _ _ (.inRegion _ [0] :: _) _ _
            refine g_op (v := Value.bool false) rfl rfl rfl ?_
            show G _ _ _ _ [_, _, _, _, _, _, _, _, _, _, _, _, _, _, _, _, _, _, _, _, _, _, _, _, _, _, _, _, _, _, _, _, _, _, _, _, _, _, _, _, _, _, _, _, _, _, _, _, _, _, _, _, _, _, _, _, _, _, _, _, _, _, _, _, _, _, _, _, _, _, _, _, _, _, _, _, _, _, _, _, _, _, _, _, _, _, _, _, _, _, _, _, _, _, _, _, _, _, _, _, _, _, _, _, _, _, _, _, _, _, _, _] _
            refine g_ops_nil ?_
            obtain rfl := Option.some.inj H
            refine g_ret Try.func5 (v := Value.bool false) (res1 rfl rfl) ?_
            have hs : St _ [] _ := St.take (Γ' := [_, _, _, _, _, _, _, _, _, _, _, _, _]) hs
            exact ⟨_, rfl, rfl, hs⟩
           ·
            intro hb
            rw [if_pos (b_not_f hb)] at H
            show G _ _ _ _ [_, _, _, _, _, _, _, _, _, _, _, _, _, _, _, _, _, _, _, _, _, _, _, _, _, _, _, _, _, _, _, _, _, _, _, _, _, _, _, _, _, _, _, _, _, _, _, _, _, _, _, _, _, _, _, _, _, _, _, _, _, _, _, _, _, _, _, _, _, _, _, _, _, _, _, _, _, _, _, _, _, _, _, _, _, _, _, _, _, _, _, _, _, _, _, _, _, _, _, _, _, _, _, _, _, _, _, _, _, _, _, _] _
            refine g_op (v := Value.bool false) rfl rfl rfl ?_
            refine g_op (v := Value.int .i64 r34.2) rfl rfl rfl ?_
            refine g_op (v := Value.int .i64 r15.2) rfl rfl rfl ?_
            refine g_op_b (B := r34.2 != r15.2) rfl rfl rfl ?_ ?_
            ·
             intro hb
             rw [if_neg (b_bne_t hb)] at H
             show G _ _ _ _ [_, _, _, _, _, _, _, _, _, _, _, _, _, _, _, _, _, _, _, _, _, _, _, _, _, _, _, _, _, _, _, _, _, _, _, _, _, _, _, _, _, _, _, _, _, _, _, _, _, _, _, _, _, _, _, _, _, _, _, _, _, _, _, _, _, _, _, _, _, _, _, _, _, _, _, _, _, _, _, _, _, _, _, _, _, _, _, _, _, _, _, _, _, _, _, _, _, _, _, _, _, _, _, _, _, _, _, _, _, _, _, _] _
             refine g_op (v := Value.bool true) rfl rfl rfl ?_
             show G _ _ _ _ [_, _, _, _, _, _, _, _, _, _, _, _, _, _, _, _, _, _, _, _, _, _, _, _, _, _, _, _, _, _, _, _, _, _, _, _, _, _, _, _, _, _, _, _, _, _, _, _, _, _, _, _, _, _, _, _, _, _, _, _, _, _, _, _, _, _, _, _, _, _, _, _, _, _, _, _, _, _, _, _, _, _, _, _, _, _, _, _, _, _, _, _, _, _, _, _, _, _, _, _, _, _, _, _, _, _, _, _, _, _, _, _] _
             refine g_ops_nil ?_
             refine g_cond_true rfl ?_
             refine g_seq ?_
             refine g_region ?_
             show G _ _ _ (.inRegion _ [0] :: _) _ _
             refine g_op (v := Value.bool false) rfl rfl rfl ?_
             show G _ _ _ _ [_, _, _, _, _, _, _, _, _, _, _, _, _, _, _, _, _, _, _, _, _, _, _, _, _, _, _, _, _, _, _, _, _, _, _, _, _, _, _, _, _, _, _, _, _, _, _, _, _, _, _, _, _, _, _, _, _, _, _, _, _, _, _, _, _, _, _, _, _, _, _, _, _, _, _, _, _, _, _, _, _, _, _, _, _, _, _, _, _, _, _, _, _, _, _, _, _, _, _, _, _, _, _, _, _, _, _, _, _, _, _, _] _
             refine g_ops_nil ?_
             obtain rfl := Option.some.inj H
             refine g_ret Try.func5 (v := Value.bool false) (res1 rfl rfl) ?_
             have hs : St _ [] _ := St.take (Γ' := [_, _, _, _, _, _, _, _, _, _, _, _, _]) hs
             exact ⟨_, rfl, rfl, hs⟩
            ·
             intro hb
             rw [if_pos (b_bne_f hb)] at H
             show G _ _ _ _ [_, _, _, _, _, _, _, _, _, _, _, _, _, _, _, _, _, _, _, _, _, _, _, _, _, _, _, _, _, _, _, _, _, _, _, _, _, _, _, _, _, _, _, _, _, _, _, _, _, _, _, _, _, _, _, _, _, _, _, _, _, _, _, _, _, _, _, _, _, _, _, _, _, _, _, _, _, _, _, _, _, _, _, _, _, _, _, _, _, _, _, _, _, _, _, _, _, _, _, _, _, _, _, _, _, _, _, _, _, _, _, _] _
             refine g_op (v := Value.bool false) rfl rfl rfl ?_
             show G _ _ _ _ [_, _, _, _, _, _, _, _, _, _, _, _, _, _, _, _, _, _, _, _, _, _, _, _, _, _, _, _, _, _, _, _, _, _, _, _, _, _, _, _, _, _, _, _, _, _, _, _, _, _, _, _, _, _, _, _, _, _, _, _, _, _, _, _, _, _, _, _, _, _, _, _, _, _, _, _, _, _, _, _, _, _, _, _, _, _, _, _, _, _, _, _, _, _, _, _, _, _, _, _, _, _, _, _, _, _, _, _, _, _, _, _] _
             refine g_ops_nil ?_
             refine g_cond_false rfl ?_
             refine g_skip ?_
             refine g_seq ?_
             refine g_region ?_
             show G _ _ _ (.inRegion _ [0] :: _) _ _
             refine g_op (v := Value.int .i64 1) rfl rfl rfl ?_
             show G _ _ _ _ [_, _, _, _, _, _, _, _, _, _, _, _, _, _, _, _, _, _, _, _, _, _, _, _, _, _, _, _, _, _, _, _, _, _, _, _, _, _, _, _, _, _, _, _, _, _, _, _, _, _, _, _, _, _, _, _, _, _, _, _, _, _, _, _, _, _, _, _, _, _, _, _, _, _, _, _, _, _, _, _, _, _, _, _, _, _, _, _, _, _, _, _, _, _, _, _, _, _, _, _, _, _, _, _, _, _, _, _, _, _, _, _] _
             refine g_ops_nil ?_
             refine g_seq ?_
             refine g_region ?_
             show G _ _ _ (.inRegion _ [0, 1, 2, 3] :: _) _ _
             refine s_loadA rfl rfl (es := (([v35, v36, v37] : List Value))) rfl rfl (fun _ => rfl) (n := 3) (fun _ => rfl) rfl (cells_all (hs.cells 5 rfl)) ?_
             show G _ _ _ _ [_, _, _, _, _, _, _, _, _, _, _, _, _, _, _, _, _, _, _, _, _, _, _, _, _, _, _, _, _, _, _, _, _, _, _, _, _, _, _, _, _, _, _, _, _, _, _, _, _, _, _, _, _, _, _, _, _, _, _, _, _, _, _, _, _, _, _, _, _, _, _, _, _, _, _, _, _, _, _, _, _, _, _, _, _, _, _, _, _, _, _, _, _, _, _, _, _, _, _, _, _, _, _, _, _, _, _, _, _, _, _, _] _
             refine g_op (v := Value.int .i64 1) rfl rfl rfl ?_
             obtain ⟨r54, Hr54, H⟩ := bind_get H
             have hs := hs.pull 4 rfl
             have hs := hs.pull 4 rfl
             have hs := hs.pull 4 rfl
             have hs : St _ [_, _, _, _, _, _, _, _, _, _, _, _, _] _ := hs
             have hs := hs.pack 3
             refine s_call (args := [Value.agg (([v35, v36, v37] : List Value)).toArray, Value.int .i64 1]) rfl rfl (x_call rfl (callFunc_enter Try.func24 rfl rfl) rfl) (laws_markCaseSA3.calls (a1 := (⟨[(r34.1.get 0 []), (r34.1.get 1 []), (r34.1.get 2 [])], rfl⟩ : (Ar (List S_impl_Case) 3))) (a8 := 1) hs Hr54) ?_
             rintro _ w ⟨rfl, hs⟩
             have hs := St.unpack (Γ := [_, _, _]) hs
             have hs : St _ [_, _, _, _, _, _, _, _, _, _, _, _, _] _ := hs
             show G _ _ _ _ [_, _, _, _, _, _, _, _, _, _, _, _, _, _, _, _, _, _, _, _, _, _, _, _, _, _, _, _, _, _, _, _, _, _, _, _, _, _, _, _, _, _, _, _, _, _, _, _, _, _, _, _, _, _, _, _, _, _, _, _, _, _, _, _, _, _, _, _, _, _, _, _, _, _, _, _, _, _, _, _, _, _, _, _, _, _, _, _, _, _, _, _, _, _, _, _, _, _, _, _, _, _, _, _, _, _, _, _, _, _, _, _] _
             refine g_op (v := Value.int .i64 r54.1) rfl rfl rfl ?_
             show G _ _ _ _ [_, _, _, _, _, _, _, _, _, _, _, _, _, _, _, _, _, _, _, _, _, _, _, _, _, _, _, _, _, _, _, _, _, _, _, _, _, _, _, _, _, _, _, _, _, _, _, _, _, _, _, _, _, _, _, _, _, _, _, _, _, _, _, _, _, _, _, _, _, _, _, _, _, _, _, _, _, _, _, _, _, _, _, _, _, _, _, _, _, _, _, _, _, _, _, _, _, _, _, _, _, _, _, _, _, _, _, _, _, _, _, _] _
             refine g_ops_nil ?_
             refine g_seq ?_
             refine g_region ?_
             show G _ _ _ (.inRegion _ [0] :: _) _ _
             refine g_op (v := Value.int .i64 1) rfl rfl rfl ?_
             show G _ _ _ _ [_, _, _, _, _, _, _, _, _, _, _, _, _, _, _, _, _, _, _, _, _, _, _, _, _, _, _, _, _, _, _, _, _, _, _, _, _, _, _, _, _, _, _, _, _, _, _, _, _, _, _, _, _, _, _, _, _, _, _, _, _, _, _, _, _, _, _, _, _, _, _, _, _, _, _, _, _, _, _, _, _, _, _, _, _, _, _, _, _, _, _, _, _, _, _, _, _, _, _, _, _, _, _, _, _, _, _, _, _, _, _, _] _
             refine g_ops_nil ?_
             refine g_seq ?_
             refine g_region ?_
             show G _ _ _ (.inRegion _ [0, 1, 2, 3] :: _) _ _
             refine s_loadA rfl rfl (es := (([v35, v36, v37] : List Value))) rfl rfl (fun _ => rfl) (n := 3) (fun _ => rfl) rfl (cells_all (hs.cells 5 rfl)) ?_
             show G _ _ _ _ [_, _, _, _, _, _, _, _, _, _, _, _, _, _, _, _, _, _, _, _, _, _, _, _, _, _, _, _, _, _, _, _, _, _, _, _, _, _, _, _, _, _, _, _, _, _, _, _, _, _, _, _, _, _, _, _, _, _, _, _, _, _, _, _, _, _, _, _, _, _, _, _, _, _, _, _, _, _, _, _, _, _, _, _, _, _, _, _, _, _, _, _, _, _, _, _, _, _, _, _, _, _, _, _, _, _, _, _, _, _, _, _] _
             refine g_op (v := Value.int .i64 1) rfl rfl rfl ?_
             obtain ⟨r55, Hr55, H⟩ := bind_get H
             refine s_call (args := [Value.agg (([v35, v36, v37] : List Value)).toArray, Value.int .i64 1]) rfl rfl (x_call rfl (callFunc_enter Try.func25 rfl rfl) rfl) (laws_heldCaseSA3.calls (a1 := (⟨[r54.2.1, r54.2.2.1, r54.2.2.2], rfl⟩ : (Ar (List S_impl_Case) 3))) (a8 := 1) (hs.row 0 rfl) (hs.row 1 rfl) (hs.row 2 rfl) Hr55) ?_
             rintro _ w ⟨rfl, hs2⟩
             have hs : St _ [_, _, _, _, _, _, _, _, _, _, _, _, _] _ := hs.call hs2
             show G _ _ _ _ [_, _, _, _, _, _, _, _, _, _, _, _, _, _, _, _, _, _, _, _, _, _, _, _, _, _, _, _, _, _, _, _, _, _, _, _, _, _, _, _, _, _, _, _, _, _, _, _, _, _, _, _, _, _, _, _, _, _, _, _, _, _, _, _, _, _, _, _, _, _, _, _, _, _, _, _, _, _, _, _, _, _, _, _, _, _, _, _, _, _, _, _, _, _, _, _, _, _, _, _, _, _, _, _, _, _, _, _, _, _, _, _] _
             refine g_op (v := Value.int .i64 r55) rfl rfl rfl ?_
             show G _ _ _ _ [_, _, _, _, _, _, _, _, _, _, _, _, _, _, _, _, _, _, _, _, _, _, _, _, _, _, _, _, _, _, _, _, _, _, _, _, _, _, _, _, _, _, _, _, _, _, _, _, _, _, _, _, _, _, _, _, _, _, _, _, _, _, _, _, _, _, _, _, _, _, _, _, _, _, _, _, _, _, _, _, _, _, _, _, _, _, _, _, _, _, _, _, _, _, _, _, _, _, _, _, _, _, _, _, _, _, _, _, _, _, _, _] _
             refine g_ops_nil ?_
             refine g_seq ?_
             refine g_seq ?_
             refine g_region ?_
             show G _ _ _ (.inRegion _ [0, 1] :: _) _ _
             refine g_op (v := Value.int .i64 r55) rfl rfl rfl ?_
             refine g_op_b (B := decide (r55 < 0)) rfl rfl rfl ?_ ?_
             ·
              intro hb
              rw [if_pos (b_dec_t hb)] at H
              show G _ _ _ _ [_, _, _, _, _, _, _, _, _, _, _, _, _, _, _, _, _, _, _, _, _, _, _, _, _, _, _, _, _, _, _, _, _, _, _, _, _, _, _, _, _, _, _, _, _, _, _, _, _, _, _, _, _, _, _, _, _, _, _, _, _, _, _, _, _, _, _, _, _, _, _, _, _, _, _, _, _, _, _, _, _, _, _, _, _, _, _, _, _, _, _, _, _, _, _, _, _, _, _, _, _, _, _, _, _, _, _, _, _, _, _, _] _
              refine g_ops_nil ?_
              refine g_cond_true rfl ?_
              refine g_seq ?_
              refine g_region ?_
              show G _ _ _ (.inRegion _ [0] :: _) _ _
              refine g_op (v := Value.bool false) rfl rfl rfl ?_
              show G _ _ _ _ [_, _, _, _, _, _, _, _, _, _, _, _, _, _, _, _, _, _, _, _, _, _, _, _, _, _, _, _, _, _, _, _, _, _, _, _, _, _, _, _, _, _, _, _, _, _, _, _, _, _, _, _, _, _, _, _, _, _, _, _, _, _, _, _, _, _, _, _, _, _, _, _, _, _, _, _, _, _, _, _, _, _, _, _, _, _, _, _, _, _, _, _, _, _, _, _, _, _, _, _, _, _, _, _, _, _, _, _, _, _, _, _] _
              refine g_ops_nil ?_
              obtain rfl := Option.some.inj H
              refine g_ret Try.func5 (v := Value.bool false) (res1 rfl rfl) ?_
              have hs : St _ [] _ := St.take (Γ' := [_, _, _, _, _, _, _, _, _, _, _, _, _]) hs
              exact ⟨_, rfl, rfl, hs⟩
             ·
              intro hb
              rw [if_neg (b_dec_f hb)] at H
              show G _ _ _ _ [_, _, _, _, _, _, _, _, _, _, _, _, _, _, _, _, _, _, _, _, _, _, _, _, _, _, _, _, _, _, _, _, _, _, _, _, _, _, _, _, _, _, _, _, _, _, _, _, _, _, _, _, _, _, _, _, _, _, _, _, _, _, _, _, _, _, _, _, _, _, _, _, _, _, _, _, _, _, _, _, _, _, _, _, _, _, _, _, _, _, _, _, _, _, _, _, _, _, _, _, _, _, _, _, _, _, _, _, _, _, _, _] _
              refine g_ops_nil ?_
              refine g_cond_false rfl ?_
              refine g_skip ?_
              refine g_seq ?_
              refine g_seq ?_
              refine g_region ?_
              show G _ _ _ (.inRegion _ [0, 1, 2] :: _) _ _
              refine g_op (v := Value.int .i64 r55) rfl rfl rfl ?_
              refine g_op (v := Value.int .i64 r54.1) rfl rfl rfl ?_
              refine g_op_b (B := r55 != r54.1) rfl rfl rfl ?_ ?_
              ·
               intro hb
               rw [if_neg (b_bne_t hb)] at H
               show G _ _ _ _ [_, _, _, _, _, _, _, _, _, _, _, _, _, _, _, _, _, _, _, _, _, _, _, _, _, _, _, _, _, _, _, _, _, _, _, _, _, _, _, _, _, _, _, _, _, _, _, _, _, _, _, _, _, _, _, _, _, _, _, _, _, _, _, _, _, _, _, _, _, _, _, _, _, _, _, _, _, _, _, _, _, _, _, _, _, _, _, _, _, _, _, _, _, _, _, _, _, _, _, _, _, _, _, _, _, _, _, _, _, _, _, _] _
               refine g_ops_nil ?_
               refine g_cond_true rfl ?_
               refine g_seq ?_
               refine g_region ?_
               show G _ _ _ (.inRegion _ [0] :: _) _ _
               refine g_op (v := Value.bool false) rfl rfl rfl ?_
               show G _ _ _ _ [_, _, _, _, _, _, _, _, _, _, _, _, _, _, _, _, _, _, _, _, _, _, _, _, _, _, _, _, _, _, _, _, _, _, _, _, _, _, _, _, _, _, _, _, _, _, _, _, _, _, _, _, _, _, _, _, _, _, _, _, _, _, _, _, _, _, _, _, _, _, _, _, _, _, _, _, _, _, _, _, _, _, _, _, _, _, _, _, _, _, _, _, _, _, _, _, _, _, _, _, _, _, _, _, _, _, _, _, _, _, _, _] _
               refine g_ops_nil ?_
               obtain rfl := Option.some.inj H
               refine g_ret Try.func5 (v := Value.bool false) (res1 rfl rfl) ?_
               have hs : St _ [] _ := St.take (Γ' := [_, _, _, _, _, _, _, _, _, _, _, _, _]) hs
               exact ⟨_, rfl, rfl, hs⟩
              ·
               intro hb
               rw [if_pos (b_bne_f hb)] at H
               show G _ _ _ _ [_, _, _, _, _, _, _, _, _, _, _, _, _, _, _, _, _, _, _, _, _, _, _, _, _, _, _, _, _, _, _, _, _, _, _, _, _, _, _, _, _, _, _, _, _, _, _, _, _, _, _, _, _, _, _, _, _, _, _, _, _, _, _, _, _, _, _, _, _, _, _, _, _, _, _, _, _, _, _, _, _, _, _, _, _, _, _, _, _, _, _, _, _, _, _, _, _, _, _, _, _, _, _, _, _, _, _, _, _, _, _, _] _
               refine g_ops_nil ?_
               refine g_cond_false rfl ?_
               refine g_skip ?_
               refine g_seq ?_
               obtain ⟨r56, Hr56, H⟩ := bind_get H
               obtain ⟨r57, Hr57, H⟩ := bind_get H
               obtain ⟨r58, Hr58, H⟩ := bind_get H
               obtain ⟨r61, Hr61, H⟩ := bind_get H
               refine g_name ?_
               intro T hT
               refine g_any (n := 13) rfl [0, 1, 2, 3, 4, 5, 6, 7, 8, 9, 10, 11, 12] [0, 1, 2, 3, 4, 5, 6, 7, 8, 11, 9, 10, 12] rfl rfl (Inv := fun D t w => ∃ v59 : Value, ∃ v62 : Value, ∃ v63 : Value, ∃ v64 : Value, ∃ b68 : Nat, ∃ O : Nat → Value, t = [Value.agg (enc_S_laws_Task a1).toArray, Value.agg ((encA (encI .i8)) a2).toArray, v4, Value.pointer (some ⟨b5, 0, none⟩), Value.pointer (some ⟨b7, 0, none⟩), O 5, Value.bool false, Value.int .i64 r9, Value.pointer (some ⟨b22, 0, none⟩), Value.int .i64 r15.2, v30, Value.pointer (some ⟨b41, 0, none⟩), Value.int .i64 r34.2, Value.int .i64 r52.1, Value.int .i64 r54.1, Value.int .i64 r55, cnd (D 10) (Value.pointer (some ⟨b68, 0, none⟩)) (O 16), cnd (D 12) (Value.int .i64 r61.2) (O 17), v4, Value.int .i64 1048576, Value.int .i64 r9, Value.int .i64 r9, Value.bool false, Value.tuple #[Value.agg (([v16, v17, v18] : List Value)).toArray, Value.int .i64 r15.2], Value.agg (enc_S_laws_Task a1).toArray, Value.agg (enc_S_laws_Task r10).toArray, Value.agg ((encA (encI .i8)) a2).toArray, Value.agg ((encA (encI .i8)) r11).toArray, v4, v13, Value.tuple #[Value.agg (([v16, v17, v18] : List Value)).toArray, Value.int .i64 r15.2], Value.agg (([v16, v17, v18] : List Value)).toArray, Value.int .i64 r15.2, v4, v30, Value.tuple #[Value.agg (([v35, v36, v37] : List Value)).toArray, Value.int .i64 r34.2], Value.agg (enc_S_laws_Task a1).toArray, Value.agg (enc_S_laws_Task r32).toArray, Value.agg ((encA (encI .i8)) a2).toArray, Value.agg ((encA (encI .i8)) r33).toArray, v30, Value.tuple #[Value.agg (([v35, v36, v37] : List Value)).toArray, Value.int .i64 r34.2], Value.agg (([v35, v36, v37] : List Value)).toArray, Value.int .i64 r34.2, Value.agg (([v35, v36, v37] : List Value)).toArray, Value.agg (([v16, v17, v18] : List Value)).toArray, Value.bool true, Value.bool false, Value.bool false, Value.int .i64 r34.2, Value.int .i64 r15.2, Value.bool false, Value.bool false, v30, v4, v49, Value.bool true, Value.bool false, v30, Value.int .i64 1, Value.int .i64 r52.1, Value.int .i64 r52.1, Value.bool false, Value.bool false, Value.agg (([v35, v36, v37] : List Value)).toArray, Value.agg (([v16, v17, v18] : List Value)).toArray, Value.bool r53, Value.bool (!r53), Value.bool false, Value.bool false, Value.int .i64 r34.2, Value.int .i64 r15.2, Value.bool false, Value.bool false, Value.agg (([v35, v36, v37] : List Value)).toArray, Value.int .i64 1, Value.int .i64 r54.1, Value.agg (([v35, v36, v37] : List Value)).toArray, Value.int .i64 1, Value.int .i64 r55, Value.int .i64 r55, Value.bool false, Value.int .i64 r55, Value.int .i64 r54.1, Value.bool false, cnd (D 7) (Value.tuple #[Value.agg (([v62, v63, v64] : List Value)).toArray, Value.int .i64 r61.2]) (O 85), cnd (D 0) (Value.agg (enc_S_laws_Task a1).toArray) (O 86), cnd (D 1) (Value.agg (enc_S_laws_Task r56).toArray) (O 87), cnd (D 2) (Value.agg ((encA (encI .i8)) a2).toArray) (O 88), cnd (D 3) (Value.agg ((encA (encI .i8)) r57).toArray) (O 89), cnd (D 4) v4 (O 90), cnd (D 5) v59 (O 91), cnd (D 6) (Value.tuple #[Value.agg (([v62, v63, v64] : List Value)).toArray, Value.int .i64 r61.2]) (O 92), cnd (D 8) (Value.agg (([v62, v63, v64] : List Value)).toArray) (O 93), cnd (D 9) (Value.int .i64 r61.2) (O 94), O 95, O 96, O 97, O 98, O 99, O 100, O 101, O 102, O 103, O 104, O 105, O 106, O 107, O 108, O 109, O 110, O 111] ∧ St w0 [Asc (D 5) (Row 84 k_S_impl_Case v59 r58), Asc (D 6) (Row 84 k_S_impl_Case v62 (r61.1.get 0 [])), Asc (D 6) (Row 84 k_S_impl_Case v63 (r61.1.get 1 [])), Asc (D 6) (Row 84 k_S_impl_Case v64 (r61.1.get 2 [])), Asc (D 10) (Cells b68 (cnd (D 11) (([v62, v63, v64] : List Value)) (([Value.slice none 0 0, Value.slice none 0 0, Value.slice none 0 0] : List Value))) 47), Row 84 k_S_impl_Case v35 r54.2.1, Row 84 k_S_impl_Case v36 r54.2.2.1, Row 84 k_S_impl_Case v37 r54.2.2.2, Row 84 k_S_impl_Case v30 r52.2, Row 84 k_S_impl_Case v49 r48, Cells b41 (([v35, v36, v37] : List Value)) 47, Row 84 k_S_impl_Case v13 r12, Row 84 k_S_impl_Case v16 (r15.1.get 0 []), Row 84 k_S_impl_Case v17 (r15.1.get 1 []), Row 84 k_S_impl_Case v18 (r15.1.get 2 []), Cells b22 (([v16, v17, v18] : List Value)) 47, Cells b7 ((encA (encI .i8)) a2) 43, Cells b5 (enc_S_laws_Task a1) 42] w) ?_ ⟨⟨⟨⟨⟨⟨⟨⟨⟨⟨⟨⟨⟨trivial, ?_⟩, ?_⟩, ?_⟩, ?_⟩, ?_⟩, ?_⟩, ?_⟩, ?_⟩, ?_⟩, ?_⟩, ?_⟩, ?_⟩, ?_⟩ ?_
               ·
                intro w hh hbw
                have hs := hs.samew hh hbw
                have hs := hs.emp
                have hs := hs.emp
                have hs := hs.emp
                have hs := hs.emp
                have hs := hs.emp
                exact ⟨undef, undef, undef, undef, 0, fun i => T.getD i undef, (by subst hT; rfl), hs⟩
               ·
                intro D t w hD hp hcl hI rest hk
                obtain ⟨v59, v62, v63, v64, b68, O, ht, hs⟩ := hI
                have q1_ : D 1 = false := not_yet (hcl.get 1 (by decide)) 0 0 rfl hD
                have q3_ : D 3 = false := not_yet (hcl.get 3 (by decide)) 1 1 rfl q1_
                have q5_ : D 5 = false := not_yet (hcl.get 5 (by decide)) 1 3 rfl q3_
                have q6_ : D 6 = false := not_yet (hcl.get 6 (by decide)) 0 1 rfl q1_
                have q7_ : D 7 = false := not_yet (hcl.get 7 (by decide)) 0 6 rfl q6_
                have q8_ : D 8 = false := not_yet (hcl.get 8 (by decide)) 0 7 rfl q7_
                have q9_ : D 9 = false := not_yet (hcl.get 9 (by decide)) 0 7 rfl q7_
                have q11_ : D 11 = false := not_yet (hcl.get 11 (by decide)) 1 8 rfl q8_
                have q12_ : D 12 = false := not_yet (hcl.get 12 (by decide)) 0 9 rfl q9_
                have u0_ : upd D 0 0 = true := rfl; have u1_ : upd D 0 1 = D 1 := rfl; have u2_ : upd D 0 2 = D 2 := rfl; have u3_ : upd D 0 3 = D 3 := rfl; have u4_ : upd D 0 4 = D 4 := rfl; have u5_ : upd D 0 5 = D 5 := rfl; have u6_ : upd D 0 6 = D 6 := rfl; have u7_ : upd D 0 7 = D 7 := rfl; have u8_ : upd D 0 8 = D 8 := rfl; have u9_ : upd D 0 9 = D 9 := rfl; have u10_ : upd D 0 10 = D 10 := rfl; have u11_ : upd D 0 11 = D 11 := rfl; have u12_ : upd D 0 12 = D 12 := rfl
                simp only [hD, q1_, q3_, q5_, q6_, q7_, q8_, q9_, q11_, q12_, cnd_t, cnd_f, Asc_t, Asc_f] at ht hs
                subst ht
                refine s_loadA rfl rfl (es := (enc_S_laws_Task a1)) rfl rfl (fun _ => rfl) (n := 4) (fun _ => rfl) (fk_S_laws_Task.len _) (cells_all (hs.cells 17 rfl)) ?_
                show G _ _ _ _ [_, _, _, _, _, _, _, _, _, _, _, _, _, _, _, _, _, _, _, _, _, _, _, _, _, _, _, _, _, _, _, _, _, _, _, _, _, _, _, _, _, _, _, _, _, _, _, _, _, _, _, _, _, _, _, _, _, _, _, _, _, _, _, _, _, _, _, _, _, _, _, _, _, _, _, _, _, _, _, _, _, _, _, _, _, _, _, _, _, _, _, _, _, _, _, _, _, _, _, _, _, _, _, _, _, _, _, _, _, _, _, _] _
                exact hk _ _ ⟨v59, v62, v63, v64, b68, O, (by simp only [u0_, u1_, u2_, u3_, u4_, u5_, u6_, u7_, u8_, u9_, u10_, u11_, u12_, q1_, q3_, q5_, q6_, q7_, q8_, q9_, q11_, q12_, cnd_t, cnd_f, Asc_t, Asc_f]), hs.cast (by first | rfl | simp only [List.take, List.drop, List.cons_append, List.nil_append, List.set_cons_zero, List.set_cons_succ, List.eraseIdx, u0_, u1_, u2_, u3_, u4_, u5_, u6_, u7_, u8_, u9_, u10_, u11_, u12_, q1_, q3_, q5_, q6_, q7_, q8_, q9_, q11_, q12_, cnd_t, cnd_f, Asc_t, Asc_f])⟩
               ·
                intro D t w hD hp hcl hI rest hk
                obtain ⟨v59, v62, v63, v64, b68, O, ht, hs⟩ := hI
                obtain ⟨p0_, _⟩ := hp
                have q3_ : D 3 = false := not_yet (hcl.get 3 (by decide)) 1 1 rfl hD
                have q5_ : D 5 = false := not_yet (hcl.get 5 (by decide)) 1 3 rfl q3_
                have q6_ : D 6 = false := not_yet (hcl.get 6 (by decide)) 0 1 rfl hD
                have q7_ : D 7 = false := not_yet (hcl.get 7 (by decide)) 0 6 rfl q6_
                have q8_ : D 8 = false := not_yet (hcl.get 8 (by decide)) 0 7 rfl q7_
                have q9_ : D 9 = false := not_yet (hcl.get 9 (by decide)) 0 7 rfl q7_
                have q11_ : D 11 = false := not_yet (hcl.get 11 (by decide)) 1 8 rfl q8_
                have q12_ : D 12 = false := not_yet (hcl.get 12 (by decide)) 0 9 rfl q9_
                have u0_ : upd D 1 0 = D 0 := rfl; have u1_ : upd D 1 1 = true := rfl; have u2_ : upd D 1 2 = D 2 := rfl; have u3_ : upd D 1 3 = D 3 := rfl; have u4_ : upd D 1 4 = D 4 := rfl; have u5_ : upd D 1 5 = D 5 := rfl; have u6_ : upd D 1 6 = D 6 := rfl; have u7_ : upd D 1 7 = D 7 := rfl; have u8_ : upd D 1 8 = D 8 := rfl; have u9_ : upd D 1 9 = D 9 := rfl; have u10_ : upd D 1 10 = D 10 := rfl; have u11_ : upd D 1 11 = D 11 := rfl; have u12_ : upd D 1 12 = D 12 := rfl
                simp only [hD, p0_, q3_, q5_, q6_, q7_, q8_, q9_, q11_, q12_, cnd_t, cnd_f, Asc_t, Asc_f] at ht hs
                subst ht
                refine s_call (args := [Value.agg (enc_S_laws_Task a1).toArray]) rfl rfl (x_call rfl (callFunc_enter Try.func17 rfl rfl) rfl) (laws_toTask.calls (a1 := a1) Hr56) ?_
                rintro _ w ⟨rfl, hs2⟩
                have hs : St _ [_, _, _, _, _, _, _, _, _, _, _, _, _, _, _, _, _, _] _ := hs.call hs2
                show G _ _ _ _ [_, _, _, _, _, _, _, _, _, _, _, _, _, _, _, _, _, _, _, _, _, _, _, _, _, _, _, _, _, _, _, _, _, _, _, _, _, _, _, _, _, _, _, _, _, _, _, _, _, _, _, _, _, _, _, _, _, _, _, _, _, _, _, _, _, _, _, _, _, _, _, _, _, _, _, _, _, _, _, _, _, _, _, _, _, _, _, _, _, _, _, _, _, _, _, _, _, _, _, _, _, _, _, _, _, _, _, _, _, _, _, _] _
                exact hk _ _ ⟨v59, v62, v63, v64, b68, O, (by simp only [u0_, u1_, u2_, u3_, u4_, u5_, u6_, u7_, u8_, u9_, u10_, u11_, u12_, p0_, q3_, q5_, q6_, q7_, q8_, q9_, q11_, q12_, cnd_t, cnd_f, Asc_t, Asc_f]), hs.cast (by first | rfl | simp only [List.take, List.drop, List.cons_append, List.nil_append, List.set_cons_zero, List.set_cons_succ, List.eraseIdx, u0_, u1_, u2_, u3_, u4_, u5_, u6_, u7_, u8_, u9_, u10_, u11_, u12_, p0_, q3_, q5_, q6_, q7_, q8_, q9_, q11_, q12_, cnd_t, cnd_f, Asc_t, Asc_f])⟩
               ·
                intro D t w hD hp hcl hI rest hk
                obtain ⟨v59, v62, v63, v64, b68, O, ht, hs⟩ := hI
                have q3_ : D 3 = false := not_yet (hcl.get 3 (by decide)) 0 2 rfl hD
                have q5_ : D 5 = false := not_yet (hcl.get 5 (by decide)) 1 3 rfl q3_
                have q6_ : D 6 = false := not_yet (hcl.get 6 (by decide)) 1 3 rfl q3_
                have q7_ : D 7 = false := not_yet (hcl.get 7 (by decide)) 0 6 rfl q6_
                have q8_ : D 8 = false := not_yet (hcl.get 8 (by decide)) 0 7 rfl q7_
                have q9_ : D 9 = false := not_yet (hcl.get 9 (by decide)) 0 7 rfl q7_
                have q11_ : D 11 = false := not_yet (hcl.get 11 (by decide)) 1 8 rfl q8_
                have q12_ : D 12 = false := not_yet (hcl.get 12 (by decide)) 0 9 rfl q9_
                have u0_ : upd D 2 0 = D 0 := rfl; have u1_ : upd D 2 1 = D 1 := rfl; have u2_ : upd D 2 2 = true := rfl; have u3_ : upd D 2 3 = D 3 := rfl; have u4_ : upd D 2 4 = D 4 := rfl; have u5_ : upd D 2 5 = D 5 := rfl; have u6_ : upd D 2 6 = D 6 := rfl; have u7_ : upd D 2 7 = D 7 := rfl; have u8_ : upd D 2 8 = D 8 := rfl; have u9_ : upd D 2 9 = D 9 := rfl; have u10_ : upd D 2 10 = D 10 := rfl; have u11_ : upd D 2 11 = D 11 := rfl; have u12_ : upd D 2 12 = D 12 := rfl
                simp only [hD, q3_, q5_, q6_, q7_, q8_, q9_, q11_, q12_, cnd_t, cnd_f, Asc_t, Asc_f] at ht hs
                subst ht
                refine s_loadA rfl rfl (es := ((encA (encI .i8)) a2)) rfl rfl (fun _ => rfl) (n := 14) (fun _ => rfl) ((fkA (n := 14) (he := (fkI .i8).len) (h1 := (fkI .i8).one)).len _) (cells_all (hs.cells 16 rfl)) ?_
                show G _ _ _ _ [_, _, _, _, _, _, _, _, _, _, _, _, _, _, _, _, _, _, _, _, _, _, _, _, _, _, _, _, _, _, _, _, _, _, _, _, _, _, _, _, _, _, _, _, _, _, _, _, _, _, _, _, _, _, _, _, _, _, _, _, _, _, _, _, _, _, _, _, _, _, _, _, _, _, _, _, _, _, _, _, _, _, _, _, _, _, _, _, _, _, _, _, _, _, _, _, _, _, _, _, _, _, _, _, _, _, _, _, _, _, _, _] _
                exact hk _ _ ⟨v59, v62, v63, v64, b68, O, (by simp only [u0_, u1_, u2_, u3_, u4_, u5_, u6_, u7_, u8_, u9_, u10_, u11_, u12_, q3_, q5_, q6_, q7_, q8_, q9_, q11_, q12_, cnd_t, cnd_f, Asc_t, Asc_f]), hs.cast (by first | rfl | simp only [List.take, List.drop, List.cons_append, List.nil_append, List.set_cons_zero, List.set_cons_succ, List.eraseIdx, u0_, u1_, u2_, u3_, u4_, u5_, u6_, u7_, u8_, u9_, u10_, u11_, u12_, q3_, q5_, q6_, q7_, q8_, q9_, q11_, q12_, cnd_t, cnd_f, Asc_t, Asc_f])⟩
               ·
                intro D t w hD hp hcl hI rest hk
                obtain ⟨v59, v62, v63, v64, b68, O, ht, hs⟩ := hI
                obtain ⟨p2_, p1_, _⟩ := hp
                obtain ⟨p0_, _⟩ := (hcl.get 1 (by decide)) p1_
                have q5_ : D 5 = false := not_yet (hcl.get 5 (by decide)) 1 3 rfl hD
                have q6_ : D 6 = false := not_yet (hcl.get 6 (by decide)) 1 3 rfl hD
                have q7_ : D 7 = false := not_yet (hcl.get 7 (by decide)) 0 6 rfl q6_
                have q8_ : D 8 = false := not_yet (hcl.get 8 (by decide)) 0 7 rfl q7_
                have q9_ : D 9 = false := not_yet (hcl.get 9 (by decide)) 0 7 rfl q7_
                have q11_ : D 11 = false := not_yet (hcl.get 11 (by decide)) 1 8 rfl q8_
                have q12_ : D 12 = false := not_yet (hcl.get 12 (by decide)) 0 9 rfl q9_
                have u0_ : upd D 3 0 = D 0 := rfl; have u1_ : upd D 3 1 = D 1 := rfl; have u2_ : upd D 3 2 = D 2 := rfl; have u3_ : upd D 3 3 = true := rfl; have u4_ : upd D 3 4 = D 4 := rfl; have u5_ : upd D 3 5 = D 5 := rfl; have u6_ : upd D 3 6 = D 6 := rfl; have u7_ : upd D 3 7 = D 7 := rfl; have u8_ : upd D 3 8 = D 8 := rfl; have u9_ : upd D 3 9 = D 9 := rfl; have u10_ : upd D 3 10 = D 10 := rfl; have u11_ : upd D 3 11 = D 11 := rfl; have u12_ : upd D 3 12 = D 12 := rfl
                simp only [hD, p0_, p1_, p2_, q5_, q6_, q7_, q8_, q9_, q11_, q12_, cnd_t, cnd_f, Asc_t, Asc_f] at ht hs
                subst ht
                refine s_call (args := [Value.agg ((encA (encI .i8)) a2).toArray]) rfl rfl (x_call rfl (callFunc_enter Try.func18 rfl rfl) rfl) (laws_toWeighing.calls (a1 := a2) Hr57) ?_
                rintro _ w ⟨rfl, hs2⟩
                have hs : St _ [_, _, _, _, _, _, _, _, _, _, _, _, _, _, _, _, _, _] _ := hs.call hs2
                show G _ _ _ _ [_, _, _, _, _, _, _, _, _, _, _, _, _, _, _, _, _, _, _, _, _, _, _, _, _, _, _, _, _, _, _, _, _, _, _, _, _, _, _, _, _, _, _, _, _, _, _, _, _, _, _, _, _, _, _, _, _, _, _, _, _, _, _, _, _, _, _, _, _, _, _, _, _, _, _, _, _, _, _, _, _, _, _, _, _, _, _, _, _, _, _, _, _, _, _, _, _, _, _, _, _, _, _, _, _, _, _, _, _, _, _, _] _
                exact hk _ _ ⟨v59, v62, v63, v64, b68, O, (by simp only [u0_, u1_, u2_, u3_, u4_, u5_, u6_, u7_, u8_, u9_, u10_, u11_, u12_, p0_, p1_, p2_, q5_, q6_, q7_, q8_, q9_, q11_, q12_, cnd_t, cnd_f, Asc_t, Asc_f]), hs.cast (by first | rfl | simp only [List.take, List.drop, List.cons_append, List.nil_append, List.set_cons_zero, List.set_cons_succ, List.eraseIdx, u0_, u1_, u2_, u3_, u4_, u5_, u6_, u7_, u8_, u9_, u10_, u11_, u12_, p0_, p1_, p2_, q5_, q6_, q7_, q8_, q9_, q11_, q12_, cnd_t, cnd_f, Asc_t, Asc_f])⟩
               ·
                intro D t w hD hp hcl hI rest hk
                obtain ⟨v59, v62, v63, v64, b68, O, ht, hs⟩ := hI
                have q5_ : D 5 = false := not_yet (hcl.get 5 (by decide)) 0 4 rfl hD
                have q6_ : D 6 = false := not_yet (hcl.get 6 (by decide)) 2 5 rfl q5_
                have q7_ : D 7 = false := not_yet (hcl.get 7 (by decide)) 0 6 rfl q6_
                have q8_ : D 8 = false := not_yet (hcl.get 8 (by decide)) 0 7 rfl q7_
                have q9_ : D 9 = false := not_yet (hcl.get 9 (by decide)) 0 7 rfl q7_
                have q11_ : D 11 = false := not_yet (hcl.get 11 (by decide)) 1 8 rfl q8_
                have q12_ : D 12 = false := not_yet (hcl.get 12 (by decide)) 0 9 rfl q9_
                have u0_ : upd D 4 0 = D 0 := rfl; have u1_ : upd D 4 1 = D 1 := rfl; have u2_ : upd D 4 2 = D 2 := rfl; have u3_ : upd D 4 3 = D 3 := rfl; have u4_ : upd D 4 4 = true := rfl; have u5_ : upd D 4 5 = D 5 := rfl; have u6_ : upd D 4 6 = D 6 := rfl; have u7_ : upd D 4 7 = D 7 := rfl; have u8_ : upd D 4 8 = D 8 := rfl; have u9_ : upd D 4 9 = D 9 := rfl; have u10_ : upd D 4 10 = D 10 := rfl; have u11_ : upd D 4 11 = D 11 := rfl; have u12_ : upd D 4 12 = D 12 := rfl
                simp only [hD, q5_, q6_, q7_, q8_, q9_, q11_, q12_, cnd_t, cnd_f, Asc_t, Asc_f] at ht hs
                subst ht
                refine g_op (v := v4) rfl rfl rfl ?_
                show G _ _ _ _ [_, _, _, _, _, _, _, _, _, _, _, _, _, _, _, _, _, _, _, _, _, _, _, _, _, _, _, _, _, _, _, _, _, _, _, _, _, _, _, _, _, _, _, _, _, _, _, _, _, _, _, _, _, _, _, _, _, _, _, _, _, _, _, _, _, _, _, _, _, _, _, _, _, _, _, _, _, _, _, _, _, _, _, _, _, _, _, _, _, _, _, _, _, _, _, _, _, _, _, _, _, _, _, _, _, _, _, _, _, _, _, _] _
                exact hk _ _ ⟨v59, v62, v63, v64, b68, O, (by simp only [u0_, u1_, u2_, u3_, u4_, u5_, u6_, u7_, u8_, u9_, u10_, u11_, u12_, q5_, q6_, q7_, q8_, q9_, q11_, q12_, cnd_t, cnd_f, Asc_t, Asc_f]), hs.cast (by first | rfl | simp only [List.take, List.drop, List.cons_append, List.nil_append, List.set_cons_zero, List.set_cons_succ, List.eraseIdx, u0_, u1_, u2_, u3_, u4_, u5_, u6_, u7_, u8_, u9_, u10_, u11_, u12_, q5_, q6_, q7_, q8_, q9_, q11_, q12_, cnd_t, cnd_f, Asc_t, Asc_f])⟩
               ·
                intro D t w hD hp hcl hI rest hk
                obtain ⟨v59, v62, v63, v64, b68, O, ht, hs⟩ := hI
                obtain ⟨p4_, p3_, _⟩ := hp
                obtain ⟨p2_, p1_, _⟩ := (hcl.get 3 (by decide)) p3_
                obtain ⟨p0_, _⟩ := (hcl.get 1 (by decide)) p1_
                have q6_ : D 6 = false := not_yet (hcl.get 6 (by decide)) 2 5 rfl hD
                have q7_ : D 7 = false := not_yet (hcl.get 7 (by decide)) 0 6 rfl q6_
                have q8_ : D 8 = false := not_yet (hcl.get 8 (by decide)) 0 7 rfl q7_
                have q9_ : D 9 = false := not_yet (hcl.get 9 (by decide)) 0 7 rfl q7_
                have q11_ : D 11 = false := not_yet (hcl.get 11 (by decide)) 1 8 rfl q8_
                have q12_ : D 12 = false := not_yet (hcl.get 12 (by decide)) 0 9 rfl q9_
                have u0_ : upd D 5 0 = D 0 := rfl; have u1_ : upd D 5 1 = D 1 := rfl; have u2_ : upd D 5 2 = D 2 := rfl; have u3_ : upd D 5 3 = D 3 := rfl; have u4_ : upd D 5 4 = D 4 := rfl; have u5_ : upd D 5 5 = true := rfl; have u6_ : upd D 5 6 = D 6 := rfl; have u7_ : upd D 5 7 = D 7 := rfl; have u8_ : upd D 5 8 = D 8 := rfl; have u9_ : upd D 5 9 = D 9 := rfl; have u10_ : upd D 5 10 = D 10 := rfl; have u11_ : upd D 5 11 = D 11 := rfl; have u12_ : upd D 5 12 = D 12 := rfl
                simp only [hD, p0_, p1_, p2_, p3_, p4_, q6_, q7_, q8_, q9_, q11_, q12_, cnd_t, cnd_f, Asc_t, Asc_f] at ht hs
                subst ht
                refine s_call (args := [v4]) rfl rfl (x_call rfl (callFunc_enter Try.func19 rfl rfl) rfl) (laws_toCaseS.calls (a1 := a3) (hs.rd hr2) Hr58) ?_
                intro v59 w hs2
                have hs : St _ [_, _, _, _, _, _, _, _, _, _, _, _, _, _, _, _, _, _, _] _ := hs.call hs2
                show G _ _ _ _ [_, _, _, _, _, _, _, _, _, _, _, _, _, _, _, _, _, _, _, _, _, _, _, _, _, _, _, _, _, _, _, _, _, _, _, _, _, _, _, _, _, _, _, _, _, _, _, _, _, _, _, _, _, _, _, _, _, _, _, _, _, _, _, _, _, _, _, _, _, _, _, _, _, _, _, _, _, _, _, _, _, _, _, _, _, _, _, _, _, _, _, _, _, _, _, _, _, _, _, _, _, _, _, _, _, _, _, _, _, _, _, _] _
                have hs := hs.fill 0 rfl
                exact hk _ _ ⟨v59, v62, v63, v64, b68, O, (by simp only [u0_, u1_, u2_, u3_, u4_, u5_, u6_, u7_, u8_, u9_, u10_, u11_, u12_, p0_, p1_, p2_, p3_, p4_, q6_, q7_, q8_, q9_, q11_, q12_, cnd_t, cnd_f, Asc_t, Asc_f]), hs.cast (by first | rfl | simp only [List.take, List.drop, List.cons_append, List.nil_append, List.set_cons_zero, List.set_cons_succ, List.eraseIdx, u0_, u1_, u2_, u3_, u4_, u5_, u6_, u7_, u8_, u9_, u10_, u11_, u12_, p0_, p1_, p2_, p3_, p4_, q6_, q7_, q8_, q9_, q11_, q12_, cnd_t, cnd_f, Asc_t, Asc_f])⟩
               ·
                intro D t w hD hp hcl hI rest hk
                obtain ⟨v59, v62, v63, v64, b68, O, ht, hs⟩ := hI
                obtain ⟨p1_, p3_, p5_, _, _⟩ := hp
                obtain ⟨p4_, _, _⟩ := (hcl.get 5 (by decide)) p5_
                obtain ⟨p2_, _, _⟩ := (hcl.get 3 (by decide)) p3_
                obtain ⟨p0_, _⟩ := (hcl.get 1 (by decide)) p1_
                have q7_ : D 7 = false := not_yet (hcl.get 7 (by decide)) 0 6 rfl hD
                have q8_ : D 8 = false := not_yet (hcl.get 8 (by decide)) 0 7 rfl q7_
                have q9_ : D 9 = false := not_yet (hcl.get 9 (by decide)) 0 7 rfl q7_
                have q11_ : D 11 = false := not_yet (hcl.get 11 (by decide)) 1 8 rfl q8_
                have q12_ : D 12 = false := not_yet (hcl.get 12 (by decide)) 0 9 rfl q9_
                have u0_ : upd D 6 0 = D 0 := rfl; have u1_ : upd D 6 1 = D 1 := rfl; have u2_ : upd D 6 2 = D 2 := rfl; have u3_ : upd D 6 3 = D 3 := rfl; have u4_ : upd D 6 4 = D 4 := rfl; have u5_ : upd D 6 5 = D 5 := rfl; have u6_ : upd D 6 6 = true := rfl; have u7_ : upd D 6 7 = D 7 := rfl; have u8_ : upd D 6 8 = D 8 := rfl; have u9_ : upd D 6 9 = D 9 := rfl; have u10_ : upd D 6 10 = D 10 := rfl; have u11_ : upd D 6 11 = D 11 := rfl; have u12_ : upd D 6 12 = D 12 := rfl
                simp only [hD, p0_, p1_, p2_, p3_, p4_, p5_, q7_, q8_, q9_, q11_, q12_, cnd_t, cnd_f, Asc_t, Asc_f] at ht hs
                subst ht
                refine s_call (args := [Value.agg (enc_S_laws_Task r56).toArray, Value.agg ((encA (encI .i8)) r57).toArray, v59]) rfl rfl (x_call rfl (callFunc_enter Try.func20 rfl rfl) rfl) (impl_SplitCases.calls (a1 := r56) (a2 := r57) (a3 := r58) (hs.row 0 rfl) Hr61) ?_
                rintro _ w ⟨v62, v63, v64, rfl, hs2⟩
                have hs : St _ [_, _, _, _, _, _, _, _, _, _, _, _, _, _, _, _, _, _, _, _, _] _ := hs.call hs2
                show G _ _ _ _ [_, _, _, _, _, _, _, _, _, _, _, _, _, _, _, _, _, _, _, _, _, _, _, _, _, _, _, _, _, _, _, _, _, _, _, _, _, _, _, _, _, _, _, _, _, _, _, _, _, _, _, _, _, _, _, _, _, _, _, _, _, _, _, _, _, _, _, _, _, _, _, _, _, _, _, _, _, _, _, _, _, _, _, _, _, _, _, _, _, _, _, _, _, _, _, _, _, _, _, _, _, _, _, _, _, _, _, _, _, _, _, _] _
                have hs := hs.fill 3 rfl
                have hs := hs.fill 3 rfl
                have hs := hs.fill 3 rfl
                exact hk _ _ ⟨v59, v62, v63, v64, b68, O, (by simp only [u0_, u1_, u2_, u3_, u4_, u5_, u6_, u7_, u8_, u9_, u10_, u11_, u12_, p0_, p1_, p2_, p3_, p4_, p5_, q7_, q8_, q9_, q11_, q12_, cnd_t, cnd_f, Asc_t, Asc_f]), hs.cast (by first | rfl | simp only [List.take, List.drop, List.cons_append, List.nil_append, List.set_cons_zero, List.set_cons_succ, List.eraseIdx, u0_, u1_, u2_, u3_, u4_, u5_, u6_, u7_, u8_, u9_, u10_, u11_, u12_, p0_, p1_, p2_, p3_, p4_, p5_, q7_, q8_, q9_, q11_, q12_, cnd_t, cnd_f, Asc_t, Asc_f])⟩
               ·
                intro D t w hD hp hcl hI rest hk
                obtain ⟨v59, v62, v63, v64, b68, O, ht, hs⟩ := hI
                obtain ⟨p6_, _⟩ := hp
                obtain ⟨p1_, p3_, p5_, _, _⟩ := (hcl.get 6 (by decide)) p6_
                obtain ⟨p4_, _, _⟩ := (hcl.get 5 (by decide)) p5_
                obtain ⟨p2_, _, _⟩ := (hcl.get 3 (by decide)) p3_
                obtain ⟨p0_, _⟩ := (hcl.get 1 (by decide)) p1_
                have q8_ : D 8 = false := not_yet (hcl.get 8 (by decide)) 0 7 rfl hD
                have q9_ : D 9 = false := not_yet (hcl.get 9 (by decide)) 0 7 rfl hD
                have q11_ : D 11 = false := not_yet (hcl.get 11 (by decide)) 1 8 rfl q8_
                have q12_ : D 12 = false := not_yet (hcl.get 12 (by decide)) 0 9 rfl q9_
                have u0_ : upd D 7 0 = D 0 := rfl; have u1_ : upd D 7 1 = D 1 := rfl; have u2_ : upd D 7 2 = D 2 := rfl; have u3_ : upd D 7 3 = D 3 := rfl; have u4_ : upd D 7 4 = D 4 := rfl; have u5_ : upd D 7 5 = D 5 := rfl; have u6_ : upd D 7 6 = D 6 := rfl; have u7_ : upd D 7 7 = true := rfl; have u8_ : upd D 7 8 = D 8 := rfl; have u9_ : upd D 7 9 = D 9 := rfl; have u10_ : upd D 7 10 = D 10 := rfl; have u11_ : upd D 7 11 = D 11 := rfl; have u12_ : upd D 7 12 = D 12 := rfl
                simp only [hD, p0_, p1_, p2_, p3_, p4_, p5_, p6_, q8_, q9_, q11_, q12_, cnd_t, cnd_f, Asc_t, Asc_f] at ht hs
                subst ht
                refine g_op (v := Value.tuple #[Value.agg (([v62, v63, v64] : List Value)).toArray, Value.int .i64 r61.2]) rfl rfl rfl ?_
                show G _ _ _ _ [_, _, _, _, _, _, _, _, _, _, _, _, _, _, _, _, _, _, _, _, _, _, _, _, _, _, _, _, _, _, _, _, _, _, _, _, _, _, _, _, _, _, _, _, _, _, _, _, _, _, _, _, _, _, _, _, _, _, _, _, _, _, _, _, _, _, _, _, _, _, _, _, _, _, _, _, _, _, _, _, _, _, _, _, _, _, _, _, _, _, _, _, _, _, _, _, _, _, _, _, _, _, _, _, _, _, _, _, _, _, _, _] _
                exact hk _ _ ⟨v59, v62, v63, v64, b68, O, (by simp only [u0_, u1_, u2_, u3_, u4_, u5_, u6_, u7_, u8_, u9_, u10_, u11_, u12_, p0_, p1_, p2_, p3_, p4_, p5_, p6_, q8_, q9_, q11_, q12_, cnd_t, cnd_f, Asc_t, Asc_f]), hs.cast (by first | rfl | simp only [List.take, List.drop, List.cons_append, List.nil_append, List.set_cons_zero, List.set_cons_succ, List.eraseIdx, u0_, u1_, u2_, u3_, u4_, u5_, u6_, u7_, u8_, u9_, u10_, u11_, u12_, p0_, p1_, p2_, p3_, p4_, p5_, p6_, q8_, q9_, q11_, q12_, cnd_t, cnd_f, Asc_t, Asc_f])⟩
               ·
                intro D t w hD hp hcl hI rest hk
                obtain ⟨v59, v62, v63, v64, b68, O, ht, hs⟩ := hI
                obtain ⟨p7_, _⟩ := hp
                obtain ⟨p6_, _⟩ := (hcl.get 7 (by decide)) p7_
                obtain ⟨p1_, p3_, p5_, _, _⟩ := (hcl.get 6 (by decide)) p6_
                obtain ⟨p4_, _, _⟩ := (hcl.get 5 (by decide)) p5_
                obtain ⟨p2_, _, _⟩ := (hcl.get 3 (by decide)) p3_
                obtain ⟨p0_, _⟩ := (hcl.get 1 (by decide)) p1_
                have q11_ : D 11 = false := not_yet (hcl.get 11 (by decide)) 1 8 rfl hD
                have q12_ : D 12 = false := not_yet (hcl.get 12 (by decide)) 1 11 rfl q11_
                have u0_ : upd D 8 0 = D 0 := rfl; have u1_ : upd D 8 1 = D 1 := rfl; have u2_ : upd D 8 2 = D 2 := rfl; have u3_ : upd D 8 3 = D 3 := rfl; have u4_ : upd D 8 4 = D 4 := rfl; have u5_ : upd D 8 5 = D 5 := rfl; have u6_ : upd D 8 6 = D 6 := rfl; have u7_ : upd D 8 7 = D 7 := rfl; have u8_ : upd D 8 8 = true := rfl; have u9_ : upd D 8 9 = D 9 := rfl; have u10_ : upd D 8 10 = D 10 := rfl; have u11_ : upd D 8 11 = D 11 := rfl; have u12_ : upd D 8 12 = D 12 := rfl
                simp only [hD, p0_, p1_, p2_, p3_, p4_, p5_, p6_, p7_, q11_, q12_, cnd_t, cnd_f, Asc_t, Asc_f] at ht hs
                subst ht
                refine g_op (v := Value.agg (([v62, v63, v64] : List Value)).toArray) rfl rfl rfl ?_
                show G _ _ _ _ [_, _, _, _, _, _, _, _, _, _, _, _, _, _, _, _, _, _, _, _, _, _, _, _, _, _, _, _, _, _, _, _, _, _, _, _, _, _, _, _, _, _, _, _, _, _, _, _, _, _, _, _, _, _, _, _, _, _, _, _, _, _, _, _, _, _, _, _, _, _, _, _, _, _, _, _, _, _, _, _, _, _, _, _, _, _, _, _, _, _, _, _, _, _, _, _, _, _, _, _, _, _, _, _, _, _, _, _, _, _, _, _] _
                exact hk _ _ ⟨v59, v62, v63, v64, b68, O, (by simp only [u0_, u1_, u2_, u3_, u4_, u5_, u6_, u7_, u8_, u9_, u10_, u11_, u12_, p0_, p1_, p2_, p3_, p4_, p5_, p6_, p7_, q11_, q12_, cnd_t, cnd_f, Asc_t, Asc_f]), hs.cast (by first | rfl | simp only [List.take, List.drop, List.cons_append, List.nil_append, List.set_cons_zero, List.set_cons_succ, List.eraseIdx, u0_, u1_, u2_, u3_, u4_, u5_, u6_, u7_, u8_, u9_, u10_, u11_, u12_, p0_, p1_, p2_, p3_, p4_, p5_, p6_, p7_, q11_, q12_, cnd_t, cnd_f, Asc_t, Asc_f])⟩
               ·
                intro D t w hD hp hcl hI rest hk
                obtain ⟨v59, v62, v63, v64, b68, O, ht, hs⟩ := hI
                obtain ⟨p7_, _⟩ := hp
                obtain ⟨p6_, _⟩ := (hcl.get 7 (by decide)) p7_
                obtain ⟨p1_, p3_, p5_, _, _⟩ := (hcl.get 6 (by decide)) p6_
                obtain ⟨p4_, _, _⟩ := (hcl.get 5 (by decide)) p5_
                obtain ⟨p2_, _, _⟩ := (hcl.get 3 (by decide)) p3_
                obtain ⟨p0_, _⟩ := (hcl.get 1 (by decide)) p1_
                have q12_ : D 12 = false := not_yet (hcl.get 12 (by decide)) 0 9 rfl hD
                have u0_ : upd D 9 0 = D 0 := rfl; have u1_ : upd D 9 1 = D 1 := rfl; have u2_ : upd D 9 2 = D 2 := rfl; have u3_ : upd D 9 3 = D 3 := rfl; have u4_ : upd D 9 4 = D 4 := rfl; have u5_ : upd D 9 5 = D 5 := rfl; have u6_ : upd D 9 6 = D 6 := rfl; have u7_ : upd D 9 7 = D 7 := rfl; have u8_ : upd D 9 8 = D 8 := rfl; have u9_ : upd D 9 9 = true := rfl; have u10_ : upd D 9 10 = D 10 := rfl; have u11_ : upd D 9 11 = D 11 := rfl; have u12_ : upd D 9 12 = D 12 := rfl
                simp only [hD, p0_, p1_, p2_, p3_, p4_, p5_, p6_, p7_, q12_, cnd_t, cnd_f, Asc_t, Asc_f] at ht hs
                subst ht
                refine g_op (v := Value.int .i64 r61.2) rfl rfl rfl ?_
                show G _ _ _ _ [_, _, _, _, _, _, _, _, _, _, _, _, _, _, _, _, _, _, _, _, _, _, _, _, _, _, _, _, _, _, _, _, _, _, _, _, _, _, _, _, _, _, _, _, _, _, _, _, _, _, _, _, _, _, _, _, _, _, _, _, _, _, _, _, _, _, _, _, _, _, _, _, _, _, _, _, _, _, _, _, _, _, _, _, _, _, _, _, _, _, _, _, _, _, _, _, _, _, _, _, _, _, _, _, _, _, _, _, _, _, _, _] _
                exact hk _ _ ⟨v59, v62, v63, v64, b68, O, (by simp only [u0_, u1_, u2_, u3_, u4_, u5_, u6_, u7_, u8_, u9_, u10_, u11_, u12_, p0_, p1_, p2_, p3_, p4_, p5_, p6_, p7_, q12_, cnd_t, cnd_f, Asc_t, Asc_f]), hs.cast (by first | rfl | simp only [List.take, List.drop, List.cons_append, List.nil_append, List.set_cons_zero, List.set_cons_succ, List.eraseIdx, u0_, u1_, u2_, u3_, u4_, u5_, u6_, u7_, u8_, u9_, u10_, u11_, u12_, p0_, p1_, p2_, p3_, p4_, p5_, p6_, p7_, q12_, cnd_t, cnd_f, Asc_t, Asc_f])⟩
               ·
                intro D t w hD hp hcl hI rest hk
                obtain ⟨v59, v62, v63, v64, b68, O, ht, hs⟩ := hI
                have q11_ : D 11 = false := not_yet (hcl.get 11 (by decide)) 0 10 rfl hD
                have q12_ : D 12 = false := not_yet (hcl.get 12 (by decide)) 1 11 rfl q11_
                have u0_ : upd D 10 0 = D 0 := rfl; have u1_ : upd D 10 1 = D 1 := rfl; have u2_ : upd D 10 2 = D 2 := rfl; have u3_ : upd D 10 3 = D 3 := rfl; have u4_ : upd D 10 4 = D 4 := rfl; have u5_ : upd D 10 5 = D 5 := rfl; have u6_ : upd D 10 6 = D 6 := rfl; have u7_ : upd D 10 7 = D 7 := rfl; have u8_ : upd D 10 8 = D 8 := rfl; have u9_ : upd D 10 9 = D 9 := rfl; have u10_ : upd D 10 10 = true := rfl; have u11_ : upd D 10 11 = D 11 := rfl; have u12_ : upd D 10 12 = D 12 := rfl
                simp only [hD, q11_, q12_, cnd_t, cnd_f, Asc_t, Asc_f] at ht hs
                subst ht
                refine s_alloc hs rfl rfl (z := (Value.agg #[Value.slice none 0 0, Value.slice none 0 0, Value.slice none 0 0])) (cs := (([Value.slice none 0 0, Value.slice none 0 0, Value.slice none 0 0] : List Value))) rfl (fun _ => rfl) rfl ?_
                intro b68 w hs
                show G _ _ _ _ [_, _, _, _, _, _, _, _, _, _, _, _, _, _, _, _, _, _, _, _, _, _, _, _, _, _, _, _, _, _, _, _, _, _, _, _, _, _, _, _, _, _, _, _, _, _, _, _, _, _, _, _, _, _, _, _, _, _, _, _, _, _, _, _, _, _, _, _, _, _, _, _, _, _, _, _, _, _, _, _, _, _, _, _, _, _, _, _, _, _, _, _, _, _, _, _, _, _, _, _, _, _, _, _, _, _, _, _, _, _, _, _] _
                have hs := hs.fill 4 rfl
                exact hk _ _ ⟨v59, v62, v63, v64, b68, O, (by simp only [u0_, u1_, u2_, u3_, u4_, u5_, u6_, u7_, u8_, u9_, u10_, u11_, u12_, q11_, q12_, cnd_t, cnd_f, Asc_t, Asc_f]), hs.cast (by first | rfl | simp only [List.take, List.drop, List.cons_append, List.nil_append, List.set_cons_zero, List.set_cons_succ, List.eraseIdx, u0_, u1_, u2_, u3_, u4_, u5_, u6_, u7_, u8_, u9_, u10_, u11_, u12_, q11_, q12_, cnd_t, cnd_f, Asc_t, Asc_f])⟩
               ·
                intro D t w hD hp hcl hI rest hk
                obtain ⟨v59, v62, v63, v64, b68, O, ht, hs⟩ := hI
                obtain ⟨p10_, p8_, p6_, p0_, p1_, p2_, p3_, p4_, p5_, _, p7_, _, _, _⟩ := hp
                have q12_ : D 12 = false := not_yet (hcl.get 12 (by decide)) 1 11 rfl hD
                have u0_ : upd D 11 0 = D 0 := rfl; have u1_ : upd D 11 1 = D 1 := rfl; have u2_ : upd D 11 2 = D 2 := rfl; have u3_ : upd D 11 3 = D 3 := rfl; have u4_ : upd D 11 4 = D 4 := rfl; have u5_ : upd D 11 5 = D 5 := rfl; have u6_ : upd D 11 6 = D 6 := rfl; have u7_ : upd D 11 7 = D 7 := rfl; have u8_ : upd D 11 8 = D 8 := rfl; have u9_ : upd D 11 9 = D 9 := rfl; have u10_ : upd D 11 10 = D 10 := rfl; have u11_ : upd D 11 11 = true := rfl; have u12_ : upd D 11 12 = D 12 := rfl
                simp only [hD, p0_, p1_, p2_, p3_, p4_, p5_, p6_, p7_, p8_, p10_, q12_, cnd_t, cnd_f, Asc_t, Asc_f] at ht hs
                subst ht
                have hs := hs.pull 4 rfl
                have hs : St _ [_, _, _, _, _, _, _, _, _, _, _, _, _, _, _, _, _, _] _ := hs
                refine s_storeAll (n := 3) hs rfl rfl rfl (vs := (([v62, v63, v64] : List Value))) rfl rfl rfl (fun _ => rfl) rfl (by intro v hv; simp only [List.mem_append, List.mem_cons, List.not_mem_nil, or_false] at hv; repeat (first | (subst hv; first | rfl | exact slOne (hs.row 2 rfl) | exact slOne (hs.row 3 rfl) | exact slOne (hs.row 4 rfl)) | (rcases hv with hv | hv))) ?_
                intro w hs
                show G _ _ _ _ [_, _, _, _, _, _, _, _, _, _, _, _, _, _, _, _, _, _, _, _, _, _, _, _, _, _, _, _, _, _, _, _, _, _, _, _, _, _, _, _, _, _, _, _, _, _, _, _, _, _, _, _, _, _, _, _, _, _, _, _, _, _, _, _, _, _, _, _, _, _, _, _, _, _, _, _, _, _, _, _, _, _, _, _, _, _, _, _, _, _, _, _, _, _, _, _, _, _, _, _, _, _, _, _, _, _, _, _, _, _, _, _] _
                have hs := hs.push 4 (by simp)
                exact hk _ _ ⟨v59, v62, v63, v64, b68, O, (by simp only [u0_, u1_, u2_, u3_, u4_, u5_, u6_, u7_, u8_, u9_, u10_, u11_, u12_, p0_, p1_, p2_, p3_, p4_, p5_, p6_, p7_, p8_, p10_, q12_, cnd_t, cnd_f, Asc_t, Asc_f]), hs.cast (by first | rfl | simp only [List.take, List.drop, List.cons_append, List.nil_append, List.set_cons_zero, List.set_cons_succ, List.eraseIdx, u0_, u1_, u2_, u3_, u4_, u5_, u6_, u7_, u8_, u9_, u10_, u11_, u12_, p0_, p1_, p2_, p3_, p4_, p5_, p6_, p7_, p8_, p10_, q12_, cnd_t, cnd_f, Asc_t, Asc_f])⟩
               ·
                intro D t w hD hp hcl hI rest hk
                obtain ⟨v59, v62, v63, v64, b68, O, ht, hs⟩ := hI
                obtain ⟨p9_, p11_, p0_, p1_, p2_, p3_, p4_, p5_, p6_, p7_, p8_, _, p10_, _, _⟩ := hp
                have u0_ : upd D 12 0 = D 0 := rfl; have u1_ : upd D 12 1 = D 1 := rfl; have u2_ : upd D 12 2 = D 2 := rfl; have u3_ : upd D 12 3 = D 3 := rfl; have u4_ : upd D 12 4 = D 4 := rfl; have u5_ : upd D 12 5 = D 5 := rfl; have u6_ : upd D 12 6 = D 6 := rfl; have u7_ : upd D 12 7 = D 7 := rfl; have u8_ : upd D 12 8 = D 8 := rfl; have u9_ : upd D 12 9 = D 9 := rfl; have u10_ : upd D 12 10 = D 10 := rfl; have u11_ : upd D 12 11 = D 11 := rfl; have u12_ : upd D 12 12 = true := rfl
                simp only [hD, p0_, p1_, p2_, p3_, p4_, p5_, p6_, p7_, p8_, p9_, p10_, p11_, cnd_t, cnd_f, Asc_t, Asc_f] at ht hs
                subst ht
                refine g_op (v := Value.int .i64 r61.2) rfl rfl rfl ?_
                show G _ _ _ _ [_, _, _, _, _, _, _, _, _, _, _, _, _, _, _, _, _, _, _, _, _, _, _, _, _, _, _, _, _, _, _, _, _, _, _, _, _, _, _, _, _, _, _, _, _, _, _, _, _, _, _, _, _, _, _, _, _, _, _, _, _, _, _, _, _, _, _, _, _, _, _, _, _, _, _, _, _, _, _, _, _, _, _, _, _, _, _, _, _, _, _, _, _, _, _, _, _, _, _, _, _, _, _, _, _, _, _, _, _, _, _, _] _
                exact hk _ _ ⟨v59, v62, v63, v64, b68, O, (by simp only [u0_, u1_, u2_, u3_, u4_, u5_, u6_, u7_, u8_, u9_, u10_, u11_, u12_, p0_, p1_, p2_, p3_, p4_, p5_, p6_, p7_, p8_, p9_, p10_, p11_, cnd_t, cnd_f, Asc_t, Asc_f]), hs.cast (by first | rfl | simp only [List.take, List.drop, List.cons_append, List.nil_append, List.set_cons_zero, List.set_cons_succ, List.eraseIdx, u0_, u1_, u2_, u3_, u4_, u5_, u6_, u7_, u8_, u9_, u10_, u11_, u12_, p0_, p1_, p2_, p3_, p4_, p5_, p6_, p7_, p8_, p9_, p10_, p11_, cnd_t, cnd_f, Asc_t, Asc_f])⟩
               ·
                intro D t w hall hI
                obtain ⟨v59, v62, v63, v64, b68, O, ht, hs⟩ := hI
                have p0_ : D 0 = true := hall 0 (by decide)
                have p1_ : D 1 = true := hall 1 (by decide)
                have p2_ : D 2 = true := hall 2 (by decide)
                have p3_ : D 3 = true := hall 3 (by decide)
                have p4_ : D 4 = true := hall 4 (by decide)
                have p5_ : D 5 = true := hall 5 (by decide)
                have p6_ : D 6 = true := hall 6 (by decide)
                have p7_ : D 7 = true := hall 7 (by decide)
                have p8_ : D 8 = true := hall 8 (by decide)
                have p9_ : D 9 = true := hall 9 (by decide)
                have p10_ : D 10 = true := hall 10 (by decide)
                have p11_ : D 11 = true := hall 11 (by decide)
                have p12_ : D 12 = true := hall 12 (by decide)
                simp only [p0_, p1_, p2_, p3_, p4_, p5_, p6_, p7_, p8_, p9_, p10_, p11_, p12_, cnd_t, cnd_f, Asc_t, Asc_f] at ht hs
                subst ht
                refine g_seq ?_
                refine g_seq ?_
                refine g_region ?_
                show G _ _ _ (.inRegion _ [0, 1, 2, 3, 4, 5, 6, 7, 8] :: _) _ _
                refine s_loadA rfl rfl (es := (([v62, v63, v64] : List Value))) rfl rfl (fun _ => rfl) (n := 3) (fun _ => rfl) rfl (cells_all (hs.cells 4 rfl)) ?_
                show G _ _ _ _ [_, _, _, _, _, _, _, _, _, _, _, _, _, _, _, _, _, _, _, _, _, _, _, _, _, _, _, _, _, _, _, _, _, _, _, _, _, _, _, _, _, _, _, _, _, _, _, _, _, _, _, _, _, _, _, _, _, _, _, _, _, _, _, _, _, _, _, _, _, _, _, _, _, _, _, _, _, _, _, _, _, _, _, _, _, _, _, _, _, _, _, _, _, _, _, _, _, _, _, _, _, _, _, _, _, _, _, _, _, _, _, _] _
                refine s_loadA rfl rfl (es := (([v16, v17, v18] : List Value))) rfl rfl (fun _ => rfl) (n := 3) (fun _ => rfl) rfl (cells_all (hs.cells 15 rfl)) ?_
                show G _ _ _ _ [_, _, _, _, _, _, _, _, _, _, _, _, _, _, _, _, _, _, _, _, _, _, _, _, _, _, _, _, _, _, _, _, _, _, _, _, _, _, _, _, _, _, _, _, _, _, _, _, _, _, _, _, _, _, _, _, _, _, _, _, _, _, _, _, _, _, _, _, _, _, _, _, _, _, _, _, _, _, _, _, _, _, _, _, _, _, _, _, _, _, _, _, _, _, _, _, _, _, _, _, _, _, _, _, _, _, _, _, _, _, _, _] _
                obtain ⟨r75, Hr75, H⟩ := bind_get H
                refine s_call (args := [Value.agg (([v62, v63, v64] : List Value)).toArray, Value.agg (([v16, v17, v18] : List Value)).toArray]) rfl rfl (x_call rfl (callFunc_enter Try.func21 rfl rfl) rfl) (laws_eqCaseSA3.calls (a1 := (⟨[(r61.1.get 0 []), (r61.1.get 1 []), (r61.1.get 2 [])], rfl⟩ : (Ar (List S_impl_Case) 3))) (a8 := (⟨[(r15.1.get 0 []), (r15.1.get 1 []), (r15.1.get 2 [])], rfl⟩ : (Ar (List S_impl_Case) 3))) (hs.row 1 rfl) (hs.row 2 rfl) (hs.row 3 rfl) (hs.row 12 rfl) (hs.row 13 rfl) (hs.row 14 rfl) Hr75) ?_
                rintro _ w ⟨rfl, hs2⟩
                have hs : St _ [_, _, _, _, _, _, _, _, _, _, _, _, _, _, _, _, _, _] _ := hs.call hs2
                cases r75 with
                | true =>
                  rw [if_pos rfl] at H
                  show G _ _ _ _ [_, _, _, _, _, _, _, _, _, _, _, _, _, _, _, _, _, _, _, _, _, _, _, _, _, _, _, _, _, _, _, _, _, _, _, _, _, _, _, _, _, _, _, _, _, _, _, _, _, _, _, _, _, _, _, _, _, _, _, _, _, _, _, _, _, _, _, _, _, _, _, _, _, _, _, _, _, _, _, _, _, _, _, _, _, _, _, _, _, _, _, _, _, _, _, _, _, _, _, _, _, _, _, _, _, _, _, _, _, _, _, _] _
                  refine g_op (v := Value.bool false) rfl rfl rfl ?_
                  show G _ _ _ _ [_, _, _, _, _, _, _, _, _, _, _, _, _, _, _, _, _, _, _, _, _, _, _, _, _, _, _, _, _, _, _, _, _, _, _, _, _, _, _, _, _, _, _, _, _, _, _, _, _, _, _, _, _, _, _, _, _, _, _, _, _, _, _, _, _, _, _, _, _, _, _, _, _, _, _, _, _, _, _, _, _, _, _, _, _, _, _, _, _, _, _, _, _, _, _, _, _, _, _, _, _, _, _, _, _, _, _, _, _, _, _, _] _
                  refine g_op (v := Value.bool false) rfl rfl rfl ?_
                  refine g_op (v := Value.int .i64 r61.2) rfl rfl rfl ?_
                  refine g_op (v := Value.int .i64 r15.2) rfl rfl rfl ?_
                  refine g_op_b (B := r61.2 != r15.2) rfl rfl rfl ?_ ?_
                  ·
                   intro hb
                   rw [if_neg (b_bne_t hb)] at H
                   show G _ _ _ _ [_, _, _, _, _, _, _, _, _, _, _, _, _, _, _, _, _, _, _, _, _, _, _, _, _, _, _, _, _, _, _, _, _, _, _, _, _, _, _, _, _, _, _, _, _, _, _, _, _, _, _, _, _, _, _, _, _, _, _, _, _, _, _, _, _, _, _, _, _, _, _, _, _, _, _, _, _, _, _, _, _, _, _, _, _, _, _, _, _, _, _, _, _, _, _, _, _, _, _, _, _, _, _, _, _, _, _, _, _, _, _, _] _
                   refine g_op (v := Value.bool true) rfl rfl rfl ?_
                   show G _ _ _ _ [_, _, _, _, _, _, _, _, _, _, _, _, _, _, _, _, _, _, _, _, _, _, _, _, _, _, _, _, _, _, _, _, _, _, _, _, _, _, _, _, _, _, _, _, _, _, _, _, _, _, _, _, _, _, _, _, _, _, _, _, _, _, _, _, _, _, _, _, _, _, _, _, _, _, _, _, _, _, _, _, _, _, _, _, _, _, _, _, _, _, _, _, _, _, _, _, _, _, _, _, _, _, _, _, _, _, _, _, _, _, _, _] _
                   refine g_ops_nil ?_
                   refine g_cond_true rfl ?_
                   refine g_seq ?_
                   refine g_region ?_
                   show G _ _ _ (.inRegion _ [0] :: _) _ _
                   refine g_op (v := Value.bool false) rfl rfl rfl ?_
                   show G _ _ _ _ [_, _, _, _, _, _, _, _, _, _, _, _, _, _, _, _, _, _, _, _, _, _, _, _, _, _, _, _, _, _, _, _, _, _, _, _, _, _, _, _, _, _, _, _, _, _, _, _, _, _, _, _, _, _, _, _, _, _, _, _, _, _, _, _, _, _, _, _, _, _, _, _, _, _, _, _, _, _, _, _, _, _, _, _, _, _, _, _, _, _, _, _, _, _, _, _, _, _, _, _, _, _, _, _, _, _, _, _, _, _, _, _] _
                   refine g_ops_nil ?_
                   obtain rfl := Option.some.inj H
                   refine g_ret Try.func5 (v := Value.bool false) (res1 rfl rfl) ?_
                   have hs : St _ [] _ := St.take (Γ' := [_, _, _, _, _, _, _, _, _, _, _, _, _, _, _, _, _, _]) hs
                   exact ⟨_, rfl, rfl, hs⟩
                  ·
                   intro hb
                   rw [if_pos (b_bne_f hb)] at H
                   show G _ _ _ _ [_, _, _, _, _, _, _, _, _, _, _, _, _, _, _, _, _, _, _, _, _, _, _, _, _, _, _, _, _, _, _, _, _, _, _, _, _, _, _, _, _, _, _, _, _, _, _, _, _, _, _, _, _, _, _, _, _, _, _, _, _, _, _, _, _, _, _, _, _, _, _, _, _, _, _, _, _, _, _, _, _, _, _, _, _, _, _, _, _, _, _, _, _, _, _, _, _, _, _, _, _, _, _, _, _, _, _, _, _, _, _, _] _
                   refine g_op (v := Value.bool false) rfl rfl rfl ?_
                   show G _ _ _ _ [_, _, _, _, _, _, _, _, _, _, _, _, _, _, _, _, _, _, _, _, _, _, _, _, _, _, _, _, _, _, _, _, _, _, _, _, _, _, _, _, _, _, _, _, _, _, _, _, _, _, _, _, _, _, _, _, _, _, _, _, _, _, _, _, _, _, _, _, _, _, _, _, _, _, _, _, _, _, _, _, _, _, _, _, _, _, _, _, _, _, _, _, _, _, _, _, _, _, _, _, _, _, _, _, _, _, _, _, _, _, _, _] _
                   refine g_ops_nil ?_
                   refine g_cond_false rfl ?_
                   refine g_skip ?_
                   refine g_seq ?_
                   refine g_region ?_
                   show G _ _ _ (.inRegion _ [0] :: _) _ _
                   refine g_op (v := Value.int .i64 1) rfl rfl rfl ?_
                   show G _ _ _ _ [_, _, _, _, _, _, _, _, _, _, _, _, _, _, _, _, _, _, _, _, _, _, _, _, _, _, _, _, _, _, _, _, _, _, _, _, _, _, _, _, _, _, _, _, _, _, _, _, _, _, _, _, _, _, _, _, _, _, _, _, _, _, _, _, _, _, _, _, _, _, _, _, _, _, _, _, _, _, _, _, _, _, _, _, _, _, _, _, _, _, _, _, _, _, _, _, _, _, _, _, _, _, _, _, _, _, _, _, _, _, _, _] _
                   refine g_ops_nil ?_
                   refine g_seq ?_
                   refine g_region ?_
                   show G _ _ _ (.inRegion _ [0, 1, 2, 3] :: _) _ _
                   refine s_loadA rfl rfl (es := (([v35, v36, v37] : List Value))) rfl rfl (fun _ => rfl) (n := 3) (fun _ => rfl) rfl (cells_all (hs.cells 10 rfl)) ?_
                   show G _ _ _ _ [_, _, _, _, _, _, _, _, _, _, _, _, _, _, _, _, _, _, _, _, _, _, _, _, _, _, _, _, _, _, _, _, _, _, _, _, _, _, _, _, _, _, _, _, _, _, _, _, _, _, _, _, _, _, _, _, _, _, _, _, _, _, _, _, _, _, _, _, _, _, _, _, _, _, _, _, _, _, _, _, _, _, _, _, _, _, _, _, _, _, _, _, _, _, _, _, _, _, _, _, _, _, _, _, _, _, _, _, _, _, _, _] _
                   refine g_op (v := Value.int .i64 1) rfl rfl rfl ?_
                   obtain ⟨r76, Hr76, H⟩ := bind_get H
                   refine s_call (args := [Value.agg (([v35, v36, v37] : List Value)).toArray, Value.int .i64 1]) rfl rfl (x_call rfl (callFunc_enter Try.func25 rfl rfl) rfl) (laws_heldCaseSA3.calls (a1 := (⟨[r54.2.1, r54.2.2.1, r54.2.2.2], rfl⟩ : (Ar (List S_impl_Case) 3))) (a8 := 1) (hs.row 5 rfl) (hs.row 6 rfl) (hs.row 7 rfl) Hr76) ?_
                   rintro _ w ⟨rfl, hs2⟩
                   have hs : St _ [_, _, _, _, _, _, _, _, _, _, _, _, _, _, _, _, _, _] _ := hs.call hs2
                   show G _ _ _ _ [_, _, _, _, _, _, _, _, _, _, _, _, _, _, _, _, _, _, _, _, _, _, _, _, _, _, _, _, _, _, _, _, _, _, _, _, _, _, _, _, _, _, _, _, _, _, _, _, _, _, _, _, _, _, _, _, _, _, _, _, _, _, _, _, _, _, _, _, _, _, _, _, _, _, _, _, _, _, _, _, _, _, _, _, _, _, _, _, _, _, _, _, _, _, _, _, _, _, _, _, _, _, _, _, _, _, _, _, _, _, _, _] _
                   refine g_op (v := Value.int .i64 r76) rfl rfl rfl ?_
                   show G _ _ _ _ [_, _, _, _, _, _, _, _, _, _, _, _, _, _, _, _, _, _, _, _, _, _, _, _, _, _, _, _, _, _, _, _, _, _, _, _, _, _, _, _, _, _, _, _, _, _, _, _, _, _, _, _, _, _, _, _, _, _, _, _, _, _, _, _, _, _, _, _, _, _, _, _, _, _, _, _, _, _, _, _, _, _, _, _, _, _, _, _, _, _, _, _, _, _, _, _, _, _, _, _, _, _, _, _, _, _, _, _, _, _, _, _] _
                   refine g_ops_nil ?_
                   refine g_seq ?_
                   refine g_seq ?_
                   refine g_region ?_
                   show G _ _ _ (.inRegion _ [0, 1] :: _) _ _
                   refine g_op (v := Value.int .i64 r76) rfl rfl rfl ?_
                   refine g_op_b (B := decide (r76 < 0)) rfl rfl rfl ?_ ?_
                   ·
                    intro hb
                    rw [if_pos (b_dec_t hb)] at H
                    show G _ _ _ _ [_, _, _, _, _, _, _, _, _, _, _, _, _, _, _, _, _, _, _, _, _, _, _, _, _, _, _, _, _, _, _, _, _, _, _, _, _, _, _, _, _, _, _, _, _, _, _, _, _, _, _, _, _, _, _, _, _, _, _, _, _, _, _, _, _, _, _, _, _, _, _, _, _, _, _, _, _, _, _, _, _, _, _, _, _, _, _, _, _, _, _, _, _, _, _, _, _, _, _, _, _, _, _, _, _, _, _, _, _, _, _, _] _
                    refine g_ops_nil ?_
                    refine g_cond_true rfl ?_
                    refine g_seq ?_
                    refine g_region ?_
                    show G _ _ _ (.inRegion _ [0] :: _) _ _
                    refine g_op (v := Value.bool false) rfl rfl rfl ?_
                    show G _ _ _ _ [_, _, _, _, _, _, _, _, _, _, _, _, _, _, _, _, _, _, _, _, _, _, _, _, _, _, _, _, _, _, _, _, _, _, _, _, _, _, _, _, _, _, _, _, _, _, _, _, _, _, _, _, _, _, _, _, _, _, _, _, _, _, _, _, _, _, _, _, _, _, _, _, _, _, _, _, _, _, _, _, _, _, _, _, _, _, _, _, _, _, _, _, _, _, _, _, _, _, _, _, _, _, _, _, _, _, _, _, _, _, _, _] _
                    refine g_ops_nil ?_
                    obtain rfl := Option.some.inj H
                    refine g_ret Try.func5 (v := Value.bool false) (res1 rfl rfl) ?_
                    have hs : St _ [] _ := St.take (Γ' := [_, _, _, _, _, _, _, _, _, _, _, _, _, _, _, _, _, _]) hs
                    exact ⟨_, rfl, rfl, hs⟩
                   ·
                    intro hb
                    rw [if_neg (b_dec_f hb)] at H
                    show G _ _ _ _ [_, _, _, _, _, _, _, _, _, _, _, _, _, _, _, _, _, _, _, _, _, _, _, _, _, _, _, _, _, _, _, _, _, _, _, _, _, _, _, _, _, _, _, _, _, _, _, _, _, _, _, _, _, _, _, _, _, _, _, _, _, _, _, _, _, _, _, _, _, _, _, _, _, _, _, _, _, _, _, _, _, _, _, _, _, _, _, _, _, _, _, _, _, _, _, _, _, _, _, _, _, _, _, _, _, _, _, _, _, _, _, _] _
                    refine g_ops_nil ?_
                    refine g_cond_false rfl ?_
                    refine g_skip ?_
                    refine g_seq ?_
                    refine g_seq ?_
                    refine g_region ?_
                    show G _ _ _ (.inRegion _ [0, 1, 2] :: _) _ _
                    refine g_op (v := Value.int .i64 r76) rfl rfl rfl ?_
                    refine g_op (v := Value.int .i64 r54.1) rfl rfl rfl ?_
                    refine g_op_b (B := r76 != r54.1) rfl rfl rfl ?_ ?_
                    ·
                     intro hb
                     rw [if_neg (b_bne_t hb)] at H
                     show G _ _ _ _ [_, _, _, _, _, _, _, _, _, _, _, _, _, _, _, _, _, _, _, _, _, _, _, _, _, _, _, _, _, _, _, _, _, _, _, _, _, _, _, _, _, _, _, _, _, _, _, _, _, _, _, _, _, _, _, _, _, _, _, _, _, _, _, _, _, _, _, _, _, _, _, _, _, _, _, _, _, _, _, _, _, _, _, _, _, _, _, _, _, _, _, _, _, _, _, _, _, _, _, _, _, _, _, _, _, _, _, _, _, _, _, _] _
                     refine g_ops_nil ?_
                     refine g_cond_true rfl ?_
                     refine g_seq ?_
                     refine g_region ?_
                     show G _ _ _ (.inRegion _ [0] :: _) _ _
                     refine g_op (v := Value.bool false) rfl rfl rfl ?_
                     show G _ _ _ _ [_, _, _, _, _, _, _, _, _, _, _, _, _, _, _, _, _, _, _, _, _, _, _, _, _, _, _, _, _, _, _, _, _, _, _, _, _, _, _, _, _, _, _, _, _, _, _, _, _, _, _, _, _, _, _, _, _, _, _, _, _, _, _, _, _, _, _, _, _, _, _, _, _, _, _, _, _, _, _, _, _, _, _, _, _, _, _, _, _, _, _, _, _, _, _, _, _, _, _, _, _, _, _, _, _, _, _, _, _, _, _, _] _
                     refine g_ops_nil ?_
                     obtain rfl := Option.some.inj H
                     refine g_ret Try.func5 (v := Value.bool false) (res1 rfl rfl) ?_
                     have hs : St _ [] _ := St.take (Γ' := [_, _, _, _, _, _, _, _, _, _, _, _, _, _, _, _, _, _]) hs
                     exact ⟨_, rfl, rfl, hs⟩
                    ·
                     intro hb
                     rw [if_pos (b_bne_f hb)] at H
                     show G _ _ _ _ [_, _, _, _, _, _, _, _, _, _, _, _, _, _, _, _, _, _, _, _, _, _, _, _, _, _, _, _, _, _, _, _, _, _, _, _, _, _, _, _, _, _, _, _, _, _, _, _, _, _, _, _, _, _, _, _, _, _, _, _, _, _, _, _, _, _, _, _, _, _, _, _, _, _, _, _, _, _, _, _, _, _, _, _, _, _, _, _, _, _, _, _, _, _, _, _, _, _, _, _, _, _, _, _, _, _, _, _, _, _, _, _] _
                     refine g_ops_nil ?_
                     refine g_cond_false rfl ?_
                     refine g_skip ?_
                     refine g_seq ?_
                     refine g_region ?_
                     show G _ _ _ (.inRegion _ [0] :: _) _ _
                     refine g_op (v := Value.bool true) rfl rfl rfl ?_
                     show G _ _ _ _ [_, _, _, _, _, _, _, _, _, _, _, _, _, _, _, _, _, _, _, _, _, _, _, _, _, _, _, _, _, _, _, _, _, _, _, _, _, _, _, _, _, _, _, _, _, _, _, _, _, _, _, _, _, _, _, _, _, _, _, _, _, _, _, _, _, _, _, _, _, _, _, _, _, _, _, _, _, _, _, _, _, _, _, _, _, _, _, _, _, _, _, _, _, _, _, _, _, _, _, _, _, _, _, _, _, _, _, _, _, _, _, _] _
                     refine g_ops_nil ?_
                     obtain rfl := Option.some.inj H
                     refine g_ret Try.func5 (v := Value.bool true) (res1 rfl rfl) ?_
                     have hs : St _ [] _ := St.take (Γ' := [_, _, _, _, _, _, _, _, _, _, _, _, _, _, _, _, _, _]) hs
                     exact ⟨_, rfl, rfl, hs⟩
                | false =>
                  rw [if_neg Bool.false_ne_true] at H
                  show G _ _ _ _ [_, _, _, _, _, _, _, _, _, _, _, _, _, _, _, _, _, _, _, _, _, _, _, _, _, _, _, _, _, _, _, _, _, _, _, _, _, _, _, _, _, _, _, _, _, _, _, _, _, _, _, _, _, _, _, _, _, _, _, _, _, _, _, _, _, _, _, _, _, _, _, _, _, _, _, _, _, _, _, _, _, _, _, _, _, _, _, _, _, _, _, _, _, _, _, _, _, _, _, _, _, _, _, _, _, _, _, _, _, _, _, _] _
                  refine g_op (v := Value.bool true) rfl rfl rfl ?_
                  show G _ _ _ _ [_, _, _, _, _, _, _, _, _, _, _, _, _, _, _, _, _, _, _, _, _, _, _, _, _, _, _, _, _, _, _, _, _, _, _, _, _, _, _, _, _, _, _, _, _, _, _, _, _, _, _, _, _, _, _, _, _, _, _, _, _, _, _, _, _, _, _, _, _, _, _, _, _, _, _, _, _, _, _, _, _, _, _, _, _, _, _, _, _, _, _, _, _, _, _, _, _, _, _, _, _, _, _, _, _, _, _, _, _, _, _, _] _
                  refine g_op (v := Value.bool true) rfl rfl rfl ?_
                  refine g_op_not rfl rfl ?_
                  refine g_op_not rfl rfl ?_
                  refine g_op_not rfl rfl ?_
                  show G _ _ _ _ [_, _, _, _, _, _, _, _, _, _, _, _, _, _, _, _, _, _, _, _, _, _, _, _, _, _, _, _, _, _, _, _, _, _, _, _, _, _, _, _, _, _, _, _, _, _, _, _, _, _, _, _, _, _, _, _, _, _, _, _, _, _, _, _, _, _, _, _, _, _, _, _, _, _, _, _, _, _, _, _, _, _, _, _, _, _, _, _, _, _, _, _, _, _, _, _, _, _, _, _, _, _, _, _, _, _, _, _, _, _, _, _] _
                  refine g_op (v := Value.bool true) rfl rfl rfl ?_
                  show G _ _ _ _ [_, _, _, _, _, _, _, _, _, _, _, _, _, _, _, _, _, _, _, _, _, _, _, _, _, _, _, _, _, _, _, _, _, _, _, _, _, _, _, _, _, _, _, _, _, _, _, _, _, _, _, _, _, _, _, _, _, _, _, _, _, _, _, _, _, _, _, _, _, _, _, _, _, _, _, _, _, _, _, _, _, _, _, _, _, _, _, _, _, _, _, _, _, _, _, _, _, _, _, _, _, _, _, _, _, _, _, _, _, _, _, _] _
                  refine g_ops_nil ?_
                  refine g_cond_true rfl ?_
                  refine g_seq ?_
                  refine g_region ?_
                  show G _ _ _ (.inRegion _ [0] :: _) _ _
                  refine g_op (v := Value.bool false) rfl rfl rfl ?_
                  show G _ _ _ _ [_, _, _, _, _, _, _, _, _, _, _, _, _, _, _, _, _, _, _, _, _, _, _, _, _, _, _, _, _, _, _, _, _, _, _, _, _, _, _, _, _, _, _, _, _, _, _, _, _, _, _, _, _, _, _, _, _, _, _, _, _, _, _, _, _, _, _, _, _, _, _, _, _, _, _, _, _, _, _, _, _, _, _, _, _, _, _, _, _, _, _, _, _, _, _, _, _, _, _, _, _, _, _, _, _, _, _, _, _, _, _, _] _
                  refine g_ops_nil ?_
                  obtain rfl := Option.some.inj H
                  refine g_ret Try.func5 (v := Value.bool false) (res1 rfl rfl) ?_
                  have hs : St _ [] _ := St.take (Γ' := [_, _, _, _, _, _, _, _, _, _, _, _, _, _, _, _, _, _]) hs
                  exact ⟨_, rfl, rfl, hs⟩
        | false =>
          rw [if_neg Bool.false_ne_true] at H
          show G _ _ _ _ [_, _, _, _, _, _, _, _, _, _, _, _, _, _, _, _, _, _, _, _, _, _, _, _, _, _, _, _, _, _, _, _, _, _, _, _, _, _, _, _, _, _, _, _, _, _, _, _, _, _, _, _, _, _, _, _, _, _, _, _, _, _, _, _, _, _, _, _, _, _, _, _, _, _, _, _, _, _, _, _, _, _, _, _, _, _, _, _, _, _, _, _, _, _, _, _, _, _, _, _, _, _, _, _, _, _, _, _, _, _, _, _] _
          refine g_op (v := Value.bool true) rfl rfl rfl ?_
          show G _ _ _ _ [_, _, _, _, _, _, _, _, _, _, _, _, _, _, _, _, _, _, _, _, _, _, _, _, _, _, _, _, _, _, _, _, _, _, _, _, _, _, _, _, _, _, _, _, _, _, _, _, _, _, _, _, _, _, _, _, _, _, _, _, _, _, _, _, _, _, _, _, _, _, _, _, _, _, _, _, _, _, _, _, _, _, _, _, _, _, _, _, _, _, _, _, _, _, _, _, _, _, _, _, _, _, _, _, _, _, _, _, _, _, _, _] _
          refine g_ops_nil ?_
          refine g_cond_true rfl ?_
          refine g_seq ?_
          refine g_region ?_
          show G _ _ _ (.inRegion _ [0] :: _) _ _
          refine g_op (v := Value.bool false) rfl rfl rfl ?_
          show G _ _ _ _ [_, _, _, _, _, _, _, _, _, _, _, _, _, _, _, _, _, _, _, _, _, _, _, _, _, _, _, _, _, _, _, _, _, _, _, _, _, _, _, _, _, _, _, _, _, _, _, _, _, _, _, _, _, _, _, _, _, _, _, _, _, _, _, _, _, _, _, _, _, _, _, _, _, _, _, _, _, _, _, _, _, _, _, _, _, _, _, _, _, _, _, _, _, _, _, _, _, _, _, _, _, _, _, _, _, _, _, _, _, _, _, _] _
          refine g_ops_nil ?_
          obtain rfl := Option.some.inj H
          refine g_ret Try.func5 (v := Value.bool false) (res1 rfl rfl) ?_
          have hs : St _ [] _ := St.take (Γ' := [_, _, _, _, _, _, _, _, _, _, _, _, _]) hs
          exact ⟨_, rfl, rfl, hs⟩
     | false =>
       rw [if_neg Bool.false_ne_true] at H
       show G _ _ _ _ [_, _, _, _, _, _, _, _, _, _, _, _, _, _, _, _, _, _, _, _, _, _, _, _, _, _, _, _, _, _, _, _, _, _, _, _, _, _, _, _, _, _, _, _, _, _, _, _, _, _, _, _, _, _, _, _, _, _, _, _, _, _, _, _, _, _, _, _, _, _, _, _, _, _, _, _, _, _, _, _, _, _, _, _, _, _, _, _, _, _, _, _, _, _, _, _, _, _, _, _, _, _, _, _, _, _, _, _, _, _, _, _] _
       refine g_op (v := Value.bool true) rfl rfl rfl ?_
       show G _ _ _ _ [_, _, _, _, _, _, _, _, _, _, _, _, _, _, _, _, _, _, _, _, _, _, _, _, _, _, _, _, _, _, _, _, _, _, _, _, _, _, _, _, _, _, _, _, _, _, _, _, _, _, _, _, _, _, _, _, _, _, _, _, _, _, _, _, _, _, _, _, _, _, _, _, _, _, _, _, _, _, _, _, _, _, _, _, _, _, _, _, _, _, _, _, _, _, _, _, _, _, _, _, _, _, _, _, _, _, _, _, _, _, _, _] _
       refine g_op (v := Value.bool true) rfl rfl rfl ?_
       refine g_op_not rfl rfl ?_
       refine g_op_not rfl rfl ?_
       refine g_op_not rfl rfl ?_
       show G _ _ _ _ [_, _, _, _, _, _, _, _, _, _, _, _, _, _, _, _, _, _, _, _, _, _, _, _, _, _, _, _, _, _, _, _, _, _, _, _, _, _, _, _, _, _, _, _, _, _, _, _, _, _, _, _, _, _, _, _, _, _, _, _, _, _, _, _, _, _, _, _, _, _, _, _, _, _, _, _, _, _, _, _, _, _, _, _, _, _, _, _, _, _, _, _, _, _, _, _, _, _, _, _, _, _, _, _, _, _, _, _, _, _, _, _] _
       refine g_op (v := Value.bool true) rfl rfl rfl ?_
       show G _ _ _ _ [_, _, _, _, _, _, _, _, _, _, _, _, _, _, _, _, _, _, _, _, _, _, _, _, _, _, _, _, _, _, _, _, _, _, _, _, _, _, _, _, _, _, _, _, _, _, _, _, _, _, _, _, _, _, _, _, _, _, _, _, _, _, _, _, _, _, _, _, _, _, _, _, _, _, _, _, _, _, _, _, _, _, _, _, _, _, _, _, _, _, _, _, _, _, _, _, _, _, _, _, _, _, _, _, _, _, _, _, _, _, _, _] _
       refine g_ops_nil ?_
       refine g_cond_true rfl ?_
       refine g_seq ?_
       refine g_region ?_
       show G _ _ _ (.inRegion _ [0] :: _) _ _
       refine g_op (v := Value.bool false) rfl rfl rfl ?_
       show G _ _ _ _ [_, _, _, _, _, _, _, _, _, _, _, _, _, _, _, _, _, _, _, _, _, _, _, _, _, _, _, _, _, _, _, _, _, _, _, _, _, _, _, _, _, _, _, _, _, _, _, _, _, _, _, _, _, _, _, _, _, _, _, _, _, _, _, _, _, _, _, _, _, _, _, _, _, _, _, _, _, _, _, _, _, _, _, _, _, _, _, _, _, _, _, _, _, _, _, _, _, _, _, _, _, _, _, _, _, _, _, _, _, _, _, _] _
       refine g_ops_nil ?_
       obtain rfl := Option.some.inj H
       refine g_ret Try.func5 (v := Value.bool false) (res1 rfl rfl) ?_
       have hs : St _ [] _ := St.take (Γ' := [_, _, _, _, _, _, _, _, _, _, _, _]) hs
       exact ⟨_, rfl, rfl, hs⟩

end Go.Proofs.YtcocgeodfbiehaaX
