/- Contracts, printed by gen.py. -/
import Derived.Test.YtjagkhjbbdfkaaaXT
import Derived.Test.YtjagkhjbbdfkaaaProg
import Derived.Test.YtjagkhjbbdfkaaaXRowR
import Derived.Test.YtjagkhjbbdfkaaaXSeg
import Derived.Test.YtjagkhjbbdfkaaaXKey
import Derived.Test.YtjagkhjbbdfkaaaXIter
import Derived.Test.YtjagkhjbbdfkaaaXRow2
import Derived.Test.YtjagkhjbbdfkaaaFBX
import Derived.Test.YtjagkhjbbdfkaaaXDel
import Derived.Test.YtjagkhjbbdfkaaaXShelf
import Derived.Test.YtjagkhjbbdfkaaaXC0
namespace Go.Proofs.YtjagkhjbbdfkaaaX
open Go Go.RowKit Go.Proofs
set_option linter.unusedVariables false
set_option linter.unusedSimpArgs false
/- function 34 slices_insertionSortOrdered_int16 -/
def slices_insertionSortOrdered_int16.post (wb : World) (Z : As) (v2 : Value) (r : (List Int)) (v : Value) (w : World) : Prop := v = Value.tuple #[] ∧ St wb [Row 41 (K.int .i16) v2 r, Z] w
set_option maxHeartbeats 8000000 in
set_option maxRecDepth 100000 in
theorem slices_insertionSortOrdered_int16.calls {N : Nat} {a1 : (List Int)} {a4 : Int} {a5 : Int} {v2 : Value} {wb : World} {Z : As} {w0 : World} {r : (List Int)} (hs : St wb [Row 41 (K.int .i16) v2 a1, Z] w0) (H : slices_insertionSortOrdered_int16.f N a1 a4 a5 = some r) :
    Calls Try.prog 34 #[v2, Value.int .i64 a4, Value.int .i64 a5] w0 fun e w => ∃ v, e = .returned v ∧ slices_insertionSortOrdered_int16.post wb Z v2 r v w := by
  unfold slices_insertionSortOrdered_int16.f at H
  refine calls_of_g (n := 46) Try.func34 rfl rfl ?_
  show G _ _ _ _ [_,_,_,_,_,_,_,_,_,_,_,_,_,_,_,_,_,_,_,_,_,_,_,_,_,_,_,_,_,_,_,_,_,_,_,_,_,_,_,_,_,_,_,_,_,_,_,_,_] _
  refine g_seq ?_
  refine g_region ?_
  show G _ _ _ (.inRegion _ [0, 1, 2] :: _) _ _
  refine g_op (v := Value.int .i64 a4) rfl rfl rfl ?_
  refine g_op (v := Value.int .i64 (i64w (a4 + 1))) rfl rfl rfl ?_
  refine g_op (v := Value.int .i64 (i64w (a4 + 1))) rfl rfl rfl ?_
  show G _ _ _ _ [_,_,_,_,_,_,_,_,_,_,_,_,_,_,_,_,_,_,_,_,_,_,_,_,_,_,_,_,_,_,_,_,_,_,_,_,_,_,_,_,_,_,_,_,_,_,_,_,_] _
  refine g_ops_nil ?_
  obtain ⟨o1_, Ho, Hr1_⟩ := bind_get H
  refine g_block_join (J := fun t w => ∃ x23 : (List Int), slices_insertionSortOrdered_int16.a0 N x23 = some r ∧ Fr t (fun O => ([O 0, O 1, O 2, O 3, O 4, O 5, O 6, O 7, O 8, O 9, O 10, O 11, O 12, O 13, O 14, O 15, O 16, O 17, O 18, O 19, O 20, O 21, O 22, O 23, O 24, O 25, O 26, O 27, O 28, O 29, O 30, O 31, O 32, O 33, O 34, O 35, O 36, O 37, O 38, O 39, O 40, O 41, O 42, O 43, O 44, O 45, O 46, O 47, O 48] : List Value)) ∧ St wb [Row 41 (K.int .i16) v2 x23, Z] w) ?_ ?_
  ·
   rintro t w ⟨x23, H, hf, hs⟩
   obtain ⟨O, rfl⟩ := hf.open
   show G _ _ _ _ [_,_,_,_,_,_,_,_,_,_,_,_,_,_,_,_,_,_,_,_,_,_,_,_,_,_,_,_,_,_,_,_,_,_,_,_,_,_,_,_,_,_,_,_,_,_,_,_,_] _
   unfold slices_insertionSortOrdered_int16.a0 at H
   obtain rfl := Option.some.inj H
   refine g_end Try.func34 (v := Value.tuple #[]) (resN (l := Try.f34.results.toList) (vs := []) rfl trivial (by simp)) ?_
   have hs := hs.pull 1 rfl
   have hs := hs.pull 1 rfl
   have hs : St _ [_,_] _ := St.take (Γ' := []) hs
   exact ⟨_, rfl, rfl, hs⟩
  ·
   intro ha1_
   have hs := hs.pull 1 rfl
   have hs := hs.pull 1 rfl
   have hs : St _ [_,_] _ := St.take (Γ' := []) hs
   refine g_loop_fuel (I := fun n_ t w => ∃ x14 : (List Int), ∃ x15 : Int, rounds (fun s => slices_insertionSortOrdered_int16.b0 N a5 a4 s.1 s.2) n_ (x14, x15) = some o1_ ∧ Fr t (fun O => ([v2, Value.int .i64 a4, Value.int .i64 a5, O 3, O 4, O 5, Value.int .i64 x15, O 7, O 8, O 9, O 10, O 11, O 12, O 13, O 14, O 15, O 16, O 17, O 18, O 19, O 20, O 21, O 22, O 23, O 24, O 25, O 26, O 27, O 28, O 29, O 30, O 31, O 32, O 33, O 34, O 35, O 36, O 37, O 38, O 39, O 40, O 41, O 42, O 43, O 44, O 45, O 46, O 47, O 48] : List Value)) ∧ St wb [Row 41 (K.int .i16) v2 x14, Z] w) N ⟨a1, i64w (a4 + 1), Ho, rfl, hs⟩ ?_ ?_
   ·
    rintro _ _ ⟨x14, x15, h, _⟩
    exact rounds_zero h
   ·
    intro n_ ih1_
    rintro t w ⟨x14, x15, Ho, hf, hs⟩
    obtain ⟨O, rfl⟩ := hf.open
    show G _ _ _ _ [_,_,_,_,_,_,_,_,_,_,_,_,_,_,_,_,_,_,_,_,_,_,_,_,_,_,_,_,_,_,_,_,_,_,_,_,_,_,_,_,_,_,_,_,_,_,_,_,_] _
    obtain ⟨x107_, H, Hx1_⟩ := rounds_succ Ho
    have H : slices_insertionSortOrdered_int16.b0 N a5 a4 x14 x15 = some x107_ := H
    unfold slices_insertionSortOrdered_int16.b0 at H
    refine g_seq ?_
    refine g_seq ?_
    refine g_region ?_
    show G _ _ _ (.inRegion _ [0, 1, 2] :: _) _ _
    refine g_op (v := Value.int .i64 x15) rfl rfl rfl ?_
    refine g_op (v := Value.int .i64 a5) rfl rfl rfl ?_
    refine g_op_b (B := decide (x15 < a5)) rfl rfl rfl ?_ ?_
    ·
     intro hb
     rw [if_pos (b_dec_t hb)] at H
     refine g_ops_nil ?_
     refine g_cond_true rfl ?_
     refine g_skip ?_
     refine g_seq ?_
     refine g_block ?_
     refine g_seq ?_
     refine g_region ?_
     show G _ _ _ (.inRegion _ [0, 1] :: _) _ _
     refine g_op (v := Value.int .i64 x15) rfl rfl rfl ?_
     refine g_op (v := Value.int .i64 x15) rfl rfl rfl ?_
     show G _ _ _ _ [_,_,_,_,_,_,_,_,_,_,_,_,_,_,_,_,_,_,_,_,_,_,_,_,_,_,_,_,_,_,_,_,_,_,_,_,_,_,_,_,_,_,_,_,_,_,_,_,_] _
     refine g_ops_nil ?_
     obtain ⟨o2_, Ho, Hr2_⟩ := bind_get H
     refine g_block_join (J := fun t w => ∃ x21 : (List Int), slices_insertionSortOrdered_int16.a2 N x15 x21 = some x107_ ∧ Fr t (fun O => ([v2, Value.int .i64 a4, Value.int .i64 a5, O 3, O 4, O 5, Value.int .i64 x15, O 7, O 8, O 9, O 10, O 11, O 12, O 13, O 14, O 15, O 16, O 17, O 18, O 19, O 20, O 21, O 22, O 23, O 24, O 25, O 26, O 27, O 28, O 29, O 30, O 31, O 32, O 33, O 34, O 35, O 36, O 37, O 38, O 39, O 40, O 41, O 42, O 43, O 44, O 45, O 46, O 47, O 48] : List Value)) ∧ St wb [Row 41 (K.int .i16) v2 x21, Z] w) ?_ ?_
     ·
      rintro t w ⟨x21, H, hf, hs⟩
      obtain ⟨O, rfl⟩ := hf.open
      show G _ _ _ _ [_,_,_,_,_,_,_,_,_,_,_,_,_,_,_,_,_,_,_,_,_,_,_,_,_,_,_,_,_,_,_,_,_,_,_,_,_,_,_,_,_,_,_,_,_,_,_,_,_] _
      unfold slices_insertionSortOrdered_int16.a2 at H
      refine g_inBlock ?_
      refine g_region ?_
      show G _ _ _ (.inRegion _ [0, 1, 2] :: _) _ _
      refine g_op (v := Value.int .i64 x15) rfl rfl rfl ?_
      refine g_op (v := Value.int .i64 (i64w (x15 + 1))) rfl rfl rfl ?_
      refine g_op (v := Value.int .i64 (i64w (x15 + 1))) rfl rfl rfl ?_
      show G _ _ _ _ [_,_,_,_,_,_,_,_,_,_,_,_,_,_,_,_,_,_,_,_,_,_,_,_,_,_,_,_,_,_,_,_,_,_,_,_,_,_,_,_,_,_,_,_,_,_,_,_,_] _
      refine g_ops_nil ?_
      obtain rfl := Option.some.inj H
      have hs := hs.pull 1 rfl
      have hs := hs.pull 1 rfl
      have hs : St _ [_,_] _ := St.take (Γ' := []) hs
      exact ih1_ _ _ ⟨x21, i64w (x15 + 1), Hx1_, rfl, hs⟩
     ·
      intro ha2_
      have hs := hs.pull 1 rfl
      have hs := hs.pull 1 rfl
      have hs : St _ [_,_] _ := St.take (Γ' := []) hs
      refine g_loop_fuel (I := fun n_ t w => ∃ x18 : (List Int), ∃ x19 : Int, rounds (fun s => slices_insertionSortOrdered_int16.b2 N a4 s.1 s.2) n_ (x18, x19) = some o2_ ∧ Fr t (fun O => ([v2, Value.int .i64 a4, Value.int .i64 a5, O 3, O 4, O 5, Value.int .i64 x15, Value.int .i64 x19, O 8, O 9, O 10, O 11, O 12, O 13, O 14, O 15, O 16, O 17, O 18, O 19, O 20, O 21, O 22, O 23, O 24, O 25, O 26, O 27, O 28, O 29, O 30, O 31, O 32, O 33, O 34, O 35, O 36, O 37, O 38, O 39, O 40, O 41, O 42, O 43, O 44, O 45, O 46, O 47, O 48] : List Value)) ∧ St wb [Row 41 (K.int .i16) v2 x18, Z] w) N ⟨x14, x15, Ho, rfl, hs⟩ ?_ ?_
      ·
       rintro _ _ ⟨x18, x19, h, _⟩
       exact rounds_zero h
      ·
       intro n_ ih2_
       rintro t w ⟨x18, x19, Ho, hf, hs⟩
       obtain ⟨O, rfl⟩ := hf.open
       show G _ _ _ _ [_,_,_,_,_,_,_,_,_,_,_,_,_,_,_,_,_,_,_,_,_,_,_,_,_,_,_,_,_,_,_,_,_,_,_,_,_,_,_,_,_,_,_,_,_,_,_,_,_] _
       obtain ⟨x106_, H, Hx2_⟩ := rounds_succ Ho
       have H : slices_insertionSortOrdered_int16.b2 N a4 x18 x19 = some x106_ := H
       unfold slices_insertionSortOrdered_int16.b2 at H
       refine g_seq ?_
       refine g_seq ?_
       by_cases hb80_ : x19 > a4
       ·
        rw [if_pos hb80_] at H
        refine g_lay (n := 15) rfl [0, 1, 2, 3, 4, 5, 6, 7, 8, 9, 10, 11, 12, 13, 14] [0, 1, 2, 3, 4, 5, 6, 7, 8, 9, 10, 11, 12, 13, 14] rfl rfl ?_
        intro rest w hh hbw hO
        have hs := hs.samew hh hbw
        show G _ _ _ _ [_,_,_,_,_,_,_,_,_,_,_,_,_,_,_,_,_,_,_,_,_,_,_,_,_,_,_,_,_,_,_,_,_,_,_,_,_,_,_,_,_,_,_,_,_,_,_,_,_] _
        refine g_name ?_
        intro T hT
        refine g_layer (m0 := 0) hO rfl 3 [0, 1] [0, 0, 3, 7, 15, 15, 63, 127, 15, 15, 527, 1807, 3855, 8191, 16383] (by decide +kernel) (fun D t w => ∃ O : Nat → Value, t = [v2, Value.int .i64 a4, Value.int .i64 a5, O 3, O 4, O 5, Value.int .i64 x15, Value.int .i64 x19, O 8, O 9, O 10, O 11, O 12, O 13, O 14, O 15, cnd (D 0) (Value.int .i64 x19) (O 16), cnd (D 1) (Value.int .i64 a4) (O 17), O 18, O 19, O 20, O 21, O 22, O 23, O 24, O 25, O 26, O 27, O 28, O 29, O 30, O 31, O 32, O 33, O 34, O 35, O 36, O 37, O 38, O 39, O 40, O 41, O 42, O 43, O 44, O 45, O 46, O 47, O 48] ∧ St wb [Row 41 (K.int .i16) v2 x18, Z] w) ?_ ⟨?_, ⟨?_, trivial⟩⟩ ?_
        · exact ⟨fun i => T.getD i undef, (by subst hT; rfl), hs⟩
        ·
         intro D t w hD hp hcl hI rest hk
         obtain ⟨O, ht, hs⟩ := hI
         have hp : AllDone D [] := hp
         simp only [hD, cnd_t, cnd_f, Asc_t, Asc_f] at ht hs
         subst ht
         refine g_op (v := Value.int .i64 x19) rfl rfl rfl ?_
         show G _ _ _ _ [_,_,_,_,_,_,_,_,_,_,_,_,_,_,_,_,_,_,_,_,_,_,_,_,_,_,_,_,_,_,_,_,_,_,_,_,_,_,_,_,_,_,_,_,_,_,_,_,_] _
         exact hk _ _ ⟨O, (by simp only [upd, Nat.reduceBEq, Bool.true_or, Bool.false_or, cnd_t, cnd_f, Asc_t, Asc_f]), hs.cast (by first | rfl | simp only [List.take, List.drop, List.cons_append, List.nil_append, List.set_cons_zero, List.set_cons_succ, List.eraseIdx, upd, Nat.reduceBEq, Bool.true_or, Bool.false_or, cnd_t, cnd_f, Asc_t, Asc_f])⟩
        ·
         intro D t w hD hp hcl hI rest hk
         obtain ⟨O, ht, hs⟩ := hI
         have hp : AllDone D [] := hp
         simp only [hD, cnd_t, cnd_f, Asc_t, Asc_f] at ht hs
         subst ht
         refine g_op (v := Value.int .i64 a4) rfl rfl rfl ?_
         show G _ _ _ _ [_,_,_,_,_,_,_,_,_,_,_,_,_,_,_,_,_,_,_,_,_,_,_,_,_,_,_,_,_,_,_,_,_,_,_,_,_,_,_,_,_,_,_,_,_,_,_,_,_] _
         exact hk _ _ ⟨O, (by simp only [upd, Nat.reduceBEq, Bool.true_or, Bool.false_or, cnd_t, cnd_f, Asc_t, Asc_f]), hs.cast (by first | rfl | simp only [List.take, List.drop, List.cons_append, List.nil_append, List.set_cons_zero, List.set_cons_succ, List.eraseIdx, upd, Nat.reduceBEq, Bool.true_or, Bool.false_or, cnd_t, cnd_f, Asc_t, Asc_f])⟩
        ·
         intro D t w rest hall hO81_ hI
         obtain ⟨O, ht, hs⟩ := hI
         have p0_ : D 0 = true := hall 0 (by decide) rfl
         have p1_ : D 1 = true := hall 1 (by decide) rfl
         simp only [p0_, p1_, cnd_t, cnd_f, Asc_t, Asc_f] at ht hs
         subst ht
         obtain ⟨rest, rfl, hO82_⟩ := ord_one (m := 3) hO81_ rfl 2 (m' := 7) (by decide +kernel) rfl
         clear hO81_
         refine g_op (v := Value.bool true) rfl rfl (run_bool (b := decide (x19 > a4)) rfl (by first | exact decide_eq_true hb80_ | exact decide_eq_false hb80_ | simp [hb80_])) ?_
         obtain ⟨rest, rfl, hO83_⟩ := ord_one (m := 7) hO82_ rfl 3 (m' := 15) (by decide +kernel) rfl
         clear hO82_
         refine g_op (v := Value.bool true) rfl rfl rfl ?_
         obtain ⟨gd85, H⟩ := ite_get H
         obtain ⟨ad86_, ad86_N, ad86_C, had86_⟩ := sl_at (hs.row 0 rfl) gd85.1 gd85.2
         obtain ⟨gd87, H⟩ := ite_get H
         obtain ⟨ad88_, ad88_N, ad88_C, had88_⟩ := sl_at (hs.row 0 rfl) gd87.1 gd87.2
         refine g_name ?_
         intro T hT
         refine g_layer (m0 := 15) hO83_ rfl 8191 [4, 5, 6, 7, 8, 9, 10, 11, 12] [0, 0, 3, 7, 15, 15, 63, 127, 15, 15, 527, 1807, 3855, 8191, 16383] (by decide +kernel) (fun D t w => ∃ O : Nat → Value, t = [v2, Value.int .i64 a4, Value.int .i64 a5, O 3, O 4, O 5, Value.int .i64 x15, Value.int .i64 x19, O 8, O 9, O 10, O 11, O 12, O 13, O 14, O 15, Value.int .i64 x19, Value.int .i64 a4, Value.bool true, Value.bool true, cnd (D 4) v2 (O 20), cnd (D 5) (Value.int .i64 x19) (O 21), cnd (D 6) (Value.pointer (some (ad86_.add (x19.toNat * 1)))) (O 22), cnd (D 7) (Value.int .i16 (rdL x18 x19 0)) (O 23), cnd (D 8) v2 (O 24), cnd (D 9) (Value.int .i64 x19) (O 25), cnd (D 10) (Value.int .i64 (i64w (x19 - 1))) (O 26), cnd (D 11) (Value.pointer (some (ad88_.add ((i64w (x19 - 1)).toNat * 1)))) (O 27), cnd (D 12) (Value.int .i16 (rdL x18 (i64w (x19 - 1)) 0)) (O 28), O 29, O 30, O 31, O 32, O 33, O 34, O 35, O 36, O 37, O 38, O 39, O 40, O 41, O 42, O 43, O 44, O 45, O 46, O 47, O 48] ∧ St wb [Row 41 (K.int .i16) v2 x18, Z] w) ?_ ⟨?_, ⟨?_, ⟨?_, ⟨?_, ⟨?_, ⟨?_, ⟨?_, ⟨?_, ⟨?_, trivial⟩⟩⟩⟩⟩⟩⟩⟩⟩ ?_
         · exact ⟨fun i => T.getD i undef, (by subst hT; rfl), hs⟩
         ·
          intro D t w hD hp hcl hI rest hk
          obtain ⟨O, ht, hs⟩ := hI
          have hp : AllDone D [3] := hp
          obtain ⟨p3_, _⟩ := hp
          have q6_ : D 6 = false := not_yet (show D 6 = true → AllDone D [4, 5, 3] from hcl 6 (by decide)) 0 4 rfl hD
          have q7_ : D 7 = false := not_yet (show D 7 = true → AllDone D [6, 3] from hcl 7 (by decide)) 0 6 rfl q6_
          simp only [hD, q6_, q7_, cnd_t, cnd_f, Asc_t, Asc_f] at ht hs
          subst ht
          refine g_op (v := v2) rfl rfl rfl ?_
          show G _ _ _ _ [_,_,_,_,_,_,_,_,_,_,_,_,_,_,_,_,_,_,_,_,_,_,_,_,_,_,_,_,_,_,_,_,_,_,_,_,_,_,_,_,_,_,_,_,_,_,_,_,_] _
          exact hk _ _ ⟨O, (by simp only [upd, Nat.reduceBEq, Bool.true_or, Bool.false_or, q6_, q7_, cnd_t, cnd_f, Asc_t, Asc_f]), hs.cast (by first | rfl | simp only [List.take, List.drop, List.cons_append, List.nil_append, List.set_cons_zero, List.set_cons_succ, List.eraseIdx, upd, Nat.reduceBEq, Bool.true_or, Bool.false_or, q6_, q7_, cnd_t, cnd_f, Asc_t, Asc_f])⟩
         ·
          intro D t w hD hp hcl hI rest hk
          obtain ⟨O, ht, hs⟩ := hI
          have hp : AllDone D [3] := hp
          obtain ⟨p3_, _⟩ := hp
          have q6_ : D 6 = false := not_yet (show D 6 = true → AllDone D [4, 5, 3] from hcl 6 (by decide)) 1 5 rfl hD
          have q7_ : D 7 = false := not_yet (show D 7 = true → AllDone D [6, 3] from hcl 7 (by decide)) 0 6 rfl q6_
          simp only [hD, q6_, q7_, cnd_t, cnd_f, Asc_t, Asc_f] at ht hs
          subst ht
          refine g_op (v := Value.int .i64 x19) rfl rfl rfl ?_
          show G _ _ _ _ [_,_,_,_,_,_,_,_,_,_,_,_,_,_,_,_,_,_,_,_,_,_,_,_,_,_,_,_,_,_,_,_,_,_,_,_,_,_,_,_,_,_,_,_,_,_,_,_,_] _
          exact hk _ _ ⟨O, (by simp only [upd, Nat.reduceBEq, Bool.true_or, Bool.false_or, q6_, q7_, cnd_t, cnd_f, Asc_t, Asc_f]), hs.cast (by first | rfl | simp only [List.take, List.drop, List.cons_append, List.nil_append, List.set_cons_zero, List.set_cons_succ, List.eraseIdx, upd, Nat.reduceBEq, Bool.true_or, Bool.false_or, q6_, q7_, cnd_t, cnd_f, Asc_t, Asc_f])⟩
         ·
          intro D t w hD hp hcl hI rest hk
          obtain ⟨O, ht, hs⟩ := hI
          have hp : AllDone D [4, 5, 3] := hp
          obtain ⟨p4_, p5_, p3_, _⟩ := hp
          have q7_ : D 7 = false := not_yet (show D 7 = true → AllDone D [6, 3] from hcl 7 (by decide)) 0 6 rfl hD
          simp only [hD, p4_, p5_, q7_, cnd_t, cnd_f, Asc_t, Asc_f] at ht hs
          subst ht
          refine s_idxD (κ := (K.int .i16)) (m := 1) rfl (hs.row 0 rfl) rfl (fun _ => rfl) gd85.1 gd85.2 had86_ rfl rfl rfl rfl rfl ?_
          show G _ _ _ _ [_,_,_,_,_,_,_,_,_,_,_,_,_,_,_,_,_,_,_,_,_,_,_,_,_,_,_,_,_,_,_,_,_,_,_,_,_,_,_,_,_,_,_,_,_,_,_,_,_] _
          exact hk _ _ ⟨O, (by simp only [upd, Nat.reduceBEq, Bool.true_or, Bool.false_or, p4_, p5_, q7_, cnd_t, cnd_f, Asc_t, Asc_f]), hs.cast (by first | rfl | simp only [List.take, List.drop, List.cons_append, List.nil_append, List.set_cons_zero, List.set_cons_succ, List.eraseIdx, upd, Nat.reduceBEq, Bool.true_or, Bool.false_or, p4_, p5_, q7_, cnd_t, cnd_f, Asc_t, Asc_f])⟩
         ·
          intro D t w hD hp hcl hI rest hk
          obtain ⟨O, ht, hs⟩ := hI
          have hp : AllDone D [6, 3] := hp
          obtain ⟨p6_, p3_, _⟩ := hp
          obtain ⟨p4_, p5_, _, _⟩ := (show D 6 = true → AllDone D [4, 5, 3] from hcl 6 (by decide)) p6_
          simp only [hD, p4_, p5_, p6_, cnd_t, cnd_f, Asc_t, Asc_f] at ht hs
          subst ht
          refine s_load1 rfl rfl (v := Value.int .i16 (rdL x18 x19 0)) rfl rfl (fun _ => rfl) (cellsAt_of (fkI .i16) 0 (hs.row 0 rfl) had86_ gd85.1 gd85.2) ?_
          show G _ _ _ _ [_,_,_,_,_,_,_,_,_,_,_,_,_,_,_,_,_,_,_,_,_,_,_,_,_,_,_,_,_,_,_,_,_,_,_,_,_,_,_,_,_,_,_,_,_,_,_,_,_] _
          exact hk _ _ ⟨O, (by simp only [upd, Nat.reduceBEq, Bool.true_or, Bool.false_or, p4_, p5_, p6_, cnd_t, cnd_f, Asc_t, Asc_f]), hs.cast (by first | rfl | simp only [List.take, List.drop, List.cons_append, List.nil_append, List.set_cons_zero, List.set_cons_succ, List.eraseIdx, upd, Nat.reduceBEq, Bool.true_or, Bool.false_or, p4_, p5_, p6_, cnd_t, cnd_f, Asc_t, Asc_f])⟩
         ·
          intro D t w hD hp hcl hI rest hk
          obtain ⟨O, ht, hs⟩ := hI
          have hp : AllDone D [3] := hp
          obtain ⟨p3_, _⟩ := hp
          have q11_ : D 11 = false := not_yet (show D 11 = true → AllDone D [8, 10, 3] from hcl 11 (by decide)) 0 8 rfl hD
          have q12_ : D 12 = false := not_yet (show D 12 = true → AllDone D [11, 3] from hcl 12 (by decide)) 0 11 rfl q11_
          simp only [hD, q11_, q12_, cnd_t, cnd_f, Asc_t, Asc_f] at ht hs
          subst ht
          refine g_op (v := v2) rfl rfl rfl ?_
          show G _ _ _ _ [_,_,_,_,_,_,_,_,_,_,_,_,_,_,_,_,_,_,_,_,_,_,_,_,_,_,_,_,_,_,_,_,_,_,_,_,_,_,_,_,_,_,_,_,_,_,_,_,_] _
          exact hk _ _ ⟨O, (by simp only [upd, Nat.reduceBEq, Bool.true_or, Bool.false_or, q11_, q12_, cnd_t, cnd_f, Asc_t, Asc_f]), hs.cast (by first | rfl | simp only [List.take, List.drop, List.cons_append, List.nil_append, List.set_cons_zero, List.set_cons_succ, List.eraseIdx, upd, Nat.reduceBEq, Bool.true_or, Bool.false_or, q11_, q12_, cnd_t, cnd_f, Asc_t, Asc_f])⟩
         ·
          intro D t w hD hp hcl hI rest hk
          obtain ⟨O, ht, hs⟩ := hI
          have hp : AllDone D [3] := hp
          obtain ⟨p3_, _⟩ := hp
          have q10_ : D 10 = false := not_yet (show D 10 = true → AllDone D [9, 3] from hcl 10 (by decide)) 0 9 rfl hD
          have q11_ : D 11 = false := not_yet (show D 11 = true → AllDone D [8, 10, 3] from hcl 11 (by decide)) 1 10 rfl q10_
          have q12_ : D 12 = false := not_yet (show D 12 = true → AllDone D [11, 3] from hcl 12 (by decide)) 0 11 rfl q11_
          simp only [hD, q10_, q11_, q12_, cnd_t, cnd_f, Asc_t, Asc_f] at ht hs
          subst ht
          refine g_op (v := Value.int .i64 x19) rfl rfl rfl ?_
          show G _ _ _ _ [_,_,_,_,_,_,_,_,_,_,_,_,_,_,_,_,_,_,_,_,_,_,_,_,_,_,_,_,_,_,_,_,_,_,_,_,_,_,_,_,_,_,_,_,_,_,_,_,_] _
          exact hk _ _ ⟨O, (by simp only [upd, Nat.reduceBEq, Bool.true_or, Bool.false_or, q10_, q11_, q12_, cnd_t, cnd_f, Asc_t, Asc_f]), hs.cast (by first | rfl | simp only [List.take, List.drop, List.cons_append, List.nil_append, List.set_cons_zero, List.set_cons_succ, List.eraseIdx, upd, Nat.reduceBEq, Bool.true_or, Bool.false_or, q10_, q11_, q12_, cnd_t, cnd_f, Asc_t, Asc_f])⟩
         ·
          intro D t w hD hp hcl hI rest hk
          obtain ⟨O, ht, hs⟩ := hI
          have hp : AllDone D [9, 3] := hp
          obtain ⟨p9_, p3_, _⟩ := hp
          have q11_ : D 11 = false := not_yet (show D 11 = true → AllDone D [8, 10, 3] from hcl 11 (by decide)) 1 10 rfl hD
          have q12_ : D 12 = false := not_yet (show D 12 = true → AllDone D [11, 3] from hcl 12 (by decide)) 0 11 rfl q11_
          simp only [hD, p9_, q11_, q12_, cnd_t, cnd_f, Asc_t, Asc_f] at ht hs
          subst ht
          refine g_op (v := Value.int .i64 (i64w (x19 - 1))) rfl rfl rfl ?_
          show G _ _ _ _ [_,_,_,_,_,_,_,_,_,_,_,_,_,_,_,_,_,_,_,_,_,_,_,_,_,_,_,_,_,_,_,_,_,_,_,_,_,_,_,_,_,_,_,_,_,_,_,_,_] _
          exact hk _ _ ⟨O, (by simp only [upd, Nat.reduceBEq, Bool.true_or, Bool.false_or, p9_, q11_, q12_, cnd_t, cnd_f, Asc_t, Asc_f]), hs.cast (by first | rfl | simp only [List.take, List.drop, List.cons_append, List.nil_append, List.set_cons_zero, List.set_cons_succ, List.eraseIdx, upd, Nat.reduceBEq, Bool.true_or, Bool.false_or, p9_, q11_, q12_, cnd_t, cnd_f, Asc_t, Asc_f])⟩
         ·
          intro D t w hD hp hcl hI rest hk
          obtain ⟨O, ht, hs⟩ := hI
          have hp : AllDone D [8, 10, 3] := hp
          obtain ⟨p8_, p10_, p3_, _⟩ := hp
          obtain ⟨p9_, _, _⟩ := (show D 10 = true → AllDone D [9, 3] from hcl 10 (by decide)) p10_
          have q12_ : D 12 = false := not_yet (show D 12 = true → AllDone D [11, 3] from hcl 12 (by decide)) 0 11 rfl hD
          simp only [hD, p8_, p9_, p10_, q12_, cnd_t, cnd_f, Asc_t, Asc_f] at ht hs
          subst ht
          refine s_idxD (κ := (K.int .i16)) (m := 1) rfl (hs.row 0 rfl) rfl (fun _ => rfl) gd87.1 gd87.2 had88_ rfl rfl rfl rfl rfl ?_
          show G _ _ _ _ [_,_,_,_,_,_,_,_,_,_,_,_,_,_,_,_,_,_,_,_,_,_,_,_,_,_,_,_,_,_,_,_,_,_,_,_,_,_,_,_,_,_,_,_,_,_,_,_,_] _
          exact hk _ _ ⟨O, (by simp only [upd, Nat.reduceBEq, Bool.true_or, Bool.false_or, p8_, p9_, p10_, q12_, cnd_t, cnd_f, Asc_t, Asc_f]), hs.cast (by first | rfl | simp only [List.take, List.drop, List.cons_append, List.nil_append, List.set_cons_zero, List.set_cons_succ, List.eraseIdx, upd, Nat.reduceBEq, Bool.true_or, Bool.false_or, p8_, p9_, p10_, q12_, cnd_t, cnd_f, Asc_t, Asc_f])⟩
         ·
          intro D t w hD hp hcl hI rest hk
          obtain ⟨O, ht, hs⟩ := hI
          have hp : AllDone D [11, 3] := hp
          obtain ⟨p11_, p3_, _⟩ := hp
          obtain ⟨p8_, p10_, _, _⟩ := (show D 11 = true → AllDone D [8, 10, 3] from hcl 11 (by decide)) p11_
          obtain ⟨p9_, _, _⟩ := (show D 10 = true → AllDone D [9, 3] from hcl 10 (by decide)) p10_
          simp only [hD, p8_, p9_, p10_, p11_, cnd_t, cnd_f, Asc_t, Asc_f] at ht hs
          subst ht
          refine s_load1 rfl rfl (v := Value.int .i16 (rdL x18 (i64w (x19 - 1)) 0)) rfl rfl (fun _ => rfl) (cellsAt_of (fkI .i16) 0 (hs.row 0 rfl) had88_ gd87.1 gd87.2) ?_
          show G _ _ _ _ [_,_,_,_,_,_,_,_,_,_,_,_,_,_,_,_,_,_,_,_,_,_,_,_,_,_,_,_,_,_,_,_,_,_,_,_,_,_,_,_,_,_,_,_,_,_,_,_,_] _
          exact hk _ _ ⟨O, (by simp only [upd, Nat.reduceBEq, Bool.true_or, Bool.false_or, p8_, p9_, p10_, p11_, cnd_t, cnd_f, Asc_t, Asc_f]), hs.cast (by first | rfl | simp only [List.take, List.drop, List.cons_append, List.nil_append, List.set_cons_zero, List.set_cons_succ, List.eraseIdx, upd, Nat.reduceBEq, Bool.true_or, Bool.false_or, p8_, p9_, p10_, p11_, cnd_t, cnd_f, Asc_t, Asc_f])⟩
         ·
          intro D t w rest hall hO84_ hI
          obtain ⟨O, ht, hs⟩ := hI
          have p4_ : D 4 = true := hall 4 (by decide) rfl
          have p5_ : D 5 = true := hall 5 (by decide) rfl
          have p6_ : D 6 = true := hall 6 (by decide) rfl
          have p7_ : D 7 = true := hall 7 (by decide) rfl
          have p8_ : D 8 = true := hall 8 (by decide) rfl
          have p9_ : D 9 = true := hall 9 (by decide) rfl
          have p10_ : D 10 = true := hall 10 (by decide) rfl
          have p11_ : D 11 = true := hall 11 (by decide) rfl
          have p12_ : D 12 = true := hall 12 (by decide) rfl
          simp only [p4_, p5_, p6_, p7_, p8_, p9_, p10_, p11_, p12_, cnd_t, cnd_f, Asc_t, Asc_f] at ht hs
          subst ht
          obtain ⟨rest, rfl, hO89_⟩ := ord_one (m := 8191) hO84_ rfl 13 (m' := 16383) (by decide +kernel) rfl
          clear hO84_
          obtain ⟨r20, Hr20, H⟩ := bind_get H
          refine s_call (args := [Value.int .i16 (rdL x18 x19 0), Value.int .i16 (rdL x18 (i64w (x19 - 1)) 0)]) rfl rfl (x_call rfl (callFunc_enter Try.func40 rfl rfl) rfl) (cmp_Less_int16.calls (a1 := rdL x18 x19 0) (a2 := rdL x18 (i64w (x19 - 1)) 0) Hr20) ?_
          rintro _ w ⟨rfl, hs2⟩
          have hs : St _ [_,_] _ := hs.call hs2
          cases r20 with
          | true =>
            rw [if_pos rfl] at H
            obtain ⟨rest, rfl, hO90_⟩ := ord_one (m := 16383) hO89_ rfl 14 (m' := 32767) (by decide +kernel) rfl
            clear hO89_
            refine g_op (v := Value.bool true) rfl rfl rfl ?_
            obtain rfl := ord_end hO90_ rfl (by decide +kernel)
            refine g_ops_nil ?_
            refine g_cond_true rfl ?_
            refine g_skip ?_
            refine g_seq ?_
            refine g_block ?_
            obtain ⟨gd91, H⟩ := ite_get H
            obtain ⟨ad92_, ad92_N, ad92_C, had92_⟩ := sl_at (hs.row 0 rfl) gd91.1 gd91.2
            obtain ⟨gd93, H⟩ := ite_get H
            obtain ⟨ad94_, ad94_N, ad94_C, had94_⟩ := sl_at (hs.row 0 rfl) gd93.1 gd93.2
            obtain ⟨gd95, H⟩ := ite_get H
            obtain ⟨ad96_, ad96_N, ad96_C, had96_⟩ := sl_at (hs.row 0 rfl) gd95.1 gd95.2
            obtain ⟨gd97, H⟩ := ite_get H
            obtain ⟨ad98_, ad98_N, ad98_C, had98_⟩ := sl_at (hs.row 0 rfl) gd97.1 (by simpa only [stL, List.length_set] using gd97.2)
            refine g_name ?_
            intro T hT
            refine g_any (n := 18) rfl [0, 1, 2, 3, 4, 5, 6, 7, 8, 9, 10, 11, 12, 13, 14, 15, 16, 17] [0, 1, 13, 14, 15, 2, 3, 4, 5, 6, 7, 8, 9, 10, 11, 12, 16, 17] rfl rfl (Inv := fun D t w => ∃ O : Nat → Value, t = [v2, Value.int .i64 a4, Value.int .i64 a5, O 3, O 4, O 5, Value.int .i64 x15, Value.int .i64 x19, O 8, O 9, O 10, O 11, O 12, O 13, O 14, O 15, Value.int .i64 x19, Value.int .i64 a4, Value.bool true, Value.bool true, v2, Value.int .i64 x19, Value.pointer (some (ad86_.add (x19.toNat * 1))), Value.int .i16 (rdL x18 x19 0), v2, Value.int .i64 x19, Value.int .i64 (i64w (x19 - 1)), Value.pointer (some (ad88_.add ((i64w (x19 - 1)).toNat * 1))), Value.int .i16 (rdL x18 (i64w (x19 - 1)) 0), Value.bool true, Value.bool true, O 31, O 32, cnd (D 0) v2 (O 33), cnd (D 1) (Value.int .i64 x19) (O 34), cnd (D 2) v2 (O 35), cnd (D 3) (Value.int .i64 x19) (O 36), cnd (D 4) (Value.int .i64 (i64w (x19 - 1))) (O 37), cnd (D 5) v2 (O 38), cnd (D 6) (Value.int .i64 x19) (O 39), cnd (D 7) (Value.int .i64 (i64w (x19 - 1))) (O 40), cnd (D 8) (Value.pointer (some (ad92_.add ((i64w (x19 - 1)).toNat * 1)))) (O 41), cnd (D 9) (Value.int .i16 (rdL x18 (i64w (x19 - 1)) 0)) (O 42), cnd (D 10) v2 (O 43), cnd (D 11) (Value.int .i64 x19) (O 44), cnd (D 12) (Value.pointer (some (ad94_.add (x19.toNat * 1)))) (O 45), cnd (D 13) (Value.int .i16 (rdL x18 x19 0)) (O 46), cnd (D 14) (Value.pointer (some (ad96_.add (x19.toNat * 1)))) (O 47), cnd (D 16) (Value.pointer (some (ad98_.add ((i64w (x19 - 1)).toNat * 1)))) (O 48)] ∧ St wb [Row 41 (K.int .i16) (cnd (D 17) v2 (cnd (D 15) v2 v2)) (cnd (D 17) (stL (stL x18 x19 (rdL x18 (i64w (x19 - 1)) 0)) (i64w (x19 - 1)) (rdL x18 x19 0)) (cnd (D 15) (stL x18 x19 (rdL x18 (i64w (x19 - 1)) 0)) x18)), Z] w) ?_ ⟨⟨⟨⟨⟨⟨⟨⟨⟨⟨⟨⟨⟨⟨⟨⟨⟨⟨trivial, ?_⟩, ?_⟩, ?_⟩, ?_⟩, ?_⟩, ?_⟩, ?_⟩, ?_⟩, ?_⟩, ?_⟩, ?_⟩, ?_⟩, ?_⟩, ?_⟩, ?_⟩, ?_⟩, ?_⟩, ?_⟩ ?_
            ·
             intro w hh hbw
             have hs := hs.samew hh hbw
             exact ⟨fun i => T.getD i undef, (by subst hT; rfl), hs⟩
            ·
             intro D t w hD hp hcl hI rest hk
             obtain ⟨O, ht, hs⟩ := hI
             have q14_ : D 14 = false := not_yet (hcl.get 14 (by decide)) 0 0 rfl hD
             have q15_ : D 15 = false := not_yet (hcl.get 15 (by decide)) 0 14 rfl q14_
             have q16_ : D 16 = false := not_yet (hcl.get 16 (by decide)) 2 0 rfl hD
             have q17_ : D 17 = false := not_yet (hcl.get 17 (by decide)) 0 16 rfl q16_
             simp only [hD, q14_, q15_, q16_, q17_, cnd_t, cnd_f, Asc_t, Asc_f] at ht hs
             subst ht
             refine g_op (v := v2) rfl rfl rfl ?_
             show G _ _ _ _ [_,_,_,_,_,_,_,_,_,_,_,_,_,_,_,_,_,_,_,_,_,_,_,_,_,_,_,_,_,_,_,_,_,_,_,_,_,_,_,_,_,_,_,_,_,_,_,_,_] _
             exact hk _ _ ⟨O, (by simp only [upd, Nat.reduceBEq, Bool.true_or, Bool.false_or, q14_, q15_, q16_, q17_, cnd_t, cnd_f, Asc_t, Asc_f]), hs.cast (by first | rfl | simp only [List.take, List.drop, List.cons_append, List.nil_append, List.set_cons_zero, List.set_cons_succ, List.eraseIdx, upd, Nat.reduceBEq, Bool.true_or, Bool.false_or, q14_, q15_, q16_, q17_, cnd_t, cnd_f, Asc_t, Asc_f])⟩
            ·
             intro D t w hD hp hcl hI rest hk
             obtain ⟨O, ht, hs⟩ := hI
             have q14_ : D 14 = false := not_yet (hcl.get 14 (by decide)) 1 1 rfl hD
             have q15_ : D 15 = false := not_yet (hcl.get 15 (by decide)) 0 14 rfl q14_
             have q16_ : D 16 = false := not_yet (hcl.get 16 (by decide)) 3 1 rfl hD
             have q17_ : D 17 = false := not_yet (hcl.get 17 (by decide)) 0 16 rfl q16_
             simp only [hD, q14_, q15_, q16_, q17_, cnd_t, cnd_f, Asc_t, Asc_f] at ht hs
             subst ht
             refine g_op (v := Value.int .i64 x19) rfl rfl rfl ?_
             show G _ _ _ _ [_,_,_,_,_,_,_,_,_,_,_,_,_,_,_,_,_,_,_,_,_,_,_,_,_,_,_,_,_,_,_,_,_,_,_,_,_,_,_,_,_,_,_,_,_,_,_,_,_] _
             exact hk _ _ ⟨O, (by simp only [upd, Nat.reduceBEq, Bool.true_or, Bool.false_or, q14_, q15_, q16_, q17_, cnd_t, cnd_f, Asc_t, Asc_f]), hs.cast (by first | rfl | simp only [List.take, List.drop, List.cons_append, List.nil_append, List.set_cons_zero, List.set_cons_succ, List.eraseIdx, upd, Nat.reduceBEq, Bool.true_or, Bool.false_or, q14_, q15_, q16_, q17_, cnd_t, cnd_f, Asc_t, Asc_f])⟩
            ·
             intro D t w hD hp hcl hI rest hk
             obtain ⟨O, ht, hs⟩ := hI
             have q16_ : D 16 = false := not_yet (hcl.get 16 (by decide)) 0 2 rfl hD
             have q17_ : D 17 = false := not_yet (hcl.get 17 (by decide)) 0 16 rfl q16_
             simp only [hD, q16_, q17_, cnd_t, cnd_f, Asc_t, Asc_f] at ht hs
             subst ht
             refine g_op (v := v2) rfl rfl rfl ?_
             show G _ _ _ _ [_,_,_,_,_,_,_,_,_,_,_,_,_,_,_,_,_,_,_,_,_,_,_,_,_,_,_,_,_,_,_,_,_,_,_,_,_,_,_,_,_,_,_,_,_,_,_,_,_] _
             exact hk _ _ ⟨O, (by simp only [upd, Nat.reduceBEq, Bool.true_or, Bool.false_or, q16_, q17_, cnd_t, cnd_f, Asc_t, Asc_f]), hs.cast (by first | rfl | simp only [List.take, List.drop, List.cons_append, List.nil_append, List.set_cons_zero, List.set_cons_succ, List.eraseIdx, upd, Nat.reduceBEq, Bool.true_or, Bool.false_or, q16_, q17_, cnd_t, cnd_f, Asc_t, Asc_f])⟩
            ·
             intro D t w hD hp hcl hI rest hk
             obtain ⟨O, ht, hs⟩ := hI
             have q4_ : D 4 = false := not_yet (hcl.get 4 (by decide)) 0 3 rfl hD
             have q16_ : D 16 = false := not_yet (hcl.get 16 (by decide)) 1 4 rfl q4_
             have q17_ : D 17 = false := not_yet (hcl.get 17 (by decide)) 0 16 rfl q16_
             simp only [hD, q4_, q16_, q17_, cnd_t, cnd_f, Asc_t, Asc_f] at ht hs
             subst ht
             refine g_op (v := Value.int .i64 x19) rfl rfl rfl ?_
             show G _ _ _ _ [_,_,_,_,_,_,_,_,_,_,_,_,_,_,_,_,_,_,_,_,_,_,_,_,_,_,_,_,_,_,_,_,_,_,_,_,_,_,_,_,_,_,_,_,_,_,_,_,_] _
             exact hk _ _ ⟨O, (by simp only [upd, Nat.reduceBEq, Bool.true_or, Bool.false_or, q4_, q16_, q17_, cnd_t, cnd_f, Asc_t, Asc_f]), hs.cast (by first | rfl | simp only [List.take, List.drop, List.cons_append, List.nil_append, List.set_cons_zero, List.set_cons_succ, List.eraseIdx, upd, Nat.reduceBEq, Bool.true_or, Bool.false_or, q4_, q16_, q17_, cnd_t, cnd_f, Asc_t, Asc_f])⟩
            ·
             intro D t w hD hp hcl hI rest hk
             obtain ⟨O, ht, hs⟩ := hI
             obtain ⟨p3_, _⟩ := hp
             have q16_ : D 16 = false := not_yet (hcl.get 16 (by decide)) 1 4 rfl hD
             have q17_ : D 17 = false := not_yet (hcl.get 17 (by decide)) 0 16 rfl q16_
             simp only [hD, p3_, q16_, q17_, cnd_t, cnd_f, Asc_t, Asc_f] at ht hs
             subst ht
             refine g_op (v := Value.int .i64 (i64w (x19 - 1))) rfl rfl rfl ?_
             show G _ _ _ _ [_,_,_,_,_,_,_,_,_,_,_,_,_,_,_,_,_,_,_,_,_,_,_,_,_,_,_,_,_,_,_,_,_,_,_,_,_,_,_,_,_,_,_,_,_,_,_,_,_] _
             exact hk _ _ ⟨O, (by simp only [upd, Nat.reduceBEq, Bool.true_or, Bool.false_or, p3_, q16_, q17_, cnd_t, cnd_f, Asc_t, Asc_f]), hs.cast (by first | rfl | simp only [List.take, List.drop, List.cons_append, List.nil_append, List.set_cons_zero, List.set_cons_succ, List.eraseIdx, upd, Nat.reduceBEq, Bool.true_or, Bool.false_or, p3_, q16_, q17_, cnd_t, cnd_f, Asc_t, Asc_f])⟩
            ·
             intro D t w hD hp hcl hI rest hk
             obtain ⟨O, ht, hs⟩ := hI
             have q8_ : D 8 = false := not_yet (hcl.get 8 (by decide)) 0 5 rfl hD
             have q9_ : D 9 = false := not_yet (hcl.get 9 (by decide)) 0 8 rfl q8_
             have q14_ : D 14 = false := not_yet (hcl.get 14 (by decide)) 4 5 rfl hD
             have q15_ : D 15 = false := not_yet (hcl.get 15 (by decide)) 0 14 rfl q14_
             have q16_ : D 16 = false := not_yet (hcl.get 16 (by decide)) 7 5 rfl hD
             have q17_ : D 17 = false := not_yet (hcl.get 17 (by decide)) 0 16 rfl q16_
             simp only [hD, q8_, q9_, q14_, q15_, q16_, q17_, cnd_t, cnd_f, Asc_t, Asc_f] at ht hs
             subst ht
             refine g_op (v := v2) rfl rfl rfl ?_
             show G _ _ _ _ [_,_,_,_,_,_,_,_,_,_,_,_,_,_,_,_,_,_,_,_,_,_,_,_,_,_,_,_,_,_,_,_,_,_,_,_,_,_,_,_,_,_,_,_,_,_,_,_,_] _
             exact hk _ _ ⟨O, (by simp only [upd, Nat.reduceBEq, Bool.true_or, Bool.false_or, q8_, q9_, q14_, q15_, q16_, q17_, cnd_t, cnd_f, Asc_t, Asc_f]), hs.cast (by first | rfl | simp only [List.take, List.drop, List.cons_append, List.nil_append, List.set_cons_zero, List.set_cons_succ, List.eraseIdx, upd, Nat.reduceBEq, Bool.true_or, Bool.false_or, q8_, q9_, q14_, q15_, q16_, q17_, cnd_t, cnd_f, Asc_t, Asc_f])⟩
            ·
             intro D t w hD hp hcl hI rest hk
             obtain ⟨O, ht, hs⟩ := hI
             have q7_ : D 7 = false := not_yet (hcl.get 7 (by decide)) 0 6 rfl hD
             have q8_ : D 8 = false := not_yet (hcl.get 8 (by decide)) 1 7 rfl q7_
             have q9_ : D 9 = false := not_yet (hcl.get 9 (by decide)) 0 8 rfl q8_
             have q14_ : D 14 = false := not_yet (hcl.get 14 (by decide)) 5 6 rfl hD
             have q15_ : D 15 = false := not_yet (hcl.get 15 (by decide)) 0 14 rfl q14_
             have q16_ : D 16 = false := not_yet (hcl.get 16 (by decide)) 8 6 rfl hD
             have q17_ : D 17 = false := not_yet (hcl.get 17 (by decide)) 0 16 rfl q16_
             simp only [hD, q7_, q8_, q9_, q14_, q15_, q16_, q17_, cnd_t, cnd_f, Asc_t, Asc_f] at ht hs
             subst ht
             refine g_op (v := Value.int .i64 x19) rfl rfl rfl ?_
             show G _ _ _ _ [_,_,_,_,_,_,_,_,_,_,_,_,_,_,_,_,_,_,_,_,_,_,_,_,_,_,_,_,_,_,_,_,_,_,_,_,_,_,_,_,_,_,_,_,_,_,_,_,_] _
             exact hk _ _ ⟨O, (by simp only [upd, Nat.reduceBEq, Bool.true_or, Bool.false_or, q7_, q8_, q9_, q14_, q15_, q16_, q17_, cnd_t, cnd_f, Asc_t, Asc_f]), hs.cast (by first | rfl | simp only [List.take, List.drop, List.cons_append, List.nil_append, List.set_cons_zero, List.set_cons_succ, List.eraseIdx, upd, Nat.reduceBEq, Bool.true_or, Bool.false_or, q7_, q8_, q9_, q14_, q15_, q16_, q17_, cnd_t, cnd_f, Asc_t, Asc_f])⟩
            ·
             intro D t w hD hp hcl hI rest hk
             obtain ⟨O, ht, hs⟩ := hI
             obtain ⟨p6_, _⟩ := hp
             have q8_ : D 8 = false := not_yet (hcl.get 8 (by decide)) 1 7 rfl hD
             have q9_ : D 9 = false := not_yet (hcl.get 9 (by decide)) 0 8 rfl q8_
             have q14_ : D 14 = false := not_yet (hcl.get 14 (by decide)) 6 7 rfl hD
             have q15_ : D 15 = false := not_yet (hcl.get 15 (by decide)) 0 14 rfl q14_
             have q16_ : D 16 = false := not_yet (hcl.get 16 (by decide)) 9 7 rfl hD
             have q17_ : D 17 = false := not_yet (hcl.get 17 (by decide)) 0 16 rfl q16_
             simp only [hD, p6_, q8_, q9_, q14_, q15_, q16_, q17_, cnd_t, cnd_f, Asc_t, Asc_f] at ht hs
             subst ht
             refine g_op (v := Value.int .i64 (i64w (x19 - 1))) rfl rfl rfl ?_
             show G _ _ _ _ [_,_,_,_,_,_,_,_,_,_,_,_,_,_,_,_,_,_,_,_,_,_,_,_,_,_,_,_,_,_,_,_,_,_,_,_,_,_,_,_,_,_,_,_,_,_,_,_,_] _
             exact hk _ _ ⟨O, (by simp only [upd, Nat.reduceBEq, Bool.true_or, Bool.false_or, p6_, q8_, q9_, q14_, q15_, q16_, q17_, cnd_t, cnd_f, Asc_t, Asc_f]), hs.cast (by first | rfl | simp only [List.take, List.drop, List.cons_append, List.nil_append, List.set_cons_zero, List.set_cons_succ, List.eraseIdx, upd, Nat.reduceBEq, Bool.true_or, Bool.false_or, p6_, q8_, q9_, q14_, q15_, q16_, q17_, cnd_t, cnd_f, Asc_t, Asc_f])⟩
            ·
             intro D t w hD hp hcl hI rest hk
             obtain ⟨O, ht, hs⟩ := hI
             obtain ⟨p5_, p7_, _⟩ := hp
             obtain ⟨p6_, _⟩ := (hcl.get 7 (by decide)) p7_
             have q9_ : D 9 = false := not_yet (hcl.get 9 (by decide)) 0 8 rfl hD
             have q14_ : D 14 = false := not_yet (hcl.get 14 (by decide)) 7 8 rfl hD
             have q15_ : D 15 = false := not_yet (hcl.get 15 (by decide)) 0 14 rfl q14_
             have q16_ : D 16 = false := not_yet (hcl.get 16 (by decide)) 10 8 rfl hD
             have q17_ : D 17 = false := not_yet (hcl.get 17 (by decide)) 0 16 rfl q16_
             simp only [hD, p5_, p6_, p7_, q9_, q14_, q15_, q16_, q17_, cnd_t, cnd_f, Asc_t, Asc_f] at ht hs
             subst ht
             refine s_idxD (κ := (K.int .i16)) (m := 1) rfl (hs.row 0 rfl) rfl (fun _ => rfl) gd91.1 gd91.2 had92_ rfl rfl rfl rfl rfl ?_
             show G _ _ _ _ [_,_,_,_,_,_,_,_,_,_,_,_,_,_,_,_,_,_,_,_,_,_,_,_,_,_,_,_,_,_,_,_,_,_,_,_,_,_,_,_,_,_,_,_,_,_,_,_,_] _
             exact hk _ _ ⟨O, (by simp only [upd, Nat.reduceBEq, Bool.true_or, Bool.false_or, p5_, p6_, p7_, q9_, q14_, q15_, q16_, q17_, cnd_t, cnd_f, Asc_t, Asc_f]), hs.cast (by first | rfl | simp only [List.take, List.drop, List.cons_append, List.nil_append, List.set_cons_zero, List.set_cons_succ, List.eraseIdx, upd, Nat.reduceBEq, Bool.true_or, Bool.false_or, p5_, p6_, p7_, q9_, q14_, q15_, q16_, q17_, cnd_t, cnd_f, Asc_t, Asc_f])⟩
            ·
             intro D t w hD hp hcl hI rest hk
             obtain ⟨O, ht, hs⟩ := hI
             obtain ⟨p8_, _⟩ := hp
             obtain ⟨p5_, p7_, _⟩ := (hcl.get 8 (by decide)) p8_
             obtain ⟨p6_, _⟩ := (hcl.get 7 (by decide)) p7_
             have q14_ : D 14 = false := not_yet (hcl.get 14 (by decide)) 8 9 rfl hD
             have q15_ : D 15 = false := not_yet (hcl.get 15 (by decide)) 0 14 rfl q14_
             have q16_ : D 16 = false := not_yet (hcl.get 16 (by decide)) 11 9 rfl hD
             have q17_ : D 17 = false := not_yet (hcl.get 17 (by decide)) 0 16 rfl q16_
             simp only [hD, p5_, p6_, p7_, p8_, q14_, q15_, q16_, q17_, cnd_t, cnd_f, Asc_t, Asc_f] at ht hs
             subst ht
             refine s_load1 rfl rfl (v := Value.int .i16 (rdL x18 (i64w (x19 - 1)) 0)) rfl rfl (fun _ => rfl) (cellsAt_of (fkI .i16) 0 (hs.row 0 rfl) had92_ gd91.1 gd91.2) ?_
             show G _ _ _ _ [_,_,_,_,_,_,_,_,_,_,_,_,_,_,_,_,_,_,_,_,_,_,_,_,_,_,_,_,_,_,_,_,_,_,_,_,_,_,_,_,_,_,_,_,_,_,_,_,_] _
             exact hk _ _ ⟨O, (by simp only [upd, Nat.reduceBEq, Bool.true_or, Bool.false_or, p5_, p6_, p7_, p8_, q14_, q15_, q16_, q17_, cnd_t, cnd_f, Asc_t, Asc_f]), hs.cast (by first | rfl | simp only [List.take, List.drop, List.cons_append, List.nil_append, List.set_cons_zero, List.set_cons_succ, List.eraseIdx, upd, Nat.reduceBEq, Bool.true_or, Bool.false_or, p5_, p6_, p7_, p8_, q14_, q15_, q16_, q17_, cnd_t, cnd_f, Asc_t, Asc_f])⟩
            ·
             intro D t w hD hp hcl hI rest hk
             obtain ⟨O, ht, hs⟩ := hI
             have q12_ : D 12 = false := not_yet (hcl.get 12 (by decide)) 0 10 rfl hD
             have q13_ : D 13 = false := not_yet (hcl.get 13 (by decide)) 0 12 rfl q12_
             have q14_ : D 14 = false := not_yet (hcl.get 14 (by decide)) 9 13 rfl q13_
             have q15_ : D 15 = false := not_yet (hcl.get 15 (by decide)) 0 14 rfl q14_
             have q16_ : D 16 = false := not_yet (hcl.get 16 (by decide)) 12 10 rfl hD
             have q17_ : D 17 = false := not_yet (hcl.get 17 (by decide)) 0 16 rfl q16_
             simp only [hD, q12_, q13_, q14_, q15_, q16_, q17_, cnd_t, cnd_f, Asc_t, Asc_f] at ht hs
             subst ht
             refine g_op (v := v2) rfl rfl rfl ?_
             show G _ _ _ _ [_,_,_,_,_,_,_,_,_,_,_,_,_,_,_,_,_,_,_,_,_,_,_,_,_,_,_,_,_,_,_,_,_,_,_,_,_,_,_,_,_,_,_,_,_,_,_,_,_] _
             exact hk _ _ ⟨O, (by simp only [upd, Nat.reduceBEq, Bool.true_or, Bool.false_or, q12_, q13_, q14_, q15_, q16_, q17_, cnd_t, cnd_f, Asc_t, Asc_f]), hs.cast (by first | rfl | simp only [List.take, List.drop, List.cons_append, List.nil_append, List.set_cons_zero, List.set_cons_succ, List.eraseIdx, upd, Nat.reduceBEq, Bool.true_or, Bool.false_or, q12_, q13_, q14_, q15_, q16_, q17_, cnd_t, cnd_f, Asc_t, Asc_f])⟩
            ·
             intro D t w hD hp hcl hI rest hk
             obtain ⟨O, ht, hs⟩ := hI
             have q12_ : D 12 = false := not_yet (hcl.get 12 (by decide)) 1 11 rfl hD
             have q13_ : D 13 = false := not_yet (hcl.get 13 (by decide)) 0 12 rfl q12_
             have q14_ : D 14 = false := not_yet (hcl.get 14 (by decide)) 9 13 rfl q13_
             have q15_ : D 15 = false := not_yet (hcl.get 15 (by decide)) 0 14 rfl q14_
             have q16_ : D 16 = false := not_yet (hcl.get 16 (by decide)) 13 11 rfl hD
             have q17_ : D 17 = false := not_yet (hcl.get 17 (by decide)) 0 16 rfl q16_
             simp only [hD, q12_, q13_, q14_, q15_, q16_, q17_, cnd_t, cnd_f, Asc_t, Asc_f] at ht hs
             subst ht
             refine g_op (v := Value.int .i64 x19) rfl rfl rfl ?_
             show G _ _ _ _ [_,_,_,_,_,_,_,_,_,_,_,_,_,_,_,_,_,_,_,_,_,_,_,_,_,_,_,_,_,_,_,_,_,_,_,_,_,_,_,_,_,_,_,_,_,_,_,_,_] _
             exact hk _ _ ⟨O, (by simp only [upd, Nat.reduceBEq, Bool.true_or, Bool.false_or, q12_, q13_, q14_, q15_, q16_, q17_, cnd_t, cnd_f, Asc_t, Asc_f]), hs.cast (by first | rfl | simp only [List.take, List.drop, List.cons_append, List.nil_append, List.set_cons_zero, List.set_cons_succ, List.eraseIdx, upd, Nat.reduceBEq, Bool.true_or, Bool.false_or, q12_, q13_, q14_, q15_, q16_, q17_, cnd_t, cnd_f, Asc_t, Asc_f])⟩
            ·
             intro D t w hD hp hcl hI rest hk
             obtain ⟨O, ht, hs⟩ := hI
             obtain ⟨p10_, p11_, _⟩ := hp
             have q13_ : D 13 = false := not_yet (hcl.get 13 (by decide)) 0 12 rfl hD
             have q14_ : D 14 = false := not_yet (hcl.get 14 (by decide)) 9 13 rfl q13_
             have q15_ : D 15 = false := not_yet (hcl.get 15 (by decide)) 0 14 rfl q14_
             have q16_ : D 16 = false := not_yet (hcl.get 16 (by decide)) 14 12 rfl hD
             have q17_ : D 17 = false := not_yet (hcl.get 17 (by decide)) 0 16 rfl q16_
             simp only [hD, p10_, p11_, q13_, q14_, q15_, q16_, q17_, cnd_t, cnd_f, Asc_t, Asc_f] at ht hs
             subst ht
             refine s_idxD (κ := (K.int .i16)) (m := 1) rfl (hs.row 0 rfl) rfl (fun _ => rfl) gd93.1 gd93.2 had94_ rfl rfl rfl rfl rfl ?_
             show G _ _ _ _ [_,_,_,_,_,_,_,_,_,_,_,_,_,_,_,_,_,_,_,_,_,_,_,_,_,_,_,_,_,_,_,_,_,_,_,_,_,_,_,_,_,_,_,_,_,_,_,_,_] _
             exact hk _ _ ⟨O, (by simp only [upd, Nat.reduceBEq, Bool.true_or, Bool.false_or, p10_, p11_, q13_, q14_, q15_, q16_, q17_, cnd_t, cnd_f, Asc_t, Asc_f]), hs.cast (by first | rfl | simp only [List.take, List.drop, List.cons_append, List.nil_append, List.set_cons_zero, List.set_cons_succ, List.eraseIdx, upd, Nat.reduceBEq, Bool.true_or, Bool.false_or, p10_, p11_, q13_, q14_, q15_, q16_, q17_, cnd_t, cnd_f, Asc_t, Asc_f])⟩
            ·
             intro D t w hD hp hcl hI rest hk
             obtain ⟨O, ht, hs⟩ := hI
             obtain ⟨p12_, _⟩ := hp
             obtain ⟨p10_, p11_, _⟩ := (hcl.get 12 (by decide)) p12_
             have q14_ : D 14 = false := not_yet (hcl.get 14 (by decide)) 9 13 rfl hD
             have q15_ : D 15 = false := not_yet (hcl.get 15 (by decide)) 0 14 rfl q14_
             have q16_ : D 16 = false := not_yet (hcl.get 16 (by decide)) 15 13 rfl hD
             have q17_ : D 17 = false := not_yet (hcl.get 17 (by decide)) 0 16 rfl q16_
             simp only [hD, p10_, p11_, p12_, q14_, q15_, q16_, q17_, cnd_t, cnd_f, Asc_t, Asc_f] at ht hs
             subst ht
             refine s_load1 rfl rfl (v := Value.int .i16 (rdL x18 x19 0)) rfl rfl (fun _ => rfl) (cellsAt_of (fkI .i16) 0 (hs.row 0 rfl) had94_ gd93.1 gd93.2) ?_
             show G _ _ _ _ [_,_,_,_,_,_,_,_,_,_,_,_,_,_,_,_,_,_,_,_,_,_,_,_,_,_,_,_,_,_,_,_,_,_,_,_,_,_,_,_,_,_,_,_,_,_,_,_,_] _
             exact hk _ _ ⟨O, (by simp only [upd, Nat.reduceBEq, Bool.true_or, Bool.false_or, p10_, p11_, p12_, q14_, q15_, q16_, q17_, cnd_t, cnd_f, Asc_t, Asc_f]), hs.cast (by first | rfl | simp only [List.take, List.drop, List.cons_append, List.nil_append, List.set_cons_zero, List.set_cons_succ, List.eraseIdx, upd, Nat.reduceBEq, Bool.true_or, Bool.false_or, p10_, p11_, p12_, q14_, q15_, q16_, q17_, cnd_t, cnd_f, Asc_t, Asc_f])⟩
            ·
             intro D t w hD hp hcl hI rest hk
             obtain ⟨O, ht, hs⟩ := hI
             obtain ⟨p0_, p1_, _, _, p5_, p6_, p7_, p8_, p9_, p13_, _⟩ := hp
             obtain ⟨p12_, _⟩ := (hcl.get 13 (by decide)) p13_
             obtain ⟨p10_, p11_, _⟩ := (hcl.get 12 (by decide)) p12_
             have q15_ : D 15 = false := not_yet (hcl.get 15 (by decide)) 0 14 rfl hD
             have q16_ : D 16 = false := not_yet (hcl.get 16 (by decide)) 16 14 rfl hD
             have q17_ : D 17 = false := not_yet (hcl.get 17 (by decide)) 0 16 rfl q16_
             simp only [hD, p0_, p1_, p5_, p6_, p7_, p8_, p9_, p10_, p11_, p12_, p13_, q15_, q16_, q17_, cnd_t, cnd_f, Asc_t, Asc_f] at ht hs
             subst ht
             refine s_idxD (κ := (K.int .i16)) (m := 1) rfl (hs.row 0 rfl) rfl (fun _ => rfl) gd95.1 gd95.2 had96_ rfl rfl rfl rfl rfl ?_
             show G _ _ _ _ [_,_,_,_,_,_,_,_,_,_,_,_,_,_,_,_,_,_,_,_,_,_,_,_,_,_,_,_,_,_,_,_,_,_,_,_,_,_,_,_,_,_,_,_,_,_,_,_,_] _
             exact hk _ _ ⟨O, (by simp only [upd, Nat.reduceBEq, Bool.true_or, Bool.false_or, p0_, p1_, p5_, p6_, p7_, p8_, p9_, p10_, p11_, p12_, p13_, q15_, q16_, q17_, cnd_t, cnd_f, Asc_t, Asc_f]), hs.cast (by first | rfl | simp only [List.take, List.drop, List.cons_append, List.nil_append, List.set_cons_zero, List.set_cons_succ, List.eraseIdx, upd, Nat.reduceBEq, Bool.true_or, Bool.false_or, p0_, p1_, p5_, p6_, p7_, p8_, p9_, p10_, p11_, p12_, p13_, q15_, q16_, q17_, cnd_t, cnd_f, Asc_t, Asc_f])⟩
            ·
             intro D t w hD hp hcl hI rest hk
             obtain ⟨O, ht, hs⟩ := hI
             obtain ⟨p14_, p9_, p0_, p1_, p5_, p6_, p7_, p8_, _, p13_, _⟩ := hp
             obtain ⟨p12_, _⟩ := (hcl.get 13 (by decide)) p13_
             obtain ⟨p10_, p11_, _⟩ := (hcl.get 12 (by decide)) p12_
             have q16_ : D 16 = false := not_yet (hcl.get 16 (by decide)) 17 15 rfl hD
             have q17_ : D 17 = false := not_yet (hcl.get 17 (by decide)) 0 16 rfl q16_
             simp only [hD, p0_, p1_, p5_, p6_, p7_, p8_, p9_, p10_, p11_, p12_, p13_, p14_, q16_, q17_, cnd_t, cnd_f, Asc_t, Asc_f] at ht hs
             subst ht
             refine s_stRow (y := rdL x18 (i64w (x19 - 1)) 0) (fkI .i16) gd95.1 gd95.2 (hown_of had96_) hs rfl rfl rfl rfl rfl (fun _ => rfl) ?_
             intro w hs
             show G _ _ _ _ [_,_,_,_,_,_,_,_,_,_,_,_,_,_,_,_,_,_,_,_,_,_,_,_,_,_,_,_,_,_,_,_,_,_,_,_,_,_,_,_,_,_,_,_,_,_,_,_,_] _
             have hs := hs.push 0 (by simp)
             exact hk _ _ ⟨O, (by simp only [upd, Nat.reduceBEq, Bool.true_or, Bool.false_or, p0_, p1_, p5_, p6_, p7_, p8_, p9_, p10_, p11_, p12_, p13_, p14_, q16_, q17_, cnd_t, cnd_f, Asc_t, Asc_f]), hs.cast (by first | rfl | simp only [List.take, List.drop, List.cons_append, List.nil_append, List.set_cons_zero, List.set_cons_succ, List.eraseIdx, upd, Nat.reduceBEq, Bool.true_or, Bool.false_or, p0_, p1_, p5_, p6_, p7_, p8_, p9_, p10_, p11_, p12_, p13_, p14_, q16_, q17_, cnd_t, cnd_f, Asc_t, Asc_f])⟩
            ·
             intro D t w hD hp hcl hI rest hk
             obtain ⟨O, ht, hs⟩ := hI
             obtain ⟨p2_, p4_, p0_, p1_, _, p3_, _, p5_, p6_, p7_, p8_, p9_, p10_, p11_, p12_, p13_, p14_, p15_, _⟩ := hp
             have q17_ : D 17 = false := not_yet (hcl.get 17 (by decide)) 0 16 rfl hD
             simp only [hD, p0_, p1_, p2_, p3_, p4_, p5_, p6_, p7_, p8_, p9_, p10_, p11_, p12_, p13_, p14_, p15_, q17_, cnd_t, cnd_f, Asc_t, Asc_f] at ht hs
             subst ht
             refine s_idxD (κ := (K.int .i16)) (m := 1) rfl (hs.row 0 rfl) rfl (fun _ => rfl) gd97.1 gd97.2 had98_ rfl rfl rfl rfl rfl ?_
             show G _ _ _ _ [_,_,_,_,_,_,_,_,_,_,_,_,_,_,_,_,_,_,_,_,_,_,_,_,_,_,_,_,_,_,_,_,_,_,_,_,_,_,_,_,_,_,_,_,_,_,_,_,_] _
             exact hk _ _ ⟨O, (by simp only [upd, Nat.reduceBEq, Bool.true_or, Bool.false_or, p0_, p1_, p2_, p3_, p4_, p5_, p6_, p7_, p8_, p9_, p10_, p11_, p12_, p13_, p14_, p15_, q17_, cnd_t, cnd_f, Asc_t, Asc_f]), hs.cast (by first | rfl | simp only [List.take, List.drop, List.cons_append, List.nil_append, List.set_cons_zero, List.set_cons_succ, List.eraseIdx, upd, Nat.reduceBEq, Bool.true_or, Bool.false_or, p0_, p1_, p2_, p3_, p4_, p5_, p6_, p7_, p8_, p9_, p10_, p11_, p12_, p13_, p14_, p15_, q17_, cnd_t, cnd_f, Asc_t, Asc_f])⟩
            ·
             intro D t w hD hp hcl hI rest hk
             obtain ⟨O, ht, hs⟩ := hI
             obtain ⟨p16_, p13_, p15_, p0_, p1_, p2_, p3_, p4_, p5_, p6_, p7_, p8_, p9_, p10_, p11_, p12_, _, p14_, _, _⟩ := hp
             simp only [hD, p0_, p1_, p2_, p3_, p4_, p5_, p6_, p7_, p8_, p9_, p10_, p11_, p12_, p13_, p14_, p15_, p16_, cnd_t, cnd_f, Asc_t, Asc_f] at ht hs
             subst ht
             refine s_stRow (y := rdL x18 x19 0) (fkI .i16) gd97.1 gd97.2 (hown_of had98_) hs rfl rfl rfl rfl rfl (fun _ => rfl) ?_
             intro w hs
             show G _ _ _ _ [_,_,_,_,_,_,_,_,_,_,_,_,_,_,_,_,_,_,_,_,_,_,_,_,_,_,_,_,_,_,_,_,_,_,_,_,_,_,_,_,_,_,_,_,_,_,_,_,_] _
             have hs := hs.push 0 (by simp)
             exact hk _ _ ⟨O, (by simp only [upd, Nat.reduceBEq, Bool.true_or, Bool.false_or, p0_, p1_, p2_, p3_, p4_, p5_, p6_, p7_, p8_, p9_, p10_, p11_, p12_, p13_, p14_, p15_, p16_, cnd_t, cnd_f, Asc_t, Asc_f]), hs.cast (by first | rfl | simp only [List.take, List.drop, List.cons_append, List.nil_append, List.set_cons_zero, List.set_cons_succ, List.eraseIdx, upd, Nat.reduceBEq, Bool.true_or, Bool.false_or, p0_, p1_, p2_, p3_, p4_, p5_, p6_, p7_, p8_, p9_, p10_, p11_, p12_, p13_, p14_, p15_, p16_, cnd_t, cnd_f, Asc_t, Asc_f])⟩
            ·
             intro D t w hall hI
             obtain ⟨O, ht, hs⟩ := hI
             have p0_ : D 0 = true := hall 0 (by decide)
             have p1_ : D 1 = true := hall 1 (by decide)
             have p2_ : D 2 = true := hall 2 (by decide)
             have p3_ : D 3 = true := hall 3 (by decide)
             have p4_ : D 4 = true := hall 4 (by decide)
             have p5_ : D 5 = true := hall 5 (by decide)
             have p6_ : D 6 = true := hall 6 (by decide)
             have p7_ : D 7 = true := hall 7 (by decide)
             have p8_ : D 8 = true := hall 8 (by decide)
             have p9_ : D 9 = true := hall 9 (by decide)
             have p10_ : D 10 = true := hall 10 (by decide)
             have p11_ : D 11 = true := hall 11 (by decide)
             have p12_ : D 12 = true := hall 12 (by decide)
             have p13_ : D 13 = true := hall 13 (by decide)
             have p14_ : D 14 = true := hall 14 (by decide)
             have p15_ : D 15 = true := hall 15 (by decide)
             have p16_ : D 16 = true := hall 16 (by decide)
             have p17_ : D 17 = true := hall 17 (by decide)
             simp only [p0_, p1_, p2_, p3_, p4_, p5_, p6_, p7_, p8_, p9_, p10_, p11_, p12_, p13_, p14_, p15_, p16_, p17_, cnd_t, cnd_f, Asc_t, Asc_f] at ht hs
             subst ht
             refine g_inBlock ?_
             refine g_region ?_
             show G _ _ _ (.inRegion _ [0, 1, 2] :: _) _ _
             refine g_op (v := Value.int .i64 x19) rfl rfl rfl ?_
             refine g_op (v := Value.int .i64 (i64w (x19 - 1))) rfl rfl rfl ?_
             show G _ _ _ _ [_,_,_,_,_,_,_,_,_,_,_,_,_,_,_,_,_,_,_,_,_,_,_,_,_,_,_,_,_,_,_,_,_,_,_,_,_,_,_,_,_,_,_,_,_,_,_,_,_] _
             refine g_op (v := Value.int .i64 (i64w (x19 - 1))) rfl rfl rfl ?_
             refine g_ops_nil ?_
             obtain rfl := Option.some.inj H
             have hs := hs.pull 1 rfl
             have hs := hs.pull 1 rfl
             have hs : St _ [_,_] _ := St.take (Γ' := []) hs
             exact ih2_ _ _ ⟨stL (stL x18 x19 (rdL x18 (i64w (x19 - 1)) 0)) (i64w (x19 - 1)) (rdL x18 x19 0), i64w (x19 - 1), Hx2_, rfl, hs⟩
          | false =>
            rw [if_neg Bool.false_ne_true] at H
            obtain ⟨rest, rfl, hO99_⟩ := ord_one (m := 16383) hO89_ rfl 14 (m' := 32767) (by decide +kernel) rfl
            clear hO89_
            refine g_op (v := Value.bool false) rfl rfl rfl ?_
            show G _ _ _ _ [_,_,_,_,_,_,_,_,_,_,_,_,_,_,_,_,_,_,_,_,_,_,_,_,_,_,_,_,_,_,_,_,_,_,_,_,_,_,_,_,_,_,_,_,_,_,_,_,_] _
            obtain rfl := ord_end hO99_ rfl (by decide +kernel)
            refine g_ops_nil ?_
            refine g_cond_false rfl ?_
            obtain rfl := Option.some.inj H
            subst Hx2_
            have hs := hs.pull 1 rfl
            have hs := hs.pull 1 rfl
            have hs : St _ [_,_] _ := St.take (Γ' := []) hs
            refine g_exit rfl ?_
            exact ha2_ _ _ ⟨x18, Hr2_, rfl, hs⟩
       ·
        rw [if_neg hb80_] at H
        refine g_lay (n := 15) rfl [0, 1, 2, 3, 4, 5, 6, 7, 8, 9, 10, 11, 12, 13, 14] [0, 1, 2, 3, 4, 5, 6, 7, 8, 9, 10, 11, 12, 13, 14] rfl rfl ?_
        intro rest w hh hbw hO
        have hs := hs.samew hh hbw
        show G _ _ _ _ [_,_,_,_,_,_,_,_,_,_,_,_,_,_,_,_,_,_,_,_,_,_,_,_,_,_,_,_,_,_,_,_,_,_,_,_,_,_,_,_,_,_,_,_,_,_,_,_,_] _
        refine g_name ?_
        intro T hT
        refine g_layer (m0 := 0) hO rfl 3 [0, 1] [0, 0, 3, 7, 15, 15, 63, 127, 15, 15, 527, 1807, 3855, 8191, 16383] (by decide +kernel) (fun D t w => ∃ O : Nat → Value, t = [v2, Value.int .i64 a4, Value.int .i64 a5, O 3, O 4, O 5, Value.int .i64 x15, Value.int .i64 x19, O 8, O 9, O 10, O 11, O 12, O 13, O 14, O 15, cnd (D 0) (Value.int .i64 x19) (O 16), cnd (D 1) (Value.int .i64 a4) (O 17), O 18, O 19, O 20, O 21, O 22, O 23, O 24, O 25, O 26, O 27, O 28, O 29, O 30, O 31, O 32, O 33, O 34, O 35, O 36, O 37, O 38, O 39, O 40, O 41, O 42, O 43, O 44, O 45, O 46, O 47, O 48] ∧ St wb [Row 41 (K.int .i16) v2 x18, Z] w) ?_ ⟨?_, ⟨?_, trivial⟩⟩ ?_
        · exact ⟨fun i => T.getD i undef, (by subst hT; rfl), hs⟩
        ·
         intro D t w hD hp hcl hI rest hk
         obtain ⟨O, ht, hs⟩ := hI
         have hp : AllDone D [] := hp
         simp only [hD, cnd_t, cnd_f, Asc_t, Asc_f] at ht hs
         subst ht
         refine g_op (v := Value.int .i64 x19) rfl rfl rfl ?_
         show G _ _ _ _ [_,_,_,_,_,_,_,_,_,_,_,_,_,_,_,_,_,_,_,_,_,_,_,_,_,_,_,_,_,_,_,_,_,_,_,_,_,_,_,_,_,_,_,_,_,_,_,_,_] _
         exact hk _ _ ⟨O, (by simp only [upd, Nat.reduceBEq, Bool.true_or, Bool.false_or, cnd_t, cnd_f, Asc_t, Asc_f]), hs.cast (by first | rfl | simp only [List.take, List.drop, List.cons_append, List.nil_append, List.set_cons_zero, List.set_cons_succ, List.eraseIdx, upd, Nat.reduceBEq, Bool.true_or, Bool.false_or, cnd_t, cnd_f, Asc_t, Asc_f])⟩
        ·
         intro D t w hD hp hcl hI rest hk
         obtain ⟨O, ht, hs⟩ := hI
         have hp : AllDone D [] := hp
         simp only [hD, cnd_t, cnd_f, Asc_t, Asc_f] at ht hs
         subst ht
         refine g_op (v := Value.int .i64 a4) rfl rfl rfl ?_
         show G _ _ _ _ [_,_,_,_,_,_,_,_,_,_,_,_,_,_,_,_,_,_,_,_,_,_,_,_,_,_,_,_,_,_,_,_,_,_,_,_,_,_,_,_,_,_,_,_,_,_,_,_,_] _
         exact hk _ _ ⟨O, (by simp only [upd, Nat.reduceBEq, Bool.true_or, Bool.false_or, cnd_t, cnd_f, Asc_t, Asc_f]), hs.cast (by first | rfl | simp only [List.take, List.drop, List.cons_append, List.nil_append, List.set_cons_zero, List.set_cons_succ, List.eraseIdx, upd, Nat.reduceBEq, Bool.true_or, Bool.false_or, cnd_t, cnd_f, Asc_t, Asc_f])⟩
        ·
         intro D t w rest hall hO100_ hI
         obtain ⟨O, ht, hs⟩ := hI
         have p0_ : D 0 = true := hall 0 (by decide) rfl
         have p1_ : D 1 = true := hall 1 (by decide) rfl
         simp only [p0_, p1_, cnd_t, cnd_f, Asc_t, Asc_f] at ht hs
         subst ht
         obtain ⟨rest, rfl, hO101_⟩ := ord_one (m := 3) hO100_ rfl 2 (m' := 7) (by decide +kernel) rfl
         clear hO100_
         refine g_op (v := Value.bool false) rfl rfl (run_bool (b := decide (x19 > a4)) rfl (by first | exact decide_eq_true hb80_ | exact decide_eq_false hb80_ | simp [hb80_])) ?_
         obtain ⟨rest, rfl, hO102_⟩ := ord_one (m := 7) hO101_ rfl 3 (m' := 15) (by decide +kernel) rfl
         clear hO101_
         refine g_op (v := Value.bool false) rfl rfl rfl ?_
         refine g_name ?_
         intro T hT
         refine g_layer (m0 := 15) hO102_ rfl 8191 [4, 5, 6, 7, 8, 9, 10, 11, 12] [0, 0, 3, 7, 15, 15, 63, 127, 15, 15, 527, 1807, 3855, 8191, 16383] (by decide +kernel) (fun D t w => ∃ O : Nat → Value, t = [v2, Value.int .i64 a4, Value.int .i64 a5, O 3, O 4, O 5, Value.int .i64 x15, Value.int .i64 x19, O 8, O 9, O 10, O 11, O 12, O 13, O 14, O 15, Value.int .i64 x19, Value.int .i64 a4, Value.bool false, Value.bool false, cnd (D 4) undef (O 20), cnd (D 5) undef (O 21), cnd (D 6) undef (O 22), cnd (D 7) undef (O 23), cnd (D 8) undef (O 24), cnd (D 9) undef (O 25), cnd (D 10) undef (O 26), cnd (D 11) undef (O 27), cnd (D 12) undef (O 28), O 29, O 30, O 31, O 32, O 33, O 34, O 35, O 36, O 37, O 38, O 39, O 40, O 41, O 42, O 43, O 44, O 45, O 46, O 47, O 48] ∧ St wb [Row 41 (K.int .i16) v2 x18, Z] w) ?_ ⟨?_, ⟨?_, ⟨?_, ⟨?_, ⟨?_, ⟨?_, ⟨?_, ⟨?_, ⟨?_, trivial⟩⟩⟩⟩⟩⟩⟩⟩⟩ ?_
         · exact ⟨fun i => T.getD i undef, (by subst hT; rfl), hs⟩
         ·
          intro D t w hD hp hcl hI rest hk
          obtain ⟨O, ht, hs⟩ := hI
          have hp : AllDone D [3] := hp
          obtain ⟨p3_, _⟩ := hp
          have q6_ : D 6 = false := not_yet (show D 6 = true → AllDone D [4, 5, 3] from hcl 6 (by decide)) 0 4 rfl hD
          have q7_ : D 7 = false := not_yet (show D 7 = true → AllDone D [6, 3] from hcl 7 (by decide)) 0 6 rfl q6_
          simp only [hD, q6_, q7_, cnd_t, cnd_f, Asc_t, Asc_f] at ht hs
          subst ht
          refine g_op_not rfl rfl ?_
          show G _ _ _ _ [_,_,_,_,_,_,_,_,_,_,_,_,_,_,_,_,_,_,_,_,_,_,_,_,_,_,_,_,_,_,_,_,_,_,_,_,_,_,_,_,_,_,_,_,_,_,_,_,_] _
          exact hk _ _ ⟨O, (by simp only [upd, Nat.reduceBEq, Bool.true_or, Bool.false_or, q6_, q7_, cnd_t, cnd_f, Asc_t, Asc_f]), hs.cast (by simp only [upd, Nat.reduceBEq, Bool.true_or, Bool.false_or, q6_, q7_, cnd_t, cnd_f, Asc_t, Asc_f])⟩
         ·
          intro D t w hD hp hcl hI rest hk
          obtain ⟨O, ht, hs⟩ := hI
          have hp : AllDone D [3] := hp
          obtain ⟨p3_, _⟩ := hp
          have q6_ : D 6 = false := not_yet (show D 6 = true → AllDone D [4, 5, 3] from hcl 6 (by decide)) 1 5 rfl hD
          have q7_ : D 7 = false := not_yet (show D 7 = true → AllDone D [6, 3] from hcl 7 (by decide)) 0 6 rfl q6_
          simp only [hD, q6_, q7_, cnd_t, cnd_f, Asc_t, Asc_f] at ht hs
          subst ht
          refine g_op_not rfl rfl ?_
          show G _ _ _ _ [_,_,_,_,_,_,_,_,_,_,_,_,_,_,_,_,_,_,_,_,_,_,_,_,_,_,_,_,_,_,_,_,_,_,_,_,_,_,_,_,_,_,_,_,_,_,_,_,_] _
          exact hk _ _ ⟨O, (by simp only [upd, Nat.reduceBEq, Bool.true_or, Bool.false_or, q6_, q7_, cnd_t, cnd_f, Asc_t, Asc_f]), hs.cast (by simp only [upd, Nat.reduceBEq, Bool.true_or, Bool.false_or, q6_, q7_, cnd_t, cnd_f, Asc_t, Asc_f])⟩
         ·
          intro D t w hD hp hcl hI rest hk
          obtain ⟨O, ht, hs⟩ := hI
          have hp : AllDone D [4, 5, 3] := hp
          obtain ⟨p4_, p5_, p3_, _⟩ := hp
          have q7_ : D 7 = false := not_yet (show D 7 = true → AllDone D [6, 3] from hcl 7 (by decide)) 0 6 rfl hD
          simp only [hD, p4_, p5_, q7_, cnd_t, cnd_f, Asc_t, Asc_f] at ht hs
          subst ht
          refine g_op_not rfl rfl ?_
          show G _ _ _ _ [_,_,_,_,_,_,_,_,_,_,_,_,_,_,_,_,_,_,_,_,_,_,_,_,_,_,_,_,_,_,_,_,_,_,_,_,_,_,_,_,_,_,_,_,_,_,_,_,_] _
          exact hk _ _ ⟨O, (by simp only [upd, Nat.reduceBEq, Bool.true_or, Bool.false_or, p4_, p5_, q7_, cnd_t, cnd_f, Asc_t, Asc_f]), hs.cast (by simp only [upd, Nat.reduceBEq, Bool.true_or, Bool.false_or, p4_, p5_, q7_, cnd_t, cnd_f, Asc_t, Asc_f])⟩
         ·
          intro D t w hD hp hcl hI rest hk
          obtain ⟨O, ht, hs⟩ := hI
          have hp : AllDone D [6, 3] := hp
          obtain ⟨p6_, p3_, _⟩ := hp
          obtain ⟨p4_, p5_, _, _⟩ := (show D 6 = true → AllDone D [4, 5, 3] from hcl 6 (by decide)) p6_
          simp only [hD, p4_, p5_, p6_, cnd_t, cnd_f, Asc_t, Asc_f] at ht hs
          subst ht
          refine g_op_not rfl rfl ?_
          show G _ _ _ _ [_,_,_,_,_,_,_,_,_,_,_,_,_,_,_,_,_,_,_,_,_,_,_,_,_,_,_,_,_,_,_,_,_,_,_,_,_,_,_,_,_,_,_,_,_,_,_,_,_] _
          exact hk _ _ ⟨O, (by simp only [upd, Nat.reduceBEq, Bool.true_or, Bool.false_or, p4_, p5_, p6_, cnd_t, cnd_f, Asc_t, Asc_f]), hs.cast (by simp only [upd, Nat.reduceBEq, Bool.true_or, Bool.false_or, p4_, p5_, p6_, cnd_t, cnd_f, Asc_t, Asc_f])⟩
         ·
          intro D t w hD hp hcl hI rest hk
          obtain ⟨O, ht, hs⟩ := hI
          have hp : AllDone D [3] := hp
          obtain ⟨p3_, _⟩ := hp
          have q11_ : D 11 = false := not_yet (show D 11 = true → AllDone D [8, 10, 3] from hcl 11 (by decide)) 0 8 rfl hD
          have q12_ : D 12 = false := not_yet (show D 12 = true → AllDone D [11, 3] from hcl 12 (by decide)) 0 11 rfl q11_
          simp only [hD, q11_, q12_, cnd_t, cnd_f, Asc_t, Asc_f] at ht hs
          subst ht
          refine g_op_not rfl rfl ?_
          show G _ _ _ _ [_,_,_,_,_,_,_,_,_,_,_,_,_,_,_,_,_,_,_,_,_,_,_,_,_,_,_,_,_,_,_,_,_,_,_,_,_,_,_,_,_,_,_,_,_,_,_,_,_] _
          exact hk _ _ ⟨O, (by simp only [upd, Nat.reduceBEq, Bool.true_or, Bool.false_or, q11_, q12_, cnd_t, cnd_f, Asc_t, Asc_f]), hs.cast (by simp only [upd, Nat.reduceBEq, Bool.true_or, Bool.false_or, q11_, q12_, cnd_t, cnd_f, Asc_t, Asc_f])⟩
         ·
          intro D t w hD hp hcl hI rest hk
          obtain ⟨O, ht, hs⟩ := hI
          have hp : AllDone D [3] := hp
          obtain ⟨p3_, _⟩ := hp
          have q10_ : D 10 = false := not_yet (show D 10 = true → AllDone D [9, 3] from hcl 10 (by decide)) 0 9 rfl hD
          have q11_ : D 11 = false := not_yet (show D 11 = true → AllDone D [8, 10, 3] from hcl 11 (by decide)) 1 10 rfl q10_
          have q12_ : D 12 = false := not_yet (show D 12 = true → AllDone D [11, 3] from hcl 12 (by decide)) 0 11 rfl q11_
          simp only [hD, q10_, q11_, q12_, cnd_t, cnd_f, Asc_t, Asc_f] at ht hs
          subst ht
          refine g_op_not rfl rfl ?_
          show G _ _ _ _ [_,_,_,_,_,_,_,_,_,_,_,_,_,_,_,_,_,_,_,_,_,_,_,_,_,_,_,_,_,_,_,_,_,_,_,_,_,_,_,_,_,_,_,_,_,_,_,_,_] _
          exact hk _ _ ⟨O, (by simp only [upd, Nat.reduceBEq, Bool.true_or, Bool.false_or, q10_, q11_, q12_, cnd_t, cnd_f, Asc_t, Asc_f]), hs.cast (by simp only [upd, Nat.reduceBEq, Bool.true_or, Bool.false_or, q10_, q11_, q12_, cnd_t, cnd_f, Asc_t, Asc_f])⟩
         ·
          intro D t w hD hp hcl hI rest hk
          obtain ⟨O, ht, hs⟩ := hI
          have hp : AllDone D [9, 3] := hp
          obtain ⟨p9_, p3_, _⟩ := hp
          have q11_ : D 11 = false := not_yet (show D 11 = true → AllDone D [8, 10, 3] from hcl 11 (by decide)) 1 10 rfl hD
          have q12_ : D 12 = false := not_yet (show D 12 = true → AllDone D [11, 3] from hcl 12 (by decide)) 0 11 rfl q11_
          simp only [hD, p9_, q11_, q12_, cnd_t, cnd_f, Asc_t, Asc_f] at ht hs
          subst ht
          refine g_op_not rfl rfl ?_
          show G _ _ _ _ [_,_,_,_,_,_,_,_,_,_,_,_,_,_,_,_,_,_,_,_,_,_,_,_,_,_,_,_,_,_,_,_,_,_,_,_,_,_,_,_,_,_,_,_,_,_,_,_,_] _
          exact hk _ _ ⟨O, (by simp only [upd, Nat.reduceBEq, Bool.true_or, Bool.false_or, p9_, q11_, q12_, cnd_t, cnd_f, Asc_t, Asc_f]), hs.cast (by simp only [upd, Nat.reduceBEq, Bool.true_or, Bool.false_or, p9_, q11_, q12_, cnd_t, cnd_f, Asc_t, Asc_f])⟩
         ·
          intro D t w hD hp hcl hI rest hk
          obtain ⟨O, ht, hs⟩ := hI
          have hp : AllDone D [8, 10, 3] := hp
          obtain ⟨p8_, p10_, p3_, _⟩ := hp
          obtain ⟨p9_, _, _⟩ := (show D 10 = true → AllDone D [9, 3] from hcl 10 (by decide)) p10_
          have q12_ : D 12 = false := not_yet (show D 12 = true → AllDone D [11, 3] from hcl 12 (by decide)) 0 11 rfl hD
          simp only [hD, p8_, p9_, p10_, q12_, cnd_t, cnd_f, Asc_t, Asc_f] at ht hs
          subst ht
          refine g_op_not rfl rfl ?_
          show G _ _ _ _ [_,_,_,_,_,_,_,_,_,_,_,_,_,_,_,_,_,_,_,_,_,_,_,_,_,_,_,_,_,_,_,_,_,_,_,_,_,_,_,_,_,_,_,_,_,_,_,_,_] _
          exact hk _ _ ⟨O, (by simp only [upd, Nat.reduceBEq, Bool.true_or, Bool.false_or, p8_, p9_, p10_, q12_, cnd_t, cnd_f, Asc_t, Asc_f]), hs.cast (by simp only [upd, Nat.reduceBEq, Bool.true_or, Bool.false_or, p8_, p9_, p10_, q12_, cnd_t, cnd_f, Asc_t, Asc_f])⟩
         ·
          intro D t w hD hp hcl hI rest hk
          obtain ⟨O, ht, hs⟩ := hI
          have hp : AllDone D [11, 3] := hp
          obtain ⟨p11_, p3_, _⟩ := hp
          obtain ⟨p8_, p10_, _, _⟩ := (show D 11 = true → AllDone D [8, 10, 3] from hcl 11 (by decide)) p11_
          obtain ⟨p9_, _, _⟩ := (show D 10 = true → AllDone D [9, 3] from hcl 10 (by decide)) p10_
          simp only [hD, p8_, p9_, p10_, p11_, cnd_t, cnd_f, Asc_t, Asc_f] at ht hs
          subst ht
          refine g_op_not rfl rfl ?_
          show G _ _ _ _ [_,_,_,_,_,_,_,_,_,_,_,_,_,_,_,_,_,_,_,_,_,_,_,_,_,_,_,_,_,_,_,_,_,_,_,_,_,_,_,_,_,_,_,_,_,_,_,_,_] _
          exact hk _ _ ⟨O, (by simp only [upd, Nat.reduceBEq, Bool.true_or, Bool.false_or, p8_, p9_, p10_, p11_, cnd_t, cnd_f, Asc_t, Asc_f]), hs.cast (by simp only [upd, Nat.reduceBEq, Bool.true_or, Bool.false_or, p8_, p9_, p10_, p11_, cnd_t, cnd_f, Asc_t, Asc_f])⟩
         ·
          intro D t w rest hall hO103_ hI
          obtain ⟨O, ht, hs⟩ := hI
          have p4_ : D 4 = true := hall 4 (by decide) rfl
          have p5_ : D 5 = true := hall 5 (by decide) rfl
          have p6_ : D 6 = true := hall 6 (by decide) rfl
          have p7_ : D 7 = true := hall 7 (by decide) rfl
          have p8_ : D 8 = true := hall 8 (by decide) rfl
          have p9_ : D 9 = true := hall 9 (by decide) rfl
          have p10_ : D 10 = true := hall 10 (by decide) rfl
          have p11_ : D 11 = true := hall 11 (by decide) rfl
          have p12_ : D 12 = true := hall 12 (by decide) rfl
          simp only [p4_, p5_, p6_, p7_, p8_, p9_, p10_, p11_, p12_, cnd_t, cnd_f, Asc_t, Asc_f] at ht hs
          subst ht
          obtain ⟨rest, rfl, hO104_⟩ := ord_one (m := 8191) hO103_ rfl 13 (m' := 16383) (by decide +kernel) rfl
          clear hO103_
          refine g_op_not rfl rfl ?_
          obtain ⟨rest, rfl, hO105_⟩ := ord_one (m := 16383) hO104_ rfl 14 (m' := 32767) (by decide +kernel) rfl
          clear hO104_
          refine g_op (v := Value.bool false) rfl rfl rfl ?_
          show G _ _ _ _ [_,_,_,_,_,_,_,_,_,_,_,_,_,_,_,_,_,_,_,_,_,_,_,_,_,_,_,_,_,_,_,_,_,_,_,_,_,_,_,_,_,_,_,_,_,_,_,_,_] _
          obtain rfl := ord_end hO105_ rfl (by decide +kernel)
          refine g_ops_nil ?_
          refine g_cond_false rfl ?_
          obtain rfl := Option.some.inj H
          subst Hx2_
          have hs := hs.pull 1 rfl
          have hs := hs.pull 1 rfl
          have hs : St _ [_,_] _ := St.take (Γ' := []) hs
          refine g_exit rfl ?_
          exact ha2_ _ _ ⟨x18, Hr2_, rfl, hs⟩
    ·
     intro hb
     rw [if_neg (b_dec_f hb)] at H
     refine g_ops_nil ?_
     refine g_cond_false rfl ?_
     obtain rfl := Option.some.inj H
     subst Hx1_
     have hs := hs.pull 1 rfl
     have hs := hs.pull 1 rfl
     have hs : St _ [_,_] _ := St.take (Γ' := []) hs
     refine g_exit rfl ?_
     exact ha1_ _ _ ⟨x14, Hr1_, rfl, hs⟩

end Go.Proofs.YtjagkhjbbdfkaaaX
