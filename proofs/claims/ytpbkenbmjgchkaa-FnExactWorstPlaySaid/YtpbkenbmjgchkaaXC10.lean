/- Contracts, printed by gen.py. -/
import Derived.Test.YtpbkenbmjgchkaaXC9
namespace Go.Proofs.YtpbkenbmjgchkaaX
open Go Go.RowKit Go.Proofs
set_option linter.unusedVariables false
set_option linter.unusedSimpArgs false
/- function 58 spec_l06With -/
def spec_l06With.post (w0 : World) (r : S_impl_Game) (v : Value) (w : World) : Prop := ∃ u1 : Value, v = Value.agg (([Value.int .i8 r.f_Numbers, Value.int .i8 r.f_Lies, u1] : List Value)).toArray ∧ St w0 [Row 64 k_S_impl_Ask u1 r.f_Asked] w
set_option maxHeartbeats 8000000 in
set_option maxRecDepth 100000 in
theorem spec_l06With.calls {N : Nat} {a1 : S_impl_Game} {a6 : Int} {a7 : Bool} {b2 : Nat} {v3 : Value} {w0 : World} {r : S_impl_Game} (hr4 : RdRow k_S_impl_Ask w0 v3 a1.f_Asked) (hp0 : w0.heap[b2]? = some (.cells ((([Value.int .i8 a1.f_Numbers, Value.int .i8 a1.f_Lies, v3] : List Value)) : List Value).toArray 31 (0, 0))) (H : spec_l06With.f N a1 a6 a7 = some r) :
    Calls Try.prog 58 #[Value.pointer (some ⟨b2, 0, none⟩), Value.int .u64 a6, Value.bool a7] w0 fun e w => ∃ v, e = .returned v ∧ spec_l06With.post w0 r v w := by
  unfold spec_l06With.f at H
  have hs : St w0 [] w0 := St.refl w0
  refine calls_of_g (n := 24) Try.func58 rfl rfl ?_
  show G _ _ _ _ [_, _, _, _, _, _, _, _, _, _, _, _, _, _, _, _, _, _, _, _, _, _, _, _, _, _, _] _
  refine g_seq ?_
  refine g_region ?_
  show G _ _ _ (.inRegion _ [0] :: _) _ _
  refine s_alloc hs rfl rfl (z := (Value.agg #[Value.int .i8 0, Value.int .i8 0, Value.slice none 0 0])) (cs := (([Value.int .i8 0, Value.int .i8 0, Value.slice none 0 0] : List Value))) rfl (fun _ => rfl) rfl ?_
  intro b8 w hs
  show G _ _ _ _ [_, _, _, _, _, _, _, _, _, _, _, _, _, _, _, _, _, _, _, _, _, _, _, _, _, _, _] _
  refine g_ops_nil ?_
  refine g_seq ?_
  obtain ⟨gq13_, H⟩ := ite_get H
  obtain ⟨gq18_, H⟩ := ite_get H
  refine g_name ?_
  intro T hT
  refine g_any (n := 21) rfl [0, 1, 2, 3, 4, 5, 6, 7, 8, 9, 10, 11, 12, 13, 14, 15, 16, 17, 18, 19, 20] [0, 1, 2, 3, 4, 5, 6, 7, 8, 9, 10, 11, 12, 13, 14, 15, 16, 17, 18, 19, 20] rfl rfl (Inv := fun D t w => ∃ v10 : Value, ∃ v12 : Value, ∃ v14 : Value, ∃ v16 : Value, ∃ O : Nat → Value, t = [Value.pointer (some ⟨b2, 0, none⟩), Value.int .u64 a6, Value.bool a7, O 3, O 4, O 5, Value.pointer (some ⟨b8, 0, none⟩), cnd (D 0) (Value.pointer (some ⟨b2, 0, none⟩)) (O 7), cnd (D 1) (Value.pointer (some ⟨b2, 0, none⟩)) (O 8), cnd (D 2) (Value.pointer (some ⟨b2, 0, none⟩)) (O 9), cnd (D 3) (Value.int .i8 a1.f_Numbers) (O 10), cnd (D 4) (Value.pointer (some ⟨b2, 0, none⟩)) (O 11), cnd (D 5) (Value.pointer (some ⟨b2, 0, none⟩)) (O 12), cnd (D 6) (Value.pointer (some ⟨b2, 1, none⟩)) (O 13), cnd (D 7) (Value.int .i8 a1.f_Lies) (O 14), cnd (D 8) v10 (O 15), cnd (D 9) (Value.pointer (some ⟨b2, 0, none⟩)) (O 16), cnd (D 10) (Value.pointer (some ⟨b2, 0, none⟩)) (O 17), cnd (D 11) (Value.pointer (some ⟨b2, 2, none⟩)) (O 18), cnd (D 12) v3 (O 19), cnd (D 13) v12 (O 20), cnd (D 14) (Value.int .u64 a6) (O 21), cnd (D 15) (Value.bool a7) (O 22), cnd (D 16) (Value.agg (enc_S_impl_Ask (⟨a6, a7⟩ : S_impl_Ask)).toArray) (O 23), cnd (D 17) v14 (O 24), cnd (D 18) v16 (O 25), cnd (D 19) (Value.agg (([Value.int .i8 a1.f_Numbers, Value.int .i8 a1.f_Lies, v16] : List Value)).toArray) (O 26)] ∧ St w0 [Asc (D 8) (Row 64 k_S_impl_Ask (cnd (D 18) v16 (cnd (D 13) v12 v10)) (cnd (D 18) ((([] : List S_impl_Ask) ++ a1.f_Asked) ++ ([(⟨a6, a7⟩ : S_impl_Ask)])) (cnd (D 13) (([] : List S_impl_Ask) ++ a1.f_Asked) ([] : List S_impl_Ask)))), Asc (D 17) (Row 64 k_S_impl_Ask v14 ([(⟨a6, a7⟩ : S_impl_Ask)])), Cells b8 (cnd (D 20) (([Value.int .i8 a1.f_Numbers, Value.int .i8 a1.f_Lies, v16] : List Value)) (([Value.int .i8 0, Value.int .i8 0, Value.slice none 0 0] : List Value))) 31] w) ?_ ⟨⟨⟨⟨⟨⟨⟨⟨⟨⟨⟨⟨⟨⟨⟨⟨⟨⟨⟨⟨⟨trivial, ?_⟩, ?_⟩, ?_⟩, ?_⟩, ?_⟩, ?_⟩, ?_⟩, ?_⟩, ?_⟩, ?_⟩, ?_⟩, ?_⟩, ?_⟩, ?_⟩, ?_⟩, ?_⟩, ?_⟩, ?_⟩, ?_⟩, ?_⟩, ?_⟩ ?_
  ·
   intro w hh hbw
   have hs := hs.samew hh hbw
   have hs := hs.emp
   have hs := hs.emp
   exact ⟨undef, undef, undef, undef, fun i => T.getD i undef, (by subst hT; rfl), hs⟩
  ·
   intro D t w hD hp hcl hI rest hk
   obtain ⟨v10, v12, v14, v16, O, ht, hs⟩ := hI
   have q1_ : D 1 = false := not_yet (hcl.get 1 (by decide)) 0 0 rfl hD
   have q2_ : D 2 = false := not_yet (hcl.get 2 (by decide)) 0 1 rfl q1_
   have q3_ : D 3 = false := not_yet (hcl.get 3 (by decide)) 0 2 rfl q2_
   have q19_ : D 19 = false := not_yet (hcl.get 19 (by decide)) 0 3 rfl q3_
   have q20_ : D 20 = false := not_yet (hcl.get 20 (by decide)) 0 19 rfl q19_
   have u0_ : upd D 0 0 = true := rfl; have u1_ : upd D 0 1 = D 1 := rfl; have u2_ : upd D 0 2 = D 2 := rfl; have u3_ : upd D 0 3 = D 3 := rfl; have u4_ : upd D 0 4 = D 4 := rfl; have u5_ : upd D 0 5 = D 5 := rfl; have u6_ : upd D 0 6 = D 6 := rfl; have u7_ : upd D 0 7 = D 7 := rfl; have u8_ : upd D 0 8 = D 8 := rfl; have u9_ : upd D 0 9 = D 9 := rfl; have u10_ : upd D 0 10 = D 10 := rfl; have u11_ : upd D 0 11 = D 11 := rfl; have u12_ : upd D 0 12 = D 12 := rfl; have u13_ : upd D 0 13 = D 13 := rfl; have u14_ : upd D 0 14 = D 14 := rfl; have u15_ : upd D 0 15 = D 15 := rfl; have u16_ : upd D 0 16 = D 16 := rfl; have u17_ : upd D 0 17 = D 17 := rfl; have u18_ : upd D 0 18 = D 18 := rfl; have u19_ : upd D 0 19 = D 19 := rfl; have u20_ : upd D 0 20 = D 20 := rfl
   simp only [hD, q1_, q2_, q3_, q19_, q20_, cnd_t, cnd_f, Asc_t, Asc_f] at ht hs
   subst ht
   refine g_op (v := Value.pointer (some ⟨b2, 0, none⟩)) rfl rfl rfl ?_
   show G _ _ _ _ [_, _, _, _, _, _, _, _, _, _, _, _, _, _, _, _, _, _, _, _, _, _, _, _, _, _, _] _
   exact hk _ _ ⟨v10, v12, v14, v16, O, (by simp only [u0_, u1_, u2_, u3_, u4_, u5_, u6_, u7_, u8_, u9_, u10_, u11_, u12_, u13_, u14_, u15_, u16_, u17_, u18_, u19_, u20_, q1_, q2_, q3_, q19_, q20_, cnd_t, cnd_f, Asc_t, Asc_f]), hs.cast (by first | rfl | simp only [List.take, List.drop, List.cons_append, List.nil_append, List.set_cons_zero, List.set_cons_succ, List.eraseIdx, u0_, u1_, u2_, u3_, u4_, u5_, u6_, u7_, u8_, u9_, u10_, u11_, u12_, u13_, u14_, u15_, u16_, u17_, u18_, u19_, u20_, q1_, q2_, q3_, q19_, q20_, cnd_t, cnd_f, Asc_t, Asc_f])⟩
  ·
   intro D t w hD hp hcl hI rest hk
   obtain ⟨v10, v12, v14, v16, O, ht, hs⟩ := hI
   obtain ⟨p0_, _⟩ := hp
   have q2_ : D 2 = false := not_yet (hcl.get 2 (by decide)) 0 1 rfl hD
   have q3_ : D 3 = false := not_yet (hcl.get 3 (by decide)) 0 2 rfl q2_
   have q19_ : D 19 = false := not_yet (hcl.get 19 (by decide)) 0 3 rfl q3_
   have q20_ : D 20 = false := not_yet (hcl.get 20 (by decide)) 0 19 rfl q19_
   have u0_ : upd D 1 0 = D 0 := rfl; have u1_ : upd D 1 1 = true := rfl; have u2_ : upd D 1 2 = D 2 := rfl; have u3_ : upd D 1 3 = D 3 := rfl; have u4_ : upd D 1 4 = D 4 := rfl; have u5_ : upd D 1 5 = D 5 := rfl; have u6_ : upd D 1 6 = D 6 := rfl; have u7_ : upd D 1 7 = D 7 := rfl; have u8_ : upd D 1 8 = D 8 := rfl; have u9_ : upd D 1 9 = D 9 := rfl; have u10_ : upd D 1 10 = D 10 := rfl; have u11_ : upd D 1 11 = D 11 := rfl; have u12_ : upd D 1 12 = D 12 := rfl; have u13_ : upd D 1 13 = D 13 := rfl; have u14_ : upd D 1 14 = D 14 := rfl; have u15_ : upd D 1 15 = D 15 := rfl; have u16_ : upd D 1 16 = D 16 := rfl; have u17_ : upd D 1 17 = D 17 := rfl; have u18_ : upd D 1 18 = D 18 := rfl; have u19_ : upd D 1 19 = D 19 := rfl; have u20_ : upd D 1 20 = D 20 := rfl
   simp only [hD, p0_, q2_, q3_, q19_, q20_, cnd_t, cnd_f, Asc_t, Asc_f] at ht hs
   subst ht
   refine g_op (v := Value.pointer (some ⟨b2, 0, none⟩)) rfl rfl rfl ?_
   show G _ _ _ _ [_, _, _, _, _, _, _, _, _, _, _, _, _, _, _, _, _, _, _, _, _, _, _, _, _, _, _] _
   exact hk _ _ ⟨v10, v12, v14, v16, O, (by simp only [u0_, u1_, u2_, u3_, u4_, u5_, u6_, u7_, u8_, u9_, u10_, u11_, u12_, u13_, u14_, u15_, u16_, u17_, u18_, u19_, u20_, p0_, q2_, q3_, q19_, q20_, cnd_t, cnd_f, Asc_t, Asc_f]), hs.cast (by first | rfl | simp only [List.take, List.drop, List.cons_append, List.nil_append, List.set_cons_zero, List.set_cons_succ, List.eraseIdx, u0_, u1_, u2_, u3_, u4_, u5_, u6_, u7_, u8_, u9_, u10_, u11_, u12_, u13_, u14_, u15_, u16_, u17_, u18_, u19_, u20_, p0_, q2_, q3_, q19_, q20_, cnd_t, cnd_f, Asc_t, Asc_f])⟩
  ·
   intro D t w hD hp hcl hI rest hk
   obtain ⟨v10, v12, v14, v16, O, ht, hs⟩ := hI
   obtain ⟨p1_, _⟩ := hp
   obtain ⟨p0_, _⟩ := (hcl.get 1 (by decide)) p1_
   have q3_ : D 3 = false := not_yet (hcl.get 3 (by decide)) 0 2 rfl hD
   have q19_ : D 19 = false := not_yet (hcl.get 19 (by decide)) 0 3 rfl q3_
   have q20_ : D 20 = false := not_yet (hcl.get 20 (by decide)) 0 19 rfl q19_
   have u0_ : upd D 2 0 = D 0 := rfl; have u1_ : upd D 2 1 = D 1 := rfl; have u2_ : upd D 2 2 = true := rfl; have u3_ : upd D 2 3 = D 3 := rfl; have u4_ : upd D 2 4 = D 4 := rfl; have u5_ : upd D 2 5 = D 5 := rfl; have u6_ : upd D 2 6 = D 6 := rfl; have u7_ : upd D 2 7 = D 7 := rfl; have u8_ : upd D 2 8 = D 8 := rfl; have u9_ : upd D 2 9 = D 9 := rfl; have u10_ : upd D 2 10 = D 10 := rfl; have u11_ : upd D 2 11 = D 11 := rfl; have u12_ : upd D 2 12 = D 12 := rfl; have u13_ : upd D 2 13 = D 13 := rfl; have u14_ : upd D 2 14 = D 14 := rfl; have u15_ : upd D 2 15 = D 15 := rfl; have u16_ : upd D 2 16 = D 16 := rfl; have u17_ : upd D 2 17 = D 17 := rfl; have u18_ : upd D 2 18 = D 18 := rfl; have u19_ : upd D 2 19 = D 19 := rfl; have u20_ : upd D 2 20 = D 20 := rfl
   simp only [hD, p0_, p1_, q3_, q19_, q20_, cnd_t, cnd_f, Asc_t, Asc_f] at ht hs
   subst ht
   refine g_op (v := Value.pointer (some ⟨b2, 0, none⟩)) rfl rfl rfl ?_
   show G _ _ _ _ [_, _, _, _, _, _, _, _, _, _, _, _, _, _, _, _, _, _, _, _, _, _, _, _, _, _, _] _
   exact hk _ _ ⟨v10, v12, v14, v16, O, (by simp only [u0_, u1_, u2_, u3_, u4_, u5_, u6_, u7_, u8_, u9_, u10_, u11_, u12_, u13_, u14_, u15_, u16_, u17_, u18_, u19_, u20_, p0_, p1_, q3_, q19_, q20_, cnd_t, cnd_f, Asc_t, Asc_f]), hs.cast (by first | rfl | simp only [List.take, List.drop, List.cons_append, List.nil_append, List.set_cons_zero, List.set_cons_succ, List.eraseIdx, u0_, u1_, u2_, u3_, u4_, u5_, u6_, u7_, u8_, u9_, u10_, u11_, u12_, u13_, u14_, u15_, u16_, u17_, u18_, u19_, u20_, p0_, p1_, q3_, q19_, q20_, cnd_t, cnd_f, Asc_t, Asc_f])⟩
  ·
   intro D t w hD hp hcl hI rest hk
   obtain ⟨v10, v12, v14, v16, O, ht, hs⟩ := hI
   obtain ⟨p2_, _⟩ := hp
   obtain ⟨p1_, _⟩ := (hcl.get 2 (by decide)) p2_
   obtain ⟨p0_, _⟩ := (hcl.get 1 (by decide)) p1_
   have q19_ : D 19 = false := not_yet (hcl.get 19 (by decide)) 0 3 rfl hD
   have q20_ : D 20 = false := not_yet (hcl.get 20 (by decide)) 0 19 rfl q19_
   have u0_ : upd D 3 0 = D 0 := rfl; have u1_ : upd D 3 1 = D 1 := rfl; have u2_ : upd D 3 2 = D 2 := rfl; have u3_ : upd D 3 3 = true := rfl; have u4_ : upd D 3 4 = D 4 := rfl; have u5_ : upd D 3 5 = D 5 := rfl; have u6_ : upd D 3 6 = D 6 := rfl; have u7_ : upd D 3 7 = D 7 := rfl; have u8_ : upd D 3 8 = D 8 := rfl; have u9_ : upd D 3 9 = D 9 := rfl; have u10_ : upd D 3 10 = D 10 := rfl; have u11_ : upd D 3 11 = D 11 := rfl; have u12_ : upd D 3 12 = D 12 := rfl; have u13_ : upd D 3 13 = D 13 := rfl; have u14_ : upd D 3 14 = D 14 := rfl; have u15_ : upd D 3 15 = D 15 := rfl; have u16_ : upd D 3 16 = D 16 := rfl; have u17_ : upd D 3 17 = D 17 := rfl; have u18_ : upd D 3 18 = D 18 := rfl; have u19_ : upd D 3 19 = D 19 := rfl; have u20_ : upd D 3 20 = D 20 := rfl
   simp only [hD, p0_, p1_, p2_, q19_, q20_, cnd_t, cnd_f, Asc_t, Asc_f] at ht hs
   subst ht
   refine s_load1 rfl rfl (v := Value.int .i8 a1.f_Numbers) rfl rfl (fun _ => rfl) (cells_load (hs.box hp0) 0 1 rfl) ?_
   show G _ _ _ _ [_, _, _, _, _, _, _, _, _, _, _, _, _, _, _, _, _, _, _, _, _, _, _, _, _, _, _] _
   exact hk _ _ ⟨v10, v12, v14, v16, O, (by simp only [u0_, u1_, u2_, u3_, u4_, u5_, u6_, u7_, u8_, u9_, u10_, u11_, u12_, u13_, u14_, u15_, u16_, u17_, u18_, u19_, u20_, p0_, p1_, p2_, q19_, q20_, cnd_t, cnd_f, Asc_t, Asc_f]), hs.cast (by first | rfl | simp only [List.take, List.drop, List.cons_append, List.nil_append, List.set_cons_zero, List.set_cons_succ, List.eraseIdx, u0_, u1_, u2_, u3_, u4_, u5_, u6_, u7_, u8_, u9_, u10_, u11_, u12_, u13_, u14_, u15_, u16_, u17_, u18_, u19_, u20_, p0_, p1_, p2_, q19_, q20_, cnd_t, cnd_f, Asc_t, Asc_f])⟩
  ·
   intro D t w hD hp hcl hI rest hk
   obtain ⟨v10, v12, v14, v16, O, ht, hs⟩ := hI
   have q5_ : D 5 = false := not_yet (hcl.get 5 (by decide)) 0 4 rfl hD
   have q6_ : D 6 = false := not_yet (hcl.get 6 (by decide)) 0 5 rfl q5_
   have q7_ : D 7 = false := not_yet (hcl.get 7 (by decide)) 0 6 rfl q6_
   have q19_ : D 19 = false := not_yet (hcl.get 19 (by decide)) 1 7 rfl q7_
   have q20_ : D 20 = false := not_yet (hcl.get 20 (by decide)) 0 19 rfl q19_
   have u0_ : upd D 4 0 = D 0 := rfl; have u1_ : upd D 4 1 = D 1 := rfl; have u2_ : upd D 4 2 = D 2 := rfl; have u3_ : upd D 4 3 = D 3 := rfl; have u4_ : upd D 4 4 = true := rfl; have u5_ : upd D 4 5 = D 5 := rfl; have u6_ : upd D 4 6 = D 6 := rfl; have u7_ : upd D 4 7 = D 7 := rfl; have u8_ : upd D 4 8 = D 8 := rfl; have u9_ : upd D 4 9 = D 9 := rfl; have u10_ : upd D 4 10 = D 10 := rfl; have u11_ : upd D 4 11 = D 11 := rfl; have u12_ : upd D 4 12 = D 12 := rfl; have u13_ : upd D 4 13 = D 13 := rfl; have u14_ : upd D 4 14 = D 14 := rfl; have u15_ : upd D 4 15 = D 15 := rfl; have u16_ : upd D 4 16 = D 16 := rfl; have u17_ : upd D 4 17 = D 17 := rfl; have u18_ : upd D 4 18 = D 18 := rfl; have u19_ : upd D 4 19 = D 19 := rfl; have u20_ : upd D 4 20 = D 20 := rfl
   simp only [hD, q5_, q6_, q7_, q19_, q20_, cnd_t, cnd_f, Asc_t, Asc_f] at ht hs
   subst ht
   refine g_op (v := Value.pointer (some ⟨b2, 0, none⟩)) rfl rfl rfl ?_
   show G _ _ _ _ [_, _, _, _, _, _, _, _, _, _, _, _, _, _, _, _, _, _, _, _, _, _, _, _, _, _, _] _
   exact hk _ _ ⟨v10, v12, v14, v16, O, (by simp only [u0_, u1_, u2_, u3_, u4_, u5_, u6_, u7_, u8_, u9_, u10_, u11_, u12_, u13_, u14_, u15_, u16_, u17_, u18_, u19_, u20_, q5_, q6_, q7_, q19_, q20_, cnd_t, cnd_f, Asc_t, Asc_f]), hs.cast (by first | rfl | simp only [List.take, List.drop, List.cons_append, List.nil_append, List.set_cons_zero, List.set_cons_succ, List.eraseIdx, u0_, u1_, u2_, u3_, u4_, u5_, u6_, u7_, u8_, u9_, u10_, u11_, u12_, u13_, u14_, u15_, u16_, u17_, u18_, u19_, u20_, q5_, q6_, q7_, q19_, q20_, cnd_t, cnd_f, Asc_t, Asc_f])⟩
  ·
   intro D t w hD hp hcl hI rest hk
   obtain ⟨v10, v12, v14, v16, O, ht, hs⟩ := hI
   obtain ⟨p4_, _⟩ := hp
   have q6_ : D 6 = false := not_yet (hcl.get 6 (by decide)) 0 5 rfl hD
   have q7_ : D 7 = false := not_yet (hcl.get 7 (by decide)) 0 6 rfl q6_
   have q19_ : D 19 = false := not_yet (hcl.get 19 (by decide)) 1 7 rfl q7_
   have q20_ : D 20 = false := not_yet (hcl.get 20 (by decide)) 0 19 rfl q19_
   have u0_ : upd D 5 0 = D 0 := rfl; have u1_ : upd D 5 1 = D 1 := rfl; have u2_ : upd D 5 2 = D 2 := rfl; have u3_ : upd D 5 3 = D 3 := rfl; have u4_ : upd D 5 4 = D 4 := rfl; have u5_ : upd D 5 5 = true := rfl; have u6_ : upd D 5 6 = D 6 := rfl; have u7_ : upd D 5 7 = D 7 := rfl; have u8_ : upd D 5 8 = D 8 := rfl; have u9_ : upd D 5 9 = D 9 := rfl; have u10_ : upd D 5 10 = D 10 := rfl; have u11_ : upd D 5 11 = D 11 := rfl; have u12_ : upd D 5 12 = D 12 := rfl; have u13_ : upd D 5 13 = D 13 := rfl; have u14_ : upd D 5 14 = D 14 := rfl; have u15_ : upd D 5 15 = D 15 := rfl; have u16_ : upd D 5 16 = D 16 := rfl; have u17_ : upd D 5 17 = D 17 := rfl; have u18_ : upd D 5 18 = D 18 := rfl; have u19_ : upd D 5 19 = D 19 := rfl; have u20_ : upd D 5 20 = D 20 := rfl
   simp only [hD, p4_, q6_, q7_, q19_, q20_, cnd_t, cnd_f, Asc_t, Asc_f] at ht hs
   subst ht
   refine g_op (v := Value.pointer (some ⟨b2, 0, none⟩)) rfl rfl rfl ?_
   show G _ _ _ _ [_, _, _, _, _, _, _, _, _, _, _, _, _, _, _, _, _, _, _, _, _, _, _, _, _, _, _] _
   exact hk _ _ ⟨v10, v12, v14, v16, O, (by simp only [u0_, u1_, u2_, u3_, u4_, u5_, u6_, u7_, u8_, u9_, u10_, u11_, u12_, u13_, u14_, u15_, u16_, u17_, u18_, u19_, u20_, p4_, q6_, q7_, q19_, q20_, cnd_t, cnd_f, Asc_t, Asc_f]), hs.cast (by first | rfl | simp only [List.take, List.drop, List.cons_append, List.nil_append, List.set_cons_zero, List.set_cons_succ, List.eraseIdx, u0_, u1_, u2_, u3_, u4_, u5_, u6_, u7_, u8_, u9_, u10_, u11_, u12_, u13_, u14_, u15_, u16_, u17_, u18_, u19_, u20_, p4_, q6_, q7_, q19_, q20_, cnd_t, cnd_f, Asc_t, Asc_f])⟩
  ·
   intro D t w hD hp hcl hI rest hk
   obtain ⟨v10, v12, v14, v16, O, ht, hs⟩ := hI
   obtain ⟨p5_, _⟩ := hp
   obtain ⟨p4_, _⟩ := (hcl.get 5 (by decide)) p5_
   have q7_ : D 7 = false := not_yet (hcl.get 7 (by decide)) 0 6 rfl hD
   have q19_ : D 19 = false := not_yet (hcl.get 19 (by decide)) 1 7 rfl q7_
   have q20_ : D 20 = false := not_yet (hcl.get 20 (by decide)) 0 19 rfl q19_
   have u0_ : upd D 6 0 = D 0 := rfl; have u1_ : upd D 6 1 = D 1 := rfl; have u2_ : upd D 6 2 = D 2 := rfl; have u3_ : upd D 6 3 = D 3 := rfl; have u4_ : upd D 6 4 = D 4 := rfl; have u5_ : upd D 6 5 = D 5 := rfl; have u6_ : upd D 6 6 = true := rfl; have u7_ : upd D 6 7 = D 7 := rfl; have u8_ : upd D 6 8 = D 8 := rfl; have u9_ : upd D 6 9 = D 9 := rfl; have u10_ : upd D 6 10 = D 10 := rfl; have u11_ : upd D 6 11 = D 11 := rfl; have u12_ : upd D 6 12 = D 12 := rfl; have u13_ : upd D 6 13 = D 13 := rfl; have u14_ : upd D 6 14 = D 14 := rfl; have u15_ : upd D 6 15 = D 15 := rfl; have u16_ : upd D 6 16 = D 16 := rfl; have u17_ : upd D 6 17 = D 17 := rfl; have u18_ : upd D 6 18 = D 18 := rfl; have u19_ : upd D 6 19 = D 19 := rfl; have u20_ : upd D 6 20 = D 20 := rfl
   simp only [hD, p4_, p5_, q7_, q19_, q20_, cnd_t, cnd_f, Asc_t, Asc_f] at ht hs
   subst ht
   refine g_op (v := Value.pointer (some ⟨b2, 1, none⟩)) rfl rfl rfl ?_
   show G _ _ _ _ [_, _, _, _, _, _, _, _, _, _, _, _, _, _, _, _, _, _, _, _, _, _, _, _, _, _, _] _
   exact hk _ _ ⟨v10, v12, v14, v16, O, (by simp only [u0_, u1_, u2_, u3_, u4_, u5_, u6_, u7_, u8_, u9_, u10_, u11_, u12_, u13_, u14_, u15_, u16_, u17_, u18_, u19_, u20_, p4_, p5_, q7_, q19_, q20_, cnd_t, cnd_f, Asc_t, Asc_f]), hs.cast (by first | rfl | simp only [List.take, List.drop, List.cons_append, List.nil_append, List.set_cons_zero, List.set_cons_succ, List.eraseIdx, u0_, u1_, u2_, u3_, u4_, u5_, u6_, u7_, u8_, u9_, u10_, u11_, u12_, u13_, u14_, u15_, u16_, u17_, u18_, u19_, u20_, p4_, p5_, q7_, q19_, q20_, cnd_t, cnd_f, Asc_t, Asc_f])⟩
  ·
   intro D t w hD hp hcl hI rest hk
   obtain ⟨v10, v12, v14, v16, O, ht, hs⟩ := hI
   obtain ⟨p6_, _⟩ := hp
   obtain ⟨p5_, _⟩ := (hcl.get 6 (by decide)) p6_
   obtain ⟨p4_, _⟩ := (hcl.get 5 (by decide)) p5_
   have q19_ : D 19 = false := not_yet (hcl.get 19 (by decide)) 1 7 rfl hD
   have q20_ : D 20 = false := not_yet (hcl.get 20 (by decide)) 0 19 rfl q19_
   have u0_ : upd D 7 0 = D 0 := rfl; have u1_ : upd D 7 1 = D 1 := rfl; have u2_ : upd D 7 2 = D 2 := rfl; have u3_ : upd D 7 3 = D 3 := rfl; have u4_ : upd D 7 4 = D 4 := rfl; have u5_ : upd D 7 5 = D 5 := rfl; have u6_ : upd D 7 6 = D 6 := rfl; have u7_ : upd D 7 7 = true := rfl; have u8_ : upd D 7 8 = D 8 := rfl; have u9_ : upd D 7 9 = D 9 := rfl; have u10_ : upd D 7 10 = D 10 := rfl; have u11_ : upd D 7 11 = D 11 := rfl; have u12_ : upd D 7 12 = D 12 := rfl; have u13_ : upd D 7 13 = D 13 := rfl; have u14_ : upd D 7 14 = D 14 := rfl; have u15_ : upd D 7 15 = D 15 := rfl; have u16_ : upd D 7 16 = D 16 := rfl; have u17_ : upd D 7 17 = D 17 := rfl; have u18_ : upd D 7 18 = D 18 := rfl; have u19_ : upd D 7 19 = D 19 := rfl; have u20_ : upd D 7 20 = D 20 := rfl
   simp only [hD, p4_, p5_, p6_, q19_, q20_, cnd_t, cnd_f, Asc_t, Asc_f] at ht hs
   subst ht
   refine s_load1 rfl rfl (v := Value.int .i8 a1.f_Lies) rfl rfl (fun _ => rfl) (cells_load (hs.box hp0) 1 1 rfl) ?_
   show G _ _ _ _ [_, _, _, _, _, _, _, _, _, _, _, _, _, _, _, _, _, _, _, _, _, _, _, _, _, _, _] _
   exact hk _ _ ⟨v10, v12, v14, v16, O, (by simp only [u0_, u1_, u2_, u3_, u4_, u5_, u6_, u7_, u8_, u9_, u10_, u11_, u12_, u13_, u14_, u15_, u16_, u17_, u18_, u19_, u20_, p4_, p5_, p6_, q19_, q20_, cnd_t, cnd_f, Asc_t, Asc_f]), hs.cast (by first | rfl | simp only [List.take, List.drop, List.cons_append, List.nil_append, List.set_cons_zero, List.set_cons_succ, List.eraseIdx, u0_, u1_, u2_, u3_, u4_, u5_, u6_, u7_, u8_, u9_, u10_, u11_, u12_, u13_, u14_, u15_, u16_, u17_, u18_, u19_, u20_, p4_, p5_, p6_, q19_, q20_, cnd_t, cnd_f, Asc_t, Asc_f])⟩
  ·
   intro D t w hD hp hcl hI rest hk
   obtain ⟨v10, v12, v14, v16, O, ht, hs⟩ := hI
   have q13_ : D 13 = false := not_yet (hcl.get 13 (by decide)) 0 8 rfl hD
   have q18_ : D 18 = false := not_yet (hcl.get 18 (by decide)) 0 13 rfl q13_
   have q19_ : D 19 = false := not_yet (hcl.get 19 (by decide)) 2 18 rfl q18_
   have q20_ : D 20 = false := not_yet (hcl.get 20 (by decide)) 0 19 rfl q19_
   have u0_ : upd D 8 0 = D 0 := rfl; have u1_ : upd D 8 1 = D 1 := rfl; have u2_ : upd D 8 2 = D 2 := rfl; have u3_ : upd D 8 3 = D 3 := rfl; have u4_ : upd D 8 4 = D 4 := rfl; have u5_ : upd D 8 5 = D 5 := rfl; have u6_ : upd D 8 6 = D 6 := rfl; have u7_ : upd D 8 7 = D 7 := rfl; have u8_ : upd D 8 8 = true := rfl; have u9_ : upd D 8 9 = D 9 := rfl; have u10_ : upd D 8 10 = D 10 := rfl; have u11_ : upd D 8 11 = D 11 := rfl; have u12_ : upd D 8 12 = D 12 := rfl; have u13_ : upd D 8 13 = D 13 := rfl; have u14_ : upd D 8 14 = D 14 := rfl; have u15_ : upd D 8 15 = D 15 := rfl; have u16_ : upd D 8 16 = D 16 := rfl; have u17_ : upd D 8 17 = D 17 := rfl; have u18_ : upd D 8 18 = D 18 := rfl; have u19_ : upd D 8 19 = D 19 := rfl; have u20_ : upd D 8 20 = D 20 := rfl
   simp only [hD, q13_, q18_, q19_, q20_, cnd_t, cnd_f, Asc_t, Asc_f] at ht hs
   subst ht
   refine s_lit0 (κ := k_S_impl_Ask) hs rfl rfl rfl rfl (fun _ => rfl) ?_
   intro v10 w hs
   show G _ _ _ _ [_, _, _, _, _, _, _, _, _, _, _, _, _, _, _, _, _, _, _, _, _, _, _, _, _, _, _] _
   have hs := hs.fill 0 rfl
   exact hk _ _ ⟨v10, v12, v14, v16, O, (by simp only [u0_, u1_, u2_, u3_, u4_, u5_, u6_, u7_, u8_, u9_, u10_, u11_, u12_, u13_, u14_, u15_, u16_, u17_, u18_, u19_, u20_, q13_, q18_, q19_, q20_, cnd_t, cnd_f, Asc_t, Asc_f]), hs.cast (by first | rfl | simp only [List.take, List.drop, List.cons_append, List.nil_append, List.set_cons_zero, List.set_cons_succ, List.eraseIdx, u0_, u1_, u2_, u3_, u4_, u5_, u6_, u7_, u8_, u9_, u10_, u11_, u12_, u13_, u14_, u15_, u16_, u17_, u18_, u19_, u20_, q13_, q18_, q19_, q20_, cnd_t, cnd_f, Asc_t, Asc_f])⟩
  ·
   intro D t w hD hp hcl hI rest hk
   obtain ⟨v10, v12, v14, v16, O, ht, hs⟩ := hI
   have q10_ : D 10 = false := not_yet (hcl.get 10 (by decide)) 0 9 rfl hD
   have q11_ : D 11 = false := not_yet (hcl.get 11 (by decide)) 0 10 rfl q10_
   have q12_ : D 12 = false := not_yet (hcl.get 12 (by decide)) 0 11 rfl q11_
   have q13_ : D 13 = false := not_yet (hcl.get 13 (by decide)) 1 12 rfl q12_
   have q18_ : D 18 = false := not_yet (hcl.get 18 (by decide)) 0 13 rfl q13_
   have q19_ : D 19 = false := not_yet (hcl.get 19 (by decide)) 2 18 rfl q18_
   have q20_ : D 20 = false := not_yet (hcl.get 20 (by decide)) 0 19 rfl q19_
   have u0_ : upd D 9 0 = D 0 := rfl; have u1_ : upd D 9 1 = D 1 := rfl; have u2_ : upd D 9 2 = D 2 := rfl; have u3_ : upd D 9 3 = D 3 := rfl; have u4_ : upd D 9 4 = D 4 := rfl; have u5_ : upd D 9 5 = D 5 := rfl; have u6_ : upd D 9 6 = D 6 := rfl; have u7_ : upd D 9 7 = D 7 := rfl; have u8_ : upd D 9 8 = D 8 := rfl; have u9_ : upd D 9 9 = true := rfl; have u10_ : upd D 9 10 = D 10 := rfl; have u11_ : upd D 9 11 = D 11 := rfl; have u12_ : upd D 9 12 = D 12 := rfl; have u13_ : upd D 9 13 = D 13 := rfl; have u14_ : upd D 9 14 = D 14 := rfl; have u15_ : upd D 9 15 = D 15 := rfl; have u16_ : upd D 9 16 = D 16 := rfl; have u17_ : upd D 9 17 = D 17 := rfl; have u18_ : upd D 9 18 = D 18 := rfl; have u19_ : upd D 9 19 = D 19 := rfl; have u20_ : upd D 9 20 = D 20 := rfl
   simp only [hD, q10_, q11_, q12_, q13_, q18_, q19_, q20_, cnd_t, cnd_f, Asc_t, Asc_f] at ht hs
   subst ht
   refine g_op (v := Value.pointer (some ⟨b2, 0, none⟩)) rfl rfl rfl ?_
   show G _ _ _ _ [_, _, _, _, _, _, _, _, _, _, _, _, _, _, _, _, _, _, _, _, _, _, _, _, _, _, _] _
   exact hk _ _ ⟨v10, v12, v14, v16, O, (by simp only [u0_, u1_, u2_, u3_, u4_, u5_, u6_, u7_, u8_, u9_, u10_, u11_, u12_, u13_, u14_, u15_, u16_, u17_, u18_, u19_, u20_, q10_, q11_, q12_, q13_, q18_, q19_, q20_, cnd_t, cnd_f, Asc_t, Asc_f]), hs.cast (by first | rfl | simp only [List.take, List.drop, List.cons_append, List.nil_append, List.set_cons_zero, List.set_cons_succ, List.eraseIdx, u0_, u1_, u2_, u3_, u4_, u5_, u6_, u7_, u8_, u9_, u10_, u11_, u12_, u13_, u14_, u15_, u16_, u17_, u18_, u19_, u20_, q10_, q11_, q12_, q13_, q18_, q19_, q20_, cnd_t, cnd_f, Asc_t, Asc_f])⟩
  ·
   intro D t w hD hp hcl hI rest hk
   obtain ⟨v10, v12, v14, v16, O, ht, hs⟩ := hI
   obtain ⟨p9_, _⟩ := hp
   have q11_ : D 11 = false := not_yet (hcl.get 11 (by decide)) 0 10 rfl hD
   have q12_ : D 12 = false := not_yet (hcl.get 12 (by decide)) 0 11 rfl q11_
   have q13_ : D 13 = false := not_yet (hcl.get 13 (by decide)) 1 12 rfl q12_
   have q18_ : D 18 = false := not_yet (hcl.get 18 (by decide)) 0 13 rfl q13_
   have q19_ : D 19 = false := not_yet (hcl.get 19 (by decide)) 2 18 rfl q18_
   have q20_ : D 20 = false := not_yet (hcl.get 20 (by decide)) 0 19 rfl q19_
   have u0_ : upd D 10 0 = D 0 := rfl; have u1_ : upd D 10 1 = D 1 := rfl; have u2_ : upd D 10 2 = D 2 := rfl; have u3_ : upd D 10 3 = D 3 := rfl; have u4_ : upd D 10 4 = D 4 := rfl; have u5_ : upd D 10 5 = D 5 := rfl; have u6_ : upd D 10 6 = D 6 := rfl; have u7_ : upd D 10 7 = D 7 := rfl; have u8_ : upd D 10 8 = D 8 := rfl; have u9_ : upd D 10 9 = D 9 := rfl; have u10_ : upd D 10 10 = true := rfl; have u11_ : upd D 10 11 = D 11 := rfl; have u12_ : upd D 10 12 = D 12 := rfl; have u13_ : upd D 10 13 = D 13 := rfl; have u14_ : upd D 10 14 = D 14 := rfl; have u15_ : upd D 10 15 = D 15 := rfl; have u16_ : upd D 10 16 = D 16 := rfl; have u17_ : upd D 10 17 = D 17 := rfl; have u18_ : upd D 10 18 = D 18 := rfl; have u19_ : upd D 10 19 = D 19 := rfl; have u20_ : upd D 10 20 = D 20 := rfl
   simp only [hD, p9_, q11_, q12_, q13_, q18_, q19_, q20_, cnd_t, cnd_f, Asc_t, Asc_f] at ht hs
   subst ht
   refine g_op (v := Value.pointer (some ⟨b2, 0, none⟩)) rfl rfl rfl ?_
   show G _ _ _ _ [_, _, _, _, _, _, _, _, _, _, _, _, _, _, _, _, _, _, _, _, _, _, _, _, _, _, _] _
   exact hk _ _ ⟨v10, v12, v14, v16, O, (by simp only [u0_, u1_, u2_, u3_, u4_, u5_, u6_, u7_, u8_, u9_, u10_, u11_, u12_, u13_, u14_, u15_, u16_, u17_, u18_, u19_, u20_, p9_, q11_, q12_, q13_, q18_, q19_, q20_, cnd_t, cnd_f, Asc_t, Asc_f]), hs.cast (by first | rfl | simp only [List.take, List.drop, List.cons_append, List.nil_append, List.set_cons_zero, List.set_cons_succ, List.eraseIdx, u0_, u1_, u2_, u3_, u4_, u5_, u6_, u7_, u8_, u9_, u10_, u11_, u12_, u13_, u14_, u15_, u16_, u17_, u18_, u19_, u20_, p9_, q11_, q12_, q13_, q18_, q19_, q20_, cnd_t, cnd_f, Asc_t, Asc_f])⟩
  ·
   intro D t w hD hp hcl hI rest hk
   obtain ⟨v10, v12, v14, v16, O, ht, hs⟩ := hI
   obtain ⟨p10_, _⟩ := hp
   obtain ⟨p9_, _⟩ := (hcl.get 10 (by decide)) p10_
   have q12_ : D 12 = false := not_yet (hcl.get 12 (by decide)) 0 11 rfl hD
   have q13_ : D 13 = false := not_yet (hcl.get 13 (by decide)) 1 12 rfl q12_
   have q18_ : D 18 = false := not_yet (hcl.get 18 (by decide)) 0 13 rfl q13_
   have q19_ : D 19 = false := not_yet (hcl.get 19 (by decide)) 2 18 rfl q18_
   have q20_ : D 20 = false := not_yet (hcl.get 20 (by decide)) 0 19 rfl q19_
   have u0_ : upd D 11 0 = D 0 := rfl; have u1_ : upd D 11 1 = D 1 := rfl; have u2_ : upd D 11 2 = D 2 := rfl; have u3_ : upd D 11 3 = D 3 := rfl; have u4_ : upd D 11 4 = D 4 := rfl; have u5_ : upd D 11 5 = D 5 := rfl; have u6_ : upd D 11 6 = D 6 := rfl; have u7_ : upd D 11 7 = D 7 := rfl; have u8_ : upd D 11 8 = D 8 := rfl; have u9_ : upd D 11 9 = D 9 := rfl; have u10_ : upd D 11 10 = D 10 := rfl; have u11_ : upd D 11 11 = true := rfl; have u12_ : upd D 11 12 = D 12 := rfl; have u13_ : upd D 11 13 = D 13 := rfl; have u14_ : upd D 11 14 = D 14 := rfl; have u15_ : upd D 11 15 = D 15 := rfl; have u16_ : upd D 11 16 = D 16 := rfl; have u17_ : upd D 11 17 = D 17 := rfl; have u18_ : upd D 11 18 = D 18 := rfl; have u19_ : upd D 11 19 = D 19 := rfl; have u20_ : upd D 11 20 = D 20 := rfl
   simp only [hD, p9_, p10_, q12_, q13_, q18_, q19_, q20_, cnd_t, cnd_f, Asc_t, Asc_f] at ht hs
   subst ht
   refine g_op (v := Value.pointer (some ⟨b2, 2, none⟩)) rfl rfl rfl ?_
   show G _ _ _ _ [_, _, _, _, _, _, _, _, _, _, _, _, _, _, _, _, _, _, _, _, _, _, _, _, _, _, _] _
   exact hk _ _ ⟨v10, v12, v14, v16, O, (by simp only [u0_, u1_, u2_, u3_, u4_, u5_, u6_, u7_, u8_, u9_, u10_, u11_, u12_, u13_, u14_, u15_, u16_, u17_, u18_, u19_, u20_, p9_, p10_, q12_, q13_, q18_, q19_, q20_, cnd_t, cnd_f, Asc_t, Asc_f]), hs.cast (by first | rfl | simp only [List.take, List.drop, List.cons_append, List.nil_append, List.set_cons_zero, List.set_cons_succ, List.eraseIdx, u0_, u1_, u2_, u3_, u4_, u5_, u6_, u7_, u8_, u9_, u10_, u11_, u12_, u13_, u14_, u15_, u16_, u17_, u18_, u19_, u20_, p9_, p10_, q12_, q13_, q18_, q19_, q20_, cnd_t, cnd_f, Asc_t, Asc_f])⟩
  ·
   intro D t w hD hp hcl hI rest hk
   obtain ⟨v10, v12, v14, v16, O, ht, hs⟩ := hI
   obtain ⟨p11_, _⟩ := hp
   obtain ⟨p10_, _⟩ := (hcl.get 11 (by decide)) p11_
   obtain ⟨p9_, _⟩ := (hcl.get 10 (by decide)) p10_
   have q13_ : D 13 = false := not_yet (hcl.get 13 (by decide)) 1 12 rfl hD
   have q18_ : D 18 = false := not_yet (hcl.get 18 (by decide)) 0 13 rfl q13_
   have q19_ : D 19 = false := not_yet (hcl.get 19 (by decide)) 2 18 rfl q18_
   have q20_ : D 20 = false := not_yet (hcl.get 20 (by decide)) 0 19 rfl q19_
   have u0_ : upd D 12 0 = D 0 := rfl; have u1_ : upd D 12 1 = D 1 := rfl; have u2_ : upd D 12 2 = D 2 := rfl; have u3_ : upd D 12 3 = D 3 := rfl; have u4_ : upd D 12 4 = D 4 := rfl; have u5_ : upd D 12 5 = D 5 := rfl; have u6_ : upd D 12 6 = D 6 := rfl; have u7_ : upd D 12 7 = D 7 := rfl; have u8_ : upd D 12 8 = D 8 := rfl; have u9_ : upd D 12 9 = D 9 := rfl; have u10_ : upd D 12 10 = D 10 := rfl; have u11_ : upd D 12 11 = D 11 := rfl; have u12_ : upd D 12 12 = true := rfl; have u13_ : upd D 12 13 = D 13 := rfl; have u14_ : upd D 12 14 = D 14 := rfl; have u15_ : upd D 12 15 = D 15 := rfl; have u16_ : upd D 12 16 = D 16 := rfl; have u17_ : upd D 12 17 = D 17 := rfl; have u18_ : upd D 12 18 = D 18 := rfl; have u19_ : upd D 12 19 = D 19 := rfl; have u20_ : upd D 12 20 = D 20 := rfl
   simp only [hD, p9_, p10_, p11_, q13_, q18_, q19_, q20_, cnd_t, cnd_f, Asc_t, Asc_f] at ht hs
   subst ht
   refine s_load1 rfl rfl (v := v3) rfl rfl (fun _ => rfl) (cells_load (hs.box hp0) 2 1 rfl) ?_
   show G _ _ _ _ [_, _, _, _, _, _, _, _, _, _, _, _, _, _, _, _, _, _, _, _, _, _, _, _, _, _, _] _
   exact hk _ _ ⟨v10, v12, v14, v16, O, (by simp only [u0_, u1_, u2_, u3_, u4_, u5_, u6_, u7_, u8_, u9_, u10_, u11_, u12_, u13_, u14_, u15_, u16_, u17_, u18_, u19_, u20_, p9_, p10_, p11_, q13_, q18_, q19_, q20_, cnd_t, cnd_f, Asc_t, Asc_f]), hs.cast (by first | rfl | simp only [List.take, List.drop, List.cons_append, List.nil_append, List.set_cons_zero, List.set_cons_succ, List.eraseIdx, u0_, u1_, u2_, u3_, u4_, u5_, u6_, u7_, u8_, u9_, u10_, u11_, u12_, u13_, u14_, u15_, u16_, u17_, u18_, u19_, u20_, p9_, p10_, p11_, q13_, q18_, q19_, q20_, cnd_t, cnd_f, Asc_t, Asc_f])⟩
  ·
   intro D t w hD hp hcl hI rest hk
   obtain ⟨v10, v12, v14, v16, O, ht, hs⟩ := hI
   obtain ⟨p8_, p12_, _⟩ := hp
   obtain ⟨p11_, _⟩ := (hcl.get 12 (by decide)) p12_
   obtain ⟨p10_, _⟩ := (hcl.get 11 (by decide)) p11_
   obtain ⟨p9_, _⟩ := (hcl.get 10 (by decide)) p10_
   have q18_ : D 18 = false := not_yet (hcl.get 18 (by decide)) 0 13 rfl hD
   have q19_ : D 19 = false := not_yet (hcl.get 19 (by decide)) 2 18 rfl q18_
   have q20_ : D 20 = false := not_yet (hcl.get 20 (by decide)) 0 19 rfl q19_
   have u0_ : upd D 13 0 = D 0 := rfl; have u1_ : upd D 13 1 = D 1 := rfl; have u2_ : upd D 13 2 = D 2 := rfl; have u3_ : upd D 13 3 = D 3 := rfl; have u4_ : upd D 13 4 = D 4 := rfl; have u5_ : upd D 13 5 = D 5 := rfl; have u6_ : upd D 13 6 = D 6 := rfl; have u7_ : upd D 13 7 = D 7 := rfl; have u8_ : upd D 13 8 = D 8 := rfl; have u9_ : upd D 13 9 = D 9 := rfl; have u10_ : upd D 13 10 = D 10 := rfl; have u11_ : upd D 13 11 = D 11 := rfl; have u12_ : upd D 13 12 = D 12 := rfl; have u13_ : upd D 13 13 = true := rfl; have u14_ : upd D 13 14 = D 14 := rfl; have u15_ : upd D 13 15 = D 15 := rfl; have u16_ : upd D 13 16 = D 16 := rfl; have u17_ : upd D 13 17 = D 17 := rfl; have u18_ : upd D 13 18 = D 18 := rfl; have u19_ : upd D 13 19 = D 19 := rfl; have u20_ : upd D 13 20 = D 20 := rfl
   simp only [hD, p8_, p9_, p10_, p11_, p12_, q18_, q19_, q20_, cnd_t, cnd_f, Asc_t, Asc_f] at ht hs
   subst ht
   refine s_append fk_S_impl_Ask (zv := (Value.agg #[Value.int .u64 0, Value.bool false])) (B := 16) hs (hs.rd hr4) rfl rfl rfl rfl rfl rfl rfl rfl rfl (by decide) rfl rfl (by decide) (by have := gq13_; omega) ?_
   intro v12 w hs
   show G _ _ _ _ [_, _, _, _, _, _, _, _, _, _, _, _, _, _, _, _, _, _, _, _, _, _, _, _, _, _, _] _
   have hs := hs.push 0 (by simp)
   exact hk _ _ ⟨v10, v12, v14, v16, O, (by simp only [u0_, u1_, u2_, u3_, u4_, u5_, u6_, u7_, u8_, u9_, u10_, u11_, u12_, u13_, u14_, u15_, u16_, u17_, u18_, u19_, u20_, p8_, p9_, p10_, p11_, p12_, q18_, q19_, q20_, cnd_t, cnd_f, Asc_t, Asc_f]), hs.cast (by first | rfl | simp only [List.take, List.drop, List.cons_append, List.nil_append, List.set_cons_zero, List.set_cons_succ, List.eraseIdx, u0_, u1_, u2_, u3_, u4_, u5_, u6_, u7_, u8_, u9_, u10_, u11_, u12_, u13_, u14_, u15_, u16_, u17_, u18_, u19_, u20_, p8_, p9_, p10_, p11_, p12_, q18_, q19_, q20_, cnd_t, cnd_f, Asc_t, Asc_f])⟩
  ·
   intro D t w hD hp hcl hI rest hk
   obtain ⟨v10, v12, v14, v16, O, ht, hs⟩ := hI
   have q16_ : D 16 = false := not_yet (hcl.get 16 (by decide)) 0 14 rfl hD
   have q17_ : D 17 = false := not_yet (hcl.get 17 (by decide)) 0 16 rfl q16_
   have q18_ : D 18 = false := not_yet (hcl.get 18 (by decide)) 1 17 rfl q17_
   have q19_ : D 19 = false := not_yet (hcl.get 19 (by decide)) 2 18 rfl q18_
   have q20_ : D 20 = false := not_yet (hcl.get 20 (by decide)) 0 19 rfl q19_
   have u0_ : upd D 14 0 = D 0 := rfl; have u1_ : upd D 14 1 = D 1 := rfl; have u2_ : upd D 14 2 = D 2 := rfl; have u3_ : upd D 14 3 = D 3 := rfl; have u4_ : upd D 14 4 = D 4 := rfl; have u5_ : upd D 14 5 = D 5 := rfl; have u6_ : upd D 14 6 = D 6 := rfl; have u7_ : upd D 14 7 = D 7 := rfl; have u8_ : upd D 14 8 = D 8 := rfl; have u9_ : upd D 14 9 = D 9 := rfl; have u10_ : upd D 14 10 = D 10 := rfl; have u11_ : upd D 14 11 = D 11 := rfl; have u12_ : upd D 14 12 = D 12 := rfl; have u13_ : upd D 14 13 = D 13 := rfl; have u14_ : upd D 14 14 = true := rfl; have u15_ : upd D 14 15 = D 15 := rfl; have u16_ : upd D 14 16 = D 16 := rfl; have u17_ : upd D 14 17 = D 17 := rfl; have u18_ : upd D 14 18 = D 18 := rfl; have u19_ : upd D 14 19 = D 19 := rfl; have u20_ : upd D 14 20 = D 20 := rfl
   simp only [hD, q16_, q17_, q18_, q19_, q20_, cnd_t, cnd_f, Asc_t, Asc_f] at ht hs
   subst ht
   refine g_op (v := Value.int .u64 a6) rfl rfl rfl ?_
   show G _ _ _ _ [_, _, _, _, _, _, _, _, _, _, _, _, _, _, _, _, _, _, _, _, _, _, _, _, _, _, _] _
   exact hk _ _ ⟨v10, v12, v14, v16, O, (by simp only [u0_, u1_, u2_, u3_, u4_, u5_, u6_, u7_, u8_, u9_, u10_, u11_, u12_, u13_, u14_, u15_, u16_, u17_, u18_, u19_, u20_, q16_, q17_, q18_, q19_, q20_, cnd_t, cnd_f, Asc_t, Asc_f]), hs.cast (by first | rfl | simp only [List.take, List.drop, List.cons_append, List.nil_append, List.set_cons_zero, List.set_cons_succ, List.eraseIdx, u0_, u1_, u2_, u3_, u4_, u5_, u6_, u7_, u8_, u9_, u10_, u11_, u12_, u13_, u14_, u15_, u16_, u17_, u18_, u19_, u20_, q16_, q17_, q18_, q19_, q20_, cnd_t, cnd_f, Asc_t, Asc_f])⟩
  ·
   intro D t w hD hp hcl hI rest hk
   obtain ⟨v10, v12, v14, v16, O, ht, hs⟩ := hI
   have q16_ : D 16 = false := not_yet (hcl.get 16 (by decide)) 1 15 rfl hD
   have q17_ : D 17 = false := not_yet (hcl.get 17 (by decide)) 0 16 rfl q16_
   have q18_ : D 18 = false := not_yet (hcl.get 18 (by decide)) 1 17 rfl q17_
   have q19_ : D 19 = false := not_yet (hcl.get 19 (by decide)) 2 18 rfl q18_
   have q20_ : D 20 = false := not_yet (hcl.get 20 (by decide)) 0 19 rfl q19_
   have u0_ : upd D 15 0 = D 0 := rfl; have u1_ : upd D 15 1 = D 1 := rfl; have u2_ : upd D 15 2 = D 2 := rfl; have u3_ : upd D 15 3 = D 3 := rfl; have u4_ : upd D 15 4 = D 4 := rfl; have u5_ : upd D 15 5 = D 5 := rfl; have u6_ : upd D 15 6 = D 6 := rfl; have u7_ : upd D 15 7 = D 7 := rfl; have u8_ : upd D 15 8 = D 8 := rfl; have u9_ : upd D 15 9 = D 9 := rfl; have u10_ : upd D 15 10 = D 10 := rfl; have u11_ : upd D 15 11 = D 11 := rfl; have u12_ : upd D 15 12 = D 12 := rfl; have u13_ : upd D 15 13 = D 13 := rfl; have u14_ : upd D 15 14 = D 14 := rfl; have u15_ : upd D 15 15 = true := rfl; have u16_ : upd D 15 16 = D 16 := rfl; have u17_ : upd D 15 17 = D 17 := rfl; have u18_ : upd D 15 18 = D 18 := rfl; have u19_ : upd D 15 19 = D 19 := rfl; have u20_ : upd D 15 20 = D 20 := rfl
   simp only [hD, q16_, q17_, q18_, q19_, q20_, cnd_t, cnd_f, Asc_t, Asc_f] at ht hs
   subst ht
   refine g_op (v := Value.bool a7) rfl rfl rfl ?_
   show G _ _ _ _ [_, _, _, _, _, _, _, _, _, _, _, _, _, _, _, _, _, _, _, _, _, _, _, _, _, _, _] _
   exact hk _ _ ⟨v10, v12, v14, v16, O, (by simp only [u0_, u1_, u2_, u3_, u4_, u5_, u6_, u7_, u8_, u9_, u10_, u11_, u12_, u13_, u14_, u15_, u16_, u17_, u18_, u19_, u20_, q16_, q17_, q18_, q19_, q20_, cnd_t, cnd_f, Asc_t, Asc_f]), hs.cast (by first | rfl | simp only [List.take, List.drop, List.cons_append, List.nil_append, List.set_cons_zero, List.set_cons_succ, List.eraseIdx, u0_, u1_, u2_, u3_, u4_, u5_, u6_, u7_, u8_, u9_, u10_, u11_, u12_, u13_, u14_, u15_, u16_, u17_, u18_, u19_, u20_, q16_, q17_, q18_, q19_, q20_, cnd_t, cnd_f, Asc_t, Asc_f])⟩
  ·
   intro D t w hD hp hcl hI rest hk
   obtain ⟨v10, v12, v14, v16, O, ht, hs⟩ := hI
   obtain ⟨p14_, p15_, _⟩ := hp
   have q17_ : D 17 = false := not_yet (hcl.get 17 (by decide)) 0 16 rfl hD
   have q18_ : D 18 = false := not_yet (hcl.get 18 (by decide)) 1 17 rfl q17_
   have q19_ : D 19 = false := not_yet (hcl.get 19 (by decide)) 2 18 rfl q18_
   have q20_ : D 20 = false := not_yet (hcl.get 20 (by decide)) 0 19 rfl q19_
   have u0_ : upd D 16 0 = D 0 := rfl; have u1_ : upd D 16 1 = D 1 := rfl; have u2_ : upd D 16 2 = D 2 := rfl; have u3_ : upd D 16 3 = D 3 := rfl; have u4_ : upd D 16 4 = D 4 := rfl; have u5_ : upd D 16 5 = D 5 := rfl; have u6_ : upd D 16 6 = D 6 := rfl; have u7_ : upd D 16 7 = D 7 := rfl; have u8_ : upd D 16 8 = D 8 := rfl; have u9_ : upd D 16 9 = D 9 := rfl; have u10_ : upd D 16 10 = D 10 := rfl; have u11_ : upd D 16 11 = D 11 := rfl; have u12_ : upd D 16 12 = D 12 := rfl; have u13_ : upd D 16 13 = D 13 := rfl; have u14_ : upd D 16 14 = D 14 := rfl; have u15_ : upd D 16 15 = D 15 := rfl; have u16_ : upd D 16 16 = true := rfl; have u17_ : upd D 16 17 = D 17 := rfl; have u18_ : upd D 16 18 = D 18 := rfl; have u19_ : upd D 16 19 = D 19 := rfl; have u20_ : upd D 16 20 = D 20 := rfl
   simp only [hD, p14_, p15_, q17_, q18_, q19_, q20_, cnd_t, cnd_f, Asc_t, Asc_f] at ht hs
   subst ht
   refine g_op (v := Value.agg (enc_S_impl_Ask (⟨a6, a7⟩ : S_impl_Ask)).toArray) rfl rfl (x_buildS (cs := (enc_S_impl_Ask (⟨a6, a7⟩ : S_impl_Ask))) (segs := [[Value.int .u64 0], [Value.bool false]]) rfl rfl (fun _ => rfl) ⟨rfl, (fun _ => rfl), rfl, (fun _ => rfl), trivial⟩ (by simp only [List.map_cons, List.map_nil, List.forall_mem_cons, List.not_mem_nil, false_implies, implies_true, and_true]; exact ⟨⟨_, rfl, rfl⟩, ⟨_, rfl, rfl⟩⟩) (by first | rfl | (simp [ev, enc_S_impl_Ask]; done) | (simp [ev, enc_S_impl_Ask]; rfl))) ?_
   show G _ _ _ _ [_, _, _, _, _, _, _, _, _, _, _, _, _, _, _, _, _, _, _, _, _, _, _, _, _, _, _] _
   exact hk _ _ ⟨v10, v12, v14, v16, O, (by simp only [u0_, u1_, u2_, u3_, u4_, u5_, u6_, u7_, u8_, u9_, u10_, u11_, u12_, u13_, u14_, u15_, u16_, u17_, u18_, u19_, u20_, p14_, p15_, q17_, q18_, q19_, q20_, cnd_t, cnd_f, Asc_t, Asc_f]), hs.cast (by first | rfl | simp only [List.take, List.drop, List.cons_append, List.nil_append, List.set_cons_zero, List.set_cons_succ, List.eraseIdx, u0_, u1_, u2_, u3_, u4_, u5_, u6_, u7_, u8_, u9_, u10_, u11_, u12_, u13_, u14_, u15_, u16_, u17_, u18_, u19_, u20_, p14_, p15_, q17_, q18_, q19_, q20_, cnd_t, cnd_f, Asc_t, Asc_f])⟩
  ·
   intro D t w hD hp hcl hI rest hk
   obtain ⟨v10, v12, v14, v16, O, ht, hs⟩ := hI
   obtain ⟨p16_, _⟩ := hp
   obtain ⟨p14_, p15_, _⟩ := (hcl.get 16 (by decide)) p16_
   have q18_ : D 18 = false := not_yet (hcl.get 18 (by decide)) 1 17 rfl hD
   have q19_ : D 19 = false := not_yet (hcl.get 19 (by decide)) 2 18 rfl q18_
   have q20_ : D 20 = false := not_yet (hcl.get 20 (by decide)) 0 19 rfl q19_
   have u0_ : upd D 17 0 = D 0 := rfl; have u1_ : upd D 17 1 = D 1 := rfl; have u2_ : upd D 17 2 = D 2 := rfl; have u3_ : upd D 17 3 = D 3 := rfl; have u4_ : upd D 17 4 = D 4 := rfl; have u5_ : upd D 17 5 = D 5 := rfl; have u6_ : upd D 17 6 = D 6 := rfl; have u7_ : upd D 17 7 = D 7 := rfl; have u8_ : upd D 17 8 = D 8 := rfl; have u9_ : upd D 17 9 = D 9 := rfl; have u10_ : upd D 17 10 = D 10 := rfl; have u11_ : upd D 17 11 = D 11 := rfl; have u12_ : upd D 17 12 = D 12 := rfl; have u13_ : upd D 17 13 = D 13 := rfl; have u14_ : upd D 17 14 = D 14 := rfl; have u15_ : upd D 17 15 = D 15 := rfl; have u16_ : upd D 17 16 = D 16 := rfl; have u17_ : upd D 17 17 = true := rfl; have u18_ : upd D 17 18 = D 18 := rfl; have u19_ : upd D 17 19 = D 19 := rfl; have u20_ : upd D 17 20 = D 20 := rfl
   simp only [hD, p14_, p15_, p16_, q18_, q19_, q20_, cnd_t, cnd_f, Asc_t, Asc_f] at ht hs
   subst ht
   refine s_lit1 fk_S_impl_Ask (y := (⟨a6, a7⟩ : S_impl_Ask)) hs rfl rfl rfl rfl (fun _ => rfl) (zv := (Value.agg #[Value.int .u64 0, Value.bool false])) (fun _ => rfl) rfl (by decide) (by decide) rfl ?_
   intro v14 w hs
   show G _ _ _ _ [_, _, _, _, _, _, _, _, _, _, _, _, _, _, _, _, _, _, _, _, _, _, _, _, _, _, _] _
   have hs := hs.fill 1 rfl
   exact hk _ _ ⟨v10, v12, v14, v16, O, (by simp only [u0_, u1_, u2_, u3_, u4_, u5_, u6_, u7_, u8_, u9_, u10_, u11_, u12_, u13_, u14_, u15_, u16_, u17_, u18_, u19_, u20_, p14_, p15_, p16_, q18_, q19_, q20_, cnd_t, cnd_f, Asc_t, Asc_f]), hs.cast (by first | rfl | simp only [List.take, List.drop, List.cons_append, List.nil_append, List.set_cons_zero, List.set_cons_succ, List.eraseIdx, u0_, u1_, u2_, u3_, u4_, u5_, u6_, u7_, u8_, u9_, u10_, u11_, u12_, u13_, u14_, u15_, u16_, u17_, u18_, u19_, u20_, p14_, p15_, p16_, q18_, q19_, q20_, cnd_t, cnd_f, Asc_t, Asc_f])⟩
  ·
   intro D t w hD hp hcl hI rest hk
   obtain ⟨v10, v12, v14, v16, O, ht, hs⟩ := hI
   obtain ⟨p13_, p17_, _, _⟩ := hp
   obtain ⟨p16_, _⟩ := (hcl.get 17 (by decide)) p17_
   obtain ⟨p14_, p15_, _⟩ := (hcl.get 16 (by decide)) p16_
   obtain ⟨p8_, p12_, _⟩ := (hcl.get 13 (by decide)) p13_
   obtain ⟨p11_, _⟩ := (hcl.get 12 (by decide)) p12_
   obtain ⟨p10_, _⟩ := (hcl.get 11 (by decide)) p11_
   obtain ⟨p9_, _⟩ := (hcl.get 10 (by decide)) p10_
   have q19_ : D 19 = false := not_yet (hcl.get 19 (by decide)) 2 18 rfl hD
   have q20_ : D 20 = false := not_yet (hcl.get 20 (by decide)) 0 19 rfl q19_
   have u0_ : upd D 18 0 = D 0 := rfl; have u1_ : upd D 18 1 = D 1 := rfl; have u2_ : upd D 18 2 = D 2 := rfl; have u3_ : upd D 18 3 = D 3 := rfl; have u4_ : upd D 18 4 = D 4 := rfl; have u5_ : upd D 18 5 = D 5 := rfl; have u6_ : upd D 18 6 = D 6 := rfl; have u7_ : upd D 18 7 = D 7 := rfl; have u8_ : upd D 18 8 = D 8 := rfl; have u9_ : upd D 18 9 = D 9 := rfl; have u10_ : upd D 18 10 = D 10 := rfl; have u11_ : upd D 18 11 = D 11 := rfl; have u12_ : upd D 18 12 = D 12 := rfl; have u13_ : upd D 18 13 = D 13 := rfl; have u14_ : upd D 18 14 = D 14 := rfl; have u15_ : upd D 18 15 = D 15 := rfl; have u16_ : upd D 18 16 = D 16 := rfl; have u17_ : upd D 18 17 = D 17 := rfl; have u18_ : upd D 18 18 = true := rfl; have u19_ : upd D 18 19 = D 19 := rfl; have u20_ : upd D 18 20 = D 20 := rfl
   simp only [hD, p8_, p9_, p10_, p11_, p12_, p13_, p14_, p15_, p16_, p17_, q19_, q20_, cnd_t, cnd_f, Asc_t, Asc_f] at ht hs
   subst ht
   refine s_append fk_S_impl_Ask (zv := (Value.agg #[Value.int .u64 0, Value.bool false])) (B := 16) hs (hs.row 1 rfl) rfl rfl rfl rfl rfl rfl rfl rfl rfl (by decide) rfl rfl (by decide) (by have := gq18_; omega) ?_
   intro v16 w hs
   show G _ _ _ _ [_, _, _, _, _, _, _, _, _, _, _, _, _, _, _, _, _, _, _, _, _, _, _, _, _, _, _] _
   have hs := hs.push 0 (by simp)
   exact hk _ _ ⟨v10, v12, v14, v16, O, (by simp only [u0_, u1_, u2_, u3_, u4_, u5_, u6_, u7_, u8_, u9_, u10_, u11_, u12_, u13_, u14_, u15_, u16_, u17_, u18_, u19_, u20_, p8_, p9_, p10_, p11_, p12_, p13_, p14_, p15_, p16_, p17_, q19_, q20_, cnd_t, cnd_f, Asc_t, Asc_f]), hs.cast (by first | rfl | simp only [List.take, List.drop, List.cons_append, List.nil_append, List.set_cons_zero, List.set_cons_succ, List.eraseIdx, u0_, u1_, u2_, u3_, u4_, u5_, u6_, u7_, u8_, u9_, u10_, u11_, u12_, u13_, u14_, u15_, u16_, u17_, u18_, u19_, u20_, p8_, p9_, p10_, p11_, p12_, p13_, p14_, p15_, p16_, p17_, q19_, q20_, cnd_t, cnd_f, Asc_t, Asc_f])⟩
  ·
   intro D t w hD hp hcl hI rest hk
   obtain ⟨v10, v12, v14, v16, O, ht, hs⟩ := hI
   obtain ⟨p3_, p7_, p18_, _⟩ := hp
   obtain ⟨p13_, p17_, _, _⟩ := (hcl.get 18 (by decide)) p18_
   obtain ⟨p16_, _⟩ := (hcl.get 17 (by decide)) p17_
   obtain ⟨p14_, p15_, _⟩ := (hcl.get 16 (by decide)) p16_
   obtain ⟨p8_, p12_, _⟩ := (hcl.get 13 (by decide)) p13_
   obtain ⟨p11_, _⟩ := (hcl.get 12 (by decide)) p12_
   obtain ⟨p10_, _⟩ := (hcl.get 11 (by decide)) p11_
   obtain ⟨p9_, _⟩ := (hcl.get 10 (by decide)) p10_
   obtain ⟨p6_, _⟩ := (hcl.get 7 (by decide)) p7_
   obtain ⟨p5_, _⟩ := (hcl.get 6 (by decide)) p6_
   obtain ⟨p4_, _⟩ := (hcl.get 5 (by decide)) p5_
   obtain ⟨p2_, _⟩ := (hcl.get 3 (by decide)) p3_
   obtain ⟨p1_, _⟩ := (hcl.get 2 (by decide)) p2_
   obtain ⟨p0_, _⟩ := (hcl.get 1 (by decide)) p1_
   have q20_ : D 20 = false := not_yet (hcl.get 20 (by decide)) 0 19 rfl hD
   have u0_ : upd D 19 0 = D 0 := rfl; have u1_ : upd D 19 1 = D 1 := rfl; have u2_ : upd D 19 2 = D 2 := rfl; have u3_ : upd D 19 3 = D 3 := rfl; have u4_ : upd D 19 4 = D 4 := rfl; have u5_ : upd D 19 5 = D 5 := rfl; have u6_ : upd D 19 6 = D 6 := rfl; have u7_ : upd D 19 7 = D 7 := rfl; have u8_ : upd D 19 8 = D 8 := rfl; have u9_ : upd D 19 9 = D 9 := rfl; have u10_ : upd D 19 10 = D 10 := rfl; have u11_ : upd D 19 11 = D 11 := rfl; have u12_ : upd D 19 12 = D 12 := rfl; have u13_ : upd D 19 13 = D 13 := rfl; have u14_ : upd D 19 14 = D 14 := rfl; have u15_ : upd D 19 15 = D 15 := rfl; have u16_ : upd D 19 16 = D 16 := rfl; have u17_ : upd D 19 17 = D 17 := rfl; have u18_ : upd D 19 18 = D 18 := rfl; have u19_ : upd D 19 19 = true := rfl; have u20_ : upd D 19 20 = D 20 := rfl
   simp only [hD, p0_, p1_, p2_, p3_, p4_, p5_, p6_, p7_, p8_, p9_, p10_, p11_, p12_, p13_, p14_, p15_, p16_, p17_, p18_, q20_, cnd_t, cnd_f, Asc_t, Asc_f] at ht hs
   subst ht
   refine g_op (v := Value.agg (([Value.int .i8 a1.f_Numbers, Value.int .i8 a1.f_Lies, v16] : List Value)).toArray) rfl rfl (x_buildS (cs := (([Value.int .i8 a1.f_Numbers, Value.int .i8 a1.f_Lies, v16] : List Value))) (segs := [[Value.int .i8 0], [Value.int .i8 0], [Value.slice none 0 0]]) rfl rfl (fun _ => rfl) ⟨rfl, (fun _ => rfl), rfl, (fun _ => rfl), rfl, (fun _ => rfl), trivial⟩ (by simp only [List.map_cons, List.map_nil, List.forall_mem_cons, List.not_mem_nil, false_implies, implies_true, and_true]; exact ⟨⟨_, rfl, rfl⟩, ⟨_, rfl, rfl⟩, ⟨_, rfl, slSize (hs.row 0 rfl)⟩⟩) (by first | rfl | (simp [ev, encA, slCells (hs.row 0 rfl)]; done) | (simp [ev, encA, slCells (hs.row 0 rfl)]; rfl))) ?_
   show G _ _ _ _ [_, _, _, _, _, _, _, _, _, _, _, _, _, _, _, _, _, _, _, _, _, _, _, _, _, _, _] _
   exact hk _ _ ⟨v10, v12, v14, v16, O, (by simp only [u0_, u1_, u2_, u3_, u4_, u5_, u6_, u7_, u8_, u9_, u10_, u11_, u12_, u13_, u14_, u15_, u16_, u17_, u18_, u19_, u20_, p0_, p1_, p2_, p3_, p4_, p5_, p6_, p7_, p8_, p9_, p10_, p11_, p12_, p13_, p14_, p15_, p16_, p17_, p18_, q20_, cnd_t, cnd_f, Asc_t, Asc_f]), hs.cast (by first | rfl | simp only [List.take, List.drop, List.cons_append, List.nil_append, List.set_cons_zero, List.set_cons_succ, List.eraseIdx, u0_, u1_, u2_, u3_, u4_, u5_, u6_, u7_, u8_, u9_, u10_, u11_, u12_, u13_, u14_, u15_, u16_, u17_, u18_, u19_, u20_, p0_, p1_, p2_, p3_, p4_, p5_, p6_, p7_, p8_, p9_, p10_, p11_, p12_, p13_, p14_, p15_, p16_, p17_, p18_, q20_, cnd_t, cnd_f, Asc_t, Asc_f])⟩
  ·
   intro D t w hD hp hcl hI rest hk
   obtain ⟨v10, v12, v14, v16, O, ht, hs⟩ := hI
   obtain ⟨p19_, p18_, p0_, p1_, p2_, p3_, p4_, p5_, p6_, p7_, p8_, p9_, p10_, p11_, p12_, p13_, p14_, p15_, p16_, p17_, _, _, _⟩ := hp
   have u0_ : upd D 20 0 = D 0 := rfl; have u1_ : upd D 20 1 = D 1 := rfl; have u2_ : upd D 20 2 = D 2 := rfl; have u3_ : upd D 20 3 = D 3 := rfl; have u4_ : upd D 20 4 = D 4 := rfl; have u5_ : upd D 20 5 = D 5 := rfl; have u6_ : upd D 20 6 = D 6 := rfl; have u7_ : upd D 20 7 = D 7 := rfl; have u8_ : upd D 20 8 = D 8 := rfl; have u9_ : upd D 20 9 = D 9 := rfl; have u10_ : upd D 20 10 = D 10 := rfl; have u11_ : upd D 20 11 = D 11 := rfl; have u12_ : upd D 20 12 = D 12 := rfl; have u13_ : upd D 20 13 = D 13 := rfl; have u14_ : upd D 20 14 = D 14 := rfl; have u15_ : upd D 20 15 = D 15 := rfl; have u16_ : upd D 20 16 = D 16 := rfl; have u17_ : upd D 20 17 = D 17 := rfl; have u18_ : upd D 20 18 = D 18 := rfl; have u19_ : upd D 20 19 = D 19 := rfl; have u20_ : upd D 20 20 = true := rfl
   simp only [hD, p0_, p1_, p2_, p3_, p4_, p5_, p6_, p7_, p8_, p9_, p10_, p11_, p12_, p13_, p14_, p15_, p16_, p17_, p18_, p19_, cnd_t, cnd_f, Asc_t, Asc_f] at ht hs
   subst ht
   have hs := hs.pull 2 rfl
   have hs : St _ [_, _, _] _ := hs
   refine s_storeAll (n := 3) hs rfl rfl rfl (vs := (([Value.int .i8 a1.f_Numbers, Value.int .i8 a1.f_Lies, v16] : List Value))) rfl rfl rfl (fun _ => rfl) rfl (by intro v hv; simp only [List.mem_append, List.mem_cons, List.not_mem_nil, or_false] at hv; repeat (first | (subst hv; first | rfl | exact slOne (hs.row 1 rfl)) | (rcases hv with hv | hv))) ?_
   intro w hs
   show G _ _ _ _ [_, _, _, _, _, _, _, _, _, _, _, _, _, _, _, _, _, _, _, _, _, _, _, _, _, _, _] _
   have hs := hs.push 2 (by simp)
   exact hk _ _ ⟨v10, v12, v14, v16, O, (by simp only [u0_, u1_, u2_, u3_, u4_, u5_, u6_, u7_, u8_, u9_, u10_, u11_, u12_, u13_, u14_, u15_, u16_, u17_, u18_, u19_, u20_, p0_, p1_, p2_, p3_, p4_, p5_, p6_, p7_, p8_, p9_, p10_, p11_, p12_, p13_, p14_, p15_, p16_, p17_, p18_, p19_, cnd_t, cnd_f, Asc_t, Asc_f]), hs.cast (by first | rfl | simp only [List.take, List.drop, List.cons_append, List.nil_append, List.set_cons_zero, List.set_cons_succ, List.eraseIdx, u0_, u1_, u2_, u3_, u4_, u5_, u6_, u7_, u8_, u9_, u10_, u11_, u12_, u13_, u14_, u15_, u16_, u17_, u18_, u19_, u20_, p0_, p1_, p2_, p3_, p4_, p5_, p6_, p7_, p8_, p9_, p10_, p11_, p12_, p13_, p14_, p15_, p16_, p17_, p18_, p19_, cnd_t, cnd_f, Asc_t, Asc_f])⟩
  ·
   intro D t w hall hI
   obtain ⟨v10, v12, v14, v16, O, ht, hs⟩ := hI
   have p0_ : D 0 = true := hall 0 (by decide)
   have p1_ : D 1 = true := hall 1 (by decide)
   have p2_ : D 2 = true := hall 2 (by decide)
   have p3_ : D 3 = true := hall 3 (by decide)
   have p4_ : D 4 = true := hall 4 (by decide)
   have p5_ : D 5 = true := hall 5 (by decide)
   have p6_ : D 6 = true := hall 6 (by decide)
   have p7_ : D 7 = true := hall 7 (by decide)
   have p8_ : D 8 = true := hall 8 (by decide)
   have p9_ : D 9 = true := hall 9 (by decide)
   have p10_ : D 10 = true := hall 10 (by decide)
   have p11_ : D 11 = true := hall 11 (by decide)
   have p12_ : D 12 = true := hall 12 (by decide)
   have p13_ : D 13 = true := hall 13 (by decide)
   have p14_ : D 14 = true := hall 14 (by decide)
   have p15_ : D 15 = true := hall 15 (by decide)
   have p16_ : D 16 = true := hall 16 (by decide)
   have p17_ : D 17 = true := hall 17 (by decide)
   have p18_ : D 18 = true := hall 18 (by decide)
   have p19_ : D 19 = true := hall 19 (by decide)
   have p20_ : D 20 = true := hall 20 (by decide)
   simp only [p0_, p1_, p2_, p3_, p4_, p5_, p6_, p7_, p8_, p9_, p10_, p11_, p12_, p13_, p14_, p15_, p16_, p17_, p18_, p19_, p20_, cnd_t, cnd_f, Asc_t, Asc_f] at ht hs
   subst ht
   obtain rfl := Option.some.inj H
   refine g_ret Try.func58 (v := Value.agg (([Value.int .i8 a1.f_Numbers, Value.int .i8 a1.f_Lies, v16] : List Value)).toArray) (resC rfl ⟨⟨_, rfl, (run_loadVar_agg (es := (([Value.int .i8 a1.f_Numbers, Value.int .i8 a1.f_Lies, v16] : List Value))) rfl rfl (cells_all (hs.cells 2 rfl)))⟩, trivial⟩) ?_
   have hs := hs.pull 0 rfl
   have hs : St _ [_] _ := St.take (Γ' := [_, _]) hs
   exact ⟨_, rfl, v16, rfl, hs⟩

end Go.Proofs.YtpbkenbmjgchkaaX
