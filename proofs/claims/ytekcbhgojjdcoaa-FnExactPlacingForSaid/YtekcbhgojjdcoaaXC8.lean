/- Contracts, printed by gen.py. -/
import Derived.Test.YtekcbhgojjdcoaaXT
import Derived.Test.YtekcbhgojjdcoaaProg
import Derived.Test.YtekcbhgojjdcoaaXRowR
import Derived.Test.YtekcbhgojjdcoaaXSeg
import Derived.Test.YtekcbhgojjdcoaaXKey
import Derived.Test.YtekcbhgojjdcoaaXIter
import Derived.Test.YtekcbhgojjdcoaaXRow2
import Derived.Test.YtekcbhgojjdcoaaXC0
import Derived.Test.YtekcbhgojjdcoaaXC3
import Derived.Test.YtekcbhgojjdcoaaXC6
import Derived.Test.YtekcbhgojjdcoaaXC7
namespace Go.Proofs.YtekcbhgojjdcoaaX
open Go Go.RowKit Go.Proofs
set_option linter.unusedVariables false
set_option linter.unusedSimpArgs false
/- function 4 laws_FnExactPlacingFor -/
def laws_FnExactPlacingFor.post (w0 : World) (r : Bool) (v : Value) (w : World) : Prop := v = Value.bool r ∧ St w0 [] w
set_option maxHeartbeats 8000000 in
set_option maxRecDepth 100000 in
theorem laws_FnExactPlacingFor.calls {N : Nat} {a1 : (List Int)} {a3 : Int} {a4 : Bool} {v2 : Value} {w0 : World} {Q : Bool → Prop} (hr0 : RdRow (K.int .i16) w0 v2 a1) (H : laws_FnExactPlacingFor.f N a1 a3 a4 Q) :
    Calls Try.prog 4 #[v2, Value.int .i64 a3, Value.bool a4] w0 fun e w => ∃ v, e = .returned v ∧ ∃ r, Q r ∧ laws_FnExactPlacingFor.post w0 r v w := by
  unfold laws_FnExactPlacingFor.f at H
  have hs : St w0 [] w0 := St.refl w0
  refine calls_of_g (n := 100) Try.func4 rfl rfl ?_
  show G _ _ _ _ (_::_::_::_::_::_::_::_::_::_::_::_::_::_::_::_::_::_::_::_::_::_::_::_::_::_::_::_::_::_::_::_::_::_::_::_::_::_::_::_::_::_::_::_::_::_::_::_::_::_::_::_::_::_::_::_::_::_::_::_::_::_::_::_::_::_::_::_::_::_::_::_::_::_::_::_::_::_::_::_::_::_::_::_::_::_::_::_::_::_::_::_::_::_::_::_::_::_::_::_::_::_::_::[]) _
  refine g_seq ?_
  refine g_region ?_
  show G _ _ _ (.inRegion _ [0] :: _) _ _
  refine g_op (v := Value.bool false) rfl rfl rfl ?_
  refine g_d rfl ?_
  try dsimp only [set0,setS]
  refine g_ops_nil ?_
  refine g_seq ?_
  refine g_seq ?_
  refine g_region ?_
  show G _ _ _ (.inRegion _ [0, 1, 2] :: _) _ _
  refine g_op (v := v2) rfl rfl rfl ?_
  refine g_d rfl ?_
  refine s_len (hs.rd hr0) rfl rfl rfl rfl rfl ?_
  refine g_d rfl ?_
  try dsimp only [set0,setS]
  refine g_op_b (B := decide ((a1.length : Int) > 1048576)) rfl rfl rfl ?_ ?_
  ·
   intro hb
   rw [if_pos (b_dec_t hb)] at H
   refine g_d rfl ?_
   try dsimp only [set0,setS]
   refine g_ops_nil ?_
   refine g_cond_true rfl ?_
   refine g_seq ?_
   refine g_region ?_
   show G _ _ _ (.inRegion _ [0] :: _) _ _
   refine g_op (v := Value.bool true) rfl rfl rfl ?_
   refine g_d rfl ?_
   try dsimp only [set0,setS]
   refine g_ops_nil ?_
   refine g_ret Try.func4 (v := Value.bool true) (res1 rfl rfl) ?_
   have hs : St _ [] _ := St.take (Γ' := []) hs
   exact ⟨_, rfl, _, H, rfl, hs⟩
  ·
   intro hb
   rw [if_neg (b_dec_f hb)] at H
   refine g_d rfl ?_
   try dsimp only [set0,setS]
   refine g_ops_nil ?_
   refine g_cond_false rfl ?_
   refine g_skip ?_
   refine g_seq ?_
   refine g_region ?_
   show G _ _ _ (.inRegion _ [0, 1, 2, 3, 4, 5, 6, 7, 8, 9] :: _) _ _
   refine g_op (v := v2) rfl rfl rfl ?_
   refine g_d rfl ?_
   obtain ⟨r5, Hr5, H⟩ := H
   refine s_call (args := [v2]) rfl rfl (x_call rfl (callFunc_enter Try.func6 rfl rfl) rfl) (laws_toWeights.calls (a1 := a1) (hs.rd hr0) Hr5) ?_
   intro v6 w hs2
   have hs : St _ [_] _ := hs.call hs2
   refine g_d rfl ?_
   try dsimp only [set0,setS]
   refine g_op (v := Value.int .i64 a3) rfl rfl rfl ?_
   refine g_d rfl ?_
   refine g_op (v := Value.bool a4) rfl rfl rfl ?_
   refine g_d rfl ?_
   obtain ⟨r8, Hr8, H⟩ := H
   refine s_call (args := [v6, Value.int .i64 a3, Value.bool a4]) rfl rfl (x_call rfl (callFunc_enter Try.func9 rfl rfl) rfl) (spec_PlacingFor.calls (a1 := r5) (a3 := a3) (a4 := a4) (hs.row 0 rfl) Hr8) ?_
   rintro _ w ⟨v9, rfl, hs2⟩
   have hs : St _ [_,_] _ := hs.call hs2
   refine g_d rfl ?_
   try dsimp only [set0,setS]
   refine g_op (v := Value.tuple #[v9, Value.int .i64 r8.2]) rfl rfl rfl ?_
   refine g_d rfl ?_
   refine g_op (v := v9) rfl rfl rfl ?_
   refine g_d rfl ?_
   refine g_op (v := Value.int .i64 r8.2) rfl rfl rfl ?_
   refine g_d rfl ?_
   refine g_op (v := v9) rfl rfl rfl ?_
   refine g_d rfl ?_
   try dsimp only [set0,setS]
   refine g_op (v := Value.int .i64 r8.2) rfl rfl rfl ?_
   refine g_d rfl ?_
   try dsimp only [set0,setS]
   refine g_ops_nil ?_
   refine g_seq ?_
   refine g_region ?_
   show G _ _ _ (.inRegion _ [0, 1, 2] :: _) _ _
   refine g_op (v := v2) rfl rfl rfl ?_
   refine g_d rfl ?_
   obtain ⟨r11, Hr11, H⟩ := H
   refine s_call (args := [v2]) rfl rfl (x_call rfl (callFunc_enter Try.func6 rfl rfl) rfl) (laws_toWeights.calls (a1 := a1) (hs.rd hr0) Hr11) ?_
   intro v12 w hs2
   have hs : St _ [_,_,_] _ := hs.call hs2
   refine g_d rfl ?_
   try dsimp only [set0,setS]
   refine g_op (v := v12) rfl rfl rfl ?_
   refine g_d rfl ?_
   try dsimp only [set0,setS]
   refine g_ops_nil ?_
   refine g_seq ?_
   refine g_region ?_
   show G _ _ _ (.inRegion _ [0, 1, 2, 3, 4, 5, 6, 7, 8] :: _) _ _
   refine g_op (v := v12) rfl rfl rfl ?_
   refine g_d rfl ?_
   refine g_op (v := Value.int .i64 a3) rfl rfl rfl ?_
   refine g_d rfl ?_
   refine g_op (v := Value.bool a4) rfl rfl rfl ?_
   refine g_d rfl ?_
   refine s_call (args := [v12, Value.int .i64 a3, Value.bool a4]) rfl rfl (x_call rfl (callFunc_enter Try.func10 rfl rfl) rfl) (impl_PlacingFor.calls (a1 := r11) (a3 := a3) (a4 := a4) (hs.row 0 rfl) H) ?_
   rintro _ w ⟨r14, H, v15, rfl, hs2⟩
   try dsimp only at H
   have hs : St _ [_,_,_,_] _ := hs.call hs2
   refine g_d rfl ?_
   try dsimp only [set0,setS]
   refine g_op (v := Value.tuple #[v15, Value.int .i64 r14.2]) rfl rfl rfl ?_
   refine g_d rfl ?_
   refine g_op (v := v15) rfl rfl rfl ?_
   refine g_d rfl ?_
   refine g_op (v := Value.int .i64 r14.2) rfl rfl rfl ?_
   refine g_d rfl ?_
   refine g_op (v := v15) rfl rfl rfl ?_
   refine g_d rfl ?_
   try dsimp only [set0,setS]
   refine g_op (v := Value.int .i64 r14.2) rfl rfl rfl ?_
   refine g_d rfl ?_
   try dsimp only [set0,setS]
   refine g_ops_nil ?_
   refine g_seq ?_
   refine g_seq ?_
   refine g_region ?_
   show G _ _ _ (.inRegion _ [0, 1, 2, 3, 4, 5, 6, 7, 8] :: _) _ _
   refine g_op (v := v15) rfl rfl rfl ?_
   refine g_d rfl ?_
   refine g_op (v := v9) rfl rfl rfl ?_
   refine g_d rfl ?_
   obtain ⟨r17, Hr17, H⟩ := H
   refine s_call (args := [v15, v9]) rfl rfl (x_call rfl (callFunc_enter Try.func11 rfl rfl) rfl) (laws_eqPlacing.calls (a1 := r14.1) (a3 := r8.1) (hs.row 0 rfl) (hs.row 2 rfl) Hr17) ?_
   rintro _ w ⟨rfl, hs2⟩
   have hs : St _ [_,_,_,_] _ := hs.call hs2
   cases r17 with
   | true =>
     rw [if_pos rfl] at H
     refine g_d rfl ?_
     try dsimp only [set0,setS]
     refine g_op (v := Value.bool false) rfl rfl rfl ?_
     refine g_d rfl ?_
     try dsimp only [set0,setS]
     refine g_op (v := Value.bool false) rfl rfl rfl ?_
     refine g_d rfl ?_
     refine g_op (v := Value.int .i64 r14.2) rfl rfl rfl ?_
     refine g_d rfl ?_
     refine g_op (v := Value.int .i64 r8.2) rfl rfl rfl ?_
     refine g_d rfl ?_
     refine g_op_b (B := r14.2 != r8.2) rfl rfl rfl ?_ ?_
     ·
      intro hb
      rw [if_neg (b_bne_t hb)] at H
      refine g_d rfl ?_
      try dsimp only [set0,setS]
      refine g_op (v := Value.bool true) rfl rfl rfl ?_
      refine g_d rfl ?_
      try dsimp only [set0,setS]
      refine g_ops_nil ?_
      refine g_cond_true rfl ?_
      refine g_seq ?_
      refine g_region ?_
      show G _ _ _ (.inRegion _ [0] :: _) _ _
      refine g_op (v := Value.bool false) rfl rfl rfl ?_
      refine g_d rfl ?_
      try dsimp only [set0,setS]
      refine g_ops_nil ?_
      refine g_ret Try.func4 (v := Value.bool false) (res1 rfl rfl) ?_
      have hs : St _ [] _ := St.take (Γ' := [_,_,_,_]) hs
      exact ⟨_, rfl, _, H, rfl, hs⟩
     ·
      intro hb
      rw [if_pos (b_bne_f hb)] at H
      refine g_d rfl ?_
      try dsimp only [set0,setS]
      refine g_op (v := Value.bool false) rfl rfl rfl ?_
      refine g_d rfl ?_
      try dsimp only [set0,setS]
      refine g_ops_nil ?_
      refine g_cond_false rfl ?_
      refine g_skip ?_
      refine g_seq ?_
      refine g_seq ?_
      refine g_region ?_
      show G _ _ _ (.inRegion _ [0, 1, 2, 3, 4] :: _) _ _
      refine g_op (v := v12) rfl rfl rfl ?_
      refine g_d rfl ?_
      refine g_op (v := v2) rfl rfl rfl ?_
      refine g_d rfl ?_
      obtain ⟨r18, Hr18, H⟩ := H
      refine s_call (args := [v2]) rfl rfl (x_call rfl (callFunc_enter Try.func6 rfl rfl) rfl) (laws_toWeights.calls (a1 := a1) (hs.rd hr0) Hr18) ?_
      intro v19 w hs2
      have hs : St _ [_,_,_,_,_] _ := hs.call hs2
      refine g_d rfl ?_
      try dsimp only [set0,setS]
      obtain ⟨r21, Hr21, H⟩ := H
      refine s_call (args := [v12, v19]) rfl rfl (x_call rfl (callFunc_enter Try.func8 rfl rfl) rfl) (laws_eqWeights.calls (a1 := r11) (a3 := r18) (hs.row 2 rfl) (hs.row 0 rfl) Hr21) ?_
      rintro _ w ⟨rfl, hs2⟩
      have hs : St _ [_,_,_,_,_] _ := hs.call hs2
      cases r21 with
      | true =>
        rw [if_pos rfl] at H
        refine g_d rfl ?_
        try dsimp only [set0,setS]
        refine g_op (v := Value.bool false) rfl rfl rfl ?_
        refine g_d rfl ?_
        try dsimp only [set0,setS]
        refine g_ops_nil ?_
        refine g_cond_false rfl ?_
        refine g_skip ?_
        refine g_seq ?_
        refine g_region ?_
        show G _ _ _ (.inRegion _ [0] :: _) _ _
        refine g_op (v := Value.int .i64 1) rfl rfl rfl ?_
        refine g_d rfl ?_
        try dsimp only [set0,setS]
        refine g_ops_nil ?_
        refine g_seq ?_
        refine g_region ?_
        show G _ _ _ (.inRegion _ [0, 1, 2, 3] :: _) _ _
        refine g_op (v := v12) rfl rfl rfl ?_
        refine g_d rfl ?_
        refine g_op (v := Value.int .i64 1) rfl rfl rfl ?_
        refine g_d rfl ?_
        obtain ⟨r22, Hr22, H⟩ := H
        have hs := hs.pull 2 rfl
        have hs : St _ [_,_,_,_,_] _ := hs
        have hs := hs.pack 1
        refine s_call (args := [v12, Value.int .i64 1]) rfl rfl (x_call rfl (callFunc_enter Try.func12 rfl rfl) rfl) (laws_markWeights.calls (a1 := r11) (a4 := 1) hs Hr22) ?_
        rintro _ w ⟨rfl, hs⟩
        have hs := St.unpack (Γ := [_]) hs
        have hs : St _ [_,_,_,_,_] _ := hs
        refine g_d rfl ?_
        try dsimp only [set0,setS]
        refine g_op (v := Value.int .i64 r22.1) rfl rfl rfl ?_
        refine g_d rfl ?_
        try dsimp only [set0,setS]
        refine g_ops_nil ?_
        refine g_seq ?_
        refine g_seq ?_
        refine g_region ?_
        show G _ _ _ (.inRegion _ [0, 1, 2, 3, 4, 5, 6, 7, 8, 9, 10, 11, 12] :: _) _ _
        refine g_op (v := Value.int .i64 r22.1) rfl rfl rfl ?_
        refine g_d rfl ?_
        refine g_op_b (B := decide (r22.1 < 0)) rfl rfl rfl ?_ ?_
        ·
         intro hb
         rw [if_pos (b_dec_t hb)] at H
         refine g_d rfl ?_
         try dsimp only [set0,setS]
         refine g_op (v := Value.bool true) rfl rfl rfl ?_
         refine g_d rfl ?_
         refine g_op_not rfl rfl ?_
         refine g_d rfl ?_
         refine g_op_not rfl rfl ?_
         refine g_d rfl ?_
         refine g_op_not rfl rfl ?_
         refine g_d rfl ?_
         try dsimp only [set0,setS]
         refine g_op_not rfl rfl ?_
         refine g_d rfl ?_
         try dsimp only [set0,setS]
         refine g_op (v := Value.bool true) rfl rfl rfl ?_
         refine g_d rfl ?_
         try dsimp only [set0,setS]
         refine g_op (v := Value.bool true) rfl rfl rfl ?_
         refine g_d rfl ?_
         refine g_op_not rfl rfl ?_
         refine g_d rfl ?_
         refine g_op_not rfl rfl ?_
         refine g_d rfl ?_
         refine g_op_not rfl rfl ?_
         refine g_d rfl ?_
         try dsimp only [set0,setS]
         refine g_op (v := Value.bool true) rfl rfl rfl ?_
         refine g_d rfl ?_
         try dsimp only [set0,setS]
         refine g_ops_nil ?_
         refine g_cond_true rfl ?_
         refine g_seq ?_
         refine g_region ?_
         show G _ _ _ (.inRegion _ [0] :: _) _ _
         refine g_op (v := Value.bool false) rfl rfl rfl ?_
         refine g_d rfl ?_
         try dsimp only [set0,setS]
         refine g_ops_nil ?_
         refine g_ret Try.func4 (v := Value.bool false) (res1 rfl rfl) ?_
         have hs : St _ [] _ := St.take (Γ' := [_,_,_,_,_]) hs
         exact ⟨_, rfl, _, H, rfl, hs⟩
        ·
         intro hb
         rw [if_neg (b_dec_f hb)] at H
         refine g_d rfl ?_
         try dsimp only [set0,setS]
         refine g_op (v := Value.bool false) rfl rfl rfl ?_
         refine g_d rfl ?_
         refine g_op (v := v15) rfl rfl rfl ?_
         refine g_d rfl ?_
         refine g_op (v := v9) rfl rfl rfl ?_
         refine g_d rfl ?_
         obtain ⟨r23, Hr23, H⟩ := H
         refine s_call (args := [v15, v9]) rfl rfl (x_call rfl (callFunc_enter Try.func11 rfl rfl) rfl) (laws_eqPlacing.calls (a1 := r14.1) (a3 := r8.1) (hs.row 2 rfl) (hs.row 3 rfl) Hr23) ?_
         rintro _ w ⟨rfl, hs2⟩
         have hs : St _ [_,_,_,_,_] _ := hs.call hs2
         refine g_d rfl ?_
         try dsimp only [set0,setS]
         refine g_op (v := Value.bool (!r23)) rfl rfl rfl ?_
         refine g_d rfl ?_
         try dsimp only [set0,setS]
         refine g_op_b (B := !r23) rfl rfl rfl ?_ ?_
         ·
          intro hb
          rw [if_neg (b_not_t hb)] at H
          refine g_d rfl ?_
          try dsimp only [set0,setS]
          refine g_op (v := Value.bool true) rfl rfl rfl ?_
          refine g_d rfl ?_
          refine g_op_not rfl rfl ?_
          refine g_d rfl ?_
          refine g_op_not rfl rfl ?_
          refine g_d rfl ?_
          refine g_op_not rfl rfl ?_
          refine g_d rfl ?_
          try dsimp only [set0,setS]
          refine g_op (v := Value.bool true) rfl rfl rfl ?_
          refine g_d rfl ?_
          try dsimp only [set0,setS]
          refine g_ops_nil ?_
          refine g_cond_true rfl ?_
          refine g_seq ?_
          refine g_region ?_
          show G _ _ _ (.inRegion _ [0] :: _) _ _
          refine g_op (v := Value.bool false) rfl rfl rfl ?_
          refine g_d rfl ?_
          try dsimp only [set0,setS]
          refine g_ops_nil ?_
          refine g_ret Try.func4 (v := Value.bool false) (res1 rfl rfl) ?_
          have hs : St _ [] _ := St.take (Γ' := [_,_,_,_,_]) hs
          exact ⟨_, rfl, _, H, rfl, hs⟩
         ·
          intro hb
          rw [if_pos (b_not_f hb)] at H
          refine g_d rfl ?_
          try dsimp only [set0,setS]
          refine g_op (v := Value.bool false) rfl rfl rfl ?_
          refine g_d rfl ?_
          refine g_op (v := Value.int .i64 r14.2) rfl rfl rfl ?_
          refine g_d rfl ?_
          refine g_op (v := Value.int .i64 r8.2) rfl rfl rfl ?_
          refine g_d rfl ?_
          refine g_op_b (B := r14.2 != r8.2) rfl rfl rfl ?_ ?_
          ·
           intro hb
           rw [if_neg (b_bne_t hb)] at H
           refine g_d rfl ?_
           try dsimp only [set0,setS]
           refine g_op (v := Value.bool true) rfl rfl rfl ?_
           refine g_d rfl ?_
           try dsimp only [set0,setS]
           refine g_ops_nil ?_
           refine g_cond_true rfl ?_
           refine g_seq ?_
           refine g_region ?_
           show G _ _ _ (.inRegion _ [0] :: _) _ _
           refine g_op (v := Value.bool false) rfl rfl rfl ?_
           refine g_d rfl ?_
           try dsimp only [set0,setS]
           refine g_ops_nil ?_
           refine g_ret Try.func4 (v := Value.bool false) (res1 rfl rfl) ?_
           have hs : St _ [] _ := St.take (Γ' := [_,_,_,_,_]) hs
           exact ⟨_, rfl, _, H, rfl, hs⟩
          ·
           intro hb
           rw [if_pos (b_bne_f hb)] at H
           refine g_d rfl ?_
           try dsimp only [set0,setS]
           refine g_op (v := Value.bool false) rfl rfl rfl ?_
           refine g_d rfl ?_
           try dsimp only [set0,setS]
           refine g_ops_nil ?_
           refine g_cond_false rfl ?_
           refine g_skip ?_
           refine g_seq ?_
           refine g_region ?_
           show G _ _ _ (.inRegion _ [0] :: _) _ _
           refine g_op (v := Value.int .i64 1) rfl rfl rfl ?_
           refine g_d rfl ?_
           try dsimp only [set0,setS]
           refine g_ops_nil ?_
           refine g_seq ?_
           refine g_region ?_
           show G _ _ _ (.inRegion _ [0, 1, 2, 3] :: _) _ _
           refine g_op (v := v15) rfl rfl rfl ?_
           refine g_d rfl ?_
           refine g_op (v := Value.int .i64 1) rfl rfl rfl ?_
           refine g_d rfl ?_
           obtain ⟨r24, Hr24, H⟩ := H
           have hs := hs.pull 2 rfl
           have hs : St _ [_,_,_,_,_] _ := hs
           have hs := hs.pack 1
           refine s_call (args := [v15, Value.int .i64 1]) rfl rfl (x_call rfl (callFunc_enter Try.func13 rfl rfl) rfl) (laws_markPlacing.calls (a1 := r14.1) (a4 := 1) hs Hr24) ?_
           rintro _ w ⟨rfl, hs⟩
           have hs := St.unpack (Γ := [_]) hs
           have hs : St _ [_,_,_,_,_] _ := hs
           refine g_d rfl ?_
           try dsimp only [set0,setS]
           refine g_op (v := Value.int .i64 r24.1) rfl rfl rfl ?_
           refine g_d rfl ?_
           try dsimp only [set0,setS]
           refine g_ops_nil ?_
           refine g_seq ?_
           refine g_region ?_
           show G _ _ _ (.inRegion _ [0] :: _) _ _
           refine g_op (v := Value.int .i64 1) rfl rfl rfl ?_
           refine g_d rfl ?_
           try dsimp only [set0,setS]
           refine g_ops_nil ?_
           refine g_seq ?_
           refine g_region ?_
           show G _ _ _ (.inRegion _ [0, 1, 2, 3] :: _) _ _
           refine g_op (v := v15) rfl rfl rfl ?_
           refine g_d rfl ?_
           refine g_op (v := Value.int .i64 1) rfl rfl rfl ?_
           refine g_d rfl ?_
           obtain ⟨r25, Hr25, H⟩ := H
           refine s_call (args := [v15, Value.int .i64 1]) rfl rfl (x_call rfl (callFunc_enter Try.func14 rfl rfl) rfl) (laws_heldPlacing.calls (a1 := r24.2) (a3 := 1) (hs.row 0 rfl) Hr25) ?_
           rintro _ w ⟨rfl, hs2⟩
           have hs : St _ [_,_,_,_,_] _ := hs.call hs2
           refine g_d rfl ?_
           try dsimp only [set0,setS]
           refine g_op (v := Value.int .i64 r25) rfl rfl rfl ?_
           refine g_d rfl ?_
           try dsimp only [set0,setS]
           refine g_ops_nil ?_
           refine g_seq ?_
           refine g_seq ?_
           refine g_region ?_
           show G _ _ _ (.inRegion _ [0, 1] :: _) _ _
           refine g_op (v := Value.int .i64 r25) rfl rfl rfl ?_
           refine g_d rfl ?_
           refine g_op_b (B := decide (r25 < 0)) rfl rfl rfl ?_ ?_
           ·
            intro hb
            rw [if_pos (b_dec_t hb)] at H
            refine g_d rfl ?_
            try dsimp only [set0,setS]
            refine g_ops_nil ?_
            refine g_cond_true rfl ?_
            refine g_seq ?_
            refine g_region ?_
            show G _ _ _ (.inRegion _ [0] :: _) _ _
            refine g_op (v := Value.bool false) rfl rfl rfl ?_
            refine g_d rfl ?_
            try dsimp only [set0,setS]
            refine g_ops_nil ?_
            refine g_ret Try.func4 (v := Value.bool false) (res1 rfl rfl) ?_
            have hs : St _ [] _ := St.take (Γ' := [_,_,_,_,_]) hs
            exact ⟨_, rfl, _, H, rfl, hs⟩
           ·
            intro hb
            rw [if_neg (b_dec_f hb)] at H
            refine g_d rfl ?_
            try dsimp only [set0,setS]
            refine g_ops_nil ?_
            refine g_cond_false rfl ?_
            refine g_skip ?_
            refine g_seq ?_
            refine g_seq ?_
            refine g_region ?_
            show G _ _ _ (.inRegion _ [0, 1, 2] :: _) _ _
            refine g_op (v := Value.int .i64 r25) rfl rfl rfl ?_
            refine g_d rfl ?_
            refine g_op (v := Value.int .i64 r24.1) rfl rfl rfl ?_
            refine g_d rfl ?_
            refine g_op_b (B := r25 != r24.1) rfl rfl rfl ?_ ?_
            ·
             intro hb
             rw [if_neg (b_bne_t hb)] at H
             refine g_d rfl ?_
             try dsimp only [set0,setS]
             refine g_ops_nil ?_
             refine g_cond_true rfl ?_
             refine g_seq ?_
             refine g_region ?_
             show G _ _ _ (.inRegion _ [0] :: _) _ _
             refine g_op (v := Value.bool false) rfl rfl rfl ?_
             refine g_d rfl ?_
             try dsimp only [set0,setS]
             refine g_ops_nil ?_
             refine g_ret Try.func4 (v := Value.bool false) (res1 rfl rfl) ?_
             have hs : St _ [] _ := St.take (Γ' := [_,_,_,_,_]) hs
             exact ⟨_, rfl, _, H, rfl, hs⟩
            ·
             intro hb
             rw [if_pos (b_bne_f hb)] at H
             refine g_d rfl ?_
             try dsimp only [set0,setS]
             refine g_ops_nil ?_
             refine g_cond_false rfl ?_
             refine g_skip ?_
             refine g_seq ?_
             refine g_region ?_
             show G _ _ _ (.inRegion _ [0, 1, 2, 3, 4, 5, 6, 7, 8, 9] :: _) _ _
             refine g_op (v := v2) rfl rfl rfl ?_
             refine g_d rfl ?_
             obtain ⟨r26, Hr26, H⟩ := H
             refine s_call (args := [v2]) rfl rfl (x_call rfl (callFunc_enter Try.func6 rfl rfl) rfl) (laws_toWeights.calls (a1 := a1) (hs.rd hr0) Hr26) ?_
             intro v27 w hs2
             have hs : St _ [_,_,_,_,_,_] _ := hs.call hs2
             refine g_d rfl ?_
             try dsimp only [set0,setS]
             refine g_op (v := Value.int .i64 a3) rfl rfl rfl ?_
             refine g_d rfl ?_
             refine g_op (v := Value.bool a4) rfl rfl rfl ?_
             refine g_d rfl ?_
             refine s_call (args := [v27, Value.int .i64 a3, Value.bool a4]) rfl rfl (x_call rfl (callFunc_enter Try.func10 rfl rfl) rfl) (impl_PlacingFor.calls (a1 := r26) (a3 := a3) (a4 := a4) (hs.row 0 rfl) H) ?_
             rintro _ w ⟨r29, H, v30, rfl, hs2⟩
             try dsimp only at H
             have hs : St _ [_,_,_,_,_,_,_] _ := hs.call hs2
             refine g_d rfl ?_
             try dsimp only [set0,setS]
             refine g_op (v := Value.tuple #[v30, Value.int .i64 r29.2]) rfl rfl rfl ?_
             refine g_d rfl ?_
             refine g_op (v := v30) rfl rfl rfl ?_
             refine g_d rfl ?_
             refine g_op (v := Value.int .i64 r29.2) rfl rfl rfl ?_
             refine g_d rfl ?_
             refine g_op (v := v30) rfl rfl rfl ?_
             refine g_d rfl ?_
             try dsimp only [set0,setS]
             refine g_op (v := Value.int .i64 r29.2) rfl rfl rfl ?_
             refine g_d rfl ?_
             try dsimp only [set0,setS]
             refine g_ops_nil ?_
             refine g_seq ?_
             refine g_seq ?_
             refine g_region ?_
             show G _ _ _ (.inRegion _ [0, 1, 2, 3, 4, 5, 6, 7, 8] :: _) _ _
             refine g_op (v := v30) rfl rfl rfl ?_
             refine g_d rfl ?_
             refine g_op (v := v9) rfl rfl rfl ?_
             refine g_d rfl ?_
             obtain ⟨r32, Hr32, H⟩ := H
             refine s_call (args := [v30, v9]) rfl rfl (x_call rfl (callFunc_enter Try.func11 rfl rfl) rfl) (laws_eqPlacing.calls (a1 := r29.1) (a3 := r8.1) (hs.row 0 rfl) (hs.row 5 rfl) Hr32) ?_
             rintro _ w ⟨rfl, hs2⟩
             have hs : St _ [_,_,_,_,_,_,_] _ := hs.call hs2
             cases r32 with
             | true =>
               rw [if_pos rfl] at H
               refine g_d rfl ?_
               try dsimp only [set0,setS]
               refine g_op (v := Value.bool false) rfl rfl rfl ?_
               refine g_d rfl ?_
               try dsimp only [set0,setS]
               refine g_op (v := Value.bool false) rfl rfl rfl ?_
               refine g_d rfl ?_
               refine g_op (v := Value.int .i64 r29.2) rfl rfl rfl ?_
               refine g_d rfl ?_
               refine g_op (v := Value.int .i64 r8.2) rfl rfl rfl ?_
               refine g_d rfl ?_
               refine g_op_b (B := r29.2 != r8.2) rfl rfl rfl ?_ ?_
               ·
                intro hb
                rw [if_neg (b_bne_t hb)] at H
                refine g_d rfl ?_
                try dsimp only [set0,setS]
                refine g_op (v := Value.bool true) rfl rfl rfl ?_
                refine g_d rfl ?_
                try dsimp only [set0,setS]
                refine g_ops_nil ?_
                refine g_cond_true rfl ?_
                refine g_seq ?_
                refine g_region ?_
                show G _ _ _ (.inRegion _ [0] :: _) _ _
                refine g_op (v := Value.bool false) rfl rfl rfl ?_
                refine g_d rfl ?_
                try dsimp only [set0,setS]
                refine g_ops_nil ?_
                refine g_ret Try.func4 (v := Value.bool false) (res1 rfl rfl) ?_
                have hs : St _ [] _ := St.take (Γ' := [_,_,_,_,_,_,_]) hs
                exact ⟨_, rfl, _, H, rfl, hs⟩
               ·
                intro hb
                rw [if_pos (b_bne_f hb)] at H
                refine g_d rfl ?_
                try dsimp only [set0,setS]
                refine g_op (v := Value.bool false) rfl rfl rfl ?_
                refine g_d rfl ?_
                try dsimp only [set0,setS]
                refine g_ops_nil ?_
                refine g_cond_false rfl ?_
                refine g_skip ?_
                refine g_seq ?_
                refine g_region ?_
                show G _ _ _ (.inRegion _ [0] :: _) _ _
                refine g_op (v := Value.int .i64 1) rfl rfl rfl ?_
                refine g_d rfl ?_
                try dsimp only [set0,setS]
                refine g_ops_nil ?_
                refine g_seq ?_
                refine g_region ?_
                show G _ _ _ (.inRegion _ [0, 1, 2, 3] :: _) _ _
                refine g_op (v := v15) rfl rfl rfl ?_
                refine g_d rfl ?_
                refine g_op (v := Value.int .i64 1) rfl rfl rfl ?_
                refine g_d rfl ?_
                obtain ⟨r33, Hr33, H⟩ := H
                refine s_call (args := [v15, Value.int .i64 1]) rfl rfl (x_call rfl (callFunc_enter Try.func14 rfl rfl) rfl) (laws_heldPlacing.calls (a1 := r24.2) (a3 := 1) (hs.row 2 rfl) Hr33) ?_
                rintro _ w ⟨rfl, hs2⟩
                have hs : St _ [_,_,_,_,_,_,_] _ := hs.call hs2
                refine g_d rfl ?_
                try dsimp only [set0,setS]
                refine g_op (v := Value.int .i64 r33) rfl rfl rfl ?_
                refine g_d rfl ?_
                try dsimp only [set0,setS]
                refine g_ops_nil ?_
                refine g_seq ?_
                refine g_seq ?_
                refine g_region ?_
                show G _ _ _ (.inRegion _ [0, 1] :: _) _ _
                refine g_op (v := Value.int .i64 r33) rfl rfl rfl ?_
                refine g_d rfl ?_
                refine g_op_b (B := decide (r33 < 0)) rfl rfl rfl ?_ ?_
                ·
                 intro hb
                 rw [if_pos (b_dec_t hb)] at H
                 refine g_d rfl ?_
                 try dsimp only [set0,setS]
                 refine g_ops_nil ?_
                 refine g_cond_true rfl ?_
                 refine g_seq ?_
                 refine g_region ?_
                 show G _ _ _ (.inRegion _ [0] :: _) _ _
                 refine g_op (v := Value.bool false) rfl rfl rfl ?_
                 refine g_d rfl ?_
                 try dsimp only [set0,setS]
                 refine g_ops_nil ?_
                 refine g_ret Try.func4 (v := Value.bool false) (res1 rfl rfl) ?_
                 have hs : St _ [] _ := St.take (Γ' := [_,_,_,_,_,_,_]) hs
                 exact ⟨_, rfl, _, H, rfl, hs⟩
                ·
                 intro hb
                 rw [if_neg (b_dec_f hb)] at H
                 refine g_d rfl ?_
                 try dsimp only [set0,setS]
                 refine g_ops_nil ?_
                 refine g_cond_false rfl ?_
                 refine g_skip ?_
                 refine g_seq ?_
                 refine g_seq ?_
                 refine g_region ?_
                 show G _ _ _ (.inRegion _ [0, 1, 2] :: _) _ _
                 refine g_op (v := Value.int .i64 r33) rfl rfl rfl ?_
                 refine g_d rfl ?_
                 refine g_op (v := Value.int .i64 r24.1) rfl rfl rfl ?_
                 refine g_d rfl ?_
                 refine g_op_b (B := r33 != r24.1) rfl rfl rfl ?_ ?_
                 ·
                  intro hb
                  rw [if_neg (b_bne_t hb)] at H
                  refine g_d rfl ?_
                  try dsimp only [set0,setS]
                  refine g_ops_nil ?_
                  refine g_cond_true rfl ?_
                  refine g_seq ?_
                  refine g_region ?_
                  show G _ _ _ (.inRegion _ [0] :: _) _ _
                  refine g_op (v := Value.bool false) rfl rfl rfl ?_
                  refine g_d rfl ?_
                  try dsimp only [set0,setS]
                  refine g_ops_nil ?_
                  refine g_ret Try.func4 (v := Value.bool false) (res1 rfl rfl) ?_
                  have hs : St _ [] _ := St.take (Γ' := [_,_,_,_,_,_,_]) hs
                  exact ⟨_, rfl, _, H, rfl, hs⟩
                 ·
                  intro hb
                  rw [if_pos (b_bne_f hb)] at H
                  refine g_d rfl ?_
                  try dsimp only [set0,setS]
                  refine g_ops_nil ?_
                  refine g_cond_false rfl ?_
                  refine g_skip ?_
                  refine g_seq ?_
                  refine g_region ?_
                  show G _ _ _ (.inRegion _ [0] :: _) _ _
                  refine g_op (v := Value.bool true) rfl rfl rfl ?_
                  refine g_d rfl ?_
                  try dsimp only [set0,setS]
                  refine g_ops_nil ?_
                  refine g_ret Try.func4 (v := Value.bool true) (res1 rfl rfl) ?_
                  have hs : St _ [] _ := St.take (Γ' := [_,_,_,_,_,_,_]) hs
                  exact ⟨_, rfl, _, H, rfl, hs⟩
             | false =>
               rw [if_neg Bool.false_ne_true] at H
               refine g_d rfl ?_
               try dsimp only [set0,setS]
               refine g_op (v := Value.bool true) rfl rfl rfl ?_
               refine g_d rfl ?_
               try dsimp only [set0,setS]
               refine g_op (v := Value.bool true) rfl rfl rfl ?_
               refine g_d rfl ?_
               refine g_op_not rfl rfl ?_
               refine g_d rfl ?_
               refine g_op_not rfl rfl ?_
               refine g_d rfl ?_
               refine g_op_not rfl rfl ?_
               refine g_d rfl ?_
               try dsimp only [set0,setS]
               refine g_op (v := Value.bool true) rfl rfl rfl ?_
               refine g_d rfl ?_
               try dsimp only [set0,setS]
               refine g_ops_nil ?_
               refine g_cond_true rfl ?_
               refine g_seq ?_
               refine g_region ?_
               show G _ _ _ (.inRegion _ [0] :: _) _ _
               refine g_op (v := Value.bool false) rfl rfl rfl ?_
               refine g_d rfl ?_
               try dsimp only [set0,setS]
               refine g_ops_nil ?_
               refine g_ret Try.func4 (v := Value.bool false) (res1 rfl rfl) ?_
               have hs : St _ [] _ := St.take (Γ' := [_,_,_,_,_,_,_]) hs
               exact ⟨_, rfl, _, H, rfl, hs⟩
      | false =>
        rw [if_neg Bool.false_ne_true] at H
        refine g_d rfl ?_
        try dsimp only [set0,setS]
        refine g_op (v := Value.bool true) rfl rfl rfl ?_
        refine g_d rfl ?_
        try dsimp only [set0,setS]
        refine g_ops_nil ?_
        refine g_cond_true rfl ?_
        refine g_seq ?_
        refine g_region ?_
        show G _ _ _ (.inRegion _ [0] :: _) _ _
        refine g_op (v := Value.bool false) rfl rfl rfl ?_
        refine g_d rfl ?_
        try dsimp only [set0,setS]
        refine g_ops_nil ?_
        refine g_ret Try.func4 (v := Value.bool false) (res1 rfl rfl) ?_
        have hs : St _ [] _ := St.take (Γ' := [_,_,_,_,_]) hs
        exact ⟨_, rfl, _, H, rfl, hs⟩
   | false =>
     rw [if_neg Bool.false_ne_true] at H
     refine g_d rfl ?_
     try dsimp only [set0,setS]
     refine g_op (v := Value.bool true) rfl rfl rfl ?_
     refine g_d rfl ?_
     try dsimp only [set0,setS]
     refine g_op (v := Value.bool true) rfl rfl rfl ?_
     refine g_d rfl ?_
     refine g_op_not rfl rfl ?_
     refine g_d rfl ?_
     refine g_op_not rfl rfl ?_
     refine g_d rfl ?_
     refine g_op_not rfl rfl ?_
     refine g_d rfl ?_
     try dsimp only [set0,setS]
     refine g_op (v := Value.bool true) rfl rfl rfl ?_
     refine g_d rfl ?_
     try dsimp only [set0,setS]
     refine g_ops_nil ?_
     refine g_cond_true rfl ?_
     refine g_seq ?_
     refine g_region ?_
     show G _ _ _ (.inRegion _ [0] :: _) _ _
     refine g_op (v := Value.bool false) rfl rfl rfl ?_
     refine g_d rfl ?_
     try dsimp only [set0,setS]
     refine g_ops_nil ?_
     refine g_ret Try.func4 (v := Value.bool false) (res1 rfl rfl) ?_
     have hs : St _ [] _ := St.take (Γ' := [_,_,_,_]) hs
     exact ⟨_, rfl, _, H, rfl, hs⟩

end Go.Proofs.YtekcbhgojjdcoaaX
