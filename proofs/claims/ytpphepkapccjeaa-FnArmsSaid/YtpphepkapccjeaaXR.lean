/- The plain functions, printed by gen.py. -/
import Derived.Test.YtpphepkapccjeaaXPure
namespace Go.Proofs.YtpphepkapccjeaaX
open Go
set_option linter.unusedVariables false
structure S_spec_l00Src where
  f_code : (List Int)
  f_at : Int
  f_seed : Int
  deriving DecidableEq
def z_S_spec_l00Src : S_spec_l00Src := ⟨[], 0, 0⟩
instance : Inhabited S_spec_l00Src := ⟨z_S_spec_l00Src⟩

def laws_a2Long.f (N : Nat) (a1 : (List Int)) (a3 : (List Int)) : Option Bool := if (a1.length : Int) > 3000 then (some true) else (some (decide ((a3.length : Int) > 3000)))

def spec_l00From.f (N : Nat) (a1 : (List Int)) : Option S_spec_l00Src := some (⟨a1, 0, 0⟩ : S_spec_l00Src)

def _spec_l00Src_next.j0 (N : Nat) (a1 : S_spec_l00Src) (x6 : Int) : Option (Int × S_spec_l00Src) := if (i64w (a1.f_at + 1)) ≤ (a1.f_code.length : Int) then (some (x6, (⟨a1.f_code, i64w (a1.f_at + 1), u64w ((u64w ((u64w (a1.f_seed * 6364136223846793005)) + (u64w x6))) + 1442695040888963407)⟩ : S_spec_l00Src))) else (some (i64w (bAnd .u64 (shrI .u64 (u64w ((u64w ((u64w (a1.f_seed * 6364136223846793005)) + (u64w x6))) + 1442695040888963407)) 40) 255), (⟨a1.f_code, i64w (a1.f_at + 1), u64w ((u64w ((u64w (a1.f_seed * 6364136223846793005)) + (u64w x6))) + 1442695040888963407)⟩ : S_spec_l00Src)))
def _spec_l00Src_next.f (N : Nat) (a1 : S_spec_l00Src) : Option (Int × S_spec_l00Src) := if a1.f_at < (a1.f_code.length : Int) then (if (0 : Int) ≤ a1.f_at ∧ a1.f_at < (a1.f_code.length : Int) then (_spec_l00Src_next.j0 N a1 (i64w (rdL a1.f_code a1.f_at 0))) else none) else (_spec_l00Src_next.j0 N a1 0)

def _spec_l00Src_pick.f (N : Nat) (a1 : S_spec_l00Src) (a6 : Int) : Option (Int × S_spec_l00Src) := if a6 ≤ 1 then (some (0, (⟨a1.f_code, a1.f_at, a1.f_seed⟩ : S_spec_l00Src))) else ((_spec_l00Src_next.f N (⟨a1.f_code, a1.f_at, a1.f_seed⟩ : S_spec_l00Src)).bind fun r7 => (if a6 > 200 then ((_spec_l00Src_next.f N (⟨a1.f_code, r7.2.f_at, r7.2.f_seed⟩ : S_spec_l00Src)).bind fun r8 => (if ¬ a6 = 0 then (some ((i64w ((i64w (r7.1 * 256)) + r8.1)).tmod a6, (⟨a1.f_code, r8.2.f_at, r8.2.f_seed⟩ : S_spec_l00Src))) else none)) else (if ¬ a6 = 0 then (some (r7.1.tmod a6, (⟨a1.f_code, r7.2.f_at, r7.2.f_seed⟩ : S_spec_l00Src))) else none)))

def spec_l01Drawn.b0 (N : Nat) (a1 : S_spec_l00Src) (x27 : Int) (x28 : Int) (x31 : (List Int)) (x32 : Int) (x33 : Int) : Option (Bd ((List Int) × S_spec_l00Src) ((List Int) × Int × Int) (Int × Int × (List Int) × Int × Int)) := if x33 > 0 then (if x31.length + ([i16w x32]).length ≤ 70368744177664 then ((_spec_l00Src_pick.f N (⟨a1.f_code, x27, x28⟩ : S_spec_l00Src) 9).bind fun r38 => (some (.next (r38.2.f_at, r38.2.f_seed, x31 ++ ([i16w x32]), i64w (x32 + r38.1), i64w (x33 - 1))))) else none) else (some (.out (.go (x31, x27, x28))))
def spec_l01Drawn.a0 (N : Nat) (a1 : S_spec_l00Src) (x40 : (List Int)) (x42 : Int) (x43 : Int) : Option ((List Int) × S_spec_l00Src) := some (x40, (⟨a1.f_code, x42, x43⟩ : S_spec_l00Src))
def spec_l01Drawn.f (N : Nat) (a1 : S_spec_l00Src) : Option ((List Int) × S_spec_l00Src) := (_spec_l00Src_pick.f N (⟨a1.f_code, a1.f_at, a1.f_seed⟩ : S_spec_l00Src) 4).bind fun r6 => (if r6.1 = 0 then ((_spec_l00Src_pick.f N (⟨a1.f_code, r6.2.f_at, r6.2.f_seed⟩ : S_spec_l00Src) 4).bind fun r9 => (if (0 : Int) ≤ (0 : Int) ∧ (0 : Int) ≤ (i64w (1 + r9.1)) ∧ (i64w (1 + r9.1)) ≤ (([1, 3, 9, 27]).length : Int) then (some ((([1, 3, 9, 27]).drop ((0 : Int)).toNat).take (((i64w (1 + r9.1))).toNat - ((0 : Int)).toNat), (⟨a1.f_code, r9.2.f_at, r9.2.f_seed⟩ : S_spec_l00Src))) else none)) else (if r6.1 = 1 then ((_spec_l00Src_pick.f N (⟨a1.f_code, r6.2.f_at, r6.2.f_seed⟩ : S_spec_l00Src) 5).bind fun r12 => (if (0 : Int) ≤ (0 : Int) ∧ (0 : Int) ≤ (i64w (1 + r12.1)) ∧ (i64w (1 + r12.1)) ≤ (([1, 2, 4, 8, 16]).length : Int) then (some ((([1, 2, 4, 8, 16]).drop ((0 : Int)).toNat).take (((i64w (1 + r12.1))).toNat - ((0 : Int)).toNat), (⟨a1.f_code, r12.2.f_at, r12.2.f_seed⟩ : S_spec_l00Src))) else none)) else ((_spec_l00Src_pick.f N (⟨a1.f_code, r6.2.f_at, r6.2.f_seed⟩ : S_spec_l00Src) 3).bind fun r15 => ((_spec_l00Src_pick.f N (⟨a1.f_code, r15.2.f_at, r15.2.f_seed⟩ : S_spec_l00Src) 5).bind fun r16 => ((rounds (fun s => spec_l01Drawn.b0 N a1 s.1 s.2.1 s.2.2.1 s.2.2.2.1 s.2.2.2.2) N (r16.2.f_at, r16.2.f_seed, ([] : List Int), i64w (1 + r15.1), i64w (1 + r16.1))).bind (Ex.fin fun s => spec_l01Drawn.a0 N a1 s.1 s.2.1 s.2.2))))))

def spec_A2Weights.f (N : Nat) (a1 : (List Int)) : Option (List Int) := (spec_l00From.f N a1).bind fun r3 => ((spec_l01Drawn.f N (⟨a1, r3.f_at, r3.f_seed⟩ : S_spec_l00Src)).bind fun r6 => (some r6.1))

def spec_A2Placing.b0 (N : Nat) (a3 : (List Int)) (a1 : (List Int)) (x19 : Int) (x20 : Int) (x23 : (List Int)) (x24 : Int) : Option (Bd (List Int) ((List Int)) (Int × Int × (List Int) × Int)) := if x24 < (a3.length : Int) then ((_spec_l00Src_pick.f N (⟨a1, x19, x20⟩ : S_spec_l00Src) 3).bind fun r25 => (if x23.length + ([i8w (i64w (r25.1 - 1))]).length ≤ 140737488355328 then (some (.next (r25.2.f_at, r25.2.f_seed, x23 ++ ([i8w (i64w (r25.1 - 1))]), i64w (x24 + 1)))) else none)) else (some (.out (.go x23)))
def spec_A2Placing.a0 (N : Nat) (x31 : (List Int)) : Option (List Int) := some x31
def spec_A2Placing.f (N : Nat) (a1 : (List Int)) (a3 : (List Int)) : Option (List Int) := (spec_l00From.f N a1).bind fun r5 => ((rounds (fun s => spec_A2Placing.b0 N a3 a1 s.1 s.2.1 s.2.2.1 s.2.2.2) N (r5.f_at, r5.f_seed, ([] : List Int), 0)).bind (Ex.fin fun s => spec_A2Placing.a0 N s))

def laws_a2At.f (N : Nat) (a1 : (List Int)) (a3 : Int) (a4 : Int) : Option Int := if a3 ≥ (a1.length : Int) then (some 0) else (if a4 < 1 then (some 0) else (if (0 : Int) ≤ a3 ∧ a3 < (a1.length : Int) then (if ¬ a4 = 0 then (some ((i64w (rdL a1 a3 0)).tmod a4)) else none) else none))

def impl_size_int16.f (N : Nat) (a1 : (List Int)) : Option Int := some (a1.length : Int)

def impl_within.f (N : Nat) (a1 : Int) (a2 : Int) (a3 : Int) : Option Bool := if a2 ≤ a1 then (some (decide (a1 ≤ a3))) else (some false)

def cmp_isNaN_int16.f (N : Nat) (a1 : Int) : Option Bool := some (a1 != a1)

def cmp_Less_int16.f (N : Nat) (a1 : Int) (a2 : Int) : Option Bool := (cmp_isNaN_int16.f N a1).bind fun r3 => (if r3 = true then ((cmp_isNaN_int16.f N a2).bind fun r4 => (if r4 = true then (some (decide (a1 < a2))) else (some true))) else (some (decide (a1 < a2))))

def slices_IsSorted_impl_Weights_int16.b0 (N : Nat) (a1 : (List Int)) (x3 : Int) : Option (Bd Bool (Unit) (Int)) := if x3 > 0 then (if (0 : Int) ≤ x3 ∧ x3 < (a1.length : Int) then (if (0 : Int) ≤ (i64w (x3 - 1)) ∧ (i64w (x3 - 1)) < (a1.length : Int) then ((cmp_Less_int16.f N (rdL a1 x3 0) (rdL a1 (i64w (x3 - 1)) 0)).bind fun r4 => (if r4 = true then (some (.out (.ret false))) else (some (.next (i64w (x3 - 1)))))) else none) else none) else (some (.out (.go ())))
def slices_IsSorted_impl_Weights_int16.a0 (N : Nat) : Option Bool := some true
def slices_IsSorted_impl_Weights_int16.f (N : Nat) (a1 : (List Int)) : Option Bool := (rounds (fun s => slices_IsSorted_impl_Weights_int16.b0 N a1 s) N (i64w ((a1.length : Int) - 1))).bind (Ex.fin fun s => slices_IsSorted_impl_Weights_int16.a0 N)

def _impl_Weights_sum.b0 (N : Nat) (a1 : (List Int)) (x3 : Int) (x4 : Int) : Option (Bd Int (Int) (Int × Int)) := if x4 < (a1.length : Int) then (if (0 : Int) ≤ x4 ∧ x4 < (a1.length : Int) then (some (.next (i64w (x3 + (i64w (rdL a1 x4 0))), i64w (x4 + 1)))) else none) else (some (.out (.go x3)))
def _impl_Weights_sum.a0 (N : Nat) (x6 : Int) : Option Int := some x6
def _impl_Weights_sum.f (N : Nat) (a1 : (List Int)) : Option Int := (rounds (fun s => _impl_Weights_sum.b0 N a1 s.1 s.2) N (0, 0)).bind (Ex.fin fun s => _impl_Weights_sum.a0 N s)

def impl_ValidWeights.f (N : Nat) (a1 : (List Int)) : Option Bool := (impl_size_int16.f N a1).bind fun r3 => ((impl_within.f N r3 1 16).bind fun r4 => (if r4 = true then ((slices_IsSorted_impl_Weights_int16.f N a1).bind fun r5 => (if r5 = true then (if (0 : Int) ≤ 0 ∧ 0 < (a1.length : Int) then (if (rdL a1 0 0) ≥ 1 then ((_impl_Weights_sum.f N a1).bind fun r7 => (some (decide (r7 ≤ 2000)))) else (some false)) else none) else (some false))) else (some false)))

def impl_ValidPlacing_1.f (N : Nat) (a1 : Int) : Option Bool := if a1 < (-1) then (some true) else (some (decide (a1 > 1)))

def slices_IndexFunc_impl_Placing_int8_at_impl_ValidPlacing_1.b0 (N : Nat) (a1 : (List Int)) (x3 : Int) : Option (Bd Int (Unit) (Int)) := if x3 < (a1.length : Int) then (if (0 : Int) ≤ x3 ∧ x3 < (a1.length : Int) then ((impl_ValidPlacing_1.f N (rdL a1 x3 0)).bind fun r5 => (if r5 = true then (some (.out (.ret x3))) else (some (.next (i64w (x3 + 1)))))) else none) else (some (.out (.go ())))
def slices_IndexFunc_impl_Placing_int8_at_impl_ValidPlacing_1.a0 (N : Nat) : Option Int := some (-1)
def slices_IndexFunc_impl_Placing_int8_at_impl_ValidPlacing_1.f (N : Nat) (a1 : (List Int)) : Option Int := (rounds (fun s => slices_IndexFunc_impl_Placing_int8_at_impl_ValidPlacing_1.b0 N a1 s) N 0).bind (Ex.fin fun s => slices_IndexFunc_impl_Placing_int8_at_impl_ValidPlacing_1.a0 N)

def slices_ContainsFunc_impl_Placing_int8_at_impl_ValidPlacing_1.f (N : Nat) (a1 : (List Int)) : Option Bool := (slices_IndexFunc_impl_Placing_int8_at_impl_ValidPlacing_1.f N a1).bind fun r3 => (some (decide (r3 ≥ 0)))

def impl_ValidPlacing.f (N : Nat) (a1 : (List Int)) (a3 : (List Int)) : Option Bool := (impl_ValidWeights.f N a1).bind fun r5 => (if r5 = true then (if (a3.length : Int) = (a1.length : Int) then ((slices_ContainsFunc_impl_Placing_int8_at_impl_ValidPlacing_1.f N a3).bind fun r6 => (some (!r6))) else (some false)) else (some false))

def _impl_Weights_pans.j2 (N : Nat) (x7 : Int) (x11 : Int) (x12 : Int) : Option (Bd (Int × Int) (Int × Int) (Int × Int × Int)) := some (.next (x11, x12, i64w (x7 + 1)))
def _impl_Weights_pans.b0 (N : Nat) (a3 : (List Int)) (a1 : (List Int)) (x5 : Int) (x6 : Int) (x7 : Int) : Option (Bd (Int × Int) (Int × Int) (Int × Int × Int)) := if x7 < (a3.length : Int) then (if (0 : Int) ≤ x7 ∧ x7 < (a3.length : Int) then (if (rdL a3 x7 0) = (-1) then (if (0 : Int) ≤ x7 ∧ x7 < (a1.length : Int) then (_impl_Weights_pans.j2 N x7 (i64w (x5 + (i64w (rdL a1 x7 0)))) x6) else none) else (if (rdL a3 x7 0) = 1 then (if (0 : Int) ≤ x7 ∧ x7 < (a1.length : Int) then (_impl_Weights_pans.j2 N x7 x5 (i64w (x6 + (i64w (rdL a1 x7 0))))) else none) else (_impl_Weights_pans.j2 N x7 x5 x6))) else none) else (some (.out (.go (x5, x6))))
def _impl_Weights_pans.a0 (N : Nat) (x13 : Int) (x14 : Int) : Option (Int × Int) := some (x13, x14)
def _impl_Weights_pans.f (N : Nat) (a1 : (List Int)) (a3 : (List Int)) : Option (Int × Int) := (rounds (fun s => _impl_Weights_pans.b0 N a3 a1 s.1 s.2.1 s.2.2) N (0, 0, 0)).bind (Ex.fin fun s => _impl_Weights_pans.a0 N s.1 s.2)

def impl_seen.f (N : Nat) (a1 : Int) (a2 : Int) : Option Int := if a1 > a2 then (some (-1)) else (if a1 < a2 then (some 1) else (some 0))

def impl_TiltOfArms.f (N : Nat) (a1 : (List Int)) (a3 : (List Int)) (a5 : Int) (a6 : Int) (a7 : Int) : Option (Int × Int) := (impl_ValidPlacing.f N a1 a3).bind fun r8 => (if r8 = true then ((impl_within.f N a5 0 1000000).bind fun r9 => (if r9 = true then ((impl_within.f N a6 1 100).bind fun r10 => (if r10 = true then ((impl_within.f N a7 1 100).bind fun r11 => (if r11 = true then ((_impl_Weights_pans.f N a1 a3).bind fun r12 => ((impl_seen.f N (i64w ((i64w (a5 + r12.1)) * a6)) (i64w (r12.2 * a7))).bind fun r13 => (some (r13, 0)))) else (some (0, 2)))) else (some (0, 2)))) else (some (0, 2)))) else (some (0, 1)))

def impl_Tilt.f (N : Nat) (a1 : (List Int)) (a3 : (List Int)) (a5 : Int) : Option (Int × Int) := (impl_TiltOfArms.f N a1 a3 a5 1 1).bind fun r6 => (some (r6.1, r6.2))

def impl_MassByTwo.j2 (N : Nat) (x7 : Int) (x8 : Int) : Option (Bd (Int × Int) (Int) (Int × Int)) := some (.next (x7, x8))
def impl_MassByTwo.b0 (N : Nat) (a1 : Int) (a2 : Int) (x5 : Int) (x6 : Int) : Option (Bd (Int × Int) (Int) (Int × Int)) := if x5 < x6 then (if (i64w ((i64w ((i64w (x5 + x6)).tdiv 2)) * (i64w ((i64w (x5 + x6)).tdiv 2)))) ≥ (i64w (a1 * a2)) then (impl_MassByTwo.j2 N x5 (i64w ((i64w (x5 + x6)).tdiv 2))) else (impl_MassByTwo.j2 N (i64w ((i64w ((i64w (x5 + x6)).tdiv 2)) + 1)) x6)) else (some (.out (.go x5)))
def impl_MassByTwo.a0 (N : Nat) (a1 : Int) (a2 : Int) (x9 : Int) : Option (Int × Int) := if (i64w (x9 * x9)) = (i64w (a1 * a2)) then (some (x9, 0)) else (some (0, 6))
def impl_MassByTwo.f (N : Nat) (a1 : Int) (a2 : Int) : Option (Int × Int) := (impl_within.f N a1 1 1000000).bind fun r3 => (if r3 = true then ((impl_within.f N a2 1 1000000).bind fun r4 => (if r4 = true then ((rounds (fun s => impl_MassByTwo.b0 N a1 a2 s.1 s.2) N (1, 1000000)).bind (Ex.fin fun s => impl_MassByTwo.a0 N a1 a2 s)) else (some (0, 2)))) else (some (0, 2)))

def spec_l00In.f (N : Nat) (a1 : Int) (a2 : Int) (a3 : Int) : Option Bool := if a1 ≥ a2 then (some (decide (a1 ≤ a3))) else (some false)

def spec_MassByTwo.j2 (N : Nat) (x7 : Int) (x8 : Int) : Option (Bd (Int × Int) (Int) (Int × Int)) := some (.next (x7, x8))
def spec_MassByTwo.b0 (N : Nat) (a1 : Int) (a2 : Int) (x5 : Int) (x6 : Int) : Option (Bd (Int × Int) (Int) (Int × Int)) := if x5 < x6 then (if (i64w ((i64w ((i64w (x5 + x6)).tdiv 2)) * (i64w ((i64w (x5 + x6)).tdiv 2)))) < (i64w (a1 * a2)) then (spec_MassByTwo.j2 N (i64w ((i64w ((i64w (x5 + x6)).tdiv 2)) + 1)) x6) else (spec_MassByTwo.j2 N x5 (i64w ((i64w (x5 + x6)).tdiv 2)))) else (some (.out (.go x5)))
def spec_MassByTwo.a0 (N : Nat) (a1 : Int) (a2 : Int) (x9 : Int) : Option (Int × Int) := if (i64w (x9 * x9)) = (i64w (a1 * a2)) then (some (x9, 0)) else (some (0, 6))
def spec_MassByTwo.f (N : Nat) (a1 : Int) (a2 : Int) : Option (Int × Int) := (spec_l00In.f N a1 1 1000000).bind fun r3 => (if r3 = true then ((spec_l00In.f N a2 1 1000000).bind fun r4 => (if r4 = true then ((rounds (fun s => spec_MassByTwo.b0 N a1 a2 s.1 s.2) N (1, 1000000)).bind (Ex.fin fun s => spec_MassByTwo.a0 N a1 a2 s)) else (some (0, 2)))) else (some (0, 2)))

def impl_divisor.b0 (N : Nat) (x3 : Int) (x4 : Int) : Option (Bd Int (Int) (Int × Int)) := if x4 = 0 then (some (.out (.go x3))) else (if ¬ x4 = 0 then (some (.next (x4, x3.tmod x4))) else none)
def impl_divisor.a0 (N : Nat) (x5 : Int) : Option Int := some x5
def impl_divisor.f (N : Nat) (a1 : Int) (a2 : Int) : Option Int := (rounds (fun s => impl_divisor.b0 N s.1 s.2) N (a1, a2)).bind (Ex.fin fun s => impl_divisor.a0 N s)

def impl_ArmsFrom.f (N : Nat) (a1 : Int) (a2 : Int) : Option (Int × Int × Int) := (impl_MassByTwo.f N a1 a2).bind fun r3 => (if r3.2 = 0 then ((impl_divisor.f N a1 r3.1).bind fun r4 => (if ¬ r4 = 0 then (if ¬ r4 = 0 then (some (i64w (a1.tdiv r4), i64w (r3.1.tdiv r4), 0)) else none) else none)) else (some (0, 0, r3.2)))

def spec_l01Gcd.body (N : Nat) (self : Int → Int → Option Int) (a1 : Int) (a2 : Int) : Option Int := if a2 = 0 then (some a1) else (if ¬ a2 = 0 then ((self a2 (a1.tmod a2)).bind fun r3 => (some r3)) else none)
def spec_l01Gcd.g (N : Nat) : Nat → Int → Int → Option Int
  | 0, _, _ => none
  | k + 1, a1, a2 => spec_l01Gcd.body N (spec_l01Gcd.g N k) a1 a2
def spec_l01Gcd.f (N : Nat) (a1 : Int) (a2 : Int) : Option Int := spec_l01Gcd.g N N a1 a2

def spec_ArmsFrom.f (N : Nat) (a1 : Int) (a2 : Int) : Option (Int × Int × Int) := (spec_MassByTwo.f N a1 a2).bind fun r3 => (if r3.2 = 0 then ((spec_l01Gcd.f N a1 r3.1).bind fun r4 => (if ¬ r4 = 0 then (if ¬ r4 = 0 then (some (i64w (a1.tdiv r4), i64w (r3.1.tdiv r4), 0)) else none) else none)) else (some (0, 0, r3.2)))

def laws_sign2.f (N : Nat) (a1 : Int) : Option Int := if a1 < 0 then (some (-1)) else (if a1 > 0 then (some 1) else (some 0))

def laws_FnArms.f (N : Nat) (a1 : (List Int)) (a3 : (List Int)) : Option Bool := (laws_a2Long.f N a1 a3).bind fun r5 => (if r5 = true then (some true) else ((spec_A2Weights.f N a1).bind fun r6 => ((spec_A2Placing.f N a3 r6).bind fun r9 => ((laws_a2At.f N a3 0 60).bind fun r12 => ((laws_a2At.f N a3 1 100).bind fun r13 => ((impl_Tilt.f N r6 r9 r12).bind fun r14 => ((impl_TiltOfArms.f N r6 r9 r12 (i64w (1 + r13)) (i64w (1 + r13))).bind fun r15 => (if r14.2 = 0 then (if r15.2 = 0 then (if r14.1 = r15.1 then ((laws_a2At.f N a1 0 30).bind fun r16 => ((laws_a2At.f N a1 1 30).bind fun r17 => ((laws_a2At.f N a3 2 20).bind fun r18 => (if ¬ (i64w (1 + r17)) = 0 then (if ¬ (i64w (1 + r16)) = 0 then ((impl_MassByTwo.f N (i64w ((i64w ((i64w ((i64w ((i64w (1 + r16)) * (i64w (1 + r17)))) * (i64w (1 + r18)))).tdiv (i64w (1 + r17)))) * (i64w (1 + r16)))) (i64w ((i64w ((i64w ((i64w ((i64w (1 + r16)) * (i64w (1 + r17)))) * (i64w (1 + r18)))).tdiv (i64w (1 + r16)))) * (i64w (1 + r17))))).bind fun r19 => ((spec_MassByTwo.f N (i64w ((i64w ((i64w ((i64w ((i64w (1 + r16)) * (i64w (1 + r17)))) * (i64w (1 + r18)))).tdiv (i64w (1 + r17)))) * (i64w (1 + r16)))) (i64w ((i64w ((i64w ((i64w ((i64w (1 + r16)) * (i64w (1 + r17)))) * (i64w (1 + r18)))).tdiv (i64w (1 + r16)))) * (i64w (1 + r17))))).bind fun r20 => ((impl_ArmsFrom.f N (i64w ((i64w ((i64w ((i64w ((i64w (1 + r16)) * (i64w (1 + r17)))) * (i64w (1 + r18)))).tdiv (i64w (1 + r17)))) * (i64w (1 + r16)))) (i64w ((i64w ((i64w ((i64w ((i64w (1 + r16)) * (i64w (1 + r17)))) * (i64w (1 + r18)))).tdiv (i64w (1 + r16)))) * (i64w (1 + r17))))).bind fun r21 => ((spec_ArmsFrom.f N (i64w ((i64w ((i64w ((i64w ((i64w (1 + r16)) * (i64w (1 + r17)))) * (i64w (1 + r18)))).tdiv (i64w (1 + r17)))) * (i64w (1 + r16)))) (i64w ((i64w ((i64w ((i64w ((i64w (1 + r16)) * (i64w (1 + r17)))) * (i64w (1 + r18)))).tdiv (i64w (1 + r16)))) * (i64w (1 + r17))))).bind fun r22 => (if r19.2 = r20.2 then (if r19.2 = 0 then (if r19.1 = r20.1 then (if r20.1 = (i64w ((i64w ((i64w (1 + r16)) * (i64w (1 + r17)))) * (i64w (1 + r18)))) then (if r21.2.2 = r22.2.2 then (if r21.2.2 = 0 then (if r21.1 = r22.1 then (if r21.2.1 = r22.2.1 then (if (i64w (r22.1 * (i64w (1 + r17)))) = (i64w (r22.2.1 * (i64w (1 + r16)))) then (if (i64w ((i64w ((i64w ((i64w ((i64w (1 + r16)) * (i64w (1 + r17)))) * (i64w (1 + r18)))).tdiv (i64w (1 + r17)))) * (i64w (1 + r16)))) > 2000 then (some true) else ((impl_TiltOfArms.f N ([i16w (i64w ((i64w ((i64w ((i64w ((i64w (1 + r16)) * (i64w (1 + r17)))) * (i64w (1 + r18)))).tdiv (i64w (1 + r17)))) * (i64w (1 + r16))))]) ([1]) (i64w ((i64w ((i64w (1 + r16)) * (i64w (1 + r17)))) * (i64w (1 + r18)))) (i64w (1 + r16)) (i64w (1 + r17))).bind fun r27 => (if r27.2 = 0 then ((laws_sign2.f N (i64w ((i64w ((i64w ((i64w ((i64w ((i64w ((i64w (1 + r16)) * (i64w (1 + r17)))) * (i64w (1 + r18)))).tdiv (i64w (1 + r17)))) * (i64w (1 + r16)))) * (i64w (1 + r17)))) - (i64w ((i64w ((i64w ((i64w (1 + r16)) * (i64w (1 + r17)))) * (i64w (1 + r18)))) * (i64w (1 + r16))))))).bind fun r28 => (some (r27.1 == r28))) else (some false)))) else (some false)) else (some false)) else (some false)) else (some false)) else (some false)) else (some false)) else (some false)) else (some false)) else (some false)))))) else none) else none)))) else (some false)) else (some false)) else (some false)))))))))

end Go.Proofs.YtpphepkapccjeaaX
