/- The plain functions, printed by gen.py. -/
import Derived.Test.YtioefkcldfjobaaXPure
import Derived.Test.YtioefkcldfjobaaXDem
namespace Go.Proofs.YtioefkcldfjobaaX
open Go
set_option linter.unusedVariables false
structure S_impl_Puzzle where
  f_Jugs : (List Int)
  f_Start : (Ar Int 4)
  f_Tap : Bool
  deriving DecidableEq
def z_S_impl_Puzzle : S_impl_Puzzle := ⟨[], (Ar.rep 4 0), false⟩
instance : Inhabited S_impl_Puzzle := ⟨z_S_impl_Puzzle⟩
structure S_impl_moment where
  f_time : Int
  f_tops : (Ar Int 4)
  deriving DecidableEq
def z_S_impl_moment : S_impl_moment := ⟨0, (Ar.rep 4 0)⟩
instance : Inhabited S_impl_moment := ⟨z_S_impl_moment⟩

def laws_toGlasses.b0 (N : Nat) (a1 : (List Int)) (x8 : (List Int)) (x9 : Int) : Option (Bd (List Int) ((List Int)) ((List Int) × Int)) := if x9 < (a1.length : Int) then (if (0 : Int) ≤ x9 ∧ x9 < (a1.length : Int) then (if (0 : Int) ≤ x9 ∧ x9 < (x8.length : Int) then (some (.next (stL x8 x9 (rdL a1 x9 0), i64w (x9 + 1)))) else none) else none) else (some (.out (.go x8)))
def laws_toGlasses.a0 (N : Nat) (x12 : (List Int)) : Option (List Int) := some x12
def laws_toGlasses.f (N : Nat) (a1 : (List Int)) : Option (List Int) := if (0 : Int) ≤ (a1.length : Int) ∧ (a1.length : Int) ≤ 140737488355328 then ((rounds (fun s => laws_toGlasses.b0 N a1 s.1 s.2) N (List.replicate ((a1.length : Int)).toNat (0 : Int), 0)).bind (Ex.fin fun s => laws_toGlasses.a0 N s)) else none

def laws_toTops.b0 (N : Nat) (a1 : (Ar Int 4)) (x9 : (Ar Int 4)) (x10 : Int) : Option (Bd (Ar Int 4) ((Ar Int 4)) ((Ar Int 4) × Int)) := if x10 < 4 then (if (0 : Int) ≤ x10 ∧ x10 < 4 then (if (0 : Int) ≤ x10 ∧ x10 < 4 then (some (.next (x9.set x10 (a1.get x10 0), i64w (x10 + 1)))) else none) else none) else (some (.out (.go x9)))
def laws_toTops.a0 (N : Nat) (x11 : (Ar Int 4)) : Option (Ar Int 4) := some x11
def laws_toTops.f (N : Nat) (a1 : (Ar Int 4)) : Option (Ar Int 4) := (rounds (fun s => laws_toTops.b0 N a1 s.1 s.2) N ((Ar.rep 4 0), 0)).bind (Ex.fin fun s => laws_toTops.a0 N s)

def spec_l00In.f (N : Nat) (a1 : Int) (a2 : Int) (a3 : Int) : Option Bool := if a1 ≥ a2 then (some (decide (a1 ≤ a3))) else (some false)

def spec_l07States.b0 (N : Nat) (a1 : (List Int)) (x4 : Int) (x5 : Int) : Option (Bd Int (Int) (Int × Int)) := if x5 < (a1.length : Int) then (if (0 : Int) ≤ x5 ∧ x5 < (a1.length : Int) then (if (rdL a1 x5 0) < 1 then (some (.out (.ret 0))) else (if (0 : Int) ≤ x5 ∧ x5 < (a1.length : Int) then (if (rdL a1 x5 0) > 40 then (some (.out (.ret 0))) else (if (0 : Int) ≤ x5 ∧ x5 < (a1.length : Int) then (some (.next (i64w (x4 * (i64w ((i64w (rdL a1 x5 0)) + 1))), i64w (x5 + 1)))) else none)) else none)) else none) else (some (.out (.go x4)))
def spec_l07States.a0 (N : Nat) (x9 : Int) : Option Int := if x9 > 3000 then (some 0) else (some x9)
def spec_l07States.f (N : Nat) (a1 : (List Int)) : Option Int := (spec_l00In.f N (a1.length : Int) 1 4).bind fun r3 => (if r3 = true then ((rounds (fun s => spec_l07States.b0 N a1 s.1 s.2) N (1, 0)).bind (Ex.fin fun s => spec_l07States.a0 N s)) else (some 0))

def spec_l07Ok.j2 (N : Nat) (x7 : Int) (a3 : (Ar Int 4)) (x9 : Int) : Option (Bd Bool (Unit) (Int)) := if (0 : Int) ≤ x7 ∧ x7 < 4 then (if (a3.get x7 0) < 0 then (some (.out (.ret false))) else (if (0 : Int) ≤ x7 ∧ x7 < 4 then (if (a3.get x7 0) > x9 then (some (.out (.ret false))) else (some (.next (i64w (x7 + 1))))) else none)) else none
def spec_l07Ok.b0 (N : Nat) (a1 : (List Int)) (a3 : (Ar Int 4)) (x7 : Int) : Option (Bd Bool (Unit) (Int)) := if x7 < 4 then (if x7 < (a1.length : Int) then (if (0 : Int) ≤ x7 ∧ x7 < (a1.length : Int) then (spec_l07Ok.j2 N x7 a3 (rdL a1 x7 0)) else none) else (spec_l07Ok.j2 N x7 a3 0)) else (some (.out (.go ())))
def spec_l07Ok.a0 (N : Nat) : Option Bool := some true
def spec_l07Ok.f (N : Nat) (a1 : (List Int)) (a3 : (Ar Int 4)) : Option Bool := (spec_l07States.f N a1).bind fun r6 => (if r6 = 0 then (some false) else ((rounds (fun s => spec_l07Ok.b0 N a1 a3 s) N 0).bind (Ex.fin fun s => spec_l07Ok.a0 N)))

def spec_l07Asked.f (N : Nat) (a1 : (List Int)) (a3 : (Ar Int 4)) (a4 : Int) : Option Int := (spec_l07Ok.f N a1 a3).bind fun r7 => (if r7 = true then ((spec_l00In.f N a4 0 120).bind fun r8 => (if r8 = true then (some 0) else (some 2))) else (some 1))

def spec_l07Index.b0 (N : Nat) (a1 : (List Int)) (a3 : (Ar Int 4)) (x6 : Int) (x7 : Int) : Option (Bd Int (Int) (Int × Int)) := if x7 ≥ 0 then (if (0 : Int) ≤ x7 ∧ x7 < (a1.length : Int) then (if (0 : Int) ≤ x7 ∧ x7 < 4 then (some (.next (i64w ((i64w (x6 * (i64w ((i64w (rdL a1 x7 0)) + 1)))) + (i64w (a3.get x7 0))), i64w (x7 - 1)))) else none) else none) else (some (.out (.go x6)))
def spec_l07Index.a0 (N : Nat) (x8 : Int) : Option Int := some x8
def spec_l07Index.f (N : Nat) (a1 : (List Int)) (a3 : (Ar Int 4)) : Option Int := (rounds (fun s => spec_l07Index.b0 N a1 a3 s.1 s.2) N (0, i64w ((a1.length : Int) - 1))).bind (Ex.fin fun s => spec_l07Index.a0 N s)

def spec_l07At.b0 (N : Nat) (a1 : (List Int)) (x11 : Int) (x12 : (Ar Int 4)) (x13 : Int) : Option (Bd (Ar Int 4) ((Ar Int 4)) (Int × (Ar Int 4) × Int)) := if x13 < (a1.length : Int) then (if (0 : Int) ≤ x13 ∧ x13 < (a1.length : Int) then (if ¬ (i64w ((i64w (rdL a1 x13 0)) + 1)) = 0 then (if (0 : Int) ≤ x13 ∧ x13 < 4 then (if ¬ (i64w ((i64w (rdL a1 x13 0)) + 1)) = 0 then (some (.next (i64w (x11.tdiv (i64w ((i64w (rdL a1 x13 0)) + 1))), x12.set x13 (i16w (x11.tmod (i64w ((i64w (rdL a1 x13 0)) + 1)))), i64w (x13 + 1)))) else none) else none) else none) else none) else (some (.out (.go x12)))
def spec_l07At.a0 (N : Nat) (x15 : (Ar Int 4)) : Option (Ar Int 4) := some x15
def spec_l07At.f (N : Nat) (a1 : (List Int)) (a3 : Int) : Option (Ar Int 4) := (rounds (fun s => spec_l07At.b0 N a1 s.1 s.2.1 s.2.2) N (a3, (Ar.rep 4 0), 0)).bind (Ex.fin fun s => spec_l07At.a0 N s)

def spec_l07Sets.f (N : Nat) (a1 : (List Int)) : Option Int := if (0 : Int) ≤ (u64w (a1.length : Int)) then (some (shlI .i64 1 (u64w (a1.length : Int)))) else none

def spec_l07Turn.j2 (N : Nat) (x12 : Int) (x13 : (Ar Int 4)) : Option (Bd (Ar Int 4) ((Ar Int 4)) ((Ar Int 4) × Int)) := some (.next (x13, i64w (x12 + 1)))
def spec_l07Turn.b0 (N : Nat) (a1 : (List Int)) (a4 : Int) (x11 : (Ar Int 4)) (x12 : Int) : Option (Bd (Ar Int 4) ((Ar Int 4)) ((Ar Int 4) × Int)) := if x12 < (a1.length : Int) then (if (0 : Int) ≤ (u64w x12) then (if ((shrI .u8 a4 (u64w x12)).tmod 2) = 1 then (if (0 : Int) ≤ x12 ∧ x12 < (a1.length : Int) then (if (0 : Int) ≤ x12 ∧ x12 < 4 then (if (0 : Int) ≤ x12 ∧ x12 < 4 then (spec_l07Turn.j2 N x12 (x11.set x12 (i16w ((rdL a1 x12 0) - (x11.get x12 0))))) else none) else none) else none) else (spec_l07Turn.j2 N x12 x11)) else none) else (some (.out (.go x11)))
def spec_l07Turn.a0 (N : Nat) (x14 : (Ar Int 4)) : Option (Ar Int 4) := some x14
def spec_l07Turn.f (N : Nat) (a1 : (List Int)) (a3 : (Ar Int 4)) (a4 : Int) : Option (Ar Int 4) := (rounds (fun s => spec_l07Turn.b0 N a1 a4 s.1 s.2) N (a3, 0)).bind (Ex.fin fun s => spec_l07Turn.a0 N s)

def spec_l07Wait.j5 (N : Nat) (x7 : Int) (x8 : Int) : Option (Bd ((Ar Int 4) × Int) (Int) (Int × Int)) := some (.next (x8, i64w (x7 + 1)))
def spec_l07Wait.b0 (N : Nat) (a1 : (Ar Int 4)) (x6 : Int) (x7 : Int) : Option (Bd ((Ar Int 4) × Int) (Int) (Int × Int)) := if x7 < 4 then (if (0 : Int) ≤ x7 ∧ x7 < 4 then (if (a1.get x7 0) > 0 then (if x6 = 0 then (if (0 : Int) ≤ x7 ∧ x7 < 4 then (spec_l07Wait.j5 N x7 (a1.get x7 0)) else none) else (if (0 : Int) ≤ x7 ∧ x7 < 4 then (if (a1.get x7 0) < x6 then (if (0 : Int) ≤ x7 ∧ x7 < 4 then (spec_l07Wait.j5 N x7 (a1.get x7 0)) else none) else (spec_l07Wait.j5 N x7 x6)) else none)) else (spec_l07Wait.j5 N x7 x6)) else none) else (some (.out (.go x6)))
def spec_l07Wait.j4 (N : Nat) (x13 : Int) (x14 : (Ar Int 4)) : Option (Bd ((Ar Int 4) × Int) ((Ar Int 4)) ((Ar Int 4) × Int)) := some (.next (x14, i64w (x13 + 1)))
def spec_l07Wait.b2 (N : Nat) (x9 : Int) (x12 : (Ar Int 4)) (x13 : Int) : Option (Bd ((Ar Int 4) × Int) ((Ar Int 4)) ((Ar Int 4) × Int)) := if x13 < 4 then (if (0 : Int) ≤ x13 ∧ x13 < 4 then (if (x12.get x13 0) > 0 then (if (0 : Int) ≤ x13 ∧ x13 < 4 then (if (0 : Int) ≤ x13 ∧ x13 < 4 then (spec_l07Wait.j4 N x13 (x12.set x13 (i16w ((x12.get x13 0) - x9)))) else none) else none) else (spec_l07Wait.j4 N x13 x12)) else none) else (some (.out (.go x12)))
def spec_l07Wait.a2 (N : Nat) (x9 : Int) (x15 : (Ar Int 4)) : Option ((Ar Int 4) × Int) := some (x15, i64w x9)
def spec_l07Wait.a0 (N : Nat) (a1 : (Ar Int 4)) (x9 : Int) : Option ((Ar Int 4) × Int) := (rounds (fun s => spec_l07Wait.b2 N x9 s.1 s.2) N (a1, 0)).bind (Ex.fin fun s => spec_l07Wait.a2 N x9 s)
def spec_l07Wait.f (N : Nat) (a1 : (Ar Int 4)) : Option ((Ar Int 4) × Int) := (rounds (fun s => spec_l07Wait.b0 N a1 s.1 s.2) N (0, 0)).bind (Ex.fin fun s => spec_l07Wait.a0 N a1 s)

def spec_PlansFor.j7 (N : Nat) (x55 : Int) (x85 : (List Int)) : Option (Bd (Int × Int) ((List Int)) ((List Int) × Int)) := some (.next (x85, i64w (x55 + 1)))
def spec_PlansFor.j10 (N : Nat) (x71 : Int) (x79 : (List Int)) : Option (Bd (Int × Int) ((List Int)) ((List Int) × Int)) := some (.next (x79, i64w (x71 + 1)))
def spec_PlansFor.b8 (N : Nat) (a1 : (List Int)) (r57 : (Ar Int 4)) (r11 : Int) (x55 : Int) (a4 : Int) (x18 : (List Int)) (x70 : (List Int)) (x71 : Int) : Option (Bd (Int × Int) ((List Int)) ((List Int) × Int)) := (spec_l07Sets.f N a1).bind fun r72 => (if x71 < r72 then ((spec_l07Turn.f N a1 r57 (u8w x71)).bind fun r73 => ((spec_l07Wait.f N r73).bind fun r74 => (if r74.2 > 0 then (if ¬ r11 = 0 then (if (i64w ((i64w (x55.tdiv r11)) + r74.2)) ≤ a4 then (if ¬ r11 = 0 then ((spec_l07Index.f N a1 r74.1).bind fun r77 => (if (0 : Int) ≤ (i64w ((i64w ((i64w ((i64w (x55.tdiv r11)) + r74.2)) * r11)) + r77)) ∧ (i64w ((i64w ((i64w ((i64w (x55.tdiv r11)) + r74.2)) * r11)) + r77)) < (x70.length : Int) then (if (0 : Int) ≤ x55 ∧ x55 < (x18.length : Int) then (if (0 : Int) ≤ (i64w ((i64w ((i64w ((i64w (x55.tdiv r11)) + r74.2)) * r11)) + r77)) ∧ (i64w ((i64w ((i64w ((i64w (x55.tdiv r11)) + r74.2)) * r11)) + r77)) < (x70.length : Int) then (spec_PlansFor.j10 N x71 (stL x70 (i64w ((i64w ((i64w ((i64w (x55.tdiv r11)) + r74.2)) * r11)) + r77)) (i64w ((rdL x70 (i64w ((i64w ((i64w ((i64w (x55.tdiv r11)) + r74.2)) * r11)) + r77)) 0) + (rdL x18 x55 0))))) else none) else none) else none)) else none) else (spec_PlansFor.j10 N x71 x70)) else none) else (spec_PlansFor.j10 N x71 x70)))) else (some (.out (.go x70))))
def spec_PlansFor.a8 (N : Nat) (x55 : Int) (x82 : (List Int)) : Option (Bd (Int × Int) ((List Int)) ((List Int) × Int)) := spec_PlansFor.j7 N x55 x82
def spec_PlansFor.b5 (N : Nat) (x18 : (List Int)) (r11 : Int) (a1 : (List Int)) (a4 : Int) (x54 : (List Int)) (x55 : Int) : Option (Bd (Int × Int) ((List Int)) ((List Int) × Int)) := if x55 < (x18.length : Int) then (if (0 : Int) ≤ x55 ∧ x55 < (x18.length : Int) then (if (rdL x18 x55 0) = 0 then (spec_PlansFor.j7 N x55 x54) else (if ¬ r11 = 0 then ((spec_l07At.f N a1 (x55.tmod r11)).bind fun r57 => ((rounds (fun s => spec_PlansFor.b8 N a1 r57 r11 x55 a4 x18 s.1 s.2) N (x54, 0)).bind (Ex.finB fun s => spec_PlansFor.a8 N x55 s))) else none)) else none) else (some (.out (.go x54)))
def spec_PlansFor.a5 (N : Nat) (x19 : Int) (x87 : (List Int)) : Option (Bd (Int × Int) ((List Int)) ((List Int) × Int)) := some (.next (x87, i64w (x19 + 1)))
def spec_PlansFor.b1 (N : Nat) (a5 : Int) (r11 : Int) (a4 : Int) (a1 : (List Int)) (x18 : (List Int)) (x19 : Int) : Option (Bd (Int × Int) ((List Int)) ((List Int) × Int)) := if x19 < a5 then (if (0 : Int) ≤ i64w (r11 * (i64w (a4 + 1))) ∧ i64w (r11 * (i64w (a4 + 1))) ≤ 35184372088832 then ((rounds (fun s => spec_PlansFor.b5 N x18 r11 a1 a4 s.1 s.2) N (List.replicate ((i64w (r11 * (i64w (a4 + 1))))).toNat (0 : Int), 0)).bind (Ex.finB fun s => spec_PlansFor.a5 N x19 s)) else none) else (some (.out (.go x18)))
def spec_PlansFor.b3 (N : Nat) (r11 : Int) (a4 : Int) (x90 : (List Int)) (x92 : Int) (x93 : Int) : Option (Bd (Int × Int) (Int) (Int × Int)) := if x93 < r11 then (if (0 : Int) ≤ (i64w ((i64w (a4 * r11)) + x93)) ∧ (i64w ((i64w (a4 * r11)) + x93)) < (x90.length : Int) then (some (.next (i64w (x92 + (rdL x90 (i64w ((i64w (a4 * r11)) + x93)) 0)), i64w (x93 + 1)))) else none) else (some (.out (.go x92)))
def spec_PlansFor.a3 (N : Nat) (x95 : Int) : Option (Int × Int) := some (x95, 0)
def spec_PlansFor.a1 (N : Nat) (r11 : Int) (a4 : Int) (x90 : (List Int)) : Option (Int × Int) := (rounds (fun s => spec_PlansFor.b3 N r11 a4 x90 s.1 s.2) N (0, 0)).bind (Ex.fin fun s => spec_PlansFor.a3 N s)
def spec_PlansFor.j0 (N : Nat) (a1 : (List Int)) (a4 : Int) (a3 : (Ar Int 4)) (a5 : Int) (x10 : Int) : Option (Int × Int) := if x10 = 0 then ((spec_l07States.f N a1).bind fun r11 => (if (0 : Int) ≤ i64w (r11 * (i64w (a4 + 1))) ∧ i64w (r11 * (i64w (a4 + 1))) ≤ 35184372088832 then ((spec_l07Index.f N a1 a3).bind fun r14 => (if (0 : Int) ≤ r14 ∧ r14 < ((List.replicate ((i64w (r11 * (i64w (a4 + 1))))).toNat (0 : Int)).length : Int) then ((rounds (fun s => spec_PlansFor.b1 N a5 r11 a4 a1 s.1 s.2) N (stL (List.replicate ((i64w (r11 * (i64w (a4 + 1))))).toNat (0 : Int)) r14 1, 0)).bind (Ex.fin fun s => spec_PlansFor.a1 N r11 a4 s)) else none)) else none)) else (some (0, x10))
def spec_PlansFor.f (N : Nat) (a1 : (List Int)) (a3 : (Ar Int 4)) (a4 : Int) (a5 : Int) : Option (Int × Int) := (spec_l07Asked.f N a1 a3 a4).bind fun r8 => (if r8 = 0 then ((spec_l00In.f N a5 0 12).bind fun r9 => (if r9 = true then (spec_PlansFor.j0 N a1 a4 a3 a5 r8) else (spec_PlansFor.j0 N a1 a4 a3 a5 2))) else (spec_PlansFor.j0 N a1 a4 a3 a5 r8))

def impl_size_int16.f (N : Nat) (a1 : (List Int)) : Option Int := some (a1.length : Int)

def impl_within.f (N : Nat) (a1 : Int) (a2 : Int) (a3 : Int) : Option Bool := if a2 ≤ a1 then (some (decide (a1 ≤ a3))) else (some false)

def impl_ValidGlasses_1.f (N : Nat) (a1 : Int) : Option Bool := if a1 < 1 then (some true) else (some (decide (a1 > 40)))

def slices_IndexFunc_impl_Glasses_int16_at_impl_ValidGlasses_1.b0 (N : Nat) (a1 : (List Int)) (x3 : Int) : Option (Bd Int (Unit) (Int)) := if x3 < (a1.length : Int) then (if (0 : Int) ≤ x3 ∧ x3 < (a1.length : Int) then ((impl_ValidGlasses_1.f N (rdL a1 x3 0)).bind fun r5 => (if r5 = true then (some (.out (.ret x3))) else (some (.next (i64w (x3 + 1)))))) else none) else (some (.out (.go ())))
def slices_IndexFunc_impl_Glasses_int16_at_impl_ValidGlasses_1.a0 (N : Nat) : Option Int := some (-1)
def slices_IndexFunc_impl_Glasses_int16_at_impl_ValidGlasses_1.f (N : Nat) (a1 : (List Int)) : Option Int := (rounds (fun s => slices_IndexFunc_impl_Glasses_int16_at_impl_ValidGlasses_1.b0 N a1 s) N 0).bind (Ex.fin fun s => slices_IndexFunc_impl_Glasses_int16_at_impl_ValidGlasses_1.a0 N)

def slices_ContainsFunc_impl_Glasses_int16_at_impl_ValidGlasses_1.f (N : Nat) (a1 : (List Int)) : Option Bool := (slices_IndexFunc_impl_Glasses_int16_at_impl_ValidGlasses_1.f N a1).bind fun r3 => (some (decide (r3 ≥ 0)))

def _impl_Glasses_many.b0 (N : Nat) (a1 : (List Int)) (x3 : Int) (x4 : Int) : Option (Bd Int (Int) (Int × Int)) := if x4 < (a1.length : Int) then (if (0 : Int) ≤ x4 ∧ x4 < (a1.length : Int) then (some (.next (i64w (x3 * (i64w ((i64w (rdL a1 x4 0)) + 1))), i64w (x4 + 1)))) else none) else (some (.out (.go x3)))
def _impl_Glasses_many.a0 (N : Nat) (x6 : Int) : Option Int := some x6
def _impl_Glasses_many.f (N : Nat) (a1 : (List Int)) : Option Int := (rounds (fun s => _impl_Glasses_many.b0 N a1 s.1 s.2) N (1, 0)).bind (Ex.fin fun s => _impl_Glasses_many.a0 N s)

def impl_ValidGlasses.f (N : Nat) (a1 : (List Int)) : Option Bool := (impl_size_int16.f N a1).bind fun r3 => ((impl_within.f N r3 1 4).bind fun r4 => (if r4 = true then ((slices_ContainsFunc_impl_Glasses_int16_at_impl_ValidGlasses_1.f N a1).bind fun r5 => (if r5 = true then (some false) else ((_impl_Glasses_many.f N a1).bind fun r6 => (some (decide (r6 ≤ 3000)))))) else (some false)))

def _impl_Puzzle_holds.j2 (N : Nat) (a4 : (Ar Int 4)) (x9 : Int) (x11 : Int) : Option (Bd Bool (Unit) (Int)) := if (a4.get x9 0) < 0 then (some (.out (.ret false))) else (if (a4.get x9 0) > x11 then (some (.out (.ret false))) else (some (.next (i64w (x9 + 1)))))
def _impl_Puzzle_holds.b0 (N : Nat) (a1 : S_impl_Puzzle) (a4 : (Ar Int 4)) (x9 : Int) : Option (Bd Bool (Unit) (Int)) := if x9 < 4 then (if (0 : Int) ≤ x9 ∧ x9 < 4 then (if x9 < (a1.f_Jugs.length : Int) then (if (0 : Int) ≤ x9 ∧ x9 < (a1.f_Jugs.length : Int) then (_impl_Puzzle_holds.j2 N a4 x9 (rdL a1.f_Jugs x9 0)) else none) else (_impl_Puzzle_holds.j2 N a4 x9 0)) else none) else (some (.out (.go ())))
def _impl_Puzzle_holds.a0 (N : Nat) : Option Bool := some true
def _impl_Puzzle_holds.f (N : Nat) (a1 : S_impl_Puzzle) (a4 : (Ar Int 4)) : Option Bool := (rounds (fun s => _impl_Puzzle_holds.b0 N a1 a4 s) N 0).bind (Ex.fin fun s => _impl_Puzzle_holds.a0 N)

def impl_ValidTops.f (N : Nat) (a1 : (List Int)) (a3 : (Ar Int 4)) : Option Bool := (impl_ValidGlasses.f N a1).bind fun r6 => (if r6 = true then ((_impl_Puzzle_holds.f N (⟨a1, (Ar.rep 4 0), false⟩ : S_impl_Puzzle) a3).bind fun r7 => (some r7)) else (some false))

def impl_unless.f (N : Nat) (a1 : Bool) (a2 : Int) : Option Int := if a1 = true then (some 0) else (some a2)

def impl_timeCode.f (N : Nat) (a1 : (List Int)) (a3 : (Ar Int 4)) (a4 : Int) : Option Int := (impl_ValidTops.f N a1 a3).bind fun r7 => (if r7 = true then ((impl_within.f N a4 0 120).bind fun r8 => ((impl_unless.f N r8 2).bind fun r9 => (some r9))) else (some 1))

def _impl_Glasses_turned.j2 (N : Nat) (x13 : Int) (x15 : (Ar Int 4)) : Option (Bd (Ar Int 4) ((Ar Int 4)) ((Ar Int 4) × Int)) := some (.next (x15, i64w (x13 + 1)))
def _impl_Glasses_turned.b0 (N : Nat) (a1 : (List Int)) (a4 : Int) (x12 : (Ar Int 4)) (x13 : Int) : Option (Bd (Ar Int 4) ((Ar Int 4)) ((Ar Int 4) × Int)) := if x13 < (a1.length : Int) then (if (0 : Int) ≤ x13 ∧ x13 < (a1.length : Int) then (if (0 : Int) ≤ x13 then (if (bAnd .u8 (shrI .u8 a4 x13) 1) = 1 then (if (0 : Int) ≤ x13 ∧ x13 < 4 then (if (0 : Int) ≤ x13 ∧ x13 < 4 then (_impl_Glasses_turned.j2 N x13 (x12.set x13 (i16w ((rdL a1 x13 0) - (x12.get x13 0))))) else none) else none) else (_impl_Glasses_turned.j2 N x13 x12)) else none) else none) else (some (.out (.go x12)))
def _impl_Glasses_turned.a0 (N : Nat) (x16 : (Ar Int 4)) : Option (Ar Int 4) := some x16
def _impl_Glasses_turned.f (N : Nat) (a1 : (List Int)) (a3 : (Ar Int 4)) (a4 : Int) : Option (Ar Int 4) := (rounds (fun s => _impl_Glasses_turned.b0 N a1 a4 s.1 s.2) N (a3, 0)).bind (Ex.fin fun s => _impl_Glasses_turned.a0 N s)

def impl_wait.j4 (N : Nat) (x7 : Int) (x8 : Int) : Option (Bd ((Ar Int 4) × Int) (Int) (Int × Int)) := some (.next (x8, i64w (x7 + 1)))
def impl_wait.b0 (N : Nat) (a1 : (Ar Int 4)) (x6 : Int) (x7 : Int) : Option (Bd ((Ar Int 4) × Int) (Int) (Int × Int)) := if x7 < 4 then (if (0 : Int) ≤ x7 ∧ x7 < 4 then (if (a1.get x7 0) > 0 then (if x6 = 0 then (impl_wait.j4 N x7 (a1.get x7 0)) else (if (a1.get x7 0) < x6 then (impl_wait.j4 N x7 (a1.get x7 0)) else (impl_wait.j4 N x7 x6))) else (impl_wait.j4 N x7 x6)) else none) else (some (.out (.go x6)))
def impl_wait.b2 (N : Nat) (x9 : Int) (x11 : (Ar Int 4)) (x12 : Int) : Option (Bd ((Ar Int 4) × Int) ((Ar Int 4)) ((Ar Int 4) × Int)) := if x12 < 4 then (if (0 : Int) ≤ x12 ∧ x12 < 4 then (if (0 : Int) ≤ x12 ∧ x12 < 4 then (some (.next (x11.set x12 (mxI (i16w ((x11.get x12 0) - x9)) 0), i64w (x12 + 1)))) else none) else none) else (some (.out (.go x11)))
def impl_wait.a2 (N : Nat) (x9 : Int) (x13 : (Ar Int 4)) : Option ((Ar Int 4) × Int) := some (x13, i64w x9)
def impl_wait.a0 (N : Nat) (a1 : (Ar Int 4)) (x9 : Int) : Option ((Ar Int 4) × Int) := (rounds (fun s => impl_wait.b2 N x9 s.1 s.2) N (a1, 0)).bind (Ex.fin fun s => impl_wait.a2 N x9 s)
def impl_wait.f (N : Nat) (a1 : (Ar Int 4)) : Option ((Ar Int 4) × Int) := (rounds (fun s => impl_wait.b0 N a1 s.1 s.2) N (0, 0)).bind (Ex.fin fun s => impl_wait.a0 N a1 s)

def impl_PlansFor_1.f (N : Nat) (a1 : Int) (a2 : S_impl_moment) (a3 : (List (S_impl_moment × Int))) (a8 : Int) : Option ((List (S_impl_moment × Int)) × (List (S_impl_moment × Int)) × Int) := some (mSet a3 a2 (i64w ((mGet a3 a2 0) + a8)), mSet a3 a2 (i64w ((mGet a3 a2 0) + a8)), a8)

def _impl_Glasses_events_at_impl_PlansFor_1.j2 (N : Nat) (x25 : Int) (x31 : (List (S_impl_moment × Int))) (x32 : Int) : Option (Bd ((List (S_impl_moment × Int)) × (List (S_impl_moment × Int)) × Int) ((List (S_impl_moment × Int)) × Int) ((List (S_impl_moment × Int)) × Int × Int)) := some (.next (x31, x32, i64w (x25 + 1)))
def _impl_Glasses_events_at_impl_PlansFor_1.b0 (N : Nat) (a1 : (List Int)) (a3 : S_impl_moment) (a4 : Int) (x23 : (List (S_impl_moment × Int))) (x24 : Int) (x25 : Int) : Option (Bd ((List (S_impl_moment × Int)) × (List (S_impl_moment × Int)) × Int) ((List (S_impl_moment × Int)) × Int) ((List (S_impl_moment × Int)) × Int × Int)) := if x25 < (shlI .i64 1 (a1.length : Int)) then ((_impl_Glasses_turned.f N a1 a3.f_tops (u8w x25)).bind fun r26 => ((impl_wait.f N r26).bind fun r27 => (if r27.2 > 0 then (if (i64w (a3.f_time + r27.2)) ≤ a4 then ((impl_PlansFor_1.f N (u8w x25) (⟨i64w (a3.f_time + r27.2), r27.1⟩ : S_impl_moment) x23 x24).bind fun r30 => (_impl_Glasses_events_at_impl_PlansFor_1.j2 N x25 r30.1 r30.2.2)) else (_impl_Glasses_events_at_impl_PlansFor_1.j2 N x25 x23 x24)) else (_impl_Glasses_events_at_impl_PlansFor_1.j2 N x25 x23 x24)))) else (some (.out (.go (x23, x24))))
def _impl_Glasses_events_at_impl_PlansFor_1.a0 (N : Nat) (x33 : (List (S_impl_moment × Int))) (x34 : Int) : Option ((List (S_impl_moment × Int)) × (List (S_impl_moment × Int)) × Int) := some (x33, x33, x34)
def _impl_Glasses_events_at_impl_PlansFor_1.f (N : Nat) (a1 : (List Int)) (a3 : S_impl_moment) (a4 : Int) (a5 : (List (S_impl_moment × Int))) (a10 : Int) : Option ((List (S_impl_moment × Int)) × (List (S_impl_moment × Int)) × Int) := if (0 : Int) ≤ (a1.length : Int) then ((rounds (fun s => _impl_Glasses_events_at_impl_PlansFor_1.b0 N a1 a3 a4 s.1 s.2.1 s.2.2) N (a5, a10, 0)).bind (Ex.fin fun s => _impl_Glasses_events_at_impl_PlansFor_1.a0 N s.1 s.2)) else none

def impl_PlansFor.b6 (N : Nat) (a1 : (List Int)) (a4 : Int) (x31 : (List (S_impl_moment × Int))) (x32 : (List (S_impl_moment × Int))) (Q : (Bd (Int × Int) ((List (S_impl_moment × Int))) ((List (S_impl_moment × Int)) × (List (S_impl_moment × Int)))) → Prop) : Prop := nextD x32 (Q (.out (.go x31))) fun q33 => fun l34 => (∃ r39, _impl_Glasses_events_at_impl_PlansFor_1.f N a1 q33.1 a4 x31 q33.2 = some r39 ∧ (Q (.next (r39.1, l34))))
def impl_PlansFor.a6 (N : Nat) (x17 : Int) (x40 : (List (S_impl_moment × Int))) (Q : (Bd (Int × Int) ((List (S_impl_moment × Int))) ((List (S_impl_moment × Int)) × Int)) → Prop) : Prop := Q (.next (x40, i64w (x17 + 1)))
def impl_PlansFor.b1 (N : Nat) (a5 : Int) (a1 : (List Int)) (a4 : Int) (x16 : (List (S_impl_moment × Int))) (x17 : Int) (Q : (Bd (Int × Int) ((List (S_impl_moment × Int))) ((List (S_impl_moment × Int)) × Int)) → Prop) : Prop := if x17 < a5 then (roundsD (fun s => impl_PlansFor.b6 N a1 a4 s.1 s.2) N (([] : (List (S_impl_moment × Int))), x16) (Ex.finBD (fun s => impl_PlansFor.a6 N x17 s Q) Q)) else (Q (.out (.go x16)))
def impl_PlansFor.j5 (N : Nat) (l54 : (List (S_impl_moment × Int))) (x57 : Int) (Q : (Bd (Int × Int) (Int) (Int × (List (S_impl_moment × Int)))) → Prop) : Prop := Q (.next (x57, l54))
def impl_PlansFor.b3 (N : Nat) (a4 : Int) (x51 : Int) (x52 : (List (S_impl_moment × Int))) (Q : (Bd (Int × Int) (Int) (Int × (List (S_impl_moment × Int)))) → Prop) : Prop := nextD x52 (Q (.out (.go x51))) fun q53 => fun l54 => (if q53.1.f_time = a4 then (impl_PlansFor.j5 N l54 (i64w (x51 + q53.2)) Q) else (impl_PlansFor.j5 N l54 x51 Q))
def impl_PlansFor.a3 (N : Nat) (x58 : Int) (Q : (Int × Int) → Prop) : Prop := Q (x58, 0)
def impl_PlansFor.a1 (N : Nat) (a4 : Int) (x42 : (List (S_impl_moment × Int))) (Q : (Int × Int) → Prop) : Prop := roundsD (fun s => impl_PlansFor.b3 N a4 s.1 s.2) N (0, x42) (Ex.finD (fun s => impl_PlansFor.a3 N s Q) Q)
def impl_PlansFor.j0 (N : Nat) (a5 : Int) (a1 : (List Int)) (a4 : Int) (a3 : (Ar Int 4)) (x11 : Int) (Q : (Int × Int) → Prop) : Prop := if x11 = 0 then (roundsD (fun s => impl_PlansFor.b1 N a5 a1 a4 s.1 s.2) N (mSet ([] : (List (S_impl_moment × Int))) (⟨0, a3⟩ : S_impl_moment) 1, 0) (Ex.finD (fun s => impl_PlansFor.a1 N a4 s Q) Q)) else (Q (0, x11))
def impl_PlansFor.f (N : Nat) (a1 : (List Int)) (a3 : (Ar Int 4)) (a4 : Int) (a5 : Int) (Q : (Int × Int) → Prop) : Prop := ∃ r8, impl_timeCode.f N a1 a3 a4 = some r8 ∧ (if r8 = 0 then (∃ r9, impl_within.f N a5 0 12 = some r9 ∧ (∃ r10, impl_unless.f N r9 2 = some r10 ∧ (impl_PlansFor.j0 N a5 a1 a4 a3 r10 Q))) else (impl_PlansFor.j0 N a5 a1 a4 a3 r8 Q))

def laws_eqGlasses.b0 (N : Nat) (a1 : (List Int)) (a3 : (List Int)) (x5 : Int) : Option (Bd Bool (Unit) (Int)) := if x5 < (a1.length : Int) then (if (0 : Int) ≤ x5 ∧ x5 < (a1.length : Int) then (if (0 : Int) ≤ x5 ∧ x5 < (a3.length : Int) then (if (rdL a1 x5 0) = (rdL a3 x5 0) then (some (.next (i64w (x5 + 1)))) else (some (.out (.ret false)))) else none) else none) else (some (.out (.go ())))
def laws_eqGlasses.a0 (N : Nat) : Option Bool := some true
def laws_eqGlasses.f (N : Nat) (a1 : (List Int)) (a3 : (List Int)) : Option Bool := if (a1.length : Int) = (a3.length : Int) then ((rounds (fun s => laws_eqGlasses.b0 N a1 a3 s) N 0).bind (Ex.fin fun s => laws_eqGlasses.a0 N)) else (some false)

def laws_FnExactPlansFor.f (N : Nat) (a1 : (List Int)) (a3 : (Ar Int 4)) (a4 : Int) (a5 : Int) (Q : Bool → Prop) : Prop := if (a1.length : Int) > 1048576 then (Q true) else (∃ r8, laws_toGlasses.f N a1 = some r8 ∧ (∃ r11, laws_toTops.f N a3 = some r11 ∧ (∃ r12, spec_PlansFor.f N r8 r11 a4 a5 = some r12 ∧ (∃ r14, laws_toGlasses.f N a1 = some r14 ∧ (∃ r17, laws_toTops.f N a3 = some r17 ∧ (impl_PlansFor.f N r14 r17 a4 a5 fun r18 => (if r18.1 = r12.1 then (if r18.2 = r12.2 then (∃ r19, laws_toGlasses.f N a1 = some r19 ∧ (∃ r22, laws_eqGlasses.f N r14 r19 = some r22 ∧ (if r22 = true then (Q true) else (Q false)))) else (Q false)) else (Q false))))))))

end Go.Proofs.YtioefkcldfjobaaX
