/- The plain functions, printed by gen.py. -/
import Derived.Test.YtgachgjcnmeicaaXPure
namespace Go.Proofs.YtgachgjcnmeicaaX
open Go
set_option linter.unusedVariables false
structure S_impl_Puzzle where
  f_Jugs : (List Int)
  f_Start : (Ar Int 4)
  f_Tap : Bool
  deriving DecidableEq
def z_S_impl_Puzzle : S_impl_Puzzle := ⟨[], (Ar.rep 4 0), false⟩
instance : Inhabited S_impl_Puzzle := ⟨z_S_impl_Puzzle⟩

def laws_toGlasses.b0 (N : Nat) (a1 : (List Int)) (x8 : (List Int)) (x9 : Int) : Option (Bd (List Int) ((List Int)) ((List Int) × Int)) := if x9 < (a1.length : Int) then (if (0 : Int) ≤ x9 ∧ x9 < (a1.length : Int) then (if (0 : Int) ≤ x9 ∧ x9 < (x8.length : Int) then (some (.next (stL x8 x9 (rdL a1 x9 0), i64w (x9 + 1)))) else none) else none) else (some (.out (.go x8)))
def laws_toGlasses.a0 (N : Nat) (x12 : (List Int)) : Option (List Int) := some x12
def laws_toGlasses.f (N : Nat) (a1 : (List Int)) : Option (List Int) := if (0 : Int) ≤ (a1.length : Int) ∧ (a1.length : Int) ≤ 140737488355328 then ((rounds (fun s => laws_toGlasses.b0 N a1 s.1 s.2) N (List.replicate ((a1.length : Int)).toNat 0, 0)).bind (Ex.fin fun s => laws_toGlasses.a0 N s)) else none

def laws_toTops.b0 (N : Nat) (a1 : (Ar Int 4)) (x9 : (Ar Int 4)) (x10 : Int) : Option (Bd (Ar Int 4) ((Ar Int 4)) ((Ar Int 4) × Int)) := if x10 < 4 then (if (0 : Int) ≤ x10 ∧ x10 < 4 then (if (0 : Int) ≤ x10 ∧ x10 < 4 then (some (.next (x9.set x10 (a1.get x10 0), i64w (x10 + 1)))) else none) else none) else (some (.out (.go x9)))
def laws_toTops.a0 (N : Nat) (x11 : (Ar Int 4)) : Option (Ar Int 4) := some x11
def laws_toTops.f (N : Nat) (a1 : (Ar Int 4)) : Option (Ar Int 4) := (rounds (fun s => laws_toTops.b0 N a1 s.1 s.2) N ((Ar.rep 4 0), 0)).bind (Ex.fin fun s => laws_toTops.a0 N s)

def laws_toByteS.b0 (N : Nat) (a1 : (List Int)) (x8 : (List Int)) (x9 : Int) : Option (Bd (List Int) ((List Int)) ((List Int) × Int)) := if x9 < (a1.length : Int) then (if (0 : Int) ≤ x9 ∧ x9 < (a1.length : Int) then (if (0 : Int) ≤ x9 ∧ x9 < (x8.length : Int) then (some (.next (stL x8 x9 (rdL a1 x9 0), i64w (x9 + 1)))) else none) else none) else (some (.out (.go x8)))
def laws_toByteS.a0 (N : Nat) (x12 : (List Int)) : Option (List Int) := some x12
def laws_toByteS.f (N : Nat) (a1 : (List Int)) : Option (List Int) := if (0 : Int) ≤ (a1.length : Int) ∧ (a1.length : Int) ≤ 281474976710656 then ((rounds (fun s => laws_toByteS.b0 N a1 s.1 s.2) N (List.replicate ((a1.length : Int)).toNat 0, 0)).bind (Ex.fin fun s => laws_toByteS.a0 N s)) else none

def spec_l00In.f (N : Nat) (a1 : Int) (a2 : Int) (a3 : Int) : Option Bool := if a1 ≥ a2 then (some (decide (a1 ≤ a3))) else (some false)

def spec_l07States.b0 (N : Nat) (a1 : (List Int)) (x4 : Int) (x5 : Int) : Option (Bd Int (Int) (Int × Int)) := if x5 < (a1.length : Int) then (if (0 : Int) ≤ x5 ∧ x5 < (a1.length : Int) then (if (rdL a1 x5 0) < 1 then (some (.out (.ret 0))) else (if (0 : Int) ≤ x5 ∧ x5 < (a1.length : Int) then (if (rdL a1 x5 0) > 40 then (some (.out (.ret 0))) else (if (0 : Int) ≤ x5 ∧ x5 < (a1.length : Int) then (some (.next (i64w (x4 * (i64w ((i64w (rdL a1 x5 0)) + 1))), i64w (x5 + 1)))) else none)) else none)) else none) else (some (.out (.go x4)))
def spec_l07States.a0 (N : Nat) (x9 : Int) : Option Int := if x9 > 3000 then (some 0) else (some x9)
def spec_l07States.f (N : Nat) (a1 : (List Int)) : Option Int := (spec_l00In.f N (a1.length : Int) 1 4).bind fun r3 => (if r3 = true then ((rounds (fun s => spec_l07States.b0 N a1 s.1 s.2) N (1, 0)).bind (Ex.fin fun s => spec_l07States.a0 N s)) else (some 0))

def spec_l07Ok.j2 (N : Nat) (x7 : Int) (a3 : (Ar Int 4)) (x9 : Int) : Option (Bd Bool (Unit) (Int)) := if (0 : Int) ≤ x7 ∧ x7 < 4 then (if (a3.get x7 0) < 0 then (some (.out (.ret false))) else (if (0 : Int) ≤ x7 ∧ x7 < 4 then (if (a3.get x7 0) > x9 then (some (.out (.ret false))) else (some (.next (i64w (x7 + 1))))) else none)) else none
def spec_l07Ok.b0 (N : Nat) (a1 : (List Int)) (a3 : (Ar Int 4)) (x7 : Int) : Option (Bd Bool (Unit) (Int)) := if x7 < 4 then (if x7 < (a1.length : Int) then (if (0 : Int) ≤ x7 ∧ x7 < (a1.length : Int) then (spec_l07Ok.j2 N x7 a3 (rdL a1 x7 0)) else none) else (spec_l07Ok.j2 N x7 a3 0)) else (some (.out (.go ())))
def spec_l07Ok.a0 (N : Nat) : Option Bool := some true
def spec_l07Ok.f (N : Nat) (a1 : (List Int)) (a3 : (Ar Int 4)) : Option Bool := (spec_l07States.f N a1).bind fun r6 => (if r6 = 0 then (some false) else ((rounds (fun s => spec_l07Ok.b0 N a1 a3 s) N 0).bind (Ex.fin fun s => spec_l07Ok.a0 N)))

def spec_l07Sets.f (N : Nat) (a1 : (List Int)) : Option Int := if (0 : Int) ≤ (u64w (a1.length : Int)) then (some (shlI .i64 1 (u64w (a1.length : Int)))) else none

def spec_l07Turn.j2 (N : Nat) (x12 : Int) (x13 : (Ar Int 4)) : Option (Bd (Ar Int 4) ((Ar Int 4)) ((Ar Int 4) × Int)) := some (.next (x13, i64w (x12 + 1)))
def spec_l07Turn.b0 (N : Nat) (a1 : (List Int)) (a4 : Int) (x11 : (Ar Int 4)) (x12 : Int) : Option (Bd (Ar Int 4) ((Ar Int 4)) ((Ar Int 4) × Int)) := if x12 < (a1.length : Int) then (if (0 : Int) ≤ (u64w x12) then (if ((shrI .u8 a4 (u64w x12)).tmod 2) = 1 then (if (0 : Int) ≤ x12 ∧ x12 < (a1.length : Int) then (if (0 : Int) ≤ x12 ∧ x12 < 4 then (if (0 : Int) ≤ x12 ∧ x12 < 4 then (spec_l07Turn.j2 N x12 (x11.set x12 (i16w ((rdL a1 x12 0) - (x11.get x12 0))))) else none) else none) else none) else (spec_l07Turn.j2 N x12 x11)) else none) else (some (.out (.go x11)))
def spec_l07Turn.a0 (N : Nat) (x14 : (Ar Int 4)) : Option (Ar Int 4) := some x14
def spec_l07Turn.f (N : Nat) (a1 : (List Int)) (a3 : (Ar Int 4)) (a4 : Int) : Option (Ar Int 4) := (rounds (fun s => spec_l07Turn.b0 N a1 a4 s.1 s.2) N (a3, 0)).bind (Ex.fin fun s => spec_l07Turn.a0 N s)

def spec_l07Wait.j5 (N : Nat) (x7 : Int) (x8 : Int) : Option (Bd ((Ar Int 4) × Int) (Int) (Int × Int)) := some (.next (x8, i64w (x7 + 1)))
def spec_l07Wait.b0 (N : Nat) (a1 : (Ar Int 4)) (x6 : Int) (x7 : Int) : Option (Bd ((Ar Int 4) × Int) (Int) (Int × Int)) := if x7 < 4 then (if (0 : Int) ≤ x7 ∧ x7 < 4 then (if (a1.get x7 0) > 0 then (if x6 = 0 then (if (0 : Int) ≤ x7 ∧ x7 < 4 then (spec_l07Wait.j5 N x7 (a1.get x7 0)) else none) else (if (0 : Int) ≤ x7 ∧ x7 < 4 then (if (a1.get x7 0) < x6 then (if (0 : Int) ≤ x7 ∧ x7 < 4 then (spec_l07Wait.j5 N x7 (a1.get x7 0)) else none) else (spec_l07Wait.j5 N x7 x6)) else none)) else (spec_l07Wait.j5 N x7 x6)) else none) else (some (.out (.go x6)))
def spec_l07Wait.j4 (N : Nat) (x13 : Int) (x14 : (Ar Int 4)) : Option (Bd ((Ar Int 4) × Int) ((Ar Int 4)) ((Ar Int 4) × Int)) := some (.next (x14, i64w (x13 + 1)))
def spec_l07Wait.b2 (N : Nat) (x9 : Int) (x12 : (Ar Int 4)) (x13 : Int) : Option (Bd ((Ar Int 4) × Int) ((Ar Int 4)) ((Ar Int 4) × Int)) := if x13 < 4 then (if (0 : Int) ≤ x13 ∧ x13 < 4 then (if (x12.get x13 0) > 0 then (if (0 : Int) ≤ x13 ∧ x13 < 4 then (if (0 : Int) ≤ x13 ∧ x13 < 4 then (spec_l07Wait.j4 N x13 (x12.set x13 (i16w ((x12.get x13 0) - x9)))) else none) else none) else (spec_l07Wait.j4 N x13 x12)) else none) else (some (.out (.go x12)))
def spec_l07Wait.a2 (N : Nat) (x9 : Int) (x15 : (Ar Int 4)) : Option ((Ar Int 4) × Int) := some (x15, i64w x9)
def spec_l07Wait.a0 (N : Nat) (a1 : (Ar Int 4)) (x9 : Int) : Option ((Ar Int 4) × Int) := (rounds (fun s => spec_l07Wait.b2 N x9 s.1 s.2) N (a1, 0)).bind (Ex.fin fun s => spec_l07Wait.a2 N x9 s)
def spec_l07Wait.f (N : Nat) (a1 : (Ar Int 4)) : Option ((Ar Int 4) × Int) := (rounds (fun s => spec_l07Wait.b0 N a1 s.1 s.2) N (0, 0)).bind (Ex.fin fun s => spec_l07Wait.a0 N a1 s)

def spec_l07Run.b0 (N : Nat) (a4 : (List Int)) (a1 : (List Int)) (x33 : (Ar Int 4)) (x36 : (List Int)) (x37 : Int) (x38 : Int) : Option (Bd ((List Int) × (Ar Int 4) × Int) ((Ar Int 4) × (List Int)) ((Ar Int 4) × (List Int) × Int × Int)) := if x38 < (a4.length : Int) then (if (0 : Int) ≤ x38 ∧ x38 < (a4.length : Int) then ((spec_l07Sets.f N a1).bind fun r39 => (if (i64w (rdL a4 x38 0)) ≥ r39 then (some (.out (.ret (([] : List Int), (Ar.rep 4 0), 2)))) else (if (0 : Int) ≤ x38 ∧ x38 < (a4.length : Int) then ((spec_l07Turn.f N a1 x33 (rdL a4 x38 0)).bind fun r42 => ((spec_l07Wait.f N r42).bind fun r43 => (if r43.2 = 0 then (some (.out (.ret (([] : List Int), (Ar.rep 4 0), 4)))) else (if x36.length + ([i64w (x37 + r43.2)]).length ≤ 17592186044416 then (some (.next (r43.1, x36 ++ ([i64w (x37 + r43.2)]), i64w (x37 + r43.2), i64w (x38 + 1)))) else none)))) else none))) else none) else (some (.out (.go (x33, x36))))
def spec_l07Run.a0 (N : Nat) (x53 : (Ar Int 4)) (x55 : (List Int)) : Option ((List Int) × (Ar Int 4) × Int) := some (x55, x53, 0)
def spec_l07Run.f (N : Nat) (a1 : (List Int)) (a3 : (Ar Int 4)) (a4 : (List Int)) : Option ((List Int) × (Ar Int 4) × Int) := if (a4.length : Int) > 60 then (some (([] : List Int), (Ar.rep 4 0), 3)) else ((rounds (fun s => spec_l07Run.b0 N a4 a1 s.1 s.2.1 s.2.2.1 s.2.2.2) N (a3, ([] : List Int), 0, 0)).bind (Ex.fin fun s => spec_l07Run.a0 N s.1 s.2))

def spec_RunTurns.f (N : Nat) (a1 : (List Int)) (a3 : (Ar Int 4)) (a4 : (List Int)) : Option ((List Int) × (Ar Int 4) × Int) := (spec_l07Ok.f N a1 a3).bind fun r10 => (if r10 = true then ((spec_l07Run.f N a1 a3 a4).bind fun r11 => (some (r11.1, r11.2.1, r11.2.2))) else (some (([] : List Int), (Ar.rep 4 0), 1)))

def impl_size_int16.f (N : Nat) (a1 : (List Int)) : Option Int := some (a1.length : Int)

def impl_within.f (N : Nat) (a1 : Int) (a2 : Int) (a3 : Int) : Option Bool := if a2 ≤ a1 then (some (decide (a1 ≤ a3))) else (some false)

def impl_ValidGlasses_1.f (N : Nat) (a1 : Int) : Option Bool := if a1 < 1 then (some true) else (some (decide (a1 > 40)))

def slices_IndexFunc_impl_Glasses_int16_at_impl_ValidGlasses_1.b0 (N : Nat) (a1 : (List Int)) (x3 : Int) : Option (Bd Int (Unit) (Int)) := if x3 < (a1.length : Int) then (if (0 : Int) ≤ x3 ∧ x3 < (a1.length : Int) then ((impl_ValidGlasses_1.f N (rdL a1 x3 0)).bind fun r5 => (if r5 = true then (some (.out (.ret x3))) else (some (.next (i64w (x3 + 1)))))) else none) else (some (.out (.go ())))
def slices_IndexFunc_impl_Glasses_int16_at_impl_ValidGlasses_1.a0 (N : Nat) : Option Int := some (-1)
def slices_IndexFunc_impl_Glasses_int16_at_impl_ValidGlasses_1.f (N : Nat) (a1 : (List Int)) : Option Int := (rounds (fun s => slices_IndexFunc_impl_Glasses_int16_at_impl_ValidGlasses_1.b0 N a1 s) N 0).bind (Ex.fin fun s => slices_IndexFunc_impl_Glasses_int16_at_impl_ValidGlasses_1.a0 N)

def slices_ContainsFunc_impl_Glasses_int16_at_impl_ValidGlasses_1.f (N : Nat) (a1 : (List Int)) : Option Bool := (slices_IndexFunc_impl_Glasses_int16_at_impl_ValidGlasses_1.f N a1).bind fun r3 => (some (decide (r3 ≥ 0)))

def _impl_Glasses_many.b0 (N : Nat) (a1 : (List Int)) (x3 : Int) (x4 : Int) : Option (Bd Int (Int) (Int × Int)) := if x4 < (a1.length : Int) then (if (0 : Int) ≤ x4 ∧ x4 < (a1.length : Int) then (some (.next (i64w (x3 * (i64w ((i64w (rdL a1 x4 0)) + 1))), i64w (x4 + 1)))) else none) else (some (.out (.go x3)))
def _impl_Glasses_many.a0 (N : Nat) (x6 : Int) : Option Int := some x6
def _impl_Glasses_many.f (N : Nat) (a1 : (List Int)) : Option Int := (rounds (fun s => _impl_Glasses_many.b0 N a1 s.1 s.2) N (1, 0)).bind (Ex.fin fun s => _impl_Glasses_many.a0 N s)

def impl_ValidGlasses.f (N : Nat) (a1 : (List Int)) : Option Bool := (impl_size_int16.f N a1).bind fun r3 => ((impl_within.f N r3 1 4).bind fun r4 => (if r4 = true then ((slices_ContainsFunc_impl_Glasses_int16_at_impl_ValidGlasses_1.f N a1).bind fun r5 => (if r5 = true then (some false) else ((_impl_Glasses_many.f N a1).bind fun r6 => (some (decide (r6 ≤ 3000)))))) else (some false)))

def _impl_Puzzle_holds.j2 (N : Nat) (a4 : (Ar Int 4)) (x9 : Int) (x11 : Int) : Option (Bd Bool (Unit) (Int)) := if (a4.get x9 0) < 0 then (some (.out (.ret false))) else (if (a4.get x9 0) > x11 then (some (.out (.ret false))) else (some (.next (i64w (x9 + 1)))))
def _impl_Puzzle_holds.b0 (N : Nat) (a1 : S_impl_Puzzle) (a4 : (Ar Int 4)) (x9 : Int) : Option (Bd Bool (Unit) (Int)) := if x9 < 4 then (if (0 : Int) ≤ x9 ∧ x9 < 4 then (if x9 < (a1.f_Jugs.length : Int) then (if (0 : Int) ≤ x9 ∧ x9 < (a1.f_Jugs.length : Int) then (_impl_Puzzle_holds.j2 N a4 x9 (rdL a1.f_Jugs x9 0)) else none) else (_impl_Puzzle_holds.j2 N a4 x9 0)) else none) else (some (.out (.go ())))
def _impl_Puzzle_holds.a0 (N : Nat) : Option Bool := some true
def _impl_Puzzle_holds.f (N : Nat) (a1 : S_impl_Puzzle) (a4 : (Ar Int 4)) : Option Bool := (rounds (fun s => _impl_Puzzle_holds.b0 N a1 a4 s) N 0).bind (Ex.fin fun s => _impl_Puzzle_holds.a0 N)

def impl_ValidTops.f (N : Nat) (a1 : (List Int)) (a3 : (Ar Int 4)) : Option Bool := (impl_ValidGlasses.f N a1).bind fun r6 => (if r6 = true then ((_impl_Puzzle_holds.f N (⟨a1, (Ar.rep 4 0), false⟩ : S_impl_Puzzle) a3).bind fun r7 => (some r7)) else (some false))

def _impl_Glasses_isSet.f (N : Nat) (a1 : (List Int)) (a3 : Int) : Option Bool := if (0 : Int) ≤ (a1.length : Int) then (some (decide ((i64w a3) < (shlI .i64 1 (a1.length : Int))))) else none

def _impl_Glasses_turned.j2 (N : Nat) (x13 : Int) (x15 : (Ar Int 4)) : Option (Bd (Ar Int 4) ((Ar Int 4)) ((Ar Int 4) × Int)) := some (.next (x15, i64w (x13 + 1)))
def _impl_Glasses_turned.b0 (N : Nat) (a1 : (List Int)) (a4 : Int) (x12 : (Ar Int 4)) (x13 : Int) : Option (Bd (Ar Int 4) ((Ar Int 4)) ((Ar Int 4) × Int)) := if x13 < (a1.length : Int) then (if (0 : Int) ≤ x13 ∧ x13 < (a1.length : Int) then (if (0 : Int) ≤ x13 then (if (bAnd .u8 (shrI .u8 a4 x13) 1) = 1 then (if (0 : Int) ≤ x13 ∧ x13 < 4 then (if (0 : Int) ≤ x13 ∧ x13 < 4 then (_impl_Glasses_turned.j2 N x13 (x12.set x13 (i16w ((rdL a1 x13 0) - (x12.get x13 0))))) else none) else none) else (_impl_Glasses_turned.j2 N x13 x12)) else none) else none) else (some (.out (.go x12)))
def _impl_Glasses_turned.a0 (N : Nat) (x16 : (Ar Int 4)) : Option (Ar Int 4) := some x16
def _impl_Glasses_turned.f (N : Nat) (a1 : (List Int)) (a3 : (Ar Int 4)) (a4 : Int) : Option (Ar Int 4) := (rounds (fun s => _impl_Glasses_turned.b0 N a1 a4 s.1 s.2) N (a3, 0)).bind (Ex.fin fun s => _impl_Glasses_turned.a0 N s)

def impl_wait.j4 (N : Nat) (x7 : Int) (x8 : Int) : Option (Bd ((Ar Int 4) × Int) (Int) (Int × Int)) := some (.next (x8, i64w (x7 + 1)))
def impl_wait.b0 (N : Nat) (a1 : (Ar Int 4)) (x6 : Int) (x7 : Int) : Option (Bd ((Ar Int 4) × Int) (Int) (Int × Int)) := if x7 < 4 then (if (0 : Int) ≤ x7 ∧ x7 < 4 then (if (a1.get x7 0) > 0 then (if x6 = 0 then (impl_wait.j4 N x7 (a1.get x7 0)) else (if (a1.get x7 0) < x6 then (impl_wait.j4 N x7 (a1.get x7 0)) else (impl_wait.j4 N x7 x6))) else (impl_wait.j4 N x7 x6)) else none) else (some (.out (.go x6)))
def impl_wait.b2 (N : Nat) (x9 : Int) (x11 : (Ar Int 4)) (x12 : Int) : Option (Bd ((Ar Int 4) × Int) ((Ar Int 4)) ((Ar Int 4) × Int)) := if x12 < 4 then (if (0 : Int) ≤ x12 ∧ x12 < 4 then (if (0 : Int) ≤ x12 ∧ x12 < 4 then (some (.next (x11.set x12 (mxI (i16w ((x11.get x12 0) - x9)) 0), i64w (x12 + 1)))) else none) else none) else (some (.out (.go x11)))
def impl_wait.a2 (N : Nat) (x9 : Int) (x13 : (Ar Int 4)) : Option ((Ar Int 4) × Int) := some (x13, i64w x9)
def impl_wait.a0 (N : Nat) (a1 : (Ar Int 4)) (x9 : Int) : Option ((Ar Int 4) × Int) := (rounds (fun s => impl_wait.b2 N x9 s.1 s.2) N (a1, 0)).bind (Ex.fin fun s => impl_wait.a2 N x9 s)
def impl_wait.f (N : Nat) (a1 : (Ar Int 4)) : Option ((Ar Int 4) × Int) := (rounds (fun s => impl_wait.b0 N a1 s.1 s.2) N (0, 0)).bind (Ex.fin fun s => impl_wait.a0 N a1 s)

def impl_RunTurns.b0 (N : Nat) (a4 : (List Int)) (a1 : (List Int)) (x29 : (Ar Int 4)) (x32 : (List Int)) (x33 : Int) (x34 : Int) : Option (Bd ((List Int) × (Ar Int 4) × Int) ((Ar Int 4) × (List Int)) ((Ar Int 4) × (List Int) × Int × Int)) := if x34 < (a4.length : Int) then (if (0 : Int) ≤ x34 ∧ x34 < (a4.length : Int) then ((_impl_Glasses_isSet.f N a1 (rdL a4 x34 0)).bind fun r36 => (if r36 = true then ((_impl_Glasses_turned.f N a1 x29 (rdL a4 x34 0)).bind fun r37 => ((impl_wait.f N r37).bind fun r38 => (if r38.2 = 0 then (some (.out (.ret ([], (Ar.rep 4 0), 4)))) else (if x32.length + ([i64w (x33 + r38.2)]).length ≤ 17592186044416 then (some (.next (r38.1, x32 ++ ([i64w (x33 + r38.2)]), i64w (x33 + r38.2), i64w (x34 + 1)))) else none)))) else (some (.out (.ret ([], (Ar.rep 4 0), 2)))))) else none) else (some (.out (.go (x29, x32))))
def impl_RunTurns.a0 (N : Nat) (x45 : (Ar Int 4)) (x47 : (List Int)) : Option ((List Int) × (Ar Int 4) × Int) := some (x47, x45, 0)
def impl_RunTurns.f (N : Nat) (a1 : (List Int)) (a3 : (Ar Int 4)) (a4 : (List Int)) : Option ((List Int) × (Ar Int 4) × Int) := (impl_ValidTops.f N a1 a3).bind fun r10 => (if r10 = true then (if (a4.length : Int) > 60 then (some ([], (Ar.rep 4 0), 3)) else ((rounds (fun s => impl_RunTurns.b0 N a4 a1 s.1 s.2.1 s.2.2.1 s.2.2.2) N (a3, ([] : List Int), 0, 0)).bind (Ex.fin fun s => impl_RunTurns.a0 N s.1 s.2))) else (some ([], (Ar.rep 4 0), 1)))

def laws_eqInt64S.b0 (N : Nat) (a1 : (List Int)) (a3 : (List Int)) (x5 : Int) : Option (Bd Bool (Unit) (Int)) := if x5 < (a1.length : Int) then (if (0 : Int) ≤ x5 ∧ x5 < (a1.length : Int) then (if (0 : Int) ≤ x5 ∧ x5 < (a3.length : Int) then (if (rdL a1 x5 0) = (rdL a3 x5 0) then (some (.next (i64w (x5 + 1)))) else (some (.out (.ret false)))) else none) else none) else (some (.out (.go ())))
def laws_eqInt64S.a0 (N : Nat) : Option Bool := some true
def laws_eqInt64S.f (N : Nat) (a1 : (List Int)) (a3 : (List Int)) : Option Bool := if (a1.length : Int) = (a3.length : Int) then ((rounds (fun s => laws_eqInt64S.b0 N a1 a3 s) N 0).bind (Ex.fin fun s => laws_eqInt64S.a0 N)) else (some false)

def laws_eqTops.b0 (N : Nat) (a1 : (Ar Int 4)) (a2 : (Ar Int 4)) (x7 : Int) : Option (Bd Bool (Unit) (Int)) := if x7 < 4 then (if (0 : Int) ≤ x7 ∧ x7 < 4 then (if (0 : Int) ≤ x7 ∧ x7 < 4 then (if (a1.get x7 0) = (a2.get x7 0) then (some (.next (i64w (x7 + 1)))) else (some (.out (.ret false)))) else none) else none) else (some (.out (.go ())))
def laws_eqTops.a0 (N : Nat) : Option Bool := some true
def laws_eqTops.f (N : Nat) (a1 : (Ar Int 4)) (a2 : (Ar Int 4)) : Option Bool := (rounds (fun s => laws_eqTops.b0 N a1 a2 s) N 0).bind (Ex.fin fun s => laws_eqTops.a0 N)

def laws_eqGlasses.b0 (N : Nat) (a1 : (List Int)) (a3 : (List Int)) (x5 : Int) : Option (Bd Bool (Unit) (Int)) := if x5 < (a1.length : Int) then (if (0 : Int) ≤ x5 ∧ x5 < (a1.length : Int) then (if (0 : Int) ≤ x5 ∧ x5 < (a3.length : Int) then (if (rdL a1 x5 0) = (rdL a3 x5 0) then (some (.next (i64w (x5 + 1)))) else (some (.out (.ret false)))) else none) else none) else (some (.out (.go ())))
def laws_eqGlasses.a0 (N : Nat) : Option Bool := some true
def laws_eqGlasses.f (N : Nat) (a1 : (List Int)) (a3 : (List Int)) : Option Bool := if (a1.length : Int) = (a3.length : Int) then ((rounds (fun s => laws_eqGlasses.b0 N a1 a3 s) N 0).bind (Ex.fin fun s => laws_eqGlasses.a0 N)) else (some false)

def laws_eqByteS.b0 (N : Nat) (a1 : (List Int)) (a3 : (List Int)) (x5 : Int) : Option (Bd Bool (Unit) (Int)) := if x5 < (a1.length : Int) then (if (0 : Int) ≤ x5 ∧ x5 < (a1.length : Int) then (if (0 : Int) ≤ x5 ∧ x5 < (a3.length : Int) then (if (rdL a1 x5 0) = (rdL a3 x5 0) then (some (.next (i64w (x5 + 1)))) else (some (.out (.ret false)))) else none) else none) else (some (.out (.go ())))
def laws_eqByteS.a0 (N : Nat) : Option Bool := some true
def laws_eqByteS.f (N : Nat) (a1 : (List Int)) (a3 : (List Int)) : Option Bool := if (a1.length : Int) = (a3.length : Int) then ((rounds (fun s => laws_eqByteS.b0 N a1 a3 s) N 0).bind (Ex.fin fun s => laws_eqByteS.a0 N)) else (some false)

def laws_markGlasses.b0 (N : Nat) (x8 : (List Int)) (x9 : Int) (x10 : Int) : Option (Bd (Int × (List Int)) (Int × (List Int)) ((List Int) × Int × Int)) := if x10 < (x8.length : Int) then (if (0 : Int) ≤ x10 ∧ x10 < (x8.length : Int) then (some (.next (stL x8 x10 (i16w x9), i64w (x9 + 1), i64w (x10 + 1)))) else none) else (some (.out (.go (x9, x8))))
def laws_markGlasses.a0 (N : Nat) (x12 : Int) (x13 : (List Int)) : Option (Int × (List Int)) := some (x12, x13)
def laws_markGlasses.f (N : Nat) (a1 : (List Int)) (a4 : Int) : Option (Int × (List Int)) := (rounds (fun s => laws_markGlasses.b0 N s.1 s.2.1 s.2.2) N (a1, a4, 0)).bind (Ex.fin fun s => laws_markGlasses.a0 N s.1 s.2)

def laws_markByteS.b0 (N : Nat) (x8 : (List Int)) (x9 : Int) (x10 : Int) : Option (Bd (Int × (List Int)) (Int × (List Int)) ((List Int) × Int × Int)) := if x10 < (x8.length : Int) then (if (0 : Int) ≤ x10 ∧ x10 < (x8.length : Int) then (some (.next (stL x8 x10 (u8w x9), i64w (x9 + 1), i64w (x10 + 1)))) else none) else (some (.out (.go (x9, x8))))
def laws_markByteS.a0 (N : Nat) (x12 : Int) (x13 : (List Int)) : Option (Int × (List Int)) := some (x12, x13)
def laws_markByteS.f (N : Nat) (a1 : (List Int)) (a4 : Int) : Option (Int × (List Int)) := (rounds (fun s => laws_markByteS.b0 N s.1 s.2.1 s.2.2) N (a1, a4, 0)).bind (Ex.fin fun s => laws_markByteS.a0 N s.1 s.2)

def laws_markInt64S.b0 (N : Nat) (x8 : (List Int)) (x9 : Int) (x10 : Int) : Option (Bd (Int × (List Int)) (Int × (List Int)) ((List Int) × Int × Int)) := if x10 < (x8.length : Int) then (if (0 : Int) ≤ x10 ∧ x10 < (x8.length : Int) then (some (.next (stL x8 x10 x9, i64w (x9 + 1), i64w (x10 + 1)))) else none) else (some (.out (.go (x9, x8))))
def laws_markInt64S.a0 (N : Nat) (x12 : Int) (x13 : (List Int)) : Option (Int × (List Int)) := some (x12, x13)
def laws_markInt64S.f (N : Nat) (a1 : (List Int)) (a4 : Int) : Option (Int × (List Int)) := (rounds (fun s => laws_markInt64S.b0 N s.1 s.2.1 s.2.2) N (a1, a4, 0)).bind (Ex.fin fun s => laws_markInt64S.a0 N s.1 s.2)

def laws_heldInt64S.b0 (N : Nat) (a1 : (List Int)) (x4 : Int) (x5 : Int) : Option (Bd Int (Int) (Int × Int)) := if x5 < (a1.length : Int) then (if (0 : Int) ≤ x5 ∧ x5 < (a1.length : Int) then (if (rdL a1 x5 0) = x4 then (some (.next (i64w (x4 + 1), i64w (x5 + 1)))) else (some (.out (.ret (-1))))) else none) else (some (.out (.go x4)))
def laws_heldInt64S.a0 (N : Nat) (x7 : Int) : Option Int := some x7
def laws_heldInt64S.f (N : Nat) (a1 : (List Int)) (a3 : Int) : Option Int := (rounds (fun s => laws_heldInt64S.b0 N a1 s.1 s.2) N (a3, 0)).bind (Ex.fin fun s => laws_heldInt64S.a0 N s)

def laws_FnExactRunTurns.f (N : Nat) (a1 : (List Int)) (a3 : (Ar Int 4)) (a4 : (List Int)) : Option Bool := if (a1.length : Int) > 1048576 then (some true) else (if (a4.length : Int) > 1048576 then (some true) else ((laws_toGlasses.f N a1).bind fun r8 => ((laws_toTops.f N a3).bind fun r11 => ((laws_toByteS.f N a4).bind fun r12 => ((spec_RunTurns.f N r8 r11 r12).bind fun r15 => ((laws_toGlasses.f N a1).bind fun r24 => ((laws_toByteS.f N a4).bind fun r27 => ((laws_toTops.f N a3).bind fun r30 => ((impl_RunTurns.f N r24 r30 r27).bind fun r31 => ((laws_eqInt64S.f N r31.1 r15.1).bind fun r36 => (if r36 = true then ((laws_eqTops.f N r31.2.1 r15.2.1).bind fun r37 => (if r37 = true then (if r31.2.2 = r15.2.2 then ((laws_toGlasses.f N a1).bind fun r38 => ((laws_eqGlasses.f N r24 r38).bind fun r41 => (if r41 = true then ((laws_toByteS.f N a4).bind fun r42 => ((laws_eqByteS.f N r27 r42).bind fun r45 => (if r45 = true then ((laws_markGlasses.f N r24 1).bind fun r46 => ((laws_markByteS.f N r27 r46.1).bind fun r47 => (if r47.1 < 0 then (some false) else ((laws_eqInt64S.f N r31.1 r15.1).bind fun r48 => (if r48 = true then ((laws_eqTops.f N r31.2.1 r15.2.1).bind fun r49 => (if r49 = true then (if r31.2.2 = r15.2.2 then ((laws_markInt64S.f N r31.1 1).bind fun r50 => ((laws_heldInt64S.f N r50.2 1).bind fun r51 => (if r51 < 0 then (some false) else (if r51 = r50.1 then ((laws_toGlasses.f N a1).bind fun r52 => ((laws_toTops.f N a3).bind fun r55 => ((laws_toByteS.f N a4).bind fun r56 => ((impl_RunTurns.f N r52 r55 r56).bind fun r59 => ((laws_eqInt64S.f N r59.1 r15.1).bind fun r68 => (if r68 = true then ((laws_eqTops.f N r59.2.1 r15.2.1).bind fun r69 => (if r69 = true then (if r59.2.2 = r15.2.2 then ((laws_heldInt64S.f N r50.2 1).bind fun r70 => (if r70 < 0 then (some false) else (if r70 = r50.1 then (some true) else (some false)))) else (some false)) else (some false))) else (some false))))))) else (some false))))) else (some false)) else (some false))) else (some false)))))) else (some false)))) else (some false)))) else (some false)) else (some false))) else (some false))))))))))))

end Go.Proofs.YtgachgjcnmeicaaX
