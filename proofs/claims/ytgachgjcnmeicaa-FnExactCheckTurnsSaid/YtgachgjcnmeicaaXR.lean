/- The plain functions, printed by gen.py. -/
import Derived.Test.YtgachgjcnmeicaaXPure
namespace Go.Proofs.YtgachgjcnmeicaaX
open Go
set_option linter.unusedVariables false
structure S_impl_Puzzle where
  f_Jugs : (List Int)
  f_Start : (Ar Int 4)
  f_Tap : Bool
  deriving DecidableEq
def z_S_impl_Puzzle : S_impl_Puzzle := ⟨[], (Ar.rep 4 0), false⟩
instance : Inhabited S_impl_Puzzle := ⟨z_S_impl_Puzzle⟩

def laws_toGlasses.b0 (N : Nat) (a1 : (List Int)) (x8 : (List Int)) (x9 : Int) : Option (Bd (List Int) ((List Int)) ((List Int) × Int)) := if x9 < (a1.length : Int) then (if (0 : Int) ≤ x9 ∧ x9 < (a1.length : Int) then (if (0 : Int) ≤ x9 ∧ x9 < (x8.length : Int) then (some (.next (stL x8 x9 (rdL a1 x9 0), i64w (x9 + 1)))) else none) else none) else (some (.out (.go x8)))
def laws_toGlasses.a0 (N : Nat) (x12 : (List Int)) : Option (List Int) := some x12
def laws_toGlasses.f (N : Nat) (a1 : (List Int)) : Option (List Int) := if (0 : Int) ≤ (a1.length : Int) ∧ (a1.length : Int) ≤ 140737488355328 then ((rounds (fun s => laws_toGlasses.b0 N a1 s.1 s.2) N (List.replicate ((a1.length : Int)).toNat 0, 0)).bind (Ex.fin fun s => laws_toGlasses.a0 N s)) else none

def spec_l00In.f (N : Nat) (a1 : Int) (a2 : Int) (a3 : Int) : Option Bool := if a1 ≥ a2 then (some (decide (a1 ≤ a3))) else (some false)

def spec_l07States.b0 (N : Nat) (a1 : (List Int)) (x4 : Int) (x5 : Int) : Option (Bd Int (Int) (Int × Int)) := if x5 < (a1.length : Int) then (if (0 : Int) ≤ x5 ∧ x5 < (a1.length : Int) then (if (rdL a1 x5 0) < 1 then (some (.out (.ret 0))) else (if (0 : Int) ≤ x5 ∧ x5 < (a1.length : Int) then (if (rdL a1 x5 0) > 40 then (some (.out (.ret 0))) else (if (0 : Int) ≤ x5 ∧ x5 < (a1.length : Int) then (some (.next (i64w (x4 * (i64w ((i64w (rdL a1 x5 0)) + 1))), i64w (x5 + 1)))) else none)) else none)) else none) else (some (.out (.go x4)))
def spec_l07States.a0 (N : Nat) (x9 : Int) : Option Int := if x9 > 3000 then (some 0) else (some x9)
def spec_l07States.f (N : Nat) (a1 : (List Int)) : Option Int := (spec_l00In.f N (a1.length : Int) 1 4).bind fun r3 => (if r3 = true then ((rounds (fun s => spec_l07States.b0 N a1 s.1 s.2) N (1, 0)).bind (Ex.fin fun s => spec_l07States.a0 N s)) else (some 0))

def spec_ValidGlasses.f (N : Nat) (a1 : (List Int)) : Option Bool := (spec_l07States.f N a1).bind fun r3 => (some (decide (r3 > 0)))

def impl_size_int16.f (N : Nat) (a1 : (List Int)) : Option Int := some (a1.length : Int)

def impl_within.f (N : Nat) (a1 : Int) (a2 : Int) (a3 : Int) : Option Bool := if a2 ≤ a1 then (some (decide (a1 ≤ a3))) else (some false)

def impl_ValidGlasses_1.f (N : Nat) (a1 : Int) : Option Bool := if a1 < 1 then (some true) else (some (decide (a1 > 40)))

def slices_IndexFunc_impl_Glasses_int16_at_impl_ValidGlasses_1.b0 (N : Nat) (a1 : (List Int)) (x3 : Int) : Option (Bd Int (Unit) (Int)) := if x3 < (a1.length : Int) then (if (0 : Int) ≤ x3 ∧ x3 < (a1.length : Int) then ((impl_ValidGlasses_1.f N (rdL a1 x3 0)).bind fun r5 => (if r5 = true then (some (.out (.ret x3))) else (some (.next (i64w (x3 + 1)))))) else none) else (some (.out (.go ())))
def slices_IndexFunc_impl_Glasses_int16_at_impl_ValidGlasses_1.a0 (N : Nat) : Option Int := some (-1)
def slices_IndexFunc_impl_Glasses_int16_at_impl_ValidGlasses_1.f (N : Nat) (a1 : (List Int)) : Option Int := (rounds (fun s => slices_IndexFunc_impl_Glasses_int16_at_impl_ValidGlasses_1.b0 N a1 s) N 0).bind (Ex.fin fun s => slices_IndexFunc_impl_Glasses_int16_at_impl_ValidGlasses_1.a0 N)

def slices_ContainsFunc_impl_Glasses_int16_at_impl_ValidGlasses_1.f (N : Nat) (a1 : (List Int)) : Option Bool := (slices_IndexFunc_impl_Glasses_int16_at_impl_ValidGlasses_1.f N a1).bind fun r3 => (some (decide (r3 ≥ 0)))

def _impl_Glasses_many.b0 (N : Nat) (a1 : (List Int)) (x3 : Int) (x4 : Int) : Option (Bd Int (Int) (Int × Int)) := if x4 < (a1.length : Int) then (if (0 : Int) ≤ x4 ∧ x4 < (a1.length : Int) then (some (.next (i64w (x3 * (i64w ((i64w (rdL a1 x4 0)) + 1))), i64w (x4 + 1)))) else none) else (some (.out (.go x3)))
def _impl_Glasses_many.a0 (N : Nat) (x6 : Int) : Option Int := some x6
def _impl_Glasses_many.f (N : Nat) (a1 : (List Int)) : Option Int := (rounds (fun s => _impl_Glasses_many.b0 N a1 s.1 s.2) N (1, 0)).bind (Ex.fin fun s => _impl_Glasses_many.a0 N s)

def impl_ValidGlasses.f (N : Nat) (a1 : (List Int)) : Option Bool := (impl_size_int16.f N a1).bind fun r3 => ((impl_within.f N r3 1 4).bind fun r4 => (if r4 = true then ((slices_ContainsFunc_impl_Glasses_int16_at_impl_ValidGlasses_1.f N a1).bind fun r5 => (if r5 = true then (some false) else ((_impl_Glasses_many.f N a1).bind fun r6 => (some (decide (r6 ≤ 3000)))))) else (some false)))

def laws_eqGlasses.b0 (N : Nat) (a1 : (List Int)) (a3 : (List Int)) (x5 : Int) : Option (Bd Bool (Unit) (Int)) := if x5 < (a1.length : Int) then (if (0 : Int) ≤ x5 ∧ x5 < (a1.length : Int) then (if (0 : Int) ≤ x5 ∧ x5 < (a3.length : Int) then (if (rdL a1 x5 0) = (rdL a3 x5 0) then (some (.next (i64w (x5 + 1)))) else (some (.out (.ret false)))) else none) else none) else (some (.out (.go ())))
def laws_eqGlasses.a0 (N : Nat) : Option Bool := some true
def laws_eqGlasses.f (N : Nat) (a1 : (List Int)) (a3 : (List Int)) : Option Bool := if (a1.length : Int) = (a3.length : Int) then ((rounds (fun s => laws_eqGlasses.b0 N a1 a3 s) N 0).bind (Ex.fin fun s => laws_eqGlasses.a0 N)) else (some false)

def laws_FnExactValidGlasses.f (N : Nat) (a1 : (List Int)) : Option Bool := if (a1.length : Int) > 1048576 then (some true) else ((laws_toGlasses.f N a1).bind fun r3 => ((spec_ValidGlasses.f N r3).bind fun r6 => ((laws_toGlasses.f N a1).bind fun r7 => ((impl_ValidGlasses.f N r7).bind fun r10 => (if r10 = r6 then ((laws_toGlasses.f N a1).bind fun r11 => ((laws_eqGlasses.f N r7 r11).bind fun r14 => (if r14 = true then (some true) else (some false)))) else (some false))))))

def laws_toByteS.b0 (N : Nat) (a1 : (List Int)) (x8 : (List Int)) (x9 : Int) : Option (Bd (List Int) ((List Int)) ((List Int) × Int)) := if x9 < (a1.length : Int) then (if (0 : Int) ≤ x9 ∧ x9 < (a1.length : Int) then (if (0 : Int) ≤ x9 ∧ x9 < (x8.length : Int) then (some (.next (stL x8 x9 (rdL a1 x9 0), i64w (x9 + 1)))) else none) else none) else (some (.out (.go x8)))
def laws_toByteS.a0 (N : Nat) (x12 : (List Int)) : Option (List Int) := some x12
def laws_toByteS.f (N : Nat) (a1 : (List Int)) : Option (List Int) := if (0 : Int) ≤ (a1.length : Int) ∧ (a1.length : Int) ≤ 281474976710656 then ((rounds (fun s => laws_toByteS.b0 N a1 s.1 s.2) N (List.replicate ((a1.length : Int)).toNat 0, 0)).bind (Ex.fin fun s => laws_toByteS.a0 N s)) else none

def spec_l07Planned.b0 (N : Nat) (a1 : (List Int)) (x3 : Int) : Option (Bd Int (Unit) (Int)) := if x3 < (a1.length : Int) then (if (0 : Int) ≤ x3 ∧ x3 < (a1.length : Int) then (if (rdL a1 x3 0) ≥ 16 then (some (.out (.ret 2))) else (some (.next (i64w (x3 + 1))))) else none) else (some (.out (.go ())))
def spec_l07Planned.a0 (N : Nat) (a1 : (List Int)) : Option Int := if (a1.length : Int) > 60 then (some 3) else (some 0)
def spec_l07Planned.f (N : Nat) (a1 : (List Int)) : Option Int := (rounds (fun s => spec_l07Planned.b0 N a1 s) N 0).bind (Ex.fin fun s => spec_l07Planned.a0 N a1)

def spec_l07Turns.b0 (N : Nat) (x2 : Int) (x3 : Int) : Option (Bd Int (Int) (Int × Int)) := if x2 > 0 then (some (.next (u8w (x2.tdiv 2), i64w (x3 + (i64w (x2.tmod 2)))))) else (some (.out (.go x3)))
def spec_l07Turns.a0 (N : Nat) (x4 : Int) : Option Int := some x4
def spec_l07Turns.f (N : Nat) (a1 : Int) : Option Int := (rounds (fun s => spec_l07Turns.b0 N s.1 s.2) N (a1, 0)).bind (Ex.fin fun s => spec_l07Turns.a0 N s)

def spec_TurnsIn.b0 (N : Nat) (a1 : (List Int)) (x4 : Int) (x5 : Int) : Option (Bd (Int × Int) (Int) (Int × Int)) := if x5 < (a1.length : Int) then (if (0 : Int) ≤ x5 ∧ x5 < (a1.length : Int) then ((spec_l07Turns.f N (rdL a1 x5 0)).bind fun r7 => (some (.next (i64w (x4 + r7), i64w (x5 + 1))))) else none) else (some (.out (.go x4)))
def spec_TurnsIn.a0 (N : Nat) (x8 : Int) : Option (Int × Int) := some (x8, 0)
def spec_TurnsIn.f (N : Nat) (a1 : (List Int)) : Option (Int × Int) := (spec_l07Planned.f N a1).bind fun r3 => (if r3 = 0 then ((rounds (fun s => spec_TurnsIn.b0 N a1 s.1 s.2) N (0, 0)).bind (Ex.fin fun s => spec_TurnsIn.a0 N s)) else (some (0, r3)))

def bits_OnesCount8.f (N : Nat) (a1 : Int) : Option Int := if (0 : Int) ≤ a1 ∧ a1 < ((⟨#[0, 1, 1, 2, 1, 2, 2, 3, 1, 2, 2, 3, 2, 3, 3, 4, 1, 2, 2, 3, 2, 3, 3, 4, 2, 3, 3, 4, 3, 4, 4, 5, 1, 2, 2, 3, 2, 3, 3, 4, 2, 3, 3, 4, 3, 4, 4, 5, 2, 3, 3, 4, 3, 4, 4, 5, 3, 4, 4, 5, 4, 5, 5, 6, 1, 2, 2, 3, 2, 3, 3, 4, 2, 3, 3, 4, 3, 4, 4, 5, 2, 3, 3, 4, 3, 4, 4, 5, 3, 4, 4, 5, 4, 5, 5, 6, 2, 3, 3, 4, 3, 4, 4, 5, 3, 4, 4, 5, 4, 5, 5, 6, 3, 4, 4, 5, 4, 5, 5, 6, 4, 5, 5, 6, 5, 6, 6, 7, 1, 2, 2, 3, 2, 3, 3, 4, 2, 3, 3, 4, 3, 4, 4, 5, 2, 3, 3, 4, 3, 4, 4, 5, 3, 4, 4, 5, 4, 5, 5, 6, 2, 3, 3, 4, 3, 4, 4, 5, 3, 4, 4, 5, 4, 5, 5, 6, 3, 4, 4, 5, 4, 5, 5, 6, 4, 5, 5, 6, 5, 6, 6, 7, 2, 3, 3, 4, 3, 4, 4, 5, 3, 4, 4, 5, 4, 5, 5, 6, 3, 4, 4, 5, 4, 5, 5, 6, 4, 5, 5, 6, 5, 6, 6, 7, 3, 4, 4, 5, 4, 5, 5, 6, 4, 5, 5, 6, 5, 6, 6, 7, 4, 5, 5, 6, 5, 6, 6, 7, 5, 6, 6, 7, 6, 7, 7, 8]⟩ : ByteArray).size : Int) then (some (i64w (btS (⟨#[0, 1, 1, 2, 1, 2, 2, 3, 1, 2, 2, 3, 2, 3, 3, 4, 1, 2, 2, 3, 2, 3, 3, 4, 2, 3, 3, 4, 3, 4, 4, 5, 1, 2, 2, 3, 2, 3, 3, 4, 2, 3, 3, 4, 3, 4, 4, 5, 2, 3, 3, 4, 3, 4, 4, 5, 3, 4, 4, 5, 4, 5, 5, 6, 1, 2, 2, 3, 2, 3, 3, 4, 2, 3, 3, 4, 3, 4, 4, 5, 2, 3, 3, 4, 3, 4, 4, 5, 3, 4, 4, 5, 4, 5, 5, 6, 2, 3, 3, 4, 3, 4, 4, 5, 3, 4, 4, 5, 4, 5, 5, 6, 3, 4, 4, 5, 4, 5, 5, 6, 4, 5, 5, 6, 5, 6, 6, 7, 1, 2, 2, 3, 2, 3, 3, 4, 2, 3, 3, 4, 3, 4, 4, 5, 2, 3, 3, 4, 3, 4, 4, 5, 3, 4, 4, 5, 4, 5, 5, 6, 2, 3, 3, 4, 3, 4, 4, 5, 3, 4, 4, 5, 4, 5, 5, 6, 3, 4, 4, 5, 4, 5, 5, 6, 4, 5, 5, 6, 5, 6, 6, 7, 2, 3, 3, 4, 3, 4, 4, 5, 3, 4, 4, 5, 4, 5, 5, 6, 3, 4, 4, 5, 4, 5, 5, 6, 4, 5, 5, 6, 5, 6, 6, 7, 3, 4, 4, 5, 4, 5, 5, 6, 4, 5, 5, 6, 5, 6, 6, 7, 4, 5, 5, 6, 5, 6, 6, 7, 5, 6, 6, 7, 6, 7, 7, 8]⟩ : ByteArray) a1))) else none

def impl_TurnsIn.b0 (N : Nat) (a1 : (List Int)) (x3 : Int) (x4 : Int) : Option (Bd (Int × Int) (Int) (Int × Int)) := if x4 < (a1.length : Int) then (if (0 : Int) ≤ x4 ∧ x4 < (a1.length : Int) then (if (rdL a1 x4 0) ≥ 16 then (some (.out (.ret (0, 2)))) else ((bits_OnesCount8.f N (rdL a1 x4 0)).bind fun r6 => (some (.next (i64w (x3 + r6), i64w (x4 + 1)))))) else none) else (some (.out (.go x3)))
def impl_TurnsIn.a0 (N : Nat) (a1 : (List Int)) (x7 : Int) : Option (Int × Int) := if (a1.length : Int) > 60 then (some (0, 3)) else (some (x7, 0))
def impl_TurnsIn.f (N : Nat) (a1 : (List Int)) : Option (Int × Int) := (rounds (fun s => impl_TurnsIn.b0 N a1 s.1 s.2) N (0, 0)).bind (Ex.fin fun s => impl_TurnsIn.a0 N a1 s)

def laws_eqByteS.b0 (N : Nat) (a1 : (List Int)) (a3 : (List Int)) (x5 : Int) : Option (Bd Bool (Unit) (Int)) := if x5 < (a1.length : Int) then (if (0 : Int) ≤ x5 ∧ x5 < (a1.length : Int) then (if (0 : Int) ≤ x5 ∧ x5 < (a3.length : Int) then (if (rdL a1 x5 0) = (rdL a3 x5 0) then (some (.next (i64w (x5 + 1)))) else (some (.out (.ret false)))) else none) else none) else (some (.out (.go ())))
def laws_eqByteS.a0 (N : Nat) : Option Bool := some true
def laws_eqByteS.f (N : Nat) (a1 : (List Int)) (a3 : (List Int)) : Option Bool := if (a1.length : Int) = (a3.length : Int) then ((rounds (fun s => laws_eqByteS.b0 N a1 a3 s) N 0).bind (Ex.fin fun s => laws_eqByteS.a0 N)) else (some false)

def laws_FnExactTurnsIn.f (N : Nat) (a1 : (List Int)) : Option Bool := if (a1.length : Int) > 1048576 then (some true) else ((laws_toByteS.f N a1).bind fun r3 => ((spec_TurnsIn.f N r3).bind fun r6 => ((laws_toByteS.f N a1).bind fun r7 => ((impl_TurnsIn.f N r7).bind fun r10 => (if r10.1 = r6.1 then (if r10.2 = r6.2 then ((laws_toByteS.f N a1).bind fun r11 => ((laws_eqByteS.f N r7 r11).bind fun r14 => (if r14 = true then (some true) else (some false)))) else (some false)) else (some false))))))

def laws_toTops.b0 (N : Nat) (a1 : (Ar Int 4)) (x9 : (Ar Int 4)) (x10 : Int) : Option (Bd (Ar Int 4) ((Ar Int 4)) ((Ar Int 4) × Int)) := if x10 < 4 then (if (0 : Int) ≤ x10 ∧ x10 < 4 then (if (0 : Int) ≤ x10 ∧ x10 < 4 then (some (.next (x9.set x10 (a1.get x10 0), i64w (x10 + 1)))) else none) else none) else (some (.out (.go x9)))
def laws_toTops.a0 (N : Nat) (x11 : (Ar Int 4)) : Option (Ar Int 4) := some x11
def laws_toTops.f (N : Nat) (a1 : (Ar Int 4)) : Option (Ar Int 4) := (rounds (fun s => laws_toTops.b0 N a1 s.1 s.2) N ((Ar.rep 4 0), 0)).bind (Ex.fin fun s => laws_toTops.a0 N s)

def spec_l07Ok.j2 (N : Nat) (x7 : Int) (a3 : (Ar Int 4)) (x9 : Int) : Option (Bd Bool (Unit) (Int)) := if (0 : Int) ≤ x7 ∧ x7 < 4 then (if (a3.get x7 0) < 0 then (some (.out (.ret false))) else (if (0 : Int) ≤ x7 ∧ x7 < 4 then (if (a3.get x7 0) > x9 then (some (.out (.ret false))) else (some (.next (i64w (x7 + 1))))) else none)) else none
def spec_l07Ok.b0 (N : Nat) (a1 : (List Int)) (a3 : (Ar Int 4)) (x7 : Int) : Option (Bd Bool (Unit) (Int)) := if x7 < 4 then (if x7 < (a1.length : Int) then (if (0 : Int) ≤ x7 ∧ x7 < (a1.length : Int) then (spec_l07Ok.j2 N x7 a3 (rdL a1 x7 0)) else none) else (spec_l07Ok.j2 N x7 a3 0)) else (some (.out (.go ())))
def spec_l07Ok.a0 (N : Nat) : Option Bool := some true
def spec_l07Ok.f (N : Nat) (a1 : (List Int)) (a3 : (Ar Int 4)) : Option Bool := (spec_l07States.f N a1).bind fun r6 => (if r6 = 0 then (some false) else ((rounds (fun s => spec_l07Ok.b0 N a1 a3 s) N 0).bind (Ex.fin fun s => spec_l07Ok.a0 N)))

def spec_ValidTops.f (N : Nat) (a1 : (List Int)) (a3 : (Ar Int 4)) : Option Bool := (spec_l07Ok.f N a1 a3).bind fun r6 => (some r6)

def _impl_Puzzle_holds.j2 (N : Nat) (a4 : (Ar Int 4)) (x9 : Int) (x11 : Int) : Option (Bd Bool (Unit) (Int)) := if (a4.get x9 0) < 0 then (some (.out (.ret false))) else (if (a4.get x9 0) > x11 then (some (.out (.ret false))) else (some (.next (i64w (x9 + 1)))))
def _impl_Puzzle_holds.b0 (N : Nat) (a1 : S_impl_Puzzle) (a4 : (Ar Int 4)) (x9 : Int) : Option (Bd Bool (Unit) (Int)) := if x9 < 4 then (if (0 : Int) ≤ x9 ∧ x9 < 4 then (if x9 < (a1.f_Jugs.length : Int) then (if (0 : Int) ≤ x9 ∧ x9 < (a1.f_Jugs.length : Int) then (_impl_Puzzle_holds.j2 N a4 x9 (rdL a1.f_Jugs x9 0)) else none) else (_impl_Puzzle_holds.j2 N a4 x9 0)) else none) else (some (.out (.go ())))
def _impl_Puzzle_holds.a0 (N : Nat) : Option Bool := some true
def _impl_Puzzle_holds.f (N : Nat) (a1 : S_impl_Puzzle) (a4 : (Ar Int 4)) : Option Bool := (rounds (fun s => _impl_Puzzle_holds.b0 N a1 a4 s) N 0).bind (Ex.fin fun s => _impl_Puzzle_holds.a0 N)

def impl_ValidTops.f (N : Nat) (a1 : (List Int)) (a3 : (Ar Int 4)) : Option Bool := (impl_ValidGlasses.f N a1).bind fun r6 => (if r6 = true then ((_impl_Puzzle_holds.f N (⟨a1, (Ar.rep 4 0), false⟩ : S_impl_Puzzle) a3).bind fun r7 => (some r7)) else (some false))

def laws_FnExactValidTops.f (N : Nat) (a1 : (List Int)) (a3 : (Ar Int 4)) : Option Bool := if (a1.length : Int) > 1048576 then (some true) else ((laws_toGlasses.f N a1).bind fun r6 => ((laws_toTops.f N a3).bind fun r9 => ((spec_ValidTops.f N r6 r9).bind fun r10 => ((laws_toGlasses.f N a1).bind fun r12 => ((laws_toTops.f N a3).bind fun r15 => ((impl_ValidTops.f N r12 r15).bind fun r16 => (if r16 = r10 then ((laws_toGlasses.f N a1).bind fun r17 => ((laws_eqGlasses.f N r12 r17).bind fun r20 => (if r20 = true then (some true) else (some false)))) else (some false))))))))

def spec_l00Max.f (N : Nat) (a1 : Int) (a2 : Int) : Option Int := if a1 > a2 then (some a1) else (some a2)

def spec_RunsDown.b0 (N : Nat) (a1 : (List Int)) (a3 : (Ar Int 4)) (x7 : Int) (x8 : Int) : Option (Bd (Int × Int) (Int) (Int × Int)) := if x8 < (a1.length : Int) then (if (0 : Int) ≤ x8 ∧ x8 < 4 then ((spec_l00Max.f N x7 (i64w (a3.get x8 0))).bind fun r9 => (some (.next (r9, i64w (x8 + 1))))) else none) else (some (.out (.go x7)))
def spec_RunsDown.a0 (N : Nat) (x10 : Int) : Option (Int × Int) := some (x10, 0)
def spec_RunsDown.f (N : Nat) (a1 : (List Int)) (a3 : (Ar Int 4)) : Option (Int × Int) := (spec_l07Ok.f N a1 a3).bind fun r6 => (if r6 = true then ((rounds (fun s => spec_RunsDown.b0 N a1 a3 s.1 s.2) N (0, 0)).bind (Ex.fin fun s => spec_RunsDown.a0 N s)) else (some (0, 1)))

def slices_Max_int16_int16.b0 (N : Nat) (a1 : (List Int)) (x4 : Int) (x5 : Int) : Option (Bd Int (Int) (Int × Int)) := if x5 < (a1.length : Int) then (if (0 : Int) ≤ x5 ∧ x5 < (a1.length : Int) then (some (.next (mxI x4 (rdL a1 x5 0), i64w (x5 + 1)))) else none) else (some (.out (.go x4)))
def slices_Max_int16_int16.a0 (N : Nat) (x7 : Int) : Option Int := some x7
def slices_Max_int16_int16.f (N : Nat) (a1 : (List Int)) : Option Int := if (a1.length : Int) < 1 then (none) else (if (0 : Int) ≤ 0 ∧ 0 < (a1.length : Int) then ((rounds (fun s => slices_Max_int16_int16.b0 N a1 s.1 s.2) N (rdL a1 0 0, 1)).bind (Ex.fin fun s => slices_Max_int16_int16.a0 N s)) else none)

def impl_RunsDown.f (N : Nat) (a1 : (List Int)) (a3 : (Ar Int 4)) : Option (Int × Int) := (impl_ValidTops.f N a1 a3).bind fun r6 => (if r6 = true then ((slices_Max_int16_int16.f N a3.l).bind fun r7 => (some (i64w r7, 0))) else (some (0, 1)))

def laws_FnExactRunsDown.f (N : Nat) (a1 : (List Int)) (a3 : (Ar Int 4)) : Option Bool := if (a1.length : Int) > 1048576 then (some true) else ((laws_toGlasses.f N a1).bind fun r6 => ((laws_toTops.f N a3).bind fun r9 => ((spec_RunsDown.f N r6 r9).bind fun r10 => ((laws_toGlasses.f N a1).bind fun r12 => ((laws_toTops.f N a3).bind fun r15 => ((impl_RunsDown.f N r12 r15).bind fun r16 => (if r16.1 = r10.1 then (if r16.2 = r10.2 then ((laws_toGlasses.f N a1).bind fun r17 => ((laws_eqGlasses.f N r12 r17).bind fun r20 => (if r20 = true then (some true) else (some false)))) else (some false)) else (some false))))))))

def spec_l01Gcd.body (N : Nat) (self : Int → Int → Option Int) (a1 : Int) (a2 : Int) : Option Int := if a2 = 0 then (some a1) else (if ¬ a2 = 0 then ((self a2 (a1.tmod a2)).bind fun r3 => (some r3)) else none)
def spec_l01Gcd.g (N : Nat) : Nat → Int → Int → Option Int
  | 0, _, _ => none
  | k + 1, a1, a2 => spec_l01Gcd.body N (spec_l01Gcd.g N k) a1 a2
def spec_l01Gcd.f (N : Nat) (a1 : Int) (a2 : Int) : Option Int := spec_l01Gcd.g N N a1 a2

def spec_StepOfGlasses.b0 (N : Nat) (a1 : (List Int)) (a3 : (Ar Int 4)) (x7 : Int) (x8 : Int) : Option (Bd (Int × Int) (Int) (Int × Int)) := if x8 < (a1.length : Int) then (if (0 : Int) ≤ x8 ∧ x8 < (a1.length : Int) then ((spec_l01Gcd.f N x7 (i64w (rdL a1 x8 0))).bind fun r10 => (if (0 : Int) ≤ x8 ∧ x8 < 4 then ((spec_l01Gcd.f N r10 (i64w (a3.get x8 0))).bind fun r11 => (some (.next (r11, i64w (x8 + 1))))) else none)) else none) else (some (.out (.go x7)))
def spec_StepOfGlasses.a0 (N : Nat) (x12 : Int) : Option (Int × Int) := some (x12, 0)
def spec_StepOfGlasses.f (N : Nat) (a1 : (List Int)) (a3 : (Ar Int 4)) : Option (Int × Int) := (spec_l07Ok.f N a1 a3).bind fun r6 => (if r6 = true then ((rounds (fun s => spec_StepOfGlasses.b0 N a1 a3 s.1 s.2) N (0, 0)).bind (Ex.fin fun s => spec_StepOfGlasses.a0 N s)) else (some (0, 1)))

def impl_divisor.b0 (N : Nat) (x3 : Int) (x4 : Int) : Option (Bd Int (Int) (Int × Int)) := if x4 = 0 then (some (.out (.go x3))) else (if ¬ x4 = 0 then (some (.next (x4, x3.tmod x4))) else none)
def impl_divisor.a0 (N : Nat) (x5 : Int) : Option Int := some x5
def impl_divisor.f (N : Nat) (a1 : Int) (a2 : Int) : Option Int := (rounds (fun s => impl_divisor.b0 N s.1 s.2) N (a1, a2)).bind (Ex.fin fun s => impl_divisor.a0 N s)

def impl_StepOfGlasses.b0 (N : Nat) (a1 : (List Int)) (a3 : (Ar Int 4)) (x7 : Int) (x8 : Int) : Option (Bd (Int × Int) (Int) (Int × Int)) := if x8 < (a1.length : Int) then (if (0 : Int) ≤ x8 ∧ x8 < (a1.length : Int) then ((impl_divisor.f N x7 (i64w (rdL a1 x8 0))).bind fun r10 => (if (0 : Int) ≤ x8 ∧ x8 < 4 then ((impl_divisor.f N r10 (i64w (a3.get x8 0))).bind fun r11 => (some (.next (r11, i64w (x8 + 1))))) else none)) else none) else (some (.out (.go x7)))
def impl_StepOfGlasses.a0 (N : Nat) (x12 : Int) : Option (Int × Int) := some (x12, 0)
def impl_StepOfGlasses.f (N : Nat) (a1 : (List Int)) (a3 : (Ar Int 4)) : Option (Int × Int) := (impl_ValidTops.f N a1 a3).bind fun r6 => (if r6 = true then ((rounds (fun s => impl_StepOfGlasses.b0 N a1 a3 s.1 s.2) N (0, 0)).bind (Ex.fin fun s => impl_StepOfGlasses.a0 N s)) else (some (0, 1)))

def laws_FnExactStepOfGlasses.f (N : Nat) (a1 : (List Int)) (a3 : (Ar Int 4)) : Option Bool := if (a1.length : Int) > 1048576 then (some true) else ((laws_toGlasses.f N a1).bind fun r6 => ((laws_toTops.f N a3).bind fun r9 => ((spec_StepOfGlasses.f N r6 r9).bind fun r10 => ((laws_toGlasses.f N a1).bind fun r12 => ((laws_toTops.f N a3).bind fun r15 => ((impl_StepOfGlasses.f N r12 r15).bind fun r16 => (if r16.1 = r10.1 then (if r16.2 = r10.2 then ((laws_toGlasses.f N a1).bind fun r17 => ((laws_eqGlasses.f N r12 r17).bind fun r20 => (if r20 = true then (some true) else (some false)))) else (some false)) else (some false))))))))

def spec_l07Sets.f (N : Nat) (a1 : (List Int)) : Option Int := if (0 : Int) ≤ (u64w (a1.length : Int)) then (some (shlI .i64 1 (u64w (a1.length : Int)))) else none

def spec_l07Turn.j2 (N : Nat) (x12 : Int) (x13 : (Ar Int 4)) : Option (Bd (Ar Int 4) ((Ar Int 4)) ((Ar Int 4) × Int)) := some (.next (x13, i64w (x12 + 1)))
def spec_l07Turn.b0 (N : Nat) (a1 : (List Int)) (a4 : Int) (x11 : (Ar Int 4)) (x12 : Int) : Option (Bd (Ar Int 4) ((Ar Int 4)) ((Ar Int 4) × Int)) := if x12 < (a1.length : Int) then (if (0 : Int) ≤ (u64w x12) then (if ((shrI .u8 a4 (u64w x12)).tmod 2) = 1 then (if (0 : Int) ≤ x12 ∧ x12 < (a1.length : Int) then (if (0 : Int) ≤ x12 ∧ x12 < 4 then (if (0 : Int) ≤ x12 ∧ x12 < 4 then (spec_l07Turn.j2 N x12 (x11.set x12 (i16w ((rdL a1 x12 0) - (x11.get x12 0))))) else none) else none) else none) else (spec_l07Turn.j2 N x12 x11)) else none) else (some (.out (.go x11)))
def spec_l07Turn.a0 (N : Nat) (x14 : (Ar Int 4)) : Option (Ar Int 4) := some x14
def spec_l07Turn.f (N : Nat) (a1 : (List Int)) (a3 : (Ar Int 4)) (a4 : Int) : Option (Ar Int 4) := (rounds (fun s => spec_l07Turn.b0 N a1 a4 s.1 s.2) N (a3, 0)).bind (Ex.fin fun s => spec_l07Turn.a0 N s)

def spec_TurnGlasses.f (N : Nat) (a1 : (List Int)) (a3 : (Ar Int 4)) (a4 : Int) : Option ((Ar Int 4) × Int) := (spec_l07Ok.f N a1 a3).bind fun r9 => (if r9 = true then ((spec_l07Sets.f N a1).bind fun r10 => (if (i64w a4) ≥ r10 then (some ((Ar.rep 4 0), 2)) else ((spec_l07Turn.f N a1 a3 a4).bind fun r11 => (some (r11, 0))))) else (some ((Ar.rep 4 0), 1)))

def _impl_Glasses_isSet.f (N : Nat) (a1 : (List Int)) (a3 : Int) : Option Bool := if (0 : Int) ≤ (a1.length : Int) then (some (decide ((i64w a3) < (shlI .i64 1 (a1.length : Int))))) else none

def _impl_Glasses_turned.j2 (N : Nat) (x13 : Int) (x15 : (Ar Int 4)) : Option (Bd (Ar Int 4) ((Ar Int 4)) ((Ar Int 4) × Int)) := some (.next (x15, i64w (x13 + 1)))
def _impl_Glasses_turned.b0 (N : Nat) (a1 : (List Int)) (a4 : Int) (x12 : (Ar Int 4)) (x13 : Int) : Option (Bd (Ar Int 4) ((Ar Int 4)) ((Ar Int 4) × Int)) := if x13 < (a1.length : Int) then (if (0 : Int) ≤ x13 ∧ x13 < (a1.length : Int) then (if (0 : Int) ≤ x13 then (if (bAnd .u8 (shrI .u8 a4 x13) 1) = 1 then (if (0 : Int) ≤ x13 ∧ x13 < 4 then (if (0 : Int) ≤ x13 ∧ x13 < 4 then (_impl_Glasses_turned.j2 N x13 (x12.set x13 (i16w ((rdL a1 x13 0) - (x12.get x13 0))))) else none) else none) else (_impl_Glasses_turned.j2 N x13 x12)) else none) else none) else (some (.out (.go x12)))
def _impl_Glasses_turned.a0 (N : Nat) (x16 : (Ar Int 4)) : Option (Ar Int 4) := some x16
def _impl_Glasses_turned.f (N : Nat) (a1 : (List Int)) (a3 : (Ar Int 4)) (a4 : Int) : Option (Ar Int 4) := (rounds (fun s => _impl_Glasses_turned.b0 N a1 a4 s.1 s.2) N (a3, 0)).bind (Ex.fin fun s => _impl_Glasses_turned.a0 N s)

def impl_TurnGlasses.f (N : Nat) (a1 : (List Int)) (a3 : (Ar Int 4)) (a4 : Int) : Option ((Ar Int 4) × Int) := (impl_ValidTops.f N a1 a3).bind fun r9 => (if r9 = true then ((_impl_Glasses_isSet.f N a1 a4).bind fun r10 => (if r10 = true then ((_impl_Glasses_turned.f N a1 a3 a4).bind fun r11 => (some (r11, 0))) else (some ((Ar.rep 4 0), 2)))) else (some ((Ar.rep 4 0), 1)))

def laws_eqTops.b0 (N : Nat) (a1 : (Ar Int 4)) (a2 : (Ar Int 4)) (x7 : Int) : Option (Bd Bool (Unit) (Int)) := if x7 < 4 then (if (0 : Int) ≤ x7 ∧ x7 < 4 then (if (0 : Int) ≤ x7 ∧ x7 < 4 then (if (a1.get x7 0) = (a2.get x7 0) then (some (.next (i64w (x7 + 1)))) else (some (.out (.ret false)))) else none) else none) else (some (.out (.go ())))
def laws_eqTops.a0 (N : Nat) : Option Bool := some true
def laws_eqTops.f (N : Nat) (a1 : (Ar Int 4)) (a2 : (Ar Int 4)) : Option Bool := (rounds (fun s => laws_eqTops.b0 N a1 a2 s) N 0).bind (Ex.fin fun s => laws_eqTops.a0 N)

def laws_FnExactTurnGlasses.f (N : Nat) (a1 : (List Int)) (a3 : (Ar Int 4)) (a4 : Int) : Option Bool := if (a1.length : Int) > 1048576 then (some true) else ((laws_toGlasses.f N a1).bind fun r7 => ((laws_toTops.f N a3).bind fun r10 => ((spec_TurnGlasses.f N r7 r10 a4).bind fun r11 => ((laws_toGlasses.f N a1).bind fun r16 => ((laws_toTops.f N a3).bind fun r19 => ((impl_TurnGlasses.f N r16 r19 a4).bind fun r20 => ((laws_eqTops.f N r20.1 r11.1).bind fun r23 => (if r23 = true then (if r20.2 = r11.2 then ((laws_toGlasses.f N a1).bind fun r24 => ((laws_eqGlasses.f N r16 r24).bind fun r27 => (if r27 = true then (some true) else (some false)))) else (some false)) else (some false)))))))))

def spec_l07Wait.j5 (N : Nat) (x7 : Int) (x8 : Int) : Option (Bd ((Ar Int 4) × Int) (Int) (Int × Int)) := some (.next (x8, i64w (x7 + 1)))
def spec_l07Wait.b0 (N : Nat) (a1 : (Ar Int 4)) (x6 : Int) (x7 : Int) : Option (Bd ((Ar Int 4) × Int) (Int) (Int × Int)) := if x7 < 4 then (if (0 : Int) ≤ x7 ∧ x7 < 4 then (if (a1.get x7 0) > 0 then (if x6 = 0 then (if (0 : Int) ≤ x7 ∧ x7 < 4 then (spec_l07Wait.j5 N x7 (a1.get x7 0)) else none) else (if (0 : Int) ≤ x7 ∧ x7 < 4 then (if (a1.get x7 0) < x6 then (if (0 : Int) ≤ x7 ∧ x7 < 4 then (spec_l07Wait.j5 N x7 (a1.get x7 0)) else none) else (spec_l07Wait.j5 N x7 x6)) else none)) else (spec_l07Wait.j5 N x7 x6)) else none) else (some (.out (.go x6)))
def spec_l07Wait.j4 (N : Nat) (x13 : Int) (x14 : (Ar Int 4)) : Option (Bd ((Ar Int 4) × Int) ((Ar Int 4)) ((Ar Int 4) × Int)) := some (.next (x14, i64w (x13 + 1)))
def spec_l07Wait.b2 (N : Nat) (x9 : Int) (x12 : (Ar Int 4)) (x13 : Int) : Option (Bd ((Ar Int 4) × Int) ((Ar Int 4)) ((Ar Int 4) × Int)) := if x13 < 4 then (if (0 : Int) ≤ x13 ∧ x13 < 4 then (if (x12.get x13 0) > 0 then (if (0 : Int) ≤ x13 ∧ x13 < 4 then (if (0 : Int) ≤ x13 ∧ x13 < 4 then (spec_l07Wait.j4 N x13 (x12.set x13 (i16w ((x12.get x13 0) - x9)))) else none) else none) else (spec_l07Wait.j4 N x13 x12)) else none) else (some (.out (.go x12)))
def spec_l07Wait.a2 (N : Nat) (x9 : Int) (x15 : (Ar Int 4)) : Option ((Ar Int 4) × Int) := some (x15, i64w x9)
def spec_l07Wait.a0 (N : Nat) (a1 : (Ar Int 4)) (x9 : Int) : Option ((Ar Int 4) × Int) := (rounds (fun s => spec_l07Wait.b2 N x9 s.1 s.2) N (a1, 0)).bind (Ex.fin fun s => spec_l07Wait.a2 N x9 s)
def spec_l07Wait.f (N : Nat) (a1 : (Ar Int 4)) : Option ((Ar Int 4) × Int) := (rounds (fun s => spec_l07Wait.b0 N a1 s.1 s.2) N (0, 0)).bind (Ex.fin fun s => spec_l07Wait.a0 N a1 s)

def spec_WaitFor.f (N : Nat) (a1 : (List Int)) (a3 : (Ar Int 4)) : Option ((Ar Int 4) × Int × Int) := (spec_l07Ok.f N a1 a3).bind fun r8 => (if r8 = true then ((spec_l07Wait.f N a3).bind fun r9 => (if r9.2 = 0 then (some ((Ar.rep 4 0), 0, 4)) else (some (r9.1, r9.2, 0)))) else (some ((Ar.rep 4 0), 0, 1)))

def impl_wait.j4 (N : Nat) (x7 : Int) (x8 : Int) : Option (Bd ((Ar Int 4) × Int) (Int) (Int × Int)) := some (.next (x8, i64w (x7 + 1)))
def impl_wait.b0 (N : Nat) (a1 : (Ar Int 4)) (x6 : Int) (x7 : Int) : Option (Bd ((Ar Int 4) × Int) (Int) (Int × Int)) := if x7 < 4 then (if (0 : Int) ≤ x7 ∧ x7 < 4 then (if (a1.get x7 0) > 0 then (if x6 = 0 then (impl_wait.j4 N x7 (a1.get x7 0)) else (if (a1.get x7 0) < x6 then (impl_wait.j4 N x7 (a1.get x7 0)) else (impl_wait.j4 N x7 x6))) else (impl_wait.j4 N x7 x6)) else none) else (some (.out (.go x6)))
def impl_wait.b2 (N : Nat) (x9 : Int) (x11 : (Ar Int 4)) (x12 : Int) : Option (Bd ((Ar Int 4) × Int) ((Ar Int 4)) ((Ar Int 4) × Int)) := if x12 < 4 then (if (0 : Int) ≤ x12 ∧ x12 < 4 then (if (0 : Int) ≤ x12 ∧ x12 < 4 then (some (.next (x11.set x12 (mxI (i16w ((x11.get x12 0) - x9)) 0), i64w (x12 + 1)))) else none) else none) else (some (.out (.go x11)))
def impl_wait.a2 (N : Nat) (x9 : Int) (x13 : (Ar Int 4)) : Option ((Ar Int 4) × Int) := some (x13, i64w x9)
def impl_wait.a0 (N : Nat) (a1 : (Ar Int 4)) (x9 : Int) : Option ((Ar Int 4) × Int) := (rounds (fun s => impl_wait.b2 N x9 s.1 s.2) N (a1, 0)).bind (Ex.fin fun s => impl_wait.a2 N x9 s)
def impl_wait.f (N : Nat) (a1 : (Ar Int 4)) : Option ((Ar Int 4) × Int) := (rounds (fun s => impl_wait.b0 N a1 s.1 s.2) N (0, 0)).bind (Ex.fin fun s => impl_wait.a0 N a1 s)

def impl_WaitFor.f (N : Nat) (a1 : (List Int)) (a3 : (Ar Int 4)) : Option ((Ar Int 4) × Int × Int) := (impl_ValidTops.f N a1 a3).bind fun r8 => (if r8 = true then ((impl_wait.f N a3).bind fun r9 => (if r9.2 = 0 then (some ((Ar.rep 4 0), 0, 4)) else (some (r9.1, r9.2, 0)))) else (some ((Ar.rep 4 0), 0, 1)))

def laws_FnExactWaitFor.f (N : Nat) (a1 : (List Int)) (a3 : (Ar Int 4)) : Option Bool := if (a1.length : Int) > 1048576 then (some true) else ((laws_toGlasses.f N a1).bind fun r6 => ((laws_toTops.f N a3).bind fun r9 => ((spec_WaitFor.f N r6 r9).bind fun r10 => ((laws_toGlasses.f N a1).bind fun r15 => ((laws_toTops.f N a3).bind fun r18 => ((impl_WaitFor.f N r15 r18).bind fun r19 => ((laws_eqTops.f N r19.1 r10.1).bind fun r22 => (if r22 = true then (if r19.2.1 = r10.2.1 then (if r19.2.2 = r10.2.2 then ((laws_toGlasses.f N a1).bind fun r23 => ((laws_eqGlasses.f N r15 r23).bind fun r26 => (if r26 = true then (some true) else (some false)))) else (some false)) else (some false)) else (some false)))))))))

def spec_l05Text.j2 (N : Nat) (x3 : Int) (x6 : ByteArray) : Option (Bd ByteArray (ByteArray) (ByteArray × Int)) := some (.next (x6, i64w (x3 + 1)))
def spec_l05Text.b0 (N : Nat) (a1 : Int) (x2 : ByteArray) (x3 : Int) : Option (Bd ByteArray (ByteArray) (ByteArray × Int)) := if x3 < 8 then (if (0 : Int) ≤ (u64w x3) then (if ((shrI .u16 a1 (u64w x3)).tmod 2) = 1 then (if (x2.size : Int) + (bsOf ([u8w (i64w (97 + x3))])).size ≤ 9223372036854775807 then (spec_l05Text.j2 N x3 (x2 ++ (bsOf ([u8w (i64w (97 + x3))])))) else none) else (spec_l05Text.j2 N x3 x2)) else none) else (some (.out (.go x2)))
def spec_l05Text.a0 (N : Nat) (x7 : ByteArray) : Option ByteArray := some x7
def spec_l05Text.f (N : Nat) (a1 : Int) : Option ByteArray := if a1 = 0 then (some (⟨#[45]⟩ : ByteArray)) else ((rounds (fun s => spec_l05Text.b0 N a1 s.1 s.2) N ((⟨#[]⟩ : ByteArray), 0)).bind (Ex.fin fun s => spec_l05Text.a0 N s))

def spec_l07PlanText.j2 (N : Nat) (x4 : Int) (a1 : (List Int)) (x5 : ByteArray) : Option (Bd ByteArray (ByteArray) (ByteArray × Int)) := if (0 : Int) ≤ x4 ∧ x4 < (a1.length : Int) then ((spec_l05Text.f N (u16w (rdL a1 x4 0))).bind fun r7 => (if (x5.size : Int) + r7.size ≤ 9223372036854775807 then (some (.next (x5 ++ r7, i64w (x4 + 1)))) else none)) else none
def spec_l07PlanText.b0 (N : Nat) (a1 : (List Int)) (x3 : ByteArray) (x4 : Int) : Option (Bd ByteArray (ByteArray) (ByteArray × Int)) := if x4 < (a1.length : Int) then (if x4 > 0 then (if (x3.size : Int) + (⟨#[32]⟩ : ByteArray).size ≤ 9223372036854775807 then (spec_l07PlanText.j2 N x4 a1 (x3 ++ (⟨#[32]⟩ : ByteArray))) else none) else (spec_l07PlanText.j2 N x4 a1 x3)) else (some (.out (.go x3)))
def spec_l07PlanText.a0 (N : Nat) (x8 : ByteArray) : Option ByteArray := some x8
def spec_l07PlanText.f (N : Nat) (a1 : (List Int)) : Option ByteArray := (rounds (fun s => spec_l07PlanText.b0 N a1 s.1 s.2) N ((⟨#[]⟩ : ByteArray), 0)).bind (Ex.fin fun s => spec_l07PlanText.a0 N s)

def spec_TurnsText.f (N : Nat) (a1 : (List Int)) : Option ByteArray := (spec_l07Planned.f N a1).bind fun r3 => (if r3 = 0 then ((spec_l07PlanText.f N a1).bind fun r4 => (some r4)) else (some (⟨#[]⟩ : ByteArray)))

def impl_letter.f (N : Nat) (a1 : Int) : Option ByteArray := some (bsOf ([u8w (i8w (97 + a1))]))

def impl_setText.j2 (N : Nat) (x3 : Int) (x5 : ByteArray) : Option (Bd ByteArray (ByteArray) (ByteArray × Int)) := some (.next (x5, i8w (x3 + 1)))
def impl_setText.b0 (N : Nat) (a1 : Int) (x2 : ByteArray) (x3 : Int) : Option (Bd ByteArray (ByteArray) (ByteArray × Int)) := if x3 < 64 then (if (0 : Int) ≤ x3 then (if (bAnd .u64 (shrI .u64 a1 x3) 1) = 1 then ((impl_letter.f N x3).bind fun r4 => (if (x2.size : Int) + r4.size ≤ 9223372036854775807 then (impl_setText.j2 N x3 (x2 ++ r4)) else none)) else (impl_setText.j2 N x3 x2)) else none) else (some (.out (.go x2)))
def impl_setText.a0 (N : Nat) (x6 : ByteArray) : Option ByteArray := some x6
def impl_setText.f (N : Nat) (a1 : Int) : Option ByteArray := if a1 = 0 then (some (⟨#[45]⟩ : ByteArray)) else ((rounds (fun s => impl_setText.b0 N a1 s.1 s.2) N ((⟨#[]⟩ : ByteArray), 0)).bind (Ex.fin fun s => impl_setText.a0 N s))

def spec_l07Asked.f (N : Nat) (a1 : (List Int)) (a3 : (Ar Int 4)) (a4 : Int) : Option Int := (spec_l07Ok.f N a1 a3).bind fun r7 => (if r7 = true then ((spec_l00In.f N a4 0 120).bind fun r8 => (if r8 = true then (some 0) else (some 2))) else (some 1))

def spec_l07Run.b0 (N : Nat) (a4 : (List Int)) (a1 : (List Int)) (x33 : (Ar Int 4)) (x36 : (List Int)) (x37 : Int) (x38 : Int) : Option (Bd ((List Int) × (Ar Int 4) × Int) ((Ar Int 4) × (List Int)) ((Ar Int 4) × (List Int) × Int × Int)) := if x38 < (a4.length : Int) then (if (0 : Int) ≤ x38 ∧ x38 < (a4.length : Int) then ((spec_l07Sets.f N a1).bind fun r39 => (if (i64w (rdL a4 x38 0)) ≥ r39 then (some (.out (.ret (([] : List Int), (Ar.rep 4 0), 2)))) else (if (0 : Int) ≤ x38 ∧ x38 < (a4.length : Int) then ((spec_l07Turn.f N a1 x33 (rdL a4 x38 0)).bind fun r42 => ((spec_l07Wait.f N r42).bind fun r43 => (if r43.2 = 0 then (some (.out (.ret (([] : List Int), (Ar.rep 4 0), 4)))) else (if x36.length + ([i64w (x37 + r43.2)]).length ≤ 17592186044416 then (some (.next (r43.1, x36 ++ ([i64w (x37 + r43.2)]), i64w (x37 + r43.2), i64w (x38 + 1)))) else none)))) else none))) else none) else (some (.out (.go (x33, x36))))
def spec_l07Run.a0 (N : Nat) (x53 : (Ar Int 4)) (x55 : (List Int)) : Option ((List Int) × (Ar Int 4) × Int) := some (x55, x53, 0)
def spec_l07Run.f (N : Nat) (a1 : (List Int)) (a3 : (Ar Int 4)) (a4 : (List Int)) : Option ((List Int) × (Ar Int 4) × Int) := if (a4.length : Int) > 60 then (some (([] : List Int), (Ar.rep 4 0), 3)) else ((rounds (fun s => spec_l07Run.b0 N a4 a1 s.1 s.2.1 s.2.2.1 s.2.2.2) N (a3, ([] : List Int), 0, 0)).bind (Ex.fin fun s => spec_l07Run.a0 N s.1 s.2))

def spec_CheckTurns.f (N : Nat) (a1 : (List Int)) (a3 : (Ar Int 4)) (a4 : (List Int)) (a6 : Int) : Option (Bool × Int) := (spec_l07Asked.f N a1 a3 a6).bind fun r9 => (if r9 = 0 then ((spec_l07Run.f N a1 a3 a4).bind fun r10 => (if r10.2.2 = 0 then (if (r10.1.length : Int) = 0 then (some (a6 == 0, 0)) else (if (0 : Int) ≤ (i64w ((r10.1.length : Int) - 1)) ∧ (i64w ((r10.1.length : Int) - 1)) < (r10.1.length : Int) then (some ((rdL r10.1 (i64w ((r10.1.length : Int) - 1)) 0) == a6, 0)) else none)) else (some (false, 0)))) else (some (false, r9)))

def impl_unless.f (N : Nat) (a1 : Bool) (a2 : Int) : Option Int := if a1 = true then (some 0) else (some a2)

def impl_timeCode.f (N : Nat) (a1 : (List Int)) (a3 : (Ar Int 4)) (a4 : Int) : Option Int := (impl_ValidTops.f N a1 a3).bind fun r7 => (if r7 = true then ((impl_within.f N a4 0 120).bind fun r8 => ((impl_unless.f N r8 2).bind fun r9 => (some r9))) else (some 1))

def impl_RunTurns.b0 (N : Nat) (a4 : (List Int)) (a1 : (List Int)) (x29 : (Ar Int 4)) (x32 : (List Int)) (x33 : Int) (x34 : Int) : Option (Bd ((List Int) × (Ar Int 4) × Int) ((Ar Int 4) × (List Int)) ((Ar Int 4) × (List Int) × Int × Int)) := if x34 < (a4.length : Int) then (if (0 : Int) ≤ x34 ∧ x34 < (a4.length : Int) then ((_impl_Glasses_isSet.f N a1 (rdL a4 x34 0)).bind fun r36 => (if r36 = true then ((_impl_Glasses_turned.f N a1 x29 (rdL a4 x34 0)).bind fun r37 => ((impl_wait.f N r37).bind fun r38 => (if r38.2 = 0 then (some (.out (.ret ([], (Ar.rep 4 0), 4)))) else (if x32.length + ([i64w (x33 + r38.2)]).length ≤ 17592186044416 then (some (.next (r38.1, x32 ++ ([i64w (x33 + r38.2)]), i64w (x33 + r38.2), i64w (x34 + 1)))) else none)))) else (some (.out (.ret ([], (Ar.rep 4 0), 2)))))) else none) else (some (.out (.go (x29, x32))))
def impl_RunTurns.a0 (N : Nat) (x45 : (Ar Int 4)) (x47 : (List Int)) : Option ((List Int) × (Ar Int 4) × Int) := some (x47, x45, 0)
def impl_RunTurns.f (N : Nat) (a1 : (List Int)) (a3 : (Ar Int 4)) (a4 : (List Int)) : Option ((List Int) × (Ar Int 4) × Int) := (impl_ValidTops.f N a1 a3).bind fun r10 => (if r10 = true then (if (a4.length : Int) > 60 then (some ([], (Ar.rep 4 0), 3)) else ((rounds (fun s => impl_RunTurns.b0 N a4 a1 s.1 s.2.1 s.2.2.1 s.2.2.2) N (a3, ([] : List Int), 0, 0)).bind (Ex.fin fun s => impl_RunTurns.a0 N s.1 s.2))) else (some ([], (Ar.rep 4 0), 1)))

def impl_CheckTurns.f (N : Nat) (a1 : (List Int)) (a3 : (Ar Int 4)) (a4 : (List Int)) (a6 : Int) : Option (Bool × Int) := (impl_timeCode.f N a1 a3 a6).bind fun r9 => (if r9 = 0 then ((impl_RunTurns.f N a1 a3 a4).bind fun r10 => (if ([0]).length + r10.1.length ≤ 17592186044416 then (if (0 : Int) ≤ (r10.1.length : Int) ∧ (r10.1.length : Int) < ((([0]) ++ r10.1).length : Int) then (if r10.2.2 = 0 then (some ((rdL (([0]) ++ r10.1) (r10.1.length : Int) 0) == a6, 0)) else (some (false, 0))) else none) else none)) else (some (false, r9)))

def laws_FnExactCheckTurns.f (N : Nat) (a1 : (List Int)) (a3 : (Ar Int 4)) (a4 : (List Int)) (a6 : Int) : Option Bool := if (a1.length : Int) > 1048576 then (some true) else (if (a4.length : Int) > 1048576 then (some true) else ((laws_toGlasses.f N a1).bind fun r9 => ((laws_toTops.f N a3).bind fun r12 => ((laws_toByteS.f N a4).bind fun r13 => ((spec_CheckTurns.f N r9 r12 r13 a6).bind fun r16 => ((laws_toGlasses.f N a1).bind fun r19 => ((laws_toByteS.f N a4).bind fun r22 => ((laws_toTops.f N a3).bind fun r25 => ((impl_CheckTurns.f N r19 r25 r22 a6).bind fun r26 => (if r26.1 = r16.1 then (if r26.2 = r16.2 then ((laws_toGlasses.f N a1).bind fun r27 => ((laws_eqGlasses.f N r19 r27).bind fun r30 => (if r30 = true then ((laws_toByteS.f N a4).bind fun r31 => ((laws_eqByteS.f N r22 r31).bind fun r34 => (if r34 = true then (some true) else (some false)))) else (some false)))) else (some false)) else (some false)))))))))))

def spec_RunTurns.f (N : Nat) (a1 : (List Int)) (a3 : (Ar Int 4)) (a4 : (List Int)) : Option ((List Int) × (Ar Int 4) × Int) := (spec_l07Ok.f N a1 a3).bind fun r10 => (if r10 = true then ((spec_l07Run.f N a1 a3 a4).bind fun r11 => (some (r11.1, r11.2.1, r11.2.2))) else (some (([] : List Int), (Ar.rep 4 0), 1)))

def laws_eqInt64S.b0 (N : Nat) (a1 : (List Int)) (a3 : (List Int)) (x5 : Int) : Option (Bd Bool (Unit) (Int)) := if x5 < (a1.length : Int) then (if (0 : Int) ≤ x5 ∧ x5 < (a1.length : Int) then (if (0 : Int) ≤ x5 ∧ x5 < (a3.length : Int) then (if (rdL a1 x5 0) = (rdL a3 x5 0) then (some (.next (i64w (x5 + 1)))) else (some (.out (.ret false)))) else none) else none) else (some (.out (.go ())))
def laws_eqInt64S.a0 (N : Nat) : Option Bool := some true
def laws_eqInt64S.f (N : Nat) (a1 : (List Int)) (a3 : (List Int)) : Option Bool := if (a1.length : Int) = (a3.length : Int) then ((rounds (fun s => laws_eqInt64S.b0 N a1 a3 s) N 0).bind (Ex.fin fun s => laws_eqInt64S.a0 N)) else (some false)

def laws_markGlasses.b0 (N : Nat) (x8 : (List Int)) (x9 : Int) (x10 : Int) : Option (Bd (Int × (List Int)) (Int × (List Int)) ((List Int) × Int × Int)) := if x10 < (x8.length : Int) then (if (0 : Int) ≤ x10 ∧ x10 < (x8.length : Int) then (some (.next (stL x8 x10 (i16w x9), i64w (x9 + 1), i64w (x10 + 1)))) else none) else (some (.out (.go (x9, x8))))
def laws_markGlasses.a0 (N : Nat) (x12 : Int) (x13 : (List Int)) : Option (Int × (List Int)) := some (x12, x13)
def laws_markGlasses.f (N : Nat) (a1 : (List Int)) (a4 : Int) : Option (Int × (List Int)) := (rounds (fun s => laws_markGlasses.b0 N s.1 s.2.1 s.2.2) N (a1, a4, 0)).bind (Ex.fin fun s => laws_markGlasses.a0 N s.1 s.2)

def laws_markByteS.b0 (N : Nat) (x8 : (List Int)) (x9 : Int) (x10 : Int) : Option (Bd (Int × (List Int)) (Int × (List Int)) ((List Int) × Int × Int)) := if x10 < (x8.length : Int) then (if (0 : Int) ≤ x10 ∧ x10 < (x8.length : Int) then (some (.next (stL x8 x10 (u8w x9), i64w (x9 + 1), i64w (x10 + 1)))) else none) else (some (.out (.go (x9, x8))))
def laws_markByteS.a0 (N : Nat) (x12 : Int) (x13 : (List Int)) : Option (Int × (List Int)) := some (x12, x13)
def laws_markByteS.f (N : Nat) (a1 : (List Int)) (a4 : Int) : Option (Int × (List Int)) := (rounds (fun s => laws_markByteS.b0 N s.1 s.2.1 s.2.2) N (a1, a4, 0)).bind (Ex.fin fun s => laws_markByteS.a0 N s.1 s.2)

def laws_markInt64S.b0 (N : Nat) (x8 : (List Int)) (x9 : Int) (x10 : Int) : Option (Bd (Int × (List Int)) (Int × (List Int)) ((List Int) × Int × Int)) := if x10 < (x8.length : Int) then (if (0 : Int) ≤ x10 ∧ x10 < (x8.length : Int) then (some (.next (stL x8 x10 x9, i64w (x9 + 1), i64w (x10 + 1)))) else none) else (some (.out (.go (x9, x8))))
def laws_markInt64S.a0 (N : Nat) (x12 : Int) (x13 : (List Int)) : Option (Int × (List Int)) := some (x12, x13)
def laws_markInt64S.f (N : Nat) (a1 : (List Int)) (a4 : Int) : Option (Int × (List Int)) := (rounds (fun s => laws_markInt64S.b0 N s.1 s.2.1 s.2.2) N (a1, a4, 0)).bind (Ex.fin fun s => laws_markInt64S.a0 N s.1 s.2)

def laws_heldInt64S.b0 (N : Nat) (a1 : (List Int)) (x4 : Int) (x5 : Int) : Option (Bd Int (Int) (Int × Int)) := if x5 < (a1.length : Int) then (if (0 : Int) ≤ x5 ∧ x5 < (a1.length : Int) then (if (rdL a1 x5 0) = x4 then (some (.next (i64w (x4 + 1), i64w (x5 + 1)))) else (some (.out (.ret (-1))))) else none) else (some (.out (.go x4)))
def laws_heldInt64S.a0 (N : Nat) (x7 : Int) : Option Int := some x7
def laws_heldInt64S.f (N : Nat) (a1 : (List Int)) (a3 : Int) : Option Int := (rounds (fun s => laws_heldInt64S.b0 N a1 s.1 s.2) N (a3, 0)).bind (Ex.fin fun s => laws_heldInt64S.a0 N s)

def laws_FnExactRunTurns.f (N : Nat) (a1 : (List Int)) (a3 : (Ar Int 4)) (a4 : (List Int)) : Option Bool := if (a1.length : Int) > 1048576 then (some true) else (if (a4.length : Int) > 1048576 then (some true) else ((laws_toGlasses.f N a1).bind fun r8 => ((laws_toTops.f N a3).bind fun r11 => ((laws_toByteS.f N a4).bind fun r12 => ((spec_RunTurns.f N r8 r11 r12).bind fun r15 => ((laws_toGlasses.f N a1).bind fun r24 => ((laws_toByteS.f N a4).bind fun r27 => ((laws_toTops.f N a3).bind fun r30 => ((impl_RunTurns.f N r24 r30 r27).bind fun r31 => ((laws_eqInt64S.f N r31.1 r15.1).bind fun r36 => (if r36 = true then ((laws_eqTops.f N r31.2.1 r15.2.1).bind fun r37 => (if r37 = true then (if r31.2.2 = r15.2.2 then ((laws_toGlasses.f N a1).bind fun r38 => ((laws_eqGlasses.f N r24 r38).bind fun r41 => (if r41 = true then ((laws_toByteS.f N a4).bind fun r42 => ((laws_eqByteS.f N r27 r42).bind fun r45 => (if r45 = true then ((laws_markGlasses.f N r24 1).bind fun r46 => ((laws_markByteS.f N r27 r46.1).bind fun r47 => (if r47.1 < 0 then (some false) else ((laws_eqInt64S.f N r31.1 r15.1).bind fun r48 => (if r48 = true then ((laws_eqTops.f N r31.2.1 r15.2.1).bind fun r49 => (if r49 = true then (if r31.2.2 = r15.2.2 then ((laws_markInt64S.f N r31.1 1).bind fun r50 => ((laws_heldInt64S.f N r50.2 1).bind fun r51 => (if r51 < 0 then (some false) else (if r51 = r50.1 then ((laws_toGlasses.f N a1).bind fun r52 => ((laws_toTops.f N a3).bind fun r55 => ((laws_toByteS.f N a4).bind fun r56 => ((impl_RunTurns.f N r52 r55 r56).bind fun r59 => ((laws_eqInt64S.f N r59.1 r15.1).bind fun r68 => (if r68 = true then ((laws_eqTops.f N r59.2.1 r15.2.1).bind fun r69 => (if r69 = true then (if r59.2.2 = r15.2.2 then ((laws_heldInt64S.f N r50.2 1).bind fun r70 => (if r70 < 0 then (some false) else (if r70 = r50.1 then (some true) else (some false)))) else (some false)) else (some false))) else (some false))))))) else (some false))))) else (some false)) else (some false))) else (some false)))))) else (some false)))) else (some false)))) else (some false)) else (some false))) else (some false))))))))))))

end Go.Proofs.YtgachgjcnmeicaaX
