/- The plain functions, printed by gen.py. -/
import Derived.Test.YtffjpapmmiennaaDoorXPure
import Derived.Lib.ItoaNum
import Derived.Lib.Join
namespace Go.Proofs.YtffjpapmmiennaaDoorX
open Go
set_option linter.unusedVariables false
structure S_impl_Puzzle where
  f_Jugs : (List Int)
  f_Start : (Ar Int 4)
  f_Tap : Bool
  deriving DecidableEq
def z_S_impl_Puzzle : S_impl_Puzzle := ⟨[], (Ar.rep 4 0), false⟩
instance : Inhabited S_impl_Puzzle := ⟨z_S_impl_Puzzle⟩
structure S_laws_Ferry where
  f_Things : Int
  f_Boat : Int
  f_Rules : (List Int)
  deriving DecidableEq
def z_S_laws_Ferry : S_laws_Ferry := ⟨0, 0, []⟩
instance : Inhabited S_laws_Ferry := ⟨z_S_laws_Ferry⟩

def laws_toWeights.b0 (N : Nat) (a1 : (List Int)) (x8 : (List Int)) (x9 : Int) : Option (Bd (List Int) ((List Int)) ((List Int) × Int)) := if x9 < (a1.length : Int) then (if (0 : Int) ≤ x9 ∧ x9 < (a1.length : Int) then (if (0 : Int) ≤ x9 ∧ x9 < (x8.length : Int) then (some (.next (stL x8 x9 (rdL a1 x9 0), i64w (x9 + 1)))) else none) else none) else (some (.out (.go x8)))
def laws_toWeights.a0 (N : Nat) (x12 : (List Int)) : Option (List Int) := some x12
def laws_toWeights.f (N : Nat) (a1 : (List Int)) : Option (List Int) := if (0 : Int) ≤ (a1.length : Int) ∧ (a1.length : Int) ≤ 140737488355328 then ((rounds (fun s => laws_toWeights.b0 N a1 s.1 s.2) N (List.replicate ((a1.length : Int)).toNat (0 : Int), 0)).bind (Ex.fin fun s => laws_toWeights.a0 N s)) else none

def spec_l00In.f (N : Nat) (a1 : Int) (a2 : Int) (a3 : Int) : Option Bool := if a1 ≥ a2 then (some (decide (a1 ≤ a3))) else (some false)

def spec_l01Sum.b0 (N : Nat) (a1 : (List Int)) (x3 : Int) (x4 : Int) : Option (Bd Int (Int) (Int × Int)) := if x4 < (a1.length : Int) then (if (0 : Int) ≤ x4 ∧ x4 < (a1.length : Int) then (some (.next (i64w (x3 + (i64w (rdL a1 x4 0))), i64w (x4 + 1)))) else none) else (some (.out (.go x3)))
def spec_l01Sum.a0 (N : Nat) (x6 : Int) : Option Int := some x6
def spec_l01Sum.f (N : Nat) (a1 : (List Int)) : Option Int := (rounds (fun s => spec_l01Sum.b0 N a1 s.1 s.2) N (0, 0)).bind (Ex.fin fun s => spec_l01Sum.a0 N s)

def spec_l01Ok.j2 (N : Nat) (x4 : Int) (x6 : Bool) : Option (Bd Bool (Unit) (Int)) := some (.next (i64w (x4 + 1)))
def spec_l01Ok.b0 (N : Nat) (a1 : (List Int)) (x4 : Int) : Option (Bd Bool (Unit) (Int)) := if x4 < (a1.length : Int) then (if (0 : Int) ≤ x4 ∧ x4 < (a1.length : Int) then (if (rdL a1 x4 0) < 1 then (some (.out (.ret false))) else (if x4 > 0 then (if (0 : Int) ≤ x4 ∧ x4 < (a1.length : Int) then (if (0 : Int) ≤ (i64w (x4 - 1)) ∧ (i64w (x4 - 1)) < (a1.length : Int) then (if (rdL a1 x4 0) < (rdL a1 (i64w (x4 - 1)) 0) then (some (.out (.ret false))) else (spec_l01Ok.j2 N x4 true)) else none) else none) else (spec_l01Ok.j2 N x4 false))) else none) else (some (.out (.go ())))
def spec_l01Ok.a0 (N : Nat) (a1 : (List Int)) : Option Bool := (spec_l01Sum.f N a1).bind fun r7 => (some (decide (r7 ≤ 2000)))
def spec_l01Ok.f (N : Nat) (a1 : (List Int)) : Option Bool := (spec_l00In.f N (a1.length : Int) 1 16).bind fun r3 => (if r3 = true then ((rounds (fun s => spec_l01Ok.b0 N a1 s) N 0).bind (Ex.fin fun s => spec_l01Ok.a0 N a1)) else (some false))

def spec_Decimal.body (N : Nat) (self : Int → Option ByteArray) (a1 : Int) : Option ByteArray := if a1 < 10 then (some (bsOf ([u8w (i64w (48 + (a1.tmod 10)))]))) else ((self (i64w (a1.tdiv 10))).bind fun r4 => (if (r4.size : Int) + (bsOf ([u8w (i64w (48 + (a1.tmod 10)))])).size ≤ 9223372036854775807 then (some (r4 ++ (bsOf ([u8w (i64w (48 + (a1.tmod 10)))])))) else none))
def spec_Decimal.g (N : Nat) : Nat → Int → Option ByteArray
  | 0, _ => none
  | k + 1, a1 => spec_Decimal.body N (spec_Decimal.g N k) a1
def spec_Decimal.f (N : Nat) (a1 : Int) : Option ByteArray := spec_Decimal.g N N a1

def spec_l01Text.j2 (N : Nat) (x4 : Int) (a1 : (List Int)) (x5 : ByteArray) : Option (Bd ByteArray (ByteArray) (ByteArray × Int)) := if (0 : Int) ≤ x4 ∧ x4 < (a1.length : Int) then ((spec_Decimal.f N (i64w (rdL a1 x4 0))).bind fun r7 => (if (x5.size : Int) + r7.size ≤ 9223372036854775807 then (some (.next (x5 ++ r7, i64w (x4 + 1)))) else none)) else none
def spec_l01Text.b0 (N : Nat) (a1 : (List Int)) (x3 : ByteArray) (x4 : Int) : Option (Bd ByteArray (ByteArray) (ByteArray × Int)) := if x4 < (a1.length : Int) then (if x4 > 0 then (if (x3.size : Int) + (⟨#[32]⟩ : ByteArray).size ≤ 9223372036854775807 then (spec_l01Text.j2 N x4 a1 (x3 ++ (⟨#[32]⟩ : ByteArray))) else none) else (spec_l01Text.j2 N x4 a1 x3)) else (some (.out (.go x3)))
def spec_l01Text.a0 (N : Nat) (x8 : ByteArray) : Option ByteArray := some x8
def spec_l01Text.f (N : Nat) (a1 : (List Int)) : Option ByteArray := (rounds (fun s => spec_l01Text.b0 N a1 s.1 s.2) N ((⟨#[]⟩ : ByteArray), 0)).bind (Ex.fin fun s => spec_l01Text.a0 N s)

def spec_WeightsText.f (N : Nat) (a1 : (List Int)) : Option ByteArray := (spec_l01Ok.f N a1).bind fun r3 => (if r3 = true then ((spec_l01Text.f N a1).bind fun r4 => (some r4)) else (some (⟨#[]⟩ : ByteArray)))

def impl_size_int16.f (N : Nat) (a1 : (List Int)) : Option Int := some (a1.length : Int)

def impl_within.f (N : Nat) (a1 : Int) (a2 : Int) (a3 : Int) : Option Bool := if a2 ≤ a1 then (some (decide (a1 ≤ a3))) else (some false)

def cmp_isNaN_int16.f (N : Nat) (a1 : Int) : Option Bool := some (a1 != a1)

def cmp_Less_int16.f (N : Nat) (a1 : Int) (a2 : Int) : Option Bool := (cmp_isNaN_int16.f N a1).bind fun r3 => (if r3 = true then ((cmp_isNaN_int16.f N a2).bind fun r4 => (if r4 = true then (some (decide (a1 < a2))) else (some true))) else (some (decide (a1 < a2))))

def slices_IsSorted_impl_Weights_int16.b0 (N : Nat) (a1 : (List Int)) (x3 : Int) : Option (Bd Bool (Unit) (Int)) := if x3 > 0 then (if (0 : Int) ≤ x3 ∧ x3 < (a1.length : Int) then (if (0 : Int) ≤ (i64w (x3 - 1)) ∧ (i64w (x3 - 1)) < (a1.length : Int) then ((cmp_Less_int16.f N (rdL a1 x3 0) (rdL a1 (i64w (x3 - 1)) 0)).bind fun r4 => (if r4 = true then (some (.out (.ret false))) else (some (.next (i64w (x3 - 1)))))) else none) else none) else (some (.out (.go ())))
def slices_IsSorted_impl_Weights_int16.a0 (N : Nat) : Option Bool := some true
def slices_IsSorted_impl_Weights_int16.f (N : Nat) (a1 : (List Int)) : Option Bool := (rounds (fun s => slices_IsSorted_impl_Weights_int16.b0 N a1 s) N (i64w ((a1.length : Int) - 1))).bind (Ex.fin fun s => slices_IsSorted_impl_Weights_int16.a0 N)

def _impl_Weights_sum.b0 (N : Nat) (a1 : (List Int)) (x3 : Int) (x4 : Int) : Option (Bd Int (Int) (Int × Int)) := if x4 < (a1.length : Int) then (if (0 : Int) ≤ x4 ∧ x4 < (a1.length : Int) then (some (.next (i64w (x3 + (i64w (rdL a1 x4 0))), i64w (x4 + 1)))) else none) else (some (.out (.go x3)))
def _impl_Weights_sum.a0 (N : Nat) (x6 : Int) : Option Int := some x6
def _impl_Weights_sum.f (N : Nat) (a1 : (List Int)) : Option Int := (rounds (fun s => _impl_Weights_sum.b0 N a1 s.1 s.2) N (0, 0)).bind (Ex.fin fun s => _impl_Weights_sum.a0 N s)

def impl_ValidWeights.f (N : Nat) (a1 : (List Int)) : Option Bool := (impl_size_int16.f N a1).bind fun r3 => ((impl_within.f N r3 1 16).bind fun r4 => (if r4 = true then ((slices_IsSorted_impl_Weights_int16.f N a1).bind fun r5 => (if r5 = true then (if (0 : Int) ≤ 0 ∧ 0 < (a1.length : Int) then (if (rdL a1 0 0) ≥ 1 then ((_impl_Weights_sum.f N a1).bind fun r7 => (some (decide (r7 ≤ 2000)))) else (some false)) else none) else (some false))) else (some false)))

def strconv_FormatInt.f (N : Nat) (a1 : Int) (a2 : Int) : Option ByteArray := if (0 ≤ a1 ∧ a1 < 100) ∧ a2 = 10 then some ⟨(Lib.decDigits a1.toNat).toArray⟩ else none

def impl_decimal.f (N : Nat) (a1 : Int) : Option ByteArray := (strconv_FormatInt.f N a1 10).bind fun r2 => (some r2)

def strings_Join.f (N : Nat) (a1 : List ByteArray) (a2 : ByteArray) : Option ByteArray := if a1.length ≤ 140737488355328 ∧ (Lib.join (a1.map (·.data.toList)) a2.data.toList).length ≤ 140737488355328 then some ⟨(Lib.join (a1.map (·.data.toList)) a2.data.toList).toArray⟩ else none

def impl_WeightsText.b0 (N : Nat) (a1 : (List Int)) (x8 : (List ByteArray)) (x9 : Int) : Option (Bd ByteArray ((List ByteArray)) ((List ByteArray) × Int)) := if x9 < (a1.length : Int) then (if (0 : Int) ≤ x9 ∧ x9 < (a1.length : Int) then ((impl_decimal.f N (i64w (rdL a1 x9 0))).bind fun r11 => (if x8.length + ([r11]).length ≤ 8796093022208 then (some (.next (x8 ++ ([r11]), i64w (x9 + 1)))) else none)) else none) else (some (.out (.go x8)))
def impl_WeightsText.a0 (N : Nat) (x17 : (List ByteArray)) : Option ByteArray := (strings_Join.f N x17 (⟨#[32]⟩ : ByteArray)).bind fun r19 => (some r19)
def impl_WeightsText.f (N : Nat) (a1 : (List Int)) : Option ByteArray := (impl_ValidWeights.f N a1).bind fun r3 => (if r3 = true then ((rounds (fun s => impl_WeightsText.b0 N a1 s.1 s.2) N (([] : List ByteArray), 0)).bind (Ex.fin fun s => impl_WeightsText.a0 N s)) else (some (⟨#[]⟩ : ByteArray)))

def laws_eqWeights.b0 (N : Nat) (a1 : (List Int)) (a3 : (List Int)) (x5 : Int) : Option (Bd Bool (Unit) (Int)) := if x5 < (a1.length : Int) then (if (0 : Int) ≤ x5 ∧ x5 < (a1.length : Int) then (if (0 : Int) ≤ x5 ∧ x5 < (a3.length : Int) then (if (rdL a1 x5 0) = (rdL a3 x5 0) then (some (.next (i64w (x5 + 1)))) else (some (.out (.ret false)))) else none) else none) else (some (.out (.go ())))
def laws_eqWeights.a0 (N : Nat) : Option Bool := some true
def laws_eqWeights.f (N : Nat) (a1 : (List Int)) (a3 : (List Int)) : Option Bool := if (a1.length : Int) = (a3.length : Int) then ((rounds (fun s => laws_eqWeights.b0 N a1 a3 s) N 0).bind (Ex.fin fun s => laws_eqWeights.a0 N)) else (some false)

def laws_FnExactWeightsText.f (N : Nat) (a1 : (List Int)) : Option Bool := if (a1.length : Int) > 1048576 then (some true) else ((laws_toWeights.f N a1).bind fun r3 => ((spec_WeightsText.f N r3).bind fun r6 => ((laws_toWeights.f N a1).bind fun r7 => ((impl_WeightsText.f N r7).bind fun r10 => (if r10.toList = r6.toList then ((laws_toWeights.f N a1).bind fun r11 => ((laws_eqWeights.f N r7 r11).bind fun r14 => (if r14 = true then (some true) else (some false)))) else (some false))))))

def laws_toGlasses.b0 (N : Nat) (a1 : (List Int)) (x8 : (List Int)) (x9 : Int) : Option (Bd (List Int) ((List Int)) ((List Int) × Int)) := if x9 < (a1.length : Int) then (if (0 : Int) ≤ x9 ∧ x9 < (a1.length : Int) then (if (0 : Int) ≤ x9 ∧ x9 < (x8.length : Int) then (some (.next (stL x8 x9 (rdL a1 x9 0), i64w (x9 + 1)))) else none) else none) else (some (.out (.go x8)))
def laws_toGlasses.a0 (N : Nat) (x12 : (List Int)) : Option (List Int) := some x12
def laws_toGlasses.f (N : Nat) (a1 : (List Int)) : Option (List Int) := if (0 : Int) ≤ (a1.length : Int) ∧ (a1.length : Int) ≤ 140737488355328 then ((rounds (fun s => laws_toGlasses.b0 N a1 s.1 s.2) N (List.replicate ((a1.length : Int)).toNat (0 : Int), 0)).bind (Ex.fin fun s => laws_toGlasses.a0 N s)) else none

def laws_toTops.b0 (N : Nat) (a1 : (Ar Int 4)) (x9 : (Ar Int 4)) (x10 : Int) : Option (Bd (Ar Int 4) ((Ar Int 4)) ((Ar Int 4) × Int)) := if x10 < 4 then (if (0 : Int) ≤ x10 ∧ x10 < 4 then (if (0 : Int) ≤ x10 ∧ x10 < 4 then (some (.next (x9.set x10 (a1.get x10 0), i64w (x10 + 1)))) else none) else none) else (some (.out (.go x9)))
def laws_toTops.a0 (N : Nat) (x11 : (Ar Int 4)) : Option (Ar Int 4) := some x11
def laws_toTops.f (N : Nat) (a1 : (Ar Int 4)) : Option (Ar Int 4) := (rounds (fun s => laws_toTops.b0 N a1 s.1 s.2) N ((Ar.rep 4 0), 0)).bind (Ex.fin fun s => laws_toTops.a0 N s)

def spec_l07States.b0 (N : Nat) (a1 : (List Int)) (x4 : Int) (x5 : Int) : Option (Bd Int (Int) (Int × Int)) := if x5 < (a1.length : Int) then (if (0 : Int) ≤ x5 ∧ x5 < (a1.length : Int) then (if (rdL a1 x5 0) < 1 then (some (.out (.ret 0))) else (if (0 : Int) ≤ x5 ∧ x5 < (a1.length : Int) then (if (rdL a1 x5 0) > 40 then (some (.out (.ret 0))) else (if (0 : Int) ≤ x5 ∧ x5 < (a1.length : Int) then (some (.next (i64w (x4 * (i64w ((i64w (rdL a1 x5 0)) + 1))), i64w (x5 + 1)))) else none)) else none)) else none) else (some (.out (.go x4)))
def spec_l07States.a0 (N : Nat) (x9 : Int) : Option Int := if x9 > 3000 then (some 0) else (some x9)
def spec_l07States.f (N : Nat) (a1 : (List Int)) : Option Int := (spec_l00In.f N (a1.length : Int) 1 4).bind fun r3 => (if r3 = true then ((rounds (fun s => spec_l07States.b0 N a1 s.1 s.2) N (1, 0)).bind (Ex.fin fun s => spec_l07States.a0 N s)) else (some 0))

def spec_l07Ok.j2 (N : Nat) (x7 : Int) (a3 : (Ar Int 4)) (x9 : Int) : Option (Bd Bool (Unit) (Int)) := if (0 : Int) ≤ x7 ∧ x7 < 4 then (if (a3.get x7 0) < 0 then (some (.out (.ret false))) else (if (0 : Int) ≤ x7 ∧ x7 < 4 then (if (a3.get x7 0) > x9 then (some (.out (.ret false))) else (some (.next (i64w (x7 + 1))))) else none)) else none
def spec_l07Ok.b0 (N : Nat) (a1 : (List Int)) (a3 : (Ar Int 4)) (x7 : Int) : Option (Bd Bool (Unit) (Int)) := if x7 < 4 then (if x7 < (a1.length : Int) then (if (0 : Int) ≤ x7 ∧ x7 < (a1.length : Int) then (spec_l07Ok.j2 N x7 a3 (rdL a1 x7 0)) else none) else (spec_l07Ok.j2 N x7 a3 0)) else (some (.out (.go ())))
def spec_l07Ok.a0 (N : Nat) : Option Bool := some true
def spec_l07Ok.f (N : Nat) (a1 : (List Int)) (a3 : (Ar Int 4)) : Option Bool := (spec_l07States.f N a1).bind fun r6 => (if r6 = 0 then (some false) else ((rounds (fun s => spec_l07Ok.b0 N a1 a3 s) N 0).bind (Ex.fin fun s => spec_l07Ok.a0 N)))

def spec_l07Text.j2 (N : Nat) (x7 : Int) (a3 : (Ar Int 4)) (a1 : (List Int)) (x8 : ByteArray) : Option (Bd ByteArray (ByteArray) (ByteArray × Int)) := if (0 : Int) ≤ x7 ∧ x7 < 4 then ((spec_Decimal.f N (i64w (a3.get x7 0))).bind fun r9 => (if (r9.size : Int) + (⟨#[47]⟩ : ByteArray).size ≤ 9223372036854775807 then (if (0 : Int) ≤ x7 ∧ x7 < (a1.length : Int) then ((spec_Decimal.f N (i64w (rdL a1 x7 0))).bind fun r10 => (if ((r9 ++ (⟨#[47]⟩ : ByteArray)).size : Int) + r10.size ≤ 9223372036854775807 then (if (x8.size : Int) + ((r9 ++ (⟨#[47]⟩ : ByteArray)) ++ r10).size ≤ 9223372036854775807 then (some (.next (x8 ++ ((r9 ++ (⟨#[47]⟩ : ByteArray)) ++ r10), i64w (x7 + 1)))) else none) else none)) else none) else none)) else none
def spec_l07Text.b0 (N : Nat) (a1 : (List Int)) (a3 : (Ar Int 4)) (x6 : ByteArray) (x7 : Int) : Option (Bd ByteArray (ByteArray) (ByteArray × Int)) := if x7 < (a1.length : Int) then (if x7 > 0 then (if (x6.size : Int) + (⟨#[32]⟩ : ByteArray).size ≤ 9223372036854775807 then (spec_l07Text.j2 N x7 a3 a1 (x6 ++ (⟨#[32]⟩ : ByteArray))) else none) else (spec_l07Text.j2 N x7 a3 a1 x6)) else (some (.out (.go x6)))
def spec_l07Text.a0 (N : Nat) (x11 : ByteArray) : Option ByteArray := some x11
def spec_l07Text.f (N : Nat) (a1 : (List Int)) (a3 : (Ar Int 4)) : Option ByteArray := (rounds (fun s => spec_l07Text.b0 N a1 a3 s.1 s.2) N ((⟨#[]⟩ : ByteArray), 0)).bind (Ex.fin fun s => spec_l07Text.a0 N s)

def spec_GlassesText.f (N : Nat) (a1 : (List Int)) (a3 : (Ar Int 4)) : Option ByteArray := (spec_l07Ok.f N a1 a3).bind fun r6 => (if r6 = true then ((spec_l07Text.f N a1 a3).bind fun r7 => (some r7)) else (some (⟨#[]⟩ : ByteArray)))

def impl_ValidGlasses_1.f (N : Nat) (a1 : Int) : Option Bool := if a1 < 1 then (some true) else (some (decide (a1 > 40)))

def slices_IndexFunc_impl_Glasses_int16_at_impl_ValidGlasses_1.b0 (N : Nat) (a1 : (List Int)) (x3 : Int) : Option (Bd Int (Unit) (Int)) := if x3 < (a1.length : Int) then (if (0 : Int) ≤ x3 ∧ x3 < (a1.length : Int) then ((impl_ValidGlasses_1.f N (rdL a1 x3 0)).bind fun r5 => (if r5 = true then (some (.out (.ret x3))) else (some (.next (i64w (x3 + 1)))))) else none) else (some (.out (.go ())))
def slices_IndexFunc_impl_Glasses_int16_at_impl_ValidGlasses_1.a0 (N : Nat) : Option Int := some (-1)
def slices_IndexFunc_impl_Glasses_int16_at_impl_ValidGlasses_1.f (N : Nat) (a1 : (List Int)) : Option Int := (rounds (fun s => slices_IndexFunc_impl_Glasses_int16_at_impl_ValidGlasses_1.b0 N a1 s) N 0).bind (Ex.fin fun s => slices_IndexFunc_impl_Glasses_int16_at_impl_ValidGlasses_1.a0 N)

def slices_ContainsFunc_impl_Glasses_int16_at_impl_ValidGlasses_1.f (N : Nat) (a1 : (List Int)) : Option Bool := (slices_IndexFunc_impl_Glasses_int16_at_impl_ValidGlasses_1.f N a1).bind fun r3 => (some (decide (r3 ≥ 0)))

def _impl_Glasses_many.b0 (N : Nat) (a1 : (List Int)) (x3 : Int) (x4 : Int) : Option (Bd Int (Int) (Int × Int)) := if x4 < (a1.length : Int) then (if (0 : Int) ≤ x4 ∧ x4 < (a1.length : Int) then (some (.next (i64w (x3 * (i64w ((i64w (rdL a1 x4 0)) + 1))), i64w (x4 + 1)))) else none) else (some (.out (.go x3)))
def _impl_Glasses_many.a0 (N : Nat) (x6 : Int) : Option Int := some x6
def _impl_Glasses_many.f (N : Nat) (a1 : (List Int)) : Option Int := (rounds (fun s => _impl_Glasses_many.b0 N a1 s.1 s.2) N (1, 0)).bind (Ex.fin fun s => _impl_Glasses_many.a0 N s)

def impl_ValidGlasses.f (N : Nat) (a1 : (List Int)) : Option Bool := (impl_size_int16.f N a1).bind fun r3 => ((impl_within.f N r3 1 4).bind fun r4 => (if r4 = true then ((slices_ContainsFunc_impl_Glasses_int16_at_impl_ValidGlasses_1.f N a1).bind fun r5 => (if r5 = true then (some false) else ((_impl_Glasses_many.f N a1).bind fun r6 => (some (decide (r6 ≤ 3000)))))) else (some false)))

def _impl_Puzzle_holds.j2 (N : Nat) (a4 : (Ar Int 4)) (x9 : Int) (x11 : Int) : Option (Bd Bool (Unit) (Int)) := if (a4.get x9 0) < 0 then (some (.out (.ret false))) else (if (a4.get x9 0) > x11 then (some (.out (.ret false))) else (some (.next (i64w (x9 + 1)))))
def _impl_Puzzle_holds.b0 (N : Nat) (a1 : S_impl_Puzzle) (a4 : (Ar Int 4)) (x9 : Int) : Option (Bd Bool (Unit) (Int)) := if x9 < 4 then (if (0 : Int) ≤ x9 ∧ x9 < 4 then (if x9 < (a1.f_Jugs.length : Int) then (if (0 : Int) ≤ x9 ∧ x9 < (a1.f_Jugs.length : Int) then (_impl_Puzzle_holds.j2 N a4 x9 (rdL a1.f_Jugs x9 0)) else none) else (_impl_Puzzle_holds.j2 N a4 x9 0)) else none) else (some (.out (.go ())))
def _impl_Puzzle_holds.a0 (N : Nat) : Option Bool := some true
def _impl_Puzzle_holds.f (N : Nat) (a1 : S_impl_Puzzle) (a4 : (Ar Int 4)) : Option Bool := (rounds (fun s => _impl_Puzzle_holds.b0 N a1 a4 s) N 0).bind (Ex.fin fun s => _impl_Puzzle_holds.a0 N)

def impl_ValidTops.f (N : Nat) (a1 : (List Int)) (a3 : (Ar Int 4)) : Option Bool := (impl_ValidGlasses.f N a1).bind fun r6 => (if r6 = true then ((_impl_Puzzle_holds.f N (⟨a1, (Ar.rep 4 0), false⟩ : S_impl_Puzzle) a3).bind fun r7 => (some r7)) else (some false))

def impl_levelsText.b0 (N : Nat) (a3 : (List Int)) (a1 : (List Int)) (x9 : (List ByteArray)) (x10 : Int) : Option (Bd (List ByteArray) ((List ByteArray)) ((List ByteArray) × Int)) := if x10 < (a3.length : Int) then (if (0 : Int) ≤ x10 ∧ x10 < (a3.length : Int) then (if (0 : Int) ≤ x10 ∧ x10 < (a1.length : Int) then ((impl_decimal.f N (i64w (rdL a1 x10 0))).bind fun r13 => (if (r13.size : Int) + (⟨#[47]⟩ : ByteArray).size ≤ 9223372036854775807 then ((impl_decimal.f N (i64w (rdL a3 x10 0))).bind fun r14 => (if ((r13 ++ (⟨#[47]⟩ : ByteArray)).size : Int) + r14.size ≤ 9223372036854775807 then (if x9.length + ([(r13 ++ (⟨#[47]⟩ : ByteArray)) ++ r14]).length ≤ 8796093022208 then (some (.next (x9 ++ ([(r13 ++ (⟨#[47]⟩ : ByteArray)) ++ r14]), i64w (x10 + 1)))) else none) else none)) else none)) else none) else none) else (some (.out (.go x9)))
def impl_levelsText.a0 (N : Nat) (x20 : (List ByteArray)) : Option (List ByteArray) := some x20
def impl_levelsText.f (N : Nat) (a1 : (List Int)) (a3 : (List Int)) : Option (List ByteArray) := (rounds (fun s => impl_levelsText.b0 N a3 a1 s.1 s.2) N (([] : List ByteArray), 0)).bind (Ex.fin fun s => impl_levelsText.a0 N s)

def impl_GlassesText.f (N : Nat) (a1 : (List Int)) (a3 : (Ar Int 4)) : Option ByteArray := (impl_ValidTops.f N a1 a3).bind fun r6 => (if r6 = true then ((impl_levelsText.f N a3.l a1).bind fun r7 => ((strings_Join.f N r7 (⟨#[32]⟩ : ByteArray)).bind fun r10 => (some r10))) else (some (⟨#[]⟩ : ByteArray)))

def laws_eqGlasses.b0 (N : Nat) (a1 : (List Int)) (a3 : (List Int)) (x5 : Int) : Option (Bd Bool (Unit) (Int)) := if x5 < (a1.length : Int) then (if (0 : Int) ≤ x5 ∧ x5 < (a1.length : Int) then (if (0 : Int) ≤ x5 ∧ x5 < (a3.length : Int) then (if (rdL a1 x5 0) = (rdL a3 x5 0) then (some (.next (i64w (x5 + 1)))) else (some (.out (.ret false)))) else none) else none) else (some (.out (.go ())))
def laws_eqGlasses.a0 (N : Nat) : Option Bool := some true
def laws_eqGlasses.f (N : Nat) (a1 : (List Int)) (a3 : (List Int)) : Option Bool := if (a1.length : Int) = (a3.length : Int) then ((rounds (fun s => laws_eqGlasses.b0 N a1 a3 s) N 0).bind (Ex.fin fun s => laws_eqGlasses.a0 N)) else (some false)

def laws_FnExactGlassesText.f (N : Nat) (a1 : (List Int)) (a3 : (Ar Int 4)) : Option Bool := if (a1.length : Int) > 1048576 then (some true) else ((laws_toGlasses.f N a1).bind fun r6 => ((laws_toTops.f N a3).bind fun r9 => ((spec_GlassesText.f N r6 r9).bind fun r10 => ((laws_toGlasses.f N a1).bind fun r12 => ((laws_toTops.f N a3).bind fun r15 => ((impl_GlassesText.f N r12 r15).bind fun r16 => (if r16.toList = r10.toList then ((laws_toGlasses.f N a1).bind fun r17 => ((laws_eqGlasses.f N r12 r17).bind fun r20 => (if r20 = true then (some true) else (some false)))) else (some false))))))))

def laws_szUint16S.f (N : Nat) (a1 : (List Int)) (a3 : Int) : Option Int := if (i64w (a3 - (a1.length : Int))) < 0 then (some (-1)) else (some (i64w (a3 - (a1.length : Int))))

def laws_szFerry.f (N : Nat) (a1 : S_laws_Ferry) (a4 : Int) : Option Int := (laws_szUint16S.f N a1.f_Rules a4).bind fun r7 => (if r7 < 0 then (some (-1)) else (some r7))

def laws_toUint16S.b0 (N : Nat) (a1 : (List Int)) (x8 : (List Int)) (x9 : Int) : Option (Bd (List Int) ((List Int)) ((List Int) × Int)) := if x9 < (a1.length : Int) then (if (0 : Int) ≤ x9 ∧ x9 < (a1.length : Int) then (if (0 : Int) ≤ x9 ∧ x9 < (x8.length : Int) then (some (.next (stL x8 x9 (rdL a1 x9 0), i64w (x9 + 1)))) else none) else none) else (some (.out (.go x8)))
def laws_toUint16S.a0 (N : Nat) (x12 : (List Int)) : Option (List Int) := some x12
def laws_toUint16S.f (N : Nat) (a1 : (List Int)) : Option (List Int) := if (0 : Int) ≤ (a1.length : Int) ∧ (a1.length : Int) ≤ 140737488355328 then ((rounds (fun s => laws_toUint16S.b0 N a1 s.1 s.2) N (List.replicate ((a1.length : Int)).toNat (0 : Int), 0)).bind (Ex.fin fun s => laws_toUint16S.a0 N s)) else none

def laws_toFerry.f (N : Nat) (a1 : S_laws_Ferry) : Option S_laws_Ferry := (laws_toUint16S.f N a1.f_Rules).bind fun r10 => (some (⟨a1.f_Things, a1.f_Boat, r10⟩ : S_laws_Ferry))

def spec_l05All.f (N : Nat) (a1 : S_laws_Ferry) : Option Int := if (0 : Int) ≤ (u64w a1.f_Things) then (some (u16w ((shlI .u16 1 (u64w a1.f_Things)) - 1))) else none

def spec_l05Size.b0 (N : Nat) (x2 : Int) (x3 : Int) : Option (Bd Int (Int) (Int × Int)) := if x2 > 0 then (some (.next (u16w (x2.tdiv 2), i64w (x3 + (i64w (x2.tmod 2)))))) else (some (.out (.go x3)))
def spec_l05Size.a0 (N : Nat) (x4 : Int) : Option Int := some x4
def spec_l05Size.f (N : Nat) (a1 : Int) : Option Int := (rounds (fun s => spec_l05Size.b0 N s.1 s.2) N (a1, 0)).bind (Ex.fin fun s => spec_l05Size.a0 N s)

def spec_l05Ok.b0 (N : Nat) (a1 : S_laws_Ferry) (x8 : Int) : Option (Bd Bool (Unit) (Int)) := if x8 < (a1.f_Rules.length : Int) then (if (0 : Int) ≤ x8 ∧ x8 < (a1.f_Rules.length : Int) then ((spec_l05All.f N (⟨a1.f_Things, a1.f_Boat, a1.f_Rules⟩ : S_laws_Ferry)).bind fun r9 => (if (bAndNot .u16 (rdL a1.f_Rules x8 0) r9) = 0 then (if (0 : Int) ≤ x8 ∧ x8 < (a1.f_Rules.length : Int) then ((spec_l05Size.f N (rdL a1.f_Rules x8 0)).bind fun r11 => (if r11 < 2 then (some (.out (.ret false))) else (some (.next (i64w (x8 + 1)))))) else none) else (some (.out (.ret false))))) else none) else (some (.out (.go ())))
def spec_l05Ok.a0 (N : Nat) : Option Bool := some true
def spec_l05Ok.f (N : Nat) (a1 : S_laws_Ferry) : Option Bool := (spec_l00In.f N (i64w a1.f_Things) 1 8).bind fun r6 => (if r6 = true then ((spec_l00In.f N (i64w a1.f_Boat) 0 (i64w a1.f_Things)).bind fun r7 => (if r7 = true then (if (a1.f_Rules.length : Int) > 20 then (some false) else ((rounds (fun s => spec_l05Ok.b0 N a1 s) N 0).bind (Ex.fin fun s => spec_l05Ok.a0 N))) else (some false))) else (some false))

def spec_l05Text.j2 (N : Nat) (x3 : Int) (x6 : ByteArray) : Option (Bd ByteArray (ByteArray) (ByteArray × Int)) := some (.next (x6, i64w (x3 + 1)))
def spec_l05Text.b0 (N : Nat) (a1 : Int) (x2 : ByteArray) (x3 : Int) : Option (Bd ByteArray (ByteArray) (ByteArray × Int)) := if x3 < 8 then (if (0 : Int) ≤ (u64w x3) then (if ((shrI .u16 a1 (u64w x3)).tmod 2) = 1 then (if (x2.size : Int) + (bsOf ([u8w (i64w (97 + x3))])).size ≤ 9223372036854775807 then (spec_l05Text.j2 N x3 (x2 ++ (bsOf ([u8w (i64w (97 + x3))])))) else none) else (spec_l05Text.j2 N x3 x2)) else none) else (some (.out (.go x2)))
def spec_l05Text.a0 (N : Nat) (x7 : ByteArray) : Option ByteArray := some x7
def spec_l05Text.f (N : Nat) (a1 : Int) : Option ByteArray := if a1 = 0 then (some (⟨#[45]⟩ : ByteArray)) else ((rounds (fun s => spec_l05Text.b0 N a1 s.1 s.2) N ((⟨#[]⟩ : ByteArray), 0)).bind (Ex.fin fun s => spec_l05Text.a0 N s))

def spec_l05FerryText.b0 (N : Nat) (a1 : S_laws_Ferry) (x8 : ByteArray) (x9 : Int) : Option (Bd ByteArray (ByteArray) (ByteArray × Int)) := if x9 < (a1.f_Rules.length : Int) then (if (0 : Int) ≤ x9 ∧ x9 < (a1.f_Rules.length : Int) then ((spec_l05Text.f N (rdL a1.f_Rules x9 0)).bind fun r11 => (if ((⟨#[32]⟩ : ByteArray).size : Int) + r11.size ≤ 9223372036854775807 then (if (x8.size : Int) + ((⟨#[32]⟩ : ByteArray) ++ r11).size ≤ 9223372036854775807 then (some (.next (x8 ++ ((⟨#[32]⟩ : ByteArray) ++ r11), i64w (x9 + 1)))) else none) else none)) else none) else (some (.out (.go x8)))
def spec_l05FerryText.a0 (N : Nat) (x12 : ByteArray) : Option ByteArray := some x12
def spec_l05FerryText.f (N : Nat) (a1 : S_laws_Ferry) : Option ByteArray := (spec_Decimal.f N (i64w a1.f_Things)).bind fun r6 => (if (r6.size : Int) + (⟨#[32]⟩ : ByteArray).size ≤ 9223372036854775807 then ((spec_Decimal.f N (i64w a1.f_Boat)).bind fun r7 => (if ((r6 ++ (⟨#[32]⟩ : ByteArray)).size : Int) + r7.size ≤ 9223372036854775807 then ((rounds (fun s => spec_l05FerryText.b0 N a1 s.1 s.2) N ((r6 ++ (⟨#[32]⟩ : ByteArray)) ++ r7, 0)).bind (Ex.fin fun s => spec_l05FerryText.a0 N s)) else none)) else none)

def spec_FerryText.f (N : Nat) (a1 : S_laws_Ferry) : Option ByteArray := (spec_l05Ok.f N (⟨a1.f_Things, a1.f_Boat, a1.f_Rules⟩ : S_laws_Ferry)).bind fun r6 => (if r6 = true then ((spec_l05FerryText.f N (⟨a1.f_Things, a1.f_Boat, a1.f_Rules⟩ : S_laws_Ferry)).bind fun r7 => (some r7)) else (some (⟨#[]⟩ : ByteArray)))

def _impl_Ferry_all.f (N : Nat) (a1 : S_laws_Ferry) : Option Int := if (0 : Int) ≤ a1.f_Things then (some (u16w ((shlI .u16 1 a1.f_Things) - 1))) else none

def impl_inside.f (N : Nat) (a1 : Int) (a2 : Int) : Option Bool := some ((bAndNot .u16 a1 a2) == 0)

def bits_OnesCount16.f (N : Nat) (a1 : Int) : Option Int := if (0 : Int) ≤ (shrI .u16 a1 8) ∧ (shrI .u16 a1 8) < ((⟨#[0, 1, 1, 2, 1, 2, 2, 3, 1, 2, 2, 3, 2, 3, 3, 4, 1, 2, 2, 3, 2, 3, 3, 4, 2, 3, 3, 4, 3, 4, 4, 5, 1, 2, 2, 3, 2, 3, 3, 4, 2, 3, 3, 4, 3, 4, 4, 5, 2, 3, 3, 4, 3, 4, 4, 5, 3, 4, 4, 5, 4, 5, 5, 6, 1, 2, 2, 3, 2, 3, 3, 4, 2, 3, 3, 4, 3, 4, 4, 5, 2, 3, 3, 4, 3, 4, 4, 5, 3, 4, 4, 5, 4, 5, 5, 6, 2, 3, 3, 4, 3, 4, 4, 5, 3, 4, 4, 5, 4, 5, 5, 6, 3, 4, 4, 5, 4, 5, 5, 6, 4, 5, 5, 6, 5, 6, 6, 7, 1, 2, 2, 3, 2, 3, 3, 4, 2, 3, 3, 4, 3, 4, 4, 5, 2, 3, 3, 4, 3, 4, 4, 5, 3, 4, 4, 5, 4, 5, 5, 6, 2, 3, 3, 4, 3, 4, 4, 5, 3, 4, 4, 5, 4, 5, 5, 6, 3, 4, 4, 5, 4, 5, 5, 6, 4, 5, 5, 6, 5, 6, 6, 7, 2, 3, 3, 4, 3, 4, 4, 5, 3, 4, 4, 5, 4, 5, 5, 6, 3, 4, 4, 5, 4, 5, 5, 6, 4, 5, 5, 6, 5, 6, 6, 7, 3, 4, 4, 5, 4, 5, 5, 6, 4, 5, 5, 6, 5, 6, 6, 7, 4, 5, 5, 6, 5, 6, 6, 7, 5, 6, 6, 7, 6, 7, 7, 8]⟩ : ByteArray).size : Int) then (if (0 : Int) ≤ (bAnd .u16 a1 255) ∧ (bAnd .u16 a1 255) < ((⟨#[0, 1, 1, 2, 1, 2, 2, 3, 1, 2, 2, 3, 2, 3, 3, 4, 1, 2, 2, 3, 2, 3, 3, 4, 2, 3, 3, 4, 3, 4, 4, 5, 1, 2, 2, 3, 2, 3, 3, 4, 2, 3, 3, 4, 3, 4, 4, 5, 2, 3, 3, 4, 3, 4, 4, 5, 3, 4, 4, 5, 4, 5, 5, 6, 1, 2, 2, 3, 2, 3, 3, 4, 2, 3, 3, 4, 3, 4, 4, 5, 2, 3, 3, 4, 3, 4, 4, 5, 3, 4, 4, 5, 4, 5, 5, 6, 2, 3, 3, 4, 3, 4, 4, 5, 3, 4, 4, 5, 4, 5, 5, 6, 3, 4, 4, 5, 4, 5, 5, 6, 4, 5, 5, 6, 5, 6, 6, 7, 1, 2, 2, 3, 2, 3, 3, 4, 2, 3, 3, 4, 3, 4, 4, 5, 2, 3, 3, 4, 3, 4, 4, 5, 3, 4, 4, 5, 4, 5, 5, 6, 2, 3, 3, 4, 3, 4, 4, 5, 3, 4, 4, 5, 4, 5, 5, 6, 3, 4, 4, 5, 4, 5, 5, 6, 4, 5, 5, 6, 5, 6, 6, 7, 2, 3, 3, 4, 3, 4, 4, 5, 3, 4, 4, 5, 4, 5, 5, 6, 3, 4, 4, 5, 4, 5, 5, 6, 4, 5, 5, 6, 5, 6, 6, 7, 3, 4, 4, 5, 4, 5, 5, 6, 4, 5, 5, 6, 5, 6, 6, 7, 4, 5, 5, 6, 5, 6, 6, 7, 5, 6, 6, 7, 6, 7, 7, 8]⟩ : ByteArray).size : Int) then (some (i64w (u8w ((btS (⟨#[0, 1, 1, 2, 1, 2, 2, 3, 1, 2, 2, 3, 2, 3, 3, 4, 1, 2, 2, 3, 2, 3, 3, 4, 2, 3, 3, 4, 3, 4, 4, 5, 1, 2, 2, 3, 2, 3, 3, 4, 2, 3, 3, 4, 3, 4, 4, 5, 2, 3, 3, 4, 3, 4, 4, 5, 3, 4, 4, 5, 4, 5, 5, 6, 1, 2, 2, 3, 2, 3, 3, 4, 2, 3, 3, 4, 3, 4, 4, 5, 2, 3, 3, 4, 3, 4, 4, 5, 3, 4, 4, 5, 4, 5, 5, 6, 2, 3, 3, 4, 3, 4, 4, 5, 3, 4, 4, 5, 4, 5, 5, 6, 3, 4, 4, 5, 4, 5, 5, 6, 4, 5, 5, 6, 5, 6, 6, 7, 1, 2, 2, 3, 2, 3, 3, 4, 2, 3, 3, 4, 3, 4, 4, 5, 2, 3, 3, 4, 3, 4, 4, 5, 3, 4, 4, 5, 4, 5, 5, 6, 2, 3, 3, 4, 3, 4, 4, 5, 3, 4, 4, 5, 4, 5, 5, 6, 3, 4, 4, 5, 4, 5, 5, 6, 4, 5, 5, 6, 5, 6, 6, 7, 2, 3, 3, 4, 3, 4, 4, 5, 3, 4, 4, 5, 4, 5, 5, 6, 3, 4, 4, 5, 4, 5, 5, 6, 4, 5, 5, 6, 5, 6, 6, 7, 3, 4, 4, 5, 4, 5, 5, 6, 4, 5, 5, 6, 5, 6, 6, 7, 4, 5, 5, 6, 5, 6, 6, 7, 5, 6, 6, 7, 6, 7, 7, 8]⟩ : ByteArray) (shrI .u16 a1 8)) + (btS (⟨#[0, 1, 1, 2, 1, 2, 2, 3, 1, 2, 2, 3, 2, 3, 3, 4, 1, 2, 2, 3, 2, 3, 3, 4, 2, 3, 3, 4, 3, 4, 4, 5, 1, 2, 2, 3, 2, 3, 3, 4, 2, 3, 3, 4, 3, 4, 4, 5, 2, 3, 3, 4, 3, 4, 4, 5, 3, 4, 4, 5, 4, 5, 5, 6, 1, 2, 2, 3, 2, 3, 3, 4, 2, 3, 3, 4, 3, 4, 4, 5, 2, 3, 3, 4, 3, 4, 4, 5, 3, 4, 4, 5, 4, 5, 5, 6, 2, 3, 3, 4, 3, 4, 4, 5, 3, 4, 4, 5, 4, 5, 5, 6, 3, 4, 4, 5, 4, 5, 5, 6, 4, 5, 5, 6, 5, 6, 6, 7, 1, 2, 2, 3, 2, 3, 3, 4, 2, 3, 3, 4, 3, 4, 4, 5, 2, 3, 3, 4, 3, 4, 4, 5, 3, 4, 4, 5, 4, 5, 5, 6, 2, 3, 3, 4, 3, 4, 4, 5, 3, 4, 4, 5, 4, 5, 5, 6, 3, 4, 4, 5, 4, 5, 5, 6, 4, 5, 5, 6, 5, 6, 6, 7, 2, 3, 3, 4, 3, 4, 4, 5, 3, 4, 4, 5, 4, 5, 5, 6, 3, 4, 4, 5, 4, 5, 5, 6, 4, 5, 5, 6, 5, 6, 6, 7, 3, 4, 4, 5, 4, 5, 5, 6, 4, 5, 5, 6, 5, 6, 6, 7, 4, 5, 5, 6, 5, 6, 6, 7, 5, 6, 6, 7, 6, 7, 7, 8]⟩ : ByteArray) (bAnd .u16 a1 255)))))) else none) else none

def impl_ValidFerry_1.f (N : Nat) (a1 : Int) (a2 : S_laws_Ferry) : Option Bool := (_impl_Ferry_all.f N (⟨a2.f_Things, a2.f_Boat, a2.f_Rules⟩ : S_laws_Ferry)).bind fun r7 => ((impl_inside.f N a1 r7).bind fun r8 => (if r8 = true then ((bits_OnesCount16.f N a1).bind fun r9 => (some (decide (r9 < 2)))) else (some true)))

def slices_IndexFunc_uint16_uint16_at_impl_ValidFerry_1.b0 (N : Nat) (a1 : (List Int)) (a3 : S_laws_Ferry) (x8 : Int) : Option (Bd Int (Unit) (Int)) := if x8 < (a1.length : Int) then (if (0 : Int) ≤ x8 ∧ x8 < (a1.length : Int) then ((impl_ValidFerry_1.f N (rdL a1 x8 0) (⟨a3.f_Things, a3.f_Boat, a3.f_Rules⟩ : S_laws_Ferry)).bind fun r10 => (if r10 = true then (some (.out (.ret x8))) else (some (.next (i64w (x8 + 1)))))) else none) else (some (.out (.go ())))
def slices_IndexFunc_uint16_uint16_at_impl_ValidFerry_1.a0 (N : Nat) : Option Int := some (-1)
def slices_IndexFunc_uint16_uint16_at_impl_ValidFerry_1.f (N : Nat) (a1 : (List Int)) (a3 : S_laws_Ferry) : Option Int := (rounds (fun s => slices_IndexFunc_uint16_uint16_at_impl_ValidFerry_1.b0 N a1 a3 s) N 0).bind (Ex.fin fun s => slices_IndexFunc_uint16_uint16_at_impl_ValidFerry_1.a0 N)

def slices_ContainsFunc_uint16_uint16_at_impl_ValidFerry_1.f (N : Nat) (a1 : (List Int)) (a3 : S_laws_Ferry) : Option Bool := (slices_IndexFunc_uint16_uint16_at_impl_ValidFerry_1.f N a1 (⟨a3.f_Things, a3.f_Boat, a3.f_Rules⟩ : S_laws_Ferry)).bind fun r8 => (some (decide (r8 ≥ 0)))

def impl_ValidFerry.f (N : Nat) (a1 : S_laws_Ferry) : Option Bool := (impl_within.f N (i64w a1.f_Things) 1 8).bind fun r6 => (if r6 = true then ((impl_within.f N (i64w a1.f_Boat) 0 (i64w a1.f_Things)).bind fun r7 => (if r7 = true then (if (a1.f_Rules.length : Int) > 20 then (some false) else ((slices_ContainsFunc_uint16_uint16_at_impl_ValidFerry_1.f N a1.f_Rules (⟨a1.f_Things, a1.f_Boat, a1.f_Rules⟩ : S_laws_Ferry)).bind fun r8 => (some (!r8)))) else (some false))) else (some false))

def impl_letter.f (N : Nat) (a1 : Int) : Option ByteArray := some (bsOf ([u8w (i8w (97 + a1))]))

def impl_setText.j2 (N : Nat) (x3 : Int) (x5 : ByteArray) : Option (Bd ByteArray (ByteArray) (ByteArray × Int)) := some (.next (x5, i8w (x3 + 1)))
def impl_setText.b0 (N : Nat) (a1 : Int) (x2 : ByteArray) (x3 : Int) : Option (Bd ByteArray (ByteArray) (ByteArray × Int)) := if x3 < 64 then (if (0 : Int) ≤ x3 then (if (bAnd .u64 (shrI .u64 a1 x3) 1) = 1 then ((impl_letter.f N x3).bind fun r4 => (if (x2.size : Int) + r4.size ≤ 9223372036854775807 then (impl_setText.j2 N x3 (x2 ++ r4)) else none)) else (impl_setText.j2 N x3 x2)) else none) else (some (.out (.go x2)))
def impl_setText.a0 (N : Nat) (x6 : ByteArray) : Option ByteArray := some x6
def impl_setText.f (N : Nat) (a1 : Int) : Option ByteArray := if a1 = 0 then (some (⟨#[45]⟩ : ByteArray)) else ((rounds (fun s => impl_setText.b0 N a1 s.1 s.2) N ((⟨#[]⟩ : ByteArray), 0)).bind (Ex.fin fun s => impl_setText.a0 N s))

def impl_ThingsText.f (N : Nat) (a1 : Int) : Option ByteArray := if a1 ≥ 256 then (some (⟨#[]⟩ : ByteArray)) else ((impl_setText.f N (u64w a1)).bind fun r2 => (some r2))

def impl_FerryText.b0 (N : Nat) (a1 : S_laws_Ferry) (x14 : (List ByteArray)) (x15 : Int) : Option (Bd ByteArray ((List ByteArray)) ((List ByteArray) × Int)) := if x15 < (a1.f_Rules.length : Int) then (if (0 : Int) ≤ x15 ∧ x15 < (a1.f_Rules.length : Int) then ((impl_ThingsText.f N (rdL a1.f_Rules x15 0)).bind fun r17 => (if x14.length + ([r17]).length ≤ 8796093022208 then (some (.next (x14 ++ ([r17]), i64w (x15 + 1)))) else none)) else none) else (some (.out (.go x14)))
def impl_FerryText.a0 (N : Nat) (x23 : (List ByteArray)) : Option ByteArray := (strings_Join.f N x23 (⟨#[32]⟩ : ByteArray)).bind fun r25 => (some r25)
def impl_FerryText.f (N : Nat) (a1 : S_laws_Ferry) : Option ByteArray := (impl_ValidFerry.f N (⟨a1.f_Things, a1.f_Boat, a1.f_Rules⟩ : S_laws_Ferry)).bind fun r6 => (if r6 = true then ((impl_decimal.f N (i64w a1.f_Things)).bind fun r7 => ((impl_decimal.f N (i64w a1.f_Boat)).bind fun r8 => ((rounds (fun s => impl_FerryText.b0 N a1 s.1 s.2) N ([r7, r8], 0)).bind (Ex.fin fun s => impl_FerryText.a0 N s)))) else (some (⟨#[]⟩ : ByteArray)))

def laws_eqUint16S.b0 (N : Nat) (a1 : (List Int)) (a3 : (List Int)) (x5 : Int) : Option (Bd Bool (Unit) (Int)) := if x5 < (a1.length : Int) then (if (0 : Int) ≤ x5 ∧ x5 < (a1.length : Int) then (if (0 : Int) ≤ x5 ∧ x5 < (a3.length : Int) then (if (rdL a1 x5 0) = (rdL a3 x5 0) then (some (.next (i64w (x5 + 1)))) else (some (.out (.ret false)))) else none) else none) else (some (.out (.go ())))
def laws_eqUint16S.a0 (N : Nat) : Option Bool := some true
def laws_eqUint16S.f (N : Nat) (a1 : (List Int)) (a3 : (List Int)) : Option Bool := if (a1.length : Int) = (a3.length : Int) then ((rounds (fun s => laws_eqUint16S.b0 N a1 a3 s) N 0).bind (Ex.fin fun s => laws_eqUint16S.a0 N)) else (some false)

def laws_eqFerry.f (N : Nat) (a1 : S_laws_Ferry) (a4 : S_laws_Ferry) : Option Bool := if a1.f_Things = a4.f_Things then (if a1.f_Boat = a4.f_Boat then ((laws_eqUint16S.f N a1.f_Rules a4.f_Rules).bind fun r11 => (if r11 = true then (some true) else (some false))) else (some false)) else (some false)

def laws_FnExactFerryText.f (N : Nat) (a1 : S_laws_Ferry) : Option Bool := (laws_szFerry.f N (⟨a1.f_Things, a1.f_Boat, a1.f_Rules⟩ : S_laws_Ferry) 1048576).bind fun r6 => (if r6 < 0 then (some true) else ((laws_toFerry.f N (⟨a1.f_Things, a1.f_Boat, a1.f_Rules⟩ : S_laws_Ferry)).bind fun r7 => ((spec_FerryText.f N (⟨r7.f_Things, r7.f_Boat, r7.f_Rules⟩ : S_laws_Ferry)).bind fun r10 => ((laws_toFerry.f N (⟨a1.f_Things, a1.f_Boat, a1.f_Rules⟩ : S_laws_Ferry)).bind fun r11 => ((impl_FerryText.f N (⟨r11.f_Things, r11.f_Boat, r11.f_Rules⟩ : S_laws_Ferry)).bind fun r16 => (if r16.toList = r10.toList then ((laws_toFerry.f N (⟨a1.f_Things, a1.f_Boat, a1.f_Rules⟩ : S_laws_Ferry)).bind fun r17 => ((laws_eqFerry.f N (⟨r11.f_Things, r11.f_Boat, r11.f_Rules⟩ : S_laws_Ferry) (⟨r17.f_Things, r17.f_Boat, r17.f_Rules⟩ : S_laws_Ferry)).bind fun r21 => (if r21 = true then (some true) else (some false)))) else (some false)))))))

end Go.Proofs.YtffjpapmmiennaaDoorX
