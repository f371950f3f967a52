/- The plain functions, printed by gen.py. -/
import Derived.Test.YtffjpapmmiennaaDoorXPure
import Derived.Lib.ItoaNum
import Derived.Lib.Join
namespace Go.Proofs.YtffjpapmmiennaaDoorX
open Go
set_option linter.unusedVariables false


def laws_toWeights.b0 (N : Nat) (a1 : (List Int)) (x8 : (List Int)) (x9 : Int) : Option (Bd (List Int) ((List Int)) ((List Int) × Int)) := if x9 < (a1.length : Int) then (if (0 : Int) ≤ x9 ∧ x9 < (a1.length : Int) then (if (0 : Int) ≤ x9 ∧ x9 < (x8.length : Int) then (some (.next (stL x8 x9 (rdL a1 x9 0), i64w (x9 + 1)))) else none) else none) else (some (.out (.go x8)))
def laws_toWeights.a0 (N : Nat) (x12 : (List Int)) : Option (List Int) := some x12
def laws_toWeights.f (N : Nat) (a1 : (List Int)) : Option (List Int) := if (0 : Int) ≤ (a1.length : Int) ∧ (a1.length : Int) ≤ 140737488355328 then ((rounds (fun s => laws_toWeights.b0 N a1 s.1 s.2) N (List.replicate ((a1.length : Int)).toNat (0 : Int), 0)).bind (Ex.fin fun s => laws_toWeights.a0 N s)) else none

def spec_l00In.f (N : Nat) (a1 : Int) (a2 : Int) (a3 : Int) : Option Bool := if a1 ≥ a2 then (some (decide (a1 ≤ a3))) else (some false)

def spec_l01Sum.b0 (N : Nat) (a1 : (List Int)) (x3 : Int) (x4 : Int) : Option (Bd Int (Int) (Int × Int)) := if x4 < (a1.length : Int) then (if (0 : Int) ≤ x4 ∧ x4 < (a1.length : Int) then (some (.next (i64w (x3 + (i64w (rdL a1 x4 0))), i64w (x4 + 1)))) else none) else (some (.out (.go x3)))
def spec_l01Sum.a0 (N : Nat) (x6 : Int) : Option Int := some x6
def spec_l01Sum.f (N : Nat) (a1 : (List Int)) : Option Int := (rounds (fun s => spec_l01Sum.b0 N a1 s.1 s.2) N (0, 0)).bind (Ex.fin fun s => spec_l01Sum.a0 N s)

def spec_l01Ok.j2 (N : Nat) (x4 : Int) (x6 : Bool) : Option (Bd Bool (Unit) (Int)) := some (.next (i64w (x4 + 1)))
def spec_l01Ok.b0 (N : Nat) (a1 : (List Int)) (x4 : Int) : Option (Bd Bool (Unit) (Int)) := if x4 < (a1.length : Int) then (if (0 : Int) ≤ x4 ∧ x4 < (a1.length : Int) then (if (rdL a1 x4 0) < 1 then (some (.out (.ret false))) else (if x4 > 0 then (if (0 : Int) ≤ x4 ∧ x4 < (a1.length : Int) then (if (0 : Int) ≤ (i64w (x4 - 1)) ∧ (i64w (x4 - 1)) < (a1.length : Int) then (if (rdL a1 x4 0) < (rdL a1 (i64w (x4 - 1)) 0) then (some (.out (.ret false))) else (spec_l01Ok.j2 N x4 true)) else none) else none) else (spec_l01Ok.j2 N x4 false))) else none) else (some (.out (.go ())))
def spec_l01Ok.a0 (N : Nat) (a1 : (List Int)) : Option Bool := (spec_l01Sum.f N a1).bind fun r7 => (some (decide (r7 ≤ 2000)))
def spec_l01Ok.f (N : Nat) (a1 : (List Int)) : Option Bool := (spec_l00In.f N (a1.length : Int) 1 16).bind fun r3 => (if r3 = true then ((rounds (fun s => spec_l01Ok.b0 N a1 s) N 0).bind (Ex.fin fun s => spec_l01Ok.a0 N a1)) else (some false))

def spec_Decimal.body (N : Nat) (self : Int → Option ByteArray) (a1 : Int) : Option ByteArray := if a1 < 10 then (some (bsOf ([u8w (i64w (48 + (a1.tmod 10)))]))) else ((self (i64w (a1.tdiv 10))).bind fun r4 => (if (r4.size : Int) + (bsOf ([u8w (i64w (48 + (a1.tmod 10)))])).size ≤ 9223372036854775807 then (some (r4 ++ (bsOf ([u8w (i64w (48 + (a1.tmod 10)))])))) else none))
def spec_Decimal.g (N : Nat) : Nat → Int → Option ByteArray
  | 0, _ => none
  | k + 1, a1 => spec_Decimal.body N (spec_Decimal.g N k) a1
def spec_Decimal.f (N : Nat) (a1 : Int) : Option ByteArray := spec_Decimal.g N N a1

def spec_l01Text.j2 (N : Nat) (x4 : Int) (a1 : (List Int)) (x5 : ByteArray) : Option (Bd ByteArray (ByteArray) (ByteArray × Int)) := if (0 : Int) ≤ x4 ∧ x4 < (a1.length : Int) then ((spec_Decimal.f N (i64w (rdL a1 x4 0))).bind fun r7 => (if (x5.size : Int) + r7.size ≤ 9223372036854775807 then (some (.next (x5 ++ r7, i64w (x4 + 1)))) else none)) else none
def spec_l01Text.b0 (N : Nat) (a1 : (List Int)) (x3 : ByteArray) (x4 : Int) : Option (Bd ByteArray (ByteArray) (ByteArray × Int)) := if x4 < (a1.length : Int) then (if x4 > 0 then (if (x3.size : Int) + (⟨#[32]⟩ : ByteArray).size ≤ 9223372036854775807 then (spec_l01Text.j2 N x4 a1 (x3 ++ (⟨#[32]⟩ : ByteArray))) else none) else (spec_l01Text.j2 N x4 a1 x3)) else (some (.out (.go x3)))
def spec_l01Text.a0 (N : Nat) (x8 : ByteArray) : Option ByteArray := some x8
def spec_l01Text.f (N : Nat) (a1 : (List Int)) : Option ByteArray := (rounds (fun s => spec_l01Text.b0 N a1 s.1 s.2) N ((⟨#[]⟩ : ByteArray), 0)).bind (Ex.fin fun s => spec_l01Text.a0 N s)

def spec_WeightsText.f (N : Nat) (a1 : (List Int)) : Option ByteArray := (spec_l01Ok.f N a1).bind fun r3 => (if r3 = true then ((spec_l01Text.f N a1).bind fun r4 => (some r4)) else (some (⟨#[]⟩ : ByteArray)))

def impl_size_int16.f (N : Nat) (a1 : (List Int)) : Option Int := some (a1.length : Int)

def impl_within.f (N : Nat) (a1 : Int) (a2 : Int) (a3 : Int) : Option Bool := if a2 ≤ a1 then (some (decide (a1 ≤ a3))) else (some false)

def cmp_isNaN_int16.f (N : Nat) (a1 : Int) : Option Bool := some (a1 != a1)

def cmp_Less_int16.f (N : Nat) (a1 : Int) (a2 : Int) : Option Bool := (cmp_isNaN_int16.f N a1).bind fun r3 => (if r3 = true then ((cmp_isNaN_int16.f N a2).bind fun r4 => (if r4 = true then (some (decide (a1 < a2))) else (some true))) else (some (decide (a1 < a2))))

def slices_IsSorted_impl_Weights_int16.b0 (N : Nat) (a1 : (List Int)) (x3 : Int) : Option (Bd Bool (Unit) (Int)) := if x3 > 0 then (if (0 : Int) ≤ x3 ∧ x3 < (a1.length : Int) then (if (0 : Int) ≤ (i64w (x3 - 1)) ∧ (i64w (x3 - 1)) < (a1.length : Int) then ((cmp_Less_int16.f N (rdL a1 x3 0) (rdL a1 (i64w (x3 - 1)) 0)).bind fun r4 => (if r4 = true then (some (.out (.ret false))) else (some (.next (i64w (x3 - 1)))))) else none) else none) else (some (.out (.go ())))
def slices_IsSorted_impl_Weights_int16.a0 (N : Nat) : Option Bool := some true
def slices_IsSorted_impl_Weights_int16.f (N : Nat) (a1 : (List Int)) : Option Bool := (rounds (fun s => slices_IsSorted_impl_Weights_int16.b0 N a1 s) N (i64w ((a1.length : Int) - 1))).bind (Ex.fin fun s => slices_IsSorted_impl_Weights_int16.a0 N)

def _impl_Weights_sum.b0 (N : Nat) (a1 : (List Int)) (x3 : Int) (x4 : Int) : Option (Bd Int (Int) (Int × Int)) := if x4 < (a1.length : Int) then (if (0 : Int) ≤ x4 ∧ x4 < (a1.length : Int) then (some (.next (i64w (x3 + (i64w (rdL a1 x4 0))), i64w (x4 + 1)))) else none) else (some (.out (.go x3)))
def _impl_Weights_sum.a0 (N : Nat) (x6 : Int) : Option Int := some x6
def _impl_Weights_sum.f (N : Nat) (a1 : (List Int)) : Option Int := (rounds (fun s => _impl_Weights_sum.b0 N a1 s.1 s.2) N (0, 0)).bind (Ex.fin fun s => _impl_Weights_sum.a0 N s)

def impl_ValidWeights.f (N : Nat) (a1 : (List Int)) : Option Bool := (impl_size_int16.f N a1).bind fun r3 => ((impl_within.f N r3 1 16).bind fun r4 => (if r4 = true then ((slices_IsSorted_impl_Weights_int16.f N a1).bind fun r5 => (if r5 = true then (if (0 : Int) ≤ 0 ∧ 0 < (a1.length : Int) then (if (rdL a1 0 0) ≥ 1 then ((_impl_Weights_sum.f N a1).bind fun r7 => (some (decide (r7 ≤ 2000)))) else (some false)) else none) else (some false))) else (some false)))

def strconv_FormatInt.f (N : Nat) (a1 : Int) (a2 : Int) : Option ByteArray := if (-9223372036854775808 ≤ a1 ∧ a1 ≤ 9223372036854775807) ∧ a2 = 10 then some ⟨(Lib.itoa a1).toArray⟩ else none

def impl_decimal.f (N : Nat) (a1 : Int) : Option ByteArray := (strconv_FormatInt.f N a1 10).bind fun r2 => (some r2)

def strings_Join.f (N : Nat) (a1 : List ByteArray) (a2 : ByteArray) : Option ByteArray := if a1.length ≤ 140737488355328 ∧ (Lib.join (a1.map (·.data.toList)) a2.data.toList).length ≤ 140737488355328 then some ⟨(Lib.join (a1.map (·.data.toList)) a2.data.toList).toArray⟩ else none

def impl_WeightsText.b0 (N : Nat) (a1 : (List Int)) (x8 : (List ByteArray)) (x9 : Int) : Option (Bd ByteArray ((List ByteArray)) ((List ByteArray) × Int)) := if x9 < (a1.length : Int) then (if (0 : Int) ≤ x9 ∧ x9 < (a1.length : Int) then ((impl_decimal.f N (i64w (rdL a1 x9 0))).bind fun r11 => (if x8.length + ([r11]).length ≤ 8796093022208 then (some (.next (x8 ++ ([r11]), i64w (x9 + 1)))) else none)) else none) else (some (.out (.go x8)))
def impl_WeightsText.a0 (N : Nat) (x17 : (List ByteArray)) : Option ByteArray := (strings_Join.f N x17 (⟨#[32]⟩ : ByteArray)).bind fun r19 => (some r19)
def impl_WeightsText.f (N : Nat) (a1 : (List Int)) : Option ByteArray := (impl_ValidWeights.f N a1).bind fun r3 => (if r3 = true then ((rounds (fun s => impl_WeightsText.b0 N a1 s.1 s.2) N (([] : List ByteArray), 0)).bind (Ex.fin fun s => impl_WeightsText.a0 N s)) else (some (⟨#[]⟩ : ByteArray)))

def laws_eqWeights.b0 (N : Nat) (a1 : (List Int)) (a3 : (List Int)) (x5 : Int) : Option (Bd Bool (Unit) (Int)) := if x5 < (a1.length : Int) then (if (0 : Int) ≤ x5 ∧ x5 < (a1.length : Int) then (if (0 : Int) ≤ x5 ∧ x5 < (a3.length : Int) then (if (rdL a1 x5 0) = (rdL a3 x5 0) then (some (.next (i64w (x5 + 1)))) else (some (.out (.ret false)))) else none) else none) else (some (.out (.go ())))
def laws_eqWeights.a0 (N : Nat) : Option Bool := some true
def laws_eqWeights.f (N : Nat) (a1 : (List Int)) (a3 : (List Int)) : Option Bool := if (a1.length : Int) = (a3.length : Int) then ((rounds (fun s => laws_eqWeights.b0 N a1 a3 s) N 0).bind (Ex.fin fun s => laws_eqWeights.a0 N)) else (some false)

def laws_FnExactWeightsText.f (N : Nat) (a1 : (List Int)) : Option Bool := if (a1.length : Int) > 1048576 then (some true) else ((laws_toWeights.f N a1).bind fun r3 => ((spec_WeightsText.f N r3).bind fun r6 => ((laws_toWeights.f N a1).bind fun r7 => ((impl_WeightsText.f N r7).bind fun r10 => (if r10.toList = r6.toList then ((laws_toWeights.f N a1).bind fun r11 => ((laws_eqWeights.f N r7 r11).bind fun r14 => (if r14 = true then (some true) else (some false)))) else (some false))))))

end Go.Proofs.YtffjpapmmiennaaDoorX
