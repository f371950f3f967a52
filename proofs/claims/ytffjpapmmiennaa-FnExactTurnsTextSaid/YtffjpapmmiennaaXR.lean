/- The plain functions, printed by gen.py. -/
import Derived.Test.YtffjpapmmiennaaXPure
import Derived.Lib.Join
namespace Go.Proofs.YtffjpapmmiennaaX
open Go
set_option linter.unusedVariables false


def laws_toByteS.b0 (N : Nat) (a1 : (List Int)) (x8 : (List Int)) (x9 : Int) : Option (Bd (List Int) ((List Int)) ((List Int) × Int)) := if x9 < (a1.length : Int) then (if (0 : Int) ≤ x9 ∧ x9 < (a1.length : Int) then (if (0 : Int) ≤ x9 ∧ x9 < (x8.length : Int) then (some (.next (stL x8 x9 (rdL a1 x9 0), i64w (x9 + 1)))) else none) else none) else (some (.out (.go x8)))
def laws_toByteS.a0 (N : Nat) (x12 : (List Int)) : Option (List Int) := some x12
def laws_toByteS.f (N : Nat) (a1 : (List Int)) : Option (List Int) := if (0 : Int) ≤ (a1.length : Int) ∧ (a1.length : Int) ≤ 281474976710656 then ((rounds (fun s => laws_toByteS.b0 N a1 s.1 s.2) N (List.replicate ((a1.length : Int)).toNat 0, 0)).bind (Ex.fin fun s => laws_toByteS.a0 N s)) else none

def spec_l07Planned.b0 (N : Nat) (a1 : (List Int)) (x3 : Int) : Option (Bd Int (Unit) (Int)) := if x3 < (a1.length : Int) then (if (0 : Int) ≤ x3 ∧ x3 < (a1.length : Int) then (if (rdL a1 x3 0) ≥ 16 then (some (.out (.ret 2))) else (some (.next (i64w (x3 + 1))))) else none) else (some (.out (.go ())))
def spec_l07Planned.a0 (N : Nat) (a1 : (List Int)) : Option Int := if (a1.length : Int) > 60 then (some 3) else (some 0)
def spec_l07Planned.f (N : Nat) (a1 : (List Int)) : Option Int := (rounds (fun s => spec_l07Planned.b0 N a1 s) N 0).bind (Ex.fin fun s => spec_l07Planned.a0 N a1)

def spec_l05Text.j2 (N : Nat) (x3 : Int) (x6 : ByteArray) : Option (Bd ByteArray (ByteArray) (ByteArray × Int)) := some (.next (x6, i64w (x3 + 1)))
def spec_l05Text.b0 (N : Nat) (a1 : Int) (x2 : ByteArray) (x3 : Int) : Option (Bd ByteArray (ByteArray) (ByteArray × Int)) := if x3 < 8 then (if (0 : Int) ≤ (u64w x3) then (if ((shrI .u16 a1 (u64w x3)).tmod 2) = 1 then (if (x2.size : Int) + (bsOf ([u8w (i64w (97 + x3))])).size ≤ 9223372036854775807 then (spec_l05Text.j2 N x3 (x2 ++ (bsOf ([u8w (i64w (97 + x3))])))) else none) else (spec_l05Text.j2 N x3 x2)) else none) else (some (.out (.go x2)))
def spec_l05Text.a0 (N : Nat) (x7 : ByteArray) : Option ByteArray := some x7
def spec_l05Text.f (N : Nat) (a1 : Int) : Option ByteArray := if a1 = 0 then (some (⟨#[45]⟩ : ByteArray)) else ((rounds (fun s => spec_l05Text.b0 N a1 s.1 s.2) N ((⟨#[]⟩ : ByteArray), 0)).bind (Ex.fin fun s => spec_l05Text.a0 N s))

def spec_l07PlanText.j2 (N : Nat) (x4 : Int) (a1 : (List Int)) (x5 : ByteArray) : Option (Bd ByteArray (ByteArray) (ByteArray × Int)) := if (0 : Int) ≤ x4 ∧ x4 < (a1.length : Int) then ((spec_l05Text.f N (u16w (rdL a1 x4 0))).bind fun r7 => (if (x5.size : Int) + r7.size ≤ 9223372036854775807 then (some (.next (x5 ++ r7, i64w (x4 + 1)))) else none)) else none
def spec_l07PlanText.b0 (N : Nat) (a1 : (List Int)) (x3 : ByteArray) (x4 : Int) : Option (Bd ByteArray (ByteArray) (ByteArray × Int)) := if x4 < (a1.length : Int) then (if x4 > 0 then (if (x3.size : Int) + (⟨#[32]⟩ : ByteArray).size ≤ 9223372036854775807 then (spec_l07PlanText.j2 N x4 a1 (x3 ++ (⟨#[32]⟩ : ByteArray))) else none) else (spec_l07PlanText.j2 N x4 a1 x3)) else (some (.out (.go x3)))
def spec_l07PlanText.a0 (N : Nat) (x8 : ByteArray) : Option ByteArray := some x8
def spec_l07PlanText.f (N : Nat) (a1 : (List Int)) : Option ByteArray := (rounds (fun s => spec_l07PlanText.b0 N a1 s.1 s.2) N ((⟨#[]⟩ : ByteArray), 0)).bind (Ex.fin fun s => spec_l07PlanText.a0 N s)

def spec_TurnsText.f (N : Nat) (a1 : (List Int)) : Option ByteArray := (spec_l07Planned.f N a1).bind fun r3 => (if r3 = 0 then ((spec_l07PlanText.f N a1).bind fun r4 => (some r4)) else (some (⟨#[]⟩ : ByteArray)))

def bits_OnesCount8.f (N : Nat) (a1 : Int) : Option Int := if (0 : Int) ≤ a1 ∧ a1 < ((⟨#[0, 1, 1, 2, 1, 2, 2, 3, 1, 2, 2, 3, 2, 3, 3, 4, 1, 2, 2, 3, 2, 3, 3, 4, 2, 3, 3, 4, 3, 4, 4, 5, 1, 2, 2, 3, 2, 3, 3, 4, 2, 3, 3, 4, 3, 4, 4, 5, 2, 3, 3, 4, 3, 4, 4, 5, 3, 4, 4, 5, 4, 5, 5, 6, 1, 2, 2, 3, 2, 3, 3, 4, 2, 3, 3, 4, 3, 4, 4, 5, 2, 3, 3, 4, 3, 4, 4, 5, 3, 4, 4, 5, 4, 5, 5, 6, 2, 3, 3, 4, 3, 4, 4, 5, 3, 4, 4, 5, 4, 5, 5, 6, 3, 4, 4, 5, 4, 5, 5, 6, 4, 5, 5, 6, 5, 6, 6, 7, 1, 2, 2, 3, 2, 3, 3, 4, 2, 3, 3, 4, 3, 4, 4, 5, 2, 3, 3, 4, 3, 4, 4, 5, 3, 4, 4, 5, 4, 5, 5, 6, 2, 3, 3, 4, 3, 4, 4, 5, 3, 4, 4, 5, 4, 5, 5, 6, 3, 4, 4, 5, 4, 5, 5, 6, 4, 5, 5, 6, 5, 6, 6, 7, 2, 3, 3, 4, 3, 4, 4, 5, 3, 4, 4, 5, 4, 5, 5, 6, 3, 4, 4, 5, 4, 5, 5, 6, 4, 5, 5, 6, 5, 6, 6, 7, 3, 4, 4, 5, 4, 5, 5, 6, 4, 5, 5, 6, 5, 6, 6, 7, 4, 5, 5, 6, 5, 6, 6, 7, 5, 6, 6, 7, 6, 7, 7, 8]⟩ : ByteArray).size : Int) then (some (i64w (btS (⟨#[0, 1, 1, 2, 1, 2, 2, 3, 1, 2, 2, 3, 2, 3, 3, 4, 1, 2, 2, 3, 2, 3, 3, 4, 2, 3, 3, 4, 3, 4, 4, 5, 1, 2, 2, 3, 2, 3, 3, 4, 2, 3, 3, 4, 3, 4, 4, 5, 2, 3, 3, 4, 3, 4, 4, 5, 3, 4, 4, 5, 4, 5, 5, 6, 1, 2, 2, 3, 2, 3, 3, 4, 2, 3, 3, 4, 3, 4, 4, 5, 2, 3, 3, 4, 3, 4, 4, 5, 3, 4, 4, 5, 4, 5, 5, 6, 2, 3, 3, 4, 3, 4, 4, 5, 3, 4, 4, 5, 4, 5, 5, 6, 3, 4, 4, 5, 4, 5, 5, 6, 4, 5, 5, 6, 5, 6, 6, 7, 1, 2, 2, 3, 2, 3, 3, 4, 2, 3, 3, 4, 3, 4, 4, 5, 2, 3, 3, 4, 3, 4, 4, 5, 3, 4, 4, 5, 4, 5, 5, 6, 2, 3, 3, 4, 3, 4, 4, 5, 3, 4, 4, 5, 4, 5, 5, 6, 3, 4, 4, 5, 4, 5, 5, 6, 4, 5, 5, 6, 5, 6, 6, 7, 2, 3, 3, 4, 3, 4, 4, 5, 3, 4, 4, 5, 4, 5, 5, 6, 3, 4, 4, 5, 4, 5, 5, 6, 4, 5, 5, 6, 5, 6, 6, 7, 3, 4, 4, 5, 4, 5, 5, 6, 4, 5, 5, 6, 5, 6, 6, 7, 4, 5, 5, 6, 5, 6, 6, 7, 5, 6, 6, 7, 6, 7, 7, 8]⟩ : ByteArray) a1))) else none

def impl_TurnsIn.b0 (N : Nat) (a1 : (List Int)) (x3 : Int) (x4 : Int) : Option (Bd (Int × Int) (Int) (Int × Int)) := if x4 < (a1.length : Int) then (if (0 : Int) ≤ x4 ∧ x4 < (a1.length : Int) then (if (rdL a1 x4 0) ≥ 16 then (some (.out (.ret (0, 2)))) else ((bits_OnesCount8.f N (rdL a1 x4 0)).bind fun r6 => (some (.next (i64w (x3 + r6), i64w (x4 + 1)))))) else none) else (some (.out (.go x3)))
def impl_TurnsIn.a0 (N : Nat) (a1 : (List Int)) (x7 : Int) : Option (Int × Int) := if (a1.length : Int) > 60 then (some (0, 3)) else (some (x7, 0))
def impl_TurnsIn.f (N : Nat) (a1 : (List Int)) : Option (Int × Int) := (rounds (fun s => impl_TurnsIn.b0 N a1 s.1 s.2) N (0, 0)).bind (Ex.fin fun s => impl_TurnsIn.a0 N a1 s)

def impl_letter.f (N : Nat) (a1 : Int) : Option ByteArray := some (bsOf ([u8w (i8w (97 + a1))]))

def impl_setText.j2 (N : Nat) (x3 : Int) (x5 : ByteArray) : Option (Bd ByteArray (ByteArray) (ByteArray × Int)) := some (.next (x5, i8w (x3 + 1)))
def impl_setText.b0 (N : Nat) (a1 : Int) (x2 : ByteArray) (x3 : Int) : Option (Bd ByteArray (ByteArray) (ByteArray × Int)) := if x3 < 64 then (if (0 : Int) ≤ x3 then (if (bAnd .u64 (shrI .u64 a1 x3) 1) = 1 then ((impl_letter.f N x3).bind fun r4 => (if (x2.size : Int) + r4.size ≤ 9223372036854775807 then (impl_setText.j2 N x3 (x2 ++ r4)) else none)) else (impl_setText.j2 N x3 x2)) else none) else (some (.out (.go x2)))
def impl_setText.a0 (N : Nat) (x6 : ByteArray) : Option ByteArray := some x6
def impl_setText.f (N : Nat) (a1 : Int) : Option ByteArray := if a1 = 0 then (some (⟨#[45]⟩ : ByteArray)) else ((rounds (fun s => impl_setText.b0 N a1 s.1 s.2) N ((⟨#[]⟩ : ByteArray), 0)).bind (Ex.fin fun s => impl_setText.a0 N s))

def strings_Join.f (N : Nat) (a1 : List ByteArray) (a2 : ByteArray) : Option ByteArray := if a1.length ≤ 140737488355328 ∧ (Lib.join (a1.map (·.data.toList)) a2.data.toList).length ≤ 140737488355328 then some ⟨(Lib.join (a1.map (·.data.toList)) a2.data.toList).toArray⟩ else none

def impl_TurnsText.b0 (N : Nat) (a1 : (List Int)) (x8 : (List ByteArray)) (x9 : Int) : Option (Bd ByteArray ((List ByteArray)) ((List ByteArray) × Int)) := if x9 < (a1.length : Int) then (if (0 : Int) ≤ x9 ∧ x9 < (a1.length : Int) then ((impl_setText.f N (u64w (rdL a1 x9 0))).bind fun r11 => (if x8.length + ([r11]).length ≤ 8796093022208 then (some (.next (x8 ++ ([r11]), i64w (x9 + 1)))) else none)) else none) else (some (.out (.go x8)))
def impl_TurnsText.a0 (N : Nat) (x17 : (List ByteArray)) : Option ByteArray := (strings_Join.f N x17 (⟨#[32]⟩ : ByteArray)).bind fun r19 => (some r19)
def impl_TurnsText.f (N : Nat) (a1 : (List Int)) : Option ByteArray := (impl_TurnsIn.f N a1).bind fun r3 => (if r3.2 = 0 then ((rounds (fun s => impl_TurnsText.b0 N a1 s.1 s.2) N (([] : List ByteArray), 0)).bind (Ex.fin fun s => impl_TurnsText.a0 N s)) else (some (⟨#[]⟩ : ByteArray)))

def laws_eqByteS.b0 (N : Nat) (a1 : (List Int)) (a3 : (List Int)) (x5 : Int) : Option (Bd Bool (Unit) (Int)) := if x5 < (a1.length : Int) then (if (0 : Int) ≤ x5 ∧ x5 < (a1.length : Int) then (if (0 : Int) ≤ x5 ∧ x5 < (a3.length : Int) then (if (rdL a1 x5 0) = (rdL a3 x5 0) then (some (.next (i64w (x5 + 1)))) else (some (.out (.ret false)))) else none) else none) else (some (.out (.go ())))
def laws_eqByteS.a0 (N : Nat) : Option Bool := some true
def laws_eqByteS.f (N : Nat) (a1 : (List Int)) (a3 : (List Int)) : Option Bool := if (a1.length : Int) = (a3.length : Int) then ((rounds (fun s => laws_eqByteS.b0 N a1 a3 s) N 0).bind (Ex.fin fun s => laws_eqByteS.a0 N)) else (some false)

def laws_FnExactTurnsText.f (N : Nat) (a1 : (List Int)) : Option Bool := if (a1.length : Int) > 1048576 then (some true) else ((laws_toByteS.f N a1).bind fun r3 => ((spec_TurnsText.f N r3).bind fun r6 => ((laws_toByteS.f N a1).bind fun r7 => ((impl_TurnsText.f N r7).bind fun r10 => (if r10.toList = r6.toList then ((laws_toByteS.f N a1).bind fun r11 => ((laws_eqByteS.f N r7 r11).bind fun r14 => (if r14 = true then (some true) else (some false)))) else (some false))))))

end Go.Proofs.YtffjpapmmiennaaX
