/- The plain functions, printed by gen.py. -/
import Derived.Test.YtcocgeodfbiehaaXPure
namespace Go.Proofs.YtcocgeodfbiehaaX
open Go
set_option linter.unusedVariables false
structure S_laws_Task where
  f_Coins : Int
  f_Kind : Int
  f_None : Bool
  f_Good : Bool
  deriving DecidableEq
def z_S_laws_Task : S_laws_Task := ⟨0, 0, false, false⟩
instance : Inhabited S_laws_Task := ⟨z_S_laws_Task⟩
structure S_impl_Case where
  f_Coin : Int
  f_Heavy : Bool
  deriving DecidableEq
def z_S_impl_Case : S_impl_Case := ⟨0, false⟩
instance : Inhabited S_impl_Case := ⟨z_S_impl_Case⟩

def laws_szCaseS.f (N : Nat) (a1 : (List S_impl_Case)) (a3 : Int) : Option Int := if (i64w (a3 - (a1.length : Int))) < 0 then (some (-1)) else (some (i64w (a3 - (a1.length : Int))))

def laws_szWeighingS.f (N : Nat) (a1 : (List (Ar Int 14))) (a3 : Int) : Option Int := if (i64w (a3 - (a1.length : Int))) < 0 then (some (-1)) else (some (i64w (a3 - (a1.length : Int))))

def laws_toTask.f (N : Nat) (a1 : S_laws_Task) : Option S_laws_Task := some (⟨(⟨(⟨(⟨a1.f_Coins, z_S_laws_Task.f_Kind, z_S_laws_Task.f_None, z_S_laws_Task.f_Good⟩ : S_laws_Task).f_Coins, a1.f_Kind, (⟨a1.f_Coins, z_S_laws_Task.f_Kind, z_S_laws_Task.f_None, z_S_laws_Task.f_Good⟩ : S_laws_Task).f_None, (⟨a1.f_Coins, z_S_laws_Task.f_Kind, z_S_laws_Task.f_None, z_S_laws_Task.f_Good⟩ : S_laws_Task).f_Good⟩ : S_laws_Task).f_Coins, (⟨(⟨a1.f_Coins, z_S_laws_Task.f_Kind, z_S_laws_Task.f_None, z_S_laws_Task.f_Good⟩ : S_laws_Task).f_Coins, a1.f_Kind, (⟨a1.f_Coins, z_S_laws_Task.f_Kind, z_S_laws_Task.f_None, z_S_laws_Task.f_Good⟩ : S_laws_Task).f_None, (⟨a1.f_Coins, z_S_laws_Task.f_Kind, z_S_laws_Task.f_None, z_S_laws_Task.f_Good⟩ : S_laws_Task).f_Good⟩ : S_laws_Task).f_Kind, a1.f_None, (⟨(⟨a1.f_Coins, z_S_laws_Task.f_Kind, z_S_laws_Task.f_None, z_S_laws_Task.f_Good⟩ : S_laws_Task).f_Coins, a1.f_Kind, (⟨a1.f_Coins, z_S_laws_Task.f_Kind, z_S_laws_Task.f_None, z_S_laws_Task.f_Good⟩ : S_laws_Task).f_None, (⟨a1.f_Coins, z_S_laws_Task.f_Kind, z_S_laws_Task.f_None, z_S_laws_Task.f_Good⟩ : S_laws_Task).f_Good⟩ : S_laws_Task).f_Good⟩ : S_laws_Task).f_Coins, (⟨(⟨(⟨a1.f_Coins, z_S_laws_Task.f_Kind, z_S_laws_Task.f_None, z_S_laws_Task.f_Good⟩ : S_laws_Task).f_Coins, a1.f_Kind, (⟨a1.f_Coins, z_S_laws_Task.f_Kind, z_S_laws_Task.f_None, z_S_laws_Task.f_Good⟩ : S_laws_Task).f_None, (⟨a1.f_Coins, z_S_laws_Task.f_Kind, z_S_laws_Task.f_None, z_S_laws_Task.f_Good⟩ : S_laws_Task).f_Good⟩ : S_laws_Task).f_Coins, (⟨(⟨a1.f_Coins, z_S_laws_Task.f_Kind, z_S_laws_Task.f_None, z_S_laws_Task.f_Good⟩ : S_laws_Task).f_Coins, a1.f_Kind, (⟨a1.f_Coins, z_S_laws_Task.f_Kind, z_S_laws_Task.f_None, z_S_laws_Task.f_Good⟩ : S_laws_Task).f_None, (⟨a1.f_Coins, z_S_laws_Task.f_Kind, z_S_laws_Task.f_None, z_S_laws_Task.f_Good⟩ : S_laws_Task).f_Good⟩ : S_laws_Task).f_Kind, a1.f_None, (⟨(⟨a1.f_Coins, z_S_laws_Task.f_Kind, z_S_laws_Task.f_None, z_S_laws_Task.f_Good⟩ : S_laws_Task).f_Coins, a1.f_Kind, (⟨a1.f_Coins, z_S_laws_Task.f_Kind, z_S_laws_Task.f_None, z_S_laws_Task.f_Good⟩ : S_laws_Task).f_None, (⟨a1.f_Coins, z_S_laws_Task.f_Kind, z_S_laws_Task.f_None, z_S_laws_Task.f_Good⟩ : S_laws_Task).f_Good⟩ : S_laws_Task).f_Good⟩ : S_laws_Task).f_Kind, (⟨(⟨(⟨a1.f_Coins, z_S_laws_Task.f_Kind, z_S_laws_Task.f_None, z_S_laws_Task.f_Good⟩ : S_laws_Task).f_Coins, a1.f_Kind, (⟨a1.f_Coins, z_S_laws_Task.f_Kind, z_S_laws_Task.f_None, z_S_laws_Task.f_Good⟩ : S_laws_Task).f_None, (⟨a1.f_Coins, z_S_laws_Task.f_Kind, z_S_laws_Task.f_None, z_S_laws_Task.f_Good⟩ : S_laws_Task).f_Good⟩ : S_laws_Task).f_Coins, (⟨(⟨a1.f_Coins, z_S_laws_Task.f_Kind, z_S_laws_Task.f_None, z_S_laws_Task.f_Good⟩ : S_laws_Task).f_Coins, a1.f_Kind, (⟨a1.f_Coins, z_S_laws_Task.f_Kind, z_S_laws_Task.f_None, z_S_laws_Task.f_Good⟩ : S_laws_Task).f_None, (⟨a1.f_Coins, z_S_laws_Task.f_Kind, z_S_laws_Task.f_None, z_S_laws_Task.f_Good⟩ : S_laws_Task).f_Good⟩ : S_laws_Task).f_Kind, a1.f_None, (⟨(⟨a1.f_Coins, z_S_laws_Task.f_Kind, z_S_laws_Task.f_None, z_S_laws_Task.f_Good⟩ : S_laws_Task).f_Coins, a1.f_Kind, (⟨a1.f_Coins, z_S_laws_Task.f_Kind, z_S_laws_Task.f_None, z_S_laws_Task.f_Good⟩ : S_laws_Task).f_None, (⟨a1.f_Coins, z_S_laws_Task.f_Kind, z_S_laws_Task.f_None, z_S_laws_Task.f_Good⟩ : S_laws_Task).f_Good⟩ : S_laws_Task).f_Good⟩ : S_laws_Task).f_None, a1.f_Good⟩ : S_laws_Task)

def laws_toCase.f (N : Nat) (a1 : S_impl_Case) : Option S_impl_Case := some (⟨(⟨a1.f_Coin, z_S_impl_Case.f_Heavy⟩ : S_impl_Case).f_Coin, a1.f_Heavy⟩ : S_impl_Case)

def laws_toCaseS.b0 (N : Nat) (a1 : (List S_impl_Case)) (x9 : (List S_impl_Case)) (x10 : Int) : Option (Bd (List S_impl_Case) ((List S_impl_Case)) ((List S_impl_Case) × Int)) := if x10 < (a1.length : Int) then (if (0 : Int) ≤ x10 ∧ x10 < (a1.length : Int) then ((laws_toCase.f N (rdL a1 x10 z_S_impl_Case)).bind fun r12 => (if (0 : Int) ≤ x10 ∧ x10 < (x9.length : Int) then (some (.next (stL x9 x10 r12, i64w (x10 + 1)))) else none)) else none) else (some (.out (.go x9)))
def laws_toCaseS.a0 (N : Nat) (x14 : (List S_impl_Case)) : Option (List S_impl_Case) := some x14
def laws_toCaseS.f (N : Nat) (a1 : (List S_impl_Case)) : Option (List S_impl_Case) := if (0 : Int) ≤ (a1.length : Int) ∧ (a1.length : Int) ≤ 140737488355328 then ((rounds (fun s => laws_toCaseS.b0 N a1 s.1 s.2) N (List.replicate ((a1.length : Int)).toNat z_S_impl_Case, 0)).bind (Ex.fin fun s => laws_toCaseS.a0 N s)) else none

def laws_toWeighing.b0 (N : Nat) (a1 : (Ar Int 14)) (x9 : (Ar Int 14)) (x10 : Int) : Option (Bd (Ar Int 14) ((Ar Int 14)) ((Ar Int 14) × Int)) := if x10 < 14 then (if (0 : Int) ≤ x10 ∧ x10 < 14 then (if (0 : Int) ≤ x10 ∧ x10 < 14 then (some (.next (x9.set x10 (a1.get x10 0), i64w (x10 + 1)))) else none) else none) else (some (.out (.go x9)))
def laws_toWeighing.a0 (N : Nat) (x11 : (Ar Int 14)) : Option (Ar Int 14) := some x11
def laws_toWeighing.f (N : Nat) (a1 : (Ar Int 14)) : Option (Ar Int 14) := (rounds (fun s => laws_toWeighing.b0 N a1 s.1 s.2) N ((Ar.rep 14 0), 0)).bind (Ex.fin fun s => laws_toWeighing.a0 N s)

def laws_toWeighingS.b0 (N : Nat) (a1 : (List (Ar Int 14))) (x9 : (List (Ar Int 14))) (x10 : Int) : Option (Bd (List (Ar Int 14)) ((List (Ar Int 14))) ((List (Ar Int 14)) × Int)) := if x10 < (a1.length : Int) then (if (0 : Int) ≤ x10 ∧ x10 < (a1.length : Int) then ((laws_toWeighing.f N (rdL a1 x10 (Ar.rep 14 0))).bind fun r12 => (if (0 : Int) ≤ x10 ∧ x10 < (x9.length : Int) then (some (.next (stL x9 x10 r12, i64w (x10 + 1)))) else none)) else none) else (some (.out (.go x9)))
def laws_toWeighingS.a0 (N : Nat) (x14 : (List (Ar Int 14))) : Option (List (Ar Int 14)) := some x14
def laws_toWeighingS.f (N : Nat) (a1 : (List (Ar Int 14))) : Option (List (Ar Int 14)) := if (0 : Int) ≤ (a1.length : Int) ∧ (a1.length : Int) ≤ 20105355479332 then ((rounds (fun s => laws_toWeighingS.b0 N a1 s.1 s.2) N (List.replicate ((a1.length : Int)).toNat (Ar.rep 14 0), 0)).bind (Ex.fin fun s => laws_toWeighingS.a0 N s)) else none

def spec_l00In.f (N : Nat) (a1 : Int) (a2 : Int) (a3 : Int) : Option Bool := if a1 ≥ a2 then (some (decide (a1 ≤ a3))) else (some false)

def spec_l03Ok.f (N : Nat) (a1 : S_laws_Task) : Option Bool := (spec_l00In.f N (i64w a1.f_Coins) 1 13).bind fun r4 => (if r4 = true then ((spec_l00In.f N (i64w a1.f_Kind) 0 2).bind fun r5 => (some r5)) else (some false))

def spec_l03There.f (N : Nat) (a1 : S_laws_Task) (a2 : Int) : Option Bool := if a2 < (i64w a1.f_Coins) then (some true) else (if a2 = (i64w a1.f_Coins) then (some a1.f_Good) else (some false))

def spec_l03Weighing.j2 (N : Nat) (x8 : Int) (x7 : Int) (a2 : (Ar Int 14)) (x10 : Bool) : Option (Bd Bool (Int) (Int × Int)) := if (0 : Int) ≤ x8 ∧ x8 < 14 then (some (.next (i64w (x7 + (i64w (a2.get x8 0))), i64w (x8 + 1)))) else none
def spec_l03Weighing.b0 (N : Nat) (a2 : (Ar Int 14)) (a1 : S_laws_Task) (x7 : Int) (x8 : Int) : Option (Bd Bool (Int) (Int × Int)) := if x8 < 14 then (if (0 : Int) ≤ x8 ∧ x8 < 14 then (if (a2.get x8 0) < (-1) then (some (.out (.ret false))) else (if (0 : Int) ≤ x8 ∧ x8 < 14 then (if (a2.get x8 0) > 1 then (some (.out (.ret false))) else (if (0 : Int) ≤ x8 ∧ x8 < 14 then (if (a2.get x8 0) = 0 then (spec_l03Weighing.j2 N x8 x7 a2 false) else ((spec_l03There.f N a1 x8).bind fun r9 => (if r9 = true then (spec_l03Weighing.j2 N x8 x7 a2 true) else (some (.out (.ret false)))))) else none)) else none)) else none) else (some (.out (.go x7)))
def spec_l03Weighing.a0 (N : Nat) (x11 : Int) : Option Bool := some (x11 == 0)
def spec_l03Weighing.f (N : Nat) (a1 : S_laws_Task) (a2 : (Ar Int 14)) : Option Bool := (rounds (fun s => spec_l03Weighing.b0 N a2 a1 s.1 s.2) N (0, 0)).bind (Ex.fin fun s => spec_l03Weighing.a0 N s)

def spec_l03Cases.j3 (N : Nat) (x16 : Int) (x29 : (List S_impl_Case)) : Option (Bd (List S_impl_Case) ((List S_impl_Case)) ((List S_impl_Case) × Int)) := some (.next (x29, i8w (x16 + 1)))
def spec_l03Cases.j4 (N : Nat) (a1 : S_laws_Task) (x16 : Int) (x22 : (List S_impl_Case)) : Option (Bd (List S_impl_Case) ((List S_impl_Case)) ((List S_impl_Case) × Int)) := if a1.f_Kind = 0 then (spec_l03Cases.j3 N x16 x22) else (if x22.length + ([(⟨x16, false⟩ : S_impl_Case)]).length ≤ 70368744177664 then (spec_l03Cases.j3 N x16 (x22 ++ ([(⟨x16, false⟩ : S_impl_Case)]))) else none)
def spec_l03Cases.b1 (N : Nat) (a1 : S_laws_Task) (x15 : (List S_impl_Case)) (x16 : Int) : Option (Bd (List S_impl_Case) ((List S_impl_Case)) ((List S_impl_Case) × Int)) := if x16 < a1.f_Coins then (if a1.f_Kind = 1 then (spec_l03Cases.j4 N a1 x16 x15) else (if x15.length + ([(⟨x16, true⟩ : S_impl_Case)]).length ≤ 70368744177664 then (spec_l03Cases.j4 N a1 x16 (x15 ++ ([(⟨x16, true⟩ : S_impl_Case)]))) else none)) else (some (.out (.go x15)))
def spec_l03Cases.a1 (N : Nat) (x32 : (List S_impl_Case)) : Option (List S_impl_Case) := some x32
def spec_l03Cases.j0 (N : Nat) (a1 : S_laws_Task) (x11 : (List S_impl_Case)) : Option (List S_impl_Case) := (rounds (fun s => spec_l03Cases.b1 N a1 s.1 s.2) N (x11, 0)).bind (Ex.fin fun s => spec_l03Cases.a1 N s)
def spec_l03Cases.f (N : Nat) (a1 : S_laws_Task) : Option (List S_impl_Case) := if a1.f_None = true then (if ([] : List S_impl_Case).length + ([(⟨(-1), false⟩ : S_impl_Case)]).length ≤ 70368744177664 then (spec_l03Cases.j0 N a1 (([] : List S_impl_Case) ++ ([(⟨(-1), false⟩ : S_impl_Case)]))) else none) else (spec_l03Cases.j0 N a1 ([] : List S_impl_Case))

def spec_l03Find.b0 (N : Nat) (r7 : (List S_impl_Case)) (a2 : S_impl_Case) (x10 : Int) : Option (Bd Int (Unit) (Int)) := if x10 < (r7.length : Int) then (if (0 : Int) ≤ x10 ∧ x10 < (r7.length : Int) then (if (rdL r7 x10 z_S_impl_Case) = a2 then (some (.out (.ret x10))) else (some (.next (i64w (x10 + 1))))) else none) else (some (.out (.go ())))
def spec_l03Find.a0 (N : Nat) : Option Int := some (-1)
def spec_l03Find.f (N : Nat) (a1 : S_laws_Task) (a2 : S_impl_Case) : Option Int := (spec_l03Cases.f N a1).bind fun r7 => ((rounds (fun s => spec_l03Find.b0 N r7 a2 s) N 0).bind (Ex.fin fun s => spec_l03Find.a0 N))

def spec_l03Given.b0 (N : Nat) (a2 : (List S_impl_Case)) (a1 : S_laws_Task) (x6 : Int) : Option (Bd Int (Unit) (Int)) := if x6 < (a2.length : Int) then (if (0 : Int) ≤ x6 ∧ x6 < (a2.length : Int) then ((spec_l03Find.f N a1 (rdL a2 x6 z_S_impl_Case)).bind fun r7 => (if r7 < 0 then (some (.out (.ret 6))) else (some (.next (i64w (x6 + 1)))))) else none) else (some (.out (.go ())))
def spec_l03Given.a0 (N : Nat) (a2 : (List S_impl_Case)) : Option Int := if (a2.length : Int) > 27 then (some 2) else (some 0)
def spec_l03Given.f (N : Nat) (a1 : S_laws_Task) (a2 : (List S_impl_Case)) : Option Int := (rounds (fun s => spec_l03Given.b0 N a2 a1 s) N 0).bind (Ex.fin fun s => spec_l03Given.a0 N a2)

def spec_l03Result.f (N : Nat) (a1 : (Ar Int 14)) (a2 : S_impl_Case) : Option Int := if a2.f_Coin < 0 then (some 0) else (if a2.f_Heavy = true then (if (0 : Int) ≤ a2.f_Coin ∧ a2.f_Coin < 14 then (some (i64w (a1.get a2.f_Coin 0))) else none) else (if (0 : Int) ≤ a2.f_Coin ∧ a2.f_Coin < 14 then (some (i64w (0 - (i64w (a1.get a2.f_Coin 0))))) else none))

def spec_l03Split.j2 (N : Nat) (x54 : Int) (x75 : (List S_impl_Case)) (x78 : (List S_impl_Case)) (x81 : (List S_impl_Case)) : Option (Bd (Ar (List S_impl_Case) 3) ((List S_impl_Case) × (List S_impl_Case) × (List S_impl_Case)) ((List S_impl_Case) × (List S_impl_Case) × (List S_impl_Case) × Int)) := some (.next (x75, x78, x81, i64w (x54 + 1)))
def spec_l03Split.b0 (N : Nat) (a2 : (List S_impl_Case)) (a1 : (Ar Int 14)) (x47 : (List S_impl_Case)) (x50 : (List S_impl_Case)) (x53 : (List S_impl_Case)) (x54 : Int) : Option (Bd (Ar (List S_impl_Case) 3) ((List S_impl_Case) × (List S_impl_Case) × (List S_impl_Case)) ((List S_impl_Case) × (List S_impl_Case) × (List S_impl_Case) × Int)) := if x54 < (a2.length : Int) then (if (0 : Int) ≤ x54 ∧ x54 < (a2.length : Int) then ((spec_l03Result.f N a1 (rdL a2 x54 z_S_impl_Case)).bind fun r55 => (if i64w (r55 + 1) = 0 then (if (0 : Int) ≤ x54 ∧ x54 < (a2.length : Int) then (if x47.length + ([rdL a2 x54 z_S_impl_Case]).length ≤ 70368744177664 then (spec_l03Split.j2 N x54 (x47 ++ ([rdL a2 x54 z_S_impl_Case])) x50 x53) else none) else none) else (if i64w (r55 + 1) = 1 then (if (0 : Int) ≤ x54 ∧ x54 < (a2.length : Int) then (if x50.length + ([rdL a2 x54 z_S_impl_Case]).length ≤ 70368744177664 then (spec_l03Split.j2 N x54 x47 (x50 ++ ([rdL a2 x54 z_S_impl_Case])) x53) else none) else none) else (if i64w (r55 + 1) = 2 then (if (0 : Int) ≤ x54 ∧ x54 < (a2.length : Int) then (if x53.length + ([rdL a2 x54 z_S_impl_Case]).length ≤ 70368744177664 then (spec_l03Split.j2 N x54 x47 x50 (x53 ++ ([rdL a2 x54 z_S_impl_Case]))) else none) else none) else (none))))) else none) else (some (.out (.go (x47, x50, x53))))
def spec_l03Split.a0 (N : Nat) (x84 : (List S_impl_Case)) (x87 : (List S_impl_Case)) (x90 : (List S_impl_Case)) : Option (Ar (List S_impl_Case) 3) := some (⟨[x84, x87, x90], rfl⟩ : (Ar (List S_impl_Case) 3))
def spec_l03Split.f (N : Nat) (a1 : (Ar Int 14)) (a2 : (List S_impl_Case)) : Option (Ar (List S_impl_Case) 3) := (rounds (fun s => spec_l03Split.b0 N a2 a1 s.1 s.2.1 s.2.2.1 s.2.2.2) N (([] : List S_impl_Case), ([] : List S_impl_Case), ([] : List S_impl_Case), 0)).bind (Ex.fin fun s => spec_l03Split.a0 N s.1 s.2.1 s.2.2)

def spec_l00Max.f (N : Nat) (a1 : Int) (a2 : Int) : Option Int := if a1 > a2 then (some a1) else (some a2)

def spec_FairestWeighing.b0 (N : Nat) (a4 : (List (Ar Int 14))) (a1 : S_laws_Task) (x9 : Bool) (x10 : Int) : Option (Bd (Int × Int × Int) (Bool) (Bool × Int)) := if x10 < (a4.length : Int) then (if x9 = true then (if (0 : Int) ≤ x10 ∧ x10 < (a4.length : Int) then ((spec_l03Weighing.f N a1 (rdL a4 x10 (Ar.rep 14 0))).bind fun r11 => (some (.next (r11, i64w (x10 + 1))))) else none) else (some (.out (.go x9)))) else (some (.out (.go x9)))
def spec_FairestWeighing.j5 (N : Nat) (x18 : Int) (x31 : Int) (x32 : Int) : Option (Bd (Int × Int × Int) (Int × Int) (Int × Int × Int)) := some (.next (x31, x32, i64w (x18 + 1)))
def spec_FairestWeighing.b3 (N : Nat) (a4 : (List (Ar Int 14))) (a2 : (List S_impl_Case)) (x16 : Int) (x17 : Int) (x18 : Int) : Option (Bd (Int × Int × Int) (Int × Int) (Int × Int × Int)) := if x18 < (a4.length : Int) then (if (0 : Int) ≤ x18 ∧ x18 < (a4.length : Int) then ((spec_l03Split.f N (rdL a4 x18 (Ar.rep 14 0)) a2).bind fun r20 => ((spec_l00Max.f N ((r20.get 0 []).length : Int) ((r20.get 1 []).length : Int)).bind fun r29 => ((spec_l00Max.f N r29 ((r20.get 2 []).length : Int)).bind fun r30 => (if x17 < 0 then (spec_FairestWeighing.j5 N x18 x18 r30) else (if r30 < x17 then (spec_FairestWeighing.j5 N x18 x18 r30) else (spec_FairestWeighing.j5 N x18 x16 x17)))))) else none) else (some (.out (.go (x16, x17))))
def spec_FairestWeighing.a3 (N : Nat) (x33 : Int) (x34 : Int) : Option (Int × Int × Int) := some (x33, x34, 0)
def spec_FairestWeighing.j2 (N : Nat) (a4 : (List (Ar Int 14))) (a2 : (List S_impl_Case)) (x15 : Int) : Option (Int × Int × Int) := if x15 = 0 then ((rounds (fun s => spec_FairestWeighing.b3 N a4 a2 s.1 s.2.1 s.2.2) N (0, (-1), 0)).bind (Ex.fin fun s => spec_FairestWeighing.a3 N s.1 s.2)) else (some (0, 0, x15))
def spec_FairestWeighing.a0 (N : Nat) (a1 : S_laws_Task) (a2 : (List S_impl_Case)) (a4 : (List (Ar Int 14))) (x12 : Bool) : Option (Int × Int × Int) := if x12 = true then ((spec_l03Given.f N a1 a2).bind fun r13 => (if r13 = 0 then ((spec_l00In.f N (a4.length : Int) 1 60).bind fun r14 => (if r14 = true then (spec_FairestWeighing.j2 N a4 a2 r13) else (spec_FairestWeighing.j2 N a4 a2 2))) else (spec_FairestWeighing.j2 N a4 a2 r13))) else (some (0, 0, 1))
def spec_FairestWeighing.f (N : Nat) (a1 : S_laws_Task) (a2 : (List S_impl_Case)) (a4 : (List (Ar Int 14))) : Option (Int × Int × Int) := (spec_l03Ok.f N a1).bind fun r8 => ((rounds (fun s => spec_FairestWeighing.b0 N a4 a1 s.1 s.2) N (r8, 0)).bind (Ex.fin fun s => spec_FairestWeighing.a0 N a1 a2 a4 s))

def impl_within.f (N : Nat) (a1 : Int) (a2 : Int) (a3 : Int) : Option Bool := if a2 ≤ a1 then (some (decide (a1 ≤ a3))) else (some false)

def impl_isKind.f (N : Nat) (a1 : Int) : Option Bool := (impl_within.f N a1 0 2).bind fun r2 => (some r2)

def impl_ValidTask.f (N : Nat) (a1 : S_laws_Task) : Option Bool := (impl_within.f N (i64w a1.f_Coins) 1 13).bind fun r4 => (if r4 = true then ((impl_isKind.f N (i64w a1.f_Kind)).bind fun r5 => (some r5)) else (some false))

def _impl_Task_places.f (N : Nat) (a1 : S_laws_Task) : Option Int := if a1.f_Good = true then (some (i64w ((i64w a1.f_Coins) + 1))) else (some (i64w a1.f_Coins))

def impl_ValidWeighing.j2 (N : Nat) (x8 : Int) (a2 : (Ar Int 14)) (x9 : Int) (x11 : Bool) : Option (Bd Bool (Int) (Int × Int)) := some (.next (i64w (x8 + (i64w (a2.get x9 0))), i64w (x9 + 1)))
def impl_ValidWeighing.b0 (N : Nat) (a2 : (Ar Int 14)) (a1 : S_laws_Task) (x8 : Int) (x9 : Int) : Option (Bd Bool (Int) (Int × Int)) := if x9 < 14 then (if (0 : Int) ≤ x9 ∧ x9 < 14 then (if (a2.get x9 0) < (-1) then (some (.out (.ret false))) else (if (a2.get x9 0) > 1 then (some (.out (.ret false))) else (if (a2.get x9 0) = 0 then (impl_ValidWeighing.j2 N x8 a2 x9 false) else ((_impl_Task_places.f N a1).bind fun r10 => (if x9 ≥ r10 then (some (.out (.ret false))) else (impl_ValidWeighing.j2 N x8 a2 x9 true)))))) else none) else (some (.out (.go x8)))
def impl_ValidWeighing.a0 (N : Nat) (x12 : Int) : Option Bool := some (x12 == 0)
def impl_ValidWeighing.f (N : Nat) (a1 : S_laws_Task) (a2 : (Ar Int 14)) : Option Bool := (impl_ValidTask.f N a1).bind fun r7 => (if r7 = true then ((rounds (fun s => impl_ValidWeighing.b0 N a2 a1 s.1 s.2) N (0, 0)).bind (Ex.fin fun s => impl_ValidWeighing.a0 N s)) else (some false))

def impl_splitCode_1.f (N : Nat) (a1 : (Ar Int 14)) (a2 : S_laws_Task) : Option Bool := (impl_ValidWeighing.f N a2 a1).bind fun r7 => (some (!r7))

def slices_IndexFunc_impl_Weighing_impl_Weighing_at_impl_splitCode_1.b0 (N : Nat) (a1 : (List (Ar Int 14))) (a3 : S_laws_Task) (x6 : Int) : Option (Bd Int (Unit) (Int)) := if x6 < (a1.length : Int) then (if (0 : Int) ≤ x6 ∧ x6 < (a1.length : Int) then ((impl_splitCode_1.f N (rdL a1 x6 (Ar.rep 14 0)) a3).bind fun r8 => (if r8 = true then (some (.out (.ret x6))) else (some (.next (i64w (x6 + 1)))))) else none) else (some (.out (.go ())))
def slices_IndexFunc_impl_Weighing_impl_Weighing_at_impl_splitCode_1.a0 (N : Nat) : Option Int := some (-1)
def slices_IndexFunc_impl_Weighing_impl_Weighing_at_impl_splitCode_1.f (N : Nat) (a1 : (List (Ar Int 14))) (a3 : S_laws_Task) : Option Int := (rounds (fun s => slices_IndexFunc_impl_Weighing_impl_Weighing_at_impl_splitCode_1.b0 N a1 a3 s) N 0).bind (Ex.fin fun s => slices_IndexFunc_impl_Weighing_impl_Weighing_at_impl_splitCode_1.a0 N)

def slices_ContainsFunc_impl_Weighing_impl_Weighing_at_impl_splitCode_1.f (N : Nat) (a1 : (List (Ar Int 14))) (a3 : S_laws_Task) : Option Bool := (slices_IndexFunc_impl_Weighing_impl_Weighing_at_impl_splitCode_1.f N a1 a3).bind fun r6 => (some (decide (r6 ≥ 0)))

def impl_casesOf.j3 (N : Nat) (x16 : Int) (x29 : (List S_impl_Case)) : Option (Bd (List S_impl_Case) ((List S_impl_Case)) ((List S_impl_Case) × Int)) := some (.next (x29, i64w (x16 + 1)))
def impl_casesOf.j4 (N : Nat) (a2 : Int) (x16 : Int) (x22 : (List S_impl_Case)) : Option (Bd (List S_impl_Case) ((List S_impl_Case)) ((List S_impl_Case) × Int)) := if a2 = 0 then (impl_casesOf.j3 N x16 x22) else (if x22.length + ([(⟨i8w x16, false⟩ : S_impl_Case)]).length ≤ 70368744177664 then (impl_casesOf.j3 N x16 (x22 ++ ([(⟨i8w x16, false⟩ : S_impl_Case)]))) else none)
def impl_casesOf.b1 (N : Nat) (a1 : Int) (a2 : Int) (x15 : (List S_impl_Case)) (x16 : Int) : Option (Bd (List S_impl_Case) ((List S_impl_Case)) ((List S_impl_Case) × Int)) := if x16 < a1 then (if a2 = 1 then (impl_casesOf.j4 N a2 x16 x15) else (if x15.length + ([(⟨i8w x16, true⟩ : S_impl_Case)]).length ≤ 70368744177664 then (impl_casesOf.j4 N a2 x16 (x15 ++ ([(⟨i8w x16, true⟩ : S_impl_Case)]))) else none)) else (some (.out (.go x15)))
def impl_casesOf.a1 (N : Nat) (x32 : (List S_impl_Case)) : Option (List S_impl_Case) := some x32
def impl_casesOf.j0 (N : Nat) (a1 : Int) (a2 : Int) (x11 : (List S_impl_Case)) : Option (List S_impl_Case) := (rounds (fun s => impl_casesOf.b1 N a1 a2 s.1 s.2) N (x11, 0)).bind (Ex.fin fun s => impl_casesOf.a1 N s)
def impl_casesOf.f (N : Nat) (a1 : Int) (a2 : Int) (a3 : Bool) : Option (List S_impl_Case) := if a3 = true then (if ([] : List S_impl_Case).length + ([(⟨(-1), false⟩ : S_impl_Case)]).length ≤ 70368744177664 then (impl_casesOf.j0 N a1 a2 (([] : List S_impl_Case) ++ ([(⟨(-1), false⟩ : S_impl_Case)]))) else none) else (impl_casesOf.j0 N a1 a2 ([] : List S_impl_Case))

def _impl_Task_cases.f (N : Nat) (a1 : S_laws_Task) : Option (List S_impl_Case) := (impl_casesOf.f N (i64w a1.f_Coins) a1.f_Kind a1.f_None).bind fun r4 => (some r4)

def slices_Index_impl_Case_impl_Case.b0 (N : Nat) (a1 : (List S_impl_Case)) (a3 : S_impl_Case) (x6 : Int) : Option (Bd Int (Unit) (Int)) := if x6 < (a1.length : Int) then (if (0 : Int) ≤ x6 ∧ x6 < (a1.length : Int) then (if a3 = (rdL a1 x6 z_S_impl_Case) then (some (.out (.ret x6))) else (some (.next (i64w (x6 + 1))))) else none) else (some (.out (.go ())))
def slices_Index_impl_Case_impl_Case.a0 (N : Nat) : Option Int := some (-1)
def slices_Index_impl_Case_impl_Case.f (N : Nat) (a1 : (List S_impl_Case)) (a3 : S_impl_Case) : Option Int := (rounds (fun s => slices_Index_impl_Case_impl_Case.b0 N a1 a3 s) N 0).bind (Ex.fin fun s => slices_Index_impl_Case_impl_Case.a0 N)

def slices_Contains_impl_Case_impl_Case.f (N : Nat) (a1 : (List S_impl_Case)) (a3 : S_impl_Case) : Option Bool := (slices_Index_impl_Case_impl_Case.f N a1 a3).bind fun r6 => (some (decide (r6 ≥ 0)))

def impl_splitCode_2.f (N : Nat) (a1 : S_impl_Case) (a2 : (List S_impl_Case)) : Option Bool := (slices_Contains_impl_Case_impl_Case.f N a2 a1).bind fun r9 => (some (!r9))

def slices_IndexFunc_impl_Case_impl_Case_at_impl_splitCode_2.b0 (N : Nat) (a1 : (List S_impl_Case)) (a3 : (List S_impl_Case)) (x8 : Int) : Option (Bd Int (Unit) (Int)) := if x8 < (a1.length : Int) then (if (0 : Int) ≤ x8 ∧ x8 < (a1.length : Int) then ((impl_splitCode_2.f N (rdL a1 x8 z_S_impl_Case) a3).bind fun r10 => (if r10 = true then (some (.out (.ret x8))) else (some (.next (i64w (x8 + 1)))))) else none) else (some (.out (.go ())))
def slices_IndexFunc_impl_Case_impl_Case_at_impl_splitCode_2.a0 (N : Nat) : Option Int := some (-1)
def slices_IndexFunc_impl_Case_impl_Case_at_impl_splitCode_2.f (N : Nat) (a1 : (List S_impl_Case)) (a3 : (List S_impl_Case)) : Option Int := (rounds (fun s => slices_IndexFunc_impl_Case_impl_Case_at_impl_splitCode_2.b0 N a1 a3 s) N 0).bind (Ex.fin fun s => slices_IndexFunc_impl_Case_impl_Case_at_impl_splitCode_2.a0 N)

def slices_ContainsFunc_impl_Case_impl_Case_at_impl_splitCode_2.f (N : Nat) (a1 : (List S_impl_Case)) (a3 : (List S_impl_Case)) : Option Bool := (slices_IndexFunc_impl_Case_impl_Case_at_impl_splitCode_2.f N a1 a3).bind fun r8 => (some (decide (r8 ≥ 0)))

def impl_unless.f (N : Nat) (a1 : Bool) (a2 : Int) : Option Int := if a1 = true then (some 0) else (some a2)

def impl_splitCode.f (N : Nat) (a1 : S_laws_Task) (a2 : (List (Ar Int 14))) (a4 : (List S_impl_Case)) : Option Int := (impl_ValidTask.f N a1).bind fun r8 => (if r8 = true then ((slices_ContainsFunc_impl_Weighing_impl_Weighing_at_impl_splitCode_1.f N a2 a1).bind fun r9 => (if r9 = true then (some 1) else ((_impl_Task_cases.f N a1).bind fun r10 => ((slices_ContainsFunc_impl_Case_impl_Case_at_impl_splitCode_2.f N a4 r10).bind fun r15 => (if r15 = true then (some 6) else ((impl_unless.f N (decide ((a4.length : Int) ≤ 27)) 2).bind fun r16 => (some r16))))))) else (some 1))

def impl_size_impl_Weighing.f (N : Nat) (a1 : (List (Ar Int 14))) : Option Int := some (a1.length : Int)

def impl_resultOf.f (N : Nat) (a1 : (Ar Int 14)) (a2 : S_impl_Case) : Option Int := if a2.f_Coin < 0 then (some 0) else (if a2.f_Heavy = true then (if (0 : Int) ≤ a2.f_Coin ∧ a2.f_Coin < 14 then (some (i64w (a1.get a2.f_Coin 0))) else none) else (if (0 : Int) ≤ a2.f_Coin ∧ a2.f_Coin < 14 then (some (i64w (0 - (i64w (a1.get a2.f_Coin 0))))) else none))

def impl_split.j2 (N : Nat) (x57 : Int) (x81 : (List S_impl_Case)) (x84 : (List S_impl_Case)) (x87 : (List S_impl_Case)) : Option (Bd (Ar (List S_impl_Case) 3) ((List S_impl_Case) × (List S_impl_Case) × (List S_impl_Case)) ((List S_impl_Case) × (List S_impl_Case) × (List S_impl_Case) × Int)) := some (.next (x81, x84, x87, i64w (x57 + 1)))
def impl_split.b0 (N : Nat) (a2 : (List S_impl_Case)) (a1 : (Ar Int 14)) (x50 : (List S_impl_Case)) (x53 : (List S_impl_Case)) (x56 : (List S_impl_Case)) (x57 : Int) : Option (Bd (Ar (List S_impl_Case) 3) ((List S_impl_Case) × (List S_impl_Case) × (List S_impl_Case)) ((List S_impl_Case) × (List S_impl_Case) × (List S_impl_Case) × Int)) := if x57 < (a2.length : Int) then (if (0 : Int) ≤ x57 ∧ x57 < (a2.length : Int) then ((impl_resultOf.f N a1 (rdL a2 x57 z_S_impl_Case)).bind fun r61 => (if i64w (r61 + 1) = 0 then (if x50.length + ([rdL a2 x57 z_S_impl_Case]).length ≤ 70368744177664 then (impl_split.j2 N x57 (x50 ++ ([rdL a2 x57 z_S_impl_Case])) x53 x56) else none) else (if i64w (r61 + 1) = 1 then (if x53.length + ([rdL a2 x57 z_S_impl_Case]).length ≤ 70368744177664 then (impl_split.j2 N x57 x50 (x53 ++ ([rdL a2 x57 z_S_impl_Case])) x56) else none) else (if i64w (r61 + 1) = 2 then (if x56.length + ([rdL a2 x57 z_S_impl_Case]).length ≤ 70368744177664 then (impl_split.j2 N x57 x50 x53 (x56 ++ ([rdL a2 x57 z_S_impl_Case]))) else none) else (none))))) else none) else (some (.out (.go (x50, x53, x56))))
def impl_split.a0 (N : Nat) (x90 : (List S_impl_Case)) (x93 : (List S_impl_Case)) (x96 : (List S_impl_Case)) : Option (Ar (List S_impl_Case) 3) := some (⟨[x90, x93, x96], rfl⟩ : (Ar (List S_impl_Case) 3))
def impl_split.f (N : Nat) (a1 : (Ar Int 14)) (a2 : (List S_impl_Case)) : Option (Ar (List S_impl_Case) 3) := (rounds (fun s => impl_split.b0 N a2 a1 s.1 s.2.1 s.2.2.1 s.2.2.2) N ([], [], [], 0)).bind (Ex.fin fun s => impl_split.a0 N s.1 s.2.1 s.2.2)

def impl_size_impl_Case.f (N : Nat) (a1 : (List S_impl_Case)) : Option Int := some (a1.length : Int)

def impl_FairestWeighing.j3 (N : Nat) (x15 : Int) (x31 : Int) (x32 : Int) : Option (Bd (Int × Int × Int) (Int × Int) (Int × Int × Int)) := some (.next (x31, x32, i64w (x15 + 1)))
def impl_FairestWeighing.b1 (N : Nat) (a4 : (List (Ar Int 14))) (a2 : (List S_impl_Case)) (x13 : Int) (x14 : Int) (x15 : Int) : Option (Bd (Int × Int × Int) (Int × Int) (Int × Int × Int)) := if x15 < (a4.length : Int) then (if (0 : Int) ≤ x15 ∧ x15 < (a4.length : Int) then ((impl_split.f N (rdL a4 x15 (Ar.rep 14 0)) a2).bind fun r19 => ((impl_size_impl_Case.f N (r19.get 0 [])).bind fun r28 => ((impl_size_impl_Case.f N (r19.get 1 [])).bind fun r29 => ((impl_size_impl_Case.f N (r19.get 2 [])).bind fun r30 => (if x14 < 0 then (impl_FairestWeighing.j3 N x15 x15 (mxI (mxI r28 r29) r30)) else (if (mxI (mxI r28 r29) r30) < x14 then (impl_FairestWeighing.j3 N x15 x15 (mxI (mxI r28 r29) r30)) else (impl_FairestWeighing.j3 N x15 x13 x14))))))) else none) else (some (.out (.go (x13, x14))))
def impl_FairestWeighing.a1 (N : Nat) (x33 : Int) (x34 : Int) : Option (Int × Int × Int) := some (x33, x34, 0)
def impl_FairestWeighing.j0 (N : Nat) (a4 : (List (Ar Int 14))) (a2 : (List S_impl_Case)) (x12 : Int) : Option (Int × Int × Int) := if x12 = 0 then ((rounds (fun s => impl_FairestWeighing.b1 N a4 a2 s.1 s.2.1 s.2.2) N (0, (-1), 0)).bind (Ex.fin fun s => impl_FairestWeighing.a1 N s.1 s.2)) else (some (0, 0, x12))
def impl_FairestWeighing.f (N : Nat) (a1 : S_laws_Task) (a2 : (List S_impl_Case)) (a4 : (List (Ar Int 14))) : Option (Int × Int × Int) := (impl_splitCode.f N a1 a4 a2).bind fun r8 => (if r8 = 0 then ((impl_size_impl_Weighing.f N a4).bind fun r9 => ((impl_within.f N r9 1 60).bind fun r10 => ((impl_unless.f N r10 2).bind fun r11 => (impl_FairestWeighing.j0 N a4 a2 r11)))) else (impl_FairestWeighing.j0 N a4 a2 r8))

def laws_eqCase.f (N : Nat) (a1 : S_impl_Case) (a2 : S_impl_Case) : Option Bool := if a1.f_Coin = a2.f_Coin then (if a1.f_Heavy = a2.f_Heavy then (some true) else (some false)) else (some false)

def laws_eqCaseS.b0 (N : Nat) (a1 : (List S_impl_Case)) (a3 : (List S_impl_Case)) (x5 : Int) : Option (Bd Bool (Unit) (Int)) := if x5 < (a1.length : Int) then (if (0 : Int) ≤ x5 ∧ x5 < (a1.length : Int) then (if (0 : Int) ≤ x5 ∧ x5 < (a3.length : Int) then ((laws_eqCase.f N (rdL a1 x5 z_S_impl_Case) (rdL a3 x5 z_S_impl_Case)).bind fun r6 => (if r6 = true then (some (.next (i64w (x5 + 1)))) else (some (.out (.ret false))))) else none) else none) else (some (.out (.go ())))
def laws_eqCaseS.a0 (N : Nat) : Option Bool := some true
def laws_eqCaseS.f (N : Nat) (a1 : (List S_impl_Case)) (a3 : (List S_impl_Case)) : Option Bool := if (a1.length : Int) = (a3.length : Int) then ((rounds (fun s => laws_eqCaseS.b0 N a1 a3 s) N 0).bind (Ex.fin fun s => laws_eqCaseS.a0 N)) else (some false)

def laws_eqWeighing.b0 (N : Nat) (a1 : (Ar Int 14)) (a2 : (Ar Int 14)) (x7 : Int) : Option (Bd Bool (Unit) (Int)) := if x7 < 14 then (if (0 : Int) ≤ x7 ∧ x7 < 14 then (if (0 : Int) ≤ x7 ∧ x7 < 14 then (if (a1.get x7 0) = (a2.get x7 0) then (some (.next (i64w (x7 + 1)))) else (some (.out (.ret false)))) else none) else none) else (some (.out (.go ())))
def laws_eqWeighing.a0 (N : Nat) : Option Bool := some true
def laws_eqWeighing.f (N : Nat) (a1 : (Ar Int 14)) (a2 : (Ar Int 14)) : Option Bool := (rounds (fun s => laws_eqWeighing.b0 N a1 a2 s) N 0).bind (Ex.fin fun s => laws_eqWeighing.a0 N)

def laws_eqWeighingS.b0 (N : Nat) (a1 : (List (Ar Int 14))) (a3 : (List (Ar Int 14))) (x5 : Int) : Option (Bd Bool (Unit) (Int)) := if x5 < (a1.length : Int) then (if (0 : Int) ≤ x5 ∧ x5 < (a1.length : Int) then (if (0 : Int) ≤ x5 ∧ x5 < (a3.length : Int) then ((laws_eqWeighing.f N (rdL a1 x5 (Ar.rep 14 0)) (rdL a3 x5 (Ar.rep 14 0))).bind fun r6 => (if r6 = true then (some (.next (i64w (x5 + 1)))) else (some (.out (.ret false))))) else none) else none) else (some (.out (.go ())))
def laws_eqWeighingS.a0 (N : Nat) : Option Bool := some true
def laws_eqWeighingS.f (N : Nat) (a1 : (List (Ar Int 14))) (a3 : (List (Ar Int 14))) : Option Bool := if (a1.length : Int) = (a3.length : Int) then ((rounds (fun s => laws_eqWeighingS.b0 N a1 a3 s) N 0).bind (Ex.fin fun s => laws_eqWeighingS.a0 N)) else (some false)

def laws_FnExactFairestWeighing.f (N : Nat) (a1 : S_laws_Task) (a2 : (List S_impl_Case)) (a4 : (List (Ar Int 14))) : Option Bool := (laws_szCaseS.f N a2 1048576).bind fun r8 => (if r8 < 0 then (some true) else ((laws_szWeighingS.f N a4 r8).bind fun r9 => (if r9 < 0 then (some true) else ((laws_toTask.f N a1).bind fun r10 => ((laws_toCaseS.f N a2).bind fun r11 => ((laws_toWeighingS.f N a4).bind fun r14 => ((spec_FairestWeighing.f N r10 r11 r14).bind fun r17 => ((laws_toCaseS.f N a2).bind fun r18 => ((laws_toWeighingS.f N a4).bind fun r21 => ((laws_toTask.f N a1).bind fun r24 => ((impl_FairestWeighing.f N r24 r18 r21).bind fun r25 => (if r25.1 = r17.1 then (if r25.2.1 = r17.2.1 then (if r25.2.2 = r17.2.2 then ((laws_toCaseS.f N a2).bind fun r26 => ((laws_eqCaseS.f N r18 r26).bind fun r29 => (if r29 = true then ((laws_toWeighingS.f N a4).bind fun r30 => ((laws_eqWeighingS.f N r21 r30).bind fun r33 => (if r33 = true then (some true) else (some false)))) else (some false)))) else (some false)) else (some false)) else (some false)))))))))))))

end Go.Proofs.YtcocgeodfbiehaaX
