/- The plain functions, printed by gen.py. -/
import Derived.Test.YtcocgeodfbiehaaXPure
namespace Go.Proofs.YtcocgeodfbiehaaX
open Go
set_option linter.unusedVariables false
structure S_impl_Ask where
  f_Set : Int
  f_Yes : Bool
  deriving DecidableEq
def z_S_impl_Ask : S_impl_Ask := ⟨0, false⟩
instance : Inhabited S_impl_Ask := ⟨z_S_impl_Ask⟩
structure S_laws_Game where
  f_Numbers : Int
  f_Lies : Int
  f_Asked : (List S_impl_Ask)
  deriving DecidableEq
def z_S_laws_Game : S_laws_Game := ⟨0, 0, []⟩
instance : Inhabited S_laws_Game := ⟨z_S_laws_Game⟩
structure S_impl_Game where
  f_Numbers : Int
  f_Lies : Int
  f_Asked : (List S_impl_Ask)
  deriving DecidableEq
def z_S_impl_Game : S_impl_Game := ⟨0, 0, []⟩
instance : Inhabited S_impl_Game := ⟨z_S_impl_Game⟩

def laws_szAskS.f (N : Nat) (a1 : (List S_impl_Ask)) (a3 : Int) : Option Int := if (i64w (a3 - (a1.length : Int))) < 0 then (some (-1)) else (some (i64w (a3 - (a1.length : Int))))

def laws_szGame.f (N : Nat) (a1 : S_laws_Game) (a4 : Int) : Option Int := (laws_szAskS.f N a1.f_Asked a4).bind fun r7 => (if r7 < 0 then (some (-1)) else (some r7))

def laws_toAsk.f (N : Nat) (a1 : S_impl_Ask) : Option S_impl_Ask := some (⟨(⟨a1.f_Set, z_S_impl_Ask.f_Yes⟩ : S_impl_Ask).f_Set, a1.f_Yes⟩ : S_impl_Ask)

def laws_toAskS.b0 (N : Nat) (a1 : (List S_impl_Ask)) (x9 : (List S_impl_Ask)) (x10 : Int) : Option (Bd (List S_impl_Ask) ((List S_impl_Ask)) ((List S_impl_Ask) × Int)) := if x10 < (a1.length : Int) then (if (0 : Int) ≤ x10 ∧ x10 < (a1.length : Int) then ((laws_toAsk.f N (rdL a1 x10 z_S_impl_Ask)).bind fun r12 => (if (0 : Int) ≤ x10 ∧ x10 < (x9.length : Int) then (some (.next (stL x9 x10 r12, i64w (x10 + 1)))) else none)) else none) else (some (.out (.go x9)))
def laws_toAskS.a0 (N : Nat) (x14 : (List S_impl_Ask)) : Option (List S_impl_Ask) := some x14
def laws_toAskS.f (N : Nat) (a1 : (List S_impl_Ask)) : Option (List S_impl_Ask) := if (0 : Int) ≤ (a1.length : Int) ∧ (a1.length : Int) ≤ 17592186044416 then ((rounds (fun s => laws_toAskS.b0 N a1 s.1 s.2) N (List.replicate ((a1.length : Int)).toNat z_S_impl_Ask, 0)).bind (Ex.fin fun s => laws_toAskS.a0 N s)) else none

def laws_toGame.f (N : Nat) (a1 : S_laws_Game) : Option S_impl_Game := (laws_toAskS.f N a1.f_Asked).bind fun r10 => (some (⟨a1.f_Numbers, a1.f_Lies, r10⟩ : S_impl_Game))

def spec_l00In.f (N : Nat) (a1 : Int) (a2 : Int) (a3 : Int) : Option Bool := if a1 ≥ a2 then (some (decide (a1 ≤ a3))) else (some false)

def spec_l06Begin.f (N : Nat) (a1 : Int) (a2 : Int) : Option Bool := (spec_l00In.f N a1 1 60).bind fun r3 => (if r3 = true then ((spec_l00In.f N a2 0 3).bind fun r4 => (some r4)) else (some false))

def spec_l06Full.f (N : Nat) (a1 : Int) : Option Int := if (0 : Int) ≤ (u64w (i64w (64 - a1))) then (some (shrI .u64 18446744073709551615 (u64w (i64w (64 - a1))))) else none

def spec_l06Ok.b0 (N : Nat) (a1 : S_impl_Game) (x7 : Int) : Option (Bd Bool (Unit) (Int)) := if x7 < (a1.f_Asked.length : Int) then (if (0 : Int) ≤ x7 ∧ x7 < (a1.f_Asked.length : Int) then ((spec_l06Full.f N (i64w a1.f_Numbers)).bind fun r8 => (if (bAndNot .u64 ((rdL a1.f_Asked x7 z_S_impl_Ask).f_Set) r8) = 0 then (some (.next (i64w (x7 + 1)))) else (some (.out (.ret false))))) else none) else (some (.out (.go ())))
def spec_l06Ok.a0 (N : Nat) : Option Bool := some true
def spec_l06Ok.f (N : Nat) (a1 : S_impl_Game) : Option Bool := (spec_l06Begin.f N (i64w a1.f_Numbers) (i64w a1.f_Lies)).bind fun r6 => (if r6 = true then (if (a1.f_Asked.length : Int) > 60 then (some false) else ((rounds (fun s => spec_l06Ok.b0 N a1 s) N 0).bind (Ex.fin fun s => spec_l06Ok.a0 N))) else (some false))

def spec_l06Wrong.f (N : Nat) (a1 : S_impl_Ask) (a2 : Int) : Option Bool := if (0 : Int) ≤ (u64w a2) then (some (((bAnd .u64 (shrI .u64 a1.f_Set (u64w a2)) 1) == 1) != a1.f_Yes)) else none

def spec_l06Lies.j2 (N : Nat) (x8 : Int) (x11 : Int) : Option (Bd Int (Int) (Int × Int)) := some (.next (x11, i64w (x8 + 1)))
def spec_l06Lies.b0 (N : Nat) (a1 : S_impl_Game) (a6 : Int) (x7 : Int) (x8 : Int) : Option (Bd Int (Int) (Int × Int)) := if x8 < (a1.f_Asked.length : Int) then (if (0 : Int) ≤ x8 ∧ x8 < (a1.f_Asked.length : Int) then ((spec_l06Wrong.f N (rdL a1.f_Asked x8 z_S_impl_Ask) a6).bind fun r10 => (if r10 = true then (spec_l06Lies.j2 N x8 (i64w (x7 + 1))) else (spec_l06Lies.j2 N x8 x7))) else none) else (some (.out (.go x7)))
def spec_l06Lies.a0 (N : Nat) (x12 : Int) : Option Int := some x12
def spec_l06Lies.f (N : Nat) (a1 : S_impl_Game) (a6 : Int) : Option Int := (rounds (fun s => spec_l06Lies.b0 N a1 a6 s.1 s.2) N (0, 0)).bind (Ex.fin fun s => spec_l06Lies.a0 N s)

def spec_l06State.j2 (N : Nat) (x14 : Int) (x16 : (Ar Int 4)) : Option (Bd (Ar Int 4) ((Ar Int 4)) ((Ar Int 4) × Int)) := some (.next (x16, i64w (x14 + 1)))
def spec_l06State.b0 (N : Nat) (a1 : S_impl_Game) (x13 : (Ar Int 4)) (x14 : Int) : Option (Bd (Ar Int 4) ((Ar Int 4)) ((Ar Int 4) × Int)) := if x14 < (i64w a1.f_Numbers) then ((spec_l06Lies.f N (⟨a1.f_Numbers, a1.f_Lies, a1.f_Asked⟩ : S_impl_Game) x14).bind fun r15 => (if r15 ≤ (i64w a1.f_Lies) then (if (0 : Int) ≤ r15 ∧ r15 < 4 then (if (0 : Int) ≤ r15 ∧ r15 < 4 then (spec_l06State.j2 N x14 (x13.set r15 (i64w ((x13.get r15 0) + 1)))) else none) else none) else (spec_l06State.j2 N x14 x13))) else (some (.out (.go x13)))
def spec_l06State.a0 (N : Nat) (x17 : (Ar Int 4)) : Option (Ar Int 4) := some x17
def spec_l06State.f (N : Nat) (a1 : S_impl_Game) : Option (Ar Int 4) := (rounds (fun s => spec_l06State.b0 N a1 s.1 s.2) N ((Ar.rep 4 0), 0)).bind (Ex.fin fun s => spec_l06State.a0 N s)

def spec_l06Half.j2 (N : Nat) (x14 : Int) (x15 : (Ar Int 4)) (x16 : Int) : Option (Bd (Ar Int 4) ((Ar Int 4)) ((Ar Int 4) × Int × Int)) := some (.next (x15, x16, i64w (x14 + 1)))
def spec_l06Half.b0 (N : Nat) (a1 : (Ar Int 4)) (x12 : (Ar Int 4)) (x13 : Int) (x14 : Int) : Option (Bd (Ar Int 4) ((Ar Int 4)) ((Ar Int 4) × Int × Int)) := if x14 < 4 then (if (0 : Int) ≤ x14 ∧ x14 < 4 then (if (0 : Int) ≤ x14 ∧ x14 < 4 then (if (0 : Int) ≤ x14 ∧ x14 < 4 then (if ((a1.get x14 0).tmod 2) = 1 then (if (0 : Int) ≤ x14 ∧ x14 < 4 then (if (0 : Int) ≤ x14 ∧ x14 < 4 then (spec_l06Half.j2 N x14 ((x12.set x14 (i64w ((a1.get x14 0).tdiv 2))).set x14 (i64w (((x12.set x14 (i64w ((a1.get x14 0).tdiv 2))).get x14 0) + x13))) (i64w (1 - x13))) else none) else none) else (spec_l06Half.j2 N x14 (x12.set x14 (i64w ((a1.get x14 0).tdiv 2))) x13)) else none) else none) else none) else (some (.out (.go x12)))
def spec_l06Half.a0 (N : Nat) (x17 : (Ar Int 4)) : Option (Ar Int 4) := some x17
def spec_l06Half.f (N : Nat) (a1 : (Ar Int 4)) : Option (Ar Int 4) := (rounds (fun s => spec_l06Half.b0 N a1 s.1 s.2.1 s.2.2) N ((Ar.rep 4 0), 1, 0)).bind (Ex.fin fun s => spec_l06Half.a0 N s)

def spec_l06Set.j2 (N : Nat) (x16 : Int) (x18 : (Ar Int 4)) (x19 : Int) : Option (Bd Int (Int) ((Ar Int 4) × Int × Int)) := some (.next (x18, x19, i64w (x16 + 1)))
def spec_l06Set.b0 (N : Nat) (a1 : S_impl_Game) (x14 : (Ar Int 4)) (x15 : Int) (x16 : Int) : Option (Bd Int (Int) ((Ar Int 4) × Int × Int)) := if x16 < (i64w a1.f_Numbers) then ((spec_l06Lies.f N (⟨a1.f_Numbers, a1.f_Lies, a1.f_Asked⟩ : S_impl_Game) x16).bind fun r17 => (if r17 ≤ (i64w a1.f_Lies) then (if (0 : Int) ≤ r17 ∧ r17 < 4 then (if (x14.get r17 0) > 0 then (if (0 : Int) ≤ r17 ∧ r17 < 4 then (if (0 : Int) ≤ r17 ∧ r17 < 4 then (if (0 : Int) ≤ (u64w x16) then (spec_l06Set.j2 N x16 (x14.set r17 (i64w ((x14.get r17 0) - 1))) (bOr .u64 x15 (shlI .u64 1 (u64w x16)))) else none) else none) else none) else (spec_l06Set.j2 N x16 x14 x15)) else none) else (spec_l06Set.j2 N x16 x14 x15))) else (some (.out (.go x15)))
def spec_l06Set.a0 (N : Nat) (x20 : Int) : Option Int := some x20
def spec_l06Set.f (N : Nat) (a1 : S_impl_Game) (a6 : (Ar Int 4)) : Option Int := (rounds (fun s => spec_l06Set.b0 N a1 s.1 s.2.1 s.2.2) N (a6, 0, 0)).bind (Ex.fin fun s => spec_l06Set.a0 N s)

def spec_NextSet.f (N : Nat) (a1 : S_impl_Game) : Option (Int × Int) := (spec_l06Ok.f N (⟨a1.f_Numbers, a1.f_Lies, a1.f_Asked⟩ : S_impl_Game)).bind fun r6 => (if r6 = true then ((spec_l06State.f N (⟨a1.f_Numbers, a1.f_Lies, a1.f_Asked⟩ : S_impl_Game)).bind fun r7 => ((spec_l06Half.f N r7).bind fun r8 => ((spec_l06Set.f N (⟨a1.f_Numbers, a1.f_Lies, a1.f_Asked⟩ : S_impl_Game) r8).bind fun r9 => (some (r9, 0))))) else (some (0, 1)))

def impl_within.f (N : Nat) (a1 : Int) (a2 : Int) (a3 : Int) : Option Bool := if a2 ≤ a1 then (some (decide (a1 ≤ a3))) else (some false)

def impl_isGame.f (N : Nat) (a1 : Int) (a2 : Int) : Option Bool := (impl_within.f N a1 1 60).bind fun r3 => (if r3 = true then ((impl_within.f N a2 0 3).bind fun r4 => (some r4)) else (some false))

def _impl_Game_all.f (N : Nat) (a1 : S_impl_Game) : Option Int := if (0 : Int) ≤ a1.f_Numbers then (some (u64w ((shlI .u64 1 a1.f_Numbers) - 1))) else none

def impl_ValidGame_1.f (N : Nat) (a1 : S_impl_Ask) (a2 : S_impl_Game) : Option Bool := (_impl_Game_all.f N (⟨a2.f_Numbers, a2.f_Lies, a2.f_Asked⟩ : S_impl_Game)).bind fun r9 => (some ((bAndNot .u64 a1.f_Set r9) != 0))

def slices_IndexFunc_impl_Ask_impl_Ask_at_impl_ValidGame_1.b0 (N : Nat) (a1 : (List S_impl_Ask)) (a3 : S_impl_Game) (x8 : Int) : Option (Bd Int (Unit) (Int)) := if x8 < (a1.length : Int) then (if (0 : Int) ≤ x8 ∧ x8 < (a1.length : Int) then ((impl_ValidGame_1.f N (rdL a1 x8 z_S_impl_Ask) (⟨a3.f_Numbers, a3.f_Lies, a3.f_Asked⟩ : S_impl_Game)).bind fun r10 => (if r10 = true then (some (.out (.ret x8))) else (some (.next (i64w (x8 + 1)))))) else none) else (some (.out (.go ())))
def slices_IndexFunc_impl_Ask_impl_Ask_at_impl_ValidGame_1.a0 (N : Nat) : Option Int := some (-1)
def slices_IndexFunc_impl_Ask_impl_Ask_at_impl_ValidGame_1.f (N : Nat) (a1 : (List S_impl_Ask)) (a3 : S_impl_Game) : Option Int := (rounds (fun s => slices_IndexFunc_impl_Ask_impl_Ask_at_impl_ValidGame_1.b0 N a1 a3 s) N 0).bind (Ex.fin fun s => slices_IndexFunc_impl_Ask_impl_Ask_at_impl_ValidGame_1.a0 N)

def slices_ContainsFunc_impl_Ask_impl_Ask_at_impl_ValidGame_1.f (N : Nat) (a1 : (List S_impl_Ask)) (a3 : S_impl_Game) : Option Bool := (slices_IndexFunc_impl_Ask_impl_Ask_at_impl_ValidGame_1.f N a1 (⟨a3.f_Numbers, a3.f_Lies, a3.f_Asked⟩ : S_impl_Game)).bind fun r8 => (some (decide (r8 ≥ 0)))

def impl_ValidGame.f (N : Nat) (a1 : S_impl_Game) : Option Bool := (impl_isGame.f N (i64w a1.f_Numbers) (i64w a1.f_Lies)).bind fun r6 => (if r6 = true then (if (a1.f_Asked.length : Int) ≤ 60 then ((slices_ContainsFunc_impl_Ask_impl_Ask_at_impl_ValidGame_1.f N a1.f_Asked (⟨a1.f_Numbers, a1.f_Lies, a1.f_Asked⟩ : S_impl_Game)).bind fun r7 => (some (!r7))) else (some false)) else (some false))

def impl_AnswerTo.f (N : Nat) (a1 : Int) (a2 : Int) (a3 : Bool) : Option Bool := (impl_within.f N a2 0 63).bind fun r4 => (if r4 = true then (if (0 : Int) ≤ (mxI a2 0) then (some (((bAnd .u64 (shrI .u64 a1 (mxI a2 0)) 1) == 1) != a3)) else none) else (some (false != a3)))

def _impl_Game_wrongFor.j2 (N : Nat) (x12 : Int) (x22 : (List Int)) : Option (Bd (List Int) ((List Int)) ((List Int) × Int)) := some (.next (x22, i64w (x12 + 1)))
def _impl_Game_wrongFor.b0 (N : Nat) (a1 : S_impl_Game) (a4 : Int) (x11 : (List Int)) (x12 : Int) : Option (Bd (List Int) ((List Int)) ((List Int) × Int)) := if x12 < (a1.f_Asked.length : Int) then (if (0 : Int) ≤ x12 ∧ x12 < (a1.f_Asked.length : Int) then ((impl_AnswerTo.f N ((rdL a1.f_Asked x12 z_S_impl_Ask).f_Set) a4 false).bind fun r16 => (if r16 = ((rdL a1.f_Asked x12 z_S_impl_Ask).f_Yes) then (_impl_Game_wrongFor.j2 N x12 x11) else (if x11.length + ([x12]).length ≤ 17592186044416 then (_impl_Game_wrongFor.j2 N x12 (x11 ++ ([x12]))) else none))) else none) else (some (.out (.go x11)))
def _impl_Game_wrongFor.a0 (N : Nat) (x25 : (List Int)) : Option (List Int) := some x25
def _impl_Game_wrongFor.f (N : Nat) (a1 : S_impl_Game) (a4 : Int) : Option (List Int) := (rounds (fun s => _impl_Game_wrongFor.b0 N a1 a4 s.1 s.2) N (([] : List Int), 0)).bind (Ex.fin fun s => _impl_Game_wrongFor.a0 N s)

def _impl_Game_sorts.j2 (N : Nat) (x58 : Int) (x79 : (List Int)) (x82 : (List Int)) (x85 : (List Int)) (x88 : (List Int)) : Option (Bd (Ar (List Int) 4) ((List Int) × (List Int) × (List Int) × (List Int)) ((List Int) × (List Int) × (List Int) × (List Int) × Int)) := some (.next (x79, x82, x85, x88, i64w (x58 + 1)))
def _impl_Game_sorts.b0 (N : Nat) (a1 : S_impl_Game) (x48 : (List Int)) (x51 : (List Int)) (x54 : (List Int)) (x57 : (List Int)) (x58 : Int) : Option (Bd (Ar (List Int) 4) ((List Int) × (List Int) × (List Int) × (List Int)) ((List Int) × (List Int) × (List Int) × (List Int) × Int)) := if x58 < (i64w a1.f_Numbers) then ((_impl_Game_wrongFor.f N (⟨a1.f_Numbers, a1.f_Lies, a1.f_Asked⟩ : S_impl_Game) x58).bind fun r59 => (if (r59.length : Int) ≤ (i64w a1.f_Lies) then (if (r59.length : Int) = 0 then (if x48.length + ([x58]).length ≤ 17592186044416 then (_impl_Game_sorts.j2 N x58 (x48 ++ ([x58])) x51 x54 x57) else none) else (if (r59.length : Int) = 1 then (if x51.length + ([x58]).length ≤ 17592186044416 then (_impl_Game_sorts.j2 N x58 x48 (x51 ++ ([x58])) x54 x57) else none) else (if (r59.length : Int) = 2 then (if x54.length + ([x58]).length ≤ 17592186044416 then (_impl_Game_sorts.j2 N x58 x48 x51 (x54 ++ ([x58])) x57) else none) else (if (r59.length : Int) = 3 then (if x57.length + ([x58]).length ≤ 17592186044416 then (_impl_Game_sorts.j2 N x58 x48 x51 x54 (x57 ++ ([x58]))) else none) else (none))))) else (_impl_Game_sorts.j2 N x58 x48 x51 x54 x57))) else (some (.out (.go (x48, x51, x54, x57))))
def _impl_Game_sorts.a0 (N : Nat) (x91 : (List Int)) (x94 : (List Int)) (x97 : (List Int)) (x100 : (List Int)) : Option (Ar (List Int) 4) := some (⟨[x91, x94, x97, x100], rfl⟩ : (Ar (List Int) 4))
def _impl_Game_sorts.f (N : Nat) (a1 : S_impl_Game) : Option (Ar (List Int) 4) := (rounds (fun s => _impl_Game_sorts.b0 N a1 s.1 s.2.1 s.2.2.1 s.2.2.2.1 s.2.2.2.2) N ([], [], [], [], 0)).bind (Ex.fin fun s => _impl_Game_sorts.a0 N s.1 s.2.1 s.2.2.1 s.2.2.2)

def impl_size_int64.f (N : Nat) (a1 : (List Int)) : Option Int := some (a1.length : Int)

def _impl_Game_state.j2 (N : Nat) (x30 : Int) (x35 : (Ar Int 4)) : Option (Bd (Ar Int 4) ((Ar Int 4)) ((Ar Int 4) × Int)) := some (.next (x35, i64w (x30 + 1)))
def _impl_Game_state.b0 (N : Nat) (r10 : (Ar (List Int) 4)) (x29 : (Ar Int 4)) (x30 : Int) : Option (Bd (Ar Int 4) ((Ar Int 4)) ((Ar Int 4) × Int)) := if x30 < 4 then (if x30 = 0 then ((impl_size_int64.f N (r10.get 0 [])).bind fun r31 => (if (0 : Int) ≤ x30 ∧ x30 < 4 then (_impl_Game_state.j2 N x30 (x29.set x30 r31)) else none)) else (if x30 = 1 then ((impl_size_int64.f N (r10.get 1 [])).bind fun r32 => (if (0 : Int) ≤ x30 ∧ x30 < 4 then (_impl_Game_state.j2 N x30 (x29.set x30 r32)) else none)) else (if x30 = 2 then ((impl_size_int64.f N (r10.get 2 [])).bind fun r33 => (if (0 : Int) ≤ x30 ∧ x30 < 4 then (_impl_Game_state.j2 N x30 (x29.set x30 r33)) else none)) else (if x30 = 3 then ((impl_size_int64.f N (r10.get 3 [])).bind fun r34 => (if (0 : Int) ≤ x30 ∧ x30 < 4 then (_impl_Game_state.j2 N x30 (x29.set x30 r34)) else none)) else (none))))) else (some (.out (.go x29)))
def _impl_Game_state.a0 (N : Nat) (x40 : (Ar Int 4)) : Option (Ar Int 4) := some x40
def _impl_Game_state.f (N : Nat) (a1 : S_impl_Game) : Option (Ar Int 4) := (_impl_Game_sorts.f N (⟨a1.f_Numbers, a1.f_Lies, a1.f_Asked⟩ : S_impl_Game)).bind fun r10 => ((rounds (fun s => _impl_Game_state.b0 N r10 s.1 s.2) N ((Ar.rep 4 0), 0)).bind (Ex.fin fun s => _impl_Game_state.a0 N s))

def _impl_State_half.j2 (N : Nat) (x14 : Int) (x15 : (Ar Int 4)) (x16 : Bool) : Option (Bd (Ar Int 4) ((Ar Int 4)) ((Ar Int 4) × Bool × Int)) := some (.next (x15, x16, i64w (x14 + 1)))
def _impl_State_half.b0 (N : Nat) (a1 : (Ar Int 4)) (x12 : (Ar Int 4)) (x13 : Bool) (x14 : Int) : Option (Bd (Ar Int 4) ((Ar Int 4)) ((Ar Int 4) × Bool × Int)) := if x14 < 4 then (if (0 : Int) ≤ x14 ∧ x14 < 4 then (if (0 : Int) ≤ x14 ∧ x14 < 4 then (if ((a1.get x14 0).tmod 2) = 1 then (if x13 = true then (if (0 : Int) ≤ x14 ∧ x14 < 4 then (if (0 : Int) ≤ x14 ∧ x14 < 4 then (_impl_State_half.j2 N x14 ((x12.set x14 (i64w ((a1.get x14 0).tdiv 2))).set x14 (i64w (((x12.set x14 (i64w ((a1.get x14 0).tdiv 2))).get x14 0) + 1))) (!x13)) else none) else none) else (_impl_State_half.j2 N x14 (x12.set x14 (i64w ((a1.get x14 0).tdiv 2))) (!x13))) else (_impl_State_half.j2 N x14 (x12.set x14 (i64w ((a1.get x14 0).tdiv 2))) x13)) else none) else none) else (some (.out (.go x12)))
def _impl_State_half.a0 (N : Nat) (x17 : (Ar Int 4)) : Option (Ar Int 4) := some x17
def _impl_State_half.f (N : Nat) (a1 : (Ar Int 4)) : Option (Ar Int 4) := (rounds (fun s => _impl_State_half.b0 N a1 s.1 s.2.1 s.2.2) N ((Ar.rep 4 0), true, 0)).bind (Ex.fin fun s => _impl_State_half.a0 N s)

def _impl_Game_setFor.b3 (N : Nat) (r9 : (Ar (List Int) 4)) (a4 : (Ar Int 4)) (x19 : Int) (x20 : Int) (x21 : Int) : Option (Bd Int (Int) (Int × Int)) := if x21 < ((((r9.get 0 []).drop ((0 : Int)).toNat).take (((a4.get x19 0)).toNat - ((0 : Int)).toNat)).length : Int) then (if (0 : Int) ≤ x21 ∧ x21 < ((((r9.get 0 []).drop ((0 : Int)).toNat).take (((a4.get x19 0)).toNat - ((0 : Int)).toNat)).length : Int) then (if (0 : Int) ≤ (rdL (((r9.get 0 []).drop ((0 : Int)).toNat).take (((a4.get x19 0)).toNat - ((0 : Int)).toNat)) x21 0) then (some (.next (bOr .u64 x20 (shlI .u64 1 (rdL (((r9.get 0 []).drop ((0 : Int)).toNat).take (((a4.get x19 0)).toNat - ((0 : Int)).toNat)) x21 0)), i64w (x21 + 1)))) else none) else none) else (some (.out (.go x20)))
def _impl_Game_setFor.j2 (N : Nat) (x19 : Int) (x52 : Int) : Option (Bd Int (Int) (Int × Int)) := some (.next (x52, i64w (x19 + 1)))
def _impl_Game_setFor.a3 (N : Nat) (x19 : Int) (x23 : Int) : Option (Bd Int (Int) (Int × Int)) := _impl_Game_setFor.j2 N x19 x23
def _impl_Game_setFor.b5 (N : Nat) (r9 : (Ar (List Int) 4)) (a4 : (Ar Int 4)) (x19 : Int) (x28 : Int) (x29 : Int) : Option (Bd Int (Int) (Int × Int)) := if x29 < ((((r9.get 1 []).drop ((0 : Int)).toNat).take (((a4.get x19 0)).toNat - ((0 : Int)).toNat)).length : Int) then (if (0 : Int) ≤ x29 ∧ x29 < ((((r9.get 1 []).drop ((0 : Int)).toNat).take (((a4.get x19 0)).toNat - ((0 : Int)).toNat)).length : Int) then (if (0 : Int) ≤ (rdL (((r9.get 1 []).drop ((0 : Int)).toNat).take (((a4.get x19 0)).toNat - ((0 : Int)).toNat)) x29 0) then (some (.next (bOr .u64 x28 (shlI .u64 1 (rdL (((r9.get 1 []).drop ((0 : Int)).toNat).take (((a4.get x19 0)).toNat - ((0 : Int)).toNat)) x29 0)), i64w (x29 + 1)))) else none) else none) else (some (.out (.go x28)))
def _impl_Game_setFor.a5 (N : Nat) (x19 : Int) (x31 : Int) : Option (Bd Int (Int) (Int × Int)) := _impl_Game_setFor.j2 N x19 x31
def _impl_Game_setFor.b7 (N : Nat) (r9 : (Ar (List Int) 4)) (a4 : (Ar Int 4)) (x19 : Int) (x36 : Int) (x37 : Int) : Option (Bd Int (Int) (Int × Int)) := if x37 < ((((r9.get 2 []).drop ((0 : Int)).toNat).take (((a4.get x19 0)).toNat - ((0 : Int)).toNat)).length : Int) then (if (0 : Int) ≤ x37 ∧ x37 < ((((r9.get 2 []).drop ((0 : Int)).toNat).take (((a4.get x19 0)).toNat - ((0 : Int)).toNat)).length : Int) then (if (0 : Int) ≤ (rdL (((r9.get 2 []).drop ((0 : Int)).toNat).take (((a4.get x19 0)).toNat - ((0 : Int)).toNat)) x37 0) then (some (.next (bOr .u64 x36 (shlI .u64 1 (rdL (((r9.get 2 []).drop ((0 : Int)).toNat).take (((a4.get x19 0)).toNat - ((0 : Int)).toNat)) x37 0)), i64w (x37 + 1)))) else none) else none) else (some (.out (.go x36)))
def _impl_Game_setFor.a7 (N : Nat) (x19 : Int) (x39 : Int) : Option (Bd Int (Int) (Int × Int)) := _impl_Game_setFor.j2 N x19 x39
def _impl_Game_setFor.b9 (N : Nat) (r9 : (Ar (List Int) 4)) (a4 : (Ar Int 4)) (x19 : Int) (x44 : Int) (x45 : Int) : Option (Bd Int (Int) (Int × Int)) := if x45 < ((((r9.get 3 []).drop ((0 : Int)).toNat).take (((a4.get x19 0)).toNat - ((0 : Int)).toNat)).length : Int) then (if (0 : Int) ≤ x45 ∧ x45 < ((((r9.get 3 []).drop ((0 : Int)).toNat).take (((a4.get x19 0)).toNat - ((0 : Int)).toNat)).length : Int) then (if (0 : Int) ≤ (rdL (((r9.get 3 []).drop ((0 : Int)).toNat).take (((a4.get x19 0)).toNat - ((0 : Int)).toNat)) x45 0) then (some (.next (bOr .u64 x44 (shlI .u64 1 (rdL (((r9.get 3 []).drop ((0 : Int)).toNat).take (((a4.get x19 0)).toNat - ((0 : Int)).toNat)) x45 0)), i64w (x45 + 1)))) else none) else none) else (some (.out (.go x44)))
def _impl_Game_setFor.a9 (N : Nat) (x19 : Int) (x47 : Int) : Option (Bd Int (Int) (Int × Int)) := _impl_Game_setFor.j2 N x19 x47
def _impl_Game_setFor.b0 (N : Nat) (a4 : (Ar Int 4)) (r9 : (Ar (List Int) 4)) (x18 : Int) (x19 : Int) : Option (Bd Int (Int) (Int × Int)) := if x19 < 4 then (if x19 = 0 then (if (0 : Int) ≤ x19 ∧ x19 < 4 then (if (0 : Int) ≤ (0 : Int) ∧ (0 : Int) ≤ (a4.get x19 0) ∧ (a4.get x19 0) ≤ ((r9.get 0 []).length : Int) then ((rounds (fun s => _impl_Game_setFor.b3 N r9 a4 x19 s.1 s.2) N (x18, 0)).bind (Ex.finB fun s => _impl_Game_setFor.a3 N x19 s)) else none) else none) else (if x19 = 1 then (if (0 : Int) ≤ x19 ∧ x19 < 4 then (if (0 : Int) ≤ (0 : Int) ∧ (0 : Int) ≤ (a4.get x19 0) ∧ (a4.get x19 0) ≤ ((r9.get 1 []).length : Int) then ((rounds (fun s => _impl_Game_setFor.b5 N r9 a4 x19 s.1 s.2) N (x18, 0)).bind (Ex.finB fun s => _impl_Game_setFor.a5 N x19 s)) else none) else none) else (if x19 = 2 then (if (0 : Int) ≤ x19 ∧ x19 < 4 then (if (0 : Int) ≤ (0 : Int) ∧ (0 : Int) ≤ (a4.get x19 0) ∧ (a4.get x19 0) ≤ ((r9.get 2 []).length : Int) then ((rounds (fun s => _impl_Game_setFor.b7 N r9 a4 x19 s.1 s.2) N (x18, 0)).bind (Ex.finB fun s => _impl_Game_setFor.a7 N x19 s)) else none) else none) else (if x19 = 3 then (if (0 : Int) ≤ x19 ∧ x19 < 4 then (if (0 : Int) ≤ (0 : Int) ∧ (0 : Int) ≤ (a4.get x19 0) ∧ (a4.get x19 0) ≤ ((r9.get 3 []).length : Int) then ((rounds (fun s => _impl_Game_setFor.b9 N r9 a4 x19 s.1 s.2) N (x18, 0)).bind (Ex.finB fun s => _impl_Game_setFor.a9 N x19 s)) else none) else none) else (none))))) else (some (.out (.go x18)))
def _impl_Game_setFor.a0 (N : Nat) (x57 : Int) : Option Int := some x57
def _impl_Game_setFor.f (N : Nat) (a1 : S_impl_Game) (a4 : (Ar Int 4)) : Option Int := (_impl_Game_sorts.f N (⟨a1.f_Numbers, a1.f_Lies, a1.f_Asked⟩ : S_impl_Game)).bind fun r9 => ((rounds (fun s => _impl_Game_setFor.b0 N a4 r9 s.1 s.2) N (0, 0)).bind (Ex.fin fun s => _impl_Game_setFor.a0 N s))

def impl_NextSet.f (N : Nat) (a1 : S_impl_Game) : Option (Int × Int) := (impl_ValidGame.f N (⟨a1.f_Numbers, a1.f_Lies, a1.f_Asked⟩ : S_impl_Game)).bind fun r6 => (if r6 = true then ((_impl_Game_state.f N (⟨a1.f_Numbers, a1.f_Lies, a1.f_Asked⟩ : S_impl_Game)).bind fun r7 => ((_impl_State_half.f N r7).bind fun r8 => ((_impl_Game_setFor.f N (⟨a1.f_Numbers, a1.f_Lies, a1.f_Asked⟩ : S_impl_Game) r8).bind fun r9 => (some (r9, 0))))) else (some (0, 1)))

def laws_eqAsk.f (N : Nat) (a1 : S_impl_Ask) (a2 : S_impl_Ask) : Option Bool := if a1.f_Set = a2.f_Set then (if a1.f_Yes = a2.f_Yes then (some true) else (some false)) else (some false)

def laws_eqAskS.b0 (N : Nat) (a1 : (List S_impl_Ask)) (a3 : (List S_impl_Ask)) (x5 : Int) : Option (Bd Bool (Unit) (Int)) := if x5 < (a1.length : Int) then (if (0 : Int) ≤ x5 ∧ x5 < (a1.length : Int) then (if (0 : Int) ≤ x5 ∧ x5 < (a3.length : Int) then ((laws_eqAsk.f N (rdL a1 x5 z_S_impl_Ask) (rdL a3 x5 z_S_impl_Ask)).bind fun r6 => (if r6 = true then (some (.next (i64w (x5 + 1)))) else (some (.out (.ret false))))) else none) else none) else (some (.out (.go ())))
def laws_eqAskS.a0 (N : Nat) : Option Bool := some true
def laws_eqAskS.f (N : Nat) (a1 : (List S_impl_Ask)) (a3 : (List S_impl_Ask)) : Option Bool := if (a1.length : Int) = (a3.length : Int) then ((rounds (fun s => laws_eqAskS.b0 N a1 a3 s) N 0).bind (Ex.fin fun s => laws_eqAskS.a0 N)) else (some false)

def laws_eqGame.f (N : Nat) (a1 : S_impl_Game) (a4 : S_impl_Game) : Option Bool := if a1.f_Numbers = a4.f_Numbers then (if a1.f_Lies = a4.f_Lies then ((laws_eqAskS.f N a1.f_Asked a4.f_Asked).bind fun r11 => (if r11 = true then (some true) else (some false))) else (some false)) else (some false)

def laws_FnExactNextSet.f (N : Nat) (a1 : S_laws_Game) : Option Bool := (laws_szGame.f N (⟨a1.f_Numbers, a1.f_Lies, a1.f_Asked⟩ : S_laws_Game) 1048576).bind fun r6 => (if r6 < 0 then (some true) else ((laws_toGame.f N (⟨a1.f_Numbers, a1.f_Lies, a1.f_Asked⟩ : S_laws_Game)).bind fun r7 => ((spec_NextSet.f N (⟨r7.f_Numbers, r7.f_Lies, r7.f_Asked⟩ : S_impl_Game)).bind fun r10 => ((laws_toGame.f N (⟨a1.f_Numbers, a1.f_Lies, a1.f_Asked⟩ : S_laws_Game)).bind fun r11 => ((impl_NextSet.f N (⟨r11.f_Numbers, r11.f_Lies, r11.f_Asked⟩ : S_impl_Game)).bind fun r16 => (if r16.1 = r10.1 then (if r16.2 = r10.2 then ((laws_toGame.f N (⟨a1.f_Numbers, a1.f_Lies, a1.f_Asked⟩ : S_laws_Game)).bind fun r17 => ((laws_eqGame.f N (⟨r11.f_Numbers, r11.f_Lies, r11.f_Asked⟩ : S_impl_Game) (⟨r17.f_Numbers, r17.f_Lies, r17.f_Asked⟩ : S_impl_Game)).bind fun r21 => (if r21 = true then (some true) else (some false)))) else (some false)) else (some false)))))))

def laws_toState.b0 (N : Nat) (a1 : (Ar Int 4)) (x9 : (Ar Int 4)) (x10 : Int) : Option (Bd (Ar Int 4) ((Ar Int 4)) ((Ar Int 4) × Int)) := if x10 < 4 then (if (0 : Int) ≤ x10 ∧ x10 < 4 then (if (0 : Int) ≤ x10 ∧ x10 < 4 then (some (.next (x9.set x10 (a1.get x10 0), i64w (x10 + 1)))) else none) else none) else (some (.out (.go x9)))
def laws_toState.a0 (N : Nat) (x11 : (Ar Int 4)) : Option (Ar Int 4) := some x11
def laws_toState.f (N : Nat) (a1 : (Ar Int 4)) : Option (Ar Int 4) := (rounds (fun s => laws_toState.b0 N a1 s.1 s.2) N ((Ar.rep 4 0), 0)).bind (Ex.fin fun s => laws_toState.a0 N s)

def spec_l06Within.b0 (N : Nat) (a1 : (Ar Int 4)) (a2 : (Ar Int 4)) (x7 : Int) : Option (Bd Bool (Unit) (Int)) := if x7 < 4 then (if (0 : Int) ≤ x7 ∧ x7 < 4 then (if (0 : Int) ≤ x7 ∧ x7 < 4 then ((spec_l00In.f N (a1.get x7 0) 0 (a2.get x7 0)).bind fun r8 => (if r8 = true then (some (.next (i64w (x7 + 1)))) else (some (.out (.ret false))))) else none) else none) else (some (.out (.go ())))
def spec_l06Within.a0 (N : Nat) : Option Bool := some true
def spec_l06Within.f (N : Nat) (a1 : (Ar Int 4)) (a2 : (Ar Int 4)) : Option Bool := (rounds (fun s => spec_l06Within.b0 N a1 a2 s) N 0).bind (Ex.fin fun s => spec_l06Within.a0 N)

def spec_SetFor.f (N : Nat) (a1 : S_impl_Game) (a4 : (Ar Int 4)) : Option (Int × Int) := (spec_l06Ok.f N (⟨a1.f_Numbers, a1.f_Lies, a1.f_Asked⟩ : S_impl_Game)).bind fun r9 => (if r9 = true then ((spec_l06State.f N (⟨a1.f_Numbers, a1.f_Lies, a1.f_Asked⟩ : S_impl_Game)).bind fun r10 => ((spec_l06Within.f N a4 r10).bind fun r11 => (if r11 = true then ((spec_l06Set.f N (⟨a1.f_Numbers, a1.f_Lies, a1.f_Asked⟩ : S_impl_Game) a4).bind fun r12 => (some (r12, 0))) else (some (0, 2))))) else (some (0, 1)))

def impl_isAsk.b0 (N : Nat) (a2 : (Ar Int 4)) (a1 : (Ar Int 4)) (x7 : Int) : Option (Bd Bool (Unit) (Int)) := if x7 < 4 then (if (0 : Int) ≤ x7 ∧ x7 < 4 then (if (0 : Int) ≤ x7 ∧ x7 < 4 then ((impl_within.f N (a2.get x7 0) 0 (a1.get x7 0)).bind fun r8 => (if r8 = true then (some (.next (i64w (x7 + 1)))) else (some (.out (.ret false))))) else none) else none) else (some (.out (.go ())))
def impl_isAsk.a0 (N : Nat) : Option Bool := some true
def impl_isAsk.f (N : Nat) (a1 : (Ar Int 4)) (a2 : (Ar Int 4)) : Option Bool := (rounds (fun s => impl_isAsk.b0 N a2 a1 s) N 0).bind (Ex.fin fun s => impl_isAsk.a0 N)

def impl_SetFor.f (N : Nat) (a1 : S_impl_Game) (a4 : (Ar Int 4)) : Option (Int × Int) := (impl_ValidGame.f N (⟨a1.f_Numbers, a1.f_Lies, a1.f_Asked⟩ : S_impl_Game)).bind fun r9 => (if r9 = true then ((_impl_Game_state.f N (⟨a1.f_Numbers, a1.f_Lies, a1.f_Asked⟩ : S_impl_Game)).bind fun r10 => ((impl_isAsk.f N r10 a4).bind fun r11 => (if r11 = true then ((_impl_Game_setFor.f N (⟨a1.f_Numbers, a1.f_Lies, a1.f_Asked⟩ : S_impl_Game) a4).bind fun r12 => (some (r12, 0))) else (some (0, 2))))) else (some (0, 1)))

def laws_FnExactSetFor.f (N : Nat) (a1 : S_laws_Game) (a4 : (Ar Int 4)) : Option Bool := (laws_szGame.f N (⟨a1.f_Numbers, a1.f_Lies, a1.f_Asked⟩ : S_laws_Game) 1048576).bind fun r9 => (if r9 < 0 then (some true) else ((laws_toGame.f N (⟨a1.f_Numbers, a1.f_Lies, a1.f_Asked⟩ : S_laws_Game)).bind fun r10 => ((laws_toState.f N a4).bind fun r13 => ((spec_SetFor.f N (⟨r10.f_Numbers, r10.f_Lies, r10.f_Asked⟩ : S_impl_Game) r13).bind fun r14 => ((laws_toGame.f N (⟨a1.f_Numbers, a1.f_Lies, a1.f_Asked⟩ : S_laws_Game)).bind fun r16 => ((laws_toState.f N a4).bind fun r21 => ((impl_SetFor.f N (⟨r16.f_Numbers, r16.f_Lies, r16.f_Asked⟩ : S_impl_Game) r21).bind fun r22 => (if r22.1 = r14.1 then (if r22.2 = r14.2 then ((laws_toGame.f N (⟨a1.f_Numbers, a1.f_Lies, a1.f_Asked⟩ : S_laws_Game)).bind fun r23 => ((laws_eqGame.f N (⟨r16.f_Numbers, r16.f_Lies, r16.f_Asked⟩ : S_impl_Game) (⟨r23.f_Numbers, r23.f_Lies, r23.f_Asked⟩ : S_impl_Game)).bind fun r27 => (if r27 = true then (some true) else (some false)))) else (some false)) else (some false)))))))))

end Go.Proofs.YtcocgeodfbiehaaX
