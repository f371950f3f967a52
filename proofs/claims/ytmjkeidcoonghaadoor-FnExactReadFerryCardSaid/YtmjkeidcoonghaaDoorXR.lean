/- The plain functions, printed by gen.py. -/
import Derived.Test.YtmjkeidcoonghaaDoorXPure
import Derived.Lib.ItoaNum
import Derived.Lib.ParseIntB
import Derived.Lib.SplitLaws
namespace Go.Proofs.YtmjkeidcoonghaaDoorX
open Go
set_option linter.unusedVariables false
structure S_impl_Ferry where
  f_Things : Int
  f_Boat : Int
  f_Rules : (List Int)
  deriving DecidableEq
def z_S_impl_Ferry : S_impl_Ferry := ⟨0, 0, []⟩
instance : Inhabited S_impl_Ferry := ⟨z_S_impl_Ferry⟩

def spec_l01Split.j2 (N : Nat) (x9 : Int) (x15 : (List ByteArray)) (x17 : Int) : Option (Bd (List ByteArray) ((List ByteArray) × Int) ((List ByteArray) × Int × Int)) := some (.next (x15, x17, i64w (x9 + 1)))
def spec_l01Split.b0 (N : Nat) (a1 : ByteArray) (a2 : Int) (x7 : (List ByteArray)) (x8 : Int) (x9 : Int) : Option (Bd (List ByteArray) ((List ByteArray) × Int) ((List ByteArray) × Int × Int)) := if x9 < (a1.size : Int) then (if (0 : Int) ≤ x9 ∧ x9 < (a1.size : Int) then (if (btS a1 x9) = a2 then (if (0 : Int) ≤ x8 ∧ x8 ≤ x9 ∧ x9 ≤ (a1.size : Int) then (if x7.length + ([subS a1 x8 x9]).length ≤ 8796093022208 then (spec_l01Split.j2 N x9 (x7 ++ ([subS a1 x8 x9])) (i64w (x9 + 1))) else none) else none) else (spec_l01Split.j2 N x9 x7 x8)) else none) else (some (.out (.go (x7, x8))))
def spec_l01Split.a0 (N : Nat) (a1 : ByteArray) (x19 : (List ByteArray)) (x21 : Int) : Option (List ByteArray) := if (0 : Int) ≤ x21 ∧ x21 ≤ (a1.size : Int) ∧ (a1.size : Int) ≤ (a1.size : Int) then (if x19.length + ([subS a1 x21 (a1.size : Int)]).length ≤ 8796093022208 then (some (x19 ++ ([subS a1 x21 (a1.size : Int)]))) else none) else none
def spec_l01Split.f (N : Nat) (a1 : ByteArray) (a2 : Int) : Option (List ByteArray) := (rounds (fun s => spec_l01Split.b0 N a1 a2 s.1 s.2.1 s.2.2) N (([] : List ByteArray), 0, 0)).bind (Ex.fin fun s => spec_l01Split.a0 N a1 s.1 s.2)

def spec_l01Number.b1 (N : Nat) (a1 : ByteArray) (x2 : Int) (x3 : Int) : Option (Bd (Int × Bool) (Int) (Int × Int)) := if x3 < (a1.size : Int) then (if (0 : Int) ≤ x3 ∧ x3 < (a1.size : Int) then (if (btS a1 x3) < 48 then (some (.out (.ret (0, false)))) else (if (0 : Int) ≤ x3 ∧ x3 < (a1.size : Int) then (if (btS a1 x3) > 57 then (some (.out (.ret (0, false)))) else (if (0 : Int) ≤ x3 ∧ x3 < (a1.size : Int) then (some (.next (i64w ((i64w (10 * x2)) + (i64w (u8w ((btS a1 x3) - 48)))), i64w (x3 + 1)))) else none)) else none)) else none) else (some (.out (.go x2)))
def spec_l01Number.a1 (N : Nat) (x4 : Int) : Option (Int × Bool) := some (x4, true)
def spec_l01Number.j0 (N : Nat) (a1 : ByteArray) : Option (Int × Bool) := (rounds (fun s => spec_l01Number.b1 N a1 s.1 s.2) N (0, 0)).bind (Ex.fin fun s => spec_l01Number.a1 N s)
def spec_l01Number.f (N : Nat) (a1 : ByteArray) : Option (Int × Bool) := if a1.toList = (⟨#[]⟩ : ByteArray).toList then (some (0, false)) else (if (a1.size : Int) > 10 then (some (0, false)) else (if (0 : Int) ≤ 0 ∧ 0 < (a1.size : Int) then (if (btS a1 0) = 48 then (if (a1.size : Int) > 1 then (some (0, false)) else (spec_l01Number.j0 N a1)) else (spec_l01Number.j0 N a1)) else none))

def spec_l05Text.j2 (N : Nat) (x3 : Int) (x6 : ByteArray) : Option (Bd ByteArray (ByteArray) (ByteArray × Int)) := some (.next (x6, i64w (x3 + 1)))
def spec_l05Text.b0 (N : Nat) (a1 : Int) (x2 : ByteArray) (x3 : Int) : Option (Bd ByteArray (ByteArray) (ByteArray × Int)) := if x3 < 8 then (if (0 : Int) ≤ (u64w x3) then (if ((shrI .u16 a1 (u64w x3)).tmod 2) = 1 then (if (x2.size : Int) + (bsOf ([u8w (i64w (97 + x3))])).size ≤ 9223372036854775807 then (spec_l05Text.j2 N x3 (x2 ++ (bsOf ([u8w (i64w (97 + x3))])))) else none) else (spec_l05Text.j2 N x3 x2)) else none) else (some (.out (.go x2)))
def spec_l05Text.a0 (N : Nat) (x7 : ByteArray) : Option ByteArray := some x7
def spec_l05Text.f (N : Nat) (a1 : Int) : Option ByteArray := if a1 = 0 then (some (⟨#[45]⟩ : ByteArray)) else ((rounds (fun s => spec_l05Text.b0 N a1 s.1 s.2) N ((⟨#[]⟩ : ByteArray), 0)).bind (Ex.fin fun s => spec_l05Text.a0 N s))

def spec_l05Read.b0 (N : Nat) (a1 : ByteArray) (x2 : Int) (x3 : Int) : Option (Bd (Int × Bool) (Int) (Int × Int)) := if x3 < (a1.size : Int) then (if (0 : Int) ≤ x3 ∧ x3 < (a1.size : Int) then (if (btS a1 x3) < 97 then (some (.out (.ret (0, false)))) else (if (0 : Int) ≤ x3 ∧ x3 < (a1.size : Int) then (if (btS a1 x3) ≥ 105 then (some (.out (.ret (0, false)))) else (if (0 : Int) ≤ x3 ∧ x3 < (a1.size : Int) then (if (0 : Int) ≤ (u64w (u8w ((btS a1 x3) - 97))) then (some (.next (bOr .u16 x2 (shlI .u16 1 (u64w (u8w ((btS a1 x3) - 97)))), i64w (x3 + 1)))) else none) else none)) else none)) else none) else (some (.out (.go x2)))
def spec_l05Read.a0 (N : Nat) (a1 : ByteArray) (x4 : Int) : Option (Int × Bool) := if a1.toList = (⟨#[]⟩ : ByteArray).toList then (some (x4, false)) else ((spec_l05Text.f N x4).bind fun r5 => (some (x4, r5.toList == a1.toList)))
def spec_l05Read.f (N : Nat) (a1 : ByteArray) : Option (Int × Bool) := if a1.toList = (⟨#[45]⟩ : ByteArray).toList then (some (0, true)) else ((rounds (fun s => spec_l05Read.b0 N a1 s.1 s.2) N (0, 0)).bind (Ex.fin fun s => spec_l05Read.a0 N a1 s))

def spec_l00In.f (N : Nat) (a1 : Int) (a2 : Int) (a3 : Int) : Option Bool := if a1 ≥ a2 then (some (decide (a1 ≤ a3))) else (some false)

def spec_l05All.f (N : Nat) (a1 : S_impl_Ferry) : Option Int := if (0 : Int) ≤ (u64w a1.f_Things) then (some (u16w ((shlI .u16 1 (u64w a1.f_Things)) - 1))) else none

def spec_l05Size.b0 (N : Nat) (x2 : Int) (x3 : Int) : Option (Bd Int (Int) (Int × Int)) := if x2 > 0 then (some (.next (u16w (x2.tdiv 2), i64w (x3 + (i64w (x2.tmod 2)))))) else (some (.out (.go x3)))
def spec_l05Size.a0 (N : Nat) (x4 : Int) : Option Int := some x4
def spec_l05Size.f (N : Nat) (a1 : Int) : Option Int := (rounds (fun s => spec_l05Size.b0 N s.1 s.2) N (a1, 0)).bind (Ex.fin fun s => spec_l05Size.a0 N s)

def spec_l05Ok.b0 (N : Nat) (a1 : S_impl_Ferry) (x8 : Int) : Option (Bd Bool (Unit) (Int)) := if x8 < (a1.f_Rules.length : Int) then (if (0 : Int) ≤ x8 ∧ x8 < (a1.f_Rules.length : Int) then ((spec_l05All.f N (⟨a1.f_Things, a1.f_Boat, a1.f_Rules⟩ : S_impl_Ferry)).bind fun r9 => (if (bAndNot .u16 (rdL a1.f_Rules x8 0) r9) = 0 then (if (0 : Int) ≤ x8 ∧ x8 < (a1.f_Rules.length : Int) then ((spec_l05Size.f N (rdL a1.f_Rules x8 0)).bind fun r11 => (if r11 < 2 then (some (.out (.ret false))) else (some (.next (i64w (x8 + 1)))))) else none) else (some (.out (.ret false))))) else none) else (some (.out (.go ())))
def spec_l05Ok.a0 (N : Nat) : Option Bool := some true
def spec_l05Ok.f (N : Nat) (a1 : S_impl_Ferry) : Option Bool := (spec_l00In.f N (i64w a1.f_Things) 1 8).bind fun r6 => (if r6 = true then ((spec_l00In.f N (i64w a1.f_Boat) 0 (i64w a1.f_Things)).bind fun r7 => (if r7 = true then (if (a1.f_Rules.length : Int) > 20 then (some false) else ((rounds (fun s => spec_l05Ok.b0 N a1 s) N 0).bind (Ex.fin fun s => spec_l05Ok.a0 N))) else (some false))) else (some false))

def spec_ReadFerry.b0 (N : Nat) (r4 : (List ByteArray)) (x21 : Int) (x22 : Int) (x25 : (List Int)) (x26 : Int) : Option (Bd (S_impl_Ferry × Int) (Int × Int × (List Int)) (Int × Int × (List Int) × Int)) := if x26 < (r4.length : Int) then (if (0 : Int) ≤ x26 ∧ x26 < (r4.length : Int) then ((spec_l05Read.f N (rdL r4 x26 (⟨#[]⟩ : ByteArray))).bind fun r28 => (if r28.2 = true then (if x25.length + ([r28.1]).length ≤ 70368744177664 then (some (.next (x21, x22, x25 ++ ([r28.1]), i64w (x26 + 1)))) else none) else (some (.out (.ret ((⟨0, 0, []⟩ : S_impl_Ferry), 5)))))) else none) else (some (.out (.go (x21, x22, x25))))
def spec_ReadFerry.a0 (N : Nat) (x33 : Int) (x34 : Int) (x36 : (List Int)) : Option (S_impl_Ferry × Int) := (spec_l05Ok.f N (⟨x33, x34, x36⟩ : S_impl_Ferry)).bind fun r38 => (if r38 = true then (some ((⟨x33, x34, x36⟩ : S_impl_Ferry), 0)) else (some ((⟨0, 0, []⟩ : S_impl_Ferry), 5)))
def spec_ReadFerry.f (N : Nat) (a1 : ByteArray) : Option (S_impl_Ferry × Int) := (spec_l01Split.f N a1 32).bind fun r4 => (if (r4.length : Int) < 2 then (some ((⟨0, 0, []⟩ : S_impl_Ferry), 5)) else (if (0 : Int) ≤ 0 ∧ 0 < (r4.length : Int) then ((spec_l01Number.f N (rdL r4 0 (⟨#[]⟩ : ByteArray))).bind fun r8 => (if (0 : Int) ≤ 1 ∧ 1 < (r4.length : Int) then ((spec_l01Number.f N (rdL r4 1 (⟨#[]⟩ : ByteArray))).bind fun r10 => (if r8.2 = true then (if r10.2 = true then (if r8.1 > 8 then (some ((⟨0, 0, []⟩ : S_impl_Ferry), 5)) else (if r10.1 > 8 then (some ((⟨0, 0, []⟩ : S_impl_Ferry), 5)) else ((rounds (fun s => spec_ReadFerry.b0 N r4 s.1 s.2.1 s.2.2.1 s.2.2.2) N (i8w r8.1, i8w r10.1, [], 2)).bind (Ex.fin fun s => spec_ReadFerry.a0 N s.1 s.2.1 s.2.2)))) else (some ((⟨0, 0, []⟩ : S_impl_Ferry), 5))) else (some ((⟨0, 0, []⟩ : S_impl_Ferry), 5)))) else none)) else none))

def strings_Split.f (N : Nat) (a1 a2 : ByteArray) : Option (List ByteArray) := if a1.size < 4294967281 ∧ 1 ≤ a2.size then some (Lib.splitB a2 0 (Lib.countB a1 a2) a1) else none

def parsed (l : List UInt8) : Int × Bool := match Lib.parseIntB 64 l with
  | .ok v => (v, false)
  | .range => (Lib.intSat 64 l, true)
  | _ => (0, true)
def strconv_ParseInt.f (N : Nat) (a1 : ByteArray) (a2 a3 : Int) : Option (Int × Bool) := if a1.size ≤ 281474976710656 ∧ a2 = 10 ∧ a3 = 64 then some (parsed a1.data.toList) else none

def strconv_FormatInt.f (N : Nat) (a1 : Int) (a2 : Int) : Option ByteArray := if (-9223372036854775808 ≤ a1 ∧ a1 ≤ 9223372036854775807) ∧ a2 = 10 then some ⟨(Lib.itoa a1).toArray⟩ else none

def impl_decimal.f (N : Nat) (a1 : Int) : Option ByteArray := (strconv_FormatInt.f N a1 10).bind fun r2 => (some r2)

def impl_within.f (N : Nat) (a1 : Int) (a2 : Int) (a3 : Int) : Option Bool := if a2 ≤ a1 then (some (decide (a1 ≤ a3))) else (some false)

def impl_number.f (N : Nat) (a1 : ByteArray) (a2 : Int) : Option (Int × Bool) := (strconv_ParseInt.f N a1 10 64).bind fun r3 => (if r3.2 = true then (some (0, false)) else ((impl_decimal.f N r3.1).bind fun r5 => (if r5.toList = a1.toList then ((impl_within.f N r3.1 0 a2).bind fun r6 => (if r6 = true then (some (r3.1, true)) else (some (0, false)))) else (some (0, false)))))

def impl_letter.f (N : Nat) (a1 : Int) : Option ByteArray := some (bsOf ([u8w (i8w (97 + a1))]))

def impl_setText.j2 (N : Nat) (x3 : Int) (x5 : ByteArray) : Option (Bd ByteArray (ByteArray) (ByteArray × Int)) := some (.next (x5, i8w (x3 + 1)))
def impl_setText.b0 (N : Nat) (a1 : Int) (x2 : ByteArray) (x3 : Int) : Option (Bd ByteArray (ByteArray) (ByteArray × Int)) := if x3 < 64 then (if (0 : Int) ≤ x3 then (if (bAnd .u64 (shrI .u64 a1 x3) 1) = 1 then ((impl_letter.f N x3).bind fun r4 => (if (x2.size : Int) + r4.size ≤ 9223372036854775807 then (impl_setText.j2 N x3 (x2 ++ r4)) else none)) else (impl_setText.j2 N x3 x2)) else none) else (some (.out (.go x2)))
def impl_setText.a0 (N : Nat) (x6 : ByteArray) : Option ByteArray := some x6
def impl_setText.f (N : Nat) (a1 : Int) : Option ByteArray := if a1 = 0 then (some (⟨#[45]⟩ : ByteArray)) else ((rounds (fun s => impl_setText.b0 N a1 s.1 s.2) N ((⟨#[]⟩ : ByteArray), 0)).bind (Ex.fin fun s => impl_setText.a0 N s))

def impl_readSet.j2 (N : Nat) (x4 : Int) (x5 : Int) : Option (Bd (Int × Bool) (Int) (Int × Int)) := some (.next (x5, i64w (x4 + 1)))
def impl_readSet.b0 (N : Nat) (a1 : ByteArray) (a2 : Int) (x3 : Int) (x4 : Int) : Option (Bd (Int × Bool) (Int) (Int × Int)) := if x4 < (a1.size : Int) then (if (0 : Int) ≤ x4 ∧ x4 < (a1.size : Int) then (if (i64w ((i64w (btS a1 x4)) - 97)) ≥ 0 then (if (i64w ((i64w (btS a1 x4)) - 97)) < a2 then (if (0 : Int) ≤ (i64w ((i64w (btS a1 x4)) - 97)) then (impl_readSet.j2 N x4 (bOr .u64 x3 (shlI .u64 1 (i64w ((i64w (btS a1 x4)) - 97))))) else none) else (impl_readSet.j2 N x4 x3)) else (impl_readSet.j2 N x4 x3)) else none) else (some (.out (.go x3)))
def impl_readSet.a0 (N : Nat) (a1 : ByteArray) (x6 : Int) : Option (Int × Bool) := (impl_setText.f N x6).bind fun r7 => (some (x6, r7.toList == a1.toList))
def impl_readSet.f (N : Nat) (a1 : ByteArray) (a2 : Int) : Option (Int × Bool) := (rounds (fun s => impl_readSet.b0 N a1 a2 s.1 s.2) N (0, 0)).bind (Ex.fin fun s => impl_readSet.a0 N a1 s)

def impl_ReadThings.f (N : Nat) (a1 : ByteArray) : Option (Int × Int) := (impl_readSet.f N a1 8).bind fun r2 => (if r2.2 = true then (some (u16w r2.1, 0)) else (some (0, 5)))

def _impl_Ferry_all.f (N : Nat) (a1 : S_impl_Ferry) : Option Int := if (0 : Int) ≤ a1.f_Things then (some (u16w ((shlI .u16 1 a1.f_Things) - 1))) else none

def impl_inside.f (N : Nat) (a1 : Int) (a2 : Int) : Option Bool := some ((bAndNot .u16 a1 a2) == 0)

def bits_OnesCount16.f (N : Nat) (a1 : Int) : Option Int := if (0 : Int) ≤ (shrI .u16 a1 8) ∧ (shrI .u16 a1 8) < ((⟨#[0, 1, 1, 2, 1, 2, 2, 3, 1, 2, 2, 3, 2, 3, 3, 4, 1, 2, 2, 3, 2, 3, 3, 4, 2, 3, 3, 4, 3, 4, 4, 5, 1, 2, 2, 3, 2, 3, 3, 4, 2, 3, 3, 4, 3, 4, 4, 5, 2, 3, 3, 4, 3, 4, 4, 5, 3, 4, 4, 5, 4, 5, 5, 6, 1, 2, 2, 3, 2, 3, 3, 4, 2, 3, 3, 4, 3, 4, 4, 5, 2, 3, 3, 4, 3, 4, 4, 5, 3, 4, 4, 5, 4, 5, 5, 6, 2, 3, 3, 4, 3, 4, 4, 5, 3, 4, 4, 5, 4, 5, 5, 6, 3, 4, 4, 5, 4, 5, 5, 6, 4, 5, 5, 6, 5, 6, 6, 7, 1, 2, 2, 3, 2, 3, 3, 4, 2, 3, 3, 4, 3, 4, 4, 5, 2, 3, 3, 4, 3, 4, 4, 5, 3, 4, 4, 5, 4, 5, 5, 6, 2, 3, 3, 4, 3, 4, 4, 5, 3, 4, 4, 5, 4, 5, 5, 6, 3, 4, 4, 5, 4, 5, 5, 6, 4, 5, 5, 6, 5, 6, 6, 7, 2, 3, 3, 4, 3, 4, 4, 5, 3, 4, 4, 5, 4, 5, 5, 6, 3, 4, 4, 5, 4, 5, 5, 6, 4, 5, 5, 6, 5, 6, 6, 7, 3, 4, 4, 5, 4, 5, 5, 6, 4, 5, 5, 6, 5, 6, 6, 7, 4, 5, 5, 6, 5, 6, 6, 7, 5, 6, 6, 7, 6, 7, 7, 8]⟩ : ByteArray).size : Int) then (if (0 : Int) ≤ (bAnd .u16 a1 255) ∧ (bAnd .u16 a1 255) < ((⟨#[0, 1, 1, 2, 1, 2, 2, 3, 1, 2, 2, 3, 2, 3, 3, 4, 1, 2, 2, 3, 2, 3, 3, 4, 2, 3, 3, 4, 3, 4, 4, 5, 1, 2, 2, 3, 2, 3, 3, 4, 2, 3, 3, 4, 3, 4, 4, 5, 2, 3, 3, 4, 3, 4, 4, 5, 3, 4, 4, 5, 4, 5, 5, 6, 1, 2, 2, 3, 2, 3, 3, 4, 2, 3, 3, 4, 3, 4, 4, 5, 2, 3, 3, 4, 3, 4, 4, 5, 3, 4, 4, 5, 4, 5, 5, 6, 2, 3, 3, 4, 3, 4, 4, 5, 3, 4, 4, 5, 4, 5, 5, 6, 3, 4, 4, 5, 4, 5, 5, 6, 4, 5, 5, 6, 5, 6, 6, 7, 1, 2, 2, 3, 2, 3, 3, 4, 2, 3, 3, 4, 3, 4, 4, 5, 2, 3, 3, 4, 3, 4, 4, 5, 3, 4, 4, 5, 4, 5, 5, 6, 2, 3, 3, 4, 3, 4, 4, 5, 3, 4, 4, 5, 4, 5, 5, 6, 3, 4, 4, 5, 4, 5, 5, 6, 4, 5, 5, 6, 5, 6, 6, 7, 2, 3, 3, 4, 3, 4, 4, 5, 3, 4, 4, 5, 4, 5, 5, 6, 3, 4, 4, 5, 4, 5, 5, 6, 4, 5, 5, 6, 5, 6, 6, 7, 3, 4, 4, 5, 4, 5, 5, 6, 4, 5, 5, 6, 5, 6, 6, 7, 4, 5, 5, 6, 5, 6, 6, 7, 5, 6, 6, 7, 6, 7, 7, 8]⟩ : ByteArray).size : Int) then (some (i64w (u8w ((btS (⟨#[0, 1, 1, 2, 1, 2, 2, 3, 1, 2, 2, 3, 2, 3, 3, 4, 1, 2, 2, 3, 2, 3, 3, 4, 2, 3, 3, 4, 3, 4, 4, 5, 1, 2, 2, 3, 2, 3, 3, 4, 2, 3, 3, 4, 3, 4, 4, 5, 2, 3, 3, 4, 3, 4, 4, 5, 3, 4, 4, 5, 4, 5, 5, 6, 1, 2, 2, 3, 2, 3, 3, 4, 2, 3, 3, 4, 3, 4, 4, 5, 2, 3, 3, 4, 3, 4, 4, 5, 3, 4, 4, 5, 4, 5, 5, 6, 2, 3, 3, 4, 3, 4, 4, 5, 3, 4, 4, 5, 4, 5, 5, 6, 3, 4, 4, 5, 4, 5, 5, 6, 4, 5, 5, 6, 5, 6, 6, 7, 1, 2, 2, 3, 2, 3, 3, 4, 2, 3, 3, 4, 3, 4, 4, 5, 2, 3, 3, 4, 3, 4, 4, 5, 3, 4, 4, 5, 4, 5, 5, 6, 2, 3, 3, 4, 3, 4, 4, 5, 3, 4, 4, 5, 4, 5, 5, 6, 3, 4, 4, 5, 4, 5, 5, 6, 4, 5, 5, 6, 5, 6, 6, 7, 2, 3, 3, 4, 3, 4, 4, 5, 3, 4, 4, 5, 4, 5, 5, 6, 3, 4, 4, 5, 4, 5, 5, 6, 4, 5, 5, 6, 5, 6, 6, 7, 3, 4, 4, 5, 4, 5, 5, 6, 4, 5, 5, 6, 5, 6, 6, 7, 4, 5, 5, 6, 5, 6, 6, 7, 5, 6, 6, 7, 6, 7, 7, 8]⟩ : ByteArray) (shrI .u16 a1 8)) + (btS (⟨#[0, 1, 1, 2, 1, 2, 2, 3, 1, 2, 2, 3, 2, 3, 3, 4, 1, 2, 2, 3, 2, 3, 3, 4, 2, 3, 3, 4, 3, 4, 4, 5, 1, 2, 2, 3, 2, 3, 3, 4, 2, 3, 3, 4, 3, 4, 4, 5, 2, 3, 3, 4, 3, 4, 4, 5, 3, 4, 4, 5, 4, 5, 5, 6, 1, 2, 2, 3, 2, 3, 3, 4, 2, 3, 3, 4, 3, 4, 4, 5, 2, 3, 3, 4, 3, 4, 4, 5, 3, 4, 4, 5, 4, 5, 5, 6, 2, 3, 3, 4, 3, 4, 4, 5, 3, 4, 4, 5, 4, 5, 5, 6, 3, 4, 4, 5, 4, 5, 5, 6, 4, 5, 5, 6, 5, 6, 6, 7, 1, 2, 2, 3, 2, 3, 3, 4, 2, 3, 3, 4, 3, 4, 4, 5, 2, 3, 3, 4, 3, 4, 4, 5, 3, 4, 4, 5, 4, 5, 5, 6, 2, 3, 3, 4, 3, 4, 4, 5, 3, 4, 4, 5, 4, 5, 5, 6, 3, 4, 4, 5, 4, 5, 5, 6, 4, 5, 5, 6, 5, 6, 6, 7, 2, 3, 3, 4, 3, 4, 4, 5, 3, 4, 4, 5, 4, 5, 5, 6, 3, 4, 4, 5, 4, 5, 5, 6, 4, 5, 5, 6, 5, 6, 6, 7, 3, 4, 4, 5, 4, 5, 5, 6, 4, 5, 5, 6, 5, 6, 6, 7, 4, 5, 5, 6, 5, 6, 6, 7, 5, 6, 6, 7, 6, 7, 7, 8]⟩ : ByteArray) (bAnd .u16 a1 255)))))) else none) else none

def impl_ValidFerry_1.f (N : Nat) (a1 : Int) (a2 : S_impl_Ferry) : Option Bool := (_impl_Ferry_all.f N (⟨a2.f_Things, a2.f_Boat, a2.f_Rules⟩ : S_impl_Ferry)).bind fun r7 => ((impl_inside.f N a1 r7).bind fun r8 => (if r8 = true then ((bits_OnesCount16.f N a1).bind fun r9 => (some (decide (r9 < 2)))) else (some true)))

def slices_IndexFunc_uint16_uint16_at_impl_ValidFerry_1.b0 (N : Nat) (a1 : (List Int)) (a3 : S_impl_Ferry) (x8 : Int) : Option (Bd Int (Unit) (Int)) := if x8 < (a1.length : Int) then (if (0 : Int) ≤ x8 ∧ x8 < (a1.length : Int) then ((impl_ValidFerry_1.f N (rdL a1 x8 0) (⟨a3.f_Things, a3.f_Boat, a3.f_Rules⟩ : S_impl_Ferry)).bind fun r10 => (if r10 = true then (some (.out (.ret x8))) else (some (.next (i64w (x8 + 1)))))) else none) else (some (.out (.go ())))
def slices_IndexFunc_uint16_uint16_at_impl_ValidFerry_1.a0 (N : Nat) : Option Int := some (-1)
def slices_IndexFunc_uint16_uint16_at_impl_ValidFerry_1.f (N : Nat) (a1 : (List Int)) (a3 : S_impl_Ferry) : Option Int := (rounds (fun s => slices_IndexFunc_uint16_uint16_at_impl_ValidFerry_1.b0 N a1 a3 s) N 0).bind (Ex.fin fun s => slices_IndexFunc_uint16_uint16_at_impl_ValidFerry_1.a0 N)

def slices_ContainsFunc_uint16_uint16_at_impl_ValidFerry_1.f (N : Nat) (a1 : (List Int)) (a3 : S_impl_Ferry) : Option Bool := (slices_IndexFunc_uint16_uint16_at_impl_ValidFerry_1.f N a1 (⟨a3.f_Things, a3.f_Boat, a3.f_Rules⟩ : S_impl_Ferry)).bind fun r8 => (some (decide (r8 ≥ 0)))

def impl_ValidFerry.f (N : Nat) (a1 : S_impl_Ferry) : Option Bool := (impl_within.f N (i64w a1.f_Things) 1 8).bind fun r6 => (if r6 = true then ((impl_within.f N (i64w a1.f_Boat) 0 (i64w a1.f_Things)).bind fun r7 => (if r7 = true then (if (a1.f_Rules.length : Int) > 20 then (some false) else ((slices_ContainsFunc_uint16_uint16_at_impl_ValidFerry_1.f N a1.f_Rules (⟨a1.f_Things, a1.f_Boat, a1.f_Rules⟩ : S_impl_Ferry)).bind fun r8 => (some (!r8)))) else (some false))) else (some false))

def impl_ReadFerry.b0 (N : Nat) (r4 : (List ByteArray)) (x21 : Int) (x22 : Int) (x25 : (List Int)) (x26 : Int) : Option (Bd (S_impl_Ferry × Int) (Int × Int × (List Int)) (Int × Int × (List Int) × Int)) := if x26 < (((r4.drop ((2 : Int)).toNat).take (((r4.length : Int)).toNat - ((2 : Int)).toNat)).length : Int) then (if (0 : Int) ≤ x26 ∧ x26 < (((r4.drop ((2 : Int)).toNat).take (((r4.length : Int)).toNat - ((2 : Int)).toNat)).length : Int) then ((impl_ReadThings.f N (rdL ((r4.drop ((2 : Int)).toNat).take (((r4.length : Int)).toNat - ((2 : Int)).toNat)) x26 (⟨#[]⟩ : ByteArray))).bind fun r28 => (if r28.2 = 0 then (if x25.length + ([r28.1]).length ≤ 70368744177664 then (some (.next (x21, x22, x25 ++ ([r28.1]), i64w (x26 + 1)))) else none) else (some (.out (.ret ((⟨0, 0, []⟩ : S_impl_Ferry), 5)))))) else none) else (some (.out (.go (x21, x22, x25))))
def impl_ReadFerry.a0 (N : Nat) (r8 : (Int × Bool)) (r10 : (Int × Bool)) (x33 : Int) (x34 : Int) (x36 : (List Int)) : Option (S_impl_Ferry × Int) := if r8.2 = true then (if r10.2 = true then ((impl_ValidFerry.f N (⟨x33, x34, x36⟩ : S_impl_Ferry)).bind fun r38 => (if r38 = true then (some ((⟨x33, x34, x36⟩ : S_impl_Ferry), 0)) else (some ((⟨0, 0, []⟩ : S_impl_Ferry), 5)))) else (some ((⟨0, 0, []⟩ : S_impl_Ferry), 5))) else (some ((⟨0, 0, []⟩ : S_impl_Ferry), 5))
def impl_ReadFerry.f (N : Nat) (a1 : ByteArray) : Option (S_impl_Ferry × Int) := (strings_Split.f N a1 (⟨#[32]⟩ : ByteArray)).bind fun r4 => (if (r4.length : Int) < 2 then (some ((⟨0, 0, []⟩ : S_impl_Ferry), 5)) else (if (0 : Int) ≤ 0 ∧ 0 < (r4.length : Int) then ((impl_number.f N (rdL r4 0 (⟨#[]⟩ : ByteArray)) 8).bind fun r8 => (if (0 : Int) ≤ 1 ∧ 1 < (r4.length : Int) then ((impl_number.f N (rdL r4 1 (⟨#[]⟩ : ByteArray)) 8).bind fun r10 => (if (0 : Int) ≤ (2 : Int) ∧ (2 : Int) ≤ (r4.length : Int) ∧ (r4.length : Int) ≤ (r4.length : Int) then ((rounds (fun s => impl_ReadFerry.b0 N r4 s.1 s.2.1 s.2.2.1 s.2.2.2) N (i8w r8.1, i8w r10.1, [], 0)).bind (Ex.fin fun s => impl_ReadFerry.a0 N r8 r10 s.1 s.2.1 s.2.2)) else none)) else none)) else none))

def laws_eqUint16S.b0 (N : Nat) (a1 : (List Int)) (a3 : (List Int)) (x5 : Int) : Option (Bd Bool (Unit) (Int)) := if x5 < (a1.length : Int) then (if (0 : Int) ≤ x5 ∧ x5 < (a1.length : Int) then (if (0 : Int) ≤ x5 ∧ x5 < (a3.length : Int) then (if (rdL a1 x5 0) = (rdL a3 x5 0) then (some (.next (i64w (x5 + 1)))) else (some (.out (.ret false)))) else none) else none) else (some (.out (.go ())))
def laws_eqUint16S.a0 (N : Nat) : Option Bool := some true
def laws_eqUint16S.f (N : Nat) (a1 : (List Int)) (a3 : (List Int)) : Option Bool := if (a1.length : Int) = (a3.length : Int) then ((rounds (fun s => laws_eqUint16S.b0 N a1 a3 s) N 0).bind (Ex.fin fun s => laws_eqUint16S.a0 N)) else (some false)

def laws_eqFerry.f (N : Nat) (a1 : S_impl_Ferry) (a4 : S_impl_Ferry) : Option Bool := if a1.f_Things = a4.f_Things then (if a1.f_Boat = a4.f_Boat then ((laws_eqUint16S.f N a1.f_Rules a4.f_Rules).bind fun r11 => (if r11 = true then (some true) else (some false))) else (some false)) else (some false)

def laws_markUint16S.b0 (N : Nat) (x8 : (List Int)) (x9 : Int) (x10 : Int) : Option (Bd (Int × (List Int)) (Int × (List Int)) ((List Int) × Int × Int)) := if x10 < (x8.length : Int) then (if (0 : Int) ≤ x10 ∧ x10 < (x8.length : Int) then (some (.next (stL x8 x10 (u16w x9), i64w (x9 + 1), i64w (x10 + 1)))) else none) else (some (.out (.go (x9, x8))))
def laws_markUint16S.a0 (N : Nat) (x12 : Int) (x13 : (List Int)) : Option (Int × (List Int)) := some (x12, x13)
def laws_markUint16S.f (N : Nat) (a1 : (List Int)) (a4 : Int) : Option (Int × (List Int)) := (rounds (fun s => laws_markUint16S.b0 N s.1 s.2.1 s.2.2) N (a1, a4, 0)).bind (Ex.fin fun s => laws_markUint16S.a0 N s.1 s.2)

def laws_markFerry.f (N : Nat) (a1 : S_impl_Ferry) (a4 : Int) : Option (Int × (List Int)) := (laws_markUint16S.f N a1.f_Rules a4).bind fun r7 => (some (r7.1, r7.2))

def laws_heldUint16S.b0 (N : Nat) (a1 : (List Int)) (x4 : Int) (x5 : Int) : Option (Bd Int (Int) (Int × Int)) := if x5 < (a1.length : Int) then (if (0 : Int) ≤ x5 ∧ x5 < (a1.length : Int) then (if (rdL a1 x5 0) = (u16w x4) then (some (.next (i64w (x4 + 1), i64w (x5 + 1)))) else (some (.out (.ret (-1))))) else none) else (some (.out (.go x4)))
def laws_heldUint16S.a0 (N : Nat) (x7 : Int) : Option Int := some x7
def laws_heldUint16S.f (N : Nat) (a1 : (List Int)) (a3 : Int) : Option Int := (rounds (fun s => laws_heldUint16S.b0 N a1 s.1 s.2) N (a3, 0)).bind (Ex.fin fun s => laws_heldUint16S.a0 N s)

def laws_heldFerry.f (N : Nat) (a1 : S_impl_Ferry) (a4 : Int) : Option Int := (laws_heldUint16S.f N a1.f_Rules a4).bind fun r7 => (if r7 < 0 then (some (-1)) else (some r7))

def laws_FnExactReadFerry.f (N : Nat) (a1 : ByteArray) : Option Bool := if (a1.size : Int) > 1048576 then (some true) else ((spec_ReadFerry.f N a1).bind fun r2 => ((impl_ReadFerry.f N a1).bind fun r7 => ((laws_eqFerry.f N (⟨r7.1.f_Things, r7.1.f_Boat, r7.1.f_Rules⟩ : S_impl_Ferry) (⟨r2.1.f_Things, r2.1.f_Boat, r2.1.f_Rules⟩ : S_impl_Ferry)).bind fun r12 => (if r12 = true then (if r7.2 = r2.2 then ((laws_markFerry.f N (⟨r7.1.f_Things, r7.1.f_Boat, r7.1.f_Rules⟩ : S_impl_Ferry) 1).bind fun r13 => ((laws_heldFerry.f N (⟨r7.1.f_Things, r7.1.f_Boat, r13.2⟩ : S_impl_Ferry) 1).bind fun r14 => (if r14 < 0 then (some false) else (if r14 = r13.1 then ((impl_ReadFerry.f N a1).bind fun r15 => ((laws_eqFerry.f N (⟨r15.1.f_Things, r15.1.f_Boat, r15.1.f_Rules⟩ : S_impl_Ferry) (⟨r2.1.f_Things, r2.1.f_Boat, r2.1.f_Rules⟩ : S_impl_Ferry)).bind fun r20 => (if r20 = true then (if r15.2 = r2.2 then ((laws_heldFerry.f N (⟨r7.1.f_Things, r7.1.f_Boat, r13.2⟩ : S_impl_Ferry) 1).bind fun r21 => (if r21 < 0 then (some false) else (if r21 = r13.1 then (some true) else (some false)))) else (some false)) else (some false)))) else (some false))))) else (some false)) else (some false)))))

end Go.Proofs.YtmjkeidcoonghaaDoorX
