/- Rows whose elements are chunks of their own: slices, or maps. -/
import Derived.Test.YtmnaclghakalmaaXIter
import Derived.Test.YtmnaclghakalmaaXKey
import Derived.Test.YtmnaclghakalmaaXRowR
namespace Go.Proofs.YtmnaclghakalmaaX
open Go Go.RowKit Go.ChangeMaps
set_option linter.unusedVariables false
set_option linter.unusedSimpArgs false
set_option linter.unusedSectionVars false
/-- What cannot be. -/
def As.no : As := ⟨fun _ _ => False, fun _ h => h.elim, fun h => h.elim⟩
section
variable {η α : Type}
/-- The chunks of all elements. -/
def Bag (I : η → α → As) : List η → List α → As
  | [], [] => As.emp
  | h :: hs, x :: xs => (I h x).star (Bag I hs xs)
  | _, _ => As.no
/-- All but one. -/
def BagX (I : η → α → As) : Nat → List η → List α → As
  | 0, _ :: hs, _ :: xs => Bag I hs xs
  | i + 1, h :: hs, x :: xs => (I h x).star (BagX I i hs xs)
  | _, _, _ => As.no
variable {I : η → α → As} {w : World}
theorem Bag.len : ∀ {hs : List η} {xs : List α} {F : List Nat}, (Bag I hs xs).on F w → hs.length = xs.length
  | [], [], _, _ => rfl
  | h :: hs, x :: xs, _, ⟨_, _, _, _, h2⟩ => by simp [Bag.len h2]
  | [], _ :: _, _, h => h.elim
  | _ :: _, [], _, h => h.elim
theorem Bag.focus : ∀ (i : Nat) {hs : List η} {xs : List α} {F : List Nat}, (Bag I hs xs).on F w → ∀ (h1 : i < hs.length) (h2 : i < xs.length), ∃ F1 F2, F.Perm (F1 ++ F2) ∧ (I hs[i] xs[i]).on F1 w ∧ (BagX I i hs xs).on F2 w
  | _, [], _, _, _, h1, _ => absurd h1 (Nat.not_lt_zero _)
  | _, _ :: _, [], _, h, _, _ => h.elim
  | 0, h :: hs, x :: xs, _, ⟨F1, F2, e, a, b⟩, _, _ => ⟨F1, F2, by rw [e], a, b⟩
  | i + 1, h :: hs, x :: xs, _, ⟨F1, F2, e, a, b⟩, h1, h2 => by
    obtain ⟨G1, G2, p, c, d⟩ := Bag.focus i b (by simpa using h1) (by simpa using h2)
    refine ⟨G1, F1 ++ G2, ?_, c, F1, G2, rfl, a, d⟩
    rw [e]
    refine (List.Perm.append_left F1 p).trans ?_
    rw [← List.append_assoc, ← List.append_assoc]
    exact List.Perm.append_right _ List.perm_append_comm
theorem Bag.back : ∀ (i : Nat) {hs : List η} {xs : List α} {F1 F2 : List Nat} {h' : η} {x' : α}, (I h' x').on F1 w → (BagX I i hs xs).on F2 w → ∃ F, F.Perm (F1 ++ F2) ∧ (Bag I (hs.set i h') (xs.set i x')).on F w
  | 0, [], _, _, _, _, _, _, h => h.elim
  | 0, _ :: _, [], _, _, _, _, _, h => h.elim
  | 0, h :: hs, x :: xs, F1, F2, h', x', a, b => ⟨F1 ++ F2, List.Perm.refl _, F1, F2, rfl, a, b⟩
  | i + 1, [], _, _, _, _, _, _, h => h.elim
  | i + 1, _ :: _, [], _, _, _, _, _, h => h.elim
  | i + 1, h :: hs, x :: xs, F1, _, h', x', a, ⟨G1, G2, e, c, d⟩ => by
    obtain ⟨F, p, b⟩ := Bag.back i a d
    refine ⟨G1 ++ F, ?_, G1, F, rfl, c, b⟩
    rw [e]
    refine (List.Perm.append_left G1 p).trans ?_
    rw [← List.append_assoc, ← List.append_assoc]
    exact List.Perm.append_right _ List.perm_append_comm
theorem BagX.lenx : ∀ (i : Nat) {hs : List η} {xs : List α} {F : List Nat}, (BagX I i hs xs).on F w → hs.length = xs.length
  | 0, [], _, _, h => h.elim
  | 0, _ :: _, [], _, h => h.elim
  | 0, _ :: _, _ :: _, _, h => by simp [Bag.len h]
  | _ + 1, [], _, _, h => h.elim
  | _ + 1, _ :: _, [], _, h => h.elim
  | i + 1, _ :: _, _ :: _, _, ⟨_, _, _, _, h⟩ => by simp [BagX.lenx i h]
theorem Bag.rep {h : η} {x : α} (h0 : ∀ w, (I h x).on [] w) : ∀ n, (Bag I (List.replicate n h) (List.replicate n x)).on [] w
  | 0 => rfl
  | n + 1 => ⟨[], [], rfl, h0 w, Bag.rep h0 n⟩
/-- The slice value v owns a row of handles, and what they lead to. -/
def Rows2 (E : TypeId) (k : K η) (I : η → α → As) (v : Value) (hs : List η) (xs : List α) : As := (Row E k v hs).star (Bag I hs xs)
/-- All but what one of them leads to. -/
def Rows2X (E : TypeId) (k : K η) (I : η → α → As) (v : Value) (hs : List η) (xs : List α) (i : Nat) : As := (Row E k v hs).star (BagX I i hs xs)
variable {w0 : World} {Γ : List As} {E : TypeId} {k : K η} {v : Value} {hs : List η} {xs : List α} {A B C : As}
/-- One chunk told as several. -/
theorem St.apart (h : St w0 (A :: Γ) w) {Γ' : List As} (hx : ∀ F, A.on F w → ∃ F', F.Perm F' ∧ Sep w Γ' F') : St w0 (Γ' ++ Γ) w := by
  obtain ⟨hb, _, ⟨F1, F2, rfl, h1, h2⟩, hn, hl⟩ := h
  obtain ⟨F', p, h'⟩ := hx F1 h1
  have pp := List.Perm.append_right F2 p
  exact ⟨hb, F' ++ F2, h'.append h2, (pp.nodup_iff).1 hn, fun b hb => hl b (pp.mem_iff.2 hb)⟩
/-- Several told as one. -/
theorem St.gather {Γ' : List As} (h : St w0 (Γ' ++ Γ) w) (hx : ∀ F, Sep w Γ' F → ∃ F', F'.Perm F ∧ A.on F' w) : St w0 (A :: Γ) w := by
  obtain ⟨hb, F, hs, hn, hl⟩ := h
  obtain ⟨F1, F2, rfl, h1, h2⟩ := hs.split
  obtain ⟨F', p, h'⟩ := hx F1 h1
  have pp := List.Perm.append_right F2 p
  exact ⟨hb, F' ++ F2, ⟨F', F2, rfl, h', h2⟩, (pp.nodup_iff).2 hn, fun b hb => hl b (pp.mem_iff.1 hb)⟩
/-- Several told as one, some of it left behind. -/
theorem St.gatherS {Γ' : List As} (h : St w0 (Γ' ++ Γ) w) (hx : ∀ F, Sep w Γ' F → F.Nodup → ∃ F', F'.Nodup ∧ (∀ b ∈ F', b ∈ F) ∧ A.on F' w) : St w0 (A :: Γ) w := by
  obtain ⟨hb, F, hs, hn, hl⟩ := h
  obtain ⟨F1, F2, rfl, h1, h2⟩ := hs.split
  obtain ⟨n1, n2, nd⟩ := List.nodup_append.1 hn
  obtain ⟨F', p, hsub, h'⟩ := hx F1 h1 n1
  refine ⟨hb, F' ++ F2, ⟨F', F2, rfl, h', h2⟩, List.nodup_append.2 ⟨p, n2, fun a ha b hb' => nd a (hsub a ha) b hb'⟩, fun b hb' => ?_⟩
  rcases List.mem_append.1 hb' with g | g
  · exact hl b (List.mem_append_left _ (hsub b g))
  · exact hl b (List.mem_append_right _ g)
theorem St.r2len (h : St w0 Γ w) (j : Nat) (hj : Γ[j]? = some (Rows2 E k I v hs xs)) : hs.length = xs.length := by
  obtain ⟨F, ⟨F1, F2, _, _, h2⟩, _⟩ := (h.pull j hj).head
  exact Bag.len h2
theorem St.r2row (h : St w0 Γ w) (j : Nat) (hj : Γ[j]? = some (Rows2 E k I v hs xs)) : RdRow k w v hs := by
  obtain ⟨F, ⟨F1, F2, _, ⟨cs, F', _, h1, h3⟩, h2⟩, _⟩ := (h.pull j hj).head
  exact ownsRow.rd h1 h3
theorem St.r2lt (h : St w0 Γ w) (j : Nat) (hj : Γ[j]? = some (Rows2 E k I v hs xs)) {i : Int} (h1 : i < xs.length) : i < hs.length := by rw [h.r2len j hj]; exact h1
theorem St.r2focus (h : St w0 (Rows2 E k I v hs xs :: Γ) w) (z : η) (y : α) {i : Int} (h0 : 0 ≤ i) (h1 : i < xs.length) : St w0 (I (rdL hs i z) (rdL xs i y) :: Rows2X E k I v hs xs i.toNat :: Γ) w := by
  have hl := h.r2len 0 rfl
  refine h.apart (Γ' := [_, _]) ?_
  rintro _ ⟨F1, F2, rfl, h1', h2'⟩
  obtain ⟨G1, G2, p, a, b⟩ := Bag.focus i.toNat h2' (by omega) (by omega)
  rw [rdL_get (z := z), rdL_get (z := y)] at a
  refine ⟨G1 ++ (F1 ++ G2), ?_, G1, F1 ++ G2, rfl, a, F1 ++ G2, [], by simp, ⟨F1, G2, rfl, h1', b⟩, rfl⟩
  refine (List.Perm.append_left F1 p).trans ?_
  rw [← List.append_assoc, ← List.append_assoc]
  exact List.Perm.append_right _ List.perm_append_comm
theorem St.r2back {h' z : η} {x' : α} {i : Int} (h : St w0 (I h' x' :: Rows2X E k I v hs xs i.toNat :: Γ) w) (e : h' = rdL hs i z) (h0 : 0 ≤ i) (h1 : i < xs.length) : St w0 (Rows2 E k I v hs (stL xs i x') :: Γ) w := by
  refine St.gather (Γ' := [_, _]) h ?_
  rintro _ ⟨F1, _, rfl, a, F2, _, rfl, ⟨G1, G2, rfl, b, c⟩, hnil⟩
  simp only [Sep] at hnil
  subst hnil
  have hl := BagX.lenx _ c
  obtain ⟨F, p, d⟩ := Bag.back i.toNat a c
  have e2 : hs.set i.toNat h' = hs := by
    rw [e]
    have hi : i.toNat < hs.length := by omega
    rw [← rdL_get (z := z) hi]
    exact List.set_getElem_self hi
  rw [e2] at d
  refine ⟨G1 ++ F, ?_, G1, F, rfl, b, d⟩
  rw [List.append_nil]
  refine (List.Perm.append_left G1 p).trans ?_
  rw [← List.append_assoc, ← List.append_assoc]
  exact List.Perm.append_right _ List.perm_append_comm
theorem stL_rdL {xs : List α} {i : Int} {y : α} : stL xs i (rdL xs i y) = xs := by
  unfold stL rdL
  by_cases hi : i.toNat < xs.length
  · have : xs.getD i.toNat y = xs[i.toNat] := by simp [hi]
    rw [this, List.set_getElem_self hi]
  · exact List.set_eq_of_length_le (by omega)
/-- Back, nothing turned. -/
theorem St.r2back0 {h' z : η} {x' y : α} {i : Int} (h : St w0 (I h' x' :: Rows2X E k I v hs xs i.toNat :: Γ) w) (e : h' = rdL hs i z) (ex : x' = rdL xs i y) (h0 : 0 ≤ i) (h1 : i < xs.length) : St w0 (Rows2 E k I v hs xs :: Γ) w := by
  have := h.r2back (z := z) e h0 h1
  rwa [ex, stL_rdL] at this
/-- One of them, taken out of what is left behind. -/
theorem St.r2pick (h : St w0 (Rows2 E k I v hs xs :: Γ) w) (z : η) (y : α) {i : Int} (h0 : 0 ≤ i) (h1 : i < xs.length) : St w0 (I (rdL hs i z) (rdL xs i y) :: Γ) w := by
  have h2 := h.r2focus z y h0 h1
  have h3 := h2.pull 1 rfl
  exact h3.drop
/-- A row of nothing. -/
theorem St.r2make {z : η} {y : α} {n : Nat} (h : St w0 (Row E k v (List.replicate n z) :: Γ) w) (h0 : ∀ w, (I z y).on [] w) : St w0 (Rows2 E k I v (List.replicate n z) (List.replicate n y) :: Γ) w := by
  refine St.gather (Γ' := [_]) h ?_
  rintro _ ⟨F1, F2, rfl, a, hnil⟩
  simp only [Sep] at hnil
  subst hnil
  exact ⟨F1 ++ [], List.Perm.refl _, F1, [], rfl, a, Bag.rep h0 n⟩
/-- No slice. -/
theorem St.r2nil (h : St w0 Γ w) (E : TypeId) (k : K η) (I : η → α → As) : St w0 (Rows2 E k I (.slice none 0 0) [] [] :: Γ) w := by
  refine St.gather (Γ' := [_]) (h.nil E k) ?_
  rintro _ ⟨F1, F2, rfl, a, hnil⟩
  simp only [Sep] at hnil
  subst hnil
  exact ⟨F1 ++ [], List.Perm.refl _, F1, [], rfl, a, rfl⟩
theorem some_getD {β : Type} {x : Option (List β)} (h : x.isSome = true) : x = some (x.getD []) := by
  cases x with
  | none => cases h
  | some y => rfl
theorem rdL_lt {β : Type} {ms : List (Option β)} {n : Int} {y : β} (h0 : 0 ≤ n) (h : rdL ms n none = some y) : n < ms.length := by
  by_cases c : n.toNat < ms.length
  · omega
  · unfold rdL at h
    simp [List.getD, c] at h
end
section
variable {P : Program} {f : FuncId} {R : Ending → World → Prop} {k : List Item} {t : List Value} {w0 w : World} {Γ : List As} {ops : Array Oper} {i : Nat} {rest : List Nat} {o : Oper}
variable {η α : Type} {I : η → α → As} {E : TypeId} {κ : K η} {enc : η → List Value} {v : Value} {hs : List η} {xs : List α}
/-- A store of a chunk of the call's own into a row. -/
theorem s_r2store (fk : Flat κ enc) {h' : η} {x' : α} {n : Int} (h0 : 0 ≤ n) (hn : n < xs.length) {p : Addr} (hp : ∀ b N c, v = .slice (some ⟨b, 0, none⟩) N c → p = ⟨b, n.toNat * κ.n, none⟩)
    (h : St w0 (Rows2 E κ I v hs xs :: I h' x' :: Γ) w) (ho : ops[i]? = some o) (hw : Region.wanted o (yl ops t) = true) {T : TypeId} {a x : Operand}
    (hop : o.op = .store T a x) (ha : ev t a = .pointer (some p)) (hv : (ev t x).cells = (enc h').toArray) (hsz : ∀ w, (Go.sizeOf T).run P w = .ok κ.n w)
    (hk : ∀ w1, St w0 (Rows2 E κ I v (stL hs n h') (stL xs n x') :: Γ) w1 → G P f R (.inRegion ops rest :: k) (put t o.dst undef) w1) : G P f R (.inRegion ops (i :: rest) :: k) t w := by
  have hl := h.r2lt 0 rfl hn
  have h2 : St w0 (Row E κ v hs :: Bag I hs xs :: I h' x' :: Γ) w := by
    refine h.apart (Γ' := [_, _]) ?_
    rintro _ ⟨F1, F2, rfl, a, b⟩
    exact ⟨F1 ++ F2, List.Perm.refl _, F1, F2, rfl, a, F2, [], by simp, b, rfl⟩
  refine s_stRow fk h0 hl hp h2 ho hw hop ha hv hsz fun w1 h3 => hk w1 ?_
  refine St.gatherS (Γ' := [_, _, _]) h3 ?_
  rintro _ ⟨F1, _, rfl, a, F2, _, rfl, b, F3, _, rfl, c, hnil⟩ hnd
  simp only [Sep] at hnil
  subst hnil
  rw [List.append_nil] at hnd ⊢
  obtain ⟨G1, G2, pp, d, e⟩ := Bag.focus n.toNat b (by omega) (by have := Bag.len b; omega)
  obtain ⟨F4, pq, g⟩ := Bag.back n.toNat c e
  have p1 : (F1 ++ (F2 ++ F3)).Perm (G1 ++ (F1 ++ F4)) := by
    have q1 : (F2 ++ F3).Perm (G1 ++ F4) := by
      refine (List.Perm.append_right F3 pp).trans ?_
      rw [List.append_assoc]
      refine List.Perm.append_left G1 ?_
      exact List.perm_append_comm.trans pq.symm
    refine (List.Perm.append_left F1 q1).trans ?_
    rw [← List.append_assoc, ← List.append_assoc]
    exact List.Perm.append_right _ List.perm_append_comm
  have hnd2 := (p1.nodup_iff).1 hnd
  refine ⟨F1 ++ F4, (List.nodup_append.1 hnd2).2.1, fun b hb => p1.mem_iff.2 (List.mem_append_right _ hb), F1, F4, rfl, a, ?_⟩
  exact g
/-- Handles of slices. -/
structure HS where
  a : Option Addr
  n : Nat
  c : Nat
def encHS (h : HS) : List Value := [.slice h.a h.n h.c]
def kHS : K HS := K.fl 1 encHS (fun _ => rfl) (by simp [encHS, Value.oneCell'])
theorem fkHS : Flat kHS encHS := Flat.fl
def zHS : HS := ⟨none, 0, 0⟩
/-- Handles of maps. -/
def encHM (o : Option Nat) : List Value := [.map o]
def kHM : K (Option Nat) := K.fl 1 encHM (fun _ => rfl) (by simp [encHM, Value.oneCell'])
theorem fkHM : Flat kHM encHM := Flat.fl
/-- What a slice's handle leads to. -/
def RowO {β : Type} (F : TypeId) (κ : K β) (h : HS) (x : List β) : As := Row F κ (.slice h.a h.n h.c) x
theorem rowO0 {β : Type} {F : TypeId} {κ : K β} (w : World) : (RowO F κ zHS []).on [] w := ⟨[], [], rfl, World.ownsRow_nil _ _ _ _, .nil⟩
theorem St.hsOf {β : Type} {F : TypeId} {κ : K β} {u : Value} {x : List β} (h : St w0 Γ w) (j : Nat) (hj : Γ[j]? = some (Row F κ u x)) : ∃ g : HS, u = .slice g.a g.n g.c := by
  obtain ⟨A, cap, e, _⟩ := (h.pull j hj).row_rd
  exact ⟨⟨A, _, cap⟩, e⟩
theorem St.r2rd {β : Type} {F : TypeId} {κ' : K β} {xss : List (List β)} {hs : List HS} {κ : K HS} (h : St w0 Γ w) (j : Nat) (hj : Γ[j]? = some (Rows2 E κ (RowO F κ') v hs xss)) {n : Int} (h0 : 0 ≤ n) (h1 : n < xss.length) :
    RdRow κ' w (.slice (rdL hs n zHS).a (rdL hs n zHS).n (rdL hs n zHS).c) (rdL xss n []) := by
  have h2 := (h.pull j hj).r2focus zHS [] h0 h1
  exact St.row_rd h2
theorem s_len2 {v : Value} (h : St w0 Γ w) (j : Nat) (hj : Γ[j]? = some (Rows2 E κ I v hs xs)) (ho : ops[i]? = some o) (hw : Region.wanted o (yl ops t) = true) {ty : TypeId} {x : Operand}
    (hop : o.op = .call { callee := .builtin .len, args := #[x], argTypes := #[ty] }) {E' : TypeId} (hT : P.underlying ty = some (.slice E')) (hx : ev t x = v) (hk : G P f R (.inRegion ops rest :: k) (put t o.dst (.int .i64 xs.length)) w) :
    G P f R (.inRegion ops (i :: rest) :: k) t w := by
  refine s_len (h.r2row j hj) ho hw hop hT hx ?_
  rw [h.r2len j hj]
  exact hk
/-- A store into an element of one of the rows. -/
theorem s_r2st {β : Type} {F : TypeId} {κ' : K β} {enc' : β → List Value} (fk : Flat κ' enc') {xss : List (List β)} {hs : List HS} {κ : K HS} {m : Int} (m0 : 0 ≤ m) (m1 : m < xss.length) {n : Int} (h0 : 0 ≤ n) (hn : n < (rdL xss m []).length) {p : Addr}
    (hp : ∀ b N c, Value.slice (rdL hs m zHS).a (rdL hs m zHS).n (rdL hs m zHS).c = .slice (some ⟨b, 0, none⟩) N c → p = ⟨b, n.toNat * κ'.n, none⟩)
    (h : St w0 (Rows2 E κ (RowO F κ') v hs xss :: Γ) w) (ho : ops[i]? = some o) (hw : Region.wanted o (yl ops t) = true) {T : TypeId} {a x : Operand} {y : β}
    (hop : o.op = .store T a x) (ha : ev t a = .pointer (some p)) (hv : (ev t x).cells = (enc' y).toArray) (hsz : ∀ w, (Go.sizeOf T).run P w = .ok κ'.n w)
    (hk : ∀ w1, St w0 (Rows2 E κ (RowO F κ') v hs (stL xss m (stL (rdL xss m []) n y)) :: Γ) w1 → G P f R (.inRegion ops rest :: k) (put t o.dst undef) w1) : G P f R (.inRegion ops (i :: rest) :: k) t w := by
  have h2 := h.r2focus zHS [] m0 m1
  exact s_stRow fk h0 hn hp h2 ho hw hop ha hv hsz fun w1 h3 => hk w1 (St.r2back (h' := rdL hs m zHS) (z := zHS) h3 rfl m0 m1)
section
variable {κ₁ ν : Type} [DecidableEq κ₁] {ek : κ₁ → Value} {en : ν → Value} {kt : TypeId} {ms : List (Option (List (κ₁ × ν)))} {gs : List (Option Nat)} {κm : K (Option Nat)}
/-- What a map's handle leads to. -/
def MapO (ek : κ₁ → Value) (en : ν → Value) : Option Nat → Option (List (κ₁ × ν)) → As
  | some b, some kv => MapAs b ek en kv
  | none, none => As.emp
  | _, _ => As.no
theorem mapO0 (w : World) : (MapO ek en none none).on [] w := rfl
/-- What a map's block holds. -/
def MpF (w : World) (ek : κ₁ → Value) (en : ν → Value) : Option Nat → Option (List (κ₁ × ν)) → Prop
  | some b, some kv => ∃ es, w.heap[b]? = some (.map es es.size) ∧ Ents ek en es kv
  | none, none => True
  | _, _ => False
theorem St.r2mp (h : St w0 Γ w) (j : Nat) (hj : Γ[j]? = some (Rows2 E κm (MapO ek en) v gs ms)) {n : Int} (h0 : 0 ≤ n) (h1 : n < ms.length) : MpF w ek en (rdL gs n none) (rdL ms n none) := by
  have h2 := (h.pull j hj).r2focus none none h0 h1
  obtain ⟨F, hF, _⟩ := h2.head
  generalize rdL gs n none = a at *
  generalize rdL ms n none = b at *
  match a, b, hF with
  | some b, some kv, ⟨_, h⟩ => exact h
  | none, none, _ => trivial
  | some _, none, h => exact h
  | none, some _, h => exact h
theorem St.r2some (h : St w0 Γ w) (j : Nat) (hj : Γ[j]? = some (Rows2 E κm (MapO ek en) v gs ms)) {n : Int} (h0 : 0 ≤ n) (h1 : n < ms.length) (hx : (rdL ms n none).isSome = true) : ∃ b, rdL gs n none = some b := by
  have h2 := h.r2mp j hj h0 h1
  generalize rdL gs n none = a at *
  generalize rdL ms n none = b at *
  match a, b, h2, hx with
  | some b, some kv, _, _ => exact ⟨b, rfl⟩
theorem MapO.some {b : Nat} {x : Option (List (κ₁ × ν))} {F : List Nat} (h : (MapO ek en (Option.some b) x).on F w) : ∃ kv, x = Option.some kv := by
  match x, h with
  | Option.some kv, _ => exact ⟨kv, rfl⟩
/-- A map of the row, written. -/
theorem s_r2set (K : KeyOk P kt ek) {n : Int} (h0 : 0 ≤ n) (h1 : n < ms.length) {b : Nat} (hb : rdL gs n none = some b) {a : κ₁} {y : ν} (h : St w0 (Rows2 E κm (MapO ek en) v gs ms :: Γ) w) (ho : ops[i]? = some o) (hw : Region.wanted o (yl ops t) = true) {T vt : TypeId} {m x z : Operand}
    (hop : o.op = .mapUpdate T m x z ∨ o.op = .insert T m x z) (hT : P.underlying T = some (.map kt vt)) (hm : ev t m = .map (rdL gs n none)) (hx : ev t x = ek a) (hy : ev t z = en y)
    (hk : ∀ w1, St w0 (Rows2 E κm (MapO ek en) v gs (stL ms n (some (mSet ((rdL ms n none).getD []) a y))) :: Γ) w1 → G P f R (.inRegion ops rest :: k) (put t o.dst undef) w1) : G P f R (.inRegion ops (i :: rest) :: k) t w := by
  have h2 := h.r2focus none none h0 h1
  rw [hb] at h2
  obtain ⟨F, hF, _⟩ := h2.head
  obtain ⟨kv, e⟩ := MapO.some hF
  rw [e] at h2
  refine s_mapSet (en := en) K (b := b) (kv := kv) h2 ho hw hop hT (hm.trans (congrArg Value.map hb)) hx hy fun w1 h3 => hk w1 ?_
  rw [e]
  exact St.r2back (h' := some b) (x' := some (mSet kv a y)) (z := none) (I := MapO ek en) h3 hb.symm h0 h1
/-- What a map of the row has at a key. -/
theorem x_lookupO (K : KeyOk P kt ek) {q : Option Nat} {kv : Option (List (κ₁ × ν))} {a : κ₁} {z : ν} (h : MpF w ek en q kv) {T vt : TypeId} {m x : Operand}
    (hop : o.op = .lookup T m x false) (hT : P.underlying T = some (.map kt vt)) (hm : ev t m = .map q) (hx : ev t x = ek a) (hz : ∀ w, (zeroValue vt).run P w = .ok (en z) w) :
    (execOp (ev t) o).run P w = .ok (.value (en (mGet (kv.getD []) a z))) w := by
  match q, kv, h with
  | some b, some kv, h => exact x_lookup K h hop hT hm hx hz
  | none, none, _ =>
    simp only [execOp, hop]
    refine run_value ?_
    rw [hm, hx]
    have hf := finding (w := w) (en := en) K a (es := []) (kv := []) rfl
    simp [Instr.lookup, run_underlying hT, K.check, hf, mGet, mIdx, hz]
theorem x_lookupOkO (K : KeyOk P kt ek) {q : Option Nat} {kv : Option (List (κ₁ × ν))} {a : κ₁} {z : ν} (h : MpF w ek en q kv) {T vt : TypeId} {m x : Operand}
    (hop : o.op = .lookup T m x true) (hT : P.underlying T = some (.map kt vt)) (hm : ev t m = .map q) (hx : ev t x = ek a) (hz : ∀ w, (zeroValue vt).run P w = .ok (en z) w) :
    (execOp (ev t) o).run P w = .ok (.value (.tuple #[en (mGet (kv.getD []) a z), .bool (mIdx (kv.getD []) a).isSome])) w := by
  match q, kv, h with
  | some b, some kv, h => exact x_lookupOk K h hop hT hm hx hz
  | none, none, _ =>
    simp only [execOp, hop]
    refine run_value ?_
    rw [hm, hx]
    have hf := finding (w := w) (en := en) K a (es := []) (kv := []) rfl
    simp [Instr.lookup, run_underlying hT, K.check, hf, mGet, mIdx, hz]
/-- How many entries a map has. -/
theorem x_lenM {q : Option Nat} {kv : Option (List (κ₁ × ν))} (h : MpF w ek en q kv) {ty kt' vt : TypeId} {x : Operand} (hop : o.op = .call { callee := .builtin .len, args := #[x], argTypes := #[ty] }) (hT : P.underlying ty = some (.map kt' vt)) (hx : ev t x = .map q) :
    (execOp (ev t) o).run P w = .ok (.value (.int .i64 (kv.getD []).length)) w := by
  match q, kv, h with
  | some b, some kv, ⟨es, hb, he, _⟩ =>
    have hlen : es.size = kv.length := by have := congrArg List.length he; simpa using this
    simp [execOp, hop, resolve, hx, invoke, builtin, Builtin.len_, goInt, run_underlying hT, getMap hb, hlen]
  | none, none, _ => simp [execOp, hop, resolve, hx, invoke, builtin, Builtin.len_, goInt, run_underlying hT]
/-- Ranges over a map of the row. -/
theorem s_rangeO {n : Int} (h0 : 0 ≤ n) (h1 : n < ms.length) {b : Nat} {kv : List (κ₁ × ν)} (hb : rdL gs n none = some b) (hkv : rdL ms n none = some kv) (h : St w0 (Rows2 E κm (MapO ek en) v gs ms :: Γ) w) (ho : ops[i]? = some o) (hw : Region.wanted o (yl ops t) = true) {T kt vt : TypeId} {m : Operand} (hop : o.op = .range T m) (hT : P.underlying T = some (.map kt vt))
    (hm : ev t m = .map (rdL gs n none)) (hk : ∀ r w1, St w0 (IterAs r b kv kv none :: Rows2 E κm (MapO ek en) v gs ms :: Γ) w1 → G P f R (.inRegion ops rest :: k) (put t o.dst (.pointer (some ⟨r, 0, none⟩))) w1) : G P f R (.inRegion ops (i :: rest) :: k) t w := by
  have h2 := h.r2focus none none h0 h1
  rw [hb, hkv] at h2
  refine s_range (b := b) (kv := kv) (ek := ek) (en := en) h2 ho hw hop hT (hm.trans (congrArg Value.map hb)) fun r w1 h3 => hk r w1 ?_
  have h4 : St w0 (MapO ek en (some b) (some kv) :: Rows2X E κm (MapO ek en) v gs ms n.toNat :: IterAs r b kv kv none :: Γ) w1 := h3.perm ((List.Perm.swap _ _ _).trans (List.Perm.cons _ (List.Perm.swap _ _ _)))
  exact (St.r2back0 (z := none) (y := none) h4 hb.symm hkv.symm h0 h1).pull 1 rfl
theorem s_nextO {r b : Nat} {n : Int} (h0 : 0 ≤ n) (h1 : n < ms.length) {kv left : List (κ₁ × ν)} {cur : Option (κ₁ × ν)} (hb : rdL gs n none = some b) (hkv : rdL ms n none = some kv) (h : St w0 (IterAs r b kv left cur :: Rows2 E κm (MapO ek en) v gs ms :: Γ) w) (ho : ops[i]? = some o) (hw : Region.wanted o (yl ops t) = true) {m : Operand} (hop : o.op = .next m false)
    (hm : ev t m = .pointer (some ⟨r, 0, none⟩))
    (hk0 : left = [] → ∀ w1, St w0 (IterAs r b kv left cur :: Rows2 E κm (MapO ek en) v gs ms :: Γ) w1 → G P f R (.inRegion ops rest :: k) (put t o.dst (.tuple #[.bool false])) w1)
    (hk1 : ∀ p l, left.Perm (p :: l) → ∀ w1, St w0 (IterAs r b kv l (some p) :: Rows2 E κm (MapO ek en) v gs ms :: Γ) w1 → G P f R (.inRegion ops rest :: k) (put t o.dst (.tuple #[.bool true, ek p.1, en p.2])) w1) : G P f R (.inRegion ops (i :: rest) :: k) t w := by
  have h2 := (h.pull 1 rfl).r2focus none none h0 h1
  rw [hb, hkv] at h2
  have h3 : St w0 (IterAs r b kv left cur :: MapAs b ek en kv :: Rows2X E κm (MapO ek en) v gs ms n.toNat :: Γ) w := h2.pull 2 rfl
  have back : ∀ l c w1, St w0 (IterAs r b kv l c :: MapAs b ek en kv :: Rows2X E κm (MapO ek en) v gs ms n.toNat :: Γ) w1 → St w0 (IterAs r b kv l c :: Rows2 E κm (MapO ek en) v gs ms :: Γ) w1 := by
    intro l c w1 h3
    have h4 : St w0 (MapO ek en (some b) (some kv) :: Rows2X E κm (MapO ek en) v gs ms n.toNat :: IterAs r b kv l c :: Γ) w1 := h3.perm ((List.Perm.swap _ _ _).trans (List.Perm.cons _ (List.Perm.swap _ _ _)))
    exact (St.r2back0 (z := none) (y := none) h4 hb.symm hkv.symm h0 h1).pull 1 rfl
  exact s_next h3 ho hw hop hm (fun e w1 h5 => hk0 e w1 (back _ _ w1 h5)) fun p l e w1 h5 => hk1 p l e w1 (back _ _ w1 h5)
theorem s_entryO {r b : Nat} {n : Int} (h0 : 0 ≤ n) (h1 : n < ms.length) {kv left : List (κ₁ × ν)} {p : κ₁ × ν} (hb : rdL gs n none = some b) (hkv : rdL ms n none = some kv) (h : St w0 (IterAs r b kv left (some p) :: Rows2 E κm (MapO ek en) v gs ms :: Γ) w) (ho : ops[i]? = some o) (hw : Region.wanted o (yl ops t) = true) {m : Operand} (hop : o.op = .entry m)
    (hm : ev t m = .pointer (some ⟨r, 0, none⟩)) (hk : G P f R (.inRegion ops rest :: k) (put t o.dst (.tuple #[ek p.1, en p.2])) w) : G P f R (.inRegion ops (i :: rest) :: k) t w := by
  have h2 := (h.pull 1 rfl).r2focus none none h0 h1
  rw [hb, hkv] at h2
  have h3 : St w0 (IterAs r b kv left (some p) :: MapAs b ek en kv :: Rows2X E κm (MapO ek en) v gs ms n.toNat :: Γ) w := h2.pull 2 rfl
  exact s_entry h3 ho hw hop hm hk
/-- A map, taken out of what is left behind. -/
theorem St.r2pickM (h : St w0 (Rows2 E κm (MapO ek en) v gs ms :: Γ) w) {n : Int} (h0 : 0 ≤ n) (h1 : n < ms.length) {b : Nat} {kv : List (κ₁ × ν)} (hb : rdL gs n none = some b) (hkv : rdL ms n none = some kv) : St w0 (MapAs b ek en kv :: Γ) w := by
  have h2 := h.r2pick none none h0 h1
  rw [hb, hkv] at h2
  exact h2
end
end
end Go.Proofs.YtmnaclghakalmaaX
