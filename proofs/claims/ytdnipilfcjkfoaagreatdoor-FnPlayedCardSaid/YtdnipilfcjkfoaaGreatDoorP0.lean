import GoSem.Core.View
namespace Go.Proofs.YtdnipilfcjkfoaaGreatDoorX
open Go
theorem QsJ {α:Type} {a b:α} (h:some a=some b):a=b:=Option.some.inj h
set_option linter.unusedVariables false
inductive Ex (ρ σ:Type) where
 |ret (r:ρ)
 |go (s:σ)
inductive Bd (ρ σ τ:Type) where
 |next (s:τ)
 |out (x:Ex ρ σ)
def rounds {ρ σ τ:Type} (b:τ→Option (Bd ρ σ τ)):Nat→τ→Option (Ex ρ σ)
 |0,_=>none
 |n+1,s=>match b s with
  |none=>none
  |some (.next s')=>rounds b n s'
  |some (.out x)=>some x
def Ex.fin {ρ σ:Type} (f:σ→Option ρ):Ex ρ σ→Option ρ
 | .ret r=>some r
 | .go s=>f s
def Ex.finB {ρ σ σ' τ':Type} (f:σ→Option (Bd ρ σ' τ')):Ex ρ σ→Option (Bd ρ σ' τ')
 | .ret r=>some (.out (.ret r))
 | .go s=>f s
theorem rounds_zero {ρ σ τ:Type} {b:τ→Option (Bd ρ σ τ)} {s:τ} {o:Ex ρ σ} (h:rounds b 0 s=some o):False:=by cases h
theorem rounds_succ {ρ σ τ:Type} {b:τ→Option (Bd ρ σ τ)} {n:Nat} {s:τ} {o:Ex ρ σ} (h:rounds b (n+1) s=some o):
 ∃ x,b s=some x∧match x with| .next s'=>rounds b n s'=some o| .out e=>e=o:=by
 simp only [rounds] at h
 cases hb:b s with
 |none=>rw [hb] at h;cases h
 |some x=>
  rw [hb] at h
  refine ⟨x,rfl,?_⟩
  cases x with
  |next s'=>exact h
  |out e=>exact QsJ h
theorem rounds_next {ρ σ τ:Type} {b:τ→Option (Bd ρ σ τ)} {n:Nat} {s s':τ} (h:b s=some (.next s')):rounds b (n+1) s=rounds b n s':=by simp [rounds,h]
theorem rounds_out {ρ σ τ:Type} {b:τ→Option (Bd ρ σ τ)} {n:Nat} {s:τ} {e:Ex ρ σ} (h:b s=some (.out e)):rounds b (n+1) s=some e:=by simp [rounds,h]
theorem bind_get {α β:Type} {x:Option α} {f:α→Option β} {r:β} (h:x.bind f=some r):∃ y,x=some y∧f y=some r:=Option.bind_eq_some_iff.1 h
theorem ite_get {α:Type} {c:Prop} [Decidable c] {x:Option α} {r:α} (h:(if c then x else none)=some r):c∧x=some r:=by
 by_cases hc:c
 ·exact ⟨hc,by rwa [if_pos hc] at h⟩
 ·rw [if_neg hc] at h;cases h
def rdL {α:Type} (xs:List α) (i:Int) (z:α):α:=xs.getD i.toNat z
theorem rdL_get {α:Type} {xs:List α} {i:Int} {z:α} (h:i.toNat< xs.length):xs[i.toNat]=rdL xs i z:=by simp [rdL,h]
def stL {α:Type} (xs:List α) (i:Int) (v:α):List α:=xs.set i.toNat v
structure Ar (α:Type) (n:Nat) where
 l:List α
 h:l.length=n
theorem Ar.ext' {α:Type} {n:Nat} {a b:Ar α n} (h:a.l=b.l):a=b:=by cases a;cases b;simp at h;simp [h]
instance {α:Type} {n:Nat} [DecidableEq α]:DecidableEq (Ar α n):=fun a b=>if h:a.l=b.l then .isTrue (Ar.ext' h) else .isFalse fun e=>h (by rw [e])
def Ar.get {α:Type} {n:Nat} (a:Ar α n) (i:Int) (z:α):α:=a.l.getD i.toNat z
def Ar.set {α:Type} {n:Nat} (a:Ar α n) (i:Int) (v:α):Ar α n:=⟨a.l.set i.toNat v,by rw [List.length_set];exact a.h⟩
def Ar.rep {α:Type} (n:Nat) (z:α):Ar α n:=⟨List.replicate n z,by simp⟩
instance {α:Type} {n:Nat} [Inhabited α]:Inhabited (Ar α n):=⟨Ar.rep n default⟩
abbrev i8w (x:Int):Int:=IntKind.i8.wrap x
abbrev i64w (x:Int):Int:=IntKind.i64.wrap x
abbrev u64w (x:Int):Int:=IntKind.u64.wrap x
def bAnd (q:IntKind) (x y:Int):Int:=q.wrap (BitVec.ofInt q.bits x&&&BitVec.ofInt q.bits y).toNat
def bOr (q:IntKind) (x y:Int):Int:=q.wrap (BitVec.ofInt q.bits x|||BitVec.ofInt q.bits y).toNat
def bAndNot (q:IntKind) (x y:Int):Int:=q.wrap (BitVec.ofInt q.bits x&&& ~~~BitVec.ofInt q.bits y).toNat
def shlI (q:IntKind) (x y:Int):Int:=q.wrap (x*2^(min y.toNat q.bits))
def shrI (q:IntKind) (x y:Int):Int:=x.fdiv (2^(min y.toNat q.bits))
theorem b_dec_t {c:Prop} [Decidable c] (h:decide c=true):c:=of_decide_eq_true h
theorem b_dec_f {c:Prop} [Decidable c] (h:decide c=false):¬ c:=of_decide_eq_false h
theorem b_beq_t {α:Type} [BEq α] [LawfulBEq α] {a b:α} (h:(a==b)=true):a=b:=eq_of_beq h
theorem b_beq_f {α:Type} [BEq α] [LawfulBEq α] {a b:α} (h:(a==b)=false):¬ a=b:=fun e=>by subst e;simp at h
theorem b_bne_t {α:Type} [BEq α] [LawfulBEq α] {a b:α} (h:(a !=b)=true):¬ a=b:=by simpa using h
theorem b_bne_f {α:Type} [BEq α] [LawfulBEq α] {a b:α} (h:(a !=b)=false):a=b:=by simpa using h
theorem b_var_t {b:Bool} (h:b=true):b=true:=h
theorem b_var_f {b:Bool} (h:b=false):¬ b=true:=by rw [h];exact Bool.false_ne_true
theorem b_not_t {b:Bool} (h:(!b)=true):¬ b=true:=by cases b<;>simp at h ⊢
theorem b_not_f {b:Bool} (h:(!b)=false):b=true:=by cases b<;>simp at h ⊢
def mxI (a b:Int):Int:=if b>a then b else a
def btS (s:ByteArray) (i:Int):Int:=((s.data.toList.getD i.toNat 0).toNat:Int)
theorem b_ndec_t {c:Prop} [Decidable c] (h:(!decide c)=true):¬ c:=by simpa using h
theorem b_nbeq_t {α:Type} [BEq α] [LawfulBEq α] {a b:α} (h:(!(a==b))=true):¬ a=b:=by simpa using h
theorem b_nbeq_f {α:Type} [BEq α] [LawfulBEq α] {a b:α} (h:(!(a==b))=false):a=b:=by simpa using h
theorem b_ndec_f {c:Prop} [Decidable c] (h:(!decide c)=false):c:=by simpa using h
def bsOf (xs:List Int):ByteArray:=⟨(xs.map fun n=>UInt8.ofNat n.toNat).toArray⟩
def cnd {α:Type} (b:Bool) (x y:α):α:=match b with|true=>x|false=>y
end Go.Proofs.YtdnipilfcjkfoaaGreatDoorX
