import Derived.ChangeShapes
import Derived.WideShapes
import Derived.OpenShut
import Derived.ChangeOld
import Derived.SizedLaws
import Derived.Carry
import Derived.Test.YtdnipilfcjkfoaaGreatDoorP3
namespace Go.Proofs.YtdnipilfcjkfoaaGreatDoorX
open Go Go.RowKit Go.ChangeShapes Go.WideShapes
set_option linter.unusedVariables false
variable {P:Program}
def OpF (P:Program) {α:Type} (t:TypeId) (e:α→List Value) (ok:α→Prop):Prop:=
 ∀ {H:Type} (enc:TypeId×Value→H) (w:World) (base:Nat) (spare:Nat→Bool) (held:Bool) (fuel:Nat) (cs:List Value) (x:DataW H×List MemPlace),
  DataW.trod enc P w base spare held fuel t cs=some x→∃ a,cs=e a∧ok a
theorem opf_int {t:TypeId} {k:IntKind} (ht:P.underlying t=some (.int k)):OpF P t (encI k) (fun n=>k.min≤n∧n≤k.max):=by
 intro H enc w base spare held fuel cs x h
 obtain ⟨n,e,_,hw⟩:=DataW.trod_int ht h
 refine ⟨n,e,?_⟩
 simpa [Lit.wf] using hw
theorem op_row {α:Type} {t u:TypeId} {n:Nat} {e:α→List Value} {hl h1} {ok:α→Prop} {H:Type} {enc:TypeId×Value→H} {w:World} {base:Nat} {spare:Nat→Bool} {held:Bool} {v:Value} {d:DataW H} {ps:List MemPlace}
 (ht:P.underlying t=some (.slice u)) (hu:P.cellsOf u=n) (hn:0< n) (ho:OpF P u e ok) (hv:∃ a l c,v= .slice a l c)
 (h:DataW.Trod enc P w base spare held t v d ps):∃ xs:List α,RdRow (K.fl n e hl h1) w v xs∧xs.length≤maxLen∧∀ x∈xs,ok x:=by
 obtain ⟨a0,l0,c0,rfl⟩:=hv
 obtain ⟨fuel,hf⟩:=h
 rcases DataW.trod_slice ht hf with ⟨hcs,_⟩|⟨a,len,cap,elems,rest,m,_,hcs,_,hb,hlc,hcm,hlen,hel,_,_⟩
 ·simp [Value.cells] at hcs
  obtain ⟨rfl,rfl,rfl⟩:=hcs
  exact ⟨[],⟨none,0,rfl,Nat.le_refl _,fun i hi=>absurd hi (Nat.not_lt_zero _)⟩,Nat.zero_le _,by simp⟩
 ·simp [Value.cells] at hcs
  obtain ⟨rfl,rfl,rfl⟩:=hcs
  have each:∀ i,i< l0→∃ cs y,w.cells? base (a.add (i*n)) n=some cs∧cs=e y∧ok y:=by
   intro i hi
   have q:=hel i hi
   rw [hu,List.getElem?_eq_getElem (by omega:i< elems.length)] at q
   obtain ⟨cs,hcs,htr⟩:=Option.bind_eq_some_iff.1 q
   obtain ⟨y,e1,o1⟩:=ho enc w base spare held _ _ _ htr
   exact ⟨cs,y,hcs,e1,o1⟩
  obtain ⟨xs,hxl,hxs⟩:∃ xs:List α,xs.length=l0∧∀ i (h:i< xs.length),w.cells? base (a.add (i*n)) n=some (e xs[i])∧ok xs[i]:=by
   have mk:∀ k,k≤l0→∃ xs:List α,xs.length=k∧∀ i (h:i< xs.length),w.cells? base (a.add (i*n)) n=some (e xs[i])∧ok xs[i]:=by
    intro k
    induction k with
    |zero=>exact fun _=>⟨[],rfl,fun i h=>absurd h (Nat.not_lt_zero _)⟩
    |succ k ih=>
     intro hk
     obtain ⟨xs,hx,hh⟩:=ih (by omega)
     obtain ⟨cs,y,h1,h2,h3⟩:=each k (by omega)
     refine ⟨xs++[y],by simp [hx],fun i h=>?_⟩
     rw [List.length_append,List.length_singleton] at h
     by_cases hi:i< xs.length
     ·rw [List.getElem_append_left hi];exact hh i hi
     ·have:i=k:=by omega
      subst this
      have:(xs++[y])[i]'(by simp;omega)=y:=by rw [List.getElem_append_right (by omega)];simp [hx]
      rw [this,← h2]
      exact ⟨h1,h3⟩
   exact mk l0 (Nat.le_refl _)
  refine ⟨xs,⟨some a,c0,by rw [hxl],by omega,fun i hi=>⟨a,e xs[i],rfl,?_,?_,rfl⟩⟩,by omega,fun x hx=>?_⟩
  ·have q:=World.cells?_block (hxs i hi).1 hn
   rwa [show (a.add (i*n)).block=a.block by unfold Addr.add;split<;>rfl] at q
  ·intro j u hj
   obtain ⟨_,hl',he'⟩:=World.cells?_some (hxs i hi).1
   have hjl:j< n:=by
    have:=(List.getElem?_eq_some_iff.1 hj).1
    omega
   have q:=he' j hjl
   rw [hj] at q
   rw [← q]
   rw [Addr.add_add]
   rfl
  ·obtain ⟨i,hi,rfl⟩:=List.mem_iff_getElem.1 hx
   exact (hxs i hi).2
variable {P:Program}
end Go.Proofs.YtdnipilfcjkfoaaGreatDoorX
namespace Go.Proofs.YtdnipilfcjkfoaaGreatDoorX
open Go
set_option linter.unusedVariables false
theorem i64w_id {x:Int} (h: -9223372036854775808≤x) (h':x≤9223372036854775807):i64w x=x:=by
 simp [IntKind.wrap,IntKind.bits,IntKind.signed];omega
theorem i8w_id {x:Int} (h: -128≤x) (h':x≤127):i8w x=x:=by
 simp [IntKind.wrap,IntKind.bits,IntKind.signed];omega
theorem u64w_id {x:Int} (h:0≤x) (h':x≤18446744073709551615):u64w x=x:=by
 simp [IntKind.wrap,IntKind.bits,IntKind.signed];omega
theorem i64w_succ {i n:Nat} (h:i< n) (hn:n≤9223372036854775807):i64w ((i:Int)+1)=((i+1:Nat):Int):=by
 rw [i64w_id (by omega) (by omega)];omega
theorem min_u8:IntKind.min .u8=0:=rfl
theorem max_u8:IntKind.max .u8=255:=rfl
theorem rdL_nat {α:Type} {xs:List α} {i:Nat} {z:α} (h:i< xs.length):rdL xs (i:Int) z=xs[i]:=by simp [rdL,h]
theorem stL_nat {α:Type} (xs:List α) (i:Nat) (v:α):stL xs (i:Int) v=xs.set i v:=by simp [stL]
section
variable {ρ σ τ α:Type}
theorem rounds_for {b:τ→Option (Bd ρ σ τ)} {e:Ex ρ σ} (mk:Nat→τ):∀ (n k N:Nat),k≤n→n - k< N→(∀ i,k≤i→i< n→b (mk i)=some (.next (mk (i+1))))→b (mk n)=some (.out e)→rounds b N (mk k)=some e
 |n,k,0,_,h,_,_=>absurd h (Nat.not_lt_zero _)
 |n,k,N+1,hk,hN,hs,he=>by
  by_cases hkn:k=n
  ·subst hkn;exact rounds_out he
  ·rw [rounds_next (hs k (Nat.le_refl _) (by omega))]
   exact rounds_for mk n (k+1) N (by omega) (by omega) (fun i h1 h2=>hs i (by omega) h2) he
def walk {β:Type} (step:β→α→Ex (Ex ρ σ) β) (fin:β→Ex ρ σ):β→List α→Ex ρ σ
 |acc,[]=>fin acc
 |acc,x::xs=>match step acc x with
  | .ret e=>e
  | .go acc'=>walk step fin acc' xs
theorem rounds_walk {β:Type} {b:τ→Option (Bd ρ σ τ)} (mk:β→Int→τ) (a:List α) (step:β→α→Ex (Ex ρ σ) β) (fin:β→Ex ρ σ) (I:Nat→β→Prop)
 (h1:∀ acc (i:Nat) (hi:i< a.length),I i acc→match step acc a[i] with
  | .ret e=>b (mk acc i)=some (.out e)
  | .go acc'=>I (i+1) acc'∧b (mk acc i)=some (.next (mk acc' ((i+1:Nat):Int))))
 (h2:∀ acc,I a.length acc→b (mk acc a.length)=some (.out (fin acc))):
 ∀ (N k:Nat) (acc:β),k≤a.length→a.length - k< N→I k acc→rounds b N (mk acc k)=some (walk step fin acc (a.drop k))
 |0,k,acc,_,h,_=>absurd h (Nat.not_lt_zero _)
 |N+1,k,acc,hk,hN,hI=>by
  by_cases hkn:k=a.length
  ·subst hkn
   rw [rounds_out (h2 acc hI),List.drop_length]
   rfl
  ·have hlt:k< a.length:=by omega
   have q:=h1 acc k hlt hI
   rw [List.drop_eq_getElem_cons hlt]
   simp only [walk]
   revert q
   cases step acc a[k] with
   |ret e=>exact fun q=>rounds_out q
   |go acc'=>
    intro q
    rw [rounds_next q.2]
    exact rounds_walk mk a step fin I h1 h2 N (k+1) acc' (by omega) (by omega) q.1
theorem rounds_walk0 {β:Type} {b:τ→Option (Bd ρ σ τ)} (mk:β→Int→τ) (a:List α) (step:β→α→Ex (Ex ρ σ) β) (fin:β→Ex ρ σ) (I:Nat→β→Prop) {N:Nat} {acc:β}
 (hN:a.length< N) (h0:I 0 acc)
 (h1:∀ acc (i:Nat) (hi:i< a.length),I i acc→match step acc a[i] with
  | .ret e=>b (mk acc i)=some (.out e)
  | .go acc'=>I (i+1) acc'∧b (mk acc i)=some (.next (mk acc' ((i+1:Nat):Int))))
 (h2:∀ acc,I a.length acc→b (mk acc a.length)=some (.out (fin acc))):
 rounds b N (mk acc 0)=some (walk step fin acc a):=by
 have:=rounds_walk mk a step fin I h1 h2 N 0 acc (Nat.zero_le _) (by simpa using hN) h0
 simpa using this
theorem rounds_ends {b:τ→Option (Bd ρ σ τ)} (I:τ→Prop) (m:τ→Nat) (Q:Ex ρ σ→Prop)
 (h:∀ s,I s→(∃ e,b s=some (.out e)∧Q e)∨∃ s',b s=some (.next s')∧I s'∧m s'< m s):∀ (N:Nat) (s:τ),I s→m s< N→∃ e,rounds b N s=some e∧Q e
 |0,s,_,h=>absurd h (Nat.not_lt_zero _)
 |N+1,s,hI,hN=>by
  rcases h s hI with ⟨e,he,hq⟩|⟨s',hs,hI',hm⟩
  ·exact ⟨e,rounds_out he,hq⟩
  ·rw [rounds_next hs]
   exact rounds_ends I m Q h N s' hI' (by omega)
theorem rounds_both {ρ' σ' τ':Type} {b:τ→Option (Bd ρ σ τ)} {b':τ'→Option (Bd ρ' σ' τ')} (R:τ→τ'→Prop) (m:τ→Nat) (Q:Ex ρ σ→Ex ρ' σ'→Prop)
 (h:∀ s t,R s t→(∃ e e',b s=some (.out e)∧b' t=some (.out e')∧Q e e')∨∃ s' t',b s=some (.next s')∧b' t=some (.next t')∧R s' t'∧m s'< m s):
 ∀ (N N':Nat) (s:τ) (t:τ'),R s t→m s< N→m s< N'→∃ e e',rounds b N s=some e∧rounds b' N' t=some e'∧Q e e'
 |0,N',s,_,_,h,_=>absurd h (Nat.not_lt_zero _)
 |N+1,0,s,_,_,_,h=>absurd h (Nat.not_lt_zero _)
 |N+1,N'+1,s,t,hI,hN,hN'=>by
  rcases h s t hI with ⟨e,e',he,he',hq⟩|⟨s',t',hs,ht,hI',hm⟩
  ·exact ⟨e,e',rounds_out he,rounds_out he',hq⟩
  ·rw [rounds_next hs,rounds_next ht]
   exact rounds_both R m Q h N N' s' t' hI' (by omega) (by omega)
theorem rounds_same [DecidableEq α] {b:Int→Option (Bd Bool Unit Int)} (a c:List α) (hl:a.length=c.length) {N:Nat} (hN:a.length< N)
 (hs:∀ (i:Nat) (hi:i< a.length),b (i:Int)=if a[i]=c[i] then some (.next ((i+1:Nat):Int)) else some (.out (.ret false)))
 (he:b (a.length:Int)=some (.out (.go ()))):
 rounds b N 0=some (if a=c then .go () else .ret false):=by
 have main:∀ (N k:Nat),k≤a.length→a.length - k< N→rounds b N (k:Int)=some (if a.drop k=c.drop k then .go () else .ret false):=by
  intro N
  induction N with
  |zero=>intro k _ h;exact absurd h (Nat.not_lt_zero _)
  |succ N ih=>
   intro k hk hN
   by_cases hkn:k=a.length
   ·subst hkn
    rw [rounds_out he,List.drop_length,hl,List.drop_length]
    simp
   ·have h1:k< a.length:=by omega
    have h2:k< c.length:=by omega
    rw [List.drop_eq_getElem_cons h1,List.drop_eq_getElem_cons h2]
    by_cases hq:a[k]=c[k]
    ·rw [rounds_next (by rw [hs k h1,if_pos hq]),ih (k+1) (by omega) (by omega)]
     simp only [hq,List.cons.injEq,true_and]
    ·rw [rounds_out (by rw [hs k h1,if_neg hq])]
     simp only [List.cons.injEq,hq,false_and,if_false]
 simpa using main N 0 (Nat.zero_le _) (by simpa using hN)
end
end Go.Proofs.YtdnipilfcjkfoaaGreatDoorX
