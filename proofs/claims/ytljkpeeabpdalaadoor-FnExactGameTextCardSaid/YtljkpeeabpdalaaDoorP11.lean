import Derived.ChangeShapes
import Derived.WideShapes
import Derived.OpenShut
import Derived.ChangeOld
import Derived.SizedLaws
import Derived.Carry
import Derived.Test.YtljkpeeabpdalaaDoorP3
namespace Go.Proofs.YtljkpeeabpdalaaDoorX
open Go Go.RowKit Go.ChangeShapes Go.WideShapes
set_option linter.unusedVariables false
variable {P:Program}
def OpF (P:Program) {α:Type} (t:TypeId) (e:α→List Value) (ok:α→Prop):Prop:=
 ∀ {H:Type} (enc:TypeId×Value→H) (w:World) (base:Nat) (spare:Nat→Bool) (held:Bool) (fuel:Nat) (cs:List Value) (x:DataW H×List MemPlace),
  DataW.trod enc P w base spare held fuel t cs=some x→∃ a,cs=e a∧ok a
theorem opf_int {t:TypeId} {k:IntKind} (ht:P.underlying t=some (.int k)):OpF P t (encI k) (fun n=>k.min≤n∧n≤k.max):=by
 intro H enc w base spare held fuel cs x h
 obtain ⟨n,e,_,hw⟩:=DataW.trod_int ht h
 refine ⟨n,e,?_⟩
 simpa [Lit.wf] using hw
theorem opf_bool {t:TypeId} (ht:P.underlying t=some .bool):OpF P t encB (fun _=>True):=by
 intro H enc w base spare held fuel cs x h
 obtain ⟨n,e,_⟩:=DataW.trod_bool ht h
 exact ⟨n,e,trivial⟩
theorem op_row {α:Type} {t u:TypeId} {n:Nat} {e:α→List Value} {hl h1} {ok:α→Prop} {H:Type} {enc:TypeId×Value→H} {w:World} {base:Nat} {spare:Nat→Bool} {held:Bool} {v:Value} {d:DataW H} {ps:List MemPlace}
 (ht:P.underlying t=some (.slice u)) (hu:P.cellsOf u=n) (hn:0< n) (ho:OpF P u e ok) (hv:∃ a l c,v= .slice a l c)
 (h:DataW.Trod enc P w base spare held t v d ps):∃ xs:List α,RdRow (K.fl n e hl h1) w v xs∧xs.length≤maxLen∧∀ x∈xs,ok x:=by
 obtain ⟨a0,l0,c0,rfl⟩:=hv
 obtain ⟨fuel,hf⟩:=h
 rcases DataW.trod_slice ht hf with ⟨hcs,_⟩|⟨a,len,cap,elems,rest,m,_,hcs,_,hb,hlc,hcm,hlen,hel,_,_⟩
 ·simp [Value.cells] at hcs
  obtain ⟨rfl,rfl,rfl⟩:=hcs
  exact ⟨[],⟨none,0,rfl,Nat.le_refl _,fun i hi=>absurd hi (Nat.not_lt_zero _)⟩,Nat.zero_le _,by simp⟩
 ·simp [Value.cells] at hcs
  obtain ⟨rfl,rfl,rfl⟩:=hcs
  have each:∀ i,i< l0→∃ cs y,w.cells? base (a.add (i*n)) n=some cs∧cs=e y∧ok y:=by
   intro i hi
   have q:=hel i hi
   rw [hu,List.getElem?_eq_getElem (by omega:i< elems.length)] at q
   obtain ⟨cs,hcs,htr⟩:=Option.bind_eq_some_iff.1 q
   obtain ⟨y,e1,o1⟩:=ho enc w base spare held _ _ _ htr
   exact ⟨cs,y,hcs,e1,o1⟩
  obtain ⟨xs,hxl,hxs⟩:∃ xs:List α,xs.length=l0∧∀ i (h:i< xs.length),w.cells? base (a.add (i*n)) n=some (e xs[i])∧ok xs[i]:=by
   have mk:∀ k,k≤l0→∃ xs:List α,xs.length=k∧∀ i (h:i< xs.length),w.cells? base (a.add (i*n)) n=some (e xs[i])∧ok xs[i]:=by
    intro k
    induction k with
    |zero=>exact fun _=>⟨[],rfl,fun i h=>absurd h (Nat.not_lt_zero _)⟩
    |succ k ih=>
     intro hk
     obtain ⟨xs,hx,hh⟩:=ih (by omega)
     obtain ⟨cs,y,h1,h2,h3⟩:=each k (by omega)
     refine ⟨xs++[y],by simp [hx],fun i h=>?_⟩
     rw [List.length_append,List.length_singleton] at h
     by_cases hi:i< xs.length
     ·rw [List.getElem_append_left hi];exact hh i hi
     ·have:i=k:=by omega
      subst this
      have:(xs++[y])[i]'(by simp;omega)=y:=by rw [List.getElem_append_right (by omega)];simp [hx]
      rw [this,← h2]
      exact ⟨h1,h3⟩
   exact mk l0 (Nat.le_refl _)
  refine ⟨xs,⟨some a,c0,by rw [hxl],by omega,fun i hi=>⟨a,e xs[i],rfl,?_,?_,rfl⟩⟩,by omega,fun x hx=>?_⟩
  ·have q:=World.cells?_block (hxs i hi).1 hn
   rwa [show (a.add (i*n)).block=a.block by unfold Addr.add;split<;>rfl] at q
  ·intro j u hj
   obtain ⟨_,hl',he'⟩:=World.cells?_some (hxs i hi).1
   have hjl:j< n:=by
    have:=(List.getElem?_eq_some_iff.1 hj).1
    omega
   have q:=he' j hjl
   rw [hj] at q
   rw [← q]
   rw [Addr.add_add]
   rfl
  ·obtain ⟨i,hi,rfl⟩:=List.mem_iff_getElem.1 hx
   exact (hxs i hi).2
variable {P:Program}
def Cell1 (P:Program) (w:World) {α:Type} (t:TypeId) (rd:Value→α→Prop):Prop:=
 ∀ {H:Type} (enc:TypeId×Value→H) (base:Nat) (spare:Nat→Bool) (held:Bool) (fuel:Nat) (cs:List Value) (x:DataW H×List MemPlace),
  DataW.trod enc P w base spare held fuel t cs=some x→∃ v a,cs=[v]∧rd v a
theorem cell_int {w:World} {t:TypeId} {k:IntKind} (ht:P.underlying t=some (.int k)):Cell1 P w t (fun v (n:Int)=>v= .int k n∧k.min≤n∧n≤k.max):=by
 intro H enc base spare held fuel cs x h
 obtain ⟨n,e,o⟩:=opf_int ht enc w base spare held fuel cs x h
 exact ⟨_,n,e,rfl,o⟩
theorem cell_row {w:World} {α:Type} {t u:TypeId} {n:Nat} {e:α→List Value} {hl h1} {ok:α→Prop} (ht:P.underlying t=some (.slice u)) (hu:P.cellsOf u=n) (hn:0< n) (ho:OpF P u e ok):
 Cell1 P w t (fun v (xs:List α)=>RdRow (K.fl n e hl h1) w v xs∧xs.length≤maxLen∧∀ x∈xs,ok x):=by
 intro H enc base spare held fuel cs x h
 obtain ⟨v,rfl,hv⟩:∃ v,cs=[v]∧∃ a l c,v= .slice a l c:=by
  rcases DataW.trod_slice ht h with ⟨hcs,_⟩|⟨a,len,cap,elems,rest,m,_,hcs,_⟩
  ·exact ⟨_,hcs,_,_,_,rfl⟩
  ·exact ⟨_,hcs,_,_,_,rfl⟩
 obtain ⟨a,l,c,rfl⟩:=hv
 obtain ⟨xs,q⟩:=op_row (v:= .slice a l c) (hl:=hl) (h1:=h1) (enc:=enc) (base:=base) (spare:=spare) (held:=held) (d:=x.1) (ps:=x.2) ht hu hn ho ⟨_,_,_,rfl⟩ ⟨fuel,h⟩
 exact ⟨_,xs,rfl,q⟩
theorem opf_st2 {α A B:Type} {mk:A→B→α} {e:α→List Value} {c0:A→Value} {c1:B→Value} {ok0:A→Prop} {ok1:B→Prop} {ok:α→Prop} {t t0 t1:TypeId} {f0 f1:Field}
 (he:∀ a b,e (mk a b)=[c0 a,c1 b]) (hok:∀ a b,ok0 a→ok1 b→ok (mk a b)) (ht:P.underlying t=some (.struct #[f0,f1])) (hl:P.cellsOf t=2)
 (e0:f0.type=t0∧f0.offset=0∧P.cellsOf t0=1) (e1:f1.type=t1∧f1.offset=1∧P.cellsOf t1=1) (h0:OpF P t0 (fun a=>[c0 a]) ok0) (h1:OpF P t1 (fun b=>[c1 b]) ok1):OpF P t e ok:=by
 intro H enc w base spare held fuel cs x h
 obtain ⟨xs,n,rfl,_,hlen,hxs,hel⟩:=DataW.trod_struct ht h
 obtain ⟨rfl,o0,m0⟩:=e0
 obtain ⟨rfl,o1,m1⟩:=e1
 rw [hl] at hlen
 have q0:=hel 0 f0 rfl
 have q1:=hel 1 f1 rfl
 rw [o0,m0] at q0
 rw [o1,m1] at q1
 have hs:xs.length=2:=hxs
 match cs,hlen with
 |[x0,x1],_=>
  rw [List.getElem?_eq_getElem (by omega:0< xs.length)] at q0
  rw [List.getElem?_eq_getElem (by omega:1< xs.length)] at q1
  obtain ⟨a,ha,oa⟩:=h0 _ _ _ _ _ _ _ _ q0
  obtain ⟨b,hb,ob⟩:=h1 _ _ _ _ _ _ _ _ q1
  obtain rfl:x0=c0 a:=by simpa using ha
  obtain rfl:x1=c1 b:=by simpa using hb
  exact ⟨mk a b,(he a b).symm,hok a b oa ob⟩
theorem op_st3 {w:World} {A B C:Type} {t t0 t1 t2:TypeId} {f0 f1 f2:Field} {rd0:Value→A→Prop} {rd1:Value→B→Prop} {rd2:Value→C→Prop} {H:Type} {enc:TypeId×Value→H} {base:Nat} {spare:Nat→Bool} {held:Bool} {v:Value} {d:DataW H} {ps:List MemPlace}
 (ht:P.underlying t=some (.struct #[f0,f1,f2])) (hl:P.cellsOf t=3) (e0:f0.type=t0∧f0.offset=0∧P.cellsOf t0=1) (e1:f1.type=t1∧f1.offset=1∧P.cellsOf t1=1) (e2:f2.type=t2∧f2.offset=2∧P.cellsOf t2=1)
 (c0:Cell1 P w t0 rd0) (c1:Cell1 P w t1 rd1) (c2:Cell1 P w t2 rd2) (hv:∃ cs,v= .agg cs) (h:DataW.Trod enc P w base spare held t v d ps):
 ∃ v0 v1 v2 a0 a1 a2,v= .agg #[v0,v1,v2]∧rd0 v0 a0∧rd1 v1 a1∧rd2 v2 a2:=by
 obtain ⟨c,rfl⟩:=hv
 obtain ⟨fuel,hf⟩:=h
 obtain ⟨xs,n,rfl,_,hlen,hxs,hel⟩:=DataW.trod_struct ht hf
 obtain ⟨rfl,o0,m0⟩:=e0
 obtain ⟨rfl,o1,m1⟩:=e1
 obtain ⟨rfl,o2,m2⟩:=e2
 rw [hl] at hlen
 simp only [Value.cells] at hlen hel
 have q0:=hel 0 f0 rfl
 have q1:=hel 1 f1 rfl
 have q2:=hel 2 f2 rfl
 rw [o0,m0] at q0
 rw [o1,m1] at q1
 rw [o2,m2] at q2
 have hs:xs.length=3:=hxs
 match hc:c.toList,hlen with
 |[x0,x1,x2],_=>
  rw [hc] at q0 q1 q2
  rw [List.getElem?_eq_getElem (by omega:0< xs.length)] at q0
  rw [List.getElem?_eq_getElem (by omega:1< xs.length)] at q1
  rw [List.getElem?_eq_getElem (by omega:2< xs.length)] at q2
  obtain ⟨v0,a0,h0,r0⟩:=c0 _ _ _ _ _ _ _ q0
  obtain ⟨v1,a1,h1,r1⟩:=c1 _ _ _ _ _ _ _ q1
  obtain ⟨v2,a2,h2,r2⟩:=c2 _ _ _ _ _ _ _ q2
  obtain rfl:x0=v0:=by simpa using h0
  obtain rfl:x1=v1:=by simpa using h1
  obtain rfl:x2=v2:=by simpa using h2
  exact ⟨x0,x1,x2,a0,a1,a2,by rw [show c=c.toList.toArray by simp,hc],r0,r1,r2⟩
end Go.Proofs.YtljkpeeabpdalaaDoorX
namespace Go.Proofs.YtljkpeeabpdalaaDoorX
open Go
set_option linter.unusedVariables false
theorem i64w_id {x:Int} (h: -9223372036854775808≤x) (h':x≤9223372036854775807):i64w x=x:=by
 simp [IntKind.wrap,IntKind.bits,IntKind.signed];omega
theorem u64w_id {x:Int} (h:0≤x) (h':x≤18446744073709551615):u64w x=x:=by
 simp [IntKind.wrap,IntKind.bits,IntKind.signed];omega
theorem i64w_succ {i n:Nat} (h:i< n) (hn:n≤9223372036854775807):i64w ((i:Int)+1)=((i+1:Nat):Int):=by
 rw [i64w_id (by omega) (by omega)];omega
theorem rdL_nat {α:Type} {xs:List α} {i:Nat} {z:α} (h:i< xs.length):rdL xs (i:Int) z=xs[i]:=by simp [rdL,h]
theorem stL_nat {α:Type} (xs:List α) (i:Nat) (v:α):stL xs (i:Int) v=xs.set i v:=by simp [stL]
section
variable {ρ σ τ α:Type}
theorem rounds_for {b:τ→Option (Bd ρ σ τ)} {e:Ex ρ σ} (mk:Nat→τ):∀ (n k N:Nat),k≤n→n - k< N→(∀ i,k≤i→i< n→b (mk i)=some (.next (mk (i+1))))→b (mk n)=some (.out e)→rounds b N (mk k)=some e
 |n,k,0,_,h,_,_=>absurd h (Nat.not_lt_zero _)
 |n,k,N+1,hk,hN,hs,he=>by
  by_cases hkn:k=n
  ·subst hkn;exact rounds_out he
  ·rw [rounds_next (hs k (Nat.le_refl _) (by omega))]
   exact rounds_for mk n (k+1) N (by omega) (by omega) (fun i h1 h2=>hs i (by omega) h2) he
theorem rounds_ends {b:τ→Option (Bd ρ σ τ)} (I:τ→Prop) (m:τ→Nat) (Q:Ex ρ σ→Prop)
 (h:∀ s,I s→(∃ e,b s=some (.out e)∧Q e)∨∃ s',b s=some (.next s')∧I s'∧m s'< m s):∀ (N:Nat) (s:τ),I s→m s< N→∃ e,rounds b N s=some e∧Q e
 |0,s,_,h=>absurd h (Nat.not_lt_zero _)
 |N+1,s,hI,hN=>by
  rcases h s hI with ⟨e,he,hq⟩|⟨s',hs,hI',hm⟩
  ·exact ⟨e,rounds_out he,hq⟩
  ·rw [rounds_next hs]
   exact rounds_ends I m Q h N s' hI' (by omega)
theorem copy_len (a:List α) (z:α) (k:Nat) (h:k≤a.length):(a.take k++List.replicate (a.length - k) z).length=a.length:=by simp;omega
theorem copy_set (a:List α) (z:α) (k:Nat) (h:k< a.length):(a.take k++List.replicate (a.length - k) z).set k a[k]=a.take (k+1)++List.replicate (a.length - (k+1)) z:=by
 apply List.ext_getElem?
 intro i
 by_cases h1:i=k
 ·subst h1
  rw [List.getElem?_set_self (by simp;omega),List.getElem?_append_left (by simp;omega),List.getElem?_take]
  simp [h]
 ·rw [List.getElem?_set_ne (by omega)]
  by_cases h2:i< k
  ·rw [List.getElem?_append_left (by simp;omega),List.getElem?_append_left (by simp;omega),List.getElem?_take,List.getElem?_take]
   simp [h2,show i< k+1 by omega]
  ·rw [List.getElem?_append_right (by simp;omega),List.getElem?_append_right (by simp;omega)]
   simp only [List.length_take,List.getElem?_replicate]
   rw [Nat.min_eq_left (by omega),Nat.min_eq_left (by omega)]
   by_cases h3:i< a.length
   ·simp [show i - k< a.length - k by omega,show i - (k+1)< a.length - (k+1) by omega]
   ·simp [show ¬ i - k< a.length - k by omega,show ¬ i - (k+1)< a.length - (k+1) by omega]
theorem rounds_copy {b:List α×Int→Option (Bd ρ (List α) (List α×Int))} (a:List α) (z:α) {N:Nat} (hN:a.length< N)
 (hs:∀ (x:List α) (i:Nat) (hi:i< a.length),x.length=a.length→b (x,(i:Int))=some (.next (x.set i a[i],((i+1:Nat):Int))))
 (he:∀ x,x.length=a.length→b (x,(a.length:Int))=some (.out (.go x))):
 rounds b N (List.replicate a.length z,0)=some (.go a):=by
 have q:=rounds_for (b:=b) (e:= .go a) (fun k=>(a.take k++List.replicate (a.length - k) z,(k:Int))) a.length 0 N (Nat.zero_le _) (by simpa using hN)
  (fun i _ hi=>by
   rw [hs _ i hi (copy_len a z i (by omega)),copy_set a z i hi])
  (by
   rw [he _ (copy_len a z _ (Nat.le_refl _))]
   simp)
 simpa using q
theorem rounds_same [DecidableEq α] {b:Int→Option (Bd Bool Unit Int)} (a c:List α) (hl:a.length=c.length) {N:Nat} (hN:a.length< N)
 (hs:∀ (i:Nat) (hi:i< a.length),b (i:Int)=if a[i]=c[i] then some (.next ((i+1:Nat):Int)) else some (.out (.ret false)))
 (he:b (a.length:Int)=some (.out (.go ()))):
 rounds b N 0=some (if a=c then .go () else .ret false):=by
 have main:∀ (N k:Nat),k≤a.length→a.length - k< N→rounds b N (k:Int)=some (if a.drop k=c.drop k then .go () else .ret false):=by
  intro N
  induction N with
  |zero=>intro k _ h;exact absurd h (Nat.not_lt_zero _)
  |succ N ih=>
   intro k hk hN
   by_cases hkn:k=a.length
   ·subst hkn
    rw [rounds_out he,List.drop_length,hl,List.drop_length]
    simp
   ·have h1:k< a.length:=by omega
    have h2:k< c.length:=by omega
    rw [List.drop_eq_getElem_cons h1,List.drop_eq_getElem_cons h2]
    by_cases hq:a[k]=c[k]
    ·rw [rounds_next (by rw [hs k h1,if_pos hq]),ih (k+1) (by omega) (by omega)]
     simp only [hq,List.cons.injEq,true_and]
    ·rw [rounds_out (by rw [hs k h1,if_neg hq])]
     simp only [List.cons.injEq,hq,false_and,if_false]
 simpa using main N 0 (Nat.zero_le _) (by simpa using hN)
end
end Go.Proofs.YtljkpeeabpdalaaDoorX
