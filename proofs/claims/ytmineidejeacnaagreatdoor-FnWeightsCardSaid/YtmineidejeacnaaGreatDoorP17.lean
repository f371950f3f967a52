import Derived.Test.YtmineidejeacnaaGreatDoorP16
namespace Go.Proofs.YtmineidejeacnaaGreatDoorX
open Go
set_option linter.unusedVariables false
set_option linter.unusedSimpArgs false
abbrev Tb:=Nat→Nat→Option Nat
def om:Option Nat→Option Nat→Option Nat
 |none,y=>y
 |some a,none=>some a
 |some a,some b=>some (min a b)
theorem om_none (x:Option Nat):om x none=x:=by cases x<;>rfl
theorem om_assoc (x y z:Option Nat):om (om x y) z=om x (om y z):=by
 cases x<;>cases y<;>cases z<;>simp [om,Nat.min_assoc]
theorem om_comm (x y:Option Nat):om x y=om y x:=by
 cases x<;>cases y<;>simp [om,Nat.min_comm]
def Om (don:Nat→Bool) (c:Nat→Option Nat):Nat→Option Nat
 |0=>none
 |m+1=>om (Om don c m) (if don m=true then c m else none)
def tt:Nat→Bool:=fun _=>true
theorem Om_step {c:Nat→Option Nat} (m:Nat):Om tt c (m+1)=om (Om tt c m) (c m):=by simp [Om,tt]
theorem Om_congr {don:Nat→Bool} {c d:Nat→Option Nat}:∀ {m:Nat},(∀ i,i< m→c i=d i)→Om don c m=Om don d m
 |0,_=>rfl
 |m+1,h=>by rw [Om,Om,Om_congr fun i hi=>h i (by omega),h m (by omega)]
theorem Om_nil {don:Nat→Bool} {c:Nat→Option Nat}:∀ {m:Nat},(∀ i,i< m→c i=none)→Om don c m=none
 |0,_=>rfl
 |m+1,h=>by rw [Om,Om_nil fun i hi=>h i (by omega),h m (by omega)];simp [om]
def vi:Option Nat→Int
 |none=> -1
 |some v=>(v:Int)
theorem rdL_stL {α:Type} {L:List α} {i j:Nat} {v z:α}:rdL (stL L (i:Int) v) (j:Int) z=if i=j∧i< L.length then v else rdL L (j:Int) z:=by
 simp only [rdL,stL,Int.toNat_natCast,List.getD,List.getElem?_set]
 by_cases e:i=j
 ·subst e
  by_cases c:i< L.length
  ·simp [c]
  ·simp [c]
 ·simp [e]
theorem len_stL {α:Type} {L:List α} {i:Int} {v:α}:(stL L i v).length=L.length:=by simp [stL]
structure RepT (n T:Nat) (L:List (List Int)) (F:Tb):Prop where
 len:L.length=T+1
 row:∀ t:Nat,t≤T→(rdL L (t:Int) []).length=n
 val:∀ t:Nat,t≤T→∀ k:Nat,k< n→rdL (rdL L (t:Int) []) (k:Int) 0=vi (F t k)
theorem RepT.set {n T:Nat} {L:List (List Int)} {F F':Tb} (r:RepT n T L F) {t k:Nat} (ht:t≤T) (hk:k< n) {x:Int} {o:Option Nat} (hx:x=vi o) (hF:∀ t2 k2,F' t2 k2=if t2=t∧k2=k then o else F t2 k2):
 RepT n T (stL L (t:Int) (stL (rdL L (t:Int) []) (k:Int) x)) F':=by
 have hl:=r.len
 refine ⟨by rw [len_stL];exact hl,fun t2 h2=>?_,fun t2 h2 k2 g2=>?_⟩
 ·rw [rdL_stL]
  by_cases e:t=t2
  ·rw [if_pos ⟨e,by omega⟩,len_stL];exact r.row t ht
  ·rw [if_neg (fun g=>e g.1)];exact r.row t2 h2
 ·rw [rdL_stL,hF]
  by_cases e:t=t2
  ·subst e
   rw [if_pos ⟨rfl,by omega⟩,rdL_stL,r.row t ht]
   by_cases e2:k=k2
   ·subst e2
    rw [if_pos ⟨rfl,hk⟩,if_pos ⟨rfl,rfl⟩,hx]
   ·rw [if_neg (fun g=>e2 g.1),if_neg (fun g=>e2 g.2.symm)]
    exact r.val t ht k2 g2
  ·rw [if_neg (fun g=>e g.1),if_neg (fun g=>e g.1.symm)]
   exact r.val t2 h2 k2 g2
variable {κ ν:Type} [DecidableEq κ]
theorem mIdx_key {kv:List (κ×ν)} {k:κ} {i:Nat} (h:mIdx kv k=some i):∃ hi:i< kv.length,kv[i].1=k:=by
 obtain ⟨hi,he,_⟩:=List.findIdx?_eq_some_iff_getElem.1 h
 exact ⟨hi,(of_decide_eq_true he).symm⟩
theorem mIdx_no {kv:List (κ×ν)} {k:κ} (h:mIdx kv k=none):∀ p∈kv,k≠p.1:=by
 intro p hp e
 have:=List.findIdx?_eq_none_iff.1 h p hp
 simp [e] at this
theorem mSet_keys (kv:List (κ×ν)) (k:κ) (v:ν):((mSet kv k v).map (·.1)=kv.map (·.1))∨((mSet kv k v).map (·.1)=kv.map (·.1)++[k]∧k∉kv.map (·.1)):=by
 unfold mSet
 cases h:mIdx kv k with
 |some i=>
  left
  obtain ⟨hi,he⟩:=mIdx_key h
  simp only [List.map_set]
  rw [← he]
  refine List.ext_getElem (by simp) fun j h1 h2=>?_
  by_cases c:i=j
  ·subst c;simp
  ·simp [List.getElem_set,c]
 |none=>
  right
  refine ⟨by simp,fun hm=>?_⟩
  obtain ⟨p,hp,he⟩:=List.mem_map.1 hm
  exact mIdx_no h p hp he.symm
theorem mSet_nodup {kv:List (κ×ν)} (h:(kv.map (·.1)).Nodup) (k:κ) (v:ν):((mSet kv k v).map (·.1)).Nodup:=by
 rcases mSet_keys kv k v with e|⟨e,hn⟩
 ·rw [e];exact h
 ·rw [e,List.nodup_append]
  refine ⟨h,by simp,fun a ha b hb q=>?_⟩
  rw [List.mem_singleton] at hb
  subst hb q
  exact hn ha
theorem mSet_len (kv:List (κ×ν)) (k:κ) (v:ν):(mSet kv k v).length≤kv.length+1:=by
 unfold mSet
 cases mIdx kv k<;>simp
theorem mSet_in {kv:List (κ×ν)} {k:κ} {v:ν} {x:κ} (h:x∈(mSet kv k v).map (·.1)):x∈kv.map (·.1)∨x=k:=by
 rcases mSet_keys kv k v with e|⟨e,_⟩
 ·rw [e] at h;exact .inl h
 ·rw [e,List.mem_append,List.mem_singleton] at h;exact h
theorem mGet_at {kv:List (κ×ν)} (hn:(kv.map (·.1)).Nodup) {p:κ×ν} (hp:p∈kv) (z:ν):mGet kv p.1 z=p.2:=by
 unfold mGet
 cases h:mIdx kv p.1 with
 |none=>exact absurd rfl (mIdx_no h p hp)
 |some i=>
  obtain ⟨hi,he⟩:=mIdx_key h
  obtain ⟨j,hj,rfl⟩:=List.mem_iff_getElem.1 hp
  have:i=j:=by
   have:=(List.nodup_iff_pairwise_ne.1 hn)
   have h1:=List.getElem?_eq_getElem (l:=kv.map (·.1)) (i:=i) (by simpa using hi)
   by_cases c:i=j
   ·exact c
   ·exfalso
    have hh:=List.pairwise_iff_getElem.1 this
    rcases Nat.lt_or_gt_of_ne c with c|c
    ·exact hh i j (by simpa using hi) (by simpa using hj) c (by simpa using he)
    ·exact hh j i (by simpa using hj) (by simpa using hi) c (by simpa using he.symm)
  subst this
  simp [List.getElem?_eq_getElem hi]
theorem mGet_no {kv:List (κ×ν)} {k:κ} (h:k∉kv.map (·.1)) (z:ν):mGet kv k z=z:=by
 unfold mGet
 cases e:mIdx kv k with
 |none=>rfl
 |some i=>
  obtain ⟨hi,he⟩:=mIdx_key e
  exact absurd (List.mem_map.2 ⟨kv[i],List.getElem_mem hi,he⟩) h
theorem mGet_set {kv:List (κ×ν)} (hn:(kv.map (·.1)).Nodup) (k:κ) (v:ν) (b:κ) (z:ν):mGet (mSet kv k v) b z=if b=k then v else mGet kv b z:=by
 have hn2:=mSet_nodup hn k v
 by_cases c:b=k
 ·subst c
  rw [if_pos rfl]
  have:(b,v)∈mSet kv b v:=by
   unfold mSet
   cases h:mIdx kv b with
   |some i=>obtain ⟨hi,_⟩:=mIdx_key h;exact List.mem_iff_getElem.2 ⟨i,by simpa using hi,by simp⟩
   |none=>simp
  exact mGet_at hn2 this z
 ·rw [if_neg c]
  by_cases hb:b∈kv.map (·.1)
  ·obtain ⟨p,hp,rfl⟩:=List.mem_map.1 hb
   have:p∈mSet kv k v:=by
    unfold mSet
    cases h:mIdx kv k with
    |some i=>
     obtain ⟨hi,he⟩:=mIdx_key h
     obtain ⟨j,hj,rfl⟩:=List.mem_iff_getElem.1 hp
     refine List.mem_iff_getElem.2 ⟨j,by simpa using hj,?_⟩
     have:¬ i=j:=fun e=>c (by subst e;exact he)
     simp [List.getElem_set,this]
    |none=>exact List.mem_append_left _ hp
   rw [mGet_at hn2 this,mGet_at hn hp]
  ·rw [mGet_no hb,mGet_no fun h=>(mSet_in h).elim hb c]
theorem mem_get {kv:List (κ×ν)} {k:κ} (h:k∈kv.map (·.1)) (hn:(kv.map (·.1)).Nodup) (z:ν):(k,mGet kv k z)∈kv:=by
 obtain ⟨p,hp,rfl⟩:=List.mem_map.1 h
 rw [mGet_at hn hp]
 exact hp
theorem mSet_has (kv:List (κ×ν)) (k:κ) (v:ν):k∈(mSet kv k v).map (·.1):=by
 unfold mSet
 cases h:mIdx kv k with
 |some i=>
  obtain ⟨hi,he⟩:=mIdx_key h
  exact List.mem_map.2 ⟨(k,v),List.mem_iff_getElem.2 ⟨i,by simpa using hi,by simp⟩,rfl⟩
 |none=>simp
theorem mSet_keep {kv:List (κ×ν)} {k:κ} {v:ν} {x:κ} (h:x∈kv.map (·.1)):x∈(mSet kv k v).map (·.1):=by
 rcases mSet_keys kv k v with e|⟨e,_⟩
 ·rw [e];exact h
 ·rw [e];exact List.mem_append_left _ h
theorem mIdx_in {kv:List (κ×ν)} {k:κ}:(mIdx kv k).isSome=true↔k∈kv.map (·.1):=by
 cases h:mIdx kv k with
 |some i=>
  obtain ⟨hi,he⟩:=mIdx_key h
  exact ⟨fun _=>List.mem_map.2 ⟨kv[i],List.getElem_mem hi,he⟩,fun _=>rfl⟩
 |none=>
  refine ⟨fun g=>(by cases g),fun g=>?_⟩
  obtain ⟨p,hp,e⟩:=List.mem_map.1 g
  exact absurd e.symm (mIdx_no h p hp)
theorem nat_few:∀ (n:Nat) (l:List Nat),l.Nodup→(∀ x∈l,x< n)→l.length≤n
 |0,l,_,h=>by
  cases l with
  |nil=>simp
  |cons x l=>exact absurd (h x List.mem_cons_self) (Nat.not_lt_zero _)
 |n+1,l,hd,h=>by
  have h1:=nat_few n (l.erase n) (hd.erase n) (fun x hx=>by
   have h2:=(hd.mem_erase_iff).1 hx
   have h3:=h x h2.2
   have h4:x≠n:=h2.1
   omega)
  have h2:=List.length_erase (a:=n) (l:=l)
  split at h2<;>omega
open Classical in
theorem rounds_all {ρ:Type} {b:Int→Option (Bd ρ Unit Int)} {p:Nat→Prop} {n:Nat} {r:ρ} (hs:∀ i:Nat,i< n→b (i:Int)=if p i then some (.next ((i+1:Nat):Int)) else some (.out (.ret r))) (he:b (n:Int)=some (.out (.go ()))) {N:Nat} (hN:n< N):
 rounds b N 0=some (if ∀ i,i< n→p i then .go () else .ret r):=by
 have main:∀ (m k:Nat),k≤n→n - k< m→rounds b m (k:Int)=some (if ∀ i,k≤i→i< n→p i then .go () else .ret r):=by
  intro m
  induction m with
  |zero=>intro k _ h;exact absurd h (Nat.not_lt_zero _)
  |succ m ih=>
   intro k hk hm
   by_cases hl:k< n
   ·by_cases hp:p k
    ·rw [rounds_next ((hs k hl).trans (if_pos hp)),ih (k+1) (by omega) (by omega)]
     have:(∀ i,k+1≤i→i< n→p i)↔(∀ i,k≤i→i< n→p i):=⟨fun h i h1 h2=>by
      by_cases e:i=k
      ·subst e;exact hp
      ·exact h i (by omega) h2,fun h i h1 h2=>h i (by omega) h2⟩
     simp only [this]
    ·rw [rounds_out ((hs k hl).trans (if_neg hp)),if_neg (fun h=>hp (h k (Nat.le_refl _) hl))]
   ·obtain rfl:k=n:=by omega
    rw [rounds_out he,if_pos (fun i h1 h2=>absurd h2 (by omega))]
 have:=main N 0 (Nat.zero_le _) (by omega)
 simpa using this
open Classical in
theorem rounds_dn {ρ:Type} {b:Int→Option (Bd ρ Unit Int)} {p:Nat→Prop} {r:ρ} {M:Nat} (hs:∀ i:Nat,0< i→i≤M→b (i:Int)=if p i then some (.next ((i - 1:Nat):Int)) else some (.out (.ret r))) (he:b 0=some (.out (.go ()))):
 ∀ (n N:Nat),n≤M→n< N→rounds b N (n:Int)=some (if ∀ i,0< i→i≤n→p i then .go () else .ret r):=by
 intro n
 induction n with
 |zero=>
  intro N _ hN
  obtain ⟨N,rfl⟩:∃ K,N=K+1:=⟨N - 1,by omega⟩
  rw [if_pos (fun i h1 h2=>absurd h2 (by omega))]
  exact rounds_out he
 |succ n ih=>
  intro N hM hN
  obtain ⟨N,rfl⟩:∃ K,N=K+1:=⟨N - 1,by omega⟩
  have h:=hs (n+1) (by omega) hM
  by_cases hp:p (n+1)
  ·rw [rounds_next (h.trans (if_pos hp)),show n+1 - 1=n by omega,ih N (by omega) (by omega)]
   have:(∀ i,0< i→i≤n→p i)↔(∀ i,0< i→i≤n+1→p i):=⟨fun h i h1 h2=>by
    by_cases e:i=n+1
    ·subst e;exact hp
    ·exact h i h1 (by omega),fun h i h1 h2=>h i h1 (by omega)⟩
   simp only [this]
  ·rw [rounds_out (h.trans (if_neg hp)),if_neg (fun h=>hp (h _ (by omega) (Nat.le_refl _)))]
theorem getD_in {a:List Int} {i:Nat} (h:i< a.length):a.getD i 0=a[i]:=by simp [List.getD,h]
def upP (a:List Int):Prop:=∀ i,0< i→i≤a.length - 1→¬ a.getD i 0< a.getD (i - 1) 0
def allP (a:List Int):Prop:=∀ i,i< a.length→¬ a.getD i 0< 1∧(0< i→¬ a.getD i 0< a.getD (i - 1) 0)
theorem allP_iff {a:List Int} (h:1≤a.length):allP a↔upP a∧a.getD 0 0≥1:=by
 constructor
 ·intro g
  exact ⟨fun i h1 h2=>(g i (by omega)).2 h1,by have:=(g 0 (by omega)).1;omega⟩
 ·rintro ⟨g,g0⟩ i
  induction i with
  |zero=>intro _;exact ⟨by omega,fun h=>absurd h (by omega)⟩
  |succ i ih=>
   intro hi
   have h1:=(ih (by omega)).1
   have h2:=g (i+1) (by omega) (by omega)
   rw [show i+1 - 1=i by omega] at h2 ⊢
   exact ⟨by omega,fun _=>h2⟩
theorem pred_w {i:Nat} (h:0< i) (h':i≤1000):i64w ((i:Int) - 1)=((i - 1:Nat):Int):=by rw [i64w_id (by omega) (by omega)];omega
open Classical in
theorem rounds_all2 {ρ:Type} {b:Int→Option (Bd ρ Unit Int)} {p:Nat→Prop} {n:Nat} {r:ρ} (hs:∀ i:Nat,i< n→b (i:Int)=if p i then some (.next ((i+1:Nat):Int)) else some (.out (.ret r))) (he:b (n:Int)=some (.out (.go ()))) {N:Nat} (hN:n< N):
 ∃ e,rounds b N 0=some e∧((∀ i,i< n→p i)→e= .go ())∧((¬ ∀ i,i< n→p i)→e= .ret r):=by
 have q:=rounds_all hs he hN
 by_cases c:∀ i,i< n→p i
 ·exact ⟨.go (),by rw [q,if_pos c],fun _=>rfl,fun h=>absurd c h⟩
 ·exact ⟨.ret r,by rw [q,if_neg c],fun h=>absurd h c,fun _=>rfl⟩
open Classical in
theorem rounds_dn2 {ρ:Type} {b:Int→Option (Bd ρ Unit Int)} {p:Nat→Prop} {r:ρ} {M:Nat} (hs:∀ i:Nat,0< i→i≤M→b (i:Int)=if p i then some (.next ((i - 1:Nat):Int)) else some (.out (.ret r))) (he:b 0=some (.out (.go ()))) {N:Nat} (hN:M< N):
 ∃ e,rounds b N (M:Int)=some e∧((∀ i,0< i→i≤M→p i)→e= .go ())∧((¬ ∀ i,0< i→i≤M→p i)→e= .ret r):=by
 have q:=rounds_dn hs he M N (Nat.le_refl _) hN
 by_cases c:∀ i,0< i→i≤M→p i
 ·exact ⟨.go (),by rw [q,if_pos c],fun _=>rfl,fun h=>absurd c h⟩
 ·exact ⟨.ret r,by rw [q,if_neg c],fun h=>absurd h c,fun _=>rfl⟩
open Classical in
theorem Qb7 {N:Nat} {a:List Int} (h:a.length≤16) (hN:a.length< N):rounds (fun s=>QaU.b0 N a s) N 0=some (if allP a then .go () else .ret false):=by
 have main:∃ e,rounds (fun s=>QaU.b0 N a s) N 0=some e∧(allP a→e= .go ())∧(¬ allP a→e= .ret false):=by
  refine rounds_all2 (p:=fun i=>¬ a.getD i 0< 1∧(0< i→¬ a.getD i 0< a.getD (i - 1) 0)) (n:=a.length) ?_ ?_ hN
  ·intro i hi
   have g1:(i:Int)< a.length:=by omega
   have g2:(0:Int)≤i:=by omega
   show QaU.b0 N a (i:Int)=_
   unfold QaU.b0 QaU.j2
   rw [if_pos g1,if_pos ⟨g2,g1⟩,i64w_succ hi (by omega),rdL_nat hi]
   by_cases c1:a[i]< 1
   ·rw [if_pos c1,if_neg (fun g=>g.1 (by rw [getD_in hi];exact c1))]
   ·rw [if_neg c1]
    by_cases c2:0< i
    ·have hp:i - 1< a.length:=by omega
     rw [if_pos (by omega),if_pos ⟨g2,g1⟩,pred_w c2 (by omega),if_pos ⟨by omega,by omega⟩,rdL_nat hp]
     by_cases c3:a[i]< a[i - 1]
     ·rw [if_pos c3,if_neg (fun g=>g.2 c2 (by rw [getD_in hi,getD_in hp];exact c3))]
     ·rw [if_neg c3,if_pos ⟨by rw [getD_in hi];exact c1,fun _=>by rw [getD_in hi,getD_in hp];exact c3⟩]
    ·rw [if_neg (by omega),if_pos ⟨by rw [getD_in hi];exact c1,fun g=>absurd g c2⟩]
  ·show QaU.b0 N a (a.length:Int)=_
   unfold QaU.b0
   rw [if_neg (by omega)]
 obtain ⟨e,he,g1,g2⟩:=main
 rw [he]
 by_cases c:allP a
 ·rw [if_pos c,g1 c]
 ·rw [if_neg c,g2 c]
open Classical in
theorem sorted_eq {N:Nat} {a:List Int} (h1:1≤a.length) (h:a.length≤16) (hN:a.length< N):Qao.f N a=some (decide (upP a)):=by
 have hl:i64w ((a.length:Int) - 1)=((a.length - 1:Nat):Int):=pred_w (by omega) (by omega)
 obtain ⟨e,q,z1,z2⟩:=rounds_dn2 (N:=N) (b:=fun s=>Qao.b0 N a s) (p:=fun i=>¬ a.getD i 0< a.getD (i - 1) 0) (r:=false) (M:=a.length - 1) (by
  intro i h0 hM
  have hi:i< a.length:=by omega
  have hp:i - 1< a.length:=by omega
  show Qao.b0 N a (i:Int)=_
  unfold Qao.b0 cmp_Less_int16.f cmp_isNaN_int16.f
  rw [if_pos (by omega),if_pos ⟨by omega,by omega⟩,pred_w h0 (by omega),if_pos ⟨by omega,by omega⟩,rdL_nat hi,rdL_nat hp]
  simp only [Option.bind_some,bne_self_eq_false,Bool.false_eq_true,if_false,decide_eq_true_eq]
  by_cases c:a[i]< a[i - 1]
  ·rw [if_pos c,if_neg (fun g=>g (by rw [getD_in hi,getD_in hp];exact c))]
  ·rw [if_neg c,if_pos (by rw [getD_in hi,getD_in hp];exact c)]) (by
  show Qao.b0 N a 0=_
  unfold Qao.b0
  rw [if_neg (by omega)]) (by omega)
 unfold Qao.f
 rw [hl,q]
 by_cases c:upP a
 ·rw [z1 c,decide_eq_true c];rfl
 ·rw [z2 c,decide_eq_false c];rfl
abbrev suS (acc x:Int):Ex (Ex Int Int) Int:= .go (i64w (acc+i64w x))
abbrev suF (acc:Int):Ex Int Int:= .go acc
theorem su_walk:∀ (a:List Int) (acc:Int),∃ s,walk suS suF acc a= .go s
 |[],acc=>⟨acc,rfl⟩
 |x::a,acc=>by simp only [walk];exact su_walk a _
theorem sum_some {N:Nat} {a:List Int} (h:a.length≤16) (hN:a.length< N):∃ s,QaS.f N a=some s:=by
 have q:rounds (fun s=>QaS.b0 N a s.1 s.2) N (0,0)=some (walk suS suF 0 a):=by
  refine rounds_walk0 (fun acc i=>(acc,i)) a suS suF (fun _ _=>True) hN trivial ?_ ?_
  ·intro acc i hi _
   refine ⟨trivial,?_⟩
   simp only [QaS.b0]
   rw [if_pos (by omega),if_pos ⟨by omega,by omega⟩,rdL_nat hi,i64w_succ hi (by omega)]
  ·intro acc _
   simp only [QaS.b0]
   rw [if_neg (by omega)]
 obtain ⟨s,hs⟩:=su_walk a 0
 unfold QaS.f
 rw [q,hs]
 exact ⟨s,rfl⟩
theorem sum_same (N:Nat) (a:List Int):QaF.f N a=QaS.f N a:=rfl
theorem valid_same {N:Nat} {a:List Int} (hN:a.length< N):∃ b,QaU.f N a=some b∧QaE.f N a=some b∧(b=true→1≤a.length∧a.length≤16∧allP a):=by
 classical
 simp only [QaU.f,Qbg.f,QaE.f,Qbl.f,Qa5.f,Option.bind_some]
 by_cases h1:1≤a.length
 ·rw [if_pos (by omega),if_pos (by omega)]
  simp only [Option.bind_some,decide_eq_true_eq]
  by_cases h16:a.length≤16
  ·rw [if_pos (by omega),if_pos (by omega),Qb7 h16 hN,sorted_eq h1 h16 hN]
   simp only [Option.bind_some,decide_eq_true_eq]
   have e0:rdL a 0 0=a.getD 0 0:=rfl
   obtain ⟨s,hs⟩:=sum_some h16 hN
   by_cases c:allP a
   ·have:=(allP_iff h1).1 c
    rw [if_pos c,if_pos this.1,e0,if_pos this.2]
    simp only [Option.bind_some,Ex.fin,QaU.a0,sum_same,hs]
    exact ⟨_,rfl,rfl,fun _=>⟨h1,h16,c⟩⟩
   ·rw [if_neg c]
    refine ⟨false,rfl,?_,fun h=>by cases h⟩
    by_cases c1:upP a
    ·rw [if_pos c1,e0,if_neg (fun g=>c ((allP_iff h1).2 ⟨c1,g⟩))]
    ·rw [if_neg c1]
  ·rw [if_neg (by omega),if_neg (by omega)]
   exact ⟨false,rfl,rfl,fun h=>by cases h⟩
 ·rw [if_neg (by omega),if_neg (by omega)]
  exact ⟨false,rfl,rfl,fun h=>by cases h⟩
theorem Om_at {c:Nat→Option Nat}:∀ {m v:Nat},Om tt c m=some v→∃ t,t< m∧c t=some v
 |0,_,h=>by cases h
 |m+1,v,h=>by
  rw [Om_step] at h
  cases e1:Om tt c m with
  |none=>
   rw [e1] at h
   exact ⟨m,by omega,h⟩
  |some u=>
   rw [e1] at h
   cases e2:c m with
   |none=>
    rw [e2,om_none] at h
    obtain ⟨t,ht,hc⟩:=Om_at (e1.trans h)
    exact ⟨t,by omega,hc⟩
   |some w=>
    rw [e2] at h
    have h':min u w=v:=QsJ h
    by_cases g:u≤w
    ·rw [Nat.min_eq_left g] at h'
     subst h'
     obtain ⟨t,ht,hc⟩:=Om_at e1
     exact ⟨t,by omega,hc⟩
    ·rw [Nat.min_eq_right (by omega)] at h'
     subst h'
     exact ⟨m,by omega,e2⟩
theorem Om_one {c d:Nat→Option Nat} {j:Nat} (hj:c j=none) (h:∀ t,¬ t=j→d t=c t):∀ m,Om tt d m=om (Om tt c m) (if j< m then d j else none)
 |0=>by simp [Om,om]
 |m+1=>by
  rw [Om_step,Om_step,Om_one hj h m]
  by_cases e:m=j
  ·subst e
   rw [if_neg (Nat.lt_irrefl _),if_pos (Nat.lt_succ_self _),hj,om_none]
  ·rw [h m e]
   by_cases c1:j< m
   ·rw [if_pos c1,if_pos (show j< m+1 by omega),om_assoc,om_assoc,om_comm (d j)]
   ·rw [if_neg c1,if_neg (show ¬ j< m+1 by omega),om_none,om_none]
def Sd (lo:Int) (L:Nat):Prop:=(lo= -1∧L=3)∨(lo=0∧L=2)
def sq (s:Int):Nat:=(s*s).toNat
theorem sq_le {lo:Int} {L t:Nat} (h:Sd lo L) (ht:t< L):sq (lo+(t:Int))≤1∧((sq (lo+(t:Int)):Nat):Int)=(lo+(t:Int))*(lo+(t:Int))∧ -1≤lo+(t:Int)∧lo+(t:Int)≤1:=by
 rcases h with ⟨rfl,rfl⟩|⟨rfl,rfl⟩
 ·have:t=0∨t=1∨t=2:=by omega
  rcases this with rfl|rfl|rfl<;>decide
 ·have:t=0∨t=1:=by omega
  rcases this with rfl|rfl<;>decide
def plus (o:Option Nat) (u:Nat):Option Nat:=match o with
 |some v=>some (v+u)
 |none=>none
def bal (lo:Int) (L:Nat):List Int→Int→Option Nat
 |[],m=>if m=0 then some 0 else none
 |x::ws,m=>Om tt (fun t=>plus (bal lo L ws (m - (lo+(t:Int))*x)) (sq (lo+(t:Int)))) L
structure OkW (w:List Int):Prop where
 l1:1≤w.length
 l16:w.length≤16
 pos:∀ x∈w,1≤x
 sum:w.sum≤2000
theorem bal_range {lo:Int} {L:Nat} (h:Sd lo L):∀ {ws:List Int} {m:Int} {v:Nat},(∀ x∈ws,1≤x)→bal lo L ws m=some v→ -ws.sum≤m∧m≤ws.sum∧v≤ws.length
 |[],m,v,_,hv=>by
  unfold bal at hv
  split at hv
  ·cases hv;rename_i e;subst e;simp
  ·cases hv
 |x::ws,m,v,hp,hv=>by
  unfold bal at hv
  obtain ⟨t,ht,hc⟩:=Om_at hv
  obtain ⟨s1,s2,s3,s4⟩:=sq_le h ht
  have hx:=hp x List.mem_cons_self
  cases e:bal lo L ws (m - (lo+(t:Int))*x) with
  |none=>rw [e] at hc;cases hc
  |some u=>
   rw [e] at hc
   have hu:=bal_range h (fun y hy=>hp y (List.mem_cons_of_mem _ hy)) e
   have hv':u+sq (lo+(t:Int))=v:=QsJ hc
   have hmul: -x≤(lo+(t:Int))*x∧(lo+(t:Int))*x≤x:=by
    have:lo+(t:Int)= -1∨lo+(t:Int)=0∨lo+(t:Int)=1:=by omega
    rcases this with g|g|g<;>rw [g]<;>omega
   simp only [List.sum_cons,List.length_cons]
   omega
theorem sum_drop {w:List Int} (h:∀ x∈w,1≤x):∀ i,(w.drop i).sum≤w.sum:=by
 induction w with
 |nil=>intro i;simp
 |cons x ws ih=>
  intro i
  have hx:=h x List.mem_cons_self
  cases i with
  |zero=>exact Int.le_refl _
  |succ i=>
   have:=ih (fun y hy=>h y (List.mem_cons_of_mem _ hy)) i
   simp only [List.drop_succ_cons,List.sum_cons]
   omega
variable {w:List Int} {lo:Int} {L:Nat}
def bd (lo:Int) (L:Nat) (w:List Int) (i:Nat) (m:Int):Option Nat:=bal lo L (w.drop i) m
theorem bd_range (h:OkW w) (hs:Sd lo L) {i:Nat} {m:Int} {v:Nat} (hv:bd lo L w i m=some v): -2000≤m∧m≤2000∧v≤16:=by
 have h1:=bal_range hs (fun x hx=>h.pos x (List.mem_of_mem_drop hx)) hv
 have h2:=sum_drop h.pos i
 have h3:=h.sum
 have h4:=h.l16
 have h5:(w.drop i).length≤w.length:=by simp
 omega
theorem drop_at {i:Nat} (hi:i< w.length):w.drop i=w[i]::w.drop (i+1):=List.drop_eq_getElem_cons hi
theorem bd_step {i:Nat} (hi:i< w.length) (m:Int):bd lo L w i m=Om tt (fun t=>plus (bd lo L w (i+1) (m - (lo+(t:Int))*w[i])) (sq (lo+(t:Int)))) L:=by
 unfold bd
 rw [drop_at hi]
 rfl
theorem bd_last (m:Int):bd lo L w w.length m=if m=0 then some 0 else none:=by
 unfold bd
 rw [List.drop_length]
 rfl
theorem w_range (h:OkW w) {i:Nat} (hi:i< w.length):1≤w[i]∧w[i]≤2000:=by
 have h1:=h.pos _ (List.getElem_mem hi)
 have h2:=sum_drop h.pos i
 rw [drop_at hi,List.sum_cons] at h2
 have h3:=h.sum
 have h4:∀ l:List Int,(∀ x∈l,1≤x)→0≤l.sum:=by
  intro l
  induction l with
  |nil=>intro _;simp
  |cons x l ih=>intro g;have:=ih (fun y hy=>g y (List.mem_cons_of_mem _ hy));have:=g x List.mem_cons_self;simp only [List.sum_cons];omega
 have h5:=h4 (w.drop (i+1)) (fun x hx=>h.pos x (List.mem_of_mem_drop hx))
 omega
theorem sum_true {N:Nat} {a:List Int} (hb:∀ x∈a,-32768≤x∧x≤32767) (h:a.length≤16) (hN:a.length< N):QaS.f N a=some a.sum:=by
 have main:∀ (k m:Nat) (acc:Int),k≤a.length→a.length - k< m→acc=(a.take k).sum→rounds (fun s=>QaS.b0 N a s.1 s.2) m (acc,(k:Int))=some (.go a.sum):=by
  have bound:∀ l:List Int,(∀ x∈l,-32768≤x∧x≤32767)→ -32768*(l.length:Int)≤l.sum∧l.sum≤32767*(l.length:Int):=by
   intro l
   induction l with
   |nil=>intro _;simp
   |cons x l ih=>intro g;have h1:=ih (fun y hy=>g y (List.mem_cons_of_mem _ hy));have h2:=g x List.mem_cons_self;simp only [List.sum_cons,List.length_cons];omega
  intro k m
  induction m generalizing k with
  |zero=>intro acc _ hm;exact absurd hm (Nat.not_lt_zero _)
  |succ m ih=>
   intro acc hk hm ha
   by_cases c:k< a.length
   ·have hx:=hb _ (List.getElem_mem c)
    have hs:(a.take (k+1)).sum=(a.take k).sum+a[k]:=by rw [List.take_succ_eq_append_getElem c,List.sum_append,List.sum_cons,List.sum_nil,Int.add_zero]
    have hbd:=bound (a.take (k+1)) (fun x hx=>hb x (List.mem_of_mem_take hx))
    have hlen:(a.take (k+1)).length≤16:=by simp;omega
    have hbd2: -600000≤(a.take (k+1)).sum∧(a.take (k+1)).sum≤600000:=by omega
    rw [rounds_next (s':=((a.take (k+1)).sum,((k+1:Nat):Int)))]
    ·exact ih (k+1) _ (by omega) (by omega) rfl
    ·simp only [QaS.b0]
     rw [if_pos (by omega),if_pos ⟨by omega,by omega⟩,rdL_nat c,i64w_succ c (by omega),i64w_id (x:=a[k]) (by omega) (by omega),ha,← hs,i64w_id (by omega) (by omega)]
   ·have:k=a.length:=by omega
    subst this
    refine rounds_out ?_
    simp only [QaS.b0]
    rw [if_neg (by omega),ha,List.take_length]
 unfold QaS.f
 rw [show rounds (fun s=>QaS.b0 N a s.1 s.2) N (0,0)=_ from main 0 N 0 (Nat.zero_le _) (by omega) rfl]
 rfl
theorem asked_both {N:Nat} {a:List Int} (hb:∀ x∈a,-32768≤x∧x≤32767) (m:Int) (hN:a.length< N):∃ c,Qbr.f N a m=some c∧Qbd.f N a m=some c∧(c=0→OkW a∧0≤m∧m≤2000):=by
 obtain ⟨b,v1,v2,v3⟩:=valid_same hN
 simp only [Qbr.f,Qbd.f,v1,v2,Option.bind_some]
 cases b with
 |false=>exact ⟨1,rfl,rfl,fun h=>by cases h⟩
 |true=>
  obtain ⟨h1,h16,hall⟩:=v3 rfl
  have hsum:a.sum≤2000:=by
   have hs:=sum_true hb h16 hN
   classical
   unfold QaU.f Qbg.f at v1
   rw [if_pos (by omega),decide_eq_true (show (a.length:Int)≤16 by omega),Option.bind_some,if_pos rfl,Qb7 h16 hN,if_pos hall,Option.bind_some] at v1
   have v1':(QaS.f N a).bind (fun r7=>some (decide (r7≤2000)))=some true:=v1
   rw [hs,Option.bind_some] at v1'
   exact of_decide_eq_true (QsJ v1')
  have hw:OkW a:=⟨h1,h16,fun x hx=>by
   obtain ⟨i,hi,rfl⟩:=List.mem_iff_getElem.1 hx
   have:=(hall i hi).1
   rw [getD_in hi] at this
   omega,hsum⟩
  rw [if_pos rfl,if_pos rfl]
  unfold Qbg.f Qa5.f QbC.f
  by_cases c1:(0:Int)≤m
  ·simp only [ge_iff_le,if_pos c1,Option.bind_some]
   by_cases c2:m≤2000
   ·simp only [decide_eq_true c2,if_true,Option.bind_some]
    exact ⟨0,rfl,rfl,fun _=>⟨hw,c1,c2⟩⟩
   ·simp only [decide_eq_false c2,Bool.false_eq_true,if_false,Option.bind_some]
    exact ⟨2,rfl,rfl,fun h=>by cases h⟩
  ·simp only [ge_iff_le,if_neg c1,Option.bind_some,Bool.false_eq_true,if_false]
   exact ⟨2,rfl,rfl,fun h=>by cases h⟩
theorem RepT.congr {n T:Nat} {L:List (List Int)} {F G:Tb} (r:RepT n T L F) (h:∀ t k,t≤T→k< n→F t k=G t k):RepT n T L G:=⟨r.len,r.row,fun t ht k hk=>by rw [r.val t ht k hk,h t k ht hk]⟩
variable {w:List Int} {lo:Int} {L N:Nat}
def bdn (lo:Int) (L:Nat) (w:List Int) (t m:Nat):Option Nat:=bd lo L w t ((m:Int) - 2000)
def slot (lo:Int) (L:Nat) (w:List Int) (i k t:Nat):Option Nat:=plus (bd lo L w (i+1) ((k:Int) - 2000 - (lo+(t:Int))*w.getD i 0)) (sq (lo+(t:Int)))
def Fs (lo:Int) (L:Nat) (w:List Int) (i k j:Nat):Tb:=fun t m=>if i< t then bdn lo L w t m else if t=i then (if m< k then bdn lo L w i m else if m=k then Om tt (slot lo L w i k) j else none) else none
def Frw (lo:Int) (L:Nat) (w:List Int) (i:Nat):Tb:=fun t m=>if i≤t then bdn lo L w t m else none
theorem lo_le {j:Nat} (hs:Sd lo L):(lo+(j:Int)≤1↔j< L)∧ -1≤lo∧lo≤0:=by
 rcases hs with ⟨rfl,rfl⟩|⟨rfl,rfl⟩<;>omega
theorem mul_range {s x:Int} (h1: -1≤s) (h2:s≤1) (hx:1≤x∧x≤2000): -2000≤s*x∧s*x≤2000:=by
 have:s= -1∨s=0∨s=1:=by omega
 rcases this with g|g|g<;>rw [g]<;>omega
theorem fs_next {i k j:Nat}:Fs lo L w i k (j+1)=fun t m=>if t=i∧m=k then om (Fs lo L w i k j t m) (slot lo L w i k j) else Fs lo L w i k j t m:=by
 funext t m
 unfold Fs
 by_cases c:t=i∧m=k
 ·obtain ⟨rfl,rfl⟩:=c
  simp only [Nat.lt_irrefl,if_false,if_true,and_self]
  rw [Om_step]
 ·rw [if_neg c]
  by_cases c1:i< t
  ·rw [if_pos c1,if_pos c1]
  ·rw [if_neg c1,if_neg c1]
   by_cases c2:t=i
   ·rw [if_pos c2,if_pos c2]
    by_cases c3:m< k
    ·rw [if_pos c3,if_pos c3]
    ·rw [if_neg c3,if_neg c3,if_neg (fun e=>c ⟨c2,e⟩),if_neg (fun e=>c ⟨c2,e⟩)]
   ·rw [if_neg c2,if_neg c2]
theorem tb_step (h:OkW w) (hs:Sd lo L) {i k j:Nat} (hi:i< w.length) (hk:k< 4001) (hj:j< L) {X:List (List Int)} (r:RepT 4001 w.length X (Fs lo L w i k j)):
 ∃ X',Qaj.b6 N (i:Int) w (k:Int) X (lo+(j:Int))=some (.next (X',lo+((j+1:Nat):Int)))∧RepT 4001 w.length X' (Fs lo L w i k (j+1)):=by
 obtain ⟨q1,q2,q3,q4⟩:=sq_le hs hj
 have hx:=w_range h hi
 have hl16:=h.l16
 have hm:=mul_range q3 q4 hx
 have hg:w.getD i 0=w[i]:=by simp [List.getD,hi]
 have hl:=r.len
 have e1:i64w (lo+(j:Int)+1)=lo+((j+1:Nat):Int):=by rw [i64w_id (by omega) (by omega)];omega
 have e2:i64w w[i]=w[i]:=i64w_id (by omega) (by omega)
 have e3:i64w ((lo+(j:Int))*w[i])=(lo+(j:Int))*w[i]:=i64w_id (by omega) (by omega)
 have e4:i64w ((k:Int) - (lo+(j:Int))*w[i])=(k:Int) - (lo+(j:Int))*w[i]:=i64w_id (by omega) (by omega)
 have e5:i64w ((lo+(j:Int))*(lo+(j:Int)))=((sq (lo+(j:Int)):Nat):Int):=by rw [← q2];exact i64w_id (by omega) (by omega)
 have e6:i64w (4001 - 1)=4000:=by decide
 have e7:i64w ((i:Int)+1)=((i+1:Nat):Int):=i64w_id (by omega) (by omega)
 have keep:slot lo L w i k j=none→RepT 4001 w.length X (Fs lo L w i k (j+1)):=by
  intro g
  rw [fs_next]
  refine r.congr fun t m _ _=>?_
  rw [g,om_none]
  split<;>rfl
 unfold Qaj.b6 Qaj.j8
 rw [if_pos ((lo_le hs).1.2 hj),if_pos ⟨by omega,by omega⟩,rdL_nat hi,e1,e2,e3,e4,e5,e6,e7]
 unfold Qbg.f
 have out:¬ (0≤(k:Int) - (lo+(j:Int))*w[i]∧(k:Int) - (lo+(j:Int))*w[i]≤4000)→slot lo L w i k j=none:=by
  intro g
  unfold slot
  rw [hg]
  cases e:bd lo L w (i+1) ((k:Int) - 2000 - (lo+(j:Int))*w[i]) with
  |none=>rfl
  |some v=>
   have:=bd_range h hs e
   omega
 by_cases c1:(k:Int) - (lo+(j:Int))*w[i]≥0
 ·rw [if_pos c1,Option.bind_some]
  by_cases c2:(k:Int) - (lo+(j:Int))*w[i]≤4000
  ·rw [if_pos (decide_eq_true c2)]
   obtain ⟨q,eq⟩:=Int.eq_ofNat_of_zero_le c1
   rw [eq]
   have hq:q< 4001:=by omega
   have r1:=r.row (i+1) (by omega)
   have r2:=r.row i (by omega)
   have v1:=r.val (i+1) (by omega) q hq
   have v2:=r.val i (by omega) k hk
   have f1:Fs lo L w i k j (i+1) q=bd lo L w (i+1) ((k:Int) - 2000 - (lo+(j:Int))*w[i]):=by
    unfold Fs bdn
    rw [if_pos (by omega)]
    congr 1
    omega
   have f2:slot lo L w i k j=plus (Fs lo L w i k j (i+1) q) (sq (lo+(j:Int))):=by unfold slot;rw [f1,hg]
   rw [if_pos ⟨by omega,by omega⟩,if_pos ⟨by omega,by omega⟩,v1,v2]
   cases e:Fs lo L w i k j (i+1) q with
   |none=>
    rw [if_pos (show vi none< 0 by decide)]
    exact ⟨X,rfl,keep (by rw [f2,e];rfl)⟩
   |some u=>
    have hu:u≤16:=(bd_range h hs (f1.symm.trans e)).2.2
    have hsl:slot lo L w i k j=some (u+sq (lo+(j:Int))):=by rw [f2,e];rfl
    have hc:i64w (vi (some u)+((sq (lo+(j:Int)):Nat):Int))=((u+sq (lo+(j:Int)):Nat):Int):=by
     show i64w ((u:Int)+_)=_
     rw [← Int.natCast_add]
     exact i64w_id (by omega) (by omega)
    have setit:om (Fs lo L w i k j i k) (some (u+sq (lo+(j:Int))))=some (u+sq (lo+(j:Int)))→RepT 4001 w.length (stL X (i:Int) (stL (rdL X (i:Int) []) (k:Int) ((u+sq (lo+(j:Int)):Nat):Int))) (Fs lo L w i k (j+1)):=by
     intro g
     refine r.set (by omega) hk (o:=some (u+sq (lo+(j:Int)))) rfl fun t m=>?_
     rw [fs_next]
     dsimp only
     by_cases c:t=i∧m=k
     ·rw [if_pos c,if_pos c,hsl,c.1,c.2,g]
     ·rw [if_neg c,if_neg c]
    rw [if_neg (show ¬ vi (some u)< 0 by simp only [vi];omega),if_pos ⟨by omega,by omega⟩,if_pos ⟨by omega,by omega⟩,if_pos ⟨by omega,by omega⟩,if_pos ⟨by omega,by omega⟩,hc]
    cases e2:Fs lo L w i k j i k with
    |none=>
     rw [if_pos (show vi none< 0 by decide),if_pos ⟨by omega,by omega⟩,if_pos ⟨by omega,by omega⟩]
     exact ⟨_,rfl,setit (by rw [e2];rfl)⟩
    |some z=>
     rw [if_neg (show ¬ vi (some z)< 0 by simp only [vi];omega),if_pos ⟨by omega,by omega⟩,if_pos ⟨by omega,by omega⟩]
     by_cases cl:((u+sq (lo+(j:Int)):Nat):Int)< vi (some z)
     ·rw [if_pos cl,if_pos ⟨by omega,by omega⟩,if_pos ⟨by omega,by omega⟩]
      refine ⟨_,rfl,setit ?_⟩
      rw [e2]
      simp only [vi] at cl
      show some (min z _)=_
      rw [Nat.min_eq_right (by omega)]
     ·rw [if_neg cl]
      refine ⟨X,rfl,?_⟩
      rw [fs_next]
      refine r.congr fun t m _ _=>?_
      by_cases c:t=i∧m=k
      ·rw [if_pos c,hsl,c.1,c.2,e2]
       simp only [vi] at cl
       show _=some (min z _)
       rw [Nat.min_eq_left (by omega)]
      ·rw [if_neg c]
  ·rw [if_neg (by simpa using c2)]
   exact ⟨X,rfl,keep (out (fun g=>c2 g.2))⟩
 ·rw [if_neg c1,Option.bind_some,if_neg Bool.false_ne_true]
  exact ⟨X,rfl,keep (out (fun g=>c1 g.1))⟩
theorem tb_sides (h:OkW w) (hs:Sd lo L) {i k:Nat} (hi:i< w.length) (hk:k< 4001):
 ∀ (m j:Nat) (X:List (List Int)),j≤L→L - j< m→RepT 4001 w.length X (Fs lo L w i k j)→
 ∃ X',rounds (fun q=>Qaj.b6 N (i:Int) w (k:Int) q.1 q.2) m (X,lo+(j:Int))=some (.go X')∧RepT 4001 w.length X' (Fs lo L w i k L):=by
 intro m
 induction m with
 |zero=>intro j X _ hm;exact absurd hm (Nat.not_lt_zero _)
 |succ m ih=>
  intro j X hj hm r
  by_cases c:j< L
  ·obtain ⟨X1,g1,g2⟩:=tb_step (N:=N) h hs hi hk c r
   obtain ⟨X',f1,f2⟩:=ih (j+1) X1 (by omega) (by omega) g2
   exact ⟨X',(rounds_next (b:=fun q:List (List Int)×Int=>Qaj.b6 N (i:Int) w (k:Int) q.1 q.2) (s:=(X,lo+(j:Int))) g1).trans f1,f2⟩
  ·have:j=L:=by omega
   subst this
   refine ⟨X,rounds_out ?_,r⟩
   show Qaj.b6 N (i:Int) w (k:Int) X (lo+(j:Int))=_
   unfold Qaj.b6
   rw [if_neg (fun g=>c ((lo_le hs).1.1 g))]
theorem fs_done {i k:Nat} (hi:i< w.length) (t m:Nat):Fs lo L w i k L t m=Fs lo L w i (k+1) 0 t m:=by
 have hg:w.getD i 0=w[i]:=by simp [List.getD,hi]
 unfold Fs
 by_cases c1:i< t
 ·rw [if_pos c1,if_pos c1]
 ·rw [if_neg c1,if_neg c1]
  by_cases c2:t=i
  ·rw [if_pos c2,if_pos c2]
   by_cases c3:m< k
   ·rw [if_pos c3,if_pos (by omega)]
   ·rw [if_neg c3]
    by_cases c4:m=k
    ·rw [if_pos c4,if_pos (by omega),c4]
     unfold bdn
     rw [bd_step hi]
     unfold slot
     rw [hg]
    ·rw [if_neg c4,if_neg (by omega)]
     split<;>rfl
  ·rw [if_neg c2,if_neg c2]
def loOf (both:Bool):Int:=if both=true then -1 else 0
def LOf (both:Bool):Nat:=if both=true then 3 else 2
theorem sdOf (both:Bool):Sd (loOf both) (LOf both):=by cases both<;>simp [Sd,loOf,LOf]
theorem least_of (both:Bool):Qbs.f N both=some (loOf both):=by cases both<;>rfl
theorem tb_row (h:OkW w) (hN:5000< N) {both:Bool} {i:Nat} (hi:i< w.length):
 ∀ (m k:Nat) (X:List (List Int)),k≤4001→4001 - k< m→RepT 4001 w.length X (Fs (loOf both) (LOf both) w i k 0)→
 ∃ X',rounds (fun q=>Qaj.b4 N both (i:Int) w q.1 q.2) m (X,(k:Int))=some (.go X')∧RepT 4001 w.length X' (Fs (loOf both) (LOf both) w i 4001 0):=by
 intro m
 induction m with
 |zero=>intro k X _ hm;exact absurd hm (Nat.not_lt_zero _)
 |succ m ih=>
  intro k X hk hm r
  by_cases c:k< 4001
  ·have e1:i64w ((k:Int)+1)=((k+1:Nat):Int):=i64w_id (by omega) (by omega)
   obtain ⟨X1,g1,g2⟩:=tb_sides (N:=N) h (sdOf both) hi c N 0 X (Nat.zero_le _) (by have:LOf both≤3:=by { cases both<;>decide };omega) r
   have s1:Qaj.b4 N both (i:Int) w X (k:Int)=some (.next (X1,((k+1:Nat):Int))):=by
    unfold Qaj.b4
    have g1':rounds (fun s=>Qaj.b6 N (i:Int) w (k:Int) s.1 s.2) N (X,loOf both)=some (.go X1):=by rw [← Int.add_zero (loOf both)];exact g1
    rw [if_pos (by omega),least_of,Option.bind_some,g1',Option.bind_some]
    show Qaj.a6 N (k:Int) X1=_
    unfold Qaj.a6
    rw [e1]
   obtain ⟨X',f1,f2⟩:=ih (k+1) X1 (by omega) (by omega) (g2.congr fun t m _ _=>fs_done hi t m)
   exact ⟨X',(rounds_next (b:=fun q:List (List Int)×Int=>Qaj.b4 N both (i:Int) w q.1 q.2) (s:=(X,(k:Int))) s1).trans f1,f2⟩
  ·have:k=4001:=by omega
   subst this
   refine ⟨X,rounds_out ?_,r⟩
   show Qaj.b4 N both (i:Int) w X ((4001:Nat):Int)=_
   unfold Qaj.b4
   rw [if_neg (by omega)]
theorem tb_rows (h:OkW w) (hN:5000< N) {both:Bool}:
 ∀ (i m:Nat) (X:List (List Int)),i≤w.length→i< m→RepT 4001 w.length X (Frw (loOf both) (LOf both) w i)→
 ∃ X',rounds (fun q=>Qaj.b2 N both w q.1 q.2) m (X,(i:Int) - 1)=some (.go X')∧RepT 4001 w.length X' (Frw (loOf both) (LOf both) w 0):=by
 have h16:=h.l16
 intro i
 induction i with
 |zero=>
  intro m X _ hm r
  obtain ⟨m,rfl⟩:∃ j,m=j+1:=⟨m - 1,by omega⟩
  refine ⟨X,rounds_out ?_,r⟩
  show Qaj.b2 N both w X (((0:Nat):Int) - 1)=_
  unfold Qaj.b2
  rw [if_neg (by omega)]
 |succ i ih=>
  intro m X hi hm r
  obtain ⟨m,rfl⟩:∃ j,m=j+1:=⟨m - 1,by omega⟩
  have e0:((i+1:Nat):Int) - 1=(i:Int):=by omega
  have e1:i64w ((i:Int) - 1)=(i:Int) - 1:=i64w_id (by omega) (by omega)
  obtain ⟨X1,g1,g2⟩:=tb_row (N:=N) (both:=both) h hN (show i< w.length by omega) N 0 X (Nat.zero_le _) (by omega) (r.congr fun t m _ _=>by
   unfold Frw Fs
   by_cases c:i< t
   ·rw [if_pos (by omega),if_pos c]
   ·rw [if_neg (by omega),if_neg c]
    by_cases c2:t=i
    ·rw [if_pos c2,if_neg (Nat.not_lt_zero _)]
     split<;>rfl
    ·rw [if_neg c2])
  have s1:Qaj.b2 N both w X (i:Int)=some (.next (X1,(i:Int) - 1)):=by
   unfold Qaj.b2
   rw [if_pos (by omega),show rounds (fun s=>Qaj.b4 N both (i:Int) w s.1 s.2) N (X,0)=_ from g1,Option.bind_some]
   show Qaj.a4 N (i:Int) X1=_
   unfold Qaj.a4
   rw [e1]
  obtain ⟨X',f1,f2⟩:=ih m X1 (by omega) (by omega) (g2.congr fun t m _ hm4=>by
   unfold Frw Fs
   by_cases c:i< t
   ·rw [if_pos c,if_pos (by omega)]
   ·rw [if_neg c]
    by_cases c2:t=i
    ·rw [if_pos c2,if_pos hm4,if_pos (by omega),c2]
    ·rw [if_neg c2,if_neg (by omega)])
  rw [e0]
  exact ⟨X',(rounds_next (b:=fun q:List (List Int)×Int=>Qaj.b2 N both w q.1 q.2) (s:=(X,(i:Int))) s1).trans f1,f2⟩
theorem tb_fill {T:Nat} {t:Nat} (ht:t≤T):∀ (m k:Nat) (X:List (List Int)),k≤4001→4001 - k< m→X.length=T+1→(rdL X (t:Int) []).length=4001→(∀ j:Nat,j< k→rdL (rdL X (t:Int) []) (j:Int) 0= -1)→
 ∃ X',rounds (fun q=>Qaj.b9 N (t:Int) q.1 q.2) m (X,(k:Int))=some (.go X')∧X'.length=T+1∧(rdL X' (t:Int) []).length=4001∧(∀ j:Nat,j< 4001→rdL (rdL X' (t:Int) []) (j:Int) 0= -1)∧∀ t2:Nat,¬ t2=t→rdL X' (t2:Int) []=rdL X (t2:Int) []:=by
 intro m
 induction m with
 |zero=>intro k X _ hm;exact absurd hm (Nat.not_lt_zero _)
 |succ m ih=>
  intro k X hk hm hl hr hv
  by_cases c:k< 4001
  ·have e1:i64w ((k:Int)+1)=((k+1:Nat):Int):=i64w_id (by omega) (by omega)
   have s1:Qaj.b9 N (t:Int) X (k:Int)=some (.next (stL X (t:Int) (stL (rdL X (t:Int) []) (k:Int) (-1)),((k+1:Nat):Int))):=by
    unfold Qaj.b9
    rw [if_pos (by omega),if_pos ⟨by omega,by omega⟩,if_pos ⟨by omega,by omega⟩,e1]
   obtain ⟨X',f1,f2,f3,f4,f5⟩:=ih (k+1) (stL X (t:Int) (stL (rdL X (t:Int) []) (k:Int) (-1))) (by omega) (by omega) (by rw [len_stL];exact hl) (by rw [rdL_stL,if_pos ⟨rfl,by omega⟩,len_stL];exact hr) (fun j hj=>by
    rw [rdL_stL,if_pos ⟨rfl,by omega⟩,rdL_stL]
    by_cases e:k=j
    ·rw [if_pos ⟨e,by omega⟩]
    ·rw [if_neg (fun g=>e g.1)];exact hv j (by omega))
   refine ⟨X',(rounds_next (b:=fun q:List (List Int)×Int=>Qaj.b9 N (t:Int) q.1 q.2) (s:=(X,(k:Int))) s1).trans f1,f2,f3,f4,fun t2 h2=>?_⟩
   rw [f5 t2 h2,rdL_stL,if_neg (fun g=>h2 g.1.symm)]
  ·have:k=4001:=by omega
   subst this
   refine ⟨X,rounds_out ?_,hl,hr,hv,fun _ _=>rfl⟩
   show Qaj.b9 N (t:Int) X ((4001:Nat):Int)=_
   unfold Qaj.b9
   rw [if_neg (by omega)]
theorem tb_make (h:w.length≤16) (hN:5000< N):∀ (m t:Nat) (X:List (List Int)),t≤w.length+1→w.length+1 - t< m→X.length=w.length+1→(∀ t2:Nat,t2< t→(rdL X (t2:Int) []).length=4001∧∀ j:Nat,j< 4001→rdL (rdL X (t2:Int) []) (j:Int) 0= -1)→
 ∃ X',rounds (fun q=>Qaj.b0 N w q.1 q.2) m (X,(t:Int))=some (.go X')∧RepT 4001 w.length X' (fun _ _=>none):=by
 intro m
 induction m with
 |zero=>intro t X _ hm;exact absurd hm (Nat.not_lt_zero _)
 |succ m ih=>
  intro t X ht hm hl hv
  by_cases c:t≤w.length
  ·have e1:i64w ((t:Int)+1)=((t+1:Nat):Int):=i64w_id (by omega) (by omega)
   obtain ⟨X1,g1,g2,g3,g4,g5⟩:=tb_fill (N:=N) c N 0 (stL X (t:Int) (List.replicate 4001 0)) (Nat.zero_le _) (by omega) (by rw [len_stL];exact hl) (by rw [rdL_stL,if_pos ⟨rfl,by omega⟩,List.length_replicate]) (fun j hj=>absurd hj (Nat.not_lt_zero _))
   have s1:Qaj.b0 N w X (t:Int)=some (.next (X1,((t+1:Nat):Int))):=by
    unfold Qaj.b0
    rw [if_pos (by omega),if_pos ⟨by decide,by decide⟩,if_pos ⟨by omega,by omega⟩,show rounds (fun s=>Qaj.b9 N (t:Int) s.1 s.2) N (stL X (t:Int) (List.replicate (4001:Int).toNat 0),0)=_ from g1,Option.bind_some]
    show Qaj.a9 N (t:Int) X1=_
    unfold Qaj.a9
    rw [e1]
   obtain ⟨X',f1,f2⟩:=ih (t+1) X1 (by omega) (by omega) g2 (fun t2 h2=>by
    by_cases e:t2=t
    ·subst e;exact ⟨g3,g4⟩
    ·rw [g5 t2 e,rdL_stL,if_neg (fun g=>e g.1.symm)];exact hv t2 (by omega))
   exact ⟨X',(rounds_next (b:=fun q:List (List Int)×Int=>Qaj.b0 N w q.1 q.2) (s:=(X,(t:Int))) s1).trans f1,f2⟩
  ·have:t=w.length+1:=by omega
   subst this
   refine ⟨X,rounds_out ?_,hl,fun t2 h2=>(hv t2 (by omega)).1,fun t2 h2 k2 g2=>(hv t2 (by omega)).2 k2 g2⟩
   show Qaj.b0 N w X ((w.length+1:Nat):Int)=_
   unfold Qaj.b0
   rw [if_neg (by omega)]
theorem table_eq (h:OkW w) (hN:5000< N) (both:Bool):∃ X,Qaj.f N w both=some X∧RepT 4001 w.length X (Frw (loOf both) (LOf both) w 0):=by
 have h16:=h.l16
 have e1:i64w ((w.length:Int)+1)=((w.length+1:Nat):Int):=i64w_id (by omega) (by omega)
 have e2:i64w ((w.length:Int) - 1)=(w.length:Int) - 1:=i64w_id (by omega) (by omega)
 obtain ⟨X0,g1,g2⟩:=tb_make (N:=N) h16 hN N 0 (List.replicate (w.length+1) []) (Nat.zero_le _) (by omega) (by simp) (fun t2 h2=>absurd h2 (Nat.not_lt_zero _))
 have r0:=g2.row w.length (Nat.le_refl _)
 have l0:=g2.len
 have r1:=g2.set (Nat.le_refl w.length) (show 2000< 4001 by decide) (o:=some 0) (x:=0) rfl (F':=fun t2 k2=>if t2=w.length∧k2=2000 then some 0 else none) fun t2 k2=>rfl
 have r2:RepT 4001 w.length _ (Frw (loOf both) (LOf both) w w.length):=r1.congr fun t m ht _=>by
  unfold Frw bdn
  by_cases c:w.length≤t
  ·have:t=w.length:=by omega
   subst this
   rw [if_pos c,bd_last]
   by_cases c2:m=2000
   ·rw [if_pos ⟨rfl,c2⟩,if_pos (by omega)]
   ·rw [if_neg (fun g=>c2 g.2),if_neg (by omega)]
  ·rw [if_neg c,if_neg (fun g=>c (by omega))]
 obtain ⟨X',f1,f2⟩:=tb_rows (N:=N) (both:=both) h hN w.length N _ (Nat.le_refl _) (by omega) r2
 refine ⟨X',?_,f2⟩
 unfold Qaj.f
 rw [e1,if_pos ⟨by omega,by omega⟩,Int.toNat_natCast,show rounds (fun s=>Qaj.b0 N w s.1 s.2) N (List.replicate (w.length+1) [],0)=_ from g1,Option.bind_some]
 show Qaj.a0 N w both X0=_
 unfold Qaj.a0
 rw [if_pos ⟨by omega,by omega⟩,if_pos ⟨by decide,by omega⟩,e2,show rounds (fun s=>Qaj.b2 N both w s.1 s.2) N (stL X0 (w.length:Int) (stL (rdL X0 (w.length:Int) []) 2000 0),(w.length:Int) - 1)=_ from f1]
 rfl
abbrev Kb:=List (Int×Qah)
structure Rb (kv:Kb) (f:Int→Option Nat) (K B:Nat):Prop where
 nd:(kv.map (·.1)).Nodup
 el:∀ p∈kv,∃ v:Nat,f p.1=some v∧p.2.QaW=(v:Int)
 so:∀ m v,f m=some v→m∈kv.map (·.1)
 wy:∀ p∈kv,1≤p.2.QaO∧p.2.QaO≤(B:Int)
 ln:kv.length≤K
theorem Rb.mono {kv:Kb} {f:Int→Option Nat} {K B K' B':Nat} (r:Rb kv f K B) (hK:K≤K') (hB:B≤B'):Rb kv f K' B':=⟨r.nd,r.el,r.so,fun p hp=>by have:=r.wy p hp;omega,by have:=r.ln;omega⟩
theorem Rb.at_some {kv:Kb} {f:Int→Option Nat} {K B:Nat} (r:Rb kv f K B) {m:Int} {v:Nat} (h:f m=some v) (z:Qah):(mIdx kv m).isSome=true∧(mGet kv m z).QaW=(v:Int):=by
 have hm:=r.so m v h
 refine ⟨mIdx_in.2 hm,?_⟩
 obtain ⟨u,hu,e⟩:=r.el _ (mem_get hm r.nd z)
 simp only at hu e
 rw [h] at hu
 cases hu
 exact e
theorem Rb.at_ways {kv:Kb} {f:Int→Option Nat} {K B:Nat} (r:Rb kv f K B) {m:Int} {v:Nat} (h:f m=some v) (z:Qah):1≤(mGet kv m z).QaO∧(mGet kv m z).QaO≤(B:Int):=r.wy _ (mem_get (r.so m v h) r.nd z)
theorem Rb.at_none {kv:Kb} {f:Int→Option Nat} {K B:Nat} (r:Rb kv f K B) {m:Int} (h:f m=none):¬ (mIdx kv m).isSome=true:=by
 intro g
 obtain ⟨p,hp,rfl⟩:=List.mem_map.1 (mIdx_in.1 g)
 obtain ⟨v,hv,_⟩:=r.el p hp
 rw [h] at hv
 cases hv
theorem Rb.set {kv:Kb} {f g:Int→Option Nat} {K B B2:Nat} (r:Rb kv f K B) {m:Int} {u:Nat} {b:Qah} (hb:b.QaW=(u:Int)) (hg:∀ j,g j=if j=m then some u else f j) (hw:1≤b.QaO∧b.QaO≤(B2:Int)) (hB:B≤B2):Rb (mSet kv m b) g (K+1) B2:=by
 have hn2:=mSet_nodup r.nd m b
 refine ⟨hn2,fun p hp=>?_,fun j v hv=>?_,fun p hp=>?_,Nat.le_trans (mSet_len kv m b) (by have:=r.ln;omega)⟩
 rotate_left
 rotate_left
 ·have hget:=mGet_at hn2 hp Qan
  rw [mGet_set r.nd] at hget
  by_cases c:p.1=m
  ·rw [if_pos c] at hget
   rw [← hget];exact hw
  ·rw [if_neg c] at hget
   have hin:=(mSet_in (List.mem_map.2 ⟨p,hp,rfl⟩)).resolve_right c
   have:=r.wy _ (mem_get hin r.nd Qan)
   rw [← hget]
   simp only at this
   omega
 ·have hget:=mGet_at hn2 hp Qan
  rw [mGet_set r.nd] at hget
  rw [hg]
  by_cases c:p.1=m
  ·rw [if_pos c] at hget ⊢
   exact ⟨u,rfl,by rw [← hget];exact hb⟩
  ·rw [if_neg c] at hget ⊢
   have hin:=(mSet_in (List.mem_map.2 ⟨p,hp,rfl⟩)).resolve_right c
   obtain ⟨v,hv,e⟩:=r.el _ (mem_get hin r.nd Qan)
   simp only at hv e
   exact ⟨v,hv,by rw [← hget];exact e⟩
 ·rw [hg] at hv
  by_cases c:j=m
  ·subst c;exact mSet_has kv j b
  ·rw [if_neg c] at hv
   exact mSet_keep (r.so j v hv)
theorem Rb.congr {kv:Kb} {f g:Int→Option Nat} {K B:Nat} (r:Rb kv f K B) (h:∀ m,f m=g m):Rb kv g K B:=by
 have:f=g:=funext h
 rw [← this];exact r
theorem Rb.len {kv:Kb} {f:Int→Option Nat} {K B:Nat} (r:Rb kv f K B) (h:∀ m v,f m=some v→ -2000≤m∧m≤2000):kv.length≤4001:=by
 have rng:∀ p∈kv,-2000≤p.1∧p.1≤2000:=fun p hp=>by obtain ⟨v,hv,_⟩:=r.el p hp;exact h _ v hv
 have h1:(kv.map fun p=>(p.1+2000).toNat).Nodup:=by
  have hd:=r.nd
  unfold List.Nodup at hd ⊢
  rw [List.pairwise_map] at hd ⊢
  refine hd.imp_of_mem fun {p q} hp hq hne e=>hne ?_
  have:=rng p hp
  have:=rng q hq
  omega
 have h2:=nat_few 4001 _ h1 (fun x hx=>by
  obtain ⟨p,hp,rfl⟩:=List.mem_map.1 hx
  have:=rng p hp
  omega)
 simpa using h2
section
variable {w:List Int} {lo:Int} {L N:Nat}
def Fq (lo:Int) (L:Nat) (x:Int) (f:Int→Option Nat) (D:Int→Bool) (m:Int):Option Nat:=Om tt (fun t=>if D (m - (lo+(t:Int))*x)=true then plus (f (m - (lo+(t:Int))*x)) (sq (lo+(t:Int))) else none) L
def Fp (lo:Int) (L:Nat) (x:Int) (f:Int→Option Nat) (D:Int→Bool) (μ:Int) (j:Nat) (m:Int):Option Nat:=
 Om tt (fun t=>if (D (m - (lo+(t:Int))*x)||(decide (m - (lo+(t:Int))*x=μ)&&decide (t< j)))=true then plus (f (m - (lo+(t:Int))*x)) (sq (lo+(t:Int))) else none) L
theorem Fp_zero {x:Int} {f:Int→Option Nat} {D:Int→Bool} {μ:Int} (m:Int):Fp lo L x f D μ 0 m=Fq lo L x f D m:=by
 unfold Fp Fq
 refine Om_congr fun t _=>?_
 simp
theorem Fp_all {x:Int} {f:Int→Option Nat} {D:Int→Bool} {μ:Int} (m:Int):Fp lo L x f D μ L m=Fq lo L x f (fun a=>D a||decide (a=μ)) m:=by
 unfold Fp Fq
 refine Om_congr fun t ht=>?_
 simp [ht]
theorem Fp_step {x:Int} {f:Int→Option Nat} {D:Int→Bool} {μ:Int} {j v:Nat} (hj:j< L) (hD:D μ=false) (hv:f μ=some v) (m:Int):
 Fp lo L x f D μ (j+1) m=if m=μ+(lo+(j:Int))*x then om (Fp lo L x f D μ j m) (some (v+sq (lo+(j:Int)))) else Fp lo L x f D μ j m:=by
 unfold Fp
 by_cases c:m=μ+(lo+(j:Int))*x
 ·have e:m - (lo+(j:Int))*x=μ:=by omega
  rw [if_pos c,Om_one (j:=j) (c:=fun t=>if (D (m - (lo+(t:Int))*x)||(decide (m - (lo+(t:Int))*x=μ)&&decide (t< j)))=true then plus (f (m - (lo+(t:Int))*x)) (sq (lo+(t:Int))) else none),if_pos hj]
  ·rw [e,hD,hv]
   simp [plus]
  ·rw [e,hD]
   simp
  ·intro t ht
   have:decide (t< j+1)=decide (t< j):=by rw [decide_eq_decide];omega
   rw [this]
 ·rw [if_neg c]
  refine Om_congr fun t _=>?_
  by_cases ht:t=j
  ·subst ht
   have:¬ m - (lo+(t:Int))*x=μ:=fun e=>c (by omega)
   simp [this]
  ·have:decide (t< j+1)=decide (t< j):=by rw [decide_eq_decide];omega
   rw [this]
def Bn:Nat→Nat
 |0=>1
 |d+1=>3^d*(3*Bn d)
theorem Bn_le:∀ d:Nat,d< 6→Bn d≤100000000:=by decide
structure RepB (lo:Int) (L:Nat) (w:List Int) (xs:List (Option Kb)) (i:Nat):Prop where
 len:xs.length=w.length+1
 row:∀ t:Nat,i≤t→t≤w.length→∃ kv,rdL xs (t:Int) none=some kv∧Rb kv (bd lo L w t) (3^(w.length - t)) (Bn (w.length - t))
theorem b4_step (h:OkW w) (hs:Sd lo L) {S:List Int} (hSl:S.length=L) (hS:∀ t:Nat,t< L→rdL S (t:Int) 0=lo+(t:Int)) {i j:Nat} (hi:i< w.length) (hj:j< L) {μ:Int} (hμ: -2000≤μ∧μ≤2000) {b:Qah} {v:Nat} (hb:b.QaW=(v:Int)) (hv:v≤16)
 {xs:List (Option Kb)} (hl:xs.length=w.length+1) {kv:Kb} (hkv:rdL xs (i:Int) none=some kv) {g:Int→Option Nat} {K B C:Nat} (r:Rb kv g K B) (hC:1≤b.QaO∧b.QaO≤(C:Int)) (hcap:B+C≤100000000) {Q:Bd (List (Option Kb)) (List (Option Kb)) (List (Option Kb)×Int)→Prop}
 (hQ:∀ xs' kv',xs'.length=w.length+1→rdL xs' (i:Int) none=some kv'→Rb kv' (fun m=>if m=μ+(lo+(j:Int))*w[i] then om (g m) (some (v+sq (lo+(j:Int)))) else g m) (K+1) (B+C)→(∀ t:Nat,¬ t=i→rdL xs' (t:Int) none=rdL xs (t:Int) none)→Q (.next (xs',((j+1:Nat):Int)))):
 Qak.b4 N S (i:Int) w (μ,b) xs (j:Int) Q:=by
 obtain ⟨q1,q2,q3,q4⟩:=sq_le hs hj
 have hx:=w_range h hi
 have hl16:=h.l16
 have hm:=mul_range q3 q4 hx
 have hL:L≤3:=by rcases hs with ⟨_,e⟩|⟨_,e⟩<;>omega
 have e1:i64w ((j:Int)+1)=((j+1:Nat):Int):=i64w_id (by omega) (by omega)
 have e2:i64w w[i]=w[i]:=i64w_id (by omega) (by omega)
 have e3:i64w ((lo+(j:Int))*w[i])=(lo+(j:Int))*w[i]:=i64w_id (by omega) (by omega)
 have e4:i64w (μ+(lo+(j:Int))*w[i])=μ+(lo+(j:Int))*w[i]:=i64w_id (by omega) (by omega)
 have e5:i64w ((lo+(j:Int))*(lo+(j:Int)))=((sq (lo+(j:Int)):Nat):Int):=by rw [← q2];exact i64w_id (by omega) (by omega)
 have e6:i64w (lo+(j:Int))=lo+(j:Int):=i64w_id (by omega) (by omega)
 have e7:i64w (b.QaW+((sq (lo+(j:Int)):Nat):Int))=((v+sq (lo+(j:Int)):Nat):Int):=by
  rw [hb,← Int.natCast_add]
  exact i64w_id (by omega) (by omega)
 have hgd:(rdL xs (i:Int) none).getD []=kv:=by rw [hkv];rfl
 have hset:∀ (bb:Qah) (u:Nat),0≤bb.QaO∧bb.QaO≤(B:Int)→bb.QaW=(u:Int)→om (g (μ+(lo+(j:Int))*w[i])) (some (v+sq (lo+(j:Int))))=some u→
  Q (.next (stL xs (i:Int) (some (mSet kv (μ+(lo+(j:Int))*w[i]) (⟨i64w (bb.QaO+b.QaO),bb.QaW⟩:Qah))),((j+1:Nat):Int))):=by
  intro bb u hw hu ho
  have ew:i64w (bb.QaO+b.QaO)=bb.QaO+b.QaO:=i64w_id (by omega) (by omega)
  refine hQ _ _ (by rw [len_stL];exact hl) (by rw [rdL_stL,if_pos ⟨rfl,by omega⟩]) (r.set (b:=⟨i64w (bb.QaO+b.QaO),bb.QaW⟩) (u:=u) hu (fun m=>?_) (by rw [ew];dsimp only;omega) (by omega)) fun t ht=>?_
  ·by_cases c:m=μ+(lo+(j:Int))*w[i]
   ·rw [if_pos c,if_pos c,c,ho]
   ·rw [if_neg c,if_neg c]
  ·rw [rdL_stL,if_neg (fun g=>ht g.1.symm)]
 have hj6:∀ (bb:Qah) (u:Nat),0≤bb.QaO∧bb.QaO≤(B:Int)→bb.QaW=(u:Int)→om (g (μ+(lo+(j:Int))*w[i])) (some (v+sq (lo+(j:Int))))=some u→Qak.j6 N (i:Int) xs (μ,b) S (j:Int) w bb Q:=by
  intro bb u hw hu ho
  unfold Qak.j6
  dsimp only
  rw [if_pos ⟨by omega,by omega⟩,if_pos (by rw [hkv];rfl),hS j hj,rdL_nat hi,e6,e2,e3,e4,e1,hgd]
  exact hset bb u hw hu ho
 unfold Qak.b4
 dsimp only
 rw [if_pos (by omega),if_pos ⟨by omega,by omega⟩,if_pos ⟨by omega,by omega⟩,if_pos ⟨by omega,by omega⟩,hS j hj,rdL_nat hi,e6,e2,e3,e4,e5,e7,hgd]
 cases e:g (μ+(lo+(j:Int))*w[i]) with
 |none=>
  have hno:(mGet kv (μ+(lo+(j:Int))*w[i]) Qan).QaO=0:=by
   rw [mGet_no (fun g=>r.at_none e (mIdx_in.2 g))]
   rfl
  rw [if_neg (r.at_none e)]
  exact hj6 _ _ (by dsimp only;rw [hno];omega) rfl (by rw [e];rfl)
 |some z=>
  obtain ⟨a1,a2⟩:=r.at_some e Qan
  have aw:=r.at_ways e Qan
  rw [if_pos a1,a2]
  by_cases cl:((v+sq (lo+(j:Int)):Nat):Int)< (z:Int)
  ·rw [if_pos cl]
   refine hj6 _ _ (by dsimp only;omega) rfl ?_
   rw [e]
   show some (min z _)=_
   rw [Nat.min_eq_right (by omega)]
  ·rw [if_neg cl]
   refine hj6 _ z (by omega) a2 ?_
   rw [e]
   show some (min z _)=_
   rw [Nat.min_eq_left (by omega)]
theorem walk_sides (h:OkW w) (hs:Sd lo L) {S:List Int} (hSl:S.length=L) (hS:∀ t:Nat,t< L→rdL S (t:Int) 0=lo+(t:Int)) {i:Nat} (hi:i< w.length) {μ:Int} (hμ: -2000≤μ∧μ≤2000) {b:Qah} {v:Nat} (hb:b.QaW=(v:Int)) (hv:v≤16)
 {f:Int→Option Nat} {D:Int→Bool} (hD:D μ=false) (hf:f μ=some v) {xs0:List (Option Kb)} {K B C:Nat} (hC:1≤b.QaO∧b.QaO≤(C:Int)) (hcap:B+L*C≤100000000) {Kf:Ex (List (Option Kb)) (List (Option Kb))→Prop}
 (hK:∀ xs' kv',xs'.length=w.length+1→rdL xs' (i:Int) none=some kv'→Rb kv' (Fq lo L w[i] f (fun a=>D a||decide (a=μ))) (K+L) (B+L*C)→(∀ t:Nat,¬ t=i→rdL xs' (t:Int) none=rdL xs0 (t:Int) none)→Kf (.go xs')):
 ∀ (m j:Nat) (xs:List (Option Kb)) (kv:Kb),j≤L→L - j< m→xs.length=w.length+1→rdL xs (i:Int) none=some kv→Rb kv (Fp lo L w[i] f D μ j) (K+j) (B+j*C)→(∀ t:Nat,¬ t=i→rdL xs (t:Int) none=rdL xs0 (t:Int) none)→
 roundsD (fun s:List (Option Kb)×Int=>Qak.b4 N S (i:Int) w (μ,b) s.1 s.2) m (xs,(j:Int)) Kf:=by
 intro m
 induction m with
 |zero=>intro j xs kv _ hm;exact absurd hm (Nat.not_lt_zero _)
 |succ m ih=>
  intro j xs kv hj hm hl hkv r ho
  show Qak.b4 N S (i:Int) w (μ,b) xs (j:Int) _
  by_cases c:j< L
  ·have hjc:j*C+C=(j+1)*C:=by rw [Nat.succ_mul]
   have hle:(j+1)*C≤L*C:=Nat.mul_le_mul_right C (by omega)
   refine b4_step h hs hSl hS hi c hμ hb hv hl hkv r hC (by omega) fun xs' kv' l' k' r' o'=>?_
   refine ih (j+1) xs' kv' (by omega) (by omega) l' k' ((r'.congr fun a=>(Fp_step c hD hf a).symm).mono (by omega) (by omega)) fun t ht=>(o' t ht).trans (ho t ht)
  ·have:j=L:=by omega
   subst this
   have e:∀ Q,Q (.out (.go xs))→Qak.b4 N S (i:Int) w (μ,b) xs (j:Int) Q:=by
    intro Q hQ
    unfold Qak.b4
    rw [if_neg (by omega)]
    exact hQ
   exact e _ (hK xs kv hl hkv (r.congr fun a=>Fp_all a) ho)
structure Lb (f:Int→Option Nat) (C:Nat) (D:Int→Bool) (l:Kb):Prop where
 nd:(l.map (·.1)).Nodup
 el:∀ p∈l,∃ v:Nat,f p.1=some v∧p.2.QaW=(v:Int)∧D p.1=false
 so:∀ m v,f m=some v→D m=false→m∈l.map (·.1)
 wy:∀ p∈l,1≤p.2.QaO∧p.2.QaO≤(C:Int)
theorem Lb.step {f:Int→Option Nat} {C:Nat} {D:Int→Bool} {l rest:Kb} {p:Int×Qah} (hl:Lb f C D l) (hp:l.Perm (p::rest)):Lb f C (fun a=>D a||decide (a=p.1)) rest:=by
 have hk:(l.map (·.1)).Perm (p.1::rest.map (·.1)):=hp.map (·.1)
 have hnd:=(hk.nodup_iff).1 hl.nd
 obtain ⟨hnp,hnr⟩:=List.nodup_cons.1 hnd
 refine ⟨hnr,fun q hq=>?_,fun m v hm hd=>?_,fun q hq=>hl.wy q (hp.mem_iff.2 (List.mem_cons_of_mem _ hq))⟩
 ·obtain ⟨v,h1,h2,h3⟩:=hl.el q (hp.mem_iff.2 (List.mem_cons_of_mem _ hq))
  refine ⟨v,h1,h2,?_⟩
  have:¬ q.1=p.1:=fun g=>hnp (by rw [← g];exact List.mem_map.2 ⟨q,hq,rfl⟩)
  simp [h3,this]
 ·rw [Bool.or_eq_false_iff] at hd
  have h1:=hk.mem_iff.1 (hl.so m v hm hd.1)
  rcases List.mem_cons.1 h1 with h2|h2
  ·simp [h2] at hd
  ·exact h2
theorem sides_of (both:Bool):∃ S,Qby.f N both=some S∧S.length=LOf both∧∀ t:Nat,t< LOf both→rdL S (t:Int) 0=loOf both+(t:Int):=by
 cases both with
 |false=>
  refine ⟨[0,1],rfl,rfl,fun t ht=>?_⟩
  have:t=0∨t=1:=by have:LOf false=2:=rfl;omega
  rcases this with rfl|rfl<;>rfl
 |true=>
  refine ⟨[-1,0,1],rfl,rfl,fun t ht=>?_⟩
  have:t=0∨t=1∨t=2:=by have:LOf true=3:=rfl;omega
  rcases this with rfl|rfl|rfl<;>rfl
theorem walk_row (h:OkW w) (hN:5000< N) {both:Bool} {i:Nat} (hi:i< w.length) {kv1:Kb} {K1 C:Nat} (r1:Rb kv1 (bd (loOf both) (LOf both) w (i+1)) K1 C) {Tn:Nat} (hcap:Tn*(LOf both*C)≤100000000) {xs1:List (Option Kb)} (h1:rdL xs1 ((i+1:Nat):Int) none=some kv1) {xs00:List (Option Kb)} (h00:(rdL (stL xs00 (i:Int) (some ([]:Kb))) ((i+1:Nat):Int) none).getD []=kv1) {Kf:Ex (List (Option Kb)) (List (Option Kb))→Prop}
 (hK:∀ xs' kv',xs'.length=w.length+1→rdL xs' (i:Int) none=some kv'→Rb kv' (bd (loOf both) (LOf both) w i) (Tn*LOf both) (Tn*(LOf both*C))→(∀ t:Nat,¬ t=i→rdL xs' (t:Int) none=rdL xs1 (t:Int) none)→Kf (.go xs')):
 ∀ (m:Nat) (xs:List (Option Kb)) (l kv:Kb) (D:Int→Bool) (n:Nat),n+l.length=Tn→l.length< m→xs.length=w.length+1→rdL xs (i:Int) none=some kv→Rb kv (Fq (loOf both) (LOf both) w[i] (bd (loOf both) (LOf both) w (i+1)) D) (n*LOf both) (n*(LOf both*C))→(∀ t:Nat,¬ t=i→rdL xs (t:Int) none=rdL xs1 (t:Int) none)→Lb (bd (loOf both) (LOf both) w (i+1)) C D l→
 roundsD (fun s:List (Option Kb)×Kb=>Qak.b2 N (i:Int) xs00 both w s.1 s.2) m (xs,l) Kf:=by
 have h16:=h.l16
 have e1:i64w ((i:Int)+1)=((i+1:Nat):Int):=i64w_id (by omega) (by omega)
 intro m
 induction m with
 |zero=>intro xs l kv D n _ hm;exact absurd hm (Nat.not_lt_zero _)
 |succ m ih=>
  intro xs l kv D n hnl hm hl hkv r ho hlb
  show Qak.b2 N (i:Int) xs00 both w xs l _
  unfold Qak.b2
  refine ⟨by rw [e1,h00,ho (i+1) (by omega),h1],fun e=>?_,fun p rest hp=>?_⟩
  ·show Kf (.go xs)
   have hnT:n=Tn:=by rw [e,List.length_nil] at hnl;omega
   subst hnT
   refine hK xs kv hl hkv (r.congr fun a=>?_) ho
   rw [bd_step hi]
   unfold Fq
   refine Om_congr fun t _=>?_
   split
   ·rfl
   ·rename_i hd
    cases e2:bd (loOf both) (LOf both) w (i+1) (a - (loOf both+(t:Int))*w[i]) with
    |none=>rfl
    |some v=>
     have:=hlb.so _ v e2 (by simpa using hd)
     rw [e] at this
     cases this
  ·have hlen:=hp.length_eq
   simp only [List.length_cons] at hlen
   obtain ⟨v,f1,f2,f3⟩:=hlb.el p (hp.mem_iff.2 List.mem_cons_self)
   have rg:=bd_range h (sdOf both) f1
   obtain ⟨S,s1,s2,s3⟩:=sides_of (N:=N) both
   refine ⟨S,s1,?_⟩
   have hL:LOf both≤3:=by cases both<;>decide
   have hws:=hlb.wy p (hp.mem_iff.2 List.mem_cons_self)
   have hn1:n*(LOf both*C)+LOf both*C=(n+1)*(LOf both*C):=by rw [Nat.succ_mul]
   have hn2:n*LOf both+LOf both=(n+1)*LOf both:=by rw [Nat.succ_mul]
   have hn3:(n+1)*(LOf both*C)≤Tn*(LOf both*C):=Nat.mul_le_mul_right _ (by omega)
   refine walk_sides (N:=N) h (sdOf both) s2 s3 hi (μ:=p.1) (b:=p.2) ⟨rg.1,rg.2.1⟩ f2 rg.2.2 f3 f1 (xs0:=xs1) (K:=n*LOf both) (B:=n*(LOf both*C)) hws (by omega) ?_ N 0 xs kv (Nat.zero_le _) (by omega) hl hkv ((r.congr fun a=>(Fp_zero a).symm).mono (by omega) (by omega)) ho
   intro xs' kv' l' k' r' o'
   show roundsD _ m (xs',rest) Kf
   rw [hn1,hn2] at r'
   exact ih xs' rest kv' _ (n+1) (by omega) (by omega) l' k' r' o' (hlb.step hp)
theorem b0_row (h:OkW w) (h5:w.length≤5) (hN:5000< N) {both:Bool} {i:Nat} (hi:i< w.length) {xs:List (Option Kb)} (r:RepB (loOf both) (LOf both) w xs (i+1)) {Q:Bd (List (Option Kb)) (List (Option Kb)) (List (Option Kb)×Int)→Prop} (hQ:∀ xs',RepB (loOf both) (LOf both) w xs' i→Q (.next (xs',(i:Int) - 1))):
 Qak.b0 N both w xs (i:Int) Q:=by
 have h16:=h.l16
 have hl:=r.len
 have e1:i64w ((i:Int)+1)=((i+1:Nat):Int):=i64w_id (by omega) (by omega)
 obtain ⟨kv1,k1,k2⟩:=r.row (i+1) (Nat.le_refl _) (by omega)
 have k1':rdL (stL xs (i:Int) (some ([]:Kb))) ((i+1:Nat):Int) none=some kv1:=by rw [rdL_stL,if_neg (fun g=>by omega)];exact k1
 have hkl:=k2.len fun m v hv=>by have:=bd_range h (sdOf both) hv;exact ⟨this.1,this.2.1⟩
 unfold Qak.b0
 rw [if_pos (by omega),if_pos ⟨by omega,by omega⟩,e1,if_pos ⟨by omega,by rw [len_stL];omega⟩,if_pos (by rw [k1'];rfl),show (rdL (stL xs (i:Int) (some ([]:Kb))) ((i+1:Nat):Int) none).getD []=kv1 by rw [k1'];rfl]
 obtain ⟨d,hd⟩:∃ d,w.length=i+1+d:=⟨w.length - (i+1),by omega⟩
 have hd1:w.length - (i+1)=d:=by omega
 have hd2:w.length - i=d+1:=by omega
 rw [hd1] at k2
 have hL3:LOf both≤3:=by cases both<;>decide
 have hTn:kv1.length*(LOf both*Bn d)≤Bn (d+1):=Nat.mul_le_mul k2.ln (Nat.mul_le_mul_right _ hL3)
 have hTk:kv1.length*LOf both≤3^(d+1):=by rw [Nat.pow_succ];exact Nat.mul_le_mul k2.ln hL3
 have hB:=Bn_le (d+1) (by omega)
 refine walk_row (N:=N) h hN hi k2 (Tn:=kv1.length) (by omega) k1' (xs00:=xs) (by rw [k1'];rfl) ?_ N _ kv1 [] (fun _=>false) 0 (by omega) (by omega) (by rw [len_stL];exact hl) (by rw [rdL_stL,if_pos ⟨rfl,by omega⟩]) ⟨List.nodup_nil,fun p hp=>(by cases hp),fun m v hv=>?_,fun p hp=>(by cases hp),by simp⟩ (fun t _=>rfl) ⟨k2.nd,fun p hp=>by obtain ⟨v,a,b⟩:=k2.el p hp;exact ⟨v,a,b,rfl⟩,fun m v hm _=>k2.so m v hm,k2.wy⟩
 ·intro xs' kv' l' k' r' o'
  show Q (.next (xs',i64w ((i:Int) - 1)))
  rw [i64w_id (x:=(i:Int) - 1) (by omega) (by omega)]
  refine hQ xs' ⟨l',fun t ht1 ht2=>?_⟩
  by_cases e:t=i
  ·subst e;exact ⟨kv',k',by rw [hd2];exact r'.mono hTk hTn⟩
  ·obtain ⟨kv2,a,b⟩:=r.row t (by omega) ht2
   refine ⟨kv2,?_,b⟩
   rw [o' t e,rdL_stL,if_neg (fun g=>e g.1.symm)]
   exact a
 ·unfold Fq at hv
  rw [Om_nil (fun t _=>by simp)] at hv
  cases hv
theorem walk_rows (h:OkW w) (h5:w.length≤5) (hN:5000< N) {both:Bool} {Kf:Ex (List (Option Kb)) (List (Option Kb))→Prop} (hK:∀ xs,RepB (loOf both) (LOf both) w xs 0→Kf (.go xs)):
 ∀ (i m:Nat) (xs:List (Option Kb)),i≤w.length→i< m→RepB (loOf both) (LOf both) w xs i→roundsD (fun s:List (Option Kb)×Int=>Qak.b0 N both w s.1 s.2) m (xs,(i:Int) - 1) Kf:=by
 intro i
 induction i with
 |zero=>
  intro m xs _ hm r
  obtain ⟨m,rfl⟩:∃ j,m=j+1:=⟨m - 1,by omega⟩
  show Qak.b0 N both w xs (((0:Nat):Int) - 1) _
  have e:∀ Q,Q (.out (.go xs))→Qak.b0 N both w xs (((0:Nat):Int) - 1) Q:=by
   intro Q hQ
   unfold Qak.b0
   rw [if_neg (by omega)]
   exact hQ
  exact e _ (hK xs r)
 |succ i ih=>
  intro m xs hi hm r
  obtain ⟨m,rfl⟩:∃ j,m=j+1:=⟨m - 1,by omega⟩
  rw [show ((i+1:Nat):Int) - 1=(i:Int) by omega]
  show Qak.b0 N both w xs (i:Int) _
  exact b0_row h h5 hN (by omega) r fun xs' r'=>ih m xs' (by omega) (by omega) r'
theorem balances_all (h:OkW w) (h5:w.length≤5) (hN:5000< N) (both:Bool) {Q:List (Option Kb)→Prop} (hQ:∀ xs,RepB (loOf both) (LOf both) w xs 0→Q xs):Qak.f N w both Q:=by
 have h16:=h.l16
 have e1:i64w ((w.length:Int)+1)=((w.length+1:Nat):Int):=i64w_id (by omega) (by omega)
 have e2:i64w ((w.length:Int) - 1)=(w.length:Int) - 1:=i64w_id (by omega) (by omega)
 unfold Qak.f
 rw [e1,if_pos ⟨by omega,by omega⟩,Int.toNat_natCast,List.length_replicate,if_pos ⟨by omega,by omega⟩,e2]
 refine walk_rows (N:=N) h h5 hN (Kf:=Ex.finD (fun s=>Qak.a0 N s Q) Q) hQ w.length N _ (Nat.le_refl _) (by omega) ⟨by rw [len_stL,List.length_replicate],fun t h1 h2=>?_⟩
 have:t=w.length:=by omega
 subst this
 have hz:w.length - w.length=0:=Nat.sub_self _
 rw [hz]
 refine ⟨_,by rw [rdL_stL,if_pos ⟨rfl,by simp⟩],by simp [mSet,mIdx],fun p hp=>?_,fun m v hv=>?_,fun p hp=>?_,by simp [mSet,mIdx]⟩
 rotate_left
 rotate_left
 ·have:p=(0,(⟨1,0⟩:Qah)):=by simpa [mSet,mIdx] using hp
  subst this
  exact ⟨Int.le_refl _,by show (1:Int)≤((Bn 0:Nat):Int);decide⟩
 ·have:p=(0,(⟨1,0⟩:Qah)):=by simpa [mSet,mIdx] using hp
  subst this
  exact ⟨0,by rw [bd_last,if_pos rfl],rfl⟩
 ·rw [bd_last] at hv
  split at hv
  ·rename_i e;subst e;simp [mSet,mIdx]
  ·cases hv
end
theorem i8w_side {s:Int} (h1: -1≤s) (h2:s≤1):i8w s=s:=by
 have:s= -1∨s=0∨s=1:=by omega
 rcases this with rfl|rfl|rfl<;>decide
variable {w:List Int} {N:Nat}
def cs (both:Bool) (w:List Int) (i:Nat) (mass:Int) (t:Nat):Option Nat:=plus (bd (loOf both) (LOf both) w (i+1) (mass - (loOf both+(t:Int))*w.getD i 0)) (sq (loOf both+(t:Int)))
theorem Qcj (h:OkW w) {both:Bool} {X:List (List Int)} (r:RepT 4001 w.length X (Frw (loOf both) (LOf both) w 0)) {i j:Nat} (hi:i< w.length) (hj:j< LOf both) {mass:Int} {v:Nat} (hv:bd (loOf both) (LOf both) w i mass=some v) {p:List Int} (hp:p.length≤16):
 Qau.b2 N (i:Int) w X (mass+2000) p (loOf both+(j:Int))=if cs both w i mass j=some v then some (.out (.go (mass - (loOf both+(j:Int))*w[i]+2000,p++[loOf both+(j:Int)]))) else some (.next (mass+2000,p,loOf both+((j+1:Nat):Int))):=by
 have hs:=sdOf both
 obtain ⟨q1,q2,q3,q4⟩:=sq_le hs hj
 have hx:=w_range h hi
 have hl16:=h.l16
 have hm:=mul_range q3 q4 hx
 have hg:w.getD i 0=w[i]:=by simp [List.getD,hi]
 have hl:=r.len
 have hmr:=bd_range h hs hv
 have e1:i64w (loOf both+(j:Int)+1)=loOf both+((j+1:Nat):Int):=by rw [i64w_id (by omega) (by omega)];omega
 have e2:i64w w[i]=w[i]:=i64w_id (by omega) (by omega)
 have e3:i64w ((loOf both+(j:Int))*w[i])=(loOf both+(j:Int))*w[i]:=i64w_id (by omega) (by omega)
 have e4:i64w (mass+2000 - (loOf both+(j:Int))*w[i])=mass+2000 - (loOf both+(j:Int))*w[i]:=i64w_id (by omega) (by omega)
 have e5:i64w ((loOf both+(j:Int))*(loOf both+(j:Int)))=((sq (loOf both+(j:Int)):Nat):Int):=by rw [← q2];exact i64w_id (by omega) (by omega)
 have e7:i64w ((i:Int)+1)=((i+1:Nat):Int):=i64w_id (by omega) (by omega)
 unfold Qau.b2 Qau.j4
 rw [if_pos ((lo_le hs).1.2 hj),if_pos ⟨by omega,by omega⟩,rdL_nat hi,e1,e2,e3,e4,e5,e7]
 unfold Qbg.f
 have out:¬ (0≤mass+2000 - (loOf both+(j:Int))*w[i]∧mass+2000 - (loOf both+(j:Int))*w[i]≤4000)→cs both w i mass j=none:=by
  intro g
  unfold cs
  rw [hg]
  cases e:bd (loOf both) (LOf both) w (i+1) (mass - (loOf both+(j:Int))*w[i]) with
  |none=>rfl
  |some u=>
   have:=bd_range h hs e
   omega
 by_cases c1:mass+2000 - (loOf both+(j:Int))*w[i]≥0
 ·rw [if_pos c1,Option.bind_some]
  by_cases c2:mass+2000 - (loOf both+(j:Int))*w[i]≤4000
  ·rw [if_pos (decide_eq_true c2)]
   obtain ⟨q,eq⟩:=Int.eq_ofNat_of_zero_le c1
   obtain ⟨k,ek⟩:=Int.eq_ofNat_of_zero_le (show 0≤mass+2000 by omega)
   have r1:=r.row (i+1) (by omega)
   have r2:=r.row i (by omega)
   have v1:=r.val (i+1) (by omega) q (by omega)
   have v2:=r.val i (by omega) k (by omega)
   have f1:Frw (loOf both) (LOf both) w 0 (i+1) q=bd (loOf both) (LOf both) w (i+1) (mass - (loOf both+(j:Int))*w[i]):=by
    unfold Frw bdn
    rw [if_pos (Nat.zero_le _)]
    congr 1
    omega
   have f2:Frw (loOf both) (LOf both) w 0 i k=some v:=by
    unfold Frw bdn
    rw [if_pos (Nat.zero_le _),← hv]
    congr 1
    omega
   have f3:cs both w i mass j=plus (Frw (loOf both) (LOf both) w 0 (i+1) q) (sq (loOf both+(j:Int))):=by unfold cs;rw [f1,hg]
   have eout:mass - (loOf both+(j:Int))*w[i]+2000=(q:Int):=by omega
   rw [eq,eout,f3]
   rw [if_pos ⟨by omega,by omega⟩,if_pos ⟨by omega,by omega⟩,v1]
   cases e:Frw (loOf both) (LOf both) w 0 (i+1) q with
   |none=>
    rw [if_neg (show ¬ vi none≥0 by decide),if_neg (by unfold plus;simp)]
   |some u=>
    have hu:u≤16:=(bd_range h hs (f1.symm.trans e)).2.2
    have hc:i64w (vi (some u)+((sq (loOf both+(j:Int)):Nat):Int))=((u+sq (loOf both+(j:Int)):Nat):Int):=by
     show i64w ((u:Int)+_)=_
     rw [← Int.natCast_add]
     exact i64w_id (by omega) (by omega)
    rw [if_pos (show vi (some u)≥0 by simp only [vi];omega),if_pos ⟨by omega,by omega⟩,if_pos ⟨by omega,by omega⟩,if_pos ⟨by omega,by omega⟩,if_pos ⟨by omega,by omega⟩,hc,ek,v2,f2]
    by_cases c:u+sq (loOf both+(j:Int))=v
    ·rw [if_pos (show ((u+sq (loOf both+(j:Int)):Nat):Int)=vi (some v) by rw [c];rfl),if_pos (show plus (some u) (sq (loOf both+(j:Int)))=some v by rw [← c];rfl),if_pos (by simp;omega),i8w_side q3 q4]
    ·rw [if_neg (show ¬ ((u+sq (loOf both+(j:Int)):Nat):Int)=vi (some v) by simp only [vi];omega),if_neg (show ¬ plus (some u) (sq (loOf both+(j:Int)))=some v from fun g=>c (QsJ g))]
  ·rw [if_neg (by simpa using c2),if_neg (by rw [out (fun g=>c2 g.2)];simp)]
 ·rw [if_neg c1,Option.bind_some,if_neg Bool.false_ne_true,if_neg (by rw [out (fun g=>c1 g.1)];simp)]
theorem Qb5 (h:OkW w) {both:Bool} {S:List Int} (hSl:S.length=LOf both) (hS:∀ t:Nat,t< LOf both→rdL S (t:Int) 0=loOf both+(t:Int)) {xs:List (Option Kb)} (r:RepB (loOf both) (LOf both) w xs 0) {i j:Nat} (hi:i< w.length) (hj:j< LOf both) {mass:Int} {v:Nat} (hv:bd (loOf both) (LOf both) w i mass=some v) {p:List Int} (hp:p.length≤16) {Q:Bd (List Int×Int) (Int×List Int×Int) (Int×List Int×Int×Int)→Prop}
 (h1:cs both w i mass j=some v→Q (.out (.go (mass - (loOf both+(j:Int))*w[i],p++[loOf both+(j:Int)],(v:Int) - ((sq (loOf both+(j:Int)):Nat):Int))))) (h2:¬ cs both w i mass j=some v→Q (.next (mass,p,(v:Int),((j+1:Nat):Int)))):
 Qat.b2 N S (i:Int) xs w mass p (v:Int) (j:Int) Q:=by
 have hs:=sdOf both
 obtain ⟨q1,q2,q3,q4⟩:=sq_le hs hj
 have hx:=w_range h hi
 have hl16:=h.l16
 have hm:=mul_range q3 q4 hx
 have hg:w.getD i 0=w[i]:=by simp [List.getD,hi]
 have hl:=r.len
 have hmr:=bd_range h hs hv
 have hL:LOf both≤3:=by cases both<;>decide
 have e1:i64w ((j:Int)+1)=((j+1:Nat):Int):=i64w_id (by omega) (by omega)
 have e2:i64w w[i]=w[i]:=i64w_id (by omega) (by omega)
 have e3:i64w ((loOf both+(j:Int))*w[i])=(loOf both+(j:Int))*w[i]:=i64w_id (by omega) (by omega)
 have e4:i64w (mass - (loOf both+(j:Int))*w[i])=mass - (loOf both+(j:Int))*w[i]:=i64w_id (by omega) (by omega)
 have e5:i64w ((loOf both+(j:Int))*(loOf both+(j:Int)))=((sq (loOf both+(j:Int)):Nat):Int):=by rw [← q2];exact i64w_id (by omega) (by omega)
 have e6:i64w (loOf both+(j:Int))=loOf both+(j:Int):=i64w_id (by omega) (by omega)
 have e7:i64w ((i:Int)+1)=((i+1:Nat):Int):=i64w_id (by omega) (by omega)
 have e8:i64w ((v:Int) - ((sq (loOf both+(j:Int)):Nat):Int))=(v:Int) - ((sq (loOf both+(j:Int)):Nat):Int):=i64w_id (by omega) (by omega)
 obtain ⟨kv,k1,k2⟩:=r.row (i+1) (Nat.zero_le _) (by omega)
 have hgd:(rdL xs ((i+1:Nat):Int) none).getD []=kv:=by rw [k1];rfl
 unfold Qat.b2 Qat.j4
 rw [if_pos (by omega),if_pos ⟨by omega,by omega⟩,e7,if_pos ⟨by omega,by omega⟩,hgd,hS j hj,rdL_nat hi,e6,e2,e3,e4,e5,e1,e8]
 have f3:cs both w i mass j=plus (bd (loOf both) (LOf both) w (i+1) (mass - (loOf both+(j:Int))*w[i])) (sq (loOf both+(j:Int))):=by unfold cs;rw [hg]
 cases e:bd (loOf both) (LOf both) w (i+1) (mass - (loOf both+(j:Int))*w[i]) with
 |none=>
  rw [if_neg (k2.at_none e)]
  exact h2 (by rw [f3,e];unfold plus;simp)
 |some u=>
  obtain ⟨a1,a2⟩:=k2.at_some e Qan
  have hu:u≤16:=(bd_range h hs e).2.2
  have hc:i64w ((u:Int)+((sq (loOf both+(j:Int)):Nat):Int))=((u+sq (loOf both+(j:Int)):Nat):Int):=by
   rw [← Int.natCast_add]
   exact i64w_id (by omega) (by omega)
  rw [if_pos a1,a2,hc]
  by_cases c:u+sq (loOf both+(j:Int))=v
  ·rw [if_pos (by rw [c]),if_pos (by simp;omega)]
   exact h1 (by rw [f3,e,← c];rfl)
  ·rw [if_neg (by omega)]
   exact h2 (by rw [f3,e];exact fun g=>c (QsJ g))
theorem sides_both (h:OkW w) {both:Bool} {S:List Int} (hSl:S.length=LOf both) (hS:∀ t:Nat,t< LOf both→rdL S (t:Int) 0=loOf both+(t:Int)) {X:List (List Int)} (r:RepT 4001 w.length X (Frw (loOf both) (LOf both) w 0)) {i:Nat} (hi:i< w.length) {mass:Int} {v:Nat} (hv:bd (loOf both) (LOf both) w i mass=some v) {p:List Int} (hp:p.length≤16) {t0:Nat} (ht0:t0< LOf both) (hc0:cs both w i mass t0=some v):
 ∀ (m j:Nat),j≤t0→LOf both - j< m→∃ t,t< LOf both∧cs both w i mass t=some v∧
  rounds (fun q=>Qau.b2 N (i:Int) w X q.1 q.2.1 q.2.2) m (mass+2000,p,loOf both+(j:Int))=some (.go (mass - (loOf both+(t:Int))*w[i]+2000,p++[loOf both+(t:Int)]))∧
  ∀ xs:List (Option Kb),RepB (loOf both) (LOf both) w xs 0→∀ Kf:Ex (List Int×Int) (Int×List Int×Int)→Prop,Kf (.go (mass - (loOf both+(t:Int))*w[i],p++[loOf both+(t:Int)],(v:Int) - ((sq (loOf both+(t:Int)):Nat):Int)))→roundsD (fun q:Int×List Int×Int×Int=>Qat.b2 N S (i:Int) xs w q.1 q.2.1 q.2.2.1 q.2.2.2) m (mass,p,(v:Int),(j:Int)) Kf:=by
 intro m
 induction m with
 |zero=>intro j _ hm;exact absurd hm (Nat.not_lt_zero _)
 |succ m ih=>
  intro j hj hm
  have hjL:j< LOf both:=by omega
  have hsp:=Qcj (N:=N) h r hi hjL hv hp
  by_cases c:cs both w i mass j=some v
  ·rw [if_pos c] at hsp
   refine ⟨j,hjL,c,rounds_out hsp,fun xs r' Kf hK=>?_⟩
   show Qat.b2 N S (i:Int) xs w mass p (v:Int) (j:Int) _
   exact Qb5 h hSl hS r' hi hjL hv hp (fun _=>hK) (fun g=>absurd c g)
  ·rw [if_neg c] at hsp
   have hne:¬ j=t0:=fun e=>c (by rw [e];exact hc0)
   obtain ⟨t,t1,t2,t3,t4⟩:=ih (j+1) (by omega) (by omega)
   refine ⟨t,t1,t2,(rounds_next (b:=fun q:Int×List Int×Int=>Qau.b2 N (i:Int) w X q.1 q.2.1 q.2.2) (s:=(mass+2000,p,loOf both+(j:Int))) hsp).trans t3,fun xs r' Kf hK=>?_⟩
   show Qat.b2 N S (i:Int) xs w mass p (v:Int) (j:Int) _
   exact Qb5 h hSl hS r' hi hjL hv hp (fun g=>absurd g c) (fun _=>t4 xs r' Kf hK)
theorem b0_impl {both:Bool} {S:List Int} (hs:Qby.f N both=some S) {xs:List (Option Kb)} {i:Nat} (hi:i< w.length) (h16:w.length≤16) {mass:Int} {p:List Int} {v:Int} {Q:Bd (List Int×Int) (List Int) (Int×List Int×Int×Int)→Prop}
 (hK:roundsD (fun q:Int×List Int×Int×Int=>Qat.b2 N S (i:Int) xs w q.1 q.2.1 q.2.2.1 q.2.2.2) N (mass,p,v,0) (Ex.finBD (fun s=>Qat.a2 N (i:Int) s.1 s.2.1 s.2.2 Q) Q)):Qat.b0 N w both xs mass p v (i:Int) Q:=by
 unfold Qat.b0
 rw [if_pos (by omega),if_pos ⟨by omega,by omega⟩]
 exact ⟨S,hs,hK⟩
end Go.Proofs.YtmineidejeacnaaGreatDoorX
namespace Go.Proofs.YtmineidejeacnaaGreatDoorX
open Go
theorem decimal_eq (N:Nat) {n:Int} (h0:0≤n) (h1:n< 100000):Qbi.f N n=some ⟨(Lib.decDigits n.toNat).toArray⟩:=by
 have e:Lib.itoa n=Lib.decDigits n.toNat:=by unfold Lib.itoa;rw [if_neg (by omega)]
 simp only [Qbi.f,strconv_FormatInt.f]
 rw [if_pos ⟨⟨by omega,by omega⟩,trivial⟩,e]
 rfl
end Go.Proofs.YtmineidejeacnaaGreatDoorX
namespace Go.Proofs.YtmineidejeacnaaGreatDoorX
open Go
set_option linter.unusedVariables false
set_option linter.unusedSimpArgs false
theorem join_snoc (sep:List UInt8) (xs:List (List UInt8)) (y:List UInt8):Lib.join (xs++[y]) sep=if xs=[] then y else Lib.join xs sep++sep++y:=by
 cases xs with
 |nil=>simp [Lib.join_one]
 |cons x r=>
  rw [if_neg (by simp),List.cons_append,Lib.join_cons,Lib.join_cons]
  simp [Lib.joinTail,List.append_assoc]
theorem ba_size (x:List UInt8):(⟨x.toArray⟩:ByteArray).size=x.length:=by simp [ByteArray.size]
theorem nd_le (u:Nat):Lib.nDigits u≤u+1:=by
 induction u using Nat.strongRecOn with
 |_ u ih=>
  by_cases h:u< 10
  ·rw [Lib.nDigits_small h];omega
  ·rw [Lib.nDigits_big h]
   have:=ih (u/10) (by omega)
   omega
theorem dec_len (u:Nat):(Lib.decDigits u).length≤u+1:=by rw [Lib.decDigits_length];exact nd_le u
def spl (c:UInt8):List UInt8→List UInt8→List (List UInt8)
 |cur,[]=>[cur]
 |cur,x::l=>if x=c then cur::spl c [] l else spl c (cur++[x]) l
theorem spl_miss {c:UInt8}:∀ (l cur:List UInt8),c∉l→spl c cur l=[cur++l]
 |[],cur,_=>by simp [spl]
 |x::l,cur,h=>by
  simp only [List.mem_cons,not_or] at h
  unfold spl
  rw [if_neg (fun e=>h.1 e.symm),spl_miss l _ h.2]
  simp
theorem spl_hit {c:UInt8}:∀ (pre cur post:List UInt8),c∉pre→spl c cur (pre++c::post)=(cur++pre)::spl c [] post
 |[],cur,post,_=>by
  show spl c cur (c::post)=_
  rw [spl,if_pos rfl]
  simp
 |x::l,cur,post,h=>by
  simp only [List.mem_cons,not_or] at h
  rw [List.cons_append]
  rw [show spl c cur (x::(l++c::post))=spl c (cur++[x]) (l++c::post) by rw [spl,if_neg (fun e=>h.1 e.symm)],spl_hit l _ post h.2]
  simp
theorem index_miss {c:UInt8}:∀ (l:List UInt8),c∉l→Lib.index l [c]= -1
 |[],_=>rfl
 |x::l,h=>by
  simp only [List.mem_cons,not_or] at h
  unfold Lib.index
  have:([c]:List UInt8).isPrefixOf (x::l)=false:=by simp [List.isPrefixOf,h.1]
  rw [this,index_miss l h.2]
  rfl
theorem index_hit {c:UInt8}:∀ (pre post:List UInt8),c∉pre→Lib.index (pre++c::post) [c]=(pre.length:Int)
 |[],post,_=>by
  show Lib.index (c::post) [c]=0
  unfold Lib.index
  have:([c]:List UInt8).isPrefixOf (c::post)=true:=by simp [List.isPrefixOf]
  rw [this];rfl
 |x::l,post,h=>by
  simp only [List.mem_cons,not_or] at h
  rw [List.cons_append]
  unfold Lib.index
  have:([c]:List UInt8).isPrefixOf (x::(l++c::post))=false:=by simp [List.isPrefixOf,h.1]
  rw [this,index_hit l post h.2]
  have h1:((l.length:Int)== -1)=false:=by simp
  rw [h1]
  simp
theorem split_eq {c:UInt8}:∀ (n:Nat) (l:List UInt8),l.length≤n→Lib.splitK [c] 0 (Lib.count l [c]) l=spl c [] l:=by
 intro n
 induction n with
 |zero=>
  intro l h
  obtain rfl:l=[]:=List.length_eq_zero_iff.1 (by omega)
  rw [Lib.count_miss (index_miss [] (by simp))]
  rfl
 |succ n ih=>
  intro l h
  by_cases hc:c∈l
  ·obtain ⟨pre,post,rfl,hp⟩:=List.eq_append_cons_of_mem hc
   have hi:=index_hit pre post hp
   have hd:(pre++c::post).drop (pre.length+([c]:List UInt8).length)=post:=by
    rw [List.length_singleton,show pre++c::post=(pre++[c])++post by simp,show pre.length+1=(pre++[c]).length by simp,List.drop_left]
   rw [Lib.count_hit (by simp) hi,hd,Nat.add_comm 1,spl_hit pre [] post hp]
   unfold Lib.splitK
   have h1:(Lib.index (pre++c::post) [c]== -1)=false:=by rw [hi];simp
   rw [h1,hi,Int.toNat_natCast,hd,Nat.add_zero,List.take_left,ih post (by simp at h;omega)]
   rfl
  ·rw [Lib.count_miss (index_miss l hc),spl_miss l [] hc]
   rfl
theorem QbT {c:UInt8} (s:ByteArray):(Lib.splitB ⟨#[c]⟩ 0 (Lib.countB s ⟨#[c]⟩) s).map (·.data.toList)=spl c [] s.data.toList:=by
 rw [Lib.splitB_data]
 exact split_eq _ _ (Nat.le_refl _)
theorem sz (s:ByteArray):s.size=s.data.toList.length:=by rw [Array.length_toList];rfl
theorem data_inj:∀ {xs ys:List ByteArray},xs.map (·.data.toList)=ys.map (·.data.toList)→xs=ys
 |[],[],_=>rfl
 |[],_::_,h=>by simp at h
 |_::_,[],h=>by simp at h
 |x::xs,y::ys,h=>by
  rw [List.map_cons,List.map_cons,List.cons.injEq] at h
  obtain rfl:x=y:=ByteArray.ext (Array.toList_inj.1 h.1)
  rw [data_inj h.2]
theorem spl_len {c:UInt8}:∀ (l cur p:List UInt8),p∈spl c cur l→p.length≤cur.length+l.length
 |[],cur,p,h=>by
  simp only [spl,List.mem_singleton] at h
  subst h;simp
 |x::l,cur,p,h=>by
  unfold spl at h
  by_cases hx:x=c
  ·rw [if_pos hx] at h
   rcases List.mem_cons.1 h with rfl|h
   ·simp
   ·have:=spl_len l [] p h
    simp at this ⊢;omega
  ·rw [if_neg hx] at h
   have:=spl_len l (cur++[x]) p h
   simp at this ⊢;omega
theorem word_len {s p:ByteArray} {c:UInt8} (h:p∈Lib.splitB ⟨#[c]⟩ 0 (Lib.countB s ⟨#[c]⟩) s):p.size≤s.size:=by
 have h1:p.data.toList∈(Lib.splitB ⟨#[c]⟩ 0 (Lib.countB s ⟨#[c]⟩) s).map (·.data.toList):=List.mem_map.2 ⟨p,h,rfl⟩
 rw [QbT] at h1
 have:=spl_len _ _ _ h1
 rw [sz,sz]
 simpa using this
theorem split_impl {N:Nat} {s:ByteArray} {c:UInt8} (hs:s.size≤1048576):strings_Split.f N s ⟨#[c]⟩=some (Lib.splitB ⟨#[c]⟩ 0 (Lib.countB s ⟨#[c]⟩) s):=by
 unfold strings_Split.f
 rw [if_pos ⟨by omega,Nat.le_refl 1⟩]
def dd:Nat→Nat→List UInt8
 |0,_=>[]
 |k+1,n=>if n< 10 then [UInt8.ofNat (48+n)] else dd k (n/10)++[UInt8.ofNat (48+n%10)]
theorem dd_eq (k:Nat):∀ n:Nat,n< 10^(k+1)→Lib.decDigits n=dd (k+1) n:=by
 induction k with
 |zero=>
  intro n h
  have h10:n< 10:=by simpa using h
  rw [Lib.decDigits,dif_pos h10,dd,if_pos h10]
 |succ k ih=>
  intro n h
  by_cases h10:n< 10
  ·rw [Lib.decDigits,dif_pos h10,dd,if_pos h10]
  ·rw [Nat.pow_succ] at h
   rw [Lib.decDigits,dif_neg h10,dd,if_neg h10,ih (n/10) (by omega)]
theorem dd5 {n:Nat} (h:n≤2000):Lib.decDigits n=dd 4 n:=dd_eq 3 n (by omega)
theorem parse_lit:∀ n:Nat,n< 2001→parsed (dd 4 n)=((n:Int),false):=by decide+kernel
theorem parsed_lit {n:Nat} (h:n≤2000):parsed (Lib.decDigits n)=((n:Int),false):=by rw [dd5 h];exact parse_lit n (by omega)
theorem parsed_range {l:List UInt8} (h:(parsed l).2=false): -9223372036854775808≤(parsed l).1∧(parsed l).1≤9223372036854775807:=by
 unfold parsed at h ⊢
 cases hp:Lib.parseIntB 64 l with
 |ok v=>
  show -9223372036854775808≤v∧v≤9223372036854775807
  unfold Lib.parseIntB at hp
  cases l with
  |nil=>cases hp
  |cons c r=>
   simp only at hp
   cases hq:Lib.parseUintB 64 (if c.toNat=43∨c.toNat=45 then r else c::r) with
   |ok u=>
    rw [hq] at hp
    simp only at hp
    split at hp
    ·cases hp
    ·split at hp
     ·cases hp
     ·rename_i h1 h2
      have:=Lib.NumEnd.ok.inj hp
      by_cases hn:c.toNat=45
      ·rw [if_pos hn] at this
       have:¬ (2^63< u):=fun g=>h2 ⟨hn,g⟩
       omega
      ·rw [if_neg hn] at this
       have:¬ (2^63≤u):=fun g=>h1 ⟨hn,g⟩
       omega
   |_=>rw [hq] at hp;cases hp
 |_=>rw [hp] at h;cases h
def nuI (most:Int) (l:List UInt8):Int×Bool:=if (parsed l).2=true then (0,false) else if Lib.itoa (parsed l).1=l then (if 0≤(parsed l).1 then (if (parsed l).1≤most then ((parsed l).1,true) else (0,false)) else (0,false)) else (0,false)
theorem ba_litI {w:ByteArray} {l:List UInt8}:((⟨l.toArray⟩:ByteArray).toList=w.toList)↔l=w.data.toList:=by
 rw [Lib.toList_data,Lib.toList_data]
theorem number_impl (N:Nat) {w:ByteArray} {most:Int} (hs:w.size≤1048576):QbB.f N w most=some (nuI most w.data.toList):=by
 unfold QbB.f strconv_ParseInt.f nuI
 rw [if_pos ⟨by omega,rfl,rfl⟩,Option.bind_some]
 by_cases h2:(parsed w.data.toList).2=true
 ·rw [if_pos h2,if_pos h2]
 ·have hr:=parsed_range (l:=w.data.toList) (by simpa using h2)
  have hd:Qbi.f N (parsed w.data.toList).1=some ⟨(Lib.itoa (parsed w.data.toList).1).toArray⟩:=by
   unfold Qbi.f strconv_FormatInt.f
   rw [if_pos ⟨hr,rfl⟩]
   rfl
  rw [if_neg h2,if_neg h2,hd,Option.bind_some]
  by_cases h3:Lib.itoa (parsed w.data.toList).1=w.data.toList
  ·rw [if_pos (ba_litI.2 h3),if_pos h3]
   unfold Qa5.f
   by_cases h4:0≤(parsed w.data.toList).1
   ·rw [if_pos h4,if_pos h4,Option.bind_some]
    by_cases h5:(parsed w.data.toList).1≤most
    ·rw [decide_eq_true h5,if_pos rfl,if_pos h5]
    ·rw [decide_eq_false h5,if_neg Bool.false_ne_true,if_neg h5]
   ·rw [if_neg h4,if_neg h4,Option.bind_some,if_neg Bool.false_ne_true]
  ·rw [if_neg (fun g=>h3 (ba_litI.1 g)),if_neg h3]
theorem nuI_lit {most:Int} (hm:most≤2000) {n:Nat} (h:(n:Int)≤most):nuI most (Lib.decDigits n)=((n:Int),true):=by
 unfold nuI
 rw [parsed_lit (by omega)]
 have e:Lib.itoa (n:Int)=Lib.decDigits n:=by unfold Lib.itoa;rw [if_neg (by omega),Int.toNat_natCast]
 rw [if_neg Bool.false_ne_true,if_pos e,if_pos (by omega),if_pos h]
abbrev V:=List Int×Int
abbrev rwS (acc:List Int) (w:ByteArray):Ex (Ex V (List Int)) (List Int):=if (nuI 2000 w.data.toList).2=true then .go (acc++[i16w (nuI 2000 w.data.toList).1]) else .ret (.ret ([],5))
abbrev rF (acc:List Int):Ex V (List Int):= .go acc
theorem Qch {N:Nat} {ws:List ByteArray} (hw:∀ w∈ws,w.size≤1048576) (hl:ws.length≤1048577) (hN:3000000< N):rounds (fun s=>QaG.b0 N ws s.1 s.2) N (([]:List Int),0)=some (walk rwS rF [] ws):=by
 refine rounds_walk0 (fun acc i=>(acc,i)) ws rwS rF (fun i acc=>acc.length=i) (by omega) rfl ?_ ?_
 ·intro acc i hi hI
  have g1:(i:Int)< ws.length:=by omega
  have g2:(0:Int)≤i:=by omega
  have hz:=hw _ (List.getElem_mem hi)
  have hb:QaG.b0 N ws acc (i:Int)=if (nuI 2000 (ws[i]).data.toList).2=true then some (.next (acc++[i16w (nuI 2000 (ws[i]).data.toList).1],((i+1:Nat):Int))) else some (.out (.ret ([],5))):=by
   unfold QaG.b0
   rw [if_pos g1,if_pos ⟨g2,g1⟩,rdL_nat hi,number_impl N hz,Option.bind_some,i64w_succ hi (by omega)]
   by_cases c:(nuI 2000 (ws[i]).data.toList).2=true
   ·rw [if_pos c,if_pos c,if_pos (by rw [List.length_singleton];omega)]
   ·rw [if_neg c,if_neg c]
  by_cases c:(nuI 2000 (ws[i]).data.toList).2=true
  ·rw [show rwS acc ws[i]= .go (acc++[i16w (nuI 2000 (ws[i]).data.toList).1]) from if_pos c]
   refine ⟨by rw [List.length_append,List.length_singleton,hI],?_⟩
   show QaG.b0 N ws acc (i:Int)=_
   rw [hb,if_pos c]
  ·rw [show rwS acc ws[i]= .ret (.ret ([],5)) from if_neg c]
   show QaG.b0 N ws acc (i:Int)=_
   rw [hb,if_neg c]
 ·intro acc _
  show QaG.b0 N ws acc (ws.length:Int)=_
  unfold QaG.b0
  rw [if_neg (by omega)]
def dgs (x:Int):List UInt8:=Lib.decDigits x.toNat
theorem dgs_len {x:Int} (h0:0≤x) (h1:x≤32767):(dgs x).length≤32768:=by
 have:=dec_len x.toNat
 show (Lib.decDigits x.toNat).length≤32768
 omega
theorem dgs_impl {N:Nat} {x:Int} (h0:0≤x) (h1:x≤32767):Qbi.f N (i64w x)=some ⟨(dgs x).toArray⟩:=by
 rw [i64w_id (by omega) (by omega),decimal_eq N h0 (by omega)]
 rfl
def jg (a:List Int) (k:Nat):List UInt8:=Lib.join ((a.take k).map dgs) [32]
theorem jg_succ {a:List Int} {k:Nat} (h:k< a.length):jg a (k+1)=if k=0 then dgs a[k] else (jg a k++[32])++dgs a[k]:=by
 unfold jg
 rw [List.take_add_one,List.getElem?_eq_getElem h,List.map_append]
 show Lib.join ((a.take k).map dgs++[dgs a[k]]) [32]=_
 rw [join_snoc]
 by_cases hk:k=0
 ·subst hk;simp
 ·have:¬ (a.take k).map dgs=[]:=by
   intro e
   have e2:((a.take k).map dgs).length=0:=by rw [e];rfl
   rw [List.length_map,List.length_take] at e2
   omega
  rw [if_neg this,if_neg hk]
def inW (a:List Int):Prop:=∀ x∈a,0≤x∧x≤32767
theorem jg_len {a:List Int} (h:inW a) (k:Nat):k≤a.length→(jg a k).length≤32769*k:=by
 induction k with
 |zero=>intro _;simp [jg,Lib.join_nil]
 |succ k ih=>
  intro hk
  have:=ih (by omega)
  have hx:=h _ (List.getElem_mem (show k< a.length by omega))
  have w:=dgs_len hx.1 hx.2
  rw [jg_succ (by omega)]
  by_cases h0:k=0
  ·rw [if_pos h0];omega
  ·rw [if_neg h0,List.length_append,List.length_append,List.length_singleton];omega
theorem words_impl {N:Nat} {a:List Int} (h:inW a) (h16:a.length≤16) (hN:40000< N):rounds (fun s=>QaI.b0 N a s.1 s.2) N (([]:List ByteArray),0)=some (.go (a.map fun x=>(⟨(dgs x).toArray⟩:ByteArray))):=by
 have q:=rounds_for (b:=fun s=>QaI.b0 N a s.1 s.2) (e:= .go (a.map fun x=>(⟨(dgs x).toArray⟩:ByteArray))) (fun k=>((a.take k).map fun x=>(⟨(dgs x).toArray⟩:ByteArray),(k:Int))) a.length 0 N (by omega) (by omega) (by
  intro i _ hi
  have hx:=h _ (List.getElem_mem hi)
  have g1:(i:Int)< a.length:=by omega
  show QaI.b0 N a _ (i:Int)=_
  unfold QaI.b0
  rw [if_pos g1,if_pos ⟨by omega,by omega⟩,rdL_nat hi,dgs_impl hx.1 hx.2,Option.bind_some,if_pos (by rw [List.length_map,List.length_take,List.length_singleton];omega),i64w_succ hi (by omega),List.take_add_one,List.getElem?_eq_getElem hi,List.map_append]
  rfl) (by
  show QaI.b0 N a _ (a.length:Int)=_
  unfold QaI.b0
  rw [if_neg (by omega)]
  simp)
 simpa using q
abbrev Src:=Qav
theorem and_255 (x:Int):0≤bAnd .u64 x 255∧bAnd .u64 x 255≤255:=by
 have h:(BitVec.ofInt IntKind.u64.bits x&&&BitVec.ofInt IntKind.u64.bits 255).toNat≤255:=by
  show (BitVec.ofInt 64 x&&&BitVec.ofInt 64 255).toNat≤255
  rw [BitVec.toNat_and]
  have:(BitVec.ofInt 64 255).toNat=255:=by decide
  rw [this]
  exact Nat.and_le_right
 have e:bAnd .u64 x 255=((BitVec.ofInt IntKind.u64.bits x&&&BitVec.ofInt IntKind.u64.bits 255).toNat:Int):=u64w_id (by omega) (by omega)
 omega
def SrcOk (s:Src) (b:Int):Prop:=(∀ x∈s.QaQ,0≤x∧x≤255)∧0≤s.QaY∧s.QaY≤b∧b≤1000000∧s.QaQ.length≤1000000
theorem next_ok {N:Nat} {s:Src} {b:Int} (h:SrcOk s b):∃ x a d,QaX.f N s=some (x,⟨s.QaQ,a,d⟩)∧0≤x∧x≤255∧a=s.QaY+1:=by
 obtain ⟨hc,h0,h1,h2,h3⟩:=h
 have e1:i64w (s.QaY+1)=s.QaY+1:=i64w_id (by omega) (by omega)
 have main:∀ x,0≤x→x≤255→∃ y a d,QaX.j0 N s x=some (y,⟨s.QaQ,a,d⟩)∧0≤y∧y≤255∧a=s.QaY+1:=by
  intro x x0 x1
  unfold QaX.j0
  rw [e1]
  by_cases c:s.QaY+1≤(s.QaQ.length:Int)
  ·rw [if_pos c]
   exact ⟨_,_,_,rfl,x0,x1,rfl⟩
  ·rw [if_neg c]
   have q:=and_255 (shrI .u64 (u64w ((u64w ((u64w (s.QaN*6364136223846793005))+(u64w x)))+1442695040888963407)) 40)
   exact ⟨_,_,_,rfl,by rw [i64w_id (by omega) (by omega)];exact q.1,by rw [i64w_id (by omega) (by omega)];exact q.2,rfl⟩
 unfold QaX.f
 by_cases c:s.QaY< (s.QaQ.length:Int)
 ·rw [if_pos c,if_pos ⟨h0,c⟩]
  have hm:=hc (rdL s.QaQ s.QaY 0) (by
   obtain ⟨i,hi⟩:=Int.eq_ofNat_of_zero_le h0
   rw [hi] at c ⊢
   rw [rdL_nat (by omega)]
   exact List.getElem_mem _)
  exact main _ (by rw [i64w_id (by omega) (by omega)];exact hm.1) (by rw [i64w_id (by omega) (by omega)];exact hm.2)
 ·rw [if_neg c]
  exact main 0 (by decide) (by decide)
theorem pick_ok {N:Nat} {s:Src} {b n:Int} (h:SrcOk s b) (hn:2≤n∧n≤200):∃ x a d,QaD.f N s n=some (x,⟨s.QaQ,a,d⟩)∧0≤x∧x< n∧a=s.QaY+1:=by
 obtain ⟨x,a,d,e,x0,x1,ha⟩:=next_ok (N:=N) h
 have e':QaX.f N (⟨s.QaQ,s.QaY,s.QaN⟩:Src)=some (x,⟨s.QaQ,a,d⟩):=e
 refine ⟨x.tmod n,a,d,?_,Int.tmod_nonneg _ x0,Int.tmod_lt_of_pos _ (by omega),ha⟩
 simp only [QaD.f,if_neg (show ¬ n≤1 by omega),e',Option.bind_some,if_neg (show ¬ n>200 by omega),if_pos (show ¬ n=0 by omega)]
theorem SrcOk.next {s:Src} {b:Int} (h:SrcOk s b) (hb:b< 1000000) {a d:Int} (ha:a=s.QaY+1):SrcOk ⟨s.QaQ,a,d⟩ (b+1):=by
 obtain ⟨h1,h2,h3,h4,h5⟩:=h
 exact ⟨h1,by dsimp only;omega,by dsimp only;omega,by omega,h5⟩
structure OkA (w:List Int):Prop where
 pos:1≤w.length
 len:w.length≤16
 sorted:w.Pairwise (· ≤·)
 range:∀ x∈w,1≤x∧x≤2000
 sum:w.sum≤2000
theorem sumA_le {w:List Int} (h:∀ x∈w,x≤35):w.sum≤35*(w.length:Int):=by
 induction w with
 |nil=>simp
 |cons a w ih=>
  have h1:=h a (by simp)
  have h2:=ih (fun x hx=>h x (by simp [hx]))
  simp only [List.sum_cons,List.length_cons]
  omega
theorem OkA.small {w:List Int} (h0:1≤w.length) (h1:w.length≤5) (h2:w.Pairwise (· ≤·)) (h3:∀ x∈w,1≤x∧x≤35):OkA w:=
 ⟨h0,by omega,h2,fun x hx=>by have:=h3 x hx;omega,by have:=sumA_le (fun x hx=>(h3 x hx).2);omega⟩
def zeroSrc (code:List Int):Src:=⟨code,0,0⟩
theorem drawn_ok {N:Nat} {code:List Int} (hc:∀ x∈code,0≤x∧x≤255) (hl:code.length≤1000000) (hN:100< N):∃ w,Qbt.f N code=some w∧OkA w∧w.length≤5:=by
 have h0:SrcOk (zeroSrc code) 0:=⟨hc,Int.le_refl _,Int.le_refl _,by decide,hl⟩
 have main:∃ w s,Qa1.f N (zeroSrc code)=some (w,s)∧OkA w∧w.length≤5:=by
  obtain ⟨x1,a1,d1,e1,r1,q1,t1⟩:=pick_ok (N:=N) h0 (n:=4) (by decide)
  have h1:=h0.next (d:=d1) (by decide) t1
  have e1':QaD.f N (⟨(zeroSrc code).QaQ,(zeroSrc code).QaY,(zeroSrc code).QaN⟩:Src) 4=some (x1,⟨code,a1,d1⟩):=e1
  simp only [Qa1.f,e1',Option.bind_some]
  by_cases c0:x1=0
  ·obtain ⟨x2,a2,d2,e2,r2,q2,t2⟩:=pick_ok (N:=N) h1 (n:=4) (by decide)
   have e2':QaD.f N (⟨(zeroSrc code).QaQ,a1,d1⟩:Src) 4=some (x2,⟨code,a2,d2⟩):=e2
   simp only [if_pos c0,e2',Option.bind_some,i64w_id (x:=1+x2) (by omega) (by omega)]
   rw [if_pos ⟨by omega,by omega,by simp;omega⟩]
   refine ⟨_,_,rfl,?_⟩
   obtain rfl|rfl|rfl|rfl:x2=0∨x2=1∨x2=2∨x2=3:=by omega
   all_goals exact ⟨OkA.small (by decide) (by decide) (by decide) (by decide),by decide⟩
  ·by_cases c1:x1=1
   ·obtain ⟨x2,a2,d2,e2,r2,q2,t2⟩:=pick_ok (N:=N) h1 (n:=5) (by decide)
    have e2':QaD.f N (⟨(zeroSrc code).QaQ,a1,d1⟩:Src) 5=some (x2,⟨code,a2,d2⟩):=e2
    simp only [if_neg c0,if_pos c1,e2',Option.bind_some,i64w_id (x:=1+x2) (by omega) (by omega)]
    rw [if_pos ⟨by omega,by omega,by simp;omega⟩]
    refine ⟨_,_,rfl,?_⟩
    obtain rfl|rfl|rfl|rfl|rfl:x2=0∨x2=1∨x2=2∨x2=3∨x2=4:=by omega
    all_goals exact ⟨OkA.small (by decide) (by decide) (by decide) (by decide),by decide⟩
   ·obtain ⟨x2,a2,d2,e2,r2,q2,t2⟩:=pick_ok (N:=N) h1 (n:=3) (by decide)
    have h2:=h1.next (d:=d2) (by decide) t2
    have e2':QaD.f N (⟨(zeroSrc code).QaQ,a1,d1⟩:Src) 3=some (x2,⟨code,a2,d2⟩):=e2
    obtain ⟨x3,a3,d3,e3,r3,q3,t3⟩:=pick_ok (N:=N) h2 (n:=5) (by decide)
    have h3:=h2.next (d:=d3) (by decide) t3
    have e3':QaD.f N (⟨(zeroSrc code).QaQ,a2,d2⟩:Src) 5=some (x3,⟨code,a3,d3⟩):=e3
    simp only [if_neg c0,if_neg c1,e2',e3',Option.bind_some,i64w_id (x:=1+x2) (by omega) (by omega),i64w_id (x:=1+x3) (by omega) (by omega)]
    obtain ⟨e,he,w,a,d,rfl,hw⟩:=rounds_ends (b:=fun s=>Qa1.b0 N (zeroSrc code) s.1 s.2.1 s.2.2.1 s.2.2.2.1 s.2.2.2.2)
     (fun s=>SrcOk ⟨code,s.1,s.2.1⟩ (3+s.2.2.1.length)∧0≤s.2.2.2.2∧(s.2.2.1.length:Int)+s.2.2.2.2=1+x3∧1≤s.2.2.2.1∧s.2.2.2.1≤3+8*(s.2.2.1.length:Int)∧s.2.2.1.Pairwise (· ≤·)∧∀ y∈s.2.2.1,1≤y∧y≤35∧y≤s.2.2.2.1)
     (fun s=>s.2.2.2.2.toNat) (fun e=>∃ w a d,e= .go (w,a,d)∧OkA w∧w.length≤5) (by
     rintro ⟨a,d,l,x,k⟩ ⟨i1,i2,i3,i4,i5,i6,i7⟩
     simp only at i1 i2 i3 i4 i5 i6 i7
     by_cases ck:k>0
     ·right
      obtain ⟨y,a',d',ey,y0,y1,ta⟩:=pick_ok (N:=N) i1 (n:=9) (by decide)
      have hs:=i1.next (d:=d') (by omega) ta
      have ey':QaD.f N (⟨(zeroSrc code).QaQ,a,d⟩:Src) 9=some (y,⟨code,a',d'⟩):=ey
      simp only [Qa1.b0,if_pos ck,List.length_singleton,if_pos (show l.length+1≤70368744177664 by omega),ey',Option.bind_some,i16w_id (x:=x) (by omega) (by omega),i64w_id (x:=x+y) (by omega) (by omega),i64w_id (x:=k - 1) (by omega) (by omega)]
      refine ⟨_,rfl,⟨?_,by dsimp only;omega,by dsimp only;rw [List.length_append];simp;omega,by dsimp only;omega,by dsimp only;rw [List.length_append];simp;omega,?_,?_⟩,by dsimp only;omega⟩
      ·dsimp only
       rw [List.length_append,List.length_singleton]
       have:(3:Int)+((l.length+1:Nat):Int)=3+(l.length:Int)+1:=by omega
       rw [this];exact hs
      ·dsimp only
       rw [List.pairwise_append]
       refine ⟨i6,by simp,fun p hp q hq=>?_⟩
       rw [List.mem_singleton] at hq
       subst hq
       exact (i7 p hp).2.2
      ·dsimp only
       intro p hp
       rcases List.mem_append.1 hp with hp|hp
       ·have:=i7 p hp;omega
       ·rw [List.mem_singleton] at hp;subst hp;omega
     ·left
      simp only [Qa1.b0,if_neg ck]
      exact ⟨_,rfl,_,_,_,rfl,OkA.small (by omega) (by omega) i6 (fun y hy=>by have:=i7 y hy;omega),by omega⟩) N (a3,d3,[],1+x2,1+x3)
     ⟨by simpa [zeroSrc] using h3,by dsimp only;omega,by simp,by dsimp only;omega,by simp;omega,by simp,by simp⟩ (by dsimp only;omega)
    rw [he]
    exact ⟨_,_,rfl,hw⟩
 obtain ⟨w,s,e,h1,h2⟩:=main
 have e':Qa1.f N (⟨code,0,0⟩:Src)=some (w,s):=e
 refine ⟨w,?_,h1,h2⟩
 simp only [Qbt.f,Qbq.f,Option.bind_some,e']
theorem placing_ok {N:Nat} {code w:List Int} (hc:∀ x∈code,0≤x∧x≤255) (hl:code.length≤1000000) (hw:w.length≤16) (hN:100< N):∃ p,Qa0.f N code w=some p∧p.length=w.length∧∀ x∈p,-1≤x∧x≤1:=by
 have h0:SrcOk (zeroSrc code) 0:=⟨hc,Int.le_refl _,Int.le_refl _,by decide,hl⟩
 obtain ⟨e,he,p,rfl,hp⟩:=rounds_ends (b:=fun s=>Qa0.b0 N w code s.1 s.2.1 s.2.2.1 s.2.2.2)
  (fun s=>SrcOk ⟨code,s.1,s.2.1⟩ s.2.2.2∧0≤s.2.2.2∧s.2.2.2≤(w.length:Int)∧(s.2.2.1.length:Int)=s.2.2.2∧∀ y∈s.2.2.1,-1≤y∧y≤1)
  (fun s=>((w.length:Int) - s.2.2.2).toNat) (fun e=>∃ p,e= .go p∧p.length=w.length∧∀ x∈p,-1≤x∧x≤1) (by
  rintro ⟨a,d,l,i⟩ ⟨i1,i2,i3,i4,i5⟩
  simp only at i1 i2 i3 i4 i5
  by_cases ck:i< (w.length:Int)
  ·right
   obtain ⟨y,a',d',ey,y0,y1,ta⟩:=pick_ok (N:=N) i1 (n:=3) (by decide)
   have hs:=i1.next (d:=d') (by omega) ta
   have ey':QaD.f N (⟨code,a,d⟩:Src) 3=some (y,⟨code,a',d'⟩):=ey
   simp only [Qa0.b0,if_pos ck,List.length_singleton,if_pos (show l.length+1≤140737488355328 by omega),ey',Option.bind_some,i64w_id (x:=y - 1) (by omega) (by omega),i8w_id (x:=y - 1) (by omega) (by omega),i64w_id (x:=i+1) (by omega) (by omega)]
   refine ⟨_,rfl,⟨hs,by dsimp only;omega,by dsimp only;omega,by dsimp only;rw [List.length_append];simp;omega,?_⟩,by dsimp only;omega⟩
   intro p hp
   rcases List.mem_append.1 hp with hp|hp
   ·exact i5 p hp
   ·rw [List.mem_singleton] at hp;subst hp;omega
  ·left
   simp only [Qa0.b0,if_neg ck]
   exact ⟨_,rfl,_,rfl,by omega,i5⟩) N (0,0,[],0) ⟨h0,by simp,by simp,by simp,by simp⟩ (by simp;omega)
 refine ⟨p,?_,hp⟩
 simp only [Qa0.f,Qbq.f,Option.bind_some,he,Ex.fin,Qa0.a0]
theorem within_eq (N:Nat) (a b c:Int):Qa5.f N a b c=some (decide (b≤a∧a≤c)):=by
 unfold Qa5.f
 by_cases h:b≤a
 ·rw [if_pos h]
  simp [h]
 ·rw [if_neg h]
  simp [h]
theorem sum_ok {N:Nat} {w:List Int} (h:OkA w) (hN:100< N):QaF.f N w=some w.sum:=by
 have hb:∀ i:Nat,i≤w.length→0≤(w.take i).sum∧(w.take i).sum≤2000*(i:Int):=by
  intro i
  induction i with
  |zero=>intro _;simp
  |succ i ih=>
   intro hi
   have h1:=ih (by omega)
   rw [List.take_succ_eq_append_getElem (by omega),List.sum_append]
   have:=h.range _ (List.getElem_mem (show i< w.length by omega))
   simp only [List.sum_cons,List.sum_nil]
   omega
 have hlen:=h.len
 have q:=rounds_for (b:=fun s=>QaF.b0 N w s.1 s.2) (e:= .go w.sum) (fun i=>((w.take i).sum,(i:Int))) w.length 0 N (Nat.zero_le _) (by omega) (by
  intro i _ hi
  have g1:(i:Int)< (w.length:Int):=by omega
  have g2:(0:Int)≤(i:Int)∧(i:Int)< (w.length:Int):=⟨by omega,g1⟩
  have h1:=hb i (by omega)
  have h2:=h.range _ (List.getElem_mem hi)
  simp only [QaF.b0,if_pos g1,if_pos g2,rdL_nat hi,i64w_id (x:=w[i]) (by omega) (by omega),i64w_id (x:=(w.take i).sum+w[i]) (by omega) (by omega),i64w_succ hi (show w.length≤9223372036854775807 by omega)]
  rw [List.take_succ_eq_append_getElem hi,List.sum_append]
  simp) (by
  simp only [QaF.b0]
  rw [if_neg (by omega),List.take_length])
 have q':rounds (fun s=>QaF.b0 N w s.1 s.2) N (0,0)=some (.go w.sum):=by simpa using q
 unfold QaF.f
 rw [q'];rfl
theorem sorted_ok {N:Nat} {w:List Int} (h:OkA w) (hN:100< N):Qao.f N w=some true:=by
 have hlen:=h.len
 have hpos:=h.pos
 obtain ⟨e,he,rfl⟩:=rounds_ends (b:=fun s=>Qao.b0 N w s) (fun s=>0≤s∧s< (w.length:Int)) (fun s=>s.toNat) (fun e=>e= .go ()) (by
  intro s ⟨s0,s1⟩
  obtain ⟨i,rfl⟩:=Int.eq_ofNat_of_zero_le s0
  by_cases c:(i:Int)>0
  ·right
   obtain ⟨j,rfl⟩:∃ j,i=j+1:=⟨i - 1,by omega⟩
   have e1:i64w (((j+1:Nat):Int) - 1)=(j:Int):=by rw [i64w_id (by omega) (by omega)];omega
   have hs:=List.pairwise_iff_getElem.1 h.sorted j (j+1) (by omega) (by omega) (by omega)
   have hcl:cmp_Less_int16.f N (w[j+1]'(by omega)) (w[j]'(by omega))=some false:=by
    simp [cmp_Less_int16.f,cmp_isNaN_int16.f]
    omega
   simp only [Qao.b0,if_pos c,if_pos (show (0:Int)≤((j+1:Nat):Int)∧((j+1:Nat):Int)< (w.length:Int) from ⟨s0,s1⟩),e1,if_pos (show (0:Int)≤(j:Int)∧(j:Int)< (w.length:Int) from ⟨by omega,by omega⟩),rdL_nat (show j+1< w.length by omega),rdL_nat (show j< w.length by omega),hcl,Option.bind_some,Bool.false_eq_true,if_false]
   exact ⟨_,rfl,⟨by omega,by omega⟩,by omega⟩
  ·left
   simp only [Qao.b0,if_neg c]
   exact ⟨_,rfl,rfl⟩) N ((w.length:Int) - 1) ⟨by omega,by omega⟩ (by omega)
 unfold Qao.f
 rw [i64w_id (by omega) (by omega),he];rfl
theorem valid_ok {N:Nat} {w p:List Int} (h:OkA w) (hp:p.length=w.length) (hr:∀ x∈p,-1≤x∧x≤1) (hN:100< N):Qa3.f N w p=some true:=by
 have hlen:=h.len
 have hpos:=h.pos
 have h0:(rdL w 0 0)≥1:=by
  have:rdL w ((0:Nat):Int) 0=w[0]:=rdL_nat (by omega)
  have q:=h.range w[0] (List.getElem_mem _)
  simp only [Int.natCast_zero] at this
  omega
 have hv:QaE.f N w=some true:=by
  have hsum:=h.sum
  simp only [QaE.f,Qbl.f,Option.bind_some,within_eq,sorted_ok h hN,sum_ok h hN,decide_eq_true (show (1:Int)≤(w.length:Int)∧(w.length:Int)≤16 by omega),if_true,if_pos (show (0:Int)≤0∧0< (w.length:Int) by omega),if_pos h0,decide_eq_true hsum]
 obtain ⟨e,he,rfl⟩:=rounds_ends (b:=fun s=>Qam.b0 N p s) (fun s=>0≤s∧s≤(p.length:Int)) (fun s=>((p.length:Int) - s).toNat) (fun e=>e= .go ()) (by
  intro s ⟨s0,s1⟩
  obtain ⟨i,rfl⟩:=Int.eq_ofNat_of_zero_le s0
  by_cases c:i< p.length
  ·right
   have q:=hr _ (List.getElem_mem c)
   have hf:Qbf.f N p[i]=some false:=by
    unfold Qbf.f
    rw [if_neg (by omega),decide_eq_false (by omega)]
   simp only [Qam.b0,if_pos (show (i:Int)< (p.length:Int) by omega),if_pos (show (0:Int)≤(i:Int)∧(i:Int)< (p.length:Int) from ⟨by omega,by omega⟩),rdL_nat c,hf,Option.bind_some,Bool.false_eq_true,if_false,i64w_succ c (show p.length≤9223372036854775807 by omega)]
   exact ⟨_,rfl,⟨by omega,by omega⟩,by omega⟩
  ·left
   simp only [Qam.b0,if_neg (show ¬ (i:Int)< (p.length:Int) by omega)]
   exact ⟨_,rfl,rfl⟩) N 0 ⟨by omega,by omega⟩ (by omega)
 simp only [Qa3.f,hv,Option.bind_some,if_true,if_pos (show (p.length:Int)=(w.length:Int) by omega),QaB.f,Qam.f,he,Ex.fin,Qam.a0]
 rfl
theorem mulB {a b A B:Int} (a0:0≤a) (a1:a≤A) (b0:0≤b) (b1:b≤B):0≤a*b∧a*b≤A*B:=
 ⟨Int.mul_nonneg a0 b0,Int.mul_le_mul a1 b1 b0 (by omega)⟩
def sg (x y:Int):Int:=if x>y then -1 else if x< y then 1 else 0
theorem seen_eq (N:Nat) (x y:Int):QbH.f N x y=some (sg x y):=by
 unfold QbH.f sg
 by_cases c:x>y
 ·rw [if_pos c,if_pos c]
 ·rw [if_neg c,if_neg c]
  by_cases d:x< y
  ·rw [if_pos d,if_pos d]
  ·rw [if_neg d,if_neg d]
theorem tilt_ok {N:Nat} {w p:List Int} (h:OkA w) (hp:p.length=w.length) (hr:∀ x∈p,-1≤x∧x≤1) (hN:100< N) {a b m l r:Int} (hq:Qaz.f N w p=some (a,b)) (ha:0≤a∧a≤32000) (hb:0≤b∧b≤32000) (hm:0≤m∧m≤1000000) (hl:1≤l∧l≤100) (hr':1≤r∧r≤100):
 Qbo.f N w p m l r=some (sg ((m+a)*l) (b*r),0):=by
 have h1:=mulB (a:=m+a) (b:=l) (A:=1032000) (B:=100) (by omega) (by omega) (by omega) (by omega)
 have h2:=mulB (a:=b) (b:=r) (A:=32000) (B:=100) (by omega) (by omega) (by omega) (by omega)
 simp only [Qbo.f,valid_ok h hp hr hN,Option.bind_some,if_true,within_eq,decide_eq_true hm,decide_eq_true hl,decide_eq_true hr',hq,seen_eq,i64w_id (x:=m+a) (by omega) (by omega),i64w_id (x:=(m+a)*l) (by omega) (by omega),i64w_id (x:=b*r) (by omega) (by omega)]
theorem at_ok {N:Nat} {a:List Int} (h:∀ x∈a,0≤x∧x≤255) (i:Nat) {n:Int} (hn:1≤n∧n≤100):∃ r,QbF.f N a (i:Int) n=some r∧0≤r∧r< n:=by
 unfold QbF.f
 by_cases c:(i:Int)≥(a.length:Int)
 ·rw [if_pos c]
  exact ⟨0,rfl,by decide,by omega⟩
 ·have hi:i< a.length:=by omega
  have hx:=h _ (List.getElem_mem hi)
  rw [if_neg c,if_neg (by omega),if_pos ⟨by omega,by omega⟩,if_pos (by omega),rdL_nat hi,i64w_id (by omega) (by omega)]
  exact ⟨_,rfl,Int.tmod_nonneg _ hx.1,Int.tmod_lt_of_pos _ (by omega)⟩
theorem spl_join {c:UInt8}:∀ (r:List (List UInt8)) (w:List UInt8),c∉w→(∀ x∈r,c∉x)→spl c [] (Lib.join (w::r) [c])=w::r
 |[],w,hw,_=>by rw [Lib.join_one,spl_miss _ _ hw];rfl
 |x::r,w,hw,hr=>by
  have e:Lib.join (w::x::r) [c]=w++c::Lib.join (x::r) [c]:=by
   rw [Lib.join_cons,Lib.join_cons]
   simp [Lib.joinTail]
  rw [e,spl_hit _ _ _ hw,spl_join r x (hr x (by simp)) (fun y hy=>hr y (by simp [hy]))]
  rfl
theorem dd_free:∀ n:Nat,n< 2001→(32:UInt8)∉dd 4 n:=by decide+kernel
theorem dgs_free {x:Int} (h0:0≤x) (h1:x≤2000):(32:UInt8)∉dgs x:=by
 unfold dgs
 rw [dd5 (by omega)]
 exact dd_free _ (by omega)
theorem valid_w {N:Nat} {w:List Int} (h:OkA w) (hN:100< N):QaE.f N w=some true:=by
 have hlen:=h.len
 have hpos:=h.pos
 have h0:(rdL w 0 0)≥1:=by
  have:rdL w ((0:Nat):Int) 0=w[0]:=rdL_nat (by omega)
  have q:=h.range w[0] (List.getElem_mem _)
  simp only [Int.natCast_zero] at this
  omega
 have hsum:=h.sum
 simp only [QaE.f,Qbl.f,Option.bind_some,within_eq,sorted_ok h hN,sum_ok h hN,decide_eq_true (show (1:Int)≤(w.length:Int)∧(w.length:Int)≤16 by omega),if_true,if_pos (show (0:Int)≤0∧0< (w.length:Int) by omega),if_pos h0,decide_eq_true hsum]
theorem walk_weights:∀ (R acc:List Int),(∀ r∈R,0≤r∧r≤2000)→walk rwS rF acc (R.map fun r=>(⟨(dgs r).toArray⟩:ByteArray))= .go (acc++R)
 |[],acc,_=>by simp [walk]
 |r::R,acc,h=>by
  have hr:=h r (by simp)
  have e:nuI 2000 (dgs r)=(r,true):=by
   unfold dgs
   rw [nuI_lit (by decide) (by omega),Int.toNat_of_nonneg hr.1]
  have e':nuI 2000 (⟨(dgs r).toArray⟩:ByteArray).data.toList=(r,true):=e
  simp only [List.map_cons,walk,rwS,e',if_true]
  rw [i16w_id (by omega) (by omega),walk_weights R (acc++[r]) (fun x hx=>h x (by simp [hx]))]
  simp
theorem weights_back {N:Nat} {w:List Int} (h:OkA w) (hN:4000000< N):∃ t,QaI.f N w=some t∧QaG.f N t=some (w,0):=by
 have h16:=h.len
 have h1:=h.pos
 have hin:inW w:=fun x hx=>by have:=h.range x hx;omega
 have hl:=jg_len hin w.length (Nat.le_refl _)
 have hw:=words_impl (N:=N) hin h16 (by omega)
 have ej:((w.map fun x=>(⟨(dgs x).toArray⟩:ByteArray)).map (·.data.toList))=w.map dgs:=by simp [Function.comp_def]
 have etk:w.take w.length=w:=List.take_length
 have htext:QaI.f N w=some ⟨(jg w w.length).toArray⟩:=by
  simp only [QaI.f,valid_w h (show 100< N by omega),Option.bind_some,if_true,hw,Ex.fin,QaI.a0,strings_Join.f]
  rw [ej,if_pos ⟨by rw [List.length_map];omega,by
   show (Lib.join (w.map dgs) [32]).length≤_
   have:Lib.join (w.map dgs) [32]=jg w w.length:=by unfold jg;rw [etk]
   rw [this];omega⟩]
  show some (⟨(Lib.join (w.map dgs) [32]).toArray⟩:ByteArray)=_
  unfold jg
  rw [etk]
 refine ⟨_,htext,?_⟩
 have hs:(⟨(jg w w.length).toArray⟩:ByteArray).size≤1048576:=by rw [ba_size];omega
 have hwords:Lib.splitB ⟨#[32]⟩ 0 (Lib.countB (⟨(jg w w.length).toArray⟩:ByteArray) ⟨#[32]⟩) (⟨(jg w w.length).toArray⟩:ByteArray)=w.map fun x=>(⟨(dgs x).toArray⟩:ByteArray):=by
  apply data_inj
  rw [QbT,ej]
  show spl 32 [] (jg w w.length)=_
  unfold jg
  rw [etk]
  cases w with
  |nil=>simp at h1
  |cons x r=>
   refine spl_join _ _ (dgs_free (by have:=hin x (by simp);omega) (by have:=h.range x (by simp);omega)) fun y hy=>?_
   obtain ⟨z,hz,rfl⟩:=List.mem_map.1 hy
   have:=h.range z (by simp [hz])
   exact dgs_free (by omega) (by omega)
 have hw1:∀ p∈(w.map fun x=>(⟨(dgs x).toArray⟩:ByteArray)),p.size≤1048576:=by
  rw [← hwords]
  exact fun p hp=>Nat.le_trans (word_len hp) hs
 unfold QaG.f
 rw [split_impl hs,Option.bind_some,hwords,Qch hw1 (by simp;omega) (by omega),walk_weights w [] (fun r hr=>by have:=h.range r hr;omega),List.nil_append]
 show QaG.a0 N w=_
 simp only [QaG.a0,valid_w h (show 100< N by omega),Option.bind_some,if_true]
def sgn (s:Int):Int:=if s= -1 then 45 else if s=0 then 48 else 43
theorem sgn_tab (N:Nat) {s:Int} (h: -1≤s∧s≤1):i8w (s+1)=s+1∧btS (⟨#[45,48,43]⟩:ByteArray) (s+1)=sgn s∧((u8w (sgn s)).toNat.toUInt8.toNat:Int)=sgn s∧Lib.indexByte (⟨#[45,48,43]⟩:ByteArray).data.toList (sgn s).toNat.toUInt8=s+1∧i8w (i64w (s+1 - 1))=s:=by
 have:s= -1∨s=0∨s=1:=by omega
 rcases this with rfl|rfl|rfl<;>exact ⟨by decide+kernel,by decide+kernel,by decide+kernel,by decide+kernel,by decide+kernel⟩
theorem signs_eq {N:Nat} {p:List Int} (hr:∀ x∈p,-1≤x∧x≤1) (hl:p.length≤16) (hN:100< N):Qa9.f N p=some (bsOf (p.map sgn),true):=by
 have q:=rounds_for (b:=fun s=>Qa9.b0 N p s.1 s.2) (e:= .go (p.map sgn)) (fun k=>((p.take k).map sgn,(k:Int))) p.length 0 N (by omega) (by omega) (by
  intro i _ hi
  have hx:=hr _ (List.getElem_mem hi)
  obtain ⟨s1,s2,s3,s4,s5⟩:=sgn_tab N hx
  have hsz:((⟨#[45,48,43]⟩:ByteArray).size:Int)=3:=rfl
  simp only [Qa9.b0,if_pos (show (i:Int)< (p.length:Int) by omega),if_pos (show (0:Int)≤(i:Int)∧(i:Int)< (p.length:Int) by omega),rdL_nat hi,if_neg (show ¬ p[i]< -1 by omega),if_neg (show ¬ p[i]>1 by omega),s1,s2,hsz,if_pos (show (0:Int)≤p[i]+1∧p[i]+1< 3 by omega),List.length_map,List.length_take,List.length_singleton,if_pos (show min i p.length+1≤140737488355328 by omega),i64w_succ hi (show p.length≤9223372036854775807 by omega)]
  rw [List.take_succ_eq_append_getElem hi,List.map_append]
  rfl) (by
  simp only [Qa9.b0]
  rw [if_neg (by omega),List.take_length])
 have q':rounds (fun s=>Qa9.b0 N p s.1 s.2) N (([]:List Int),0)=some (.go (p.map sgn)):=by simpa using q
 simp only [Qa9.f,q',Option.bind_some,Ex.fin,Qa9.a0]
theorem placing_back {N:Nat} {p:List Int} (hr:∀ x∈p,-1≤x∧x≤1) (h1:1≤p.length) (hl:p.length≤16) (hN:100< N):∃ t,Qbj.f N p=some t∧Qbk.f N t=some (p,0):=by
 refine ⟨bsOf (p.map sgn),?_,?_⟩
 ·simp only [Qbj.f,signs_eq hr hl hN,Option.bind_some,if_true,if_neg (show ¬ (p.length:Int)>16 by omega)]
 ·have hsz:(bsOf (p.map sgn)).size=p.length:=by simp [bsOf,ByteArray.size]
  have hbt:∀ i (hi:i< p.length),btS (bsOf (p.map sgn)) (i:Int)=sgn p[i]:=by
   intro i hi
   have hx:=hr _ (List.getElem_mem hi)
   have:p[i]= -1∨p[i]=0∨p[i]=1:=by omega
   have e:btS (bsOf (p.map sgn)) (i:Int)=(((sgn p[i]).toNat.toUInt8).toNat:Int):=by
    simp [btS,bsOf,hi]
   rw [e]
   rcases this with h|h|h<;>rw [h]<;>decide+kernel
  have q:=rounds_for (b:=fun s=>QaZ.b0 N (bsOf (p.map sgn)) s.1 s.2) (e:= .go p) (fun k=>(p.take k,(k:Int))) p.length 0 N (by omega) (by omega) (by
   intro i _ hi
   have hx:=hr _ (List.getElem_mem hi)
   obtain ⟨s1,s2,s3,s4,s5⟩:=sgn_tab N hx
   simp only [QaZ.b0,hsz,if_pos (show (i:Int)< (p.length:Int) by omega),if_pos (show (0:Int)≤(i:Int)∧(i:Int)< (p.length:Int) by omega),hbt i hi,strings_IndexByte.f,s4,Option.bind_some,if_neg (show ¬ p[i]+1< 0 by omega),s5,List.length_take,List.length_singleton,if_pos (show min i p.length+1≤140737488355328 by omega),i64w_succ hi (show p.length≤9223372036854775807 by omega)]
   rw [List.take_succ_eq_append_getElem hi]) (by
   simp only [QaZ.b0,hsz]
   rw [if_neg (by omega),List.take_length])
  have q':rounds (fun s=>QaZ.b0 N (bsOf (p.map sgn)) s.1 s.2) N (([]:List Int),0)=some (.go p):=by simpa using q
  simp only [Qbk.f,QaZ.f,q',Option.bind_some,Ex.fin,QaZ.a0,if_true,Qbw.f,within_eq,decide_eq_true (show (1:Int)≤(p.length:Int)∧(p.length:Int)≤16 by omega)]
theorem OkA.ok {w:List Int} (h:OkA w):OkW w:=⟨h.pos,h.len,fun x hx=>(h.range x hx).1,h.sum⟩
def mas:List Int→List Int→Int
 |s::p,x::w=>s*x+mas p w
 |_,_=>0
def usd:List Int→Nat
 |[]=>0
 |s::p=>(if s=0 then 0 else 1)+usd p
theorem sq_usd {s:Int} (h: -1≤s∧s≤1):sq s=if s=0 then 0 else 1:=by
 have:s= -1∨s=0∨s=1:=by omega
 rcases this with rfl|rfl|rfl<;>rfl
section
variable {w:List Int} {lo:Int} {L N:Nat}
theorem Om_min {c:Nat→Option Nat}:∀ {m t u:Nat},t< m→c t=some u→∃ v,Om tt c m=some v∧v≤u
 |0,t,u,h,_=>absurd h (Nat.not_lt_zero _)
 |m+1,t,u,h,hc=>by
  rw [Om_step]
  by_cases e:t=m
  ·subst e
   rw [hc]
   cases Om tt c t with
   |none=>rw [om_comm,om_none];exact ⟨u,rfl,Nat.le_refl _⟩
   |some x=>exact ⟨min x u,rfl,Nat.min_le_right _ _⟩
  ·obtain ⟨v,hv,hle⟩:=Om_min (m:=m) (by omega) hc
   rw [hv]
   cases c m with
   |none=>rw [om_none];exact ⟨v,rfl,hle⟩
   |some x=>exact ⟨min v x,rfl,Nat.le_trans (Nat.min_le_left _ _) hle⟩
theorem bal_least (hs:Sd lo L):∀ {ws p:List Int},p.length=ws.length→(∀ s∈p,lo≤s∧s≤1)→∃ v,bal lo L ws (mas p ws)=some v∧v≤usd p
 |[],[],_,_=>⟨0,rfl,Nat.le_refl _⟩
 |[],s::p,h,_=>by simp at h
 |x::ws,[],h,_=>by simp at h
 |x::ws,s::p,h,hr=>by
  obtain ⟨v,hv,hle⟩:=bal_least hs (ws:=ws) (p:=p) (by simpa using h) (fun y hy=>hr y (by simp [hy]))
  have hsr:=hr s (by simp)
  obtain ⟨t,ht,hst⟩:∃ t:Nat,t< L∧s=lo+(t:Int):=by
   refine ⟨(s - lo).toNat,?_,by omega⟩
   rcases hs with ⟨h1,h2⟩|⟨h1,h2⟩<;>omega
  have hlo: -1≤lo:=by rcases hs with ⟨h1,h2⟩|⟨h1,h2⟩<;>omega
  have hc:plus (bal lo L ws (mas (s::p) (x::ws) - (lo+(t:Int))*x)) (sq (lo+(t:Int)))=some (v+sq s):=by
   have e:mas (s::p) (x::ws) - (lo+(t:Int))*x=mas p ws:=by
    rw [← hst]
    show s*x+mas p ws - s*x=mas p ws
    omega
   rw [e,hv,← hst]
   rfl
  obtain ⟨u,hu,hul⟩:=Om_min (c:=fun t=>plus (bal lo L ws (mas (s::p) (x::ws) - (lo+(t:Int))*x)) (sq (lo+(t:Int)))) ht hc
  refine ⟨u,hu,?_⟩
  have:=sq_usd (s:=s) ⟨by omega,hsr.2⟩
  show u≤(if s=0 then 0 else 1)+usd p
  omega
theorem place_val (h:OkW w) (hN:5000< N) {both:Bool} {X:List (List Int)} (r:RepT 4001 w.length X (Frw (loOf both) (LOf both) w 0)):
 ∀ (m i:Nat) (mass:Int) (v:Nat) (p:List Int),i≤w.length→w.length - i< m→p.length=i→bd (loOf both) (LOf both) w i mass=some v→∃ tl:List Int,(tl.length=w.length - i∧mas tl (w.drop i)=mass∧usd tl=v∧∀ s∈tl,loOf both≤s∧s≤1)∧
  rounds (fun q=>Qau.b0 N w both X q.1 q.2.1 q.2.2) m (mass+2000,p,(i:Int))=some (.go (p++tl))∧∀ xs:List (Option Kb),RepB (loOf both) (LOf both) w xs 0→∀ Kf:Ex (List Int×Int) (List Int)→Prop,Kf (.go (p++tl))→roundsD (fun q:Int×List Int×Int×Int=>Qat.b0 N w both xs q.1 q.2.1 q.2.2.1 q.2.2.2) m (mass,p,(v:Int),(i:Int)) Kf:=by
 have h16:=h.l16
 intro m
 induction m with
 |zero=>intro i _ _ _ _ hm;exact absurd hm (Nat.not_lt_zero _)
 |succ m ih=>
  intro i mass v p hi hm hp hv
  by_cases c:i< w.length
  ·have e1:i64w ((i:Int)+1)=((i+1:Nat):Int):=i64w_id (by omega) (by omega)
   have hg:w.getD i 0=w[i]:=by simp [List.getD,c]
   have hL:LOf both≤3:=by cases both<;>decide
   have hv':=hv
   rw [bd_step c] at hv'
   obtain ⟨t0,a1,a2⟩:=Om_at hv'
   have a2':cs both w i mass t0=some v:=by unfold cs;rw [hg];exact a2
   obtain ⟨S,s1,s2,s3⟩:=sides_of (N:=N) both
   obtain ⟨t,t1,t2,t3,t4⟩:=sides_both (N:=N) h s2 s3 r c hv (show p.length≤16 by omega) a1 a2' N 0 (Nat.zero_le _) (by omega)
   have t2':=t2
   unfold cs at t2'
   rw [hg] at t2'
   obtain ⟨u,hu⟩:∃ u,bd (loOf both) (LOf both) w (i+1) (mass - (loOf both+(t:Int))*w[i])=some u:=by
    cases e:bd (loOf both) (LOf both) w (i+1) (mass - (loOf both+(t:Int))*w[i]) with
    |none=>rw [e] at t2';cases t2'
    |some u=>exact ⟨u,rfl⟩
   rw [hu] at t2'
   have huv:u+sq (loOf both+(t:Int))=v:=QsJ t2'
   obtain ⟨tl,⟨f0,fm,fu,fr⟩,f2,f3⟩:=ih (i+1) _ u (p++[loOf both+(t:Int)]) (by omega) (by omega) (by simp [hp]) hu
   have eap:p++[loOf both+(t:Int)]++tl=p++((loOf both+(t:Int))::tl):=by simp
   rw [eap] at f2 f3
   have hsq:=sq_le (sdOf both) t1
   have hsu:=sq_usd (s:=loOf both+(t:Int)) ⟨hsq.2.2.1,hsq.2.2.2⟩
   refine ⟨(loOf both+(t:Int))::tl,⟨by simp only [List.length_cons];omega,?_,?_,?_⟩,?_,fun xs r' Kf hK=>?_⟩
   ·rw [drop_at c]
    show (loOf both+(t:Int))*w[i]+mas tl (w.drop (i+1))=mass
    omega
   ·show (if loOf both+(t:Int)=0 then 0 else 1)+usd tl=v
    omega
   ·intro s hs
    rcases List.mem_cons.1 hs with rfl|hs
    ·exact ⟨by omega,hsq.2.2.2⟩
    ·exact fr s hs
   ·rw [rounds_next (s':=(mass - (loOf both+(t:Int))*w[i]+2000,p++[loOf both+(t:Int)],((i+1:Nat):Int)))]
    ·exact f2
    ·show Qau.b0 N w both X (mass+2000) p (i:Int)=_
     unfold Qau.b0
     have t3':rounds (fun s=>Qau.b2 N (i:Int) w X s.1 s.2.1 s.2.2) N (mass+2000,p,loOf both)=some (.go (mass - (loOf both+(t:Int))*w[i]+2000,p++[loOf both+(t:Int)])):=by rw [← Int.add_zero (loOf both)];rw [Int.add_zero (loOf both)];exact (by simpa using t3)
     rw [if_pos (by omega),least_of,Option.bind_some,t3',Option.bind_some]
     show Qau.a2 N (i:Int) _ _=_
     unfold Qau.a2
     rw [e1]
   ·show Qat.b0 N w both xs mass p (v:Int) (i:Int) _
    refine b0_impl s1 c h16 (t4 xs r' _ ?_)
    have e2:(v:Int) - ((sq (loOf both+(t:Int)):Nat):Int)=(u:Int):=by omega
    rw [e2]
    show roundsD _ m (mass - (loOf both+(t:Int))*w[i],p++[loOf both+(t:Int)],(u:Int),i64w ((i:Int)+1)) Kf
    rw [e1]
    exact f3 xs r' Kf hK
  ·have:i=w.length:=by omega
   subst this
   rw [bd_last] at hv
   have hm0:mass=0∧v=0:=by
    split at hv
    ·rename_i e;exact ⟨e,(QsJ hv).symm⟩
    ·cases hv
   refine ⟨[],⟨by simp,by rw [hm0.1];rfl,by rw [hm0.2];rfl,by simp⟩,rounds_out ?_,fun xs r' Kf hK=>?_⟩
   ·show Qau.b0 N w both X (mass+2000) p (w.length:Int)=_
    unfold Qau.b0
    rw [if_neg (by omega),List.append_nil]
   ·show Qat.b0 N w both xs mass p (v:Int) (w.length:Int) _
    rw [List.append_nil] at hK
    have e:∀ Q,Q (.out (.go p))→Qat.b0 N w both xs mass p (v:Int) (w.length:Int) Q:=by
     intro Q hQ
     unfold Qat.b0
     rw [if_neg (by omega)]
     exact hQ
    exact e _ hK
end
def can (both:Bool) (w:List Int) (m:Int):Option Nat:=bal (loOf both) (LOf both) w m
theorem can_bd (both:Bool) (w:List Int) (m:Int):bd (loOf both) (LOf both) w 0 m=can both w m:=by unfold bd can;rw [List.drop_zero]
theorem ok_spec {N:Nat} {w:List Int} (h:OkA w) (hN:100< N):QaU.f N w=some true:=by
 obtain ⟨b,h1,h2,_⟩:=valid_same (N:=N) (a:=w) (by have:=h.len;omega)
 rw [valid_w h hN] at h2
 rw [h1,← QsJ h2]
theorem asked_ok {N:Nat} {w:List Int} (h:OkA w) {m:Int} (hm:0≤m∧m≤2000) (hN:100< N):Qbr.f N w m=some 0∧Qbd.f N w m=some 0:=by
 have hb:∀ x∈w,-32768≤x∧x≤32767:=fun x hx=>by have:=h.range x hx;omega
 obtain ⟨c,c1,c2,_⟩:=asked_both (N:=N) hb m (by have:=h.len;omega)
 have:Qbd.f N w m=some 0:=by
  simp only [Qbd.f,valid_w h hN,Option.bind_some,if_true,within_eq,decide_eq_true hm,QbC.f]
 rw [c2] at this
 obtain rfl:=QsJ this
 exact ⟨c1,c2⟩
theorem placing_for {N:Nat} {w:List Int} (h:OkA w) (h5:w.length≤5) {m:Int} (hm:0≤m∧m≤2000) (both:Bool) (hN:5000< N):
 (can both w m=none∧Qau.f N w m both=some ([],6)∧∀ Q:List Int×Int→Prop,Q ([],6)→Qat.f N w m both Q)∨
 ∃ v pf,can both w m=some v∧(pf.length=w.length∧mas pf w=m∧usd pf=v∧∀ s∈pf,loOf both≤s∧s≤1)∧Qau.f N w m both=some (pf,0)∧∀ Q:List Int×Int→Prop,Q (pf,0)→Qat.f N w m both Q:=by
 have hw:=h.ok
 have h16:=hw.l16
 obtain ⟨c1,c2⟩:=asked_ok h hm (N:=N) (by omega)
 unfold Qau.f Qat.f
 rw [c1,Option.bind_some]
 obtain ⟨X,x1,x2⟩:=table_eq (N:=N) hw (by omega) both
 have xl:=x2.len
 have xr:=x2.row 0 (Nat.zero_le _)
 have xr':(rdL X 0 []).length=4001:=xr
 obtain ⟨k,ek⟩:=Int.eq_ofNat_of_zero_le (show 0≤2000+m by omega)
 have ew:i64w (2000+m)=2000+m:=i64w_id (by omega) (by omega)
 have xv:=x2.val 0 (Nat.zero_le _) k (by omega)
 have xf:Frw (loOf both) (LOf both) w 0 0 k=bd (loOf both) (LOf both) w 0 m:=by
  unfold Frw bdn
  rw [if_pos (Nat.le_refl _)]
  congr 1
  omega
 rw [xf] at xv
 have xv':rdL (rdL X 0 []) (2000+m) 0=vi (bd (loOf both) (LOf both) w 0 m):=by rw [ek];exact xv
 rw [if_pos rfl,x1,Option.bind_some,if_pos ⟨by omega,by omega⟩,ew,if_pos ⟨by omega,by omega⟩,xv']
 cases e:bd (loOf both) (LOf both) w 0 m with
 |none=>
  left
  rw [if_pos (show vi none< 0 by decide)]
  refine ⟨by rw [← can_bd,e],rfl,fun Q hQ=>⟨0,c2,?_⟩⟩
  rw [if_pos rfl]
  refine balances_all (N:=N) hw h5 (by omega) both fun xs r=>?_
  have rl:=r.len
  obtain ⟨kv,k1,k2⟩:=r.row 0 (Nat.le_refl _) (Nat.zero_le _)
  rw [if_pos ⟨by omega,by omega⟩,show (rdL xs 0 none).getD []=kv by rw [show rdL xs 0 none=some kv from k1];rfl,if_neg (k2.at_none e)]
  exact hQ
 |some v=>
  right
  rw [if_neg (show ¬ vi (some v)< 0 by simp only [vi];omega)]
  obtain ⟨pf,pp,p2,p3⟩:=place_val (N:=N) hw (by omega) x2 N 0 m v [] (Nat.zero_le _) (by omega) rfl e
  rw [List.nil_append] at p2 p3
  rw [List.drop_zero] at pp
  have p2':rounds (fun s=>Qau.b0 N w both X s.1 s.2.1 s.2.2) N (2000+m,[],0)=some (.go pf):=by rw [Int.add_comm];exact p2
  rw [p2',Option.bind_some]
  refine ⟨v,pf,by rw [← can_bd,e],⟨by have:=pp.1;omega,pp.2.1,pp.2.2.1,pp.2.2.2⟩,rfl,fun Q hQ=>⟨0,c2,?_⟩⟩
  rw [if_pos rfl]
  refine balances_all (N:=N) hw h5 (by omega) both fun xs r=>?_
  have rl:=r.len
  obtain ⟨kv,k1,k2⟩:=r.row 0 (Nat.le_refl _) (Nat.zero_le _)
  obtain ⟨m1,m2⟩:=k2.at_some e Qan
  rw [if_pos ⟨by omega,by omega⟩,show (rdL xs 0 none).getD []=kv by rw [show rdL xs 0 none=some kv from k1];rfl,if_pos m1,m2]
  exact p3 xs r (Ex.finD (fun s=>Qat.a0 N s Q) Q) hQ
theorem roundsD_for {ρ ε σ:Type} {b:σ→(Bd ρ ε σ→Prop)→Prop} {K:Ex ρ ε→Prop} {e:Ex ρ ε} (mk:Nat→σ) (n:Nat) (h1:∀ i,i< n→∀ Q:Bd ρ ε σ→Prop,Q (.next (mk (i+1)))→b (mk i) Q) (h2:∀ Q:Bd ρ ε σ→Prop,Q (.out e)→b (mk n) Q) (hK:K e):
 ∀ (N k:Nat),k≤n→n - k< N→roundsD b N (mk k) K
 |0,k,_,h=>absurd h (Nat.not_lt_zero _)
 |N+1,k,hk,hN=>by
  show b (mk k) _
  by_cases c:k=n
  ·subst c;exact h2 _ hK
  ·exact h1 k (by omega) _ (roundsD_for mk n h1 h2 hK N (k+1) (by omega) (by omega))
theorem rounds_go {ρ:Type} {b:Int→Option (Bd ρ Unit Int)} {n N:Nat} (hN:n< N) (h1:∀ i:Nat,i< n→b (i:Int)=some (.next ((i+1:Nat):Int))) (h2:b (n:Int)=some (.out (.go ()))):rounds b N 0=some (.go ()):=
 rounds_for (b:=b) (e:= .go ()) (fun k=>(k:Int)) n 0 N (Nat.zero_le _) (by omega) (fun i _ hi=>h1 i hi) h2
theorem same_placed {N:Nat} {l:List Int} (hl:l.length≤1000) (hN:2000< N):QaV.f N l l=some true:=by
 have q:rounds (fun s=>QaV.b0 N l l s) N 0=some (.go ()):=rounds_go (n:=l.length) (by omega) (by
  intro i hi
  have hnx:i64w ((i:Int)+1)=((i+1:Nat):Int):=i64w_succ hi (by omega)
  simp only [QaV.b0,if_pos (show (i:Int)< (l.length:Int) by omega),if_pos (show (0:Int)≤(i:Int)∧(i:Int)< (l.length:Int) by omega),if_true,hnx]) (by
  simp only [QaV.b0]
  rw [if_neg (by omega)])
 simp only [QaV.f,if_true,q,Option.bind_some,Ex.fin,QaV.a0]
theorem same_weights {N:Nat} {l:List Int} (hl:l.length≤1000) (hN:2000< N):QaL.f N l l=some true:=by
 have q:rounds (fun s=>QaL.b0 N l l s) N 0=some (.go ()):=rounds_go (n:=l.length) (by omega) (by
  intro i hi
  have hnx:i64w ((i:Int)+1)=((i+1:Nat):Int):=i64w_succ hi (by omega)
  simp only [QaL.b0,if_pos (show (i:Int)< (l.length:Int) by omega),if_pos (show (0:Int)≤(i:Int)∧(i:Int)< (l.length:Int) by omega),if_true,hnx]) (by
  simp only [QaL.b0]
  rw [if_neg (by omega)])
 simp only [QaL.f,if_true,q,Option.bind_some,Ex.fin,QaL.a0]
theorem same_eq {N:Nat} {l:List Int} (hl:l.length≤2100) (hN:5000< N):QbD.f N l l=some true:=by
 have q:rounds (fun s=>Qa7.b0 N l l s) N 0=some (.go ()):=rounds_go (n:=l.length) (by omega) (by
  intro i hi
  have hnx:i64w ((i:Int)+1)=((i+1:Nat):Int):=i64w_succ hi (by omega)
  simp only [Qa7.b0,if_pos (show (i:Int)< (l.length:Int) by omega),if_pos (show (0:Int)≤(i:Int)∧(i:Int)< (l.length:Int) by omega),if_true,hnx]) (by
  simp only [Qa7.b0]
  rw [if_neg (by omega)])
 simp only [QbD.f,Qa7.f,if_true,q,Option.bind_some,Ex.fin,Qa7.a0]
theorem has_eq {N:Nat} {l:List Int} {x:Int} (hl:l.length≤2100) (hN:5000< N):Qbb.f N l x=some (decide (x∈l)):=by
 obtain ⟨e,he,hq⟩:=rounds_ends (b:=fun s=>Qbb.b0 N l x s) (fun s=>∃ i:Nat,s=(i:Int)∧i≤l.length∧x∉l.take i) (fun s=>l.length - s.toNat) (fun e=>(e= .ret true∧x∈l)∨(e= .go ()∧x∉l)) (by
  rintro _ ⟨i,rfl,hi,hx⟩
  by_cases c:i< l.length
  ·by_cases cx:l[i]=x
   ·left
    refine ⟨.ret true,?_, .inl ⟨rfl,cx▸List.getElem_mem c⟩⟩
    simp only [Qbb.b0,if_pos (show (i:Int)< (l.length:Int) by omega),if_pos (show (0:Int)≤(i:Int)∧(i:Int)< (l.length:Int) by omega),rdL_nat c,if_pos cx]
   ·right
    refine ⟨((i+1:Nat):Int),?_,⟨i+1,rfl,c,?_⟩,by simp only [Int.toNat_natCast];omega⟩
    ·simp only [Qbb.b0,if_pos (show (i:Int)< (l.length:Int) by omega),if_pos (show (0:Int)≤(i:Int)∧(i:Int)< (l.length:Int) by omega),rdL_nat c,if_neg cx,i64w_succ c (show l.length≤9223372036854775807 by omega)]
    ·rw [List.take_succ_eq_append_getElem c]
     simp only [List.mem_append,List.mem_singleton,not_or]
     exact ⟨hx,fun e=>cx e.symm⟩
  ·left
   obtain rfl:i=l.length:=by omega
   rw [List.take_length] at hx
   refine ⟨.go (),?_, .inr ⟨rfl,hx⟩⟩
   simp only [Qbb.b0]
   rw [if_neg (by omega)]) N 0 ⟨0,rfl,Nat.zero_le _,by simp⟩ (by show l.length - _< N;omega)
 simp only [Qbb.f,he,Option.bind_some]
 rcases hq with ⟨rfl,h⟩|⟨rfl,h⟩
 ·rw [decide_eq_true h];rfl
 ·rw [decide_eq_false h];rfl
def lft:List Int→List Int→Int
 |s::p,x::w=>(if s= -1 then x else 0)+lft p w
 |_,_=>0
def rgt:List Int→List Int→Int
 |s::p,x::w=>(if s=1 then x else 0)+rgt p w
 |_,_=>0
theorem mas_pans:∀ {p w:List Int},(∀ s∈p,-1≤s∧s≤1)→mas p w=rgt p w - lft p w
 |[],w,_=>by simp [mas,rgt,lft]
 |s::p,[],_=>by simp [mas,rgt,lft]
 |s::p,x::w,h=>by
  have ih:=mas_pans (p:=p) (w:=w) (fun y hy=>h y (by simp [hy]))
  have hs:=h s (by simp)
  have:s= -1∨s=0∨s=1:=by omega
  simp only [mas,rgt,lft,ih]
  rcases this with rfl|rfl|rfl
  ·simp;omega
  ·simp
  ·simp;omega
theorem pan_range:∀ {p w:List Int},(∀ x∈w,1≤x)→0≤lft p w∧0≤rgt p w∧lft p w+rgt p w≤w.sum
 |[],w,h=>by
  have:∀ {w:List Int},(∀ x∈w,1≤x)→0≤w.sum:=by
   intro w
   induction w with
   |nil=>intro _;simp
   |cons x w ih=>intro h;have:=ih (fun y hy=>h y (by simp [hy]));have:=h x (by simp);simp only [List.sum_cons];omega
  have:=this h
  simp [lft,rgt];exact this
 |s::p,[],_=>by simp [lft,rgt]
 |s::p,x::w,h=>by
  have ih:=pan_range (p:=p) (w:=w) (fun y hy=>h y (by simp [hy]))
  have hx:=h x (by simp)
  simp only [lft,rgt,List.sum_cons]
  by_cases c1:s= -1
  ·rw [if_pos c1,if_neg (by omega)];omega
  ·rw [if_neg c1]
   split<;>omega
theorem lft_snoc {s x:Int}:∀ {p w:List Int},p.length=w.length→lft (p++[s]) (w++[x])=lft p w+(if s= -1 then x else 0)∧rgt (p++[s]) (w++[x])=rgt p w+(if s=1 then x else 0)
 |[],[],_=>by simp [lft,rgt]
 |[],y::w,h=>by simp at h
 |t::p,[],h=>by simp at h
 |t::p,y::w,h=>by
  have ih:=lft_snoc (s:=s) (x:=x) (p:=p) (w:=w) (by simpa using h)
  simp only [List.cons_append,lft,rgt,ih.1,ih.2]
  constructor<;>omega
theorem pans_eq {N:Nat} {w p:List Int} (h:OkA w) (hp:p.length=w.length) (hN:100< N):Qaz.f N w p=some (lft p w,rgt p w):=by
 have hlen:=h.len
 have hpos:∀ k,∀ x∈w.take k,1≤x:=fun k x hx=>(h.range x (List.mem_of_mem_take hx)).1
 have hsum:∀ k,(w.take k).sum≤w.sum:=by
  intro k
  have e:=List.sum_append (l₁:=w.take k) (l₂:=w.drop k)
  rw [List.take_append_drop] at e
  have:0≤(w.drop k).sum:=(pan_range (p:=[]) (w:=w.drop k) (fun x hx=>(h.range x (List.mem_of_mem_drop hx)).1)).2.2
  omega
 have q:=rounds_for (b:=fun s=>Qaz.b0 N p w s.1 s.2.1 s.2.2) (e:= .go (lft p w,rgt p w)) (fun k=>(lft (p.take k) (w.take k),rgt (p.take k) (w.take k),(k:Int))) p.length 0 N (by omega) (by omega) (by
  intro i _ hi
  have hw:i< w.length:=by omega
  have hx:=h.range _ (List.getElem_mem hw)
  obtain ⟨s1,s2⟩:=lft_snoc (s:=p[i]) (x:=w[i]) (p:=p.take i) (w:=w.take i) (by rw [List.length_take,List.length_take];omega)
  obtain ⟨r1,r2,r3⟩:=pan_range (p:=p.take i) (hpos i)
  have hsm:=hsum i
  have hs2:=h.sum
  have hnx:i64w ((i:Int)+1)=((i+1:Nat):Int):=i64w_succ hi (by omega)
  rw [List.take_succ_eq_append_getElem hi,List.take_succ_eq_append_getElem hw,s1,s2]
  simp only [Qaz.b0,Qaz.j2,if_pos (show (i:Int)< (p.length:Int) by omega),if_pos (show (0:Int)≤(i:Int)∧(i:Int)< (p.length:Int) by omega),if_pos (show (0:Int)≤(i:Int)∧(i:Int)< (w.length:Int) by omega),rdL_nat hi,rdL_nat hw,i64w_id (x:=w[i]) (by omega) (by omega),i64w_id (x:=lft (p.take i) (w.take i)+w[i]) (by omega) (by omega),i64w_id (x:=rgt (p.take i) (w.take i)+w[i]) (by omega) (by omega),hnx]
  by_cases c1:p[i]= -1
  ·rw [if_pos c1,if_pos c1,if_neg (by omega),Int.add_zero]
  ·rw [if_neg c1,if_neg c1]
   by_cases c2:p[i]=1
   ·rw [if_pos c2,if_pos c2,Int.add_zero]
   ·rw [if_neg c2,if_neg c2,Int.add_zero,Int.add_zero]) (by
  simp only [Qaz.b0]
  rw [if_neg (by omega),List.take_length,hp,List.take_length])
 have q':rounds (fun s=>Qaz.b0 N p w s.1 s.2.1 s.2.2) N (0,0,0)=some (.go (lft p w,rgt p w)):=by
  have e0:(0,0,0)=((lft (p.take 0) (w.take 0),rgt (p.take 0) (w.take 0),((0:Nat):Int)):Int×Int×Int):=by simp [lft,rgt]
  rw [e0];exact q
 simp only [Qaz.f,q',Option.bind_some,Ex.fin,Qaz.a0]
theorem mass_of {N:Nat} {w p:List Int} (h:OkA w) (hp:p.length=w.length) (hr:∀ s∈p,-1≤s∧s≤1) (hN:100< N):Qbn.f N w p=some (mas p w,0)∧ -w.sum≤mas p w∧mas p w≤w.sum:=by
 obtain ⟨r1,r2,r3⟩:=pan_range (p:=p) (fun x hx=>(h.range x hx).1)
 have hs:=h.sum
 have e:=mas_pans (w:=w) hr
 refine ⟨?_,by omega,by omega⟩
 simp only [Qbn.f,valid_ok h hp hr hN,Option.bind_some,if_true,pans_eq h hp hN,i64w_id (x:=rgt p w - lft p w) (by omega) (by omega)]
 rw [e]
theorem tilt_eq {N:Nat} {w p:List Int} (h:OkA w) (hp:p.length=w.length) (hr:∀ s∈p,-1≤s∧s≤1) (hN:100< N) {m:Int} (hm:0≤m∧m≤1000000):Qbv.f N w p m=some (sg ((m+lft p w)*1) (rgt p w*1),0):=by
 obtain ⟨r1,r2,r3⟩:=pan_range (p:=p) (fun x hx=>(h.range x hx).1)
 have hs:=h.sum
 simp only [Qbv.f,tilt_ok h hp hr hN (pans_eq h hp hN) ⟨r1,by omega⟩ ⟨r2,by omega⟩ hm (l:=1) (r:=1) (by decide) (by decide),Option.bind_some]
theorem usd_snoc (s:Int):∀ p:List Int,usd (p++[s])=usd p+(if s=0 then 0 else 1)
 |[]=>by simp [usd]
 |t::p=>by have:=usd_snoc s p;simp only [List.cons_append,usd,this];omega
theorem usd_le:∀ p:List Int,usd p≤p.length
 |[]=>Nat.le_refl _
 |t::p=>by have:=usd_le p;simp only [usd,List.length_cons];split<;>omega
theorem used_in {N:Nat} {w p:List Int} (h:OkA w) (hp:p.length=w.length) (hr:∀ s∈p,-1≤s∧s≤1) (hN:100< N):QaR.f N w p=some ((usd p:Int),0):=by
 have hlen:=h.len
 have q:=rounds_for (b:=fun s=>QaR.b0 N p s.1 s.2) (e:= .go (usd p:Int)) (fun k=>((usd (p.take k):Int),(k:Int))) p.length 0 N (by omega) (by omega) (by
  intro i _ hi
  have hnx:i64w ((i:Int)+1)=((i+1:Nat):Int):=i64w_succ hi (by omega)
  have hu:=usd_le (p.take i)
  rw [List.length_take] at hu
  rw [List.take_succ_eq_append_getElem hi,usd_snoc]
  simp only [QaR.b0,QaR.j2,if_pos (show (i:Int)< (p.length:Int) by omega),if_pos (show (0:Int)≤(i:Int)∧(i:Int)< (p.length:Int) by omega),rdL_nat hi,hnx,i64w_id (x:=(usd (p.take i):Int)+1) (by omega) (by omega)]
  by_cases c:p[i]=0
  ·rw [if_pos c,if_pos c];rfl
  ·rw [if_neg c,if_neg c]
   rw [show (((usd (p.take i)+1:Nat):Nat):Int)=(usd (p.take i):Int)+1 by omega]) (by
  simp only [QaR.b0]
  rw [if_neg (by omega),List.take_length])
 have q':rounds (fun s=>QaR.b0 N p s.1 s.2) N (0,0)=some (.go (usd p:Int)):=by simpa [usd] using q
 simp only [QaR.f,valid_ok h hp hr hN,Option.bind_some,if_true,q',Ex.fin,QaR.a0]
theorem at_zero {xs:List (Option Kb)} {kv:Kb} (h:rdL xs ((0:Nat):Int) none=some kv):(rdL xs 0 none).isSome=true∧(rdL xs 0 none).getD []=kv:=by
 have h:rdL xs 0 none=some kv:=h
 rw [h];exact ⟨rfl,rfl⟩
theorem can_weigh {N:Nat} {w:List Int} (h:OkA w) (h5:w.length≤5) {m:Int} (hm:0≤m∧m≤2000) (both:Bool) (hN:5000< N) {Q:Bool×Int→Prop} (hQ:Q ((can both w m).isSome,0)):Qbu.f N w m both Q:=by
 refine ⟨0,(asked_ok h hm (by omega)).2,?_⟩
 rw [if_pos rfl]
 refine balances_all (N:=N) h.ok h5 hN both fun xs r=>?_
 have rl:=r.len
 obtain ⟨kv,k1,k2⟩:=r.row 0 (Nat.le_refl _) (Nat.zero_le _)
 obtain ⟨z1,z2⟩:=at_zero k1
 rw [if_pos ⟨by omega,by omega⟩,if_pos z1,z2]
 refine ⟨_,rfl,?_⟩
 have:(mIdx kv m).isSome=(can both w m).isSome:=by
  rw [← can_bd]
  cases e:bd (loOf both) (LOf both) w 0 m with
  |none=>exact Bool.not_eq_true _▸k2.at_none e
  |some v=>exact (k2.at_some e Qan).1
 dsimp only
 rw [this]
 exact hQ
theorem ways_weigh {N:Nat} {w:List Int} (h:OkA w) (h5:w.length≤5) {m:Int} (hm:0≤m∧m≤2000) (both:Bool) (hN:5000< N) {Q:Int×Int→Prop} (hQ:∀ n,decide (n>0)=(can both w m).isSome→Q (n,0)):Qbm.f N w m both Q:=by
 refine ⟨0,(asked_ok h hm (by omega)).2,?_⟩
 rw [if_pos rfl]
 refine balances_all (N:=N) h.ok h5 hN both fun xs r=>?_
 have rl:=r.len
 obtain ⟨kv,k1,k2⟩:=r.row 0 (Nat.le_refl _) (Nat.zero_le _)
 obtain ⟨z1,z2⟩:=at_zero k1
 rw [if_pos ⟨by omega,by omega⟩,z2]
 refine hQ _ ?_
 rw [← can_bd]
 cases e:bd (loOf both) (LOf both) w 0 m with
 |none=>
  rw [mGet_no (fun g=>k2.at_none e (mIdx_in.2 g))]
  rfl
 |some v=>
  have:=k2.at_ways e Qan
  exact decide_eq_true (by omega)
def nw (c:Int→Bool):Nat→List Int
 |0=>[]
 |k+1=>nw c k++if c ((k+1:Nat):Int)=true then [] else [((k+1:Nat):Int)]
theorem nw_len (c:Int→Bool):∀ k,(nw c k).length≤k
 |0=>Nat.le_refl _
 |k+1=>by
  have:=nw_len c k
  simp only [nw,List.length_append]
  split<;>simp<;>omega
theorem nw_mem {c:Int→Bool} {x:Int}:∀ {k:Nat},x∈nw c k↔1≤x∧x≤(k:Int)∧c x=false
 |0=>by simp [nw]<;>omega
 |k+1=>by
  simp only [nw,List.mem_append,nw_mem (k:=k)]
  by_cases e:x=((k+1:Nat):Int)
  ·subst e
   cases hc:c ((k+1:Nat):Int) with
   |true=>simp<;>omega
   |false=>simp<;>omega
  ·have:x∉(if c ((k+1:Nat):Int)=true then ([]:List Int) else [((k+1:Nat):Int)]):=by
    split<;>simp
    omega
   simp only [this,or_false]
   constructor
   ·rintro ⟨h1,h2,h3⟩;exact ⟨h1,by omega,h3⟩
   ·rintro ⟨h1,h2,h3⟩;exact ⟨h1,by omega,h3⟩
theorem nw_first {c:Int→Bool}:∀ {k:Nat} {x:Int} {l:List Int},nw c k=x::l→(1≤x∧x≤(k:Int)∧c x=false)∧∀ y:Int,1≤y→y< x→c y=true
 |0,x,l,h=>by cases h
 |k+1,x,l,h=>by
  have hm:x∈nw c (k+1):=by rw [h];simp
  refine ⟨nw_mem.1 hm,fun y y1 y2=>?_⟩
  simp only [nw] at h
  cases e:nw c k with
  |nil=>
   rw [e,List.nil_append] at h
   cases hc:c y with
   |true=>rfl
   |false=>
    have hx:=nw_mem.1 hm
    have:y∈nw c k:=nw_mem.2 ⟨y1,by omega,hc⟩
    rw [e] at this
    cases this
  |cons z r=>
   rw [e,List.cons_append] at h
   obtain ⟨rfl,_⟩:=List.cons.inj h
   exact (nw_first e).2 y y1 y2
def cb (both:Bool) (w:List Int) (m:Int):Bool:=(can both w m).isSome
theorem not_spec {N:Nat} {w:List Int} (h:OkA w) (both:Bool) (hN:5000< N):Qbp.f N w both=some (nw (cb both w) w.sum.toNat,0):=by
 have hw:=h.ok
 have hs:=h.sum
 have hs0:0≤w.sum:=(pan_range (p:=[]) (w:=w) (fun x hx=>(h.range x hx).1)).2.2
 obtain ⟨X,x1,x2⟩:=table_eq (N:=N) hw (by omega) both
 have xl:=x2.len
 have xr:(rdL X 0 []).length=4001:=x2.row 0 (Nat.zero_le _)
 obtain ⟨S,hS⟩:=Int.eq_ofNat_of_zero_le hs0
 have hsm:QaS.f N w=some w.sum:=by rw [← sum_same];exact sum_ok h (by omega)
 have hT:w.sum.toNat=S:=by omega
 rw [hT]
 have q:=rounds_for (b:=fun s=>QaK.b0 N w.sum X s.1 s.2) (e:= .go (nw (cb both w) S)) (fun k=>(nw (cb both w) k,((k+1:Nat):Int))) S 0 N (by omega) (by omega) (by
  intro i _ hi
  have hl:=nw_len (cb both w) i
  have ew:i64w (2000+((i+1:Nat):Int))=((2001+i:Nat):Int):=by rw [i64w_id (by omega) (by omega)];omega
  have en:i64w (((i+1:Nat):Int)+1)=((i+1+1:Nat):Int):=by rw [i64w_id (by omega) (by omega)];omega
  have xv:=x2.val 0 (Nat.zero_le _) (2001+i) (by omega)
  have xf:Frw (loOf both) (LOf both) w 0 0 (2001+i)=can both w ((i+1:Nat):Int):=by
   unfold Frw bdn
   rw [if_pos (Nat.le_refl _),← can_bd]
   congr 1
   omega
  rw [xf] at xv
  have xv':rdL (rdL X 0 []) ((2001+i:Nat):Int) 0=vi (can both w ((i+1:Nat):Int)):=xv
  simp only [QaK.b0,if_pos (show ((i+1:Nat):Int)≤w.sum by omega),if_pos (show (0:Int)≤0∧(0:Int)< (X.length:Int) by omega),ew,xr,if_pos (show (0:Int)≤((2001+i:Nat):Int)∧((2001+i:Nat):Int)< ((4001:Nat):Int) by omega),xv',List.length_singleton,if_pos (show (nw (cb both w) i).length+1≤17592186044416 by omega),QaK.j2,en,nw]
  unfold cb
  cases e:can both w ((i+1:Nat):Int) with
  |none=>rw [if_pos (show vi none< 0 by decide)];rfl
  |some v=>rw [if_neg (show ¬ vi (some v)< 0 by simp only [vi];omega)];simp) (by
  simp only [QaK.b0]
  rw [if_neg (by omega)])
 have q':rounds (fun s=>QaK.b0 N w.sum X s.1 s.2) N (([]:List Int),1)=some (.go (nw (cb both w) S)):=q
 simp only [Qbp.f,ok_spec h (show 100< N by omega),Option.bind_some,if_true,hsm,QaK.f,x1,q',Ex.fin,QaK.a0]
theorem idx_cb {both:Bool} {w:List Int} {kv:Kb} {K B:Nat} (k2:Rb kv (bd (loOf both) (LOf both) w 0) K B) (m:Int):(mIdx kv m).isSome=cb both w m:=by
 unfold cb
 rw [← can_bd]
 cases e:bd (loOf both) (LOf both) w 0 m with
 |none=>exact Bool.not_eq_true _▸k2.at_none e
 |some v=>exact (k2.at_some e Qan).1
theorem not_impl {N:Nat} {w:List Int} (h:OkA w) (h5:w.length≤5) (both:Bool) (hN:5000< N) {Q:List Int×Int→Prop} (hQ:Q (nw (cb both w) w.sum.toNat,0)):QaM.f N w both Q:=by
 have hs:=h.sum
 have hs0:0≤w.sum:=(pan_range (p:=[]) (w:=w) (fun x hx=>(h.range x hx).1)).2.2
 obtain ⟨S,hS⟩:=Int.eq_ofNat_of_zero_le hs0
 have hT:w.sum.toNat=S:=by omega
 rw [hT] at hQ
 refine ⟨true,valid_w h (by omega),?_⟩
 rw [if_pos rfl]
 refine balances_all (N:=N) h.ok h5 hN both fun xs r=>?_
 have rl:=r.len
 obtain ⟨kv,k1,k2⟩:=r.row 0 (Nat.le_refl _) (Nat.zero_le _)
 obtain ⟨z1,z2⟩:=at_zero k1
 rw [if_pos ⟨by omega,by omega⟩,if_pos z1,z2]
 refine roundsD_for (b:=fun s:Kb×List Int×Int=>QaM.b0 N w s.1 s.2.1 s.2.2) (e:= .go (nw (cb both w) S)) (K:=Ex.finD (fun s=>QaM.a0 N s Q) Q) (fun k=>(kv,nw (cb both w) k,((k+1:Nat):Int))) S ?_ ?_ hQ N 0 (Nat.zero_le _) (by omega)
 ·intro i hi Q' hQ'
  have hl:=nw_len (cb both w) i
  have en:i64w (((i+1:Nat):Int)+1)=((i+1+1:Nat):Int):=by rw [i64w_id (by omega) (by omega)];omega
  refine ⟨w.sum,sum_ok h (by omega),?_⟩
  dsimp only
  rw [if_pos (by omega)]
  refine ⟨_,rfl,?_⟩
  dsimp only
  rw [idx_cb k2,List.length_singleton,if_pos (show (nw (cb both w) i).length+1≤17592186044416 by omega)]
  unfold QaM.j2
  rw [en]
  simp only [nw] at hQ'
  by_cases c:cb both w ((i+1:Nat):Int)=true
  ·rw [if_pos c] at hQ' ⊢
   rw [List.append_nil] at hQ'
   exact hQ'
  ·rw [if_neg c] at hQ' ⊢
   exact hQ'
 ·intro Q' hQ'
  refine ⟨w.sum,sum_ok h (by omega),?_⟩
  dsimp only
  rw [if_neg (by omega)]
  exact hQ'
theorem up_to {N:Nat} {w:List Int} (h:OkA w) (h5:w.length≤5) (both:Bool) (hN:5000< N) {u:Nat} (hu:(u:Int)≤w.sum) (h1:∀ y:Int,1≤y→y≤(u:Int)→cb both w y=true) (h2:cb both w ((u+1:Nat):Int)=false) {Q:Int×Int→Prop} (hQ:Q ((u:Int),0)):QbE.f N w both Q:=by
 have hs:=h.sum
 refine ⟨true,valid_w h (by omega),?_⟩
 rw [if_pos rfl]
 refine balances_all (N:=N) h.ok h5 hN both fun xs r=>?_
 have rl:=r.len
 obtain ⟨kv,k1,k2⟩:=r.row 0 (Nat.le_refl _) (Nat.zero_le _)
 obtain ⟨z1,z2⟩:=at_zero k1
 rw [if_pos ⟨by omega,by omega⟩,if_pos z1,z2]
 refine roundsD_for (b:=fun s:Kb×Int=>QaT.b0 N s.1 s.2) (e:= .go (u:Int)) (K:=Ex.finD (fun s=>QaT.a0 N s (fun r5=>Q (r5,0))) (fun r5=>Q (r5,0))) (fun k=>(kv,(k:Int))) u ?_ ?_ hQ N 0 (Nat.zero_le _) (by omega)
 ·intro i hi Q' hQ'
  have en:i64w ((i:Int)+1)=((i+1:Nat):Int):=by rw [i64w_id (by omega) (by omega)];omega
  refine ⟨_,rfl,?_⟩
  dsimp only
  rw [en,idx_cb k2,h1 _ (by omega) (by omega),if_pos rfl]
  exact hQ'
 ·intro Q' hQ'
  have en:i64w ((u:Int)+1)=((u+1:Nat):Int):=by rw [i64w_id (by omega) (by omega)];omega
  refine ⟨_,rfl,?_⟩
  dsimp only
  rw [en,idx_cb k2,h2,if_neg Bool.false_ne_true]
  exact hQ'
theorem over_sum {w:List Int} (h:OkA w) {both:Bool} {m:Int} (hm:w.sum< m):cb both w m=false:=by
 unfold cb can
 cases e:bal (loOf both) (LOf both) w m with
 |none=>rfl
 |some v=>have:=bal_range (sdOf both) (fun x hx=>(h.range x hx).1) e;omega
theorem never_part {N:Nat} {w:List Int} (h:OkA w) (h5:w.length≤5) {x m:Int} (hN:5000< N):Qar.j1 N w x (w.sum,0) m ((can (x==1) w m).isSome,0) (fun r=>r=true):=by
 have hs:=h.sum
 have hs0:0≤w.sum:=(pan_range (p:=[]) (w:=w) (fun x hx=>(h.range x hx).1)).2.2
 generalize hb:(x==1)=both
 have e1:=not_spec (N:=N) h both hN
 have hl:=nw_len (cb both w) w.sum.toNat
 have hj2:Qar.j2 N m (w.sum,0) (nw (cb both w) w.sum.toNat,0) ((can both w m).isSome,0) (fun r=>r=true):=by
  unfold Qar.j2
  by_cases c1:m< 1
  ·rw [if_pos c1]
  ·rw [if_neg c1]
   by_cases c2:m>w.sum
   ·rw [if_pos c2]
   ·rw [if_neg c2]
    refine ⟨_,has_eq (by dsimp only;omega) hN,?_⟩
    show (decide (m∈nw (cb both w) w.sum.toNat)==!(can both w m).isSome)=true
    rw [show decide (m∈nw (cb both w) w.sum.toNat)=!(can both w m).isSome from ?_]
    ·simp
    ·rw [Bool.eq_iff_iff,decide_eq_true_eq,nw_mem]
     unfold cb
     constructor
     ·rintro ⟨_,_,h3⟩;rw [h3];rfl
     ·intro h3;exact ⟨by omega,by omega,by simpa using h3⟩
 unfold Qar.j1
 rw [hb]
 refine not_impl h h5 both hN ?_
 cases e:nw (cb both w) w.sum.toNat with
 |nil=>
  have hall:∀ y:Int,1≤y→y≤((w.sum.toNat:Nat):Int)→cb both w y=true:=by
   intro y y1 y2
   cases hc:cb both w y with
   |true=>rfl
   |false=>
    have:y∈nw (cb both w) w.sum.toNat:=nw_mem.2 ⟨y1,y2,hc⟩
    rw [e] at this
    cases this
  refine up_to h h5 both hN (u:=w.sum.toNat) (by omega) hall (over_sum h (by omega)) ?_
  rw [e] at e1 hj2
  refine ⟨_,e1,?_⟩
  rw [if_pos rfl,if_pos rfl]
  refine ⟨true,same_eq (by simp) hN,?_⟩
  rw [if_pos rfl,if_pos rfl,if_pos (show ((([]:List Int),(0:Int)).1.length:Int)=0 from rfl),if_pos (show ((w.sum.toNat:Nat):Int)=w.sum by omega),if_neg (by simp)]
  exact hj2
 |cons f l=>
  obtain ⟨⟨f1,f2,f3⟩,hall⟩:=nw_first e
  have hf:((f - 1).toNat:Int)=f - 1:=by omega
  refine up_to h h5 both hN (u:=(f - 1).toNat) (by omega) (fun y y1 y2=>hall y y1 (by omega)) (by rw [show (((f - 1).toNat+1:Nat):Int)=f by omega];exact f3) ?_
  rw [e] at e1 hj2 hl
  refine ⟨_,e1,?_⟩
  rw [if_pos rfl,if_pos rfl]
  refine ⟨true,same_eq (by dsimp only;omega) hN,?_⟩
  have hr:rdL (f::l) 0 0=f:=rfl
  rw [if_pos rfl,if_pos rfl,if_neg (by simp only [List.length_cons];omega),if_pos (by simp only [List.length_cons];omega),if_pos ⟨by decide,by simp only [List.length_cons];omega⟩]
  dsimp only
  rw [hr,i64w_id (x:=f - 1) (by omega) (by omega),hf,if_pos rfl]
  exact hj2
theorem fewer_part {N:Nat} {w p:List Int} (h:OkA w) (h5:w.length≤5) (hp:p.length=w.length) (hr:∀ s∈p,-1≤s∧s≤1) {x m:Int} (hN:5000< N):Qar.j0 N (mas p w,0) w ((usd p:Int),0) x (w.sum,0) m ((can (x==1) w m).isSome,0) (fun r=>r=true):=by
 have hs:=h.sum
 obtain ⟨_,m1,m2⟩:=mass_of h hp hr (N:=N) (by omega)
 have hnv:=never_part (N:=N) h h5 (x:=x) (m:=m) hN
 unfold Qar.j0
 by_cases c:mas p w≥0
 ·rw [if_pos c]
  obtain ⟨v,hv,hle⟩:=bal_least (sdOf true) (ws:=w) (p:=p) hp hr
  rcases placing_for (N:=N) h h5 (m:=mas p w) ⟨c,by omega⟩ true hN with ⟨hn,_⟩|⟨u,pf,hu,⟨q1,q2,q3,q4⟩,e1,e2⟩
  ·unfold can at hn
   rw [hv] at hn
   cases hn
  ·unfold can at hu
   rw [hv] at hu
   obtain rfl:=QsJ hu
   refine ⟨_,e1,_,used_in h q1 q4 (by omega),?_⟩
   rw [if_pos rfl,if_pos rfl,if_neg (by dsimp only;omega)]
   exact hnv
 ·rw [if_neg c]
  exact hnv
theorem Qar.told (a0:List (Int)) (h0:∀ x∈a0,IntKind.min .u8≤x∧x≤IntKind.max .u8) (l0:a0.length≤9223372036854775807) (a1:List (Int)) (h1:∀ x∈a1,IntKind.min .u8≤x∧x≤IntKind.max .u8) (l1:a1.length≤9223372036854775807):∃ N,Qar.f N a0 a1 (fun r=>r=true):=by
 have h0:∀ x∈a0,0≤x∧x≤255:=h0
 have h1:∀ x∈a1,0≤x∧x≤255:=h1
 refine ⟨5000000,?_⟩
 generalize hN:5000000=N
 unfold Qar.f
 by_cases c0:(a0.length:Int)>3000
 ·exact ⟨true,by simp only [Qbx.f,if_pos c0],by rw [if_pos rfl]⟩
 by_cases c1:(a1.length:Int)>3000
 ·exact ⟨true,by simp only [Qbx.f,if_neg c0,decide_eq_true c1],by rw [if_pos rfl]⟩
 refine ⟨false,by simp only [Qbx.f,if_neg c0,decide_eq_false c1],?_⟩
 rw [if_neg Bool.false_ne_true]
 obtain ⟨w,e6,h,h5⟩:=drawn_ok (N:=N) h0 (by omega) (by omega)
 have hlen:=h.len
 have hpos:=h.pos
 have hs:=h.sum
 have hs0:0≤w.sum:=(pan_range (p:=[]) (w:=w) (fun x hx=>(h.range x hx).1)).2.2
 refine ⟨w,e6,?_⟩
 obtain ⟨p,e9,hp,hr⟩:=placing_ok (N:=N) (w:=w) h1 (by omega) (by omega) (by omega)
 refine ⟨p,e9,?_⟩
 obtain ⟨x,e12,x0,x1⟩:=at_ok (N:=N) h1 0 (n:=2) (by decide)
 obtain ⟨m,e13,m0,m1⟩:=at_ok (N:=N) h1 1 (n:=60) (by decide)
 refine ⟨x,e12,m,e13,?_⟩
 obtain ⟨f1,f2,f3⟩:=mass_of h hp hr (N:=N) (by omega)
 have f4:=used_in h hp hr (N:=N) (by omega)
 obtain ⟨t1,g1,g2⟩:=weights_back (N:=N) h (by omega)
 obtain ⟨t2,g3,g4⟩:=placing_back (N:=N) hr (by omega) (by omega) (by omega)
 have f5:Qbh.f N w=some (w.sum,0):=by
  simp only [Qbh.f,valid_w h (show 100< N by omega),Option.bind_some,if_true,sum_ok h (show 100< N by omega)]
 have wneg:i64w (0 - w.sum)= -w.sum:=by rw [i64w_id (by omega) (by omega)];omega
 have hfp:=fewer_part (N:=N) h h5 hp hr (x:=x) (m:=m) (by omega)
 have main:∀ (pf:List Int) (c:Int),pf.length≤16→Qau.f N w m (x==1)=some (pf,c)→((can (x==1) w m).isSome=(c==0))→(∀ Q:List Int×Int→Prop,Q (pf,c)→Qat.f N w m (x==1) Q)→
  ((c=0∧pf.length=w.length∧mas pf w=m∧∀ s∈pf,loOf (x==1)≤s∧s≤1)∨c=6)→
  (Qat.f N w m (x==1) fun r14=>(∃ r17,Qau.f N w m (x==1)=some r17∧(Qbu.f N w m (x==1) fun r20=>(Qbm.f N w m (x==1) fun r21=>(∃ r22,Qbn.f N w p=some r22∧(∃ r23,QaR.f N w p=some r23∧(∃ r24,QaI.f N w=some r24∧(∃ r25,QaG.f N r24=some r25∧(∃ r28,Qbj.f N p=some r28∧(∃ r29,Qbk.f N r28=some r29∧(∃ r32,Qbh.f N w=some r32∧(if r14.2=r17.2 then (∃ r33,QaV.f N r14.1 r17.1=some r33∧(if r33=true then (if r20.2=0 then (if r20.1=(r14.2==0) then (if r21.2=0 then (if (decide (r21.1>0))=r20.1 then (if r22.2=0 then (if r22.1< (i64w (0 - r32.1)) then ((fun r=>r=true) false) else (if r22.1>r32.1 then ((fun r=>r=true) false) else (if r23.2=0 then (if r25.2=0 then (∃ r34,QaL.f N r25.1 w=some r34∧(if r34=true then (if r29.2=0 then (∃ r35,QaV.f N r29.1 p=some r35∧(if r35=true then (if r32.2=0 then (∃ r36,QaE.f N w=some r36∧(if r36=true then (∃ r37,Qa3.f N w p=some r37∧(if r37=true then (if r14.2=0 then (∃ r38,Qbn.f N w r17.1=some r38∧(∃ r39,Qbv.f N w r17.1 m=some r39∧(∃ r40,Qbv.f N w r17.1 (i64w (m+1))=some r40∧(if r38.2=0 then (if r38.1=m then (if r39.2=0 then (if r39.1=0 then (if r40.2=0 then (if r40.1=(-1) then (roundsD (fun s=>Qar.b3 N r17 x s) N 0 (Ex.finD (fun s=>Qar.a3 N r22 w r23 x r32 m r20 (fun r=>r=true)) (fun r=>r=true))) else ((fun r=>r=true) false)) else ((fun r=>r=true) false)) else ((fun r=>r=true) false)) else ((fun r=>r=true) false)) else ((fun r=>r=true) false)) else ((fun r=>r=true) false))))) else (if r14.2=6 then (Qar.j0 N r22 w r23 x r32 m r20 (fun r=>r=true)) else ((fun r=>r=true) false))) else ((fun r=>r=true) false))) else ((fun r=>r=true) false))) else ((fun r=>r=true) false)) else ((fun r=>r=true) false))) else ((fun r=>r=true) false)) else ((fun r=>r=true) false))) else ((fun r=>r=true) false)) else ((fun r=>r=true) false)))) else ((fun r=>r=true) false)) else ((fun r=>r=true) false)) else ((fun r=>r=true) false)) else ((fun r=>r=true) false)) else ((fun r=>r=true) false)) else ((fun r=>r=true) false))) else ((fun r=>r=true) false))))))))))))):=by
  intro pf c hpf es hcan hi hcase
  refine hi _ ⟨_,es,?_⟩
  refine can_weigh h h5 ⟨m0,by omega⟩ (x==1) (by omega) ?_
  refine ways_weigh h h5 ⟨m0,by omega⟩ (x==1) (by omega) fun n hn=>?_
  refine ⟨_,f1,_,f4,_,g1,_,g2,_,g3,_,g4,_,f5,?_⟩
  rw [if_pos rfl]
  refine ⟨true,same_placed (by dsimp only;omega) (by omega),?_⟩
  rw [if_pos rfl,if_pos rfl,if_pos hcan,if_pos rfl,if_pos hn,if_pos rfl,wneg,if_neg (by dsimp only;omega),if_neg (by dsimp only;omega),if_pos rfl,if_pos rfl]
  refine ⟨true,same_weights (by dsimp only;omega) (by omega),?_⟩
  rw [if_pos rfl,if_pos rfl]
  refine ⟨true,same_placed (by dsimp only;omega) (by omega),?_⟩
  rw [if_pos rfl,if_pos rfl]
  refine ⟨true,valid_w h (by omega),?_⟩
  rw [if_pos rfl]
  refine ⟨true,valid_ok h hp hr (by omega),?_⟩
  rw [if_pos rfl]
  rcases hcase with ⟨rfl,q1,q2,q4⟩|rfl
  ·have q5:∀ s∈pf,-1≤s∧s≤1:=fun s hs=>by
    have:=q4 s hs
    have: -1≤loOf (x==1):=by cases (x==1)<;>decide
    omega
   obtain ⟨k1,_,_⟩:=mass_of h q1 q5 (N:=N) (by omega)
   have hmp:=mas_pans (w:=w) q5
   have k2:=tilt_eq h q1 q5 (N:=N) (by omega) (m:=m) ⟨m0,by omega⟩
   have k3:=tilt_eq h q1 q5 (N:=N) (by omega) (m:=m+1) ⟨by omega,by omega⟩
   have wm:i64w (m+1)=m+1:=i64w_id (by omega) (by omega)
   have t0:sg ((m+lft pf w)*1) (rgt pf w*1)=0:=by unfold sg;rw [if_neg (by omega),if_neg (by omega)]
   have t1:sg ((m+1+lft pf w)*1) (rgt pf w*1)= -1:=by unfold sg;rw [if_pos (by omega)]
   rw [if_pos rfl]
   refine ⟨_,k1,_,k2,_,(by rw [wm];exact k3),?_⟩
   rw [if_pos rfl,if_pos q2,if_pos rfl,if_pos t0,if_pos rfl,if_pos t1]
   refine roundsD_for (b:=fun s=>Qar.b3 N (pf,0) x s) (e:= .go ()) (K:=Ex.finD (fun s=>Qar.a3 N (mas p w,0) w ((usd p:Int),0) x (w.sum,0) m ((can (x==1) w m).isSome,0) (fun r=>r=true)) (fun r=>r=true)) (fun k=>(k:Int)) pf.length ?_ ?_ hfp N 0 (Nat.zero_le _) (by omega)
   ·intro i hil Q hQ
    have hsi:=q4 _ (List.getElem_mem hil)
    have hnx:i64w ((i:Int)+1)=((i+1:Nat):Int):=i64w_succ hil (by omega)
    show Qar.b3 N (pf,0) x (i:Int) Q
    unfold Qar.b3 Qar.j5
    rw [if_pos (by dsimp only;omega),if_pos (by dsimp only;omega),hnx]
    dsimp only
    rw [rdL_nat hil]
    by_cases cn:pf[i]< 0
    ·rw [if_pos cn]
     by_cases cx:x=1
     ·rw [if_pos cx];exact hQ
     ·have:loOf (x==1)=0:=by
       rw [show (x==1)=false from by simpa using cx];rfl
      omega
    ·rw [if_neg cn];exact hQ
   ·intro Q hQ
    show Qar.b3 N (pf,0) x (pf.length:Int) Q
    unfold Qar.b3
    rw [if_neg (by dsimp only;omega)]
    exact hQ
  ·rw [if_neg (show ¬ (6:Int)=0 by decide),if_pos rfl]
   exact hfp
 rcases placing_for (N:=N) h h5 (m:=m) ⟨m0,by omega⟩ (x==1) (by omega) with ⟨hn,es,hi⟩|⟨u,pf,hu,⟨q1,q2,q3,q4⟩,es,hi⟩
 ·exact main [] 6 (by simp) es (by rw [hn];rfl) hi (.inr rfl)
 ·exact main pf 0 (by omega) es (by rw [hu];rfl) hi (.inl ⟨rfl,q1,q2,q4⟩)
end Go.Proofs.YtmineidejeacnaaGreatDoorX
