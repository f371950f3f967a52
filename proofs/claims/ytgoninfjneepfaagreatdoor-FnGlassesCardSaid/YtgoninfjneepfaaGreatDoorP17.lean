import Derived.Test.YtgoninfjneepfaaGreatDoorP16
namespace Go.Proofs.YtgoninfjneepfaaGreatDoorX
open Go
set_option linter.unusedVariables false
set_option linter.unusedSimpArgs false
theorem four {α:Type} (a:Ar α 4):∃ x y z t,a=⟨[x,y,z,t],rfl⟩:=by
 obtain ⟨l,h⟩:=a
 match l,h with
 |[x,y,z,t],_=>exact ⟨x,y,z,t,rfl⟩
def okG (a:List Int):Prop:=∀ x∈a,1≤x∧x≤40
instance (a:List Int):Decidable (okG a):=inferInstanceAs (Decidable (∀ x∈a,1≤x∧x≤40))
def prodG (a:List Int):Int:=a.foldl (fun m x=>m*(x+1)) 1
def st (a:List Int):Int:=if 1≤a.length∧a.length≤4∧okG a then (if prodG a>3000 then 0 else prodG a) else 0
abbrev muS (acc x:Int):Ex (Ex Int Int) Int:= .go (acc*(x+1))
abbrev muF (acc:Int):Ex Int Int:= .go acc
abbrev stS (acc x:Int):Ex (Ex Int Int) Int:=if x< 1 then .ret (.ret 0) else if x>40 then .ret (.ret 0) else .go (acc*(x+1))
theorem mul_walk:∀ (a:List Int) (acc:Int),walk muS muF acc a= .go (a.foldl (fun m x=>m*(x+1)) acc)
 |[],acc=>rfl
 |x::a,acc=>by simp only [walk,List.foldl_cons];exact mul_walk a _
theorem st_walk_ok:∀ (a:List Int) (acc:Int),okG a→walk stS muF acc a= .go (a.foldl (fun m x=>m*(x+1)) acc)
 |[],acc,_=>rfl
 |x::a,acc,h=>by
  have hx:=h x (by simp)
  simp only [walk,stS,if_neg (show ¬ x< 1 by omega),if_neg (show ¬ x>40 by omega),List.foldl_cons]
  exact st_walk_ok a _ fun y hy=>h y (by simp [hy])
theorem st_walk_bad:∀ (a:List Int) (acc:Int),¬ okG a→walk stS muF acc a= .ret 0
 |[],acc,h=>absurd (by simp [okG]) h
 |x::a,acc,h=>by
  by_cases h1:x< 1
  ·simp only [walk,stS,if_pos h1]
  ·by_cases h2:x>40
   ·simp only [walk,stS,if_neg h1,if_pos h2]
   ·simp only [walk,stS,if_neg h1,if_neg h2]
    exact st_walk_bad a _ fun g=>h (by
     intro y hy
     rcases List.mem_cons.1 hy with rfl|hy
     ·omega
     ·exact g y hy)
theorem mul_bound {acc x:Int} {i:Nat} (hi:i< 4) (h:1≤acc∧acc≤41^i) (hx:1≤x∧x≤40):(1≤acc*(x+1)∧acc*(x+1)≤41^(i+1))∧(acc*(x+1)≤2825761):=by
 have h1:acc*(x+1)≤acc*41:=Int.mul_le_mul_of_nonneg_left (by omega) (by omega)
 have h0:acc*1≤acc*(x+1):=Int.mul_le_mul_of_nonneg_left (by omega) (by omega)
 have h3:(41:Int)^(i+1)=41^i*41:=by rw [Int.pow_succ]
 have h4:(41:Int)^i≤68921:=by
  rcases i with _|_|_|_|i
  ·decide
  ·decide
  ·decide
  ·decide
  ·omega
 generalize acc*(x+1)=m at*
 omega
theorem states_loop {N:Nat} {a:List Int} (hb:∀ x∈a,-32768≤x∧x≤32767) (h:a.length≤4) (hN:a.length< N):rounds (fun s=>QaS.b0 N a s.1 s.2) N (1,0)=some (walk stS muF 1 a):=by
 refine rounds_walk0 (fun acc i=>(acc,i)) a stS muF (fun i acc=>1≤acc∧acc≤41^i) hN (by decide) ?_ ?_
 ·intro acc i hi hI
  have hx:=hb _ (List.getElem_mem hi)
  have hq:QaS.b0 N a acc (i:Int)=if a[i]< 1 then some (.out (.ret 0)) else if a[i]>40 then some (.out (.ret 0)) else some (.next (i64w (acc*i64w (a[i]+1)),((i+1:Nat):Int))):=by
   have g1:(i:Int)< a.length:=by omega
   have g2:(0:Int)≤i:=by omega
   simp only [QaS.b0,g1,g2,and_self,if_true,rdL_nat hi,i64w_succ hi (show a.length≤9223372036854775807 by omega),i64w_id (x:=a[i]) (by omega) (by omega)]
  rw [hq]
  by_cases h1:a[i]< 1
  ·simp only [stS,if_pos h1]
  ·by_cases h2:a[i]>40
   ·simp only [stS,if_neg h1,if_pos h2]
   ·have hm:=mul_bound (show i< 4 by omega) hI (show 1≤a[i]∧a[i]≤40 by omega)
    simp only [stS,if_neg h1,if_neg h2]
    refine ⟨hm.1,?_⟩
    rw [i64w_id (x:=a[i]+1) (by omega) (by omega),i64w_id (by omega) (by omega)]
 ·intro acc _
  simp only [QaS.b0]
  rw [if_neg (by omega)]
theorem states_eq {N:Nat} {a:List Int} (hb:∀ x∈a,-32768≤x∧x≤32767) (hN:5< N):QaS.f N a=some (st a):=by
 simp only [QaS.f,QbD.f,st]
 by_cases h1:1≤a.length
 ·rw [if_pos (by omega)]
  simp only [Option.bind_some,decide_eq_true_eq]
  by_cases h4:a.length≤4
  ·rw [if_pos (by omega),states_loop hb h4 (by omega)]
   by_cases hk:okG a
   ·rw [st_walk_ok a 1 hk,if_pos ⟨h1,h4,hk⟩]
    simp only [Option.bind_some,Ex.fin,QaS.a0]
    show (if prodG a>3000 then some 0 else some (prodG a))=_
    by_cases hp:prodG a>3000<;>simp [hp]
   ·rw [st_walk_bad a 1 hk,if_neg (fun h=>hk h.2.2)]
    rfl
  ·rw [if_neg (by omega),if_neg (fun h=>h4 h.2.1)]
 ·rw [if_neg (by omega),if_neg (fun h=>h1 h.1)]
  rfl
theorem many_loop {N:Nat} {a:List Int} (hk:okG a) (h:a.length≤4) (hN:a.length< N):rounds (fun s=>QaO.b0 N a s.1 s.2) N (1,0)=some (walk muS muF 1 a):=by
 refine rounds_walk0 (fun acc i=>(acc,i)) a muS muF (fun i acc=>1≤acc∧acc≤41^i) hN (by decide) ?_ ?_
 ·intro acc i hi hI
  have hx:=hk _ (List.getElem_mem hi)
  have hm:=mul_bound (show i< 4 by omega) hI hx
  refine ⟨hm.1,?_⟩
  simp only [QaO.b0]
  rw [if_pos (by omega),if_pos ⟨by omega,by omega⟩,rdL_nat hi,i64w_succ hi (by omega),i64w_id (x:=a[i]) (by omega) (by omega),i64w_id (x:=a[i]+1) (by omega) (by omega),i64w_id (by omega) (by omega)]
 ·intro acc _
  simp only [QaO.b0]
  rw [if_neg (by omega)]
theorem many_eq {N:Nat} {a:List Int} (hk:okG a) (h:a.length≤4) (hN:a.length< N):QaO.f N a=some (prodG a):=by
 simp only [QaO.f]
 rw [many_loop hk h hN,mul_walk]
 rfl
theorem search_eq {N:Nat} {a:List Int} (h:a.length≤1048576) (hN:a.length< N):QaA.f N a=some (decide (¬ okG a)):=by
 have main:∀ (n k:Nat),k≤a.length→a.length - k< n→∃ e,rounds (fun s=>Qak.b0 N a s) n (k:Int)=some e∧
  ((okG (a.drop k)∧e= .go ())∨(¬ okG (a.drop k)∧∃ j,0≤j∧e= .ret j)):=by
  intro n
  induction n with
  |zero=>intro k _ h;exact absurd h (Nat.not_lt_zero _)
  |succ n ih=>
   intro k hk hn
   by_cases hkn:k=a.length
   ·subst hkn
    refine ⟨.go (),rounds_out (by simp only [Qak.b0];rw [if_neg (by omega)]), .inl ⟨by simp [okG],rfl⟩⟩
   ·have hi:k< a.length:=by omega
    have hq:Qak.b0 N a (k:Int)=if a[k]< 1∨a[k]>40 then some (.out (.ret (k:Int))) else some (.next ((k+1:Nat):Int)):=by
     simp only [Qak.b0,Qbj.f]
     rw [if_pos (by omega),if_pos ⟨by omega,by omega⟩,rdL_nat hi,i64w_succ hi (by omega)]
     by_cases h1:a[k]< 1
     ·simp [h1]
     ·by_cases h2:a[k]>40
      ·simp [h1,h2]
      ·simp [h1,h2]
    rw [List.drop_eq_getElem_cons hi]
    by_cases h1:a[k]< 1∨a[k]>40
    ·refine ⟨.ret (k:Int),rounds_out (by rw [hq,if_pos h1]), .inr ⟨fun g=>?_,k,by omega,rfl⟩⟩
     have:=g a[k] List.mem_cons_self
     omega
    ·obtain ⟨e,he,hh⟩:=ih (k+1) (by omega) (by omega)
     refine ⟨e,by rw [rounds_next (by rw [hq,if_neg h1])];exact he,?_⟩
     rcases hh with ⟨g,he⟩|⟨g,j,hj,he⟩
     ·refine .inl ⟨?_,he⟩
      intro y hy
      rcases List.mem_cons.1 hy with rfl|hy
      ·omega
      ·exact g y hy
     ·exact .inr ⟨fun f=>g fun y hy=>f y (List.mem_cons_of_mem _ hy),j,hj,he⟩
 obtain ⟨e,he,hh⟩:=main N 0 (Nat.zero_le _) (by simpa using hN)
 simp only [QaA.f,Qak.f]
 rw [show ((0:Nat):Int)=0 from rfl] at he
 rw [he]
 rw [List.drop_zero] at hh
 rcases hh with ⟨g,rfl⟩|⟨g,j,hj,rfl⟩
 ·simp [Ex.fin,Qak.a0,g]
 ·simp [Ex.fin,g,hj]
theorem st_ok {a:List Int} (h:1≤a.length∧a.length≤4∧okG a):st a=if prodG a>3000 then 0 else prodG a:=by rw [st,if_pos h]
theorem st_bad {a:List Int} (h:¬ (1≤a.length∧a.length≤4∧okG a)):st a=0:=by rw [st,if_neg h]
theorem prod_pos {a:List Int} (hk:okG a):1≤prodG a:=by
 have:∀ (a:List Int) (acc:Int),okG a→1≤acc→1≤a.foldl (fun m x=>m*(x+1)) acc:=by
  intro a
  induction a with
  |nil=>intro acc _ h;exact h
  |cons x a ih=>
   intro acc hk h
   have hx:=hk x (by simp)
   refine ih _ (fun y hy=>hk y (by simp [hy])) ?_
   have h0:acc*1≤acc*(x+1):=Int.mul_le_mul_of_nonneg_left (by omega) (by omega)
   show 1≤acc*(x+1)
   omega
 exact this a 1 hk (by decide)
theorem validG_eq {N:Nat} {a:List Int} (hb:∀ x∈a,-32768≤x∧x≤32767) (h:a.length≤1048576) (hN:a.length+5< N):Qa9.f N a=some (decide (st a>0)):=by
 simp only [Qa9.f,Qbw.f,Qbl.f,Option.bind_some]
 by_cases h1:1≤a.length
 ·rw [if_pos (by omega)]
  simp only [Option.bind_some,decide_eq_true_eq]
  by_cases h4:a.length≤4
  ·rw [if_pos (by omega),search_eq h (by omega)]
   by_cases hk:okG a
   ·have hp:=prod_pos hk
    simp only [hk,not_true,decide_false,Option.bind_some,Bool.false_eq_true,if_false]
    rw [many_eq hk h4 (by omega)]
    simp only [Option.bind_some,Option.some.injEq,decide_eq_decide]
    rw [st_ok ⟨h1,h4,hk⟩]
    split<;>omega
   ·simp [hk,st_bad (fun h=>hk h.2.2)]
  ·rw [if_neg (by omega)]
   simp [st_bad (a:=a) (fun h=>h4 h.2.1)]
 ·rw [if_neg (by omega)]
  simp [st_bad (a:=a) (fun h=>h1 h.1)]
def fits (a:List Int) (c:Ar Int 4):Prop:=∀ i:Nat,i< 4→0≤c.l.getD i 0∧c.l.getD i 0≤a.getD i 0
def okT (a:List Int) (c:Ar Int 4):Prop:=st a>0∧fits a c
theorem ar_get {c:Ar Int 4} (i:Nat):c.get (i:Int) 0=c.l.getD i 0:=by simp [Ar.get]
theorem getD_in {a:List Int} {i:Nat} (h:i< a.length):a.getD i 0=a[i]:=by simp [List.getD,h]
theorem getD_out {a:List Int} {i:Nat} (h:¬ i< a.length):a.getD i 0=0:=by simp [List.getD,h]
theorem tops_loop {b:Int→Option (Bd Bool Unit Int)} {a:List Int} {c:Ar Int 4} {N:Nat} (hN:4< N)
 (hs:∀ i:Nat,i< 4→b (i:Int)=if c.l.getD i 0< 0 then some (.out (.ret false)) else if c.l.getD i 0>a.getD i 0 then some (.out (.ret false)) else some (.next ((i+1:Nat):Int)))
 (he:b 4=some (.out (.go ()))):∃ e,rounds b N 0=some e∧((fits a c∧e= .go ())∨(¬ fits a c∧e= .ret false)):=by
 have main:∀ (n k:Nat),k≤4→4 - k< n→(∀ i,i< k→0≤c.l.getD i 0∧c.l.getD i 0≤a.getD i 0)→∃ e,rounds b n (k:Int)=some e∧((fits a c∧e= .go ())∨(¬ fits a c∧e= .ret false)):=by
  intro n
  induction n with
  |zero=>intro k _ h;exact absurd h (Nat.not_lt_zero _)
  |succ n ih=>
   intro k hk hn hb
   by_cases hkn:k=4
   ·subst hkn
    exact ⟨_,rounds_out he, .inl ⟨hb,rfl⟩⟩
   ·have hi:k< 4:=by omega
    by_cases h1:c.l.getD k 0< 0
    ·refine ⟨_,rounds_out (by rw [hs k hi,if_pos h1]), .inr ⟨fun f=>?_,rfl⟩⟩
     have:=f k hi
     omega
    ·by_cases h2:c.l.getD k 0>a.getD k 0
     ·refine ⟨_,rounds_out (by rw [hs k hi,if_neg h1,if_pos h2]), .inr ⟨fun f=>?_,rfl⟩⟩
      have:=f k hi
      omega
     ·rw [rounds_next (by rw [hs k hi,if_neg h1,if_neg h2])]
      refine ih (k+1) (by omega) (by omega) fun i h=>?_
      by_cases e:i=k
      ·subst e;omega
      ·exact hb i (by omega)
 exact main N 0 (by omega) (by omega) (fun i h=>absurd h (Nat.not_lt_zero _))
open Classical in
theorem okT_spec {N:Nat} {a:List Int} {c:Ar Int 4} (hb:∀ x∈a,-32768≤x∧x≤32767) (hN:5< N):QaY.f N a c=some (decide (okT a c)):=by
 simp only [QaY.f,states_eq hb hN,Option.bind_some]
 by_cases h:st a=0
 ·rw [if_pos h,decide_eq_false (fun f=>by have:=f.1;omega)]
 ·rw [if_neg h]
  have hp:st a>0:=by
   have:0≤st a:=by
    by_cases hk:1≤a.length∧a.length≤4∧okG a
    ·rw [st_ok hk]
     have:=prod_pos hk.2.2
     split<;>omega
    ·rw [st_bad hk];omega
   omega
  obtain ⟨e,he,hh⟩:=tops_loop (b:=fun s=>QaY.b0 N a c s) (a:=a) (c:=c) (N:=N) (by omega)
   (by
    intro i hi
    have g1:(i:Int)< 4:=by omega
    have g2:(0:Int)≤i:=by omega
    by_cases hl:i< a.length
    ·have g3:(i:Int)< a.length:=by omega
     simp only [QaY.b0,QaY.j2,g1,g2,g3,and_self,if_true,rdL_nat hl,ar_get,i64w_succ hi (by decide),getD_in hl]
    ·have g3:¬ (i:Int)< a.length:=by omega
     simp only [QaY.b0,QaY.j2,g1,g2,g3,and_self,if_true,if_false,ar_get,i64w_succ hi (by decide),getD_out hl])
   (by simp only [QaY.b0];rfl)
  rw [he]
  rcases hh with ⟨f,rfl⟩|⟨f,rfl⟩
  ·rw [decide_eq_true ⟨hp,f⟩];rfl
  ·rw [decide_eq_false (fun g=>f g.2)];rfl
open Classical in
theorem okT_impl {N:Nat} {a:List Int} {c:Ar Int 4} (hb:∀ x∈a,-32768≤x∧x≤32767) (h:a.length≤1048576) (hN:a.length+5< N):QaM.f N a c=some (decide (okT a c)):=by
 simp only [QaM.f,validG_eq hb h hN,Option.bind_some,decide_eq_true_eq]
 by_cases hp:st a>0
 ·rw [if_pos hp]
  obtain ⟨e,he,hh⟩:=tops_loop (b:=fun s=>QaF.b0 N (⟨a,(Ar.rep 4 0),false⟩:QbE) c s) (a:=a) (c:=c) (N:=N) (by omega)
   (by
    intro i hi
    have g1:(i:Int)< 4:=by omega
    have g2:(0:Int)≤i:=by omega
    by_cases hl:i< a.length
    ·have g3:(i:Int)< a.length:=by omega
     simp only [QaF.b0,QaF.j2,g1,g2,g3,and_self,if_true,rdL_nat hl,ar_get,i64w_succ hi (by decide),getD_in hl]
    ·have g3:¬ (i:Int)< a.length:=by omega
     simp only [QaF.b0,QaF.j2,g1,g2,g3,and_self,if_true,if_false,ar_get,i64w_succ hi (by decide),getD_out hl])
   (by simp only [QaF.b0];rfl)
  simp only [QaF.f,he]
  rcases hh with ⟨f,rfl⟩|⟨f,rfl⟩
  ·rw [decide_eq_true ⟨hp,f⟩];rfl
  ·rw [decide_eq_false (fun g=>f g.2)];rfl
 ·rw [if_neg hp,decide_eq_false (fun g=>hp g.1)]
theorem okT_len {a:List Int} {c:Ar Int 4} (h:okT a c):1≤a.length∧a.length≤4∧okG a:=by
 by_cases hk:1≤a.length∧a.length≤4∧okG a
 ·exact hk
 ·have:=h.1
  rw [st_bad hk] at this
  omega
theorem getD_le {a:List Int} (h:okG a) (i:Nat):0≤a.getD i 0∧a.getD i 0≤40:=by
 by_cases hi:i< a.length
 ·rw [getD_in hi]
  have:=h _ (List.getElem_mem hi)
  omega
 ·rw [getD_out hi];omega
theorem get_set_same {c:Ar Int 4} {i:Nat} {v:Int} (hi:i< 4):(c.set (i:Int) v).l.getD i 0=v:=by
 have:=c.h
 simp [Ar.set,List.getD,show i< c.l.length by omega]
theorem get_set_other {c:Ar Int 4} {i j:Nat} {v:Int} (h:¬ i=j):(c.set (i:Int) v).l.getD j 0=c.l.getD j 0:=by
 simp [Ar.set,List.getD,List.getElem?_set_ne h]
theorem fits_set {a:List Int} {c:Ar Int 4} {i:Nat} {v:Int} (hf:fits a c) (hi:i< 4) (hv:0≤v∧v≤a.getD i 0):fits a (c.set (i:Int) v):=by
 intro j hj
 by_cases h:i=j
 ·subst h;rw [get_set_same hi];exact hv
 ·rw [get_set_other h];exact hf j hj
theorem set_same {c:Ar Int 4} {i:Nat} {v:Int} (hi:i< 4) (h:c.l.getD i 0=v):c.set (i:Int) v=c:=by
 apply Ar.ext'
 have hl:=c.h
 have hi':i< c.l.length:=by omega
 have:c.l[i]=v:=by rw [← h];simp [List.getD,hi']
 simp [Ar.set,← this]
theorem bit_all:∀ n:Nat,n< 256→∀ i:Nat,i< 4→((shrI .u8 (n:Int) (i:Int)).tmod 2=1↔bAnd .u8 (shrI .u8 (n:Int) (i:Int)) 1=1):=by decide+kernel
theorem bit_eq {x:Int} (h0:0≤x) (h1:x≤255) {i:Nat} (hi:i< 4):((shrI .u8 x (i:Int)).tmod 2=1↔bAnd .u8 (shrI .u8 x (i:Int)) 1=1):=by
 have:=bit_all x.toNat (by omega) i hi
 rwa [Int.toNat_of_nonneg h0] at this
theorem turn_eq {N:Nat} {a:List Int} {c:Ar Int 4} {x:Int} (ho:okG a) (hl:a.length≤4) (hf:fits a c) (h0:0≤x) (h1:x≤255) (hN:5< N):
 ∃ r,QaI.f N a c x=some r∧Qao.f N a c x=some r∧fits a r:=by
 obtain ⟨e,e',he,he',r,hr,hr',hfr⟩:=rounds_both (b:=fun s=>QaI.b0 N a x s.1 s.2) (b':=fun s=>Qao.b0 N a x s.1 s.2)
  (R:=fun s t=>s=t∧fits a s.1∧∃ i:Nat,s.2=i∧i≤a.length) (m:=fun s=>a.length - s.2.toNat)
  (Q:=fun e e'=>∃ r,e= .go r∧e'= .go r∧fits a r)
  (by
   rintro ⟨c,_⟩ _ ⟨rfl,hf,i,rfl,hi⟩
   simp only at hf
   by_cases hl':i< a.length
   ·right
    have g1:(i:Int)< a.length:=by omega
    have g2:(0:Int)≤i:=by omega
    have g4:(i:Int)< 4:=by omega
    have ui:u64w (i:Int)=i:=u64w_id (by omega) (by omega)
    have bx:=bit_eq h0 h1 (show i< 4 by omega)
    have hc:=hf i (by omega)
    have ha:=getD_le ho i
    rw [getD_in hl'] at hc ha
    have hv:0≤a[i] - c.l.getD i 0∧a[i] - c.l.getD i 0≤a[i]:=by omega
    have hw:i16w (a[i] - c.l.getD i 0)=a[i] - c.l.getD i 0:=i16w_id (by omega) (by omega)
    by_cases hb:bAnd .u8 (shrI .u8 x (i:Int)) 1=1
    ·refine ⟨(c.set (i:Int) (a[i] - c.l.getD i 0),((i+1:Nat):Int)),_,?_,?_,⟨rfl,fits_set hf (by omega) (by rw [getD_in hl'];exact hv),i+1,rfl,by omega⟩,?_⟩
     ·simp only [QaI.b0,QaI.j2,g1,g2,g4,ui,and_self,if_true,bx.2 hb,rdL_nat hl',ar_get,hw,i64w_succ (show i< 4 by omega) (by decide)]
     ·simp only [Qao.b0,Qao.j2,g1,g2,g4,and_self,if_true,hb,rdL_nat hl',ar_get,hw,i64w_succ (show i< 4 by omega) (by decide)]
     ·simp only [Int.toNat_natCast];omega
    ·refine ⟨(c,((i+1:Nat):Int)),_,?_,?_,⟨rfl,hf,i+1,rfl,by omega⟩,?_⟩
     ·simp only [QaI.b0,QaI.j2,g1,g2,ui,and_self,if_true,if_false,mt bx.1 hb,i64w_succ (show i< 4 by omega) (by decide)]
     ·simp only [Qao.b0,Qao.j2,g1,g2,and_self,if_true,if_false,hb,i64w_succ (show i< 4 by omega) (by decide)]
     ·simp only [Int.toNat_natCast];omega
   ·left
    have g1:¬ (i:Int)< a.length:=by omega
    exact ⟨.go c, .go c,by simp only [QaI.b0,if_neg g1],by simp only [Qao.b0,if_neg g1],c,rfl,rfl,hf⟩)
  N N (c,0) (c,0) ⟨rfl,hf,0,rfl,Nat.zero_le _⟩ (by simp only [Int.toNat_zero];omega) (by simp only [Int.toNat_zero];omega)
 subst hr hr'
 refine ⟨r,?_,?_,hfr⟩
 ·simp only [QaI.f,he];rfl
 ·simp only [Qao.f,he'];rfl
theorem least_eq {N:Nat} {a:List Int} {c:Ar Int 4} (ho:okG a) (hf:fits a c) (hN:5< N):
 ∃ m:Int,rounds (fun s=>Qar.b0 N c s.1 s.2) N (0,0)=some (.go m)∧rounds (fun s=>Qaw.b0 N c s.1 s.2) N (0,0)=some (.go m)∧
  0≤m∧m≤40∧∀ j:Nat,j< 4→0< c.l.getD j 0→0< m∧m≤c.l.getD j 0:=by
 obtain ⟨e,e',he,he',m,hr,hr',hm⟩:=rounds_both (b:=fun s=>Qar.b0 N c s.1 s.2) (b':=fun s=>Qaw.b0 N c s.1 s.2)
  (R:=fun s t=>s=t∧(0≤s.1∧s.1≤40)∧∃ i:Nat,s.2=i∧i≤4∧∀ j:Nat,j< i→0< c.l.getD j 0→0< s.1∧s.1≤c.l.getD j 0) (m:=fun s=>4 - s.2.toNat)
  (Q:=fun e e'=>∃ m,e= .go m∧e'= .go m∧0≤m∧m≤40∧∀ j:Nat,j< 4→0< c.l.getD j 0→0< m∧m≤c.l.getD j 0)
  (by
   rintro ⟨m,_⟩ _ ⟨rfl,hm,i,rfl,hi,hh⟩
   simp only at hm hh
   by_cases hl':i< 4
   ·right
    have g1:(i:Int)< 4:=by omega
    have g2:(0:Int)≤i:=by omega
    have hc:=hf i hl'
    have ha:=getD_le ho i
    have key:∀ m':Int,(m'=m∧(c.l.getD i 0>0→0< m∧m≤c.l.getD i 0))∨(m'=c.l.getD i 0∧c.l.getD i 0>0∧(m=0∨c.l.getD i 0< m))→
     ((m',((i+1:Nat):Int)):Int×Int)=(m',((i+1:Nat):Int))∧(0≤m'∧m'≤40)∧∃ k:Nat,((i+1:Nat):Int)=k∧k≤4∧∀ j:Nat,j< k→0< c.l.getD j 0→0< m'∧m'≤c.l.getD j 0:=by
     intro m' hq
     refine ⟨rfl,by omega,i+1,rfl,by omega,fun j hj hp=>?_⟩
     by_cases e:j=i
     ·subst e;omega
     ·have:=hh j (by omega) hp
      omega
    have ms:∀ x:Int,4 - Int.toNat ((i+1:Nat):Int)< 4 - Int.toNat (i:Int):=by intro _;simp only [Int.toNat_natCast];omega
    by_cases h1:c.l.getD i 0>0
    ·by_cases h2:m=0
     ·refine ⟨(c.l.getD i 0,((i+1:Nat):Int)),_,?_,?_,key _ (.inr ⟨rfl,h1, .inl h2⟩),ms 0⟩
      ·simp only [Qar.b0,Qar.j5,g1,g2,and_self,if_true,ar_get,h1,h2,i64w_succ hl' (by decide)]
      ·simp only [Qaw.b0,Qaw.j4,g1,g2,and_self,if_true,ar_get,h1,h2,i64w_succ hl' (by decide)]
     ·by_cases h3:c.l.getD i 0< m
      ·refine ⟨(c.l.getD i 0,((i+1:Nat):Int)),_,?_,?_,key _ (.inr ⟨rfl,h1, .inr h3⟩),ms 0⟩
       ·simp only [Qar.b0,Qar.j5,g1,g2,and_self,if_true,if_false,ar_get,h1,h2,h3,i64w_succ hl' (by decide)]
       ·simp only [Qaw.b0,Qaw.j4,g1,g2,and_self,if_true,if_false,ar_get,h1,h2,h3,i64w_succ hl' (by decide)]
      ·refine ⟨(m,((i+1:Nat):Int)),_,?_,?_,key _ (.inl ⟨rfl,fun _=>by omega⟩),ms 0⟩
       ·simp only [Qar.b0,Qar.j5,g1,g2,and_self,if_true,if_false,ar_get,h1,h2,h3,i64w_succ hl' (by decide)]
       ·simp only [Qaw.b0,Qaw.j4,g1,g2,and_self,if_true,if_false,ar_get,h1,h2,h3,i64w_succ hl' (by decide)]
    ·refine ⟨(m,((i+1:Nat):Int)),_,?_,?_,key _ (.inl ⟨rfl,fun h=>absurd h h1⟩),ms 0⟩
     ·simp only [Qar.b0,Qar.j5,g1,g2,and_self,if_true,if_false,ar_get,h1,i64w_succ hl' (by decide)]
     ·simp only [Qaw.b0,Qaw.j4,g1,g2,and_self,if_true,if_false,ar_get,h1,i64w_succ hl' (by decide)]
   ·left
    obtain rfl:i=4:=by omega
    exact ⟨.go m, .go m,rfl,rfl,m,rfl,rfl,hm.1,hm.2,hh⟩)
  N N (0,0) (0,0) ⟨rfl,by decide,0,rfl,Nat.zero_le _,fun j h=>absurd h (Nat.not_lt_zero _)⟩ (by simp only [Int.toNat_zero];omega) (by simp only [Int.toNat_zero];omega)
 subst hr hr'
 exact ⟨m,he,he',hm⟩
theorem wait_eq {N:Nat} {a:List Int} {c:Ar Int 4} (ho:okG a) (hf:fits a c) (hN:5< N):
 ∃ r:Ar Int 4×Int,Qar.f N c=some r∧Qaw.f N c=some r∧fits a r.1∧0≤r.2∧r.2≤40:=by
 obtain ⟨m,hs,hi,h0,h40,hm⟩:=least_eq ho hf hN
 obtain ⟨e,e',he,he',r,hr,hr',hfr⟩:=rounds_both (b:=fun s=>Qar.b2 N m s.1 s.2) (b':=fun s=>Qaw.b2 N m s.1 s.2)
  (R:=fun s t=>s=t∧fits a s.1∧∃ i:Nat,s.2=i∧i≤4∧∀ j:Nat,i≤j→j< 4→s.1.l.getD j 0=c.l.getD j 0) (m:=fun s=>4 - s.2.toNat)
  (Q:=fun e e'=>∃ r,e= .go r∧e'= .go r∧fits a r)
  (by
   rintro ⟨d,_⟩ _ ⟨rfl,hf,i,rfl,hi,hh⟩
   simp only at hf hh
   by_cases hl':i< 4
   ·right
    have g1:(i:Int)< 4:=by omega
    have g2:(0:Int)≤i:=by omega
    have hc:=hf i hl'
    have ha:=getD_le ho i
    have hd:=hh i (Nat.le_refl _) hl'
    have hmi:=hm i hl'
    have hw:i16w (d.l.getD i 0 - m)=d.l.getD i 0 - m:=i16w_id (by omega) (by omega)
    have ms:4 - Int.toNat ((i+1:Nat):Int)< 4 - Int.toNat (i:Int):=by simp only [Int.toNat_natCast];omega
    by_cases h1:d.l.getD i 0>0
    ·have hmx:mxI (d.l.getD i 0 - m) 0=d.l.getD i 0 - m:=by
      unfold mxI
      rw [if_neg (by omega)]
     refine ⟨(d.set (i:Int) (d.l.getD i 0 - m),((i+1:Nat):Int)),_,?_,?_,⟨rfl,fits_set hf hl' (by omega),i+1,rfl,by omega,fun j h1 h2=>by rw [get_set_other (by omega)];exact hh j (by omega) h2⟩,ms⟩
     ·simp only [Qar.b2,Qar.j4,g1,g2,and_self,if_true,ar_get,h1,hw,i64w_succ hl' (by decide)]
     ·simp only [Qaw.b2,g1,g2,and_self,if_true,ar_get,hw,hmx,i64w_succ hl' (by decide)]
    ·have hz:d.l.getD i 0=0:=by omega
     have hmx:mxI (i16w (d.l.getD i 0 - m)) 0=0:=by
      rw [hw]
      unfold mxI
      split<;>omega
     refine ⟨(d,((i+1:Nat):Int)),_,?_,?_,⟨rfl,hf,i+1,rfl,by omega,fun j h1 h2=>hh j (by omega) h2⟩,ms⟩
     ·simp only [Qar.b2,Qar.j4,g1,g2,and_self,if_true,if_false,ar_get,h1,i64w_succ hl' (by decide)]
     ·simp only [Qaw.b2,g1,g2,and_self,if_true,ar_get,hmx,set_same hl' hz,i64w_succ hl' (by decide)]
   ·left
    obtain rfl:i=4:=by omega
    exact ⟨.go d, .go d,rfl,rfl,d,rfl,rfl,hf⟩)
  N N (c,0) (c,0) ⟨rfl,hf,0,rfl,Nat.zero_le _,fun j _ _=>rfl⟩ (by simp only [Int.toNat_zero];omega) (by simp only [Int.toNat_zero];omega)
 subst hr hr'
 refine ⟨(r,m),?_,?_,hfr,h0,h40⟩
 ·simp only [Qar.f,hs,Option.bind_some,Ex.fin,Qar.a0,he,Qar.a2,i64w_id (x:=m) (by omega) (by omega)]
 ·simp only [Qaw.f,hi,Option.bind_some,Ex.fin,Qaw.a0,he',Qaw.a2,i64w_id (x:=m) (by omega) (by omega)]
theorem sets_all:∀ n:Nat,n≤4→shlI .i64 1 (n:Int)=2^n:=by decide+kernel
theorem sets_eq {N:Nat} {a:List Int} (h:a.length≤4):Qbt.f N a=some (2^a.length):=by
 simp only [Qbt.f]
 rw [u64w_id (by omega) (by omega),if_pos (by omega),sets_all _ h]
theorem isSet_eq {N:Nat} {a:List Int} {x:Int} (h:a.length≤4) (h0:0≤x) (h1:x≤255):Qba.f N a x=some (decide (x< 2^a.length)):=by
 simp only [Qba.f]
 rw [if_pos (by omega),sets_all _ h,i64w_id (by omega) (by omega)]
def prodR:List Int→Int
 |[]=>1
 |g::gs=>(g+1)*prodR gs
def hor:List Int→List Int→Int
 |[],_=>0
 |_::_,[]=>0
 |g::gs,t::ts=>t+(g+1)*hor gs ts
def dig:List Int→Int→List Int
 |[],_=>[]
 |g::gs,k=>k%(g+1)::dig gs (k/(g+1))
theorem prodR_eq:∀ (a:List Int) (m:Int),a.foldl (fun m x=>m*(x+1)) m=m*prodR a
 |[],m=>by simp [prodR]
 |g::gs,m=>by rw [List.foldl_cons,prodR_eq gs,prodR,Int.mul_assoc]
theorem prodG_R (a:List Int):prodG a=prodR a:=by unfold prodG;rw [prodR_eq];omega
theorem okG_tail {g:Int} {gs:List Int} (h:okG (g::gs)):(1≤g∧g≤40)∧okG gs:=⟨h g List.mem_cons_self,fun x hx=>h x (List.mem_cons_of_mem _ hx)⟩
theorem prodR_pos:∀ {a:List Int},okG a→1≤prodR a
 |[],_=>by simp [prodR]
 |g::gs,h=>by
  obtain ⟨h1,h2⟩:=okG_tail h
  have:=prodR_pos h2
  have:=Int.mul_le_mul (show (2:Int)≤g+1 by omega) this (by omega) (by omega)
  simp only [prodR];omega
def inR:List Int→List Int→Prop
 |[],_=>True
 |_::_,[]=>False
 |g::gs,t::ts=>(0≤t∧t≤g)∧inR gs ts
theorem hor_range:∀ {a t:List Int},okG a→inR a t→0≤hor a t∧hor a t< prodR a
 |[],_,_,_=>by simp [hor,prodR]
 |_::_,[],_,h=>h.elim
 |g::gs,t::ts,h,⟨h1,h2⟩=>by
  obtain ⟨g1,g2⟩:=okG_tail h
  obtain ⟨i1,i2⟩:=hor_range g2 h2
  have m1:=Int.mul_nonneg (show 0≤g+1 by omega) i1
  have m2:=Int.mul_le_mul_of_nonneg_left (show hor gs ts≤prodR gs - 1 by omega) (show 0≤g+1 by omega)
  rw [Int.mul_sub,Int.mul_one] at m2
  simp only [hor,prodR]
  omega
theorem dig_hor:∀ {a t:List Int},okG a→inR a t→dig a (hor a t)=t.take a.length
 |[],_,_,_=>by simp [dig]
 |_::_,[],_,h=>h.elim
 |g::gs,t::ts,h,⟨h1,h2⟩=>by
  obtain ⟨g1,g2⟩:=okG_tail h
  have e1:(t+(g+1)*hor gs ts)%(g+1)=t:=by rw [Int.add_mul_emod_self_left];exact Int.emod_eq_of_lt h1.1 (by omega)
  have e2:(t+(g+1)*hor gs ts)/(g+1)=hor gs ts:=by rw [Int.add_mul_ediv_left _ _ (by omega)];rw [Int.ediv_eq_zero_of_lt h1.1 (by omega)];omega
  simp only [hor,dig,e1,e2,dig_hor g2 h2,List.length_cons,List.take_succ_cons]
theorem dig_len:∀ (a:List Int) (k:Int),(dig a k).length=a.length
 |[],_=>rfl
 |g::gs,k=>by simp [dig,dig_len gs]
theorem dig_in:∀ {a:List Int} {k:Int},okG a→0≤k→inR a (dig a k)
 |[],_,_,_=>trivial
 |g::gs,k,h,hk=>by
  obtain ⟨g1,g2⟩:=okG_tail h
  have m1:=Int.emod_nonneg k (show g+1≠0 by omega)
  have m2:=Int.emod_lt_of_pos k (show 0< g+1 by omega)
  exact ⟨⟨m1,by omega⟩,dig_in g2 (Int.ediv_nonneg hk (by omega))⟩
theorem hor_dig:∀ {a:List Int} {k:Int} (ts:List Int),okG a→0≤k→k< prodR a→hor a (dig a k++ts)=k
 |[],k,ts,_,h0,h1=>by simp [prodR] at h1;simp [hor];omega
 |g::gs,k,ts,h,h0,h1=>by
  obtain ⟨g1,g2⟩:=okG_tail h
  have hq:k/(g+1)< prodR gs:=by
   refine Int.ediv_lt_of_lt_mul (by omega) ?_
   simp only [prodR] at h1
   rw [Int.mul_comm];exact h1
  have ih:=hor_dig ts g2 (Int.ediv_nonneg h0 (show 0≤g+1 by omega)) hq
  show k%(g+1)+(g+1)*hor gs (dig gs (k/(g+1))++ts)=k
  rw [ih]
  have:=Int.emod_add_mul_ediv k (g+1)
  omega
theorem inR_fits:∀ {a l:List Int},a.length≤l.length→(inR a l↔∀ i:Nat,i< a.length→0≤l.getD i 0∧l.getD i 0≤a.getD i 0)
 |[],_,_=>by simp [inR]
 |_::_,[],h=>by simp at h
 |g::gs,t::ts,h=>by
  have ih:=inR_fits (a:=gs) (l:=ts) (by simpa using h)
  constructor
  ·rintro ⟨h1,h2⟩ i hi
   cases i with
   |zero=>simpa using h1
   |succ i=>simpa using (ih.1 h2) i (by simpa using hi)
  ·intro hh
   refine ⟨by simpa using hh 0 (by simp),ih.2 fun i hi=>?_⟩
   simpa using hh (i+1) (by simpa using hi)
theorem fits_in {a:List Int} {c:Ar Int 4} (hl:a.length≤4) (h:fits a c):inR a c.l:=(inR_fits (by rw [c.h];exact hl)).2 fun i hi=>h i (by omega)
def atT (a:List Int) (k:Int):Ar Int 4:=⟨(dig a k++List.replicate 4 0).take 4,by simp⟩
theorem atT_get {a:List Int} (hl:a.length≤4) (k:Int) {i:Nat} (hi:i< 4):(atT a k).l.getD i 0=(dig a k).getD i 0:=by
 unfold atT
 rw [List.getD_eq_getElem?_getD,List.getD_eq_getElem?_getD,List.getElem?_take,if_pos hi]
 by_cases c:i< (dig a k).length
 ·rw [List.getElem?_append_left c]
 ·rw [List.getElem?_append_right (by omega),List.getElem?_eq_none (l:=dig a k) (by omega),List.getElem?_replicate]
  split<;>rfl
theorem atT_fits {a:List Int} (hl:a.length≤4) (ho:okG a) {k:Int} (h0:0≤k):fits a (atT a k):=by
 intro i hi
 rw [atT_get hl k hi]
 by_cases c:i< a.length
 ·exact (inR_fits (by rw [dig_len];exact Nat.le_refl _)).1 (dig_in ho h0) i c
 ·have e1:(dig a k).getD i 0=0:=by rw [List.getD_eq_getElem?_getD,List.getElem?_eq_none (by rw [dig_len];omega)];rfl
  rw [e1,getD_out c];omega
theorem atT_hor {a:List Int} (hl:a.length≤4) (ho:okG a) {c:Ar Int 4} (h:fits a c):atT a (hor a c.l)=c:=by
 have e:=dig_hor ho (fits_in hl h)
 refine Ar.ext' ?_
 unfold atT
 simp only [e]
 refine List.ext_getElem (by simp [c.h]) fun i h1 h2=>?_
 have hi:i< 4:=by rw [c.h] at h2;exact h2
 rw [List.getElem_take]
 by_cases hc:i< a.length
 ·rw [List.getElem_append_left (by rw [List.length_take,c.h];omega),List.getElem_take]
 ·rw [List.getElem_append_right (by rw [List.length_take,c.h];omega),List.getElem_replicate]
  have:=h i hi
  rw [getD_out hc,getD_in h2] at this
  omega
theorem hor_atT {a:List Int} (hl:a.length≤4) (ho:okG a) {k:Int} (h0:0≤k) (h1:k< prodR a):hor a (atT a k).l=k:=by
 have e:(atT a k).l=dig a k++List.replicate (4 - a.length) 0:=by
  unfold atT
  simp only
  rw [List.take_append,List.take_of_length_le (by rw [dig_len];exact hl),dig_len,List.take_replicate]
  congr 2
  omega
 rw [e]
 exact hor_dig _ ho h0 h1
theorem drop_cons {l:List Int} {i:Nat} (h:i< l.length):l.drop i=l.getD i 0::l.drop (i+1):=by
 rw [List.drop_eq_getElem_cons h,getD_in h]
theorem okG_drop {a:List Int} (h:okG a) (i:Nat):okG (a.drop i):=fun x hx=>h x (List.mem_of_mem_drop hx)
theorem inR_drop:∀ {a l:List Int} (i:Nat),inR a l→inR (a.drop i) (l.drop i)
 |a,l,0,h=>h
 |[],l,i+1,h=>by simp [inR]
 |_::_,[],_+1,h=>h.elim
 |g::gs,t::ts,i+1,h=>by simpa using inR_drop i h.2
theorem prod_drop:∀ {a:List Int} (i:Nat),okG a→prodR (a.drop i)≤prodR a
 |a,0,h=>Int.le_refl _
 |[],_+1,h=>Int.le_refl _
 |g::gs,i+1,h=>by
  obtain ⟨g1,g2⟩:=okG_tail h
  have ih:=prod_drop i g2
  have p:=prodR_pos g2
  have:=Int.mul_le_mul (show (1:Int)≤g+1 by omega) (Int.le_refl (prodR gs)) (by omega) (by omega)
  simp only [List.drop_succ_cons,prodR];omega
theorem index_eq {N:Nat} {a:List Int} {c:Ar Int 4} (ho:okG a) (hl:a.length≤4) (hp:prodR a≤3000) (hf:fits a c) (hN:5< N):QaW.f N a c=some (hor a c.l):=by
 have hin:=fits_in hl hf
 have main:∀ (i m:Nat),i≤a.length→i< m→rounds (fun s=>QaW.b0 N a c s.1 s.2) m (hor (a.drop i) (c.l.drop i),(i:Int) - 1)=some (.go (hor a c.l)):=by
  intro i
  induction i with
  |zero=>
   intro m _ hm
   obtain ⟨m,rfl⟩:∃ j,m=j+1:=⟨m - 1,by omega⟩
   refine rounds_out ?_
   show QaW.b0 N a c (hor a c.l) (((0:Nat):Int) - 1)=_
   unfold QaW.b0
   rw [if_neg (by omega)]
  |succ i ih=>
   intro m hi hm
   obtain ⟨m,rfl⟩:∃ j,m=j+1:=⟨m - 1,by omega⟩
   have hr:=hor_range (okG_drop ho (i+1)) (inR_drop (i+1) hin)
   have hr2:=hor_range (okG_drop ho i) (inR_drop i hin)
   have hpd:=prod_drop (a:=a) (i+1) ho
   have hpd2:=prod_drop (a:=a) i ho
   have hil:i< c.l.length:=by rw [c.h];omega
   have ea:a.drop i=a.getD i 0::a.drop (i+1):=drop_cons (by omega)
   have ec:c.l.drop i=c.l.getD i 0::c.l.drop (i+1):=drop_cons hil
   have hg:=getD_le ho i
   have hc:=hf i (by omega)
   have eh:hor (a.drop i) (c.l.drop i)=c.l.getD i 0+(a.getD i 0+1)*hor (a.drop (i+1)) (c.l.drop (i+1)):=by rw [ea,ec];rfl
   have hm1:=Int.mul_nonneg (show 0≤a.getD i 0+1 by omega) hr.1
   have hb:QaW.b0 N a c (hor (a.drop (i+1)) (c.l.drop (i+1))) (((i+1:Nat):Int) - 1)=some (.next (hor (a.drop i) (c.l.drop i),(i:Int) - 1)):=by
    have ei:((i+1:Nat):Int) - 1=(i:Int):=by omega
    rw [ei]
    unfold QaW.b0
    rw [if_pos (by omega),if_pos ⟨by omega,by omega⟩,if_pos ⟨by omega,by omega⟩]
    have er:rdL a (i:Int) 0=a.getD i 0:=by unfold rdL;rw [Int.toNat_natCast]
    rw [er,ar_get]
    rw [i64w_id (x:=a.getD i 0) (by omega) (by omega),i64w_id (x:=a.getD i 0+1) (by omega) (by omega),i64w_id (x:=c.l.getD i 0) (by omega) (by omega),Int.mul_comm,i64w_id (x:=(a.getD i 0+1)*hor (a.drop (i+1)) (c.l.drop (i+1))) (by omega) (by omega),i64w_id (x:=(a.getD i 0+1)*hor (a.drop (i+1)) (c.l.drop (i+1))+c.l.getD i 0) (by omega) (by omega),i64w_id (x:=(i:Int) - 1) (by omega) (by omega),eh,Int.add_comm (c.l.getD i 0)]
   exact (rounds_next (n:=m) (b:=fun s=>QaW.b0 N a c s.1 s.2) (s:=(hor (a.drop (i+1)) (c.l.drop (i+1)),((i+1:Nat):Int) - 1)) hb).trans (ih m (by omega) (by omega))
 have h:=main a.length N (Nat.le_refl _) (by omega)
 rw [List.drop_length] at h
 unfold QaW.f
 rw [i64w_id (x:=(a.length:Int) - 1) (by omega) (by omega),show rounds (fun s=>QaW.b0 N a c s.1 s.2) N ((0:Int),(a.length:Int) - 1)=_ from h]
 rfl
def quo:List Int→Int→Nat→Int
 |_,k,0=>k
 |[],k,_+1=>k
 |g::gs,k,i+1=>quo gs (k/(g+1)) i
theorem quo_zero (a:List Int) (k:Int):quo a k 0=k:=by cases a<;>rfl
theorem quo_dig:∀ {a:List Int} {k:Int} {i:Nat},i< a.length→(dig a k).getD i 0=quo a k i%(a.getD i 0+1)∧quo a k (i+1)=quo a k i/(a.getD i 0+1)
 |[],_,_,h=>by simp at h
 |g::gs,k,0,_=>by cases gs<;>simp [dig,quo]
 |g::gs,k,i+1,h=>by
  have ih:=quo_dig (a:=gs) (k:=k/(g+1)) (i:=i) (by simpa using h)
  exact ih
theorem quo_range:∀ {a:List Int} {k:Int} (i:Nat),okG a→0≤k→0≤quo a k i∧quo a k i≤k
 |a,k,0,_,h=>by rw [quo_zero];exact ⟨h,Int.le_refl _⟩
 |[],k,_+1,_,h=>⟨h,Int.le_refl _⟩
 |g::gs,k,i+1,ho,h=>by
  obtain ⟨g1,g2⟩:=okG_tail ho
  have q:=quo_range (a:=gs) (k:=k/(g+1)) i g2 (Int.ediv_nonneg h (by omega))
  have:=Int.ediv_le_self (g+1) h
  simp only [quo]
  omega
theorem at_eq {N:Nat} {a:List Int} {k:Int} (ho:okG a) (hl:a.length≤4) (h0:0≤k) (h1:k≤3000) (hN:5< N):Qa5.f N a k=some (atT a k):=by
 have main:∀ (m i:Nat) (c:Ar Int 4),i≤a.length→a.length - i< m→(∀ j,j< 4→c.l.getD j 0=if j< i then (dig a k).getD j 0 else 0)→rounds (fun s=>Qa5.b0 N a s.1 s.2.1 s.2.2) m (quo a k i,c,(i:Int))=some (.go (atT a k)):=by
  intro m
  induction m with
  |zero=>intro i c _ h;exact absurd h (Nat.not_lt_zero _)
  |succ m ih=>
   intro i c hi hm hc
   by_cases cl:i< a.length
   ·obtain ⟨q1,q2⟩:=quo_dig (k:=k) cl
    have qr:=quo_range (a:=a) i ho h0
    have hg:=getD_le ho i
    have er:rdL a (i:Int) 0=a.getD i 0:=by unfold rdL;rw [Int.toNat_natCast]
    have hb:Qa5.b0 N a (quo a k i) c (i:Int)=some (.next (quo a k (i+1),c.set (i:Int) ((dig a k).getD i 0),((i+1:Nat):Int))):=by
     have hm1:=Int.emod_nonneg (quo a k i) (show a.getD i 0+1≠0 by omega)
     have hm2:=Int.emod_lt_of_pos (quo a k i) (show 0< a.getD i 0+1 by omega)
     have hd:=Int.ediv_nonneg qr.1 (show 0≤a.getD i 0+1 by omega)
     have hd2:=Int.ediv_le_self (a.getD i 0+1) qr.1
     unfold Qa5.b0
     rw [if_pos (by omega),if_pos ⟨by omega,by omega⟩,er,i64w_id (x:=a.getD i 0) (by omega) (by omega),i64w_id (x:=a.getD i 0+1) (by omega) (by omega),if_pos (by omega),if_pos ⟨by omega,by omega⟩,if_pos (by omega),Int.tmod_eq_emod_of_nonneg qr.1,Int.tdiv_eq_ediv_of_nonneg qr.1,i64w_id (x:=quo a k i/(a.getD i 0+1)) (by omega) (by omega),i64w_id (x:=(i:Int)+1) (by omega) (by omega),q1,q2,show i16w (quo a k i%(a.getD i 0+1))=quo a k i%(a.getD i 0+1) from i16w_id (by omega) (by omega)]
     rfl
    refine (rounds_next (n:=m) (b:=fun s=>Qa5.b0 N a s.1 s.2.1 s.2.2) (s:=(quo a k i,c,(i:Int))) hb).trans (ih (i+1) _ (by omega) (by omega) fun j hj=>?_)
    by_cases e:i=j
    ·subst e;rw [get_set_same hj,if_pos (by omega)]
    ·rw [get_set_other e,hc j hj]
     by_cases hji:j< i
     ·rw [if_pos hji,if_pos (by omega)]
     ·rw [if_neg hji,if_neg (by omega)]
   ·have:i=a.length:=by omega
    subst this
    have e:c=atT a k:=by
     refine Ar.ext' (List.ext_getElem (by rw [c.h,(atT a k).h]) fun j h1 h2=>?_)
     have hj:j< 4:=by rw [c.h] at h1;exact h1
     have g1:=hc j hj
     rw [← getD_in h1,← getD_in h2,g1,atT_get hl k hj]
     by_cases hja:j< a.length
     ·rw [if_pos hja]
     ·rw [if_neg hja,List.getD_eq_getElem?_getD,List.getElem?_eq_none (by rw [dig_len];omega)];rfl
    rw [e]
    refine rounds_out ?_
    show Qa5.b0 N a (quo a k a.length) (atT a k) (a.length:Int)=_
    unfold Qa5.b0
    rw [if_neg (by omega)]
 have h:=main N 0 (Ar.rep 4 0) (by omega) (by omega) (fun j hj=>by
  rw [if_neg (by omega)]
  match j,hj with
  |0,_=>rfl
  |1,_=>rfl
  |2,_=>rfl
  |3,_=>rfl)
 rw [quo_zero] at h
 unfold Qa5.f
 rw [show rounds (fun s=>Qa5.b0 N a s.1 s.2.1 s.2.2) N (k,(Ar.rep 4 0),0)=_ from h]
 rfl
abbrev Mo:=Qa3
abbrev T4:=Ar Int 4
structure Gl (a:List Int):Prop where
 ok:okG a
 len:a.length≤4
 few:prodR a≤3000
def nxt (N:Nat) (a:List Int) (c:T4) (s:Nat):T4×Int:=match QaI.f N a c (s:Int) with
 |some r=>(Qar.f N r).getD (c,0)
 |none=>(c,0)
theorem nxt_ok {N:Nat} {a:List Int} (G:Gl a) {c:T4} (hf:fits a c) {s:Nat} (hs:s≤255) (hN:5< N):
 ∃ r,QaI.f N a c (s:Int)=some r∧Qao.f N a c (s:Int)=some r∧Qar.f N r=some (nxt N a c s)∧Qaw.f N r=some (nxt N a c s)∧fits a (nxt N a c s).1∧0≤(nxt N a c s).2∧(nxt N a c s).2≤40:=by
 obtain ⟨r,h1,h2,h3⟩:=turn_eq (N:=N) (x:=(s:Int)) G.ok G.len hf (by omega) (by omega) hN
 obtain ⟨w,g1,g2,g3,g4,g5⟩:=wait_eq (N:=N) G.ok h3 hN
 have e:nxt N a c s=w:=by unfold nxt;rw [h1];simp only [g1];rfl
 rw [e]
 exact ⟨r,h1,h2,g1,g2,g3,g4,g5⟩
def suc (N:Nat) (a:List Int) (T:Int) (x:Mo) (s:Nat):Option Mo:=
 if (nxt N a x.Qaz s).2>0 then (if x.Qav+(nxt N a x.Qaz s).2≤T then some ⟨x.Qav+(nxt N a x.Qaz s).2,(nxt N a x.Qaz s).1⟩ else none) else none
def okM (a:List Int) (T:Int) (x:Mo):Prop:=(0≤x.Qav∧x.Qav≤T)∧fits a x.Qaz
theorem suc_ok {N:Nat} {a:List Int} (G:Gl a) {T:Int} {x y:Mo} (hx:okM a T x) {s:Nat} (hs:s≤255) (hN:5< N) (h:suc N a T x s=some y):okM a T y:=by
 obtain ⟨r,_,_,_,_,h3,h4,_⟩:=nxt_ok G hx.2 hs hN
 unfold suc at h
 split at h
 ·split at h
  ·rename_i g1 g2
   cases h
   have:=hx.1
   exact ⟨⟨by dsimp only;omega,g2⟩,h3⟩
  ·cases h
 ·cases h
theorem pow_le {n:Nat} (h:n≤4):2^n≤16∧1≤2^n:=by
 match n,h with
 |0,_=>decide
 |1,_=>decide
 |2,_=>decide
 |3,_=>decide
 |4,_=>decide
theorem pow_cast (n:Nat):(2:Int)^n=((2^n:Nat):Int):=by simp
structure Se (a:List Int) (n T:Nat):Prop where
 gl:Gl a
 n_eq:(n:Int)=prodR a
 n1:1≤n
 n3:n≤3000
 t:T≤120
def ix (a:List Int) (n:Nat) (y:Mo):Nat:=y.Qav.toNat*n+(hor a y.Qaz.l).toNat
variable {a:List Int} {n T:Nat}
instance (a:List Int) (c:T4):Decidable (okT a c):=by unfold okT fits;infer_instance
def askedC (a:List Int) (c:T4) (t:Int):Int:=if okT a c then (if 0≤t∧t≤120 then 0 else 2) else 1
theorem asked_spec {N:Nat} {a:List Int} {c:T4} {t:Int} (hb:∀ x∈a,-32768≤x∧x≤32767) (hN:5< N):QbA.f N a c t=some (askedC a c t):=by
 simp only [QbA.f,okT_spec hb hN,Option.bind_some,decide_eq_true_eq,askedC]
 by_cases hk:okT a c
 ·rw [if_pos hk,if_pos hk]
  unfold QbD.f
  by_cases h1:t≥0
  ·rw [if_pos h1,Option.bind_some]
   by_cases h2:t≤120
   ·rw [if_pos (decide_eq_true h2),if_pos ⟨h1,h2⟩]
   ·rw [if_neg (by simpa using h2),if_neg (fun g=>h2 g.2)]
  ·rw [if_neg h1,Option.bind_some,if_neg Bool.false_ne_true,if_neg (fun g=>h1 g.1)]
 ·rw [if_neg hk,if_neg hk]
theorem asked_impl {N:Nat} {a:List Int} {c:T4} {t:Int} (hb:∀ x∈a,-32768≤x∧x≤32767) (h:a.length≤1048576) (hN:a.length+5< N):Qbk.f N a c t=some (askedC a c t):=by
 simp only [Qbk.f,okT_impl hb h hN,Option.bind_some,decide_eq_true_eq,askedC]
 by_cases hk:okT a c
 ·rw [if_pos hk,if_pos hk]
  unfold Qbl.f QbL.f
  by_cases h1:(0:Int)≤t
  ·rw [if_pos h1,Option.bind_some]
   by_cases h2:t≤120
   ·rw [if_pos (decide_eq_true h2),Option.bind_some,if_pos ⟨h1,h2⟩]
   ·rw [if_neg (by simpa using h2),Option.bind_some,if_neg (fun g=>h2 g.2)]
  ·rw [if_neg h1,Option.bind_some,if_neg Bool.false_ne_true,Option.bind_some,if_neg (fun g=>h1 g.1)]
 ·rw [if_neg hk,if_neg hk]
theorem okT_se {a:List Int} {c:T4} {t:Int} (hk:okT a c) (h0:0≤t) (h1:t≤120):∃ n T:Nat,st a=(n:Int)∧t=(T:Int)∧Se a n T:=by
 obtain ⟨h2,h3,h4⟩:=okT_len hk
 have hp:=prodR_pos h4
 have hs:st a=prodR a∧prodR a≤3000:=by
  have:=hk.1
  rw [st_ok ⟨h2,h3,h4⟩,prodG_R] at this ⊢
  split at this
  ·omega
  ·rename_i g;rw [if_neg g];exact ⟨rfl,by omega⟩
 obtain ⟨n,hn⟩:=Int.eq_ofNat_of_zero_le (show 0≤prodR a by omega)
 obtain ⟨T,hT⟩:=Int.eq_ofNat_of_zero_le h0
 exact ⟨n,T,by rw [hs.1,hn],hT,⟨⟨h4,h3,hs.2⟩,hn.symm,by omega,by omega,by omega⟩⟩
end Go.Proofs.YtgoninfjneepfaaGreatDoorX
namespace Go.Proofs.YtgoninfjneepfaaGreatDoorX
open Go
theorem decimal_eq (N:Nat) {n:Int} (h0:0≤n) (h1:n< 100):Qbd.f N n=some ⟨(Lib.decDigits n.toNat).toArray⟩:=by
 have e:Lib.itoa n=Lib.decDigits n.toNat:=by unfold Lib.itoa;rw [if_neg (by omega)]
 simp only [Qbd.f,strconv_FormatInt.f]
 rw [if_pos ⟨⟨by omega,by omega⟩,trivial⟩,e]
 rfl
end Go.Proofs.YtgoninfjneepfaaGreatDoorX
namespace Go.Proofs.YtgoninfjneepfaaGreatDoorX
open Go
set_option linter.unusedVariables false
set_option linter.unusedSimpArgs false
theorem join_snoc (sep:List UInt8) (xs:List (List UInt8)) (y:List UInt8):Lib.join (xs++[y]) sep=if xs=[] then y else Lib.join xs sep++sep++y:=by
 cases xs with
 |nil=>simp [Lib.join_one]
 |cons x r=>
  rw [if_neg (by simp),List.cons_append,Lib.join_cons,Lib.join_cons]
  simp [Lib.joinTail,List.append_assoc]
theorem ba_app (x y:List UInt8):(⟨x.toArray⟩:ByteArray)++(⟨y.toArray⟩:ByteArray)=⟨(x++y).toArray⟩:=by
 apply ByteArray.ext
 simp
theorem ba_size (x:List UInt8):(⟨x.toArray⟩:ByteArray).size=x.length:=by simp [ByteArray.size]
theorem nd_le (u:Nat):Lib.nDigits u≤u+1:=by
 induction u using Nat.strongRecOn with
 |_ u ih=>
  by_cases h:u< 10
  ·rw [Lib.nDigits_small h];omega
  ·rw [Lib.nDigits_big h]
   have:=ih (u/10) (by omega)
   omega
theorem dec_len (u:Nat):(Lib.decDigits u).length≤u+1:=by rw [Lib.decDigits_length];exact nd_le u
def spl (c:UInt8):List UInt8→List UInt8→List (List UInt8)
 |cur,[]=>[cur]
 |cur,x::l=>if x=c then cur::spl c [] l else spl c (cur++[x]) l
theorem spl_miss {c:UInt8}:∀ (l cur:List UInt8),c∉l→spl c cur l=[cur++l]
 |[],cur,_=>by simp [spl]
 |x::l,cur,h=>by
  simp only [List.mem_cons,not_or] at h
  unfold spl
  rw [if_neg (fun e=>h.1 e.symm),spl_miss l _ h.2]
  simp
theorem spl_hit {c:UInt8}:∀ (pre cur post:List UInt8),c∉pre→spl c cur (pre++c::post)=(cur++pre)::spl c [] post
 |[],cur,post,_=>by
  show spl c cur (c::post)=_
  rw [spl,if_pos rfl]
  simp
 |x::l,cur,post,h=>by
  simp only [List.mem_cons,not_or] at h
  rw [List.cons_append]
  rw [show spl c cur (x::(l++c::post))=spl c (cur++[x]) (l++c::post) by rw [spl,if_neg (fun e=>h.1 e.symm)],spl_hit l _ post h.2]
  simp
theorem index_miss {c:UInt8}:∀ (l:List UInt8),c∉l→Lib.index l [c]= -1
 |[],_=>rfl
 |x::l,h=>by
  simp only [List.mem_cons,not_or] at h
  unfold Lib.index
  have:([c]:List UInt8).isPrefixOf (x::l)=false:=by simp [List.isPrefixOf,h.1]
  rw [this,index_miss l h.2]
  rfl
theorem index_hit {c:UInt8}:∀ (pre post:List UInt8),c∉pre→Lib.index (pre++c::post) [c]=(pre.length:Int)
 |[],post,_=>by
  show Lib.index (c::post) [c]=0
  unfold Lib.index
  have:([c]:List UInt8).isPrefixOf (c::post)=true:=by simp [List.isPrefixOf]
  rw [this];rfl
 |x::l,post,h=>by
  simp only [List.mem_cons,not_or] at h
  rw [List.cons_append]
  unfold Lib.index
  have:([c]:List UInt8).isPrefixOf (x::(l++c::post))=false:=by simp [List.isPrefixOf,h.1]
  rw [this,index_hit l post h.2]
  have h1:((l.length:Int)== -1)=false:=by simp
  rw [h1]
  simp
theorem split_eq {c:UInt8}:∀ (n:Nat) (l:List UInt8),l.length≤n→Lib.splitK [c] 0 (Lib.count l [c]) l=spl c [] l:=by
 intro n
 induction n with
 |zero=>
  intro l h
  obtain rfl:l=[]:=List.length_eq_zero_iff.1 (by omega)
  rw [Lib.count_miss (index_miss [] (by simp))]
  rfl
 |succ n ih=>
  intro l h
  by_cases hc:c∈l
  ·obtain ⟨pre,post,rfl,hp⟩:=List.eq_append_cons_of_mem hc
   have hi:=index_hit pre post hp
   have hd:(pre++c::post).drop (pre.length+([c]:List UInt8).length)=post:=by
    rw [List.length_singleton,show pre++c::post=(pre++[c])++post by simp,show pre.length+1=(pre++[c]).length by simp,List.drop_left]
   rw [Lib.count_hit (by simp) hi,hd,Nat.add_comm 1,spl_hit pre [] post hp]
   unfold Lib.splitK
   have h1:(Lib.index (pre++c::post) [c]== -1)=false:=by rw [hi];simp
   rw [h1,hi,Int.toNat_natCast,hd,Nat.add_zero,List.take_left,ih post (by simp at h;omega)]
   rfl
  ·rw [Lib.count_miss (index_miss l hc),spl_miss l [] hc]
   rfl
theorem Qca {c:UInt8} (s:ByteArray):(Lib.splitB ⟨#[c]⟩ 0 (Lib.countB s ⟨#[c]⟩) s).map (·.data.toList)=spl c [] s.data.toList:=by
 rw [Lib.splitB_data]
 exact split_eq _ _ (Nat.le_refl _)
theorem sz (s:ByteArray):s.size=s.data.toList.length:=by rw [Array.length_toList];rfl
theorem data_inj:∀ {xs ys:List ByteArray},xs.map (·.data.toList)=ys.map (·.data.toList)→xs=ys
 |[],[],_=>rfl
 |[],_::_,h=>by simp at h
 |_::_,[],h=>by simp at h
 |x::xs,y::ys,h=>by
  rw [List.map_cons,List.map_cons,List.cons.injEq] at h
  obtain rfl:x=y:=ByteArray.ext (Array.toList_inj.1 h.1)
  rw [data_inj h.2]
theorem split_impl {N:Nat} {s:ByteArray} {c:UInt8} (hs:s.size≤1048576):strings_Split.f N s ⟨#[c]⟩=some (Lib.splitB ⟨#[c]⟩ 0 (Lib.countB s ⟨#[c]⟩) s):=by
 unfold strings_Split.f
 rw [if_pos ⟨by omega,Nat.le_refl 1⟩]
def dd:Nat→Nat→List UInt8
 |0,_=>[]
 |k+1,n=>if n< 10 then [UInt8.ofNat (48+n)] else dd k (n/10)++[UInt8.ofNat (48+n%10)]
theorem dd_eq (k:Nat):∀ n:Nat,n< 10^(k+1)→Lib.decDigits n=dd (k+1) n:=by
 induction k with
 |zero=>
  intro n h
  have h10:n< 10:=by simpa using h
  rw [Lib.decDigits,dif_pos h10,dd,if_pos h10]
 |succ k ih=>
  intro n h
  by_cases h10:n< 10
  ·rw [Lib.decDigits,dif_pos h10,dd,if_pos h10]
  ·rw [Nat.pow_succ] at h
   rw [Lib.decDigits,dif_neg h10,dd,if_neg h10,ih (n/10) (by omega)]
theorem dd5 {n:Nat} (h:n≤2000):Lib.decDigits n=dd 4 n:=dd_eq 3 n (by omega)
theorem parse_lit:∀ n:Nat,n< 2001→parsed (dd 4 n)=((n:Int),false):=by decide+kernel
theorem parsed_lit {n:Nat} (h:n≤2000):parsed (Lib.decDigits n)=((n:Int),false):=by rw [dd5 h];exact parse_lit n (by omega)
theorem parsed_range {l:List UInt8} (h:(parsed l).2=false): -9223372036854775808≤(parsed l).1∧(parsed l).1≤9223372036854775807:=by
 unfold parsed at h ⊢
 cases hp:Lib.parseIntB 64 l with
 |ok v=>
  show -9223372036854775808≤v∧v≤9223372036854775807
  unfold Lib.parseIntB at hp
  cases l with
  |nil=>cases hp
  |cons c r=>
   simp only at hp
   cases hq:Lib.parseUintB 64 (if c.toNat=43∨c.toNat=45 then r else c::r) with
   |ok u=>
    rw [hq] at hp
    simp only at hp
    split at hp
    ·cases hp
    ·split at hp
     ·cases hp
     ·rename_i h1 h2
      have:=Lib.NumEnd.ok.inj hp
      by_cases hn:c.toNat=45
      ·rw [if_pos hn] at this
       have:¬ (2^63< u):=fun g=>h2 ⟨hn,g⟩
       omega
      ·rw [if_neg hn] at this
       have:¬ (2^63≤u):=fun g=>h1 ⟨hn,g⟩
       omega
   |_=>rw [hq] at hp;cases hp
 |_=>rw [hp] at h;cases h
def nuI (most:Int) (l:List UInt8):Int×Bool:=if (parsed l).2=true then (0,false) else if Lib.itoa (parsed l).1=l then (if 0≤(parsed l).1 then (if (parsed l).1≤most then ((parsed l).1,true) else (0,false)) else (0,false)) else (0,false)
theorem ba_litI {w:ByteArray} {l:List UInt8}:((⟨l.toArray⟩:ByteArray).toList=w.toList)↔l=w.data.toList:=by
 rw [Lib.toList_data,Lib.toList_data]
theorem number_impl (N:Nat) {w:ByteArray} {most:Int} (hs:w.size≤1048576):Qbx.f N w most=some (nuI most w.data.toList):=by
 unfold Qbx.f strconv_ParseInt.f nuI
 rw [if_pos ⟨by omega,rfl,rfl⟩,Option.bind_some]
 by_cases h2:(parsed w.data.toList).2=true
 ·rw [if_pos h2,if_pos h2]
 ·have hr:=parsed_range (l:=w.data.toList) (by simpa using h2)
  have hd:Qbd.f N (parsed w.data.toList).1=some ⟨(Lib.itoa (parsed w.data.toList).1).toArray⟩:=by
   unfold Qbd.f strconv_FormatInt.f
   rw [if_pos ⟨hr,rfl⟩]
   rfl
  rw [if_neg h2,if_neg h2,hd,Option.bind_some]
  by_cases h3:Lib.itoa (parsed w.data.toList).1=w.data.toList
  ·rw [if_pos (ba_litI.2 h3),if_pos h3]
   unfold Qbl.f
   by_cases h4:0≤(parsed w.data.toList).1
   ·rw [if_pos h4,if_pos h4,Option.bind_some]
    by_cases h5:(parsed w.data.toList).1≤most
    ·rw [decide_eq_true h5,if_pos rfl,if_pos h5]
    ·rw [decide_eq_false h5,if_neg Bool.false_ne_true,if_neg h5]
   ·rw [if_neg h4,if_neg h4,Option.bind_some,if_neg Bool.false_ne_true]
  ·rw [if_neg (fun g=>h3 (ba_litI.1 g)),if_neg h3]
theorem nuI_lit {most:Int} (hm:most≤2000) {n:Nat} (h:(n:Int)≤most):nuI most (Lib.decDigits n)=((n:Int),true):=by
 unfold nuI
 rw [parsed_lit (by omega)]
 have e:Lib.itoa (n:Int)=Lib.decDigits n:=by unfold Lib.itoa;rw [if_neg (by omega),Int.toNat_natCast]
 rw [if_neg Bool.false_ne_true,if_pos e,if_pos (by omega),if_pos h]
def gw (l:List UInt8):Option (Int×Int):=if (Lib.cut l [47]).2.2=true then (if (nuI 40 (Lib.cut l [47]).1).2=true then (if (nuI 40 (Lib.cut l [47]).2.1).2=true then some ((nuI 40 (Lib.cut l [47]).1).1,(nuI 40 (Lib.cut l [47]).2.1).1) else none) else none) else none
theorem cut_hit {pre post:List UInt8} (h:(47:UInt8)∉pre):Lib.cut (pre++47::post) [47]=(pre,post,true):=by
 have hi:=index_hit pre post h
 have hd:(pre++(47:UInt8)::post).drop (pre.length+([47]:List UInt8).length)=post:=by
  rw [List.length_singleton,show pre++(47:UInt8)::post=(pre++[47])++post by simp,show pre.length+1=(pre++[(47:UInt8)]).length by simp,List.drop_left]
 unfold Lib.cut
 rw [hi,Int.toNat_natCast,hd,List.take_left]
 simp
abbrev Z:List Int×Ar Int 4×Int:=([],Ar.rep 4 0,5)
abbrev R3:=Ar Int 4×List Int×Bool
def imW (i:Nat) (g:List Int) (t:Ar Int 4) (l:List UInt8):Bd R3 (Ar Int 4×List Int) (Ar Int 4×List Int×Int):=if 4≤i then .out (.ret (t,[],false)) else match gw l with
 |none=> .out (.ret (t,[],false))
 |some (a,b)=> .next (t.set (i:Int) (i16w a),g++[i16w b],((i+1:Nat):Int))
theorem Qcp {N:Nat} {ws:List ByteArray} {g:List Int} {t:Ar Int 4} {i:Nat} (hi:i< ws.length) (hl:ws.length≤1048577) (hg:g.length=i) (hz:(ws[i]).size≤1048576):
 QaQ.b0 N ws 40 t g (i:Int)=some (imW i g t (ws[i]).data.toList):=by
 have hL:=sz ws[i]
 have hcl:(Lib.cut (ws[i]).data.toList [47]).1.length≤1048576∧(Lib.cut (ws[i]).data.toList [47]).2.1.length≤1048576:=by
  unfold Lib.cut
  split
  ·simp only [List.length_take,List.length_drop];omega
  ·simp only [List.length_nil];omega
 have z0:(⟨(Lib.cut (ws[i]).data.toList [47]).1.toArray⟩:ByteArray).size≤1048576:=by rw [sz];exact hcl.1
 have z1:(⟨(Lib.cut (ws[i]).data.toList [47]).2.1.toArray⟩:ByteArray).size≤1048576:=by rw [sz];exact hcl.2
 have ec:strings_Cut.f N ws[i] (⟨#[47]⟩:ByteArray)=some (⟨(Lib.cut (ws[i]).data.toList [47]).1.toArray⟩,⟨(Lib.cut (ws[i]).data.toList [47]).2.1.toArray⟩,(Lib.cut (ws[i]).data.toList [47]).2.2):=by
  unfold strings_Cut.f
  rw [if_pos (by omega)]
 unfold QaQ.b0
 rw [if_pos (by omega),if_pos ⟨by omega,by omega⟩,rdL_nat hi,ec,Option.bind_some,number_impl N z0,Option.bind_some,number_impl N z1,Option.bind_some,i64w_succ hi (by omega)]
 unfold imW gw
 by_cases c:(Lib.cut (ws[i]).data.toList [47]).2.2=true
 ·rw [if_pos c,if_pos c]
  by_cases c0:(nuI 40 (Lib.cut (ws[i]).data.toList [47]).1).2=true
  ·rw [if_pos c0,if_pos c0]
   by_cases c1:(nuI 40 (Lib.cut (ws[i]).data.toList [47]).2.1).2=true
   ·rw [if_pos c1,if_pos c1]
    by_cases h4:4≤i
    ·rw [if_pos (by omega),if_pos h4]
    ·rw [if_neg (by omega),if_neg h4,if_pos (by rw [List.length_singleton];omega),if_pos ⟨by omega,by omega⟩]
   ·rw [if_neg c1,if_neg c1];split<;>rfl
  ·rw [if_neg c0,if_neg c0];split<;>rfl
 ·rw [if_neg c,if_neg c];split<;>rfl
def dgs (x:Int):List UInt8:=Lib.decDigits x.toNat
theorem dgs_len {x:Int} (h0:0≤x) (h1:x≤100):(dgs x).length≤101:=by
 have:=dec_len x.toNat
 show (Lib.decDigits x.toNat).length≤101
 omega
theorem dgs_impl {N:Nat} {x:Int} (h0:0≤x) (h1:x≤40):Qbd.f N (i64w x)=some ⟨(dgs x).toArray⟩:=by
 rw [i64w_id (by omega) (by omega),decimal_eq N h0 (by omega)]
 rfl
def wd (a:List Int) (c:Ar Int 4) (k:Nat):List UInt8:=(dgs (c.l.getD k 0)++[47])++dgs (a.getD k 0)
def jg (a:List Int) (c:Ar Int 4) (k:Nat):List UInt8:=Lib.join ((List.range k).map (wd a c)) [32]
theorem jg_succ (a:List Int) (c:Ar Int 4) (k:Nat):jg a c (k+1)=if k=0 then wd a c 0 else (jg a c k++[32])++wd a c k:=by
 unfold jg
 rw [List.range_succ,List.map_append]
 show Lib.join ((List.range k).map (wd a c)++[wd a c k]) [32]=_
 rw [join_snoc]
 by_cases hk:k=0
 ·subst hk;simp
 ·rw [if_neg hk,if_neg (by simp [hk])]
theorem in_range {a:List Int} {c:Ar Int 4} (h:okT a c) {k:Nat} (hk:k< a.length):(0≤c.l.getD k 0∧c.l.getD k 0≤40)∧(0≤a.getD k 0∧a.getD k 0≤40):=by
 obtain ⟨h1,h4,ho⟩:=okT_len h
 have hf:=h.2 k (by omega)
 have hg:=ho _ (List.getElem_mem hk)
 rw [getD_in hk] at*
 omega
theorem wd_len {a:List Int} {c:Ar Int 4} (h:okT a c) {k:Nat} (hk:k< a.length):(wd a c k).length≤203:=by
 obtain ⟨h1,h2⟩:=in_range h hk
 have l1:=dgs_len h1.1 (by omega)
 have l2:=dgs_len h2.1 (by omega)
 unfold wd
 rw [List.length_append,List.length_append,List.length_singleton]
 omega
theorem jg_len {a:List Int} {c:Ar Int 4} (h:okT a c) (k:Nat):k≤a.length→(jg a c k).length≤204*k:=by
 induction k with
 |zero=>intro _;simp [jg,Lib.join_nil]
 |succ k ih=>
  intro hk
  have:=ih (by omega)
  have w:=wd_len h (show k< a.length by omega)
  rw [jg_succ]
  by_cases h0:k=0
  ·rw [if_pos h0];subst h0;omega
  ·rw [if_neg h0,List.length_append,List.length_append,List.length_singleton];omega
theorem words_impl {N:Nat} {a:List Int} {c:Ar Int 4} (h:okT a c) (hN:100< N):QaT.f N c.l a=some ((List.range a.length).map fun k=>(⟨(wd a c k).toArray⟩:ByteArray)):=by
 obtain ⟨h1,h4,_⟩:=okT_len h
 have hc:=c.h
 have q:=rounds_for (b:=fun s=>QaT.b0 N a c.l s.1 s.2) (e:= .go ((List.range a.length).map fun k=>(⟨(wd a c k).toArray⟩:ByteArray))) (fun k=>((List.range k).map fun k=>(⟨(wd a c k).toArray⟩:ByteArray),(k:Int))) a.length 0 N (by omega) (by omega) (by
  intro i _ hi
  obtain ⟨r1,r2⟩:=in_range h hi
  have l1:=dgs_len r1.1 (by omega)
  have l2:=dgs_len r2.1 (by omega)
  have g1:(i:Int)< a.length:=by omega
  have e1:rdL a (i:Int) 0=a.getD i 0:=by rw [rdL_nat hi,getD_in hi]
  have e2:rdL c.l (i:Int) 0=c.l.getD i 0:=by simp [rdL]
  have s1:((dgs (c.l.getD i 0)).length:Int)+(([47]:List UInt8).length:Int)≤9223372036854775807:=by rw [List.length_singleton];omega
  have s2:((dgs (c.l.getD i 0)++[47]).length:Int)+((dgs (a.getD i 0)).length:Int)≤9223372036854775807:=by rw [List.length_append,List.length_singleton];omega
  show QaT.b0 N a c.l _ (i:Int)=_
  unfold QaT.b0
  rw [if_pos g1,if_pos ⟨by omega,by omega⟩,if_pos ⟨by omega,by omega⟩,e1,e2,dgs_impl r1.1 r1.2,Option.bind_some,ba_size,ba_size,if_pos s1,dgs_impl r2.1 r2.2,Option.bind_some,ba_app,ba_size,ba_size,if_pos s2,ba_app,if_pos (by rw [List.length_map,List.length_range,List.length_singleton];omega),i64w_succ hi (by omega),List.range_succ,List.map_append]
  rfl) (by
  show QaT.b0 N a c.l _ (a.length:Int)=_
  unfold QaT.b0
  rw [if_neg (by omega)])
 have q':rounds (fun s=>QaT.b0 N a c.l s.1 s.2) N (([]:List ByteArray),0)=some (.go ((List.range a.length).map fun k=>(⟨(wd a c k).toArray⟩:ByteArray))):=by simpa using q
 unfold QaT.f
 rw [q']
 rfl
abbrev Src:=Qaq
theorem and_255 (x:Int):0≤bAnd .u64 x 255∧bAnd .u64 x 255≤255:=by
 have h:(BitVec.ofInt IntKind.u64.bits x&&&BitVec.ofInt IntKind.u64.bits 255).toNat≤255:=by
  show (BitVec.ofInt 64 x&&&BitVec.ofInt 64 255).toNat≤255
  rw [BitVec.toNat_and]
  have:(BitVec.ofInt 64 255).toNat=255:=by decide
  rw [this]
  exact Nat.and_le_right
 have e:bAnd .u64 x 255=((BitVec.ofInt IntKind.u64.bits x&&&BitVec.ofInt IntKind.u64.bits 255).toNat:Int):=u64w_id (by omega) (by omega)
 omega
def SrcOk (s:Src) (b:Int):Prop:=(∀ x∈s.QaX,0≤x∧x≤255)∧0≤s.Qa0∧s.Qa0≤b∧b≤1000000∧s.QaX.length≤1000000
theorem next_ok {N:Nat} {s:Src} {b:Int} (h:SrcOk s b):∃ x a d,QaZ.f N s=some (x,⟨s.QaX,a,d⟩)∧0≤x∧x≤255∧a=s.Qa0+1:=by
 obtain ⟨hc,h0,h1,h2,h3⟩:=h
 have e1:i64w (s.Qa0+1)=s.Qa0+1:=i64w_id (by omega) (by omega)
 have main:∀ x,0≤x→x≤255→∃ y a d,QaZ.j0 N s x=some (y,⟨s.QaX,a,d⟩)∧0≤y∧y≤255∧a=s.Qa0+1:=by
  intro x x0 x1
  unfold QaZ.j0
  rw [e1]
  by_cases c:s.Qa0+1≤(s.QaX.length:Int)
  ·rw [if_pos c]
   exact ⟨_,_,_,rfl,x0,x1,rfl⟩
  ·rw [if_neg c]
   have q:=and_255 (shrI .u64 (u64w ((u64w ((u64w (s.QaV*6364136223846793005))+(u64w x)))+1442695040888963407)) 40)
   exact ⟨_,_,_,rfl,by rw [i64w_id (by omega) (by omega)];exact q.1,by rw [i64w_id (by omega) (by omega)];exact q.2,rfl⟩
 unfold QaZ.f
 by_cases c:s.Qa0< (s.QaX.length:Int)
 ·rw [if_pos c,if_pos ⟨h0,c⟩]
  have hm:=hc (rdL s.QaX s.Qa0 0) (by
   obtain ⟨i,hi⟩:=Int.eq_ofNat_of_zero_le h0
   rw [hi] at c ⊢
   rw [rdL_nat (by omega)]
   exact List.getElem_mem _)
  exact main _ (by rw [i64w_id (by omega) (by omega)];exact hm.1) (by rw [i64w_id (by omega) (by omega)];exact hm.2)
 ·rw [if_neg c]
  exact main 0 (by decide) (by decide)
theorem pick_ok {N:Nat} {s:Src} {b n:Int} (h:SrcOk s b) (hn:2≤n∧n≤200):∃ x a d,QaU.f N s n=some (x,⟨s.QaX,a,d⟩)∧0≤x∧x< n∧a=s.Qa0+1:=by
 obtain ⟨x,a,d,e,x0,x1,ha⟩:=next_ok (N:=N) h
 have e':QaZ.f N (⟨s.QaX,s.Qa0,s.QaV⟩:Src)=some (x,⟨s.QaX,a,d⟩):=e
 refine ⟨x.tmod n,a,d,?_,Int.tmod_nonneg _ x0,Int.tmod_lt_of_pos _ (by omega),ha⟩
 simp only [QaU.f,if_neg (show ¬ n≤1 by omega),e',Option.bind_some,if_neg (show ¬ n>200 by omega),if_pos (show ¬ n=0 by omega)]
theorem SrcOk.next {s:Src} {b:Int} (h:SrcOk s b) (hb:b< 1000000) {a d:Int} (ha:a=s.Qa0+1):SrcOk ⟨s.QaX,a,d⟩ (b+1):=by
 obtain ⟨h1,h2,h3,h4,h5⟩:=h
 exact ⟨h1,by dsimp only;omega,by dsimp only;omega,by omega,h5⟩
theorem pick_any {N:Nat} {s:Src} {b n:Int} (h:SrcOk s b) (hb:b< 1000000) (hn:1≤n∧n≤200):∃ x a d,QaU.f N s n=some (x,⟨s.QaX,a,d⟩)∧0≤x∧x< n∧SrcOk ⟨s.QaX,a,d⟩ (b+1):=by
 by_cases c:n=1
 ·subst c
  refine ⟨0,s.Qa0,s.QaV,?_,Int.le_refl _,by decide,?_⟩
  ·simp only [QaU.f];rfl
  ·obtain ⟨h1,h2,h3,h4,h5⟩:=h
   exact ⟨h1,h2,by dsimp only;omega,by omega,h5⟩
 ·obtain ⟨x,a,d,e,h1,h2,h3⟩:=pick_ok (N:=N) h (n:=n) (by omega)
  exact ⟨x,a,d,e,h1,h2,h.next hb h3⟩
def zeroS (code:List Int):Src:=⟨code,0,0⟩
structure DrawnG (a:List Int) (c:T4):Prop where
 len:1≤a.length∧a.length≤2
 size:∀ x∈a,1≤x∧x≤9
 fit:fits a c
theorem getD_app {a:List Int} {v:Int} (i:Nat):(a++[v]).getD i 0=if i< a.length then a.getD i 0 else if i=a.length then v else 0:=by
 rw [List.getD_eq_getElem?_getD,List.getElem?_append]
 by_cases c:i< a.length
 ·rw [if_pos c,if_pos c,List.getD_eq_getElem?_getD]
 ·rw [if_neg c,if_neg c]
  by_cases c2:i=a.length
  ·subst c2;simp
  ·rw [if_neg c2,List.getElem?_eq_none (by simp;omega)];rfl
theorem fits_app {a:List Int} {c:T4} (h:fits a c) {v:Int} (hv:0≤v):fits (a++[v]) c:=by
 intro i hi
 have:=h i hi
 rw [getD_app]
 by_cases c1:i< a.length
 ·rw [if_pos c1];exact this
 ·rw [getD_out c1] at this
  rw [if_neg c1]
  split<;>omega
theorem drawnG {N:Nat} {code:List Int} (hc:∀ x∈code,0≤x∧x≤255) (hl:code.length≤1000000) (hN:100< N):∃ a c,Qbu.f N code=some (a,c)∧DrawnG a c:=by
 have h0:SrcOk (zeroS code) 0:=⟨hc,Int.le_refl _,Int.le_refl _,by decide,hl⟩
 obtain ⟨x1,a1,d1,e1,r1,q1,h1⟩:=pick_any (N:=N) h0 (by decide) (n:=2) (by decide)
 have e1':QaU.f N (⟨(zeroS code).QaX,(zeroS code).Qa0,(zeroS code).QaV⟩:Src) 2=some (x1,⟨code,a1,d1⟩):=e1
 obtain ⟨e,he,a,c,at',sd,rfl,hD⟩:=rounds_ends (b:=fun s=>QaR.b0 N (zeroS code) s.1 s.2.1 s.2.2.1 s.2.2.2.1 s.2.2.2.2)
  (fun s=>SrcOk ⟨code,s.1,s.2.1⟩ (10+3*s.2.2.1.length)∧(∀ x∈s.2.2.1,1≤x∧x≤9)∧fits s.2.2.1 s.2.2.2.1∧0≤s.2.2.2.2∧(s.2.2.1.length:Int)+s.2.2.2.2≤2∧1≤(s.2.2.1.length:Int)+s.2.2.2.2)
  (fun s=>s.2.2.2.2.toNat) (fun e=>∃ a c at' sd,e= .go (a,c,at',sd)∧DrawnG a c) (by
  rintro ⟨at0,sd0,a,c,k⟩ ⟨i1,i2,i3,i4,i5,i6⟩
  simp only at i1 i2 i3 i4 i5 i6
  by_cases ck:k>0
  ·right
   obtain ⟨y1,b1,f1,ey1,y10,y11,s1⟩:=pick_any (N:=N) i1 (by omega) (n:=9) (by decide)
   have ey1':QaU.f N (⟨(zeroS code).QaX,at0,sd0⟩:Src) 9=some (y1,⟨code,b1,f1⟩):=ey1
   have w1:i64w (1+y1)=1+y1:=i64w_id (by omega) (by omega)
   have w2:i16w (1+y1)=1+y1:=i16w_id (by omega) (by omega)
   obtain ⟨y2,b2,f2,ey2,y20,y21,s2⟩:=pick_any (N:=N) s1 (by omega) (n:=4) (by decide)
   have ey2':QaU.f N (⟨(zeroS code).QaX,b1,f1⟩:Src) 4=some (y2,⟨code,b2,f2⟩):=ey2
   have ey2'':Qbm.f N (⟨(zeroS code).QaX,b1,f1⟩:Src) 4=some (y2==0,⟨code,b2,f2⟩):=by
    simp only [Qbm.f,ey2',Option.bind_some];rfl
   have wk:i64w (k - 1)=k - 1:=i64w_id (by omega) (by omega)
   have hsz:∀ x∈a++[1+y1],1≤x∧x≤9:=by
    intro x hx
    rcases List.mem_append.1 hx with hx|hx
    ·exact i2 x hx
    ·rw [List.mem_singleton] at hx;subst hx;omega
   have hla:(a++[1+y1]).length=a.length+1:=by simp
   have hf:=fits_app i3 (v:=1+y1) (by omega)
   have hrd:rdL (a++[1+y1]) (a.length:Int) 0=1+y1:=by rw [rdL_nat (by simp)];simp
   simp only [QaR.b0,if_pos ck,ey1',Option.bind_some,w1,w2,List.length_singleton,if_pos (show a.length+1≤70368744177664 by omega),ey2'']
   by_cases c0:(y2==0)=true
   ·have w3:i64w (1+y1+1)=1+y1+1:=i64w_id (by omega) (by omega)
    obtain ⟨y3,b3,f3,ey3,y30,y31,s3⟩:=pick_any (N:=N) s2 (by omega) (n:=1+y1+1) ⟨by omega,by omega⟩
    have ey3':QaU.f N (⟨(zeroS code).QaX,b2,f2⟩:Src) (1+y1+1)=some (y3,⟨code,b3,f3⟩):=ey3
    have w4:i16w y3=y3:=i16w_id (by omega) (by omega)
    simp only [if_pos c0,hrd,w1,w3,ey3',Option.bind_some,hla,w4]
    rw [if_pos ⟨by omega,by omega⟩,if_pos ⟨by omega,by omega⟩]
    simp only [QaR.j2,wk]
    refine ⟨_,rfl,⟨?_,hsz,?_,by dsimp only;omega,by dsimp only;rw [hla];omega,by dsimp only;rw [hla];omega⟩,by dsimp only;omega⟩
    ·dsimp only
     rw [hla]
     obtain ⟨z1,z2,z3,z4,z5⟩:=s3
     exact ⟨z1,z2,by dsimp only at z3 ⊢;omega,by omega,z5⟩
    ·dsimp only
     refine fits_set hf (by omega) ⟨y30,?_⟩
     rw [getD_app,if_neg (by omega),if_pos rfl]
     omega
   ·simp only [if_neg c0,QaR.j2,wk]
    refine ⟨_,rfl,⟨?_,hsz,hf,by dsimp only;omega,by dsimp only;rw [hla];omega,by dsimp only;rw [hla];omega⟩,by dsimp only;omega⟩
    dsimp only
    rw [hla]
    obtain ⟨z1,z2,z3,z4,z5⟩:=s2
    exact ⟨z1,z2,by dsimp only at z3 ⊢;omega,by omega,z5⟩
  ·left
   simp only [QaR.b0,if_neg ck]
   exact ⟨_,rfl,_,_,_,_,rfl,⟨by omega,by omega⟩,i2,i3⟩) N (a1,d1,([]:List Int),(Ar.rep 4 0:T4),1+x1) ⟨by
   obtain ⟨z1,z2,z3,z4,z5⟩:=h1
   exact ⟨z1,z2,by dsimp only at z3 ⊢;simp;omega,by simp,z5⟩,by simp,fun i hi=>by
   have:(Ar.rep 4 0:T4).l.getD i 0=0:=by
    have:i=0∨i=1∨i=2∨i=3:=by omega
    rcases this with rfl|rfl|rfl|rfl<;>rfl
   dsimp only
   rw [this];simp,by dsimp only;omega,by simp;omega,by simp;omega⟩ (by dsimp only;omega)
 refine ⟨a,c,?_,hD⟩
 have w0:i64w (1+x1)=1+x1:=i64w_id (by omega) (by omega)
 have hf:QaR.f N (⟨code,0,0⟩:Src)=some (a,c,⟨code,at',sd⟩):=by
  show QaR.f N (zeroS code)=_
  simp only [QaR.f,e1',Option.bind_some,w0]
  rw [he]
  rfl
 simp only [Qbu.f,QbJ.f,Option.bind_some,hf]
theorem DrawnG.ok {a:List Int} {c:T4} (h:DrawnG a c):okT a c∧okG a∧a.length≤4:=by
 have ho:okG a:=fun x hx=>by have:=h.size x hx;omega
 have hl:=h.len
 refine ⟨⟨?_,h.fit⟩,ho,by omega⟩
 rw [st_ok ⟨hl.1,by omega,ho⟩]
 have hp:=prod_pos ho
 have hle:prodG a≤3000:=by
  have hs:=h.size
  match a,hl,hs with
  |[x],_,hs=>
   have:=hs x (by simp)
   simp [prodG];omega
  |[x,y],_,hs=>
   have h1:=hs x (by simp)
   have h2:=hs y (by simp)
   have:(x+1)*(y+1)≤10*10:=Int.mul_le_mul (by omega) (by omega) (by omega) (by omega)
   simp [prodG];omega
 rw [if_neg (by omega)]
 omega
def inS (a:List Int) (x:Int) (j:Nat):Prop:=j< a.length∧bAnd .u8 (shrI .u8 x (j:Int)) 1=1
instance (a:List Int) (x:Int) (j:Nat):Decidable (inS a x j):=by unfold inS;infer_instance
theorem turn_pt {N:Nat} {a:List Int} {c:T4} {x:Int} (ho:okG a) (hl:a.length≤4) (hf:fits a c) (h0:0≤x) (h1:x≤255) (hN:5< N):
 ∃ r,QaI.f N a c x=some r∧Qao.f N a c x=some r∧fits a r∧∀ j,j< 4→r.l.getD j 0=if inS a x j then a.getD j 0 - c.l.getD j 0 else c.l.getD j 0:=by
 obtain ⟨r,q1,q2,q3⟩:=turn_eq ho hl hf h0 h1 hN
 refine ⟨r,q1,q2,q3,?_⟩
 obtain ⟨e,he,r',rfl,hp⟩:=rounds_ends (b:=fun s=>Qao.b0 N a x s.1 s.2)
  (fun s=>∃ i:Nat,s.2=(i:Int)∧i≤a.length∧∀ j,j< 4→s.1.l.getD j 0=if j< i∧inS a x j then a.getD j 0 - c.l.getD j 0 else c.l.getD j 0)
  (fun s=>a.length - s.2.toNat) (fun e=>∃ r,e= .go r∧∀ j,j< 4→r.l.getD j 0=if inS a x j then a.getD j 0 - c.l.getD j 0 else c.l.getD j 0) (by
  rintro ⟨d,_⟩ ⟨i,rfl,hi,hh⟩
  simp only at hh
  by_cases hl':i< a.length
  ·right
   have g1:(i:Int)< a.length:=by omega
   have g2:(0:Int)≤i:=by omega
   have g4:(i:Int)< 4:=by omega
   have hc:=hf i (by omega)
   have ha:=getD_le ho i
   have hdi:=hh i (by omega)
   rw [if_neg (by omega)] at hdi
   rw [getD_in hl'] at hc ha
   have hw:i16w (a[i] - d.l.getD i 0)=a[i] - c.l.getD i 0:=by rw [hdi];exact i16w_id (by omega) (by omega)
   by_cases hb:bAnd .u8 (shrI .u8 x (i:Int)) 1=1
   ·refine ⟨(d.set (i:Int) (a[i] - c.l.getD i 0),((i+1:Nat):Int)),?_,⟨i+1,rfl,by omega,?_⟩,by simp only [Int.toNat_natCast];omega⟩
    ·simp only [Qao.b0,Qao.j2,g1,g2,g4,and_self,if_true,hb,rdL_nat hl',ar_get,hw,i64w_succ (show i< 4 by omega) (by decide)]
    ·intro j hj
     dsimp only
     by_cases e:i=j
     ·subst e
      rw [get_set_same (by omega),if_pos ⟨by omega,hl',hb⟩,getD_in hl']
     ·rw [get_set_other e,hh j hj]
      by_cases c1:j< i∧inS a x j
      ·rw [if_pos c1,if_pos ⟨by omega,c1.2⟩]
      ·rw [if_neg c1,if_neg (fun q=>c1 ⟨by omega,q.2⟩)]
   ·refine ⟨(d,((i+1:Nat):Int)),?_,⟨i+1,rfl,by omega,?_⟩,by simp only [Int.toNat_natCast];omega⟩
    ·simp only [Qao.b0,Qao.j2,g1,g2,and_self,if_true,if_false,hb,i64w_succ (show i< 4 by omega) (by decide)]
    ·intro j hj
     dsimp only
     rw [hh j hj]
     by_cases c1:j< i∧inS a x j
     ·rw [if_pos c1,if_pos ⟨by omega,c1.2⟩]
     ·rw [if_neg c1,if_neg]
      rintro ⟨q1,q2⟩
      by_cases e:j=i
      ·subst e;exact hb q2.2
      ·exact c1 ⟨by omega,q2⟩
  ·left
   have g1:¬ (i:Int)< a.length:=by omega
   refine ⟨.go d,by simp only [Qao.b0,if_neg g1],d,rfl,fun j hj=>?_⟩
   rw [hh j hj]
   by_cases c1:inS a x j
   ·rw [if_pos ⟨by have:=c1.1;omega,c1⟩,if_pos c1]
   ·rw [if_neg c1,if_neg (fun q=>c1 q.2)]) N (c,0) ⟨0,rfl,Nat.zero_le _,fun j hj=>by rw [if_neg (by omega)]⟩ (by simp only [Int.toNat_zero];omega)
 have:Qao.f N a c x=some r':=by simp only [Qao.f,he];rfl
 rw [q2] at this
 obtain rfl:=QsJ this
 exact hp
theorem ar4_ext {c d:T4} (h:∀ j,j< 4→c.l.getD j 0=d.l.getD j 0):c=d:=by
 apply Ar.ext'
 have hc:=c.h
 have hd:=d.h
 apply List.ext_getElem (by omega)
 intro i h1 h2
 have:=h i (by omega)
 rwa [getD_in h1,getD_in h2] at this
theorem wait_pt {N:Nat} {a:List Int} {c:T4} (ho:okG a) (hf:fits a c) (hN:5< N):
 ∃ r:T4×Int,Qar.f N c=some r∧Qaw.f N c=some r∧fits a r.1∧0≤r.2∧r.2≤40∧(∀ j,j< 4→r.1.l.getD j 0=if c.l.getD j 0 - r.2< 0 then 0 else c.l.getD j 0 - r.2)∧
  (∀ j,j< 4→0< c.l.getD j 0→0< r.2∧r.2≤c.l.getD j 0)∧(r.2=0∨∃ j,j< 4∧c.l.getD j 0=r.2):=by
 obtain ⟨r,q1,q2,q3,q4,q5⟩:=wait_eq (N:=N) ho hf hN
 obtain ⟨m,hs,hi,h0,h40,hm⟩:=least_eq ho hf hN
 have hat:m=0∨∃ j,j< 4∧c.l.getD j 0=m:=by
  obtain ⟨e,he,m',rfl,hx⟩:=rounds_ends (b:=fun s=>Qaw.b0 N c s.1 s.2)
   (fun s=>∃ i:Nat,s.2=(i:Int)∧i≤4∧(s.1=0∨∃ j,j< 4∧c.l.getD j 0=s.1)) (fun s=>4 - s.2.toNat) (fun e=>∃ m',e= .go m'∧(m'=0∨∃ j,j< 4∧c.l.getD j 0=m')) (by
   rintro ⟨m,_⟩ ⟨i,rfl,hi,hh⟩
   simp only at hh
   by_cases hl':i< 4
   ·right
    have g1:(i:Int)< 4:=by omega
    have g2:(0:Int)≤i:=by omega
    have ms:4 - Int.toNat ((i+1:Nat):Int)< 4 - Int.toNat (i:Int):=by simp only [Int.toNat_natCast];omega
    by_cases h1:c.l.getD i 0>0
    ·by_cases h2:m=0
     ·refine ⟨(c.l.getD i 0,((i+1:Nat):Int)),?_,⟨i+1,rfl,hl', .inr ⟨i,hl',rfl⟩⟩,ms⟩
      simp only [Qaw.b0,Qaw.j4,g1,g2,and_self,if_true,ar_get,h1,h2,i64w_succ hl' (by decide)]
     ·by_cases h3:c.l.getD i 0< m
      ·refine ⟨(c.l.getD i 0,((i+1:Nat):Int)),?_,⟨i+1,rfl,hl', .inr ⟨i,hl',rfl⟩⟩,ms⟩
       simp only [Qaw.b0,Qaw.j4,g1,g2,and_self,if_true,if_false,ar_get,h1,h2,h3,i64w_succ hl' (by decide)]
      ·refine ⟨(m,((i+1:Nat):Int)),?_,⟨i+1,rfl,hl',hh⟩,ms⟩
       simp only [Qaw.b0,Qaw.j4,g1,g2,and_self,if_true,if_false,ar_get,h1,h2,h3,i64w_succ hl' (by decide)]
    ·refine ⟨(m,((i+1:Nat):Int)),?_,⟨i+1,rfl,hl',hh⟩,ms⟩
     simp only [Qaw.b0,Qaw.j4,g1,g2,and_self,if_true,if_false,ar_get,h1,i64w_succ hl' (by decide)]
   ·left
    obtain rfl:i=4:=by omega
    exact ⟨.go m,rfl,m,rfl,hh⟩) N (0,0) ⟨0,rfl,by omega, .inl rfl⟩ (by simp only [Int.toNat_zero];omega)
  have:rounds (fun s=>Qaw.b0 N c s.1 s.2) N (0,0)=some (.go m'):=he
  rw [hi] at this
  obtain rfl:=Ex.go.inj (QsJ this)
  exact hx
 obtain ⟨e,he,r',rfl,hp⟩:=rounds_ends (b:=fun s=>Qaw.b2 N m s.1 s.2)
  (fun s=>∃ i:Nat,s.2=(i:Int)∧i≤4∧∀ j,j< 4→s.1.l.getD j 0=if j< i then (if c.l.getD j 0 - m< 0 then 0 else c.l.getD j 0 - m) else c.l.getD j 0) (fun s=>4 - s.2.toNat)
  (fun e=>∃ r,e= .go r∧∀ j,j< 4→r.l.getD j 0=if c.l.getD j 0 - m< 0 then 0 else c.l.getD j 0 - m) (by
  rintro ⟨d,_⟩ ⟨i,rfl,hi,hh⟩
  simp only at hh
  by_cases hl':i< 4
  ·right
   have g1:(i:Int)< 4:=by omega
   have g2:(0:Int)≤i:=by omega
   have hc:=hf i hl'
   have ha:=getD_le ho i
   have hd:=hh i hl'
   rw [if_neg (by omega)] at hd
   have hw:i16w (c.l.getD i 0 - m)=c.l.getD i 0 - m:=i16w_id (by omega) (by omega)
   have hmx:mxI (c.l.getD i 0 - m) 0=if c.l.getD i 0 - m< 0 then 0 else c.l.getD i 0 - m:=by
    unfold mxI
    rfl
   refine ⟨(d.set (i:Int) (if c.l.getD i 0 - m< 0 then 0 else c.l.getD i 0 - m),((i+1:Nat):Int)),?_,⟨i+1,rfl,hl',?_⟩,by simp only [Int.toNat_natCast];omega⟩
   ·simp only [Qaw.b2,g1,g2,and_self,if_true,ar_get,hd,hw,hmx,i64w_succ hl' (by decide)]
   ·intro j hj
    dsimp only
    by_cases e:i=j
    ·subst e;rw [get_set_same hl',if_pos (show i< i+1 by omega)]
    ·rw [get_set_other e,hh j hj]
     by_cases c1:j< i
     ·rw [if_pos c1,if_pos (show j< i+1 by omega)]
     ·rw [if_neg c1,if_neg (show ¬ j< i+1 by omega)]
  ·left
   obtain rfl:i=4:=by omega
   exact ⟨.go d,rfl,d,rfl,fun j hj=>by rw [hh j hj,if_pos hj]⟩) N (c,0) ⟨0,rfl,by omega,fun j hj=>by rw [if_neg (by omega)]⟩ (by simp only [Int.toNat_zero];omega)
 have:Qaw.f N c=some (r',m):=by
  simp only [Qaw.f,hi,Option.bind_some,Ex.fin,Qaw.a0,he,Qaw.a2,i64w_id (x:=m) (by omega) (by omega)]
 rw [q2] at this
 obtain rfl:=QsJ this
 exact ⟨(r',m),q1,q2,q3,q4,q5,hp,hm,hat⟩
theorem valid_tops {N:Nat} {a:List Int} {c:T4} (hb:∀ x∈a,-32768≤x∧x≤32767) (hk:okT a c) (hN:10< N):QaM.f N a c=some true:=by
 have:=okT_len hk
 rw [okT_impl hb (by omega) (by omega)]
 simp [hk]
theorem ok_tops {N:Nat} {a:List Int} {c:T4} (hb:∀ x∈a,-32768≤x∧x≤32767) (hk:okT a c) (hN:10< N):QaY.f N a c=some true:=by
 rw [okT_spec hb (by omega)]
 simp [hk]
theorem down_eq {N:Nat} {a:List Int} {c:T4} (hb:∀ x∈a,-32768≤x∧x≤32767) (hk:okT a c) (hN:10< N):∃ m,Qbz.f N a c=some (m,0)∧0≤m∧(∀ j,j< 4→c.l.getD j 0≤m)∧∃ j,j< 4∧c.l.getD j 0=m:=by
 obtain ⟨l1,l4,ho⟩:=okT_len hk
 obtain ⟨x,y,z,t,rfl⟩:=four c
 have f0:=hk.2 0 (by decide);have f1:=hk.2 1 (by decide);have f2:=hk.2 2 (by decide);have f3:=hk.2 3 (by decide)
 have g0:=getD_le ho 0;have g1:=getD_le ho 1;have g2:=getD_le ho 2;have g3:=getD_le ho 3
 have mx:∀ p q:Int,mxI p q=if p< q then q else p:=fun _ _=>rfl
 have hr:∀ n:Nat,rounds (fun s=>QaJ.b0 N [x,y,z,t] s.1 s.2) (n+4) (x,1)=some (.go (mxI (mxI (mxI x y) z) t)):=by
  intro n
  rw [rounds_next (s':=(mxI x y,2)) (by rfl),rounds_next (s':=(mxI (mxI x y) z,3)) (by rfl),rounds_next (s':=(mxI (mxI (mxI x y) z) t,4)) (by rfl),rounds_out (e:= .go (mxI (mxI (mxI x y) z) t)) (by rfl)]
 have e0:([x,y,z,t]:List Int).getD 0 0=x:=rfl
 have e1:([x,y,z,t]:List Int).getD 1 0=y:=rfl
 have e2:([x,y,z,t]:List Int).getD 2 0=z:=rfl
 have e3:([x,y,z,t]:List Int).getD 3 0=t:=rfl
 rw [e0] at f0;rw [e1] at f1;rw [e2] at f2;rw [e3] at f3
 have hval:∃ m,mxI (mxI (mxI x y) z) t=m∧0≤m∧m≤40∧x≤m∧y≤m∧z≤m∧t≤m∧(x=m∨y=m∨z=m∨t=m):=by
  refine ⟨_,rfl,?_⟩
  simp only [mx]
  split<;>split<;>split<;>omega
 obtain ⟨m,hm,m0,m40,hx,hy,hz,ht,hor⟩:=hval
 refine ⟨m,?_,m0,?_,?_⟩
 ·obtain ⟨n,rfl⟩:∃ n,N=n+4:=⟨N - 4,by omega⟩
  have hv:QaM.f (n+4) a (⟨[x,y,z,t],rfl⟩:T4)=some true:=valid_tops hb hk hN
  simp only [Qbz.f,hv,Option.bind_some,if_true]
  have hM:QaJ.f (n+4) [x,y,z,t]=some m:=by
   have:=hr n
   simp only [QaJ.f]
   rw [if_neg (show ¬ (([x,y,z,t]:List Int).length:Int)< 1 by simp),if_pos (show (0:Int)≤0∧(0:Int)< (([x,y,z,t]:List Int).length:Int) by simp)]
   have e:rdL [x,y,z,t] 0 0=x:=rfl
   rw [e]
   rw [this,hm]
   rfl
  rw [hM,Option.bind_some,i64w_id (by omega) (by omega)]
 ·intro j hj
  have:j=0∨j=1∨j=2∨j=3:=by omega
  rcases this with rfl|rfl|rfl|rfl
  ·exact hx
  ·exact hy
  ·exact hz
  ·exact ht
 ·rcases hor with h|h|h|h
  ·exact ⟨0,by decide,h⟩
  ·exact ⟨1,by decide,h⟩
  ·exact ⟨2,by decide,h⟩
  ·exact ⟨3,by decide,h⟩
theorem div_eq {N:Nat} {x y:Int} (hx:0≤x) (hy:0≤y) (h40:y≤40) (hp:0< x+y) (hN:50< N):∃ r,Qa2.f N x y=some r∧0< r∧r∣x∧r∣y:=by
 obtain ⟨e,he,r,rfl,h1,h2,h3⟩:=rounds_ends (b:=fun s=>Qa2.b0 N s.1 s.2)
  (fun s=>0≤s.1∧0≤s.2∧0< s.1+s.2∧s.2≤40∧∀ d:Int,d∣s.1→d∣s.2→d∣x∧d∣y) (fun s=>s.2.toNat) (fun e=>∃ r,e= .go r∧0< r∧r∣x∧r∣y) (by
  rintro ⟨p,q⟩ ⟨i1,i2,i3,i4,i5⟩
  simp only at i1 i2 i3 i4 i5
  by_cases c:q=0
  ·left
   subst c
   have:=i5 p (Int.dvd_refl p) (Int.dvd_zero p)
   exact ⟨.go p,by simp only [Qa2.b0,if_true],p,rfl,by omega,this.1,this.2⟩
  ·right
   have hq:0< q:=by omega
   have h1:=Int.tmod_nonneg q i1
   have h2:=Int.tmod_lt_of_pos p hq
   refine ⟨(q,p.tmod q),by simp only [Qa2.b0,if_neg c];rw [if_pos c],⟨i2,h1,by dsimp only;omega,by dsimp only;omega,fun d d1 d2=>?_⟩,by dsimp only;omega⟩
   simp only at d1 d2
   have hpq:p=q*p.tdiv q+p.tmod q:=(Int.mul_tdiv_add_tmod p q).symm
   refine i5 d ?_ d1
   rw [hpq]
   exact Int.dvd_add (Int.dvd_trans d1 (Int.dvd_mul_right q _)) d2) N (x,y) ⟨hx,hy,hp,h40,fun d a b=>⟨a,b⟩⟩ (by dsimp only;omega)
 refine ⟨r,?_,h1,h2,h3⟩
 simp only [Qa2.f,he]
 rfl
theorem step_eq {N:Nat} {a:List Int} {c:T4} (hb:∀ x∈a,-32768≤x∧x≤32767) (hk:okT a c) (hN:60< N):∃ r,QaP.f N a c=some (r,0)∧1≤r∧(∀ j,j< 4→r∣a.getD j 0∧r∣c.l.getD j 0):=by
 obtain ⟨l1,l4,ho⟩:=okT_len hk
 obtain ⟨e,he,r,rfl,h1,h2⟩:=rounds_ends (b:=fun s=>QaP.b0 N a c s.1 s.2)
  (fun s=>∃ i:Nat,s.2=(i:Int)∧i≤a.length∧0≤s.1∧(0< i→0< s.1)∧∀ j,j< i→s.1∣a.getD j 0∧s.1∣c.l.getD j 0) (fun s=>a.length - s.2.toNat)
  (fun e=>∃ r,e= .go r∧1≤r∧∀ j,j< a.length→r∣a.getD j 0∧r∣c.l.getD j 0) (by
  rintro ⟨p,_⟩ ⟨i,rfl,hi,i1,i2,i3⟩
  simp only at i1 i2 i3
  by_cases hl':i< a.length
  ·right
   have g1:(i:Int)< a.length:=by omega
   have g2:(0:Int)≤i:=by omega
   have g4:(i:Int)< 4:=by omega
   have ha:=ho _ (List.getElem_mem hl')
   have hc:=hk.2 i (by omega)
   rw [getD_in hl'] at hc
   obtain ⟨u,hu,u1,u2,u3⟩:=div_eq (N:=N) (x:=p) (y:=a[i]) i1 (by omega) (by omega) (by omega) (by omega)
   obtain ⟨v,hv,v1,v2,v3⟩:=div_eq (N:=N) (x:=u) (y:=c.l.getD i 0) (by omega) hc.1 (by omega) (by omega) (by omega)
   refine ⟨(v,((i+1:Nat):Int)),?_,⟨i+1,rfl,hl',by dsimp only;omega,fun _=>v1,fun j hj=>?_⟩,by simp only [Int.toNat_natCast];omega⟩
   ·simp only [QaP.b0,g1,g2,g4,and_self,if_true,rdL_nat hl',i64w_id (x:=a[i]) (by omega) (by omega),hu,Option.bind_some,ar_get,i64w_id (x:=c.l.getD i 0) (by omega) (by omega),hv,i64w_succ (show i< 4 by omega) (by decide)]
   ·dsimp only
    by_cases ej:j=i
    ·subst ej;rw [getD_in hl'];exact ⟨Int.dvd_trans v2 u3,v3⟩
    ·have:=i3 j (by omega)
     have hvp:=Int.dvd_trans v2 u2
     exact ⟨Int.dvd_trans hvp this.1,Int.dvd_trans hvp this.2⟩
  ·left
   have g1:¬ (i:Int)< a.length:=by omega
   obtain rfl:i=a.length:=by omega
   exact ⟨.go p,by simp only [QaP.b0,if_neg g1],p,rfl,by have:=i2 (by omega);omega,i3⟩) N (0,0) ⟨0,rfl,by omega,Int.le_refl _,fun h=>absurd h (Nat.lt_irrefl _),fun j hj=>absurd hj (Nat.not_lt_zero _)⟩ (by simp only [Int.toNat_zero];omega)
 have hv:QaM.f N a c=some true:=valid_tops hb hk (by omega)
 refine ⟨r,?_,h1,fun j hj=>?_⟩
 ·simp only [QaP.f,hv,Option.bind_some,if_true,he]
  rfl
 ·by_cases cj:j< a.length
  ·exact h2 j cj
  ·have:=hk.2 j hj
   rw [getD_out cj] at this ⊢
   have e:c.l.getD j 0=0:=by omega
   rw [e]
   exact ⟨Int.dvd_zero r,Int.dvd_zero r⟩
theorem spl_join {c:UInt8}:∀ (r:List (List UInt8)) (w:List UInt8),c∉w→(∀ x∈r,c∉x)→spl c [] (Lib.join (w::r) [c])=w::r
 |[],w,hw,_=>by rw [Lib.join_one,spl_miss _ _ hw];rfl
 |x::r,w,hw,hr=>by
  have e:Lib.join (w::x::r) [c]=w++c::Lib.join (x::r) [c]:=by
   rw [Lib.join_cons,Lib.join_cons]
   simp [Lib.joinTail]
  rw [e,spl_hit _ _ _ hw,spl_join r x (hr x (by simp)) (fun y hy=>hr y (by simp [hy]))]
  rfl
theorem dd_free:∀ n:Nat,n< 41→(32:UInt8)∉dd 4 n∧(47:UInt8)∉dd 4 n:=by decide+kernel
theorem dgs_free {x:Int} (h0:0≤x) (h1:x≤40):(32:UInt8)∉dgs x∧(47:UInt8)∉dgs x:=by
 unfold dgs
 rw [dd5 (by omega)]
 exact dd_free _ (by omega)
theorem wd_free {a:List Int} {c:T4} (h:okT a c) {k:Nat} (hk:k< a.length):(32:UInt8)∉wd a c k:=by
 obtain ⟨r1,r2⟩:=in_range h hk
 have f1:=(dgs_free r1.1 r1.2).1
 have f2:=(dgs_free r2.1 r2.2).1
 unfold wd
 simp only [List.mem_append,List.mem_singleton,not_or]
 exact ⟨⟨f1,by decide⟩,f2⟩
theorem gw_wd {a:List Int} {c:T4} (h:okT a c) {k:Nat} (hk:k< a.length):gw (wd a c k)=some (c.l.getD k 0,a.getD k 0):=by
 obtain ⟨r1,r2⟩:=in_range h hk
 have f1:=(dgs_free r1.1 r1.2).2
 have e:wd a c k=dgs (c.l.getD k 0)++47::dgs (a.getD k 0):=by unfold wd;simp
 have n1:nuI 40 (dgs (c.l.getD k 0))=(c.l.getD k 0,true):=by
  unfold dgs
  rw [nuI_lit (by decide) (by omega),Int.toNat_of_nonneg (by omega)]
 have n2:nuI 40 (dgs (a.getD k 0))=(a.getD k 0,true):=by
  unfold dgs
  rw [nuI_lit (by decide) (by omega),Int.toNat_of_nonneg (by omega)]
 unfold gw
 rw [e,cut_hit f1]
 simp only [if_true,n1,n2]
theorem text_back {N:Nat} {a:List Int} {c:T4} (hb:∀ x∈a,-32768≤x∧x≤32767) (hk:okT a c) (hN:4000000< N):∃ t,Qbi.f N a c=some t∧Qbn.f N t=some (a,c,0):=by
 obtain ⟨h1,h4,ho⟩:=okT_len hk
 have hj:=jg_len hk a.length (Nat.le_refl _)
 have ej:(((List.range a.length).map fun k=>(⟨(wd a c k).toArray⟩:ByteArray)).map (·.data.toList))=(List.range a.length).map (wd a c):=by simp [Function.comp_def]
 have htext:Qbi.f N a c=some ⟨(jg a c a.length).toArray⟩:=by
  simp only [Qbi.f,valid_tops hb hk (show 10< N by omega),Option.bind_some,if_true,words_impl hk (show 100< N by omega)]
  unfold strings_Join.f
  rw [ej,if_pos ⟨by rw [List.length_map,List.length_range];omega,by show (jg a c a.length).length≤_;omega⟩]
  rfl
 refine ⟨_,htext,?_⟩
 have hs:(⟨(jg a c a.length).toArray⟩:ByteArray).size≤1048576:=by rw [ba_size];omega
 have hwords:Lib.splitB ⟨#[32]⟩ 0 (Lib.countB (⟨(jg a c a.length).toArray⟩:ByteArray) ⟨#[32]⟩) (⟨(jg a c a.length).toArray⟩:ByteArray)=(List.range a.length).map fun k=>(⟨(wd a c k).toArray⟩:ByteArray):=by
  apply data_inj
  rw [Qca,ej]
  show spl 32 [] (Lib.join ((List.range a.length).map (wd a c)) [32])=_
  obtain ⟨m,hm⟩:∃ m,a.length=m+1:=⟨a.length - 1,by omega⟩
  have er:(List.range a.length).map (wd a c)=wd a c 0::((List.range m).map fun k=>wd a c (k+1)):=by
   rw [hm,List.range_succ_eq_map]
   simp [Function.comp_def]
  rw [er]
  refine spl_join _ _ (wd_free hk (by omega)) fun x hx=>?_
  obtain ⟨k,hkk,rfl⟩:=List.mem_map.1 hx
  rw [List.mem_range] at hkk
  exact wd_free hk (by omega)
 unfold Qbn.f QaQ.f
 rw [split_impl hs,Option.bind_some,hwords]
 have hwl:((List.range a.length).map fun k=>(⟨(wd a c k).toArray⟩:ByteArray)).length=a.length:=by simp
 have hq:∃ t':T4,rounds (fun s=>QaQ.b0 N ((List.range a.length).map fun k=>(⟨(wd a c k).toArray⟩:ByteArray)) 40 s.1 s.2.1 s.2.2) N ((Ar.rep 4 0),([]:List Int),0)=some (.go (t',a))∧t'=c:=by
  obtain ⟨e,he,t',rfl,ht⟩:=rounds_ends (b:=fun s=>QaQ.b0 N ((List.range a.length).map fun k=>(⟨(wd a c k).toArray⟩:ByteArray)) 40 s.1 s.2.1 s.2.2)
   (fun s=>∃ i:Nat,s.2.2=(i:Int)∧i≤a.length∧s.2.1=a.take i∧∀ j,j< 4→s.1.l.getD j 0=if j< i then c.l.getD j 0 else 0) (fun s=>a.length - s.2.2.toNat) (fun e=>∃ t':T4,e= .go (t',a)∧t'=c) (by
   rintro ⟨t,g,_⟩ ⟨i,rfl,hi,hg,ht⟩
   simp only at hg ht
   subst hg
   by_cases hl:i< a.length
   ·right
    have hil:i< ((List.range a.length).map fun k=>(⟨(wd a c k).toArray⟩:ByteArray)).length:=by rw [hwl];exact hl
    have hel:((List.range a.length).map fun k=>(⟨(wd a c k).toArray⟩:ByteArray))[i]=(⟨(wd a c i).toArray⟩:ByteArray):=by simp
    have hwi:=wd_len hk hl
    have h2:=Qcp (N:=N) (g:=a.take i) (t:=t) hil (by rw [hwl];omega) (by rw [List.length_take];omega) (by rw [hel,ba_size];omega)
    obtain ⟨r1,r2⟩:=in_range hk hl
    unfold imW at h2
    rw [if_neg (by omega),hel] at h2
    have e3:gw (⟨(wd a c i).toArray⟩:ByteArray).data.toList=some (c.l.getD i 0,a.getD i 0):=gw_wd hk hl
    rw [e3] at h2
    simp only at h2
    rw [i16w_id (x:=c.l.getD i 0) (by omega) (by omega),i16w_id (x:=a.getD i 0) (by omega) (by omega),getD_in hl] at h2
    refine ⟨_,h2,⟨i+1,rfl,hl,(List.take_succ_eq_append_getElem hl).symm,fun j hj=>?_⟩,by simp only [Int.toNat_natCast];omega⟩
    dsimp only
    by_cases e:i=j
    ·subst e;rw [get_set_same (by omega),if_pos (show i< i+1 by omega)]
    ·rw [get_set_other e,ht j hj]
     by_cases c1:j< i
     ·rw [if_pos c1,if_pos (show j< i+1 by omega)]
     ·rw [if_neg c1,if_neg (show ¬ j< i+1 by omega)]
   ·left
    obtain rfl:i=a.length:=by omega
    rw [List.take_length]
    refine ⟨.go (t,a),?_,t,rfl,ar4_ext fun j hj=>?_⟩
    ·show QaQ.b0 N _ 40 t a (a.length:Int)=_
     unfold QaQ.b0
     rw [hwl,if_neg (by omega)]
    ·rw [ht j hj]
     by_cases c1:j< a.length
     ·rw [if_pos c1]
     ·have:=hk.2 j hj
      rw [getD_out c1] at this
      rw [if_neg c1]
      omega) N ((Ar.rep 4 0:T4),([]:List Int),0) ⟨0,rfl,by omega,rfl,fun j hj=>by
    rw [if_neg (by omega)]
    have:j=0∨j=1∨j=2∨j=3:=by omega
    rcases this with rfl|rfl|rfl|rfl<;>rfl⟩ (by show a.length - _< N;omega)
  exact ⟨t',he,ht⟩
 obtain ⟨t',he,rfl⟩:=hq
 rw [he,Option.bind_some]
 show (QaQ.a0 N t' a).bind _=some (a,t',0)
 unfold QaQ.a0
 rw [Option.bind_some,if_pos rfl,valid_tops hb hk (show 10< N by omega),Option.bind_some,if_pos rfl]
def om:Option Nat→Option Nat→Option Nat
 |none,y=>y
 |some a,none=>some a
 |some a,some b=>some (min a b)
theorem om_none (x:Option Nat):om x none=x:=by cases x<;>rfl
theorem om_assoc (x y z:Option Nat):om (om x y) z=om x (om y z):=by
 cases x<;>cases y<;>cases z<;>simp [om,Nat.min_assoc]
theorem om_comm (x y:Option Nat):om x y=om y x:=by
 cases x<;>cases y<;>simp [om,Nat.min_comm]
def Om (don:Nat→Bool) (c:Nat→Option Nat):Nat→Option Nat
 |0=>none
 |m+1=>om (Om don c m) (if don m=true then c m else none)
def tt:Nat→Bool:=fun _=>true
theorem Om_more {don:Nat→Bool} {c:Nat→Option Nat} {i:Nat} (h:don i=false):∀ m,Om (fun k=>don k||(k==i)) c m=om (Om don c m) (if i< m then c i else none)
 |0=>by simp [Om,om]
 |m+1=>by
  rw [Om,Om,Om_more h m]
  by_cases e:m=i
  ·subst e
   simp [h,om_none]
  ·have:(m==i)=false:=by simpa using e
   simp only [this,Bool.or_false]
   by_cases c1:i< m
   ·rw [if_pos c1,if_pos (show i< m+1 by omega),om_assoc,om_assoc,om_comm (c i)]
   ·rw [if_neg c1,if_neg (show ¬ i< m+1 by omega),om_none,om_none]
theorem Om_all {don:Nat→Bool} {c:Nat→Option Nat}:∀ {m:Nat},(∀ i,i< m→don i=false→c i=none)→Om don c m=Om tt c m
 |0,_=>rfl
 |m+1,h=>by
  rw [Om,Om,Om_all fun i hi hd=>h i (by omega) hd]
  cases e:don m with
  |true=>simp [tt]
  |false=>rw [if_neg Bool.false_ne_true,h m (by omega) e];simp [tt]
theorem Om_no {c:Nat→Option Nat}:∀ m,Om (fun _=>false) c m=none
 |0=>rfl
 |m+1=>by rw [Om,Om_no m];rfl
theorem Om_step {c:Nat→Option Nat} (m:Nat):Om tt c (m+1)=om (Om tt c m) (c m):=by simp [Om,tt]
theorem Om_nil {don:Nat→Bool} {c:Nat→Option Nat}:∀ {m:Nat},(∀ i,i< m→c i=none)→Om don c m=none
 |0,_=>rfl
 |m+1,h=>by rw [Om,Om_nil fun i hi=>h i (by omega),h m (by omega)];simp [om]
theorem om_le {x y:Option Nat} {b:Nat} (hx:∀ v,x=some v→v≤b) (hy:∀ v,y=some v→v≤b):∀ v,om x y=some v→v≤b:=by
 intro v h
 cases x with
 |none=>exact hy v h
 |some a=>
  have:=hx a rfl
  cases y with
  |none=>simp [om] at h;omega
  |some c=>simp [om] at h;omega
def pc (s:Nat):Nat:=((bits_OnesCount8.f 0 (s:Int)).getD 0).toNat
theorem pc_all:∀ s:Nat,s< 16→(rounds (fun s=>Qa1.b0 0 s.1 s.2) 10 ((s:Int),0)).bind (Ex.fin fun s=>Qa1.a0 0 s)=some ((pc s:Nat):Int)∧bits_OnesCount8.f 0 (s:Int)=some ((pc s:Nat):Int)∧pc s≤4:=by decide+kernel
theorem turns_pc {N:Nat} (hN:10≤N) {s:Nat} (hs:s< 16):Qa1.f N (s:Int)=some ((pc s:Nat):Int):=by
 obtain ⟨e,he,hf⟩:=bind_get (pc_all s hs).1
 unfold Qa1.f
 rw [show (fun s:Int×Int=>Qa1.b0 N s.1 s.2)=(fun s=>Qa1.b0 0 s.1 s.2) from rfl,rounds_mono he hN]
 exact hf
theorem ones_pc {N:Nat} {s:Nat} (hs:s< 16):bits_OnesCount8.f N (s:Int)=some ((pc s:Nat):Int):=(pc_all s hs).2.1
abbrev Tb:=Nat→Nat→Option Nat
variable {a:List Int} {n T N:Nat}
def Mk (a:List Int) (t k:Nat):Mo:=⟨(t:Int),atT a (k:Int)⟩
theorem Mk_ok (h:Se a n T) {t k:Nat} (ht:t≤T) (hk:k< n):okM a (T:Int) (Mk a t k):=⟨⟨Int.natCast_nonneg _,Int.ofNat_le.2 ht⟩,atT_fits h.gl.len h.gl.ok (Int.natCast_nonneg _)⟩
def tOf (y:Mo):Nat:=y.Qav.toNat
def kOf (a:List Int) (y:Mo):Nat:=(hor a y.Qaz.l).toNat
theorem Mk_of (h:Se a n T) {y:Mo} (hy:okM a (T:Int) y):tOf y≤T∧kOf a y< n∧Mk a (tOf y) (kOf a y)=y:=by
 obtain ⟨⟨t0,t1⟩,hf⟩:=hy
 obtain ⟨h0,h1⟩:=hor_range h.gl.ok (fits_in h.gl.len hf)
 have hn:=h.n_eq
 refine ⟨by unfold tOf;omega,by unfold kOf;omega,?_⟩
 unfold Mk tOf kOf
 rw [Int.toNat_of_nonneg t0,Int.toNat_of_nonneg h0,atT_hor h.gl.len h.gl.ok hf]
theorem of_Mk (h:Se a n T) {t k:Nat} (hk:k< n):tOf (Mk a t k)=t∧kOf a (Mk a t k)=k:=by
 refine ⟨by simp [tOf,Mk],?_⟩
 show (hor a (atT a (k:Int)).l).toNat=k
 rw [hor_atT h.gl.len h.gl.ok (Int.natCast_nonneg _) (by rw [← h.n_eq];omega),Int.toNat_natCast]
theorem atT_inj (h:Se a n T) {j k:Nat} (hj:j< n) (hk:k< n) (e:atT a (j:Int)=atT a (k:Int)):j=k:=by
 have h1:=(of_Mk h (t:=0) hj).2
 have h2:=(of_Mk h (t:=0) hk).2
 unfold kOf Mk at h1 h2
 simp only at h1 h2
 rw [e] at h1
 omega
theorem suc_later {N:Nat} {T:Int} {x y:Mo} {s:Nat} (h:suc N a T x s=some y):x.Qav< y.Qav:=by
 unfold suc at h
 split at h
 ·split at h
  ·cases h;dsimp only;omega
  ·cases h
 ·cases h
def stp1 (N:Nat) (a:List Int) (T:Nat) (F:Tb) (x:Mo) (v s:Nat):Tb:=match suc N a (T:Int) x s with
 |some y=>fun t k=>if t=tOf y∧k=kOf a y then om (F t k) (some (v+pc s)) else F t k
 |none=>F
def cd (N:Nat) (a:List Int) (T:Nat) (x:Mo) (v:Nat) (t k:Nat):Nat→Option Nat
 |0=>none
 |m+1=>om (cd N a T x v t k m) (match suc N a (T:Int) x m with|some y=>if t=tOf y∧k=kOf a y then some (v+pc m) else none|none=>none)
def stpS (N:Nat) (a:List Int) (T:Nat) (F:Tb) (x:Mo) (v m:Nat):Tb:=fun t k=>om (F t k) (cd N a T x v t k m)
theorem stpS_step (F:Tb) (x:Mo) (v m:Nat):stp1 N a T (stpS N a T F x v m) x v m=stpS N a T F x v (m+1):=by
 funext t k
 unfold stp1 stpS
 rw [cd]
 cases suc N a (T:Int) x m with
 |none=>rw [om_none]
 |some y=>
  dsimp only
  by_cases c:t=tOf y∧k=kOf a y
  ·rw [if_pos c,if_pos c,om_assoc]
  ·rw [if_neg c,if_neg c,om_none]
theorem stpS_zero (F:Tb) (x:Mo) (v:Nat):stpS N a T F x v 0=F:=by
 funext t k
 unfold stpS cd
 rw [om_none]
theorem cd_later {t1 k1 v t k:Nat} (ht:t≤t1):∀ m,cd N a T (Mk a t1 k1) v t k m=none
 |0=>rfl
 |m+1=>by
  unfold cd
  rw [cd_later ht m]
  cases e:suc N a (T:Int) (Mk a t1 k1) m with
  |none=>rfl
  |some y=>
   dsimp only
   have hl:=suc_later e
   have:¬ (t=tOf y∧k=kOf a y):=by
    rintro ⟨e1,_⟩
    unfold tOf at e1
    simp only [Mk] at hl
    omega
   rw [if_neg this]
   rfl
theorem cd_le {x:Mo} {v t k:Nat}:∀ m,m≤16→∀ w,cd N a T x v t k m=some w→w≤v+4
 |0,_,w,h=>by cases h
 |m+1,hm,w,h=>by
  rw [cd] at h
  refine om_le (cd_le m (by omega)) ?_ w h
  intro u hu
  have:=(pc_all m (by omega)).2.2
  split at hu
  ·split at hu
   ·rw [← QsJ hu];exact Nat.add_le_add_left this v
   ·cases hu
  ·cases hu
theorem cd_late {x:Mo} {v t k:Nat}:∀ m w,cd N a T x v t k m=some w→x.Qav< (t:Int)
 |0,w,h=>by cases h
 |m+1,w,h=>by
  rw [cd] at h
  cases e1:cd N a T x v t k m with
  |some u=>exact cd_late m u e1
  |none=>
   rw [e1] at h
   cases e:suc N a (T:Int) x m with
   |none=>rw [e] at h;cases h
   |some y=>
    rw [e] at h
    dsimp only [om] at h
    by_cases c:t=tOf y∧k=kOf a y
    ·have hl:=suc_later e
     obtain ⟨c1,_⟩:=c
     unfold tOf at c1
     omega
    ·rw [if_neg c] at h;cases h
def give (N:Nat) (a:List Int) (T:Nat) (F:Tb) (t1 t k i:Nat):Option Nat:=match F t1 i with
 |some v=>cd N a T (Mk a t1 i) v t k (2^a.length)
 |none=>none
def Fd (N:Nat) (a:List Int) (n T:Nat) (F:Tb) (t1:Nat) (don:Nat→Bool):Tb:=fun t k=>om (F t k) (Om don (give N a T F t1 t k) n)
theorem Fd_now {F:Tb} {t1:Nat} {don:Nat→Bool} {t:Nat} (ht:t≤t1) (k:Nat):Fd N a n T F t1 don t k=F t k:=by
 unfold Fd
 rw [Om_nil,om_none]
 intro i _
 unfold give
 split
 ·exact cd_later ht _
 ·rfl
theorem Fd_more {F:Tb} {t1:Nat} {don:Nat→Bool} {i v:Nat} (hi:i< n) (hd:don i=false) (hv:F t1 i=some v):
 Fd N a n T F t1 (fun k=>don k||(k==i))=stpS N a T (Fd N a n T F t1 don) (Mk a t1 i) v (2^a.length):=by
 funext t k
 unfold Fd stpS
 rw [Om_more hd,if_pos hi,om_assoc]
 congr 2
 unfold give
 rw [hv]
def Gt (N:Nat) (a:List Int) (n T:Nat) (c:T4):Nat→Tb
 |0=>fun t k=>if t=0∧k=(hor a c.l).toNat then some 0 else none
 |t1+1=>Fd N a n T (Gt N a n T c t1) t1 tt
def low (F:Tb):Prop:=∀ t k v,F t k=some v→v≤4*t
theorem give_low (hlen:a.length≤4) {F:Tb} (hF:low F) {t1 t k i v:Nat} (h:give N a T F t1 t k i=some v):v≤4*t:=by
 unfold give at h
 cases e:F t1 i with
 |none=>rw [e] at h;cases h
 |some u=>
  rw [e] at h
  have h1:=cd_le _ (pow_le hlen).1 v h
  have h2:=cd_late _ v h
  have h3:=hF t1 i u e
  simp only [Mk] at h2
  omega
theorem Om_low {don:Nat→Bool} {c:Nat→Option Nat} {b:Nat} (hc:∀ i v,c i=some v→v≤b):∀ m v,Om don c m=some v→v≤b
 |0,v,h=>by cases h
 |m+1,v,h=>by
  rw [Om] at h
  refine om_le (Om_low hc m) ?_ v h
  intro u hu
  split at hu
  ·exact hc m u hu
  ·cases hu
theorem Fd_low (hlen:a.length≤4) {F:Tb} (hF:low F) {t1:Nat} {don:Nat→Bool}:low (Fd N a n T F t1 don):=fun t k v h=>
 om_le (b:=4*t) (fun v h=>hF t k v h) (Om_low (fun i v h=>give_low hlen hF h) n) v h
theorem Gt_low (hlen:a.length≤4) {c:T4}:∀ t1,low (Gt N a n T c t1)
 |0=>fun t k v h=>by
  simp only [Gt] at h
  split at h
  ·cases h;omega
  ·cases h
 |t1+1=>Fd_low hlen (Gt_low hlen t1)
theorem Gt_last (h:Se a n T) {c:T4} {k:Nat} (hk:k< n) (hN:5< N):Gt N a n T c (T+1)=Gt N a n T c T:=by
 funext t k
 show om _ _=_
 rw [Om_nil,om_none]
 intro i hi
 unfold give
 have hp:=pow_le h.gl.len
 cases e:Gt N a n T c T T i with
 |none=>rfl
 |some v=>
  dsimp only
  have hno:∀ m,m≤16→cd N a T (Mk a T i) v t k m=none:=by
   intro m
   induction m with
   |zero=>intro _;rfl
   |succ m ih=>
    intro hm
    rw [cd,ih (by omega)]
    cases e2:suc N a (T:Int) (Mk a T i) m with
    |none=>rfl
    |some y=>
     have h1:=suc_later e2
     have h2:=(suc_ok h.gl (Mk_ok h (Nat.le_refl T) hi) (show m≤255 by omega) hN e2).1.2
     simp only [Mk] at h1
     omega
  exact hno _ hp.1
def vi:Option Nat→Int
 |none=> -1
 |some v=>(v:Int)
theorem rdL_stL {α:Type} {L:List α} {i j:Nat} {v z:α}:rdL (stL L (i:Int) v) (j:Int) z=if i=j∧i< L.length then v else rdL L (j:Int) z:=by
 simp only [rdL,stL,Int.toNat_natCast,List.getD,List.getElem?_set]
 by_cases e:i=j
 ·subst e
  by_cases c:i< L.length
  ·simp [c]
  ·simp [c]
 ·simp [e]
theorem len_stL {α:Type} {L:List α} {i:Int} {v:α}:(stL L i v).length=L.length:=by simp [stL]
structure RepT (n T:Nat) (L:List (List Int)) (F:Tb):Prop where
 len:L.length=T+1
 row:∀ t:Nat,t≤T→(rdL L (t:Int) []).length=n
 val:∀ t:Nat,t≤T→∀ k:Nat,k< n→rdL (rdL L (t:Int) []) (k:Int) 0=vi (F t k)
theorem RepT.set {n T:Nat} {L:List (List Int)} {F F':Tb} (r:RepT n T L F) {t k:Nat} (ht:t≤T) (hk:k< n) {x:Int} {o:Option Nat} (hx:x=vi o) (hF:∀ t2 k2,F' t2 k2=if t2=t∧k2=k then o else F t2 k2):
 RepT n T (stL L (t:Int) (stL (rdL L (t:Int) []) (k:Int) x)) F':=by
 have hl:=r.len
 refine ⟨by rw [len_stL];exact hl,fun t2 h2=>?_,fun t2 h2 k2 g2=>?_⟩
 ·rw [rdL_stL]
  by_cases e:t=t2
  ·rw [if_pos ⟨e,by omega⟩,len_stL];exact r.row t ht
  ·rw [if_neg (fun g=>e g.1)];exact r.row t2 h2
 ·rw [rdL_stL,hF]
  by_cases e:t=t2
  ·subst e
   rw [if_pos ⟨rfl,by omega⟩,rdL_stL,r.row t ht]
   by_cases e2:k=k2
   ·subst e2
    rw [if_pos ⟨rfl,hk⟩,if_pos ⟨rfl,rfl⟩,hx]
   ·rw [if_neg (fun g=>e2 g.1),if_neg (fun g=>e2 g.2.symm)]
    exact r.val t ht k2 g2
  ·rw [if_neg (fun g=>e g.1),if_neg (fun g=>e g.1.symm)]
   exact r.val t2 h2 k2 g2
theorem tb_step (h:Se a n T) (hN:10< N) {t k s v:Nat} (ht:t≤T) (hk:k< n) (hs:s< 2^a.length) {L:List (List Int)} {F:Tb} (r:RepT n T L F) (hv:F t k=some v) (hlow:v≤4*t):
 ∃ L',Qaj.b7 N a (atT a (k:Int)) (t:Int) (T:Int) (k:Int) L (s:Int)=some (.next (L',((s+1:Nat):Int)))∧RepT n T L' (stp1 N a T F (Mk a t k) v s):=by
 have hp:=pow_le h.gl.len
 have hT:=h.t
 have hm:=Mk_ok h ht hk
 obtain ⟨q,h1,_,h3,_,h5,h6,h7⟩:=nxt_ok (N:=N) (s:=s) h.gl hm.2 (by omega) (by omega)
 have e1:i64w ((s:Int)+1)=((s+1:Nat):Int):=i64w_id (by omega) (by omega)
 have hw:i64w ((t:Int)+(nxt N a (Mk a t k).Qaz s).2)=(t:Int)+(nxt N a (Mk a t k).Qaz s).2:=i64w_id (by omega) (by omega)
 unfold Qaj.b7
 rw [sets_eq h.gl.len,Option.bind_some,if_pos (by rw [pow_cast];omega),u8w_id (x:=(s:Int)) (by omega) (by omega)]
 rw [show QaI.f N a (atT a (k:Int)) (s:Int)=some q from h1,Option.bind_some,h3,Option.bind_some]
 unfold stp1 suc Qaj.j9
 rw [e1]
 have hft:(Mk a t k).Qav=(t:Int):=rfl
 by_cases c0:(nxt N a (Mk a t k).Qaz s).2=0
 ·rw [if_pos c0,if_neg (show ¬ (nxt N a (Mk a t k).Qaz s).2>0 by omega)]
  exact ⟨L,rfl,r⟩
 ·rw [if_neg c0,if_pos (show (nxt N a (Mk a t k).Qaz s).2>0 by omega),hw,hft]
  by_cases c1:(t:Int)+(nxt N a (Mk a t k).Qaz s).2>(T:Int)
  ·rw [if_pos c1,if_neg (show ¬ (t:Int)+(nxt N a (Mk a t k).Qaz s).2≤(T:Int) by omega)]
   exact ⟨L,rfl,r⟩
  ·rw [if_neg c1,if_pos (show (t:Int)+(nxt N a (Mk a t k).Qaz s).2≤(T:Int) by omega),index_eq h.gl.ok h.gl.len h.gl.few h5 (by omega),Option.bind_some]
   have hy:okM a (T:Int) (⟨(t:Int)+(nxt N a (Mk a t k).Qaz s).2,(nxt N a (Mk a t k).Qaz s).1⟩:Mo):=⟨⟨by show (0:Int)≤_+_;omega,by show _+_≤(T:Int);omega⟩,h5⟩
   obtain ⟨y1,y2,_⟩:=Mk_of h hy
   have f1:(t:Int)+(nxt N a (Mk a t k).Qaz s).2=((tOf ⟨(t:Int)+(nxt N a (Mk a t k).Qaz s).2,(nxt N a (Mk a t k).Qaz s).1⟩:Nat):Int):=by unfold tOf;simp only;omega
   have f2:hor a (nxt N a (Mk a t k).Qaz s).1.l=((kOf a ⟨(t:Int)+(nxt N a (Mk a t k).Qaz s).2,(nxt N a (Mk a t k).Qaz s).1⟩:Nat):Int):=by
    have:=(hor_range h.gl.ok (fits_in h.gl.len h5)).1
    unfold kOf;simp only;omega
   generalize (⟨(t:Int)+(nxt N a (Mk a t k).Qaz s).2,(nxt N a (Mk a t k).Qaz s).1⟩:Mo)=y at hy y1 y2 f1 f2 ⊢
   rw [f1,f2]
   have hl:=r.len
   have r1:=r.row t ht
   have r2:=r.row (tOf y) y1
   have v1:=r.val t ht k hk
   have v2:=r.val (tOf y) y1 (kOf a y) y2
   have hpc:=(pc_all s (by omega)).2.2
   rw [if_pos ⟨by omega,by omega⟩,if_pos ⟨by omega,by omega⟩,turns_pc (by omega) (by omega),Option.bind_some,if_pos ⟨by omega,by omega⟩,if_pos ⟨by omega,by omega⟩,v1,v2,hv]
   have hc:i64w (vi (some v)+((pc s:Nat):Int))=((v+pc s:Nat):Int):=by
    show i64w ((v:Int)+((pc s:Nat):Int))=_
    rw [← Int.natCast_add]
    exact i64w_id (by omega) (by omega)
   rw [hc]
   cases e:F (tOf y) (kOf a y) with
   |none=>
    rw [if_pos (show vi none< 0 by decide),if_pos ⟨by omega,by omega⟩,if_pos ⟨by omega,by omega⟩]
    refine ⟨_,rfl,r.set y1 y2 (o:=some (v+pc s)) rfl fun t2 k2=>?_⟩
    dsimp only
    by_cases c:t2=tOf y∧k2=kOf a y
    ·rw [if_pos c,if_pos c,c.1,c.2,e];rfl
    ·rw [if_neg c,if_neg c]
   |some u=>
    rw [if_neg (show ¬ vi (some u)< 0 by simp only [vi];omega),if_pos ⟨by omega,by omega⟩,if_pos ⟨by omega,by omega⟩]
    by_cases cl:((v+pc s:Nat):Int)< vi (some u)
    ·rw [if_pos cl,if_pos ⟨by omega,by omega⟩,if_pos ⟨by omega,by omega⟩]
     refine ⟨_,rfl,r.set y1 y2 (o:=some (v+pc s)) rfl fun t2 k2=>?_⟩
     dsimp only
     by_cases c:t2=tOf y∧k2=kOf a y
     ·rw [if_pos c,if_pos c,c.1,c.2,e]
      simp only [vi] at cl
      show some (min u (v+pc s))=some (v+pc s)
      rw [Nat.min_eq_right (by omega)]
     ·rw [if_neg c,if_neg c]
    ·rw [if_neg cl]
     refine ⟨L,rfl,r.len,r.row,fun t2 h2 k2 g2=>?_⟩
     rw [r.val t2 h2 k2 g2]
     dsimp only
     by_cases c:t2=tOf y∧k2=kOf a y
     ·rw [if_pos c,c.1,c.2,e]
      simp only [vi] at cl
      show vi (some u)=vi (some (min u (v+pc s)))
      rw [Nat.min_eq_left (by omega)]
     ·rw [if_neg c]
theorem tb_sets (h:Se a n T) (hN:20< N) {t k v:Nat} (ht:t≤T) (hk:k< n) {F:Tb} (hv:F t k=some v) (hlow:v≤4*t):
 ∀ (m s:Nat) (L:List (List Int)),s≤2^a.length→2^a.length - s< m→RepT n T L (stpS N a T F (Mk a t k) v s)→
 ∃ L',rounds (fun q=>Qaj.b7 N a (atT a (k:Int)) (t:Int) (T:Int) (k:Int) q.1 q.2) m (L,(s:Int))=some (.go L')∧RepT n T L' (stpS N a T F (Mk a t k) v (2^a.length)):=by
 intro m
 induction m with
 |zero=>intro s L _ hm;exact absurd hm (Nat.not_lt_zero _)
 |succ m ih=>
  intro s L hs hm r
  by_cases c:s< 2^a.length
  ·have hv':stpS N a T F (Mk a t k) v s t k=some v:=by
    unfold stpS
    rw [cd_later (Nat.le_refl t),om_none,hv]
   obtain ⟨L1,g1,g2⟩:=tb_step (N:=N) h (by omega) ht hk c r hv' hlow
   rw [stpS_step] at g2
   obtain ⟨L',f1,f2⟩:=ih (s+1) L1 (by omega) (by omega) g2
   exact ⟨L',(rounds_next (b:=fun q:List (List Int)×Int=>Qaj.b7 N a (atT a (k:Int)) (t:Int) (T:Int) (k:Int) q.1 q.2) (s:=(L,(s:Int))) g1).trans f1,f2⟩
  ·have:s=2^a.length:=by omega
   subst this
   refine ⟨L,rounds_out ?_,r⟩
   show Qaj.b7 N a (atT a (k:Int)) (t:Int) (T:Int) (k:Int) L ((2^a.length:Nat):Int)=_
   unfold Qaj.b7
   rw [sets_eq h.gl.len,Option.bind_some,if_neg (by rw [pow_cast];omega)]
def FdK (N:Nat) (a:List Int) (T:Nat) (F:Tb) (t1 m:Nat):Tb:=fun t k=>om (F t k) (Om tt (give N a T F t1 t k) m)
theorem FdK_now {F:Tb} {t1 m:Nat} (k:Nat):FdK N a T F t1 m t1 k=F t1 k:=by
 unfold FdK
 rw [Om_nil,om_none]
 intro i _
 unfold give
 split
 ·exact cd_later (Nat.le_refl _) _
 ·rfl
theorem FdK_none {F:Tb} {t1 m:Nat} (hv:F t1 m=none):FdK N a T F t1 (m+1)=FdK N a T F t1 m:=by
 funext t k
 unfold FdK
 rw [Om_step,show give N a T F t1 t k m=none by unfold give;rw [hv],om_none]
theorem FdK_some {F:Tb} {t1 m v:Nat} (hv:F t1 m=some v):FdK N a T F t1 (m+1)=stpS N a T (FdK N a T F t1 m) (Mk a t1 m) v (2^a.length):=by
 funext t k
 unfold FdK stpS
 rw [Om_step,om_assoc,show give N a T F t1 t k m=cd N a T (Mk a t1 m) v t k (2^a.length) by unfold give;rw [hv]]
theorem tb_row (h:Se a n T) (hN:20< N) {t:Nat} (ht:t≤T) {F:Tb} (hlow:low F):
 ∀ (m k:Nat) (L:List (List Int)),k≤n→n - k< m→RepT n T L (FdK N a T F t k)→
 ∃ L',rounds (fun q=>Qaj.b4 N (n:Int) (t:Int) a (T:Int) q.1 q.2) m (L,(k:Int))=some (.go L')∧RepT n T L' (FdK N a T F t n):=by
 have hn:=h.n3
 intro m
 induction m with
 |zero=>intro k L _ hm;exact absurd hm (Nat.not_lt_zero _)
 |succ m ih=>
  intro k L hk hm r
  by_cases c:k< n
  ·have e1:i64w ((k:Int)+1)=((k+1:Nat):Int):=i64w_id (by omega) (by omega)
   have hl:=r.len
   have r1:=r.row t ht
   have step:∃ L1,Qaj.b4 N (n:Int) (t:Int) a (T:Int) L (k:Int)=some (.next (L1,((k+1:Nat):Int)))∧RepT n T L1 (FdK N a T F t (k+1)):=by
    unfold Qaj.b4
    rw [if_pos (by omega),if_pos ⟨by omega,by omega⟩,if_pos ⟨by omega,by omega⟩,r.val t ht k c,FdK_now]
    cases e:F t k with
    |none=>
     rw [if_pos (show vi none< 0 by decide)]
     unfold Qaj.j6
     rw [e1]
     exact ⟨L,rfl,by rw [FdK_none e];exact r⟩
    |some v=>
     rw [if_neg (show ¬ vi (some v)< 0 by simp only [vi];omega),at_eq h.gl.ok h.gl.len (Int.natCast_nonneg _) (by omega) (by omega),Option.bind_some]
     obtain ⟨L1,g1,g2⟩:=tb_sets (N:=N) h hN ht c (F:=FdK N a T F t k) (by rw [FdK_now];exact e) (hlow t k v e) N 0 L (Nat.zero_le _) (by have:=pow_le h.gl.len;omega) (by rw [stpS_zero];exact r)
     rw [show rounds (fun s=>Qaj.b7 N a (atT a (k:Int)) (t:Int) (T:Int) (k:Int) s.1 s.2) N (L,0)=_ from g1,Option.bind_some]
     show ∃ L1_1,Qaj.a7 N (k:Int) L1=_∧_
     unfold Qaj.a7 Qaj.j6
     rw [e1]
     exact ⟨L1,rfl,by rw [FdK_some e];exact g2⟩
   obtain ⟨L1,s1,s2⟩:=step
   obtain ⟨L',f1,f2⟩:=ih (k+1) L1 (by omega) (by omega) s2
   exact ⟨L',(rounds_next (b:=fun q:List (List Int)×Int=>Qaj.b4 N (n:Int) (t:Int) a (T:Int) q.1 q.2) (s:=(L,(k:Int))) s1).trans f1,f2⟩
  ·have:k=n:=by omega
   subst this
   refine ⟨L,rounds_out ?_,r⟩
   show Qaj.b4 N (k:Int) (t:Int) a (T:Int) L (k:Int)=_
   unfold Qaj.b4
   rw [if_neg (by omega)]
theorem tb_times (h:Se a n T) (hN:4000< N) {c:T4}:
 ∀ (m t:Nat) (L:List (List Int)),t≤T+1→T+1 - t< m→RepT n T L (Gt N a n T c t)→
 ∃ L',rounds (fun q=>Qaj.b2 N (T:Int) (n:Int) a q.1 q.2) m (L,(t:Int))=some (.go L')∧RepT n T L' (Gt N a n T c (T+1)):=by
 have hT:=h.t
 have hn:=h.n3
 intro m
 induction m with
 |zero=>intro t L _ hm;exact absurd hm (Nat.not_lt_zero _)
 |succ m ih=>
  intro t L ht hm r
  by_cases ct:t≤T
  ·have e1:i64w ((t:Int)+1)=((t+1:Nat):Int):=i64w_id (by omega) (by omega)
   have z:FdK N a T (Gt N a n T c t) t 0=Gt N a n T c t:=by funext t2 k2;exact om_none _
   obtain ⟨L1,g1,g2⟩:=tb_row (N:=N) h (by omega) ct (Gt_low h.gl.len t) N 0 L (Nat.zero_le _) (by omega) (by rw [z];exact r)
   have s1:Qaj.b2 N (T:Int) (n:Int) a L (t:Int)=some (.next (L1,((t+1:Nat):Int))):=by
    unfold Qaj.b2
    rw [if_pos (by omega),show rounds (fun s=>Qaj.b4 N (n:Int) (t:Int) a (T:Int) s.1 s.2) N (L,0)=_ from g1,Option.bind_some]
    show Qaj.a4 N (t:Int) L1=_
    unfold Qaj.a4
    rw [e1]
   obtain ⟨L',f1,f2⟩:=ih (t+1) L1 (by omega) (by omega) g2
   exact ⟨L',(rounds_next (b:=fun q:List (List Int)×Int=>Qaj.b2 N (T:Int) (n:Int) a q.1 q.2) (s:=(L,(t:Int))) s1).trans f1,f2⟩
  ·have:t=T+1:=by omega
   subst this
   refine ⟨L,rounds_out ?_,r⟩
   show Qaj.b2 N (T:Int) (n:Int) a L ((T+1:Nat):Int)=_
   unfold Qaj.b2
   rw [if_neg (by omega)]
theorem tb_fill (h:Se a n T) {t:Nat} (ht:t≤T):∀ (m k:Nat) (L:List (List Int)),k≤n→n - k< m→L.length=T+1→(rdL L (t:Int) []).length=n→(∀ j:Nat,j< k→rdL (rdL L (t:Int) []) (j:Int) 0= -1)→
 ∃ L',rounds (fun q=>Qaj.b10 N (n:Int) (t:Int) q.1 q.2) m (L,(k:Int))=some (.go L')∧L'.length=T+1∧(rdL L' (t:Int) []).length=n∧(∀ j:Nat,j< n→rdL (rdL L' (t:Int) []) (j:Int) 0= -1)∧∀ t2:Nat,¬ t2=t→rdL L' (t2:Int) []=rdL L (t2:Int) []:=by
 have hn:=h.n3
 intro m
 induction m with
 |zero=>intro k L _ hm;exact absurd hm (Nat.not_lt_zero _)
 |succ m ih=>
  intro k L hk hm hl hr hv
  by_cases c:k< n
  ·have e1:i64w ((k:Int)+1)=((k+1:Nat):Int):=i64w_id (by omega) (by omega)
   have s1:Qaj.b10 N (n:Int) (t:Int) L (k:Int)=some (.next (stL L (t:Int) (stL (rdL L (t:Int) []) (k:Int) (-1)),((k+1:Nat):Int))):=by
    unfold Qaj.b10
    rw [if_pos (by omega),if_pos ⟨by omega,by omega⟩,if_pos ⟨by omega,by omega⟩,e1]
   obtain ⟨L',f1,f2,f3,f4,f5⟩:=ih (k+1) (stL L (t:Int) (stL (rdL L (t:Int) []) (k:Int) (-1))) (by omega) (by omega) (by rw [len_stL];exact hl) (by rw [rdL_stL,if_pos ⟨rfl,by omega⟩,len_stL];exact hr) (fun j hj=>by
    rw [rdL_stL,if_pos ⟨rfl,by omega⟩,rdL_stL]
    by_cases e:k=j
    ·rw [if_pos ⟨e,by omega⟩]
    ·rw [if_neg (fun g=>e g.1)];exact hv j (by omega))
   refine ⟨L',(rounds_next (b:=fun q:List (List Int)×Int=>Qaj.b10 N (n:Int) (t:Int) q.1 q.2) (s:=(L,(k:Int))) s1).trans f1,f2,f3,f4,fun t2 h2=>?_⟩
   rw [f5 t2 h2,rdL_stL,if_neg (fun g=>h2 g.1.symm)]
  ·have:k=n:=by omega
   subst this
   refine ⟨L,rounds_out ?_,hl,hr,hv,fun _ _=>rfl⟩
   show Qaj.b10 N (k:Int) (t:Int) L (k:Int)=_
   unfold Qaj.b10
   rw [if_neg (by omega)]
theorem tb_make (h:Se a n T) (hN:4000< N):∀ (m t:Nat) (L:List (List Int)),t≤T+1→T+1 - t< m→L.length=T+1→(∀ t2:Nat,t2< t→(rdL L (t2:Int) []).length=n∧∀ j:Nat,j< n→rdL (rdL L (t2:Int) []) (j:Int) 0= -1)→
 ∃ L',rounds (fun q=>Qaj.b0 N (T:Int) (n:Int) q.1 q.2) m (L,(t:Int))=some (.go L')∧RepT n T L' (fun _ _=>none):=by
 have hT:=h.t
 have hn:=h.n3
 intro m
 induction m with
 |zero=>intro t L _ hm;exact absurd hm (Nat.not_lt_zero _)
 |succ m ih=>
  intro t L ht hm hl hv
  by_cases c:t≤T
  ·have e1:i64w ((t:Int)+1)=((t+1:Nat):Int):=i64w_id (by omega) (by omega)
   obtain ⟨L1,g1,g2,g3,g4,g5⟩:=tb_fill (N:=N) h c N 0 (stL L (t:Int) (List.replicate n 0)) (Nat.zero_le _) (by omega) (by rw [len_stL];exact hl) (by rw [rdL_stL,if_pos ⟨rfl,by omega⟩];simp) (fun j hj=>absurd hj (Nat.not_lt_zero _))
   have s1:Qaj.b0 N (T:Int) (n:Int) L (t:Int)=some (.next (L1,((t+1:Nat):Int))):=by
    unfold Qaj.b0
    rw [if_pos (by omega),if_pos ⟨by omega,by omega⟩,if_pos ⟨by omega,by omega⟩,Int.toNat_natCast,show rounds (fun s=>Qaj.b10 N (n:Int) (t:Int) s.1 s.2) N (stL L (t:Int) (List.replicate n 0),0)=_ from g1,Option.bind_some]
    show Qaj.a10 N (t:Int) L1=_
    unfold Qaj.a10
    rw [e1]
   obtain ⟨L',f1,f2⟩:=ih (t+1) L1 (by omega) (by omega) g2 (fun t2 h2=>by
    by_cases e:t2=t
    ·subst e;exact ⟨g3,g4⟩
    ·rw [g5 t2 e,rdL_stL,if_neg (fun g=>e g.1.symm)];exact hv t2 (by omega))
   exact ⟨L',(rounds_next (b:=fun q:List (List Int)×Int=>Qaj.b0 N (T:Int) (n:Int) q.1 q.2) (s:=(L,(t:Int))) s1).trans f1,f2⟩
  ·have:t=T+1:=by omega
   subst this
   refine ⟨L,rounds_out ?_,hl,fun t2 h2=>(hv t2 (by omega)).1,fun t2 h2 k2 g2=>(hv t2 (by omega)).2 k2 g2⟩
   show Qaj.b0 N (T:Int) (n:Int) L ((T+1:Nat):Int)=_
   unfold Qaj.b0
   rw [if_neg (by omega)]
theorem table_eq (h:Se a n T) (hN:4000< N) {c:T4} (hf:fits a c) (hst:QaS.f N a=some (n:Int)):∃ L,Qaj.f N a c (T:Int)=some L∧RepT n T L (Gt N a n T c T):=by
 have hT:=h.t
 have hn1:=h.n1
 have e1:i64w ((T:Int)+1)=((T+1:Nat):Int):=i64w_id (by omega) (by omega)
 obtain ⟨L0,g1,g2⟩:=tb_make (N:=N) h hN N 0 (List.replicate (T+1) []) (Nat.zero_le _) (by omega) (by simp) (fun t2 h2=>absurd h2 (Nat.not_lt_zero _))
 obtain ⟨x0,x1⟩:=hor_range h.gl.ok (fits_in h.gl.len hf)
 have hk:(hor a c.l).toNat< n:=by have:=h.n_eq;omega
 have ek:hor a c.l=(((hor a c.l).toNat:Nat):Int):=by omega
 have r0:=g2.row 0 (Nat.zero_le _)
 have l0:=g2.len
 have r1:RepT n T (stL L0 ((0:Nat):Int) (stL (rdL L0 ((0:Nat):Int) []) (((hor a c.l).toNat:Nat):Int) 0)) (Gt N a n T c 0):=g2.set (Nat.zero_le _) hk (o:=some 0) rfl fun t2 k2=>rfl
 obtain ⟨L',f1,f2⟩:=tb_times (N:=N) h hN N 0 _ (Nat.zero_le _) (by omega) r1
 refine ⟨L',?_,by rw [← Gt_last h hk (by omega)];exact f2⟩
 unfold Qaj.f
 rw [hst,Option.bind_some,e1,if_pos ⟨by omega,by omega⟩,Int.toNat_natCast,show rounds (fun s=>Qaj.b0 N (T:Int) (n:Int) s.1 s.2) N (List.replicate (T+1) [],0)=_ from g1,Option.bind_some]
 show Qaj.a0 N a c (T:Int) (n:Int) L0=_
 unfold Qaj.a0
 have r0':(rdL L0 0 []).length=n:=r0
 rw [if_pos ⟨by omega,by omega⟩,index_eq h.gl.ok h.gl.len h.gl.few hf (by omega),Option.bind_some,if_pos ⟨by omega,by omega⟩,ek]
 rw [show rounds (fun s=>Qaj.b2 N (T:Int) (n:Int) a s.1 s.2) N (stL L0 0 (stL (rdL L0 0 []) (((hor a c.l).toNat:Nat):Int) 0),0)=_ from f1,Option.bind_some]
 rfl
variable {κ ν:Type} [DecidableEq κ]
theorem mIdx_key {kv:List (κ×ν)} {k:κ} {i:Nat} (h:mIdx kv k=some i):∃ hi:i< kv.length,kv[i].1=k:=by
 obtain ⟨hi,he,_⟩:=List.findIdx?_eq_some_iff_getElem.1 h
 exact ⟨hi,(of_decide_eq_true he).symm⟩
theorem mIdx_no {kv:List (κ×ν)} {k:κ} (h:mIdx kv k=none):∀ p∈kv,k≠p.1:=by
 intro p hp e
 have:=List.findIdx?_eq_none_iff.1 h p hp
 simp [e] at this
theorem mSet_keys (kv:List (κ×ν)) (k:κ) (v:ν):((mSet kv k v).map (·.1)=kv.map (·.1))∨((mSet kv k v).map (·.1)=kv.map (·.1)++[k]∧k∉kv.map (·.1)):=by
 unfold mSet
 cases h:mIdx kv k with
 |some i=>
  left
  obtain ⟨hi,he⟩:=mIdx_key h
  simp only [List.map_set]
  rw [← he]
  refine List.ext_getElem (by simp) fun j h1 h2=>?_
  by_cases c:i=j
  ·subst c;simp
  ·simp [List.getElem_set,c]
 |none=>
  right
  refine ⟨by simp,fun hm=>?_⟩
  obtain ⟨p,hp,he⟩:=List.mem_map.1 hm
  exact mIdx_no h p hp he.symm
theorem mSet_nodup {kv:List (κ×ν)} (h:(kv.map (·.1)).Nodup) (k:κ) (v:ν):((mSet kv k v).map (·.1)).Nodup:=by
 rcases mSet_keys kv k v with e|⟨e,hn⟩
 ·rw [e];exact h
 ·rw [e,List.nodup_append]
  refine ⟨h,by simp,fun a ha b hb q=>?_⟩
  rw [List.mem_singleton] at hb
  subst hb q
  exact hn ha
theorem mSet_in {kv:List (κ×ν)} {k:κ} {v:ν} {x:κ} (h:x∈(mSet kv k v).map (·.1)):x∈kv.map (·.1)∨x=k:=by
 rcases mSet_keys kv k v with e|⟨e,_⟩
 ·rw [e] at h;exact .inl h
 ·rw [e,List.mem_append,List.mem_singleton] at h;exact h
theorem mGet_at {kv:List (κ×ν)} (hn:(kv.map (·.1)).Nodup) {p:κ×ν} (hp:p∈kv) (z:ν):mGet kv p.1 z=p.2:=by
 unfold mGet
 cases h:mIdx kv p.1 with
 |none=>exact absurd rfl (mIdx_no h p hp)
 |some i=>
  obtain ⟨hi,he⟩:=mIdx_key h
  obtain ⟨j,hj,rfl⟩:=List.mem_iff_getElem.1 hp
  have:i=j:=by
   have:=(List.nodup_iff_pairwise_ne.1 hn)
   have h1:=List.getElem?_eq_getElem (l:=kv.map (·.1)) (i:=i) (by simpa using hi)
   by_cases c:i=j
   ·exact c
   ·exfalso
    have hh:=List.pairwise_iff_getElem.1 this
    rcases Nat.lt_or_gt_of_ne c with c|c
    ·exact hh i j (by simpa using hi) (by simpa using hj) c (by simpa using he)
    ·exact hh j i (by simpa using hj) (by simpa using hi) c (by simpa using he.symm)
  subst this
  simp [List.getElem?_eq_getElem hi]
theorem mGet_no {kv:List (κ×ν)} {k:κ} (h:k∉kv.map (·.1)) (z:ν):mGet kv k z=z:=by
 unfold mGet
 cases e:mIdx kv k with
 |none=>rfl
 |some i=>
  obtain ⟨hi,he⟩:=mIdx_key e
  exact absurd (List.mem_map.2 ⟨kv[i],List.getElem_mem hi,he⟩) h
theorem mGet_set {kv:List (κ×ν)} (hn:(kv.map (·.1)).Nodup) (k:κ) (v:ν) (b:κ) (z:ν):mGet (mSet kv k v) b z=if b=k then v else mGet kv b z:=by
 have hn2:=mSet_nodup hn k v
 by_cases c:b=k
 ·subst c
  rw [if_pos rfl]
  have:(b,v)∈mSet kv b v:=by
   unfold mSet
   cases h:mIdx kv b with
   |some i=>obtain ⟨hi,_⟩:=mIdx_key h;exact List.mem_iff_getElem.2 ⟨i,by simpa using hi,by simp⟩
   |none=>simp
  exact mGet_at hn2 this z
 ·rw [if_neg c]
  by_cases hb:b∈kv.map (·.1)
  ·obtain ⟨p,hp,rfl⟩:=List.mem_map.1 hb
   have:p∈mSet kv k v:=by
    unfold mSet
    cases h:mIdx kv k with
    |some i=>
     obtain ⟨hi,he⟩:=mIdx_key h
     obtain ⟨j,hj,rfl⟩:=List.mem_iff_getElem.1 hp
     refine List.mem_iff_getElem.2 ⟨j,by simpa using hj,?_⟩
     have:¬ i=j:=fun e=>c (by subst e;exact he)
     simp [List.getElem_set,this]
    |none=>exact List.mem_append_left _ hp
   rw [mGet_at hn2 this,mGet_at hn hp]
  ·rw [mGet_no hb,mGet_no fun h=>(mSet_in h).elim hb c]
abbrev KT:=List (T4×Int)
theorem nat_few:∀ (n:Nat) (l:List Nat),l.Nodup→(∀ x∈l,x< n)→l.length≤n
 |0,l,_,h=>by
  cases l with
  |nil=>simp
  |cons x l=>exact absurd (h x List.mem_cons_self) (Nat.not_lt_zero _)
 |n+1,l,hd,h=>by
  have h1:=nat_few n (l.erase n) (hd.erase n) (fun x hx=>by
   have h2:=(hd.mem_erase_iff).1 hx
   have h3:=h x h2.2
   have h4:x≠n:=h2.1
   omega)
  have h2:=List.length_erase (a:=n) (l:=l)
  split at h2<;>omega
theorem mem_get {kv:List (κ×ν)} {k:κ} (h:k∈kv.map (·.1)) (hn:(kv.map (·.1)).Nodup) (z:ν):(k,mGet kv k z)∈kv:=by
 obtain ⟨p,hp,rfl⟩:=List.mem_map.1 h
 rw [mGet_at hn hp]
 exact hp
theorem mSet_has (kv:List (κ×ν)) (k:κ) (v:ν):k∈(mSet kv k v).map (·.1):=by
 unfold mSet
 cases h:mIdx kv k with
 |some i=>
  obtain ⟨hi,he⟩:=mIdx_key h
  exact List.mem_map.2 ⟨(k,v),List.mem_iff_getElem.2 ⟨i,by simpa using hi,by simp⟩,rfl⟩
 |none=>simp
theorem mSet_keep {kv:List (κ×ν)} {k:κ} {v:ν} {x:κ} (h:x∈kv.map (·.1)):x∈(mSet kv k v).map (·.1):=by
 rcases mSet_keys kv k v with e|⟨e,_⟩
 ·rw [e];exact h
 ·rw [e];exact List.mem_append_left _ h
theorem mIdx_in {kv:List (κ×ν)} {k:κ}:(mIdx kv k).isSome=true↔k∈kv.map (·.1):=by
 cases h:mIdx kv k with
 |some i=>
  obtain ⟨hi,he⟩:=mIdx_key h
  exact ⟨fun _=>List.mem_map.2 ⟨kv[i],List.getElem_mem hi,he⟩,fun _=>rfl⟩
 |none=>
  refine ⟨fun g=>(by cases g),fun g=>?_⟩
  obtain ⟨p,hp,e⟩:=List.mem_map.1 g
  exact absurd e.symm (mIdx_no h p hp)
structure Rw (a:List Int) (n:Nat) (kv:KT) (f:Nat→Option Nat):Prop where
 nd:(kv.map (·.1)).Nodup
 el:∀ p∈kv,∃ k v:Nat,k< n∧p=(atT a (k:Int),(v:Int))∧f k=some v
 so:∀ k v:Nat,k< n→f k=some v→(atT a (k:Int),(v:Int))∈kv
theorem Rw.nil {f:Nat→Option Nat} (h:∀ k,k< n→f k=none):Rw a n [] f:=⟨List.nodup_nil,fun p hp=>(by cases hp),fun k v hk hv=>(by rw [h k hk] at hv;cases hv)⟩
theorem Rw.len (h:Se a n T) {kv:KT} {f:Nat→Option Nat} (r:Rw a n kv f):kv.length≤n:=by
 have h1:(kv.map fun p=>(hor a p.1.l).toNat).Nodup:=by
  have hd:=r.nd
  unfold List.Nodup at hd ⊢
  rw [List.pairwise_map] at hd ⊢
  refine hd.imp_of_mem fun {p q} hp hq hne e=>hne ?_
  obtain ⟨j,u,hj,rfl,_⟩:=r.el p hp
  obtain ⟨k,v,hk,rfl,_⟩:=r.el q hq
  have e1:=(of_Mk h (t:=0) hj).2
  have e2:=(of_Mk h (t:=0) hk).2
  unfold kOf Mk at e1 e2
  simp only at e1 e2 e
  rw [e1,e2] at e
  rw [e]
 have h2:=nat_few n _ h1 (fun x hx=>by
  obtain ⟨p,hp,rfl⟩:=List.mem_map.1 hx
  obtain ⟨j,u,hj,rfl,_⟩:=r.el p hp
  have e1:=(of_Mk h (t:=0) hj).2
  unfold kOf Mk at e1
  simp only at e1 ⊢
  omega)
 simpa using h2
theorem Rw.at_some {kv:KT} {f:Nat→Option Nat} (r:Rw a n kv f) {k v:Nat} (hk:k< n) (hv:f k=some v):(mIdx kv (atT a (k:Int))).isSome=true∧mGet kv (atT a (k:Int)) 0=(v:Int):=by
 have hm:=r.so k v hk hv
 exact ⟨mIdx_in.2 (List.mem_map.2 ⟨_,hm,rfl⟩),mGet_at r.nd hm 0⟩
theorem Rw.at_none (h:Se a n T) {kv:KT} {f:Nat→Option Nat} (r:Rw a n kv f) {k:Nat} (hk:k< n) (hv:f k=none):¬ (mIdx kv (atT a (k:Int))).isSome=true:=by
 intro g
 obtain ⟨p,hp,e⟩:=List.mem_map.1 (mIdx_in.1 g)
 obtain ⟨j,u,hj,rfl,hu⟩:=r.el p hp
 have:=atT_inj h hj hk e
 subst this
 rw [hv] at hu
 cases hu
theorem Rw.set (h:Se a n T) {kv:KT} {f:Nat→Option Nat} (r:Rw a n kv f) {k:Nat} (hk:k< n) (w:Nat):Rw a n (mSet kv (atT a (k:Int)) (w:Int)) (fun j=>if j=k then some w else f j):=by
 have hn2:=mSet_nodup r.nd (atT a (k:Int)) (w:Int)
 refine ⟨hn2,fun p hp=>?_,fun j v hj hv=>?_⟩
 ·have hg:=mGet_at hn2 hp 0
  rw [mGet_set r.nd] at hg
  by_cases c:p.1=atT a (k:Int)
  ·rw [if_pos c] at hg
   refine ⟨k,w,hk,?_,by rw [if_pos rfl]⟩
   rw [← c,hg]
  ·rw [if_neg c] at hg
   have hin:=(mSet_in (List.mem_map.2 ⟨p,hp,rfl⟩)).resolve_right c
   have hm:=mem_get hin r.nd 0
   rw [hg] at hm
   obtain ⟨j,v,hj,e,hv⟩:=r.el p hm
   refine ⟨j,v,hj,e,?_⟩
   rw [if_neg (fun g=>c (by rw [e,g]))]
   exact hv
 ·by_cases c:j=k
  ·subst c
   rw [if_pos rfl] at hv
   cases hv
   have hm:=mem_get (mSet_has kv (atT a (j:Int)) (w:Int)) hn2 0
   rw [mGet_set r.nd,if_pos rfl] at hm
   exact hm
  ·rw [if_neg c] at hv
   have hm0:=r.so j v hj hv
   have hm:=mem_get (mSet_keep (k:=atT a (k:Int)) (v:=(w:Int)) (List.mem_map.2 ⟨_,hm0,rfl⟩)) hn2 0
   rw [mGet_set r.nd,if_neg (fun g=>c (atT_inj h hj hk g)),mGet_at r.nd hm0] at hm
   exact hm
theorem Rw.congr {kv:KT} {f g:Nat→Option Nat} (r:Rw a n kv f) (h:∀ k,k< n→f k=g k):Rw a n kv g:=
 ⟨r.nd,fun p hp=>by obtain ⟨k,v,hk,e,hv⟩:=r.el p hp;exact ⟨k,v,hk,e,by rw [← h k hk];exact hv⟩,fun k v hk hv=>r.so k v hk (by rw [h k hk];exact hv)⟩
structure RepM (a:List Int) (n T:Nat) (xs:List (Option KT)) (F:Tb):Prop where
 len:xs.length=T+1
 row:∀ t:Nat,t≤T→∃ kv,rdL xs (t:Int) none=some kv∧Rw a n kv (F t)
theorem RepM.set (h:Se a n T) {xs:List (Option KT)} {F:Tb} (r:RepM a n T xs F) {t k:Nat} (ht:t≤T) (hk:k< n) (w:Nat) {F':Tb} (hF:∀ t2 k2,F' t2 k2=if t2=t∧k2=k then some w else F t2 k2):
 RepM a n T (stL xs (t:Int) (some (mSet ((rdL xs (t:Int) none).getD []) (atT a (k:Int)) (w:Int)))) F':=by
 have hl:=r.len
 refine ⟨by rw [len_stL];exact hl,fun t2 h2=>?_⟩
 rw [rdL_stL]
 by_cases e:t=t2
 ·subst e
  rw [if_pos ⟨rfl,by omega⟩]
  obtain ⟨kv,e1,r1⟩:=r.row t ht
  rw [e1]
  refine ⟨_,rfl,(r1.set h hk w).congr fun j hj=>?_⟩
  rw [hF]
  by_cases c:j=k
  ·rw [if_pos c,if_pos ⟨rfl,c⟩]
  ·rw [if_neg c,if_neg (fun g=>c g.2)]
 ·rw [if_neg (fun g=>e g.1)]
  obtain ⟨kv,e1,r1⟩:=r.row t2 h2
  refine ⟨kv,e1,r1.congr fun j hj=>?_⟩
  rw [hF,if_neg (fun g=>e g.1.symm)]
theorem RepM.congr {xs:List (Option KT)} {F G:Tb} (r:RepM a n T xs F) (h:∀ t k,t≤T→k< n→F t k=G t k):RepM a n T xs G:=
 ⟨r.len,fun t ht=>by obtain ⟨kv,e,r1⟩:=r.row t ht;exact ⟨kv,e,r1.congr fun k hk=>h t k ht hk⟩⟩
theorem mp_step (h:Se a n T) (hN:10< N) {t k s v:Nat} (ht:t≤T) (hk:k< n) (hs:s< 2^a.length) {xs:List (Option KT)} {F:Tb} (r:RepM a n T xs F) (hlow:v≤4*t):
 ∃ xs',Qai.b0 N a (Mk a t k) (T:Int) (v:Int) xs (s:Int)=some (.next ((v:Int),xs',((s+1:Nat):Int)))∧RepM a n T xs' (stp1 N a T F (Mk a t k) v s)∧∀ t2:Nat,t2≤t→rdL xs' (t2:Int) none=rdL xs (t2:Int) none:=by
 have hp:=pow_le h.gl.len
 have hT:=h.t
 have hm:=Mk_ok h ht hk
 obtain ⟨q,_,h2,_,h4,h5,h6,h7⟩:=nxt_ok (N:=N) (s:=s) h.gl hm.2 (by omega) (by omega)
 have e1:i64w ((s:Int)+1)=((s+1:Nat):Int):=i64w_id (by omega) (by omega)
 have hft:(Mk a t k).Qav=(t:Int):=rfl
 have hw:i64w ((t:Int)+(nxt N a (Mk a t k).Qaz s).2)=(t:Int)+(nxt N a (Mk a t k).Qaz s).2:=i64w_id (by omega) (by omega)
 unfold Qai.b0
 rw [if_pos (by rw [sets_all _ h.gl.len,pow_cast];omega),u8w_id (x:=(s:Int)) (by omega) (by omega),h2,Option.bind_some,h4,Option.bind_some,hft,hw]
 unfold stp1 suc Qai.j2
 rw [e1,hft]
 by_cases c0:(nxt N a (Mk a t k).Qaz s).2>0
 ·rw [if_pos c0,if_pos c0]
  by_cases c1:(t:Int)+(nxt N a (Mk a t k).Qaz s).2≤(T:Int)
  ·rw [if_pos c1,if_pos c1]
   have hy:okM a (T:Int) (⟨(t:Int)+(nxt N a (Mk a t k).Qaz s).2,(nxt N a (Mk a t k).Qaz s).1⟩:Mo):=⟨⟨by show (0:Int)≤_+_;omega,by show _+_≤(T:Int);omega⟩,h5⟩
   obtain ⟨y1,y2,y3⟩:=Mk_of h hy
   have hlate:t< tOf (⟨(t:Int)+(nxt N a (Mk a t k).Qaz s).2,(nxt N a (Mk a t k).Qaz s).1⟩:Mo):=by unfold tOf;simp only;omega
   generalize (⟨(t:Int)+(nxt N a (Mk a t k).Qaz s).2,(nxt N a (Mk a t k).Qaz s).1⟩:Mo)=y at hy y1 y2 y3 hlate ⊢
   have f1:y.Qav=((tOf y:Nat):Int):=by have:=hy.1.1;unfold tOf;omega
   have f2:y.Qaz=atT a ((kOf a y:Nat):Int):=by have:=congrArg Qa3.Qaz y3;exact this.symm
   have hl:=r.len
   obtain ⟨kv,k1,k2⟩:=r.row (tOf y) y1
   have hpc:=(pc_all s (by omega)).2.2
   have hc:i64w ((v:Int)+((pc s:Nat):Int))=((v+pc s:Nat):Int):=by
    rw [← Int.natCast_add]
    exact i64w_id (by omega) (by omega)
   have keep:∀ X,∀ t2:Nat,t2≤t→rdL (stL xs ((tOf y:Nat):Int) X) (t2:Int) none=rdL xs (t2:Int) none:=by
    intro X t2 h2
    rw [rdL_stL,if_neg (fun g=>by omega)]
   unfold Qbg.f
   rw [ones_pc (by omega),Option.bind_some,f1,f2,if_pos ⟨by omega,by omega⟩,hc]
   have set1:∀ G:Tb,(∀ t2 k2,G t2 k2=if t2=tOf y∧k2=kOf a y then some (v+pc s) else F t2 k2)→RepM a n T (stL xs ((tOf y:Nat):Int) (some (mSet ((rdL xs ((tOf y:Nat):Int) none).getD []) (atT a ((kOf a y:Nat):Int)) ((v+pc s:Nat):Int)))) G:=fun G hG=>r.set h y1 y2 (v+pc s) hG
   have hsome:(rdL xs ((tOf y:Nat):Int) none).isSome=true:=by rw [k1];rfl
   have hgd:(rdL xs ((tOf y:Nat):Int) none).getD []=kv:=by rw [k1];rfl
   cases e:F (tOf y) (kOf a y) with
   |none=>
    rw [if_neg (by rw [hgd];exact k2.at_none h y2 e),if_pos ⟨by omega,by omega⟩,if_pos hsome,Option.bind_some]
    refine ⟨_,rfl,set1 _ fun t2 k2=>?_,keep _⟩
    dsimp only
    by_cases c:t2=tOf y∧k2=kOf a y
    ·rw [if_pos c,if_pos c,c.1,c.2,e];rfl
    ·rw [if_neg c,if_neg c]
   |some u=>
    obtain ⟨q1,q2⟩:=k2.at_some y2 e
    rw [if_pos (by rw [hgd];exact q1)]
    by_cases cl:((v+pc s:Nat):Int)< (u:Int)
    ·rw [if_pos (by rw [hgd,q2];exact cl),if_pos ⟨by omega,by omega⟩,if_pos hsome,Option.bind_some]
     refine ⟨_,rfl,set1 _ fun t2 k2=>?_,keep _⟩
     dsimp only
     by_cases c:t2=tOf y∧k2=kOf a y
     ·rw [if_pos c,if_pos c,c.1,c.2,e]
      show some (min u (v+pc s))=some (v+pc s)
      rw [Nat.min_eq_right (by omega)]
     ·rw [if_neg c,if_neg c]
    ·rw [if_neg (by rw [hgd,q2];exact cl),Option.bind_some]
     refine ⟨_,rfl,r.congr fun t2 k2 _ _=>?_,fun _ _=>rfl⟩
     dsimp only
     by_cases c:t2=tOf y∧k2=kOf a y
     ·rw [if_pos c,c.1,c.2,e]
      show some u=some (min u (v+pc s))
      rw [Nat.min_eq_left (by omega)]
     ·rw [if_neg c]
  ·rw [if_neg c1,if_neg c1]
   exact ⟨xs,rfl,r,fun _ _=>rfl⟩
 ·rw [if_neg c0,if_neg c0]
  exact ⟨xs,rfl,r,fun _ _=>rfl⟩
theorem mp_sets (h:Se a n T) (hN:20< N) {t k v:Nat} (ht:t≤T) (hk:k< n) {F:Tb} (hlow:v≤4*t):
 ∀ (m s:Nat) (xs:List (Option KT)),s≤2^a.length→2^a.length - s< m→RepM a n T xs (stpS N a T F (Mk a t k) v s)→
 ∃ xs',rounds (fun q=>Qai.b0 N a (Mk a t k) (T:Int) q.1 q.2.1 q.2.2) m ((v:Int),xs,(s:Int))=some (.go ((v:Int),xs'))∧RepM a n T xs' (stpS N a T F (Mk a t k) v (2^a.length))∧∀ t2:Nat,t2≤t→rdL xs' (t2:Int) none=rdL xs (t2:Int) none:=by
 intro m
 induction m with
 |zero=>intro s L _ hm;exact absurd hm (Nat.not_lt_zero _)
 |succ m ih=>
  intro s xs hs hm r
  by_cases c:s< 2^a.length
  ·obtain ⟨L1,g1,g2,g3⟩:=mp_step (N:=N) h (by omega) ht hk c r hlow
   rw [stpS_step] at g2
   obtain ⟨L',f1,f2,f3⟩:=ih (s+1) L1 (by omega) (by omega) g2
   exact ⟨L',(rounds_next (b:=fun q:Int×List (Option KT)×Int=>Qai.b0 N a (Mk a t k) (T:Int) q.1 q.2.1 q.2.2) (s:=((v:Int),xs,(s:Int))) g1).trans f1,f2,fun t2 h2=>(f3 t2 h2).trans (g3 t2 h2)⟩
  ·have:s=2^a.length:=by omega
   subst this
   refine ⟨xs,rounds_out ?_,r,fun _ _=>rfl⟩
   show Qai.b0 N a (Mk a t k) (T:Int) (v:Int) xs ((2^a.length:Nat):Int)=_
   unfold Qai.b0
   rw [if_neg (by rw [sets_all _ h.gl.len,pow_cast];omega)]
theorem mp_events (h:Se a n T) (hN:20< N) {t k v:Nat} (ht:t≤T) (hk:k< n) {F:Tb} (hlow:v≤4*t) {xs:List (Option KT)} (r:RepM a n T xs F):
 ∃ xs',Qai.f N a (Mk a t k) (T:Int) (v:Int) xs=some ((v:Int),xs',xs')∧RepM a n T xs' (stpS N a T F (Mk a t k) v (2^a.length))∧∀ t2:Nat,t2≤t→rdL xs' (t2:Int) none=rdL xs (t2:Int) none:=by
 have hp:=pow_le h.gl.len
 obtain ⟨xs',f1,f2,f3⟩:=mp_sets (N:=N) h hN ht hk (F:=F) hlow N 0 xs (Nat.zero_le _) (by omega) (by rw [stpS_zero];exact r)
 refine ⟨xs',?_,f2,f3⟩
 unfold Qai.f
 rw [if_pos (by omega),show rounds (fun s=>Qai.b0 N a (Mk a t k) (T:Int) s.1 s.2.1 s.2.2) N ((v:Int),xs,0)=_ from f1]
 rfl
structure Lt (a:List Int) (n:Nat) (f:Nat→Option Nat) (don:Nat→Bool) (l:KT):Prop where
 nd:(l.map (·.1)).Nodup
 el:∀ p∈l,∃ k v:Nat,k< n∧p=(atT a (k:Int),(v:Int))∧f k=some v∧don k=false
 so:∀ k v:Nat,k< n→f k=some v→don k=false→(atT a (k:Int),(v:Int))∈l
theorem Rw.lt {kv:KT} {f:Nat→Option Nat} (r:Rw a n kv f):Lt a n f (fun _=>false) kv:=
 ⟨r.nd,fun p hp=>by obtain ⟨k,v,hk,e,hv⟩:=r.el p hp;exact ⟨k,v,hk,e,hv,rfl⟩,fun k v hk hv _=>r.so k v hk hv⟩
theorem Lt.step (h:Se a n T) {f:Nat→Option Nat} {don:Nat→Bool} {l rest:KT} {p:T4×Int} (hl:Lt a n f don l) (hp:l.Perm (p::rest)):
 ∃ k v:Nat,k< n∧p=(atT a (k:Int),(v:Int))∧f k=some v∧don k=false∧Lt a n f (fun j=>don j||(j==k)) rest:=by
 have hk:(l.map (·.1)).Perm (p.1::rest.map (·.1)):=hp.map (·.1)
 have hnd:=(hk.nodup_iff).1 hl.nd
 obtain ⟨hnp,hnr⟩:=List.nodup_cons.1 hnd
 obtain ⟨k,v,k1,e,hv,hd⟩:=hl.el p (hp.mem_iff.2 List.mem_cons_self)
 refine ⟨k,v,k1,e,hv,hd,hnr,fun q hq=>?_,fun j u hj hu hd'=>?_⟩
 ·obtain ⟨j,u,hj,e2,hu,hd2⟩:=hl.el q (hp.mem_iff.2 (List.mem_cons_of_mem _ hq))
  refine ⟨j,u,hj,e2,hu,?_⟩
  have:¬ j=k:=fun g=>hnp (by rw [e,← g];exact List.mem_map.2 ⟨q,hq,by rw [e2]⟩)
  simp [hd2,this]
 ·rw [Bool.or_eq_false_iff] at hd'
  have h1:=hp.mem_iff.1 (hl.so j u hj hu hd'.1)
  rcases List.mem_cons.1 h1 with h2|h2
  ·rw [e] at h2
   have:=atT_inj h hj k1 (congrArg Prod.fst h2)
   simp [this] at hd'
  ·exact h2
theorem walk_time (h:Se a n T) (hN:20< N) {t:Nat} (ht:t≤T) {F:Tb} (hlow:low F) {xs0:List (Option KT)} {kv0:KT} (h0:rdL xs0 (t:Int) none=some kv0) {Kf:Ex (List (Option KT)) (List (Option KT))→Prop}
 (hK:∀ xs,RepM a n T xs (Fd N a n T F t tt)→Kf (.go xs)):
 ∀ (m:Nat) (xs:List (Option KT)) (l:KT) (don:Nat→Bool),l.length< m→RepM a n T xs (Fd N a n T F t don)→rdL xs (t:Int) none=some kv0→Lt a n (F t) don l→
 roundsD (fun s:List (Option KT)×KT=>Qan.b4 N (t:Int) xs0 a (T:Int) s.1 s.2) m (xs,l) Kf:=by
 intro m
 induction m with
 |zero=>intro xs l don hm;exact absurd hm (Nat.not_lt_zero _)
 |succ m ih=>
  intro xs l don hm r hx hl
  show Qan.b4 N (t:Int) xs0 a (T:Int) xs l _
  unfold Qan.b4
  refine ⟨by rw [hx,h0];rfl,fun e=>?_,fun p rest hp=>?_⟩
  ·show Kf (.go xs)
   refine hK xs (r.congr fun t2 k2 _ _=>?_)
   unfold Fd
   rw [Om_all (don:=don) fun i hi hd=>?_]
   unfold give
   cases e2:F t i with
   |none=>rfl
   |some v=>
    have:=hl.so i v hi e2 hd
    rw [e] at this
    cases this
  ·obtain ⟨k,v,hk,rfl,hv,hd,hl'⟩:=hl.step h hp
   have hlen:=hp.length_eq
   simp only [List.length_cons] at hlen
   obtain ⟨xs',g1,g2,g3⟩:=mp_events (N:=N) h hN ht hk (hlow t k v hv) r
   refine ⟨_,g1,?_⟩
   show roundsD _ m (xs',rest) Kf
   rw [← Fd_more hk hd hv] at g2
   exact ih xs' rest _ (by omega) g2 ((g3 t (Nat.le_refl _)).trans hx) hl'
theorem b2_time (h:Se a n T) (hN:4000< N) {c:T4} {t:Nat} (ht:t< T) {xs:List (Option KT)} (r:RepM a n T xs (Gt N a n T c t)) {Q:Bd (List (Option KT)) (List (Option KT)) (List (Option KT)×Int)→Prop}
 (hQ:∀ xs',RepM a n T xs' (Gt N a n T c (t+1))→Q (.next (xs',((t+1:Nat):Int)))):Qan.b2 N (T:Int) a xs (t:Int) Q:=by
 have hT:=h.t
 have hl:=r.len
 obtain ⟨kv,k1,k2⟩:=r.row t (by omega)
 have hn:=h.n3
 have hlen:=k2.len h
 have hlt:=k2.lt
 unfold Qan.b2
 rw [if_pos (by omega),if_pos ⟨by omega,by omega⟩,if_pos (by rw [k1];rfl)]
 have z:Fd N a n T (Gt N a n T c t) t (fun _=>false)=Gt N a n T c t:=by
  funext t2 k2
  unfold Fd
  rw [Om_no,om_none]
 have e0:(rdL xs (t:Int) none).getD []=kv:=by rw [k1];rfl
 rw [e0]
 refine walk_time (N:=N) h (by omega) (show t≤T by omega) (Gt_low h.gl.len t) k1 ?_ N xs kv (fun _=>false) (by omega) (by rw [z];exact r) k1 hlt
 intro xs' r'
 show Q (.next (xs',i64w ((t:Int)+1)))
 have e1:i64w ((t:Int)+1)=((t+1:Nat):Int):=i64w_id (by omega) (by omega)
 rw [e1]
 exact hQ xs' r'
theorem walk_times (h:Se a n T) (hN:4000< N) {c:T4} {Kf:Ex (List (Option KT)) (List (Option KT))→Prop} (hK:∀ xs,RepM a n T xs (Gt N a n T c T)→Kf (.go xs)):
 ∀ (m t:Nat) (xs:List (Option KT)),t≤T→T - t< m→RepM a n T xs (Gt N a n T c t)→roundsD (fun s:List (Option KT)×Int=>Qan.b2 N (T:Int) a s.1 s.2) m (xs,(t:Int)) Kf:=by
 intro m
 induction m with
 |zero=>intro t xs _ hm;exact absurd hm (Nat.not_lt_zero _)
 |succ m ih=>
  intro t xs ht hm r
  by_cases c1:t< T
  ·exact b2_time h hN c1 r fun xs' r'=>ih (t+1) xs' (by omega) (by omega) r'
  ·have:t=T:=by omega
   subst this
   show Qan.b2 N (t:Int) a xs (t:Int) _
   have e:∀ Q,Q (.out (.go xs))→Qan.b2 N (t:Int) a xs (t:Int) Q:=by
    intro Q hQ
    unfold Qan.b2
    rw [if_neg (by omega)]
    exact hQ
   exact e _ (hK xs r)
theorem b0_make (h:Se a n T) {t:Nat} (ht:t< T+1) {xs:List (Option KT)} (hl:xs.length=T+1) {Q:Bd (List (Option KT)) (List (Option KT)) (List (Option KT)×Int)→Prop} (hQ:Q (.next (stL xs (t:Int) (some []),((t+1:Nat):Int)))):Qan.b0 N (T:Int) xs (t:Int) Q:=by
 have hT:=h.t
 have eT:i64w ((T:Int)+1)=((T+1:Nat):Int):=i64w_id (by omega) (by omega)
 have e1:i64w ((t:Int)+1)=((t+1:Nat):Int):=i64w_id (by omega) (by omega)
 unfold Qan.b0
 rw [eT,Int.toNat_natCast,List.length_replicate,if_pos (by omega),if_pos ⟨by omega,by omega⟩,e1]
 exact hQ
theorem walk_make (h:Se a n T) {Kf:Ex (List (Option KT)) (List (Option KT))→Prop} (hK:∀ xs,RepM a n T xs (fun _ _=>none)→Kf (.go xs)):
 ∀ (m t:Nat) (xs:List (Option KT)),t≤T+1→T+1 - t< m→xs.length=T+1→(∀ t2:Nat,t2< t→rdL xs (t2:Int) none=some [])→roundsD (fun s:List (Option KT)×Int=>Qan.b0 N (T:Int) s.1 s.2) m (xs,(t:Int)) Kf:=by
 intro m
 induction m with
 |zero=>intro t xs _ hm;exact absurd hm (Nat.not_lt_zero _)
 |succ m ih=>
  intro t xs ht hm hl hv
  show Qan.b0 N (T:Int) xs (t:Int) _
  by_cases c:t< T+1
  ·refine b0_make h c hl (ih (t+1) _ (by omega) (by omega) (by rw [len_stL];exact hl) fun t2 h2=>?_)
   rw [rdL_stL]
   by_cases e:t=t2
   ·rw [if_pos ⟨e,by omega⟩]
   ·rw [if_neg (fun g=>e g.1)];exact hv t2 (by omega)
  ·have e:∀ Q,Q (.out (.go xs))→Qan.b0 N (T:Int) xs (t:Int) Q:=by
    intro Q hQ
    have hT:=h.t
    have eT:i64w ((T:Int)+1)=((T+1:Nat):Int):=i64w_id (by omega) (by omega)
    unfold Qan.b0
    rw [eT,Int.toNat_natCast,List.length_replicate,if_neg (by omega)]
    exact hQ
   exact e _ (hK xs ⟨hl,fun t2 h2=>⟨[],hv t2 (by omega),Rw.nil fun _ _=>rfl⟩⟩)
theorem turns_all (h:Se a n T) (hN:4000< N) {c:T4} (hf:fits a c) {Q:List (Option KT)→Prop} (hQ:∀ xs,RepM a n T xs (Gt N a n T c T)→Q xs):Qan.f N a c (T:Int) Q:=by
 have hT:=h.t
 have eT:i64w ((T:Int)+1)=((T+1:Nat):Int):=i64w_id (by omega) (by omega)
 unfold Qan.f
 rw [eT,if_pos ⟨by omega,by omega⟩,Int.toNat_natCast]
 refine walk_make (N:=N) h ?_ N 0 (List.replicate (T+1) none) (Nat.zero_le _) (by omega) (by simp) (fun t2 h2=>absurd h2 (Nat.not_lt_zero _))
 intro xs r
 show Qan.a0 N (T:Int) a c xs Q
 have hl:=r.len
 obtain ⟨kv,k1,k2⟩:=r.row 0 (Nat.zero_le _)
 obtain ⟨x0,x1⟩:=hor_range h.gl.ok (fits_in h.gl.len hf)
 have hk:(hor a c.l).toNat< n:=by have:=h.n_eq;omega
 have ek:c=atT a (((hor a c.l).toNat:Nat):Int):=by rw [Int.toNat_of_nonneg x0,atT_hor h.gl.len h.gl.ok hf]
 unfold Qan.a0
 rw [if_pos ⟨by omega,by omega⟩,if_pos (by rw [show rdL xs 0 none=some kv from k1];rfl)]
 refine walk_times (N:=N) (c:=c) h hN hQ N 0 _ (Nat.zero_le _) (by omega) ?_
 have r1:=r.set h (Nat.zero_le _) hk 0 (F':=Gt N a n T c 0) fun t2 k2=>rfl
 rw [← ek] at r1
 exact r1
theorem row_least {L:List Int} {f:Nat→Option Nat} (hl:L.length=n) (hn:n≤3000) (hv:∀ k:Nat,k< n→rdL L (k:Int) 0=vi (f k)):
 ∀ (m k:Nat),k≤n→n - k< m→rounds (fun q=>QaK.b0 N L q.1 q.2) m (vi (Om tt f k),(k:Int))=some (.go (vi (Om tt f n))):=by
 intro m
 induction m with
 |zero=>intro k _ hm;exact absurd hm (Nat.not_lt_zero _)
 |succ m ih=>
  intro k hk hm
  by_cases c:k< n
  ·have e1:i64w ((k:Int)+1)=((k+1:Nat):Int):=i64w_id (by omega) (by omega)
   rw [rounds_next (s':=(vi (Om tt f (k+1)),((k+1:Nat):Int)))]
   ·exact ih (k+1) (by omega) (by omega)
   ·show QaK.b0 N L (vi (Om tt f k)) (k:Int)=_
    unfold QaK.b0 QaK.j2
    rw [if_pos (by omega),if_pos ⟨by omega,by omega⟩,hv k c,e1,Om_step]
    cases e:f k with
    |none=>rw [if_neg (show ¬ vi none≥0 by decide),om_none]
    |some v=>
     rw [if_pos (show vi (some v)≥0 by simp only [vi];omega)]
     cases e2:Om tt f k with
     |none=>rw [if_pos (show vi none< 0 by decide),if_pos ⟨by omega,by omega⟩];rfl
     |some u=>
      rw [if_neg (show ¬ vi (some u)< 0 by simp only [vi];omega),if_pos ⟨by omega,by omega⟩]
      by_cases cl:vi (some v)< vi (some u)
      ·rw [if_pos cl,if_pos ⟨by omega,by omega⟩]
       simp only [vi] at cl
       show some (Bd.next ((v:Int),_))=some (.next (((min u v:Nat):Int),_))
       rw [Nat.min_eq_right (by omega)]
      ·rw [if_neg cl]
       simp only [vi] at cl
       show some (Bd.next ((u:Int),_))=some (.next (((min u v:Nat):Int),_))
       rw [Nat.min_eq_left (by omega)]
  ·have:k=n:=by omega
   subst this
   refine rounds_out ?_
   show QaK.b0 N L _ (k:Int)=_
   unfold QaK.b0
   rw [if_neg (by omega)]
theorem least_row (h:Se a n T) (hN:4000< N) {L:List (List Int)} {F:Tb} (r:RepT n T L F) {t:Nat} (ht:t≤T):QaK.f N (rdL L (t:Int) [])=some (vi (Om tt (F t) n)):=by
 have g:=row_least (N:=N) (r.row t ht) h.n3 (r.val t ht) N 0 (Nat.zero_le _) (by have:=h.n3;omega)
 unfold QaK.f
 rw [show rounds (fun s=>QaK.b0 N (rdL L (t:Int) []) s.1 s.2) N (-1,0)=_ from g]
 rfl
def pr (n:Nat) (F:Tb) (t:Nat):Bool:=(Om tt (F t) n).isSome
def tms (n:Nat) (F:Tb) (can:Bool):Nat→List Int
 |0=>[]
 |k+1=>tms n F can k++(if pr n F k=can then [(k:Int)] else [])
theorem tms_len {n:Nat} {F:Tb} {can:Bool}:∀ k,(tms n F can k).length≤k
 |0=>Nat.le_refl _
 |k+1=>by
  have:=tms_len (n:=n) (F:=F) (can:=can) k
  simp only [tms,List.length_append]
  split<;>simp<;>omega
theorem om_some {x y:Option Nat}:(om x y).isSome=(x.isSome||y.isSome):=by cases x<;>cases y<;>rfl
theorem Om_some {f:Nat→Option Nat}:∀ {m:Nat},(Om tt f m).isSome=true↔∃ k,k< m∧(f k).isSome=true
 |0=>⟨fun h=>(by cases h),fun ⟨k,h,_⟩=>absurd h (Nat.not_lt_zero _)⟩
 |m+1=>by
  rw [Om_step,om_some,Bool.or_eq_true,Om_some (m:=m)]
  constructor
  ·rintro (⟨k,h,e⟩|e)
   ·exact ⟨k,by omega,e⟩
   ·exact ⟨m,by omega,e⟩
  ·rintro ⟨k,h,e⟩
   by_cases c:k=m
   ·subst c;exact .inr e
   ·exact .inl ⟨k,by omega,e⟩
theorem Qcx (h:Se a n T) (hN:4000< N) {L:List (List Int)} {F:Tb} (r:RepT n T L F) (can:Bool):
 ∀ (m t:Nat),t≤T+1→T+1 - t< m→rounds (fun q=>QaN.b0 N (T:Int) L can q.1 q.2) m (tms n F can t,(t:Int))=some (.go (tms n F can (T+1))):=by
 have hT:=h.t
 have hl:=r.len
 intro m
 induction m with
 |zero=>intro t _ hm;exact absurd hm (Nat.not_lt_zero _)
 |succ m ih=>
  intro t ht hm
  by_cases c:t≤T
  ·have e1:i64w ((t:Int)+1)=((t+1:Nat):Int):=i64w_id (by omega) (by omega)
   rw [rounds_next (s':=(tms n F can (t+1),((t+1:Nat):Int)))]
   ·exact ih (t+1) (by omega) (by omega)
   ·show QaN.b0 N (T:Int) L can (tms n F can t) (t:Int)=_
    unfold QaN.b0 QaN.j2
    rw [if_pos (by omega),if_pos ⟨by omega,by omega⟩,least_row (N:=N) h hN r c,Option.bind_some,e1]
    have hp:decide (vi (Om tt (F t) n)≥0)=pr n F t:=by
     unfold pr
     cases Om tt (F t) n with
     |none=>rfl
     |some v=>simp [vi]
    rw [hp]
    have hlen:=tms_len (n:=n) (F:=F) (can:=can) t
    by_cases e:pr n F t=can
    ·rw [if_pos e,if_pos (by simp;omega)]
     simp only [tms,if_pos e]
    ·rw [if_neg e]
     simp only [tms,if_neg e,List.append_nil]
  ·have:t=T+1:=by omega
   subst this
   refine rounds_out ?_
   show QaN.b0 N (T:Int) L can _ ((T+1:Nat):Int)=_
   unfold QaN.b0
   rw [if_neg (by omega)]
theorem Rw.pr {kv:KT} {F:Tb} {t:Nat} (r:Rw a n kv (F t)):decide ((kv.length:Int)>0)=pr n F t:=by
 unfold Go.Proofs.YtgoninfjneepfaaGreatDoorX.pr
 rw [Bool.eq_iff_iff,decide_eq_true_eq,Om_some]
 constructor
 ·intro g
  obtain ⟨p,l,rfl⟩:∃ p l,kv=p::l:=by
   cases kv with
   |nil=>simp at g
   |cons p l=>exact ⟨p,l,rfl⟩
  obtain ⟨k,v,hk,_,hv⟩:=r.el p List.mem_cons_self
  exact ⟨k,hk,by rw [hv];rfl⟩
 ·rintro ⟨k,hk,e⟩
  obtain ⟨v,hv⟩:=Option.isSome_iff_exists.1 e
  have:=List.length_pos_of_mem (r.so k v hk hv)
  omega
theorem bt_step (h:Se a n T) {xs:List (Option KT)} {F:Tb} (r:RepM a n T xs F) (can:Bool) {t:Nat} (ht:t≤T) {Q:Bd (List Int) (List Int) (List Int×Int)→Prop} (hQ:Q (.next (tms n F can (t+1),((t+1:Nat):Int)))):
 Qau.b0 N xs can (tms n F can t) (t:Int) Q:=by
 have hT:=h.t
 have hl:=r.len
 have e1:i64w ((t:Int)+1)=((t+1:Nat):Int):=i64w_id (by omega) (by omega)
 obtain ⟨kv,k1,k2⟩:=r.row t ht
 have hlen:=tms_len (n:=n) (F:=F) (can:=can) t
 unfold Qau.b0 Qau.j2
 rw [if_pos (by omega),if_pos ⟨by omega,by omega⟩,show (rdL xs (t:Int) none).getD []=kv by rw [k1];rfl,k2.pr,e1]
 by_cases e:pr n F t=can
 ·rw [if_pos e,if_pos (by simp;omega)]
  simp only [tms,if_pos e] at hQ
  exact hQ
 ·rw [if_neg e]
  simp only [tms,if_neg e,List.append_nil] at hQ
  exact hQ
theorem walk_tms (h:Se a n T) {xs:List (Option KT)} {F:Tb} (r:RepM a n T xs F) (can:Bool) {Kf:Ex (List Int) (List Int)→Prop} (hK:Kf (.go (tms n F can (T+1)))):
 ∀ (m t:Nat),t≤T+1→T+1 - t< m→roundsD (fun s:List Int×Int=>Qau.b0 N xs can s.1 s.2) m (tms n F can t,(t:Int)) Kf:=by
 have hl:=r.len
 intro m
 induction m with
 |zero=>intro t _ hm;exact absurd hm (Nat.not_lt_zero _)
 |succ m ih=>
  intro t ht hm
  show Qau.b0 N xs can (tms n F can t) (t:Int) _
  by_cases c:t≤T
  ·exact bt_step h r can c (ih (t+1) (by omega) (by omega))
  ·have e:∀ Q,Q (.out (.go (tms n F can t)))→Qau.b0 N xs can (tms n F can t) (t:Int) Q:=by
    intro Q hQ
    unfold Qau.b0
    rw [if_neg (by omega)]
    exact hQ
   have:t=T+1:=by omega
   subst this
   exact e _ hK
theorem times_all (h:Se a n T) (hN:4000< N) {c:T4} (hf:fits a c) (can:Bool) {Q:List Int→Prop} (hQ:Q (tms n (Gt N a n T c T) can (T+1))):Qau.f N a c (T:Int) can Q:=by
 have hT:=h.t
 unfold Qau.f
 refine turns_all h hN hf fun xs r=>?_
 exact walk_tms (N:=N) h r can (Kf:=Ex.finD (fun s=>Qau.a0 N s Q) Q) hQ N 0 (Nat.zero_le _) (by omega)
theorem pr_zero (h:Se a n T) {c:T4} (hf:fits a c):∀ t1,pr n (Gt N a n T c t1) 0=true:=by
 obtain ⟨x0,x1⟩:=hor_range h.gl.ok (fits_in h.gl.len hf)
 have hk:(hor a c.l).toNat< n:=by have:=h.n_eq;omega
 have main:∀ t1,Gt N a n T c t1 0 (hor a c.l).toNat=some 0:=by
  intro t1
  induction t1 with
  |zero=>simp [Gt]
  |succ t1 ih=>
   show Fd N a n T (Gt N a n T c t1) t1 tt 0 _=_
   rw [Fd_now (Nat.zero_le _)]
   exact ih
 intro t1
 exact Om_some.2 ⟨_,hk,by rw [main];rfl⟩
theorem at_in {N:Nat} {a:List Int} (h:∀ x∈a,0≤x∧x≤255) (i:Nat) (n:Int) (hn:1≤n):∃ v,QbI.f N a (i:Int) n=some v∧0≤v∧v< n:=by
 unfold QbI.f
 by_cases c:(i:Int)≥(a.length:Int)
 ·rw [if_pos c];exact ⟨0,rfl,Int.le_refl _,by omega⟩
 ·have hi:i< a.length:=by omega
  have hx:=h _ (List.getElem_mem hi)
  rw [if_neg c,if_neg (by omega),if_pos ⟨by omega,by omega⟩,if_pos (show ¬ n=0 by omega),rdL_nat hi,i64w_id (by omega) (by omega)]
  exact ⟨_,rfl,Int.tmod_nonneg _ hx.1,Int.tmod_lt_of_pos _ (by omega)⟩
theorem roundsD_for {ρ ε σ:Type} {b:σ→(Bd ρ ε σ→Prop)→Prop} {K:Ex ρ ε→Prop} {e:Ex ρ ε} (mk:Nat→σ) (n:Nat) (h1:∀ i,i< n→∀ Q:Bd ρ ε σ→Prop,Q (.next (mk (i+1)))→b (mk i) Q) (h2:∀ Q:Bd ρ ε σ→Prop,Q (.out e)→b (mk n) Q) (hK:K e):
 ∀ (N k:Nat),k≤n→n - k< N→roundsD b N (mk k) K
 |0,k,_,h=>absurd h (Nat.not_lt_zero _)
 |N+1,k,hk,hN=>by
  show b (mk k) _
  by_cases c:k=n
  ·subst c;exact h2 _ hK
  ·exact h1 k (by omega) _ (roundsD_for mk n h1 h2 hK N (k+1) (by omega) (by omega))
theorem rounds_go {ρ:Type} {b:Int→Option (Bd ρ Unit Int)} {n N:Nat} (hN:n< N) (h1:∀ i:Nat,i< n→b (i:Int)=some (.next ((i+1:Nat):Int))) (h2:b (n:Int)=some (.out (.go ()))):rounds b N 0=some (.go ()):=
 rounds_for (b:=b) (e:= .go ()) (fun k=>(k:Int)) n 0 N (Nat.zero_le _) (by omega) (fun i _ hi=>h1 i hi) h2
theorem same_eq {N:Nat} {l:List Int} (hl:l.length≤1000) (hN:2000< N):QbH.f N l l=some true:=by
 have q:rounds (fun s=>Qa4.b0 N l l s) N 0=some (.go ()):=rounds_go (n:=l.length) (by omega) (by
  intro i hi
  have hnx:i64w ((i:Int)+1)=((i+1:Nat):Int):=i64w_succ hi (by omega)
  simp only [Qa4.b0,if_pos (show (i:Int)< (l.length:Int) by omega),if_pos (show (0:Int)≤(i:Int)∧(i:Int)< (l.length:Int) by omega),if_true,hnx]) (by
  simp only [Qa4.b0]
  rw [if_neg (by omega)])
 simp only [QbH.f,Qa4.f,if_true,q,Option.bind_some,Ex.fin,Qa4.a0]
theorem has_not {N:Nat} {l:List Int} {x:Int} (hl:l.length≤1000) (hN:2000< N) (hx:x∉l):Qa6.f N l x=some false:=by
 have q:rounds (fun s=>Qa6.b0 N l x s) N 0=some (.go ()):=rounds_go (n:=l.length) (by omega) (by
  intro i hi
  have hnx:i64w ((i:Int)+1)=((i+1:Nat):Int):=i64w_succ hi (by omega)
  have hne:¬ l[i]=x:=fun e=>hx (e▸List.getElem_mem hi)
  simp only [Qa6.b0,if_pos (show (i:Int)< (l.length:Int) by omega),if_pos (show (0:Int)≤(i:Int)∧(i:Int)< (l.length:Int) by omega),rdL_nat hi,if_neg hne,hnx]) (by
  simp only [Qa6.b0]
  rw [if_neg (by omega)])
 simp only [Qa6.f,q,Option.bind_some,Ex.fin,Qa6.a0]
theorem turn_impl {N:Nat} {a:List Int} {c r:T4} {x:Int} (hb:∀ x∈a,-32768≤x∧x≤32767) (hk:okT a c) (h0:0≤x) (h1:x< 2^a.length) (h2:x≤255) (hN:10< N) (hr:Qao.f N a c x=some r):Qbf.f N a c x=some (r,0):=by
 have hl:=(okT_len hk).2.1
 have hs:Qba.f N a x=some true:=by rw [isSet_eq hl h0 h2,decide_eq_true h1]
 simp only [Qbf.f,valid_tops hb hk hN,Option.bind_some,if_true,hs,hr]
theorem turn_spec {N:Nat} {a:List Int} {c r:T4} {x:Int} (hb:∀ x∈a,-32768≤x∧x≤32767) (hk:okT a c) (h0:0≤x) (h1:x< 2^a.length) (h2:x≤255) (hN:10< N) (hr:QaI.f N a c x=some r):Qbo.f N a c x=some (r,0):=by
 have hl:=(okT_len hk).2.1
 simp only [Qbo.f,ok_tops hb hk hN,Option.bind_some,if_true,sets_eq hl,i64w_id (x:=x) (by omega) (by omega),hr]
 rw [if_neg (by omega)]
section
variable {a:List Int} {n T N:Nat}
theorem om_or {x y:Option Nat} {v:Nat} (h:om x y=some v):x=some v∨y=some v:=by
 cases x with
 |none=>right;rwa [om_comm,om_none] at h
 |some p=>
  cases y with
  |none=>left;rwa [om_none] at h
  |some q=>
   have h:min p q=v:=QsJ h
   rcases Nat.le_total p q with g|g
   ·left;rw [Nat.min_eq_left g] at h;rw [h]
   ·right;rw [Nat.min_eq_right g] at h;rw [h]
theorem Om_at {c:Nat→Option Nat}:∀ {m v:Nat},Om tt c m=some v→∃ t,t< m∧c t=some v
 |0,v,h=>by cases h
 |m+1,v,h=>by
  rw [Om_step] at h
  rcases om_or h with h|h
  ·obtain ⟨t,h1,h2⟩:=Om_at h;exact ⟨t,by omega,h2⟩
  ·exact ⟨m,by omega,h⟩
def dv (r:Int) (y:Mo):Prop:=r∣y.Qav∧∀ j,j< 4→r∣y.Qaz.l.getD j 0
theorem dv_next (G:Gl a) {r:Int} (ha:∀ j,j< 4→r∣a.getD j 0) {x y:Mo} (hf:fits a x.Qaz) (hx:dv r x) {s:Nat} (hs:s≤255) (hN:5< N) (h:suc N a (T:Int) x s=some y):dv r y:=by
 obtain ⟨t,q1,_,q3,q4⟩:=turn_pt (N:=N) (x:=(s:Int)) G.ok G.len hf (by omega) (by omega) hN
 obtain ⟨w,g1,_,g3,g4,g5,g6,g7,g8⟩:=wait_pt (N:=N) G.ok q3 hN
 have e:nxt N a x.Qaz s=w:=by unfold nxt;rw [q1];simp only [g1];rfl
 have dt:∀ j,j< 4→r∣t.l.getD j 0:=by
  intro j hj
  rw [q4 j hj]
  split
  ·exact Int.dvd_sub (ha j hj) (hx.2 j hj)
  ·exact hx.2 j hj
 have dw:r∣w.2:=by
  rcases g8 with h|⟨j,hj,h⟩
  ·rw [h];exact Int.dvd_zero r
  ·rw [← h];exact dt j hj
 unfold suc at h
 rw [e] at h
 split at h
 ·split at h
  ·cases h
   refine ⟨Int.dvd_add hx.1 dw,fun j hj=>?_⟩
   dsimp only
   rw [g6 j hj]
   split
   ·exact Int.dvd_zero r
   ·exact Int.dvd_sub (dt j hj) dw
  ·cases h
 ·cases h
theorem cd_dv (h:Se a n T) {r:Int} (ha:∀ j,j< 4→r∣a.getD j 0) {t1 i v:Nat} (ht:t1≤T) (hi:i< n) (hd:dv r (Mk a t1 i)) (hN:5< N) {t k:Nat}:∀ m,m≤16→∀ w,cd N a T (Mk a t1 i) v t k m=some w→dv r (Mk a t k):=by
 intro m
 induction m with
 |zero=>intro _ w hw;cases hw
 |succ m ih=>
  intro hm w hw
  rw [cd] at hw
  rcases om_or hw with hw|hw
  ·exact ih (by omega) w hw
  ·have hok:=Mk_ok h ht hi
   cases e:suc N a (T:Int) (Mk a t1 i) m with
   |none=>rw [e] at hw;cases hw
   |some y=>
    rw [e] at hw
    simp only at hw
    split at hw
    ·rename_i hc
     obtain ⟨rfl,rfl⟩:=hc
     have hy:=suc_ok h.gl hok (by omega) hN e
     rw [(Mk_of h hy).2.2]
     exact dv_next h.gl ha hok.2 hd (by omega) hN e
    ·cases hw
theorem Gt_dv (h:Se a n T) (hN:5< N) {r:Int} (ha:∀ j,j< 4→r∣a.getD j 0) {c:T4} (hf:fits a c) (hc:∀ j,j< 4→r∣c.l.getD j 0):∀ t1,t1≤T+1→∀ t k v,Gt N a n T c t1 t k=some v→dv r (Mk a t k):=by
 intro t1
 induction t1 with
 |zero=>
  intro _ t k v hv
  simp only [Gt] at hv
  split at hv
  ·rename_i hh
   obtain ⟨rfl,rfl⟩:=hh
   obtain ⟨x0,x1⟩:=hor_range h.gl.ok (fits_in h.gl.len hf)
   refine ⟨Int.dvd_zero r,?_⟩
   have e:(Mk a 0 (hor a c.l).toNat).Qaz=c:=by
    show atT a (((hor a c.l).toNat:Nat):Int)=c
    rw [Int.toNat_of_nonneg x0]
    exact atT_hor h.gl.len h.gl.ok hf
   rw [e]
   exact hc
  ·cases hv
 |succ t1 ih=>
  intro ht t k v hv
  have hv:om (Gt N a n T c t1 t k) (Om tt (give N a T (Gt N a n T c t1) t1 t k) n)=some v:=hv
  rcases om_or hv with hv|hv
  ·exact ih (by omega) t k v hv
  ·obtain ⟨i,hi,hg⟩:=Om_at hv
   unfold give at hg
   cases e:Gt N a n T c t1 t1 i with
   |none=>rw [e] at hg;cases hg
   |some u=>
    rw [e] at hg
    exact cd_dv h ha (by omega) hi (ih (by omega) t1 i u e) hN _ (pow_le h.gl.len).1 v hg
theorem pr_dv (h:Se a n T) (hN:5< N) {r:Int} (ha:∀ j,j< 4→r∣a.getD j 0) {c:T4} (hf:fits a c) (hc:∀ j,j< 4→r∣c.l.getD j 0) {t:Nat} (hp:pr n (Gt N a n T c T) t=true):r∣(t:Int):=by
 obtain ⟨k,hk,hs⟩:=Om_some.1 hp
 obtain ⟨v,hv⟩:=Option.isSome_iff_exists.1 hs
 exact (Gt_dv h hN ha hf hc T (by omega) t k v hv).1
theorem tms_mem {F:Tb} {can:Bool} {x:Int}:∀ {k:Nat},x∈tms n F can k→∃ t:Nat,t< k∧x=(t:Int)∧pr n F t=can
 |0,h=>by cases h
 |k+1,h=>by
  simp only [tms,List.mem_append] at h
  rcases h with h|h
  ·obtain ⟨t,h1,h2⟩:=tms_mem h;exact ⟨t,by omega,h2⟩
  ·split at h
   ·rename_i hp
    rw [List.mem_singleton] at h
    exact ⟨k,by omega,h,hp⟩
   ·cases h
theorem tms_both {F:Tb}:∀ k,(tms n F true k).length+(tms n F false k).length=k
 |0=>rfl
 |k+1=>by
  have:=tms_both (F:=F) k
  simp only [tms,List.length_append]
  cases pr n F k<;>simp<;>omega
theorem tms_first {F:Tb} (h:pr n F 0=true):∀ k,∃ l,tms n F true (k+1)=0::l
 |0=>⟨[],by simp [tms,h]⟩
 |k+1=>by
  obtain ⟨l,hl⟩:=tms_first h k
  have:tms n F true (k+1+1)=tms n F true (k+1)++(if pr n F (k+1)=true then [((k+1:Nat):Int)] else []):=rfl
  rw [this,hl]
  exact ⟨_,rfl⟩
theorem tms_up {F:Tb} {can:Bool}:∀ k,(tms n F can k).Pairwise (· < ·)
 |0=>List.Pairwise.nil
 |k+1=>by
  simp only [tms]
  rw [List.pairwise_append]
  refine ⟨tms_up k,by split<;>simp,fun x hx y hy=>?_⟩
  obtain ⟨t,ht,rfl,_⟩:=tms_mem hx
  split at hy
  ·rw [List.mem_singleton] at hy;subst hy;omega
  ·cases hy
end
theorem times_part {N:Nat} {a:List Int} {c:T4} {a3:List Int} (hb:∀ x∈a,-32768≤x∧x≤32767) (hk:okT a c) (h3:∀ x∈a3,0≤x∧x≤255) (hN:5000< N):Qam.j2 N a3 (a,c) (fun r=>r=true):=by
 obtain ⟨l1,l4,ho⟩:=okT_len hk
 obtain ⟨most,e1,m0,m1⟩:=at_in (N:=N) h3 1 24 (by decide)
 obtain ⟨r,e2,r1,rd⟩:=step_eq (N:=N) hb hk (by omega)
 obtain ⟨n,T,hn,hT,hse⟩:=okT_se hk m0 (show most≤120 by omega)
 subst hT
 have hTT:T< 24:=by omega
 obtain ⟨L,g1,g2⟩:=table_eq (N:=N) hse (by omega) hk.2 (by rw [states_eq hb (by omega),hn])
 have hst:QaN.f N a c 0 (T:Int) true=some (tms n (Gt N a n T c T) true (T+1)):=by
  unfold QaN.f
  rw [g1,Option.bind_some]
  have g:=Qcx (N:=N) hse (by omega) g2 true N 0 (Nat.zero_le _) (by omega)
  rw [show rounds (fun s=>QaN.b0 N (T:Int) L true s.1 s.2) N (([]:List Int),0)=_ from g]
  rfl
 have hac:askedC a c (T:Int)=0:=by unfold askedC;rw [if_pos hk,if_pos ⟨by omega,by omega⟩]
 have hi:Qbk.f N a c (T:Int)=some 0:=by rw [asked_impl hb (by omega) (by omega),hac]
 have hs:Qbv.f N a c (T:Int)=some (tms n (Gt N a n T c T) true (T+1),0):=by
  unfold Qbv.f
  rw [asked_spec hb (by omega),Option.bind_some,hac,if_pos rfl,hst,Option.bind_some]
 have lt:=tms_len (n:=n) (F:=Gt N a n T c T) (can:=true) (T+1)
 have lf:=tms_len (n:=n) (F:=Gt N a n T c T) (can:=false) (T+1)
 have lb:=tms_both (n:=n) (F:=Gt N a n T c T) (T+1)
 obtain ⟨l0,hl0⟩:=tms_first (n:=n) (F:=Gt N a n T c T) (pr_zero hse hk.2 T) T
 have hup:=tms_up (n:=n) (F:=Gt N a n T c T) (can:=true) (T+1)
 have hmem:∀ x∈tms n (Gt N a n T c T) true (T+1),(0≤x∧x≤(T:Int))∧r∣x∧x∉tms n (Gt N a n T c T) false (T+1):=by
  intro x hx
  obtain ⟨t,ht,rfl,hp⟩:=tms_mem hx
  refine ⟨⟨by omega,by omega⟩,pr_dv hse (by omega) (fun j hj=>(rd j hj).1) hk.2 (fun j hj=>(rd j hj).2) hp,fun hf=>?_⟩
  obtain ⟨t',_,he,hp'⟩:=tms_mem hf
  obtain rfl:t=t':=by omega
  rw [hp] at hp'
  cases hp'
 have hpos:1≤(tms n (Gt N a n T c T) true (T+1)).length:=by rw [hl0];simp
 have hfst:rdL (tms n (Gt N a n T c T) true (T+1)) 0 0=0:=by rw [hl0];rfl
 generalize hlt:tms n (Gt N a n T c T) true (T+1)=lt' at*
 generalize hlf:tms n (Gt N a n T c T) false (T+1)=lf' at*
 unfold Qam.j2
 refine ⟨(T:Int),e1,(r,0),e2,⟨0,hi,?_⟩⟩
 rw [if_pos rfl]
 refine times_all hse (by omega) hk.2 true ?_
 rw [hlt]
 refine ⟨(lt',0),hs,⟨0,hi,?_⟩⟩
 rw [if_pos rfl]
 refine times_all hse (by omega) hk.2 false ?_
 rw [hlf]
 dsimp only
 rw [if_pos rfl,if_neg (show ¬ r< 1 by omega),if_pos rfl,if_pos rfl]
 refine ⟨true,same_eq (by omega) (by omega),?_⟩
 rw [if_pos rfl,if_pos rfl,if_neg (show ¬ (lt'.length:Int)=0 by omega),if_pos ⟨by decide,by omega⟩,if_pos hfst,if_pos (by rw [show (lt'.length:Int)+(lf'.length:Int)=(T:Int)+1 by omega])]
 refine roundsD_for (b:=fun s=>Qam.b3 N (lt',0) (r,0) (T:Int) (lf',0) s) (e:= .go ()) (K:=Ex.finD (fun s=>Qam.a3 N fun r=>r=true) fun r=>r=true) (fun k=>(k:Int)) lt'.length ?_ ?_ (show Qam.a3 N (fun r=>r=true) from rfl) N 0 (Nat.zero_le _) (by omega)
 ·intro i hil Q hQ
  obtain ⟨hr,hd,hnf⟩:=hmem _ (List.getElem_mem hil)
  have g1:(i:Int)< (lt'.length:Int):=by omega
  have g2:(0:Int)≤(i:Int)∧(i:Int)< (lt'.length:Int):=⟨by omega,g1⟩
  have hnx:i64w ((i:Int)+1)=((i+1:Nat):Int):=i64w_succ hil (by omega)
  have hm:(lt'[i]).tmod r=0:=Int.tmod_eq_zero_of_dvd hd
  have hh:=has_not (N:=N) (l:=lf') (by omega) (by omega) hnf
  show Qam.b3 N (lt',0) (r,0) (T:Int) (lf',0) (i:Int) Q
  unfold Qam.b3
  simp only [if_pos g1,if_pos g2,rdL_nat hil,hm,if_true,if_pos (show ¬ r=0 by omega),if_neg (show ¬ lt'[i]>(T:Int) by omega)]
  by_cases c0:(i:Int)>0
  ·have hp:i64w ((i:Int) - 1)=((i - 1:Nat):Int):=by rw [i64w_id (by omega) (by omega)];omega
   have hlt1:lt'[i - 1]< lt'[i]:=List.pairwise_iff_getElem.1 hup (i - 1) i (by omega) hil (by omega)
   rw [if_pos c0,hp,if_pos ⟨by omega,by omega⟩,rdL_nat (show i - 1< lt'.length by omega),if_neg (by omega)]
   refine ⟨false,hh,?_⟩
   rw [if_neg Bool.false_ne_true]
   unfold Qam.j5
   rw [hnx]
   exact hQ
  ·rw [if_neg c0]
   refine ⟨false,hh,?_⟩
   rw [if_neg Bool.false_ne_true]
   unfold Qam.j5
   rw [hnx]
   exact hQ
 ·intro Q hQ
  show Qam.b3 N (lt',0) (r,0) (T:Int) (lf',0) (lt'.length:Int) Q
  unfold Qam.b3
  rw [if_neg (by dsimp only;omega)]
  exact hQ
theorem event_part {N:Nat} {a:List Int} {c d:T4} {a3:List Int} (hb:∀ x∈a,-32768≤x∧x≤32767) (hk:okT a c) (hd:okT a d) (h3:∀ x∈a3,0≤x∧x≤255) (hN:5000< N):Qam.a0 N (a,c) (d,0) a3 (fun r=>r=true):=by
 obtain ⟨l1,l4,ho⟩:=okT_len hk
 obtain ⟨w,g1,g2,g3,g4,g5,g6,g7,g8⟩:=wait_pt (N:=N) ho hd.2 (by omega)
 obtain ⟨m,e3,m0,m1,j,hj,hm⟩:=down_eq (N:=N) hb hd (by omega)
 have hjp:=times_part hb hk h3 hN
 unfold Qam.a0
 by_cases c0:w.2=0
 ·have e1:Qbr.f N a d=some (Ar.rep 4 0,0,4):=by
   simp only [Qbr.f,valid_tops hb hd (show 10< N by omega),Option.bind_some,if_true,g2,if_pos c0]
  have e2:Qbs.f N a d=some (Ar.rep 4 0,0,4):=by
   simp only [Qbs.f,ok_tops hb hd (show 10< N by omega),Option.bind_some,if_true,g1,if_pos c0]
  have hz:m=0:=by
   have:=hd.2 j hj
   by_cases cp:0< d.l.getD j 0
   ·have:=g7 j hj cp;omega
   ·omega
  refine ⟨_,e1,_,e2,_,e3,?_⟩
  subst hz
  rw [if_pos rfl,if_pos rfl,if_pos rfl,if_pos rfl,if_pos (by decide),if_neg (by decide)]
  exact hjp
 ·have e1:Qbr.f N a d=some (w.1,w.2,0):=by
   simp only [Qbr.f,valid_tops hb hd (show 10< N by omega),Option.bind_some,if_true,g2,if_neg c0]
  have e2:Qbs.f N a d=some (w.1,w.2,0):=by
   simp only [Qbs.f,ok_tops hb hd (show 10< N by omega),Option.bind_some,if_true,g1,if_neg c0]
  obtain ⟨q,hq,hqw⟩:∃ j,j< 4∧d.l.getD j 0=w.2:=by
   rcases g8 with h|h
   ·exact absurd h c0
   ·exact h
  have hmp:w.2≤m:=by have:=m1 q hq;omega
  have hql:q< a.length:=by
   by_cases cq:q< a.length
   ·exact cq
   ·have:=hd.2 q hq
    rw [getD_out cq] at this
    omega
  refine ⟨_,e1,_,e2,_,e3,?_⟩
  rw [if_pos rfl,if_pos rfl,if_pos rfl,if_pos rfl,if_pos (by dsimp only;rw [decide_eq_true (show m>0 by omega)];rfl),if_pos rfl]
  refine roundsD_for (b:=fun s:Bool×Int=>Qam.b6 N (a,c) (w.1,w.2,0) (d,0) s.1 s.2) (e:= .go true) (fun k=>(decide (∃ i,i< k∧d.l.getD i 0>0∧w.1.l.getD i 0=0),(k:Int))) a.length ?_ ?_ ?_ N 0 (Nat.zero_le _) (by omega)
  ·intro i hil Q hQ
   have g1':(i:Int)< (a.length:Int):=by omega
   have g2':(0:Int)≤(i:Int)∧(i:Int)< 4:=⟨by omega,by omega⟩
   have hnx:i64w ((i:Int)+1)=((i+1:Nat):Int):=i64w_succ hil (by omega)
   have hdi:=hd.2 i (by omega)
   have hai:=getD_le ho i
   have h6:=g6 i (by omega)
   have hwi:=g3 i (by omega)
   have hw1:i64w (w.1.l.getD i 0)=w.1.l.getD i 0:=i64w_id (by omega) (by omega)
   have hw2:i64w (d.l.getD i 0)=d.l.getD i 0:=i64w_id (by omega) (by omega)
   have hw3:i64w (d.l.getD i 0 - w.2)=d.l.getD i 0 - w.2:=i64w_id (by omega) (by omega)
   have hmx:mxI (d.l.getD i 0 - w.2) 0=w.1.l.getD i 0:=by rw [h6];rfl
   show Qam.b6 N (a,c) (w.1,w.2,0) (d,0) (decide (∃ k,k< i∧d.l.getD k 0>0∧w.1.l.getD k 0=0)) (i:Int) Q
   unfold Qam.b6
   simp only [if_pos g1',if_pos g2',ar_get,hw1,hw2,hw3,hmx,if_true]
   have hnext:decide (∃ k,k< i+1∧d.l.getD k 0>0∧w.1.l.getD k 0=0)=(decide (∃ k,k< i∧d.l.getD k 0>0∧w.1.l.getD k 0=0)||(decide (d.l.getD i 0>0)&&(w.1.l.getD i 0==0))):=by
    rw [Bool.eq_iff_iff]
    simp only [decide_eq_true_eq,Bool.or_eq_true,Bool.and_eq_true,beq_iff_eq]
    constructor
    ·rintro ⟨k,h1,h2,h3⟩
     by_cases e:k=i
     ·subst e;exact .inr ⟨h2,h3⟩
     ·exact .inl ⟨k,by omega,h2,h3⟩
    ·rintro (⟨k,h1,h2,h3⟩|⟨h2,h3⟩)
     ·exact ⟨k,by omega,h2,h3⟩
     ·exact ⟨i,by omega,h2,h3⟩
   rw [hnext] at hQ
   unfold Qam.j8
   rw [hnx]
   by_cases cb:decide (∃ k,k< i∧d.l.getD k 0>0∧w.1.l.getD k 0=0)=true
   ·rw [if_pos cb]
    rw [cb,Bool.true_or] at hQ
    exact hQ
   ·rw [if_neg cb]
    rw [Bool.not_eq_true] at cb
    rw [cb,Bool.false_or] at hQ
    by_cases cp:d.l.getD i 0>0
    ·rw [if_pos cp]
     rw [decide_eq_true cp,Bool.true_and] at hQ
     exact hQ
    ·rw [if_neg cp]
     rw [decide_eq_false cp,Bool.false_and] at hQ
     exact hQ
  ·intro Q hQ
   have:decide (∃ i,i< a.length∧d.l.getD i 0>0∧w.1.l.getD i 0=0)=true:=by
    refine decide_eq_true ⟨q,hql,by omega,?_⟩
    rw [g6 q hq,hqw]
    simp
   rw [this]
   show Qam.b6 N (a,c) (w.1,w.2,0) (d,0) true (a.length:Int) Q
   unfold Qam.b6
   rw [if_neg (by dsimp only;omega)]
   exact hQ
  ·show Qam.a6 N (w.1,w.2,0) (m,0) a3 (a,c) true (fun r=>r=true)
   unfold Qam.a6
   rw [if_pos rfl,if_neg (by dsimp only;omega),if_neg (by dsimp only;omega)]
   exact hjp
theorem Qam.told (a0:List (Int)) (h0:∀ x∈a0,IntKind.min .u8≤x∧x≤IntKind.max .u8) (l0:a0.length≤9223372036854775807) (a1:List (Int)) (h1:∀ x∈a1,IntKind.min .u8≤x∧x≤IntKind.max .u8) (l1:a1.length≤9223372036854775807):∃ N,Qam.f N a0 a1 (fun r=>r=true):=by
 have h0:∀ x∈a0,0≤x∧x≤255:=h0
 have h1:∀ x∈a1,0≤x∧x≤255:=h1
 refine ⟨5000000,?_⟩
 generalize hN:5000000=N
 unfold Qam.f
 by_cases c0:(a0.length:Int)>3000
 ·exact ⟨true,by simp only [QbC.f,if_pos c0],by rw [if_pos rfl]⟩
 by_cases c1:(a1.length:Int)>3000
 ·exact ⟨true,by simp only [QbC.f,if_neg c0,decide_eq_true c1],by rw [if_pos rfl]⟩
 refine ⟨false,by simp only [QbC.f,if_neg c0,decide_eq_false c1],?_⟩
 rw [if_neg Bool.false_ne_true]
 obtain ⟨a,c,e6,D⟩:=drawnG (N:=N) h0 (by omega) (by omega)
 obtain ⟨hk,ho,hl⟩:=D.ok
 have hlen:=D.len
 have hb:∀ x∈a,-32768≤x∧x≤32767:=fun x hx=>by have:=D.size x hx;omega
 refine ⟨(a,c),e6,?_⟩
 have hu:u64w ((a,c).1.length:Int)=(a.length:Int):=u64w_id (by dsimp only;omega) (by dsimp only;omega)
 rw [hu,if_pos (by omega),sets_all _ hl]
 have hpw:(1:Int)≤2^a.length∧(2:Int)^a.length≤4:=by
  have:a.length=1∨a.length=2:=by omega
  rcases this with h|h<;>rw [h]<;>decide
 obtain ⟨x,e11,x0,x1⟩:=at_in (N:=N) h1 0 (2^a.length) hpw.1
 have hx8:u8w x=x:=u8w_id (by omega) (by omega)
 refine ⟨x,e11,?_⟩
 rw [hx8]
 obtain ⟨d,q1,q2,q3,q4⟩:=turn_pt (N:=N) (x:=x) ho hl hk.2 x0 (by omega) (by omega)
 have hd:okT a d:=⟨hk.1,q3⟩
 obtain ⟨d2,p1,p2,p3,p4⟩:=turn_pt (N:=N) (x:=x) ho hl q3 x0 (by omega) (by omega)
 obtain rfl:d2=c:=ar4_ext fun j hj=>by
  rw [p4 j hj,q4 j hj]
  split<;>omega
 obtain ⟨t,e21,e22⟩:=text_back (N:=N) hb hk (by omega)
 refine ⟨(d,0),turn_impl hb hk x0 x1 (by omega) (by omega) q2,(d,0),turn_spec hb hk x0 x1 (by omega) (by omega) q1,(d2,0),turn_impl hb hd x0 x1 (by omega) (by omega) p2,t,e21,(a,d2,0),e22,?_⟩
 rw [if_pos rfl,if_pos rfl,if_pos rfl,if_pos rfl,if_pos rfl,if_pos rfl,if_pos rfl,if_pos rfl]
 have hvg:Qa9.f N a=some true:=by rw [validG_eq hb (by omega) (by omega),decide_eq_true hk.1]
 refine ⟨true,hvg,?_⟩
 rw [if_pos rfl]
 refine ⟨true,valid_tops hb hk (by omega),?_⟩
 rw [if_pos rfl]
 refine ⟨true,valid_tops hb hd (by omega),?_⟩
 rw [if_pos rfl]
 refine roundsD_for (b:=fun s=>Qam.b0 N (a,d2) (a,d2,0) s) (e:= .go ()) (K:=Ex.finD (fun s=>Qam.a0 N (a,d2) (d,0) a1 (fun r=>r=true)) fun r=>r=true) (fun k=>(k:Int)) a.length ?_ ?_ (event_part hb hk hd h1 (by omega)) N 0 (Nat.zero_le _) (by omega)
 ·intro i hil Q hQ
  have hnx:i64w ((i:Int)+1)=((i+1:Nat):Int):=i64w_succ hil (by omega)
  show Qam.b0 N (a,d2) (a,d2,0) (i:Int) Q
  unfold Qam.b0
  rw [if_pos (by dsimp only;omega),if_pos (by dsimp only;omega),if_pos (by dsimp only;omega),if_pos rfl,hnx]
  exact hQ
 ·intro Q hQ
  show Qam.b0 N (a,d2) (a,d2,0) (a.length:Int) Q
  unfold Qam.b0
  rw [if_neg (by dsimp only;omega)]
  exact hQ
end Go.Proofs.YtgoninfjneepfaaGreatDoorX
