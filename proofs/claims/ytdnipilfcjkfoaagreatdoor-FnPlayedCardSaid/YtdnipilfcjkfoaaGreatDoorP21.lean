import Derived.Test.YtdnipilfcjkfoaaGreatDoorP20
namespace Go.Proofs.YtdnipilfcjkfoaaGreatDoorX
open Go
set_option linter.unusedVariables false
set_option linter.unusedSimpArgs false
abbrev Ga:=Qag
abbrev As_:=Qav
theorem G_eta (G:Ga):(⟨G.Qac,G.Qae,G.Qah⟩:Ga)=G:=rfl
def idx (n:Nat):List Int:=(List.range n).map fun (i:Nat)=>(i:Int)
theorem idx_succ (n:Nat):idx (n+1)=idx n++[(n:Int)]:=by simp [idx,List.range_succ]
theorem idx_len (n:Nat):(idx n).length=n:=by simp [idx]
theorem idx_mem {n:Nat} {x:Int} (h:x∈idx n):0≤x∧x< n:=by
 obtain ⟨i,hi,rfl⟩:=List.mem_map.1 h
 have:=List.mem_range.1 hi
 omega
theorem rounds_any {α ρ:Type} {b:Int→Option (Bd ρ Unit Int)} (a:List α) (p:α→Bool) (r:Nat→ρ) {N:Nat} (hN:a.length< N)
 (h:∀ i (hi:i< a.length),b (i:Int)=if p a[i]=true then some (.out (.ret (r i))) else some (.next ((i+1:Nat):Int)))
 (he:b (a.length:Int)=some (.out (.go ()))):∃ e,rounds b N 0=some e∧(if a.any p=true then ∃ i,e= .ret (r i) else e= .go ()):=by
 have main:∀ (n k:Nat),k≤a.length→a.length - k< n→∃ e,rounds b n (k:Int)=some e∧(if (a.drop k).any p=true then ∃ i,e= .ret (r i) else e= .go ()):=by
  intro n
  induction n with
  |zero=>intro k _ hk;omega
  |succ n ih=>
   intro k hk hn
   by_cases hl:k< a.length
   ·have hb:=h k hl
    by_cases hp:p a[k]=true
    ·rw [if_pos hp] at hb
     have e1:(a.drop k).any p=true:=by rw [List.drop_eq_getElem_cons hl,List.any_cons,hp];rfl
     exact ⟨_,rounds_out hb,by rw [if_pos e1];exact ⟨_,rfl⟩⟩
    ·rw [if_neg hp] at hb
     obtain ⟨e,h1,h2⟩:=ih (k+1) hl (by omega)
     have e1:(a.drop k).any p=(a.drop (k+1)).any p:=by rw [List.drop_eq_getElem_cons hl,List.any_cons,(Bool.not_eq_true _).mp hp,Bool.false_or]
     exact ⟨e,(rounds_next hb).trans h1,by rw [e1];exact h2⟩
   ·obtain rfl:k=a.length:=by omega
    exact ⟨_,rounds_out he,by simp⟩
 exact main N 0 (Nat.zero_le _) (by omega)
def allN (n:Int):Int:=2^n.toNat - 1
theorem full_tab:∀ n:Nat,n< 61→1≤n→QbT.f 0 (n:Int)=some ((2:Int)^n - 1)∧(if (0:Int)≤(n:Int) then (some (u64w ((shlI .u64 1 (n:Int)) - 1))) else none)=some ((2:Int)^n - 1):=by decide+kernel
def B60 (n:Int):Prop:=1≤n∧n≤60
instance (n:Int):Decidable (B60 n):=by unfold B60;infer_instance
theorem full_spec (N:Nat) {n:Int} (h:B60 n):QbT.f N n=some (allN n):=by
 have:=(full_tab n.toNat (by have:=h.2;omega) (by have:=h.1;omega)).1
 rwa [Int.toNat_of_nonneg (by have:=h.1;omega)] at this
theorem full_impl (N:Nat) {G:Ga} (h:B60 G.Qac):QbU.f N G=some (allN G.Qac):=by
 have:=(full_tab G.Qac.toNat (by have:=h.2;omega) (by have:=h.1;omega)).2
 rwa [Int.toNat_of_nonneg (by have:=h.1;omega)] at this
def bad (n:Int) (a:As_):Bool:=!(bAndNot .u64 a.Qbh (allN n)==0)
def okG (G:Ga):Bool:=decide (B60 G.Qac)&&(decide (0≤G.Qae∧G.Qae≤3)&&(decide (G.Qah.length≤60)&&!(G.Qah.any (bad G.Qac))))
structure OkG (G:Ga):Prop where
 n60:B60 G.Qac
 l3:0≤G.Qae∧G.Qae≤3
 len:G.Qah.length≤60
theorem okG_iff {G:Ga} (h:okG G=true):OkG G:=by
 unfold okG at h
 simp only [Bool.and_eq_true,decide_eq_true_eq] at h
 exact ⟨h.1,h.2.1,h.2.2.1⟩
def InG (G:Ga):Prop:=(-128≤G.Qac∧G.Qac≤127)∧(-128≤G.Qae∧G.Qae≤127)
theorem okG_spec {N:Nat} {G:Ga} (hG:InG G) (hN:70< N):Qbn.f N G=some (okG G):=by
 obtain ⟨h1,h2⟩:=hG
 unfold Qbn.f QbE.f Qbs.f okG
 rw [i64w_id (by omega) (by omega),i64w_id (by omega) (by omega)]
 by_cases c1:B60 G.Qac
 ·rw [if_pos c1.1]
  simp only [Option.bind_some,decide_eq_true c1.2,if_true,decide_eq_true c1,Bool.true_and]
  by_cases c2:0≤G.Qae∧G.Qae≤3
  ·rw [if_pos c2.1]
   simp only [Option.bind_some,decide_eq_true c2.2,if_true,decide_eq_true c2,Bool.true_and]
   by_cases c3:G.Qah.length≤60
   ·rw [if_neg (by omega)]
    simp only [decide_eq_true c3,Bool.true_and]
    obtain ⟨e,he,hq⟩:=rounds_any (b:=fun s=>Qbn.b0 N G s) G.Qah (bad G.Qac) (fun _=>false) (N:=N) (by omega) (by
     intro i hi
     have g1:(i:Int)< G.Qah.length:=by omega
     have g2:(0:Int)≤i:=by omega
     simp only [Qbn.b0,g1,g2,and_self,if_true,rdL_nat hi,i64w_succ hi (show G.Qah.length≤9223372036854775807 by omega),i64w_id (x:=G.Qac) (by omega) (by omega),full_spec N c1,Option.bind_some,bad]
     by_cases c4:bAndNot .u64 G.Qah[i].Qbh (allN G.Qac)=0
     ·simp [c4]
     ·simp [c4]) (by
     simp only [Qbn.b0]
     rw [if_neg (by omega)])
    rw [he]
    by_cases c4:G.Qah.any (bad G.Qac)=true
    ·rw [if_pos c4] at hq
     obtain ⟨i,rfl⟩:=hq
     simp only [Option.bind_some,Ex.fin,c4,Bool.not_true]
    ·rw [if_neg c4] at hq
     subst hq
     rw [Bool.not_eq_true] at c4
     simp only [Option.bind_some,Ex.fin,c4,Bool.not_false,Qbn.a0]
   ·rw [if_pos (by omega)]
    simp [c3]
  ·simp only [decide_eq_false c2,Bool.false_and]
   by_cases c3:G.Qae≥0
   ·rw [if_pos c3]
    have:¬ G.Qae≤3:=fun h=>c2 ⟨c3,h⟩
    simp [this]
   ·rw [if_neg c3];rfl
 ·simp only [decide_eq_false c1,Bool.false_and]
  by_cases c3:G.Qac≥1
  ·rw [if_pos c3]
   have:¬ G.Qac≤60:=fun h=>c1 ⟨c3,h⟩
   simp [this]
  ·rw [if_neg c3];rfl
theorem okG_impl {N:Nat} {G:Ga} (hG:InG G) (hN:70< N):Qa1.f N G=some (okG G):=by
 obtain ⟨h1,h2⟩:=hG
 unfold Qa1.f QbQ.f Qbg.f okG
 rw [i64w_id (by omega) (by omega),i64w_id (by omega) (by omega)]
 by_cases c1:B60 G.Qac
 ·rw [if_pos c1.1]
  simp only [Option.bind_some,decide_eq_true c1.2,if_true,decide_eq_true c1,Bool.true_and]
  by_cases c2:0≤G.Qae∧G.Qae≤3
  ·rw [if_pos c2.1]
   simp only [Option.bind_some,decide_eq_true c2.2,if_true,decide_eq_true c2,Bool.true_and]
   by_cases c3:G.Qah.length≤60
   ·rw [if_pos (by omega)]
    simp only [decide_eq_true c3,Bool.true_and]
    obtain ⟨e,he,hq⟩:=rounds_any (b:=fun s=>Qar.b0 N G.Qah G s) G.Qah (bad G.Qac) (fun i=>(i:Int)) (N:=N) (by omega) (by
     intro i hi
     have g1:(i:Int)< G.Qah.length:=by omega
     have g2:(0:Int)≤i:=by omega
     simp only [Qar.b0,Qb0.f,g1,g2,and_self,if_true,rdL_nat hi,i64w_succ hi (show G.Qah.length≤9223372036854775807 by omega),G_eta,full_impl N c1,Option.bind_some,bad]
     by_cases c4:bAndNot .u64 G.Qah[i].Qbh (allN G.Qac)=0
     ·simp [c4]
     ·simp [c4]) (by
     simp only [Qar.b0]
     rw [if_neg (by omega)])
    simp only [QaO.f,Qar.f,G_eta,he]
    by_cases c4:G.Qah.any (bad G.Qac)=true
    ·rw [if_pos c4] at hq
     obtain ⟨i,rfl⟩:=hq
     simp only [Option.bind_some,Ex.fin,c4,Bool.not_true,decide_eq_true (show (i:Int)≥0 by omega)]
    ·rw [if_neg c4] at hq
     subst hq
     rw [Bool.not_eq_true] at c4
     simp only [Option.bind_some,Ex.fin,c4,Bool.not_false,Qar.a0]
     rfl
   ·rw [if_neg (by omega)]
    simp [c3]
  ·simp only [decide_eq_false c2,Bool.false_and]
   by_cases c3:0≤G.Qae
   ·rw [if_pos c3]
    have:¬ G.Qae≤3:=fun h=>c2 ⟨c3,h⟩
    simp [this]
   ·rw [if_neg c3];rfl
 ·simp only [decide_eq_false c1,Bool.false_and]
  by_cases c3:1≤G.Qac
  ·rw [if_pos c3]
   have:¬ G.Qac≤60:=fun h=>c1 ⟨c3,h⟩
   simp [this]
  ·rw [if_neg c3];rfl
def wrongB (a:As_) (m:Int):Bool:=((bAnd .u64 (shrI .u64 a.Qbh m) 1)==1) !=a.QbH
def wr (G:Ga) (m:Int) (k:Nat):List Int:=(idx k).filter fun i=>wrongB (rdL G.Qah i Qau) m
theorem wr_succ (G:Ga) (m:Int) (k:Nat):wr G m (k+1)=if wrongB (rdL G.Qah (k:Int) Qau) m=true then wr G m k++[(k:Int)] else wr G m k:=by
 unfold wr
 rw [idx_succ,List.filter_append]
 by_cases c:wrongB (rdL G.Qah (k:Int) Qau) m=true
 ·rw [if_pos c];simp [c]
 ·rw [if_neg c];simp [c]
theorem wr_len (G:Ga) (m:Int) (k:Nat):(wr G m k).length≤k:=by
 unfold wr
 exact Nat.le_trans (List.length_filter_le _ _) (by rw [idx_len];exact Nat.le_refl _)
def W (G:Ga) (m:Int):Int:=((wr G m G.Qah.length).length:Int)
theorem W_nonneg (G:Ga) (m:Int):0≤W G m:=by unfold W;omega
theorem lies_spec {N:Nat} {G:Ga} (hl:G.Qah.length≤60) (hN:70< N) {m:Int} (hm:0≤m∧m≤63):Qa2.f N G m=some (W G m):=by
 have q:=rounds_for (b:=fun s=>Qa2.b0 N G m s.1 s.2) (e:= .go (W G m)) (fun k=>(((wr G m k).length:Int),(k:Int))) G.Qah.length 0 N (by omega) (by omega) (by
  intro i _ hi
  have g1:(i:Int)< G.Qah.length:=by omega
  have g2:(0:Int)≤i:=by omega
  have hw:=wr_len G m i
  simp only [Qa2.b0,Qcd.f,Qa2.j2,g1,g2,and_self,if_true,u64w_id (x:=m) (by omega) (by omega),hm.1,Option.bind_some,i64w_succ hi (show G.Qah.length≤9223372036854775807 by omega),wr_succ]
  by_cases c:wrongB (rdL G.Qah (i:Int) Qau) m=true
  ·have c':=c
   unfold wrongB at c'
   rw [if_pos c,if_pos c',i64w_id (by omega) (by omega)]
   simp
  ·have c':=c
   unfold wrongB at c'
   rw [if_neg c,if_neg c']) (by
  simp only [Qa2.b0]
  rw [if_neg (by omega)]
  rfl)
 have q':rounds (fun s=>Qa2.b0 N G m s.1 s.2) N (0,0)=some (.go (W G m)):=q
 unfold Qa2.f
 rw [q'];rfl
theorem wrong_impl {N:Nat} {G:Ga} (hl:G.Qah.length≤60) (hN:70< N) {m:Int} (hm:0≤m∧m≤63):QaK.f N G m=some (wr G m G.Qah.length):=by
 have hmx:mxI m 0=m:=by unfold mxI;rw [if_neg (by omega)]
 have q:=rounds_for (b:=fun s=>QaK.b0 N G m s.1 s.2) (e:= .go (wr G m G.Qah.length)) (fun k=>(wr G m k,(k:Int))) G.Qah.length 0 N (by omega) (by omega) (by
  intro i _ hi
  have g1:(i:Int)< G.Qah.length:=by omega
  have g2:(0:Int)≤i:=by omega
  have hw:=wr_len G m i
  simp only [QaK.b0,Qbo.f,Qbg.f,QaK.j2,g1,g2,and_self,if_true,hmx,hm.1,decide_eq_true hm.2,Option.bind_some,i64w_succ hi (show G.Qah.length≤9223372036854775807 by omega),wr_succ,Bool.bne_false]
  by_cases c:wrongB (rdL G.Qah (i:Int) Qau) m=true
  ·have c':=c
   unfold wrongB at c'
   rw [if_pos c,if_neg (by simpa using c'),if_pos (by simp;omega)]
  ·have c':=c
   unfold wrongB at c'
   rw [if_neg c,if_pos (by simpa using c')]) (by
  simp only [QaK.b0]
  rw [if_neg (by omega)])
 have q':rounds (fun s=>QaK.b0 N G m s.1 s.2) N (([]:List Int),0)=some (.go (wr G m G.Qah.length)):=q
 unfold QaK.f
 rw [q'];rfl
def sl (G:Ga) (k:Nat) (j:Int):List Int:=(idx k).filter fun m=>decide (W G m=j∧W G m≤G.Qae)
theorem sl_succ (G:Ga) (k:Nat) (j:Int):sl G (k+1) j=if W G (k:Int)=j∧W G (k:Int)≤G.Qae then sl G k j++[(k:Int)] else sl G k j:=by
 unfold sl
 rw [idx_succ,List.filter_append]
 by_cases c:W G (k:Int)=j∧W G (k:Int)≤G.Qae
 ·rw [if_pos c,List.filter_cons_of_pos (by simpa using c)];rfl
 ·rw [if_neg c]
  have:([(k:Int)].filter fun m=>decide (W G m=j∧W G m≤G.Qae))=[]:=by
   rw [List.filter_cons_of_neg (by simpa using c)];rfl
  rw [this,List.append_nil]
theorem sl_len (G:Ga) (k:Nat) (j:Int):(sl G k j).length≤k:=by
 unfold sl
 exact Nat.le_trans (List.length_filter_le _ _) (by rw [idx_len];exact Nat.le_refl _)
theorem sl_mem {G:Ga} {k:Nat} {j x:Int} (h:x∈sl G k j):0≤x∧x< k:=idx_mem (List.mem_filter.1 h).1
def nG (G:Ga):Nat:=G.Qac.toNat
def arS (G:Ga) (k:Nat):Ar Int 4:=⟨[((sl G k 0).length:Int),((sl G k 1).length:Int),((sl G k 2).length:Int),((sl G k 3).length:Int)],rfl⟩
theorem W_four {G:Ga} (h:OkG G) {m:Int} (hm:W G m≤G.Qae):W G m=0∨W G m=1∨W G m=2∨W G m=3:=by
 have:=W_nonneg G m
 have:=h.l3
 omega
theorem state_spec {N:Nat} {G:Ga} (h:OkG G) (hN:70< N):QaU.f N G=some (arS G (nG G)):=by
 have hn:=h.n60
 have hl:=h.l3
 have hlen:=h.len
 unfold B60 at hn
 have q:=rounds_for (b:=fun s=>QaU.b0 N G s.1 s.2) (e:= .go (arS G (nG G))) (fun k=>(arS G k,(k:Int))) (nG G) 0 N (by omega) (by unfold nG;omega) (by
  intro i _ hi
  unfold nG at hi
  simp only [QaU.b0,QaU.j2,i64w_id (x:=G.Qac) (by omega) (by omega),i64w_id (x:=G.Qae) (by omega) (by omega),G_eta,lies_spec hlen hN (m:=(i:Int)) ⟨by omega,by omega⟩,Option.bind_some]
  rw [if_pos (by omega),i64w_id (x:=(i:Int)+1) (by omega) (by omega),show (i:Int)+1=((i+1:Nat):Int) by omega]
  by_cases c:W G (i:Int)≤G.Qae
  ·have h0:=sl_len G i 0
   have h1:=sl_len G i 1
   have h2:=sl_len G i 2
   have h3:=sl_len G i 3
   rcases W_four h c with e|e|e|e<;>
   ·rw [e] at c
    simp only [e,if_pos c,arS,sl_succ,Ar.get,Ar.set]
    simp [c]
    first|(rw [i64w_id (by omega) (by omega)];done)|(simp;rw [i64w_id (by omega) (by omega)])|skip
  ·rw [if_neg c]
   simp only [arS,sl_succ,show ∀ j,¬ (W G (i:Int)=j∧W G (i:Int)≤G.Qae) from fun j hj=>c hj.2,if_false]) (by
  simp only [QaU.b0,i64w_id (x:=G.Qac) (by omega) (by omega)]
  unfold nG
  rw [if_neg (by omega)])
 have q':rounds (fun s=>QaU.b0 N G s.1 s.2) N (Ar.rep 4 0,0)=some (.go (arS G (nG G))):=q
 unfold QaU.f
 rw [q'];rfl
def srS (G:Ga):Ar (List Int) 4:=⟨[sl G (nG G) 0,sl G (nG G) 1,sl G (nG G) 2,sl G (nG G) 3],rfl⟩
theorem sorts_impl {N:Nat} {G:Ga} (h:OkG G) (hN:70< N):QaL.f N G=some (srS G):=by
 have hn:=h.n60
 have hl:=h.l3
 have hlen:=h.len
 unfold B60 at hn
 have q:=rounds_for (b:=fun s=>QaL.b0 N G s.1 s.2.1 s.2.2.1 s.2.2.2.1 s.2.2.2.2) (e:= .go (sl G (nG G) 0,sl G (nG G) 1,sl G (nG G) 2,sl G (nG G) 3)) (fun k=>(sl G k 0,sl G k 1,sl G k 2,sl G k 3,(k:Int))) (nG G) 0 N (by omega) (by unfold nG;omega) (by
  intro i _ hi
  unfold nG at hi
  have hw:((wr G (i:Int) G.Qah.length).length:Int)=W G (i:Int):=rfl
  simp only [QaL.b0,QaL.j2,i64w_id (x:=G.Qac) (by omega) (by omega),i64w_id (x:=G.Qae) (by omega) (by omega),G_eta,wrong_impl hlen hN (m:=(i:Int)) ⟨by omega,by omega⟩,Option.bind_some,hw]
  rw [if_pos (by omega),i64w_id (x:=(i:Int)+1) (by omega) (by omega),show (i:Int)+1=((i+1:Nat):Int) by omega]
  have h0:=sl_len G i 0
  have h1:=sl_len G i 1
  have h2:=sl_len G i 2
  have h3:=sl_len G i 3
  by_cases c:W G (i:Int)≤G.Qae
  ·rcases W_four h c with e|e|e|e<;>
   ·rw [e] at c
    simp only [e,if_pos c,sl_succ,List.length_singleton]
    simp [c]
    omega
  ·rw [if_neg c]
   simp only [sl_succ,show ∀ j,¬ (W G (i:Int)=j∧W G (i:Int)≤G.Qae) from fun j hj=>c hj.2,if_false]) (by
  simp only [QaL.b0,i64w_id (x:=G.Qac) (by omega) (by omega)]
  unfold nG
  rw [if_neg (by omega)])
 have q':rounds (fun s=>QaL.b0 N G s.1 s.2.1 s.2.2.1 s.2.2.2.1 s.2.2.2.2) N ([],[],[],[],0)=some (.go (sl G (nG G) 0,sl G (nG G) 1,sl G (nG G) 2,sl G (nG G) 3)):=q
 unfold QaL.f
 rw [q'];rfl
theorem state_impl {N:Nat} {G:Ga} (h:OkG G) (hN:70< N):QaD.f N G=some (arS G (nG G)):=by
 obtain ⟨N,rfl⟩:∃ M,N=M+5:=⟨N - 5,by omega⟩
 simp only [QaD.f,G_eta,sorts_impl h hN,Option.bind_some]
 have w1:i64w (0+1)=1:=by decide
 have w2:i64w (1+1)=2:=by decide
 have w3:i64w (2+1)=3:=by decide
 have w4:i64w (3+1)=4:=by decide
 have e0:QaD.b0 (N+5) (srS G) (Ar.rep 4 0) 0=some (.next (⟨[((sl G (nG G) 0).length:Int),0,0,0],rfl⟩,1)):=by
  simp only [QaD.b0,QaD.j2,Qbd.f,w1];rfl
 have e1:QaD.b0 (N+5) (srS G) ⟨[((sl G (nG G) 0).length:Int),0,0,0],rfl⟩ 1=some (.next (⟨[((sl G (nG G) 0).length:Int),((sl G (nG G) 1).length:Int),0,0],rfl⟩,2)):=by
  simp only [QaD.b0,QaD.j2,Qbd.f,w2];rfl
 have e2:QaD.b0 (N+5) (srS G) ⟨[((sl G (nG G) 0).length:Int),((sl G (nG G) 1).length:Int),0,0],rfl⟩ 2=some (.next (⟨[((sl G (nG G) 0).length:Int),((sl G (nG G) 1).length:Int),((sl G (nG G) 2).length:Int),0],rfl⟩,3)):=by
  simp only [QaD.b0,QaD.j2,Qbd.f,w3];rfl
 have e3:QaD.b0 (N+5) (srS G) ⟨[((sl G (nG G) 0).length:Int),((sl G (nG G) 1).length:Int),((sl G (nG G) 2).length:Int),0],rfl⟩ 3=some (.next (arS G (nG G),4)):=by
  simp only [QaD.b0,QaD.j2,Qbd.f,w4];rfl
 have e4:QaD.b0 (N+5) (srS G) (arS G (nG G)) 4=some (.out (.go (arS G (nG G)))):=by
  simp only [QaD.b0];rfl
 have q:rounds (fun s=>QaD.b0 (N+5) (srS G) s.1 s.2) (N+5) (Ar.rep 4 0,0)=some (.go (arS G (nG G))):=by
  rw [rounds_next e0,rounds_next e1,rounds_next e2,rounds_next e3,rounds_out e4]
 rw [q];rfl
def halfR (x:Ar Int 4) (i:Int) (s:Ar Int 4×Int×Int) (t:Ar Int 4×Bool×Int):Prop:=
 s.1=t.1∧s.2.1=(if t.2.1=true then 1 else 0)∧s.2.2=t.2.2∧0≤s.2.2∧s.2.2≤4∧(∀ j:Nat,j< 4→0≤s.1.get j 0∧s.1.get j 0≤x.get j 0∧(s.2.2≤(j:Int)→s.1.get j 0=0))
theorem Ar_set_get {n:Nat} (a:Ar Int n) (i j:Nat) (v:Int) (hj:j< n):(a.set (i:Int) v).get (j:Int) 0=if i=j then v else a.get (j:Int) 0:=by
 unfold Ar.set Ar.get
 simp only [Int.toNat_natCast,List.getD_eq_getElem?_getD,List.getElem?_set]
 by_cases e:i=j
 ·subst e
  have:=a.h
  rw [if_pos rfl,if_pos (by omega),if_pos rfl];rfl
 ·rw [if_neg e,if_neg e]
theorem half_both {N:Nat} (hN:70< N) {x:Ar Int 4} (hx:∀ j:Nat,j< 4→0≤x.get j 0∧x.get j 0≤1000):
 ∃ r:Ar Int 4,QaQ.f N x=some r∧QaS.f N x=some r∧∀ j:Nat,j< 4→0≤r.get j 0∧r.get j 0≤x.get j 0:=by
 obtain ⟨e,e',h1,h2,h3⟩:=rounds_both (b:=fun s=>QaQ.b0 N x s.1 s.2.1 s.2.2) (b':=fun s=>QaS.b0 N x s.1 s.2.1 s.2.2) (halfR x 0) (fun s=>(4 - s.2.2).toNat) (fun e e'=>∃ r:Ar Int 4,e= .go r∧e'= .go r∧∀ j:Nat,j< 4→0≤r.get j 0∧r.get j 0≤x.get j 0) (by
  rintro ⟨a,u,i⟩ ⟨a',b,i'⟩ ⟨r1,r2,r3,r4,r5,r6⟩
  simp only at r1 r2 r3 r4 r5 r6
  subst r1 r3
  obtain ⟨i,rfl⟩:=Int.eq_ofNat_of_zero_le r4
  by_cases hi:i< 4
  ·right
   have g1:((i:Nat):Int)< 4:=by omega
   have g2:(0:Int)≤(i:Int):=by omega
   have hxi:=hx i hi
   have hq:(x.get (i:Int) 0).tdiv 2=x.get (i:Int) 0/2:=Int.tdiv_eq_ediv_of_nonneg hxi.1
   have hm:(x.get (i:Int) 0).tmod 2=x.get (i:Int) 0%2:=Int.tmod_eq_emod_of_nonneg hxi.1
   have hs:=i64w_id (x:=x.get (i:Int) 0/2) (by omega) (by omega)
   have hs':=i64w_id (x:=x.get (i:Int) 0/2+1) (by omega) (by omega)
   have hn:i64w ((i:Int)+1)=((i+1:Nat):Int):=by rw [i64w_id (by omega) (by omega)];omega
   have hg:∀ v:Int,(a.set (i:Int) v).get (i:Int) 0=v:=fun v=>by rw [Ar_set_get a i i v hi,if_pos rfl]
   have key:∀ v:Int,0≤v→v≤x.get (i:Int) 0→∀ j:Nat,j< 4→0≤(a.set (i:Int) v).get j 0∧(a.set (i:Int) v).get j 0≤x.get j 0∧((((i+1:Nat)):Int)≤(j:Int)→(a.set (i:Int) v).get j 0=0):=by
    intro v v0 v1 j hj
    rw [Ar_set_get a i j v hj]
    by_cases e:i=j
    ·subst e;rw [if_pos rfl];exact ⟨v0,v1,fun h=>by omega⟩
    ·rw [if_neg e];have:=r6 j hj;exact ⟨this.1,this.2.1,fun h=>this.2.2 (by omega)⟩
   have hset:∀ v v':Int,(a.set (i:Int) v).set (i:Int) v'=a.set (i:Int) v':=by
    intro v v'
    apply Ar.ext'
    simp [Ar.set]
   simp only [QaQ.b0,QaS.b0,QaQ.j2,QaS.j2,g1,g2,and_self,if_true,hq,hm,hs,hn,hg,hset]
   by_cases c:x.get (i:Int) 0%2=1
   ·simp only [if_pos c]
    cases b with
    |true=>
     simp only [if_true] at r2
     subst r2
     simp only [if_true,hs',hset]
     refine ⟨_,_,rfl,rfl,⟨rfl,show i64w (1 - 1)=0 by decide,rfl,?_,?_,key _ ?_ ?_⟩,?_⟩<;>(try dsimp only)<;>omega
    |false=>
     simp only [Bool.false_eq_true,if_false] at r2
     subst r2
     simp only [Bool.false_eq_true,if_false,Int.add_zero,hs,hset]
     refine ⟨_,_,rfl,rfl,⟨rfl,show i64w (1 - 0)=1 by decide,rfl,?_,?_,key _ ?_ ?_⟩,?_⟩<;>(try dsimp only)<;>omega
   ·simp only [if_neg c]
    refine ⟨_,_,rfl,rfl,⟨rfl,r2,rfl,?_,?_,key _ ?_ ?_⟩,?_⟩<;>(try dsimp only)<;>omega
  ·left
   have g1:¬ ((i:Nat):Int)< 4:=by omega
   simp only [QaQ.b0,QaS.b0,g1,if_false]
   exact ⟨_,_,rfl,rfl,_,rfl,rfl,fun j hj=>⟨(r6 j hj).1,(r6 j hj).2.1⟩⟩) N N (Ar.rep 4 0,1,0) (Ar.rep 4 0,true,0) ⟨rfl,rfl,rfl,Int.le_refl _,by decide,fun j hj=>by
    have:(Ar.rep 4 (0:Int)).get (j:Int) 0=0:=by
     obtain rfl|rfl|rfl|rfl:j=0∨j=1∨j=2∨j=3:=by omega
     all_goals rfl
    rw [this]
    exact ⟨Int.le_refl _,(hx j hj).1,fun _=>rfl⟩⟩ (by simp;omega) (by simp;omega)
 obtain ⟨r,rfl,rfl,hr⟩:=h3
 refine ⟨r,?_,?_,hr⟩
 ·unfold QaQ.f;rw [h1];rfl
 ·unfold QaS.f;rw [h2];rfl
def B64 (x:Int):BitVec 64:=BitVec.ofInt 64 x
theorem wrap64 (b:BitVec 64):u64w (b.toNat:Int)=b.toNat:=u64w_id (by omega) (by have:=b.isLt;omega)
theorem bOr_eq (x y:Int):bOr .u64 x y=((B64 x|||B64 y).toNat:Int):=wrap64 (B64 x|||B64 y)
theorem B64_nat (b:BitVec 64):B64 (b.toNat:Int)=b:=by simp [B64]
theorem B64_or (x y:Int):B64 (bOr .u64 x y)=B64 x|||B64 y:=by rw [bOr_eq,B64_nat]
theorem bit_tab:∀ m:Nat,m< 64→B64 (shlI .u64 1 (m:Int))=BitVec.twoPow 64 m:=by decide+kernel
def orAll (s:Int) (l:List Int):Int:=l.foldl (fun s m=>bOr .u64 s (shlI .u64 1 m)) s
def InU (x:Int):Prop:=x=((B64 x).toNat:Int)
theorem orAll_in:∀ (l:List Int) (s:Int),InU s→InU (orAll s l)
 |[],s,h=>h
 |m::l,s,h=>orAll_in l _ (by show bOr .u64 s (shlI .u64 1 m)=((B64 (bOr .u64 s (shlI .u64 1 m))).toNat:Int);rw [B64_or,bOr_eq])
theorem orAll_bits:∀ (l:List Int) (s:Int),(∀ x∈l,0≤x∧x< 64)→∀ i:Nat,i< 64→(B64 (orAll s l)).getLsbD i=((B64 s).getLsbD i||l.contains (i:Int))
 |[],s,_,i,_=>by simp [orAll]
 |m::l,s,h,i,hi=>by
  have hm:=h m (by simp)
  have ih:=orAll_bits l (bOr .u64 s (shlI .u64 1 m)) (fun x hx=>h x (by simp [hx])) i hi
  obtain ⟨k,rfl⟩:=Int.eq_ofNat_of_zero_le hm.1
  show (B64 (orAll (bOr .u64 s (shlI .u64 1 (k:Int))) l)).getLsbD i=_
  rw [ih,B64_or,bit_tab k (by omega)]
  simp only [BitVec.getLsbD_or,BitVec.getLsbD_twoPow,List.contains_cons]
  have hk:k< 64:=by omega
  have e:decide (k=i)=((i:Int)==(k:Int)):=by
   rw [Bool.eq_iff_iff,decide_eq_true_eq,beq_iff_eq]
   omega
  simp only [decide_eq_true hk,Bool.true_and,e,Bool.or_assoc]
theorem orAll_same {l l':List Int} (h:∀ x∈l,0≤x∧x< 64) (h':∀ x∈l',0≤x∧x< 64) (hm:∀ x,x∈l↔x∈l'):orAll 0 l=orAll 0 l':=by
 have i0:InU 0:=by unfold InU B64;decide
 have e1:InU (orAll 0 l):=orAll_in l 0 i0
 have e2:InU (orAll 0 l'):=orAll_in l' 0 i0
 have e3:B64 (orAll 0 l)=B64 (orAll 0 l'):=by
  apply BitVec.eq_of_getLsbD_eq
  intro i hi
  rw [orAll_bits l 0 h i hi,orAll_bits l' 0 h' i hi]
  congr 1
  rw [Bool.eq_iff_iff,List.contains_iff_mem,List.contains_iff_mem]
  exact hm _
 unfold InU at e1 e2
 rw [e1,e2,e3]
theorem orAll_append (s:Int) (l l':List Int):orAll s (l++l')=orAll (orAll s l) l':=by simp [orAll,List.foldl_append]
theorem orAll_snoc (s:Int) (l:List Int) (m:Int):orAll s (l++[m])=bOr .u64 (orAll s l) (shlI .u64 1 m):=by simp [orAll,List.foldl_append]
def takes (G:Ga) (q:Ar Int 4) (k:Nat):Prop:=W G (k:Int)≤G.Qae∧((sl G k (W G (k:Int))).length:Int)< q.get (W G (k:Int)) 0
instance (G:Ga) (q:Ar Int 4) (k:Nat):Decidable (takes G q k):=by unfold takes;infer_instance
def inc (G:Ga) (q:Ar Int 4):Nat→List Int
 |0=>[]
 |k+1=>if takes G q k then inc G q k++[(k:Int)] else inc G q k
theorem inc_mem_range {G:Ga} {q:Ar Int 4}:∀ {k:Nat} {x:Int},x∈inc G q k→0≤x∧x< k
 |0,x,h=>by cases h
 |k+1,x,h=>by
  unfold inc at h
  split at h
  ·rcases List.mem_append.1 h with h|h
   ·have:=inc_mem_range h;omega
   ·rw [List.mem_singleton] at h;omega
  ·have:=inc_mem_range h;omega
def lf (q s:Int):Int:=if s< q then q - s else 0
def rem (G:Ga) (q:Ar Int 4) (k:Nat):Ar Int 4:=
 ⟨[lf (q.get 0 0) ((sl G k 0).length:Int),lf (q.get 1 0) ((sl G k 1).length:Int),lf (q.get 2 0) ((sl G k 2).length:Int),lf (q.get 3 0) ((sl G k 3).length:Int)],rfl⟩
theorem Ar4 (q:Ar Int 4):q=⟨[q.get 0 0,q.get 1 0,q.get 2 0,q.get 3 0],rfl⟩:=by
 obtain ⟨l,h⟩:=q
 apply Ar.ext'
 match l,h with
 |[a,b,c,d],_=>rfl
theorem set_spec {N:Nat} {G:Ga} (h:OkG G) (hN:70< N) {q:Ar Int 4} (hq:∀ j:Nat,j< 4→0≤q.get j 0∧q.get j 0≤1000):Qa6.f N G q=some (orAll 0 (inc G q (nG G))):=by
 have hn:=h.n60
 have hl:=h.l3
 have hlen:=h.len
 unfold B60 at hn
 have q0:0≤q.get 0 0∧q.get 0 0≤1000:=hq 0 (by omega)
 have q1:0≤q.get 1 0∧q.get 1 0≤1000:=hq 1 (by omega)
 have q2:0≤q.get 2 0∧q.get 2 0≤1000:=hq 2 (by omega)
 have q3:0≤q.get 3 0∧q.get 3 0≤1000:=hq 3 (by omega)
 have qq:=rounds_for (b:=fun s=>Qa6.b0 N G s.1 s.2.1 s.2.2) (e:= .go (orAll 0 (inc G q (nG G)))) (fun k=>(rem G q k,orAll 0 (inc G q k),(k:Int))) (nG G) 0 N (by omega) (by unfold nG;omega) (by
  intro i _ hi
  unfold nG at hi
  have g2:(0:Int)≤(i:Int):=by omega
  simp only [Qa6.b0,Qa6.j2,i64w_id (x:=G.Qac) (by omega) (by omega),i64w_id (x:=G.Qae) (by omega) (by omega),G_eta,lies_spec hlen hN (m:=(i:Int)) ⟨by omega,by omega⟩,Option.bind_some,u64w_id (x:=(i:Int)) (by omega) (by omega),g2,if_true]
  rw [if_pos (by omega),i64w_id (x:=(i:Int)+1) (by omega) (by omega),show (i:Int)+1=((i+1:Nat):Int) by omega]
  have h0:=sl_len G i 0
  have h1:=sl_len G i 1
  have h2:=sl_len G i 2
  have h3:=sl_len G i 3
  by_cases c:W G (i:Int)≤G.Qae
  ·rw [if_pos c]
   rcases W_four h c with e|e|e|e
   ·have hc:∀ j,(W G (i:Int)=j∧W G (i:Int)≤G.Qae)↔0=j:=fun j=>⟨fun h=>by rw [← e];exact h.1,fun h=>⟨by rw [e];exact h,c⟩⟩
    have hg:(rem G q i).get 0 0=lf (q.get 0 0) ((sl G i 0).length:Int):=rfl
    have ht:takes G q i↔((sl G i 0).length:Int)< q.get 0 0:=by unfold takes;rw [e];exact ⟨fun h=>h.2,fun h=>⟨by omega,h⟩⟩
    simp only [e,hg]
    rw [if_pos (by omega)]
    by_cases t:((sl G i 0).length:Int)< q.get 0 0
    ·have hlf:lf (q.get 0 0) ((sl G i 0).length:Int)=q.get 0 0 - ((sl G i 0).length:Int):=if_pos t
     rw [hlf,if_pos (by omega),if_pos (by omega),if_pos (by omega),i64w_id (by omega) (by omega)]
     have e1:inc G q (i+1)=inc G q i++[(i:Int)]:=by show (if takes G q i then _ else _)=_;rw [if_pos (ht.2 t)]
     rw [e1,orAll_snoc]
     have e2:(rem G q i).set 0 (q.get 0 0 - ((sl G i 0).length:Int) - 1)=rem G q (i+1):=by
      apply Ar.ext'
      simp only [rem,sl_succ,hc,Ar.set]
      simp [lf]
      split<;>omega
     rw [e2]
    ·have hlf:lf (q.get 0 0) ((sl G i 0).length:Int)=0:=if_neg t
     rw [hlf,if_neg (by omega)]
     have e1:inc G q (i+1)=inc G q i:=by show (if takes G q i then _ else _)=_;rw [if_neg (fun x=>t (ht.1 x))]
     rw [e1]
     have e2:rem G q (i+1)=rem G q i:=by
      apply Ar.ext'
      simp only [rem,sl_succ,hc]
      simp [lf]
      omega
     rw [e2]
   ·have hc:∀ j,(W G (i:Int)=j∧W G (i:Int)≤G.Qae)↔1=j:=fun j=>⟨fun h=>by rw [← e];exact h.1,fun h=>⟨by rw [e];exact h,c⟩⟩
    have hg:(rem G q i).get 1 0=lf (q.get 1 0) ((sl G i 1).length:Int):=rfl
    have ht:takes G q i↔((sl G i 1).length:Int)< q.get 1 0:=by unfold takes;rw [e];exact ⟨fun h=>h.2,fun h=>⟨by omega,h⟩⟩
    simp only [e,hg]
    rw [if_pos (by omega)]
    by_cases t:((sl G i 1).length:Int)< q.get 1 0
    ·have hlf:lf (q.get 1 0) ((sl G i 1).length:Int)=q.get 1 0 - ((sl G i 1).length:Int):=if_pos t
     rw [hlf,if_pos (by omega),if_pos (by omega),if_pos (by omega),i64w_id (by omega) (by omega)]
     have e1:inc G q (i+1)=inc G q i++[(i:Int)]:=by show (if takes G q i then _ else _)=_;rw [if_pos (ht.2 t)]
     rw [e1,orAll_snoc]
     have e2:(rem G q i).set 1 (q.get 1 0 - ((sl G i 1).length:Int) - 1)=rem G q (i+1):=by
      apply Ar.ext'
      simp only [rem,sl_succ,hc,Ar.set]
      simp [lf]
      split<;>omega
     rw [e2]
    ·have hlf:lf (q.get 1 0) ((sl G i 1).length:Int)=0:=if_neg t
     rw [hlf,if_neg (by omega)]
     have e1:inc G q (i+1)=inc G q i:=by show (if takes G q i then _ else _)=_;rw [if_neg (fun x=>t (ht.1 x))]
     rw [e1]
     have e2:rem G q (i+1)=rem G q i:=by
      apply Ar.ext'
      simp only [rem,sl_succ,hc]
      simp [lf]
      omega
     rw [e2]
   ·have hc:∀ j,(W G (i:Int)=j∧W G (i:Int)≤G.Qae)↔2=j:=fun j=>⟨fun h=>by rw [← e];exact h.1,fun h=>⟨by rw [e];exact h,c⟩⟩
    have hg:(rem G q i).get 2 0=lf (q.get 2 0) ((sl G i 2).length:Int):=rfl
    have ht:takes G q i↔((sl G i 2).length:Int)< q.get 2 0:=by unfold takes;rw [e];exact ⟨fun h=>h.2,fun h=>⟨by omega,h⟩⟩
    simp only [e,hg]
    rw [if_pos (by omega)]
    by_cases t:((sl G i 2).length:Int)< q.get 2 0
    ·have hlf:lf (q.get 2 0) ((sl G i 2).length:Int)=q.get 2 0 - ((sl G i 2).length:Int):=if_pos t
     rw [hlf,if_pos (by omega),if_pos (by omega),if_pos (by omega),i64w_id (by omega) (by omega)]
     have e1:inc G q (i+1)=inc G q i++[(i:Int)]:=by show (if takes G q i then _ else _)=_;rw [if_pos (ht.2 t)]
     rw [e1,orAll_snoc]
     have e2:(rem G q i).set 2 (q.get 2 0 - ((sl G i 2).length:Int) - 1)=rem G q (i+1):=by
      apply Ar.ext'
      simp only [rem,sl_succ,hc,Ar.set]
      simp [lf]
      split<;>omega
     rw [e2]
    ·have hlf:lf (q.get 2 0) ((sl G i 2).length:Int)=0:=if_neg t
     rw [hlf,if_neg (by omega)]
     have e1:inc G q (i+1)=inc G q i:=by show (if takes G q i then _ else _)=_;rw [if_neg (fun x=>t (ht.1 x))]
     rw [e1]
     have e2:rem G q (i+1)=rem G q i:=by
      apply Ar.ext'
      simp only [rem,sl_succ,hc]
      simp [lf]
      omega
     rw [e2]
   ·have hc:∀ j,(W G (i:Int)=j∧W G (i:Int)≤G.Qae)↔3=j:=fun j=>⟨fun h=>by rw [← e];exact h.1,fun h=>⟨by rw [e];exact h,c⟩⟩
    have hg:(rem G q i).get 3 0=lf (q.get 3 0) ((sl G i 3).length:Int):=rfl
    have ht:takes G q i↔((sl G i 3).length:Int)< q.get 3 0:=by unfold takes;rw [e];exact ⟨fun h=>h.2,fun h=>⟨by omega,h⟩⟩
    simp only [e,hg]
    rw [if_pos (by omega)]
    by_cases t:((sl G i 3).length:Int)< q.get 3 0
    ·have hlf:lf (q.get 3 0) ((sl G i 3).length:Int)=q.get 3 0 - ((sl G i 3).length:Int):=if_pos t
     rw [hlf,if_pos (by omega),if_pos (by omega),if_pos (by omega),i64w_id (by omega) (by omega)]
     have e1:inc G q (i+1)=inc G q i++[(i:Int)]:=by show (if takes G q i then _ else _)=_;rw [if_pos (ht.2 t)]
     rw [e1,orAll_snoc]
     have e2:(rem G q i).set 3 (q.get 3 0 - ((sl G i 3).length:Int) - 1)=rem G q (i+1):=by
      apply Ar.ext'
      simp only [rem,sl_succ,hc,Ar.set]
      simp [lf]
      split<;>omega
     rw [e2]
    ·have hlf:lf (q.get 3 0) ((sl G i 3).length:Int)=0:=if_neg t
     rw [hlf,if_neg (by omega)]
     have e1:inc G q (i+1)=inc G q i:=by show (if takes G q i then _ else _)=_;rw [if_neg (fun x=>t (ht.1 x))]
     rw [e1]
     have e2:rem G q (i+1)=rem G q i:=by
      apply Ar.ext'
      simp only [rem,sl_succ,hc]
      simp [lf]
      omega
     rw [e2]
  ·rw [if_neg c]
   have e1:inc G q (i+1)=inc G q i:=by show (if takes G q i then _ else _)=_;rw [if_neg (fun x=>c x.1)]
   have e2:rem G q (i+1)=rem G q i:=by
    simp only [rem,sl_succ,show ∀ j,¬ (W G (i:Int)=j∧W G (i:Int)≤G.Qae) from fun j hj=>c hj.2,if_false]
   rw [e1,e2]) (by
  simp only [Qa6.b0,i64w_id (x:=G.Qac) (by omega) (by omega)]
  unfold nG
  rw [if_neg (by omega)])
 have e0:rem G q 0=q:=by
  rw [Ar4 q]
  apply Ar.ext'
  show [lf (q.get 0 0) 0,lf (q.get 1 0) 0,lf (q.get 2 0) 0,lf (q.get 3 0) 0]=[q.get 0 0,q.get 1 0,q.get 2 0,q.get 3 0]
  have lz:∀ v:Int,0≤v→lf v 0=v:=fun v hv=>by unfold lf;split<;>omega
  have q0':0≤q.get 0 0:=q0.1
  have q1':0≤q.get 1 0:=q1.1
  have q2':0≤q.get 2 0:=q2.1
  have q3':0≤q.get 3 0:=q3.1
  rw [lz _ q0',lz _ q1',lz _ q2',lz _ q3']
 have q':rounds (fun s=>Qa6.b0 N G s.1 s.2.1 s.2.2) N (q,0,0)=some (.go (orAll 0 (inc G q (nG G)))):=by
  have:=qq
  simp only [e0] at this
  exact this
 unfold Qa6.f
 rw [q'];rfl
theorem or_loop {b:Int×Int→Option (Bd Int Int (Int×Int))} (l:List Int) {N:Nat} (hN:l.length< N)
 (hb:∀ s (i:Nat) (hi:i< l.length),b (s,(i:Int))=some (.next (bOr .u64 s (shlI .u64 1 l[i]),((i+1:Nat):Int))))
 (he:∀ s,b (s,(l.length:Int))=some (.out (.go s))) (s:Int):rounds b N (s,0)=some (.go (orAll s l)):=by
 have q:=rounds_walk0 (b:=b) (fun s i=>(s,i)) l (fun s m=>(.go (bOr .u64 s (shlI .u64 1 m)):Ex (Ex Int Int) Int)) (fun s=>(.go s:Ex Int Int)) (fun _ _=>True) (acc:=s) hN trivial (fun s i hi _=>⟨trivial,hb s i hi⟩) (fun s _=>he s)
 have w:∀ (l:List Int) (s:Int),walk (fun s m=>(.go (bOr .u64 s (shlI .u64 1 m)):Ex (Ex Int Int) Int)) (fun s=>(.go s:Ex Int Int)) s l= .go (orAll s l):=by
  intro l
  induction l with
  |nil=>intro s;rfl
  |cons m l ih=>intro s;exact ih _
 rw [w] at q
 exact q
theorem in_0 {N:Nat} {S:Ar (List Int) 4} {q:Ar Int 4} (l:List Int) (hl:((S.get 0 []).drop ((0:Int)).toNat).take (((q.get 0 0)).toNat - ((0:Int)).toNat)=l) (h0:∀ x∈l,0≤x) (h60:l.length≤60) (hN:70< N) (s:Int):
 rounds (fun s=>Qaq.b3 N S q 0 s.1 s.2) N (s,0)=some (.go (orAll s l)):=by
 refine or_loop l (by omega) ?_ ?_ s
 ·intro s i hi
  have g1:(i:Int)< l.length:=by omega
  have g2:(0:Int)≤i:=by omega
  have g3:0≤l[i]:=h0 _ (List.getElem_mem hi)
  simp only [Qaq.b3,hl,g1,g2,and_self,if_true,rdL_nat hi,g3,i64w_succ hi (show l.length≤9223372036854775807 by omega)]
 ·intro s
  simp only [Qaq.b3,hl]
  rw [if_neg (by omega)]
theorem in_1 {N:Nat} {S:Ar (List Int) 4} {q:Ar Int 4} (l:List Int) (hl:((S.get 1 []).drop ((0:Int)).toNat).take (((q.get 1 0)).toNat - ((0:Int)).toNat)=l) (h0:∀ x∈l,0≤x) (h60:l.length≤60) (hN:70< N) (s:Int):
 rounds (fun s=>Qaq.b5 N S q 1 s.1 s.2) N (s,0)=some (.go (orAll s l)):=by
 refine or_loop l (by omega) ?_ ?_ s
 ·intro s i hi
  have g1:(i:Int)< l.length:=by omega
  have g2:(0:Int)≤i:=by omega
  have g3:0≤l[i]:=h0 _ (List.getElem_mem hi)
  simp only [Qaq.b5,hl,g1,g2,and_self,if_true,rdL_nat hi,g3,i64w_succ hi (show l.length≤9223372036854775807 by omega)]
 ·intro s
  simp only [Qaq.b5,hl]
  rw [if_neg (by omega)]
theorem in_2 {N:Nat} {S:Ar (List Int) 4} {q:Ar Int 4} (l:List Int) (hl:((S.get 2 []).drop ((0:Int)).toNat).take (((q.get 2 0)).toNat - ((0:Int)).toNat)=l) (h0:∀ x∈l,0≤x) (h60:l.length≤60) (hN:70< N) (s:Int):
 rounds (fun s=>Qaq.b7 N S q 2 s.1 s.2) N (s,0)=some (.go (orAll s l)):=by
 refine or_loop l (by omega) ?_ ?_ s
 ·intro s i hi
  have g1:(i:Int)< l.length:=by omega
  have g2:(0:Int)≤i:=by omega
  have g3:0≤l[i]:=h0 _ (List.getElem_mem hi)
  simp only [Qaq.b7,hl,g1,g2,and_self,if_true,rdL_nat hi,g3,i64w_succ hi (show l.length≤9223372036854775807 by omega)]
 ·intro s
  simp only [Qaq.b7,hl]
  rw [if_neg (by omega)]
theorem in_3 {N:Nat} {S:Ar (List Int) 4} {q:Ar Int 4} (l:List Int) (hl:((S.get 3 []).drop ((0:Int)).toNat).take (((q.get 3 0)).toNat - ((0:Int)).toNat)=l) (h0:∀ x∈l,0≤x) (h60:l.length≤60) (hN:70< N) (s:Int):
 rounds (fun s=>Qaq.b9 N S q 3 s.1 s.2) N (s,0)=some (.go (orAll s l)):=by
 refine or_loop l (by omega) ?_ ?_ s
 ·intro s i hi
  have g1:(i:Int)< l.length:=by omega
  have g2:(0:Int)≤i:=by omega
  have g3:0≤l[i]:=h0 _ (List.getElem_mem hi)
  simp only [Qaq.b9,hl,g1,g2,and_self,if_true,rdL_nat hi,g3,i64w_succ hi (show l.length≤9223372036854775807 by omega)]
 ·intro s
  simp only [Qaq.b9,hl]
  rw [if_neg (by omega)]
def tk (G:Ga) (q:Ar Int 4) (k:Nat) (j:Int):List Int:=(sl G k j).take (q.get j 0).toNat
theorem tk_range {G:Ga} {q:Ar Int 4} {k:Nat} {j x:Int} (h:x∈tk G q k j):0≤x∧x< k:=sl_mem (List.mem_of_mem_take h)
theorem tk_len (G:Ga) (q:Ar Int 4) (k:Nat) (j:Int):(tk G q k j).length≤k:=by
 unfold tk
 have:=sl_len G k j
 rw [List.length_take]
 omega
theorem set_impl {N:Nat} {G:Ga} (h:OkG G) (hN:70< N) {q:Ar Int 4} (hq:∀ j:Nat,j< 4→0≤q.get j 0∧q.get j 0≤(arS G (nG G)).get j 0):
 Qaq.f N G q=some (orAll 0 (tk G q (nG G) 0++tk G q (nG G) 1++tk G q (nG G) 2++tk G q (nG G) 3)):=by
 have hn:=h.n60
 unfold B60 at hn
 have hn':nG G≤60:=by unfold nG;omega
 have q0:0≤q.get 0 0∧q.get 0 0≤((sl G (nG G) 0).length:Int):=hq 0 (by omega)
 have q1:0≤q.get 1 0∧q.get 1 0≤((sl G (nG G) 1).length:Int):=hq 1 (by omega)
 have q2:0≤q.get 2 0∧q.get 2 0≤((sl G (nG G) 2).length:Int):=hq 2 (by omega)
 have q3:0≤q.get 3 0∧q.get 3 0≤((sl G (nG G) 3).length:Int):=hq 3 (by omega)
 obtain ⟨N,rfl⟩:∃ M,N=M+5:=⟨N - 5,by omega⟩
 simp only [Qaq.f,G_eta,sorts_impl h hN,Option.bind_some]
 have e0:∀ s,Qaq.b0 (N+5) q (srS G) s 0=some (.next (orAll s (tk G q (nG G) 0),1)):=by
  intro s
  have hin:=in_0 (N:=N+5) (S:=srS G) (q:=q) (tk G q (nG G) 0) (by simp [tk,srS,Ar.get]) (fun x hx=>(tk_range hx).1) (by have:=tk_len G q (nG G) 0;omega) hN s
  unfold Qaq.b0
  rw [if_pos (show ((0:Int)< 4) by decide),if_pos (show ((0:Int)=0) by decide),if_pos (by decide),if_pos (show (0:Int)≤(0:Int)∧(0:Int)≤q.get 0 0∧q.get 0 0≤(((srS G).get 0 []).length:Int) from ⟨by decide,q0.1,q0.2⟩),hin]
  show some (Bd.next (_,i64w (0+1)))=_
  rw [show i64w (0+1)=1 by decide]
 have e1:∀ s,Qaq.b0 (N+5) q (srS G) s 1=some (.next (orAll s (tk G q (nG G) 1),2)):=by
  intro s
  have hin:=in_1 (N:=N+5) (S:=srS G) (q:=q) (tk G q (nG G) 1) (by simp [tk,srS,Ar.get]) (fun x hx=>(tk_range hx).1) (by have:=tk_len G q (nG G) 1;omega) hN s
  unfold Qaq.b0
  rw [if_pos (show ((1:Int)< 4) by decide),if_neg (show ¬ ((1:Int)=0) by decide),if_pos (show ((1:Int)=1) by decide),if_pos (by decide),if_pos (show (0:Int)≤(0:Int)∧(0:Int)≤q.get 1 0∧q.get 1 0≤(((srS G).get 1 []).length:Int) from ⟨by decide,q1.1,q1.2⟩),hin]
  show some (Bd.next (_,i64w (1+1)))=_
  rw [show i64w (1+1)=2 by decide]
 have e2:∀ s,Qaq.b0 (N+5) q (srS G) s 2=some (.next (orAll s (tk G q (nG G) 2),3)):=by
  intro s
  have hin:=in_2 (N:=N+5) (S:=srS G) (q:=q) (tk G q (nG G) 2) (by simp [tk,srS,Ar.get]) (fun x hx=>(tk_range hx).1) (by have:=tk_len G q (nG G) 2;omega) hN s
  unfold Qaq.b0
  rw [if_pos (show ((2:Int)< 4) by decide),if_neg (show ¬ ((2:Int)=0) by decide),if_neg (show ¬ ((2:Int)=1) by decide),if_pos (show ((2:Int)=2) by decide),if_pos (by decide),if_pos (show (0:Int)≤(0:Int)∧(0:Int)≤q.get 2 0∧q.get 2 0≤(((srS G).get 2 []).length:Int) from ⟨by decide,q2.1,q2.2⟩),hin]
  show some (Bd.next (_,i64w (2+1)))=_
  rw [show i64w (2+1)=3 by decide]
 have e3:∀ s,Qaq.b0 (N+5) q (srS G) s 3=some (.next (orAll s (tk G q (nG G) 3),4)):=by
  intro s
  have hin:=in_3 (N:=N+5) (S:=srS G) (q:=q) (tk G q (nG G) 3) (by simp [tk,srS,Ar.get]) (fun x hx=>(tk_range hx).1) (by have:=tk_len G q (nG G) 3;omega) hN s
  unfold Qaq.b0
  rw [if_pos (show ((3:Int)< 4) by decide),if_neg (show ¬ ((3:Int)=0) by decide),if_neg (show ¬ ((3:Int)=1) by decide),if_neg (show ¬ ((3:Int)=2) by decide),if_pos (show ((3:Int)=3) by decide),if_pos (by decide),if_pos (show (0:Int)≤(0:Int)∧(0:Int)≤q.get 3 0∧q.get 3 0≤(((srS G).get 3 []).length:Int) from ⟨by decide,q3.1,q3.2⟩),hin]
  show some (Bd.next (_,i64w (3+1)))=_
  rw [show i64w (3+1)=4 by decide]
 have e4:∀ s,Qaq.b0 (N+5) q (srS G) s 4=some (.out (.go s)):=by
  intro s
  unfold Qaq.b0
  rw [if_neg (by decide)]
 have qq:rounds (fun s=>Qaq.b0 (N+5) q (srS G) s.1 s.2) (N+5) (0,0)=some (.go (orAll 0 (tk G q (nG G) 0++tk G q (nG G) 1++tk G q (nG G) 2++tk G q (nG G) 3))):=by
  rw [rounds_next (e0 0),rounds_next (e1 _),rounds_next (e2 _),rounds_next (e3 _),rounds_out (e4 _)]
  simp only [orAll_append]
 rw [qq];rfl
theorem mem_snoc {l:List Int} {k x:Int} {a:Nat}:x∈(l++[k]).take a↔x∈l.take a∨(l.length< a∧x=k):=by
 rw [List.take_append,List.mem_append]
 by_cases c:l.length< a
 ·rw [show a - l.length=(a - l.length - 1)+1 by omega]
  simp [c]
 ·rw [show a - l.length=0 by omega]
  simp [c]
theorem inc_iff {G:Ga} (h:OkG G) {q:Ar Int 4} (hq:∀ j:Nat,j< 4→0≤q.get j 0):∀ (k:Nat) (x:Int),x∈inc G q k↔x∈tk G q k 0++tk G q k 1++tk G q k 2++tk G q k 3
 |0,x=>by simp [inc,tk,sl,idx]
 |k+1,x=>by
  have ih:=inc_iff h hq k x
  have q0:0≤q.get 0 0:=hq 0 (by omega)
  have q1:0≤q.get 1 0:=hq 1 (by omega)
  have q2:0≤q.get 2 0:=hq 2 (by omega)
  have q3:0≤q.get 3 0:=hq 3 (by omega)
  simp only [List.mem_append] at ih ⊢
  show x∈(if takes G q k then inc G q k++[(k:Int)] else inc G q k)↔_
  by_cases c:W G (k:Int)≤G.Qae
  ·rcases W_four h c with e|e|e|e
   ·have hc:∀ j,(W G (k:Int)=j∧W G (k:Int)≤G.Qae)↔0=j:=fun j=>⟨fun h=>by rw [← e];exact h.1,fun h=>⟨by rw [e];exact h,c⟩⟩
    have ht:takes G q k↔(sl G k 0).length< (q.get 0 0).toNat:=by unfold takes;rw [e];exact ⟨fun h=>by have:=h.2;omega,fun h=>⟨by omega,by omega⟩⟩
    have hj:x∈tk G q (k+1) 0↔x∈tk G q k 0∨((sl G k 0).length< (q.get 0 0).toNat∧x=(k:Int)):=by
     unfold tk
     rw [sl_succ,if_pos ((hc 0).2 rfl)]
     exact mem_snoc
    have h1:tk G q (k+1) 1=tk G q k 1:=by unfold tk;rw [sl_succ,if_neg (fun x=>absurd ((hc 1).1 x) (by decide))]
    have h2:tk G q (k+1) 2=tk G q k 2:=by unfold tk;rw [sl_succ,if_neg (fun x=>absurd ((hc 2).1 x) (by decide))]
    have h3:tk G q (k+1) 3=tk G q k 3:=by unfold tk;rw [sl_succ,if_neg (fun x=>absurd ((hc 3).1 x) (by decide))]
    rw [h1,h2,h3,hj]
    by_cases t:takes G q k
    ·rw [if_pos t,List.mem_append,List.mem_singleton,ih]
     have:=ht.1 t
     constructor
     ·rintro (h|h)
      ·rcases h with ((h|h)|h)|h<;>simp [h]
      ·simp [h,this]
     ·rintro (((h|h)|h)|h)
      all_goals first|(simp [h];done)|(rcases h with h|h<;>simp [h])
    ·rw [if_neg t,ih]
     have hn:¬ (sl G k 0).length< (q.get 0 0).toNat:=fun x=>t (ht.2 x)
     simp only [hn,false_and,or_false]
   ·have hc:∀ j,(W G (k:Int)=j∧W G (k:Int)≤G.Qae)↔1=j:=fun j=>⟨fun h=>by rw [← e];exact h.1,fun h=>⟨by rw [e];exact h,c⟩⟩
    have ht:takes G q k↔(sl G k 1).length< (q.get 1 0).toNat:=by unfold takes;rw [e];exact ⟨fun h=>by have:=h.2;omega,fun h=>⟨by omega,by omega⟩⟩
    have hj:x∈tk G q (k+1) 1↔x∈tk G q k 1∨((sl G k 1).length< (q.get 1 0).toNat∧x=(k:Int)):=by
     unfold tk
     rw [sl_succ,if_pos ((hc 1).2 rfl)]
     exact mem_snoc
    have h0:tk G q (k+1) 0=tk G q k 0:=by unfold tk;rw [sl_succ,if_neg (fun x=>absurd ((hc 0).1 x) (by decide))]
    have h2:tk G q (k+1) 2=tk G q k 2:=by unfold tk;rw [sl_succ,if_neg (fun x=>absurd ((hc 2).1 x) (by decide))]
    have h3:tk G q (k+1) 3=tk G q k 3:=by unfold tk;rw [sl_succ,if_neg (fun x=>absurd ((hc 3).1 x) (by decide))]
    rw [h0,h2,h3,hj]
    by_cases t:takes G q k
    ·rw [if_pos t,List.mem_append,List.mem_singleton,ih]
     have:=ht.1 t
     constructor
     ·rintro (h|h)
      ·rcases h with ((h|h)|h)|h<;>simp [h]
      ·simp [h,this]
     ·rintro (((h|h)|h)|h)
      all_goals first|(simp [h];done)|(rcases h with h|h<;>simp [h])
    ·rw [if_neg t,ih]
     have hn:¬ (sl G k 1).length< (q.get 1 0).toNat:=fun x=>t (ht.2 x)
     simp only [hn,false_and,or_false]
   ·have hc:∀ j,(W G (k:Int)=j∧W G (k:Int)≤G.Qae)↔2=j:=fun j=>⟨fun h=>by rw [← e];exact h.1,fun h=>⟨by rw [e];exact h,c⟩⟩
    have ht:takes G q k↔(sl G k 2).length< (q.get 2 0).toNat:=by unfold takes;rw [e];exact ⟨fun h=>by have:=h.2;omega,fun h=>⟨by omega,by omega⟩⟩
    have hj:x∈tk G q (k+1) 2↔x∈tk G q k 2∨((sl G k 2).length< (q.get 2 0).toNat∧x=(k:Int)):=by
     unfold tk
     rw [sl_succ,if_pos ((hc 2).2 rfl)]
     exact mem_snoc
    have h0:tk G q (k+1) 0=tk G q k 0:=by unfold tk;rw [sl_succ,if_neg (fun x=>absurd ((hc 0).1 x) (by decide))]
    have h1:tk G q (k+1) 1=tk G q k 1:=by unfold tk;rw [sl_succ,if_neg (fun x=>absurd ((hc 1).1 x) (by decide))]
    have h3:tk G q (k+1) 3=tk G q k 3:=by unfold tk;rw [sl_succ,if_neg (fun x=>absurd ((hc 3).1 x) (by decide))]
    rw [h0,h1,h3,hj]
    by_cases t:takes G q k
    ·rw [if_pos t,List.mem_append,List.mem_singleton,ih]
     have:=ht.1 t
     constructor
     ·rintro (h|h)
      ·rcases h with ((h|h)|h)|h<;>simp [h]
      ·simp [h,this]
     ·rintro (((h|h)|h)|h)
      all_goals first|(simp [h];done)|(rcases h with h|h<;>simp [h])
    ·rw [if_neg t,ih]
     have hn:¬ (sl G k 2).length< (q.get 2 0).toNat:=fun x=>t (ht.2 x)
     simp only [hn,false_and,or_false]
   ·have hc:∀ j,(W G (k:Int)=j∧W G (k:Int)≤G.Qae)↔3=j:=fun j=>⟨fun h=>by rw [← e];exact h.1,fun h=>⟨by rw [e];exact h,c⟩⟩
    have ht:takes G q k↔(sl G k 3).length< (q.get 3 0).toNat:=by unfold takes;rw [e];exact ⟨fun h=>by have:=h.2;omega,fun h=>⟨by omega,by omega⟩⟩
    have hj:x∈tk G q (k+1) 3↔x∈tk G q k 3∨((sl G k 3).length< (q.get 3 0).toNat∧x=(k:Int)):=by
     unfold tk
     rw [sl_succ,if_pos ((hc 3).2 rfl)]
     exact mem_snoc
    have h0:tk G q (k+1) 0=tk G q k 0:=by unfold tk;rw [sl_succ,if_neg (fun x=>absurd ((hc 0).1 x) (by decide))]
    have h1:tk G q (k+1) 1=tk G q k 1:=by unfold tk;rw [sl_succ,if_neg (fun x=>absurd ((hc 1).1 x) (by decide))]
    have h2:tk G q (k+1) 2=tk G q k 2:=by unfold tk;rw [sl_succ,if_neg (fun x=>absurd ((hc 2).1 x) (by decide))]
    rw [h0,h1,h2,hj]
    by_cases t:takes G q k
    ·rw [if_pos t,List.mem_append,List.mem_singleton,ih]
     have:=ht.1 t
     constructor
     ·rintro (h|h)
      ·rcases h with ((h|h)|h)|h<;>simp [h]
      ·simp [h,this]
     ·rintro (((h|h)|h)|h)
      all_goals first|(simp [h];done)|(rcases h with h|h<;>simp [h])
    ·rw [if_neg t,ih]
     have hn:¬ (sl G k 3).length< (q.get 3 0).toNat:=fun x=>t (ht.2 x)
     simp only [hn,false_and,or_false]
  ·have ht:¬ takes G q k:=fun x=>c x.1
   have hs:∀ j,tk G q (k+1) j=tk G q k j:=fun j=>by unfold tk;rw [sl_succ,if_neg (fun x=>c x.2)]
   rw [if_neg ht,hs,hs,hs,hs,ih]
theorem set_same {N:Nat} {G:Ga} (h:OkG G) (hN:70< N) {q:Ar Int 4} (hq:∀ j:Nat,j< 4→0≤q.get j 0∧q.get j 0≤(arS G (nG G)).get j 0):∃ r,Qa6.f N G q=some r∧Qaq.f N G q=some r:=by
 have hn:=h.n60
 unfold B60 at hn
 have hn':nG G≤60:=by unfold nG;omega
 have hb:∀ j:Nat,j< 4→(arS G (nG G)).get j 0≤60:=by
  intro j hj
  have h0:=sl_len G (nG G) 0
  have h1:=sl_len G (nG G) 1
  have h2:=sl_len G (nG G) 2
  have h3:=sl_len G (nG G) 3
  obtain rfl|rfl|rfl|rfl:j=0∨j=1∨j=2∨j=3:=by omega
  ·show ((sl G (nG G) 0).length:Int)≤60;omega
  ·show ((sl G (nG G) 1).length:Int)≤60;omega
  ·show ((sl G (nG G) 2).length:Int)≤60;omega
  ·show ((sl G (nG G) 3).length:Int)≤60;omega
 refine ⟨_,set_spec h hN fun j hj=>⟨(hq j hj).1,by have:=hq j hj;have:=hb j hj;omega⟩,?_⟩
 rw [set_impl h hN hq]
 congr 1
 refine orAll_same (fun x hx=>?_) (fun x hx=>?_) (fun x=>(inc_iff h (fun j hj=>(hq j hj).1) (nG G) x).symm)
 ·simp only [List.mem_append] at hx
  rcases hx with ((hx|hx)|hx)|hx<;>(have:=tk_range hx;omega)
 ·have:=inc_mem_range hx
  omega
theorem arS_range (G:Ga) {k:Nat} (hk:k≤60):∀ j:Nat,j< 4→0≤(arS G k).get j 0∧(arS G k).get j 0≤1000:=by
 intro j hj
 have h0:=sl_len G k 0
 have h1:=sl_len G k 1
 have h2:=sl_len G k 2
 have h3:=sl_len G k 3
 obtain rfl|rfl|rfl|rfl:j=0∨j=1∨j=2∨j=3:=by omega
 ·show 0≤((sl G k 0).length:Int)∧((sl G k 0).length:Int)≤1000;omega
 ·show 0≤((sl G k 1).length:Int)∧((sl G k 1).length:Int)≤1000;omega
 ·show 0≤((sl G k 2).length:Int)∧((sl G k 2).length:Int)≤1000;omega
 ·show 0≤((sl G k 3).length:Int)∧((sl G k 3).length:Int)≤1000;omega
def cd (G:Ga) (k:Nat):List Int:=(idx k).filter fun m=>decide (W G m≤G.Qae)
theorem cd_succ (G:Ga) (k:Nat):cd G (k+1)=if W G (k:Int)≤G.Qae then cd G k++[(k:Int)] else cd G k:=by
 unfold cd
 rw [idx_succ,List.filter_append]
 by_cases c:W G (k:Int)≤G.Qae
 ·rw [if_pos c];simp [c]
 ·rw [if_neg c];simp [c]
theorem cd_len (G:Ga) (k:Nat):(cd G k).length≤k:=by
 have:=List.length_filter_le (fun m=>decide (W G m≤G.Qae)) (idx k)
 rwa [idx_len] at this
theorem idx_sorted (n:Nat):(idx n).Pairwise (· ≤·):=by
 unfold idx
 rw [List.pairwise_map]
 exact List.Pairwise.imp (fun h=>by omega) (List.pairwise_lt_range)
theorem cd_sorted (G:Ga) (k:Nat):(cd G k).Pairwise (· ≤·):=(idx_sorted k).filter _
theorem cand_spec {N:Nat} {G:Ga} (h:OkG G) (hN:70< N):QaN.f N G=some (cd G (nG G)):=by
 have hn:=h.n60
 have hl:=h.l3
 unfold B60 at hn
 have e1:i64w G.Qac=G.Qac:=i64w_id (by omega) (by omega)
 have e2:i64w G.Qae=G.Qae:=i64w_id (by omega) (by omega)
 have hnG:(nG G:Int)=G.Qac:=by unfold nG;omega
 have q:=rounds_for (b:=fun s=>QaN.b0 N G s.1 s.2) (e:= .go (cd G (nG G))) (fun k=>(cd G k,(k:Int))) (nG G) 0 N (Nat.zero_le _) (by unfold nG;omega) (by
  intro k _ hk
  have hlen:=cd_len G k
  simp only [QaN.b0,QaN.j2,e1,e2,if_pos (show (k:Int)< G.Qac by omega),G_eta,lies_spec h.len hN (m:=(k:Int)) (by omega),Option.bind_some,List.length_singleton,if_pos (show (cd G k).length+1≤17592186044416 by omega),i64w_succ hk (show nG G≤9223372036854775807 by omega)]
  rw [cd_succ]
  by_cases c:W G (k:Int)≤G.Qae
  ·rw [if_pos c,if_pos c]
  ·rw [if_neg c,if_neg c]) (by
  simp only [QaN.b0,e1]
  rw [if_neg (by omega)])
 unfold QaN.f
 have q':rounds (fun s=>QaN.b0 N G s.1 s.2) N ([],0)=some (.go (cd G (nG G))):=q
 rw [q'];rfl
theorem grow_ok {N:Nat} {n:Int} (h0:0≤n) (h1:n≤1000):Qbe.f N n=some []:=by
 have e:i64w (n - (i64w (0 - (([]:List Int).length:Int))))=n:=by
  rw [show (([]:List Int).length:Int)=0 from rfl,i64w_id (x:=0 - 0) (by decide) (by decide),i64w_id (by omega) (by omega)];omega
 unfold Qbe.f
 rw [if_neg (by omega),e]
 by_cases c:n>0
 ·rw [if_pos c,if_pos ⟨by omega,by omega⟩,if_pos ⟨by decide,by simp,by simp;omega⟩]
  simp
 ·rw [if_neg c]
theorem concat_ok {N:Nat} {xs:List (List Int)} (h:(xs.map List.length).sum≤1000) (hl:xs.length≤50) (hN:70< N):Qay.f N xs=some xs.flatten:=by
 have hb:∀ i:Nat,i≤xs.length→((xs.take i).map List.length).sum≤1000:=by
  intro i hi
  have:((xs.take i).map List.length).sum+((xs.drop i).map List.length).sum=(xs.map List.length).sum:=by
   rw [← List.sum_append,← List.map_append,List.take_append_drop]
  omega
 have q1:=rounds_for (b:=fun s=>Qay.b0 N xs s.1 s.2) (e:= .go (((xs.map List.length).sum:Nat):Int)) (fun i=>(((((xs.take i).map List.length).sum:Nat):Int),(i:Int))) xs.length 0 N (Nat.zero_le _) (by omega) (by
  intro i _ hi
  have h1:=hb i (by omega)
  have h2:=hb (i+1) (by omega)
  have e1:((xs.take (i+1)).map List.length).sum=((xs.take i).map List.length).sum+xs[i].length:=by
   rw [List.take_succ_eq_append_getElem hi,List.map_append,List.sum_append];simp
  have e2:i64w (((((xs.take i).map List.length).sum:Nat):Int)+(xs[i].length:Int))=((((xs.take (i+1)).map List.length).sum:Nat):Int):=by
   rw [i64w_id (by omega) (by omega)];omega
  simp only [Qay.b0,if_pos (show (i:Int)< (xs.length:Int) by omega),if_pos (show (0:Int)≤(i:Int)∧(i:Int)< (xs.length:Int) from ⟨by omega,by omega⟩),rdL_nat hi,e2,i64w_succ hi (show xs.length≤9223372036854775807 by omega)]
  rw [if_neg (by omega)]) (by
  simp only [Qay.b0,List.take_length]
  rw [if_neg (by omega)])
 have q1':rounds (fun s=>Qay.b0 N xs s.1 s.2) N (0,0)=some (.go (((xs.map List.length).sum:Nat):Int)):=q1
 have hfl:∀ i:Nat,i≤xs.length→(xs.take i).flatten.length≤1000:=by
  intro i hi
  rw [List.length_flatten]
  exact hb i hi
 have q2:=rounds_for (b:=fun s=>Qay.b2 N xs s.1 s.2) (e:= .go xs.flatten) (fun i=>((xs.take i).flatten,(i:Int))) xs.length 0 N (Nat.zero_le _) (by omega) (by
  intro i _ hi
  have h1:=hfl i (by omega)
  have h2:=hfl (i+1) (by omega)
  have e1:(xs.take (i+1)).flatten=(xs.take i).flatten++xs[i]:=by
   rw [List.take_succ_eq_append_getElem hi,List.flatten_append];simp
  rw [e1,List.length_append] at h2
  simp only [Qay.b2,if_pos (show (i:Int)< (xs.length:Int) by omega),if_pos (show (0:Int)≤(i:Int)∧(i:Int)< (xs.length:Int) from ⟨by omega,by omega⟩),rdL_nat hi,if_pos (show (xs.take i).flatten.length+xs[i].length≤17592186044416 by omega),i64w_succ hi (show xs.length≤9223372036854775807 by omega),e1]) (by
  simp only [Qay.b2,List.take_length]
  rw [if_neg (by omega)])
 have q2':rounds (fun s=>Qay.b2 N xs s.1 s.2) N ([],0)=some (.go xs.flatten):=q2
 simp only [Qay.f,q1',Option.bind_some,Ex.fin,Qay.a0,grow_ok (N:=N) (n:=(((xs.map List.length).sum:Nat):Int)) (by omega) (by omega),q2',Qay.a2]
theorem sl_perm {G:Ga} (h:OkG G):∀ k:Nat,(sl G k 0++(sl G k 1++(sl G k 2++sl G k 3))).Perm (cd G k)
 |0=>by simp [sl,cd,idx]
 |k+1=>by
  have ih:=List.perm_iff_count.1 (sl_perm h k)
  rw [List.perm_iff_count]
  intro x
  have q:=ih x
  rw [sl_succ,sl_succ,sl_succ,sl_succ,cd_succ]
  simp only [List.count_append] at q ⊢
  by_cases c:W G (k:Int)≤G.Qae
  ·rcases W_four h c with e|e|e|e
   all_goals
    simp only [e,c,true_and,false_and,if_true,if_false,List.count_append,show ¬ ((0:Int)=1) by decide,show ¬ ((0:Int)=2) by decide,show ¬ ((0:Int)=3) by decide,show ¬ ((1:Int)=0) by decide,show ¬ ((1:Int)=2) by decide,show ¬ ((1:Int)=3) by decide,show ¬ ((2:Int)=0) by decide,show ¬ ((2:Int)=1) by decide,show ¬ ((2:Int)=3) by decide,show ¬ ((3:Int)=0) by decide,show ¬ ((3:Int)=1) by decide,show ¬ ((3:Int)=2) by decide]
    have c':=c
    rw [e] at c'
    simp only [c',if_true,List.count_append]
    omega
  ·simp only [c,and_false,if_false]
   exact q
theorem sort_eq {l l':List Int} (hp:l.Perm l') (hs:l'.Pairwise (· ≤·)):(l.mergeSort fun x y=>decide (x≤y))=l':=by
 refine List.Perm.eq_of_pairwise (le:=fun a b=>a≤b) (fun a b _ _ h1 h2=>Int.le_antisymm h1 h2) ?_ hs ((List.mergeSort_perm l _).trans hp)
 have:=List.pairwise_mergeSort (le:=fun x y:Int=>decide (x≤y)) (fun a b c h1 h2=>by simp at h1 h2 ⊢;omega) (fun a b=>by simp;omega) l
 exact this.imp (fun h=>by simpa using h)
theorem cand_impl {N:Nat} {G:Ga} (h:OkG G) (hN:70< N):Qbf.f N G=some (cd G (nG G)):=by
 have hn:=h.n60
 unfold B60 at hn
 have hnG:nG G≤60:=by unfold nG;omega
 have h0:=sl_len G (nG G) 0
 have h1:=sl_len G (nG G) 1
 have h2:=sl_len G (nG G) 2
 have h3:=sl_len G (nG G) 3
 have g:(srS G).get 0 []=sl G (nG G) 0∧(srS G).get 1 []=sl G (nG G) 1∧(srS G).get 2 []=sl G (nG G) 2∧(srS G).get 3 []=sl G (nG G) 3:=⟨rfl,rfl,rfl,rfl⟩
 have hc:=concat_ok (N:=N) (xs:=[sl G (nG G) 0,sl G (nG G) 1,sl G (nG G) 2,sl G (nG G) 3]) (by simp;omega) (by simp) hN
 have hflat:[sl G (nG G) 0,sl G (nG G) 1,sl G (nG G) 2,sl G (nG G) 3].flatten=sl G (nG G) 0++(sl G (nG G) 1++(sl G (nG G) 2++sl G (nG G) 3)):=by simp
 rw [hflat] at hc
 have hlen:(sl G (nG G) 0++(sl G (nG G) 1++(sl G (nG G) 2++sl G (nG G) 3))).length< 4611686018427387904:=by simp only [List.length_append];omega
 simp only [Qbf.f,G_eta,sorts_impl h hN,Option.bind_some,g.1,g.2.1,g.2.2.1,g.2.2.2,hc,QbD.f,if_pos hlen,sort_eq (sl_perm h (nG G)) (cd_sorted G (nG G))]
theorem found_spec {N:Nat} {G:Ga} (h:OkG G) (hN:70< N):Qb6.f N G=some (if (cd G (nG G)).length=0 then (0,8) else if (cd G (nG G)).length=1 then (rdL (cd G (nG G)) 0 0,0) else (0,4)):=by
 simp only [Qb6.f,G_eta,cand_spec h hN,Option.bind_some]
 by_cases c0:(cd G (nG G)).length=0
 ·rw [if_pos (by omega),if_pos c0]
 ·rw [if_neg (by omega),if_neg c0]
  by_cases c1:(cd G (nG G)).length=1
  ·rw [if_pos (by omega),if_pos c1,if_pos ⟨by omega,by omega⟩]
  ·rw [if_neg (by omega),if_neg c1]
theorem all_bits:∀ n:Nat,n< 61→∀ i:Nat,i< 64→(B64 ((2:Int)^n - 1)).getLsbD i=decide (i< n):=by decide+kernel
theorem not_bad {n:Int} (hn:B60 n) {l:List Int} (hl:∀ x∈l,0≤x∧x< n) (b:Bool):bad n ⟨orAll 0 l,b⟩=false:=by
 unfold B60 at hn
 have hv:(B64 (orAll 0 l)&&& ~~~B64 (allN n))=0#64:=by
  apply BitVec.eq_of_getLsbD_eq
  intro i hi
  rw [BitVec.getLsbD_and,BitVec.getLsbD_not,orAll_bits l 0 (fun x hx=>by have:=hl x hx;omega) i hi]
  have hz:(B64 0).getLsbD i=false:=by simp [B64]
  have ha:=all_bits n.toNat (by omega) i hi
  unfold allN
  rw [hz,ha]
  by_cases c:(i:Int)∈l
  ·have:=hl _ c
   have h2:i< n.toNat:=by omega
   simp [h2]
  ·have:l.contains (i:Int)=false:=by simpa using c
   rw [this]
   simp
 unfold bad
 have e:bAndNot .u64 (orAll 0 l) (allN n)=u64w (((B64 (orAll 0 l)&&& ~~~B64 (allN n)).toNat:Nat):Int):=rfl
 rw [e,hv]
 rfl
theorem next_set {N:Nat} {G:Ga} (hG:InG G) (hN:70< N) (hk:okG G=true):∃ x q s,QaU.f N G=some x∧QaQ.f N x=some q∧Qa6.f N G q=some s∧QbM.f N G=some (s,0)∧∀ b,bad G.Qac ⟨s,b⟩=false:=by
 have h:=okG_iff hk
 have hn:=h.n60
 have hn':=hn
 unfold B60 at hn
 obtain ⟨r,e1,e2,hr⟩:=half_both (N:=N) hN (x:=arS G (nG G)) (arS_range G (by unfold nG;omega))
 obtain ⟨s,e3,e4⟩:=set_same h hN hr
 have hx:=arS_range G (k:=nG G) (by unfold nG;omega)
 have e5:=set_spec h hN (q:=r) (fun j hj=>by have:=hr j hj;have:=hx j hj;omega)
 have es:s=orAll 0 (inc G r (nG G)):=QsJ (e3.symm.trans e5)
 refine ⟨_,_,_,state_spec h hN,e1,e3,?_,fun b=>?_⟩
 ·simp only [QbM.f,G_eta,okG_impl hG hN,if_pos hk,state_impl h hN,Option.bind_some,e2,e4]
 ·rw [es]
  exact not_bad hn' (fun x hx=>by have:=inc_mem_range hx;unfold nG at this;omega) b
theorem six_tab:∀ a:Nat,a< 64→u64w (bAnd .i64 (a:Int) 63)=(a:Int):=by decide+kernel
theorem within_eq (N:Nat) (a b c:Int):Qbg.f N a b c=some (decide (b≤a∧a≤c)):=by
 unfold Qbg.f
 by_cases h:b≤a
 ·rw [if_pos h]
  simp [h]
 ·rw [if_neg h]
  simp [h]
theorem l00In_eq (N:Nat) (a b c:Int):Qbs.f N a b c=some (decide (b≤a∧a≤c)):=within_eq N a b c
theorem answer_both {N:Nat} {s m:Int} (hm:0≤m∧m≤63) (w:Bool):∃ b,Qbo.f N s m w=some b∧QbA.f N s m w=some b:=by
 have e1:mxI m 0=m:=by unfold mxI;rw [if_neg (by omega)]
 have e2:u64w (bAnd .i64 m 63)=m:=by
  have:=six_tab m.toNat (by omega)
  rwa [Int.toNat_of_nonneg hm.1] at this
 simp only [Qbo.f,QbA.f,within_eq,l00In_eq,decide_eq_true hm,Option.bind_some,if_true,e1,e2,if_pos hm.1]
 exact ⟨_,rfl,rfl⟩
theorem with_both {N:Nat} {G:Ga} (hl:G.Qah.length≤60) (s:Int) (b:Bool):Qby.f N G s b=some ⟨G.Qac,G.Qae,G.Qah++[⟨s,b⟩]⟩∧QbP.f N G s b=some ⟨G.Qac,G.Qae,G.Qah++[⟨s,b⟩]⟩:=by
 have g1:([]:List As_).length+G.Qah.length≤8796093022208:=by simp;omega
 have g2:(G.Qah.length+([(⟨s,b⟩:As_)]).length)≤8796093022208:=by simp;omega
 constructor
 ·simp only [Qby.f,Qbk.f,if_pos g1,Option.bind_some,List.nil_append,if_pos g2]
 ·simp only [QbP.f,if_pos g1,List.nil_append,if_pos g2]
def okP (n l:Int):Bool:=decide (1≤n∧n≤60)&&decide (0≤l∧l≤3)
theorem game_impl (N:Nat) (n l:Int):QbQ.f N n l=some (okP n l):=by
 unfold okP
 simp only [QbQ.f,within_eq,Option.bind_some]
 by_cases c:1≤n∧n≤60
 ·simp [c]
 ·simp [c]
theorem game_spec (N:Nat) (n l:Int):QbE.f N n l=some (okP n l):=game_impl N n l
theorem play_both {N:Nat} (hN:200< N) {n l m:Int} (hn:1≤n∧n≤60) (hl:0≤l∧l≤3) (hm:0≤m∧m≤63) (ws:List Bool):
 ∃ r:Ga×Int×Int,QaR.f N n l m ws=some r∧((rounds (fun s=>QaP.b0 N ws m s.1 s.2.1 s.2.2.1 s.2.2.2) N (i8w n,i8w l,[],0)).bind (Ex.fin fun s=>QaP.a0 N))=some r∧r.1.Qah.length≤60:=by
 have e8n:i8w n=n:=i8w_id (by omega) (by omega)
 have e8l:i8w l=l:=i8w_id (by omega) (by omega)
 obtain ⟨e,e',h1,h2,h3⟩:=rounds_both (b:=fun s=>QaR.b0 N ws m s.1 s.2.1 s.2.2) (b':=fun s=>QaP.b0 N ws m s.1 s.2.1 s.2.2.1 s.2.2.2)
  (fun s s'=>∃ A:List As_,s=(n,l,A)∧s'=(n,l,A,(A.length:Int))∧A.length≤60∧okG ⟨n,l,A⟩=true) (fun s=>60 - s.2.2.length)
  (fun e e'=>∃ r:Ga×Int×Int,e= .ret r∧e'= .ret r∧r.1.Qah.length≤60) (by
  rintro s s' ⟨A,rfl,rfl,hA,hk⟩
  have hG:InG (⟨n,l,A⟩:Ga):=⟨⟨by show -128≤n;omega,by show n≤127;omega⟩,⟨by show -128≤l;omega,by show l≤127;omega⟩⟩
  have h:=okG_iff hk
  have fs:=found_spec (N:=N) h (by omega)
  have fi:=cand_impl (N:=N) h (by omega)
  by_cases c0:(cd (⟨n,l,A⟩:Ga) (nG ⟨n,l,A⟩)).length=0
  ·left
   rw [if_pos c0] at fs
   simp only [QaR.b0,QaP.b0,fs,fi,Option.bind_some,if_pos (show ((cd (⟨n,l,A⟩:Ga) (nG ⟨n,l,A⟩)).length:Int)=0 by omega),if_neg (show ¬ ((8:Int)=0) by decide),if_true]
   exact ⟨_,_,rfl,rfl,_,rfl,rfl,by simp⟩
  ·rw [if_neg c0] at fs
   by_cases c1:(cd (⟨n,l,A⟩:Ga) (nG ⟨n,l,A⟩)).length=1
   ·left
    rw [if_pos c1] at fs
    simp only [QaR.b0,QaP.b0,fs,fi,Option.bind_some,if_neg (show ¬ ((cd (⟨n,l,A⟩:Ga) (nG ⟨n,l,A⟩)).length:Int)=0 by omega),if_pos (show ((cd (⟨n,l,A⟩:Ga) (nG ⟨n,l,A⟩)).length:Int)=1 by omega),if_pos (show (0:Int)≤0∧0< ((cd (⟨n,l,A⟩:Ga) (nG ⟨n,l,A⟩)).length:Int) by omega),if_true]
    exact ⟨_,_,rfl,rfl,_,rfl,rfl,hA⟩
   ·rw [if_neg c1] at fs
    by_cases c2:A.length=60
    ·left
     simp only [QaR.b0,QaP.b0,fs,fi,Option.bind_some,if_neg (show ¬ ((cd (⟨n,l,A⟩:Ga) (nG ⟨n,l,A⟩)).length:Int)=0 by omega),if_neg (show ¬ ((cd (⟨n,l,A⟩:Ga) (nG ⟨n,l,A⟩)).length:Int)=1 by omega),if_neg (show ¬ ((4:Int)=0) by decide),if_neg (show ¬ ((4:Int)=8) by decide),if_pos (show (A.length:Int)=60 by omega)]
     exact ⟨_,_,rfl,rfl,_,rfl,rfl,by simp⟩
    ·right
     obtain ⟨x,q,s,t1,t2,t3,t4,hb⟩:=next_set (N:=N) hG (by omega) hk
     have hok:∀ b,okG (⟨n,l,A++[⟨s,b⟩]⟩:Ga)=true:=by
      intro b
      have hbb:=hb b
      unfold okG at hk ⊢
      simp only [Bool.and_eq_true,decide_eq_true_eq] at hk ⊢
      refine ⟨hk.1,hk.2.1,by simp;omega,?_⟩
      rw [List.any_append]
      have:=hk.2.2.2
      simp only [Bool.not_eq_true',Bool.or_eq_false_iff,List.any_cons,List.any_nil,Bool.or_false] at this ⊢
      exact ⟨this,hbb⟩
     have hnext:i64w ((A.length:Int)+1)=((A.length+1:Nat):Int):=by rw [i64w_id (by omega) (by omega)];omega
     have fin:∀ b,∃ t t':_,QaR.j2 N n l (A++[(⟨s,b⟩:As_)])=some (.next t)∧QaP.j2 N (A.length:Int) n l (A++[(⟨s,b⟩:As_)])=some (.next t')∧
      (∃ B:List As_,t=(n,l,B)∧t'=(n,l,B,(B.length:Int))∧B.length≤60∧okG ⟨n,l,B⟩=true)∧60 - t.2.2.length< 60 - A.length:=by
      intro b
      refine ⟨_,_,rfl,rfl,⟨A++[⟨s,b⟩],rfl,by rw [hnext];simp,by simp;omega,hok b⟩,by simp;omega⟩
     by_cases c3:(A.length:Int)< (ws.length:Int)
     ·obtain ⟨b,a1,a2⟩:=answer_both (N:=N) (s:=s) hm (rdL ws (A.length:Int) false)
      obtain ⟨w1,w2⟩:=with_both (N:=N) (G:=⟨n,l,A⟩) hA s b
      simp only [QaR.b0,QaP.b0,fs,fi,Option.bind_some,if_neg (show ¬ ((cd (⟨n,l,A⟩:Ga) (nG ⟨n,l,A⟩)).length:Int)=0 by omega),if_neg (show ¬ ((cd (⟨n,l,A⟩:Ga) (nG ⟨n,l,A⟩)).length:Int)=1 by omega),if_neg (show ¬ ((4:Int)=0) by decide),if_neg (show ¬ ((4:Int)=8) by decide),if_neg (show ¬ (A.length:Int)=60 by omega),t1,t2,t3,t4,if_pos c3,if_pos (show (0:Int)≤(A.length:Int)∧(A.length:Int)< (ws.length:Int) from ⟨by omega,c3⟩),a1,a2,w1,w2]
      exact fin b
     ·obtain ⟨b,a1,a2⟩:=answer_both (N:=N) (s:=s) hm false
      obtain ⟨w1,w2⟩:=with_both (N:=N) (G:=⟨n,l,A⟩) hA s b
      simp only [QaR.b0,QaP.b0,fs,fi,Option.bind_some,if_neg (show ¬ ((cd (⟨n,l,A⟩:Ga) (nG ⟨n,l,A⟩)).length:Int)=0 by omega),if_neg (show ¬ ((cd (⟨n,l,A⟩:Ga) (nG ⟨n,l,A⟩)).length:Int)=1 by omega),if_neg (show ¬ ((4:Int)=0) by decide),if_neg (show ¬ ((4:Int)=8) by decide),if_neg (show ¬ (A.length:Int)=60 by omega),t1,t2,t3,t4,if_neg c3,a1,a2,w1,w2]
      exact fin b) N N (n,l,[]) (n,l,[],0) ⟨[],rfl,rfl,by simp,by
   unfold okG
   have hB:B60 n:=hn
   simp [hB,hl]⟩ (by simp;omega) (by simp;omega)
 obtain ⟨r,rfl,rfl,hr⟩:=h3
 refine ⟨r,?_,?_,hr⟩
 ·simp only [QaR.f,e8n,e8l,h1,Option.bind_some,Ex.fin]
 ·simp only [e8n,e8l,h2,Option.bind_some,Ex.fin]
theorem Play_same {N:Nat} (hN:200< N) {n l m:Int} (ws:List Bool):∃ r:Ga×Int×Int,QbK.f N n l m ws=some r∧QaP.f N n l m ws=some r∧r.1.Qah.length≤60:=by
 simp only [QbK.f,QaP.f,game_spec,game_impl,Option.bind_some]
 by_cases c:okP n l=true
 ·have hc:=c
  unfold okP at hc
  simp only [Bool.and_eq_true,decide_eq_true_eq] at hc
  simp only [if_pos c,i64w_id (x:=n - 1) (by omega) (by omega),within_eq,l00In_eq,Option.bind_some]
  by_cases d:0≤m∧m≤n - 1
  ·obtain ⟨r,e1,e2,hr⟩:=play_both (N:=N) hN hc.1 hc.2 (m:=m) (by omega) ws
   simp only [decide_eq_true d,if_true,e1,e2,Option.bind_some]
   exact ⟨r,rfl,rfl,hr⟩
  ·simp only [decide_eq_false d,Bool.false_eq_true,if_false]
   exact ⟨_,rfl,rfl,by simp⟩
 ·simp only [if_neg c]
  exact ⟨_,rfl,rfl,by simp⟩
theorem Worst_same {N:Nat} (hN:200< N) {n l:Int}:∃ r:Int×Int×Int,QaM.f N n l=some r∧QaW.f N n l=some r:=by
 simp only [QaM.f,QaW.f,game_spec,game_impl,Option.bind_some]
 by_cases c:okP n l=true
 ·have hc:=c
  unfold okP at hc
  simp only [Bool.and_eq_true,decide_eq_true_eq] at hc
  obtain ⟨e,e',h1,h2,h3⟩:=rounds_both (b:=fun s=>QaM.b0 N n l s.1 s.2.1 s.2.2) (b':=fun s=>QaW.b0 N n l s.1 s.2.1 s.2.2)
   (fun s s'=>s=s'∧0≤s.2.2∧s.2.2≤n) (fun s=>(n - s.2.2).toNat) (fun e e'=>e=e') (by
   rintro ⟨x,y,i⟩ s' ⟨rfl,i0,i1⟩
   simp only at i0 i1
   by_cases ci:i< n
   ·obtain ⟨r,e1,e2,hr⟩:=play_both (N:=N) hN hc.1 hc.2 (m:=i) (by omega) ([]:List Bool)
    have e3:QaP.f N n l i []=some r:=by
     simp only [QaP.f,game_impl,Option.bind_some,if_pos c,i64w_id (x:=n - 1) (by omega) (by omega),within_eq,decide_eq_true (show 0≤i∧i≤n - 1 by omega),if_true,e2]
    by_cases d:r.2.2=0
    ·right
     by_cases d2:(r.1.Qah.length:Int)>y
     ·simp only [QaM.b0,QaW.b0,if_pos ci,e1,e3,Option.bind_some,if_pos d,Qbw.f,if_pos d2,QaM.j2,QaW.j2,i64w_id (x:=i+1) (by omega) (by omega)]
      exact ⟨_,_,rfl,rfl,⟨rfl,by dsimp only;omega,by dsimp only;omega⟩,by dsimp only;omega⟩
     ·simp only [QaM.b0,QaW.b0,if_pos ci,e1,e3,Option.bind_some,if_pos d,Qbw.f,if_neg d2,QaM.j2,QaW.j2,i64w_id (x:=i+1) (by omega) (by omega)]
      exact ⟨_,_,rfl,rfl,⟨rfl,by dsimp only;omega,by dsimp only;omega⟩,by dsimp only;omega⟩
    ·left
     simp only [QaM.b0,QaW.b0,if_pos ci,e1,e3,Option.bind_some,if_neg d]
     exact ⟨_,_,rfl,rfl,rfl⟩
   ·left
    simp only [QaM.b0,QaW.b0,if_neg ci]
    exact ⟨_,_,rfl,rfl,rfl⟩) N N (0,(-1),0) (0,(-1),0) ⟨rfl,by simp,by simp;omega⟩ (by simp;omega) (by simp;omega)
  subst h3
  simp only [if_pos c,h1,h2,Option.bind_some]
  cases e with
  |ret r=>exact ⟨_,rfl,rfl⟩
  |go s=>exact ⟨_,rfl,rfl⟩
 ·simp only [if_neg c]
  exact ⟨_,rfl,rfl⟩
def withinB (q x:Ar Int 4):Bool:=!((idx 4).any fun j=>!(decide (0≤q.get j 0)&&decide (q.get j 0≤x.get j 0)))
theorem within_spec {N:Nat} (hN:70< N) (q x:Ar Int 4):Qbc.f N q x=some (withinB q x):=by
 obtain ⟨e,he,hq⟩:=rounds_any (b:=fun s=>Qbc.b0 N q x s) (idx 4) (fun j=>!(decide (0≤q.get j 0)&&decide (q.get j 0≤x.get j 0))) (fun _=>false) (N:=N) (by rw [idx_len];omega) (by
  intro i hi
  have e:(idx 4)[i]=(i:Int):=by simp [idx]
  rw [e]
  rw [idx_len] at hi
  have g1:((i:Nat):Int)< 4:=by omega
  have g2:(0:Int)≤(i:Int):=by omega
  have hn:i64w ((i:Int)+1)=((i+1:Nat):Int):=by rw [i64w_id (by omega) (by omega)];omega
  simp only [Qbc.b0,Qbs.f,g1,g2,and_self,if_true,hn]
  by_cases c:0≤q.get (i:Int) 0
  ·by_cases c2:q.get (i:Int) 0≤x.get (i:Int) 0
   ·simp [c,c2]
   ·simp [c,c2]
  ·simp [c]) (by
  rw [idx_len]
  simp only [Qbc.b0]
  rw [if_neg (by omega)])
 unfold Qbc.f withinB
 rw [he]
 by_cases c4:((idx 4).any fun j=>!(decide (0≤q.get j 0)&&decide (q.get j 0≤x.get j 0)))=true
 ·rw [if_pos c4] at hq
  obtain ⟨i,rfl⟩:=hq
  rw [c4];rfl
 ·rw [if_neg c4] at hq
  subst hq
  rw [Bool.not_eq_true] at c4
  rw [c4];rfl
theorem within_impl {N:Nat} (hN:70< N) (q x:Ar Int 4):Qbv.f N x q=some (withinB q x):=by
 obtain ⟨e,he,hq⟩:=rounds_any (b:=fun s=>Qbv.b0 N q x s) (idx 4) (fun j=>!(decide (0≤q.get j 0)&&decide (q.get j 0≤x.get j 0))) (fun _=>false) (N:=N) (by rw [idx_len];omega) (by
  intro i hi
  have e:(idx 4)[i]=(i:Int):=by simp [idx]
  rw [e]
  rw [idx_len] at hi
  have g1:((i:Nat):Int)< 4:=by omega
  have g2:(0:Int)≤(i:Int):=by omega
  have hn:i64w ((i:Int)+1)=((i+1:Nat):Int):=by rw [i64w_id (by omega) (by omega)];omega
  simp only [Qbv.b0,Qbg.f,g1,g2,and_self,if_true,hn]
  by_cases c:0≤q.get (i:Int) 0
  ·by_cases c2:q.get (i:Int) 0≤x.get (i:Int) 0
   ·simp [c,c2]
   ·simp [c,c2]
  ·simp [c]) (by
  rw [idx_len]
  simp only [Qbv.b0]
  rw [if_neg (by omega)])
 unfold Qbv.f withinB
 rw [he]
 by_cases c4:((idx 4).any fun j=>!(decide (0≤q.get j 0)&&decide (q.get j 0≤x.get j 0)))=true
 ·rw [if_pos c4] at hq
  obtain ⟨i,rfl⟩:=hq
  rw [c4];rfl
 ·rw [if_neg c4] at hq
  subst hq
  rw [Bool.not_eq_true] at c4
  rw [c4];rfl
def bitB (s m:Int):Bool:=(bAnd .u64 (shrI .u64 s m) 1)==1
theorem wrongB_eq (a:As_) (m:Int):wrongB a m=(bitB a.Qbh m !=a.QbH):=rfl
theorem shr_natP {x k:Nat} (h:x< 18446744073709551616) (hk:k< 64):shrI .u64 (x:Int) (k:Int)=((x/2^k:Nat):Int):=by
 unfold shrI
 have hlt:x/2^k≤x:=Nat.div_le_self _ _
 have e:((x:Int)).fdiv (2^min k 64)=((x/2^k:Nat):Int):=by
  rw [show min k 64=k by omega,Int.fdiv_eq_ediv_of_nonneg _ (by exact Int.le_of_lt (Int.pow_pos (by decide))),Int.natCast_ediv]
  simp
 simp [IntKind.bits,IntKind.signed,e]
theorem and1 {x:Nat} (h:x< 18446744073709551616):bAnd .u64 (x:Int) 1=((x%2:Nat):Int):=by
 have h2:(BitVec.ofInt 64 (x:Int)&&&BitVec.ofInt 64 1).toNat=x%2:=by
  rw [BitVec.toNat_and]
  simp only [BitVec.toNat_ofInt]
  have e1:((x:Int)%((2^64:Nat):Int)).toNat=x:=by omega
  have e2:((1:Int)%((2^64:Nat):Int)).toNat=1:=by decide
  rw [e1,e2]
  exact Nat.and_two_pow_sub_one_eq_mod x 1
 show u64w ((BitVec.ofInt 64 (x:Int)&&&BitVec.ofInt 64 1).toNat:Int)=_
 rw [h2,u64w_id (by omega) (by omega)]
theorem bit_B64 {s:Int} (hs:InU s) {m:Nat} (hm:m< 64):bitB s (m:Int)=(B64 s).getLsbD m:=by
 unfold InU at hs
 have hlt:=(B64 s).isLt
 have h1:shrI .u64 s (m:Int)=(((B64 s).toNat/2^m:Nat):Int):=by
  conv=>lhs;rw [hs]
  exact shr_natP hlt hm
 have h2:(B64 s).toNat/2^m< 18446744073709551616:=Nat.lt_of_le_of_lt (Nat.div_le_self _ _) hlt
 unfold bitB
 rw [h1,and1 h2,BitVec.getLsbD,Nat.testBit_eq_decide_div_mod_eq,Bool.eq_iff_iff,beq_iff_eq,decide_eq_true_eq]
 omega
theorem inU_zero:InU 0:=by unfold InU;decide
theorem bit_orAll {l:List Int} (hl:∀ x∈l,0≤x∧x< 64) {m:Int} (hm:0≤m∧m< 64):bitB (orAll 0 l) m=l.contains m:=by
 have h1:=bit_B64 (orAll_in l 0 inU_zero) (m:=m.toNat) (by omega)
 rw [orAll_bits l 0 hl m.toNat (by omega),Int.toNat_of_nonneg hm.1] at h1
 rw [h1]
 have:(B64 0).getLsbD m.toNat=false:=by simp [B64]
 rw [this,Bool.false_or]
theorem idx_nodup (n:Nat):(idx n).Nodup:=by
 unfold idx
 refine List.Pairwise.map _ (fun a b h=>?_) (List.nodup_range (n:=n))
 omega
theorem sl_nodup (G:Ga) (k:Nat) (j:Int):(sl G k j).Nodup:=(idx_nodup k).filter _
theorem mem_sl {G:Ga} {k:Nat} {j x:Int}:x∈sl G k j↔x∈idx k∧W G x=j∧W G x≤G.Qae:=by
 unfold sl
 rw [List.mem_filter,decide_eq_true_eq]
theorem mem_idx {n:Nat} {x:Int}:x∈idx n↔0≤x∧x< n:=by
 constructor
 ·exact idx_mem
 ·rintro ⟨h1,h2⟩
  unfold idx
  exact List.mem_map.2 ⟨x.toNat,List.mem_range.2 (by omega),by omega⟩
theorem filter_take {l:List Int} (hn:l.Nodup) (a:Nat) (p:Int→Bool) (hp:∀ x∈l,p x=true↔x∈l.take a):(l.filter p).length=min a l.length:=by
 have e:l.filter p=l.take a:=by
  have h0:l=l.take a++l.drop a:=(List.take_append_drop a l).symm
  have hd:(l.drop a).filter p=[]:=by
   rw [List.filter_eq_nil_iff]
   intro x hx hpx
   have h1:=(hp x (List.mem_of_mem_drop hx)).1 hpx
   rw [h0] at hn
   exact (List.nodup_append.1 hn).2.2 x h1 x hx rfl
  have ht:(l.take a).filter p=l.take a:=by
   rw [List.filter_eq_self]
   intro x hx
   exact (hp x (List.mem_of_mem_take hx)).2 hx
  calc l.filter p=(l.take a++l.drop a).filter p:=by rw [← h0]
   _=l.take a:=by rw [List.filter_append,ht,hd,List.append_nil]
 rw [e,List.length_take]
def xs (G:Ga) (j:Int):Int:=((sl G (nG G) j).length:Int)
theorem arS_get (G:Ga) (j:Nat) (hj:j< 4):(arS G (nG G)).get (j:Int) 0=xs G (j:Int):=by
 obtain rfl|rfl|rfl|rfl:j=0∨j=1∨j=2∨j=3:=by omega
 all_goals rfl
theorem xs_out {G:Ga} {j:Int} (h:j>G.Qae):xs G j=0:=by
 unfold xs sl
 have:(idx (nG G)).filter (fun m=>decide (W G m=j∧W G m≤G.Qae))=[]:=by
  rw [List.filter_eq_nil_iff]
  intro x _ hx
  have:=of_decide_eq_true hx
  omega
 rw [this];rfl
theorem xs_nonneg (G:Ga) (j:Int):0≤xs G j:=by unfold xs;omega
theorem cd_xs {G:Ga} (h:OkG G):((cd G (nG G)).length:Int)=xs G 0+xs G 1+xs G 2+xs G 3:=by
 have:=(sl_perm h (nG G)).length_eq
 simp only [List.length_append] at this
 unfold xs
 omega
def askSet (G:Ga) (q:Ar Int 4):Int:=orAll 0 (inc G q (nG G))
theorem bit_inc {G:Ga} (h:OkG G) (q:Ar Int 4) {m:Int} (hm:0≤m∧m< 64):bitB (askSet G q) m=(inc G q (nG G)).contains m:=by
 have hn:=h.n60
 unfold B60 at hn
 exact bit_orAll (fun x hx=>by have:=inc_mem_range hx;unfold nG at this;omega) hm
theorem bit_sl {G:Ga} (h:OkG G) {q:Ar Int 4} (hq:∀ j:Nat,j< 4→0≤q.get j 0) {j:Nat} (hj:j< 4) {m:Int} (hm:m∈sl G (nG G) (j:Int)):bitB (askSet G q) m=true↔m∈tk G q (nG G) (j:Int):=by
 have hr:=sl_mem hm
 have hn:=h.n60
 unfold B60 at hn
 have hr':0≤m∧m< 64:=by unfold nG at hr;omega
 rw [bit_inc h q hr',List.contains_iff_mem,inc_iff h hq]
 have hW:=(mem_sl.1 hm).2.1
 have no:∀ i:Int,i≠(j:Int)→m∉tk G q (nG G) i:=by
  intro i hi hmem
  have:=(mem_sl.1 (List.mem_of_mem_take hmem)).2.1
  omega
 simp only [List.mem_append]
 obtain rfl|rfl|rfl|rfl:j=0∨j=1∨j=2∨j=3:=by omega
 ·have n1:=no 1 (by decide);have n2:=no 2 (by decide);have n3:=no 3 (by decide)
  simp only [n1,n2,n3,or_false];rfl
 ·have n1:=no 0 (by decide);have n2:=no 2 (by decide);have n3:=no 3 (by decide)
  simp only [n1,n2,n3,or_false,false_or];rfl
 ·have n1:=no 0 (by decide);have n2:=no 1 (by decide);have n3:=no 3 (by decide)
  simp only [n1,n2,n3,or_false,false_or];rfl
 ·have n1:=no 0 (by decide);have n2:=no 1 (by decide);have n3:=no 2 (by decide)
  simp only [n1,n2,n3,or_false,false_or];rfl
theorem bit_count {G:Ga} (h:OkG G) {q:Ar Int 4} (hq:∀ j:Nat,j< 4→0≤q.get j 0∧q.get j 0≤xs G j) {j:Nat} (hj:j< 4):(((sl G (nG G) (j:Int)).filter fun m=>bitB (askSet G q) m).length:Int)=q.get j 0:=by
 have hqj:=hq j hj
 have:=filter_take (sl_nodup G (nG G) j) (q.get j 0).toNat (fun m=>bitB (askSet G q) m) (fun x hx=>bit_sl h (fun i hi=>(hq i hi).1) hj hx)
 rw [this]
 unfold xs at hqj
 omega
theorem filter_not_len {α:Type} (l:List α) (p:α→Bool):(l.filter p).length+(l.filter fun x=>!p x).length=l.length:=by
 induction l with
 |nil=>rfl
 |cons x l ih=>
  by_cases c:p x=true
  ·simp [List.filter_cons,c] at ih ⊢;omega
  ·simp [List.filter_cons,c] at ih ⊢;omega
theorem filter_two {α:Type} (l:List α) (p p1 p2:α→Bool) (h:∀ x∈l,p x=(p1 x||p2 x)) (hd:∀ x∈l,¬ (p1 x=true∧p2 x=true)):(l.filter p).length=(l.filter p1).length+(l.filter p2).length:=by
 induction l with
 |nil=>rfl
 |cons x l ih=>
  have ih':=ih (fun y hy=>h y (by simp [hy])) (fun y hy=>hd y (by simp [hy]))
  have h1:=h x (by simp)
  have h2:=hd x (by simp)
  rw [List.filter_cons,List.filter_cons,List.filter_cons,h1]
  cases c1:p1 x<;>cases c2:p2 x
  ·simpa using ih'
  ·simp only [Bool.or_true,if_true,Bool.false_eq_true,if_false,List.length_cons];omega
  ·simp only [Bool.or_false,if_true,Bool.false_eq_true,if_false,List.length_cons];omega
  ·exact absurd ⟨c1,c2⟩ h2
theorem W_list (G:Ga) (m:Int):W G m=((G.Qah.filter fun a=>wrongB a m).length:Int):=by
 have:∀ k:Nat,k≤G.Qah.length→(wr G m k).length=((G.Qah.take k).filter fun a=>wrongB a m).length:=by
  intro k
  induction k with
  |zero=>intro _;rfl
  |succ k ih=>
   intro hk
   have ih':=ih (by omega)
   rw [wr_succ,rdL_nat (show k< G.Qah.length by omega),List.take_succ_eq_append_getElem (show k< G.Qah.length by omega),List.filter_append,List.length_append]
   by_cases c:wrongB G.Qah[k] m=true
   ·rw [if_pos c,List.length_append,ih',List.filter_cons,if_pos c];rfl
   ·rw [if_neg c,ih',List.filter_cons,if_neg c];rfl
 unfold W
 rw [this _ (Nat.le_refl _),List.take_length]
def addA (G:Ga) (s:Int) (b:Bool):Ga:=⟨G.Qac,G.Qae,G.Qah++[⟨s,b⟩]⟩
theorem W_add (G:Ga) (s:Int) (b:Bool) (m:Int):W (addA G s b) m=W G m+(if (bitB s m !=b)=true then 1 else 0):=by
 rw [W_list,W_list]
 show (((G.Qah++[(⟨s,b⟩:As_)]).filter fun a=>wrongB a m).length:Int)=_
 rw [List.filter_append,List.length_append,List.filter_cons,wrongB_eq]
 by_cases c:(bitB s m !=b)=true
 ·rw [if_pos c]
  show (_:Int)=_+(if (bitB s m !=b)=true then 1 else 0)
  rw [if_pos c]
  simp
 ·rw [if_neg c]
  show (_:Int)=_+(if (bitB s m !=b)=true then 1 else 0)
  rw [if_neg c]
  simp
theorem xs_add {G:Ga} (s:Int) (b:Bool) {j:Int} (h0:0≤j) (hj:j≤G.Qae):
 xs (addA G s b) j=(((sl G (nG G) j).filter fun m=>!(bitB s m !=b)).length:Int)+(((sl G (nG G) (j - 1)).filter fun m=>(bitB s m !=b)).length:Int):=by
 have hl:(addA G s b).Qae=G.Qae:=rfl
 have e:(sl (addA G s b) (nG (addA G s b)) j).length=_:=filter_two (idx (nG G)) (fun m=>decide (W (addA G s b) m=j∧W (addA G s b) m≤(addA G s b).Qae)) (fun m=>decide (W G m=j∧W G m≤G.Qae)&&!(bitB s m !=b)) (fun m=>decide (W G m=j - 1∧W G m≤G.Qae)&&(bitB s m !=b)) (by
  intro x _
  rw [W_add,hl]
  cases c:(bitB s x !=b)
  ·simp only [Bool.false_eq_true,if_false,Int.add_zero,Bool.not_false,Bool.and_true,Bool.and_false,Bool.or_false]
  ·simp only [if_true,Bool.not_true,Bool.and_false,Bool.and_true,Bool.false_or]
   rw [Bool.eq_iff_iff,decide_eq_true_eq,decide_eq_true_eq]
   omega) (by
  rintro x _ ⟨h1,h2⟩
  simp only [Bool.and_eq_true] at h1 h2
  rw [h2.2] at h1
  exact absurd h1.2 (by decide))
 unfold xs
 rw [e]
 unfold sl
 rw [List.filter_filter,List.filter_filter]
 have e1:∀ x:Int,(decide (W G x=j∧W G x≤G.Qae)&&!(bitB s x !=b))=(!(bitB s x !=b)&&decide (W G x=j∧W G x≤G.Qae)):=fun x=>Bool.and_comm _ _
 have e2:∀ x:Int,(decide (W G x=j - 1∧W G x≤G.Qae)&&(bitB s x !=b))=((bitB s x !=b)&&decide (W G x=j - 1∧W G x≤G.Qae)):=fun x=>Bool.and_comm _ _
 simp only [e1,e2]
 omega
def nx (G:Ga) (q:Ar Int 4) (b:Bool) (j:Int):Int:=if b=true then q.get j 0+(if j=0 then 0 else xs G (j - 1) - q.get (j - 1) 0) else (xs G j - q.get j 0)+(if j=0 then 0 else q.get (j - 1) 0)
theorem xs_next {G:Ga} (h:OkG G) {q:Ar Int 4} (hq:∀ j:Nat,j< 4→0≤q.get j 0∧q.get j 0≤xs G j) (b:Bool) {j:Nat} (hj:j< 4) (hl:(j:Int)≤G.Qae):xs (addA G (askSet G q) b) j=nx G q b j:=by
 rw [xs_add _ b (by omega) hl]
 have c1:=bit_count h hq hj
 have t1:=filter_not_len (sl G (nG G) (j:Int)) (fun m=>bitB (askSet G q) m)
 have hz:(sl G (nG G) ((0:Int) - 1)).length=0:=by
  rw [List.length_eq_zero_iff,List.eq_nil_iff_forall_not_mem]
  intro x hx
  have:=(mem_sl.1 hx).2.1
  have:=W_nonneg G x
  omega
 have c2:j≠0→(((sl G (nG G) ((j:Int) - 1)).filter fun m=>bitB (askSet G q) m).length:Int)=q.get ((j:Int) - 1) 0∧(((sl G (nG G) ((j:Int) - 1)).filter fun m=>!bitB (askSet G q) m).length:Int)=xs G ((j:Int) - 1) - q.get ((j:Int) - 1) 0:=by
  intro hne
  have e:(j:Int) - 1=((j - 1:Nat):Int):=by omega
  rw [e]
  have c3:=bit_count h hq (j:=j - 1) (by omega)
  have t3:=filter_not_len (sl G (nG G) ((j - 1:Nat):Int)) (fun m=>bitB (askSet G q) m)
  refine ⟨c3,?_⟩
  unfold xs
  omega
 unfold nx
 cases b with
 |true=>
  have e1:(fun m=>!(bitB (askSet G q) m !=true))=fun m=>bitB (askSet G q) m:=by funext m;simp
  have e2:(fun m=>(bitB (askSet G q) m !=true))=fun m=>!bitB (askSet G q) m:=by funext m;simp
  rw [e1,e2,c1,if_pos rfl]
  by_cases hne:j=0
  ·subst hne
   have:((sl G (nG G) (((0:Nat):Int) - 1)).filter fun m=>!bitB (askSet G q) m).length≤(sl G (nG G) ((0:Int) - 1)).length:=List.length_filter_le _ _
   rw [if_pos (show ((0:Nat):Int)=0 from rfl)]
   omega
  ·rw [if_neg (by omega),(c2 hne).2]
 |false=>
  have e1:(fun m=>!(bitB (askSet G q) m !=false))=fun m=>!bitB (askSet G q) m:=by funext m;simp
  have e2:(fun m=>(bitB (askSet G q) m !=false))=fun m=>bitB (askSet G q) m:=by funext m;simp
  rw [e1,e2,if_neg (by decide)]
  have c1':(((sl G (nG G) (j:Int)).filter fun m=>!bitB (askSet G q) m).length:Int)=xs G j - q.get j 0:=by unfold xs;omega
  rw [c1']
  by_cases hne:j=0
  ·subst hne
   have:((sl G (nG G) (((0:Nat):Int) - 1)).filter fun m=>bitB (askSet G q) m).length≤(sl G (nG G) ((0:Int) - 1)).length:=List.length_filter_le _ _
   rw [if_pos (show ((0:Nat):Int)=0 from rfl)]
   omega
  ·rw [if_neg (by omega),(c2 hne).1]
def phi (G:Ga):Int:=(G.Qae+1)*xs G 0+G.Qae*xs G 1+(G.Qae - 1)*xs G 2+(G.Qae - 2)*xs G 3
def sumX (G:Ga):Int:=xs G 0+xs G 1+xs G 2+xs G 3
def sumQ (q:Ar Int 4):Int:=q.get 0 0+q.get 1 0+q.get 2 0+q.get 3 0
theorem nx_0 (G:Ga) (q:Ar Int 4) (b:Bool):nx G q b 0=if b=true then q.get 0 0 else xs G 0 - q.get 0 0:=by cases b<;>simp [nx]
theorem nx_1 (G:Ga) (q:Ar Int 4) (b:Bool):nx G q b 1=if b=true then q.get 1 0+(xs G 0 - q.get 0 0) else (xs G 1 - q.get 1 0)+q.get 0 0:=by cases b<;>simp [nx]
theorem nx_2 (G:Ga) (q:Ar Int 4) (b:Bool):nx G q b 2=if b=true then q.get 2 0+(xs G 1 - q.get 1 0) else (xs G 2 - q.get 2 0)+q.get 1 0:=by cases b<;>simp [nx]
theorem nx_3 (G:Ga) (q:Ar Int 4) (b:Bool):nx G q b 3=if b=true then q.get 3 0+(xs G 2 - q.get 2 0) else (xs G 3 - q.get 3 0)+q.get 2 0:=by cases b<;>simp [nx]
theorem phi_next {G:Ga} (h:OkG G) {q:Ar Int 4} (hq:∀ j:Nat,j< 4→0≤q.get j 0∧q.get j 0≤xs G j) (b:Bool):phi (addA G (askSet G q) b)=phi G - (if b=true then sumX G - sumQ q else sumQ q):=by
 have l3:=h.l3
 have q0:0≤q.get 0 0∧q.get 0 0≤xs G 0:=hq 0 (by decide)
 have q1:0≤q.get 1 0∧q.get 1 0≤xs G 1:=hq 1 (by decide)
 have q2:0≤q.get 2 0∧q.get 2 0≤xs G 2:=hq 2 (by decide)
 have q3:0≤q.get 3 0∧q.get 3 0≤xs G 3:=hq 3 (by decide)
 have n0:(0:Int)≤G.Qae→xs (addA G (askSet G q) b) 0=nx G q b 0:=fun hl=>xs_next h hq b (j:=0) (by decide) hl
 have n1:(1:Int)≤G.Qae→xs (addA G (askSet G q) b) 1=nx G q b 1:=fun hl=>xs_next h hq b (j:=1) (by decide) hl
 have n2:(2:Int)≤G.Qae→xs (addA G (askSet G q) b) 2=nx G q b 2:=fun hl=>xs_next h hq b (j:=2) (by decide) hl
 have n3:(3:Int)≤G.Qae→xs (addA G (askSet G q) b) 3=nx G q b 3:=fun hl=>xs_next h hq b (j:=3) (by decide) hl
 rw [nx_0] at n0
 rw [nx_1] at n1
 rw [nx_2] at n2
 rw [nx_3] at n3
 have o1:=fun hl=>xs_out (G:=G) (j:=1) hl
 have o2:=fun hl=>xs_out (G:=G) (j:=2) hl
 have o3:=fun hl=>xs_out (G:=G) (j:=3) hl
 have p1:=fun (hl:1>G.Qae)=>xs_out (G:=addA G (askSet G q) b) (j:=1) hl
 have p2:=fun (hl:2>G.Qae)=>xs_out (G:=addA G (askSet G q) b) (j:=2) hl
 have p3:=fun (hl:3>G.Qae)=>xs_out (G:=addA G (askSet G q) b) (j:=3) hl
 unfold phi sumX sumQ
 rw [show (addA G (askSet G q) b).Qae=G.Qae from rfl]
 obtain e|e|e|e:G.Qae=0∨G.Qae=1∨G.Qae=2∨G.Qae=3:=by omega
 ·have a0:=n0 (by omega);have a1:=p1 (by omega);have a2:=p2 (by omega);have a3:=p3 (by omega)
  have b1:=o1 (by omega);have b2:=o2 (by omega);have b3:=o3 (by omega)
  rw [e]
  cases b<;>simp only [Bool.false_eq_true,if_true,if_false] at a0 ⊢<;>omega
 ·have a0:=n0 (by omega);have a1:=n1 (by omega);have a2:=p2 (by omega);have a3:=p3 (by omega)
  have b2:=o2 (by omega);have b3:=o3 (by omega)
  rw [e]
  cases b<;>simp only [Bool.false_eq_true,if_true,if_false] at a0 a1 ⊢<;>omega
 ·have a0:=n0 (by omega);have a1:=n1 (by omega);have a2:=n2 (by omega);have a3:=p3 (by omega)
  have b3:=o3 (by omega)
  rw [e]
  cases b<;>simp only [Bool.false_eq_true,if_true,if_false] at a0 a1 a2 ⊢<;>omega
 ·have a0:=n0 (by omega);have a1:=n1 (by omega);have a2:=n2 (by omega);have a3:=n3 (by omega)
  rw [e]
  cases b<;>simp only [Bool.false_eq_true,if_true,if_false] at a0 a1 a2 a3 ⊢<;>omega
def rk (p:Int):Int:=if p>12 then 12+(p - 11)/2 else p
theorem rk_next {G:Ga} (h:OkG G) {p p':Int} (hs:2≤sumX G) (hp:p=phi G) (d:Int) (hd:sumX G/2≤d) (hp':p'=p - d):rk p'+1≤rk p:=by
 have l3:=h.l3
 have x0:=xs_nonneg G 0
 have x1:=xs_nonneg G 1
 have x2:=xs_nonneg G 2
 have x3:=xs_nonneg G 3
 have h4:p≤4*sumX G:=by
  rw [hp]
  unfold phi sumX
  have o2:=fun hl=>xs_out (G:=G) (j:=2) hl
  have o3:=fun hl=>xs_out (G:=G) (j:=3) hl
  obtain e|e|e|e:G.Qae=0∨G.Qae=1∨G.Qae=2∨G.Qae=3:=by omega
  ·have:=o2 (by omega);have:=o3 (by omega);rw [e];omega
  ·have:=o2 (by omega);have:=o3 (by omega);rw [e];omega
  ·have:=o3 (by omega);rw [e];omega
  ·rw [e];omega
 unfold rk
 split<;>split<;>omega
def ps (a:Ar Int 4):Nat→Int
 |0=>0
 |i+1=>ps a i+a.get (i:Int) 0
theorem ps_set (a:Ar Int 4) (i:Nat) (v:Int) (hi:i< 4):∀ k:Nat,k≤i→ps (a.set (i:Int) v) k=ps a k
 |0,_=>rfl
 |k+1,h=>by
  show ps (a.set (i:Int) v) k+(a.set (i:Int) v).get (k:Int) 0=ps a k+a.get (k:Int) 0
  rw [ps_set a i v hi k (by omega),Ar_set_get a i k v (by omega),if_neg (by omega)]
theorem ps_four (a:Ar Int 4):ps a 4=sumQ a:=by
 unfold sumQ
 show 0+a.get ((0:Nat):Int) 0+a.get ((1:Nat):Int) 0+a.get ((2:Nat):Int) 0+a.get ((3:Nat):Int) 0=_
 rw [Int.zero_add];rfl
theorem half_sum {N:Nat} (hN:70< N) {x:Ar Int 4} (hx:∀ j:Nat,j< 4→0≤x.get j 0∧x.get j 0≤1000):
 ∃ r:Ar Int 4,QaQ.f N x=some r∧(2*sumQ r=sumQ x∨2*sumQ r=sumQ x+1):=by
 obtain ⟨e,he,r,rfl,hr⟩:=rounds_ends (b:=fun s=>QaQ.b0 N x s.1 s.2.1 s.2.2) (fun s=>∃ i:Nat,i≤4∧s.2.2=(i:Int)∧((s.2.1=1∧2*ps s.1 i=ps x i)∨(s.2.1=0∧2*ps s.1 i=ps x i+1))) (fun s=>(4 - s.2.2).toNat)
  (fun e=>∃ r:Ar Int 4,e= .go r∧(2*ps r 4=ps x 4∨2*ps r 4=ps x 4+1)) (by
  rintro ⟨a,u,i'⟩ ⟨i,hi4,rfl,hu⟩
  simp only at hu
  by_cases hi:i< 4
  ·right
   have g1:((i:Nat):Int)< 4:=by omega
   have g2:(0:Int)≤(i:Int):=by omega
   have hxi:=hx i hi
   have hq:(x.get (i:Int) 0).tdiv 2=x.get (i:Int) 0/2:=Int.tdiv_eq_ediv_of_nonneg hxi.1
   have hm:(x.get (i:Int) 0).tmod 2=x.get (i:Int) 0%2:=Int.tmod_eq_emod_of_nonneg hxi.1
   have hs:=i64w_id (x:=x.get (i:Int) 0/2) (by omega) (by omega)
   have hn:i64w ((i:Int)+1)=((i+1:Nat):Int):=by rw [i64w_id (by omega) (by omega)];omega
   have hg:∀ v:Int,(a.set (i:Int) v).get (i:Int) 0=v:=fun v=>by rw [Ar_set_get a i i v hi,if_pos rfl]
   have hset:∀ v v':Int,(a.set (i:Int) v).set (i:Int) v'=a.set (i:Int) v':=by
    intro v v'
    apply Ar.ext'
    simp [Ar.set]
   have hp:∀ v:Int,ps (a.set (i:Int) v) (i+1)=ps a i+v:=by
    intro v
    show ps (a.set (i:Int) v) i+(a.set (i:Int) v).get (i:Int) 0=_
    rw [ps_set a i v hi i (Nat.le_refl _),hg]
   have hpx:ps x (i+1)=ps x i+x.get (i:Int) 0:=rfl
   simp only [QaQ.b0,QaQ.j2,g1,g2,and_self,if_true,hq,hm,hs,hn,hg,hset]
   by_cases c:x.get (i:Int) 0%2=1
   ·simp only [if_pos c]
    rcases hu with ⟨u1,hu⟩|⟨u0,hu⟩
    ·subst u1
     have hs':=i64w_id (x:=x.get (i:Int) 0/2+1) (by omega) (by omega)
     simp only [hs',hset]
     refine ⟨_,rfl,⟨i+1,by omega,rfl, .inr ⟨show i64w (1 - 1)=0 by decide,?_⟩⟩,?_⟩
     ·dsimp only;rw [hp,hpx];omega
     ·dsimp only;omega
    ·subst u0
     have hs':=i64w_id (x:=x.get (i:Int) 0/2+0) (by omega) (by omega)
     simp only [hs',hset]
     refine ⟨_,rfl,⟨i+1,by omega,rfl, .inl ⟨show i64w (1 - 0)=1 by decide,?_⟩⟩,?_⟩
     ·dsimp only;rw [hp,hpx];omega
     ·dsimp only;omega
   ·simp only [if_neg c]
    refine ⟨_,rfl,⟨i+1,by omega,rfl,?_⟩,?_⟩
    ·dsimp only
     rw [hp,hpx]
     rcases hu with ⟨u1,hu⟩|⟨u0,hu⟩
     ·exact .inl ⟨u1,by omega⟩
     ·exact .inr ⟨u0,by omega⟩
    ·dsimp only;omega
  ·left
   obtain rfl:i=4:=by omega
   have g1:¬ (((4:Nat):Int))< 4:=by decide
   simp only [QaQ.b0,g1,if_false]
   exact ⟨_,rfl,_,rfl,by rcases hu with h|h<;>simp only [h.2,true_or,or_true]⟩) N (Ar.rep 4 0,1,0) ⟨0,by decide,rfl, .inl ⟨rfl,rfl⟩⟩ (by simp;omega)
 rw [ps_four,ps_four] at hr
 refine ⟨r,?_,hr⟩
 unfold QaQ.f
 rw [he];rfl
theorem next_more {N:Nat} {G:Ga} (hG:InG G) (hN:70< N) (hk:okG G=true):∃ q:Ar Int 4,QaU.f N G=some (arS G (nG G))∧QaQ.f N (arS G (nG G))=some q∧Qa6.f N G q=some (askSet G q)∧QbM.f N G=some (askSet G q,0)∧(∀ b,bad G.Qac ⟨askSet G q,b⟩=false)∧
 (∀ j:Nat,j< 4→0≤q.get j 0∧q.get j 0≤xs G j)∧(2*sumQ q=sumX G∨2*sumQ q=sumX G+1):=by
 have h:=okG_iff hk
 have hn:=h.n60
 have hn':=hn
 unfold B60 at hn
 have hx:=arS_range G (k:=nG G) (by unfold nG;omega)
 obtain ⟨r,e1,e2,hr⟩:=half_both (N:=N) hN (x:=arS G (nG G)) hx
 obtain ⟨r',e1',hs⟩:=half_sum (N:=N) hN (x:=arS G (nG G)) hx
 obtain rfl:r=r':=QsJ (e1.symm.trans e1')
 obtain ⟨s,e3,e4⟩:=set_same h hN hr
 have e5:=set_spec h hN (q:=r) (fun j hj=>by have:=hr j hj;have:=hx j hj;omega)
 have es:s=askSet G r:=QsJ (e3.symm.trans e5)
 refine ⟨r,state_spec h hN,e1,e5,?_,fun b=>?_,fun j hj=>?_,hs⟩
 ·simp only [QbM.f,G_eta,okG_impl hG hN,if_pos hk,state_impl h hN,Option.bind_some,e2,e4,es]
 ·exact not_bad hn' (fun x hx=>by have:=inc_mem_range hx;unfold nG at this;omega) b
 ·rw [← arS_get G j hj]
  exact hr j hj
end Go.Proofs.YtdnipilfcjkfoaaGreatDoorX
namespace Go.Proofs.YtdnipilfcjkfoaaGreatDoorX
open Go
theorem rep_tab (N:Nat):∀ c:Nat,c< 16→Qb3.f N (⟨#[48]⟩:ByteArray) (c:Int)=some ⟨(List.replicate c 48).toArray⟩:=by
 intro c hc
 unfold Qb3.f
 rw [if_pos ⟨rfl,by omega,by omega⟩,Int.toNat_natCast]
end Go.Proofs.YtdnipilfcjkfoaaGreatDoorX
namespace Go.Proofs.YtdnipilfcjkfoaaGreatDoorX
open Go
set_option linter.unusedVariables false
set_option linter.unusedSimpArgs false
instance (n:Int):Decidable (B60 n):=by unfold B60;infer_instance
theorem ba_app (x y:List UInt8):(⟨x.toArray⟩:ByteArray)++(⟨y.toArray⟩:ByteArray)=⟨(x++y).toArray⟩:=by
 apply ByteArray.ext
 simp
theorem ba_size (x:List UInt8):(⟨x.toArray⟩:ByteArray).size=x.length:=by simp [ByteArray.size]
theorem nd_le (u:Nat):Lib.nDigits u≤u+1:=by
 induction u using Nat.strongRecOn with
 |_ u ih=>
  by_cases h:u< 10
  ·rw [Lib.nDigits_small h];omega
  ·rw [Lib.nDigits_big h]
   have:=ih (u/10) (by omega)
   omega
theorem dec_len (u:Nat):(Lib.decDigits u).length≤u+1:=by rw [Lib.decDigits_length];exact nd_le u
def hxd (d:Nat):UInt8:=if d< 10 then UInt8.ofNat (48+d) else UInt8.ofNat (87+d)
def lastD (n:Nat):Nat→List UInt8
 |0=>[]
 |j+1=>lastD (n/16) j++[hxd (n%16)]
theorem lastD_len:∀ (j n:Nat),(lastD n j).length=j
 |0,_=>rfl
 |j+1,n=>by simp [lastD,lastD_len j]
theorem lastD_cons:∀ (j n:Nat),lastD n (j+1)=hxd (n/16^j%16)::lastD n j
 |0,n=>by simp [lastD]
 |j+1,n=>by
  show lastD (n/16) (j+1)++[hxd (n%16)]=_
  rw [lastD_cons j (n/16),List.cons_append,Nat.div_div_eq_div_mul,show 16*16^j=16^(j+1) by rw [Nat.pow_succ,Nat.mul_comm]]
  rfl
theorem lastD_pad {j n i:Nat} (hi:i≤j) (hn:n< 16^i):List.replicate (j - i) 48++lastD n i=lastD n j:=by
 obtain ⟨d,rfl⟩:∃ d,j=i+d:=⟨j - i,by omega⟩
 rw [show i+d - i=d by omega]
 clear hi
 induction d with
 |zero=>rfl
 |succ d ih=>
  have h0:n/16^(i+d)=0:=Nat.div_eq_of_lt (Nat.lt_of_lt_of_le hn (Nat.pow_le_pow_right (by decide) (by omega)))
  rw [show i+(d+1)=(i+d)+1 by omega,lastD_cons,h0,List.replicate_succ,List.cons_append,ih]
  rfl
theorem and15 {x:Nat} (h:x< 18446744073709551616):bAnd .u64 (x:Int) 15=((x%16:Nat):Int):=by
 have h2:(BitVec.ofInt 64 (x:Int)&&&BitVec.ofInt 64 15).toNat=x%16:=by
  rw [BitVec.toNat_and]
  simp only [BitVec.toNat_ofInt]
  have e1:((x:Int)%((2^64:Nat):Int)).toNat=x:=by omega
  have e2:((15:Int)%((2^64:Nat):Int)).toNat=15:=by decide
  rw [e1,e2]
  exact Nat.and_two_pow_sub_one_eq_mod x 4
 show u64w ((BitVec.ofInt 64 (x:Int)&&&BitVec.ofInt 64 15).toNat:Int)=_
 rw [h2,u64w_id (by omega) (by omega)]
theorem shr_nat {x k:Nat} (h:x< 18446744073709551616) (hk:k< 64):shrI .u64 (x:Int) (k:Int)=((x/2^k:Nat):Int):=by
 unfold shrI
 have hlt:x/2^k≤x:=Nat.div_le_self _ _
 have e:((x:Int)).fdiv (2^min k 64)=((x/2^k:Nat):Int):=by
  rw [show min k 64=k by omega,Int.fdiv_eq_ediv_of_nonneg _ (by exact Int.le_of_lt (Int.pow_pos (by decide))),Int.natCast_ediv]
  simp
 simp [IntKind.bits,IntKind.signed,e]
theorem hex_at:∀ d:Nat,d< 16→btS (⟨#[48,49,50,51,52,53,54,55,56,57,97,98,99,100,101,102]⟩:ByteArray) (d:Int)=((hxd d).toNat:Int)∧btS (⟨#[48,49,50,51,52,53,54,55,56,57,97,98,99,100,101,102,103,104,105,106,107,108,109,110,111,112,113,114,115,116,117,118,119,120,121,122]⟩:ByteArray) (d:Int)=((hxd d).toNat:Int):=by decide+kernel
theorem bsOf_map (l:List UInt8):bsOf (l.map fun b=>(b.toNat:Int))=⟨l.toArray⟩:=by
 unfold bsOf
 congr 2
 rw [List.map_map]
 exact (List.map_congr_left fun b _=>by simp).trans (List.map_id l)
theorem dec_impl (N:Nat) {n:Int} (h0:0≤n) (h1:n< 100):QbC.f N n=some ⟨(Lib.decDigits n.toNat).toArray⟩:=by
 have e:Lib.itoa n=Lib.decDigits n.toNat:=by unfold Lib.itoa;rw [if_neg (by omega)]
 simp only [QbC.f,QbX.f]
 rw [if_pos ⟨⟨by omega,by omega⟩,trivial⟩,e]
 rfl
theorem d36:(⟨#[48,49,50,51,52,53,54,55,56,57,97,98,99,100,101,102,103,104,105,106,107,108,109,110,111,112,113,114,115,116,117,118,119,120,121,122]⟩:ByteArray).size=36:=rfl
theorem fmt_impl {N:Nat} (hN:80< N) {n:Nat} (hn:n< 18446744073709551616):∃ i,1≤i∧i≤16∧n< 16^i∧Qbj.f N (n:Int)=some ⟨(lastD n i).toArray⟩:=by
 have u16:u64w 16=16:=rfl
 have u15:u64w (16 - 1)=15:=rfl
 have u4:u64w 4=4:=rfl
 obtain ⟨e,he,j,arr,rfl,hj,hlt,hdrop⟩:=rounds_ends (b:=fun s=>Qan.b1 N 4 s.1 s.2.1 s.2.2)
  (fun s=>∃ j:Nat,j≤15∧s.1=((n/16^j:Nat):Int)∧s.2.2=65 - (j:Int)∧s.2.1.l.drop (65 - j)=(lastD n j).map fun b=>(b.toNat:Int)) (fun s=>s.2.2.toNat)
  (fun e=>∃ j:Nat,∃ arr:Ar Int 65,e= .go (((n/16^j:Nat):Int),arr,65 - (j:Int))∧j≤15∧n/16^j< 16∧arr.l.drop (65 - j)=(lastD n j).map fun b=>(b.toNat:Int)) (by
  rintro ⟨x,a,y⟩ ⟨j,hj,hx,hy,ha⟩
  simp only at hx hy ha
  subst hx hy
  have hxn:n/16^j< 18446744073709551616:=Nat.lt_of_le_of_lt (Nat.div_le_self _ _) hn
  by_cases c:n/16^j< 16
  ·left
   refine ⟨_,?_,j,a,rfl,hj,c,ha⟩
   simp only [Qan.b1,u16]
   rw [if_neg (by omega)]
  ·right
   have hj15:j+1≤15:=by
    refine Classical.byContradiction fun q=>c ?_
    obtain rfl:j=15:=by omega
    have:n< 16^15*16:=by omega
    exact Nat.div_lt_of_lt_mul this
   have hm:n/16^j%16< 16:=Nat.mod_lt _ (by decide)
   have hi:i64w (65 - (j:Int) - 1)=((64 - j:Nat):Int):=by rw [i64w_id (by omega) (by omega)];omega
   have hs:shrI .u64 ((n/16^j:Nat):Int) 4=((n/16^(j+1):Nat):Int):=by
    rw [show (4:Int)=((4:Nat):Int) from rfl,shr_nat hxn (by decide),show (2:Nat)^4=16 from rfl,Nat.div_div_eq_div_mul,← Nat.pow_succ]
   refine ⟨(((n/16^(j+1):Nat):Int),a.set ((64 - j:Nat):Int) ((hxd (n/16^j%16)).toNat:Int),65 - ((j+1:Nat):Int)),?_,⟨j+1,hj15,rfl,rfl,?_⟩,by dsimp only;omega⟩
   ·simp only [Qan.b1,u16,u15,u4,hi,hs,and15 hxn,d36]
    rw [if_pos (by omega),if_pos ⟨by omega,by omega⟩,if_pos ⟨by omega,by omega⟩,if_pos (by decide),(hex_at _ hm).2,show (65:Int) - ((j+1:Nat):Int)=((64 - j:Nat):Int) by omega]
   ·dsimp only
    rw [lastD_cons,List.map_cons,← ha]
    have hl:a.l.length=65:=a.h
    show (stL a.l ((64 - j:Nat):Int) _).drop (65 - (j+1))=_
    rw [stL_nat,show 65 - (j+1)=64 - j by omega,List.drop_eq_getElem_cons (by simp;omega),List.getElem_set_self,List.drop_set_of_lt (by omega),show 64 - j+1=65 - j by omega]) N ((n:Int),Ar.rep 65 0,65) ⟨0,by omega,by simp,by simp,by simp [lastD,Ar.rep]⟩ (by dsimp only;omega)
 refine ⟨j+1,by omega,by omega,?_,?_⟩
 ·rw [Nat.pow_succ]
  exact (Nat.div_lt_iff_lt_mul (Nat.pow_pos (by decide))).1 hlt|>fun q=>by rwa [Nat.mul_comm] at q
 ·have hp:QbG.f N 16=some true:=rfl
  have ht:QbR.f N 16=some 4:=rfl
  have hi:i64w (65 - (j:Int) - 1)=((64 - j:Nat):Int):=by rw [i64w_id (by omega) (by omega)];omega
  have hl:arr.l.length=65:=arr.h
  have hfin:((stL arr.l ((64 - j:Nat):Int) ((hxd (n/16^j)).toNat:Int)).drop (64 - j)).take (65 - (64 - j))=(lastD n (j+1)).map fun b=>(b.toNat:Int):=by
   rw [lastD_cons,List.map_cons,← hdrop,Nat.mod_eq_of_lt hlt,stL_nat,List.drop_eq_getElem_cons (by simp;omega),List.getElem_set_self,List.drop_set_of_lt (by omega),show 64 - j+1=65 - j by omega,List.take_of_length_le (by simp;omega)]
  simp only [Qbj.f,istrconv_FormatUint_at_c16.f,Qan.f,hp,u16,ht,Option.bind_some,if_true,he,Ex.fin,Qan.a1,hi,d36]
  rw [if_pos ⟨Int.natCast_nonneg _,by omega⟩,if_pos ⟨by omega,by omega⟩,(hex_at _ hlt).2]
  simp only [Qan.j0]
  rw [if_pos ⟨by omega,by omega⟩]
  show some (bsOf (((stL arr.l ((64 - j:Nat):Int) ((hxd (n/16^j)).toNat:Int)).drop ((64 - j:Nat):Int).toNat).take (((65:Nat):Int).toNat - ((64 - j:Nat):Int).toNat)))=_
  rw [Int.toNat_natCast,Int.toNat_natCast,hfin,bsOf_map]
theorem padded {N:Nat} (hN:80< N) {n:Nat} (hn:n< 18446744073709551616):∃ i,1≤i∧i≤16∧Qbj.f N (n:Int)=some ⟨(lastD n i).toArray⟩∧
 Qb3.f N (⟨#[48]⟩:ByteArray) (i64w (16 - ((⟨(lastD n i).toArray⟩:ByteArray).size:Int)))=some ⟨(List.replicate (16 - i) 48).toArray⟩∧List.replicate (16 - i) 48++lastD n i=lastD n 16:=by
 obtain ⟨i,h1,h2,h3,h4⟩:=fmt_impl hN hn
 refine ⟨i,h1,h2,h4,?_,lastD_pad h2 h3⟩
 rw [ba_size,lastD_len,i64w_id (by omega) (by omega),show (16:Int) - (i:Int)=((16 - i:Nat):Int) by omega]
 exact rep_tab N _ (by omega)
def wordY (b:Bool):List UInt8:=if b=true then [32,121,101,115] else [32,110,111]
def lineG (a:As_):List UInt8:=lastD a.Qbh.toNat 16++wordY a.QbH++[10]
theorem line_len (a:As_):(lineG a).length≤21:=by
 unfold lineG wordY
 split<;>simp [lastD_len]
def linesG (l:List As_):List UInt8:=(l.map lineG).flatten
theorem lines_succ (l:List As_) {k:Nat} (hk:k< l.length):linesG (l.take (k+1))=linesG (l.take k)++lineG l[k]:=by
 unfold linesG
 rw [List.take_succ_eq_append_getElem hk,List.map_append,List.flatten_append]
 simp
theorem lines_len (l:List As_):(linesG l).length≤21*l.length:=by
 induction l with
 |nil=>exact Nat.le_refl _
 |cons a l ih=>
  have:=line_len a
  simp only [linesG,List.map_cons,List.flatten_cons,List.length_append,List.length_cons] at ih ⊢
  omega
def headG (G:Ga):List UInt8:=Lib.decDigits G.Qac.toNat++[32]++Lib.decDigits G.Qae.toNat++[10]
def textG (G:Ga):List UInt8:=headG G++linesG G.Qah
theorem head_len {G:Ga} (h1:G.Qac≤60) (h2:G.Qae≤3):(headG G).length≤70:=by
 have a:=dec_len G.Qac.toNat
 have b:=dec_len G.Qae.toNat
 unfold headG
 simp only [List.length_append,List.length_singleton]
 omega
theorem word_yes:(⟨#[32,121,101,115]⟩:ByteArray)=⟨(wordY true).toArray⟩:=rfl
theorem word_no:(⟨#[32,110,111]⟩:ByteArray)=⟨(wordY false).toArray⟩:=rfl
theorem text_impl {N:Nat} {G:Ga} (hv:Qa1.f N G=some true) (hl:G.Qah.length≤60) (h1:1≤G.Qac∧G.Qac≤60) (h2:0≤G.Qae∧G.Qae≤3) (hs:∀ a∈G.Qah,0≤a.Qbh∧a.Qbh< 18446744073709551616) (hN:200< N):QaY.f N G=some ⟨(textG G).toArray⟩:=by
 have hh:=head_len h1.2 h2.2
 have b10:(⟨#[10]⟩:ByteArray)=⟨([10]:List UInt8).toArray⟩:=rfl
 have b0:(⟨#[]⟩:ByteArray)=⟨([]:List UInt8).toArray⟩:=rfl
 obtain ⟨e,he,rfl⟩:=rounds_ends (b:=fun s=>QaY.b0 N G s.1 s.2)
  (fun s=>∃ k:Nat,k≤G.Qah.length∧s.2=(k:Int)∧s.1=⟨(headG G++linesG (G.Qah.take k)).toArray⟩) (fun s=>G.Qah.length - s.2.toNat)
  (fun e=>e= .go ⟨(textG G).toArray⟩) (by
  rintro ⟨x,y⟩ ⟨k,hk,hy,hx⟩
  simp only at hy hx
  subst hy hx
  by_cases c:k< G.Qah.length
  ·right
   have g:(0:Int)≤(k:Int)∧(k:Int)< (G.Qah.length:Int):=⟨by omega,by omega⟩
   obtain ⟨s0,s1⟩:=hs _ (List.getElem_mem c)
   have hle:=lines_len (G.Qah.take k)
   rw [List.length_take] at hle
   obtain ⟨i,i1,i2,e1,e2,e3⟩:=padded (N:=N) (by omega) (n:=(G.Qah[k].Qbh).toNat) (by omega)
   rw [Int.toNat_of_nonneg s0] at e1
   have hnext:i64w ((k:Int)+1)=((k+1:Nat):Int):=i64w_succ c (by omega)
   have key:∀ b:Bool,QaY.j2 N G (k:Int) ⟨(headG G++linesG (G.Qah.take k)).toArray⟩ ⟨(wordY b).toArray⟩=some (.next (⟨(headG G++linesG (G.Qah.take k)++(lastD (G.Qah[k].Qbh).toNat 16++wordY b++[10])).toArray⟩,((k+1:Nat):Int))):=by
    intro b
    have hw:(wordY b).length≤4:=by cases b<;>decide
    simp only [QaY.j2,rdL_nat c,e1,Option.bind_some,e2,b10,ba_app,e3]
    simp only [ba_size,List.length_append,List.length_singleton,lastD_len,List.length_replicate,hnext]
    rw [if_pos (by omega),if_pos (by omega),if_pos (by omega),if_pos (by omega)]
   refine ⟨(⟨(headG G++linesG (G.Qah.take (k+1))).toArray⟩,((k+1:Nat):Int)),?_,⟨k+1,c,rfl,rfl⟩,by dsimp only;omega⟩
   simp only [QaY.b0,if_pos g.2,if_pos g,rdL_nat c,word_yes,word_no,key]
   rw [lines_succ _ c]
   unfold lineG
   cases hw:G.Qah[k].QbH
   ·rw [if_neg (by decide),List.append_assoc]
   ·rw [if_pos rfl,List.append_assoc]
  ·left
   obtain rfl:k=G.Qah.length:=by omega
   refine ⟨_,?_,rfl⟩
   simp only [QaY.b0]
   rw [if_neg (by omega),List.take_length,textG]) N (⟨(headG G).toArray⟩,0) ⟨0,by omega,rfl,by simp [linesG]⟩ (by dsimp only;omega)
 have d1:=dec_impl N (n:=G.Qac) (by omega) (by omega)
 have d2:=dec_impl N (n:=G.Qae) (by omega) (by omega)
 have a1:=dec_len G.Qac.toNat
 have a2:=dec_len G.Qae.toNat
 have ev:Qa1.f N (⟨G.Qac,G.Qae,G.Qah⟩:Qag)=some true:=hv
 have n1:i64w G.Qac=G.Qac:=i64w_id (by omega) (by omega)
 have n2:i64w G.Qae=G.Qae:=i64w_id (by omega) (by omega)
 have z1:((⟨(Lib.decDigits G.Qac.toNat).toArray⟩:ByteArray)++(⟨#[32]⟩:ByteArray))=⟨(Lib.decDigits G.Qac.toNat++[32]).toArray⟩:=ba_app _ [32]
 have z2:((⟨(Lib.decDigits G.Qac.toNat++[32]).toArray⟩:ByteArray)++(⟨(Lib.decDigits G.Qae.toNat).toArray⟩:ByteArray))=⟨(Lib.decDigits G.Qac.toNat++[32]++Lib.decDigits G.Qae.toNat).toArray⟩:=ba_app _ _
 have z3:((⟨(Lib.decDigits G.Qac.toNat++[32]++Lib.decDigits G.Qae.toNat).toArray⟩:ByteArray)++(⟨#[10]⟩:ByteArray))=⟨(headG G).toArray⟩:=ba_app _ [10]
 have s0:(⟨#[32]⟩:ByteArray).size=1:=rfl
 have s9:(⟨#[10]⟩:ByteArray).size=1:=rfl
 have c1:((⟨(Lib.decDigits G.Qac.toNat).toArray⟩:ByteArray).size:Int)+(⟨#[32]⟩:ByteArray).size≤9223372036854775807:=by rw [ba_size,s0];omega
 have c2:((⟨(Lib.decDigits G.Qac.toNat++[32]).toArray⟩:ByteArray).size:Int)+(⟨(Lib.decDigits G.Qae.toNat).toArray⟩:ByteArray).size≤9223372036854775807:=by rw [ba_size,ba_size,List.length_append,List.length_singleton];omega
 have c3:((⟨(Lib.decDigits G.Qac.toNat++[32]++Lib.decDigits G.Qae.toNat).toArray⟩:ByteArray).size:Int)+(⟨#[10]⟩:ByteArray).size≤9223372036854775807:=by rw [ba_size,s9,List.length_append,List.length_append,List.length_singleton];omega
 have z4:((⟨#[]⟩:ByteArray)++(⟨(headG G).toArray⟩:ByteArray))=⟨(headG G).toArray⟩:=ba_app [] _
 have c4:(⟨#[]⟩:ByteArray).size+(⟨(headG G).toArray⟩:ByteArray).size≤140737488355328:=by
  have q1:=ba_size (headG G)
  have q2:(⟨#[]⟩:ByteArray).size=0:=rfl
  omega
 unfold QaY.f
 rw [ev,Option.bind_some,if_pos rfl,n1,d1,Option.bind_some,if_pos c1,n2,d2,Option.bind_some,z1,if_pos c2,z2,if_pos c3,z3,if_pos c4,z4,he]
 rfl
def spl (c:UInt8):List UInt8→List UInt8→List (List UInt8)
 |cur,[]=>[cur]
 |cur,x::l=>if x=c then cur::spl c [] l else spl c (cur++[x]) l
theorem spl_miss {c:UInt8}:∀ (l cur:List UInt8),c∉l→spl c cur l=[cur++l]
 |[],cur,_=>by simp [spl]
 |x::l,cur,h=>by
  simp only [List.mem_cons,not_or] at h
  unfold spl
  rw [if_neg (fun e=>h.1 e.symm),spl_miss l _ h.2]
  simp
theorem spl_hit {c:UInt8}:∀ (pre cur post:List UInt8),c∉pre→spl c cur (pre++c::post)=(cur++pre)::spl c [] post
 |[],cur,post,_=>by
  show spl c cur (c::post)=_
  rw [spl,if_pos rfl]
  simp
 |x::l,cur,post,h=>by
  simp only [List.mem_cons,not_or] at h
  rw [List.cons_append]
  rw [show spl c cur (x::(l++c::post))=spl c (cur++[x]) (l++c::post) by rw [spl,if_neg (fun e=>h.1 e.symm)],spl_hit l _ post h.2]
  simp
theorem index_miss {c:UInt8}:∀ (l:List UInt8),c∉l→Lib.index l [c]= -1
 |[],_=>rfl
 |x::l,h=>by
  simp only [List.mem_cons,not_or] at h
  unfold Lib.index
  have:([c]:List UInt8).isPrefixOf (x::l)=false:=by simp [List.isPrefixOf,h.1]
  rw [this,index_miss l h.2]
  rfl
theorem index_hit {c:UInt8}:∀ (pre post:List UInt8),c∉pre→Lib.index (pre++c::post) [c]=(pre.length:Int)
 |[],post,_=>by
  show Lib.index (c::post) [c]=0
  unfold Lib.index
  have:([c]:List UInt8).isPrefixOf (c::post)=true:=by simp [List.isPrefixOf]
  rw [this];rfl
 |x::l,post,h=>by
  simp only [List.mem_cons,not_or] at h
  rw [List.cons_append]
  unfold Lib.index
  have:([c]:List UInt8).isPrefixOf (x::(l++c::post))=false:=by simp [List.isPrefixOf,h.1]
  rw [this,index_hit l post h.2]
  have h1:((l.length:Int)== -1)=false:=by simp
  rw [h1]
  simp
theorem split_eq {c:UInt8}:∀ (n:Nat) (l:List UInt8),l.length≤n→Lib.splitK [c] 0 (Lib.count l [c]) l=spl c [] l:=by
 intro n
 induction n with
 |zero=>
  intro l h
  obtain rfl:l=[]:=List.length_eq_zero_iff.1 (by omega)
  rw [Lib.count_miss (index_miss [] (by simp))]
  rfl
 |succ n ih=>
  intro l h
  by_cases hc:c∈l
  ·obtain ⟨pre,post,rfl,hp⟩:=List.eq_append_cons_of_mem hc
   have hi:=index_hit pre post hp
   have hd:(pre++c::post).drop (pre.length+([c]:List UInt8).length)=post:=by
    rw [List.length_singleton,show pre++c::post=(pre++[c])++post by simp,show pre.length+1=(pre++[c]).length by simp,List.drop_left]
   rw [Lib.count_hit (by simp) hi,hd,Nat.add_comm 1,spl_hit pre [] post hp]
   unfold Lib.splitK
   have h1:(Lib.index (pre++c::post) [c]== -1)=false:=by rw [hi];simp
   rw [h1,hi,Int.toNat_natCast,hd,Nat.add_zero,List.take_left,ih post (by simp at h;omega)]
   rfl
  ·rw [Lib.count_miss (index_miss l hc),spl_miss l [] hc]
   rfl
theorem Qcw {c:UInt8} (s:ByteArray):(Lib.splitB ⟨#[c]⟩ 0 (Lib.countB s ⟨#[c]⟩) s).map (·.data.toList)=spl c [] s.data.toList:=by
 rw [Lib.splitB_data]
 exact split_eq _ _ (Nat.le_refl _)
theorem btS_nat (s:ByteArray) {i:Nat} (h:i< s.data.toList.length):btS s (i:Int)=((s.data.toList[i]).toNat:Int):=by
 unfold btS
 rw [Int.toNat_natCast,List.getD_eq_getElem?_getD,List.getElem?_eq_getElem h]
 rfl
theorem sz (s:ByteArray):s.size=s.data.toList.length:=by rw [Array.length_toList];rfl
theorem spl_len {c:UInt8}:∀ (l cur p:List UInt8),p∈spl c cur l→p.length≤cur.length+l.length
 |[],cur,p,h=>by
  simp only [spl,List.mem_singleton] at h
  subst h;simp
 |x::l,cur,p,h=>by
  unfold spl at h
  by_cases hx:x=c
  ·rw [if_pos hx] at h
   rcases List.mem_cons.1 h with rfl|h
   ·simp
   ·have:=spl_len l [] p h
    simp at this ⊢;omega
  ·rw [if_neg hx] at h
   have:=spl_len l (cur++[x]) p h
   simp at this ⊢;omega
theorem word_len {s p:ByteArray} {c:UInt8} (h:p∈Lib.splitB ⟨#[c]⟩ 0 (Lib.countB s ⟨#[c]⟩) s):p.size≤s.size:=by
 have h1:p.data.toList∈(Lib.splitB ⟨#[c]⟩ 0 (Lib.countB s ⟨#[c]⟩) s).map (·.data.toList):=List.mem_map.2 ⟨p,h,rfl⟩
 rw [Qcw] at h1
 have:=spl_len _ _ _ h1
 rw [sz,sz]
 simpa using this
theorem spl_count {c:UInt8}:∀ (l cur:List UInt8),(spl c cur l).length≤l.length+1
 |[],cur=>by simp [spl]
 |x::l,cur=>by
  unfold spl
  by_cases hx:x=c
  ·rw [if_pos hx]
   have:=spl_count (c:=c) l []
   simp;omega
  ·rw [if_neg hx]
   have:=spl_count (c:=c) l (cur++[x])
   simp;omega
theorem words_len {s:ByteArray} {c:UInt8}:(Lib.splitB ⟨#[c]⟩ 0 (Lib.countB s ⟨#[c]⟩) s).length≤s.size+1:=by
 have h:=spl_count (c:=c) s.data.toList []
 rw [← Qcw,List.length_map] at h
 rw [sz];exact h
theorem split_impl {N:Nat} {s:ByteArray} {c:UInt8} (hs:s.size≤1048576):strings_Split.f N s ⟨#[c]⟩=some (Lib.splitB ⟨#[c]⟩ 0 (Lib.countB s ⟨#[c]⟩) s):=by
 unfold strings_Split.f
 rw [if_pos ⟨by omega,Nat.le_refl 1⟩]
def dd:Nat→Nat→List UInt8
 |0,_=>[]
 |k+1,n=>if n< 10 then [UInt8.ofNat (48+n)] else dd k (n/10)++[UInt8.ofNat (48+n%10)]
theorem dd_eq (k:Nat):∀ n:Nat,n< 10^(k+1)→Lib.decDigits n=dd (k+1) n:=by
 induction k with
 |zero=>
  intro n h
  have h10:n< 10:=by simpa using h
  rw [Lib.decDigits,dif_pos h10,dd,if_pos h10]
 |succ k ih=>
  intro n h
  by_cases h10:n< 10
  ·rw [Lib.decDigits,dif_pos h10,dd,if_pos h10]
  ·rw [Nat.pow_succ] at h
   rw [Lib.decDigits,dif_neg h10,dd,if_neg h10,ih (n/10) (by omega)]
theorem dd5 {n:Nat} (h:n≤2000):Lib.decDigits n=dd 4 n:=dd_eq 3 n (by omega)
theorem parse_lit:∀ n:Nat,n< 2001→parsed (dd 4 n)=((n:Int),false):=by decide+kernel
theorem parsed_lit {n:Nat} (h:n≤2000):parsed (Lib.decDigits n)=((n:Int),false):=by rw [dd5 h];exact parse_lit n (by omega)
theorem parsed_range {l:List UInt8} (h:(parsed l).2=false): -9223372036854775808≤(parsed l).1∧(parsed l).1≤9223372036854775807:=by
 unfold parsed at h ⊢
 cases hp:Lib.parseIntB 64 l with
 |ok v=>
  show -9223372036854775808≤v∧v≤9223372036854775807
  unfold Lib.parseIntB at hp
  cases l with
  |nil=>cases hp
  |cons c r=>
   simp only at hp
   cases hq:Lib.parseUintB 64 (if c.toNat=43∨c.toNat=45 then r else c::r) with
   |ok u=>
    rw [hq] at hp
    simp only at hp
    split at hp
    ·cases hp
    ·split at hp
     ·cases hp
     ·rename_i h1 h2
      have:=Lib.NumEnd.ok.inj hp
      by_cases hn:c.toNat=45
      ·rw [if_pos hn] at this
       have:¬ (2^63< u):=fun g=>h2 ⟨hn,g⟩
       omega
      ·rw [if_neg hn] at this
       have:¬ (2^63≤u):=fun g=>h1 ⟨hn,g⟩
       omega
   |_=>rw [hq] at hp;cases hp
 |_=>rw [hp] at h;cases h
def nuI (most:Int) (l:List UInt8):Int×Bool:=if (parsed l).2=true then (0,false) else if Lib.itoa (parsed l).1=l then (if 0≤(parsed l).1 then (if (parsed l).1≤most then ((parsed l).1,true) else (0,false)) else (0,false)) else (0,false)
theorem ba_litI {w:ByteArray} {l:List UInt8}:((⟨l.toArray⟩:ByteArray).toList=w.toList)↔l=w.data.toList:=by
 rw [Lib.toList_data,Lib.toList_data]
theorem number_impl (N:Nat) {w:ByteArray} {most:Int} (hs:w.size≤1048576):Qb4.f N w most=some (nuI most w.data.toList):=by
 unfold Qb4.f Qb1.f nuI
 rw [if_pos ⟨by omega,rfl,rfl⟩,Option.bind_some]
 by_cases h2:(parsed w.data.toList).2=true
 ·rw [if_pos h2,if_pos h2]
 ·have hr:=parsed_range (l:=w.data.toList) (by simpa using h2)
  have hd:QbC.f N (parsed w.data.toList).1=some ⟨(Lib.itoa (parsed w.data.toList).1).toArray⟩:=by
   unfold QbC.f QbX.f
   rw [if_pos ⟨hr,rfl⟩]
   rfl
  rw [if_neg h2,if_neg h2,hd,Option.bind_some]
  by_cases h3:Lib.itoa (parsed w.data.toList).1=w.data.toList
  ·rw [if_pos (ba_litI.2 h3),if_pos h3]
   unfold Qbg.f
   by_cases h4:0≤(parsed w.data.toList).1
   ·rw [if_pos h4,if_pos h4,Option.bind_some]
    by_cases h5:(parsed w.data.toList).1≤most
    ·rw [decide_eq_true h5,if_pos rfl,if_pos h5]
    ·rw [decide_eq_false h5,if_neg Bool.false_ne_true,if_neg h5]
   ·rw [if_neg h4,if_neg h4,Option.bind_some,if_neg Bool.false_ne_true]
  ·rw [if_neg (fun g=>h3 (ba_litI.1 g)),if_neg h3]
theorem nuI_ok {most:Int} {l:List UInt8} (h:(nuI most l).2=true):(0≤(nuI most l).1∧(nuI most l).1≤most)∧l=Lib.decDigits (nuI most l).1.toNat:=by
 unfold nuI at h ⊢
 by_cases h2:(parsed l).2=true
 ·rw [if_pos h2] at h;cases h
 ·rw [if_neg h2] at h ⊢
  by_cases h3:Lib.itoa (parsed l).1=l
  ·rw [if_pos h3] at h ⊢
   by_cases h4:0≤(parsed l).1
   ·rw [if_pos h4] at h ⊢
    by_cases h5:(parsed l).1≤most
    ·rw [if_pos h5]
     refine ⟨⟨h4,h5⟩,?_⟩
     have e:Lib.itoa (parsed l).1=Lib.decDigits (parsed l).1.toNat:=by unfold Lib.itoa;rw [if_neg (by omega)]
     exact h3.symm.trans e
    ·rw [if_neg h5] at h;cases h
   ·rw [if_neg h4] at h;cases h
  ·rw [if_neg h3] at h;cases h
theorem nuI_lit {most:Int} (hm:most≤2000) {n:Nat} (h:(n:Int)≤most):nuI most (Lib.decDigits n)=((n:Int),true):=by
 unfold nuI
 rw [parsed_lit (by omega)]
 have e:Lib.itoa (n:Int)=Lib.decDigits n:=by unfold Lib.itoa;rw [if_neg (by omega),Int.toNat_natCast]
 rw [if_neg Bool.false_ne_true,if_pos e,if_pos (by omega),if_pos h]
theorem cut_hit {c:UInt8} {pre post:List UInt8} (h:c∉pre):Lib.cut (pre++c::post) [c]=(pre,post,true):=by
 have hi:=index_hit pre post h
 have hd:(pre++c::post).drop (pre.length+([c]:List UInt8).length)=post:=by
  rw [List.length_singleton,show pre++c::post=(pre++[c])++post by simp,show pre.length+1=(pre++[c]).length by simp,List.drop_left]
 unfold Lib.cut
 rw [hi,Int.toNat_natCast,hd,List.take_left]
 simp
def hv (b:UInt8):Option Nat:=if 48≤b.toNat∧b.toNat≤57 then some (b.toNat - 48) else if 97≤b.toNat∧b.toNat≤102 then some (b.toNat - 87) else none
def nib (x d:Nat):Nat:=16*(x%1152921504606846976)+d
def hexv (x:Nat) (l:List UInt8):Nat:=l.foldl (fun x b=>nib x ((hv b).getD 0)) x
theorem hv_lt {b:UInt8} {d:Nat} (h:hv b=some d):d< 16:=by
 unfold hv at h
 split at h
 ·obtain rfl:=QsJ h;omega
 ·split at h
  ·obtain rfl:=QsJ h;omega
  ·cases h
theorem hv_getD (b:UInt8):(hv b).getD 0< 16:=by
 cases h:hv b with
 |none=>decide
 |some d=>exact hv_lt h
theorem hv_hxd:∀ d:Nat,d< 16→hv (hxd d)=some d∧hxd d≠10∧hxd d≠32:=by decide
theorem ix_tab:∀ n:Nat,n< 256→u64w (mxI (Lib.indexByte [48,49,50,51,52,53,54,55,56,57,97,98,99,100,101,102] (UInt8.ofNat n)) 0)=(((hv (UInt8.ofNat n)).getD 0:Nat):Int):=by decide+kernel
theorem ix_hv (b:UInt8):u64w (mxI (Lib.indexByte [48,49,50,51,52,53,54,55,56,57,97,98,99,100,101,102] b) 0)=(((hv b).getD 0:Nat):Int):=by
 have:=ix_tab b.toNat b.toNat_lt
 rwa [UInt8.ofNat_toNat] at this
theorem shl4 {x:Nat} (h:x< 18446744073709551616):shlI .u64 (x:Int) 4=((16*(x%1152921504606846976):Nat):Int):=by
 unfold shlI
 have e:(x:Int)*2^(min (4:Int).toNat IntKind.u64.bits)=((x*16:Nat):Int):=by
  rw [show min (4:Int).toNat IntKind.u64.bits=4 from rfl];omega
 rw [e]
 simp only [IntKind.wrap,IntKind.bits,IntKind.signed]
 simp
 omega
theorem orNib {y d:Nat} (h:y< 1152921504606846976) (hd:d< 16):bOr .u64 ((16*y:Nat):Int) (d:Int)=((16*y+d:Nat):Int):=by
 have h2:(BitVec.ofInt 64 ((16*y:Nat):Int)|||BitVec.ofInt 64 (d:Int)).toNat=16*y+d:=by
  rw [BitVec.toNat_or]
  simp only [BitVec.toNat_ofInt]
  have e1:(((16*y:Nat):Int)%((2^64:Nat):Int)).toNat=16*y:=by omega
  have e2:((d:Int)%((2^64:Nat):Int)).toNat=d:=by omega
  rw [e1,e2]
  have:=Nat.two_pow_add_eq_or_of_lt (i:=4) (b:=d) (by omega) y
  rw [show (2:Nat)^4=16 from rfl] at this
  exact this.symm
 show u64w ((BitVec.ofInt 64 ((16*y:Nat):Int)|||BitVec.ofInt 64 (d:Int)).toNat:Int)=_
 rw [h2,u64w_id (by omega) (by omega)]
theorem nib_eq {x d:Nat} (h:x< 18446744073709551616) (hd:d< 16):bOr .u64 (shlI .u64 (x:Int) 4) (d:Int)=((nib x d:Nat):Int):=by
 rw [shl4 h,orNib (Nat.mod_lt _ (by decide)) hd];rfl
theorem nib_lt {x d:Nat} (hd:d< 16):nib x d< 18446744073709551616:=by
 have:x%1152921504606846976< 1152921504606846976:=Nat.mod_lt _ (by decide)
 unfold nib;omega
theorem hexv_lt:∀ (l:List UInt8) (x:Nat),x< 18446744073709551616→hexv x l< 18446744073709551616
 |[],x,h=>h
 |b::l,x,h=>hexv_lt l _ (nib_lt (hv_getD b))
theorem hexv_snoc (x:Nat) (l:List UInt8) (b:UInt8):hexv x (l++[b])=nib (hexv x l) ((hv b).getD 0):=by
 unfold hexv;rw [List.foldl_append];rfl
theorem pow_15:(16:Nat)^15=1152921504606846976:=by decide
theorem pow_le15 {j:Nat} (h:j≤15):(16:Nat)^j≤1152921504606846976:=by rw [← pow_15];exact Nat.pow_le_pow_right (by decide) h
theorem hexv_lastD:∀ (j n:Nat),j≤16→hexv 0 (lastD n j)=n%16^j
 |0,n,_=>by rw [Nat.pow_zero,Nat.mod_one];rfl
 |j+1,n,h=>by
  have hp:=pow_le15 (j:=j) (by omega)
  have hm:n/16%16^j< 16^j:=Nat.mod_lt _ (Nat.pow_pos (by decide))
  show hexv 0 (lastD (n/16) j++[hxd (n%16)])=_
  rw [hexv_snoc,hexv_lastD j (n/16) (by omega),(hv_hxd _ (Nat.mod_lt _ (by decide))).1]
  show nib (n/16%16^j) (n%16)=_
  unfold nib
  rw [Nat.mod_eq_of_lt (Nat.lt_of_lt_of_le hm hp),Nat.pow_succ,Nat.mul_comm (16^j) 16,Nat.mod_mul]
  omega
theorem lastD_no:∀ (j n:Nat),(10:UInt8)∉lastD n j∧(32:UInt8)∉lastD n j
 |0,_=>⟨by simp [lastD],by simp [lastD]⟩
 |j+1,n=>by
  have h:=lastD_no j (n/16)
  have g:=(hv_hxd _ (Nat.mod_lt n (by decide:0< 16))).2
  constructor
  ·intro hm
   rcases List.mem_append.1 (show (10:UInt8)∈lastD (n/16) j++[hxd (n%16)] from hm) with q|q
   ·exact h.1 q
   ·exact g.1 (List.mem_singleton.1 q).symm
  ·intro hm
   rcases List.mem_append.1 (show (32:UInt8)∈lastD (n/16) j++[hxd (n%16)] from hm) with q|q
   ·exact h.2 q
   ·exact g.2 (List.mem_singleton.1 q).symm
theorem hexOf_eq {N:Nat} {w:ByteArray} (hs:w.size≤1048576) (hN:w.size< N):Qbm.f N w=some ((hexv 0 w.data.toList:Nat):Int):=by
 have hL:=sz w
 have q:=rounds_walk0 (b:=fun s=>Qbm.b0 N w s.1 s.2) (N:=N) (acc:=(0:Nat)) (fun (acc:Nat) i=>((acc:Int),i)) w.data.toList (fun acc b=> .go (nib acc ((hv b).getD 0))) (fun acc=> .go (acc:Int)) (fun _ acc=>acc< 18446744073709551616) (by omega) (by decide) (by
  intro acc i hi hI
  have g:(i:Int)< w.size:=by omega
  refine ⟨nib_lt (hv_getD _),?_⟩
  show Qbm.b0 N w (acc:Int) (i:Int)=_
  unfold Qbm.b0 strings_IndexByte.f
  rw [if_pos g,if_pos ⟨by omega,g⟩,btS_nat w hi,Option.bind_some,i64w_succ (n:=w.size) (by omega) (by omega),Int.toNat_natCast,show (w.data.toList[i]).toNat.toUInt8=w.data.toList[i] from UInt8.ofNat_toNat]
  rw [show (⟨#[48,49,50,51,52,53,54,55,56,57,97,98,99,100,101,102]⟩:ByteArray).data.toList=[48,49,50,51,52,53,54,55,56,57,97,98,99,100,101,102] from rfl,ix_hv,nib_eq hI (hv_getD _)]) (by
  intro acc _
  show Qbm.b0 N w (acc:Int) (w.data.toList.length:Int)=_
  unfold Qbm.b0
  rw [if_neg (by omega)])
 have q':rounds (fun s=>Qbm.b0 N w s.1 s.2) N (0,0)=_:=q
 unfold Qbm.f
 rw [q',Option.bind_some]
 have hw:∀ (l:List UInt8) (x:Nat),walk (ρ:=Int) (σ:=Int) (fun acc b=> .go (nib acc ((hv b).getD 0))) (fun acc:Nat=> .go (acc:Int)) x l= .go ((hexv x l:Nat):Int):=by
  intro l
  induction l with
  |nil=>intro x;rfl
  |cons b l ih=>intro x;exact ih _
 rw [hw]
 rfl
def glue (c:UInt8):List (List UInt8)→List UInt8
 |[]=>[]
 |x::r=>x++(r.map fun y=>c::y).flatten
theorem spl_glue {c:UInt8}:∀ (r:List (List UInt8)) (x:List UInt8),c∉x→(∀ y∈r,c∉y)→spl c [] (glue c (x::r))=x::r
 |[],x,hx,_=>by
  show spl c [] (x++[])=_
  rw [List.append_nil,spl_miss x [] hx];rfl
 |y::r,x,hx,h=>by
  have e:glue c (x::y::r)=x++c::glue c (y::r):=by simp [glue]
  rw [e,spl_hit x [] _ hx,spl_glue r y (h y (by simp)) (fun z hz=>h z (by simp [hz]))]
  rfl
def ySp:List UInt8:=[121,101,115]
def nSp:List UInt8:=[110,111]
def body (a:As_):List UInt8:=lastD a.Qbh.toNat 16++wordY a.QbH
def RgA (a:As_):Prop:=0≤a.Qbh∧a.Qbh< 18446744073709551616
def word2 (b:Bool):List UInt8:=if b=true then ySp else nSp
theorem body_eq (a:As_):body a=lastD a.Qbh.toNat 16++32::word2 a.QbH:=by
 unfold body wordY word2
 cases a.QbH<;>rfl
theorem word2_no (b:Bool):(10:UInt8)∉word2 b∧(32:UInt8)∉word2 b:=by cases b<;>decide
theorem word2_yes (b:Bool):decide (word2 b=ySp)=b:=by cases b<;>decide
theorem body_no (a:As_):(10:UInt8)∉body a:=by
 rw [body_eq]
 intro h
 rcases List.mem_append.1 h with q|q
 ·exact (lastD_no _ _).1 q
 ·rcases List.mem_cons.1 q with q|q
  ·exact absurd q (by decide)
  ·exact (word2_no _).1 q
theorem line_body (a:As_):lineG a=body a++[10]:=rfl
theorem glue_lines:∀ (as':List As_) (x:List UInt8),glue 10 (x::(as'.map body++[[]]))=x++10::linesG as'
 |[],x=>by simp [glue,linesG]
 |a::r,x=>by
  have ih:=glue_lines r (body a)
  have e:glue 10 (x::((a::r).map body++[[]]))=x++10::glue 10 (body a::(r.map body++[[]])):=by simp [glue]
  rw [e,ih]
  simp [linesG,line_body]
def hd0 (G:Ga):List UInt8:=Lib.decDigits G.Qac.toNat++32::Lib.decDigits G.Qae.toNat
theorem text_glue (G:Ga):textG G=glue 10 (hd0 G::(G.Qah.map body++[[]])):=by
 rw [glue_lines]
 simp [textG,headG,hd0]
theorem dec_no:∀ n:Nat,n< 61→(10:UInt8)∉dd 4 n∧(32:UInt8)∉dd 4 n:=by decide+kernel
theorem dig_no {n:Nat} (h:n< 61):(10:UInt8)∉Lib.decDigits n∧(32:UInt8)∉Lib.decDigits n:=by rw [dd5 (by omega)];exact dec_no n h
theorem hd0_no {G:Ga} (h1:G.Qac≤60) (h2:G.Qae≤3):(10:UInt8)∉hd0 G:=by
 unfold hd0
 intro h
 rcases List.mem_append.1 h with q|q
 ·exact (dig_no (n:=G.Qac.toNat) (by omega)).1 q
 ·rcases List.mem_cons.1 q with q|q
  ·exact absurd q (by decide)
  ·exact (dig_no (n:=G.Qae.toNat) (by omega)).1 q
theorem text_lines {G:Ga} (h1:G.Qac≤60) (h2:G.Qae≤3):spl 10 [] (textG G)=hd0 G::(G.Qah.map body++[[]]):=by
 rw [text_glue,spl_glue _ _ (hd0_no h1 h2)]
 intro y hy
 rcases List.mem_append.1 hy with q|q
 ·obtain ⟨a,_,rfl⟩:=List.mem_map.1 q
  exact body_no a
 ·rw [List.mem_singleton.1 q];simp
def imL (l:List UInt8):As_:=⟨((hexv 0 (Lib.cut l [32]).1:Nat):Int),decide ((Lib.cut l [32]).2.1=ySp)⟩
theorem imL_rg (l:List UInt8):RgA (imL l):=by
 have:=hexv_lt (Lib.cut l [32]).1 0 (by decide)
 exact ⟨by show (0:Int)≤((hexv 0 (Lib.cut l [32]).1:Nat):Int);omega,by show ((hexv 0 (Lib.cut l [32]).1:Nat):Int)< _;omega⟩
theorem hexv16 {n:Nat} (h:n< 18446744073709551616):hexv 0 (lastD n 16)=n:=by
 rw [hexv_lastD 16 n (by decide),show (16:Nat)^16=18446744073709551616 by decide,Nat.mod_eq_of_lt h]
theorem ask_mk {a:As_} (h:RgA a):(⟨((a.Qbh.toNat:Nat):Int),a.QbH⟩:As_)=a:=by
 rw [Int.toNat_of_nonneg h.1]
theorem imL_body {a:As_} (h:RgA a):imL (body a)=a:=by
 obtain ⟨h1,h2⟩:=h
 unfold imL
 rw [body_eq,cut_hit (lastD_no _ _).2]
 simp only
 rw [hexv16 (by omega),word2_yes]
 exact ask_mk ⟨h1,h2⟩
structure Tx (G:Ga) (l:List UInt8):Prop where
 ok:okG G=true
 rg:∀ a∈G.Qah,RgA a
 eq:l=textG G
abbrev RW:=Qag×Int
def badG:RW:=(⟨0,0,[]⟩,5)
theorem lst_eq (w:ByteArray) (l:List UInt8):(w.toList=(⟨l.toArray⟩:ByteArray).toList)↔w.data.toList=l:=by
 rw [Lib.toList_data,Lib.toList_data]
theorem lst_beq (w:ByteArray) (l:List UInt8):(w.toList==(⟨l.toArray⟩:ByteArray).toList)=decide (w.data.toList=l):=by
 rw [Bool.eq_iff_iff,beq_iff_eq,decide_eq_true_eq,lst_eq]
theorem yes_lit:(⟨#[121,101,115]⟩:ByteArray)=⟨ySp.toArray⟩:=rfl
theorem spl_ne {c:UInt8}:∀ (l cur:List UInt8),spl c cur l≠[]
 |[],cur=>by simp [spl]
 |y::l,cur=>by
  unfold spl
  split
  ·simp
  ·exact spl_ne l _
def Reads (l:List UInt8) (o:Option RW):Prop:=∃ r,o=some r∧(r=badG∨∃ G,r=(G,0)∧Tx G l)∧∀ G,Tx G l→r=(G,0)
theorem reads_bad {l:List UInt8} {o:Option RW} (e:o=some badG) (h:∀ G,Tx G l→False):Reads l o:=⟨badG,e, .inl rfl,fun G g=>(h G g).elim⟩
theorem cut_len (l:List UInt8):(Lib.cut l [32]).1.length≤l.length∧(Lib.cut l [32]).2.1.length≤l.length:=by
 unfold Lib.cut
 split
 ·simp only [List.length_take,List.length_drop];omega
 ·simp
theorem cut_eq {N:Nat} {w:ByteArray} (hz:w.size≤1048576):strings_Cut.f N w ⟨#[32]⟩=some (⟨(Lib.cut w.data.toList [32]).1.toArray⟩,⟨(Lib.cut w.data.toList [32]).2.1.toArray⟩,(Lib.cut w.data.toList [32]).2.2):=by
 unfold strings_Cut.f
 rw [if_pos (by omega)]
theorem cut_sizes {w:ByteArray} (hz:w.size≤1048576):(⟨(Lib.cut w.data.toList [32]).1.toArray⟩:ByteArray).size≤1048576∧(⟨(Lib.cut w.data.toList [32]).2.1.toArray⟩:ByteArray).size≤1048576:=by
 have h:=cut_len w.data.toList
 rw [← sz] at h
 rw [ba_size,ba_size]
 omega
def imA (w:ByteArray):As_:=imL w.data.toList
def lsI (wr:List ByteArray):List ByteArray:=wr.take (min (wr.length - 1) 61)
theorem QcT {N:Nat} {w0:ByteArray} {wr:List ByteArray} {n k:Int} (hw:∀ w∈wr,w.size≤1048576) (hl:wr.length≤1048576) (hN:3000000< N):rounds (fun s=>Qa7.b0 N (w0::wr) s.1 s.2.1 s.2.2.1 s.2.2.2) N (n,k,[],1)=some (.go (n,k,(lsI wr).map imA)):=by
 have hd:(lsI wr).length=min (wr.length - 1) 61:=by unfold lsI;rw [List.length_take];omega
 have hlen:((w0::wr).length:Int)=(wr.length:Int)+1:=by simp
 have hi:i64w (((w0::wr).length:Int) - 1)=(wr.length:Int):=by rw [hlen,i64w_id (by omega) (by omega)];omega
 have q:=rounds_for (b:=fun s=>Qa7.b0 N (w0::wr) s.1 s.2.1 s.2.2.1 s.2.2.2) (e:= .go (n,k,(lsI wr).map imA)) (fun j=>(n,k,((lsI wr).take j).map imA,(j:Int)+1)) (lsI wr).length 0 N (Nat.zero_le _) (by omega) (by
  intro i _ h
  have hw1:i< wr.length:=by omega
  have eg:rdL (w0::wr) ((i:Int)+1) (⟨#[]⟩:ByteArray)=wr[i]:=by
   have:rdL (w0::wr) ((i+1:Nat):Int) (⟨#[]⟩:ByteArray)=(w0::wr)[i+1]'(by simp;omega):=rdL_nat _
   rw [show (i:Int)+1=((i+1:Nat):Int) by omega,this]
   simp
  have hz:=hw _ (List.getElem_mem hw1)
  obtain ⟨z1,z2⟩:=cut_sizes hz
  have ex:(lsI wr)[i]=wr[i]:=by
   have h':(lsI wr)[i]?=wr[i]?:=by
    unfold lsI at h ⊢
    rw [List.length_take] at h
    rw [List.getElem?_take,if_pos (by omega)]
   rw [List.getElem?_eq_getElem h,List.getElem?_eq_getElem hw1] at h'
   exact QsJ h'
  show Qa7.b0 N (w0::wr) n k (((lsI wr).take i).map imA) ((i:Int)+1)=some (.next (n,k,((lsI wr).take (i+1)).map imA,((i+1:Nat):Int)+1))
  unfold Qa7.b0
  rw [hi,if_pos (by omega),if_pos (by omega),if_pos ⟨by omega,by omega⟩,eg,cut_eq hz,Option.bind_some]
  simp only
  rw [hexOf_eq z1 (by omega),Option.bind_some,yes_lit,lst_beq,if_pos (by rw [List.length_map,List.length_take,List.length_singleton];omega),List.take_succ_eq_append_getElem h,List.map_append,List.map_singleton,ex,i64w_id (by omega) (by omega)]
  rfl) (by
  show Qa7.b0 N (w0::wr) n k (((lsI wr).take (lsI wr).length).map imA) (((lsI wr).length:Int)+1)=_
  unfold Qa7.b0
  rw [hi,List.take_length]
  by_cases c:((lsI wr).length:Int)+1< (wr.length:Int)
  ·rw [if_pos c,if_neg (by omega)]
  ·rw [if_neg c])
 exact q
theorem text_ne {G:Ga} (h:okG G=true):textG G≠[]:=by
 obtain ⟨k1,k2,k3⟩:=okG_iff h
 intro e
 have:=text_lines k1.2 k2.2
 rw [e] at this
 have:=congrArg List.length this
 simp [spl] at this
theorem nuI_rg (most:Int) (hm:0≤most) (l:List UInt8):0≤(nuI most l).1∧(nuI most l).1≤most:=by
 by_cases c:(nuI most l).2=true
 ·exact (nuI_ok c).1
 ·unfold nuI at c ⊢
  split at c<;>rename_i c1
  ·rw [if_pos c1];exact ⟨Int.le_refl _,hm⟩
  ·rw [if_neg c1]
   split at c<;>rename_i c2
   ·rw [if_pos c2]
    split at c<;>rename_i c3
    ·rw [if_pos c3]
     split at c<;>rename_i c4
     ·exact absurd rfl c
     ·rw [if_neg c4];exact ⟨Int.le_refl _,hm⟩
    ·rw [if_neg c3];exact ⟨Int.le_refl _,hm⟩
   ·rw [if_neg c2];exact ⟨Int.le_refl _,hm⟩
theorem Read_impl {N:Nat} {s:ByteArray} (hs:s.size≤1048576) (hN:4000000< N):Reads s.data.toList (Qa7.f N s):=by
 have hm:=Qcw (c:=10) s
 have hw:∀ w∈Lib.splitB ⟨#[10]⟩ 0 (Lib.countB s ⟨#[10]⟩) s,w.size≤1048576:=fun w h=>Nat.le_trans (word_len h) hs
 have hl:(Lib.splitB ⟨#[10]⟩ 0 (Lib.countB s ⟨#[10]⟩) s).length≤1048577:=Nat.le_trans words_len (by omega)
 unfold Qa7.f
 rw [split_impl hs,Option.bind_some]
 revert hm hw hl
 generalize Lib.splitB ⟨#[10]⟩ 0 (Lib.countB s ⟨#[10]⟩) s=ws
 intro hm hw hl
 cases ws with
 |nil=>exact absurd hm.symm (spl_ne _ _)
 |cons w0 wr=>
 have hT0:∀ G,Tx G s.data.toList→w0.data.toList=hd0 G∧wr.map (·.data.toList)=G.Qah.map body++[[]]:=by
  intro G h
  obtain ⟨k1,k2,k3⟩:=okG_iff h.ok
  rw [h.eq,text_lines k1.2 k2.2,List.map_cons] at hm
  exact ⟨(List.cons.inj hm).1,(List.cons.inj hm).2⟩
 have hlen:((w0::wr).length:Int)=(wr.length:Int)+1:=by simp
 have hl':wr.length≤1048576:=by simp at hl;omega
 have r0:rdL (w0::wr) 0 (⟨#[]⟩:ByteArray)=w0:=rfl
 have z0:=hw w0 (by simp)
 obtain ⟨z1,z2⟩:=cut_sizes z0
 rw [if_pos ⟨by omega,by omega⟩,r0,cut_eq z0,Option.bind_some]
 simp only
 rw [number_impl N z1,Option.bind_some,number_impl N z2,Option.bind_some]
 obtain ⟨n,hn⟩:∃ n,n=(nuI 60 (Lib.cut w0.data.toList [32]).1).1:=⟨_,rfl⟩
 obtain ⟨k,hk⟩:∃ k,k=(nuI 3 (Lib.cut w0.data.toList [32]).2.1).1:=⟨_,rfl⟩
 have b1:=nuI_rg 60 (by decide) (Lib.cut w0.data.toList [32]).1
 have b2:=nuI_rg 3 (by decide) (Lib.cut w0.data.toList [32]).2.1
 rw [← hn] at b1
 rw [← hk] at b2
 show Reads _ ((rounds (fun s=>Qa7.b0 N (w0::wr) s.1 s.2.1 s.2.2.1 s.2.2.2) N (i8w (nuI 60 (Lib.cut w0.data.toList [32]).1).1,i8w (nuI 3 (Lib.cut w0.data.toList [32]).2.1).1,[],1)).bind _)
 rw [← hn,← hk,i8w_id (by omega) (by omega),i8w_id (by omega) (by omega),QcT (fun w h=>hw w (by simp [h])) hl' (by omega),Option.bind_some]
 show Reads _ (Qa7.a0 N s n k ((lsI wr).map imA))
 have hT:∀ G,Tx G s.data.toList→G=(⟨n,k,(lsI wr).map imA⟩:Ga):=by
  intro G h
  obtain ⟨k1,k2,k3⟩:=okG_iff h.ok
  have c1:=k1.1
  have c2:=k1.2
  obtain ⟨e1,e2⟩:=hT0 G h
  have ec:Lib.cut w0.data.toList [32]=(Lib.decDigits G.Qac.toNat,Lib.decDigits G.Qae.toNat,true):=by
   rw [e1];exact cut_hit (dig_no (by omega)).2
  have en:G.Qac=n:=by
   rw [hn,ec]
   simp only
   rw [nuI_lit (by decide) (by omega),Int.toNat_of_nonneg (by omega)]
  have ek:G.Qae=k:=by
   rw [hk,ec]
   simp only
   rw [nuI_lit (by decide) (by omega),Int.toNat_of_nonneg (by omega)]
  have el:=congrArg List.length e2
  rw [List.length_map,List.length_append,List.length_map,List.length_singleton] at el
  have ea:G.Qah=(lsI wr).map imA:=by
   unfold lsI imA
   rw [show (fun w:ByteArray=>imL w.data.toList)=imL∘(fun w:ByteArray=>w.data.toList) from rfl,← List.map_map,List.map_take,e2,show min (wr.length - 1) 61=(G.Qah.map body).length by rw [List.length_map];omega,List.take_left,List.map_map]
   have:∀ x:List As_,(∀ a∈x,RgA a)→x=x.map (imL∘body):=by
    intro x
    induction x with
    |nil=>intro _;rfl
    |cons a x ih=>intro hx;rw [List.map_cons,← ih fun b hb=>hx b (by simp [hb])];exact congrArg (· ::x) (imL_body (hx a (by simp))).symm
   exact this _ h.rg
  rw [← G_eta G,en,ek,ea]
 have hG:InG (⟨n,k,(lsI wr).map imA⟩:Ga):=⟨⟨by show -128≤n;omega,by show n≤127;omega⟩,⟨by show -128≤k;omega,by show k≤127;omega⟩⟩
 have hR:∀ a∈(lsI wr).map imA,RgA a:=by
  intro a ha
  obtain ⟨w,_,rfl⟩:=List.mem_map.1 ha
  exact imL_rg _
 generalize (lsI wr).map imA=as' at hT hG hR ⊢
 unfold Qa7.a0
 by_cases c0:s.data.toList=[]
 ·rw [if_pos ((lst_eq s []).2 c0)]
  exact reads_bad rfl fun G g=>text_ne g.ok (g.eq.symm.trans c0)
 rw [if_neg (fun g=>c0 ((lst_eq s []).1 g))]
 have e2:Qa1.f N (⟨n,k,as'⟩:Qag)=some (okG ⟨n,k,as'⟩):=okG_impl hG (by omega)
 by_cases c1:okG (⟨n,k,as'⟩:Ga)=true
 ·obtain ⟨k1,k2,k3⟩:=okG_iff c1
  rw [text_impl (by rw [c1] at e2;exact e2) k3 k1 k2 hR (by omega),Option.bind_some]
  by_cases c2:textG (⟨n,k,as'⟩:Ga)=s.data.toList
  ·rw [if_pos (by rw [Lib.toList_data,Lib.toList_data];exact c2)]
   exact ⟨_,rfl, .inr ⟨_,rfl,c1,hR,c2.symm⟩,fun G g=>by rw [hT G g]⟩
  ·rw [if_neg (by rw [Lib.toList_data,Lib.toList_data];exact c2)]
   exact reads_bad rfl fun G g=>c2 (by rw [← hT G g];exact g.eq.symm)
 ·have e3:QaY.f N (⟨n,k,as'⟩:Qag)=some (⟨#[]⟩:ByteArray):=by
   unfold QaY.f
   rw [e2,Option.bind_some,if_neg c1]
  rw [e3,Option.bind_some,if_neg (by rw [Lib.toList_data,Lib.toList_data];exact fun g=>c0 g.symm)]
  exact reads_bad rfl fun G g=>c1 (by rw [← hT G g];exact g.ok)
theorem Reads.same {l:List UInt8} {o o':Option RW} (h:Reads l o) (h':Reads l o'):o=o'∧∃ r,o=some r∧(r=badG∨∃ G,r=(G,0)∧Tx G l):=by
 obtain ⟨r,rfl,h1,h2⟩:=h
 obtain ⟨r',rfl,h1',h2'⟩:=h'
 refine ⟨?_,r,rfl,h1⟩
 rcases h1 with rfl|⟨G,rfl,hG⟩
 ·rcases h1' with rfl|⟨G,rfl,hG⟩
  ·rfl
  ·rw [h2 G hG]
 ·rw [h2' G hG]
theorem phi_range {G:Ga} (h:OkG G):0≤phi G∧phi G≤4*sumX G:=by
 have l3:=h.l3
 have x0:=xs_nonneg G 0
 have x1:=xs_nonneg G 1
 have x2:=xs_nonneg G 2
 have x3:=xs_nonneg G 3
 unfold phi sumX
 have o1:=fun hl=>xs_out (G:=G) (j:=1) hl
 have o2:=fun hl=>xs_out (G:=G) (j:=2) hl
 have o3:=fun hl=>xs_out (G:=G) (j:=3) hl
 obtain e|e|e|e:G.Qae=0∨G.Qae=1∨G.Qae=2∨G.Qae=3:=by omega
 ·have:=o2 (by omega);have:=o3 (by omega);rw [e];omega
 ·have:=o2 (by omega);have:=o3 (by omega);rw [e];omega
 ·have:=o3 (by omega);rw [e];omega
 ·rw [e];omega
theorem rk_range {p:Int} (h0:0≤p) (h1:p≤80):0≤rk p∧rk p≤46:=by unfold rk;split<;>omega
theorem ok_add {G:Ga} (hk:okG G=true) {s:Int} {b:Bool} (hl:G.Qah.length< 60) (hb:bad G.Qac ⟨s,b⟩=false):okG (addA G s b)=true:=by
 unfold okG at hk ⊢
 simp only [Bool.and_eq_true,decide_eq_true_eq] at hk ⊢
 refine ⟨hk.1,hk.2.1,by show (G.Qah++[(⟨s,b⟩:As_)]).length≤60;simp;omega,?_⟩
 show (!(G.Qah++[(⟨s,b⟩:As_)]).any (bad G.Qac))=true
 rw [List.any_append]
 have:=hk.2.2.2
 simp only [Bool.not_eq_true',Bool.or_eq_false_iff,List.any_cons,List.any_nil,Bool.or_false] at this ⊢
 exact ⟨this,hb⟩
theorem answer_val {N:Nat} {s m:Int} (hm:0≤m∧m≤63) (w:Bool):Qbo.f N s m w=some (bitB s m !=w)∧QbA.f N s m w=some (bitB s m !=w):=by
 have e1:mxI m 0=m:=by unfold mxI;rw [if_neg (by omega)]
 have e2:u64w (bAnd .i64 m 63)=m:=by
  have:=six_tab m.toNat (by omega)
  rwa [Int.toNat_of_nonneg hm.1] at this
 simp only [Qbo.f,QbA.f,within_eq,l00In_eq,decide_eq_true hm,Option.bind_some,if_true,e1,e2,if_pos hm.1]
 exact ⟨rfl,rfl⟩
def lieN (ws:List Bool) (k:Nat):Int:=(((ws.take k).filter id).length:Int)
theorem lieN_le (ws:List Bool) (k:Nat):lieN ws k≤((ws.filter id).length:Int):=by
 unfold lieN
 have:=((List.take_sublist k ws).filter id).length_le
 omega
theorem lieN_in {ws:List Bool} {k:Nat} (h:k< ws.length):lieN ws (k+1)=lieN ws k+(if ws[k]=true then 1 else 0):=by
 unfold lieN
 rw [List.take_succ_eq_append_getElem h,List.filter_append,List.length_append]
 cases ws[k]<;>simp
theorem lieN_out {ws:List Bool} {k:Nat} (h:ws.length≤k):lieN ws (k+1)=lieN ws k:=by
 unfold lieN
 rw [List.take_of_length_le h,List.take_of_length_le (by omega)]
theorem mem_cd {G:Ga} {k:Nat} {x:Int}:x∈cd G k↔(0≤x∧x< k)∧W G x≤G.Qae:=by
 unfold cd
 rw [List.mem_filter,decide_eq_true_eq,mem_idx]
theorem W_ask (G:Ga) (s m:Int) (w:Bool):W (addA G s (bitB s m !=w)) m=W G m+(if w=true then 1 else 0):=by
 rw [W_add]
 cases w<;>cases bitB s m<;>rfl
structure Done (n l m:Int) (A:List As_):Prop where
 ok:okG (⟨n,l,A⟩:Ga)=true
 cds:cd (⟨n,l,A⟩:Ga) (nG ⟨n,l,A⟩)=[m]
 len:A.length≤46
 rg:∀ a∈A,RgA a
theorem askSet_rg (G:Ga) (q:Ar Int 4) (b:Bool):RgA ⟨askSet G q,b⟩:=by
 have h:InU (askSet G q):=orAll_in _ 0 inU_zero
 have hlt:=(B64 (askSet G q)).isLt
 unfold InU at h
 exact ⟨by show 0≤askSet G q;omega,by show askSet G q< 18446744073709551616;omega⟩
theorem play_ok {N:Nat} (hN:200< N) {n l m:Int} (hn:1≤n∧n≤20) (hl:0≤l∧l≤3) (hm:0≤m∧m< n) {ws:List Bool} (hws:((ws.filter id).length:Int)≤l):
 ∃ A:List As_,QaR.f N n l m ws=some (⟨n,l,A⟩,m,0)∧Done n l m A:=by
 have e8n:i8w n=n:=i8w_id (by omega) (by omega)
 have e8l:i8w l=l:=i8w_id (by omega) (by omega)
 obtain ⟨e,h1,A,rfl,hd⟩:=rounds_ends (b:=fun s=>QaR.b0 N ws m s.1 s.2.1 s.2.2)
  (fun s=>∃ A:List As_,s=(n,l,A)∧okG ⟨n,l,A⟩=true∧(A.length:Int)+rk (phi ⟨n,l,A⟩)≤46∧W ⟨n,l,A⟩ m=lieN ws A.length∧∀ a∈A,RgA a) (fun s=>60 - s.2.2.length)
  (fun e=>∃ A:List As_,e= .ret ((⟨n,l,A⟩:Ga),m,0)∧Done n l m A) (by
  rintro s ⟨A,rfl,hk,hr,hW,hg⟩
  have hG:InG (⟨n,l,A⟩:Ga):=⟨⟨by show -128≤n;omega,by show n≤127;omega⟩,⟨by show -128≤l;omega,by show l≤127;omega⟩⟩
  have h:=okG_iff hk
  have fs:=found_spec (N:=N) h (by omega)
  have hc:=cd_xs h
  have hcl:=cd_len (⟨n,l,A⟩:Ga) (nG ⟨n,l,A⟩)
  have hnG:nG (⟨n,l,A⟩:Ga)=n.toNat:=rfl
  have hp:=phi_range h
  have hrk:=rk_range hp.1 (by unfold sumX at hp;omega)
  have hmem:m∈cd (⟨n,l,A⟩:Ga) (nG ⟨n,l,A⟩):=by
   rw [mem_cd]
   refine ⟨⟨hm.1,by rw [hnG];omega⟩,?_⟩
   rw [hW]
   exact Int.le_trans (lieN_le ws _) hws
  by_cases c0:(cd (⟨n,l,A⟩:Ga) (nG ⟨n,l,A⟩)).length=0
  ·rw [List.length_eq_zero_iff.1 c0] at hmem;cases hmem
  ·rw [if_neg c0] at fs
   by_cases c1:(cd (⟨n,l,A⟩:Ga) (nG ⟨n,l,A⟩)).length=1
   ·left
    obtain ⟨y,hy⟩:=List.length_eq_one_iff.1 c1
    have hym:cd (⟨n,l,A⟩:Ga) (nG ⟨n,l,A⟩)=[m]:=by
     rw [hy] at hmem ⊢
     rw [List.mem_singleton.1 hmem]
    rw [if_pos c1,hym] at fs
    simp only [QaR.b0,fs,Option.bind_some,if_true]
    exact ⟨_,rfl,A,rfl,hk,hym,by omega,hg⟩
   ·right
    rw [if_neg c1] at fs
    have hA:A.length≤46:=by omega
    obtain ⟨q,t1,t2,t3,t4,hb,hq,hs⟩:=next_more (N:=N) hG (by omega) hk
    have h2:2≤sumX (⟨n,l,A⟩:Ga):=by unfold sumX;omega
    have fin:∀ w:Bool,lieN ws (A.length+1)=lieN ws A.length+(if w=true then 1 else 0)→∃ t:_,QaR.j2 N n l (A++[(⟨askSet (⟨n,l,A⟩:Ga) q,bitB (askSet (⟨n,l,A⟩:Ga) q) m !=w⟩:As_)])=some (.next t)∧
     (∃ B:List As_,t=(n,l,B)∧okG ⟨n,l,B⟩=true∧(B.length:Int)+rk (phi ⟨n,l,B⟩)≤46∧W ⟨n,l,B⟩ m=lieN ws B.length∧∀ a∈B,RgA a)∧60 - t.2.2.length< 60 - A.length:=by
     intro w hw
     have hlen:(A++[(⟨askSet (⟨n,l,A⟩:Ga) q,bitB (askSet (⟨n,l,A⟩:Ga) q) m !=w⟩:As_)]).length=A.length+1:=by simp
     refine ⟨_,rfl,⟨A++[(⟨askSet (⟨n,l,A⟩:Ga) q,bitB (askSet (⟨n,l,A⟩:Ga) q) m !=w⟩:As_)],rfl,ok_add (G:=(⟨n,l,A⟩:Ga)) (s:=askSet (⟨n,l,A⟩:Ga) q) (b:=bitB (askSet (⟨n,l,A⟩:Ga) q) m !=w) hk (show A.length< 60 by omega) (hb _),?_,?_,?_⟩,by dsimp only;omega⟩
     ·have hpn:=phi_next h hq (bitB (askSet (⟨n,l,A⟩:Ga) q) m !=w)
      have:=rk_next h h2 rfl (if (bitB (askSet (⟨n,l,A⟩:Ga) q) m !=w)=true then sumX (⟨n,l,A⟩:Ga) - sumQ q else sumQ q) (by split<;>omega) hpn
      show ((A++[_]).length:Int)+rk (phi (addA (⟨n,l,A⟩:Ga) (askSet (⟨n,l,A⟩:Ga) q) (bitB (askSet (⟨n,l,A⟩:Ga) q) m !=w)))≤46
      omega
     ·rw [hlen,hw,← hW]
      exact W_ask (⟨n,l,A⟩:Ga) (askSet (⟨n,l,A⟩:Ga) q) m w
     ·intro a ha
      rcases List.mem_append.1 ha with ha|ha
      ·exact hg a ha
      ·rw [List.mem_singleton.1 ha];exact askSet_rg _ _ _
    by_cases c3:(A.length:Int)< (ws.length:Int)
    ·have a2:=(answer_val (N:=N) (s:=askSet (⟨n,l,A⟩:Ga) q) (m:=m) ⟨hm.1,by omega⟩ (rdL ws (A.length:Int) false)).2
     obtain ⟨w1,w2⟩:=with_both (N:=N) (G:=⟨n,l,A⟩) (show A.length≤60 by omega) (askSet (⟨n,l,A⟩:Ga) q) (bitB (askSet (⟨n,l,A⟩:Ga) q) m !=rdL ws (A.length:Int) false)
     simp only [QaR.b0,fs,Option.bind_some,if_neg (show ¬ ((4:Int)=0) by decide),if_neg (show ¬ ((4:Int)=8) by decide),if_neg (show ¬ (A.length:Int)=60 by omega),t1,t2,t3,if_pos c3,if_pos (show (0:Int)≤(A.length:Int)∧(A.length:Int)< (ws.length:Int) from ⟨by omega,c3⟩),a2,w2]
     have hA':A.length< ws.length:=by omega
     exact fin (rdL ws (A.length:Int) false) (by rw [lieN_in hA',rdL_nat hA'])
    ·have a2:=(answer_val (N:=N) (s:=askSet (⟨n,l,A⟩:Ga) q) (m:=m) ⟨hm.1,by omega⟩ false).2
     obtain ⟨w1,w2⟩:=with_both (N:=N) (G:=⟨n,l,A⟩) (show A.length≤60 by omega) (askSet (⟨n,l,A⟩:Ga) q) (bitB (askSet (⟨n,l,A⟩:Ga) q) m !=false)
     simp only [QaR.b0,fs,Option.bind_some,if_neg (show ¬ ((4:Int)=0) by decide),if_neg (show ¬ ((4:Int)=8) by decide),if_neg (show ¬ (A.length:Int)=60 by omega),t1,t2,t3,if_neg c3,a2,w2]
     exact fin false (by rw [lieN_out (show ws.length≤A.length by omega)];simp)) N (n,l,[]) ⟨[],rfl,by
   unfold okG
   have hB:B60 n:=⟨hn.1,by omega⟩
   simp [hB,hl],by
   have h:OkG (⟨n,l,[]⟩:Ga):=⟨⟨hn.1,by show n≤60;omega⟩,hl,by simp⟩
   have hp:=phi_range h
   have hcl:=cd_len (⟨n,l,[]⟩:Ga) (nG ⟨n,l,[]⟩)
   have hc:=cd_xs h
   have hnG:nG (⟨n,l,[]⟩:Ga)=n.toNat:=rfl
   have hrk:=rk_range hp.1 (by unfold sumX at hp;omega)
   show (0:Int)+rk _≤46
   omega,by rw [W_list];rfl,by simp⟩ (by simp;omega)
 refine ⟨A,?_,hd⟩
 simp only [QaR.f,e8n,e8l,h1,Option.bind_some,Ex.fin]
abbrev Src:=Qaz
theorem and_255 (x:Int):0≤bAnd .u64 x 255∧bAnd .u64 x 255≤255:=by
 have h:(BitVec.ofInt IntKind.u64.bits x&&&BitVec.ofInt IntKind.u64.bits 255).toNat≤255:=by
  show (BitVec.ofInt 64 x&&&BitVec.ofInt 64 255).toNat≤255
  rw [BitVec.toNat_and]
  have:(BitVec.ofInt 64 255).toNat=255:=by decide
  rw [this]
  exact Nat.and_le_right
 have e:bAnd .u64 x 255=((BitVec.ofInt IntKind.u64.bits x&&&BitVec.ofInt IntKind.u64.bits 255).toNat:Int):=u64w_id (by omega) (by omega)
 omega
def SrcOk (s:Src) (b:Int):Prop:=(∀ x∈s.Qa0,0≤x∧x≤255)∧0≤s.Qa3∧s.Qa3≤b∧b≤1000000∧s.Qa0.length≤1000000
theorem next_ok {N:Nat} {s:Src} {b:Int} (h:SrcOk s b):∃ x a d,Qa8.f N s=some (x,⟨s.Qa0,a,d⟩)∧0≤x∧x≤255∧a=s.Qa3+1:=by
 obtain ⟨hc,h0,h1,h2,h3⟩:=h
 have e1:i64w (s.Qa3+1)=s.Qa3+1:=i64w_id (by omega) (by omega)
 have main:∀ x,0≤x→x≤255→∃ y a d,Qa8.j0 N s x=some (y,⟨s.Qa0,a,d⟩)∧0≤y∧y≤255∧a=s.Qa3+1:=by
  intro x x0 x1
  unfold Qa8.j0
  rw [e1]
  by_cases c:s.Qa3+1≤(s.Qa0.length:Int)
  ·rw [if_pos c]
   exact ⟨_,_,_,rfl,x0,x1,rfl⟩
  ·rw [if_neg c]
   have q:=and_255 (shrI .u64 (u64w ((u64w ((u64w (s.QaT*6364136223846793005))+(u64w x)))+1442695040888963407)) 40)
   exact ⟨_,_,_,rfl,by rw [i64w_id (by omega) (by omega)];exact q.1,by rw [i64w_id (by omega) (by omega)];exact q.2,rfl⟩
 unfold Qa8.f
 by_cases c:s.Qa3< (s.Qa0.length:Int)
 ·rw [if_pos c,if_pos ⟨h0,c⟩]
  have hm:=hc (rdL s.Qa0 s.Qa3 0) (by
   obtain ⟨i,hi⟩:=Int.eq_ofNat_of_zero_le h0
   rw [hi] at c ⊢
   rw [rdL_nat (by omega)]
   exact List.getElem_mem _)
  exact main _ (by rw [i64w_id (by omega) (by omega)];exact hm.1) (by rw [i64w_id (by omega) (by omega)];exact hm.2)
 ·rw [if_neg c]
  exact main 0 (by decide) (by decide)
theorem pick_ok {N:Nat} {s:Src} {b n:Int} (h:SrcOk s b) (hn:2≤n∧n≤200):∃ x a d,QaJ.f N s n=some (x,⟨s.Qa0,a,d⟩)∧0≤x∧x< n∧a=s.Qa3+1:=by
 obtain ⟨x,a,d,e,x0,x1,ha⟩:=next_ok (N:=N) h
 have e':Qa8.f N (⟨s.Qa0,s.Qa3,s.QaT⟩:Src)=some (x,⟨s.Qa0,a,d⟩):=e
 refine ⟨x.tmod n,a,d,?_,Int.tmod_nonneg _ x0,Int.tmod_lt_of_pos _ (by omega),ha⟩
 simp only [QaJ.f,if_neg (show ¬ n≤1 by omega),e',Option.bind_some,if_neg (show ¬ n>200 by omega),if_pos (show ¬ n=0 by omega)]
theorem SrcOk.next {s:Src} {b:Int} (h:SrcOk s b) (hb:b< 1000000) {a d:Int} (ha:a=s.Qa3+1):SrcOk ⟨s.Qa0,a,d⟩ (b+1):=by
 obtain ⟨h1,h2,h3,h4,h5⟩:=h
 exact ⟨h1,by dsimp only;omega,by dsimp only;omega,by omega,h5⟩
theorem pick_any {N:Nat} {s:Src} {b n:Int} (h:SrcOk s b) (hb:b< 1000000) (hn:1≤n∧n≤200):∃ x a d,QaJ.f N s n=some (x,⟨s.Qa0,a,d⟩)∧0≤x∧x< n∧SrcOk ⟨s.Qa0,a,d⟩ (b+1):=by
 by_cases c:n=1
 ·subst c
  refine ⟨0,s.Qa3,s.QaT,?_,Int.le_refl _,by decide,?_⟩
  ·simp only [QaJ.f];rfl
  ·obtain ⟨h1,h2,h3,h4,h5⟩:=h
   exact ⟨h1,h2,by dsimp only;omega,by omega,h5⟩
 ·obtain ⟨x,a,d,e,h1,h2,h3⟩:=pick_ok (N:=N) h (n:=n) (by omega)
  exact ⟨x,a,d,e,h1,h2,h.next hb h3⟩
theorem SrcOk.mono {s:Src} {b b':Int} (h:SrcOk s b) (hb:b≤b') (hb':b'≤1000000):SrcOk s b':=⟨h.1,h.2.1,Int.le_trans h.2.2.1 hb,hb',h.2.2.2.2⟩
theorem pick_big {N:Nat} {s:Src} {b:Int} (h:SrcOk s b) (hb:b+1< 1000000):∃ x a d,QaJ.f N s 1048576=some (x,⟨s.Qa0,a,d⟩)∧SrcOk ⟨s.Qa0,a,d⟩ (b+2):=by
 obtain ⟨x,a,d,e,x0,x1,ha⟩:=next_ok (N:=N) h
 have e':Qa8.f N (⟨s.Qa0,s.Qa3,s.QaT⟩:Src)=some (x,⟨s.Qa0,a,d⟩):=e
 have h2:=h.next (by omega) (d:=d) ha
 obtain ⟨y,a',d',e2,y0,y1,ha'⟩:=next_ok (N:=N) h2
 have e2':Qa8.f N (⟨s.Qa0,a,d⟩:Src)=some (y,⟨s.Qa0,a',d'⟩):=e2
 have h3:SrcOk ⟨s.Qa0,a',d'⟩ (b+1+1):=h2.next (by omega) (d:=d') ha'
 refine ⟨(i64w ((i64w (x*256))+y)).tmod 1048576,a',d',?_,by rw [show b+2=b+1+1 by omega];exact h3⟩
 simp only [QaJ.f,if_neg (show ¬ (1048576:Int)≤1 by decide),e',Option.bind_some,if_pos (show (1048576:Int)>200 by decide),e2',if_pos (show ¬ (1048576:Int)=0 by decide)]
theorem one_any {N:Nat} {s:Src} {b n:Int} (h:SrcOk s b) (hb:b< 1000000) (hn:1≤n∧n≤200):∃ x a d,Qbt.f N s n=some (x,⟨s.Qa0,a,d⟩)∧SrcOk ⟨s.Qa0,a,d⟩ (b+1):=by
 obtain ⟨x,a,d,e,_,_,h'⟩:=pick_any (N:=N) h hb hn
 have e':QaJ.f N (⟨s.Qa0,s.Qa3,s.QaT⟩:Src) n=some (x,⟨s.Qa0,a,d⟩):=e
 refine ⟨x==0,a,d,?_,h'⟩
 simp only [Qbt.f,e',Option.bind_some]
def Bytes (code:List Int):Prop:=(∀ x∈code,0≤x∧x≤255)∧code.length≤4096
theorem srcOk_zero {code:List Int} (h:Bytes code):SrcOk (⟨code,0,0⟩:Src) 0:=⟨h.1,Int.le_refl _,Int.le_refl _,by decide,by have:=h.2;show code.length≤1000000;omega⟩
theorem p6pick {N:Nat} {code:List Int} (h:Bytes code) {n:Int} (hn:1≤n∧n≤200):∃ x,QbW.f N code n=some x∧0≤x∧x< n:=by
 obtain ⟨x,a,d,e,x0,x1,_⟩:=pick_any (N:=N) (srcOk_zero h) (by decide) hn
 have e':QaJ.f N (⟨code,0,0⟩:Src) n=some (x,⟨code,a,d⟩):=e
 refine ⟨x,?_,x0,x1⟩
 simp only [QbW.f,QbF.f,Option.bind_some,e']
theorem set_true (ws:List Bool):∀ i:Nat,((ws.set i true).filter id).length≤(ws.filter id).length+1:=by
 induction ws with
 |nil=>intro i;simp
 |cons b ws ih=>
  intro i
  cases i with
  |zero=>cases b<;>simp
  |succ i=>
   have:=ih i
   cases b<;>simp at this ⊢<;>omega
theorem wrong_ok {N:Nat} (hN:100< N) {code:List Int} (h:Bytes code) {l:Int} (hl:0≤l∧l≤3):∃ ws,Qbi.f N code l=some ws∧((ws.filter id).length:Int)≤l∧ws.length=14:=by
 obtain ⟨e,he,ws,rfl,h1,h2⟩:=rounds_ends (b:=fun s=>Qbi.b0 N l code s.1 s.2.1 s.2.2.1 s.2.2.2)
  (fun s=>SrcOk (⟨code,s.1,s.2.1⟩:Src) s.2.2.2∧s.2.2.1.length=14∧((s.2.2.1.filter id).length:Int)≤s.2.2.2∧0≤s.2.2.2∧s.2.2.2≤l) (fun s=>(l - s.2.2.2).toNat)
  (fun e=>∃ ws,e= .go ws∧((ws.filter id).length:Int)≤l∧ws.length=14) (by
  rintro ⟨a,d,ws,i⟩ ⟨hs,hw,ht,i0,i1⟩
  simp only at hs hw ht i0 i1
  by_cases c:i< l
  ·right
   obtain ⟨x,a',d',e,x0,x1,hs'⟩:=pick_any (N:=N) hs (by omega) (n:=14) (by decide)
   have e':QaJ.f N (⟨code,a,d⟩:Src) 14=some (x,⟨code,a',d'⟩):=e
   have hi:i64w (i+1)=i+1:=i64w_id (by omega) (by omega)
   have hst:((stL ws x true).filter id).length≤(ws.filter id).length+1:=set_true ws _
   refine ⟨(a',d',stL ws x true,i+1),?_,⟨hs',?_,?_,?_,?_⟩,?_⟩
   ·simp only [Qbi.b0,if_pos c,e',Option.bind_some,if_pos (show (0:Int)≤x∧x< (ws.length:Int) by omega),hi]
   ·simp only [stL,List.length_set];exact hw
   ·dsimp only;omega
   ·dsimp only;omega
   ·dsimp only;omega
   ·dsimp only;omega
  ·left
   refine ⟨.go ws,?_,ws,rfl,by omega,hw⟩
   simp only [Qbi.b0,if_neg c]) N (0,0,List.replicate 14 false,0) ⟨srcOk_zero h,by simp,by decide,Int.le_refl _,hl.1⟩ (by dsimp only;omega)
 refine ⟨ws,?_,h1,h2⟩
 have he':rounds (fun s=>Qbi.b0 N l code s.1 s.2.1 s.2.2.1 s.2.2.2) N (0,0,List.replicate ((14:Int)).toNat false,0)=_:=he
 simp only [Qbi.f,QbF.f,Option.bind_some]
 rw [if_pos (by decide),he']
 rfl
theorem bad_masked (n x:Int) (b:Bool):bad n ⟨bAnd .u64 x (allN n),b⟩=false:=by
 unfold bad
 have e1:bAnd .u64 x (allN n)=((B64 x&&&B64 (allN n)).toNat:Int):=wrap64 _
 have e2:bAndNot .u64 (bAnd .u64 x (allN n)) (allN n)=((B64 (bAnd .u64 x (allN n))&&& ~~~B64 (allN n)).toNat:Int):=wrap64 _
 have e3:B64 (bAnd .u64 x (allN n))=B64 x&&&B64 (allN n):=by rw [e1,B64_nat]
 have e4:(B64 x&&&B64 (allN n))&&& ~~~B64 (allN n)=0:=by
  ext i hi
  simp
 show (!(bAndNot .u64 (bAnd .u64 x (allN n)) (allN n)==0))=false
 rw [e2,e3,e4]
 rfl
theorem drawn_ok {N:Nat} (hN:200< N) {code:List Int} (h:Bytes code):∃ G:Ga,Qb8.f N code=some G∧okG G=true∧G.Qah.length≤8∧1≤G.Qac∧G.Qac≤20:=by
 have hc:=h.2
 obtain ⟨x1,a1,d1,e1,p1,q1,s1⟩:=pick_any (N:=N) (srcOk_zero h) (by decide) (n:=20) (by decide)
 obtain ⟨x2,a2,d2,e2,p2,q2,s2⟩:=pick_any (N:=N) s1 (by decide) (n:=4) (by decide)
 have hn64:i64w (1+x1)=1+x1:=i64w_id (by omega) (by omega)
 have hn8:i8w (1+x1)=1+x1:=i8w_id (by omega) (by omega)
 have hl8:i8w x2=x2:=i8w_id (by omega) (by omega)
 obtain ⟨x3,a3,d3,e3,p3,q3,s3⟩:=pick_any (N:=N) s2 (by decide) (n:=1+x1) (by omega)
 obtain ⟨x4,a4,d4,e4,p4,q4,s4⟩:=pick_any (N:=N) s3 (by decide) (n:=8) (by decide)
 have e1':QaJ.f N (⟨code,0,0⟩:Src) 20=some (x1,⟨code,a1,d1⟩):=e1
 have e2':QaJ.f N (⟨code,a1,d1⟩:Src) 4=some (x2,⟨code,a2,d2⟩):=e2
 have e3':QaJ.f N (⟨code,a2,d2⟩:Src) (1+x1)=some (x3,⟨code,a3,d3⟩):=e3
 have e4':QaJ.f N (⟨code,a3,d3⟩:Src) 8=some (x4,⟨code,a4,d4⟩):=e4
 obtain ⟨e,he,A,a,d,rfl,hk,hl⟩:=rounds_ends (b:=fun s=>Qa4.b0 N (⟨code,0,0⟩:Src) (x3,⟨code,a3,d3⟩) s.1 s.2.1 s.2.2.1 s.2.2.2.1 s.2.2.2.2.1 s.2.2.2.2.2)
  (fun s=>∃ (A:List As_) (a d k:Int),s=(a,d,1+x1,x2,A,k)∧SrcOk (⟨code,a,d⟩:Src) (100 - 5*k)∧okG ⟨1+x1,x2,A⟩=true∧(A.length:Int)+k≤8∧0≤k∧k≤8) (fun s=>s.2.2.2.2.2.toNat)
  (fun e=>∃ (A:List As_) (a d:Int),e= .go (1+x1,x2,A,a,d)∧okG ⟨1+x1,x2,A⟩=true∧A.length≤8) (by
  rintro s ⟨A,a,d,k,rfl,hs,hk,hlen,k0,k8⟩
  by_cases c:k>0
  ·right
   have hG:InG (⟨1+x1,x2,A⟩:Ga):=⟨⟨by show -128≤1+x1;omega,by show 1+x1≤127;omega⟩,⟨by show -128≤x2;omega,by show x2≤127;omega⟩⟩
   obtain ⟨q,t1,t2,t3,t4,hb,hq,hsum⟩:=next_more (N:=N) hG (by omega) hk
   have hki:i64w (k - 1)=k - 1:=i64w_id (by omega) (by omega)
   have j2:∀ (a' d' x b':Int),SrcOk (⟨code,a',d'⟩:Src) b'→b'+1≤100 - 5*(k - 1)→(∀ b,bad (1+x1) ⟨x,b⟩=false)→
    ∃ s',Qa4.j2 N (⟨code,0,0⟩:Src) (x3,⟨code,a3,d3⟩) (1+x1) x2 A k a' d' x=some (.next s')∧(∃ (A:List As_) (a d k:Int),s'=(a,d,1+x1,x2,A,k)∧SrcOk (⟨code,a,d⟩:Src) (100 - 5*k)∧okG ⟨1+x1,x2,A⟩=true∧(A.length:Int)+k≤8∧0≤k∧k≤8)∧s'.2.2.2.2.2.toNat< k.toNat:=by
    intro a' d' x b' hs' hb' hx
    obtain ⟨y,a'',d'',e5,hs''⟩:=one_any (N:=N) hs' (by omega) (n:=5) (by decide)
    have e5':Qbt.f N (⟨code,a',d'⟩:Src) 5=some (y,⟨code,a'',d''⟩):=e5
    have a6:=(answer_val (N:=N) (s:=x) (m:=x3) ⟨p3,by omega⟩ y).2
    have w6:=(with_both (N:=N) (G:=⟨1+x1,x2,A⟩) (show A.length≤60 by omega) x (bitB x x3 !=y)).2
    refine ⟨(a'',d'',1+x1,x2,A++[(⟨x,bitB x x3 !=y⟩:As_)],k - 1),?_,⟨A++[(⟨x,bitB x x3 !=y⟩:As_)],a'',d'',k - 1,rfl,?_,ok_add (G:=(⟨1+x1,x2,A⟩:Ga)) (s:=x) (b:=bitB x x3 !=y) hk (show A.length< 60 by omega) (hx _),?_,by omega,by omega⟩,by dsimp only;omega⟩
    ·simp only [Qa4.j2,e5',Option.bind_some,a6,w6,hki]
    ·exact hs''.mono (by omega) (by omega)
    ·rw [List.length_append,List.length_singleton];omega
   obtain ⟨y,a',d',e5,hs'⟩:=one_any (N:=N) hs (by omega) (n:=3) (by decide)
   have e5':Qbt.f N (⟨code,a,d⟩:Src) 3=some (y,⟨code,a',d'⟩):=e5
   simp only [Qa4.b0,if_pos c,t1,t2,t3,Option.bind_some,e5']
   by_cases cy:y=true
   ·obtain ⟨z,a'',d'',e6,hs''⟩:=pick_big (N:=N) hs' (by omega)
    have e6':QaJ.f N (⟨code,a',d'⟩:Src) 1048576=some (z,⟨code,a'',d''⟩):=e6
    have ef:QbT.f N (i64w (1+x1))=some (allN (1+x1)):=by rw [hn64];exact full_spec N ⟨by omega,by omega⟩
    simp only [if_pos cy,e6',Option.bind_some,ef]
    exact j2 a'' d'' _ _ hs'' (by omega) (fun b=>bad_masked _ _ b)
   ·simp only [if_neg cy]
    exact j2 a' d' _ _ hs' (by omega) hb
  ·left
   refine ⟨.go (1+x1,x2,A,a,d),?_,A,a,d,rfl,hk,by omega⟩
   simp only [Qa4.b0,if_neg c]) N (a4,d4,1+x1,x2,[],x4) ⟨[],a4,d4,x4,rfl,s4.mono (by omega) (by omega),by
    unfold okG
    have hB:B60 (1+x1):=⟨by omega,by omega⟩
    have hx2:0≤x2∧x2≤3:=⟨p2,by omega⟩
    simp [hB,hx2],by simp;omega,p4,by omega⟩ (by dsimp only;omega)
 have he':rounds (fun s=>Qa4.b0 N (⟨code,0,0⟩:Src) (x3,⟨code,a3,d3⟩) s.1 s.2.1 s.2.2.1 s.2.2.2.1 s.2.2.2.2.1 s.2.2.2.2.2) N (a4,d4,1+x1,x2,[],x4)=some (.go (1+x1,x2,A,a,d)):=he
 refine ⟨⟨1+x1,x2,A⟩,?_,hk,hl,by show 1≤1+x1;omega,by show 1+x1≤20;omega⟩
 simp only [Qb8.f,QbF.f,Qa4.f,Option.bind_some,e1',e2',hn64,hn8,hl8,e3',e4',he',Ex.fin,Qa4.a0]
theorem has_eq {N:Nat} {l:List Int} (h:l.length≤1000) (hN:1000< N) (m:Int):QbO.f N l m=some (decide (m∈l)):=by
 obtain ⟨e,he,hr⟩:=rounds_any (b:=fun s=>Qbr.b0 N l m s) l (fun x=>decide (x=m)) (fun _=>true) (N:=N) (by omega) (by
  intro i hi
  simp only [Qbr.b0,if_pos (show (i:Int)< (l.length:Int) by omega),if_pos (show (0:Int)≤(i:Int)∧(i:Int)< (l.length:Int) by omega),rdL_nat hi,i64w_succ hi (show l.length≤9223372036854775807 by omega),decide_eq_true_eq]) (by
  simp only [Qbr.b0]
  rw [if_neg (by omega)])
 have ha:l.any (fun x=>decide (x=m))=decide (m∈l):=by
  rw [Bool.eq_iff_iff,List.any_eq_true,decide_eq_true_eq]
  constructor
  ·rintro ⟨x,hx,hxm⟩
   rw [decide_eq_true_eq] at hxm
   rw [← hxm];exact hx
  ·intro hm
   exact ⟨m,hm,by simp⟩
 rw [ha] at hr
 unfold QbO.f Qbr.f
 rw [he]
 by_cases c:m∈l
 ·rw [if_pos (decide_eq_true c)] at hr
  obtain ⟨i,rfl⟩:=hr
  rw [decide_eq_true c];rfl
 ·rw [decide_eq_false c,if_neg Bool.false_ne_true] at hr
  subst hr
  rw [decide_eq_false c];rfl
theorem sameNumbers_eq {N:Nat} {l:List Int} (h:l.length≤1000) (hN:1000< N):QbS.f N l l=some true:=by
 unfold QbS.f Qbl.f
 rw [if_pos rfl,rounds_same l l rfl (show l.length< N by omega) ?_ ?_]
 ·simp [Ex.fin,Qbl.a0]
 ·intro i hi
  simp only [Qbl.b0,if_pos (show (i:Int)< (l.length:Int) by omega),if_pos (show (0:Int)≤(i:Int)∧(i:Int)< (l.length:Int) by omega),if_true,i64w_succ hi (show l.length≤9223372036854775807 by omega)]
 ·simp only [Qbl.b0]
  rw [if_neg (by omega)]
theorem sameGame_spec {N:Nat} {G:Ga} (h:G.Qah.length≤1000) (hN:1000< N):Qbb.f N G G=some true:=by
 unfold Qbb.f
 rw [if_pos rfl,if_pos rfl,if_pos rfl,rounds_same G.Qah G.Qah rfl (show G.Qah.length< N by omega) ?_ ?_]
 ·simp [Ex.fin,Qbb.a0]
 ·intro i hi
  simp only [Qbb.b0,if_pos (show (i:Int)< (G.Qah.length:Int) by omega),if_pos (show (0:Int)≤(i:Int)∧(i:Int)< (G.Qah.length:Int) by omega),if_true,i64w_succ hi (show G.Qah.length≤9223372036854775807 by omega)]
 ·simp only [Qbb.b0]
  rw [if_neg (by omega)]
theorem sameGame_impl {N:Nat} {G:Ga} (h:G.Qah.length≤1000) (hN:1000< N):Qb5.f N G G=some true:=by
 unfold Qb5.f QaI.f
 rw [if_pos rfl,if_pos rfl,if_pos rfl,rounds_same G.Qah G.Qah rfl (show G.Qah.length< N by omega) ?_ ?_]
 ·simp [Ex.fin,QaI.a0]
 ·intro i hi
  simp only [QaI.b0,if_pos (show (i:Int)< (G.Qah.length:Int) by omega),if_pos (show (0:Int)≤(i:Int)∧(i:Int)< (G.Qah.length:Int) by omega),if_true,i64w_succ hi (show G.Qah.length≤9223372036854775807 by omega)]
 ·simp only [QaI.b0]
  rw [if_neg (by omega)]
theorem inG_of {G:Ga} (h:OkG G):InG G:=by
 have h1:=h.n60
 have h2:=h.l3
 unfold B60 at h1
 exact ⟨by omega,by omega⟩
theorem found_ok {N:Nat} (hN:200< N) {n l m:Int} {A:List As_} (h:Done n l m A):Qb9.f N (⟨n,l,A⟩:Ga)=some (m,0):=by
 have hk:=okG_iff h.ok
 have hc:=cand_impl (N:=N) hk (by omega)
 rw [h.cds] at hc
 have e:=okG_impl (N:=N) (inG_of hk) (by omega)
 rw [h.ok] at e
 unfold Qb9.f
 rw [e,Option.bind_some,if_pos rfl,hc,Option.bind_some]
 rfl
theorem worst_ok {N:Nat} (hN:200< N) {n l:Int} (hn:1≤n∧n≤20) (hl:0≤l∧l≤3):∃ x y:Int,QaM.f N n l=some (x,y,0)∧QaW.f N n l=some (x,y,0)∧0≤x∧x< n:=by
 obtain ⟨r,h1,h2⟩:=Worst_same (N:=N) hN (n:=n) (l:=l)
 obtain ⟨e,he,x,y,rfl,hx⟩:=rounds_ends (b:=fun s=>QaM.b0 N n l s.1 s.2.1 s.2.2) (fun s=>(0≤s.1∧s.1< n)∧0≤s.2.2∧s.2.2≤n) (fun s=>(n - s.2.2).toNat)
  (fun e=>∃ x y:Int,e= .go (x,y)∧0≤x∧x< n) (by
  rintro ⟨x,y,i⟩ ⟨hx,i0,i1⟩
  simp only at hx i0 i1
  by_cases c:i< n
  ·right
   obtain ⟨A,e1,hd⟩:=play_ok (N:=N) hN (m:=i) hn hl ⟨i0,c⟩ (ws:=[]) hl.1
   have hi:i64w (i+1)=i+1:=i64w_id (by omega) (by omega)
   by_cases d:(A.length:Int)>y
   ·refine ⟨(i,(A.length:Int),i+1),?_,⟨⟨i0,c⟩,by dsimp only;omega,by dsimp only;omega⟩,by dsimp only;omega⟩
    simp only [QaM.b0,if_pos c,e1,Option.bind_some,if_true,if_pos d,QaM.j2,hi]
   ·refine ⟨(x,y,i+1),?_,⟨hx,by dsimp only;omega,by dsimp only;omega⟩,by dsimp only;omega⟩
    simp only [QaM.b0,if_pos c,e1,Option.bind_some,if_true,if_neg d,QaM.j2,hi]
  ·left
   refine ⟨.go (x,y),?_,x,y,rfl,hx⟩
   simp only [QaM.b0,if_neg c]) N (0,(-1),0) ⟨⟨Int.le_refl _,by dsimp only;omega⟩,Int.le_refl _,by dsimp only;omega⟩ (by dsimp only;omega)
 have hok:okP n l=true:=by
  unfold okP
  simp only [Bool.and_eq_true,decide_eq_true_eq]
  omega
 have e3:QaM.f N n l=some (x,y,0):=by
  unfold QaM.f
  rw [game_spec,Option.bind_some,if_pos hok,he,Option.bind_some]
  rfl
 refine ⟨x,y,e3,?_,hx⟩
 rw [h2,← h1,e3]
theorem cands_ok {N:Nat} (hN:70< N) {G:Ga} (hk:okG G=true):QbI.f N G=some (cd G (nG G),0)∧QbJ.f N G=some (cd G (nG G),0):=by
 have h:=okG_iff hk
 constructor
 ·simp only [QbI.f,G_eta,okG_impl (inG_of h) hN,Option.bind_some,if_pos hk,cand_impl h hN]
 ·simp only [QbJ.f,G_eta,okG_spec (inG_of h) hN,Option.bind_some,if_pos hk,cand_spec h hN]
theorem state_ok {N:Nat} (hN:70< N) {G:Ga} (hk:okG G=true):QbZ.f N G=some (arS G (nG G),0)∧Qcb.f N G=some (arS G (nG G),0):=by
 have h:=okG_iff hk
 constructor
 ·simp only [QbZ.f,G_eta,okG_impl (inG_of h) hN,Option.bind_some,if_pos hk,state_impl h hN]
 ·simp only [Qcb.f,G_eta,okG_spec (inG_of h) hN,Option.bind_some,if_pos hk,state_spec h hN]
theorem sumX_le {G:Ga} (h:OkG G):sumX G≤G.Qac:=by
 have h1:=cd_xs h
 have h2:=cd_len G (nG G)
 have h3:=h.n60
 unfold B60 at h3
 unfold nG at h2
 unfold sumX
 have e:((cd G (nG G)).length:Int)=((cd G G.Qac.toNat).length:Int):=rfl
 omega
theorem valid_ok {N:Nat} (hN:70< N) {G:Ga} (h:OkG G):QaV.f N G.Qae (arS G (nG G))=some true:=by
 have l3:=h.l3
 have n60:=h.n60
 unfold B60 at n60
 have hs:=sumX_le h
 have x0:=xs_nonneg G 0
 have x1:=xs_nonneg G 1
 have x2:=xs_nonneg G 2
 have x3:=xs_nonneg G 3
 unfold sumX at hs
 have hle:∀ j:Nat,j< 4→0≤xs G (j:Int)∧xs G (j:Int)≤60:=by
  intro j hj
  obtain rfl|rfl|rfl|rfl:j=0∨j=1∨j=2∨j=3:=by omega
  ·show 0≤xs G 0∧xs G 0≤60;omega
  ·show 0≤xs G 1∧xs G 1≤60;omega
  ·show 0≤xs G 2∧xs G 2≤60;omega
  ·show 0≤xs G 3∧xs G 3≤60;omega
 have q:=rounds_for (b:=fun s=>QaV.b0 N (arS G (nG G)) G.Qae s) (e:= .go ()) (fun i:Nat=>(i:Int)) 4 0 N (Nat.zero_le _) (by omega) (by
  intro i _ hi
  have hn:i64w ((i:Int)+1)=((i+1:Nat):Int):=by rw [i64w_id (by omega) (by omega)];omega
  have hx:=hle i hi
  have hin:=l00In_eq N (xs G (i:Int)) 0 60
  rw [decide_eq_true hx] at hin
  show QaV.b0 N (arS G (nG G)) G.Qae (i:Int)=_
  unfold QaV.b0 QaV.j2
  rw [if_pos (show (i:Int)< 4 by omega),if_pos (show (0:Int)≤(i:Int)∧(i:Int)< 4 by omega),arS_get G i hi,hin,Option.bind_some,if_pos rfl]
  by_cases c:(i:Int)>G.Qae
  ·rw [if_pos c,if_pos (show (0:Int)≤(i:Int)∧(i:Int)< 4 by omega),if_pos (xs_out c),hn]
  ·rw [if_neg c,hn]) (by
  show QaV.b0 N (arS G (nG G)) G.Qae ((4:Nat):Int)=_
  unfold QaV.b0
  rw [if_neg (by decide)])
 have q':rounds (fun s=>QaV.b0 N (arS G (nG G)) G.Qae s) N 0=some (.go ()):=q
 have a0:(arS G (nG G)).get 0 0=xs G 0:=arS_get G 0 (by decide)
 have a1:(arS G (nG G)).get 1 0=xs G 1:=arS_get G 1 (by decide)
 have a2:(arS G (nG G)).get 2 0=xs G 2:=arS_get G 2 (by decide)
 have a3:(arS G (nG G)).get 3 0=xs G 3:=arS_get G 3 (by decide)
 unfold QaV.f
 rw [l00In_eq,decide_eq_true l3,Option.bind_some,if_pos rfl,q',Option.bind_some]
 show QaV.a0 N (arS G (nG G))=_
 unfold QaV.a0 Qcc.f
 rw [if_pos (by decide),if_pos (by decide),if_pos (by decide),if_pos (by decide),a0,a1,a2,a3,Option.bind_some,i64w_id (x:=xs G 0+xs G 1) (by omega) (by omega),i64w_id (x:=xs G 0+xs G 1+xs G 2) (by omega) (by omega),i64w_id (by omega) (by omega),decide_eq_true (by omega)]
theorem withinB_of {q x:Ar Int 4} (h:∀ j:Nat,j< 4→0≤q.get j 0∧q.get j 0≤x.get j 0):withinB q x=true:=by
 unfold withinB
 rw [Bool.not_eq_true',List.any_eq_false]
 intro j hj
 have hr:=idx_mem hj
 have:=h j.toNat (by omega)
 rw [Int.toNat_of_nonneg hr.1] at this
 simp [this.1,this.2]
theorem ar_ext4 {a b:Ar Int 4} (h:∀ j:Nat,j< 4→a.get j 0=b.get j 0):a=b:=by
 have h0:a.get 0 0=b.get 0 0:=h 0 (by decide)
 have h1:a.get 1 0=b.get 1 0:=h 1 (by decide)
 have h2:a.get 2 0=b.get 2 0:=h 2 (by decide)
 have h3:a.get 3 0=b.get 3 0:=h 3 (by decide)
 rw [Ar4 a,Ar4 b]
 apply Ar.ext'
 show [_,_,_,_]=[_,_,_,_]
 rw [h0,h1,h2,h3]
def yR (G:Ga) (q:Ar Int 4) (i j:Nat):Int:=(if j< i then q.get j 0 else 0)+(if 1≤j∧j≤i∧(j:Int)≤G.Qae then xs G ((j - 1:Nat):Int) - q.get ((j - 1:Nat):Int) 0 else 0)
theorem yR_step (G:Ga) (q:Ar Int 4) (i j:Nat):yR G q (i+1) j=yR G q i j+(if j=i then q.get (i:Int) 0 else 0)+(if j=i+1∧((i+1:Nat):Int)≤G.Qae then xs G (i:Int) - q.get (i:Int) 0 else 0):=by
 unfold yR
 by_cases c1:j=i+1
 ·subst c1
  rw [Nat.add_sub_cancel]
  repeat' split
  all_goals omega
 ·by_cases c2:j=i
  ·subst c2
   repeat' split
   all_goals omega
  ·repeat' split
   all_goals omega
theorem split_ok {N:Nat} (hN:70< N) {G:Ga} (h:OkG G) {q:Ar Int 4} (hq:∀ j:Nat,j< 4→0≤q.get j 0∧q.get j 0≤xs G j):
 ∃ no:Ar Int 4,Qa9.f N G.Qae (arS G (nG G)) q=some (arS (addA G (askSet G q) true) (nG (addA G (askSet G q) true)),no):=by
 have l3:=h.l3
 have n60:=h.n60
 unfold B60 at n60
 have hs:=sumX_le h
 unfold sumX at hs
 have hle:∀ j:Nat,j< 4→0≤xs G (j:Int)∧xs G (j:Int)≤60:=by
  have x0:=xs_nonneg G 0
  have x1:=xs_nonneg G 1
  have x2:=xs_nonneg G 2
  have x3:=xs_nonneg G 3
  intro j hj
  obtain rfl|rfl|rfl|rfl:j=0∨j=1∨j=2∨j=3:=by omega
  ·show 0≤xs G 0∧xs G 0≤60;omega
  ·show 0≤xs G 1∧xs G 1≤60;omega
  ·show 0≤xs G 2∧xs G 2≤60;omega
  ·show 0≤xs G 3∧xs G 3≤60;omega
 have hyr:∀ i j:Nat,j< 4→0≤yR G q i j∧yR G q i j≤120:=by
  intro i j hj
  have a1:=hq j hj
  have a2:=hle j hj
  have a3:=hq (j - 1) (by omega)
  have a4:=hle (j - 1) (by omega)
  unfold yR
  split<;>split<;>omega
 obtain ⟨e,he,yes,no,rfl,hy⟩:=rounds_ends (b:=fun s=>Qa9.b0 N G.Qae q (arS G (nG G)) s.1 s.2.1 s.2.2)
  (fun s=>∃ i:Nat,s.2.2=(i:Int)∧(i:Int)≤G.Qae+1∧∀ j:Nat,j< 4→s.1.get j 0=yR G q i j) (fun s=>(4 - s.2.2).toNat)
  (fun e=>∃ yes no:Ar Int 4,e= .go (yes,no)∧∀ j:Nat,j< 4→yes.get j 0=yR G q (G.Qae.toNat+1) j) (by
  rintro ⟨y,n,i'⟩ ⟨i,rfl,hi,hy⟩
  simp only at hy
  by_cases c:(i:Int)≤G.Qae
  ·right
   have g:(0:Int)≤(i:Int)∧(i:Int)< 4:=by omega
   have hi4:i< 4:=by omega
   have hn:i64w ((i:Int)+1)=((i+1:Nat):Int):=by rw [i64w_id (by omega) (by omega)];omega
   have hqi:=hq i hi4
   have hxi:=hle i hi4
   have hyi:=hyr i i hi4
   have e1:i64w (y.get (i:Int) 0+q.get (i:Int) 0)=yR G q i i+q.get (i:Int) 0:=by rw [hy i hi4,i64w_id (by omega) (by omega)]
   have e2:i64w (xs G (i:Int) - q.get (i:Int) 0)=xs G (i:Int) - q.get (i:Int) 0:=i64w_id (by omega) (by omega)
   unfold Qa9.b0 Qa9.j2
   by_cases c2:(i:Int)< G.Qae
   ·have hi3:i+1< 4:=by omega
    have g':(0:Int)≤((i+1:Nat):Int)∧((i+1:Nat):Int)< 4:=by omega
    have hyi':=hyr i (i+1) hi3
    have e3:∀ v:Int,(y.set (i:Int) v).get ((i+1:Nat):Int) 0=yR G q i (i+1):=by
     intro v
     rw [Ar_set_get y i (i+1) v hi3,if_neg (by omega),hy (i+1) hi3]
    have e4:i64w (yR G q i (i+1)+(xs G (i:Int) - q.get (i:Int) 0))=yR G q i (i+1)+(xs G (i:Int) - q.get (i:Int) 0):=i64w_id (by omega) (by omega)
    dsimp only
    rw [if_pos c]
    simp only [if_pos g,hn,if_pos c2,if_pos g',arS_get G i hi4,e1,e2,e3,e4]
    refine ⟨_,rfl,⟨i+1,rfl,by omega,?_⟩,by dsimp only;omega⟩
    intro j hj
    dsimp only
    rw [Ar_set_get _ (i+1) j _ hj,yR_step]
    by_cases d1:i+1=j
    ·subst d1
     rw [if_pos rfl,if_neg (by omega),if_pos ⟨rfl,by omega⟩]
     omega
    ·rw [if_neg d1,if_neg (show ¬ (j=i+1∧((i+1:Nat):Int)≤G.Qae) from fun w=>d1 w.1.symm),Ar_set_get y i j _ hj]
     by_cases d2:i=j
     ·subst d2
      rw [if_pos rfl,if_pos rfl]
      omega
     ·rw [if_neg d2,if_neg (fun w=>d2 w.symm),hy j hj]
      omega
   ·have hil:(i:Int)=G.Qae:=by omega
    dsimp only
    rw [if_pos c]
    simp only [if_pos g,hn,if_neg c2,arS_get G i hi4,e1,e2]
    refine ⟨_,rfl,⟨i+1,rfl,by omega,?_⟩,by dsimp only;omega⟩
    intro j hj
    dsimp only
    rw [Ar_set_get y i j _ hj,yR_step,if_neg (show ¬ (j=i+1∧((i+1:Nat):Int)≤G.Qae) from fun w=>by omega)]
    by_cases d2:i=j
    ·subst d2
     rw [if_pos rfl,if_pos rfl]
     omega
    ·rw [if_neg d2,if_neg (fun w=>d2 w.symm),hy j hj]
     omega
  ·left
   have hil:i=G.Qae.toNat+1:=by omega
   refine ⟨.go (y,n),?_,y,n,rfl,fun j hj=>by rw [hy j hj,hil]⟩
   unfold Qa9.b0
   dsimp only
   rw [if_neg c]) N (Ar.rep 4 0,Ar.rep 4 0,0) ⟨0,rfl,by show ((0:Nat):Int)≤_;omega,fun j hj=>by
    have:(Ar.rep 4 (0:Int)).get (j:Int) 0=0:=by
     obtain rfl|rfl|rfl|rfl:j=0∨j=1∨j=2∨j=3:=by omega
     all_goals rfl
    dsimp only
    rw [this]
    unfold yR
    rw [if_neg (by omega),if_neg (by omega)];rfl⟩ (by dsimp only;omega)
 refine ⟨no,?_⟩
 have hyes:yes=arS (addA G (askSet G q) true) (nG (addA G (askSet G q) true)):=by
  apply ar_ext4
  intro j hj
  rw [hy j hj,arS_get _ j hj]
  by_cases c:(j:Int)≤G.Qae
  ·rw [xs_next h hq true hj c]
   unfold yR nx
   rw [if_pos (by omega),if_pos rfl]
   by_cases d:j=0
   ·subst d
    rw [if_neg (by omega),if_pos (show ((0:Nat):Int)=0 from rfl)]
   ·rw [if_pos ⟨by omega,by omega,c⟩,if_neg (by omega),show ((j - 1:Nat):Int)=(j:Int) - 1 by omega]
  ·rw [xs_out (G:=addA G (askSet G q) true) (show (j:Int)>G.Qae by omega)]
   unfold yR
   rw [if_neg (by omega),if_neg (by omega)];rfl
 unfold Qa9.f
 rw [he,Option.bind_some,hyes]
 rfl
theorem mem_wr {G:Ga} {m:Int} {i:Nat} (hi:i< G.Qah.length):decide ((i:Int)∈wr G m G.Qah.length)=(bitB G.Qah[i].Qbh m !=G.Qah[i].QbH):=by
 unfold wr
 rw [Bool.eq_iff_iff,decide_eq_true_eq,List.mem_filter,mem_idx,rdL_nat hi,wrongB_eq]
 constructor
 ·exact fun h=>h.2
 ·exact fun h=>⟨⟨by omega,by omega⟩,h⟩
theorem inner_ok {N:Nat} (hN:1000< N) {G:Ga} (hl:G.Qah.length≤60) {m:Int} (hm:0≤m∧m≤63):rounds (fun s=>Qal.b17 N G m (wr G m G.Qah.length,0) s) N 0=some (.go ()):=by
 have hwl:=wr_len G m G.Qah.length
 have q:=rounds_for (b:=fun s=>Qal.b17 N G m (wr G m G.Qah.length,0) s) (e:= .go ()) (fun i:Nat=>(i:Int)) G.Qah.length 0 N (Nat.zero_le _) (by omega) (by
  intro i _ hi
  have g:(0:Int)≤(i:Int)∧(i:Int)< (G.Qah.length:Int):=by omega
  show Qal.b17 N G m (wr G m G.Qah.length,0) (i:Int)=_
  unfold Qal.b17
  rw [if_pos g.2,if_pos g,rdL_nat hi,(answer_val hm false).1,Option.bind_some,if_pos g,has_eq (show (wr G m G.Qah.length,(0:Int)).1.length≤1000 by show (wr G m G.Qah.length).length≤1000;omega) hN,Option.bind_some,i64w_succ hi (by omega)]
  have:=mem_wr (m:=m) hi
  rw [if_neg]
  show ¬ decide ((i:Int)∈wr G m G.Qah.length)=_
  rw [this]
  cases bitB G.Qah[i].Qbh m<;>cases G.Qah[i].QbH<;>decide) (by
  show Qal.b17 N G m (wr G m G.Qah.length,0) (G.Qah.length:Int)=_
  unfold Qal.b17
  rw [if_neg (by omega)])
 exact q
theorem first_val {N:Nat} (hN:70< N) {G:Ga} (hk:okG G=true) {m:Int} (hm:0≤m∧m< G.Qac):QbL.f N G m=some (wr G m G.Qah.length,0):=by
 have h:=okG_iff hk
 have n60:=h.n60
 unfold B60 at n60
 have e:=okG_impl (N:=N) (inG_of h) hN
 rw [hk] at e
 unfold QbL.f
 rw [G_eta,e,Option.bind_some,if_pos rfl,i64w_id (x:=G.Qac) (by omega) (by omega),i64w_id (by omega) (by omega),within_eq,decide_eq_true (show 0≤m∧m≤G.Qac - 1 by omega),Option.bind_some,if_pos rfl,wrong_impl h.len hN (by omega),Option.bind_some]
theorem lies_val {N:Nat} (hN:70< N) {G:Ga} (hk:okG G=true) {m:Int} (hm:0≤m∧m< G.Qac):Qca.f N G m=some (W G m,0):=by
 unfold Qca.f
 rw [G_eta,first_val hN hk hm,Option.bind_some]
 rfl
def cA (f:Int→List Int):Ar Int 4:=⟨[((f 0).length:Int),((f 1).length:Int),((f 2).length:Int),((f 3).length:Int)],rfl⟩
theorem cA_get (f:Int→List Int) (j:Nat) (hj:j< 4):(cA f).get (j:Int) 0=((f (j:Int)).length:Int):=by
 obtain rfl|rfl|rfl|rfl:j=0∨j=1∨j=2∨j=3:=by omega
 all_goals rfl
theorem cA_step {f g:Int→List Int} {w:Nat} (hw:w< 4) (hb:(f (w:Int)).length≤1000) (h:∀ j:Nat,j< 4→((g (j:Int)).length:Int)=((f (j:Int)).length:Int)+(if w=j then 1 else 0)):(cA f).set (w:Int) (i64w ((cA f).get (w:Int) 0+1))=cA g:=by
 apply ar_ext4
 intro j hj
 rw [Ar_set_get _ w j _ hj,cA_get f w hw,cA_get f j hj,cA_get g j hj,h j hj]
 by_cases c:w=j
 ·subst c
  rw [if_pos rfl,if_pos rfl,i64w_id (by omega) (by omega)]
 ·rw [if_neg c,if_neg c,Int.add_zero]
theorem cA_same {f g:Int→List Int} (h:∀ j:Nat,j< 4→(g (j:Int)).length=(f (j:Int)).length):cA f=cA g:=by
 apply ar_ext4
 intro j hj
 rw [cA_get f j hj,cA_get g j hj,h j hj]
def slB (G:Ga) (s:Int) (k:Nat) (j:Int):List Int:=(sl G k j).filter fun m=>bitB s m
theorem slB_succ (G:Ga) (s:Int) (k:Nat) (j:Int):((slB G s (k+1) j).length:Int)=((slB G s k j).length:Int)+(if (W G (k:Int)=j∧W G (k:Int)≤G.Qae)∧bitB s (k:Int)=true then 1 else 0):=by
 unfold slB
 rw [sl_succ]
 by_cases c:W G (k:Int)=j∧W G (k:Int)≤G.Qae
 ·rw [if_pos c,List.filter_append,List.length_append]
  by_cases d:bitB s (k:Int)=true
  ·rw [if_pos ⟨c,d⟩,List.filter_cons_of_pos d];simp
  ·rw [if_neg (fun w=>d w.2),List.filter_cons_of_neg d];simp
 ·rw [if_neg c,if_neg (fun w=>c w.1),Int.add_zero]
theorem sl_lenS (G:Ga) (k:Nat) (j:Int):((sl G (k+1) j).length:Int)=((sl G k j).length:Int)+(if W G (k:Int)=j∧W G (k:Int)≤G.Qae then 1 else 0):=by
 rw [sl_succ]
 by_cases c:W G (k:Int)=j∧W G (k:Int)≤G.Qae
 ·rw [if_pos c,if_pos c];simp
 ·rw [if_neg c,if_neg c,Int.add_zero]
theorem bit_cand {G:Ga} (h:OkG G) {q:Ar Int 4} (hq:∀ j:Nat,j< 4→0≤q.get j 0) {m:Int} (hm:0≤m∧m< 64) (hb:bitB (askSet G q) m=true):W G m≤G.Qae:=by
 rw [bit_inc h q hm,List.contains_iff_mem,inc_iff h hq] at hb
 simp only [List.mem_append] at hb
 rcases hb with ((hb|hb)|hb)|hb<;>exact (mem_sl.1 (List.mem_of_mem_take hb)).2.2
theorem outer_ok {N:Nat} (hN:1000< N) {G:Ga} (hk:okG G=true) {q:Ar Int 4} (hq:∀ j:Nat,j< 4→0≤q.get j 0∧q.get j 0≤xs G j):
 rounds (fun s=>Qal.b14 N G (cd G (nG G)) (askSet G q,0) s.1 s.2.1 s.2.2) N ((Ar.rep 4 0),(Ar.rep 4 0),0)=some (.go (q,arS G (nG G))):=by
 have h:=okG_iff hk
 have n60:=h.n60
 have l3:=h.l3
 unfold B60 at n60
 have hnG:((nG G:Nat):Int)=G.Qac:=by unfold nG;omega
 have e8n:i64w G.Qac=G.Qac:=i64w_id (by omega) (by omega)
 have e8l:i64w G.Qae=G.Qae:=i64w_id (by omega) (by omega)
 have qq:=rounds_for (b:=fun s=>Qal.b14 N G (cd G (nG G)) (askSet G q,0) s.1 s.2.1 s.2.2) (e:= .go (cA (slB G (askSet G q) (nG G)),cA (sl G (nG G)))) (fun k=>(cA (slB G (askSet G q) k),cA (sl G k),(k:Int))) (nG G) 0 N (Nat.zero_le _) (by omega) (by
  intro k _ hkn
  have hm:0≤(k:Int)∧(k:Int)< G.Qac:=by omega
  have hm':0≤(k:Int)∧(k:Int)≤63:=by omega
  have hn:i64w ((k:Int)+1)=((k+1:Nat):Int):=by rw [i64w_id (by omega) (by omega)];omega
  have hu:u64w (k:Int)=(k:Int):=u64w_id (by omega) (by omega)
  have hcl:=cd_len G (nG G)
  show Qal.b14 N G (cd G (nG G)) (askSet G q,0) (cA (slB G (askSet G q) k)) (cA (sl G k)) (k:Int)=_
  unfold Qal.b14
  rw [e8n,if_pos hm.2,G_eta,lies_val (by omega) hk hm,Option.bind_some,first_val (by omega) hk hm,Option.bind_some,if_pos rfl,if_pos rfl,if_pos (show ((wr G (k:Int) G.Qah.length,(0:Int)).1.length:Int)=(W G (k:Int),(0:Int)).1 from rfl),has_eq (by omega) hN,Option.bind_some,e8l]
  have hd:decide ((k:Int)∈cd G (nG G))=decide ((W G (k:Int),(0:Int)).1≤G.Qae):=by
   rw [Bool.eq_iff_iff,decide_eq_true_eq,decide_eq_true_eq,mem_cd]
   exact ⟨fun w=>w.2,fun w=>⟨⟨by omega,by omega⟩,w⟩⟩
  rw [if_pos hd,inner_ok hN h.len hm',Option.bind_some]
  show Qal.a17 N (W G (k:Int),0) G (k:Int) (askSet G q,0) (cA (slB G (askSet G q) k)) (cA (sl G k)) (wr G (k:Int) G.Qah.length,0) _=_
  unfold Qal.a17 Qal.j16
  dsimp only
  rw [e8l,hn,hu]
  have hbit:(bAnd .u64 (shrI .u64 (askSet G q) (k:Int)) 1=1)↔bitB (askSet G q) (k:Int)=true:=by
   unfold bitB
   rw [beq_iff_eq]
  by_cases c:W G (k:Int)≤G.Qae
  ·have hw0:=W_nonneg G (k:Int)
   obtain ⟨w,hw⟩:=Int.eq_ofNat_of_zero_le hw0
   have hw4:w< 4:=by omega
   have g:(0:Int)≤W G (k:Int)∧W G (k:Int)< 4:=by omega
   have hsl:(sl G k (w:Int)).length≤1000:=by have:=sl_len G k (w:Int);omega
   have hslb:(slB G (askSet G q) k (w:Int)).length≤1000:=by
    have:(slB G (askSet G q) k (w:Int)).length≤(sl G k (w:Int)).length:=List.length_filter_le _ _
    omega
   have s1:(cA (sl G k)).set (W G (k:Int)) (i64w ((cA (sl G k)).get (W G (k:Int)) 0+1))=cA (sl G (k+1)):=by
    rw [hw]
    refine cA_step hw4 hsl fun j hj=>?_
    rw [sl_lenS]
    by_cases d:w=j
    ·rw [if_pos d,if_pos ⟨by omega,c⟩]
    ·rw [if_neg d,if_neg (fun v=>d (by omega))]
   rw [if_pos c,if_pos g,if_pos g,if_pos hm.1,s1]
   by_cases b:bitB (askSet G q) (k:Int)=true
   ·have s2:(cA (slB G (askSet G q) k)).set (W G (k:Int)) (i64w ((cA (slB G (askSet G q) k)).get (W G (k:Int)) 0+1))=cA (slB G (askSet G q) (k+1)):=by
     rw [hw]
     refine cA_step hw4 hslb fun j hj=>?_
     rw [slB_succ]
     by_cases d:w=j
     ·rw [if_pos d,if_pos ⟨⟨by omega,c⟩,b⟩]
     ·rw [if_neg d,if_neg (fun v=>d (by omega))]
    rw [if_pos (hbit.2 b),if_pos g,if_pos g,s2]
   ·have s3:cA (slB G (askSet G q) k)=cA (slB G (askSet G q) (k+1)):=cA_same fun j hj=>by
     have:=slB_succ G (askSet G q) k (j:Int)
     rw [if_neg (fun v=>b v.2)] at this
     omega
    rw [if_neg (fun v=>b (hbit.1 v)),← s3]
  ·have b:¬ bitB (askSet G q) (k:Int)=true:=fun b=>c (bit_cand h (fun j hj=>(hq j hj).1) (by omega) b)
   have s3:cA (slB G (askSet G q) k)=cA (slB G (askSet G q) (k+1)):=cA_same fun j hj=>by
    have:=slB_succ G (askSet G q) k (j:Int)
    rw [if_neg (fun v=>b v.2)] at this
    omega
   have s4:cA (sl G k)=cA (sl G (k+1)):=cA_same fun j hj=>by
    have:=sl_lenS G k (j:Int)
    rw [if_neg (fun v=>c v.2)] at this
    omega
   rw [if_neg c,if_pos hm.1,if_neg (fun v=>b (hbit.1 v)),← s3,← s4]) (by
  show Qal.b14 N G (cd G (nG G)) (askSet G q,0) (cA (slB G (askSet G q) (nG G))) (cA (sl G (nG G))) ((nG G:Nat):Int)=_
  unfold Qal.b14
  rw [e8n,if_neg (by omega)])
 have z1:cA (slB G (askSet G q) 0)=Ar.rep 4 0:=rfl
 have z2:cA (sl G 0)=Ar.rep 4 0:=rfl
 have z3:cA (slB G (askSet G q) (nG G))=q:=by
  apply ar_ext4
  intro j hj
  rw [cA_get _ j hj]
  exact bit_count h hq hj
 have qq':rounds (fun s=>Qal.b14 N G (cd G (nG G)) (askSet G q,0) s.1 s.2.1 s.2.2) N ((Ar.rep 4 0),(Ar.rep 4 0),0)=some (.go (cA (slB G (askSet G q) (nG G)),arS G (nG G))):=qq
 rw [z3] at qq'
 exact qq'
theorem drawn_half {N:Nat} (hN:5000< N) {G:Ga} (hk:okG G=true) (hl:G.Qah.length≤8) {a3:List Int} (hg:Qb8.f N a3=some G):Qal.j6 N a3=some true:=by
 have h:=okG_iff hk
 have n60:=h.n60
 have l3:=h.l3
 unfold B60 at n60
 have hG:=inG_of h
 have e8l:i64w G.Qae=G.Qae:=i64w_id (by omega) (by omega)
 obtain ⟨c1,c2⟩:=cands_ok (N:=N) (by omega) hk
 obtain ⟨s1,s2⟩:=state_ok (N:=N) (by omega) hk
 obtain ⟨q,t1,t2,t3,t4,hb,hq,hs⟩:=next_more (N:=N) hG (by omega) hk
 have hqa:∀ j:Nat,j< 4→0≤q.get j 0∧q.get j 0≤(arS G (nG G)).get j 0:=fun j hj=>by rw [arS_get G j hj];exact hq j hj
 obtain ⟨r,u1,u2⟩:=set_same h (N:=N) (by omega) hqa
 have hr:r=askSet G q:=QsJ (u1.symm.trans t3)
 have hv:=valid_ok (N:=N) (by omega) h
 have half:Qch.f N G.Qae (arS G (nG G))=some (q,0):=by
  unfold Qch.f
  rw [hv,Option.bind_some,if_pos rfl,t2,Option.bind_some]
 have setfor:Qcf.f N G q=some (askSet G q,0):=by
  have e:=okG_impl (N:=N) hG (by omega)
  rw [hk] at e
  unfold Qcf.f
  rw [G_eta,e,Option.bind_some,if_pos rfl,state_impl h (by omega),Option.bind_some,within_impl (by omega),withinB_of hqa,Option.bind_some,if_pos rfl,u2,Option.bind_some,hr]
 have hcl:=cd_len G (nG G)
 have hn:nG G≤60:=by unfold nG;omega
 have hok':okG (addA G (askSet G q) true)=true:=ok_add hk (by omega) (hb true)
 have addask:Qce.f N G (askSet G q) true=some (addA G (askSet G q) true,0):=by
  have e:=okG_impl (N:=N) hG (by omega)
  rw [hk] at e
  have hbb:=hb true
  unfold bad at hbb
  have hz:bAndNot .u64 (askSet G q) (allN G.Qac)=0:=by
   rw [Bool.not_eq_false'] at hbb
   exact eq_of_beq hbb
  unfold Qce.f
  rw [G_eta,e,Option.bind_some,if_pos rfl,full_impl N h.n60,Option.bind_some,if_pos hz,if_neg (by omega),(with_both (N:=N) (G:=G) (by omega) (askSet G q) true).1,Option.bind_some]
  rfl
 obtain ⟨s3,s4⟩:=state_ok (N:=N) (by omega) hok'
 obtain ⟨no,sp⟩:=split_ok (N:=N) (by omega) h hq
 have split:QbY.f N G.Qae (arS G (nG G)) q=some (arS (addA G (askSet G q) true) (nG (addA G (askSet G q) true)),no,0):=by
  unfold QbY.f
  rw [hv,Option.bind_some,if_pos rfl,within_spec (by omega),withinB_of hqa,Option.bind_some,if_pos rfl,sp,Option.bind_some]
 have a0:(arS G (nG G)).get 0 0=xs G 0:=arS_get G 0 (by decide)
 have a1:(arS G (nG G)).get 1 0=xs G 1:=arS_get G 1 (by decide)
 have a2:(arS G (nG G)).get 2 0=xs G 2:=arS_get G 2 (by decide)
 have a3':(arS G (nG G)).get 3 0=xs G 3:=arS_get G 3 (by decide)
 have hsum:=sumX_le h
 have x0:=xs_nonneg G 0
 have x1:=xs_nonneg G 1
 have x2:=xs_nonneg G 2
 have x3:=xs_nonneg G 3
 have hcx:=cd_xs h
 unfold sumX at hsum
 have hsumw:i64w ((i64w ((i64w (xs G 0+xs G 1))+xs G 2))+xs G 3)=((cd G (nG G)).length:Int):=by
  rw [i64w_id (x:=xs G 0+xs G 1) (by omega) (by omega),i64w_id (x:=xs G 0+xs G 1+xs G 2) (by omega) (by omega),i64w_id (by omega) (by omega),hcx]
 have o:=outer_ok (N:=N) (by omega) hk hq
 unfold Qal.j6
 rw [hg,Option.bind_some,G_eta,c1,Option.bind_some,c2,Option.bind_some]
 unfold Qal.j7
 rw [G_eta,s1,Option.bind_some,s2,Option.bind_some]
 unfold Qal.j8
 rw [G_eta,t4,Option.bind_some,e8l,half,Option.bind_some]
 unfold Qal.j9
 dsimp only
 rw [G_eta,setfor,Option.bind_some,if_pos rfl,if_pos rfl,sameNumbers_eq (by omega) (by omega),Option.bind_some,if_pos rfl,if_pos rfl,if_pos rfl,if_pos rfl,if_pos rfl,if_pos rfl,if_pos rfl,if_pos rfl,if_pos (by decide),if_pos (by decide),if_pos (by decide),if_pos (by decide),a0,a1,a2,a3',if_pos hsumw]
 unfold Qal.j10
 rw [o,Option.bind_some]
 show Qal.j11 N (arS G (nG G)) q G (askSet G q,0) q (arS G (nG G))=some true
 unfold Qal.j11
 dsimp only
 rw [if_pos rfl,if_pos rfl,G_eta,addask,Option.bind_some]
 unfold Qal.j12
 dsimp only
 rw [G_eta,s3,Option.bind_some,e8l,split,Option.bind_some]
 unfold Qal.j13
 dsimp only
 rw [if_pos rfl,if_pos rfl,if_pos rfl,decide_eq_true rfl]
theorem play_game {N:Nat} (hN:200< N) {n l m:Int} (hn:1≤n∧n≤20) (hl:0≤l∧l≤3) (hm:0≤m∧m< n) {ws:List Bool} (hws:((ws.filter id).length:Int)≤l):
 ∃ A:List As_,QbK.f N n l m ws=some ((⟨n,l,A⟩:Ga),m,0)∧QaP.f N n l m ws=some ((⟨n,l,A⟩:Ga),m,0)∧Done n l m A:=by
 obtain ⟨A,e1,hd⟩:=play_ok (N:=N) hN hn hl hm hws
 obtain ⟨r,p1,p2,_⟩:=Play_same (N:=N) hN (n:=n) (l:=l) (m:=m) ws
 have hok:okP n l=true:=by
  unfold okP
  simp only [Bool.and_eq_true,decide_eq_true_eq]
  omega
 have e2:QbK.f N n l m ws=some ((⟨n,l,A⟩:Ga),m,0):=by
  unfold QbK.f
  rw [game_spec,Option.bind_some,if_pos hok,i64w_id (x:=n - 1) (by omega) (by omega),l00In_eq,decide_eq_true (show 0≤m∧m≤n - 1 by omega),Option.bind_some,if_pos rfl,e1]
  rfl
 exact ⟨A,e2,p2.trans (p1.symm.trans e2),hd⟩
theorem text_read {N:Nat} (hN:4000000< N) {n l m:Int} {A:List As_} (h:Done n l m A):∃ t:ByteArray,QaY.f N (⟨n,l,A⟩:Ga)=some t∧Qa7.f N t=some ((⟨n,l,A⟩:Ga),0):=by
 have hk:=okG_iff h.ok
 have e:=okG_impl (N:=N) (inG_of hk) (by omega)
 rw [h.ok] at e
 have et:=text_impl (N:=N) (G:=(⟨n,l,A⟩:Ga)) e hk.len hk.n60 hk.l3 h.rg (by omega)
 refine ⟨_,et,?_⟩
 have n60:=hk.n60
 unfold B60 at n60
 have hh:=head_len (G:=(⟨n,l,A⟩:Ga)) n60.2 hk.l3.2
 have hll:=lines_len A
 have hsz:(⟨(textG (⟨n,l,A⟩:Ga)).toArray⟩:ByteArray).size≤1048576:=by
  rw [ba_size]
  unfold textG
  rw [List.length_append]
  have:=h.len
  show (headG (⟨n,l,A⟩:Ga)).length+(linesG A).length≤1048576
  omega
 obtain ⟨r,er,_,hr⟩:=Read_impl (N:=N) hsz hN
 rw [er,hr (⟨n,l,A⟩:Ga) ⟨h.ok,h.rg,rfl⟩]
theorem Qal.told (a0:List (Int)) (h0:∀ x∈a0,IntKind.min .u8≤x∧x≤IntKind.max .u8) (l0:a0.length≤9223372036854775807) (a1:List (Int)) (h1:∀ x∈a1,IntKind.min .u8≤x∧x≤IntKind.max .u8) (l1:a1.length≤9223372036854775807):∃ N,Qal.f N a0 a1=some true:=by
 rw [min_u8,max_u8] at h0 h1
 refine ⟨5000000,?_⟩
 unfold Qal.f Qcg.f
 rw [Option.bind_some]
 by_cases c0:(a0.length:Int)>4096
 ·rw [if_pos (decide_eq_true c0)]
 rw [if_neg (by simpa using c0),Option.bind_some]
 by_cases c1:(a1.length:Int)>4096
 ·rw [if_pos (decide_eq_true c1)]
 rw [if_neg (by simpa using c1)]
 have B0:Bytes a0:=⟨h0,by omega⟩
 have B1:Bytes a1:=⟨h1,by omega⟩
 obtain ⟨x,ex,x0,x1⟩:=p6pick (N:=5000000) B0 (n:=20) (by decide)
 obtain ⟨l,el,y0,y1⟩:=p6pick (N:=5000000) B1 (n:=4) (by decide)
 obtain ⟨m,em,m0,m1⟩:=p6pick (N:=5000000) B1 (n:=1+x) (by omega)
 have en:i64w (1+x)=1+x:=i64w_id (by omega) (by omega)
 have hn:1≤1+x∧1+x≤20:=by omega
 have hl:0≤l∧l≤3:=by omega
 obtain ⟨ws,ew,w1,_⟩:=wrong_ok (N:=5000000) (by decide) B0 hl
 obtain ⟨A,p1,p2,hd⟩:=play_game (N:=5000000) (by decide) hn hl ⟨m0,m1⟩ w1
 have hlen:(⟨1+x,l,A⟩:Ga).Qah.length≤1000:=by have:=hd.len;show A.length≤1000;omega
 have sg:=sameGame_spec (N:=5000000) hlen (by decide)
 have si:=sameGame_impl (N:=5000000) hlen (by decide)
 have hf:=found_ok (N:=5000000) (by decide) hd
 obtain ⟨t,et,er⟩:=text_read (N:=5000000) (by decide) hd
 have ev:Qa1.f 5000000 (⟨1+x,l,A⟩:Ga)=some true:=by rw [okG_impl (inG_of (okG_iff hd.ok)) (by decide),hd.ok]
 obtain ⟨v,w,k1,k2,k3,k4⟩:=worst_ok (N:=5000000) (by decide) hn hl
 obtain ⟨G,eG,hk,hl8,_,_⟩:=drawn_ok (N:=5000000) (by decide) B1
 have last:=drawn_half (N:=5000000) (by decide) hk hl8 eG
 rw [ex,Option.bind_some,el,Option.bind_some,en,em,Option.bind_some]
 unfold Qal.j0
 rw [ew,Option.bind_some,en,p2,Option.bind_some]
 unfold Qal.j1
 dsimp only
 rw [en,p1,Option.bind_some]
 dsimp only
 rw [if_pos rfl,if_pos rfl,sg,Option.bind_some,if_pos rfl,if_pos rfl,if_pos rfl]
 unfold Qal.j2
 dsimp only
 rw [hf,Option.bind_some,et,Option.bind_some,er,Option.bind_some]
 unfold Qal.j3
 dsimp only
 rw [if_pos rfl,if_pos rfl,if_pos rfl,sg,Option.bind_some,if_pos rfl,si,Option.bind_some,if_pos rfl,ev,Option.bind_some,if_pos rfl]
 unfold Qal.j4
 rw [en,k2,Option.bind_some,k1,Option.bind_some]
 unfold Qal.j5
 dsimp only
 rw [if_pos rfl,if_pos rfl,if_pos rfl,if_pos rfl,if_neg (by omega),en,if_neg (by omega)]
 exact last
end Go.Proofs.YtdnipilfcjkfoaaGreatDoorX
