import Derived.Test.YtgpdpedpmhonkaaP1
import Derived.Test.YtgpdpedpmhonkaaP21
import Derived.Test.YtgpdpedpmhonkaaP3
namespace Go.Proofs.YtgpdpedpmhonkaaX
open Go
set_option linter.unusedVariables false
set_option linter.unusedSimpArgs false
abbrev Tk:=Qaq
abbrev Cs:=Qai
abbrev We:=Ar Int 14
theorem rounds_any {α ρ:Type} {b:Int→Option (Bd ρ Unit Int)} (a:List α) (p:α→Bool) (r:Nat→ρ) {N:Nat} (hN:a.length< N)
 (h:∀ i (hi:i< a.length),b (i:Int)=if p a[i]=true then some (.out (.ret (r i))) else some (.next ((i+1:Nat):Int)))
 (he:b (a.length:Int)=some (.out (.go ()))):∃ e,rounds b N 0=some e∧(if a.any p=true then ∃ i,e= .ret (r i) else e= .go ()):=by
 have main:∀ (n k:Nat),k≤a.length→a.length - k< n→∃ e,rounds b n (k:Int)=some e∧(if (a.drop k).any p=true then ∃ i,e= .ret (r i) else e= .go ()):=by
  intro n
  induction n with
  |zero=>intro k _ hk;omega
  |succ n ih=>
   intro k hk hn
   by_cases hl:k< a.length
   ·have hb:=h k hl
    by_cases hp:p a[k]=true
    ·rw [if_pos hp] at hb
     have e1:(a.drop k).any p=true:=by rw [List.drop_eq_getElem_cons hl,List.any_cons,hp];rfl
     exact ⟨_,rounds_out hb,by rw [if_pos e1];exact ⟨_,rfl⟩⟩
    ·rw [if_neg hp] at hb
     obtain ⟨e,h1,h2⟩:=ih (k+1) hl (by omega)
     have e1:(a.drop k).any p=(a.drop (k+1)).any p:=by rw [List.drop_eq_getElem_cons hl,List.any_cons,(Bool.not_eq_true _).mp hp,Bool.false_or]
     exact ⟨e,(rounds_next hb).trans h1,by rw [e1];exact h2⟩
   ·obtain rfl:k=a.length:=by omega
    exact ⟨_,rounds_out he,by simp⟩
 exact main N 0 (Nat.zero_le _) (by omega)
def okT (t:Tk):Bool:=decide (1≤t.QaF∧t.QaF≤13)&&decide (0≤t.Qa0∧t.Qa0≤2)
def InT (t:Tk):Prop:=(-128≤t.QaF∧t.QaF≤127)∧(-128≤t.Qa0∧t.Qa0≤127)
theorem okT_at {t:Tk} (h:okT t=true):(1≤t.QaF∧t.QaF≤13)∧(0≤t.Qa0∧t.Qa0≤2):=by
 unfold okT at h
 simpa using h
theorem in_dec (a b c:Int):Qcw.f 0 a b c=some (decide (b≤a∧a≤c))∧Qb0.f 0 a b c=some (decide (b≤a∧a≤c)):=by
 unfold Qcw.f Qb0.f
 by_cases h:b≤a
 ·rw [if_pos h]
  simp [h]
 ·rw [if_neg h]
  simp [h]
theorem l00In_eq (N:Nat) (a b c:Int):Qcw.f N a b c=some (decide (b≤a∧a≤c)):=(in_dec a b c).1
theorem within_eq (N:Nat) (a b c:Int):Qb0.f N a b c=some (decide (b≤a∧a≤c)):=(in_dec a b c).2
theorem okT_spec (N:Nat) {t:Tk} (h:InT t):Qce.f N t=some (okT t):=by
 obtain ⟨h1,h2⟩:=h
 simp only [Qce.f,l00In_eq,i64w_id (x:=t.QaF) (by omega) (by omega),i64w_id (x:=t.Qa0) (by omega) (by omega),Option.bind_some,okT]
 by_cases c:1≤t.QaF∧t.QaF≤13
 ·simp [c]
 ·simp [c]
theorem okT_impl (N:Nat) {t:Tk} (h:InT t):Qbr.f N t=some (okT t):=by
 obtain ⟨h1,h2⟩:=h
 simp only [Qbr.f,QcH.f,within_eq,i64w_id (x:=t.QaF) (by omega) (by omega),i64w_id (x:=t.Qa0) (by omega) (by omega),Option.bind_some,okT]
 by_cases c:1≤t.QaF∧t.QaF≤13
 ·simp [c]
 ·simp [c]
def side (w:We) (j:Int):Prop:= -1≤w.get j 0∧w.get j 0≤1
theorem weigh_both {N:Nat} (hN:40< N) {t:Tk} (ht:InT t) (hk:okT t=true) (w:We):∃ b,Qbb.f N t w=some b∧QaW.f N t w=some b∧(b=true→∀ j:Nat,j< 14→side w j):=by
 obtain ⟨⟨c1,c2⟩,_⟩:=okT_at hk
 obtain ⟨e,e',h1,h2,h3⟩:=rounds_both (b:=fun s=>Qbb.b0 N w t s.1 s.2) (b':=fun s=>QaW.b0 N w t s.1 s.2)
  (fun s s'=>s=s'∧0≤s.2∧s.2≤14∧ -s.2≤s.1∧s.1≤s.2∧∀ j:Nat,(j:Int)< s.2→side w j) (fun s=>(14 - s.2).toNat)
  (fun e e'=>(e= .ret false∧e'= .ret false)∨∃ x,e= .go x∧e'= .go x∧∀ j:Nat,j< 14→side w j) (by
  rintro ⟨x,i⟩ ⟨x',i'⟩ ⟨r1,r2,r3,r4,r5,r6⟩
  obtain ⟨rfl,rfl⟩:=Prod.mk.inj r1
  simp only at r2 r3 r4 r5 r6
  obtain ⟨i,rfl⟩:=Int.eq_ofNat_of_zero_le r2
  by_cases hi:i< 14
  ·have g1:((i:Nat):Int)< 14:=by omega
   have g2:(0:Int)≤(i:Int):=by omega
   have hn:i64w ((i:Int)+1)=((i+1:Nat):Int):=by rw [i64w_id (by omega) (by omega)];omega
   simp only [Qbb.b0,QaW.b0,g1,g2,and_self,if_true,Qcc.f,QbS.f,Qbb.j2,QaW.j2,hn,i64w_id (x:=t.QaF) (by omega) (by omega),i64w_id (x:=t.QaF+1) (by omega) (by omega)]
   by_cases d1:w.get (i:Int) 0< -1
   ·left;simp only [if_pos d1];exact ⟨_,_,rfl,rfl, .inl ⟨rfl,rfl⟩⟩
   ·by_cases d2:w.get (i:Int) 0>1
    ·left;simp only [if_neg d1,if_pos d2];exact ⟨_,_,rfl,rfl, .inl ⟨rfl,rfl⟩⟩
    ·have hw1:=i64w_id (x:=w.get (i:Int) 0) (by omega) (by omega)
     have hw2:=i64w_id (x:=x+w.get (i:Int) 0) (by omega) (by omega)
     have hnext:∀ j:Nat,(j:Int)< ((i+1:Nat):Int)→side w j:=by
      intro j hj
      by_cases e:j=i
      ·subst e;exact ⟨by omega,by omega⟩
      ·exact r6 j (by omega)
     simp only [if_neg d1,if_neg d2,hw1,hw2]
     by_cases d3:w.get (i:Int) 0=0
     ·right;simp only [if_pos d3]
      exact ⟨_,_,rfl,rfl,⟨rfl,by dsimp only;omega,by dsimp only;omega,by dsimp only;omega,by dsimp only;omega,hnext⟩,by dsimp only;omega⟩
     ·simp only [if_neg d3]
      by_cases d4:(i:Int)< t.QaF
      ·right
       have d5:¬ ((i:Int)≥(if t.QbI=true then t.QaF+1 else t.QaF)):=by split<;>omega
       refine ⟨(x+w.get (i:Int) 0,((i+1:Nat):Int)),(x+w.get (i:Int) 0,((i+1:Nat):Int)),by simp only [if_pos d4,Option.bind_some,if_true],?_,⟨rfl,by dsimp only;omega,by dsimp only;omega,by dsimp only;omega,by dsimp only;omega,hnext⟩,by dsimp only;omega⟩
       cases hg:t.QbI with
       |true=>rw [hg] at d5;simp only [if_true] at d5 ⊢;simp only [Option.bind_some,if_neg d5]
       |false=>rw [hg] at d5;simp only [Bool.false_eq_true,if_false] at d5 ⊢;simp only [Option.bind_some,if_neg d5]
      ·by_cases d5:(i:Int)=t.QaF
       ·cases hg:t.QbI with
        |true=>
         right
         have d6:¬ ((i:Int)≥t.QaF+1):=by omega
         exact ⟨(x+w.get (i:Int) 0,((i+1:Nat):Int)),(x+w.get (i:Int) 0,((i+1:Nat):Int)),by simp only [if_neg d4,if_pos d5,Option.bind_some,if_true],by simp only [if_true,Option.bind_some,if_neg d6],⟨rfl,by dsimp only;omega,by dsimp only;omega,by dsimp only;omega,by dsimp only;omega,hnext⟩,by dsimp only;omega⟩
        |false=>
         left
         have d6:(i:Int)≥t.QaF:=by omega
         exact ⟨.ret false, .ret false,by simp only [if_neg d4,if_pos d5,Option.bind_some,Bool.false_eq_true,if_false],by simp only [Bool.false_eq_true,if_false,Option.bind_some,if_pos d6], .inl ⟨rfl,rfl⟩⟩
       ·left
        have d6:(i:Int)≥t.QaF+1:=by omega
        have d7:(i:Int)≥t.QaF:=by omega
        refine ⟨.ret false, .ret false,by simp only [if_neg d4,if_neg d5,Option.bind_some,Bool.false_eq_true,if_false],?_, .inl ⟨rfl,rfl⟩⟩
        cases t.QbI with
        |true=>simp only [if_true,Option.bind_some,if_pos d6]
        |false=>simp only [Bool.false_eq_true,if_false,Option.bind_some,if_pos d7]
  ·left
   have g1:¬ ((i:Nat):Int)< 14:=by omega
   simp only [Qbb.b0,QaW.b0,g1,if_false]
   exact ⟨_,_,rfl,rfl, .inr ⟨_,rfl,rfl,fun j hj=>r6 j (by omega)⟩⟩) N N (0,0) (0,0) ⟨rfl,by decide,by decide,by decide,by decide,fun j hj=>by dsimp only at hj;omega⟩ (by simp;omega) (by simp;omega)
 simp only [Qbb.f,QaW.f,okT_impl N ht,hk,Option.bind_some,if_true,h1,h2]
 rcases h3 with ⟨rfl,rfl⟩|⟨x,rfl,rfl,hs⟩
 ·exact ⟨_,rfl,rfl,fun h=>by cases h⟩
 ·exact ⟨_,rfl,rfl,fun _=>hs⟩
def wv (N:Nat) (t:Tk) (w:We):Bool:=(Qbb.f N t w).getD false
theorem wv_spec {N:Nat} (hN:40< N) {t:Tk} (ht:InT t) (hk:okT t=true) (w:We):Qbb.f N t w=some (wv N t w)∧QaW.f N t w=some (wv N t w)∧(wv N t w=true→∀ j:Nat,j< 14→side w j):=by
 obtain ⟨b,h1,h2,h3⟩:=weigh_both hN ht hk w
 have e:wv N t w=b:=by unfold wv;rw [h1];rfl
 rw [e]
 exact ⟨h1,h2,h3⟩
def csL (t:Tk):List Cs:=(Qbi.f 20 t.QaF t.Qa0 t.QbU).getD []
theorem cases_tab:∀ c:Nat,c< 14→∀ k:Nat,k< 3→∀ n g:Bool,Qbd.f 20 ⟨(c:Int),(k:Int),n,g⟩=Qbi.f 20 (c:Int) (k:Int) n∧Qbi.f 20 (c:Int) (k:Int) n=some (csL ⟨(c:Int),(k:Int),n,g⟩)∧(csL ⟨(c:Int),(k:Int),n,g⟩).length≤27∧∀ x∈csL ⟨(c:Int),(k:Int),n,g⟩,-1≤x.Qbs∧x.Qbs≤12:=by decide+kernel
theorem cases_at {t:Tk} (hk:okT t=true):Qbd.f 20 t=some (csL t)∧Qbi.f 20 t.QaF t.Qa0 t.QbU=some (csL t)∧(csL t).length≤27∧∀ x∈csL t,-1≤x.Qbs∧x.Qbs≤12:=by
 obtain ⟨⟨c1,c2⟩,k1,k2⟩:=okT_at hk
 obtain ⟨c,k,n,g⟩:=t
 simp only at c1 c2 k1 k2
 have:=cases_tab c.toNat (by omega) k.toNat (by omega) n g
 rw [Int.toNat_of_nonneg (by omega),Int.toNat_of_nonneg k1] at this
 obtain ⟨q1,q2,q3,q4⟩:=this
 exact ⟨q1.trans q2,q2,q3,q4⟩
theorem cases_spec {N:Nat} (hN:40< N) {t:Tk} (hk:okT t=true):Qbd.f N t=some (csL t):=by
 have q:=(cases_at hk).1
 have e:∀ M,(fun s:List Cs×Int=>Qbd.b1 M t s.1 s.2)=(fun s=>Qbd.b1 20 t s.1 s.2):=fun M=>rfl
 unfold Qbd.f Qbd.j0 at q ⊢
 by_cases hn:t.QbU=true
 ·rw [if_pos hn] at q ⊢
  rw [if_pos (by simp)] at q ⊢
  obtain ⟨x,hx,hf⟩:=bind_get q
  rw [e N,rounds_mono hx (by omega)];exact hf
 ·rw [if_neg hn] at q ⊢
  obtain ⟨x,hx,hf⟩:=bind_get q
  rw [e N,rounds_mono hx (by omega)];exact hf
theorem cases_impl {N:Nat} (hN:40< N) {t:Tk} (hk:okT t=true):QbL.f N t=some (csL t):=by
 have q:=(cases_at hk).2.1
 obtain ⟨⟨c1,c2⟩,_⟩:=okT_at hk
 have e:∀ M,(fun s:List Cs×Int=>Qbi.b1 M t.QaF t.Qa0 s.1 s.2)=(fun s=>Qbi.b1 20 t.QaF t.Qa0 s.1 s.2):=fun M=>rfl
 simp only [QbL.f,i64w_id (x:=t.QaF) (by omega) (by omega)]
 have:Qbi.f N t.QaF t.Qa0 t.QbU=some (csL t):=by
  unfold Qbi.f Qbi.j0 at q ⊢
  by_cases hn:t.QbU=true
  ·rw [if_pos hn] at q ⊢
   rw [if_pos (by simp)] at q ⊢
   obtain ⟨x,hx,hf⟩:=bind_get q
   rw [e N,rounds_mono hx (by omega)];exact hf
  ·rw [if_neg hn] at q ⊢
   obtain ⟨x,hx,hf⟩:=bind_get q
   rw [e N,rounds_mono hx (by omega)];exact hf
 rw [this];rfl
def has (L:List Cs) (c:Cs):Bool:=L.any fun x=>decide (x=c)
theorem find_spec {N:Nat} (hN:40< N) {t:Tk} (hk:okT t=true) (c:Cs):∃ r,QbQ.f N t c=some r∧(decide (r< 0))=!has (csL t) c:=by
 have hl:=(cases_at hk).2.2.1
 obtain ⟨e,he,hq⟩:=rounds_any (b:=fun s=>QbQ.b0 N (csL t) c s) (csL t) (fun x=>decide (x=c)) (fun i=>(i:Int)) (N:=N) (by omega) (by
  intro i hi
  have g1:(i:Int)< (csL t).length:=by omega
  have g2:(0:Int)≤i:=by omega
  simp only [QbQ.b0,g1,g2,and_self,if_true,rdL_nat hi,i64w_succ hi (show (csL t).length≤9223372036854775807 by omega),decide_eq_true_eq]) (by
  simp only [QbQ.b0]
  rw [if_neg (by omega)])
 simp only [QbQ.f,cases_spec hN hk,Option.bind_some,he,has]
 by_cases c4:((csL t).any fun x=>decide (x=c))=true
 ·rw [if_pos c4] at hq
  obtain ⟨i,rfl⟩:=hq
  exact ⟨_,rfl,by rw [c4];simp⟩
 ·rw [if_neg c4] at hq
  subst hq
  rw [Bool.not_eq_true] at c4
  exact ⟨-1,rfl,by rw [c4];rfl⟩
theorem contains_impl {N:Nat} {L:List Cs} (hL:L.length≤27) (hN:40< N) (c:Cs):Qbq.f N L c=some (has L c):=by
 obtain ⟨e,he,hq⟩:=rounds_any (b:=fun s=>QaI.b0 N L c s) L (fun x=>decide (x=c)) (fun i=>(i:Int)) (N:=N) (by omega) (by
  intro i hi
  have g1:(i:Int)< L.length:=by omega
  have g2:(0:Int)≤i:=by omega
  by_cases e:L[i]=c
  ·simp only [QaI.b0,g1,g2,and_self,if_true,rdL_nat hi,i64w_succ hi (show L.length≤9223372036854775807 by omega),e,decide_true]
  ·have e':¬ c=L[i]:=fun h=>e h.symm
   simp only [QaI.b0,g1,g2,and_self,if_true,rdL_nat hi,i64w_succ hi (show L.length≤9223372036854775807 by omega),decide_eq_true_eq]
   first|rw [if_neg e,if_neg e]|rw [if_neg e',if_neg e]) (by
  simp only [QaI.b0]
  rw [if_neg (by omega)])
 simp only [Qbq.f,QaI.f,he,has]
 by_cases c4:(L.any fun x=>decide (x=c))=true
 ·rw [if_pos c4] at hq
  obtain ⟨i,rfl⟩:=hq
  simp only [Option.bind_some,Ex.fin,c4,decide_eq_true (show (i:Int)≥0 by omega)]
 ·rw [if_neg c4] at hq
  subst hq
  rw [Bool.not_eq_true] at c4
  simp only [Option.bind_some,Ex.fin,c4,QaI.a0]
  rfl
end Go.Proofs.YtgpdpedpmhonkaaX
namespace Go.Proofs.YtgpdpedpmhonkaaX
open Go
set_option linter.unusedVariables false
set_option linter.unusedSimpArgs false
abbrev Src:=QaC
theorem and_255 (x:Int):0≤bAnd .u64 x 255∧bAnd .u64 x 255≤255:=by
 have h:(BitVec.ofInt IntKind.u64.bits x&&&BitVec.ofInt IntKind.u64.bits 255).toNat≤255:=by
  show (BitVec.ofInt 64 x&&&BitVec.ofInt 64 255).toNat≤255
  rw [BitVec.toNat_and]
  have:(BitVec.ofInt 64 255).toNat=255:=by decide
  rw [this]
  exact Nat.and_le_right
 have e:bAnd .u64 x 255=((BitVec.ofInt IntKind.u64.bits x&&&BitVec.ofInt IntKind.u64.bits 255).toNat:Int):=u64w_id (by omega) (by omega)
 omega
def SrcOk (s:Src) (b:Int):Prop:=(∀ x∈s.Qbh,0≤x∧x≤255)∧0≤s.Qbp∧s.Qbp≤b∧b≤1000000∧s.Qbh.length≤1000000
theorem next_ok {N:Nat} {s:Src} {b:Int} (h:SrcOk s b):∃ x a d,Qbz.f N s=some (x,⟨s.Qbh,a,d⟩)∧0≤x∧x≤255∧a=s.Qbp+1:=by
 obtain ⟨hc,h0,h1,h2,h3⟩:=h
 have e1:i64w (s.Qbp+1)=s.Qbp+1:=i64w_id (by omega) (by omega)
 have main:∀ x,0≤x→x≤255→∃ y a d,Qbz.j0 N s x=some (y,⟨s.Qbh,a,d⟩)∧0≤y∧y≤255∧a=s.Qbp+1:=by
  intro x x0 x1
  unfold Qbz.j0
  rw [e1]
  by_cases c:s.Qbp+1≤(s.Qbh.length:Int)
  ·rw [if_pos c]
   exact ⟨_,_,_,rfl,x0,x1,rfl⟩
  ·rw [if_neg c]
   have q:=and_255 (shrI .u64 (u64w ((u64w ((u64w (s.Qbf*6364136223846793005))+(u64w x)))+1442695040888963407)) 40)
   exact ⟨_,_,_,rfl,by rw [i64w_id (by omega) (by omega)];exact q.1,by rw [i64w_id (by omega) (by omega)];exact q.2,rfl⟩
 unfold Qbz.f
 by_cases c:s.Qbp< (s.Qbh.length:Int)
 ·rw [if_pos c,if_pos ⟨h0,c⟩]
  have hm:=hc (rdL s.Qbh s.Qbp 0) (by
   obtain ⟨i,hi⟩:=Int.eq_ofNat_of_zero_le h0
   rw [hi] at c ⊢
   rw [rdL_nat (by omega)]
   exact List.getElem_mem _)
  exact main _ (by rw [i64w_id (by omega) (by omega)];exact hm.1) (by rw [i64w_id (by omega) (by omega)];exact hm.2)
 ·rw [if_neg c]
  exact main 0 (by decide) (by decide)
theorem pick_ok {N:Nat} {s:Src} {b n:Int} (h:SrcOk s b) (hn:2≤n∧n≤200):∃ x a d,Qbg.f N s n=some (x,⟨s.Qbh,a,d⟩)∧0≤x∧x< n∧a=s.Qbp+1:=by
 obtain ⟨x,a,d,e,x0,x1,ha⟩:=next_ok (N:=N) h
 have e':Qbz.f N (⟨s.Qbh,s.Qbp,s.Qbf⟩:Src)=some (x,⟨s.Qbh,a,d⟩):=e
 refine ⟨x.tmod n,a,d,?_,Int.tmod_nonneg _ x0,Int.tmod_lt_of_pos _ (by omega),ha⟩
 simp only [Qbg.f,if_neg (show ¬ n≤1 by omega),e',Option.bind_some,if_neg (show ¬ n>200 by omega),if_pos (show ¬ n=0 by omega)]
theorem SrcOk.next {s:Src} {b:Int} (h:SrcOk s b) (hb:b< 1000000) {a d:Int} (ha:a=s.Qbp+1):SrcOk ⟨s.Qbh,a,d⟩ (b+1):=by
 obtain ⟨h1,h2,h3,h4,h5⟩:=h
 exact ⟨h1,by dsimp only;omega,by dsimp only;omega,by omega,h5⟩
theorem pick_any {N:Nat} {s:Src} {b n:Int} (h:SrcOk s b) (hb:b< 1000000) (hn:1≤n∧n≤200):∃ x a d,Qbg.f N s n=some (x,⟨s.Qbh,a,d⟩)∧0≤x∧x< n∧SrcOk ⟨s.Qbh,a,d⟩ (b+1):=by
 by_cases c:n=1
 ·subst c
  refine ⟨0,s.Qbp,s.Qbf,?_,Int.le_refl _,by decide,?_⟩
  ·simp only [Qbg.f];rfl
  ·obtain ⟨h1,h2,h3,h4,h5⟩:=h
   exact ⟨h1,h2,by dsimp only;omega,by omega,h5⟩
 ·obtain ⟨x,a,d,e,h1,h2,h3⟩:=pick_ok (N:=N) h (n:=n) (by omega)
  exact ⟨x,a,d,e,h1,h2,h.next hb h3⟩
def zeroS (code:List Int):Src:=⟨code,0,0⟩
end Go.Proofs.YtgpdpedpmhonkaaX
namespace Go.Proofs.YtgpdpedpmhonkaaX
open Go
set_option linter.unusedVariables false
set_option linter.unusedSimpArgs false
def DrT (t:Tk):Prop:=(1≤t.QaF∧t.QaF≤9)∧0≤t.Qa0∧t.Qa0≤2
theorem DrT.inT {t:Tk} (h:DrT t):InT t:=by unfold DrT at h;unfold InT;omega
theorem DrT.okT {t:Tk} (h:DrT t):okT t=true:=by
 unfold DrT at h
 unfold Go.Proofs.YtgpdpedpmhonkaaX.okT
 rw [decide_eq_true (show 1≤t.QaF∧t.QaF≤13 by omega),decide_eq_true h.2]
 rfl
theorem one_any {N:Nat} {s:Src} {b n:Int} (h:SrcOk s b) (hb:b< 1000000) (hn:1≤n∧n≤200):∃ x a d,QbO.f N s n=some (x,⟨s.Qbh,a,d⟩)∧SrcOk ⟨s.Qbh,a,d⟩ (b+1):=by
 obtain ⟨x,a,d,e,_,_,h'⟩:=pick_any (N:=N) h hb hn
 have e':Qbg.f N (⟨s.Qbh,s.Qbp,s.Qbf⟩:Src) n=some (x,⟨s.Qbh,a,d⟩):=e
 exact ⟨x==0,a,d,by simp only [QbO.f,e',Option.bind_some],h'⟩
theorem drawnT {N:Nat} {code:List Int} (hc:∀ x∈code,0≤x∧x≤255) (hl:code.length≤1000000):∃ t,QcF.f N code=some t∧DrT t:=by
 have h0:SrcOk (zeroS code) 0:=⟨hc,Int.le_refl _,Int.le_refl _,by decide,hl⟩
 obtain ⟨x1,a1,d1,e1,r1,q1,h1⟩:=pick_any (N:=N) h0 (by decide) (n:=9) (by decide)
 obtain ⟨x2,a2,d2,e2,r2,q2,h2⟩:=pick_any (N:=N) h1 (by decide) (n:=3) (by decide)
 obtain ⟨x3,a3,d3,e3,h3⟩:=one_any (N:=N) h2 (by decide) (n:=3) (by decide)
 obtain ⟨x4,a4,d4,e4,h4⟩:=one_any (N:=N) h3 (by decide) (n:=3) (by decide)
 have e1':Qbg.f N (⟨code,0,0⟩:Src) 9=some (x1,⟨code,a1,d1⟩):=e1
 have e2':Qbg.f N (⟨code,a1,d1⟩:Src) 3=some (x2,⟨code,a2,d2⟩):=e2
 have e3':QbO.f N (⟨code,a2,d2⟩:Src) 3=some (x3,⟨code,a3,d3⟩):=e3
 have e4':QbO.f N (⟨code,a3,d3⟩:Src) 3=some (x4,⟨code,a4,d4⟩):=e4
 have w0:i64w (1+x1)=1+x1:=i64w_id (by omega) (by omega)
 have w1:i8w (1+x1)=1+x1:=i8w_id (by omega) (by omega)
 have w2:i8w x2=x2:=i8w_id (by omega) (by omega)
 refine ⟨⟨1+x1,x2,x3,x4⟩,?_,⟨by dsimp only;omega,by dsimp only;omega⟩,by dsimp only;omega,by dsimp only;omega⟩
 simp only [QcF.f,Qcm.f,Option.bind_some,QcC.f,e1',e2',e3',e4',w0,w1,w2]
theorem rounds_term {ρ σ τ:Type} {b:τ→Option (Bd ρ σ τ)} (I:Nat→τ→Prop) (E:Ex ρ σ→Prop)
 (h:∀ n s,I n s→(∃ e,b s=some (.out e)∧E e)∨(∃ m s',n=m+1∧b s=some (.next s')∧I m s')):∀ (M n:Nat) (s:τ),I n s→n< M→∃ e,rounds b M s=some e∧E e:=by
 intro M
 induction M with
 |zero=>intro n s _ h;exact absurd h (Nat.not_lt_zero _)
 |succ M ih=>
  intro n s hI hM
  rcases h n s hI with ⟨e,h1,h2⟩|⟨m,s',rfl,h1,h2⟩
  ·exact ⟨e,rounds_out h1,h2⟩
  ·obtain ⟨e,g1,g2⟩:=ih m s' h2 (by omega)
   exact ⟨e,(rounds_next h1).trans g1,g2⟩
theorem there_some (N:Nat) (t:Tk) (i:Int):∃ b,Qcc.f N t i=some b:=by
 unfold Qcc.f
 split
 ·exact ⟨_,rfl⟩
 ·split<;>exact ⟨_,rfl⟩
theorem pansS {N:Nat} {code:List Int} (hc:∀ x∈code,0≤x∧x≤255) (hl:code.length≤1000000) (hN:40< N) (t:Tk):∃ w s,Qa7.f N (zeroS code) t=some (w,s):=by
 have h0:SrcOk (zeroS code) 0:=⟨hc,Int.le_refl _,Int.le_refl _,by decide,hl⟩
 obtain ⟨e,e1,⟨a,d,w,sum,rfl,hs⟩⟩:=rounds_term (b:=fun s:Int×Int×We×Int×Int=>Qa7.b0 N t (zeroS code) s.1 s.2.1 s.2.2.1 s.2.2.2.1 s.2.2.2.2)
  (fun n s=>∃ i:Nat,i+n=14∧s.2.2.2.2=(i:Int)∧SrcOk ⟨code,s.1,s.2.1⟩ (i:Int)) (fun e=>∃ a d w sum,e= .go (a,d,w,sum)∧SrcOk ⟨code,a,d⟩ 14) (by
  rintro n ⟨a,d,w,sum,i'⟩ ⟨i,hi,rfl,hs⟩
  simp only at hs
  dsimp only
  unfold Qa7.b0
  by_cases c:i< 14
  ·right
   obtain ⟨n,rfl⟩:∃ m,n=m+1:=⟨n - 1,by omega⟩
   have wi:i64w ((i:Int)+1)=((i+1:Nat):Int):=by rw [i64w_id (by omega) (by omega)];rfl
   obtain ⟨bt,ht⟩:=there_some N t (i:Int)
   rw [if_pos (by omega),ht,Option.bind_some]
   cases bt with
   |true=>
    obtain ⟨x,a',d',e',_,_,h'⟩:=pick_any (N:=N) hs (by omega) (n:=3) (by decide)
    have e'':Qbg.f N (⟨(zeroS code).Qbh,a,d⟩:Src) 3=some (x,⟨code,a',d'⟩):=e'
    rw [if_pos rfl,e'',Option.bind_some,if_pos ⟨by omega,by omega⟩,if_pos ⟨by omega,by omega⟩]
    unfold Qa7.j5
    rw [wi]
    exact ⟨n,_,rfl,rfl,i+1,by omega,rfl,h'⟩
   |false=>
    rw [if_neg Bool.false_ne_true]
    unfold Qa7.j5
    rw [wi]
    obtain ⟨g1,g2,g3,g4,g5⟩:=hs
    exact ⟨n,_,rfl,rfl,i+1,by omega,rfl,⟨g1,g2,by simp only at g3 ⊢;omega,by omega,g5⟩⟩
  ·left
   rw [if_neg (by omega)]
   obtain rfl:i=14:=by omega
   exact ⟨_,rfl,_,_,_,_,rfl,hs⟩) N 14 (0,0,Ar.rep 14 0,0,0) ⟨0,by omega,rfl,h0⟩ (by omega)
 have e1':rounds (fun s:Int×Int×We×Int×Int=>Qa7.b0 N t (zeroS code) s.1 s.2.1 s.2.2.1 s.2.2.2.1 s.2.2.2.2) N ((zeroS code).Qbp,(zeroS code).Qbf,Ar.rep 14 0,0,0)=some (.go (a,d,w,sum)):=e1
 unfold Qa7.f
 rw [e1']
 show ∃ w' s,Qa7.a0 N (zeroS code) a d w sum=some (w',s)
 obtain ⟨e,e2,w2,rfl⟩:=rounds_term (b:=fun s:We×Int×Int=>Qa7.b2 N s.1 s.2.1 s.2.2) (fun n s=>∃ i:Nat,i+n=14∧s.2.2=(i:Int)) (fun e=>∃ w,e= .go w) (by
  rintro n ⟨w,sum,i'⟩ ⟨i,hi,rfl⟩
  dsimp only
  unfold Qa7.b2
  by_cases c:i< 14
  ·rw [if_pos (by omega)]
   by_cases c2:sum=0
   ·left
    rw [if_pos c2]
    exact ⟨_,rfl,_,rfl⟩
   ·right
    obtain ⟨n,rfl⟩:∃ m,n=m+1:=⟨n - 1,by omega⟩
    have wi:i64w ((i:Int)+1)=((i+1:Nat):Int):=by rw [i64w_id (by omega) (by omega)];rfl
    have g:(0:Int)≤(i:Int)∧(i:Int)< 14:=by omega
    rw [if_neg c2,if_pos g,if_pos g,if_pos g]
    unfold Qa7.j4
    rw [wi]
    split
    ·exact ⟨n,_,rfl,rfl,i+1,by omega,rfl⟩
    ·exact ⟨n,_,rfl,rfl,i+1,by omega,rfl⟩
  ·left
   rw [if_neg (by omega)]
   exact ⟨_,rfl,_,rfl⟩) N 14 (w,sum,0) ⟨0,by omega,rfl⟩ (by omega)
 unfold Qa7.a0
 rw [e2]
 show ∃ w' s,Qa7.a2 N (zeroS code) a d w2=some (w',s)
 unfold Qa7.a2
 obtain ⟨x1,a1,d1,e3,h1⟩:=one_any (N:=N) hs (by decide) (n:=20) (by decide)
 have e3':QbO.f N (⟨(zeroS code).Qbh,a,d⟩:Src) 20=some (x1,⟨code,a1,d1⟩):=e3
 rw [e3',Option.bind_some]
 dsimp only
 cases x1 with
 |false=>rw [if_neg Bool.false_ne_true];exact ⟨_,_,rfl⟩
 |true=>
  obtain ⟨x2,a2,d2,e4,r2,q2,h2⟩:=pick_any (N:=N) h1 (by decide) (n:=14) (by decide)
  have e4':Qbg.f N (⟨(zeroS code).Qbh,a1,d1⟩:Src) 14=some (x2,⟨code,a2,d2⟩):=e4
  obtain ⟨x3,a3,d3,e5,r3,q3,h3⟩:=pick_any (N:=N) h2 (by decide) (n:=4) (by decide)
  have e5':Qbg.f N (⟨(zeroS code).Qbh,a2,d2⟩:Src) ((([(-2),2,1,(-1)]:List Int).length:Nat):Int)=some (x3,⟨code,a3,d3⟩):=e5
  rw [if_pos rfl,e4',Option.bind_some]
  dsimp only
  unfold QbX.f
  dsimp only
  rw [e5',Option.bind_some,if_pos ⟨r3,q3⟩,Option.bind_some,if_pos ⟨r2,q2⟩]
  exact ⟨_,_,rfl⟩
theorem zero_tab:∀ c:Nat,c< 10→∀ k:Nat,k< 3→∀ n g:Bool,Qbb.f 41 (⟨(c:Int),(k:Int),n,g⟩:Tk) (Ar.rep 14 0)=some true:=by decide+kernel
theorem zero_ok {N:Nat} (hN:40< N) {t:Tk} (h:DrT t):Qbb.f N t (Ar.rep 14 0)=some true:=by
 have h0:=h
 obtain ⟨⟨h1,h2⟩,h3,h4⟩:=h
 obtain ⟨c,k,n,g⟩:=t
 simp only at h1 h2 h3 h4
 have:=zero_tab c.toNat (by omega) k.toNat (by omega) n g
 rw [Int.toNat_of_nonneg (by omega),Int.toNat_of_nonneg h3] at this
 unfold Qbb.f at this ⊢
 obtain ⟨x,hx,hf⟩:=bind_get this
 rw [show (fun s:Int×Int=>Qbb.b0 N (Ar.rep 14 0) (⟨c,k,n,g⟩:Tk) s.1 s.2)=(fun s=>Qbb.b0 41 (Ar.rep 14 0) (⟨c,k,n,g⟩:Tk) s.1 s.2) from rfl,rounds_mono hx (by omega)]
 exact hf
theorem drawnW {N:Nat} {code:List Int} (hc:∀ x∈code,0≤x∧x≤255) (hl:code.length≤1000000) (hN:40< N) {t:Tk} (h:DrT t):∃ w,QcE.f N code t=some w∧wv N t w=true:=by
 obtain ⟨w,s,e⟩:=pansS (N:=N) hc hl hN t
 have hv:=wv_spec hN h.inT h.okT w
 have e':Qa7.f N (⟨code,0,0⟩:Src) t=some (w,s):=e
 simp only [QcE.f,Qcm.f,Option.bind_some,e',hv.1]
 by_cases c:wv N t w=true
 ·rw [if_pos c]
  exact ⟨w,rfl,c⟩
 ·rw [if_neg c]
  refine ⟨_,rfl,?_⟩
  unfold wv
  rw [zero_ok hN h]
  rfl
end Go.Proofs.YtgpdpedpmhonkaaX
namespace Go.Proofs.YtgpdpedpmhonkaaX
open Go
set_option linter.unusedVariables false
set_option linter.unusedSimpArgs false
theorem rounds_hold {ρ σ τ:Type} {b:τ→Option (Bd ρ σ τ)} (I:τ→Prop) (Q:Ex ρ σ→Prop)
 (h1:∀ s s',I s→b s=some (.next s')→I s') (h2:∀ s e,I s→b s=some (.out e)→Q e):∀ (n:Nat) (s:τ) (e:Ex ρ σ),I s→rounds b n s=some e→Q e:=by
 intro n
 induction n with
 |zero=>intro s e _ h;exact (rounds_zero h).elim
 |succ n ih=>
  intro s e hI h
  obtain ⟨x,hx,hm⟩:=rounds_succ h
  cases x with
  |next s'=>exact ih s' e (h1 s s' hI hx) hm
  |out e'=>exact hm▸h2 s e' hI hx
def plT (t:Tk):Nat:=t.QaF.toNat+(if t.QbI=true then 1 else 0)
theorem places_eq (N:Nat) {t:Tk} (h:DrT t):QbS.f N t=some (plT t:Int)∧plT t≤10:=by
 obtain ⟨⟨h1,h2⟩,_⟩:=h
 unfold QbS.f plT
 rw [i64w_id (x:=t.QaF) (by omega) (by omega),i64w_id (x:=t.QaF+1) (by omega) (by omega)]
 by_cases g:t.QbI=true
 ·rw [if_pos g,if_pos g]
  exact ⟨by congr 1;omega,by omega⟩
 ·rw [if_neg g,if_neg g]
  exact ⟨by congr 1;omega,by omega⟩
theorem far_zero {N:Nat} (hN:40< N) {t:Tk} (h:DrT t) {w:We} (hv:wv N t w=true):∀ j:Nat,plT t≤j→j< 14→w.get (j:Int) 0=0:=by
 have hw:=(wv_spec hN h.inT h.okT w).2.1
 rw [hv] at hw
 obtain ⟨hp,_⟩:=places_eq N h
 unfold QaW.f at hw
 obtain ⟨b,hb,hw⟩:=bind_get hw
 rw [okT_impl N h.inT,h.okT] at hb
 obtain rfl:=QsJ hb
 rw [if_pos rfl] at hw
 obtain ⟨e,he,hf⟩:=bind_get hw
 have key:=rounds_hold (b:=fun s:Int×Int=>QaW.b0 N w t s.1 s.2) (fun s=>∃ i:Nat,s.2=(i:Int)∧i≤14∧∀ j:Nat,plT t≤j→j< i→w.get (j:Int) 0=0) (fun e=>e= .ret false∨∀ j:Nat,plT t≤j→j< 14→w.get (j:Int) 0=0) (by
  rintro ⟨x,i'⟩ s' ⟨i,rfl,hi,hz⟩ hb
  dsimp only at hb
  unfold QaW.b0 at hb
  by_cases c:i< 14
  ·rw [if_pos (by omega),if_pos ⟨by omega,by omega⟩] at hb
   have fin:∀ bb,QaW.j2 N x w (i:Int) bb=some (.next s')→(plT t≤i→w.get (i:Int) 0=0)→∃ i:Nat,s'.2=(i:Int)∧i≤14∧∀ j:Nat,plT t≤j→j< i→w.get (j:Int) 0=0:=by
    intro bb hj hq
    unfold QaW.j2 at hj
    cases hj
    refine ⟨i+1,by show i64w ((i:Int)+1)=_;rw [i64w_id (by omega) (by omega)];rfl,by omega,fun j h1 h2=>?_⟩
    by_cases e:j=i
    ·subst e;exact hq h1
    ·exact hz j h1 (by omega)
   split at hb
   ·cases hb
   ·split at hb
    ·cases hb
    ·split at hb
     ·rename_i c3
      exact fin _ hb fun _=>c3
     ·rw [hp,Option.bind_some] at hb
      split at hb
      ·cases hb
      ·exact fin _ hb fun hq=>absurd hq (by omega)
  ·rw [if_neg (by omega)] at hb
   cases hb) (by
  rintro ⟨x,i'⟩ e ⟨i,rfl,hi,hz⟩ hb
  dsimp only at hb
  unfold QaW.b0 at hb
  by_cases c:i< 14
  ·rw [if_pos (by omega),if_pos ⟨by omega,by omega⟩] at hb
   split at hb
   ·cases hb;exact .inl rfl
   ·split at hb
    ·cases hb;exact .inl rfl
    ·split at hb
     ·unfold QaW.j2 at hb;cases hb
     ·rw [hp,Option.bind_some] at hb
      split at hb
      ·cases hb;exact .inl rfl
      ·unfold QaW.j2 at hb;cases hb
  ·obtain rfl:i=14:=by omega
   exact .inr hz) N (0,0) e ⟨0,rfl,by omega,fun j _ h=>absurd h (Nat.not_lt_zero _)⟩ he
 rcases key with rfl|hz
 ·cases hf
 ·exact hz
def sg (x:Int):Int:=if x= -1 then 45 else if x=0 then 48 else 43
theorem three {x:Int} (h: -1≤x∧x≤1):x= -1∨x=0∨x=1:=by omega
theorem sg_bt {x:Int} (h: -1≤x∧x≤1):btS (⟨#[45,48,43]⟩:ByteArray) (x+1)=sg x:=by
 rcases three h with rfl|rfl|rfl<;>decide
theorem sg_byte {x:Int} (h: -1≤x∧x≤1):(((UInt8.ofNat (sg x).toNat).toNat:Nat):Int)=sg x:=by
 rcases three h with rfl|rfl|rfl<;>decide
theorem idx_sg (N:Nat) {x:Int} (h: -1≤x∧x≤1):strings_IndexByte.f N (⟨#[45,48,43]⟩:ByteArray) (sg x)=some (x+1):=by
 unfold strings_IndexByte.f
 rcases three h with rfl|rfl|rfl<;>rfl
theorem signs_eq {N:Nat} (hN:40< N) (l:List Int) (hl:l.length≤14) (hs:∀ x∈l,-1≤x∧x≤1):QbV.f N l=some (bsOf (l.map sg),true):=by
 have main:∀ (M i:Nat),i≤l.length→l.length - i< M→rounds (fun s=>QbV.b0 N l s.1 s.2) M ((l.take i).map sg,(i:Int))=some (.go (l.map sg)):=by
  intro M
  induction M with
  |zero=>intro i _ h;exact absurd h (Nat.not_lt_zero _)
  |succ M ih=>
   intro i hi hM
   by_cases c:i< l.length
   ·have hx:=hs l[i] (List.getElem_mem c)
    have e:QbV.b0 N l ((l.take i).map sg) (i:Int)=some (.next ((l.take (i+1)).map sg,((i+1:Nat):Int))):=by
     unfold QbV.b0
     rw [if_pos (by omega),if_pos ⟨by omega,by omega⟩,rdL_nat c,if_neg (by omega),if_neg (by omega),i8w_id (x:=l[i]+1) (by omega) (by omega),if_pos ⟨by omega,(show l[i]+1< 3 by omega)⟩,if_pos (by simp;omega),sg_bt hx,i64w_id (x:=(i:Int)+1) (by omega) (by omega),List.take_succ_eq_append_getElem c,List.map_append]
     rfl
    exact (rounds_next (n:=M) (b:=fun s:List Int×Int=>QbV.b0 N l s.1 s.2) e).trans (ih (i+1) c (by omega))
   ·obtain rfl:i=l.length:=by omega
    refine rounds_out ?_
    dsimp only
    unfold QbV.b0
    rw [if_neg (by omega),List.take_length]
 have q:=main N 0 (Nat.zero_le _) (by omega)
 unfold QbV.f
 rw [show (([]:List Int),(0:Int))=((l.take 0).map sg,((0:Nat):Int)) from rfl,q]
 rfl
theorem bsOf_size (l:List Int):(bsOf l).size=l.length:=by simp [bsOf,ByteArray.size]
theorem bsOf_at {l:List Int} {i:Nat} (hi:i< l.length) (hb:(((UInt8.ofNat (l[i]).toNat).toNat:Nat):Int)=l[i]):btS (bsOf l) (i:Int)=l[i]:=by
 unfold btS bsOf
 rw [Int.toNat_natCast]
 simp only [List.getD_eq_getElem?_getD,List.getElem?_map,List.getElem?_eq_getElem hi,Option.map_some,Option.getD_some]
 exact hb
theorem fromSigns_eq {N:Nat} (hN:40< N) (l:List Int) (hl:l.length≤14) (hs:∀ x∈l,-1≤x∧x≤1):QbB.f N (bsOf (l.map sg))=some (l,true):=by
 have hsz:((bsOf (l.map sg)).size:Int)=(l.length:Int):=by rw [bsOf_size,List.length_map]
 have main:∀ (M i:Nat),i≤l.length→l.length - i< M→rounds (fun s=>QbB.b0 N (bsOf (l.map sg)) s.1 s.2) M (l.take i,(i:Int))=some (.go l):=by
  intro M
  induction M with
  |zero=>intro i _ h;exact absurd h (Nat.not_lt_zero _)
  |succ M ih=>
   intro i hi hM
   by_cases c:i< l.length
   ·have hx:=hs l[i] (List.getElem_mem c)
    have hb:btS (bsOf (l.map sg)) (i:Int)=sg l[i]:=by
     rw [bsOf_at (by rw [List.length_map];exact c) (by rw [List.getElem_map];exact sg_byte hx),List.getElem_map]
    have e:QbB.b0 N (bsOf (l.map sg)) (l.take i) (i:Int)=some (.next (l.take (i+1),((i+1:Nat):Int))):=by
     unfold QbB.b0
     rw [hsz,if_pos (by omega),if_pos ⟨by omega,by omega⟩,hb,idx_sg N hx,Option.bind_some,if_neg (by omega),if_pos (by simp;omega),i64w_id (x:=(i:Int)+1) (by omega) (by omega),i64w_id (x:=l[i]+1 - 1) (by omega) (by omega),i8w_id (by omega) (by omega),List.take_succ_eq_append_getElem c,Int.add_sub_cancel]
     rfl
    exact (rounds_next (n:=M) (b:=fun s:List Int×Int=>QbB.b0 N (bsOf (l.map sg)) s.1 s.2) e).trans (ih (i+1) c (by omega))
   ·obtain rfl:i=l.length:=by omega
    refine rounds_out ?_
    dsimp only
    unfold QbB.b0
    rw [hsz,if_neg (by omega),List.take_length]
 have q:=main N 0 (Nat.zero_le _) (by omega)
 unfold QbB.f
 rw [show (([]:List Int),(0:Int))=(l.take 0,((0:Nat):Int)) from rfl,q]
 rfl
theorem cpA_eq {w:We} {p:Nat} (hp:p≤14) (hz:∀ j:Nat,p≤j→j< 14→w.get (j:Int) 0=0):cpA (Ar.rep 14 0) (w.l.take p)=w:=by
 refine Ar.ext' ?_
 have hw:=w.h
 unfold cpA cpL cpN Ar.rep
 simp only [Int.toNat_zero,List.take_zero,List.nil_append,List.length_replicate,Int.toNat_natCast,List.length_take,Nat.sub_zero,Nat.zero_add]
 rw [show min 14 (min p w.l.length)=p by omega,List.take_take,Nat.min_self,List.drop_replicate]
 refine List.ext_getElem (by simp;omega) fun i h1 h2=>?_
 by_cases c:i< p
 ·rw [List.getElem_append_left (by simp;omega),List.getElem_take]
 ·rw [List.getElem_append_right (by simp;omega),List.getElem_replicate]
  have:=hz i (by omega) (by omega)
  unfold Ar.get at this
  rw [Int.toNat_natCast,List.getD_eq_getElem?_getD,List.getElem?_eq_getElem h2,Option.getD_some] at this
  exact this.symm
theorem get_at {w:We} {i:Nat} (hi:i< w.l.length):w.get (i:Int) 0=w.l[i]:=by
 unfold Ar.get
 rw [Int.toNat_natCast,List.getD_eq_getElem?_getD,List.getElem?_eq_getElem hi,Option.getD_some]
theorem text_back {N:Nat} (hN:40< N) {t:Tk} (h:DrT t) {w:We} (hv:wv N t w=true):∃ s,Qca.f N t w=some s∧Qb9.f N t s=some (w,0):=by
 have hw:=wv_spec hN h.inT h.okT w
 rw [hv] at hw
 obtain ⟨hp,hp10⟩:=places_eq N h
 have hlen:=w.h
 have hl:(w.l.take (plT t)).length=plT t:=by rw [List.length_take];omega
 have hs:∀ x∈w.l.take (plT t),-1≤x∧x≤1:=by
  intro x hx
  obtain ⟨i,hi,rfl⟩:=List.getElem_of_mem (List.mem_of_mem_take hx)
  have:=hw.2.2 rfl i (by omega)
  unfold side at this
  rw [get_at hi] at this
  exact this
 have et:((w.l.drop ((0:Int)).toNat).take ((plT t:Int).toNat - ((0:Int)).toNat))=w.l.take (plT t):=by simp
 refine ⟨bsOf ((w.l.take (plT t)).map sg),?_,?_⟩
 ·unfold Qca.f
  rw [hw.2.1,Option.bind_some,if_pos rfl,hp,Option.bind_some,if_pos ⟨by omega,by omega⟩,et,signs_eq hN _ (by omega) hs]
  rfl
 ·unfold Qb9.f
  rw [okT_impl N h.inT,h.okT,Option.bind_some,if_pos rfl,fromSigns_eq hN _ (by omega) hs,Option.bind_some,if_pos rfl,hp,Option.bind_some]
  dsimp only
  rw [hl,if_pos rfl,cpA_eq (by omega) (far_zero hN h hv),hw.2.1,Option.bind_some,if_pos rfl]
end Go.Proofs.YtgpdpedpmhonkaaX
namespace Go.Proofs.YtgpdpedpmhonkaaX
open Go
set_option linter.unusedVariables false
set_option linter.unusedSimpArgs false
def givenC (t:Tk) (cs:List Cs):Int:=if (cs.any fun c=>!has (csL t) c)=true then 6 else if cs.length≤27 then 0 else 2
theorem given_spec {N:Nat} {t:Tk} (hk:okT t=true) {cs:List Cs} (hN:cs.length+40< N) (hl:cs.length≤1048576):QbK.f N t cs=some (givenC t cs):=by
 obtain ⟨e,he,hq⟩:=rounds_any (b:=fun s=>QbK.b0 N cs t s) cs (fun c=>!has (csL t) c) (fun _=>(6:Int)) (N:=N) (by omega) (by
  intro i hi
  have g1:(i:Int)< cs.length:=by omega
  have g2:(0:Int)≤i:=by omega
  obtain ⟨r,h1,h2⟩:=find_spec (N:=N) (by omega) hk cs[i]
  simp only [QbK.b0,g1,g2,and_self,if_true,rdL_nat hi,h1,Option.bind_some,i64w_succ hi (show cs.length≤9223372036854775807 by omega)]
  rw [← h2]
  simp only [decide_eq_true_eq]) (by
  simp only [QbK.b0]
  rw [if_neg (by omega)])
 simp only [QbK.f,he,givenC]
 by_cases c4:(cs.any fun c=>!has (csL t) c)=true
 ·rw [if_pos c4] at hq
  obtain ⟨i,rfl⟩:=hq
  rw [if_pos c4];rfl
 ·rw [if_neg c4] at hq
  subst hq
  rw [if_neg c4]
  simp only [Option.bind_some,Ex.fin,QbK.a0]
  by_cases c5:cs.length≤27
  ·rw [if_neg (by omega),if_pos c5]
  ·rw [if_pos (by omega),if_neg c5]
theorem code_impl {N:Nat} {t:Tk} (ht:InT t) {ws:List We} {cs:List Cs} (hN:cs.length+ws.length+40< N) (hl:cs.length≤1048576) (hw:ws.length≤1048576):
 Qb6.f N t ws cs=some (if okT t=true∧ws.all (wv N t)=true then givenC t cs else 1):=by
 simp only [Qb6.f,okT_impl N ht,Option.bind_some]
 by_cases hk:okT t=true
 ·rw [if_pos hk]
  obtain ⟨e,he,hq⟩:=rounds_any (b:=fun s=>QaB.b0 N ws t s) ws (fun w=>!wv N t w) (fun i=>(i:Int)) (N:=N) (by omega) (by
   intro i hi
   have g1:(i:Int)< ws.length:=by omega
   have g2:(0:Int)≤i:=by omega
   simp only [QaB.b0,Qcj.f,g1,g2,and_self,if_true,rdL_nat hi,(wv_spec (N:=N) (by omega) ht hk ws[i]).2.1,Option.bind_some,i64w_succ hi (show ws.length≤9223372036854775807 by omega)]) (by
   simp only [QaB.b0]
   rw [if_neg (by omega)])
  have ha:ws.all (wv N t)=!(ws.any fun w=>!wv N t w):=by rw [List.all_eq_not_any_not]
  simp only [Qa8.f,QaB.f,he]
  by_cases c4:(ws.any fun w=>!wv N t w)=true
  ·rw [if_pos c4] at hq
   obtain ⟨i,rfl⟩:=hq
   rw [ha,c4]
   simp only [Option.bind_some,Ex.fin,decide_eq_true (show (i:Int)≥0 by omega),if_true,Bool.not_true,Bool.false_eq_true,and_false,if_false]
  ·rw [if_neg c4] at hq
   subst hq
   rw [Bool.not_eq_true] at c4
   rw [ha,c4]
   obtain ⟨e,he,hq⟩:=rounds_any (b:=fun s=>QaD.b0 N cs (csL t) s) cs (fun c=>!has (csL t) c) (fun i=>(i:Int)) (N:=N) (by omega) (by
    intro i hi
    have g1:(i:Int)< cs.length:=by omega
    have g2:(0:Int)≤i:=by omega
    simp only [QaD.b0,Qck.f,g1,g2,and_self,if_true,rdL_nat hi,contains_impl (cases_at hk).2.2.1 (show 40< N by omega),Option.bind_some,i64w_succ hi (show cs.length≤9223372036854775807 by omega)]) (by
    simp only [QaD.b0]
    rw [if_neg (by omega)])
   simp only [Option.bind_some,Ex.fin,QaB.a0,show decide ((-1:Int)≥0)=false by decide,Bool.false_eq_true,if_false,cases_impl (show 40< N by omega) hk,Qbe.f,QaD.f,he,hk,Bool.not_false,and_self,if_true,givenC]
   by_cases c5:(cs.any fun c=>!has (csL t) c)=true
   ·rw [if_pos c5] at hq
    obtain ⟨i,rfl⟩:=hq
    rw [if_pos c5]
    simp only [Option.bind_some,decide_eq_true (show (i:Int)≥0 by omega),if_true]
   ·rw [if_neg c5] at hq
    subst hq
    rw [if_neg c5]
    simp only [Option.bind_some,QaD.a0,show decide ((-1:Int)≥0)=false by decide,Bool.false_eq_true,if_false,Qct.f]
    by_cases c6:cs.length≤27
    ·rw [if_pos (by simpa using (by omega:(cs.length:Int)≤27)),if_pos c6];rfl
    ·rw [if_neg (by simpa using (by omega:¬ (cs.length:Int)≤27)),if_neg c6];rfl
 ·rw [if_neg hk]
  simp [hk]
theorem split_eq (N:Nat) (w:We) (cs:List Cs):Qby.f N w cs=Qbx.f N w cs:=by
 have hr:∀ c,Qcy.f N w c=Qcb.f N w c:=fun c=>rfl
 have e:(fun s:List Cs×List Cs×List Cs×Int=>Qby.b0 N cs w s.1 s.2.1 s.2.2.1 s.2.2.2)=(fun s=>Qbx.b0 N cs w s.1 s.2.1 s.2.2.1 s.2.2.2):=by
  funext s
  obtain ⟨x,y,z,i⟩:=s
  simp only [Qby.b0,Qbx.b0,hr]
  by_cases g:(0:Int)≤i∧i< (cs.length:Int)
  ·simp only [if_pos g];rfl
  ·simp only [if_neg g]
 unfold Qby.f Qbx.f
 rw [e];rfl
end Go.Proofs.YtgpdpedpmhonkaaX
namespace Go.Proofs.YtgpdpedpmhonkaaX.W
open Go
set_option linter.unusedVariables false
set_option linter.unusedSimpArgs false
theorem idb {x:Int} (h: -1000000≤x∧x≤1000000):i64w x=x:=i64w_id (by omega) (by omega)
structure Kn where
 o:Nat
 h:Nat
 l:Nat
 n:Bool
def Kn.c (x:Kn):Nat:=2*x.o+x.h+x.l+(if x.n=true then 1 else 0)
structure Mv where
 a:Nat
 b:Nat
 c:Nat
 d:Nat
 e:Nat
 f:Nat
def aftL (m:Mv):Kn:=⟨0,m.a+m.c,m.b+m.f,false⟩
def aftR (m:Mv):Kn:=⟨0,m.b+m.d,m.a+m.e,false⟩
def aftM (x:Kn) (m:Mv):Kn:=⟨x.o - m.a - m.b,x.h - m.c - m.d,x.l - m.e - m.f,x.n⟩
def may (T:Nat) (x:Kn) (m:Mv):Prop:=0< m.a+m.b+m.c+m.d+m.e+m.f∧m.a+m.c+m.e+(x.o+x.h+x.l)≤T+(m.b+m.d+m.f)∧m.b+m.d+m.f+(x.o+x.h+x.l)≤T+(m.a+m.c+m.e)
def fits (x:Kn) (m:Mv):Prop:=m.a+m.b≤x.o∧m.c+m.d≤x.h∧m.e+m.f≤x.l
def canP (T:Nat):Nat→Kn→Prop
 |0,x=>x.c≤1
 |k+1,x=>x.c≤1∨x.c≤3^(k+1)∧∃ m,fits x m∧may T x m∧canP T k (aftL m)∧canP T k (aftM x m)∧canP T k (aftR m)
def doesP (T k:Nat) (x:Kn) (m:Mv):Prop:=may T x m∧canP T k (aftL m)∧canP T k (aftM x m)∧canP T k (aftR m)
noncomputable instance decCan (T k:Nat) (x:Kn):Decidable (canP T k x):=Classical.propDecidable _
noncomputable def canB (T k:Nat) (x:Kn):Bool:=decide (canP T k x)
theorem canB_t {T k:Nat} {x:Kn} (h:canP T k x):canB T k x=true:=by unfold canB;exact decide_eq_true h
theorem canB_f {T k:Nat} {x:Kn} (h:¬ canP T k x):canB T k x=false:=by unfold canB;exact decide_eq_false h
theorem of_canB {T k:Nat} {x:Kn} (h:canB T k x=true):canP T k x:=by unfold canB at h;exact of_decide_eq_true h
theorem of_canB_f {T k:Nat} {x:Kn} (h:canB T k x=false):¬ canP T k x:=by unfold canB at h;exact of_decide_eq_false h
theorem canP_le {T k:Nat} {x:Kn} (h:canP T k x):x.c≤3^k:=by
 cases k with
 |zero=>exact h
 |succ k=>
  rcases h with h|h
  ·have:=Nat.one_le_two_pow (n:=0)
   have:1≤3^(k+1):=Nat.one_le_pow _ _ (by omega)
   omega
  ·exact h.1
theorem canP_succ {T:Nat}:∀ {k:Nat} {x:Kn},canP T k x→canP T (k+1) x
 |0,x,h=> .inl h
 |k+1,x,h=>by
  rcases h with h|⟨h,m,f,y,a,b,c⟩
  ·exact .inl h
  ·refine .inr ⟨?_,m,f,y,canP_succ a,canP_succ b,canP_succ c⟩
   have:3^(k+1+1)=3^(k+1)*3:=Nat.pow_succ ..
   omega
theorem canP_mono {T j k:Nat} {x:Kn} (h:canP T j x) (hk:j≤k):canP T k x:=by
 induction k with
 |zero=>
  obtain rfl:j=0:=by omega
  exact h
 |succ k ih=>
  by_cases e:j=k+1
  ·subst e;exact h
  ·exact canP_succ (ih (by omega))
theorem loop_find {ρ σ τ:Type} {b:τ→Option (Bd ρ σ τ)} {n:Nat} (S:Nat→τ→Prop) (E:σ→Prop) (R:ρ→Prop) (P:Nat→Prop)
 (step:∀ i s,i< n→S i s→(∃ s',b s=some (.next s')∧S (i+1) s'∧¬ P i)∨(∃ r,b s=some (.out (.ret r))∧R r∧P i))
 (done:∀ s,S n s→∃ e,b s=some (.out (.go e))∧E e):
 ∀ (M i:Nat) (s:τ),i≤n→n - i< M→S i s→
  (∃ e,rounds b M s=some (.go e)∧E e∧∀ j,i≤j→j< n→¬ P j)∨(∃ r,rounds b M s=some (.ret r)∧R r∧∃ j,i≤j∧j< n∧P j):=by
 intro M
 induction M with
 |zero=>intro i s _ h;exact absurd h (Nat.not_lt_zero _)
 |succ M ih=>
  intro i s hi hM hS
  by_cases c:i< n
  ·rcases step i s c hS with ⟨s',e,hS',hn⟩|⟨r,e,hr,hp⟩
   ·rw [rounds_next e]
    rcases ih (i+1) s' (by omega) (by omega) hS' with ⟨e',g1,g2,g3⟩|⟨r,g1,g2,j,j1,j2,j3⟩
    ·refine .inl ⟨e',g1,g2,fun j h1 h2=>?_⟩
     by_cases ej:j=i
     ·subst ej;exact hn
     ·exact g3 j (by omega) h2
    ·exact .inr ⟨r,g1,g2,j,by omega,j2,j3⟩
   ·exact .inr ⟨r,rounds_out e,hr,i,Nat.le_refl _,c,hp⟩
  ·obtain rfl:i=n:=by omega
   obtain ⟨e,he,hE⟩:=done s hS
   exact .inl ⟨e,rounds_out he,hE,fun j h1 h2=>absurd h2 (by omega)⟩
theorem find_in {ρ σ σ' τ':Type} {o:Option (Ex ρ σ)} {a:σ→Option (Bd ρ σ' τ')} {E:σ→Prop} {R:ρ→Prop} {P:Prop} {S:τ'→Prop}
 (h:(∃ e,o=some (.go e)∧E e∧¬ P)∨(∃ r,o=some (.ret r)∧R r∧P)) (ha:∀ e,E e→∃ s',a e=some (.next s')∧S s'):
 (∃ s',o.bind (Ex.finB a)=some (.next s')∧S s'∧¬ P)∨(∃ r,o.bind (Ex.finB a)=some (.out (.ret r))∧R r∧P):=by
 rcases h with ⟨e,rfl,hE,hp⟩|⟨r,rfl,hr,hp⟩
 ·obtain ⟨s',h1,h2⟩:=ha e hE
  exact .inl ⟨s',h1,h2,hp⟩
 ·exact .inr ⟨r,rfl,hr,hp⟩
end Go.Proofs.YtgpdpedpmhonkaaX.W
namespace Go.Proofs.YtgpdpedpmhonkaaX.W
open Go
set_option linter.unusedVariables false
set_option linter.unusedSimpArgs false
abbrev KM:=List (Qad×Bool)
abbrev KQ:=Qac
abbrev FQ:=Qas
def A4 (a b c d:Int):Ar Int 4:=⟨[a,b,c,d],rfl⟩
def kq (T:Nat) (x:Kn):KQ:=⟨A4 x.o x.h x.l ((T:Int) - x.o - x.h - x.l),x.n⟩
theorem kq_inj {T:Nat} {x y:Kn} (h:kq T x=kq T y):x=y:=by
 have h1:=congrArg (fun z:KQ=>z.Qav.l) h
 have h2:=congrArg Qac.QaU h
 obtain ⟨a,b,c,d⟩:=x
 obtain ⟨a',b',c',d'⟩:=y
 simp only [kq,A4,List.cons.injEq,and_true] at h1 h2
 obtain ⟨g1,g2,g3,_⟩:=h1
 obtain rfl:a=a':=by omega
 obtain rfl:b=b':=by omega
 obtain rfl:c=c':=by omega
 subst h2
 rfl
def ok (T:Nat) (x:Kn):Prop:=x.o+x.h+x.l≤13∧x.o+x.h+x.l≤T∧T≤14
def InvM (T:Nat) (kv:KM):Prop:=∀ p∈kv,∀ (x:Kn) (q:Nat),p.1=⟨kq T x,(q:Int)⟩→p.2=canB T q x
theorem mSet_mem {kv:KM} {k:Qad} {v:Bool} {p:Qad×Bool} (h:p∈mSet kv k v):p∈kv∨p=(k,v):=by
 unfold mSet at h
 cases hq:mIdx kv k with
 |some i=>
  rw [hq] at h
  exact List.mem_or_eq_of_mem_set h
 |none=>
  rw [hq] at h
  rcases List.mem_append.1 h with h|h
  ·exact .inl h
  ·exact .inr (List.mem_singleton.1 h)
theorem InvM.set {T:Nat} {kv:KM} (h:InvM T kv) {x:Kn} {q:Nat} {v:Bool} (hv:v=canB T q x):InvM T (mSet kv ⟨kq T x,(q:Int)⟩ v):=by
 subst hv
 intro p hp y r e
 rcases mSet_mem hp with hp|rfl
 ·exact h p hp y r e
 ·have e2:=congrArg Qad.f_k e
  have e3:=congrArg Qad.Qao e
  obtain rfl:=kq_inj e2
  have e4:(q:Int)=(r:Int):=e3
  have:q=r:=by omega
  subst this;rfl
theorem InvM.get {T:Nat} {kv:KM} (h:InvM T kv) {x:Kn} {q:Nat} (hs:(mIdx kv (⟨kq T x,(q:Int)⟩:Qad)).isSome=true):mGet kv (⟨kq T x,(q:Int)⟩:Qad) false=canB T q x:=by
 cases hq:mIdx kv (⟨kq T x,(q:Int)⟩:Qad) with
 |none=>rw [hq] at hs;cases hs
 |some i=>
  obtain ⟨hi,he⟩:=List.findIdx?_eq_some_iff_getElem.1 hq
  unfold mGet
  rw [hq]
  simp only [List.getElem?_eq_getElem hi,Option.map_some,Option.getD_some]
  exact h _ (List.getElem_mem hi) x q (of_decide_eq_true he.1).symm
theorem InvM.new {kv:KM} {x:Qad} (hs:¬ (mIdx kv x).isSome=true):mGet kv x false=false:=by
 cases hq:mIdx kv x with
 |none=>unfold mGet;rw [hq]
 |some i=>rw [hq] at hs;exact absurd rfl hs
theorem invM_nil (T:Nat):InvM T []:=fun p hp=>by cases hp
theorem cases_impl {N T:Nat} {x:Kn} (h:ok T x):Qb4.f N (kq T x)=some (x.c:Int):=by
 obtain ⟨h1,h2,h3⟩:=h
 show (if x.n=true then some (i64w ((i64w ((i64w ((i64w (2*(x.o:Int)))+(x.h:Int)))+(x.l:Int)))+1)) else some (i64w ((i64w ((i64w (2*(x.o:Int)))+(x.h:Int)))+(x.l:Int))))=_
 rw [idb (x:=2*(x.o:Int)) (by omega),idb (x:=2*(x.o:Int)+x.h) (by omega),idb (x:=2*(x.o:Int)+x.h+x.l) (by omega),idb (by omega)]
 unfold Kn.c
 by_cases c:x.n=true
 ·rw [if_pos c,if_pos c];congr 1
 ·rw [if_neg c,if_neg c];congr 1
def fq (m:Mv) (g h:Int):FQ:=⟨A4 m.a m.c m.e g,A4 m.b m.d m.f h⟩
theorem kq_mk {T:Nat} {x:Kn} {a b c d:Int} {n:Bool} (h0:a=x.o) (h1:b=x.h) (h2:c=x.l) (h3:d=(T:Int) - x.o - x.h - x.l) (h4:n=x.n):(⟨A4 a b c d,n⟩:KQ)=kq T x:=by
 subst h0 h1 h2 h3 h4;rfl
theorem behind_j0 {N T:Nat} {x y:Kn} {z:Int} {n:Bool} (h:ok T x) (hy:y.o+y.h+y.l≤13) (hn:n=y.n):QaM.j0 N (kq T x) ⟨A4 y.o y.h y.l z,n⟩=some (kq T y):=by
 obtain ⟨h1,h2,h3⟩:=h
 show some (⟨A4 y.o y.h y.l (i64w ((i64w ((i64w ((i64w ((i64w ((i64w ((x.o:Int)+(x.h:Int)))+(x.l:Int)))+((T:Int) - x.o - x.h - x.l))) - (y.o:Int))) - (y.h:Int))) - (y.l:Int))),n⟩:KQ)=_
 rw [idb (x:=(x.o:Int)+x.h) (by omega),idb (x:=(x.o:Int)+x.h+x.l) (by omega),idb (x:=(x.o:Int)+x.h+x.l+((T:Int) - x.o - x.h - x.l)) (by omega),idb (x:=(x.o:Int)+x.h+x.l+((T:Int) - x.o - x.h - x.l) - y.o) (by omega),idb (x:=(x.o:Int)+x.h+x.l+((T:Int) - x.o - x.h - x.l) - y.o - y.h) (by omega),idb (by omega)]
 rw [kq_mk (T:=T) (x:=y) rfl rfl rfl (by omega) hn]
theorem behind_b1 {N:Nat} {k:KQ} {f:FQ} {z:KQ} {i:Nat} (hi:i< 3):QaM.b1 N k f z (i:Int)=some (.next (⟨z.Qav.set (i:Int) (i64w ((i64w ((k.Qav.get (i:Int) 0) - (f.Qao.get (i:Int) 0))) - (f.Qaj.get (i:Int) 0))),z.QaU⟩,((i+1:Nat):Int))):=by
 have g:(0:Int)≤(i:Int)∧(i:Int)< 4:=by omega
 unfold QaM.b1
 rw [if_pos (by omega),if_pos g,if_pos g,if_pos g,if_pos g,idb (x:=(i:Int)+1) (by omega)]
 rfl
theorem behind_L {N T:Nat} {x:Kn} {m:Mv} {g h:Int} (hx:ok T x) (hm:fits x m):QaM.f N (kq T x) (fq m g h) (-1)=some (kq T (aftL m)):=by
 obtain ⟨h1,h2,h3⟩:=hx
 obtain ⟨m1,m2,m3⟩:=hm
 show QaM.j0 N (kq T x) (⟨A4 0 (i64w ((m.a:Int)+(m.c:Int))) (i64w ((m.b:Int)+(m.f:Int))) 0,false⟩:KQ)=_
 rw [idb (x:=(m.a:Int)+m.c) (by omega),idb (x:=(m.b:Int)+m.f) (by omega)]
 exact behind_j0 (y:=aftL m) ⟨h1,h2,h3⟩ (by simp only [aftL];omega) rfl
theorem behind_R {N T:Nat} {x:Kn} {m:Mv} {g h:Int} (hx:ok T x) (hm:fits x m):QaM.f N (kq T x) (fq m g h) 1=some (kq T (aftR m)):=by
 obtain ⟨h1,h2,h3⟩:=hx
 obtain ⟨m1,m2,m3⟩:=hm
 show QaM.j0 N (kq T x) (⟨A4 0 (i64w ((m.b:Int)+(m.d:Int))) (i64w ((m.a:Int)+(m.e:Int))) 0,false⟩:KQ)=_
 rw [idb (x:=(m.b:Int)+m.d) (by omega),idb (x:=(m.a:Int)+m.e) (by omega)]
 exact behind_j0 (y:=aftR m) ⟨h1,h2,h3⟩ (by simp only [aftR];omega) rfl
theorem behind_M {N T:Nat} {x:Kn} {m:Mv} {g h:Int} (hN:5≤N) (hx:ok T x) (hm:fits x m):QaM.f N (kq T x) (fq m g h) 0=some (kq T (aftM x m)):=by
 have hx0:=hx
 obtain ⟨h1,h2,h3⟩:=hx
 obtain ⟨m1,m2,m3⟩:=hm
 obtain ⟨N,rfl⟩:∃ M,N=M+4:=⟨N - 4,by omega⟩
 have e0:=behind_b1 (N:=N+4) (k:=kq T x) (f:=fq m g h) (z:=⟨Ar.rep 4 0,false⟩) (i:=0) (by omega)
 have e1:=behind_b1 (N:=N+4) (k:=kq T x) (f:=fq m g h) (z:=⟨A4 (i64w ((i64w ((x.o:Int) - m.a)) - m.b)) 0 0 0,false⟩) (i:=1) (by omega)
 have e2:=behind_b1 (N:=N+4) (k:=kq T x) (f:=fq m g h) (z:=⟨A4 (i64w ((i64w ((x.o:Int) - m.a)) - m.b)) (i64w ((i64w ((x.h:Int) - m.c)) - m.d)) 0 0,false⟩) (i:=2) (by omega)
 have e3:QaM.b1 (N+4) (kq T x) (fq m g h) (⟨A4 (i64w ((i64w ((x.o:Int) - m.a)) - m.b)) (i64w ((i64w ((x.h:Int) - m.c)) - m.d)) (i64w ((i64w ((x.l:Int) - m.e)) - m.f)) 0,false⟩:KQ) ((3:Nat):Int)=some (.out (.go (⟨A4 (i64w ((i64w ((x.o:Int) - m.a)) - m.b)) (i64w ((i64w ((x.h:Int) - m.c)) - m.d)) (i64w ((i64w ((x.l:Int) - m.e)) - m.f)) 0,false⟩:KQ))):=if_neg (by omega)
 have er:rounds (fun s=>QaM.b1 (N+4) (kq T x) (fq m g h) s.1 s.2) (N+4) ((⟨Ar.rep 4 0,false⟩:KQ),0)=some (.go (⟨A4 (i64w ((i64w ((x.o:Int) - m.a)) - m.b)) (i64w ((i64w ((x.h:Int) - m.c)) - m.d)) (i64w ((i64w ((x.l:Int) - m.e)) - m.f)) 0,false⟩:KQ)):=
  (rounds_next (n:=N+3) (s:=((⟨Ar.rep 4 0,false⟩:KQ),(0:Int))) e0).trans ((rounds_next (n:=N+2) (s:=((⟨A4 (i64w ((i64w ((x.o:Int) - m.a)) - m.b)) 0 0 0,false⟩:KQ),((1:Nat):Int))) e1).trans ((rounds_next (n:=N+1) (s:=((⟨A4 (i64w ((i64w ((x.o:Int) - m.a)) - m.b)) (i64w ((i64w ((x.h:Int) - m.c)) - m.d)) 0 0,false⟩:KQ),((2:Nat):Int))) e2).trans (rounds_out (n:=N) (s:=((⟨A4 (i64w ((i64w ((x.o:Int) - m.a)) - m.b)) (i64w ((i64w ((x.h:Int) - m.c)) - m.d)) (i64w ((i64w ((x.l:Int) - m.e)) - m.f)) 0,false⟩:KQ),((3:Nat):Int))) e3)))
 unfold QaM.f
 rw [if_pos ⟨by decide,by decide⟩,if_pos ⟨by decide,by decide⟩,if_pos ⟨by decide,by decide⟩,if_pos ⟨by decide,by decide⟩,if_pos rfl,er]
 show QaM.j0 (N+4) (kq T x) (⟨A4 (i64w ((i64w ((x.o:Int) - m.a)) - m.b)) (i64w ((i64w ((x.h:Int) - m.c)) - m.d)) (i64w ((i64w ((x.l:Int) - m.e)) - m.f)) 0,x.n⟩:KQ)=_
 rw [idb (x:=(x.o:Int) - m.a) (by omega),idb (x:=(x.o:Int) - m.a - m.b) (by omega),idb (x:=(x.h:Int) - m.c) (by omega),idb (x:=(x.h:Int) - m.c - m.d) (by omega),idb (x:=(x.l:Int) - m.e) (by omega),idb (x:=(x.l:Int) - m.e - m.f) (by omega)]
 rw [show (x.o:Int) - m.a - m.b=((aftM x m).o:Int) by simp only [aftM];omega,show (x.h:Int) - m.c - m.d=((aftM x m).h:Int) by simp only [aftM];omega,show (x.l:Int) - m.e - m.f=((aftM x m).l:Int) by simp only [aftM];omega]
 exact behind_j0 (y:=aftM x m) hx0 (by simp only [aftM];omega) rfl
def SelfI (T k:Nat) (self:KM→KQ→Int→Option (Bool×KM)):Prop:=
 ∀ (kv:KM) (x:Kn),InvM T kv→ok T x→∃ kv',self kv (kq T x) (k:Int)=some (canB T k x,kv')∧InvM T kv'
theorem ok_L {T:Nat} {x:Kn} {m:Mv} (hx:ok T x) (hm:fits x m):ok T (aftL m):=by unfold ok fits aftL at*;simp only;omega
theorem ok_R {T:Nat} {x:Kn} {m:Mv} (hx:ok T x) (hm:fits x m):ok T (aftR m):=by unfold ok fits aftR at*;simp only;omega
theorem ok_M {T:Nat} {x:Kn} {m:Mv} (hx:ok T x) (hm:fits x m):ok T (aftM x m):=by unfold ok fits aftM at*;simp only;omega
theorem splits_eq {N T k:Nat} {self:KM→KQ→Int→Option (Bool×KM)} (hself:SelfI T k self) (hN:5≤N) (hk:k≤5) {x:Kn} {m:Mv} (hx:ok T x) (hm:fits x m) {kv:KM} (hI:InvM T kv) {g h:Int}:
 ∃ b kv',Qb3.f N self kv (kq T x) (fq m g h) ((k+1:Nat):Int)=some (b,kv')∧InvM T kv'∧(b=true↔canP T k (aftL m)∧canP T k (aftM x m)∧canP T k (aftR m)):=by
 unfold Qb3.f
 have ek:i64w (((k+1:Nat):Int) - 1)=(k:Int):=by rw [idb (by omega)];omega
 obtain ⟨kv1,e1,I1⟩:=hself kv _ hI (ok_L hx hm)
 obtain ⟨kv2,e2,I2⟩:=hself kv1 _ I1 (ok_M hx hm)
 obtain ⟨kv3,e3,I3⟩:=hself kv2 _ I2 (ok_R hx hm)
 rw [behind_L hx hm,Option.bind_some,ek,e1,Option.bind_some]
 dsimp only
 cases c1:canB T k (aftL m) with
 |false=>exact ⟨false,kv1,by rw [if_neg Bool.false_ne_true],I1,by simp [of_canB_f c1]⟩
 |true=>
  rw [if_pos rfl,behind_M hN hx hm,Option.bind_some,e2,Option.bind_some]
  dsimp only
  cases c2:canB T k (aftM x m) with
  |false=>exact ⟨false,kv2,by rw [if_neg Bool.false_ne_true],I2,by simp [of_canB_f c2]⟩
  |true=>
   rw [if_pos rfl,behind_R hx hm,Option.bind_some,e3,Option.bind_some]
   refine ⟨_,kv3,rfl,I3,?_⟩
   cases c3:canB T k (aftR m) with
   |false=>simp [of_canB_f c3]
   |true=>simp [of_canB c1,of_canB c2,of_canB c3]
abbrev RQ:=Bool×KQ×KM×KM×KQ×Int×Bool×Unit×Unit
theorem mx_eq {a b:Int}:mxI a b=max a b:=by unfold mxI;omega
theorem balanced_eq {N T k:Nat} {self:KM→KQ→Int→Option (Bool×KM)} (hself:SelfI T k self) (hN:5≤N) (hk:k≤5) {x:Kn} {m:Mv} (hx:ok T x) (hm:fits x m) {kv:KM} (hI:InvM T kv) {g h:Int}:
 ∃ b kv',Qbl.f N self (kq T x) (fq m g h) kv (kq T x) ((k+1:Nat):Int) false=some (!b,kv',kv',kq T x,((k+1:Nat):Int),b)∧InvM T kv'∧(b=true↔doesP T k x m):=by
 have hx0:=hx
 have hm0:=hm
 obtain ⟨h1,h2,h3⟩:=hx
 obtain ⟨m1,m2,m3⟩:=hm
 have eL:i64w ((i64w ((m.a:Int)+m.c))+m.e)=(m.a:Int)+m.c+m.e:=by rw [idb (x:=(m.a:Int)+m.c) (by omega),idb (by omega)]
 have eR:i64w ((i64w ((m.b:Int)+m.d))+m.f)=(m.b:Int)+m.d+m.f:=by rw [idb (x:=(m.b:Int)+m.d) (by omega),idb (by omega)]
 generalize hr:Qbl.f N self (kq T x) (fq m g h) kv (kq T x) ((k+1:Nat):Int) false=r
 have hr2:(if mxI (i64w ((i64w ((m.a:Int)+m.c))+m.e)) (i64w ((i64w ((m.b:Int)+m.d))+m.f))=0 then some (true,kv,kv,kq T x,((k+1:Nat):Int),false) else
  if i64w (mxI (i64w (i64w ((i64w ((m.b:Int)+m.d))+m.f) - i64w ((i64w ((m.a:Int)+m.c))+m.e))) 0+mxI (i64w (i64w ((i64w ((m.a:Int)+m.c))+m.e) - i64w ((i64w ((m.b:Int)+m.d))+m.f))) 0)>(T:Int) - x.o - x.h - x.l then some (true,kv,kv,kq T x,((k+1:Nat):Int),false) else
  (Qb7.f N self (fq m (mxI (i64w (i64w ((i64w ((m.b:Int)+m.d))+m.f) - i64w ((i64w ((m.a:Int)+m.c))+m.e))) 0) (mxI (i64w (i64w ((i64w ((m.a:Int)+m.c))+m.e) - i64w ((i64w ((m.b:Int)+m.d))+m.f))) 0)) kv (kq T x) ((k+1:Nat):Int) false).bind fun r=>some (r.1,r.2.1,r.2.2.1,r.2.2.2.1,r.2.2.2.2.1,r.2.2.2.2.2))=r:=hr
 clear hr
 subst hr2
 rw [eL,eR,idb (x:=(m.b:Int)+m.d+m.f - ((m.a:Int)+m.c+m.e)) (by omega),idb (x:=(m.a:Int)+m.c+m.e - ((m.b:Int)+m.d+m.f)) (by omega),mx_eq,mx_eq,mx_eq,idb (x:=max ((m.b:Int)+m.d+m.f - ((m.a:Int)+m.c+m.e)) 0+max ((m.a:Int)+m.c+m.e - ((m.b:Int)+m.d+m.f)) 0) (by omega)]
 by_cases c1:max ((m.a:Int)+m.c+m.e) ((m.b:Int)+m.d+m.f)=0
 ·rw [if_pos c1]
  refine ⟨false,kv,rfl,hI,?_⟩
  simp only [Bool.false_eq_true,false_iff]
  intro hd
  have:=hd.1.1
  omega
 ·rw [if_neg c1]
  by_cases c2:max ((m.b:Int)+m.d+m.f - ((m.a:Int)+m.c+m.e)) 0+max ((m.a:Int)+m.c+m.e - ((m.b:Int)+m.d+m.f)) 0>(T:Int) - x.o - x.h - x.l
  ·rw [if_pos c2]
   refine ⟨false,kv,rfl,hI,?_⟩
   simp only [Bool.false_eq_true,false_iff]
   intro hd
   have h5:=hd.1.2.1
   have h6:=hd.1.2.2
   omega
  ·rw [if_neg c2]
   obtain ⟨b,kv',e,I,hb⟩:=splits_eq hself hN hk hx0 hm0 hI (g:=max ((m.b:Int)+m.d+m.f - ((m.a:Int)+m.c+m.e)) 0) (h:=max ((m.a:Int)+m.c+m.e - ((m.b:Int)+m.d+m.f)) 0)
   unfold Qb7.f
   rw [e]
   refine ⟨b,kv',rfl,I,hb.trans ?_⟩
   unfold doesP
   refine ⟨fun h=>⟨⟨?_,?_,?_⟩,h⟩,fun h=>h.2⟩<;>omega
def cB2 (s:Int) (inner:FQ→KQ→KM→KQ→Int→Bool→Option RQ) (x42:KQ) (x48:Int) (x51:KQ) (x52:KM) (x53:KQ) (x54:Int) (x55:Bool) (x56:FQ) (x57:Int):Option (Bd RQ (KQ×KM×KQ×Int×Bool×FQ) (KQ×KM×KQ×Int×Bool×FQ×Int)):=
 if x57< (i64w ((i64w ((x42.Qav.get s 0) - x48))+1)) then (if (0:Int)≤s∧s< 4 then (if (0:Int)≤s∧s< 4 then ((inner (⟨(⟨x56.Qao.set s x48,x56.Qaj⟩:FQ).Qao,((⟨x56.Qao.set s x48,x56.Qaj⟩:FQ).Qaj).set s x57⟩:FQ) x51 x52 x53 x54 x55).bind fun r58=>(if r58.1=true then (some (.next (r58.2.1,r58.2.2.1,r58.2.2.2.2.1,r58.2.2.2.2.2.1,r58.2.2.2.2.2.2.1,(⟨(⟨x56.Qao.set s x48,x56.Qaj⟩:FQ).Qao,((⟨x56.Qao.set s x48,x56.Qaj⟩:FQ).Qaj).set s x57⟩:FQ),i64w (x57+1)))) else (some (.out (.ret (false,r58.2.1,r58.2.2.1,r58.2.2.2.1,r58.2.2.2.2.1,r58.2.2.2.2.2.1,r58.2.2.2.2.2.2.1,(),())))))) else none) else none) else (some (.out (.go (x51,x52,x53,x54,x55,x56))))
def cA2 (x48:Int) (x59:KQ) (x60:KM) (x61:KQ) (x62:Int) (x63:Bool) (x64:FQ):Option (Bd RQ (KQ×KM×KQ×Int×Bool) (KQ×KM×KQ×Int×Bool×FQ×Int)):=some (.next (x59,x60,x61,x62,x63,x64,i64w (x48+1)))
def cB0 (N:Nat) (s:Int) (inner:FQ→KQ→KM→KQ→Int→Bool→Option RQ) (a2:KQ) (x42:KQ) (x43:KM) (x44:KQ) (x45:Int) (x46:Bool) (x47:FQ) (x48:Int):Option (Bd RQ (KQ×KM×KQ×Int×Bool) (KQ×KM×KQ×Int×Bool×FQ×Int)):=
 if x48< (i64w ((a2.Qav.get s 0)+1)) then (if (0:Int)≤s∧s< 4 then ((rounds (fun t=>cB2 s inner x42 x48 t.1 t.2.1 t.2.2.1 t.2.2.2.1 t.2.2.2.2.1 t.2.2.2.2.2.1 t.2.2.2.2.2.2) N (x42,x43,x44,x45,x46,x47,0)).bind (Ex.finB fun t=>cA2 x48 t.1 t.2.1 t.2.2.1 t.2.2.2.1 t.2.2.2.2.1 t.2.2.2.2.2)) else none) else (some (.out (.go (x42,x43,x44,x45,x46))))
def cA0 (x65:KQ) (x66:KM) (x67:KQ) (x68:Int) (x69:Bool):Option RQ:=some (true,x65,x66,x66,x67,x68,x69,(),())
def cF (N:Nat) (s:Int) (inner:FQ→KQ→KM→KQ→Int→Bool→Option RQ) (a1:FQ) (a2:KQ) (a5:KM) (a10:KQ) (a13:Int) (a16:Bool):Option RQ:=
 if (0:Int)≤s∧s< 4 then ((rounds (fun t=>cB0 N s inner a2 t.1 t.2.1 t.2.2.1 t.2.2.2.1 t.2.2.2.2.1 t.2.2.2.2.2.1 t.2.2.2.2.2.2) N (a2,a5,a10,a13,a16,a1,0)).bind (Ex.fin fun t=>cA0 t.1 t.2.1 t.2.2.1 t.2.2.2.1 t.2.2.2.2)) else none
theorem c2_is (N:Nat) (self:KM→KQ→Int→Option (Bool×KM)):QaQ.f N self=cF N 2 (QbD.f N self):=rfl
theorem c1_is (N:Nat) (self:KM→KQ→Int→Option (Bool×KM)):QaO.f N self=cF N 1 (QaQ.f N self):=rfl
theorem c0_is (N:Nat) (self:KM→KQ→Int→Option (Bool×KM)):QaV.f N self=cF N 0 (QaO.f N self):=rfl
def LookI (T:Nat) (x:Kn) (c:Int) (inner:FQ→KQ→KM→KQ→Int→Bool→Option RQ) (fm:FQ) (Q:Prop):Prop:=
 ∀ kv,InvM T kv→∃ b kv',inner fm (kq T x) kv (kq T x) c false=some (!b,kq T x,kv',kv',kq T x,c,b,(),())∧InvM T kv'∧(b=true↔Q)
theorem cF_eq {N T:Nat} {x:Kn} {c:Int} {inner:FQ→KQ→KM→KQ→Int→Bool→Option RQ} (hN:20≤N) {s:Nat} (hs:s< 3) {cnt:Nat} (hc:(kq T x).Qav.get (s:Int) 0=(cnt:Int)) (h13:cnt≤13) (Fm:FQ→Prop) (Q:Nat→Nat→Prop)
 (hF:∀ fm (l r:Nat),Fm fm→Fm ⟨fm.Qao.set (s:Int) (l:Int),fm.Qaj.set (s:Int) (r:Int)⟩)
 (hin:∀ fm (l r:Nat),Fm fm→l+r≤cnt→LookI T x c inner ⟨fm.Qao.set (s:Int) (l:Int),fm.Qaj.set (s:Int) (r:Int)⟩ (Q l r)) {fm:FQ} (hfm:Fm fm):
 LookI T x c (cF N (s:Int) inner) fm (∃ l r,l+r≤cnt∧Q l r):=by
 intro kv hI
 have hs4:(0:Int)≤(s:Int)∧(s:Int)< 4:=by omega
 have inn:∀ (l:Nat) (kv:KM) (fm:FQ),l≤cnt→InvM T kv→Fm fm→
  (∃ e,rounds (fun t=>cB2 (s:Int) inner (kq T x) (l:Int) t.1 t.2.1 t.2.2.1 t.2.2.2.1 t.2.2.2.2.1 t.2.2.2.2.2.1 t.2.2.2.2.2.2) N (kq T x,kv,kq T x,c,false,fm,0)=some (.go e)∧(∃ kv fm,e=(kq T x,kv,kq T x,c,false,fm)∧InvM T kv∧Fm fm)∧¬ ∃ r,l+r≤cnt∧Q l r)∨
  (∃ r,rounds (fun t=>cB2 (s:Int) inner (kq T x) (l:Int) t.1 t.2.1 t.2.2.1 t.2.2.2.1 t.2.2.2.2.1 t.2.2.2.2.2.1 t.2.2.2.2.2.2) N (kq T x,kv,kq T x,c,false,fm,0)=some (.ret r)∧(∃ kv,r=(false,kq T x,kv,kv,kq T x,c,true,(),())∧InvM T kv)∧∃ r,l+r≤cnt∧Q l r):=by
  intro l kv fm hl hI hfm
  have ew:i64w ((i64w ((kq T x).Qav.get (s:Int) 0 - (l:Int)))+1)=((cnt - l+1:Nat):Int):=by
   rw [hc,idb (x:=(cnt:Int) - l) (by omega),idb (by omega)];omega
  have:=loop_find (b:=fun t:KQ×KM×KQ×Int×Bool×FQ×Int=>cB2 (s:Int) inner (kq T x) (l:Int) t.1 t.2.1 t.2.2.1 t.2.2.2.1 t.2.2.2.2.1 t.2.2.2.2.2.1 t.2.2.2.2.2.2) (n:=cnt - l+1)
   (fun i t=>∃ kv fm,t=(kq T x,kv,kq T x,c,false,fm,(i:Int))∧InvM T kv∧Fm fm) (fun e=>∃ kv fm,e=(kq T x,kv,kq T x,c,false,fm)∧InvM T kv∧Fm fm) (fun r=>∃ kv,r=(false,kq T x,kv,kv,kq T x,c,true,(),())∧InvM T kv) (fun r=>l+r≤cnt∧Q l r) ?_ ?_ N 0 (kq T x,kv,kq T x,c,false,fm,0) (by omega) (by omega) ⟨kv,fm,rfl,hI,hfm⟩
  ·rcases this with ⟨e,g1,g2,g3⟩|⟨r,g1,g2,j,_,_,g3⟩
   ·exact .inl ⟨e,g1,g2,fun ⟨r,h1,h2⟩=>g3 r (by omega) (by omega) ⟨h1,h2⟩⟩
   ·exact .inr ⟨r,g1,g2,j,g3⟩
  ·rintro i t hi ⟨kv,fm,rfl,hI,hfm⟩
   obtain ⟨b,kv',e,I,hb⟩:=hin fm l i hfm (by omega) kv hI
   dsimp only
   unfold cB2
   rw [ew,if_pos (by omega),if_pos hs4,if_pos hs4]
   dsimp only
   rw [e,Option.bind_some,idb (x:=(i:Int)+1) (by omega)]
   dsimp only
   cases b with
   |false=>exact .inl ⟨_,if_pos rfl,⟨kv',_,rfl,I,hF fm l i hfm⟩,fun h=>Bool.false_ne_true (hb.2 h.2)⟩
   |true=>exact .inr ⟨_,if_neg Bool.false_ne_true,⟨kv',rfl,I⟩,by omega,hb.1 rfl⟩
  ·rintro t ⟨kv,fm,rfl,hI,hfm⟩
   dsimp only
   unfold cB2
   rw [ew,if_neg (by omega)]
   exact ⟨_,rfl,kv,fm,rfl,hI,hfm⟩
 have ew:i64w ((kq T x).Qav.get (s:Int) 0+1)=((cnt+1:Nat):Int):=by
  rw [hc,idb (by omega)];omega
 have:=loop_find (b:=fun t:KQ×KM×KQ×Int×Bool×FQ×Int=>cB0 N (s:Int) inner (kq T x) t.1 t.2.1 t.2.2.1 t.2.2.2.1 t.2.2.2.2.1 t.2.2.2.2.2.1 t.2.2.2.2.2.2) (n:=cnt+1)
  (fun i t=>∃ kv fm,t=(kq T x,kv,kq T x,c,false,fm,(i:Int))∧InvM T kv∧Fm fm) (fun e=>∃ kv,e=(kq T x,kv,kq T x,c,false)∧InvM T kv) (fun r=>∃ kv,r=(false,kq T x,kv,kv,kq T x,c,true,(),())∧InvM T kv) (fun l=>∃ r,l+r≤cnt∧Q l r) ?_ ?_ N 0 (kq T x,kv,kq T x,c,false,fm,0) (by omega) (by omega) ⟨kv,fm,rfl,hI,hfm⟩
 ·unfold cF
  rw [if_pos hs4]
  rcases this with ⟨e,g1,⟨kv',rfl,I⟩,g3⟩|⟨r,g1,⟨kv',rfl,I⟩,j,_,_,r,g3⟩
  ·rw [g1]
   exact ⟨false,kv',rfl,I,⟨fun h=>absurd h Bool.false_ne_true,fun ⟨l,r,h1,h2⟩=>absurd ⟨r,h1,h2⟩ (g3 l (by omega) (by omega))⟩⟩
  ·rw [g1]
   exact ⟨true,kv',rfl,I,⟨fun _=>⟨j,r,g3⟩,fun _=>rfl⟩⟩
 ·rintro i t hi ⟨kv,fm,rfl,hI,hfm⟩
  dsimp only
  unfold cB0
  rw [ew,if_pos (by omega),if_pos hs4]
  refine find_in (inn i kv fm (by omega) hI hfm) ?_
  rintro e ⟨kv,fm,rfl,I,hf⟩
  exact ⟨_,rfl,kv,fm,by rw [idb (x:=(i:Int)+1) (by omega)];rfl,I,hf⟩
 ·rintro t ⟨kv,fm,rfl,hI,hfm⟩
  dsimp only
  unfold cB0
  rw [ew,if_neg (by omega)]
  exact ⟨_,rfl,kv,rfl,hI⟩
theorem forms_eq {N T k:Nat} {self:KM→KQ→Int→Option (Bool×KM)} (hself:SelfI T k self) (hN:20≤N) (hk:k≤5) {x:Kn} (hx:ok T x):
 LookI T x ((k+1:Nat):Int) (QaV.f N self) (⟨Ar.rep 4 0,Ar.rep 4 0⟩:FQ) (∃ m,fits x m∧doesP T k x m):=by
 have l3:∀ (m:Mv) (g h:Int),fits x m→LookI T x ((k+1:Nat):Int) (QbD.f N self) (fq m g h) (doesP T k x m):=by
  intro m g h hm kv hI
  obtain ⟨b,kv',e,I,hb⟩:=balanced_eq hself (by omega) hk hx hm hI (N:=N) (g:=g) (h:=h)
  refine ⟨b,kv',?_,I,hb⟩
  unfold QbD.f
  rw [e]
  rfl
 have l2:∀ (a b c d:Nat) (e g f h:Int),a+b≤x.o→c+d≤x.h→LookI T x ((k+1:Nat):Int) (QaQ.f N self) ⟨A4 a c e g,A4 b d f h⟩ (∃ e f,e+f≤x.l∧doesP T k x ⟨a,b,c,d,e,f⟩):=by
  intro a b c d e g f h h1 h2
  rw [c2_is]
  refine cF_eq hN (s:=2) (by omega) (cnt:=x.l) rfl (by have:=hx.1;omega) (fun fm=>∃ e g f h:Int,fm=⟨A4 a c e g,A4 b d f h⟩) (fun e f=>doesP T k x ⟨a,b,c,d,e,f⟩) ?_ ?_ ⟨e,g,f,h,rfl⟩
  ·rintro fm l r ⟨e,g,f,h,rfl⟩
   exact ⟨l,g,r,h,rfl⟩
  ·rintro fm l r ⟨e,g,f,h,rfl⟩ hlr
   exact l3 ⟨a,b,c,d,l,r⟩ g h ⟨h1,h2,hlr⟩
 have l1:∀ (a b:Nat) (c e g d f h:Int),a+b≤x.o→LookI T x ((k+1:Nat):Int) (QaO.f N self) ⟨A4 a c e g,A4 b d f h⟩ (∃ c d,c+d≤x.h∧∃ e f,e+f≤x.l∧doesP T k x ⟨a,b,c,d,e,f⟩):=by
  intro a b c e g d f h h1
  rw [c1_is]
  refine cF_eq hN (s:=1) (by omega) (cnt:=x.h) rfl (by have:=hx.1;omega) (fun fm=>∃ c e g d f h:Int,fm=⟨A4 a c e g,A4 b d f h⟩) (fun c d=>∃ e f,e+f≤x.l∧doesP T k x ⟨a,b,c,d,e,f⟩) ?_ ?_ ⟨c,e,g,d,f,h,rfl⟩
  ·rintro fm l r ⟨c,e,g,d,f,h,rfl⟩
   exact ⟨l,e,g,r,f,h,rfl⟩
  ·rintro fm l r ⟨c,e,g,d,f,h,rfl⟩ hlr
   exact l2 a b l r e g f h h1 hlr
 have l0:=cF_eq (T:=T) (x:=x) (c:=((k+1:Nat):Int)) (inner:=QaO.f N self) hN (s:=0) (by omega) (cnt:=x.o) rfl (by have:=hx.1;omega) (fun fm=>∃ a c e g b d f h:Int,fm=⟨A4 a c e g,A4 b d f h⟩) (fun a b=>∃ c d,c+d≤x.h∧∃ e f,e+f≤x.l∧doesP T k x ⟨a,b,c,d,e,f⟩) (by
  rintro fm l r ⟨a,c,e,g,b,d,f,h,rfl⟩
  exact ⟨l,c,e,g,r,d,f,h,rfl⟩) (by
  rintro fm l r ⟨a,c,e,g,b,d,f,h,rfl⟩ hlr
  exact l1 l r c e g d f h hlr) (fm:=⟨Ar.rep 4 0,Ar.rep 4 0⟩) ⟨0,0,0,0,0,0,0,0,rfl⟩
 intro kv hI
 obtain ⟨b,kv',e,I,hb⟩:=l0 kv hI
 refine ⟨b,kv',by rw [c0_is];exact e,I,hb.trans ?_⟩
 constructor
 ·rintro ⟨a,b,h1,c,d,h2,e,f,h3,h4⟩
  exact ⟨_,⟨h1,h2,h3⟩,h4⟩
 ·rintro ⟨⟨a,b,c,d,e,f⟩,⟨h1,h2,h3⟩,h4⟩
  exact ⟨a,b,h1,c,d,h2,e,f,h3,h4⟩
theorem pow_impl {N:Nat} (self:KM→KQ→Int→Option (Bool×KM)) (hN:20≤N):∀ k:Nat,k≤5→rounds (fun s=>QaH.b0 N self (k:Int) s.1 s.2) N (1,0)=some (.go ((3^k:Nat):Int)):=by
 intro k hk
 have main:∀ (M i:Nat),i≤k→k - i< M→rounds (fun s=>QaH.b0 N self (k:Int) s.1 s.2) M (((3^i:Nat):Int),(i:Int))=some (.go ((3^k:Nat):Int)):=by
  intro M
  induction M with
  |zero=>intro i _ h;exact absurd h (Nat.not_lt_zero _)
  |succ M ih=>
   intro i hi hM
   by_cases c:i< k
   ·have h3:3^i≤3^5:=Nat.pow_le_pow_right (by omega) (by omega)
    have e:QaH.b0 N self (k:Int) ((3^i:Nat):Int) (i:Int)=some (.next (((3^(i+1):Nat):Int),((i+1:Nat):Int))):=by
     unfold QaH.b0
     rw [if_pos (by omega),Nat.pow_succ,idb (x:=(i:Int)+1) (by omega)]
     generalize 3^i=q at h3 ⊢
     rw [idb (by omega)]
     congr 3<;>omega
    exact (rounds_next (n:=M) (b:=fun s:Int×Int=>QaH.b0 N self (k:Int) s.1 s.2) (s:=(((3^i:Nat):Int),(i:Int))) e).trans (ih (i+1) (by omega) (by omega))
   ·obtain rfl:i=k:=by omega
    refine rounds_out ?_
    unfold QaH.b0
    exact if_neg (by omega)
 exact main N 0 (by omega) (by omega)
theorem can_impl {N T:Nat} (hN:20≤N):∀ (k:Nat),k≤5→∀ kf,k< kf→SelfI T k (QaH.g N kf):=by
 intro k
 induction k with
 |zero=>
  intro _ kf hkf kv x hI hx
  obtain ⟨kf,rfl⟩:∃ j,kf=j+1:=⟨kf - 1,by omega⟩
  refine ⟨kv,?_,hI⟩
  show QaH.body N (QaH.g N kf) kv (kq T x) ((0:Nat):Int)=_
  unfold QaH.body
  rw [pow_impl _ hN 0 (by omega)]
  show QaH.a0 N (QaH.g N kf) (kq T x) kv ((0:Nat):Int) ((3^0:Nat):Int)=_
  unfold QaH.a0
  rw [cases_impl hx,Option.bind_some]
  by_cases c:x.c≤1
  ·rw [if_pos (by omega),canB_t (show canP T 0 x from c)]
  ·rw [if_neg (by omega),if_pos (show ((0:Nat):Int)=0 from rfl),canB_f (show ¬ canP T 0 x from c)]
 |succ k ih=>
  intro hk kf hkf kv x hI hx
  obtain ⟨kf,rfl⟩:∃ j,kf=j+1:=⟨kf - 1,by omega⟩
  have hself:=ih (by omega) kf (by omega)
  show ∃ kv',QaH.body N (QaH.g N kf) kv (kq T x) ((k+1:Nat):Int)=_∧_
  unfold QaH.body
  rw [pow_impl _ hN (k+1) hk]
  show ∃ kv',QaH.a0 N (QaH.g N kf) (kq T x) kv ((k+1:Nat):Int) ((3^(k+1):Nat):Int)=_∧_
  unfold QaH.a0
  rw [cases_impl hx,Option.bind_some]
  by_cases c:x.c≤1
  ·rw [if_pos (by omega),canB_t (show canP T (k+1) x from .inl c)]
   exact ⟨kv,rfl,hI⟩
  ·rw [if_neg (by omega),if_neg (by omega)]
   by_cases c2:x.c≤3^(k+1)
   ·rw [if_neg (by omega)]
    by_cases c3:(mIdx kv (⟨kq T x,((k+1:Nat):Int)⟩:Qad)).isSome=true
    ·rw [if_pos c3,hI.get c3]
     exact ⟨kv,rfl,hI⟩
    ·rw [if_neg c3,InvM.new c3]
     obtain ⟨b,kv',e,I,hb⟩:=forms_eq hself hN (by omega) hx kv hI
     have hbc:b=canB T (k+1) x:=by
      cases b with
      |true=>
       obtain ⟨m,h1,h2⟩:=hb.1 rfl
       exact (canB_t (show canP T (k+1) x from .inr ⟨c2,m,h1,h2⟩)).symm
      |false=>
       refine (canB_f ?_).symm
       rintro (h|⟨_,m,h1,h2⟩)
       ·exact c h
       ·exact Bool.false_ne_true (hb.2 ⟨m,h1,h2⟩)
     unfold Qbt.f
     rw [e]
     refine ⟨mSet kv' ⟨kq T x,((k+1:Nat):Int)⟩ b,?_,I.set hbc⟩
     rw [← hbc]
     rfl
   ·rw [if_pos (by omega)]
    refine ⟨kv,?_,hI⟩
    rw [canB_f (fun h=>?_)]
    exact c2 (canP_le h)
end Go.Proofs.YtgpdpedpmhonkaaX.W
namespace Go.Proofs.YtgpdpedpmhonkaaX.W
open Go
set_option linter.unusedVariables false
set_option linter.unusedSimpArgs false
abbrev Fi:=Qap
abbrev KS:=Qar
abbrev M8:=Ar Int 8
abbrev RS:=M8×Bool×List Int×Fi
def nb (x:Kn):Nat:=if x.n=true then 1 else 0
theorem nb_le (x:Kn):nb x≤1:=by unfold nb;split<;>omega
def ks (x:Kn):KS:=⟨x.o,x.h,x.l,(nb x:Int)⟩
theorem cases_spec {N T:Nat} {x:Kn} (h:ok T x):QbZ.f N (ks x)=some (x.c:Int):=by
 obtain ⟨h1,h2,h3⟩:=h
 have h4:=nb_le x
 show some (i64w ((i64w ((i64w ((i64w (2*(x.o:Int)))+(x.h:Int)))+(x.l:Int)))+(nb x:Int)))=_
 rw [idb (x:=2*(x.o:Int)) (by omega),idb (x:=2*(x.o:Int)+x.h) (by omega),idb (x:=2*(x.o:Int)+x.h+x.l) (by omega),idb (by omega)]
 unfold Kn.c nb
 congr 1
def atI (x:Kn) (q:Nat):Nat:=(((x.o*14+x.h)*14+x.l)*2+nb x)*6+q
def atE (a6:KS) (a7:Int):Int:=(i64w ((i64w ((i64w ((i64w ((i64w ((i64w ((i64w ((i64w (a6.Qa3*14))+a6.QaY))*14))+a6.QaZ))*2))+a6.QaU))*6))+a7))
theorem at_eq {T:Nat} {x:Kn} {q:Nat} (hx:ok T x) (hq:q≤5):atE (ks x) (q:Int)=((atI x q:Nat):Int):=by
 obtain ⟨h1,h2,h3⟩:=hx
 have h4:=nb_le x
 show (i64w ((i64w ((i64w ((i64w ((i64w ((i64w ((i64w ((i64w ((x.o:Int)*14))+(x.h:Int)))*14))+(x.l:Int)))*2))+(nb x:Int)))*6))+(q:Int)))=_
 rw [idb (x:=(x.o:Int)*14) (by omega),idb (x:=(x.o:Int)*14+x.h) (by omega),idb (x:=((x.o:Int)*14+x.h)*14) (by omega),idb (x:=((x.o:Int)*14+x.h)*14+x.l) (by omega),idb (x:=(((x.o:Int)*14+x.h)*14+x.l)*2) (by omega),idb (x:=(((x.o:Int)*14+x.h)*14+x.l)*2+nb x) (by omega),idb (x:=((((x.o:Int)*14+x.h)*14+x.l)*2+nb x)*6) (by omega),idb (by omega)]
 unfold atI
 omega
theorem at_lt {T:Nat} {x:Kn} {q:Nat} (hx:ok T x) (hq:q≤5):atI x q< 32928:=by
 obtain ⟨h1,h2,h3⟩:=hx
 have h4:=nb_le x
 unfold atI;omega
theorem at_inj {T:Nat} {x y:Kn} {q r:Nat} (hx:ok T x) (hy:ok T y) (hq:q≤5) (hr:r≤5) (h:atI x q=atI y r):x=y∧q=r:=by
 obtain ⟨h1,_,_⟩:=hx
 obtain ⟨g1,_,_⟩:=hy
 have h4:=nb_le x
 have g4:=nb_le y
 unfold atI at h
 have e1:q=r∧((x.o*14+x.h)*14+x.l)*2+nb x=((y.o*14+y.h)*14+y.l)*2+nb y:=by
  generalize ((x.o*14+x.h)*14+x.l)*2+nb x=A at h ⊢
  generalize ((y.o*14+y.h)*14+y.l)*2+nb y=B at h ⊢
  omega
 have e2:nb x=nb y∧(x.o*14+x.h)*14+x.l=(y.o*14+y.h)*14+y.l:=by
  have g:=e1.2
  generalize (x.o*14+x.h)*14+x.l=A at g ⊢
  generalize (y.o*14+y.h)*14+y.l=B at g ⊢
  omega
 have e3:x.l=y.l∧x.o*14+x.h=y.o*14+y.h:=by
  have g:=e2.2
  generalize x.o*14+x.h=A at g ⊢
  generalize y.o*14+y.h=B at g ⊢
  omega
 have e4:x.o=y.o∧x.h=y.h:=by omega
 obtain ⟨a,b,c,d⟩:=x
 obtain ⟨a',b',c',d'⟩:=y
 obtain ⟨e5,e6⟩:=e4
 have e7:=e3.1
 have e8:=e2.1
 simp only at e5 e6 e7
 subst e5 e6 e7
 refine ⟨?_,e1.1⟩
 cases d<;>cases d'<;>simp [nb] at e8 ⊢
theorem getD_set' {l:List Int} {i j:Nat} {v:Int} (hi:i< l.length):(l.set i v).getD j 0=if i=j then v else l.getD j 0:=by
 rw [List.getD_eq_getElem?_getD,List.getD_eq_getElem?_getD,List.getElem?_set]
 by_cases h:i=j
 ·subst h;simp [hi]
 ·simp [h]
def InvS (T q:Nat) (seen:List Int):Prop:=seen.length=32928∧∀ (y:Kn) (r:Nat),ok T y→r≤q→r≤5→seen.getD (atI y r) 0=0∨(seen.getD (atI y r) 0=1∧canB T r y=false)∨(seen.getD (atI y r) 0=2∧canB T r y=true)
def Frm (T q:Nat) (s s':List Int):Prop:=∀ (y:Kn) (r:Nat),ok T y→q< r→r≤5→s'.getD (atI y r) 0=s.getD (atI y r) 0
theorem Frm.refl (T q:Nat) (s:List Int):Frm T q s s:=fun _ _ _ _ _=>rfl
theorem Frm.trans {T q:Nat} {a b c:List Int} (h:Frm T q a b) (g:Frm T q b c):Frm T q a c:=fun y r h1 h2 h3=>(g y r h1 h2 h3).trans (h y r h1 h2 h3)
def SelfS (T k:Nat) (self:Fi→KS→Int→Option (Bool×List Int×Fi)):Prop:=
 ∀ (seen:List Int) (x:Kn),InvS T k seen→ok T x→∃ seen',self ⟨(T:Int),seen⟩ (ks x) (k:Int)=some (canB T k x,seen',⟨(T:Int),seen'⟩)∧InvS T k seen'∧Frm T k seen seen'
def A8 (a b c d e f g h:Int):M8:=⟨[a,b,c,d,e,f,g,h],rfl⟩
def mq (m:Mv) (g h:Int):M8:=A8 m.a m.b m.c m.d m.e m.f g h
theorem ks_mk {x:Kn} {a b c d:Int} (h0:a=x.o) (h1:b=x.h) (h2:c=x.l) (h3:d=nb x):(⟨a,b,c,d⟩:KS)=ks x:=by
 subst h0 h1 h2 h3;rfl
theorem after_L {N T:Nat} {x:Kn} {m:Mv} {g h:Int} (hx:ok T x) (hm:fits x m):QbN.f N (ks x) (mq m g h) (-1)=some (ks (aftL m)):=by
 obtain ⟨h1,h2,h3⟩:=hx
 obtain ⟨m1,m2,m3⟩:=hm
 show some (⟨0,i64w ((m.a:Int)+(m.c:Int)),i64w ((m.b:Int)+(m.f:Int)),0⟩:KS)=_
 rw [idb (x:=(m.a:Int)+m.c) (by omega),idb (x:=(m.b:Int)+m.f) (by omega)]
 rfl
theorem after_R {N T:Nat} {x:Kn} {m:Mv} {g h:Int} (hx:ok T x) (hm:fits x m):QbN.f N (ks x) (mq m g h) 1=some (ks (aftR m)):=by
 obtain ⟨h1,h2,h3⟩:=hx
 obtain ⟨m1,m2,m3⟩:=hm
 show some (⟨0,i64w ((m.b:Int)+(m.d:Int)),i64w ((m.a:Int)+(m.e:Int)),0⟩:KS)=_
 rw [idb (x:=(m.b:Int)+m.d) (by omega),idb (x:=(m.a:Int)+m.e) (by omega)]
 rfl
theorem after_M {N T:Nat} {x:Kn} {m:Mv} {g h:Int} (hx:ok T x) (hm:fits x m):QbN.f N (ks x) (mq m g h) 0=some (ks (aftM x m)):=by
 obtain ⟨h1,h2,h3⟩:=hx
 obtain ⟨m1,m2,m3⟩:=hm
 show some (⟨i64w ((i64w ((x.o:Int) - m.a)) - m.b),i64w ((i64w ((x.h:Int) - m.c)) - m.d),i64w ((i64w ((x.l:Int) - m.e)) - m.f),(nb x:Int)⟩:KS)=_
 rw [idb (x:=(x.o:Int) - m.a) (by omega),idb (x:=(x.o:Int) - m.a - m.b) (by omega),idb (x:=(x.h:Int) - m.c) (by omega),idb (x:=(x.h:Int) - m.c - m.d) (by omega),idb (x:=(x.l:Int) - m.e) (by omega),idb (x:=(x.l:Int) - m.e - m.f) (by omega)]
 exact congrArg some (ks_mk (x:=aftM x m) (by simp only [aftM];omega) (by simp only [aftM];omega) (by simp only [aftM];omega) rfl)
section
variable {N T k:Nat} {self:Fi→KS→Int→Option (Bool×List Int×Fi)} {x:Kn}
theorem works_b0 (hself:SelfS T k self) (hk:k≤5) {m8:M8} {r:Int} (hr: -1≤r∧r≤1) {y:Kn} (hy:ok T y) (he:QbN.f N (ks x) m8 r=some (ks y)) {seen:List Int} (hI:InvS T k seen):
 ∃ seen',Qa6.b0 N self (ks x) m8 ((k+1:Nat):Int) (T:Int) seen r=(if canB T k y=true then some (.next ((T:Int),seen',r+1)) else some (.out (.ret (false,seen',(⟨(T:Int),seen'⟩:Fi),m8))))∧InvS T k seen'∧Frm T k seen seen':=by
 obtain ⟨seen',e,I,F⟩:=hself seen y hI hy
 refine ⟨seen',?_,I,F⟩
 unfold Qa6.b0
 rw [if_pos hr.2,he,Option.bind_some,show i64w (((k+1:Nat):Int) - 1)=(k:Int) by rw [idb (by omega)];omega,e,Option.bind_some,idb (x:=r+1) (by omega)]
theorem works_eq (hself:SelfS T k self) (hN:20≤N) (hk:k≤5) {m:Mv} (hx:ok T x) (hm:fits x m) {seen:List Int} (hI:InvS T k seen) {g h:Int}:
 ∃ b seen',Qa6.f N self (⟨(T:Int),seen⟩:Fi) (ks x) (mq m g h) ((k+1:Nat):Int)=some (b,seen',⟨(T:Int),seen'⟩,mq m g h)∧InvS T k seen'∧Frm T k seen seen'∧(b=true↔canP T k (aftL m)∧canP T k (aftM x m)∧canP T k (aftR m)):=by
 obtain ⟨N,rfl⟩:∃ M,N=M+4:=⟨N - 4,by omega⟩
 obtain ⟨s1,e1,I1,F1⟩:=works_b0 (N:=N+4) hself hk (r:= -1) (by omega) (ok_L hx hm) (after_L (g:=g) (h:=h) hx hm) hI
 obtain ⟨s2,e2,I2,F2⟩:=works_b0 (N:=N+4) hself hk (r:=0) (by omega) (ok_M hx hm) (after_M (g:=g) (h:=h) hx hm) I1
 obtain ⟨s3,e3,I3,F3⟩:=works_b0 (N:=N+4) hself hk (r:=1) (by omega) (ok_R hx hm) (after_R (g:=g) (h:=h) hx hm) I2
 have e4:Qa6.b0 (N+4) self (ks x) (mq m g h) ((k+1:Nat):Int) (T:Int) s3 2=some (.out (.go (s3,(T:Int)))):=if_neg (by omega)
 unfold Qa6.f
 cases c1:canB T k (aftL m) with
 |false=>
  rw [c1,if_neg Bool.false_ne_true] at e1
  rw [rounds_out (n:=N+3) (s:=((T:Int),seen,(-1:Int))) e1]
  exact ⟨false,s1,rfl,I1,F1,by simp [of_canB_f c1]⟩
 |true=>
  rw [c1,if_pos rfl] at e1
  rw [rounds_next (n:=N+3) (s:=((T:Int),seen,(-1:Int))) e1]
  cases c2:canB T k (aftM x m) with
  |false=>
   rw [c2,if_neg Bool.false_ne_true] at e2
   rw [rounds_out (n:=N+2) (s:=((T:Int),s1,(-1:Int)+1)) e2]
   exact ⟨false,s2,rfl,I2,F1.trans F2,by simp [of_canB_f c2]⟩
  |true=>
   rw [c2,if_pos rfl] at e2
   rw [rounds_next (n:=N+2) (s:=((T:Int),s1,(-1:Int)+1)) e2]
   cases c3:canB T k (aftR m) with
   |false=>
    rw [c3,if_neg Bool.false_ne_true] at e3
    rw [rounds_out (n:=N+1) (s:=((T:Int),s2,(0:Int)+1)) e3]
    exact ⟨false,s3,rfl,I3,(F1.trans F2).trans F3,by simp [of_canB_f c3]⟩
   |true=>
    rw [c3,if_pos rfl] at e3
    rw [rounds_next (n:=N+1) (s:=((T:Int),s2,(0:Int)+1)) e3,rounds_out (n:=N) (s:=((T:Int),s3,(1:Int)+1)) e4]
    exact ⟨true,s3,rfl,I3,(F1.trans F2).trans F3,by simp [of_canB c1,of_canB c2,of_canB c3]⟩
theorem max_eq (N:Nat) (v:Int):Qcu.f N 0 v=some (max 0 v):=by
 unfold Qcu.f
 by_cases c:(0:Int)>v
 ·rw [if_pos c];congr 1;omega
 ·rw [if_neg c];congr 1;omega
def Kp (T k:Nat) (s0 seen:List Int):Prop:=InvS T k seen∧Frm T k s0 seen
def Lk (T k:Nat) (s0:List Int) (o:Option (Ex RS (Int×List Int×M8))) (F:M8→Prop) (Q:Prop):Prop:=
 (∃ e,o=some (.go e)∧(∃ seen m,e=((T:Int),seen,m)∧Kp T k s0 seen∧F m)∧¬ Q)∨(∃ r,o=some (.ret r)∧(∃ m seen,r=(m,true,seen,(⟨(T:Int),seen⟩:Fi))∧Kp T k s0 seen)∧Q)
def Lb (T k:Nat) (s0:List Int) (o:Option (Bd RS (Int×List Int×M8) (Int×List Int×M8))) (F:M8→Prop) (Q:Prop):Prop:=
 (∃ s',o=some (.next s')∧(∃ seen m,s'=((T:Int),seen,m)∧Kp T k s0 seen∧F m)∧¬ Q)∨(∃ r,o=some (.out (.ret r))∧(∃ m seen,r=(m,true,seen,(⟨(T:Int),seen⟩:Fi))∧Kp T k s0 seen)∧Q)
theorem lvl {s0:List Int} {b:Int×List Int×M8→Option (Bd RS (Int×List Int×M8) (Int×List Int×M8))} {n M:Nat} (hM:n< M) (F:Nat→M8→Prop) (P:Nat→Prop)
 (step:∀ i m seen,i< n→F i m→Kp T k s0 seen→Lb T k s0 (b ((T:Int),seen,m)) (F (i+1)) (P i))
 (done:∀ m seen,F n m→b ((T:Int),seen,m)=some (.out (.go ((T:Int),seen,m)))) {m:M8} {seen:List Int} (hm:F 0 m) (hs:Kp T k s0 seen):
 Lk T k s0 (rounds b M ((T:Int),seen,m)) (F n) (∃ j,j< n∧P j):=by
 have:=loop_find (b:=b) (n:=n) (fun i s=>∃ seen m,s=((T:Int),seen,m)∧Kp T k s0 seen∧F i m) (fun e=>∃ seen m,e=((T:Int),seen,m)∧Kp T k s0 seen∧F n m) (fun r=>∃ m seen,r=(m,true,seen,(⟨(T:Int),seen⟩:Fi))∧Kp T k s0 seen) P (by
  rintro i s hi ⟨seen,m,rfl,h1,h2⟩
  exact step i m seen hi h2 h1) (by
  rintro s ⟨seen,m,rfl,h1,h2⟩
  exact ⟨_,done m seen h2,seen,m,rfl,h1,h2⟩) M 0 _ (Nat.zero_le _) (by omega) ⟨seen,m,rfl,hs,hm⟩
 rcases this with ⟨e,g1,g2,g3⟩|⟨r,g1,g2,j,_,g3,g4⟩
 ·exact .inl ⟨e,g1,g2,fun ⟨j,h1,h2⟩=>g3 j (by omega) h1 h2⟩
 ·exact .inr ⟨r,g1,g2,j,g3,g4⟩
theorem Lk.body {s0:List Int} {o:Option (Ex RS (Int×List Int×M8))} {F F':M8→Prop} {Q Q':Prop} {a:Int×List Int×M8→Option (Bd RS (Int×List Int×M8) (Int×List Int×M8))} (h:Lk T k s0 o F Q) (hQ:Q↔Q')
 (ha:∀ seen m,F m→∃ m',a ((T:Int),seen,m)=some (.next ((T:Int),seen,m'))∧F' m'):Lb T k s0 (o.bind (Ex.finB a)) F' Q':=by
 rcases h with ⟨e,rfl,⟨seen,m,rfl,h1,h2⟩,h3⟩|⟨r,rfl,h1,h2⟩
 ·obtain ⟨m',e1,e2⟩:=ha seen m h2
  exact .inl ⟨_,e1,⟨seen,m',rfl,h1,e2⟩,fun h=>h3 (hQ.2 h)⟩
 ·exact .inr ⟨r,rfl,h1,hQ.1 h2⟩
theorem j12_eq {M:Nat} {m:Mv} {g h:Int} {seen:List Int} (hf:m.f≤13):Qat.j12 M self (T:Int) seen (mq m g h)=some (.next ((T:Int),seen,A8 m.a m.b m.c m.d m.e ((m.f+1:Nat):Int) g h)):=by
 show some (Bd.next ((T:Int),seen,A8 m.a m.b m.c m.d m.e (i64w ((m.f:Int)+1)) g h))=_
 rw [idb (by omega)]
 rfl
theorem b10_eq (hself:SelfS T k self) (hN:20≤N) (hk:k≤5) (hx:ok T x) {s0 seen sx:List Int} {m:Mv} (hm:fits x m) (hs:Kp T k s0 seen) {g h:Int}:
 Lb T k s0 (Qat.b10 N self (ks x) (⟨(T:Int),sx⟩:Fi) ((k+1:Nat):Int) (T:Int) seen (mq m g h)) (fun m'=>∃ g h:Int,m'=A8 m.a m.b m.c m.d m.e ((m.f+1:Nat):Int) g h) (doesP T k x m):=by
 have hx0:=hx
 have hm0:=hm
 obtain ⟨h1,h2,h3⟩:=hx
 obtain ⟨m1,m2,m3⟩:=hm
 have eD:i64w ((i64w ((i64w ((i64w ((i64w ((m.a:Int)+m.c))+m.e)) - m.b)) - m.d)) - m.f)=(m.a:Int)+m.c+m.e - m.b - m.d - m.f:=by
  rw [idb (x:=(m.a:Int)+m.c) (by omega),idb (x:=(m.a:Int)+m.c+m.e) (by omega),idb (x:=(m.a:Int)+m.c+m.e - m.b) (by omega),idb (x:=(m.a:Int)+m.c+m.e - m.b - m.d) (by omega),idb (by omega)]
 have eG:i64w ((i64w ((i64w ((T:Int) - x.o)) - x.h)) - x.l)=(T:Int) - x.o - x.h - x.l:=by
  rw [idb (x:=(T:Int) - x.o) (by omega),idb (x:=(T:Int) - x.o - x.h) (by omega),idb (by omega)]
 have hskip:∀ g h:Int,¬ doesP T k x m→Lb T k s0 (Qat.j12 N self (T:Int) seen (mq m g h)) (fun m'=>∃ g h:Int,m'=A8 m.a m.b m.c m.d m.e ((m.f+1:Nat):Int) g h) (doesP T k x m):=by
  intro g h hn
  rw [j12_eq (by omega)]
  exact .inl ⟨_,rfl,⟨seen,_,rfl,hs,g,h,rfl⟩,hn⟩
 unfold Qat.b10
 rw [if_pos ⟨by decide,by decide⟩,if_pos ⟨by decide,by decide⟩]
 refine cast (congrArg (fun o=>Lb T k s0 o _ _) (if_pos (show i64w ((m.e:Int)+m.f)≤(x.l:Int) by rw [idb (by omega)];omega)).symm) ?_
 rw [if_pos ⟨by decide,by decide⟩,if_pos ⟨by decide,by decide⟩,if_pos ⟨by decide,by decide⟩,if_pos ⟨by decide,by decide⟩,if_pos ⟨by decide,by decide⟩,if_pos ⟨by decide,by decide⟩]
 rw [show i64w ((i64w ((i64w ((i64w ((i64w ((mq m g h).get 0 0+(mq m g h).get 2 0))+(mq m g h).get 4 0)) - (mq m g h).get 1 0)) - (mq m g h).get 3 0)) - (mq m g h).get 5 0)=(m.a:Int)+m.c+m.e - m.b - m.d - m.f from eD,idb (x:=0 - ((m.a:Int)+m.c+m.e - m.b - m.d - m.f)) (by omega),max_eq,Option.bind_some,if_pos ⟨by decide,by decide⟩,max_eq,Option.bind_some,if_pos ⟨by decide,by decide⟩,if_pos ⟨by decide,by decide⟩]
 generalize hu:max 0 (0 - ((m.a:Int)+m.c+m.e - m.b - m.d - m.f))=u
 generalize hv:max 0 ((m.a:Int)+m.c+m.e - m.b - m.d - m.f)=v
 rw [show ((mq m g h).set 6 u).set 7 v=mq m u v from rfl]
 show Lb T k s0 (if u>i64w ((i64w ((i64w ((T:Int) - x.o)) - x.h)) - x.l) then _ else _) _ _
 rw [eG]
 by_cases c1:u>(T:Int) - x.o - x.h - x.l
 ·rw [if_pos c1]
  refine hskip u v fun hd=>?_
  have h5:=hd.1.2.2
  omega
 ·rw [if_neg c1,if_pos ⟨by decide,by decide⟩]
  show Lb T k s0 (if v>i64w ((i64w ((i64w ((T:Int) - x.o)) - x.h)) - x.l) then _ else _) _ _
  rw [eG]
  by_cases c2:v>(T:Int) - x.o - x.h - x.l
  ·rw [if_pos c2]
   refine hskip u v fun hd=>?_
   have h5:=hd.1.2.1
   omega
  ·rw [if_neg c2]
   by_cases c3:mq m u v=Ar.rep 8 0
   ·rw [if_pos c3]
    refine hskip u v fun hd=>?_
    have h5:=hd.1.1
    have h6:=congrArg Ar.l c3
    simp only [mq,A8,Ar.rep,List.replicate,List.cons.injEq] at h6
    omega
   ·rw [if_neg c3]
    obtain ⟨b,seen',e,I,F,hb⟩:=works_eq hself hN hk hx0 hm0 hs.1 (g:=u) (h:=v)
    rw [e,Option.bind_some]
    have hK:Kp T k s0 seen':=⟨I,hs.2.trans F⟩
    have hd:b=true↔doesP T k x m:=by
     refine hb.trans ⟨fun h=>⟨⟨?_,by omega,by omega⟩,h⟩,fun h=>h.2⟩
     refine Decidable.byContradiction fun hz=>c3 ?_
     have z1:m.a=0:=by omega
     have z2:m.b=0:=by omega
     have z3:m.c=0:=by omega
     have z4:m.d=0:=by omega
     have z5:m.e=0:=by omega
     have z6:m.f=0:=by omega
     have z7:u=0:=by omega
     have z8:v=0:=by omega
     unfold mq
     rw [z1,z2,z3,z4,z5,z6,z7,z8]
     rfl
    cases b with
    |true=>exact .inr ⟨_,if_pos rfl,⟨_,_,rfl,hK⟩,hd.1 rfl⟩
    |false=>
     dsimp only
     rw [if_neg Bool.false_ne_true,j12_eq (by omega)]
     exact .inl ⟨_,rfl,⟨seen',_,rfl,hK,u,v,rfl⟩,fun h=>Bool.false_ne_true (hd.2 h)⟩
theorem first_eq (hself:SelfS T k self) (hN:20≤N) (hk:k≤5) (hx:ok T x) {seen:List Int} (hI:InvS T k seen):
 ∃ b m seen',Qat.f N self (⟨(T:Int),seen⟩:Fi) (ks x) ((k+1:Nat):Int)=some (m,b,seen',(⟨(T:Int),seen'⟩:Fi))∧InvS T k seen'∧Frm T k seen seen'∧(b=true↔∃ m,fits x m∧doesP T k x m):=by
 have hx0:=hx
 obtain ⟨h1,h2,h3⟩:=hx
 have d8:∀ i:Int,i=0∨i=1∨i=2∨i=3∨i=4∨i=5→(0:Int)≤i∧i< 8:=by omega
 have l5:∀ (a b c d e:Nat) (f g h:Int) (sn:List Int),a+b≤x.o→c+d≤x.h→e≤x.l→Kp T k seen sn→
  Lk T k seen (rounds (fun s=>Qat.b10 N self (ks x) (⟨(T:Int),seen⟩:Fi) ((k+1:Nat):Int) s.1 s.2.1 s.2.2) N ((T:Int),sn,A8 a b c d e 0 g h)) (fun m=>∃ f g h:Int,m=A8 a b c d e f g h) (∃ f,f< x.l - e+1∧doesP T k x ⟨a,b,c,d,e,f⟩):=by
  intro a b c d e f g h sn q1 q2 q3 hs
  have key:=lvl (T:=T) (k:=k) (s0:=seen) (b:=fun s:Int×List Int×M8=>Qat.b10 N self (ks x) (⟨(T:Int),seen⟩:Fi) ((k+1:Nat):Int) s.1 s.2.1 s.2.2) (n:=x.l - e+1) (M:=N) (by omega) (fun i m=>∃ g h:Int,m=A8 a b c d e (i:Int) g h) (fun f=>doesP T k x ⟨a,b,c,d,e,f⟩) ?_ ?_ ⟨g,h,rfl⟩ hs
  rcases key with ⟨z,g1,⟨s1,m1,g2,g3,g4,g5,g6⟩,g7⟩|g
  ·exact .inl ⟨z,g1,⟨s1,m1,g2,g3,_,g4,g5,g6⟩,g7⟩
  ·exact .inr g
  ·rintro i m s hi ⟨g,h,rfl⟩ hs
   exact b10_eq (m:=⟨a,b,c,d,e,i⟩) hself hN hk hx0 ⟨q1,q2,by simp only;omega⟩ hs
  ·rintro m s ⟨g,h,rfl⟩
   dsimp only
   unfold Qat.b10
   rw [if_pos ⟨by decide,by decide⟩,if_pos ⟨by decide,by decide⟩]
   refine if_neg (show ¬ i64w ((e:Int)+((x.l - e+1:Nat):Int))≤(x.l:Int) from ?_)
   rw [idb (by omega)]
   omega
 have l4:∀ (a b c d:Nat) (e f g h:Int) (sn:List Int),a+b≤x.o→c+d≤x.h→Kp T k seen sn→
  Lk T k seen (rounds (fun s=>Qat.b8 N self (ks x) (⟨(T:Int),seen⟩:Fi) ((k+1:Nat):Int) s.1 s.2.1 s.2.2) N ((T:Int),sn,A8 a b c d 0 f g h)) (fun m=>∃ e f g h:Int,m=A8 a b c d e f g h) (∃ e,e< x.l+1∧∃ f,f< x.l - e+1∧doesP T k x ⟨a,b,c,d,e,f⟩):=by
  intro a b c d e f g h sn q1 q2 hs
  have key:=lvl (T:=T) (k:=k) (s0:=seen) (b:=fun s:Int×List Int×M8=>Qat.b8 N self (ks x) (⟨(T:Int),seen⟩:Fi) ((k+1:Nat):Int) s.1 s.2.1 s.2.2) (n:=x.l+1) (M:=N) (by omega) (fun i m=>∃ f g h:Int,m=A8 a b c d (i:Int) f g h) (fun e=>∃ f,f< x.l - e+1∧doesP T k x ⟨a,b,c,d,e,f⟩) ?_ ?_ ⟨f,g,h,rfl⟩ hs
  rcases key with ⟨z,g1,⟨s1,m1,g2,g3,g4,g5,g6,g8⟩,g7⟩|g
  ·exact .inl ⟨z,g1,⟨s1,m1,g2,g3,_,g4,g5,g6,g8⟩,g7⟩
  ·exact .inr g
  ·rintro i m s hi ⟨f,g,h,rfl⟩ hs
   dsimp only
   unfold Qat.b8
   rw [if_pos ⟨by decide,by decide⟩]
   refine cast (congrArg (fun o=>Lb T k seen o _ _) (if_pos (show ((i:Int))≤(x.l:Int) by omega)).symm) ?_
   rw [if_pos ⟨by decide,by decide⟩]
   refine (l5 a b c d i 0 g h s q1 q2 (by omega) hs).body Iff.rfl ?_
   rintro sn m ⟨f,g,h,rfl⟩
   refine ⟨A8 a b c d ((i+1:Nat):Int) f g h,?_,f,g,h,rfl⟩
   show some (Bd.next ((T:Int),sn,A8 a b c d (i64w ((i:Int)+1)) f g h))=_
   rw [idb (by omega)]
   rfl
  ·rintro m s ⟨f,g,h,rfl⟩
   dsimp only
   unfold Qat.b8
   rw [if_pos ⟨by decide,by decide⟩]
   exact if_neg (show ¬ ((x.l+1:Nat):Int)≤(x.l:Int) by omega)
 have l3:∀ (a b c:Nat) (d e f g h:Int) (sn:List Int),a+b≤x.o→c≤x.h→Kp T k seen sn→
  Lk T k seen (rounds (fun s=>Qat.b6 N self (ks x) (⟨(T:Int),seen⟩:Fi) ((k+1:Nat):Int) s.1 s.2.1 s.2.2) N ((T:Int),sn,A8 a b c 0 e f g h)) (fun m=>∃ d e f g h:Int,m=A8 a b c d e f g h) (∃ d,d< x.h - c+1∧∃ e,e< x.l+1∧∃ f,f< x.l - e+1∧doesP T k x ⟨a,b,c,d,e,f⟩):=by
  intro a b c d e f g h sn q1 q2 hs
  have key:=lvl (T:=T) (k:=k) (s0:=seen) (b:=fun s:Int×List Int×M8=>Qat.b6 N self (ks x) (⟨(T:Int),seen⟩:Fi) ((k+1:Nat):Int) s.1 s.2.1 s.2.2) (n:=x.h - c+1) (M:=N) (by omega) (fun i m=>∃ e f g h:Int,m=A8 a b c (i:Int) e f g h) (fun d=>∃ e,e< x.l+1∧∃ f,f< x.l - e+1∧doesP T k x ⟨a,b,c,d,e,f⟩) ?_ ?_ ⟨e,f,g,h,rfl⟩ hs
  rcases key with ⟨z,g1,⟨s1,m1,g2,g3,g4,g5,g6,g8,g9⟩,g7⟩|g
  ·exact .inl ⟨z,g1,⟨s1,m1,g2,g3,_,g4,g5,g6,g8,g9⟩,g7⟩
  ·exact .inr g
  ·rintro i m s hi ⟨e,f,g,h,rfl⟩ hs
   dsimp only
   unfold Qat.b6
   rw [if_pos ⟨by decide,by decide⟩,if_pos ⟨by decide,by decide⟩]
   refine cast (congrArg (fun o=>Lb T k seen o _ _) (if_pos (show i64w ((c:Int)+(i:Int))≤(x.h:Int) by rw [idb (by omega)];omega)).symm) ?_
   rw [if_pos ⟨by decide,by decide⟩]
   refine (l4 a b c i 0 f g h s q1 (by omega) hs).body Iff.rfl ?_
   rintro sn m ⟨e,f,g,h,rfl⟩
   refine ⟨A8 a b c ((i+1:Nat):Int) e f g h,?_,e,f,g,h,rfl⟩
   show some (Bd.next ((T:Int),sn,A8 a b c (i64w ((i:Int)+1)) e f g h))=_
   rw [idb (by omega)]
   rfl
  ·rintro m s ⟨e,f,g,h,rfl⟩
   dsimp only
   unfold Qat.b6
   rw [if_pos ⟨by decide,by decide⟩,if_pos ⟨by decide,by decide⟩]
   refine if_neg (show ¬ i64w ((c:Int)+((x.h - c+1:Nat):Int))≤(x.h:Int) from ?_)
   rw [idb (by omega)]
   omega
 have l2:∀ (a b:Nat) (c d e f g h:Int) (sn:List Int),a+b≤x.o→Kp T k seen sn→
  Lk T k seen (rounds (fun s=>Qat.b4 N self (ks x) (⟨(T:Int),seen⟩:Fi) ((k+1:Nat):Int) s.1 s.2.1 s.2.2) N ((T:Int),sn,A8 a b 0 d e f g h)) (fun m=>∃ c d e f g h:Int,m=A8 a b c d e f g h) (∃ c,c< x.h+1∧∃ d,d< x.h - c+1∧∃ e,e< x.l+1∧∃ f,f< x.l - e+1∧doesP T k x ⟨a,b,c,d,e,f⟩):=by
  intro a b c d e f g h sn q1 hs
  have key:=lvl (T:=T) (k:=k) (s0:=seen) (b:=fun s:Int×List Int×M8=>Qat.b4 N self (ks x) (⟨(T:Int),seen⟩:Fi) ((k+1:Nat):Int) s.1 s.2.1 s.2.2) (n:=x.h+1) (M:=N) (by omega) (fun i m=>∃ d e f g h:Int,m=A8 a b (i:Int) d e f g h) (fun c=>∃ d,d< x.h - c+1∧∃ e,e< x.l+1∧∃ f,f< x.l - e+1∧doesP T k x ⟨a,b,c,d,e,f⟩) ?_ ?_ ⟨d,e,f,g,h,rfl⟩ hs
  rcases key with ⟨z,g1,⟨s1,m1,g2,g3,g4⟩,g7⟩|g
  ·exact .inl ⟨z,g1,⟨s1,m1,g2,g3,_,g4⟩,g7⟩
  ·exact .inr g
  ·rintro i m s hi ⟨d,e,f,g,h,rfl⟩ hs
   dsimp only
   unfold Qat.b4
   rw [if_pos ⟨by decide,by decide⟩]
   refine cast (congrArg (fun o=>Lb T k seen o _ _) (if_pos (show ((i:Int))≤(x.h:Int) by omega)).symm) ?_
   rw [if_pos ⟨by decide,by decide⟩]
   refine (l3 a b i 0 e f g h s q1 (by omega) hs).body Iff.rfl ?_
   rintro sn m ⟨d,e,f,g,h,rfl⟩
   refine ⟨A8 a b ((i+1:Nat):Int) d e f g h,?_,d,e,f,g,h,rfl⟩
   show some (Bd.next ((T:Int),sn,A8 a b (i64w ((i:Int)+1)) d e f g h))=_
   rw [idb (by omega)]
   rfl
  ·rintro m s ⟨d,e,f,g,h,rfl⟩
   dsimp only
   unfold Qat.b4
   rw [if_pos ⟨by decide,by decide⟩]
   exact if_neg (show ¬ ((x.h+1:Nat):Int)≤(x.h:Int) by omega)
 have l1:∀ (a:Nat) (b c d e f g h:Int) (sn:List Int),a≤x.o→Kp T k seen sn→
  Lk T k seen (rounds (fun s=>Qat.b2 N self (ks x) (⟨(T:Int),seen⟩:Fi) ((k+1:Nat):Int) s.1 s.2.1 s.2.2) N ((T:Int),sn,A8 a 0 c d e f g h)) (fun m=>∃ b c d e f g h:Int,m=A8 a b c d e f g h) (∃ b,b< x.o - a+1∧∃ c,c< x.h+1∧∃ d,d< x.h - c+1∧∃ e,e< x.l+1∧∃ f,f< x.l - e+1∧doesP T k x ⟨a,b,c,d,e,f⟩):=by
  intro a b c d e f g h sn q1 hs
  have key:=lvl (T:=T) (k:=k) (s0:=seen) (b:=fun s:Int×List Int×M8=>Qat.b2 N self (ks x) (⟨(T:Int),seen⟩:Fi) ((k+1:Nat):Int) s.1 s.2.1 s.2.2) (n:=x.o - a+1) (M:=N) (by omega) (fun i m=>∃ c d e f g h:Int,m=A8 a (i:Int) c d e f g h) (fun b=>∃ c,c< x.h+1∧∃ d,d< x.h - c+1∧∃ e,e< x.l+1∧∃ f,f< x.l - e+1∧doesP T k x ⟨a,b,c,d,e,f⟩) ?_ ?_ ⟨c,d,e,f,g,h,rfl⟩ hs
  rcases key with ⟨z,g1,⟨s1,m1,g2,g3,g4⟩,g7⟩|g
  ·exact .inl ⟨z,g1,⟨s1,m1,g2,g3,_,g4⟩,g7⟩
  ·exact .inr g
  ·rintro i m s hi ⟨c,d,e,f,g,h,rfl⟩ hs
   dsimp only
   unfold Qat.b2
   rw [if_pos ⟨by decide,by decide⟩,if_pos ⟨by decide,by decide⟩]
   refine cast (congrArg (fun o=>Lb T k seen o _ _) (if_pos (show i64w ((a:Int)+(i:Int))≤(x.o:Int) by rw [idb (by omega)];omega)).symm) ?_
   rw [if_pos ⟨by decide,by decide⟩]
   refine (l2 a i 0 d e f g h s (by omega) hs).body Iff.rfl ?_
   rintro sn m ⟨c,d,e,f,g,h,rfl⟩
   refine ⟨A8 a ((i+1:Nat):Int) c d e f g h,?_,c,d,e,f,g,h,rfl⟩
   show some (Bd.next ((T:Int),sn,A8 a (i64w ((i:Int)+1)) c d e f g h))=_
   rw [idb (by omega)]
   rfl
  ·rintro m s ⟨c,d,e,f,g,h,rfl⟩
   dsimp only
   unfold Qat.b2
   rw [if_pos ⟨by decide,by decide⟩,if_pos ⟨by decide,by decide⟩]
   refine if_neg (show ¬ i64w ((a:Int)+((x.o - a+1:Nat):Int))≤(x.o:Int) from ?_)
   rw [idb (by omega)]
   omega
 have hQ:(∃ a,a< x.o+1∧∃ b,b< x.o - a+1∧∃ c,c< x.h+1∧∃ d,d< x.h - c+1∧∃ e,e< x.l+1∧∃ f,f< x.l - e+1∧doesP T k x ⟨a,b,c,d,e,f⟩)↔∃ m,fits x m∧doesP T k x m:=by
  constructor
  ·rintro ⟨a,p1,b,p2,c,p3,d,p4,e,p5,f,p6,p⟩
   exact ⟨_,⟨by simp only;omega,by simp only;omega,by simp only;omega⟩,p⟩
  ·rintro ⟨⟨a,b,c,d,e,f⟩,⟨p1,p2,p3⟩,p⟩
   simp only at p1 p2 p3
   exact ⟨a,by omega,b,by omega,c,by omega,d,by omega,e,by omega,f,by omega,p⟩
 unfold Qat.f
 rw [if_pos ⟨by decide,by decide⟩]
 have key:=loop_find (b:=fun s:Int×List Int×M8=>Qat.b0 N self (ks x) (⟨(T:Int),seen⟩:Fi) ((k+1:Nat):Int) s.1 s.2.1 s.2.2) (n:=x.o+1) (fun i s=>∃ sn m,s=((T:Int),sn,m)∧Kp T k seen sn∧∃ b c d e f g h:Int,m=A8 (i:Int) b c d e f g h) (fun e=>∃ sn,e=(sn,(T:Int))∧Kp T k seen sn) (fun r=>∃ m sn,r=(m,true,sn,(⟨(T:Int),sn⟩:Fi))∧Kp T k seen sn) (fun a=>∃ b,b< x.o - a+1∧∃ c,c< x.h+1∧∃ d,d< x.h - c+1∧∃ e,e< x.l+1∧∃ f,f< x.l - e+1∧doesP T k x ⟨a,b,c,d,e,f⟩) ?_ ?_ N 0 ((T:Int),seen,(Ar.rep 8 0).set 0 0) (Nat.zero_le _) (by omega) ⟨seen,_,rfl,⟨hI,Frm.refl _ _ _⟩,0,0,0,0,0,0,0,rfl⟩
 rcases key with ⟨e,g1,⟨sn,rfl,hs⟩,g3⟩|⟨r,g1,⟨m,sn,rfl,hs⟩,j,_,g3,g4⟩
 ·rw [g1]
  refine ⟨false,Ar.rep 8 0,sn,rfl,hs.1,hs.2,?_⟩
  rw [← hQ]
  exact ⟨fun h=>absurd h Bool.false_ne_true,fun ⟨a,p1,p⟩=>absurd p (g3 a (Nat.zero_le _) p1)⟩
 ·rw [g1]
  refine ⟨true,m,sn,rfl,hs.1,hs.2,?_⟩
  rw [← hQ]
  exact ⟨fun _=>⟨j,g3,g4⟩,fun _=>rfl⟩
 ·rintro i s hi ⟨sn,m,rfl,hs,b,c,d,e,f,g,h,rfl⟩
  dsimp only
  unfold Qat.b0
  rw [if_pos ⟨by decide,by decide⟩,if_pos (show (A8 (i:Int) b c d e f g h).get 0 0≤(ks x).Qa3 from (show (i:Int)≤(x.o:Int) by omega)),if_pos ⟨by decide,by decide⟩]
  refine find_in (S:=fun s=>∃ sn m,s=((T:Int),sn,m)∧Kp T k seen sn∧∃ b c d e f g h:Int,m=A8 ((i+1:Nat):Int) b c d e f g h) (l1 i 0 c d e f g h sn (by omega) hs) ?_
  rintro z ⟨sn,m,rfl,hs,b,c,d,e,f,g,h,rfl⟩
  refine ⟨((T:Int),sn,A8 ((i+1:Nat):Int) b c d e f g h),?_,sn,_,rfl,hs,b,c,d,e,f,g,h,rfl⟩
  show some (Bd.next ((T:Int),sn,A8 (i64w ((i:Int)+1)) b c d e f g h))=_
  rw [idb (by omega)]
  rfl
 ·rintro s ⟨sn,m,rfl,hs,b,c,d,e,f,g,h,rfl⟩
  dsimp only
  unfold Qat.b0
  rw [if_pos ⟨by decide,by decide⟩,if_neg (show ¬ (A8 ((x.o+1:Nat):Int) b c d e f g h).get 0 0≤(ks x).Qa3 from (show ¬ ((x.o+1:Nat):Int)≤(x.o:Int) by omega))]
  exact ⟨_,rfl,sn,rfl,hs⟩
end
theorem pow_spec {N:Nat} (hN:20≤N) (k:Nat) (hk:k≤5):QbF.f N (k:Int)=some ((3^k:Nat):Int):=by
 have main:∀ (M i:Nat),i≤k→i< M→rounds (fun s=>QbF.b0 N s.1 s.2) M ((i:Int),((3^(k - i):Nat):Int))=some (.go ((3^k:Nat):Int)):=by
  intro M
  induction M with
  |zero=>intro i _ h;exact absurd h (Nat.not_lt_zero _)
  |succ M ih=>
   intro i hi hM
   cases i with
   |zero=>
    refine rounds_out ?_
    unfold QbF.b0
    exact if_neg (show ¬ ((0:Nat):Int)>0 by decide)
   |succ i=>
    have h3:3^(k - (i+1))≤3^5:=Nat.pow_le_pow_right (by omega) (by omega)
    have e:QbF.b0 N ((i+1:Nat):Int) ((3^(k - (i+1)):Nat):Int)=some (.next ((i:Int),((3^(k - i):Nat):Int))):=by
     unfold QbF.b0
     rw [if_pos (by omega),idb (x:=((i+1:Nat):Int) - 1) (by omega),show k - i=k - (i+1)+1 by omega,Nat.pow_succ]
     generalize 3^(k - (i+1))=q at h3 ⊢
     rw [idb (by omega)]
     congr 3<;>omega
    exact (rounds_next (n:=M) (b:=fun s:Int×Int=>QbF.b0 N s.1 s.2) (s:=(((i+1:Nat):Int),((3^(k - (i+1)):Nat):Int))) e).trans (ih i (by omega) (by omega))
 have:=main N k (Nat.le_refl _) (by omega)
 rw [Nat.sub_self] at this
 unfold QbF.f
 rw [show ((k:Int),(1:Int))=((k:Int),((3^0:Nat):Int)) from rfl,this]
 rfl
theorem rdL_natD {l:List Int} {i:Nat}:rdL l (i:Int) 0=l.getD i 0:=by unfold rdL;rw [Int.toNat_natCast]
theorem stL_nat' {l:List Int} {i:Nat} {v:Int}:stL l (i:Int) v=l.set i v:=by unfold stL;rw [Int.toNat_natCast]
theorem j0_eq {N T:Nat} {self:Fi→KS→Int→Option (Bool×List Int×Fi)} {x:Kn} {q:Nat} {s:List Int} (hx:ok T x) (hq:q≤5) (hs:s.length=32928):
 QaN.j0 N self (ks x) (q:Int) (T:Int) s=some (s.getD (atI x q) 0==2,s,⟨(T:Int),s⟩):=by
 have he:=at_eq hx hq
 have hlt:=at_lt hx hq
 unfold atE at he
 unfold QaN.j0
 rw [he,if_pos ⟨by omega,by omega⟩,rdL_natD]
theorem InvS.mono {T q r:Nat} {s:List Int} (h:InvS T q s) (hr:r≤q):InvS T r s:=⟨h.1,fun y k h1 h2 h3=>h.2 y k h1 (by omega) h3⟩
theorem inv_start (T:Nat):InvS T 5 (List.replicate 32928 0):=by
 refine ⟨List.length_replicate ..,fun y r hy _ hr=> .inl ?_⟩
 rw [List.getD_eq_getElem?_getD,List.getElem?_replicate,if_pos (at_lt hy hr)]
 rfl
theorem can_spec {N T:Nat} (hN:20≤N):∀ (q:Nat),q≤5→∀ kf,q< kf→SelfS T q (QaN.g N kf):=by
 intro q
 induction q with
 |zero=>
  intro _ kf hk seen x hI hx
  obtain ⟨kf,rfl⟩:∃ j,kf=j+1:=⟨kf - 1,by omega⟩
  refine ⟨seen,?_,hI,Frm.refl _ _ _⟩
  show QaN.body N (QaN.g N kf) ⟨(T:Int),seen⟩ (ks x) ((0:Nat):Int)=_
  unfold QaN.body
  rw [cases_spec hx,Option.bind_some]
  by_cases c:x.c≤1
  ·rw [if_pos (by omega),canB_t (show canP T 0 x from c)]
  ·rw [if_neg (by omega),if_pos (by omega),canB_f (show ¬ canP T 0 x from c)]
 |succ q ih=>
  intro hq kf hk seen x hI hx
  obtain ⟨kf,rfl⟩:∃ j,kf=j+1:=⟨kf - 1,by omega⟩
  have hself:=ih (by omega) kf (by omega)
  have hj:∀ s:List Int,s.length=32928→QaN.j0 N (QaN.g N kf) (ks x) ((q+1:Nat):Int) (T:Int) s=some (s.getD (atI x (q+1)) 0==2,s,⟨(T:Int),s⟩):=fun s hs=>j0_eq hx hq hs
  have he:=at_eq hx hq
  have hlt:=at_lt hx hq
  unfold atE at he
  show ∃ seen',QaN.body N (QaN.g N kf) ⟨(T:Int),seen⟩ (ks x) ((q+1:Nat):Int)=some (canB T (q+1) x,seen',⟨(T:Int),seen'⟩)∧InvS T (q+1) seen'∧Frm T (q+1) seen seen'
  unfold QaN.body
  rw [cases_spec hx,Option.bind_some]
  by_cases c:x.c≤1
  ·rw [if_pos (by omega),canB_t (show canP T (q+1) x from .inl c)]
   exact ⟨seen,rfl,hI,Frm.refl _ _ _⟩
  ·rw [if_neg (by omega),if_neg (by omega),Option.bind_some,pow_spec hN (q+1) hq,Option.bind_some]
   by_cases c2:x.c≤3^(q+1)
   ·have hlen:=hI.1
    rw [if_neg (by omega),he]
    dsimp only
    have hg:(0:Int)≤((atI x (q+1):Nat):Int)∧((atI x (q+1):Nat):Int)< (seen.length:Int):=⟨by omega,by omega⟩
    rw [if_pos hg,rdL_natD]
    rcases hI.2 x (q+1) hx (Nat.le_refl _) hq with hv|⟨hv,hcv⟩|⟨hv,hcv⟩
    ·rw [if_pos hv,if_pos hg,stL_nat']
     have hne:∀ (y:Kn) (r:Nat),ok T y→r≤5→¬ (x=y∧q+1=r)→∀ (l:List Int) (v:Int),l.length=32928→(l.set (atI x (q+1)) v).getD (atI y r) 0=l.getD (atI y r) 0:=by
      intro y r hy hr hn l v hl
      rw [getD_set' (by omega),if_neg (fun g=>hn (at_inj hx hy hq hr g))]
     have hat:∀ (l:List Int) (v:Int),l.length=32928→(l.set (atI x (q+1)) v).getD (atI x (q+1)) 0=v:=by
      intro l v hl
      rw [getD_set' (by omega),if_pos rfl]
     have I0:InvS T q (seen.set (atI x (q+1)) 1):=by
      refine ⟨by rw [List.length_set];exact hlen,fun y r hy hrq hr=>?_⟩
      rw [hne y r hy hr (fun g=>by omega) seen 1 hlen]
      exact hI.2 y r hy (by omega) hr
     obtain ⟨b,m,s1,e1,I1,F1,hb⟩:=first_eq hself hN (by omega) hx I0
     have hbc:b=canB T (q+1) x:=by
      cases b with
      |true=>
       obtain ⟨m,h1,h2⟩:=hb.1 rfl
       exact (canB_t (show canP T (q+1) x from .inr ⟨c2,m,h1,h2⟩)).symm
      |false=>
       refine (canB_f ?_).symm
       rintro (h|⟨_,m,h1,h2⟩)
       ·exact c h
       ·exact Bool.false_ne_true (hb.2 ⟨m,h1,h2⟩)
     have hF:∀ (y:Kn) (r:Nat),ok T y→q< r→r≤5→¬ (x=y∧q+1=r)→s1.getD (atI y r) 0=seen.getD (atI y r) 0:=by
      intro y r hy hqr hr hn
      rw [F1 y r hy hqr hr,hne y r hy hr hn seen 1 hlen]
     rw [e1,Option.bind_some]
     dsimp only
     rw [hbc]
     cases hcv:canB T (q+1) x with
     |true=>
      have hg1:(0:Int)≤((atI x (q+1):Nat):Int)∧((atI x (q+1):Nat):Int)< (s1.length:Int):=⟨by omega,by have:=I1.1;omega⟩
      rw [if_pos rfl,if_pos hg1,stL_nat',hj _ (by rw [List.length_set];exact I1.1),hat s1 2 I1.1]
      refine ⟨_,rfl,⟨by rw [List.length_set];exact I1.1,fun y r hy hrq hr=>?_⟩,fun y r hy hqr hr=>?_⟩
      ·by_cases hn:x=y∧q+1=r
       ·obtain ⟨rfl,rfl⟩:=hn
        exact .inr (.inr ⟨hat s1 2 I1.1,hcv⟩)
       ·rw [hne y r hy hr hn s1 2 I1.1]
        by_cases hrq':r≤q
        ·exact I1.2 y r hy hrq' hr
        ·rw [hF y r hy (by omega) hr hn]
         exact hI.2 y r hy hrq hr
      ·rw [hne y r hy hr (fun g=>by omega) s1 2 I1.1,hF y r hy (by omega) hr (fun g=>by omega)]
     |false=>
      have h1:s1.getD (atI x (q+1)) 0=1:=by rw [F1 x (q+1) hx (by omega) hq,hat seen 1 hlen]
      rw [if_neg Bool.false_ne_true,hj _ I1.1,h1]
      refine ⟨s1,rfl,⟨I1.1,fun y r hy hrq hr=>?_⟩,fun y r hy hqr hr=>hF y r hy (by omega) hr (fun g=>by omega)⟩
      by_cases hn:x=y∧q+1=r
      ·obtain ⟨rfl,rfl⟩:=hn
       exact .inr (.inl ⟨h1,hcv⟩)
      ·by_cases hrq':r≤q
       ·exact I1.2 y r hy hrq' hr
       ·rw [hF y r hy (by omega) hr hn]
        exact hI.2 y r hy hrq hr
    ·rw [if_neg (by omega),hj seen hlen,hv,hcv]
     exact ⟨seen,rfl,hI,Frm.refl _ _ _⟩
    ·rw [if_neg (by omega),hj seen hlen,hv,hcv]
     exact ⟨seen,rfl,hI,Frm.refl _ _ _⟩
   ·rw [if_pos (by omega)]
    refine ⟨seen,?_,hI,Frm.refl _ _ _⟩
    rw [canB_f (fun h=>?_)]
    exact c2 (canP_le h)
end Go.Proofs.YtgpdpedpmhonkaaX.W
namespace Go.Proofs.YtgpdpedpmhonkaaX.W
open Go
set_option linter.unusedVariables false
set_option linter.unusedSimpArgs false
abbrev Tk:=Qaq
theorem in_impl (N:Nat) (v lo hi:Int):Qb0.f N v lo hi=some (decide (lo≤v∧v≤hi)):=by
 unfold Qb0.f
 by_cases h:lo≤v
 ·rw [if_pos h];congr 1;rw [decide_eq_decide];exact ⟨fun g=>⟨h,g⟩,fun g=>g.2⟩
 ·rw [if_neg h,decide_eq_false (fun g=>h g.1)]
def okP (t:Tk):Prop:=(1≤t.QaF∧t.QaF≤13)∧0≤t.Qa0∧t.Qa0≤2
instance (t:Tk):Decidable (okP t):=by unfold okP;infer_instance
def x0 (t:Tk):Kn:=if t.Qa0=0 then ⟨0,t.QaF.toNat,0,t.QbU⟩ else if t.Qa0=1 then ⟨0,0,t.QaF.toNat,t.QbU⟩ else ⟨t.QaF.toNat,0,0,t.QbU⟩
def tT (t:Tk):Nat:=t.QaF.toNat+(if t.QbI=true then 1 else 0)
theorem x0_ok {t:Tk} (h:okP t):ok (tT t) (x0 t):=by
 obtain ⟨h1,h2⟩:=h
 unfold ok tT x0
 split<;>split<;>(try split)<;>simp only<;>omega
theorem begin_eq (N:Nat) {t:Tk} (h:okP t):QbA.f N t=some ((⟨(tT t:Int),List.replicate 32928 0⟩:Fi),ks (x0 t)):=by
 obtain ⟨⟨h1,h2⟩,h3⟩:=h
 obtain ⟨c,kd,nn,g⟩:=t
 simp only at h1 h2 h3
 obtain ⟨c,rfl⟩:=Int.eq_ofNat_of_zero_le (show 0≤c by omega)
 have e1:i64w (c:Int)=(c:Int):=idb (by omega)
 have e2:i64w ((c:Int)+1)=(c:Int)+1:=idb (by omega)
 have j:∀ T:Int,QbA.j0 N (⟨(c:Int),kd,nn,g⟩:Tk) T=some ((⟨T,List.replicate 32928 0⟩:Fi),ks (x0 ⟨(c:Int),kd,nn,g⟩)):=by
  intro T
  unfold QbA.j0 x0
  have k1:kd=0∨kd=1∨kd=2:=by omega
  rcases k1 with rfl|rfl|rfl<;>dsimp only<;>rw [e1]
  ·rw [if_pos rfl,if_pos rfl]
   unfold QbA.j1
   cases nn
   ·rw [if_neg Bool.false_ne_true];rfl
   ·rw [if_pos rfl];rfl
  ·rw [if_neg (by decide),if_pos rfl,if_neg (by decide),if_pos rfl]
   unfold QbA.j1
   cases nn
   ·rw [if_neg Bool.false_ne_true];rfl
   ·rw [if_pos rfl];rfl
  ·rw [if_neg (by decide),if_neg (by decide),if_neg (by decide),if_neg (by decide)]
   unfold QbA.j1
   cases nn
   ·rw [if_neg Bool.false_ne_true];rfl
   ·rw [if_pos rfl];rfl
 unfold QbA.f
 rw [if_pos ⟨by decide,by decide⟩]
 dsimp only
 rw [e1,e2,j,j]
 cases g
 ·rw [if_neg Bool.false_ne_true];rfl
 ·rw [if_pos rfl]
  simp only [tT,if_true,Int.toNat_natCast]
  rfl
def pk (kd:Int) (l:List Int):List Int×List Int×List Int×List Int:=if kd=0 then ([],l,[],[]) else if kd=1 then ([],[],l,[]) else (l,[],[],[])
theorem known_loop {N:Nat} {t:Tk} (h:okP t) (hN:20≤N):∃ l:List Int,l.length=t.QaF.toNat∧rounds (fun s=>Qba.b0 N t s.1 s.2.1 s.2.2.1 s.2.2.2.1 s.2.2.2.2) N ([],[],[],[],0)=some (.go (pk t.Qa0 l)):=by
 obtain ⟨⟨h1,h2⟩,h3⟩:=h
 have i8:∀ z:Int,0≤z∧z≤14→i8w z=z:=fun z hz=>i8w_id (by omega) (by omega)
 have k1:t.Qa0=0∨t.Qa0=1∨t.Qa0=2:=by omega
 have main:∀ (M i:Nat) (l:List Int),l.length=i→(i:Int)≤t.QaF→t.QaF.toNat - i< M→∃ l':List Int,l'.length=t.QaF.toNat∧rounds (fun s=>Qba.b0 N t s.1 s.2.1 s.2.2.1 s.2.2.2.1 s.2.2.2.2) M ((pk t.Qa0 l).1,(pk t.Qa0 l).2.1,(pk t.Qa0 l).2.2.1,(pk t.Qa0 l).2.2.2,(i:Int))=some (.go (pk t.Qa0 l')):=by
  intro M
  induction M with
  |zero=>intro i l _ _ h;exact absurd h (Nat.not_lt_zero _)
  |succ M ih=>
   intro i l hl hi hM
   by_cases c:(i:Int)< t.QaF
   ·obtain ⟨l',e1,e2⟩:=ih (i+1) (l++[(i:Int)]) (by simp [hl]) (by omega) (by omega)
    refine ⟨l',e1,(rounds_next ?_).trans e2⟩
    dsimp only
    unfold Qba.b0
    rw [if_pos c]
    rcases k1 with k|k|k<;>rw [k]<;>unfold pk
    ·simp only [show rdL ([1,2,0]:List Int) 0 0=1 from rfl,Int.reduceEq,if_true,if_false]
     rw [if_pos (by rw [hl];simp only [List.length_cons,List.length_nil];omega)]
     unfold Qba.j2
     rw [i8 _ (by omega)]
     rfl
    ·simp only [show rdL ([1,2,0]:List Int) 1 0=2 from rfl,Int.reduceEq,if_true,if_false]
     rw [if_pos (by rw [hl];simp only [List.length_cons,List.length_nil];omega)]
     unfold Qba.j2
     rw [i8 _ (by omega)]
     rfl
    ·simp only [show rdL ([1,2,0]:List Int) 2 0=0 from rfl,Int.reduceEq,if_true,if_false]
     rw [if_pos (by rw [hl];simp only [List.length_cons,List.length_nil];omega)]
     unfold Qba.j2
     rw [i8 _ (by omega)]
     rfl
   ·refine ⟨l,by omega,rounds_out ?_⟩
    dsimp only
    unfold Qba.b0
    rw [if_neg c]
 obtain ⟨l,e1,e2⟩:=main N 0 [] rfl (by omega) (by omega)
 refine ⟨l,e1,?_⟩
 rw [← e2]
 rcases k1 with k|k|k<;>rw [k]<;>rfl
theorem sorts_b0 {N:Nat} {a:Ar (List Int) 4} {z:KQ} {i:Nat} (hi:i< 4):Qbj.b0 N a z (i:Int)=some (.next ((⟨z.Qav.set (i:Int) ((a.get (i:Int) []).length:Int),z.QaU⟩:KQ),((i+1:Nat):Int))):=by
 have hj:∀ z,Qbj.j2 N (i:Int) z=some (.next (z,((i+1:Nat):Int))):=by
  intro z
  unfold Qbj.j2
  rw [idb (x:=(i:Int)+1) (by omega)]
  rfl
 unfold Qbj.b0
 rw [if_pos (by omega),hj,hj,hj,hj]
 have k1:i=0∨i=1∨i=2∨i=3:=by omega
 rcases k1 with rfl|rfl|rfl|rfl<;>rfl
theorem sorts_eq {N:Nat} (hN:20≤N) (l0 l1 l2 l3:List Int) (n:Bool):Qbj.f N (⟨[l0,l1,l2,l3],rfl⟩:Ar (List Int) 4) n=some (⟨A4 l0.length l1.length l2.length l3.length,n⟩:KQ):=by
 obtain ⟨N,rfl⟩:∃ M,N=M+5:=⟨N - 5,by omega⟩
 have e0:=sorts_b0 (N:=N+5) (a:=(⟨[l0,l1,l2,l3],rfl⟩:Ar (List Int) 4)) (z:=⟨Ar.rep 4 0,n⟩) (i:=0) (by omega)
 have e1:=sorts_b0 (N:=N+5) (a:=(⟨[l0,l1,l2,l3],rfl⟩:Ar (List Int) 4)) (z:=⟨A4 l0.length 0 0 0,n⟩) (i:=1) (by omega)
 have e2:=sorts_b0 (N:=N+5) (a:=(⟨[l0,l1,l2,l3],rfl⟩:Ar (List Int) 4)) (z:=⟨A4 l0.length l1.length 0 0,n⟩) (i:=2) (by omega)
 have e3:=sorts_b0 (N:=N+5) (a:=(⟨[l0,l1,l2,l3],rfl⟩:Ar (List Int) 4)) (z:=⟨A4 l0.length l1.length l2.length 0,n⟩) (i:=3) (by omega)
 have e4:Qbj.b0 (N+5) (⟨[l0,l1,l2,l3],rfl⟩:Ar (List Int) 4) ⟨A4 l0.length l1.length l2.length l3.length,n⟩ ((4:Nat):Int)=some (.out (.go ⟨A4 l0.length l1.length l2.length l3.length,n⟩)):=if_neg (by omega)
 unfold Qbj.f
 rw [show rounds (fun s:KQ×Int=>Qbj.b0 (N+5) (⟨[l0,l1,l2,l3],rfl⟩:Ar (List Int) 4) s.1 s.2) (N+5) ((⟨Ar.rep 4 0,n⟩:KQ),0)=some (.go ⟨A4 l0.length l1.length l2.length l3.length,n⟩) from
  (rounds_next (n:=N+4) (s:=((⟨Ar.rep 4 0,n⟩:KQ),(0:Int))) e0).trans ((rounds_next (n:=N+3) (s:=((⟨A4 l0.length 0 0 0,n⟩:KQ),((1:Nat):Int))) e1).trans ((rounds_next (n:=N+2) (s:=((⟨A4 l0.length l1.length 0 0,n⟩:KQ),((2:Nat):Int))) e2).trans ((rounds_next (n:=N+1) (s:=((⟨A4 l0.length l1.length l2.length 0,n⟩:KQ),((3:Nat):Int))) e3).trans (rounds_out (n:=N) (s:=((⟨A4 l0.length l1.length l2.length l3.length,n⟩:KQ),((4:Nat):Int))) e4))))]
 rfl
theorem known_eq {N:Nat} {t:Tk} (h:okP t) (hN:20≤N):∃ r:Ar (List Int) 4,Qba.f N t=some r∧Qbj.f N (⟨[r.get 0 [],r.get 1 [],r.get 2 [],r.get 3 []],rfl⟩:Ar (List Int) 4) t.QbU=some (kq (tT t) (x0 t)):=by
 obtain ⟨l,hl,e⟩:=known_loop h hN
 obtain ⟨⟨h1,h2⟩,h3⟩:=h
 have k1:t.Qa0=0∨t.Qa0=1∨t.Qa0=2:=by omega
 have hT:(tT t:Int)=t.QaF+(if t.QbI=true then 1 else 0):=by
  unfold tT
  split<;>omega
 refine ⟨⟨[(pk t.Qa0 l).1,(pk t.Qa0 l).2.1,(pk t.Qa0 l).2.2.1,if t.QbI=true then [t.QaF] else (pk t.Qa0 l).2.2.2],rfl⟩,?_,?_⟩
 ·unfold Qba.f
  rw [if_pos ⟨by omega,by simp only [List.length_cons,List.length_nil];omega⟩,e]
  show Qba.a0 N t _ _ _ _=_
  unfold Qba.a0
  by_cases c:t.QbI=true
  ·rw [if_pos c,if_pos c]
  ·rw [if_neg c,if_neg c]
 ·refine (sorts_eq hN (pk t.Qa0 l).1 (pk t.Qa0 l).2.1 (pk t.Qa0 l).2.2.1 (if t.QbI=true then [t.QaF] else (pk t.Qa0 l).2.2.2) t.QbU).trans (congrArg some ?_)
  refine kq_mk ?_ ?_ ?_ ?_ ?_
  all_goals unfold x0<;>(try unfold pk)
  all_goals rcases k1 with k|k|k<;>rw [k]
  all_goals simp only [Int.reduceEq,if_true,if_false,List.length_nil,hl,hT]
  all_goals (try omega)
  all_goals (try rfl)
  all_goals (split<;>simp only [List.length_cons,List.length_nil]<;>omega)
def lwf (p:Nat→Bool):Nat→Nat→Int×Int
 |0,_=>(0,6)
 |m+1,i=>if p i=true then ((i:Int),0) else lwf p m (i+1)
theorem InvS.up {T q:Nat} {s s':List Int} (h:InvS T 5 s) (g:InvS T q s') (f:Frm T q s s'):InvS T 5 s':=by
 refine ⟨g.1,fun y r hy hr hr5=>?_⟩
 by_cases c:r≤q
 ·exact g.2 y r hy c hr5
 ·rw [f y r hy (by omega) hr5]
  exact h.2 y r hy hr hr5
theorem least_spec {N:Nat} {t:Tk} (h:okP t) (hN:20≤N) (hv:Qce.f N t=some true):Qbn.f N t=some (lwf (fun k=>canB (tT t) k (x0 t)) 6 0):=by
 unfold Qbn.f
 rw [hv,Option.bind_some,if_pos rfl,begin_eq N h,Option.bind_some]
 have main:∀ (m i M:Nat) (seen:List Int),i+m=6→m< M→InvS (tT t) 5 seen→(rounds (fun s=>Qbn.b0 N ((⟨(tT t:Int),List.replicate 32928 0⟩:Fi),ks (x0 t)) s.1 s.2.1 s.2.2) M ((tT t:Int),seen,(i:Int))).bind (Ex.fin fun s=>Qbn.a0 N)=some (lwf (fun k=>canB (tT t) k (x0 t)) m i):=by
  intro m
  induction m with
  |zero=>
   intro i M seen him hM hI
   obtain ⟨M,rfl⟩:∃ j,M=j+1:=⟨M - 1,by omega⟩
   rw [rounds_out (n:=M) (e:= .go ()) (by unfold Qbn.b0;exact if_neg (by simp only;omega))]
   rfl
  |succ m ih=>
   intro i M seen him hM hI
   obtain ⟨M,rfl⟩:∃ j,M=j+1:=⟨M - 1,by omega⟩
   obtain ⟨s',e,I,F⟩:=can_spec (T:=tT t) hN i (by omega) N (by omega) seen (x0 t) (hI.mono (by omega)) (x0_ok h)
   have eb:Qbn.b0 N ((⟨(tT t:Int),List.replicate 32928 0⟩:Fi),ks (x0 t)) (tT t:Int) seen (i:Int)=if canB (tT t) i (x0 t)=true then some (.out (.ret ((i:Int),0))) else some (.next ((tT t:Int),s',((i+1:Nat):Int))):=by
    unfold Qbn.b0 QaN.f
    rw [if_pos (by omega)]
    dsimp only
    rw [e,Option.bind_some,idb (x:=(i:Int)+1) (by omega)]
    rfl
   unfold lwf
   by_cases c:canB (tT t) i (x0 t)=true
   ·rw [if_pos c] at eb
    rw [rounds_out (n:=M) (s:=((tT t:Int),seen,(i:Int))) eb,if_pos c]
    rfl
   ·rw [if_neg c] at eb
    rw [rounds_next (n:=M) (s:=((tT t:Int),seen,(i:Int))) eb,if_neg c]
    exact ih (i+1) M s' (by omega) (by omega) (hI.up I F)
 exact main 6 0 N _ rfl (by omega) (inv_start _)
theorem least_impl {N:Nat} {t:Tk} (h:okP t) (hN:20≤N) (hv:Qbr.f N t=some true):Qbm.f N t=some (lwf (fun k=>canB (tT t) k (x0 t)) 6 0):=by
 unfold Qbm.f
 rw [hv,Option.bind_some,if_pos rfl]
 obtain ⟨r,e1,e2⟩:=known_eq h hN
 have main:∀ (m i M:Nat),i+m=6→m< M→(rounds (fun s=>Qbm.b0 N t s) M (i:Int)).bind (Ex.fin fun s=>Qbm.a0 N)=some (lwf (fun k=>canB (tT t) k (x0 t)) m i):=by
  intro m
  induction m with
  |zero=>
   intro i M him hM
   obtain ⟨M,rfl⟩:∃ j,M=j+1:=⟨M - 1,by omega⟩
   rw [rounds_out (n:=M) (e:= .go ()) (by unfold Qbm.b0;exact if_neg (by omega))]
   rfl
  |succ m ih=>
   intro i M him hM
   obtain ⟨M,rfl⟩:∃ j,M=j+1:=⟨M - 1,by omega⟩
   obtain ⟨kv',e,I⟩:=can_impl (T:=tT t) hN i (by omega) N (by omega) [] (x0 t) (invM_nil _) (x0_ok h)
   have eb:Qbm.b0 N t (i:Int)=if canB (tT t) i (x0 t)=true then some (.out (.ret ((i:Int),0))) else some (.next ((i+1:Nat):Int)):=by
    unfold Qbm.b0 QaH.f
    rw [if_pos (by omega),e1,Option.bind_some,e2,Option.bind_some,e,Option.bind_some,idb (x:=(i:Int)+1) (by omega)]
    rfl
   unfold lwf
   by_cases c:canB (tT t) i (x0 t)=true
   ·rw [if_pos c] at eb
    rw [rounds_out (n:=M) (s:=(i:Int)) eb,if_pos c]
    rfl
   ·rw [if_neg c] at eb
    rw [rounds_next (n:=M) (s:=(i:Int)) eb,if_neg c]
    exact ih (i+1) M (by omega) (by omega)
 exact main 6 0 N rfl (by omega)
theorem can_impl_eq {N:Nat} {t:Tk} (h:okP t) (hN:20≤N) (hv:Qbr.f N t=some true) {k:Nat} (hk:k≤5):Qcs.f N t (k:Int)=some (canB (tT t) k (x0 t),0):=by
 obtain ⟨kv',e,I⟩:=can_impl (T:=tT t) hN k hk N (by omega) [] (x0 t) (invM_nil _) (x0_ok h)
 obtain ⟨r,e1,e2⟩:=known_eq h hN
 unfold Qcs.f QaH.f
 rw [hv,Option.bind_some,if_pos rfl,in_impl,Option.bind_some,if_pos (decide_eq_true ⟨by omega,by omega⟩),e1,Option.bind_some,e2,Option.bind_some,e,Option.bind_some]
end Go.Proofs.YtgpdpedpmhonkaaX.W
namespace Go.Proofs.YtgpdpedpmhonkaaX
open Go
set_option linter.unusedVariables false
set_option linter.unusedSimpArgs false
def rsC (w:We) (c:Cs):Int:=if c.Qbs< 0 then 0 else if c.QcM=true then w.get c.Qbs 0 else 0 - w.get c.Qbs 0
theorem rs_eq {N:Nat} {w:We} (hw:∀ j:Nat,j< 14→side w j) {c:Cs} (hc: -1≤c.Qbs∧c.Qbs≤12):Qcb.f N w c=some (rsC w c)∧ -1≤rsC w c∧rsC w c≤1:=by
 unfold Qcb.f rsC
 by_cases h0:c.Qbs< 0
 ·rw [if_pos h0,if_pos h0];exact ⟨rfl,by decide,by decide⟩
 ·have hs:=hw c.Qbs.toNat (by omega)
  unfold side at hs
  rw [Int.toNat_of_nonneg (by omega)] at hs
  have e1:=i64w_id (x:=w.get c.Qbs 0) (by omega) (by omega)
  have e2:=i64w_id (x:=0 - w.get c.Qbs 0) (by omega) (by omega)
  have g:(0:Int)≤c.Qbs∧c.Qbs< 14:=⟨by omega,by omega⟩
  rw [if_neg h0,if_neg h0,e1,e2,if_pos g]
  split
  ·exact ⟨rfl,hs.1,hs.2⟩
  ·exact ⟨rfl,by omega,by omega⟩
def ptC (w:We) (cs:List Cs) (r:Int):List Cs:=cs.filter fun c=>decide (rsC w c=r)
theorem ptC_snoc (w:We) (cs:List Cs) (c:Cs) (r:Int):ptC w (cs++[c]) r=if rsC w c=r then ptC w cs r++[c] else ptC w cs r:=by
 unfold ptC
 rw [List.filter_append]
 by_cases h:rsC w c=r
 ·rw [if_pos h,List.filter_cons_of_pos (by simp [h])];rfl
 ·rw [if_neg h,List.filter_cons_of_neg (by simp [h])];simp
theorem ptC_len (w:We) (cs:List Cs) (r:Int):(ptC w cs r).length≤cs.length:=List.length_filter_le _ _
theorem split_val {N:Nat} {w:We} (hw:∀ j:Nat,j< 14→side w j) {cs:List Cs} (hc:∀ c∈cs,-1≤c.Qbs∧c.Qbs≤12) (hl:cs.length≤27) (hN:40< N):
 Qbx.f N w cs=some ⟨[ptC w cs (-1),ptC w cs 0,ptC w cs 1],rfl⟩:=by
 have main:∀ (M i:Nat),i≤cs.length→cs.length - i< M→rounds (fun s=>Qbx.b0 N cs w s.1 s.2.1 s.2.2.1 s.2.2.2) M (ptC w (cs.take i) (-1),ptC w (cs.take i) 0,ptC w (cs.take i) 1,(i:Int))=some (.go (ptC w cs (-1),ptC w cs 0,ptC w cs 1)):=by
  intro M
  induction M with
  |zero=>intro i _ h;exact absurd h (Nat.not_lt_zero _)
  |succ M ih=>
   intro i hi hM
   by_cases c:i< cs.length
   ·obtain ⟨q1,q2,q3⟩:=rs_eq (N:=N) hw (hc _ (List.getElem_mem c))
    have l1:=ptC_len w (cs.take i) (-1)
    have l2:=ptC_len w (cs.take i) 0
    have l3:=ptC_len w (cs.take i) 1
    rw [List.length_take] at l1 l2 l3
    have e:Qbx.b0 N cs w (ptC w (cs.take i) (-1)) (ptC w (cs.take i) 0) (ptC w (cs.take i) 1) (i:Int)=some (.next (ptC w (cs.take (i+1)) (-1),ptC w (cs.take (i+1)) 0,ptC w (cs.take (i+1)) 1,((i+1:Nat):Int))):=by
     rw [List.take_succ_eq_append_getElem c,ptC_snoc,ptC_snoc,ptC_snoc]
     unfold Qbx.b0 Qbx.j2
     rw [if_pos (by omega),if_pos ⟨by omega,by omega⟩,rdL_nat c,q1,Option.bind_some,i64w_id (x:=rsC w cs[i]+1) (by omega) (by omega),i64w_id (x:=(i:Int)+1) (by omega) (by omega)]
     have k:rsC w cs[i]= -1∨rsC w cs[i]=0∨rsC w cs[i]=1:=by omega
     rcases k with k|k|k<;>rw [k]
     ·rw [if_pos (by decide),if_pos (by simp only [List.length_singleton];omega),if_pos rfl,if_neg (by decide),if_neg (by decide)]
      rfl
     ·rw [if_neg (by decide),if_pos (by decide),if_pos (by simp only [List.length_singleton];omega),if_neg (by decide),if_pos rfl,if_neg (by decide)]
      rfl
     ·rw [if_neg (by decide),if_neg (by decide),if_pos (by decide),if_pos (by simp only [List.length_singleton];omega),if_neg (by decide),if_neg (by decide),if_pos rfl]
      rfl
    exact (rounds_next (n:=M) (b:=fun s:List Cs×List Cs×List Cs×Int=>Qbx.b0 N cs w s.1 s.2.1 s.2.2.1 s.2.2.2) e).trans (ih (i+1) c (by omega))
   ·obtain rfl:i=cs.length:=by omega
    refine rounds_out ?_
    dsimp only
    unfold Qbx.b0
    rw [if_neg (by omega),List.take_length]
 have q:=main N 0 (Nat.zero_le _) (by omega)
 unfold Qbx.f
 rw [show (([]:List Cs),([]:List Cs),([]:List Cs),(0:Int))=(ptC w (cs.take 0) (-1),ptC w (cs.take 0) 0,ptC w (cs.take 0) 1,((0:Nat):Int)) from rfl,q]
 rfl
theorem parts_sum {w:We} (hw:∀ j:Nat,j< 14→side w j):∀ {cs:List Cs},(∀ c∈cs,-1≤c.Qbs∧c.Qbs≤12)→(ptC w cs (-1)).length+(ptC w cs 0).length+(ptC w cs 1).length=cs.length
 |[],_=>rfl
 |c::cs,h=>by
  have ih:=parts_sum hw (cs:=cs) fun x hx=>h x (List.mem_cons_of_mem _ hx)
  obtain ⟨_,q2,q3⟩:=rs_eq (N:=0) hw (h c (List.mem_cons_self ..))
  have k:rsC w c= -1∨rsC w c=0∨rsC w c=1:=by omega
  unfold ptC at ih ⊢
  rcases k with k|k|k<;>simp only [List.filter_cons,k]<;>simp<;>omega
theorem cases_nd:∀ c:Nat,c< 10→∀ k:Nat,k< 3→∀ n g:Bool,(csL ⟨(c:Int),(k:Int),n,g⟩).Nodup∧(csL ⟨(c:Int),(k:Int),n,g⟩).length=(W.x0 ⟨(c:Int),(k:Int),n,g⟩).c:=by decide+kernel
theorem cases_dr {t:Tk} (h:DrT t):(csL t).Nodup∧(csL t).length=(W.x0 t).c:=by
 obtain ⟨⟨h1,h2⟩,h3,h4⟩:=h
 obtain ⟨c,k,n,g⟩:=t
 simp only at h1 h2 h3 h4
 have:=cases_nd c.toNat (by omega) k.toNat (by omega) n g
 rw [Int.toNat_of_nonneg (by omega),Int.toNat_of_nonneg h3] at this
 exact this
theorem has_own {L:List Cs} {c:Cs} (h:c∈L):has L c=true:=by
 unfold has
 rw [List.any_eq_true]
 exact ⟨c,h,by simp⟩
theorem given_own {t:Tk} (h:DrT t):givenC t (csL t)=0:=by
 unfold givenC
 rw [if_neg,if_pos (cases_at h.okT).2.2.1]
 rw [List.any_eq_true]
 rintro ⟨c,hc,hn⟩
 rw [has_own hc] at hn
 cases hn
theorem same_eq {N:Nat} (a:List Cs) (hl:a.length≤1000) (hN:a.length< N):Qbo.f N a a=some true:=by
 have main:∀ (M i:Nat),i≤a.length→a.length - i< M→rounds (fun s=>Qbo.b0 N a a s) M (i:Int)=some (.go ()):=by
  intro M
  induction M with
  |zero=>intro i _ h;exact absurd h (Nat.not_lt_zero _)
  |succ M ih=>
   intro i hi hM
   by_cases c:i< a.length
   ·have e:Qbo.b0 N a a (i:Int)=some (.next ((i+1:Nat):Int)):=by
     unfold Qbo.b0
     rw [if_pos (by omega),if_pos ⟨by omega,by omega⟩,if_pos ⟨by omega,by omega⟩,if_pos rfl,i64w_id (by omega) (by omega)]
     rfl
    exact (rounds_next (n:=M) (b:=fun s:Int=>Qbo.b0 N a a s) e).trans (ih (i+1) c (by omega))
   ·refine rounds_out ?_
    unfold Qbo.b0
    rw [if_neg (by omega)]
 unfold Qbo.f
 rw [if_pos rfl,show rounds (fun s=>Qbo.b0 N a a s) N 0=some (.go ()) from main N 0 (Nat.zero_le _) (by omega)]
 rfl
section
variable {N:Nat} {t:Tk} {w:We}
theorem result_at (hN:40< N) (h:DrT t) (hv:wv N t w=true) {c:Cs} (hc:c∈csL t):Qb2.f N t w c=some (rsC w c,0):=by
 have hw:=wv_spec hN h.inT h.okT w
 rw [hv] at hw
 have hq:=cases_at h.okT
 unfold Qb2.f
 rw [hw.2.1,Option.bind_some,if_pos rfl,cases_impl hN h.okT,Option.bind_some,contains_impl hq.2.2.1 hN,Option.bind_some,has_own hc,if_pos rfl,(rs_eq (N:=N) (hw.2.2 rfl) (hq.2.2.2 c hc)).1]
 rfl
theorem find_at (hN:40< N) (h:DrT t) {i:Nat} (hi:i< (csL t).length):Qcv.f N t (csL t)[i]=some ((i:Int),0):=by
 have hq:=(cases_at h.okT).2.2.1
 have hnd:=(cases_dr h).1
 have main:∀ (M j:Nat),j≤i→i - j< M→rounds (fun s=>QaI.b0 N (csL t) (csL t)[i] s) M (j:Int)=some (.ret (i:Int)):=by
  intro M
  induction M with
  |zero=>intro j _ h;exact absurd h (Nat.not_lt_zero _)
  |succ M ih=>
   intro j hj hM
   by_cases c:j< i
   ·have hne:¬ (csL t)[i]=(csL t)[j]:=fun e=>List.pairwise_iff_getElem.1 hnd j i (by omega) hi c e.symm
    have e:QaI.b0 N (csL t) (csL t)[i] (j:Int)=some (.next ((j+1:Nat):Int)):=by
     unfold QaI.b0
     rw [if_pos (by omega),if_pos ⟨by omega,by omega⟩,rdL_nat (by omega),if_neg hne,i64w_id (by omega) (by omega)]
     rfl
    exact (rounds_next (n:=M) (b:=fun s:Int=>QaI.b0 N (csL t) (csL t)[i] s) e).trans (ih (j+1) c (by omega))
   ·obtain rfl:j=i:=by omega
    refine rounds_out ?_
    unfold QaI.b0
    rw [if_pos (by omega),if_pos ⟨by omega,by omega⟩,rdL_nat hi,if_pos rfl]
 unfold Qcv.f QaI.f
 rw [okT_impl N h.inT,h.okT,Option.bind_some,if_pos rfl,cases_impl hN h.okT,Option.bind_some,show rounds (fun s=>QaI.b0 N (csL t) (csL t)[i] s) N 0=some (.ret (i:Int)) from main N 0 (Nat.zero_le _) (by omega)]
 simp only [Option.bind_some,Ex.fin]
 rw [if_neg (by omega)]
theorem code_own (hN:100< N) (h:DrT t) {ws:List We} (hw:ws.all (wv N t)=true) (hl:ws.length≤2):Qb6.f N t ws (csL t)=some 0:=by
 have hq:=(cases_at h.okT).2.2.1
 rw [code_impl h.inT (by omega) (by omega) (by omega),if_pos ⟨h.okT,hw⟩,given_own h]
def mostC (w:We) (cs:List Cs):Int:=mxI (mxI ((ptC w cs (-1)).length:Int) ((ptC w cs 0).length:Int)) ((ptC w cs 1).length:Int)
theorem zero_side:∀ j:Nat,j< 14→side (Ar.rep 14 0) j:=by
 intro j hj
 unfold side
 have:(Ar.rep 14 (0:Int)).get (j:Int) 0=0:=by
  unfold Ar.get Ar.rep
  rw [Int.toNat_natCast,List.getD_eq_getElem?_getD,List.getElem?_replicate,if_pos hj]
  rfl
 rw [this]
 decide
theorem rs_zero (c:Cs):rsC (Ar.rep 14 0) c=0:=by
 have:∀ j:Int,(Ar.rep 14 (0:Int)).get j 0=0:=by
  intro j
  unfold Ar.get Ar.rep
  rw [List.getD_eq_getElem?_getD,List.getElem?_replicate]
  split<;>rfl
 unfold rsC
 rw [this]
 split
 ·rfl
 ·split<;>rfl
theorem most_zero (cs:List Cs):mostC (Ar.rep 14 0) cs=(cs.length:Int):=by
 have e:∀ r,ptC (Ar.rep 14 0) cs r=if r=0 then cs else []:=by
  intro r
  unfold ptC
  by_cases h:r=0
  ·rw [if_pos h];subst h
   exact List.filter_eq_self.2 fun c _=>by rw [rs_zero];rfl
  ·rw [if_neg h]
   exact List.filter_eq_nil_iff.2 fun c _=>by rw [rs_zero];simpa using fun g=>h g.symm
 unfold mostC
 rw [e,e,e,if_neg (by decide),if_pos rfl,if_neg (by decide)]
 unfold mxI
 simp only [List.length_nil]
 split<;>split<;>omega
theorem most_le {w:We} {cs:List Cs} (hw:∀ j:Nat,j< 14→side w j) (hc:∀ c∈cs,-1≤c.Qbs∧c.Qbs≤12):0≤mostC w cs∧mostC w cs≤(cs.length:Int):=by
 have:=parts_sum hw hc
 unfold mostC mxI
 split<;>split<;>omega
theorem fair_at (hN:100< N) (h:DrT t) (hv:wv N t w=true):QaX.f N t (csL t) [Ar.rep 14 0,w]=some (if mostC w (csL t)< ((csL t).length:Int) then (1,mostC w (csL t),0) else (0,((csL t).length:Int),0)):=by
 have hw:=wv_spec (N:=N) (by omega) h.inT h.okT w
 rw [hv] at hw
 have hq:=cases_at h.okT
 have hz:wv N t (Ar.rep 14 0)=true:=by
  unfold wv
  rw [zero_ok (by omega) h]
  rfl
 have hcode:=code_own (N:=N) hN h (ws:=[Ar.rep 14 0,w]) (by simp [hz,hv]) (by simp)
 obtain ⟨m0,m1⟩:=most_le (hw.2.2 rfl) hq.2.2.2
 have hs:∀ (i:Nat) (v:We),[Ar.rep 14 0,w][i]?=some v→∀ x y,QaX.b1 N [Ar.rep 14 0,w] (csL t) x y (i:Int)=if y< 0 then some (.next ((i:Int),mostC v (csL t),((i+1:Nat):Int))) else if mostC v (csL t)< y then some (.next ((i:Int),mostC v (csL t),((i+1:Nat):Int))) else some (.next (x,y,((i+1:Nat):Int))):=by
  intro i v hi x y
  have hi2:i< 2:=(List.getElem?_eq_some_iff.1 hi).1
  have hrd:rdL [Ar.rep 14 0,w] (i:Int) (Ar.rep 14 0)=v:=by
   unfold rdL
   rw [Int.toNat_natCast,List.getD_eq_getElem?_getD,hi]
   rfl
  have hsd:∀ j:Nat,j< 14→side v j:=by
   rcases (show i=0∨i=1 by omega) with rfl|rfl
   ·cases hi;exact zero_side
   ·cases hi;exact hw.2.2 rfl
  unfold QaX.b1 QaX.j3
  rw [if_pos (by simp only [List.length_cons,List.length_nil];omega),if_pos ⟨by omega,by simp only [List.length_cons,List.length_nil];omega⟩,hrd,split_val hsd hq.2.2.2 hq.2.2.1 (by omega),Option.bind_some,i64w_id (x:=(i:Int)+1) (by omega) (by omega)]
  rfl
 obtain ⟨M,rfl⟩:∃ M,N=M+3:=⟨N - 3,by omega⟩
 have e0:=hs 0 (Ar.rep 14 0) rfl 0 (-1)
 rw [if_pos (by decide),most_zero] at e0
 have e1:=hs 1 w rfl 0 ((csL t).length:Int)
 rw [if_neg (by omega)] at e1
 have e2:∀ x y,QaX.b1 (M+3) [Ar.rep 14 0,w] (csL t) x y ((2:Nat):Int)=some (.out (.go (x,y))):=by
  intro x y
  unfold QaX.b1
  rw [if_neg (by simp only [List.length_cons,List.length_nil];omega)]
 have hr:rounds (fun s=>QaX.b1 (M+3) [Ar.rep 14 0,w] (csL t) s.1 s.2.1 s.2.2) (M+3) (0,(-1),0)=some (.go (if mostC w (csL t)< ((csL t).length:Int) then (1,mostC w (csL t)) else (0,((csL t).length:Int)))):=by
  refine (rounds_next (n:=M+2) (s:=((0:Int),(-1:Int),(0:Int))) e0).trans ?_
  by_cases c:mostC w (csL t)< ((csL t).length:Int)
  ·rw [if_pos c] at e1 ⊢
   exact (rounds_next (n:=M+1) (s:=(((0:Nat):Int),((csL t).length:Int),((0+1:Nat):Int))) e1).trans (rounds_out (n:=M) (e2 _ _))
  ·rw [if_neg c] at e1 ⊢
   exact (rounds_next (n:=M+1) (s:=(((0:Nat):Int),((csL t).length:Int),((0+1:Nat):Int))) e1).trans (rounds_out (n:=M) (e2 _ _))
 unfold QaX.f
 rw [hcode,Option.bind_some,if_pos rfl]
 show ((Qb0.f (M+3) 2 1 60).bind fun r10=>(Qct.f (M+3) r10 2).bind fun r11=>QaX.j0 (M+3) [Ar.rep 14 0,w] (csL t) r11)=_
 rw [within_eq,Option.bind_some]
 show QaX.j0 (M+3) [Ar.rep 14 0,w] (csL t) 0=_
 unfold QaX.j0
 rw [if_pos rfl,hr]
 split<;>rfl
def bdN (n:Nat):Nat:=if n≤1 then 0 else if n≤3 then 1 else if n≤9 then 2 else 3
theorem bdN_le {n:Nat} (hn:n≤27) (k:Nat):n≤3^k↔bdN n≤k:=by
 have p0:3^0=1:=rfl
 have p1:3^1=3:=rfl
 have p2:3^2=9:=rfl
 have p3:3≤k→27≤3^k:=fun h=>Nat.le_trans (show 27≤3^3 by decide) (Nat.pow_le_pow_right (by decide) h)
 unfold bdN
 by_cases k3:3≤k
 ·have:=p3 k3
  constructor<;>intro _
  ·split<;>(try split)<;>(try split)<;>omega
  ·omega
 ·obtain rfl|rfl|rfl:k=0∨k=1∨k=2:=by omega
  all_goals (try rw [p0]);(try rw [p1]);(try rw [p2])
  all_goals split<;>(try split)<;>(try split)<;>omega
theorem bound_at (hN:100< N) (h:DrT t):QbJ.f N t=some ((bdN (csL t).length:Int),0):=by
 have hq:=(cases_at h.okT).2.2.1
 have hb:=bdN_le hq
 have b3:bdN (csL t).length≤3:=by unfold bdN;split<;>(try split)<;>(try split)<;>omega
 have main:∀ (M k:Nat),k≤bdN (csL t).length→bdN (csL t).length - k< M→rounds (fun s=>QbJ.b0 N t s.1 s.2) M ((k:Int),((3^k:Nat):Int))=some (.go (bdN (csL t).length:Int)):=by
  intro M
  induction M with
  |zero=>intro k _ h;exact absurd h (Nat.not_lt_zero _)
  |succ M ih=>
   intro k hk hM
   have hz:QbM.f N (csL t)=some ((csL t).length:Int):=rfl
   have hbk:=hb k
   by_cases c:k< bdN (csL t).length
   ·have h3:3^k≤3^3:=Nat.pow_le_pow_right (by decide) (by omega)
    have e:QbJ.b0 N t (k:Int) ((3^k:Nat):Int)=some (.next (((k+1:Nat):Int),((3^(k+1):Nat):Int))):=by
     unfold QbJ.b0
     rw [cases_impl (by omega) h.okT,Option.bind_some,hz,Option.bind_some,if_pos (by omega),i64w_id (x:=(k:Int)+1) (by omega) (by omega),Nat.pow_succ]
     generalize 3^k=q at h3 ⊢
     rw [i64w_id (by omega) (by omega)]
     congr 3<;>omega
    exact (rounds_next (n:=M) (b:=fun s:Int×Int=>QbJ.b0 N t s.1 s.2) e).trans (ih (k+1) c (by omega))
   ·obtain rfl:k=bdN (csL t).length:=by omega
    refine rounds_out ?_
    dsimp only
    unfold QbJ.b0
    rw [cases_impl (by omega) h.okT,Option.bind_some,hz,Option.bind_some,if_neg (by have:=hbk.2 (Nat.le_refl _);omega)]
 unfold QbJ.f
 rw [okT_impl N h.inT,h.okT,Option.bind_some,if_pos rfl,show rounds (fun s=>QbJ.b0 N t s.1 s.2) N (0,1)=some (.go (bdN (csL t).length:Int)) from main N 0 (Nat.zero_le _) (by omega)]
 rfl
end
end Go.Proofs.YtgpdpedpmhonkaaX
namespace Go.Proofs.YtgpdpedpmhonkaaX
open Go
set_option linter.unusedVariables false
set_option linter.unusedSimpArgs false
theorem lwf_cases (p:Nat→Bool):∀ (m i:Nat),(∃ k,i≤k∧k< i+m∧p k=true∧(∀ j,i≤j→j< k→p j=false)∧W.lwf p m i=((k:Int),0))∨((∀ j,i≤j→j< i+m→p j=false)∧W.lwf p m i=(0,6))
 |0,i=> .inr ⟨fun j h1 h2=>absurd h2 (by omega),rfl⟩
 |m+1,i=>by
  cases c:p i with
  |true=>exact .inl ⟨i,Nat.le_refl _,by omega,c,fun j h1 h2=>absurd h2 (by omega),by unfold W.lwf;rw [if_pos c]⟩
  |false=>
   have e:W.lwf p (m+1) i=W.lwf p m (i+1):=by
    show (if p i=true then ((i:Int),(0:Int)) else W.lwf p m (i+1))=_
    rw [if_neg (by rw [c];exact Bool.false_ne_true)]
   rcases lwf_cases p m (i+1) with ⟨k,h1,h2,h3,h4,h5⟩|⟨h1,h2⟩
   ·refine .inl ⟨k,by omega,by omega,h3,fun j g1 g2=>?_,e.trans h5⟩
    by_cases ej:j=i
    ·subst ej;exact c
    ·exact h4 j (by omega) g2
   ·refine .inr ⟨fun j g1 g2=>?_,e.trans h2⟩
    by_cases ej:j=i
    ·subst ej;exact c
    ·exact h1 j (by omega) (by omega)
section
variable {N:Nat} {t:Tk} {w:We}
theorem DrT.okP {t:Tk} (h:DrT t):W.okP t:=by
 obtain ⟨⟨h1,h2⟩,h3⟩:=h
 exact ⟨⟨h1,by omega⟩,h3⟩
theorem part_loop (hN:100< N) (h:DrT t) (hv:wv N t w=true) {r:Nat} (hr:r< 3) (P:(Ar (List Cs) 3)×Int) (hP:P=(⟨[ptC w (csL t) (-1),ptC w (csL t) 0,ptC w (csL t) 1],rfl⟩,0)):
 rounds (fun s=>Qak.b18 N (r:Int) P t w s) N 0=some (.go ()):=by
 subst hP
 have hq:=(cases_at h.okT).2.2.1
 have core:∀ (l:List Cs) (q:Int),l=ptC w (csL t) q→q=(r:Int) - 1→
  (∀ i:Nat,i< l.length→Qak.b18 N (r:Int) (⟨[ptC w (csL t) (-1),ptC w (csL t) 0,ptC w (csL t) 1],rfl⟩,0) t w (i:Int)=(Qb2.f N t w (rdL l (i:Int) Qay)).bind fun r66=>Qak.j22 N (r:Int) (i:Int) r66.1 r66.2)→
  Qak.b18 N (r:Int) (⟨[ptC w (csL t) (-1),ptC w (csL t) 0,ptC w (csL t) 1],rfl⟩,0) t w (l.length:Int)=some (.out (.go ()))→
  rounds (fun s=>Qak.b18 N (r:Int) (⟨[ptC w (csL t) (-1),ptC w (csL t) 0,ptC w (csL t) 1],rfl⟩,0) t w s) N 0=some (.go ()):=by
  intro l q hl hqr hs he
  have hll:l.length≤27:=by rw [hl];have:=ptC_len w (csL t) q;omega
  have main:∀ (M i:Nat),i≤l.length→l.length - i< M→rounds (fun s=>Qak.b18 N (r:Int) (⟨[ptC w (csL t) (-1),ptC w (csL t) 0,ptC w (csL t) 1],rfl⟩,0) t w s) M (i:Int)=some (.go ()):=by
   intro M
   induction M with
   |zero=>intro i _ h;exact absurd h (Nat.not_lt_zero _)
   |succ M ih=>
    intro i hi hM
    by_cases c:i< l.length
    ·have hm:l[i]∈ptC w (csL t) q:=hl▸List.getElem_mem c
     have hm2:=List.mem_filter.1 hm
     have hrs:rsC w l[i]=q:=of_decide_eq_true hm2.2
     have e:Qak.b18 N (r:Int) (⟨[ptC w (csL t) (-1),ptC w (csL t) 0,ptC w (csL t) 1],rfl⟩,0) t w (i:Int)=some (.next ((i+1:Nat):Int)):=by
      rw [hs i c,rdL_nat c,result_at (by omega) h hv hm2.1,Option.bind_some]
      unfold Qak.j22
      rw [if_pos rfl,hrs,hqr,i64w_id (x:=(r:Int) - 1) (by omega) (by omega),if_pos rfl,i64w_id (by omega) (by omega)]
      rfl
     exact (rounds_next (n:=M) (b:=fun s:Int=>Qak.b18 N (r:Int) (⟨[ptC w (csL t) (-1),ptC w (csL t) 0,ptC w (csL t) 1],rfl⟩,0) t w s) e).trans (ih (i+1) c (by omega))
    ·obtain rfl:i=l.length:=by omega
     exact rounds_out he
  exact main N 0 (Nat.zero_le _) (by omega)
 rcases (show r=0∨r=1∨r=2 by omega) with rfl|rfl|rfl
 ·refine core (ptC w (csL t) (-1)) (-1) rfl (by decide) (fun i hi=>?_) ?_
  ·unfold Qak.b18
   rw [if_pos (by decide)]
   refine (if_pos (show (i:Int)< ((ptC w (csL t) (-1)).length:Int) by omega)).trans ?_
   unfold Qak.j21
   rw [if_pos (by decide)]
   exact if_pos ⟨by omega,(show (i:Int)< ((ptC w (csL t) (-1)).length:Int) by omega)⟩
  ·unfold Qak.b18
   rw [if_pos (by decide)]
   exact if_neg (show ¬ ((ptC w (csL t) (-1)).length:Int)< ((ptC w (csL t) (-1)).length:Int) by omega)
 ·refine core (ptC w (csL t) 0) 0 rfl (by decide) (fun i hi=>?_) ?_
  ·unfold Qak.b18
   rw [if_neg (by decide),if_pos (by decide)]
   refine (if_pos (show (i:Int)< ((ptC w (csL t) 0).length:Int) by omega)).trans ?_
   unfold Qak.j21
   rw [if_neg (by decide),if_pos (by decide)]
   exact if_pos ⟨by omega,(show (i:Int)< ((ptC w (csL t) 0).length:Int) by omega)⟩
  ·unfold Qak.b18
   rw [if_neg (by decide),if_pos (by decide)]
   exact if_neg (show ¬ ((ptC w (csL t) 0).length:Int)< ((ptC w (csL t) 0).length:Int) by omega)
 ·refine core (ptC w (csL t) 1) 1 rfl (by decide) (fun i hi=>?_) ?_
  ·unfold Qak.b18
   rw [if_neg (by decide),if_neg (by decide),if_pos (by decide)]
   refine (if_pos (show (i:Int)< ((ptC w (csL t) 1).length:Int) by omega)).trans ?_
   unfold Qak.j21
   rw [if_neg (by decide),if_neg (by decide),if_pos (by decide)]
   exact if_pos ⟨by omega,(show (i:Int)< ((ptC w (csL t) 1).length:Int) by omega)⟩
  ·unfold Qak.b18
   rw [if_neg (by decide),if_neg (by decide),if_pos (by decide)]
   exact if_neg (show ¬ ((ptC w (csL t) 1).length:Int)< ((ptC w (csL t) 1).length:Int) by omega)
theorem parts_loop (hN:100< N) (h:DrT t) (hv:wv N t w=true) (P:(Ar (List Cs) 3)×Int) (hP:P=(⟨[ptC w (csL t) (-1),ptC w (csL t) 0,ptC w (csL t) 1],rfl⟩,0)):
 rounds (fun s=>Qak.b14 N (ptC w (csL t) (-1)) P t w (ptC w (csL t) 0) (ptC w (csL t) 1) s.1 s.2.1 s.2.2) N (0,0,0)=some (.go (((csL t).length:Int),mostC w (csL t))):=by
 have hw:=wv_spec (N:=N) (by omega) h.inT h.okT w
 rw [hv] at hw
 have hq:=cases_at h.okT
 have hsum:=parts_sum (hw.2.2 rfl) hq.2.2.2
 have p0:=part_loop hN h hv (r:=0) (by omega) P hP
 have p1:=part_loop hN h hv (r:=1) (by omega) P hP
 have p2:=part_loop hN h hv (r:=2) (by omega) P hP
 have s0:=same_eq (N:=N) (ptC w (csL t) (-1)) (by have:=ptC_len w (csL t) (-1);omega) (by have:=ptC_len w (csL t) (-1);omega)
 have s1:=same_eq (N:=N) (ptC w (csL t) 0) (by have:=ptC_len w (csL t) 0;omega) (by have:=ptC_len w (csL t) 0;omega)
 have s2:=same_eq (N:=N) (ptC w (csL t) 1) (by have:=ptC_len w (csL t) 1;omega) (by have:=ptC_len w (csL t) 1;omega)
 have g0:P.1.get 0 []=ptC w (csL t) (-1):=by rw [hP];rfl
 have g1:P.1.get 1 []=ptC w (csL t) 0:=by rw [hP];rfl
 have g2:P.1.get 2 []=ptC w (csL t) 1:=by rw [hP];rfl
 obtain ⟨M,rfl⟩:∃ M,N=M+4:=⟨N - 4,by omega⟩
 have e0:Qak.b14 (M+4) (ptC w (csL t) (-1)) P t w (ptC w (csL t) 0) (ptC w (csL t) 1) 0 0 0=some (.next (((ptC w (csL t) (-1)).length:Int),mxI 0 ((ptC w (csL t) (-1)).length:Int),1)):=by
  unfold Qak.b14 Qak.j17
  rw [if_pos (by decide),if_pos rfl,g0,s0,Option.bind_some,if_pos rfl,show rounds (fun s=>Qak.b18 (M+4) 0 P t w s) (M+4) 0=some (.go ()) from p0]
  show Qak.a18 (M+4) 0 0 P 0=_
  unfold Qak.a18 Qak.j20 Qak.j16
  rw [if_pos rfl,if_pos rfl,g0,i64w_id (x:=(0:Int)+_) (by omega) (by omega),Int.zero_add]
  rfl
 have e1:∀ a b:Int,0≤a∧a≤1000→Qak.b14 (M+4) (ptC w (csL t) (-1)) P t w (ptC w (csL t) 0) (ptC w (csL t) 1) a b 1=some (.next (a+((ptC w (csL t) 0).length:Int),mxI b ((ptC w (csL t) 0).length:Int),2)):=by
  intro a b ha
  unfold Qak.b14 Qak.j17
  rw [if_pos (by decide),if_neg (by decide),if_pos rfl,g1,s1,Option.bind_some,if_pos rfl,show rounds (fun s=>Qak.b18 (M+4) 1 P t w s) (M+4) 0=some (.go ()) from p1]
  show Qak.a18 (M+4) 1 b P a=_
  unfold Qak.a18 Qak.j20 Qak.j16
  rw [if_neg (by decide),if_pos rfl,if_neg (by decide),if_pos rfl,g1,i64w_id (x:=a+_) (by omega) (by omega)]
  rfl
 have e2:∀ a b:Int,0≤a∧a≤1000→Qak.b14 (M+4) (ptC w (csL t) (-1)) P t w (ptC w (csL t) 0) (ptC w (csL t) 1) a b 2=some (.next (a+((ptC w (csL t) 1).length:Int),mxI b ((ptC w (csL t) 1).length:Int),3)):=by
  intro a b ha
  unfold Qak.b14 Qak.j17
  rw [if_pos (by decide),if_neg (by decide),if_neg (by decide),if_pos rfl,g2,s2,Option.bind_some,if_pos rfl,show rounds (fun s=>Qak.b18 (M+4) 2 P t w s) (M+4) 0=some (.go ()) from p2]
  show Qak.a18 (M+4) 2 b P a=_
  unfold Qak.a18 Qak.j20 Qak.j16
  rw [if_neg (by decide),if_neg (by decide),if_pos rfl,if_neg (by decide),if_neg (by decide),if_pos rfl,g2,i64w_id (x:=a+_) (by omega) (by omega)]
  rfl
 have e3:∀ a b:Int,Qak.b14 (M+4) (ptC w (csL t) (-1)) P t w (ptC w (csL t) 0) (ptC w (csL t) 1) a b 3=some (.out (.go (a,b))):=fun a b=>if_neg (by decide)
 refine (rounds_next (n:=M+3) (s:=((0:Int),(0:Int),(0:Int))) e0).trans ((rounds_next (n:=M+2) (e1 _ _ (by omega))).trans ((rounds_next (n:=M+1) (e2 _ _ (by omega))).trans ((rounds_out (n:=M) (e3 _ _)).trans ?_)))
 have k1:0+((ptC w (csL t) (-1)).length:Int)+((ptC w (csL t) 0).length:Int)+((ptC w (csL t) 1).length:Int)=((csL t).length:Int):=by omega
 have k2:mxI (mxI (mxI 0 ((ptC w (csL t) (-1)).length:Int)) ((ptC w (csL t) 0).length:Int)) ((ptC w (csL t) 1).length:Int)=mostC w (csL t):=by
  have:mxI 0 ((ptC w (csL t) (-1)).length:Int)=((ptC w (csL t) (-1)).length:Int):=by
   unfold mxI
   split<;>omega
  rw [this]
  rfl
 rw [Int.zero_add] at k1
 show some (Ex.go (((ptC w (csL t) (-1)).length:Int)+((ptC w (csL t) 0).length:Int)+((ptC w (csL t) 1).length:Int),mxI (mxI (mxI 0 ((ptC w (csL t) (-1)).length:Int)) ((ptC w (csL t) 0).length:Int)) ((ptC w (csL t) 1).length:Int)))=_
 rw [k1,k2]
theorem found_loop (hN:100< N) (h:DrT t) (c:Int):rounds (fun s=>Qak.b12 N (csL t,c) t s) N 0=some (.go ()):=by
 have hq:=(cases_at h.okT).2.2.1
 have main:∀ (M i:Nat),i≤(csL t).length→(csL t).length - i< M→rounds (fun s=>Qak.b12 N (csL t,c) t s) M (i:Int)=some (.go ()):=by
  intro M
  induction M with
  |zero=>intro i _ h;exact absurd h (Nat.not_lt_zero _)
  |succ M ih=>
   intro i hi hM
   by_cases ci:i< (csL t).length
   ·have e:Qak.b12 N (csL t,c) t (i:Int)=some (.next ((i+1:Nat):Int)):=by
     unfold Qak.b12
     dsimp only
     rw [if_pos (by omega),if_pos ⟨by omega,by omega⟩,rdL_nat ci,find_at (by omega) h ci,Option.bind_some,if_pos rfl,if_pos rfl,i64w_id (by omega) (by omega)]
     rfl
    exact (rounds_next (n:=M) (b:=fun s:Int=>Qak.b12 N (csL t,c) t s) e).trans (ih (i+1) ci (by omega))
   ·obtain rfl:i=(csL t).length:=by omega
    refine rounds_out ?_
    unfold Qak.b12
    dsimp only
    rw [if_neg (by omega)]
 exact main N 0 (Nat.zero_le _) (by omega)
theorem power_loop (hN:100< N) (h:DrT t) (c:Int) (R:Int×Int) (hR:R=W.lwf (fun k=>W.canB (W.tT t) k (W.x0 t)) 6 0):
 rounds (fun s=>Qak.b9 N (csL t,c) ((bdN (csL t).length:Int),0) t R R.1 s.1 s.2) N (1,0)=some (.go ()):=by
 have hq:=(cases_at h.okT).2.2.1
 have hb:=bdN_le hq
 have can:∀ k:Nat,k≤5→Qcs.f N t (k:Int)=some (W.canB (W.tT t) k (W.x0 t),0):=fun k hk=>W.can_impl_eq h.okP (by omega) (by rw [okT_impl N h.inT,h.okT]) hk
 have hcan:∀ k:Nat,k≤4→(if R.2=0 then W.canB (W.tT t) k (W.x0 t)=decide ((k:Int)≥R.1) else W.canB (W.tT t) k (W.x0 t)=false):=by
  intro k hk
  rcases lwf_cases (fun k=>W.canB (W.tT t) k (W.x0 t)) 6 0 with ⟨j,_,h2,h3,h4,h5⟩|⟨h1,h2⟩
  ·rw [hR,h5,if_pos rfl]
   by_cases c1:j≤k
   ·rw [W.canB_t (W.canP_mono (W.of_canB h3) c1)]
    exact (decide_eq_true (show (k:Int)≥(j:Int) by omega)).symm
   ·rw [show W.canB (W.tT t) k (W.x0 t)=false from h4 k (by omega) (by omega)]
    exact (decide_eq_false (show ¬ (k:Int)≥(j:Int) by omega)).symm
  ·rw [hR,h2,if_neg (by decide)]
   exact h1 k (by omega) (by omega)
 have main:∀ (M k:Nat),k≤5→5 - k< M→rounds (fun s=>Qak.b9 N (csL t,c) ((bdN (csL t).length:Int),0) t R R.1 s.1 s.2) M (((3^k:Nat):Int),(k:Int))=some (.go ()):=by
  intro M
  induction M with
  |zero=>intro k _ h;exact absurd h (Nat.not_lt_zero _)
  |succ M ih=>
   intro k hk hM
   by_cases ck:k< 5
   ·have h3:3^k≤3^5:=Nat.pow_le_pow_right (by decide) (by omega)
    have hbk:=hb k
    have nxt:∀ b1 b2 b3,Qak.j11 N ((3^k:Nat):Int) (k:Int) b1 b2 b3=some (.next (((3^(k+1):Nat):Int),((k+1:Nat):Int))):=by
     intro b1 b2 b3
     unfold Qak.j11
     rw [Nat.pow_succ,i64w_id (x:=(k:Int)+1) (by omega) (by omega)]
     generalize 3^k=q at h3 ⊢
     rw [i64w_id (by omega) (by omega)]
     congr 3<;>omega
    have e:Qak.b9 N (csL t,c) ((bdN (csL t).length:Int),0) t R R.1 ((3^k:Nat):Int) (k:Int)=some (.next (((3^(k+1):Nat):Int),((k+1:Nat):Int))):=by
     unfold Qak.b9
     have hd:decide (((3^k:Nat):Int)≥((csL t).length:Int))=decide ((k:Int)≥(bdN (csL t).length:Int)):=by
      rw [decide_eq_decide]
      constructor<;>intro _<;>omega
     dsimp only
     rw [if_pos (by omega),hd,if_pos rfl,can k (by omega),Option.bind_some,if_pos rfl]
     have hc:=hcan k (by omega)
     by_cases c2:R.2=0
     ·rw [if_pos c2] at hc
      rw [if_pos c2]
      dsimp only
      rw [if_pos hc]
      exact nxt _ _ _
     ·rw [if_neg c2] at hc
      rw [if_neg c2]
      dsimp only
      rw [if_pos hc]
      exact nxt _ _ _
    exact (rounds_next (n:=M) (b:=fun s:Int×Int=>Qak.b9 N (csL t,c) ((bdN (csL t).length:Int),0) t R R.1 s.1 s.2) e).trans (ih (k+1) ck (by omega))
   ·obtain rfl:k=5:=by omega
    refine rounds_out ?_
    dsimp only
    unfold Qak.b9
    rw [if_neg (by omega)]
 exact main N 0 (by omega) (by omega)
theorem most_min {w:We} {cs:List Cs} (m1:mostC w cs≤(cs.length:Int)):(if mostC w cs< (cs.length:Int) then ((1:Int),mostC w cs,(0:Int)) else (0,(cs.length:Int),0)).2.2=0∧(if mostC w cs< (cs.length:Int) then ((1:Int),mostC w cs,(0:Int)) else (0,(cs.length:Int),0)).2.1=mnI (mostC w cs) (cs.length:Int)∧((if mostC w cs< (cs.length:Int) then ((1:Int),mostC w cs,(0:Int)) else (0,(cs.length:Int),0)).1==0)=decide (mostC w cs≥(cs.length:Int)):=by
 unfold mnI
 by_cases c:mostC w cs< (cs.length:Int)
 ·rw [if_pos c,if_neg (by omega),decide_eq_false (by omega)]
  exact ⟨rfl,rfl,rfl⟩
 ·rw [if_neg c,decide_eq_true (by omega)]
  refine ⟨rfl,?_,rfl⟩
  split
  ·rfl
  ·show (cs.length:Int)=_
   omega
end
theorem Qak.told (a0:List (Int)) (h0:∀ x∈a0,IntKind.min .u8≤x∧x≤IntKind.max .u8) (l0:a0.length≤9223372036854775807) (a1:List (Int)) (h1:∀ x∈a1,IntKind.min .u8≤x∧x≤IntKind.max .u8) (l1:a1.length≤9223372036854775807):∃ N,Qak.f N a0 a1=some true:=by
 refine ⟨1000,?_⟩
 have h0':∀ x∈a0,0≤x∧x≤255:=h0
 have h1':∀ x∈a1,0≤x∧x≤255:=h1
 unfold Qak.f QcD.f
 rw [Option.bind_some,Option.bind_some]
 by_cases c0:(a0.length:Int)>4096
 ·rw [decide_eq_true c0,if_pos rfl]
 by_cases c1:(a1.length:Int)>4096
 ·rw [decide_eq_false c0,if_neg Bool.false_ne_true,decide_eq_true c1,if_pos rfl]
 rw [decide_eq_false c0,if_neg Bool.false_ne_true,decide_eq_false c1,if_neg Bool.false_ne_true]
 obtain ⟨t,et,h⟩:=drawnT (N:=1000) h0' (by omega)
 obtain ⟨w,ew,hv⟩:=drawnW (N:=1000) h1' (by omega) (by omega) h
 have hw:=wv_spec (N:=1000) (by omega) h.inT h.okT w
 rw [hv] at hw
 have hq:=cases_at h.okT
 obtain ⟨s,es,er⟩:=text_back (N:=1000) (by omega) h hv
 have oi:Qbr.f 1000 t=some true:=by rw [okT_impl 1000 h.inT,h.okT]
 have os:Qce.f 1000 t=some true:=by rw [okT_spec 1000 h.inT,h.okT]
 have ci:Qcz.f 1000 t=some (csL t,0):=by
  unfold Qcz.f
  rw [oi,Option.bind_some,if_pos rfl,cases_impl (by omega) h.okT]
  rfl
 have cs:QcA.f 1000 t=some (csL t,0):=by
  unfold QcA.f
  rw [os,Option.bind_some,if_pos rfl,cases_spec (by omega) h.okT]
  rfl
 have sv:=split_val (N:=1000) (hw.2.2 rfl) hq.2.2.2 hq.2.2.1 (by omega)
 have si:Qch.f 1000 t w (csL t)=some (⟨[ptC w (csL t) (-1),ptC w (csL t) 0,ptC w (csL t) 1],rfl⟩,0):=by
  unfold Qch.f
  rw [code_own (by omega) h (by simp [hv]) (by simp),Option.bind_some,if_pos rfl,sv]
  rfl
 have ss:Qci.f 1000 t w (csL t)=some (⟨[ptC w (csL t) (-1),ptC w (csL t) 0,ptC w (csL t) 1],rfl⟩,0):=by
  unfold Qci.f Qcd.f
  rw [os,Option.bind_some,if_pos rfl,hw.1,Option.bind_some,Option.bind_some,if_pos rfl,given_spec h.okT (by omega) (by omega),given_own h,Option.bind_some,if_pos rfl,split_eq,sv]
  rfl
 have fa:=fair_at (N:=1000) (by omega) h hv
 obtain ⟨m0,m1⟩:=most_le (hw.2.2 rfl) hq.2.2.2
 obtain ⟨f1,f2,f3⟩:=most_min m1
 have bo:=bound_at (N:=1000) (by omega) h
 have li:=W.least_impl (N:=1000) h.okP (by omega) oi
 have ls:=W.least_spec (N:=1000) h.okP (by omega) os
 rw [et,Option.bind_some,ew,Option.bind_some]
 unfold Qak.j0
 rw [ci,Option.bind_some,cs,Option.bind_some,si,Option.bind_some]
 show Qak.j1 1000 t w (csL t,0) (csL t,0) (ptC w (csL t) (-1)) (ptC w (csL t) 0) (ptC w (csL t) 1) 0=_
 unfold Qak.j1
 rw [ss,Option.bind_some,es,Option.bind_some,er,Option.bind_some]
 unfold Qak.j2
 dsimp only
 rw [if_pos rfl,if_pos rfl,same_eq (csL t) (by omega) (by omega),Option.bind_some,if_pos rfl,if_pos rfl,if_pos rfl,if_pos rfl,if_pos rfl,oi,Option.bind_some,if_pos rfl,hw.2.1,Option.bind_some,if_pos rfl]
 unfold Qak.j3
 rw [parts_loop (by omega) h hv _ rfl]
 show Qak.j4 1000 (csL t,0) t w ((csL t).length:Int) (mostC w (csL t))=_
 unfold Qak.j4
 rw [found_loop (by omega) h 0]
 show Qak.j5 1000 t (csL t,0) w ((csL t).length:Int) (mostC w (csL t))=_
 unfold Qak.j5
 dsimp only
 rw [fa,Option.bind_some,if_pos rfl,if_pos f1,if_pos f2,if_pos f3]
 unfold Qak.j6
 rw [bo,Option.bind_some,li,Option.bind_some,ls,Option.bind_some]
 unfold Qak.j7
 rw [if_pos rfl,if_pos rfl,if_pos rfl,power_loop (by omega) h 0 _ rfl]
 show Qak.j8 1000 (W.lwf (fun k=>W.canB (W.tT t) k (W.x0 t)) 6 0) (W.lwf (fun k=>W.canB (W.tT t) k (W.x0 t)) 6 0).1 ((bdN (csL t).length:Int),0)=_
 unfold Qak.j8
 rcases lwf_cases (fun k=>W.canB (W.tT t) k (W.x0 t)) 6 0 with ⟨j,_,h2,h3,h4,h5⟩|⟨_,h2⟩
 ·have hc:=W.canP_le (W.of_canB h3)
  rw [← (cases_dr h).2] at hc
  have hb:=(bdN_le hq.2.2.1 j).1 hc
  rw [h5,if_pos rfl,if_pos (by dsimp only;omega)]
 ·rw [h2,if_neg (by decide)]
  rfl
end Go.Proofs.YtgpdpedpmhonkaaX
