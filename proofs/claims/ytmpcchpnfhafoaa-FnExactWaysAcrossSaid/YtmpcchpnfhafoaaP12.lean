import Derived.Test.YtmpcchpnfhafoaaP11
namespace Go.Proofs.YtmpcchpnfhafoaaX
open Go
set_option linter.unusedVariables false
set_option linter.unusedSimpArgs false
abbrev Fe:=Qae
abbrev Bk:=Qag
theorem F_eta (F:Fe):(⟨F.Qac,F.Qaf,F.Qai⟩:Fe)=F:=rfl
def B16 (x:Int):BitVec 16:=BitVec.ofInt 16 x
theorem wrapB (b:BitVec 16):u16w (b.toNat:Int)=b.toNat:=u16w_id (by omega) (by have:=b.isLt;omega)
theorem bAndNot_eq (x y:Int):bAndNot .u16 x y=((B16 x&&& ~~~B16 y).toNat:Int):=wrapB (B16 x&&& ~~~B16 y)
theorem bXor_eq (x y:Int):bXor .u16 x y=((B16 x^^^B16 y).toNat:Int):=wrapB (B16 x^^^B16 y)
theorem B16_nat {x:Int} (h:0≤x∧x≤65535):((B16 x).toNat:Int)=x:=by simp [B16];omega
theorem andNot_range {x y:Int} (h:0≤x∧x≤65535):0≤bAndNot .u16 x y∧bAndNot .u16 x y≤x:=by
 rw [bAndNot_eq,BitVec.toNat_and]
 have:=@Nat.and_le_left (B16 x).toNat (~~~B16 y).toNat
 have:=B16_nat h
 omega
theorem bXor_range (x y:Int):0≤bXor .u16 x y∧bXor .u16 x y≤65535:=by
 rw [bXor_eq]
 have:=(B16 x^^^B16 y).isLt
 omega
theorem andNot_le {x y:Int} (h:0≤x∧x≤65535) (h':0≤y∧y≤65535) (e:bAndNot .u16 x y=0):x≤y:=by
 rw [bAndNot_eq] at e
 have e0:B16 x&&& ~~~B16 y=0#16:=by
  apply BitVec.eq_of_toNat_eq
  simpa using e
 have e1:B16 x&&&B16 y=B16 x:=by
  apply BitVec.eq_of_getLsbD_eq
  intro i hi
  have q:=congrArg (fun b=>b.getLsbD i) e0
  simp [hi] at q ⊢
  exact q
 have e2:=congrArg BitVec.toNat e1
 rw [BitVec.toNat_and] at e2
 have:=@Nat.and_le_right (B16 x).toNat (B16 y).toNat
 have:=B16_nat h
 have:=B16_nat h'
 omega
def cnt (x:Int):Int:=(Qa3.f 0 x).getD 0
theorem cnt_all:∀ n:Nat,n< 256→(rounds (fun s=>QaP.b0 0 s.1 s.2) 10 ((n:Int),0)).bind (Ex.fin fun s=>QaP.a0 0 s)=some (cnt n)∧Qa3.f 0 (n:Int)=some (cnt n)∧0≤cnt n∧cnt n≤8:=by decide+kernel
theorem cnt_at {x:Int} (h:0≤x∧x≤255):(rounds (fun s=>QaP.b0 0 s.1 s.2) 10 (x,0)).bind (Ex.fin fun s=>QaP.a0 0 s)=some (cnt x)∧Qa3.f 0 x=some (cnt x)∧0≤cnt x∧cnt x≤8:=by
 have:=cnt_all x.toNat (by omega)
 rwa [Int.toNat_of_nonneg h.1] at this
theorem ones_eq (N:Nat) {x:Int} (h:0≤x∧x≤255):Qa3.f N x=some (cnt x):=(cnt_at h).2.1
theorem size_eq {N:Nat} (hN:10≤N) {x:Int} (h:0≤x∧x≤255):QaP.f N x=some (cnt x):=by
 have q:=(cnt_at h).1
 obtain ⟨e,he,hf⟩:=bind_get q
 unfold QaP.f
 rw [show (fun s:Int×Int=>QaP.b0 N s.1 s.2)=(fun s=>QaP.b0 0 s.1 s.2) from rfl,rounds_mono he hN]
 exact hf
def allF (F:Fe):Int:=2^F.Qac.toNat - 1
def T8 (F:Fe):Prop:=1≤F.Qac∧F.Qac≤8
theorem all_tab:∀ t:Nat,t< 9→(if (0:Int)≤(u64w t) then (some (u16w ((shlI .u16 1 (u64w t)) - 1))) else none)=some ((2:Int)^t - 1)∧(if (0:Int)≤(t:Int) then (some (u16w ((shlI .u16 1 t) - 1))) else none)=some ((2:Int)^t - 1):=by decide+kernel
theorem pow_tab:∀ t:Nat,t< 9→1≤t→1≤(2:Int)^t - 1∧(2:Int)^t - 1≤255:=by decide+kernel
theorem all_range {F:Fe} (h:T8 F):1≤allF F∧allF F≤255:=pow_tab _ (by have:=h.2;omega) (by have:=h.1;omega)
theorem QbI (N:Nat) {F:Fe} (h:T8 F):QaV.f N F=some (allF F):=by
 have:=(all_tab F.Qac.toNat (by have:=h.2;omega)).1
 rwa [Int.toNat_of_nonneg (by have:=h.1;omega)] at this
theorem QbM (N:Nat) {F:Fe} (h:T8 F):QaR.f N F=some (allF F):=by
 have:=(all_tab F.Qac.toNat (by have:=h.2;omega)).2
 rwa [Int.toNat_of_nonneg (by have:=h.1;omega)] at this
theorem rounds_any {ρ:Type} {b:Int→Option (Bd ρ Unit Int)} (a:List Int) (p:Int→Bool) (r:Nat→ρ) {N:Nat} (hN:a.length< N)
 (h:∀ i (hi:i< a.length),b (i:Int)=if p a[i]=true then some (.out (.ret (r i))) else some (.next ((i+1:Nat):Int)))
 (he:b (a.length:Int)=some (.out (.go ()))):∃ e,rounds b N 0=some e∧(if a.any p=true then ∃ i,e= .ret (r i) else e= .go ()):=by
 have main:∀ (n k:Nat),k≤a.length→a.length - k< n→∃ e,rounds b n (k:Int)=some e∧(if (a.drop k).any p=true then ∃ i,e= .ret (r i) else e= .go ()):=by
  intro n
  induction n with
  |zero=>intro k _ hk;omega
  |succ n ih=>
   intro k hk hn
   by_cases hl:k< a.length
   ·have hb:=h k hl
    by_cases hp:p a[k]=true
    ·rw [if_pos hp] at hb
     have e1:(a.drop k).any p=true:=by rw [List.drop_eq_getElem_cons hl,List.any_cons,hp];rfl
     exact ⟨_,rounds_out hb,by rw [if_pos e1];exact ⟨_,rfl⟩⟩
    ·rw [if_neg hp] at hb
     obtain ⟨e,h1,h2⟩:=ih (k+1) hl (by omega)
     have e1:(a.drop k).any p=(a.drop (k+1)).any p:=by rw [List.drop_eq_getElem_cons hl,List.any_cons,(Bool.not_eq_true _).mp hp,Bool.false_or]
     exact ⟨e,(rounds_next hb).trans h1,by rw [e1];exact h2⟩
   ·obtain rfl:k=a.length:=by omega
    exact ⟨_,rounds_out he,by simp⟩
 exact main N 0 (Nat.zero_le _) (by omega)
def bad (a x:Int):Bool:=!(bAndNot .u16 x a==0)||decide (cnt x< 2)
instance (F:Fe):Decidable (T8 F):=by unfold T8;infer_instance
def okF (F:Fe):Bool:=decide (T8 F)&&(decide (0≤F.Qaf∧F.Qaf≤F.Qac)&&(decide (F.Qai.length≤20)&&!(F.Qai.any (bad (allF F)))))
def InF (F:Fe):Prop:=(-128≤F.Qac∧F.Qac≤127)∧(-128≤F.Qaf∧F.Qaf≤127)∧∀ x∈F.Qai,0≤x∧x≤65535
theorem okF_spec {N:Nat} {F:Fe} (hF:InF F) (hN:40< N):Qa1.f N F=some (okF F):=by
 obtain ⟨h1,h2,h3⟩:=hF
 unfold Qa1.f QbB.f okF
 rw [i64w_id (by omega) (by omega),i64w_id (by omega) (by omega)]
 by_cases c1:T8 F
 ·rw [if_pos c1.1]
  simp only [Option.bind_some,decide_eq_true c1.2,if_true,decide_eq_true c1,Bool.true_and]
  by_cases c2:0≤F.Qaf∧F.Qaf≤F.Qac
  ·rw [if_pos c2.1]
   simp only [Option.bind_some,decide_eq_true c2.2,if_true,decide_eq_true c2,Bool.true_and]
   by_cases c3:F.Qai.length≤20
   ·rw [if_neg (by omega)]
    simp only [decide_eq_true c3,Bool.true_and]
    have hall:=all_range c1
    obtain ⟨e,he,hq⟩:=rounds_any (b:=fun s=>Qa1.b0 N F s) F.Qai (bad (allF F)) (fun _=>false) (N:=N) (by omega) (by
     intro i hi
     have g1:(i:Int)< F.Qai.length:=by omega
     have g2:(0:Int)≤i:=by omega
     have hx:=h3 _ (List.getElem_mem hi)
     simp only [Qa1.b0,g1,g2,and_self,if_true,rdL_nat hi,i64w_succ hi (show F.Qai.length≤9223372036854775807 by omega),F_eta,QbI N c1,Option.bind_some,bad]
     by_cases c4:bAndNot .u16 F.Qai[i] (allF F)=0
     ·have:=andNot_le hx ⟨by omega,by omega⟩ c4
      simp only [c4,if_true,size_eq (N:=N) (by omega) ⟨hx.1,show F.Qai[i]≤255 by omega⟩,Option.bind_some]
      by_cases c5:cnt F.Qai[i]< 2
      ·simp [c5]
      ·simp [c5]
     ·simp [c4]) (by
     simp only [Qa1.b0]
     rw [if_neg (by omega)])
    rw [he]
    by_cases c4:F.Qai.any (bad (allF F))=true
    ·rw [if_pos c4] at hq
     obtain ⟨i,rfl⟩:=hq
     simp only [Option.bind_some,Ex.fin,c4,Bool.not_true]
    ·rw [if_neg c4] at hq
     subst hq
     rw [Bool.not_eq_true] at c4
     simp only [Option.bind_some,Ex.fin,c4,Bool.not_false,Qa1.a0]
   ·rw [if_pos (by omega)]
    simp [c3]
  ·simp only [decide_eq_false c2,Bool.false_and]
   by_cases c3:F.Qaf≥0
   ·rw [if_pos c3]
    have:¬ F.Qaf≤F.Qac:=fun h=>c2 ⟨c3,h⟩
    simp [this]
   ·rw [if_neg c3];rfl
 ·simp only [decide_eq_false c1,Bool.false_and]
  by_cases c3:F.Qac≥1
  ·rw [if_pos c3]
   have:¬ F.Qac≤8:=fun h=>c1 ⟨c3,h⟩
   simp [this]
  ·rw [if_neg c3];rfl
theorem okF_impl {N:Nat} {F:Fe} (hF:InF F) (hN:40< N):Qbi.f N F=some (okF F):=by
 obtain ⟨h1,h2,h3⟩:=hF
 unfold Qbi.f Qbq.f okF
 rw [i64w_id (by omega) (by omega),i64w_id (by omega) (by omega)]
 by_cases c1:T8 F
 ·rw [if_pos c1.1]
  simp only [Option.bind_some,decide_eq_true c1.2,if_true,decide_eq_true c1,Bool.true_and]
  by_cases c2:0≤F.Qaf∧F.Qaf≤F.Qac
  ·rw [if_pos c2.1]
   simp only [Option.bind_some,decide_eq_true c2.2,if_true,decide_eq_true c2,Bool.true_and]
   by_cases c3:F.Qai.length≤20
   ·rw [if_neg (by omega)]
    simp only [decide_eq_true c3,Bool.true_and]
    have hall:=all_range c1
    obtain ⟨e,he,hq⟩:=rounds_any (b:=fun s=>Qao.b0 N F.Qai F s) F.Qai (bad (allF F)) (fun i=>(i:Int)) (N:=N) (by omega) (by
     intro i hi
     have g1:(i:Int)< F.Qai.length:=by omega
     have g2:(0:Int)≤i:=by omega
     have hx:=h3 _ (List.getElem_mem hi)
     simp only [Qao.b0,Qbm.f,Qba.f,g1,g2,and_self,if_true,rdL_nat hi,i64w_succ hi (show F.Qai.length≤9223372036854775807 by omega),F_eta,QbM N c1,Option.bind_some,bad]
     by_cases c4:bAndNot .u16 F.Qai[i] (allF F)=0
     ·have:=andNot_le hx ⟨by omega,by omega⟩ c4
      simp only [c4,beq_self_eq_true,if_true,ones_eq N ⟨hx.1,show F.Qai[i]≤255 by omega⟩,Option.bind_some]
      by_cases c5:cnt F.Qai[i]< 2
      ·simp [c5]
      ·simp [c5]
     ·simp [c4]) (by
     simp only [Qao.b0]
     rw [if_neg (by omega)])
    simp only [QaF.f,Qao.f,F_eta,he]
    by_cases c4:F.Qai.any (bad (allF F))=true
    ·rw [if_pos c4] at hq
     obtain ⟨i,rfl⟩:=hq
     simp only [Option.bind_some,Ex.fin,c4,Bool.not_true,decide_eq_true (show (i:Int)≥0 by omega)]
    ·rw [if_neg c4] at hq
     subst hq
     rw [Bool.not_eq_true] at c4
     simp only [Option.bind_some,Ex.fin,c4,Bool.not_false,Qao.a0]
     rfl
   ·rw [if_pos (by omega)]
    simp [c3]
  ·simp only [decide_eq_false c2,Bool.false_and]
   by_cases c3:0≤F.Qaf
   ·rw [if_pos c3]
    have:¬ F.Qaf≤F.Qac:=fun h=>c2 ⟨c3,h⟩
    simp [this]
   ·rw [if_neg c3];rfl
 ·simp only [decide_eq_false c1,Bool.false_and]
  by_cases c3:1≤F.Qac
  ·rw [if_pos c3]
   have:¬ F.Qac≤8:=fun h=>c1 ⟨c3,h⟩
   simp [this]
  ·rw [if_neg c3];rfl
def safe (R:List Int) (t:Int):Bool:=!(R.any fun r=>bAndNot .u16 r t==0)
theorem safe_spec {N:Nat} {F:Fe} (hl:F.Qai.length≤20) (hN:40< N) (t:Int):QaU.f N F t=some (safe F.Qai t):=by
 obtain ⟨e,he,hq⟩:=rounds_any (b:=fun s=>QaU.b0 N F t s) F.Qai (fun r=>bAndNot .u16 r t==0) (fun _=>false) (N:=N) (by omega) (by
  intro i hi
  have g1:(i:Int)< F.Qai.length:=by omega
  have g2:(0:Int)≤i:=by omega
  simp only [QaU.b0,g1,g2,and_self,if_true,rdL_nat hi,i64w_succ hi (show F.Qai.length≤9223372036854775807 by omega),beq_iff_eq]) (by
  simp only [QaU.b0]
  rw [if_neg (by omega)])
 unfold QaU.f safe
 rw [he]
 by_cases c4:(F.Qai.any fun r=>bAndNot .u16 r t==0)=true
 ·rw [if_pos c4] at hq
  obtain ⟨i,rfl⟩:=hq
  simp only [Option.bind_some,Ex.fin,c4,Bool.not_true]
 ·rw [if_neg c4] at hq
  subst hq
  rw [Bool.not_eq_true] at c4
  simp only [Option.bind_some,Ex.fin,c4,Bool.not_false,QaU.a0]
theorem safe_impl {N:Nat} {F:Fe} (hl:F.Qai.length≤20) (hN:40< N) (t:Int):Qbd.f N F t=some (safe F.Qai t):=by
 obtain ⟨e,he,hq⟩:=rounds_any (b:=fun s=>Qan.b0 N F.Qai t s) F.Qai (fun r=>bAndNot .u16 r t==0) (fun i=>(i:Int)) (N:=N) (by omega) (by
  intro i hi
  have g1:(i:Int)< F.Qai.length:=by omega
  have g2:(0:Int)≤i:=by omega
  simp only [Qan.b0,Qbe.f,Qba.f,g1,g2,and_self,if_true,rdL_nat hi,i64w_succ hi (show F.Qai.length≤9223372036854775807 by omega),Option.bind_some]) (by
  simp only [Qan.b0]
  rw [if_neg (by omega)])
 simp only [Qbd.f,QaE.f,Qan.f,he,safe]
 by_cases c4:(F.Qai.any fun r=>bAndNot .u16 r t==0)=true
 ·rw [if_pos c4] at hq
  obtain ⟨i,rfl⟩:=hq
  simp only [Option.bind_some,Ex.fin,c4,Bool.not_true,decide_eq_true (show (i:Int)≥0 by omega)]
 ·rw [if_neg c4] at hq
  subst hq
  rw [Bool.not_eq_true] at c4
  simp only [Option.bind_some,Ex.fin,c4,Bool.not_false,Qan.a0]
  rfl
def alone (F:Fe) (b:Bk):Int:=if b.QaN=true then b.Qam else bAndNot .u16 (allF F) b.Qam
def here (F:Fe) (b:Bk):Int:=if b.QaN=true then bAndNot .u16 (allF F) b.Qam else b.Qam
def bankF (F:Fe) (b:Bk):Bool:=(bAndNot .u16 b.Qam (allF F)==0)&&safe F.Qai (alone F b)
theorem bank_spec {N:Nat} {F:Fe} (hT:T8 F) (hl:F.Qai.length≤20) (hN:40< N) (b:Bk):Qbt.f N F b=some (bankF F b):=by
 simp only [Qbt.f,F_eta,QbI N hT,Option.bind_some,safe_spec hl hN,bankF,alone]
 by_cases c:bAndNot .u16 b.Qam (allF F)=0
 ·rw [if_pos c]
  cases b.QaN<;>simp [c]
 ·rw [if_neg c]
  simp [c]
theorem bank_impl {N:Nat} {F:Fe} (hT:T8 F) (hl:F.Qai.length≤20) (hN:40< N) (b:Bk):Qbc.f N F b=some (bankF F b):=by
 simp only [Qbc.f,Qa4.f,Qba.f,F_eta,QbM N hT,Option.bind_some,safe_impl hl hN,bankF,alone]
 cases b.QaN<;>by_cases c:bAndNot .u16 b.Qam (allF F)=0<;>simp [c,safe_impl hl hN]
def crossedB (b:Bk) (l:Int):Bk:=⟨bXor .u16 b.Qam l,!b.QaN⟩
def codeF (F:Fe) (b:Bk) (l:Int):Int:=if bAndNot .u16 l (here F b)=0 then (if cnt l>F.Qaf then 3 else if bankF F (crossedB b l)=true then 0 else 4) else 2
structure OkF (F:Fe):Prop where
 t8:T8 F
 boat:0≤F.Qaf∧F.Qaf≤F.Qac
 len:F.Qai.length≤20
 rules:F.Qai.any (bad (allF F))=false
theorem okF_iff {F:Fe}:okF F=true↔OkF F:=by
 unfold okF
 simp only [Bool.and_eq_true,decide_eq_true_eq,Bool.not_eq_true']
 exact ⟨fun h=>⟨h.1,h.2.1,h.2.2.1,h.2.2.2⟩,fun h=>⟨h.1,h.2,h.3,h.4⟩⟩
theorem here_range {F:Fe} (hT:T8 F) {b:Bk} (hb:0≤b.Qam∧b.Qam≤255):0≤here F b∧here F b≤255:=by
 have hall:=all_range hT
 unfold here
 by_cases c:b.QaN=true
 ·rw [if_pos c]
  have:=@andNot_range (allF F) b.Qam ⟨by omega,by omega⟩
  omega
 ·rw [if_neg c];exact hb
theorem cross_spec {N:Nat} {F:Fe} (h:OkF F) (hN:40< N) {b:Bk} (hb:0≤b.Qam∧b.Qam≤255) {l:Int} (hl:0≤l∧l≤65535):
 Qbk.f N F b l=some (if codeF F b l=0 then (crossedB b l,0) else (⟨0,false⟩,codeF F b l)):=by
 have hr:=here_range h.t8 hb
 have hh:Qbu.f N F b=some (here F b):=by
  simp only [Qbu.f,F_eta,QbI N h.t8,Option.bind_some,here]
  cases b.QaN<;>simp
 simp only [Qbk.f,F_eta,hh,Option.bind_some,bank_spec h.t8 h.len hN]
 by_cases c:bAndNot .u16 l (here F b)=0
 ·have:=andNot_le hl ⟨hr.1,by omega⟩ c
  have ht:=h.t8
  have hbo:=h.boat
  unfold T8 at ht
  simp only [if_pos c,size_eq (N:=N) (by omega) ⟨hl.1,show l≤255 by omega⟩,Option.bind_some]
  rw [i64w_id (by omega) (by omega)]
  by_cases c2:cnt l>F.Qaf
  ·have hv:codeF F b l=3:=by unfold codeF;rw [if_pos c,if_pos c2]
   rw [if_pos c2,hv];rfl
  ·rw [if_neg c2]
   by_cases c3:bankF F (crossedB b l)=true
   ·have hv:codeF F b l=0:=by unfold codeF;rw [if_pos c,if_neg c2,if_pos c3]
    have c3':bankF F ⟨bXor .u16 b.Qam l,!b.QaN⟩=true:=c3
    rw [if_pos c3',hv];rfl
   ·have hv:codeF F b l=4:=by unfold codeF;rw [if_pos c,if_neg c2,if_neg c3]
    have c3':¬ bankF F ⟨bXor .u16 b.Qam l,!b.QaN⟩=true:=c3
    rw [if_neg c3',hv];rfl
 ·have hv:codeF F b l=2:=by unfold codeF;rw [if_neg c]
  rw [if_neg c,hv];rfl
theorem cross_impl {N:Nat} {F:Fe} (h:OkF F) (hN:40< N) {b:Bk} (hb:0≤b.Qam∧b.Qam≤255) {l:Int} (hl:0≤l∧l≤65535):
 Qa8.f N F b l=some (codeF F b l):=by
 have hr:=here_range h.t8 hb
 have hh:∃ y,Qa4.f N F b=some (here F b,y):=by
  simp only [Qa4.f,F_eta,QbM N h.t8,Option.bind_some,here]
  cases b.QaN
  ·exact ⟨_,rfl⟩
  ·exact ⟨_,rfl⟩
 obtain ⟨y,hh⟩:=hh
 simp only [Qa8.f,F_eta,hh,Option.bind_some,codeF,bank_impl h.t8 h.len hN,Qba.f,Qa7.f,QbG.f]
 by_cases c:bAndNot .u16 l (here F b)=0
 ·have:=andNot_le hl ⟨hr.1,by omega⟩ c
  have ht:=h.t8
  have hbo:=h.boat
  unfold T8 at ht
  simp only [c,beq_self_eq_true,if_true,ones_eq N ⟨hl.1,show l≤255 by omega⟩,Option.bind_some]
  rw [i64w_id (by omega) (by omega)]
  by_cases c2:cnt l>F.Qaf
  ·rw [if_pos c2,if_pos c2]
  ·rw [if_neg c2,if_neg c2]
   show (if bankF F (crossedB b l)=true then some 0 else some 4).bind _=_
   by_cases c3:bankF F (crossedB b l)=true
   ·rw [if_pos c3,if_pos c3];rfl
   ·rw [if_neg c3,if_neg c3];rfl
 ·simp [c]
theorem codeF_bank {F:Fe} {b:Bk} {l:Int} (h:codeF F b l=0):bankF F (crossedB b l)=true∧bAndNot .u16 l (here F b)=0:=by
 unfold codeF at h
 by_cases c:bAndNot .u16 l (here F b)=0
 ·rw [if_pos c] at h
  by_cases c2:cnt l>F.Qaf
  ·rw [if_pos c2] at h;omega
  ·rw [if_neg c2] at h
   by_cases c3:bankF F (crossedB b l)=true
   ·exact ⟨c3,c⟩
   ·rw [if_neg c3] at h;omega
 ·rw [if_neg c] at h;omega
theorem bankF_range {F:Fe} (hT:T8 F) {b:Bk} (h:bankF F b=true) (hb:0≤b.Qam∧b.Qam≤65535):0≤b.Qam∧b.Qam≤allF F∧b.Qam≤255:=by
 have hall:=all_range hT
 unfold bankF at h
 simp only [Bool.and_eq_true,beq_iff_eq] at h
 have:=andNot_le hb ⟨by omega,by omega⟩ h.1
 omega
theorem crossedB_range {F:Fe} (hT:T8 F) {b:Bk} {l:Int} (h:codeF F b l=0):0≤(crossedB b l).Qam∧(crossedB b l).Qam≤allF F∧(crossedB b l).Qam≤255:=
 bankF_range hT (codeF_bank h).1 (bXor_range _ _)
def loadsTo (F:Fe) (b:Bk) (n:Nat):List Int:=((List.range n).map fun (i:Nat)=>(i:Int)).filter fun l=>codeF F b l==0
theorem loadsTo_succ (F:Fe) (b:Bk) (n:Nat):loadsTo F b (n+1)=if codeF F b (n:Int)=0 then loadsTo F b n++[(n:Int)] else loadsTo F b n:=by
 unfold loadsTo
 rw [List.range_succ,List.map_append,List.filter_append]
 by_cases c:codeF F b (n:Int)=0
 ·rw [if_pos c];simp [c]
 ·rw [if_neg c];simp [c]
theorem loadsTo_len (F:Fe) (b:Bk) (n:Nat):(loadsTo F b n).length≤n:=by
 unfold loadsTo
 exact Nat.le_trans (List.length_filter_le _ _) (by simp)
def loadsF (F:Fe) (b:Bk):List Int:=loadsTo F b ((allF F).toNat+1)
theorem loadsF_len {F:Fe} (hT:T8 F) (b:Bk):(loadsF F b).length≤256:=by
 have:=loadsTo_len F b ((allF F).toNat+1)
 have:=all_range hT
 unfold loadsF
 omega
theorem loadsF_mem {F:Fe} {b:Bk} {l:Int} (h:l∈loadsF F b):codeF F b l=0∧0≤l∧l≤allF F∨allF F< 0:=by
 unfold loadsF loadsTo at h
 simp only [List.mem_filter,List.mem_map,List.mem_range,beq_iff_eq] at h
 obtain ⟨⟨i,hi,rfl⟩,hc⟩:=h
 by_cases c:allF F< 0
 ·exact Or.inr c
 ·exact Or.inl ⟨hc,by omega,by omega⟩
theorem loads_spec {N:Nat} {F:Fe} (h:OkF F) (hN:300< N) {b:Bk} (hb:0≤b.Qam∧b.Qam≤255):QaL.f N F b=some (loadsF F b):=by
 have hall:=all_range h.t8
 unfold QaL.f
 have q:=rounds_for (b:=fun s=>QaL.b0 N F b s.1 s.2) (e:= .go (loadsF F b)) (fun k=>(loadsTo F b k,(k:Int))) ((allF F).toNat+1) 0 N (by omega) (by omega) (by
  intro i _ hi
  have hlen:=loadsTo_len F b i
  have hw:u16w ((i:Int)+1)=((i+1:Nat):Int):=by rw [u16w_id (by omega) (by omega)];omega
  simp only [QaL.b0,F_eta,QbI N h.t8,Option.bind_some]
  rw [if_pos (by omega),cross_spec h (by omega) hb ⟨by omega,by omega⟩,loadsTo_succ]
  simp only [Option.bind_some,QaL.j2,hw,List.length_singleton]
  by_cases c:codeF F b (i:Int)=0
  ·simp only [if_pos c,if_true];rw [if_pos (by omega)]
  ·simp only [if_neg c]) (by
  simp only [QaL.b0,F_eta,QbI N h.t8,Option.bind_some]
  rw [if_neg (by omega)];rfl)
 have q':rounds (fun s=>QaL.b0 N F b s.1 s.2) N (([]:List Int),0)=some (.go (loadsF F b)):=q
 rw [q'];rfl
theorem loads_impl {N:Nat} {F:Fe} (h:OkF F) (hN:300< N) {b:Bk} (hb:0≤b.Qam∧b.Qam≤255):QaC.f N F b=some (loadsF F b):=by
 have hall:=all_range h.t8
 unfold QaC.f
 simp only [F_eta,QbM N h.t8,Option.bind_some]
 have hw1:u16w (allF F+1)=allF F+1:=u16w_id (by omega) (by omega)
 have q:=rounds_for (b:=fun s=>QaC.b0 N (allF F) F b s.1 s.2) (e:= .go (loadsF F b)) (fun k=>(loadsTo F b k,(k:Int))) ((allF F).toNat+1) 0 N (by omega) (by omega) (by
  intro i _ hi
  have hlen:=loadsTo_len F b i
  have hw:u16w ((i:Int)+1)=((i+1:Nat):Int):=by rw [u16w_id (by omega) (by omega)];omega
  simp only [QaC.b0,F_eta,hw1]
  rw [if_pos (by omega),cross_impl h (by omega) hb ⟨by omega,by omega⟩,loadsTo_succ]
  simp only [Option.bind_some,QaC.j2,hw,List.length_singleton]
  by_cases c:codeF F b (i:Int)=0
  ·simp only [if_pos c];rw [if_pos (by omega)]
  ·simp only [if_neg c]) (by
  simp only [QaC.b0,F_eta,hw1]
  rw [if_neg (by omega)];rfl)
 have q':rounds (fun s=>QaC.b0 N (allF F) F b s.1 s.2) N (([]:List Int),0)=some (.go (loadsF F b)):=q
 rw [q'];rfl
theorem min_i8:IntKind.min .i8= -128:=rfl
theorem max_i8:IntKind.max .i8=127:=rfl
theorem szFerry_pos {N:Nat} {F:Fe} (h:F.Qai.length≤1048576):Qbn.f N F 1048576=some (1048576 - (F.Qai.length:Int)):=by
 simp only [Qbn.f,Qbo.f,i64w_id (x:=1048576 - (F.Qai.length:Int)) (by omega) (by omega)]
 rw [if_neg (by omega)]
 simp only [Option.bind_some]
 rw [if_neg (by omega)]
theorem szFerry_neg {N:Nat} {F:Fe} (h:F.Qai.length>1048576) (h':F.Qai.length≤9223372036854775807):Qbn.f N F 1048576=some (-1):=by
 simp only [Qbn.f,Qbo.f,i64w_id (x:=1048576 - (F.Qai.length:Int)) (by omega) (by omega)]
 rw [if_pos (by omega)]
 rfl
theorem toUint16S_eq {N:Nat} {a:List Int} (h:a.length≤1048576) (hN:a.length< N):QaW.f N a=some a:=by
 unfold QaW.f
 rw [if_pos ⟨by omega,by omega⟩,Int.toNat_natCast,rounds_copy a 0 hN ?_ ?_]
 ·rfl
 ·intro x i hi hx
  simp only [QaW.b0]
  rw [if_pos (by omega),if_pos ⟨by omega,by omega⟩,if_pos ⟨by omega,by omega⟩,rdL_nat hi,stL_nat,i64w_succ hi (by omega)]
 ·intro x hx
  simp only [QaW.b0]
  rw [if_neg (by omega)]
theorem toFerry_eq {N:Nat} {F:Fe} (h:F.Qai.length≤1048576) (hN:F.Qai.length< N):Qbh.f N F=some F:=by
 simp only [Qbh.f,toUint16S_eq h hN,Option.bind_some]
theorem eqUint16S_same {N:Nat} {a:List Int} (h:a.length≤1048576) (hN:a.length< N):QaS.f N a a=some true:=by
 unfold QaS.f
 rw [if_pos rfl,rounds_same a a rfl hN ?_ ?_]
 ·simp [Ex.fin,QaS.a0]
 ·intro i hi
  have g1:(i:Int)< a.length:=by omega
  have g2:(0:Int)≤i:=by omega
  simp only [QaS.b0,g1,g2,and_self,if_true,i64w_succ hi (show a.length≤9223372036854775807 by omega)]
 ·simp only [QaS.b0]
  rw [if_neg (by omega)]
theorem eqFerry_same {N:Nat} {F:Fe} (h:F.Qai.length≤1048576) (hN:F.Qai.length< N):Qbr.f N F F=some true:=by
 simp only [Qbr.f,if_true,eqUint16S_same h hN,Option.bind_some]
def numF (F:Fe) (b:Bk):Int:=if b.QaN=true then b.Qam+allF F+1 else b.Qam
def atF (F:Fe) (i:Int):Bk:=⟨i%(allF F+1),decide (i≥allF F+1)⟩
theorem index_spec {N:Nat} {F:Fe} (h:T8 F) {b:Bk} (hb:0≤b.Qam∧b.Qam≤255):Qbp.f N F b=some (numF F b):=by
 have hall:=all_range h
 simp only [Qbp.f,F_eta,QbI N h,Option.bind_some,numF]
 rw [i64w_id (x:=b.Qam) (by omega) (by omega),i64w_id (x:=allF F) (by omega) (by omega),i64w_id (x:=b.Qam+allF F) (by omega) (by omega),i64w_id (by omega) (by omega)]
 cases b.QaN<;>rfl
theorem shl_tab:∀ t:Nat,t< 9→shlI .i64 1 (t:Int)=(2:Int)^t∧shlI .i64 2 (t:Int)=2*(2:Int)^t:=by decide+kernel
theorem shl_one {F:Fe} (h:T8 F):shlI .i64 1 F.Qac=allF F+1∧shlI .i64 2 F.Qac=2*(allF F+1):=by
 have:=shl_tab F.Qac.toNat (by have:=h.2;omega)
 rw [Int.toNat_of_nonneg (by have:=h.1;omega)] at this
 unfold allF
 exact ⟨by rw [this.1];omega,by rw [this.2];omega⟩
theorem number_impl {N:Nat} {F:Fe} (h:T8 F) {b:Bk} (hb:0≤b.Qam∧b.Qam≤255):Qa5.f N F b=some (numF F b):=by
 have hall:=all_range h
 have h0:=h.1
 simp only [Qa5.f,(shl_one h).1,if_pos (show (0:Int)≤F.Qac by omega),numF]
 rw [i64w_id (x:=b.Qam) (by omega) (by omega),i64w_id (by omega) (by omega)]
 cases b.QaN
 ·rfl
 ·simp only [if_true]
  rw [show b.Qam+(allF F+1)=b.Qam+allF F+1 by omega]
theorem at_tab:∀ t:Nat,t< 9→∀ i:Nat,i< 512→i< 2*2^t→u16w (Int.tmod (i:Int) ((2:Int)^t))=(i:Int)%((2:Int)^t)∧bAnd .u16 (u16w (i:Int)) ((2:Int)^t - 1)=(i:Int)%((2:Int)^t)∧(shrI .i64 (i:Int) (t:Int)==1)=decide ((i:Int)≥(2:Int)^t):=by decide+kernel
theorem at_both {F:Fe} (h:T8 F) {i:Nat} (hi:(i:Int)< 2*(allF F+1)):u16w (Int.tmod (i:Int) (allF F+1))=(i:Int)%(allF F+1)∧bAnd .u16 (u16w (i:Int)) (allF F)=(i:Int)%(allF F+1)∧(shrI .i64 (i:Int) F.Qac==1)=decide ((i:Int)≥allF F+1):=by
 have hall:=all_range h
 have e:(2:Int)^F.Qac.toNat=allF F+1:=by unfold allF;omega
 have e2:((2^F.Qac.toNat:Nat):Int)=allF F+1:=by rw [← e];simp
 have:=at_tab F.Qac.toNat (by have:=h.2;omega) i (by omega) (by omega)
 rw [Int.toNat_of_nonneg (by have:=h.1;omega),e,show allF F+1 - 1=allF F by omega] at this
 exact this
theorem at_spec {N:Nat} {F:Fe} (h:T8 F) {i:Nat} (hi:(i:Int)< 2*(allF F+1)):Qbs.f N F (i:Int)=some (atF F i):=by
 have hall:=all_range h
 simp only [Qbs.f,F_eta,QbI N h,Option.bind_some]
 rw [i64w_id (x:=allF F) (by omega) (by omega),i64w_id (by omega) (by omega),if_pos (by omega),(at_both h hi).1]
 rfl
theorem numF_range {F:Fe} (h:T8 F) {b:Bk} (hb:0≤b.Qam∧b.Qam≤allF F):0≤numF F b∧numF F b< 2*(allF F+1):=by
 have hall:=all_range h
 unfold numF
 split<;>omega
def idx (n:Nat):List Int:=(List.range n).map fun (i:Nat)=>(i:Int)
theorem idx_len (n:Nat):(idx n).length=n:=by simp [idx]
theorem step_code {F:Fe} (h:OkF F) {b:Bk} {i:Nat} (hi:i< (loadsF F b).length):codeF F b (loadsF F b)[i]=0∧0≤(loadsF F b)[i]∧(loadsF F b)[i]≤255∧0≤(crossedB b (loadsF F b)[i]).Qam∧(crossedB b (loadsF F b)[i]).Qam≤allF F:=by
 have hall:=all_range h.t8
 rcases loadsF_mem (List.getElem_mem hi) with q|q
 ·have:=crossedB_range h.t8 q.1
  exact ⟨q.1,q.2.1,by omega,this.1,this.2.1⟩
 ·omega
abbrev Cr:=Qau
abbrev zc:Cr:=Qaj
theorem mGet_cons {κ ν:Type} [DecidableEq κ] (p:κ×ν) (kv:List (κ×ν)) (k:κ) (z:ν):mGet (p::kv) k z=if k=p.1 then p.2 else mGet kv k z:=by
 unfold mGet mIdx
 rw [List.findIdx?_cons]
 by_cases c:k=p.1
 ·simp [c]
 ·simp only [c,decide_false,Bool.false_eq_true,if_false]
  cases List.findIdx? (fun p=>decide (k=p.1)) kv with
  |none=>rfl
  |some i=>simp
theorem mSet_cons {κ ν:Type} [DecidableEq κ] (p:κ×ν) (kv:List (κ×ν)) (k:κ) (v:ν):mSet (p::kv) k v=if k=p.1 then (k,v)::kv else p::mSet kv k v:=by
 unfold mSet mIdx
 rw [List.findIdx?_cons]
 by_cases c:k=p.1
 ·simp [c]
 ·simp only [c,decide_false,Bool.false_eq_true,if_false]
  cases List.findIdx? (fun p=>decide (k=p.1)) kv with
  |none=>rfl
  |some i=>simp
theorem mGet_set {κ ν:Type} [DecidableEq κ] (k k':κ) (v z:ν):∀ kv:List (κ×ν),mGet (mSet kv k v) k' z=if k'=k then v else mGet kv k' z
 |[]=>by
  have e:mSet ([]:List (κ×ν)) k v=[(k,v)]:=rfl
  rw [e,mGet_cons]
 |p::kv=>by
  rw [mSet_cons]
  by_cases c:k=p.1
  ·rw [if_pos c,mGet_cons,mGet_cons]
   by_cases d:k'=k
   ·rw [if_pos d,if_pos d]
   ·rw [if_neg d,if_neg d,if_neg (fun e=>d (e.trans c.symm))]
  ·rw [if_neg c,mGet_cons,mGet_cons,mGet_set k k' v z kv]
   by_cases d:k'=p.1
   ·rw [if_pos d,if_pos d,if_neg (fun e=>c (e.symm.trans d))]
   ·rw [if_neg d,if_neg d]
theorem rdL_st {xs:List Int} {a b v:Int} (ha:0≤a∧a< xs.length) (hb:0≤b∧b< xs.length):rdL (stL xs a v) b 0=if b=a then v else rdL xs b 0:=by
 obtain ⟨a,rfl⟩:=Int.eq_ofNat_of_zero_le ha.1
 obtain ⟨b,rfl⟩:=Int.eq_ofNat_of_zero_le hb.1
 unfold rdL stL
 simp only [Int.toNat_natCast,List.getD_eq_getElem?_getD,List.getElem?_set]
 by_cases e:a=b
 ·subst e
  rw [if_pos rfl,if_pos (by omega),if_pos rfl];rfl
 ·rw [if_neg e,if_neg (by omega)]
theorem stL_len (xs:List Int) (a v:Int):(stL xs a v).length=xs.length:=by simp [stL]
theorem rdL_app {α:Type} (xs:List α) (c z:α) {p:Nat} (hp:p< xs.length):rdL (xs++[c]) (p:Int) z=rdL xs (p:Int) z:=by
 unfold rdL
 simp [List.getD_eq_getElem?_getD,List.getElem?_append_left hp]
theorem rdL_new {α:Type} (xs:List α) (c z:α):rdL (xs++[c]) (xs.length:Int) z=c:=by
 unfold rdL
 simp [List.getD_eq_getElem?_getD]
theorem rdL_memb {α:Type} {xs:List α} {z:α} {p:Nat} (hp:p< xs.length):rdL xs (p:Int) z∈xs:=by rw [rdL_nat hp];exact List.getElem_mem hp
theorem memb_rdL {α:Type} {xs:List α} {x:α} (z:α) (h:x∈xs):∃ p:Nat,p< xs.length∧rdL xs (p:Int) z=x:=by
 obtain ⟨p,hp,rfl⟩:=List.mem_iff_getElem.1 h
 exact ⟨p,hp,rdL_nat hp⟩
def nearOk (F:Fe) (b:Bk):Prop:=0≤b.Qam∧b.Qam≤allF F
theorem numF_inj {F:Fe} {a b:Bk} (ha:nearOk F a) (hb:nearOk F b) (h:numF F a=numF F b):a=b:=by
 obtain ⟨x,u⟩:=a
 obtain ⟨y,v⟩:=b
 unfold nearOk at ha hb
 unfold numF at h
 simp only at ha hb h
 cases u<;>cases v<;>simp only [Bool.false_eq_true,if_false,if_true] at h
 ·rw [h]
 ·omega
 ·omega
 ·have:x=y:=by omega
  rw [this]
theorem atF_num {F:Fe} (hT:T8 F) {b:Bk} (hb:nearOk F b):atF F (numF F b)=b:=by
 have hall:=all_range hT
 obtain ⟨x,u⟩:=b
 unfold nearOk at hb
 simp only at hb
 unfold atF numF
 cases u
 ·simp only [Bool.false_eq_true,if_false]
  have h1:x%(allF F+1)=x:=Int.emod_eq_of_lt hb.1 (by omega)
  have h2:¬ x≥allF F+1:=by omega
  rw [h1,decide_eq_false h2]
 ·simp only [if_true]
  have h1:(x+allF F+1)%(allF F+1)=x:=by
   rw [show x+allF F+1=x+(allF F+1) by omega,Int.add_emod_right]
   exact Int.emod_eq_of_lt hb.1 (by omega)
  have h2:x+allF F+1≥allF F+1:=by omega
  rw [h1,decide_eq_true h2]
def nB (F:Fe):Int:=2*(allF F+1)
structure Rel (F:Fe) (out:List Cr) (met:List (Bk×Bool)) (tb fr ba qu:List Int):Prop where
 pos:0< out.length
 q:qu=out.map fun c=>numF F c.Qak
 near:∀ c∈out,nearOk F c.Qak
 nd:(out.map fun c=>numF F c.Qak).Nodup
 met:∀ b,mGet met b false=true↔b∈out.map (·.Qak)
 lt:(tb.length:Int)=nB F∧(fr.length:Int)=nB F∧(ba.length:Int)=nB F
 no:∀ j:Int,0≤j→j< nB F→j∉(out.map fun c=>numF F c.Qak)→rdL tb j 0= -1
 yes:∀ p:Nat,p< out.length→rdL tb (numF F (rdL out (p:Int) zc).Qak) 0=(rdL out (p:Int) zc).QaA∧
  (p=0→(rdL out (p:Int) zc).QbP= -1∧(rdL out (p:Int) zc).QaA=0)∧
  (0< p→0≤(rdL out (p:Int) zc).QbP∧(rdL out (p:Int) zc).QbP< p∧1≤(rdL out (p:Int) zc).QaA∧(rdL out (p:Int) zc).QaA≤p∧
   rdL ba (numF F (rdL out (p:Int) zc).Qak) 0=(rdL out (p:Int) zc).Qb3∧rdL fr (numF F (rdL out (p:Int) zc).Qak) 0=numF F (rdL out ((rdL out (p:Int) zc).QbP) zc).Qak)
theorem nodup_range_len {l:List Int} {n:Nat} (hd:l.Nodup) (hr:∀ x∈l,0≤x∧x< n):l.length≤n:=by
 have:=hd.length_le_of_subset (l₂:=idx n) (fun x hx=>by
  have:=hr x hx
  exact List.mem_map.2 ⟨x.toNat,List.mem_range.2 (by omega),by omega⟩)
 rwa [idx_len] at this
theorem Rel.len {F:Fe} (hT:T8 F) {out met tb fr ba qu} (h:Rel F out met tb fr ba qu):(out.length:Int)≤nB F:=by
 have hall:=all_range hT
 have:=nodup_range_len (n:=(nB F).toNat) h.nd (fun x hx=>by
  obtain ⟨c,hc,rfl⟩:=List.mem_map.1 hx
  have:=numF_range hT (h.near c hc)
  unfold nB
  omega)
 rw [List.length_map] at this
 unfold nB at this ⊢
 omega
theorem Rel.found {F:Fe} {out met tb fr ba qu} (h:Rel F out met tb fr ba qu) {b:Bk} (hb:nearOk F b):b∈out.map (·.Qak)↔numF F b∈out.map fun c=>numF F c.Qak:=by
 constructor
 ·intro hm
  obtain ⟨c,hc,rfl⟩:=List.mem_map.1 hm
  exact List.mem_map.2 ⟨c,hc,rfl⟩
 ·intro hm
  obtain ⟨c,hc,he⟩:=List.mem_map.1 hm
  exact List.mem_map.2 ⟨c,hc,numF_inj (h.near c hc) hb he⟩
theorem Rel.tb_nonneg {F:Fe} {out met tb fr ba qu} (h:Rel F out met tb fr ba qu) {p:Nat} (hp:p< out.length):0≤(rdL out (p:Int) zc).QaA∧(rdL out (p:Int) zc).QaA≤p:=by
 have:=h.yes p hp
 by_cases c:p=0
 ·have:=this.2.1 c;omega
 ·have:=this.2.2 (by omega);omega
theorem Rel.tells {F:Fe} (hT:T8 F) {out met tb fr ba qu} (h:Rel F out met tb fr ba qu) {b:Bk} (hb:nearOk F b):rdL tb (numF F b) 0< 0↔¬ mGet met b false=true:=by
 have hr:=numF_range hT hb
 rw [h.met b,h.found hb]
 constructor
 ·intro hlt hm
  obtain ⟨c,hc,he⟩:=List.mem_map.1 hm
  obtain ⟨p,hp,rfl⟩:=memb_rdL zc hc
  have:=(h.yes p hp).1
  have:=h.tb_nonneg hp
  rw [← he] at hlt
  omega
 ·intro hm
  rw [h.no _ hr.1 hr.2 hm]
  decide
theorem Rel.add {F:Fe} (hT:T8 F) {out met tb fr ba qu} (h:Rel F out met tb fr ba qu) {b:Bk} (hb:nearOk F b) (hm:¬ mGet met b false=true) {i:Nat} (hi:i< out.length) (l:Int):
 Rel F (out++[⟨b,(i:Int),l,(rdL out (i:Int) zc).QaA+1⟩]) (mSet met b true) (stL tb (numF F b) ((rdL out (i:Int) zc).QaA+1)) (stL fr (numF F b) (numF F (rdL out (i:Int) zc).Qak)) (stL ba (numF F b) l) (qu++[numF F b]):=by
 have hr:=numF_range hT hb
 have hnot:numF F b∉out.map fun c=>numF F c.Qak:=fun hx=>hm ((h.met b).2 ((h.found hb).2 hx))
 have hl:=h.lt
 have hrT:0≤numF F b∧numF F b< tb.length:=⟨hr.1,by unfold nB at hl;omega⟩
 have hrF:0≤numF F b∧numF F b< fr.length:=⟨hr.1,by unfold nB at hl;omega⟩
 have hrB:0≤numF F b∧numF F b< ba.length:=⟨hr.1,by unfold nB at hl;omega⟩
 refine ⟨by simp,by rw [h.q];simp,?_,?_,?_,⟨by rw [stL_len];exact hl.1,by rw [stL_len];exact hl.2.1,by rw [stL_len];exact hl.2.2⟩,?_,?_⟩
 ·intro c hc
  rcases List.mem_append.1 hc with hc|hc
  ·exact h.near c hc
  ·rw [List.mem_singleton] at hc;subst hc;exact hb
 ·rw [List.map_append,List.nodup_append]
  refine ⟨h.nd,by simp,?_⟩
  intro x hx y hy e
  simp only [List.map_cons,List.map_nil,List.mem_singleton] at hy
  subst hy
  exact hnot (e▸hx)
 ·intro b'
  rw [mGet_set,List.map_append,List.mem_append]
  by_cases e:b'=b
  ·subst e;simp
  ·rw [if_neg e,h.met b']
   simp [e]
 ·intro j j0 j1 hj
  rw [List.map_append,List.mem_append] at hj
  have h1:j∉out.map fun c=>numF F c.Qak:=fun x=>hj (.inl x)
  have h2:¬ j=numF F b:=fun x=>hj (.inr (by simp [x]))
  rw [rdL_st hrT ⟨j0,by omega⟩,if_neg h2]
  exact h.no j j0 j1 h1
 ·intro p hp
  rw [List.length_append,List.length_singleton] at hp
  by_cases hpo:p< out.length
  ·rw [rdL_app _ _ _ hpo]
   have hc:=rdL_memb (z:=zc) hpo
   have hrp:=numF_range hT (h.near _ hc)
   have hne:¬ numF F (rdL out (p:Int) zc).Qak=numF F b:=fun e=>hnot (e▸List.mem_map.2 ⟨_,hc,rfl⟩)
   obtain ⟨y1,y2,y3⟩:=h.yes p hpo
   refine ⟨by rw [rdL_st hrT ⟨hrp.1,by unfold nB at hl;omega⟩,if_neg hne];exact y1,y2,fun h0=>?_⟩
   obtain ⟨z1,z2,z3,z4,z5,z6⟩:=y3 h0
   refine ⟨z1,z2,z3,z4,by rw [rdL_st hrB ⟨hrp.1,by unfold nB at hl;omega⟩,if_neg hne];exact z5,?_⟩
   rw [rdL_st hrF ⟨hrp.1,by unfold nB at hl;omega⟩,if_neg hne,z6]
   obtain ⟨q,hq⟩:=Int.eq_ofNat_of_zero_le z1
   rw [hq] at z2 ⊢
   rw [rdL_app _ _ _ (by omega)]
  ·obtain rfl:p=out.length:=by omega
   rw [rdL_new]
   have hmn:=h.tb_nonneg hi
   refine ⟨by rw [rdL_st hrT hrT,if_pos rfl],fun h0=>by have:=h.pos;omega,fun _=>⟨by dsimp only;omega,by dsimp only;omega,by dsimp only;omega,by dsimp only;omega,by rw [rdL_st hrB hrB,if_pos rfl],?_⟩⟩
   rw [rdL_st hrF hrF,if_pos rfl]
   dsimp only
   rw [rdL_app _ _ _ hi]
theorem rdL_map {α:Type} (g:α→Int) (xs:List α) (z:α) {p:Nat} (hp:p< xs.length):rdL (xs.map g) (p:Int) 0=g (rdL xs (p:Int) z):=by
 rw [rdL_nat (by simpa using hp),rdL_nat hp,List.getElem_map]
theorem rdL_pre {α:Type} (xs ys:List α) (z:α) {p:Nat} (hp:p< xs.length):rdL (xs++ys) (p:Int) z=rdL xs (p:Int) z:=by
 unfold rdL
 simp [List.getD_eq_getElem?_getD,List.getElem?_append_left hp]
theorem j7_next {N:Nat} {to k j:Int} {qu0 ways tb fr ba qu:List Int} {n:Int} (h1:0≤to∧to< n) (h2:0≤rdL qu0 k 0∧rdL qu0 k 0< n) (ht:(tb.length:Int)=n) (hw:(ways.length:Int)=n):
 ∃ ways',(ways'.length:Int)=n∧Qas.j7 N to qu0 k ways j tb fr ba qu=some (.next (tb,ways',fr,ba,qu,i64w (j+1))):=by
 unfold Qas.j7
 rw [if_pos ⟨h1.1,by omega⟩,if_pos ⟨h2.1,by omega⟩]
 by_cases c:rdL tb to 0=i16w (rdL tb (rdL qu0 k 0) 0+1)
 ·rw [if_pos c,if_pos ⟨h1.1,by omega⟩,if_pos ⟨h2.1,by omega⟩,if_pos ⟨h1.1,by omega⟩]
  exact ⟨_,by rw [stL_len];exact hw,rfl⟩
 ·rw [if_neg c]
  exact ⟨_,hw,rfl⟩
def Closed (F:Fe) (out:List Cr) (i:Int):Prop:=∀ p:Nat,(p:Int)< i→∀ l∈loadsF F (rdL out (p:Int) zc).Qak,crossedB (rdL out (p:Int) zc).Qak l∈out.map (·.Qak)
theorem inner {N:Nat} {F:Fe} (h:OkF F) (hN:2000< N) {out0:List Cr} {met0:List (Bk×Bool)} {tb0 fr0 ba0 qu0 wy0:List Int} (hR:Rel F out0 met0 tb0 fr0 ba0 qu0) (hw0:(wy0.length:Int)=nB F) {i:Nat} (hi:i< out0.length):
 ∃ tb wy fr ba qu out met,rounds (fun s=>Qas.b4 N (loadsF F (rdL out0 (i:Int) zc).Qak) F (rdL out0 (i:Int) zc).Qak qu0 (i:Int) s.1 s.2.1 s.2.2.1 s.2.2.2.1 s.2.2.2.2.1 s.2.2.2.2.2) N (tb0,wy0,fr0,ba0,qu0,0)=some (.go (tb,wy,fr,ba,qu))∧
  rounds (fun s=>Qal.b2 N (loadsF F (rdL out0 (i:Int) zc).Qak) (i:Int) s.1 s.2.1 s.2.2) N (out0,met0,0)=some (.go (out,met))∧Rel F out met tb fr ba qu∧(wy.length:Int)=nB F∧(∃ ext,out=out0++ext)∧
  ∀ l∈loadsF F (rdL out0 (i:Int) zc).Qak,crossedB (rdL out0 (i:Int) zc).Qak l∈out.map (·.Qak):=by
 have hall:=all_range h.t8
 generalize hb:(rdL out0 (i:Int) zc).Qak=b
 have hbn:nearOk F b:=by rw [← hb];exact hR.near _ (rdL_memb hi)
 have hb255:0≤b.Qam∧b.Qam≤255:=⟨hbn.1,by have:=hbn.2;omega⟩
 have hll:=loadsF_len h.t8 b
 have hat:rdL qu0 (i:Int) 0=numF F b:=by rw [hR.q,rdL_map _ _ zc hi,hb]
 have hnb:=numF_range h.t8 hbn
 obtain ⟨e,e',h1,h2,h3⟩:=rounds_both (b:=fun s=>Qas.b4 N (loadsF F b) F b qu0 (i:Int) s.1 s.2.1 s.2.2.1 s.2.2.2.1 s.2.2.2.2.1 s.2.2.2.2.2) (b':=fun s=>Qal.b2 N (loadsF F b) (i:Int) s.1 s.2.1 s.2.2)
  (fun s s'=>s.2.2.2.2.2=s'.2.2∧0≤s'.2.2∧s'.2.2≤((loadsF F b).length:Int)∧Rel F s'.1 s'.2.1 s.1 s.2.2.1 s.2.2.2.1 s.2.2.2.2.1∧(s.2.1.length:Int)=nB F∧(∃ ext,s'.1=out0++ext)∧∀ m:Nat,(hm:m< (loadsF F b).length)→(m:Int)< s'.2.2→crossedB b (loadsF F b)[m]∈s'.1.map (·.Qak))
  (fun s=>(((loadsF F b).length:Int) - s.2.2.2.2.2).toNat)
  (fun e e'=>∃ tb wy fr ba qu out met,e= .go (tb,wy,fr,ba,qu)∧e'= .go (out,met)∧Rel F out met tb fr ba qu∧(wy.length:Int)=nB F∧(∃ ext,out=out0++ext)∧∀ l∈loadsF F b,crossedB b l∈out.map (·.Qak)) (by
  rintro ⟨tb,wy,fr,ba,qu,j⟩ ⟨out,met,j'⟩ ⟨r1,r2,r3,r4,r5,r6,r7⟩
  simp only at r1 r2 r3 r4 r5 r6 r7
  subst r1
  obtain ⟨j,rfl⟩:=Int.eq_ofNat_of_zero_le r2
  by_cases hj:j< (loadsF F b).length
  ·right
   have g1:(j:Int)< (loadsF F b).length:=by omega
   have g2:(0:Int)≤j:=by omega
   obtain ⟨hcode,hl0,hl1,hn0,hn1⟩:=step_code h hj
   have hnb':nearOk F (crossedB b (loadsF F b)[j]):=⟨hn0,hn1⟩
   have hto:=numF_range h.t8 hnb'
   have hlt:=r4.lt
   have hlen:=r4.len h.t8
   obtain ⟨ext,hext⟩:=r6
   have hio:i< out.length:=by rw [hext,List.length_append];omega
   have hoi:rdL out (i:Int) zc=rdL out0 (i:Int) zc:=by rw [hext];exact rdL_pre _ _ _ hi
   have hmn:=r4.tb_nonneg hio
   have hyes:=(r4.yes i hio).1
   rw [hoi,hb] at hyes
   have hi512:(i:Int)< 512:=by unfold nB at hlen;omega
   have hw1:i16w ((rdL out0 (i:Int) zc).QaA+1)=(rdL out0 (i:Int) zc).QaA+1:=by rw [hoi] at hmn;exact i16w_id (by omega) (by omega)
   have hw2:i64w ((rdL out0 (i:Int) zc).QaA+1)=(rdL out0 (i:Int) zc).QaA+1:=by rw [hoi] at hmn;exact i64w_id (by omega) (by omega)
   have hcr:∀ b l,Qa7.f N b l=some (crossedB b l):=fun _ _=>rfl
   have hnext:i64w ((j:Int)+1)=((j+1:Nat):Int):=i64w_succ hj (by omega)
   have gi:(0:Int)≤(i:Int)∧(i:Int)< (out.length:Int):=⟨by omega,by omega⟩
   have gT:0≤numF F (crossedB b (loadsF F b)[j])∧numF F (crossedB b (loadsF F b)[j])< (tb.length:Int):=⟨hto.1,by unfold nB at hlt;omega⟩
   have gA:0≤numF F b∧numF F b< (tb.length:Int):=⟨hnb.1,by unfold nB at hlt;omega⟩
   have gF:0≤numF F (crossedB b (loadsF F b)[j])∧numF F (crossedB b (loadsF F b)[j])< (fr.length:Int):=⟨hto.1,by unfold nB at hlt;omega⟩
   have gB:0≤numF F (crossedB b (loadsF F b)[j])∧numF F (crossedB b (loadsF F b)[j])< (ba.length:Int):=⟨hto.1,by unfold nB at hlt;omega⟩
   have hql:qu.length=out.length:=by rw [r4.q,List.length_map]
   simp only [Qas.b4,Qal.b2,g1,g2,and_self,if_true,rdL_nat hj,F_eta,cross_spec h (show 40< N by omega) hb255 ⟨hl0,show (loadsF F b)[j]≤65535 by omega⟩,hcode,Option.bind_some,index_spec h.t8 (N:=N) ⟨hn0,show (crossedB b (loadsF F b)[j]).Qam≤255 by omega⟩,if_pos gi,hoi,hb,hcr,if_pos gT,hat,if_pos gA,if_pos gF,if_pos gB,List.length_singleton,hyes,hw1,hw2]
   by_cases hnew:rdL tb (numF F (crossedB b (loadsF F b)[j])) 0< 0
   ·have hmet:=(r4.tells h.t8 hnb').1 hnew
    rw [if_pos hnew,if_neg hmet,if_pos (by unfold nB at hlen;omega),if_pos (by unfold nB at hlen;omega)]
    have hadd:=r4.add h.t8 hnb' hmet hio (loadsF F b)[j]
    rw [hoi,hb] at hadd
    obtain ⟨wy',hwl,hj7⟩:=j7_next (N:=N) (to:=numF F (crossedB b (loadsF F b)[j])) (k:=(i:Int)) (j:=(j:Int)) (qu0:=qu0) (ways:=wy) (tb:=stL tb (numF F (crossedB b (loadsF F b)[j])) ((rdL out0 (i:Int) zc).QaA+1)) (fr:=stL fr (numF F (crossedB b (loadsF F b)[j])) (numF F b)) (ba:=stL ba (numF F (crossedB b (loadsF F b)[j])) (loadsF F b)[j]) (qu:=qu++[numF F (crossedB b (loadsF F b)[j])]) (n:=nB F) hto (by rw [hat];exact hnb) hadd.lt.1 r5
    rw [hj7]
    simp only [Qal.j4,hnext]
    refine ⟨_,_,rfl,rfl,⟨rfl,by dsimp only;omega,by dsimp only;omega,hadd,hwl,⟨ext++[⟨crossedB b (loadsF F b)[j],(i:Int),(loadsF F b)[j],(rdL out0 (i:Int) zc).QaA+1⟩],by rw [hext,List.append_assoc]⟩,?_⟩,by dsimp only;omega⟩
    intro m hm hmj
    rw [List.map_append,List.mem_append]
    by_cases e:m=j
    ·subst e;right;simp
    ·left;exact r7 m hm (by dsimp only at hmj;omega)
   ·have hmet:mGet met (crossedB b (loadsF F b)[j]) false=true:=by
     have:=(not_congr (r4.tells h.t8 hnb')).1 hnew
     simpa using this
    rw [if_neg hnew,if_pos hmet]
    obtain ⟨wy',hwl,hj7⟩:=j7_next (N:=N) (to:=numF F (crossedB b (loadsF F b)[j])) (k:=(i:Int)) (j:=(j:Int)) (qu0:=qu0) (ways:=wy) (tb:=tb) (fr:=fr) (ba:=ba) (qu:=qu) (n:=nB F) hto (by rw [hat];exact hnb) hlt.1 r5
    rw [hj7]
    simp only [Qal.j4,hnext]
    refine ⟨_,_,rfl,rfl,⟨rfl,by dsimp only;omega,by dsimp only;omega,r4,hwl,⟨ext,hext⟩,?_⟩,by dsimp only;omega⟩
    intro m hm hmj
    by_cases e:m=j
    ·subst e;exact (r4.met _).1 hmet
    ·exact r7 m hm (by dsimp only at hmj;omega)
  ·left
   have g1:¬ (j:Int)< (loadsF F b).length:=by omega
   simp only [Qas.b4,Qal.b2,g1,if_false]
   refine ⟨_,_,rfl,rfl,_,_,_,_,_,_,_,rfl,rfl,r4,r5,r6,?_⟩
   intro l hl
   obtain ⟨m,hm,rfl⟩:=List.mem_iff_getElem.1 hl
   exact r7 m hm (by omega)) N N (tb0,wy0,fr0,ba0,qu0,0) (out0,met0,0) ⟨rfl,by simp,by simp,hR,hw0,⟨[],by simp⟩,fun m hm hmj=>by dsimp only at hmj;omega⟩ (by dsimp only;omega) (by dsimp only;omega)
 obtain ⟨tb,wy,fr,ba,qu,out,met,rfl,rfl,q1,q2,q3,q4⟩:=h3
 exact ⟨tb,wy,fr,ba,qu,out,met,h1,h2,q1,q2,q3,q4⟩
theorem outer {N:Nat} {F:Fe} (h:OkF F) (hN:2000< N) {out0:List Cr} {met0:List (Bk×Bool)} {tb0 fr0 ba0 qu0 wy0:List Int} (hR:Rel F out0 met0 tb0 fr0 ba0 qu0) (hw0:(wy0.length:Int)=nB F):
 ∃ tb wy fr ba qu out met,rounds (fun s=>Qas.b2 N F s.1 s.2.1 s.2.2.1 s.2.2.2.1 s.2.2.2.2.1 s.2.2.2.2.2) N (tb0,wy0,fr0,ba0,qu0,0)=some (.go (tb,wy,fr,ba))∧
  rounds (fun s=>Qal.b0 N F s.1 s.2.1 s.2.2) N (out0,met0,0)=some (.go out)∧Rel F out met tb fr ba qu∧(∃ ext,out=out0++ext)∧Closed F out (out.length:Int):=by
 have hall:=all_range h.t8
 obtain ⟨e,e',h1,h2,h3⟩:=rounds_both (b:=fun s=>Qas.b2 N F s.1 s.2.1 s.2.2.1 s.2.2.2.1 s.2.2.2.2.1 s.2.2.2.2.2) (b':=fun s=>Qal.b0 N F s.1 s.2.1 s.2.2)
  (fun s s'=>s.2.2.2.2.2=s'.2.2∧0≤s'.2.2∧s'.2.2≤(s'.1.length:Int)∧Rel F s'.1 s'.2.1 s.1 s.2.2.1 s.2.2.2.1 s.2.2.2.2.1∧(s.2.1.length:Int)=nB F∧(∃ ext,s'.1=out0++ext)∧Closed F s'.1 s'.2.2)
  (fun s=>(513 - s.2.2.2.2.2).toNat)
  (fun e e'=>∃ tb wy fr ba qu out met,e= .go (tb,wy,fr,ba)∧e'= .go out∧Rel F out met tb fr ba qu∧(∃ ext,out=out0++ext)∧Closed F out (out.length:Int)) (by
  rintro ⟨tb,wy,fr,ba,qu,i⟩ ⟨out,met,i'⟩ ⟨r1,r2,r3,r4,r5,r6,r7⟩
  simp only at r1 r2 r3 r4 r5 r6 r7
  subst r1
  obtain ⟨i,rfl⟩:=Int.eq_ofNat_of_zero_le r2
  have hlen:=r4.len h.t8
  have hql:qu.length=out.length:=by rw [r4.q,List.length_map]
  by_cases hi:i< out.length
  ·right
   have g1:(i:Int)< out.length:=by omega
   have g1':(i:Int)< qu.length:=by omega
   have g2:(0:Int)≤i:=by omega
   have hbn:nearOk F (rdL out (i:Int) zc).Qak:=r4.near _ (rdL_memb hi)
   have hat:rdL qu (i:Int) 0=numF F (rdL out (i:Int) zc).Qak:=by rw [r4.q,rdL_map _ _ zc hi]
   have hnb:=numF_range h.t8 hbn
   obtain ⟨n,hn⟩:=Int.eq_ofNat_of_zero_le hnb.1
   have hat2:Qbs.f N F (numF F (rdL out (i:Int) zc).Qak)=some (rdL out (i:Int) zc).Qak:=by
    rw [hn,at_spec h.t8 (by omega),← hn,atF_num h.t8 hbn]
   have hb255:0≤(rdL out (i:Int) zc).Qak.Qam∧(rdL out (i:Int) zc).Qak.Qam≤255:=⟨hbn.1,by have:=hbn.2;omega⟩
   obtain ⟨tb',wy',fr',ba',qu',out',met',q1,q2,q3,q4,⟨ext,q5⟩,q6⟩:=inner h hN r4 r5 hi
   have hnext:i64w ((i:Int)+1)=((i+1:Nat):Int):=i64w_succ hi (by unfold nB at hlen;omega)
   have hlen':=q3.len h.t8
   simp only [Qas.b2,Qal.b0,g1,g1',g2,and_self,if_true,hat,hat2,F_eta,Option.bind_some,loads_spec h (show 300< N by omega) hb255,loads_impl h (show 300< N by omega) hb255]
   rw [show (zc:Cr)=Qaj from rfl] at q1 q2
   rw [q1,q2]
   simp only [Option.bind_some,Ex.finB,Qas.a4,Qal.a2,hnext]
   obtain ⟨ext0,r6⟩:=r6
   have hl2:out.length≤out'.length:=by rw [q5,List.length_append];omega
   refine ⟨_,_,rfl,rfl,⟨rfl,by dsimp only;omega,by dsimp only;omega,q3,q4,⟨ext0++ext,by dsimp only;rw [q5,r6,List.append_assoc]⟩,?_⟩,by dsimp only;unfold nB at hlen;omega⟩
   intro p hp l hl
   dsimp only at hp hl ⊢
   have hpo:p< out.length:=by omega
   have hpe:rdL out' (p:Int) zc=rdL out (p:Int) zc:=by rw [q5];exact rdL_pre _ _ _ hpo
   rw [hpe] at hl ⊢
   by_cases e:p=i
   ·subst e;exact q6 l hl
   ·rw [q5,List.map_append,List.mem_append]
    left;exact r7 p (by omega) l hl
  ·left
   have g1:¬ (i:Int)< out.length:=by omega
   have g1':¬ (i:Int)< qu.length:=by omega
   simp only [Qas.b2,Qal.b0,g1,g1',if_false]
   refine ⟨_,_,rfl,rfl,_,_,_,_,_,_,_,rfl,rfl,r4,r6,?_⟩
   have:i=out.length:=by omega
   rw [this] at r7
   exact r7) N N (tb0,wy0,fr0,ba0,qu0,0) (out0,met0,0) ⟨rfl,by simp,by simp,hR,hw0,⟨[],by simp⟩,fun p hp=>by dsimp only at hp;omega⟩ (by dsimp only;omega) (by dsimp only;omega)
 obtain ⟨tb,wy,fr,ba,qu,out,met,rfl,rfl,q1,q2,q3⟩:=h3
 exact ⟨tb,wy,fr,ba,qu,out,met,h1,h2,q1,q2,q3⟩
def c0F (F:Fe):Cr:=⟨⟨allF F,false⟩,-1,0,0⟩
theorem repl_len {F:Fe} (hT:T8 F) (v:Int):((List.replicate (nB F).toNat v).length:Int)=nB F:=by
 have:=all_range hT
 simp [nB]
 omega
theorem repl_rd {n:Nat} {v j:Int} (h0:0≤j) (h1:j< n):rdL (List.replicate n v) j 0=v:=by
 obtain ⟨j,rfl⟩:=Int.eq_ofNat_of_zero_le h0
 rw [rdL_nat (by simp;omega),List.getElem_replicate]
theorem rel0 {F:Fe} (hT:T8 F):Rel F [c0F F] (mSet [] (⟨allF F,false⟩:Bk) true) (stL (List.replicate (nB F).toNat (-1)) (allF F) 0) (List.replicate (nB F).toNat 0) (List.replicate (nB F).toNat 0) [allF F]:=by
 have hall:=all_range hT
 have hn:numF F (c0F F).Qak=allF F:=rfl
 have hl1:=repl_len hT (-1)
 have hl0:=repl_len hT 0
 have hA:0≤allF F∧allF F< ((List.replicate (nB F).toNat (-1:Int)).length:Int):=⟨by omega,by rw [hl1];unfold nB;omega⟩
 refine ⟨by simp,by simp [hn],?_,by simp,?_,⟨by rw [stL_len];exact hl1,hl0,hl0⟩,?_,?_⟩
 ·intro c hc
  rw [List.mem_singleton] at hc
  subst hc
  exact ⟨show 0≤allF F by omega,Int.le_refl _⟩
 ·intro b
  rw [mGet_set]
  have e:mGet ([]:List (Bk×Bool)) b false=false:=rfl
  rw [e]
  by_cases c:b=⟨allF F,false⟩
  ·rw [if_pos c];simp [c,c0F]
  ·rw [if_neg c];simp [c,c0F]
 ·intro j j0 j1 hj
  simp only [List.map_cons,List.map_nil,List.mem_singleton,hn] at hj
  rw [rdL_st hA ⟨j0,by rw [hl1];exact j1⟩,if_neg hj]
  exact repl_rd j0 (by have:=all_range hT;unfold nB at j1 ⊢;omega)
 ·intro p hp
  simp only [List.length_singleton] at hp
  obtain rfl:p=0:=by omega
  have e:rdL [c0F F] ((0:Nat):Int) zc=c0F F:=rfl
  rw [e,hn,rdL_st hA hA,if_pos rfl]
  exact ⟨rfl,fun _=>⟨rfl,rfl⟩,fun h=>absurd h (by decide)⟩
theorem search_both {N:Nat} {F:Fe} (h:OkF F) (hN:2000< N):∃ tb wy fr ba qu out met,Qas.f N F=some ⟨tb,wy,fr,ba⟩∧Qal.f N F=some out∧Rel F out met tb fr ba qu∧(∃ ext,out=c0F F::ext)∧Closed F out (out.length:Int):=by
 have hall:=all_range h.t8
 have hl1:=repl_len h.t8 (-1)
 have hl0:=repl_len h.t8 0
 have hnB:(nB F).toNat≤512∧0≤nB F:=by unfold nB;omega
 obtain ⟨tb,wy,fr,ba,qu,out,met,q1,q2,q3,⟨ext,q4⟩,q5⟩:=outer h hN (rel0 h.t8) (wy0:=stL (List.replicate (nB F).toNat 0) (allF F) 1) (by rw [stL_len];exact hl0)
 refine ⟨tb,wy,fr,ba,qu,out,met,?_,?_,q3,⟨ext,by rw [q4];rfl⟩,q5⟩
 ·have e1:i64w (2*i64w (i64w (allF F)+1))=nB F:=by
   rw [i64w_id (x:=allF F) (by omega) (by omega),i64w_id (x:=allF F+1) (by omega) (by omega),i64w_id (by omega) (by omega)];rfl
  have hf:=rounds_copy (b:=fun s=>Qas.b0 N (allF F) s.1 s.2) (List.replicate (nB F).toNat (-1)) (0:Int) (N:=N) (by simp;omega) (by
   intro x i hi hx
   rw [List.length_replicate] at hi
   rw [List.length_replicate] at hx
   have g1:(i:Int)< nB F:=by omega
   have g2:(0:Int)≤(i:Int)∧(i:Int)< (x.length:Int):=⟨by omega,by omega⟩
   simp only [Qas.b0,e1,if_pos g1,if_pos g2,stL_nat,List.getElem_replicate]
   rw [i64w_id (by omega) (by omega)]
   rfl) (by
   intro x hx
   rw [List.length_replicate] at hx ⊢
   simp only [Qas.b0,e1]
   rw [if_neg (by omega)])
  rw [List.length_replicate] at hf
  have e2:i64w (2*i64w (allF F+1))=nB F:=by
   rw [i64w_id (x:=allF F+1) (by omega) (by omega),i64w_id (by omega) (by omega)];rfl
  have hA:(0:Int)≤allF F∧allF F< ((List.replicate (nB F).toNat (-1:Int)).length:Int):=⟨by omega,by rw [hl1];unfold nB;omega⟩
  have hA0:(0:Int)≤allF F∧allF F< ((List.replicate (nB F).toNat (0:Int)).length:Int):=⟨by omega,by rw [hl0];unfold nB;omega⟩
  have hg1:(0:Int)≤nB F∧nB F≤140737488355328:=⟨hnB.2,by omega⟩
  have hg2:(0:Int)≤nB F∧nB F≤35184372088832:=⟨hnB.2,by omega⟩
  simp only [Qas.f,F_eta,QbI N h.t8,Option.bind_some,e1,e2,if_pos hg1,if_pos hg2,hf,Ex.fin,Qas.a0,i64w_id (x:=allF F) (by omega) (by omega),if_pos hA,if_pos hA0,q1,Qas.a2]
 ·simp only [Qal.f,F_eta,QbM N h.t8,Option.bind_some]
  have e:([(⟨(⟨allF F,false⟩:Qag),(-1),0,0⟩:Qau)]:List Cr)=[c0F F]:=rfl
  rw [e,q2]
  rfl
def endB:Bk:=⟨0,true⟩
theorem end_near {F:Fe} (hT:T8 F):nearOk F endB:=⟨Int.le_refl _,by have:=all_range hT;show (0:Int)≤allF F;omega⟩
theorem num_end (F:Fe):numF F endB=allF F+1:=by simp [numF,endB]
theorem mul_tab:∀ n:Nat,n< 513→QbE.f 0 1 (n:Int)=some (0,(n:Int)):=by decide+kernel
theorem mul_eq (N:Nat) {n:Nat} (h:n< 513):QbK.f N 1 (n:Int)=some (0,(n:Int)):=by
 have:QbE.f N 1 (n:Int)=some (0,(n:Int)):=mul_tab n h
 simp only [QbK.f,this,Option.bind_some]
def fillL (n k:Nat) (v:Int):List Int:=List.replicate k v++List.replicate (n - k) 0
theorem fillL_len {n k:Nat} (h:k≤n) (v:Int):(fillL n k v).length=n:=by simp [fillL];omega
theorem fill_step {n k:Nat} (h:k≤n) (v:Int):cpL (fillL n k v) ((fillL n k v).take k) (k:Int) (n:Int)=fillL n (min (k+k) n) v:=by
 have e1:(fillL n k v).take k=List.replicate k v:=by simp [fillL,List.take_append]
 have e2:cpN (fillL n k v) (List.replicate k v) (k:Int) (n:Int)=min (n - k) k:=by simp [cpN]
 unfold cpL
 rw [e1,e2]
 rw [show (k:Int).toNat=k from Int.toNat_natCast k,e1]
 simp only [fillL,List.take_replicate,List.drop_append,List.drop_replicate,List.length_replicate]
 rw [List.replicate_append_replicate]
 congr 1
 ·congr 1;omega
 ·rw [show k - (k+min (n - k) k)=0 by omega,List.replicate_zero,List.nil_append]
  congr 1;omega
theorem repeat_eq {N n:Nat} (h1:1≤n) (hn:n≤512) (hN:600< N) (v:Int):QaB.f N [v] (n:Int)=some (List.replicate n v):=by
 have hm:=mul_eq N (n:=n) (by omega)
 obtain ⟨e,he,rfl⟩:=rounds_ends (b:=fun s=>QaB.b0 N s.1 s.2) (fun s=>∃ k:Nat,1≤k∧k≤n∧s=(fillL n k v,(k:Int))) (fun s=>n - s.2.toNat) (fun e=>e= .go (List.replicate n v)) (by
  rintro s ⟨k,k1,k2,rfl⟩
  have hl:=fillL_len k2 v
  by_cases hk:k< n
  ·right
   refine ⟨(fillL n (min (k+k) n) v,((min (k+k) n:Nat):Int)),?_,⟨min (k+k) n,by omega,by omega,rfl⟩,by simp only [Int.toNat_natCast];omega⟩
   have e0:(cpN (fillL n k v) ((fillL n k v).take k) (k:Int) (n:Int))=min (n - k) k:=by
    simp [cpN,hl];omega
   have g1:(k:Int)< (n:Int):=by omega
   have g2:(0:Int)≤(k:Int)∧(k:Int)≤(n:Int)∧(n:Int)≤(n:Int):=⟨by omega,by omega,by omega⟩
   have g3:(0:Int)≤(0:Int)∧(0:Int)≤(k:Int)∧(k:Int)≤(n:Int):=⟨by omega,by omega,by omega⟩
   simp only [QaB.b0,hl,if_pos g1,if_pos g2,if_pos g3,Int.toNat_natCast,Int.toNat_zero,List.drop_zero,Nat.sub_zero,fill_step k2,e0]
   rw [i64w_id (by omega) (by omega)]
   congr 4
   omega
  ·left
   obtain rfl:k=n:=by omega
   refine ⟨_,?_,rfl⟩
   simp only [QaB.b0,hl]
   rw [if_neg (by omega)]
   simp [fillL]) N ([v]++List.replicate (n - 1) 0,1) ⟨1,by omega,by omega,rfl⟩ (by simp only;omega)
 have e1:u64w (([v]:List Int).length:Int)=1:=by
  rw [List.length_singleton]
  decide
 have e2:u64w (n:Int)=(n:Int):=u64w_id (by omega) (by omega)
 have e3:i64w (n:Int)=(n:Int):=i64w_id (by omega) (by omega)
 have e4:cpN (List.replicate n (0:Int)) [v] 0 ((List.replicate n (0:Int)).length:Int)=1:=by simp [cpN];omega
 have e5:cpL (List.replicate n (0:Int)) [v] 0 ((List.replicate n (0:Int)).length:Int)=[v]++List.replicate (n - 1) 0:=by
  unfold cpL
  rw [e4];simp
 simp only [QaB.f,e1,e2,hm,Option.bind_some,e3,if_neg (show ¬ (n:Int)< 0 by omega),if_neg (show ¬ (0:Int)>0 by omega),if_neg (show ¬ (n:Int)>9223372036854775807 by omega),if_pos (show (0:Int)≤(n:Int)∧(n:Int)≤140737488355328 by omega),Int.toNat_natCast,e4,e5]
 have he':rounds (fun s=>QaB.b0 N s.1 s.2) N ([v]++List.replicate (n - 1) 0,((1:Nat):Int))=some (.go (List.replicate n v)):=he
 rw [he']
 rfl
theorem table_eq {N:Nat} {F:Fe} (h:OkF F) (hN:2000< N) {tb fr ba qu:List Int} {out:List Cr} {met:List (Bk×Bool)} (e2:Qal.f N F=some out) (hR:Rel F out met tb fr ba qu):QaJ.f N F=some tb:=by
 have hall:=all_range h.t8
 have h0:=h.t8.1
 obtain ⟨n,hn⟩:∃ n:Nat,2*(allF F+1)=(n:Int):=Int.eq_ofNat_of_zero_le (by omega)
 have hlen:=hR.len h.t8
 have hlt:=hR.lt.1
 unfold nB at hlen hlt
 have hrep:=repeat_eq (N:=N) (n:=n) (by omega) (by omega) (by omega) (-1)
 obtain ⟨e,he,rfl⟩:=rounds_ends (b:=fun s=>QaJ.b0 N out F s.1 s.2)
  (fun s=>∃ p:Nat,s.2=(p:Int)∧p≤out.length∧s.1.length=n∧∀ j:Int,0≤j→j< n→rdL s.1 j 0=if j∈(out.take p).map (fun c=>numF F c.Qak) then rdL tb j 0 else -1)
  (fun s=>out.length - s.2.toNat) (fun e=>e= .go tb) (by
  rintro ⟨x,p⟩ ⟨p',hp,p1,p2,p3⟩
  simp only at hp p2 p3
  subst hp
  by_cases hp:p'< out.length
  ·right
   have hc:=rdL_memb (z:=zc) hp
   have hnr:=numF_range h.t8 (hR.near _ hc)
   have hmn:=hR.tb_nonneg hp
   have hy:=(hR.yes p' hp).1
   have g0:(p':Int)< (out.length:Int):=by omega
   have g1:(0:Int)≤(p':Int)∧(p':Int)< (out.length:Int):=⟨by omega,g0⟩
   have g2:0≤numF F (rdL out (p':Int) zc).Qak∧numF F (rdL out (p':Int) zc).Qak< (x.length:Int):=⟨hnr.1,by omega⟩
   have hb:0≤(rdL out (p':Int) zc).Qak.Qam∧(rdL out (p':Int) zc).Qak.Qam≤255:=by
    have:=hR.near _ hc
    unfold nearOk at this
    omega
   refine ⟨(stL x (numF F (rdL out (p':Int) zc).Qak) (rdL out (p':Int) zc).QaA,((p'+1:Nat):Int)),?_,⟨p'+1,rfl,hp,by simp only [stL_len];exact p2,?_⟩,by simp only [Int.toNat_natCast];omega⟩
   ·simp only [QaJ.b0,if_pos g0,if_pos g1,F_eta,number_impl h.t8 (N:=N) hb,Option.bind_some,if_pos g2,i16w_id (x:=(rdL out (p':Int) zc).QaA) (by omega) (by omega),i64w_succ hp (show out.length≤9223372036854775807 by omega)]
   ·intro j j0 j1
    simp only
    rw [rdL_st g2 ⟨j0,by omega⟩,List.take_succ_eq_append_getElem hp,List.map_append]
    have he:rdL out (p':Int) zc=out[p']:=rdL_nat hp
    by_cases hj:j=numF F (rdL out (p':Int) zc).Qak
    ·rw [if_pos hj,if_pos (List.mem_append.2 (.inr (by rw [hj,he];simp))),hj,hy]
    ·rw [if_neg hj,p3 j j0 j1]
     by_cases hm:j∈(out.take p').map (fun c=>numF F c.Qak)
     ·rw [if_pos hm,if_pos (List.mem_append.2 (.inl hm))]
     ·rw [if_neg hm,if_neg]
      intro q
      rcases List.mem_append.1 q with q|q
      ·exact hm q
      ·simp only [List.map_cons,List.map_nil,List.mem_singleton] at q
       exact hj (by rw [he];exact q)
  ·left
   obtain rfl:p'=out.length:=by omega
   have hx:x=tb:=by
    apply List.ext_getElem (by omega)
    intro j j1 j2
    have:=p3 (j:Int) (by omega) (by omega)
    rw [List.take_length] at this
    rw [← rdL_nat (z:=0) j1,← rdL_nat (z:=0) j2,this]
    by_cases hm:(j:Int)∈out.map (fun c=>numF F c.Qak)
    ·rw [if_pos hm]
    ·rw [if_neg hm,hR.no (j:Int) (by omega) (by unfold nB;omega) hm]
   refine ⟨_,?_,rfl⟩
   simp only [QaJ.b0]
   rw [if_neg (by omega),hx]) N (List.replicate n (-1),0) ⟨0,rfl,by omega,by simp,by
    intro j j0 j1
    simp only [List.take_zero,List.map_nil,List.not_mem_nil,if_false]
    exact repl_rd j0 j1⟩ (by simp only;omega)
 simp only [QaJ.f,F_eta,if_pos (show (0:Int)≤F.Qac by omega),(shl_one h.t8).2,hn,hrep,Option.bind_some,e2,he]
 rfl
theorem rounds_keep {ρ σ τ:Type} {b:τ→Option (Bd ρ σ τ)} (I:τ→Prop) (Q:Ex ρ σ→Prop)
 (h1:∀ s s',I s→b s=some (.next s')→I s') (h2:∀ s e,I s→b s=some (.out e)→Q e):∀ (N:Nat) (s:τ) (e:Ex ρ σ),I s→rounds b N s=some e→Q e
 |0,s,e,_,h=>(rounds_zero h).elim
 |N+1,s,e,hI,h=>by
  obtain ⟨x,hx,hm⟩:=rounds_succ h
  cases x with
  |next s'=>exact rounds_keep I Q h1 h2 N s' e (h1 s s' hI hx) hm
  |out e'=>dsimp only at hm;subst hm;exact h2 s e' hI hx
abbrev at_ (out:List Cr) (p:Nat):Cr:=rdL out (p:Int) zc
structure Sr (F:Fe) (out:List Cr) (met:List (Bk×Bool)) (i:Nat):Prop where
 hd:0< out.length∧at_ out 0=c0F F
 met:∀ b,mGet met b false=true↔∃ q,q< out.length∧(at_ out q).Qak=b
 near:∀ p,p< out.length→nearOk F (at_ out p).Qak
 src:∀ p,0< p→p< out.length→∃ q:Nat,q< p∧(at_ out p).QbP=(q:Int)∧(at_ out p).Qb3∈loadsF F (at_ out q).Qak∧
  (at_ out p).Qak=crossedB (at_ out q).Qak (at_ out p).Qb3∧(at_ out p).QaA=(at_ out q).QaA+1
 le:∀ p,p< out.length→0≤(at_ out p).QaA∧(at_ out p).QaA≤p
 mono:∀ p q,p≤q→q< out.length→(at_ out p).QaA≤(at_ out q).QaA
 top:i< out.length→∀ p,p< out.length→(at_ out p).QaA≤(at_ out i).QaA+1
 len:out.length≤4398046511104
def Ld (F:Fe) (out:List Cr) (p:Nat) (l:Int):Prop:=∃ q,q< out.length∧(at_ out q).Qak=crossedB (at_ out p).Qak l∧(at_ out q).QaA≤(at_ out p).QaA+1
def Cl (F:Fe) (out:List Cr) (i:Nat):Prop:=∀ p,p< i→∀ l∈loadsF F (at_ out p).Qak,Ld F out p l
theorem at_app (out:List Cr) (c:Cr) {p:Nat} (hp:p< out.length):at_ (out++[c]) p=at_ out p:=rdL_app out c zc hp
theorem at_new (out:List Cr) (c:Cr):at_ (out++[c]) out.length=c:=rdL_new out c zc
theorem Ld.app {F:Fe} {out:List Cr} {p:Nat} {l:Int} (c:Cr) (hp:p< out.length) (h:Ld F out p l):Ld F (out++[c]) p l:=by
 obtain ⟨q,h1,h2,h3⟩:=h
 exact ⟨q,by rw [List.length_append];omega,by rw [at_app _ _ h1,at_app _ _ hp];exact h2,by rw [at_app _ _ h1,at_app _ _ hp];exact h3⟩
theorem load_near {F:Fe} (h:OkF F) {b:Bk} {l:Int} (hl:l∈loadsF F b):nearOk F (crossedB b l):=by
 obtain ⟨m,hm,rfl⟩:=List.mem_iff_getElem.1 hl
 obtain ⟨_,_,_,h3,h4⟩:=step_code h hm
 exact ⟨h3,h4⟩
theorem Sr.add {F:Fe} (h:OkF F) {out:List Cr} {met:List (Bk×Bool)} {i:Nat} (hS:Sr F out met i) (hi:i< out.length) {l:Int} (hl:l∈loadsF F (at_ out i).Qak)
 (hlen:out.length+1≤4398046511104):Sr F (out++[⟨crossedB (at_ out i).Qak l,(i:Int),l,(at_ out i).QaA+1⟩]) (mSet met (crossedB (at_ out i).Qak l) true) i:=by
 have hc:∀ p,p< (out++[(⟨crossedB (at_ out i).Qak l,(i:Int),l,(at_ out i).QaA+1⟩:Cr)]).length→p< out.length∨p=out.length:=by
  intro p hp;rw [List.length_append,List.length_singleton] at hp;omega
 have hle:=hS.le i hi
 refine ⟨⟨by rw [List.length_append];omega,by rw [at_app _ _ hS.hd.1];exact hS.hd.2⟩,?_,?_,?_,?_,?_,?_,by rw [List.length_append];exact hlen⟩
 ·intro b
  rw [mGet_set]
  constructor
  ·intro hb
   by_cases e:b=crossedB (at_ out i).Qak l
   ·exact ⟨out.length,by rw [List.length_append];simp,by rw [at_new,e]⟩
   ·rw [if_neg e] at hb
    obtain ⟨q,h1,h2⟩:=(hS.met b).1 hb
    exact ⟨q,by rw [List.length_append];omega,by rw [at_app _ _ h1];exact h2⟩
  ·rintro ⟨q,h1,h2⟩
   rcases hc q h1 with h1|rfl
   ·rw [at_app _ _ h1] at h2
    split
    ·rfl
    ·exact (hS.met b).2 ⟨q,h1,h2⟩
   ·rw [at_new] at h2
    rw [if_pos h2.symm]
 ·intro p hp
  rcases hc p hp with h1|rfl
  ·rw [at_app _ _ h1];exact hS.near p h1
  ·rw [at_new];exact load_near h hl
 ·intro p h0 hp
  rcases hc p hp with h1|rfl
  ·obtain ⟨q,q1,q2,q3,q4,q5⟩:=hS.src p h0 h1
   exact ⟨q,q1,by rw [at_app _ _ h1];exact q2,by rw [at_app _ _ h1,at_app _ _ (by omega)];exact q3,by rw [at_app _ _ h1,at_app _ _ (by omega)];exact q4,by rw [at_app _ _ h1,at_app _ _ (by omega)];exact q5⟩
  ·exact ⟨i,hi,by rw [at_new],by rw [at_new,at_app _ _ hi];exact hl,by rw [at_new,at_app _ _ hi],by rw [at_new,at_app _ _ hi]⟩
 ·intro p hp
  rcases hc p hp with h1|rfl
  ·rw [at_app _ _ h1];exact hS.le p h1
  ·rw [at_new];dsimp only;omega
 ·intro p q hpq hq
  rcases hc q hq with h1|rfl
  ·rw [at_app _ _ h1,at_app _ _ (by omega)];exact hS.mono p q hpq h1
  ·rw [at_new]
   rcases hc p (by omega) with h2|rfl
   ·rw [at_app _ _ h2];exact hS.top hi p h2
   ·rw [at_new];exact Int.le_refl _
 ·intro _ p hp
  rw [at_app _ _ hi]
  rcases hc p hp with h1|rfl
  ·rw [at_app _ _ h1];exact hS.top hi p h1
  ·rw [at_new];exact Int.le_refl _
theorem sr_inner {N:Nat} {F:Fe} (h:OkF F) {out0:List Cr} {met0:List (Bk×Bool)} {i:Nat} (hS:Sr F out0 met0 i) (hC:Cl F out0 i) (hi:i< out0.length) {e:Ex _ _}
 (he:rounds (fun s=>Qal.b2 N (loadsF F (at_ out0 i).Qak) (i:Int) s.1 s.2.1 s.2.2) N (out0,met0,0)=some e):
 ∃ out met,e= .go (out,met)∧Sr F out met i∧Cl F out (i+1)∧out0.length≤out.length:=by
 obtain ⟨L,hL⟩:∃ L,L=loadsF F (at_ out0 i).Qak:=⟨_,rfl⟩
 have hll:=loadsF_len h.t8 (at_ out0 i).Qak
 rw [← hL] at he hll
 refine rounds_keep (b:=fun s=>Qal.b2 N L (i:Int) s.1 s.2.1 s.2.2) (fun s=>0≤s.2.2∧s.2.2≤(L.length:Int)∧Sr F s.1 s.2.1 i∧Cl F s.1 i∧out0.length≤s.1.length∧at_ s.1 i=at_ out0 i∧∀ m:Nat,(hm:m< L.length)→(m:Int)< s.2.2→Ld F s.1 i L[m])
  (fun e=>∃ out met,e= .go (out,met)∧Sr F out met i∧Cl F out (i+1)∧out0.length≤out.length) ?_ ?_ N (out0,met0,0) e ?_ he
 rotate_left 2
 ·exact ⟨Int.le_refl _,Int.natCast_nonneg _,hS,hC,Nat.le_refl _,rfl,fun m hm hj=>by dsimp only at hj;omega⟩
 ·rintro ⟨out,met,j⟩ s' ⟨r1,r2,r3,r4,r5,r6,r7⟩ hb
  simp only at r1 r2 r3 r4 r5 r6 r7
  have hio:i< out.length:=by omega
  simp only [Qal.b2] at hb
  by_cases hj:j< (L.length:Int)
  ·rw [if_pos hj] at hb
   obtain ⟨g1,hb⟩:=ite_get hb
   obtain ⟨g2,hb⟩:=ite_get hb
   obtain ⟨j,rfl⟩:=Int.eq_ofNat_of_zero_le r1
   have hj':j< L.length:=by omega
   rw [rdL_nat hj',show rdL out (i:Int) Qaj=at_ out0 i from r6] at hb
   have hcr:∀ b l,Qa7.f N b l=some (crossedB b l):=fun _ _=>rfl
   rw [hcr,Option.bind_some] at hb
   have hlm:L[j]∈loadsF F (at_ out i).Qak:=by rw [r6,← hL];exact List.getElem_mem hj'
   have hnx:i64w ((j:Int)+1)=((j+1:Nat):Int):=i64w_succ hj' (by omega)
   by_cases hm:mGet met (crossedB (at_ out0 i).Qak L[j]) false=true
   ·rw [if_pos hm] at hb
    simp only [Qal.j4,hnx] at hb
    injection hb with hb;injection hb with hb;subst hb
    refine ⟨by dsimp only;omega,by dsimp only;omega,r3,r4,r5,r6,?_⟩
    intro m hm' hmj
    dsimp only at hmj ⊢
    by_cases e:m=j
    ·subst e
     obtain ⟨q,q1,q2⟩:=(r3.met _).1 hm
     exact ⟨q,q1,by rw [r6];exact q2,r3.top hio q q1⟩
    ·exact r7 m hm' (by omega)
   ·rw [if_neg hm,if_pos g2] at hb
    obtain ⟨g3,hb⟩:=ite_get hb
    rw [List.length_singleton] at g3
    have hle:=r3.le i hio
    have hln:=r3.len
    have hw:i64w ((at_ out0 i).QaA+1)=(at_ out0 i).QaA+1:=by rw [← r6];exact i64w_id (by omega) (by omega)
    simp only [Qal.j4,hnx,hw] at hb
    injection hb with hb;injection hb with hb;subst hb
    have ha:=r3.add h hio hlm (by omega)
    rw [r6] at ha
    refine ⟨by dsimp only;omega,by dsimp only;omega,ha,?_,by dsimp only;rw [List.length_append];omega,by dsimp only;rw [at_app _ _ hio];exact r6,?_⟩
    ·intro p hp l hl
     rw [at_app _ _ (by omega)] at hl
     exact (r4 p hp l hl).app _ (by omega)
    ·intro m hm' hmj
     dsimp only at hmj ⊢
     by_cases e:m=j
     ·subst e
      exact ⟨out.length,by rw [List.length_append];simp,by rw [at_new,at_app _ _ hio,r6],by rw [at_new,at_app _ _ hio,r6];exact Int.le_refl _⟩
     ·exact (r7 m hm' (by omega)).app _ hio
  ·rw [if_neg hj] at hb
   cases hb
 ·rintro ⟨out,met,j⟩ e ⟨r1,r2,r3,r4,r5,r6,r7⟩ hb
  simp only at r1 r2 r3 r4 r5 r6 r7
  simp only [Qal.b2] at hb
  by_cases hj:j< (L.length:Int)
  ·rw [if_pos hj] at hb
   obtain ⟨g1,hb⟩:=ite_get hb
   obtain ⟨g2,hb⟩:=ite_get hb
   have hcr:∀ b l,Qa7.f N b l=some (crossedB b l):=fun _ _=>rfl
   rw [hcr,Option.bind_some] at hb
   split at hb
   ·simp only [Qal.j4] at hb
    cases hb
   ·obtain ⟨g3,hb⟩:=ite_get hb
    simp only [Qal.j4] at hb
    cases hb
  ·rw [if_neg hj] at hb
   injection hb with hb;injection hb with hb;subst hb
   refine ⟨out,met,rfl,r3,?_,r5⟩
   intro p hp l hl
   by_cases e:p=i
   ·subst e
    rw [r6,← hL] at hl
    obtain ⟨m,hm,rfl⟩:=List.mem_iff_getElem.1 hl
    exact r7 m hm (by omega)
   ·exact r4 p (by omega) l hl
theorem search_sound {N:Nat} {F:Fe} (h:OkF F) (hN:2000< N) {out:List Cr} (he:Qal.f N F=some out):∃ met,Sr F out met out.length∧Cl F out out.length:=by
 have hall:=all_range h.t8
 simp only [Qal.f,QbM N h.t8,Option.bind_some] at he
 obtain ⟨e,he,hf⟩:=bind_get he
 have key:∃ out met,e= .go out∧Sr F out met out.length∧Cl F out out.length:=by
  refine rounds_keep (fun s=>∃ i:Nat,s.2.2=(i:Int)∧i≤s.1.length∧Sr F s.1 s.2.1 i∧Cl F s.1 i) (fun e=>∃ out met,e= .go out∧Sr F out met out.length∧Cl F out out.length) ?_ ?_ N _ _ ⟨0,rfl,by simp,?_,fun p hp=>by omega⟩ he
  ·rintro ⟨out,met,j⟩ s' ⟨i,r1,r2,r3,r4⟩ hb
   simp only at r1 r2 r3 r4
   subst r1
   simp only [Qal.b0] at hb
   by_cases hi:(i:Int)< (out.length:Int)
   ·rw [if_pos hi] at hb
    obtain ⟨g1,hb⟩:=ite_get hb
    have hio:i< out.length:=by omega
    have hn:=r3.near i hio
    have hl:QaC.f N (⟨F.Qac,F.Qaf,F.Qai⟩:Qae) ((rdL out (i:Int) Qaj).Qak)=some (loadsF F (at_ out i).Qak):=loads_impl h (by omega) ⟨hn.1,Int.le_trans hn.2 hall.2⟩
    rw [hl,Option.bind_some] at hb
    obtain ⟨e2,he2,hf2⟩:=bind_get hb
    obtain ⟨out',met',rfl,q1,q2,q3⟩:=sr_inner h r3 r4 hio he2
    simp only [Ex.finB,Qal.a2] at hf2
    injection hf2 with hf2;injection hf2 with hf2;subst hf2
    have hln:=q1.len
    refine ⟨i+1,by dsimp only;rw [i64w_id (by omega) (by omega)];rfl,by dsimp only;omega,?_,q2⟩
    exact ⟨q1.hd,q1.met,q1.near,q1.src,q1.le,q1.mono,fun hh p hp=>Int.le_trans (q1.top (by omega) p hp) (Int.add_le_add_right (q1.mono i (i+1) (Nat.le_succ i) hh) 1),q1.len⟩
   ·rw [if_neg hi] at hb;cases hb
  ·rintro ⟨out,met,j⟩ e ⟨i,r1,r2,r3,r4⟩ hb
   simp only at r1 r2 r3 r4
   subst r1
   simp only [Qal.b0] at hb
   by_cases hi:(i:Int)< (out.length:Int)
   ·exfalso
    rw [if_pos hi] at hb
    obtain ⟨g1,hb⟩:=ite_get hb
    have hio:i< out.length:=by omega
    have hn:=r3.near i hio
    have hl:QaC.f N (⟨F.Qac,F.Qaf,F.Qai⟩:Qae) ((rdL out (i:Int) Qaj).Qak)=some (loadsF F (at_ out i).Qak):=loads_impl h (by omega) ⟨hn.1,Int.le_trans hn.2 hall.2⟩
    rw [hl,Option.bind_some] at hb
    obtain ⟨e2,he2,hf2⟩:=bind_get hb
    obtain ⟨out',met',rfl,q1,q2,q3⟩:=sr_inner h r3 r4 hio he2
    simp only [Ex.finB,Qal.a2] at hf2
    cases hf2
   ·rw [if_neg hi] at hb
    injection hb with hb;injection hb with hb;subst hb
    have:i=out.length:=by omega
    subst this
    exact ⟨out,met,rfl,r3,r4⟩
  ·have e0:∀ p,p< [c0F F].length→p=0:=by intro p hp;simp at hp;exact hp
   refine ⟨⟨by simp,rfl⟩,?_,?_,?_,?_,?_,?_,by simp⟩
   ·intro b
    rw [mGet_set]
    constructor
    ·intro hb
     by_cases e:b=⟨allF F,false⟩
     ·exact ⟨0,by simp,by subst e;rfl⟩
     ·rw [if_neg e] at hb;cases hb
    ·rintro ⟨q,h1,h2⟩
     obtain rfl:=e0 q h1
     have h2:(⟨allF F,false⟩:Bk)=b:=h2
     rw [if_pos h2.symm]
   ·intro p hp
    obtain rfl:=e0 p hp
    exact ⟨by show 0≤allF F;omega,Int.le_refl _⟩
   ·intro p h0 hp
    have:=e0 p hp;omega
   ·intro p hp
    obtain rfl:=e0 p hp
    exact ⟨Int.le_refl _,Int.le_refl _⟩
   ·intro p q hpq hq
    obtain rfl:=e0 q hq
    obtain rfl:p=0:=by omega
    exact Int.le_refl _
   ·intro _ p hp
    obtain rfl:=e0 p hp
    show (0:Int)≤0+1
    omega
 obtain ⟨out',met,rfl,k1,k2⟩:=key
 simp only [Ex.fin,Qal.a0] at hf
 injection hf with hf;subst hf
 exact ⟨met,k1,k2⟩
def bit (x:Int) (i:Nat):Bool:=(B16 x).getLsbD i
theorem B16_of (b:BitVec 16):B16 (b.toNat:Int)=b:=by
 apply BitVec.eq_of_toNat_eq
 have:=b.isLt
 simp [B16]
theorem bit_andNot (x y:Int) {i:Nat} (hi:i< 16):bit (bAndNot .u16 x y) i=(bit x i&&!bit y i):=by
 rw [bAndNot_eq];unfold bit;rw [B16_of];simp [hi]
theorem bit_xor (x y:Int) (i:Nat):bit (bXor .u16 x y) i=(bit x i !=bit y i):=by
 rw [bXor_eq];unfold bit;rw [B16_of];simp
theorem bit_zero (i:Nat):bit 0 i=false:=by simp [bit,B16]
theorem bit_ext {x y:Int} (hx:0≤x∧x≤65535) (hy:0≤y∧y≤65535) (h:∀ i,i< 16→bit x i=bit y i):x=y:=by
 have e:B16 x=B16 y:=BitVec.eq_of_getLsbD_eq fun i hi=>h i hi
 rw [← B16_nat hx,← B16_nat hy,e]
theorem sub_iff {x y:Int} (hx:0≤x∧x≤65535):bAndNot .u16 x y=0↔∀ i,i< 16→bit x i=true→bit y i=true:=by
 constructor
 ·intro h i hi hb
  have:=bit_andNot x y hi
  rw [h,bit_zero,hb] at this
  simpa using this.symm
 ·intro h
  have hr:=andNot_range (x:=x) (y:=y) hx
  refine bit_ext ⟨hr.1,by omega⟩ ⟨Int.le_refl _,by decide⟩ fun i hi=>?_
  rw [bit_andNot x y hi,bit_zero]
  cases hb:bit x i with
  |false=>rfl
  |true=>rw [h i hi hb];rfl
theorem xor_range (x y:Int):0≤bXor .u16 x y∧bXor .u16 x y≤65535:=bXor_range x y
def pw (i:Nat):Int:=(2:Int)^i
theorem pw_tab:∀ i:Nat,i< 8→0≤pw i∧pw i≤255∧∀ j:Nat,j< 16→bit (pw i) j=decide (i=j):=by decide+kernel
def bc (b:Bool):Int:=if b then 1 else 0
theorem cnt_bits_tab:∀ n:Nat,n< 256→cnt (n:Int)=bc (bit n 0)+bc (bit n 1)+bc (bit n 2)+bc (bit n 3)+bc (bit n 4)+bc (bit n 5)+bc (bit n 6)+bc (bit n 7):=by decide+kernel
theorem cnt_bits {x:Int} (h:0≤x∧x≤255):cnt x=bc (bit x 0)+bc (bit x 1)+bc (bit x 2)+bc (bit x 3)+bc (bit x 4)+bc (bit x 5)+bc (bit x 6)+bc (bit x 7):=by
 have:=cnt_bits_tab x.toNat (by omega)
 rwa [Int.toNat_of_nonneg h.1] at this
theorem safe_iff {R:List Int} (hR:∀ r∈R,0≤r∧r≤65535) (t:Int):safe R t=true↔∀ r∈R,¬ ∀ i,i< 16→bit r i=true→bit t i=true:=by
 unfold safe
 rw [Bool.not_eq_true',List.any_eq_false]
 constructor
 ·intro h r hr hc
  exact h r hr (by rw [beq_iff_eq];exact (sub_iff (hR r hr)).2 hc)
 ·intro h r hr hc
  exact h r hr ((sub_iff (hR r hr)).1 (eq_of_beq hc))
theorem all_bits_tab:∀ t:Nat,t< 9→∀ j:Nat,j< 16→bit ((2:Int)^t - 1) j=decide (j< t):=by decide+kernel
theorem all_bits {F:Fe} (h:T8 F) {j:Nat} (hj:j< 16):bit (allF F) j=decide ((j:Int)< F.Qac):=by
 unfold T8 at h
 have:=all_bits_tab F.Qac.toNat (by omega) j hj
 unfold allF
 rw [this]
 apply decide_eq_decide.2
 omega
inductive Rch (F:Fe):Bk→Prop
 |start:Rch F ⟨allF F,false⟩
 |step {b:Bk} {l:Int}:Rch F b→l∈loadsF F b→Rch F (crossedB b l)
theorem Rch.near {F:Fe} (h:OkF F) {b:Bk} (hb:Rch F b):nearOk F b:=by
 cases hb with
 |start=>have:=all_range h.t8;exact ⟨by show 0≤allF F;omega,Int.le_refl _⟩
 |step _ hl=>exact load_near h hl
theorem mem_loads {F:Fe} (h:OkF F) {b:Bk} {l:Int} (h0:0≤l) (h1:l≤allF F) (hc:codeF F b l=0):l∈loadsF F b:=by
 unfold loadsF loadsTo
 rw [List.mem_filter]
 exact ⟨List.mem_map.2 ⟨l.toNat,List.mem_range.2 (by omega),by omega⟩,by rw [hc];rfl⟩
theorem of_loads {F:Fe} (h:OkF F) {b:Bk} {l:Int} (hl:l∈loadsF F b):codeF F b l=0∧0≤l∧l≤allF F:=by
 have hall:=all_range h.t8
 rcases loadsF_mem hl with h|h
 ·exact h
 ·omega
theorem code_zero {F:Fe} {b:Bk} {l:Int}:codeF F b l=0↔bAndNot .u16 l (here F b)=0∧cnt l≤F.Qaf∧bankF F (crossedB b l)=true:=by
 unfold codeF
 constructor
 ·intro h
  split at h
  ·split at h
   ·cases h
   ·split at h
    ·exact ⟨by assumption,by omega,by assumption⟩
    ·cases h
  ·cases h
 ·rintro ⟨h1,h2,h3⟩
  rw [if_pos h1,if_neg (by omega),if_pos h3]
theorem Rch.first {F:Fe} (h:OkF F) {b:Bk} (hb:Rch F b):b=⟨allF F,false⟩∨∃ l,l∈loadsF F ⟨allF F,false⟩:=by
 induction hb with
 |start=>exact .inl rfl
 |step _ hl ih=>
  rcases ih with rfl|ih
  ·exact .inr ⟨_,hl⟩
  ·exact .inr ih
theorem sub_all {F:Fe} (h:OkF F) {s:Int} (h0:0≤s) (h1:s≤allF F):∀ i,i< 16→bit s i=true→bit (allF F) i=true:=by
 have ht:=h.t8
 unfold T8 at ht
 have tab:∀ t:Nat,t< 9→∀ s:Nat,s< 256→s< 2^t→∀ i:Nat,i< 16→bit (s:Int) i=true→i< t:=by decide+kernel
 have hall:=all_range h.t8
 intro i hi hb
 rw [all_bits h.t8 hi,decide_eq_true_eq]
 have e:((2^F.Qac.toNat:Nat):Int)=allF F+1:=by
  unfold allF;rw [Int.natCast_pow];simp
 have:=tab F.Qac.toNat (by omega) s.toNat (by omega) (by omega) i hi (by rw [Int.toNat_of_nonneg h0];exact hb)
 omega
variable {F G:Fe} {x:Nat}
def good (t:Nat) (r:Int):Prop:=0≤r∧r≤(2:Int)^t - 1∧2≤cnt r∧bAndNot .u16 r ((2:Int)^t - 1)=0
instance (t:Nat) (r:Int):Decidable (good t r):=by unfold good;infer_instance
structure Drawn (F:Fe):Prop where
 t:2≤F.Qac∧F.Qac≤5
 boat:0≤F.Qaf∧F.Qaf< F.Qac
 len:F.Qai.length≤4
 rules:∀ r∈F.Qai,good F.Qac.toNat r
theorem Drawn.ok {F:Fe} (h:Drawn F):InF F∧OkF F:=by
 have ht:=h.t
 have hb:=h.boat
 have tab:∀ t:Nat,t< 6→(2:Int)^t - 1≤31:=by decide+kernel
 have h31:=tab F.Qac.toNat (by omega)
 refine ⟨⟨by omega,by omega,fun r hr=>?_⟩,by unfold T8;omega,⟨hb.1,by omega⟩,by have:=h.len;omega,?_⟩
 ·obtain ⟨g1,g2,_⟩:=h.rules r hr
  omega
 ·rw [List.any_eq_false]
  intro r hr
  obtain ⟨g1,g2,g3,g4⟩:=h.rules r hr
  unfold bad
  simp only [Bool.or_eq_true,Bool.not_eq_true',decide_eq_true_eq,not_or,beq_eq_false_iff_ne,ne_eq,Decidable.not_not]
  exact ⟨g4,by omega⟩
theorem i64w_mod (x:Int):i64w x%18446744073709551616=x%18446744073709551616:=by
 simp [IntKind.wrap,IntKind.bits,IntKind.signed];split<;>omega
theorem i64w_eq {x y:Int} (h:x%18446744073709551616=y%18446744073709551616):i64w x=i64w y:=by
 simp [IntKind.wrap,IntKind.bits,IntKind.signed,h]
theorem i64w_add (x y:Int):i64w (i64w x+i64w y)=i64w (x+y):=by
 apply i64w_eq
 have h1:=i64w_mod x
 have h2:=i64w_mod y
 omega
def part (e:Nat→Nat→Bool) (W:Nat→Nat) (p:Nat):Nat→Nat
 |0=>0
 |i+1=>part e W p i+if e i p=true then W i else 0
def wl (e:Nat→Nat→Bool):Nat→List Nat
 |0=>[1]
 |n+1=>wl e n++[part e (fun i=>(wl e n).getD i 0) (n+1) (n+1)]
def Wt (e:Nat→Nat→Bool) (p:Nat):Nat:=(wl e p).getD p 0
theorem wl_len (e:Nat→Nat→Bool):∀ n,(wl e n).length=n+1
 |0=>rfl
 |n+1=>by simp [wl,wl_len e n]
theorem wl_get (e:Nat→Nat→Bool):∀ n q,q≤n→(wl e n).getD q 0=Wt e q
 |0,q,h=>by
  obtain rfl:q=0:=by omega
  rfl
 |n+1,q,h=>by
  by_cases c:q=n+1
  ·subst c;rfl
  ·rw [← wl_get e n q (by omega)]
   show (wl e n++[_]).getD q 0=_
   have hl:=wl_len e n
   rw [List.getD_eq_getElem?_getD,List.getD_eq_getElem?_getD,List.getElem?_append_left (by omega)]
theorem part_congr {e:Nat→Nat→Bool} {W V:Nat→Nat} (p:Nat):∀ i,(∀ q,q< i→W q=V q)→part e W p i=part e V p i
 |0,_=>rfl
 |i+1,h=>by simp only [part,part_congr p i (fun q hq=>h q (by omega)),h i (by omega)]
theorem Wt_zero (e:Nat→Nat→Bool):Wt e 0=1:=rfl
theorem Wt_succ (e:Nat→Nat→Bool) (n:Nat):Wt e (n+1)=part e (Wt e) (n+1) (n+1):=by
 have hl:=wl_len e n
 show (wl e n++[part e (fun i=>(wl e n).getD i 0) (n+1) (n+1)]).getD (n+1) 0=_
 rw [List.getD_eq_getElem?_getD,List.getElem?_append_right (by omega),hl,Nat.sub_self]
 show part e (fun i=>(wl e n).getD i 0) (n+1) (n+1)=_
 exact part_congr (n+1) (n+1) fun q hq=>wl_get e n q (by omega)
def edge (F:Fe) (out:List Cr) (q p:Nat):Bool:=decide ((at_ out p).QaA=(at_ out q).QaA+1)&&(loadsF F (at_ out q).Qak).any fun l=>decide (crossedB (at_ out q).Qak l=(at_ out p).Qak)
theorem edge_iff {F:Fe} {out:List Cr} {q p:Nat}:edge F out q p=true↔(at_ out p).QaA=(at_ out q).QaA+1∧∃ l∈loadsF F (at_ out q).Qak,crossedB (at_ out q).Qak l=(at_ out p).Qak:=by
 unfold edge;simp
theorem xor_inj {b:Bk} {l m:Int} (hl:0≤l∧l≤65535) (hm:0≤m∧m≤65535) (h:crossedB b l=crossedB b m):l=m:=by
 have h':bXor .u16 b.Qam l=bXor .u16 b.Qam m:=congrArg Qag.Qam h
 refine bit_ext hl hm fun i hi=>?_
 have:=congrArg (fun x=>bit x i) h'
 simp only [bit_xor] at this
 cases h1:bit b.Qam i<;>cases h2:bit l i<;>cases h3:bit m i<;>simp_all
theorem loads_nodup (F:Fe) (b:Bk):(loadsF F b).Nodup:=by
 unfold loadsF loadsTo
 exact List.Pairwise.filter _ (List.Pairwise.map _ (fun a b h e=>h (Int.ofNat.inj e)) List.nodup_range)
theorem nd_inj {α:Type} {l:List α} (h:l.Nodup) {i j:Nat} (hi:i< l.length) (hj:j< l.length) (e:l[i]=l[j]):i=j:=by
 rcases Nat.lt_trichotomy i j with c|c|c
 ·exact absurd e (List.pairwise_iff_getElem.1 h i j hi hj c)
 ·exact c
 ·exact absurd e.symm (List.pairwise_iff_getElem.1 h j i hj hi c)
structure All (F:Fe) (N:Nat) (tb:List Int) (out:List Cr):Prop where
 ok:OkF F
 e2:Qal.f N F=some out
 tab:QaJ.f N F=some tb
 rel:∃ fr ba qu met,Rel F out met tb fr ba qu
 sr:∃ met,Sr F out met out.length
 cl:Cl F out out.length
theorem search_all {N:Nat} {F:Fe} (h:OkF F) (hN:2000< N):∃ tb wy fr ba out,Qas.f N F=some ⟨tb,wy,fr,ba⟩∧All F N tb out:=by
 obtain ⟨tb,wy,fr,ba,qu,out,met,e1,e2,hR,_,_⟩:=search_both h hN
 obtain ⟨met',hS,hC⟩:=search_sound h hN e2
 exact ⟨tb,wy,fr,ba,out,e1,h,e2,table_eq h hN e2 hR,⟨fr,ba,qu,met,hR⟩,⟨met',hS⟩,hC⟩
variable {F:Fe} {N:Nat} {tb:List Int} {out:List Cr}
theorem All.inj (A:All F N tb out) {p q:Nat} (hp:p< out.length) (hq:q< out.length) (h:(at_ out p).Qak=(at_ out q).Qak):p=q:=by
 obtain ⟨fr,ba,qu,met,R⟩:=A.rel
 have hn:=R.nd
 have hp':p< (out.map fun c=>numF F c.Qak).length:=by rw [List.length_map];exact hp
 have hq':q< (out.map fun c=>numF F c.Qak).length:=by rw [List.length_map];exact hq
 refine nd_inj hn hp' hq' ?_
 rw [List.getElem_map,List.getElem_map]
 have h1:at_ out p=out[p]:=rdL_nat hp
 have h2:at_ out q=out[q]:=rdL_nat hq
 rw [← h1,← h2,h]
theorem All.near (A:All F N tb out) {p:Nat} (hp:p< out.length):nearOk F (at_ out p).Qak:=by
 obtain ⟨met,S⟩:=A.sr
 exact S.near p hp
theorem All.tb_at (A:All F N tb out) {p:Nat} (hp:p< out.length):rdL tb (numF F (at_ out p).Qak) 0=(at_ out p).QaA:=by
 obtain ⟨fr,ba,qu,met,R⟩:=A.rel
 exact (R.yes p hp).1
theorem All.len (A:All F N tb out):(out.length:Int)≤nB F∧(tb.length:Int)=nB F:=by
 obtain ⟨fr,ba,qu,met,R⟩:=A.rel
 exact ⟨R.len A.ok.t8,R.lt.1⟩
theorem All.le (A:All F N tb out) {p:Nat} (hp:p< out.length):0≤(at_ out p).QaA∧(at_ out p).QaA≤p:=by
 obtain ⟨met,S⟩:=A.sr
 exact S.le p hp
theorem All.edge_lt (A:All F N tb out) {p q:Nat} (hp:p< out.length) (hq:q< out.length) (h:edge F out q p=true):q< p:=by
 obtain ⟨met,S⟩:=A.sr
 have:=(edge_iff.1 h).1
 by_cases c:q< p
 ·exact c
 ·have:=S.mono p q (by omega) hq
  omega
def Vt (F:Fe) (out:List Cr) (p i:Nat):Int:=(if p=0 then 1 else 0)+(part (edge F out) (Wt (edge F out)) p i:Int)
theorem part_top (A:All F N tb out) {p:Nat} (hp:p< out.length):∀ i,p≤i→i≤out.length→part (edge F out) (Wt (edge F out)) p i=part (edge F out) (Wt (edge F out)) p p:=by
 intro i
 induction i with
 |zero=>
  intro hi _
  obtain rfl:p=0:=by omega
  rfl
 |succ i ih=>
  intro hi hl
  by_cases c:p=i+1
  ·subst c;rfl
  ·have hn:¬ edge F out i p=true:=fun x=>by have:=A.edge_lt hp (by omega) x;omega
   simp only [part,if_neg hn,Nat.add_zero]
   exact ih (by omega) (by omega)
theorem Vt_top (A:All F N tb out) {p i:Nat} (hp:p< out.length) (hi:p≤i) (hl:i≤out.length):Vt F out p i=(Wt (edge F out) p:Int):=by
 unfold Vt
 rw [part_top A hp i hi hl]
 cases p with
 |zero=>rw [if_pos rfl,Wt_zero];rfl
 |succ p=>rw [if_neg (by omega),Wt_succ];omega
def Tells (F:Fe) (out:List Cr) (wy:List (Bk×Int)) (V:Nat→Int):Prop:=(∀ p,p< out.length→mGet wy (at_ out p).Qak 0=i64w (V p))∧∀ b,(∀ p,p< out.length→(at_ out p).Qak≠b)→mGet wy b 0=0
def hit (F:Fe) (out:List Cr) (i j p:Nat):Bool:=decide ((at_ out p).QaA=(at_ out i).QaA+1)&&((loadsF F (at_ out i).Qak).take j).any fun l=>decide (crossedB (at_ out i).Qak l=(at_ out p).Qak)
theorem hit_zero (F:Fe) (out:List Cr) (i p:Nat):hit F out i 0 p=false:=by unfold hit;simp
theorem hit_all (F:Fe) (out:List Cr) (i p:Nat):hit F out i (loadsF F (at_ out i).Qak).length p=edge F out i p:=by unfold hit edge;rw [List.take_length]
theorem hit_succ {i j p:Nat} (hj:j< (loadsF F (at_ out i).Qak).length):hit F out i (j+1) p=(hit F out i j p||(decide ((at_ out p).QaA=(at_ out i).QaA+1)&&decide (crossedB (at_ out i).Qak (loadsF F (at_ out i).Qak)[j]=(at_ out p).Qak))):=by
 unfold hit
 rw [List.take_succ_eq_append_getElem hj,List.any_append]
 simp only [List.any_cons,List.any_nil,Bool.or_false]
 cases decide ((at_ out p).QaA=(at_ out i).QaA+1)<;>simp
theorem ways_inner (A:All F N tb out) (hN:2000< N) {i:Nat} (hi:i< out.length) {wy0:List (Bk×Int)} (h0:Tells F out wy0 (fun p=>Vt F out p i)):
 ∃ wy,rounds (fun s=>Qay.b2 N (loadsF F (at_ out i).Qak) out (i:Int) F tb s.1 s.2) N (wy0,0)=some (.go wy)∧Tells F out wy (fun p=>Vt F out p (i+1)):=by
 have h:=A.ok
 have hall:=all_range h.t8
 have hlen:=A.len
 have hni:=A.near hi
 have hll:=loadsF_len h.t8 (at_ out i).Qak
 have hmi:=A.le hi
 have hnB:nB F≤512:=by unfold nB;omega
 obtain ⟨e,he,wy,rfl,hw⟩:=rounds_ends (b:=fun s=>Qay.b2 N (loadsF F (at_ out i).Qak) out (i:Int) F tb s.1 s.2)
  (fun s=>∃ j:Nat,s.2=(j:Int)∧j≤(loadsF F (at_ out i).Qak).length∧Tells F out s.1 (fun p=>Vt F out p i+if hit F out i j p=true then (Wt (edge F out) i:Int) else 0))
  (fun s=>(loadsF F (at_ out i).Qak).length - s.2.toNat) (fun e=>∃ wy,e= .go wy∧Tells F out wy (fun p=>Vt F out p (i+1))) (by
  rintro ⟨wy,j⟩ ⟨j',hj,hjl,hT⟩
  simp only at hj hT
  subst hj
  by_cases hj:j'< (loadsF F (at_ out i).Qak).length
  ·right
   have g1:(j':Int)< ((loadsF F (at_ out i).Qak).length:Int):=by omega
   have g2:(0:Int)≤(j':Int)∧(j':Int)< ((loadsF F (at_ out i).Qak).length:Int):=⟨by omega,g1⟩
   obtain ⟨hcode,hl0,hl1,hn0,hn1⟩:=step_code h hj
   obtain ⟨q,hq,hqb,hqm⟩:=A.cl i hi _ (List.getElem_mem hj)
   have hnq:=A.near hq
   have hto:=numF_range h.t8 hnq
   have htb:=A.tb_at hq
   have hmq:=A.le hq
   have hnear:0≤(at_ out q).Qak.Qam∧(at_ out q).Qak.Qam≤255:=by unfold nearOk at hnq;omega
   have gT:0≤numF F (at_ out q).Qak∧numF F (at_ out q).Qak< (tb.length:Int):=⟨hto.1,by unfold nB at hlen;omega⟩
   have hcr:∀ b l,Qa7.f N b l=some (crossedB b l):=fun _ _=>rfl
   have hnext:i64w ((j':Int)+1)=((j'+1:Nat):Int):=i64w_succ hj (by omega)
   have w1:i64w ((at_ out q).QaA)=(at_ out q).QaA:=i64w_id (by omega) (by omega)
   have w2:i64w ((at_ out i).QaA+1)=(at_ out i).QaA+1:=i64w_id (by omega) (by omega)
   have hrd:rdL out (i:Int) Qaj=at_ out i:=rfl
   have hstep:Qay.b2 N (loadsF F (at_ out i).Qak) out (i:Int) F tb wy (j':Int)=some (.next (if (at_ out q).QaA=(at_ out i).QaA+1 then mSet wy (at_ out q).Qak (i64w (mGet wy (at_ out q).Qak 0+mGet wy (at_ out i).Qak 0)) else wy,((j'+1:Nat):Int))):=by
    simp only [Qay.b2,if_pos g1,if_pos g2,hrd,rdL_nat hj,hcr,Option.bind_some,← hqb,F_eta,number_impl h.t8 (N:=N) hnear,if_pos gT,htb,w1,w2,Qay.j4,hnext]
    split<;>rfl
   refine ⟨_,hstep,⟨j'+1,rfl,hj,?_⟩,by dsimp only;omega⟩
   have nodup:hit F out i j' q=false:=by
    unfold hit
    rw [Bool.and_eq_false_iff]
    right
    rw [List.any_eq_false]
    intro l hl hc
    have hc:=of_decide_eq_true hc
    rw [hqb] at hc
    obtain ⟨m,hm,rfl⟩:=List.mem_iff_getElem.1 hl
    rw [List.length_take] at hm
    rw [List.getElem_take] at hc
    have hml:m< (loadsF F (at_ out i).Qak).length:=by omega
    obtain ⟨_,a0,a1,_,_⟩:=step_code h hml
    have:=xor_inj (b:=(at_ out i).Qak) ⟨a0,by omega⟩ ⟨hl0,by omega⟩ hc
    have:=nd_inj (loads_nodup F (at_ out i).Qak) hml hj this
    omega
   have hself:hit F out i j' i=false:=by
    unfold hit
    rw [Bool.and_eq_false_iff]
    left
    exact decide_eq_false (by omega)
   dsimp only
   by_cases cm:(at_ out q).QaA=(at_ out i).QaA+1
   ·rw [if_pos cm]
    refine ⟨fun p hp=>?_,fun b hb=>?_⟩
    ·rw [mGet_set]
     by_cases e:(at_ out p).Qak=(at_ out q).Qak
     ·obtain rfl:=A.inj hp hq e
      rw [if_pos rfl,hT.1 p hp,hT.1 i hi,i64w_add]
      dsimp only
      rw [hself,nodup,Vt_top A hi (Nat.le_refl _) (by omega)]
      have hh:hit F out i (j'+1) p=true:=by rw [hit_succ hj,hqb,cm];simp
      rw [hh]
      simp
     ·rw [if_neg e,hT.1 p hp]
      have hh:hit F out i (j'+1) p=hit F out i j' p:=by
       rw [hit_succ hj,← hqb,decide_eq_false (p:=(at_ out q).Qak=(at_ out p).Qak) (fun x=>e x.symm)]
       simp
      dsimp only
      rw [hh]
    ·rw [mGet_set,if_neg (fun x=>hb q hq x.symm)]
     exact hT.2 b hb
   ·rw [if_neg cm]
    refine ⟨fun p hp=>?_,hT.2⟩
    rw [hT.1 p hp]
    have hh:hit F out i (j'+1) p=hit F out i j' p:=by
     rw [hit_succ hj,← hqb]
     by_cases e:(at_ out q).Qak=(at_ out p).Qak
     ·obtain rfl:=A.inj hq hp e
      rw [decide_eq_false cm];simp
     ·rw [decide_eq_false e];simp
    dsimp only
    rw [hh]
  ·left
   obtain rfl:j'=(loadsF F (at_ out i).Qak).length:=by omega
   refine ⟨.go wy,?_,wy,rfl,?_⟩
   ·simp only [Qay.b2]
    rw [if_neg (by omega)]
   ·refine ⟨fun p hp=>?_,hT.2⟩
    rw [hT.1 p hp]
    dsimp only
    rw [hit_all]
    congr 1
    unfold Vt
    simp only [part]
    by_cases ce:edge F out i p=true
    ·rw [if_pos ce,if_pos ce];omega
    ·rw [if_neg ce,if_neg ce];omega) N (wy0,0) ⟨0,rfl,by omega,by
   refine ⟨fun p hp=>?_,h0.2⟩
   dsimp only
   rw [h0.1 p hp,hit_zero]
   simp⟩ (by dsimp only;omega)
 exact ⟨wy,he,hw⟩
theorem ways_outer (A:All F N tb out) (hN:2000< N):∃ wy,rounds (fun s=>Qay.b0 N out F tb s.1 s.2) N (mSet ([]:List (Bk×Int)) (⟨allF F,false⟩:Bk) 1,0)=some (.go wy)∧Tells F out wy (fun p=>(Wt (edge F out) p:Int)):=by
 have h:=A.ok
 have hall:=all_range h.t8
 have hlen:=A.len
 have hnB:nB F≤512:=by unfold nB;omega
 obtain ⟨met,S⟩:=A.sr
 have hb0:(at_ out 0).Qak=⟨allF F,false⟩:=by rw [S.hd.2];rfl
 obtain ⟨e,he,wy,rfl,hw⟩:=rounds_ends (b:=fun s=>Qay.b0 N out F tb s.1 s.2)
  (fun s=>∃ i:Nat,s.2=(i:Int)∧i≤out.length∧Tells F out s.1 (fun p=>Vt F out p i))
  (fun s=>out.length - s.2.toNat) (fun e=>∃ wy,e= .go wy∧Tells F out wy (fun p=>(Wt (edge F out) p:Int))) (by
  rintro ⟨wy,i⟩ ⟨i',hi,hil,hT⟩
  simp only at hi hT
  subst hi
  by_cases hi:i'< out.length
  ·right
   have g1:(i':Int)< (out.length:Int):=by omega
   have g2:(0:Int)≤(i':Int)∧(i':Int)< (out.length:Int):=⟨by omega,g1⟩
   have hni:=A.near hi
   have hnear:0≤(at_ out i').Qak.Qam∧(at_ out i').Qak.Qam≤255:=by unfold nearOk at hni;omega
   obtain ⟨wy',e1,hT'⟩:=ways_inner A hN hi hT
   refine ⟨(wy',((i'+1:Nat):Int)),?_,⟨i'+1,rfl,hi,hT'⟩,by dsimp only;omega⟩
   have hrd:rdL out (i':Int) Qaj=at_ out i':=rfl
   simp only [Qay.b0,if_pos g1,if_pos g2,hrd,F_eta,loads_impl h (show 300< N by omega) hnear,Option.bind_some,e1,Ex.finB,Qay.a2,i64w_succ hi (show out.length≤9223372036854775807 by omega)]
  ·left
   obtain rfl:i'=out.length:=by omega
   refine ⟨.go wy,?_,wy,rfl,?_⟩
   ·simp only [Qay.b0]
    rw [if_neg (by omega)]
   ·refine ⟨fun p hp=>?_,hT.2⟩
    rw [hT.1 p hp]
    dsimp only
    rw [Vt_top A hp (by omega) (Nat.le_refl _)]) N (mSet ([]:List (Bk×Int)) (⟨allF F,false⟩:Bk) 1,0) ⟨0,rfl,by omega,by
   dsimp only
   refine ⟨fun p hp=>?_,fun b hb=>?_⟩
   ·rw [mGet_set]
    by_cases c:p=0
    ·subst c
     rw [if_pos hb0]
     show (1:Int)=i64w (Vt F out 0 0)
     unfold Vt
     simp only [part,if_true]
     exact (i64w_id (by decide) (by decide)).symm
    ·rw [if_neg (fun x=>c (A.inj hp S.hd.1 (x.trans hb0.symm)))]
     show (0:Int)=i64w (Vt F out p 0)
     unfold Vt
     simp only [part,if_neg c]
     exact (i64w_id (by decide) (by decide)).symm
   ·rw [mGet_set,if_neg (fun x=>hb 0 S.hd.1 (hb0.trans x.symm))]
    rfl⟩ (by dsimp only;omega)
 exact ⟨wy,he,hw⟩
theorem Wt_pos (A:All F N tb out):∀ n p,p≤n→p< out.length→1≤Wt (edge F out) p:=by
 obtain ⟨met,S⟩:=A.sr
 intro n
 induction n with
 |zero=>
  intro p hp _
  obtain rfl:p=0:=by omega
  exact Nat.le_refl _
 |succ n ih=>
  intro p hp hl
  cases p with
  |zero=>exact Nat.le_refl _
  |succ p=>
   obtain ⟨q,q1,q2,q3,q4,q5⟩:=S.src (p+1) (by omega) hl
   have he:edge F out q (p+1)=true:=edge_iff.2 ⟨q5,_,q3,q4.symm⟩
   have hq:=ih q (by omega) (by omega)
   rw [Wt_succ]
   have key:∀ i,q< i→1≤part (edge F out) (Wt (edge F out)) (p+1) i:=by
    intro i
    induction i with
    |zero=>intro x;omega
    |succ i ih2=>
     intro x
     simp only [part]
     by_cases c:q=i
     ·subst c;rw [if_pos he];omega
     ·have:=ih2 (by omega);omega
   exact key (p+1) (by omega)
abbrev SS:=Nat→Bool
def sz (A:SS):Nat→Nat
 |0=>0
 |n+1=>sz A n+if A n=true then 1 else 0
theorem sz_congr {A B:SS}:∀ {n:Nat},(∀ i,i< n→A i=B i)→sz A n=sz B n
 |0,_=>rfl
 |n+1,h=>by
  simp only [sz,sz_congr (n:=n) fun i hi=>h i (by omega),h n (by omega)]
theorem sz_split (A X:SS):∀ n:Nat,sz A n=sz (fun i=>A i&&X i) n+sz (fun i=>A i&&!X i) n
 |0=>rfl
 |n+1=>by
  have:=sz_split A X n
  simp only [sz]
  have h:∀ a x:Bool,(if a=true then 1 else 0:Nat)=(if (a&&x)=true then 1 else 0)+if (a&&!x)=true then 1 else 0:=by decide
  have:=h (A n) (X n)
  omega
theorem sz_union {A B:SS}:∀ {n:Nat},(∀ i,i< n→A i=true→B i=true→False)→sz (fun i=>A i||B i) n=sz A n+sz B n
 |0,_=>rfl
 |n+1,h=>by
  have h1:=sz_union (n:=n) fun i hi=>h i (by omega)
  have h2:=h n (by omega)
  simp only [sz,h1]
  have h:∀ a b:Bool,(a=true→b=true→False)→(if (a||b)=true then 1 else 0:Nat)=(if a=true then 1 else 0)+if b=true then 1 else 0:=by
   intro a b q
   cases a<;>cases b<;>first|rfl|exact (q rfl rfl).elim
  have:=h (A n) (B n) h2
  omega
theorem sz_mono {A B:SS}:∀ {n:Nat},(∀ i,i< n→A i=true→B i=true)→sz A n≤sz B n
 |0,_=>Nat.le_refl _
 |n+1,h=>by
  have h1:=sz_mono (n:=n) fun i hi=>h i (by omega)
  have h2:=h n (by omega)
  simp only [sz]
  cases ha:A n<;>cases hb:B n<;>simp_all<;>omega
theorem sz_same {A B:SS}:∀ {n:Nat},(∀ i,i< n→A i=true→B i=true)→sz B n≤sz A n→∀ i,i< n→A i=B i
 |0,_,_=>fun i hi=>absurd hi (Nat.not_lt_zero _)
 |n+1,h,hle=>by
  have h1:=sz_mono (n:=n) fun i hi=>h i (by omega)
  have h2:=h n (by omega)
  simp only [sz] at hle
  intro i hi
  by_cases c:i=n
  ·subst c
   cases ha:A i<;>cases hb:B i<;>simp_all<;>omega
  ·refine sz_same (n:=n) (fun j hj=>h j (by omega)) ?_ i (by omega)
   cases ha:A n<;>cases hb:B n<;>simp_all<;>omega
theorem sz_none {A:SS}:∀ {n:Nat},(∀ i,i< n→A i=false)→sz A n=0
 |0,_=>rfl
 |n+1,h=>by simp only [sz,sz_none (n:=n) fun i hi=>h i (by omega),h n (by omega)];simp
theorem sz_some {A:SS}:∀ {n:Nat},0< sz A n→∃ i,i< n∧A i=true
 |0,h=>absurd h (Nat.lt_irrefl _)
 |n+1,h=>by
  by_cases c:A n=true
  ·exact ⟨n,by omega,c⟩
  ·simp only [sz,if_neg c] at h
   obtain ⟨i,hi,ha⟩:=sz_some (n:=n) (by omega)
   exact ⟨i,by omega,ha⟩
theorem sz_one {j:Nat}:∀ {n:Nat},j< n→sz (fun i=>i==j) n=1
 |0,h=>absurd h (Nat.not_lt_zero _)
 |n+1,h=>by
  by_cases c:n=j
  ·subst c
   have:sz (fun i=>i==n) n=0:=sz_none fun i hi=>by simp;omega
   simp [sz,this]
  ·have:=sz_one (j:=j) (n:=n) (by omega)
   simp [sz,this,c]
theorem sub_size {A:SS}:∀ {n k:Nat},k≤sz A n→∃ B:SS,(∀ i,B i=true→A i=true∧i< n)∧sz B n=k
 |0,k,h=>⟨fun _=>false,by simp,by simp only [sz] at h ⊢;omega⟩
 |n+1,k,h=>by
  by_cases c:k≤sz A n
  ·obtain ⟨B,h1,h2⟩:=sub_size (n:=n) c
   refine ⟨B,fun i hi=>by have:=h1 i hi;exact ⟨this.1,by omega⟩,?_⟩
   have:¬ B n=true:=fun hb=>by have:=(h1 n hb).2;omega
   simp only [sz,if_neg this,h2,Nat.add_zero]
  ·simp only [sz] at h
   have ha:A n=true:=by
    by_cases q:A n=true
    ·exact q
    ·rw [if_neg q] at h;omega
   rw [if_pos ha] at h
   obtain ⟨B,h1,h2⟩:=sub_size (A:=A) (n:=n) (k:=sz A n) (Nat.le_refl _)
   refine ⟨fun i=>B i||i==n,fun i hi=>?_,?_⟩
   ·simp only [Bool.or_eq_true,beq_iff_eq] at hi
    rcases hi with hi|rfl
    ·have:=h1 i hi;exact ⟨this.1,by omega⟩
    ·exact ⟨ha,by omega⟩
   ·have hb:sz (fun i=>B i||i==n) n=sz B n:=sz_congr fun i hi=>by
     have:(i==n)=false:=by simp;omega
     rw [this,Bool.or_false]
    simp only [sz,hb,h2]
    simp
    omega
structure Fam (n:Nat) (safe:SS→Prop):Prop where
 dn:∀ A B:SS,safe A→(∀ i,i< n→B i=true→A i=true)→safe B
 one:∀ j,j< n→safe fun i=>i==j
section
variable {n m:Nat} {safe:SS→Prop}
def adj (n m:Nat) (safe:SS→Prop) (A B:SS):Prop:=safe A∧safe B∧(∀ i,i< n→A i=true→B i=true→False)∧m≤sz A n+sz B n
theorem adj.symm {A B:SS} (h:adj n m safe A B):adj n m safe B A:=⟨h.2.1,h.1,fun i hi a b=>h.2.2.1 i hi b a,by have:=h.2.2.2;omega⟩
theorem adj.ext (H:Fam n safe) {A B A' B':SS} (h:adj n m safe A B) (ha:∀ i,i< n→A i=A' i) (hb:∀ i,i< n→B i=B' i):adj n m safe A' B':=by
 refine ⟨H.dn A A' h.1 fun i hi=>by rw [ha i hi];exact id,H.dn B B' h.2.1 fun i hi=>by rw [hb i hi];exact id,fun i hi=>?_,?_⟩
 ·rw [← ha i hi,← hb i hi];exact h.2.2.1 i hi
 ·rw [← sz_congr ha,← sz_congr hb];exact h.2.2.2
def Pt (n m:Nat) (safe:SS→Prop):Nat→SS→SS→Prop
 |0,A,B=>∀ i,i< n→A i=B i
 |k+1,A,C=>∃ B,Pt n m safe k A B∧adj n m safe B C
theorem Pt.ext (H:Fam n safe):∀ {k:Nat} {A B B':SS},Pt n m safe k A B→(∀ i,i< n→B i=B' i)→Pt n m safe k A B'
 |0,A,B,B',h,hb=>fun i hi=>(h i hi).trans (hb i hi)
 |k+1,A,C,C',⟨B,h1,h2⟩,hc=>⟨B,h1,h2.ext H (fun _ _=>rfl) hc⟩
theorem Pt.trans (H:Fam n safe) {j:Nat} {A B:SS} (h:Pt n m safe j A B):∀ {k:Nat} {C:SS},Pt n m safe k B C→Pt n m safe (j+k) A C
 |0,C,h'=>h.ext H h'
 |k+1,C,⟨D,h1,h2⟩=>⟨D,h.trans H h1,h2⟩
theorem Pt.one {A B:SS} (h:adj n m safe A B):Pt n m safe 1 A B:=⟨A,fun _ _=>rfl,h⟩
theorem Pt.symm (H:Fam n safe):∀ {k:Nat} {A B:SS},Pt n m safe k A B→Pt n m safe k B A
 |0,A,B,h=>fun i hi=>(h i hi).symm
 |k+1,A,C,⟨B,h1,h2⟩=>by
  have:=(Pt.one h2.symm).trans H (h1.symm H)
  rwa [Nat.add_comm] at this
abbrev nil:SS:=fun _=>false
theorem safe_nil (H:Fam n safe) {A:SS} (h:safe A):safe nil:=H.dn A nil h fun i _ hb=>by cases hb
structure Str (n m:Nat) (safe:SS→Prop) (X U V:SS):Prop where
 x:safe X
 xm:sz X n=m
 u:safe U
 v:safe V
 uo:∃ i,i< n∧U i=true∧X i=false
 vo:∃ i,i< n∧V i=true∧X i=false
 dis:∀ i,i< n→X i=true→U i=true→V i=true→False
 few:m≤sz U n+sz V n
theorem grow (H:Fam n safe) {X S:SS} {y:Nat} (hX:safe X) (hm:sz X n=m) (hy:y< n) (hyX:X y=false) (hS:∀ i,S i=true→X i=true∧i< n) (hSy:safe fun i=>S i||i==y):
 ∀ (k:Nat) (P:SS),(∀ i,P i=true→S i=true)→sz P n=k→Pt n m safe (2*k+1) nil (fun i=>X i&&!P i)∧Pt n m safe (2*k+2) nil (fun i=>P i||i==y):=by
 have sizes:∀ P:SS,(∀ i,P i=true→S i=true)→sz (fun i=>X i&&!P i) n+sz P n=m∧sz (fun i=>P i||i==y) n=sz P n+1:=by
  intro P hP
  constructor
  ·have h1:=sz_split X P n
   have h2:sz (fun i=>X i&&P i) n=sz P n:=sz_congr fun i hi=>by
    cases hp:P i with
    |false=>simp
    |true=>have:=(hS i (hP i hp)).1;simp [this]
   omega
  ·rw [sz_union,sz_one hy]
   intro i hi hp hq
   simp only [beq_iff_eq] at hq
   subst hq
   have:=(hS i (hP i hp)).1
   rw [hyX] at this
   cases this
 have sX:∀ P:SS,safe fun i=>X i&&!P i:=fun P=>H.dn X _ hX fun i _ h=>by simp only [Bool.and_eq_true] at h;exact h.1
 have sP:∀ P:SS,(∀ i,P i=true→S i=true)→safe fun i=>P i||i==y:=fun P hP=>H.dn _ _ hSy fun i _ h=>by
  simp only [Bool.or_eq_true] at h ⊢
  exact h.imp (hP i) id
 have last:∀ (k:Nat) (P:SS),(∀ i,P i=true→S i=true)→sz P n=k→adj n m safe (fun i=>X i&&!P i) (fun i=>P i||i==y):=by
  intro k P hP hk
  obtain ⟨h1,h2⟩:=sizes P hP
  refine ⟨sX P,sP P hP,fun i hi a b=>?_,by omega⟩
  simp only [Bool.and_eq_true,Bool.not_eq_true',Bool.or_eq_true,beq_iff_eq] at a b
  rcases b with b|b
  ·rw [b] at a;cases a.2
  ·subst b;rw [hyX] at a;cases a.1
 intro k
 induction k with
 |zero=>
  intro P hP hk
  have hno:∀ i,i< n→P i=false:=by
   intro i hi
   cases hp:P i with
   |false=>rfl
   |true=>
    have:=sz_mono (A:=fun j=>j==i) (B:=P) (n:=n) fun j _ hj=>by
     simp only [beq_iff_eq] at hj;subst hj;exact hp
    rw [sz_one hi] at this
    omega
  have h1:Pt n m safe 1 nil (fun i=>X i&&!P i):=by
   have h0:adj n m safe nil X:=by
    refine ⟨safe_nil H hX,hX,fun i _ a _=>(by cases a),?_⟩
    rw [sz_none (A:=nil) fun _ _=>rfl]
    omega
   exact (Pt.one h0).ext H fun i hi=>by simp [hno i hi]
  exact ⟨h1,⟨_,h1,last 0 P hP hk⟩⟩
 |succ k ih=>
  intro P hP hk
  obtain ⟨x,hx,hpx⟩:=sz_some (A:=P) (n:=n) (by omega)
  have hQ:∀ i,(P i&&!(i==x))=true→S i=true:=fun i h=>by simp only [Bool.and_eq_true] at h;exact hP i h.1
  have hQk:sz (fun i=>P i&&!(i==x)) n=k:=by
   have h1:=sz_split P (fun i=>i==x) n
   have h2:sz (fun i=>P i&&(i==x)) n=1:=by
    rw [← sz_one hx]
    exact sz_congr fun i _=>by
     by_cases c:i=x
     ·subst c;simp [hpx]
     ·have:(i==x)=false:=by simpa using c
      simp [this]
   omega
  obtain ⟨_,h2⟩:=ih (fun i=>P i&&!(i==x)) hQ hQk
  obtain ⟨s1,s2⟩:=sizes P hP
  obtain ⟨_,s4⟩:=sizes (fun i=>P i&&!(i==x)) hQ
  have ha:adj n m safe (fun i=>(P i&&!(i==x))||i==y) (fun i=>X i&&!P i):=by
   refine ⟨sP _ hQ,sX P,fun i hi a b=>?_,by rw [s4,hQk];omega⟩
   simp only [Bool.and_eq_true,Bool.not_eq_true',Bool.or_eq_true,beq_iff_eq] at a b
   rcases a with a|a
   ·rw [a.1] at b;cases b.2
   ·subst a;rw [hyX] at b;cases b.1
  have h3:Pt n m safe (2*(k+1)+1) nil (fun i=>X i&&!P i):=⟨_,h2,ha⟩
  exact ⟨h3,⟨_,h3,last (k+1) P hP hk⟩⟩
theorem grow_to (H:Fam n safe) {X U:SS} (hX:safe X) (hm:sz X n=m) (hU:safe U) (ho:∃ i,i< n∧U i=true∧X i=false):Pt n m safe (2*sz (fun i=>U i&&X i) n+2) nil U:=by
 obtain ⟨y,hy,hUy,hXy⟩:=ho
 have hS:∀ i,(decide (i< n)&&(U i&&X i))=true→X i=true∧i< n:=fun i h=>by simp only [Bool.and_eq_true,decide_eq_true_eq] at h;exact ⟨h.2.2,h.1⟩
 have hc:sz (fun i=>decide (i< n)&&(U i&&X i)) n=sz (fun i=>U i&&X i) n:=sz_congr fun i hi=>by simp [hi]
 have hSy:safe fun i=>(decide (i< n)&&(U i&&X i))||i==y:=H.dn U _ hU fun i _ h=>by
  simp only [Bool.and_eq_true,Bool.or_eq_true,beq_iff_eq] at h
  rcases h with h|h
  ·exact h.2.1
  ·subst h;exact hUy
 obtain ⟨h1,_⟩:=grow H hX hm hy hXy hS hSy _ _ (fun i h=>h) hc
 refine ⟨_,h1,H.dn X _ hX fun i _ h=>(by simp only [Bool.and_eq_true] at h;exact h.1),hU,fun i hi a b=>?_,?_⟩
 ·simp only [Bool.and_eq_true,Bool.not_eq_true',Bool.and_eq_false_iff,decide_eq_false_iff_not] at a
  rcases a.2 with h|h|h
  ·exact h hi
  ·rw [b] at h;cases h
  ·rw [a.1] at h;cases h
 ·have e1:=sz_split X U n
  have e2:sz (fun i=>X i&&U i) n=sz (fun i=>U i&&X i) n:=sz_congr fun i _=>by rw [Bool.and_comm]
  have e3:sz (fun i=>X i&&!(decide (i< n)&&(U i&&X i))) n=sz (fun i=>X i&&!U i) n:=sz_congr fun i hi=>by
   simp only [hi,decide_true,Bool.true_and]
   cases X i<;>cases U i<;>rfl
  have e4:sz (fun i=>U i&&X i) n≤sz U n:=sz_mono fun i _ h=>by simp only [Bool.and_eq_true] at h;exact h.1
  rw [e3]
  omega
theorem Str.short (H:Fam n safe) {X U V:SS} (h:Str n m safe X U V) (hm1:1≤m):∃ L,L%2=1∧L≤2*(m - 2)+7∧Pt n m safe L nil nil:=by
 have hX:=h.x
 have hm:=h.xm
 have uS:=sz_split U X n
 have vS:=sz_split V X n
 have tU:1≤sz (fun i=>U i&&!X i) n:=by
  obtain ⟨y,hy,a,b⟩:=h.uo
  have:=sz_mono (A:=fun i=>i==y) (B:=fun i=>U i&&!X i) (n:=n) fun i _ hi=>by
   simp only [beq_iff_eq] at hi;subst hi;simp [a,b]
  rw [sz_one hy] at this
  exact this
 have tV:1≤sz (fun i=>V i&&!X i) n:=by
  obtain ⟨y,hy,a,b⟩:=h.vo
  have:=sz_mono (A:=fun i=>i==y) (B:=fun i=>V i&&!X i) (n:=n) fun i _ hi=>by
   simp only [beq_iff_eq] at hi;subst hi;simp [a,b]
  rw [sz_one hy] at this
  exact this
 have few:=h.few
 generalize hsu:sz (fun i=>U i&&X i) n=su at*
 generalize hsv:sz (fun i=>V i&&X i) n=sv at*
 generalize htu:sz (fun i=>U i&&!X i) n=tu at*
 generalize htv:sz (fun i=>V i&&!X i) n=tv at*
 obtain ⟨r,hr⟩:∃ r,r=m - (tu+tv):=⟨_,rfl⟩
 obtain ⟨j1,hj1⟩:∃ j1,j1=min su r:=⟨_,rfl⟩
 obtain ⟨j2,hj2⟩:∃ j2,j2=r - j1:=⟨_,rfl⟩
 have hle1:j1≤su∧j1≤r:=by omega
 have hle2:j2≤sv∧j1+j2=r:=by omega
 obtain ⟨A,hA,hAz⟩:=sub_size (A:=fun i=>U i&&X i) (n:=n) (k:=j1) (by omega)
 obtain ⟨B,hB,hBz⟩:=sub_size (A:=fun i=>V i&&X i) (n:=n) (k:=j2) (by omega)
 have hA':∀ i,A i=true→U i=true∧X i=true∧i< n:=fun i q=>by have:=hA i q;simp only [Bool.and_eq_true] at this;exact ⟨this.1.1,this.1.2,this.2⟩
 have hB':∀ i,B i=true→V i=true∧X i=true∧i< n:=fun i q=>by have:=hB i q;simp only [Bool.and_eq_true] at this;exact ⟨this.1.1,this.1.2,this.2⟩
 have hAB:∀ i,i< n→A i=true→B i=true→False:=fun i hi a b=>h.dis i hi (hA' i a).2.1 (hA' i a).1 (hB' i b).1
 have sU:safe fun i=>A i||(U i&&!X i):=H.dn U _ h.u fun i _ q=>by
  simp only [Bool.or_eq_true,Bool.and_eq_true] at q
  rcases q with q|q
  ·exact (hA' i q).1
  ·exact q.1
 have sV:safe fun i=>B i||(V i&&!X i):=H.dn V _ h.v fun i _ q=>by
  simp only [Bool.or_eq_true,Bool.and_eq_true] at q
  rcases q with q|q
  ·exact (hB' i q).1
  ·exact q.1
 have zU:sz (fun i=>A i||(U i&&!X i)) n=j1+tu:=by
  rw [sz_union,hAz,htu]
  intro i _ a b
  simp only [Bool.and_eq_true,Bool.not_eq_true'] at b
  rw [(hA' i a).2.1] at b;cases b.2
 have zV:sz (fun i=>B i||(V i&&!X i)) n=j2+tv:=by
  rw [sz_union,hBz,htv]
  intro i _ a b
  simp only [Bool.and_eq_true,Bool.not_eq_true'] at b
  rw [(hB' i a).2.1] at b;cases b.2
 have pU:Pt n m safe (2*j1+2) nil (fun i=>A i||(U i&&!X i)):=by
  have:=grow_to (m:=m) H hX hm sU (by
   obtain ⟨y,hy,a,b⟩:=h.uo
   exact ⟨y,hy,by simp [a,b],b⟩)
  have e:sz (fun i=>(A i||(U i&&!X i))&&X i) n=j1:=by
   rw [← hAz]
   exact sz_congr fun i _=>by
    cases hx:X i with
    |false=>
     cases ha:A i with
     |false=>simp
     |true=>rw [(hA' i ha).2.1] at hx;cases hx
    |true=>simp
  rwa [e] at this
 have pV:Pt n m safe (2*j2+2) nil (fun i=>B i||(V i&&!X i)):=by
  have:=grow_to (m:=m) H hX hm sV (by
   obtain ⟨y,hy,a,b⟩:=h.vo
   exact ⟨y,hy,by simp [a,b],b⟩)
  have e:sz (fun i=>(B i||(V i&&!X i))&&X i) n=j2:=by
   rw [← hBz]
   exact sz_congr fun i _=>by
    cases hx:X i with
    |false=>
     cases ha:B i with
     |false=>simp
     |true=>rw [(hB' i ha).2.1] at hx;cases hx
    |true=>simp
  rwa [e] at this
 have z3:sz (fun i=>X i&&!(A i||B i)) n+j1+j2=m:=by
  have e1:=sz_split X (fun i=>A i||B i) n
  have e2:sz (fun i=>X i&&(A i||B i)) n=sz (fun i=>A i||B i) n:=sz_congr fun i _=>by
   cases ha:A i with
   |true=>simp [(hA' i ha).2.1]
   |false=>
    cases hb:B i with
    |true=>simp [(hB' i hb).2.1]
    |false=>simp
  rw [sz_union hAB,hAz,hBz] at e2
  omega
 obtain ⟨C,hC,hCz⟩:=sub_size (A:=fun i=>X i&&!(A i||B i)) (n:=n) (k:=min (sz (fun i=>X i&&!(A i||B i)) n) tu) (Nat.min_le_left _ _)
 have hC':∀ i,C i=true→X i=true∧A i=false∧B i=false:=fun i q=>by
  have:=(hC i q).1
  simp only [Bool.and_eq_true,Bool.not_eq_true',Bool.or_eq_false_iff] at this
  exact ⟨this.1,this.2.1,this.2.2⟩
 have zE:sz (fun i=>A i||C i) n=j1+sz C n:=by
  rw [sz_union,hAz]
  intro i _ a b
  rw [(hC' i b).2.1] at a;cases a
 have zO:sz (fun i=>X i&&!(A i||C i)) n+(j1+sz C n)=m:=by
  have e1:=sz_split X (fun i=>A i||C i) n
  have e2:sz (fun i=>X i&&(A i||C i)) n=sz (fun i=>A i||C i) n:=sz_congr fun i _=>by
   cases ha:A i with
   |true=>simp [(hA' i ha).2.1]
   |false=>
    cases hb:C i with
    |true=>simp [(hC' i hb).1]
    |false=>simp
  omega
 have sO:safe fun i=>X i&&!(A i||C i):=H.dn X _ hX fun i _ q=>by simp only [Bool.and_eq_true] at q;exact q.1
 have sE:safe fun i=>A i||C i:=H.dn X _ hX fun i _ q=>by
  simp only [Bool.or_eq_true] at q
  rcases q with q|q
  ·exact (hA' i q).2.1
  ·exact (hC' i q).1
 have a1:adj n m safe (fun i=>A i||(U i&&!X i)) (fun i=>X i&&!(A i||C i)):=by
  refine ⟨sU,sO,fun i _ a b=>?_,by omega⟩
  simp only [Bool.or_eq_true,Bool.and_eq_true,Bool.not_eq_true',Bool.or_eq_false_iff] at a b
  rcases a with a|a
  ·rw [a] at b;cases b.2.1
  ·rw [b.1] at a;cases a.2
 have a2:adj n m safe (fun i=>X i&&!(A i||C i)) (fun i=>A i||C i):=by
  refine ⟨sO,sE,fun i _ a b=>?_,by omega⟩
  simp only [Bool.and_eq_true,Bool.not_eq_true'] at a
  have b':(A i||C i)=true:=b
  rw [b'] at a;cases a.2
 have a3:adj n m safe (fun i=>A i||C i) (fun i=>B i||(V i&&!X i)):=by
  refine ⟨sE,sV,fun i hi a b=>?_,by omega⟩
  simp only [Bool.or_eq_true,Bool.and_eq_true,Bool.not_eq_true'] at a b
  rcases a with a|a
  ·rcases b with b|b
   ·exact hAB i hi a b
   ·rw [(hA' i a).2.1] at b;cases b.2
  ·rcases b with b|b
   ·rw [(hC' i a).2.2] at b;cases b
   ·rw [(hC' i a).1] at b;cases b.2
 have p1:Pt n m safe (2*j1+2+1+1+1) nil (fun i=>B i||(V i&&!X i)):=⟨_,⟨_,⟨_,pU,a1⟩,a2⟩,a3⟩
 have p2:=p1.trans H (pV.symm H)
 exact ⟨_,by omega,by omega,p2⟩
theorem str_of (H:Fam n safe) (hm1:1≤m) {L:Nat} (hL:L%2=1) (hp:Pt n m safe L nil nil):∃ X U V,Str n m safe X U V:=by
 refine Classical.byContradiction fun hno=>?_
 obtain ⟨k,rfl⟩:∃ k,L=k+1:=⟨L - 1,by omega⟩
 obtain ⟨Z,hZ⟩:∃ Z,adj n m safe Z nil:=by obtain ⟨Z,_,h⟩:=hp;exact ⟨Z,h⟩
 have hZm:m≤sz Z n:=by have:=hZ.2.2.2;rw [sz_none (A:=nil) fun _ _=>rfl] at this;omega
 obtain ⟨X,hXZ,hXm⟩:=sub_size hZm
 have hX:safe X:=H.dn Z X hZ.1 fun i _ h=>(hXZ i h).1
 have F2:∀ U V:SS,safe U→safe V→(∃ i,i< n∧U i=true∧X i=false)→(∃ i,i< n∧V i=true∧X i=false)→(∀ i,i< n→X i=true→U i=true→V i=true→False)→sz U n+sz V n< m:=by
  intro U V hU hV ho ho' hd
  by_cases c:m≤sz U n+sz V n
  ·exact absurd ⟨X,U,V,hX,hXm,hU,hV,ho,ho',hd,c⟩ hno
  ·omega
 have F1:∀ U:SS,safe U→(∃ i,i< n∧U i=true∧X i=false)→sz U n+1< m:=by
  intro U hU ho
  obtain ⟨y,hy,hUy,hXy⟩:=ho
  have:=F2 U (fun i=>i==y) hU (H.one y hy) ⟨y,hy,hUy,hXy⟩ ⟨y,hy,by simp,hXy⟩ fun i _ hx _ hv=>by
   simp only [beq_iff_eq] at hv
   subst hv
   rw [hXy] at hx
   cases hx
  rw [sz_one hy] at this
  exact this
 let W:SS→Prop:=fun P=>(∀ i,i< n→P i=X i)∨∃ U,safe U∧(∃ i,i< n∧U i=true∧X i=false)∧(∀ i,i< n→U i=true→P i=true→False)∧m≤sz P n+sz U n
 have Wext:∀ P Q:SS,(∀ i,i< n→P i=Q i)→W P→W Q:=by
  intro P Q e h
  rcases h with h|⟨U,h1,h2,h3,h4⟩
  ·exact .inl fun i hi=>(e i hi).symm.trans (h i hi)
  ·exact .inr ⟨U,h1,h2,fun i hi=>by rw [← e i hi];exact h3 i hi,by rw [← sz_congr e];exact h4⟩
 have out_or:∀ A:SS,(∃ i,i< n∧A i=true∧X i=false)∨∀ i,i< n→A i=true→X i=true:=by
  intro A
  by_cases c:∃ i,i< n∧A i=true∧X i=false
  ·exact .inl c
  ·refine .inr fun i hi ha=>?_
   cases hx:X i with
   |true=>rfl
   |false=>exact absurd ⟨i,hi,ha,hx⟩ c
 have fill:∀ A B:SS,(∀ i,i< n→A i=true→X i=true)→(∀ i,i< n→B i=true→X i=true)→adj n m safe A B→∀ i,i< n→(X i&&!A i)=B i:=by
  intro A B hA hB h
  have hsub:∀ i,i< n→B i=true→(X i&&!A i)=true:=fun i hi hb=>by
   have h1:=hB i hi hb
   have h2:A i=false:=by
    cases ha:A i with
    |false=>rfl
    |true=>exact absurd hb fun hb=>h.2.2.1 i hi ha hb
   simp [h1,h2]
  have e1:=sz_split X A n
  have e2:sz (fun i=>X i&&A i) n=sz A n:=sz_congr fun i hi=>by
   cases ha:A i with
   |false=>simp
   |true=>simp [hA i hi ha]
  have h3:=h.2.2.2
  exact fun i hi=>(sz_same hsub (by omega) i hi).symm
 have inv:∀ (k:Nat) (A:SS),Pt n m safe k nil A→(k%2=0→((∃ i,i< n∧A i=true∧X i=false)∧safe A)∨((∀ i,i< n→A i=true→X i=true)∧W fun i=>X i&&!A i))∧(k%2=1→(∀ i,i< n→A i=true→X i=true)∧W A):=by
  intro k
  induction k with
  |zero=>
   intro A hA
   have hA:∀ i,i< n→A i=false:=fun i hi=>(hA i hi).symm
   refine ⟨fun _=> .inr ⟨fun i hi h=>(by rw [hA i hi] at h;cases h), .inl fun i hi=>(by simp [hA i hi])⟩,fun h=>(by omega)⟩
  |succ k ih=>
   rintro B ⟨A,hp,ha⟩
   obtain ⟨i1,i2⟩:=ih A hp
   refine ⟨fun hk=>?_,fun hk=>?_⟩
   ·obtain ⟨hAX,hW⟩:=i2 (by omega)
    rcases out_or B with hB|hB
    ·exact .inl ⟨hB,ha.2.1⟩
    ·refine .inr ⟨hB,Wext A _ ?_ hW⟩
     exact fun i hi=>(fill B A hB hAX ha.symm i hi).symm
   ·rcases i1 (by omega) with ⟨hAo,hsA⟩|⟨hAX,hW⟩
    ·rcases out_or B with hB|hB
     ·have:=F2 A B ha.1 ha.2.1 hAo hB fun i hi _ a b=>ha.2.2.1 i hi a b
      have:=ha.2.2.2
      omega
     ·exact ⟨hB, .inr ⟨A,ha.1,hAo,fun i hi a b=>ha.2.2.1 i hi a b,by have:=ha.2.2.2;omega⟩⟩
    ·rcases out_or B with hB|hB
     ·exfalso
      have f1:=F1 B ha.2.1 hB
      have hab:=ha.2.2.2
      rcases hW with hW|⟨U,hU,hUo,hUd,hUm⟩
      ·
       have:sz A n=0:=sz_none fun i hi=>by
        cases hAi:A i with
        |false=>rfl
        |true=>
         have h1:=hW i hi
         have h2:=hAX i hi hAi
         have h1:(X i&&!A i)=X i:=h1
         rw [hAi,h2] at h1
         cases h1
       omega
      ·have e1:=sz_split X A n
       have e2:sz (fun i=>X i&&A i) n=sz A n:=sz_congr fun i hi=>by
        cases hAi:A i with
        |false=>simp
        |true=>simp [hAX i hi hAi]
       have:=F2 U B hU ha.2.1 hUo hB fun i hi hx hu hb=>by
        have h1:A i=true:=by
         cases hAi:A i with
         |true=>rfl
         |false=>exact absurd (show (X i&&!A i)=true by simp [hx,hAi]) (fun q=>hUd i hi hu q)
        exact ha.2.2.1 i hi h1 hb
       omega
     ·exact ⟨hB,Wext _ B (fill A B hAX hB ha) hW⟩
 obtain ⟨_,h2⟩:=inv (k+1) nil hp
 obtain ⟨_,hW⟩:=h2 hL
 rcases hW with hW|⟨U,hU,hUo,hUd,hUm⟩
 ·have:sz X n=0:=sz_none fun i hi=>(hW i hi).symm
  omega
 ·rw [sz_none (A:=nil) fun _ _=>rfl] at hUm
  have:=F1 U hU hUo
  omega
theorem cross_short (H:Fam n safe) (hm1:1≤m) {L:Nat} (hL:L%2=1) (hp:Pt n m safe L nil nil):∃ L',L'%2=1∧L'≤2*(m - 2)+7∧Pt n m safe L' nil nil:=by
 obtain ⟨X,U,V,h⟩:=str_of H hm1 hL hp
 exact h.short H hm1
end
def nT (F:Fe):Nat:=F.Qac.toNat
def mT (F:Fe):Nat:=(F.Qac - F.Qaf).toNat
abbrev bs (x:Int):SS:=fun i=>bit x i
def sf (F:Fe) (A:SS):Prop:=∀ r∈F.Qai,∃ i,i< nT F∧bit r i=true∧A i=false
section
variable {F:Fe}
theorem nT_le (h:OkF F):1≤nT F∧nT F≤8∧(nT F:Int)=F.Qac∧(mT F:Int)=F.Qac - F.Qaf∧mT F≤nT F:=by
 have h1:=h.t8
 have h2:=h.boat
 unfold T8 at h1
 unfold nT mT
 omega
theorem bit_all (h:OkF F) {i:Nat} (hi:i< 16):bit (allF F) i=decide (i< nT F):=by
 rw [all_bits h.t8 hi]
 have:=(nT_le h).2.2.1
 apply decide_eq_decide.2
 omega
theorem bit_in (h:OkF F) {x:Int} (h0:0≤x) (h1:x≤allF F) {i:Nat} (hi:i< 16) (hb:bit x i=true):i< nT F:=by
 have:=sub_all h h0 h1 i hi hb
 rw [bit_all h hi,decide_eq_true_eq] at this
 exact this
theorem sz_ext {A:SS} {n:Nat}:∀ k,(∀ i,n≤i→i< n+k→A i=false)→sz A (n+k)=sz A n
 |0,_=>rfl
 |k+1,h=>by
  have h1:=sz_ext (A:=A) (n:=n) k fun i a b=>h i a (by omega)
  have h2:=h (n+k) (by omega) (by omega)
  show sz A (n+k)+(if A (n+k)=true then 1 else 0)=sz A n
  rw [h1,h2]
  simp
theorem cnt_sz (h:OkF F) {x:Int} (h0:0≤x) (h1:x≤allF F):cnt x=(sz (bs x) (nT F):Int):=by
 have hall:=all_range h.t8
 have e8:sz (bs x) 8=sz (bs x) (nT F):=by
  obtain ⟨k,hk⟩:∃ k,8=nT F+k:=⟨8 - nT F,by have:=(nT_le h).2.1;omega⟩
  rw [hk]
  refine sz_ext k fun i a b=>?_
  cases hb:bs x i with
  |false=>rfl
  |true=>have:=bit_in h h0 h1 (i:=i) (by omega) hb;omega
 rw [← e8,cnt_bits ⟨h0,by omega⟩]
 have hbc:∀ b:Bool,bc b=((if b=true then 1 else 0:Nat):Int):=by decide
 simp only [hbc,sz,bs]
 omega
theorem sz_full:∀ n:Nat,sz (fun _=>true) n=n
 |0=>rfl
 |n+1=>by simp [sz,sz_full n]
theorem sz_three {A B C:SS} {n:Nat} (h:∀ i,i< n→(A i||B i)=!C i) (hd:∀ i,i< n→A i=true→B i=true→False):n=sz C n+(sz A n+sz B n):=by
 have h1:=sz_split (fun _=>true) C n
 rw [sz_full,show sz (fun i=>true&&C i) n=sz C n from sz_congr fun i _=>Bool.true_and _,
  show sz (fun i=>true&&!C i) n=sz (fun i=>A i||B i) n from sz_congr fun i hi=>by rw [h i hi,Bool.true_and],sz_union hd] at h1
 exact h1
theorem rule_in (hF:InF F) (h:OkF F) {r:Int} (hr:r∈F.Qai):0≤r∧r≤allF F∧2≤cnt r:=by
 have hall:=all_range h.t8
 have hb:=h.rules
 rw [List.any_eq_false] at hb
 have:=hb r hr
 unfold bad at this
 simp only [Bool.or_eq_true,Bool.not_eq_true',decide_eq_true_eq,not_or,Bool.not_eq_false] at this
 have hz:=eq_of_beq this.1
 exact ⟨(hF.2.2 r hr).1,andNot_le (hF.2.2 r hr) ⟨by omega,by omega⟩ hz,by omega⟩
theorem safe_sf (hF:InF F) (h:OkF F) (x:Int):safe F.Qai x=true↔sf F (bs x):=by
 rw [safe_iff hF.2.2]
 constructor
 ·intro q r hr
  refine Classical.byContradiction fun hno=>q r hr fun i hi hb=>?_
  obtain ⟨r0,r1,_⟩:=rule_in hF h hr
  have hn:=bit_in h r0 r1 hi hb
  cases hx:bit x i with
  |true=>rfl
  |false=>exact absurd ⟨i,hn,hb,hx⟩ hno
 ·intro q r hr hc
  obtain ⟨i,hi,h1,h2⟩:=q r hr
  have:=hc i (by have:=(nT_le h).2.1;omega) h1
  rw [show bit x i=false from h2] at this
  cases this
theorem fam (hF:InF F) (h:OkF F):Fam (nT F) (sf F) where
 dn:=fun A B hA hBA r hr=>by
  obtain ⟨i,hi,h1,h2⟩:=hA r hr
  refine ⟨i,hi,h1,?_⟩
  cases hb:B i with
  |false=>rfl
  |true=>have:=hBA i hi hb;rw [h2] at this;cases this
 one:=fun j hj r hr=>by
  obtain ⟨r0,r1,r2⟩:=rule_in hF h hr
  rw [cnt_sz h r0 r1] at r2
  refine Classical.byContradiction fun hno=>?_
  have:sz (bs r) (nT F)≤sz (fun i=>i==j) (nT F):=sz_mono fun i hi hb=>by
   by_cases c:i=j
   ·simp [c]
   ·exact absurd ⟨i,hi,hb,by simpa using c⟩ hno
  rw [sz_one hj] at this
  omega
theorem alone_bit (h:OkF F) (b:Bk) {i:Nat} (hi:i< nT F):bit (alone F b) i=(bit b.Qam i==b.QaN):=by
 have h8:=(nT_le h).2.1
 unfold alone
 cases b.QaN
 ·rw [if_neg (by decide),bit_andNot _ _ (by omega),bit_all h (by omega),decide_eq_true hi]
  cases bit b.Qam i<;>rfl
 ·rw [if_pos rfl]
  cases bit b.Qam i<;>rfl
theorem here_bit (h:OkF F) (b:Bk) {i:Nat} (hi:i< nT F):bit (here F b) i=!bit (alone F b) i:=by
 have h8:=(nT_le h).2.1
 rw [alone_bit h b hi]
 unfold here
 cases b.QaN
 ·rw [if_neg (by decide)]
  cases bit b.Qam i<;>rfl
 ·rw [if_pos rfl,bit_andNot _ _ (by omega),bit_all h (by omega),decide_eq_true hi]
  cases bit b.Qam i<;>rfl
theorem cross_bit (h:OkF F) (b:Bk) (l:Int) {i:Nat} (hi:i< nT F) (hl:bit l i=true→bit (alone F b) i=false):bit (alone F (crossedB b l)) i=(!bit (alone F b) i&&!bit l i):=by
 rw [alone_bit h _ hi]
 rw [alone_bit h _ hi] at hl ⊢
 show (bit (bXor .u16 b.Qam l) i==!b.QaN)=_
 rw [bit_xor]
 revert hl
 cases bit b.Qam i<;>cases bit l i<;>cases b.QaN<;>decide
theorem adj_load (hF:InF F) (h:OkF F) {b:Bk} {l:Int} (hs:sf F (bs (alone F b))) (hl:l∈loadsF F b):adj (nT F) (mT F) (sf F) (bs (alone F b)) (bs (alone F (crossedB b l))):=by
 obtain ⟨hc,l0,l1⟩:=of_loads h hl
 obtain ⟨c1,c2,c3⟩:=code_zero.1 hc
 have hall:=all_range h.t8
 have hn:=nT_le h
 have hsub:=(sub_iff (x:=l) (y:=here F b) ⟨l0,by omega⟩).1 c1
 have hla:∀ i,i< nT F→bit l i=true→bit (alone F b) i=false:=fun i hi hb=>by
  have:=hsub i (by omega) hb
  rw [here_bit h b hi] at this
  simpa using this
 have hb':∀ i,i< nT F→bit (alone F (crossedB b l)) i=(!bit (alone F b) i&&!bit l i):=fun i hi=>cross_bit h b l hi (hla i hi)
 refine ⟨hs,?_,fun i hi a c=>?_,?_⟩
 ·rw [← safe_sf hF h]
  unfold bankF at c3
  rw [Bool.and_eq_true] at c3
  exact c3.2
 ·have c:bit (alone F (crossedB b l)) i=true:=c
  have a:bit (alone F b) i=true:=a
  rw [hb' i hi,a] at c
  cases c
 ·have h3:=sz_three (A:=bs (alone F b)) (B:=bs (alone F (crossedB b l))) (C:=bs l) (n:=nT F) (fun i hi=>by
   have q:=hla i hi
   show (bit (alone F b) i||bit (alone F (crossedB b l)) i)=!bit l i
   rw [hb' i hi]
   revert q
   cases bit (alone F b) i<;>cases bit l i<;>decide) (fun i hi a c=>by
   have c:bit (alone F (crossedB b l)) i=true:=c
   have a:bit (alone F b) i=true:=a
   rw [hb' i hi,a] at c
   cases c)
  rw [cnt_sz h l0 l1] at c2
  omega
theorem bank_eq (h:OkF F) {b c:Bk} (hb:nearOk F b) (hc:nearOk F c) (hf:b.QaN=c.QaN) (he:∀ i,i< nT F→bit (alone F b) i=bit (alone F c) i):b=c:=by
 have hall:=all_range h.t8
 unfold nearOk at hb hc
 have hn:b.Qam=c.Qam:=by
  refine bit_ext ⟨hb.1,by omega⟩ ⟨hc.1,by omega⟩ fun i hi=>?_
  by_cases q:i< nT F
  ·have:=he i q
   rw [alone_bit h b q,alone_bit h c q,hf] at this
   revert this
   cases bit b.Qam i<;>cases bit c.Qam i<;>cases c.QaN<;>decide
  ·cases h1:bit b.Qam i with
   |true=>exact absurd (bit_in h hb.1 hb.2 hi h1) q
   |false=>
    cases h2:bit c.Qam i with
    |true=>exact absurd (bit_in h hc.1 hc.2 hi h2) q
    |false=>rfl
 cases b
 cases c
 simp only at hf hn
 rw [hf,hn]
theorem start_bits (h:OkF F) {i:Nat} (hi:i< nT F):bit (alone F ⟨allF F,false⟩) i=false:=by
 have:=(nT_le h).2.1
 rw [alone_bit h _ hi,bit_all h (by omega),decide_eq_true hi]
 rfl
theorem end_bits (h:OkF F) {i:Nat} (hi:i< nT F):bit (alone F endB) i=false:=by
 rw [alone_bit h _ hi]
 show (bit 0 i==true)=false
 rw [bit_zero]
 rfl
def ofS (A:SS):Nat→Int
 |0=>0
 |n+1=>if A n=true then bXor .u16 (ofS A n) (pw n) else ofS A n
theorem ofS_bit (A:SS):∀ n,n≤8→∀ i,i< 16→bit (ofS A n) i=(decide (i< n)&&A i)
 |0,_,i,hi=>by show bit 0 i=_;rw [bit_zero];simp
 |n+1,hn,i,hi=>by
  have ih:=ofS_bit A n (by omega) i hi
  have hp:=(pw_tab n (by omega)).2.2 i hi
  show bit (if A n=true then bXor .u16 (ofS A n) (pw n) else ofS A n) i=_
  by_cases e:i=n
  ·subst e
   by_cases c:A i=true
   ·rw [if_pos c,bit_xor,ih,hp,c];simp
   ·rw [if_neg c,ih];simp [c]
  ·have e1:decide (i< n+1)=decide (i< n):=decide_eq_decide.2 (by omega)
   have e2:decide (n=i)=false:=decide_eq_false (by omega)
   rw [e1]
   by_cases c:A n=true
   ·rw [if_pos c,bit_xor,ih,hp,e2];simp
   ·rw [if_neg c,ih]
theorem ofS_range (A:SS):∀ n,0≤ofS A n∧ofS A n≤65535
 |0=>⟨Int.le_refl _,by show (0:Int)≤65535;decide⟩
 |n+1=>by
  show 0≤(if A n=true then bXor .u16 (ofS A n) (pw n) else ofS A n)∧(if A n=true then bXor .u16 (ofS A n) (pw n) else ofS A n)≤65535
  split
  ·exact bXor_range _ _
  ·exact ofS_range A n
theorem ofS_all (h:OkF F) (A:SS):0≤ofS A (nT F)∧ofS A (nT F)≤allF F:=by
 have hr:=ofS_range A (nT F)
 have hall:=all_range h.t8
 refine ⟨hr.1,andNot_le hr ⟨by omega,by omega⟩ ((sub_iff hr).2 fun i hi hb=>?_)⟩
 rw [ofS_bit A _ (nT_le h).2.1 i hi,Bool.and_eq_true] at hb
 rw [bit_all h hi]
 exact hb.1
section
variable {N:Nat} {tb:List Int} {out:List Cr}
theorem nil_safe (hF:InF F) (h:OkF F):sf F nil:=safe_nil (fam hF h) ((fam hF h).one 0 (by have:=(nT_le h).1;omega))
theorem pt_to (hF:InF F) (A:All F N tb out):∀ n p,p≤n→p< out.length→∃ k:Nat,(at_ out p).QaA=(k:Int)∧Pt (nT F) (mT F) (sf F) k nil (bs (alone F (at_ out p).Qak))∧sf F (bs (alone F (at_ out p).Qak))∧(at_ out p).Qak.QaN=decide (k%2=1):=by
 have h:=A.ok
 have H:=fam hF h
 obtain ⟨met,S⟩:=A.sr
 have h0:∃ k:Nat,(at_ out 0).QaA=(k:Int)∧Pt (nT F) (mT F) (sf F) k nil (bs (alone F (at_ out 0).Qak))∧sf F (bs (alone F (at_ out 0).Qak))∧(at_ out 0).Qak.QaN=decide (k%2=1):=by
  rw [S.hd.2]
  refine ⟨0,rfl,fun i hi=>(start_bits h hi).symm,?_,rfl⟩
  exact H.dn nil _ (nil_safe hF h) fun i hi hb=>by
   have:=start_bits h hi
   rw [show bit (alone F ⟨allF F,false⟩) i=true from hb] at this
   cases this
 intro n
 induction n with
 |zero=>
  intro p hp _
  obtain rfl:p=0:=by omega
  exact h0
 |succ n ih=>
  intro p hp hl
  by_cases c:p=0
  ·subst c;exact h0
  ·obtain ⟨q,q1,q2,q3,q4,q5⟩:=S.src p (by omega) hl
   obtain ⟨k,k1,k2,k3,k4⟩:=ih q (by omega) (by omega)
   have ha:=adj_load hF h k3 q3
   rw [← q4] at ha
   refine ⟨k+1,by rw [q5,k1];omega,⟨_,k2,ha⟩,ha.2.1,?_⟩
   rw [q4]
   show (!(at_ out q).Qak.QaN)=_
   rw [k4]
   rcases Nat.mod_two_eq_zero_or_one k with c0|c0
   ·have c1:(k+1)%2=1:=by omega
    simp [c0,c1]
   ·have c1:(k+1)%2=0:=by omega
    simp [c0,c1]
theorem pt_from (hF:InF F) (A:All F N tb out):∀ (k:Nat) (C:SS),Pt (nT F) (mT F) (sf F) k nil C→∃ p,p< out.length∧(∀ i,i< nT F→bit (alone F (at_ out p).Qak) i=C i)∧(at_ out p).Qak.QaN=decide (k%2=1)∧(at_ out p).QaA≤k:=by
 have h:=A.ok
 have H:=fam hF h
 have hall:=all_range h.t8
 have hn:=nT_le h
 obtain ⟨met,S⟩:=A.sr
 intro k
 induction k with
 |zero=>
  intro C hC
  refine ⟨0,S.hd.1,fun i hi=>?_,by rw [S.hd.2];rfl,by rw [S.hd.2];exact Int.le_refl _⟩
  rw [S.hd.2]
  exact (start_bits h hi).trans (hC i hi)
 |succ k ih=>
  rintro C ⟨B,h1,h2⟩
  obtain ⟨p,p1,p2,p3,p4⟩:=ih B h1
  have hnear:=A.near p1
  generalize hb:(at_ out p).Qak=b at p2 p3 hnear
  have hlr:=ofS_all h (fun i=>!B i&&!C i)
  have hlb:=ofS_bit (fun i=>!B i&&!C i) (nT F) hn.2.1
  generalize hl:ofS (fun i=>!B i&&!C i) (nT F)=l at hlr hlb
  have hlb':∀ i,i< nT F→bit l i=(!B i&&!C i):=fun i hi=>by rw [hlb i (by omega),decide_eq_true hi,Bool.true_and]
  have hcb:∀ i,i< nT F→bit (alone F (crossedB b l)) i=C i:=fun i hi=>by
   have hd:=h2.2.2.1 i hi
   rw [cross_bit h b l hi (fun q=>by rw [hlb' i hi] at q;rw [p2 i hi];revert q;cases B i<;>cases C i<;>decide),p2 i hi,hlb' i hi]
   cases hB:B i<;>cases hC:C i<;>first|rfl|exact (hd hB hC).elim
  have hnb:∀ i,i< 16→bit (bXor .u16 b.Qam l) i=true→bit (allF F) i=true:=fun i hi q=>by
   rw [bit_xor] at q
   cases h3:bit b.Qam i with
   |true=>exact sub_all h hnear.1 hnear.2 i hi h3
   |false=>
    rw [h3] at q
    exact sub_all h hlr.1 hlr.2 i hi (by revert q;cases bit l i<;>decide)
  have hx:=xor_range b.Qam l
  have hsub:bAndNot .u16 (bXor .u16 b.Qam l) (allF F)=0:=(sub_iff hx).2 hnb
  have hmem:l∈loadsF F b:=by
   refine mem_loads h hlr.1 hlr.2 (code_zero.2 ⟨(sub_iff ⟨hlr.1,by omega⟩).2 fun i hi q=>?_,?_,?_⟩)
   ·have hi':=bit_in h hlr.1 hlr.2 hi q
    rw [here_bit h b hi',p2 i hi']
    rw [hlb' i hi'] at q
    revert q
    cases B i<;>cases C i<;>decide
   ·have h3:=sz_three (A:=B) (B:=C) (C:=bs l) (n:=nT F) (fun i hi=>by
     show _=!bit l i
     rw [hlb' i hi]
     cases B i<;>cases C i<;>decide) h2.2.2.1
    have:=h2.2.2.2
    rw [cnt_sz h hlr.1 hlr.2]
    omega
   ·unfold bankF
    rw [Bool.and_eq_true]
    refine ⟨by rw [show (crossedB b l).Qam=bXor .u16 b.Qam l from rfl,hsub];rfl,(safe_sf hF h _).2 (H.dn C _ h2.2.1 fun i hi q=>?_)⟩
    rw [← hcb i hi];exact q
  obtain ⟨q,q1,q2,q3⟩:=A.cl p p1 l (by rw [hb];exact hmem)
  rw [hb] at q2
  refine ⟨q,q1,by rw [q2];exact hcb,?_,by omega⟩
  rw [q2]
  show (!b.QaN)=_
  rw [p3]
  rcases Nat.mod_two_eq_zero_or_one k with c0|c0
  ·have c1:(k+1)%2=1:=by omega
   simp [c0,c1]
  ·have c1:(k+1)%2=0:=by omega
   simp [c0,c1]
theorem end_many (hF:InF F) (A:All F N tb out) {p:Nat} (hp:p< out.length) (he:(at_ out p).Qak=endB):∃ k:Nat,(at_ out p).QaA=(k:Int)∧k≤if mT F=0 then 1 else 2*(mT F - 2)+7:=by
 have h:=A.ok
 have H:=fam hF h
 obtain ⟨k,k1,k2,k3,k4⟩:=pt_to hF A p p (Nat.le_refl _) hp
 rw [he] at k2 k4
 have hodd:k%2=1:=by
  have:true=decide (k%2=1):=k4
  exact of_decide_eq_true this.symm
 have hk:Pt (nT F) (mT F) (sf F) k nil nil:=k2.ext H fun i hi=>end_bits h hi
 have back:∀ L:Nat,L%2=1→Pt (nT F) (mT F) (sf F) L nil nil→k≤L:=by
  intro L hL hP
  obtain ⟨q,q1,q2,q3,q4⟩:=pt_from hF A L nil hP
  have:(at_ out q).Qak=endB:=by
   refine bank_eq h (A.near q1) (end_near h.t8) ?_ fun i hi=>by rw [q2 i hi,end_bits h hi]
   rw [q3,decide_eq_true hL]
   rfl
  obtain rfl:=A.inj q1 hp (this.trans he.symm)
  omega
 refine ⟨k,k1,?_⟩
 by_cases c:mT F=0
 ·rw [if_pos c]
  refine back 1 rfl ⟨nil,fun _ _=>rfl,nil_safe hF h,nil_safe hF h,fun i _ a=>(by cases a),?_⟩
  rw [c]
  exact Nat.zero_le _
 ·rw [if_neg c]
  obtain ⟨L,l1,l2,l3⟩:=cross_short H (by omega) hodd hk
  exact Nat.le_trans (back L l1 l3) l2
end
end
def Sg:Nat→(Nat→Nat)→Nat
 |0,g=>g 0
 |d+1,g=>Sg d g+Sg d (fun a=>g (a+1))
theorem Sg_mono (g:Nat→Nat) (d:Nat):∀ k,Sg d g≤Sg (d+k) g
 |0=>Nat.le_refl _
 |k+1=>Nat.le_trans (Sg_mono g d k) (Nat.le_add_right _ _)
theorem sum_split {α:Type} (p:α→Bool) (f:α→Nat):∀ l:List α,(l.map f).sum=((l.filter p).map f).sum+((l.filter fun x=>!p x).map f).sum
 |[]=>rfl
 |x::l=>by
  have:=sum_split p f l
  cases h:p x<;>simp [List.filter_cons,h]<;>omega
theorem sum_le {α:Type} {f g:α→Nat}:∀ {l:List α},(∀ x∈l,f x≤g x)→(l.map f).sum≤(l.map g).sum
 |[],_=>Nat.le_refl _
 |x::l,h=>by
  have h1:=sum_le (l:=l) fun y hy=>h y (List.mem_cons_of_mem _ hy)
  have h2:=h x List.mem_cons_self
  simp only [List.map_cons,List.sum_cons]
  omega
theorem count:∀ (n:Nat) (L:List SS) (D:SS) (g:Nat→Nat),L.Pairwise (fun A B=>∃ i,i< n∧A i≠B i)→(∀ A∈L,∀ i,i< n→A i=true→D i=true)→(L.map fun A=>g (sz A n)).sum≤Sg (sz D n) g
 |0,L,D,g,hp,_=>by
  match L,hp with
  |[],_=>exact Nat.zero_le _
  |[A],_=>exact Nat.le_of_eq (by simp [sz,Sg])
  |A::B::L,hp=>
   obtain ⟨i,hi,_⟩:=(List.pairwise_cons.1 hp).1 B List.mem_cons_self
   exact absurd hi (Nat.not_lt_zero _)
 |n+1,L,D,g,hp,hs=>by
  have key:∀ (v:Bool) (g':Nat→Nat),((L.filter fun A=>A n==v).map fun A=>g' (sz A n)).sum≤Sg (sz D n) g':=by
   intro v g'
   refine count n _ D g' ?_ fun A hA i hi=>hs A (List.mem_filter.1 hA).1 i (by omega)
   refine (hp.filter _).imp_of_mem fun {A B} hA hB q=>?_
   obtain ⟨i,hi,he⟩:=q
   have a:=eq_of_beq (List.mem_filter.1 hA).2
   have b:=eq_of_beq (List.mem_filter.1 hB).2
   by_cases c:i=n
   ·subst c;rw [a,b] at he;exact absurd rfl he
   ·exact ⟨i,by omega,he⟩
  rw [sum_split (fun A=>A n==true)]
  have e0:(L.filter fun A=>!(A n==true))=L.filter fun A=>A n==false:=List.filter_congr fun A _=>by cases A n<;>rfl
  rw [e0]
  have m1:((L.filter fun A=>A n==true).map fun A=>g (sz A (n+1))).sum=((L.filter fun A=>A n==true).map fun A=>g (sz A n+1)).sum:=by
   congr 1
   refine List.map_congr_left fun A hA=>?_
   have a:=eq_of_beq (List.mem_filter.1 hA).2
   simp only [sz,a,if_true]
  have m0:((L.filter fun A=>A n==false).map fun A=>g (sz A (n+1))).sum=((L.filter fun A=>A n==false).map fun A=>g (sz A n)).sum:=by
   congr 1
   refine List.map_congr_left fun A hA=>?_
   have a:=eq_of_beq (List.mem_filter.1 hA).2
   simp only [sz,a,Bool.false_eq_true,if_false,Nat.add_zero]
  rw [m1,m0]
  have k0:=key false g
  have k1:=key true fun a=>g (a+1)
  by_cases c:D n=true
  ·have:Sg (sz D (n+1)) g=Sg (sz D n) g+Sg (sz D n) (fun a=>g (a+1)):=by simp only [sz,if_pos c];rfl
   omega
  ·have hnil:(L.filter fun A=>A n==true)=[]:=by
    rw [List.filter_eq_nil_iff]
    intro A hA q
    exact c (hs A hA n (by omega) (eq_of_beq q))
   have:Sg (sz D (n+1)) g=Sg (sz D n) g:=by simp only [sz,if_neg c,Nat.add_zero]
   rw [hnil]
   simp only [List.map_nil,List.sum_nil]
   omega
def stp (m:Nat) (row:List Nat):List Nat:=(List.range 9).map fun b=>Sg (8 - b) fun a=>if m≤a+b then row.getD a 0 else 0
def Gl (m:Nat):Nat→List Nat
 |0=>[1]
 |k+1=>stp m (Gl m k)
theorem stp_get {m:Nat} {row:List Nat} {b:Nat} (hb:b< 9):(stp m row).getD b 0=Sg (8 - b) fun a=>if m≤a+b then row.getD a 0 else 0:=by
 unfold stp
 rw [List.getD_eq_getElem?_getD,List.getElem?_map,List.getElem?_range hb]
 rfl
def most (m:Nat):Nat:=if m=0 then 1 else 2*(m - 2)+7
def rows:List (List (List Nat)):=[[[1],[1,1,1,1,1,1,1,1,1]],
 [[1],[0,1,1,1,1,1,1,1,1],[255,127,63,31,15,7,3,1,0],[6050,4246,2852,1912,1280,856,572,382,255],[377759,229746,137454,82176,49074,29256,17394,10296,6050],[15937502,10212695,6390605,3997415,2499245,1561535,974705,607505,377759],[779416389,489234847,300853637,184938937,113620817,69744817,42753497,26150197,15937502],[35975765020,22761643918,14091943420,8721365266,5394854164,3334620778,2058739720,1268651236,779416389]],
 [[1],[0,0,1,1,1,1,1,1,1],[247,120,57,26,11,4,1,0,0],[4074,3423,2532,1736,1184,804,544,367,247],[314431,200392,120440,70593,41086,23675,13452,7497,4074],[11968054,8439585,5507035,3455826,2162097,1347520,835655,514823,314431],[602362501,406014463,255679839,155952594,94754005,57263740,34354259,20407639,11968054],[26869078964,18449534817,11791945518,7279792911,4479063768,2743398001,1670071266,1008376964,602362501]],
 [[1],[0,0,0,1,1,1,1,1,1],[219,99,42,16,5,1,0,0,0],[1302,1638,1625,1320,936,658,459,318,219],[191903,130434,79050,44280,23820,12411,6203,2940,1302],[5040602,4350542,3291923,2208884,1388879,864635,531821,322337,191903],[287000181,217254507,146212593,89610412,52418723,30176881,17033609,9391144,5040602],[10934509824,8803825086,6273299917,4023773262,2444154138,1467011893,867721788,504254688,287000181],[507192006089,395502314214,273730019727,171612149627,102328856856,60189658095,34815459913,19738334910,10934509824],[21287595279020,16863695015468,11842093435052,7509959213074,4520358836671,2686501157539,1571926654244,902694320303,507192006089]],
 [[1],[0,0,0,0,1,1,1,1,1],[163,64,22,6,1,0,0,0,0],[70,245,465,605,576,427,313,227,163],[74975,52720,30590,15232,6836,2805,1025,315,70],[666890,838775,883885,758805,537159,340137,211005,127695,74975],[63653477,54106347,38743587,23646707,12897679,6593675,3228325,1505665,666890],[1375188640,1441624625,1290343505,965516745,620024894,365849986,210609758,117759824,63653477],[70792147089,64768835201,50371570559,33232700081,19365840044,10536609775,5548781395,2816813265,1375188640],[2124934524300,2103875992680,1779483600710,1267252692400,784393551615,449446064450,250701388050,135560982290,70792147089],[88251447093059,83136456592615,66750588907625,45358156717025,27070744420495,15042265996870,8112170110370,4228810516980,2124934524300],[3000415187009870,2911913127037040,2412848900353890,1687165727308920,1029804178197864,583270740310804,321274949185914,171387903685674,88251447093059]],
 [[1],[0,0,0,0,0,1,1,1,1],[93,29,7,1,0,0,0,0,0],[0,0,20,80,162,202,158,122,93],[16805,11140,5400,2012,602,140,20,0,0],[8400,24150,50130,77270,85610,68437,44485,27945,16805],[5318417,4772867,3284657,1770487,792070,308510,106830,32550,8400],[20536600,34981520,49248680,54820300,46673428,31261476,18148808,10091284,5318417],[2344857969,2427193916,2002225084,1305318416,701372788,328047500,139748320,55518120,20536600],[22748294520,32470801440,38734993460,36910346440,27644772620,16938433385,9201470885,4772051885,2344857969],[1246714727389,1392456490865,1263710589295,911615695485,537579324900,273276025660,126424890860,55219095960,22748294520],[19307855443240,25494266242340,28062084828020,24714435497960,17336131606070,10126831663354,5295338298414,2639171218254,1246714727389],[737732129976837,859134610450036,820387012328788,624572692953504,386543447535390,204691344152280,98358472755940,44802121685580,19307855443240],[14594477338621880,18560850321913690,19616112109770550,16587005634652150,11243694735122278,6400869691266813,3276388363205697,1596866740426873,737732129976837]],
 [[1],[0,0,0,0,0,0,1,1,1],[37,8,1,0,0,0,0,0,0],[0,0,0,0,6,27,54,45,37],[1909,990,306,57,6,0,0,0,0],[0,0,90,600,2070,3945,4195,2899,1909],[142561,115109,58915,20295,5010,870,90,0,0],[2520,18900,80460,228870,439680,542367,431694,257670,142561],[14291353,14669235,10281096,5029467,1837920,526950,120780,21420,2520],[3555720,11932830,30851280,60011220,83642364,79880460,53910919,28960588,14291353],[1755481789,2083826681,1787829139,1098204480,508794924,188363550,58272660,15488550,3555720],[1759098600,4379031720,8820377820,13714382970,15628587678,12713171940,7710964290,3839308470,1755481789],[248376949669,324792669240,318418811100,227999940030,123408386478,53312611590,19337539860,6138130320,1759098600],[592315257240,1261065752730,2190339006570,2950353944280,2945921013198,2157634381050,1216381099249,573169618909,248376949669],[38892404679913,54398159315702,58351002583519,46390778889840,27889370829738,13304568222180,5304785769270,1853381009970,592315257240],[163953364876560,318382814060640,503472757548420,616659211269270,563558501890212,384638264587503,206039725894836,93290563995615,38892404679913]],
 [[1],[0,0,0,0,0,0,0,1,1],[9,1,0,0,0,0,0,0,0],[0,0,0,0,0,0,2,10,9],[89,24,2,0,0,0,0,0,0],[0,0,0,0,0,6,50,113,89],[993,463,86,6,0,0,0,0,0],[0,0,0,0,24,264,1012,1456,993],[12641,8540,2596,384,24,0,0,0,0],[0,0,0,120,1560,8172,19676,21181,12641],[182089,158913,68708,15972,2040,120,0,0,0],[0,0,720,10320,65928,222096,386534,341002,182089],[2910105,3046740,1719110,551736,107208,12480,720,0,0],[0,5040,75600,548520,2314152,5709066,7812590,5956845,2910105],[50564865,60644975,42066986,17279826,4508232,775320,85680,5040,0],[40320,604800,4737600,23316480,73627536,143480784,163356936,111209840,50564865],[940243585,1254708392,1024241640,511618464,166893456,37529280,5947200,645120,40320],[5201280,42275520,231122880,871996560,2213367312,3584343384,3533658424,2194951977,940243585]],
 [[1],[0,0,0,0,0,0,0,0,1],[1,0,0,0,0,0,0,0,0],[0,0,0,0,0,0,0,0,1],[1,0,0,0,0,0,0,0,0],[0,0,0,0,0,0,0,0,1],[1,0,0,0,0,0,0,0,0],[0,0,0,0,0,0,0,0,1],[1,0,0,0,0,0,0,0,0],[0,0,0,0,0,0,0,0,1],[1,0,0,0,0,0,0,0,0],[0,0,0,0,0,0,0,0,1],[1,0,0,0,0,0,0,0,0],[0,0,0,0,0,0,0,0,1],[1,0,0,0,0,0,0,0,0],[0,0,0,0,0,0,0,0,1],[1,0,0,0,0,0,0,0,0],[0,0,0,0,0,0,0,0,1],[1,0,0,0,0,0,0,0,0],[0,0,0,0,0,0,0,0,1]]]
def rowAt (m k:Nat):List Nat:=(rows.getD m []).getD k []
theorem rows_step:∀ m:Nat,m< 9→∀ k:Nat,k< most m→stp m (rowAt m k)=rowAt m (k+1):=by decide+kernel
theorem rows_first:∀ m:Nat,m< 9→rowAt m 0=[1]:=by decide
theorem rows_small:∀ m:Nat,m< 9→∀ k:Nat,k< most m+1→(rowAt m k).getD 0 0< 4611686018427387904:=by decide+kernel
theorem Gl_row {m:Nat} (hm:m< 9):∀ k,k≤most m→Gl m k=rowAt m k
 |0,_=>(rows_first m hm).symm
 |k+1,h=>by
  show stp m (Gl m k)=_
  rw [Gl_row hm k (by omega),rows_step m hm k (by omega)]
theorem Gl_small {m k:Nat} (hm:m< 9) (hk:k≤most m):(Gl m k).getD 0 0< 4611686018427387904:=by
 rw [Gl_row hm k hk]
 exact rows_small m hm k (by omega)
theorem part_sum (e:Nat→Nat→Bool) (W:Nat→Nat) (p:Nat):∀ i,part e W p i=(((List.range i).filter fun q=>e q p).map W).sum
 |0=>rfl
 |i+1=>by
  rw [List.range_succ,List.filter_append,List.map_append,List.sum_append,← part_sum e W p i]
  simp only [part]
  cases h:e i p<;>simp [List.filter_cons,h]
section
variable {F:Fe} {N:Nat} {tb:List Int} {out:List Cr}
theorem Wt_G (hF:InF F) (A:All F N tb out):∀ n p,p≤n→p< out.length→∀ k:Nat,(at_ out p).QaA=(k:Int)→Wt (edge F out) p≤(Gl (mT F) k).getD (sz (bs (alone F (at_ out p).Qak)) (nT F)) 0:=by
 have h:=A.ok
 have hn:=nT_le h
 obtain ⟨met,S⟩:=A.sr
 have h0:∀ k:Nat,(at_ out 0).QaA=(k:Int)→Wt (edge F out) 0≤(Gl (mT F) k).getD (sz (bs (alone F (at_ out 0).Qak)) (nT F)) 0:=by
  intro k hk
  rw [S.hd.2] at hk ⊢
  have:(0:Int)=k:=hk
  obtain rfl:k=0:=by omega
  have e:sz (bs (alone F (c0F F).Qak)) (nT F)=0:=sz_none fun i hi=>start_bits h hi
  rw [e]
  exact Nat.le_refl 1
 intro n
 induction n with
 |zero=>
  intro p hp _
  obtain rfl:p=0:=by omega
  exact h0
 |succ n ih=>
  intro p hp hl k hk
  cases p with
  |zero=>exact h0 k hk
  |succ p=>
   obtain ⟨q0,q1,q2,q3,q4,q5⟩:=S.src (p+1) (by omega) hl
   have hq0:=A.le (show q0< out.length by omega)
   obtain ⟨k',rfl⟩:∃ k',k=k'+1:=⟨k - 1,by omega⟩
   rw [Wt_succ,part_sum]
   generalize ha':sz (bs (alone F (at_ out (p+1)).Qak)) (nT F)=a'
   have ha8:a'+sz (fun i=>!bit (alone F (at_ out (p+1)).Qak) i) (nT F)=nT F:=by
    have h1:=sz_split (fun _=>true) (bs (alone F (at_ out (p+1)).Qak)) (nT F)
    rw [sz_full] at h1
    have e1:sz (fun i=>true&&bs (alone F (at_ out (p+1)).Qak) i) (nT F)=a':=by rw [← ha'];exact sz_congr fun i _=>Bool.true_and _
    have e2:sz (fun i=>true&&!bs (alone F (at_ out (p+1)).Qak) i) (nT F)=sz (fun i=>!bit (alone F (at_ out (p+1)).Qak) i) (nT F):=sz_congr fun i _=>Bool.true_and _
    omega
   show _≤(stp (mT F) (Gl (mT F) k')).getD a' 0
   rw [stp_get (by omega)]
   have hfrom:∀ q,q∈(List.range (p+1)).filter (fun q=>edge F out q (p+1))→q≤p∧(at_ out q).QaA=(k':Int)∧adj (nT F) (mT F) (sf F) (bs (alone F (at_ out q).Qak)) (bs (alone F (at_ out (p+1)).Qak))∧(at_ out q).Qak.QaN=!(at_ out (p+1)).Qak.QaN:=by
    intro q hq
    obtain ⟨r1,r2⟩:=List.mem_filter.1 hq
    rw [List.mem_range] at r1
    obtain ⟨s1,l,s2,s3⟩:=edge_iff.1 r2
    obtain ⟨_,_,_,t3,_⟩:=pt_to hF A q q (Nat.le_refl _) (by omega)
    have hadj:=adj_load hF h t3 s2
    rw [s3] at hadj
    refine ⟨by omega,by omega,hadj,?_⟩
    rw [← s3]
    show _=!!(at_ out q).Qak.QaN
    rw [Bool.not_not]
   have s1:(((List.range (p+1)).filter fun q=>edge F out q (p+1)).map (Wt (edge F out))).sum≤(((List.range (p+1)).filter fun q=>edge F out q (p+1)).map fun q=>(fun a=>if mT F≤a+a' then (Gl (mT F) k').getD a 0 else 0) (sz (bs (alone F (at_ out q).Qak)) (nT F))).sum:=by
    refine sum_le fun q hq=>?_
    obtain ⟨r1,r2,r3,_⟩:=hfrom q hq
    have:=r3.2.2.2
    dsimp only
    rw [if_pos (by omega)]
    exact ih q (by omega) (by omega) k' r2
   have s2:=count (nT F) (((List.range (p+1)).filter fun q=>edge F out q (p+1)).map fun q=>bs (alone F (at_ out q).Qak)) (fun i=>!bit (alone F (at_ out (p+1)).Qak) i) (fun a=>if mT F≤a+a' then (Gl (mT F) k').getD a 0 else 0) (by
    rw [List.pairwise_map]
    refine (List.nodup_range.filter _).imp_of_mem fun {q r} hq hr hne=>?_
    refine Classical.byContradiction fun hno=>hne ?_
    obtain ⟨a1,_,_,a4⟩:=hfrom q hq
    obtain ⟨b1,_,_,b4⟩:=hfrom r hr
    refine A.inj (by omega) (by omega) (bank_eq h (A.near (by omega)) (A.near (by omega)) (a4.trans b4.symm) fun i hi=>?_)
    refine Classical.byContradiction fun c=>hno ⟨i,hi,c⟩) (by
    intro B hB i hi hb
    obtain ⟨q,hq,rfl⟩:=List.mem_map.1 hB
    obtain ⟨_,_,r3,_⟩:=hfrom q hq
    have:=r3.2.2.1 i hi hb
    cases hc:bit (alone F (at_ out (p+1)).Qak) i with
    |false=>rfl
    |true=>exact (this hc).elim)
   rw [List.map_map] at s2
   refine Nat.le_trans s1 (Nat.le_trans s2 ?_)
   have:=Sg_mono (fun a=>if mT F≤a+a' then (Gl (mT F) k').getD a 0 else 0) (sz (fun i=>!bit (alone F (at_ out (p+1)).Qak) i) (nT F)) (8 - nT F)
   rwa [show sz (fun i=>!bit (alone F (at_ out (p+1)).Qak) i) (nT F)+(8 - nT F)=8 - a' by omega] at this
theorem Wt_end (hF:InF F) (A:All F N tb out) {p:Nat} (hp:p< out.length) (he:(at_ out p).Qak=endB):1≤Wt (edge F out) p∧Wt (edge F out) p< 4611686018427387904:=by
 have h:=A.ok
 have hn:=nT_le h
 refine ⟨Wt_pos A p p (Nat.le_refl _) hp,?_⟩
 obtain ⟨k,hk,hkm⟩:=end_many hF A hp he
 have:=Wt_G hF A p p (Nat.le_refl _) hp k hk
 rw [he,sz_none (fun i hi=>end_bits h hi)] at this
 exact Nat.lt_of_le_of_lt this (Gl_small (by omega) hkm)
end
theorem j7_ways {N:Nat} {to k j:Int} {qu0 ways tb fr ba qu:List Int} {n:Int} (h1:0≤to∧to< n) (h2:0≤rdL qu0 k 0∧rdL qu0 k 0< n) (ht:(tb.length:Int)=n) (hw:(ways.length:Int)=n):
 Qas.j7 N to qu0 k ways j tb fr ba qu=some (.next (tb,(if rdL tb to 0=i16w (rdL tb (rdL qu0 k 0) 0+1) then stL ways to (i64w (rdL ways to 0+rdL ways (rdL qu0 k 0) 0)) else ways),fr,ba,qu,i64w (j+1))):=by
 unfold Qas.j7
 rw [if_pos ⟨h1.1,by omega⟩,if_pos ⟨h2.1,by omega⟩]
 by_cases c:rdL tb to 0=i16w (rdL tb (rdL qu0 k 0) 0+1)
 ·rw [if_pos c,if_pos ⟨h1.1,by omega⟩,if_pos ⟨h2.1,by omega⟩,if_pos ⟨h1.1,by omega⟩,if_pos c]
  rfl
 ·rw [if_neg c,if_neg c]
  rfl
def Non (F:Fe) (out:List Cr) (wy:List Int):Prop:=∀ j:Int,0≤j→j< nB F→j∉(out.map fun c=>numF F c.Qak)→rdL wy j 0=0
def Fut (F:Fe) (N:Nat) (out:List Cr) (wy:List Int) (V:List Cr→Nat→Int):Prop:=∀ tbF outF ext,All F N tbF outF→outF=out++ext→∀ p,p< outF.length→rdL wy (numF F (at_ outF p).Qak) 0=i64w (V outF p)
theorem at_pre {xs ys:List Cr} {p:Nat} (hp:p< xs.length):at_ (xs++ys) p=at_ xs p:=rdL_pre xs ys zc hp
theorem ways_step {N:Nat} {F:Fe} (h:OkF F) {out out' ext:List Cr} {met':List (Bk×Bool)} {tb' fr' ba' qu' wy wy':List Int} {i j:Nat} {b:Bk} (R':Rel F out' met' tb' fr' ba' qu') (he:out'=out++ext) (hi:i< out.length) (hb:(at_ out i).Qak=b) (hj:j< (loadsF F b).length)
 (hin:crossedB b (loadsF F b)[j]∈out'.map (·.Qak)) (hw:(wy.length:Int)=nB F∧Non F out wy∧Fut F N out wy (fun o p=>Vt F o p i+if hit F o i j p=true then (Wt (edge F o) i:Int) else 0))
 (hwy:wy'=if rdL tb' (numF F (crossedB b (loadsF F b)[j])) 0=i16w (rdL tb' (numF F b) 0+1) then stL wy (numF F (crossedB b (loadsF F b)[j])) (i64w (rdL wy (numF F (crossedB b (loadsF F b)[j])) 0+rdL wy (numF F b) 0)) else wy):
 (wy'.length:Int)=nB F∧Non F out' wy'∧Fut F N out' wy' (fun o p=>Vt F o p i+if hit F o i (j+1) p=true then (Wt (edge F o) i:Int) else 0):=by
 obtain ⟨w1,w2,w3⟩:=hw
 have hall:=all_range h.t8
 obtain ⟨x,hx,hxb⟩:=List.mem_map.1 hin
 obtain ⟨q,hq,rfl⟩:=memb_rdL zc hx
 have hxb:(at_ out' q).Qak=crossedB b (loadsF F b)[j]:=hxb
 have hi':i< out'.length:=by rw [he,List.length_append];omega
 have hai:at_ out' i=at_ out i:=by rw [he];exact at_pre hi
 have t1:rdL tb' (numF F (at_ out' q).Qak) 0=(at_ out' q).QaA:=(R'.yes q hq).1
 have t2:rdL tb' (numF F (at_ out' i).Qak) 0=(at_ out' i).QaA:=(R'.yes i hi').1
 have hmi:=R'.tb_nonneg hi'
 have hlen:=R'.len h.t8
 have hmi:0≤(at_ out' i).QaA∧(at_ out' i).QaA≤i:=hmi
 have hnq:=R'.near _ (rdL_memb (z:=zc) hq)
 have hto:=numF_range h.t8 (show nearOk F (at_ out' q).Qak from hnq)
 rw [hxb] at t1 hto
 rw [hai,hb] at t2
 rw [hai] at hmi
 rw [t1,t2,i16w_id (x:=(at_ out i).QaA+1) (by omega) (by unfold nB at hlen;omega)] at hwy
 have hnb:0≤numF F b∧numF F b< nB F:=by
  have:=numF_range h.t8 (R'.near _ (rdL_memb (z:=zc) hi'))
  rw [show rdL out' (i:Int) zc=at_ out i from hai,hb] at this
  exact this
 refine ⟨by rw [hwy];split<;>first|exact w1|(rw [stL_len];exact w1),?_,?_⟩
 ·intro m m0 m1 m2
  have hne:m∉(out.map fun c=>numF F c.Qak):=fun q=>m2 (by rw [he,List.map_append];exact List.mem_append_left _ q)
  have hmt:m≠numF F (crossedB b (loadsF F b)[j]):=fun e=>m2 (List.mem_map.2 ⟨_,rdL_memb (z:=zc) hq,by rw [e,← hxb]⟩)
  rw [hwy]
  split
  ·rw [rdL_st ⟨hto.1,by rw [w1];exact hto.2⟩ ⟨m0,by rw [w1];exact m1⟩,if_neg hmt]
   exact w2 m m0 m1 hne
  ·exact w2 m m0 m1 hne
 ·intro tbF outF ext' A hE p hp
  have hE2:outF=out++(ext++ext'):=by rw [hE,he,List.append_assoc]
  have ih:=w3 tbF outF (ext++ext') A hE2
  dsimp only at ih ⊢
  have hqF:at_ outF q=at_ out' q:=by rw [hE];exact at_pre hq
  have hiF:at_ outF i=at_ out i:=by rw [hE2];exact at_pre hi
  have hql:q< outF.length:=by rw [hE,List.length_append];omega
  have hil:i< outF.length:=by rw [hE2,List.length_append];omega
  rw [← hqF] at hxb hwy
  rw [← hiF] at hb hwy
  subst hb
  have hself:hit F outF i j i=false:=by
   unfold hit
   rw [Bool.and_eq_false_iff]
   left
   exact decide_eq_false (by omega)
  have nodup:hit F outF i j q=false:=by
   unfold hit
   rw [Bool.and_eq_false_iff]
   right
   rw [List.any_eq_false]
   intro l hl hc
   have hc:=of_decide_eq_true hc
   rw [hxb] at hc
   obtain ⟨m,hm,rfl⟩:=List.mem_iff_getElem.1 hl
   rw [List.length_take] at hm
   rw [List.getElem_take] at hc
   have hml:m< (loadsF F (at_ outF i).Qak).length:=by omega
   obtain ⟨_,a0,a1,_,_⟩:=step_code h hml
   obtain ⟨_,b0,b1,_,_⟩:=step_code h hj
   have:=xor_inj (b:=(at_ outF i).Qak) ⟨a0,by omega⟩ ⟨b0,by omega⟩ hc
   have:=nd_inj (loads_nodup F (at_ outF i).Qak) hml hj this
   omega
  by_cases cm:(at_ outF q).QaA=(at_ outF i).QaA+1
  ·rw [if_pos cm] at hwy
   have hnp:=numF_range h.t8 (A.near hp)
   rw [hwy,rdL_st ⟨hto.1,by rw [w1];exact hto.2⟩ ⟨hnp.1,by rw [w1];exact hnp.2⟩]
   by_cases e:p=q
   ·subst e
    have i1:=ih p hp
    have i2:=ih i hil
    rw [nodup,if_neg (by decide),Int.add_zero] at i1
    rw [hself,if_neg (by decide),Int.add_zero,Vt_top A hil (Nat.le_refl _) (by omega)] at i2
    have hh:hit F outF i (j+1) p=true:=by rw [hit_succ hj,hxb,cm];simp
    rw [if_pos (by rw [hxb]),← hxb,i1,i2,i64w_add,hh,if_pos rfl]
   ·have hne:¬ numF F (at_ outF p).Qak=numF F (crossedB (at_ outF i).Qak (loadsF F (at_ outF i).Qak)[j]):=by
     rw [← hxb]
     exact fun x=>e (A.inj hp hql (numF_inj (A.near hp) (A.near hql) x))
    have hh:hit F outF i (j+1) p=hit F outF i j p:=by
     rw [hit_succ hj,← hxb,decide_eq_false (p:=(at_ outF q).Qak=(at_ outF p).Qak) (fun x=>e (A.inj hp hql x.symm))]
     simp
    rw [if_neg hne,hh]
    exact ih p hp
  ·rw [if_neg cm] at hwy
   have hh:hit F outF i (j+1) p=hit F outF i j p:=by
    rw [hit_succ hj,← hxb]
    by_cases e:(at_ outF q).Qak=(at_ outF p).Qak
    ·obtain rfl:=A.inj hql hp e
     rw [decide_eq_false cm];simp
    ·rw [decide_eq_false e];simp
   rw [hwy,hh]
   exact ih p hp
theorem inner2 {N:Nat} {F:Fe} (h:OkF F) (hN:2000< N) {out0:List Cr} {met0:List (Bk×Bool)} {tb0 fr0 ba0 qu0 wy0:List Int} (hR:Rel F out0 met0 tb0 fr0 ba0 qu0) (hw0:(wy0.length:Int)=nB F∧Non F out0 wy0) {i:Nat} (hi:i< out0.length) (hF0:Fut F N out0 wy0 fun o p=>Vt F o p i):
 ∃ tb wy fr ba qu out met,rounds (fun s=>Qas.b4 N (loadsF F (rdL out0 (i:Int) zc).Qak) F (rdL out0 (i:Int) zc).Qak qu0 (i:Int) s.1 s.2.1 s.2.2.1 s.2.2.2.1 s.2.2.2.2.1 s.2.2.2.2.2) N (tb0,wy0,fr0,ba0,qu0,0)=some (.go (tb,wy,fr,ba,qu))∧
  rounds (fun s=>Qal.b2 N (loadsF F (rdL out0 (i:Int) zc).Qak) (i:Int) s.1 s.2.1 s.2.2) N (out0,met0,0)=some (.go (out,met))∧Rel F out met tb fr ba qu∧((wy.length:Int)=nB F∧Non F out wy∧Fut F N out wy fun o p=>Vt F o p (i+1))∧(∃ ext,out=out0++ext)∧
  ∀ l∈loadsF F (rdL out0 (i:Int) zc).Qak,crossedB (rdL out0 (i:Int) zc).Qak l∈out.map (·.Qak):=by
 have hall:=all_range h.t8
 generalize hb:(rdL out0 (i:Int) zc).Qak=b
 have hbn:nearOk F b:=by rw [← hb];exact hR.near _ (rdL_memb hi)
 have hb255:0≤b.Qam∧b.Qam≤255:=⟨hbn.1,by have:=hbn.2;omega⟩
 have hll:=loadsF_len h.t8 b
 have hat:rdL qu0 (i:Int) 0=numF F b:=by rw [hR.q,rdL_map _ _ zc hi,hb]
 have hnb:=numF_range h.t8 hbn
 obtain ⟨e,e',h1,h2,h3⟩:=rounds_both (b:=fun s=>Qas.b4 N (loadsF F b) F b qu0 (i:Int) s.1 s.2.1 s.2.2.1 s.2.2.2.1 s.2.2.2.2.1 s.2.2.2.2.2) (b':=fun s=>Qal.b2 N (loadsF F b) (i:Int) s.1 s.2.1 s.2.2)
  (fun s s'=>s.2.2.2.2.2=s'.2.2∧0≤s'.2.2∧s'.2.2≤((loadsF F b).length:Int)∧Rel F s'.1 s'.2.1 s.1 s.2.2.1 s.2.2.2.1 s.2.2.2.2.1∧((s.2.1.length:Int)=nB F∧Non F s'.1 s.2.1∧Fut F N s'.1 s.2.1 (fun o p=>Vt F o p i+if hit F o i s.2.2.2.2.2.toNat p=true then (Wt (edge F o) i:Int) else 0))∧(∃ ext,s'.1=out0++ext)∧∀ m:Nat,(hm:m< (loadsF F b).length)→(m:Int)< s'.2.2→crossedB b (loadsF F b)[m]∈s'.1.map (·.Qak))
  (fun s=>(((loadsF F b).length:Int) - s.2.2.2.2.2).toNat)
  (fun e e'=>∃ tb wy fr ba qu out met,e= .go (tb,wy,fr,ba,qu)∧e'= .go (out,met)∧Rel F out met tb fr ba qu∧((wy.length:Int)=nB F∧Non F out wy∧Fut F N out wy fun o p=>Vt F o p (i+1))∧(∃ ext,out=out0++ext)∧∀ l∈loadsF F b,crossedB b l∈out.map (·.Qak)) (by
  rintro ⟨tb,wy,fr,ba,qu,j⟩ ⟨out,met,j'⟩ ⟨r1,r2,r3,r4,r5,r6,r7⟩
  simp only at r1 r2 r3 r4 r5 r6 r7
  subst r1
  obtain ⟨j,rfl⟩:=Int.eq_ofNat_of_zero_le r2
  by_cases hj:j< (loadsF F b).length
  ·right
   have g1:(j:Int)< (loadsF F b).length:=by omega
   have g2:(0:Int)≤j:=by omega
   obtain ⟨hcode,hl0,hl1,hn0,hn1⟩:=step_code h hj
   have hnb':nearOk F (crossedB b (loadsF F b)[j]):=⟨hn0,hn1⟩
   have hto:=numF_range h.t8 hnb'
   have hlt:=r4.lt
   have hlen:=r4.len h.t8
   obtain ⟨ext,hext⟩:=r6
   have hio:i< out.length:=by rw [hext,List.length_append];omega
   have hoi:rdL out (i:Int) zc=rdL out0 (i:Int) zc:=by rw [hext];exact rdL_pre _ _ _ hi
   have hmn:=r4.tb_nonneg hio
   have hyes:=(r4.yes i hio).1
   rw [hoi,hb] at hyes
   have hi512:(i:Int)< 512:=by unfold nB at hlen;omega
   have hw1:i16w ((rdL out0 (i:Int) zc).QaA+1)=(rdL out0 (i:Int) zc).QaA+1:=by rw [hoi] at hmn;exact i16w_id (by omega) (by omega)
   have hw2:i64w ((rdL out0 (i:Int) zc).QaA+1)=(rdL out0 (i:Int) zc).QaA+1:=by rw [hoi] at hmn;exact i64w_id (by omega) (by omega)
   have hcr:∀ b l,Qa7.f N b l=some (crossedB b l):=fun _ _=>rfl
   have hnext:i64w ((j:Int)+1)=((j+1:Nat):Int):=i64w_succ hj (by omega)
   have gi:(0:Int)≤(i:Int)∧(i:Int)< (out.length:Int):=⟨by omega,by omega⟩
   have gT:0≤numF F (crossedB b (loadsF F b)[j])∧numF F (crossedB b (loadsF F b)[j])< (tb.length:Int):=⟨hto.1,by unfold nB at hlt;omega⟩
   have gA:0≤numF F b∧numF F b< (tb.length:Int):=⟨hnb.1,by unfold nB at hlt;omega⟩
   have gF:0≤numF F (crossedB b (loadsF F b)[j])∧numF F (crossedB b (loadsF F b)[j])< (fr.length:Int):=⟨hto.1,by unfold nB at hlt;omega⟩
   have gB:0≤numF F (crossedB b (loadsF F b)[j])∧numF F (crossedB b (loadsF F b)[j])< (ba.length:Int):=⟨hto.1,by unfold nB at hlt;omega⟩
   have hql:qu.length=out.length:=by rw [r4.q,List.length_map]
   simp only [Qas.b4,Qal.b2,g1,g2,and_self,if_true,rdL_nat hj,F_eta,cross_spec h (show 40< N by omega) hb255 ⟨hl0,show (loadsF F b)[j]≤65535 by omega⟩,hcode,Option.bind_some,index_spec h.t8 (N:=N) ⟨hn0,show (crossedB b (loadsF F b)[j]).Qam≤255 by omega⟩,if_pos gi,hoi,hb,hcr,if_pos gT,hat,if_pos gA,if_pos gF,if_pos gB,List.length_singleton,hyes,hw1,hw2]
   by_cases hnew:rdL tb (numF F (crossedB b (loadsF F b)[j])) 0< 0
   ·have hmet:=(r4.tells h.t8 hnb').1 hnew
    rw [if_pos hnew,if_neg hmet,if_pos (by unfold nB at hlen;omega),if_pos (by unfold nB at hlen;omega)]
    have hadd:=r4.add h.t8 hnb' hmet hio (loadsF F b)[j]
    rw [hoi,hb] at hadd
    have hj7:=j7_ways (N:=N) (to:=numF F (crossedB b (loadsF F b)[j])) (k:=(i:Int)) (j:=(j:Int)) (qu0:=qu0) (ways:=wy) (tb:=stL tb (numF F (crossedB b (loadsF F b)[j])) ((rdL out0 (i:Int) zc).QaA+1)) (fr:=stL fr (numF F (crossedB b (loadsF F b)[j])) (numF F b)) (ba:=stL ba (numF F (crossedB b (loadsF F b)[j])) (loadsF F b)[j]) (qu:=qu++[numF F (crossedB b (loadsF F b)[j])]) (n:=nB F) hto (by rw [hat];exact hnb) hadd.lt.1 r5.1
    rw [hat] at hj7
    have hst:=ways_step (N:=N) h hadd rfl hio (by show (rdL out (i:Int) zc).Qak=b;rw [hoi,hb]) hj (by rw [List.map_append,List.mem_append];right;simp) r5 rfl
    rw [hj7]
    simp only [Qal.j4,hnext]
    refine ⟨_,_,rfl,rfl,⟨rfl,by dsimp only;omega,by dsimp only;omega,hadd,hst,⟨ext++[⟨crossedB b (loadsF F b)[j],(i:Int),(loadsF F b)[j],(rdL out0 (i:Int) zc).QaA+1⟩],by rw [hext,List.append_assoc]⟩,?_⟩,by dsimp only;omega⟩
    intro m hm hmj
    rw [List.map_append,List.mem_append]
    by_cases e:m=j
    ·subst e;right;simp
    ·left;exact r7 m hm (by dsimp only at hmj;omega)
   ·have hmet:mGet met (crossedB b (loadsF F b)[j]) false=true:=by
     have:=(not_congr (r4.tells h.t8 hnb')).1 hnew
     simpa using this
    rw [if_neg hnew,if_pos hmet]
    have hj7:=j7_ways (N:=N) (to:=numF F (crossedB b (loadsF F b)[j])) (k:=(i:Int)) (j:=(j:Int)) (qu0:=qu0) (ways:=wy) (tb:=tb) (fr:=fr) (ba:=ba) (qu:=qu) (n:=nB F) hto (by rw [hat];exact hnb) hlt.1 r5.1
    rw [hat] at hj7
    have hst:=ways_step (N:=N) h r4 (List.append_nil out).symm hio (by show (rdL out (i:Int) zc).Qak=b;rw [hoi,hb]) hj ((r4.met _).1 hmet) r5 rfl
    rw [hj7]
    simp only [Qal.j4,hnext]
    refine ⟨_,_,rfl,rfl,⟨rfl,by dsimp only;omega,by dsimp only;omega,r4,hst,⟨ext,hext⟩,?_⟩,by dsimp only;omega⟩
    intro m hm hmj
    by_cases e:m=j
    ·subst e;exact (r4.met _).1 hmet
    ·exact r7 m hm (by dsimp only at hmj;omega)
  ·left
   have g1:¬ (j:Int)< (loadsF F b).length:=by omega
   simp only [Qas.b4,Qal.b2,g1,if_false]
   refine ⟨_,_,rfl,rfl,_,_,_,_,_,_,_,rfl,rfl,r4,⟨r5.1,r5.2.1,?_⟩,r6,?_⟩
   ·intro tbF outF ext' A hE p hp
    have q5:=r5.2.2 tbF outF ext' A hE p hp
    obtain ⟨ext,hext⟩:=r6
    have hbF:(at_ outF i).Qak=b:=by rw [hE,hext,List.append_assoc,at_pre hi];exact hb
    have hjl:j=(loadsF F (at_ outF i).Qak).length:=by rw [hbF];omega
    rw [q5]
    dsimp only
    rw [Int.toNat_natCast,hjl,hit_all]
    congr 1
    unfold Vt
    simp only [part]
    by_cases ce:edge F outF i p=true
    ·rw [if_pos ce,if_pos ce];omega
    ·rw [if_neg ce,if_neg ce];omega
   intro l hl
   obtain ⟨m,hm,rfl⟩:=List.mem_iff_getElem.1 hl
   exact r7 m hm (by omega)) N N (tb0,wy0,fr0,ba0,qu0,0) (out0,met0,0) ⟨rfl,by simp,by simp,hR,⟨hw0.1,hw0.2,by
   intro tbF outF ext A hE p hp
   dsimp only
   rw [hF0 tbF outF ext A hE p hp,Int.toNat_zero,hit_zero,if_neg (by decide),Int.add_zero]⟩,⟨[],by simp⟩,fun m hm hmj=>by dsimp only at hmj;omega⟩ (by dsimp only;omega) (by dsimp only;omega)
 obtain ⟨tb,wy,fr,ba,qu,out,met,rfl,rfl,q1,q2,q3,q4⟩:=h3
 exact ⟨tb,wy,fr,ba,qu,out,met,h1,h2,q1,q2,q3,q4⟩
theorem outer2 {N:Nat} {F:Fe} (h:OkF F) (hN:2000< N) {out0:List Cr} {met0:List (Bk×Bool)} {tb0 fr0 ba0 qu0 wy0:List Int} (hR:Rel F out0 met0 tb0 fr0 ba0 qu0) (hw0:(wy0.length:Int)=nB F∧Non F out0 wy0∧Fut F N out0 wy0 fun o p=>Vt F o p 0):
 ∃ tb wy fr ba qu out met,rounds (fun s=>Qas.b2 N F s.1 s.2.1 s.2.2.1 s.2.2.2.1 s.2.2.2.2.1 s.2.2.2.2.2) N (tb0,wy0,fr0,ba0,qu0,0)=some (.go (tb,wy,fr,ba))∧
  rounds (fun s=>Qal.b0 N F s.1 s.2.1 s.2.2) N (out0,met0,0)=some (.go out)∧Rel F out met tb fr ba qu∧(∃ ext,out=out0++ext)∧(wy.length:Int)=nB F∧Non F out wy∧Fut F N out wy fun o p=>Vt F o p out.length:=by
 have hall:=all_range h.t8
 obtain ⟨e,e',h1,h2,h3⟩:=rounds_both (b:=fun s=>Qas.b2 N F s.1 s.2.1 s.2.2.1 s.2.2.2.1 s.2.2.2.2.1 s.2.2.2.2.2) (b':=fun s=>Qal.b0 N F s.1 s.2.1 s.2.2)
  (fun s s'=>s.2.2.2.2.2=s'.2.2∧0≤s'.2.2∧s'.2.2≤(s'.1.length:Int)∧Rel F s'.1 s'.2.1 s.1 s.2.2.1 s.2.2.2.1 s.2.2.2.2.1∧((s.2.1.length:Int)=nB F∧Non F s'.1 s.2.1∧Fut F N s'.1 s.2.1 fun o p=>Vt F o p s.2.2.2.2.2.toNat)∧(∃ ext,s'.1=out0++ext))
  (fun s=>(513 - s.2.2.2.2.2).toNat)
  (fun e e'=>∃ tb wy fr ba qu out met,e= .go (tb,wy,fr,ba)∧e'= .go out∧Rel F out met tb fr ba qu∧(∃ ext,out=out0++ext)∧(wy.length:Int)=nB F∧Non F out wy∧Fut F N out wy fun o p=>Vt F o p out.length) (by
  rintro ⟨tb,wy,fr,ba,qu,i⟩ ⟨out,met,i'⟩ ⟨r1,r2,r3,r4,r5,r6⟩
  simp only at r1 r2 r3 r4 r5 r6
  subst r1
  obtain ⟨i,rfl⟩:=Int.eq_ofNat_of_zero_le r2
  have hlen:=r4.len h.t8
  have hql:qu.length=out.length:=by rw [r4.q,List.length_map]
  by_cases hi:i< out.length
  ·right
   have g1:(i:Int)< out.length:=by omega
   have g1':(i:Int)< qu.length:=by omega
   have g2:(0:Int)≤i:=by omega
   have hbn:nearOk F (rdL out (i:Int) zc).Qak:=r4.near _ (rdL_memb hi)
   have hat:rdL qu (i:Int) 0=numF F (rdL out (i:Int) zc).Qak:=by rw [r4.q,rdL_map _ _ zc hi]
   have hnb:=numF_range h.t8 hbn
   obtain ⟨n,hn⟩:=Int.eq_ofNat_of_zero_le hnb.1
   have hat2:Qbs.f N F (numF F (rdL out (i:Int) zc).Qak)=some (rdL out (i:Int) zc).Qak:=by
    rw [hn,at_spec h.t8 (by omega),← hn,atF_num h.t8 hbn]
   have hb255:0≤(rdL out (i:Int) zc).Qak.Qam∧(rdL out (i:Int) zc).Qak.Qam≤255:=⟨hbn.1,by have:=hbn.2;omega⟩
   obtain ⟨tb',wy',fr',ba',qu',out',met',q1,q2,q3,q4,⟨ext,q5⟩,q6⟩:=inner2 h hN r4 ⟨r5.1,r5.2.1⟩ hi (by have q5:=r5.2.2;rwa [Int.toNat_natCast] at q5)
   have hnext:i64w ((i:Int)+1)=((i+1:Nat):Int):=i64w_succ hi (by unfold nB at hlen;omega)
   have hlen':=q3.len h.t8
   simp only [Qas.b2,Qal.b0,g1,g1',g2,and_self,if_true,hat,hat2,F_eta,Option.bind_some,loads_spec h (show 300< N by omega) hb255,loads_impl h (show 300< N by omega) hb255]
   rw [show (zc:Cr)=Qaj from rfl] at q1 q2
   rw [q1,q2]
   simp only [Option.bind_some,Ex.finB,Qas.a4,Qal.a2,hnext]
   obtain ⟨ext0,r6⟩:=r6
   have hl2:out.length≤out'.length:=by rw [q5,List.length_append];omega
   refine ⟨_,_,rfl,rfl,⟨rfl,by dsimp only;omega,by dsimp only;omega,q3,q4,⟨ext0++ext,by dsimp only;rw [q5,r6,List.append_assoc]⟩⟩,by dsimp only;unfold nB at hlen;omega⟩
  ·left
   have g1:¬ (i:Int)< out.length:=by omega
   have g1':¬ (i:Int)< qu.length:=by omega
   simp only [Qas.b2,Qal.b0,g1,g1',if_false]
   have hio:i=out.length:=by omega
   refine ⟨_,_,rfl,rfl,_,_,_,_,_,_,_,rfl,rfl,r4,r6,r5.1,r5.2.1,?_⟩
   have q5:=r5.2.2
   rwa [Int.toNat_natCast,hio] at q5) N N (tb0,wy0,fr0,ba0,qu0,0) (out0,met0,0) ⟨rfl,by simp,by simp,hR,⟨hw0.1,hw0.2.1,hw0.2.2⟩,⟨[],by simp⟩⟩ (by dsimp only;omega) (by dsimp only;omega)
 obtain ⟨tb,wy,fr,ba,qu,out,met,rfl,rfl,q1,q2,q3⟩:=h3
 exact ⟨tb,wy,fr,ba,qu,out,met,h1,h2,q1,q2,q3⟩
theorem ways0 {N:Nat} {F:Fe} (h:OkF F):Non F [c0F F] (stL (List.replicate (nB F).toNat 0) (allF F) 1)∧Fut F N [c0F F] (stL (List.replicate (nB F).toNat 0) (allF F) 1) fun o p=>Vt F o p 0:=by
 have hall:=all_range h.t8
 have hl0:=repl_len h.t8 0
 have hA:(0:Int)≤allF F∧allF F< ((List.replicate (nB F).toNat (0:Int)).length:Int):=⟨by omega,by rw [hl0];unfold nB;omega⟩
 have hnum:numF F (c0F F).Qak=allF F:=rfl
 constructor
 ·intro j j0 j1 hj
  rw [rdL_st hA ⟨j0,by rw [hl0];exact j1⟩,if_neg (fun e=>hj (by rw [e];exact List.mem_singleton.2 hnum.symm)),repl_rd j0 (by omega)]
 ·intro tbF outF ext A hE p hp
  have hnp:=numF_range h.t8 (A.near hp)
  have h0:at_ outF 0=c0F F:=by rw [hE];rfl
  have h0l:0< outF.length:=by omega
  dsimp only
  rw [rdL_st hA ⟨hnp.1,by rw [hl0];exact hnp.2⟩]
  unfold Vt
  by_cases e:p=0
  ·subst e
   rw [h0,if_pos hnum,if_pos rfl]
   exact (i64w_id (by decide) (by decide)).symm
  ·have hne:¬ numF F (at_ outF p).Qak=allF F:=by
    rw [← hnum,← h0]
    exact fun x=>e (A.inj hp h0l (numF_inj (A.near hp) (A.near h0l) x))
   have hnp2:numF F (at_ outF p).Qak< 2*(allF F+1):=hnp.2
   rw [if_neg hne,if_neg e,repl_rd hnp.1 (by unfold nB;omega)]
   exact (i64w_id (by decide) (by decide)).symm
theorem search_ways {N:Nat} {F:Fe} (h:OkF F) (hN:2000< N):∃ tb wy fr ba qu out met,Qas.f N F=some ⟨tb,wy,fr,ba⟩∧Qal.f N F=some out∧Rel F out met tb fr ba qu∧(wy.length:Int)=nB F∧Non F out wy∧Fut F N out wy fun o p=>Vt F o p out.length:=by
 have hall:=all_range h.t8
 have hl1:=repl_len h.t8 (-1)
 have hl0:=repl_len h.t8 0
 have hnB:(nB F).toNat≤512∧0≤nB F:=by unfold nB;omega
 obtain ⟨tb,wy,fr,ba,qu,out,met,q1,q2,q3,⟨ext,q4⟩,q5⟩:=outer2 h hN (rel0 h.t8) (wy0:=stL (List.replicate (nB F).toNat 0) (allF F) 1) ⟨by rw [stL_len];exact hl0,ways0 h⟩
 refine ⟨tb,wy,fr,ba,qu,out,met,?_,?_,q3,q5⟩
 ·have e1:i64w (2*i64w (i64w (allF F)+1))=nB F:=by
   rw [i64w_id (x:=allF F) (by omega) (by omega),i64w_id (x:=allF F+1) (by omega) (by omega),i64w_id (by omega) (by omega)];rfl
  have hf:=rounds_copy (b:=fun s=>Qas.b0 N (allF F) s.1 s.2) (List.replicate (nB F).toNat (-1)) (0:Int) (N:=N) (by simp;omega) (by
   intro x i hi hx
   rw [List.length_replicate] at hi
   rw [List.length_replicate] at hx
   have g1:(i:Int)< nB F:=by omega
   have g2:(0:Int)≤(i:Int)∧(i:Int)< (x.length:Int):=⟨by omega,by omega⟩
   simp only [Qas.b0,e1,if_pos g1,if_pos g2,stL_nat,List.getElem_replicate]
   rw [i64w_id (by omega) (by omega)]
   rfl) (by
   intro x hx
   rw [List.length_replicate] at hx ⊢
   simp only [Qas.b0,e1]
   rw [if_neg (by omega)])
  rw [List.length_replicate] at hf
  have e2:i64w (2*i64w (allF F+1))=nB F:=by
   rw [i64w_id (x:=allF F+1) (by omega) (by omega),i64w_id (by omega) (by omega)];rfl
  have hA:(0:Int)≤allF F∧allF F< ((List.replicate (nB F).toNat (-1:Int)).length:Int):=⟨by omega,by rw [hl1];unfold nB;omega⟩
  have hA0:(0:Int)≤allF F∧allF F< ((List.replicate (nB F).toNat (0:Int)).length:Int):=⟨by omega,by rw [hl0];unfold nB;omega⟩
  have hg1:(0:Int)≤nB F∧nB F≤140737488355328:=⟨hnB.2,by omega⟩
  have hg2:(0:Int)≤nB F∧nB F≤35184372088832:=⟨hnB.2,by omega⟩
  simp only [Qas.f,F_eta,QbI N h.t8,Option.bind_some,e1,e2,if_pos hg1,if_pos hg2,hf,Ex.fin,Qas.a0,i64w_id (x:=allF F) (by omega) (by omega),if_pos hA,if_pos hA0,q1,Qas.a2]
 ·simp only [Qal.f,F_eta,QbM N h.t8,Option.bind_some]
  have e:([(⟨(⟨allF F,false⟩:Qag),(-1),0,0⟩:Qau)]:List Cr)=[c0F F]:=rfl
  rw [e,q2]
  rfl
theorem Qcm {N:Nat} {F:Fe} (h:OkF F) (hN:2000< N):∃ tb wy fr ba out,Qas.f N F=some ⟨tb,wy,fr,ba⟩∧All F N tb out∧(wy.length:Int)=nB F∧(∀ p,p< out.length→rdL wy (numF F (at_ out p).Qak) 0=i64w (Wt (edge F out) p:Int))∧(¬ endB∈out.map (·.Qak)→rdL wy (numF F endB) 0=0):=by
 obtain ⟨tb,wy,fr,ba,out,e1,A⟩:=search_all h hN
 obtain ⟨tb',wy',fr',ba',qu',out',met',q1,q2,q3,q4,q5,q6⟩:=search_ways h hN
 rw [e1] at q1
 cases q1
 have:=A.e2
 rw [q2] at this
 cases this
 refine ⟨_,_,_,_,_,e1,A,q4,fun p hp=>?_,fun hno=>?_⟩
 ·rw [q6 _ _ [] A (List.append_nil _).symm p hp]
  show i64w (Vt F _ p _)=_
  rw [Vt_top A hp (by omega) (Nat.le_refl _)]
 ·have hn:=numF_range h.t8 (end_near h.t8)
  refine q5 _ hn.1 hn.2 fun hm=>hno ((q3.found (end_near h.t8)).2 hm)
theorem Ways_same {N:Nat} {F:Fe} (hF:InF F) (hN:3000< N):∃ r,Qbg.f N F=some r∧Qay.f N F=some r:=by
 by_cases hk:okF F=true
 ·have h:=okF_iff.1 hk
  have hall:=all_range h.t8
  obtain ⟨tb,wy,fr,ba,out,e1,A,w1,w2,w3⟩:=Qcm h (show 2000< N by omega)
  obtain ⟨wm,e2,hT⟩:=ways_outer A (show 2000< N by omega)
  have hok1:Qa1.f N F=some true:=by rw [okF_spec hF (by omega),hk]
  have hok2:Qbi.f N F=some true:=by rw [okF_impl hF (by omega),hk]
  have hgl:(0:Int)≤allF F+1∧allF F+1< (wy.length:Int):=⟨by omega,by rw [w1];unfold nB;omega⟩
  have hlast:Qbv.f N F=some (allF F+1):=by
   simp only [Qbv.f,F_eta,QbI N h.t8,Option.bind_some,i64w_id (x:=allF F) (by omega) (by omega),i64w_id (x:=allF F+1) (by omega) (by omega)]
  have hf:Qay.f N F=Qay.a0 N wm:=by
   simp only [Qay.f,F_eta,hok2,Option.bind_some,if_true,A.tab,QbM N h.t8,A.e2,e2,Ex.fin]
  have hs:Qbg.f N F=if rdL wy (allF F+1) 0=0 then some (0,6) else some (rdL wy (allF F+1) 0,0):=by
   simp only [Qbg.f,F_eta,hok1,Option.bind_some,if_true,e1,hlast,if_pos hgl]
  rw [hf,hs]
  unfold Qay.a0
  by_cases c:endB∈out.map (·.Qak)
  ·obtain ⟨x,hx,hb⟩:=List.mem_map.1 c
   obtain ⟨p,hp,rfl⟩:=memb_rdL zc hx
   have hb:(at_ out p).Qak=endB:=hb
   have hv:mGet wm (at_ out p).Qak 0=i64w (Wt (edge F out) p:Int):=hT.1 p hp
   have hw:=w2 p hp
   have hW:=Wt_end hF A hp hb
   rw [hb] at hv hw
   rw [num_end] at hw
   rw [i64w_id (by omega) (by omega)] at hv hw
   have hv:mGet wm (⟨0,true⟩:Bk) 0=_:=hv
   rw [hv,hw,if_neg (by omega),if_pos (by omega)]
   exact ⟨_,rfl,rfl⟩
  ·have hv:=hT.2 (⟨0,true⟩:Bk) (fun p hp e=>c (List.mem_map.2 ⟨_,rdL_memb (z:=zc) hp,e⟩))
   have hw:=w3 c
   rw [num_end] at hw
   rw [hv,hw,if_pos rfl,if_neg (by decide)]
   exact ⟨_,rfl,rfl⟩
 ·simp only [Qbg.f,Qay.f,F_eta,okF_spec hF (show 40< N by omega),okF_impl hF (show 40< N by omega),Option.bind_some,if_neg hk]
  exact ⟨_,rfl,rfl⟩
theorem Qa0.told (a0:Qae) (h0_0:IntKind.min .i8≤a0.Qac∧a0.Qac≤IntKind.max .i8) (h0_1:IntKind.min .i8≤a0.Qaf∧a0.Qaf≤IntKind.max .i8) (h0_2:∀ x∈a0.Qai,IntKind.min .u16≤x∧x≤IntKind.max .u16) (l0_2:a0.Qai.length≤9223372036854775807):∃ N,Qa0.f N a0=some true:=by
 rw [min_i8,max_i8] at h0_0 h0_1
 rw [min_u16,max_u16] at h0_2
 have hF:InF a0:=⟨h0_0,h0_1,h0_2⟩
 by_cases h':a0.Qai.length>1048576
 ·exact ⟨0,by simp only [Qa0.f,F_eta,szFerry_neg h' l0_2,Option.bind_some];rfl⟩
 obtain ⟨N,hN⟩:∃ N,N=a0.Qai.length+4000:=⟨_,rfl⟩
 refine ⟨N,?_⟩
 have hl:a0.Qai.length≤1048576:=by omega
 obtain ⟨r,e1,e2⟩:=Ways_same (N:=N) hF (by omega)
 simp only [Qa0.f,F_eta,szFerry_pos hl,Option.bind_some,if_neg (show ¬ (1048576 - (a0.Qai.length:Int))< 0 by omega),toFerry_eq (N:=N) hl (by omega),e1,e2,if_true,eqFerry_same (N:=N) hl (by omega)]
end Go.Proofs.YtmpcchpnfhafoaaX
