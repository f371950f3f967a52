import Derived.Test.YtblbfnngmeoipaaGreatDoorP22
namespace Go.Proofs.YtblbfnngmeoipaaGreatDoorX
open Go
set_option linter.unusedVariables false
set_option linter.unusedSimpArgs false
abbrev Fe:=Qaf
abbrev Bk:=Qak
theorem F_eta (F:Fe):(⟨F.Qad,F.Qag,F.Qal⟩:Fe)=F:=rfl
def B16 (x:Int):BitVec 16:=BitVec.ofInt 16 x
theorem wrapB (b:BitVec 16):u16w (b.toNat:Int)=b.toNat:=u16w_id (by omega) (by have:=b.isLt;omega)
theorem bAndNot_eq (x y:Int):bAndNot .u16 x y=((B16 x&&& ~~~B16 y).toNat:Int):=wrapB (B16 x&&& ~~~B16 y)
theorem bXor_eq (x y:Int):bXor .u16 x y=((B16 x^^^B16 y).toNat:Int):=wrapB (B16 x^^^B16 y)
theorem B16_nat {x:Int} (h:0≤x∧x≤65535):((B16 x).toNat:Int)=x:=by simp [B16];omega
theorem andNot_range {x y:Int} (h:0≤x∧x≤65535):0≤bAndNot .u16 x y∧bAndNot .u16 x y≤x:=by
 rw [bAndNot_eq,BitVec.toNat_and]
 have:=@Nat.and_le_left (B16 x).toNat (~~~B16 y).toNat
 have:=B16_nat h
 omega
theorem bXor_range (x y:Int):0≤bXor .u16 x y∧bXor .u16 x y≤65535:=by
 rw [bXor_eq]
 have:=(B16 x^^^B16 y).isLt
 omega
theorem andNot_le {x y:Int} (h:0≤x∧x≤65535) (h':0≤y∧y≤65535) (e:bAndNot .u16 x y=0):x≤y:=by
 rw [bAndNot_eq] at e
 have e0:B16 x&&& ~~~B16 y=0#16:=by
  apply BitVec.eq_of_toNat_eq
  simpa using e
 have e1:B16 x&&&B16 y=B16 x:=by
  apply BitVec.eq_of_getLsbD_eq
  intro i hi
  have q:=congrArg (fun b=>b.getLsbD i) e0
  simp [hi] at q ⊢
  exact q
 have e2:=congrArg BitVec.toNat e1
 rw [BitVec.toNat_and] at e2
 have:=@Nat.and_le_right (B16 x).toNat (B16 y).toNat
 have:=B16_nat h
 have:=B16_nat h'
 omega
def cnt (x:Int):Int:=(QbD.f 0 x).getD 0
theorem cnt_all:∀ n:Nat,n< 256→(rounds (fun s=>Qbk.b0 0 s.1 s.2) 10 ((n:Int),0)).bind (Ex.fin fun s=>Qbk.a0 0 s)=some (cnt n)∧QbD.f 0 (n:Int)=some (cnt n)∧0≤cnt n∧cnt n≤8:=by decide+kernel
theorem cnt_at {x:Int} (h:0≤x∧x≤255):(rounds (fun s=>Qbk.b0 0 s.1 s.2) 10 (x,0)).bind (Ex.fin fun s=>Qbk.a0 0 s)=some (cnt x)∧QbD.f 0 x=some (cnt x)∧0≤cnt x∧cnt x≤8:=by
 have:=cnt_all x.toNat (by omega)
 rwa [Int.toNat_of_nonneg h.1] at this
theorem ones_eq (N:Nat) {x:Int} (h:0≤x∧x≤255):QbD.f N x=some (cnt x):=(cnt_at h).2.1
theorem size_eq {N:Nat} (hN:10≤N) {x:Int} (h:0≤x∧x≤255):Qbk.f N x=some (cnt x):=by
 have q:=(cnt_at h).1
 obtain ⟨e,he,hf⟩:=bind_get q
 unfold Qbk.f
 rw [show (fun s:Int×Int=>Qbk.b0 N s.1 s.2)=(fun s=>Qbk.b0 0 s.1 s.2) from rfl,rounds_mono he hN]
 exact hf
def allF (F:Fe):Int:=2^F.Qad.toNat - 1
def T8 (F:Fe):Prop:=1≤F.Qad∧F.Qad≤8
theorem all_tab:∀ t:Nat,t< 9→(if (0:Int)≤(u64w t) then (some (u16w ((shlI .u16 1 (u64w t)) - 1))) else none)=some ((2:Int)^t - 1)∧(if (0:Int)≤(t:Int) then (some (u16w ((shlI .u16 1 t) - 1))) else none)=some ((2:Int)^t - 1):=by decide+kernel
theorem pow_tab:∀ t:Nat,t< 9→1≤t→1≤(2:Int)^t - 1∧(2:Int)^t - 1≤255:=by decide+kernel
theorem all_range {F:Fe} (h:T8 F):1≤allF F∧allF F≤255:=pow_tab _ (by have:=h.2;omega) (by have:=h.1;omega)
theorem Qcs (N:Nat) {F:Fe} (h:T8 F):Qbp.f N F=some (allF F):=by
 have:=(all_tab F.Qad.toNat (by have:=h.2;omega)).1
 rwa [Int.toNat_of_nonneg (by have:=h.1;omega)] at this
theorem Qcm (N:Nat) {F:Fe} (h:T8 F):QaZ.f N F=some (allF F):=by
 have:=(all_tab F.Qad.toNat (by have:=h.2;omega)).2
 rwa [Int.toNat_of_nonneg (by have:=h.1;omega)] at this
theorem rounds_any {ρ:Type} {b:Int→Option (Bd ρ Unit Int)} (a:List Int) (p:Int→Bool) (r:Nat→ρ) {N:Nat} (hN:a.length< N)
 (h:∀ i (hi:i< a.length),b (i:Int)=if p a[i]=true then some (.out (.ret (r i))) else some (.next ((i+1:Nat):Int)))
 (he:b (a.length:Int)=some (.out (.go ()))):∃ e,rounds b N 0=some e∧(if a.any p=true then ∃ i,e= .ret (r i) else e= .go ()):=by
 have main:∀ (n k:Nat),k≤a.length→a.length - k< n→∃ e,rounds b n (k:Int)=some e∧(if (a.drop k).any p=true then ∃ i,e= .ret (r i) else e= .go ()):=by
  intro n
  induction n with
  |zero=>intro k _ hk;omega
  |succ n ih=>
   intro k hk hn
   by_cases hl:k< a.length
   ·have hb:=h k hl
    by_cases hp:p a[k]=true
    ·rw [if_pos hp] at hb
     have e1:(a.drop k).any p=true:=by rw [List.drop_eq_getElem_cons hl,List.any_cons,hp];rfl
     exact ⟨_,rounds_out hb,by rw [if_pos e1];exact ⟨_,rfl⟩⟩
    ·rw [if_neg hp] at hb
     obtain ⟨e,h1,h2⟩:=ih (k+1) hl (by omega)
     have e1:(a.drop k).any p=(a.drop (k+1)).any p:=by rw [List.drop_eq_getElem_cons hl,List.any_cons,(Bool.not_eq_true _).mp hp,Bool.false_or]
     exact ⟨e,(rounds_next hb).trans h1,by rw [e1];exact h2⟩
   ·obtain rfl:k=a.length:=by omega
    exact ⟨_,rounds_out he,by simp⟩
 exact main N 0 (Nat.zero_le _) (by omega)
def bad (a x:Int):Bool:=!(bAndNot .u16 x a==0)||decide (cnt x< 2)
instance (F:Fe):Decidable (T8 F):=by unfold T8;infer_instance
def okF (F:Fe):Bool:=decide (T8 F)&&(decide (0≤F.Qag∧F.Qag≤F.Qad)&&(decide (F.Qal.length≤20)&&!(F.Qal.any (bad (allF F)))))
def InF (F:Fe):Prop:=(-128≤F.Qad∧F.Qad≤127)∧(-128≤F.Qag∧F.Qag≤127)∧∀ x∈F.Qal,0≤x∧x≤65535
theorem okF_spec {N:Nat} {F:Fe} (hF:InF F) (hN:40< N):Qbr.f N F=some (okF F):=by
 obtain ⟨h1,h2,h3⟩:=hF
 unfold Qbr.f Qch.f okF
 rw [i64w_id (by omega) (by omega),i64w_id (by omega) (by omega)]
 by_cases c1:T8 F
 ·rw [if_pos c1.1]
  simp only [Option.bind_some,decide_eq_true c1.2,if_true,decide_eq_true c1,Bool.true_and]
  by_cases c2:0≤F.Qag∧F.Qag≤F.Qad
  ·rw [if_pos c2.1]
   simp only [Option.bind_some,decide_eq_true c2.2,if_true,decide_eq_true c2,Bool.true_and]
   by_cases c3:F.Qal.length≤20
   ·rw [if_neg (by omega)]
    simp only [decide_eq_true c3,Bool.true_and]
    have hall:=all_range c1
    obtain ⟨e,he,hq⟩:=rounds_any (b:=fun s=>Qbr.b0 N F s) F.Qal (bad (allF F)) (fun _=>false) (N:=N) (by omega) (by
     intro i hi
     have g1:(i:Int)< F.Qal.length:=by omega
     have g2:(0:Int)≤i:=by omega
     have hx:=h3 _ (List.getElem_mem hi)
     simp only [Qbr.b0,g1,g2,and_self,if_true,rdL_nat hi,i64w_succ hi (show F.Qal.length≤9223372036854775807 by omega),F_eta,Qcs N c1,Option.bind_some,bad]
     by_cases c4:bAndNot .u16 F.Qal[i] (allF F)=0
     ·have:=andNot_le hx ⟨by omega,by omega⟩ c4
      simp only [c4,if_true,size_eq (N:=N) (by omega) ⟨hx.1,show F.Qal[i]≤255 by omega⟩,Option.bind_some]
      by_cases c5:cnt F.Qal[i]< 2
      ·simp [c5]
      ·simp [c5]
     ·simp [c4]) (by
     simp only [Qbr.b0]
     rw [if_neg (by omega)])
    rw [he]
    by_cases c4:F.Qal.any (bad (allF F))=true
    ·rw [if_pos c4] at hq
     obtain ⟨i,rfl⟩:=hq
     simp only [Option.bind_some,Ex.fin,c4,Bool.not_true]
    ·rw [if_neg c4] at hq
     subst hq
     rw [Bool.not_eq_true] at c4
     simp only [Option.bind_some,Ex.fin,c4,Bool.not_false,Qbr.a0]
   ·rw [if_pos (by omega)]
    simp [c3]
  ·simp only [decide_eq_false c2,Bool.false_and]
   by_cases c3:F.Qag≥0
   ·rw [if_pos c3]
    have:¬ F.Qag≤F.Qad:=fun h=>c2 ⟨c3,h⟩
    simp [this]
   ·rw [if_neg c3];rfl
 ·simp only [decide_eq_false c1,Bool.false_and]
  by_cases c3:F.Qad≥1
  ·rw [if_pos c3]
   have:¬ F.Qad≤8:=fun h=>c1 ⟨c3,h⟩
   simp [this]
  ·rw [if_neg c3];rfl
theorem okF_impl {N:Nat} {F:Fe} (hF:InF F) (hN:40< N):QaX.f N F=some (okF F):=by
 obtain ⟨h1,h2,h3⟩:=hF
 unfold QaX.f QbU.f okF
 rw [i64w_id (by omega) (by omega),i64w_id (by omega) (by omega)]
 by_cases c1:T8 F
 ·rw [if_pos c1.1]
  simp only [Option.bind_some,decide_eq_true c1.2,if_true,decide_eq_true c1,Bool.true_and]
  by_cases c2:0≤F.Qag∧F.Qag≤F.Qad
  ·rw [if_pos c2.1]
   simp only [Option.bind_some,decide_eq_true c2.2,if_true,decide_eq_true c2,Bool.true_and]
   by_cases c3:F.Qal.length≤20
   ·rw [if_neg (by omega)]
    simp only [decide_eq_true c3,Bool.true_and]
    have hall:=all_range c1
    obtain ⟨e,he,hq⟩:=rounds_any (b:=fun s=>Qay.b0 N F.Qal F s) F.Qal (bad (allF F)) (fun i=>(i:Int)) (N:=N) (by omega) (by
     intro i hi
     have g1:(i:Int)< F.Qal.length:=by omega
     have g2:(0:Int)≤i:=by omega
     have hx:=h3 _ (List.getElem_mem hi)
     simp only [Qay.b0,QbV.f,Qby.f,g1,g2,and_self,if_true,rdL_nat hi,i64w_succ hi (show F.Qal.length≤9223372036854775807 by omega),F_eta,Qcm N c1,Option.bind_some,bad]
     by_cases c4:bAndNot .u16 F.Qal[i] (allF F)=0
     ·have:=andNot_le hx ⟨by omega,by omega⟩ c4
      simp only [c4,beq_self_eq_true,if_true,ones_eq N ⟨hx.1,show F.Qal[i]≤255 by omega⟩,Option.bind_some]
      by_cases c5:cnt F.Qal[i]< 2
      ·simp [c5]
      ·simp [c5]
     ·simp [c4]) (by
     simp only [Qay.b0]
     rw [if_neg (by omega)])
    simp only [QaW.f,Qay.f,F_eta,he]
    by_cases c4:F.Qal.any (bad (allF F))=true
    ·rw [if_pos c4] at hq
     obtain ⟨i,rfl⟩:=hq
     simp only [Option.bind_some,Ex.fin,c4,Bool.not_true,decide_eq_true (show (i:Int)≥0 by omega)]
    ·rw [if_neg c4] at hq
     subst hq
     rw [Bool.not_eq_true] at c4
     simp only [Option.bind_some,Ex.fin,c4,Bool.not_false,Qay.a0]
     rfl
   ·rw [if_pos (by omega)]
    simp [c3]
  ·simp only [decide_eq_false c2,Bool.false_and]
   by_cases c3:0≤F.Qag
   ·rw [if_pos c3]
    have:¬ F.Qag≤F.Qad:=fun h=>c2 ⟨c3,h⟩
    simp [this]
   ·rw [if_neg c3];rfl
 ·simp only [decide_eq_false c1,Bool.false_and]
  by_cases c3:1≤F.Qad
  ·rw [if_pos c3]
   have:¬ F.Qad≤8:=fun h=>c1 ⟨c3,h⟩
   simp [this]
  ·rw [if_neg c3];rfl
def safe (R:List Int) (t:Int):Bool:=!(R.any fun r=>bAndNot .u16 r t==0)
theorem safe_spec {N:Nat} {F:Fe} (hl:F.Qal.length≤20) (hN:40< N) (t:Int):Qbo.f N F t=some (safe F.Qal t):=by
 obtain ⟨e,he,hq⟩:=rounds_any (b:=fun s=>Qbo.b0 N F t s) F.Qal (fun r=>bAndNot .u16 r t==0) (fun _=>false) (N:=N) (by omega) (by
  intro i hi
  have g1:(i:Int)< F.Qal.length:=by omega
  have g2:(0:Int)≤i:=by omega
  simp only [Qbo.b0,g1,g2,and_self,if_true,rdL_nat hi,i64w_succ hi (show F.Qal.length≤9223372036854775807 by omega),beq_iff_eq]) (by
  simp only [Qbo.b0]
  rw [if_neg (by omega)])
 unfold Qbo.f safe
 rw [he]
 by_cases c4:(F.Qal.any fun r=>bAndNot .u16 r t==0)=true
 ·rw [if_pos c4] at hq
  obtain ⟨i,rfl⟩:=hq
  simp only [Option.bind_some,Ex.fin,c4,Bool.not_true]
 ·rw [if_neg c4] at hq
  subst hq
  rw [Bool.not_eq_true] at c4
  simp only [Option.bind_some,Ex.fin,c4,Bool.not_false,Qbo.a0]
theorem safe_impl {N:Nat} {F:Fe} (hl:F.Qal.length≤20) (hN:40< N) (t:Int):QbH.f N F t=some (safe F.Qal t):=by
 obtain ⟨e,he,hq⟩:=rounds_any (b:=fun s=>Qav.b0 N F.Qal t s) F.Qal (fun r=>bAndNot .u16 r t==0) (fun i=>(i:Int)) (N:=N) (by omega) (by
  intro i hi
  have g1:(i:Int)< F.Qal.length:=by omega
  have g2:(0:Int)≤i:=by omega
  simp only [Qav.b0,QbP.f,Qby.f,g1,g2,and_self,if_true,rdL_nat hi,i64w_succ hi (show F.Qal.length≤9223372036854775807 by omega),Option.bind_some]) (by
  simp only [Qav.b0]
  rw [if_neg (by omega)])
 simp only [QbH.f,QaU.f,Qav.f,he,safe]
 by_cases c4:(F.Qal.any fun r=>bAndNot .u16 r t==0)=true
 ·rw [if_pos c4] at hq
  obtain ⟨i,rfl⟩:=hq
  simp only [Option.bind_some,Ex.fin,c4,Bool.not_true,decide_eq_true (show (i:Int)≥0 by omega)]
 ·rw [if_neg c4] at hq
  subst hq
  rw [Bool.not_eq_true] at c4
  simp only [Option.bind_some,Ex.fin,c4,Bool.not_false,Qav.a0]
  rfl
def alone (F:Fe) (b:Bk):Int:=if b.Qbi=true then b.Qat else bAndNot .u16 (allF F) b.Qat
def here (F:Fe) (b:Bk):Int:=if b.Qbi=true then bAndNot .u16 (allF F) b.Qat else b.Qat
def bankF (F:Fe) (b:Bk):Bool:=(bAndNot .u16 b.Qat (allF F)==0)&&safe F.Qal (alone F b)
theorem bank_spec {N:Nat} {F:Fe} (hT:T8 F) (hl:F.Qal.length≤20) (hN:40< N) (b:Bk):QbY.f N F b=some (bankF F b):=by
 simp only [QbY.f,F_eta,Qcs N hT,Option.bind_some,safe_spec hl hN,bankF,alone]
 by_cases c:bAndNot .u16 b.Qat (allF F)=0
 ·rw [if_pos c]
  cases b.Qbi<;>simp [c]
 ·rw [if_neg c]
  simp [c]
theorem bank_impl {N:Nat} {F:Fe} (hT:T8 F) (hl:F.Qal.length≤20) (hN:40< N) (b:Bk):Qbx.f N F b=some (bankF F b):=by
 simp only [Qbx.f,QbF.f,Qby.f,F_eta,Qcm N hT,Option.bind_some,safe_impl hl hN,bankF,alone]
 cases b.Qbi<;>by_cases c:bAndNot .u16 b.Qat (allF F)=0<;>simp [c,safe_impl hl hN]
def crossedB (b:Bk) (l:Int):Bk:=⟨bXor .u16 b.Qat l,!b.Qbi⟩
def codeF (F:Fe) (b:Bk) (l:Int):Int:=if bAndNot .u16 l (here F b)=0 then (if cnt l>F.Qag then 3 else if bankF F (crossedB b l)=true then 0 else 4) else 2
structure OkF (F:Fe):Prop where
 t8:T8 F
 boat:0≤F.Qag∧F.Qag≤F.Qad
 len:F.Qal.length≤20
 rules:F.Qal.any (bad (allF F))=false
theorem okF_iff {F:Fe}:okF F=true↔OkF F:=by
 unfold okF
 simp only [Bool.and_eq_true,decide_eq_true_eq,Bool.not_eq_true']
 exact ⟨fun h=>⟨h.1,h.2.1,h.2.2.1,h.2.2.2⟩,fun h=>⟨h.1,h.2,h.3,h.4⟩⟩
theorem here_range {F:Fe} (hT:T8 F) {b:Bk} (hb:0≤b.Qat∧b.Qat≤255):0≤here F b∧here F b≤255:=by
 have hall:=all_range hT
 unfold here
 by_cases c:b.Qbi=true
 ·rw [if_pos c]
  have:=@andNot_range (allF F) b.Qat ⟨by omega,by omega⟩
  omega
 ·rw [if_neg c];exact hb
theorem cross_spec {N:Nat} {F:Fe} (h:OkF F) (hN:40< N) {b:Bk} (hb:0≤b.Qat∧b.Qat≤255) {l:Int} (hl:0≤l∧l≤65535):
 QbO.f N F b l=some (if codeF F b l=0 then (crossedB b l,0) else (⟨0,false⟩,codeF F b l)):=by
 have hr:=here_range h.t8 hb
 have hh:Qcf.f N F b=some (here F b):=by
  simp only [Qcf.f,F_eta,Qcs N h.t8,Option.bind_some,here]
  cases b.Qbi<;>simp
 simp only [QbO.f,F_eta,hh,Option.bind_some,bank_spec h.t8 h.len hN]
 by_cases c:bAndNot .u16 l (here F b)=0
 ·have:=andNot_le hl ⟨hr.1,by omega⟩ c
  have ht:=h.t8
  have hbo:=h.boat
  unfold T8 at ht
  simp only [if_pos c,size_eq (N:=N) (by omega) ⟨hl.1,show l≤255 by omega⟩,Option.bind_some]
  rw [i64w_id (by omega) (by omega)]
  by_cases c2:cnt l>F.Qag
  ·have hv:codeF F b l=3:=by unfold codeF;rw [if_pos c,if_pos c2]
   rw [if_pos c2,hv];rfl
  ·rw [if_neg c2]
   by_cases c3:bankF F (crossedB b l)=true
   ·have hv:codeF F b l=0:=by unfold codeF;rw [if_pos c,if_neg c2,if_pos c3]
    have c3':bankF F ⟨bXor .u16 b.Qat l,!b.Qbi⟩=true:=c3
    rw [if_pos c3',hv];rfl
   ·have hv:codeF F b l=4:=by unfold codeF;rw [if_pos c,if_neg c2,if_neg c3]
    have c3':¬ bankF F ⟨bXor .u16 b.Qat l,!b.Qbi⟩=true:=c3
    rw [if_neg c3',hv];rfl
 ·have hv:codeF F b l=2:=by unfold codeF;rw [if_neg c]
  rw [if_neg c,hv];rfl
theorem cross_impl {N:Nat} {F:Fe} (h:OkF F) (hN:40< N) {b:Bk} (hb:0≤b.Qat∧b.Qat≤255) {l:Int} (hl:0≤l∧l≤65535):
 Qbq.f N F b l=some (codeF F b l):=by
 have hr:=here_range h.t8 hb
 have hh:∃ y,QbF.f N F b=some (here F b,y):=by
  simp only [QbF.f,F_eta,Qcm N h.t8,Option.bind_some,here]
  cases b.Qbi
  ·exact ⟨_,rfl⟩
  ·exact ⟨_,rfl⟩
 obtain ⟨y,hh⟩:=hh
 simp only [Qbq.f,F_eta,hh,Option.bind_some,codeF,bank_impl h.t8 h.len hN,Qby.f,Qbm.f,Qb7.f]
 by_cases c:bAndNot .u16 l (here F b)=0
 ·have:=andNot_le hl ⟨hr.1,by omega⟩ c
  have ht:=h.t8
  have hbo:=h.boat
  unfold T8 at ht
  simp only [c,beq_self_eq_true,if_true,ones_eq N ⟨hl.1,show l≤255 by omega⟩,Option.bind_some]
  rw [i64w_id (by omega) (by omega)]
  by_cases c2:cnt l>F.Qag
  ·rw [if_pos c2,if_pos c2]
  ·rw [if_neg c2,if_neg c2]
   show (if bankF F (crossedB b l)=true then some 0 else some 4).bind _=_
   by_cases c3:bankF F (crossedB b l)=true
   ·rw [if_pos c3,if_pos c3];rfl
   ·rw [if_neg c3,if_neg c3];rfl
 ·simp [c]
theorem codeF_bank {F:Fe} {b:Bk} {l:Int} (h:codeF F b l=0):bankF F (crossedB b l)=true∧bAndNot .u16 l (here F b)=0:=by
 unfold codeF at h
 by_cases c:bAndNot .u16 l (here F b)=0
 ·rw [if_pos c] at h
  by_cases c2:cnt l>F.Qag
  ·rw [if_pos c2] at h;omega
  ·rw [if_neg c2] at h
   by_cases c3:bankF F (crossedB b l)=true
   ·exact ⟨c3,c⟩
   ·rw [if_neg c3] at h;omega
 ·rw [if_neg c] at h;omega
theorem bankF_range {F:Fe} (hT:T8 F) {b:Bk} (h:bankF F b=true) (hb:0≤b.Qat∧b.Qat≤65535):0≤b.Qat∧b.Qat≤allF F∧b.Qat≤255:=by
 have hall:=all_range hT
 unfold bankF at h
 simp only [Bool.and_eq_true,beq_iff_eq] at h
 have:=andNot_le hb ⟨by omega,by omega⟩ h.1
 omega
theorem crossedB_range {F:Fe} (hT:T8 F) {b:Bk} {l:Int} (h:codeF F b l=0):0≤(crossedB b l).Qat∧(crossedB b l).Qat≤allF F∧(crossedB b l).Qat≤255:=
 bankF_range hT (codeF_bank h).1 (bXor_range _ _)
def loadsTo (F:Fe) (b:Bk) (n:Nat):List Int:=((List.range n).map fun (i:Nat)=>(i:Int)).filter fun l=>codeF F b l==0
theorem loadsTo_succ (F:Fe) (b:Bk) (n:Nat):loadsTo F b (n+1)=if codeF F b (n:Int)=0 then loadsTo F b n++[(n:Int)] else loadsTo F b n:=by
 unfold loadsTo
 rw [List.range_succ,List.map_append,List.filter_append]
 by_cases c:codeF F b (n:Int)=0
 ·rw [if_pos c];simp [c]
 ·rw [if_neg c];simp [c]
theorem loadsTo_len (F:Fe) (b:Bk) (n:Nat):(loadsTo F b n).length≤n:=by
 unfold loadsTo
 exact Nat.le_trans (List.length_filter_le _ _) (by simp)
def loadsF (F:Fe) (b:Bk):List Int:=loadsTo F b ((allF F).toNat+1)
theorem loadsF_len {F:Fe} (hT:T8 F) (b:Bk):(loadsF F b).length≤256:=by
 have:=loadsTo_len F b ((allF F).toNat+1)
 have:=all_range hT
 unfold loadsF
 omega
theorem loadsF_mem {F:Fe} {b:Bk} {l:Int} (h:l∈loadsF F b):codeF F b l=0∧0≤l∧l≤allF F∨allF F< 0:=by
 unfold loadsF loadsTo at h
 simp only [List.mem_filter,List.mem_map,List.mem_range,beq_iff_eq] at h
 obtain ⟨⟨i,hi,rfl⟩,hc⟩:=h
 by_cases c:allF F< 0
 ·exact Or.inr c
 ·exact Or.inl ⟨hc,by omega,by omega⟩
theorem loads_spec {N:Nat} {F:Fe} (h:OkF F) (hN:300< N) {b:Bk} (hb:0≤b.Qat∧b.Qat≤255):Qbc.f N F b=some (loadsF F b):=by
 have hall:=all_range h.t8
 unfold Qbc.f
 have q:=rounds_for (b:=fun s=>Qbc.b0 N F b s.1 s.2) (e:= .go (loadsF F b)) (fun k=>(loadsTo F b k,(k:Int))) ((allF F).toNat+1) 0 N (by omega) (by omega) (by
  intro i _ hi
  have hlen:=loadsTo_len F b i
  have hw:u16w ((i:Int)+1)=((i+1:Nat):Int):=by rw [u16w_id (by omega) (by omega)];omega
  simp only [Qbc.b0,F_eta,Qcs N h.t8,Option.bind_some]
  rw [if_pos (by omega),cross_spec h (by omega) hb ⟨by omega,by omega⟩,loadsTo_succ]
  simp only [Option.bind_some,Qbc.j2,hw,List.length_singleton]
  by_cases c:codeF F b (i:Int)=0
  ·simp only [if_pos c,if_true];rw [if_pos (by omega)]
  ·simp only [if_neg c]) (by
  simp only [Qbc.b0,F_eta,Qcs N h.t8,Option.bind_some]
  rw [if_neg (by omega)];rfl)
 have q':rounds (fun s=>Qbc.b0 N F b s.1 s.2) N (([]:List Int),0)=some (.go (loadsF F b)):=q
 rw [q'];rfl
theorem loads_impl {N:Nat} {F:Fe} (h:OkF F) (hN:300< N) {b:Bk} (hb:0≤b.Qat∧b.Qat≤255):QaN.f N F b=some (loadsF F b):=by
 have hall:=all_range h.t8
 unfold QaN.f
 simp only [F_eta,Qcm N h.t8,Option.bind_some]
 have hw1:u16w (allF F+1)=allF F+1:=u16w_id (by omega) (by omega)
 have q:=rounds_for (b:=fun s=>QaN.b0 N (allF F) F b s.1 s.2) (e:= .go (loadsF F b)) (fun k=>(loadsTo F b k,(k:Int))) ((allF F).toNat+1) 0 N (by omega) (by omega) (by
  intro i _ hi
  have hlen:=loadsTo_len F b i
  have hw:u16w ((i:Int)+1)=((i+1:Nat):Int):=by rw [u16w_id (by omega) (by omega)];omega
  simp only [QaN.b0,F_eta,hw1]
  rw [if_pos (by omega),cross_impl h (by omega) hb ⟨by omega,by omega⟩,loadsTo_succ]
  simp only [Option.bind_some,QaN.j2,hw,List.length_singleton]
  by_cases c:codeF F b (i:Int)=0
  ·simp only [if_pos c];rw [if_pos (by omega)]
  ·simp only [if_neg c]) (by
  simp only [QaN.b0,F_eta,hw1]
  rw [if_neg (by omega)];rfl)
 have q':rounds (fun s=>QaN.b0 N (allF F) F b s.1 s.2) N (([]:List Int),0)=some (.go (loadsF F b)):=q
 rw [q'];rfl
def numF (F:Fe) (b:Bk):Int:=if b.Qbi=true then b.Qat+allF F+1 else b.Qat
def atF (F:Fe) (i:Int):Bk:=⟨i%(allF F+1),decide (i≥allF F+1)⟩
theorem index_spec {N:Nat} {F:Fe} (h:T8 F) {b:Bk} (hb:0≤b.Qat∧b.Qat≤255):Qb9.f N F b=some (numF F b):=by
 have hall:=all_range h
 simp only [Qb9.f,F_eta,Qcs N h,Option.bind_some,numF]
 rw [i64w_id (x:=b.Qat) (by omega) (by omega),i64w_id (x:=allF F) (by omega) (by omega),i64w_id (x:=b.Qat+allF F) (by omega) (by omega),i64w_id (by omega) (by omega)]
 cases b.Qbi<;>rfl
theorem shl_tab:∀ t:Nat,t< 9→shlI .i64 1 (t:Int)=(2:Int)^t∧shlI .i64 2 (t:Int)=2*(2:Int)^t:=by decide+kernel
theorem shl_one {F:Fe} (h:T8 F):shlI .i64 1 F.Qad=allF F+1∧shlI .i64 2 F.Qad=2*(allF F+1):=by
 have:=shl_tab F.Qad.toNat (by have:=h.2;omega)
 rw [Int.toNat_of_nonneg (by have:=h.1;omega)] at this
 unfold allF
 exact ⟨by rw [this.1];omega,by rw [this.2];omega⟩
theorem at_tab:∀ t:Nat,t< 9→∀ i:Nat,i< 512→i< 2*2^t→u16w (Int.tmod (i:Int) ((2:Int)^t))=(i:Int)%((2:Int)^t)∧bAnd .u16 (u16w (i:Int)) ((2:Int)^t - 1)=(i:Int)%((2:Int)^t)∧(shrI .i64 (i:Int) (t:Int)==1)=decide ((i:Int)≥(2:Int)^t):=by decide+kernel
theorem at_both {F:Fe} (h:T8 F) {i:Nat} (hi:(i:Int)< 2*(allF F+1)):u16w (Int.tmod (i:Int) (allF F+1))=(i:Int)%(allF F+1)∧bAnd .u16 (u16w (i:Int)) (allF F)=(i:Int)%(allF F+1)∧(shrI .i64 (i:Int) F.Qad==1)=decide ((i:Int)≥allF F+1):=by
 have hall:=all_range h
 have e:(2:Int)^F.Qad.toNat=allF F+1:=by unfold allF;omega
 have e2:((2^F.Qad.toNat:Nat):Int)=allF F+1:=by rw [← e];simp
 have:=at_tab F.Qad.toNat (by have:=h.2;omega) i (by omega) (by omega)
 rw [Int.toNat_of_nonneg (by have:=h.1;omega),e,show allF F+1 - 1=allF F by omega] at this
 exact this
theorem at_spec {N:Nat} {F:Fe} (h:T8 F) {i:Nat} (hi:(i:Int)< 2*(allF F+1)):Qci.f N F (i:Int)=some (atF F i):=by
 have hall:=all_range h
 simp only [Qci.f,F_eta,Qcs N h,Option.bind_some]
 rw [i64w_id (x:=allF F) (by omega) (by omega),i64w_id (by omega) (by omega),if_pos (by omega),(at_both h hi).1]
 rfl
theorem atF_range {F:Fe} (h:T8 F) (i:Int):0≤(atF F i).Qat∧(atF F i).Qat≤255:=by
 have hall:=all_range h
 have h1:=Int.emod_nonneg i (show allF F+1≠0 by omega)
 have h2:=Int.emod_lt_of_pos i (show 0< allF F+1 by omega)
 exact ⟨h1,show i%(allF F+1)≤255 by omega⟩
theorem numF_range {F:Fe} (h:T8 F) {b:Bk} (hb:0≤b.Qat∧b.Qat≤allF F):0≤numF F b∧numF F b< 2*(allF F+1):=by
 have hall:=all_range h
 unfold numF
 split<;>omega
def idx (n:Nat):List Int:=(List.range n).map fun (i:Nat)=>(i:Int)
theorem idx_len (n:Nat):(idx n).length=n:=by simp [idx]
theorem idx_get {n i:Nat} (h:i< (idx n).length):(idx n)[i]=(i:Int):=by simp [idx]
theorem rd_range {t:List Int} (ht:∀ x∈t,-32768≤x∧x≤32767) (i:Int): -32768≤rdL t i 0∧rdL t i 0≤32767:=by
 unfold rdL
 rw [List.getD_eq_getElem?_getD]
 by_cases h:i.toNat< t.length
 ·rw [List.getElem?_eq_getElem h];exact ht _ (List.getElem_mem h)
 ·rw [List.getElem?_eq_none_iff.2 (by omega)];simp
theorem step_code {F:Fe} (h:OkF F) {b:Bk} {i:Nat} (hi:i< (loadsF F b).length):codeF F b (loadsF F b)[i]=0∧0≤(loadsF F b)[i]∧(loadsF F b)[i]≤255∧0≤(crossedB b (loadsF F b)[i]).Qat∧(crossedB b (loadsF F b)[i]).Qat≤allF F:=by
 have hall:=all_range h.t8
 rcases loadsF_mem (List.getElem_mem hi) with q|q
 ·have:=crossedB_range h.t8 q.1
  exact ⟨q.1,q.2.1,by omega,this.1,this.2.1⟩
 ·omega
abbrev Cr:=QaC
abbrev zc:Cr:=Qap
theorem mGet_cons {κ ν:Type} [DecidableEq κ] (p:κ×ν) (kv:List (κ×ν)) (k:κ) (z:ν):mGet (p::kv) k z=if k=p.1 then p.2 else mGet kv k z:=by
 unfold mGet mIdx
 rw [List.findIdx?_cons]
 by_cases c:k=p.1
 ·simp [c]
 ·simp only [c,decide_false,Bool.false_eq_true,if_false]
  cases List.findIdx? (fun p=>decide (k=p.1)) kv with
  |none=>rfl
  |some i=>simp
theorem mSet_cons {κ ν:Type} [DecidableEq κ] (p:κ×ν) (kv:List (κ×ν)) (k:κ) (v:ν):mSet (p::kv) k v=if k=p.1 then (k,v)::kv else p::mSet kv k v:=by
 unfold mSet mIdx
 rw [List.findIdx?_cons]
 by_cases c:k=p.1
 ·simp [c]
 ·simp only [c,decide_false,Bool.false_eq_true,if_false]
  cases List.findIdx? (fun p=>decide (k=p.1)) kv with
  |none=>rfl
  |some i=>simp
theorem mGet_set {κ ν:Type} [DecidableEq κ] (k k':κ) (v z:ν):∀ kv:List (κ×ν),mGet (mSet kv k v) k' z=if k'=k then v else mGet kv k' z
 |[]=>by
  have e:mSet ([]:List (κ×ν)) k v=[(k,v)]:=rfl
  rw [e,mGet_cons]
 |p::kv=>by
  rw [mSet_cons]
  by_cases c:k=p.1
  ·rw [if_pos c,mGet_cons,mGet_cons]
   by_cases d:k'=k
   ·rw [if_pos d,if_pos d]
   ·rw [if_neg d,if_neg d,if_neg (fun e=>d (e.trans c.symm))]
  ·rw [if_neg c,mGet_cons,mGet_cons,mGet_set k k' v z kv]
   by_cases d:k'=p.1
   ·rw [if_pos d,if_pos d,if_neg (fun e=>c (e.symm.trans d))]
   ·rw [if_neg d,if_neg d]
theorem rdL_st {xs:List Int} {a b v:Int} (ha:0≤a∧a< xs.length) (hb:0≤b∧b< xs.length):rdL (stL xs a v) b 0=if b=a then v else rdL xs b 0:=by
 obtain ⟨a,rfl⟩:=Int.eq_ofNat_of_zero_le ha.1
 obtain ⟨b,rfl⟩:=Int.eq_ofNat_of_zero_le hb.1
 unfold rdL stL
 simp only [Int.toNat_natCast,List.getD_eq_getElem?_getD,List.getElem?_set]
 by_cases e:a=b
 ·subst e
  rw [if_pos rfl,if_pos (by omega),if_pos rfl];rfl
 ·rw [if_neg e,if_neg (by omega)]
theorem stL_len (xs:List Int) (a v:Int):(stL xs a v).length=xs.length:=by simp [stL]
theorem rdL_app {α:Type} (xs:List α) (c z:α) {p:Nat} (hp:p< xs.length):rdL (xs++[c]) (p:Int) z=rdL xs (p:Int) z:=by
 unfold rdL
 simp [List.getD_eq_getElem?_getD,List.getElem?_append_left hp]
theorem rdL_new {α:Type} (xs:List α) (c z:α):rdL (xs++[c]) (xs.length:Int) z=c:=by
 unfold rdL
 simp [List.getD_eq_getElem?_getD]
theorem rdL_memb {α:Type} {xs:List α} {z:α} {p:Nat} (hp:p< xs.length):rdL xs (p:Int) z∈xs:=by rw [rdL_nat hp];exact List.getElem_mem hp
theorem memb_rdL {α:Type} {xs:List α} {x:α} (z:α) (h:x∈xs):∃ p:Nat,p< xs.length∧rdL xs (p:Int) z=x:=by
 obtain ⟨p,hp,rfl⟩:=List.mem_iff_getElem.1 h
 exact ⟨p,hp,rdL_nat hp⟩
def nearOk (F:Fe) (b:Bk):Prop:=0≤b.Qat∧b.Qat≤allF F
theorem numF_inj {F:Fe} {a b:Bk} (ha:nearOk F a) (hb:nearOk F b) (h:numF F a=numF F b):a=b:=by
 obtain ⟨x,u⟩:=a
 obtain ⟨y,v⟩:=b
 unfold nearOk at ha hb
 unfold numF at h
 simp only at ha hb h
 cases u<;>cases v<;>simp only [Bool.false_eq_true,if_false,if_true] at h
 ·rw [h]
 ·omega
 ·omega
 ·have:x=y:=by omega
  rw [this]
theorem atF_num {F:Fe} (hT:T8 F) {b:Bk} (hb:nearOk F b):atF F (numF F b)=b:=by
 have hall:=all_range hT
 obtain ⟨x,u⟩:=b
 unfold nearOk at hb
 simp only at hb
 unfold atF numF
 cases u
 ·simp only [Bool.false_eq_true,if_false]
  have h1:x%(allF F+1)=x:=Int.emod_eq_of_lt hb.1 (by omega)
  have h2:¬ x≥allF F+1:=by omega
  rw [h1,decide_eq_false h2]
 ·simp only [if_true]
  have h1:(x+allF F+1)%(allF F+1)=x:=by
   rw [show x+allF F+1=x+(allF F+1) by omega,Int.add_emod_right]
   exact Int.emod_eq_of_lt hb.1 (by omega)
  have h2:x+allF F+1≥allF F+1:=by omega
  rw [h1,decide_eq_true h2]
def nB (F:Fe):Int:=2*(allF F+1)
structure Rel (F:Fe) (out:List Cr) (met:List (Bk×Bool)) (tb fr ba qu:List Int):Prop where
 pos:0< out.length
 q:qu=out.map fun c=>numF F c.Qax
 near:∀ c∈out,nearOk F c.Qax
 nd:(out.map fun c=>numF F c.Qax).Nodup
 met:∀ b,mGet met b false=true↔b∈out.map (·.Qax)
 lt:(tb.length:Int)=nB F∧(fr.length:Int)=nB F∧(ba.length:Int)=nB F
 no:∀ j:Int,0≤j→j< nB F→j∉(out.map fun c=>numF F c.Qax)→rdL tb j 0= -1
 yes:∀ p:Nat,p< out.length→rdL tb (numF F (rdL out (p:Int) zc).Qax) 0=(rdL out (p:Int) zc).QaQ∧
  (p=0→(rdL out (p:Int) zc).QbW= -1∧(rdL out (p:Int) zc).QaQ=0)∧
  (0< p→0≤(rdL out (p:Int) zc).QbW∧(rdL out (p:Int) zc).QbW< p∧1≤(rdL out (p:Int) zc).QaQ∧(rdL out (p:Int) zc).QaQ≤p∧
   rdL ba (numF F (rdL out (p:Int) zc).Qax) 0=(rdL out (p:Int) zc).Qcl∧rdL fr (numF F (rdL out (p:Int) zc).Qax) 0=numF F (rdL out ((rdL out (p:Int) zc).QbW) zc).Qax)
theorem nodup_range_len {l:List Int} {n:Nat} (hd:l.Nodup) (hr:∀ x∈l,0≤x∧x< n):l.length≤n:=by
 have:=hd.length_le_of_subset (l₂:=idx n) (fun x hx=>by
  have:=hr x hx
  exact List.mem_map.2 ⟨x.toNat,List.mem_range.2 (by omega),by omega⟩)
 rwa [idx_len] at this
theorem Rel.len {F:Fe} (hT:T8 F) {out met tb fr ba qu} (h:Rel F out met tb fr ba qu):(out.length:Int)≤nB F:=by
 have hall:=all_range hT
 have:=nodup_range_len (n:=(nB F).toNat) h.nd (fun x hx=>by
  obtain ⟨c,hc,rfl⟩:=List.mem_map.1 hx
  have:=numF_range hT (h.near c hc)
  unfold nB
  omega)
 rw [List.length_map] at this
 unfold nB at this ⊢
 omega
theorem Rel.found {F:Fe} {out met tb fr ba qu} (h:Rel F out met tb fr ba qu) {b:Bk} (hb:nearOk F b):b∈out.map (·.Qax)↔numF F b∈out.map fun c=>numF F c.Qax:=by
 constructor
 ·intro hm
  obtain ⟨c,hc,rfl⟩:=List.mem_map.1 hm
  exact List.mem_map.2 ⟨c,hc,rfl⟩
 ·intro hm
  obtain ⟨c,hc,he⟩:=List.mem_map.1 hm
  exact List.mem_map.2 ⟨c,hc,numF_inj (h.near c hc) hb he⟩
theorem Rel.tb_nonneg {F:Fe} {out met tb fr ba qu} (h:Rel F out met tb fr ba qu) {p:Nat} (hp:p< out.length):0≤(rdL out (p:Int) zc).QaQ∧(rdL out (p:Int) zc).QaQ≤p:=by
 have:=h.yes p hp
 by_cases c:p=0
 ·have:=this.2.1 c;omega
 ·have:=this.2.2 (by omega);omega
theorem Rel.tells {F:Fe} (hT:T8 F) {out met tb fr ba qu} (h:Rel F out met tb fr ba qu) {b:Bk} (hb:nearOk F b):rdL tb (numF F b) 0< 0↔¬ mGet met b false=true:=by
 have hr:=numF_range hT hb
 rw [h.met b,h.found hb]
 constructor
 ·intro hlt hm
  obtain ⟨c,hc,he⟩:=List.mem_map.1 hm
  obtain ⟨p,hp,rfl⟩:=memb_rdL zc hc
  have:=(h.yes p hp).1
  have:=h.tb_nonneg hp
  rw [← he] at hlt
  omega
 ·intro hm
  rw [h.no _ hr.1 hr.2 hm]
  decide
theorem Rel.add {F:Fe} (hT:T8 F) {out met tb fr ba qu} (h:Rel F out met tb fr ba qu) {b:Bk} (hb:nearOk F b) (hm:¬ mGet met b false=true) {i:Nat} (hi:i< out.length) (l:Int):
 Rel F (out++[⟨b,(i:Int),l,(rdL out (i:Int) zc).QaQ+1⟩]) (mSet met b true) (stL tb (numF F b) ((rdL out (i:Int) zc).QaQ+1)) (stL fr (numF F b) (numF F (rdL out (i:Int) zc).Qax)) (stL ba (numF F b) l) (qu++[numF F b]):=by
 have hr:=numF_range hT hb
 have hnot:numF F b∉out.map fun c=>numF F c.Qax:=fun hx=>hm ((h.met b).2 ((h.found hb).2 hx))
 have hl:=h.lt
 have hrT:0≤numF F b∧numF F b< tb.length:=⟨hr.1,by unfold nB at hl;omega⟩
 have hrF:0≤numF F b∧numF F b< fr.length:=⟨hr.1,by unfold nB at hl;omega⟩
 have hrB:0≤numF F b∧numF F b< ba.length:=⟨hr.1,by unfold nB at hl;omega⟩
 refine ⟨by simp,by rw [h.q];simp,?_,?_,?_,⟨by rw [stL_len];exact hl.1,by rw [stL_len];exact hl.2.1,by rw [stL_len];exact hl.2.2⟩,?_,?_⟩
 ·intro c hc
  rcases List.mem_append.1 hc with hc|hc
  ·exact h.near c hc
  ·rw [List.mem_singleton] at hc;subst hc;exact hb
 ·rw [List.map_append,List.nodup_append]
  refine ⟨h.nd,by simp,?_⟩
  intro x hx y hy e
  simp only [List.map_cons,List.map_nil,List.mem_singleton] at hy
  subst hy
  exact hnot (e▸hx)
 ·intro b'
  rw [mGet_set,List.map_append,List.mem_append]
  by_cases e:b'=b
  ·subst e;simp
  ·rw [if_neg e,h.met b']
   simp [e]
 ·intro j j0 j1 hj
  rw [List.map_append,List.mem_append] at hj
  have h1:j∉out.map fun c=>numF F c.Qax:=fun x=>hj (.inl x)
  have h2:¬ j=numF F b:=fun x=>hj (.inr (by simp [x]))
  rw [rdL_st hrT ⟨j0,by omega⟩,if_neg h2]
  exact h.no j j0 j1 h1
 ·intro p hp
  rw [List.length_append,List.length_singleton] at hp
  by_cases hpo:p< out.length
  ·rw [rdL_app _ _ _ hpo]
   have hc:=rdL_memb (z:=zc) hpo
   have hrp:=numF_range hT (h.near _ hc)
   have hne:¬ numF F (rdL out (p:Int) zc).Qax=numF F b:=fun e=>hnot (e▸List.mem_map.2 ⟨_,hc,rfl⟩)
   obtain ⟨y1,y2,y3⟩:=h.yes p hpo
   refine ⟨by rw [rdL_st hrT ⟨hrp.1,by unfold nB at hl;omega⟩,if_neg hne];exact y1,y2,fun h0=>?_⟩
   obtain ⟨z1,z2,z3,z4,z5,z6⟩:=y3 h0
   refine ⟨z1,z2,z3,z4,by rw [rdL_st hrB ⟨hrp.1,by unfold nB at hl;omega⟩,if_neg hne];exact z5,?_⟩
   rw [rdL_st hrF ⟨hrp.1,by unfold nB at hl;omega⟩,if_neg hne,z6]
   obtain ⟨q,hq⟩:=Int.eq_ofNat_of_zero_le z1
   rw [hq] at z2 ⊢
   rw [rdL_app _ _ _ (by omega)]
  ·obtain rfl:p=out.length:=by omega
   rw [rdL_new]
   have hmn:=h.tb_nonneg hi
   refine ⟨by rw [rdL_st hrT hrT,if_pos rfl],fun h0=>by have:=h.pos;omega,fun _=>⟨by dsimp only;omega,by dsimp only;omega,by dsimp only;omega,by dsimp only;omega,by rw [rdL_st hrB hrB,if_pos rfl],?_⟩⟩
   rw [rdL_st hrF hrF,if_pos rfl]
   dsimp only
   rw [rdL_app _ _ _ hi]
theorem rdL_map {α:Type} (g:α→Int) (xs:List α) (z:α) {p:Nat} (hp:p< xs.length):rdL (xs.map g) (p:Int) 0=g (rdL xs (p:Int) z):=by
 rw [rdL_nat (by simpa using hp),rdL_nat hp,List.getElem_map]
theorem rdL_pre {α:Type} (xs ys:List α) (z:α) {p:Nat} (hp:p< xs.length):rdL (xs++ys) (p:Int) z=rdL xs (p:Int) z:=by
 unfold rdL
 simp [List.getD_eq_getElem?_getD,List.getElem?_append_left hp]
theorem j7_next {N:Nat} {to k j:Int} {qu0 ways tb fr ba qu:List Int} {n:Int} (h1:0≤to∧to< n) (h2:0≤rdL qu0 k 0∧rdL qu0 k 0< n) (ht:(tb.length:Int)=n) (hw:(ways.length:Int)=n):
 ∃ ways',(ways'.length:Int)=n∧QaD.j7 N to qu0 k ways j tb fr ba qu=some (.next (tb,ways',fr,ba,qu,i64w (j+1))):=by
 unfold QaD.j7
 rw [if_pos ⟨h1.1,by omega⟩,if_pos ⟨h2.1,by omega⟩]
 by_cases c:rdL tb to 0=i16w (rdL tb (rdL qu0 k 0) 0+1)
 ·rw [if_pos c,if_pos ⟨h1.1,by omega⟩,if_pos ⟨h2.1,by omega⟩,if_pos ⟨h1.1,by omega⟩]
  exact ⟨_,by rw [stL_len];exact hw,rfl⟩
 ·rw [if_neg c]
  exact ⟨_,hw,rfl⟩
def Closed (F:Fe) (out:List Cr) (i:Int):Prop:=∀ p:Nat,(p:Int)< i→∀ l∈loadsF F (rdL out (p:Int) zc).Qax,crossedB (rdL out (p:Int) zc).Qax l∈out.map (·.Qax)
theorem inner {N:Nat} {F:Fe} (h:OkF F) (hN:2000< N) {out0:List Cr} {met0:List (Bk×Bool)} {tb0 fr0 ba0 qu0 wy0:List Int} (hR:Rel F out0 met0 tb0 fr0 ba0 qu0) (hw0:(wy0.length:Int)=nB F) {i:Nat} (hi:i< out0.length):
 ∃ tb wy fr ba qu out met,rounds (fun s=>QaD.b4 N (loadsF F (rdL out0 (i:Int) zc).Qax) F (rdL out0 (i:Int) zc).Qax qu0 (i:Int) s.1 s.2.1 s.2.2.1 s.2.2.2.1 s.2.2.2.2.1 s.2.2.2.2.2) N (tb0,wy0,fr0,ba0,qu0,0)=some (.go (tb,wy,fr,ba,qu))∧
  rounds (fun s=>Qau.b2 N (loadsF F (rdL out0 (i:Int) zc).Qax) (i:Int) s.1 s.2.1 s.2.2) N (out0,met0,0)=some (.go (out,met))∧Rel F out met tb fr ba qu∧(wy.length:Int)=nB F∧(∃ ext,out=out0++ext)∧
  ∀ l∈loadsF F (rdL out0 (i:Int) zc).Qax,crossedB (rdL out0 (i:Int) zc).Qax l∈out.map (·.Qax):=by
 have hall:=all_range h.t8
 generalize hb:(rdL out0 (i:Int) zc).Qax=b
 have hbn:nearOk F b:=by rw [← hb];exact hR.near _ (rdL_memb hi)
 have hb255:0≤b.Qat∧b.Qat≤255:=⟨hbn.1,by have:=hbn.2;omega⟩
 have hll:=loadsF_len h.t8 b
 have hat:rdL qu0 (i:Int) 0=numF F b:=by rw [hR.q,rdL_map _ _ zc hi,hb]
 have hnb:=numF_range h.t8 hbn
 obtain ⟨e,e',h1,h2,h3⟩:=rounds_both (b:=fun s=>QaD.b4 N (loadsF F b) F b qu0 (i:Int) s.1 s.2.1 s.2.2.1 s.2.2.2.1 s.2.2.2.2.1 s.2.2.2.2.2) (b':=fun s=>Qau.b2 N (loadsF F b) (i:Int) s.1 s.2.1 s.2.2)
  (fun s s'=>s.2.2.2.2.2=s'.2.2∧0≤s'.2.2∧s'.2.2≤((loadsF F b).length:Int)∧Rel F s'.1 s'.2.1 s.1 s.2.2.1 s.2.2.2.1 s.2.2.2.2.1∧(s.2.1.length:Int)=nB F∧(∃ ext,s'.1=out0++ext)∧∀ m:Nat,(hm:m< (loadsF F b).length)→(m:Int)< s'.2.2→crossedB b (loadsF F b)[m]∈s'.1.map (·.Qax))
  (fun s=>(((loadsF F b).length:Int) - s.2.2.2.2.2).toNat)
  (fun e e'=>∃ tb wy fr ba qu out met,e= .go (tb,wy,fr,ba,qu)∧e'= .go (out,met)∧Rel F out met tb fr ba qu∧(wy.length:Int)=nB F∧(∃ ext,out=out0++ext)∧∀ l∈loadsF F b,crossedB b l∈out.map (·.Qax)) (by
  rintro ⟨tb,wy,fr,ba,qu,j⟩ ⟨out,met,j'⟩ ⟨r1,r2,r3,r4,r5,r6,r7⟩
  simp only at r1 r2 r3 r4 r5 r6 r7
  subst r1
  obtain ⟨j,rfl⟩:=Int.eq_ofNat_of_zero_le r2
  by_cases hj:j< (loadsF F b).length
  ·right
   have g1:(j:Int)< (loadsF F b).length:=by omega
   have g2:(0:Int)≤j:=by omega
   obtain ⟨hcode,hl0,hl1,hn0,hn1⟩:=step_code h hj
   have hnb':nearOk F (crossedB b (loadsF F b)[j]):=⟨hn0,hn1⟩
   have hto:=numF_range h.t8 hnb'
   have hlt:=r4.lt
   have hlen:=r4.len h.t8
   obtain ⟨ext,hext⟩:=r6
   have hio:i< out.length:=by rw [hext,List.length_append];omega
   have hoi:rdL out (i:Int) zc=rdL out0 (i:Int) zc:=by rw [hext];exact rdL_pre _ _ _ hi
   have hmn:=r4.tb_nonneg hio
   have hyes:=(r4.yes i hio).1
   rw [hoi,hb] at hyes
   have hi512:(i:Int)< 512:=by unfold nB at hlen;omega
   have hw1:i16w ((rdL out0 (i:Int) zc).QaQ+1)=(rdL out0 (i:Int) zc).QaQ+1:=by rw [hoi] at hmn;exact i16w_id (by omega) (by omega)
   have hw2:i64w ((rdL out0 (i:Int) zc).QaQ+1)=(rdL out0 (i:Int) zc).QaQ+1:=by rw [hoi] at hmn;exact i64w_id (by omega) (by omega)
   have hcr:∀ b l,Qbm.f N b l=some (crossedB b l):=fun _ _=>rfl
   have hnext:i64w ((j:Int)+1)=((j+1:Nat):Int):=i64w_succ hj (by omega)
   have gi:(0:Int)≤(i:Int)∧(i:Int)< (out.length:Int):=⟨by omega,by omega⟩
   have gT:0≤numF F (crossedB b (loadsF F b)[j])∧numF F (crossedB b (loadsF F b)[j])< (tb.length:Int):=⟨hto.1,by unfold nB at hlt;omega⟩
   have gA:0≤numF F b∧numF F b< (tb.length:Int):=⟨hnb.1,by unfold nB at hlt;omega⟩
   have gF:0≤numF F (crossedB b (loadsF F b)[j])∧numF F (crossedB b (loadsF F b)[j])< (fr.length:Int):=⟨hto.1,by unfold nB at hlt;omega⟩
   have gB:0≤numF F (crossedB b (loadsF F b)[j])∧numF F (crossedB b (loadsF F b)[j])< (ba.length:Int):=⟨hto.1,by unfold nB at hlt;omega⟩
   have hql:qu.length=out.length:=by rw [r4.q,List.length_map]
   simp only [QaD.b4,Qau.b2,g1,g2,and_self,if_true,rdL_nat hj,F_eta,cross_spec h (show 40< N by omega) hb255 ⟨hl0,show (loadsF F b)[j]≤65535 by omega⟩,hcode,Option.bind_some,index_spec h.t8 (N:=N) ⟨hn0,show (crossedB b (loadsF F b)[j]).Qat≤255 by omega⟩,if_pos gi,hoi,hb,hcr,if_pos gT,hat,if_pos gA,if_pos gF,if_pos gB,List.length_singleton,hyes,hw1,hw2]
   by_cases hnew:rdL tb (numF F (crossedB b (loadsF F b)[j])) 0< 0
   ·have hmet:=(r4.tells h.t8 hnb').1 hnew
    rw [if_pos hnew,if_neg hmet,if_pos (by unfold nB at hlen;omega),if_pos (by unfold nB at hlen;omega)]
    have hadd:=r4.add h.t8 hnb' hmet hio (loadsF F b)[j]
    rw [hoi,hb] at hadd
    obtain ⟨wy',hwl,hj7⟩:=j7_next (N:=N) (to:=numF F (crossedB b (loadsF F b)[j])) (k:=(i:Int)) (j:=(j:Int)) (qu0:=qu0) (ways:=wy) (tb:=stL tb (numF F (crossedB b (loadsF F b)[j])) ((rdL out0 (i:Int) zc).QaQ+1)) (fr:=stL fr (numF F (crossedB b (loadsF F b)[j])) (numF F b)) (ba:=stL ba (numF F (crossedB b (loadsF F b)[j])) (loadsF F b)[j]) (qu:=qu++[numF F (crossedB b (loadsF F b)[j])]) (n:=nB F) hto (by rw [hat];exact hnb) hadd.lt.1 r5
    rw [hj7]
    simp only [Qau.j4,hnext]
    refine ⟨_,_,rfl,rfl,⟨rfl,by dsimp only;omega,by dsimp only;omega,hadd,hwl,⟨ext++[⟨crossedB b (loadsF F b)[j],(i:Int),(loadsF F b)[j],(rdL out0 (i:Int) zc).QaQ+1⟩],by rw [hext,List.append_assoc]⟩,?_⟩,by dsimp only;omega⟩
    intro m hm hmj
    rw [List.map_append,List.mem_append]
    by_cases e:m=j
    ·subst e;right;simp
    ·left;exact r7 m hm (by dsimp only at hmj;omega)
   ·have hmet:mGet met (crossedB b (loadsF F b)[j]) false=true:=by
     have:=(not_congr (r4.tells h.t8 hnb')).1 hnew
     simpa using this
    rw [if_neg hnew,if_pos hmet]
    obtain ⟨wy',hwl,hj7⟩:=j7_next (N:=N) (to:=numF F (crossedB b (loadsF F b)[j])) (k:=(i:Int)) (j:=(j:Int)) (qu0:=qu0) (ways:=wy) (tb:=tb) (fr:=fr) (ba:=ba) (qu:=qu) (n:=nB F) hto (by rw [hat];exact hnb) hlt.1 r5
    rw [hj7]
    simp only [Qau.j4,hnext]
    refine ⟨_,_,rfl,rfl,⟨rfl,by dsimp only;omega,by dsimp only;omega,r4,hwl,⟨ext,hext⟩,?_⟩,by dsimp only;omega⟩
    intro m hm hmj
    by_cases e:m=j
    ·subst e;exact (r4.met _).1 hmet
    ·exact r7 m hm (by dsimp only at hmj;omega)
  ·left
   have g1:¬ (j:Int)< (loadsF F b).length:=by omega
   simp only [QaD.b4,Qau.b2,g1,if_false]
   refine ⟨_,_,rfl,rfl,_,_,_,_,_,_,_,rfl,rfl,r4,r5,r6,?_⟩
   intro l hl
   obtain ⟨m,hm,rfl⟩:=List.mem_iff_getElem.1 hl
   exact r7 m hm (by omega)) N N (tb0,wy0,fr0,ba0,qu0,0) (out0,met0,0) ⟨rfl,by simp,by simp,hR,hw0,⟨[],by simp⟩,fun m hm hmj=>by dsimp only at hmj;omega⟩ (by dsimp only;omega) (by dsimp only;omega)
 obtain ⟨tb,wy,fr,ba,qu,out,met,rfl,rfl,q1,q2,q3,q4⟩:=h3
 exact ⟨tb,wy,fr,ba,qu,out,met,h1,h2,q1,q2,q3,q4⟩
theorem outer {N:Nat} {F:Fe} (h:OkF F) (hN:2000< N) {out0:List Cr} {met0:List (Bk×Bool)} {tb0 fr0 ba0 qu0 wy0:List Int} (hR:Rel F out0 met0 tb0 fr0 ba0 qu0) (hw0:(wy0.length:Int)=nB F):
 ∃ tb wy fr ba qu out met,rounds (fun s=>QaD.b2 N F s.1 s.2.1 s.2.2.1 s.2.2.2.1 s.2.2.2.2.1 s.2.2.2.2.2) N (tb0,wy0,fr0,ba0,qu0,0)=some (.go (tb,wy,fr,ba))∧
  rounds (fun s=>Qau.b0 N F s.1 s.2.1 s.2.2) N (out0,met0,0)=some (.go out)∧Rel F out met tb fr ba qu∧(∃ ext,out=out0++ext)∧Closed F out (out.length:Int):=by
 have hall:=all_range h.t8
 obtain ⟨e,e',h1,h2,h3⟩:=rounds_both (b:=fun s=>QaD.b2 N F s.1 s.2.1 s.2.2.1 s.2.2.2.1 s.2.2.2.2.1 s.2.2.2.2.2) (b':=fun s=>Qau.b0 N F s.1 s.2.1 s.2.2)
  (fun s s'=>s.2.2.2.2.2=s'.2.2∧0≤s'.2.2∧s'.2.2≤(s'.1.length:Int)∧Rel F s'.1 s'.2.1 s.1 s.2.2.1 s.2.2.2.1 s.2.2.2.2.1∧(s.2.1.length:Int)=nB F∧(∃ ext,s'.1=out0++ext)∧Closed F s'.1 s'.2.2)
  (fun s=>(513 - s.2.2.2.2.2).toNat)
  (fun e e'=>∃ tb wy fr ba qu out met,e= .go (tb,wy,fr,ba)∧e'= .go out∧Rel F out met tb fr ba qu∧(∃ ext,out=out0++ext)∧Closed F out (out.length:Int)) (by
  rintro ⟨tb,wy,fr,ba,qu,i⟩ ⟨out,met,i'⟩ ⟨r1,r2,r3,r4,r5,r6,r7⟩
  simp only at r1 r2 r3 r4 r5 r6 r7
  subst r1
  obtain ⟨i,rfl⟩:=Int.eq_ofNat_of_zero_le r2
  have hlen:=r4.len h.t8
  have hql:qu.length=out.length:=by rw [r4.q,List.length_map]
  by_cases hi:i< out.length
  ·right
   have g1:(i:Int)< out.length:=by omega
   have g1':(i:Int)< qu.length:=by omega
   have g2:(0:Int)≤i:=by omega
   have hbn:nearOk F (rdL out (i:Int) zc).Qax:=r4.near _ (rdL_memb hi)
   have hat:rdL qu (i:Int) 0=numF F (rdL out (i:Int) zc).Qax:=by rw [r4.q,rdL_map _ _ zc hi]
   have hnb:=numF_range h.t8 hbn
   obtain ⟨n,hn⟩:=Int.eq_ofNat_of_zero_le hnb.1
   have hat2:Qci.f N F (numF F (rdL out (i:Int) zc).Qax)=some (rdL out (i:Int) zc).Qax:=by
    rw [hn,at_spec h.t8 (by omega),← hn,atF_num h.t8 hbn]
   have hb255:0≤(rdL out (i:Int) zc).Qax.Qat∧(rdL out (i:Int) zc).Qax.Qat≤255:=⟨hbn.1,by have:=hbn.2;omega⟩
   obtain ⟨tb',wy',fr',ba',qu',out',met',q1,q2,q3,q4,⟨ext,q5⟩,q6⟩:=inner h hN r4 r5 hi
   have hnext:i64w ((i:Int)+1)=((i+1:Nat):Int):=i64w_succ hi (by unfold nB at hlen;omega)
   have hlen':=q3.len h.t8
   simp only [QaD.b2,Qau.b0,g1,g1',g2,and_self,if_true,hat,hat2,F_eta,Option.bind_some,loads_spec h (show 300< N by omega) hb255,loads_impl h (show 300< N by omega) hb255]
   rw [show (zc:Cr)=Qap from rfl] at q1 q2
   rw [q1,q2]
   simp only [Option.bind_some,Ex.finB,QaD.a4,Qau.a2,hnext]
   obtain ⟨ext0,r6⟩:=r6
   have hl2:out.length≤out'.length:=by rw [q5,List.length_append];omega
   refine ⟨_,_,rfl,rfl,⟨rfl,by dsimp only;omega,by dsimp only;omega,q3,q4,⟨ext0++ext,by dsimp only;rw [q5,r6,List.append_assoc]⟩,?_⟩,by dsimp only;unfold nB at hlen;omega⟩
   intro p hp l hl
   dsimp only at hp hl ⊢
   have hpo:p< out.length:=by omega
   have hpe:rdL out' (p:Int) zc=rdL out (p:Int) zc:=by rw [q5];exact rdL_pre _ _ _ hpo
   rw [hpe] at hl ⊢
   by_cases e:p=i
   ·subst e;exact q6 l hl
   ·rw [q5,List.map_append,List.mem_append]
    left;exact r7 p (by omega) l hl
  ·left
   have g1:¬ (i:Int)< out.length:=by omega
   have g1':¬ (i:Int)< qu.length:=by omega
   simp only [QaD.b2,Qau.b0,g1,g1',if_false]
   refine ⟨_,_,rfl,rfl,_,_,_,_,_,_,_,rfl,rfl,r4,r6,?_⟩
   have:i=out.length:=by omega
   rw [this] at r7
   exact r7) N N (tb0,wy0,fr0,ba0,qu0,0) (out0,met0,0) ⟨rfl,by simp,by simp,hR,hw0,⟨[],by simp⟩,fun p hp=>by dsimp only at hp;omega⟩ (by dsimp only;omega) (by dsimp only;omega)
 obtain ⟨tb,wy,fr,ba,qu,out,met,rfl,rfl,q1,q2,q3⟩:=h3
 exact ⟨tb,wy,fr,ba,qu,out,met,h1,h2,q1,q2,q3⟩
theorem rounds_first {α ρ:Type} {b:Int→Option (Bd ρ Unit Int)} (a:List α) (p:α→Bool) (r:Nat→ρ) {N:Nat} (hN:a.length< N)
 (h:∀ i (hi:i< a.length),b (i:Int)=if p a[i]=true then some (.out (.ret (r i))) else some (.next ((i+1:Nat):Int)))
 (he:b (a.length:Int)=some (.out (.go ()))):∃ e,rounds b N 0=some e∧((∃ i,∃ hi:i< a.length,p a[i]=true∧e= .ret (r i))∨((∀ x∈a,p x=false)∧e= .go ())):=by
 have main:∀ (n k:Nat),k≤a.length→a.length - k< n→(∀ m (hm:m< a.length),m< k→p a[m]=false)→∃ e,rounds b n (k:Int)=some e∧((∃ i,∃ hi:i< a.length,p a[i]=true∧e= .ret (r i))∨((∀ x∈a,p x=false)∧e= .go ())):=by
  intro n
  induction n with
  |zero=>intro k _ hk;omega
  |succ n ih=>
   intro k hk hn hpre
   by_cases hl:k< a.length
   ·have hb:=h k hl
    by_cases hp:p a[k]=true
    ·rw [if_pos hp] at hb
     exact ⟨_,rounds_out hb, .inl ⟨k,hl,hp,rfl⟩⟩
    ·rw [if_neg hp] at hb
     obtain ⟨e,h1,h2⟩:=ih (k+1) hl (by omega) (fun m hm hmk=>by
      by_cases c:m=k
      ·subst c;simpa using hp
      ·exact hpre m hm (by omega))
     exact ⟨e,(rounds_next hb).trans h1,h2⟩
   ·obtain rfl:k=a.length:=by omega
    refine ⟨_,rounds_out he, .inr ⟨fun x hx=>?_,rfl⟩⟩
    obtain ⟨m,hm,rfl⟩:=List.mem_iff_getElem.1 hx
    exact hpre m hm hm
 exact main N 0 (Nat.zero_le _) (by omega) (fun m _ hm=>by omega)
def c0F (F:Fe):Cr:=⟨⟨allF F,false⟩,-1,0,0⟩
theorem repl_len {F:Fe} (hT:T8 F) (v:Int):((List.replicate (nB F).toNat v).length:Int)=nB F:=by
 have:=all_range hT
 simp [nB]
 omega
theorem repl_rd {n:Nat} {v j:Int} (h0:0≤j) (h1:j< n):rdL (List.replicate n v) j 0=v:=by
 obtain ⟨j,rfl⟩:=Int.eq_ofNat_of_zero_le h0
 rw [rdL_nat (by simp;omega),List.getElem_replicate]
theorem rel0 {F:Fe} (hT:T8 F):Rel F [c0F F] (mSet [] (⟨allF F,false⟩:Bk) true) (stL (List.replicate (nB F).toNat (-1)) (allF F) 0) (List.replicate (nB F).toNat 0) (List.replicate (nB F).toNat 0) [allF F]:=by
 have hall:=all_range hT
 have hn:numF F (c0F F).Qax=allF F:=rfl
 have hl1:=repl_len hT (-1)
 have hl0:=repl_len hT 0
 have hA:0≤allF F∧allF F< ((List.replicate (nB F).toNat (-1:Int)).length:Int):=⟨by omega,by rw [hl1];unfold nB;omega⟩
 refine ⟨by simp,by simp [hn],?_,by simp,?_,⟨by rw [stL_len];exact hl1,hl0,hl0⟩,?_,?_⟩
 ·intro c hc
  rw [List.mem_singleton] at hc
  subst hc
  exact ⟨show 0≤allF F by omega,Int.le_refl _⟩
 ·intro b
  rw [mGet_set]
  have e:mGet ([]:List (Bk×Bool)) b false=false:=rfl
  rw [e]
  by_cases c:b=⟨allF F,false⟩
  ·rw [if_pos c];simp [c,c0F]
  ·rw [if_neg c];simp [c,c0F]
 ·intro j j0 j1 hj
  simp only [List.map_cons,List.map_nil,List.mem_singleton,hn] at hj
  rw [rdL_st hA ⟨j0,by rw [hl1];exact j1⟩,if_neg hj]
  exact repl_rd j0 (by have:=all_range hT;unfold nB at j1 ⊢;omega)
 ·intro p hp
  simp only [List.length_singleton] at hp
  obtain rfl:p=0:=by omega
  have e:rdL [c0F F] ((0:Nat):Int) zc=c0F F:=rfl
  rw [e,hn,rdL_st hA hA,if_pos rfl]
  exact ⟨rfl,fun _=>⟨rfl,rfl⟩,fun h=>absurd h (by decide)⟩
theorem search_both {N:Nat} {F:Fe} (h:OkF F) (hN:2000< N):∃ tb wy fr ba qu out met,QaD.f N F=some ⟨tb,wy,fr,ba⟩∧Qau.f N F=some out∧Rel F out met tb fr ba qu∧(∃ ext,out=c0F F::ext)∧Closed F out (out.length:Int):=by
 have hall:=all_range h.t8
 have hl1:=repl_len h.t8 (-1)
 have hl0:=repl_len h.t8 0
 have hnB:(nB F).toNat≤512∧0≤nB F:=by unfold nB;omega
 obtain ⟨tb,wy,fr,ba,qu,out,met,q1,q2,q3,⟨ext,q4⟩,q5⟩:=outer h hN (rel0 h.t8) (wy0:=stL (List.replicate (nB F).toNat 0) (allF F) 1) (by rw [stL_len];exact hl0)
 refine ⟨tb,wy,fr,ba,qu,out,met,?_,?_,q3,⟨ext,by rw [q4];rfl⟩,q5⟩
 ·have e1:i64w (2*i64w (i64w (allF F)+1))=nB F:=by
   rw [i64w_id (x:=allF F) (by omega) (by omega),i64w_id (x:=allF F+1) (by omega) (by omega),i64w_id (by omega) (by omega)];rfl
  have hf:=rounds_copy (b:=fun s=>QaD.b0 N (allF F) s.1 s.2) (List.replicate (nB F).toNat (-1)) (0:Int) (N:=N) (by simp;omega) (by
   intro x i hi hx
   rw [List.length_replicate] at hi
   rw [List.length_replicate] at hx
   have g1:(i:Int)< nB F:=by omega
   have g2:(0:Int)≤(i:Int)∧(i:Int)< (x.length:Int):=⟨by omega,by omega⟩
   simp only [QaD.b0,e1,if_pos g1,if_pos g2,stL_nat,List.getElem_replicate]
   rw [i64w_id (by omega) (by omega)]
   rfl) (by
   intro x hx
   rw [List.length_replicate] at hx ⊢
   simp only [QaD.b0,e1]
   rw [if_neg (by omega)])
  rw [List.length_replicate] at hf
  have e2:i64w (2*i64w (allF F+1))=nB F:=by
   rw [i64w_id (x:=allF F+1) (by omega) (by omega),i64w_id (by omega) (by omega)];rfl
  have hA:(0:Int)≤allF F∧allF F< ((List.replicate (nB F).toNat (-1:Int)).length:Int):=⟨by omega,by rw [hl1];unfold nB;omega⟩
  have hA0:(0:Int)≤allF F∧allF F< ((List.replicate (nB F).toNat (0:Int)).length:Int):=⟨by omega,by rw [hl0];unfold nB;omega⟩
  have hg1:(0:Int)≤nB F∧nB F≤140737488355328:=⟨hnB.2,by omega⟩
  have hg2:(0:Int)≤nB F∧nB F≤35184372088832:=⟨hnB.2,by omega⟩
  simp only [QaD.f,F_eta,Qcs N h.t8,Option.bind_some,e1,e2,if_pos hg1,if_pos hg2,hf,Ex.fin,QaD.a0,i64w_id (x:=allF F) (by omega) (by omega),if_pos hA,if_pos hA0,q1,QaD.a2]
 ·simp only [Qau.f,F_eta,Qcm N h.t8,Option.bind_some]
  have e:([(⟨(⟨allF F,false⟩:Qak),(-1),0,0⟩:QaC)]:List Cr)=[c0F F]:=rfl
  rw [e,q2]
  rfl
def rvf (xs:List Int) (k m:Nat):Int:=if m< k∨xs.length - k≤m then xs.getD (xs.length - 1 - m) 0 else xs.getD m 0
def rv (xs:List Int) (k:Nat):List Int:=(List.range xs.length).map (rvf xs k)
theorem rv_len (xs:List Int) (k:Nat):(rv xs k).length=xs.length:=by simp [rv]
theorem rv_rd {xs:List Int} {k m:Nat} (hm:m< xs.length):rdL (rv xs k) (m:Int) 0=rvf xs k m:=by
 rw [rdL_nat (by rw [rv_len];exact hm)]
 simp [rv]
theorem map_set (f:Nat→Int) (n k:Nat) (v:Int):((List.range n).map f).set k v=(List.range n).map fun m=>if m=k then v else f m:=by
 apply List.ext_getElem
 ·simp
 ·intro m h1 h2
  rw [List.getElem_set]
  simp only [List.getElem_map,List.getElem_range]
  by_cases c:k=m
  ·rw [if_pos c,if_pos c.symm]
  ·rw [if_neg c,if_neg (fun e=>c e.symm)]
theorem rev_eq {N:Nat} (xs:List Int) (hl:xs.length≤1000) (hN:2000< N):QaM.f N xs=some xs.reverse:=by
 have q:=rounds_for (b:=fun s=>QaM.b0 N s.1 s.2.1 s.2.2) (e:= .go xs.reverse) (fun k=>(rv xs k,(k:Int),(xs.length:Int) - 1 - (k:Int))) (xs.length/2) 0 N (by omega) (by omega) (by
  intro k _ hk
  have g0:(k:Int)< (xs.length:Int) - 1 - (k:Int):=by omega
  have gk:(0:Int)≤(k:Int)∧(k:Int)< ((rv xs k).length:Int):=⟨by omega,by rw [rv_len];omega⟩
  obtain ⟨j,hj⟩:∃ j:Nat,(xs.length:Int) - 1 - (k:Int)=(j:Int):=⟨xs.length - 1 - k,by omega⟩
  have gj:(0:Int)≤(j:Int)∧(j:Int)< ((rv xs k).length:Int):=⟨by omega,by rw [rv_len];omega⟩
  have gj2:∀ v,(0:Int)≤(j:Int)∧(j:Int)< ((stL (rv xs k) (k:Int) v).length:Int):=fun v=>⟨by omega,by rw [stL_len,rv_len];omega⟩
  rw [hj] at g0 ⊢
  simp only [QaM.b0,if_pos g0,if_pos gk,if_pos gj,if_pos (gj2 _)]
  rw [rv_rd (by omega),rv_rd (by omega),i64w_id (by omega) (by omega),i64w_id (by omega) (by omega)]
  have e1:stL (stL (rv xs k) (k:Int) (rvf xs k j)) (j:Int) (rvf xs k k)=rv xs (k+1):=by
   rw [stL_nat,stL_nat]
   unfold rv
   rw [map_set,map_set]
   apply List.map_congr_left
   intro m hm
   have:=List.mem_range.1 hm
   have hjn:j=xs.length - 1 - k:=by omega
   unfold rvf
   by_cases c1:m=j
   ·rw [if_pos c1,if_neg (by omega),if_pos (by omega)]
    congr 1;omega
   ·rw [if_neg c1]
    by_cases c2:m=k
    ·rw [if_pos c2,if_neg (by omega),if_pos (by omega)]
     congr 1;omega
    ·rw [if_neg c2]
     by_cases c3:m< k∨xs.length - k≤m
     ·rw [if_pos c3,if_pos (by omega)]
     ·rw [if_neg c3,if_neg (by omega)]
  rw [e1,show (k:Int)+1=((k+1:Nat):Int) by omega,show (j:Int) - 1=(xs.length:Int) - 1 - ((k+1:Nat):Int) by omega]) (by
  simp only [QaM.b0]
  rw [if_neg (by omega)]
  have:rv xs (xs.length/2)=xs.reverse:=by
   apply List.ext_getElem
   ·simp [rv]
   ·intro m h1 h2
    rw [rv_len] at h1
    simp only [rv,List.getElem_map,List.getElem_range,List.getElem_reverse]
    unfold rvf
    by_cases c:m< xs.length/2∨xs.length - xs.length/2≤m
    ·rw [if_pos c]
     simp [List.getD_eq_getElem?_getD,List.getElem?_eq_getElem (show xs.length - 1 - m< xs.length by omega)]
    ·rw [if_neg c]
     have e:xs.length - 1 - m=m:=by omega
     simp only [e]
     simp [List.getD_eq_getElem?_getD,List.getElem?_eq_getElem h1]
  rw [this])
 have e0:rv xs 0=xs:=by
  apply List.ext_getElem
  ·simp [rv]
  ·intro m h1 h2
   simp only [rv,List.getElem_map,List.getElem_range]
   unfold rvf
   rw [if_neg (by omega)]
   simp [List.getD_eq_getElem?_getD,List.getElem?_eq_getElem h2]
 have q':rounds (fun s=>QaM.b0 N s.1 s.2.1 s.2.2) N (xs,0,i64w ((xs.length:Int) - 1))=some (.go xs.reverse):=by
  rw [i64w_id (by omega) (by omega)]
  have:=q
  simp only [e0] at this
  simpa using this
 unfold QaM.f
 rw [q'];rfl
def endB:Bk:=⟨0,true⟩
theorem end_near {F:Fe} (hT:T8 F):nearOk F endB:=⟨Int.le_refl _,by have:=all_range hT;show (0:Int)≤allF F;omega⟩
theorem num_end (F:Fe):numF F endB=allF F+1:=by simp [numF,endB]
theorem Short_ok {N:Nat} {F:Fe} (h:OkF F) (hN:3000< N) {tb wy fr ba qu:List Int} {out:List Cr} {met:List (Bk×Bool)} (e1:QaD.f N F=some ⟨tb,wy,fr,ba⟩) (e2:Qau.f N F=some out) (hR:Rel F out met tb fr ba qu) (hok1:Qbr.f N F=some true) (hok2:QaX.f N F=some true):
 ∃ l c,QaT.f N F=some (l,c)∧QaL.f N F=some (l,c)∧l.length≤512∧(c=0↔endB∈out.map (·.Qax))∧(c=0∨c=6):=by
 have hall:=all_range h.t8
 have hlen:=hR.len h.t8
 have hlt:=hR.lt
 have hlen512:out.length≤512:=by unfold nB at hlen;omega
 have hlast:Qcg.f N F=some (allF F+1):=by
  simp only [Qcg.f,F_eta,Qcs N h.t8,Option.bind_some,i64w_id (x:=allF F) (by omega) (by omega),i64w_id (x:=allF F+1) (by omega) (by omega)]
 have hgl:(0:Int)≤allF F+1∧allF F+1< (tb.length:Int):=⟨by omega,by unfold nB at hlt;omega⟩
 have htell:=(hR.tells h.t8 (end_near h.t8)).trans (not_congr (hR.met endB))
 rw [num_end] at htell
 obtain ⟨e,he,hq⟩:=rounds_first (b:=fun s=>Qao.b0 N out s) out (fun c=>decide (c.Qax=endB)) (fun i=>(i:Int)) (N:=N) (by omega) (by
  intro i hi
  have g1:(i:Int)< out.length:=by omega
  have g2:(0:Int)≤i:=by omega
  simp only [Qao.b0,Qbz.f,g1,g2,and_self,if_true,rdL_nat hi,Option.bind_some,i64w_succ hi (show out.length≤9223372036854775807 by omega)]
  rfl) (by
  simp only [Qao.b0]
  rw [if_neg (by omega)])
 simp only [QaT.f,QaL.f,F_eta,hok1,hok2,Option.bind_some,if_true,e1,e2,hlast,if_pos hgl,Qao.f,he]
 rcases hq with ⟨p,hp,hpb,rfl⟩|⟨hno,rfl⟩
 ·
  have hpb:=of_decide_eq_true hpb
  have hin:endB∈out.map (·.Qax):=List.mem_map.2 ⟨out[p],List.getElem_mem hp,hpb⟩
  have hnl:¬ rdL tb (allF F+1) 0< 0:=fun x=>(htell.1 x) hin
  simp only [if_neg hnl,Option.bind_some,Ex.fin,if_neg (show ¬ (p:Int)< 0 by omega)]
  obtain ⟨f,f',h1,h2,h3⟩:=rounds_both (b:=fun s=>QaL.b0 N out s.1 s.2) (b':=fun s=>QaT.b0 N ⟨tb,wy,fr,ba⟩ s.1 s.2)
   (fun s s'=>∃ k:Nat,s.1=(k:Int)∧k< out.length∧s'.1=numF F (rdL out (k:Int) zc).Qax∧s'.2=s.2.reverse∧s.2.length+k≤512) (fun s=>s.1.toNat) (fun f f'=>∃ l:List Int,f= .go l∧f'= .go l.reverse∧l.length≤512) (by
   rintro ⟨i,acc⟩ ⟨a,acc'⟩ ⟨k,r1,r2,r3,r4,r5⟩
   simp only at r1 r2 r3 r4 r5
   subst r1 r3 r4
   have hy:=hR.yes k r2
   have hnr:=numF_range h.t8 (hR.near _ (rdL_memb (z:=zc) r2))
   have gk:(0:Int)≤(k:Int)∧(k:Int)< (out.length:Int):=⟨by omega,by omega⟩
   have gT:0≤numF F (rdL out (k:Int) zc).Qax∧numF F (rdL out (k:Int) zc).Qax< (tb.length:Int):=⟨hnr.1,by unfold nB at hlt;omega⟩
   have gF:0≤numF F (rdL out (k:Int) zc).Qax∧numF F (rdL out (k:Int) zc).Qax< (fr.length:Int):=⟨hnr.1,by unfold nB at hlt;omega⟩
   have gB:0≤numF F (rdL out (k:Int) zc).Qax∧numF F (rdL out (k:Int) zc).Qax< (ba.length:Int):=⟨hnr.1,by unfold nB at hlt;omega⟩
   by_cases hk:k=0
   ·left
    obtain ⟨z1,z2⟩:=hy.2.1 hk
    have d1:¬ (rdL out (k:Int) zc).QbW≥0:=by omega
    have d2:¬ rdL tb (numF F (rdL out (k:Int) zc).Qax) 0>0:=by rw [hy.1];omega
    simp only [QaL.b0,QaT.b0,if_pos gk,if_pos gT]
    refine ⟨.go acc, .go acc.reverse,?_,?_,acc,rfl,rfl,by omega⟩
    ·exact if_neg d1
    ·exact if_neg d2
   ·right
    obtain ⟨z1,z2,z3,z4,z5,z6⟩:=hy.2.2 (by omega)
    obtain ⟨q,hq⟩:=Int.eq_ofNat_of_zero_le z1
    have d1:(rdL out (k:Int) zc).QbW≥0:=z1
    have d2:rdL tb (numF F (rdL out (k:Int) zc).Qax) 0>0:=by rw [hy.1];omega
    have d3:acc.length+([(rdL out (k:Int) zc).Qcl]).length≤70368744177664:=by simp;omega
    have d4:([(rdL out (k:Int) zc).Qcl]).length+acc.reverse.length≤70368744177664:=by simp;omega
    refine ⟨((rdL out (k:Int) zc).QbW,acc++[(rdL out (k:Int) zc).Qcl]),(numF F (rdL out ((rdL out (k:Int) zc).QbW) zc).Qax,[(rdL out (k:Int) zc).Qcl]++acc.reverse),?_,?_,⟨q,by dsimp only;exact hq,by omega,by dsimp only;rw [hq],by simp,by simp;omega⟩,by dsimp only;omega⟩
    ·simp only [QaL.b0,if_pos gk]
     rw [if_pos d1,if_pos d3]
    ·simp only [QaT.b0,if_pos gT,if_pos gF,if_pos gB,z5,z6]
     rw [if_pos d2,if_pos d4]) N N ((p:Int),[]) (allF F+1,[]) ⟨p,rfl,hp,by dsimp only;rw [rdL_nat hp,hpb,num_end],rfl,by simp;omega⟩ (by dsimp only;omega) (by dsimp only;omega)
  obtain ⟨l,rfl,rfl,hl⟩:=h3
  rw [h1,h2]
  simp only [Option.bind_some,Ex.fin,QaT.a0,QaL.a0,rev_eq l (by omega) (show 2000< N by omega)]
  exact ⟨_,_,rfl,rfl,by simp;exact hl,⟨fun _=>hin,fun _=>rfl⟩, .inl rfl⟩
 ·have hni:¬ endB∈out.map (·.Qax):=by
   intro hm
   obtain ⟨c,hc,hb⟩:=List.mem_map.1 hm
   have:=hno c hc
   rw [decide_eq_false_iff_not] at this
   exact this hb
  simp only [if_pos (htell.2 hni),Option.bind_some,Ex.fin,Qao.a0,show ((-1:Int)< 0) from by decide,if_true]
  exact ⟨_,_,rfl,rfl,by simp,⟨fun x=>absurd x (by decide),fun x=>absurd x hni⟩, .inr rfl⟩
theorem Short_same {N:Nat} {F:Fe} (hF:InF F) (hN:3000< N):∃ l c,QaT.f N F=some (l,c)∧QaL.f N F=some (l,c)∧l.length≤512:=by
 by_cases hk:okF F=true
 ·have h:=okF_iff.1 hk
  obtain ⟨tb,wy,fr,ba,qu,out,met,e1,e2,hR,_,_⟩:=search_both h (show 2000< N by omega)
  obtain ⟨l,c,q1,q2,q3,_⟩:=Short_ok h hN e1 e2 hR (by rw [okF_spec hF (by omega),hk]) (by rw [okF_impl hF (by omega),hk])
  exact ⟨l,c,q1,q2,q3⟩
 ·simp only [QaT.f,QaL.f,F_eta,okF_spec hF (show 40< N by omega),okF_impl hF (show 40< N by omega),Option.bind_some,if_neg hk]
  exact ⟨_,_,rfl,rfl,by simp⟩
def wb (F:Fe) (x:Int):Fe:=⟨F.Qad,x,F.Qal⟩
theorem cnt_zero:cnt 0=0:=by decide+kernel
theorem rounds_keep {ρ σ τ:Type} {b:τ→Option (Bd ρ σ τ)} (I:τ→Prop) (Q:Ex ρ σ→Prop)
 (h1:∀ s s',I s→b s=some (.next s')→I s') (h2:∀ s e,I s→b s=some (.out e)→Q e):∀ (N:Nat) (s:τ) (e:Ex ρ σ),I s→rounds b N s=some e→Q e
 |0,s,e,_,h=>(rounds_zero h).elim
 |N+1,s,e,hI,h=>by
  obtain ⟨x,hx,hm⟩:=rounds_succ h
  cases x with
  |next s'=>exact rounds_keep I Q h1 h2 N s' e (h1 s s' hI hx) hm
  |out e'=>dsimp only at hm;subst hm;exact h2 s e' hI hx
abbrev at_ (out:List Cr) (p:Nat):Cr:=rdL out (p:Int) zc
structure Sr (F:Fe) (out:List Cr) (met:List (Bk×Bool)) (i:Nat):Prop where
 hd:0< out.length∧at_ out 0=c0F F
 met:∀ b,mGet met b false=true↔∃ q,q< out.length∧(at_ out q).Qax=b
 near:∀ p,p< out.length→nearOk F (at_ out p).Qax
 src:∀ p,0< p→p< out.length→∃ q:Nat,q< p∧(at_ out p).QbW=(q:Int)∧(at_ out p).Qcl∈loadsF F (at_ out q).Qax∧
  (at_ out p).Qax=crossedB (at_ out q).Qax (at_ out p).Qcl∧(at_ out p).QaQ=(at_ out q).QaQ+1
 le:∀ p,p< out.length→0≤(at_ out p).QaQ∧(at_ out p).QaQ≤p
 mono:∀ p q,p≤q→q< out.length→(at_ out p).QaQ≤(at_ out q).QaQ
 top:i< out.length→∀ p,p< out.length→(at_ out p).QaQ≤(at_ out i).QaQ+1
 len:out.length≤4398046511104
def Ld (F:Fe) (out:List Cr) (p:Nat) (l:Int):Prop:=∃ q,q< out.length∧(at_ out q).Qax=crossedB (at_ out p).Qax l∧(at_ out q).QaQ≤(at_ out p).QaQ+1
def Cl (F:Fe) (out:List Cr) (i:Nat):Prop:=∀ p,p< i→∀ l∈loadsF F (at_ out p).Qax,Ld F out p l
theorem at_app (out:List Cr) (c:Cr) {p:Nat} (hp:p< out.length):at_ (out++[c]) p=at_ out p:=rdL_app out c zc hp
theorem at_new (out:List Cr) (c:Cr):at_ (out++[c]) out.length=c:=rdL_new out c zc
theorem Ld.app {F:Fe} {out:List Cr} {p:Nat} {l:Int} (c:Cr) (hp:p< out.length) (h:Ld F out p l):Ld F (out++[c]) p l:=by
 obtain ⟨q,h1,h2,h3⟩:=h
 exact ⟨q,by rw [List.length_append];omega,by rw [at_app _ _ h1,at_app _ _ hp];exact h2,by rw [at_app _ _ h1,at_app _ _ hp];exact h3⟩
theorem load_near {F:Fe} (h:OkF F) {b:Bk} {l:Int} (hl:l∈loadsF F b):nearOk F (crossedB b l):=by
 obtain ⟨m,hm,rfl⟩:=List.mem_iff_getElem.1 hl
 obtain ⟨_,_,_,h3,h4⟩:=step_code h hm
 exact ⟨h3,h4⟩
theorem Sr.add {F:Fe} (h:OkF F) {out:List Cr} {met:List (Bk×Bool)} {i:Nat} (hS:Sr F out met i) (hi:i< out.length) {l:Int} (hl:l∈loadsF F (at_ out i).Qax)
 (hlen:out.length+1≤4398046511104):Sr F (out++[⟨crossedB (at_ out i).Qax l,(i:Int),l,(at_ out i).QaQ+1⟩]) (mSet met (crossedB (at_ out i).Qax l) true) i:=by
 have hc:∀ p,p< (out++[(⟨crossedB (at_ out i).Qax l,(i:Int),l,(at_ out i).QaQ+1⟩:Cr)]).length→p< out.length∨p=out.length:=by
  intro p hp;rw [List.length_append,List.length_singleton] at hp;omega
 have hle:=hS.le i hi
 refine ⟨⟨by rw [List.length_append];omega,by rw [at_app _ _ hS.hd.1];exact hS.hd.2⟩,?_,?_,?_,?_,?_,?_,by rw [List.length_append];exact hlen⟩
 ·intro b
  rw [mGet_set]
  constructor
  ·intro hb
   by_cases e:b=crossedB (at_ out i).Qax l
   ·exact ⟨out.length,by rw [List.length_append];simp,by rw [at_new,e]⟩
   ·rw [if_neg e] at hb
    obtain ⟨q,h1,h2⟩:=(hS.met b).1 hb
    exact ⟨q,by rw [List.length_append];omega,by rw [at_app _ _ h1];exact h2⟩
  ·rintro ⟨q,h1,h2⟩
   rcases hc q h1 with h1|rfl
   ·rw [at_app _ _ h1] at h2
    split
    ·rfl
    ·exact (hS.met b).2 ⟨q,h1,h2⟩
   ·rw [at_new] at h2
    rw [if_pos h2.symm]
 ·intro p hp
  rcases hc p hp with h1|rfl
  ·rw [at_app _ _ h1];exact hS.near p h1
  ·rw [at_new];exact load_near h hl
 ·intro p h0 hp
  rcases hc p hp with h1|rfl
  ·obtain ⟨q,q1,q2,q3,q4,q5⟩:=hS.src p h0 h1
   exact ⟨q,q1,by rw [at_app _ _ h1];exact q2,by rw [at_app _ _ h1,at_app _ _ (by omega)];exact q3,by rw [at_app _ _ h1,at_app _ _ (by omega)];exact q4,by rw [at_app _ _ h1,at_app _ _ (by omega)];exact q5⟩
  ·exact ⟨i,hi,by rw [at_new],by rw [at_new,at_app _ _ hi];exact hl,by rw [at_new,at_app _ _ hi],by rw [at_new,at_app _ _ hi]⟩
 ·intro p hp
  rcases hc p hp with h1|rfl
  ·rw [at_app _ _ h1];exact hS.le p h1
  ·rw [at_new];dsimp only;omega
 ·intro p q hpq hq
  rcases hc q hq with h1|rfl
  ·rw [at_app _ _ h1,at_app _ _ (by omega)];exact hS.mono p q hpq h1
  ·rw [at_new]
   rcases hc p (by omega) with h2|rfl
   ·rw [at_app _ _ h2];exact hS.top hi p h2
   ·rw [at_new];exact Int.le_refl _
 ·intro _ p hp
  rw [at_app _ _ hi]
  rcases hc p hp with h1|rfl
  ·rw [at_app _ _ h1];exact hS.top hi p h1
  ·rw [at_new];exact Int.le_refl _
theorem sr_inner {N:Nat} {F:Fe} (h:OkF F) {out0:List Cr} {met0:List (Bk×Bool)} {i:Nat} (hS:Sr F out0 met0 i) (hC:Cl F out0 i) (hi:i< out0.length) {e:Ex _ _}
 (he:rounds (fun s=>Qau.b2 N (loadsF F (at_ out0 i).Qax) (i:Int) s.1 s.2.1 s.2.2) N (out0,met0,0)=some e):
 ∃ out met,e= .go (out,met)∧Sr F out met i∧Cl F out (i+1)∧out0.length≤out.length:=by
 obtain ⟨L,hL⟩:∃ L,L=loadsF F (at_ out0 i).Qax:=⟨_,rfl⟩
 have hll:=loadsF_len h.t8 (at_ out0 i).Qax
 rw [← hL] at he hll
 refine rounds_keep (b:=fun s=>Qau.b2 N L (i:Int) s.1 s.2.1 s.2.2) (fun s=>0≤s.2.2∧s.2.2≤(L.length:Int)∧Sr F s.1 s.2.1 i∧Cl F s.1 i∧out0.length≤s.1.length∧at_ s.1 i=at_ out0 i∧∀ m:Nat,(hm:m< L.length)→(m:Int)< s.2.2→Ld F s.1 i L[m])
  (fun e=>∃ out met,e= .go (out,met)∧Sr F out met i∧Cl F out (i+1)∧out0.length≤out.length) ?_ ?_ N (out0,met0,0) e ?_ he
 rotate_left 2
 ·exact ⟨Int.le_refl _,Int.natCast_nonneg _,hS,hC,Nat.le_refl _,rfl,fun m hm hj=>by dsimp only at hj;omega⟩
 ·rintro ⟨out,met,j⟩ s' ⟨r1,r2,r3,r4,r5,r6,r7⟩ hb
  simp only at r1 r2 r3 r4 r5 r6 r7
  have hio:i< out.length:=by omega
  simp only [Qau.b2] at hb
  by_cases hj:j< (L.length:Int)
  ·rw [if_pos hj] at hb
   obtain ⟨g1,hb⟩:=ite_get hb
   obtain ⟨g2,hb⟩:=ite_get hb
   obtain ⟨j,rfl⟩:=Int.eq_ofNat_of_zero_le r1
   have hj':j< L.length:=by omega
   rw [rdL_nat hj',show rdL out (i:Int) Qap=at_ out0 i from r6] at hb
   have hcr:∀ b l,Qbm.f N b l=some (crossedB b l):=fun _ _=>rfl
   rw [hcr,Option.bind_some] at hb
   have hlm:L[j]∈loadsF F (at_ out i).Qax:=by rw [r6,← hL];exact List.getElem_mem hj'
   have hnx:i64w ((j:Int)+1)=((j+1:Nat):Int):=i64w_succ hj' (by omega)
   by_cases hm:mGet met (crossedB (at_ out0 i).Qax L[j]) false=true
   ·rw [if_pos hm] at hb
    simp only [Qau.j4,hnx] at hb
    injection hb with hb;injection hb with hb;subst hb
    refine ⟨by dsimp only;omega,by dsimp only;omega,r3,r4,r5,r6,?_⟩
    intro m hm' hmj
    dsimp only at hmj ⊢
    by_cases e:m=j
    ·subst e
     obtain ⟨q,q1,q2⟩:=(r3.met _).1 hm
     exact ⟨q,q1,by rw [r6];exact q2,r3.top hio q q1⟩
    ·exact r7 m hm' (by omega)
   ·rw [if_neg hm,if_pos g2] at hb
    obtain ⟨g3,hb⟩:=ite_get hb
    rw [List.length_singleton] at g3
    have hle:=r3.le i hio
    have hln:=r3.len
    have hw:i64w ((at_ out0 i).QaQ+1)=(at_ out0 i).QaQ+1:=by rw [← r6];exact i64w_id (by omega) (by omega)
    simp only [Qau.j4,hnx,hw] at hb
    injection hb with hb;injection hb with hb;subst hb
    have ha:=r3.add h hio hlm (by omega)
    rw [r6] at ha
    refine ⟨by dsimp only;omega,by dsimp only;omega,ha,?_,by dsimp only;rw [List.length_append];omega,by dsimp only;rw [at_app _ _ hio];exact r6,?_⟩
    ·intro p hp l hl
     rw [at_app _ _ (by omega)] at hl
     exact (r4 p hp l hl).app _ (by omega)
    ·intro m hm' hmj
     dsimp only at hmj ⊢
     by_cases e:m=j
     ·subst e
      exact ⟨out.length,by rw [List.length_append];simp,by rw [at_new,at_app _ _ hio,r6],by rw [at_new,at_app _ _ hio,r6];exact Int.le_refl _⟩
     ·exact (r7 m hm' (by omega)).app _ hio
  ·rw [if_neg hj] at hb
   cases hb
 ·rintro ⟨out,met,j⟩ e ⟨r1,r2,r3,r4,r5,r6,r7⟩ hb
  simp only at r1 r2 r3 r4 r5 r6 r7
  simp only [Qau.b2] at hb
  by_cases hj:j< (L.length:Int)
  ·rw [if_pos hj] at hb
   obtain ⟨g1,hb⟩:=ite_get hb
   obtain ⟨g2,hb⟩:=ite_get hb
   have hcr:∀ b l,Qbm.f N b l=some (crossedB b l):=fun _ _=>rfl
   rw [hcr,Option.bind_some] at hb
   split at hb
   ·simp only [Qau.j4] at hb
    cases hb
   ·obtain ⟨g3,hb⟩:=ite_get hb
    simp only [Qau.j4] at hb
    cases hb
  ·rw [if_neg hj] at hb
   injection hb with hb;injection hb with hb;subst hb
   refine ⟨out,met,rfl,r3,?_,r5⟩
   intro p hp l hl
   by_cases e:p=i
   ·subst e
    rw [r6,← hL] at hl
    obtain ⟨m,hm,rfl⟩:=List.mem_iff_getElem.1 hl
    exact r7 m hm (by omega)
   ·exact r4 p (by omega) l hl
theorem search_sound {N:Nat} {F:Fe} (h:OkF F) (hN:2000< N) {out:List Cr} (he:Qau.f N F=some out):∃ met,Sr F out met out.length∧Cl F out out.length:=by
 have hall:=all_range h.t8
 simp only [Qau.f,Qcm N h.t8,Option.bind_some] at he
 obtain ⟨e,he,hf⟩:=bind_get he
 have key:∃ out met,e= .go out∧Sr F out met out.length∧Cl F out out.length:=by
  refine rounds_keep (fun s=>∃ i:Nat,s.2.2=(i:Int)∧i≤s.1.length∧Sr F s.1 s.2.1 i∧Cl F s.1 i) (fun e=>∃ out met,e= .go out∧Sr F out met out.length∧Cl F out out.length) ?_ ?_ N _ _ ⟨0,rfl,by simp,?_,fun p hp=>by omega⟩ he
  ·rintro ⟨out,met,j⟩ s' ⟨i,r1,r2,r3,r4⟩ hb
   simp only at r1 r2 r3 r4
   subst r1
   simp only [Qau.b0] at hb
   by_cases hi:(i:Int)< (out.length:Int)
   ·rw [if_pos hi] at hb
    obtain ⟨g1,hb⟩:=ite_get hb
    have hio:i< out.length:=by omega
    have hn:=r3.near i hio
    have hl:QaN.f N (⟨F.Qad,F.Qag,F.Qal⟩:Qaf) ((rdL out (i:Int) Qap).Qax)=some (loadsF F (at_ out i).Qax):=loads_impl h (by omega) ⟨hn.1,Int.le_trans hn.2 hall.2⟩
    rw [hl,Option.bind_some] at hb
    obtain ⟨e2,he2,hf2⟩:=bind_get hb
    obtain ⟨out',met',rfl,q1,q2,q3⟩:=sr_inner h r3 r4 hio he2
    simp only [Ex.finB,Qau.a2] at hf2
    injection hf2 with hf2;injection hf2 with hf2;subst hf2
    have hln:=q1.len
    refine ⟨i+1,by dsimp only;rw [i64w_id (by omega) (by omega)];rfl,by dsimp only;omega,?_,q2⟩
    exact ⟨q1.hd,q1.met,q1.near,q1.src,q1.le,q1.mono,fun hh p hp=>Int.le_trans (q1.top (by omega) p hp) (Int.add_le_add_right (q1.mono i (i+1) (Nat.le_succ i) hh) 1),q1.len⟩
   ·rw [if_neg hi] at hb;cases hb
  ·rintro ⟨out,met,j⟩ e ⟨i,r1,r2,r3,r4⟩ hb
   simp only at r1 r2 r3 r4
   subst r1
   simp only [Qau.b0] at hb
   by_cases hi:(i:Int)< (out.length:Int)
   ·exfalso
    rw [if_pos hi] at hb
    obtain ⟨g1,hb⟩:=ite_get hb
    have hio:i< out.length:=by omega
    have hn:=r3.near i hio
    have hl:QaN.f N (⟨F.Qad,F.Qag,F.Qal⟩:Qaf) ((rdL out (i:Int) Qap).Qax)=some (loadsF F (at_ out i).Qax):=loads_impl h (by omega) ⟨hn.1,Int.le_trans hn.2 hall.2⟩
    rw [hl,Option.bind_some] at hb
    obtain ⟨e2,he2,hf2⟩:=bind_get hb
    obtain ⟨out',met',rfl,q1,q2,q3⟩:=sr_inner h r3 r4 hio he2
    simp only [Ex.finB,Qau.a2] at hf2
    cases hf2
   ·rw [if_neg hi] at hb
    injection hb with hb;injection hb with hb;subst hb
    have:i=out.length:=by omega
    subst this
    exact ⟨out,met,rfl,r3,r4⟩
  ·have e0:∀ p,p< [c0F F].length→p=0:=by intro p hp;simp at hp;exact hp
   refine ⟨⟨by simp,rfl⟩,?_,?_,?_,?_,?_,?_,by simp⟩
   ·intro b
    rw [mGet_set]
    constructor
    ·intro hb
     by_cases e:b=⟨allF F,false⟩
     ·exact ⟨0,by simp,by subst e;rfl⟩
     ·rw [if_neg e] at hb;cases hb
    ·rintro ⟨q,h1,h2⟩
     obtain rfl:=e0 q h1
     have h2:(⟨allF F,false⟩:Bk)=b:=h2
     rw [if_pos h2.symm]
   ·intro p hp
    obtain rfl:=e0 p hp
    exact ⟨by show 0≤allF F;omega,Int.le_refl _⟩
   ·intro p h0 hp
    have:=e0 p hp;omega
   ·intro p hp
    obtain rfl:=e0 p hp
    exact ⟨Int.le_refl _,Int.le_refl _⟩
   ·intro p q hpq hq
    obtain rfl:=e0 q hq
    obtain rfl:p=0:=by omega
    exact Int.le_refl _
   ·intro _ p hp
    obtain rfl:=e0 p hp
    show (0:Int)≤0+1
    omega
 obtain ⟨out',met,rfl,k1,k2⟩:=key
 simp only [Ex.fin,Qau.a0] at hf
 injection hf with hf;subst hf
 exact ⟨met,k1,k2⟩
def bit (x:Int) (i:Nat):Bool:=(B16 x).getLsbD i
theorem B16_of (b:BitVec 16):B16 (b.toNat:Int)=b:=by
 apply BitVec.eq_of_toNat_eq
 have:=b.isLt
 simp [B16]
theorem bit_andNot (x y:Int) {i:Nat} (hi:i< 16):bit (bAndNot .u16 x y) i=(bit x i&&!bit y i):=by
 rw [bAndNot_eq];unfold bit;rw [B16_of];simp [hi]
theorem bit_xor (x y:Int) (i:Nat):bit (bXor .u16 x y) i=(bit x i !=bit y i):=by
 rw [bXor_eq];unfold bit;rw [B16_of];simp
theorem bit_zero (i:Nat):bit 0 i=false:=by simp [bit,B16]
theorem bit_ext {x y:Int} (hx:0≤x∧x≤65535) (hy:0≤y∧y≤65535) (h:∀ i,i< 16→bit x i=bit y i):x=y:=by
 have e:B16 x=B16 y:=BitVec.eq_of_getLsbD_eq fun i hi=>h i hi
 rw [← B16_nat hx,← B16_nat hy,e]
theorem sub_iff {x y:Int} (hx:0≤x∧x≤65535):bAndNot .u16 x y=0↔∀ i,i< 16→bit x i=true→bit y i=true:=by
 constructor
 ·intro h i hi hb
  have:=bit_andNot x y hi
  rw [h,bit_zero,hb] at this
  simpa using this.symm
 ·intro h
  have hr:=andNot_range (x:=x) (y:=y) hx
  refine bit_ext ⟨hr.1,by omega⟩ ⟨Int.le_refl _,by decide⟩ fun i hi=>?_
  rw [bit_andNot x y hi,bit_zero]
  cases hb:bit x i with
  |false=>rfl
  |true=>rw [h i hi hb];rfl
theorem safe_iff {R:List Int} (hR:∀ r∈R,0≤r∧r≤65535) (t:Int):safe R t=true↔∀ r∈R,¬ ∀ i,i< 16→bit r i=true→bit t i=true:=by
 unfold safe
 rw [Bool.not_eq_true',List.any_eq_false]
 constructor
 ·intro h r hr hc
  exact h r hr (by rw [beq_iff_eq];exact (sub_iff (hR r hr)).2 hc)
 ·intro h r hr hc
  exact h r hr ((sub_iff (hR r hr)).1 (eq_of_beq hc))
inductive Rch (F:Fe):Bk→Prop
 |start:Rch F ⟨allF F,false⟩
 |step {b:Bk} {l:Int}:Rch F b→l∈loadsF F b→Rch F (crossedB b l)
theorem Rch.near {F:Fe} (h:OkF F) {b:Bk} (hb:Rch F b):nearOk F b:=by
 cases hb with
 |start=>have:=all_range h.t8;exact ⟨by show 0≤allF F;omega,Int.le_refl _⟩
 |step _ hl=>exact load_near h hl
theorem of_loads {F:Fe} (h:OkF F) {b:Bk} {l:Int} (hl:l∈loadsF F b):codeF F b l=0∧0≤l∧l≤allF F:=by
 have hall:=all_range h.t8
 rcases loadsF_mem hl with h|h
 ·exact h
 ·omega
theorem code_zero {F:Fe} {b:Bk} {l:Int}:codeF F b l=0↔bAndNot .u16 l (here F b)=0∧cnt l≤F.Qag∧bankF F (crossedB b l)=true:=by
 unfold codeF
 constructor
 ·intro h
  split at h
  ·split at h
   ·cases h
   ·split at h
    ·exact ⟨by assumption,by omega,by assumption⟩
    ·cases h
  ·cases h
 ·rintro ⟨h1,h2,h3⟩
  rw [if_pos h1,if_neg (by omega),if_pos h3]
theorem bank_near {F:Fe} {s:Int}:bankF F ⟨s,false⟩=true↔bAndNot .u16 s (allF F)=0∧safe F.Qal (bAndNot .u16 (allF F) s)=true:=by
 unfold bankF alone;simp
theorem Rch.first {F:Fe} (h:OkF F) {b:Bk} (hb:Rch F b):b=⟨allF F,false⟩∨∃ l,l∈loadsF F ⟨allF F,false⟩:=by
 induction hb with
 |start=>exact .inl rfl
 |step _ hl ih=>
  rcases ih with rfl|ih
  ·exact .inr ⟨_,hl⟩
  ·exact .inr ih
theorem safe_none {F:Fe} (hF:InF F) (h:OkF F):safe F.Qal 0=true:=by
 rw [safe_iff hF.2.2]
 intro r hr hc
 have hb:=h.rules
 rw [List.any_eq_false] at hb
 have:=hb r hr
 unfold bad at this
 simp only [Bool.or_eq_true,Bool.not_eq_true',decide_eq_true_eq,not_or] at this
 have:r=0:=bit_ext (hF.2.2 r hr) ⟨Int.le_refl _,by decide⟩ fun i hi=>by
  rw [bit_zero]
  cases hb:bit r i with
  |false=>rfl
  |true=>have:=hc i hi hb;rw [bit_zero] at this;cases this
 subst this
 have:=cnt_zero
 omega
theorem setCode_eq {N:Nat} {F:Fe} (hF:InF F) (h:OkF F) (hN:40< N) {t:Int} (ht:bAndNot .u16 t (allF F)=0):Qcb.f N F t=some 0:=by
 have hk:okF F=true:=okF_iff.2 h
 simp only [Qcb.f,F_eta,okF_impl hF hN,hk,if_true,Option.bind_some,Qcm N h.t8,Qby.f,ht,Qb7.f]
 rfl
theorem isSafe_eq {N:Nat} {F:Fe} (hF:InF F) (h:OkF F) (hN:40< N) {t:Int} (ht:bAndNot .u16 t (allF F)=0):Qca.f N F t=some (safe F.Qal t,0):=by
 simp only [Qca.f,F_eta,setCode_eq hF h hN ht,Option.bind_some,if_true,safe_impl h.len hN]
theorem all_small {F:Fe} (h:T8 F) (h5:F.Qad≤5):allF F≤31:=by
 unfold T8 at h
 have tab:∀ t:Nat,t< 6→(2:Int)^t - 1≤31:=by decide+kernel
 exact tab F.Qad.toNat (by omega)
variable {F G:Fe} {x:Nat}
abbrev Src:=QaH
theorem and_255 (x:Int):0≤bAnd .u64 x 255∧bAnd .u64 x 255≤255:=by
 have h:(BitVec.ofInt IntKind.u64.bits x&&&BitVec.ofInt IntKind.u64.bits 255).toNat≤255:=by
  show (BitVec.ofInt 64 x&&&BitVec.ofInt 64 255).toNat≤255
  rw [BitVec.toNat_and]
  have:(BitVec.ofInt 64 255).toNat=255:=by decide
  rw [this]
  exact Nat.and_le_right
 have e:bAnd .u64 x 255=((BitVec.ofInt IntKind.u64.bits x&&&BitVec.ofInt IntKind.u64.bits 255).toNat:Int):=u64w_id (by omega) (by omega)
 omega
def SrcOk (s:Src) (b:Int):Prop:=(∀ x∈s.Qa3,0≤x∧x≤255)∧0≤s.Qbf∧s.Qbf≤b∧b≤1000000∧s.Qa3.length≤1000000
theorem next_ok {N:Nat} {s:Src} {b:Int} (h:SrcOk s b):∃ x a d,Qbl.f N s=some (x,⟨s.Qa3,a,d⟩)∧0≤x∧x≤255∧a=s.Qbf+1:=by
 obtain ⟨hc,h0,h1,h2,h3⟩:=h
 have e1:i64w (s.Qbf+1)=s.Qbf+1:=i64w_id (by omega) (by omega)
 have main:∀ x,0≤x→x≤255→∃ y a d,Qbl.j0 N s x=some (y,⟨s.Qa3,a,d⟩)∧0≤y∧y≤255∧a=s.Qbf+1:=by
  intro x x0 x1
  unfold Qbl.j0
  rw [e1]
  by_cases c:s.Qbf+1≤(s.Qa3.length:Int)
  ·rw [if_pos c]
   exact ⟨_,_,_,rfl,x0,x1,rfl⟩
  ·rw [if_neg c]
   have q:=and_255 (shrI .u64 (u64w ((u64w ((u64w (s.Qa2*6364136223846793005))+(u64w x)))+1442695040888963407)) 40)
   exact ⟨_,_,_,rfl,by rw [i64w_id (by omega) (by omega)];exact q.1,by rw [i64w_id (by omega) (by omega)];exact q.2,rfl⟩
 unfold Qbl.f
 by_cases c:s.Qbf< (s.Qa3.length:Int)
 ·rw [if_pos c,if_pos ⟨h0,c⟩]
  have hm:=hc (rdL s.Qa3 s.Qbf 0) (by
   obtain ⟨i,hi⟩:=Int.eq_ofNat_of_zero_le h0
   rw [hi] at c ⊢
   rw [rdL_nat (by omega)]
   exact List.getElem_mem _)
  exact main _ (by rw [i64w_id (by omega) (by omega)];exact hm.1) (by rw [i64w_id (by omega) (by omega)];exact hm.2)
 ·rw [if_neg c]
  exact main 0 (by decide) (by decide)
theorem pick_ok {N:Nat} {s:Src} {b n:Int} (h:SrcOk s b) (hn:2≤n∧n≤200):∃ x a d,QaS.f N s n=some (x,⟨s.Qa3,a,d⟩)∧0≤x∧x< n∧a=s.Qbf+1:=by
 obtain ⟨x,a,d,e,x0,x1,ha⟩:=next_ok (N:=N) h
 have e':Qbl.f N (⟨s.Qa3,s.Qbf,s.Qa2⟩:Src)=some (x,⟨s.Qa3,a,d⟩):=e
 refine ⟨x.tmod n,a,d,?_,Int.tmod_nonneg _ x0,Int.tmod_lt_of_pos _ (by omega),ha⟩
 simp only [QaS.f,if_neg (show ¬ n≤1 by omega),e',Option.bind_some,if_neg (show ¬ n>200 by omega),if_pos (show ¬ n=0 by omega)]
theorem SrcOk.next {s:Src} {b:Int} (h:SrcOk s b) (hb:b< 1000000) {a d:Int} (ha:a=s.Qbf+1):SrcOk ⟨s.Qa3,a,d⟩ (b+1):=by
 obtain ⟨h1,h2,h3,h4,h5⟩:=h
 exact ⟨h1,by dsimp only;omega,by dsimp only;omega,by omega,h5⟩
theorem pick_any {N:Nat} {s:Src} {b n:Int} (h:SrcOk s b) (hb:b< 1000000) (hn:1≤n∧n≤200):∃ x a d,QaS.f N s n=some (x,⟨s.Qa3,a,d⟩)∧0≤x∧x< n∧SrcOk ⟨s.Qa3,a,d⟩ (b+1):=by
 by_cases c:n=1
 ·subst c
  refine ⟨0,s.Qbf,s.Qa2,?_,Int.le_refl _,by decide,?_⟩
  ·simp only [QaS.f];rfl
  ·obtain ⟨h1,h2,h3,h4,h5⟩:=h
   exact ⟨h1,h2,by dsimp only;omega,by omega,h5⟩
 ·obtain ⟨x,a,d,e,h1,h2,h3⟩:=pick_ok (N:=N) h (n:=n) (by omega)
  exact ⟨x,a,d,e,h1,h2,h.next hb h3⟩
def good (t:Nat) (r:Int):Prop:=0≤r∧r≤(2:Int)^t - 1∧2≤cnt r∧bAndNot .u16 r ((2:Int)^t - 1)=0
instance (t:Nat) (r:Int):Decidable (good t r):=by unfold good;infer_instance
def rule2 (t a p:Nat):Int:=bOr .u16 (shlI .u16 1 (u64w a)) (shlI .u16 1 (u64w ((i64w ((i64w ((a:Int)+1))+(p:Int))).tmod (i64w (t:Int)))))
def ruleOk (t a p:Nat):Bool:=decide ((0:Int)≤u64w a)&&(decide ((0:Int)≤(u64w ((i64w ((i64w ((a:Int)+1))+(p:Int))).tmod (i64w (t:Int)))))&&(decide (good t (rule2 t a p))&&(List.range t).all fun c=>decide ((0:Int)≤u64w c)&&decide (good t (bOr .u16 (rule2 t a p) (shlI .u16 1 (u64w c))))))
theorem rule_all:∀ t:Nat,t< 6→2≤t→∀ a:Nat,a< t→∀ p:Nat,p< t - 1→ruleOk t a p=true:=by decide+kernel
theorem rule_tab (t:Nat) (ht:t< 6) (h2:2≤t) (a:Nat) (ha:a< t) (p:Nat) (hp:p< t - 1):(0:Int)≤u64w a∧(0:Int)≤(u64w ((i64w ((i64w ((a:Int)+1))+(p:Int))).tmod (i64w (t:Int))))∧
 good t (bOr .u16 (shlI .u16 1 (u64w a)) (shlI .u16 1 (u64w ((i64w ((i64w ((a:Int)+1))+(p:Int))).tmod (i64w (t:Int))))))∧
 ∀ c:Nat,c< t→(0:Int)≤u64w c∧good t (bOr .u16 (bOr .u16 (shlI .u16 1 (u64w a)) (shlI .u16 1 (u64w ((i64w ((i64w ((a:Int)+1))+(p:Int))).tmod (i64w (t:Int)))))) (shlI .u16 1 (u64w c))):=by
 have:=rule_all t ht h2 a ha p hp
 unfold ruleOk at this
 simp only [Bool.and_eq_true,decide_eq_true_eq,List.all_eq_true,List.mem_range] at this
 exact ⟨this.1,this.2.1,this.2.2.1,this.2.2.2⟩
def zeroS (code:List Int):Src:=⟨code,0,0⟩
structure Drawn (F:Fe):Prop where
 t:2≤F.Qad∧F.Qad≤5
 boat:0≤F.Qag∧F.Qag< F.Qad
 len:F.Qal.length≤4
 rules:∀ r∈F.Qal,good F.Qad.toNat r
theorem drawnF {N:Nat} {code:List Int} (hc:∀ x∈code,0≤x∧x≤255) (hl:code.length≤1000000) (hN:100< N):∃ F,Qce.f N code=some F∧Drawn F:=by
 have h0:SrcOk (zeroS code) 0:=⟨hc,Int.le_refl _,Int.le_refl _,by decide,hl⟩
 have main:∃ F s,Qa8.f N (zeroS code)=some (F,s)∧Drawn F:=by
  obtain ⟨x1,a1,d1,e1,r1,q1,h1⟩:=pick_any (N:=N) h0 (by decide) (n:=4) (by decide)
  have e1':QaS.f N (⟨(zeroS code).Qa3,(zeroS code).Qbf,(zeroS code).Qa2⟩:Src) 4=some (x1,⟨code,a1,d1⟩):=e1
  have w1:i8w (2+x1)=2+x1:=i8w_id (by omega) (by omega)
  have w2:i64w (2+x1)=2+x1:=i64w_id (by omega) (by omega)
  obtain ⟨x2,a2,d2,e2,r2,q2,h2⟩:=pick_any (N:=N) h1 (by decide) (n:=2+x1) ⟨by omega,by omega⟩
  have e2':QaS.f N (⟨(zeroS code).Qa3,a1,d1⟩:Src) (2+x1)=some (x2,⟨code,a2,d2⟩):=e2
  obtain ⟨x3,a3,d3,e3,r3,q3,h3⟩:=pick_any (N:=N) h2 (by decide) (n:=5) (by decide)
  have e3':QaS.f N (⟨(zeroS code).Qa3,a2,d2⟩:Src) 5=some (x3,⟨code,a3,d3⟩):=e3
  have w3:i8w x2=x2:=i8w_id (by omega) (by omega)
  simp only [Qa8.f,e1',Option.bind_some,w1,w2,e2',e3',w3]
  obtain ⟨T,hT⟩:∃ T:Nat,(T:Int)=2+x1:=⟨(2+x1).toNat,by omega⟩
  rw [← hT]
  have hTr:T< 6∧2≤T:=by omega
  have wT:i64w (T:Int)=(T:Int):=i64w_id (by omega) (by omega)
  have wT1:i64w ((T:Int) - 1)=(T:Int) - 1:=i64w_id (by omega) (by omega)
  obtain ⟨e,he,rs,a,d,rfl,hw1,hw2⟩:=rounds_ends (b:=fun s=>Qa8.b0 N (zeroS code) s.1 s.2.1 s.2.2.1 s.2.2.2.1 s.2.2.2.2.1 s.2.2.2.2.2)
   (fun s=>SrcOk ⟨code,s.1,s.2.1⟩ (10+5*s.2.2.2.2.1.length)∧s.2.2.1=(T:Int)∧s.2.2.2.1=x2∧0≤s.2.2.2.2.2∧(s.2.2.2.2.1.length:Int)+s.2.2.2.2.2≤4∧∀ r∈s.2.2.2.2.1,good T r)
   (fun s=>s.2.2.2.2.2.toNat) (fun e=>∃ rs a d,e= .go ((T:Int),x2,rs,a,d)∧rs.length≤4∧∀ r∈rs,good T r) (by
   rintro ⟨a,d,t,b,l,k⟩ ⟨i1,i2,i3,i4,i5,i6⟩
   simp only at i1 i2 i3 i4 i5 i6
   subst i2 i3
   by_cases ck:k>0
   ·right
    obtain ⟨y1,b1,f1,ey1,y10,y11,s1⟩:=pick_any (N:=N) i1 (by omega) (n:=(T:Int)) ⟨by omega,by omega⟩
    have ey1':QaS.f N (⟨(zeroS code).Qa3,a,d⟩:Src) (T:Int)=some (y1,⟨code,b1,f1⟩):=ey1
    obtain ⟨y2,b2,f2,ey2,y20,y21,s2⟩:=pick_any (N:=N) s1 (by omega) (n:=(T:Int) - 1) ⟨by omega,by omega⟩
    have ey2':QaS.f N (⟨(zeroS code).Qa3,b1,f1⟩:Src) ((T:Int) - 1)=some (y2,⟨code,b2,f2⟩):=ey2
    obtain ⟨y3,b3,f3,ey3,y30,y31,s3⟩:=pick_any (N:=N) s2 (by omega) (n:=5) (by decide)
    have ey3':QaS.f N (⟨(zeroS code).Qa3,b2,f2⟩:Src) 5=some (y3,⟨code,b3,f3⟩):=ey3
    have ey3'':QbT.f N (⟨(zeroS code).Qa3,b2,f2⟩:Src) 5=some (y3==0,⟨code,b3,f3⟩):=by
     simp only [QbT.f,ey3',Option.bind_some];rfl
    obtain ⟨Y1,rfl⟩:=Int.eq_ofNat_of_zero_le y10
    obtain ⟨Y2,rfl⟩:=Int.eq_ofNat_of_zero_le y20
    obtain ⟨g1,g2,g3,g4⟩:=rule_tab T hTr.1 hTr.2 Y1 (by omega) Y2 (by omega)
    have wk:i64w (k - 1)=k - 1:=i64w_id (by omega) (by omega)
    have fin:∀ (a' d' r:Int),SrcOk ⟨code,a',d'⟩ (10+5*l.length+4)→good T r→∃ s',Qa8.j2 N l (T:Int) b k a' d' r=some (.next s')∧(SrcOk ⟨code,s'.1,s'.2.1⟩ (10+5*s'.2.2.2.2.1.length)∧s'.2.2.1=(T:Int)∧s'.2.2.2.1=b∧0≤s'.2.2.2.2.2∧(s'.2.2.2.2.1.length:Int)+s'.2.2.2.2.2≤4∧∀ r∈s'.2.2.2.2.1,good T r)∧s'.2.2.2.2.2.toNat< k.toNat:=by
     intro a' d' r hs hr
     simp only [Qa8.j2,List.length_singleton,if_pos (show l.length+1≤70368744177664 by omega),wk]
     refine ⟨_,rfl,⟨?_,rfl,rfl,by dsimp only;omega,by dsimp only;rw [List.length_append,List.length_singleton];omega,?_⟩,by dsimp only;omega⟩
     ·dsimp only
      rw [List.length_append,List.length_singleton]
      obtain ⟨z1,z2,z3,z4,z5⟩:=hs
      exact ⟨z1,z2,by omega,by omega,z5⟩
     ·dsimp only
      intro p hp
      rcases List.mem_append.1 hp with hp|hp
      ·exact i6 p hp
      ·rw [List.mem_singleton] at hp;subst hp;exact hr
    simp only [Qa8.b0,if_pos ck,wT,wT1,ey1',ey2',Option.bind_some,if_pos (show ¬ (T:Int)=0 by omega)]
    rw [wT] at g2 g3 g4
    simp only [if_pos g1,if_pos g2,ey3'',Option.bind_some]
    by_cases c0:(y3==0)=true
    ·obtain ⟨y4,b4,f4,ey4,y40,y41,s4⟩:=pick_any (N:=N) s3 (by omega) (n:=(T:Int)) ⟨by omega,by omega⟩
     have ey4':QaS.f N (⟨(zeroS code).Qa3,b3,f3⟩:Src) (T:Int)=some (y4,⟨code,b4,f4⟩):=ey4
     obtain ⟨Y4,rfl⟩:=Int.eq_ofNat_of_zero_le y40
     obtain ⟨g5,g6⟩:=g4 Y4 (by omega)
     simp only [if_pos c0,ey4',Option.bind_some,if_pos g5]
     exact fin _ _ _ (by rw [show (10:Int)+5*l.length+4=10+5*l.length+1+1+1+1 by omega];exact s4) g6
    ·simp only [if_neg c0]
     exact fin _ _ _ (by
      obtain ⟨z1,z2,z3,z4,z5⟩:=s3
      exact ⟨z1,z2,by dsimp only at z3 ⊢;omega,by omega,z5⟩) g3
   ·left
    simp only [Qa8.b0,if_neg ck]
    exact ⟨_,rfl,_,_,_,rfl,by omega,i6⟩) N (a3,d3,(T:Int),x2,[],x3)
   ⟨by
    obtain ⟨z1,z2,z3,z4,z5⟩:=h3
    exact ⟨z1,z2,by dsimp only at z3 ⊢;simp;omega,by simp,z5⟩,rfl,rfl,r3,by simp;omega,by simp⟩ (by dsimp only;omega)
  rw [he]
  refine ⟨_,_,rfl,⟨⟨by dsimp only;omega,by dsimp only;omega⟩,⟨r2,by dsimp only;omega⟩,hw1,?_⟩⟩
  show ∀ r∈rs,good (T:Int).toNat r
  rw [Int.toNat_natCast]
  exact hw2
 obtain ⟨F,s,e,h1⟩:=main
 have e':Qa8.f N (⟨code,0,0⟩:Src)=some (F,s):=e
 refine ⟨F,?_,h1⟩
 simp only [Qce.f,Qcj.f,Option.bind_some,e']
theorem Drawn.ok {F:Fe} (h:Drawn F):InF F∧OkF F:=by
 have ht:=h.t
 have hb:=h.boat
 have tab:∀ t:Nat,t< 6→(2:Int)^t - 1≤31:=by decide+kernel
 have h31:=tab F.Qad.toNat (by omega)
 refine ⟨⟨by omega,by omega,fun r hr=>?_⟩,by unfold T8;omega,⟨hb.1,by omega⟩,by have:=h.len;omega,?_⟩
 ·obtain ⟨g1,g2,_⟩:=h.rules r hr
  omega
 ·rw [List.any_eq_false]
  intro r hr
  obtain ⟨g1,g2,g3,g4⟩:=h.rules r hr
  unfold bad
  simp only [Bool.or_eq_true,Bool.not_eq_true',decide_eq_true_eq,not_or,beq_eq_false_iff_ne,ne_eq,Decidable.not_not]
  exact ⟨g4,by omega⟩
theorem number_impl {N:Nat} {F:Fe} (h:T8 F) {b:Bk} (hb:0≤b.Qat∧b.Qat≤255):Qbg.f N F b=some (numF F b):=by
 have hall:=all_range h
 have h0:=h.1
 simp only [Qbg.f,(shl_one h).1,if_pos (show (0:Int)≤F.Qad by omega),numF]
 rw [i64w_id (x:=b.Qat) (by omega) (by omega),i64w_id (by omega) (by omega)]
 cases b.Qbi
 ·rfl
 ·simp only [if_true]
  rw [show b.Qat+(allF F+1)=b.Qat+allF F+1 by omega]
theorem at_impl {N:Nat} {F:Fe} (h:T8 F) {i:Nat} (hi:(i:Int)< 2*(allF F+1)):QbS.f N F (i:Int)=some (atF F i):=by
 have hall:=all_range h
 have h0:=h.1
 simp only [QbS.f,F_eta,Qcm N h,Option.bind_some,if_pos (show (0:Int)≤F.Qad by omega),(at_both h hi).2.1,(at_both h hi).2.2]
 rfl
def toF (F:Fe) (t:List Int) (i l:Int):Int:=rdL t (numF F (crossedB (atF F i) l)) 0
def badI (F:Fe) (t:List Int) (i:Int):Bool:=decide (rdL t i 0< -1)||(decide (0≤rdL t i 0)&&bankF F (atF F i)&&(loadsF F (atF F i)).any fun l=>decide (toF F t i l= -1)||decide (toF F t i l>rdL t i 0+1))
theorem proof_impl {N:Nat} {F:Fe} (h:OkF F) {t:List Int} (ht:∀ x∈t,-32768≤x∧x≤32767) (hl:(t.length:Int)=2*(allF F+1)) (hN:600< N):
 QaG.f N F t=some (decide (rdL t (allF F) 0=0)&&!((idx t.length).any (badI F t))):=by
 have hall:=all_range h.t8
 obtain ⟨e,he,hq⟩:=rounds_any (b:=fun s=>QaG.b0 N t F s) (idx t.length) (badI F t) (fun _=>false) (N:=N) (by rw [idx_len];omega) (by
  intro i hi
  rw [idx_get]
  rw [idx_len] at hi
  have g1:(i:Int)< t.length:=by omega
  have g2:(0:Int)≤i:=by omega
  have hk:=rd_range ht (i:Int)
  simp only [QaG.b0,g1,g2,and_self,if_true,F_eta,at_impl h.t8 (show (i:Int)< 2*(allF F+1) by omega),Option.bind_some,bank_impl h.t8 h.len (show 40< N by omega),loads_impl h (show 300< N by omega) (atF_range h.t8 i),QaG.j2,i64w_succ hi (show t.length≤9223372036854775807 by omega),badI]
  by_cases c1:rdL t (i:Int) 0< -1
  ·simp [c1]
  ·by_cases c2:rdL t (i:Int) 0= -1
   ·have c2':¬ 0≤rdL t (i:Int) 0:=by omega
    simp [c1,c2,c2']
   ·have c2':0≤rdL t (i:Int) 0:=by omega
    simp only [c1,c2,c2',if_false,decide_true,decide_false,Bool.false_or,Bool.true_and]
    by_cases c3:bankF F (atF F i)=true
    ·have hll:=loadsF_len h.t8 (atF F i)
     obtain ⟨e,he,hq⟩:=rounds_any (b:=fun s=>QaG.b3 N (loadsF F (atF F i)) (atF F i) F t (i:Int) s) (loadsF F (atF F i)) (fun l=>decide (toF F t i l= -1)||decide (toF F t i l>rdL t i 0+1)) (fun _=>false) (N:=N) (by omega) (by
      intro j hj
      have g1:(j:Int)< (loadsF F (atF F i)).length:=by omega
      have g2:(0:Int)≤j:=by omega
      have hs:=step_code h hj
      have hn:=numF_range h.t8 ⟨hs.2.2.2.1,hs.2.2.2.2⟩
      have hto:=rd_range ht (numF F (crossedB (atF F i) (loadsF F (atF F i))[j]))
      have hcr:∀ b l,Qbm.f N b l=some (crossedB b l):=fun _ _=>rfl
      simp only [QaG.b3,g1,g2,and_self,if_true,rdL_nat hj,F_eta,hcr,Option.bind_some,number_impl h.t8 (N:=N) ⟨hs.2.2.2.1,show (crossedB (atF F i) (loadsF F (atF F i))[j]).Qat≤255 by omega⟩,i64w_succ hj (show (loadsF F (atF F i)).length≤9223372036854775807 by omega)]
      rw [if_pos (by omega)]
      simp only [i64w_id (x:=rdL t (numF F (crossedB (atF F i) (loadsF F (atF F i))[j])) 0) (by omega) (by omega),i64w_id (x:=rdL t (i:Int) 0) (by omega) (by omega),i64w_id (x:=rdL t (i:Int) 0+1) (by omega) (by omega),toF]
      by_cases d1:rdL t (numF F (crossedB (atF F i) (loadsF F (atF F i))[j])) 0= -1
      ·simp [d1]
      ·by_cases d2:rdL t (numF F (crossedB (atF F i) (loadsF F (atF F i))[j])) 0>rdL t (i:Int) 0+1
       ·simp [d1,d2]
       ·simp [d1,d2]) (by
      simp only [QaG.b3]
      rw [if_neg (by omega)])
     rw [if_pos c3,he,c3,Bool.true_and]
     by_cases c4:((loadsF F (atF F i)).any fun l=>decide (toF F t i l= -1)||decide (toF F t i l>rdL t i 0+1))=true
     ·rw [if_pos c4] at hq
      obtain ⟨_,rfl⟩:=hq
      rw [if_pos c4];rfl
     ·rw [if_neg c4] at hq
      subst hq
      rw [if_neg c4]
      show QaG.a3 N (i:Int)=_
      simp only [QaG.a3,QaG.j2,i64w_succ hi (show t.length≤9223372036854775807 by omega)]
    ·rw [if_neg c3]
     simp [c3]) (by
  rw [idx_len]
  simp only [QaG.b0]
  rw [if_neg (by omega)])
 have hnum:numF F ⟨allF F,false⟩=allF F:=rfl
 simp only [QaG.f,F_eta,Qcm N h.t8,Option.bind_some,number_impl h.t8 (N:=N) (b:=⟨allF F,false⟩) ⟨show 0≤allF F by omega,show allF F≤255 by omega⟩,hnum]
 rw [if_pos ⟨by omega,by omega⟩]
 by_cases c:rdL t (allF F) 0=0
 ·rw [if_pos c,he]
  simp only [c,decide_true,Bool.true_and]
  by_cases c4:(idx t.length).any (badI F t)=true
  ·rw [if_pos c4] at hq
   obtain ⟨_,rfl⟩:=hq
   rw [c4];rfl
  ·rw [if_neg c4] at hq
   subst hq
   rw [Bool.not_eq_true] at c4
   rw [c4];rfl
 ·rw [if_neg c]
  simp [c]
theorem mul_tab:∀ n:Nat,n< 513→bits_Mul64.f 0 1 (n:Int)=some (0,(n:Int)):=by decide+kernel
theorem mul_eq (N:Nat) {n:Nat} (h:n< 513):bits_Mul.f N 1 (n:Int)=some (0,(n:Int)):=by
 have:bits_Mul64.f N 1 (n:Int)=some (0,(n:Int)):=mul_tab n h
 simp only [bits_Mul.f,this,Option.bind_some]
def fillL (n k:Nat) (v:Int):List Int:=List.replicate k v++List.replicate (n - k) 0
theorem fillL_len {n k:Nat} (h:k≤n) (v:Int):(fillL n k v).length=n:=by simp [fillL];omega
theorem fill_step {n k:Nat} (h:k≤n) (v:Int):cpL (fillL n k v) ((fillL n k v).take k) (k:Int) (n:Int)=fillL n (min (k+k) n) v:=by
 have e1:(fillL n k v).take k=List.replicate k v:=by simp [fillL,List.take_append]
 have e2:cpN (fillL n k v) (List.replicate k v) (k:Int) (n:Int)=min (n - k) k:=by simp [cpN]
 unfold cpL
 rw [e1,e2]
 rw [show (k:Int).toNat=k from Int.toNat_natCast k,e1]
 simp only [fillL,List.take_replicate,List.drop_append,List.drop_replicate,List.length_replicate]
 rw [List.replicate_append_replicate]
 congr 1
 ·congr 1;omega
 ·rw [show k - (k+min (n - k) k)=0 by omega,List.replicate_zero,List.nil_append]
  congr 1;omega
theorem repeat_eq {N n:Nat} (h1:1≤n) (hn:n≤512) (hN:600< N) (v:Int):QaO.f N [v] (n:Int)=some (List.replicate n v):=by
 have hm:=mul_eq N (n:=n) (by omega)
 obtain ⟨e,he,rfl⟩:=rounds_ends (b:=fun s=>QaO.b0 N s.1 s.2) (fun s=>∃ k:Nat,1≤k∧k≤n∧s=(fillL n k v,(k:Int))) (fun s=>n - s.2.toNat) (fun e=>e= .go (List.replicate n v)) (by
  rintro s ⟨k,k1,k2,rfl⟩
  have hl:=fillL_len k2 v
  by_cases hk:k< n
  ·right
   refine ⟨(fillL n (min (k+k) n) v,((min (k+k) n:Nat):Int)),?_,⟨min (k+k) n,by omega,by omega,rfl⟩,by simp only [Int.toNat_natCast];omega⟩
   have e0:(cpN (fillL n k v) ((fillL n k v).take k) (k:Int) (n:Int))=min (n - k) k:=by
    simp [cpN,hl];omega
   have g1:(k:Int)< (n:Int):=by omega
   have g2:(0:Int)≤(k:Int)∧(k:Int)≤(n:Int)∧(n:Int)≤(n:Int):=⟨by omega,by omega,by omega⟩
   have g3:(0:Int)≤(0:Int)∧(0:Int)≤(k:Int)∧(k:Int)≤(n:Int):=⟨by omega,by omega,by omega⟩
   simp only [QaO.b0,hl,if_pos g1,if_pos g2,if_pos g3,Int.toNat_natCast,Int.toNat_zero,List.drop_zero,Nat.sub_zero,fill_step k2,e0]
   rw [i64w_id (by omega) (by omega)]
   congr 4
   omega
  ·left
   obtain rfl:k=n:=by omega
   refine ⟨_,?_,rfl⟩
   simp only [QaO.b0,hl]
   rw [if_neg (by omega)]
   simp [fillL]) N ([v]++List.replicate (n - 1) 0,1) ⟨1,by omega,by omega,rfl⟩ (by simp only;omega)
 have e1:u64w (([v]:List Int).length:Int)=1:=by
  rw [List.length_singleton]
  decide
 have e2:u64w (n:Int)=(n:Int):=u64w_id (by omega) (by omega)
 have e3:i64w (n:Int)=(n:Int):=i64w_id (by omega) (by omega)
 have e4:cpN (List.replicate n (0:Int)) [v] 0 ((List.replicate n (0:Int)).length:Int)=1:=by simp [cpN];omega
 have e5:cpL (List.replicate n (0:Int)) [v] 0 ((List.replicate n (0:Int)).length:Int)=[v]++List.replicate (n - 1) 0:=by
  unfold cpL
  rw [e4];simp
 simp only [QaO.f,e1,e2,hm,Option.bind_some,e3,if_neg (show ¬ (n:Int)< 0 by omega),if_neg (show ¬ (0:Int)>0 by omega),if_neg (show ¬ (n:Int)>9223372036854775807 by omega),if_pos (show (0:Int)≤(n:Int)∧(n:Int)≤140737488355328 by omega),Int.toNat_natCast,e4,e5]
 have he':rounds (fun s=>QaO.b0 N s.1 s.2) N ([v]++List.replicate (n - 1) 0,((1:Nat):Int))=some (.go (List.replicate n v)):=he
 rw [he']
 rfl
theorem table_eq {N:Nat} {F:Fe} (h:OkF F) (hN:2000< N) {tb fr ba qu:List Int} {out:List Cr} {met:List (Bk×Bool)} (e2:Qau.f N F=some out) (hR:Rel F out met tb fr ba qu):Qa1.f N F=some tb:=by
 have hall:=all_range h.t8
 have h0:=h.t8.1
 obtain ⟨n,hn⟩:∃ n:Nat,2*(allF F+1)=(n:Int):=Int.eq_ofNat_of_zero_le (by omega)
 have hlen:=hR.len h.t8
 have hlt:=hR.lt.1
 unfold nB at hlen hlt
 have hrep:=repeat_eq (N:=N) (n:=n) (by omega) (by omega) (by omega) (-1)
 obtain ⟨e,he,rfl⟩:=rounds_ends (b:=fun s=>Qa1.b0 N out F s.1 s.2)
  (fun s=>∃ p:Nat,s.2=(p:Int)∧p≤out.length∧s.1.length=n∧∀ j:Int,0≤j→j< n→rdL s.1 j 0=if j∈(out.take p).map (fun c=>numF F c.Qax) then rdL tb j 0 else -1)
  (fun s=>out.length - s.2.toNat) (fun e=>e= .go tb) (by
  rintro ⟨x,p⟩ ⟨p',hp,p1,p2,p3⟩
  simp only at hp p2 p3
  subst hp
  by_cases hp:p'< out.length
  ·right
   have hc:=rdL_memb (z:=zc) hp
   have hnr:=numF_range h.t8 (hR.near _ hc)
   have hmn:=hR.tb_nonneg hp
   have hy:=(hR.yes p' hp).1
   have g0:(p':Int)< (out.length:Int):=by omega
   have g1:(0:Int)≤(p':Int)∧(p':Int)< (out.length:Int):=⟨by omega,g0⟩
   have g2:0≤numF F (rdL out (p':Int) zc).Qax∧numF F (rdL out (p':Int) zc).Qax< (x.length:Int):=⟨hnr.1,by omega⟩
   have hb:0≤(rdL out (p':Int) zc).Qax.Qat∧(rdL out (p':Int) zc).Qax.Qat≤255:=by
    have:=hR.near _ hc
    unfold nearOk at this
    omega
   refine ⟨(stL x (numF F (rdL out (p':Int) zc).Qax) (rdL out (p':Int) zc).QaQ,((p'+1:Nat):Int)),?_,⟨p'+1,rfl,hp,by simp only [stL_len];exact p2,?_⟩,by simp only [Int.toNat_natCast];omega⟩
   ·simp only [Qa1.b0,if_pos g0,if_pos g1,F_eta,number_impl h.t8 (N:=N) hb,Option.bind_some,if_pos g2,i16w_id (x:=(rdL out (p':Int) zc).QaQ) (by omega) (by omega),i64w_succ hp (show out.length≤9223372036854775807 by omega)]
   ·intro j j0 j1
    simp only
    rw [rdL_st g2 ⟨j0,by omega⟩,List.take_succ_eq_append_getElem hp,List.map_append]
    have he:rdL out (p':Int) zc=out[p']:=rdL_nat hp
    by_cases hj:j=numF F (rdL out (p':Int) zc).Qax
    ·rw [if_pos hj,if_pos (List.mem_append.2 (.inr (by rw [hj,he];simp))),hj,hy]
    ·rw [if_neg hj,p3 j j0 j1]
     by_cases hm:j∈(out.take p').map (fun c=>numF F c.Qax)
     ·rw [if_pos hm,if_pos (List.mem_append.2 (.inl hm))]
     ·rw [if_neg hm,if_neg]
      intro q
      rcases List.mem_append.1 q with q|q
      ·exact hm q
      ·simp only [List.map_cons,List.map_nil,List.mem_singleton] at q
       exact hj (by rw [he];exact q)
  ·left
   obtain rfl:p'=out.length:=by omega
   have hx:x=tb:=by
    apply List.ext_getElem (by omega)
    intro j j1 j2
    have:=p3 (j:Int) (by omega) (by omega)
    rw [List.take_length] at this
    rw [← rdL_nat (z:=0) j1,← rdL_nat (z:=0) j2,this]
    by_cases hm:(j:Int)∈out.map (fun c=>numF F c.Qax)
    ·rw [if_pos hm]
    ·rw [if_neg hm,hR.no (j:Int) (by omega) (by unfold nB;omega) hm]
   refine ⟨_,?_,rfl⟩
   simp only [Qa1.b0]
   rw [if_neg (by omega),hx]) N (List.replicate n (-1),0) ⟨0,rfl,by omega,by simp,by
    intro j j0 j1
    simp only [List.take_zero,List.map_nil,List.not_mem_nil,if_false]
    exact repl_rd j0 j1⟩ (by simp only;omega)
 simp only [Qa1.f,F_eta,if_pos (show (0:Int)≤F.Qad by omega),(shl_one h.t8).2,hn,hrep,Option.bind_some,e2,he]
 rfl
abbrev caS (F:Fe) (b:Bk) (l:Int):Ex (Ex (Bk×Int) Bk) Bk:=if codeF F b l=0 then .go (crossedB b l) else .ret (.ret (⟨0,false⟩,codeF F b l))
abbrev caF (b:Bk):Ex (Bk×Int) Bk:= .go b
theorem ca_impl {N:Nat} {F:Fe} (h:OkF F) {a:List Int} (ha:∀ x∈a,0≤x∧x≤65535) (hl:a.length≤1000) (hN:2000< N) {b:Bk} (hb:0≤b.Qat∧b.Qat≤255):
 rounds (fun s=>Qbn.b0 N a F s.1 s.2) N (b,0)=some (walk (caS F) caF b a):=by
 refine rounds_walk0 (fun b i=>(b,i)) a (caS F) caF (fun _ b=>0≤b.Qat∧b.Qat≤255) (by omega) hb ?_ ?_
 ·intro b i hi hb
  have g1:(i:Int)< a.length:=by omega
  have g2:(0:Int)≤i:=by omega
  have hx:=ha _ (List.getElem_mem hi)
  by_cases c:codeF F b a[i]=0
  ·have e:caS F b a[i]= .go (crossedB b a[i]):=if_pos c
   rw [e]
   have:=crossedB_range h.t8 c
   refine ⟨⟨this.1,this.2.2⟩,?_⟩
   simp only [Qbn.b0,Qbm.f,g1,g2,and_self,if_true,rdL_nat hi,i64w_succ hi (show a.length≤9223372036854775807 by omega),F_eta,cross_impl h (show 40< N by omega) hb hx,Option.bind_some,if_pos c,crossedB]
  ·have e:caS F b a[i]= .ret (.ret (⟨0,false⟩,codeF F b a[i])):=if_neg c
   rw [e]
   simp only [Qbn.b0,Qbm.f,g1,g2,and_self,if_true,rdL_nat hi,i64w_succ hi (show a.length≤9223372036854775807 by omega),F_eta,cross_impl h (show 40< N by omega) hb hx,Option.bind_some,if_neg c]
 ·intro b _
  simp only [Qbn.b0]
  rw [if_neg (by omega)]
theorem i64w_mod (x:Int):i64w x%18446744073709551616=x%18446744073709551616:=by
 simp [IntKind.wrap,IntKind.bits,IntKind.signed];split<;>omega
theorem i64w_eq {x y:Int} (h:x%18446744073709551616=y%18446744073709551616):i64w x=i64w y:=by
 simp [IntKind.wrap,IntKind.bits,IntKind.signed,h]
theorem i64w_add (x y:Int):i64w (i64w x+i64w y)=i64w (x+y):=by
 apply i64w_eq
 have h1:=i64w_mod x
 have h2:=i64w_mod y
 omega
def part (e:Nat→Nat→Bool) (W:Nat→Nat) (p:Nat):Nat→Nat
 |0=>0
 |i+1=>part e W p i+if e i p=true then W i else 0
def wl (e:Nat→Nat→Bool):Nat→List Nat
 |0=>[1]
 |n+1=>wl e n++[part e (fun i=>(wl e n).getD i 0) (n+1) (n+1)]
def Wt (e:Nat→Nat→Bool) (p:Nat):Nat:=(wl e p).getD p 0
theorem wl_len (e:Nat→Nat→Bool):∀ n,(wl e n).length=n+1
 |0=>rfl
 |n+1=>by simp [wl,wl_len e n]
theorem wl_get (e:Nat→Nat→Bool):∀ n q,q≤n→(wl e n).getD q 0=Wt e q
 |0,q,h=>by
  obtain rfl:q=0:=by omega
  rfl
 |n+1,q,h=>by
  by_cases c:q=n+1
  ·subst c;rfl
  ·rw [← wl_get e n q (by omega)]
   show (wl e n++[_]).getD q 0=_
   have hl:=wl_len e n
   rw [List.getD_eq_getElem?_getD,List.getD_eq_getElem?_getD,List.getElem?_append_left (by omega)]
theorem part_congr {e:Nat→Nat→Bool} {W V:Nat→Nat} (p:Nat):∀ i,(∀ q,q< i→W q=V q)→part e W p i=part e V p i
 |0,_=>rfl
 |i+1,h=>by simp only [part,part_congr p i (fun q hq=>h q (by omega)),h i (by omega)]
theorem Wt_zero (e:Nat→Nat→Bool):Wt e 0=1:=rfl
theorem Wt_succ (e:Nat→Nat→Bool) (n:Nat):Wt e (n+1)=part e (Wt e) (n+1) (n+1):=by
 have hl:=wl_len e n
 show (wl e n++[part e (fun i=>(wl e n).getD i 0) (n+1) (n+1)]).getD (n+1) 0=_
 rw [List.getD_eq_getElem?_getD,List.getElem?_append_right (by omega),hl,Nat.sub_self]
 show part e (fun i=>(wl e n).getD i 0) (n+1) (n+1)=_
 exact part_congr (n+1) (n+1) fun q hq=>wl_get e n q (by omega)
theorem Wt_le (e:Nat→Nat→Bool):∀ n p,p≤n→2*Wt e p≤2^(p+1)∧(1≤p→2*Wt e p≤2^p)
 |0,p,h=>by
  obtain rfl:p=0:=by omega
  exact ⟨Nat.le_refl 2,fun x=>absurd x (by decide)⟩
 |n+1,p,h=>by
  by_cases c:p=n+1
  ·subst c
   have key:∀ i,i≤n+1→2*part e (Wt e) (n+1) i≤2^i:=by
    intro i
    induction i with
    |zero=>intro _;exact Nat.zero_le _
    |succ i ih=>
     intro hi
     have h1:=ih (by omega)
     have h2:=Wt_le e n i (by omega)
     have h3:2^(i+1)=2^i+2^i:=by rw [Nat.pow_succ];omega
     by_cases c0:i=0
     ·subst c0
      simp only [part,Wt_zero]
      split<;>decide
     ·have h4:=h2.2 (by omega)
      simp only [part]
      split<;>omega
   have:=key (n+1) (by omega)
   rw [← Wt_succ] at this
   have h3:2^(n+1+1)=2^(n+1)+2^(n+1):=by rw [Nat.pow_succ];omega
   exact ⟨by omega,fun _=>by omega⟩
  ·exact Wt_le e n p (by omega)
def edge (F:Fe) (out:List Cr) (q p:Nat):Bool:=decide ((at_ out p).QaQ=(at_ out q).QaQ+1)&&(loadsF F (at_ out q).Qax).any fun l=>decide (crossedB (at_ out q).Qax l=(at_ out p).Qax)
theorem edge_iff {F:Fe} {out:List Cr} {q p:Nat}:edge F out q p=true↔(at_ out p).QaQ=(at_ out q).QaQ+1∧∃ l∈loadsF F (at_ out q).Qax,crossedB (at_ out q).Qax l=(at_ out p).Qax:=by
 unfold edge;simp
theorem xor_inj {b:Bk} {l m:Int} (hl:0≤l∧l≤65535) (hm:0≤m∧m≤65535) (h:crossedB b l=crossedB b m):l=m:=by
 have h':bXor .u16 b.Qat l=bXor .u16 b.Qat m:=congrArg Qak.Qat h
 refine bit_ext hl hm fun i hi=>?_
 have:=congrArg (fun x=>bit x i) h'
 simp only [bit_xor] at this
 cases h1:bit b.Qat i<;>cases h2:bit l i<;>cases h3:bit m i<;>simp_all
theorem loads_nodup (F:Fe) (b:Bk):(loadsF F b).Nodup:=by
 unfold loadsF loadsTo
 exact List.Pairwise.filter _ (List.Pairwise.map _ (fun a b h e=>h (Int.ofNat.inj e)) List.nodup_range)
theorem nd_inj {α:Type} {l:List α} (h:l.Nodup) {i j:Nat} (hi:i< l.length) (hj:j< l.length) (e:l[i]=l[j]):i=j:=by
 rcases Nat.lt_trichotomy i j with c|c|c
 ·exact absurd e (List.pairwise_iff_getElem.1 h i j hi hj c)
 ·exact c
 ·exact absurd e.symm (List.pairwise_iff_getElem.1 h j i hj hi c)
structure All (F:Fe) (N:Nat) (tb:List Int) (out:List Cr):Prop where
 ok:OkF F
 e2:Qau.f N F=some out
 tab:Qa1.f N F=some tb
 rel:∃ fr ba qu met,Rel F out met tb fr ba qu
 sr:∃ met,Sr F out met out.length
 cl:Cl F out out.length
theorem search_all {N:Nat} {F:Fe} (h:OkF F) (hN:2000< N):∃ tb wy fr ba out,QaD.f N F=some ⟨tb,wy,fr,ba⟩∧All F N tb out:=by
 obtain ⟨tb,wy,fr,ba,qu,out,met,e1,e2,hR,_,_⟩:=search_both h hN
 obtain ⟨met',hS,hC⟩:=search_sound h hN e2
 exact ⟨tb,wy,fr,ba,out,e1,h,e2,table_eq h hN e2 hR,⟨fr,ba,qu,met,hR⟩,⟨met',hS⟩,hC⟩
section
variable {F:Fe} {N:Nat} {tb:List Int} {out:List Cr}
theorem All.inj (A:All F N tb out) {p q:Nat} (hp:p< out.length) (hq:q< out.length) (h:(at_ out p).Qax=(at_ out q).Qax):p=q:=by
 obtain ⟨fr,ba,qu,met,R⟩:=A.rel
 have hn:=R.nd
 have hp':p< (out.map fun c=>numF F c.Qax).length:=by rw [List.length_map];exact hp
 have hq':q< (out.map fun c=>numF F c.Qax).length:=by rw [List.length_map];exact hq
 refine nd_inj hn hp' hq' ?_
 rw [List.getElem_map,List.getElem_map]
 have h1:at_ out p=out[p]:=rdL_nat hp
 have h2:at_ out q=out[q]:=rdL_nat hq
 rw [← h1,← h2,h]
theorem All.near (A:All F N tb out) {p:Nat} (hp:p< out.length):nearOk F (at_ out p).Qax:=by
 obtain ⟨met,S⟩:=A.sr
 exact S.near p hp
theorem All.tb_at (A:All F N tb out) {p:Nat} (hp:p< out.length):rdL tb (numF F (at_ out p).Qax) 0=(at_ out p).QaQ:=by
 obtain ⟨fr,ba,qu,met,R⟩:=A.rel
 exact (R.yes p hp).1
theorem All.len (A:All F N tb out):(out.length:Int)≤nB F∧(tb.length:Int)=nB F:=by
 obtain ⟨fr,ba,qu,met,R⟩:=A.rel
 exact ⟨R.len A.ok.t8,R.lt.1⟩
theorem All.le (A:All F N tb out) {p:Nat} (hp:p< out.length):0≤(at_ out p).QaQ∧(at_ out p).QaQ≤p:=by
 obtain ⟨met,S⟩:=A.sr
 exact S.le p hp
theorem All.edge_lt (A:All F N tb out) {p q:Nat} (hp:p< out.length) (hq:q< out.length) (h:edge F out q p=true):q< p:=by
 obtain ⟨met,S⟩:=A.sr
 have:=(edge_iff.1 h).1
 by_cases c:q< p
 ·exact c
 ·have:=S.mono p q (by omega) hq
  omega
def Vt (F:Fe) (out:List Cr) (p i:Nat):Int:=(if p=0 then 1 else 0)+(part (edge F out) (Wt (edge F out)) p i:Int)
theorem part_top (A:All F N tb out) {p:Nat} (hp:p< out.length):∀ i,p≤i→i≤out.length→part (edge F out) (Wt (edge F out)) p i=part (edge F out) (Wt (edge F out)) p p:=by
 intro i
 induction i with
 |zero=>
  intro hi _
  obtain rfl:p=0:=by omega
  rfl
 |succ i ih=>
  intro hi hl
  by_cases c:p=i+1
  ·subst c;rfl
  ·have hn:¬ edge F out i p=true:=fun x=>by have:=A.edge_lt hp (by omega) x;omega
   simp only [part,if_neg hn,Nat.add_zero]
   exact ih (by omega) (by omega)
theorem Vt_top (A:All F N tb out) {p i:Nat} (hp:p< out.length) (hi:p≤i) (hl:i≤out.length):Vt F out p i=(Wt (edge F out) p:Int):=by
 unfold Vt
 rw [part_top A hp i hi hl]
 cases p with
 |zero=>rw [if_pos rfl,Wt_zero];rfl
 |succ p=>rw [if_neg (by omega),Wt_succ];omega
def Tells (F:Fe) (out:List Cr) (wy:List (Bk×Int)) (V:Nat→Int):Prop:=(∀ p,p< out.length→mGet wy (at_ out p).Qax 0=i64w (V p))∧∀ b,(∀ p,p< out.length→(at_ out p).Qax≠b)→mGet wy b 0=0
def hit (F:Fe) (out:List Cr) (i j p:Nat):Bool:=decide ((at_ out p).QaQ=(at_ out i).QaQ+1)&&((loadsF F (at_ out i).Qax).take j).any fun l=>decide (crossedB (at_ out i).Qax l=(at_ out p).Qax)
theorem hit_zero (F:Fe) (out:List Cr) (i p:Nat):hit F out i 0 p=false:=by unfold hit;simp
theorem hit_all (F:Fe) (out:List Cr) (i p:Nat):hit F out i (loadsF F (at_ out i).Qax).length p=edge F out i p:=by unfold hit edge;rw [List.take_length]
theorem hit_succ {i j p:Nat} (hj:j< (loadsF F (at_ out i).Qax).length):hit F out i (j+1) p=(hit F out i j p||(decide ((at_ out p).QaQ=(at_ out i).QaQ+1)&&decide (crossedB (at_ out i).Qax (loadsF F (at_ out i).Qax)[j]=(at_ out p).Qax))):=by
 unfold hit
 rw [List.take_succ_eq_append_getElem hj,List.any_append]
 simp only [List.any_cons,List.any_nil,Bool.or_false]
 cases decide ((at_ out p).QaQ=(at_ out i).QaQ+1)<;>simp
theorem ways_inner (A:All F N tb out) (hN:2000< N) {i:Nat} (hi:i< out.length) {wy0:List (Bk×Int)} (h0:Tells F out wy0 (fun p=>Vt F out p i)):
 ∃ wy,rounds (fun s=>QaJ.b2 N (loadsF F (at_ out i).Qax) out (i:Int) F tb s.1 s.2) N (wy0,0)=some (.go wy)∧Tells F out wy (fun p=>Vt F out p (i+1)):=by
 have h:=A.ok
 have hall:=all_range h.t8
 have hlen:=A.len
 have hni:=A.near hi
 have hll:=loadsF_len h.t8 (at_ out i).Qax
 have hmi:=A.le hi
 have hnB:nB F≤512:=by unfold nB;omega
 obtain ⟨e,he,wy,rfl,hw⟩:=rounds_ends (b:=fun s=>QaJ.b2 N (loadsF F (at_ out i).Qax) out (i:Int) F tb s.1 s.2)
  (fun s=>∃ j:Nat,s.2=(j:Int)∧j≤(loadsF F (at_ out i).Qax).length∧Tells F out s.1 (fun p=>Vt F out p i+if hit F out i j p=true then (Wt (edge F out) i:Int) else 0))
  (fun s=>(loadsF F (at_ out i).Qax).length - s.2.toNat) (fun e=>∃ wy,e= .go wy∧Tells F out wy (fun p=>Vt F out p (i+1))) (by
  rintro ⟨wy,j⟩ ⟨j',hj,hjl,hT⟩
  simp only at hj hT
  subst hj
  by_cases hj:j'< (loadsF F (at_ out i).Qax).length
  ·right
   have g1:(j':Int)< ((loadsF F (at_ out i).Qax).length:Int):=by omega
   have g2:(0:Int)≤(j':Int)∧(j':Int)< ((loadsF F (at_ out i).Qax).length:Int):=⟨by omega,g1⟩
   obtain ⟨hcode,hl0,hl1,hn0,hn1⟩:=step_code h hj
   obtain ⟨q,hq,hqb,hqm⟩:=A.cl i hi _ (List.getElem_mem hj)
   have hnq:=A.near hq
   have hto:=numF_range h.t8 hnq
   have htb:=A.tb_at hq
   have hmq:=A.le hq
   have hnear:0≤(at_ out q).Qax.Qat∧(at_ out q).Qax.Qat≤255:=by unfold nearOk at hnq;omega
   have gT:0≤numF F (at_ out q).Qax∧numF F (at_ out q).Qax< (tb.length:Int):=⟨hto.1,by unfold nB at hlen;omega⟩
   have hcr:∀ b l,Qbm.f N b l=some (crossedB b l):=fun _ _=>rfl
   have hnext:i64w ((j':Int)+1)=((j'+1:Nat):Int):=i64w_succ hj (by omega)
   have w1:i64w ((at_ out q).QaQ)=(at_ out q).QaQ:=i64w_id (by omega) (by omega)
   have w2:i64w ((at_ out i).QaQ+1)=(at_ out i).QaQ+1:=i64w_id (by omega) (by omega)
   have hrd:rdL out (i:Int) Qap=at_ out i:=rfl
   have hstep:QaJ.b2 N (loadsF F (at_ out i).Qax) out (i:Int) F tb wy (j':Int)=some (.next (if (at_ out q).QaQ=(at_ out i).QaQ+1 then mSet wy (at_ out q).Qax (i64w (mGet wy (at_ out q).Qax 0+mGet wy (at_ out i).Qax 0)) else wy,((j'+1:Nat):Int))):=by
    simp only [QaJ.b2,if_pos g1,if_pos g2,hrd,rdL_nat hj,hcr,Option.bind_some,← hqb,F_eta,number_impl h.t8 (N:=N) hnear,if_pos gT,htb,w1,w2,QaJ.j4,hnext]
    split<;>rfl
   refine ⟨_,hstep,⟨j'+1,rfl,hj,?_⟩,by dsimp only;omega⟩
   have nodup:hit F out i j' q=false:=by
    unfold hit
    rw [Bool.and_eq_false_iff]
    right
    rw [List.any_eq_false]
    intro l hl hc
    have hc:=of_decide_eq_true hc
    rw [hqb] at hc
    obtain ⟨m,hm,rfl⟩:=List.mem_iff_getElem.1 hl
    rw [List.length_take] at hm
    rw [List.getElem_take] at hc
    have hml:m< (loadsF F (at_ out i).Qax).length:=by omega
    obtain ⟨_,a0,a1,_,_⟩:=step_code h hml
    have:=xor_inj (b:=(at_ out i).Qax) ⟨a0,by omega⟩ ⟨hl0,by omega⟩ hc
    have:=nd_inj (loads_nodup F (at_ out i).Qax) hml hj this
    omega
   have hself:hit F out i j' i=false:=by
    unfold hit
    rw [Bool.and_eq_false_iff]
    left
    exact decide_eq_false (by omega)
   dsimp only
   by_cases cm:(at_ out q).QaQ=(at_ out i).QaQ+1
   ·rw [if_pos cm]
    refine ⟨fun p hp=>?_,fun b hb=>?_⟩
    ·rw [mGet_set]
     by_cases e:(at_ out p).Qax=(at_ out q).Qax
     ·obtain rfl:=A.inj hp hq e
      rw [if_pos rfl,hT.1 p hp,hT.1 i hi,i64w_add]
      dsimp only
      rw [hself,nodup,Vt_top A hi (Nat.le_refl _) (by omega)]
      have hh:hit F out i (j'+1) p=true:=by rw [hit_succ hj,hqb,cm];simp
      rw [hh]
      simp
     ·rw [if_neg e,hT.1 p hp]
      have hh:hit F out i (j'+1) p=hit F out i j' p:=by
       rw [hit_succ hj,← hqb,decide_eq_false (p:=(at_ out q).Qax=(at_ out p).Qax) (fun x=>e x.symm)]
       simp
      dsimp only
      rw [hh]
    ·rw [mGet_set,if_neg (fun x=>hb q hq x.symm)]
     exact hT.2 b hb
   ·rw [if_neg cm]
    refine ⟨fun p hp=>?_,hT.2⟩
    rw [hT.1 p hp]
    have hh:hit F out i (j'+1) p=hit F out i j' p:=by
     rw [hit_succ hj,← hqb]
     by_cases e:(at_ out q).Qax=(at_ out p).Qax
     ·obtain rfl:=A.inj hq hp e
      rw [decide_eq_false cm];simp
     ·rw [decide_eq_false e];simp
    dsimp only
    rw [hh]
  ·left
   obtain rfl:j'=(loadsF F (at_ out i).Qax).length:=by omega
   refine ⟨.go wy,?_,wy,rfl,?_⟩
   ·simp only [QaJ.b2]
    rw [if_neg (by omega)]
   ·refine ⟨fun p hp=>?_,hT.2⟩
    rw [hT.1 p hp]
    dsimp only
    rw [hit_all]
    congr 1
    unfold Vt
    simp only [part]
    by_cases ce:edge F out i p=true
    ·rw [if_pos ce,if_pos ce];omega
    ·rw [if_neg ce,if_neg ce];omega) N (wy0,0) ⟨0,rfl,by omega,by
   refine ⟨fun p hp=>?_,h0.2⟩
   dsimp only
   rw [h0.1 p hp,hit_zero]
   simp⟩ (by dsimp only;omega)
 exact ⟨wy,he,hw⟩
theorem ways_outer (A:All F N tb out) (hN:2000< N):∃ wy,rounds (fun s=>QaJ.b0 N out F tb s.1 s.2) N (mSet ([]:List (Bk×Int)) (⟨allF F,false⟩:Bk) 1,0)=some (.go wy)∧Tells F out wy (fun p=>(Wt (edge F out) p:Int)):=by
 have h:=A.ok
 have hall:=all_range h.t8
 have hlen:=A.len
 have hnB:nB F≤512:=by unfold nB;omega
 obtain ⟨met,S⟩:=A.sr
 have hb0:(at_ out 0).Qax=⟨allF F,false⟩:=by rw [S.hd.2];rfl
 obtain ⟨e,he,wy,rfl,hw⟩:=rounds_ends (b:=fun s=>QaJ.b0 N out F tb s.1 s.2)
  (fun s=>∃ i:Nat,s.2=(i:Int)∧i≤out.length∧Tells F out s.1 (fun p=>Vt F out p i))
  (fun s=>out.length - s.2.toNat) (fun e=>∃ wy,e= .go wy∧Tells F out wy (fun p=>(Wt (edge F out) p:Int))) (by
  rintro ⟨wy,i⟩ ⟨i',hi,hil,hT⟩
  simp only at hi hT
  subst hi
  by_cases hi:i'< out.length
  ·right
   have g1:(i':Int)< (out.length:Int):=by omega
   have g2:(0:Int)≤(i':Int)∧(i':Int)< (out.length:Int):=⟨by omega,g1⟩
   have hni:=A.near hi
   have hnear:0≤(at_ out i').Qax.Qat∧(at_ out i').Qax.Qat≤255:=by unfold nearOk at hni;omega
   obtain ⟨wy',e1,hT'⟩:=ways_inner A hN hi hT
   refine ⟨(wy',((i'+1:Nat):Int)),?_,⟨i'+1,rfl,hi,hT'⟩,by dsimp only;omega⟩
   have hrd:rdL out (i':Int) Qap=at_ out i':=rfl
   simp only [QaJ.b0,if_pos g1,if_pos g2,hrd,F_eta,loads_impl h (show 300< N by omega) hnear,Option.bind_some,e1,Ex.finB,QaJ.a2,i64w_succ hi (show out.length≤9223372036854775807 by omega)]
  ·left
   obtain rfl:i'=out.length:=by omega
   refine ⟨.go wy,?_,wy,rfl,?_⟩
   ·simp only [QaJ.b0]
    rw [if_neg (by omega)]
   ·refine ⟨fun p hp=>?_,hT.2⟩
    rw [hT.1 p hp]
    dsimp only
    rw [Vt_top A hp (by omega) (Nat.le_refl _)]) N (mSet ([]:List (Bk×Int)) (⟨allF F,false⟩:Bk) 1,0) ⟨0,rfl,by omega,by
   dsimp only
   refine ⟨fun p hp=>?_,fun b hb=>?_⟩
   ·rw [mGet_set]
    by_cases c:p=0
    ·subst c
     rw [if_pos hb0]
     show (1:Int)=i64w (Vt F out 0 0)
     unfold Vt
     simp only [part,if_true]
     exact (i64w_id (by decide) (by decide)).symm
    ·rw [if_neg (fun x=>c (A.inj hp S.hd.1 (x.trans hb0.symm)))]
     show (0:Int)=i64w (Vt F out p 0)
     unfold Vt
     simp only [part,if_neg c]
     exact (i64w_id (by decide) (by decide)).symm
   ·rw [mGet_set,if_neg (fun x=>hb 0 S.hd.1 (hb0.trans x.symm))]
    rfl⟩ (by dsimp only;omega)
 exact ⟨wy,he,hw⟩
theorem Wt_pos (A:All F N tb out):∀ n p,p≤n→p< out.length→1≤Wt (edge F out) p:=by
 obtain ⟨met,S⟩:=A.sr
 intro n
 induction n with
 |zero=>
  intro p hp _
  obtain rfl:p=0:=by omega
  exact Nat.le_refl _
 |succ n ih=>
  intro p hp hl
  cases p with
  |zero=>exact Nat.le_refl _
  |succ p=>
   obtain ⟨q,q1,q2,q3,q4,q5⟩:=S.src (p+1) (by omega) hl
   have he:edge F out q (p+1)=true:=edge_iff.2 ⟨q5,_,q3,q4.symm⟩
   have hq:=ih q (by omega) (by omega)
   rw [Wt_succ]
   have key:∀ i,q< i→1≤part (edge F out) (Wt (edge F out)) (p+1) i:=by
    intro i
    induction i with
    |zero=>intro x;omega
    |succ i ih2=>
     intro x
     simp only [part]
     by_cases c:q=i
     ·subst c;rw [if_pos he];omega
     ·have:=ih2 (by omega);omega
   exact key (p+1) (by omega)
end
theorem ways_small {F:Fe} {N:Nat} {tb:List Int} {out:List Cr} (A:All F N tb out) (hN:2000< N) (hok2:QaX.f N F=some true) (h5:F.Qad≤5):
 ∃ w c,QaJ.f N F=some (w,c)∧((endB∈out.map (·.Qax)∧c=0∧1≤w)∨(¬ endB∈out.map (·.Qax)∧c=6)):=by
 have h:=A.ok
 obtain ⟨wy,e1,hT⟩:=ways_outer A hN
 have h31:=all_small h.t8 h5
 have hlen:=A.len.1
 unfold nB at hlen
 have hf:QaJ.f N F=QaJ.a0 N wy:=by
  simp only [QaJ.f,F_eta,hok2,Option.bind_some,if_true,A.tab,Qcm N h.t8,A.e2,e1,Ex.fin]
 rw [hf]
 unfold QaJ.a0
 by_cases c:endB∈out.map (·.Qax)
 ·obtain ⟨x,hx,hb⟩:=List.mem_map.1 c
  obtain ⟨p,hp,rfl⟩:=memb_rdL zc hx
  have hv:mGet wy (at_ out p).Qax 0=i64w (Wt (edge F out) p:Int):=hT.1 p hp
  have hb':(at_ out p).Qax=(⟨0,true⟩:Bk):=hb
  rw [hb'] at hv
  have h1:=Wt_pos A p p (Nat.le_refl _) hp
  have h2:=Wt_le (edge F out) p p (Nat.le_refl _)
  have h3:Wt (edge F out) p≤2^62:=by
   by_cases c0:p=0
   ·subst c0;exact Nat.le_trans (show Wt (edge F out) 0≤1 from Nat.le_refl _) (by decide)
   ·have:=h2.2 (by omega)
    have h4:2^p≤2^63:=Nat.pow_le_pow_right (by decide) (by omega)
    have h5:(2:Nat)^63=2*2^62:=by decide
    omega
  have h4:((2:Nat)^62:Nat)=4611686018427387904:=by decide
  rw [h4] at h3
  rw [i64w_id (by omega) (by omega)] at hv
  rw [hv,if_pos (by omega)]
  exact ⟨_,_,rfl, .inl ⟨c,rfl,by omega⟩⟩
 ·have hv:=hT.2 (⟨0,true⟩:Bk) (fun p hp e=>c (List.mem_map.2 ⟨_,rdL_memb (z:=zc) hp,e⟩))
  rw [hv,if_neg (by decide)]
  exact ⟨_,_,rfl, .inr ⟨c,rfl⟩⟩
def Pth (F:Fe):Bk→List Int→Bk→Prop
 |b,[],c=>b=c
 |b,l::ls,c=>l∈loadsF F b∧Pth F (crossedB b l) ls c
theorem Pth.far {F:Fe} {c:Bk}:∀ {b:Bk} {ls:List Int},Pth F b ls c→(c.Qbi=(b.Qbi !=decide (ls.length%2=1)))
 |b,[],h=>by
  have h:b=c:=h
  subst h
  simp
 |b,m::ls,h=>by
  have:=Pth.far h.2
  rw [this]
  show ((!b.Qbi) !=decide (ls.length%2=1))=(b.Qbi !=decide ((ls.length+1)%2=1))
  rcases Nat.mod_two_eq_zero_or_one ls.length with c0|c0
  ·have c1:(ls.length+1)%2=1:=by omega
   simp [c0,c1]
  ·have c1:(ls.length+1)%2=0:=by omega
   simp [c0,c1]
section
variable {F:Fe} {N:Nat} {tb:List Int} {out:List Cr}
theorem first_end (A:All F N tb out) (hN:2000< N):∃ x,Qao.f N out=some x∧((∃ p:Nat,p< out.length∧(at_ out p).Qax=endB∧x=(p:Int))∨(¬ endB∈out.map (·.Qax))∧x= -1):=by
 have hall:=all_range A.ok.t8
 have hlen:=A.len.1
 have hl5:out.length≤512:=by unfold nB at hlen;omega
 obtain ⟨e,he,hq⟩:=rounds_first (b:=fun s=>Qao.b0 N out s) out (fun c=>decide (c.Qax=endB)) (fun i=>(i:Int)) (N:=N) (by omega) (by
  intro i hi
  have g1:(i:Int)< out.length:=by omega
  have g2:(0:Int)≤i:=by omega
  simp only [Qao.b0,Qbz.f,g1,g2,and_self,if_true,rdL_nat hi,Option.bind_some,i64w_succ hi (show out.length≤9223372036854775807 by omega)]
  rfl) (by
  simp only [Qao.b0]
  rw [if_neg (by omega)])
 simp only [Qao.f,he]
 rcases hq with ⟨p,hp,hpb,rfl⟩|⟨hno,rfl⟩
 ·have hpb:=of_decide_eq_true hpb
  exact ⟨_,rfl, .inl ⟨p,hp,by rw [show at_ out p=out[p] from rdL_nat hp];exact hpb,rfl⟩⟩
 ·have hni:¬ endB∈out.map (·.Qax):=by
   intro hm
   obtain ⟨c,hc,hb⟩:=List.mem_map.1 hm
   have:=hno c hc
   rw [decide_eq_false_iff_not] at this
   exact this hb
  exact ⟨_,rfl, .inr ⟨hni,rfl⟩⟩
theorem short_way (A:All F N tb out) (hN:3000< N) (hok2:QaX.f N F=some true):∃ l c,QaL.f N F=some (l,c)∧
 ((c=0∧Pth F ⟨allF F,false⟩ l endB∧∃ p,p< out.length∧(at_ out p).Qax=endB∧(l.length:Int)=(at_ out p).QaQ)∨(c=6∧¬ endB∈out.map (·.Qax))):=by
 have hall:=all_range A.ok.t8
 have hlen:=A.len.1
 have hl5:out.length≤512:=by unfold nB at hlen;omega
 obtain ⟨met,S⟩:=A.sr
 obtain ⟨x,hx,hcase⟩:=first_end A (show 2000< N by omega)
 simp only [QaL.f,F_eta,hok2,Option.bind_some,if_true,A.e2,hx]
 rcases hcase with ⟨p,hp,hb,rfl⟩|⟨hno,rfl⟩
 ·rw [if_neg (by omega)]
  obtain ⟨e,he,acc,rfl,h1,h2⟩:=rounds_ends (b:=fun s=>QaL.b0 N out s.1 s.2)
   (fun s=>∃ k:Nat,s.1=(k:Int)∧k< out.length∧Pth F (at_ out k).Qax s.2.reverse endB∧(s.2.length:Int)+(at_ out k).QaQ=(at_ out p).QaQ)
   (fun s=>s.1.toNat) (fun e=>∃ acc,e= .go acc∧Pth F ⟨allF F,false⟩ acc.reverse endB∧(acc.length:Int)=(at_ out p).QaQ) (by
   rintro ⟨i,acc⟩ ⟨k,r1,r2,r3,r4⟩
   simp only at r1 r3 r4
   subst r1
   have gk:(0:Int)≤(k:Int)∧(k:Int)< (out.length:Int):=⟨by omega,by omega⟩
   have hmk:=A.le r2
   have hmp:=A.le hp
   have hrd:rdL out (k:Int) Qap=at_ out k:=rfl
   by_cases hk:k=0
   ·left
    subst hk
    have hb0:(at_ out 0).QbW= -1:=by rw [S.hd.2];rfl
    have hm0:(at_ out 0).QaQ=0:=by rw [S.hd.2];rfl
    have hbk:(at_ out 0).Qax=⟨allF F,false⟩:=by rw [S.hd.2];rfl
    refine ⟨.go acc,?_,acc,rfl,by rw [← hbk];exact r3,by omega⟩
    simp only [QaL.b0,if_pos gk,hrd,hb0]
    rfl
   ·right
    obtain ⟨q,q1,q2,q3,q4,q5⟩:=S.src k (by omega) r2
    have d3:acc.length+([(at_ out k).Qcl]).length≤70368744177664:=by simp;omega
    refine ⟨((q:Int),acc++[(at_ out k).Qcl]),?_,⟨q,rfl,by omega,?_,by dsimp only;rw [List.length_append,List.length_singleton];omega⟩,by dsimp only;omega⟩
    ·simp only [QaL.b0,if_pos gk,hrd,q2]
     rw [if_pos (by omega),if_pos d3]
    ·dsimp only
     rw [List.reverse_append]
     refine ⟨q3,?_⟩
     rw [← q4]
     exact r3) N ((p:Int),([]:List Int)) ⟨p,rfl,hp,by dsimp only;rw [hb];rfl,by simp⟩ (by dsimp only;omega)
  have hmp:=A.le hp
  rw [he]
  simp only [Option.bind_some,Ex.fin,QaL.a0,rev_eq acc (by omega) (show 2000< N by omega)]
  exact ⟨_,_,rfl, .inl ⟨rfl,h1,p,hp,hb,by rw [List.length_reverse];exact h2⟩⟩
 ·rw [if_pos (by decide)]
  exact ⟨_,_,rfl, .inr ⟨rfl,hno⟩⟩
theorem rd_mem {tb:List Int} {x:Int} (h:x∈tb):∃ i:Nat,i< tb.length∧rdL tb (i:Int) 0=x:=by
 obtain ⟨i,hi,rfl⟩:=List.mem_iff_getElem.1 h
 exact ⟨i,hi,rdL_nat hi⟩
theorem tab_cases (A:All F N tb out) {i:Nat} (hi:i< tb.length):rdL tb (i:Int) 0= -1∨∃ p,p< out.length∧(i:Int)=numF F (at_ out p).Qax∧rdL tb (i:Int) 0=(at_ out p).QaQ:=by
 obtain ⟨fr,ba,qu,met,R⟩:=A.rel
 have hl:=A.len.2
 by_cases c:(i:Int)∈out.map fun c=>numF F c.Qax
 ·right
  obtain ⟨x,hx,hb⟩:=List.mem_map.1 c
  obtain ⟨p,hp,rfl⟩:=memb_rdL zc hx
  exact ⟨p,hp,hb.symm,by rw [← hb];exact A.tb_at hp⟩
 ·left
  exact R.no (i:Int) (by omega) (by omega) c
theorem tab_range (A:All F N tb out):∀ x∈tb,-32768≤x∧x≤32767:=by
 intro x hx
 have hall:=all_range A.ok.t8
 have hlen:=A.len.1
 have hl5:out.length≤512:=by unfold nB at hlen;omega
 obtain ⟨i,hi,rfl⟩:=rd_mem hx
 rcases tab_cases A hi with h|⟨p,hp,_,h⟩
 ·omega
 ·have:=A.le hp;omega
theorem is_proof (A:All F N tb out) (hN:600< N):QaG.f N F tb=some true:=by
 have hall:=all_range A.ok.t8
 obtain ⟨met,S⟩:=A.sr
 have hl:=A.len.2
 have h0:rdL tb (allF F) 0=0:=by
  have:=A.tb_at S.hd.1
  rw [S.hd.2] at this
  exact this
 rw [proof_impl A.ok (tab_range A) hl hN,decide_eq_true h0,Bool.true_and]
 have:(idx tb.length).any (badI F tb)=false:=by
  rw [List.any_eq_false]
  intro x hx
  obtain ⟨i,hi,rfl⟩:=List.mem_map.1 hx
  rw [List.mem_range] at hi
  unfold badI
  rcases tab_cases A hi with h|⟨p,hp,hn,h⟩
  ·rw [h];simp
  ·have hm:=A.le hp
   rw [h,decide_eq_false (show ¬ (at_ out p).QaQ< -1 by omega),Bool.false_or]
   have hat:atF F (i:Int)=(at_ out p).Qax:=by rw [hn];exact atF_num A.ok.t8 (A.near hp)
   have hany:((loadsF F (atF F (i:Int))).any fun l=>decide (toF F tb (i:Int) l= -1)||decide (toF F tb (i:Int) l>(at_ out p).QaQ+1))=false:=by
    rw [List.any_eq_false]
    intro l hlo
    rw [hat] at hlo
    obtain ⟨q,q1,q2,q3⟩:=A.cl p hp l hlo
    have hmq:=A.le q1
    have ht:toF F tb (i:Int) l=(at_ out q).QaQ:=by
     unfold toF
     rw [hat,← q2]
     exact A.tb_at q1
    rw [ht,decide_eq_false (by omega),decide_eq_false (by omega)]
    decide
   rw [hany]
   simp
 rw [this]
 rfl
end
def txt (x:Int):List UInt8:=((Qbh.f 70 x).map (·.data.toList)).getD []
theorem txt_all:∀ n:Nat,n< 256→Qbh.f 70 (n:Int)=some ⟨(txt n).toArray⟩∧(txt n).length≤8∧(32:UInt8)∉txt n:=by decide+kernel
theorem txt_at8 {N:Nat} (hN:70< N) {x:Int} (h:0≤x∧x< 256):Qbh.f N x=some ⟨(txt x).toArray⟩∧True:=by
 have:=txt_all x.toNat (by omega)
 rw [Int.toNat_of_nonneg h.1] at this
 refine ⟨?_,trivial⟩
 have q1:=this.1
 unfold Qbh.f at q1 ⊢
 by_cases hz:x=0
 ·rw [if_pos hz] at q1 ⊢;exact q1
 ·rw [if_neg hz] at q1 ⊢
  obtain ⟨e,he,hf⟩:=bind_get q1
  rw [show (fun s:ByteArray×Int=>Qbh.b0 N x s.1 s.2)=(fun s=>Qbh.b0 70 x s.1 s.2) from rfl,rounds_mono he (by omega)]
  exact hf
theorem txt_at {N:Nat} (hN:70< N) {x:Int} (h0:0≤x) (h1:x< 256):QbX.f N x=some ⟨(txt x).toArray⟩∧True∧(txt x).length≤8:=by
 have:=txt_all x.toNat (by omega)
 rw [Int.toNat_of_nonneg h0] at this
 refine ⟨?_,trivial,this.2.1⟩
 unfold QbX.f
 rw [if_neg (by omega),u64w_id (by omega) (by omega),(txt_at8 hN ⟨h0,h1⟩).1]
 rfl
theorem txt_nosp {x:Int} (h0:0≤x) (h1:x< 256):(32:UInt8)∉txt x:=by
 have:=txt_all x.toNat (by omega)
 rw [Int.toNat_of_nonneg h0] at this
 exact this.2.2
theorem decimal_eq (N:Nat) {n:Int} (h0:0≤n) (h1:n< 100):QbL.f N n=some ⟨(Lib.decDigits n.toNat).toArray⟩:=by
 have e:Lib.itoa n=Lib.decDigits n.toNat:=by unfold Lib.itoa;rw [if_neg (by omega)]
 simp only [QbL.f,strconv_FormatInt.f]
 rw [if_pos ⟨⟨by omega,by omega⟩,trivial⟩,e]
 rfl
theorem join_snoc (sep:List UInt8) (xs:List (List UInt8)) (y:List UInt8):Lib.join (xs++[y]) sep=if xs=[] then y else Lib.join xs sep++sep++y:=by
 cases xs with
 |nil=>simp [Lib.join_one]
 |cons x r=>
  rw [if_neg (by simp),List.cons_append,Lib.join_cons,Lib.join_cons]
  simp [Lib.joinTail,List.append_assoc]
theorem ba_size (x:List UInt8):(⟨x.toArray⟩:ByteArray).size=x.length:=by simp [ByteArray.size]
theorem nd_le (u:Nat):Lib.nDigits u≤u+1:=by
 induction u using Nat.strongRecOn with
 |_ u ih=>
  by_cases h:u< 10
  ·rw [Lib.nDigits_small h];omega
  ·rw [Lib.nDigits_big h]
   have:=ih (u/10) (by omega)
   omega
theorem dec_len (u:Nat):(Lib.decDigits u).length≤u+1:=by rw [Lib.decDigits_length];exact nd_le u
def spl (c:UInt8):List UInt8→List UInt8→List (List UInt8)
 |cur,[]=>[cur]
 |cur,x::l=>if x=c then cur::spl c [] l else spl c (cur++[x]) l
theorem spl_miss {c:UInt8}:∀ (l cur:List UInt8),c∉l→spl c cur l=[cur++l]
 |[],cur,_=>by simp [spl]
 |x::l,cur,h=>by
  simp only [List.mem_cons,not_or] at h
  unfold spl
  rw [if_neg (fun e=>h.1 e.symm),spl_miss l _ h.2]
  simp
theorem spl_hit {c:UInt8}:∀ (pre cur post:List UInt8),c∉pre→spl c cur (pre++c::post)=(cur++pre)::spl c [] post
 |[],cur,post,_=>by
  show spl c cur (c::post)=_
  rw [spl,if_pos rfl]
  simp
 |x::l,cur,post,h=>by
  simp only [List.mem_cons,not_or] at h
  rw [List.cons_append]
  rw [show spl c cur (x::(l++c::post))=spl c (cur++[x]) (l++c::post) by rw [spl,if_neg (fun e=>h.1 e.symm)],spl_hit l _ post h.2]
  simp
theorem index_miss {c:UInt8}:∀ (l:List UInt8),c∉l→Lib.index l [c]= -1
 |[],_=>rfl
 |x::l,h=>by
  simp only [List.mem_cons,not_or] at h
  unfold Lib.index
  have:([c]:List UInt8).isPrefixOf (x::l)=false:=by simp [List.isPrefixOf,h.1]
  rw [this,index_miss l h.2]
  rfl
theorem index_hit {c:UInt8}:∀ (pre post:List UInt8),c∉pre→Lib.index (pre++c::post) [c]=(pre.length:Int)
 |[],post,_=>by
  show Lib.index (c::post) [c]=0
  unfold Lib.index
  have:([c]:List UInt8).isPrefixOf (c::post)=true:=by simp [List.isPrefixOf]
  rw [this];rfl
 |x::l,post,h=>by
  simp only [List.mem_cons,not_or] at h
  rw [List.cons_append]
  unfold Lib.index
  have:([c]:List UInt8).isPrefixOf (x::(l++c::post))=false:=by simp [List.isPrefixOf,h.1]
  rw [this,index_hit l post h.2]
  have h1:((l.length:Int)== -1)=false:=by simp
  rw [h1]
  simp
theorem split_eq {c:UInt8}:∀ (n:Nat) (l:List UInt8),l.length≤n→Lib.splitK [c] 0 (Lib.count l [c]) l=spl c [] l:=by
 intro n
 induction n with
 |zero=>
  intro l h
  obtain rfl:l=[]:=List.length_eq_zero_iff.1 (by omega)
  rw [Lib.count_miss (index_miss [] (by simp))]
  rfl
 |succ n ih=>
  intro l h
  by_cases hc:c∈l
  ·obtain ⟨pre,post,rfl,hp⟩:=List.eq_append_cons_of_mem hc
   have hi:=index_hit pre post hp
   have hd:(pre++c::post).drop (pre.length+([c]:List UInt8).length)=post:=by
    rw [List.length_singleton,show pre++c::post=(pre++[c])++post by simp,show pre.length+1=(pre++[c]).length by simp,List.drop_left]
   rw [Lib.count_hit (by simp) hi,hd,Nat.add_comm 1,spl_hit pre [] post hp]
   unfold Lib.splitK
   have h1:(Lib.index (pre++c::post) [c]== -1)=false:=by rw [hi];simp
   rw [h1,hi,Int.toNat_natCast,hd,Nat.add_zero,List.take_left,ih post (by simp at h;omega)]
   rfl
  ·rw [Lib.count_miss (index_miss l hc),spl_miss l [] hc]
   rfl
theorem Qcy {c:UInt8} (s:ByteArray):(Lib.splitB ⟨#[c]⟩ 0 (Lib.countB s ⟨#[c]⟩) s).map (·.data.toList)=spl c [] s.data.toList:=by
 rw [Lib.splitB_data]
 exact split_eq _ _ (Nat.le_refl _)
theorem btS_nat (s:ByteArray) {i:Nat} (h:i< s.data.toList.length):btS s (i:Int)=((s.data.toList[i]).toNat:Int):=by
 unfold btS
 rw [Int.toNat_natCast,List.getD_eq_getElem?_getD,List.getElem?_eq_getElem h]
 rfl
theorem sz (s:ByteArray):s.size=s.data.toList.length:=by rw [Array.length_toList];rfl
theorem data_inj:∀ {xs ys:List ByteArray},xs.map (·.data.toList)=ys.map (·.data.toList)→xs=ys
 |[],[],_=>rfl
 |[],_::_,h=>by simp at h
 |_::_,[],h=>by simp at h
 |x::xs,y::ys,h=>by
  rw [List.map_cons,List.map_cons,List.cons.injEq] at h
  obtain rfl:x=y:=ByteArray.ext (Array.toList_inj.1 h.1)
  rw [data_inj h.2]
theorem spl_len {c:UInt8}:∀ (l cur p:List UInt8),p∈spl c cur l→p.length≤cur.length+l.length
 |[],cur,p,h=>by
  simp only [spl,List.mem_singleton] at h
  subst h;simp
 |x::l,cur,p,h=>by
  unfold spl at h
  by_cases hx:x=c
  ·rw [if_pos hx] at h
   rcases List.mem_cons.1 h with rfl|h
   ·simp
   ·have:=spl_len l [] p h
    simp at this ⊢;omega
  ·rw [if_neg hx] at h
   have:=spl_len l (cur++[x]) p h
   simp at this ⊢;omega
theorem word_len {s p:ByteArray} {c:UInt8} (h:p∈Lib.splitB ⟨#[c]⟩ 0 (Lib.countB s ⟨#[c]⟩) s):p.size≤s.size:=by
 have h1:p.data.toList∈(Lib.splitB ⟨#[c]⟩ 0 (Lib.countB s ⟨#[c]⟩) s).map (·.data.toList):=List.mem_map.2 ⟨p,h,rfl⟩
 rw [Qcy] at h1
 have:=spl_len _ _ _ h1
 rw [sz,sz]
 simpa using this
theorem spl_count {c:UInt8}:∀ (l cur:List UInt8),(spl c cur l).length≤l.length+1
 |[],cur=>by simp [spl]
 |x::l,cur=>by
  unfold spl
  by_cases hx:x=c
  ·rw [if_pos hx]
   have:=spl_count (c:=c) l []
   simp;omega
  ·rw [if_neg hx]
   have:=spl_count (c:=c) l (cur++[x])
   simp;omega
theorem words_len {s:ByteArray} {c:UInt8}:(Lib.splitB ⟨#[c]⟩ 0 (Lib.countB s ⟨#[c]⟩) s).length≤s.size+1:=by
 have h:=spl_count (c:=c) s.data.toList []
 rw [← Qcy,List.length_map] at h
 rw [sz];exact h
theorem split_impl {N:Nat} {s:ByteArray} {c:UInt8} (hs:s.size≤1048576):strings_Split.f N s ⟨#[c]⟩=some (Lib.splitB ⟨#[c]⟩ 0 (Lib.countB s ⟨#[c]⟩) s):=by
 unfold strings_Split.f
 rw [if_pos ⟨by omega,Nat.le_refl 1⟩]
theorem ba_eq {a b:ByteArray}:(a.toList==b.toList)=decide (a=b):=by
 rw [Lib.toList_data,Lib.toList_data,Bool.eq_iff_iff,beq_iff_eq,decide_eq_true_eq]
 exact ⟨fun h=>ByteArray.ext (Array.toList_inj.1 h),fun h=>by rw [h]⟩
def dd:Nat→Nat→List UInt8
 |0,_=>[]
 |k+1,n=>if n< 10 then [UInt8.ofNat (48+n)] else dd k (n/10)++[UInt8.ofNat (48+n%10)]
theorem dd_eq (k:Nat):∀ n:Nat,n< 10^(k+1)→Lib.decDigits n=dd (k+1) n:=by
 induction k with
 |zero=>
  intro n h
  have h10:n< 10:=by simpa using h
  rw [Lib.decDigits,dif_pos h10,dd,if_pos h10]
 |succ k ih=>
  intro n h
  by_cases h10:n< 10
  ·rw [Lib.decDigits,dif_pos h10,dd,if_pos h10]
  ·rw [Nat.pow_succ] at h
   rw [Lib.decDigits,dif_neg h10,dd,if_neg h10,ih (n/10) (by omega)]
theorem dd5 {n:Nat} (h:n≤2000):Lib.decDigits n=dd 4 n:=dd_eq 3 n (by omega)
theorem parse_lit:∀ n:Nat,n< 2001→parsed (dd 4 n)=((n:Int),false):=by decide+kernel
theorem parsed_lit {n:Nat} (h:n≤2000):parsed (Lib.decDigits n)=((n:Int),false):=by rw [dd5 h];exact parse_lit n (by omega)
theorem parsed_range {l:List UInt8} (h:(parsed l).2=false): -9223372036854775808≤(parsed l).1∧(parsed l).1≤9223372036854775807:=by
 unfold parsed at h ⊢
 cases hp:Lib.parseIntB 64 l with
 |ok v=>
  show -9223372036854775808≤v∧v≤9223372036854775807
  unfold Lib.parseIntB at hp
  cases l with
  |nil=>cases hp
  |cons c r=>
   simp only at hp
   cases hq:Lib.parseUintB 64 (if c.toNat=43∨c.toNat=45 then r else c::r) with
   |ok u=>
    rw [hq] at hp
    simp only at hp
    split at hp
    ·cases hp
    ·split at hp
     ·cases hp
     ·rename_i h1 h2
      have:=Lib.NumEnd.ok.inj hp
      by_cases hn:c.toNat=45
      ·rw [if_pos hn] at this
       have:¬ (2^63< u):=fun g=>h2 ⟨hn,g⟩
       omega
      ·rw [if_neg hn] at this
       have:¬ (2^63≤u):=fun g=>h1 ⟨hn,g⟩
       omega
   |_=>rw [hq] at hp;cases hp
 |_=>rw [hp] at h;cases h
def nuI (most:Int) (l:List UInt8):Int×Bool:=if (parsed l).2=true then (0,false) else if Lib.itoa (parsed l).1=l then (if 0≤(parsed l).1 then (if (parsed l).1≤most then ((parsed l).1,true) else (0,false)) else (0,false)) else (0,false)
theorem ba_litI {w:ByteArray} {l:List UInt8}:((⟨l.toArray⟩:ByteArray).toList=w.toList)↔l=w.data.toList:=by
 rw [Lib.toList_data,Lib.toList_data]
theorem numtxt_impl (N:Nat) {w:ByteArray} {most:Int} (hs:w.size≤1048576):Qb6.f N w most=some (nuI most w.data.toList):=by
 unfold Qb6.f strconv_ParseInt.f nuI
 rw [if_pos ⟨by omega,rfl,rfl⟩,Option.bind_some]
 by_cases h2:(parsed w.data.toList).2=true
 ·rw [if_pos h2,if_pos h2]
 ·have hr:=parsed_range (l:=w.data.toList) (by simpa using h2)
  have hd:QbL.f N (parsed w.data.toList).1=some ⟨(Lib.itoa (parsed w.data.toList).1).toArray⟩:=by
   unfold QbL.f strconv_FormatInt.f
   rw [if_pos ⟨hr,rfl⟩]
   rfl
  rw [if_neg h2,if_neg h2,hd,Option.bind_some]
  by_cases h3:Lib.itoa (parsed w.data.toList).1=w.data.toList
  ·rw [if_pos (ba_litI.2 h3),if_pos h3]
   unfold QbU.f
   by_cases h4:0≤(parsed w.data.toList).1
   ·rw [if_pos h4,if_pos h4,Option.bind_some]
    by_cases h5:(parsed w.data.toList).1≤most
    ·rw [decide_eq_true h5,if_pos rfl,if_pos h5]
    ·rw [decide_eq_false h5,if_neg Bool.false_ne_true,if_neg h5]
   ·rw [if_neg h4,if_neg h4,Option.bind_some,if_neg Bool.false_ne_true]
  ·rw [if_neg (fun g=>h3 (ba_litI.1 g)),if_neg h3]
theorem nuI_lit {most:Int} (hm:most≤2000) {n:Nat} (h:(n:Int)≤most):nuI most (Lib.decDigits n)=((n:Int),true):=by
 unfold nuI
 rw [parsed_lit (by omega)]
 have e:Lib.itoa (n:Int)=Lib.decDigits n:=by unfold Lib.itoa;rw [if_neg (by omega),Int.toNat_natCast]
 rw [if_neg Bool.false_ne_true,if_pos e,if_pos (by omega),if_pos h]
def st4 (many:Int) (s:Int) (ch:UInt8):Int:=if 97≤(ch.toNat:Int)∧(ch.toNat:Int)< 97+many then bOr .u64 s (shlI .u64 1 ((ch.toNat:Int) - 97)) else s
theorem or_all8:∀ s:Nat,s< 256→∀ n:Nat,n< 8→0≤bOr .u64 (s:Int) (shlI .u64 1 (n:Int))∧bOr .u64 (s:Int) (shlI .u64 1 (n:Int))< 256:=by decide+kernel
theorem or_all4:∀ s:Nat,s< 16→∀ n:Nat,n< 4→0≤bOr .u64 (s:Int) (shlI .u64 1 (n:Int))∧bOr .u64 (s:Int) (shlI .u64 1 (n:Int))< 16:=by decide+kernel
theorem or16_all8:∀ s:Nat,s< 256→∀ n:Nat,n< 8→0≤bOr .u16 (s:Int) (shlI .u16 1 (n:Int))∧bOr .u16 (s:Int) (shlI .u16 1 (n:Int))< 256:=by decide+kernel
def Kind (many lim:Int):Prop:=(many=4∧lim=16)∨(many=8∧lim=256)
theorem st4_range {many lim:Int} (hk:Kind many lim) {s:Int} (h:0≤s∧s< lim) (ch:UInt8):0≤st4 many s ch∧st4 many s ch< lim:=by
 unfold st4
 by_cases c:97≤(ch.toNat:Int)∧(ch.toNat:Int)< 97+many
 ·rw [if_pos c]
  obtain ⟨n,hn⟩:=Int.eq_ofNat_of_zero_le h.1
  obtain ⟨m,hm⟩:=Int.eq_ofNat_of_zero_le (show 0≤(ch.toNat:Int) - 97 by omega)
  subst hn
  rw [hm]
  rcases hk with ⟨rfl,rfl⟩|⟨rfl,rfl⟩
  ·exact or_all4 n (by omega) m (by omega)
  ·exact or_all8 n (by omega) m (by omega)
 ·rw [if_neg c];exact h
abbrev rdF (many:Int) (l:List UInt8):Int:=l.foldl (st4 many) 0
theorem rdF_range {many lim:Int} (hk:Kind many lim):∀ (l:List UInt8) (s:Int),0≤s∧s< lim→0≤l.foldl (st4 many) s∧l.foldl (st4 many) s< lim
 |[],s,h=>h
 |x::l,s,h=>rdF_range hk l _ (st4_range hk h x)
def imR (many:Int) (l:List UInt8):Int×Bool:=(rdF many l,decide (txt (rdF many l)=l))
theorem ba_lit {w:ByteArray} {l:List UInt8}:((⟨l.toArray⟩:ByteArray)=w)↔l=w.data.toList:=by
 constructor
 ·intro h;rw [← h]
 ·intro h;subst h;rfl
theorem read_impl {N:Nat} {w:ByteArray} {many lim:Int} (hk:Kind many lim) (hs:w.size≤1048576) (hN:w.size+70< N):Qa4.f N w many=some (imR many w.data.toList):=by
 have hL:=sz w
 have hmany:0≤many∧many≤8:=by rcases hk with ⟨rfl,_⟩|⟨rfl,_⟩<;>omega
 have q:rounds (fun s=>Qa4.b0 N w many s.1 s.2) N (0,0)=some (.go (rdF many w.data.toList)):=by
  have q:=rounds_for (b:=fun s=>Qa4.b0 N w many s.1 s.2) (e:= .go (rdF many w.data.toList)) (fun k=>((w.data.toList.take k).foldl (st4 many) 0,(k:Int))) w.size 0 N (by omega) (by omega) (by
   intro i _ hi
   have hl:i< w.data.toList.length:=by omega
   have g1:(i:Int)< w.size:=by omega
   have g2:(0:Int)≤i:=by omega
   have hb:(w.data.toList[i]).toNat< 256:=(w.data.toList[i]).toNat_lt
   have e1:i64w ((w.data.toList[i]).toNat:Int)=((w.data.toList[i]).toNat:Int):=i64w_id (by omega) (by omega)
   have e2:i64w (((w.data.toList[i]).toNat:Int) - 97)=((w.data.toList[i]).toNat:Int) - 97:=i64w_id (by omega) (by omega)
   have e3:i64w ((i:Int)+1)=((i+1:Nat):Int):=i64w_succ (n:=w.size) hi (by omega)
   show Qa4.b0 N w many ((w.data.toList.take i).foldl (st4 many) 0) (i:Int)=some (.next ((w.data.toList.take (i+1)).foldl (st4 many) 0,((i+1:Nat):Int)))
   rw [List.take_add_one,List.getElem?_eq_getElem hl,List.foldl_append]
   show _=some (Bd.next (st4 many ((w.data.toList.take i).foldl (st4 many) 0) w.data.toList[i],((i+1:Nat):Int)))
   unfold Qa4.b0 Qa4.j2 st4
   rw [if_pos g1,if_pos ⟨g2,g1⟩,btS_nat w hl,e1,e2,e3]
   by_cases c1:((w.data.toList[i]).toNat:Int) - 97≥0
   ·rw [if_pos c1]
    by_cases c2:((w.data.toList[i]).toNat:Int) - 97< many
    ·rw [if_pos c2,if_pos (show (0:Int)≤((w.data.toList[i]).toNat:Int) - 97 by omega),if_pos ⟨by omega,by omega⟩]
    ·rw [if_neg c2,if_neg (fun g=>c2 (by omega))]
   ·rw [if_neg c1,if_neg (fun g=>c1 (by omega))]) (by
   show Qa4.b0 N w many _ (w.size:Int)=_
   unfold Qa4.b0
   rw [if_neg (by omega),hL,List.take_length])
  simpa using q
 have hr:0≤rdF many w.data.toList∧rdF many w.data.toList< lim:=rdF_range hk w.data.toList 0 ⟨by omega,by rcases hk with ⟨_,rfl⟩|⟨_,rfl⟩<;>omega⟩
 have ht:=(txt_at8 (N:=N) (by omega) (x:=rdF many w.data.toList) ⟨hr.1,by rcases hk with ⟨_,rfl⟩|⟨_,rfl⟩<;>omega⟩).1
 unfold Qa4.f
 rw [q,Option.bind_some]
 show Qa4.a0 N w (rdF many w.data.toList)=_
 unfold Qa4.a0 imR
 rw [ht,Option.bind_some,ba_eq]
 simp only [ba_lit]
abbrev spS (s:Int) (ch:UInt8):Ex (Ex (Int×Bool) Int) Int:=if (ch.toNat:Int)< 97 then .ret (.ret (0,false)) else if (ch.toNat:Int)≥105 then .ret (.ret (0,false)) else .go (bOr .u16 s (shlI .u16 1 ((ch.toNat:Int) - 97)))
abbrev spF (s:Int):Ex (Int×Bool) Int:= .go s
def spR (l:List UInt8):Int×Bool:=if l=[45] then (0,true) else match walk spS spF 0 l with
 | .ret r=>r
 | .go v=>if l=[] then (v,false) else (v,decide (txt v=l))
theorem sp_inv:∀ (l:List UInt8) (s:Int),0≤s∧s< 256→walk spS spF s l= .ret (0,false)∨∃ v,walk spS spF s l= .go v∧0≤v∧v< 256
 |[],s,h=> .inr ⟨s,rfl,h⟩
 |x::l,s,h=>by
  unfold walk
  by_cases c1:(x.toNat:Int)< 97
  ·rw [show spS s x= .ret (.ret (0,false)) from if_pos c1];exact .inl rfl
  ·by_cases c2:(x.toNat:Int)≥105
   ·rw [show spS s x= .ret (.ret (0,false)) by unfold spS;rw [if_neg c1,if_pos c2]];exact .inl rfl
   ·rw [show spS s x= .go (bOr .u16 s (shlI .u16 1 ((x.toNat:Int) - 97))) by unfold spS;rw [if_neg c1,if_neg c2]]
    obtain ⟨n,hn⟩:=Int.eq_ofNat_of_zero_le h.1
    obtain ⟨m,hm⟩:=Int.eq_ofNat_of_zero_le (show 0≤(x.toNat:Int) - 97 by omega)
    subst hn
    rw [hm]
    exact sp_inv l _ (or16_all8 n (by omega) m (by omega))
theorem im_lit8:∀ n:Nat,n< 256→imR 8 (txt n)=((n:Int),true):=by decide+kernel
theorem sp_lit:∀ n:Nat,n< 256→spR (txt n)=((n:Int),true):=by decide+kernel
theorem im_ok {many lim:Int} (hk:Kind many lim) {l:List UInt8} (h:(imR many l).2=true):(0≤(imR many l).1∧(imR many l).1< lim)∧txt (imR many l).1=l:=by
 have hr:=rdF_range hk l 0 ⟨by omega,by rcases hk with ⟨_,rfl⟩|⟨_,rfl⟩<;>omega⟩
 exact ⟨hr,of_decide_eq_true h⟩
theorem txt_zero:txt 0=[45]:=by decide+kernel
theorem sp_ok {l:List UInt8} (h:(spR l).2=true):(0≤(spR l).1∧(spR l).1< 256)∧txt (spR l).1=l:=by
 unfold spR at h ⊢
 by_cases h45:l=[45]
 ·rw [if_pos h45] at h ⊢
  exact ⟨⟨by decide,by decide⟩,by rw [h45];exact txt_zero⟩
 ·rw [if_neg h45] at h ⊢
  rcases sp_inv l 0 ⟨by omega,by omega⟩ with e|⟨v,e,h0,h1⟩
  ·rw [e] at h;cases h
  ·rw [e] at h ⊢
   by_cases hz:l=[]
   ·simp only [hz,if_true] at h;cases h
   ·simp only [hz,if_false] at h ⊢
    exact ⟨⟨h0,h1⟩,of_decide_eq_true h⟩
theorem im_of_sp8 {l:List UInt8} (h:(spR l).2=true):imR 8 l=((spR l).1,true):=by
 obtain ⟨⟨h0,h1⟩,ht⟩:=sp_ok h
 have:=im_lit8 (spR l).1.toNat (by omega)
 rw [Int.toNat_of_nonneg h0,ht] at this
 exact this
theorem sp_of_im {many lim:Int} (hk:Kind many lim) {l:List UInt8} (h:(imR many l).2=true):spR l=((imR many l).1,true):=by
 obtain ⟨⟨h0,h1⟩,ht⟩:=im_ok hk h
 have:=sp_lit (imR many l).1.toNat (by rcases hk with ⟨_,rfl⟩|⟨_,rfl⟩<;>omega)
 rw [Int.toNat_of_nonneg h0,ht] at this
 exact this
instance (F:Fe):Decidable (T8 F):=by unfold T8;infer_instance
abbrev W:=Qaf×Int
def badF:W:=(⟨0,0,[]⟩,5)
abbrev fS (t b:Int) (acc:List Int) (w:ByteArray):Ex (Ex W (Int×Int×List Int)) (List Int):=if (spR w.data.toList).2=true then .go (acc++[(spR w.data.toList).1]) else .ret (.ret badF)
abbrev fF (t b:Int) (acc:List Int):Ex W (Int×Int×List Int):= .go (t,b,acc)
theorem Qc0 {N:Nat} {ws:List ByteArray} {t b:Int} (hw:∀ w∈ws,w.size≤1048576) (hl:ws.length≤1048577) (hN:3000000< N) (h2:2≤ws.length):rounds (fun s=>Qa7.b0 N ws s.1 s.2.1 s.2.2.1 s.2.2.2) N (t,b,[],0)=some (walk (fS t b) (fF t b) [] (ws.drop 2)):=by
 have hd:(ws.drop 2).length=ws.length - 2:=by rw [List.length_drop]
 have ed:(ws.drop ((2:Int)).toNat).take (((ws.length:Int)).toNat - ((2:Int)).toNat)=ws.drop 2:=by
  rw [Int.toNat_natCast]
  exact List.take_of_length_le (by rw [List.length_drop];exact Nat.le_refl _)
 refine rounds_walk0 (fun acc i=>(t,b,acc,i)) (ws.drop 2) (fS t b) (fF t b) (fun i acc=>acc.length=i) (by omega) rfl ?_ ?_
 ·intro acc i hi hI
  have hm:(ws.drop 2)[i]∈ws:=List.mem_of_mem_drop (List.getElem_mem hi)
  have hz:=hw _ hm
  have hb:Qa7.b0 N ws t b acc (i:Int)=if (spR ((ws.drop 2)[i]).data.toList).2=true then some (.next (t,b,acc++[(spR ((ws.drop 2)[i]).data.toList).1],((i+1:Nat):Int))) else some (.out (.ret badF)):=by
   unfold Qa7.b0 Qb5.f
   rw [ed,if_pos (by omega),if_pos ⟨by omega,by omega⟩,rdL_nat hi,read_impl (many:=8) (lim:=256) (.inr ⟨rfl,rfl⟩) hz (by omega),Option.bind_some,i64w_succ hi (by omega)]
   by_cases c:(spR ((ws.drop 2)[i]).data.toList).2=true
   ·have hr:=(sp_ok c).1
    rw [im_of_sp8 c,if_pos c]
    show ((if true=true then some (u16w (spR ((ws.drop 2)[i]).data.toList).1,0) else some (0,5)).bind _)=_
    rw [if_pos rfl,Option.bind_some,if_pos rfl,u16w_id (by omega) (by omega),if_pos (by rw [List.length_singleton];omega)]
   ·have hn:¬ (imR 8 ((ws.drop 2)[i]).data.toList).2=true:=fun g=>c (by rw [sp_of_im (.inr ⟨rfl,rfl⟩) g])
    rw [if_neg hn,if_neg c,Option.bind_some,if_neg (by decide)];rfl
  by_cases c:(spR ((ws.drop 2)[i]).data.toList).2=true
  ·rw [show fS t b acc (ws.drop 2)[i]= .go (acc++[(spR ((ws.drop 2)[i]).data.toList).1]) from if_pos c]
   refine ⟨by rw [List.length_append,List.length_singleton,hI],?_⟩
   show Qa7.b0 N ws t b acc (i:Int)=_
   rw [hb,if_pos c]
  ·rw [show fS t b acc (ws.drop 2)[i]= .ret (.ret badF) from if_neg c]
   show Qa7.b0 N ws t b acc (i:Int)=_
   rw [hb,if_neg c]
 ·intro acc _
  show Qa7.b0 N ws t b acc ((ws.drop 2).length:Int)=_
  unfold Qa7.b0
  rw [ed,if_neg (by omega)]
theorem ok_parts {F:Fe} (h:okF F=true):T8 F∧(0≤F.Qag∧F.Qag≤F.Qad)∧F.Qal.length≤20∧∀ x∈F.Qal,bad (allF F) x=false:=by
 simp only [okF,Bool.and_eq_true,decide_eq_true_eq,Bool.not_eq_true',List.any_eq_false,Bool.not_eq_true] at h
 exact ⟨h.1,h.2.1,h.2.2.1,h.2.2.2⟩
theorem rule_range {F:Fe} (hF:InF F) (h:okF F=true) {x:Int} (hx:x∈F.Qal):0≤x∧x< 256:=by
 obtain ⟨h8,_,_,hb⟩:=ok_parts h
 have hr:=hF.2.2 x hx
 have ha:=all_range h8
 have:=hb x hx
 simp only [bad,Bool.or_eq_false_iff,Bool.not_eq_false',beq_iff_eq] at this
 have:=andNot_le hr ⟨by omega,by omega⟩ this.1
 omega
def ws (F:Fe) (k:Nat):List (List UInt8):=[Lib.decDigits F.Qad.toNat,Lib.decDigits F.Qag.toNat]++(F.Qal.take k).map txt
def jw (F:Fe) (k:Nat):List UInt8:=Lib.join (ws F k) [32]
theorem ws_succ {F:Fe} {k:Nat} (h:k< F.Qal.length):ws F (k+1)=ws F k++[txt F.Qal[k]]:=by
 unfold ws
 rw [List.take_add_one,List.getElem?_eq_getElem h,List.map_append,List.append_assoc]
 rfl
theorem jw_zero (F:Fe):jw F 0=Lib.decDigits F.Qad.toNat++[32]++Lib.decDigits F.Qag.toNat:=by
 show Lib.join ([Lib.decDigits F.Qad.toNat]++[Lib.decDigits F.Qag.toNat]) [32]=_
 rw [join_snoc,if_neg (by simp),Lib.join_one]
theorem jw_succ {F:Fe} {k:Nat} (h:k< F.Qal.length):jw F (k+1)=jw F k++([32]++txt F.Qal[k]):=by
 unfold jw
 rw [ws_succ h,join_snoc,if_neg (by simp [ws]),List.append_assoc]
theorem jw_len {F:Fe} (hF:InF F) (h:okF F=true):∀ k,k≤F.Qal.length→(jw F k).length≤40+9*k
 |0,_=>by
  obtain ⟨h8,hb,_,_⟩:=ok_parts h
  have:=h8.2
  have h1:=dec_len F.Qad.toNat
  have h2:=dec_len F.Qag.toNat
  rw [jw_zero]
  simp only [List.length_append,List.length_cons,List.length_nil]
  omega
 |k+1,hk=>by
  have ih:=jw_len hF h k (by omega)
  have hr:=rule_range hF h (List.getElem_mem (show k< F.Qal.length by omega))
  have:=(txt_at (N:=71) (by omega) hr.1 hr.2).2.2
  rw [jw_succ (by omega)]
  simp only [List.length_append,List.length_cons,List.length_nil]
  omega
theorem words_impl {N:Nat} {F:Fe} (hF:InF F) (h:okF F=true) (hN:100< N):
 rounds (fun s=>Qbj.b0 N F s.1 s.2) N ((ws F 0).map fun x=>(⟨x.toArray⟩:ByteArray),0)=some (.go ((ws F F.Qal.length).map fun x=>(⟨x.toArray⟩:ByteArray))):=by
 obtain ⟨h8,hb,h20,_⟩:=ok_parts h
 have q:=rounds_for (b:=fun s=>Qbj.b0 N F s.1 s.2) (e:= .go ((ws F F.Qal.length).map fun x=>(⟨x.toArray⟩:ByteArray))) (fun k=>((ws F k).map fun x=>(⟨x.toArray⟩:ByteArray),(k:Int))) F.Qal.length 0 N (by omega) (by omega) (by
  intro i _ hi
  have hr:=rule_range hF h (List.getElem_mem hi)
  have ht:=txt_at (N:=N) (by omega) hr.1 hr.2
  have g1:(i:Int)< F.Qal.length:=by omega
  have g2:(0:Int)≤i:=by omega
  simp only [Qbj.b0,g1,g2,and_self,if_true,rdL_nat hi,ht.1,Option.bind_some,i64w_succ hi (show F.Qal.length≤9223372036854775807 by omega)]
  rw [if_pos (by simp [ws];omega),ws_succ hi,List.map_append]
  rfl) (by
  simp only [Qbj.b0]
  rw [if_neg (by omega)])
 simpa using q
theorem spl_join {c:UInt8}:∀ (r:List (List UInt8)) (w:List UInt8),c∉w→(∀ x∈r,c∉x)→spl c [] (Lib.join (w::r) [c])=w::r
 |[],w,hw,_=>by rw [Lib.join_one,spl_miss _ _ hw];rfl
 |x::r,w,hw,hr=>by
  have e:Lib.join (w::x::r) [c]=w++c::Lib.join (x::r) [c]:=by
   rw [Lib.join_cons,Lib.join_cons]
   simp [Lib.joinTail]
  rw [e,spl_hit _ _ _ hw,spl_join r x (hr x (by simp)) (fun y hy=>hr y (by simp [hy]))]
  rfl
theorem dd_nosp:∀ n:Nat,n< 9→(32:UInt8)∉dd 4 n:=by decide+kernel
theorem dec_nosp {n:Nat} (h:n< 9):(32:UInt8)∉Lib.decDigits n:=by rw [dd5 (by omega)];exact dd_nosp n h
theorem walk_rules (t b:Int):∀ (R acc:List Int),(∀ r∈R,0≤r∧r< 256)→walk (fS t b) (fF t b) acc (R.map fun r=>(⟨(txt r).toArray⟩:ByteArray))= .go (t,b,acc++R)
 |[],acc,_=>by simp [walk]
 |r::R,acc,h=>by
  have hr:=h r (by simp)
  have e:spR (txt r)=(r,true):=by
   have:=sp_lit r.toNat (by omega)
   rwa [Int.toNat_of_nonneg hr.1] at this
  have e':spR (⟨(txt r).toArray⟩:ByteArray).data.toList=(r,true):=e
  simp only [List.map_cons,walk,fS,e',if_true]
  rw [walk_rules t b R (acc++[r]) (fun x hx=>h x (by simp [hx]))]
  simp
theorem text_back {N:Nat} {F:Fe} (hF:InF F) (h:okF F=true) (hN:4000000< N):∃ t,Qbj.f N F=some t∧Qa7.f N t=some (F,0):=by
 obtain ⟨h8,hb,h20,_⟩:=ok_parts h
 have t1:=h8.1
 have t2:=h8.2
 have hl:=jw_len hF h F.Qal.length (Nat.le_refl _)
 have hw:=words_impl hF h (show 100< N by omega)
 have e0:[(⟨(Lib.decDigits F.Qad.toNat).toArray⟩:ByteArray),(⟨(Lib.decDigits F.Qag.toNat).toArray⟩:ByteArray)]=(ws F 0).map fun x=>(⟨x.toArray⟩:ByteArray):=by simp [ws]
 have ej:∀ l:List (List UInt8),((l.map fun x=>(⟨x.toArray⟩:ByteArray)).map (·.data.toList))=l:=by
  intro l
  simp [Function.comp_def]
 have hwl:(ws F F.Qal.length).length≤22:=by simp [ws];omega
 have htext:Qbj.f N F=some ⟨(jw F F.Qal.length).toArray⟩:=by
  simp only [Qbj.f,F_eta,okF_impl hF (show 40< N by omega),Option.bind_some]
  rw [if_pos h]
  simp only [i64w_id (x:=F.Qad) (by omega) (by omega),i64w_id (x:=F.Qag) (by omega) (by omega),decimal_eq N (n:=F.Qad) (by omega) (by omega),decimal_eq N (n:=F.Qag) (by omega) (by omega),Option.bind_some,e0,hw,Ex.fin,Qbj.a0,strings_Join.f]
  rw [ej,if_pos ⟨by rw [List.length_map];omega,by show (jw F F.Qal.length).length≤_;omega⟩]
  rfl
 refine ⟨_,htext,?_⟩
 have hs:(⟨(jw F F.Qal.length).toArray⟩:ByteArray).size≤1048576:=by rw [ba_size];omega
 have hwords:Lib.splitB ⟨#[32]⟩ 0 (Lib.countB (⟨(jw F F.Qal.length).toArray⟩:ByteArray) ⟨#[32]⟩) (⟨(jw F F.Qal.length).toArray⟩:ByteArray)=(ws F F.Qal.length).map fun x=>(⟨x.toArray⟩:ByteArray):=by
  apply data_inj
  rw [Qcy,ej]
  show spl 32 [] (Lib.join (ws F F.Qal.length) [32])=_
  have ew:ws F F.Qal.length=Lib.decDigits F.Qad.toNat::(Lib.decDigits F.Qag.toNat::F.Qal.map txt):=by simp [ws]
  rw [ew]
  refine spl_join _ _ (dec_nosp (by omega)) fun x hx=>?_
  rcases List.mem_cons.1 hx with rfl|hx
  ·exact dec_nosp (by omega)
  ·obtain ⟨r,hr,rfl⟩:=List.mem_map.1 hx
   have:=rule_range hF h hr
   exact txt_nosp this.1 this.2
 have ew:((ws F F.Qal.length).map fun x=>(⟨x.toArray⟩:ByteArray))=(⟨(Lib.decDigits F.Qad.toNat).toArray⟩:ByteArray)::(⟨(Lib.decDigits F.Qag.toNat).toArray⟩:ByteArray)::(F.Qal.map fun r=>(⟨(txt r).toArray⟩:ByteArray)):=by
  simp [ws,Function.comp_def]
 have hw1:∀ w∈Lib.splitB ⟨#[32]⟩ 0 (Lib.countB (⟨(jw F F.Qal.length).toArray⟩:ByteArray) ⟨#[32]⟩) (⟨(jw F F.Qal.length).toArray⟩:ByteArray),w.size≤1048576:=fun w h=>Nat.le_trans (word_len h) hs
 have hl1:(Lib.splitB ⟨#[32]⟩ 0 (Lib.countB (⟨(jw F F.Qal.length).toArray⟩:ByteArray) ⟨#[32]⟩) (⟨(jw F F.Qal.length).toArray⟩:ByteArray)).length≤1048577:=Nat.le_trans words_len (by omega)
 unfold Qa7.f
 rw [split_impl hs,Option.bind_some]
 rw [hwords,ew] at*
 generalize hws:((⟨(Lib.decDigits F.Qad.toNat).toArray⟩:ByteArray)::(⟨(Lib.decDigits F.Qag.toNat).toArray⟩:ByteArray)::(F.Qal.map fun r=>(⟨(txt r).toArray⟩:ByteArray)))=ws' at*
 have hlen:ws'.length=F.Qal.length+2:=by rw [← hws];simp
 have g0:(0:Int)≤0∧(0:Int)< ws'.length:=⟨by omega,by omega⟩
 have g1:(0:Int)≤1∧(1:Int)< ws'.length:=⟨by omega,by omega⟩
 have g2:(0:Int)≤(2:Int)∧(2:Int)≤(ws'.length:Int)∧(ws'.length:Int)≤(ws'.length:Int):=⟨by omega,by omega,by omega⟩
 have r0:rdL ws' 0 (⟨#[]⟩:ByteArray)=(⟨(Lib.decDigits F.Qad.toNat).toArray⟩:ByteArray):=by rw [← hws];rfl
 have r1:rdL ws' 1 (⟨#[]⟩:ByteArray)=(⟨(Lib.decDigits F.Qag.toNat).toArray⟩:ByteArray):=by rw [← hws];rfl
 have hd:ws'.drop 2=F.Qal.map fun r=>(⟨(txt r).toArray⟩:ByteArray):=by rw [← hws];rfl
 have z0:=hw1 _ (show rdL ws' 0 (⟨#[]⟩:ByteArray)∈ws' by rw [r0,← hws];simp)
 have z1:=hw1 _ (show rdL ws' 1 (⟨#[]⟩:ByteArray)∈ws' by rw [r1,← hws];simp)
 rw [r0] at z0
 rw [r1] at z1
 have n0:nuI 8 (⟨(Lib.decDigits F.Qad.toNat).toArray⟩:ByteArray).data.toList=(F.Qad,true):=by
  show nuI 8 (Lib.decDigits F.Qad.toNat)=_
  rw [nuI_lit (by decide) (by omega),Int.toNat_of_nonneg (by omega)]
 have n1:nuI 8 (⟨(Lib.decDigits F.Qag.toNat).toArray⟩:ByteArray).data.toList=(F.Qag,true):=by
  show nuI 8 (Lib.decDigits F.Qag.toNat)=_
  rw [nuI_lit (by decide) (by omega),Int.toNat_of_nonneg (by omega)]
 rw [if_neg (by omega),if_pos g0,r0,numtxt_impl N z0,n0,Option.bind_some,if_pos g1,r1,numtxt_impl N z1,n1,Option.bind_some,if_pos g2,i8w_id (x:=F.Qad) (by omega) (by omega),i8w_id (x:=F.Qag) (by omega) (by omega),Qc0 hw1 hl1 (by omega) (by omega),Option.bind_some,hd,walk_rules _ _ _ _ (fun r hr=>rule_range hF h hr)]
 show Qa7.a0 N (F.Qad,true) (F.Qag,true) F.Qad F.Qag ([]++F.Qal)=_
 rw [List.nil_append]
 simp only [Qa7.a0,F_eta,if_true,okF_impl hF (show 40< N by omega),Option.bind_some]
 rw [if_pos h]
theorem rounds_go {ρ:Type} {b:Int→Option (Bd ρ Unit Int)} {n N:Nat} (hN:n< N) (h1:∀ i:Nat,i< n→b (i:Int)=some (.next ((i+1:Nat):Int))) (h2:b (n:Int)=some (.out (.go ()))):rounds b N 0=some (.go ()):=
 rounds_for (b:=b) (e:= .go ()) (fun k=>(k:Int)) n 0 N (Nat.zero_le _) (by omega) (fun i _ hi=>h1 i hi) h2
theorem same_spec {N:Nat} {G:Fe} (hl:G.Qal.length≤20) (hN:2000< N):Qb4.f N G G=some true:=by
 have q:rounds (fun s=>Qbv.b0 N G G s) N 0=some (.go ()):=rounds_go (n:=G.Qal.length) (by omega) (by
  intro i hi
  have hnx:i64w ((i:Int)+1)=((i+1:Nat):Int):=i64w_succ hi (by omega)
  simp only [Qbv.b0,if_pos (show (i:Int)< (G.Qal.length:Int) by omega),if_pos (show (0:Int)≤(i:Int)∧(i:Int)< (G.Qal.length:Int) by omega),if_true,hnx]) (by
  simp only [Qbv.b0]
  rw [if_neg (by omega)])
 simp only [Qb4.f,Qbv.f,F_eta,if_true,q,Option.bind_some,Ex.fin,Qbv.a0]
theorem same_impl {N:Nat} {G:Fe} (hl:G.Qal.length≤20) (hN:2000< N):Qb2.f N G G=some true:=by
 have q:rounds (fun s=>QaP.b0 N G.Qal G.Qal s) N 0=some (.go ()):=rounds_go (n:=G.Qal.length) (by omega) (by
  intro i hi
  have hnx:i64w ((i:Int)+1)=((i+1:Nat):Int):=i64w_succ hi (by omega)
  simp only [QaP.b0,if_pos (show (i:Int)< (G.Qal.length:Int) by omega),if_pos (show (0:Int)≤(i:Int)∧(i:Int)< (G.Qal.length:Int) by omega),if_true,hnx]) (by
  simp only [QaP.b0]
  rw [if_neg (by omega)])
 simp only [Qb2.f,QaP.f,F_eta,if_true,q,Option.bind_some,Ex.fin,QaP.a0]
theorem same_table {N:Nat} {l:List Int} (hl:l.length≤1000) (hN:2000< N):Qbe.f N l l=some true:=by
 have q:rounds (fun s=>Qbe.b0 N l l s) N 0=some (.go ()):=rounds_go (n:=l.length) (by omega) (by
  intro i hi
  have hnx:i64w ((i:Int)+1)=((i+1:Nat):Int):=i64w_succ hi (by omega)
  simp only [Qbe.b0,if_pos (show (i:Int)< (l.length:Int) by omega),if_pos (show (0:Int)≤(i:Int)∧(i:Int)< (l.length:Int) by omega),if_true,hnx]) (by
  simp only [Qbe.b0]
  rw [if_neg (by omega)])
 simp only [Qbe.f,if_true,q,Option.bind_some,Ex.fin,Qbe.a0]
theorem same_loads {N:Nat} {l:List Int} (hl:l.length≤1000) (hN:2000< N):Qbd.f N l l=some true:=by
 have q:rounds (fun s=>Qbd.b0 N l l s) N 0=some (.go ()):=rounds_go (n:=l.length) (by omega) (by
  intro i hi
  have hnx:i64w ((i:Int)+1)=((i+1:Nat):Int):=i64w_succ hi (by omega)
  simp only [Qbd.b0,if_pos (show (i:Int)< (l.length:Int) by omega),if_pos (show (0:Int)≤(i:Int)∧(i:Int)< (l.length:Int) by omega),if_true,hnx]) (by
  simp only [Qbd.b0]
  rw [if_neg (by omega)])
 simp only [Qbd.f,if_true,q,Option.bind_some,Ex.fin,Qbd.a0]
theorem count_eq {N:Nat} (hN:10≤N) {x:Int} (h:0≤x∧x≤255):Qcd.f N x=some (cnt x):=by
 simp only [Qcd.f,size_eq hN h,Option.bind_some]
section
variable {F:Fe} {N:Nat} {tb:List Int} {out:List Cr}
theorem check_true (A:All F N tb out) (hF:InF F) (hN:600< N):QbA.f N F tb=some (true,0):=by
 have hk:okF F=true:=okF_iff.2 A.ok
 have ht:=A.ok.t8.1
 have hl:=A.len.2
 simp only [QbA.f,F_eta,okF_impl hF (show 40< N by omega),hk,Option.bind_some,if_true,if_pos (show (0:Int)≤F.Qad by omega),(shl_one A.ok.t8).2]
 rw [if_pos (by rw [hl];rfl),is_proof A hN]
 rfl
theorem least_there (A:All F N tb out) (hF:InF F) (hN:600< N) {p:Nat} (hp:p< out.length) (hb:(at_ out p).Qax=endB):QbB.f N F tb=some ((at_ out p).QaQ,0):=by
 have hm:=A.le hp
 have hall:=all_range A.ok.t8
 have hlen:=A.len
 have htb:=A.tb_at hp
 rw [hb] at htb
 have hr:=numF_range A.ok.t8 (end_near A.ok.t8)
 have g:0≤numF F endB∧numF F endB< (tb.length:Int):=⟨hr.1,by unfold nB at hlen;omega⟩
 have hn:Qbg.f N F (⟨0,true⟩:Bk)=some (numF F endB):=number_impl A.ok.t8 (b:=endB) ⟨Int.le_refl _,by decide⟩
 simp only [QbB.f,F_eta,check_true A hF hN,Option.bind_some,if_true,hn,if_pos g,htb,i64w_id (x:=(at_ out p).QaQ) (by omega) (by unfold nB at hlen;omega)]
 rw [if_neg (by omega)]
theorem least_none (A:All F N tb out) (hF:InF F) (hN:600< N) (hno:¬ endB∈out.map (·.Qax)):QbB.f N F tb=some (0,6):=by
 have hall:=all_range A.ok.t8
 have hlen:=A.len
 have hr:=numF_range A.ok.t8 (end_near A.ok.t8)
 obtain ⟨fr,ba,qu,met,R⟩:=A.rel
 have htb:rdL tb (numF F endB) 0= -1:=R.no _ hr.1 hr.2 (fun x=>hno ((R.found (end_near A.ok.t8)).2 x))
 have g:0≤numF F endB∧numF F endB< (tb.length:Int):=⟨hr.1,by unfold nB at hlen;omega⟩
 have hn:Qbg.f N F (⟨0,true⟩:Bk)=some (numF F endB):=number_impl A.ok.t8 (b:=endB) ⟨Int.le_refl _,by decide⟩
 simp only [QbB.f,F_eta,check_true A hF hN,Option.bind_some,if_true,hn,if_pos g,htb,i64w_id (x:=(-1:Int)) (by decide) (by decide)]
end
theorem pth_walk {F:Fe} (h:OkF F) {c:Bk}:∀ {b:Bk} {ls:List Int},Pth F b ls c→walk (caS F) caF b ls= .go c
 |b,[],hp=>by
  have hp:b=c:=hp
  subst hp
  rfl
 |b,l::ls,hp=>by
  have hc:=(of_loads h hp.1).1
  simp only [walk,caS,if_pos hc]
  exact pth_walk h hp.2
theorem pth_small {F:Fe} (h:OkF F) {c:Bk}:∀ {b:Bk} {ls:List Int},Pth F b ls c→∀ l∈ls,0≤l∧l≤255
 |b,[],_=>by simp
 |b,m::ls,hp=>by
  intro l hl
  have hall:=all_range h.t8
  rcases List.mem_cons.1 hl with rfl|hl
  ·have:=of_loads h hp.1;omega
  ·exact pth_small h hp.2 l hl
theorem cross_all {F:Fe} {N:Nat} (hF:InF F) (h:OkF F) (hN:2000< N) {ls:List Int} (hl:ls.length≤1000) {c:Bk} (hp:Pth F ⟨allF F,false⟩ ls c):Qbn.f N F ls=some (c,0):=by
 have hall:=all_range h.t8
 have hk:okF F=true:=okF_iff.2 h
 have hw:=ca_impl h (a:=ls) (fun x hx=>by have:=pth_small h hp x hx;omega) hl hN (b:=⟨allF F,false⟩) ⟨by show 0≤allF F;omega,by show allF F≤255;omega⟩
 simp only [Qbn.f,F_eta,okF_impl hF (show 40< N by omega),hk,Option.bind_some,if_true,if_neg (show ¬ (ls.length:Int)>1000 by omega),Qcm N h.t8,hw,pth_walk h hp,Ex.fin,Qbn.a0]
def GoodB (F:Fe) (b:Bk):Prop:=bankF F b=true∧0≤b.Qat∧b.Qat≤255
theorem good_start {F:Fe} (hF:InF F) (h:OkF F):GoodB F ⟨allF F,false⟩:=by
 have hall:=all_range h.t8
 refine ⟨bank_near.2 ⟨?_,?_⟩,by show 0≤allF F;omega,by show allF F≤255;omega⟩
 ·exact (sub_iff ⟨by omega,by omega⟩).2 fun i _ hb=>hb
 ·have:bAndNot .u16 (allF F) (allF F)=0:=(sub_iff ⟨by omega,by omega⟩).2 fun i _ hb=>hb
  rw [this]
  exact safe_none hF h
theorem good_next {F:Fe} (h:OkF F) {b:Bk} {l:Int} (hl:l∈loadsF F b):GoodB F (crossedB b l):=by
 have hc:=(of_loads h hl).1
 have:=crossedB_range h.t8 hc
 exact ⟨(codeF_bank hc).1,this.1,this.2.2⟩
theorem valid_bank {F:Fe} {N:Nat} (hF:InF F) (h:OkF F) (hN:40< N) {b:Bk} (hg:GoodB F b):QbK.f N F b=some true:=by
 have hk:okF F=true:=okF_iff.2 h
 simp only [QbK.f,F_eta,okF_impl hF hN,hk,Option.bind_some,if_true,bank_impl h.t8 h.len hN,hg.1]
theorem loads_from {F:Fe} {N:Nat} (hF:InF F) (h:OkF F) (hN:2000< N) {b:Bk} (hg:GoodB F b):Qb1.f N F b=some (loadsF F b,0):=by
 simp only [Qb1.f,F_eta,valid_bank hF h (show 40< N by omega) hg,Option.bind_some,if_true,loads_impl h (show 300< N by omega) hg.2]
theorem cross_with {F:Fe} {N:Nat} (hF:InF F) (h:OkF F) (hN:2000< N) {b:Bk} (hg:GoodB F b) {l:Int} (hl:l∈loadsF F b):Qb0.f N F b l=some (crossedB b l,0)∧Qb3.f N F b l=some (crossedB b l,0):=by
 have hall:=all_range h.t8
 obtain ⟨hc,l0,l1⟩:=of_loads h hl
 have hk:okF F=true:=okF_iff.2 h
 have hcr:∀ b l,Qbm.f N b l=some (crossedB b l):=fun _ _=>rfl
 have h1:=cross_impl h (show 40< N by omega) hg.2 (l:=l) ⟨l0,by omega⟩
 have h2:=cross_spec h (show 40< N by omega) hg.2 (l:=l) ⟨l0,by omega⟩
 rw [hc] at h1 h2
 constructor
 ·simp only [Qb0.f,F_eta,valid_bank hF h (show 40< N by omega) hg,Option.bind_some,if_true,h1,hcr]
 ·simp only [Qb3.f,F_eta,okF_spec hF (show 40< N by omega),hk,Option.bind_some,if_true,bank_spec h.t8 h.len (show 40< N by omega),hg.1,h2]
theorem is_safe {F:Fe} {N:Nat} (hF:InF F) (h:OkF F) (hN:40< N) {b:Bk} (hg:GoodB F b):Qca.f N F (alone F b)=some (true,0):=by
 have hall:=all_range h.t8
 have hb:=hg.1
 unfold bankF at hb
 simp only [Bool.and_eq_true,beq_iff_eq] at hb
 have hs:bAndNot .u16 (alone F b) (allF F)=0:=by
  unfold alone
  split
  ·exact hb.1
  ·have hr:=andNot_range (x:=allF F) (y:=b.Qat) ⟨by omega,by omega⟩
   refine (sub_iff ⟨hr.1,by omega⟩).2 fun j hj hjb=>?_
   rw [bit_andNot _ _ hj] at hjb
   simp only [Bool.and_eq_true] at hjb
   exact hjb.1
 rw [isSafe_eq hF h hN hs,hb.2]
theorem found_loop {N:Nat} {F:Fe} {b:Bk} {l:Int} {lc:List Int×Int} {x:Int} (hT:T8 F) (hl:l∈loadsF F b) (hN:300< N) (hx:(0:Int)≤x∧x< (lc.1.length:Int)) (hr:rdL lc.1 x 0=l):
 rounds (fun s=>Qar.b7 N (loadsF F b,0) x lc s.1 s.2) N (false,0)=some (.go true):=by
 have hll:=loadsF_len hT b
 obtain ⟨e,he,rfl⟩:=rounds_ends (b:=fun s=>Qar.b7 N (loadsF F b,0) x lc s.1 s.2)
  (fun s=>∃ k:Nat,s.2=(k:Int)∧k≤(loadsF F b).length∧s.1=((loadsF F b).take k).any (fun m=>m==l)) (fun s=>(loadsF F b).length - s.2.toNat) (fun e=>e= .go true) (by
  rintro ⟨f,k⟩ ⟨k',hk,hkl,hf⟩
  simp only at hk hf
  subst hk
  by_cases c:k'< (loadsF F b).length
  ·right
   have g1:(k':Int)< ((loadsF F b).length:Int):=by omega
   have g2:(0:Int)≤(k':Int)∧(k':Int)< ((loadsF F b).length:Int):=⟨by omega,g1⟩
   have hnx:i64w ((k':Int)+1)=((k'+1:Nat):Int):=i64w_succ c (by omega)
   refine ⟨(f||((loadsF F b)[k']==l),((k'+1:Nat):Int)),?_,⟨k'+1,rfl,c,?_⟩,by dsimp only;omega⟩
   ·simp only [Qar.b7,if_pos g1,if_pos g2,if_pos hx,Qar.j10,hnx,hr,rdL_nat c]
    cases f<;>simp
   ·dsimp only
    rw [List.take_succ_eq_append_getElem c,List.any_append,hf]
    simp
  ·left
   obtain rfl:k'=(loadsF F b).length:=by omega
   refine ⟨.go f,?_,?_⟩
   ·simp only [Qar.b7]
    rw [if_neg (by omega)]
   ·have:f=true:=by
     rw [hf,List.take_length,List.any_eq_true]
     exact ⟨l,hl,by simp⟩
    rw [this]) N (false,0) ⟨0,rfl,by omega,by simp⟩ (by dsimp only;omega)
 exact he
theorem pth_split {F:Fe} {c:Bk}:∀ {b:Bk} {ls:List Int},Pth F b ls c→∀ i (hi:i< ls.length),∃ d,Pth F b (ls.take i) d∧ls[i]∈loadsF F d∧Pth F b (ls.take (i+1)) (crossedB d ls[i])
 |b,[],_,i,hi=>absurd hi (Nat.not_lt_zero _)
 |b,l::ls,hp,0,_=>⟨b,rfl,hp.1,hp.1,rfl⟩
 |b,l::ls,hp,i+1,hi=>by
  have hi':i< ls.length:=by simpa using hi
  obtain ⟨d,h1,h2,h3⟩:=pth_split hp.2 i hi'
  exact ⟨d,⟨hp.1,h1⟩,h2,hp.1,h3⟩
theorem pth_end {F:Fe} {c:Bk}:∀ {b:Bk} {ls:List Int},Pth F b ls c→∀ {d:Bk},Pth F b ls d→c=d
 |b,[],h,d,h'=>by
  have h:b=c:=h
  have h':b=d:=h'
  rw [← h,h']
 |b,l::ls,h,d,h'=>pth_end h.2 h'.2
theorem pth_good {F:Fe} (h:OkF F) {c:Bk}:∀ {b:Bk} {ls:List Int},GoodB F b→Pth F b ls c→GoodB F c
 |b,[],hg,hp=>by
  have hp:b=c:=hp
  subst hp;exact hg
 |b,l::ls,hg,hp=>pth_good h (good_next h hp.1) hp.2
theorem walk_loop {N:Nat} {F:Fe} (hF:InF F) (h:OkF F) (hN:2000< N) {ls:List Int} (hl:ls.length≤1000) {c:Bk} (hp:Pth F ⟨allF F,false⟩ ls c):
 rounds (fun s=>Qar.b5 N (ls,0) F s.1 s.2) N ((⟨allF F,false⟩:Bk),0)=some (.go c):=by
 have hall:=all_range h.t8
 have hsm:=pth_small h hp
 have ht:=h.t8
 have hbo:=h.boat
 unfold T8 at ht
 have hA:u16w ((shlI .u16 1 (u64w F.Qad)) - 1)=allF F:=by
  have:=(all_tab F.Qad.toNat (by omega)).1
  rw [Int.toNat_of_nonneg (by omega)] at this
  exact QsJ (ite_get this).2
 obtain ⟨e,he,rfl⟩:=rounds_ends (b:=fun s=>Qar.b5 N (ls,0) F s.1 s.2)
  (fun s=>∃ k:Nat,s.2=(k:Int)∧k≤ls.length∧Pth F ⟨allF F,false⟩ (ls.take k) s.1) (fun s=>ls.length - s.2.toNat) (fun e=>e= .go c) (by
  rintro ⟨b,k⟩ ⟨k',hk,hkl,hb⟩
  simp only at hk hb
  subst hk
  by_cases ck:k'< ls.length
  ·right
   obtain ⟨d,d1,d2,d3⟩:=pth_split hp k' ck
   obtain rfl:=pth_end d1 hb
   have hg:=pth_good h (good_start hF h) d1
   have hg':=good_next h d2
   have g1:(k':Int)< (ls.length:Int):=by omega
   have g2:(0:Int)≤(k':Int)∧(k':Int)< (ls.length:Int):=⟨by omega,g1⟩
   obtain ⟨w1,w2⟩:=cross_with hF h hN hg d2
   have hfl:=found_loop (N:=N) (lc:=(ls,(0:Int))) (x:=(k':Int)) h.t8 d2 (by omega) g2 (rdL_nat ck)
   have hnx:i64w ((k':Int)+1)=((k'+1:Nat):Int):=i64w_succ ck (by omega)
   have hcb:=(code_zero.1 (of_loads h d2).1).2.1
   have hsz:=hsm _ (List.getElem_mem ck)
   refine ⟨(crossedB d ls[k'],((k'+1:Nat):Int)),?_,⟨k'+1,rfl,ck,d3⟩,by dsimp only;omega⟩
   have hj9:Qar.j9 N F (loadsF F d,0) true (crossedB d ls[k'],0) (crossedB d ls[k'],0) (k':Int) (ls,0) (alone F (crossedB d ls[k']))=some (.next (crossedB d ls[k'],((k'+1:Nat):Int))):=by
    simp only [Qar.j9,F_eta,is_safe hF h (show 40< N by omega) hg',Option.bind_some,if_true,valid_bank hF h (show 40< N by omega) hg',if_pos g2,rdL_nat ck,count_eq (show 10≤N by omega) hsz,i64w_id (x:=F.Qag) (by omega) (by omega),hnx]
    rw [if_neg (by omega)]
   have ha7:Qar.a7 N (crossedB d ls[k'],0) F (loadsF F d,0) (crossedB d ls[k'],0) (k':Int) (ls,0) true=some (.next (crossedB d ls[k'],((k'+1:Nat):Int))):=by
    unfold Qar.a7
    rw [hA]
    unfold alone at hj9
    split
    ·rename_i hfar
     rw [if_pos hfar] at hj9
     exact hj9
    ·rename_i hfar
     rw [if_neg hfar] at hj9
     exact hj9
   simp only [Qar.b5,if_pos g1,if_pos g2,F_eta,loads_from hF h hN hg,Option.bind_some,rdL_nat ck,w1,w2,hfl,Ex.finB]
   exact ha7
  ·left
   obtain rfl:k'=ls.length:=by omega
   rw [List.take_length] at hb
   obtain rfl:=pth_end hp hb
   refine ⟨.go c,?_,rfl⟩
   simp only [Qar.b5]
   rw [if_neg (by omega)]) N ((⟨allF F,false⟩:Bk),0) ⟨0,rfl,by omega,rfl⟩ (by dsimp only;omega)
 exact he
theorem Qar.told (a0:List (Int)) (h0:∀ x∈a0,IntKind.min .u8≤x∧x≤IntKind.max .u8) (l0:a0.length≤9223372036854775807) (a1:List (Int)) (h1:∀ x∈a1,IntKind.min .u8≤x∧x≤IntKind.max .u8) (l1:a1.length≤9223372036854775807):∃ N,Qar.f N a0 a1=some true:=by
 have h0:∀ x∈a0,0≤x∧x≤255:=h0
 by_cases c0:(a0.length:Int)>3000
 ·exact ⟨0,by simp only [Qar.f,Qb8.f,if_pos c0,Option.bind_some,if_true]⟩
 by_cases c1:(a1.length:Int)>3000
 ·exact ⟨0,by simp only [Qar.f,Qb8.f,if_neg c0,decide_eq_true c1,Option.bind_some,if_true]⟩
 refine ⟨5000000,?_⟩
 obtain ⟨F,eF,D⟩:=drawnF (N:=5000000) h0 (by omega) (by decide)
 obtain ⟨hF,hok⟩:=D.ok
 have hk:okF F=true:=okF_iff.2 hok
 have hall:=all_range hok.t8
 have ht:=D.t
 obtain ⟨t,e1,e2⟩:=text_back (N:=5000000) hF hk (by decide)
 obtain ⟨tb,wy,fr,ba,out,f1,A⟩:=search_all (N:=5000000) hok (by decide)
 have hok1:Qbr.f 5000000 F=some true:=by rw [okF_spec hF (by decide),hk]
 have hok2:QaX.f 5000000 F=some true:=by rw [okF_impl hF (by decide),hk]
 obtain ⟨w,wc,f2,hw⟩:=ways_small A (by decide) hok2 ht.2
 obtain ⟨l,c,f3,hs⟩:=short_way A (by decide) hok2
 obtain ⟨l',c',g1,g2,g3⟩:=Short_same (N:=5000000) hF (by decide)
 rw [f3] at g2
 obtain ⟨rfl,rfl⟩:=Prod.mk.inj (QsJ g2)
 have f4:QbM.f 5000000 F=some (tb,0):=by
  simp only [QbM.f,F_eta,hok2,Option.bind_some,if_true,A.tab]
 have f5:QbN.f 5000000 F=some (tb,0):=by
  simp only [QbN.f,F_eta,hok1,Option.bind_some,if_true,f1]
 have hlen:=A.len
 have hl5:out.length≤512∧tb.length≤512:=by unfold nB at hlen;omega
 have s1:=same_spec (N:=5000000) (G:=F) (by have:=D.len;omega) (by decide)
 have s2:=same_impl (N:=5000000) (G:=F) (by have:=D.len;omega) (by decide)
 have s3:=same_table (N:=5000000) (l:=tb) (by omega) (by decide)
 have s4:=same_loads (N:=5000000) (l:=l) (by omega) (by decide)
 have ck:=check_true A hF (by decide)
 have gu:(0:Int)≤u64w F.Qad:=by rw [u64w_id (by omega) (by omega)];omega
 have hA:u16w ((shlI .u16 1 (u64w F.Qad)) - 1)=allF F:=by
  have:=(all_tab F.Qad.toNat (by omega)).1
  rw [Int.toNat_of_nonneg (by omega)] at this
  exact QsJ (ite_get this).2
 have a2:Qb8.f 5000000 a0 a1=some false:=by
  simp only [Qb8.f,if_neg c0,decide_eq_false c1]
 simp only [Qar.f,a2,Option.bind_some,Bool.false_eq_true,if_false,eF,F_eta,e1,e2,Qar.j0,f4,f5,ck,Qar.j1,f3,g1,f2,Qar.j2]
 rcases hs with ⟨rfl,hp,p,hpl,hpb,hpm⟩|⟨rfl,hno⟩
 ·have hin:endB∈out.map (·.Qax):=List.mem_map.2 ⟨_,rdL_memb (z:=zc) hpl,hpb⟩
  have hw:wc=0∧1≤w:=by
   rcases hw with h|h
   ·exact h.2
   ·exact absurd hin h.1
  obtain ⟨rfl,hw⟩:=hw
  have hle:=least_there A hF (by decide) hpl hpb
  have hca:=cross_all (N:=5000000) hF hok (by decide) (ls:=l) (by omega) hp
  have hwl:=walk_loop (N:=5000000) hF hok (by decide) (ls:=l) (by omega) hp
  have hodd:(at_ out p).QaQ.tmod 2=1:=by
   have hf:=hp.far
   have:decide (l.length%2=1)=true:=by
    have hf:true=(false !=decide (l.length%2=1)):=hf
    simpa using hf.symm
   have:=of_decide_eq_true this
   rw [← hpm]
   show ((l.length%2:Nat):Int)=1
   omega
  simp only [hle,Option.bind_some,if_true,s1,s2,hok2,s3,s4,Qar.j3,hca,hodd,hpm,endB,Qar.j4,if_pos gu,hA,hwl]
  rw [if_neg (by omega)]
  simp [Ex.fin,Qar.a5,hwl,endB]
 ·have hw:wc=6:=by
   rcases hw with h|h
   ·exact absurd h.1 hno
   ·exact h.2
  subst hw
  have hle:=least_none A hF (by decide) hno
  simp only [hle,Option.bind_some,if_true,s1,s2,hok2,s3,s4,Qar.j3]
  rfl
end Go.Proofs.YtblbfnngmeoipaaGreatDoorX
