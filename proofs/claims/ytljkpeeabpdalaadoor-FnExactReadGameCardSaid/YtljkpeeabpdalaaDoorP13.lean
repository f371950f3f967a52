import Derived.KernelRfl
import Derived.Test.YtljkpeeabpdalaaDoorP12
namespace Go.Proofs.YtljkpeeabpdalaaDoorX
open Go
set_option linter.unusedVariables false
set_option linter.unusedSimpArgs false
abbrev Ga:=Qao
abbrev As_:=Qar
theorem G_eta (G:Ga):(⟨G.Qai,G.Qaq,G.Qap⟩:Ga)=G:=rfl
def idx (n:Nat):List Int:=(List.range n).map fun (i:Nat)=>(i:Int)
theorem rounds_any {α ρ:Type} {b:Int→Option (Bd ρ Unit Int)} (a:List α) (p:α→Bool) (r:Nat→ρ) {N:Nat} (hN:a.length< N)
 (h:∀ i (hi:i< a.length),b (i:Int)=if p a[i]=true then some (.out (.ret (r i))) else some (.next ((i+1:Nat):Int)))
 (he:b (a.length:Int)=some (.out (.go ()))):∃ e,rounds b N 0=some e∧(if a.any p=true then ∃ i,e= .ret (r i) else e= .go ()):=by
 have main:∀ (n k:Nat),k≤a.length→a.length - k< n→∃ e,rounds b n (k:Int)=some e∧(if (a.drop k).any p=true then ∃ i,e= .ret (r i) else e= .go ()):=by
  intro n
  induction n with
  |zero=>intro k _ hk;omega
  |succ n ih=>
   intro k hk hn
   by_cases hl:k< a.length
   ·have hb:=h k hl
    by_cases hp:p a[k]=true
    ·rw [if_pos hp] at hb
     have e1:(a.drop k).any p=true:=by rw [List.drop_eq_getElem_cons hl,List.any_cons,hp];rfl
     exact ⟨_,rounds_out hb,by rw [if_pos e1];exact ⟨_,rfl⟩⟩
    ·rw [if_neg hp] at hb
     obtain ⟨e,h1,h2⟩:=ih (k+1) hl (by omega)
     have e1:(a.drop k).any p=(a.drop (k+1)).any p:=by rw [List.drop_eq_getElem_cons hl,List.any_cons,(Bool.not_eq_true _).mp hp,Bool.false_or]
     exact ⟨e,(rounds_next hb).trans h1,by rw [e1];exact h2⟩
   ·obtain rfl:k=a.length:=by omega
    exact ⟨_,rounds_out he,by simp⟩
 exact main N 0 (Nat.zero_le _) (by omega)
def allN (n:Int):Int:=2^n.toNat - 1
theorem full_tab:∀ n:Nat,n< 61→1≤n→Qbc.f 0 (n:Int)=some ((2:Int)^n - 1)∧(if (0:Int)≤(n:Int) then (some (u64w ((shlI .u64 1 (n:Int)) - 1))) else none)=some ((2:Int)^n - 1):=by decide+kernel
def B60 (n:Int):Prop:=1≤n∧n≤60
instance (n:Int):Decidable (B60 n):=by unfold B60;infer_instance
theorem full_spec (N:Nat) {n:Int} (h:B60 n):Qbc.f N n=some (allN n):=by
 have:=(full_tab n.toNat (by have:=h.2;omega) (by have:=h.1;omega)).1
 rwa [Int.toNat_of_nonneg (by have:=h.1;omega)] at this
theorem full_impl (N:Nat) {G:Ga} (h:B60 G.Qai):Qba.f N G=some (allN G.Qai):=by
 have:=(full_tab G.Qai.toNat (by have:=h.2;omega) (by have:=h.1;omega)).2
 rwa [Int.toNat_of_nonneg (by have:=h.1;omega)] at this
def bad (n:Int) (a:As_):Bool:=!(bAndNot .u64 a.QaO (allN n)==0)
def okG (G:Ga):Bool:=decide (B60 G.Qai)&&(decide (0≤G.Qaq∧G.Qaq≤3)&&(decide (G.Qap.length≤60)&&!(G.Qap.any (bad G.Qai))))
structure OkG (G:Ga):Prop where
 n60:B60 G.Qai
 l3:0≤G.Qaq∧G.Qaq≤3
 len:G.Qap.length≤60
theorem okG_iff {G:Ga} (h:okG G=true):OkG G:=by
 unfold okG at h
 simp only [Bool.and_eq_true,decide_eq_true_eq] at h
 exact ⟨h.1,h.2.1,h.2.2.1⟩
def InG (G:Ga):Prop:=(-128≤G.Qai∧G.Qai≤127)∧(-128≤G.Qaq∧G.Qaq≤127)
theorem okG_spec {N:Nat} {G:Ga} (hG:InG G) (hN:70< N):QaU.f N G=some (okG G):=by
 obtain ⟨h1,h2⟩:=hG
 unfold QaU.f QaZ.f Qbb.f okG
 rw [i64w_id (by omega) (by omega),i64w_id (by omega) (by omega)]
 by_cases c1:B60 G.Qai
 ·rw [if_pos c1.1]
  simp only [Option.bind_some,decide_eq_true c1.2,if_true,decide_eq_true c1,Bool.true_and]
  by_cases c2:0≤G.Qaq∧G.Qaq≤3
  ·rw [if_pos c2.1]
   simp only [Option.bind_some,decide_eq_true c2.2,if_true,decide_eq_true c2,Bool.true_and]
   by_cases c3:G.Qap.length≤60
   ·rw [if_neg (by omega)]
    simp only [decide_eq_true c3,Bool.true_and]
    obtain ⟨e,he,hq⟩:=rounds_any (b:=fun s=>QaU.b0 N G s) G.Qap (bad G.Qai) (fun _=>false) (N:=N) (by omega) (by
     intro i hi
     have g1:(i:Int)< G.Qap.length:=by omega
     have g2:(0:Int)≤i:=by omega
     simp only [QaU.b0,g1,g2,and_self,if_true,rdL_nat hi,i64w_succ hi (show G.Qap.length≤9223372036854775807 by omega),i64w_id (x:=G.Qai) (by omega) (by omega),full_spec N c1,Option.bind_some,bad]
     by_cases c4:bAndNot .u64 G.Qap[i].QaO (allN G.Qai)=0
     ·simp [c4]
     ·simp [c4]) (by
     simp only [QaU.b0]
     rw [if_neg (by omega)])
    rw [he]
    by_cases c4:G.Qap.any (bad G.Qai)=true
    ·rw [if_pos c4] at hq
     obtain ⟨i,rfl⟩:=hq
     simp only [Option.bind_some,Ex.fin,c4,Bool.not_true]
    ·rw [if_neg c4] at hq
     subst hq
     rw [Bool.not_eq_true] at c4
     simp only [Option.bind_some,Ex.fin,c4,Bool.not_false,QaU.a0]
   ·rw [if_pos (by omega)]
    simp [c3]
  ·simp only [decide_eq_false c2,Bool.false_and]
   by_cases c3:G.Qaq≥0
   ·rw [if_pos c3]
    have:¬ G.Qaq≤3:=fun h=>c2 ⟨c3,h⟩
    simp [this]
   ·rw [if_neg c3];rfl
 ·simp only [decide_eq_false c1,Bool.false_and]
  by_cases c3:G.Qai≥1
  ·rw [if_pos c3]
   have:¬ G.Qai≤60:=fun h=>c1 ⟨c3,h⟩
   simp [this]
  ·rw [if_neg c3];rfl
theorem okG_impl {N:Nat} {G:Ga} (hG:InG G) (hN:70< N):QaW.f N G=some (okG G):=by
 obtain ⟨h1,h2⟩:=hG
 unfold QaW.f Qbk.f Qa3.f okG
 rw [i64w_id (by omega) (by omega),i64w_id (by omega) (by omega)]
 by_cases c1:B60 G.Qai
 ·rw [if_pos c1.1]
  simp only [Option.bind_some,decide_eq_true c1.2,if_true,decide_eq_true c1,Bool.true_and]
  by_cases c2:0≤G.Qaq∧G.Qaq≤3
  ·rw [if_pos c2.1]
   simp only [Option.bind_some,decide_eq_true c2.2,if_true,decide_eq_true c2,Bool.true_and]
   by_cases c3:G.Qap.length≤60
   ·rw [if_pos (by omega)]
    simp only [decide_eq_true c3,Bool.true_and]
    obtain ⟨e,he,hq⟩:=rounds_any (b:=fun s=>Qal.b0 N G.Qap G s) G.Qap (bad G.Qai) (fun i=>(i:Int)) (N:=N) (by omega) (by
     intro i hi
     have g1:(i:Int)< G.Qap.length:=by omega
     have g2:(0:Int)≤i:=by omega
     simp only [Qal.b0,Qa5.f,g1,g2,and_self,if_true,rdL_nat hi,i64w_succ hi (show G.Qap.length≤9223372036854775807 by omega),G_eta,full_impl N c1,Option.bind_some,bad]
     by_cases c4:bAndNot .u64 G.Qap[i].QaO (allN G.Qai)=0
     ·simp [c4]
     ·simp [c4]) (by
     simp only [Qal.b0]
     rw [if_neg (by omega)])
    simp only [QaB.f,Qal.f,G_eta,he]
    by_cases c4:G.Qap.any (bad G.Qai)=true
    ·rw [if_pos c4] at hq
     obtain ⟨i,rfl⟩:=hq
     simp only [Option.bind_some,Ex.fin,c4,Bool.not_true,decide_eq_true (show (i:Int)≥0 by omega)]
    ·rw [if_neg c4] at hq
     subst hq
     rw [Bool.not_eq_true] at c4
     simp only [Option.bind_some,Ex.fin,c4,Bool.not_false,Qal.a0]
     rfl
   ·rw [if_neg (by omega)]
    simp [c3]
  ·simp only [decide_eq_false c2,Bool.false_and]
   by_cases c3:0≤G.Qaq
   ·rw [if_pos c3]
    have:¬ G.Qaq≤3:=fun h=>c2 ⟨c3,h⟩
    simp [this]
   ·rw [if_neg c3];rfl
 ·simp only [decide_eq_false c1,Bool.false_and]
  by_cases c3:1≤G.Qai
  ·rw [if_pos c3]
   have:¬ G.Qai≤60:=fun h=>c1 ⟨c3,h⟩
   simp [this]
  ·rw [if_neg c3];rfl
def wrongB (a:As_) (m:Int):Bool:=((bAnd .u64 (shrI .u64 a.QaO m) 1)==1) !=a.Qa1
def wr (G:Ga) (m:Int) (k:Nat):List Int:=(idx k).filter fun i=>wrongB (rdL G.Qap i Qat) m
def W (G:Ga) (m:Int):Int:=((wr G m G.Qap.length).length:Int)
theorem eqAskS_same {N:Nat} {a:List As_} (h:a.length≤1048576) (hN:a.length< N):QaQ.f N a a=some true:=by
 unfold QaQ.f
 rw [if_pos rfl,rounds_same a a rfl hN ?_ ?_]
 ·simp [Ex.fin,QaQ.a0]
 ·intro i hi
  have g1:(i:Int)< a.length:=by omega
  have g2:(0:Int)≤i:=by omega
  have e:Qbj.f N (rdL a (i:Int) Qat) (rdL a (i:Int) Qat)=some true:=by simp [Qbj.f]
  simp only [QaQ.b0,g1,g2,and_self,if_true,e,Option.bind_some,i64w_succ hi (show a.length≤9223372036854775807 by omega)]
 ·simp only [QaQ.b0]
  rw [if_neg (by omega)]
theorem eqGame_same {N:Nat} {G:Ga} (h:G.Qap.length≤1048576) (hN:G.Qap.length< N):Qa6.f N G G=some true:=by
 simp only [Qa6.f,if_true,eqAskS_same h hN,Option.bind_some]
theorem ba_app (x y:List UInt8):(⟨x.toArray⟩:ByteArray)++(⟨y.toArray⟩:ByteArray)=⟨(x++y).toArray⟩:=by
 apply ByteArray.ext
 simp
theorem ba_size (x:List UInt8):(⟨x.toArray⟩:ByteArray).size=x.length:=by simp [ByteArray.size]
theorem nd_le (u:Nat):Lib.nDigits u≤u+1:=by
 induction u using Nat.strongRecOn with
 |_ u ih=>
  by_cases h:u< 10
  ·rw [Lib.nDigits_small h];omega
  ·rw [Lib.nDigits_big h]
   have:=ih (u/10) (by omega)
   omega
theorem dec_len (u:Nat):(Lib.decDigits u).length≤u+1:=by rw [Lib.decDigits_length];exact nd_le u
def hxd (d:Nat):UInt8:=if d< 10 then UInt8.ofNat (48+d) else UInt8.ofNat (87+d)
def lastD (n:Nat):Nat→List UInt8
 |0=>[]
 |j+1=>lastD (n/16) j++[hxd (n%16)]
theorem lastD_len:∀ (j n:Nat),(lastD n j).length=j
 |0,_=>rfl
 |j+1,n=>by simp [lastD,lastD_len j]
theorem lastD_cons:∀ (j n:Nat),lastD n (j+1)=hxd (n/16^j%16)::lastD n j
 |0,n=>by simp [lastD]
 |j+1,n=>by
  show lastD (n/16) (j+1)++[hxd (n%16)]=_
  rw [lastD_cons j (n/16),List.cons_append,Nat.div_div_eq_div_mul,show 16*16^j=16^(j+1) by rw [Nat.pow_succ,Nat.mul_comm]]
  rfl
theorem lastD_pad {j n i:Nat} (hi:i≤j) (hn:n< 16^i):List.replicate (j - i) 48++lastD n i=lastD n j:=by
 obtain ⟨d,rfl⟩:∃ d,j=i+d:=⟨j - i,by omega⟩
 rw [show i+d - i=d by omega]
 clear hi
 induction d with
 |zero=>rfl
 |succ d ih=>
  have h0:n/16^(i+d)=0:=Nat.div_eq_of_lt (Nat.lt_of_lt_of_le hn (Nat.pow_le_pow_right (by decide) (by omega)))
  rw [show i+(d+1)=(i+d)+1 by omega,lastD_cons,h0,List.replicate_succ,List.cons_append,ih]
  rfl
theorem and15 {x:Nat} (h:x< 18446744073709551616):bAnd .u64 (x:Int) 15=((x%16:Nat):Int):=by
 have h2:(BitVec.ofInt 64 (x:Int)&&&BitVec.ofInt 64 15).toNat=x%16:=by
  rw [BitVec.toNat_and]
  simp only [BitVec.toNat_ofInt]
  have e1:((x:Int)%((2^64:Nat):Int)).toNat=x:=by omega
  have e2:((15:Int)%((2^64:Nat):Int)).toNat=15:=by decide
  rw [e1,e2]
  exact Nat.and_two_pow_sub_one_eq_mod x 4
 show u64w ((BitVec.ofInt 64 (x:Int)&&&BitVec.ofInt 64 15).toNat:Int)=_
 rw [h2,u64w_id (by omega) (by omega)]
theorem shr_nat {x k:Nat} (h:x< 18446744073709551616) (hk:k< 64):shrI .u64 (x:Int) (k:Int)=((x/2^k:Nat):Int):=by
 unfold shrI
 have hlt:x/2^k≤x:=Nat.div_le_self _ _
 have e:((x:Int)).fdiv (2^min k 64)=((x/2^k:Nat):Int):=by
  rw [show min k 64=k by omega,Int.fdiv_eq_ediv_of_nonneg _ (by exact Int.le_of_lt (Int.pow_pos (by decide))),Int.natCast_ediv]
  simp
 simp [IntKind.bits,IntKind.signed,e]
theorem hex_at:∀ d:Nat,d< 16→btS (⟨#[48,49,50,51,52,53,54,55,56,57,97,98,99,100,101,102]⟩:ByteArray) (d:Int)=((hxd d).toNat:Int)∧btS (⟨#[48,49,50,51,52,53,54,55,56,57,97,98,99,100,101,102,103,104,105,106,107,108,109,110,111,112,113,114,115,116,117,118,119,120,121,122]⟩:ByteArray) (d:Int)=((hxd d).toNat:Int):=by decide+kernel
theorem bsOf_map (l:List UInt8):bsOf (l.map fun b=>(b.toNat:Int))=⟨l.toArray⟩:=by
 unfold bsOf
 congr 2
 rw [List.map_map]
 exact (List.map_congr_left fun b _=>by simp).trans (List.map_id l)
theorem dec_impl (N:Nat) {n:Int} (h0:0≤n) (h1:n< 100):QaV.f N n=some ⟨(Lib.decDigits n.toNat).toArray⟩:=by
 have e:Lib.itoa n=Lib.decDigits n.toNat:=by unfold Lib.itoa;rw [if_neg (by omega)]
 simp only [QaV.f,strconv_FormatInt.f]
 rw [if_pos ⟨⟨by omega,by omega⟩,trivial⟩,e]
 rfl
theorem d36:(⟨#[48,49,50,51,52,53,54,55,56,57,97,98,99,100,101,102,103,104,105,106,107,108,109,110,111,112,113,114,115,116,117,118,119,120,121,122]⟩:ByteArray).size=36:=rfl
theorem fmt_impl {N:Nat} (hN:80< N) {n:Nat} (hn:n< 18446744073709551616):∃ i,1≤i∧i≤16∧n< 16^i∧QaN.f N (n:Int)=some ⟨(lastD n i).toArray⟩:=by
 have u16:u64w 16=16:=rfl
 have u15:u64w (16 - 1)=15:=rfl
 have u4:u64w 4=4:=rfl
 obtain ⟨e,he,j,arr,rfl,hj,hlt,hdrop⟩:=rounds_ends (b:=fun s=>Qah.b1 N 4 s.1 s.2.1 s.2.2)
  (fun s=>∃ j:Nat,j≤15∧s.1=((n/16^j:Nat):Int)∧s.2.2=65 - (j:Int)∧s.2.1.l.drop (65 - j)=(lastD n j).map fun b=>(b.toNat:Int)) (fun s=>s.2.2.toNat)
  (fun e=>∃ j:Nat,∃ arr:Ar Int 65,e= .go (((n/16^j:Nat):Int),arr,65 - (j:Int))∧j≤15∧n/16^j< 16∧arr.l.drop (65 - j)=(lastD n j).map fun b=>(b.toNat:Int)) (by
  rintro ⟨x,a,y⟩ ⟨j,hj,hx,hy,ha⟩
  simp only at hx hy ha
  subst hx hy
  have hxn:n/16^j< 18446744073709551616:=Nat.lt_of_le_of_lt (Nat.div_le_self _ _) hn
  by_cases c:n/16^j< 16
  ·left
   refine ⟨_,?_,j,a,rfl,hj,c,ha⟩
   simp only [Qah.b1,u16]
   rw [if_neg (by omega)]
  ·right
   have hj15:j+1≤15:=by
    refine Classical.byContradiction fun q=>c ?_
    obtain rfl:j=15:=by omega
    have:n< 16^15*16:=by omega
    exact Nat.div_lt_of_lt_mul this
   have hm:n/16^j%16< 16:=Nat.mod_lt _ (by decide)
   have hi:i64w (65 - (j:Int) - 1)=((64 - j:Nat):Int):=by rw [i64w_id (by omega) (by omega)];omega
   have hs:shrI .u64 ((n/16^j:Nat):Int) 4=((n/16^(j+1):Nat):Int):=by
    rw [show (4:Int)=((4:Nat):Int) from rfl,shr_nat hxn (by decide),show (2:Nat)^4=16 from rfl,Nat.div_div_eq_div_mul,← Nat.pow_succ]
   refine ⟨(((n/16^(j+1):Nat):Int),a.set ((64 - j:Nat):Int) ((hxd (n/16^j%16)).toNat:Int),65 - ((j+1:Nat):Int)),?_,⟨j+1,hj15,rfl,rfl,?_⟩,by dsimp only;omega⟩
   ·simp only [Qah.b1,u16,u15,u4,hi,hs,and15 hxn,d36]
    rw [if_pos (by omega),if_pos ⟨by omega,by omega⟩,if_pos ⟨by omega,by omega⟩,if_pos (by decide),(hex_at _ hm).2,show (65:Int) - ((j+1:Nat):Int)=((64 - j:Nat):Int) by omega]
   ·dsimp only
    rw [lastD_cons,List.map_cons,← ha]
    have hl:a.l.length=65:=a.h
    show (stL a.l ((64 - j:Nat):Int) _).drop (65 - (j+1))=_
    rw [stL_nat,show 65 - (j+1)=64 - j by omega,List.drop_eq_getElem_cons (by simp;omega),List.getElem_set_self,List.drop_set_of_lt (by omega),show 64 - j+1=65 - j by omega]) N ((n:Int),Ar.rep 65 0,65) ⟨0,by omega,by simp,by simp,by simp [lastD,Ar.rep]⟩ (by dsimp only;omega)
 refine ⟨j+1,by omega,by omega,?_,?_⟩
 ·rw [Nat.pow_succ]
  exact (Nat.div_lt_iff_lt_mul (Nat.pow_pos (by decide))).1 hlt|>fun q=>by rwa [Nat.mul_comm] at q
 ·have hp:QaX.f N 16=some true:=rfl
  have ht:Qa0.f N 16=some 4:=rfl
  have hi:i64w (65 - (j:Int) - 1)=((64 - j:Nat):Int):=by rw [i64w_id (by omega) (by omega)];omega
  have hl:arr.l.length=65:=arr.h
  have hfin:((stL arr.l ((64 - j:Nat):Int) ((hxd (n/16^j)).toNat:Int)).drop (64 - j)).take (65 - (64 - j))=(lastD n (j+1)).map fun b=>(b.toNat:Int):=by
   rw [lastD_cons,List.map_cons,← hdrop,Nat.mod_eq_of_lt hlt,stL_nat,List.drop_eq_getElem_cons (by simp;omega),List.getElem_set_self,List.drop_set_of_lt (by omega),show 64 - j+1=65 - j by omega,List.take_of_length_le (by simp;omega)]
  simp only [QaN.f,istrconv_FormatUint_at_c16.f,Qah.f,hp,u16,ht,Option.bind_some,if_true,he,Ex.fin,Qah.a1,hi,d36]
  rw [if_pos ⟨Int.natCast_nonneg _,by omega⟩,if_pos ⟨by omega,by omega⟩,(hex_at _ hlt).2]
  simp only [Qah.j0]
  rw [if_pos ⟨by omega,by omega⟩]
  show some (bsOf (((stL arr.l ((64 - j:Nat):Int) ((hxd (n/16^j)).toNat:Int)).drop ((64 - j:Nat):Int).toNat).take (((65:Nat):Int).toNat - ((64 - j:Nat):Int).toNat)))=_
  rw [Int.toNat_natCast,Int.toNat_natCast,hfin,bsOf_map]
theorem rep_tab (N:Nat):∀ c:Nat,c< 16→Qan.f N (⟨#[48]⟩:ByteArray) (c:Int)=some ⟨(List.replicate c 48).toArray⟩
 |0,_=>rfl
 |1,_=>rfl
 |2,_=>by kernel_rfl
 |3,_=>by kernel_rfl
 |4,_=>by kernel_rfl
 |5,_=>by kernel_rfl
 |6,_=>by kernel_rfl
 |7,_=>by kernel_rfl
 |8,_=>by kernel_rfl
 |9,_=>by kernel_rfl
 |10,_=>by kernel_rfl
 |11,_=>by kernel_rfl
 |12,_=>by kernel_rfl
 |13,_=>by kernel_rfl
 |14,_=>by kernel_rfl
 |15,_=>by kernel_rfl
 |n+16,h=>absurd h (by omega)
theorem padded {N:Nat} (hN:80< N) {n:Nat} (hn:n< 18446744073709551616):∃ i,1≤i∧i≤16∧QaN.f N (n:Int)=some ⟨(lastD n i).toArray⟩∧
 Qan.f N (⟨#[48]⟩:ByteArray) (i64w (16 - ((⟨(lastD n i).toArray⟩:ByteArray).size:Int)))=some ⟨(List.replicate (16 - i) 48).toArray⟩∧List.replicate (16 - i) 48++lastD n i=lastD n 16:=by
 obtain ⟨i,h1,h2,h3,h4⟩:=fmt_impl hN hn
 refine ⟨i,h1,h2,h4,?_,lastD_pad h2 h3⟩
 rw [ba_size,lastD_len,i64w_id (by omega) (by omega),show (16:Int) - (i:Int)=((16 - i:Nat):Int) by omega]
 exact rep_tab N _ (by omega)
def wordY (b:Bool):List UInt8:=if b=true then [32,121,101,115] else [32,110,111]
def lineG (a:As_):List UInt8:=lastD a.QaO.toNat 16++wordY a.Qa1++[10]
theorem line_len (a:As_):(lineG a).length≤21:=by
 unfold lineG wordY
 split<;>simp [lastD_len]
def linesG (l:List As_):List UInt8:=(l.map lineG).flatten
theorem lines_succ (l:List As_) {k:Nat} (hk:k< l.length):linesG (l.take (k+1))=linesG (l.take k)++lineG l[k]:=by
 unfold linesG
 rw [List.take_succ_eq_append_getElem hk,List.map_append,List.flatten_append]
 simp
theorem lines_len (l:List As_):(linesG l).length≤21*l.length:=by
 induction l with
 |nil=>exact Nat.le_refl _
 |cons a l ih=>
  have:=line_len a
  simp only [linesG,List.map_cons,List.flatten_cons,List.length_append,List.length_cons] at ih ⊢
  omega
def headG (G:Ga):List UInt8:=Lib.decDigits G.Qai.toNat++[32]++Lib.decDigits G.Qaq.toNat++[10]
def textG (G:Ga):List UInt8:=headG G++linesG G.Qap
theorem head_len {G:Ga} (h1:G.Qai≤60) (h2:G.Qaq≤3):(headG G).length≤70:=by
 have a:=dec_len G.Qai.toNat
 have b:=dec_len G.Qaq.toNat
 unfold headG
 simp only [List.length_append,List.length_singleton]
 omega
theorem word_yes:(⟨#[32,121,101,115]⟩:ByteArray)=⟨(wordY true).toArray⟩:=rfl
theorem word_no:(⟨#[32,110,111]⟩:ByteArray)=⟨(wordY false).toArray⟩:=rfl
theorem text_impl {N:Nat} {G:Ga} (hv:QaW.f N G=some true) (hl:G.Qap.length≤60) (h1:1≤G.Qai∧G.Qai≤60) (h2:0≤G.Qaq∧G.Qaq≤3) (hs:∀ a∈G.Qap,0≤a.QaO∧a.QaO< 18446744073709551616) (hN:200< N):QaG.f N G=some ⟨(textG G).toArray⟩:=by
 have hh:=head_len h1.2 h2.2
 have b10:(⟨#[10]⟩:ByteArray)=⟨([10]:List UInt8).toArray⟩:=rfl
 have b0:(⟨#[]⟩:ByteArray)=⟨([]:List UInt8).toArray⟩:=rfl
 obtain ⟨e,he,rfl⟩:=rounds_ends (b:=fun s=>QaG.b0 N G s.1 s.2)
  (fun s=>∃ k:Nat,k≤G.Qap.length∧s.2=(k:Int)∧s.1=⟨(headG G++linesG (G.Qap.take k)).toArray⟩) (fun s=>G.Qap.length - s.2.toNat)
  (fun e=>e= .go ⟨(textG G).toArray⟩) (by
  rintro ⟨x,y⟩ ⟨k,hk,hy,hx⟩
  simp only at hy hx
  subst hy hx
  by_cases c:k< G.Qap.length
  ·right
   have g:(0:Int)≤(k:Int)∧(k:Int)< (G.Qap.length:Int):=⟨by omega,by omega⟩
   obtain ⟨s0,s1⟩:=hs _ (List.getElem_mem c)
   have hle:=lines_len (G.Qap.take k)
   rw [List.length_take] at hle
   obtain ⟨i,i1,i2,e1,e2,e3⟩:=padded (N:=N) (by omega) (n:=(G.Qap[k].QaO).toNat) (by omega)
   rw [Int.toNat_of_nonneg s0] at e1
   have hnext:i64w ((k:Int)+1)=((k+1:Nat):Int):=i64w_succ c (by omega)
   have key:∀ b:Bool,QaG.j2 N G (k:Int) ⟨(headG G++linesG (G.Qap.take k)).toArray⟩ ⟨(wordY b).toArray⟩=some (.next (⟨(headG G++linesG (G.Qap.take k)++(lastD (G.Qap[k].QaO).toNat 16++wordY b++[10])).toArray⟩,((k+1:Nat):Int))):=by
    intro b
    have hw:(wordY b).length≤4:=by cases b<;>decide
    simp only [QaG.j2,rdL_nat c,e1,Option.bind_some,e2,b10,ba_app,e3]
    simp only [ba_size,List.length_append,List.length_singleton,lastD_len,List.length_replicate,hnext]
    rw [if_pos (by omega),if_pos (by omega),if_pos (by omega),if_pos (by omega)]
   refine ⟨(⟨(headG G++linesG (G.Qap.take (k+1))).toArray⟩,((k+1:Nat):Int)),?_,⟨k+1,c,rfl,rfl⟩,by dsimp only;omega⟩
   simp only [QaG.b0,if_pos g.2,if_pos g,rdL_nat c,word_yes,word_no,key]
   rw [lines_succ _ c]
   unfold lineG
   cases hw:G.Qap[k].Qa1
   ·rw [if_neg (by decide),List.append_assoc]
   ·rw [if_pos rfl,List.append_assoc]
  ·left
   obtain rfl:k=G.Qap.length:=by omega
   refine ⟨_,?_,rfl⟩
   simp only [QaG.b0]
   rw [if_neg (by omega),List.take_length,textG]) N (⟨(headG G).toArray⟩,0) ⟨0,by omega,rfl,by simp [linesG]⟩ (by dsimp only;omega)
 have d1:=dec_impl N (n:=G.Qai) (by omega) (by omega)
 have d2:=dec_impl N (n:=G.Qaq) (by omega) (by omega)
 have a1:=dec_len G.Qai.toNat
 have a2:=dec_len G.Qaq.toNat
 have ev:QaW.f N (⟨G.Qai,G.Qaq,G.Qap⟩:Qao)=some true:=hv
 have n1:i64w G.Qai=G.Qai:=i64w_id (by omega) (by omega)
 have n2:i64w G.Qaq=G.Qaq:=i64w_id (by omega) (by omega)
 have z1:((⟨(Lib.decDigits G.Qai.toNat).toArray⟩:ByteArray)++(⟨#[32]⟩:ByteArray))=⟨(Lib.decDigits G.Qai.toNat++[32]).toArray⟩:=ba_app _ [32]
 have z2:((⟨(Lib.decDigits G.Qai.toNat++[32]).toArray⟩:ByteArray)++(⟨(Lib.decDigits G.Qaq.toNat).toArray⟩:ByteArray))=⟨(Lib.decDigits G.Qai.toNat++[32]++Lib.decDigits G.Qaq.toNat).toArray⟩:=ba_app _ _
 have z3:((⟨(Lib.decDigits G.Qai.toNat++[32]++Lib.decDigits G.Qaq.toNat).toArray⟩:ByteArray)++(⟨#[10]⟩:ByteArray))=⟨(headG G).toArray⟩:=ba_app _ [10]
 have s0:(⟨#[32]⟩:ByteArray).size=1:=rfl
 have s9:(⟨#[10]⟩:ByteArray).size=1:=rfl
 have c1:((⟨(Lib.decDigits G.Qai.toNat).toArray⟩:ByteArray).size:Int)+(⟨#[32]⟩:ByteArray).size≤9223372036854775807:=by rw [ba_size,s0];omega
 have c2:((⟨(Lib.decDigits G.Qai.toNat++[32]).toArray⟩:ByteArray).size:Int)+(⟨(Lib.decDigits G.Qaq.toNat).toArray⟩:ByteArray).size≤9223372036854775807:=by rw [ba_size,ba_size,List.length_append,List.length_singleton];omega
 have c3:((⟨(Lib.decDigits G.Qai.toNat++[32]++Lib.decDigits G.Qaq.toNat).toArray⟩:ByteArray).size:Int)+(⟨#[10]⟩:ByteArray).size≤9223372036854775807:=by rw [ba_size,s9,List.length_append,List.length_append,List.length_singleton];omega
 have z4:((⟨#[]⟩:ByteArray)++(⟨(headG G).toArray⟩:ByteArray))=⟨(headG G).toArray⟩:=ba_app [] _
 have c4:(⟨#[]⟩:ByteArray).size+(⟨(headG G).toArray⟩:ByteArray).size≤140737488355328:=by
  have q1:=ba_size (headG G)
  have q2:(⟨#[]⟩:ByteArray).size=0:=rfl
  omega
 unfold QaG.f
 rw [ev,Option.bind_some,if_pos rfl,n1,d1,Option.bind_some,if_pos c1,n2,d2,Option.bind_some,z1,if_pos c2,z2,if_pos c3,z3,if_pos c4,z4,he]
 rfl
def spl (c:UInt8):List UInt8→List UInt8→List (List UInt8)
 |cur,[]=>[cur]
 |cur,x::l=>if x=c then cur::spl c [] l else spl c (cur++[x]) l
theorem spl_miss {c:UInt8}:∀ (l cur:List UInt8),c∉l→spl c cur l=[cur++l]
 |[],cur,_=>by simp [spl]
 |x::l,cur,h=>by
  simp only [List.mem_cons,not_or] at h
  unfold spl
  rw [if_neg (fun e=>h.1 e.symm),spl_miss l _ h.2]
  simp
theorem spl_hit {c:UInt8}:∀ (pre cur post:List UInt8),c∉pre→spl c cur (pre++c::post)=(cur++pre)::spl c [] post
 |[],cur,post,_=>by
  show spl c cur (c::post)=_
  rw [spl,if_pos rfl]
  simp
 |x::l,cur,post,h=>by
  simp only [List.mem_cons,not_or] at h
  rw [List.cons_append]
  rw [show spl c cur (x::(l++c::post))=spl c (cur++[x]) (l++c::post) by rw [spl,if_neg (fun e=>h.1 e.symm)],spl_hit l _ post h.2]
  simp
theorem index_miss {c:UInt8}:∀ (l:List UInt8),c∉l→Lib.index l [c]= -1
 |[],_=>rfl
 |x::l,h=>by
  simp only [List.mem_cons,not_or] at h
  unfold Lib.index
  have:([c]:List UInt8).isPrefixOf (x::l)=false:=by simp [List.isPrefixOf,h.1]
  rw [this,index_miss l h.2]
  rfl
theorem index_hit {c:UInt8}:∀ (pre post:List UInt8),c∉pre→Lib.index (pre++c::post) [c]=(pre.length:Int)
 |[],post,_=>by
  show Lib.index (c::post) [c]=0
  unfold Lib.index
  have:([c]:List UInt8).isPrefixOf (c::post)=true:=by simp [List.isPrefixOf]
  rw [this];rfl
 |x::l,post,h=>by
  simp only [List.mem_cons,not_or] at h
  rw [List.cons_append]
  unfold Lib.index
  have:([c]:List UInt8).isPrefixOf (x::(l++c::post))=false:=by simp [List.isPrefixOf,h.1]
  rw [this,index_hit l post h.2]
  have h1:((l.length:Int)== -1)=false:=by simp
  rw [h1]
  simp
theorem split_eq {c:UInt8}:∀ (n:Nat) (l:List UInt8),l.length≤n→Lib.splitK [c] 0 (Lib.count l [c]) l=spl c [] l:=by
 intro n
 induction n with
 |zero=>
  intro l h
  obtain rfl:l=[]:=List.length_eq_zero_iff.1 (by omega)
  rw [Lib.count_miss (index_miss [] (by simp))]
  rfl
 |succ n ih=>
  intro l h
  by_cases hc:c∈l
  ·obtain ⟨pre,post,rfl,hp⟩:=List.eq_append_cons_of_mem hc
   have hi:=index_hit pre post hp
   have hd:(pre++c::post).drop (pre.length+([c]:List UInt8).length)=post:=by
    rw [List.length_singleton,show pre++c::post=(pre++[c])++post by simp,show pre.length+1=(pre++[c]).length by simp,List.drop_left]
   rw [Lib.count_hit (by simp) hi,hd,Nat.add_comm 1,spl_hit pre [] post hp]
   unfold Lib.splitK
   have h1:(Lib.index (pre++c::post) [c]== -1)=false:=by rw [hi];simp
   rw [h1,hi,Int.toNat_natCast,hd,Nat.add_zero,List.take_left,ih post (by simp at h;omega)]
   rfl
  ·rw [Lib.count_miss (index_miss l hc),spl_miss l [] hc]
   rfl
theorem Qbg {c:UInt8} (s:ByteArray):(Lib.splitB ⟨#[c]⟩ 0 (Lib.countB s ⟨#[c]⟩) s).map (·.data.toList)=spl c [] s.data.toList:=by
 rw [Lib.splitB_data]
 exact split_eq _ _ (Nat.le_refl _)
theorem sub_data (s:ByteArray) (a b:Nat):(subS s (a:Int) (b:Int)).data.toList=(s.data.toList.take b).drop a:=by
 unfold subS
 simp [ByteArray.data_extract,List.extract_eq_take_drop,List.drop_take]
theorem btS_nat (s:ByteArray) {i:Nat} (h:i< s.data.toList.length):btS s (i:Int)=((s.data.toList[i]).toNat:Int):=by
 unfold btS
 rw [Int.toNat_natCast,List.getD_eq_getElem?_getD,List.getElem?_eq_getElem h]
 rfl
theorem sz (s:ByteArray):s.size=s.data.toList.length:=by rw [Array.length_toList];rfl
theorem take_drop_succ {α:Type} {l:List α} {b i:Nat} (hb:b≤i) (hi:i< l.length):(l.take (i+1)).drop b=(l.take i).drop b++[l[i]]:=by
 rw [List.take_add_one,List.getElem?_eq_getElem hi,List.drop_append_of_le_length (by rw [List.length_take];omega)]
 rfl
theorem split_loop {N0:Nat} {s:ByteArray} {c:UInt8} (hs:s.size≤1048576):∀ (m i b:Nat) (out:List ByteArray),i≤s.size→s.size - i< m→b≤i→out.length≤i→
 out.map (·.data.toList)++spl c ((s.data.toList.take i).drop b) (s.data.toList.drop i)=spl c [] s.data.toList→
 ∃ (out':List ByteArray) (b':Nat),rounds (fun x=>Qaz.b0 N0 s (c.toNat:Int) x.1 x.2.1 x.2.2) m (out,(b:Int),(i:Int))=some (.go (out',(b':Int)))∧b'≤s.size∧out'.length≤s.size∧out'.map (·.data.toList)++[s.data.toList.drop b']=spl c [] s.data.toList:=by
 intro m
 induction m with
 |zero=>intro i b out _ h;exact absurd h (Nat.not_lt_zero _)
 |succ m ih=>
  intro i b out hi hm hb ho hI
  have hL:=sz s
  by_cases hl:i< s.size
  ·have hl':i< s.data.toList.length:=by omega
   have g1:(i:Int)< s.size:=by omega
   have g2:(0:Int)≤i:=by omega
   have hd:s.data.toList.drop i=s.data.toList[i]::s.data.toList.drop (i+1):=List.drop_eq_getElem_cons hl'
   have hw:i64w ((i:Int)+1)=((i+1:Nat):Int):=i64w_succ (n:=s.size) hl (by omega)
   rw [hd] at hI
   by_cases hc:s.data.toList[i]=c
   ·have hn:rounds (fun x=>Qaz.b0 N0 s (c.toNat:Int) x.1 x.2.1 x.2.2) (m+1) (out,(b:Int),(i:Int))=rounds (fun x=>Qaz.b0 N0 s (c.toNat:Int) x.1 x.2.1 x.2.2) m (out++[subS s (b:Int) (i:Int)],((i+1:Nat):Int),((i+1:Nat):Int)):=by
     apply rounds_next
     show Qaz.b0 N0 s (c.toNat:Int) out (b:Int) (i:Int)=_
     unfold Qaz.b0 Qaz.j2
     rw [if_pos g1,if_pos ⟨g2,g1⟩,btS_nat s hl',hc,if_pos rfl,if_pos ⟨by omega,by omega,by omega⟩,if_pos (by rw [List.length_singleton];omega),hw]
    rw [hn]
    refine ih (i+1) (i+1) _ (by omega) (by omega) (Nat.le_refl _) (by rw [List.length_append,List.length_singleton];omega) ?_
    rw [spl,if_pos hc] at hI
    have e0:(s.data.toList.take (i+1)).drop (i+1)=[]:=List.drop_eq_nil_of_le (by rw [List.length_take];omega)
    rw [List.map_append,List.map_singleton,sub_data,e0,List.append_assoc]
    exact hI
   ·have hn:rounds (fun x=>Qaz.b0 N0 s (c.toNat:Int) x.1 x.2.1 x.2.2) (m+1) (out,(b:Int),(i:Int))=rounds (fun x=>Qaz.b0 N0 s (c.toNat:Int) x.1 x.2.1 x.2.2) m (out,(b:Int),((i+1:Nat):Int)):=by
     apply rounds_next
     show Qaz.b0 N0 s (c.toNat:Int) out (b:Int) (i:Int)=_
     have hne:¬ ((s.data.toList[i]).toNat:Int)=(c.toNat:Int):=fun e=>hc (UInt8.toNat_inj.1 (by omega))
     unfold Qaz.b0 Qaz.j2
     rw [if_pos g1,if_pos ⟨g2,g1⟩,btS_nat s hl',if_neg hne,hw]
    rw [hn]
    refine ih (i+1) b out (by omega) (by omega) (by omega) (by omega) ?_
    rw [spl,if_neg hc] at hI
    rw [take_drop_succ hb hl']
    exact hI
  ·obtain rfl:i=s.size:=by omega
   refine ⟨out,b,rounds_out ?_,hb,ho,?_⟩
   ·show Qaz.b0 N0 s (c.toNat:Int) out (b:Int) (s.size:Int)=_
    unfold Qaz.b0
    rw [if_neg (by omega)]
   ·rw [hL,List.take_length,List.drop_length,spl] at hI
    exact hI
theorem data_inj:∀ {xs ys:List ByteArray},xs.map (·.data.toList)=ys.map (·.data.toList)→xs=ys
 |[],[],_=>rfl
 |[],_::_,h=>by simp at h
 |_::_,[],h=>by simp at h
 |x::xs,y::ys,h=>by
  rw [List.map_cons,List.map_cons,List.cons.injEq] at h
  obtain rfl:x=y:=ByteArray.ext (Array.toList_inj.1 h.1)
  rw [data_inj h.2]
theorem split_spec {N:Nat} {s:ByteArray} {c:UInt8} (hs:s.size≤1048576) (hN:s.size< N):Qaz.f N s (c.toNat:Int)=some (Lib.splitB ⟨#[c]⟩ 0 (Lib.countB s ⟨#[c]⟩) s):=by
 obtain ⟨out,b,h1,h2,h3,h4⟩:=split_loop (N0:=N) (c:=c) hs N 0 0 [] (Nat.zero_le _) (by omega) (Nat.le_refl _) (Nat.zero_le _) (by simp)
 have h1':rounds (fun x=>Qaz.b0 N s (c.toNat:Int) x.1 x.2.1 x.2.2) N (([]:List ByteArray),0,0)=some (.go (out,(b:Int))):=h1
 unfold Qaz.f
 rw [h1',Option.bind_some]
 show Qaz.a0 N s out (b:Int)=_
 unfold Qaz.a0
 rw [if_pos ⟨by omega,by omega,Int.le_refl _⟩,if_pos (by rw [List.length_singleton];omega)]
 refine congrArg some (data_inj ?_)
 rw [Qbg,List.map_append,List.map_singleton,sub_data,← h4,sz,List.take_length]
theorem spl_len {c:UInt8}:∀ (l cur p:List UInt8),p∈spl c cur l→p.length≤cur.length+l.length
 |[],cur,p,h=>by
  simp only [spl,List.mem_singleton] at h
  subst h;simp
 |x::l,cur,p,h=>by
  unfold spl at h
  by_cases hx:x=c
  ·rw [if_pos hx] at h
   rcases List.mem_cons.1 h with rfl|h
   ·simp
   ·have:=spl_len l [] p h
    simp at this ⊢;omega
  ·rw [if_neg hx] at h
   have:=spl_len l (cur++[x]) p h
   simp at this ⊢;omega
theorem word_len {s p:ByteArray} {c:UInt8} (h:p∈Lib.splitB ⟨#[c]⟩ 0 (Lib.countB s ⟨#[c]⟩) s):p.size≤s.size:=by
 have h1:p.data.toList∈(Lib.splitB ⟨#[c]⟩ 0 (Lib.countB s ⟨#[c]⟩) s).map (·.data.toList):=List.mem_map.2 ⟨p,h,rfl⟩
 rw [Qbg] at h1
 have:=spl_len _ _ _ h1
 rw [sz,sz]
 simpa using this
theorem spl_count {c:UInt8}:∀ (l cur:List UInt8),(spl c cur l).length≤l.length+1
 |[],cur=>by simp [spl]
 |x::l,cur=>by
  unfold spl
  by_cases hx:x=c
  ·rw [if_pos hx]
   have:=spl_count (c:=c) l []
   simp;omega
  ·rw [if_neg hx]
   have:=spl_count (c:=c) l (cur++[x])
   simp;omega
theorem words_len {s:ByteArray} {c:UInt8}:(Lib.splitB ⟨#[c]⟩ 0 (Lib.countB s ⟨#[c]⟩) s).length≤s.size+1:=by
 have h:=spl_count (c:=c) s.data.toList []
 rw [← Qbg,List.length_map] at h
 rw [sz];exact h
theorem split_impl {N:Nat} {s:ByteArray} {c:UInt8} (hs:s.size≤1048576):strings_Split.f N s ⟨#[c]⟩=some (Lib.splitB ⟨#[c]⟩ 0 (Lib.countB s ⟨#[c]⟩) s):=by
 unfold strings_Split.f
 rw [if_pos ⟨by omega,Nat.le_refl 1⟩]
def dd:Nat→Nat→List UInt8
 |0,_=>[]
 |k+1,n=>if n< 10 then [UInt8.ofNat (48+n)] else dd k (n/10)++[UInt8.ofNat (48+n%10)]
theorem dd_eq (k:Nat):∀ n:Nat,n< 10^(k+1)→Lib.decDigits n=dd (k+1) n:=by
 induction k with
 |zero=>
  intro n h
  have h10:n< 10:=by simpa using h
  rw [Lib.decDigits,dif_pos h10,dd,if_pos h10]
 |succ k ih=>
  intro n h
  by_cases h10:n< 10
  ·rw [Lib.decDigits,dif_pos h10,dd,if_pos h10]
  ·rw [Nat.pow_succ] at h
   rw [Lib.decDigits,dif_neg h10,dd,if_neg h10,ih (n/10) (by omega)]
theorem dd5 {n:Nat} (h:n≤2000):Lib.decDigits n=dd 4 n:=dd_eq 3 n (by omega)
theorem parse_lit:∀ n:Nat,n< 2001→parsed (dd 4 n)=((n:Int),false):=by decide+kernel
theorem parsed_lit {n:Nat} (h:n≤2000):parsed (Lib.decDigits n)=((n:Int),false):=by rw [dd5 h];exact parse_lit n (by omega)
theorem parsed_range {l:List UInt8} (h:(parsed l).2=false): -9223372036854775808≤(parsed l).1∧(parsed l).1≤9223372036854775807:=by
 unfold parsed at h ⊢
 cases hp:Lib.parseIntB 64 l with
 |ok v=>
  show -9223372036854775808≤v∧v≤9223372036854775807
  unfold Lib.parseIntB at hp
  cases l with
  |nil=>cases hp
  |cons c r=>
   simp only at hp
   cases hq:Lib.parseUintB 64 (if c.toNat=43∨c.toNat=45 then r else c::r) with
   |ok u=>
    rw [hq] at hp
    simp only at hp
    split at hp
    ·cases hp
    ·split at hp
     ·cases hp
     ·rename_i h1 h2
      have:=Lib.NumEnd.ok.inj hp
      by_cases hn:c.toNat=45
      ·rw [if_pos hn] at this
       have:¬ (2^63< u):=fun g=>h2 ⟨hn,g⟩
       omega
      ·rw [if_neg hn] at this
       have:¬ (2^63≤u):=fun g=>h1 ⟨hn,g⟩
       omega
   |_=>rw [hq] at hp;cases hp
 |_=>rw [hp] at h;cases h
def nuI (most:Int) (l:List UInt8):Int×Bool:=if (parsed l).2=true then (0,false) else if Lib.itoa (parsed l).1=l then (if 0≤(parsed l).1 then (if (parsed l).1≤most then ((parsed l).1,true) else (0,false)) else (0,false)) else (0,false)
theorem ba_litI {w:ByteArray} {l:List UInt8}:((⟨l.toArray⟩:ByteArray).toList=w.toList)↔l=w.data.toList:=by
 rw [Lib.toList_data,Lib.toList_data]
theorem number_impl (N:Nat) {w:ByteArray} {most:Int} (hs:w.size≤1048576):Qa8.f N w most=some (nuI most w.data.toList):=by
 unfold Qa8.f strconv_ParseInt.f nuI
 rw [if_pos ⟨by omega,rfl,rfl⟩,Option.bind_some]
 by_cases h2:(parsed w.data.toList).2=true
 ·rw [if_pos h2,if_pos h2]
 ·have hr:=parsed_range (l:=w.data.toList) (by simpa using h2)
  have hd:QaV.f N (parsed w.data.toList).1=some ⟨(Lib.itoa (parsed w.data.toList).1).toArray⟩:=by
   unfold QaV.f strconv_FormatInt.f
   rw [if_pos ⟨hr,rfl⟩]
   rfl
  rw [if_neg h2,if_neg h2,hd,Option.bind_some]
  by_cases h3:Lib.itoa (parsed w.data.toList).1=w.data.toList
  ·rw [if_pos (ba_litI.2 h3),if_pos h3]
   unfold Qa3.f
   by_cases h4:0≤(parsed w.data.toList).1
   ·rw [if_pos h4,if_pos h4,Option.bind_some]
    by_cases h5:(parsed w.data.toList).1≤most
    ·rw [decide_eq_true h5,if_pos rfl,if_pos h5]
    ·rw [decide_eq_false h5,if_neg Bool.false_ne_true,if_neg h5]
   ·rw [if_neg h4,if_neg h4,Option.bind_some,if_neg Bool.false_ne_true]
  ·rw [if_neg (fun g=>h3 (ba_litI.1 g)),if_neg h3]
theorem nuI_ok {most:Int} {l:List UInt8} (h:(nuI most l).2=true):(0≤(nuI most l).1∧(nuI most l).1≤most)∧l=Lib.decDigits (nuI most l).1.toNat:=by
 unfold nuI at h ⊢
 by_cases h2:(parsed l).2=true
 ·rw [if_pos h2] at h;cases h
 ·rw [if_neg h2] at h ⊢
  by_cases h3:Lib.itoa (parsed l).1=l
  ·rw [if_pos h3] at h ⊢
   by_cases h4:0≤(parsed l).1
   ·rw [if_pos h4] at h ⊢
    by_cases h5:(parsed l).1≤most
    ·rw [if_pos h5]
     refine ⟨⟨h4,h5⟩,?_⟩
     have e:Lib.itoa (parsed l).1=Lib.decDigits (parsed l).1.toNat:=by unfold Lib.itoa;rw [if_neg (by omega)]
     exact h3.symm.trans e
    ·rw [if_neg h5] at h;cases h
   ·rw [if_neg h4] at h;cases h
  ·rw [if_neg h3] at h;cases h
theorem nuI_lit {most:Int} (hm:most≤2000) {n:Nat} (h:(n:Int)≤most):nuI most (Lib.decDigits n)=((n:Int),true):=by
 unfold nuI
 rw [parsed_lit (by omega)]
 have e:Lib.itoa (n:Int)=Lib.decDigits n:=by unfold Lib.itoa;rw [if_neg (by omega),Int.toNat_natCast]
 rw [if_neg Bool.false_ne_true,if_pos e,if_pos (by omega),if_pos h]
abbrev nmS (acc:Int) (ch:UInt8):Ex (Ex (Int×Bool) Int) Int:=if (ch.toNat:Int)< 48 then .ret (.ret (0,false)) else if (ch.toNat:Int)>57 then .ret (.ret (0,false)) else .go (10*acc+((ch.toNat:Int) - 48))
abbrev nmF (acc:Int):Ex (Int×Bool) Int:= .go acc
def fin2:Ex (Int×Bool) Int→Int×Bool
 | .ret r=>r
 | .go v=>(v,true)
def nuS (l:List UInt8):Int×Bool:=match l with
 |[]=>(0,false)
 |h::t=>if t.length+1>10 then (0,false) else if (h.toNat:Int)=48∧t.length+1>1 then (0,false) else fin2 (walk nmS nmF 0 (h::t))
theorem digit_back {ch:UInt8} (h:¬ (ch.toNat:Int)< 48):UInt8.ofNat (48+(ch.toNat - 48))=ch:=by
 have:48+(ch.toNat - 48)=ch.toNat:=by omega
 rw [this]
 exact UInt8.ofNat_toNat
theorem num_walk:∀ (t:List UInt8) (v:Nat) (pre:List UInt8),1≤v→Lib.decDigits v=pre→walk nmS nmF (v:Int) t= .ret (0,false)∨∃ u:Nat,walk nmS nmF (v:Int) t= .go (u:Int)∧Lib.decDigits u=pre++t
 |[],v,pre,_,h=> .inr ⟨v,rfl,by simpa using h⟩
 |ch::t,v,pre,hv,h=>by
  unfold walk
  by_cases c1:(ch.toNat:Int)< 48
  ·rw [show nmS (v:Int) ch= .ret (.ret (0,false)) from if_pos c1];exact .inl rfl
  ·by_cases c2:(ch.toNat:Int)>57
   ·rw [show nmS (v:Int) ch= .ret (.ret (0,false)) by unfold nmS;rw [if_neg c1,if_pos c2]];exact .inl rfl
   ·have e:(10*(v:Int)+((ch.toNat:Int) - 48))=((10*v+(ch.toNat - 48):Nat):Int):=by omega
    rw [show nmS (v:Int) ch= .go ((10*v+(ch.toNat - 48):Nat):Int) by unfold nmS;rw [if_neg c1,if_neg c2,e]]
    have hd:Lib.decDigits (10*v+(ch.toNat - 48))=pre++[ch]:=by
     rw [Lib.decDigits,dif_neg (by omega),show (10*v+(ch.toNat - 48))/10=v by omega,show (10*v+(ch.toNat - 48))%10=ch.toNat - 48 by omega,h,digit_back c1]
    rcases num_walk t (10*v+(ch.toNat - 48)) (pre++[ch]) (by omega) hd with g|⟨u,g1,g2⟩
    ·exact .inl g
    ·exact .inr ⟨u,g1,by rw [g2,List.append_assoc];rfl⟩
theorem nuS_ok {l:List UInt8} (h:(nuS l).2=true):∃ n:Nat,(nuS l).1=(n:Int)∧Lib.decDigits n=l:=by
 unfold nuS at h ⊢
 cases l with
 |nil=>cases h
 |cons x t=>
  simp only at h ⊢
  by_cases c0:t.length+1>10
  ·rw [if_pos c0] at h;cases h
  ·rw [if_neg c0] at h ⊢
   by_cases c1:(x.toNat:Int)=48∧t.length+1>1
   ·rw [if_pos c1] at h;cases h
   ·rw [if_neg c1] at h ⊢
    unfold walk at h ⊢
    by_cases d1:(x.toNat:Int)< 48
    ·rw [show nmS 0 x= .ret (.ret (0,false)) from if_pos d1] at h;cases h
    ·by_cases d2:(x.toNat:Int)>57
     ·rw [show nmS 0 x= .ret (.ret (0,false)) by unfold nmS;rw [if_neg d1,if_pos d2]] at h;cases h
     ·have e:nmS 0 x= .go ((x.toNat - 48:Nat):Int):=by
       unfold nmS
       rw [if_neg d1,if_neg d2]
       exact congrArg _ (by omega)
      rw [e] at h ⊢
      simp only at h ⊢
      have hd:Lib.decDigits (x.toNat - 48)=[x]:=by
       rw [Lib.decDigits,dif_pos (by omega),digit_back d1]
      by_cases z:x.toNat - 48=0
      ·have ht:t=[]:=by
        cases t with
        |nil=>rfl
        |cons y t=>exact absurd ⟨by omega,by simp⟩ c1
       subst ht
       exact ⟨x.toNat - 48,rfl,hd⟩
      ·rcases num_walk t (x.toNat - 48) [x] (by omega) hd with g|⟨u,g1,g2⟩
       ·rw [g] at h;cases h
       ·rw [g1];exact ⟨u,rfl,g2⟩
theorem nuS_lit4:∀ n:Nat,n< 2001→nuS (dd 4 n)=((n:Int),true):=by decide+kernel
theorem nuS_lit {n:Nat} (h:n≤2000):nuS (Lib.decDigits n)=((n:Int),true):=by rw [dd5 h];exact nuS_lit4 n (by omega)
theorem pow_le:∀ i:Nat,i< 11→(10:Int)^i≤10000000000:=by decide
theorem number_spec {N:Nat} {w:ByteArray} (hN:20< N):QaC.f N w=some (nuS w.data.toList):=by
 have hL:=sz w
 have e0:(w.toList=(⟨#[]⟩:ByteArray).toList)↔w.data.toList=[]:=by
  rw [Lib.toList_data,Lib.toList_data]
 unfold QaC.f
 cases hl:w.data.toList with
 |nil=>rw [if_pos (e0.2 hl)];rfl
 |cons x t=>
  have hlen:w.size=t.length+1:=by rw [hL,hl];rfl
  rw [if_neg (fun g=>by rw [e0.1 g] at hl;cases hl)]
  unfold nuS
  simp only
  by_cases c0:t.length+1>10
  ·rw [if_pos c0,if_pos (by omega)]
  ·have g0:(0:Int)≤0∧(0:Int)< w.size:=⟨by omega,by omega⟩
   have eb:btS w 0=(x.toNat:Int):=by
    have:=btS_nat w (i:=0) (by rw [hl];simp)
    rw [show ((0:Nat):Int)=0 from rfl] at this
    rw [this]
    simp [hl]
   have q:rounds (fun s=>QaC.b1 N w s.1 s.2) N (0,0)=some (walk nmS nmF 0 w.data.toList):=by
    refine rounds_walk0 (fun acc i=>(acc,i)) w.data.toList nmS nmF (fun i acc=>0≤acc∧acc+1≤10^i) (by omega) ⟨by omega,by simp⟩ ?_ ?_
    ·intro acc i hi hI
     have g1:(i:Int)< w.size:=by omega
     have g2:(0:Int)≤i:=by omega
     have hp:=pow_le i (by omega)
     have hb:QaC.b1 N w acc (i:Int)=if ((w.data.toList[i]).toNat:Int)< 48 then some (.out (.ret (0,false))) else if ((w.data.toList[i]).toNat:Int)>57 then some (.out (.ret (0,false))) else some (.next (10*acc+(((w.data.toList[i]).toNat:Int) - 48),((i+1:Nat):Int))):=by
      unfold QaC.b1
      rw [if_pos g1,if_pos ⟨g2,g1⟩,btS_nat w hi]
      by_cases c1:((w.data.toList[i]).toNat:Int)< 48
      ·rw [if_pos c1,if_pos c1]
      ·rw [if_neg c1,if_neg c1,if_pos ⟨g2,g1⟩]
       by_cases c2:((w.data.toList[i]).toNat:Int)>57
       ·rw [if_pos c2,if_pos c2]
       ·have e1:u8w (((w.data.toList[i]).toNat:Int) - 48)=((w.data.toList[i]).toNat:Int) - 48:=u8w_id (by omega) (by omega)
        have e2:i64w (((w.data.toList[i]).toNat:Int) - 48)=((w.data.toList[i]).toNat:Int) - 48:=i64w_id (by omega) (by omega)
        have e3:i64w (10*acc)=10*acc:=i64w_id (by omega) (by omega)
        have e4:i64w (10*acc+(((w.data.toList[i]).toNat:Int) - 48))=10*acc+(((w.data.toList[i]).toNat:Int) - 48):=i64w_id (by omega) (by omega)
        have e5:i64w ((i:Int)+1)=((i+1:Nat):Int):=i64w_succ (n:=w.size) (by omega) (by omega)
        rw [if_neg c2,if_neg c2,if_pos ⟨g2,g1⟩,e1,e2,e3,e4,e5]
     by_cases c1:((w.data.toList[i]).toNat:Int)< 48
     ·rw [show nmS acc w.data.toList[i]= .ret (.ret (0,false)) from if_pos c1]
      show QaC.b1 N w acc (i:Int)=_
      rw [hb,if_pos c1]
     ·by_cases c2:((w.data.toList[i]).toNat:Int)>57
      ·rw [show nmS acc w.data.toList[i]= .ret (.ret (0,false)) by unfold nmS;rw [if_neg c1,if_pos c2]]
       show QaC.b1 N w acc (i:Int)=_
       rw [hb,if_neg c1,if_pos c2]
      ·rw [show nmS acc w.data.toList[i]= .go (10*acc+(((w.data.toList[i]).toNat:Int) - 48)) by unfold nmS;rw [if_neg c1,if_neg c2]]
       refine ⟨⟨by omega,by rw [Int.pow_succ];omega⟩,?_⟩
       show QaC.b1 N w acc (i:Int)=_
       rw [hb,if_neg c1,if_neg c2]
    ·intro acc _
     show QaC.b1 N w acc (w.data.toList.length:Int)=_
     unfold QaC.b1
     rw [if_neg (by omega)]
   have hj:QaC.j0 N w=some (fin2 (walk nmS nmF 0 (x::t))):=by
    unfold QaC.j0
    rw [q,hl,Option.bind_some]
    cases walk nmS nmF 0 (x::t) with
    |ret r=>rfl
    |go v=>rfl
   rw [if_neg c0,if_neg (by omega),if_pos g0,eb,hj]
   by_cases c1:(x.toNat:Int)=48
   ·rw [if_pos c1]
    by_cases c2:t.length+1>1
    ·rw [if_pos (by omega),if_pos ⟨c1,c2⟩]
    ·rw [if_neg (by omega),if_neg (fun g=>c2 g.2)]
   ·rw [if_neg c1,if_neg (fun g=>c1 g.1)]
theorem cut_hit {c:UInt8} {pre post:List UInt8} (h:c∉pre):Lib.cut (pre++c::post) [c]=(pre,post,true):=by
 have hi:=index_hit pre post h
 have hd:(pre++c::post).drop (pre.length+([c]:List UInt8).length)=post:=by
  rw [List.length_singleton,show pre++c::post=(pre++[c])++post by simp,show pre.length+1=(pre++[c]).length by simp,List.drop_left]
 unfold Lib.cut
 rw [hi,Int.toNat_natCast,hd,List.take_left]
 simp
def hv (b:UInt8):Option Nat:=if 48≤b.toNat∧b.toNat≤57 then some (b.toNat - 48) else if 97≤b.toNat∧b.toNat≤102 then some (b.toNat - 87) else none
def nib (x d:Nat):Nat:=16*(x%1152921504606846976)+d
def hexv (x:Nat) (l:List UInt8):Nat:=l.foldl (fun x b=>nib x ((hv b).getD 0)) x
def allH (l:List UInt8):Bool:=l.all fun b=>(hv b).isSome
theorem hv_lt {b:UInt8} {d:Nat} (h:hv b=some d):d< 16:=by
 unfold hv at h
 split at h
 ·obtain rfl:=QsJ h;omega
 ·split at h
  ·obtain rfl:=QsJ h;omega
  ·cases h
theorem hv_getD (b:UInt8):(hv b).getD 0< 16:=by
 cases h:hv b with
 |none=>decide
 |some d=>exact hv_lt h
theorem hv_hxd:∀ d:Nat,d< 16→hv (hxd d)=some d∧hxd d≠10∧hxd d≠32:=by decide
theorem hxd_tab:∀ n:Nat,n< 256→hxd ((hv (UInt8.ofNat n)).getD 0)=UInt8.ofNat n∨hv (UInt8.ofNat n)=none:=by decide+kernel
theorem hxd_hv {b:UInt8} {d:Nat} (h:hv b=some d):hxd d=b:=by
 have:=hxd_tab b.toNat b.toNat_lt
 rw [UInt8.ofNat_toNat,h] at this
 rcases this with g|g
 ·exact g
 ·cases g
theorem ix_tab:∀ n:Nat,n< 256→u64w (mxI (Lib.indexByte [48,49,50,51,52,53,54,55,56,57,97,98,99,100,101,102] (UInt8.ofNat n)) 0)=(((hv (UInt8.ofNat n)).getD 0:Nat):Int):=by decide+kernel
theorem ix_hv (b:UInt8):u64w (mxI (Lib.indexByte [48,49,50,51,52,53,54,55,56,57,97,98,99,100,101,102] b) 0)=(((hv b).getD 0:Nat):Int):=by
 have:=ix_tab b.toNat b.toNat_lt
 rwa [UInt8.ofNat_toNat] at this
theorem shl4 {x:Nat} (h:x< 18446744073709551616):shlI .u64 (x:Int) 4=((16*(x%1152921504606846976):Nat):Int):=by
 unfold shlI
 have e:(x:Int)*2^(min (4:Int).toNat IntKind.u64.bits)=((x*16:Nat):Int):=by
  rw [show min (4:Int).toNat IntKind.u64.bits=4 from rfl];omega
 rw [e]
 simp only [IntKind.wrap,IntKind.bits,IntKind.signed]
 simp
 omega
theorem orNib {y d:Nat} (h:y< 1152921504606846976) (hd:d< 16):bOr .u64 ((16*y:Nat):Int) (d:Int)=((16*y+d:Nat):Int):=by
 have h2:(BitVec.ofInt 64 ((16*y:Nat):Int)|||BitVec.ofInt 64 (d:Int)).toNat=16*y+d:=by
  rw [BitVec.toNat_or]
  simp only [BitVec.toNat_ofInt]
  have e1:(((16*y:Nat):Int)%((2^64:Nat):Int)).toNat=16*y:=by omega
  have e2:((d:Int)%((2^64:Nat):Int)).toNat=d:=by omega
  rw [e1,e2]
  have:=Nat.two_pow_add_eq_or_of_lt (i:=4) (b:=d) (by omega) y
  rw [show (2:Nat)^4=16 from rfl] at this
  exact this.symm
 show u64w ((BitVec.ofInt 64 ((16*y:Nat):Int)|||BitVec.ofInt 64 (d:Int)).toNat:Int)=_
 rw [h2,u64w_id (by omega) (by omega)]
theorem nib_eq {x d:Nat} (h:x< 18446744073709551616) (hd:d< 16):bOr .u64 (shlI .u64 (x:Int) 4) (d:Int)=((nib x d:Nat):Int):=by
 rw [shl4 h,orNib (Nat.mod_lt _ (by decide)) hd];rfl
theorem nib_lt {x d:Nat} (hd:d< 16):nib x d< 18446744073709551616:=by
 have:x%1152921504606846976< 1152921504606846976:=Nat.mod_lt _ (by decide)
 unfold nib;omega
theorem hexv_lt:∀ (l:List UInt8) (x:Nat),x< 18446744073709551616→hexv x l< 18446744073709551616
 |[],x,h=>h
 |b::l,x,h=>hexv_lt l _ (nib_lt (hv_getD b))
theorem hexv_snoc (x:Nat) (l:List UInt8) (b:UInt8):hexv x (l++[b])=nib (hexv x l) ((hv b).getD 0):=by
 unfold hexv;rw [List.foldl_append];rfl
theorem pow_15:(16:Nat)^15=1152921504606846976:=by decide
theorem pow_le15 {j:Nat} (h:j≤15):(16:Nat)^j≤1152921504606846976:=by rw [← pow_15];exact Nat.pow_le_pow_right (by decide) h
theorem hexv_lastD:∀ (j n:Nat),j≤16→hexv 0 (lastD n j)=n%16^j
 |0,n,_=>by rw [Nat.pow_zero,Nat.mod_one];rfl
 |j+1,n,h=>by
  have hp:=pow_le15 (j:=j) (by omega)
  have hm:n/16%16^j< 16^j:=Nat.mod_lt _ (Nat.pow_pos (by decide))
  show hexv 0 (lastD (n/16) j++[hxd (n%16)])=_
  rw [hexv_snoc,hexv_lastD j (n/16) (by omega),(hv_hxd _ (Nat.mod_lt _ (by decide))).1]
  show nib (n/16%16^j) (n%16)=_
  unfold nib
  rw [Nat.mod_eq_of_lt (Nat.lt_of_lt_of_le hm hp),Nat.pow_succ,Nat.mul_comm (16^j) 16,Nat.mod_mul]
  omega
theorem allH_lastD:∀ (j n:Nat),allH (lastD n j)=true
 |0,_=>rfl
 |j+1,n=>by
  have:=allH_lastD j (n/16)
  unfold allH at this ⊢
  show (lastD (n/16) j++[hxd (n%16)]).all _=true
  rw [List.all_append,this,List.all_cons,List.all_nil,(hv_hxd _ (Nat.mod_lt _ (by decide))).1]
  rfl
theorem lastD_no:∀ (j n:Nat),(10:UInt8)∉lastD n j∧(32:UInt8)∉lastD n j
 |0,_=>⟨by simp [lastD],by simp [lastD]⟩
 |j+1,n=>by
  have h:=lastD_no j (n/16)
  have g:=(hv_hxd _ (Nat.mod_lt n (by decide:0< 16))).2
  constructor
  ·intro hm
   rcases List.mem_append.1 (show (10:UInt8)∈lastD (n/16) j++[hxd (n%16)] from hm) with q|q
   ·exact h.1 q
   ·exact g.1 (List.mem_singleton.1 q).symm
  ·intro hm
   rcases List.mem_append.1 (show (32:UInt8)∈lastD (n/16) j++[hxd (n%16)] from hm) with q|q
   ·exact h.2 q
   ·exact g.2 (List.mem_singleton.1 q).symm
theorem lastD_hexv:∀ (j:Nat) (l:List UInt8),l.length=j→j≤16→allH l=true→lastD (hexv 0 l) j=l∧hexv 0 l< 16^j
 |0,l,hl,_,_=>by
  obtain rfl:=List.length_eq_zero_iff.1 hl
  exact ⟨rfl,by decide⟩
 |j+1,l,hl,hj,ha=>by
  obtain ⟨l',b,rfl⟩:∃ l' b,l=l'++[b]:=⟨l.dropLast,l.getLast (by intro e;rw [e] at hl;cases hl),(List.dropLast_concat_getLast _).symm⟩
  rw [List.length_append,List.length_singleton] at hl
  unfold allH at ha
  rw [List.all_append,Bool.and_eq_true,List.all_cons,List.all_nil,Bool.and_true] at ha
  obtain ⟨d,hd⟩:=Option.isSome_iff_exists.1 ha.2
  obtain ⟨h1,h2⟩:=lastD_hexv j l' (by omega) (by omega) ha.1
  have hd16:=hv_lt hd
  have hp:=pow_le15 (j:=j) (by omega)
  have e:hexv 0 (l'++[b])=16*hexv 0 l'+d:=by
   rw [hexv_snoc,hd]
   show nib _ d=_
   unfold nib
   rw [Nat.mod_eq_of_lt (by omega)]
  rw [e]
  constructor
  ·show lastD ((16*hexv 0 l'+d)/16) j++[hxd ((16*hexv 0 l'+d)%16)]=_
   rw [show (16*hexv 0 l'+d)/16=hexv 0 l' by omega,show (16*hexv 0 l'+d)%16=d by omega,h1,hxd_hv hd]
  ·rw [Nat.pow_succ];omega
theorem hexOf_eq {N:Nat} {w:ByteArray} (hs:w.size≤1048576) (hN:w.size< N):QaP.f N w=some ((hexv 0 w.data.toList:Nat):Int):=by
 have hL:=sz w
 have q:=rounds_walk0 (b:=fun s=>QaP.b0 N w s.1 s.2) (N:=N) (acc:=(0:Nat)) (fun (acc:Nat) i=>((acc:Int),i)) w.data.toList (fun acc b=> .go (nib acc ((hv b).getD 0))) (fun acc=> .go (acc:Int)) (fun _ acc=>acc< 18446744073709551616) (by omega) (by decide) (by
  intro acc i hi hI
  have g:(i:Int)< w.size:=by omega
  refine ⟨nib_lt (hv_getD _),?_⟩
  show QaP.b0 N w (acc:Int) (i:Int)=_
  unfold QaP.b0 strings_IndexByte.f
  rw [if_pos g,if_pos ⟨by omega,g⟩,btS_nat w hi,Option.bind_some,i64w_succ (n:=w.size) (by omega) (by omega),Int.toNat_natCast,show (w.data.toList[i]).toNat.toUInt8=w.data.toList[i] from UInt8.ofNat_toNat]
  rw [show (⟨#[48,49,50,51,52,53,54,55,56,57,97,98,99,100,101,102]⟩:ByteArray).data.toList=[48,49,50,51,52,53,54,55,56,57,97,98,99,100,101,102] from rfl,ix_hv,nib_eq hI (hv_getD _)]) (by
  intro acc _
  show QaP.b0 N w (acc:Int) (w.data.toList.length:Int)=_
  unfold QaP.b0
  rw [if_neg (by omega)])
 have q':rounds (fun s=>QaP.b0 N w s.1 s.2) N (0,0)=_:=q
 unfold QaP.f
 rw [q',Option.bind_some]
 have hw:∀ (l:List UInt8) (x:Nat),walk (ρ:=Int) (σ:=Int) (fun acc b=> .go (nib acc ((hv b).getD 0))) (fun acc:Nat=> .go (acc:Int)) x l= .go ((hexv x l:Nat):Int):=by
  intro l
  induction l with
  |nil=>intro x;rfl
  |cons b l ih=>intro x;exact ih _
 rw [hw]
 rfl
abbrev unS (acc:Nat) (b:UInt8):Ex (Ex (Int×Bool) Int) Nat:=match hv b with
 |some d=> .go (nib acc d)
 |none=> .ret (.ret (0,false))
theorem unhex_eq {N:Nat} {w:ByteArray} (hs:w.size≤1048576) (hN:w.size< N):QaF.f N w=some (if allH w.data.toList=true then (((hexv 0 w.data.toList:Nat):Int),decide (w.data.toList.length=16)) else (0,false)):=by
 have hL:=sz w
 have q:=rounds_walk0 (b:=fun s=>QaF.b0 N w s.1 s.2) (N:=N) (acc:=(0:Nat)) (fun (acc:Nat) i=>((acc:Int),i)) w.data.toList unS (fun acc=> .go (acc:Int)) (fun _ acc=>acc< 18446744073709551616) (by omega) (by decide) (by
  intro acc i hi hI
  have g:(i:Int)< w.size:=by omega
  have e0:QaF.b0 N w (acc:Int) (i:Int)=match hv w.data.toList[i] with
   |some d=>some (.next (((nib acc d:Nat):Int),((i+1:Nat):Int)))
   |none=>some (.out (.ret (0,false))):=by
   unfold QaF.b0 QaF.j2
   rw [if_pos g,if_pos ⟨by omega,g⟩,btS_nat w hi,i64w_succ (n:=w.size) (by omega) (by omega)]
   generalize w.data.toList[i]=b
   have hb:=b.toNat_lt
   by_cases c1:(b.toNat:Int)≥48
   ·rw [if_pos c1]
    by_cases c2:(b.toNat:Int)≤57
    ·rw [if_pos c2]
     have e:hv b=some (b.toNat - 48):=by unfold hv;rw [if_pos ⟨by omega,by omega⟩]
     rw [e]
     have e2:u64w (u8w ((b.toNat:Int) - 48))=((b.toNat - 48:Nat):Int):=by rw [u8w_id (by omega) (by omega),u64w_id (by omega) (by omega)];omega
     rw [e2,nib_eq hI (by omega)]
    ·rw [if_neg c2]
     by_cases c3:(b.toNat:Int)≥97
     ·rw [if_pos c3]
      by_cases c4:(b.toNat:Int)≤102
      ·rw [if_pos c4]
       have e:hv b=some (b.toNat - 87):=by unfold hv;rw [if_neg (by omega),if_pos ⟨by omega,by omega⟩]
       rw [e]
       have e2:u64w (u8w ((b.toNat:Int) - 97))=((b.toNat - 97:Nat):Int):=by rw [u8w_id (by omega) (by omega),u64w_id (by omega) (by omega)];omega
       have h3:=nib_lt (x:=acc) (d:=b.toNat - 97) (by omega)
       have h4:acc%1152921504606846976< 1152921504606846976:=Nat.mod_lt _ (by decide)
       rw [e2,nib_eq hI (by omega)]
       have e3:u64w (((nib acc (b.toNat - 97):Nat):Int)+10)=((nib acc (b.toNat - 87):Nat):Int):=by
        unfold nib
        rw [u64w_id (by omega) (by omega)]
        omega
       rw [e3]
      ·rw [if_neg c4]
       have e:hv b=none:=by unfold hv;rw [if_neg (by omega),if_neg (by omega)]
       rw [e]
     ·rw [if_neg c3]
      have e:hv b=none:=by unfold hv;rw [if_neg (by omega),if_neg (by omega)]
      rw [e]
   ·have e:hv b=none:=by unfold hv;rw [if_neg (by omega),if_neg (by omega)]
    rw [if_neg c1,if_neg (by omega),e]
  cases hh:hv w.data.toList[i] with
  |none=>
   rw [hh] at e0
   have e1:unS acc w.data.toList[i]= .ret (.ret (0,false)):=by unfold unS;rw [hh]
   rw [e1];exact e0
  |some d=>
   rw [hh] at e0
   have e1:unS acc w.data.toList[i]= .go (nib acc d):=by unfold unS;rw [hh]
   rw [e1];exact ⟨nib_lt (hv_lt hh),e0⟩) (by
  intro acc _
  show QaF.b0 N w (acc:Int) (w.data.toList.length:Int)=_
  unfold QaF.b0
  rw [if_neg (by omega)])
 have q':rounds (fun s=>QaF.b0 N w s.1 s.2) N (0,0)=_:=q
 have hw:∀ (l:List UInt8) (x:Nat),walk unS (fun acc:Nat=> .go (acc:Int)) x l=if allH l=true then .go ((hexv x l:Nat):Int) else .ret (0,false):=by
  intro l
  induction l with
  |nil=>intro x;rfl
  |cons b l ih=>
   intro x
   unfold allH hexv
   rw [List.all_cons,List.foldl_cons]
   unfold walk
   cases hh:hv b with
   |none=>
    have:unS x b= .ret (.ret (0,false)):=by unfold unS;rw [hh]
    rw [this];rfl
   |some d=>
    have:unS x b= .go (nib x d):=by unfold unS;rw [hh]
    rw [this]
    exact ih _
 unfold QaF.f
 rw [q',Option.bind_some,hw]
 by_cases ha:allH w.data.toList=true
 ·rw [if_pos ha,if_pos ha]
  show some (_,(w.size:Int)==16)=_
  have:((w.size:Int)==16)=decide (w.data.toList.length=16):=by
   rw [Bool.eq_iff_iff,beq_iff_eq,decide_eq_true_eq];omega
  rw [this]
 ·rw [if_neg ha,if_neg ha];rfl
def glue (c:UInt8):List (List UInt8)→List UInt8
 |[]=>[]
 |x::r=>x++(r.map fun y=>c::y).flatten
theorem glue_spl {c:UInt8}:∀ (l cur:List UInt8),glue c (spl c cur l)=cur++l
 |[],cur=>by simp [spl,glue]
 |x::l,cur=>by
  unfold spl
  by_cases hx:x=c
  ·rw [if_pos hx]
   subst hx
   have ih:=glue_spl (c:=x) l []
   cases hq:spl x [] l with
   |nil=>
    exfalso
    have:∀ (l cur:List UInt8),spl x cur l≠[]:=by
     intro l
     induction l with
     |nil=>intro cur;simp [spl]
     |cons y l ih=>intro cur;unfold spl;split<;>simp [ih]
    exact this _ _ hq
   |cons p r=>
    rw [hq] at ih
    have ih':p++(r.map fun y=>x::y).flatten=l:=ih
    show cur++((p::r).map fun y=>x::y).flatten=cur++x::l
    rw [List.map_cons,List.flatten_cons,List.cons_append,ih']
  ·rw [if_neg hx,glue_spl l (cur++[x]),List.append_assoc];rfl
theorem spl_glue {c:UInt8}:∀ (r:List (List UInt8)) (x:List UInt8),c∉x→(∀ y∈r,c∉y)→spl c [] (glue c (x::r))=x::r
 |[],x,hx,_=>by
  show spl c [] (x++[])=_
  rw [List.append_nil,spl_miss x [] hx];rfl
 |y::r,x,hx,h=>by
  have e:glue c (x::y::r)=x++c::glue c (y::r):=by simp [glue]
  rw [e,spl_hit x [] _ hx,spl_glue r y (h y (by simp)) (fun z hz=>h z (by simp [hz]))]
  rfl
def ySp:List UInt8:=[121,101,115]
def nSp:List UInt8:=[110,111]
def body (a:As_):List UInt8:=lastD a.QaO.toNat 16++wordY a.Qa1
def RgA (a:As_):Prop:=0≤a.QaO∧a.QaO< 18446744073709551616
def word2 (b:Bool):List UInt8:=if b=true then ySp else nSp
theorem body_eq (a:As_):body a=lastD a.QaO.toNat 16++32::word2 a.Qa1:=by
 unfold body wordY word2
 cases a.Qa1<;>rfl
theorem word2_no (b:Bool):(10:UInt8)∉word2 b∧(32:UInt8)∉word2 b:=by cases b<;>decide
theorem word2_yes (b:Bool):decide (word2 b=ySp)=b:=by cases b<;>decide
theorem word2_or (b:Bool):word2 b=ySp∨word2 b=nSp:=by cases b<;>decide
theorem body_no (a:As_):(10:UInt8)∉body a:=by
 rw [body_eq]
 intro h
 rcases List.mem_append.1 h with q|q
 ·exact (lastD_no _ _).1 q
 ·rcases List.mem_cons.1 q with q|q
  ·exact absurd q (by decide)
  ·exact (word2_no _).1 q
theorem line_body (a:As_):lineG a=body a++[10]:=rfl
theorem glue_lines:∀ (as':List As_) (x:List UInt8),glue 10 (x::(as'.map body++[[]]))=x++10::linesG as'
 |[],x=>by simp [glue,linesG]
 |a::r,x=>by
  have ih:=glue_lines r (body a)
  have e:glue 10 (x::((a::r).map body++[[]]))=x++10::glue 10 (body a::(r.map body++[[]])):=by simp [glue]
  rw [e,ih]
  simp [linesG,line_body]
def hd0 (G:Ga):List UInt8:=Lib.decDigits G.Qai.toNat++32::Lib.decDigits G.Qaq.toNat
theorem text_glue (G:Ga):textG G=glue 10 (hd0 G::(G.Qap.map body++[[]])):=by
 rw [glue_lines]
 simp [textG,headG,hd0]
theorem dec_no:∀ n:Nat,n< 61→(10:UInt8)∉dd 4 n∧(32:UInt8)∉dd 4 n:=by decide+kernel
theorem dig_no {n:Nat} (h:n< 61):(10:UInt8)∉Lib.decDigits n∧(32:UInt8)∉Lib.decDigits n:=by rw [dd5 (by omega)];exact dec_no n h
theorem hd0_no {G:Ga} (h1:G.Qai≤60) (h2:G.Qaq≤3):(10:UInt8)∉hd0 G:=by
 unfold hd0
 intro h
 rcases List.mem_append.1 h with q|q
 ·exact (dig_no (n:=G.Qai.toNat) (by omega)).1 q
 ·rcases List.mem_cons.1 q with q|q
  ·exact absurd q (by decide)
  ·exact (dig_no (n:=G.Qaq.toNat) (by omega)).1 q
theorem text_lines {G:Ga} (h1:G.Qai≤60) (h2:G.Qaq≤3):spl 10 [] (textG G)=hd0 G::(G.Qap.map body++[[]]):=by
 rw [text_glue,spl_glue _ _ (hd0_no h1 h2)]
 intro y hy
 rcases List.mem_append.1 hy with q|q
 ·obtain ⟨a,_,rfl⟩:=List.mem_map.1 q
  exact body_no a
 ·rw [List.mem_singleton.1 q];simp
theorem hd0_split {G:Ga} (h1:G.Qai≤60) (h2:G.Qaq≤3):spl 32 [] (hd0 G)=[Lib.decDigits G.Qai.toNat,Lib.decDigits G.Qaq.toNat]:=by
 have:=spl_glue (c:=32) [Lib.decDigits G.Qaq.toNat] (Lib.decDigits G.Qai.toNat) (dig_no (by omega)).2 (by intro y hy;rw [List.mem_singleton.1 hy];exact (dig_no (by omega)).2)
 rw [← this]
 simp [glue,hd0]
def spL (l:List UInt8):Option As_:=match spl 32 [] l with
 |[p,q]=>if (q=ySp∨q=nSp)∧allH p=true∧p.length=16 then some ⟨((hexv 0 p:Nat):Int),decide (q=ySp)⟩ else none
 |_=>none
def imL (l:List UInt8):As_:=⟨((hexv 0 (Lib.cut l [32]).1:Nat):Int),decide ((Lib.cut l [32]).2.1=ySp)⟩
theorem imL_rg (l:List UInt8):RgA (imL l):=by
 have:=hexv_lt (Lib.cut l [32]).1 0 (by decide)
 exact ⟨by show (0:Int)≤((hexv 0 (Lib.cut l [32]).1:Nat):Int);omega,by show ((hexv 0 (Lib.cut l [32]).1:Nat):Int)< _;omega⟩
theorem spL_ok {l:List UInt8} {a:As_} (h:spL l=some a):RgA a∧l=body a:=by
 unfold spL at h
 have hg:=glue_spl (c:=32) l []
 revert h hg
 generalize spl 32 [] l=L
 intro h hg
 match L,h,hg with
 |[p,q],h,hg=>
  simp only at h
  by_cases c:(q=ySp∨q=nSp)∧allH p=true∧p.length=16
  ·rw [if_pos c] at h
   obtain rfl:=QsJ h
   obtain ⟨c1,c2,c3⟩:=c
   obtain ⟨g1,g2⟩:=lastD_hexv 16 p c3 (by decide) c2
   have h16:(16:Nat)^16=18446744073709551616:=by decide
   rw [h16] at g2
   refine ⟨⟨by show (0:Int)≤((hexv 0 p:Nat):Int);omega,by show ((hexv 0 p:Nat):Int)< _;omega⟩,?_⟩
   rw [body_eq]
   show l=lastD (((hexv 0 p:Nat):Int)).toNat 16++32::word2 (decide (q=ySp))
   rw [Int.toNat_natCast,g1]
   have hw:word2 (decide (q=ySp))=q:=by
    rcases c1 with rfl|rfl<;>decide
   rw [hw]
   have:p++([q].map fun y=>32::y).flatten=[]++l:=hg
   simpa using this.symm
  ·rw [if_neg c] at h;cases h
 |[],h,_=>cases h
 |[_],h,_=>cases h
 |_::_::_::_,h,_=>cases h
theorem hexv16 {n:Nat} (h:n< 18446744073709551616):hexv 0 (lastD n 16)=n:=by
 rw [hexv_lastD 16 n (by decide),show (16:Nat)^16=18446744073709551616 by decide,Nat.mod_eq_of_lt h]
theorem ask_mk {a:As_} (h:RgA a):(⟨((a.QaO.toNat:Nat):Int),a.Qa1⟩:As_)=a:=by
 rw [Int.toNat_of_nonneg h.1]
theorem spL_body {a:As_} (h:RgA a):spL (body a)=some a:=by
 obtain ⟨h1,h2⟩:=h
 have e:spl 32 [] (body a)=[lastD a.QaO.toNat 16,word2 a.Qa1]:=by
  have:=spl_glue (c:=32) [word2 a.Qa1] (lastD a.QaO.toNat 16) (lastD_no _ _).2 (by intro y hy;rw [List.mem_singleton.1 hy];exact (word2_no _).2)
  rw [← this,body_eq]
  simp [glue]
 unfold spL
 rw [e]
 simp only
 rw [if_pos ⟨word2_or _,allH_lastD _ _,lastD_len _ _⟩,hexv16 (by omega),word2_yes]
 exact congrArg some (ask_mk ⟨h1,h2⟩)
theorem imL_body {a:As_} (h:RgA a):imL (body a)=a:=by
 obtain ⟨h1,h2⟩:=h
 unfold imL
 rw [body_eq,cut_hit (lastD_no _ _).2]
 simp only
 rw [hexv16 (by omega),word2_yes]
 exact ask_mk ⟨h1,h2⟩
structure Tx (G:Ga) (l:List UInt8):Prop where
 ok:okG G=true
 rg:∀ a∈G.Qap,RgA a
 eq:l=textG G
abbrev RW:=Qao×Int
def badG:RW:=(⟨0,0,[]⟩,5)
theorem lst_eq (w:ByteArray) (l:List UInt8):(w.toList=(⟨l.toArray⟩:ByteArray).toList)↔w.data.toList=l:=by
 rw [Lib.toList_data,Lib.toList_data]
theorem lst_beq (w:ByteArray) (l:List UInt8):(w.toList==(⟨l.toArray⟩:ByteArray).toList)=decide (w.data.toList=l):=by
 rw [Bool.eq_iff_iff,beq_iff_eq,decide_eq_true_eq,lst_eq]
theorem yes_lit:(⟨#[121,101,115]⟩:ByteArray)=⟨ySp.toArray⟩:=rfl
theorem no_lit:(⟨#[110,111]⟩:ByteArray)=⟨nSp.toArray⟩:=rfl
theorem QbR {N:Nat} {ws:List ByteArray} {n k:Int} {acc:List As_} {i:Nat} (hi:i+1< ws.length) (hi2:i+2< ws.length) (hl:ws.length≤1048577) (hz:(ws[i+1]).size≤1048576) (ha:acc.length≤1048577) (hN:3000000< N):
 QaE.b0 N ws n k acc ((i+1:Nat):Int)=match spL (ws[i+1]).data.toList with
  |some a=>some (.next (n,k,acc++[a],((i+2:Nat):Int)))
  |none=>some (.out (.ret badG)):=by
 have e32:(32:Int)=(((32:UInt8).toNat:Nat):Int):=rfl
 have hm:=Qbg (c:=32) ws[i+1]
 have hnext:i64w (((i+1:Nat):Int)+1)=((i+2:Nat):Int):=i64w_succ hi (by omega)
 have hlen:∀ p∈Lib.splitB ⟨#[32]⟩ 0 (Lib.countB ws[i+1] ⟨#[32]⟩) ws[i+1],p.size≤1048576:=fun p h=>Nat.le_trans (word_len h) hz
 unfold QaE.b0 spL
 rw [if_pos (by rw [i64w_id (by omega) (by omega)];omega),if_pos ⟨by omega,by omega⟩,rdL_nat hi,e32,split_spec hz (show ws[i+1].size< N by omega),Option.bind_some,← hm]
 revert hlen
 generalize Lib.splitB ⟨#[32]⟩ 0 (Lib.countB ws[i+1] ⟨#[32]⟩) ws[i+1]=r
 intro hlen
 match r,hlen with
 |[],_=>rw [if_neg (by simp)];rfl
 |[p],_=>rw [if_neg (by simp)];rfl
 |p::q::s::t,_=>rw [if_neg (by simp;omega)];rfl
 |[p,q],hlen=>
  have h1:(0:Int)≤1∧(1:Int)< (([p,q]:List ByteArray).length:Int):=⟨by omega,by simp⟩
  have h0:(0:Int)≤0∧(0:Int)< (([p,q]:List ByteArray).length:Int):=⟨by omega,by simp⟩
  have r1:rdL [p,q] 1 (⟨#[]⟩:ByteArray)=q:=rfl
  have r0:rdL [p,q] 0 (⟨#[]⟩:ByteArray)=p:=rfl
  have hj:∀ b:Bool,(q.data.toList=ySp∨q.data.toList=nSp)→QaE.j2 N [p,q] acc n k ((i+1:Nat):Int) b=if allH p.data.toList=true∧p.data.toList.length=16 then some (.next (n,k,acc++[(⟨((hexv 0 p.data.toList:Nat):Int),decide (q.data.toList=ySp)⟩:As_)],((i+2:Nat):Int))) else some (.out (.ret badG)):=by
   intro b hq
   have hp:=hlen p (by simp)
   unfold QaE.j2
   rw [if_pos h0,r0,unhex_eq hp (by omega),Option.bind_some]
   by_cases c1:allH p.data.toList=true
   ·rw [if_pos c1]
    by_cases c2:p.data.toList.length=16
    ·rw [if_pos (decide_eq_true c2),if_pos h1,r1,yes_lit,lst_beq,if_pos (by simp only [List.length_singleton];omega),if_pos ⟨c1,c2⟩,hnext]
    ·rw [if_neg (by simpa using c2),if_neg (fun g=>c2 g.2)];rfl
   ·rw [if_neg c1,if_neg Bool.false_ne_true,if_neg (fun g=>c1 g.1)];rfl
  rw [if_pos (by rfl),if_pos h1,r1,yes_lit,no_lit]
  show _=match (if (q.data.toList=ySp∨q.data.toList=nSp)∧allH p.data.toList=true∧p.data.toList.length=16 then some (⟨((hexv 0 p.data.toList:Nat):Int),decide (q.data.toList=ySp)⟩:As_) else none) with|some a=>_|none=>_
  by_cases c1:q.data.toList=ySp
  ·rw [if_pos ((lst_eq _ _).2 c1),hj _ (.inl c1)]
   by_cases c2:allH p.data.toList=true∧p.data.toList.length=16
   ·rw [if_pos c2,if_pos ⟨.inl c1,c2⟩]
   ·rw [if_neg c2,if_neg (fun g=>c2 g.2)]
  ·rw [if_neg (fun g=>c1 ((lst_eq _ _).1 g)),if_pos h1]
   by_cases c3:q.data.toList=nSp
   ·rw [if_pos ((lst_eq _ _).2 c3),hj _ (.inr c3)]
    by_cases c2:allH p.data.toList=true∧p.data.toList.length=16
    ·rw [if_pos c2,if_pos ⟨.inr c3,c2⟩]
    ·rw [if_neg c2,if_neg (fun g=>c2 g.2)]
   ·rw [if_neg (fun g=>c3 ((lst_eq _ _).1 g)),if_neg (fun g=>g.1.elim c1 c3)]
    rfl
def mids (ws:List ByteArray):List ByteArray:=(ws.drop 1).take (ws.length - 2)
theorem mids_get {ws:List ByteArray} {i:Nat} (hi:i< (mids ws).length) (hi1:i+1< ws.length):(mids ws)[i]=ws[i+1]:=by
 have h:(mids ws)[i]?=ws[i+1]?:=by
  unfold mids at hi ⊢
  rw [List.getElem?_take,List.getElem?_drop,Nat.add_comm 1 i]
  rw [List.length_take,List.length_drop] at hi
  rw [if_pos (by omega)]
 rw [List.getElem?_eq_getElem hi,List.getElem?_eq_getElem hi1] at h
 exact QsJ h
abbrev sgS (acc:List As_) (w:ByteArray):Ex (Ex RW (Int×Int×List As_)) (List As_):=match spL w.data.toList with
 |some a=> .go (acc++[a])
 |none=> .ret (.ret badG)
theorem QbP {N:Nat} {ws:List ByteArray} {n k:Int} (hw:∀ w∈ws,w.size≤1048576) (hl:ws.length≤1048577) (hN:3000000< N) (h2:2≤ws.length):rounds (fun s=>QaE.b0 N ws s.1 s.2.1 s.2.2.1 s.2.2.2) N (n,k,[],1)=some (walk sgS (fun acc=> .go (n,k,acc)) [] (mids ws)):=by
 have hd:(mids ws).length=ws.length - 2:=by unfold mids;rw [List.length_take,List.length_drop];omega
 have q:=rounds_walk0 (b:=fun s=>QaE.b0 N ws s.1 s.2.1 s.2.2.1 s.2.2.2) (N:=N) (acc:=([]:List As_)) (fun acc i=>(n,k,acc,i+1)) (mids ws) sgS (fun acc=> .go (n,k,acc)) (fun i acc=>acc.length=i) (by omega) rfl (by
  intro acc i hi hI
  have hi1:i+1< ws.length:=by omega
  have ew:(mids ws)[i]=ws[i+1]:=mids_get hi hi1
  have e0:=QbR (N:=N) (ws:=ws) (n:=n) (k:=k) (acc:=acc) (i:=i) hi1 (by omega) hl (hw _ (List.getElem_mem hi1)) (by omega) hN
  rw [ew]
  cases hh:spL (ws[i+1]).data.toList with
  |none=>
   rw [hh] at e0
   have e1:sgS acc ws[i+1]= .ret (.ret badG):=by unfold sgS;rw [hh]
   rw [e1];exact e0
  |some a=>
   rw [hh] at e0
   have e1:sgS acc ws[i+1]= .go (acc++[a]):=by unfold sgS;rw [hh]
   rw [e1]
   exact ⟨by rw [List.length_append,List.length_singleton,hI],e0⟩) (by
  intro acc _
  show QaE.b0 N ws n k acc (((mids ws).length:Int)+1)=_
  unfold QaE.b0
  rw [if_neg (by rw [i64w_id (by omega) (by omega)];omega)])
 exact q
theorem walk_sg (n k:Int):∀ (ls:List ByteArray) (acc:List As_),(walk sgS (fun acc=> .go (n,k,acc)) acc ls= .ret badG∧∃ w∈ls,spL w.data.toList=none)∨∃ as',walk sgS (fun acc=> .go (n,k,acc)) acc ls= .go (n,k,acc++as')∧ls.map (fun w=>spL w.data.toList)=as'.map some
 |[],acc=> .inr ⟨[],by rw [List.append_nil];rfl,rfl⟩
 |w::ls,acc=>by
  unfold walk
  cases hh:spL w.data.toList with
  |none=>
   have e1:sgS acc w= .ret (.ret badG):=by unfold sgS;rw [hh]
   rw [e1]
   exact .inl ⟨rfl,w,by simp,hh⟩
  |some a=>
   have e1:sgS acc w= .go (acc++[a]):=by unfold sgS;rw [hh]
   rw [e1]
   rcases walk_sg n k ls (acc++[a]) with ⟨h,w',hw',hn⟩|⟨as',h,hm⟩
   ·exact .inl ⟨h,w',by simp [hw'],hn⟩
   ·exact .inr ⟨a::as',by show walk sgS _ (acc++[a]) ls=_;rw [h,List.append_assoc];rfl,by rw [List.map_cons,hm,hh];rfl⟩
theorem spl_ne {c:UInt8}:∀ (l cur:List UInt8),spl c cur l≠[]
 |[],cur=>by simp [spl]
 |y::l,cur=>by
  unfold spl
  split
  ·simp
  ·exact spl_ne l _
theorem begin_eq (N:Nat) (n k:Int):QaZ.f N n k=some (decide (B60 n∧0≤k∧k≤3)):=by
 unfold QaZ.f Qbb.f B60
 by_cases c1:n≥1
 ·rw [if_pos c1,Option.bind_some]
  by_cases c2:n≤60
  ·rw [decide_eq_true c2,if_pos rfl]
   by_cases c3:k≥0
   ·rw [if_pos c3,Option.bind_some]
    refine congrArg some ?_
    rw [Bool.eq_iff_iff,decide_eq_true_eq,decide_eq_true_eq]
    omega
   ·rw [if_neg c3,Option.bind_some,decide_eq_false (by omega)]
  ·rw [decide_eq_false c2,if_neg Bool.false_ne_true,decide_eq_false (by omega)]
 ·rw [if_neg c1,Option.bind_some,if_neg Bool.false_ne_true,decide_eq_false (by omega)]
def Reads (l:List UInt8) (o:Option RW):Prop:=∃ r,o=some r∧(r=badG∨∃ G,r=(G,0)∧Tx G l)∧∀ G,Tx G l→r=(G,0)
theorem reads_bad {l:List UInt8} {o:Option RW} (e:o=some badG) (h:∀ G,Tx G l→False):Reads l o:=⟨badG,e, .inl rfl,fun G g=>(h G g).elim⟩
theorem Read_spec {N:Nat} {s:ByteArray} (hs:s.size≤1048576) (hN:4000000< N):Reads s.data.toList (QaE.f N s):=by
 have e10:(10:Int)=(((10:UInt8).toNat:Nat):Int):=rfl
 have e32:(32:Int)=(((32:UInt8).toNat:Nat):Int):=rfl
 have hm:=Qbg (c:=10) s
 have hw:∀ w∈Lib.splitB ⟨#[10]⟩ 0 (Lib.countB s ⟨#[10]⟩) s,w.size≤1048576:=fun w h=>Nat.le_trans (word_len h) hs
 have hl:(Lib.splitB ⟨#[10]⟩ 0 (Lib.countB s ⟨#[10]⟩) s).length≤1048577:=Nat.le_trans words_len (by omega)
 unfold QaE.f
 rw [e10,split_spec hs (show s.size< N by omega),Option.bind_some]
 revert hm hw hl
 generalize Lib.splitB ⟨#[10]⟩ 0 (Lib.countB s ⟨#[10]⟩) s=ws
 intro hm hw hl
 cases ws with
 |nil=>exact absurd hm.symm (spl_ne _ _)
 |cons w0 wr=>
 have hT0:∀ G,Tx G s.data.toList→w0.data.toList=hd0 G∧wr.map (·.data.toList)=G.Qap.map body++[[]]:=by
  intro G h
  obtain ⟨k1,k2,k3⟩:=okG_iff h.ok
  rw [h.eq,text_lines k1.2 k2.2,List.map_cons] at hm
  exact ⟨(List.cons.inj hm).1,(List.cons.inj hm).2⟩
 have hlen:((w0::wr).length:Int)=(wr.length:Int)+1:=by simp
 have hl':wr.length≤1048576:=by simp at hl;omega
 have hi:i64w (((w0::wr).length:Int) - 1)=(wr.length:Int):=by rw [hlen,i64w_id (by omega) (by omega)];omega
 have r0:rdL (w0::wr) 0 (⟨#[]⟩:ByteArray)=w0:=rfl
 have z0:=hw w0 (by simp)
 rw [if_pos ⟨by omega,by omega⟩,r0,e32,split_spec z0 (show w0.size< N by omega),Option.bind_some,hi]
 by_cases c1:wr=[]
 ·subst c1
  rw [if_pos (by decide)]
  refine reads_bad rfl fun G h=>?_
  have:=(hT0 G h).2
  simp at this
 obtain ⟨mi,lst,rfl⟩:∃ mi lst,wr=mi++[lst]:=⟨wr.dropLast,wr.getLast c1,(List.dropLast_concat_getLast _).symm⟩
 have hT1:∀ G,Tx G s.data.toList→mi.map (·.data.toList)=G.Qap.map body∧lst.data.toList=[]:=by
  intro G h
  have:=(hT0 G h).2
  rw [List.map_append,List.map_singleton] at this
  obtain ⟨g1,g2⟩:=List.append_inj' this rfl
  exact ⟨g1,(List.cons.inj g2).1⟩
 have hml:((mi++[lst]).length:Int)=(mi.length:Int)+1:=by simp
 rw [hml,if_neg (by omega)]
 by_cases c2:(mi.length:Int)+1>61
 ·rw [if_pos c2]
  refine reads_bad rfl fun G h=>?_
  have g1:=congrArg List.length (hT1 G h).1
  rw [List.length_map,List.length_map] at g1
  have:=(okG_iff h.ok).len
  omega
 have rl:rdL (w0::(mi++[lst])) ((mi.length:Int)+1) (⟨#[]⟩:ByteArray)=lst:=by
  have:rdL (w0::(mi++[lst])) ((mi.length+1:Nat):Int) (⟨#[]⟩:ByteArray)=(w0::(mi++[lst]))[mi.length+1]'(by simp):=rdL_nat _
  rw [show (mi.length:Int)+1=((mi.length+1:Nat):Int) by omega,this]
  simp
 rw [if_neg c2,if_pos ⟨by omega,by rw [hlen,hml];omega⟩,rl]
 by_cases c3:lst.data.toList=[]
 case neg=>
  rw [if_neg (fun g=>c3 ((lst_eq lst []).1 g))]
  exact reads_bad rfl fun G h=>c3 (hT1 G h).2
 rw [if_pos ((lst_eq lst []).2 c3)]
 have hm8:=Qbg (c:=32) w0
 have hT2:∀ G,Tx G s.data.toList→(Lib.splitB ⟨#[32]⟩ 0 (Lib.countB w0 ⟨#[32]⟩) w0).map (·.data.toList)=[Lib.decDigits G.Qai.toNat,Lib.decDigits G.Qaq.toNat]:=by
  intro G h
  obtain ⟨k1,k2,k3⟩:=okG_iff h.ok
  rw [hm8,(hT0 G h).1,hd0_split k1.2 k2.2]
 have hz8:∀ p∈Lib.splitB ⟨#[32]⟩ 0 (Lib.countB w0 ⟨#[32]⟩) w0,p.size≤1048576:=fun p h=>Nat.le_trans (word_len h) z0
 revert hm8 hT2 hz8
 generalize Lib.splitB ⟨#[32]⟩ 0 (Lib.countB w0 ⟨#[32]⟩) w0=r8
 intro hm8 hT2 hz8
 by_cases c4:r8.length=2
 case neg=>
  rw [if_neg (by omega)]
  refine reads_bad rfl fun G h=>c4 ?_
  have:=congrArg List.length (hT2 G h)
  rw [List.length_map] at this
  exact this
 obtain ⟨p,q,rfl⟩:∃ p q,r8=[p,q]:=by
  match r8,c4 with
  |[p,q],_=>exact ⟨p,q,rfl⟩
 have h1:(0:Int)≤1∧(1:Int)< (([p,q]:List ByteArray).length:Int):=⟨by omega,by simp⟩
 have h0:(0:Int)≤0∧(0:Int)< (([p,q]:List ByteArray).length:Int):=⟨by omega,by simp⟩
 have q1:rdL [p,q] 1 (⟨#[]⟩:ByteArray)=q:=rfl
 have q0:rdL [p,q] 0 (⟨#[]⟩:ByteArray)=p:=rfl
 have hT3:∀ G,Tx G s.data.toList→nuS p.data.toList=(G.Qai,true)∧nuS q.data.toList=(G.Qaq,true):=by
  intro G h
  obtain ⟨k1,k2,k3⟩:=okG_iff h.ok
  have e:=hT2 G h
  have e1:p.data.toList=Lib.decDigits G.Qai.toNat:=(List.cons.inj e).1
  have e2:q.data.toList=Lib.decDigits G.Qaq.toNat:=(List.cons.inj (List.cons.inj e).2).1
  have b:=k1.2
  have b':=k1.1
  rw [e1,e2,nuS_lit (by omega),nuS_lit (by omega),Int.toNat_of_nonneg (by omega),Int.toNat_of_nonneg k2.1]
  exact ⟨rfl,rfl⟩
 rw [if_pos (by rfl),if_pos h0,q0,number_spec (by omega),Option.bind_some,if_pos h1,q1,number_spec (by omega),Option.bind_some]
 by_cases c5:(nuS p.data.toList).2=true
 case neg=>
  rw [if_neg c5]
  exact reads_bad rfl fun G h=>c5 (by rw [(hT3 G h).1])
 by_cases c6:(nuS q.data.toList).2=true
 case neg=>
  rw [if_pos c5,if_neg c6]
  exact reads_bad rfl fun G h=>c6 (by rw [(hT3 G h).2])
 rw [if_pos c5,if_pos c6,begin_eq,Option.bind_some]
 by_cases c7:B60 (nuS p.data.toList).1∧0≤(nuS q.data.toList).1∧(nuS q.data.toList).1≤3
 case neg=>
  rw [if_neg (by simpa using c7)]
  refine reads_bad rfl fun G h=>c7 ?_
  obtain ⟨k1,k2,k3⟩:=okG_iff h.ok
  rw [(hT3 G h).1,(hT3 G h).2]
  exact ⟨k1,k2⟩
 rw [if_pos (decide_eq_true c7)]
 obtain ⟨n,hn⟩:∃ n,n=(nuS p.data.toList).1:=⟨_,rfl⟩
 obtain ⟨k,hk⟩:∃ k,k=(nuS q.data.toList).1:=⟨_,rfl⟩
 rw [← hn,← hk] at c7
 have b1:=c7.1.1
 have b2:=c7.1.2
 have hmid:mids (w0::(mi++[lst]))=mi:=by
  unfold mids
  rw [List.drop_one,List.tail_cons,show (w0::(mi++[lst])).length - 2=mi.length by simp,List.take_left]
 rw [← hn,← hk,i8w_id (by omega) (by omega),i8w_id (by omega) (by omega),QbP hw hl (by omega) (by simp),Option.bind_some,hmid]
 rcases walk_sg n k mi [] with ⟨h,w,hw',hnone⟩|⟨as',h,hmap⟩
 ·rw [h]
  refine reads_bad rfl fun G g=>?_
  have:w.data.toList∈mi.map (·.data.toList):=List.mem_map.2 ⟨w,hw',rfl⟩
  rw [(hT1 G g).1] at this
  obtain ⟨a,ha,ea⟩:=List.mem_map.1 this
  rw [← ea,spL_body (g.rg a ha)] at hnone
  cases hnone
 ·rw [h]
  show Reads _ (QaE.a0 N n k ([]++as'))
  rw [List.nil_append]
  unfold QaE.a0
  have hG:InG (⟨n,k,as'⟩:Ga):=⟨⟨by show -128≤n;omega,by show n≤127;omega⟩,⟨by show -128≤k;omega,by show k≤127;omega⟩⟩
  rw [okG_spec hG (by omega),Option.bind_some]
  have hall:mi.map (·.data.toList)=as'.map body∧∀ a∈as',RgA a:=by
   have:∀ (mi:List ByteArray) (as':List As_),mi.map (fun w=>spL w.data.toList)=as'.map some→mi.map (·.data.toList)=as'.map body∧∀ a∈as',RgA a:=by
    intro mi
    induction mi with
    |nil=>
     intro as' h
     cases as' with
     |nil=>exact ⟨rfl,by simp⟩
     |cons a r=>simp at h
    |cons w mi ih=>
     intro as' h
     cases as' with
     |nil=>simp at h
     |cons a r=>
      rw [List.map_cons,List.map_cons] at h
      obtain ⟨g1,g2⟩:=List.cons.inj h
      obtain ⟨i1,i2⟩:=ih r g2
      obtain ⟨j1,j2⟩:=spL_ok g1
      refine ⟨by rw [List.map_cons,List.map_cons,i1,j2],fun x hx=>?_⟩
      rcases List.mem_cons.1 hx with rfl|hx
      ·exact j1
      ·exact i2 x hx
   exact this mi as' hmap
  have hTn:∀ G,Tx G s.data.toList→G=(⟨n,k,as'⟩:Ga):=by
   intro G g
   have e1:=(hT3 G g).1
   have e2:=(hT3 G g).2
   have en:G.Qai=n:=by rw [hn,e1]
   have ek:G.Qaq=k:=by rw [hk,e2]
   have ea:G.Qap=as':=by
    have e3:G.Qap.map body=as'.map body:=(hT1 G g).1.symm.trans hall.1
    have:∀ (x y:List As_),(∀ a∈x,RgA a)→(∀ a∈y,RgA a)→x.map body=y.map body→x=y:=by
     intro x
     induction x with
     |nil=>intro y _ _ h;cases y with
      |nil=>rfl
      |cons b y=>simp at h
     |cons a x ih=>
      intro y hx hy h
      cases y with
      |nil=>simp at h
      |cons b y=>
       rw [List.map_cons,List.map_cons] at h
       obtain ⟨g1,g2⟩:=List.cons.inj h
       have j1:=imL_body (hx a (by simp))
       rw [g1,imL_body (hy b (by simp))] at j1
       rw [j1,ih y (fun a ha=>hx a (by simp [ha])) (fun a ha=>hy a (by simp [ha])) g2]
    exact this _ _ g.rg hall.2 e3
   rw [← G_eta G,en,ek,ea]
  by_cases c8:okG (⟨n,k,as'⟩:Ga)=true
  ·rw [if_pos c8]
   refine ⟨_,rfl, .inr ⟨_,rfl,c8,hall.2,?_⟩,fun G g=>by rw [hTn G g]⟩
   have e0:s.data.toList=glue 10 ((w0::(mi++[lst])).map (·.data.toList)):=by rw [hm,glue_spl];rfl
   obtain ⟨np,hp1,hp2⟩:=nuS_ok c5
   obtain ⟨nq,hq1,hq2⟩:=nuS_ok c6
   have ew0:w0.data.toList=hd0 (⟨n,k,as'⟩:Ga):=by
    have e4:=glue_spl (c:=32) w0.data.toList []
    rw [← hm8] at e4
    have e5:w0.data.toList=p.data.toList++32::q.data.toList:=by
     rw [List.nil_append] at e4
     rw [← e4];simp [glue]
    rw [e5,← hp2,← hq2]
    show _=Lib.decDigits n.toNat++32::Lib.decDigits k.toNat
    rw [hn,hk,hp1,hq1,Int.toNat_natCast,Int.toNat_natCast]
   rw [e0,text_glue,List.map_cons,ew0,List.map_append,hall.1,List.map_singleton,c3]
  ·rw [if_neg c8]
   exact reads_bad rfl fun G g=>c8 (by rw [← hTn G g];exact g.ok)
theorem cut_len (l:List UInt8):(Lib.cut l [32]).1.length≤l.length∧(Lib.cut l [32]).2.1.length≤l.length:=by
 unfold Lib.cut
 split
 ·simp only [List.length_take,List.length_drop];omega
 ·simp
theorem cut_eq {N:Nat} {w:ByteArray} (hz:w.size≤1048576):strings_Cut.f N w ⟨#[32]⟩=some (⟨(Lib.cut w.data.toList [32]).1.toArray⟩,⟨(Lib.cut w.data.toList [32]).2.1.toArray⟩,(Lib.cut w.data.toList [32]).2.2):=by
 unfold strings_Cut.f
 rw [if_pos (by omega)]
theorem cut_sizes {w:ByteArray} (hz:w.size≤1048576):(⟨(Lib.cut w.data.toList [32]).1.toArray⟩:ByteArray).size≤1048576∧(⟨(Lib.cut w.data.toList [32]).2.1.toArray⟩:ByteArray).size≤1048576:=by
 have h:=cut_len w.data.toList
 rw [← sz] at h
 rw [ba_size,ba_size]
 omega
def imA (w:ByteArray):As_:=imL w.data.toList
def lsI (wr:List ByteArray):List ByteArray:=wr.take (min (wr.length - 1) 61)
theorem QbO {N:Nat} {w0:ByteArray} {wr:List ByteArray} {n k:Int} (hw:∀ w∈wr,w.size≤1048576) (hl:wr.length≤1048576) (hN:3000000< N):rounds (fun s=>QaH.b0 N (w0::wr) s.1 s.2.1 s.2.2.1 s.2.2.2) N (n,k,[],1)=some (.go (n,k,(lsI wr).map imA)):=by
 have hd:(lsI wr).length=min (wr.length - 1) 61:=by unfold lsI;rw [List.length_take];omega
 have hlen:((w0::wr).length:Int)=(wr.length:Int)+1:=by simp
 have hi:i64w (((w0::wr).length:Int) - 1)=(wr.length:Int):=by rw [hlen,i64w_id (by omega) (by omega)];omega
 have q:=rounds_for (b:=fun s=>QaH.b0 N (w0::wr) s.1 s.2.1 s.2.2.1 s.2.2.2) (e:= .go (n,k,(lsI wr).map imA)) (fun j=>(n,k,((lsI wr).take j).map imA,(j:Int)+1)) (lsI wr).length 0 N (Nat.zero_le _) (by omega) (by
  intro i _ h
  have hw1:i< wr.length:=by omega
  have eg:rdL (w0::wr) ((i:Int)+1) (⟨#[]⟩:ByteArray)=wr[i]:=by
   have:rdL (w0::wr) ((i+1:Nat):Int) (⟨#[]⟩:ByteArray)=(w0::wr)[i+1]'(by simp;omega):=rdL_nat _
   rw [show (i:Int)+1=((i+1:Nat):Int) by omega,this]
   simp
  have hz:=hw _ (List.getElem_mem hw1)
  obtain ⟨z1,z2⟩:=cut_sizes hz
  have ex:(lsI wr)[i]=wr[i]:=by
   have h':(lsI wr)[i]?=wr[i]?:=by
    unfold lsI at h ⊢
    rw [List.length_take] at h
    rw [List.getElem?_take,if_pos (by omega)]
   rw [List.getElem?_eq_getElem h,List.getElem?_eq_getElem hw1] at h'
   exact QsJ h'
  show QaH.b0 N (w0::wr) n k (((lsI wr).take i).map imA) ((i:Int)+1)=some (.next (n,k,((lsI wr).take (i+1)).map imA,((i+1:Nat):Int)+1))
  unfold QaH.b0
  rw [hi,if_pos (by omega),if_pos (by omega),if_pos ⟨by omega,by omega⟩,eg,cut_eq hz,Option.bind_some]
  simp only
  rw [hexOf_eq z1 (by omega),Option.bind_some,yes_lit,lst_beq,if_pos (by rw [List.length_map,List.length_take,List.length_singleton];omega),List.take_succ_eq_append_getElem h,List.map_append,List.map_singleton,ex,i64w_id (by omega) (by omega)]
  rfl) (by
  show QaH.b0 N (w0::wr) n k (((lsI wr).take (lsI wr).length).map imA) (((lsI wr).length:Int)+1)=_
  unfold QaH.b0
  rw [hi,List.take_length]
  by_cases c:((lsI wr).length:Int)+1< (wr.length:Int)
  ·rw [if_pos c,if_neg (by omega)]
  ·rw [if_neg c])
 exact q
theorem text_ne {G:Ga} (h:okG G=true):textG G≠[]:=by
 obtain ⟨k1,k2,k3⟩:=okG_iff h
 intro e
 have:=text_lines k1.2 k2.2
 rw [e] at this
 have:=congrArg List.length this
 simp [spl] at this
theorem nuI_rg (most:Int) (hm:0≤most) (l:List UInt8):0≤(nuI most l).1∧(nuI most l).1≤most:=by
 by_cases c:(nuI most l).2=true
 ·exact (nuI_ok c).1
 ·unfold nuI at c ⊢
  split at c<;>rename_i c1
  ·rw [if_pos c1];exact ⟨Int.le_refl _,hm⟩
  ·rw [if_neg c1]
   split at c<;>rename_i c2
   ·rw [if_pos c2]
    split at c<;>rename_i c3
    ·rw [if_pos c3]
     split at c<;>rename_i c4
     ·exact absurd rfl c
     ·rw [if_neg c4];exact ⟨Int.le_refl _,hm⟩
    ·rw [if_neg c3];exact ⟨Int.le_refl _,hm⟩
   ·rw [if_neg c2];exact ⟨Int.le_refl _,hm⟩
theorem Read_impl {N:Nat} {s:ByteArray} (hs:s.size≤1048576) (hN:4000000< N):Reads s.data.toList (QaH.f N s):=by
 have hm:=Qbg (c:=10) s
 have hw:∀ w∈Lib.splitB ⟨#[10]⟩ 0 (Lib.countB s ⟨#[10]⟩) s,w.size≤1048576:=fun w h=>Nat.le_trans (word_len h) hs
 have hl:(Lib.splitB ⟨#[10]⟩ 0 (Lib.countB s ⟨#[10]⟩) s).length≤1048577:=Nat.le_trans words_len (by omega)
 unfold QaH.f
 rw [split_impl hs,Option.bind_some]
 revert hm hw hl
 generalize Lib.splitB ⟨#[10]⟩ 0 (Lib.countB s ⟨#[10]⟩) s=ws
 intro hm hw hl
 cases ws with
 |nil=>exact absurd hm.symm (spl_ne _ _)
 |cons w0 wr=>
 have hT0:∀ G,Tx G s.data.toList→w0.data.toList=hd0 G∧wr.map (·.data.toList)=G.Qap.map body++[[]]:=by
  intro G h
  obtain ⟨k1,k2,k3⟩:=okG_iff h.ok
  rw [h.eq,text_lines k1.2 k2.2,List.map_cons] at hm
  exact ⟨(List.cons.inj hm).1,(List.cons.inj hm).2⟩
 have hlen:((w0::wr).length:Int)=(wr.length:Int)+1:=by simp
 have hl':wr.length≤1048576:=by simp at hl;omega
 have r0:rdL (w0::wr) 0 (⟨#[]⟩:ByteArray)=w0:=rfl
 have z0:=hw w0 (by simp)
 obtain ⟨z1,z2⟩:=cut_sizes z0
 rw [if_pos ⟨by omega,by omega⟩,r0,cut_eq z0,Option.bind_some]
 simp only
 rw [number_impl N z1,Option.bind_some,number_impl N z2,Option.bind_some]
 obtain ⟨n,hn⟩:∃ n,n=(nuI 60 (Lib.cut w0.data.toList [32]).1).1:=⟨_,rfl⟩
 obtain ⟨k,hk⟩:∃ k,k=(nuI 3 (Lib.cut w0.data.toList [32]).2.1).1:=⟨_,rfl⟩
 have b1:=nuI_rg 60 (by decide) (Lib.cut w0.data.toList [32]).1
 have b2:=nuI_rg 3 (by decide) (Lib.cut w0.data.toList [32]).2.1
 rw [← hn] at b1
 rw [← hk] at b2
 show Reads _ ((rounds (fun s=>QaH.b0 N (w0::wr) s.1 s.2.1 s.2.2.1 s.2.2.2) N (i8w (nuI 60 (Lib.cut w0.data.toList [32]).1).1,i8w (nuI 3 (Lib.cut w0.data.toList [32]).2.1).1,[],1)).bind _)
 rw [← hn,← hk,i8w_id (by omega) (by omega),i8w_id (by omega) (by omega),QbO (fun w h=>hw w (by simp [h])) hl' (by omega),Option.bind_some]
 show Reads _ (QaH.a0 N s n k ((lsI wr).map imA))
 have hT:∀ G,Tx G s.data.toList→G=(⟨n,k,(lsI wr).map imA⟩:Ga):=by
  intro G h
  obtain ⟨k1,k2,k3⟩:=okG_iff h.ok
  have c1:=k1.1
  have c2:=k1.2
  obtain ⟨e1,e2⟩:=hT0 G h
  have ec:Lib.cut w0.data.toList [32]=(Lib.decDigits G.Qai.toNat,Lib.decDigits G.Qaq.toNat,true):=by
   rw [e1];exact cut_hit (dig_no (by omega)).2
  have en:G.Qai=n:=by
   rw [hn,ec]
   simp only
   rw [nuI_lit (by decide) (by omega),Int.toNat_of_nonneg (by omega)]
  have ek:G.Qaq=k:=by
   rw [hk,ec]
   simp only
   rw [nuI_lit (by decide) (by omega),Int.toNat_of_nonneg (by omega)]
  have el:=congrArg List.length e2
  rw [List.length_map,List.length_append,List.length_map,List.length_singleton] at el
  have ea:G.Qap=(lsI wr).map imA:=by
   unfold lsI imA
   rw [show (fun w:ByteArray=>imL w.data.toList)=imL∘(fun w:ByteArray=>w.data.toList) from rfl,← List.map_map,List.map_take,e2,show min (wr.length - 1) 61=(G.Qap.map body).length by rw [List.length_map];omega,List.take_left,List.map_map]
   have:∀ x:List As_,(∀ a∈x,RgA a)→x=x.map (imL∘body):=by
    intro x
    induction x with
    |nil=>intro _;rfl
    |cons a x ih=>intro hx;rw [List.map_cons,← ih fun b hb=>hx b (by simp [hb])];exact congrArg (· ::x) (imL_body (hx a (by simp))).symm
   exact this _ h.rg
  rw [← G_eta G,en,ek,ea]
 have hG:InG (⟨n,k,(lsI wr).map imA⟩:Ga):=⟨⟨by show -128≤n;omega,by show n≤127;omega⟩,⟨by show -128≤k;omega,by show k≤127;omega⟩⟩
 have hR:∀ a∈(lsI wr).map imA,RgA a:=by
  intro a ha
  obtain ⟨w,_,rfl⟩:=List.mem_map.1 ha
  exact imL_rg _
 generalize (lsI wr).map imA=as' at hT hG hR ⊢
 unfold QaH.a0
 by_cases c0:s.data.toList=[]
 ·rw [if_pos ((lst_eq s []).2 c0)]
  exact reads_bad rfl fun G g=>text_ne g.ok (g.eq.symm.trans c0)
 rw [if_neg (fun g=>c0 ((lst_eq s []).1 g))]
 have e2:QaW.f N (⟨n,k,as'⟩:Qao)=some (okG ⟨n,k,as'⟩):=okG_impl hG (by omega)
 by_cases c1:okG (⟨n,k,as'⟩:Ga)=true
 ·obtain ⟨k1,k2,k3⟩:=okG_iff c1
  rw [text_impl (by rw [c1] at e2;exact e2) k3 k1 k2 hR (by omega),Option.bind_some]
  by_cases c2:textG (⟨n,k,as'⟩:Ga)=s.data.toList
  ·rw [if_pos (by rw [Lib.toList_data,Lib.toList_data];exact c2)]
   exact ⟨_,rfl, .inr ⟨_,rfl,c1,hR,c2.symm⟩,fun G g=>by rw [hT G g]⟩
  ·rw [if_neg (by rw [Lib.toList_data,Lib.toList_data];exact c2)]
   exact reads_bad rfl fun G g=>c2 (by rw [← hT G g];exact g.eq.symm)
 ·have e3:QaG.f N (⟨n,k,as'⟩:Qao)=some (⟨#[]⟩:ByteArray):=by
   unfold QaG.f
   rw [e2,Option.bind_some,if_neg c1]
  rw [e3,Option.bind_some,if_neg (by rw [Lib.toList_data,Lib.toList_data];exact fun g=>c0 g.symm)]
  exact reads_bad rfl fun G g=>c1 (by rw [← hT G g];exact g.ok)
theorem Reads.same {l:List UInt8} {o o':Option RW} (h:Reads l o) (h':Reads l o'):o=o'∧∃ r,o=some r∧(r=badG∨∃ G,r=(G,0)∧Tx G l):=by
 obtain ⟨r,rfl,h1,h2⟩:=h
 obtain ⟨r',rfl,h1',h2'⟩:=h'
 refine ⟨?_,r,rfl,h1⟩
 rcases h1 with rfl|⟨G,rfl,hG⟩
 ·rcases h1' with rfl|⟨G,rfl,hG⟩
  ·rfl
  ·rw [h2 G hG]
 ·rw [h2' G hG]
end Go.Proofs.YtljkpeeabpdalaaDoorX
