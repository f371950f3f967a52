import Derived.KernelRfl
import Derived.Test.YtljkpeeabpdalaaDoorP11
namespace Go.Proofs.YtljkpeeabpdalaaDoorX
open Go
set_option linter.unusedVariables false
set_option linter.unusedSimpArgs false
abbrev Ga:=Qar
abbrev As_:=Qas
theorem G_eta (G:Ga):(⟨G.Qac,G.Qak,G.Qaf⟩:Ga)=G:=rfl
theorem L_eta (G:QaI):(⟨G.Qac,G.Qak,G.Qaf⟩:QaI)=G:=rfl
def idx (n:Nat):List Int:=(List.range n).map fun (i:Nat)=>(i:Int)
theorem rounds_any {α ρ:Type} {b:Int→Option (Bd ρ Unit Int)} (a:List α) (p:α→Bool) (r:Nat→ρ) {N:Nat} (hN:a.length< N)
 (h:∀ i (hi:i< a.length),b (i:Int)=if p a[i]=true then some (.out (.ret (r i))) else some (.next ((i+1:Nat):Int)))
 (he:b (a.length:Int)=some (.out (.go ()))):∃ e,rounds b N 0=some e∧(if a.any p=true then ∃ i,e= .ret (r i) else e= .go ()):=by
 have main:∀ (n k:Nat),k≤a.length→a.length - k< n→∃ e,rounds b n (k:Int)=some e∧(if (a.drop k).any p=true then ∃ i,e= .ret (r i) else e= .go ()):=by
  intro n
  induction n with
  |zero=>intro k _ hk;omega
  |succ n ih=>
   intro k hk hn
   by_cases hl:k< a.length
   ·have hb:=h k hl
    by_cases hp:p a[k]=true
    ·rw [if_pos hp] at hb
     have e1:(a.drop k).any p=true:=by rw [List.drop_eq_getElem_cons hl,List.any_cons,hp];rfl
     exact ⟨_,rounds_out hb,by rw [if_pos e1];exact ⟨_,rfl⟩⟩
    ·rw [if_neg hp] at hb
     obtain ⟨e,h1,h2⟩:=ih (k+1) hl (by omega)
     have e1:(a.drop k).any p=(a.drop (k+1)).any p:=by rw [List.drop_eq_getElem_cons hl,List.any_cons,(Bool.not_eq_true _).mp hp,Bool.false_or]
     exact ⟨e,(rounds_next hb).trans h1,by rw [e1];exact h2⟩
   ·obtain rfl:k=a.length:=by omega
    exact ⟨_,rounds_out he,by simp⟩
 exact main N 0 (Nat.zero_le _) (by omega)
def allN (n:Int):Int:=2^n.toNat - 1
theorem full_tab:∀ n:Nat,n< 61→1≤n→Qa4.f 0 (n:Int)=some ((2:Int)^n - 1)∧(if (0:Int)≤(n:Int) then (some (u64w ((shlI .u64 1 (n:Int)) - 1))) else none)=some ((2:Int)^n - 1):=by decide+kernel
def B60 (n:Int):Prop:=1≤n∧n≤60
instance (n:Int):Decidable (B60 n):=by unfold B60;infer_instance
theorem full_spec (N:Nat) {n:Int} (h:B60 n):Qa4.f N n=some (allN n):=by
 have:=(full_tab n.toNat (by have:=h.2;omega) (by have:=h.1;omega)).1
 rwa [Int.toNat_of_nonneg (by have:=h.1;omega)] at this
theorem full_impl (N:Nat) {G:Ga} (h:B60 G.Qac):Qa1.f N G=some (allN G.Qac):=by
 have:=(full_tab G.Qac.toNat (by have:=h.2;omega) (by have:=h.1;omega)).2
 rwa [Int.toNat_of_nonneg (by have:=h.1;omega)] at this
def bad (n:Int) (a:As_):Bool:=!(bAndNot .u64 a.QaE (allN n)==0)
def okG (G:Ga):Bool:=decide (B60 G.Qac)&&(decide (0≤G.Qak∧G.Qak≤3)&&(decide (G.Qaf.length≤60)&&!(G.Qaf.any (bad G.Qac))))
structure OkG (G:Ga):Prop where
 n60:B60 G.Qac
 l3:0≤G.Qak∧G.Qak≤3
 len:G.Qaf.length≤60
theorem okG_iff {G:Ga} (h:okG G=true):OkG G:=by
 unfold okG at h
 simp only [Bool.and_eq_true,decide_eq_true_eq] at h
 exact ⟨h.1,h.2.1,h.2.2.1⟩
def InG (G:Ga):Prop:=(-128≤G.Qac∧G.Qac≤127)∧(-128≤G.Qak∧G.Qak≤127)
theorem okG_spec {N:Nat} {G:Ga} (hG:InG G) (hN:70< N):QaO.f N G=some (okG G):=by
 obtain ⟨h1,h2⟩:=hG
 unfold QaO.f Qa5.f Qa9.f okG
 rw [i64w_id (by omega) (by omega),i64w_id (by omega) (by omega)]
 by_cases c1:B60 G.Qac
 ·rw [if_pos c1.1]
  simp only [Option.bind_some,decide_eq_true c1.2,if_true,decide_eq_true c1,Bool.true_and]
  by_cases c2:0≤G.Qak∧G.Qak≤3
  ·rw [if_pos c2.1]
   simp only [Option.bind_some,decide_eq_true c2.2,if_true,decide_eq_true c2,Bool.true_and]
   by_cases c3:G.Qaf.length≤60
   ·rw [if_neg (by omega)]
    simp only [decide_eq_true c3,Bool.true_and]
    obtain ⟨e,he,hq⟩:=rounds_any (b:=fun s=>QaO.b0 N G s) G.Qaf (bad G.Qac) (fun _=>false) (N:=N) (by omega) (by
     intro i hi
     have g1:(i:Int)< G.Qaf.length:=by omega
     have g2:(0:Int)≤i:=by omega
     simp only [QaO.b0,g1,g2,and_self,if_true,rdL_nat hi,i64w_succ hi (show G.Qaf.length≤9223372036854775807 by omega),i64w_id (x:=G.Qac) (by omega) (by omega),full_spec N c1,Option.bind_some,bad]
     by_cases c4:bAndNot .u64 G.Qaf[i].QaE (allN G.Qac)=0
     ·simp [c4]
     ·simp [c4]) (by
     simp only [QaO.b0]
     rw [if_neg (by omega)])
    rw [he]
    by_cases c4:G.Qaf.any (bad G.Qac)=true
    ·rw [if_pos c4] at hq
     obtain ⟨i,rfl⟩:=hq
     simp only [Option.bind_some,Ex.fin,c4,Bool.not_true]
    ·rw [if_neg c4] at hq
     subst hq
     rw [Bool.not_eq_true] at c4
     simp only [Option.bind_some,Ex.fin,c4,Bool.not_false,QaO.a0]
   ·rw [if_pos (by omega)]
    simp [c3]
  ·simp only [decide_eq_false c2,Bool.false_and]
   by_cases c3:G.Qak≥0
   ·rw [if_pos c3]
    have:¬ G.Qak≤3:=fun h=>c2 ⟨c3,h⟩
    simp [this]
   ·rw [if_neg c3];rfl
 ·simp only [decide_eq_false c1,Bool.false_and]
  by_cases c3:G.Qac≥1
  ·rw [if_pos c3]
   have:¬ G.Qac≤60:=fun h=>c1 ⟨c3,h⟩
   simp [this]
  ·rw [if_neg c3];rfl
theorem okG_impl {N:Nat} {G:Ga} (hG:InG G) (hN:70< N):QaQ.f N G=some (okG G):=by
 obtain ⟨h1,h2⟩:=hG
 unfold QaQ.f Qbb.f Qa3.f okG
 rw [i64w_id (by omega) (by omega),i64w_id (by omega) (by omega)]
 by_cases c1:B60 G.Qac
 ·rw [if_pos c1.1]
  simp only [Option.bind_some,decide_eq_true c1.2,if_true,decide_eq_true c1,Bool.true_and]
  by_cases c2:0≤G.Qak∧G.Qak≤3
  ·rw [if_pos c2.1]
   simp only [Option.bind_some,decide_eq_true c2.2,if_true,decide_eq_true c2,Bool.true_and]
   by_cases c3:G.Qaf.length≤60
   ·rw [if_pos (by omega)]
    simp only [decide_eq_true c3,Bool.true_and]
    obtain ⟨e,he,hq⟩:=rounds_any (b:=fun s=>Qah.b0 N G.Qaf G s) G.Qaf (bad G.Qac) (fun i=>(i:Int)) (N:=N) (by omega) (by
     intro i hi
     have g1:(i:Int)< G.Qaf.length:=by omega
     have g2:(0:Int)≤i:=by omega
     simp only [Qah.b0,QaW.f,g1,g2,and_self,if_true,rdL_nat hi,i64w_succ hi (show G.Qaf.length≤9223372036854775807 by omega),G_eta,full_impl N c1,Option.bind_some,bad]
     by_cases c4:bAndNot .u64 G.Qaf[i].QaE (allN G.Qac)=0
     ·simp [c4]
     ·simp [c4]) (by
     simp only [Qah.b0]
     rw [if_neg (by omega)])
    simp only [Qav.f,Qah.f,G_eta,he]
    by_cases c4:G.Qaf.any (bad G.Qac)=true
    ·rw [if_pos c4] at hq
     obtain ⟨i,rfl⟩:=hq
     simp only [Option.bind_some,Ex.fin,c4,Bool.not_true,decide_eq_true (show (i:Int)≥0 by omega)]
    ·rw [if_neg c4] at hq
     subst hq
     rw [Bool.not_eq_true] at c4
     simp only [Option.bind_some,Ex.fin,c4,Bool.not_false,Qah.a0]
     rfl
   ·rw [if_neg (by omega)]
    simp [c3]
  ·simp only [decide_eq_false c2,Bool.false_and]
   by_cases c3:0≤G.Qak
   ·rw [if_pos c3]
    have:¬ G.Qak≤3:=fun h=>c2 ⟨c3,h⟩
    simp [this]
   ·rw [if_neg c3];rfl
 ·simp only [decide_eq_false c1,Bool.false_and]
  by_cases c3:1≤G.Qac
  ·rw [if_pos c3]
   have:¬ G.Qac≤60:=fun h=>c1 ⟨c3,h⟩
   simp [this]
  ·rw [if_neg c3];rfl
def wrongB (a:As_) (m:Int):Bool:=((bAnd .u64 (shrI .u64 a.QaE m) 1)==1) !=a.QaS
def wr (G:Ga) (m:Int) (k:Nat):List Int:=(idx k).filter fun i=>wrongB (rdL G.Qaf i Qao) m
def W (G:Ga) (m:Int):Int:=((wr G m G.Qaf.length).length:Int)
theorem min_i8:IntKind.min .i8= -128:=rfl
theorem max_i8:IntKind.max .i8=127:=rfl
def gm (G:QaI):Ga:=⟨G.Qac,G.Qak,G.Qaf⟩
theorem szGame_pos {N:Nat} {G:QaI} (h:G.Qaf.length≤1048576):Qa0.f N G 1048576=some (1048576 - (G.Qaf.length:Int)):=by
 simp only [Qa0.f,Qa8.f,i64w_id (x:=1048576 - (G.Qaf.length:Int)) (by omega) (by omega)]
 rw [if_neg (by omega)]
 simp only [Option.bind_some]
 rw [if_neg (by omega)]
theorem szGame_neg {N:Nat} {G:QaI} (h:G.Qaf.length>1048576) (h':G.Qaf.length≤9223372036854775807):Qa0.f N G 1048576=some (-1):=by
 simp only [Qa0.f,Qa8.f,i64w_id (x:=1048576 - (G.Qaf.length:Int)) (by omega) (by omega)]
 rw [if_pos (by omega)]
 rfl
theorem toAskS_eq {N:Nat} {a:List As_} (h:a.length≤1048576) (hN:a.length< N):QaP.f N a=some a:=by
 unfold QaP.f
 rw [if_pos ⟨by omega,by omega⟩,Int.toNat_natCast,rounds_copy a Qao hN ?_ ?_]
 ·rfl
 ·intro x i hi hx
  have e:Qbc.f N (rdL a (i:Int) Qao)=some (rdL a (i:Int) Qao):=rfl
  simp only [QaP.b0,e,Option.bind_some]
  rw [if_pos (by omega),if_pos ⟨by omega,by omega⟩,if_pos ⟨by omega,by omega⟩,rdL_nat hi,stL_nat,i64w_succ hi (by omega)]
 ·intro x hx
  simp only [QaP.b0]
  rw [if_neg (by omega)]
theorem toGame_eq {N:Nat} {G:QaI} (h:G.Qaf.length≤1048576) (hN:G.Qaf.length< N):QaV.f N G=some (gm G):=by
 simp only [QaV.f,toAskS_eq h hN,Option.bind_some,gm]
theorem eqAskS_same {N:Nat} {a:List As_} (h:a.length≤1048576) (hN:a.length< N):QaL.f N a a=some true:=by
 unfold QaL.f
 rw [if_pos rfl,rounds_same a a rfl hN ?_ ?_]
 ·simp [Ex.fin,QaL.a0]
 ·intro i hi
  have g1:(i:Int)< a.length:=by omega
  have g2:(0:Int)≤i:=by omega
  have e:Qba.f N (rdL a (i:Int) Qao) (rdL a (i:Int) Qao)=some true:=by simp [Qba.f]
  simp only [QaL.b0,g1,g2,and_self,if_true,e,Option.bind_some,i64w_succ hi (show a.length≤9223372036854775807 by omega)]
 ·simp only [QaL.b0]
  rw [if_neg (by omega)]
theorem eqGame_same {N:Nat} {G:Ga} (h:G.Qaf.length≤1048576) (hN:G.Qaf.length< N):Qa7.f N G G=some true:=by
 simp only [Qa7.f,if_true,eqAskS_same h hN,Option.bind_some]
theorem ba_app (x y:List UInt8):(⟨x.toArray⟩:ByteArray)++(⟨y.toArray⟩:ByteArray)=⟨(x++y).toArray⟩:=by
 apply ByteArray.ext
 simp
theorem ba_size (x:List UInt8):(⟨x.toArray⟩:ByteArray).size=x.length:=by simp [ByteArray.size]
theorem nd_le (u:Nat):Lib.nDigits u≤u+1:=by
 induction u using Nat.strongRecOn with
 |_ u ih=>
  by_cases h:u< 10
  ·rw [Lib.nDigits_small h];omega
  ·rw [Lib.nDigits_big h]
   have:=ih (u/10) (by omega)
   omega
theorem dec_len (u:Nat):(Lib.decDigits u).length≤u+1:=by rw [Lib.decDigits_length];exact nd_le u
theorem bs_digit {n:Nat} (h:n< 10):bsOf ([u8w (i64w (48+((n:Nat):Int)))])=⟨([UInt8.ofNat (48+n)]:List UInt8).toArray⟩:=by
 have:∀ n:Nat,n< 10→bsOf ([u8w (i64w (48+((n:Nat):Int)))])=⟨([UInt8.ofNat (48+n)]:List UInt8).toArray⟩:=by decide+kernel
 exact this n h
theorem Decimal_step {N k n:Nat} (hb:n≤1000000) (h10:¬ n< 10) (ih:QaA.g N k ((n/10:Nat):Int)=some ⟨(Lib.decDigits (n/10)).toArray⟩):QaA.body N (QaA.g N k) (n:Int)=some ⟨(Lib.decDigits n).toArray⟩:=by
 have e1:(n:Int).tmod 10=((n%10:Nat):Int):=rfl
 have e2:(n:Int).tdiv 10=((n/10:Nat):Int):=rfl
 have e3:Lib.decDigits n=Lib.decDigits (n/10)++[UInt8.ofNat (48+n%10)]:=by rw [Lib.decDigits,dif_neg h10]
 have hl:=dec_len (n/10)
 have g:((Lib.decDigits (n/10)).length:Int)+(([UInt8.ofNat (48+n%10)]:List UInt8).length:Int)≤9223372036854775807:=by
  rw [List.length_singleton];omega
 have e5:i64w ((n/10:Nat):Int)=((n/10:Nat):Int):=by rw [i64w_id (by omega) (by omega)]
 unfold QaA.body
 rw [e1,e2,bs_digit (show n%10< 10 by omega),if_neg (by omega),e5,ih,Option.bind_some,ba_size,ba_size,if_pos g,ba_app,e3]
theorem Decimal_low {N k n:Nat} (h10:n< 10):QaA.body N (QaA.g N k) (n:Int)=some ⟨(Lib.decDigits n).toArray⟩:=by
 have e1:(n:Int).tmod 10=((n%10:Nat):Int):=rfl
 unfold QaA.body
 rw [e1,bs_digit (show n%10< 10 by omega),if_pos (by omega),Lib.decDigits,dif_pos h10,Nat.mod_eq_of_lt h10]
theorem Decimal_g {N:Nat} (k:Nat):∀ n:Nat,n< k→n≤1000000→QaA.g N k (n:Int)=some ⟨(Lib.decDigits n).toArray⟩:=by
 induction k with
 |zero=>intro n h _;exact absurd h (Nat.not_lt_zero _)
 |succ k ih=>
  intro n h hb
  by_cases h10:n< 10
  ·exact Decimal_low h10
  ·exact Decimal_step hb h10 (ih (n/10) (by omega) (by omega))
theorem Decimal_eq {N:Nat} {n:Int} (h0:0≤n) (h1:n≤1000000) (hN:n< N):QaA.f N n=some ⟨(Lib.decDigits n.toNat).toArray⟩:=by
 obtain ⟨m,rfl⟩:=Int.eq_ofNat_of_zero_le h0
 exact Decimal_g N m (by omega) (by omega)
def hxd (d:Nat):UInt8:=if d< 10 then UInt8.ofNat (48+d) else UInt8.ofNat (87+d)
def lastD (n:Nat):Nat→List UInt8
 |0=>[]
 |j+1=>lastD (n/16) j++[hxd (n%16)]
theorem lastD_len:∀ (j n:Nat),(lastD n j).length=j
 |0,_=>rfl
 |j+1,n=>by simp [lastD,lastD_len j]
theorem lastD_cons:∀ (j n:Nat),lastD n (j+1)=hxd (n/16^j%16)::lastD n j
 |0,n=>by simp [lastD]
 |j+1,n=>by
  show lastD (n/16) (j+1)++[hxd (n%16)]=_
  rw [lastD_cons j (n/16),List.cons_append,Nat.div_div_eq_div_mul,show 16*16^j=16^(j+1) by rw [Nat.pow_succ,Nat.mul_comm]]
  rfl
theorem lastD_pad {j n i:Nat} (hi:i≤j) (hn:n< 16^i):List.replicate (j - i) 48++lastD n i=lastD n j:=by
 obtain ⟨d,rfl⟩:∃ d,j=i+d:=⟨j - i,by omega⟩
 rw [show i+d - i=d by omega]
 clear hi
 induction d with
 |zero=>rfl
 |succ d ih=>
  have h0:n/16^(i+d)=0:=Nat.div_eq_of_lt (Nat.lt_of_lt_of_le hn (Nat.pow_le_pow_right (by decide) (by omega)))
  rw [show i+(d+1)=(i+d)+1 by omega,lastD_cons,h0,List.replicate_succ,List.cons_append,ih]
  rfl
theorem and15 {x:Nat} (h:x< 18446744073709551616):bAnd .u64 (x:Int) 15=((x%16:Nat):Int):=by
 have h2:(BitVec.ofInt 64 (x:Int)&&&BitVec.ofInt 64 15).toNat=x%16:=by
  rw [BitVec.toNat_and]
  simp only [BitVec.toNat_ofInt]
  have e1:((x:Int)%((2^64:Nat):Int)).toNat=x:=by omega
  have e2:((15:Int)%((2^64:Nat):Int)).toNat=15:=by decide
  rw [e1,e2]
  exact Nat.and_two_pow_sub_one_eq_mod x 4
 show u64w ((BitVec.ofInt 64 (x:Int)&&&BitVec.ofInt 64 15).toNat:Int)=_
 rw [h2,u64w_id (by omega) (by omega)]
theorem shr_nat {x k:Nat} (h:x< 18446744073709551616) (hk:k< 64):shrI .u64 (x:Int) (k:Int)=((x/2^k:Nat):Int):=by
 unfold shrI
 have hlt:x/2^k≤x:=Nat.div_le_self _ _
 have e:((x:Int)).fdiv (2^min k 64)=((x/2^k:Nat):Int):=by
  rw [show min k 64=k by omega,Int.fdiv_eq_ediv_of_nonneg _ (by exact Int.le_of_lt (Int.pow_pos (by decide))),Int.natCast_ediv]
  simp
 simp [IntKind.bits,IntKind.signed,e]
theorem hex_at:∀ d:Nat,d< 16→btS (⟨#[48,49,50,51,52,53,54,55,56,57,97,98,99,100,101,102]⟩:ByteArray) (d:Int)=((hxd d).toNat:Int)∧btS (⟨#[48,49,50,51,52,53,54,55,56,57,97,98,99,100,101,102,103,104,105,106,107,108,109,110,111,112,113,114,115,116,117,118,119,120,121,122]⟩:ByteArray) (d:Int)=((hxd d).toNat:Int):=by decide+kernel
theorem bsOf_map (l:List UInt8):bsOf (l.map fun b=>(b.toNat:Int))=⟨l.toArray⟩:=by
 unfold bsOf
 congr 2
 rw [List.map_map]
 exact (List.map_congr_left fun b _=>by simp).trans (List.map_id l)
theorem dec_impl (N:Nat) {n:Int} (h0:0≤n) (h1:n< 100):QaX.f N n=some ⟨(Lib.decDigits n.toNat).toArray⟩:=by
 have e:Lib.itoa n=Lib.decDigits n.toNat:=by unfold Lib.itoa;rw [if_neg (by omega)]
 simp only [QaX.f,strconv_FormatInt.f]
 rw [if_pos ⟨⟨by omega,by omega⟩,trivial⟩,e]
 rfl
theorem d16:(⟨#[48,49,50,51,52,53,54,55,56,57,97,98,99,100,101,102]⟩:ByteArray).size=16:=rfl
theorem d36:(⟨#[48,49,50,51,52,53,54,55,56,57,97,98,99,100,101,102,103,104,105,106,107,108,109,110,111,112,113,114,115,116,117,118,119,120,121,122]⟩:ByteArray).size=36:=rfl
theorem pow16 (i:Nat):(2:Nat)^(4*i)=16^i:=by rw [Nat.pow_mul]
theorem hex_spec {N:Nat} (hN:80< N) {n:Nat} (hn:n< 18446744073709551616):QaM.f N (n:Int)=some ⟨(lastD n 16).toArray⟩:=by
 obtain ⟨e,he,rfl⟩:=rounds_ends (b:=fun s=>QaM.b0 N (n:Int) s.1 s.2)
  (fun s=>∃ i:Nat,i≤16∧s.2=60 - 4*(i:Int)∧s.1=(lastD (n/16^(16 - i)) i).map fun b=>(b.toNat:Int)) (fun s=>(s.2+4).toNat)
  (fun e=>e= .go ((lastD n 16).map fun b=>(b.toNat:Int))) (by
  rintro ⟨x,y⟩ ⟨i,hi,hy,hx⟩
  simp only at hy hx
  subst hy hx
  by_cases c:i=16
  ·left
   subst c
   refine ⟨_,?_,rfl⟩
   simp only [QaM.b0]
   rw [if_neg (by omega)]
   simp
  ·right
   have hk:u64w (60 - 4*(i:Int))=((60 - 4*i:Nat):Int):=by rw [u64w_id (by omega) (by omega)];omega
   have hd:bAnd .u64 (shrI .u64 (n:Int) (u64w (60 - 4*(i:Int)))) 15=((n/16^(15 - i)%16:Nat):Int):=by
    rw [hk,shr_nat hn (by omega),and15 (Nat.lt_of_le_of_lt (Nat.div_le_self _ _) hn),show 60 - 4*i=4*(15 - i) by omega,pow16]
   have hlt:n/16^(15 - i)%16< 16:=Nat.mod_lt _ (by decide)
   refine ⟨((lastD (n/16^(16 - (i+1))) (i+1)).map fun b=>(b.toNat:Int),60 - 4*((i+1:Nat):Int)),?_,⟨i+1,by omega,rfl,rfl⟩,by dsimp only;omega⟩
   simp only [QaM.b0]
   rw [if_pos (by omega),if_pos (by rw [hk];omega),hd,d16,if_pos ⟨by omega,by omega⟩,if_pos (by simp [lastD_len];omega),(hex_at _ hlt).1,i64w_id (by omega) (by omega)]
   have e1:n/16^(16 - (i+1))/16=n/16^(16 - i):=by
    rw [Nat.div_div_eq_div_mul,← Nat.pow_succ,show (16 - (i+1)).succ=16 - i by omega]
   have e2:lastD (n/16^(16 - (i+1))) (i+1)=lastD (n/16^(16 - i)) i++[hxd (n/16^(15 - i)%16)]:=by
    show lastD (n/16^(16 - (i+1))/16) i++[hxd (n/16^(16 - (i+1))%16)]=_
    rw [e1,show 16 - (i+1)=15 - i by omega]
   rw [e2,List.map_append]
   congr 3
   omega) N (([]:List Int),60) ⟨0,by omega,by simp,rfl⟩ (by dsimp only;omega)
 simp only [QaM.f,he]
 exact congrArg some (bsOf_map _)
theorem fmt_impl {N:Nat} (hN:80< N) {n:Nat} (hn:n< 18446744073709551616):∃ i,1≤i∧i≤16∧n< 16^i∧QaJ.f N (n:Int)=some ⟨(lastD n i).toArray⟩:=by
 have u16:u64w 16=16:=rfl
 have u15:u64w (16 - 1)=15:=rfl
 have u4:u64w 4=4:=rfl
 obtain ⟨e,he,j,arr,rfl,hj,hlt,hdrop⟩:=rounds_ends (b:=fun s=>Qae.b1 N 4 s.1 s.2.1 s.2.2)
  (fun s=>∃ j:Nat,j≤15∧s.1=((n/16^j:Nat):Int)∧s.2.2=65 - (j:Int)∧s.2.1.l.drop (65 - j)=(lastD n j).map fun b=>(b.toNat:Int)) (fun s=>s.2.2.toNat)
  (fun e=>∃ j:Nat,∃ arr:Ar Int 65,e= .go (((n/16^j:Nat):Int),arr,65 - (j:Int))∧j≤15∧n/16^j< 16∧arr.l.drop (65 - j)=(lastD n j).map fun b=>(b.toNat:Int)) (by
  rintro ⟨x,a,y⟩ ⟨j,hj,hx,hy,ha⟩
  simp only at hx hy ha
  subst hx hy
  have hxn:n/16^j< 18446744073709551616:=Nat.lt_of_le_of_lt (Nat.div_le_self _ _) hn
  by_cases c:n/16^j< 16
  ·left
   refine ⟨_,?_,j,a,rfl,hj,c,ha⟩
   simp only [Qae.b1,u16]
   rw [if_neg (by omega)]
  ·right
   have hj15:j+1≤15:=by
    refine Classical.byContradiction fun q=>c ?_
    obtain rfl:j=15:=by omega
    have:n< 16^15*16:=by omega
    exact Nat.div_lt_of_lt_mul this
   have hm:n/16^j%16< 16:=Nat.mod_lt _ (by decide)
   have hi:i64w (65 - (j:Int) - 1)=((64 - j:Nat):Int):=by rw [i64w_id (by omega) (by omega)];omega
   have hs:shrI .u64 ((n/16^j:Nat):Int) 4=((n/16^(j+1):Nat):Int):=by
    rw [show (4:Int)=((4:Nat):Int) from rfl,shr_nat hxn (by decide),show (2:Nat)^4=16 from rfl,Nat.div_div_eq_div_mul,← Nat.pow_succ]
   refine ⟨(((n/16^(j+1):Nat):Int),a.set ((64 - j:Nat):Int) ((hxd (n/16^j%16)).toNat:Int),65 - ((j+1:Nat):Int)),?_,⟨j+1,hj15,rfl,rfl,?_⟩,by dsimp only;omega⟩
   ·simp only [Qae.b1,u16,u15,u4,hi,hs,and15 hxn,d36]
    rw [if_pos (by omega),if_pos ⟨by omega,by omega⟩,if_pos ⟨by omega,by omega⟩,if_pos (by decide),(hex_at _ hm).2,show (65:Int) - ((j+1:Nat):Int)=((64 - j:Nat):Int) by omega]
   ·dsimp only
    rw [lastD_cons,List.map_cons,← ha]
    have hl:a.l.length=65:=a.h
    show (stL a.l ((64 - j:Nat):Int) _).drop (65 - (j+1))=_
    rw [stL_nat,show 65 - (j+1)=64 - j by omega,List.drop_eq_getElem_cons (by simp;omega),List.getElem_set_self,List.drop_set_of_lt (by omega),show 64 - j+1=65 - j by omega]) N ((n:Int),Ar.rep 65 0,65) ⟨0,by omega,by simp,by simp,by simp [lastD,Ar.rep]⟩ (by dsimp only;omega)
 refine ⟨j+1,by omega,by omega,?_,?_⟩
 ·rw [Nat.pow_succ]
  exact (Nat.div_lt_iff_lt_mul (Nat.pow_pos (by decide))).1 hlt|>fun q=>by rwa [Nat.mul_comm] at q
 ·have hp:QaR.f N 16=some true:=rfl
  have ht:QaU.f N 16=some 4:=rfl
  have hi:i64w (65 - (j:Int) - 1)=((64 - j:Nat):Int):=by rw [i64w_id (by omega) (by omega)];omega
  have hl:arr.l.length=65:=arr.h
  have hfin:((stL arr.l ((64 - j:Nat):Int) ((hxd (n/16^j)).toNat:Int)).drop (64 - j)).take (65 - (64 - j))=(lastD n (j+1)).map fun b=>(b.toNat:Int):=by
   rw [lastD_cons,List.map_cons,← hdrop,Nat.mod_eq_of_lt hlt,stL_nat,List.drop_eq_getElem_cons (by simp;omega),List.getElem_set_self,List.drop_set_of_lt (by omega),show 64 - j+1=65 - j by omega,List.take_of_length_le (by simp;omega)]
  simp only [QaJ.f,istrconv_FormatUint_at_c16.f,Qae.f,hp,u16,ht,Option.bind_some,if_true,he,Ex.fin,Qae.a1,hi,d36]
  rw [if_pos ⟨Int.natCast_nonneg _,by omega⟩,if_pos ⟨by omega,by omega⟩,(hex_at _ hlt).2]
  simp only [Qae.j0]
  rw [if_pos ⟨by omega,by omega⟩]
  show some (bsOf (((stL arr.l ((64 - j:Nat):Int) ((hxd (n/16^j)).toNat:Int)).drop ((64 - j:Nat):Int).toNat).take (((65:Nat):Int).toNat - ((64 - j:Nat):Int).toNat)))=_
  rw [Int.toNat_natCast,Int.toNat_natCast,hfin,bsOf_map]
theorem rep_tab (N:Nat):∀ c:Nat,c< 16→Qal.f N (⟨#[48]⟩:ByteArray) (c:Int)=some ⟨(List.replicate c 48).toArray⟩
 |0,_=>rfl
 |1,_=>rfl
 |2,_=>by kernel_rfl
 |3,_=>by kernel_rfl
 |4,_=>by kernel_rfl
 |5,_=>by kernel_rfl
 |6,_=>by kernel_rfl
 |7,_=>by kernel_rfl
 |8,_=>by kernel_rfl
 |9,_=>by kernel_rfl
 |10,_=>by kernel_rfl
 |11,_=>by kernel_rfl
 |12,_=>by kernel_rfl
 |13,_=>by kernel_rfl
 |14,_=>by kernel_rfl
 |15,_=>by kernel_rfl
 |n+16,h=>absurd h (by omega)
theorem padded {N:Nat} (hN:80< N) {n:Nat} (hn:n< 18446744073709551616):∃ i,1≤i∧i≤16∧QaJ.f N (n:Int)=some ⟨(lastD n i).toArray⟩∧
 Qal.f N (⟨#[48]⟩:ByteArray) (i64w (16 - ((⟨(lastD n i).toArray⟩:ByteArray).size:Int)))=some ⟨(List.replicate (16 - i) 48).toArray⟩∧List.replicate (16 - i) 48++lastD n i=lastD n 16:=by
 obtain ⟨i,h1,h2,h3,h4⟩:=fmt_impl hN hn
 refine ⟨i,h1,h2,h4,?_,lastD_pad h2 h3⟩
 rw [ba_size,lastD_len,i64w_id (by omega) (by omega),show (16:Int) - (i:Int)=((16 - i:Nat):Int) by omega]
 exact rep_tab N _ (by omega)
def wordY (b:Bool):List UInt8:=if b=true then [32,121,101,115] else [32,110,111]
def lineG (a:As_):List UInt8:=lastD a.QaE.toNat 16++wordY a.QaS++[10]
theorem line_len (a:As_):(lineG a).length≤21:=by
 unfold lineG wordY
 split<;>simp [lastD_len]
def linesG (l:List As_):List UInt8:=(l.map lineG).flatten
theorem lines_succ (l:List As_) {k:Nat} (hk:k< l.length):linesG (l.take (k+1))=linesG (l.take k)++lineG l[k]:=by
 unfold linesG
 rw [List.take_succ_eq_append_getElem hk,List.map_append,List.flatten_append]
 simp
theorem lines_len (l:List As_):(linesG l).length≤21*l.length:=by
 induction l with
 |nil=>exact Nat.le_refl _
 |cons a l ih=>
  have:=line_len a
  simp only [linesG,List.map_cons,List.flatten_cons,List.length_append,List.length_cons] at ih ⊢
  omega
def headG (G:Ga):List UInt8:=Lib.decDigits G.Qac.toNat++[32]++Lib.decDigits G.Qak.toNat++[10]
def textG (G:Ga):List UInt8:=headG G++linesG G.Qaf
theorem head_len {G:Ga} (h1:G.Qac≤60) (h2:G.Qak≤3):(headG G).length≤70:=by
 have a:=dec_len G.Qac.toNat
 have b:=dec_len G.Qak.toNat
 unfold headG
 simp only [List.length_append,List.length_singleton]
 omega
theorem word_yes:(⟨#[32,121,101,115]⟩:ByteArray)=⟨(wordY true).toArray⟩:=rfl
theorem word_no:(⟨#[32,110,111]⟩:ByteArray)=⟨(wordY false).toArray⟩:=rfl
theorem text_spec {N:Nat} {G:Ga} (hl:G.Qaf.length≤60) (h1:1≤G.Qac∧G.Qac≤60) (h2:0≤G.Qak∧G.Qak≤3) (hs:∀ a∈G.Qaf,0≤a.QaE∧a.QaE< 18446744073709551616) (hN:200< N):QaF.f N G=some ⟨(textG G).toArray⟩:=by
 have hh:=head_len h1.2 h2.2
 obtain ⟨e,he,rfl⟩:=rounds_ends (b:=fun s=>QaF.b0 N G s.1 s.2)
  (fun s=>∃ k:Nat,k≤G.Qaf.length∧s.2=(k:Int)∧s.1=⟨(headG G++linesG (G.Qaf.take k)).toArray⟩) (fun s=>G.Qaf.length - s.2.toNat)
  (fun e=>e= .go ⟨(textG G).toArray⟩) (by
  rintro ⟨x,y⟩ ⟨k,hk,hy,hx⟩
  simp only at hy hx
  subst hy hx
  by_cases c:k< G.Qaf.length
  ·right
   have g:(0:Int)≤(k:Int)∧(k:Int)< (G.Qaf.length:Int):=⟨by omega,by omega⟩
   obtain ⟨s0,s1⟩:=hs _ (List.getElem_mem c)
   have hle:=lines_len (G.Qaf.take k)
   rw [List.length_take] at hle
   have hx:=hex_spec (N:=N) (by omega) (n:=(G.Qaf[k].QaE).toNat) (by omega)
   rw [Int.toNat_of_nonneg s0] at hx
   have hnext:i64w ((k:Int)+1)=((k+1:Nat):Int):=i64w_succ c (by omega)
   refine ⟨(⟨(headG G++linesG (G.Qaf.take (k+1))).toArray⟩,((k+1:Nat):Int)),?_,⟨k+1,c,rfl,rfl⟩,by dsimp only;omega⟩
   have z1:=ba_app (headG G++linesG (G.Qaf.take k)) (lastD (G.Qaf[k].QaE).toNat 16)
   have z2:(⟨(headG G++linesG (G.Qaf.take k)++lastD (G.Qaf[k].QaE).toNat 16).toArray⟩:ByteArray)++(⟨#[32,110,111,10]⟩:ByteArray)=⟨(headG G++linesG (G.Qaf.take k)++lastD (G.Qaf[k].QaE).toNat 16++[32,110,111,10]).toArray⟩:=ba_app _ [32,110,111,10]
   have z3:(⟨(headG G++linesG (G.Qaf.take k)++lastD (G.Qaf[k].QaE).toNat 16).toArray⟩:ByteArray)++(⟨#[32,121,101,115,10]⟩:ByteArray)=⟨(headG G++linesG (G.Qaf.take k)++lastD (G.Qaf[k].QaE).toNat 16++[32,121,101,115,10]).toArray⟩:=ba_app _ [32,121,101,115,10]
   have q1:=ba_size (headG G++linesG (G.Qaf.take k))
   have q2:=ba_size (lastD (G.Qaf[k].QaE).toNat 16)
   have q3:=ba_size (headG G++linesG (G.Qaf.take k)++lastD (G.Qaf[k].QaE).toNat 16)
   have q4:(⟨#[32,110,111,10]⟩:ByteArray).size=4:=rfl
   have q5:(⟨#[32,121,101,115,10]⟩:ByteArray).size=5:=rfl
   have q6:=lastD_len 16 (G.Qaf[k].QaE).toNat
   rw [List.length_append] at q1 q3
   rw [List.length_append] at q3
   show QaF.b0 N G _ (k:Int)=_
   unfold QaF.b0
   rw [if_pos g.2,if_pos g,rdL_nat c,hx,Option.bind_some,if_pos (by rw [q1,q2];omega),if_pos g,z1,lines_succ _ c]
   cases hw:G.Qaf[k].QaS
   ·rw [if_neg (by decide),if_pos (by rw [q3,q4];omega),z2]
    have hq:headG G++(linesG (G.Qaf.take k)++lineG G.Qaf[k])=headG G++linesG (G.Qaf.take k)++lastD (G.Qaf[k].QaE).toNat 16++[32,110,111,10]:=by
     unfold lineG wordY
     rw [hw,List.append_assoc,List.append_assoc,List.append_assoc]
     rfl
    rw [hq]
    show some (Bd.next (_,i64w ((k:Int)+1)))=_
    rw [hnext]
   ·rw [if_pos rfl,if_pos (by rw [q3,q5];omega),z3]
    have hq:headG G++(linesG (G.Qaf.take k)++lineG G.Qaf[k])=headG G++linesG (G.Qaf.take k)++lastD (G.Qaf[k].QaE).toNat 16++[32,121,101,115,10]:=by
     unfold lineG wordY
     rw [hw,List.append_assoc,List.append_assoc,List.append_assoc]
     rfl
    rw [hq]
    show some (Bd.next (_,i64w ((k:Int)+1)))=_
    rw [hnext]
  ·left
   obtain rfl:k=G.Qaf.length:=by omega
   refine ⟨_,?_,rfl⟩
   simp only [QaF.b0]
   rw [if_neg (by omega),List.take_length,textG]) N (⟨(headG G).toArray⟩,0) ⟨0,by omega,rfl,by simp [linesG]⟩ (by dsimp only;omega)
 have d1:=Decimal_eq (N:=N) (n:=G.Qac) (by omega) (by omega) (by omega)
 have d2:=Decimal_eq (N:=N) (n:=G.Qak) (by omega) (by omega) (by omega)
 have a1:=dec_len G.Qac.toNat
 have a2:=dec_len G.Qak.toNat
 have b10:(⟨#[10]⟩:ByteArray)=⟨([10]:List UInt8).toArray⟩:=rfl
 have n1:i64w G.Qac=G.Qac:=i64w_id (by omega) (by omega)
 have n2:i64w G.Qak=G.Qak:=i64w_id (by omega) (by omega)
 have z1:((⟨(Lib.decDigits G.Qac.toNat).toArray⟩:ByteArray)++(⟨#[32]⟩:ByteArray))=⟨(Lib.decDigits G.Qac.toNat++[32]).toArray⟩:=ba_app _ [32]
 have z2:((⟨(Lib.decDigits G.Qac.toNat++[32]).toArray⟩:ByteArray)++(⟨(Lib.decDigits G.Qak.toNat).toArray⟩:ByteArray))=⟨(Lib.decDigits G.Qac.toNat++[32]++Lib.decDigits G.Qak.toNat).toArray⟩:=ba_app _ _
 have z3:((⟨(Lib.decDigits G.Qac.toNat++[32]++Lib.decDigits G.Qak.toNat).toArray⟩:ByteArray)++(⟨#[10]⟩:ByteArray))=⟨(headG G).toArray⟩:=ba_app _ [10]
 have s0:(⟨#[32]⟩:ByteArray).size=1:=rfl
 have s9:(⟨#[10]⟩:ByteArray).size=1:=rfl
 have c1:((⟨(Lib.decDigits G.Qac.toNat).toArray⟩:ByteArray).size:Int)+(⟨#[32]⟩:ByteArray).size≤9223372036854775807:=by rw [ba_size,s0];omega
 have c2:((⟨(Lib.decDigits G.Qac.toNat++[32]).toArray⟩:ByteArray).size:Int)+(⟨(Lib.decDigits G.Qak.toNat).toArray⟩:ByteArray).size≤9223372036854775807:=by rw [ba_size,ba_size,List.length_append,List.length_singleton];omega
 have c3:((⟨(Lib.decDigits G.Qac.toNat++[32]++Lib.decDigits G.Qak.toNat).toArray⟩:ByteArray).size:Int)+(⟨#[10]⟩:ByteArray).size≤9223372036854775807:=by rw [ba_size,s9,List.length_append,List.length_append,List.length_singleton];omega
 unfold QaF.f
 rw [n1,d1,Option.bind_some,if_pos c1,n2,d2,Option.bind_some,z1,if_pos c2,z2,if_pos c3,z3,he]
 rfl
theorem text_impl {N:Nat} {G:Ga} (hv:QaQ.f N G=some true) (hl:G.Qaf.length≤60) (h1:1≤G.Qac∧G.Qac≤60) (h2:0≤G.Qak∧G.Qak≤3) (hs:∀ a∈G.Qaf,0≤a.QaE∧a.QaE< 18446744073709551616) (hN:200< N):QaD.f N G=some ⟨(textG G).toArray⟩:=by
 have hh:=head_len h1.2 h2.2
 have b10:(⟨#[10]⟩:ByteArray)=⟨([10]:List UInt8).toArray⟩:=rfl
 have b0:(⟨#[]⟩:ByteArray)=⟨([]:List UInt8).toArray⟩:=rfl
 obtain ⟨e,he,rfl⟩:=rounds_ends (b:=fun s=>QaD.b0 N G s.1 s.2)
  (fun s=>∃ k:Nat,k≤G.Qaf.length∧s.2=(k:Int)∧s.1=⟨(headG G++linesG (G.Qaf.take k)).toArray⟩) (fun s=>G.Qaf.length - s.2.toNat)
  (fun e=>e= .go ⟨(textG G).toArray⟩) (by
  rintro ⟨x,y⟩ ⟨k,hk,hy,hx⟩
  simp only at hy hx
  subst hy hx
  by_cases c:k< G.Qaf.length
  ·right
   have g:(0:Int)≤(k:Int)∧(k:Int)< (G.Qaf.length:Int):=⟨by omega,by omega⟩
   obtain ⟨s0,s1⟩:=hs _ (List.getElem_mem c)
   have hle:=lines_len (G.Qaf.take k)
   rw [List.length_take] at hle
   obtain ⟨i,i1,i2,e1,e2,e3⟩:=padded (N:=N) (by omega) (n:=(G.Qaf[k].QaE).toNat) (by omega)
   rw [Int.toNat_of_nonneg s0] at e1
   have hnext:i64w ((k:Int)+1)=((k+1:Nat):Int):=i64w_succ c (by omega)
   have key:∀ b:Bool,QaD.j2 N G (k:Int) ⟨(headG G++linesG (G.Qaf.take k)).toArray⟩ ⟨(wordY b).toArray⟩=some (.next (⟨(headG G++linesG (G.Qaf.take k)++(lastD (G.Qaf[k].QaE).toNat 16++wordY b++[10])).toArray⟩,((k+1:Nat):Int))):=by
    intro b
    have hw:(wordY b).length≤4:=by cases b<;>decide
    simp only [QaD.j2,rdL_nat c,e1,Option.bind_some,e2,b10,ba_app,e3]
    simp only [ba_size,List.length_append,List.length_singleton,lastD_len,List.length_replicate,hnext]
    rw [if_pos (by omega),if_pos (by omega),if_pos (by omega),if_pos (by omega)]
   refine ⟨(⟨(headG G++linesG (G.Qaf.take (k+1))).toArray⟩,((k+1:Nat):Int)),?_,⟨k+1,c,rfl,rfl⟩,by dsimp only;omega⟩
   simp only [QaD.b0,if_pos g.2,if_pos g,rdL_nat c,word_yes,word_no,key]
   rw [lines_succ _ c]
   unfold lineG
   cases hw:G.Qaf[k].QaS
   ·rw [if_neg (by decide),List.append_assoc]
   ·rw [if_pos rfl,List.append_assoc]
  ·left
   obtain rfl:k=G.Qaf.length:=by omega
   refine ⟨_,?_,rfl⟩
   simp only [QaD.b0]
   rw [if_neg (by omega),List.take_length,textG]) N (⟨(headG G).toArray⟩,0) ⟨0,by omega,rfl,by simp [linesG]⟩ (by dsimp only;omega)
 have d1:=dec_impl N (n:=G.Qac) (by omega) (by omega)
 have d2:=dec_impl N (n:=G.Qak) (by omega) (by omega)
 have a1:=dec_len G.Qac.toNat
 have a2:=dec_len G.Qak.toNat
 have ev:QaQ.f N (⟨G.Qac,G.Qak,G.Qaf⟩:Qar)=some true:=hv
 have n1:i64w G.Qac=G.Qac:=i64w_id (by omega) (by omega)
 have n2:i64w G.Qak=G.Qak:=i64w_id (by omega) (by omega)
 have z1:((⟨(Lib.decDigits G.Qac.toNat).toArray⟩:ByteArray)++(⟨#[32]⟩:ByteArray))=⟨(Lib.decDigits G.Qac.toNat++[32]).toArray⟩:=ba_app _ [32]
 have z2:((⟨(Lib.decDigits G.Qac.toNat++[32]).toArray⟩:ByteArray)++(⟨(Lib.decDigits G.Qak.toNat).toArray⟩:ByteArray))=⟨(Lib.decDigits G.Qac.toNat++[32]++Lib.decDigits G.Qak.toNat).toArray⟩:=ba_app _ _
 have z3:((⟨(Lib.decDigits G.Qac.toNat++[32]++Lib.decDigits G.Qak.toNat).toArray⟩:ByteArray)++(⟨#[10]⟩:ByteArray))=⟨(headG G).toArray⟩:=ba_app _ [10]
 have s0:(⟨#[32]⟩:ByteArray).size=1:=rfl
 have s9:(⟨#[10]⟩:ByteArray).size=1:=rfl
 have c1:((⟨(Lib.decDigits G.Qac.toNat).toArray⟩:ByteArray).size:Int)+(⟨#[32]⟩:ByteArray).size≤9223372036854775807:=by rw [ba_size,s0];omega
 have c2:((⟨(Lib.decDigits G.Qac.toNat++[32]).toArray⟩:ByteArray).size:Int)+(⟨(Lib.decDigits G.Qak.toNat).toArray⟩:ByteArray).size≤9223372036854775807:=by rw [ba_size,ba_size,List.length_append,List.length_singleton];omega
 have c3:((⟨(Lib.decDigits G.Qac.toNat++[32]++Lib.decDigits G.Qak.toNat).toArray⟩:ByteArray).size:Int)+(⟨#[10]⟩:ByteArray).size≤9223372036854775807:=by rw [ba_size,s9,List.length_append,List.length_append,List.length_singleton];omega
 have z4:((⟨#[]⟩:ByteArray)++(⟨(headG G).toArray⟩:ByteArray))=⟨(headG G).toArray⟩:=ba_app [] _
 have c4:(⟨#[]⟩:ByteArray).size+(⟨(headG G).toArray⟩:ByteArray).size≤140737488355328:=by
  have q1:=ba_size (headG G)
  have q2:(⟨#[]⟩:ByteArray).size=0:=rfl
  omega
 unfold QaD.f
 rw [ev,Option.bind_some,if_pos rfl,n1,d1,Option.bind_some,if_pos c1,n2,d2,Option.bind_some,z1,if_pos c2,z2,if_pos c3,z3,if_pos c4,z4,he]
 rfl
theorem Text_same {N:Nat} {G:Ga} (hG:InG G) (hs:∀ a∈G.Qaf,0≤a.QaE∧a.QaE< 18446744073709551616) (hN:200< N):∃ r,QaY.f N G=some r∧QaD.f N G=some r:=by
 have e1:QaO.f N (⟨G.Qac,G.Qak,G.Qaf⟩:Qar)=some (okG G):=okG_spec hG (by omega)
 have e2:QaQ.f N (⟨G.Qac,G.Qak,G.Qaf⟩:Qar)=some (okG G):=okG_impl hG (by omega)
 by_cases hk:okG G=true
 ·obtain ⟨h1,h2,h3⟩:=okG_iff hk
  have t1:QaF.f N (⟨G.Qac,G.Qak,G.Qaf⟩:Qar)=_:=text_spec (N:=N) h3 h1 h2 hs hN
  refine ⟨_,?_,text_impl (by rw [hk] at e2;exact e2) h3 h1 h2 hs hN⟩
  unfold QaY.f
  rw [e1,Option.bind_some,if_pos hk,t1]
  rfl
 ·refine ⟨(⟨#[]⟩:ByteArray),?_,?_⟩
  ·unfold QaY.f
   rw [e1,Option.bind_some,if_neg hk]
  ·unfold QaD.f
   rw [e2,Option.bind_some,if_neg hk]
theorem min_u64:IntKind.min .u64=0:=rfl
theorem max_u64:IntKind.max .u64=18446744073709551615:=rfl
theorem QaN.told (a0:QaI) (h0_0:IntKind.min .i8≤a0.Qac∧a0.Qac≤IntKind.max .i8) (h0_1:IntKind.min .i8≤a0.Qak∧a0.Qak≤IntKind.max .i8) (h0_2:∀ x∈a0.Qaf,(IntKind.min .u64≤x.QaE∧x.QaE≤IntKind.max .u64)∧(True)) (l0_2:a0.Qaf.length≤9223372036854775807):∃ N,QaN.f N a0=some true:=by
 rw [min_i8,max_i8] at h0_0 h0_1
 by_cases h':a0.Qaf.length>1048576
 ·refine ⟨0,?_⟩
  unfold QaN.f
  rw [L_eta,szGame_neg h' l0_2]
  rfl
 obtain ⟨N,hN⟩:∃ N,N=a0.Qaf.length+4000:=⟨_,rfl⟩
 refine ⟨N,?_⟩
 have hl:a0.Qaf.length≤1048576:=by omega
 have hs:∀ a∈(gm a0).Qaf,0≤a.QaE∧a.QaE< 18446744073709551616:=by
  intro a ha
  have:=(h0_2 a ha).1
  rw [min_u64,max_u64] at this
  omega
 obtain ⟨r,e1,e2⟩:=Text_same (N:=N) (G:=gm a0) ⟨h0_0,h0_1⟩ hs (by omega)
 have e3:=toGame_eq (N:=N) (G:=a0) hl (by omega)
 have e4:=eqGame_same (N:=N) (G:=gm a0) hl (show a0.Qaf.length< N by omega)
 unfold QaN.f
 rw [L_eta,szGame_pos hl,Option.bind_some,if_neg (show ¬ (1048576 - (a0.Qaf.length:Int))< 0 by omega),e3,Option.bind_some,G_eta,e1,Option.bind_some,Option.bind_some,e2,Option.bind_some,if_pos rfl,Option.bind_some,e4,Option.bind_some,if_pos rfl]
end Go.Proofs.YtljkpeeabpdalaaDoorX
