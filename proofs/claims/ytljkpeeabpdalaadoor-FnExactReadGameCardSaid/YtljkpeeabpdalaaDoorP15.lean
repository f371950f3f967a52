import Derived.Test.YtljkpeeabpdalaaDoorP13
import Derived.Test.YtljkpeeabpdalaaDoorP14
namespace Go.Proofs.YtljkpeeabpdalaaDoorX
open Go
set_option linter.unusedVariables false
set_option linter.unusedSimpArgs false
def mkA (j:Int):As_:=⟨u64w (1+2*j),((2+2*j).tmod 3)==0⟩
theorem markAskS_eq {N:Nat} {a:List As_} (h:a.length≤60) (hN:a.length< N):QaK.f N a 1=some (1+2*(a.length:Int),marked mkA 0 a.length):=by
 have q:=rounds_for (b:=fun s=>QaK.b0 N s.1 s.2.1 s.2.2) (e:= .go (1+2*(a.length:Int),marked mkA 0 a.length)) (fun i=>(marked mkA 0 i++a.drop i,1+2*(i:Int),(i:Int))) a.length 0 N (Nat.zero_le _) (by simpa using hN)
  (fun i _ hi=>by
   have hlen:=mark_length mkA 0 a i (by omega)
   have hms:=mark_set mkA 0 a i hi
   show QaK.b0 N (marked mkA 0 i++a.drop i) (1+2*(i:Int)) (i:Int)=some (.next (marked mkA 0 (i+1)++a.drop (i+1),1+2*((i+1:Nat):Int),((i+1:Nat):Int)))
   rw [← hms]
   generalize marked mkA 0 i++a.drop i=x at hlen ⊢
   have hx:i< x.length:=by omega
   unfold QaK.b0
   rw [if_pos (by omega),if_pos ⟨by omega,by omega⟩]
   simp only [stL_nat]
   rw [if_pos ⟨by omega,by rw [List.length_set];omega⟩,rdL_nat hx,rdL_nat (by rw [List.length_set];exact hx),List.getElem_set_self,List.set_set,i64w_succ hi (by omega),i64w_id (x:=1+2*(i:Int)+1) (by omega) (by omega),i64w_id (by omega) (by omega)]
   unfold mkA
   rw [show (0:Int)+(i:Int)=i by omega,show 1+2*(i:Int)+1=2+2*(i:Int) by omega,show 2+2*(i:Int)+1=1+2*((i+1:Nat):Int) by omega])
  (by
   show QaK.b0 N (marked mkA 0 a.length++a.drop a.length) (1+2*(a.length:Int)) (a.length:Int)=_
   unfold QaK.b0
   rw [if_neg (by rw [mark_length mkA 0 a _ (Nat.le_refl _)];omega),List.drop_length,List.append_nil])
 have q':rounds (fun s=>QaK.b0 N s.1 s.2.1 s.2.2) N (a,1,0)=some (.go (1+2*(a.length:Int),marked mkA 0 a.length)):=q
 unfold QaK.f
 rw [q',Option.bind_some]
 rfl
theorem heldAskS_eq {N n:Nat} (h:n≤60) (hN:n< N):QaJ.f N (marked mkA 0 n) 1=some (1+2*(n:Int)):=by
 have hl:=marked_len mkA 0 n
 have q:=rounds_for (b:=fun s=>QaJ.b0 N (marked mkA 0 n) s.1 s.2) (e:= .go (1+2*(n:Int))) (fun i=>(1+2*(i:Int),(i:Int))) n 0 N (Nat.zero_le _) (by simpa using hN)
  (fun i _ hi=>by
   show QaJ.b0 N (marked mkA 0 n) (1+2*(i:Int)) (i:Int)=some (.next (1+2*((i+1:Nat):Int),((i+1:Nat):Int)))
   unfold QaJ.b0
   rw [if_pos (by omega),if_pos ⟨by omega,by omega⟩,rdL_nat (by omega),marked_get,show (0:Int)+(i:Int)=i by omega,i64w_succ hi (by omega),i64w_id (x:=1+2*(i:Int)+1) (by omega) (by omega),i64w_id (by omega) (by omega),show 1+2*(i:Int)+1=2+2*(i:Int) by omega,show 2+2*(i:Int)+1=1+2*((i+1:Nat):Int) by omega]
   rw [if_pos (show (mkA (i:Int)).QaO=u64w (1+2*(i:Int)) from rfl),if_pos ⟨by omega,by omega⟩,if_pos (show (mkA (i:Int)).Qa1=((2+2*(i:Int)).tmod 3==0) from rfl)])
  (by
   show QaJ.b0 N (marked mkA 0 n) (1+2*(n:Int)) (n:Int)=_
   unfold QaJ.b0
   rw [if_neg (by omega)])
 have q':rounds (fun s=>QaJ.b0 N (marked mkA 0 n) s.1 s.2) N (1,0)=some (.go (1+2*(n:Int))):=q
 unfold QaJ.f
 rw [q',Option.bind_some]
 rfl
theorem QaS.told (a0:ByteArray):∃ N,QaS.f N a0=some true:=by
 by_cases h:(a0.size:Int)>1048576
 ·refine ⟨0,?_⟩
  unfold QaS.f
  rw [if_pos h]
 ·refine ⟨5000000,?_⟩
  obtain ⟨e,r,e1,hr⟩:=(Read_spec (N:=5000000) (s:=a0) (by omega) (by decide)).same (Read_impl (N:=5000000) (s:=a0) (by omega) (by decide))
  have e2:=e.symm.trans e1
  have hlen:r.1.Qap.length≤60:=by
   rcases hr with rfl|⟨G,rfl,hG⟩
   ·exact Nat.zero_le _
   ·exact (okG_iff hG.ok).len
  have em:Qa9.f 5000000 (⟨r.1.Qai,r.1.Qaq,r.1.Qap⟩:Qao) 1=some (1+2*(r.1.Qap.length:Int),marked mkA 0 r.1.Qap.length):=by
   unfold Qa9.f
   rw [markAskS_eq hlen (by omega),Option.bind_some]
  have hn:¬ (1+2*(r.1.Qap.length:Int)< 0):=by omega
  have eh:Qa2.f 5000000 (⟨r.1.Qai,r.1.Qaq,marked mkA 0 r.1.Qap.length⟩:Qao) 1=some (1+2*(r.1.Qap.length:Int)):=by
   unfold Qa2.f
   rw [heldAskS_eq hlen (by omega),Option.bind_some,if_neg hn]
  have eg:Qa6.f 5000000 (⟨r.1.Qai,r.1.Qaq,r.1.Qap⟩:Qao) (⟨r.1.Qai,r.1.Qaq,r.1.Qap⟩:Qao)=some true:=eqGame_same (N:=5000000) (G:=r.1) (by omega) (by omega)
  unfold QaS.f
  rw [if_neg h,e1,e2,Option.bind_some,Option.bind_some,eg,Option.bind_some,if_pos rfl,if_pos rfl,em,Option.bind_some]
  simp only
  rw [eh,Option.bind_some,if_neg hn,if_pos rfl,Option.bind_some,eg,Option.bind_some,if_pos rfl,if_pos rfl,Option.bind_some,if_neg hn,if_pos rfl]
end Go.Proofs.YtljkpeeabpdalaaDoorX
