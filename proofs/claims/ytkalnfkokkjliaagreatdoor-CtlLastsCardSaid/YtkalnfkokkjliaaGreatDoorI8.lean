/- part -/
import Derived.Test.YtkalnfkokkjliaaGreatDoorI0
set_option linter.all false
set_option maxHeartbeats 1000000
set_option maxRecDepth 100000
namespace Dv
open Go Go.Proofs
variable {G:Nat→Option (List DV)}
def Az:=qx Tryz.f230
theorem Kv:aj Tryz.prog Tryz.f230=some Az:=by kernel_rfl
def Xt:=qx Tryz.f251
theorem TE:aj Tryz.prog Tryz.f251=some Xt:=by kernel_rfl
attribute [local go_sem] u8
theorem VV (f:Nat) {m:Int} (h:m<128):iM f m=[m]:=by
 cases f with
 | zero=>rfl
 | succ f=>rw [iM,if_neg (by omega)]
theorem Sv (m:Int) (h0:0≤m) (h1:m<128):Cs .u8 m 128=m+128:=by
 obtain ⟨d,rfl⟩:=Int.eq_ofNat_of_zero_le h0
 have:∀ d:Fin 128,Cs .u8 (d.val:Int) 128=(d.val:Int)+128:=by decide
 exact this ⟨d,by omega⟩
theorem u8_in (m:Int) (h0:0≤m) (h1:m<256):IntKind.u8.wrap m=m:=by
 simp [IntKind.wrap,IntKind.bits,IntKind.signed]; omega
def SG (p:Int×List Int):St:=⟨[(0,.int p.1),(3,.sl 0 p.2.length 1 0 p.2.length)],[some (.dat 5 1 (aB p.2))]⟩
theorem FK (n:Int) (hn:isNum n=true) (fin:St→Prop) (u7:∀ s:St,s.get 2=.sl 0 (bw n).length 1 0 (bw n).length→s.obj 0=.live (.dat 5 1 (aB (bw n)))→fin s) :
  W Tryz.prog G fin [.c Az.2.1] ⟨fB 0 [.int n],[]⟩:=by
 have hn2:=of_decide_eq_true hn
 have hB:bw n=iM 8 n:=by unfold bw; rw [if_pos hn]
 rw [hB] at u7
 have h1:decide (n<0)=false:=decide_eq_false (by omega)
 have h2:decide (n>9007199254740991)=false:=decide_eq_false (by have:=hn2.2; unfold eV at this; omega)
 simp only [Az,h1,h2,go_sem]
 refine aW [0,3] [.t 3 5 1] (fun p:Int×List Int=>p.2++iM (8-p.2.length) p.1=iM 8 n∧0≤p.1∧p.1*128 ^ p.2.length≤eV∧p.2.length≤7) (fun p=>p.1.toNat) SG (n,[]) ?_ ⟨rfl,hn2.1,by simpa using hn2.2,Nat.zero_le _⟩ ?_
 ·simp only [SG,aB,go_sem]
 rintro ⟨m,pre⟩ ⟨hd,hm0,hmx,hk7⟩
 dsimp only at hd hm0 hmx hk7
 generalize hk:pre.length=k at *
 have hlen:(aB pre).length=k:=by simp [aB,hk]
 simp only [SG,hk,go_sem]
 by_cases hm:128≤m
 case neg=>
  rw [VV _ (by omega)] at hd
  have hlk:(iM 8 n).length=k+1:=by rw [← hd]; simp [hk]
  have h7:(k=(aB pre).length∧(aB pre++[[DV.val (Value.int IntKind.u8 m)]]).length*1≤70368744177664):=⟨hlen.symm,by simp [hlen]; omega⟩
  simp only [decide_eq_false (show ¬ m≥128 by omega),u8_in m hm0 (by omega),go_sem]
  rw [if_pos h7]
  simp only [hlen,go_sem]
  refine u7 _ ?_ ?_
  ·rw [hlk]; rfl
  ·simp [← hd,aB,St.obj,aC,u8]
 have hk6:k≤6:=by
  rcases Nat.lt_or_ge k 7 with h | h
  ·omega
  ·exfalso
   have h1:(128:Int) ^ 7≤128 ^ k:=by exact_mod_cast Nat.pow_le_pow_right (by decide) h
   have h2:128*(128:Int) ^ 7≤m*128 ^ k:=Int.mul_le_mul hm h1 (by decide) hm0
   unfold eV at hmx
   omega
 have Hi:0≤m % 128:=Int.emod_nonneg _ (by decide)
 have IN:m % 128<128:=Int.emod_lt_of_pos _ (by decide)
 have aaj:m.tmod 128=m % 128:=Int.tmod_eq_emod_of_nonneg hm0
 have abP:v8 .i64 m 7=m / 128:=DB m 7 (by decide)
 have h7:(k=(aB pre).length∧(aB pre++[[DV.val (Value.int IntKind.u8 (m % 128+128))]]).length*1≤70368744177664):=⟨hlen.symm,by simp [hlen]; omega⟩
 simp only [decide_eq_true (show m≥128 by omega),aaj,u8_in (m % 128) Hi (by omega),Sv _ Hi IN,abP,ne_eq,not_false_eq_true,show ((128:Int)=0)=False from by decide,go_sem]
 rw [if_pos h7]
 simp only [hlen,go_sem]
 have hp8:(0:Int)<128 ^ k:=Int.pow_pos (by decide)
 refine bh (m / 128,pre++[m % 128+128]) ?_ ?_ ⟨?_,Int.ediv_nonneg hm0 (by decide),?_,by simp [hk]; omega⟩ (by dsimp only; omega)
 ·simp only [go_sem]
 ·simp only [SG,aB,List.map_append,List.length_append,hk,abP,go_sem]
 ·dsimp only
  rw [← hd,show 8-k=(8-(k+1))+1 by omega,iM,if_pos hm]
  simp [hk]
 ·dsimp only
  have e1:(pre++[m % 128+128]).length=k+1:=by simp [hk]
  have e2:m / 128*128≤m:=Int.ediv_mul_le m (by decide)
  have e3:m / 128*128*128 ^ k≤m*128 ^ k:=Int.mul_le_mul_of_nonneg_right e2 (Int.le_of_lt hp8)
  rw [e1,Int.pow_succ,Int.mul_comm ((128:Int) ^ k) 128,← Int.mul_assoc]
  omega
theorem A8:∀ (f:Nat) (m:Int),1≤(iM f m).length∧(iM f m).length≤f+1
 | 0,m=>by simp [iM]
 | f+1,m=>by
   unfold iM
   split
   ·have:=A8 f (m / 128); simp; omega
   ·simp
theorem Pc {n:Int} (h:isNum n=true):1≤(bw n).length:=by unfold bw; rw [if_pos h]; exact (A8 8 n).1
theorem iQ (n:Int):(bw n).length≤9:=by
 unfold bw
 split
 ·exact (A8 8 n).2
 ·simp
theorem Pb (n:Int) (hn:isNum n=true):bu Tryz.prog G 230 [.int n] [] (.sl 0 (bw n).length 1 0 (bw n).length) [.dat 5 1 (aB (bw n))]:=by
 refine cI Tryz.func230 (by decide) Kv rfl ?_
 exact FK n hn _ (fun s h1 h2=>s7 (o:=0) [] (by simp [yB.of,RV.of,b_,h1,Az,qxE]) h2)
attribute [local go_sem] aq
theorem oS (n:Int):bu Tryz.prog G 230 [.int n] [] (aq (bw n)) []:=by
 refine cI Tryz.func230 (by decide) Kv rfl ?_
 by_cases hn:isNum n=true
 ·refine FK n hn _ (fun s h1 h2=>dQ [0] (vs:=[.sl 0 (bw n).length 1 0 (bw n).length]) (by simp [yB.of,RV.of,h1,Az,qxE]) (fun z hz=>?_) ?_)
  ·simp at hz; subst hz; exact ⟨_,_,_,.inl h2⟩
  ·simp [aV,ah,bK,h2,aB,aq,List.take_of_length_le]
 ·have hB:bw n=[]:=by unfold bw; rw [if_neg hn]
  rw [hB]
  by_cases h0:n<0
  ·simp only [Az,decide_eq_true h0,go_sem]
   exact yg rfl (by simp [aV,ah,aq,aB,St.get,aY])
  ·have h2:n>9007199254740991:=by
    unfold isNum eV at hn
    simp at hn; omega
   simp only [Az,decide_eq_false h0,decide_eq_true h2,go_sem]
   exact yg rfl (by simp [aV,ah,aq,aB,St.get,aY])
def liS (l:List Int) (i:Nat):St:=⟨[(3,.sl 0 (bw l.length++(l.take i).flatMap bw).length 1 0 (bw l.length++(l.take i).flatMap bw).length),(10,.d (.dO 1 (iE l))),(11,.int l.length),(12,.int i)],[some (.dat 5 1 (aB (bw l.length++(l.take i).flatMap bw)))]⟩
attribute [local go_sem] iE
theorem KR (l:List Int):(l.flatMap bw).length≤9*l.length:=by
 induction l with
 | nil=>simp
 | cons x l ih=>rw [List.flatMap_cons,List.length_append,List.length_cons]; have:=iQ x; omega
theorem ku (l:List Int) (hl:l.length≤1000000):bu Tryz.prog G 251 [.d (.dO 1 (iE l))] [] (aq (jJ l)) []:=by
 have hlr:(iE l).length=l.length:=by simp [iE]
 have hnl:isNum (l.length:Int)=true:=by unfold isNum eV; simp; omega
 refine cI Tryz.func251 (by decide) TE rfl ?_
 simp only [Xt,hlr,go_sem]
 refine jD (Pb (l.length:Int) hnl) rfl rfl rfl ?_
 simp only [hlr,go_sem]
 refine aW [3,10,11,12] [] (fun i:Nat=>i≤l.length∧(l.take i).all isNum=true) (fun i=>l.length-i) (liS l) 0 ?_ ⟨Nat.zero_le _,by simp⟩ ?_
 ·simp only [liS,List.flatMap_nil,Int.natCast_zero,go_sem]
 rintro i ⟨hi,hall⟩
 generalize hpre:bw l.length++(l.take i).flatMap bw=pre at *
 have mg:pre.length≤9000009:=by
  rw [← hpre,List.length_append]
  have h1:=KR (l.take i)
  have h2:=iQ (l.length:Int)
  rw [List.length_take] at h1
  omega
 have Vg:(aB pre).length=pre.length:=by simp [aB]
 simp only [liS,hpre,go_sem]
 cases hlt:decide ((i:Int)<(l.length:Int)) with
 | false=>
   have hi2:i=l.length:=by have:=of_decide_eq_false hlt; omega
   rw [hi2,List.take_length] at hpre hall
   have hB:jJ l=pre:=by unfold jJ; rw [if_pos hall,hpre]
   simp only [go_sem]
   rw [hB]
   exact dQ [0] rfl (by simp [St.obj,aC]) (by simp [St.obj,aC,aV,St.get,aY,ah,bK,Vg,aB,List.take_of_length_le])
 | true=>
 have hi2:i<l.length:=by have:=of_decide_eq_true hlt; omega
 have hg:=aM (f:=fun n:Int=>[i64 n]) 0 hi2
 have hm:l.getD i 0∈l:=by simp [List.getD,hi2]
 have htk:l.take (i+1)=l.take i++[l.getD i 0]:=by rw [List.take_add_one]; simp [List.getD,hi2]
 generalize l.getD i 0=x at *
 simp only [i64] at hg
 simp only [hg,go_sem]
 refine av (oS x) rfl rfl rfl rfl ?_; simp only [go_sem]
 have hxl:(aB (bw x)).length=(bw x).length:=by simp [aB]
 by_cases hx:isNum x=true
 case neg=>
  have hB:bw x=[]:=by unfold bw; rw [if_neg hx]
  have hL:jJ l=[]:=by
   unfold jJ; rw [if_neg]; intro h; rw [List.all_eq_true] at h; exact hx (h x hm)
  have e0:((((aB (bw x)).length:Nat):Int)==0)=true:=by rw [hB]; rfl
  simp only [e0,hL,go_sem]
  exact yg rfl (by simp [aV,ah,aq,aB,St.get,aY])
 have hp:=Pc hx
 have hq:=iQ x
 have e0:((((aB (bw x)).length:Nat):Int)==0)=false:=by rw [hxl]; exact beq_eq_false_iff_ne.2 (by omega)
 have vg:(aB pre++aB (bw x)).length*1≤70368744177664:=by rw [List.length_append,Vg,hxl]; omega
 simp only [e0,go_sem]
 rw [if_pos ⟨Vg.symm,vg⟩]
 simp only [Vg,hxl,go_sem]
 have hnew:bw l.length++(l.take (i+1)).flatMap bw=pre++bw x:=by rw [htk,List.flatMap_append,← List.append_assoc,hpre]; simp
 refine bh (i+1) ?_ ?_ ⟨by omega,by rw [htk,List.all_append,hall]; simp [hx]⟩ (by omega)
 ·simp only [go_sem]
 ·simp only [liS,hnew,aB,List.map_append,List.length_append,aH (show i<9223372036854775807 by omega),go_sem]
end Dv
