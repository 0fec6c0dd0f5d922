/- part -/
import Derived.Test.YtkalnfkokkjliaaGreatDoorI0
set_option linter.all false
set_option maxHeartbeats 1000000
set_option maxRecDepth 100000
namespace Dv
open Go Go.Proofs
variable {G:Nat→Option (List DV)}
def zL:=qx Tryz.f230
theorem JD:aj Tryz.prog Tryz.f230=some zL:=by kernel_rfl
def Wl:=qx Tryz.f251
theorem SJ:aj Tryz.prog Tryz.f251=some Wl:=by kernel_rfl
attribute [local go_sem] u8
theorem UY (f:Nat) {m:Int} (h:m<128):iw f m=[m]:=by
 cases f with
 | zero=>rfl
 | succ f=>rw [iw,if_neg (by omega)]
theorem RA (m:Int) (h0:0≤m) (h1:m<128):BK .u8 m 128=m+128:=by
 obtain ⟨d,rfl⟩:=Int.eq_ofNat_of_zero_le h0
 have:∀ d:Fin 128,BK .u8 (d.val:Int) 128=(d.val:Int)+128:=by decide
 exact this ⟨d,by omega⟩
theorem u8_in (m:Int) (h0:0≤m) (h1:m<256):IntKind.u8.wrap m=m:=by
 simp [IntKind.wrap,IntKind.bits,IntKind.signed]; omega
def RM (p:Int×List Int):St:=⟨[(0,.int p.1),(3,.sl 0 p.2.length 1 0 p.2.length)],[some (.dat 5 1 (az p.2))]⟩
theorem EM (n:Int) (hn:isNum n=true) (fin:St→Prop) (A4:∀ s:St,s.get 2=.sl 0 (br n).length 1 0 (br n).length→s.obj 0=.live (.dat 5 1 (az (br n)))→fin s) :
  W Tryz.prog G fin [.c zL.2.1] ⟨fm 0 [.int n],[]⟩:=by
 have hn2:=of_decide_eq_true hn
 have hB:br n=iw 8 n:=by unfold br; rw [if_pos hn]
 rw [hB] at A4
 have h1:decide (n<0)=false:=decide_eq_false (by omega)
 have h2:decide (n>9007199254740991)=false:=decide_eq_false (by have:=hn2.2; unfold eF at this; omega)
 simp only [zL,h1,h2,go_sem]
 refine aR [0,3] [.t 3 5 1] (fun p:Int×List Int=>p.2++iw (8-p.2.length) p.1=iw 8 n∧0≤p.1∧p.1*128 ^ p.2.length≤eF∧p.2.length≤7) (fun p=>p.1.toNat) RM (n,[]) ?_ ⟨rfl,hn2.1,by simpa using hn2.2,Nat.zero_le _⟩ ?_
 ·simp only [RM,az,go_sem]
 rintro ⟨m,pre⟩ ⟨hd,hm0,hmx,hk7⟩
 dsimp only at hd hm0 hmx hk7
 generalize hk:pre.length=k at *
 have hlen:(az pre).length=k:=by simp [az,hk]
 simp only [RM,hk,go_sem]
 by_cases hm:128≤m
 case neg=>
  rw [UY _ (by omega)] at hd
  have hlk:(iw 8 n).length=k+1:=by rw [← hd]; simp [hk]
  have h7:(k=(az pre).length∧(az pre++[[DV.val (Value.int IntKind.u8 m)]]).length*1≤70368744177664):=⟨hlen.symm,by simp [hlen]; omega⟩
  simp only [decide_eq_false (show ¬ m≥128 by omega),u8_in m hm0 (by omega),go_sem]
  rw [if_pos h7]
  simp only [hlen,go_sem]
  refine A4 _ ?_ ?_
  ·rw [hlk]; rfl
  ·simp [← hd,az,St.obj,au,u8]
 have ZG:k≤6:=by
  rcases Nat.lt_or_ge k 7 with h | h
  ·omega
  ·exfalso
   have h1:(128:Int) ^ 7≤128 ^ k:=by exact_mod_cast Nat.pow_le_pow_right (by decide) h
   have h2:128*(128:Int) ^ 7≤m*128 ^ k:=Int.mul_le_mul hm h1 (by decide) hm0
   unfold eF at hmx
   omega
 have LN:0≤m % 128:=Int.emod_nonneg _ (by decide)
 have QK:m % 128<128:=Int.emod_lt_of_pos _ (by decide)
 have Zq:m.tmod 128=m % 128:=Int.tmod_eq_emod_of_nonneg hm0
 have abg:vC .i64 m 7=m / 128:=CG m 7 (by decide)
 have h7:(k=(az pre).length∧(az pre++[[DV.val (Value.int IntKind.u8 (m % 128+128))]]).length*1≤70368744177664):=⟨hlen.symm,by simp [hlen]; omega⟩
 simp only [decide_eq_true (show m≥128 by omega),Zq,u8_in (m % 128) LN (by omega),RA _ LN QK,abg,ne_eq,not_false_eq_true,show ((128:Int)=0)=False from by decide,go_sem]
 rw [if_pos h7]
 simp only [hlen,go_sem]
 have hp8:(0:Int)<128 ^ k:=Int.pow_pos (by decide)
 refine bg (m / 128,pre++[m % 128+128]) ?_ ?_ ⟨?_,Int.ediv_nonneg hm0 (by decide),?_,by simp [hk]; omega⟩ (by dsimp only; omega)
 ·simp only [go_sem]
 ·simp only [RM,az,List.map_append,List.length_append,hk,abg,go_sem]
 ·dsimp only
  rw [← hd,show 8-k=(8-(k+1))+1 by omega,iw,if_pos hm]
  simp [hk]
 ·dsimp only
  have e1:(pre++[m % 128+128]).length=k+1:=by simp [hk]
  have e2:m / 128*128≤m:=Int.ediv_mul_le m (by decide)
  have e3:m / 128*128*128 ^ k≤m*128 ^ k:=Int.mul_le_mul_of_nonneg_right e2 (Int.le_of_lt hp8)
  rw [e1,Int.pow_succ,Int.mul_comm ((128:Int) ^ k) 128,← Int.mul_assoc]
  omega
theorem Ar:∀ (f:Nat) (m:Int),1≤(iw f m).length∧(iw f m).length≤f+1
 | 0,m=>by simp [iw]
 | f+1,m=>by
   unfold iw
   split
   ·have:=Ar f (m / 128); simp; omega
   ·simp
theorem Oj {n:Int} (h:isNum n=true):1≤(br n).length:=by unfold br; rw [if_pos h]; exact (Ar 8 n).1
theorem iA (n:Int):(br n).length≤9:=by
 unfold br
 split
 ·exact (Ar 8 n).2
 ·simp
theorem Oi (n:Int) (hn:isNum n=true):bh Tryz.prog G 230 [.int n] [] (.sl 0 (br n).length 1 0 (br n).length) [.dat 5 1 (az (br n))]:=by
 refine cA Tryz.func230 (by decide) JD rfl ?_
 exact EM n hn _ (fun s h1 h2=>sx (o:=0) [] (by simp [yf.of,RV.of,c_,h1,zL,qxE]) h2)
attribute [local go_sem] ak
theorem om (n:Int):bh Tryz.prog G 230 [.int n] [] (ak (br n)) []:=by
 refine cA Tryz.func230 (by decide) JD rfl ?_
 by_cases hn:isNum n=true
 ·refine EM n hn _ (fun s h1 h2=>dZ [0] (vs:=[.sl 0 (br n).length 1 0 (br n).length]) (by simp [yf.of,RV.of,h1,zL,qxE]) (fun z hz=>?_) ?_)
  ·simp at hz; subst hz; exact ⟨_,_,_,.inl h2⟩
  ·simp [aP,ah,bB,h2,az,ak,List.take_of_length_le]
 ·have hB:br n=[]:=by unfold br; rw [if_neg hn]
  rw [hB]
  by_cases h0:n<0
  ·simp only [zL,decide_eq_true h0,go_sem]
   exact xx rfl (by simp [aP,ah,ak,az,St.get,aW])
  ·have h2:n>9007199254740991:=by
    unfold isNum eF at hn
    simp at hn; omega
   simp only [zL,decide_eq_false h0,decide_eq_true h2,go_sem]
   exact xx rfl (by simp [aP,ah,ak,az,St.get,aW])
def liS (l:List Int) (i:Nat):St:=⟨[(3,.sl 0 (br l.length++(l.take i).flatMap br).length 1 0 (br l.length++(l.take i).flatMap br).length),(10,.d (.dK 1 (gW l))),(11,.int l.length),(12,.int i)],[some (.dat 5 1 (az (br l.length++(l.take i).flatMap br)))]⟩
attribute [local go_sem] gW
theorem JX (l:List Int):(l.flatMap br).length≤9*l.length:=by
 induction l with
 | nil=>simp
 | cons x l ih=>rw [List.flatMap_cons,List.length_append,List.length_cons]; have:=iA x; omega
theorem j9 (l:List Int) (hl:l.length≤1000000):bh Tryz.prog G 251 [.d (.dK 1 (gW l))] [] (ak (jt l)) []:=by
 have hlr:(gW l).length=l.length:=by simp [gW]
 have hnl:isNum (l.length:Int)=true:=by unfold isNum eF; simp; omega
 refine cA Tryz.func251 (by decide) SJ rfl ?_
 simp only [Wl,hlr,go_sem]
 refine gu (Oi (l.length:Int) hnl) rfl rfl rfl ?_
 simp only [hlr,go_sem]
 refine aR [3,10,11,12] [] (fun i:Nat=>i≤l.length∧(l.take i).all isNum=true) (fun i=>l.length-i) (liS l) 0 ?_ ⟨Nat.zero_le _,by simp⟩ ?_
 ·simp only [liS,List.flatMap_nil,Int.natCast_zero,go_sem]
 rintro i ⟨hi,hall⟩
 generalize hpre:br l.length++(l.take i).flatMap br=pre at *
 have lZ:pre.length≤9000009:=by
  rw [← hpre,List.length_append]
  have h1:=JX (l.take i)
  have h2:=iA (l.length:Int)
  rw [List.length_take] at h1
  omega
 have Ut:(az pre).length=pre.length:=by simp [az]
 simp only [liS,hpre,go_sem]
 cases hlt:decide ((i:Int)<(l.length:Int)) with
 | false=>
   have hi2:i=l.length:=by have:=of_decide_eq_false hlt; omega
   rw [hi2,List.take_length] at hpre hall
   have hB:jt l=pre:=by unfold jt; rw [if_pos hall,hpre]
   simp only [go_sem]
   rw [hB]
   exact dZ [0] rfl (by simp [St.obj,au]) (by simp [St.obj,au,aP,St.get,aW,ah,bB,Ut,az,List.take_of_length_le])
 | true=>
 have hi2:i<l.length:=by have:=of_decide_eq_true hlt; omega
 have hg:=aK (f:=fun n:Int=>[i64 n]) 0 hi2
 have hm:l.getD i 0∈l:=by simp [List.getD,hi2]
 have htk:l.take (i+1)=l.take i++[l.getD i 0]:=by rw [List.take_add_one]; simp [List.getD,hi2]
 generalize l.getD i 0=x at *
 simp only [i64] at hg
 simp only [hg,go_sem]
 refine ax (om x) rfl rfl rfl rfl ?_; simp only [go_sem]
 have hxl:(az (br x)).length=(br x).length:=by simp [az]
 by_cases hx:isNum x=true
 case neg=>
  have hB:br x=[]:=by unfold br; rw [if_neg hx]
  have hL:jt l=[]:=by
   unfold jt; rw [if_neg]; intro h; rw [List.all_eq_true] at h; exact hx (h x hm)
  have e0:((((az (br x)).length:Nat):Int)==0)=true:=by rw [hB]; rfl
  simp only [e0,hL,go_sem]
  exact xx rfl (by simp [aP,ah,ak,az,St.get,aW])
 have hp:=Oj hx
 have hq:=iA x
 have e0:((((az (br x)).length:Nat):Int)==0)=false:=by rw [hxl]; exact beq_eq_false_iff_ne.2 (by omega)
 have uG:(az pre++az (br x)).length*1≤70368744177664:=by rw [List.length_append,Ut,hxl]; omega
 simp only [e0,go_sem]
 rw [if_pos ⟨Ut.symm,uG⟩]
 simp only [Ut,hxl,go_sem]
 have hnew:br l.length++(l.take (i+1)).flatMap br=pre++br x:=by rw [htk,List.flatMap_append,← List.append_assoc,hpre]; simp
 refine bg (i+1) ?_ ?_ ⟨by omega,by rw [htk,List.all_append,hall]; simp [hx]⟩ (by omega)
 ·simp only [go_sem]
 ·simp only [liS,hnew,az,List.map_append,List.length_append,aG (show i<9223372036854775807 by omega),go_sem]
end Dv
