/- part -/
import Derived.Test.YtkalnfkokkjliaaGreatDoorI0
set_option linter.all false
set_option maxHeartbeats 1000000
set_option maxRecDepth 100000
namespace Dv
open Go Go.Proofs
variable {G:Nat→Option (List DV)}
def z_:=qx Tryz.f230
theorem Kg:aj Tryz.prog Tryz.f230=some z_:=by kernel_rfl
def W5:=qx Tryz.f251
theorem Tq:aj Tryz.prog Tryz.f251=some W5:=by kernel_rfl
attribute [local go_sem] u8
theorem VB (f:Nat) {m:Int} (h:m<128):iF f m=[m]:=by
 cases f with
 | zero=>rfl
 | succ f=>rw [iF,if_neg (by omega)]
theorem Sd (m:Int) (h0:0≤m) (h1:m<128):B9 .u8 m 128=m+128:=by
 obtain ⟨d,rfl⟩:=Int.eq_ofNat_of_zero_le h0
 have:∀ d:Fin 128,B9 .u8 (d.val:Int) 128=(d.val:Int)+128:=by decide
 exact this ⟨d,by omega⟩
theorem u8_in (m:Int) (h0:0≤m) (h1:m<256):IntKind.u8.wrap m=m:=by
 simp [IntKind.wrap,IntKind.bits,IntKind.signed]; omega
def Sq (p:Int×List Int):St:=⟨[(0,.int p.1),(3,.sl 0 p.2.length 1 0 p.2.length)],[some (.dat 5 1 (aB p.2))]⟩
theorem Fv (n:Int) (hn:isNum n=true) (fin:St→Prop) (Bq:∀ s:St,s.get 2=.sl 0 (bz n).length 1 0 (bz n).length→s.obj 0=.live (.dat 5 1 (aB (bz n)))→fin s) :
  W Tryz.prog G fin [.c z_.2.1] ⟨fF 0 [.int n],[]⟩:=by
 have hn2:=of_decide_eq_true hn
 have hB:bz n=iF 8 n:=by unfold bz; rw [if_pos hn]
 rw [hB] at Bq
 have h1:decide (n<0)=false:=decide_eq_false (by omega)
 have h2:decide (n>9007199254740991)=false:=decide_eq_false (by have:=hn2.2; unfold eT at this; omega)
 simp only [z_,h1,h2,go_sem]
 refine aW [0,3] [.t 3 5 1] (fun p:Int×List Int=>p.2++iF (8-p.2.length) p.1=iF 8 n∧0≤p.1∧p.1*128 ^ p.2.length≤eT∧p.2.length≤7) (fun p=>p.1.toNat) Sq (n,[]) ?_ ⟨rfl,hn2.1,by simpa using hn2.2,Nat.zero_le _⟩ ?_
 ·simp only [Sq,aB,go_sem]
 rintro ⟨m,pre⟩ ⟨hd,hm0,hmx,hk7⟩
 dsimp only at hd hm0 hmx hk7
 generalize hk:pre.length=k at *
 have hlen:(aB pre).length=k:=by simp [aB,hk]
 simp only [Sq,hk,go_sem]
 by_cases hm:128≤m
 case neg=>
  rw [VB _ (by omega)] at hd
  have hlk:(iF 8 n).length=k+1:=by rw [← hd]; simp [hk]
  have h7:(k=(aB pre).length∧(aB pre++[[DV.val (Value.int IntKind.u8 m)]]).length*1≤70368744177664):=⟨hlen.symm,by simp [hlen]; omega⟩
  simp only [decide_eq_false (show ¬ m≥128 by omega),u8_in m hm0 (by omega),go_sem]
  rw [if_pos h7]
  simp only [hlen,go_sem]
  refine Bq _ ?_ ?_
  ·rw [hlk]; rfl
  ·simp [← hd,aB,St.obj,aD,u8]
 have hk6:k≤6:=by
  rcases Nat.lt_or_ge k 7 with h | h
  ·omega
  ·exfalso
   have h1:(128:Int) ^ 7≤128 ^ k:=by exact_mod_cast Nat.pow_le_pow_right (by decide) h
   have h2:128*(128:Int) ^ 7≤m*128 ^ k:=Int.mul_le_mul hm h1 (by decide) hm0
   unfold eT at hmx
   omega
 have Mo:0≤m % 128:=Int.emod_nonneg _ (by decide)
 have Rt:m % 128<128:=Int.emod_lt_of_pos _ (by decide)
 have Z0:m.tmod 128=m % 128:=Int.tmod_eq_emod_of_nonneg hm0
 have abA:vK .i64 m 7=m / 128:=Dh m 7 (by decide)
 have h7:(k=(aB pre).length∧(aB pre++[[DV.val (Value.int IntKind.u8 (m % 128+128))]]).length*1≤70368744177664):=⟨hlen.symm,by simp [hlen]; omega⟩
 simp only [decide_eq_true (show m≥128 by omega),Z0,u8_in (m % 128) Mo (by omega),Sd _ Mo Rt,abA,ne_eq,not_false_eq_true,show ((128:Int)=0)=False from by decide,go_sem]
 rw [if_pos h7]
 simp only [hlen,go_sem]
 have hp8:(0:Int)<128 ^ k:=Int.pow_pos (by decide)
 refine a_ (m / 128,pre++[m % 128+128]) ?_ ?_ ⟨?_,Int.ediv_nonneg hm0 (by decide),?_,by simp [hk]; omega⟩ (by dsimp only; omega)
 ·simp only [go_sem]
 ·simp only [Sq,aB,List.map_append,List.length_append,hk,abA,go_sem]
 ·dsimp only
  rw [← hd,show 8-k=(8-(k+1))+1 by omega,iF,if_pos hm]
  simp [hk]
 ·dsimp only
  have e1:(pre++[m % 128+128]).length=k+1:=by simp [hk]
  have e2:m / 128*128≤m:=Int.ediv_mul_le m (by decide)
  have e3:m / 128*128*128 ^ k≤m*128 ^ k:=Int.mul_le_mul_of_nonneg_right e2 (Int.le_of_lt hp8)
  rw [e1,Int.pow_succ,Int.mul_comm ((128:Int) ^ k) 128,← Int.mul_assoc]
  omega
theorem AE:∀ (f:Nat) (m:Int),1≤(iF f m).length∧(iF f m).length≤f+1
 | 0,m=>by simp [iF]
 | f+1,m=>by
   unfold iF
   split
   ·have:=AE f (m / 128); simp; omega
   ·simp
theorem OT {n:Int} (h:isNum n=true):1≤(bz n).length:=by unfold bz; rw [if_pos h]; exact (AE 8 n).1
theorem iK (n:Int):(bz n).length≤9:=by
 unfold bz
 split
 ·exact (AE 8 n).2
 ·simp
theorem OS (n:Int) (hn:isNum n=true):bw Tryz.prog G 230 [.int n] [] (.sl 0 (bz n).length 1 0 (bz n).length) [.dat 5 1 (aB (bz n))]:=by
 refine cD Tryz.func230 (by decide) Kg rfl ?_
 exact Fv n hn _ (fun s h1 h2=>sN (o:=0) [] (by simp [yE.of,RV.of,dg,h1,z_,qxE]) h2)
attribute [local go_sem] aq
theorem oI (n:Int):bw Tryz.prog G 230 [.int n] [] (aq (bz n)) []:=by
 refine cD Tryz.func230 (by decide) Kg rfl ?_
 by_cases hn:isNum n=true
 ·refine Fv n hn _ (fun s h1 h2=>dP [0] (vs:=[.sl 0 (bz n).length 1 0 (bz n).length]) (by simp [yE.of,RV.of,h1,z_,qxE]) (fun z hz=>?_) ?_)
  ·simp at hz; subst hz; exact ⟨_,_,_,.inl h2⟩
  ·simp [aU,ah,bG,h2,aB,aq,List.take_of_length_le]
 ·have hB:bz n=[]:=by unfold bz; rw [if_neg hn]
  rw [hB]
  by_cases h0:n<0
  ·simp only [z_,decide_eq_true h0,go_sem]
   exact xM rfl (by simp [aU,ah,aq,aB,St.get,aZ])
  ·have h2:n>9007199254740991:=by
    unfold isNum eT at hn
    simp at hn; omega
   simp only [z_,decide_eq_false h0,decide_eq_true h2,go_sem]
   exact xM rfl (by simp [aU,ah,aq,aB,St.get,aZ])
def liS (l:List Int) (i:Nat):St:=⟨[(3,.sl 0 (bz l.length++(l.take i).flatMap bz).length 1 0 (bz l.length++(l.take i).flatMap bz).length),(10,.d (.dH 1 (iu l))),(11,.int l.length),(12,.int i)],[some (.dat 5 1 (aB (bz l.length++(l.take i).flatMap bz)))]⟩
attribute [local go_sem] iu
theorem KA (l:List Int):(l.flatMap bz).length≤9*l.length:=by
 induction l with
 | nil=>simp
 | cons x l ih=>rw [List.flatMap_cons,List.length_append,List.length_cons]; have:=iK x; omega
theorem ki (l:List Int) (hl:l.length≤1000000):bw Tryz.prog G 251 [.d (.dH 1 (iu l))] [] (aq (jF l)) []:=by
 have hlr:(iu l).length=l.length:=by simp [iu]
 have hnl:isNum (l.length:Int)=true:=by unfold isNum eT; simp; omega
 refine cD Tryz.func251 (by decide) Tq rfl ?_
 simp only [W5,hlr,go_sem]
 refine jw (OS (l.length:Int) hnl) rfl rfl rfl ?_
 simp only [hlr,go_sem]
 refine aW [3,10,11,12] [] (fun i:Nat=>i≤l.length∧(l.take i).all isNum=true) (fun i=>l.length-i) (liS l) 0 ?_ ⟨Nat.zero_le _,by simp⟩ ?_
 ·simp only [liS,List.flatMap_nil,Int.natCast_zero,go_sem]
 rintro i ⟨hi,hall⟩
 generalize hpre:bz l.length++(l.take i).flatMap bz=pre at *
 have lZ:pre.length≤9000009:=by
  rw [← hpre,List.length_append]
  have h1:=KA (l.take i)
  have h2:=iK (l.length:Int)
  rw [List.length_take] at h1
  omega
 have U5:(aB pre).length=pre.length:=by simp [aB]
 simp only [liS,hpre,go_sem]
 cases hlt:decide ((i:Int)<(l.length:Int)) with
 | false=>
   have hi2:i=l.length:=by have:=of_decide_eq_false hlt; omega
   rw [hi2,List.take_length] at hpre hall
   have hB:jF l=pre:=by unfold jF; rw [if_pos hall,hpre]
   simp only [go_sem]
   rw [hB]
   exact dP [0] rfl (by simp [St.obj,aD]) (by simp [St.obj,aD,aU,St.get,aZ,ah,bG,U5,aB,List.take_of_length_le])
 | true=>
 have hi2:i<l.length:=by have:=of_decide_eq_true hlt; omega
 have hg:=aJ (f:=fun n:Int=>[i64 n]) 0 hi2
 have hm:l.getD i 0∈l:=by simp [List.getD,hi2]
 have htk:l.take (i+1)=l.take i++[l.getD i 0]:=by rw [List.take_add_one]; simp [List.getD,hi2]
 generalize l.getD i 0=x at *
 simp only [i64] at hg
 simp only [hg,go_sem]
 refine ay (oI x) rfl rfl rfl rfl ?_; simp only [go_sem]
 have hxl:(aB (bz x)).length=(bz x).length:=by simp [aB]
 by_cases hx:isNum x=true
 case neg=>
  have hB:bz x=[]:=by unfold bz; rw [if_neg hx]
  have hL:jF l=[]:=by
   unfold jF; rw [if_neg]; intro h; rw [List.all_eq_true] at h; exact hx (h x hm)
  have e0:((((aB (bz x)).length:Nat):Int)==0)=true:=by rw [hB]; rfl
  simp only [e0,hL,go_sem]
  exact xM rfl (by simp [aU,ah,aq,aB,St.get,aZ])
 have hp:=OT hx
 have hq:=iK x
 have e0:((((aB (bz x)).length:Nat):Int)==0)=false:=by rw [hxl]; exact beq_eq_false_iff_ne.2 (by omega)
 have uQ:(aB pre++aB (bz x)).length*1≤70368744177664:=by rw [List.length_append,U5,hxl]; omega
 simp only [e0,go_sem]
 rw [if_pos ⟨U5.symm,uQ⟩]
 simp only [U5,hxl,go_sem]
 have hnew:bz l.length++(l.take (i+1)).flatMap bz=pre++bz x:=by rw [htk,List.flatMap_append,← List.append_assoc,hpre]; simp
 refine a_ (i+1) ?_ ?_ ⟨by omega,by rw [htk,List.all_append,hall]; simp [hx]⟩ (by omega)
 ·simp only [go_sem]
 ·simp only [liS,hnew,aB,List.map_append,List.length_append,aG (show i<9223372036854775807 by omega),go_sem]
end Dv
