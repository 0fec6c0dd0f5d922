/- code: a number as bytes, a list as bytes. -/
import Derived.Test.YtkalnfkokkjliaaGreatDoorI0
set_option linter.unusedVariables false
set_option linter.unusedSimpArgs false
namespace Dv
open Go Go.Proofs
variable {G:Nat→Option (List DV)}
def wg:Nat×C×List RV:=(26,
(.seq (.af [qo 2 (.mv (.c (.val (.slice none 0 0))))])
 (.seq (.seq (.af [qm 4 0,
 qo 5 (.bin .lss (.t 4) (qk 0)),
 qm 6 5,
 qg 7 (.mv (.t 0)) 6 false,
 qg 8 (.bin .gtr (.t 7) (qk 9007199254740991)) 6 false,
 qo 9 (.pick (.t 6) qt (.t 8))])
 (.cond (.t 9) (.seq (.af [qo 2 (.mv (.c (.val (.slice none 0 0))))])
 .ret)
 .skip))
 (.seq (.af [qo 3 (.mv (.c (.val (.slice none 0 0))))])
 (.seq (.block 0 (.loop (.seq (.seq (.af [qm 10 0,
 qo 11 (.bin .geq (.t 10) (qk 128))])
 (.cond (.t 11) .skip
 (.exit 0)))
 (.block 1 (.seq (.af [qm 12 3,
 qm 13 0,
 qo 14 (.bin .rem (.t 13) (qk 128)),
 qo 15 (.y2 .u8 (.t 14)),
 qo 16 (.bin .or (.t 15) (.c (.val (.int .u8 128)))),
 qo 17 (.nh 5 1 [(.t 16)]),
 qo 18 (.app 5 1 1 (.t 12) (.t 17)),
 qm 3 18])
 (.af [qm 19 0,
 qo 20 (.bin .shr (.t 19) (.c (.val (.int .u64 7)))),
 qm 0 20]))))))
 (.seq (.af [qm 21 3,
 qm 22 0,
 qo 23 (.y2 .u8 (.t 22)),
 qo 24 (.nh 5 1 [(.t 23)]),
 qo 25 (.app 5 1 1 (.t 21) (.t 24)),
 qm 2 25])
 .ret))))),
[(.t 2)])
theorem Fj:aq Tryz.prog Tryz.f230=some wg:=by kernel_rfl
def QB:Nat×C×List RV:=(26,
(.seq (.af [qo 2 (.mv (.c (.val (.slice none 0 0))))])
 (.seq (.af [qm 7 0,
 qo 8 (.len (.t 7)),
 qo 9 (.call (.f 230) [(.t 8)]),
 qm 3 9])
 (.seq (.seq (.af [qm 10 0,
 qo 11 (.len (.t 10)),
 qo 12 (.mv (qk 0))])
 (.block 0 (.loop (.seq (.af [qo 13 (.bin .lss (.t 12) (.t 11))])
 (.seq (.cond (.t 13) .skip
 (.exit 0))
 (.seq (.block 1 (.seq (.af [qo 14 (.eG 1 (.t 10) (.t 12)),
 qo 15 (.ld1 (.t 14)),
 qm 5 15])
 (.seq (.af [qm 16 5,
 qo 17 (.call (.f 230) [(.t 16)]),
 qm 6 17])
 (.seq (.seq (.af [qm 18 6,
 qo 19 (.len (.t 18)),
 qo 20 (.bin .eql (.t 19) (qk 0))])
 (.cond (.t 20) (.seq (.af [qo 2 (.mv (.c (.val (.slice none 0 0))))])
 .ret)
 .skip))
 (.af [qm 21 3,
 qm 22 6,
 qo 23 (.app 5 1 1 (.t 21) (.t 22)),
 qm 3 23])))))
 (.af [qo 24 (.bin .add (.t 12) (qk 1)),
 qm 12 24])))))))
 (.seq (.af [qm 25 3,
 qm 2 25])
 .ret)))),
[(.t 2)])
theorem M9:aq Tryz.prog Tryz.f251=some QB:=by kernel_rfl
attribute [local go_sem] u8
theorem Pc (f:Nat) {m:Int} (h:m<128):oW f m=[m]:=by
 cases f with
 | zero=>rfl
 | succ f=>rw [oW,if_neg (by omega)]
theorem Ma (m:Int) (h0:0≤m) (h1:m<128):yA .u8 m 128=m+128:=by
 obtain ⟨d,rfl⟩:=Int.eq_ofNat_of_zero_le h0
 have:∀ d:Fin 128,yA .u8 (d.val:Int) 128=(d.val:Int)+128:=by decide
 exact this ⟨d,by omega⟩
theorem u8_in (m:Int) (h0:0≤m) (h1:m<256):IntKind.u8.wrap m=m:=by
 simp [IntKind.wrap,IntKind.bits,IntKind.signed]; omega
def Mi (p:Int×List Int):St:=⟨[(0,.int p.1),(3,.sl 0 p.2.length 1 0 p.2.length)],[some (.dat 5 1 (aA p.2))]⟩
set_option maxHeartbeats 1000000 in
theorem Bo (n:Int) (hn:isNum n=true) (fin:St→Prop) (D3:∀ s:St,s.get 2=.sl 0 (cc n).length 1 0 (cc n).length→s.obj 0=.live (.dat 5 1 (aA (cc n)))→fin s) :
  W Tryz.prog G fin [.c wg.2.1] ⟨fM 0 [.int n],[]⟩:=by
 have hn2:=of_decide_eq_true hn
 have hB:cc n=oW 8 n:=by unfold cc; rw [if_pos hn]
 rw [hB] at D3
 have h1:decide (n<0)=false:=decide_eq_false (by omega)
 have h2:decide (n>9007199254740991)=false:=decide_eq_false (by have:=hn2.2; unfold jR at this; omega)
 simp only [wg,h1,h2,go_sem,simprocAttr]
 refine aY [0,3] [.t 3 5 1] (fun p:Int×List Int=>p.2++oW (8-p.2.length) p.1=oW 8 n∧0≤p.1∧p.1*128 ^ p.2.length≤jR∧p.2.length≤7) (fun p=>p.1.toNat) Mi (n,[]) ?_ ⟨rfl,hn2.1,by simpa using hn2.2,Nat.zero_le _⟩ ?_
 ·simp only [Mi,aA,go_sem,simprocAttr]
 rintro ⟨m,pre⟩ ⟨hd,hm0,hmx,hk7⟩
 dsimp only at hd hm0 hmx hk7
 generalize hk:pre.length=k at *
 have hlen:(aA pre).length=k:=by simp [aA,hk]
 simp only [Mi,hk,go_sem,simprocAttr]
 by_cases hm:128≤m
 case neg=>
  rw [Pc _ (by omega)] at hd
  have hlk:(oW 8 n).length=k+1:=by rw [← hd]; simp [hk]
  have h7:(k=(aA pre).length∧(aA pre++[[DV.val (Value.int IntKind.u8 m)]]).length*1≤70368744177664):=⟨hlen.symm,by simp [hlen]; omega⟩
  simp only [decide_eq_false (show ¬ m≥128 by omega),u8_in m hm0 (by omega),go_sem,simprocAttr]
  rw [if_pos h7]
  simp only [hlen,go_sem,simprocAttr]
  refine D3 _ ?_ ?_
  ·rw [hlk]; rfl
  ·simp [← hd,aA,St.obj,aB,u8]
 have hk6:k≤6:=by
  rcases Nat.lt_or_ge k 7 with h | h
  ·omega
  ·exfalso
   have h1:(128:Int) ^ 7≤128 ^ k:=by exact_mod_cast Nat.pow_le_pow_right (by decide) h
   have h2:128*(128:Int) ^ 7≤m*128 ^ k:=Int.mul_le_mul hm h1 (by decide) hm0
   unfold jR at hmx
   omega
 have LC:0≤m % 128:=Int.emod_nonneg _ (by decide)
 have LB:m % 128<128:=Int.emod_lt_of_pos _ (by decide)
 have TC:m.tmod 128=m % 128:=Int.tmod_eq_emod_of_nonneg hm0
 have VT:sG .i64 m 7=m / 128:=zn m 7 (by decide)
 have h7:(k=(aA pre).length∧(aA pre++[[DV.val (Value.int IntKind.u8 (m % 128+128))]]).length*1≤70368744177664):=⟨hlen.symm,by simp [hlen]; omega⟩
 simp only [decide_eq_true (show m≥128 by omega),TC,u8_in (m % 128) LC (by omega),Ma _ LC LB,ne_eq,not_false_eq_true,show ((128:Int)=0)=False from by decide,go_sem,simprocAttr]
 rw [if_pos h7]
 simp only [hlen,go_sem,simprocAttr]
 have XC:(0:Int)<128 ^ k:=Int.pow_pos (by decide)
 refine bz (m / 128,pre++[m % 128+128]) ?_ ?_ ⟨?_,Int.ediv_nonneg hm0 (by decide),?_,by simp [hk]; omega⟩ (by dsimp only; omega)
 ·simp only [go_sem,simprocAttr]
 ·simp only [Mi,aA,List.map_append,List.length_append,hk,VT,go_sem,simprocAttr]
 ·dsimp only
  rw [← hd,show 8-k=(8-(k+1))+1 by omega,oW,if_pos hm]
  simp [hk]
 ·dsimp only
  have e1:(pre++[m % 128+128]).length=k+1:=by simp [hk]
  have e2:m / 128*128≤m:=Int.ediv_mul_le m (by decide)
  have e3:m / 128*128*128 ^ k≤m*128 ^ k:=Int.mul_le_mul_of_nonneg_right e2 (Int.le_of_lt XC)
  rw [e1,Int.pow_succ,Int.mul_comm ((128:Int) ^ k) 128,← Int.mul_assoc]
  omega
theorem wP:∀ (f:Nat) (m:Int),1≤(oW f m).length∧(oW f m).length≤f+1
 | 0,m=>by simp [oW]
 | f+1,m=>by
   unfold oW
   split
   ·have:=wP f (m / 128); simp; omega
   ·simp
theorem Jw {n:Int} (h:isNum n=true):1≤(cc n).length:=by unfold cc; rw [if_pos h]; exact (wP 8 n).1
theorem gw (n:Int):(cc n).length≤9:=by
 unfold cc
 split
 ·exact (wP 8 n).2
 ·simp
theorem Jv (n:Int) (hn:isNum n=true):bw Tryz.prog G 230 [.int n] [] (.sl 0 (cc n).length 1 0 (cc n).length) [.dat 5 1 (aA (cc n))]:=by
 refine cG Tryz.func230 (by decide) Fj rfl ?_
 exact Bo n hn _ (fun s h1 h2=>pI (o:=0) [] (by simp [xA.of,RV.of,de,h1,wg]) h2)
attribute [local go_sem] au
theorem l9 (n:Int):bw Tryz.prog G 230 [.int n] [] (au (cc n)) []:=by
 refine cG Tryz.func230 (by decide) Fj rfl ?_
 by_cases hn:isNum n=true
 ·refine Bo n hn _ (fun s h1 h2=>dL [0] (vs:=[.sl 0 (cc n).length 1 0 (cc n).length]) (by simp [xA.of,RV.of,h1,wg]) (fun z hz=>?_) ?_)
  ·simp at hz; subst hz; exact ⟨_,_,_,.inl h2⟩
  ·simp [aW,ai,bE,h2,aA,au,List.take_of_length_le]
 ·have hB:cc n=[]:=by unfold cc; rw [if_neg hn]
  rw [hB]
  by_cases h0:n<0
  ·simp only [wg,decide_eq_true h0,go_sem,simprocAttr]
   exact um rfl (by simp [aW,ai,aA,St.get,bx])
  ·have h2:n>9007199254740991:=by
    unfold isNum jR at hn
    simp at hn; omega
   simp only [wg,decide_eq_false h0,decide_eq_true h2,go_sem,simprocAttr]
   exact um rfl (by simp [aW,ai,aA,St.get,bx])
def Xx (l:List Int) (i:Nat):St:=⟨[(3,.sl 0 (cc l.length++(l.take i).flatMap cc).length 1 0 (cc l.length++(l.take i).flatMap cc).length),(10,.d (.dY 1 (vL l))),(11,.int l.length),(12,.int i)],[some (.dat 5 1 (aA (cc l.length++(l.take i).flatMap cc)))]⟩
attribute [local go_sem] vL
theorem FC (l:List Int):(l.flatMap cc).length≤9*l.length:=by
 induction l with
 | nil=>simp
 | cons x l ih=>rw [List.flatMap_cons,List.length_append,List.length_cons]; have:=gw x; omega
set_option maxHeartbeats 1000000 in
theorem iT (l:List Int) (hl:l.length≤1000000):bw Tryz.prog G 251 [.d (.dY 1 (vL l))] [] (au (lF l)) []:=by
 have hlr:(vL l).length=l.length:=by simp [vL]
 have hnl:isNum (l.length:Int)=true:=by unfold isNum jR; simp; omega
 refine cG Tryz.func251 (by decide) M9 rfl ?_
 simp only [QB,go_sem,simprocAttr]
 refine kL (Jv (l.length:Int) hnl) rfl rfl rfl ?_
 simp only [go_sem,simprocAttr]
 refine aY [3,10,11,12] [] (fun i:Nat=>i≤l.length∧(l.take i).all isNum=true) (fun i=>l.length-i) (Xx l) 0 ?_ ⟨Nat.zero_le _,by simp⟩ ?_
 ·simp only [Xx,List.flatMap_nil,Int.natCast_zero,go_sem,simprocAttr]
 rintro i ⟨hi,hall⟩
 generalize hpre:cc l.length++(l.take i).flatMap cc=pre at *
 have mq:pre.length≤9000009:=by
  rw [← hpre,List.length_append]
  have h1:=FC (l.take i)
  have h2:=gw (l.length:Int)
  rw [List.length_take] at h1
  omega
 have OQ:(aA pre).length=pre.length:=by simp [aA]
 simp only [Xx,hpre,go_sem,simprocAttr]
 cases hlt:decide ((i:Int)<(l.length:Int)) with
 | false=>
   have hi2:i=l.length:=by have:=of_decide_eq_false hlt; omega
   rw [hi2,List.take_length] at hpre hall
   have hB:lF l=pre:=by unfold lF; rw [if_pos hall,hpre]
   simp only [go_sem,simprocAttr]
   rw [hB]
   exact dL [0] rfl (by simp [St.obj,aB]) (by simp [St.obj,aB,aW,St.get,bx,ai,bE,aA,List.take_of_length_le])
 | true=>
 have hi2:i<l.length:=by have:=of_decide_eq_true hlt; omega
 have hg:=aL (f:=fun n:Int=>[i64 n]) 0 hi2
 have hm:l.getD i 0∈l:=by simp [List.getD,hi2]
 have htk:l.take (i+1)=l.take i++[l.getD i 0]:=by rw [List.take_add_one]; simp [List.getD,hi2]
 generalize l.getD i 0=x at *
 simp only [i64] at hg
 simp only [hg,go_sem,simprocAttr]
 refine aC (l9 x) rfl rfl rfl rfl ?_; simp only [go_sem,simprocAttr]
 have hxl:(aA (cc x)).length=(cc x).length:=by simp [aA]
 by_cases hx:isNum x=true
 case neg=>
  have hB:cc x=[]:=by unfold cc; rw [if_neg hx]
  have hL:lF l=[]:=by
   unfold lF; rw [if_neg]; intro h; rw [List.all_eq_true] at h; exact hx (h x hm)
  have e0:((((aA (cc x)).length:Nat):Int)==0)=true:=by rw [hB]; rfl
  simp only [e0,hL,go_sem,simprocAttr]
  exact um rfl (by simp [aW,ai,aA,St.get,bx])
 have hp:=Jw hx
 have hq:=gw x
 have e0:((((aA (cc x)).length:Nat):Int)==0)=false:=by rw [hxl]; exact beq_eq_false_iff_ne.2 (by omega)
 have BX:(aA pre++aA (cc x)).length*1≤70368744177664:=by rw [List.length_append,OQ,hxl]; omega
 simp only [e0,go_sem,simprocAttr]
 rw [if_pos ⟨OQ.symm,BX⟩]
 simp only [OQ,hxl,go_sem,simprocAttr]
 have hnew:cc l.length++(l.take (i+1)).flatMap cc=pre++cc x:=by rw [htk,List.flatMap_append,← List.append_assoc,hpre]; simp
 refine bz (i+1) ?_ ?_ ⟨by omega,by rw [htk,List.all_append,hall]; simp [hx]⟩ (by omega)
 ·simp only [go_sem,simprocAttr]
 ·simp only [Xx,hnew,aA,List.map_append,List.length_append,aG (show i<9223372036854775807 by omega),go_sem,simprocAttr]
end Dv
