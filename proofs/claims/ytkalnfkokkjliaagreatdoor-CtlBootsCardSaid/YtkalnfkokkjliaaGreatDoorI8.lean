/- code: a number as bytes, a list as bytes. -/
import Derived.Test.YtkalnfkokkjliaaGreatDoorI0
set_option linter.unusedVariables false
set_option linter.unusedSimpArgs false
set_option maxRecDepth 100000
namespace Dv
open Go Go.Proofs
variable {G:Nat→Option (List DV)}
def yV:=qx Tryz.f230
theorem H6:aq Tryz.prog Tryz.f230=some yV:=by kernel_rfl
def TW:=qx Tryz.f251
theorem Qr:aq Tryz.prog Tryz.f251=some TW:=by kernel_rfl
attribute [local go_sem] u8
theorem xx (f:Nat) {m:Int} (h:m<128):fT f m=[m]:=by
 cases f with
 | zero=>rfl
 | succ f=>rw [fT,if_neg (by omega)]
theorem PE (m:Int) (h0:0≤m) (h1:m<128):TE .u8 m 128=m+128:=by
 obtain ⟨d,rfl⟩:=Int.eq_ofNat_of_zero_le h0
 have:∀ d:Fin 128,TE .u8 (d.val:Int) 128=(d.val:Int)+128:=by decide
 exact this ⟨d,by omega⟩
theorem u8_in (m:Int) (h0:0≤m) (h1:m<256):IntKind.u8.wrap m=m:=by
 simp [IntKind.wrap,IntKind.bits,IntKind.signed]; omega
def PN (p:Int×List Int):St:=⟨[(0,.int p.1),(3,.sl 0 p.2.length 1 0 p.2.length)],[some (.dat 5 1 (ak p.2))]⟩
set_option maxHeartbeats 1000000 in
theorem DZ (n:Int) (hn:isNum n=true) (fin:St→Prop) (kR:∀ s:St,s.get 2=.sl 0 (aQ n).length 1 0 (aQ n).length→s.obj 0=.live (.dat 5 1 (ak (aQ n)))→fin s) :
  W Tryz.prog G fin [.c yV.2.1] ⟨fc 0 [.int n],[]⟩:=by
 have hn2:=of_decide_eq_true hn
 have hB:aQ n=fT 8 n:=by unfold aQ; rw [if_pos hn]
 rw [hB] at kR
 have h1:decide (n<0)=false:=decide_eq_false (by omega)
 have h2:decide (n>9007199254740991)=false:=decide_eq_false (by have:=hn2.2; unfold dK at this; omega)
 simp only [yV,h1,h2,go_sem,simprocAttr]
 refine aP [0,3] [.t 3 5 1] (fun p:Int×List Int=>p.2++fT (8-p.2.length) p.1=fT 8 n∧0≤p.1∧p.1*128 ^ p.2.length≤dK∧p.2.length≤7) (fun p=>p.1.toNat) PN (n,[]) ?_ ⟨rfl,hn2.1,by simpa using hn2.2,Nat.zero_le _⟩ ?_
 ·simp only [PN,ak,go_sem,simprocAttr]
 rintro ⟨m,pre⟩ ⟨hd,hm0,Sz,hk7⟩
 dsimp only at hd hm0 Sz hk7
 generalize hk:pre.length=k at *
 have hlen:(ak pre).length=k:=by simp [ak,hk]
 simp only [PN,hk,go_sem,simprocAttr]
 by_cases hm:128≤m
 case neg=>
  rw [xx _ (by omega)] at hd
  have hlk:(fT 8 n).length=k+1:=by rw [← hd]; simp [hk]
  have h7:(k=(ak pre).length∧(ak pre++[[DV.val (Value.int IntKind.u8 m)]]).length*1≤70368744177664):=⟨hlen.symm,by simp [hlen]; omega⟩
  simp only [decide_eq_false (show ¬ m≥128 by omega),u8_in m hm0 (by omega),go_sem,simprocAttr]
  rw [if_pos h7]
  simp only [hlen,go_sem,simprocAttr]
  refine kR _ ?_ ?_
  ·rw [hlk]; rfl
  ·simp [← hd,ak,St.obj,ay,u8]
 have hk6:k≤6:=by
  rcases Nat.lt_or_ge k 7 with h | h
  ·omega
  ·exfalso
   have h1:(128:Int) ^ 7≤128 ^ k:=by exact_mod_cast Nat.pow_le_pow_right (by decide) h
   have h2:128*(128:Int) ^ 7≤m*128 ^ k:=Int.mul_le_mul hm h1 (by decide) hm0
   unfold dK at Sz
   omega
 have v7:0≤m % 128:=Int.emod_nonneg _ (by decide)
 have vZ:m % 128<128:=Int.emod_lt_of_pos _ (by decide)
 have yX:m.tmod 128=m % 128:=Int.tmod_eq_emod_of_nonneg hm0
 have Z4:oU .i64 m 7=m / 128:=qH m 7 (by decide)
 have h7:(k=(ak pre).length∧(ak pre++[[DV.val (Value.int IntKind.u8 (m % 128+128))]]).length*1≤70368744177664):=⟨hlen.symm,by simp [hlen]; omega⟩
 simp only [decide_eq_true (show m≥128 by omega),yX,u8_in (m % 128) v7 (by omega),PE _ v7 vZ,Z4,ne_eq,not_false_eq_true,show ((128:Int)=0)=False from by decide,go_sem,simprocAttr]
 rw [if_pos h7]
 simp only [hlen,go_sem,simprocAttr]
 have OT:(0:Int)<128 ^ k:=Int.pow_pos (by decide)
 refine aR (m / 128,pre++[m % 128+128]) ?_ ?_ ⟨?_,Int.ediv_nonneg hm0 (by decide),?_,by simp [hk]; omega⟩ (by dsimp only; omega)
 ·simp only [go_sem,simprocAttr]
 ·simp only [PN,ak,List.map_append,List.length_append,hk,Z4,go_sem,simprocAttr]
 ·dsimp only
  rw [← hd,show 8-k=(8-(k+1))+1 by omega,fT,if_pos hm]
  simp [hk]
 ·dsimp only
  have e1:(pre++[m % 128+128]).length=k+1:=by simp [hk]
  have e2:m / 128*128≤m:=Int.ediv_mul_le m (by decide)
  have e3:m / 128*128*128 ^ k≤m*128 ^ k:=Int.mul_le_mul_of_nonneg_right e2 (Int.le_of_lt OT)
  rw [e1,Int.pow_succ,Int.mul_comm ((128:Int) ^ k) 128,← Int.mul_assoc]
  omega
theorem qq:∀ (f:Nat) (m:Int),1≤(fT f m).length∧(fT f m).length≤f+1
 | 0,m=>by simp [fT]
 | f+1,m=>by
   unfold fT
   split
   ·have:=qq f (m / 128); simp; omega
   ·simp
theorem ME {n:Int} (h:isNum n=true):1≤(aQ n).length:=by unfold aQ; rw [if_pos h]; exact (qq 8 n).1
theorem dL (n:Int):(aQ n).length≤9:=by
 unfold aQ
 split
 ·exact (qq 8 n).2
 ·simp
theorem MD (n:Int) (hn:isNum n=true):br Tryz.prog G 230 [.int n] [] (.sl 0 (aQ n).length 1 0 (aQ n).length) [.dat 5 1 (ak (aQ n))]:=by
 refine bD Tryz.func230 (by decide) H6 rfl ?_
 exact DZ n hn _ (fun s h1 h2=>qE (o:=0) [] (by simp [uH.of,RV.of,bX,h1,yV,TD]) h2)
attribute [local go_sem] af
theorem oc (n:Int):br Tryz.prog G 230 [.int n] [] (af (aQ n)) []:=by
 refine bD Tryz.func230 (by decide) H6 rfl ?_
 by_cases hn:isNum n=true
 ·refine DZ n hn _ (fun s h1 h2=>bw [0] (vs:=[.sl 0 (aQ n).length 1 0 (aQ n).length]) (by simp [uH.of,RV.of,h1,yV,TD]) (fun z hz=>?_) ?_)
  ·simp at hz; subst hz; exact ⟨_,_,_,.inl h2⟩
  ·simp [aF,ah,aM,h2,ak,af,List.take_of_length_le]
 ·have hB:aQ n=[]:=by unfold aQ; rw [if_neg hn]
  rw [hB]
  by_cases h0:n<0
  ·simp only [yV,decide_eq_true h0,go_sem,simprocAttr]
   exact kM rfl (by simp [aF,ah,af,ak,St.get,aO])
  ·have h2:n>9007199254740991:=by
    unfold isNum dK at hn
    simp at hn; omega
   simp only [yV,decide_eq_false h0,decide_eq_true h2,go_sem,simprocAttr]
   exact kM rfl (by simp [aF,ah,af,ak,St.get,aO])
def liS (l:List Int) (i:Nat):St:=⟨[(3,.sl 0 (aQ l.length++(l.take i).flatMap aQ).length 1 0 (aQ l.length++(l.take i).flatMap aQ).length),(10,.d (.dN 1 (bT l))),(11,.int l.length),(12,.int i)],[some (.dat 5 1 (ak (aQ l.length++(l.take i).flatMap aQ)))]⟩
attribute [local go_sem] bT
theorem uj (l:List Int):(l.flatMap aQ).length≤9*l.length:=by
 induction l with
 | nil=>simp
 | cons x l ih=>rw [List.flatMap_cons,List.length_append,List.length_cons]; have:=dL x; omega
set_option maxHeartbeats 1000000 in
theorem kf (l:List Int) (hl:l.length≤1000000):br Tryz.prog G 251 [.d (.dN 1 (bT l))] [] (af (fG l)) []:=by
 have hlr:(bT l).length=l.length:=by simp [bT]
 have hnl:isNum (l.length:Int)=true:=by unfold isNum dK; simp; omega
 refine bD Tryz.func251 (by decide) Qr rfl ?_
 simp only [TW,hlr,go_sem,simprocAttr]
 refine fO (MD (l.length:Int) hnl) rfl rfl rfl ?_
 simp only [hlr,go_sem,simprocAttr]
 refine aP [3,10,11,12] [] (fun i:Nat=>i≤l.length∧(l.take i).all isNum=true) (fun i=>l.length-i) (liS l) 0 ?_ ⟨Nat.zero_le _,by simp⟩ ?_
 ·simp only [liS,List.flatMap_nil,Int.natCast_zero,go_sem,simprocAttr]
 rintro i ⟨hi,hall⟩
 generalize hpre:aQ l.length++(l.take i).flatMap aQ=pre at *
 have iZ:pre.length≤9000009:=by
  rw [← hpre,List.length_append]
  have h1:=uj (l.take i)
  have h2:=dL (l.length:Int)
  rw [List.length_take] at h1
  omega
 have Kj:(ak pre).length=pre.length:=by simp [ak]
 simp only [liS,hpre,go_sem,simprocAttr]
 cases hlt:decide ((i:Int)<(l.length:Int)) with
 | false=>
   have hi2:i=l.length:=by have:=of_decide_eq_false hlt; omega
   rw [hi2,List.take_length] at hpre hall
   have hB:fG l=pre:=by unfold fG; rw [if_pos hall,hpre]
   simp only [go_sem,simprocAttr]
   rw [hB]
   exact bw [0] rfl (by simp [St.obj,ay]) (by simp [St.obj,ay,aF,St.get,aO,ah,aM,Kj,ak,List.take_of_length_le])
 | true=>
 have hi2:i<l.length:=by have:=of_decide_eq_true hlt; omega
 have hg:=aB (f:=fun n:Int=>[i64 n]) 0 hi2
 have hm:l.getD i 0∈l:=by simp [List.getD,hi2]
 have Ng:l.take (i+1)=l.take i++[l.getD i 0]:=by rw [List.take_add_one]; simp [List.getD,hi2]
 generalize l.getD i 0=x at *
 simp only [i64] at hg
 simp only [hg,go_sem,simprocAttr]
 refine av (oc x) rfl rfl rfl rfl ?_; simp only [go_sem,simprocAttr]
 have hxl:(ak (aQ x)).length=(aQ x).length:=by simp [ak]
 by_cases hx:isNum x=true
 case neg=>
  have hB:aQ x=[]:=by unfold aQ; rw [if_neg hx]
  have hL:fG l=[]:=by
   unfold fG; rw [if_neg]; intro h; rw [List.all_eq_true] at h; exact hx (h x hm)
  have e0:((((ak (aQ x)).length:Nat):Int)==0)=true:=by rw [hB]; rfl
  simp only [e0,hL,go_sem,simprocAttr]
  exact kM rfl (by simp [aF,ah,af,ak,St.get,aO])
 have hp:=ME hx
 have hq:=dL x
 have e0:((((ak (aQ x)).length:Nat):Int)==0)=false:=by rw [hxl]; exact beq_eq_false_iff_ne.2 (by omega)
 have iR:(ak pre++ak (aQ x)).length*1≤70368744177664:=by rw [List.length_append,Kj,hxl]; omega
 simp only [e0,go_sem,simprocAttr]
 rw [if_pos ⟨Kj.symm,iR⟩]
 simp only [Kj,hxl,go_sem,simprocAttr]
 have hnew:aQ l.length++(l.take (i+1)).flatMap aQ=pre++aQ x:=by rw [Ng,List.flatMap_append,← List.append_assoc,hpre]; simp
 refine aR (i+1) ?_ ?_ ⟨by omega,by rw [Ng,List.all_append,hall]; simp [hx]⟩ (by omega)
 ·simp only [go_sem,simprocAttr]
 ·simp only [liS,hnew,ak,List.map_append,List.length_append,ax (show i<9223372036854775807 by omega),go_sem,simprocAttr]
end Dv
