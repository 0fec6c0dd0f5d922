/- The logical machine and its plain laws: parts I10, I11, I12, I13, I14, proved sound. -/
import Derived.Test.YtkalnfkokkjliaaGreatDoorI8
import Derived.Test.YtkalnfkokkjliaaGreatDoorPB
import Derived.Test.YtkalnfkokkjliaaGreatDoorIA
import Derived.Test.YtkalnfkokkjliaaGreatDoorDD
set_option linter.unusedVariables false
set_option linter.unusedSimpArgs false
set_option maxRecDepth 100000
namespace Dv
open Go Go.Proofs
variable {G:Nat→Option (List DV)}
def UF:=qx Tryz.f180
theorem Rc:aq Tryz.prog Tryz.f180=some UF:=by kernel_rfl
def tY:=qx Tryz.f178
theorem Cs:aq Tryz.prog Tryz.f178=some tY:=by kernel_rfl
attribute [local go_sem] u8
theorem tX (n:Int):br Tryz.prog G 180 [.int n] [] (.bool (isNum n)) []:=by
 refine b_ Tryz.func180 (by decide) Rc rfl rfl ?_
 simp only [UF,go_sem,simprocAttr]
 by_cases h0:0≤n
 ·by_cases h1:n<9007199254740992
  ·simp only [decide_eq_true (show n≥0 from h0),decide_eq_true h1,show isNum n=true from decide_eq_true (show 0≤n∧n≤9007199254740991 by omega),go_sem,simprocAttr]
  ·simp only [decide_eq_true (show n≥0 from h0),decide_eq_false h1,show isNum n=false from decide_eq_false (show ¬ (0≤n∧n≤9007199254740991) by omega),go_sem,simprocAttr]
 ·simp only [decide_eq_false (show ¬ n≥0 from h0),show isNum n=false from decide_eq_false (show ¬ (0≤n∧n≤9007199254740991) by omega),go_sem,simprocAttr]
structure abe where
 i:Nat
 m:Int
 out:List Int
def D7 (p:abe):St:=⟨[(0,.int p.m),(3,.sl 0 p.out.length 1 0 p.out.length),(4,.int p.i)],[some (.dat 5 1 (ak p.out))]⟩
def Y3 (n:Int) (p:abe):Prop:=p.out.length=p.i∧0≤p.m∧p.m*128 ^ p.i≤dK∧p.i≤8∧
 ((p.i=0∧p.m=n)∨(∃ pre d,p.out=pre++[d]∧0≤d∧d<128∧((p.m=0∧pre++[d]=fT 8 n)∨(0<p.m∧pre++[d+128]++fT (8-p.i) p.m=fT 8 n))))
set_option maxHeartbeats 1000000 in
theorem AT (n:Int) (hn:isNum n=true) (fin:St→Prop) (kR:∀ s:St,s.get 2=.sl 0 (aQ n).length 1 0 (aQ n).length→s.obj 0=.live (.dat 5 1 (ak (aQ n)))→fin s) :
  W Tryz.prog G fin [.c tY.2.1] ⟨fc 0 [.int n],[]⟩:=by
 have hn2:=of_decide_eq_true hn
 have hB:aQ n=fT 8 n:=by unfold aQ; rw [if_pos hn]
 rw [hB] at kR
 simp only [tY,go_sem,simprocAttr]
 refine aP [0,3,4] [.t 3 5 1] (Y3 n) (fun p=>9-p.i) D7 ⟨0,n,[]⟩ ?_ ⟨rfl,hn2.1,by simpa using hn2.2,Nat.zero_le _,.inl ⟨rfl,rfl⟩⟩ ?_
 ·simp only [D7,ak,Int.natCast_zero,go_sem,simprocAttr]
 rintro ⟨i,m,out⟩ ⟨hlen,hm0,Sz,hi8,Iu⟩
 dsimp only at hlen hm0 Sz hi8 Iu
 have oO:(ak out).length=i:=by simp [ak,hlen]
 have OT:(1:Int)≤128 ^ i:=Int.pow_pos (by decide)
 have LC:m≤dK:=by
  have:m*1≤m*128 ^ i:=Int.mul_le_mul_of_nonneg_left OT hm0
  omega
 have his:isNum m=true:=decide_eq_true ⟨hm0,LC⟩
 simp only [D7,hlen,go_sem,simprocAttr]
 refine av (tX m) rfl rfl rfl rfl ?_; simp only [go_sem,simprocAttr]
 simp only [his,go_sem,simprocAttr]
 rcases Iu with ⟨XS,hmn⟩ | ⟨pre,d,rfl,Kr,SG,Iu⟩
 ·subst XS hmn
  have hout:out=[]:=List.eq_nil_of_length_eq_zero hlen
  subst hout
  have v7:0≤m % 128:=Int.emod_nonneg _ (by decide)
  have vZ:m % 128<128:=Int.emod_lt_of_pos _ (by decide)
  have yX:m.tmod 128=m % 128:=Int.tmod_eq_emod_of_nonneg hm0
  have Ki:m.tdiv 128=m / 128:=Int.tdiv_eq_ediv_of_nonneg hm0
  have hq0:0≤m / 128:=Int.ediv_nonneg hm0 (by decide)
  have hq1:m / 128*128≤m:=Int.ediv_mul_le m (by decide)
  have hw:IntKind.i64.wrap (m / 128)=m / 128:=aD (by omega) (by unfold dK at LC; omega)
  simp only [Int.natCast_zero,show ((0:Int)==0)=true from rfl,show decide ((0:Int)>0)=false from rfl,yX,Ki,hw,u8_in (m % 128) v7 (by omega),ak,ne_eq,not_false_eq_true,show ((128:Int)=0)=False from by decide,show IntKind.i64.wrap 1=1 from rfl,go_sem,simprocAttr]
  refine aR ⟨1,m / 128,[m % 128]⟩ ?_ ?_ ⟨rfl,hq0,by dsimp only; omega,show 1≤8 by decide,.inr ⟨[],m % 128,rfl,v7,vZ,?_⟩⟩ (by dsimp only; omega)
  ·simp only [go_sem,simprocAttr]
  ·simp only [D7,ak,show ((1:Nat):Int)=1 from rfl,go_sem,simprocAttr]
  ·dsimp only
   by_cases hm:128≤m
   ·refine .inr ⟨by omega,?_⟩
    rw [show fT 8 m=(m % 128+128)::fT 7 (m / 128) by rw [fT,if_pos hm]]
    rfl
   ·refine .inl ⟨by omega,?_⟩
    rw [xx 8 (by omega)]
    rw [show m % 128=m by omega]; rfl
 ·have hi1:i=pre.length+1:=by rw [← hlen]; simp
  have XS:((i:Int)==0)=false:=beq_eq_false_iff_ne.2 (by omega)
  rcases Iu with ⟨rfl,hd⟩ | ⟨Nu,hd⟩
  ·simp only [XS,show decide ((0:Int)>0)=false from rfl,go_sem,simprocAttr]
   refine kR _ ?_ ?_
   ·rw [← hd,hlen]; rfl
   ·rw [← hd]; rfl
  have hi7:i≤7:=by
   rcases Nat.lt_or_ge i 8 with h | h
   ·omega
   ·exfalso
    obtain rfl:i=8:=by omega
    unfold dK at Sz; omega
  have v7:0≤m % 128:=Int.emod_nonneg _ (by decide)
  have vZ:m % 128<128:=Int.emod_lt_of_pos _ (by decide)
  have yX:m.tmod 128=m % 128:=Int.tmod_eq_emod_of_nonneg hm0
  have Ki:m.tdiv 128=m / 128:=Int.tdiv_eq_ediv_of_nonneg hm0
  have hq0:0≤m / 128:=Int.ediv_nonneg hm0 (by decide)
  have hq1:m / 128*128≤m:=Int.ediv_mul_le m (by decide)
  have hw:IntKind.i64.wrap (m / 128)=m / 128:=aD (by omega) (by unfold dK at LC; omega)
  have hsub:IntKind.i64.wrap ((i:Int)-1)=(pre.length:Int):=by rw [aD (by omega) (by omega)]; omega
  have hg:(ak (pre++[d]))[pre.length]? = some [u8 d]:=by simp [ak]
  simp only [u8] at hg
  have oW:(ak (pre++[d])).set pre.length [DV.val (.int .u8 (d+128))]=ak (pre++[d+128]):=by simp [ak,u8]
  have hlt:pre.length<i:=by omega
  have aaB:(ak (pre++[d+128])).length=i:=by simp [ak]; omega
  simp only [XS,hlt,oO,aaB,decide_eq_true (show m>0 from Nu),decide_eq_true (show (i:Int)>0 by omega),hsub,hg,u8_in (d+128) (by omega) (by omega),oW,yX,Ki,hw,u8_in (m % 128) v7 (by omega),ne_eq,not_false_eq_true,show ((128:Int)=0)=False from by decide,go_sem,simprocAttr]
  have iR:(ak (pre++[d+128])++[[DV.val (Value.int IntKind.u8 (m % 128))]]).length*1≤70368744177664:=by rw [List.length_append,aaB]; simp; omega
  rw [if_pos iR]
  simp only [Ki,hw,ne_eq,not_false_eq_true,show ((128:Int)=0)=False from by decide,go_sem,simprocAttr]
  have hp9:(0:Int)<128 ^ i:=by omega
  refine aR ⟨i+1,m / 128,pre++[d+128]++[m % 128]⟩ ?_ ?_ ⟨by simp; omega,hq0,?_,show i+1≤8 by omega,.inr ⟨pre++[d+128],m % 128,rfl,v7,vZ,?_⟩⟩ (by dsimp only; omega)
  ·simp only [go_sem,simprocAttr]
  ·have xw:(pre++[d+128]++[m % 128]).length=i+1:=by simp; omega
   simp only [D7,ak,xw,List.map_append,ax (show i<9223372036854775807 by omega),go_sem,simprocAttr]
  ·dsimp only
   have e3:m / 128*128*128 ^ i≤m*128 ^ i:=Int.mul_le_mul_of_nonneg_right hq1 (Int.le_of_lt hp9)
   rw [Int.pow_succ,Int.mul_comm ((128:Int) ^ i) 128,← Int.mul_assoc]
   omega
  ·dsimp only
   by_cases hm:128≤m
   ·refine .inr ⟨by omega,?_⟩
    rw [← hd,show 8-i=(8-(i+1))+1 by omega,fT,if_pos hm]
    simp
   ·refine .inl ⟨by omega,?_⟩
    rw [← hd,xx _ (by omega),show m % 128=m by omega]
theorem D6 (n:Int) (hn:¬ isNum n=true) (fin:St→Prop) (kR:∀ s:St,s.get 2=.d (.val (.slice none 0 0))→fin s) :
  W Tryz.prog G fin [.c tY.2.1] ⟨fc 0 [.int n],[]⟩:=by
 simp only [tY,go_sem,simprocAttr]
 refine aP [0,3,4] [] (fun _:Unit=>True) (fun _=>1) (fun _=>⟨[(0,.int n),(3,.d (.val (.slice none 0 0))),(4,.int 0)],[]⟩) () ?_ trivial ?_
 ·simp only [go_sem,simprocAttr]
 intro _ _
 simp only [go_sem,simprocAttr]
 have h0:isNum n=false:=by simpa using hn
 refine av (tX n) rfl rfl rfl rfl ?_; simp only [go_sem,simprocAttr]
 simp only [h0,go_sem,simprocAttr]
 exact kR _ rfl
theorem nq (n:Int) (hn:isNum n=true):br Tryz.prog G 178 [.int n] [] (.sl 0 (aQ n).length 1 0 (aQ n).length) [.dat 5 1 (ak (aQ n))]:=by
 refine bD Tryz.func178 (by decide) Cs rfl ?_
 exact AT n hn _ (fun s h1 h2=>qE (o:=0) [] (by simp [uH.of,RV.of,bX,h1,tY,TD]) h2)
attribute [local go_sem] af
theorem tO (n:Int):br Tryz.prog G 178 [.int n] [] (af (aQ n)) []:=by
 refine bD Tryz.func178 (by decide) Cs rfl ?_
 by_cases hn:isNum n=true
 ·refine AT n hn _ (fun s h1 h2=>bw [0] (vs:=[.sl 0 (aQ n).length 1 0 (aQ n).length]) (by simp [uH.of,RV.of,h1,tY,TD]) (fun z hz=>?_) ?_)
  ·simp at hz; subst hz; exact ⟨_,_,_,.inl h2⟩
  ·simp [aF,ah,aM,h2,ak,af,List.take_of_length_le]
 ·refine D6 n hn _ (fun s h1=>?_)
  have hB:aQ n=[]:=by unfold aQ; rw [if_neg hn]
  rw [hB]
  exact kM (vs:=[.d (.val (.slice none 0 0))]) (by simp [uH.of,RV.of,h1,tY,TD]) (by simp [aF,ah,af,ak])
end Dv
set_option maxRecDepth 100000
namespace Dv
open Go Go.Proofs
variable {G:Nat→Option (List DV)}
def ZH:=qx Tryz.f57
theorem Xe:aq Tryz.prog Tryz.f57=some ZH:=by kernel_rfl
def Un:=qx Tryz.f210
theorem QV:aq Tryz.prog Tryz.f210=some Un:=by kernel_rfl
attribute [local go_sem] u8 af bT
theorem gT {α:Type} (l:List α) (k:Nat) (z:α) (h:k<l.length):l.drop k=l.getD k z::l.drop (k+1):=by
 rw [List.drop_eq_getElem_cons h]; simp [List.getD,h]
theorem KN {α:Type} [DecidableEq α] (l m:List α) (k:Nat) (z:α) (h1:k<l.length) (h2:k<m.length):decide (l.drop k=m.drop k)=(decide (l.getD k z=m.getD k z)&&decide (l.drop (k+1)=m.drop (k+1))):=by
 rw [gT l k z h1,gT m k z h2,Bool.eq_iff_iff]
 simp
def CV (a b:List Int) (k:Nat):St:=⟨[(0,af a),(1,af b),(5,.int k)],[]⟩
theorem vC (a b:List Int) (ha:a.length≤1000000000):br Tryz.prog G 57 [af a,af b] [] (.bool (decide (a=b))) []:=by
 have hla:(ak a).length=a.length:=by simp [ak]
 have hlb:(ak b).length=b.length:=by simp [ak]
 refine b_ Tryz.func57 (by decide) Xe rfl rfl ?_
 simp only [ZH,go_sem,simprocAttr]
 simp only [hla,hlb,go_sem,simprocAttr]
 by_cases hl:a.length=b.length
 case neg=>
  have h1:((a.length:Int) !=(b.length:Int))=true:=bne_iff_ne.2 (by omega)
  simp only [h1,decide_eq_false (show ¬ a=b from fun e=>hl (by rw [e])),go_sem,simprocAttr]
 have h1:((a.length:Int) !=(b.length:Int))=false:=by rw [hl]; simp
 simp only [h1,go_sem,simprocAttr]
 generalize hq:decide (a=b)=r
 refine aP [0,1,5] [] (fun k:Nat=>k≤a.length∧decide (a.drop k=b.drop k)=r) (fun k=>a.length-k) (CV a b) 0 ?_ ⟨Nat.zero_le _,hq⟩ ?_
 ·simp only [CV,Int.natCast_zero,go_sem,simprocAttr]
 rintro k ⟨hk,hF⟩
 simp only [CV,hla,hlb,go_sem,simprocAttr]
 cases hlt:decide ((k:Int)<(a.length:Int)) with
 | false=>
   obtain rfl:k=a.length:=by have:=of_decide_eq_false hlt; omega
   have:r=true:=by rw [← hF,List.drop_length,List.drop_eq_nil_of_le (by omega)]; rfl
   subst this
   simp only [go_sem,simprocAttr]
 | true=>
 have h2:k<a.length:=by have:=of_decide_eq_true hlt; omega
 have h3:k<b.length:=by omega
 rw [KN a b k 0 h2 h3] at hF
 have hg:=aB (f:=fun n:Int=>[u8 n]) 0 h2
 have hg2:=aB (f:=fun n:Int=>[u8 n]) 0 h3
 generalize a.getD k 0=x at *
 generalize b.getD k 0=y at *
 simp only [u8] at hg hg2
 simp only [ak,hg,hg2,go_sem,simprocAttr]
 by_cases hxy:x=y
 ·rw [decide_eq_true hxy,Bool.true_and] at hF
  have h4:(x !=y)=false:=by rw [hxy]; simp
  simp only [h4,go_sem,simprocAttr]
  refine aR (k+1) ?_ ?_ ⟨by omega,hF⟩ (by omega)
  ·simp only [go_sem,simprocAttr]
  ·simp only [CV,ak,go_sem,simprocAttr,ax (show k<9223372036854775807 by omega)]
 ·rw [decide_eq_false hxy,Bool.false_and] at hF
  have h4:(x !=y)=true:=bne_iff_ne.2 hxy
  subst hF
  simp only [h4,go_sem,simprocAttr]
def PZ (l:List Int) (i:Nat):St:=⟨[(0,.d (.dN 1 (bT l))),(3,.sl 0 (aQ l.length++(l.take i).flatMap aQ).length 1 0 (aQ l.length++(l.take i).flatMap aQ).length),(4,.int i)],[some (.dat 5 1 (ak (aQ l.length++(l.take i).flatMap aQ)))]⟩
def PY (l pre b:List Int) (i k:Nat):St:=⟨[(0,.d (.dN 1 (bT l))),(3,.sl 0 (pre++b.take k).length 1 0 (pre++b.take k).length),(4,.int i),(5,af b),(6,.int k)],[some (.dat 5 1 (ak (pre++b.take k)))]⟩
set_option maxHeartbeats 1000000 in
theorem A2 (l:List Int) (hl:l.length≤1000000):br Tryz.prog G 210 [.d (.dN 1 (bT l))] [] (af (fG l)) []:=by
 have hlr:(bT l).length=l.length:=by simp [bT]
 have hnl:isNum (l.length:Int)=true:=by unfold isNum dK; simp; omega
 refine bD Tryz.func210 (by decide) QV rfl ?_
 simp only [Un,hlr,go_sem,simprocAttr]
 refine fO (nq (l.length:Int) hnl) rfl rfl rfl ?_
 simp only [hlr,go_sem,simprocAttr]
 refine aP [0,3,4] [] (fun i:Nat=>i≤l.length∧(l.take i).all isNum=true) (fun i=>l.length-i) (PZ l) 0 ?_ ⟨Nat.zero_le _,by simp⟩ ?_
 ·simp only [PZ,List.flatMap_nil,Int.natCast_zero,go_sem,simprocAttr]
 rintro i ⟨hi,hall⟩
 generalize hpre:aQ l.length++(l.take i).flatMap aQ=pre at *
 have iZ:pre.length≤9000009:=by
  rw [← hpre,List.length_append]
  have h1:=uj (l.take i)
  have h2:=dL (l.length:Int)
  rw [List.length_take] at h1
  omega
 have Kj:(ak pre).length=pre.length:=by simp [ak]
 simp only [PZ,hpre,hlr,go_sem,simprocAttr]
 cases hlt:decide ((i:Int)<(l.length:Int)) with
 | false=>
   have hi2:i=l.length:=by have:=of_decide_eq_false hlt; omega
   rw [hi2,List.take_length] at hpre hall
   have hB:fG l=pre:=by unfold fG; rw [if_pos hall,hpre]
   simp only [go_sem,simprocAttr]
   rw [hB]
   exact bw [0] rfl (by simp [St.obj,ay]) (by simp [St.obj,ay,aF,St.get,aO,ah,aM,Kj,ak,List.take_of_length_le])
 | true=>
 have hi2:i<l.length:=by have:=of_decide_eq_true hlt; omega
 have hg:=aB (f:=fun n:Int=>[i64 n]) 0 hi2
 have hm:l.getD i 0∈l:=by simp [List.getD,hi2]
 have Ng:l.take (i+1)=l.take i++[l.getD i 0]:=by rw [List.take_add_one]; simp [List.getD,hi2]
 generalize l.getD i 0=x at *
 simp only [i64] at hg
 simp only [hg,go_sem,simprocAttr]
 refine av (tX x) rfl rfl rfl rfl ?_; simp only [go_sem,simprocAttr]
 by_cases hx:isNum x=true
 case neg=>
  have hx2:isNum x=false:=by simpa using hx
  have hL:fG l=[]:=by
   unfold fG; rw [if_neg]; intro h; rw [List.all_eq_true] at h; exact hx (h x hm)
  simp only [hx2,hL,go_sem,simprocAttr]
  exact kM rfl (by simp [aF,ah,af,ak,St.get,aO])
 simp only [hx,hg,go_sem,simprocAttr]
 refine av (tO x) rfl rfl rfl rfl ?_; simp only [go_sem,simprocAttr]
 have hxl:(ak (aQ x)).length=(aQ x).length:=by simp [ak]
 have hq9:=dL x
 have hnew:aQ l.length++(l.take (i+1)).flatMap aQ=pre++aQ x:=by rw [Ng,List.flatMap_append,← List.append_assoc,hpre]; simp
 generalize aQ x=bx at *
 refine aP [0,3,4,5,6] [] (fun k:Nat=>k≤bx.length) (fun k=>bx.length-k) (PY l pre bx i) 0 ?_ (Nat.zero_le _) ?_
 ·simp only [PY,Int.natCast_zero,go_sem,simprocAttr]
 intro k hk
 simp only [PY,hxl,go_sem,simprocAttr]
 cases Nw:decide ((k:Int)<(bx.length:Int)) with
 | false=>
   obtain rfl:k=bx.length:=by have:=of_decide_eq_false Nw; omega
   simp only [List.take_length,go_sem,simprocAttr]
   refine aR (i+1) ?_ ?_ ⟨by omega,by rw [Ng,List.all_append,hall]; simp [hx]⟩ (by omega)
   ·simp only [go_sem,simprocAttr]
   ·simp only [PZ,hnew,ax (show i<9223372036854775807 by omega),go_sem,simprocAttr]
 | true=>
 have hk2:k<bx.length:=by have:=of_decide_eq_true Nw; omega
 have hg2:=aB (f:=fun n:Int=>[u8 n]) 0 hk2
 have abx:bx.take (k+1)=bx.take k++[bx.getD k 0]:=by rw [List.take_add_one]; simp [List.getD,hk2]
 generalize bx.getD k 0=c at *
 simp only [u8] at hg2
 have zZ:(pre++bx.take k).length=pre.length+k:=by simp; omega
 have Iq:(ak (pre++bx.take k)).length=pre.length+k:=by simp only [ak,List.length_map,zZ]
 have iR:(ak (pre++bx.take k)++[[DV.val (Value.int IntKind.u8 c)]]).length*1≤70368744177664:=by rw [List.length_append,Iq]; simp; omega
 have Ir:(ak bx)[k]? = some [DV.val (Value.int IntKind.u8 c)]:=hg2
 simp only [Ir,zZ,Iq,go_sem,simprocAttr]
 rw [if_pos iR]
 simp only [Iq,go_sem,simprocAttr]
 have GF:(pre++(bx.take k++[c])).length=pre.length+k+1:=by simp; omega
 refine aR (k+1) ?_ ?_ (by omega) (by omega)
 ·simp only [go_sem,simprocAttr]
 ·simp only [PY,abx,GF,ak,List.map_append,List.append_assoc,ax (show k<9223372036854775807 by omega),go_sem,simprocAttr]
end Dv
set_option maxRecDepth 100000
namespace Dv
open Go Go.Proofs
variable {G:Nat→Option (List DV)}
def Zn:=qx Tryz.f90
theorem WS:aq Tryz.prog Tryz.f90=some Zn:=by kernel_rfl
def TZ:=qx Tryz.f240
theorem Qu:aq Tryz.prog Tryz.f240=some TZ:=by kernel_rfl
attribute [local go_sem] u8 af eT
theorem CP:∀ (i f:Nat) (m:Int),m<128 ^ (i+1)→(fT f m).length≤i+1
 | 0,f,m,h=>by rw [xx f (by simpa using h)]; simp
 | i+1,0,m,h=>by simp [fT]
 | i+1,f+1,m,h=>by
   unfold fT
   split
   ·have h2:m / 128<128 ^ (i+1):=by
     rw [Int.pow_succ] at h
     exact Int.ediv_lt_of_lt_mul (by decide) h
    have:=CP i f (m / 128) h2
    simp; omega
   ·simp
theorem IG:∀ (i f:Nat) (m:Int),i≤f→128 ^ i≤m→i+1≤(fT f m).length
 | 0,f,m,_,_=>by have:=(qq f m).1; omega
 | i+1,0,m,h,_=>by omega
 | i+1,f+1,m,hi,h=>by
   have hp:(1:Int)≤128 ^ i:=Int.pow_pos (by decide)
   rw [Int.pow_succ] at h
   rw [fT,if_pos (by omega)]
   have h2:128 ^ i≤m / 128:=Int.le_ediv_of_mul_le (by decide) h
   have:=IG i f (m / 128) (by omega) h2
   simp; omega
def SL (b:List Int) (a0:Nat) (p:Nat×Int):St:=⟨[(0,af b),(1,.int a0),(7,.int p.2),(8,.int (128 ^ p.1)),(9,.int p.1)],[]⟩
set_option maxHeartbeats 1000000 in
theorem ki (b:List Int) (hb:∀ c∈b,0≤c∧c≤255) (hl:b.length≤1000000) (a0:Nat) (ha:a0≤1000000) (q:Option (Int×Nat)) (hq:eZ b a0=q):br Tryz.prog G 90 [af b,.int a0] [] (eT q) []:=by
 have hlb:(ak b).length=b.length:=by simp [ak]
 have h1:decide ((a0:Int)<0)=false:=decide_eq_false (by omega)
 refine b_ Tryz.func90 (by decide) WS rfl (by cases q <;> rfl) ?_
 simp only [Zn,h1,hlb,go_sem,simprocAttr]
 by_cases hlen:b.length≤a0
 case pos=>
  have h2:decide ((a0:Int)≥(b.length:Int))=true:=decide_eq_true (by omega)
  have:q=none:=by rw [← hq]; unfold eZ; rw [List.drop_eq_nil_of_le hlen]; rfl
  subst this
  simp only [h2,oH,oI,Option.isSome_none,Int.natCast_zero,go_sem,simprocAttr]
 have h2:decide ((a0:Int)≥(b.length:Int))=false:=decide_eq_false (by omega)
 simp only [h2,go_sem,simprocAttr]
 refine aP [0,1,7,8,9] [] (fun p:Nat×Int=>p.1≤8∧a0+p.1≤b.length∧0≤p.2∧p.2<128 ^ p.1∧(iU (b.drop (a0+p.1)) p.1 p.2).map (fun r=>(r.1,a0+r.2))=q) (fun p=>8-p.1) (SL b a0) (0,0) ?_ ⟨Nat.zero_le _,by dsimp only; omega,Int.le_refl _,by decide,hq⟩ ?_
 ·simp only [SL,Int.natCast_zero,Int.pow_zero,go_sem,simprocAttr]
 rintro ⟨i,n⟩ ⟨hi,hai,hn0,hn,hF⟩
 dsimp only at hi hai hn0 hn hF
 have OT:(0:Int)<128 ^ i:=Int.pow_pos (by decide)
 have hsub:IntKind.i64.wrap ((b.length:Int)-(a0:Int))=((b.length-a0:Nat):Int):=by rw [aD (by omega) (by omega)]; omega
 simp only [SL,go_sem,simprocAttr]
 by_cases hi8:i<8
 case neg=>
  have e8:i=8:=by omega
  have:q=none:=by
   rw [← hF,e8]
   cases b.drop (a0+8) with
   | nil=>rfl
   | cons c r=>simp [iU]
  subst this
  simp only [decide_eq_false (show ¬ ((i:Nat):Int)<8 by omega),oH,oI,Option.isSome_none,Int.natCast_zero,go_sem,simprocAttr]
 simp only [decide_eq_true (show ((i:Nat):Int)<8 by omega),hlb,hsub,go_sem,simprocAttr]
 by_cases hlt:a0+i<b.length
 case neg=>
  have:q=none:=by
   rw [← hF,List.drop_eq_nil_of_le (by omega)]; rfl
  subst this
  simp only [decide_eq_false (show ¬ ((i:Nat):Int)<((b.length-a0:Nat):Int) by omega),oH,oI,Option.isSome_none,Int.natCast_zero,go_sem,simprocAttr]
 have hg:=aB (f:=fun n:Int=>[u8 n]) 0 hlt
 have hc:=hb (b.getD (a0+i) 0) (by simp [List.getD,hlt])
 rw [gT b (a0+i) 0 hlt] at hF
 generalize b.getD (a0+i) 0=c at *
 have Ir:(ak b)[a0+i]? = some [DV.val (.int .u8 c)]:=hg
 have NT:IntKind.i64.wrap ((a0:Int)+(i:Int))=((a0+i:Nat):Int):=by rw [aD (by omega) (by omega)]; rfl
 have yX:c.tmod 128=c % 128:=Int.tmod_eq_emod_of_nonneg hc.1
 have v7:0≤c % 128:=Int.emod_nonneg _ (by decide)
 have vZ:c % 128<128:=Int.emod_lt_of_pos _ (by decide)
 have hw:IntKind.i64.wrap (c % 128)=c % 128:=aD (by omega) (by omega)
 have hp7:(128:Int) ^ i≤128 ^ 7:=by exact_mod_cast Nat.pow_le_pow_right (by decide) (show i≤7 by omega)
 have Nu:c % 128*128 ^ i≤127*128 ^ i:=Int.mul_le_mul_of_nonneg_right (by omega) (Int.le_of_lt OT)
 have hm0:0≤c % 128*128 ^ i:=Int.mul_nonneg v7 (Int.le_of_lt OT)
 have hmul:IntKind.i64.wrap (128 ^ i*(c % 128))=c % 128*128 ^ i:=by rw [Int.mul_comm,aD (by omega) (by omega)]
 have hsum:IntKind.i64.wrap (n+c % 128*128 ^ i)=n+c % 128*128 ^ i:=aD (by omega) (by omega)
 have hstep:IntKind.i64.wrap (128 ^ i*128)=128 ^ (i+1):=by rw [Int.pow_succ]; exact aD (by omega) (by omega)
 have hn2:n+c % 128*128 ^ i<128 ^ (i+1):=by rw [Int.pow_succ]; omega
 simp only [decide_eq_true (show ((i:Nat):Int)<((b.length-a0:Nat):Int) by omega),NT,Ir,yX,hw,hmul,hsum,hstep,ne_eq,not_false_eq_true,show ((128:Int)=0)=False from by decide,go_sem,simprocAttr]
 unfold iU at hF
 rw [if_neg (by omega)] at hF
 by_cases h128:128≤c
 case pos=>
  rw [if_pos h128] at hF
  simp only [decide_eq_true (show c≥128 from h128),go_sem,simprocAttr]
  refine aR (i+1,n+c % 128*128 ^ i) ?_ ?_ ⟨by dsimp only; omega,by dsimp only; omega,by dsimp only; omega,hn2,by rw [← Nat.add_assoc]; exact hF⟩ (by dsimp only; omega)
  ·simp only [go_sem,simprocAttr]
  ·simp only [SL,ax (show i<9223372036854775807 by omega),go_sem,simprocAttr]
 rw [if_neg h128] at hF
 simp only [decide_eq_false (show ¬ c≥128 from h128),go_sem,simprocAttr]
 generalize hN:n+c % 128*128 ^ i=N at *
 refine av (tO N) rfl rfl rfl rfl ?_; simp only [go_sem,simprocAttr]
 have hNl:(ak (aQ N)).length=(aQ N).length:=by simp [ak]
 simp only [hNl,ax (show i<9223372036854775807 by omega),go_sem,simprocAttr]
 have w1:IntKind.i64.wrap ((a0+i:Nat)+1:Int)=((a0+(i+1):Nat):Int):=by rw [aD (by omega) (by omega)]; omega
 by_cases Ku:(c=0∧0<i)∨dK<N
 case pos=>
  rw [if_pos Ku] at hF
  have:q=none:=hF.symm
  subst this
  have hne:(aQ N).length≠i+1:=by
   rcases Ku with ⟨hc0,XS⟩ | acv
   ·unfold aQ
    split
    ·have:N<128 ^ (i-1+1):=by rw [show i-1+1=i by omega,← hN,hc0]; simpa using hn
     have:=CP (i-1) 8 N this
     omega
    ·simp
   ·have:isNum N=false:=decide_eq_false (by omega)
    unfold aQ; rw [if_neg (by rw [this]; decide)]; simp
  simp only [show (((aQ N).length:Int) !=((i+1:Nat):Int))=true from bne_iff_ne.2 (by omega),oH,oI,Option.isSome_none,Int.natCast_zero,go_sem,simprocAttr]
 rw [if_neg Ku] at hF
 have:q=some (N,a0+(i+1)):=hF.symm
 subst this
 have ab5:isNum N=true:=decide_eq_true ⟨by omega,by omega⟩
 have aam:(aQ N).length=i+1:=by
  unfold aQ
  rw [if_pos ab5]
  have h1:=CP i 8 N hn2
  have h2:i+1≤(fT 8 N).length:=by
   by_cases XS:i=0
   ·subst XS; exact (qq 8 N).1
   ·refine IG i 8 N (by omega) ?_
    have hc1:1≤c % 128:=by omega
    have:1*128 ^ i≤c % 128*128 ^ i:=Int.mul_le_mul_of_nonneg_right hc1 (Int.le_of_lt OT)
    omega
  omega
 simp only [show (((aQ N).length:Int) !=((i+1:Nat):Int))=false by rw [aam]; simp,NT,w1,oH,oI,Option.isSome_some,go_sem,simprocAttr]
def SM (b:List Int) (n:Int) (p:List Int×Nat):St:=⟨[(0,af b),(9,.int n),(10,.int p.2),(12,.sl 0 p.1.length 1 0 p.1.length),(13,.int p.1.length)],[some (aG.dat 3 1 (bT p.1))]⟩
def oh:Option (List Int×Nat)→LV
 | none=>.dM [.d (.val (.slice none 0 0)),.int 0,.bool false]
 | some (xs,e)=>.dM [.sl 0 xs.length 1 0 xs.length,.int e,.bool true]
def om:Option (List Int×Nat)→List aG
 | none=>[]
 | some (xs,e)=>[.dat 3 1 (bT xs)]
set_option maxHeartbeats 1000000 in
theorem kT (b:List Int) (hb:∀ c∈b,0≤c∧c≤255) (hl:b.length≤1000000) (many:Nat) (hm:many≤1000) (q:Option (List Int×Nat)) (hq:kn b 0 many=q):br Tryz.prog G 240 [af b,.int 0,.int many] [] (oh q) (om q):=by
 refine bD Tryz.func240 (by decide) Qu rfl ?_
 simp only [TZ,go_sem,simprocAttr]
 refine av (ki b hb hl 0 (by decide) _ rfl) rfl rfl rfl rfl ?_; simp only [go_sem,simprocAttr]
 unfold kn at hq
 cases hn:eZ b 0 with
 | none=>
   rw [hn] at hq
   subst hq
   simp only [oH,oI,Option.isSome_none,Int.natCast_zero,oh,om,go_sem,simprocAttr]
   exact fQ (aC:=[]) ⟨rfl,rfl⟩ rfl rfl rfl
 | some np=>
 obtain ⟨n,p0⟩:=np
 rw [hn] at hq
 dsimp only at hq
 obtain ⟨hn0,LB,mz,hp1⟩:=eY (fun c hc=>(hb c hc).1) hn
 by_cases hgt:(many:Int)<n
 case pos=>
  rw [if_pos hgt] at hq
  subst hq
  simp only [oH,oI,Option.isSome_some,decide_eq_true (show n>(many:Int) from hgt),oh,om,go_sem,simprocAttr]
  exact fQ (aC:=[]) ⟨rfl,rfl⟩ rfl rfl rfl
 rw [if_neg hgt] at hq
 simp only [oH,oI,Option.isSome_some,decide_eq_false (show ¬ n>(many:Int) from hgt),go_sem,simprocAttr]
 refine aP [0,9,10,12,13] [.t 12 3 1] (fun p:List Int×Nat=>p.1.length≤n.toNat∧p.2≤b.length∧(kj b (n.toNat-p.1.length) p.2).map (fun r=>(p.1++r.1,r.2))=q) (fun p=>n.toNat-p.1.length) (SM b n) ([],p0) ?_ ⟨Nat.zero_le _,hp1,?_⟩ ?_
 ·simp only [SM,bT,Int.natCast_zero,go_sem,simprocAttr]
 ·dsimp only
  rw [← hq]
  simp
 clear hn mz hp1 hq
 rintro ⟨xs,p⟩ ⟨hk,hp,hF⟩
 dsimp only at hk hp hF
 generalize v_:xs.length=k at *
 simp only [SM,v_,go_sem,simprocAttr]
 cases hlt:decide ((k:Int)<n) with
 | false=>
   have hk2:k=n.toNat:=by have:=of_decide_eq_false hlt; omega
   rw [show n.toNat-k=0 by omega] at hF
   have:q=some (xs,p):=by rw [← hF]; simp [kj]
   subst this
   simp only [oh,om,v_,go_sem,simprocAttr]
   refine bM [] [0] [] (vs:=[.sl 0 k 1 0 k,.int p,.bool true]) rfl rfl (by decide) (by simp) (by simp) ?_ ?_ ?_
   ·simp [St.obj,ay,bX,fC]
   ·simp [dQ]
   ·simp [aF,ah,aa,bX,St.obj,ay,LV.int,LV.bool]
 | true=>
 have hk2:k<n.toNat:=by have:=of_decide_eq_true hlt; omega
 rw [show n.toNat-k=(n.toNat-(k+1))+1 by omega] at hF
 unfold kj at hF
 simp only [go_sem,simprocAttr]
 refine av (ki b hb hl p (by omega) _ rfl) rfl rfl rfl rfl ?_; simp only [go_sem,simprocAttr]
 cases hn:eZ b p with
 | none=>
   rw [hn] at hF
   have:q=none:=by rw [← hF]; rfl
   subst this
   simp only [oH,oI,Option.isSome_none,Int.natCast_zero,oh,om,go_sem,simprocAttr]
   exact fQ (aC:=[]) ⟨rfl,rfl⟩ rfl rfl rfl
 | some np=>
 obtain ⟨x,p1⟩:=np
 rw [hn] at hF
 dsimp only at hF
 obtain ⟨hx0,hx1,hp2,hp3⟩:=eY (fun c hc=>(hb c hc).1) hn
 have hnl:(bT xs).length=k:=by simp [bT,v_]
 have iR:(bT xs++[[DV.val (Value.int IntKind.i64 x)]]).length*8≤70368744177664:=by simp [bT,v_]; omega
 simp only [oH,oI,Option.isSome_some,go_sem,simprocAttr]
 rw [if_pos ⟨hnl.symm,iR⟩]
 simp only [hnl,go_sem,simprocAttr]
 have hap:(xs++[x]).length=k+1:=by simp [v_]
 refine aR (xs++[x],p1) ?_ ?_ ⟨by dsimp only; omega,hp3,?_⟩ (by dsimp only; omega)
 ·simp only [go_sem,simprocAttr]
 ·simp only [SM,hap,bT,List.map_append,ax (show k<9223372036854775807 by omega),go_sem,simprocAttr]
 ·dsimp only
  rw [hap,← hF]
  cases kj b (n.toNat-(k+1)) p1 with
  | none=>rfl
  | some r=>simp
end Dv
set_option maxRecDepth 100000
namespace Dv
open Go Go.Proofs
variable {G:Nat→Option (List DV)}
def TU:=qx Tryz.f260
theorem Qo:aq Tryz.prog Tryz.f260=some TU:=by kernel_rfl
def Uo:=qx Tryz.f209
theorem QW:aq Tryz.prog Tryz.f209=some Uo:=by kernel_rfl
def FP (s:ai):aG:=.box 30 [bK s.nodes,cA s.jobs,.int s.goal,.int s.bH,.int s.mode,.int s.term]
def HR (s:ai) (i:Nat):St:=⟨[(1,.ptr 0 0),(3,.sl 1 (1+3*i) 1 0 (1+3*i)),(4,.int i)],[some (FP s),some (.dat 3 1 (bT (jl s i)))]⟩
def HQ (s:ai) (i:Nat):St:=⟨[(1,.ptr 0 0),(3,.sl 1 (2+3*s.nodes.length+12*i) 1 0 (2+3*s.nodes.length+12*i)),(7,.int i)],[some (FP s),some (.dat 3 1 (bT (lQ s i))),some (.dat 3 1 [[i64 s.jobs.length]])]⟩
attribute [local go_sem] bT af FP
set_option maxHeartbeats 2000000 in
theorem JE (s:ai) (hN:s.nodes.length≤100000) (hJ:s.jobs.length≤100000):br Tryz.prog G 260 [bz s] [] (.d (.dN 1 (bT (c_ s)))) []:=by
 refine bD Tryz.func260 (by decide) Qo rfl ?_
 simp only [TU,go_sem,simprocAttr]
 refine aP [1,3,4] [] (fun i:Nat=>i≤s.nodes.length) (fun i=>s.nodes.length-i) (HR s) 0 ?_ (Nat.zero_le _) ?_
 ·simp only [HR,jl,List.flatMap_nil,Int.natCast_zero,Nat.mul_zero,go_sem,simprocAttr]
 ·intro i hi
  have hnl:(bT (jl s i)).length=1+3*i:=by simp only [bT,List.length_map,gm s hi]
  simp only [HR,go_sem,simprocAttr]
  cases hlt:decide ((i:Int)<(s.nodes.length:Int)) with
  | true=>
    have hi2:i<s.nodes.length:=by have:=of_decide_eq_true hlt; omega
    have hg:=aB (f:=a_) an hi2
    have nC:=yA s hi2
    generalize s.nodes.getD i an=n at *
    obtain ⟨nu,nc,nm,nv,nj⟩:=n
    have iR:∀ r:List (List DV),r.length≤20→(List.map (fun n:Int=>[DV.val (Value.int IntKind.i64 n)]) (jl s i)++r).length*8≤70368744177664:=fun r hr=>by rw [List.length_append,List.length_map,gm s hi]; omega
    simp only [a_] at hg
    simp only [hg,go_sem,simprocAttr]
    cases nu <;> cases nc <;> cases nm <;> (
     simp only [show IntKind.i64.wrap 1=1 from rfl,show IntKind.i64.wrap 2=2 from rfl,show IntKind.i64.wrap 3=3 from rfl,show IntKind.i64.wrap 4=4 from rfl,show IntKind.i64.wrap 5=5 from rfl,show IntKind.i64.wrap 6=6 from rfl,show IntKind.i64.wrap 7=7 from rfl,go_sem,simprocAttr]
     rw [if_pos ⟨(gm s hi).symm,iR _ (by simp)⟩]
     simp only [gm s hi,go_sem,simprocAttr]
     refine aR (i+1) ?_ ?_ (by omega) (by omega)
     ·simp only [go_sem,simprocAttr]
     ·simp only [HR,nC,iP,uk,rI,Bool.false_eq_true,List.map_append,ax (show i<9223372036854775807 by omega),show 1+3*(i+1)=1+3*i+3 by omega,go_sem,simprocAttr])
  | false=>
  have hi2:i=s.nodes.length:=by have:=of_decide_eq_false hlt; omega
  subst hi2
  simp only [go_sem,simprocAttr]
  have X2:=gm s (Nat.le_refl s.nodes.length)
  have iR:∀ r:List (List DV),r.length≤20→(List.map (fun n:Int=>[DV.val (Value.int IntKind.i64 n)]) (jl s s.nodes.length)++r).length*8≤70368744177664:=fun r hr=>by rw [List.length_append,List.length_map,X2]; omega
  rw [if_pos ⟨X2.symm,iR _ (by simp)⟩]
  simp only [X2,go_sem,simprocAttr]
  refine aP [1,3,7] [] (fun k:Nat=>k≤s.jobs.length) (fun k=>s.jobs.length-k) (HQ s) 0 ?_ (Nat.zero_le _) ?_
  ·simp only [HQ,lQ,List.flatMap_nil,List.map_append,Int.natCast_zero,Nat.mul_zero,show 1+3*s.nodes.length+1=2+3*s.nodes.length by omega,go_sem,simprocAttr]
  intro k hk
  have y5:=lq s hk
  have iR:∀ r:List (List DV),r.length≤20→(List.map (fun n:Int=>[DV.val (Value.int IntKind.i64 n)]) (lQ s k)++r).length*8≤70368744177664:=fun r hr=>by rw [List.length_append,List.length_map,y5]; omega
  simp only [HQ,go_sem,simprocAttr]
  cases hlt:decide ((k:Int)<(s.jobs.length:Int)) with
  | true=>
    have hk2:k<s.jobs.length:=by have:=of_decide_eq_true hlt; omega
    have hg:=aB (f:=cQ) aK hk2
    have nC:=yB s hk2
    generalize s.jobs.getD k aK=j at *
    simp only [cQ] at hg
    simp only [hg,go_sem,simprocAttr]
    rw [if_pos ⟨y5.symm,iR _ (by simp)⟩]
    simp only [y5,go_sem,simprocAttr]
    refine aR (k+1) ?_ ?_ (by omega) (by omega)
    ·simp only [go_sem,simprocAttr]
    ·simp only [HQ,nC,iV,List.map_append,ax (show k<9223372036854775807 by omega),show 2+3*s.nodes.length+12*(k+1)=2+3*s.nodes.length+12*k+12 by omega,go_sem,simprocAttr]
  | false=>
  have hk2:k=s.jobs.length:=by have:=of_decide_eq_false hlt; omega
  subst hk2
  simp only [go_sem,simprocAttr]
  rw [if_pos ⟨y5.symm,iR _ (by simp)⟩]
  simp only [y5,go_sem,simprocAttr]
  have hnl:(c_ s).length=2+3*s.nodes.length+12*s.jobs.length+4:=by unfold c_; rw [List.length_append,y5]; rfl
  exact bw [1] rfl (by simp [St.obj,ay]) (by simp [St.obj,ay,aF,St.get,aO,ah,aM,c_,List.take_of_length_le,y5])
set_option maxHeartbeats 1000000 in
theorem DO (s:ai) (hN:s.nodes.length≤1000000) (hJ:s.jobs.length≤1000000):br Tryz.prog G 209 [bz s] [] (af (e7 s)) []:=by
 refine bD Tryz.func209 (by decide) QW rfl ?_
 simp only [Uo,go_sem,simprocAttr]
 by_cases h6:s.nodes.length≤6
 case neg=>
  have hp:e7 s=[]:=by unfold e7; rw [if_neg (by omega)]
  simp only [decide_eq_true (show ((s.nodes.length:Nat):Int)>6 by omega),hp,go_sem,simprocAttr]
  exact kM rfl (by simp [aF,ah,af,ak,St.get,aO])
 by_cases X7:s.jobs.length≤24
 case neg=>
  have hp:e7 s=[]:=by unfold e7; rw [if_neg (by omega)]
  simp only [decide_eq_false (show ¬ ((s.nodes.length:Nat):Int)>6 by omega),decide_eq_true (show ((s.jobs.length:Nat):Int)>24 by omega),hp,go_sem,simprocAttr]
  exact kM rfl (by simp [aF,ah,af,ak,St.get,aO])
 have hp:e7 s=fG (c_ s):=by unfold e7; rw [if_pos ⟨h6,X7⟩]
 simp only [decide_eq_false (show ¬ ((s.nodes.length:Nat):Int)>6 by omega),decide_eq_false (show ¬ ((s.jobs.length:Nat):Int)>24 by omega),hp,go_sem,simprocAttr]
 refine av (JE s (by omega) (by omega)) rfl rfl rfl rfl ?_; simp only [go_sem,simprocAttr]
 have hnl:(c_ s).length=2+3*s.nodes.length+12*s.jobs.length+4:=by unfold c_; rw [List.length_append,lq s (Nat.le_refl _)]; rfl
 refine av (A2 (c_ s) (by omega)) rfl rfl rfl rfl ?_; simp only [go_sem,simprocAttr]
 exact fQ (aC:=[]) ⟨rfl,rfl⟩ rfl rfl rfl
end Dv
set_option maxRecDepth 100000
namespace Dv
open Go Go.Proofs
variable {G:Nat→Option (List DV)}
def Ux:Nat×C×List RV:=(195,
(.seq (.kH [qo 2 (.box 23 (.t 0)),
 qo 4 (.new 30 [(.val (.slice none 0 0)),(.val (.slice none 0 0)),q0,q0,q0,q0]),
 qo 5 (.mv qf)])
 (.seq (.kH [qo 6 (.new 30 [(.val (.slice none 0 0)),(.val (.slice none 0 0)),q0,q0,q0,q0])])
 (.seq (.kH [qm 17 1,
 qo 18 (.call (.f 240) [(.t 17),(qk 0),(qk 400)]),
 qm 16 18,
 qo 19 (.ext (.t 16) 0),
 qo 20 (.ext (.t 16) 1),
 qo 21 (.ext (.t 16) 2),
 qm 7 19,
 qm 8 20,
 qm 9 21])
 (.seq (.seq (.kH [qm 22 9,
 qo 23 (.not (.t 22)),
 qm 24 23,
 qg 25 (.mv (.t 7)) 24 false,
 qg 26 (.len (.t 25)) 24 false,
 qg 27 (.bin .lss (.t 26) (qk 6)) 24 false,
 qo 28 (.pick (.t 24) qt (.t 27)),
 qm 29 28,
 qg 30 (.mv (.t 7)) 29 false,
 qg 31 (.sM 1 (.t 30) (qk 0)) 29 false,
 qg 32 (.ld1 (.t 31)) 29 false,
 qg 33 (.bin .gtr (.t 32) (qk 6)) 29 false,
 qo 34 (.pick (.t 29) qt (.t 33)),
 qm 35 34,
 qg 36 (.mv (.t 7)) 35 false,
 qg 37 (.len (.t 36)) 35 false,
 qg 38 (.mv (.t 7)) 35 false,
 qg 39 (.sM 1 (.t 38) (qk 0)) 35 false,
 qg 40 (.ld1 (.t 39)) 35 false,
 qg 41 (.bin .mul (qk 3) (.t 40)) 35 false,
 qg 42 (.bin .add (qk 6) (.t 41)) 35 false,
 qg 43 (.bin .lss (.t 37) (.t 42)) 35 false,
 qo 44 (.pick (.t 35) qt (.t 43))])
 (.cond (.t 44) (.seq (.kH [qo 45 (.HV 6 (.t 6)),
 qn (.st 6 (.t 4) (.t 45)),
 qo 5 (.mv qf)])
 .ret)
 .skip))
 (.seq (.kH [qo 10 (.mv (qk 1))])
 (.seq (.seq (.kH [qo 11 (.mv (qk 0))])
 (.block 0 (.loop (.seq (.seq (.kH [qm 46 11,
 qm 47 7,
 qo 48 (.sM 1 (.t 47) (qk 0)),
 qo 49 (.ld1 (.t 48)),
 qo 50 (.bin .lss (.t 46) (.t 49))])
 (.cond (.t 50) .skip
 (.exit 0)))
 (.seq (.block 1 (.seq (.kH [qm 53 7,
 qm 54 10,
 qo 55 (.sM 1 (.t 53) (.t 54)),
 qo 56 (.ld1 (.t 55)),
 qm 12 56])
 (.seq (.sC [qo 57 (.nI 0 (.t 6)),
 qd 58 (.ld1 (.t 57)) [0],
 qm 59 12,
 qd 60 (.bin .rem (.t 59) (qk 2)) [2],
 qd 61 (.bin .eql (.t 60) (qk 1)) [3,2],
 qm 62 12,
 qd 63 (.bin .quo (.t 62) (qk 2)) [5],
 qd 64 (.bin .rem (.t 63) (qk 2)) [6,5],
 qd 65 (.bin .eql (.t 64) (qk 1)) [7,6,5],
 qm 66 12,
 qd 67 (.bin .quo (.t 66) (qk 4)) [9],
 qd 68 (.bin .rem (.t 67) (qk 2)) [10,9],
 qd 69 (.bin .eql (.t 68) (qk 1)) [11,10,9],
 qm 70 7,
 qm 71 10,
 qd 72 (.bin .add (.t 71) (qk 1)) [14],
 qd 73 (.sM 1 (.t 70) (.t 72)) [13,15,14],
 qd 74 (.ld1 (.t 73)) [16,13,15,14],
 qm 75 7,
 qm 76 10,
 qd 77 (.bin .add (.t 76) (qk 2)) [19],
 qd 78 (.sM 1 (.t 75) (.t 77)) [18,20,19],
 qd 79 (.ld1 (.t 78)) [21,18,20,19],
 qd 80 (.build [(.val (.bool false)),(.val (.bool false)),(.val (.bool false)),q0,q0] [(0,1,(.t 61)),(1,1,(.t 65)),(2,1,(.t 69)),(3,1,(.t 74)),(4,1,(.t 79))]) [4,3,2,8,7,6,5,12,11,10,9,17,16,13,15,14,22,21,18,20,19],
 qd 81 (.O0 102 5 [(.t 80)]) [23,4,3,2,8,7,6,5,12,11,10,9,17,16,13,15,14,22,21,18,20,19],
 qd 82 (.app 102 5 24 (.t 58) (.t 81)) [1,0,24,23,4,3,2,8,7,6,5,12,11,10,9,17,16,13,15,14,22,21,18,20,19],
 qd 83 (.nI 0 (.t 6)) [0,1,2,3,4,5,6,7,8,9,10,11,12,13,14,15,16,17,18,19,20,21,22,23,24,25],
 ql (.st 1 (.t 83) (.t 82)) [26,0,1,2,3,4,5,6,7,8,9,10,11,12,13,14,15,16,17,18,19,20,21,22,23,24,25]])
 (.kH [qm 84 10,
 qo 85 (.bin .add (.t 84) (qk 3)),
 qm 10 85]))))
 (.kH [qm 51 11,
 qo 52 (.bin .add (.t 51) (qk 1)),
 qm 11 52]))))))
 (.seq (.kH [qm 86 7,
 qm 87 10,
 qo 88 (.sM 1 (.t 86) (.t 87)),
 qo 89 (.ld1 (.t 88)),
 qm 13 89])
 (.seq (.kH [qm 90 10,
 qo 91 (.bin .add (.t 90) (qk 1)),
 qm 10 91])
 (.seq (.seq (.kH [qm 92 13,
 qo 93 (.bin .gtr (.t 92) (qk 24)),
 qm 94 93,
 qg 95 (.mv (.t 7)) 94 false,
 qg 96 (.len (.t 95)) 94 false,
 qg 97 (.mv (.t 10)) 94 false,
 qg 98 (.mv (.t 13)) 94 false,
 qg 99 (.bin .mul (qk 12) (.t 98)) 94 false,
 qg 100 (.bin .add (.t 97) (.t 99)) 94 false,
 qg 101 (.bin .add (.t 100) (qk 4)) 94 false,
 qg 102 (.bin .neq (.t 96) (.t 101)) 94 false,
 qo 103 (.pick (.t 94) qt (.t 102))])
 (.cond (.t 103) (.seq (.kH [qo 104 (.build [(.val (.slice none 0 0)),(.val (.slice none 0 0)),q0,q0,q0,q0] []),
 qn (.st 6 (.t 4) (.t 104)),
 qo 5 (.mv qf)])
 .ret)
 .skip))
 (.seq (.seq (.kH [qo 14 (.mv (qk 0))])
 (.block 2 (.loop (.seq (.seq (.kH [qm 105 14,
 qm 106 13,
 qo 107 (.bin .lss (.t 105) (.t 106))])
 (.cond (.t 107) .skip
 (.exit 2)))
 (.seq (.block 3 (.seq (.kH [qm 110 7,
 qm 111 10,
 qm 112 10,
 qo 113 (.bin .add (.t 112) (qk 12)),
 qo 114 (.Yt 1 (.t 110) (some (.t 111)) (some (.t 113)) none),
 qm 15 114])
 (.seq (.sC [qo 115 (.nI 1 (.t 6)),
 qd 116 (.ld1 (.t 115)) [0],
 qm 117 15,
 qd 118 (.sM 1 (.t 117) (qk 0)) [2],
 qd 119 (.ld1 (.t 118)) [3,2],
 qm 120 15,
 qd 121 (.sM 1 (.t 120) (qk 1)) [5],
 qd 122 (.ld1 (.t 121)) [6,5],
 qm 123 15,
 qd 124 (.sM 1 (.t 123) (qk 2)) [8],
 qd 125 (.ld1 (.t 124)) [9,8],
 qm 126 15,
 qd 127 (.sM 1 (.t 126) (qk 3)) [11],
 qd 128 (.ld1 (.t 127)) [12,11],
 qm 129 15,
 qd 130 (.sM 1 (.t 129) (qk 4)) [14],
 qd 131 (.ld1 (.t 130)) [15,14],
 qm 132 15,
 qd 133 (.sM 1 (.t 132) (qk 5)) [17],
 qd 134 (.ld1 (.t 133)) [18,17],
 qm 135 15,
 qd 136 (.sM 1 (.t 135) (qk 6)) [20],
 qd 137 (.ld1 (.t 136)) [21,20],
 qm 138 15,
 qd 139 (.sM 1 (.t 138) (qk 7)) [23],
 qd 140 (.ld1 (.t 139)) [24,23],
 qm 141 15,
 qd 142 (.sM 1 (.t 141) (qk 8)) [26],
 qd 143 (.ld1 (.t 142)) [27,26],
 qm 144 15,
 qd 145 (.sM 1 (.t 144) (qk 9)) [29],
 qd 146 (.ld1 (.t 145)) [30,29],
 qm 147 15,
 qd 148 (.sM 1 (.t 147) (qk 10)) [32],
 qd 149 (.ld1 (.t 148)) [33,32],
 qm 150 15,
 qd 151 (.sM 1 (.t 150) (qk 11)) [35],
 qd 152 (.ld1 (.t 151)) [36,35],
 qd 153 (.build [q0,q0,q0,q0,q0,q0,q0,q0,q0,q0,q0,q0] [(0,1,(.t 119)),(1,1,(.t 122)),(2,1,(.t 125)),(3,1,(.t 128)),(4,1,(.t 131)),(5,1,(.t 134)),(6,1,(.t 137)),(7,1,(.t 140)),(8,1,(.t 143)),(9,1,(.t 146)),(10,1,(.t 149)),(11,1,(.t 152))]) [4,3,2,7,6,5,10,9,8,13,12,11,16,15,14,19,18,17,22,21,20,25,24,23,28,27,26,31,30,29,34,33,32,37,36,35],
 qd 154 (.O0 119 12 [(.t 153)]) [38,4,3,2,7,6,5,10,9,8,13,12,11,16,15,14,19,18,17,22,21,20,25,24,23,28,27,26,31,30,29,34,33,32,37,36,35],
 qd 155 (.app 119 12 96 (.t 116) (.t 154)) [1,0,39,38,4,3,2,7,6,5,10,9,8,13,12,11,16,15,14,19,18,17,22,21,20,25,24,23,28,27,26,31,30,29,34,33,32,37,36,35],
 qd 156 (.nI 1 (.t 6)) [0,1,2,3,4,5,6,7,8,9,10,11,12,13,14,15,16,17,18,19,20,21,22,23,24,25,26,27,28,29,30,31,32,33,34,35,36,37,38,39,40],
 ql (.st 1 (.t 156) (.t 155)) [41,0,1,2,3,4,5,6,7,8,9,10,11,12,13,14,15,16,17,18,19,20,21,22,23,24,25,26,27,28,29,30,31,32,33,34,35,36,37,38,39,40]])
 (.kH [qm 157 10,
 qo 158 (.bin .add (.t 157) (qk 12)),
 qm 10 158]))))
 (.kH [qm 108 14,
 qo 109 (.bin .add (.t 108) (qk 1)),
 qm 14 109]))))))
 (.seq (.kH [qm 159 7,
 qm 160 10,
 qo 161 (.sM 1 (.t 159) (.t 160)),
 qo 162 (.ld1 (.t 161)),
 qo 163 (.nI 2 (.t 6)),
 qn (.st 1 (.t 163) (.t 162))])
 (.seq (.kH [qm 164 7,
 qm 165 10,
 qo 166 (.bin .add (.t 165) (qk 1)),
 qo 167 (.sM 1 (.t 164) (.t 166)),
 qo 168 (.ld1 (.t 167)),
 qo 169 (.nI 3 (.t 6)),
 qn (.st 1 (.t 169) (.t 168))])
 (.seq (.kH [qm 170 7,
 qm 171 10,
 qo 172 (.bin .add (.t 171) (qk 2)),
 qo 173 (.sM 1 (.t 170) (.t 172)),
 qo 174 (.ld1 (.t 173)),
 qo 175 (.nI 4 (.t 6)),
 qn (.st 1 (.t 175) (.t 174))])
 (.seq (.kH [qm 176 7,
 qm 177 10,
 qo 178 (.bin .add (.t 177) (qk 3)),
 qo 179 (.sM 1 (.t 176) (.t 178)),
 qo 180 (.ld1 (.t 179)),
 qo 181 (.nI 5 (.t 6)),
 qn (.st 1 (.t 181) (.t 180))])
 (.seq (.seq (.kH [qo 182 (.HV 6 (.t 6)),
 qo 183 (.call (.f 209) [(.t 182)]),
 qm 184 1,
 qo 185 (.call (.f 57) [(.t 183),(.t 184)]),
 qo 186 (.not (.t 185)),
 qm 187 186,
 qg 188 (.HV 9 (.t 2)) 187 false,
 qg 189 (.HV 6 (.t 6)) 187 false,
 qg 190 (.call (.f 241) [(.t 188),(.t 189)]) 187 false,
 qg 191 (.not (.t 190)) 187 false,
 qo 192 (.pick (.t 187) qt (.t 191))])
 (.cond (.t 192) (.seq (.kH [qo 193 (.build [(.val (.slice none 0 0)),(.val (.slice none 0 0)),q0,q0,q0,q0] []),
 qn (.st 6 (.t 4) (.t 193)),
 qo 5 (.mv qf)])
 .ret)
 .skip))
 (.seq (.kH [qo 194 (.HV 6 (.t 6)),
 qn (.st 6 (.t 4) (.t 194)),
 qo 5 (.mv qt)])
 .ret)))))))))))))))),
[(.cn 4 6),(.t 5)])
theorem Q5:aq Tryz.prog Tryz.f189=some Ux:=by kernel_rfl
def jC:LV:=.d (.val (.slice none 0 0))
attribute [local go_sem] af jC
def Ox (c:aI):aG:=.box 23 [.int c.nodes,.int c.bn,.int c.cv,.int c.gJ,.int c.eF,.int c.eE,.int c.deadline,.int c.room,.int c.gq]
def Wn:aG:=.box 30 [jC,jC,.int 0,.int 0,.int 0,.int 0]
attribute [local go_sem] Ox Wn
def IB (c:aI) (b xs:List Int) (k:Nat):St:=⟨[(1,af b),(2,.ptr 0 0),(4,.ptr 1 0),(6,.ptr 2 0),(7,.sl 3 xs.length 1 0 xs.length),(10,.int (1+3*k:Nat)),(11,.int k)],
 [some (Ox c),some Wn,some (.box 30 [.sl 4 k 5 0 k,jC,.int 0,.int 0,.int 0,.int 0]),some (.dat 3 1 (bT xs)),some (.dat 102 5 ((jL xs k).map a_))]⟩
def IA (c:aI) (b xs:List Int) (k:Nat):St:=⟨[(1,af b),(2,.ptr 0 0),(4,.ptr 1 0),(6,.ptr 2 0),(7,.sl 3 xs.length 1 0 xs.length),(10,.int (2+3*dY xs+12*k:Nat)),(13,.int (eB xs)),(14,.int k)],
 [some (Ox c),some Wn,some (.box 30 [.sl 4 (dY xs) 5 0 (dY xs),.sl 5 k 12 0 k,.int 0,.int 0,.int 0,.int 0]),some (.dat 3 1 (bT xs)),some (.dat 102 5 ((jL xs (dY xs)).map a_)),some (.dat 119 12 ((oL xs k).map cQ))]⟩
theorem Mj (s:ai):(e7 s).length≤1000000:=by
 unfold e7
 split
 ·rename_i h
  unfold fG
  split
  ·have hl:(c_ s).length=2+3*s.nodes.length+12*s.jobs.length+4:=by unfold c_; rw [List.length_append,lq s (Nat.le_refl _)]; rfl
   have h1:=uj (c_ s)
   have h2:=dL ((c_ s).length:Int)
   rw [List.length_append]
   omega
  ·simp
 ·simp
set_option maxHeartbeats 4000000 in
theorem Ob (c:aI) (b:List Int) (hb:∀ x∈b,0≤x∧x≤255) (hl:b.length≤1000000):br Tryz.prog G 189 [f_ c,af b] [] (fW (Ky c b)) []:=by
 refine bD Tryz.func189 (by decide) Q5 rfl ?_
 generalize hq:Ky c b=q
 unfold Ky at hq
 simp only [Ux,go_sem,simprocAttr]
 cases hL:kn b 0 400 with
 | none=>
   rw [hL] at hq
   subst hq
   refine av (kT b hb hl 400 (by decide) none hL) rfl rfl rfl rfl ?_
   simp only [oh,om,go_sem,simprocAttr]
   exact bw [] (vs:=[.agg [jC,jC,.int 0,.int 0,.int 0,.int 0],.bool false]) rfl (fun z hz=>by cases hz) (by simp [aF,fW,ah,aa,LV.bool,LV.int,j4,bz,jC,bK,cA])
 | some xe=>
 obtain ⟨xs,e⟩:=xe
 obtain ⟨h1,h2,h3⟩:=ug (fun c hc=>(hb c hc).1) hL
 rw [hL] at hq
 dsimp only at hq
 refine fO (kT b hb hl 400 (by decide) (some (xs,e)) hL) rfl rfl rfl ?_
 simp only [oh,om,go_sem,simprocAttr]
 have bad:∀ {x:Bool},x=false→(if WH xs=true∧okB xs=true∧e7 (LZ xs)=b∧kP c (LZ xs)=true then some (LZ xs) else none)=q→True:=fun _ _=>trivial
 by_cases hA1:6≤xs.length
 case neg=>
  have:WH xs=false:=decide_eq_false (by omega)
  rw [if_neg (by rw [this]; simp)] at hq
  subst hq
  simp only [decide_eq_true (show ((xs.length:Nat):Int)<6 by omega),go_sem,simprocAttr]
  exact bw [] (vs:=[.agg [jC,jC,.int 0,.int 0,.int 0,.int 0],.bool false]) rfl (fun z hz=>by cases hz) (by simp [aF,fW,ah,aa,LV.bool,LV.int,j4,bz,jC,bK,cA])
 have Kq:=aB (f:=fun n:Int=>[i64 n]) 0 (show 0<xs.length by omega)
 have hx0:=h2 (xs.getD 0 0) (by simp [List.getD,show 0<xs.length by omega])
 have hnl:(bT xs).length=xs.length:=by simp [bT]
 have hN:xs.getD 0 0=(dY xs:Int):=(Int.toNat_of_nonneg hx0.1).symm
 rw [hN] at Kq hx0
 have XT:(bT xs)[0]? = some [DV.val (.int .i64 (dY xs:Int))]:=Kq
 have hL0:0<xs.length:=by omega
 simp only [decide_eq_false (show ¬ ((xs.length:Nat):Int)<6 by omega),hL0,hnl,XT,go_sem,simprocAttr]
 by_cases o7:dY xs≤6
 case neg=>
  have:WH xs=false:=decide_eq_false (by omega)
  rw [if_neg (by rw [this]; simp)] at hq
  subst hq
  simp only [decide_eq_true (show ((dY xs:Nat):Int)>6 by omega),go_sem,simprocAttr]
  exact bw [] (vs:=[.agg [jC,jC,.int 0,.int 0,.int 0,.int 0],.bool false]) rfl (fun z hz=>by cases hz) (by simp [aF,fW,ah,aa,LV.bool,LV.int,j4,bz,jC,bK,cA])
 have hw1:IntKind.i64.wrap (3*(dY xs:Int))=3*(dY xs:Int):=aD (by omega) (by omega)
 have Lz:IntKind.i64.wrap (6+3*(dY xs:Int))=6+3*(dY xs:Int):=aD (by omega) (by omega)
 simp only [decide_eq_false (show ¬ ((dY xs:Nat):Int)>6 by omega),hL0,hnl,XT,hw1,Lz,go_sem,simprocAttr]
 by_cases hA3:6+3*(dY xs:Int)≤xs.length
 case neg=>
  have:WH xs=false:=decide_eq_false (by omega)
  rw [if_neg (by rw [this]; simp)] at hq
  subst hq
  simp only [decide_eq_true (show ((xs.length:Nat):Int)<6+3*(dY xs:Int) by omega),go_sem,simprocAttr]
  exact bw [] (vs:=[.agg [jC,jC,.int 0,.int 0,.int 0,.int 0],.bool false]) rfl (fun z hz=>by cases hz) (by simp [aF,fW,ah,aa,LV.bool,LV.int,j4,bz,jC,bK,cA])
 have abF:WH xs=true:=decide_eq_true (by omega)
 simp only [decide_eq_false (show ¬ ((xs.length:Nat):Int)<6+3*(dY xs:Int) by omega),go_sem,simprocAttr]
 refine aP [1,2,4,6,7,10,11] [.b 2 0 102 5] (fun k:Nat=>k≤dY xs) (fun k=>dY xs-k) (IB c b xs) 0 ?_ (Nat.zero_le _) ?_
 ·simp only [IB,Nat.mul_zero,jL,List.range_zero,Int.natCast_zero,go_sem,simprocAttr]
  all_goals rfl
 intro k hk
 simp only [IB,hnl,hL0,XT,go_sem,simprocAttr]
 cases hlt:decide ((k:Int)<(dY xs:Int)) with
 | true=>
   have hk2:k<dY xs:=by have:=of_decide_eq_true hlt; omega
   have l1:1+3*k<xs.length:=by omega
   have l2:1+3*k+1<xs.length:=by omega
   have l3:1+3*k+2<xs.length:=by omega
   have g1:=aB (f:=fun n:Int=>[i64 n]) 0 l1
   have g2:=aB (f:=fun n:Int=>[i64 n]) 0 l2
   have g3:=aB (f:=fun n:Int=>[i64 n]) 0 l3
   have hf:=h2 (xs.getD (1+3*k) 0) (by simp [List.getD,l1])
   have nC:=D_ xs k
   unfold HT pX at nC
   generalize xs.getD (1+3*k) 0=f at *
   generalize xs.getD (1+3*k+1) 0=v at *
   generalize xs.getD (1+3*k+2) 0=j at *
   have g1b:(bT xs)[1+3*k]? = some [DV.val (.int .i64 f)]:=g1
   have g2b:(bT xs)[1+3*k+1]? = some [DV.val (.int .i64 v)]:=g2
   have g3b:(bT xs)[1+3*k+2]? = some [DV.val (.int .i64 j)]:=g3
   have w1:IntKind.i64.wrap (((1+3*k:Nat):Int)+1)=((1+3*k+1:Nat):Int):=by rw [aD (by omega) (by omega)]; rfl
   have w2:IntKind.i64.wrap (((1+3*k:Nat):Int)+2)=((1+3*k+2:Nat):Int):=by rw [aD (by omega) (by omega)]; rfl
   have hfb:f≤9007199254740991:=hf.2
   have t0:(f.tmod 2==1)=hasB f 0:=by
    rw [Int.tmod_eq_emod_of_nonneg hf.1]; unfold hasB; rw [Bool.eq_iff_iff]; simp
   have t1:((IntKind.i64.wrap (f.tdiv 2)).tmod 2==1)=hasB f 1:=by
    rw [Int.tdiv_eq_ediv_of_nonneg hf.1,aD (by omega) (by omega),Int.tmod_eq_emod_of_nonneg (by omega)]; unfold hasB; rw [Bool.eq_iff_iff]; simp
   have t2:((IntKind.i64.wrap (f.tdiv 4)).tmod 2==1)=hasB f 2:=by
    rw [Int.tdiv_eq_ediv_of_nonneg hf.1,aD (by omega) (by omega),Int.tmod_eq_emod_of_nonneg (by omega)]; unfold hasB; rw [Bool.eq_iff_iff]; simp
   simp only [hnl,t0,t1,t2,l1,l2,l3,g1b,g2b,g3b,w1,w2,ne_eq,not_false_eq_true,show ((2:Int)=0)=False from by decide,show ((4:Int)=0)=False from by decide,go_sem,simprocAttr]
   have hlk:=yC xs k
   have iR:∀ r:List (List DV),r.length≤1→(List.map a_ (jL xs k)++r).length*24≤70368744177664:=fun r hr=>by rw [List.length_append,List.length_map,hlk]; omega
   rw [if_pos ⟨hlk.symm,iR _ (by simp)⟩]
   simp only [hlk,go_sem,simprocAttr]
   refine az (by decide) ?_
   have w3:IntKind.i64.wrap (((1+3*k:Nat):Int)+3)=((1+3*(k+1):Nat):Int):=by rw [aD (by omega) (by omega)]; omega
   simp only [w3,go_sem,simprocAttr]
   refine aR (k+1) ?_ ?_ (by omega) (by omega)
   ·simp only [go_sem,simprocAttr]
   ·simp only [IB,nC,List.map_append,ax (show k<9223372036854775807 by omega),go_sem,simprocAttr]
 | false=>
 obtain rfl:k=dY xs:=by have:=of_decide_eq_false hlt; omega
 have l1:1+3*dY xs<xs.length:=by omega
 have g1:=aB (f:=fun n:Int=>[i64 n]) 0 l1
 have hx1:=h2 (xs.getD (1+3*dY xs) 0) (by simp [List.getD,l1])
 have hM:xs.getD (1+3*dY xs) 0=(eB xs:Int):=(Int.toNat_of_nonneg hx1.1).symm
 rw [hM] at g1 hx1
 have acp:(eB xs:Int)≤9007199254740991:=hx1.2
 have g1b:(bT xs)[1+3*dY xs]? = some [DV.val (.int .i64 (eB xs:Int))]:=g1
 have w1:IntKind.i64.wrap (((1+3*dY xs:Nat):Int)+1)=((2+3*dY xs:Nat):Int):=by rw [aD (by omega) (by omega)]; omega
 simp only [l1,hnl,g1b,w1,go_sem,simprocAttr]
 by_cases hB1:eB xs≤24
 case neg=>
  have:okB xs=false:=decide_eq_false (by rw [hM]; omega)
  rw [if_neg (by rw [this]; simp)] at hq
  subst hq
  simp only [decide_eq_true (show ((eB xs:Nat):Int)>24 by omega),go_sem,simprocAttr]
  exact bw [] (vs:=[.agg [jC,jC,.int 0,.int 0,.int 0,.int 0],.bool false]) rfl (fun z hz=>by cases hz) (by simp [aF,fW,ah,aa,LV.bool,LV.int,j4,bz,jC,bK,cA])
 have w2:IntKind.i64.wrap (12*(eB xs:Int))=12*(eB xs:Int):=aD (by omega) (by omega)
 have w3:IntKind.i64.wrap (((2+3*dY xs:Nat):Int)+12*(eB xs:Int))=2+3*(dY xs:Int)+12*(eB xs:Int):=by rw [aD (by omega) (by omega)]; omega
 have w4:IntKind.i64.wrap (2+3*(dY xs:Int)+12*(eB xs:Int)+4)=2+3*(dY xs:Int)+12*(eB xs:Int)+4:=aD (by omega) (by omega)
 simp only [decide_eq_false (show ¬ ((eB xs:Nat):Int)>24 by omega),w2,w3,w4,go_sem,simprocAttr]
 by_cases hB2:(xs.length:Int)=2+3*(dY xs:Int)+12*(eB xs:Int)+4
 case neg=>
  have:okB xs=false:=decide_eq_false (by rw [hM]; omega)
  rw [if_neg (by rw [this]; simp)] at hq
  subst hq
  simp only [show ((xs.length:Int) !=2+3*(dY xs:Int)+12*(eB xs:Int)+4)=true from bne_iff_ne.2 hB2,go_sem,simprocAttr]
  exact bw [] (vs:=[.agg [jC,jC,.int 0,.int 0,.int 0,.int 0],.bool false]) rfl (fun z hz=>by cases hz) (by simp [aF,fW,ah,aa,LV.bool,LV.int,j4,bz,jC,bK,cA])
 have abE:okB xs=true:=decide_eq_true (by rw [hM]; omega)
 simp only [show ((xs.length:Int) !=2+3*(dY xs:Int)+12*(eB xs:Int)+4)=false by rw [hB2]; simp,go_sem,simprocAttr]
 refine aP [1,2,4,6,7,10,13,14] [.b 2 1 119 12] (fun k:Nat=>k≤eB xs) (fun k=>eB xs-k) (IA c b xs) 0 ?_ (Nat.zero_le _) ?_
 ·simp only [IA,Nat.mul_zero,oL,List.range_zero,Int.natCast_zero,go_sem,simprocAttr]
 intro k hk
 have hlk:=J8 xs k
 simp only [IA,go_sem,simprocAttr]
 cases Nw:decide ((k:Int)<(eB xs:Int)) with
 | true=>
   have hk2:k<eB xs:=by have:=of_decide_eq_true Nw; omega
   have nC:=Gl xs k
   unfold Qc at nC
   have acr:2+3*dY xs+12*k+12≤xs.length:=by omega
   generalize hP:2+3*dY xs+12*k=p at *
   have l0:p<xs.length:=by omega
   have g0:=aB (f:=fun n:Int=>[i64 n]) 0 l0
   have l1:p+1<xs.length:=by omega
   have g1:=aB (f:=fun n:Int=>[i64 n]) 0 l1
   have l2:p+2<xs.length:=by omega
   have g2:=aB (f:=fun n:Int=>[i64 n]) 0 l2
   have l3:p+3<xs.length:=by omega
   have g3:=aB (f:=fun n:Int=>[i64 n]) 0 l3
   have l4:p+4<xs.length:=by omega
   have g4:=aB (f:=fun n:Int=>[i64 n]) 0 l4
   have l5:p+5<xs.length:=by omega
   have g5:=aB (f:=fun n:Int=>[i64 n]) 0 l5
   have l6:p+6<xs.length:=by omega
   have g6:=aB (f:=fun n:Int=>[i64 n]) 0 l6
   have l7:p+7<xs.length:=by omega
   have g7:=aB (f:=fun n:Int=>[i64 n]) 0 l7
   have l8:p+8<xs.length:=by omega
   have g8:=aB (f:=fun n:Int=>[i64 n]) 0 l8
   have l9:p+9<xs.length:=by omega
   have g9:=aB (f:=fun n:Int=>[i64 n]) 0 l9
   have l10:p+10<xs.length:=by omega
   have g10:=aB (f:=fun n:Int=>[i64 n]) 0 l10
   have l11:p+11<xs.length:=by omega
   have g11:=aB (f:=fun n:Int=>[i64 n]) 0 l11
   generalize xs.getD p 0=x0 at *
   generalize xs.getD (p+1) 0=x1 at *
   generalize xs.getD (p+2) 0=x2 at *
   generalize xs.getD (p+3) 0=x3 at *
   generalize xs.getD (p+4) 0=x4 at *
   generalize xs.getD (p+5) 0=x5 at *
   generalize xs.getD (p+6) 0=x6 at *
   generalize xs.getD (p+7) 0=x7 at *
   generalize xs.getD (p+8) 0=x8 at *
   generalize xs.getD (p+9) 0=x9 at *
   generalize xs.getD (p+10) 0=O5 at *
   generalize xs.getD (p+11) 0=O4 at *
   have g0b:(bT xs)[p]? = some [DV.val (.int .i64 x0)]:=g0
   have g1b:(bT xs)[p+1]? = some [DV.val (.int .i64 x1)]:=g1
   have g2b:(bT xs)[p+2]? = some [DV.val (.int .i64 x2)]:=g2
   have g3b:(bT xs)[p+3]? = some [DV.val (.int .i64 x3)]:=g3
   have g4b:(bT xs)[p+4]? = some [DV.val (.int .i64 x4)]:=g4
   have g5b:(bT xs)[p+5]? = some [DV.val (.int .i64 x5)]:=g5
   have g6b:(bT xs)[p+6]? = some [DV.val (.int .i64 x6)]:=g6
   have g7b:(bT xs)[p+7]? = some [DV.val (.int .i64 x7)]:=g7
   have g8b:(bT xs)[p+8]? = some [DV.val (.int .i64 x8)]:=g8
   have g9b:(bT xs)[p+9]? = some [DV.val (.int .i64 x9)]:=g9
   have ab_:(bT xs)[p+10]? = some [DV.val (.int .i64 O5)]:=g10
   have ab9:(bT xs)[p+11]? = some [DV.val (.int .i64 O4)]:=g11
   have v1:IntKind.i64.wrap ((p:Int)+12)=((p+12:Nat):Int):=by rw [aD (by omega) (by omega)]; rfl
   have v2:p≤p+12∧p+12≤xs.length∧xs.length≤xs.length:=by omega
   have v3:p+12-p=12:=by omega
   have iR:∀ r:List (List DV),r.length≤1→(List.map cQ (oL xs k)++r).length*96≤70368744177664:=fun r hr=>by rw [List.length_append,List.length_map,hlk]; omega
   simp only [v1,v2,v3,hnl,g0b,g1b,g2b,g3b,g4b,g5b,g6b,g7b,g8b,g9b,ab_,ab9,go_sem,simprocAttr]
   rw [if_pos ⟨hlk.symm,iR _ (by simp)⟩]
   simp only [hlk,go_sem,simprocAttr]
   refine az (by decide) ?_
   simp only [v1,go_sem,simprocAttr]
   refine aR (k+1) ?_ ?_ (by omega) (by omega)
   ·simp only [go_sem,simprocAttr]
   ·simp only [IA,nC,List.map_append,ax (show k<9223372036854775807 by omega),show 2+3*dY xs+12*(k+1)=p+12 by omega,go_sem,simprocAttr]
 | false=>
 obtain rfl:k=eB xs:=by have:=of_decide_eq_false Nw; omega
 have hst:LZ xs=⟨jL xs (dY xs),oL xs (eB xs),xs.getD (2+3*dY xs+12*eB xs) 0,xs.getD (2+3*dY xs+12*eB xs+1) 0,xs.getD (2+3*dY xs+12*eB xs+2) 0,xs.getD (2+3*dY xs+12*eB xs+3) 0⟩:=rfl
 have hp4:2+3*dY xs+12*eB xs+4≤xs.length:=by omega
 have rD:=yC xs (dY xs)
 rw [abF,abE] at hq
 generalize jL xs (dY xs)=ns at *
 generalize oL xs (eB xs)=js at *
 generalize 2+3*dY xs+12*eB xs=p at *
 generalize LZ xs=s0 at *
 have m0:p<xs.length:=by omega
 have m1:p+1<xs.length:=by omega
 have m2:p+2<xs.length:=by omega
 have m3:p+3<xs.length:=by omega
 have q0:=aB (f:=fun n:Int=>[i64 n]) 0 m0
 have q1:=aB (f:=fun n:Int=>[i64 n]) 0 m1
 have q2:=aB (f:=fun n:Int=>[i64 n]) 0 m2
 have q3:=aB (f:=fun n:Int=>[i64 n]) 0 m3
 generalize xs.getD p 0=y0 at *
 generalize xs.getD (p+1) 0=y1 at *
 generalize xs.getD (p+2) 0=y2 at *
 generalize xs.getD (p+3) 0=y3 at *
 have q0b:(bT xs)[p]? = some [DV.val (.int .i64 y0)]:=q0
 have q1b:(bT xs)[p+1]? = some [DV.val (.int .i64 y1)]:=q1
 have q2b:(bT xs)[p+2]? = some [DV.val (.int .i64 y2)]:=q2
 have q3b:(bT xs)[p+3]? = some [DV.val (.int .i64 y3)]:=q3
 have u1:IntKind.i64.wrap ((p:Int)+1)=((p+1:Nat):Int):=by rw [aD (by omega) (by omega)]; rfl
 have u2:IntKind.i64.wrap ((p:Int)+2)=((p+2:Nat):Int):=by rw [aD (by omega) (by omega)]; rfl
 have u3:IntKind.i64.wrap ((p:Int)+3)=((p+3:Nat):Int):=by rw [aD (by omega) (by omega)]; rfl
 have c1:(js.map cQ).length=js.length:=by simp
 have hnM:eB xs=js.length:=by omega
 have hnN:dY xs=ns.length:=by omega
 rw [hnM,hnN]
 simp only [m0,m1,m2,m3,q0b,q1b,q2b,q3b,u1,u2,u3,hnl,go_sem,simprocAttr]
 have ht1:List.take ns.length (ns.map a_)=ns.map a_:=List.take_of_length_le (by simp)
 have ht2:List.take js.length (js.map cQ)=js.map cQ:=List.take_of_length_le (by simp)
 have hT:=DO (G:=G) s0 (by rw [hst]; dsimp only; omega) (by rw [hst]; dsimp only; omega)
 rw [show bz s0=.agg [bK ns,cA js,.int y0,.int y1,.int y2,.int y3] by rw [hst]; rfl] at hT
 refine jy [4,5] (hT) rfl (by simp [aa,ah,aM,ay,ht1,ht2,go_sem,simprocAttr]) (by simp [ay]) rfl ?_; simp only [go_sem,simprocAttr]
 have iZ:=Mj s0
 refine av (vC (e7 s0) b (by omega)) rfl rfl rfl rfl ?_; simp only [go_sem,simprocAttr]
 cases hpb:decide (e7 s0=b) with
 | false=>
   rw [if_neg (by intro h; exact of_decide_eq_false hpb h.2.2.1)] at hq
   subst hq
   simp only [go_sem,simprocAttr]
   exact bw [] (vs:=[.agg [jC,jC,.int 0,.int 0,.int 0,.int 0],.bool false]) rfl (fun z hz=>by cases hz) (by simp [aF,fW,ah,aa,LV.bool,LV.int,j4,bz,jC,bK,cA])
 | true=>
 simp only [go_sem,simprocAttr]
 have VS:=F0 (G:=G) c s0
 rw [show bz s0=.agg [bK ns,cA js,.int y0,.int y1,.int y2,.int y3] by rw [hst]; rfl] at VS
 refine xz [4,5] (VS) rfl (by simp [aa,ah,aM,ay,ht1,ht2,go_sem,simprocAttr]) (by simp [ay]) rfl rfl ?_; simp only [go_sem,simprocAttr]
 cases YB:kP c s0 with
 | false=>
   rw [if_neg (by rw [YB]; simp)] at hq
   subst hq
   simp only [go_sem,simprocAttr]
   exact bw [] (vs:=[.agg [jC,jC,.int 0,.int 0,.int 0,.int 0],.bool false]) rfl (fun z hz=>by cases hz) (by simp [aF,fW,ah,aa,LV.bool,LV.int,j4,bz,jC,bK,cA])
 | true=>
 rw [if_pos ⟨rfl,rfl,of_decide_eq_true hpb,YB⟩] at hq
 subst hq
 simp only [go_sem,simprocAttr]
 have Sq:bz s0=.agg [bK ns,cA js,.int y0,.int y1,.int y2,.int y3]:=by rw [hst]; rfl
 exact bw [4,5] (vs:=[.agg [.sl 4 ns.length 5 0 ns.length,.sl 5 js.length 12 0 js.length,.int y0,.int y1,.int y2,.int y3],.bool true]) rfl (by simp [St.obj,ay]) (by simp [St.obj,ay,aF,fW,Sq,bK,cA,ah,aa,aM,LV.int,LV.bool,ht1,ht2])
end Dv
