/- The logical machine and its plain laws: parts K1, K2, K3, K4, K5, proved sound. -/
import Derived.Test.YtkalnfkokkjliaaGreatDoorNA
import Derived.Test.YtkalnfkokkjliaaGreatDoorPB
import Derived.Test.YtkalnfkokkjliaaGreatDoorIB
import Derived.Test.YtkalnfkokkjliaaGreatDoorCA
set_option linter.unusedVariables false
set_option linter.unusedSimpArgs false
set_option maxRecDepth 100000
namespace Dv
open Go Go.Proofs
variable {G:Nat→Option (List DV)}
def TN:=qx Tryz.f275
theorem Qh:aq Tryz.prog Tryz.f275=some TN:=by kernel_rfl
def T6:=qx Tryz.f234
theorem QA:aq Tryz.prog Tryz.f234=some T6:=by kernel_rfl
def T7:=qx Tryz.f233
theorem QB:aq Tryz.prog Tryz.f233=some T7:=by kernel_rfl
theorem u32_in {x:Int} (h0:0≤x) (h1:x<4294967296):IntKind.u32.wrap x=x:=by
 unfold IntKind.wrap
 simp [IntKind.bits,IntKind.signed,show ((2:Int) ^ 32)=4294967296 from rfl]
 omega
theorem Al (a b:Nat) (ha:a<4294967296) (hb:b<4294967296):j5 .u32 a b=((a ^^^ b:Nat):Int):=by
 have hx:a ^^^ b<2 ^ 32:=Nat.xor_lt_two_pow (n:=32) ha hb
 unfold j5
 rw [show (BitVec.ofInt (IntKind.bits .u32) (a:Int) ^^^ BitVec.ofInt (IntKind.bits .u32) (b:Int)).toNat=a ^^^ b by
  show (BitVec.ofInt 32 (a:Int) ^^^ BitVec.ofInt 32 (b:Int)).toNat=a ^^^ b
  rw [BitVec.toNat_xor,BitVec.ofInt_natCast,BitVec.ofInt_natCast,BitVec.toNat_ofNat,BitVec.toNat_ofNat,Nat.mod_eq_of_lt (show a<2 ^ 32 from ha),Nat.mod_eq_of_lt (show b<2 ^ 32 from hb)]]
 exact u32_in (Int.natCast_nonneg _) (by have:=hx; omega)
theorem I8 (a b:Nat) (ha:a<4294967296) (hb:b<4294967296):j5 .i64 a b=((a ^^^ b:Nat):Int):=by
 have hx:a ^^^ b<2 ^ 32:=Nat.xor_lt_two_pow (n:=32) ha hb
 unfold j5
 rw [show (BitVec.ofInt (IntKind.bits .i64) (a:Int) ^^^ BitVec.ofInt (IntKind.bits .i64) (b:Int)).toNat=a ^^^ b by
  show (BitVec.ofInt 64 (a:Int) ^^^ BitVec.ofInt 64 (b:Int)).toNat=a ^^^ b
  rw [BitVec.toNat_xor,BitVec.ofInt_natCast,BitVec.ofInt_natCast,BitVec.toNat_ofNat,BitVec.toNat_ofNat,Nat.mod_eq_of_lt (show a<2 ^ 64 by omega),Nat.mod_eq_of_lt (show b<2 ^ 64 by omega)]]
 exact aD (by omega) (by omega)
def mU (x:Int):Prop:=0≤x∧x<4294967296
theorem BL {a b:Int} (ha:mU a) (hb:mU b):mU (j5 .u32 a b)∧j5 .i64 a b=j5 .u32 a b:=by
 obtain ⟨m,rfl⟩:=Int.eq_ofNat_of_zero_le ha.1
 obtain ⟨n,rfl⟩:=Int.eq_ofNat_of_zero_le hb.1
 have h1:m<4294967296:=by have:=ha.2; omega
 have h2:n<4294967296:=by have:=hb.2; omega
 rw [Al m n h1 h2,I8 m n h1 h2]
 have hx:m ^^^ n<2 ^ 32:=Nat.xor_lt_two_pow (n:=32) h1 h2
 exact ⟨⟨Int.natCast_nonneg _,by omega⟩,rfl⟩
theorem Lm {a:Int} (ha:mU a):uF .u32 a 1=a % 2:=by
 obtain ⟨m,rfl⟩:=Int.eq_ofNat_of_zero_le ha.1
 have h1:m<4294967296:=by have:=ha.2; omega
 unfold uF
 rw [show (BitVec.ofInt (IntKind.bits .u32) (m:Int)&&& BitVec.ofInt (IntKind.bits .u32) 1).toNat=m % 2 by
  show (BitVec.ofInt 32 (m:Int)&&& BitVec.ofInt 32 ((1:Nat):Int)).toNat=m % 2
  rw [BitVec.toNat_and,BitVec.ofInt_natCast,BitVec.ofInt_natCast,BitVec.toNat_ofNat,BitVec.toNat_ofNat,Nat.mod_eq_of_lt (show m<2 ^ 32 from h1)]
  exact Nat.and_one_is_mod m]
 rw [u32_in (by omega) (by omega)]
 omega
theorem Aw {a:Int} (ha:mU a):oU .u32 a 1=a / 2:=by
 unfold oU
 show a.fdiv 2=a / 2
 exact Int.fdiv_eq_ediv_of_nonneg _ (by decide)
theorem Tf {r:Int} (h:mU r):Ff r=if r % 2=1 then j5 .i64 (r / 2) 3988292384 else r / 2:=by
 have h2:mU (r / 2):=⟨by have:=h.1; omega,by have:=h.1; have:=h.2; omega⟩
 unfold Ff
 rw [Lm h,Aw h,(BL h2 (b:=3988292384) ⟨by decide,by decide⟩).2]
 by_cases hm:r % 2=1
 ·rw [if_pos hm,hm]; rfl
 ·rw [if_neg hm,show r % 2=0 by omega]; rfl
theorem Te {r:Int} (h:mU r):mU (Ff r):=by
 have h2:mU (r / 2):=⟨by have:=h.1; omega,by have:=h.1; have:=h.2; omega⟩
 unfold Ff
 rw [Aw h]
 split
 ·exact h2
 ·exact (BL h2 ⟨by decide,by decide⟩).1
theorem zI {r:Int} (h:mU r):∀ k,mU (kr r k)
 | 0=>h
 | k+1=>Te (zI h k)
theorem tf {r:Int} (h:mU r) (b:List Int) (hb:∀ c∈b,0≤c∧c≤255):∀ k,mU (iu r b k)
 | 0=>h
 | k+1=>by
   have hc:mU (b.getD k 0):=by
    by_cases hk:k<b.length
    ·have:=hb _ (show b.getD k 0∈b by rw [List.getD,List.getElem?_eq_getElem hk]; exact List.getElem_mem _)
     exact ⟨this.1,by omega⟩
    ·rw [List.getD,List.getElem?_eq_none (by omega)]; exact ⟨by decide,by decide⟩
   show mU (kr (j5 .u32 (iu r b k) (IntKind.u32.wrap (b.getD k 0))) 8)
   rw [u32_in hc.1 hc.2]
   exact zI (BL (tf h b hb k) hc).1 8
def Th (r:Int) (b:List Int) (k:Nat):St:=⟨[(0,.int (iu r b k)),(1,af b),(5,.int k)],[]⟩
def OE (x:Int) (b:List Int) (k:Nat) (j:Nat):St:=⟨[(0,.int (kr x j)),(1,af b),(5,.int k),(6,.int j)],[]⟩
theorem Fg (r:Int) (hr:mU r) (b:List Int) (hb:∀ c∈b,0≤c∧c≤255) (hl:b.length≤1000000):br Tryz.prog G 275 [.int r,af b] [] (.int (iu r b b.length)) []:=by
 have hlb:(ak b).length=b.length:=by simp [ak]
 refine b_ Tryz.func275 (by decide) Qh rfl rfl ?_
 simp only [af,TN,go_sem,simprocAttr]
 refine aP [0,1,5] [] (fun k:Nat=>k≤b.length) (fun k=>b.length-k) (Th r b) 0 ?_ (Nat.zero_le _) (fun k hk=>?_)
 ·simp only [Th,af,hlb,iu,Int.natCast_zero,go_sem,simprocAttr]
 simp only [Th,af,hlb,go_sem,simprocAttr]
 by_cases hlt:k<b.length
 case neg=>
  obtain rfl:k=b.length:=by omega
  simp only [decide_eq_false (show ¬ ((b.length:Nat):Int)<((b.length:Nat):Int) by omega),go_sem,simprocAttr]
 have hg:=aB (f:=fun n:Int=>[u8 n]) 0 hlt
 rw [show b.map (fun n:Int=>[u8 n])=ak b from rfl] at hg
 have hcb:=hb _ (show b.getD k 0∈b by rw [List.getD,List.getElem?_eq_getElem hlt]; exact List.getElem_mem _)
 have XZ:mU (b.getD k 0):=⟨hcb.1,by omega⟩
 have hnx:iu r b (k+1)=kr (j5 .u32 (iu r b k) (b.getD k 0)) 8:=by
  show kr (j5 .u32 (iu r b k) (IntKind.u32.wrap (b.getD k 0))) 8=_
  rw [u32_in XZ.1 XZ.2]
 have hx:=BL (tf hr b hb k) XZ
 have hw:IntKind.i64.wrap (b.getD k 0)=b.getD k 0:=aD (by omega) (by omega)
 generalize b.getD k 0=c at *
 simp only [decide_eq_true (show ((k:Nat):Int)<((b.length:Nat):Int) by omega),hg,u8,hw,hx.2,go_sem,simprocAttr]
 have Nd:=hx.1
 clear hx
 generalize j5 .u32 (iu r b k) c=x at *
 refine aP [0,1,5,6] [] (fun j:Nat=>j≤8) (fun j=>8-j) (OE x b k) 0 ?_ (Nat.zero_le _) (fun j hj=>?_)
 ·simp only [OE,af,kr,Int.natCast_zero,go_sem,simprocAttr]
 simp only [OE,af,go_sem,simprocAttr]
 by_cases hj8:j<8
 ·have hnb:kr x (j+1)=Ff (kr x j):=rfl
  have Kh:=zI Nd j
  rw [Tf Kh] at hnb
  generalize kr x j=y at *
  have yX:y.tmod 2=y % 2:=Int.tmod_eq_emod_of_nonneg Kh.1
  have Ki:IntKind.i64.wrap (y.tdiv 2)=y / 2:=by
   rw [Int.tdiv_eq_ediv_of_nonneg Kh.1]
   exact aD (by have:=Kh.1; omega) (by have:=Kh.1; have:=Kh.2; omega)
  simp only [decide_eq_true (show ((j:Nat):Int)<8 by omega),yX,Ki,ne_eq,not_false_eq_true,show ((2:Int)=0)=False from by decide,go_sem,simprocAttr]
  by_cases hm:y % 2=1
  ·rw [if_pos hm] at hnb
   simp only [show (y % 2==1)=true from beq_iff_eq.2 hm,go_sem,simprocAttr]
   refine aR (j+1) ?_ ?_ (by omega) (by omega)
   ·simp only [go_sem,simprocAttr]
   ·simp only [OE,af,hnb,ax (show j<9223372036854775807 by omega),go_sem,simprocAttr]
  ·rw [if_neg hm] at hnb
   simp only [show (y % 2==1)=false from beq_eq_false_iff_ne.2 hm,go_sem,simprocAttr]
   refine aR (j+1) ?_ ?_ (by omega) (by omega)
   ·simp only [go_sem,simprocAttr]
   ·simp only [OE,af,hnb,ax (show j<9223372036854775807 by omega),go_sem,simprocAttr]
 ·obtain rfl:j=8:=by omega
  simp only [show decide (((8:Nat):Int)<8)=false from rfl,go_sem,simprocAttr]
  refine aR (k+1) ?_ ?_ (by omega) (by omega)
  ·simp only [go_sem,simprocAttr]
  ·simp only [Th,af,hnx,ax (show k<9223372036854775807 by omega),go_sem,simprocAttr]
theorem Y4 {x:Int} (h:mU x):j5 .u32 4294967295 x=4294967295-x:=by
 obtain ⟨m,rfl⟩:=Int.eq_ofNat_of_zero_le h.1
 have h1:m<4294967296:=by have:=h.2; omega
 have:=Al 4294967295 m (by decide) h1
 rw [show ((4294967295:Nat):Int)=4294967295 from rfl] at this
 rw [this]
 have e:(4294967295 ^^^ m:Nat)=4294967295-m:=by
  have:=BitVec.toNat_not (x:=BitVec.ofNat 32 m)
  have h2:BitVec.allOnes 32 ^^^ BitVec.ofNat 32 m = ~~~ BitVec.ofNat 32 m:=BitVec.allOnes_xor
  have h3:=congrArg BitVec.toNat h2
  rw [BitVec.toNat_xor,this] at h3
  simpa [BitVec.toNat_allOnes,Nat.mod_eq_of_lt (show m<2 ^ 32 from h1)] using h3
 rw [e]; omega
theorem Ef (b:List Int) (hb:∀ c∈b,0≤c∧c≤255):mU (fF 0 b)∧fF 0 b=4294967295-iu 4294967295 b b.length:=by
 have hi:=tf (r:=4294967295) ⟨by decide,by decide⟩ b hb b.length
 have e:fF 0 b=4294967295-iu 4294967295 b b.length:=by
  unfold fF
  rw [if_neg (by decide),show IntKind.u32.wrap 0=0 from rfl,show j5 .u32 4294967295 0=4294967295 from by decide +kernel,Y4 hi]
  exact aD (by have:=hi.2; omega) (by have:=hi.1; omega)
 refine ⟨?_,e⟩
 rw [e]
 exact ⟨by have:=hi.2; omega,by have:=hi.1; omega⟩
theorem PJ (b:List Int) (hb:∀ c∈b,0≤c∧c≤255) (hl:b.length≤1000000):br Tryz.prog G 234 [af b] [] (.int (fF 0 b)) []:=by
 have hi:=tf (r:=4294967295) ⟨by decide,by decide⟩ b hb b.length
 have ht:=Fg (G:=G) 4294967295 ⟨by decide,by decide⟩ b hb hl
 have hw:IntKind.i64.wrap (4294967295-iu 4294967295 b b.length)=4294967295-iu 4294967295 b b.length:=aD (by have:=hi.2; omega) (by have:=hi.1; omega)
 rw [(Ef b hb).2]
 refine b_ Tryz.func234 (by decide) QA rfl rfl ?_
 simp only [T6,go_sem,simprocAttr]
 refine av (ht) rfl rfl rfl rfl ?_; simp only [go_sem,simprocAttr]
 simp only [hw,go_sem,simprocAttr]
theorem Wr (x:Int):IntKind.u8.wrap x=x % 256:=by
 unfold IntKind.wrap
 simp [IntKind.bits,IntKind.signed,show ((2:Int) ^ 8)=256 from rfl]
theorem u64_in {x:Int} (h0:0≤x) (h1:x<18446744073709551616):IntKind.u64.wrap x=x:=by
 unfold IntKind.wrap
 simp [IntKind.bits,IntKind.signed,show ((2:Int) ^ 64)=18446744073709551616 from rfl]
 omega
theorem Ml (n:Int) (hn:mU n):br Tryz.prog G 233 [.int n] [] (af (lE n)) []:=by
 obtain ⟨h0,h1⟩:=hn
 have e1:IntKind.u64.wrap n=n:=u64_in h0 (by omega)
 have e2:n.tmod 4294967296=n:=by rw [Int.tmod_eq_emod_of_nonneg h0]; omega
 have q1:IntKind.u64.wrap (n.tdiv 16777216)=n / 16777216:=by rw [Int.tdiv_eq_ediv_of_nonneg h0]; exact u64_in (by omega) (by omega)
 have q2:IntKind.u64.wrap (n.tdiv 65536)=n / 65536:=by rw [Int.tdiv_eq_ediv_of_nonneg h0]; exact u64_in (by omega) (by omega)
 have q3:IntKind.u64.wrap (n.tdiv 256)=n / 256:=by rw [Int.tdiv_eq_ediv_of_nonneg h0]; exact u64_in (by omega) (by omega)
 have m2:(n / 65536).tmod 256=n / 65536 % 256:=Int.tmod_eq_emod_of_nonneg (by omega)
 have m3:(n / 256).tmod 256=n / 256 % 256:=Int.tmod_eq_emod_of_nonneg (by omega)
 have m4:n.tmod 256=n % 256:=Int.tmod_eq_emod_of_nonneg h0
 have s1:oU .i64 n 24=n / 16777216:=qH n 24 (by omega)
 have s2:oU .i64 n 16=n / 65536:=qH n 16 (by omega)
 have s3:oU .i64 n 8=n / 256:=qH n 8 (by omega)
 have hB:lE n=[IntKind.u8.wrap (n / 16777216),IntKind.u8.wrap (n / 65536 % 256),IntKind.u8.wrap (n / 256 % 256),IntKind.u8.wrap (n % 256)]:=by
  unfold lE
  rw [s1,s2,s3]
  simp only [Wr]
  simp
 refine bD Tryz.func233 (by decide) QB rfl ?_
 simp only [T7,e1,e2,q1,q2,q3,m2,m3,m4,ne_eq,not_false_eq_true,show ((4294967296:Int)=0)=False from by decide,show ((16777216:Int)=0)=False from by decide,show ((65536:Int)=0)=False from by decide,show ((256:Int)=0)=False from by decide,go_sem,simprocAttr]
 exact bw [0] rfl (by simp [St.obj,ay]) (by simp [St.obj,ay,aF,St.get,aO,ah,aM,af,ak,hB,u8])
end Dv
set_option maxRecDepth 100000
namespace Dv
open Go Go.Proofs
variable {G:Nat→Option (List DV)}
def UE:=qx Tryz.f181
theorem Rb:aq Tryz.prog Tryz.f181=some UE:=by kernel_rfl
def T9:=qx Tryz.f229
theorem QD:aq Tryz.prog Tryz.f229=some T9:=by kernel_rfl
def UH:=qx Tryz.f175
theorem Rf:aq Tryz.prog Tryz.f175=some UH:=by kernel_rfl
set_option maxHeartbeats 1000000 in
theorem lK (p:List Int) (hb:∀ c∈p,0≤c∧c≤255) (hl:p.length≤1000000):br Tryz.prog G 181 [af p] [] (af (cZ p)) []:=by
 refine bD Tryz.func181 (by decide) Rb rfl ?_
 simp only [af,UE,aj,go_sem,simprocAttr]
 by_cases h0:p.length=0
 ·have hp:cZ p=[]:=if_pos (.inl h0)
  simp only [decide_eq_true (show ((p.length:Nat):Int)<1 by omega),hp,go_sem,simprocAttr]
  exact kM rfl (by simp [aF,ah,af,ak,St.get,aO])
 by_cases h1:p.length>4000
 ·have hp:cZ p=[]:=if_pos (.inr h1)
  simp only [decide_eq_false (show ¬ ((p.length:Nat):Int)<1 by omega),aj,decide_eq_true (show ((p.length:Nat):Int)>4000 by omega),hp,go_sem,simprocAttr]
  exact kM rfl (by simp [aF,ah,af,ak,St.get,aO])
 have hp:cZ p=aQ p.length++p++lE (fF 0 p)++[1]:=if_neg (by omega)
 simp only [decide_eq_false (show ¬ ((p.length:Nat):Int)<1 by omega),aj,decide_eq_false (show ¬ ((p.length:Nat):Int)>4000 by omega),go_sem,simprocAttr]
 have hnl:isNum (p.length:Int)=true:=by unfold isNum dK; simp; omega
 have hn:=tO (G:=G) (p.length:Int)
 have ho:=PJ (G:=G) p hb hl
 have hs:=Ml (G:=G) (fF 0 p) (Ef p hb).1
 simp only [af] at hn ho hs
 have hn9:=dL (p.length:Int)
 have LB:1≤(aQ p.length).length:=by
  unfold aQ
  rw [if_pos hnl]
  unfold fT
  split <;> simp
 rw [hp]
 generalize aQ (p.length:Int)=q at *
 refine av (hn) rfl rfl rfl rfl ?_; simp only [go_sem,simprocAttr]
 have c1:q.length*1≤70368744177664:=by omega
 have c2:(q.length+p.length)*1≤70368744177664:=by omega
 have hs4:=j6 (fF 0 p)
 have c3:(q.length+p.length+4)*1≤70368744177664:=by omega
 have c4:(q.length+p.length+4+1)*1≤70368744177664:=by omega
 have e0:(0:Nat)<q.length:=by omega
 simp only [aj,c1,c2,List.length_append,go_sem,simprocAttr]
 refine av (ho) rfl rfl rfl rfl ?_; simp only [go_sem,simprocAttr]
 refine av (hs) rfl rfl rfl rfl ?_; simp only [go_sem,simprocAttr]
 simp only [aj,hs4,c3,c4,List.length_append,go_sem,simprocAttr]
 have hB:ak q++ak p++ak (lE (fF 0 p))++[[DV.val (Value.int .u8 1)]]=ak (q++p++lE (fF 0 p)++[1]):=by simp [ak,u8]
 rw [hB]
 have hlq:(ak (q++p++lE (fF 0 p)++[1])).length=q.length+p.length+4+1:=by
  rw [aj,List.length_append,List.length_append,List.length_append,hs4]; rfl
 generalize q++p++lE (fF 0 p)++[1]=z at *
 exact bw [0] rfl (by simp [St.obj,ay]) (by simp [St.obj,ay,aF,St.get,aO,ah,aM,hlq,List.take_of_length_le])
theorem uT (l:List Int) (i j:Nat):l.take (i+j)=l.take i++(l.drop i).take j:=List.take_add
theorem EH {b:List Int} (hb:∀ c∈b,0≤c∧c≤255) {a fr:Nat} {n:Int} (hlt:a<b.length) (h0:b.getD a 0≠0) (hq:eZ b a=some (n,fr)) :
  1≤n∧(4000<n∨n>(b.length:Int)-fr→ck b a=([],a,2))∧(n≤4000→n≤(b.length:Int)-fr→∀ p,p=(b.drop fr).take n.toNat→p.length=n.toNat∧ck b a=if (cZ p).length>b.length-a∨cZ p≠(b.drop a).take (cZ p).length then ([],a,2) else (p,a+(cZ p).length,1)):=by
 obtain ⟨hi,hn,hf,hfl⟩:=vq hb hq
 have hr:=eY (fun c hc=>(hb c hc).1) hq
 have hgF:ck b a=if n>4000∨n+4≥(b.length:Int)-fr then ([],a,2)
   else if rU ((b.drop fr).take (n.toNat+4))=false∨b.getD (fr+n.toNat+4) 0≠1 then ([],a,2)
   else ((b.drop fr).take n.toNat,fr+n.toNat+5,1):=by
  unfold ck
  rw [if_neg (by omega),if_neg (by omega),hq]
 refine ⟨?_,fun h=>by rw [hgF,if_pos (by omega)],fun h1 h2 p hp=>?_⟩
 ·by_cases hz:n=0
  ·subst hz
   exfalso
   have e:aQ 0=[0]:=by decide
   rw [e] at hn
   have hh:=congrArg (fun l=>l.head?) hn
   rw [show fr-a=(fr-a-1)+1 by omega,List.drop_eq_getElem_cons hlt,List.take_succ_cons] at hh
   simp only [List.head?_cons,Option.some.injEq] at hh
   exact h0 (by rw [List.getD,List.getElem?_eq_getElem hlt]; exact hh.symm)
  ·have:=hr.1; omega
 ·obtain ⟨m,rfl⟩:=Int.eq_ofNat_of_zero_le hr.1
  rw [Int.toNat_natCast] at hp hgF ⊢
  have iZ:p.length=m:=by rw [hp,List.length_take,List.length_drop]; omega
  refine ⟨iZ,?_⟩
  by_cases hm0:m=0
  ·exfalso
   subst hm0
   have e:aQ ((0:Nat):Int)=[0]:=by decide
   rw [e] at hn
   have hh:=congrArg (fun l=>l.head?) hn
   rw [show fr-a=(fr-a-1)+1 by omega,List.drop_eq_getElem_cons hlt,List.take_succ_cons] at hh
   simp only [List.head?_cons,Option.some.injEq] at hh
   exact h0 (by rw [List.getD,List.getElem?_eq_getElem hlt]; exact hh.symm)
  have hP:cZ p=aQ m++p++lE (fF 0 p)++[1]:=by unfold cZ; rw [if_neg (by omega),iZ]
  have hnl:(aQ (m:Int)).length=fr-a:=by rw [hn,List.length_take,List.length_drop]; omega
  have hL:(cZ p).length=fr-a+m+5:=by
   rw [hP,List.length_append,List.length_append,List.length_append,j6,hnl,iZ]; rfl
  by_cases h5:(m:Int)+4≥(b.length:Int)-fr
  ·rw [hgF,if_pos (.inr h5),if_pos (.inl (by omega))]
  rw [hgF,if_neg (by omega)]
  have hS:(b.drop a).take (cZ p).length=aQ m++p++(b.drop (fr+m)).take 4++[b.getD (fr+m+4) 0]:=by
   rw [hL,show fr-a+m+5=(fr-a)+(m+(4+1)) by omega,uT,List.drop_drop,← hn,show a+(fr-a)=fr by omega,uT,← hp,List.drop_drop,uT,List.drop_drop,
    show fr+m+4=fr+m+4 from rfl,List.drop_eq_getElem_cons (show fr+m+4<b.length by omega),List.take_succ_cons,List.take_zero]
   simp [List.getD,List.getElem?_eq_getElem (show fr+m+4<b.length by omega)]
  have Cz:rU ((b.drop fr).take (m+4))=decide (lE (fF 0 p)=(b.drop (fr+m)).take 4):=by
   have zZ:((b.drop fr).take (m+4)).length=m+4:=by rw [List.length_take,List.length_drop]; omega
   unfold rU
   rw [zZ,decide_eq_true (show 4≤m+4 by omega),Bool.true_and,show m+4-4=m by omega,List.take_take,show min m (m+4)=m by omega,← hp,List.drop_take,List.drop_drop,show m+4-m=4 by omega]
  rw [Cz]
  have hiff:(cZ p=(b.drop a).take (cZ p).length)↔(lE (fF 0 p)=(b.drop (fr+m)).take 4∧b.getD (fr+m+4) 0=1):=by
   rw [hS,hP]
   constructor
   ·intro h
    have h3:=List.append_inj h (by simp [j6]; omega)
    have h4:=List.append_inj h3.1 (by simp)
    exact ⟨h4.2,by have:=h3.2; simp at this; exact this.symm⟩
   ·rintro ⟨h3,h4⟩
    rw [h3,h4]
  by_cases hE:cZ p=(b.drop a).take (cZ p).length
  ·have NR:=hiff.1 hE
   rw [if_neg (by rw [NR.2,decide_eq_true NR.1]; simp),if_neg (by rintro (h | h); · omega
                                                                  ·exact h hE),hL,← hp]
   rw [show fr+m+5=a+(fr-a+m+5) by omega]
  ·rw [if_pos (by
    by_cases h3:lE (fF 0 p)=(b.drop (fr+m)).take 4
    ·exact .inr fun h4=>hE (hiff.2 ⟨h3,h4⟩)
    ·exact .inl (decide_eq_false h3)),if_pos (.inr hE)]
set_option maxHeartbeats 2000000 in
theorem EI (b:List Int) (hb:∀ c∈b,0≤c∧c≤255) (hl:b.length≤1000000) (a:Nat) (ha:a≤1000000):br Tryz.prog G 229 [af b,.int a] [] (gH (ck b a)) []:=by
 have hlb:(ak b).length=b.length:=aj b
 refine bD Tryz.func229 (by decide) QD rfl ?_
 simp only [af,T9,go_sem,simprocAttr]
 simp only [decide_eq_false (show ¬ ((a:Nat):Int)<0 by omega),hlb,go_sem,simprocAttr]
 by_cases h1:a>b.length
 ·have hf:ck b a=([],a,2):=if_pos h1
  simp only [decide_eq_true (show ((a:Nat):Int)>((b.length:Nat):Int) by omega),go_sem,simprocAttr]
  exact bw [] rfl (by simp) (by simp [aF,St.get,aO,ah,aa,hf,gH,af,ak,LV.int])
 simp only [decide_eq_false (show ¬ ((a:Nat):Int)>((b.length:Nat):Int) by omega),go_sem,simprocAttr]
 by_cases h2:a=b.length
 ·have hf:ck b a=([],a,0):=by unfold ck; rw [if_neg h1,if_pos (.inl h2)]
  simp only [show (((a:Nat):Int)==((b.length:Nat):Int))=true by rw [beq_iff_eq]; omega,hlb,go_sem,simprocAttr]
  exact bw [] rfl (by simp) (by simp [aF,St.get,aO,ah,aa,hf,gH,af,ak,LV.int])
 have hlt:a<b.length:=by omega
 have hg:=aB (f:=fun n:Int=>[u8 n]) 0 hlt
 rw [show b.map (fun n:Int=>[u8 n])=ak b from rfl] at hg
 simp only [show (((a:Nat):Int)==((b.length:Nat):Int))=false from beq_eq_false_iff_ne.2 (by omega),hlb,hg,u8,go_sem,simprocAttr]
 by_cases h3:b.getD a 0=0
 ·have hf:ck b a=([],a,0):=by unfold ck; rw [if_neg h1,if_pos (.inr h3)]
  simp only [h3,go_sem,simprocAttr]
  exact bw [] rfl (by simp) (by simp [aF,St.get,aO,ah,aa,hf,gH,af,ak,LV.int])
 simp only [beq_eq_false_iff_ne.2 h3,go_sem,simprocAttr]
 have hn:=ki (G:=G) b hb hl a ha (eZ b a) rfl
 simp only [af] at hn
 cases hq:eZ b a with
 | none=>
   have q_:ck b a=([],a,2):=by unfold ck; rw [if_neg h1,if_neg (by omega),hq]
   rw [hq] at hn
   simp only [eT,oH,oI,Option.isSome] at hn
   refine av (hn) rfl rfl rfl rfl ?_; simp only [go_sem,simprocAttr]
   exact bw [] rfl (by simp) (by simp [aF,St.get,aO,ah,aa,q_,gH,af,ak,LV.int])
 | some q=>
 obtain ⟨n,fr⟩:=q
 have hr:=eY (fun c hc=>(hb c hc).1) hq
 obtain ⟨LB,Ku,aau⟩:=EH hb hlt h3 hq
 rw [hq] at hn
 simp only [eT,oH,oI,Option.isSome] at hn
 have w2:IntKind.i64.wrap ((b.length:Int)-(fr:Int))=(b.length:Int)-fr:=aD (by omega) (by omega)
 refine av (hn) rfl rfl rfl rfl ?_; simp only [go_sem,simprocAttr]
 simp only [decide_eq_false (show ¬ n<1 by omega),go_sem,simprocAttr]
 by_cases h4:n>4000
 ·have q_:=Ku (.inl h4)
  simp only [decide_eq_true h4,go_sem,simprocAttr]
  exact bw [] rfl (by simp) (by simp [aF,St.get,aO,ah,aa,q_,gH,af,ak,LV.int])
 simp only [decide_eq_false h4,hlb,w2,go_sem,simprocAttr]
 by_cases h5:n>(b.length:Int)-fr
 ·have q_:=Ku (.inr h5)
  simp only [decide_eq_true h5,go_sem,simprocAttr]
  exact bw [] rfl (by simp) (by simp [aF,St.get,aO,ah,aa,q_,gH,af,ak,LV.int])
 obtain ⟨iZ,q_⟩:=aau (by omega) (by omega) _ rfl
 obtain ⟨m,rfl⟩:=Int.eq_ofNat_of_zero_le hr.1
 rw [Int.toNat_natCast] at iZ q_
 have w3:IntKind.i64.wrap ((fr:Int)+((m:Nat):Int))=((fr+m:Nat):Int):=by rw [aD (by omega) (by omega)]; omega
 have c2:fr≤fr+m∧fr+m≤b.length∧b.length≤b.length:=by omega
 have e2:fr+m-fr=m:=by omega
 simp only [decide_eq_false h5,w3,hlb,c2,e2,dP,fq,go_sem,simprocAttr]
 have hpb:∀ c∈(b.drop fr).take m,0≤c∧c≤255:=fun c hc=>hb c (List.mem_of_mem_drop (List.mem_of_mem_take hc))
 have hput:=lK (G:=G) ((b.drop fr).take m) hpb (by omega)
 generalize (b.drop fr).take m=p at *
 have c3:m*1≤70368744177664:=by omega
 have hlp:(ak p).length=m:=by rw [aj,iZ]
 simp only [hlp,c3,go_sem,simprocAttr]
 simp only [af] at hput
 refine jy [0] (hput) rfl (by simp [aa,ah,aM,ay,hlp,List.take_of_length_le,go_sem,simprocAttr]) (by simp [ay]) rfl ?_; simp only [go_sem,simprocAttr]
 have hfl:(cZ p).length≤4014:=by
  unfold cZ
  split
  ·simp
  ·have:=dL (p.length:Int)
   rw [List.length_append,List.length_append,List.length_append,j6]
   simp only [List.length_cons,List.length_nil]
   omega
 have w4:IntKind.i64.wrap ((b.length:Int)-(a:Int))=(b.length:Int)-a:=aD (by omega) (by omega)
 have w5:IntKind.i64.wrap ((a:Int)+(((cZ p).length:Nat):Int))=((a+(cZ p).length:Nat):Int):=by rw [aD (by omega) (by omega)]; omega
 simp only [aj,w4,go_sem,simprocAttr]
 by_cases h6:(cZ p).length>b.length-a
 ·rw [if_pos (.inl h6)] at q_
  simp only [decide_eq_true (show (((cZ p).length:Nat):Int)>(b.length:Int)-a by omega),go_sem,simprocAttr]
  exact bw [] rfl (by simp) (by simp [aF,St.get,aO,ah,aa,q_,gH,af,ak,LV.int])
 have hby:=vC (G:=G) (cZ p) ((b.drop a).take (cZ p).length) (by omega)
 simp only [af] at hby
 have c4:a≤a+(cZ p).length∧a+(cZ p).length≤b.length∧b.length≤b.length:=by omega
 have e3:a+(cZ p).length-a=(cZ p).length:=by omega
 simp only [decide_eq_false (show ¬ (((cZ p).length:Nat):Int)>(b.length:Int)-a by omega),aj,w5,c4,e3,dP,fq,go_sem,simprocAttr]
 refine av (hby) rfl rfl rfl rfl ?_; simp only [go_sem,simprocAttr]
 by_cases h7:cZ p=(b.drop a).take (cZ p).length
 ·rw [if_neg (by rintro (h | h); · exact h6 h
                 ·exact h h7)] at q_
  simp only [decide_eq_true h7,aj,w5,go_sem,simprocAttr]
  exact bw [0] rfl (by simp [St.obj,ay,ga,gE]) (by simp [St.obj,ay,aF,St.get,aO,ah,aa,aM,q_,gH,af,hlp,List.take_of_length_le,LV.int])
 ·rw [if_pos (.inr h7)] at q_
  simp only [decide_eq_false h7,go_sem,simprocAttr]
  exact bw [] rfl (by simp) (by simp [aF,St.get,aO,ah,aa,q_,gH,af,ak,LV.int])
def Fk (b:List Int) (q:List (List Int)×Nat×Int):St:=⟨[(0,af b),(1,.int q.2.1),(6,.sl 0 q.1.length 1 0 q.1.length),(7,.int q.2.2)],[some (.dat 57 1 (aS q.1))]⟩
set_option maxHeartbeats 1000000 in
theorem Lo (b:List Int) (hb:∀ c∈b,0≤c∧c≤255) (hl:b.length≤1000000) (a:Nat) (ha:a≤b.length) (R:List (List Int)×Nat) (hR:rJ b (b.length+1) [] a=R):br Tryz.prog G 175 [af b,.int a] [] (.dM [.sl 0 R.1.length 1 0 R.1.length,.int R.2]) [.dat 57 1 (aS R.1)]:=by
 refine bD Tryz.func175 (by decide) Rf rfl ?_
 simp only [af,UH,go_sem,simprocAttr]
 refine aP [0,1,6,7] [.t 6 57 1] (fun q:List (List Int)×Nat×Int=>q.2.1≤b.length∧q.1.length≤q.2.1∧((q.2.2=1∧∃ f,b.length-q.2.1<f∧rJ b f q.1 q.2.1=R)∨(q.2.2≠1∧(q.1,q.2.1)=R))) (fun q=>2*(b.length-q.2.1)+(if q.2.2=1 then 1 else 0)) (Fk b) ([],a,1) ?_ ⟨ha,Nat.zero_le _,.inl ⟨rfl,_,by dsimp only; omega,hR⟩⟩ ?_
 ·simp only [Fk,af,aS,go_sem,simprocAttr]
 rintro ⟨l,x,w⟩ ⟨hx,v_,hA⟩
 dsimp only at hx v_ hA
 simp only [Fk,af,go_sem,simprocAttr]
 rcases hA with ⟨rfl,f,hf,hA⟩ | ⟨hw,hA⟩
 case inr=>
  subst hA
  simp only [beq_eq_false_iff_ne.2 hw,go_sem,simprocAttr]
  refine bM [] [0] [] (vs:=[.sl 0 l.length 1 0 l.length,.int x]) rfl rfl (by decide) (by simp) (by simp) rfl rfl ?_
  simp [aF,ah,aa,LV.int]
 have hg:=EI (G:=G) b hb hl x (by omega)
 simp only [af,gH] at hg
 simp only [show ((1:Int)==1)=true from rfl,go_sem,simprocAttr]
 refine av (hg) rfl rfl rfl rfl ?_; simp only [go_sem,simprocAttr]
 obtain ⟨f,rfl⟩:∃ g,f=g+1:=⟨f-1,by omega⟩
 unfold rJ at hA
 by_cases h1:(ck b x).2.2=1
 ·rw [if_pos h1] at hA
  have he:=zc (fun c hc=>(hb c hc).1) h1
  have hcl:(aS l).length=l.length:=by simp [aS]
  have LA:aS l++[[DV.dN 1 (ak (ck b x).1)]]=aS (l++[(ck b x).1]):=by simp [aS]
  have EB:(aS (l++[(ck b x).1])).length*24≤70368744177664:=by
   have:(aS (l++[(ck b x).1])).length=l.length+1:=by simp [aS]
   omega
  simp only [h1,show ((1:Int)==1)=true from rfl,go_sem,simprocAttr]
  rw [hcl,LA,if_pos ⟨rfl,EB⟩]
  simp only [h1,go_sem,simprocAttr]
  refine aR (l++[(ck b x).1],(ck b x).2.1,1) ?_ ?_ ⟨he.2.1,by simp; omega,.inl ⟨rfl,f,by dsimp only; omega,hA⟩⟩ (by dsimp only; simp; omega)
  ·simp only [go_sem,simprocAttr]
  ·simp only [Fk,af,List.length_append,go_sem,simprocAttr]
 ·rw [if_neg h1] at hA
  simp only [beq_eq_false_iff_ne.2 h1,go_sem,simprocAttr]
  refine aR (l,x,(ck b x).2.2) ?_ ?_ ⟨hx,v_,.inr ⟨h1,hA⟩⟩ (by dsimp only; simp [h1])
  ·simp only [go_sem,simprocAttr]
  ·simp only [Fk,af,go_sem,simprocAttr]
end Dv
set_option maxRecDepth 100000
namespace Dv
open Go Go.Proofs
variable {G:Nat→Option (List DV)}
def ZQ:=qx Tryz.f28
theorem Xn:aq Tryz.prog Tryz.f28=some ZQ:=by kernel_rfl
def UD:=qx Tryz.f182
theorem Ra:aq Tryz.prog Tryz.f182=some UD:=by kernel_rfl
def ZI:=qx Tryz.f54
theorem Xf:aq Tryz.prog Tryz.f54=some ZI:=by kernel_rfl
def Zl:=qx Tryz.f94
theorem WQ:aq Tryz.prog Tryz.f94=some Zl:=by kernel_rfl
def ZF:=qx Tryz.f59
theorem Xc:aq Tryz.prog Tryz.f59=some ZF:=by kernel_rfl
def lC (l:List Int) (s:Int):List aG:=[.box 152 [.sl 1 l.length 1 0 l.length,.d (.val (.slice none 0 0)),.d (.val (.slice none 0 0)),.int s],.dat 5 1 (ak l)]
def atR (a k:Nat):List (List DV):=(List.range k).map fun i=>[i64 ((a+i:Nat):Int)]
theorem xy (a k:Nat):(atR a k).length=k:=by simp [atR]
def nL (l:List Int) (s:Int) (a:Nat) (b:List Int):List aG:=[.box 152 [.sl 1 l.length 1 0 l.length,.sl 2 b.length 1 0 b.length,.sl 3 b.length 1 0 b.length,.int s],.dat 5 1 (ak l),.dat 3 1 (atR a b.length),.dat 5 1 (ak b)]
theorem GU (n:Nat) (h1:1≤n) (h2:n≤65536):br Tryz.prog G 28 [.int n] [] (.ptr 0 0) (lC (List.replicate n 0) 0):=by
 refine bD Tryz.func28 (by decide) Xn rfl ?_
 simp only [ZQ,go_sem,simprocAttr]
 have c1:n*1≤70368744177664∧((n:Nat):Int)≤9223372036854775807:=by omega
 simp only [c1,go_sem,simprocAttr]
 refine bM [] [1,0] [] (vs:=[.ptr 1 0]) rfl rfl (by decide) (by simp) (by simp) ?_ ?_ ?_
 ·simp only [lC,List.length_replicate,ak,List.map_replicate,u8]
  rfl
 ·simp only [lC,List.length_replicate,ak,List.map_replicate,u8,go_sem,simprocAttr]
 ·simp [aF,ah]
def w4S (l:List Int) (s:Int) (a:Nat) (b:List Int) (k:Nat):St:=⟨[(0,.ptr 0 0),(1,.int a),(2,af b),(7,.int k)],(nL l s a (b.take k)).map some⟩
set_option maxHeartbeats 2000000 in
theorem jt (l:List Int) (s:Int) (a:Nat) (b:List Int) (h:a+b.length≤l.length) (hl:l.length≤65536):br Tryz.prog G 182 [.ptr 0 0,.int a,af b] (lC l s) (.int 0) (nL l s a b):=by
 refine bD Tryz.func182 (by decide) Ra rfl ?_
 simp only [lC,af,UD,go_sem,simprocAttr]
 have w1:IntKind.i64.wrap ((l.length:Int)-(a:Int))=(l.length:Int)-a:=aD (by omega) (by omega)
 simp only [aj,decide_eq_false (show ¬ ((a:Nat):Int)<0 by omega),decide_eq_false (show ¬ ((a:Nat):Int)>((l.length:Nat):Int) by omega),w1,decide_eq_false (show ¬ ((b.length:Nat):Int)>(l.length:Int)-(a:Int) by omega),go_sem,simprocAttr]
 refine aP [0,1,2,7] [.b 0 1 3 1,.b 0 2 5 1] (fun k:Nat=>k≤b.length) (fun k=>b.length-k) (w4S l s a b) 0 ?_ (Nat.zero_le _) (fun k hk=>?_)
 ·simp only [w4S,nL,atR,af,ak,List.range_zero,Int.natCast_zero,go_sem,simprocAttr]
 have hlk:(b.take k).length=k:=by rw [List.length_take]; omega
 simp only [w4S,nL,af,hlk,aj,go_sem,simprocAttr]
 by_cases hlt:k<b.length
 case neg=>
  obtain rfl:k=b.length:=by omega
  simp only [decide_eq_false (show ¬ ((b.length:Nat):Int)<((b.length:Nat):Int) by omega),List.take_length,go_sem,simprocAttr]
  refine bM [] [0,1,2,3] [] (vs:=[.int 0]) rfl rfl (by decide) (by simp) (by simp) rfl rfl ?_
  simp [aF,ah,LV.int]
 have hg:=aB (f:=fun n:Int=>[u8 n]) 0 hlt
 rw [show b.map (fun n:Int=>[u8 n])=ak b from rfl] at hg
 have w2:IntKind.i64.wrap ((a:Int)+((k:Nat):Int))=((a+k:Nat):Int):=by rw [aD (by omega) (by omega)]; omega
 have hat:atR a k++[[DV.val (Value.int .i64 ((a+k:Nat):Int))]]=atR a (k+1):=by unfold atR; rw [List.range_succ,List.map_append]; rfl
 have Ng:ak (b.take k)++[[DV.val (Value.int .u8 (b.getD k 0))]]=ak (b.take (k+1)):=by rw [qF b hlt]; simp [ak,u8]
 have c1:k=k∧(k+1)*8≤70368744177664:=by omega
 have c2:k=k∧(k+1)*1≤70368744177664:=by omega
 have SB:(b.take (k+1)).length=k+1:=by rw [List.length_take]; omega
 have aan:(ak (b.take k)).length=k:=by rw [aj,hlk]
 have abL:(ak (b.take (k+1))).length=k+1:=by rw [aj,SB]
 simp only [decide_eq_true (show ((k:Nat):Int)<((b.length:Nat):Int) by omega),w2,xy,aan,go_sem,simprocAttr]
 rw [hat,xy,if_pos c1.2]
 simp only [hg,u8,aan,go_sem,simprocAttr]
 rw [Ng,abL,if_pos c2.2]
 simp only [go_sem,simprocAttr]
 refine az rfl ?_
 simp only [go_sem,simprocAttr]
 refine aR (k+1) ?_ ?_ (by omega) (by omega)
 ·simp only [go_sem,simprocAttr]
 ·simp only [w4S,nL,af,SB,ax (show k<9223372036854775807 by omega),go_sem,simprocAttr]
theorem F7 {l b:List Int} {a k:Nat} (h:a+b.length≤l.length) (hk:k<b.length):(bN l a (b.take k)).set (a+k) (b.getD k 0)=bN l a (b.take (k+1)):=by
 have hlk:(b.take k).length=k:=by rw [List.length_take]; omega
 have SB:(b.take (k+1)).length=k+1:=by rw [List.length_take]; omega
 have hla:(l.take a++b.take k).length=a+k:=by rw [List.length_append,List.length_take,hlk]; omega
 unfold bN
 rw [hlk,SB,qF b hk,List.set_append_right _ _ (by omega),hla,Nat.sub_self,List.drop_eq_getElem_cons (show a+k<l.length by omega),List.set_cons_zero]
 simp [Nat.add_assoc]
theorem Jz (l:List Int) (a:Nat):bN l a []=l:=by unfold bN; simp
theorem Lb (l:List Int) (i:Nat) (x:Int):ak (l.set i x)=(ak l).set i [u8 x]:=by unfold ak; rw [List.map_set]
def c4S (l:List Int) (s:Int) (a:Nat) (b:List Int) (keep:Int) (k:Nat):St:=⟨[(0,.ptr 0 0),(1,.int keep),(4,.int k)],(nL (bN l a (b.take k)) s a b).map some⟩
set_option maxHeartbeats 2000000 in
theorem CL (l:List Int) (s:Int) (a:Nat) (b:List Int) (h:a+b.length≤l.length) (hl:l.length≤65536) (keep:Int):br Tryz.prog G 54 [.ptr 0 0,.int keep] (nL l s a b) (.dM []) (lC (bN l a (b.take (eW keep b))) s++[.dat 3 1 (atR a b.length),.dat 5 1 (ak b)]):=by
 have hkl:eW keep b≤b.length:=by unfold eW; omega
 refine bD Tryz.func54 (by decide) Xf rfl ?_
 simp only [nL,ZI,go_sem,simprocAttr]
 refine aP [0,1,4] [] (fun k:Nat=>k≤eW keep b) (fun k=>eW keep b-k) (c4S l s a b keep) 0 ?_ (Nat.zero_le _) (fun k hk=>?_)
 ·simp only [c4S,nL,Jz,Int.natCast_zero,go_sem,simprocAttr]
 have hol:(bN l a (b.take k)).length=l.length:=cw (by rw [List.length_take]; omega)
 simp only [c4S,nL,hol,xy,aj,go_sem,simprocAttr]
 by_cases hlt:k<eW keep b
 case neg=>
  obtain rfl:k=eW keep b:=by omega
  by_cases hkb:eW keep b<b.length
  ·have hge:¬ ((eW keep b:Nat):Int)<keep:=by unfold eW at hkb ⊢; omega
   simp only [decide_eq_true (show ((eW keep b:Nat):Int)<((b.length:Nat):Int) by omega),decide_eq_false hge,go_sem,simprocAttr]
   refine bM [] [0,1,2,3] [] (vs:=[]) rfl rfl (by decide) (by simp) (by simp) ?_ ?_ ?_
   ·simp only [lC,hol]; rfl
   ·simp only [lC,go_sem,simprocAttr]
   ·simp [aF,ah,aa]
  ·simp only [decide_eq_false (show ¬ ((eW keep b:Nat):Int)<((b.length:Nat):Int) by omega),go_sem,simprocAttr]
   refine bM [] [0,1,2,3] [] (vs:=[]) rfl rfl (by decide) (by simp) (by simp) ?_ ?_ ?_
   ·simp only [lC,hol]; rfl
   ·simp only [lC,go_sem,simprocAttr]
   ·simp [aF,ah,aa]
 have hkb:k<b.length:=by omega
 have XM:((k:Nat):Int)<keep:=by unfold eW at hlt; omega
 have hg:=aB (f:=fun n:Int=>[u8 n]) 0 hkb
 rw [show b.map (fun n:Int=>[u8 n])=ak b from rfl] at hg
 have hga:(atR a b.length)[k]? = some [i64 ((a+k:Nat):Int)]:=by unfold atR; simp [hkb]
 have hal:a+k<l.length:=by omega
 have hgl:((ak (bN l a (b.take k)))[a+k]?).isSome=true:=by simp [ak,hol,hal]
 have hst:(ak (bN l a (b.take k))).set (a+k) [DV.val (Value.int .u8 (b.getD k 0))]=ak (bN l a (b.take (k+1))):=by rw [← F7 h hkb,Lb]; rfl
 simp only [decide_eq_true (show ((k:Nat):Int)<((b.length:Nat):Int) by omega),decide_eq_true XM,hg,hga,hkb,u8,go_sem,simprocAttr]
 have hlo:(ak (bN l a (b.take k))).length=l.length:=by rw [aj,hol]
 have hgr:=aB (f:=fun n:Int=>[u8 n]) 0 (show a+k<(bN l a (b.take k)).length by omega)
 rw [show (bN l a (b.take k)).map (fun n:Int=>[u8 n])=ak (bN l a (b.take k)) from rfl] at hgr
 simp only [xy,aj,hlo,hg,hga,hgr,hkb,hal,u8,Nat.le_refl,go_sem,simprocAttr]
 rw [hst]
 refine az rfl ?_
 simp only [go_sem,simprocAttr]
 refine aR (k+1) ?_ ?_ (by omega) (by omega)
 ·simp only [go_sem,simprocAttr]
 ·have abD:(bN l a (b.take (k+1))).length=l.length:=cw (by rw [List.length_take]; omega)
  simp only [c4S,nL,abD,ax (show k<9223372036854775807 by omega),go_sem,simprocAttr]
theorem kq (l:List Int) (s:Int) (a:Nat) (b:List Int) (h:a+b.length≤l.length) (hl:l.length≤65536):br Tryz.prog G 94 [.ptr 0 0] (nL l s a b) (.dM []) (lC (bN l a b) (IntKind.i64.wrap (s+1))++[.dat 3 1 (atR a b.length),.dat 5 1 (ak b)]):=by
 have hd:=CL (G:=G) l s a b h hl b.length
 rw [A8,List.take_length] at hd
 simp only [nL,lC,List.cons_append,List.nil_append] at hd
 refine aY Tryz.func94 (by decide) WQ rfl rfl rfl rfl ?_
 simp only [Zl,go_sem,simprocAttr]
 simp only [nL,lC,go_sem,simprocAttr]
 refine au [0,1,2,3] (hd) rfl ?_ (by decide) ?_ ?_ (by simp) ?_ <;> simp only [aa,ah,go_sem,simprocAttr]
theorem ur (l:List Int) (s:Int) (hl:1≤l.length∧l.length≤65536):br Tryz.prog G 59 [.ptr 0 0] (lC l s) (af l) (lC l s):=by
 refine bD Tryz.func59 (by decide) Xc rfl ?_
 simp only [lC,ZF,go_sem,simprocAttr]
 have ht:(ak l).take l.length=ak l:=List.take_of_length_le (by rw [aj]; exact Nat.le_refl _)
 have c1:l.length*1≤70368744177664:=by omega
 simp only [aj,ht,c1,Nat.le_refl,go_sem,simprocAttr]
 refine aP [0,3,4] [] (fun k:Nat=>k=0) (fun k=>1-k) (fun _=>⟨[(0,.ptr 0 0),(3,.sl 2 l.length 1 0 l.length),(4,.int 0)],(lC l s++[aG.dat 5 1 (ak l)]).map some⟩) 0 ?_ rfl (fun k hk=>?_)
 ·simp only [lC,go_sem,simprocAttr]
 simp only [lC,go_sem,simprocAttr]
 refine bM [] [0,1] [2] (vs:=[.sl 2 l.length 1 0 l.length]) rfl rfl (by decide) (by simp) (by simp [St.obj,ay,bX]) rfl rfl ?_
 simp [St.obj,ay,aF,ah,aM,af,List.take_of_length_le,aj,bX]
end Dv
set_option maxRecDepth 100000
namespace Dv
open Go Go.Proofs
variable {G:Nat→Option (List DV)}
def M8:=qx Tryz.f176
theorem Ia:aq Tryz.prog Tryz.f176=some M8:=by kernel_rfl
def T4:=qx Tryz.f236
theorem Qy:aq Tryz.prog Tryz.f236=some T4:=by kernel_rfl
def M6:=qx Tryz.f187
theorem H9:aq Tryz.prog Tryz.f187=some M6:=by kernel_rfl
def Zm:=qx Tryz.f91
theorem WR:aq Tryz.prog Tryz.f91=some Zm:=by kernel_rfl
def Zp:=qx Tryz.f88
theorem WU:aq Tryz.prog Tryz.f88=some Zp:=by kernel_rfl
def wC (l:List Int) (s:Int) (fr sz:Nat) (L:List (List Int)):List aG:=[.box 179 [.ptr 1 0,.int fr,.int sz,.sl 3 L.length 1 0 L.length],.box 152 [.sl 2 l.length 1 0 l.length,.d (.val (.slice none 0 0)),.d (.val (.slice none 0 0)),.int s],.dat 5 1 (ak l),.dat 57 1 (aS L)]
set_option maxHeartbeats 1000000 in
theorem IZ (l:List Int) (s:Int) (fr sz a:Nat) (L:List (List Int)) (hf:fr+sz≤l.length) (ha:a≤sz) (hl:1≤l.length∧l.length≤65536):br Tryz.prog G 176 [.ptr 0 0,.int a] (wC l s fr sz L) (.dM []) (wC (bN l (fr+a) (List.replicate (sz-a) 0)) (IntKind.i64.wrap (s+1)) fr sz L):=by
 have hk:=jt (G:=G) l s (fr+a) (List.replicate (sz-a) 0) (by rw [List.length_replicate]; omega) hl.2
 have hs:=kq (G:=G) l s (fr+a) (List.replicate (sz-a) 0) (by rw [List.length_replicate]; omega) hl.2
 simp only [lC,nL,af,jQ,List.length_replicate,List.cons_append,List.nil_append] at hk hs
 have w1:IntKind.i64.wrap ((fr:Int)+(a:Int))=((fr+a:Nat):Int):=by rw [aD (by omega) (by omega)]; omega
 have w2:IntKind.i64.wrap ((sz:Int)-(a:Int))=((sz-a:Nat):Int):=by rw [aD (by omega) (by omega)]; omega
 have c1:(sz-a)*1≤70368744177664∧((sz-a:Nat):Int)≤9223372036854775807:=by omega
 refine bD Tryz.func176 (by decide) Ia rfl ?_
 simp only [wC,M8,go_sem,simprocAttr]
 simp only [w1,w2,c1,go_sem,simprocAttr]
 have e_:(bN l (fr+a) (List.replicate (sz-a) 0)).length=l.length:=cw (by rw [List.length_replicate]; omega)
 refine iN [1,2] [4] (hk) rfl (by simp [aa,ah,aM,ay,u8,List.length_replicate,List.take_replicate,Nat.min_self,go_sem,simprocAttr]) (by decide) (by decide) (by simp [ay]) (by simp only [go_sem,simprocAttr,u8,List.length_replicate,List.take_replicate,Nat.min_self]) (by simp only [go_sem,simprocAttr,u8,List.length_replicate,List.take_replicate,Nat.min_self]) (by simp) ?_; simp only [go_sem,simprocAttr,u8,List.length_replicate,List.take_replicate,Nat.min_self]
 refine az rfl ?_
 simp only [go_sem,simprocAttr]
 refine au [1,2,5,6] (hs) rfl ?_ (by decide) ?_ ?_ (by simp) ?_ <;> simp only [aa,ah,go_sem,simprocAttr,u8]
 refine bM [] [0,1,2,3] [] (vs:=[]) rfl rfl (by decide) (by simp) (by simp) rfl rfl ?_
 simp [aF,ah,aa]
def PX (l:List Int) (s:Int) (fr sz:Nat):List aG:=[.box 179 [.ptr 1 0,.int fr,.int sz,.d (.val (.slice none 0 0))],.box 152 [.sl 2 l.length 1 0 l.length,.d (.val (.slice none 0 0)),.d (.val (.slice none 0 0)),.int s],.dat 5 1 (ak l)]
set_option maxHeartbeats 1000000 in
theorem FA (l:List Int) (s:Int) (fr sz a:Nat) (hf:fr+sz≤l.length) (ha:a≤sz) (hl:1≤l.length∧l.length≤65536):br Tryz.prog G 176 [.ptr 0 0,.int a] (PX l s fr sz) (.dM []) (PX (bN l (fr+a) (List.replicate (sz-a) 0)) (IntKind.i64.wrap (s+1)) fr sz):=by
 have hk:=jt (G:=G) l s (fr+a) (List.replicate (sz-a) 0) (by rw [List.length_replicate]; omega) hl.2
 have hs:=kq (G:=G) l s (fr+a) (List.replicate (sz-a) 0) (by rw [List.length_replicate]; omega) hl.2
 simp only [lC,nL,af,jQ,List.length_replicate,List.cons_append,List.nil_append] at hk hs
 have w1:IntKind.i64.wrap ((fr:Int)+(a:Int))=((fr+a:Nat):Int):=by rw [aD (by omega) (by omega)]; omega
 have w2:IntKind.i64.wrap ((sz:Int)-(a:Int))=((sz-a:Nat):Int):=by rw [aD (by omega) (by omega)]; omega
 have c1:(sz-a)*1≤70368744177664∧((sz-a:Nat):Int)≤9223372036854775807:=by omega
 refine bD Tryz.func176 (by decide) Ia rfl ?_
 simp only [PX,M8,go_sem,simprocAttr]
 simp only [w1,w2,c1,go_sem,simprocAttr]
 have e_:(bN l (fr+a) (List.replicate (sz-a) 0)).length=l.length:=cw (by rw [List.length_replicate]; omega)
 refine iN [1,2] [3] (hk) rfl (by simp [aa,ah,aM,ay,u8,List.length_replicate,List.take_replicate,Nat.min_self,go_sem,simprocAttr]) (by decide) (by decide) (by simp [ay]) (by simp only [go_sem,simprocAttr,u8,List.length_replicate,List.take_replicate,Nat.min_self]) (by simp only [go_sem,simprocAttr,u8,List.length_replicate,List.take_replicate,Nat.min_self]) (by simp) ?_; simp only [go_sem,simprocAttr,u8,List.length_replicate,List.take_replicate,Nat.min_self]
 refine az rfl ?_
 simp only [go_sem,simprocAttr]
 refine au [1,2,4,5] (hs) rfl ?_ (by decide) ?_ ?_ (by simp) ?_ <;> simp only [aa,ah,go_sem,simprocAttr,u8]
 refine bM [] [0,1,2] [] (vs:=[]) rfl rfl (by decide) (by simp) (by simp) rfl rfl ?_
 simp [aF,ah,aa]
def cT (L:List (List Int)):Nat:=(L.map fun p=>(cZ p).length).sum
def O9 (l:List Int) (s:Int) (fr sz:Nat) (L:List (List Int)) (k:Nat):St:=⟨[(0,.ptr 0 0),(3,.int (cT (L.take k))),(4,.int k)],(wC l s fr sz L).map some⟩
theorem Jc (L:List (List Int)) {k:Nat} (h:k<L.length):cT (L.take (k+1))=cT (L.take k)+(cZ (L.getD k [])).length:=by
 unfold cT
 rw [show L.take (k+1)=L.take k++[L.getD k []] from by rw [List.take_add_one]; simp [List.getD,h],List.map_append,List.sum_append]
 simp
theorem Dj (L:List (List Int)):cT L≤4014*L.length:=by
 unfold cT
 induction L with
 | nil=>simp
 | cons p L ih=>
   have:(cZ p).length≤4014:=by
    unfold cZ
    split
    ·simp
    ·have:=dL (p.length:Int)
     rw [List.length_append,List.length_append,List.length_append,j6]
     simp only [List.length_cons,List.length_nil]
     omega
   simp only [List.map_cons,List.sum_cons,List.length_cons]
   omega
set_option maxHeartbeats 1000000 in
theorem uQ (l:List Int) (s:Int) (fr sz:Nat) (L:List (List Int)) (hb:∀ p∈L,(∀ c∈p,0≤c∧c≤255)∧p.length≤1000000) (hL:L.length≤1000000):br Tryz.prog G 236 [.ptr 0 0] (wC l s fr sz L) (.int (cT L)) (wC l s fr sz L):=by
 have hcl:(aS L).length=L.length:=by simp [aS]
 refine aY Tryz.func236 (by decide) Qy rfl rfl rfl rfl ?_
 simp only [T4,go_sem,simprocAttr]
 simp only [wC,go_sem,simprocAttr]
 refine aP [0,3,4] [] (fun k:Nat=>k≤L.length) (fun k=>L.length-k) (O9 l s fr sz L) 0 ?_ (Nat.zero_le _) (fun k hk=>?_)
 ·simp only [O9,wC,cT,List.sum_nil,Int.natCast_zero,go_sem,simprocAttr]
 simp only [O9,wC,go_sem,simprocAttr]
 by_cases hlt:k<L.length
 case neg=>
  obtain rfl:k=L.length:=by omega
  simp only [decide_eq_false (show ¬ ((L.length:Nat):Int)<((L.length:Nat):Int) by omega),List.take_length,go_sem,simprocAttr]
 have hg:(aS L)[k]? = some [.dN 1 (ak (L.getD k []))]:=by simp [aS,List.getD,hlt]
 have hm:L.getD k []∈L:=by rw [List.getD,List.getElem?_eq_getElem hlt]; exact List.getElem_mem _
 have hut:=Jc L hlt
 have hle:=Dj (L.take (k+1))
 rw [List.length_take] at hle
 have hp:=lK (G:=G) (L.getD k []) (hb _ hm).1 (hb _ hm).2
 simp only [af] at hp
 have w1:IntKind.i64.wrap (((cT (L.take k):Nat):Int)+(((cZ (L.getD k [])).length:Nat):Int))=((cT (L.take (k+1)):Nat):Int):=by rw [hut,aD (by omega) (by omega)]; omega
 simp only [decide_eq_true (show ((k:Nat):Int)<((L.length:Nat):Int) by omega),hcl,hg,hlt,go_sem,simprocAttr]
 refine av (hp) rfl rfl rfl rfl ?_; simp only [go_sem,simprocAttr]
 simp only [aj,w1,go_sem,simprocAttr]
 refine aR (k+1) ?_ ?_ (by omega) (by omega)
 ·simp only [go_sem,simprocAttr]
 ·simp only [O9,wC,ax (show k<9223372036854775807 by omega),go_sem,simprocAttr]
def MN (i:Nat) (l:List Int) (s:Int) (fr sz n:Nat):List aG:=[.box 179 [.ptr 1 0,.int fr,.int sz,.sl i n 1 0 n],.box 152 [.sl 2 l.length 1 0 l.length,.d (.val (.slice none 0 0)),.d (.val (.slice none 0 0)),.int s],.dat 5 1 (ak l)]
set_option maxHeartbeats 1000000 in
theorem zD (l:List Int) (s:Int) (fr sz:Nat) (L:List (List Int)) (hf:fr+sz≤l.length) (hl:1≤l.length∧l.length≤65536):br Tryz.prog G 91 [.ptr 0 0] (wC l s fr sz L) (.dM []) (MN 4 (bN l fr (List.replicate sz 0)) (IntKind.i64.wrap (s+1)) fr sz 0++[.dat 57 1 (aS L),.dat 57 1 (aS [])]):=by
 have hz:=FA (G:=G) l s fr sz 0 hf (Nat.zero_le _) hl
 simp only [PX,Nat.add_zero,Nat.sub_zero] at hz
 refine bD Tryz.func91 (by decide) WR rfl ?_
 simp only [wC,Zm,go_sem,simprocAttr]
 refine au [0,1,2] (hz) rfl ?_ (by decide) ?_ ?_ (by simp) ?_ <;> simp only [aa,ah,go_sem,simprocAttr]
 refine bM [.b 0 3 57 1] [0,1,2,3,4] [] (vs:=[]) rfl rfl (by decide) (by simp) (by simp) ?_ ?_ ?_
 ·simp only [MN,aS,go_sem,simprocAttr]
 ·simp only [MN,aS,go_sem,simprocAttr]
 ·simp [aF,ah,aa]
def PW (l:List Int) (s:Int) (fr sz:Nat) (L:List (List Int)) (a:Nat) (b:List Int):List aG:=[.box 179 [.ptr 1 0,.int fr,.int sz,.sl 3 L.length 1 0 L.length],.box 152 [.sl 2 l.length 1 0 l.length,.sl 4 b.length 1 0 b.length,.sl 5 b.length 1 0 b.length,.int s],.dat 5 1 (ak l),.dat 57 1 (aS L),.dat 3 1 (atR a b.length),.dat 5 1 (ak b)]
set_option maxHeartbeats 1000000 in
theorem Mk (l:List Int) (s:Int) (fr sz:Nat) (L:List (List Int)) (p:List Int) (mz:∀ c∈p,0≤c∧c≤255) (hp1:1≤p.length∧p.length≤4000) (hb:∀ p∈L,(∀ c∈p,0≤c∧c≤255)∧p.length≤1000000) (hL:L.length≤100000) (hf:fr+sz≤l.length) (hl:1≤l.length∧l.length≤65536) (hfit:cT L+(cZ p).length≤sz):br Tryz.prog G 187 [.ptr 0 0,af p] (wC l s fr sz L) (.int 0) (PW l s fr sz (L++[p]) (fr+cT L) (cZ p)):=by
 have hpp:=lK (G:=G) p mz (by omega)
 have qX:=uQ (G:=G) l s fr sz L hb (by omega)
 have hle:=Dj L
 have hfl:=jh hp1
 have hwr:=jt (G:=G) l s (fr+cT L) (cZ p) (by omega) hl.2
 simp only [af,lC,nL,wC] at hpp qX hwr
 have w1:IntKind.i64.wrap ((sz:Int)-((cT L:Nat):Int))=((sz-cT L:Nat):Int):=by rw [aD (by omega) (by omega)]; omega
 have w2:IntKind.i64.wrap ((fr:Int)+((cT L:Nat):Int))=((fr+cT L:Nat):Int):=by rw [aD (by omega) (by omega)]; omega
 refine bD Tryz.func187 (by decide) H9 rfl ?_
 simp only [wC,af,M6,go_sem,simprocAttr]
 refine av (hpp) rfl rfl rfl rfl ?_; simp only [go_sem,simprocAttr]
 simp only [aj,show ((((cZ p).length:Nat):Int)==0)=false from beq_eq_false_iff_ne.2 (by omega),go_sem,simprocAttr]
 refine iM [0,1,2,3] (qX) rfl ?_ (by decide) ?_ ?_ ?_ <;> simp only [aa,ah,go_sem,simprocAttr]
 simp only [aj,w1,decide_eq_false (show ¬ (((cZ p).length:Nat):Int)>((sz-cT L:Nat):Int) by omega),go_sem,simprocAttr]
 refine iM [0,1,2,3] (qX) rfl ?_ (by decide) ?_ ?_ ?_ <;> simp only [aa,ah,go_sem,simprocAttr]
 simp only [w2,go_sem,simprocAttr]
 refine dS [1,2] (hwr) rfl ?_ (by decide) ?_ ?_ (by simp) ?_ <;> simp only [aa,ah,go_sem,simprocAttr]
 refine az rfl ?_
 have hcl:(aS L).length=L.length:=by simp [aS]
 have c1:p.length*1≤70368744177664:=by omega
 have htp:(ak p).take p.length=ak p:=List.take_of_length_le (by rw [aj]; exact Nat.le_refl _)
 have LA:aS L++[[DV.dN 1 (ak p)]]=aS (L++[p]):=by simp [aS]
 have EB:(aS (L++[p])).length=L.length+1:=by simp [aS]
 have c2:(L.length+1)*24≤70368744177664:=by omega
 simp only [aj,c1,hcl,htp,Nat.le_refl,go_sem,simprocAttr]
 rw [LA,EB,if_pos c2]
 simp only [go_sem,simprocAttr]
 refine az rfl ?_
 simp only [go_sem,simprocAttr]
 refine bM [] [0,1,2,3,4,5] [] (vs:=[.int 0]) rfl rfl (by decide) (by simp) (by simp) ?_ ?_ ?_
 ·simp only [PW,List.length_append,go_sem,simprocAttr]
 ·simp only [PW,List.length_append,go_sem,simprocAttr]
 ·simp [aF,ah,LV.int]
set_option maxHeartbeats 1000000 in
theorem B8 (l:List Int) (s:Int) (fr sz:Nat) (L:List (List Int)) (p:List Int) (mz:∀ c∈p,0≤c∧c≤255) (hp1:1≤p.length∧p.length≤4000) (hb:∀ p∈L,(∀ c∈p,0≤c∧c≤255)∧p.length≤1000000) (hL:L.length≤100000) (hz:sz≤65536) (hu:cT L≤sz) (hfit:sz<cT L+(cZ p).length):br Tryz.prog G 187 [.ptr 0 0,af p] (wC l s fr sz L) (.int 3) (wC l s fr sz L):=by
 have hpp:=lK (G:=G) p mz (by omega)
 have qX:=uQ (G:=G) l s fr sz L hb (by omega)
 have hfl:=jh hp1
 simp only [af,wC] at hpp qX
 have w1:IntKind.i64.wrap ((sz:Int)-((cT L:Nat):Int))=((sz-cT L:Nat):Int):=by rw [aD (by omega) (by omega)]; omega
 refine aY Tryz.func187 (by decide) H9 rfl rfl rfl rfl ?_
 simp only [M6,go_sem,simprocAttr]
 simp only [wC,af,go_sem,simprocAttr]
 refine av (hpp) rfl rfl rfl rfl ?_; simp only [go_sem,simprocAttr]
 simp only [aj,show ((((cZ p).length:Nat):Int)==0)=false from beq_eq_false_iff_ne.2 (by omega),go_sem,simprocAttr]
 refine iM [0,1,2,3] (qX) rfl ?_ (by decide) ?_ ?_ ?_ <;> simp only [aa,ah,go_sem,simprocAttr]
 simp only [aj,w1,decide_eq_true (show (((cZ p).length:Nat):Int)>((sz-cT L:Nat):Int) by omega),go_sem,simprocAttr]
def aaS (l:List Int) (s:Int) (fr sz:Nat) (L:List (List Int)):List aG:=[.box 152 [.sl 1 l.length 1 0 l.length,.d (.val (.slice none 0 0)),.d (.val (.slice none 0 0)),.int s],.dat 5 1 (ak l),.box 179 [.ptr 0 0,.int fr,.int sz,.sl 3 L.length 1 0 L.length],.dat 57 1 (aS L)]
set_option maxHeartbeats 1000000 in
theorem JC (l:List Int) (s:Int) (fr sz:Nat) (hb:∀ c∈l,0≤c∧c≤255) (hf:fr+sz≤l.length) (hz:1≤sz) (hl:1≤l.length∧l.length≤65536) (he:(gL l fr sz).2≤sz):br Tryz.prog G 88 [.ptr 0 0,.int fr,.int sz] (lC l s) (.dM [.ptr 2 0,.bool true]) (aaS (bN l (fr+(gL l fr sz).2) (List.replicate (sz-(gL l fr sz).2) 0)) (IntKind.i64.wrap (s+1)) fr sz (gL l fr sz).1):=by
 have hy:=ur (G:=G) l s hl
 have uM:=xV hf
 have ha:=Lo (G:=G) (Jq l fr sz) (tv hb) (by omega) 0 (Nat.zero_le _) (gL l fr sz) (by rw [uM]; rfl)
 have hn:=IZ (G:=G) l s fr sz (gL l fr sz).2 (gL l fr sz).1 hf he hl
 generalize gL l fr sz=R at *
 simp only [lC,wC,af] at hy ha hn
 have w1:IntKind.i64.wrap ((l.length:Int)-(fr:Int))=((l.length-fr:Nat):Int):=by rw [aD (by omega) (by omega)]; omega
 have w2:IntKind.i64.wrap ((fr:Int)+(sz:Int))=((fr+sz:Nat):Int):=by rw [aD (by omega) (by omega)]; omega
 have c1:fr≤fr+sz∧fr+sz≤l.length∧l.length≤l.length:=by omega
 have c2:(0:Int)≤((fr+sz:Nat):Int):=by omega
 have e1:fr+sz-fr=sz:=by omega
 refine bD Tryz.func88 (by decide) WU rfl ?_
 simp only [lC,Zp,go_sem,simprocAttr]
 simp only [decide_eq_false (show ¬ ((fr:Nat):Int)<0 by omega),decide_eq_false (show ¬ ((sz:Nat):Int)<1 by omega),decide_eq_false (show ¬ ((fr:Nat):Int)>((l.length:Nat):Int) by omega),w1,decide_eq_false (show ¬ ((sz:Nat):Int)>((l.length-fr:Nat):Int) by omega),go_sem,simprocAttr]
 refine au [0,1] (hy) rfl ?_ (by decide) ?_ ?_ (by simp) ?_ <;> simp only [aa,ah,go_sem,simprocAttr]
 simp only [w2,c1,c2,e1,aj,dP,fq,go_sem,simprocAttr]
 refine fO ha rfl rfl rfl ?_
 simp only [go_sem,simprocAttr]
 refine au [2,0,1,3] (hn) rfl ?_ (by decide) ?_ ?_ (by simp) ?_ <;> simp only [aa,ah,go_sem,simprocAttr]
 have hol:(bN l (fr+R.2) (List.replicate (sz-R.2) 0)).length=l.length:=cw (by rw [List.length_replicate]; omega)
 refine bM [] [0,1,2,3] [] (vs:=[.ptr 2 0,.bool true]) rfl rfl (by decide) (by simp) (by simp) rfl rfl ?_
 simp [aF,ah,aa,LV.bool]
end Dv
set_option maxRecDepth 100000
namespace Dv
open Go Go.Proofs
variable {G:Nat→Option (List DV)}
def Zq:=qx Tryz.f87
theorem WV:aq Tryz.prog Tryz.f87=some Zq:=by kernel_rfl
def UG:=qx Tryz.f177
theorem Re:aq Tryz.prog Tryz.f177=some UG:=by kernel_rfl
def Zo:=qx Tryz.f89
theorem WT:aq Tryz.prog Tryz.f89=some Zo:=by kernel_rfl
def Xw:=qx Tryz.f93
theorem MS:aq Tryz.prog Tryz.f93=some Xw:=by kernel_rfl
def qG (l:List Int) (s:Int) (fr sz:Nat):List aG:=[.box 252 [.ptr 1 0,.int fr,.int sz],.box 152 [.sl 2 l.length 1 0 l.length,.d (.val (.slice none 0 0)),.d (.val (.slice none 0 0)),.int s],.dat 5 1 (ak l)]
def aaR (l:List Int) (s:Int) (fr sz:Nat):List aG:=[.box 152 [.sl 1 l.length 1 0 l.length,.d (.val (.slice none 0 0)),.d (.val (.slice none 0 0)),.int s],.dat 5 1 (ak l),.box 252 [.ptr 0 0,.int fr,.int sz]]
theorem JB (l:List Int) (s:Int) (fr sz:Nat) (h:fr+2*sz≤l.length) (hz:1≤sz) (hl:1≤l.length∧l.length≤65536):br Tryz.prog G 87 [.ptr 0 0,.int fr,.int sz] (lC l s) (.dM [.ptr 2 0,.bool true]) (aaR l s fr sz):=by
 have w1:IntKind.i64.wrap ((l.length:Int)-(fr:Int))=((l.length-fr:Nat):Int):=by rw [aD (by omega) (by omega)]; omega
 have w2:IntKind.i64.wrap (((l.length-fr:Nat):Int).tdiv 2)=(((l.length-fr) / 2:Nat):Int):=by
  rw [Int.tdiv_eq_ediv_of_nonneg (by omega),aD (by omega) (by omega)]; omega
 refine bD Tryz.func87 (by decide) WV rfl ?_
 simp only [lC,Zq,go_sem,simprocAttr]
 simp only [decide_eq_false (show ¬ ((fr:Nat):Int)<0 by omega),decide_eq_false (show ¬ ((sz:Nat):Int)<1 by omega),decide_eq_false (show ¬ ((fr:Nat):Int)>((l.length:Nat):Int) by omega),w1,w2,ne_eq,not_false_eq_true,show ((2:Int)=0)=False from by decide,decide_eq_false (show ¬ ((sz:Nat):Int)>(((l.length-fr) / 2:Nat):Int) by omega),go_sem,simprocAttr]
 refine bM [] [0,1,2] [] (vs:=[.ptr 2 0,.bool true]) rfl rfl (by decide) (by simp) (by simp) rfl rfl ?_
 simp [aF,ah,aa,LV.bool]
def ni:Option (List Int×Int)→LV
 | none=>.dM [af [],.int (-1)]
 | some q=>.dM [af q.1,.int q.2]
set_option maxHeartbeats 1000000 in
theorem ic (l:List Int) (s:Int) (fr sz k:Nat) (hb:∀ c∈l,0≤c∧c≤255) (h:fr+k*sz+sz≤l.length) (hl:1≤l.length∧l.length≤65536) (hk:k≤1):br Tryz.prog G 177 [.ptr 0 0,.int k] (qG l s fr sz) (ni (ek l fr sz k)) (qG l s fr sz):=by
 have hy:=ur (G:=G) l s hl
 have uM:(fE l fr sz k).length=sz:=by unfold fE; rw [List.length_take,List.length_drop]; omega
 have Sr:∀ c∈fE l fr sz k,0≤c∧c≤255:=fun c hc=>hb c (List.mem_of_mem_drop (List.mem_of_mem_take hc))
 have hg:=EI (G:=G) (fE l fr sz k) Sr (by omega) 0 (by omega)
 have Nk:=p9 (fE l fr sz k) 0
 have hP:ek l fr sz k=if (ck (fE l fr sz k) 0).2.2=1 then (eZ (ck (fE l fr sz k) 0).1 0).map fun q=>((ck (fE l fr sz k) 0).1.drop q.2,q.1) else none:=rfl
 have XW:(l.drop (fr+k*sz)).take sz=fE l fr sz k:=rfl
 have w0:IntKind.i64.wrap ((k:Int)*(sz:Int))=((k*sz:Nat):Int):=by rw [show (k:Int)*(sz:Int)=((k*sz:Nat):Int) by simp,aD (by omega) (by omega)]
 have w1:IntKind.i64.wrap ((fr:Int)+((k*sz:Nat):Int))=((fr+k*sz:Nat):Int):=by rw [aD (by omega) (by omega)]; omega
 have e2:(k+1)*sz=k*sz+sz:=by rw [Nat.add_mul]; omega
 have w3:IntKind.i64.wrap (((k+1:Nat):Int)*(sz:Int))=(((k+1)*sz:Nat):Int):=by rw [show ((k+1:Nat):Int)*(sz:Int)=(((k+1)*sz:Nat):Int) by simp,aD (by omega) (by omega)]
 have w4:IntKind.i64.wrap ((fr:Int)+(((k+1)*sz:Nat):Int))=((fr+k*sz+sz:Nat):Int):=by rw [aD (by omega) (by omega)]; omega
 have w5:IntKind.i64.wrap ((k:Int)+1)=((k+1:Nat):Int):=by rw [aD (by omega) (by omega)]; omega
 generalize ek l fr sz k=PD at *
 generalize fr+k*sz=pl at *
 generalize fE l fr sz k=sb at *
 simp only [lC,af,gH] at hy hg
 have c1:pl≤pl+sz∧pl+sz≤l.length∧l.length≤l.length:=by omega
 have c2:(0:Int)≤((pl+sz:Nat):Int):=by omega
 have e1:pl+sz-pl=sz:=by omega
 refine bD Tryz.func177 (by decide) Re rfl ?_
 simp only [qG,UG,go_sem,simprocAttr]
 refine au [1,2] (hy) rfl ?_ (by decide) ?_ ?_ (by simp) ?_ <;> simp only [aa,ah,go_sem,simprocAttr]
 simp only [w0,w1,w5,w3,w4,c1,c2,e1,aj,dP,fq,XW,go_sem,simprocAttr]
 refine bA (hg) rfl rfl rfl rfl ?_; simp only [go_sem,simprocAttr]
 by_cases h1:(ck sb 0).2.2=1
 case neg=>
  have YK:PD=none:=by rw [hP,if_neg h1]
  simp only [show ((ck sb 0).2.2 !=1)=true from bne_iff_ne.2 h1,go_sem,simprocAttr]
  refine bM [] [0,1,2] [] (vs:=[.d (.val (.slice none 0 0)),.int (-1)]) rfl rfl (by decide) (by simp) (by simp) rfl rfl ?_
  simp [aF,ah,aa,YK,ni,af,ak,LV.int]
 rw [if_pos h1] at hP
 have hn:=ki (G:=G) (ck sb 0).1 (fun c hc=>Sr c (Nk.1 c hc)) (by omega) 0 (by omega) (eZ (ck sb 0).1 0) rfl
 simp only [af] at hn
 simp only [h1,bne_self_eq_false,go_sem,simprocAttr]
 cases hq:eZ (ck sb 0).1 0 with
 | none=>
   rw [hq] at hn hP
   simp only [eT,oH,oI,Option.isSome] at hn
   refine av (hn) rfl rfl rfl rfl ?_; simp only [go_sem,simprocAttr]
   have YK:PD=none:=hP
   refine bM [] [0,1,2] [] (vs:=[.d (.val (.slice none 0 0)),.int (-1)]) rfl rfl (by decide) (by simp) (by simp) rfl rfl ?_
   simp [aF,ah,aa,YK,ni,af,ak,LV.int]
 | some q=>
 obtain ⟨n,nx⟩:=q
 have hr:=eY (fun c hc=>(Sr c (Nk.1 c hc)).1) hq
 rw [hq] at hn hP
 simp only [eT,oH,oI,Option.isSome] at hn
 refine av (hn) rfl rfl rfl rfl ?_; simp only [go_sem,simprocAttr]
 have c3:nx≤(ck sb 0).1.length∧(ck sb 0).1.length≤(ck sb 0).1.length:=by omega
 have hdl:(ak ((ck sb 0).1.drop nx)).take ((ck sb 0).1.length-nx)=ak ((ck sb 0).1.drop nx):=List.take_of_length_le (by rw [aj,List.length_drop]; exact Nat.le_refl _)
 simp only [aj,c3,dP,hdl,go_sem,simprocAttr]
 refine bM [] [0,1,2] [] (vs:=[.d (.dN 1 (ak ((ck sb 0).1.drop nx))),.int n]) rfl rfl (by decide) (by simp) (by simp) rfl rfl ?_
 simp [aF,ah,aa,hP,ni,af,LV.int]
def cG:Option (List Int×Int)→Int
 | none=>-1
 | some q=>q.2
theorem tH {l:List Int} (hb:∀ c∈l,0≤c∧c≤255) {fr sz k:Nat} {q:List Int×Int} (h:ek l fr sz k=some q):0≤q.2∧q.2≤dK:=by
 unfold ek at h
 split at h
 ·rw [Option.map_eq_some_iff] at h
  obtain ⟨⟨n,nx⟩,h1,h2⟩:=h
  subst h2
  have Sr:∀ c∈fE l fr sz k,0≤c∧c≤255:=fun c hc=>hb c (List.mem_of_mem_drop (List.mem_of_mem_take hc))
  have hr:=eY (fun c hc=>(Sr c ((p9 (fE l fr sz k) 0).1 c hc)).1) h1
  exact ⟨hr.1,hr.2.1⟩
 ·cases h
theorem vg {l:List Int} (hb:∀ c∈l,0≤c∧c≤255) (fr sz:Nat) :
  gR l fr sz=(if cG (ek l fr sz 1)>cG (ek l fr sz 0) then ek l fr sz 1 else ek l fr sz 0)∧(ff l fr sz=if cG (ek l fr sz 0)≥cG (ek l fr sz 1)∧cG (ek l fr sz 0)≥0 then 1 else 0):=by
 have h0:=fun q (h:ek l fr sz 0=some q)=>tH hb h
 have h1:=fun q (h:ek l fr sz 1=some q)=>tH hb h
 have hnw:mR l fr sz 2=if cG (ek l fr sz 1)>cG (ek l fr sz 0) then (1,cG (ek l fr sz 1)) else if cG (ek l fr sz 0)≥0 then (0,cG (ek l fr sz 0)) else (-1,-1):=by
  have n1:mR l fr sz 1=(match ek l fr sz 0 with | none=>(-1,-1) | some q=>if q.2 > -1 then (0,q.2) else (-1,-1)):=rfl
  have n2:mR l fr sz 2=(match ek l fr sz 1 with | none=>mR l fr sz 1 | some q=>if q.2>(mR l fr sz 1).2 then (1,q.2) else mR l fr sz 1):=rfl
  have m1:mR l fr sz 1=if cG (ek l fr sz 0)≥0 then (0,cG (ek l fr sz 0)) else (-1,-1):=by
   rw [n1]
   cases mz:ek l fr sz 0 with
   | none=>rfl
   | some q0=>
     have a0:=h0 q0 mz
     exact (if_pos (show q0.2 > -1 by omega)).trans (if_pos (show cG (some q0)≥0 from a0.1)).symm
  have m2:(mR l fr sz 1).2=cG (ek l fr sz 0):=by
   rw [m1]
   split
   ·rfl
   ·cases mz:ek l fr sz 0 with
    | none=>rfl
    | some q0=>
      rename_i hz
      rw [mz] at hz
      have a0:=h0 q0 mz
      exact absurd a0.1 hz
  rw [n2,m2,m1]
  cases hp1:ek l fr sz 1 with
  | none=>
    have e2:¬ (-1:Int)>cG (ek l fr sz 0):=by
     cases mz:ek l fr sz 0 with
     | none=>simp [cG]
     | some q0=>have a0:=h0 q0 mz; simp only [cG]; omega
    exact (if_neg (show ¬ cG none>cG (ek l fr sz 0) from e2)).symm
  | some q1=>rfl
 have a0:cG (ek l fr sz 0)<0→ek l fr sz 0=none:=fun h=>by
  cases mz:ek l fr sz 0 with
  | none=>rfl
  | some q0=>rw [mz] at h; have:=h0 q0 mz; simp only [cG] at h; omega
 have a1:-1≤cG (ek l fr sz 0):=by
  cases mz:ek l fr sz 0 with
  | none=>exact Int.le_refl _
  | some q0=>have:=h0 q0 mz; simp only [cG]; omega
 unfold gR ff
 rw [hnw]
 by_cases hg:cG (ek l fr sz 1)>cG (ek l fr sz 0)
 ·simp only [if_pos hg]
  refine ⟨by rw [if_neg (by decide)]; rfl,?_⟩
  rw [if_neg (by decide),if_neg (by omega)]
 ·simp only [if_neg hg]
  by_cases hz:cG (ek l fr sz 0)≥0
  ·simp only [if_pos hz]
   refine ⟨by rw [if_neg (by decide)]; rfl,?_⟩
   rw [if_pos trivial,if_pos (by omega)]
  ·simp only [if_neg hz]
   refine ⟨by rw [if_pos (by decide),a0 (by omega)],?_⟩
   rw [if_neg (by decide),if_neg (by omega)]
def jI:Option (List Int×Int)→List Int
 | none=>[]
 | some p=>p.1
theorem tI (q:Option (List Int×Int)):ni q=.dM [.d (.dN 1 (ak (jI q))),.int (cG q)]:=by cases q <;> rfl
set_option maxHeartbeats 1000000 in
theorem JQ (l:List Int) (s:Int) (fr sz:Nat) (P0 P1:Option (List Int×Int)) (mz:br Tryz.prog G 177 [.ptr 0 0,.int 0] (qG l s fr sz) (ni P0) (qG l s fr sz)) (hp1:br Tryz.prog G 177 [.ptr 0 0,.int 1] (qG l s fr sz) (ni P1) (qG l s fr sz)) :
  br Tryz.prog G 89 [.ptr 0 0] (qG l s fr sz) (ni (if cG P1>cG P0 then P1 else P0)) (qG l s fr sz):=by
 rw [tI] at mz hp1 ⊢
 simp only [qG] at mz hp1
 refine aY Tryz.func89 (by decide) WT rfl rfl rfl rfl ?_
 simp only [Zo,go_sem,simprocAttr]
 simp only [qG,go_sem,simprocAttr]
 refine au [0,1,2] (mz) rfl ?_ (by decide) ?_ ?_ (by simp) ?_ <;> simp only [aa,ah,go_sem,simprocAttr]
 refine au [0,1,2] (hp1) rfl ?_ (by decide) ?_ ?_ (by simp) ?_ <;> simp only [aa,ah,go_sem,simprocAttr]
 by_cases hg:cG P1>cG P0
 ·simp only [decide_eq_true hg,if_pos hg,go_sem,simprocAttr]
 ·simp only [decide_eq_false hg,if_neg hg,go_sem,simprocAttr]
theorem JP (l:List Int) (s:Int) (fr sz:Nat) (hb:∀ c∈l,0≤c∧c≤255) (h:fr+2*sz≤l.length) (hl:1≤l.length∧l.length≤65536):br Tryz.prog G 89 [.ptr 0 0] (qG l s fr sz) (ni (gR l fr sz)) (qG l s fr sz):=by
 have mz:=ic (G:=G) l s fr sz 0 hb (by omega) hl (by omega)
 have hp1:=ic (G:=G) l s fr sz 1 hb (by omega) hl (by omega)
 rw [(vg hb fr sz).1]
 exact JQ l s fr sz _ _ mz hp1
theorem Mv {aX:Int} (h:0≤aX) (q:Option (List Int×Int)):F_ aX q=decide (aX≤cG q):=by
 cases q with
 | none=>exact (decide_eq_false (show ¬ aX≤-1 by omega)).symm
 | some q=>rfl
def Wt (l:List Int) (s:Int) (fr sz a:Nat) (b:List Int):List aG:=[.box 252 [.ptr 1 0,.int fr,.int sz],.box 152 [.sl 2 l.length 1 0 l.length,.sl 3 b.length 1 0 b.length,.sl 4 b.length 1 0 b.length,.int s],.dat 5 1 (ak l),.dat 3 1 (atR a b.length),.dat 5 1 (ak b)]
theorem D5 {aX:Int} : (aQ aX).length≠0↔isNum aX=true:=by
 unfold aQ
 constructor
 ·intro h
  by_cases hi:isNum aX=true
  ·exact hi
  ·rw [if_neg hi] at h; exact absurd rfl h
 ·intro h
  rw [if_pos h]
  unfold fT
  split <;> simp
set_option maxHeartbeats 2000000 in
theorem FN (l:List Int) (s:Int) (fr sz:Nat) (b:List Int) (aX:Int) (P0 P1:Option (List Int×Int)) (K:Nat) (hbb:∀ c∈b,0≤c∧c≤255) (h:fr+2*sz≤l.length) (hz:1≤sz) (hl:1≤l.length∧l.length≤65536) (oO:b.length≤90000)
  (mz:br Tryz.prog G 177 [.ptr 0 0,.int 0] (qG l s fr sz) (ni P0) (qG l s fr sz)) (hp1:br Tryz.prog G 177 [.ptr 0 0,.int 1] (qG l s fr sz) (ni P1) (qG l s fr sz))
  (hn:isNum aX=true) (ho:aX>cG P0∧aX>cG P1) (hfl:1≤(eO b aX).length∧(eO b aX).length≤sz) (hK:K=if cG P0≥cG P1∧cG P0≥0 then 1 else 0) :
  br Tryz.prog G 93 [.ptr 0 0,af b,.int aX] (qG l s fr sz) (.int 0) (Wt (bN l (fr+K*sz) (List.replicate sz 0)) (IntKind.i64.wrap (s+1)) fr sz (fr+K*sz) (eO b aX)):=by
 rw [tI] at mz hp1
 have h9:=dL aX
 have hkz:K*sz≤sz:=by
  have:K≤1:=by rw [hK]; split <;> omega
  have:=Nat.mul_le_mul_right sz this
  omega
 have hi:=tX (G:=G) aX
 rw [hn] at hi
 have p7:=nq (G:=G) aX hn
 have hnb:∀ c∈aQ aX++b,0≤c∧c≤255:=fun c hc=>by
  rcases List.mem_append.1 hc with hc | hc
  ·exact iF aX c hc
  ·exact hbb c hc
 have hpf:=lK (G:=G) (aQ aX++b) hnb (by rw [List.length_append]; omega)
 rw [show cZ (aQ aX++b)=eO b aX from rfl] at hpf
 have w1:IntKind.i64.wrap ((fr:Int)+(sz:Int))=((fr+sz:Nat):Int):=by rw [aD (by omega) (by omega)]; omega
 have e2:(((eO b aX).length:Int)==0)=false:=beq_eq_false_iff_ne.2 (by omega)
 have e3:decide (((eO b aX).length:Int)>(sz:Int))=false:=decide_eq_false (by omega)
 have c1:((aQ aX).length+b.length)*1≤70368744177664:=by omega
 have c5:sz*1≤70368744177664∧((sz:Nat):Int)≤9223372036854775807:=by omega
 have hlc:(ak (aQ aX++b)).length=(aQ aX).length+b.length:=by rw [aj,List.length_append]
 have hap:ak (aQ aX)++ak b=ak (aQ aX++b):=(gB _ _).symm
 have hA:(if cG P0≥cG P1∧cG P0≥0 then ((fr+sz:Nat):Int) else ((fr:Nat):Int))=((fr+K*sz:Nat):Int):=by
  rw [hK]; split <;> simp
 generalize hAe:fr+K*sz=A at *
 have hw1:=jt (G:=G) l s A (List.replicate sz 0) (by rw [List.length_replicate]; omega) hl.2
 have hs1:=kq (G:=G) l s A (List.replicate sz 0) (by rw [List.length_replicate]; omega) hl.2
 have hol:(bN l A (List.replicate sz 0)).length=l.length:=cw (by rw [List.length_replicate]; omega)
 have Lz:=jt (G:=G) (bN l A (List.replicate sz 0)) (IntKind.i64.wrap (s+1)) A (eO b aX) (by rw [hol]; omega) (by rw [hol]; exact hl.2)
 simp only [qG,lC,nL,af,jQ,List.length_replicate,List.cons_append,List.nil_append] at mz hp1 hw1 hs1 Lz hpf
 refine bD Tryz.func93 (by decide) MS rfl ?_
 simp only [qG,af,Xw,go_sem,simprocAttr]
 refine av (hi) rfl rfl rfl rfl ?_; simp only [go_sem,simprocAttr]
 refine au [0,1,2] (mz) rfl ?_ (by decide) ?_ ?_ (by simp) ?_ <;> simp only [aa,ah,go_sem,simprocAttr]
 refine au [0,1,2] (hp1) rfl ?_ (by decide) ?_ ?_ (by simp) ?_ <;> simp only [aa,ah,go_sem,simprocAttr]
 simp only [decide_eq_false (show ¬ aX≤cG P0 by omega),decide_eq_false (show ¬ aX≤cG P1 by omega),go_sem,simprocAttr]
 refine fO p7 rfl rfl rfl ?_
 simp only [aj,hap,hlc,c1,go_sem,simprocAttr]
 refine jy [3] (hpf) rfl (by simp [aa,ah,aM,ay,hlc,List.take_of_length_le,go_sem,simprocAttr]) (by simp [ay]) rfl ?_; simp only [go_sem,simprocAttr]
 simp only [aj,e2,e3,go_sem,simprocAttr]
 have o7:A=if cG P0≥cG P1∧cG P0≥0 then fr+sz else fr:=by split at hA <;> rename_i hq <;> first | rw [if_pos hq]; omega | rw [if_neg hq]; omega
 clear hA hAe
 by_cases hg:cG P0≥cG P1
 ·by_cases Kq:cG P0≥0
  ·rw [if_pos ⟨hg,Kq⟩] at o7
   subst o7
   simp only [decide_eq_true hg,decide_eq_true Kq,w1,c5,go_sem,simprocAttr]
   refine iN [1,2] [4] (hw1) rfl (by simp [aa,ah,aM,ay,u8,List.length_replicate,List.take_replicate,Nat.min_self,go_sem,simprocAttr]) (by decide) (by decide) (by simp [ay]) (by simp only [go_sem,simprocAttr,u8,List.length_replicate,List.take_replicate,Nat.min_self]) (by simp only [go_sem,simprocAttr,u8,List.length_replicate,List.take_replicate,Nat.min_self]) (by simp) ?_; simp only [go_sem,simprocAttr,u8,List.length_replicate,List.take_replicate,Nat.min_self]
   refine az rfl ?_
   simp only [go_sem,simprocAttr]
   refine au [1,2,5,6] (hs1) rfl ?_ (by decide) ?_ ?_ (by simp) ?_ <;> simp only [aa,ah,go_sem,simprocAttr,u8]
   refine au [1,2] (Lz) rfl ?_ (by decide) ?_ ?_ (by simp) ?_ <;> simp only [aa,ah,go_sem,simprocAttr]
   refine bM [] [0,1,2,7,8] [] (vs:=[.int 0]) rfl rfl (by decide) (by simp) (by simp) rfl rfl ?_
   simp [aF,ah,LV.int]
  ·rw [if_neg (fun h=>Kq h.2)] at o7
   subst o7
   simp only [decide_eq_true hg,decide_eq_false Kq,c5,go_sem,simprocAttr]
   refine iN [1,2] [4] (hw1) rfl (by simp [aa,ah,aM,ay,u8,List.length_replicate,List.take_replicate,Nat.min_self,go_sem,simprocAttr]) (by decide) (by decide) (by simp [ay]) (by simp only [go_sem,simprocAttr,u8,List.length_replicate,List.take_replicate,Nat.min_self]) (by simp only [go_sem,simprocAttr,u8,List.length_replicate,List.take_replicate,Nat.min_self]) (by simp) ?_; simp only [go_sem,simprocAttr,u8,List.length_replicate,List.take_replicate,Nat.min_self]
   refine az rfl ?_
   simp only [go_sem,simprocAttr]
   refine au [1,2,5,6] (hs1) rfl ?_ (by decide) ?_ ?_ (by simp) ?_ <;> simp only [aa,ah,go_sem,simprocAttr,u8]
   refine au [1,2] (Lz) rfl ?_ (by decide) ?_ ?_ (by simp) ?_ <;> simp only [aa,ah,go_sem,simprocAttr]
   refine bM [] [0,1,2,7,8] [] (vs:=[.int 0]) rfl rfl (by decide) (by simp) (by simp) rfl rfl ?_
   simp [aF,ah,LV.int]
 ·rw [if_neg (fun h=>hg h.1)] at o7
  subst o7
  simp only [decide_eq_false hg,c5,go_sem,simprocAttr]
  refine iN [1,2] [4] (hw1) rfl (by simp [aa,ah,aM,ay,u8,List.length_replicate,List.take_replicate,Nat.min_self,go_sem,simprocAttr]) (by decide) (by decide) (by simp [ay]) (by simp only [go_sem,simprocAttr,u8,List.length_replicate,List.take_replicate,Nat.min_self]) (by simp only [go_sem,simprocAttr,u8,List.length_replicate,List.take_replicate,Nat.min_self]) (by simp) ?_; simp only [go_sem,simprocAttr,u8,List.length_replicate,List.take_replicate,Nat.min_self]
  refine az rfl ?_
  simp only [go_sem,simprocAttr]
  refine au [1,2,5,6] (hs1) rfl ?_ (by decide) ?_ ?_ (by simp) ?_ <;> simp only [aa,ah,go_sem,simprocAttr,u8]
  refine au [1,2] (Lz) rfl ?_ (by decide) ?_ ?_ (by simp) ?_ <;> simp only [aa,ah,go_sem,simprocAttr]
  refine bM [] [0,1,2,7,8] [] (vs:=[.int 0]) rfl rfl (by decide) (by simp) (by simp) rfl rfl ?_
  simp [aF,ah,LV.int]
theorem Dp (l:List Int) (s:Int) (fr sz:Nat) (b:List Int) (aX:Int) (P0 P1:Option (List Int×Int)) (e:Int) (hbb:∀ c∈b,0≤c∧c≤255) (hz:1≤sz) (hl:sz≤65536) (oO:b.length≤90000)
  (mz:br Tryz.prog G 177 [.ptr 0 0,.int 0] (qG l s fr sz) (ni P0) (qG l s fr sz)) (hp1:br Tryz.prog G 177 [.ptr 0 0,.int 1] (qG l s fr sz) (ni P1) (qG l s fr sz))
  (he:e=if isNum aX=false then 1 else if aX≤cG P0∨aX≤cG P1 then 6 else if (eO b aX).length=0∨(eO b aX).length>sz then 3 else 0) (he0:e≠0) :
  br Tryz.prog G 93 [.ptr 0 0,af b,.int aX] (qG l s fr sz) (.int e) (qG l s fr sz):=by
 rw [tI] at mz hp1
 have h9:=dL aX
 have hi:=tX (G:=G) aX
 simp only [qG] at mz hp1
 refine aY Tryz.func93 (by decide) MS rfl rfl rfl rfl ?_
 simp only [Xw,go_sem,simprocAttr]
 simp only [qG,af,go_sem,simprocAttr]
 refine av (hi) rfl rfl rfl rfl ?_; simp only [go_sem,simprocAttr]
 cases hn:isNum aX with
 | false=>
   rw [hn,if_pos rfl] at he
   subst he
   simp only [go_sem,simprocAttr]
 | true=>
 rw [hn,if_neg (by decide)] at he
 simp only [go_sem,simprocAttr]
 refine au [0,1,2] (mz) rfl ?_ (by decide) ?_ ?_ (by simp) ?_ <;> simp only [aa,ah,go_sem,simprocAttr]
 refine au [0,1,2] (hp1) rfl ?_ (by decide) ?_ ?_ (by simp) ?_ <;> simp only [aa,ah,go_sem,simprocAttr]
 by_cases h1:aX≤cG P0
 ·rw [if_pos (.inl h1)] at he
  subst he
  simp only [decide_eq_true h1,go_sem,simprocAttr]
 by_cases h2:aX≤cG P1
 ·rw [if_pos (.inr h2)] at he
  subst he
  simp only [decide_eq_false h1,decide_eq_true h2,go_sem,simprocAttr]
 rw [if_neg (by rintro (h | h); · exact h1 h
                ·exact h2 h)] at he
 have hq:(eO b aX).length=0∨(eO b aX).length>sz:=by
  by_cases hq:(eO b aX).length=0∨(eO b aX).length>sz
  ·exact hq
  ·rw [if_neg hq] at he; exact absurd he he0
 rw [if_pos hq] at he
 subst he
 have p7:=nq (G:=G) aX hn
 have hnb:∀ c∈aQ aX++b,0≤c∧c≤255:=fun c hc=>by
  rcases List.mem_append.1 hc with hc | hc
  ·exact iF aX c hc
  ·exact hbb c hc
 have hpf:=lK (G:=G) (aQ aX++b) hnb (by rw [List.length_append]; omega)
 rw [show cZ (aQ aX++b)=eO b aX from rfl] at hpf
 have c1:((aQ aX).length+b.length)*1≤70368744177664:=by omega
 have hlc:(ak (aQ aX++b)).length=(aQ aX).length+b.length:=by rw [aj,List.length_append]
 have hap:ak (aQ aX)++ak b=ak (aQ aX++b):=(gB _ _).symm
 simp only [af] at hpf
 simp only [decide_eq_false h1,decide_eq_false h2,go_sem,simprocAttr]
 refine fO p7 rfl rfl rfl ?_
 simp only [aj,hap,hlc,c1,go_sem,simprocAttr]
 refine jy [3] (hpf) rfl (by simp [aa,ah,aM,ay,hlc,List.take_of_length_le,go_sem,simprocAttr]) (by simp [ay]) rfl ?_; simp only [go_sem,simprocAttr]
 by_cases h0:(eO b aX).length=0
 ·simp only [aj,show (((eO b aX).length:Int)==0)=true by rw [beq_iff_eq]; omega,go_sem,simprocAttr]
 ·simp only [aj,show (((eO b aX).length:Int)==0)=false from beq_eq_false_iff_ne.2 (by omega),decide_eq_true (show ((eO b aX).length:Int)>(sz:Int) by omega),go_sem,simprocAttr]
theorem su {l:List Int} (hb:∀ c∈l,0≤c∧c≤255) (fr sz:Nat) (b:List Int) (aX:Int):dB l fr sz b aX=if isNum aX=false then 1 else if aX≤cG (ek l fr sz 0)∨aX≤cG (ek l fr sz 1) then 6 else if (eO b aX).length=0∨(eO b aX).length>sz then 3 else 0:=by
 unfold dB
 cases hn:isNum aX with
 | false=>
   rw [if_pos (by
    by_cases h:(aQ aX).length=0
    ·exact h
    ·have:=D5.1 h; rw [hn] at this; cases this),if_pos rfl]
 | true=>
   rw [if_neg (D5.2 hn),if_neg (show ¬ true=false by decide)]
   have h0:0≤aX:=(of_decide_eq_true hn).1
   have ho:(F_ aX (gR l fr sz)=true)=(aX≤cG (ek l fr sz 0)∨aX≤cG (ek l fr sz 1)):=by
    rw [Mv h0,(vg hb fr sz).1,decide_eq_true_eq]
    apply propext
    split <;> omega
   by_cases h:F_ aX (gR l fr sz)=true
   ·have h':aX≤cG (ek l fr sz 0)∨aX≤cG (ek l fr sz 1):=ho ▸ h
    rw [if_pos h,if_pos h']
   ·have h':¬ (aX≤cG (ek l fr sz 0)∨aX≤cG (ek l fr sz 1)):=ho ▸ h
    rw [if_neg h,if_neg h']
theorem FM (l:List Int) (s:Int) (fr sz:Nat) (b:List Int) (aX:Int) (hb:∀ c∈l,0≤c∧c≤255) (hbb:∀ c∈b,0≤c∧c≤255) (h:fr+2*sz≤l.length) (hz:1≤sz) (hl:1≤l.length∧l.length≤65536) (oO:b.length≤90000) (hE:dB l fr sz b aX=0) :
  br Tryz.prog G 93 [.ptr 0 0,af b,.int aX] (qG l s fr sz) (.int 0) (Wt (bN l (fr+ff l fr sz*sz) (List.replicate sz 0)) (IntKind.i64.wrap (s+1)) fr sz (fr+ff l fr sz*sz) (eO b aX)):=by
 rw [su hb] at hE
 have hn:isNum aX=true:=by
  cases hn:isNum aX with
  | true=>rfl
  | false=>rw [hn,if_pos rfl] at hE; cases hE
 rw [hn,if_neg (by decide)] at hE
 split at hE
 ·cases hE
 rename_i h1
 split at hE
 ·cases hE
 rename_i h2
 exact FN l s fr sz b aX _ _ _ hbb h hz hl oO (ic l s fr sz 0 hb (by omega) hl (by omega)) (ic l s fr sz 1 hb (by omega) hl (by omega)) hn (by omega) (by omega) (vg hb fr sz).2
theorem Dn (l:List Int) (s:Int) (fr sz:Nat) (b:List Int) (aX:Int) (hb:∀ c∈l,0≤c∧c≤255) (hbb:∀ c∈b,0≤c∧c≤255) (h:fr+2*sz≤l.length) (hz:1≤sz) (hl:1≤l.length∧l.length≤65536) (oO:b.length≤90000) (hE:dB l fr sz b aX≠0) :
  br Tryz.prog G 93 [.ptr 0 0,af b,.int aX] (qG l s fr sz) (.int (dB l fr sz b aX)) (qG l s fr sz):=
 Dp l s fr sz b aX _ _ _ hbb hz (by omega) oO (ic l s fr sz 0 hb (by omega) hl (by omega)) (ic l s fr sz 1 hb (by omega) hl (by omega)) (su hb fr sz b aX) hE
end Dv
