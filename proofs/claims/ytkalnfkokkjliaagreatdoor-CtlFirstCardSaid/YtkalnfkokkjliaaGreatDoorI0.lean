/- code: a number out of bytes. -/
import Derived.Test.YtkalnfkokkjliaaGreatDoorDB
import Derived.Test.YtkalnfkokkjliaaGreatDoorPB
import Derived.Test.YtkalnfkokkjliaaGreatDoorVD
set_option linter.unusedVariables false
set_option linter.unusedSimpArgs false
namespace Dv
open Go Go.Proofs
variable {G:Nat→Option (List DV)}
def Rl:Nat×C×List RV:=(58,
(.seq (.af [qo 4 (.mv (qk 0)),
 qo 5 (.mv (qk 0)),
 qo 6 (.mv qf)])
 (.seq (.seq (.af [qm 10 1,
 qo 11 (.bin .lss (.t 10) (qk 0)),
 qm 12 11,
 qg 13 (.mv (.t 1)) 12 false,
 qg 14 (.mv (.t 0)) 12 false,
 qg 15 (.len (.t 14)) 12 false,
 qg 16 (.bin .geq (.t 13) (.t 15)) 12 false,
 qo 17 (.pick (.t 12) qt (.t 16))])
 (.cond (.t 17) (.seq (.af [qo 4 (.mv (qk 0)),
 qo 5 (.mv (qk 0)),
 qo 6 (.mv qf)])
 .ret)
 .skip))
 (.seq (.af [qo 7 (.mv (qk 0))])
 (.seq (.seq (.af [qm 18 0,
 qm 19 1,
 qm 20 0,
 qo 21 (.len (.t 20)),
 qm 22 1,
 qo 23 (.bin .add (.t 22) (qk 8)),
 qo 24 (.min (.t 21) (.t 23)),
 qo 25 (.zm 1 (.t 18) (some (.t 19)) (some (.t 24)) none),
 qo 26 (.len (.t 25)),
 qo 27 (.mv (qk 0))])
 (.block 0 (.loop (.seq (.af [qo 28 (.bin .lss (.t 27) (.t 26))])
 (.seq (.cond (.t 28) .skip
 (.exit 0))
 (.seq (.block 1 (.seq (.af [qm 29 27,
 qo 30 (.eG 1 (.t 25) (.t 27)),
 qo 31 (.ld1 (.t 30)),
 qm 8 29,
 qm 9 31])
 (.seq (.af [qm 32 7,
 qm 33 9,
 qo 34 (.bin .rem (.t 33) (.c (.val (.int .u8 128)))),
 qo 35 (.y2 .i64 (.t 34)),
 qm 36 8,
 qo 37 (.bin .mul (qk 7) (.t 36)),
 qo 38 (.bin .shl (.t 35) (.t 37)),
 qo 39 (.bin .or (.t 32) (.t 38)),
 qm 7 39])
 (.seq (.seq (.af [qm 40 9,
 qo 41 (.bin .geq (.t 40) (.c (.val (.int .u8 128))))])
 (.cond (.t 41) (.exit 1)
 .skip))
 (.seq (.seq (.af [qm 42 9,
 qo 43 (.bin .eql (.t 42) (.c (.val (.int .u8 0)))),
 qm 44 43,
 qg 45 (.mv (.t 8)) 44 true,
 qg 46 (.bin .gtr (.t 45) (qk 0)) 44 true,
 qo 47 (.pick (.t 44) (.t 46) qf),
 qm 48 47,
 qg 49 (.mv (.t 7)) 48 false,
 qg 50 (.bin .gtr (.t 49) (qk 9007199254740991)) 48 false,
 qo 51 (.pick (.t 48) qt (.t 50))])
 (.cond (.t 51) (.exit 0)
 .skip))
 (.seq (.af [qm 52 7,
 qm 53 1,
 qm 54 8,
 qo 55 (.bin .add (.t 53) (.t 54)),
 qo 56 (.bin .add (.t 55) (qk 1)),
 qm 4 52,
 qm 5 56,
 qo 6 (.mv qt)])
 .ret))))))
 (.af [qo 57 (.bin .add (.t 27) (qk 1)),
 qm 27 57])))))))
 (.seq (.af [qo 4 (.mv (qk 0)),
 qo 5 (.mv (qk 0)),
 qo 6 (.mv qf)])
 .ret))))),
[(.t 4),(.t 5),(.t 6)])
theorem NO:aq Tryz.prog Tryz.f172=some Rl:=by kernel_rfl
def u8 (n:Int):DV:=.val (.int .u8 n)
def aA (l:List Int):List (List DV):=l.map fun n=>[u8 n]
def au (l:List Int):LV:=.d (.dY 1 (aA l))
def vL (l:List Int):List (List DV):=l.map fun n=>[i64 n]
def Gr:Option (Int×Nat)→Int
 | none=>0
 | some (x,_)=>x
def Gs:Option (Int×Nat)→Nat
 | none=>0
 | some (_,p)=>p
def iB (q:Option (Int×Nat)):LV:=.dP [.int (Gr q),.int (Gs q),.bool q.isSome]
theorem SL (n d:Int) (i:Nat) (hi:i<8) (h0:0≤n) (hn:n<128 ^ i) (UI:0≤d) (hd:d<128):yA .i64 n (zo .i64 d (IntKind.i64.wrap (7*(i:Int))))=n+d*128 ^ i:=by
 have hw:IntKind.i64.wrap (7*(i:Int))=((7*i:Nat):Int):=by rw [aO (by omega) (by omega)]; omega
 have WY:(128:Int) ^ i=((2 ^ (7*i):Nat):Int):=by
  rw [Nat.pow_mul]; push_cast; rfl
 have hp:2 ^ (7*i)≤2 ^ 49:=Nat.pow_le_pow_right (by decide) (by omega)
 rw [hw,WY]
 rw [WY] at hn
 obtain ⟨n,rfl⟩:=Int.eq_ofNat_of_zero_le h0
 obtain ⟨d,rfl⟩:=Int.eq_ofNat_of_zero_le UI
 generalize hq:2 ^ (7*i)=q at *
 have hn':n<q:=by omega
 have hd':d<128:=by omega
 have hmul:d*q≤127*2 ^ 49:=Nat.mul_le_mul (by omega) hp
 have hs:zo .i64 (d:Int) ((7*i:Nat):Int)=((d*q:Nat):Int):=by
  unfold zo
  rw [Int.toNat_natCast,show Nat.min (7*i) IntKind.i64.bits=7*i from Nat.min_eq_left (by show 7*i≤64; omega)]
  have:(2:Int) ^ (7*i)=(q:Int):=by rw [← hq]; push_cast; rfl
  rw [this,← Int.natCast_mul,qE _ (by omega)]
 rw [hs]
 have e:yA .i64 (n:Int) ((d*q:Nat):Int)=IntKind.i64.wrap ((BitVec.ofInt 64 (n:Int)||| BitVec.ofInt 64 ((d*q:Nat):Int)).toNat:Int):=rfl
 rw [e,BitVec.toNat_or,BitVec.ofInt_natCast,BitVec.ofInt_natCast,BitVec.toNat_ofNat,BitVec.toNat_ofNat,Nat.mod_eq_of_lt (by omega),Nat.mod_eq_of_lt (by omega)]
 have h3:n||| d*q=d*q+n:=by
  have:=Nat.two_pow_add_eq_or_of_lt (i:=7*i) (b:=n) (by rw [hq]; exact hn') d
  rw [hq,Nat.mul_comm q d] at this
  rw [this,Nat.or_comm]
 rw [h3,qE _ (by omega)]
 push_cast
 omega
def XM (a0:Nat) (l:List Int) (p:Nat×Int):St:=⟨[(1,.int a0),(7,.int p.2),(25,.d (.dY 1 (aA l))),(26,.int l.length),(27,.int p.1)],[]⟩
attribute [local go_sem] u8 au
set_option maxHeartbeats 1000000 in
theorem qa (b:List Int) (hb:∀ c∈b,0≤c∧c≤255) (hl:b.length≤1000000) (a0:Nat) (ha:a0≤1000000) (q:Option (Int×Nat)) (hq:oV b a0=q):bw Tryz.prog G 172 [au b,.int a0] [] (iB q) []:=by
 have hlb:(aA b).length=b.length:=by simp [aA]
 have h1:decide ((a0:Int)<0)=false:=decide_eq_false (by omega)
 refine bn Tryz.func172 (by decide) NO rfl (by cases q <;> rfl) ?_
 simp only [Rl,go_sem,simprocAttr]
 simp only [h1,hlb,go_sem,simprocAttr]
 by_cases hlen:b.length≤a0
 case pos=>
  have h2:decide ((a0:Int)≥(b.length:Int))=true:=decide_eq_true (by omega)
  have:q=none:=by rw [← hq]; unfold oV; rw [List.drop_eq_nil_of_le hlen]; rfl
  subst this
  simp only [h2,iB,Gr,Gs,Option.isSome_none,Int.natCast_zero,go_sem,simprocAttr]
 have h2:decide ((a0:Int)≥(b.length:Int))=false:=decide_eq_false (by omega)
 have h3:IntKind.i64.wrap ((a0:Int)+8)=((a0+8:Nat):Int):=by rw [aO (by omega) (by omega)]; rfl
 have h4:(if ((a0+8:Nat):Int)<(b.length:Int) then ((a0+8:Nat):Int) else (b.length:Int))=((a0+((b.drop a0).take 8).length:Nat):Int):=by
  split <;> simp <;> omega
 have Kq:(mQ ((b.drop a0).take 8) 0 0).map (fun p=>(p.1,a0+p.2))=q:=by rw [← hq]; unfold oV; rw [← vq (b.drop a0) 0 0]
 have hr:((aA b).drop a0).take (a0+((b.drop a0).take 8).length-a0)=aA ((b.drop a0).take 8):=by
  simp only [aA,Nat.add_sub_cancel_left,← List.map_drop,List.map_take,List.length_take]
  rw [List.take_eq_take_iff]; simp
 have Aj:∀ c∈(b.drop a0).take 8,0≤c∧c≤255:=fun c hc=>hb c (List.mem_of_mem_drop (List.mem_of_mem_take hc))
 have hl8:((b.drop a0).take 8).length≤8:=by simp; omega
 have h5:a0≤a0+((b.drop a0).take 8).length∧a0+((b.drop a0).take 8).length≤b.length∧b.length≤b.length:=by simp; omega
 have h6:(aA ((b.drop a0).take 8)).length=((b.drop a0).take 8).length:=by simp [aA]
 simp only [h2,h3,hlb,h4,go_sem,simprocAttr]
 generalize (b.drop a0).take 8=l at *
 simp only [h5,hr,h6,go_sem,simprocAttr]
 refine aY [1,7,25,26,27] [] (fun p:Nat×Int=>p.1≤l.length∧0≤p.2∧p.2<128 ^ p.1∧(mQ (l.drop p.1) p.1 p.2).map (fun r=>(r.1,a0+r.2))=q) (fun p=>l.length-p.1) (XM a0 l) (0,0) ?_ ⟨Nat.zero_le _,Int.le_refl _,by decide,by rw [List.drop_zero]; exact Kq⟩ ?_
 ·simp only [XM,go_sem,simprocAttr]
 clear Kq h5 hr h4 h3 h2 h1 hq
 rintro ⟨i,n⟩ ⟨hi,hn0,hn,hF⟩
 dsimp only at hi hn0 hn hF
 simp only [XM,go_sem,simprocAttr]
 cases hlt:decide ((i:Int)<(l.length:Int)) with
 | false=>
   have hi':i=l.length:=by have:=of_decide_eq_false hlt; omega
   rw [hi',List.drop_length] at hF
   have:q=none:=hF.symm
   subst this
   simp only [iB,Gr,Gs,Option.isSome_none,Int.natCast_zero,go_sem,simprocAttr]
 | true=>
 have hi':i<l.length:=by have:=of_decide_eq_true hlt; omega
 have hg:=aL (f:=fun n:Int=>[u8 n]) 0 hi'
 simp only [u8] at hg
 have hc:=Aj (l.getD i 0) (by simp [List.getD,hi'])
 have hd:l.drop i=l.getD i 0::l.drop (i+1):=by rw [List.drop_eq_getElem_cons hi']; simp [List.getD,hi']
 rw [hd] at hF
 generalize l.getD i 0=c at *
 have Sb:=SL n (c % 128) i (by omega) hn0 hn (Int.emod_nonneg _ (by decide)) (Int.emod_lt_of_pos _ (by decide))
 have TC:c.tmod 128=c % 128:=Int.tmod_eq_emod_of_nonneg hc.1
 have hw:IntKind.i64.wrap (c % 128)=c % 128:=aO (by omega) (by omega)
 have hw7:0≤IntKind.i64.wrap (7*(i:Int)):=by rw [aO (by omega) (by omega)]; omega
 have XC:(0:Int)<128 ^ i:=Int.pow_pos (by decide)
 have hn2:n+c % 128*128 ^ i<128 ^ (i+1):=by
  have:c % 128*128 ^ i≤127*128 ^ i:=Int.mul_le_mul_of_nonneg_right (by omega) (Int.le_of_lt XC)
  rw [Int.pow_succ]; omega
 have hn3:0≤n+c % 128*128 ^ i:=Int.add_nonneg hn0 (Int.mul_nonneg (by omega) (Int.le_of_lt XC))
 simp only [aA,hg,TC,hw,hw7,Sb,ne_eq,not_false_eq_true,show ((128:Int)=0)=False from by decide,go_sem,simprocAttr]
 unfold mQ at hF
 rw [if_neg (by omega)] at hF
 by_cases h128:128≤c
 case pos=>
  rw [if_pos h128] at hF
  simp only [decide_eq_true (show c≥128 from h128),go_sem,simprocAttr]
  refine bz (i+1,n+c % 128*128 ^ i) ?_ ?_ ⟨by dsimp only; omega,hn3,hn2,hF⟩ (by dsimp only; omega)
  ·simp only [go_sem,simprocAttr]
  ·simp only [XM,aG (show i<9223372036854775807 by omega),aA,go_sem,simprocAttr]
 rw [if_neg h128] at hF
 simp only [decide_eq_false (show ¬ c≥128 from h128),go_sem,simprocAttr]
 by_cases hz:c=0∧0<i
 case pos=>
  rw [if_pos (.inl hz)] at hF
  have:q=none:=hF.symm
  subst this
  simp only [show (c==0)=true by rw [hz.1]; rfl,decide_eq_true (show ((i:Nat):Int)>0 by omega),iB,Gr,Gs,Option.isSome_none,Int.natCast_zero,go_sem,simprocAttr]
 have ZE:(c==0)=true→decide (((i:Nat):Int)>0)=false:=fun h=>decide_eq_false (fun h2=>hz ⟨by simpa using h,by omega⟩)
 by_cases hm:jR<n+c % 128*128 ^ i
 case pos=>
  rw [if_pos (.inr hm)] at hF
  have:q=none:=hF.symm
  subst this
  cases h0:(c==0) with
  | true=>simp only [ZE h0,decide_eq_true (show n+c % 128*128 ^ i>9007199254740991 from hm),iB,Gr,Gs,Option.isSome_none,Int.natCast_zero,go_sem,simprocAttr]
  | false=>simp only [decide_eq_true (show n+c % 128*128 ^ i>9007199254740991 from hm),iB,Gr,Gs,Option.isSome_none,Int.natCast_zero,go_sem,simprocAttr]
 rw [if_neg (fun h=>h.elim hz hm)] at hF
 have:q=some (n+c % 128*128 ^ i,a0+(i+1)):=hF.symm
 subst this
 have w1:IntKind.i64.wrap ((a0:Int)+(i:Int))=((a0+i:Nat):Int):=by rw [aO (by omega) (by omega)]; rfl
 cases h0:(c==0) with
 | true=>simp only [ZE h0,decide_eq_false (show ¬ n+c % 128*128 ^ i>9007199254740991 from hm),w1,aG (show a0+i<9223372036854775807 by omega),iB,Gr,Gs,Option.isSome_some,Nat.add_assoc,go_sem,simprocAttr]
 | false=>simp only [decide_eq_false (show ¬ n+c % 128*128 ^ i>9007199254740991 from hm),w1,aG (show a0+i<9223372036854775807 by omega),iB,Gr,Gs,Option.isSome_some,Nat.add_assoc,go_sem,simprocAttr]
end Dv
