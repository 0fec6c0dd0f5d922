/- part -/
import Derived.Test.YtkalnfkokkjliaaGreatDoorPA
import Derived.Test.YtkalnfkokkjliaaGreatDoorDB
set_option linter.all false
namespace Dv
open Go
theorem og (n i:Nat):hasB (n:Int) i=n.testBit i:=by
 unfold hasB
 rw [Nat.testBit_eq_decide_div_mod_eq]
 rw [Bool.eq_iff_iff,decide_eq_true_eq,decide_eq_true_eq]
 rw [show ((2:Int) ^ i)=((2 ^ i:Nat):Int) by simp,← Int.natCast_ediv,show ((2:Int))=((2:Nat):Int) from rfl,← Int.natCast_emod]
 omega
def gq (n:Int):Prop:=0≤n∧n<64
theorem gq.nat {n:Int} (h:gq n):∃ m:Nat,n=m∧m<64:=by
 obtain ⟨m,rfl⟩:=Int.eq_ofNat_of_zero_le h.1
 exact ⟨m,rfl,by have:=h.2; omega⟩
theorem Sw (a b:Nat) (ha:a<64) (hb:b<64):Cs .i64 (a:Int) (b:Int)=((a||| b:Nat):Int):=by
 have h:a||| b<2 ^ 6:=Nat.or_lt_two_pow (n:=6) ha hb
 unfold Cs
 rw [show IntKind.i64.bits=64 from rfl,BitVec.toNat_or,BitVec.ofInt_natCast,BitVec.ofInt_natCast,BitVec.toNat_ofNat,BitVec.toNat_ofNat,Nat.mod_eq_of_lt (by omega),Nat.mod_eq_of_lt (by omega),ug _ (by omega)]
theorem Wz {a b:Int} (ha:gq a) (hb:gq b):gq (Cs .i64 a b)∧∀ i,hasB (Cs .i64 a b) i=(hasB a i||hasB b i):=by
 obtain ⟨m,rfl,hm⟩:=ha.nat
 obtain ⟨n,rfl,hn⟩:=hb.nat
 have h:m||| n<2 ^ 6:=Nat.or_lt_two_pow (n:=6) hm hn
 rw [Sw m n hm hn]
 refine ⟨⟨by omega,by omega⟩,fun i=>?_⟩
 rw [og,og,og,Nat.testBit_or]
theorem Rz:∀ a b:Fin 64,gF .i64 (a.val:Int) (b.val:Int)=((a.val&&& (63-b.val):Nat):Int):=by decide +kernel
theorem aa8:∀ b:Fin 64,∀ i:Fin 6,(63-b.val).testBit i.val = !b.val.testBit i.val:=by decide +kernel
theorem Ny {a b:Int} (ha:gq a) (hb:gq b):gq (gF .i64 a b)∧∀ i,i<6→hasB (gF .i64 a b) i=(hasB a i&&!hasB b i):=by
 obtain ⟨m,rfl,hm⟩:=ha.nat
 obtain ⟨n,rfl,hn⟩:=hb.nat
 have e:=Rz ⟨m,hm⟩ ⟨n,hn⟩
 dsimp only at e
 rw [e]
 have h:m&&& (63-n)≤m:=Nat.and_le_left
 refine ⟨⟨by omega,by omega⟩,fun i hi=>?_⟩
 have e2:=aa8 ⟨n,hn⟩ ⟨i,hi⟩
 dsimp only at e2
 rw [og,og,og,Nat.testBit_and,e2]
def fF (f:Nat→Bool):Nat→Int
 | 0=>0
 | k+1=>if f k=true then fF f k+2 ^ k else fF f k
theorem abe (k:Nat) (h:k≤6):(2:Int) ^ k≤64∧1≤(2:Int) ^ k:=by
 have:k=0∨k=1∨k=2∨k=3∨k=4∨k=5∨k=6:=by omega
 rcases this with h | h | h | h | h | h | h <;> rw [h] <;> decide
theorem tG (f:Nat→Bool):∀ k:Nat,0≤fF f k∧fF f k<2 ^ k
 | 0=>by simp [fF]
 | k+1=>by
   have:=tG f k
   have hp:(2:Int) ^ (k+1)=2 ^ k*2:=Int.pow_succ 2 k
   rw [fF]
   split <;> omega
theorem Am (f:Nat→Bool) (k:Nat) (h:k≤6):gq (fF f k):=by
 have:=tG f k
 have:=abe k h
 exact ⟨by omega,by omega⟩
theorem aaR:∀ k:Fin 6,∀ a:Fin 64,a.val<2 ^ k.val→Cs .i64 (a.val:Int) (2 ^ k.val)=(a.val:Int)+2 ^ k.val:=by decide +kernel
theorem Kq (f:Nat→Bool) (k:Nat) (h:k<6):Cs .i64 (fF f k) (2 ^ k)=fF f k+2 ^ k:=by
 obtain ⟨m,hm,hl⟩:=(Am f k (by omega)).nat
 have h2:=(tG f k).2
 rw [hm] at h2 ⊢
 refine aaR ⟨k,h⟩ ⟨m,hl⟩ ?_
 show m<2 ^ k
 have:(m:Int)<((2 ^ k:Nat):Int):=by simpa using h2
 omega
theorem Pu (n:Int) (h:gq n):many (n % 64)=many n:=by rw [Int.emod_eq_of_lt h.1 h.2]
theorem FW (n:Int):0≤many n∧many n≤6:=CC n 6
def yU (p:Int×Int×Int):Int×Int×Int:=(gF .i64 p.1 (rH .i64 p.1 (-p.1)),p.2.1-1,Cs .i64 p.2.2 (rH .i64 p.1 (-p.1)))
def wC:Nat→Int×Int×Int→Int
 | 0,p=>p.2.2
 | f+1,p=>if p.1≠0∧0<p.2.1 then wC f (yU p) else p.2.2
def Ec (of mx:Int):Nat→Int
 | 0=>0
 | k+1=>if hasB of k=true∧many (Ec of mx k)<mx then Ec of mx k+2 ^ k else Ec of mx k
theorem ZG:∀ s:Fin 64,∀ m:Fin 7,wC 6 ((s.val:Int),(m.val:Int),0)=Ec (s.val:Int) (m.val:Int) 6:=by decide +kernel
end Dv
namespace Dv
open Go
def sS (s:aa):Int:=fF (fun i=>mq (s.nodes.getD i ai)) s.nodes.length
def kH (set v:Int) (i:Nat) (n:br):Bool:=hasB set i&&n.up&&!n.cQ&&!n.bG&&decide (n.version=v)
def fV (s:aa) (set v:Int):Int:=fF (fun i=>kH set v i (s.nodes.getD i ai)) s.nodes.length
def Lq:List Int:=[1,2,3,4,5,6,7,8,9]
def Dr (m:Int):List Int:=m::Lq.filter (fun v=>decide (v≠m))
def okV (s:aa) (j:bQ) (set v:Int):Bool:=!(decide (j.pin≠0)&&decide (j.pin≠v))&&decide (j.min≤many (fV s set v))
def chs (s:aa) (j:bQ) (set:Int):List Int:=((Dr (gh s)).filter (okV s j set)).map (fV s set)
def Rr (mx n:Int):Int:=if mx<many n then mx else many n
def ur (mx:Int) (p:Int×Int) (n:Int):Int×Int:=if p.2<Rr mx n then (n,Rr mx n) else p
def ou (s:aa) (j:bQ) (set:Int):Int×Int:=(chs s j set).foldl (ur j.max) (0,0)
def jG (s:aa) (j:bQ) (set:Int):Int×Bool:=(wC 6 ((ou s j set).1,j.max,0),decide (0<(ou s j set).2))
section
variable (K:Int→Int) (m:Int)
end
theorem uD (s:aa) (set v:Int) (h:s.nodes.length≤6):gq (fV s set v):=Am _ _ h
theorem SN {a m:Int} (ha:gq a) (hm:0≤m∧m≤6):wC 6 (a,m,0)=Ec a m 6:=by
 obtain ⟨n,rfl,hn⟩:=ha.nat
 obtain ⟨k,rfl⟩:=Int.eq_ofNat_of_zero_le hm.1
 exact ZG ⟨n,hn⟩ ⟨k,by omega⟩
end Dv
namespace Dv
open Go
def eU (s:aa) (i:Nat):Int:=(s.jobs.getD i az).prio
def qB (s:aa) (i:Nat):Bool:=decide ((s.jobs.getD i az).phase=0)
def EV (s:aa) (i j:Nat):Bool:=decide (eU s j<eU s i∨(eU s i=eU s j∧i<j))
def oO (s:aa):List Nat:=(List.range s.jobs.length).filter (qB s)
def mV (s:aa):List Nat:=(oO s).mergeSort (fun i j=>!EV s j i)
theorem xh {s:aa} {i j:Nat} : EV s i j=true↔(eU s j<eU s i∨(eU s i=eU s j∧i<j)):=by unfold EV; rw [decide_eq_true_eq]
theorem aaQ (s:aa) (i:Nat):EV s i i=false:=by
 cases h:EV s i i with
 | false=>rfl
 | true=>have:=xh.1 h; omega
theorem G3 {s:aa} {i j k:Nat} (h1:EV s i j=true) (h2:EV s j k=true):EV s i k=true:=by
 have:=xh.1 h1; have:=xh.1 h2
 exact xh.2 (by omega)
theorem G4 {s:aa} {i j:Nat} (h:i≠j):EV s i j=true∨EV s j i=true:=by
 by_cases h1:EV s i j=true
 ·exact .inl h1
 ·refine .inr (xh.2 ?_)
  have h2:¬ (eU s j<eU s i∨(eU s i=eU s j∧i<j)):=fun h=>h1 (xh.2 h)
  omega
theorem iT {s:aa} {i:Nat} : i∈oO s↔i<s.jobs.length∧qB s i=true:=by
 unfold oO; rw [List.mem_filter,List.mem_range]
theorem tH (s:aa):(mV s).Perm (oO s):=List.mergeSort_perm _ _
theorem Pn {s:aa} {i:Nat} : i∈mV s↔i<s.jobs.length∧qB s i=true:=by rw [(tH s).mem_iff,iT]
end Dv
namespace Dv
open Go
def Pr (a b:Int):Int:=if b>a then b else a
def vu (j:bQ) (now:Int):Int:=if j.phase=1 then now+j.work else if j.phase=2 then Pr now (j.since+j.work) else if j.phase=3 then Pr now j.til else -1
def VS (s:aa) (aQ now:Int):Int:=if aQ<1∨(s.jobs.length:Int)<aQ then -1 else vu (s.jobs.getD (aQ-1).toNat az) now
def okE (e t:Int):Bool:=decide (0≤e)&&decide (e≤t)
def gZ (s:aa) (aQ:Int):Bool:=decide (1≤aQ∧aQ≤(s.jobs.length:Int)∧(s.jobs.getD (aQ-1).toNat az).phase=0)
def Hq (s:aa) (now t:Int):Nat→Int
 | 0=>sS s
 | k+1=>if okE (vu (dR s k) now) t=true then Cs .i64 (Hq s now t k) (dR s k).nodes else Hq s now t k
structure Wo (j:bQ):Prop where
 work:0≤j.work∧j.work≤1000000
 since:0≤j.since∧j.since≤1000000
 til:0≤j.til∧j.til≤1000000
structure uc (s:aa):Prop where
 nodes:s.nodes.length≤6
 jobs:s.jobs.length≤1000
 ends:∀ k,k<s.jobs.length→Wo (dR s k)
 sets:∀ k,k<s.jobs.length→gq (dR s k).nodes
 most:∀ k,k<s.jobs.length→0≤(dR s k).max∧(dR s k).max≤6
 prio:∀ k,k<s.jobs.length→0≤eU s k∧eU s k≤1000000
theorem bU.ac4 {c:aF} {s:aa} (h:bU c s) (k:Nat) (hk:k<s.jobs.length):gq (dR s k).nodes:=by
 cases hp:eP (dR s k).phase with
 | false=>rw [h.idle k hk hp]; exact ⟨by decide,by decide⟩
 | true=>
   have mg:=h.nH k hk hp
   have hl:=h.len
   have:=abe s.nodes.length hl.2
   have h1:=mg.lo
   have h2:=mg.hi
   exact ⟨h1,by omega⟩
theorem KW {s:aa} {k:Nat} (hk:k<s.jobs.length) (now:Int):VS s ((k+1:Nat):Int) now=vu (dR s k) now:=by
 unfold VS dR
 rw [if_neg (by omega),show (((k+1:Nat):Int)-1).toNat=k by omega]
theorem Re {j:bQ} (h:Wo j) {now:Int} (h0:0≤now∧now≤1000000):-1≤vu j now∧vu j now≤2000000:=by
 have h1:=h.work
 have h2:=h.since
 have h3:=h.til
 unfold vu Pr
 repeat' split
 all_goals omega
theorem JL {c:aF} {j:bQ} (h:mC c j=true):0≤j.work∧j.work≤1000000:=by
 unfold mC at h
 simp only [Bool.and_eq_true] at h
 have:=bp h.1.2
 omega
theorem Dj {c:aF} {j:bQ} (h:mC c j=true):(1≤j.min∧j.min≤j.max)∧(1≤j.max∧j.max≤c.nodes)∧(0≤j.prio∧j.prio≤9)∧(0≤j.pin∧j.pin≤9):=by
 unfold mC at h
 simp only [Bool.and_eq_true] at h
 exact ⟨bp h.1.1.1.2,bp h.1.1.2,bp h.1.1.1.1.2,bp h.2⟩
theorem bU.adS {c:aF} {s:aa} (h:bU c s) (k:Nat) (hk:k<s.jobs.length):Wo (dR s k):=
 ⟨JL (h.num k hk).asked,(h.num k hk).since,(h.num k hk).til⟩
theorem bU.fits {c:aF} {s:aa} (h:bU c s):uc s:=
 ⟨h.len.2,by have:=h.jobs; omega,h.adS,h.ac4,fun k hk=>by
  have:=(Dj (h.num k hk).asked).2.1
  have:=o8 h.vE
  omega,fun k hk=>by
  have:=(Dj (h.num k hk).asked).2.2.1
  show 0≤(dR s k).prio∧(dR s k).prio≤1000000
  omega⟩
def EM (l:List Int) (e:Int):List Int:=if e∈l then l else l++[e]
def s_ (s:aa) (now:Int):Nat→List Int
 | 0=>[now]
 | k+1=>if 0≤vu (dR s k) now then EM (s_ s now k) (vu (dR s k) now) else s_ s now k
def tc (s:aa) (now:Int):List Int:=(s_ s now s.jobs.length).mergeSort (fun x y=>decide (x≤y))
theorem Po {l:List Int} {e x:Int} : x∈EM l e↔x∈l∨x=e:=by
 unfold EM
 split
 ·rename_i h
  exact ⟨.inl,by rintro (h1 | rfl); exact h1; exact h⟩
 ·simp
theorem JQ {l:List Int} (h:l.Nodup) (e:Int):(EM l e).Nodup:=by
 unfold EM
 split
 ·exact h
 ·rename_i hn
  rw [List.nodup_append]
  exact ⟨h,by simp,fun a ha b hb=>by rw [List.mem_singleton.1 hb]; rintro rfl; exact hn ha⟩
theorem s9 (s:aa) (now:Int):∀ k,(s_ s now k).Nodup
 | 0=>by simp [s_]
 | k+1=>by
   unfold s_
   split
   ·exact JQ (s9 s now k) _
   ·exact s9 s now k
theorem E8 (s:aa) (now:Int):∀ k,(s_ s now k).length≤k+1
 | 0=>by simp [s_]
 | k+1=>by
   have:=E8 s now k
   unfold s_ EM
   split
   ·split <;> simp <;> omega
   ·omega
theorem Hz (s:aa) (now:Int):(tc s now).length≤s.jobs.length+1:=by
 unfold tc
 rw [List.length_mergeSort]
 exact E8 s now _
end Dv
namespace Dv
open Go
def Iw (s:aa) (aQ:Int):bQ:=s.jobs.getD (aQ-1).toNat az
def Af (s:aa) (aQ:Int):Int×Bool:=if gZ s aQ=true then jG s (Iw s aQ) (sS s) else (0,false)
def pE (s:aa) (j:bQ) (now:Int):List Int→Int×Int×Bool
 | []=>(0,0,false)
 | t::l=>if (jG s j (Hq s now t s.jobs.length)).2=true then (t,(jG s j (Hq s now t s.jobs.length)).1,true) else pE s j now l
def ym (s:aa) (aQ now:Int):Int×Int×Bool:=if gZ s aQ=true then pE s (Iw s aQ) now (tc s now) else (0,0,false)
def pV (s:aa):Int:=(((mV s).getD 0 0+1:Nat):Int)
def xV (s:aa) (aQ now:Int):Int×Bool:=
 if gZ s aQ=false∨pV s=aQ then (0,false)
 else if (jG s (Iw s aQ) (gF .i64 (sS s) (ym s (pV s) now).2.1)).2=true then ((jG s (Iw s aQ) (gF .i64 (sS s) (ym s (pV s) now).2.1)).1,true)
 else if (ym s (pV s) now).2.2=false∨(Af s aQ).2=false∨(ym s (pV s) now).1<now+(Iw s aQ).work then (0,false) else ((Af s aQ).1,true)
def nJ (SH fill:Int→Int×Bool):List Nat→Nat→Int×Int×Bool
 | [],_=>(0,0,false)
 | k::l,0=>if (SH ((k+1:Nat):Int)).2=true then (((k+1:Nat):Int),(SH ((k+1:Nat):Int)).1,true) else nJ SH fill l 1
 | k::l,i+1=>if (fill ((k+1:Nat):Int)).2=true then (((k+1:Nat):Int),(fill ((k+1:Nat):Int)).1,true) else nJ SH fill l (i+2)
def rG (s:aa) (now:Int):Int×Int×Bool:=nJ (Af s) (fun k=>xV s k now) (mV s) 0
theorem qM {s:aa} {aQ:Int} : gZ s aQ=true↔∃ i:Nat,aQ=((i+1:Nat):Int)∧i∈oO s:=by
 unfold gZ
 rw [decide_eq_true_eq]
 constructor
 ·rintro ⟨h1,h2,h3⟩
  refine ⟨(aQ-1).toNat,by omega,iT.2 ⟨by omega,?_⟩⟩
  unfold qB; rw [decide_eq_true_eq]; exact h3
 ·rintro ⟨i,rfl,hi⟩
  obtain ⟨h1,h2⟩:=iT.1 hi
  refine ⟨by omega,by omega,?_⟩
  rw [show (((i+1:Nat):Int)-1).toNat=i by omega]
  unfold qB at h2; exact of_decide_eq_true h2
theorem yV (s:aa) (i:Nat):Iw s ((i+1:Nat):Int)=dR s i:=by
 unfold Iw dR
 rw [show (((i+1:Nat):Int)-1).toNat=i by omega]
theorem ZB {s:aa} {j:bQ} (set:Int) (hn:s.nodes.length≤6) (hm:0≤j.max∧j.max≤6) (hb:gq (ou s j set).1):jG s j set=(Ec (ou s j set).1 j.max 6,(jG s j set).2):=by
 unfold jG
 rw [SN hb hm]
theorem Jf {s:aa} (h:s.nodes.length≤6):gq (sS s):=Am _ _ h
theorem KS (s:aa) (j:bQ) (now:Int) (hp:∀ set,gq (jG s j set).1):∀ l:List Int,gq (pE s j now l).2.1
 | []=>(⟨by decide,by decide⟩:gq 0)
 | t::l=>by
   unfold pE
   split
   ·exact hp _
   ·exact KS s j now hp l
theorem OF (s:aa) (aQ now:Int) (hp:∀ j,j∈s.jobs→∀ set,gq (jG s j set).1):gq (ym s aQ now).2.1:=by
 unfold ym
 split
 ·rename_i hq
  obtain ⟨i,rfl,hi⟩:=qM.1 hq
  have hlt:=(iT.1 hi).1
  refine KS _ _ _ (hp _ ?_) _
  rw [yV]
  unfold dR
  have e:s.jobs.getD i az=s.jobs[i]:=by simp [List.getD,hlt]
  rw [e]
  exact List.getElem_mem hlt
 ·exact ⟨by decide,by decide⟩
theorem JY (mx:Int):∀ (l:List Int) (p:Int×Int),gq p.1→(∀ n∈l,gq n)→gq (l.foldl (ur mx) p).1
 | [],p,h,_=>h
 | n::l,p,h,hl=>JY mx l _ (by
    unfold ur
    split
    ·exact hl n List.mem_cons_self
    ·exact h) (fun m hm=>hl m (List.mem_cons_of_mem _ hm))
theorem Px (of mx:Int):∀ k:Nat,k≤6→0≤Ec of mx k∧Ec of mx k<2 ^ k
 | 0,_=>(by decide:(0:Int)≤0∧(0:Int)<2 ^ 0)
 | k+1,hk=>by
   have ih:=Px of mx k (by omega)
   have h2:(2:Int) ^ (k+1)=2 ^ k*2:=Int.pow_succ 2 k
   have:(0:Int)<2 ^ k:=Int.pow_pos (by decide)
   unfold Ec
   split <;> omega
theorem Sr {s:aa} (h:uc s) {j:bQ} (hj:0≤j.max∧j.max≤6) (set:Int):gq (jG s j set).1:=by
 have hb:gq (ou s j set).1:=JY _ _ _ ⟨by decide,by decide⟩ (fun n hn=>by
  unfold chs at hn
  obtain ⟨v,_,rfl⟩:=List.mem_map.1 hn
  exact uD s set v h.nodes)
 rw [ZB set h.nodes hj hb]
 have:=Px (ou s j set).1 j.max 6 (Nat.le_refl _)
 exact ⟨this.1,this.2⟩
theorem uc.mem {s:aa} (h:uc s) {j:bQ} (hj:j∈s.jobs):0≤j.max∧j.max≤6:=by
 obtain ⟨k,hk,rfl⟩:=List.getElem_of_mem hj
 have:=h.most k hk
 unfold dR at this
 rw [show s.jobs.getD k az=s.jobs[k] by simp [List.getD,hk]] at this
 exact this
theorem uc.OF {s:aa} (h:uc s) (aQ now:Int):gq (ym s aQ now).2.1:=Dv.OF s aQ now (fun j hj set=>Sr h (h.mem hj) set)
theorem Zd {s:aa} (h:uc s) (now t:Int):∀ k,k≤s.jobs.length→gq (Hq s now t k)
 | 0,_=>Jf h.nodes
 | k+1,hk=>by
   have ih:=Zd h now t k (by omega)
   unfold Hq
   split
   ·exact (Wz ih (h.sets k (by omega))).1
   ·exact ih
end Dv
