/- part -/
import Derived.Test.YtkalnfkokkjliaaGreatDoorPA
import Derived.Test.YtkalnfkokkjliaaGreatDoorDB
set_option linter.all false
namespace Dv
open Go
theorem nY (n i:Nat):hasB (n:Int) i=n.testBit i:=by
 unfold hasB
 rw [Nat.testBit_eq_decide_div_mod_eq]
 rw [Bool.eq_iff_iff,decide_eq_true_eq,decide_eq_true_eq]
 rw [show ((2:Int) ^ i)=((2 ^ i:Nat):Int) by simp,← Int.natCast_ediv,show ((2:Int))=((2:Nat):Int) from rfl,← Int.natCast_emod]
 omega
def gj (n:Int):Prop:=0≤n∧n<64
theorem gj.nat {n:Int} (h:gj n):∃ m:Nat,n=m∧m<64:=by
 obtain ⟨m,rfl⟩:=Int.eq_ofNat_of_zero_le h.1
 exact ⟨m,rfl,by have:=h.2; omega⟩
theorem Se (a b:Nat) (ha:a<64) (hb:b<64):B9 .i64 (a:Int) (b:Int)=((a||| b:Nat):Int):=by
 have h:a||| b<2 ^ 6:=Nat.or_lt_two_pow (n:=6) ha hb
 unfold B9
 rw [show IntKind.i64.bits=64 from rfl,BitVec.toNat_or,BitVec.ofInt_natCast,BitVec.ofInt_natCast,BitVec.toNat_ofNat,BitVec.toNat_ofNat,Nat.mod_eq_of_lt (by omega),Nat.mod_eq_of_lt (by omega),tR _ (by omega)]
theorem V_ {a b:Int} (ha:gj a) (hb:gj b):gj (B9 .i64 a b)∧∀ i,hasB (B9 .i64 a b) i=(hasB a i||hasB b i):=by
 obtain ⟨m,rfl,hm⟩:=ha.nat
 obtain ⟨n,rfl,hn⟩:=hb.nat
 have h:m||| n<2 ^ 6:=Nat.or_lt_two_pow (n:=6) hm hn
 rw [Se m n hm hn]
 refine ⟨⟨by omega,by omega⟩,fun i=>?_⟩
 rw [nY,nY,nY,Nat.testBit_or]
theorem Rg:∀ a b:Fin 64,gz .i64 (a.val:Int) (b.val:Int)=((a.val&&& (63-b.val):Nat):Int):=by decide +kernel
theorem aaP:∀ b:Fin 64,∀ i:Fin 6,(63-b.val).testBit i.val = !b.val.testBit i.val:=by decide +kernel
theorem Nh {a b:Int} (ha:gj a) (hb:gj b):gj (gz .i64 a b)∧∀ i,i<6→hasB (gz .i64 a b) i=(hasB a i&&!hasB b i):=by
 obtain ⟨m,rfl,hm⟩:=ha.nat
 obtain ⟨n,rfl,hn⟩:=hb.nat
 have e:=Rg ⟨m,hm⟩ ⟨n,hn⟩
 dsimp only at e
 rw [e]
 have h:m&&& (63-n)≤m:=Nat.and_le_left
 refine ⟨⟨by omega,by omega⟩,fun i hi=>?_⟩
 have e2:=aaP ⟨n,hn⟩ ⟨i,hi⟩
 dsimp only at e2
 rw [nY,nY,nY,Nat.testBit_and,e2]
def fD (f:Nat→Bool):Nat→Int
 | 0=>0
 | k+1=>if f k=true then fD f k+2 ^ k else fD f k
theorem aaX (k:Nat) (h:k≤6):(2:Int) ^ k≤64∧1≤(2:Int) ^ k:=by
 have:k=0∨k=1∨k=2∨k=3∨k=4∨k=5∨k=6:=by omega
 rcases this with h | h | h | h | h | h | h <;> rw [h] <;> decide
theorem tg (f:Nat→Bool):∀ k:Nat,0≤fD f k∧fD f k<2 ^ k
 | 0=>by simp [fD]
 | k+1=>by
   have:=tg f k
   have hp:(2:Int) ^ (k+1)=2 ^ k*2:=Int.pow_succ 2 k
   rw [fD]
   split <;> omega
theorem zP (f:Nat→Bool) (k:Nat) (h:k≤6):gj (fD f k):=by
 have:=tg f k
 have:=aaX k h
 exact ⟨by omega,by omega⟩
theorem aay:∀ k:Fin 6,∀ a:Fin 64,a.val<2 ^ k.val→B9 .i64 (a.val:Int) (2 ^ k.val)=(a.val:Int)+2 ^ k.val:=by decide +kernel
theorem J9 (f:Nat→Bool) (k:Nat) (h:k<6):B9 .i64 (fD f k) (2 ^ k)=fD f k+2 ^ k:=by
 obtain ⟨m,hm,hl⟩:=(zP f k (by omega)).nat
 have h2:=(tg f k).2
 rw [hm] at h2 ⊢
 refine aay ⟨k,h⟩ ⟨m,hl⟩ ?_
 show m<2 ^ k
 have:(m:Int)<((2 ^ k:Nat):Int):=by simpa using h2
 omega
theorem Pa (n:Int) (h:gj n):many (n % 64)=many n:=by rw [Int.emod_eq_of_lt h.1 h.2]
theorem FG (n:Int):0≤many n∧many n≤6:=Cj n 6
def yy (p:Int×Int×Int):Int×Int×Int:=(gz .i64 p.1 (ry .i64 p.1 (-p.1)),p.2.1-1,B9 .i64 p.2.2 (ry .i64 p.1 (-p.1)))
def vW:Nat→Int×Int×Int→Int
 | 0,p=>p.2.2
 | f+1,p=>if p.1≠0∧0<p.2.1 then vW f (yy p) else p.2.2
def DP (of mx:Int):Nat→Int
 | 0=>0
 | k+1=>if hasB of k=true∧many (DP of mx k)<mx then DP of mx k+2 ^ k else DP of mx k
theorem Zj:∀ s:Fin 64,∀ m:Fin 7,vW 6 ((s.val:Int),(m.val:Int),0)=DP (s.val:Int) (m.val:Int) 6:=by decide +kernel
end Dv
namespace Dv
open Go
def sF (s:aa):Int:=fD (fun i=>me (s.nodes.getD i ai)) s.nodes.length
def kA (set v:Int) (i:Nat) (n:bp):Bool:=hasB set i&&n.up&&!n.cL&&!n.bC&&decide (n.version=v)
def fS (s:aa) (set v:Int):Int:=fD (fun i=>kA set v i (s.nodes.getD i ai)) s.nodes.length
def La:List Int:=[1,2,3,4,5,6,7,8,9]
def C9 (m:Int):List Int:=m::La.filter (fun v=>decide (v≠m))
def okV (s:aa) (j:bP) (set v:Int):Bool:=!(decide (j.pin≠0)&&decide (j.pin≠v))&&decide (j.min≤many (fS s set v))
def chs (s:aa) (j:bP) (set:Int):List Int:=((C9 (fZ s)).filter (okV s j set)).map (fS s set)
def Q8 (mx n:Int):Int:=if mx<many n then mx else many n
def tY (mx:Int) (p:Int×Int) (n:Int):Int×Int:=if p.2<Q8 mx n then (n,Q8 mx n) else p
def od (s:aa) (j:bP) (set:Int):Int×Int:=(chs s j set).foldl (tY j.max) (0,0)
def jD (s:aa) (j:bP) (set:Int):Int×Bool:=(vW 6 ((od s j set).1,j.max,0),decide (0<(od s j set).2))
section
variable (K:Int→Int) (m:Int)
end
theorem uk (s:aa) (set v:Int) (h:s.nodes.length≤6):gj (fS s set v):=zP _ _ h
theorem Sy {a m:Int} (ha:gj a) (hm:0≤m∧m≤6):vW 6 (a,m,0)=DP a m 6:=by
 obtain ⟨n,rfl,hn⟩:=ha.nat
 obtain ⟨k,rfl⟩:=Int.eq_ofNat_of_zero_le hm.1
 exact Zj ⟨n,hn⟩ ⟨k,by omega⟩
end Dv
namespace Dv
open Go
def eS (s:aa) (i:Nat):Int:=(s.jobs.getD i az).prio
def qB (s:aa) (i:Nat):Bool:=decide ((s.jobs.getD i az).phase=0)
def ED (s:aa) (i j:Nat):Bool:=decide (eS s j<eS s i∨(eS s i=eS s j∧i<j))
def oF (s:aa):List Nat:=(List.range s.jobs.length).filter (qB s)
def mM (s:aa):List Nat:=(oF s).mergeSort (fun i j=>!ED s j i)
theorem wI {s:aa} {i j:Nat} : ED s i j=true↔(eS s j<eS s i∨(eS s i=eS s j∧i<j)):=by unfold ED; rw [decide_eq_true_eq]
theorem aax (s:aa) (i:Nat):ED s i i=false:=by
 cases h:ED s i i with
 | false=>rfl
 | true=>have:=wI.1 h; omega
theorem GM {s:aa} {i j k:Nat} (h1:ED s i j=true) (h2:ED s j k=true):ED s i k=true:=by
 have:=wI.1 h1; have:=wI.1 h2
 exact wI.2 (by omega)
theorem GN {s:aa} {i j:Nat} (h:i≠j):ED s i j=true∨ED s j i=true:=by
 by_cases h1:ED s i j=true
 ·exact .inl h1
 ·refine .inr (wI.2 ?_)
  have h2:¬ (eS s j<eS s i∨(eS s i=eS s j∧i<j)):=fun h=>h1 (wI.2 h)
  omega
theorem iN {s:aa} {i:Nat} : i∈oF s↔i<s.jobs.length∧qB s i=true:=by
 unfold oF; rw [List.mem_filter,List.mem_range]
theorem th (s:aa):(mM s).Perm (oF s):=List.mergeSort_perm _ _
theorem O5 {s:aa} {i:Nat} : i∈mM s↔i<s.jobs.length∧qB s i=true:=by rw [(th s).mem_iff,iN]
end Dv
namespace Dv
open Go
def O9 (a b:Int):Int:=if b>a then b else a
def uZ (j:bP) (now:Int):Int:=if j.phase=1 then now+j.work else if j.phase=2 then O9 now (j.since+j.work) else if j.phase=3 then O9 now j.til else -1
def Vz (s:aa) (aQ now:Int):Int:=if aQ<1∨(s.jobs.length:Int)<aQ then -1 else uZ (s.jobs.getD (aQ-1).toNat az) now
def okE (e t:Int):Bool:=decide (0≤e)&&decide (e≤t)
def gR (s:aa) (aQ:Int):Bool:=decide (1≤aQ∧aQ≤(s.jobs.length:Int)∧(s.jobs.getD (aQ-1).toNat az).phase=0)
def GZ (s:aa) (now t:Int):Nat→Int
 | 0=>sF s
 | k+1=>if okE (uZ (dK s k) now) t=true then B9 .i64 (GZ s now t k) (dK s k).nodes else GZ s now t k
structure VU (j:bP):Prop where
 work:0≤j.work∧j.work≤1000000
 since:0≤j.since∧j.since≤1000000
 til:0≤j.til∧j.til≤1000000
structure tL (s:aa):Prop where
 nodes:s.nodes.length≤6
 jobs:s.jobs.length≤1000
 ends:∀ k,k<s.jobs.length→VU (dK s k)
 sets:∀ k,k<s.jobs.length→gj (dK s k).nodes
 most:∀ k,k<s.jobs.length→0≤(dK s k).max∧(dK s k).max≤6
 prio:∀ k,k<s.jobs.length→0≤eS s k∧eS s k≤1000000
theorem bR.acM {c:aC} {s:aa} (h:bR c s) (k:Nat) (hk:k<s.jobs.length):gj (dK s k).nodes:=by
 cases hp:eM (dK s k).phase with
 | false=>rw [h.idle k hk hp]; exact ⟨by decide,by decide⟩
 | true=>
   have lZ:=h.nq k hk hp
   have hl:=h.len
   have:=aaX s.nodes.length hl.2
   have h1:=lZ.lo
   have h2:=lZ.hi
   exact ⟨h1,by omega⟩
theorem KF {s:aa} {k:Nat} (hk:k<s.jobs.length) (now:Int):Vz s ((k+1:Nat):Int) now=uZ (dK s k) now:=by
 unfold Vz dK
 rw [if_neg (by omega),show (((k+1:Nat):Int)-1).toNat=k by omega]
theorem QL {j:bP} (h:VU j) {now:Int} (h0:0≤now∧now≤1000000):-1≤uZ j now∧uZ j now≤2000000:=by
 have h1:=h.work
 have h2:=h.since
 have h3:=h.til
 unfold uZ O9
 repeat' split
 all_goals omega
theorem Jt {c:aC} {j:bP} (h:mj c j=true):0≤j.work∧j.work≤1000000:=by
 unfold mj at h
 simp only [Bool.and_eq_true] at h
 have:=bh h.1.2
 omega
theorem CU {c:aC} {j:bP} (h:mj c j=true):(1≤j.min∧j.min≤j.max)∧(1≤j.max∧j.max≤c.nodes)∧(0≤j.prio∧j.prio≤9)∧(0≤j.pin∧j.pin≤9):=by
 unfold mj at h
 simp only [Bool.and_eq_true] at h
 exact ⟨bh h.1.1.1.2,bh h.1.1.2,bh h.1.1.1.1.2,bh h.2⟩
theorem bR.adD {c:aC} {s:aa} (h:bR c s) (k:Nat) (hk:k<s.jobs.length):VU (dK s k):=
 ⟨Jt (h.num k hk).asked,(h.num k hk).since,(h.num k hk).til⟩
theorem bR.fits {c:aC} {s:aa} (h:bR c s):tL s:=
 ⟨h.len.2,by have:=h.jobs; omega,h.adD,h.acM,fun k hk=>by
  have:=(CU (h.num k hk).asked).2.1
  have:=oM h.vf
  omega,fun k hk=>by
  have:=(CU (h.num k hk).asked).2.2.1
  show 0≤(dK s k).prio∧(dK s k).prio≤1000000
  omega⟩
def Ex (l:List Int) (e:Int):List Int:=if e∈l then l else l++[e]
def sQ (s:aa) (now:Int):Nat→List Int
 | 0=>[now]
 | k+1=>if 0≤uZ (dK s k) now then Ex (sQ s now k) (uZ (dK s k) now) else sQ s now k
def sU (s:aa) (now:Int):List Int:=(sQ s now s.jobs.length).mergeSort (fun x y=>decide (x≤y))
theorem O6 {l:List Int} {e x:Int} : x∈Ex l e↔x∈l∨x=e:=by
 unfold Ex
 split
 ·rename_i h
  exact ⟨.inl,by rintro (h1 | rfl); exact h1; exact h⟩
 ·simp
theorem JA {l:List Int} (h:l.Nodup) (e:Int):(Ex l e).Nodup:=by
 unfold Ex
 split
 ·exact h
 ·rename_i hn
  rw [List.nodup_append]
  exact ⟨h,by simp,fun a ha b hb=>by rw [List.mem_singleton.1 hb]; rintro rfl; exact hn ha⟩
theorem sP (s:aa) (now:Int):∀ k,(sQ s now k).Nodup
 | 0=>by simp [sQ]
 | k+1=>by
   unfold sQ
   split
   ·exact JA (sP s now k) _
   ·exact sP s now k
theorem EK (s:aa) (now:Int):∀ k,(sQ s now k).length≤k+1
 | 0=>by simp [sQ]
 | k+1=>by
   have:=EK s now k
   unfold sQ Ex
   split
   ·split <;> simp <;> omega
   ·omega
theorem G9 (s:aa) (now:Int):(sU s now).length≤s.jobs.length+1:=by
 unfold sU
 rw [List.length_mergeSort]
 exact EK s now _
end Dv
namespace Dv
open Go
def Ia (s:aa) (aQ:Int):bP:=s.jobs.getD (aQ-1).toNat az
def zI (s:aa) (aQ:Int):Int×Bool:=if gR s aQ=true then jD s (Ia s aQ) (sF s) else (0,false)
def oU (s:aa) (j:bP) (now:Int):List Int→Int×Int×Bool
 | []=>(0,0,false)
 | t::l=>if (jD s j (GZ s now t s.jobs.length)).2=true then (t,(jD s j (GZ s now t s.jobs.length)).1,true) else oU s j now l
def xP (s:aa) (aQ now:Int):Int×Int×Bool:=if gR s aQ=true then oU s (Ia s aQ) now (sU s now) else (0,0,false)
def pO (s:aa):Int:=(((mM s).getD 0 0+1:Nat):Int)
def xA (s:aa) (aQ now:Int):Int×Bool:=
 if gR s aQ=false∨pO s=aQ then (0,false)
 else if (jD s (Ia s aQ) (gz .i64 (sF s) (xP s (pO s) now).2.1)).2=true then ((jD s (Ia s aQ) (gz .i64 (sF s) (xP s (pO s) now).2.1)).1,true)
 else if (xP s (pO s) now).2.2=false∨(zI s aQ).2=false∨(xP s (pO s) now).1<now+(Ia s aQ).work then (0,false) else ((zI s aQ).1,true)
def nA (Sr fill:Int→Int×Bool):List Nat→Nat→Int×Int×Bool
 | [],_=>(0,0,false)
 | k::l,0=>if (Sr ((k+1:Nat):Int)).2=true then (((k+1:Nat):Int),(Sr ((k+1:Nat):Int)).1,true) else nA Sr fill l 1
 | k::l,i+1=>if (fill ((k+1:Nat):Int)).2=true then (((k+1:Nat):Int),(fill ((k+1:Nat):Int)).1,true) else nA Sr fill l (i+2)
def ru (s:aa) (now:Int):Int×Int×Bool:=nA (zI s) (fun k=>xA s k now) (mM s) 0
theorem qC {s:aa} {aQ:Int} : gR s aQ=true↔∃ i:Nat,aQ=((i+1:Nat):Int)∧i∈oF s:=by
 unfold gR
 rw [decide_eq_true_eq]
 constructor
 ·rintro ⟨h1,h2,h3⟩
  refine ⟨(aQ-1).toNat,by omega,iN.2 ⟨by omega,?_⟩⟩
  unfold qB; rw [decide_eq_true_eq]; exact h3
 ·rintro ⟨i,rfl,hi⟩
  obtain ⟨h1,h2⟩:=iN.1 hi
  refine ⟨by omega,by omega,?_⟩
  rw [show (((i+1:Nat):Int)-1).toNat=i by omega]
  unfold qB at h2; exact of_decide_eq_true h2
theorem yz (s:aa) (i:Nat):Ia s ((i+1:Nat):Int)=dK s i:=by
 unfold Ia dK
 rw [show (((i+1:Nat):Int)-1).toNat=i by omega]
theorem Ze {s:aa} {j:bP} (set:Int) (hn:s.nodes.length≤6) (hm:0≤j.max∧j.max≤6) (hb:gj (od s j set).1):jD s j set=(DP (od s j set).1 j.max 6,(jD s j set).2):=by
 unfold jD
 rw [Sy hb hm]
theorem IL {s:aa} (h:s.nodes.length≤6):gj (sF s):=zP _ _ h
theorem KB (s:aa) (j:bP) (now:Int) (hp:∀ set,gj (jD s j set).1):∀ l:List Int,gj (oU s j now l).2.1
 | []=>(⟨by decide,by decide⟩:gj 0)
 | t::l=>by
   unfold oU
   split
   ·exact hp _
   ·exact KB s j now hp l
theorem Ol (s:aa) (aQ now:Int) (hp:∀ j,j∈s.jobs→∀ set,gj (jD s j set).1):gj (xP s aQ now).2.1:=by
 unfold xP
 split
 ·rename_i hq
  obtain ⟨i,rfl,hi⟩:=qC.1 hq
  have hlt:=(iN.1 hi).1
  refine KB _ _ _ (hp _ ?_) _
  rw [yz]
  unfold dK
  have e:s.jobs.getD i az=s.jobs[i]:=by simp [List.getD,hlt]
  rw [e]
  exact List.getElem_mem hlt
 ·exact ⟨by decide,by decide⟩
theorem JI (mx:Int):∀ (l:List Int) (p:Int×Int),gj p.1→(∀ n∈l,gj n)→gj (l.foldl (tY mx) p).1
 | [],p,h,_=>h
 | n::l,p,h,hl=>JI mx l _ (by
    unfold tY
    split
    ·exact hl n List.mem_cons_self
    ·exact h) (fun m hm=>hl m (List.mem_cons_of_mem _ hm))
theorem Pd (of mx:Int):∀ k:Nat,k≤6→0≤DP of mx k∧DP of mx k<2 ^ k
 | 0,_=>(by decide:(0:Int)≤0∧(0:Int)<2 ^ 0)
 | k+1,hk=>by
   have ih:=Pd of mx k (by omega)
   have h2:(2:Int) ^ (k+1)=2 ^ k*2:=Int.pow_succ 2 k
   have:(0:Int)<2 ^ k:=Int.pow_pos (by decide)
   unfold DP
   split <;> omega
theorem Sa {s:aa} (h:tL s) {j:bP} (hj:0≤j.max∧j.max≤6) (set:Int):gj (jD s j set).1:=by
 have hb:gj (od s j set).1:=JI _ _ _ ⟨by decide,by decide⟩ (fun n hn=>by
  unfold chs at hn
  obtain ⟨v,_,rfl⟩:=List.mem_map.1 hn
  exact uk s set v h.nodes)
 rw [Ze set h.nodes hj hb]
 have:=Pd (od s j set).1 j.max 6 (Nat.le_refl _)
 exact ⟨this.1,this.2⟩
theorem tL.mem {s:aa} (h:tL s) {j:bP} (hj:j∈s.jobs):0≤j.max∧j.max≤6:=by
 obtain ⟨k,hk,rfl⟩:=List.getElem_of_mem hj
 have:=h.most k hk
 unfold dK at this
 rw [show s.jobs.getD k az=s.jobs[k] by simp [List.getD,hk]] at this
 exact this
theorem tL.Ol {s:aa} (h:tL s) (aQ now:Int):gj (xP s aQ now).2.1:=Dv.Ol s aQ now (fun j hj set=>Sa h (h.mem hj) set)
theorem YR {s:aa} (h:tL s) (now t:Int):∀ k,k≤s.jobs.length→gj (GZ s now t k)
 | 0,_=>IL h.nodes
 | k+1,hk=>by
   have ih:=YR h now t k (by omega)
   unfold GZ
   split
   ·exact (V_ ih (h.sets k (by omega))).1
   ·exact ih
end Dv
