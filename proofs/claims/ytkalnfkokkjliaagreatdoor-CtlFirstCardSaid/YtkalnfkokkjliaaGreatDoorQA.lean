/- The logical machine and its plain laws: parts Q1, Q2, Q3, Q4, Q5, proved sound. -/
import Derived.Test.YtkalnfkokkjliaaGreatDoorPA
import Derived.Test.YtkalnfkokkjliaaGreatDoorDB
set_option linter.unusedVariables false
set_option linter.unusedSimpArgs false
namespace Dv
open Go
theorem lK (n i:Nat):hasB (n:Int) i=n.testBit i:=by
 unfold hasB
 rw [Nat.testBit_eq_decide_div_mod_eq]
 rw [Bool.eq_iff_iff,decide_eq_true_eq,decide_eq_true_eq]
 rw [show ((2:Int) ^ i)=((2 ^ i:Nat):Int) by simp,← Int.natCast_ediv,show ((2:Int))=((2:Nat):Int) from rfl,← Int.natCast_emod]
 omega
def fh (n:Int):Prop:=0≤n∧n<64
theorem fh.nat {n:Int} (h:fh n):∃ m:Nat,n=m∧m<64:=by
 obtain ⟨m,rfl⟩:=Int.eq_ofNat_of_zero_le h.1
 exact ⟨m,rfl,by have:=h.2; omega⟩
theorem Mb (a b:Nat) (ha:a<64) (hb:b<64):yA .i64 (a:Int) (b:Int)=((a||| b:Nat):Int):=by
 have h:a||| b<2 ^ 6:=Nat.or_lt_two_pow (n:=6) ha hb
 unfold yA
 rw [show IntKind.i64.bits=64 from rfl,BitVec.toNat_or,BitVec.ofInt_natCast,BitVec.ofInt_natCast,BitVec.toNat_ofNat,BitVec.toNat_ofNat,Nat.mod_eq_of_lt (by omega),Nat.mod_eq_of_lt (by omega),qE _ (by omega)]
theorem PK {a b:Int} (ha:fh a) (hb:fh b):fh (yA .i64 a b)∧∀ i,hasB (yA .i64 a b) i=(hasB a i||hasB b i):=by
 obtain ⟨m,rfl,hm⟩:=ha.nat
 obtain ⟨n,rfl,hn⟩:=hb.nat
 have h:m||| n<2 ^ 6:=Nat.or_lt_two_pow (n:=6) hm hn
 rw [Mb m n hm hn]
 refine ⟨⟨by omega,by omega⟩,fun i=>?_⟩
 rw [lK,lK,lK,Nat.testBit_or]
theorem Lp:∀ a b:Fin 64,fC .i64 (a.val:Int) (b.val:Int)=((a.val&&& (63-b.val):Nat):Int):=by decide +kernel
theorem UU:∀ b:Fin 64,∀ i:Fin 6,(63-b.val).testBit i.val = !b.val.testBit i.val:=by decide +kernel
theorem HY {a b:Int} (ha:fh a) (hb:fh b):fh (fC .i64 a b)∧∀ i,i<6→hasB (fC .i64 a b) i=(hasB a i&&!hasB b i):=by
 obtain ⟨m,rfl,hm⟩:=ha.nat
 obtain ⟨n,rfl,hn⟩:=hb.nat
 have e:=Lp ⟨m,hm⟩ ⟨n,hn⟩
 dsimp only at e
 rw [e]
 have h:m&&& (63-n)≤m:=Nat.and_le_left
 refine ⟨⟨by omega,by omega⟩,fun i hi=>?_⟩
 have e2:=UU ⟨n,hn⟩ ⟨i,hi⟩
 dsimp only at e2
 rw [lK,lK,lK,Nat.testBit_and,e2]
def eL (f:Nat→Bool):Nat→Int
 | 0=>0
 | k+1=>if f k=true then eL f k+2 ^ k else eL f k
theorem U4 (k:Nat) (h:k≤6):(2:Int) ^ k≤64∧1≤(2:Int) ^ k:=by
 have:k=0∨k=1∨k=2∨k=3∨k=4∨k=5∨k=6:=by omega
 rcases this with h | h | h | h | h | h | h <;> rw [h] <;> decide
theorem pY (f:Nat→Bool):∀ k:Nat,0≤eL f k∧eL f k<2 ^ k
 | 0=>by simp [eL]
 | k+1=>by
   have:=pY f k
   have hp:(2:Int) ^ (k+1)=2 ^ k*2:=Int.pow_succ 2 k
   rw [eL]
   split <;> omega
theorem vW (f:Nat→Bool) (k:Nat) (h:k≤6):fh (eL f k):=by
 have:=pY f k
 have:=U4 k h
 exact ⟨by omega,by omega⟩
theorem Ui:∀ k:Fin 6,∀ a:Fin 64,a.val<2 ^ k.val→yA .i64 (a.val:Int) (2 ^ k.val)=(a.val:Int)+2 ^ k.val:=by decide +kernel
theorem Fc (f:Nat→Bool) (k:Nat) (h:k<6):yA .i64 (eL f k) (2 ^ k)=eL f k+2 ^ k:=by
 obtain ⟨m,hm,hl⟩:=(vW f k (by omega)).nat
 have h2:=(pY f k).2
 rw [hm] at h2 ⊢
 refine Ui ⟨k,h⟩ ⟨m,hl⟩ ?_
 show m<2 ^ k
 have:(m:Int)<((2 ^ k:Nat):Int):=by simpa using h2
 omega
theorem JN (n:Int) (h:fh n):many (n % 64)=many n:=by rw [Int.emod_eq_of_lt h.1 h.2]
theorem BA (n:Int):0≤many n∧many n≤6:=yG n 6
def uO (p:Int×Int×Int):Int×Int×Int:=(fC .i64 p.1 (rY .i64 p.1 (-p.1)),p.2.1-1,yA .i64 p.2.2 (rY .i64 p.1 (-p.1)))
def sW:Nat→Int×Int×Int→Int
 | 0,p=>p.2.2
 | f+1,p=>if p.1≠0∧0<p.2.1 then sW f (uO p) else p.2.2
def zU (of mx:Int):Nat→Int
 | 0=>0
 | k+1=>if hasB of k=true∧many (zU of mx k)<mx then zU of mx k+2 ^ k else zU of mx k
theorem SQ:∀ s:Fin 64,∀ m:Fin 7,sW 6 ((s.val:Int),(m.val:Int),0)=zU (s.val:Int) (m.val:Int) 6:=by decide +kernel
end Dv
namespace Dv
open Go
def pE (s:aa):Int:=eL (fun i=>jW (s.nodes.getD i ag)) s.nodes.length
def iY (set v:Int) (i:Nat) (n:bK):Bool:=hasB set i&&n.up&&!n.ct&&!n.bu&&decide (n.version=v)
def eY (s:aa) (set v:Int):Int:=eL (fun i=>iY set v i (s.nodes.getD i ag)) s.nodes.length
def F2:List Int:=[1,2,3,4,5,6,7,8,9]
def zc (m:Int):List Int:=m::F2.filter (fun v=>decide (v≠m))
def okV (s:aa) (j:bU) (set v:Int):Bool:=!(decide (j.pin≠0)&&decide (j.pin≠v))&&decide (j.min≤many (eY s set v))
def Zb (s:aa) (j:bU) (set:Int):List Int:=((zc (fk s)).filter (okV s j set)).map (eY s set)
def Lh (mx n:Int):Int:=if mx<many n then mx else many n
def qM (mx:Int) (p:Int×Int) (n:Int):Int×Int:=if p.2<Lh mx n then (n,Lh mx n) else p
def lP (s:aa) (j:bU) (set:Int):Int×Int:=(Zb s j set).foldl (qM j.max) (0,0)
def iq (s:aa) (j:bU) (set:Int):Int×Bool:=(sW 6 ((lP s j set).1,j.max,0),decide (0<(lP s j set).2))
section
variable (K:Int→Int) (m:Int)
end
theorem qW (s:aa) (set v:Int) (h:s.nodes.length≤6):fh (eY s set v):=vW _ _ h
theorem Mp {a m:Int} (ha:fh a) (hm:0≤m∧m≤6):sW 6 (a,m,0)=zU a m 6:=by
 obtain ⟨n,rfl,hn⟩:=ha.nat
 obtain ⟨k,rfl⟩:=Int.eq_ofNat_of_zero_le hm.1
 exact SQ ⟨n,hn⟩ ⟨k,by omega⟩
end Dv
namespace Dv
open Go
def ee (s:aa) (i:Nat):Int:=(s.jobs.getD i ax).prio
def qB (s:aa) (i:Nat):Bool:=decide ((s.jobs.getD i ax).phase=0)
def AM (s:aa) (i j:Nat):Bool:=decide (ee s j<ee s i∨(ee s i=ee s j∧i<j))
def l8 (s:aa):List Nat:=(List.range s.jobs.length).filter (qB s)
def kr (s:aa):List Nat:=(l8 s).mergeSort (fun i j=>!AM s j i)
theorem tw {s:aa} {i j:Nat} : AM s i j=true↔(ee s j<ee s i∨(ee s i=ee s j∧i<j)):=by unfold AM; rw [decide_eq_true_eq]
theorem Uh (s:aa) (i:Nat):AM s i i=false:=by
 cases h:AM s i i with
 | false=>rfl
 | true=>have:=tw.1 h; omega
theorem Cv {s:aa} {i j k:Nat} (h1:AM s i j=true) (h2:AM s j k=true):AM s i k=true:=by
 have:=tw.1 h1; have:=tw.1 h2
 exact tw.2 (by omega)
theorem Cw {s:aa} {i j:Nat} (h:i≠j):AM s i j=true∨AM s j i=true:=by
 by_cases h1:AM s i j=true
 ·exact .inl h1
 ·refine .inr (tw.2 ?_)
  have h2:¬ (ee s j<ee s i∨(ee s i=ee s j∧i<j)):=fun h=>h1 (tw.2 h)
  omega
theorem gz {s:aa} {i:Nat} : i∈l8 s↔i<s.jobs.length∧qB s i=true:=by
 unfold l8; rw [List.mem_filter,List.mem_range]
theorem pZ (s:aa):(kr s).Perm (l8 s):=List.mergeSort_perm _ _
theorem JH {s:aa} {i:Nat} : i∈kr s↔i<s.jobs.length∧qB s i=true:=by rw [(pZ s).mem_iff,gz]
end Dv
namespace Dv
open Go
def JL (a b:Int):Int:=if b>a then b else a
def rP (j:bU) (now:Int):Int:=if j.phase=1 then now+j.work else if j.phase=2 then JL now (j.since+j.work) else if j.phase=3 then JL now j.til else -1
def Pa (s:aa) (aN now:Int):Int:=if aN<1∨(s.jobs.length:Int)<aN then -1 else rP (s.jobs.getD (aN-1).toNat ax) now
def Xw (e t:Int):Bool:=decide (0≤e)&&decide (e≤t)
def fS (s:aa) (aN:Int):Bool:=decide (1≤aN∧aN≤(s.jobs.length:Int)∧(s.jobs.getD (aN-1).toNat ax).phase=0)
def CJ (s:aa) (now t:Int):Nat→Int
 | 0=>pE s
 | k+1=>if Xw (rP (cZ s k) now) t=true then yA .i64 (CJ s now t k) (cZ s k).nodes else CJ s now t k
structure Py (j:bU):Prop where
 work:0≤j.work∧j.work≤1000000
 since:0≤j.since∧j.since≤1000000
 til:0≤j.til∧j.til≤1000000
structure qD (s:aa):Prop where
 nodes:s.nodes.length≤6
 jobs:s.jobs.length≤1000
 ends:∀ k,k<s.jobs.length→Py (cZ s k)
 sets:∀ k,k<s.jobs.length→fh (cZ s k).nodes
 most:∀ k,k<s.jobs.length→0≤(cZ s k).max∧(cZ s k).max≤6
 prio:∀ k,k<s.jobs.length→0≤ee s k∧ee s k≤1000000
theorem bT.X0 {c:aH} {s:aa} (h:bT c s) (k:Nat) (hk:k<s.jobs.length):fh (cZ s k).nodes:=by
 cases hp:dW (cZ s k).phase with
 | false=>rw [h.idle k hk hp]; exact ⟨by decide,by decide⟩
 | true=>
   have mq:=h.kR k hk hp
   have hl:=h.len
   have:=U4 s.nodes.length hl.2
   have h1:=mq.lo
   have h2:=mq.hi
   exact ⟨h1,by omega⟩
theorem FH {s:aa} {k:Nat} (hk:k<s.jobs.length) (now:Int):Pa s ((k+1:Nat):Int) now=rP (cZ s k) now:=by
 unfold Pa cZ
 rw [if_neg (by omega),show (((k+1:Nat):Int)-1).toNat=k by omega]
theorem K7 {j:bU} (h:Py j) {now:Int} (h0:0≤now∧now≤1000000):-1≤rP j now∧rP j now≤2000000:=by
 have h1:=h.work
 have h2:=h.since
 have h3:=h.til
 unfold rP JL
 repeat' split
 all_goals omega
theorem Ey {c:aH} {j:bU} (h:jX c j=true):0≤j.work∧j.work≤1000000:=by
 unfold jX at h
 simp only [Bool.and_eq_true] at h
 have:=aS h.1.2
 omega
theorem za {c:aH} {j:bU} (h:jX c j=true):(1≤j.min∧j.min≤j.max)∧(1≤j.max∧j.max≤c.nodes)∧(0≤j.prio∧j.prio≤9)∧(0≤j.pin∧j.pin≤9):=by
 unfold jX at h
 simp only [Bool.and_eq_true] at h
 exact ⟨aS h.1.1.1.2,aS h.1.1.2,aS h.1.1.1.1.2,aS h.2⟩
theorem bT.Y_ {c:aH} {s:aa} (h:bT c s) (k:Nat) (hk:k<s.jobs.length):Py (cZ s k):=
 ⟨Ey (h.num k hk).asked,(h.num k hk).since,(h.num k hk).til⟩
theorem bT.fits {c:aH} {s:aa} (h:bT c s):qD s:=
 ⟨h.len.2,by have:=h.jobs; omega,h.Y_,h.X0,fun k hk=>by
  have:=(za (h.num k hk).asked).2.1
  have:=mg h.tn
  omega,fun k hk=>by
  have:=(za (h.num k hk).asked).2.2.1
  show 0≤(cZ s k).prio∧(cZ s k).prio≤1000000
  omega⟩
def AE (l:List Int) (e:Int):List Int:=if e∈l then l else l++[e]
def pL (s:aa) (now:Int):Nat→List Int
 | 0=>[now]
 | k+1=>if 0≤rP (cZ s k) now then AE (pL s now k) (rP (cZ s k) now) else pL s now k
def pN (s:aa) (now:Int):List Int:=(pL s now s.jobs.length).mergeSort (fun x y=>decide (x≤y))
theorem JI {l:List Int} {e x:Int} : x∈AE l e↔x∈l∨x=e:=by
 unfold AE
 split
 ·rename_i h
  exact ⟨.inl,by rintro (h1 | rfl); exact h1; exact h⟩
 ·simp
theorem ED {l:List Int} (h:l.Nodup) (e:Int):(AE l e).Nodup:=by
 unfold AE
 split
 ·exact h
 ·rename_i hn
  rw [List.nodup_append]
  exact ⟨h,by simp,fun a ha b hb=>by rw [List.mem_singleton.1 hb]; rintro rfl; exact hn ha⟩
theorem pK (s:aa) (now:Int):∀ k,(pL s now k).Nodup
 | 0=>by simp [pL]
 | k+1=>by
   unfold pL
   split
   ·exact ED (pK s now k) _
   ·exact pK s now k
theorem AU (s:aa) (now:Int):∀ k,(pL s now k).length≤k+1
 | 0=>by simp [pL]
 | k+1=>by
   have:=AU s now k
   unfold pL AE
   split
   ·split <;> simp <;> omega
   ·omega
theorem CT (s:aa) (now:Int):(pN s now).length≤s.jobs.length+1:=by
 unfold pN
 rw [List.length_mergeSort]
 exact AU s now _
end Dv
namespace Dv
open Go
def DG (s:aa) (aN:Int):bU:=s.jobs.getD (aN-1).toNat ax
def vM (s:aa) (aN:Int):Int×Bool:=if fS s aN=true then iq s (DG s aN) (pE s) else (0,false)
def mz (s:aa) (j:bU) (now:Int):List Int→Int×Int×Bool
 | []=>(0,0,false)
 | t::l=>if (iq s j (CJ s now t s.jobs.length)).2=true then (t,(iq s j (CJ s now t s.jobs.length)).1,true) else mz s j now l
def uu (s:aa) (aN now:Int):Int×Int×Bool:=if fS s aN=true then mz s (DG s aN) now (pN s now) else (0,0,false)
def mV (s:aa):Int:=(((kr s).getD 0 0+1:Nat):Int)
def uc (s:aa) (aN now:Int):Int×Bool:=
 if fS s aN=false∨mV s=aN then (0,false)
 else if (iq s (DG s aN) (fC .i64 (pE s) (uu s (mV s) now).2.1)).2=true then ((iq s (DG s aN) (fC .i64 (pE s) (uu s (mV s) now).2.1)).1,true)
 else if (uu s (mV s) now).2.2=false∨(vM s aN).2=false∨(uu s (mV s) now).1<now+(DG s aN).work then (0,false) else ((vM s aN).1,true)
def kT (Mj fill:Int→Int×Bool):List Nat→Nat→Int×Int×Bool
 | [],_=>(0,0,false)
 | k::l,0=>if (Mj ((k+1:Nat):Int)).2=true then (((k+1:Nat):Int),(Mj ((k+1:Nat):Int)).1,true) else kT Mj fill l 1
 | k::l,i+1=>if (fill ((k+1:Nat):Int)).2=true then (((k+1:Nat):Int),(fill ((k+1:Nat):Int)).1,true) else kT Mj fill l (i+2)
def oh (s:aa) (now:Int):Int×Int×Bool:=kT (vM s) (fun k=>uc s k now) (kr s) 0
theorem nO {s:aa} {aN:Int} : fS s aN=true↔∃ i:Nat,aN=((i+1:Nat):Int)∧i∈l8 s:=by
 unfold fS
 rw [decide_eq_true_eq]
 constructor
 ·rintro ⟨h1,h2,h3⟩
  refine ⟨(aN-1).toNat,by omega,gz.2 ⟨by omega,?_⟩⟩
  unfold qB; rw [decide_eq_true_eq]; exact h3
 ·rintro ⟨i,rfl,hi⟩
  obtain ⟨h1,h2⟩:=gz.1 hi
  refine ⟨by omega,by omega,?_⟩
  rw [show (((i+1:Nat):Int)-1).toNat=i by omega]
  unfold qB at h2; exact of_decide_eq_true h2
theorem uP (s:aa) (i:Nat):DG s ((i+1:Nat):Int)=cZ s i:=by
 unfold DG cZ
 rw [show (((i+1:Nat):Int)-1).toNat=i by omega]
theorem SK {s:aa} {j:bU} (set:Int) (hn:s.nodes.length≤6) (hm:0≤j.max∧j.max≤6) (hb:fh (lP s j set).1):iq s j set=(zU (lP s j set).1 j.max 6,(iq s j set).2):=by
 unfold iq
 rw [Mp hb hm]
theorem D7 {s:aa} (h:s.nodes.length≤6):fh (pE s):=vW _ _ h
theorem FD (s:aa) (j:bU) (now:Int) (hp:∀ set,fh (iq s j set).1):∀ l:List Int,fh (mz s j now l).2.1
 | []=>(⟨by decide,by decide⟩:fh 0)
 | t::l=>by
   unfold mz
   split
   ·exact hp _
   ·exact FD s j now hp l
theorem I8 (s:aa) (aN now:Int) (hp:∀ j,j∈s.jobs→∀ set,fh (iq s j set).1):fh (uu s aN now).2.1:=by
 unfold uu
 split
 ·rename_i hq
  obtain ⟨i,rfl,hi⟩:=nO.1 hq
  have hlt:=(gz.1 hi).1
  refine FD _ _ _ (hp _ ?_) _
  rw [uP]
  unfold cZ
  have e:s.jobs.getD i ax=s.jobs[i]:=by simp [List.getD,hlt]
  rw [e]
  exact List.getElem_mem hlt
 ·exact ⟨by decide,by decide⟩
theorem EK (mx:Int):∀ (l:List Int) (p:Int×Int),fh p.1→(∀ n∈l,fh n)→fh (l.foldl (qM mx) p).1
 | [],p,h,_=>h
 | n::l,p,h,hl=>EK mx l _ (by
    unfold qM
    split
    ·exact hl n List.mem_cons_self
    ·exact h) (fun m hm=>hl m (List.mem_cons_of_mem _ hm))
theorem JR (of mx:Int):∀ k:Nat,k≤6→0≤zU of mx k∧zU of mx k<2 ^ k
 | 0,_=>(by decide:(0:Int)≤0∧(0:Int)<2 ^ 0)
 | k+1,hk=>by
   have ih:=JR of mx k (by omega)
   have h2:(2:Int) ^ (k+1)=2 ^ k*2:=Int.pow_succ 2 k
   have:(0:Int)<2 ^ k:=Int.pow_pos (by decide)
   unfold zU
   split <;> omega
theorem L8 {s:aa} (h:qD s) {j:bU} (hj:0≤j.max∧j.max≤6) (set:Int):fh (iq s j set).1:=by
 have hb:fh (lP s j set).1:=EK _ _ _ ⟨by decide,by decide⟩ (fun n hn=>by
  unfold Zb at hn
  obtain ⟨v,_,rfl⟩:=List.mem_map.1 hn
  exact qW s set v h.nodes)
 rw [SK set h.nodes hj hb]
 have:=JR (lP s j set).1 j.max 6 (Nat.le_refl _)
 exact ⟨this.1,this.2⟩
theorem qD.mem {s:aa} (h:qD s) {j:bU} (hj:j∈s.jobs):0≤j.max∧j.max≤6:=by
 obtain ⟨k,hk,rfl⟩:=List.getElem_of_mem hj
 have:=h.most k hk
 unfold cZ at this
 rw [show s.jobs.getD k ax=s.jobs[k] by simp [List.getD,hk]] at this
 exact this
theorem qD.I8 {s:aa} (h:qD s) (aN now:Int):fh (uu s aN now).2.1:=Dv.I8 s aN now (fun j hj set=>L8 h (h.mem hj) set)
theorem Sq {s:aa} (h:qD s) (now t:Int):∀ k,k≤s.jobs.length→fh (CJ s now t k)
 | 0,_=>D7 h.nodes
 | k+1,hk=>by
   have ih:=Sq h now t k (by omega)
   unfold CJ
   split
   ·exact (PK ih (h.sets k (by omega))).1
   ·exact ih
end Dv
