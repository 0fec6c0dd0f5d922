/- part -/
import Derived.Test.YtkalnfkokkjliaaGreatDoorPA
import Derived.Test.YtkalnfkokkjliaaGreatDoorDB
set_option linter.all false
namespace Dv
open Go
theorem nH (n i:Nat):hasB (n:Int) i=n.testBit i:=by
 unfold hasB
 rw [Nat.testBit_eq_decide_div_mod_eq]
 rw [Bool.eq_iff_iff,decide_eq_true_eq,decide_eq_true_eq]
 rw [show ((2:Int) ^ i)=((2 ^ i:Nat):Int) by simp,← Int.natCast_ediv,show ((2:Int))=((2:Nat):Int) from rfl,← Int.natCast_emod]
 omega
def fS (n:Int):Prop:=0≤n∧n<64
theorem fS.nat {n:Int} (h:fS n):∃ m:Nat,n=m∧m<64:=by
 obtain ⟨m,rfl⟩:=Int.eq_ofNat_of_zero_le h.1
 exact ⟨m,rfl,by have:=h.2; omega⟩
theorem RB (a b:Nat) (ha:a<64) (hb:b<64):BK .i64 (a:Int) (b:Int)=((a||| b:Nat):Int):=by
 have h:a||| b<2 ^ 6:=Nat.or_lt_two_pow (n:=6) ha hb
 unfold BK
 rw [show IntKind.i64.bits=64 from rfl,BitVec.toNat_or,BitVec.ofInt_natCast,BitVec.ofInt_natCast,BitVec.toNat_ofNat,BitVec.toNat_ofNat,Nat.mod_eq_of_lt (by omega),Nat.mod_eq_of_lt (by omega),tC _ (by omega)]
theorem Vq {a b:Int} (ha:fS a) (hb:fS b):fS (BK .i64 a b)∧∀ i,hasB (BK .i64 a b) i=(hasB a i||hasB b i):=by
 obtain ⟨m,rfl,hm⟩:=ha.nat
 obtain ⟨n,rfl,hn⟩:=hb.nat
 have h:m||| n<2 ^ 6:=Nat.or_lt_two_pow (n:=6) hm hn
 rw [RB m n hm hn]
 refine ⟨⟨by omega,by omega⟩,fun i=>?_⟩
 rw [nH,nH,nH,Nat.testBit_or]
theorem Qv:∀ a b:Fin 64,gr .i64 (a.val:Int) (b.val:Int)=((a.val&&& (63-b.val):Nat):Int):=by decide +kernel
theorem aas:∀ b:Fin 64,∀ i:Fin 6,(63-b.val).testBit i.val = !b.val.testBit i.val:=by decide +kernel
theorem MJ {a b:Int} (ha:fS a) (hb:fS b):fS (gr .i64 a b)∧∀ i,i<6→hasB (gr .i64 a b) i=(hasB a i&&!hasB b i):=by
 obtain ⟨m,rfl,hm⟩:=ha.nat
 obtain ⟨n,rfl,hn⟩:=hb.nat
 have e:=Qv ⟨m,hm⟩ ⟨n,hn⟩
 dsimp only at e
 rw [e]
 have h:m&&& (63-n)≤m:=Nat.and_le_left
 refine ⟨⟨by omega,by omega⟩,fun i hi=>?_⟩
 have e2:=aas ⟨n,hn⟩ ⟨i,hi⟩
 dsimp only at e2
 rw [nH,nH,nH,Nat.testBit_and,e2]
def fh (f:Nat→Bool):Nat→Int
 | 0=>0
 | k+1=>if f k=true then fh f k+2 ^ k else fh f k
theorem aaB (k:Nat) (h:k≤6):(2:Int) ^ k≤64∧1≤(2:Int) ^ k:=by
 have:k=0∨k=1∨k=2∨k=3∨k=4∨k=5∨k=6:=by omega
 rcases this with h | h | h | h | h | h | h <;> rw [h] <;> decide
theorem sQ (f:Nat→Bool):∀ k:Nat,0≤fh f k∧fh f k<2 ^ k
 | 0=>by simp [fh]
 | k+1=>by
   have:=sQ f k
   have hp:(2:Int) ^ (k+1)=2 ^ k*2:=Int.pow_succ 2 k
   rw [fh]
   split <;> omega
theorem zz (f:Nat→Bool) (k:Nat) (h:k≤6):fS (fh f k):=by
 have:=sQ f k
 have:=aaB k h
 exact ⟨by omega,by omega⟩
theorem Z_:∀ k:Fin 6,∀ a:Fin 64,a.val<2 ^ k.val→BK .i64 (a.val:Int) (2 ^ k.val)=(a.val:Int)+2 ^ k.val:=by decide +kernel
theorem Jv (f:Nat→Bool) (k:Nat) (h:k<6):BK .i64 (fh f k) (2 ^ k)=fh f k+2 ^ k:=by
 obtain ⟨m,hm,hl⟩:=(zz f k (by omega)).nat
 have h2:=(sQ f k).2
 rw [hm] at h2 ⊢
 refine Z_ ⟨k,h⟩ ⟨m,hl⟩ ?_
 show m<2 ^ k
 have:(m:Int)<((2 ^ k:Nat):Int):=by simpa using h2
 omega
theorem OC (n:Int) (h:fS n):many (n % 64)=many n:=by rw [Int.emod_eq_of_lt h.1 h.2]
theorem EZ (n:Int):0≤many n∧many n≤6:=BT n 6
def ya (p:Int×Int×Int):Int×Int×Int:=(gr .i64 p.1 (qL .i64 p.1 (-p.1)),p.2.1-1,BK .i64 p.2.2 (qL .i64 p.1 (-p.1)))
def vN:Nat→Int×Int×Int→Int
 | 0,p=>p.2.2
 | f+1,p=>if p.1≠0∧0<p.2.1 then vN f (ya p) else p.2.2
def Df (of mx:Int):Nat→Int
 | 0=>0
 | k+1=>if hasB of k=true∧many (Df of mx k)<mx then Df of mx k+2 ^ k else Df of mx k
theorem YI:∀ s:Fin 64,∀ m:Fin 7,vN 6 ((s.val:Int),(m.val:Int),0)=Df (s.val:Int) (m.val:Int) 6:=by decide +kernel
end Dv
namespace Dv
open Go
def rY (s:aa):Int:=fh (fun i=>lM (s.nodes.getD i ai)) s.nodes.length
def kn (set v:Int) (i:Nat) (n:a_):Bool:=hasB set i&&n.up&&!n.cF&&!n.bw&&decide (n.version=v)
def fI (s:aa) (set v:Int):Int:=fh (fun i=>kn set v i (s.nodes.getD i ai)) s.nodes.length
def Kx:List Int:=[1,2,3,4,5,6,7,8,9]
def Cv (m:Int):List Int:=m::Kx.filter (fun v=>decide (v≠m))
def okV (s:aa) (j:bP) (set v:Int):Bool:=!(decide (j.pin≠0)&&decide (j.pin≠v))&&decide (j.min≤many (fI s set v))
def chs (s:aa) (j:bP) (set:Int):List Int:=((Cv (fM s)).filter (okV s j set)).map (fI s set)
def Qk (mx n:Int):Int:=if mx<many n then mx else many n
def tL (mx:Int) (p:Int×Int) (n:Int):Int×Int:=if p.2<Qk mx n then (n,Qk mx n) else p
def nM (s:aa) (j:bP) (set:Int):Int×Int:=(chs s j set).foldl (tL j.max) (0,0)
def jk (s:aa) (j:bP) (set:Int):Int×Bool:=(vN 6 ((nM s j set).1,j.max,0),decide (0<(nM s j set).2))
section
variable (K:Int→Int) (m:Int)
end
theorem tW (s:aa) (set v:Int) (h:s.nodes.length≤6):fS (fI s set v):=zz _ _ h
theorem RT {a m:Int} (ha:fS a) (hm:0≤m∧m≤6):vN 6 (a,m,0)=Df a m 6:=by
 obtain ⟨n,rfl,hn⟩:=ha.nat
 obtain ⟨k,rfl⟩:=Int.eq_ofNat_of_zero_le hm.1
 exact YI ⟨n,hn⟩ ⟨k,by omega⟩
end Dv
namespace Dv
open Go
def eE (s:aa) (i:Nat):Int:=(s.jobs.getD i aD).prio
def qB (s:aa) (i:Nat):Bool:=decide ((s.jobs.getD i aD).phase=0)
def DT (s:aa) (i j:Nat):Bool:=decide (eE s j<eE s i∨(eE s i=eE s j∧i<j))
def oe (s:aa):List Nat:=(List.range s.jobs.length).filter (qB s)
def mA (s:aa):List Nat:=(oe s).mergeSort (fun i j=>!DT s j i)
theorem wj {s:aa} {i j:Nat} : DT s i j=true↔(eE s j<eE s i∨(eE s i=eE s j∧i<j)):=by unfold DT; rw [decide_eq_true_eq]
theorem Z7 (s:aa) (i:Nat):DT s i i=false:=by
 cases h:DT s i i with
 | false=>rfl
 | true=>have:=wj.1 h; omega
theorem Ga {s:aa} {i j k:Nat} (h1:DT s i j=true) (h2:DT s j k=true):DT s i k=true:=by
 have:=wj.1 h1; have:=wj.1 h2
 exact wj.2 (by omega)
theorem Gb {s:aa} {i j:Nat} (h:i≠j):DT s i j=true∨DT s j i=true:=by
 by_cases h1:DT s i j=true
 ·exact .inl h1
 ·refine .inr (wj.2 ?_)
  have h2:¬ (eE s j<eE s i∨(eE s i=eE s j∧i<j)):=fun h=>h1 (wj.2 h)
  omega
theorem iF {s:aa} {i:Nat} : i∈oe s↔i<s.jobs.length∧qB s i=true:=by
 unfold oe; rw [List.mem_filter,List.mem_range]
theorem sS (s:aa):(mA s).Perm (oe s):=List.mergeSort_perm _ _
theorem Ow {s:aa} {i:Nat} : i∈mA s↔i<s.jobs.length∧qB s i=true:=by rw [(sS s).mem_iff,iF]
end Dv
namespace Dv
open Go
def OA (a b:Int):Int:=if b>a then b else a
def uP (j:bP) (now:Int):Int:=if j.phase=1 then now+j.work else if j.phase=2 then OA now (j.since+j.work) else if j.phase=3 then OA now j.til else -1
def UW (s:aa) (aM now:Int):Int:=if aM<1∨(s.jobs.length:Int)<aM then -1 else uP (s.jobs.getD (aM-1).toNat aD) now
def okE (e t:Int):Bool:=decide (0≤e)&&decide (e≤t)
def gH (s:aa) (aM:Int):Bool:=decide (1≤aM∧aM≤(s.jobs.length:Int)∧(s.jobs.getD (aM-1).toNat aD).phase=0)
def Gl (s:aa) (now t:Int):Nat→Int
 | 0=>rY s
 | k+1=>if okE (uP (dI s k) now) t=true then BK .i64 (Gl s now t k) (dI s k).nodes else Gl s now t k
structure Vi (j:bP):Prop where
 work:0≤j.work∧j.work≤1000000
 since:0≤j.since∧j.since≤1000000
 til:0≤j.til∧j.til≤1000000
structure tu (s:aa):Prop where
 nodes:s.nodes.length≤6
 jobs:s.jobs.length≤1000
 ends:∀ k,k<s.jobs.length→Vi (dI s k)
 sets:∀ k,k<s.jobs.length→fS (dI s k).nodes
 most:∀ k,k<s.jobs.length→0≤(dI s k).max∧(dI s k).max≤6
 prio:∀ k,k<s.jobs.length→0≤eE s k∧eE s k≤1000000
theorem bK.acq {c:aB} {s:aa} (h:bK c s) (k:Nat) (hk:k<s.jobs.length):fS (dI s k).nodes:=by
 cases hp:ez (dI s k).phase with
 | false=>rw [h.idle k hk hp]; exact ⟨by decide,by decide⟩
 | true=>
   have lZ:=h.mT k hk hp
   have hl:=h.len
   have:=aaB s.nodes.length hl.2
   have h1:=lZ.lo
   have h2:=lZ.hi
   exact ⟨h1,by omega⟩
theorem J8 {s:aa} {k:Nat} (hk:k<s.jobs.length) (now:Int):UW s ((k+1:Nat):Int) now=uP (dI s k) now:=by
 unfold UW dI
 rw [if_neg (by omega),show (((k+1:Nat):Int)-1).toNat=k by omega]
theorem P0 {j:bP} (h:Vi j) {now:Int} (h0:0≤now∧now≤1000000):-1≤uP j now∧uP j now≤2000000:=by
 have h1:=h.work
 have h2:=h.since
 have h3:=h.til
 unfold uP OA
 repeat' split
 all_goals omega
theorem IK {c:aB} {j:bP} (h:lQ c j=true):0≤j.work∧j.work≤1000000:=by
 unfold lQ at h
 simp only [Bool.and_eq_true] at h
 have:=aX h.1.2
 omega
theorem Cp {c:aB} {j:bP} (h:lQ c j=true):(1≤j.min∧j.min≤j.max)∧(1≤j.max∧j.max≤c.nodes)∧(0≤j.prio∧j.prio≤9)∧(0≤j.pin∧j.pin≤9):=by
 unfold lQ at h
 simp only [Bool.and_eq_true] at h
 exact ⟨aX h.1.1.1.2,aX h.1.1.2,aX h.1.1.1.1.2,aX h.2⟩
theorem bK.ada {c:aB} {s:aa} (h:bK c s) (k:Nat) (hk:k<s.jobs.length):Vi (dI s k):=
 ⟨IK (h.num k hk).asked,(h.num k hk).since,(h.num k hk).til⟩
theorem bK.fits {c:aB} {s:aa} (h:bK c s):tu s:=
 ⟨h.len.2,by have:=h.jobs; omega,h.ada,h.acq,fun k hk=>by
  have:=(Cp (h.num k hk).asked).2.1
  have:=ou h.uW
  omega,fun k hk=>by
  have:=(Cp (h.num k hk).asked).2.2.1
  show 0≤(dI s k).prio∧(dI s k).prio≤1000000
  omega⟩
def DN (l:List Int) (e:Int):List Int:=if e∈l then l else l++[e]
def sB (s:aa) (now:Int):Nat→List Int
 | 0=>[now]
 | k+1=>if 0≤uP (dI s k) now then DN (sB s now k) (uP (dI s k) now) else sB s now k
def sC (s:aa) (now:Int):List Int:=(sB s now s.jobs.length).mergeSort (fun x y=>decide (x≤y))
theorem Ox {l:List Int} {e x:Int} : x∈DN l e↔x∈l∨x=e:=by
 unfold DN
 split
 ·rename_i h
  exact ⟨.inl,by rintro (h1 | rfl); exact h1; exact h⟩
 ·simp
theorem IT {l:List Int} (h:l.Nodup) (e:Int):(DN l e).Nodup:=by
 unfold DN
 split
 ·exact h
 ·rename_i hn
  rw [List.nodup_append]
  exact ⟨h,by simp,fun a ha b hb=>by rw [List.mem_singleton.1 hb]; rintro rfl; exact hn ha⟩
theorem sA (s:aa) (now:Int):∀ k,(sB s now k).Nodup
 | 0=>by simp [sB]
 | k+1=>by
   unfold sB
   split
   ·exact IT (sA s now k) _
   ·exact sA s now k
theorem D8 (s:aa) (now:Int):∀ k,(sB s now k).length≤k+1
 | 0=>by simp [sB]
 | k+1=>by
   have:=D8 s now k
   unfold sB DN
   split
   ·split <;> simp <;> omega
   ·omega
theorem Gw (s:aa) (now:Int):(sC s now).length≤s.jobs.length+1:=by
 unfold sC
 rw [List.length_mergeSort]
 exact D8 s now _
end Dv
namespace Dv
open Go
def Hu (s:aa) (aM:Int):bP:=s.jobs.getD (aM-1).toNat aD
def zl (s:aa) (aM:Int):Int×Bool:=if gH s aM=true then jk s (Hu s aM) (rY s) else (0,false)
def oC (s:aa) (j:bP) (now:Int):List Int→Int×Int×Bool
 | []=>(0,0,false)
 | t::l=>if (jk s j (Gl s now t s.jobs.length)).2=true then (t,(jk s j (Gl s now t s.jobs.length)).1,true) else oC s j now l
def xB (s:aa) (aM now:Int):Int×Int×Bool:=if gH s aM=true then oC s (Hu s aM) now (sC s now) else (0,0,false)
def o8 (s:aa):Int:=(((mA s).getD 0 0+1:Nat):Int)
def wX (s:aa) (aM now:Int):Int×Bool:=
 if gH s aM=false∨o8 s=aM then (0,false)
 else if (jk s (Hu s aM) (gr .i64 (rY s) (xB s (o8 s) now).2.1)).2=true then ((jk s (Hu s aM) (gr .i64 (rY s) (xB s (o8 s) now).2.1)).1,true)
 else if (xB s (o8 s) now).2.2=false∨(zl s aM).2=false∨(xB s (o8 s) now).1<now+(Hu s aM).work then (0,false) else ((zl s aM).1,true)
def mV (RN fill:Int→Int×Bool):List Nat→Nat→Int×Int×Bool
 | [],_=>(0,0,false)
 | k::l,0=>if (RN ((k+1:Nat):Int)).2=true then (((k+1:Nat):Int),(RN ((k+1:Nat):Int)).1,true) else mV RN fill l 1
 | k::l,i+1=>if (fill ((k+1:Nat):Int)).2=true then (((k+1:Nat):Int),(fill ((k+1:Nat):Int)).1,true) else mV RN fill l (i+2)
def qK (s:aa) (now:Int):Int×Int×Bool:=mV (zl s) (fun k=>wX s k now) (mA s) 0
theorem p8 {s:aa} {aM:Int} : gH s aM=true↔∃ i:Nat,aM=((i+1:Nat):Int)∧i∈oe s:=by
 unfold gH
 rw [decide_eq_true_eq]
 constructor
 ·rintro ⟨h1,h2,h3⟩
  refine ⟨(aM-1).toNat,by omega,iF.2 ⟨by omega,?_⟩⟩
  unfold qB; rw [decide_eq_true_eq]; exact h3
 ·rintro ⟨i,rfl,hi⟩
  obtain ⟨h1,h2⟩:=iF.1 hi
  refine ⟨by omega,by omega,?_⟩
  rw [show (((i+1:Nat):Int)-1).toNat=i by omega]
  unfold qB at h2; exact of_decide_eq_true h2
theorem yb (s:aa) (i:Nat):Hu s ((i+1:Nat):Int)=dI s i:=by
 unfold Hu dI
 rw [show (((i+1:Nat):Int)-1).toNat=i by omega]
theorem YC {s:aa} {j:bP} (set:Int) (hn:s.nodes.length≤6) (hm:0≤j.max∧j.max≤6) (hb:fS (nM s j set).1):jk s j set=(Df (nM s j set).1 j.max 6,(jk s j set).2):=by
 unfold jk
 rw [RT hb hm]
theorem H7 {s:aa} (h:s.nodes.length≤6):fS (rY s):=zz _ _ h
theorem JY (s:aa) (j:bP) (now:Int) (hp:∀ set,fS (jk s j set).1):∀ l:List Int,fS (oC s j now l).2.1
 | []=>(⟨by decide,by decide⟩:fS 0)
 | t::l=>by
   unfold oC
   split
   ·exact hp _
   ·exact JY s j now hp l
theorem ND (s:aa) (aM now:Int) (hp:∀ j,j∈s.jobs→∀ set,fS (jk s j set).1):fS (xB s aM now).2.1:=by
 unfold xB
 split
 ·rename_i hq
  obtain ⟨i,rfl,hi⟩:=p8.1 hq
  have hlt:=(iF.1 hi).1
  refine JY _ _ _ (hp _ ?_) _
  rw [yb]
  unfold dI
  have e:s.jobs.getD i aD=s.jobs[i]:=by simp [List.getD,hlt]
  rw [e]
  exact List.getElem_mem hlt
 ·exact ⟨by decide,by decide⟩
theorem I8 (mx:Int):∀ (l:List Int) (p:Int×Int),fS p.1→(∀ n∈l,fS n)→fS (l.foldl (tL mx) p).1
 | [],p,h,_=>h
 | n::l,p,h,hl=>I8 mx l _ (by
    unfold tL
    split
    ·exact hl n List.mem_cons_self
    ·exact h) (fun m hm=>hl m (List.mem_cons_of_mem _ hm))
theorem OF (of mx:Int):∀ k:Nat,k≤6→0≤Df of mx k∧Df of mx k<2 ^ k
 | 0,_=>(by decide:(0:Int)≤0∧(0:Int)<2 ^ 0)
 | k+1,hk=>by
   have ih:=OF of mx k (by omega)
   have h2:(2:Int) ^ (k+1)=2 ^ k*2:=Int.pow_succ 2 k
   have:(0:Int)<2 ^ k:=Int.pow_pos (by decide)
   unfold Df
   split <;> omega
theorem Rx {s:aa} (h:tu s) {j:bP} (hj:0≤j.max∧j.max≤6) (set:Int):fS (jk s j set).1:=by
 have hb:fS (nM s j set).1:=I8 _ _ _ ⟨by decide,by decide⟩ (fun n hn=>by
  unfold chs at hn
  obtain ⟨v,_,rfl⟩:=List.mem_map.1 hn
  exact tW s set v h.nodes)
 rw [YC set h.nodes hj hb]
 have:=OF (nM s j set).1 j.max 6 (Nat.le_refl _)
 exact ⟨this.1,this.2⟩
theorem tu.mem {s:aa} (h:tu s) {j:bP} (hj:j∈s.jobs):0≤j.max∧j.max≤6:=by
 obtain ⟨k,hk,rfl⟩:=List.getElem_of_mem hj
 have:=h.most k hk
 unfold dI at this
 rw [show s.jobs.getD k aD=s.jobs[k] by simp [List.getD,hk]] at this
 exact this
theorem tu.ND {s:aa} (h:tu s) (aM now:Int):fS (xB s aM now).2.1:=Dv.ND s aM now (fun j hj set=>Rx h (h.mem hj) set)
theorem Yi {s:aa} (h:tu s) (now t:Int):∀ k,k≤s.jobs.length→fS (Gl s now t k)
 | 0,_=>H7 h.nodes
 | k+1,hk=>by
   have ih:=Yi h now t k (by omega)
   unfold Gl
   split
   ·exact (Vq ih (h.sets k (by omega))).1
   ·exact ih
end Dv
