/- part -/
import Derived.Test.YtkalnfkokkjliaaGreatDoorDB
set_option linter.all false
set_option maxRecDepth 100000
namespace Dv
open Go Go.Proofs
variable {G:Nat→Option (List DV)}
def YH:=qx Tryz.f115
theorem UZ:aj Tryz.prog Tryz.f115=some YH:=by kernel_rfl
def PX:=qx Tryz.f196
theorem Kx:aj Tryz.prog Tryz.f196=some PX:=by kernel_rfl
def YJ:=qx Tryz.f113
theorem U1:aj Tryz.prog Tryz.f113=some YJ:=by kernel_rfl
def YI:=qx Tryz.f114
theorem U0:aj Tryz.prog Tryz.f114=some YI:=by kernel_rfl
def abB:=qx Tryz.f42
theorem ZZ:aj Tryz.prog Tryz.f42=some abB:=by kernel_rfl
def r_ (s:aa) (q:Int) (k:Nat):St:=⟨[(1,.int q),(5,.int (cV (s.jobs.take k) q)),(9,cZ s.jobs),(10,.int s.jobs.length),(11,.int k)],[some (.box 30 [bS s.nodes,cZ s.jobs,.int s.goal,.int s.prior,.int s.mode,.int s.term])]⟩
theorem tR (s:aa) (q:Int) (hn:s.jobs.length≤9223372036854775806):bu Tryz.prog G 115 [aX s,.int q] [] (.int (cV s.jobs q)) []:=by
 refine bz Tryz.func115 (by decide) UZ rfl rfl ?_
 simp only [YH,go_sem]
 refine aW [1,5,9,10,11] [] (fun k:Nat=>k≤s.jobs.length) (fun k=>s.jobs.length-k) (r_ s q) 0 ?_ (Nat.zero_le _) (fun k hk=>?_)
 ·simp only [r_,go_sem,cV,List.filter_nil,Int.natCast_zero]
 simp only [r_,go_sem]
 refine bA (fun h=>?_) (fun h=>?_)
 ·have h:=eR h
  have hb:=Jq (s.jobs.take k) q
  rw [List.length_take] at hb
  have hs:s.jobs.take (k+1)=s.jobs.take k++[s.jobs[k]]:=by rw [List.take_succ_eq_append_getElem h]
  have hd:=vv (s.jobs.take k) s.jobs[k] q
  simp only [get_map h,go_sem]
  refine dH (fun h1=>?_) (fun h1=>?_) <;> simp only [h1,go_sem] <;> (try simp only [qqS] at h1)
  ·refine bA (fun h2=>?_) (fun h2=>?_) <;> simp only [h2,go_sem] <;> (try simp only [qqS] at h2)
   ·refine bh (k+1) ?_ ?_ (by omega) (by omega)
    ·simp only [go_sem]
    ·simp only [r_,go_sem,aH (show k<9223372036854775807 by omega),hs,hd,h1,h2,aO (show -9223372036854775808≤cV (s.jobs.take k) q+1 by omega) (by omega)]
   ·refine bh (k+1) ?_ ?_ (by omega) (by omega)
    ·simp only [go_sem]
    ·simp only [r_,go_sem,aH (show k<9223372036854775807 by omega),hs,hd,h1,h2,and_false,Int.add_zero]
  ·refine bh (k+1) ?_ ?_ (by omega) (by omega)
   ·simp only [go_sem]
   ·simp only [r_,go_sem,aH (show k<9223372036854775807 by omega),hs,hd,h1,false_and,Int.add_zero]
 ·obtain rfl:=eS h hk
  simp only [go_sem,List.take_length]
def C8 (s:aa) (j:bQ) (nodes:Int) (f et:Nat) (cells:List LV) (kv:Nat×Int):St:=⟨[(2,.int nodes),(3,.fn (.func f) [] [.ptr 0 0]),(9,.int kv.2),(36,bS s.nodes),(37,.int s.nodes.length),(38,.int kv.1)],[some (.box et cells),some (.box 30 [bS s.nodes,cZ s.jobs,.int s.goal,.int s.prior,.int s.mode,.int s.term]),some (.box 119 [.int j.queue,.int j.prio,.int j.min,.int j.max,.int j.work,.int j.pin,.int j.phase,.int j.inc,.int j.nodes,.int j.since,.int j.til,.int j.epoch])]⟩
theorem MT (s:aa) (j:bQ) (nodes:Int) (f et:Nat) (cells:List LV) (takes:br→Bool) (hn:s.nodes.length≤6) (hd:eE 0 cells=true) (hT:∀ n,bu Tryz.prog G f [Ah n,.ptr 0 0] [.box et cells] (.bool (takes n)) [.box et cells]) :
  bu Tryz.prog G 196 [aX s,Ed j,.int nodes,.fn (.func f) [] [.ptr 0 0]] [.box et cells] (.bool (mZ s.nodes j nodes takes)) [.box et cells]:=by
 refine Dw Tryz.func196 (by decide) Kx rfl rfl (by simp [dW,hd]) rfl ?_
 have hp:(2:Int) ^ s.nodes.length≤64∧1≤(2:Int) ^ s.nodes.length:=by
  have:s.nodes.length=0∨s.nodes.length=1∨s.nodes.length=2∨s.nodes.length=3∨s.nodes.length=4∨s.nodes.length=5∨s.nodes.length=6:=by omega
  rcases this with h | h | h | h | h | h | h <;> rw [h] <;> decide
 have hw:=uu s.nodes.length hn
 have QK:eE 3 cells=true:=Ei.2 cells 3 hd
 have Qj:∀ π,mT π cells=cells:=fun π=>lR π cells hd
 simp only [PX,go_sem,hw]
 unfold mZ
 have none:∀ {x y:Prop} [Decidable x] [Decidable y] {b:Bool},x∨y→(if x∨y then false else b)=false:=fun h=>by rw [if_pos h]
 refine ig (fun h1=>?_) (fun h1=>?_) <;> simp only [h1,go_sem] <;> (try simp only [qqS] at h1)
 ·simp only [hw]
  refine ig (fun h2=>?_) (fun h2=>?_) <;> simp only [h2,go_sem] <;> (try simp only [qqS] at h2)
  ·obtain ⟨m,rfl⟩:=Int.eq_ofNat_of_zero_le (show 0≤nodes by omega)
   have hm:m<64:=by omega
   have hwu:IntKind.u64.wrap (m:Int)=m:=by simp [IntKind.wrap,IntKind.bits,IntKind.signed]; omega
   rw [if_neg (by omega)]
   simp only [hwu]
   refine bf (uL m hm) rfl rfl rfl rfl ?_; simp only [go_sem]
   refine bf (fk _ _ _) rfl rfl rfl rfl ?_; simp only [go_sem]
   cases hb:bN (many m) j.min j.max with
   | false=>simp only [go_sem]
   | true=>
     simp only [go_sem]
     generalize Vy:ez m takes s.nodes 0 j.pin=r
     refine aW [2,3,9,36,37,38] [] (fun kv:Nat×Int=>kv.1≤s.nodes.length∧ez m takes (s.nodes.drop kv.1) kv.1 kv.2=r) (fun kv=>s.nodes.length-kv.1) (C8 s j m f et cells) (0,j.pin) ?_ ⟨Nat.zero_le _,Vy⟩ ?_
     ·simp only [C8,go_sem,Int.natCast_zero]
     rintro ⟨k,v⟩ ⟨hk,hF⟩
     dsimp only at hk hF
     simp only [C8,go_sem]
     refine bA (fun h=>?_) (fun h=>?_)
     ·have h:=eR h
      rw [List.drop_eq_getElem_cons h] at hF
      unfold ez at hF
      simp only [get_map h,go_sem,K_ (m:Int) k (by omega)]
      have go:∀ v',ez m takes (s.nodes.drop (k+1)) (k+1) v'=r→(k+1,v').1≤s.nodes.length∧ez m takes (s.nodes.drop (k+1,v').1) (k+1,v').1 (k+1,v').2=r:=fun v' h'=>⟨h,h'⟩
      cases hb1:hasB (m:Int) k with
      | false=>
        rw [if_pos hb1] at hF
        simp only [go_sem]
        refine bh (k+1,v) ?_ ?_ (go _ hF) (by dsimp only; omega)
        ·simp only [go_sem,QK]
        ·simp only [C8,go_sem,aH (show k<9223372036854775807 by omega)]
      | true=>
        rw [if_neg (by simp [hb1])] at hF
        simp only [go_sem]
        have Y6:eE 1 cells=true:=Ei.2 cells 1 hd
        refine bA (fun hv=>?_) (fun hv=>?_) <;> simp only [hv,go_sem] <;> (try simp only [qqS] at hv)
        ·rw [if_pos hv] at hF
         refine au [0] (hT s.nodes[k]) rfl ?_ (by decide) ?_ ?_ (by simp) ?_ <;> simp only [ag,ah,go_sem,Qj,Y6]
         cases ht:takes s.nodes[k] with
         | false=>
           rw [if_neg (by simp [ht])] at hF
           simp only [go_sem,Qj,← hF]
         | true=>
           by_cases hq:s.nodes[k].version=s.nodes[k].version
           ·rw [if_pos ⟨ht,hq⟩] at hF
            have hq1:(s.nodes[k].version !=s.nodes[k].version)=false:=by simp [← hq]
            simp only [go_sem,Qj,hq1]
            refine bh (k+1,s.nodes[k].version) ?_ ?_ (go _ hF) (by dsimp only; omega)
            ·simp only [go_sem,QK]
            ·simp only [C8,go_sem,aH (show k<9223372036854775807 by omega)]
           ·rw [if_neg (fun h'=>hq h'.2)] at hF
            have hq1:(s.nodes[k].version !=s.nodes[k].version)=true:=bne_iff_ne.2 hq
            simp only [go_sem,Qj,hq1,← hF]
        ·rw [if_neg hv] at hF
         refine au [0] (hT s.nodes[k]) rfl ?_ (by decide) ?_ ?_ (by simp) ?_ <;> simp only [ag,ah,go_sem,Qj,Y6]
         cases ht:takes s.nodes[k] with
         | false=>
           rw [if_neg (by simp [ht])] at hF
           simp only [go_sem,Qj,← hF]
         | true=>
           by_cases hq:s.nodes[k].version=v
           ·rw [if_pos ⟨ht,hq⟩] at hF
            have hq1:(s.nodes[k].version !=v)=false:=by simp [← hq]
            simp only [go_sem,Qj,hq1]
            refine bh (k+1,v) ?_ ?_ (go _ hF) (by dsimp only; omega)
            ·simp only [go_sem,QK]
            ·simp only [C8,go_sem,aH (show k<9223372036854775807 by omega)]
           ·rw [if_neg (fun h'=>hq h'.2)] at hF
            have hq1:(s.nodes[k].version !=v)=true:=bne_iff_ne.2 hq
            simp only [go_sem,Qj,hq1,← hF]
     ·obtain rfl:=eS h hk
      rw [List.drop_length] at hF
      simp only [go_sem,← hF,ez]
  ·rw [if_pos (.inr h2)]
 ·rw [if_pos (.inl h1)]
end Dv
namespace Dv
open Go Go.Proofs
variable {G:Nat→Option (List DV)}
theorem HH (c:aF) (s:aa) (j:bQ) (number:Int) (hn:s.nodes.length≤6) (h0:1≤c.bL∧c.bL≤1000):bu Tryz.prog G 113 [fN c,aX s,Ed j,.int number] [] (.bool (gW c s j number)) []:=by
 refine bz Tryz.func113 (by decide) U1 rfl rfl ?_
 simp only [YJ,go_sem]
 unfold gW
 refine av (Di c j h0) rfl rfl rfl rfl ?_; simp only [go_sem]
 repeat' (first
  | (refine av (fk _ _ _) rfl rfl rfl rfl ?_; simp only [go_sem])
  | ((first | with_reducible refine eD (fun h=>?_) (fun h=>?_) | refine dH (fun h=>?_) (fun h=>?_)) <;> simp only [h,go_sem]))
 refine lJ (fun h1=>?_) (fun h1=>?_) <;> simp only [h1,go_sem] <;> (try simp only [qqS] at h1)
 refine av (HV _) rfl rfl rfl rfl ?_; simp only [go_sem]
 refine lJ (fun h2=>?_) (fun h2=>?_) <;> simp only [h2,go_sem] <;> (try simp only [qqS] at h2)
 ·rfl
 refine au [3] (MT s j j.nodes 197 3 [.int number] (kC number) hn rfl (fun n=>HD n number)) rfl ?_ (by decide) ?_ ?_ (by simp) ?_ <;> simp only [ag,ah,go_sem]
theorem LD (s:aa) (n:br) (number:Nat) (hnb:number<50) (hl:s.jobs.length≤1000000):bu Tryz.prog G 114 [aX s,Ah n,.int number] [] (.bool (nD s n number)) []:=by
 refine bz Tryz.func114 (by decide) U0 rfl rfl ?_
 simp only [YI,go_sem]
 unfold nD
 have e1:∀ x:Int,decide (x≠0)=(x !=0):=fun x=>by rw [Bool.eq_iff_iff]; simp
 have e2:∀ x:Int,decide (x=0)=(x==0):=fun x=>rfl
 rw [e1,e2]
 refine av (fk _ _ _) rfl rfl rfl rfl ?_; simp only [go_sem]
 refine eD (fun h1=>?_) (fun h1=>?_) <;> simp only [h1,go_sem] <;> (try simp only [qqS] at h1)
 refine av (fk _ _ _) rfl rfl rfl rfl ?_; simp only [go_sem]
 cases h2:bN n.aQ 0 s.jobs.length with
 | false=>simp only [go_sem]
 | true=>
   simp only [go_sem]
   have hb:0≤n.aQ∧n.aQ≤s.jobs.length:=of_decide_eq_true h2
   cases hj:(n.aQ==0) with
   | true=>
     have hj2:(n.aQ !=0)=false:=by simp [bne,hj]
     simp only [hj2,go_sem]
     repeat' (first | simp only [hj,hj2,go_sem] | ((first | with_reducible refine eD (fun h=>?_) (fun h=>?_) | refine dH (fun h=>?_) (fun h=>?_)) <;> simp only [h,go_sem]) | ((first | with_reducible refine lJ (fun h=>?_) (fun h=>?_) | refine bA (fun h=>?_) (fun h=>?_)) <;> simp only [h,go_sem]))
   | false=>
     have hj2:(n.aQ !=0)=true:=by simp [bne,hj]
     have hj3:n.aQ≠0:=by simpa using hj
     have hw:IntKind.i64.wrap (n.aQ-1)=n.aQ-1:=aO (by omega) (by omega)
     have h0:0≤n.aQ-1:=by omega
     have hg:(s.jobs.map dJ)[(n.aQ-1).toNat]? = some (dJ (s.jobs.getD (n.aQ-1).toNat az)):=aM _ (by omega)
     simp only [hj2,go_sem]
     repeat' (first | simp only [hj,hj2,hw,h0,hg,JJ _ number (show number<64 by omega),go_sem] | ((first | with_reducible refine eD (fun h=>?_) (fun h=>?_) | refine dH (fun h=>?_) (fun h=>?_)) <;> simp only [h,go_sem]) | ((first | with_reducible refine lJ (fun h=>?_) (fun h=>?_) | refine bA (fun h=>?_) (fun h=>?_)) <;> simp only [h,go_sem]))
def yL (c:aF) (s:aa) (k:Nat):St:=⟨[(2,.ptr 0 0),(3,.ptr 1 0),(52,cZ s.jobs),(53,.int s.jobs.length),(54,.int k)],[some (.box 23 [.int c.nodes,.int c.bL,.int c.cE,.int c.gT,.int c.cc,.int c.eG,.int c.deadline,.int c.room,.int c.ga]),some (.box 30 [bS s.nodes,cZ s.jobs,.int s.goal,.int s.prior,.int s.mode,.int s.term])]⟩
def yK (c:aF) (s:aa) (k:Nat):St:=⟨[(2,.ptr 0 0),(3,.ptr 1 0),(68,bS s.nodes),(69,.int s.nodes.length),(70,.int k)],[some (.box 23 [.int c.nodes,.int c.bL,.int c.cE,.int c.gT,.int c.cc,.int c.eG,.int c.deadline,.int c.room,.int c.ga]),some (.box 30 [bS s.nodes,cZ s.jobs,.int s.goal,.int s.prior,.int s.mode,.int s.term])]⟩
def yJ (c:aF) (s:aa) (k:Nat):St:=⟨[(2,.ptr 0 0),(3,.ptr 1 0),(82,.int c.bL),(83,.int k)],[some (.box 23 [.int c.nodes,.int c.bL,.int c.cE,.int c.gT,.int c.cc,.int c.eG,.int c.deadline,.int c.room,.int c.ga]),some (.box 30 [bS s.nodes,cZ s.jobs,.int s.goal,.int s.prior,.int s.mode,.int s.term])]⟩
theorem CB {c:aF} (h:gH c=true):1≤c.nodes∧c.nodes≤6∧1≤c.bL∧c.bL≤3:=by
 unfold gH at h
 simp only [Bool.and_eq_true] at h
 have h1:=bp h.1.1.1.1.1.1.1.1
 have h2:=bp h.1.1.1.1.1.1.1.2
 omega
theorem wg (c:aF) (s:aa):bu Tryz.prog G 42 [fN c,aX s] [] (.bool (iR c s)) []:=by
 refine bz Tryz.func42 (by decide) ZZ rfl rfl ?_
 simp only [abB,go_sem]
 unfold iR
 have e1:decide ((s.nodes.length:Int)=c.nodes) = !((s.nodes.length:Int) !=c.nodes):=by rw [Bool.eq_iff_iff]; simp
 have e2:decide (s.jobs.length≤24) = !(decide ((s.jobs.length:Int)>24)):=by rw [Bool.eq_iff_iff]; simp; omega
 rw [e1,e2]
 refine av (yT c) rfl rfl rfl rfl ?_; simp only [go_sem]
 cases hm:gH c with
 | false=>simp only [go_sem]
 | true=>
   have hc:=CB hm
   simp only [go_sem]
   repeat' (first
    | (refine av (fk _ _ _) rfl rfl rfl rfl ?_; simp only [go_sem])
    | ((first | with_reducible refine eD (fun h=>?_) (fun h=>?_) | refine dH (fun h=>?_) (fun h=>?_)) <;> simp only [h,go_sem]))
   refine lJ (fun ht=>?_) (fun ht=>?_) <;> simp only [ht,go_sem] <;> (try simp only [qqS] at ht)
   have hj:s.jobs.length≤24:=by simp_all
   have hn:s.nodes.length≤6:=by simp_all; omega
   generalize hq:(fo c s s.jobs 0&&fH s s.nodes 0&&ff c s 0 c.bL.toNat)=r
   refine aW [2,3,52,53,54] [] (fun k:Nat=>k≤s.jobs.length∧(fo c s (s.jobs.drop k) k&&fH s s.nodes 0&&ff c s 0 c.bL.toNat)=r) (fun k=>s.jobs.length-k) (yL c s) 0 ?_ ⟨Nat.zero_le _,hq⟩ ?_
   ·simp only [yL,go_sem,Int.natCast_zero]
   rintro k ⟨hk,hF⟩
   simp only [yL,go_sem]
   refine bA (fun h=>?_) (fun h=>?_)
   ·have h:=eR h
    rw [List.drop_eq_getElem_cons h,fo] at hF
    simp only [get_map h,go_sem,aH (show k<9223372036854775807 by omega)]
    refine av (HH c s s.jobs[k] (k+1:Nat) hn ⟨hc.2.2.1,by omega⟩) rfl rfl rfl rfl ?_; simp only [go_sem]
    cases hs:gW c s s.jobs[k] (k+1:Nat) with
    | false=>
      have hs':gW c s s.jobs[k] ((k:Int)+1)=false:=hs
      rw [hs'] at hF
      simp only [Bool.false_and] at hF
      simp only [go_sem,← hF]
    | true=>
      have hs':gW c s s.jobs[k] ((k:Int)+1)=true:=hs
      rw [hs',Bool.true_and] at hF
      simp only [go_sem]
      refine bh (k+1) ?_ ?_ ⟨h,hF⟩ (by omega)
      ·simp only [go_sem]
      ·simp only [yL,go_sem,aH (show k<9223372036854775807 by omega)]
   ·obtain rfl:=eS h hk
    clear hq hk
    rw [List.drop_length,fo,Bool.true_and] at hF
    simp only [go_sem]
    refine aW [2,3,68,69,70] [] (fun k:Nat=>k≤s.nodes.length∧(fH s (s.nodes.drop k) k&&ff c s 0 c.bL.toNat)=r) (fun k=>s.nodes.length-k) (yK c s) 0 ?_ ⟨Nat.zero_le _,hF⟩ ?_
    ·simp only [yK,go_sem,Int.natCast_zero]
    clear hF
    rintro k ⟨hk,hF⟩
    simp only [yK,go_sem]
    refine bA (fun h=>?_) (fun h=>?_)
    ·have h:=eR h
     rw [List.drop_eq_getElem_cons h,fH] at hF
     simp only [get_map h,go_sem]
     refine av (LD s s.nodes[k] k (by omega) (by omega)) rfl rfl rfl rfl ?_; simp only [go_sem]
     cases hs:nD s s.nodes[k] k with
     | false=>
       rw [hs] at hF
       simp only [Bool.false_and] at hF
       simp only [go_sem,← hF]
     | true=>
       rw [hs,Bool.true_and] at hF
       simp only [go_sem]
       refine bh (k+1) ?_ ?_ ⟨h,hF⟩ (by omega)
       ·simp only [go_sem]
       ·simp only [yK,go_sem,aH (show k<9223372036854775807 by omega)]
    ·obtain rfl:=eS h hk
     clear hk
     rw [List.drop_length,fH,Bool.true_and] at hF
     simp only [go_sem]
     refine aW [2,3,82,83] [] (fun k:Nat=>(k:Int)≤c.bL∧ff c s k (c.bL-k).toNat=r) (fun k=>(c.bL-k).toNat) (yJ c s) 0 ?_ ⟨by omega,by simpa using hF⟩ ?_
     ·simp only [yJ,go_sem,Int.natCast_zero]
     clear hF
     rintro k ⟨hk,hF⟩
     simp only [yJ,go_sem]
     refine bA (fun h=>?_) (fun h=>?_) <;> simp only [h,go_sem] <;> (try simp only [qqS] at h)
     ·rw [show (c.bL-(k:Int)).toNat=(c.bL-((k+1:Nat):Int)).toNat+1 by omega,ff] at hF
      refine bf (tR s k (by omega)) rfl rfl rfl rfl ?_; simp only [go_sem]
      refine bA (fun hs=>?_) (fun hs=>?_) <;> simp only [hs,go_sem] <;> (try simp only [qqS] at hs)
      ·rw [show decide (c.cE<cV s.jobs k)=true by simpa using hs] at hF
       simp only [Bool.not_true,Bool.false_and] at hF
       simp only [← hF,go_sem]
      ·rw [show decide (c.cE<cV s.jobs k)=false by simpa using hs] at hF
       simp only [Bool.not_false,Bool.true_and] at hF
       refine bh (k+1) ?_ ?_ ⟨by omega,hF⟩ (by omega)
       ·simp only [go_sem]
       ·simp only [yJ,go_sem,aH (show k<9223372036854775807 by omega)]
     ·rw [show (c.bL-(k:Int)).toNat=0 by omega,ff] at hF
      simp only [← hF,go_sem]
end Dv
