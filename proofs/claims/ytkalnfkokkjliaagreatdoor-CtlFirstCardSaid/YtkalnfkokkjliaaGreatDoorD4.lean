/- The book: stands, sound, Right. -/
import Derived.Test.YtkalnfkokkjliaaGreatDoorD3
set_option linter.unusedVariables false
set_option linter.unusedSimpArgs false
namespace Dv
open Go Go.Proofs
variable {G:Nat→Option (List DV)}
theorem CY (c:aH) (s:aa) (j:bU) (number:Int) (hn:s.nodes.length≤6) (h0:1≤c.bG∧c.bG≤1000):bw Tryz.prog G 113 [gK c,bp s,zW j,.int number] [] (.bool (fP c s j number)) []:=by
 refine bn Tryz.func113 (by decide) OC rfl rfl ?_
 simp only [RY,go_sem,simprocAttr]
 unfold fP
 refine aC (y_ c j h0) rfl rfl rfl rfl ?_; simp only [go_sem,simprocAttr]
 repeat' (first
  | (refine aC (ez _ _ _) rfl rfl rfl rfl ?_; simp only [go_sem,simprocAttr])
  | ((first | with_reducible refine dN (fun h=>?_) (fun h=>?_) | refine cN (fun h=>?_) (fun h=>?_)) <;> simp only [h,go_sem,simprocAttr]))
 refine jF (fun h1=>?_) (fun h1=>?_) <;> simp only [h1,go_sem,simprocAttr] <;> (try simp only [beq_iff_eq,beq_eq_false_iff_ne,bne_iff_ne,ne_eq,decide_eq_true_eq,decide_eq_false_iff_not,Bool.not_true,Bool.not_false,Bool.not_eq_true,Bool.not_eq_false,bne_eq_false_iff_eq,Decidable.not_not] at h1)
 refine aC (Di _) rfl rfl rfl rfl ?_; simp only [go_sem,simprocAttr]
 refine jF (fun h2=>?_) (fun h2=>?_) <;> simp only [h2,go_sem,simprocAttr] <;> (try simp only [beq_iff_eq,beq_eq_false_iff_ne,bne_iff_ne,ne_eq,decide_eq_true_eq,decide_eq_false_iff_not,Bool.not_true,Bool.not_false,Bool.not_eq_true,Bool.not_eq_false,bne_eq_false_iff_eq,Decidable.not_not] at h2)
 ·rfl
 refine aK [3] (Hl s j j.nodes 197 3 [.int number] (iV number) hn rfl (fun n=>CV n number)) rfl ?_ (by decide) ?_ ?_ (by simp) ?_ <;> simp only [ah,ai,go_sem,simprocAttr]
theorem Ga (s:aa) (n:bK) (number:Nat) (hnb:number<50) (hl:s.jobs.length≤1000000):bw Tryz.prog G 114 [bp s,vP n,.int number] [] (.bool (kO s n number)) []:=by
 refine bn Tryz.func114 (by decide) OB rfl rfl ?_
 simp only [RX,go_sem,simprocAttr]
 unfold kO
 have e1:∀ x:Int,decide (x≠0)=(x !=0):=fun x=>by rw [Bool.eq_iff_iff]; simp
 have e2:∀ x:Int,decide (x=0)=(x==0):=fun x=>rfl
 rw [e1,e2]
 refine aC (ez _ _ _) rfl rfl rfl rfl ?_; simp only [go_sem,simprocAttr]
 refine dN (fun h1=>?_) (fun h1=>?_) <;> simp only [h1,go_sem,simprocAttr] <;> (try simp only [Bool.not_false] at h1)
 refine aC (ez _ _ _) rfl rfl rfl rfl ?_; simp only [go_sem,simprocAttr]
 cases h2:bF n.aN 0 s.jobs.length with
 | false=>simp only [go_sem,simprocAttr]
 | true=>
   simp only [go_sem,simprocAttr]
   have hb:0≤n.aN∧n.aN≤s.jobs.length:=of_decide_eq_true h2
   cases hj:(n.aN==0) with
   | true=>
     have hj2:(n.aN !=0)=false:=by simp [bne,hj]
     simp only [hj2,go_sem,simprocAttr]
     repeat' (first | simp only [hj,hj2,go_sem,simprocAttr] | ((first | with_reducible refine dN (fun h=>?_) (fun h=>?_) | refine cN (fun h=>?_) (fun h=>?_)) <;> simp only [h,go_sem,simprocAttr]) | ((first | with_reducible refine jF (fun h=>?_) (fun h=>?_) | refine bg (fun h=>?_) (fun h=>?_)) <;> simp only [h,go_sem,simprocAttr]))
   | false=>
     have hj2:(n.aN !=0)=true:=by simp [bne,hj]
     have hj3:n.aN≠0:=by simpa using hj
     have hw:IntKind.i64.wrap (n.aN-1)=n.aN-1:=aO (by omega) (by omega)
     have h0:0≤n.aN-1:=by omega
     have hg:(s.jobs.map dh)[(n.aN-1).toNat]? = some (dh (s.jobs.getD (n.aN-1).toNat ax)):=aL _ (by omega)
     simp only [hj2,go_sem,simprocAttr]
     repeat' (first | simp only [hj,hj2,hw,h0,hg,Ex _ number (show number<64 by omega),go_sem,simprocAttr] | ((first | with_reducible refine dN (fun h=>?_) (fun h=>?_) | refine cN (fun h=>?_) (fun h=>?_)) <;> simp only [h,go_sem,simprocAttr]) | ((first | with_reducible refine jF (fun h=>?_) (fun h=>?_) | refine bg (fun h=>?_) (fun h=>?_)) <;> simp only [h,go_sem,simprocAttr]))
def uK (c:aH) (s:aa) (k:Nat):St:=⟨[(2,.ptr 0 0),(3,.ptr 1 0),(52,dg s.jobs),(53,.int s.jobs.length),(54,.int k)],[some (.box 23 [.int c.nodes,.int c.bG,.int c.cD,.int c.wave,.int c.b_,.int c.eE,.int c.deadline,.int c.room,.int c.fG]),some (.box 30 [bZ s.nodes,dg s.jobs,.int s.goal,.int s.prior,.int s.mode,.int s.term])]⟩
def uJ (c:aH) (s:aa) (k:Nat):St:=⟨[(2,.ptr 0 0),(3,.ptr 1 0),(68,bZ s.nodes),(69,.int s.nodes.length),(70,.int k)],[some (.box 23 [.int c.nodes,.int c.bG,.int c.cD,.int c.wave,.int c.b_,.int c.eE,.int c.deadline,.int c.room,.int c.fG]),some (.box 30 [bZ s.nodes,dg s.jobs,.int s.goal,.int s.prior,.int s.mode,.int s.term])]⟩
def uI (c:aH) (s:aa) (k:Nat):St:=⟨[(2,.ptr 0 0),(3,.ptr 1 0),(82,.int c.bG),(83,.int k)],[some (.box 23 [.int c.nodes,.int c.bG,.int c.cD,.int c.wave,.int c.b_,.int c.eE,.int c.deadline,.int c.room,.int c.fG]),some (.box 30 [bZ s.nodes,dg s.jobs,.int s.goal,.int s.prior,.int s.mode,.int s.term])]⟩
theorem yF {c:aH} (h:gL c=true):1≤c.nodes∧c.nodes≤6∧1≤c.bG∧c.bG≤3:=by
 unfold gL at h
 simp only [Bool.and_eq_true] at h
 have h1:=aS h.1.1.1.1.1.1.1.1
 have h2:=aS h.1.1.1.1.1.1.1.2
 omega
theorem Gk (c:aH) (s:aa):bw Tryz.prog G 42 [gK c,bp s] [] (.bool (jJ c s)) []:=by
 refine bn Tryz.func42 (by decide) Th rfl rfl ?_
 simp only [Vx,go_sem,simprocAttr]
 unfold jJ
 have e1:decide ((s.nodes.length:Int)=c.nodes) = !((s.nodes.length:Int) !=c.nodes):=by rw [Bool.eq_iff_iff]; simp
 have e2:decide (s.jobs.length≤24) = !(decide ((s.jobs.length:Int)>24)):=by rw [Bool.eq_iff_iff]; simp; omega
 rw [e1,e2]
 refine aC (zT c) rfl rfl rfl rfl ?_; simp only [go_sem,simprocAttr]
 cases hm:gL c with
 | false=>simp only [go_sem,simprocAttr]
 | true=>
   have hc:=yF hm
   simp only [go_sem,simprocAttr]
   repeat' (first
    | (refine aC (ez _ _ _) rfl rfl rfl rfl ?_; simp only [go_sem,simprocAttr])
    | ((first | with_reducible refine dN (fun h=>?_) (fun h=>?_) | refine cN (fun h=>?_) (fun h=>?_)) <;> simp only [h,go_sem,simprocAttr]))
   refine jF (fun ht=>?_) (fun ht=>?_) <;> simp only [ht,go_sem,simprocAttr] <;> (try simp only [beq_iff_eq,beq_eq_false_iff_ne,bne_iff_ne,ne_eq,decide_eq_true_eq,decide_eq_false_iff_not,Bool.not_true,Bool.not_false,Bool.not_eq_true,Bool.not_eq_false,bne_eq_false_iff_eq,Decidable.not_not] at ht)
   have hj:s.jobs.length≤24:=by simp_all
   have hn:s.nodes.length≤6:=by simp_all; omega
   generalize hq:(eB c s s.jobs 0&&eO s s.nodes 0&&ew c s 0 c.bG.toNat)=r
   refine aY [2,3,52,53,54] [] (fun k:Nat=>k≤s.jobs.length∧(eB c s (s.jobs.drop k) k&&eO s s.nodes 0&&ew c s 0 c.bG.toNat)=r) (fun k=>s.jobs.length-k) (uK c s) 0 ?_ ⟨Nat.zero_le _,hq⟩ ?_
   ·simp only [uK,go_sem,simprocAttr,Int.natCast_zero]
   rintro k ⟨hk,hF⟩
   simp only [uK,go_sem,simprocAttr]
   refine bg (fun h=>?_) (fun h=>?_)
   ·have h:=dX h
    rw [List.drop_eq_getElem_cons h,eB] at hF
    simp only [get_map h,go_sem,simprocAttr,aG (show k<9223372036854775807 by omega)]
    refine aC (CY c s s.jobs[k] (k+1:Nat) hn ⟨hc.2.2.1,by omega⟩) rfl rfl rfl rfl ?_; simp only [go_sem,simprocAttr]
    cases hs:fP c s s.jobs[k] (k+1:Nat) with
    | false=>
      have hs':fP c s s.jobs[k] ((k:Int)+1)=false:=hs
      rw [hs'] at hF
      simp only [Bool.false_and] at hF
      simp only [go_sem,simprocAttr,← hF]
    | true=>
      have hs':fP c s s.jobs[k] ((k:Int)+1)=true:=hs
      rw [hs',Bool.true_and] at hF
      simp only [go_sem,simprocAttr]
      refine bz (k+1) ?_ ?_ ⟨h,hF⟩ (by omega)
      ·simp only [go_sem,simprocAttr]
      ·simp only [uK,go_sem,simprocAttr,aG (show k<9223372036854775807 by omega)]
   ·obtain rfl:=d_ h hk
    clear hq hk
    rw [List.drop_length,eB,Bool.true_and] at hF
    simp only [go_sem,simprocAttr]
    refine aY [2,3,68,69,70] [] (fun k:Nat=>k≤s.nodes.length∧(eO s (s.nodes.drop k) k&&ew c s 0 c.bG.toNat)=r) (fun k=>s.nodes.length-k) (uJ c s) 0 ?_ ⟨Nat.zero_le _,hF⟩ ?_
    ·simp only [uJ,go_sem,simprocAttr,Int.natCast_zero]
    clear hF
    rintro k ⟨hk,hF⟩
    simp only [uJ,go_sem,simprocAttr]
    refine bg (fun h=>?_) (fun h=>?_)
    ·have h:=dX h
     rw [List.drop_eq_getElem_cons h,eO] at hF
     simp only [get_map h,go_sem,simprocAttr]
     refine aC (Ga s s.nodes[k] k (by omega) (by omega)) rfl rfl rfl rfl ?_; simp only [go_sem,simprocAttr]
     cases hs:kO s s.nodes[k] k with
     | false=>
       rw [hs] at hF
       simp only [Bool.false_and] at hF
       simp only [go_sem,simprocAttr,← hF]
     | true=>
       rw [hs,Bool.true_and] at hF
       simp only [go_sem,simprocAttr]
       refine bz (k+1) ?_ ?_ ⟨h,hF⟩ (by omega)
       ·simp only [go_sem,simprocAttr]
       ·simp only [uJ,go_sem,simprocAttr,aG (show k<9223372036854775807 by omega)]
    ·obtain rfl:=d_ h hk
     clear hk
     rw [List.drop_length,eO,Bool.true_and] at hF
     simp only [go_sem,simprocAttr]
     refine aY [2,3,82,83] [] (fun k:Nat=>(k:Int)≤c.bG∧ew c s k (c.bG-k).toNat=r) (fun k=>(c.bG-k).toNat) (uI c s) 0 ?_ ⟨by omega,by simpa using hF⟩ ?_
     ·simp only [uI,go_sem,simprocAttr,Int.natCast_zero]
     clear hF
     rintro k ⟨hk,hF⟩
     simp only [uI,go_sem,simprocAttr]
     refine bg (fun h=>?_) (fun h=>?_) <;> simp only [h,go_sem,simprocAttr] <;> (try simp only [decide_eq_true_eq,decide_eq_false_iff_not] at h)
     ·rw [show (c.bG-(k:Int)).toNat=(c.bG-((k+1:Nat):Int)).toNat+1 by omega,ew] at hF
      refine bf (qp s k (by omega)) rfl rfl rfl rfl ?_; simp only [go_sem,simprocAttr]
      refine bg (fun hs=>?_) (fun hs=>?_) <;> simp only [hs,go_sem,simprocAttr] <;> (try simp only [decide_eq_true_eq,decide_eq_false_iff_not] at hs)
      ·rw [show decide (c.cD<cA s.jobs k)=true by simpa using hs] at hF
       simp only [Bool.not_true,Bool.false_and] at hF
       simp only [← hF,go_sem,simprocAttr]
      ·rw [show decide (c.cD<cA s.jobs k)=false by simpa using hs] at hF
       simp only [Bool.not_false,Bool.true_and] at hF
       refine bz (k+1) ?_ ?_ ⟨by omega,hF⟩ (by omega)
       ·simp only [go_sem,simprocAttr]
       ·simp only [uI,go_sem,simprocAttr,aG (show k<9223372036854775807 by omega)]
     ·rw [show (c.bG-(k:Int)).toNat=0 by omega,ew] at hF
      simp only [← hF,go_sem,simprocAttr]
end Dv
