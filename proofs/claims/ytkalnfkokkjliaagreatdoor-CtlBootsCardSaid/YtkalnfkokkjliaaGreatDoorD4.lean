/- The book: stands, sound, Right. -/
import Derived.Test.YtkalnfkokkjliaaGreatDoorD3
set_option linter.unusedVariables false
set_option linter.unusedSimpArgs false
namespace Dv
open Go Go.Proofs
variable {G:Nat→Option (List DV)}
theorem FO (c:aI) (s:ai) (j:ct) (number:Int) (hn:s.nodes.length≤6) (h0:1≤c.bn∧c.bn≤1000):br Tryz.prog G 113 [f_ c,bz s,Gm j,.int number] [] (.bool (g_ c s j number)) []:=by
 refine b_ Tryz.func113 (by decide) R5 rfl rfl ?_
 simp only [Vt,go_sem,simprocAttr]
 unfold g_
 refine av (BB c j h0) rfl rfl rfl rfl ?_; simp only [go_sem,simprocAttr]
 repeat' (first
  | (refine av (fk _ _ _) rfl rfl rfl rfl ?_; simp only [go_sem,simprocAttr])
  | ((first | with_reducible refine cc (fun h=>?_) (fun h=>?_) | refine bI (fun h=>?_) (fun h=>?_)) <;> simp only [h,go_sem,simprocAttr]))
 refine cE (fun h1=>?_) (fun h1=>?_) <;> simp only [h1,go_sem,simprocAttr] <;> (try simp only [beq_iff_eq,beq_eq_false_iff_ne,bne_iff_ne,ne_eq,decide_eq_true_eq,decide_eq_false_iff_not,Bool.not_true,Bool.not_false,Bool.not_eq_true,Bool.not_eq_false,bne_eq_false_iff_eq,Decidable.not_not] at h1)
 refine av (F4 _) rfl rfl rfl rfl ?_; simp only [go_sem,simprocAttr]
 refine cE (fun h2=>?_) (fun h2=>?_) <;> simp only [h2,go_sem,simprocAttr] <;> (try simp only [beq_iff_eq,beq_eq_false_iff_ne,bne_iff_ne,ne_eq,decide_eq_true_eq,decide_eq_false_iff_not,Bool.not_true,Bool.not_false,Bool.not_eq_true,Bool.not_eq_false,bne_eq_false_iff_eq,Decidable.not_not] at h2)
 ·rfl
 refine au [3] (KE s j j.nodes 197 3 [.int number] (kA number) hn rfl (fun n=>FI n number)) rfl ?_ (by decide) ?_ ?_ (by simp) ?_ <;> simp only [aa,ah,go_sem,simprocAttr]
theorem Jm (s:ai) (n:bu) (number:Nat) (hnb:number<50) (hl:s.jobs.length≤1000000):br Tryz.prog G 114 [bz s,yD n,.int number] [] (.bool (mL s n number)) []:=by
 refine b_ Tryz.func114 (by decide) R4 rfl rfl ?_
 simp only [Vs,go_sem,simprocAttr]
 unfold mL
 have e1:∀ x:Int,decide (x≠0)=(x !=0):=fun x=>by rw [Bool.eq_iff_iff]; simp
 have e2:∀ x:Int,decide (x=0)=(x==0):=fun x=>rfl
 rw [e1,e2]
 refine av (fk _ _ _) rfl rfl rfl rfl ?_; simp only [go_sem,simprocAttr]
 refine cc (fun h1=>?_) (fun h1=>?_) <;> simp only [h1,go_sem,simprocAttr] <;> (try simp only [beq_iff_eq,beq_eq_false_iff_ne,bne_iff_ne,ne_eq,decide_eq_true_eq,decide_eq_false_iff_not,Bool.not_true,Bool.not_false,Bool.not_eq_true,Bool.not_eq_false,bne_eq_false_iff_eq,Decidable.not_not] at h1)
 refine av (fk _ _ _) rfl rfl rfl rfl ?_; simp only [go_sem,simprocAttr]
 cases h2:aT n.bW 0 s.jobs.length with
 | false=>simp only [go_sem,simprocAttr]
 | true=>
   simp only [go_sem,simprocAttr]
   have hb:0≤n.bW∧n.bW≤s.jobs.length:=of_decide_eq_true h2
   cases hj:(n.bW==0) with
   | true=>
     have hj2:(n.bW !=0)=false:=by simp [bne,hj]
     simp only [hj2,go_sem,simprocAttr]
     repeat' (first | simp only [hj,hj2,go_sem,simprocAttr] | ((first | with_reducible refine cc (fun h=>?_) (fun h=>?_) | refine bI (fun h=>?_) (fun h=>?_)) <;> simp only [h,go_sem,simprocAttr]) | ((first | with_reducible refine cE (fun h=>?_) (fun h=>?_) | refine aJ (fun h=>?_) (fun h=>?_)) <;> simp only [h,go_sem,simprocAttr]))
   | false=>
     have hj2:(n.bW !=0)=true:=by simp [bne,hj]
     have hj3:n.bW≠0:=by simpa using hj
     have hw:IntKind.i64.wrap (n.bW-1)=n.bW-1:=aD (by omega) (by omega)
     have h0:0≤n.bW-1:=by omega
     have hg:(s.jobs.map cQ)[(n.bW-1).toNat]? = some (cQ (s.jobs.getD (n.bW-1).toNat aK)):=aB _ (by omega)
     simp only [hj2,go_sem,simprocAttr]
     repeat' (first | simp only [hj,hj2,hw,h0,hg,Hf _ number (show number<64 by omega),go_sem,simprocAttr] | ((first | with_reducible refine cc (fun h=>?_) (fun h=>?_) | refine bI (fun h=>?_) (fun h=>?_)) <;> simp only [h,go_sem,simprocAttr]) | ((first | with_reducible refine cE (fun h=>?_) (fun h=>?_) | refine aJ (fun h=>?_) (fun h=>?_)) <;> simp only [h,go_sem,simprocAttr]))
def wY (c:aI) (s:ai) (k:Nat):St:=⟨[(2,.ptr 0 0),(3,.ptr 1 0),(52,cA s.jobs),(53,.int s.jobs.length),(54,.int k)],[some (.box 23 [.int c.nodes,.int c.bn,.int c.cv,.int c.gJ,.int c.eF,.int c.eE,.int c.deadline,.int c.room,.int c.gq]),some (.box 30 [bK s.nodes,cA s.jobs,.int s.goal,.int s.bH,.int s.mode,.int s.term])]⟩
def wX (c:aI) (s:ai) (k:Nat):St:=⟨[(2,.ptr 0 0),(3,.ptr 1 0),(68,bK s.nodes),(69,.int s.nodes.length),(70,.int k)],[some (.box 23 [.int c.nodes,.int c.bn,.int c.cv,.int c.gJ,.int c.eF,.int c.eE,.int c.deadline,.int c.room,.int c.gq]),some (.box 30 [bK s.nodes,cA s.jobs,.int s.goal,.int s.bH,.int s.mode,.int s.term])]⟩
def wW (c:aI) (s:ai) (k:Nat):St:=⟨[(2,.ptr 0 0),(3,.ptr 1 0),(82,.int c.bn),(83,.int k)],[some (.box 23 [.int c.nodes,.int c.bn,.int c.cv,.int c.gJ,.int c.eF,.int c.eE,.int c.deadline,.int c.room,.int c.gq]),some (.box 30 [bK s.nodes,cA s.jobs,.int s.goal,.int s.bH,.int s.mode,.int s.term])]⟩
theorem vf {c:aI} (h:iH c=true):1≤c.nodes∧c.nodes≤6∧1≤c.bn∧c.bn≤3:=by
 unfold iH at h
 simp only [Bool.and_eq_true] at h
 have h1:=bf h.1.1.1.1.1.1.1.1
 have h2:=bf h.1.1.1.1.1.1.1.2
 omega
theorem AE (c:aI) (s:ai):br Tryz.prog G 42 [f_ c,bz s] [] (.bool (iy c s)) []:=by
 refine b_ Tryz.func42 (by decide) Xg rfl rfl ?_
 simp only [ZJ,go_sem,simprocAttr]
 unfold iy
 have e1:decide ((s.nodes.length:Int)=c.nodes) = !((s.nodes.length:Int) !=c.nodes):=by rw [Bool.eq_iff_iff]; simp
 have e2:decide (s.jobs.length≤24) = !(decide ((s.jobs.length:Int)>24)):=by rw [Bool.eq_iff_iff]; simp; omega
 rw [e1,e2]
 refine av (qU c) rfl rfl rfl rfl ?_; simp only [go_sem,simprocAttr]
 cases hm:iH c with
 | false=>simp only [go_sem,simprocAttr]
 | true=>
   have hc:=vf hm
   simp only [go_sem,simprocAttr]
   repeat' (first
    | (refine av (fk _ _ _) rfl rfl rfl rfl ?_; simp only [go_sem,simprocAttr])
    | ((first | with_reducible refine cc (fun h=>?_) (fun h=>?_) | refine bI (fun h=>?_) (fun h=>?_)) <;> simp only [h,go_sem,simprocAttr]))
   refine cE (fun ht=>?_) (fun ht=>?_) <;> simp only [ht,go_sem,simprocAttr] <;> (try simp only [beq_iff_eq,beq_eq_false_iff_ne,bne_iff_ne,ne_eq,decide_eq_true_eq,decide_eq_false_iff_not,Bool.not_true,Bool.not_false,Bool.not_eq_true,Bool.not_eq_false,bne_eq_false_iff_eq,Decidable.not_not] at ht)
   have hj:s.jobs.length≤24:=by simp_all
   have hn:s.nodes.length≤6:=by simp_all; omega
   generalize hq:(fm c s s.jobs 0&&fI s s.nodes 0&&di c s 0 c.bn.toNat)=r
   refine aP [2,3,52,53,54] [] (fun k:Nat=>k≤s.jobs.length∧(fm c s (s.jobs.drop k) k&&fI s s.nodes 0&&di c s 0 c.bn.toNat)=r) (fun k=>s.jobs.length-k) (wY c s) 0 ?_ ⟨Nat.zero_le _,hq⟩ ?_
   ·simp only [wY,go_sem,simprocAttr,Int.natCast_zero]
   rintro k ⟨hk,hF⟩
   simp only [wY,go_sem,simprocAttr]
   refine aJ (fun h=>?_) (fun h=>?_)
   ·have h:=dz h
    rw [List.drop_eq_getElem_cons h,fm] at hF
    simp only [get_map h,go_sem,simprocAttr,ax (show k<9223372036854775807 by omega)]
    refine av (FO c s s.jobs[k] (k+1:Nat) hn ⟨hc.2.2.1,by omega⟩) rfl rfl rfl rfl ?_; simp only [go_sem,simprocAttr]
    cases hs:g_ c s s.jobs[k] (k+1:Nat) with
    | false=>
      have hs':g_ c s s.jobs[k] ((k:Int)+1)=false:=hs
      rw [hs'] at hF
      simp only [Bool.false_and] at hF
      simp only [go_sem,simprocAttr,← hF]
    | true=>
      have hs':g_ c s s.jobs[k] ((k:Int)+1)=true:=hs
      rw [hs',Bool.true_and] at hF
      simp only [go_sem,simprocAttr]
      refine aR (k+1) ?_ ?_ ⟨h,hF⟩ (by omega)
      ·simp only [go_sem,simprocAttr]
      ·simp only [wY,go_sem,simprocAttr,ax (show k<9223372036854775807 by omega)]
   ·obtain rfl:=dA h hk
    clear hq hk
    rw [List.drop_length,fm,Bool.true_and] at hF
    simp only [go_sem,simprocAttr]
    refine aP [2,3,68,69,70] [] (fun k:Nat=>k≤s.nodes.length∧(fI s (s.nodes.drop k) k&&di c s 0 c.bn.toNat)=r) (fun k=>s.nodes.length-k) (wX c s) 0 ?_ ⟨Nat.zero_le _,hF⟩ ?_
    ·simp only [wX,go_sem,simprocAttr,Int.natCast_zero]
    clear hF
    rintro k ⟨hk,hF⟩
    simp only [wX,go_sem,simprocAttr]
    refine aJ (fun h=>?_) (fun h=>?_)
    ·have h:=dz h
     rw [List.drop_eq_getElem_cons h,fI] at hF
     simp only [get_map h,go_sem,simprocAttr]
     refine av (Jm s s.nodes[k] k (by omega) (by omega)) rfl rfl rfl rfl ?_; simp only [go_sem,simprocAttr]
     cases hs:mL s s.nodes[k] k with
     | false=>
       rw [hs] at hF
       simp only [Bool.false_and] at hF
       simp only [go_sem,simprocAttr,← hF]
     | true=>
       rw [hs,Bool.true_and] at hF
       simp only [go_sem,simprocAttr]
       refine aR (k+1) ?_ ?_ ⟨h,hF⟩ (by omega)
       ·simp only [go_sem,simprocAttr]
       ·simp only [wX,go_sem,simprocAttr,ax (show k<9223372036854775807 by omega)]
    ·obtain rfl:=dA h hk
     clear hk
     rw [List.drop_length,fI,Bool.true_and] at hF
     simp only [go_sem,simprocAttr]
     refine aP [2,3,82,83] [] (fun k:Nat=>(k:Int)≤c.bn∧di c s k (c.bn-k).toNat=r) (fun k=>(c.bn-k).toNat) (wW c s) 0 ?_ ⟨by omega,by simpa using hF⟩ ?_
     ·simp only [wW,go_sem,simprocAttr,Int.natCast_zero]
     clear hF
     rintro k ⟨hk,hF⟩
     simp only [wW,go_sem,simprocAttr]
     refine aJ (fun h=>?_) (fun h=>?_) <;> simp only [h,go_sem,simprocAttr] <;> (try simp only [beq_iff_eq,beq_eq_false_iff_ne,bne_iff_ne,ne_eq,decide_eq_true_eq,decide_eq_false_iff_not,Bool.not_true,Bool.not_false,Bool.not_eq_true,Bool.not_eq_false,bne_eq_false_iff_eq,Decidable.not_not] at h)
     ·rw [show (c.bn-(k:Int)).toNat=(c.bn-((k+1:Nat):Int)).toNat+1 by omega,di] at hF
      refine bA (zq s k (by omega)) rfl rfl rfl rfl ?_; simp only [go_sem,simprocAttr]
      refine aJ (fun hs=>?_) (fun hs=>?_) <;> simp only [hs,go_sem,simprocAttr] <;> (try simp only [beq_iff_eq,beq_eq_false_iff_ne,bne_iff_ne,ne_eq,decide_eq_true_eq,decide_eq_false_iff_not,Bool.not_true,Bool.not_false,Bool.not_eq_true,Bool.not_eq_false,bne_eq_false_iff_eq,Decidable.not_not] at hs)
      ·rw [show decide (c.cv<cu s.jobs k)=true by simpa using hs] at hF
       simp only [Bool.not_true,Bool.false_and] at hF
       simp only [← hF,go_sem,simprocAttr]
      ·rw [show decide (c.cv<cu s.jobs k)=false by simpa using hs] at hF
       simp only [Bool.not_false,Bool.true_and] at hF
       refine aR (k+1) ?_ ?_ ⟨by omega,hF⟩ (by omega)
       ·simp only [go_sem,simprocAttr]
       ·simp only [wW,go_sem,simprocAttr,ax (show k<9223372036854775807 by omega)]
     ·rw [show (c.bn-(k:Int)).toNat=0 by omega,di] at hF
      simp only [← hF,go_sem,simprocAttr]
end Dv
