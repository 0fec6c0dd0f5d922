/- The document's ops as bytes, and out of bytes. -/
import Derived.Test.YtkalnfkokkjliaaGreatDoorOA
import Derived.Test.YtkalnfkokkjliaaGreatDoorIB
set_option linter.unusedVariables false
set_option linter.unusedSimpArgs false
set_option maxRecDepth 100000
namespace Dv
open Go Go.Proofs
variable {G:Nat→Option (List DV)}
def TX:=qx Tryz.f242
theorem Qs:aq Tryz.prog Tryz.f242=some TX:=by kernel_rfl
def Vp:=qx Tryz.f125
theorem RZ:aq Tryz.prog Tryz.f125=some Vp:=by kernel_rfl
def Uw:=qx Tryz.f190
theorem Q4:aq Tryz.prog Tryz.f190=some Uw:=by kernel_rfl
attribute [local go_sem] af
def Ds (l:List Int) (i:Nat):List Int:=l.take i++List.replicate (6-i) 0
theorem Pe (l:List Int) (i:Nat) (h1:i≤6) (h2:i≤l.length):(Ds l i).length=6:=by simp [Ds]; omega
theorem Pd (l:List Int) (i:Nat) (h1:i<6) (h2:i<l.length):(Ds l i).set i (l.getD i 0)=Ds l (i+1):=by
 unfold Ds
 rw [List.set_append,List.length_take,Nat.min_eq_left (by omega),if_neg (by omega),Nat.sub_self,show 6-i=(6-(i+1))+1 by omega,List.replicate_succ,List.set_cons_zero]
 have:l.take (i+1)=l.take i++[l.getD i 0]:=by rw [List.take_add_one]; simp [List.getD,h2]
 rw [this,List.append_assoc]; rfl
theorem Pf (l:List Int) (j:Nat) (hj:j<6):(Ds l (min l.length 6)).getD j 0=l.getD j 0:=by
 unfold Ds
 by_cases h:j<l.length
 ·have h1:j<(l.take (min l.length 6)).length:=by rw [List.length_take]; omega
  simp only [List.getD]
  rw [List.getElem?_append_left h1,List.getElem?_take_of_lt (by omega)]
 ·have h1:(l.take (min l.length 6)).length≤j:=by rw [List.length_take]; omega
  simp only [List.getD]
  rw [List.getElem?_append_right h1,List.getElem?_replicate,List.getElem?_eq_none (Nat.le_of_not_lt h)]
  split <;> rfl
def ofS (kind:Int) (l:List Int) (i:Nat):St:=⟨[(0,.int kind),(1,.d (.dN 1 (bT l))),(4,.ptr 0 0),(5,.sl 1 6 1 0 6),(6,.int i)],[some (.box 37 [.int 0,.int 0,.int 0,.int 0,.int 0,.int 0,.int 0]),some (.dat 3 1 (bT (Ds l i)))]⟩
set_option maxHeartbeats 1000000 in
theorem PI (kind:Int) (l:List Int) (hl:l.length≤1000):br Tryz.prog G 242 [.int kind,.d (.dN 1 (bT l))] [] (rS (o5 kind l)) []:=by
 have hnl:(bT l).length=l.length:=by simp [bT]
 refine b_ Tryz.func242 (by decide) Qs rfl rfl ?_
 simp only [TX,go_sem,simprocAttr]
 refine aP [0,1,4,5,6] [] (fun i:Nat=>i≤6∧i≤l.length) (fun i=>6-i) (ofS kind l) 0 ?_ ⟨Nat.zero_le _,Nat.zero_le _⟩ ?_
 ·simp only [ofS,Ds,Int.natCast_zero,go_sem,simprocAttr]
  rfl
 rintro i ⟨hi6,hil⟩
 have h6l:=Pe l i hi6 hil
 have h6n:(bT (Ds l i)).length=6:=by simp only [bT,List.length_map,h6l]
 simp only [ofS,hnl,go_sem,simprocAttr]
 by_cases hlt:i<l.length∧i<6
 case pos=>
  obtain ⟨h1,h2⟩:=hlt
  have hg:=aB (f:=fun n:Int=>[i64 n]) 0 h1
  have oW:=Pd l i h2 h1
  generalize l.getD i 0=x at *
  have Ir:(bT l)[i]? = some [DV.val (.int .i64 x)]:=hg
  have h3:=aB (f:=fun n:Int=>[i64 n]) 0 (show i<(Ds l i).length by omega)
  have h3b:(bT (Ds l i))[i]? = some [DV.val (.int .i64 ((Ds l i).getD i 0))]:=h3
  have Z6:(bT (Ds l i)).set i [DV.val (.int .i64 x)]=bT (Ds l (i+1)):=by rw [← oW]; simp [bT]
  simp only [decide_eq_true (show ((i:Nat):Int)<((l.length:Nat):Int) by omega),decide_eq_true (show ((i:Nat):Int)<6 by omega),Ir,h2,h6n,h3b,Z6,go_sem,simprocAttr]
  refine aR (i+1) ?_ ?_ ⟨by omega,by omega⟩ (by omega)
  ·simp only [go_sem,simprocAttr]
  ·simp only [ofS,ax (show i<9223372036854775807 by omega),go_sem,simprocAttr]
 have him:i=min l.length 6:=by omega
 have hq:∀ j,j<6→(bT (Ds l i))[j]? = some [DV.val (.int .i64 (l.getD j 0))]:=fun j hj=>by
  have h3:=aB (f:=fun n:Int=>[i64 n]) 0 (show j<(Ds l i).length by omega)
  rw [him,Pf l j hj] at h3
  rw [him]; exact h3
 have h0:=hq 0 (by decide)
 have h1:=hq 1 (by decide)
 have h2:=hq 2 (by decide)
 have h3:=hq 3 (by decide)
 have h4:=hq 4 (by decide)
 have h5:=hq 5 (by decide)
 have hend:∀ b:Bool,b=true→decide (((i:Nat):Int)<((l.length:Nat):Int))=b→decide (((i:Nat):Int)<6)=false:=fun b hb h=>by
  subst hb
  have:=of_decide_eq_true h
  exact decide_eq_false (by omega)
 cases hd:decide (((i:Nat):Int)<((l.length:Nat):Int)) with
 | true=>
   simp only [hend true rfl hd,h6n,h0,h1,h2,h3,h4,h5,o5,go_sem,simprocAttr]
   refine az (by decide) ?_
   simp only [go_sem,simprocAttr]
 | false=>
   simp only [h6n,h0,h1,h2,h3,h4,h5,o5,go_sem,simprocAttr]
   refine az (by decide) ?_
   simp only [go_sem,simprocAttr]
set_option maxHeartbeats 1000000 in
theorem u7 (o:dH):br Tryz.prog G 125 [rS o] [] (af (dm o)) []:=by
 refine bD Tryz.func125 (by decide) RZ rfl ?_
 simp only [Vp,go_sem,simprocAttr]
 refine av (rR o) rfl rfl rfl rfl ?_; simp only [go_sem,simprocAttr]
 cases hr:dX o with
 | false=>
   have hp:dm o=[]:=by unfold dm; rw [if_neg (by rw [hr]; decide)]
   simp only [hp,go_sem,simprocAttr]
   exact kM rfl (by simp [aF,ah,af,ak,St.get,aO])
 | true=>
 have hk:=qQ hr
 have hp:dm o=fG (o.kind::(bL o).take (cq o.kind)):=by unfold dm; rw [if_pos hr]
 have hm:=ny o.kind
 have hT:br Tryz.prog G 211 [rS o] [] (.d (.dN 1 (bT (bL o)))) []:=vS o
 have hnl:(bT (bL o)).length=6:=rfl
 have lU:0≤cq o.kind∧cq o.kind≤6∧6≤6:=by omega
 simp only [go_sem,simprocAttr]
 refine bA (hT) rfl rfl rfl rfl ?_; simp only [go_sem,simprocAttr]
 refine bA (A0 o.kind) rfl rfl rfl rfl ?_; simp only [go_sem,simprocAttr]
 have htl:(List.take (cq o.kind) (bT (bL o))).length=cq o.kind:=by rw [List.length_take,hnl]; omega
 have htr:List.take (cq o.kind) (bT (bL o))=bT ((bL o).take (cq o.kind)):=by simp only [bT,List.map_take]
 simp only [hnl,lU,Nat.sub_zero,go_sem,simprocAttr]
 rw [if_pos (by rw [htl]; omega)]
 simp only [htl,htr,go_sem,simprocAttr]
 have hcl:(o.kind::(bL o).take (cq o.kind)).length=cq o.kind+1:=by rw [List.length_cons,List.length_take]; simp [bL]; omega
 have hcr:bT (o.kind::(bL o).take (cq o.kind))=[DV.val (.int .i64 o.kind)]::bT ((bL o).take (cq o.kind)):=rfl
 have hnc:(bT ((bL o).take (cq o.kind))).length=cq o.kind:=by rw [← htr,htl]
 have VR:=A2 (G:=G) (o.kind::(bL o).take (cq o.kind)) (by rw [hcl]; omega)
 rw [hcr] at VR
 rw [hp]
 have h12:1+cq o.kind=cq o.kind+1:=Nat.add_comm _ _
 refine ku [1] (VR) rfl (by simp [aa,ah,aM,ay,hnc,h12,List.take_of_length_le,go_sem,simprocAttr]) (by simp [ay]) rfl ?_; simp only [go_sem,simprocAttr]
 refine az (by decide) ?_
 simp only [go_sem,simprocAttr]
 exact fQ (aC:=[]) ⟨rfl,rfl⟩ rfl rfl rfl
def uf (b:List Int):Option dH:=match kn b 0 7 with
 | none=>none
 | some (xs,_)=>if 0<xs.length∧dm (o5 (xs.getD 0 0) (xs.drop 1))≠[]∧dm (o5 (xs.getD 0 0) (xs.drop 1))=b then some (o5 (xs.getD 0 0) (xs.drop 1)) else none
theorem Mi (o:dH):(dm o).length≤1000:=by
 unfold dm
 split
 ·unfold fG
  split
  ·have h1:=uj (o.kind::(bL o).take (cq o.kind))
   have h2:=dL ((o.kind::(bL o).take (cq o.kind)).length:Int)
   have h3:(o.kind::(bL o).take (cq o.kind)).length≤7:=by rw [List.length_cons,List.length_take]; simp [bL]; omega
   rw [List.length_append]; omega
  ·simp
 ·simp
set_option maxHeartbeats 2000000 in
theorem JD (b:List Int) (hb:∀ c∈b,0≤c∧c≤255) (hl:b.length≤1000000):br Tryz.prog G 190 [af b] [] (AO (uf b)) []:=by
 have hlb:(ak b).length=b.length:=by simp [ak]
 refine bD Tryz.func190 (by decide) Q4 rfl ?_
 generalize hq:uf b=q
 unfold uf at hq
 simp only [Uw,go_sem,simprocAttr]
 cases hL:kn b 0 7 with
 | none=>
   rw [hL] at hq
   subst hq
   refine av (kT b hb hl 7 (by decide) none hL) rfl rfl rfl rfl ?_
   simp only [oh,om,go_sem,simprocAttr]
   exact fQ (aC:=[]) ⟨rfl,rfl⟩ rfl rfl rfl
 | some xe=>
 obtain ⟨xs,e⟩:=xe
 obtain ⟨h1,h2,h3⟩:=ug (fun c hc=>(hb c hc).1) hL
 rw [hL] at hq
 dsimp only at hq
 refine fO (kT b hb hl 7 (by decide) (some (xs,e)) hL) rfl rfl rfl ?_
 simp only [oh,om,hlb,go_sem,simprocAttr]
 by_cases h0:0<xs.length
 case neg=>
  rw [if_neg (fun h=>h0 h.1)] at hq
  subst hq
  simp only [show (((xs.length:Nat):Int)==0)=true from beq_iff_eq.2 (by omega),go_sem,simprocAttr]
  exact fQ (aC:=[]) ⟨rfl,rfl⟩ rfl rfl rfl
 have hg:=aB (f:=fun n:Int=>[i64 n]) 0 h0
 generalize hx:xs.getD 0 0=x at *
 have Ir:(bT xs)[0]? = some [DV.val (.int .i64 x)]:=hg
 have hnl:(bT xs).length=xs.length:=by simp [bT]
 simp only [show (((xs.length:Nat):Int)==0)=false from beq_eq_false_iff_ne.2 (by omega),h0,Ir,hnl,go_sem,simprocAttr]
 rw [if_pos (show 1≤xs.length∧xs.length≤xs.length by omega)]
 have hdr:(xs.drop 1).length≤1000:=by rw [List.length_drop]; omega
 have hrows:List.take (xs.length-1) ((bT xs).drop 1)=bT (xs.drop 1):=by
  rw [List.take_of_length_le (by rw [List.length_drop,hnl]; omega)]
  simp only [bT,List.map_drop]
 have Gx:List.take (xs.length-1) (bT xs).tail=bT xs.tail:=by rw [← List.drop_one,← List.drop_one]; exact hrows
 have XN:1+(xs.length-1)≤xs.length:=by omega
 simp only [go_sem,simprocAttr]
 refine qz [1] (PI x (xs.drop 1) hdr) rfl (by simp [aa,ah,aM,ay,Gx,hnl,XN,go_sem,simprocAttr]) (by simp [ay]) rfl rfl ?_; simp only [go_sem,simprocAttr]
 rw [show (if 0<xs.length∧dm (o5 x (xs.drop 1))≠[]∧dm (o5 x (xs.drop 1))=b then some (o5 x (xs.drop 1)) else none)=if dm (o5 x (xs.drop 1))≠[]∧dm (o5 x (xs.drop 1))=b then some (o5 x (xs.drop 1)) else none by
  by_cases ho:dm (o5 x (xs.drop 1))≠[]∧dm (o5 x (xs.drop 1))=b
  ·rw [if_pos ⟨h0,ho⟩,if_pos ho]
  ·rw [if_neg (fun h=>ho h.2),if_neg ho]] at hq
 generalize o5 x (xs.drop 1)=o at *
 refine az (by decide) ?_
 simp only [go_sem,simprocAttr]
 refine av (u7 o) rfl rfl rfl rfl ?_; simp only [go_sem,simprocAttr]
 have iZ:=Mi o
 have hpr:(ak (dm o)).length=(dm o).length:=by simp [ak]
 by_cases hne:dm o=[]
 case pos=>
  rw [if_neg (fun h=>h.1 hne)] at hq
  subst hq
  simp only [hpr,show ((((dm o).length:Nat):Int)==0)=true by rw [hne]; rfl,go_sem,simprocAttr]
  exact fQ (aC:=[]) ⟨rfl,rfl⟩ rfl rfl rfl
 have hpos:0<(dm o).length:=List.length_pos_iff.2 hne
 simp only [hpr,show ((((dm o).length:Nat):Int)==0)=false from beq_eq_false_iff_ne.2 (by omega),go_sem,simprocAttr]
 refine av (vC (dm o) b (by omega)) rfl rfl rfl rfl ?_; simp only [go_sem,simprocAttr]
 cases hpb:decide (dm o=b) with
 | false=>
   rw [if_neg (fun h=>of_decide_eq_false hpb h.2)] at hq
   subst hq
   simp only [go_sem,simprocAttr]
   exact fQ (aC:=[]) ⟨rfl,rfl⟩ rfl rfl rfl
 | true=>
   rw [if_pos ⟨hne,of_decide_eq_true hpb⟩] at hq
   subst hq
   simp only [go_sem,simprocAttr]
   exact fQ (aC:=[]) ⟨rfl,rfl⟩ rfl rfl rfl
end Dv
