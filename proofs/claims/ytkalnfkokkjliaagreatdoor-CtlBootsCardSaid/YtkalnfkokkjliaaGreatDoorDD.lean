/- The logical machine and its plain laws: parts D15, D16, D17, D18, D19, proved sound. -/
import Derived.Test.YtkalnfkokkjliaaGreatDoorDA
set_option linter.unusedVariables false
set_option linter.unusedSimpArgs false
set_option maxRecDepth 100000
namespace Dv
open Go Go.Proofs
variable {G:Nat→Option (List DV)}
def ZX:=qx Tryz.f14
theorem Xv:aq Tryz.prog Tryz.f14=some ZX:=by kernel_rfl
def Vi:=qx Tryz.f135
theorem RQ:aq Tryz.prog Tryz.f135=some Vi:=by kernel_rfl
def TM:=qx Tryz.f276
theorem Qg:aq Tryz.prog Tryz.f276=some TM:=by kernel_rfl
def Zz:=qx Tryz.f69
theorem W7:aq Tryz.prog Tryz.f69=some Zz:=by kernel_rfl
def Ve:=qx Tryz.f139
theorem RM:aq Tryz.prog Tryz.f139=some Ve:=by kernel_rfl
def ZA:=qx Tryz.f68
theorem W8:aq Tryz.prog Tryz.f68=some ZA:=by kernel_rfl
def Vf:=qx Tryz.f138
theorem RN:aq Tryz.prog Tryz.f138=some Vf:=by kernel_rfl
def Vg:=qx Tryz.f137
theorem RO:aq Tryz.prog Tryz.f137=some Vg:=by kernel_rfl
def ZW:=qx Tryz.f15
theorem Xu:aq Tryz.prog Tryz.f15=some ZW:=by kernel_rfl
def ZV:=qx Tryz.f16
theorem Xt:aq Tryz.prog Tryz.f16=some ZV:=by kernel_rfl
def ZD:=qx Tryz.f65
theorem Xa:aq Tryz.prog Tryz.f65=some ZD:=by kernel_rfl
theorem ML (c:aI):iH c=decide (1≤c.nodes∧c.nodes≤6∧1≤c.bn∧c.bn≤3∧0≤c.cv∧c.cv≤4∧1≤c.gJ∧c.gJ≤6∧2≤c.eF∧c.eF≤30∧1≤c.eE∧c.eE≤20∧1≤c.deadline∧c.deadline≤60∧0≤c.room∧c.room≤5000∧2000≤c.gq∧c.gq≤40000):=by
 rw [Bool.eq_iff_iff]
 simp only [iH,aT,Bool.and_eq_true,decide_eq_true_eq,and_assoc]
theorem Hi (c:aI) (j:ct):gV c j=decide (0≤j.queue∧j.queue<c.bn∧0≤j.prio∧j.prio≤9∧1≤j.min∧j.min≤j.max∧j.max≤c.nodes∧1≤j.work∧j.work≤1000∧0≤j.ia∧j.ia≤9):=by
 rw [Bool.eq_iff_iff]
 simp only [gV,aT,Bool.and_eq_true,decide_eq_true_eq,and_assoc]
 omega
theorem tS (c:aI):br Tryz.prog G 14 [f_ c] [] (.bool (iH c)) []:=by
 refine b_ Tryz.func14 (by decide) Xv rfl rfl ?_
 simp only [ZX,go_sem,simprocAttr]
 rw [ML]
 repeat' (first | ((first | with_reducible refine cc (fun h=>?_) (fun h=>?_) | refine bI (fun h=>?_) (fun h=>?_)) <;> simp only [h,go_sem,simprocAttr] <;> (try simp only [beq_iff_eq,beq_eq_false_iff_ne,bne_iff_ne,ne_eq,decide_eq_true_eq,decide_eq_false_iff_not,Bool.not_true,Bool.not_false,Bool.not_eq_true,Bool.not_eq_false,bne_eq_false_iff_eq,Decidable.not_not] at h)) | ((first | with_reducible refine cE (fun h=>?_) (fun h=>?_) | refine aJ (fun h=>?_) (fun h=>?_)) <;> simp only [h,go_sem,simprocAttr] <;> (try simp only [beq_iff_eq,beq_eq_false_iff_ne,bne_iff_ne,ne_eq,decide_eq_true_eq,decide_eq_false_iff_not,Bool.not_true,Bool.not_false,Bool.not_eq_true,Bool.not_eq_false,bne_eq_false_iff_eq,Decidable.not_not] at h)))
 all_goals first | (symm; apply decide_eq_false; omega) | (symm; apply decide_eq_true; omega) | (rw [Bool.eq_iff_iff]; simp only [decide_eq_true_eq]; omega)
theorem zJ (c:aI) (j:ct):br Tryz.prog G 135 [f_ c,Gm j] [] (.bool (gV c j)) []:=by
 refine b_ Tryz.func135 (by decide) RQ rfl rfl ?_
 simp only [Vi,go_sem,simprocAttr]
 rw [Hi]
 repeat' (first | ((first | with_reducible refine cc (fun h=>?_) (fun h=>?_) | refine bI (fun h=>?_) (fun h=>?_)) <;> simp only [h,go_sem,simprocAttr] <;> (try simp only [beq_iff_eq,beq_eq_false_iff_ne,bne_iff_ne,ne_eq,decide_eq_true_eq,decide_eq_false_iff_not,Bool.not_true,Bool.not_false,Bool.not_eq_true,Bool.not_eq_false,bne_eq_false_iff_eq,Decidable.not_not] at h)) | ((first | with_reducible refine cE (fun h=>?_) (fun h=>?_) | refine aJ (fun h=>?_) (fun h=>?_)) <;> simp only [h,go_sem,simprocAttr] <;> (try simp only [beq_iff_eq,beq_eq_false_iff_ne,bne_iff_ne,ne_eq,decide_eq_true_eq,decide_eq_false_iff_not,Bool.not_true,Bool.not_false,Bool.not_eq_true,Bool.not_eq_false,bne_eq_false_iff_eq,Decidable.not_not] at h)))
 all_goals first | (symm; apply decide_eq_false; omega) | (symm; apply decide_eq_true; omega) | (rw [Bool.eq_iff_iff]; simp only [decide_eq_true_eq]; omega)
theorem vT (n:Int):br Tryz.prog G 276 [.int n] [] (.bool (aT n 0 1000000)) []:=by
 refine b_ Tryz.func276 (by decide) Qg rfl rfl ?_
 simp only [TM,go_sem,simprocAttr]
 unfold aT
 repeat' (first | ((first | with_reducible refine cc (fun h=>?_) (fun h=>?_) | refine bI (fun h=>?_) (fun h=>?_)) <;> simp only [h,go_sem,simprocAttr] <;> (try simp only [beq_iff_eq,beq_eq_false_iff_ne,bne_iff_ne,ne_eq,decide_eq_true_eq,decide_eq_false_iff_not,Bool.not_true,Bool.not_false,Bool.not_eq_true,Bool.not_eq_false,bne_eq_false_iff_eq,Decidable.not_not] at h)) | ((first | with_reducible refine cE (fun h=>?_) (fun h=>?_) | refine aJ (fun h=>?_) (fun h=>?_)) <;> simp only [h,go_sem,simprocAttr] <;> (try simp only [beq_iff_eq,beq_eq_false_iff_ne,bne_iff_ne,ne_eq,decide_eq_true_eq,decide_eq_false_iff_not,Bool.not_true,Bool.not_false,Bool.not_eq_true,Bool.not_eq_false,bne_eq_false_iff_eq,Decidable.not_not] at h)))
 all_goals first | (symm; apply decide_eq_false; omega) | (symm; apply decide_eq_true; omega) | (rw [Bool.eq_iff_iff]; simp only [decide_eq_true_eq]; omega)
theorem iJ (n:Int) (i:Nat) (hi:i<64):br Tryz.prog G 69 [.int n,.int i] [] (.bool (hasB n i)) []:=by
 refine b_ Tryz.func69 (by decide) W7 rfl rfl ?_
 simp only [Zz,go_sem,simprocAttr]
 have hw:IntKind.u64.wrap (i:Int)=i:=by simp [IntKind.wrap,IntKind.bits,IntKind.signed]; omega
 simp only [hw,Hf n i hi,go_sem,simprocAttr]
def Eg (n:Int) (k:Nat):St:=⟨[(0,.int n),(3,.int (jo n k)),(4,.int k)],[]⟩
theorem AZ (n:Int):br Tryz.prog G 139 [.int n] [] (.int (many n)) []:=by
 refine b_ Tryz.func139 (by decide) RM rfl rfl ?_
 simp only [Ve,go_sem,simprocAttr]
 refine aP [0,3,4] [] (fun k:Nat=>k≤6) (fun k=>6-k) (Eg n) 0 ?_ (by omega) (fun k hk=>?_)
 ·simp only [Eg,go_sem,simprocAttr,jo,Int.natCast_zero]
 simp only [Eg,go_sem,simprocAttr]
 refine aJ (fun h=>?_) (fun h=>?_) <;> simp only [h,go_sem,simprocAttr] <;> (try simp only [beq_iff_eq,beq_eq_false_iff_ne,bne_iff_ne,ne_eq,decide_eq_true_eq,decide_eq_false_iff_not,Bool.not_true,Bool.not_false,Bool.not_eq_true,Bool.not_eq_false,bne_eq_false_iff_eq,Decidable.not_not] at h)
 ·have hb:=AY n k
  refine av (iJ n k (by omega)) rfl rfl rfl rfl ?_; simp only [go_sem,simprocAttr]
  cases hh:hasB n k with
  | true=>
    have e:IntKind.i64.wrap (jo n k+1)=jo n (k+1):=by rw [aD (by omega) (by omega)]; simp [jo,Iy,hh]
    simp only [go_sem,simprocAttr]
    refine aR (k+1) ?_ ?_ (by omega) (by omega)
    ·simp only [go_sem,simprocAttr]
    ·simp only [Eg,go_sem,simprocAttr,ax (show k<9223372036854775807 by omega),e]
  | false=>
    have e:jo n k=jo n (k+1):=by simp [jo,Iy,hh]
    simp only [go_sem,simprocAttr]
    refine aR (k+1) ?_ ?_ (by omega) (by omega)
    ·simp only [go_sem,simprocAttr]
    ·simp only [Eg,go_sem,simprocAttr,ax (show k<9223372036854775807 by omega),e]
 ·obtain rfl:k=6:=by omega
  simp only [many,go_sem,simprocAttr]
theorem Gg (s:ai):br Tryz.prog G 68 [bz s] [] (.int (nt s)) []:=by
 refine b_ Tryz.func68 (by decide) W8 rfl rfl ?_
 simp only [ZA,go_sem,simprocAttr]
 unfold nt
 refine aJ (fun h=>?_) (fun h=>?_) <;> simp only [h,go_sem,simprocAttr] <;> (try simp only [beq_iff_eq,beq_eq_false_iff_ne,bne_iff_ne,ne_eq,decide_eq_true_eq,decide_eq_false_iff_not,Bool.not_true,Bool.not_false,Bool.not_eq_true,Bool.not_eq_false,bne_eq_false_iff_eq,Decidable.not_not] at h)
 ·rw [if_pos h]
 ·rw [if_neg h]
def nK (s:ai) (q:Int) (k:Nat):St:=⟨[(1,.int q),(2,.ptr 0 0),(5,.int (cu (s.jobs.take k) q)),(6,.int k)],[some (.box 30 [bK s.nodes,cA s.jobs,.int s.goal,.int s.bH,.int s.mode,.int s.term])]⟩
theorem wo (s:ai) (q:Int) (hn:s.jobs.length≤9223372036854775806):br Tryz.prog G 138 [bz s,.int q] [] (.int (cu s.jobs q)) []:=by
 refine b_ Tryz.func138 (by decide) RN rfl rfl ?_
 simp only [Vf,go_sem,simprocAttr]
 refine aP [1,2,5,6] [] (fun k:Nat=>k≤s.jobs.length) (fun k=>s.jobs.length-k) (nK s q) 0 ?_ (Nat.zero_le _) (fun k hk=>?_)
 ·simp only [nK,go_sem,simprocAttr,cu,List.filter_nil,Int.natCast_zero]
 simp only [nK,go_sem,simprocAttr]
 refine aJ (fun h=>?_) (fun h=>?_)
 ·have h:=dz h
  have hb:=zu (s.jobs.take k) q
  rw [List.length_take] at hb
  have hs:s.jobs.take (k+1)=s.jobs.take k++[s.jobs[k]]:=by rw [List.take_succ_eq_append_getElem h]
  have hd:=ou (s.jobs.take k) s.jobs[k] q
  simp only [get_map h,go_sem,simprocAttr]
  refine bI (fun h1=>?_) (fun h1=>?_) <;> simp only [h1,go_sem,simprocAttr] <;> (try simp only [beq_iff_eq,beq_eq_false_iff_ne,bne_iff_ne,ne_eq,decide_eq_true_eq,decide_eq_false_iff_not,Bool.not_true,Bool.not_false,Bool.not_eq_true,Bool.not_eq_false,bne_eq_false_iff_eq,Decidable.not_not] at h1)
  ·simp only [get_map h,go_sem,simprocAttr]
   refine aJ (fun h2=>?_) (fun h2=>?_) <;> simp only [h2,go_sem,simprocAttr] <;> (try simp only [beq_iff_eq,beq_eq_false_iff_ne,bne_iff_ne,ne_eq,decide_eq_true_eq,decide_eq_false_iff_not,Bool.not_true,Bool.not_false,Bool.not_eq_true,Bool.not_eq_false,bne_eq_false_iff_eq,Decidable.not_not] at h2)
   ·refine aR (k+1) ?_ ?_ (by omega) (by omega)
    ·simp only [go_sem,simprocAttr]
    ·simp only [nK,go_sem,simprocAttr,ax (show k<9223372036854775807 by omega),hs,hd,h1,h2,aD (show -9223372036854775808≤cu (s.jobs.take k) q+1 by omega) (by omega)]
   ·refine aR (k+1) ?_ ?_ (by omega) (by omega)
    ·simp only [go_sem,simprocAttr]
    ·simp only [nK,go_sem,simprocAttr,ax (show k<9223372036854775807 by omega),hs,hd,h1,h2,false_and,and_false,Int.add_zero]
  ·refine aR (k+1) ?_ ?_ (by omega) (by omega)
   ·simp only [go_sem,simprocAttr]
   ·simp only [nK,go_sem,simprocAttr,ax (show k<9223372036854775807 by omega),hs,hd,h1,false_and,and_false,Int.add_zero]
 ·obtain rfl:=dA h hk
  simp only [go_sem,simprocAttr,List.take_length]
theorem Bo (n:bu):br Tryz.prog G 137 [yD n] [] (.bool (jr n)) []:=by
 refine b_ Tryz.func137 (by decide) RO rfl rfl ?_
 simp only [Vg,go_sem,simprocAttr]
 unfold jr
 cases n.up <;> cases n.bV <;> cases n.aU <;> rfl
def node1:bu:=⟨true,false,false,1,0⟩
def yI (c:aI):ai:=if iH c=true then ⟨List.replicate c.nodes.toNat node1,[],1,1,0,0⟩ else kY
def PT (c:aI) (k:Nat):St:=⟨[(1,.ptr 0 0),(2,.ptr 1 0),(3,.ptr 2 0),(10,.int c.nodes),(11,.int k)],[some (.box 23 [.int c.nodes,.int c.bn,.int c.cv,.int c.gJ,.int c.eF,.int c.eE,.int c.deadline,.int c.room,.int c.gq]),some (.box 30 [.d (.val (.slice none 0 0)),.d (.val (.slice none 0 0)),.int 0,.int 0,.int 0,.int 0]),some (.box 30 [.sl 3 k 5 0 k,.d (.val (.slice none 0 0)),.int 1,.int 1,.int 0,.int 0]),some (.dat 102 5 ((List.replicate k node1).map a_))]⟩
theorem PS (c:aI):br Tryz.prog G 15 [f_ c] [] (bz (yI c)) []:=by
 refine bD Tryz.func15 (by decide) Xu rfl ?_
 simp only [ZW,go_sem,simprocAttr]
 refine av (qU c) rfl rfl rfl rfl ?_; simp only [go_sem,simprocAttr]
 unfold yI
 cases hm:iH c with
 | false=>
   simp only [go_sem,simprocAttr]
   exact bw [] rfl (by simp) (by simp [St.obj,ay,aF,St.get,aO,ah,aa,aM,kY,LV.int])
 | true=>
   have hc:=lS hm
   simp only [go_sem,simprocAttr]
   refine aP [1,2,3,10,11] [.b 2 0 102 5] (fun k:Nat=>(k:Int)≤c.nodes) (fun k=>(c.nodes-k).toNat) (PT c) 0 ?_ (by omega) (fun k hk=>?_)
   ·simp only [PT,go_sem,simprocAttr,List.replicate_zero,Int.natCast_zero]
   simp only [PT,go_sem,simprocAttr]
   refine aJ (fun h=>?_) (fun h=>?_) <;> simp only [h,go_sem,simprocAttr] <;> (try simp only [beq_iff_eq,beq_eq_false_iff_ne,bne_iff_ne,ne_eq,decide_eq_true_eq,decide_eq_false_iff_not,Bool.not_true,Bool.not_false,Bool.not_eq_true,Bool.not_eq_false,bne_eq_false_iff_eq,Decidable.not_not] at h)
   ·have hbd:(k+1)*24≤70368744177664:=by omega
    simp only [List.length_append,List.length_replicate,hbd,go_sem,simprocAttr]
    refine aR (k+1) ?_ ?_ (by omega) (by omega)
    ·simp only [go_sem,simprocAttr]
    ·simp only [PT,go_sem,simprocAttr,ax (show k<9223372036854775807 by omega),List.replicate_succ',List.map_append]
     rfl
   ·obtain rfl:k=c.nodes.toNat:=by omega
    exact bw [3] rfl (by simp [St.obj,ay]) (by simp [St.obj,ay,aF,St.get,aO,ah,aa,aM,LV.int,List.take_of_length_le])
def HU (c:aI) (k:Nat):St:=⟨[(1,.ptr 0 0),(2,.ptr 1 0),(3,.ptr 2 0),(4,.int k)],[some (.box 23 [.int c.nodes,.int c.bn,.int c.cv,.int c.gJ,.int c.eF,.int c.eE,.int c.deadline,.int c.room,.int c.gq]),some (.box 30 [.d (.val (.slice none 0 0)),.d (.val (.slice none 0 0)),.int 0,.int 0,.int 0,.int 0]),some (.box 30 [.sl 3 k 5 0 k,.d (.val (.slice none 0 0)),.int 0,.int 0,.int 0,.int 0]),some (.dat 102 5 ((List.replicate k node1).map a_))]⟩
theorem MI (c:aI):br Tryz.prog G 16 [f_ c] [] (bz (yI c)) []:=by
 refine bD Tryz.func16 (by decide) Xt rfl ?_
 simp only [ZV,go_sem,simprocAttr]
 refine av (tS c) rfl rfl rfl rfl ?_; simp only [go_sem,simprocAttr]
 unfold yI
 cases hm:iH c with
 | false=>
   simp only [go_sem,simprocAttr]
   exact bw [] rfl (by simp) (by simp [St.obj,ay,aF,St.get,aO,ah,aa,aM,kY,LV.int])
 | true=>
   have hc:=lS hm
   simp only [go_sem,simprocAttr]
   refine aP [1,2,3,4] [.b 2 0 102 5] (fun k:Nat=>(k:Int)≤c.nodes) (fun k=>(c.nodes-k).toNat) (HU c) 0 ?_ (by omega) (fun k hk=>?_)
   ·simp only [HU,go_sem,simprocAttr,List.replicate_zero,Int.natCast_zero]
   simp only [HU,go_sem,simprocAttr]
   refine aJ (fun h=>?_) (fun h=>?_) <;> simp only [h,go_sem,simprocAttr] <;> (try simp only [beq_iff_eq,beq_eq_false_iff_ne,bne_iff_ne,ne_eq,decide_eq_true_eq,decide_eq_false_iff_not,Bool.not_true,Bool.not_false,Bool.not_eq_true,Bool.not_eq_false,bne_eq_false_iff_eq,Decidable.not_not] at h)
   ·have hbd:(k+1)*24≤70368744177664:=by omega
    simp only [List.length_append,List.length_replicate,hbd,go_sem,simprocAttr]
    refine aR (k+1) ?_ ?_ (by omega) (by omega)
    ·simp only [go_sem,simprocAttr]
    ·simp only [HU,go_sem,simprocAttr,ax (show k<9223372036854775807 by omega),List.replicate_succ',List.map_append]
     rfl
   ·obtain rfl:k=c.nodes.toNat:=by omega
    exact bw [3] rfl (by simp [St.obj,ay]) (by simp [St.obj,ay,aF,St.get,aO,ah,aa,aM,LV.int,List.take_of_length_le])
theorem KX (s:ai) (hn:s.nodes.length≤1000) (hj:s.jobs.length≤1000):br Tryz.prog G 65 [bz s] [] (.agg [.sl 0 s.nodes.length 5 0 s.nodes.length,.sl 1 s.jobs.length 12 0 s.jobs.length,.int s.goal,.int s.bH,.int s.mode,.int s.term]) [.dat 102 5 (s.nodes.map a_),.dat 119 12 (s.jobs.map cQ)]:=by
 refine bD Tryz.func65 (by decide) Xa rfl ?_
 have h1:s.nodes.length*24≤70368744177664:=by omega
 have h2:s.jobs.length*96≤70368744177664:=by omega
 simp only [ZD,h1,h2,go_sem,simprocAttr]
 refine bM [] [3,4] [] rfl rfl (by decide) (by simp) (by simp) rfl rfl ?_
 simp [aF,ah,aa]
end Dv
set_option maxRecDepth 100000
namespace Dv
open Go Go.Proofs
variable {G:Nat→Option (List DV)}
def Vh:=qx Tryz.f136
theorem RP:aq Tryz.prog Tryz.f136=some Vh:=by kernel_rfl
def TY:=qx Tryz.f241
theorem Qt:aq Tryz.prog Tryz.f241=some TY:=by kernel_rfl
def zk (s:ai) (j:ct) (nodes:Int) (kv:Nat×Int):St:=⟨[(2,.int nodes),(3,.ptr 0 0),(4,.ptr 1 0),(7,.int kv.2),(8,.int kv.1)],[some (.box 30 [bK s.nodes,cA s.jobs,.int s.goal,.int s.bH,.int s.mode,.int s.term]),some (.box 119 [.int j.queue,.int j.prio,.int j.min,.int j.max,.int j.work,.int j.ia,.int j.phase,.int j.inc,.int j.nodes,.int j.since,.int j.mI,.int j.cK])]⟩
theorem Bu (s:ai) (j:ct) (nodes:Int):br Tryz.prog G 136 [bz s,Gm j,.int nodes] [] (.bool (iA s.nodes j nodes)) []:=by
 refine b_ Tryz.func136 (by decide) RP rfl rfl ?_
 simp only [Vh,go_sem,simprocAttr]
 unfold iA
 repeat' (first
  | (refine bA (AZ _) rfl rfl rfl rfl ?_; simp only [go_sem,simprocAttr])
  | ((first | with_reducible refine Ht (fun h=>?_) (fun h=>?_) | refine i_ (fun h=>?_) (fun h=>?_)) <;> simp only [h,go_sem,simprocAttr] <;> (try simp only [beq_iff_eq,beq_eq_false_iff_ne,bne_iff_ne,ne_eq,decide_eq_true_eq,decide_eq_false_iff_not,Bool.not_true,Bool.not_false,Bool.not_eq_true,Bool.not_eq_false,bne_eq_false_iff_eq,Decidable.not_not] at h)) | ((first | with_reducible refine cE (fun h=>?_) (fun h=>?_) | refine aJ (fun h=>?_) (fun h=>?_)) <;> simp only [h,go_sem,simprocAttr] <;> (try simp only [beq_iff_eq,beq_eq_false_iff_ne,bne_iff_ne,ne_eq,decide_eq_true_eq,decide_eq_false_iff_not,Bool.not_true,Bool.not_false,Bool.not_eq_true,Bool.not_eq_false,bne_eq_false_iff_eq,Decidable.not_not] at h)))
 all_goals try (rw [if_pos (by omega)]; done)
 rw [if_neg (by omega)]
 generalize hF0:nH s.nodes nodes j.ia 6 0 0=r
 refine aP [2,3,4,7,8] [] (fun kv:Nat×Int=>kv.1≤6∧nH s.nodes nodes j.ia (6-kv.1) kv.1 kv.2=r) (fun kv=>6-kv.1) (zk s j nodes) (0,0) ?_ ⟨by omega,hF0⟩ ?_
 ·simp only [zk,go_sem,simprocAttr,Int.natCast_zero]
 rintro ⟨k,v⟩ ⟨hk,hF⟩
 dsimp only at hk hF
 simp only [zk,go_sem,simprocAttr]
 refine aJ (fun h=>?_) (fun h=>?_) <;> simp only [h,go_sem,simprocAttr] <;> (try simp only [beq_iff_eq,beq_eq_false_iff_ne,bne_iff_ne,ne_eq,decide_eq_true_eq,decide_eq_false_iff_not,Bool.not_true,Bool.not_false,Bool.not_eq_true,Bool.not_eq_false,bne_eq_false_iff_eq,Decidable.not_not] at h)
 ·rw [show 6-k=(6-(k+1))+1 by omega,nH] at hF
  have go:∀ v',nH s.nodes nodes j.ia (6-(k+1)) (k+1) v'=r→(k+1,v').1≤6∧nH s.nodes nodes j.ia (6-(k+1,v').1) (k+1,v').1 (k+1,v').2=r:=fun v' h'=>⟨by dsimp only; omega,h'⟩
  refine av (iJ nodes k (by omega)) rfl rfl rfl rfl ?_; simp only [go_sem,simprocAttr]
  cases hb:hasB nodes k with
  | false=>
    rw [if_pos hb] at hF
    simp only [go_sem,simprocAttr]
    refine aR (k+1,v) ?_ ?_ (go _ hF) (by dsimp only; omega)
    ·simp only [go_sem,simprocAttr]
    ·simp only [zk,go_sem,simprocAttr,ax (show k<9223372036854775807 by omega)]
  | true=>
    rw [if_neg (by simp [hb])] at hF
    simp only [go_sem,simprocAttr]
    refine aJ (fun h2=>?_) (fun h2=>?_) <;> simp only [h2,go_sem,simprocAttr] <;> (try simp only [beq_iff_eq,beq_eq_false_iff_ne,bne_iff_ne,ne_eq,decide_eq_true_eq,decide_eq_false_iff_not,Bool.not_true,Bool.not_false,Bool.not_eq_true,Bool.not_eq_false,bne_eq_false_iff_eq,Decidable.not_not] at h2)
    ·rw [if_pos (by omega)] at hF
     simp only [← hF]
    ·rw [if_neg (by omega)] at hF
     have hkl:k<s.nodes.length:=by omega
     have hg:=aB (f:=a_) an hkl
     generalize s.nodes.getD k an=n at *
     simp only [hg,go_sem,simprocAttr]
     have stop:((v≠0∧n.version≠v)∨(j.ia≠0∧n.version≠j.ia))→false=r:=fun h'=>by rw [if_pos h'] at hF; exact hF
     have on:¬ ((v≠0∧n.version≠v)∨(j.ia≠0∧n.version≠j.ia))→nH s.nodes nodes j.ia (6-(k+1)) (k+1) n.version=r:=fun h'=>by rw [if_neg h'] at hF; exact hF
     repeat' (first | ((first | with_reducible refine cc (fun h=>?_) (fun h=>?_) | refine bI (fun h=>?_) (fun h=>?_)) <;> simp only [h,go_sem,simprocAttr] <;> (try simp only [beq_iff_eq,beq_eq_false_iff_ne,bne_iff_ne,ne_eq,decide_eq_true_eq,decide_eq_false_iff_not,Bool.not_true,Bool.not_false,Bool.not_eq_true,Bool.not_eq_false,bne_eq_false_iff_eq,Decidable.not_not] at h)) | ((first | with_reducible refine cE (fun h=>?_) (fun h=>?_) | refine aJ (fun h=>?_) (fun h=>?_)) <;> simp only [h,go_sem,simprocAttr] <;> (try simp only [beq_iff_eq,beq_eq_false_iff_ne,bne_iff_ne,ne_eq,decide_eq_true_eq,decide_eq_false_iff_not,Bool.not_true,Bool.not_false,Bool.not_eq_true,Bool.not_eq_false,bne_eq_false_iff_eq,Decidable.not_not] at h)))
     all_goals first
      | exact stop (by omega)
      | (refine aR (k+1,n.version) ?_ ?_ (go _ (on (by omega))) (by dsimp only; omega)
         ·simp only [go_sem,simprocAttr]
         ·simp only [zk,go_sem,simprocAttr,ax (show k<9223372036854775807 by omega)])
 ·obtain rfl:k=6:=by omega
  simp only [Nat.sub_self,nH] at hF
  simp only [← hF]
theorem Gb (s:ai) (n:bu):yE s n=decide ((1≤n.version∧n.version≤9)∧(0≤n.bW∧n.bW≤s.jobs.length)∧(n.aU=true→n.up=true∧n.bV=true∧n.bW=0)):=by
 rw [Bool.eq_iff_iff,decide_eq_true_eq]; exact sJ s n
theorem JF (c:aI) (j:ct):D3 c j=(gV c j&&decide (0≤j.phase∧j.phase≤4∧0≤j.inc∧j.inc≤1000000∧0≤j.since∧j.since≤1000000∧0≤j.mI∧j.mI≤1000000∧0≤j.cK∧j.cK≤j.inc)):=by
 rw [Bool.eq_iff_iff]
 simp only [D3,aT,Bool.and_eq_true,decide_eq_true_eq,and_assoc]
theorem DJ (c:aI) (s:ai):kP c s=(iH c&&(decide ((s.nodes.length:Int)=c.nodes∧s.jobs.length≤24∧1≤s.goal∧s.goal≤9∧1≤s.bH∧s.bH≤9∧0≤s.mode∧s.mode≤2∧0≤s.term∧s.term≤1000000)&&(mS s s.nodes&&di c s 0 c.bn.toNat&&iQ c s s.jobs 0))):=by
 rw [Bool.eq_iff_iff]
 simp only [kP,aT,Bool.and_eq_true,decide_eq_true_eq,and_assoc]
theorem FC {n lo hi:Int} (h:aT n lo hi=true):lo≤n∧n≤hi:=bf h
theorem FD {n lo hi:Int} (h:aT n lo hi=false):¬ (lo≤n∧n≤hi):=of_decide_eq_false h
def pM (c:aI) (s:ai) (k:Nat):St:=⟨[(2,.ptr 0 0),(3,.ptr 1 0),(5,.int k)],[some (.box 23 [.int c.nodes,.int c.bn,.int c.cv,.int c.gJ,.int c.eF,.int c.eE,.int c.deadline,.int c.room,.int c.gq]),some (.box 30 [bK s.nodes,cA s.jobs,.int s.goal,.int s.bH,.int s.mode,.int s.term])]⟩
def tB (c:aI) (s:ai) (k:Nat):St:=⟨[(2,.ptr 0 0),(3,.ptr 1 0),(7,.int k)],[some (.box 23 [.int c.nodes,.int c.bn,.int c.cv,.int c.gJ,.int c.eF,.int c.eE,.int c.deadline,.int c.room,.int c.gq]),some (.box 30 [bK s.nodes,cA s.jobs,.int s.goal,.int s.bH,.int s.mode,.int s.term])]⟩
def ng (c:aI) (s:ai) (k:Nat):St:=⟨[(2,.ptr 0 0),(3,.ptr 1 0),(8,.int k)],[some (.box 23 [.int c.nodes,.int c.bn,.int c.cv,.int c.gJ,.int c.eF,.int c.eE,.int c.deadline,.int c.room,.int c.gq]),some (.box 30 [bK s.nodes,cA s.jobs,.int s.goal,.int s.bH,.int s.mode,.int s.term])]⟩
def gv (c:aI) (s:ai) (j:ct) (k i:Nat):St:=⟨[(2,.ptr 0 0),(3,.ptr 1 0),(8,.int k),(9,.ptr 2 0),(10,.int i)],[some (.box 23 [.int c.nodes,.int c.bn,.int c.cv,.int c.gJ,.int c.eF,.int c.eE,.int c.deadline,.int c.room,.int c.gq]),some (.box 30 [bK s.nodes,cA s.jobs,.int s.goal,.int s.bH,.int s.mode,.int s.term]),some (.box 119 [.int j.queue,.int j.prio,.int j.min,.int j.max,.int j.work,.int j.ia,.int j.phase,.int j.inc,.int j.nodes,.int j.since,.int j.mI,.int j.cK])]⟩
set_option maxHeartbeats 1600000 in
theorem F0 (c:aI) (s:ai):br Tryz.prog G 241 [f_ c,bz s] [] (.bool (kP c s)) []:=by
 refine b_ Tryz.func241 (by decide) Qt rfl rfl ?_
 simp only [TY,go_sem,simprocAttr]
 rw [DJ]
 refine av (tS c) rfl rfl rfl rfl ?_; simp only [go_sem,simprocAttr]
 cases hm:iH c with
 | false=>simp only [go_sem,simprocAttr]
 | true=>
 have hc:=vf hm
 simp only [go_sem,simprocAttr]
 repeat' (first
  | (refine av (vT _) rfl rfl rfl rfl ?_; simp only [go_sem,simprocAttr])
  | ((first | with_reducible refine cc (fun h=>?_) (fun h=>?_) | refine bI (fun h=>?_) (fun h=>?_)) <;> simp only [h,go_sem,simprocAttr] <;> (try simp only [beq_iff_eq,beq_eq_false_iff_ne,bne_iff_ne,ne_eq,decide_eq_true_eq,decide_eq_false_iff_not,Bool.not_true,Bool.not_false,Bool.not_eq_true,Bool.not_eq_false,bne_eq_false_iff_eq,Decidable.not_not] at h)))
 all_goals try (symm; refine Bool.and_eq_false_imp.2 (fun hP=>?_); have hP:=of_decide_eq_true hP; omega)
 cases ht:aT s.term 0 1000000 with
 | false=>
   have:=FD ht
   simp only [go_sem,simprocAttr]
   symm; refine Bool.and_eq_false_imp.2 (fun hP=>?_); have hP:=of_decide_eq_true hP; omega
 | true=>
 have ht:=FC ht
 have hlj:s.jobs.length≤24:=by omega
 have rD:s.nodes.length≤6:=by omega
 simp only [go_sem,simprocAttr]
 rw [decide_eq_true (show (s.nodes.length:Int)=c.nodes∧s.jobs.length≤24∧1≤s.goal∧s.goal≤9∧1≤s.bH∧s.bH≤9∧0≤s.mode∧s.mode≤2∧0≤s.term∧s.term≤1000000 by omega),Bool.true_and]
 generalize hq:(mS s s.nodes&&di c s 0 c.bn.toNat&&iQ c s s.jobs 0)=r
 refine aP [2,3,5] [] (fun k:Nat=>k≤s.nodes.length∧(mS s (s.nodes.drop k)&&di c s 0 c.bn.toNat&&iQ c s s.jobs 0)=r) (fun k=>s.nodes.length-k) (pM c s) 0 ?_ ⟨Nat.zero_le _,hq⟩ ?_
 ·simp only [pM,go_sem,simprocAttr,Int.natCast_zero]
 rintro k ⟨hk,hF⟩
 simp only [pM,go_sem,simprocAttr]
 refine aJ (fun h=>?_) (fun h=>?_)
 ·have h:=dz h
  rw [drop_cons _ _ an h,mS,Gb] at hF
  have hg:=aB (f:=a_) an h
  generalize s.nodes.getD k an=n at *
  obtain ⟨up,bV,aU,v,jb⟩:=n
  simp only [hg,go_sem,simprocAttr]
  cases aU with
  | false=>
    simp only [Bool.false_eq_true,false_implies,and_true] at hF
    repeat' (first | ((first | with_reducible refine cc (fun h=>?_) (fun h=>?_) | refine bI (fun h=>?_) (fun h=>?_)) <;> simp only [h,go_sem,simprocAttr] <;> (try simp only [beq_iff_eq,beq_eq_false_iff_ne,bne_iff_ne,ne_eq,decide_eq_true_eq,decide_eq_false_iff_not,Bool.not_true,Bool.not_false,Bool.not_eq_true,Bool.not_eq_false,bne_eq_false_iff_eq,Decidable.not_not] at h)) | ((first | with_reducible refine cE (fun h=>?_) (fun h=>?_) | refine aJ (fun h=>?_) (fun h=>?_)) <;> simp only [h,go_sem,simprocAttr] <;> (try simp only [beq_iff_eq,beq_eq_false_iff_ne,bne_iff_ne,ne_eq,decide_eq_true_eq,decide_eq_false_iff_not,Bool.not_true,Bool.not_false,Bool.not_eq_true,Bool.not_eq_false,bne_eq_false_iff_eq,Decidable.not_not] at h)))
    all_goals first
     | (rw [decide_eq_false (by omega)] at hF; exact hF)
     | (rw [decide_eq_true (by omega),Bool.true_and] at hF
        refine aR (k+1) ?_ ?_ ⟨by omega,hF⟩ (by omega)
        ·simp only [go_sem,simprocAttr]
        ·simp only [pM,go_sem,simprocAttr,ax (show k<9223372036854775807 by omega)])
  | true=>
    cases up <;> cases bV <;> simp only [Bool.false_eq_true,true_implies,false_and,and_false,true_and,decide_false,Bool.false_and] at hF <;>
    repeat' (first | ((first | with_reducible refine cc (fun h=>?_) (fun h=>?_) | refine bI (fun h=>?_) (fun h=>?_)) <;> simp only [h,go_sem,simprocAttr] <;> (try simp only [beq_iff_eq,beq_eq_false_iff_ne,bne_iff_ne,ne_eq,decide_eq_true_eq,decide_eq_false_iff_not,Bool.not_true,Bool.not_false,Bool.not_eq_true,Bool.not_eq_false,bne_eq_false_iff_eq,Decidable.not_not] at h)) | ((first | with_reducible refine cE (fun h=>?_) (fun h=>?_) | refine aJ (fun h=>?_) (fun h=>?_)) <;> simp only [h,go_sem,simprocAttr] <;> (try simp only [beq_iff_eq,beq_eq_false_iff_ne,bne_iff_ne,ne_eq,decide_eq_true_eq,decide_eq_false_iff_not,Bool.not_true,Bool.not_false,Bool.not_eq_true,Bool.not_eq_false,bne_eq_false_iff_eq,Decidable.not_not] at h)))
    all_goals first
     | exact hF
     | (rw [decide_eq_false (by omega)] at hF; exact hF)
     | (rw [decide_eq_true (by omega),Bool.true_and] at hF
        refine aR (k+1) ?_ ?_ ⟨by omega,hF⟩ (by omega)
        ·simp only [go_sem,simprocAttr]
        ·simp only [pM,go_sem,simprocAttr,ax (show k<9223372036854775807 by omega)])
 ·obtain rfl:=dA h hk
  clear hq hk
  rw [List.drop_length,mS,Bool.true_and] at hF
  simp only [go_sem,simprocAttr]
  refine aP [2,3,7] [] (fun k:Nat=>(k:Int)≤c.bn∧(di c s k (c.bn-k).toNat&&iQ c s s.jobs 0)=r) (fun k=>(c.bn-k).toNat) (tB c s) 0 ?_ ⟨by omega,by simpa using hF⟩ ?_
  ·simp only [tB,go_sem,simprocAttr,Int.natCast_zero]
  clear hF
  rintro k ⟨hk,hF⟩
  simp only [tB,go_sem,simprocAttr]
  refine aJ (fun h=>?_) (fun h=>?_) <;> simp only [h,go_sem,simprocAttr] <;> (try simp only [beq_iff_eq,beq_eq_false_iff_ne,bne_iff_ne,ne_eq,decide_eq_true_eq,decide_eq_false_iff_not,Bool.not_true,Bool.not_false,Bool.not_eq_true,Bool.not_eq_false,bne_eq_false_iff_eq,Decidable.not_not] at h)
  ·rw [show (c.bn-(k:Int)).toNat=(c.bn-((k+1:Nat):Int)).toNat+1 by omega,di] at hF
   refine bA (wo s k (by omega)) rfl rfl rfl rfl ?_; simp only [go_sem,simprocAttr]
   refine aJ (fun hs=>?_) (fun hs=>?_) <;> simp only [hs,go_sem,simprocAttr] <;> (try simp only [beq_iff_eq,beq_eq_false_iff_ne,bne_iff_ne,ne_eq,decide_eq_true_eq,decide_eq_false_iff_not,Bool.not_true,Bool.not_false,Bool.not_eq_true,Bool.not_eq_false,bne_eq_false_iff_eq,Decidable.not_not] at hs)
   ·rw [show decide (c.cv<cu s.jobs k)=true by simpa using hs] at hF
    simp only [Bool.not_true,Bool.false_and] at hF
    simp only [← hF,go_sem,simprocAttr]
   ·rw [show decide (c.cv<cu s.jobs k)=false by simpa using hs] at hF
    simp only [Bool.not_false,Bool.true_and] at hF
    refine aR (k+1) ?_ ?_ ⟨by omega,hF⟩ (by omega)
    ·simp only [go_sem,simprocAttr]
    ·simp only [tB,go_sem,simprocAttr,ax (show k<9223372036854775807 by omega)]
  ·rw [show (c.bn-(k:Int)).toNat=0 by omega,di,Bool.true_and] at hF
   clear hk
   refine aP [2,3,8] [] (fun k:Nat=>k≤s.jobs.length∧iQ c s (s.jobs.drop k) k=r) (fun k=>s.jobs.length-k) (ng c s) 0 ?_ ⟨by omega,hF⟩ ?_
   ·simp only [ng,go_sem,simprocAttr,Int.natCast_zero]
   clear hF
   rintro k ⟨hk,hF⟩
   simp only [ng,go_sem,simprocAttr]
   refine aJ (fun h=>?_) (fun h=>?_)
   ·have h:=dz h
    rw [drop_cons _ _ aK h,iQ,El,JF] at hF
    have hg:=aB (f:=cQ) aK h
    generalize s.jobs.getD k aK=j at *
    simp only [hg,go_sem,simprocAttr]
    refine av (zJ c j) rfl rfl rfl rfl ?_; simp only [go_sem,simprocAttr]
    cases hak:gV c j with
    | false=>
      rw [hak] at hF
      simp only [Bool.false_and] at hF
      simp only [go_sem,simprocAttr,← hF]
    | true=>
    rw [hak,Bool.true_and] at hF
    simp only [go_sem,simprocAttr]
    have stop:¬ (0≤j.phase∧j.phase≤4∧0≤j.inc∧j.inc≤1000000∧0≤j.since∧j.since≤1000000∧0≤j.mI∧j.mI≤1000000∧0≤j.cK∧j.cK≤j.inc)→false=r:=fun h'=>by rw [decide_eq_false h'] at hF; simpa using hF
    repeat' (first
     | (refine av (vT _) rfl rfl rfl rfl ?_; simp only [aT,go_sem,simprocAttr])
     | ((first | with_reducible refine cc (fun h=>?_) (fun h=>?_) | refine bI (fun h=>?_) (fun h=>?_)) <;> simp only [h,go_sem,simprocAttr] <;> (try simp only [beq_iff_eq,beq_eq_false_iff_ne,bne_iff_ne,ne_eq,decide_eq_true_eq,decide_eq_false_iff_not,Bool.not_true,Bool.not_false,Bool.not_eq_true,Bool.not_eq_false,bne_eq_false_iff_eq,Decidable.not_not] at h)))
    all_goals try (refine stop ?_; omega)
    refine aJ (fun hpe=>?_) (fun hpe=>?_) <;> simp only [hpe,go_sem,simprocAttr] <;> (try simp only [beq_iff_eq,beq_eq_false_iff_ne,bne_iff_ne,ne_eq,decide_eq_true_eq,decide_eq_false_iff_not,Bool.not_true,Bool.not_false,Bool.not_eq_true,Bool.not_eq_false,bne_eq_false_iff_eq,Decidable.not_not] at hpe)
    ·exact stop (by omega)
    rw [decide_eq_true (by omega),Bool.true_and] at hF
    clear stop
    cases hp:d_ j.phase with
    | true=>
      have hp2:=of_decide_eq_true hp
      have d1:decide (j.phase≥1)=true:=by simp; omega
      have d2:decide (j.phase≤3)=true:=by simp; omega
      rw [hp,if_pos rfl] at hF
      simp only [d1,d2,go_sem,simprocAttr]
      refine av (Bu s j j.nodes) rfl rfl rfl rfl ?_; simp only [go_sem,simprocAttr]
      cases hf:iA s.nodes j j.nodes with
      | false=>
        rw [hf] at hF
        simp only [Bool.false_and] at hF
        simp only [go_sem,simprocAttr,← hF]
      | true=>
        rw [hf,Bool.true_and] at hF
        simp only [go_sem,simprocAttr]
        refine aP [2,3,8,9,10] [] (fun i:Nat=>i≤s.nodes.length∧(mw j k (s.nodes.drop i) i&&iQ c s (s.jobs.drop (k+1)) (k+1))=r) (fun i=>s.nodes.length-i) (gv c s j k) 0 ?_ ⟨Nat.zero_le _,hF⟩ ?_
        ·simp only [gv,go_sem,simprocAttr,Int.natCast_zero]
        clear hF
        rintro i ⟨hi,hF⟩
        simp only [gv,go_sem,simprocAttr]
        refine aJ (fun h2=>?_) (fun h2=>?_)
        ·have h2:=dz h2
         rw [drop_cons _ _ an h2,mw,sK] at hF
         have rE:=aB (f:=a_) an h2
         generalize s.nodes.getD i an=n at *
         have hown:decide (n.bW=(k:Int)+1)=(n.bW==((k+1:Nat):Int)):=rfl
         rw [hown] at hF
         simp only [rE,ax (show k<9223372036854775807 by omega),go_sem,simprocAttr]
         refine av (iJ j.nodes i (by omega)) rfl rfl rfl rfl ?_; simp only [go_sem,simprocAttr]
         generalize (n.bW==((k+1:Nat):Int))=own at *
         generalize hasB j.nodes i=has at *
         obtain ⟨up,bV,aU,v,jb⟩:=n
         cases own <;> cases has <;> cases up <;> cases aU <;> simp only [rE,show (true==false)=false from rfl,show (false==true)=false from rfl,go_sem,simprocAttr]
         all_goals first
          | exact hF
          | (refine aR (i+1) ?_ ?_ ⟨by omega,hF⟩ (by omega)
             ·simp only [go_sem,simprocAttr]
             ·simp only [gv,go_sem,simprocAttr,ax (show i<9223372036854775807 by omega)])
        ·obtain rfl:=dA h2 hi
         rw [List.drop_length,mw,Bool.true_and] at hF
         simp only [go_sem,simprocAttr]
         refine aR (k+1) ?_ ?_ ⟨by omega,hF⟩ (by omega)
         ·simp only [go_sem,simprocAttr]
         ·simp only [ng,go_sem,simprocAttr,ax (show k<9223372036854775807 by omega)]
    | false=>
      have hp2:=of_decide_eq_false hp
      rw [hp,if_neg (by simp)] at hF
      have d3:(decide (j.phase≥1)&&decide (j.phase≤3))=false:=by simp; omega
      cases d1:decide (j.phase≥1) with
      | true=>
        have d2:decide (j.phase≤3)=false:=by rw [d1,Bool.true_and] at d3; exact d3
        simp only [d2,go_sem,simprocAttr]
        refine aJ (fun hz=>?_) (fun hz=>?_) <;> simp only [hz,go_sem,simprocAttr] <;> (try simp only [beq_iff_eq,beq_eq_false_iff_ne,bne_iff_ne,ne_eq,decide_eq_true_eq,decide_eq_false_iff_not,Bool.not_true,Bool.not_false,Bool.not_eq_true,Bool.not_eq_false,bne_eq_false_iff_eq,Decidable.not_not] at hz)
        ·rw [decide_eq_false hz] at hF
         simp only [Bool.false_and] at hF
         simp only [← hF]
        ·rw [decide_eq_true hz,Bool.true_and] at hF
         refine aP [2,3,8,9,10] [] (fun i:Nat=>i≤s.nodes.length∧(mw j k (s.nodes.drop i) i&&iQ c s (s.jobs.drop (k+1)) (k+1))=r) (fun i=>s.nodes.length-i) (gv c s j k) 0 ?_ ⟨Nat.zero_le _,hF⟩ ?_
         ·simp only [gv,go_sem,simprocAttr,Int.natCast_zero]
         clear hF
         rintro i ⟨hi,hF⟩
         simp only [gv,go_sem,simprocAttr]
         refine aJ (fun h2=>?_) (fun h2=>?_)
         ·have h2:=dz h2
          rw [drop_cons _ _ an h2,mw,sK] at hF
          have rE:=aB (f:=a_) an h2
          generalize s.nodes.getD i an=n at *
          have hown:decide (n.bW=(k:Int)+1)=(n.bW==((k+1:Nat):Int)):=rfl
          rw [hown] at hF
          simp only [rE,ax (show k<9223372036854775807 by omega),go_sem,simprocAttr]
          refine av (iJ j.nodes i (by omega)) rfl rfl rfl rfl ?_; simp only [go_sem,simprocAttr]
          generalize (n.bW==((k+1:Nat):Int))=own at *
          generalize hasB j.nodes i=has at *
          obtain ⟨up,bV,aU,v,jb⟩:=n
          cases own <;> cases has <;> cases up <;> cases aU <;> simp only [rE,show (true==false)=false from rfl,show (false==true)=false from rfl,go_sem,simprocAttr]
          all_goals first
           | exact hF
           | (refine aR (i+1) ?_ ?_ ⟨by omega,hF⟩ (by omega)
              ·simp only [go_sem,simprocAttr]
              ·simp only [gv,go_sem,simprocAttr,ax (show i<9223372036854775807 by omega)])
         ·obtain rfl:=dA h2 hi
          rw [List.drop_length,mw,Bool.true_and] at hF
          simp only [go_sem,simprocAttr]
          refine aR (k+1) ?_ ?_ ⟨by omega,hF⟩ (by omega)
          ·simp only [go_sem,simprocAttr]
          ·simp only [ng,go_sem,simprocAttr,ax (show k<9223372036854775807 by omega)]
      | false=>
        simp only [go_sem,simprocAttr]
        refine aJ (fun hz=>?_) (fun hz=>?_) <;> simp only [hz,go_sem,simprocAttr] <;> (try simp only [beq_iff_eq,beq_eq_false_iff_ne,bne_iff_ne,ne_eq,decide_eq_true_eq,decide_eq_false_iff_not,Bool.not_true,Bool.not_false,Bool.not_eq_true,Bool.not_eq_false,bne_eq_false_iff_eq,Decidable.not_not] at hz)
        ·rw [decide_eq_false hz] at hF
         simp only [Bool.false_and] at hF
         simp only [← hF]
        ·rw [decide_eq_true hz,Bool.true_and] at hF
         refine aP [2,3,8,9,10] [] (fun i:Nat=>i≤s.nodes.length∧(mw j k (s.nodes.drop i) i&&iQ c s (s.jobs.drop (k+1)) (k+1))=r) (fun i=>s.nodes.length-i) (gv c s j k) 0 ?_ ⟨Nat.zero_le _,hF⟩ ?_
         ·simp only [gv,go_sem,simprocAttr,Int.natCast_zero]
         clear hF
         rintro i ⟨hi,hF⟩
         simp only [gv,go_sem,simprocAttr]
         refine aJ (fun h2=>?_) (fun h2=>?_)
         ·have h2:=dz h2
          rw [drop_cons _ _ an h2,mw,sK] at hF
          have rE:=aB (f:=a_) an h2
          generalize s.nodes.getD i an=n at *
          have hown:decide (n.bW=(k:Int)+1)=(n.bW==((k+1:Nat):Int)):=rfl
          rw [hown] at hF
          simp only [rE,ax (show k<9223372036854775807 by omega),go_sem,simprocAttr]
          refine av (iJ j.nodes i (by omega)) rfl rfl rfl rfl ?_; simp only [go_sem,simprocAttr]
          generalize (n.bW==((k+1:Nat):Int))=own at *
          generalize hasB j.nodes i=has at *
          obtain ⟨up,bV,aU,v,jb⟩:=n
          cases own <;> cases has <;> cases up <;> cases aU <;> simp only [rE,show (true==false)=false from rfl,show (false==true)=false from rfl,go_sem,simprocAttr]
          all_goals first
           | exact hF
           | (refine aR (i+1) ?_ ?_ ⟨by omega,hF⟩ (by omega)
              ·simp only [go_sem,simprocAttr]
              ·simp only [gv,go_sem,simprocAttr,ax (show i<9223372036854775807 by omega)])
         ·obtain rfl:=dA h2 hi
          rw [List.drop_length,mw,Bool.true_and] at hF
          simp only [go_sem,simprocAttr]
          refine aR (k+1) ?_ ?_ ⟨by omega,hF⟩ (by omega)
          ·simp only [go_sem,simprocAttr]
          ·simp only [ng,go_sem,simprocAttr,ax (show k<9223372036854775807 by omega)]
   ·obtain rfl:=dA h hk
    rw [List.drop_length,iQ] at hF
    simp only [go_sem,simprocAttr,← hF]
end Dv
set_option maxRecDepth 100000
namespace Dv
open Go Go.Proofs
variable {G:Nat→Option (List DV)}
def ZC:=qx Tryz.f66
theorem W_:aq Tryz.prog Tryz.f66=some ZC:=by kernel_rfl
section
variable {c:aI} {s:ai} {o:dH} (ho:dX o=true)
include ho
theorem Tz (hk:o.kind=1):dJ c s o=(if gV c (gD o)=false then 1 else if s.jobs.length=24 then 3 else 0):=by
 simp [dJ,ho,hk,iz,fe,zM]
theorem Ty (hk:o.kind=2):dJ c s o=(if o.a<1∨(s.jobs.length:Int)<o.a then 4 else if (bG s o.a).phase=4 then 5 else 0):=by
 simp [dJ,ho,hk,iz,fe,zM]
theorem Tx (hk:o.kind=3):dJ c s o=(if aT o.a 1 9=false then 1 else 0):=by
 simp [dJ,ho,hk,iz,fe,zM]
theorem Tw (hk:o.kind=4):dJ c s o=(if s.mode=0 then 0 else 5):=by
 simp [dJ,ho,hk,iz,fe,zM]
theorem Tv (hk:o.kind=5):dJ c s o=(if s.mode=1 then 0 else 5):=by
 simp [dJ,ho,hk,iz,fe,zM]
theorem Tu (hk:o.kind=6):dJ c s o=(if s.mode=2 then 5 else 0):=by
 simp [dJ,ho,hk,iz,fe,zM]
theorem Tt (hk:o.kind=7):dJ c s o=(if (s.nodes.length:Int)≤o.a then 4 else if (bg s o.a).up=false then 5 else 0):=by
 simp [dJ,ho,hk,iz,fe,zM]
theorem Ts (hk:o.kind=8):dJ c s o=(if (s.nodes.length:Int)≤o.a then 4 else if aT o.b 1 9=false then 1 else if (bg s o.a).up=true then 5 else 0):=by
 simp [dJ,ho,hk,iz,fe,zM]
theorem Df (hk:o.kind=9):dJ c s o=(if o.a<1∨(s.jobs.length:Int)<o.a then 4 else if (bG s o.a).phase≠0 then 5 else if ¬ (iA s.nodes (bG s o.a) o.b=true∧(bG s o.a).inc<1000000∧fu o.b s.nodes 0=true) then 8 else 0):=by
 simp [dJ,ho,hk,iz,fe,zM]
theorem LQ (hk:o.kind=10):dJ c s o=(if o.a<1∨(s.jobs.length:Int)<o.a then 4 else if (bG s o.a).phase≠1 then 5 else 0):=by
 simp [dJ,ho,hk,iz,fe,zM]
theorem LP (hk:o.kind=11):dJ c s o=(if o.a<1∨(s.jobs.length:Int)<o.a then 4 else if (bG s o.a).phase≠1 then 5 else 0):=by
 simp [dJ,ho,hk,iz,fe,zM]
theorem LO (hk:o.kind=12):dJ c s o=(if o.a<1∨(s.jobs.length:Int)<o.a then 4 else if (bG s o.a).phase≠2 then 5 else if c.cv≤cu s.jobs (bG s o.a).queue then 7 else 0):=by
 simp [dJ,ho,hk,iz,fe,zM]
theorem LN (hk:o.kind=13):dJ c s o=(if o.a<1∨(s.jobs.length:Int)<o.a then 4 else if kG (bG s o.a)=false then 5 else if o.b≠(bG s o.a).inc∨o.b≤(bG s o.a).cK then 6 else 0):=by
 simp [dJ,ho,hk,iz,fe,zM]
theorem LM (hk:o.kind=14):dJ c s o=(if o.a<1∨(s.jobs.length:Int)<o.a then 4 else if (bG s o.a).phase≠3 then 5 else 0):=by
 simp [dJ,ho,hk,iz,fe,zM]
theorem LL (hk:o.kind=15):dJ c s o=(if o.a<1∨(s.jobs.length:Int)<o.a then 4 else if kG (bG s o.a)=false then 5 else 0):=by
 simp [dJ,ho,hk,iz,fe,zM]
theorem LK (hk:o.kind=16):dJ c s o=(if (s.nodes.length:Int)≤o.a then 4 else if ((bg s o.a).up&&!(bg s o.a).bV)=false then 5 else 0):=by
 simp [dJ,ho,hk,iz,fe,zM]
theorem LJ (hk:o.kind=17):dJ c s o=(if (s.nodes.length:Int)≤o.a then 4 else if ((bg s o.a).bV&&!(bg s o.a).aU)=false then 5 else 0):=by
 simp [dJ,ho,hk,iz,fe,zM]
theorem LI (hk:o.kind=18):dJ c s o=(if (s.nodes.length:Int)≤o.a then 4 else if ((bg s o.a).up&&(bg s o.a).bV&&!(bg s o.a).aU&&decide ((bg s o.a).bW=0))=false then 5 else 0):=by
 simp [dJ,ho,hk,iz,fe,zM]
theorem LH (hk:o.kind=19):dJ c s o=(if (s.nodes.length:Int)≤o.a then 4 else if aT o.b 1 9=false then 1 else if (bg s o.a).aU=false then 5 else 0):=by
 simp [dJ,ho,hk,iz,fe,zM]
theorem si (hk:o.kind=20):dJ c s o=(if o.a<1∨(s.jobs.length:Int)<o.a then 4 else if (s.nodes.length:Int)≤o.b then 4 else if (bG s o.a).phase≠2 then 5 else if hasB (bG s o.a).nodes o.b.toNat=false∨many (bG s o.a).nodes≤(bG s o.a).min then 8 else 0):=by
 simp [dJ,ho,hk,iz,fe,zM]
theorem LG (hk:o.kind=21):dJ c s o=(if s.term=1000000 then 3 else 0):=by
 simp [dJ,ho,hk,iz,fe,zM]
end
def oD (c:aI) (s:ai) (o:dH) (j:ct) (kv:Nat×Bool):St:=⟨[(4,.ptr 1 0),(5,.ptr 2 0),(11,.bool kv.2),(12,.int kv.1)],[some (.box 23 [.int c.nodes,.int c.bn,.int c.cv,.int c.gJ,.int c.eF,.int c.eE,.int c.deadline,.int c.room,.int c.gq]),some (.box 30 [bK s.nodes,cA s.jobs,.int s.goal,.int s.bH,.int s.mode,.int s.term]),some (.box 37 [.int 9,.int o.a,.int o.b,.int o.c,.int o.d,.int o.e,.int o.f]),some (.box 119 [.int j.queue,.int j.prio,.int j.min,.int j.max,.int j.work,.int j.ia,.int j.phase,.int j.inc,.int j.nodes,.int j.since,.int j.mI,.int j.cK]),some (.box 102 [.bool false,.bool false,.bool false,.int 0,.int 0])]⟩
set_option maxHeartbeats 1600000 in
theorem LR (c:aI) (s:ai) (o:dH) (rD:s.nodes.length≤6) (hlj:s.jobs.length≤24):br Tryz.prog G 66 [f_ c,bz s,rS o] [] (.int (dJ c s o)) []:=by
 refine b_ Tryz.func66 (by decide) W_ rfl rfl ?_
 simp only [ZC,go_sem,simprocAttr]
 refine av (rR o) rfl rfl rfl rfl ?_; simp only [go_sem,simprocAttr]
 cases ho:dX o with
 | false=>
   have hw:dJ c s o=1:=by unfold dJ; rw [if_pos ho]
   simp only [hw,go_sem,simprocAttr]
 | true=>
 obtain ⟨hkk,hka,hkb⟩:=k9 ho
 simp only [go_sem,simprocAttr]
 have hv:(decide (o.b≥1)=true∧decide (o.b≤9)=true)∨(decide (o.b≥1)=true∧decide (o.b≤9)=false)∨(decide (o.b≥1)=false∧decide (o.b≤9)=true):=by
  simp only [decide_eq_true_eq,decide_eq_false_iff_not]; omega
 have hk:(o.kind=1∨o.kind=21)∨(o.kind=3∨o.kind=4∨o.kind=5∨o.kind=6)∨(o.kind=2∨o.kind=9∨o.kind=10∨o.kind=11∨o.kind=12∨o.kind=13∨o.kind=14∨o.kind=15∨o.kind=20)∨(o.kind=7∨o.kind=8∨o.kind=16∨o.kind=17∨o.kind=18∨o.kind=19):=by omega
 rcases hk with (hk | hk) | hk | hk | hk
 ·rw [Tz ho hk]
  simp only [hk,go_sem,simprocAttr]
  refine av (zJ c (gD o)) rfl rfl rfl rfl ?_; simp only [go_sem,simprocAttr]
  cases ha:gV c (gD o) with
  | false=>simp only [go_sem,simprocAttr]
  | true=>
  simp only [Bool.true_eq_false,go_sem,simprocAttr]
  refine aJ (fun h=>?_) (fun h=>?_) <;> simp only [h,go_sem,simprocAttr] <;> (try simp only [beq_iff_eq,beq_eq_false_iff_ne,bne_iff_ne,ne_eq,decide_eq_true_eq,decide_eq_false_iff_not,Bool.not_true,Bool.not_false,Bool.not_eq_true,Bool.not_eq_false,bne_eq_false_iff_eq,Decidable.not_not] at h)
  ·rw [if_pos (by omega)]
  ·rw [if_neg (by omega)]
 ·rw [LG ho hk]
  simp only [hk,go_sem,simprocAttr]
  repeat' (first | ((first | with_reducible refine cc (fun h=>?_) (fun h=>?_) | refine bI (fun h=>?_) (fun h=>?_)) <;> simp only [h,go_sem,simprocAttr] <;> (try simp only [beq_iff_eq,beq_eq_false_iff_ne,bne_iff_ne,ne_eq,decide_eq_true_eq,decide_eq_false_iff_not,Bool.not_true,Bool.not_false,Bool.not_eq_true,Bool.not_eq_false,bne_eq_false_iff_eq,Decidable.not_not] at h)) | ((first | with_reducible refine cE (fun h=>?_) (fun h=>?_) | refine aJ (fun h=>?_) (fun h=>?_)) <;> simp only [h,go_sem,simprocAttr] <;> (try simp only [beq_iff_eq,beq_eq_false_iff_ne,bne_iff_ne,ne_eq,decide_eq_true_eq,decide_eq_false_iff_not,Bool.not_true,Bool.not_false,Bool.not_eq_true,Bool.not_eq_false,bne_eq_false_iff_eq,Decidable.not_not] at h)))
  all_goals (first | omega | (repeat (first | rw [if_pos (by omega)] | rw [if_neg (by omega)])))
 ·rcases hk with hk | hk | hk | hk
  all_goals
   first | rw [Tx ho hk] | rw [Tw ho hk] | rw [Tv ho hk] | rw [Tu ho hk]
   simp only [hk,go_sem,simprocAttr]
   rcases hv with ⟨zN,uL⟩ | ⟨zN,uL⟩ | ⟨zN,uL⟩
   all_goals
    simp only [zN,uL,hk,go_sem,simprocAttr]
    simp only [ge_iff_le,decide_eq_true_eq,decide_eq_false_iff_not] at zN uL
  all_goals
   first
   | have h2:o.kind=3:=by omega
     unfold aT
     simp only [decide_eq_false_iff_not]
     repeat' (first | ((first | with_reducible refine cc (fun h=>?_) (fun h=>?_) | refine bI (fun h=>?_) (fun h=>?_)) <;> simp only [h,go_sem,simprocAttr] <;> (try simp only [beq_iff_eq,beq_eq_false_iff_ne,bne_iff_ne,ne_eq,decide_eq_true_eq,decide_eq_false_iff_not,Bool.not_true,Bool.not_false,Bool.not_eq_true,Bool.not_eq_false,bne_eq_false_iff_eq,Decidable.not_not] at h)) | ((first | with_reducible refine cE (fun h=>?_) (fun h=>?_) | refine aJ (fun h=>?_) (fun h=>?_)) <;> simp only [h,go_sem,simprocAttr] <;> (try simp only [beq_iff_eq,beq_eq_false_iff_ne,bne_iff_ne,ne_eq,decide_eq_true_eq,decide_eq_false_iff_not,Bool.not_true,Bool.not_false,Bool.not_eq_true,Bool.not_eq_false,bne_eq_false_iff_eq,Decidable.not_not] at h)))
     all_goals (first | omega | (repeat (first | rw [if_pos (by omega)] | rw [if_neg (by omega)])))
   | repeat' (first | ((first | with_reducible refine cc (fun h=>?_) (fun h=>?_) | refine bI (fun h=>?_) (fun h=>?_)) <;> simp only [h,go_sem,simprocAttr] <;> (try simp only [beq_iff_eq,beq_eq_false_iff_ne,bne_iff_ne,ne_eq,decide_eq_true_eq,decide_eq_false_iff_not,Bool.not_true,Bool.not_false,Bool.not_eq_true,Bool.not_eq_false,bne_eq_false_iff_eq,Decidable.not_not] at h)) | ((first | with_reducible refine cE (fun h=>?_) (fun h=>?_) | refine aJ (fun h=>?_) (fun h=>?_)) <;> simp only [h,go_sem,simprocAttr] <;> (try simp only [beq_iff_eq,beq_eq_false_iff_ne,bne_iff_ne,ne_eq,decide_eq_true_eq,decide_eq_false_iff_not,Bool.not_true,Bool.not_false,Bool.not_eq_true,Bool.not_eq_false,bne_eq_false_iff_eq,Decidable.not_not] at h)))
     all_goals (first | omega | (repeat (first | rw [if_pos (by omega)] | rw [if_neg (by omega)])))
 ·rcases hk with hk | hk | hk | hk | hk | hk | hk | hk | hk
  all_goals
   first | rw [Ty ho hk] | rw [Df ho hk] | rw [LQ ho hk] | rw [LP ho hk] | rw [LO ho hk] | rw [LN ho hk] | rw [LM ho hk] | rw [LL ho hk] | rw [si ho hk]
   simp only [hk,go_sem,simprocAttr]
   by_cases hq:o.a<1∨(s.jobs.length:Int)<o.a
   ·rw [if_pos hq]
    refine bI (fun h1=>?_) (fun h1=>?_) <;> simp only [h1,go_sem,simprocAttr] <;> (try simp only [beq_iff_eq,beq_eq_false_iff_ne,bne_iff_ne,ne_eq,decide_eq_true_eq,decide_eq_false_iff_not,Bool.not_true,Bool.not_false,Bool.not_eq_true,Bool.not_eq_false,bne_eq_false_iff_eq,Decidable.not_not] at h1)
    refine aJ (fun h2=>?_) (fun h2=>?_) <;> simp only [h2,go_sem,simprocAttr] <;> (try simp only [beq_iff_eq,beq_eq_false_iff_ne,bne_iff_ne,ne_eq,decide_eq_true_eq,decide_eq_false_iff_not,Bool.not_true,Bool.not_false,Bool.not_eq_true,Bool.not_eq_false,bne_eq_false_iff_eq,Decidable.not_not] at h2)
    omega
   rw [if_neg hq]
   have q1:decide (o.a<1)=false:=by simp; omega
   have q2:decide (o.a>(s.jobs.length:Int))=false:=by simp; omega
   have hw:IntKind.i64.wrap (o.a-1)=o.a-1:=aD (by omega) (by omega)
   have q3:0≤o.a-1:=by omega
   obtain ⟨k,sO⟩:∃ k:Nat,(o.a-1).toNat=k:=⟨_,rfl⟩
   have hkl:k<s.jobs.length:=by omega
   have hg:=aB (f:=cQ) aK hkl
   have hJ:bG s o.a=s.jobs.getD k aK:=by unfold bG; rw [sO]
   rw [hJ]
   generalize s.jobs.getD k aK=j at *
   simp only [q1,q2,q3,hw,sO,hg,hk,go_sem,simprocAttr]
   rcases hv with ⟨zN,uL⟩ | ⟨zN,uL⟩ | ⟨zN,uL⟩
   all_goals
    simp only [zN,uL,hk,go_sem,simprocAttr]
    simp only [ge_iff_le,decide_eq_true_eq,decide_eq_false_iff_not] at zN uL
  all_goals
   first
   | have h2:o.kind=9:=by omega
     refine cE (fun h1=>?_) (fun h1=>?_) <;> simp only [h1,go_sem,simprocAttr] <;> (try simp only [beq_iff_eq,beq_eq_false_iff_ne,bne_iff_ne,ne_eq,decide_eq_true_eq,decide_eq_false_iff_not,Bool.not_true,Bool.not_false,Bool.not_eq_true,Bool.not_eq_false,bne_eq_false_iff_eq,Decidable.not_not] at h1)
     ·rw [if_pos (by omega)]
     rw [if_neg (by omega)]
     refine av (Bu s j o.b) rfl rfl rfl rfl ?_; simp only [go_sem,simprocAttr]
     have key:(if ¬ (iA s.nodes j o.b=true∧j.inc<1000000∧fu o.b s.nodes 0=true) then (8:Int) else 0)=if (iA s.nodes j o.b&&decide (j.inc<1000000)&&fu o.b s.nodes 0)=false then 8 else 0:=by
      cases iA s.nodes j o.b <;> cases fu o.b s.nodes 0 <;> by_cases hi:j.inc<1000000 <;> simp [hi]
     rw [key]
     generalize hr:(iA s.nodes j o.b&&decide (j.inc<1000000)&&fu o.b s.nodes 0)=r
     cases hf:iA s.nodes j o.b with
     | false=>
       rw [hf] at hr
       simp only [hk,go_sem,simprocAttr]
       refine aP [4,5,11,12] [] (fun kv:Nat×Bool=>kv.1≤s.nodes.length∧(kv.2&&fu o.b (s.nodes.drop kv.1) kv.1)=r) (fun kv=>s.nodes.length-kv.1) (oD c s o j) (0,false) ?_ ⟨Nat.zero_le _,hr⟩ ?_
       ·simp only [oD,hk,go_sem,simprocAttr,Int.natCast_zero]
       rintro ⟨k,b⟩ ⟨hkl,hF⟩
       dsimp only at hkl hF
       simp only [oD,go_sem,simprocAttr]
       refine aJ (fun h=>?_) (fun h=>?_)
       ·have h:=dz h
        rw [drop_cons _ _ an h,fu] at hF
        have rE:=aB (f:=a_) an h
        generalize s.nodes.getD k an=n at *
        cases b with
        | false=>
          simp only [go_sem,simprocAttr]
          refine aR (k+1,false) ?_ ?_ ⟨by dsimp only; omega,by simpa using hF⟩ (by dsimp only; omega)
          ·simp only [go_sem,simprocAttr]
          ·simp only [oD,go_sem,simprocAttr,ax (show k<9223372036854775807 by omega)]
        | true=>
          simp only [go_sem,simprocAttr]
          refine av (iJ o.b k (by omega)) rfl rfl rfl rfl ?_; simp only [go_sem,simprocAttr]
          cases hh:hasB o.b k with
          | false=>
            rw [hh] at hF
            simp only [go_sem,simprocAttr]
            refine aR (k+1,true) ?_ ?_ ⟨by dsimp only; omega,hF⟩ (by dsimp only; omega)
            ·simp only [go_sem,simprocAttr]
            ·simp only [oD,go_sem,simprocAttr,ax (show k<9223372036854775807 by omega)]
          | true=>
            rw [hh] at hF
            simp only [rE,go_sem,simprocAttr]
            refine av (Bo n) rfl rfl rfl rfl ?_; simp only [go_sem,simprocAttr]
            refine aR (k+1,jr n) ?_ ?_ ⟨by dsimp only; omega,by simpa using hF⟩ (by dsimp only; omega)
            ·simp only [go_sem,simprocAttr]
            ·simp only [oD,go_sem,simprocAttr,ax (show k<9223372036854775807 by omega)]
       ·obtain rfl:=dA h hkl
        rw [List.drop_length,fu,Bool.and_true] at hF
        subst hF
        cases b <;> simp only [go_sem,simprocAttr,Bool.true_eq_false]
     | true=>
       rw [hf,Bool.true_and] at hr
       simp only [hg,hk,go_sem,simprocAttr]
       refine aP [4,5,11,12] [] (fun kv:Nat×Bool=>kv.1≤s.nodes.length∧(kv.2&&fu o.b (s.nodes.drop kv.1) kv.1)=r) (fun kv=>s.nodes.length-kv.1) (oD c s o j) (0,decide (j.inc<1000000)) ?_ ⟨Nat.zero_le _,hr⟩ ?_
       ·simp only [oD,hk,go_sem,simprocAttr,Int.natCast_zero]
       rintro ⟨k,b⟩ ⟨hkl,hF⟩
       dsimp only at hkl hF
       simp only [oD,go_sem,simprocAttr]
       refine aJ (fun h=>?_) (fun h=>?_)
       ·have h:=dz h
        rw [drop_cons _ _ an h,fu] at hF
        have rE:=aB (f:=a_) an h
        generalize s.nodes.getD k an=n at *
        cases b with
        | false=>
          simp only [go_sem,simprocAttr]
          refine aR (k+1,false) ?_ ?_ ⟨by dsimp only; omega,by simpa using hF⟩ (by dsimp only; omega)
          ·simp only [go_sem,simprocAttr]
          ·simp only [oD,go_sem,simprocAttr,ax (show k<9223372036854775807 by omega)]
        | true=>
          simp only [go_sem,simprocAttr]
          refine av (iJ o.b k (by omega)) rfl rfl rfl rfl ?_; simp only [go_sem,simprocAttr]
          cases hh:hasB o.b k with
          | false=>
            rw [hh] at hF
            simp only [go_sem,simprocAttr]
            refine aR (k+1,true) ?_ ?_ ⟨by dsimp only; omega,hF⟩ (by dsimp only; omega)
            ·simp only [go_sem,simprocAttr]
            ·simp only [oD,go_sem,simprocAttr,ax (show k<9223372036854775807 by omega)]
          | true=>
            rw [hh] at hF
            simp only [rE,go_sem,simprocAttr]
            refine av (Bo n) rfl rfl rfl rfl ?_; simp only [go_sem,simprocAttr]
            refine aR (k+1,jr n) ?_ ?_ ⟨by dsimp only; omega,by simpa using hF⟩ (by dsimp only; omega)
            ·simp only [go_sem,simprocAttr]
            ·simp only [oD,go_sem,simprocAttr,ax (show k<9223372036854775807 by omega)]
       ·obtain rfl:=dA h hkl
        rw [List.drop_length,fu,Bool.and_true] at hF
        subst hF
        cases b <;> simp only [go_sem,simprocAttr,Bool.true_eq_false]
   | have h2:o.kind=12:=by omega
     refine cE (fun h1=>?_) (fun h1=>?_) <;> simp only [h1,go_sem,simprocAttr] <;> (try simp only [beq_iff_eq,beq_eq_false_iff_ne,bne_iff_ne,ne_eq,decide_eq_true_eq,decide_eq_false_iff_not,Bool.not_true,Bool.not_false,Bool.not_eq_true,Bool.not_eq_false,bne_eq_false_iff_eq,Decidable.not_not] at h1)
     ·rw [if_pos (by omega)]
     rw [if_neg (by omega)]
     refine bA (wo s j.queue (by omega)) rfl rfl rfl rfl ?_; simp only [go_sem,simprocAttr]
     repeat' (first | ((first | with_reducible refine cc (fun h=>?_) (fun h=>?_) | refine bI (fun h=>?_) (fun h=>?_)) <;> simp only [h,go_sem,simprocAttr] <;> (try simp only [beq_iff_eq,beq_eq_false_iff_ne,bne_iff_ne,ne_eq,decide_eq_true_eq,decide_eq_false_iff_not,Bool.not_true,Bool.not_false,Bool.not_eq_true,Bool.not_eq_false,bne_eq_false_iff_eq,Decidable.not_not] at h)) | ((first | with_reducible refine cE (fun h=>?_) (fun h=>?_) | refine aJ (fun h=>?_) (fun h=>?_)) <;> simp only [h,go_sem,simprocAttr] <;> (try simp only [beq_iff_eq,beq_eq_false_iff_ne,bne_iff_ne,ne_eq,decide_eq_true_eq,decide_eq_false_iff_not,Bool.not_true,Bool.not_false,Bool.not_eq_true,Bool.not_eq_false,bne_eq_false_iff_eq,Decidable.not_not] at h)))
     all_goals (first | omega | (repeat (first | rw [if_pos (by omega)] | rw [if_neg (by omega)])))
   | have h2:o.kind=20:=by omega
     obtain ⟨b,hb⟩:=Int.eq_ofNat_of_zero_le hkb.1
     simp only [hb,go_sem,simprocAttr]
     refine aJ (fun h0=>?_) (fun h0=>?_) <;> simp only [h0,go_sem,simprocAttr] <;> (try simp only [beq_iff_eq,beq_eq_false_iff_ne,bne_iff_ne,ne_eq,decide_eq_true_eq,decide_eq_false_iff_not,Bool.not_true,Bool.not_false,Bool.not_eq_true,Bool.not_eq_false,bne_eq_false_iff_eq,Decidable.not_not] at h0)
     ·rw [if_pos (by omega)]
     rw [if_neg (by omega)]
     refine cE (fun h1=>?_) (fun h1=>?_) <;> simp only [h1,go_sem,simprocAttr] <;> (try simp only [beq_iff_eq,beq_eq_false_iff_ne,bne_iff_ne,ne_eq,decide_eq_true_eq,decide_eq_false_iff_not,Bool.not_true,Bool.not_false,Bool.not_eq_true,Bool.not_eq_false,bne_eq_false_iff_eq,Decidable.not_not] at h1)
     ·rw [if_pos (by omega)]
     rw [if_neg (by omega)]
     refine bA (iJ j.nodes b (by omega)) rfl rfl rfl rfl ?_; simp only [go_sem,simprocAttr]
     cases hh:hasB j.nodes b with
     | false=>simp only [go_sem,simprocAttr]
     | true=>
     simp only [Bool.true_eq_false,false_or,go_sem,simprocAttr]
     refine bA (AZ j.nodes) rfl rfl rfl rfl ?_; simp only [go_sem,simprocAttr]
     repeat' (first | ((first | with_reducible refine cc (fun h=>?_) (fun h=>?_) | refine bI (fun h=>?_) (fun h=>?_)) <;> simp only [h,go_sem,simprocAttr] <;> (try simp only [beq_iff_eq,beq_eq_false_iff_ne,bne_iff_ne,ne_eq,decide_eq_true_eq,decide_eq_false_iff_not,Bool.not_true,Bool.not_false,Bool.not_eq_true,Bool.not_eq_false,bne_eq_false_iff_eq,Decidable.not_not] at h)) | ((first | with_reducible refine cE (fun h=>?_) (fun h=>?_) | refine aJ (fun h=>?_) (fun h=>?_)) <;> simp only [h,go_sem,simprocAttr] <;> (try simp only [beq_iff_eq,beq_eq_false_iff_ne,bne_iff_ne,ne_eq,decide_eq_true_eq,decide_eq_false_iff_not,Bool.not_true,Bool.not_false,Bool.not_eq_true,Bool.not_eq_false,bne_eq_false_iff_eq,Decidable.not_not] at h)))
     all_goals (first | omega | (repeat (first | rw [if_pos (by omega)] | rw [if_neg (by omega)])))
   | have h2:o.kind=13∨o.kind=15:=by omega
     have Dd:kG j=decide (j.phase=2∨j.phase=3):=by unfold kG; rw [Bool.eq_iff_iff]; simp
     rw [Dd]
     simp only [decide_eq_false_iff_not]
     repeat' (first | ((first | with_reducible refine cc (fun h=>?_) (fun h=>?_) | refine bI (fun h=>?_) (fun h=>?_)) <;> simp only [h,go_sem,simprocAttr] <;> (try simp only [beq_iff_eq,beq_eq_false_iff_ne,bne_iff_ne,ne_eq,decide_eq_true_eq,decide_eq_false_iff_not,Bool.not_true,Bool.not_false,Bool.not_eq_true,Bool.not_eq_false,bne_eq_false_iff_eq,Decidable.not_not] at h)) | ((first | with_reducible refine cE (fun h=>?_) (fun h=>?_) | refine aJ (fun h=>?_) (fun h=>?_)) <;> simp only [h,go_sem,simprocAttr] <;> (try simp only [beq_iff_eq,beq_eq_false_iff_ne,bne_iff_ne,ne_eq,decide_eq_true_eq,decide_eq_false_iff_not,Bool.not_true,Bool.not_false,Bool.not_eq_true,Bool.not_eq_false,bne_eq_false_iff_eq,Decidable.not_not] at h)))
     all_goals (first | omega | (repeat (first | rw [if_pos (by omega)] | rw [if_neg (by omega)])))
   | repeat' (first | ((first | with_reducible refine cc (fun h=>?_) (fun h=>?_) | refine bI (fun h=>?_) (fun h=>?_)) <;> simp only [h,go_sem,simprocAttr] <;> (try simp only [beq_iff_eq,beq_eq_false_iff_ne,bne_iff_ne,ne_eq,decide_eq_true_eq,decide_eq_false_iff_not,Bool.not_true,Bool.not_false,Bool.not_eq_true,Bool.not_eq_false,bne_eq_false_iff_eq,Decidable.not_not] at h)) | ((first | with_reducible refine cE (fun h=>?_) (fun h=>?_) | refine aJ (fun h=>?_) (fun h=>?_)) <;> simp only [h,go_sem,simprocAttr] <;> (try simp only [beq_iff_eq,beq_eq_false_iff_ne,bne_iff_ne,ne_eq,decide_eq_true_eq,decide_eq_false_iff_not,Bool.not_true,Bool.not_false,Bool.not_eq_true,Bool.not_eq_false,bne_eq_false_iff_eq,Decidable.not_not] at h)))
     all_goals (first | omega | (repeat (first | rw [if_pos (by omega)] | rw [if_neg (by omega)])))
 ·rcases hk with hk | hk | hk | hk | hk | hk
  all_goals
   first | rw [Tt ho hk] | rw [Ts ho hk] | rw [LK ho hk] | rw [LJ ho hk] | rw [LI ho hk] | rw [LH ho hk]
   simp only [hk,go_sem,simprocAttr]
   by_cases hq:(s.nodes.length:Int)≤o.a
   ·rw [if_pos hq]
    have q1:decide (o.a≥(s.nodes.length:Int))=true:=by simpa using hq
    simp only [q1,go_sem,simprocAttr]
   rw [if_neg hq]
   have q1:decide (o.a≥(s.nodes.length:Int))=false:=by simp; omega
   have q3:0≤o.a:=hka.1
   obtain ⟨i,qZ⟩:∃ i:Nat,o.a.toNat=i:=⟨_,rfl⟩
   have hil:i<s.nodes.length:=by omega
   have hg:=aB (f:=a_) an hil
   have hN:bg s o.a=s.nodes.getD i an:=by unfold bg; rw [qZ]
   rw [hN]
   generalize s.nodes.getD i an=n at *
   simp only [q1,q3,qZ,hg,hk,go_sem,simprocAttr]
   rcases hv with ⟨zN,uL⟩ | ⟨zN,uL⟩ | ⟨zN,uL⟩
   all_goals
    simp only [zN,uL,hk,go_sem,simprocAttr]
    simp only [ge_iff_le,decide_eq_true_eq,decide_eq_false_iff_not] at zN uL
  all_goals
   first
   | have h2:o.kind=7:=by omega
     cases hu:n.up <;> simp only [hu,Bool.true_eq_false,go_sem,simprocAttr]
   | have h2:o.kind=8:=by omega
     unfold aT
     simp only [decide_eq_false_iff_not]
     cases hu:n.up <;> simp only [hu,Bool.false_eq_true,hg,hk,go_sem,simprocAttr]
     repeat' (first | ((first | with_reducible refine cc (fun h=>?_) (fun h=>?_) | refine bI (fun h=>?_) (fun h=>?_)) <;> simp only [h,go_sem,simprocAttr] <;> (try simp only [beq_iff_eq,beq_eq_false_iff_ne,bne_iff_ne,ne_eq,decide_eq_true_eq,decide_eq_false_iff_not,Bool.not_true,Bool.not_false,Bool.not_eq_true,Bool.not_eq_false,bne_eq_false_iff_eq,Decidable.not_not] at h)) | ((first | with_reducible refine cE (fun h=>?_) (fun h=>?_) | refine aJ (fun h=>?_) (fun h=>?_)) <;> simp only [h,go_sem,simprocAttr] <;> (try simp only [beq_iff_eq,beq_eq_false_iff_ne,bne_iff_ne,ne_eq,decide_eq_true_eq,decide_eq_false_iff_not,Bool.not_true,Bool.not_false,Bool.not_eq_true,Bool.not_eq_false,bne_eq_false_iff_eq,Decidable.not_not] at h)))
     all_goals (first | omega | (repeat (first | rw [if_pos (by omega)] | rw [if_neg (by omega)])))
   | have h2:o.kind=16:=by omega
     cases hu:n.up <;> cases hc:n.bV <;> simp only [hu,hc,hg,hk,Bool.true_eq_false,go_sem,simprocAttr]
   | have h2:o.kind=17:=by omega
     cases hu:n.aU <;> cases hc:n.bV <;> simp only [hu,hc,hg,hk,Bool.true_eq_false,go_sem,simprocAttr]
   | have h2:o.kind=18:=by omega
     have e:(n.bW==0)=decide (n.bW=0):=rfl
     cases hu:n.up <;> cases hc:n.bV <;> cases hm:n.aU <;> cases hz:decide (n.bW=0) <;> simp only [hu,hc,hm,e,hz,hg,hk,Bool.true_eq_false,go_sem,simprocAttr]
   | have h2:o.kind=19:=by omega
     unfold aT
     simp only [decide_eq_false_iff_not]
     cases hu:n.aU <;> simp only [hu,Bool.true_eq_false,hg,hk,go_sem,simprocAttr]
     repeat' (first | ((first | with_reducible refine cc (fun h=>?_) (fun h=>?_) | refine bI (fun h=>?_) (fun h=>?_)) <;> simp only [h,go_sem,simprocAttr] <;> (try simp only [beq_iff_eq,beq_eq_false_iff_ne,bne_iff_ne,ne_eq,decide_eq_true_eq,decide_eq_false_iff_not,Bool.not_true,Bool.not_false,Bool.not_eq_true,Bool.not_eq_false,bne_eq_false_iff_eq,Decidable.not_not] at h)) | ((first | with_reducible refine cE (fun h=>?_) (fun h=>?_) | refine aJ (fun h=>?_) (fun h=>?_)) <;> simp only [h,go_sem,simprocAttr] <;> (try simp only [beq_iff_eq,beq_eq_false_iff_ne,bne_iff_ne,ne_eq,decide_eq_true_eq,decide_eq_false_iff_not,Bool.not_true,Bool.not_false,Bool.not_eq_true,Bool.not_eq_false,bne_eq_false_iff_eq,Decidable.not_not] at h)))
     all_goals (first | omega | (repeat (first | rw [if_pos (by omega)] | rw [if_neg (by omega)])))
end Dv
set_option maxRecDepth 100000
namespace Dv
open Go Go.Proofs
variable {G:Nat→Option (List DV)}
def ZB:=qx Tryz.f67
theorem W9:aq Tryz.prog Tryz.f67=some ZB:=by kernel_rfl
def ZT:=qx Tryz.f20
theorem Xq:aq Tryz.prog Tryz.f20=some ZT:=by kernel_rfl
@[reducible] def TB (s:ai) (a b:Nat):LV:=.agg [.sl a s.nodes.length 5 0 s.nodes.length,.sl b s.jobs.length 12 0 s.jobs.length,.int s.goal,.int s.bH,.int s.mode,.int s.term]
@[reducible] def GW (s:ai):List aG:=[.dat 102 5 (s.nodes.map a_),.dat 119 12 (s.jobs.map cQ)]
def tV (s:ai) (number phase:Int) (k:Nat):St:=⟨[(1,.int number),(3,.ptr 2 0),(6,.ptr 3 0),(7,.int k)],
 [some (.dat 102 5 ((fD (lets number) s.nodes k).map a_)),some (.dat 119 12 ((s.jobs.set (number-1).toNat { bG s number with phase:=phase,nodes:=0,since:=0,mI:=0 }).map cQ)),
  some (.box 30 [.sl 0 s.nodes.length 5 0 s.nodes.length,.sl 1 s.jobs.length 12 0 s.jobs.length,.int s.goal,.int s.bH,.int s.mode,.int s.term]),
  some (.box 30 [.d (.val (.slice none 0 0)),.d (.val (.slice none 0 0)),.int 0,.int 0,.int 0,.int 0])]⟩
theorem lT (s:ai) (number phase:Int) (h1:1≤number) (h2:number≤s.jobs.length) (hn:s.nodes.length≤1000) (hj:s.jobs.length≤1000) :
  br Tryz.prog G 67 [TB s 0 1,.int number,.int phase] (GW s) (TB s 0 1) (GW (er s number phase)):=by
 refine aY Tryz.func67 (by decide) W9 rfl rfl rfl rfl ?_
 simp only [ZB,go_sem,simprocAttr]
 have hw:IntKind.i64.wrap (number-1)=number-1:=aD (by omega) (by omega)
 have h3:0≤number-1:=by omega
 have h4:(number-1).toNat<s.jobs.length:=by omega
 have hg:=aB (f:=cQ) aK h4
 simp only [hw,h3,h4,hg,List.getElem?_set_self,List.length_set,List.set_set,go_sem,simprocAttr]
 refine aP [1,3,6,7] [] (fun k:Nat=>k≤s.nodes.length) (fun k=>s.nodes.length-k) (tV s number phase) 0 ?_ (Nat.zero_le _) (fun k hk=>?_)
 ·simp only [tV,go_sem,simprocAttr,nU,Int.natCast_zero,bG,List.map_set]
 simp only [tV,go_sem,simprocAttr]
 refine aJ (fun h=>?_) (fun h=>?_)
 ·have h:=dz h
  have hg:((fD (lets number) s.nodes k).map a_)[k]? = some (a_ s.nodes[k]):=by rw [List.getElem?_map,ta _ _ h]; rfl
  simp only [h,hg,gX,go_sem,simprocAttr]
  refine aJ (fun hq=>?_) (fun hq=>?_) <;> simp only [hq,go_sem,simprocAttr] <;> (try simp only [beq_iff_eq,beq_eq_false_iff_ne,bne_iff_ne,ne_eq,decide_eq_true_eq,decide_eq_false_iff_not,Bool.not_true,Bool.not_false,Bool.not_eq_true,Bool.not_eq_false,bne_eq_false_iff_eq,Decidable.not_not] at hq)
  ·have hs:((fD (lets number) s.nodes k).map a_).set k (a_ { s.nodes[k] with bW:=0 })=(fD (lets number) s.nodes (k+1)).map a_:=by
    rw [← List.map_set,mY _ _ h (by simp only [lets,hq,if_true])]
   simp only [a_] at hs
   simp only [h,hg,gX,go_sem,simprocAttr]
   refine aR (k+1) ?_ ?_ (by omega) (by omega)
   ·simp only [go_sem,simprocAttr]
   ·simp only [tV,go_sem,simprocAttr,ax (show k<9223372036854775807 by omega),hs]
  ·have hs:=nV (lets number) s.nodes h (by simp only [lets,hq,if_false])
   refine aR (k+1) ?_ ?_ (by omega) (by omega)
   ·simp only [go_sem,simprocAttr]
   ·simp only [tV,go_sem,simprocAttr,ax (show k<9223372036854775807 by omega),hs]
 ·obtain rfl:=dA h hk
  simp only [nW,er,TB,go_sem,simprocAttr]
theorem MG (a b:bu):(a.up==b.up&&(a.bV==b.bV&&(a.aU==b.aU&&(a.version==b.version&&(a.bW==b.bW&&true)))))=decide (a=b):=by
 rw [Bool.eq_iff_iff]
 obtain ⟨a1,a2,a3,a4,a5⟩:=a
 obtain ⟨b1,b2,b3,b4,b5⟩:=b
 simp
theorem Qb (a b:ct):(a.queue==b.queue&&(a.prio==b.prio&&(a.min==b.min&&(a.max==b.max&&(a.work==b.work&&(a.ia==b.ia&&(a.phase==b.phase&&(a.inc==b.inc&&(a.nodes==b.nodes&&(a.since==b.since&&(a.mI==b.mI&&(a.cK==b.cK&&true))))))))))))=decide (a=b):=by
 rw [Bool.eq_iff_iff]
 obtain ⟨a1,a2,a3,a4,a5,a6,a7,a8,a9,a10,a11,a12⟩:=a
 obtain ⟨b1,b2,b3,b4,b5,b6,b7,b8,b9,b10,b11,b12⟩:=b
 simp
theorem L9 (s t:ai):decide (s=t)=(decide (s.goal=t.goal∧s.bH=t.bH∧s.mode=t.mode∧s.term=t.term)&&(decide (s.nodes=t.nodes)&&decide (s.jobs=t.jobs))):=by
 rw [Bool.eq_iff_iff]
 obtain ⟨a1,a2,a3,a4,a5,a6⟩:=s
 obtain ⟨b1,b2,b3,b4,b5,b6⟩:=t
 simp
 constructor
 ·rintro ⟨rfl,rfl,rfl,rfl,rfl,rfl⟩; simp
 ·rintro ⟨⟨rfl,rfl,rfl,rfl⟩,rfl,rfl⟩; simp
theorem ES {α:Type} [DecidableEq α] (l m:List α) (k:Nat) (z:α) (h1:k<l.length) (h2:k<m.length):decide (l.drop k=m.drop k)=(decide (l.getD k z=m.getD k z)&&decide (l.drop (k+1)=m.drop (k+1))):=by
 rw [drop_cons l k z h1,drop_cons m k z h2,Bool.eq_iff_iff]
 simp
def wT (s t:ai) (k:Nat):St:=⟨[(2,.ptr 0 0),(3,.ptr 1 0),(5,.int k)],[some (.box 30 [bK s.nodes,cA s.jobs,.int s.goal,.int s.bH,.int s.mode,.int s.term]),some (.box 30 [bK t.nodes,cA t.jobs,.int t.goal,.int t.bH,.int t.mode,.int t.term])]⟩
def wS (s t:ai) (k:Nat):St:=⟨[(2,.ptr 0 0),(3,.ptr 1 0),(6,.int k)],[some (.box 30 [bK s.nodes,cA s.jobs,.int s.goal,.int s.bH,.int s.mode,.int s.term]),some (.box 30 [bK t.nodes,cA t.jobs,.int t.goal,.int t.bH,.int t.mode,.int t.term])]⟩
theorem Jt (s t:ai) (hn:s.nodes.length≤1000000000000) (hj:s.jobs.length≤1000000000000):br Tryz.prog G 20 [bz s,bz t] [] (.bool (decide (s=t))) []:=by
 refine b_ Tryz.func20 (by decide) Xq rfl rfl ?_
 simp only [ZT,go_sem,simprocAttr]
 repeat' (first | ((first | with_reducible refine cc (fun h=>?_) (fun h=>?_) | refine bI (fun h=>?_) (fun h=>?_)) <;> simp only [h,go_sem,simprocAttr] <;> (try simp only [beq_iff_eq,beq_eq_false_iff_ne,bne_iff_ne,ne_eq,decide_eq_true_eq,decide_eq_false_iff_not,Bool.not_true,Bool.not_false,Bool.not_eq_true,Bool.not_eq_false,bne_eq_false_iff_eq,Decidable.not_not] at h)))
 all_goals try (symm; apply decide_eq_false; intro e; subst e; omega)
 refine aJ (fun Nh=>?_) (fun Nh=>?_) <;> simp only [Nh,go_sem,simprocAttr] <;> (try simp only [beq_iff_eq,beq_eq_false_iff_ne,bne_iff_ne,ne_eq,decide_eq_true_eq,decide_eq_false_iff_not,Bool.not_true,Bool.not_false,Bool.not_eq_true,Bool.not_eq_false,bne_eq_false_iff_eq,Decidable.not_not] at Nh)
 ·symm; apply decide_eq_false; intro e; subst e; omega
 have rD:s.nodes.length=t.nodes.length:=by omega
 have hlj:s.jobs.length=t.jobs.length:=by omega
 rw [L9,decide_eq_true (show s.goal=t.goal∧s.bH=t.bH∧s.mode=t.mode∧s.term=t.term by omega),Bool.true_and]
 generalize hq:(decide (s.nodes=t.nodes)&&decide (s.jobs=t.jobs))=r
 refine aP [2,3,5] [] (fun k:Nat=>k≤s.nodes.length∧(decide (s.nodes.drop k=t.nodes.drop k)&&decide (s.jobs=t.jobs))=r) (fun k=>s.nodes.length-k) (wT s t) 0 ?_ ⟨Nat.zero_le _,hq⟩ ?_
 ·simp only [wT,go_sem,simprocAttr,Int.natCast_zero]
 rintro k ⟨hk,hF⟩
 simp only [wT,go_sem,simprocAttr]
 refine aJ (fun h=>?_) (fun h=>?_)
 ·have h:=dz h
  have h2:k<t.nodes.length:=by omega
  rw [ES s.nodes t.nodes k an h h2] at hF
  have hg:=aB (f:=a_) an h
  have hg2:=aB (f:=a_) an h2
  generalize s.nodes.getD k an=a at *
  generalize t.nodes.getD k an=b at *
  simp only [hg,hg2,go_sem,simprocAttr]
  have hnd:=MG a b
  simp only [Bool.and_true] at hnd
  simp only [hnd,go_sem,simprocAttr]
  cases hab:decide (a=b) with
  | false=>
    rw [hab] at hF
    simp only [Bool.false_and] at hF
    simp only [hab,go_sem,simprocAttr,← hF]
  | true=>
    rw [hab,Bool.true_and] at hF
    simp only [hab,go_sem,simprocAttr]
    refine aR (k+1) ?_ ?_ ⟨by omega,hF⟩ (by omega)
    ·simp only [go_sem,simprocAttr]
    ·simp only [wT,go_sem,simprocAttr,ax (show k<9223372036854775807 by omega)]
 ·obtain rfl:=dA h hk
  clear hq hk
  rw [List.drop_length,rD,List.drop_length,decide_eq_true rfl,Bool.true_and] at hF
  simp only [go_sem,simprocAttr]
  refine aP [2,3,6] [] (fun k:Nat=>k≤s.jobs.length∧decide (s.jobs.drop k=t.jobs.drop k)=r) (fun k=>s.jobs.length-k) (wS s t) 0 ?_ ⟨Nat.zero_le _,hF⟩ ?_
  ·simp only [wS,go_sem,simprocAttr,Int.natCast_zero]
  clear hF
  rintro k ⟨hk,hF⟩
  simp only [wS,go_sem,simprocAttr]
  refine aJ (fun h=>?_) (fun h=>?_)
  ·have h:=dz h
   have h2:k<t.jobs.length:=by omega
   rw [ES s.jobs t.jobs k aK h h2] at hF
   have hg:=aB (f:=cQ) aK h
   have hg2:=aB (f:=cQ) aK h2
   generalize s.jobs.getD k aK=a at *
   generalize t.jobs.getD k aK=b at *
   simp only [hg,hg2,go_sem,simprocAttr]
   have hjd:=Qb a b
   simp only [Bool.and_true] at hjd
   simp only [hjd,go_sem,simprocAttr]
   cases hab:decide (a=b) with
   | false=>
     rw [hab] at hF
     simp only [Bool.false_and] at hF
     simp only [hab,go_sem,simprocAttr,← hF]
   | true=>
     rw [hab,Bool.true_and] at hF
     simp only [hab,go_sem,simprocAttr]
     refine aR (k+1) ?_ ?_ ⟨by omega,hF⟩ (by omega)
     ·simp only [go_sem,simprocAttr]
     ·simp only [wS,go_sem,simprocAttr,ax (show k<9223372036854775807 by omega)]
  ·obtain rfl:=dA h hk
   rw [List.drop_length,hlj,List.drop_length,decide_eq_true rfl] at hF
   simp only [go_sem,simprocAttr,← hF]
end Dv
set_option maxRecDepth 100000
namespace Dv
open Go Go.Proofs
variable {G:Nat→Option (List DV)}
def ZU:=qx Tryz.f17
theorem Xr:aq Tryz.prog Tryz.f17=some ZU:=by kernel_rfl
section
variable {s:ai} {o:dH}
theorem do_1 (hk:o.kind=1):mD s o=({ s with jobs:=s.jobs++[gD o] }):=by
 simp [mD,hk]
theorem aaQ (hk:o.kind=2):mD s o=(er s o.a 4):=by
 simp [mD,hk]
theorem aaP (hk:o.kind=3):mD s o=({ s with bH:=nt s,goal:=o.a,mode:=0 }):=by
 simp [mD,hk]
theorem aaO (hk:o.kind=4):mD s o=({ s with mode:=1 }):=by
 simp [mD,hk]
theorem aaN (hk:o.kind=5):mD s o=({ s with mode:=0 }):=by
 simp [mD,hk]
theorem aaM (hk:o.kind=6):mD s o=({ s with mode:=2 }):=by
 simp [mD,hk]
theorem aaL (hk:o.kind=7):mD s o=((let t:=if 0<(bg s o.a).bW then er s (bg s o.a).bW 0 else s; fo t o.a { bg t o.a with up:=false,aU:=false })):=by
 simp [mD,hk]
theorem aaK (hk:o.kind=8):mD s o=(fo s o.a { bg s o.a with up:=true,version:=o.b }):=by
 simp [mD,hk]
theorem aaJ (hk:o.kind=9):mD s o=({ eN s o.a { bG s o.a with phase:=1,inc:=(bG s o.a).inc+1,nodes:=o.b } with nodes:=s.nodes.mapIdx (eG o.b o.a) }):=by
 simp [mD,hk]
theorem We (hk:o.kind=10):mD s o=(eN s o.a { bG s o.a with phase:=2,since:=o.b }):=by
 simp [mD,hk]
theorem Wd (hk:o.kind=11):mD s o=(er s o.a 0):=by
 simp [mD,hk]
theorem Wc (hk:o.kind=12):mD s o=(eN s o.a { bG s o.a with phase:=3,mI:=o.b }):=by
 simp [mD,hk]
theorem Wa (hk:o.kind=13):mD s o=(eN s o.a { bG s o.a with cK:=o.b }):=by
 simp [mD,hk]
theorem V_ (hk:o.kind=14):mD s o=(er s o.a 0):=by
 simp [mD,hk]
theorem V0 (hk:o.kind=15):mD s o=(er s o.a 4):=by
 simp [mD,hk]
theorem VZ (hk:o.kind=16):mD s o=(fo s o.a { bg s o.a with bV:=true }):=by
 simp [mD,hk]
theorem VY (hk:o.kind=17):mD s o=(fo s o.a { bg s o.a with bV:=false }):=by
 simp [mD,hk]
theorem VX (hk:o.kind=18):mD s o=(fo s o.a { bg s o.a with aU:=true }):=by
 simp [mD,hk]
theorem VW (hk:o.kind=19):mD s o=(fo s o.a { bg s o.a with aU:=false,bV:=false,version:=o.b }):=by
 simp [mD,hk]
theorem VV (hk:o.kind=20):mD s o=(fo (eN s o.a { bG s o.a with nodes:=fS (bG s o.a).nodes o.b 6 }) o.b { bg s o.b with bW:=0 }):=by
 simp [mD,hk]
theorem VU (hk:o.kind=21):mD s o=({ s with term:=s.term+1 }):=by
 simp [mD,hk]
end
theorem kN {c:aI} {s:ai} {o:dH} (ho:dX o=true) (hk:iz o.kind=true) (h:dJ c s o=0):1≤o.a∧o.a≤s.jobs.length:=by
 by_cases hq:o.a<1∨(s.jobs.length:Int)<o.a
 ·exfalso
  unfold iz at hk
  have hk:=of_decide_eq_true hk
  rcases hk with hk | hk | hk | hk | hk | hk | hk | hk | hk <;>
   simp [dJ,ho,hk,iz,hq] at h
 ·omega
theorem mX {c:aI} {s:ai} {o:dH} (ho:dX o=true) (hk:fe o.kind=true) (h:dJ c s o=0):o.a<s.nodes.length:=by
 by_cases hq:(s.nodes.length:Int)≤o.a
 ·exfalso
  unfold fe at hk
  have hk:=of_decide_eq_true hk
  rcases hk with hk | hk | hk | hk | hk | hk <;>
   simp [dJ,ho,hk,iz,fe,hq] at h
 ·omega
def yY (c:aI) (s:ai) (o:dH) (j':ct) (k:Nat):St:=⟨[(5,.ptr 2 0),(6,.ptr 3 0),(8,.ptr 6 0),(10,.int k)],[some (.box 23 [.int c.nodes,.int c.bn,.int c.cv,.int c.gJ,.int c.eF,.int c.eE,.int c.deadline,.int c.room,.int c.gq]),
 some (.box 30 [bK s.nodes,cA s.jobs,.int s.goal,.int s.bH,.int s.mode,.int s.term]),
 some (.box 37 [.int 9,.int o.a,.int o.b,.int o.c,.int o.d,.int o.e,.int o.f]),
 some (.box 30 [.d (.val (.slice none 0 0)),.d (.val (.slice none 0 0)),.int 0,.int 0,.int 0,.int 0]),
 some (.dat 102 5 ((fD (eG o.b o.a) s.nodes k).map a_)),some (.dat 119 12 ((s.jobs.set (o.a-1).toNat j').map cQ)),some (.box 30 [.sl 4 s.nodes.length 5 0 s.nodes.length,.sl 5 s.jobs.length 12 0 s.jobs.length,.int s.goal,.int s.bH,.int s.mode,.int s.term])]⟩
def mZ (c:aI) (s:ai) (o:dH) (m:Int) (k:Nat):St:=⟨[(5,.ptr 2 0),(6,.ptr 3 0),(8,.ptr 6 0),(11,.int (fS m o.b k)),(12,.int k)],[some (.box 23 [.int c.nodes,.int c.bn,.int c.cv,.int c.gJ,.int c.eF,.int c.eE,.int c.deadline,.int c.room,.int c.gq]),
 some (.box 30 [bK s.nodes,cA s.jobs,.int s.goal,.int s.bH,.int s.mode,.int s.term]),
 some (.box 37 [.int 20,.int o.a,.int o.b,.int o.c,.int o.d,.int o.e,.int o.f]),
 some (.box 30 [.d (.val (.slice none 0 0)),.d (.val (.slice none 0 0)),.int 0,.int 0,.int 0,.int 0]),
 some (.dat 102 5 (s.nodes.map a_)),some (.dat 119 12 (s.jobs.map cQ)),some (.box 30 [.sl 4 s.nodes.length 5 0 s.nodes.length,.sl 5 s.jobs.length 12 0 s.jobs.length,.int s.goal,.int s.bH,.int s.mode,.int s.term])]⟩
theorem vi (m b:Int):∀ k:Nat,k≤6→0≤fS m b k∧fS m b k<2 ^ k
 | 0,_=>by simp [fS]
 | k+1,h=>by
   have:=vi m b k (by omega)
   unfold fS
   have hp:(2:Int) ^ (k+1)=2*2 ^ k:=by rw [Int.pow_succ]; omega
   have h0:(0:Int)<2 ^ k:=Int.pow_pos (by decide)
   split <;> omega
set_option maxHeartbeats 3200000 in
theorem sZ (c:aI) (s:ai) (o:dH) (hp:cm c s):br Tryz.prog G 17 [f_ c,bz s,rS o] [] (.dM [bz (oB c s o).1,.int (oB c s o).2]) []:=by
 refine bD Tryz.func17 (by decide) Xr rfl ?_
 have rD:=hp.len
 have hlj:=hp.jobs
 have hBJ:(s.jobs.length+1)*96≤70368744177664:=by omega
 simp only [ZU,go_sem,simprocAttr]
 refine fO (KX s (by omega) (by omega)) rfl rfl rfl ?_
 simp only [go_sem,simprocAttr]
 refine xz [4,5] (LR c s o (by omega) (by omega)) rfl (by simp [aa,ah,aM,ay,List.take_of_length_le,go_sem,simprocAttr]) (by simp [ay]) rfl rfl ?_; simp only [go_sem,simprocAttr]
 cases hw0:(dJ c s o !=0) with
 | true=>
   have hA:oB c s o=(s,dJ c s o):=by unfold oB; rw [if_pos (by simpa using hw0)]
   rw [hA]
   simp only [hw0,go_sem,simprocAttr]
   exact bw [4,5] rfl (by simp [St.obj,ay]) (by simp [St.obj,ay,aF,St.get,aO,ah,aa,aM,LV.int,List.take_of_length_le])
 | false=>
 have hw1:dJ c s o=0:=by simpa using hw0
 have hA:oB c s o=(mD s o,0):=by unfold oB; rw [if_neg (by simpa using hw1)]
 rw [hA]
 have ho:dX o=true:=by
  cases ho:dX o with
  | true=>rfl
  | false=>unfold dJ at hw1; rw [if_pos ho] at hw1; cases hw1
 obtain ⟨hkk,hka,hkb⟩:=k9 ho
 simp only [hw0,go_sem,simprocAttr]
 have hk:o.kind=1∨o.kind=2∨o.kind=3∨o.kind=4∨o.kind=5∨o.kind=6∨o.kind=7∨o.kind=8∨o.kind=9∨o.kind=10∨o.kind=11∨o.kind=12∨o.kind=13∨o.kind=14∨o.kind=15∨o.kind=16∨o.kind=17∨o.kind=18∨o.kind=19∨o.kind=20∨o.kind=21:=by omega
 rcases hk with hk | hk | hk | hk | hk | hk | hk | hk | hk | hk | hk | hk | hk | hk | hk | hk | hk | hk | hk | hk | hk
 ·rw [do_1 hk]
  simp only [hk,List.length_append,hBJ,go_sem,simprocAttr]
  exact bw [4,5] rfl (by simp [St.obj,ay]) (by simp [St.obj,ay,aF,St.get,aO,ah,aa,aM,LV.int,List.take_of_length_le,a_,cQ,gD])
 ·rw [aaQ hk]
  have Im:=kN ho (by rw [hk]; rfl) hw1
  simp only [hk,go_sem,simprocAttr]
  refine au [4,5] (lT s o.a 4 (by omega) (by omega) (by omega) (by omega)) rfl ?_ (by decide) ?_ ?_ (by simp) ?_ <;> simp only [aa,ah,go_sem,simprocAttr,TB,GW]
  exact bw [4,5] rfl (by simp [St.obj,ay]) (by simp [St.obj,ay,aF,St.get,aO,ah,aa,aM,LV.int,List.take_of_length_le,a_,cQ,er])
 ·rw [aaP hk]
  simp only [hk,go_sem,simprocAttr]
  refine xz [4,5] (Gg s) rfl (by simp [aa,ah,aM,ay,List.take_of_length_le,go_sem,simprocAttr]) (by simp [ay]) rfl rfl ?_; simp only [go_sem,simprocAttr]
  exact bw [4,5] rfl (by simp [St.obj,ay]) (by simp [St.obj,ay,aF,St.get,aO,ah,aa,aM,LV.int,List.take_of_length_le,a_,cQ])
 ·rw [aaO hk]
  simp only [hk,go_sem,simprocAttr]
  exact bw [4,5] rfl (by simp [St.obj,ay]) (by simp [St.obj,ay,aF,St.get,aO,ah,aa,aM,LV.int,List.take_of_length_le,a_,cQ])
 ·rw [aaN hk]
  simp only [hk,go_sem,simprocAttr]
  exact bw [4,5] rfl (by simp [St.obj,ay]) (by simp [St.obj,ay,aF,St.get,aO,ah,aa,aM,LV.int,List.take_of_length_le,a_,cQ])
 ·rw [aaM hk]
  simp only [hk,go_sem,simprocAttr]
  exact bw [4,5] rfl (by simp [St.obj,ay]) (by simp [St.obj,ay,aF,St.get,aO,ah,aa,aM,LV.int,List.take_of_length_le,a_,cQ])
 ·rw [aaL hk]
  have Im:=mX ho (by rw [hk]; rfl) hw1
  have q3:0≤o.a:=hka.1
  obtain ⟨i,qZ⟩:∃ i:Nat,o.a.toNat=i:=⟨_,rfl⟩
  have hil:i<s.nodes.length:=by omega
  have hg:=aB (f:=a_) an hil
  have hN:bg s o.a=s.nodes.getD i an:=by unfold bg; rw [qZ]
  rw [hN]
  have hjb:=hp.bW i hil
  unfold eS at hjb
  generalize Sy:s.nodes.getD i an=n at *
  simp only [hk,q3,qZ,hil,hg,go_sem,simprocAttr]
  refine aJ (fun h=>?_) (fun h=>?_) <;> simp only [h,go_sem,simprocAttr] <;> (try simp only [beq_iff_eq,beq_eq_false_iff_ne,bne_iff_ne,ne_eq,decide_eq_true_eq,decide_eq_false_iff_not,Bool.not_true,Bool.not_false,Bool.not_eq_true,Bool.not_eq_false,bne_eq_false_iff_eq,Decidable.not_not] at h)
  ·rw [if_pos (by omega)]
   simp only [hk,q3,qZ,hil,hg,go_sem,simprocAttr]
   refine dS [4,5] (lT s n.bW 0 (by omega) (by omega) (by omega) (by omega)) rfl ?_ (by decide) ?_ ?_ (by simp) ?_ <;> simp only [aa,ah,go_sem,simprocAttr,TB,GW]
   refine az rfl ?_
   have hg2:((er s n.bW 0).nodes.map a_)[i]? = some (a_ (bg (er s n.bW 0) o.a)):=by
    unfold bg; rw [qZ]; exact aB an (by simp [er]; exact hil)
   have hl:(er s n.bW 0).nodes.length=s.nodes.length:=by simp [er]
   have abK:(er s n.bW 0).jobs.length=s.jobs.length:=by simp [er]
   have hst:(er s n.bW 0).goal=s.goal∧(er s n.bW 0).bH=s.bH∧(er s n.bW 0).mode=s.mode∧(er s n.bW 0).term=s.term:=⟨rfl,rfl,rfl,rfl⟩
   obtain ⟨e1,e2,e3,e4⟩:=hst
   generalize bg (er s n.bW 0) o.a=m at *
   generalize er s n.bW 0=u at *
   have abT:i<u.nodes.length:=by omega
   simp only [hk,q3,qZ,hil,abT,hl,hg2,List.getElem?_set_self,List.length_set,List.set_set,go_sem,simprocAttr]
   exact bw [4,5] rfl (by simp [St.obj,ay]) (by simp [St.obj,ay,aF,St.get,aO,ah,aa,aM,LV.int,List.take_of_length_le,a_,cQ,fo,qZ,List.map_set,hl,abK,e1,e2,e3,e4])
  ·rw [if_neg (by omega),hN]
   simp only [hk,q3,qZ,hil,hg,List.getElem?_set_self,List.length_set,List.set_set,go_sem,simprocAttr]
   exact bw [4,5] rfl (by simp [St.obj,ay]) (by simp [St.obj,ay,aF,St.get,aO,ah,aa,aM,LV.int,List.take_of_length_le,a_,cQ,fo,qZ,List.map_set])
 ·rw [aaK hk]
  have Im:=mX ho (by rw [hk]; rfl) hw1
  have q3:0≤o.a:=hka.1
  obtain ⟨i,qZ⟩:∃ i:Nat,o.a.toNat=i:=⟨_,rfl⟩
  have hil:i<s.nodes.length:=by omega
  have hg:=aB (f:=a_) an hil
  have hN:bg s o.a=s.nodes.getD i an:=by unfold bg; rw [qZ]
  rw [hN]
  generalize s.nodes.getD i an=n at *
  simp only [hk,q3,qZ,hil,hg,List.getElem?_set_self,List.length_set,List.set_set,go_sem,simprocAttr]
  exact bw [4,5] rfl (by simp [St.obj,ay]) (by simp [St.obj,ay,aF,St.get,aO,ah,aa,aM,LV.int,List.take_of_length_le,a_,cQ,fo,qZ,List.map_set])
 ·rw [aaJ hk]
  have Im:=kN ho (by rw [hk]; rfl) hw1
  have hw:IntKind.i64.wrap (o.a-1)=o.a-1:=aD (by omega) (by omega)
  have q3:0≤o.a-1:=by omega
  obtain ⟨k,sO⟩:∃ k:Nat,(o.a-1).toNat=k:=⟨_,rfl⟩
  have hkl:k<s.jobs.length:=by omega
  have hg:=aB (f:=cQ) aK hkl
  have hJ:bG s o.a=s.jobs.getD k aK:=by unfold bG; rw [sO]
  rw [hJ]
  have p7:=(hp.num k hkl).inc
  unfold fJ at p7
  generalize s.jobs.getD k aK=j at *
  have Lz:IntKind.i64.wrap (j.inc+1)=j.inc+1:=aD (by omega) (by omega)
  simp only [hk,hw,Lz,q3,sO,hkl,hg,List.getElem?_set_self,List.length_set,List.set_set,go_sem,simprocAttr]
  refine aP [5,6,8,10] [] (fun q:Nat=>q≤s.nodes.length) (fun q=>s.nodes.length-q) (yY c s o { j with phase:=1,inc:=j.inc+1,nodes:=o.b }) 0 ?_ (Nat.zero_le _) (fun q hq=>?_)
  ·simp only [yY,nU,Int.natCast_zero,sO,List.map_set,go_sem,simprocAttr]
  simp only [yY,sO,go_sem,simprocAttr]
  refine aJ (fun h=>?_) (fun h=>?_)
  ·have h:=dz h
   have hg2:((fD (eG o.b o.a) s.nodes q).map a_)[q]? = some (a_ s.nodes[q]):=by rw [List.getElem?_map,ta _ _ h]; rfl
   simp only [go_sem,simprocAttr]
   refine av (iJ o.b q (by omega)) rfl rfl rfl rfl ?_; simp only [go_sem,simprocAttr]
   cases hb:hasB o.b q with
   | true=>
     have hs:((fD (eG o.b o.a) s.nodes q).map a_).set q (a_ { s.nodes[q] with bW:=o.a })=(fD (eG o.b o.a) s.nodes (q+1)).map a_:=by
      rw [← List.map_set,mY _ _ h (by simp only [eG,hb,if_true])]
     simp only [a_] at hs
     simp only [h,hg2,gX,go_sem,simprocAttr]
     refine aR (q+1) ?_ ?_ (by omega) (by omega)
     ·simp only [go_sem,simprocAttr]
     ·simp only [yY,sO,go_sem,simprocAttr,ax (show q<9223372036854775807 by omega),hs]
   | false=>
     have hs:=nV (eG o.b o.a) s.nodes h (by simp only [eG,hb,Bool.false_eq_true,if_false])
     simp only [go_sem,simprocAttr]
     refine aR (q+1) ?_ ?_ (by omega) (by omega)
     ·simp only [go_sem,simprocAttr]
     ·simp only [yY,sO,go_sem,simprocAttr,ax (show q<9223372036854775807 by omega),hs]
  ·obtain rfl:=dA h hq
   simp only [nW,go_sem,simprocAttr]
   exact bw [4,5] rfl (by simp [St.obj,ay]) (by simp [St.obj,ay,aF,St.get,aO,ah,aa,aM,LV.int,List.take_of_length_le,a_,cQ,eN,sO])
 ·rw [We hk]
  have Im:=kN ho (by rw [hk]; rfl) hw1
  have hw:IntKind.i64.wrap (o.a-1)=o.a-1:=aD (by omega) (by omega)
  have q3:0≤o.a-1:=by omega
  obtain ⟨k,sO⟩:∃ k:Nat,(o.a-1).toNat=k:=⟨_,rfl⟩
  have hkl:k<s.jobs.length:=by omega
  have hg:=aB (f:=cQ) aK hkl
  have hJ:bG s o.a=s.jobs.getD k aK:=by unfold bG; rw [sO]
  rw [hJ]
  generalize s.jobs.getD k aK=j at *
  simp only [hk,hw,q3,sO,hkl,hg,List.getElem?_set_self,List.length_set,List.set_set,go_sem,simprocAttr]
  exact bw [4,5] rfl (by simp [St.obj,ay]) (by simp [St.obj,ay,aF,St.get,aO,ah,aa,aM,LV.int,List.take_of_length_le,a_,cQ,eN,sO,List.map_set])
 ·rw [Wd hk]
  have Im:=kN ho (by rw [hk]; rfl) hw1
  simp only [hk,go_sem,simprocAttr]
  refine au [4,5] (lT s o.a 0 (by omega) (by omega) (by omega) (by omega)) rfl ?_ (by decide) ?_ ?_ (by simp) ?_ <;> simp only [aa,ah,go_sem,simprocAttr,TB,GW]
  exact bw [4,5] rfl (by simp [St.obj,ay]) (by simp [St.obj,ay,aF,St.get,aO,ah,aa,aM,LV.int,List.take_of_length_le,a_,cQ,er])
 ·rw [Wc hk]
  have Im:=kN ho (by rw [hk]; rfl) hw1
  have hw:IntKind.i64.wrap (o.a-1)=o.a-1:=aD (by omega) (by omega)
  have q3:0≤o.a-1:=by omega
  obtain ⟨k,sO⟩:∃ k:Nat,(o.a-1).toNat=k:=⟨_,rfl⟩
  have hkl:k<s.jobs.length:=by omega
  have hg:=aB (f:=cQ) aK hkl
  have hJ:bG s o.a=s.jobs.getD k aK:=by unfold bG; rw [sO]
  rw [hJ]
  generalize s.jobs.getD k aK=j at *
  simp only [hk,hw,q3,sO,hkl,hg,List.getElem?_set_self,List.length_set,List.set_set,go_sem,simprocAttr]
  exact bw [4,5] rfl (by simp [St.obj,ay]) (by simp [St.obj,ay,aF,St.get,aO,ah,aa,aM,LV.int,List.take_of_length_le,a_,cQ,eN,sO,List.map_set])
 ·rw [Wa hk]
  have Im:=kN ho (by rw [hk]; rfl) hw1
  have hw:IntKind.i64.wrap (o.a-1)=o.a-1:=aD (by omega) (by omega)
  have q3:0≤o.a-1:=by omega
  obtain ⟨k,sO⟩:∃ k:Nat,(o.a-1).toNat=k:=⟨_,rfl⟩
  have hkl:k<s.jobs.length:=by omega
  have hg:=aB (f:=cQ) aK hkl
  have hJ:bG s o.a=s.jobs.getD k aK:=by unfold bG; rw [sO]
  rw [hJ]
  generalize s.jobs.getD k aK=j at *
  simp only [hk,hw,q3,sO,hkl,hg,List.getElem?_set_self,List.length_set,List.set_set,go_sem,simprocAttr]
  exact bw [4,5] rfl (by simp [St.obj,ay]) (by simp [St.obj,ay,aF,St.get,aO,ah,aa,aM,LV.int,List.take_of_length_le,a_,cQ,eN,sO,List.map_set])
 ·rw [V_ hk]
  have Im:=kN ho (by rw [hk]; rfl) hw1
  simp only [hk,go_sem,simprocAttr]
  refine au [4,5] (lT s o.a 0 (by omega) (by omega) (by omega) (by omega)) rfl ?_ (by decide) ?_ ?_ (by simp) ?_ <;> simp only [aa,ah,go_sem,simprocAttr,TB,GW]
  exact bw [4,5] rfl (by simp [St.obj,ay]) (by simp [St.obj,ay,aF,St.get,aO,ah,aa,aM,LV.int,List.take_of_length_le,a_,cQ,er])
 ·rw [V0 hk]
  have Im:=kN ho (by rw [hk]; rfl) hw1
  simp only [hk,go_sem,simprocAttr]
  refine au [4,5] (lT s o.a 4 (by omega) (by omega) (by omega) (by omega)) rfl ?_ (by decide) ?_ ?_ (by simp) ?_ <;> simp only [aa,ah,go_sem,simprocAttr,TB,GW]
  exact bw [4,5] rfl (by simp [St.obj,ay]) (by simp [St.obj,ay,aF,St.get,aO,ah,aa,aM,LV.int,List.take_of_length_le,a_,cQ,er])
 ·rw [VZ hk]
  have Im:=mX ho (by rw [hk]; rfl) hw1
  have q3:0≤o.a:=hka.1
  obtain ⟨i,qZ⟩:∃ i:Nat,o.a.toNat=i:=⟨_,rfl⟩
  have hil:i<s.nodes.length:=by omega
  have hg:=aB (f:=a_) an hil
  have hN:bg s o.a=s.nodes.getD i an:=by unfold bg; rw [qZ]
  rw [hN]
  generalize s.nodes.getD i an=n at *
  simp only [hk,q3,qZ,hil,hg,List.getElem?_set_self,List.length_set,List.set_set,go_sem,simprocAttr]
  exact bw [4,5] rfl (by simp [St.obj,ay]) (by simp [St.obj,ay,aF,St.get,aO,ah,aa,aM,LV.int,List.take_of_length_le,a_,cQ,fo,qZ,List.map_set])
 ·rw [VY hk]
  have Im:=mX ho (by rw [hk]; rfl) hw1
  have q3:0≤o.a:=hka.1
  obtain ⟨i,qZ⟩:∃ i:Nat,o.a.toNat=i:=⟨_,rfl⟩
  have hil:i<s.nodes.length:=by omega
  have hg:=aB (f:=a_) an hil
  have hN:bg s o.a=s.nodes.getD i an:=by unfold bg; rw [qZ]
  rw [hN]
  generalize s.nodes.getD i an=n at *
  simp only [hk,q3,qZ,hil,hg,List.getElem?_set_self,List.length_set,List.set_set,go_sem,simprocAttr]
  exact bw [4,5] rfl (by simp [St.obj,ay]) (by simp [St.obj,ay,aF,St.get,aO,ah,aa,aM,LV.int,List.take_of_length_le,a_,cQ,fo,qZ,List.map_set])
 ·rw [VX hk]
  have Im:=mX ho (by rw [hk]; rfl) hw1
  have q3:0≤o.a:=hka.1
  obtain ⟨i,qZ⟩:∃ i:Nat,o.a.toNat=i:=⟨_,rfl⟩
  have hil:i<s.nodes.length:=by omega
  have hg:=aB (f:=a_) an hil
  have hN:bg s o.a=s.nodes.getD i an:=by unfold bg; rw [qZ]
  rw [hN]
  generalize s.nodes.getD i an=n at *
  simp only [hk,q3,qZ,hil,hg,List.getElem?_set_self,List.length_set,List.set_set,go_sem,simprocAttr]
  exact bw [4,5] rfl (by simp [St.obj,ay]) (by simp [St.obj,ay,aF,St.get,aO,ah,aa,aM,LV.int,List.take_of_length_le,a_,cQ,fo,qZ,List.map_set])
 ·rw [VW hk]
  have Im:=mX ho (by rw [hk]; rfl) hw1
  have q3:0≤o.a:=hka.1
  obtain ⟨i,qZ⟩:∃ i:Nat,o.a.toNat=i:=⟨_,rfl⟩
  have hil:i<s.nodes.length:=by omega
  have hg:=aB (f:=a_) an hil
  have hN:bg s o.a=s.nodes.getD i an:=by unfold bg; rw [qZ]
  rw [hN]
  generalize s.nodes.getD i an=n at *
  simp only [hk,q3,qZ,hil,hg,List.getElem?_set_self,List.length_set,List.set_set,go_sem,simprocAttr]
  exact bw [4,5] rfl (by simp [St.obj,ay]) (by simp [St.obj,ay,aF,St.get,aO,ah,aa,aM,LV.int,List.take_of_length_le,a_,cQ,fo,qZ,List.map_set])
 ·rw [VV hk]
  have Im:=kN ho (by rw [hk]; rfl) hw1
  have hw:IntKind.i64.wrap (o.a-1)=o.a-1:=aD (by omega) (by omega)
  have q3:0≤o.a-1:=by omega
  obtain ⟨k,sO⟩:∃ k:Nat,(o.a-1).toNat=k:=⟨_,rfl⟩
  have hkl:k<s.jobs.length:=by omega
  have hg:=aB (f:=cQ) aK hkl
  have hJ:bG s o.a=s.jobs.getD k aK:=by unfold bG; rw [sO]
  rw [hJ]
  have oO:o.b<s.nodes.length:=by
   by_cases hq:(s.nodes.length:Int)≤o.b
   ·exfalso
    rw [si ho hk,if_neg (by omega),if_pos hq] at hw1
    cases hw1
   ·omega
  obtain ⟨b,hb⟩:=Int.eq_ofNat_of_zero_le hkb.1
  have hbn:b<s.nodes.length:=by omega
  have rE:=aB (f:=a_) an hbn
  have hN:bg s (b:Int)=s.nodes.getD b an:=rfl
  generalize s.jobs.getD k aK=j at *
  simp only [hk,hw,q3,sO,hkl,hg,go_sem,simprocAttr]
  refine aP [5,6,8,11,12] [] (fun q:Nat=>q≤6) (fun q=>6-q) (mZ c s o j.nodes) 0 ?_ (by omega) (fun q hq=>?_)
  ·simp only [mZ,fS,Int.natCast_zero,go_sem,simprocAttr]
  simp only [mZ,go_sem,simprocAttr]
  refine aJ (fun h=>?_) (fun h=>?_) <;> simp only [h,go_sem,simprocAttr] <;> (try simp only [beq_iff_eq,beq_eq_false_iff_ne,bne_iff_ne,ne_eq,decide_eq_true_eq,decide_eq_false_iff_not,Bool.not_true,Bool.not_false,Bool.not_eq_true,Bool.not_eq_false,bne_eq_false_iff_eq,Decidable.not_not] at h)
  ·simp only [hk,hw,q3,sO,hkl,hg,go_sem,simprocAttr]
   refine av (iJ j.nodes q (by omega)) rfl rfl rfl rfl ?_; simp only [go_sem,simprocAttr]
   have Z0:IntKind.u64.wrap (q:Int)=q:=by simp [IntKind.wrap,IntKind.bits,IntKind.signed]; omega
   have hle:=vi j.nodes o.b q (by omega)
   have hle2:=vi j.nodes o.b (q+1) (by omega)
   have hp6:=tD q (by omega)
   have hp7:(2:Int) ^ (q+1)≤64:=tD (q+1) (by omega)
   cases hh:hasB j.nodes q with
   | false=>
     have e:fS j.nodes o.b (q+1)=fS j.nodes o.b q:=by rw [fS,if_neg (by simp [hh]),Int.add_zero]
     simp only [go_sem,simprocAttr]
     refine aR (q+1) ?_ ?_ (by omega) (by omega)
     ·simp only [go_sem,simprocAttr]
     ·simp only [mZ,go_sem,simprocAttr,ax (show q<9223372036854775807 by omega),e]
   | true=>
     simp only [go_sem,simprocAttr]
     refine aJ (fun hqb=>?_) (fun hqb=>?_) <;> simp only [hqb,go_sem,simprocAttr] <;> (try simp only [beq_iff_eq,beq_eq_false_iff_ne,bne_iff_ne,ne_eq,decide_eq_true_eq,decide_eq_false_iff_not,Bool.not_true,Bool.not_false,Bool.not_eq_true,Bool.not_eq_false,bne_eq_false_iff_eq,Decidable.not_not] at hqb)
     ·have e:IntKind.i64.wrap (fS j.nodes o.b q+zT .i64 1 q)=fS j.nodes o.b (q+1):=by
       rw [wQ q (by omega),fS,if_pos ⟨hh,hqb⟩,aD (by omega) (by omega)]
      simp only [Z0,e,go_sem,simprocAttr]
      refine aR (q+1) ?_ ?_ (by omega) (by omega)
      ·simp only [go_sem,simprocAttr]
      ·simp only [mZ,go_sem,simprocAttr,ax (show q<9223372036854775807 by omega)]
     ·have e:fS j.nodes o.b (q+1)=fS j.nodes o.b q:=by rw [fS,if_neg (fun h=>h.2 hqb),Int.add_zero]
      refine aR (q+1) ?_ ?_ (by omega) (by omega)
      ·simp only [go_sem,simprocAttr]
      ·simp only [mZ,go_sem,simprocAttr,ax (show q<9223372036854775807 by omega),e]
  ·obtain rfl:q=6:=by omega
   generalize fS j.nodes o.b 6=lf at *
   rw [hb,hN]
   generalize s.nodes.getD b an=n at *
   simp only [hk,hw,hb,q3,sO,hkl,hg,rE,hbn,List.getElem?_set_self,List.length_set,List.set_set,go_sem,simprocAttr]
   exact bw [4,5] rfl (by simp [St.obj,ay]) (by simp [St.obj,ay,aF,St.get,aO,ah,aa,aM,LV.int,List.take_of_length_le,a_,cQ,eN,fo,sO,List.map_set])
 ·rw [VU hk]
  have hw:IntKind.i64.wrap (s.term+1)=s.term+1:=aD (by have:=hp.term; omega) (by have:=hp.term; omega)
  simp only [hk,hw,go_sem,simprocAttr]
  exact bw [4,5] rfl (by simp [St.obj,ay]) (by simp [St.obj,ay,aF,St.get,aO,ah,aa,aM,LV.int,List.take_of_length_le,a_,cQ])
end Dv
