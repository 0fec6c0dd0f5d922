/- The book: Drains, fits, stands, sound, Right. -/
import Derived.Test.YtkalnfkokkjliaaGreatDoorDB
set_option linter.unusedVariables false
set_option linter.unusedSimpArgs false
set_option maxRecDepth 100000
namespace Dv
open Go Go.Proofs
variable {G:Nat→Option (List DV)}
def Vr:=qx Tryz.f115
theorem R3:aq Tryz.prog Tryz.f115=some Vr:=by kernel_rfl
def M5:=qx Tryz.f196
theorem H8:aq Tryz.prog Tryz.f196=some M5:=by kernel_rfl
def Vt:=qx Tryz.f113
theorem R5:aq Tryz.prog Tryz.f113=some Vt:=by kernel_rfl
def Vs:=qx Tryz.f114
theorem R4:aq Tryz.prog Tryz.f114=some Vs:=by kernel_rfl
def ZJ:=qx Tryz.f42
theorem Xg:aq Tryz.prog Tryz.f42=some ZJ:=by kernel_rfl
def ry (s:ai) (q:Int) (k:Nat):St:=⟨[(1,.int q),(5,.int (cu (s.jobs.take k) q)),(9,cA s.jobs),(10,.int s.jobs.length),(11,.int k)],[some (.box 30 [bK s.nodes,cA s.jobs,.int s.goal,.int s.bH,.int s.mode,.int s.term])]⟩
theorem zq (s:ai) (q:Int) (hn:s.jobs.length≤9223372036854775806):br Tryz.prog G 115 [bz s,.int q] [] (.int (cu s.jobs q)) []:=by
 refine b_ Tryz.func115 (by decide) R3 rfl rfl ?_
 simp only [Vr,go_sem,simprocAttr]
 refine aP [1,5,9,10,11] [] (fun k:Nat=>k≤s.jobs.length) (fun k=>s.jobs.length-k) (ry s q) 0 ?_ (Nat.zero_le _) (fun k hk=>?_)
 ·simp only [ry,go_sem,simprocAttr,cu,List.filter_nil,Int.natCast_zero]
 simp only [ry,go_sem,simprocAttr]
 refine aJ (fun h=>?_) (fun h=>?_)
 ·have h:=dz h
  have hb:=zu (s.jobs.take k) q
  rw [List.length_take] at hb
  have hs:s.jobs.take (k+1)=s.jobs.take k++[s.jobs[k]]:=by rw [List.take_succ_eq_append_getElem h]
  have hd:=ou (s.jobs.take k) s.jobs[k] q
  simp only [get_map h,go_sem,simprocAttr]
  refine bI (fun h1=>?_) (fun h1=>?_) <;> simp only [h1,go_sem,simprocAttr] <;> (try simp only [beq_iff_eq,beq_eq_false_iff_ne,bne_iff_ne,ne_eq,decide_eq_true_eq,decide_eq_false_iff_not,Bool.not_true,Bool.not_false,Bool.not_eq_true,Bool.not_eq_false,bne_eq_false_iff_eq,Decidable.not_not] at h1)
  ·refine aJ (fun h2=>?_) (fun h2=>?_) <;> simp only [h2,go_sem,simprocAttr] <;> (try simp only [beq_iff_eq,beq_eq_false_iff_ne,bne_iff_ne,ne_eq,decide_eq_true_eq,decide_eq_false_iff_not,Bool.not_true,Bool.not_false,Bool.not_eq_true,Bool.not_eq_false,bne_eq_false_iff_eq,Decidable.not_not] at h2)
   ·refine aR (k+1) ?_ ?_ (by omega) (by omega)
    ·simp only [go_sem,simprocAttr]
    ·simp only [ry,go_sem,simprocAttr,ax (show k<9223372036854775807 by omega),hs,hd,h1,h2,aD (show -9223372036854775808≤cu (s.jobs.take k) q+1 by omega) (by omega)]
   ·refine aR (k+1) ?_ ?_ (by omega) (by omega)
    ·simp only [go_sem,simprocAttr]
    ·simp only [ry,go_sem,simprocAttr,ax (show k<9223372036854775807 by omega),hs,hd,h1,h2,and_false,Int.add_zero]
  ·refine aR (k+1) ?_ ?_ (by omega) (by omega)
   ·simp only [go_sem,simprocAttr]
   ·simp only [ry,go_sem,simprocAttr,ax (show k<9223372036854775807 by omega),hs,hd,h1,false_and,Int.add_zero]
 ·obtain rfl:=dA h hk
  simp only [go_sem,simprocAttr,List.take_length]
def Br (s:ai) (j:ct) (nodes:Int) (f et:Nat) (cells:List LV) (kv:Nat×Int):St:=⟨[(2,.int nodes),(3,.fn (.func f) [] [.ptr 0 0]),(9,.int kv.2),(36,bK s.nodes),(37,.int s.nodes.length),(38,.int kv.1)],[some (.box et cells),some (.box 30 [bK s.nodes,cA s.jobs,.int s.goal,.int s.bH,.int s.mode,.int s.term]),some (.box 119 [.int j.queue,.int j.prio,.int j.min,.int j.max,.int j.work,.int j.ia,.int j.phase,.int j.inc,.int j.nodes,.int j.since,.int j.mI,.int j.cK])]⟩
theorem KE (s:ai) (j:ct) (nodes:Int) (f et:Nat) (cells:List LV) (takes:bu→Bool) (hn:s.nodes.length≤6) (hd:eX 0 cells=true) (hT:∀ n,br Tryz.prog G f [yD n,.ptr 0 0] [.box et cells] (.bool (takes n)) [.box et cells]) :
  br Tryz.prog G 196 [bz s,Gm j,.int nodes,.fn (.func f) [] [.ptr 0 0]] [.box et cells] (.bool (jE s.nodes j nodes takes)) [.box et cells]:=by
 refine nX Tryz.func196 (by decide) H8 rfl rfl (by simp [dQ,hd]) rfl ?_
 have hp:(2:Int) ^ s.nodes.length≤64∧1≤(2:Int) ^ s.nodes.length:=by
  have:s.nodes.length=0∨s.nodes.length=1∨s.nodes.length=2∨s.nodes.length=3∨s.nodes.length=4∨s.nodes.length=5∨s.nodes.length=6:=by omega
  rcases this with h | h | h | h | h | h | h <;> rw [h] <;> decide
 have hw:=wQ s.nodes.length hn
 have NN:eX 3 cells=true:=Cv.2 cells 3 hd
 have Dd:∀ π,m_ π cells=cells:=fun π=>lH π cells hd
 simp only [M5,go_sem,simprocAttr,hw]
 unfold jE
 have none:∀ {x y:Prop} [Decidable x] [Decidable y] {b:Bool},x∨y→(if x∨y then false else b)=false:=fun h=>by rw [if_pos h]
 refine i_ (fun h1=>?_) (fun h1=>?_) <;> simp only [h1,go_sem,simprocAttr] <;> (try simp only [beq_iff_eq,beq_eq_false_iff_ne,bne_iff_ne,ne_eq,decide_eq_true_eq,decide_eq_false_iff_not,Bool.not_true,Bool.not_false,Bool.not_eq_true,Bool.not_eq_false,bne_eq_false_iff_eq,Decidable.not_not] at h1)
 ·simp only [hw]
  refine i_ (fun h2=>?_) (fun h2=>?_) <;> simp only [h2,go_sem,simprocAttr] <;> (try simp only [beq_iff_eq,beq_eq_false_iff_ne,bne_iff_ne,ne_eq,decide_eq_true_eq,decide_eq_false_iff_not,Bool.not_true,Bool.not_false,Bool.not_eq_true,Bool.not_eq_false,bne_eq_false_iff_eq,Decidable.not_not] at h2)
  ·obtain ⟨m,rfl⟩:=Int.eq_ofNat_of_zero_le (show 0≤nodes by omega)
   have hm:m<64:=by omega
   have Z0:IntKind.u64.wrap (m:Int)=m:=by simp [IntKind.wrap,IntKind.bits,IntKind.signed]; omega
   rw [if_neg (by omega)]
   simp only [Z0]
   refine bA (yw m hm) rfl rfl rfl rfl ?_; simp only [go_sem,simprocAttr]
   refine bA (fk _ _ _) rfl rfl rfl rfl ?_; simp only [go_sem,simprocAttr]
   cases hb:aT (many m) j.min j.max with
   | false=>simp only [go_sem,simprocAttr]
   | true=>
     simp only [go_sem,simprocAttr]
     generalize hF0:eC m takes s.nodes 0 j.ia=r
     refine aP [2,3,9,36,37,38] [] (fun kv:Nat×Int=>kv.1≤s.nodes.length∧eC m takes (s.nodes.drop kv.1) kv.1 kv.2=r) (fun kv=>s.nodes.length-kv.1) (Br s j m f et cells) (0,j.ia) ?_ ⟨Nat.zero_le _,hF0⟩ ?_
     ·simp only [Br,go_sem,simprocAttr,Int.natCast_zero]
     rintro ⟨k,v⟩ ⟨hk,hF⟩
     dsimp only at hk hF
     simp only [Br,go_sem,simprocAttr]
     refine aJ (fun h=>?_) (fun h=>?_)
     ·have h:=dz h
      rw [List.drop_eq_getElem_cons h] at hF
      unfold eC at hF
      simp only [get_map h,go_sem,simprocAttr,IN (m:Int) k (by omega)]
      have go:∀ v',eC m takes (s.nodes.drop (k+1)) (k+1) v'=r→(k+1,v').1≤s.nodes.length∧eC m takes (s.nodes.drop (k+1,v').1) (k+1,v').1 (k+1,v').2=r:=fun v' h'=>⟨h,h'⟩
      cases EC:hasB (m:Int) k with
      | false=>
        rw [if_pos EC] at hF
        simp only [go_sem,simprocAttr]
        refine aR (k+1,v) ?_ ?_ (go _ hF) (by dsimp only; omega)
        ·simp only [go_sem,simprocAttr,NN]
        ·simp only [Br,go_sem,simprocAttr,ax (show k<9223372036854775807 by omega)]
      | true=>
        rw [if_neg (by simp [EC])] at hF
        simp only [go_sem,simprocAttr]
        have SG:eX 1 cells=true:=Cv.2 cells 1 hd
        refine aJ (fun hv=>?_) (fun hv=>?_) <;> simp only [hv,go_sem,simprocAttr] <;> (try simp only [beq_iff_eq,beq_eq_false_iff_ne,bne_iff_ne,ne_eq,decide_eq_true_eq,decide_eq_false_iff_not,Bool.not_true,Bool.not_false,Bool.not_eq_true,Bool.not_eq_false,bne_eq_false_iff_eq,Decidable.not_not] at hv)
        ·rw [if_pos hv] at hF
         refine au [0] (hT s.nodes[k]) rfl ?_ (by decide) ?_ ?_ (by simp) ?_ <;> simp only [aa,ah,go_sem,simprocAttr,Dd,SG]
         cases ht:takes s.nodes[k] with
         | false=>
           rw [if_neg (by simp [ht])] at hF
           simp only [go_sem,simprocAttr,Dd,← hF]
         | true=>
           by_cases hq:s.nodes[k].version=s.nodes[k].version
           ·rw [if_pos ⟨ht,hq⟩] at hF
            have hq1:(s.nodes[k].version !=s.nodes[k].version)=false:=by simp [← hq]
            simp only [go_sem,simprocAttr,Dd,hq1]
            refine aR (k+1,s.nodes[k].version) ?_ ?_ (go _ hF) (by dsimp only; omega)
            ·simp only [go_sem,simprocAttr,NN]
            ·simp only [Br,go_sem,simprocAttr,ax (show k<9223372036854775807 by omega)]
           ·rw [if_neg (fun h'=>hq h'.2)] at hF
            have hq1:(s.nodes[k].version !=s.nodes[k].version)=true:=bne_iff_ne.2 hq
            simp only [go_sem,simprocAttr,Dd,hq1,← hF]
        ·rw [if_neg hv] at hF
         refine au [0] (hT s.nodes[k]) rfl ?_ (by decide) ?_ ?_ (by simp) ?_ <;> simp only [aa,ah,go_sem,simprocAttr,Dd,SG]
         cases ht:takes s.nodes[k] with
         | false=>
           rw [if_neg (by simp [ht])] at hF
           simp only [go_sem,simprocAttr,Dd,← hF]
         | true=>
           by_cases hq:s.nodes[k].version=v
           ·rw [if_pos ⟨ht,hq⟩] at hF
            have hq1:(s.nodes[k].version !=v)=false:=by simp [← hq]
            simp only [go_sem,simprocAttr,Dd,hq1]
            refine aR (k+1,v) ?_ ?_ (go _ hF) (by dsimp only; omega)
            ·simp only [go_sem,simprocAttr,NN]
            ·simp only [Br,go_sem,simprocAttr,ax (show k<9223372036854775807 by omega)]
           ·rw [if_neg (fun h'=>hq h'.2)] at hF
            have hq1:(s.nodes[k].version !=v)=true:=bne_iff_ne.2 hq
            simp only [go_sem,simprocAttr,Dd,hq1,← hF]
     ·obtain rfl:=dA h hk
      rw [List.drop_length] at hF
      simp only [go_sem,simprocAttr,← hF,eC]
  ·rw [if_pos (.inr h2)]
 ·rw [if_pos (.inl h1)]
end Dv
