/- part -/
import Derived.Test.YtkalnfkokkjliaaGreatDoorDB
set_option linter.all false
set_option maxRecDepth 100000
namespace Dv
open Go Go.Proofs
variable {G:Nat→Option (List DV)}
def Yk:=qx Tryz.f115
theorem UL:aj Tryz.prog Tryz.f115=some Yk:=by kernel_rfl
def PA:=qx Tryz.f196
theorem Ki:aj Tryz.prog Tryz.f196=some PA:=by kernel_rfl
def Ym:=qx Tryz.f113
theorem UN:aj Tryz.prog Tryz.f113=some Ym:=by kernel_rfl
def Yl:=qx Tryz.f114
theorem UM:aj Tryz.prog Tryz.f114=some Yl:=by kernel_rfl
def abj:=qx Tryz.f42
theorem ZD:aj Tryz.prog Tryz.f42=some abj:=by kernel_rfl
def rS (s:aa) (q:Int) (k:Nat):St:=⟨[(1,.int q),(5,.int (cQ (s.jobs.take k) q)),(9,cO s.jobs),(10,.int s.jobs.length),(11,.int k)],[some (.box 30 [bO s.nodes,cO s.jobs,.int s.goal,.int s.prior,.int s.mode,.int s.term])]⟩
theorem tC (s:aa) (q:Int) (hn:s.jobs.length≤9223372036854775806):bw Tryz.prog G 115 [aY s,.int q] [] (.int (cQ s.jobs q)) []:=by
 refine br Tryz.func115 (by decide) UL rfl rfl ?_
 simp only [Yk,go_sem]
 refine aW [1,5,9,10,11] [] (fun k:Nat=>k≤s.jobs.length) (fun k=>s.jobs.length-k) (rS s q) 0 ?_ (Nat.zero_le _) (fun k hk=>?_)
 ·simp only [rS,go_sem,cQ,List.filter_nil,Int.natCast_zero]
 simp only [rS,go_sem]
 refine bx (fun h=>?_) (fun h=>?_)
 ·have h:=eN h
  have hb:=I8 (s.jobs.take k) q
  rw [List.length_take] at hb
  have hs:s.jobs.take (k+1)=s.jobs.take k++[s.jobs[k]]:=by rw [List.take_succ_eq_append_getElem h]
  have hd:=u5 (s.jobs.take k) s.jobs[k] q
  simp only [get_map h,go_sem]
  refine dz (fun h1=>?_) (fun h1=>?_) <;> simp only [h1,go_sem] <;> (try simp only [qqS] at h1)
  ·refine bx (fun h2=>?_) (fun h2=>?_) <;> simp only [h2,go_sem] <;> (try simp only [qqS] at h2)
   ·refine a_ (k+1) ?_ ?_ (by omega) (by omega)
    ·simp only [go_sem]
    ·simp only [rS,go_sem,aG (show k<9223372036854775807 by omega),hs,hd,h1,h2,aN (show -9223372036854775808≤cQ (s.jobs.take k) q+1 by omega) (by omega)]
   ·refine a_ (k+1) ?_ ?_ (by omega) (by omega)
    ·simp only [go_sem]
    ·simp only [rS,go_sem,aG (show k<9223372036854775807 by omega),hs,hd,h1,h2,and_false,Int.add_zero]
  ·refine a_ (k+1) ?_ ?_ (by omega) (by omega)
   ·simp only [go_sem]
   ·simp only [rS,go_sem,aG (show k<9223372036854775807 by omega),hs,hd,h1,false_and,Int.add_zero]
 ·obtain rfl:=eP h hk
  simp only [go_sem,List.take_length]
def CH (s:aa) (j:bP) (nodes:Int) (f et:Nat) (cells:List LV) (kv:Nat×Int):St:=⟨[(2,.int nodes),(3,.fn (.func f) [] [.ptr 0 0]),(9,.int kv.2),(36,bO s.nodes),(37,.int s.nodes.length),(38,.int kv.1)],[some (.box et cells),some (.box 30 [bO s.nodes,cO s.jobs,.int s.goal,.int s.prior,.int s.mode,.int s.term]),some (.box 119 [.int j.queue,.int j.prio,.int j.min,.int j.max,.int j.work,.int j.pin,.int j.phase,.int j.inc,.int j.nodes,.int j.since,.int j.til,.int j.epoch])]⟩
theorem MD (s:aa) (j:bP) (nodes:Int) (f et:Nat) (cells:List LV) (takes:bp→Bool) (hn:s.nodes.length≤6) (hd:eD 0 cells=true) (hT:∀ n,bw Tryz.prog G f [zK n,.ptr 0 0] [.box et cells] (.bool (takes n)) [.box et cells]) :
  bw Tryz.prog G 196 [aY s,DQ j,.int nodes,.fn (.func f) [] [.ptr 0 0]] [.box et cells] (.bool (mQ s.nodes j nodes takes)) [.box et cells]:=by
 refine Dc Tryz.func196 (by decide) Ki rfl rfl (by simp [dZ,hd]) rfl ?_
 have hp:(2:Int) ^ s.nodes.length≤64∧1≤(2:Int) ^ s.nodes.length:=by
  have:s.nodes.length=0∨s.nodes.length=1∨s.nodes.length=2∨s.nodes.length=3∨s.nodes.length=4∨s.nodes.length=5∨s.nodes.length=6:=by omega
  rcases this with h | h | h | h | h | h | h <;> rw [h] <;> decide
 have hw:=tZ s.nodes.length hn
 have Qo:eD 3 cells=true:=DW.2 cells 3 hd
 have PS:∀ π,ni π cells=cells:=fun π=>lP π cells hd
 simp only [PA,go_sem,hw]
 unfold mQ
 have none:∀ {x y:Prop} [Decidable x] [Decidable y] {b:Bool},x∨y→(if x∨y then false else b)=false:=fun h=>by rw [if_pos h]
 refine gX (fun h1=>?_) (fun h1=>?_) <;> simp only [h1,go_sem] <;> (try simp only [qqS] at h1)
 ·simp only [hw]
  refine gX (fun h2=>?_) (fun h2=>?_) <;> simp only [h2,go_sem] <;> (try simp only [qqS] at h2)
  ·obtain ⟨m,rfl⟩:=Int.eq_ofNat_of_zero_le (show 0≤nodes by omega)
   have hm:m<64:=by omega
   have Yu:IntKind.u64.wrap (m:Int)=m:=by simp [IntKind.wrap,IntKind.bits,IntKind.signed]; omega
   rw [if_neg (by omega)]
   simp only [Yu]
   refine bq (ux m hm) rfl rfl rfl rfl ?_; simp only [go_sem]
   refine bq (fe _ _ _) rfl rfl rfl rfl ?_; simp only [go_sem]
   cases hb:bK (many m) j.min j.max with
   | false=>simp only [go_sem]
   | true=>
     simp only [go_sem]
     generalize Vg:ew m takes s.nodes 0 j.pin=r
     refine aW [2,3,9,36,37,38] [] (fun kv:Nat×Int=>kv.1≤s.nodes.length∧ew m takes (s.nodes.drop kv.1) kv.1 kv.2=r) (fun kv=>s.nodes.length-kv.1) (CH s j m f et cells) (0,j.pin) ?_ ⟨Nat.zero_le _,Vg⟩ ?_
     ·simp only [CH,go_sem,Int.natCast_zero]
     rintro ⟨k,v⟩ ⟨hk,hF⟩
     dsimp only at hk hF
     simp only [CH,go_sem]
     refine bx (fun h=>?_) (fun h=>?_)
     ·have h:=eN h
      rw [List.drop_eq_getElem_cons h] at hF
      unfold ew at hF
      simp only [get_map h,go_sem,KO (m:Int) k (by omega)]
      have go:∀ v',ew m takes (s.nodes.drop (k+1)) (k+1) v'=r→(k+1,v').1≤s.nodes.length∧ew m takes (s.nodes.drop (k+1,v').1) (k+1,v').1 (k+1,v').2=r:=fun v' h'=>⟨h,h'⟩
      cases hb1:hasB (m:Int) k with
      | false=>
        rw [if_pos hb1] at hF
        simp only [go_sem]
        refine a_ (k+1,v) ?_ ?_ (go _ hF) (by dsimp only; omega)
        ·simp only [go_sem,Qo]
        ·simp only [CH,go_sem,aG (show k<9223372036854775807 by omega)]
      | true=>
        rw [if_neg (by simp [hb1])] at hF
        simp only [go_sem]
        have YH:eD 1 cells=true:=DW.2 cells 1 hd
        refine bx (fun hv=>?_) (fun hv=>?_) <;> simp only [hv,go_sem] <;> (try simp only [qqS] at hv)
        ·rw [if_pos hv] at hF
         refine av [0] (hT s.nodes[k]) rfl ?_ (by decide) ?_ ?_ (by simp) ?_ <;> simp only [ag,ah,go_sem,PS,YH]
         cases ht:takes s.nodes[k] with
         | false=>
           rw [if_neg (by simp [ht])] at hF
           simp only [go_sem,PS,← hF]
         | true=>
           by_cases hq:s.nodes[k].version=s.nodes[k].version
           ·rw [if_pos ⟨ht,hq⟩] at hF
            have hq1:(s.nodes[k].version !=s.nodes[k].version)=false:=by simp [← hq]
            simp only [go_sem,PS,hq1]
            refine a_ (k+1,s.nodes[k].version) ?_ ?_ (go _ hF) (by dsimp only; omega)
            ·simp only [go_sem,Qo]
            ·simp only [CH,go_sem,aG (show k<9223372036854775807 by omega)]
           ·rw [if_neg (fun h'=>hq h'.2)] at hF
            have hq1:(s.nodes[k].version !=s.nodes[k].version)=true:=bne_iff_ne.2 hq
            simp only [go_sem,PS,hq1,← hF]
        ·rw [if_neg hv] at hF
         refine av [0] (hT s.nodes[k]) rfl ?_ (by decide) ?_ ?_ (by simp) ?_ <;> simp only [ag,ah,go_sem,PS,YH]
         cases ht:takes s.nodes[k] with
         | false=>
           rw [if_neg (by simp [ht])] at hF
           simp only [go_sem,PS,← hF]
         | true=>
           by_cases hq:s.nodes[k].version=v
           ·rw [if_pos ⟨ht,hq⟩] at hF
            have hq1:(s.nodes[k].version !=v)=false:=by simp [← hq]
            simp only [go_sem,PS,hq1]
            refine a_ (k+1,v) ?_ ?_ (go _ hF) (by dsimp only; omega)
            ·simp only [go_sem,Qo]
            ·simp only [CH,go_sem,aG (show k<9223372036854775807 by omega)]
           ·rw [if_neg (fun h'=>hq h'.2)] at hF
            have hq1:(s.nodes[k].version !=v)=true:=bne_iff_ne.2 hq
            simp only [go_sem,PS,hq1,← hF]
     ·obtain rfl:=eP h hk
      rw [List.drop_length] at hF
      simp only [go_sem,← hF,ew]
  ·rw [if_pos (.inr h2)]
 ·rw [if_pos (.inl h1)]
end Dv
namespace Dv
open Go Go.Proofs
variable {G:Nat→Option (List DV)}
theorem Ho (c:aC) (s:aa) (j:bP) (number:Int) (hn:s.nodes.length≤6) (h0:1≤c.bH∧c.bH≤1000):bw Tryz.prog G 113 [fV c,aY s,DQ j,.int number] [] (.bool (gO c s j number)) []:=by
 refine br Tryz.func113 (by decide) UN rfl rfl ?_
 simp only [Ym,go_sem]
 unfold gO
 refine ay (CT c j h0) rfl rfl rfl rfl ?_; simp only [go_sem]
 repeat' (first
  | (refine ay (fe _ _ _) rfl rfl rfl rfl ?_; simp only [go_sem])
  | ((first | with_reducible refine eB (fun h=>?_) (fun h=>?_) | refine dz (fun h=>?_) (fun h=>?_)) <;> simp only [h,go_sem]))
 refine lG (fun h1=>?_) (fun h1=>?_) <;> simp only [h1,go_sem] <;> (try simp only [qqS] at h1)
 refine ay (HE _) rfl rfl rfl rfl ?_; simp only [go_sem]
 refine lG (fun h2=>?_) (fun h2=>?_) <;> simp only [h2,go_sem] <;> (try simp only [qqS] at h2)
 ·rfl
 refine av [3] (MD s j j.nodes 197 3 [.int number] (kr number) hn rfl (fun n=>Hg n number)) rfl ?_ (by decide) ?_ ?_ (by simp) ?_ <;> simp only [ag,ah,go_sem]
theorem Lm (s:aa) (n:bp) (number:Nat) (hnb:number<50) (hl:s.jobs.length≤1000000):bw Tryz.prog G 114 [aY s,zK n,.int number] [] (.bool (ng s n number)) []:=by
 refine br Tryz.func114 (by decide) UM rfl rfl ?_
 simp only [Yl,go_sem]
 unfold ng
 have e1:∀ x:Int,decide (x≠0)=(x !=0):=fun x=>by rw [Bool.eq_iff_iff]; simp
 have e2:∀ x:Int,decide (x=0)=(x==0):=fun x=>rfl
 rw [e1,e2]
 refine ay (fe _ _ _) rfl rfl rfl rfl ?_; simp only [go_sem]
 refine eB (fun h1=>?_) (fun h1=>?_) <;> simp only [h1,go_sem] <;> (try simp only [qqS] at h1)
 refine ay (fe _ _ _) rfl rfl rfl rfl ?_; simp only [go_sem]
 cases h2:bK n.aQ 0 s.jobs.length with
 | false=>simp only [go_sem]
 | true=>
   simp only [go_sem]
   have hb:0≤n.aQ∧n.aQ≤s.jobs.length:=of_decide_eq_true h2
   cases hj:(n.aQ==0) with
   | true=>
     have hj2:(n.aQ !=0)=false:=by simp [bne,hj]
     simp only [hj2,go_sem]
     repeat' (first | simp only [hj,hj2,go_sem] | ((first | with_reducible refine eB (fun h=>?_) (fun h=>?_) | refine dz (fun h=>?_) (fun h=>?_)) <;> simp only [h,go_sem]) | ((first | with_reducible refine lG (fun h=>?_) (fun h=>?_) | refine bx (fun h=>?_) (fun h=>?_)) <;> simp only [h,go_sem]))
   | false=>
     have hj2:(n.aQ !=0)=true:=by simp [bne,hj]
     have hj3:n.aQ≠0:=by simpa using hj
     have hw:IntKind.i64.wrap (n.aQ-1)=n.aQ-1:=aN (by omega) (by omega)
     have h0:0≤n.aQ-1:=by omega
     have hg:(s.jobs.map dD)[(n.aQ-1).toNat]? = some (dD (s.jobs.getD (n.aQ-1).toNat az)):=aJ _ (by omega)
     simp only [hj2,go_sem]
     repeat' (first | simp only [hj,hj2,hw,h0,hg,Jq _ number (show number<64 by omega),go_sem] | ((first | with_reducible refine eB (fun h=>?_) (fun h=>?_) | refine dz (fun h=>?_) (fun h=>?_)) <;> simp only [h,go_sem]) | ((first | with_reducible refine lG (fun h=>?_) (fun h=>?_) | refine bx (fun h=>?_) (fun h=>?_)) <;> simp only [h,go_sem]))
def yj (c:aC) (s:aa) (k:Nat):St:=⟨[(2,.ptr 0 0),(3,.ptr 1 0),(52,cO s.jobs),(53,.int s.jobs.length),(54,.int k)],[some (.box 23 [.int c.nodes,.int c.bH,.int c.cB,.int c.gF,.int c.bZ,.int c.eC,.int c.deadline,.int c.room,.int c.fP]),some (.box 30 [bO s.nodes,cO s.jobs,.int s.goal,.int s.prior,.int s.mode,.int s.term])]⟩
def yh (c:aC) (s:aa) (k:Nat):St:=⟨[(2,.ptr 0 0),(3,.ptr 1 0),(68,bO s.nodes),(69,.int s.nodes.length),(70,.int k)],[some (.box 23 [.int c.nodes,.int c.bH,.int c.cB,.int c.gF,.int c.bZ,.int c.eC,.int c.deadline,.int c.room,.int c.fP]),some (.box 30 [bO s.nodes,cO s.jobs,.int s.goal,.int s.prior,.int s.mode,.int s.term])]⟩
def yg (c:aC) (s:aa) (k:Nat):St:=⟨[(2,.ptr 0 0),(3,.ptr 1 0),(82,.int c.bH),(83,.int k)],[some (.box 23 [.int c.nodes,.int c.bH,.int c.cB,.int c.gF,.int c.bZ,.int c.eC,.int c.deadline,.int c.room,.int c.fP]),some (.box 30 [bO s.nodes,cO s.jobs,.int s.goal,.int s.prior,.int s.mode,.int s.term])]⟩
theorem Ci {c:aC} (h:gJ c=true):1≤c.nodes∧c.nodes≤6∧1≤c.bH∧c.bH≤3:=by
 unfold gJ at h
 simp only [Bool.and_eq_true] at h
 have h1:=bh h.1.1.1.1.1.1.1.1
 have h2:=bh h.1.1.1.1.1.1.1.2
 omega
theorem BW (c:aC) (s:aa):bw Tryz.prog G 42 [fV c,aY s] [] (.bool (iL c s)) []:=by
 refine br Tryz.func42 (by decide) ZD rfl rfl ?_
 simp only [abj,go_sem]
 unfold iL
 have e1:decide ((s.nodes.length:Int)=c.nodes) = !((s.nodes.length:Int) !=c.nodes):=by rw [Bool.eq_iff_iff]; simp
 have e2:decide (s.jobs.length≤24) = !(decide ((s.jobs.length:Int)>24)):=by rw [Bool.eq_iff_iff]; simp; omega
 rw [e1,e2]
 refine ay (yx c) rfl rfl rfl rfl ?_; simp only [go_sem]
 cases hm:gJ c with
 | false=>simp only [go_sem]
 | true=>
   have hc:=Ci hm
   simp only [go_sem]
   repeat' (first
    | (refine ay (fe _ _ _) rfl rfl rfl rfl ?_; simp only [go_sem])
    | ((first | with_reducible refine eB (fun h=>?_) (fun h=>?_) | refine dz (fun h=>?_) (fun h=>?_)) <;> simp only [h,go_sem]))
   refine lG (fun ht=>?_) (fun ht=>?_) <;> simp only [ht,go_sem] <;> (try simp only [qqS] at ht)
   have hj:s.jobs.length≤24:=by simp_all
   have hn:s.nodes.length≤6:=by simp_all; omega
   generalize hq:(fh c s s.jobs 0&&fG s s.nodes 0&&e_ c s 0 c.bH.toNat)=r
   refine aW [2,3,52,53,54] [] (fun k:Nat=>k≤s.jobs.length∧(fh c s (s.jobs.drop k) k&&fG s s.nodes 0&&e_ c s 0 c.bH.toNat)=r) (fun k=>s.jobs.length-k) (yj c s) 0 ?_ ⟨Nat.zero_le _,hq⟩ ?_
   ·simp only [yj,go_sem,Int.natCast_zero]
   rintro k ⟨hk,hF⟩
   simp only [yj,go_sem]
   refine bx (fun h=>?_) (fun h=>?_)
   ·have h:=eN h
    rw [List.drop_eq_getElem_cons h,fh] at hF
    simp only [get_map h,go_sem,aG (show k<9223372036854775807 by omega)]
    refine ay (Ho c s s.jobs[k] (k+1:Nat) hn ⟨hc.2.2.1,by omega⟩) rfl rfl rfl rfl ?_; simp only [go_sem]
    cases hs:gO c s s.jobs[k] (k+1:Nat) with
    | false=>
      have hs':gO c s s.jobs[k] ((k:Int)+1)=false:=hs
      rw [hs'] at hF
      simp only [Bool.false_and] at hF
      simp only [go_sem,← hF]
    | true=>
      have hs':gO c s s.jobs[k] ((k:Int)+1)=true:=hs
      rw [hs',Bool.true_and] at hF
      simp only [go_sem]
      refine a_ (k+1) ?_ ?_ ⟨h,hF⟩ (by omega)
      ·simp only [go_sem]
      ·simp only [yj,go_sem,aG (show k<9223372036854775807 by omega)]
   ·obtain rfl:=eP h hk
    clear hq hk
    rw [List.drop_length,fh,Bool.true_and] at hF
    simp only [go_sem]
    refine aW [2,3,68,69,70] [] (fun k:Nat=>k≤s.nodes.length∧(fG s (s.nodes.drop k) k&&e_ c s 0 c.bH.toNat)=r) (fun k=>s.nodes.length-k) (yh c s) 0 ?_ ⟨Nat.zero_le _,hF⟩ ?_
    ·simp only [yh,go_sem,Int.natCast_zero]
    clear hF
    rintro k ⟨hk,hF⟩
    simp only [yh,go_sem]
    refine bx (fun h=>?_) (fun h=>?_)
    ·have h:=eN h
     rw [List.drop_eq_getElem_cons h,fG] at hF
     simp only [get_map h,go_sem]
     refine ay (Lm s s.nodes[k] k (by omega) (by omega)) rfl rfl rfl rfl ?_; simp only [go_sem]
     cases hs:ng s s.nodes[k] k with
     | false=>
       rw [hs] at hF
       simp only [Bool.false_and] at hF
       simp only [go_sem,← hF]
     | true=>
       rw [hs,Bool.true_and] at hF
       simp only [go_sem]
       refine a_ (k+1) ?_ ?_ ⟨h,hF⟩ (by omega)
       ·simp only [go_sem]
       ·simp only [yh,go_sem,aG (show k<9223372036854775807 by omega)]
    ·obtain rfl:=eP h hk
     clear hk
     rw [List.drop_length,fG,Bool.true_and] at hF
     simp only [go_sem]
     refine aW [2,3,82,83] [] (fun k:Nat=>(k:Int)≤c.bH∧e_ c s k (c.bH-k).toNat=r) (fun k=>(c.bH-k).toNat) (yg c s) 0 ?_ ⟨by omega,by simpa using hF⟩ ?_
     ·simp only [yg,go_sem,Int.natCast_zero]
     clear hF
     rintro k ⟨hk,hF⟩
     simp only [yg,go_sem]
     refine bx (fun h=>?_) (fun h=>?_) <;> simp only [h,go_sem] <;> (try simp only [qqS] at h)
     ·rw [show (c.bH-(k:Int)).toNat=(c.bH-((k+1:Nat):Int)).toNat+1 by omega,e_] at hF
      refine bq (tC s k (by omega)) rfl rfl rfl rfl ?_; simp only [go_sem]
      refine bx (fun hs=>?_) (fun hs=>?_) <;> simp only [hs,go_sem] <;> (try simp only [qqS] at hs)
      ·rw [show decide (c.cB<cQ s.jobs k)=true by simpa using hs] at hF
       simp only [Bool.not_true,Bool.false_and] at hF
       simp only [← hF,go_sem]
      ·rw [show decide (c.cB<cQ s.jobs k)=false by simpa using hs] at hF
       simp only [Bool.not_false,Bool.true_and] at hF
       refine a_ (k+1) ?_ ?_ ⟨by omega,hF⟩ (by omega)
       ·simp only [go_sem]
       ·simp only [yg,go_sem,aG (show k<9223372036854775807 by omega)]
     ·rw [show (c.bH-(k:Int)).toNat=0 by omega,e_] at hF
      simp only [← hF,go_sem]
end Dv
