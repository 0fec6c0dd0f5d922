/- part -/
import Derived.Test.YtkalnfkokkjliaaGreatDoorDB
set_option linter.all false
set_option maxRecDepth 100000
namespace Dv
open Go Go.Proofs
variable {G:Nat→Option (List DV)}
def XN:=qx Tryz.f115
theorem Uc:aj Tryz.prog Tryz.f115=some XN:=by kernel_rfl
def OV:=qx Tryz.f196
theorem JF:aj Tryz.prog Tryz.f196=some OV:=by kernel_rfl
def XP:=qx Tryz.f113
theorem Ue:aj Tryz.prog Tryz.f113=some XP:=by kernel_rfl
def XO:=qx Tryz.f114
theorem Ud:aj Tryz.prog Tryz.f114=some XO:=by kernel_rfl
def aa0:=qx Tryz.f42
theorem Y5:aj Tryz.prog Tryz.f42=some aa0:=by kernel_rfl
def ry (s:aa) (q:Int) (k:Nat):St:=⟨[(1,.int q),(5,.int (cI (s.jobs.take k) q)),(9,de s.jobs),(10,.int s.jobs.length),(11,.int k)],[some (.box 30 [bS s.nodes,de s.jobs,.int s.goal,.int s.prior,.int s.mode,.int s.term])]⟩
theorem s8 (s:aa) (q:Int) (hn:s.jobs.length≤9223372036854775806):bh Tryz.prog G 115 [aY s,.int q] [] (.int (cI s.jobs q)) []:=by
 refine bn Tryz.func115 (by decide) Uc rfl rfl ?_
 simp only [XN,go_sem]
 refine aR [1,5,9,10,11] [] (fun k:Nat=>k≤s.jobs.length) (fun k=>s.jobs.length-k) (ry s q) 0 ?_ (Nat.zero_le _) (fun k hk=>?_)
 ·simp only [ry,go_sem,cI,List.filter_nil,Int.natCast_zero]
 simp only [ry,go_sem]
 refine bp (fun h=>?_) (fun h=>?_)
 ·have h:=eA h
  have hb:=Ik (s.jobs.take k) q
  rw [List.length_take] at hb
  have hs:s.jobs.take (k+1)=s.jobs.take k++[s.jobs[k]]:=by rw [List.take_succ_eq_append_getElem h]
  have hd:=uQ (s.jobs.take k) s.jobs[k] q
  simp only [get_map h,go_sem]
  refine di (fun h1=>?_) (fun h1=>?_) <;> simp only [h1,go_sem] <;> (try simp only [qqS] at h1)
  ·refine bp (fun h2=>?_) (fun h2=>?_) <;> simp only [h2,go_sem] <;> (try simp only [qqS] at h2)
   ·refine bg (k+1) ?_ ?_ (by omega) (by omega)
    ·simp only [go_sem]
    ·simp only [ry,go_sem,aG (show k<9223372036854775807 by omega),hs,hd,h1,h2,aL (show -9223372036854775808≤cI (s.jobs.take k) q+1 by omega) (by omega)]
   ·refine bg (k+1) ?_ ?_ (by omega) (by omega)
    ·simp only [go_sem]
    ·simp only [ry,go_sem,aG (show k<9223372036854775807 by omega),hs,hd,h1,h2,and_false,Int.add_zero]
  ·refine bg (k+1) ?_ ?_ (by omega) (by omega)
   ·simp only [go_sem]
   ·simp only [ry,go_sem,aG (show k<9223372036854775807 by omega),hs,hd,h1,false_and,Int.add_zero]
 ·obtain rfl:=eC h hk
  simp only [go_sem,List.take_length]
def Cf (s:aa) (j:bP) (nodes:Int) (f et:Nat) (cells:List LV) (kv:Nat×Int):St:=⟨[(2,.int nodes),(3,.fn (.func f) [] [.ptr 0 0]),(9,.int kv.2),(36,bS s.nodes),(37,.int s.nodes.length),(38,.int kv.1)],[some (.box et cells),some (.box 30 [bS s.nodes,de s.jobs,.int s.goal,.int s.prior,.int s.mode,.int s.term]),some (.box 119 [.int j.queue,.int j.prio,.int j.min,.int j.max,.int j.work,.int j.pin,.int j.phase,.int j.inc,.int j.nodes,.int j.since,.int j.til,.int j.epoch])]⟩
theorem L6 (s:aa) (j:bP) (nodes:Int) (f et:Nat) (cells:List LV) (takes:a_→Bool) (hn:s.nodes.length≤6) (hd:eu 0 cells=true) (hT:∀ n,bh Tryz.prog G f [zq n,.ptr 0 0] [.box et cells] (.bool (takes n)) [.box et cells]) :
  bh Tryz.prog G 196 [aY s,Dg j,.int nodes,.fn (.func f) [] [.ptr 0 0]] [.box et cells] (.bool (mE s.nodes j nodes takes)) [.box et cells]:=by
 refine Cz Tryz.func196 (by decide) JF rfl rfl (by simp [dV,hd]) rfl ?_
 have hp:(2:Int) ^ s.nodes.length≤64∧1≤(2:Int) ^ s.nodes.length:=by
  have:s.nodes.length=0∨s.nodes.length=1∨s.nodes.length=2∨s.nodes.length=3∨s.nodes.length=4∨s.nodes.length=5∨s.nodes.length=6:=by omega
  rcases this with h | h | h | h | h | h | h <;> rw [h] <;> decide
 have hw:=tM s.nodes.length hn
 have PB:eu 3 cells=true:=zO.2 cells 3 hd
 have Pb:∀ π,mw π cells=cells:=fun π=>j4 π cells hd
 simp only [OV,go_sem,hw]
 unfold mE
 have none:∀ {x y:Prop} [Decidable x] [Decidable y] {b:Bool},x∨y→(if x∨y then false else b)=false:=fun h=>by rw [if_pos h]
 refine gM (fun h1=>?_) (fun h1=>?_) <;> simp only [h1,go_sem] <;> (try simp only [qqS] at h1)
 ·simp only [hw]
  refine gM (fun h2=>?_) (fun h2=>?_) <;> simp only [h2,go_sem] <;> (try simp only [qqS] at h2)
  ·obtain ⟨m,rfl⟩:=Int.eq_ofNat_of_zero_le (show 0≤nodes by omega)
   have hm:m<64:=by omega
   have hwu:IntKind.u64.wrap (m:Int)=m:=by simp [IntKind.wrap,IntKind.bits,IntKind.signed]; omega
   rw [if_neg (by omega)]
   simp only [hwu]
   refine aU (ug m hm) rfl rfl rfl rfl ?_; simp only [go_sem]
   refine aU (eW _ _ _) rfl rfl rfl rfl ?_; simp only [go_sem]
   cases hb:bJ (many m) j.min j.max with
   | false=>simp only [go_sem]
   | true=>
     simp only [go_sem]
     generalize UE:ee m takes s.nodes 0 j.pin=r
     refine aR [2,3,9,36,37,38] [] (fun kv:Nat×Int=>kv.1≤s.nodes.length∧ee m takes (s.nodes.drop kv.1) kv.1 kv.2=r) (fun kv=>s.nodes.length-kv.1) (Cf s j m f et cells) (0,j.pin) ?_ ⟨Nat.zero_le _,UE⟩ ?_
     ·simp only [Cf,go_sem,Int.natCast_zero]
     rintro ⟨k,v⟩ ⟨hk,hF⟩
     dsimp only at hk hF
     simp only [Cf,go_sem]
     refine bp (fun h=>?_) (fun h=>?_)
     ·have h:=eA h
      rw [List.drop_eq_getElem_cons h] at hF
      unfold ee at hF
      simp only [get_map h,go_sem,Kg (m:Int) k (by omega)]
      have go:∀ v',ee m takes (s.nodes.drop (k+1)) (k+1) v'=r→(k+1,v').1≤s.nodes.length∧ee m takes (s.nodes.drop (k+1,v').1) (k+1,v').1 (k+1,v').2=r:=fun v' h'=>⟨h,h'⟩
      cases hb1:hasB (m:Int) k with
      | false=>
        rw [if_pos hb1] at hF
        simp only [go_sem]
        refine bg (k+1,v) ?_ ?_ (go _ hF) (by dsimp only; omega)
        ·simp only [go_sem,PB]
        ·simp only [Cf,go_sem,aG (show k<9223372036854775807 by omega)]
      | true=>
        rw [if_neg (by simp [hb1])] at hF
        simp only [go_sem]
        have Ya:eu 1 cells=true:=zO.2 cells 1 hd
        refine bp (fun hv=>?_) (fun hv=>?_) <;> simp only [hv,go_sem] <;> (try simp only [qqS] at hv)
        ·rw [if_pos hv] at hF
         refine av [0] (hT s.nodes[k]) rfl ?_ (by decide) ?_ ?_ (by simp) ?_ <;> simp only [ag,ah,go_sem,Pb,Ya]
         cases ht:takes s.nodes[k] with
         | false=>
           rw [if_neg (by simp [ht])] at hF
           simp only [go_sem,Pb,← hF]
         | true=>
           by_cases hq:s.nodes[k].version=s.nodes[k].version
           ·rw [if_pos ⟨ht,hq⟩] at hF
            have hq1:(s.nodes[k].version !=s.nodes[k].version)=false:=by simp [← hq]
            simp only [go_sem,Pb,hq1]
            refine bg (k+1,s.nodes[k].version) ?_ ?_ (go _ hF) (by dsimp only; omega)
            ·simp only [go_sem,PB]
            ·simp only [Cf,go_sem,aG (show k<9223372036854775807 by omega)]
           ·rw [if_neg (fun h'=>hq h'.2)] at hF
            have hq1:(s.nodes[k].version !=s.nodes[k].version)=true:=bne_iff_ne.2 hq
            simp only [go_sem,Pb,hq1,← hF]
        ·rw [if_neg hv] at hF
         refine av [0] (hT s.nodes[k]) rfl ?_ (by decide) ?_ ?_ (by simp) ?_ <;> simp only [ag,ah,go_sem,Pb,Ya]
         cases ht:takes s.nodes[k] with
         | false=>
           rw [if_neg (by simp [ht])] at hF
           simp only [go_sem,Pb,← hF]
         | true=>
           by_cases hq:s.nodes[k].version=v
           ·rw [if_pos ⟨ht,hq⟩] at hF
            have hq1:(s.nodes[k].version !=v)=false:=by simp [← hq]
            simp only [go_sem,Pb,hq1]
            refine bg (k+1,v) ?_ ?_ (go _ hF) (by dsimp only; omega)
            ·simp only [go_sem,PB]
            ·simp only [Cf,go_sem,aG (show k<9223372036854775807 by omega)]
           ·rw [if_neg (fun h'=>hq h'.2)] at hF
            have hq1:(s.nodes[k].version !=v)=true:=bne_iff_ne.2 hq
            simp only [go_sem,Pb,hq1,← hF]
     ·obtain rfl:=eC h hk
      rw [List.drop_length] at hF
      simp only [go_sem,← hF,ee]
  ·rw [if_pos (.inr h2)]
 ·rw [if_pos (.inl h1)]
end Dv
namespace Dv
open Go Go.Proofs
variable {G:Nat→Option (List DV)}
theorem GC (c:aB) (s:aa) (j:bP) (number:Int) (hn:s.nodes.length≤6) (h0:1≤c.bI∧c.bI≤1000):bh Tryz.prog G 113 [fN c,aY s,Dg j,.int number] [] (.bool (gE c s j number)) []:=by
 refine bn Tryz.func113 (by decide) Ue rfl rfl ?_
 simp only [XP,go_sem]
 unfold gE
 refine ax (Co c j h0) rfl rfl rfl rfl ?_; simp only [go_sem]
 repeat' (first
  | (refine ax (eW _ _ _) rfl rfl rfl rfl ?_; simp only [go_sem])
  | ((first | with_reducible refine ek (fun h=>?_) (fun h=>?_) | refine di (fun h=>?_) (fun h=>?_)) <;> simp only [h,go_sem]))
 refine kU (fun h1=>?_) (fun h1=>?_) <;> simp only [h1,go_sem] <;> (try simp only [qqS] at h1)
 refine ax (GS _) rfl rfl rfl rfl ?_; simp only [go_sem]
 refine kU (fun h2=>?_) (fun h2=>?_) <;> simp only [h2,go_sem] <;> (try simp only [qqS] at h2)
 ·rfl
 refine av [3] (L6 s j j.nodes 197 3 [.int number] (kg number) hn rfl (fun n=>Gy n number)) rfl ?_ (by decide) ?_ ?_ (by simp) ?_ <;> simp only [ag,ah,go_sem]
theorem KK (s:aa) (n:a_) (number:Nat) (hnb:number<50) (hl:s.jobs.length≤1000000):bh Tryz.prog G 114 [aY s,zq n,.int number] [] (.bool (mQ s n number)) []:=by
 refine bn Tryz.func114 (by decide) Ud rfl rfl ?_
 simp only [XO,go_sem]
 unfold mQ
 have e1:∀ x:Int,decide (x≠0)=(x !=0):=fun x=>by rw [Bool.eq_iff_iff]; simp
 have e2:∀ x:Int,decide (x=0)=(x==0):=fun x=>rfl
 rw [e1,e2]
 refine ax (eW _ _ _) rfl rfl rfl rfl ?_; simp only [go_sem]
 refine ek (fun h1=>?_) (fun h1=>?_) <;> simp only [h1,go_sem] <;> (try simp only [qqS] at h1)
 refine ax (eW _ _ _) rfl rfl rfl rfl ?_; simp only [go_sem]
 cases h2:bJ n.aM 0 s.jobs.length with
 | false=>simp only [go_sem]
 | true=>
   simp only [go_sem]
   have hb:0≤n.aM∧n.aM≤s.jobs.length:=of_decide_eq_true h2
   cases hj:(n.aM==0) with
   | true=>
     have hj2:(n.aM !=0)=false:=by simp [bne,hj]
     simp only [hj2,go_sem]
     repeat' (first | simp only [hj,hj2,go_sem] | ((first | with_reducible refine ek (fun h=>?_) (fun h=>?_) | refine di (fun h=>?_) (fun h=>?_)) <;> simp only [h,go_sem]) | ((first | with_reducible refine kU (fun h=>?_) (fun h=>?_) | refine bp (fun h=>?_) (fun h=>?_)) <;> simp only [h,go_sem]))
   | false=>
     have hj2:(n.aM !=0)=true:=by simp [bne,hj]
     have hj3:n.aM≠0:=by simpa using hj
     have hw:IntKind.i64.wrap (n.aM-1)=n.aM-1:=aL (by omega) (by omega)
     have h0:0≤n.aM-1:=by omega
     have hg:(s.jobs.map dF)[(n.aM-1).toNat]? = some (dF (s.jobs.getD (n.aM-1).toNat aD)):=aK _ (by omega)
     simp only [hj2,go_sem]
     repeat' (first | simp only [hj,hj2,hw,h0,hg,II _ number (show number<64 by omega),go_sem] | ((first | with_reducible refine ek (fun h=>?_) (fun h=>?_) | refine di (fun h=>?_) (fun h=>?_)) <;> simp only [h,go_sem]) | ((first | with_reducible refine kU (fun h=>?_) (fun h=>?_) | refine bp (fun h=>?_) (fun h=>?_)) <;> simp only [h,go_sem]))
def xU (c:aB) (s:aa) (k:Nat):St:=⟨[(2,.ptr 0 0),(3,.ptr 1 0),(52,de s.jobs),(53,.int s.jobs.length),(54,.int k)],[some (.box 23 [.int c.nodes,.int c.bI,.int c.cH,.int c.iN,.int c.cr,.int c.eZ,.int c.deadline,.int c.room,.int c.gX]),some (.box 30 [bS s.nodes,de s.jobs,.int s.goal,.int s.prior,.int s.mode,.int s.term])]⟩
def xT (c:aB) (s:aa) (k:Nat):St:=⟨[(2,.ptr 0 0),(3,.ptr 1 0),(68,bS s.nodes),(69,.int s.nodes.length),(70,.int k)],[some (.box 23 [.int c.nodes,.int c.bI,.int c.cH,.int c.iN,.int c.cr,.int c.eZ,.int c.deadline,.int c.room,.int c.gX]),some (.box 30 [bS s.nodes,de s.jobs,.int s.goal,.int s.prior,.int s.mode,.int s.term])]⟩
def xS (c:aB) (s:aa) (k:Nat):St:=⟨[(2,.ptr 0 0),(3,.ptr 1 0),(82,.int c.bI),(83,.int k)],[some (.box 23 [.int c.nodes,.int c.bI,.int c.cH,.int c.iN,.int c.cr,.int c.eZ,.int c.deadline,.int c.room,.int c.gX]),some (.box 30 [bS s.nodes,de s.jobs,.int s.goal,.int s.prior,.int s.mode,.int s.term])]⟩
theorem BS {c:aB} (h:iq c=true):1≤c.nodes∧c.nodes≤6∧1≤c.bI∧c.bI≤3:=by
 unfold iq at h
 simp only [Bool.and_eq_true] at h
 have h1:=aX h.1.1.1.1.1.1.1.1
 have h2:=aX h.1.1.1.1.1.1.1.2
 omega
theorem Bz (c:aB) (s:aa):bh Tryz.prog G 42 [fN c,aY s] [] (.bool (iD c s)) []:=by
 refine bn Tryz.func42 (by decide) Y5 rfl rfl ?_
 simp only [aa0,go_sem]
 unfold iD
 have e1:decide ((s.nodes.length:Int)=c.nodes) = !((s.nodes.length:Int) !=c.nodes):=by rw [Bool.eq_iff_iff]; simp
 have e2:decide (s.jobs.length≤24) = !(decide ((s.jobs.length:Int)>24)):=by rw [Bool.eq_iff_iff]; simp; omega
 rw [e1,e2]
 refine ax (x_ c) rfl rfl rfl rfl ?_; simp only [go_sem]
 cases hm:iq c with
 | false=>simp only [go_sem]
 | true=>
   have hc:=BS hm
   simp only [go_sem]
   repeat' (first
    | (refine ax (eW _ _ _) rfl rfl rfl rfl ?_; simp only [go_sem])
    | ((first | with_reducible refine ek (fun h=>?_) (fun h=>?_) | refine di (fun h=>?_) (fun h=>?_)) <;> simp only [h,go_sem]))
   refine kU (fun ht=>?_) (fun ht=>?_) <;> simp only [ht,go_sem] <;> (try simp only [qqS] at ht)
   have hj:s.jobs.length≤24:=by simp_all
   have hn:s.nodes.length≤6:=by simp_all; omega
   generalize hq:(eY c s s.jobs 0&&fo s s.nodes 0&&eS c s 0 c.bI.toNat)=r
   refine aR [2,3,52,53,54] [] (fun k:Nat=>k≤s.jobs.length∧(eY c s (s.jobs.drop k) k&&fo s s.nodes 0&&eS c s 0 c.bI.toNat)=r) (fun k=>s.jobs.length-k) (xU c s) 0 ?_ ⟨Nat.zero_le _,hq⟩ ?_
   ·simp only [xU,go_sem,Int.natCast_zero]
   rintro k ⟨hk,hF⟩
   simp only [xU,go_sem]
   refine bp (fun h=>?_) (fun h=>?_)
   ·have h:=eA h
    rw [List.drop_eq_getElem_cons h,eY] at hF
    simp only [get_map h,go_sem,aG (show k<9223372036854775807 by omega)]
    refine ax (GC c s s.jobs[k] (k+1:Nat) hn ⟨hc.2.2.1,by omega⟩) rfl rfl rfl rfl ?_; simp only [go_sem]
    cases hs:gE c s s.jobs[k] (k+1:Nat) with
    | false=>
      have hs':gE c s s.jobs[k] ((k:Int)+1)=false:=hs
      rw [hs'] at hF
      simp only [Bool.false_and] at hF
      simp only [go_sem,← hF]
    | true=>
      have hs':gE c s s.jobs[k] ((k:Int)+1)=true:=hs
      rw [hs',Bool.true_and] at hF
      simp only [go_sem]
      refine bg (k+1) ?_ ?_ ⟨h,hF⟩ (by omega)
      ·simp only [go_sem]
      ·simp only [xU,go_sem,aG (show k<9223372036854775807 by omega)]
   ·obtain rfl:=eC h hk
    clear hq hk
    rw [List.drop_length,eY,Bool.true_and] at hF
    simp only [go_sem]
    refine aR [2,3,68,69,70] [] (fun k:Nat=>k≤s.nodes.length∧(fo s (s.nodes.drop k) k&&eS c s 0 c.bI.toNat)=r) (fun k=>s.nodes.length-k) (xT c s) 0 ?_ ⟨Nat.zero_le _,hF⟩ ?_
    ·simp only [xT,go_sem,Int.natCast_zero]
    clear hF
    rintro k ⟨hk,hF⟩
    simp only [xT,go_sem]
    refine bp (fun h=>?_) (fun h=>?_)
    ·have h:=eA h
     rw [List.drop_eq_getElem_cons h,fo] at hF
     simp only [get_map h,go_sem]
     refine ax (KK s s.nodes[k] k (by omega) (by omega)) rfl rfl rfl rfl ?_; simp only [go_sem]
     cases hs:mQ s s.nodes[k] k with
     | false=>
       rw [hs] at hF
       simp only [Bool.false_and] at hF
       simp only [go_sem,← hF]
     | true=>
       rw [hs,Bool.true_and] at hF
       simp only [go_sem]
       refine bg (k+1) ?_ ?_ ⟨h,hF⟩ (by omega)
       ·simp only [go_sem]
       ·simp only [xT,go_sem,aG (show k<9223372036854775807 by omega)]
    ·obtain rfl:=eC h hk
     clear hk
     rw [List.drop_length,fo,Bool.true_and] at hF
     simp only [go_sem]
     refine aR [2,3,82,83] [] (fun k:Nat=>(k:Int)≤c.bI∧eS c s k (c.bI-k).toNat=r) (fun k=>(c.bI-k).toNat) (xS c s) 0 ?_ ⟨by omega,by simpa using hF⟩ ?_
     ·simp only [xS,go_sem,Int.natCast_zero]
     clear hF
     rintro k ⟨hk,hF⟩
     simp only [xS,go_sem]
     refine bp (fun h=>?_) (fun h=>?_) <;> simp only [h,go_sem] <;> (try simp only [qqS] at h)
     ·rw [show (c.bI-(k:Int)).toNat=(c.bI-((k+1:Nat):Int)).toNat+1 by omega,eS] at hF
      refine aU (s8 s k (by omega)) rfl rfl rfl rfl ?_; simp only [go_sem]
      refine bp (fun hs=>?_) (fun hs=>?_) <;> simp only [hs,go_sem] <;> (try simp only [qqS] at hs)
      ·rw [show decide (c.cH<cI s.jobs k)=true by simpa using hs] at hF
       simp only [Bool.not_true,Bool.false_and] at hF
       simp only [← hF,go_sem]
      ·rw [show decide (c.cH<cI s.jobs k)=false by simpa using hs] at hF
       simp only [Bool.not_false,Bool.true_and] at hF
       refine bg (k+1) ?_ ?_ ⟨by omega,hF⟩ (by omega)
       ·simp only [go_sem]
       ·simp only [xS,go_sem,aG (show k<9223372036854775807 by omega)]
     ·rw [show (c.bI-(k:Int)).toNat=0 by omega,eS] at hF
      simp only [← hF,go_sem]
end Dv
