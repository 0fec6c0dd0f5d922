/- part -/
import Derived.Test.YtkalnfkokkjliaaGreatDoorDB
import Derived.Test.YtkalnfkokkjliaaGreatDoorPA
import Derived.Test.YtkalnfkokkjliaaGreatDoorRA
set_option linter.all false
set_option maxRecDepth 100000
namespace Dv
open Go Go.Proofs
variable {G:Nat→Option (List DV)}
def Xk:=qx Tryz.f277
theorem Tw:aj Tryz.prog Tryz.f277=some Xk:=by kernel_rfl
def Xj:=qx Tryz.f278
theorem Tv:aj Tryz.prog Tryz.f278=some Xj:=by kernel_rfl
def Xg:Nat×C×List RV:=(53,
(.seq (.pZ [qo 5 (.box 30 (.t 0)),
 qo 10 (.mv qf)])
 (.seq (.pZ [qm 12 1,
 qm 13 2,
 qo 14 (.call (.f 277) [(.t 12),(.t 13)]),
 qo 11 (.new 87 [q0,q0,q0,q0,q0,q0,q0,q0,q0,q0,q0]),
 qn (.st 11 (.t 11) (.t 14))])
 (.seq (.lS [qo 15 (.fS 1 (.t 11)),
 qd 16 (.ld1 (.t 15)) [0],
 qd 17 (.bin .eql (.t 16) (qk 6)) [1,0],
 qd 18 (.mv (.t 17)) [2,1,0],
 qe 19 (.mv (.t 4)) 18 true [3,2,1,0],
 qe 20 (.bin .geq (.t 19) (qk 1)) 18 true [4,3,2,1,0],
 qd 21 (.pick (.t 18) (.t 20) qf) [3,2,1,0,5,4],
 qd 22 (.mv (.t 21)) [6,3,2,1,0,5,4],
 qe 23 (.mv (.t 4)) 22 true [7,6,3,2,1,0,5,4],
 qe 24 (.fS 1 (.t 5)) 22 true [7,6,3,2,1,0,5,4],
 qe 25 (.ld1 (.t 24)) 22 true [9,7,6,3,2,1,0,5,4],
 qe 26 (.len (.t 25)) 22 true [10,9,7,6,3,2,1,0,5,4],
 qe 27 (.bin .leq (.t 23) (.t 26)) 22 true [8,7,6,3,2,1,0,5,4,11,10,9],
 qd 28 (.pick (.t 22) (.t 27) qf) [7,6,3,2,1,0,5,4,12,8,11,10,9],
 qd 29 (.mv (.t 28)) [13,7,6,3,2,1,0,5,4,12,8,11,10,9],
 qe 30 (.fS 9 (.t 11)) 29 true [14,13,7,6,3,2,1,0,5,4,12,8,11,10,9],
 qe 31 (.ld1 (.t 30)) 29 true [15,14,13,7,6,3,2,1,0,5,4,12,8,11,10,9],
 qe 32 (.mv (.t 3)) 29 true [14,13,7,6,3,2,1,0,5,4,12,8,11,10,9],
 qe 33 (.bin .eql (.t 31) (.t 32)) 29 true [16,15,14,13,7,6,3,2,1,0,5,4,12,8,11,10,9,17],
 qd 34 (.pick (.t 29) (.t 33) qf) [14,13,7,6,3,2,1,0,5,4,12,8,11,10,9,18,16,15,17],
 qd 35 (.mv (.t 34)) [19,14,13,7,6,3,2,1,0,5,4,12,8,11,10,9,18,16,15,17],
 qe 36 (.fS 4 (.t 11)) 35 true [20,19,14,13,7,6,3,2,1,0,5,4,12,8,11,10,9,18,16,15,17],
 qe 37 (.ld1 (.t 36)) 35 true [21,20,19,14,13,7,6,3,2,1,0,5,4,12,8,11,10,9,18,16,15,17],
 qe 38 (.mv (.t 4)) 35 true [20,19,14,13,7,6,3,2,1,0,5,4,12,8,11,10,9,18,16,15,17],
 qe 39 (.bin .eql (.t 37) (.t 38)) 35 true [22,21,20,19,14,13,7,6,3,2,1,0,5,4,12,8,11,10,9,18,16,15,17,23],
 qd 40 (.pick (.t 35) (.t 39) qf) [20,19,14,13,7,6,3,2,1,0,5,4,12,8,11,10,9,18,16,15,17,24,22,21,23],
 qd 41 (.mv (.t 40)) [25,20,19,14,13,7,6,3,2,1,0,5,4,12,8,11,10,9,18,16,15,17,24,22,21,23],
 qe 42 (.fS 5 (.t 11)) 41 true [26,25,20,19,14,13,7,6,3,2,1,0,5,4,12,8,11,10,9,18,16,15,17,24,22,21,23],
 qe 43 (.ld1 (.t 42)) 41 true [27,26,25,20,19,14,13,7,6,3,2,1,0,5,4,12,8,11,10,9,18,16,15,17,24,22,21,23],
 qe 44 (.fS 1 (.t 5)) 41 true [26,25,20,19,14,13,7,6,3,2,1,0,5,4,12,8,11,10,9,18,16,15,17,24,22,21,23],
 qe 45 (.ld1 (.t 44)) 41 true [29,26,25,20,19,14,13,7,6,3,2,1,0,5,4,12,8,11,10,9,18,16,15,17,24,22,21,23],
 qe 46 (.mv (.t 4)) 41 true [26,25,20,19,14,13,7,6,3,2,1,0,5,4,12,8,11,10,9,18,16,15,17,24,22,21,23],
 qe 47 (.bin .sub (.t 46) (qk 1)) 41 true [31,26,25,20,19,14,13,7,6,3,2,1,0,5,4,12,8,11,10,9,18,16,15,17,24,22,21,23],
 qe 48 (.NP 12 (.t 45) (.t 47)) 41 true [30,29,26,25,20,19,14,13,7,6,3,2,1,0,5,4,12,8,11,10,9,18,16,15,17,24,22,21,23,32,31],
 qe 49 (.fS 7 (.t 48)) 41 true [33,30,29,26,25,20,19,14,13,7,6,3,2,1,0,5,4,12,8,11,10,9,18,16,15,17,24,22,21,23,32,31],
 qe 50 (.ld1 (.t 49)) 41 true [34,33,30,29,26,25,20,19,14,13,7,6,3,2,1,0,5,4,12,8,11,10,9,18,16,15,17,24,22,21,23,32,31],
 qe 51 (.bin .eql (.t 43) (.t 50)) 41 true [28,27,26,25,20,19,14,13,7,6,3,2,1,0,5,4,12,8,11,10,9,18,16,15,17,24,22,21,23,35,34,33,30,29,32,31],
 qd 52 (.pick (.t 41) (.t 51) qf) [26,25,20,19,14,13,7,6,3,2,1,0,5,4,12,8,11,10,9,18,16,15,17,24,22,21,23,36,28,27,35,34,33,30,29,32,31],
 qd 10 (.mv (.t 52)) [37,26,25,20,19,14,13,7,6,3,2,1,0,5,4,12,8,11,10,9,18,16,15,17,24,22,21,23,36,28,27,35,34,33,30,29,32,31]])
 .ret))),
[(.t 10)])
theorem Ts:aj Tryz.prog Tryz.f281=some Xg:=by kernel_rfl
def Xi:=qx Tryz.f279
theorem Tu:aj Tryz.prog Tryz.f279=some Xi:=by kernel_rfl
def Xh:=qx Tryz.f280
theorem Tt:aj Tryz.prog Tryz.f280=some Xh:=by kernel_rfl
def Xf:=qx Tryz.f283
theorem Tr:aj Tryz.prog Tryz.f283=some Xf:=by kernel_rfl
def Xe:=qx Tryz.f284
theorem Tq:aj Tryz.prog Tryz.f284=some Xe:=by kernel_rfl
theorem tq (r:List dL) (i:Int):bu Tryz.prog G 277 [jI r,.int i] [] (yt (gz r i)) []:=by
 have hg:i.toNat<r.length→(r.map nL)[i.toNat]? = some (nL (r.getD i.toNat jg)):=fun h=>aM (f:=nL) jg h
 unfold gz
 generalize r.getD i.toNat jg=m at *
 refine bz Tryz.func277 (by decide) Tw rfl rfl ?_
 simp only [Xk,go_sem]
 cases h1:decide (i<0) with
 | true=>
   have yZ:i<0:=of_decide_eq_true h1
   simp only [yZ,go_sem]
 | false=>
 have yZ:¬ i<0:=of_decide_eq_false h1
 simp only [yZ,false_or,go_sem]
 cases h2:decide (i≥(r.length:Int)) with
 | true=>
   have Hl:(r.length:Int)≤i:=of_decide_eq_true h2
   simp only [Hl,go_sem]
 | false=>
 have Hl:¬ (r.length:Int)≤i:=of_decide_eq_false h2
 have h0:0≤i:=by omega
 have hg:=hg (by omega)
 rw [if_neg Hl]
 simp only [h0,Hl,hg,go_sem]
 cases h3:(m.kind !=6) with
 | true=>
   have I9:¬ m.kind=6:=by simpa using h3
   rw [if_neg I9]
   simp only [go_sem]
 | false=>
   have I9:m.kind=6:=by simpa using h3
   rw [if_pos I9]
   simp only [h0,Hl,hg,go_sem]
theorem Qc (m:dL):bu Tryz.prog G 278 [yt m] [] (.bool (KG m)) []:=by
 refine bz Tryz.func278 (by decide) Tv rfl rfl ?_
 simp only [Xj,go_sem]
 unfold KG
 repeat' (first | ((first | with_reducible refine eD (fun h=>?_) (fun h=>?_) | refine dH (fun h=>?_) (fun h=>?_)) <;> simp only [h,go_sem]) | ((first | with_reducible refine Bv (fun h=>?_) (fun h=>?_) | refine ig (fun h=>?_) (fun h=>?_)) <;> simp only [h,go_sem]))
theorem Oo (s:aa) (r:List dL) (node mode aQ:Int) (hl:s.jobs.length≤1000):bu Tryz.prog G 281 [aX s,jI r,.int node,.int mode,.int aQ] [] (.bool (kM s r node mode aQ)) []:=by
 unfold kM
 have hg:(aQ-1).toNat<s.jobs.length→(s.jobs.map dJ)[(aQ-1).toNat]? = some (dJ (s.jobs.getD (aQ-1).toNat az)):=fun h=>aM (f:=dJ) az h
 generalize s.jobs.getD (aQ-1).toNat az=j at *
 refine bz Tryz.func281 (by decide) Ts rfl rfl ?_
 simp only [Xg,go_sem]
 refine av (tq r node) rfl rfl rfl rfl ?_; simp only [go_sem]
 generalize gz r node=m at *
 cases h1:(m.kind==6) <;> simp only [h1,go_sem]
 cases h2:decide (aQ≥1) with
 | false=>simp only [h2,show decide (1≤aQ)=false from h2,go_sem]
 | true=>
 simp only [h2,show decide (1≤aQ)=true from h2,go_sem]
 cases h3:decide (aQ≤(s.jobs.length:Int)) <;> simp only [h3,go_sem]
 cases h4:(m.mode==mode) <;> simp only [h4,go_sem]
 cases h5:(m.aQ==aQ) <;> simp only [h5,go_sem]
 have Hl:1≤aQ:=of_decide_eq_true h2
 have I9:aQ≤s.jobs.length:=of_decide_eq_true h3
 have h4':0≤aQ-1:=by omega
 have hw:IntKind.i64.wrap (aQ-1)=aQ-1:=aO (by omega) (by omega)
 have hg:=hg (by omega)
 simp only [hw,hg,h4',go_sem]
def ji (s:aa):aG:=.box 30 [bS s.nodes,cZ s.jobs,.int s.goal,.int s.prior,.int s.mode,.int s.term]
def rB (r:List dL):aG:=.box 94 [jI r]
def qX (x:Int):aG:=.box 3 [.int x]
def xC:aG:=.box 323 [.fn (.func 279) [] [.ptr 0 0,.ptr 1 0,.ptr 2 0]]
def PE (j:bQ):aG:=.box 119 [.int j.queue,.int j.prio,.int j.min,.int j.max,.int j.work,.int j.pin,.int j.phase,.int j.inc,.int j.nodes,.int j.since,.int j.til,.int j.epoch]
attribute [local go_sem] ji rB qX xC PE
theorem oJ (s:aa) (r:List dL) (node mode aQ:Int) (hl:s.jobs.length≤1000) :
  bu Tryz.prog G 280 [.int node,.ptr 0 0,.ptr 1 0,.ptr 3 0,.ptr 2 0] [ji s,rB r,qX aQ,qX mode] (.bool (kM s r node mode aQ)) [ji s,rB r,qX aQ,qX mode]:=by
 refine Dw Tryz.func280 (by decide) Tt rfl rfl rfl rfl ?_
 simp only [Xh,go_sem]
 refine av (Oo s r node mode aQ hl) rfl rfl rfl rfl ?_; simp only [go_sem]
theorem rM (s:aa) (r:List dL) (mode aQ:Int) :
  bu Tryz.prog G 279 [.int mode,.ptr 0 0,.ptr 1 0,.ptr 2 0] [ji s,rB r,qX aQ] (.fn (.func 280) [] [.ptr 0 0,.ptr 1 0,.ptr 3 0,.ptr 2 0]) [ji s,rB r,qX aQ,qX mode]:=by
 refine cI Tryz.func279 (by decide) Tu rfl ?_
 simp only [Xi,go_sem]
 refine dA [] [0,1,2,3] [] rfl rfl (by decide) (by simp) (by simp) rfl rfl ?_
 show ah _ _ _ (.fn (.func 280) [] [.ptr 0 0,.ptr 1 0,.ptr 3 0,.ptr 2 0]) _
 simp [ah,ag]
theorem MZ (s:aa) (r:List dL) (node aQ:Int) (hl:s.jobs.length≤1000) :
  bu Tryz.prog G 283 [.int node,.ptr 3 0] [ji s,rB r,qX aQ,xC] (.bool (kM s r node 1 aQ||kM s r node 2 aQ)) [ji s,rB r,qX aQ,xC]:=by
 refine aT Tryz.func283 (by decide) Tr rfl rfl rfl rfl ?_
 simp only [Xf,go_sem]
 refine au [0,1,2] (rM s r 1 aQ) rfl ?_ (by decide) ?_ ?_ (by simp) ?_ <;> simp only [ag,ah,go_sem]
 refine au [0,1,2,4] (oJ s r node 1 aQ hl) rfl ?_ (by decide) ?_ ?_ (by simp) ?_ <;> simp only [ag,ah,go_sem]
 cases h1:kM s r node 1 aQ with
 | true=>simp only [go_sem]
 | false=>
 simp only [go_sem]
 refine au [0,1,2] (rM s r 2 aQ) rfl ?_ (by decide) ?_ ?_ (by simp) ?_ <;> simp only [ag,ah,go_sem]
 refine au [0,1,2,5] (oJ s r node 2 aQ hl) rfl ?_ (by decide) ?_ ?_ (by simp) ?_ <;> simp only [ag,ah,go_sem]
theorem MY (s:aa) (r:List dL) (node aQ:Int) (j:bQ) (hl:s.jobs.length≤1000) :
  bu Tryz.prog G 284 [.int node,.ptr 3 0,.ptr 1 0,.ptr 4 0] [ji s,rB r,qX aQ,xC,PE j] (.bool (kM s r node 2 aQ&&decide (j.work≤(gz r node).work))) [ji s,rB r,qX aQ,xC,PE j]:=by
 refine aT Tryz.func284 (by decide) Tq rfl rfl rfl rfl ?_
 simp only [Xe,go_sem]
 refine eM [0,1,2] (rM s r 2 aQ) rfl ?_ (by decide) ?_ ?_ (by simp) ?_ <;> simp only [ag,ah,go_sem]
 refine ay (by decide) ?_
 simp only [go_sem]
 refine au [0,1,2,5] (oJ s r node 2 aQ hl) rfl ?_ (by decide) ?_ ?_ (by simp) ?_ <;> simp only [ag,ah,go_sem]
 cases h1:kM s r node 2 aQ with
 | false=>
   simp only [go_sem]
 | true=>
 simp only [go_sem]
 refine bf (tq r node) rfl rfl rfl rfl ?_; simp only [go_sem]
end Dv
namespace Dv
open Go Go.Proofs
variable {G:Nat→Option (List DV)}
def XA:=qx Tryz.f244
theorem TL:aj Tryz.prog Tryz.f244=some XA:=by kernel_rfl
def XB:=qx Tryz.f243
theorem TM:aj Tryz.prog Tryz.f243=some XB:=by kernel_rfl
def XX:=qx Tryz.f199
theorem Ud:aj Tryz.prog Tryz.f199=some XX:=by kernel_rfl
def XY:=qx Tryz.f198
theorem Ue:aj Tryz.prog Tryz.f198=some XY:=by kernel_rfl
attribute [local go_sem] ji rB qX xC PE
theorem M3 (m:Int) (tk:Nat→Bool):tO m (fun i=>tk i.val)=pG m tk:=by
 simp only [tO,pG,fA,show List.range 6=[0,1,2,3,4,5] from rfl,List.all_cons,List.all_nil,List.all_append]
 simp only [show (0:Nat)<6 from by decide,show (1:Nat)<6 from by decide,show (2:Nat)<6 from by decide,show (3:Nat)<6 from by decide,show (4:Nat)<6 from by decide,show (5:Nat)<6 from by decide,dite_true]
 cases hasB m 0 <;> cases hasB m 1 <;> cases hasB m 2 <;> cases hasB m 3 <;> cases hasB m 4 <;> cases hasB m 5 <;> (first | rfl | (simp only [Bool.and_true,Bool.true_and,Bool.false_or,Bool.not_true,Bool.not_false,Bool.true_or,List.all_cons,List.all_nil,Bool.and_assoc,if_true,Bool.false_eq_true,if_false,ite_true,ite_false] <;> rfl))
theorem tP (j:bQ) (t:Nat) (first caps:List LV) (af:List aG) (hno:((af.map some).all fun x=>match x with | some (.mp _)=>false | _=>true)=true) (tk:Nat→Bool) (hT:∀ i:Nat,bu Tryz.prog G t (first++[.int i]++caps) af (.bool (tk i)) af) :
  bu Tryz.prog G 282 [Ed j,.fn (.func t) first caps] af (.bool (pG j.nodes tk)) af:=by
 rw [← M3]
 exact M1 j t first caps af hno (fun i=>tk i.val) (fun i=>hT i.val)
theorem QY (s:aa) (r:List dL) (aQ now:Int) (hl:s.jobs.length≤1000) (h1:1≤aQ) (h2:aQ≤s.jobs.length) :
  bu Tryz.prog G 244 [aX s,jI r,.int aQ,.int now] [] (.dM [tF (CX s r aQ now (s.jobs.getD (aQ-1).toNat az)).1,.bool (CX s r aQ now (s.jobs.getD (aQ-1).toNat az)).2]) []:=by
 have hg:=aM (f:=dJ) az (show (aQ-1).toNat<s.jobs.length by omega)
 generalize s.jobs.getD (aQ-1).toNat az=j at *
 have h4':0≤aQ-1:=by omega
 have hw:IntKind.i64.wrap (aQ-1)=aQ-1:=aO (by omega) (by omega)
 have hold:=tP (G:=G) j 283 [] [.ptr 3 0] [ji s,rB r,qX aQ,xC] rfl _ (fun i=>MZ s r i aQ hl)
 have work:=tP (G:=G) j 284 [] [.ptr 3 0,.ptr 1 0,.ptr 4 0] [ji s,rB r,qX aQ,xC,PE j] rfl _ (fun i=>MY s r i aQ j hl)
 have kept:=tP (G:=G) j 280 [] [.ptr 0 0,.ptr 1 0,.ptr 3 0,.ptr 2 0] [ji s,rB r,qX aQ,qX 3] rfl _ (fun i=>oJ s r i 3 aQ hl)
 unfold CX
 generalize pG j.nodes (fun i=>kM s r i 1 aQ||kM s r i 2 aQ)=e1 at *
 generalize pG j.nodes (fun i=>kM s r i 2 aQ&&decide (j.work≤(gz r i).work))=e2 at *
 generalize pG j.nodes (fun i=>kM s r i 3 aQ)=e3 at *
 refine bz Tryz.func244 (by decide) TL rfl rfl ?_
 simp only [XA,go_sem]
 simp only [hw,hg,h4',go_sem]
 cases hp1:(j.phase==1) with
 | true=>
   have IQ:j.phase=1:=by simpa using hp1
   rw [if_pos IQ]
   simp only [go_sem]
   refine au [0,1,2,5] (hold) rfl ?_ (by decide) ?_ ?_ (by simp) ?_ <;> simp only [ag,ah,go_sem]
 | false=>
 have IQ:¬ j.phase=1:=by simpa using hp1
 rw [if_neg IQ]
 simp only [go_sem]
 cases hp2:(j.phase==2) with
 | true=>
   have hp2':j.phase=2:=by simpa using hp2
   rw [if_pos hp2']
   simp only [go_sem]
   refine au [0,1,2,5,4] (work) rfl ?_ (by decide) ?_ ?_ (by simp) ?_ <;> simp only [ag,ah,go_sem]
 | false=>
 have hp2':¬ j.phase=2:=by simpa using hp2
 rw [if_neg hp2']
 simp only [go_sem]
 cases hp3:(j.phase==3) with
 | true=>
   have aao:j.phase=3:=by simpa using hp3
   rw [if_pos aao]
   simp only [go_sem]
   refine eM [0,1,2] (rM s r 3 aQ) rfl ?_ (by decide) ?_ ?_ (by simp) ?_ <;> simp only [ag,ah,go_sem]
   refine eM [0,1,2,6] (kept) rfl ?_ (by decide) ?_ ?_ (by simp) ?_ <;> simp only [ag,ah,go_sem]
   refine ay (by decide) ?_
   simp only [go_sem]
   cases he:decide (j.epoch<j.inc) with
   | true=>
     rw [if_pos (of_decide_eq_true he)]
     simp only [go_sem]
   | false=>
     rw [if_neg (of_decide_eq_false he)]
     simp only [go_sem]
 | false=>
 have aao:¬ j.phase=3:=by simpa using hp3
 rw [if_neg aao]
 simp only [go_sem]
def nY (o:Option cB):LV:=.dM [tF (o.getD iA),.bool o.isSome]
theorem Pe (s:aa) (r:List dL) (k:Nat) (hk:k<s.nodes.length) :
  bu Tryz.prog G 243 [aX s,jI r,.int k] [] (nY (Fa s (gz r k) (s.nodes.getD k ai) k)) []:=by
 have hg:=aM (f:=bZ) ai hk
 have hT:=tq (G:=G) r k
 generalize s.nodes.getD k ai=n at *
 generalize gz r k=m at *
 obtain ⟨up,co,mo,ve,jo⟩:=n
 have hM:=jU (G:=G) s
 unfold Fa
 generalize gh s=ms at *
 refine bz Tryz.func243 (by decide) TM rfl rfl ?_
 simp only [XB,go_sem]
 simp only [hg,go_sem]
 refine bf (hT) rfl rfl rfl rfl ?_; simp only [go_sem]
 refine ay (by decide) ?_
 simp only [go_sem]
 refine av (Qc m) rfl rfl rfl rfl ?_; simp only [go_sem]
 generalize KG m=b at *
 cases b with
 | false=>simp only [go_sem,nY,Option.getD_none,Option.isSome_none]
 | true=>
 have e:∀ A B:Option cB,(if true=false then none else if up=false∧1≤m.version∧m.version≤9 then A else if mo=true∧m.version=ms then B else none)=if (!up&&decide (m.version≥1)&&decide (m.version≤9))=true then A else if (mo&&(m.version==ms))=true then B else none:=fun A B=>by
  simp only [Bool.and_eq_true,Bool.not_eq_true',decide_eq_true_eq,beq_iff_eq,and_assoc,ge_iff_le,Bool.true_eq_false,if_false]
 rw [e]
 cases up <;> cases h2:decide (m.version≥1) <;> cases h3:decide (m.version≤9) <;> cases mo <;> simp only [h2,h3,Bool.true_eq_false,Bool.false_eq_true,go_sem,nY,Option.getD_none,Option.isSome_none,Option.getD_some,Option.isSome_some]
 all_goals
  refine bf (hM) rfl rfl rfl rfl ?_; simp only [go_sem]
  cases h4:(m.version==ms) <;> simp only [h4,Bool.true_eq_false,Bool.false_eq_true,go_sem,nY,Option.getD_none,Option.isSome_none,Option.getD_some,Option.isSome_some]
def Oj (up:List Bool) (hs:List Int) (cc now:Int) (k:Nat):St:=⟨[(0,.d (.dO 1 (up.map fun b=>[bl b]))),(1,.d (.dO 1 (hs.map fun h=>[i64 h]))),(2,.int cc),(3,.int now),(14,.int (min up.length hs.length:Nat)),(15,.int k)],[]⟩
theorem HJ (up:List Bool) (hs:List Int) (cc now:Int) (hu:up.length≤50) (hh:hs.length≤50) (hl:0≤cc∧cc≤1000000) (hT:∀ h∈hs,0≤h∧h≤1000000) :
  bu Tryz.prog G 198 [.d (.dO 1 (up.map fun b=>[bl b])),.d (.dO 1 (hs.map fun h=>[i64 h])),.int cc,.int now] [] (.int (mQ cc now up hs 0)) []:=by
 refine bz Tryz.func198 (by decide) Ue rfl rfl ?_
 simp only [XY,go_sem]
 generalize hr:mQ cc now up hs 0=r
 have hm:(if (hs.length:Int)<(up.length:Int) then (hs.length:Int) else (up.length:Int))=((min up.length hs.length:Nat):Int):=by split <;> omega
 refine aW [0,1,2,3,14,15] [] (fun k:Nat=>k≤min up.length hs.length∧mQ cc now (up.drop k) (hs.drop k) k=r) (fun k=>min up.length hs.length-k) (Oj up hs cc now) 0 ?_ ⟨Nat.zero_le _,hr⟩ ?_
 ·simp only [Oj,go_sem,hm,Int.natCast_zero]
 rintro k ⟨hk,hF⟩
 simp only [Oj,go_sem]
 refine bA (fun h=>?_) (fun h=>?_)
 ·have h:=eR h
  have wJ:k<up.length:=by omega
  have hk2:k<hs.length:=by omega
  rw [List.drop_eq_getElem_cons wJ,List.drop_eq_getElem_cons hk2,mQ] at hF
  have hg1:=get_map (f:=fun b:Bool=>[bl b]) wJ
  have hg2:=get_map (f:=fun h:Int=>[i64 h]) hk2
  have hb:=hT hs[k] (List.getElem_mem hk2)
  generalize up[k]=u at *
  generalize hs[k]=x at *
  have hw:IntKind.i64.wrap (x+cc)=x+cc:=aO (by omega) (by omega)
  simp only [hg1,hg2,go_sem]
  cases u with
  | false=>
    simp only [Bool.false_eq_true,false_and,if_false] at hF
    simp only [go_sem]
    refine bh (k+1) ?_ ?_ ⟨h,by rw [Int.natCast_add]; exact hF⟩ (by omega)
    ·simp only [go_sem]
    ·simp only [Oj,go_sem,aH (show k<9223372036854775807 by omega)]
  | true=>
    simp only [hw,hg2,go_sem]
    cases h5:decide (now≥x+cc) with
    | true=>
      have h5':x+cc≤now:=of_decide_eq_true h5
      rw [if_pos ⟨rfl,h5'⟩] at hF
      simp only [go_sem,← hF]
    | false=>
      have h5':¬ x+cc≤now:=of_decide_eq_false h5
      rw [if_neg (fun h=>h5' h.2)] at hF
      simp only [go_sem]
      refine bh (k+1) ?_ ?_ ⟨h,by rw [Int.natCast_add]; exact hF⟩ (by omega)
      ·simp only [go_sem]
      ·simp only [Oj,go_sem,aH (show k<9223372036854775807 by omega)]
 ·have hk2:=eS h hk
  have:mQ cc now (up.drop k) (hs.drop k) k = -1:=by
   rcases (by omega:up.length≤k∨hs.length≤k) with h | h
   ·rw [List.drop_eq_nil_of_le h]; rfl
   ·rw [List.drop_eq_nil_of_le h]; cases List.drop k up <;> rfl
  rw [this] at hF
  simp only [go_sem,← hF]
def Ck (s:aa) (r:List dL) (now:Int):Nat→Option cB
 | 0=>match lM s r false s.nodes 0 with
   | some o=>some o
   | none=>match lM s r true s.nodes 0 with
     | some o=>some o
     | none=>sF s r now s.jobs 0
 | 1=>match lM s r true s.nodes 0 with
   | some o=>some o
   | none=>sF s r now s.jobs 0
 | _=>sF s r now s.jobs 0
def RU:Nat→Bool
 | 0=>false
 | _=>true
theorem OE (s:aa) (r:List dL) (now:Int) (i:Nat) (hi:i<2):Ck s r now i=match lM s r (RU i) s.nodes 0 with | some o=>some o | none=>Ck s r now (i+1):=by
 match i,hi with
 | 0,_=>rfl
 | 1,_=>rfl
theorem RT (i:Nat) (hi:i<2):([.bool false,.bool true]:List LV)[i]? = some (.bool (RU i)):=by
 match i,hi with
 | 0,_=>rfl
 | 1,_=>rfl
def jT (s:aa):List (Option aG):=[some (ji s),some (.box 37 [.int 0,.int 0,.int 0,.int 0,.int 0,.int 0,.int 0])]
def Kn (s:aa) (r:List dL) (now:Int) (i:Nat):St:=⟨[(1,jI r),(2,.int now),(3,.ptr 0 0),(6,.ptr 1 0),(7,.bool false),(17,.agg [.bool false,.bool true]),(18,.int i)],jT s⟩
def FO (s:aa) (r:List dL) (now:Int) (i k:Nat):St:=⟨[(1,jI r),(2,.int now),(3,.ptr 0 0),(6,.ptr 1 0),(7,.bool false),(9,.bool (RU i)),(17,.agg [.bool false,.bool true]),(18,.int i),(22,bS s.nodes),(23,.int s.nodes.length),(24,.int k)],jT s⟩
def Km (s:aa) (r:List dL) (now:Int) (k:Nat):St:=⟨[(1,jI r),(2,.int now),(3,.ptr 0 0),(6,.ptr 1 0),(7,.bool false),(46,.int s.jobs.length),(47,.int k)],jT s⟩
theorem BN (s:aa) (r:List dL) (now:Int) (hn:s.nodes.length≤1000) (hl:s.jobs.length≤1000):bu Tryz.prog G 199 [aX s,jI r,.int now] [] (nY (nO s r now)) []:=by
 rw [show nO s r now=Ck s r now 0 from rfl]
 generalize hr:Ck s r now 0=q
 refine bz Tryz.func199 (by decide) Ud rfl rfl ?_
 simp only [XX,go_sem]
 refine aW [1,2,3,6,7,17,18] [] (fun i:Nat=>i≤2∧Ck s r now i=q) (fun i=>2-i) (Kn s r now) 0 ?_ ⟨by omega,hr⟩ ?_
 ·simp only [Kn,jT,go_sem,Int.natCast_zero]
 clear hr
 rintro i ⟨hi,hr⟩
 simp only [Kn,jT,go_sem]
 cases hlt:decide ((i:Int)<2) with
 | false=>
   have h3:i=2:=by have:=of_decide_eq_false hlt; omega
   subst h3
   simp only [Ck] at hr
   simp only [go_sem]
   refine aW [1,2,3,6,7,46,47] [] (fun k:Nat=>k≤s.jobs.length∧sF s r now (s.jobs.drop k) k=q) (fun k=>s.jobs.length-k) (Km s r now) 0 ?_ ⟨Nat.zero_le _,hr⟩ ?_
   ·simp only [Km,jT,go_sem,Int.natCast_zero]
   clear hr
   rintro k ⟨hk,hF⟩
   simp only [Km,jT,go_sem]
   refine bA (fun h=>?_) (fun h=>?_)
   ·have h:=eR h
    rw [List.drop_eq_getElem_cons h,sF] at hF
    have hT:=QY (G:=G) s r ((k+1:Nat):Int) now hl (by omega) (by omega)
    rw [show (((k+1:Nat):Int)-1).toNat=k by omega,show s.jobs.getD k az=s.jobs[k] by simp [List.getD,h]] at hT
    rw [show (k:Int)+1=((k+1:Nat):Int) from rfl] at hF
    generalize CX s r ((k+1:Nat):Int) now s.jobs[k]=p at *
    obtain ⟨⟨o1,o2,o3,o4,o5,o6,o7⟩,b⟩:=p
    unfold Oi at hF
    simp only [aH (show k<9223372036854775807 by omega),go_sem]
    refine av (hT) rfl rfl rfl rfl ?_; simp only [go_sem]
    cases b with
    | true=>
      simp only [if_true] at hF
      subst hF
      simp only [go_sem,nY,Option.getD_some,Option.isSome_some]
    | false=>
      simp only [Bool.false_eq_true,if_false] at hF
      simp only [go_sem]
      refine bh (k+1) ?_ ?_ ⟨h,hF⟩ (by omega)
      ·simp only [go_sem]
      ·simp only [Km,jT,go_sem,aH (show k<9223372036854775807 by omega)]
   ·obtain rfl:=eS h hk
    rw [List.drop_length,sF] at hF
    subst hF
    simp only [go_sem,nY,Option.getD_none,Option.isSome_none]
 | true=>
 have h3:i<2:=by have:=of_decide_eq_true hlt; omega
 rw [OE s r now i h3] at hr
 have hg:=RT i h3
 simp only [go_sem] at hg
 simp only [go_sem,hg,h3]
 generalize Vy:lM s r (RU i) s.nodes 0=q2 at hr
 refine aW [1,2,3,6,7,9,17,18,22,23,24] [] (fun k:Nat=>k≤s.nodes.length∧lM s r (RU i) (s.nodes.drop k) k=q2) (fun k=>s.nodes.length-k) (FO s r now i) 0 ?_ ⟨Nat.zero_le _,Vy⟩ ?_
 ·simp only [FO,jT,go_sem,Int.natCast_zero]
 clear Vy
 rintro k ⟨hk,hF⟩
 simp only [FO,jT,go_sem]
 refine bA (fun h=>?_) (fun h=>?_)
 ·have h:=eR h
  rw [List.drop_eq_getElem_cons h,lM] at hF
  have hT:=Pe (G:=G) s r k h
  rw [show s.nodes.getD k ai=s.nodes[k] by simp [List.getD,h]] at hT
  have hg:=get_map (f:=bZ) h
  generalize Fa s (gz r k) s.nodes[k] k=p at *
  generalize s.nodes[k]=n at *
  obtain ⟨up,co,mo,ve,jo⟩:=n
  simp only [hg,go_sem]
  cases hu:(up==RU i) with
  | false=>
    have hu':¬ up=RU i:=by simpa using hu
    rw [if_neg hu'] at hF
    simp only [go_sem]
    refine bh (k+1) ?_ ?_ ⟨h,hF⟩ (by omega)
    ·simp only [go_sem]
    ·simp only [FO,jT,go_sem,aH (show k<9223372036854775807 by omega)]
  | true=>
  have hu':up=RU i:=by simpa using hu
  rw [if_pos hu'] at hF
  simp only [go_sem]
  cases p with
  | none=>
    replace hF:lM s r (RU i) (List.drop (k+1) s.nodes) (k+1)=q2:=hF
    replace hT:bu Tryz.prog G 243 [aX s,jI r,.int k] [] (.dM [tF iA,.bool false]) []:=hT
    refine av (hT) rfl rfl rfl rfl ?_; simp only [go_sem]
    refine bh (k+1) ?_ ?_ ⟨h,hF⟩ (by omega)
    ·simp only [go_sem]
    ·simp only [FO,jT,go_sem,aH (show k<9223372036854775807 by omega)]
  | some o=>
    replace hF:some o=q2:=hF
    subst hF
    replace hr:some o=q:=hr
    subst hr
    replace hT:bu Tryz.prog G 243 [aX s,jI r,.int k] [] (.dM [tF o,.bool true]) []:=hT
    obtain ⟨o1,o2,o3,o4,o5,o6,o7⟩:=o
    refine av (hT) rfl rfl rfl rfl ?_; simp only [go_sem]
    simp only [go_sem,nY,Option.getD_some,Option.isSome_some]
 ·obtain rfl:=eS h hk
  rw [List.drop_length,lM] at hF
  subst hF
  simp only [go_sem]
  refine bh (i+1) ?_ ?_ ⟨h3,hr⟩ (by omega)
  ·simp only [go_sem]
  ·simp only [Kn,jT,go_sem,aH (show i<9223372036854775807 by omega)]
end Dv
