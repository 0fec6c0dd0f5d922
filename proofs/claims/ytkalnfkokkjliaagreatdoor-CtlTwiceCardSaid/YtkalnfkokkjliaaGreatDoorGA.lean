/- part -/
import Derived.Test.YtkalnfkokkjliaaGreatDoorDB
import Derived.Test.YtkalnfkokkjliaaGreatDoorPA
import Derived.Test.YtkalnfkokkjliaaGreatDoorRA
set_option linter.all false
set_option maxRecDepth 100000
namespace Dv
open Go Go.Proofs
variable {G:Nat→Option (List DV)}
def WT:=qx Tryz.f277
theorem Ti:aj Tryz.prog Tryz.f277=some WT:=by kernel_rfl
def WS:=qx Tryz.f278
theorem Th:aj Tryz.prog Tryz.f278=some WS:=by kernel_rfl
def WO:Nat×C×List RV:=(53,
(.seq (.iJ [qo 5 (.box 30 (.t 0)),
 qo 10 (.mv qf)])
 (.seq (.iJ [qm 12 1,
 qm 13 2,
 qo 14 (.call (.f 277) [(.t 12),(.t 13)]),
 qo 11 (.new 87 [q0,q0,q0,q0,q0,q0,q0,q0,q0,q0,q0]),
 qn (.st 11 (.t 11) (.t 14))])
 (.seq (.jA [qo 15 (.eO 1 (.t 11)),
 qd 16 (.ld1 (.t 15)) [0],
 qd 17 (.bin .eql (.t 16) (qk 6)) [1,0],
 qd 18 (.mv (.t 17)) [2,1,0],
 qe 19 (.mv (.t 4)) 18 true [3,2,1,0],
 qe 20 (.bin .geq (.t 19) (qk 1)) 18 true [4,3,2,1,0],
 qd 21 (.pick (.t 18) (.t 20) qf) [3,2,1,0,5,4],
 qd 22 (.mv (.t 21)) [6,3,2,1,0,5,4],
 qe 23 (.mv (.t 4)) 22 true [7,6,3,2,1,0,5,4],
 qe 24 (.eO 1 (.t 5)) 22 true [7,6,3,2,1,0,5,4],
 qe 25 (.ld1 (.t 24)) 22 true [9,7,6,3,2,1,0,5,4],
 qe 26 (.len (.t 25)) 22 true [10,9,7,6,3,2,1,0,5,4],
 qe 27 (.bin .leq (.t 23) (.t 26)) 22 true [8,7,6,3,2,1,0,5,4,11,10,9],
 qd 28 (.pick (.t 22) (.t 27) qf) [7,6,3,2,1,0,5,4,12,8,11,10,9],
 qd 29 (.mv (.t 28)) [13,7,6,3,2,1,0,5,4,12,8,11,10,9],
 qe 30 (.eO 9 (.t 11)) 29 true [14,13,7,6,3,2,1,0,5,4,12,8,11,10,9],
 qe 31 (.ld1 (.t 30)) 29 true [15,14,13,7,6,3,2,1,0,5,4,12,8,11,10,9],
 qe 32 (.mv (.t 3)) 29 true [14,13,7,6,3,2,1,0,5,4,12,8,11,10,9],
 qe 33 (.bin .eql (.t 31) (.t 32)) 29 true [16,15,14,13,7,6,3,2,1,0,5,4,12,8,11,10,9,17],
 qd 34 (.pick (.t 29) (.t 33) qf) [14,13,7,6,3,2,1,0,5,4,12,8,11,10,9,18,16,15,17],
 qd 35 (.mv (.t 34)) [19,14,13,7,6,3,2,1,0,5,4,12,8,11,10,9,18,16,15,17],
 qe 36 (.eO 4 (.t 11)) 35 true [20,19,14,13,7,6,3,2,1,0,5,4,12,8,11,10,9,18,16,15,17],
 qe 37 (.ld1 (.t 36)) 35 true [21,20,19,14,13,7,6,3,2,1,0,5,4,12,8,11,10,9,18,16,15,17],
 qe 38 (.mv (.t 4)) 35 true [20,19,14,13,7,6,3,2,1,0,5,4,12,8,11,10,9,18,16,15,17],
 qe 39 (.bin .eql (.t 37) (.t 38)) 35 true [22,21,20,19,14,13,7,6,3,2,1,0,5,4,12,8,11,10,9,18,16,15,17,23],
 qd 40 (.pick (.t 35) (.t 39) qf) [20,19,14,13,7,6,3,2,1,0,5,4,12,8,11,10,9,18,16,15,17,24,22,21,23],
 qd 41 (.mv (.t 40)) [25,20,19,14,13,7,6,3,2,1,0,5,4,12,8,11,10,9,18,16,15,17,24,22,21,23],
 qe 42 (.eO 5 (.t 11)) 41 true [26,25,20,19,14,13,7,6,3,2,1,0,5,4,12,8,11,10,9,18,16,15,17,24,22,21,23],
 qe 43 (.ld1 (.t 42)) 41 true [27,26,25,20,19,14,13,7,6,3,2,1,0,5,4,12,8,11,10,9,18,16,15,17,24,22,21,23],
 qe 44 (.eO 1 (.t 5)) 41 true [26,25,20,19,14,13,7,6,3,2,1,0,5,4,12,8,11,10,9,18,16,15,17,24,22,21,23],
 qe 45 (.ld1 (.t 44)) 41 true [29,26,25,20,19,14,13,7,6,3,2,1,0,5,4,12,8,11,10,9,18,16,15,17,24,22,21,23],
 qe 46 (.mv (.t 4)) 41 true [26,25,20,19,14,13,7,6,3,2,1,0,5,4,12,8,11,10,9,18,16,15,17,24,22,21,23],
 qe 47 (.bin .sub (.t 46) (qk 1)) 41 true [31,26,25,20,19,14,13,7,6,3,2,1,0,5,4,12,8,11,10,9,18,16,15,17,24,22,21,23],
 qe 48 (.A3 12 (.t 45) (.t 47)) 41 true [30,29,26,25,20,19,14,13,7,6,3,2,1,0,5,4,12,8,11,10,9,18,16,15,17,24,22,21,23,32,31],
 qe 49 (.eO 7 (.t 48)) 41 true [33,30,29,26,25,20,19,14,13,7,6,3,2,1,0,5,4,12,8,11,10,9,18,16,15,17,24,22,21,23,32,31],
 qe 50 (.ld1 (.t 49)) 41 true [34,33,30,29,26,25,20,19,14,13,7,6,3,2,1,0,5,4,12,8,11,10,9,18,16,15,17,24,22,21,23,32,31],
 qe 51 (.bin .eql (.t 43) (.t 50)) 41 true [28,27,26,25,20,19,14,13,7,6,3,2,1,0,5,4,12,8,11,10,9,18,16,15,17,24,22,21,23,35,34,33,30,29,32,31],
 qd 52 (.pick (.t 41) (.t 51) qf) [26,25,20,19,14,13,7,6,3,2,1,0,5,4,12,8,11,10,9,18,16,15,17,24,22,21,23,36,28,27,35,34,33,30,29,32,31],
 qd 10 (.mv (.t 52)) [37,26,25,20,19,14,13,7,6,3,2,1,0,5,4,12,8,11,10,9,18,16,15,17,24,22,21,23,36,28,27,35,34,33,30,29,32,31]])
 .ret))),
[(.t 10)])
theorem Te:aj Tryz.prog Tryz.f281=some WO:=by kernel_rfl
def WR:=qx Tryz.f279
theorem Tg:aj Tryz.prog Tryz.f279=some WR:=by kernel_rfl
def WQ:=qx Tryz.f280
theorem Tf:aj Tryz.prog Tryz.f280=some WQ:=by kernel_rfl
def WN:=qx Tryz.f283
theorem Td:aj Tryz.prog Tryz.f283=some WN:=by kernel_rfl
def WM:=qx Tryz.f284
theorem Tc:aj Tryz.prog Tryz.f284=some WM:=by kernel_rfl
theorem s6 (r:List dA) (i:Int):bw Tryz.prog G 277 [iT r,.int i] [] (xS (gv r i)) []:=by
 have hg:i.toNat<r.length→(r.map lX)[i.toNat]? = some (lX (r.getD i.toNat iX)):=fun h=>aJ (f:=lX) iX h
 unfold gv
 generalize r.getD i.toNat iX=m at *
 refine br Tryz.func277 (by decide) Ti rfl rfl ?_
 simp only [WT,go_sem]
 cases h1:decide (i<0) with
 | true=>
   have yC:i<0:=of_decide_eq_true h1
   simp only [yC,go_sem]
 | false=>
 have yC:¬ i<0:=of_decide_eq_false h1
 simp only [yC,false_or,go_sem]
 cases h2:decide (i≥(r.length:Int)) with
 | true=>
   have GX:(r.length:Int)≤i:=of_decide_eq_true h2
   simp only [GX,go_sem]
 | false=>
 have GX:¬ (r.length:Int)≤i:=of_decide_eq_false h2
 have h0:0≤i:=by omega
 have hg:=hg (by omega)
 rw [if_neg GX]
 simp only [h0,GX,hg,go_sem]
 cases h3:(m.kind !=6) with
 | true=>
   have ID:¬ m.kind=6:=by simpa using h3
   rw [if_neg ID]
   simp only [go_sem]
 | false=>
   have ID:m.kind=6:=by simpa using h3
   rw [if_pos ID]
   simp only [h0,GX,hg,go_sem]
theorem PJ (m:dA):bw Tryz.prog G 278 [xS m] [] (.bool (Kr m)) []:=by
 refine br Tryz.func278 (by decide) Th rfl rfl ?_
 simp only [WS,go_sem]
 unfold Kr
 repeat' (first | ((first | with_reducible refine eB (fun h=>?_) (fun h=>?_) | refine dz (fun h=>?_) (fun h=>?_)) <;> simp only [h,go_sem]) | ((first | with_reducible refine AY (fun h=>?_) (fun h=>?_) | refine gX (fun h=>?_) (fun h=>?_)) <;> simp only [h,go_sem]))
theorem NY (s:aa) (r:List dA) (node mode aQ:Int) (hl:s.jobs.length≤1000):bw Tryz.prog G 281 [aY s,iT r,.int node,.int mode,.int aQ] [] (.bool (kG s r node mode aQ)) []:=by
 unfold kG
 have hg:(aQ-1).toNat<s.jobs.length→(s.jobs.map dD)[(aQ-1).toNat]? = some (dD (s.jobs.getD (aQ-1).toNat az)):=fun h=>aJ (f:=dD) az h
 generalize s.jobs.getD (aQ-1).toNat az=j at *
 refine br Tryz.func281 (by decide) Te rfl rfl ?_
 simp only [WO,go_sem]
 refine ay (s6 r node) rfl rfl rfl rfl ?_; simp only [go_sem]
 generalize gv r node=m at *
 cases h1:(m.kind==6) <;> simp only [h1,go_sem]
 cases h2:decide (aQ≥1) with
 | false=>simp only [h2,show decide (1≤aQ)=false from h2,go_sem]
 | true=>
 simp only [h2,show decide (1≤aQ)=true from h2,go_sem]
 cases h3:decide (aQ≤(s.jobs.length:Int)) <;> simp only [h3,go_sem]
 cases h4:(m.mode==mode) <;> simp only [h4,go_sem]
 cases h5:(m.aQ==aQ) <;> simp only [h5,go_sem]
 have GX:1≤aQ:=of_decide_eq_true h2
 have ID:aQ≤s.jobs.length:=of_decide_eq_true h3
 have h4':0≤aQ-1:=by omega
 have hw:IntKind.i64.wrap (aQ-1)=aQ-1:=aN (by omega) (by omega)
 have hg:=hg (by omega)
 simp only [hw,hg,h4',go_sem]
def iY (s:aa):aH:=.box 30 [bO s.nodes,cO s.jobs,.int s.goal,.int s.prior,.int s.mode,.int s.term]
def rB (r:List dA):aH:=.box 94 [iT r]
def qP (x:Int):aH:=.box 3 [.int x]
def wV:aH:=.box 323 [.fn (.func 279) [] [.ptr 0 0,.ptr 1 0,.ptr 2 0]]
def Pj (j:bP):aH:=.box 119 [.int j.queue,.int j.prio,.int j.min,.int j.max,.int j.work,.int j.pin,.int j.phase,.int j.inc,.int j.nodes,.int j.since,.int j.til,.int j.epoch]
attribute [local go_sem] iY rB qP wV Pj
theorem oA (s:aa) (r:List dA) (node mode aQ:Int) (hl:s.jobs.length≤1000) :
  bw Tryz.prog G 280 [.int node,.ptr 0 0,.ptr 1 0,.ptr 3 0,.ptr 2 0] [iY s,rB r,qP aQ,qP mode] (.bool (kG s r node mode aQ)) [iY s,rB r,qP aQ,qP mode]:=by
 refine Dc Tryz.func280 (by decide) Tf rfl rfl rfl rfl ?_
 simp only [WQ,go_sem]
 refine ay (NY s r node mode aQ hl) rfl rfl rfl rfl ?_; simp only [go_sem]
theorem rF (s:aa) (r:List dA) (mode aQ:Int) :
  bw Tryz.prog G 279 [.int mode,.ptr 0 0,.ptr 1 0,.ptr 2 0] [iY s,rB r,qP aQ] (.fn (.func 280) [] [.ptr 0 0,.ptr 1 0,.ptr 3 0,.ptr 2 0]) [iY s,rB r,qP aQ,qP mode]:=by
 refine cD Tryz.func279 (by decide) Tg rfl ?_
 simp only [WR,go_sem]
 refine dh [] [0,1,2,3] [] rfl rfl (by decide) (by simp) (by simp) rfl rfl ?_
 show ah _ _ _ (.fn (.func 280) [] [.ptr 0 0,.ptr 1 0,.ptr 3 0,.ptr 2 0]) _
 simp [ah,ag]
theorem MJ (s:aa) (r:List dA) (node aQ:Int) (hl:s.jobs.length≤1000) :
  bw Tryz.prog G 283 [.int node,.ptr 3 0] [iY s,rB r,qP aQ,wV] (.bool (kG s r node 1 aQ||kG s r node 2 aQ)) [iY s,rB r,qP aQ,wV]:=by
 refine aT Tryz.func283 (by decide) Td rfl rfl rfl rfl ?_
 simp only [WN,go_sem]
 refine av [0,1,2] (rF s r 1 aQ) rfl ?_ (by decide) ?_ ?_ (by simp) ?_ <;> simp only [ag,ah,go_sem]
 refine av [0,1,2,4] (oA s r node 1 aQ hl) rfl ?_ (by decide) ?_ ?_ (by simp) ?_ <;> simp only [ag,ah,go_sem]
 cases h1:kG s r node 1 aQ with
 | true=>simp only [go_sem]
 | false=>
 simp only [go_sem]
 refine av [0,1,2] (rF s r 2 aQ) rfl ?_ (by decide) ?_ ?_ (by simp) ?_ <;> simp only [ag,ah,go_sem]
 refine av [0,1,2,5] (oA s r node 2 aQ hl) rfl ?_ (by decide) ?_ ?_ (by simp) ?_ <;> simp only [ag,ah,go_sem]
theorem MI (s:aa) (r:List dA) (node aQ:Int) (j:bP) (hl:s.jobs.length≤1000) :
  bw Tryz.prog G 284 [.int node,.ptr 3 0,.ptr 1 0,.ptr 4 0] [iY s,rB r,qP aQ,wV,Pj j] (.bool (kG s r node 2 aQ&&decide (j.work≤(gv r node).work))) [iY s,rB r,qP aQ,wV,Pj j]:=by
 refine aT Tryz.func284 (by decide) Tc rfl rfl rfl rfl ?_
 simp only [WM,go_sem]
 refine dV [0,1,2] (rF s r 2 aQ) rfl ?_ (by decide) ?_ ?_ (by simp) ?_ <;> simp only [ag,ah,go_sem]
 refine au (by decide) ?_
 simp only [go_sem]
 refine av [0,1,2,5] (oA s r node 2 aQ hl) rfl ?_ (by decide) ?_ ?_ (by simp) ?_ <;> simp only [ag,ah,go_sem]
 cases h1:kG s r node 2 aQ with
 | false=>
   simp only [go_sem]
 | true=>
 simp only [go_sem]
 refine bq (s6 r node) rfl rfl rfl rfl ?_; simp only [go_sem]
end Dv
namespace Dv
open Go Go.Proofs
variable {G:Nat→Option (List DV)}
def Xb:=qx Tryz.f244
theorem Tx:aj Tryz.prog Tryz.f244=some Xb:=by kernel_rfl
def Xc:=qx Tryz.f243
theorem Ty:aj Tryz.prog Tryz.f243=some Xc:=by kernel_rfl
def Xz:=qx Tryz.f199
theorem TU:aj Tryz.prog Tryz.f199=some Xz:=by kernel_rfl
def XA:=qx Tryz.f198
theorem TV:aj Tryz.prog Tryz.f198=some XA:=by kernel_rfl
attribute [local go_sem] iY rB qP wV Pj
theorem MM (m:Int) (tk:Nat→Bool):tw m (fun i=>tk i.val)=oW m tk:=by
 simp only [tw,oW,fq,show List.range 6=[0,1,2,3,4,5] from rfl,List.all_cons,List.all_nil,List.all_append]
 simp only [show (0:Nat)<6 from by decide,show (1:Nat)<6 from by decide,show (2:Nat)<6 from by decide,show (3:Nat)<6 from by decide,show (4:Nat)<6 from by decide,show (5:Nat)<6 from by decide,dite_true]
 cases hasB m 0 <;> cases hasB m 1 <;> cases hasB m 2 <;> cases hasB m 3 <;> cases hasB m 4 <;> cases hasB m 5 <;> (first | rfl | (simp only [Bool.and_true,Bool.true_and,Bool.false_or,Bool.not_true,Bool.not_false,Bool.true_or,List.all_cons,List.all_nil,Bool.and_assoc,if_true,Bool.false_eq_true,if_false,ite_true,ite_false] <;> rfl))
theorem tA (j:bP) (t:Nat) (first caps:List LV) (af:List aH) (hno:((af.map some).all fun x=>match x with | some (.mp _)=>false | _=>true)=true) (tk:Nat→Bool) (hT:∀ i:Nat,bw Tryz.prog G t (first++[.int i]++caps) af (.bool (tk i)) af) :
  bw Tryz.prog G 282 [DQ j,.fn (.func t) first caps] af (.bool (oW j.nodes tk)) af:=by
 rw [← MM]
 exact ML j t first caps af hno (fun i=>tk i.val) (fun i=>hT i.val)
theorem QB (s:aa) (r:List dA) (aQ now:Int) (hl:s.jobs.length≤1000) (h1:1≤aQ) (h2:aQ≤s.jobs.length) :
  bw Tryz.prog G 244 [aY s,iT r,.int aQ,.int now] [] (.dJ [tO (CF s r aQ now (s.jobs.getD (aQ-1).toNat az)).1,.bool (CF s r aQ now (s.jobs.getD (aQ-1).toNat az)).2]) []:=by
 have hg:=aJ (f:=dD) az (show (aQ-1).toNat<s.jobs.length by omega)
 generalize s.jobs.getD (aQ-1).toNat az=j at *
 have h4':0≤aQ-1:=by omega
 have hw:IntKind.i64.wrap (aQ-1)=aQ-1:=aN (by omega) (by omega)
 have hold:=tA (G:=G) j 283 [] [.ptr 3 0] [iY s,rB r,qP aQ,wV] rfl _ (fun i=>MJ s r i aQ hl)
 have work:=tA (G:=G) j 284 [] [.ptr 3 0,.ptr 1 0,.ptr 4 0] [iY s,rB r,qP aQ,wV,Pj j] rfl _ (fun i=>MI s r i aQ j hl)
 have kept:=tA (G:=G) j 280 [] [.ptr 0 0,.ptr 1 0,.ptr 3 0,.ptr 2 0] [iY s,rB r,qP aQ,qP 3] rfl _ (fun i=>oA s r i 3 aQ hl)
 unfold CF
 generalize oW j.nodes (fun i=>kG s r i 1 aQ||kG s r i 2 aQ)=e1 at *
 generalize oW j.nodes (fun i=>kG s r i 2 aQ&&decide (j.work≤(gv r i).work))=e2 at *
 generalize oW j.nodes (fun i=>kG s r i 3 aQ)=e3 at *
 refine br Tryz.func244 (by decide) Tx rfl rfl ?_
 simp only [Xb,go_sem]
 simp only [hw,hg,h4',go_sem]
 cases hp1:(j.phase==1) with
 | true=>
   have Is:j.phase=1:=by simpa using hp1
   rw [if_pos Is]
   simp only [go_sem]
   refine av [0,1,2,5] (hold) rfl ?_ (by decide) ?_ ?_ (by simp) ?_ <;> simp only [ag,ah,go_sem]
 | false=>
 have Is:¬ j.phase=1:=by simpa using hp1
 rw [if_neg Is]
 simp only [go_sem]
 cases hp2:(j.phase==2) with
 | true=>
   have hp2':j.phase=2:=by simpa using hp2
   rw [if_pos hp2']
   simp only [go_sem]
   refine av [0,1,2,5,4] (work) rfl ?_ (by decide) ?_ ?_ (by simp) ?_ <;> simp only [ag,ah,go_sem]
 | false=>
 have hp2':¬ j.phase=2:=by simpa using hp2
 rw [if_neg hp2']
 simp only [go_sem]
 cases hp3:(j.phase==3) with
 | true=>
   have Z5:j.phase=3:=by simpa using hp3
   rw [if_pos Z5]
   simp only [go_sem]
   refine dV [0,1,2] (rF s r 3 aQ) rfl ?_ (by decide) ?_ ?_ (by simp) ?_ <;> simp only [ag,ah,go_sem]
   refine dV [0,1,2,6] (kept) rfl ?_ (by decide) ?_ ?_ (by simp) ?_ <;> simp only [ag,ah,go_sem]
   refine au (by decide) ?_
   simp only [go_sem]
   cases he:decide (j.epoch<j.inc) with
   | true=>
     rw [if_pos (of_decide_eq_true he)]
     simp only [go_sem]
   | false=>
     rw [if_neg (of_decide_eq_false he)]
     simp only [go_sem]
 | false=>
 have Z5:¬ j.phase=3:=by simpa using hp3
 rw [if_neg Z5]
 simp only [go_sem]
def nQ (o:Option cA):LV:=.dJ [tO (o.getD ia),.bool o.isSome]
theorem OV (s:aa) (r:List dA) (k:Nat) (hk:k<s.nodes.length) :
  bw Tryz.prog G 243 [aY s,iT r,.int k] [] (nQ (EM s (gv r k) (s.nodes.getD k ai) k)) []:=by
 have hg:=aJ (f:=bY) ai hk
 have hT:=s6 (G:=G) r k
 generalize s.nodes.getD k ai=n at *
 generalize gv r k=m at *
 obtain ⟨up,co,mo,ve,jo⟩:=n
 have hM:=jN (G:=G) s
 unfold EM
 generalize fZ s=ms at *
 refine br Tryz.func243 (by decide) Ty rfl rfl ?_
 simp only [Xc,go_sem]
 simp only [hg,go_sem]
 refine bq (hT) rfl rfl rfl rfl ?_; simp only [go_sem]
 refine au (by decide) ?_
 simp only [go_sem]
 refine ay (PJ m) rfl rfl rfl rfl ?_; simp only [go_sem]
 generalize Kr m=b at *
 cases b with
 | false=>simp only [go_sem,nQ,Option.getD_none,Option.isSome_none]
 | true=>
 have e:∀ A B:Option cA,(if true=false then none else if up=false∧1≤m.version∧m.version≤9 then A else if mo=true∧m.version=ms then B else none)=if (!up&&decide (m.version≥1)&&decide (m.version≤9))=true then A else if (mo&&(m.version==ms))=true then B else none:=fun A B=>by
  simp only [Bool.and_eq_true,Bool.not_eq_true',decide_eq_true_eq,beq_iff_eq,and_assoc,ge_iff_le,Bool.true_eq_false,if_false]
 rw [e]
 cases up <;> cases h2:decide (m.version≥1) <;> cases h3:decide (m.version≤9) <;> cases mo <;> simp only [h2,h3,Bool.true_eq_false,Bool.false_eq_true,go_sem,nQ,Option.getD_none,Option.isSome_none,Option.getD_some,Option.isSome_some]
 all_goals
  refine bq (hM) rfl rfl rfl rfl ?_; simp only [go_sem]
  cases h4:(m.version==ms) <;> simp only [h4,Bool.true_eq_false,Bool.false_eq_true,go_sem,nQ,Option.getD_none,Option.isSome_none,Option.getD_some,Option.isSome_some]
def NU (up:List Bool) (hs:List Int) (bZ now:Int) (k:Nat):St:=⟨[(0,.d (.dH 1 (up.map fun b=>[bl b]))),(1,.d (.dH 1 (hs.map fun h=>[i64 h]))),(2,.int bZ),(3,.int now),(14,.int (min up.length hs.length:Nat)),(15,.int k)],[]⟩
theorem Hq (up:List Bool) (hs:List Int) (bZ now:Int) (hu:up.length≤50) (hh:hs.length≤50) (hl:0≤bZ∧bZ≤1000000) (hT:∀ h∈hs,0≤h∧h≤1000000) :
  bw Tryz.prog G 198 [.d (.dH 1 (up.map fun b=>[bl b])),.d (.dH 1 (hs.map fun h=>[i64 h])),.int bZ,.int now] [] (.int (mJ bZ now up hs 0)) []:=by
 refine br Tryz.func198 (by decide) TV rfl rfl ?_
 simp only [XA,go_sem]
 generalize hr:mJ bZ now up hs 0=r
 have hm:(if (hs.length:Int)<(up.length:Int) then (hs.length:Int) else (up.length:Int))=((min up.length hs.length:Nat):Int):=by split <;> omega
 refine aW [0,1,2,3,14,15] [] (fun k:Nat=>k≤min up.length hs.length∧mJ bZ now (up.drop k) (hs.drop k) k=r) (fun k=>min up.length hs.length-k) (NU up hs bZ now) 0 ?_ ⟨Nat.zero_le _,hr⟩ ?_
 ·simp only [NU,go_sem,hm,Int.natCast_zero]
 rintro k ⟨hk,hF⟩
 simp only [NU,go_sem]
 refine bx (fun h=>?_) (fun h=>?_)
 ·have h:=eN h
  have wg:k<up.length:=by omega
  have hk2:k<hs.length:=by omega
  rw [List.drop_eq_getElem_cons wg,List.drop_eq_getElem_cons hk2,mJ] at hF
  have hg1:=get_map (f:=fun b:Bool=>[bl b]) wg
  have hg2:=get_map (f:=fun h:Int=>[i64 h]) hk2
  have hb:=hT hs[k] (List.getElem_mem hk2)
  generalize up[k]=u at *
  generalize hs[k]=x at *
  have hw:IntKind.i64.wrap (x+bZ)=x+bZ:=aN (by omega) (by omega)
  simp only [hg1,hg2,go_sem]
  cases u with
  | false=>
    simp only [Bool.false_eq_true,false_and,if_false] at hF
    simp only [go_sem]
    refine a_ (k+1) ?_ ?_ ⟨h,by rw [Int.natCast_add]; exact hF⟩ (by omega)
    ·simp only [go_sem]
    ·simp only [NU,go_sem,aG (show k<9223372036854775807 by omega)]
  | true=>
    simp only [hw,hg2,go_sem]
    cases h5:decide (now≥x+bZ) with
    | true=>
      have h5':x+bZ≤now:=of_decide_eq_true h5
      rw [if_pos ⟨rfl,h5'⟩] at hF
      simp only [go_sem,← hF]
    | false=>
      have h5':¬ x+bZ≤now:=of_decide_eq_false h5
      rw [if_neg (fun h=>h5' h.2)] at hF
      simp only [go_sem]
      refine a_ (k+1) ?_ ?_ ⟨h,by rw [Int.natCast_add]; exact hF⟩ (by omega)
      ·simp only [go_sem]
      ·simp only [NU,go_sem,aG (show k<9223372036854775807 by omega)]
 ·have hk2:=eP h hk
  have:mJ bZ now (up.drop k) (hs.drop k) k = -1:=by
   rcases (by omega:up.length≤k∨hs.length≤k) with h | h
   ·rw [List.drop_eq_nil_of_le h]; rfl
   ·rw [List.drop_eq_nil_of_le h]; cases List.drop k up <;> rfl
  rw [this] at hF
  simp only [go_sem,← hF]
def BX (s:aa) (r:List dA) (now:Int):Nat→Option cA
 | 0=>match lJ s r false s.nodes 0 with
   | some o=>some o
   | none=>match lJ s r true s.nodes 0 with
     | some o=>some o
     | none=>su s r now s.jobs 0
 | 1=>match lJ s r true s.nodes 0 with
   | some o=>some o
   | none=>su s r now s.jobs 0
 | _=>su s r now s.jobs 0
def RE:Nat→Bool
 | 0=>false
 | _=>true
theorem Oj (s:aa) (r:List dA) (now:Int) (i:Nat) (hi:i<2):BX s r now i=match lJ s r (RE i) s.nodes 0 with | some o=>some o | none=>BX s r now (i+1):=by
 match i,hi with
 | 0,_=>rfl
 | 1,_=>rfl
theorem RD (i:Nat) (hi:i<2):([.bool false,.bool true]:List LV)[i]? = some (.bool (RE i)):=by
 match i,hi with
 | 0,_=>rfl
 | 1,_=>rfl
def jM (s:aa):List (Option aH):=[some (iY s),some (.box 37 [.int 0,.int 0,.int 0,.int 0,.int 0,.int 0,.int 0])]
def J7 (s:aa) (r:List dA) (now:Int) (i:Nat):St:=⟨[(1,iT r),(2,.int now),(3,.ptr 0 0),(6,.ptr 1 0),(7,.bool false),(17,.agg [.bool false,.bool true]),(18,.int i)],jM s⟩
def Fz (s:aa) (r:List dA) (now:Int) (i k:Nat):St:=⟨[(1,iT r),(2,.int now),(3,.ptr 0 0),(6,.ptr 1 0),(7,.bool false),(9,.bool (RE i)),(17,.agg [.bool false,.bool true]),(18,.int i),(22,bO s.nodes),(23,.int s.nodes.length),(24,.int k)],jM s⟩
def J6 (s:aa) (r:List dA) (now:Int) (k:Nat):St:=⟨[(1,iT r),(2,.int now),(3,.ptr 0 0),(6,.ptr 1 0),(7,.bool false),(46,.int s.jobs.length),(47,.int k)],jM s⟩
theorem Bv (s:aa) (r:List dA) (now:Int) (hn:s.nodes.length≤1000) (hl:s.jobs.length≤1000):bw Tryz.prog G 199 [aY s,iT r,.int now] [] (nQ (nE s r now)) []:=by
 rw [show nE s r now=BX s r now 0 from rfl]
 generalize hr:BX s r now 0=q
 refine br Tryz.func199 (by decide) TU rfl rfl ?_
 simp only [Xz,go_sem]
 refine aW [1,2,3,6,7,17,18] [] (fun i:Nat=>i≤2∧BX s r now i=q) (fun i=>2-i) (J7 s r now) 0 ?_ ⟨by omega,hr⟩ ?_
 ·simp only [J7,jM,go_sem,Int.natCast_zero]
 clear hr
 rintro i ⟨hi,hr⟩
 simp only [J7,jM,go_sem]
 cases hlt:decide ((i:Int)<2) with
 | false=>
   have h3:i=2:=by have:=of_decide_eq_false hlt; omega
   subst h3
   simp only [BX] at hr
   simp only [go_sem]
   refine aW [1,2,3,6,7,46,47] [] (fun k:Nat=>k≤s.jobs.length∧su s r now (s.jobs.drop k) k=q) (fun k=>s.jobs.length-k) (J6 s r now) 0 ?_ ⟨Nat.zero_le _,hr⟩ ?_
   ·simp only [J6,jM,go_sem,Int.natCast_zero]
   clear hr
   rintro k ⟨hk,hF⟩
   simp only [J6,jM,go_sem]
   refine bx (fun h=>?_) (fun h=>?_)
   ·have h:=eN h
    rw [List.drop_eq_getElem_cons h,su] at hF
    have hT:=QB (G:=G) s r ((k+1:Nat):Int) now hl (by omega) (by omega)
    rw [show (((k+1:Nat):Int)-1).toNat=k by omega,show s.jobs.getD k az=s.jobs[k] by simp [List.getD,h]] at hT
    rw [show (k:Int)+1=((k+1:Nat):Int) from rfl] at hF
    generalize CF s r ((k+1:Nat):Int) now s.jobs[k]=p at *
    obtain ⟨⟨o1,o2,o3,o4,o5,o6,o7⟩,b⟩:=p
    unfold NT at hF
    simp only [aG (show k<9223372036854775807 by omega),go_sem]
    refine ay (hT) rfl rfl rfl rfl ?_; simp only [go_sem]
    cases b with
    | true=>
      simp only [if_true] at hF
      subst hF
      simp only [go_sem,nQ,Option.getD_some,Option.isSome_some]
    | false=>
      simp only [Bool.false_eq_true,if_false] at hF
      simp only [go_sem]
      refine a_ (k+1) ?_ ?_ ⟨h,hF⟩ (by omega)
      ·simp only [go_sem]
      ·simp only [J6,jM,go_sem,aG (show k<9223372036854775807 by omega)]
   ·obtain rfl:=eP h hk
    rw [List.drop_length,su] at hF
    subst hF
    simp only [go_sem,nQ,Option.getD_none,Option.isSome_none]
 | true=>
 have h3:i<2:=by have:=of_decide_eq_true hlt; omega
 rw [Oj s r now i h3] at hr
 have hg:=RD i h3
 simp only [go_sem] at hg
 simp only [go_sem,hg,h3]
 generalize Vg:lJ s r (RE i) s.nodes 0=q2 at hr
 refine aW [1,2,3,6,7,9,17,18,22,23,24] [] (fun k:Nat=>k≤s.nodes.length∧lJ s r (RE i) (s.nodes.drop k) k=q2) (fun k=>s.nodes.length-k) (Fz s r now i) 0 ?_ ⟨Nat.zero_le _,Vg⟩ ?_
 ·simp only [Fz,jM,go_sem,Int.natCast_zero]
 clear Vg
 rintro k ⟨hk,hF⟩
 simp only [Fz,jM,go_sem]
 refine bx (fun h=>?_) (fun h=>?_)
 ·have h:=eN h
  rw [List.drop_eq_getElem_cons h,lJ] at hF
  have hT:=OV (G:=G) s r k h
  rw [show s.nodes.getD k ai=s.nodes[k] by simp [List.getD,h]] at hT
  have hg:=get_map (f:=bY) h
  generalize EM s (gv r k) s.nodes[k] k=p at *
  generalize s.nodes[k]=n at *
  obtain ⟨up,co,mo,ve,jo⟩:=n
  simp only [hg,go_sem]
  cases hu:(up==RE i) with
  | false=>
    have hu':¬ up=RE i:=by simpa using hu
    rw [if_neg hu'] at hF
    simp only [go_sem]
    refine a_ (k+1) ?_ ?_ ⟨h,hF⟩ (by omega)
    ·simp only [go_sem]
    ·simp only [Fz,jM,go_sem,aG (show k<9223372036854775807 by omega)]
  | true=>
  have hu':up=RE i:=by simpa using hu
  rw [if_pos hu'] at hF
  simp only [go_sem]
  cases p with
  | none=>
    replace hF:lJ s r (RE i) (List.drop (k+1) s.nodes) (k+1)=q2:=hF
    replace hT:bw Tryz.prog G 243 [aY s,iT r,.int k] [] (.dJ [tO ia,.bool false]) []:=hT
    refine ay (hT) rfl rfl rfl rfl ?_; simp only [go_sem]
    refine a_ (k+1) ?_ ?_ ⟨h,hF⟩ (by omega)
    ·simp only [go_sem]
    ·simp only [Fz,jM,go_sem,aG (show k<9223372036854775807 by omega)]
  | some o=>
    replace hF:some o=q2:=hF
    subst hF
    replace hr:some o=q:=hr
    subst hr
    replace hT:bw Tryz.prog G 243 [aY s,iT r,.int k] [] (.dJ [tO o,.bool true]) []:=hT
    obtain ⟨o1,o2,o3,o4,o5,o6,o7⟩:=o
    refine ay (hT) rfl rfl rfl rfl ?_; simp only [go_sem]
    simp only [go_sem,nQ,Option.getD_some,Option.isSome_some]
 ·obtain rfl:=eP h hk
  rw [List.drop_length,lJ] at hF
  subst hF
  simp only [go_sem]
  refine a_ (i+1) ?_ ?_ ⟨h3,hr⟩ (by omega)
  ·simp only [go_sem]
  ·simp only [J7,jM,go_sem,aG (show i<9223372036854775807 by omega)]
end Dv
