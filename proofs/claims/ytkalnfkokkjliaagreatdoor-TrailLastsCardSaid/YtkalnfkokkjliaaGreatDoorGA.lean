/- part -/
import Derived.Test.YtkalnfkokkjliaaGreatDoorDB
import Derived.Test.YtkalnfkokkjliaaGreatDoorPA
import Derived.Test.YtkalnfkokkjliaaGreatDoorRA
set_option linter.all false
set_option maxRecDepth 100000
namespace Dv
open Go Go.Proofs
variable {G:Nat→Option (List DV)}
def Wd:=qx Tryz.f277
theorem SA:aj Tryz.prog Tryz.f277=some Wd:=by kernel_rfl
def Wc:=qx Tryz.f278
theorem Sz:aj Tryz.prog Tryz.f278=some Wc:=by kernel_rfl
def V0:Nat×C×List RV:=(53,
(.seq (.qV [qo 5 (.box 30 (.t 0)),
 qo 10 (.mv qf)])
 (.seq (.qV [qm 12 1,
 qm 13 2,
 qo 14 (.call (.f 277) [(.t 12),(.t 13)]),
 qo 11 (.new 87 [q0,q0,q0,q0,q0,q0,q0,q0,q0,q0,q0]),
 qn (.st 11 (.t 11) (.t 14))])
 (.seq (.nq [qo 15 (.iB 1 (.t 11)),
 qd 16 (.ld1 (.t 15)) [0],
 qd 17 (.bin .eql (.t 16) (qk 6)) [1,0],
 qd 18 (.mv (.t 17)) [2,1,0],
 qe 19 (.mv (.t 4)) 18 true [3,2,1,0],
 qe 20 (.bin .geq (.t 19) (qk 1)) 18 true [4,3,2,1,0],
 qd 21 (.pick (.t 18) (.t 20) qf) [3,2,1,0,5,4],
 qd 22 (.mv (.t 21)) [6,3,2,1,0,5,4],
 qe 23 (.mv (.t 4)) 22 true [7,6,3,2,1,0,5,4],
 qe 24 (.iB 1 (.t 5)) 22 true [7,6,3,2,1,0,5,4],
 qe 25 (.ld1 (.t 24)) 22 true [9,7,6,3,2,1,0,5,4],
 qe 26 (.len (.t 25)) 22 true [10,9,7,6,3,2,1,0,5,4],
 qe 27 (.bin .leq (.t 23) (.t 26)) 22 true [8,7,6,3,2,1,0,5,4,11,10,9],
 qd 28 (.pick (.t 22) (.t 27) qf) [7,6,3,2,1,0,5,4,12,8,11,10,9],
 qd 29 (.mv (.t 28)) [13,7,6,3,2,1,0,5,4,12,8,11,10,9],
 qe 30 (.iB 9 (.t 11)) 29 true [14,13,7,6,3,2,1,0,5,4,12,8,11,10,9],
 qe 31 (.ld1 (.t 30)) 29 true [15,14,13,7,6,3,2,1,0,5,4,12,8,11,10,9],
 qe 32 (.mv (.t 3)) 29 true [14,13,7,6,3,2,1,0,5,4,12,8,11,10,9],
 qe 33 (.bin .eql (.t 31) (.t 32)) 29 true [16,15,14,13,7,6,3,2,1,0,5,4,12,8,11,10,9,17],
 qd 34 (.pick (.t 29) (.t 33) qf) [14,13,7,6,3,2,1,0,5,4,12,8,11,10,9,18,16,15,17],
 qd 35 (.mv (.t 34)) [19,14,13,7,6,3,2,1,0,5,4,12,8,11,10,9,18,16,15,17],
 qe 36 (.iB 4 (.t 11)) 35 true [20,19,14,13,7,6,3,2,1,0,5,4,12,8,11,10,9,18,16,15,17],
 qe 37 (.ld1 (.t 36)) 35 true [21,20,19,14,13,7,6,3,2,1,0,5,4,12,8,11,10,9,18,16,15,17],
 qe 38 (.mv (.t 4)) 35 true [20,19,14,13,7,6,3,2,1,0,5,4,12,8,11,10,9,18,16,15,17],
 qe 39 (.bin .eql (.t 37) (.t 38)) 35 true [22,21,20,19,14,13,7,6,3,2,1,0,5,4,12,8,11,10,9,18,16,15,17,23],
 qd 40 (.pick (.t 35) (.t 39) qf) [20,19,14,13,7,6,3,2,1,0,5,4,12,8,11,10,9,18,16,15,17,24,22,21,23],
 qd 41 (.mv (.t 40)) [25,20,19,14,13,7,6,3,2,1,0,5,4,12,8,11,10,9,18,16,15,17,24,22,21,23],
 qe 42 (.iB 5 (.t 11)) 41 true [26,25,20,19,14,13,7,6,3,2,1,0,5,4,12,8,11,10,9,18,16,15,17,24,22,21,23],
 qe 43 (.ld1 (.t 42)) 41 true [27,26,25,20,19,14,13,7,6,3,2,1,0,5,4,12,8,11,10,9,18,16,15,17,24,22,21,23],
 qe 44 (.iB 1 (.t 5)) 41 true [26,25,20,19,14,13,7,6,3,2,1,0,5,4,12,8,11,10,9,18,16,15,17,24,22,21,23],
 qe 45 (.ld1 (.t 44)) 41 true [29,26,25,20,19,14,13,7,6,3,2,1,0,5,4,12,8,11,10,9,18,16,15,17,24,22,21,23],
 qe 46 (.mv (.t 4)) 41 true [26,25,20,19,14,13,7,6,3,2,1,0,5,4,12,8,11,10,9,18,16,15,17,24,22,21,23],
 qe 47 (.bin .sub (.t 46) (qk 1)) 41 true [31,26,25,20,19,14,13,7,6,3,2,1,0,5,4,12,8,11,10,9,18,16,15,17,24,22,21,23],
 qe 48 (.QJ 12 (.t 45) (.t 47)) 41 true [30,29,26,25,20,19,14,13,7,6,3,2,1,0,5,4,12,8,11,10,9,18,16,15,17,24,22,21,23,32,31],
 qe 49 (.iB 7 (.t 48)) 41 true [33,30,29,26,25,20,19,14,13,7,6,3,2,1,0,5,4,12,8,11,10,9,18,16,15,17,24,22,21,23,32,31],
 qe 50 (.ld1 (.t 49)) 41 true [34,33,30,29,26,25,20,19,14,13,7,6,3,2,1,0,5,4,12,8,11,10,9,18,16,15,17,24,22,21,23,32,31],
 qe 51 (.bin .eql (.t 43) (.t 50)) 41 true [28,27,26,25,20,19,14,13,7,6,3,2,1,0,5,4,12,8,11,10,9,18,16,15,17,24,22,21,23,35,34,33,30,29,32,31],
 qd 52 (.pick (.t 41) (.t 51) qf) [26,25,20,19,14,13,7,6,3,2,1,0,5,4,12,8,11,10,9,18,16,15,17,24,22,21,23,36,28,27,35,34,33,30,29,32,31],
 qd 10 (.mv (.t 52)) [37,26,25,20,19,14,13,7,6,3,2,1,0,5,4,12,8,11,10,9,18,16,15,17,24,22,21,23,36,28,27,35,34,33,30,29,32,31]])
 .ret))),
[(.t 10)])
theorem Sw:aj Tryz.prog Tryz.f281=some V0:=by kernel_rfl
def Wa:=qx Tryz.f279
theorem Sy:aj Tryz.prog Tryz.f279=some Wa:=by kernel_rfl
def V_:=qx Tryz.f280
theorem Sx:aj Tryz.prog Tryz.f280=some V_:=by kernel_rfl
def VZ:=qx Tryz.f283
theorem Sv:aj Tryz.prog Tryz.f283=some VZ:=by kernel_rfl
def VY:=qx Tryz.f284
theorem Su:aj Tryz.prog Tryz.f284=some VY:=by kernel_rfl
theorem sI (r:List eH) (i:Int):bh Tryz.prog G 277 [jr r,.int i] [] (EY (gj r i)) []:=by
 have hg:i.toNat<r.length→(r.map rK)[i.toNat]? = some (rK (r.getD i.toNat jQ)):=fun h=>aK (f:=rK) jQ h
 unfold gj
 generalize r.getD i.toNat jQ=m at *
 refine bn Tryz.func277 (by decide) SA rfl rfl ?_
 simp only [Wd,go_sem]
 cases h1:decide (i<0) with
 | true=>
   have vn:i<0:=of_decide_eq_true h1
   simp only [vn,go_sem]
 | false=>
 have vn:¬ i<0:=of_decide_eq_false h1
 simp only [vn,false_or,go_sem]
 cases h2:decide (i≥(r.length:Int)) with
 | true=>
   have Gj:(r.length:Int)≤i:=of_decide_eq_true h2
   simp only [Gj,go_sem]
 | false=>
 have Gj:¬ (r.length:Int)≤i:=of_decide_eq_false h2
 have h0:0≤i:=by omega
 have hg:=hg (by omega)
 rw [if_neg Gj]
 simp only [h0,Gj,hg,go_sem]
 cases h3:(m.kind !=6) with
 | true=>
   have HV:¬ m.kind=6:=by simpa using h3
   rw [if_neg HV]
   simp only [go_sem]
 | false=>
   have HV:m.kind=6:=by simpa using h3
   rw [if_pos HV]
   simp only [h0,Gj,hg,go_sem]
theorem O5 (m:eH):bh Tryz.prog G 278 [EY m] [] (.bool (JN m)) []:=by
 refine bn Tryz.func278 (by decide) Sz rfl rfl ?_
 simp only [Wc,go_sem]
 unfold JN
 repeat' (first | ((first | with_reducible refine ek (fun h=>?_) (fun h=>?_) | refine di (fun h=>?_) (fun h=>?_)) <;> simp only [h,go_sem]) | ((first | with_reducible refine AL (fun h=>?_) (fun h=>?_) | refine gM (fun h=>?_) (fun h=>?_)) <;> simp only [h,go_sem]))
theorem Np (s:aa) (r:List eH) (node mode aM:Int) (hl:s.jobs.length≤1000):bh Tryz.prog G 281 [aY s,jr r,.int node,.int mode,.int aM] [] (.bool (ku s r node mode aM)) []:=by
 unfold ku
 have hg:(aM-1).toNat<s.jobs.length→(s.jobs.map dF)[(aM-1).toNat]? = some (dF (s.jobs.getD (aM-1).toNat aD)):=fun h=>aK (f:=dF) aD h
 generalize s.jobs.getD (aM-1).toNat aD=j at *
 refine bn Tryz.func281 (by decide) Sw rfl rfl ?_
 simp only [V0,go_sem]
 refine ax (sI r node) rfl rfl rfl rfl ?_; simp only [go_sem]
 generalize gj r node=m at *
 cases h1:(m.kind==6) <;> simp only [h1,go_sem]
 cases h2:decide (aM≥1) with
 | false=>simp only [h2,show decide (1≤aM)=false from h2,go_sem]
 | true=>
 simp only [h2,show decide (1≤aM)=true from h2,go_sem]
 cases h3:decide (aM≤(s.jobs.length:Int)) <;> simp only [h3,go_sem]
 cases h4:(m.mode==mode) <;> simp only [h4,go_sem]
 cases h5:(m.aM==aM) <;> simp only [h5,go_sem]
 have Gj:1≤aM:=of_decide_eq_true h2
 have HV:aM≤s.jobs.length:=of_decide_eq_true h3
 have h4':0≤aM-1:=by omega
 have hw:IntKind.i64.wrap (aM-1)=aM-1:=aL (by omega) (by omega)
 have hg:=hg (by omega)
 simp only [hw,hg,h4',go_sem]
def iQ (s:aa):aC:=.box 30 [bS s.nodes,de s.jobs,.int s.goal,.int s.prior,.int s.mode,.int s.term]
def rB (r:List eH):aC:=.box 94 [jr r]
def qs (x:Int):aC:=.box 3 [.int x]
def wE:aC:=.box 323 [.fn (.func 279) [] [.ptr 0 0,.ptr 1 0,.ptr 2 0]]
def OK (j:bP):aC:=.box 119 [.int j.queue,.int j.prio,.int j.min,.int j.max,.int j.work,.int j.pin,.int j.phase,.int j.inc,.int j.nodes,.int j.since,.int j.til,.int j.epoch]
attribute [local go_sem] iQ rB qs wE OK
theorem nX (s:aa) (r:List eH) (node mode aM:Int) (hl:s.jobs.length≤1000) :
  bh Tryz.prog G 280 [.int node,.ptr 0 0,.ptr 1 0,.ptr 3 0,.ptr 2 0] [iQ s,rB r,qs aM,qs mode] (.bool (ku s r node mode aM)) [iQ s,rB r,qs aM,qs mode]:=by
 refine Cz Tryz.func280 (by decide) Sx rfl rfl rfl rfl ?_
 simp only [V_,go_sem]
 refine ax (Np s r node mode aM hl) rfl rfl rfl rfl ?_; simp only [go_sem]
theorem qR (s:aa) (r:List eH) (mode aM:Int) :
  bh Tryz.prog G 279 [.int mode,.ptr 0 0,.ptr 1 0,.ptr 2 0] [iQ s,rB r,qs aM] (.fn (.func 280) [] [.ptr 0 0,.ptr 1 0,.ptr 3 0,.ptr 2 0]) [iQ s,rB r,qs aM,qs mode]:=by
 refine cA Tryz.func279 (by decide) Sy rfl ?_
 simp only [Wa,go_sem]
 refine dm [] [0,1,2,3] [] rfl rfl (by decide) (by simp) (by simp) rfl rfl ?_
 show ah _ _ _ (.fn (.func 280) [] [.ptr 0 0,.ptr 1 0,.ptr 3 0,.ptr 2 0]) _
 simp [ah,ag]
theorem Mb (s:aa) (r:List eH) (node aM:Int) (hl:s.jobs.length≤1000) :
  bh Tryz.prog G 283 [.int node,.ptr 3 0] [iQ s,rB r,qs aM,wE] (.bool (ku s r node 1 aM||ku s r node 2 aM)) [iQ s,rB r,qs aM,wE]:=by
 refine aQ Tryz.func283 (by decide) Sv rfl rfl rfl rfl ?_
 simp only [VZ,go_sem]
 refine av [0,1,2] (qR s r 1 aM) rfl ?_ (by decide) ?_ ?_ (by simp) ?_ <;> simp only [ag,ah,go_sem]
 refine av [0,1,2,4] (nX s r node 1 aM hl) rfl ?_ (by decide) ?_ ?_ (by simp) ?_ <;> simp only [ag,ah,go_sem]
 cases h1:ku s r node 1 aM with
 | true=>simp only [go_sem]
 | false=>
 simp only [go_sem]
 refine av [0,1,2] (qR s r 2 aM) rfl ?_ (by decide) ?_ ?_ (by simp) ?_ <;> simp only [ag,ah,go_sem]
 refine av [0,1,2,5] (nX s r node 2 aM hl) rfl ?_ (by decide) ?_ ?_ (by simp) ?_ <;> simp only [ag,ah,go_sem]
theorem Ma (s:aa) (r:List eH) (node aM:Int) (j:bP) (hl:s.jobs.length≤1000) :
  bh Tryz.prog G 284 [.int node,.ptr 3 0,.ptr 1 0,.ptr 4 0] [iQ s,rB r,qs aM,wE,OK j] (.bool (ku s r node 2 aM&&decide (j.work≤(gj r node).work))) [iQ s,rB r,qs aM,wE,OK j]:=by
 refine aQ Tryz.func284 (by decide) Su rfl rfl rfl rfl ?_
 simp only [VY,go_sem]
 refine ei [0,1,2] (qR s r 2 aM) rfl ?_ (by decide) ?_ ?_ (by simp) ?_ <;> simp only [ag,ah,go_sem]
 refine an (by decide) ?_
 simp only [go_sem]
 refine av [0,1,2,5] (nX s r node 2 aM hl) rfl ?_ (by decide) ?_ ?_ (by simp) ?_ <;> simp only [ag,ah,go_sem]
 cases h1:ku s r node 2 aM with
 | false=>
   simp only [go_sem]
 | true=>
 simp only [go_sem]
 refine aU (sI r node) rfl rfl rfl rfl ?_; simp only [go_sem]
end Dv
namespace Dv
open Go Go.Proofs
variable {G:Nat→Option (List DV)}
def Ws:=qx Tryz.f244
theorem SQ:aj Tryz.prog Tryz.f244=some Ws:=by kernel_rfl
def Wt:=qx Tryz.f243
theorem SR:aj Tryz.prog Tryz.f243=some Wt:=by kernel_rfl
def WW:=qx Tryz.f199
theorem Tk:aj Tryz.prog Tryz.f199=some WW:=by kernel_rfl
def WX:=qx Tryz.f198
theorem Tl:aj Tryz.prog Tryz.f198=some WX:=by kernel_rfl
attribute [local go_sem] iQ rB qs wE OK
theorem Me (m:Int) (tk:Nat→Bool):s6 m (fun i=>tk i.val)=oF m tk:=by
 simp only [s6,oF,fc,show List.range 6=[0,1,2,3,4,5] from rfl,List.all_cons,List.all_nil,List.all_append]
 simp only [show (0:Nat)<6 from by decide,show (1:Nat)<6 from by decide,show (2:Nat)<6 from by decide,show (3:Nat)<6 from by decide,show (4:Nat)<6 from by decide,show (5:Nat)<6 from by decide,dite_true]
 cases hasB m 0 <;> cases hasB m 1 <;> cases hasB m 2 <;> cases hasB m 3 <;> cases hasB m 4 <;> cases hasB m 5 <;> (first | rfl | (simp only [Bool.and_true,Bool.true_and,Bool.false_or,Bool.not_true,Bool.not_false,Bool.true_or,List.all_cons,List.all_nil,Bool.and_assoc,if_true,Bool.false_eq_true,if_false,ite_true,ite_false] <;> rfl))
theorem s7 (j:bP) (t:Nat) (first caps:List LV) (af:List aC) (hno:((af.map some).all fun x=>match x with | some (.mp _)=>false | _=>true)=true) (tk:Nat→Bool) (hT:∀ i:Nat,bh Tryz.prog G t (first++[.int i]++caps) af (.bool (tk i)) af) :
  bh Tryz.prog G 282 [Dg j,.fn (.func t) first caps] af (.bool (oF j.nodes tk)) af:=by
 rw [← Me]
 exact Md j t first caps af hno (fun i=>tk i.val) (fun i=>hT i.val)
theorem PS (s:aa) (r:List eH) (aM now:Int) (hl:s.jobs.length≤1000) (h1:1≤aM) (h2:aM≤s.jobs.length) :
  bh Tryz.prog G 244 [aY s,jr r,.int aM,.int now] [] (.dH [tA (Cd s r aM now (s.jobs.getD (aM-1).toNat aD)).1,.bool (Cd s r aM now (s.jobs.getD (aM-1).toNat aD)).2]) []:=by
 have hg:=aK (f:=dF) aD (show (aM-1).toNat<s.jobs.length by omega)
 generalize s.jobs.getD (aM-1).toNat aD=j at *
 have h4':0≤aM-1:=by omega
 have hw:IntKind.i64.wrap (aM-1)=aM-1:=aL (by omega) (by omega)
 have hold:=s7 (G:=G) j 283 [] [.ptr 3 0] [iQ s,rB r,qs aM,wE] rfl _ (fun i=>Mb s r i aM hl)
 have work:=s7 (G:=G) j 284 [] [.ptr 3 0,.ptr 1 0,.ptr 4 0] [iQ s,rB r,qs aM,wE,OK j] rfl _ (fun i=>Ma s r i aM j hl)
 have kept:=s7 (G:=G) j 280 [] [.ptr 0 0,.ptr 1 0,.ptr 3 0,.ptr 2 0] [iQ s,rB r,qs aM,qs 3] rfl _ (fun i=>nX s r i 3 aM hl)
 unfold Cd
 generalize oF j.nodes (fun i=>ku s r i 1 aM||ku s r i 2 aM)=e1 at *
 generalize oF j.nodes (fun i=>ku s r i 2 aM&&decide (j.work≤(gj r i).work))=e2 at *
 generalize oF j.nodes (fun i=>ku s r i 3 aM)=e3 at *
 refine bn Tryz.func244 (by decide) SQ rfl rfl ?_
 simp only [Ws,go_sem]
 simp only [hw,hg,h4',go_sem]
 cases hp1:(j.phase==1) with
 | true=>
   have HL:j.phase=1:=by simpa using hp1
   rw [if_pos HL]
   simp only [go_sem]
   refine av [0,1,2,5] (hold) rfl ?_ (by decide) ?_ ?_ (by simp) ?_ <;> simp only [ag,ah,go_sem]
 | false=>
 have HL:¬ j.phase=1:=by simpa using hp1
 rw [if_neg HL]
 simp only [go_sem]
 cases hp2:(j.phase==2) with
 | true=>
   have hp2':j.phase=2:=by simpa using hp2
   rw [if_pos hp2']
   simp only [go_sem]
   refine av [0,1,2,5,4] (work) rfl ?_ (by decide) ?_ ?_ (by simp) ?_ <;> simp only [ag,ah,go_sem]
 | false=>
 have hp2':¬ j.phase=2:=by simpa using hp2
 rw [if_neg hp2']
 simp only [go_sem]
 cases hp3:(j.phase==3) with
 | true=>
   have Zv:j.phase=3:=by simpa using hp3
   rw [if_pos Zv]
   simp only [go_sem]
   refine ei [0,1,2] (qR s r 3 aM) rfl ?_ (by decide) ?_ ?_ (by simp) ?_ <;> simp only [ag,ah,go_sem]
   refine ei [0,1,2,6] (kept) rfl ?_ (by decide) ?_ ?_ (by simp) ?_ <;> simp only [ag,ah,go_sem]
   refine an (by decide) ?_
   simp only [go_sem]
   cases he:decide (j.epoch<j.inc) with
   | true=>
     rw [if_pos (of_decide_eq_true he)]
     simp only [go_sem]
   | false=>
     rw [if_neg (of_decide_eq_false he)]
     simp only [go_sem]
 | false=>
 have Zv:¬ j.phase=3:=by simpa using hp3
 rw [if_neg Zv]
 simp only [go_sem]
def nA (o:Option bT):LV:=.dH [tA (o.getD cU),.bool o.isSome]
theorem Om (s:aa) (r:List eH) (k:Nat) (hk:k<s.nodes.length) :
  bh Tryz.prog G 243 [aY s,jr r,.int k] [] (nA (Eb s (gj r k) (s.nodes.getD k ai) k)) []:=by
 have hg:=aK (f:=bX) ai hk
 have hT:=sI (G:=G) r k
 generalize s.nodes.getD k ai=n at *
 generalize gj r k=m at *
 obtain ⟨up,co,mo,ve,jo⟩:=n
 have hM:=jH (G:=G) s
 unfold Eb
 generalize fM s=ms at *
 refine bn Tryz.func243 (by decide) SR rfl rfl ?_
 simp only [Wt,go_sem]
 simp only [hg,go_sem]
 refine aU (hT) rfl rfl rfl rfl ?_; simp only [go_sem]
 refine an (by decide) ?_
 simp only [go_sem]
 refine ax (O5 m) rfl rfl rfl rfl ?_; simp only [go_sem]
 generalize JN m=b at *
 cases b with
 | false=>simp only [go_sem,nA,Option.getD_none,Option.isSome_none]
 | true=>
 have e:∀ A B:Option bT,(if true=false then none else if up=false∧1≤m.version∧m.version≤9 then A else if mo=true∧m.version=ms then B else none)=if (!up&&decide (m.version≥1)&&decide (m.version≤9))=true then A else if (mo&&(m.version==ms))=true then B else none:=fun A B=>by
  simp only [Bool.and_eq_true,Bool.not_eq_true',decide_eq_true_eq,beq_iff_eq,and_assoc,ge_iff_le,Bool.true_eq_false,if_false]
 rw [e]
 cases up <;> cases h2:decide (m.version≥1) <;> cases h3:decide (m.version≤9) <;> cases mo <;> simp only [h2,h3,Bool.true_eq_false,Bool.false_eq_true,go_sem,nA,Option.getD_none,Option.isSome_none,Option.getD_some,Option.isSome_some]
 all_goals
  refine aU (hM) rfl rfl rfl rfl ?_; simp only [go_sem]
  cases h4:(m.version==ms) <;> simp only [h4,Bool.true_eq_false,Bool.false_eq_true,go_sem,nA,Option.getD_none,Option.isSome_none,Option.getD_some,Option.isSome_some]
def Nk (up:List Bool) (hs:List Int) (cr now:Int) (k:Nat):St:=⟨[(0,.d (.dK 1 (up.map fun b=>[bl b]))),(1,.d (.dK 1 (hs.map fun h=>[i64 h]))),(2,.int cr),(3,.int now),(14,.int (min up.length hs.length:Nat)),(15,.int k)],[]⟩
theorem GH (up:List Bool) (hs:List Int) (cr now:Int) (hu:up.length≤50) (hh:hs.length≤50) (hl:0≤cr∧cr≤1000000) (hT:∀ h∈hs,0≤h∧h≤1000000) :
  bh Tryz.prog G 198 [.d (.dK 1 (up.map fun b=>[bl b])),.d (.dK 1 (hs.map fun h=>[i64 h])),.int cr,.int now] [] (.int (mq cr now up hs 0)) []:=by
 refine bn Tryz.func198 (by decide) Tl rfl rfl ?_
 simp only [WX,go_sem]
 generalize hr:mq cr now up hs 0=r
 have hm:(if (hs.length:Int)<(up.length:Int) then (hs.length:Int) else (up.length:Int))=((min up.length hs.length:Nat):Int):=by split <;> omega
 refine aR [0,1,2,3,14,15] [] (fun k:Nat=>k≤min up.length hs.length∧mq cr now (up.drop k) (hs.drop k) k=r) (fun k=>min up.length hs.length-k) (Nk up hs cr now) 0 ?_ ⟨Nat.zero_le _,hr⟩ ?_
 ·simp only [Nk,go_sem,hm,Int.natCast_zero]
 rintro k ⟨hk,hF⟩
 simp only [Nk,go_sem]
 refine bp (fun h=>?_) (fun h=>?_)
 ·have h:=eA h
  have vS:k<up.length:=by omega
  have hk2:k<hs.length:=by omega
  rw [List.drop_eq_getElem_cons vS,List.drop_eq_getElem_cons hk2,mq] at hF
  have hg1:=get_map (f:=fun b:Bool=>[bl b]) vS
  have hg2:=get_map (f:=fun h:Int=>[i64 h]) hk2
  have hb:=hT hs[k] (List.getElem_mem hk2)
  generalize up[k]=u at *
  generalize hs[k]=x at *
  have hw:IntKind.i64.wrap (x+cr)=x+cr:=aL (by omega) (by omega)
  simp only [hg1,hg2,go_sem]
  cases u with
  | false=>
    simp only [Bool.false_eq_true,false_and,if_false] at hF
    simp only [go_sem]
    refine bg (k+1) ?_ ?_ ⟨h,by rw [Int.natCast_add]; exact hF⟩ (by omega)
    ·simp only [go_sem]
    ·simp only [Nk,go_sem,aG (show k<9223372036854775807 by omega)]
  | true=>
    simp only [hw,hg2,go_sem]
    cases h5:decide (now≥x+cr) with
    | true=>
      have h5':x+cr≤now:=of_decide_eq_true h5
      rw [if_pos ⟨rfl,h5'⟩] at hF
      simp only [go_sem,← hF]
    | false=>
      have h5':¬ x+cr≤now:=of_decide_eq_false h5
      rw [if_neg (fun h=>h5' h.2)] at hF
      simp only [go_sem]
      refine bg (k+1) ?_ ?_ ⟨h,by rw [Int.natCast_add]; exact hF⟩ (by omega)
      ·simp only [go_sem]
      ·simp only [Nk,go_sem,aG (show k<9223372036854775807 by omega)]
 ·have hk2:=eC h hk
  have:mq cr now (up.drop k) (hs.drop k) k = -1:=by
   rcases (by omega:up.length≤k∨hs.length≤k) with h | h
   ·rw [List.drop_eq_nil_of_le h]; rfl
   ·rw [List.drop_eq_nil_of_le h]; cases List.drop k up <;> rfl
  rw [this] at hF
  simp only [go_sem,← hF]
def BA (s:aa) (r:List eH) (now:Int):Nat→Option bT
 | 0=>match kY s r false s.nodes 0 with
   | some o=>some o
   | none=>match kY s r true s.nodes 0 with
     | some o=>some o
     | none=>rO s r now s.jobs 0
 | 1=>match kY s r true s.nodes 0 with
   | some o=>some o
   | none=>rO s r now s.jobs 0
 | _=>rO s r now s.jobs 0
def QY:Nat→Bool
 | 0=>false
 | _=>true
theorem NB (s:aa) (r:List eH) (now:Int) (i:Nat) (hi:i<2):BA s r now i=match kY s r (QY i) s.nodes 0 with | some o=>some o | none=>BA s r now (i+1):=by
 match i,hi with
 | 0,_=>rfl
 | 1,_=>rfl
theorem QX (i:Nat) (hi:i<2):([.bool false,.bool true]:List LV)[i]? = some (.bool (QY i)):=by
 match i,hi with
 | 0,_=>rfl
 | 1,_=>rfl
def jG (s:aa):List (Option aC):=[some (iQ s),some (.box 37 [.int 0,.int 0,.int 0,.int 0,.int 0,.int 0,.int 0])]
def Jt (s:aa) (r:List eH) (now:Int) (i:Nat):St:=⟨[(1,jr r),(2,.int now),(3,.ptr 0 0),(6,.ptr 1 0),(7,.bool false),(17,.agg [.bool false,.bool true]),(18,.int i)],jG s⟩
def ER (s:aa) (r:List eH) (now:Int) (i k:Nat):St:=⟨[(1,jr r),(2,.int now),(3,.ptr 0 0),(6,.ptr 1 0),(7,.bool false),(9,.bool (QY i)),(17,.agg [.bool false,.bool true]),(18,.int i),(22,bS s.nodes),(23,.int s.nodes.length),(24,.int k)],jG s⟩
def Jr (s:aa) (r:List eH) (now:Int) (k:Nat):St:=⟨[(1,jr r),(2,.int now),(3,.ptr 0 0),(6,.ptr 1 0),(7,.bool false),(46,.int s.jobs.length),(47,.int k)],jG s⟩
theorem A8 (s:aa) (r:List eH) (now:Int) (hn:s.nodes.length≤1000) (hl:s.jobs.length≤1000):bh Tryz.prog G 199 [aY s,jr r,.int now] [] (nA (oD s r now)) []:=by
 rw [show oD s r now=BA s r now 0 from rfl]
 generalize hr:BA s r now 0=q
 refine bn Tryz.func199 (by decide) Tk rfl rfl ?_
 simp only [WW,go_sem]
 refine aR [1,2,3,6,7,17,18] [] (fun i:Nat=>i≤2∧BA s r now i=q) (fun i=>2-i) (Jt s r now) 0 ?_ ⟨by omega,hr⟩ ?_
 ·simp only [Jt,jG,go_sem,Int.natCast_zero]
 clear hr
 rintro i ⟨hi,hr⟩
 simp only [Jt,jG,go_sem]
 cases hlt:decide ((i:Int)<2) with
 | false=>
   have h3:i=2:=by have:=of_decide_eq_false hlt; omega
   subst h3
   simp only [BA] at hr
   simp only [go_sem]
   refine aR [1,2,3,6,7,46,47] [] (fun k:Nat=>k≤s.jobs.length∧rO s r now (s.jobs.drop k) k=q) (fun k=>s.jobs.length-k) (Jr s r now) 0 ?_ ⟨Nat.zero_le _,hr⟩ ?_
   ·simp only [Jr,jG,go_sem,Int.natCast_zero]
   clear hr
   rintro k ⟨hk,hF⟩
   simp only [Jr,jG,go_sem]
   refine bp (fun h=>?_) (fun h=>?_)
   ·have h:=eA h
    rw [List.drop_eq_getElem_cons h,rO] at hF
    have hT:=PS (G:=G) s r ((k+1:Nat):Int) now hl (by omega) (by omega)
    rw [show (((k+1:Nat):Int)-1).toNat=k by omega,show s.jobs.getD k aD=s.jobs[k] by simp [List.getD,h]] at hT
    rw [show (k:Int)+1=((k+1:Nat):Int) from rfl] at hF
    generalize Cd s r ((k+1:Nat):Int) now s.jobs[k]=p at *
    obtain ⟨⟨o1,o2,o3,o4,o5,o6,o7⟩,b⟩:=p
    unfold Nj at hF
    simp only [aG (show k<9223372036854775807 by omega),go_sem]
    refine ax (hT) rfl rfl rfl rfl ?_; simp only [go_sem]
    cases b with
    | true=>
      simp only [if_true] at hF
      subst hF
      simp only [go_sem,nA,Option.getD_some,Option.isSome_some]
    | false=>
      simp only [Bool.false_eq_true,if_false] at hF
      simp only [go_sem]
      refine bg (k+1) ?_ ?_ ⟨h,hF⟩ (by omega)
      ·simp only [go_sem]
      ·simp only [Jr,jG,go_sem,aG (show k<9223372036854775807 by omega)]
   ·obtain rfl:=eC h hk
    rw [List.drop_length,rO] at hF
    subst hF
    simp only [go_sem,nA,Option.getD_none,Option.isSome_none]
 | true=>
 have h3:i<2:=by have:=of_decide_eq_true hlt; omega
 rw [NB s r now i h3] at hr
 have hg:=QX i h3
 simp only [go_sem] at hg
 simp only [go_sem,hg,h3]
 generalize UE:kY s r (QY i) s.nodes 0=q2 at hr
 refine aR [1,2,3,6,7,9,17,18,22,23,24] [] (fun k:Nat=>k≤s.nodes.length∧kY s r (QY i) (s.nodes.drop k) k=q2) (fun k=>s.nodes.length-k) (ER s r now i) 0 ?_ ⟨Nat.zero_le _,UE⟩ ?_
 ·simp only [ER,jG,go_sem,Int.natCast_zero]
 clear UE
 rintro k ⟨hk,hF⟩
 simp only [ER,jG,go_sem]
 refine bp (fun h=>?_) (fun h=>?_)
 ·have h:=eA h
  rw [List.drop_eq_getElem_cons h,kY] at hF
  have hT:=Om (G:=G) s r k h
  rw [show s.nodes.getD k ai=s.nodes[k] by simp [List.getD,h]] at hT
  have hg:=get_map (f:=bX) h
  generalize Eb s (gj r k) s.nodes[k] k=p at *
  generalize s.nodes[k]=n at *
  obtain ⟨up,co,mo,ve,jo⟩:=n
  simp only [hg,go_sem]
  cases hu:(up==QY i) with
  | false=>
    have hu':¬ up=QY i:=by simpa using hu
    rw [if_neg hu'] at hF
    simp only [go_sem]
    refine bg (k+1) ?_ ?_ ⟨h,hF⟩ (by omega)
    ·simp only [go_sem]
    ·simp only [ER,jG,go_sem,aG (show k<9223372036854775807 by omega)]
  | true=>
  have hu':up=QY i:=by simpa using hu
  rw [if_pos hu'] at hF
  simp only [go_sem]
  cases p with
  | none=>
    replace hF:kY s r (QY i) (List.drop (k+1) s.nodes) (k+1)=q2:=hF
    replace hT:bh Tryz.prog G 243 [aY s,jr r,.int k] [] (.dH [tA cU,.bool false]) []:=hT
    refine ax (hT) rfl rfl rfl rfl ?_; simp only [go_sem]
    refine bg (k+1) ?_ ?_ ⟨h,hF⟩ (by omega)
    ·simp only [go_sem]
    ·simp only [ER,jG,go_sem,aG (show k<9223372036854775807 by omega)]
  | some o=>
    replace hF:some o=q2:=hF
    subst hF
    replace hr:some o=q:=hr
    subst hr
    replace hT:bh Tryz.prog G 243 [aY s,jr r,.int k] [] (.dH [tA o,.bool true]) []:=hT
    obtain ⟨o1,o2,o3,o4,o5,o6,o7⟩:=o
    refine ax (hT) rfl rfl rfl rfl ?_; simp only [go_sem]
    simp only [go_sem,nA,Option.getD_some,Option.isSome_some]
 ·obtain rfl:=eC h hk
  rw [List.drop_length,kY] at hF
  subst hF
  simp only [go_sem]
  refine bg (i+1) ?_ ?_ ⟨h3,hr⟩ (by omega)
  ·simp only [go_sem]
  ·simp only [Jt,jG,go_sem,aG (show i<9223372036854775807 by omega)]
end Dv
