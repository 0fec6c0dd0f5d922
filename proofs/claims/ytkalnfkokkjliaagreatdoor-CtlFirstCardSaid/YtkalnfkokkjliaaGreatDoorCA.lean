/- The logical machine and its plain laws: parts C1, C2, C3, C4, C5, C6, C7, proved sound. -/
import Derived.Test.YtkalnfkokkjliaaGreatDoorNA
import Derived.Test.YtkalnfkokkjliaaGreatDoorPB
import Derived.Test.YtkalnfkokkjliaaGreatDoorO1
import Derived.Test.YtkalnfkokkjliaaGreatDoorD7
import Derived.Test.YtkalnfkokkjliaaGreatDoorDD
import Derived.Test.YtkalnfkokkjliaaGreatDoorQ9
import Derived.Test.YtkalnfkokkjliaaGreatDoorDA
import Derived.Test.YtkalnfkokkjliaaGreatDoorI9
set_option linter.unusedVariables false
set_option linter.unusedSimpArgs false
namespace Dv
open Go Go.Proofs
variable {G:Nat→Option (List DV)}
def dG (l:List Int):Prop:=∀ c∈l,0≤c∧c≤255
theorem dG.cat {a b:List Int} (ha:dG a) (hb:dG b):dG (a++b):=fun c hc=>(List.mem_append.1 hc).elim (ha c) (hb c)
theorem B_:∀ (f:Nat) (m:Int),0≤m→m<256*128 ^ f→dG (oW f m)
 | 0,m,h,h2=>by
   intro c hc
   unfold oW at hc
   simp only [List.mem_singleton] at hc
   subst hc
   omega
 | f+1,m,h,h2=>by
   intro c hc
   unfold oW at hc
   split at hc
   ·rcases List.mem_cons.1 hc with rfl | hc
    ·omega
    ·refine B_ f _ (by omega) ?_ c hc
     rw [Int.pow_succ] at h2
     omega
   ·simp only [List.mem_singleton] at hc; subst hc; omega
theorem nT (n:Int):dG (cc n):=by
 unfold cc
 split
 ·rename_i h
  unfold isNum jR at h
  rw [decide_eq_true_eq] at h
  exact B_ 8 n h.1 (by omega)
 ·intro c hc; cases hc
theorem yH (l:List Int):dG (lF l):=by
 unfold lF
 split
 ·refine dG.cat (nT _) (fun c hc=>?_)
  obtain ⟨x,_,hx⟩:=List.mem_flatMap.1 hc
  exact nT x c hx
 ·intro c hc; cases hc
theorem SB (n:Int):0≤IntKind.u8.wrap n∧IntKind.u8.wrap n≤255:=by
 show 0≤n % 256∧n % 256≤255
 omega
theorem IC (n:Int):dG (vm n):=by
 intro c hc
 simp only [vm,List.mem_cons,List.not_mem_nil,or_false] at hc
 rcases hc with rfl | rfl | rfl | rfl <;> exact SB _
theorem Bi {p:List Int} (h:dG p):dG (mZ p):=by
 unfold mZ
 split
 ·intro c hc; cases hc
 ·exact (((nT _).cat h).cat (IC _)).cat (fun c hc=>by simp only [List.mem_singleton] at hc; subst hc; omega)
theorem oD {l:List Int} {a:Nat} {b:List Int} (hl:dG l) (hb:dG b):dG (en l a b):=
 dG.cat (dG.cat (fun c hc=>hl c (List.mem_of_mem_take hc)) hb) (fun c hc=>hl c (List.mem_of_mem_drop hc))
theorem uR (n:Nat):dG (List.replicate n 0):=fun c hc=>by rw [List.eq_of_mem_replicate hc]; omega
theorem I_ (o:cH):dG (gT o):=by
 unfold gT
 split
 ·exact yH _
 ·intro c hc; cases hc
theorem Bh (s:aa):dG (mY s):=by
 unfold mY
 split
 ·exact yH _
 ·intro c hc; cases hc
theorem BC (l:List Int):(lF l).length≤9*l.length+9:=by
 unfold lF
 split
 ·have h1:=FC l
  have h2:=gw (l.length:Int)
  rw [List.length_append]; omega
 ·simp
theorem L6 (o:cH):(gT o).length≤90:=by
 unfold gT
 split
 ·have h1:=BC (o.kind::(cV o).take (gX o.kind))
  have h3:(o.kind::(cV o).take (gX o.kind)).length≤7:=by rw [List.length_cons,List.length_take]; simp [cV]; omega
  omega
 ·simp
theorem L7 (s:aa):(mY s).length≤3000:=by
 unfold mY
 split
 ·rename_i h
  have h1:=BC (rA s)
  have h2:(rA s).length≤320:=by
   unfold rA
   rw [List.length_append,yC s (Nat.le_refl _)]
   simp only [List.length_cons,List.length_nil]
   omega
  omega
 ·simp
theorem Gh {l:List Int} {fr sz:Nat} {b:List Int} {cT:Int} (hl:dG l) (hb:dG b):dG (qO l fr sz b cT):=
 oD (oD hl (uR _)) (Bi ((nT _).cat hb))
theorem HL {n:Nat} {l lV:List Int} {cnt:Int} (hl:dG l) (hb:dG lV):dG (FL n l lV cnt):=oD (Gh hl hb) (uR _)
structure mO where
 n:Nat
 l:List Int
 s:Int
 cnt:Int
 cT:Int
 us:Nat
def jO (j:mO):List aD:=uy j.n j.l j.s j.cnt j.cT j.us
structure xx (j:mO):Prop where
 len:j.l.length=j.n
 size:64≤j.n∧j.n≤65536
 XT:dG j.l
 used:j.us≤j.n-2*(j.n / 4)
def mO.room (j:mO) (k:Nat):Bool:=mR j.n j.us j.cnt k
def mO.add (j:mO) (p:List Int):mO:={ j with l:=en j.l (2*(j.n / 4)+j.us) (qV j.cnt p),s:=IntKind.i64.wrap (j.s+1),cnt:=IntKind.i64.wrap (j.cnt+1),us:=j.us+(qV j.cnt p).length }
def mO.Jc (j:mO) (lV:List Int):Int:=if j.cT=j.cnt∨eX j.l 0 (j.n / 4) lV j.cnt≠0 then 3 else 0
def mO.pack (j:mO) (lV:List Int):mO:=if j.cT=j.cnt∨eX j.l 0 (j.n / 4) lV j.cnt≠0 then j else { j with l:=FL j.n j.l lV j.cnt,s:=IntKind.i64.wrap (IntKind.i64.wrap (IntKind.i64.wrap (j.s+1)+1)+1),cT:=j.cnt,us:=0 }
theorem yL (j:mO) (h:xx j) (k:Nat) (hk:k≤900000):bw Tryz.prog G 183 [.ptr 0 0,.int k] (jO j) (.bool (j.room k)) (jO j):=yq j.n j.l j.s j.cnt j.cT j.us k h.len h.size.2 h.used hk
theorem JY (j:mO) (h:xx j) (p:List Int) (hr:j.room p.length=true):bw Tryz.prog G 33 [.ptr 0 0,au p] (jO j) (.int 0) (jO (j.add p)):=BJ j.n j.l j.s j.cnt j.cT j.us p h.len (by have:=h.size; omega) h.used hr
theorem GW (j:mO) (h:xx j) (lV:List Int) (hp:lV.length≤90000):bw Tryz.prog G 31 [.ptr 0 0,au lV] (jO j) (.int (j.Jc lV)) (jO (j.pack lV)):=by
 obtain ⟨n,l,s,cnt,cT,us⟩:=j
 unfold mO.Jc mO.pack
 dsimp only
 by_cases h1:cT=cnt
 ·rw [if_pos (.inl h1),if_pos (.inl h1)]
  subst h1
  exact uB n l s cT us lV
 by_cases h2:eX l 0 (n / 4) lV cnt=0
 ·rw [if_neg (by simp [h1,h2]),if_neg (by simp [h1,h2])]
  exact Cd n l s cnt cT us lV h.len h.size h.XT hp h1 h2
 ·rw [if_pos (.inr h2),if_pos (.inr h2)]
  exact wS n l s cnt cT us lV h.len h.size h.XT hp h1 h2
theorem mO.I3 {j:mO} {p:List Int} (hr:j.room p.length=true):j.us+(qV j.cnt p).length≤j.n-2*(j.n / 4):=by
 unfold mO.room mR qT at hr
 rw [Bool.and_eq_true,decide_eq_true_eq,decide_eq_true_eq] at hr
 have hrl:(cc j.cnt++p).length=p.length+(cc j.cnt).length:=by rw [List.length_append,Nat.add_comm]
 unfold qV
 rw [vD (by omega),hrl]
 omega
theorem xx.add {j:mO} (h:xx j) {p:List Int} (hp:dG p) (hr:j.room p.length=true):xx (j.add p):=by
 have hf:=mO.I3 hr
 have hs:=h.size
 have hlen:=h.len
 refine ⟨?_,h.size,oD h.XT (Bi ((nT _).cat hp)),hf⟩
 show (en j.l (2*(j.n / 4)+j.us) (qV j.cnt p)).length=j.n
 rw [eZ (by omega),h.len]
theorem xx.pack {j:mO} (h:xx j) {lV:List Int} (hp:dG lV):xx (j.pack lV):=by
 have hs:=h.size
 have hlen:=h.len
 unfold mO.pack
 split
 ·exact h
 ·rename_i hc
  refine ⟨?_,h.size,HL h.XT hp,by show 0≤_; omega⟩
  show (en (qO j.l 0 (j.n / 4) lV j.cnt) (2*(j.n / 4)) (List.replicate (j.n-2*(j.n / 4)) 0)).length=j.n
  have CG:=yj (l:=j.l) (sz:=j.n / 4) (b:=lV) (cT:=j.cnt) (by omega) (by simp at hc; exact hc.2)
  rw [eZ (by rw [List.length_replicate]; omega),CG,hlen]
theorem mO.W5 (j:mO) (p:List Int):(j.add p).n=j.n:=rfl
theorem mO.Dm (j:mO) (p:List Int):(j.pack p).n=j.n:=by unfold mO.pack; split <;> rfl
end Dv
namespace Dv
open Go Go.Proofs
variable {G:Nat→Option (List DV)}
structure lS where
 gen:Int
 has:Bool
 order:dc
 sent:Int
 heard:Int
 report:dc
def lW (l:lS):List DV:=[i64 l.gen,bl l.has]++(kV l.order++([i64 l.sent,i64 l.heard]++kV l.report))
structure aQ where
 c:aH
 s:aa
 j:mO
 room:Int
 term:Int
 sh:List ni
 wr:Int
 lines:List lS
 down:Bool
 cr:Int
def dz (x:aQ):aD:=.box 195 [.int x.c.nodes,.int x.c.bG,.int x.c.cD,.int x.c.wave,.int x.c.b_,.int x.c.eE,.int x.c.deadline,.int x.c.room,.int x.c.fG,.ptr 2 0,.ptr 1 0,.ptr 6 0,bZ x.s.nodes,dg x.s.jobs,.int x.s.goal,.int x.s.prior,.int x.s.mode,.int x.s.term,.sl 7 x.lines.length 26 0 x.lines.length,.bool x.down,.int x.cr]
def aX (l:List lS):aD:=.dat 197 26 (l.map lW)
def bH (x:aQ):List aD:=[dz x,.box 160 [.ptr 2 0,.ptr 3 0,.ptr 4 0,.int x.j.cnt,.int x.j.cT],.box 150 [.sl 5 x.j.n 1 0 x.j.n,.d (.val (.slice none 0 0)),.int x.j.s],.box 243 [.ptr 2 0,.int 0,.int ((x.j.n / 4:Nat):Int)],.box 245 [.ptr 2 0,.int ((2*(x.j.n / 4):Nat):Int),.int ((x.j.n-2*(x.j.n / 4):Nat):Int),.int x.j.us],.dat 5 1 (aA x.j.l),.box 190 ([.int x.room,.int x.term]++(x.sh.flatMap pP++[.int x.wr])),aX x.lines]
theorem bS (k:Nat) (hk:8≤k) (x:aQ):(bH x).all (ei k)=true:=by
 have h:∀ i,i<8→i<k:=fun i hi=>by omega
 simp [bH,dz,aX,List.all_cons,List.all_nil,ei,aP,bh,ej,dZ,LV.int,LV.bool,bZ,dg,h]
theorem HJ (s:aa) (hn:s.nodes.length≤1000) (hj:s.jobs.length≤1000):bw Tryz.prog G 73 [bp s] [] (bp s) []:=by
 refine cG Tryz.func73 (by decide) J7 rfl ?_
 simp only [Tv,go_sem,simprocAttr]
 refine iU (wT s.nodes hn) rfl rfl rfl ?_
 simp only [go_sem,simprocAttr]
 refine iU (wU s.jobs hj) rfl rfl rfl ?_
 simp only [go_sem,simprocAttr]
 refine av rfl ?_
 simp only [go_sem,simprocAttr]
 exact dL [2,3] rfl (by simp [St.obj,aB]) (by simp [St.obj,aB,aW,ai,ah,bE,List.take_of_length_le])
def Vi:Nat×C×List RV:=(9,
(.seq (.af [qo 2 (.mv qf)])
 (.seq (.af [qm 3 0,
 qo 4 (.bin .geq (.t 3) (qk 0)),
 qm 5 4,
 qg 6 (.mv (.t 0)) 5 true,
 qg 7 (.bin .leq (.t 6) (qk 1000000)) 5 true,
 qo 8 (.pick (.t 5) (.t 7) qf),
 qm 2 8])
 .ret)),
[(.t 2)])
theorem SX:aq Tryz.prog Tryz.f98=some Vi:=by kernel_rfl
def Fp:Nat×C×List RV:=(58,
(.seq (.af [qo 3 (.box 37 (.t 1)),
 qo 4 (.new 30 [(.val (.slice none 0 0)),(.val (.slice none 0 0)),q0,q0,q0,q0]),
 qo 5 (.mv (.c (.val (.slice none 0 0)))),
 qo 6 (.mv (qk 0))])
 (.seq (.bQ [qm 11 0,
 qd 12 (.aV (.t 11)) [0],
 qd 13 (.aj 0 (.t 12)) [1,0],
 qd 14 (.bP 9 (.t 13)) [2,1,0],
 qm 15 0,
 qd 16 (.aV (.t 15)) [4],
 qd 17 (.aj 12 (.t 16)) [5,4],
 qd 18 (.bP 6 (.t 17)) [6,5,4],
 qo 19 (.bP 7 (.t 3)),
 qd 20 (.call (.f 24) [(.t 14),(.t 18),(.t 19)]) [3,2,1,0,7,6,5,4,8],
 qd 10 (.mv (.t 20)) [9,3,2,1,0,7,6,5,4,8],
 qd 21 (.ext (.t 10) 0) [10,9,3,2,1,0,7,6,5,4,8],
 qd 22 (.ext (.t 10) 1) [10,9,3,2,1,0,7,6,5,4,8],
 qo 7 (.new 30 [(.val (.slice none 0 0)),(.val (.slice none 0 0)),q0,q0,q0,q0]),
 ql (.st 6 (.t 7) (.t 21)) [13,11,10,9,3,2,1,0,7,6,5,4,8],
 qd 8 (.mv (.t 22)) [12,10,9,3,2,1,0,7,6,5,4,8,14,13,11]])
 (.seq (.seq (.af [qm 23 8,
 qo 24 (.bin .neq (.t 23) (qk 0))])
 (.cond (.t 24) (.seq (.af [qo 25 (.bP 6 (.t 7)),
 qm 26 8,
 qn (.st 6 (.t 4) (.t 25)),
 qo 5 (.mv (.c (.val (.slice none 0 0)))),
 qm 6 26])
 .ret)
 .skip))
 (.seq (.af [qo 27 (.bP 7 (.t 3)),
 qo 28 (.call (.f 203) [(.t 27)]),
 qm 9 28])
 (.seq (.seq (.af [qm 29 0,
 qo 30 (.aV (.t 29)),
 qo 31 (.aj 10 (.t 30)),
 qo 32 (.ld1 (.t 31)),
 qm 33 9,
 qo 34 (.len (.t 33)),
 qo 35 (.call (.f 183) [(.t 32),(.t 34)]),
 qo 36 (.not (.t 35))])
 (.cond (.t 36) (.bQ [qm 37 0,
 qd 38 (.aV (.t 37)) [0],
 qd 39 (.aj 10 (.t 38)) [1,0],
 qd 40 (.ld1 (.t 39)) [2,1,0],
 qm 41 0,
 qd 42 (.aV (.t 41)) [4],
 qd 43 (.aj 12 (.t 42)) [5,4],
 qd 44 (.bP 6 (.t 43)) [6,5,4],
 qd 45 (.call (.f 204) [(.t 44)]) [7,6,5,4],
 qd 46 (.call (.f 31) [(.t 40),(.t 45)]) [3,2,1,0,8,7,6,5,4]])
 .skip))
 (.seq (.seq (.af [qm 47 0,
 qo 48 (.aV (.t 47)),
 qo 49 (.aj 10 (.t 48)),
 qo 50 (.ld1 (.t 49)),
 qm 51 9,
 qo 52 (.len (.t 51)),
 qo 53 (.call (.f 183) [(.t 50),(.t 52)]),
 qo 54 (.not (.t 53))])
 (.cond (.t 54) (.seq (.af [qo 55 (.bP 6 (.t 7)),
 qn (.st 6 (.t 4) (.t 55)),
 qo 5 (.mv (.c (.val (.slice none 0 0)))),
 qo 6 (.mv (qk 3))])
 .ret)
 .skip))
 (.seq (.af [qo 56 (.bP 6 (.t 7)),
 qm 57 9,
 qn (.st 6 (.t 4) (.t 56)),
 qm 5 57,
 qo 6 (.mv (qk 0))])
 .ret))))))),
[(.cn 4 6),(.t 5),(.t 6)])
theorem zZ:aq Tryz.prog Tryz.f119=some Fp:=by kernel_rfl
def R4:Nat×C×List RV:=(12,
(.seq (.af [qo 2 (.mv qf)])
 (.seq (.af [qm 3 0,
 qo 4 (.ic true (.t 3)),
 qm 5 4,
 qg 6 (.mv (.t 0)) 5 true,
 qg 7 (.aV (.t 6)) 5 true,
 qg 8 (.aj 19 (.t 7)) 5 true,
 qg 9 (.ld1 (.t 8)) 5 true,
 qg 10 (.not (.t 9)) 5 true,
 qo 11 (.pick (.t 5) (.t 10) qf),
 qm 2 11])
 .ret)),
[(.t 2)])
theorem OG:aq Tryz.prog Tryz.f109=some R4:=by kernel_rfl
def VA:Nat×C×List RV:=(12,
(.seq (.af [qo 2 (.new 30 [(.val (.slice none 0 0)),(.val (.slice none 0 0)),q0,q0,q0,q0])])
 (.seq (.seq (.af [qm 3 0,
 qo 4 (.call (.f 109) [(.t 3)]),
 qo 5 (.not (.t 4))])
 (.cond (.t 5) (.seq (.af [qo 6 (.build [(.val (.slice none 0 0)),(.val (.slice none 0 0)),q0,q0,q0,q0] []),
 qn (.st 6 (.t 2) (.t 6))])
 .ret)
 .skip))
 (.seq (.af [qm 7 0,
 qo 8 (.aV (.t 7)),
 qo 9 (.aj 12 (.t 8)),
 qo 10 (.bP 6 (.t 9)),
 qo 11 (.call (.f 73) [(.t 10)]),
 qn (.st 6 (.t 2) (.t 11))])
 .ret))),
[(.cn 2 6)])
theorem Tk:aq Tryz.prog Tryz.f39=some VA:=by kernel_rfl
def RU:Nat×C×List RV:=(11,
(.seq (.af [qo 1 (.box 37 (.t 0)),
 qo 2 (.mv qf)])
 (.seq (.af [qo 3 (.aj 0 (.t 1)),
 qo 4 (.ld1 (.t 3)),
 qo 5 (.bin .geq (.t 4) (qk 1)),
 qm 6 5,
 qg 7 (.aj 0 (.t 1)) 6 true,
 qg 8 (.ld1 (.t 7)) 6 true,
 qg 9 (.bin .leq (.t 8) (qk 6)) 6 true,
 qo 10 (.pick (.t 6) (.t 9) qf),
 qm 2 10])
 .ret)),
[(.t 2)])
theorem Oz:aq Tryz.prog Tryz.f116=some RU:=by kernel_rfl
def Tw:Nat×C×List RV:=(19,
(.seq (.af [qo 4 (.box 37 (.t 1)),
 qo 6 (.mv (qk 0))])
 (.seq (.block 0 (.seq (.af [qm 8 0,
 qo 9 (.call (.f 109) [(.t 8)]),
 qo 10 (.not (.t 9)),
 qm 7 10])
 (.cond (.t 7) (.seq (.af [qo 6 (.mv (qk 9))])
 .ret)
 (.seq (.af [qo 12 (.bP 7 (.t 4)),
 qo 13 (.call (.f 116) [(.t 12)]),
 qo 14 (.not (.t 13)),
 qm 11 14])
 (.cond (.t 11) (.seq (.af [qo 6 (.mv (qk 1))])
 .ret)
 .skip)))))
 (.seq (.af [qm 15 0,
 qo 16 (.bP 7 (.t 4)),
 qm 17 2,
 qo 18 (.call (.f 100) [(.t 15),(.t 16),(.t 17)]),
 qm 6 18])
 .ret))),
[(.t 6)])
theorem J8:aq Tryz.prog Tryz.f43=some Tw:=by kernel_rfl
def Vz:Nat×C×List RV:=(9,
(.seq (.af [qo 2 (.mv (qk 0))])
 (.seq (.seq (.af [qm 3 0,
 qo 4 (.ic false (.t 3))])
 (.cond (.t 4) (.seq (.af [qo 2 (.mv (qk 0))])
 .ret)
 .skip))
 (.seq (.af [qm 5 0,
 qo 6 (.aV (.t 5)),
 qo 7 (.aj 20 (.t 6)),
 qo 8 (.call (.f 110) [(.t 7)]),
 qm 2 8])
 .ret))),
[(.t 2)])
theorem Tj:aq Tryz.prog Tryz.f40=some Vz:=by kernel_rfl
theorem AW (n:Int):bw Tryz.prog G 98 [.int n] [] (.bool (decide (0≤n∧n≤1000000))) []:=by
 refine bn Tryz.func98 (by decide) SX rfl rfl ?_
 simp only [Vi,go_sem,simprocAttr]
 by_cases h1:0≤n
 ·simp only [h1,go_sem,simprocAttr]
 ·simp only [h1,false_and,go_sem,simprocAttr]
theorem xH (o:cH):bw Tryz.prog G 116 [uN o] [] (.bool (decide (1≤o.kind∧o.kind≤6))) []:=by
 refine bn Tryz.func116 (by decide) Oz rfl rfl ?_
 simp only [RU,go_sem,simprocAttr]
 by_cases h1:1≤o.kind
 ·simp only [h1,go_sem,simprocAttr]
 ·simp only [h1,false_and,go_sem,simprocAttr]
theorem mI (x:aQ):bw Tryz.prog G 109 [.ptr 0 0] (bH x) (.bool (!x.down)) (bH x):=by
 refine aR Tryz.func109 (by decide) OG rfl rfl (bS _ (Nat.le_refl 8) _) rfl ?_
 simp only [bH,dz,R4,go_sem,simprocAttr]
def R3:Nat×C×List RV:=(7,
(.seq (.af [qo 2 (.mv (qk 0))])
 (.seq (.af [qm 3 0,
 qo 4 (.aV (.t 3)),
 qo 5 (.aj 0 (.t 4)),
 qo 6 ((.more (.UN (.t 5)))),
 qm 2 6])
 .ret)),
[(.t 2)])
theorem OF:aq Tryz.prog Tryz.f110=some R3:=by kernel_rfl
theorem Ci (x:aQ):bw Tryz.prog G 110 [.ptr 0 20] (bH x) (.int x.cr) (bH x):=by
 refine aR Tryz.func110 (by decide) OF rfl rfl (bS _ (Nat.le_refl 8) _) rfl ?_
 simp only [bH,dz,R3,go_sem,simprocAttr]
theorem Er (x:aQ):bw Tryz.prog G 127 [.ptr 0 20,.int 1] (bH x) (.int (IntKind.i64.wrap (x.cr+1))) (bH { x with cr:=IntKind.i64.wrap (x.cr+1) }):=by
 refine aR Tryz.func127 (by decide) Fm rfl rfl (bS _ (Nat.le_refl 8) _) rfl ?_
 simp only [bH,dz,Kb,go_sem,simprocAttr]
theorem qx (x:aQ):bw Tryz.prog G 40 [.ptr 0 0] (bH x) (.int x.cr) (bH x):=by
 have hl:=Ci (G:=G) x
 simp only [bH,dz,aX,List.cons_append,List.nil_append] at hl
 refine aR Tryz.func40 (by decide) Tj rfl rfl (bS _ (Nat.le_refl 8) _) rfl ?_
 simp only [bH,dz,aX,Vz,go_sem,simprocAttr]
 refine gy [0,1,2,3,4,5,6,7] (hl) rfl ?_ (by decide) ?_ ?_ ?_ <;> simp only [ah,ai,go_sem,simprocAttr,bA,bN,aP,bh]
def aQ.state (x:aQ):aa:=if x.down=true then ⟨[],[],0,0,0,0⟩ else x.s
theorem qs (x:aQ) (hd:x.down=false) (hn:x.s.nodes.length≤1000) (hj:x.s.jobs.length≤1000):bw Tryz.prog G 39 [.ptr 0 0] (bH x) (bp x.s) (bH x):=by
 have ha:=mI (G:=G) x
 have hc:=HJ (G:=G) x.s hn hj
 simp only [bH,dz,aX,hd,List.cons_append,List.nil_append] at ha
 refine aR Tryz.func39 (by decide) Tk rfl rfl (bS _ (Nat.le_refl 8) _) rfl ?_
 simp only [bH,dz,aX,hd,VA,go_sem,simprocAttr]
 refine gy [0,1,2,3,4,5,6,7] (ha) rfl ?_ (by decide) ?_ ?_ ?_ <;> simp only [ah,ai,go_sem,simprocAttr,bA,bN,aP,bh]
 refine aC (hc) rfl rfl rfl rfl ?_; simp only [go_sem,simprocAttr]
structure Ig (x:aQ):Prop where
 right:bT x.c x.s
 jn:xx x.j
 sh:x.sh.length=25
 lines:x.lines.length=x.s.nodes.length
def aQ.JX (x:aQ) (o:cH):mO:=if x.j.room (gT o).length=true then x.j else x.j.pack (mY x.s)
def aQ.e_ (x:aQ) (o:cH):Int:=if (bO x.c x.s o).2≠0 then (bO x.c x.s o).2 else if (x.JX o).room (gT o).length=true then 0 else 3
def aQ.gA (x:aQ) (o:cH):mO:=if (bO x.c x.s o).2≠0 then x.j else x.JX o
def aQ.wG (x:aQ) (o:cH):LV:=if x.e_ o≠0 then .d (.val (.slice none 0 0)) else au (gT o)
set_option maxHeartbeats 1000000 in
theorem Hi (x:aQ) (h:Ig x) (o:cH):bw Tryz.prog dQ 119 [.ptr 0 0,uN o] (bH x) (.dP [bp (bO x.c x.s o).1,x.wG o,.int (x.e_ o)]) (bH { x with j:=x.gA o }):=by
 have hap:=tu x.c x.s o
 have Yp:=Jg o
 have mq:(gT o).length≤900000:=by have:=L6 o; omega
 have LB:=yL (G:=dQ) x.j h.jn (gT o).length mq
 have hin:=L5 (G:=dQ) x.s (by have:=h.right.len; omega) (by have:=h.right.jobs; omega)
 have hpk:=GW (G:=dQ) x.j h.jn (mY x.s) (by have:=L7 x.s; omega)
 have Fx:=yL (G:=dQ) (x.j.pack (mY x.s)) (h.jn.pack (Bh _)) (gT o).length mq
 have hn2:(x.j.pack (mY x.s)).n=x.j.n:=mO.Dm _ _
 simp only [jO,uy,hn2,au] at LB hpk Fx Yp hin
 unfold aQ.wG aQ.e_ aQ.gA aQ.JX
 by_cases h1:(bO x.c x.s o).2=0
 case neg=>
  simp only [ne_eq,h1,not_false_eq_true,if_true]
  refine aR Tryz.func119 (by decide) zZ rfl rfl (bS _ (Nat.le_refl 8) _) rfl ?_
  simp only [bH,dz,aX,Fp,go_sem,simprocAttr]
  refine bf (hap) rfl rfl rfl rfl ?_; simp only [go_sem,simprocAttr]
  refine av rfl ?_
  simp only [show ((bO x.c x.s o).2 !=0)=true from bne_iff_ne.2 h1,go_sem,simprocAttr]
 simp only [ne_eq,h1,not_true_eq_false,if_false]
 by_cases h2:x.j.room (gT o).length=true
 case pos=>
  rw [h2] at LB
  simp only [h2,if_true,not_true_eq_false,if_false]
  refine aR Tryz.func119 (by decide) zZ rfl rfl (bS _ (Nat.le_refl 8) _) rfl ?_
  simp only [bH,dz,aX,au,Fp,go_sem,simprocAttr]
  refine bf (hap) rfl rfl rfl rfl ?_; simp only [go_sem,simprocAttr]
  refine av rfl ?_
  simp only [h1,go_sem,simprocAttr]
  refine aC (Yp) rfl rfl rfl rfl ?_; simp only [go_sem,simprocAttr]
  simp only [az,go_sem,simprocAttr]
  refine aK [1,2,3,4,5] (LB) rfl ?_ (by decide) ?_ ?_ (by simp) ?_ <;> simp only [ah,ai,go_sem,simprocAttr]
  simp only [az,go_sem,simprocAttr]
  refine aK [1,2,3,4,5] (LB) rfl ?_ (by decide) ?_ ?_ (by simp) ?_ <;> simp only [ah,ai,go_sem,simprocAttr]
 have Yn:mR x.j.n x.j.us x.j.cnt (gT o).length=false:=by cases hq:mR x.j.n x.j.us x.j.cnt (gT o).length <;> simp_all [mO.room]
 simp only [mO.room,Yn] at LB
 simp only [h2]
 generalize hj2:x.j.pack (mY x.s)=j2 at *
 generalize x.j.Jc (mY x.s)=e2 at *
 obtain ⟨n2,l2,s2,c2,a2,u2⟩:=j2
 subst hn2
 dsimp only at hpk Fx
 have hbody:∀ r:Bool,mO.room ⟨x.j.n,l2,s2,c2,a2,u2⟩ (gT o).length=r→bw Tryz.prog dQ 119 [.ptr 0 0,uN o] (bH x) (.dP [bp (bO x.c x.s o).1,if r=true then au (gT o) else .d (.val (.slice none 0 0)),.int (if r=true then 0 else 3)]) (bH { x with j:=⟨x.j.n,l2,s2,c2,a2,u2⟩ }):=by
  intro r hr
  rw [hr] at Fx
  refine aR Tryz.func119 (by decide) zZ rfl (by cases r <;> rfl) (bS _ (Nat.le_refl 8) _) rfl ?_
  simp only [bH,dz,aX,au,Fp,go_sem,simprocAttr]
  refine bf (hap) rfl rfl rfl rfl ?_; simp only [go_sem,simprocAttr]
  refine av rfl ?_
  simp only [h1,go_sem,simprocAttr]
  refine aC (Yp) rfl rfl rfl rfl ?_; simp only [go_sem,simprocAttr]
  simp only [az,go_sem,simprocAttr]
  refine aK [1,2,3,4,5] (LB) rfl ?_ (by decide) ?_ ?_ (by simp) ?_ <;> simp only [ah,ai,go_sem,simprocAttr]
  refine bf (hin) rfl rfl rfl rfl ?_; simp only [go_sem,simprocAttr]
  refine eS [1,2,3,4,5] (hpk) rfl ?_ (by decide) ?_ ?_ (by simp) ?_ <;> simp only [ah,ai,go_sem,simprocAttr]
  refine av rfl ?_
  simp only [go_sem,simprocAttr]
  simp only [az,go_sem,simprocAttr]
  refine aK [1,2,3,4,5] (Fx) rfl ?_ (by decide) ?_ ?_ (by simp) ?_ <;> simp only [ah,ai,go_sem,simprocAttr]
  cases r with
  | true=>simp only [go_sem,simprocAttr]
  | false=>simp only [go_sem,simprocAttr]
 have:=hbody _ rfl
 split at this <;> simp_all
end Dv
namespace Dv
open Go Go.Proofs
variable {G:Nat→Option (List DV)}
def R5:Nat×C×List RV:=(58,
(.seq (.af [qo 6 (.mv (qk 0))])
 (.seq (.af [qm 8 0,
 qm 9 1,
 qo 10 (.call (.f 126) [(.t 8),(.t 9)]),
 qm 7 10])
 (.seq (.block 0 (.seq (.af [qm 12 0,
 qo 13 (.ic false (.t 12)),
 qm 11 13])
 (.cond (.t 11) (.seq (.af [qo 6 (.mv (qk 1))])
 .ret)
 (.seq (.af [qm 15 7,
 qo 16 (.ic false (.t 15)),
 qm 17 16,
 qg 18 (.mv (.t 2)) 17 false,
 qg 19 (.bin .lss (.t 18) (qk 1)) 17 false,
 qo 20 (.pick (.t 17) qt (.t 19)),
 qm 21 20,
 qg 22 (.mv (.t 2)) 21 false,
 qg 23 (.mv (.t 7)) 21 false,
 qg 24 (.aV (.t 23)) 21 false,
 qg 25 (.aj 0 (.t 24)) 21 false,
 qg 26 (.aj 0 (.t 25)) 21 false,
 qg 27 (.ld1 (.t 26)) 21 false,
 qg 28 (.bin .neq (.t 22) (.t 27)) 21 false,
 qg 29 (.mv (.t 28)) 21 false,
 qg 30 (.mv (.t 2)) 29 true,
 qg 31 (.mv (.t 7)) 29 true,
 qg 32 (.aV (.t 31)) 29 true,
 qg 33 (.aj 2 (.t 32)) 29 true,
 qg 34 (.aj 0 (.t 33)) 29 true,
 qg 35 (.ld1 (.t 34)) 29 true,
 qg 36 (.bin .neq (.t 30) (.t 35)) 29 true,
 qg 37 (.pick (.t 29) (.t 36) qf) 21 false,
 qo 38 (.pick (.t 21) qt (.t 37)),
 qm 14 38])
 (.cond (.t 14) (.seq (.af [qo 6 (.mv (qk 4))])
 .ret)
 (.seq (.af [qm 40 2,
 qm 41 7,
 qo 42 (.aV (.t 41)),
 qo 43 (.aj 2 (.t 42)),
 qo 44 (.aj 0 (.t 43)),
 qo 45 (.ld1 (.t 44)),
 qo 46 (.bin .eql (.t 40) (.t 45)),
 qm 39 46])
 (.cond (.t 39) (.af [qm 47 7,
 qm 48 7,
 qm 49 7,
 qo 50 (.aV (.t 49)),
 qo 51 (.aj 2 (.t 50)),
 qo 52 (.bP 2 (.t 51)),
 qo 53 (.build [q0,(.val (.slice none 0 0))] []),
 qo 54 (.aV (.t 47)),
 qo 55 (.aj 0 (.t 54)),
 qn (.st 2 (.t 55) (.t 52)),
 qo 56 (.aV (.t 48)),
 qo 57 (.aj 2 (.t 56)),
 qn (.st 2 (.t 57) (.t 53))])
 .skip)))))))
 (.seq (.af [qo 6 (.mv (qk 0))])
 .ret)))),
[(.t 6)])
theorem OH:aq Tryz.prog Tryz.f103=some R5:=by kernel_rfl
def gx (x:ni) (epoch:Int):ni:=if epoch=x.se then ⟨x.se,x.sd,0,[]⟩ else x
section
variable (A B:List LV) (a b c d x y:LV) (n:Nat)
theorem X4 (h:A.length=n):(A++a::b::c::d::B)[n]? = some a:=by subst h; simp
theorem X3 (h:A.length=n):(A++a::b::c::d::B)[n+2]? = some c:=by subst h; simp
theorem U0 (h:A.length=n):((A++a::b::c::d::B).drop (n+2)).take 2=[c,d]:=by subst h; rw [List.drop_append]; simp [List.drop_eq_nil_of_le]
theorem U2 (h:A.length=n):(A++a::b::c::d::B).take n++[x,y]++(A++a::b::c::d::B).drop (n+2)=A++x::y::c::d::B:=by subst h; rw [List.drop_append]; simp
theorem U1 (h:A.length=n):(A++a::b::c::d::B).take (n+2)++[x,y]++(A++a::b::c::d::B).drop (n+4)=A++a::b::x::y::B:=by subst h; rw [List.drop_append,List.take_append]; simp [List.take_of_length_le,List.drop_eq_nil_of_le]
end
theorem x_ (room term:Int) (sh:List ni) (wr:Int) (k:Nat) (h:k<sh.length):∃ A B:List LV,A.length=2+4*k∧(∀ x:ni,LV.int room::LV.int term::((sh.set k x).flatMap pP++[LV.int wr])=A++.int x.ce::jd x.cd::.int x.se::jd x.sd::B)∧∀ x:ni,sh.getD k kY=x→LV.int room::LV.int term::(sh.flatMap pP++[LV.int wr])=A++.int x.ce::jd x.cd::.int x.se::jd x.sd::B:=by
 have hl:=zw sh
 have h2:∀ x:ni,LV.int room::LV.int term::((sh.set k x).flatMap pP++[LV.int wr])=(.int room::.int term::(sh.flatMap pP++[.int wr])).take (2+4*k)++.int x.ce::jd x.cd::.int x.se::jd x.sd::(sh.flatMap pP++[LV.int wr]).drop (2+4*k+2):=by
  intro x
  rw [← A2 (.int room) (.int term) (.int wr) x sh k h]
  simp [pP]
 refine ⟨_,_,?_,h2,fun x hx=>?_⟩
 ·rw [List.length_take]; simp only [List.length_cons,List.length_append,hl,List.length_nil]; omega
 ·rw [← h2 x,← hx]; simp [List.getD,h]
theorem uq (room term:Int) (sh:List ni) (wr:Int) (k:Nat) (hk:1≤k∧k≤24) (hs:sh.length=25) (ep:Int) (he:1≤ep) (r:Int) (hr:r=if ep=(sh.getD k kY).ce∨ep=(sh.getD k kY).se then 0 else 4):bw Tryz.prog G 103 [.ptr 0 0,.int k,.int ep] (jA room term sh wr) (.int r) (jA room term (sh.set k (gx (sh.getD k kY) ep)) wr):=by
 have hj:=lY (G:=G) room term sh wr k hk
 obtain ⟨A,B,hA,hB,hC⟩:=x_ room term sh wr k (by omega)
 have hC:=hC _ rfl
 have Ww:=fo 1 room term (sh.set k (gx (sh.getD k kY) ep)) wr
 have OU:=fo 1 room term sh wr
 have Ko:=bN
 generalize sh.getD k kY=x at *
 obtain ⟨ce,cd,se,sd⟩:=x
 simp only [jA,List.cons_append,List.nil_append] at hj
 refine aR Tryz.func103 (by decide) OH rfl rfl Ww rfl ?_
 simp only [jA,R5,go_sem,simprocAttr]
 refine gy [0] (hj) rfl ?_ (by decide) ?_ ?_ ?_ <;> simp only [ah,ai,go_sem,simprocAttr,bA,bN,aP,bh]
 simp only [LV.int] at hB hC
 rw [hC,hB]
 dsimp only at hr
 generalize hm:2+4*k=m at *
 have g0:=X4 A B (LV.d (.val (.int .i64 ce))) (jd cd) (LV.d (.val (.int .i64 se))) (jd sd) m hA
 have g2:=X3 A B (LV.d (.val (.int .i64 ce))) (jd cd) (LV.d (.val (.int .i64 se))) (jd sd) m hA
 have gt:=U0 A B (LV.d (.val (.int .i64 ce))) (jd cd) (LV.d (.val (.int .i64 se))) (jd sd) m hA
 have gs0:=U2 A B (LV.d (.val (.int .i64 ce))) (jd cd) (LV.d (.val (.int .i64 se))) (jd sd) (LV.d (.val (.int .i64 se))) (jd sd) m hA
 have gs2:=U1 A B (LV.d (.val (.int .i64 se))) (jd sd) (LV.d (.val (.int .i64 se))) (jd sd) (LV.d (.val (.int .i64 0))) (LV.d (.val (.slice none 0 0))) m hA
 have gl:∀ a b c d:LV,(A++a::b::c::d::B).length=m+4+B.length:=by intros; rw [List.length_append,hA]; simp; omega
 have c1:m+2≤m+4+B.length:=by omega
 have c2:m+4≤m+4+B.length:=by omega
 clear hB hC Ww OU
 simp only [decide_eq_false (show ¬ ep<1 by omega),g0,go_sem,simprocAttr]
 by_cases e2:ep=se
 ·have LC:r=0:=by rw [hr,if_pos (.inr e2)]
  have YW:gx ⟨ce,cd,se,sd⟩ ep=⟨se,sd,0,[]⟩:=by unfold gx; rw [if_pos e2]
  have b2:(ep==se)=true:=beq_iff_eq.2 e2
  have b3:(ep !=se)=false:=by rw [e2]; exact bne_self_eq_false _
  subst LC
  simp only [YW,show jd []=LV.d (.val (.slice none 0 0)) from rfl]
  cases b1:(ep !=ce) <;> simp only [b2,b3,g2,gt,gs0,gs2,gl,c1,c2,go_sem,simprocAttr]
 ·have YW:gx ⟨ce,cd,se,sd⟩ ep=⟨ce,cd,se,sd⟩:=by unfold gx; rw [if_neg e2]
  have b2:(ep==se)=false:=beq_eq_false_iff_ne.2 e2
  have b3:(ep !=se)=true:=bne_iff_ne.2 e2
  simp only [YW]
  by_cases e1:ep=ce
  ·have LC:r=0:=by rw [hr,if_pos (.inl e1)]
   have b1:(ep !=ce)=false:=by rw [e1]; exact bne_self_eq_false _
   subst LC
   simp only [b1,b2,g2,go_sem,simprocAttr]
  ·have LC:r=4:=by rw [hr,if_neg (by simp [e1,e2])]
   have b1:(ep !=ce)=true:=bne_iff_ne.2 e1
   subst LC
   simp only [b1,b3,g2,go_sem,simprocAttr]
def Rg:Nat×C×List RV:=(16,
(.seq (.af [qo 2 (.box 72 (.t 0)),
 qo 3 (.box 3 (.t 1)),
 qo 4 (.mv (.c (.val (.map none))))])
 (.seq (.af [qo 7 (.zS (.func 237) [] [(.t 2),(.t 3)]),
 qm 5 7])
 (.seq (.af [qo 8 (.zS (.func 238) [] [(.t 2)]),
 qm 6 8])
 (.seq (.af [qo 9 ((.more .SP)),
 qo 10 (.zS (.func 239) [] [(.t 2)]),
 qn ((.more (.JE (.t 9) (qk 13) (.t 10)))),
 qm 11 6,
 qn ((.more (.JE (.t 9) (qk 2) (.t 11)))),
 qm 12 6,
 qn ((.more (.JE (.t 9) (qk 15) (.t 12)))),
 qm 13 5,
 qn ((.more (.JE (.t 9) (qk 7) (.t 13)))),
 qm 14 5,
 qn ((.more (.JE (.t 9) (qk 8) (.t 14)))),
 qm 15 9,
 qm 4 15])
 .ret)))),
[(.t 4)])
theorem NI:aq Tryz.prog Tryz.f188=some Rg:=by kernel_rfl
def QN:Nat×C×List RV:=(26,
(.seq (.af [qo 3 (.box 37 (.t 0))])
 (.seq (.bQ [qo 5 (.ld1 (.t 1)),
 qd 6 (.aV (.t 5)) [0],
 qd 7 (.aj 18 (.t 6)) [1,0],
 qd 8 (.ld1 (.t 7)) [2,1,0],
 qo 9 (.aj 1 (.t 3)),
 qd 10 (.ld1 (.t 9)) [4],
 qd 11 (.eG 26 (.t 8) (.t 10)) [3,2,1,0,5,4],
 qd 4 (.mv (.t 11)) [6,3,2,1,0,5,4]])
 (.seq (.af [qm 12 4,
 qm 13 4,
 qo 14 (.build [q0,q0,q0,q0,q0,q0,q0,q0,q0,q0,q0] []),
 qo 15 (.aV (.t 12)),
 qo 16 (.aj 1 (.t 15)),
 qn (.st 1 (.t 16) qf),
 qo 17 (.aV (.t 13)),
 qo 18 (.aj 15 (.t 17)),
 qn (.st 11 (.t 18) (.t 14))])
 (.seq (.af [qo 19 (.aj 0 (.t 3)),
 qo 20 (.ld1 (.t 19)),
 qo 21 (.bin .eql (.t 20) (qk 8))])
 (.cond (.t 21) (.af [qm 22 4,
 qo 23 (.ld1 (.t 2)),
 qo 24 (.aV (.t 22)),
 qo 25 (.aj 14 (.t 24)),
 qn (.st 1 (.t 25) (.t 23))])
 .skip))))),
[])
theorem Nk:aq Tryz.prog Tryz.f237=some QN:=by kernel_rfl
def QM:Nat×C×List RV:=(10,
(.seq (.af [qo 2 (.box 37 (.t 0))])
 (.bQ [qo 3 (.ld1 (.t 1)),
 qd 4 (.aV (.t 3)) [0],
 qd 5 (.aj 11 (.t 4)) [1,0],
 qd 6 (.ld1 (.t 5)) [2,1,0],
 qo 7 (.aj 1 (.t 2)),
 qd 8 (.ld1 (.t 7)) [4],
 qd 9 (.call (.f 102) [(.t 6),(.t 8)]) [3,2,1,0,5,4]])),
[])
theorem Nj:aq Tryz.prog Tryz.f238=some QM:=by kernel_rfl
def QL:Nat×C×List RV:=(12,
(.seq (.af [qo 2 (.box 37 (.t 0))])
 (.bQ [qo 3 (.ld1 (.t 1)),
 qd 4 (.aV (.t 3)) [0],
 qd 5 (.aj 11 (.t 4)) [1,0],
 qd 6 (.ld1 (.t 5)) [2,1,0],
 qo 7 (.aj 1 (.t 2)),
 qd 8 (.ld1 (.t 7)) [4],
 qo 9 (.aj 2 (.t 2)),
 qd 10 (.ld1 (.t 9)) [6],
 qd 11 (.call (.f 103) [(.t 6),(.t 8),(.t 10)]) [3,2,1,0,5,4,7,6]])),
[])
theorem Ni:aq Tryz.prog Tryz.f239=some QL:=by kernel_rfl
def Kc:Nat×C×List RV:=(53,
(.seq (.af [qo 4 (.box 37 (.t 1)),
 qo 6 (.mv (qk 0))])
 (.seq (.af [qm 14 0,
 qo 15 (.bP 7 (.t 4)),
 qo 16 (.call (.f 119) [(.t 14),(.t 15)]),
 qm 13 16,
 qo 17 (.ext (.t 13) 0),
 qo 18 (.ext (.t 13) 1),
 qo 19 (.ext (.t 13) 2),
 qo 7 (.new 30 [(.val (.slice none 0 0)),(.val (.slice none 0 0)),q0,q0,q0,q0]),
 qn (.st 6 (.t 7) (.t 17)),
 qm 8 18,
 qm 9 19])
 (.seq (.seq (.af [qm 20 9,
 qo 21 (.bin .neq (.t 20) (qk 0))])
 (.cond (.t 21) (.seq (.af [qm 22 9,
 qm 6 22])
 .ret)
 .skip))
 (.seq (.seq (.af [qm 23 0,
 qo 24 (.aV (.t 23)),
 qo 25 (.aj 10 (.t 24)),
 qo 26 (.ld1 (.t 25)),
 qm 27 8,
 qo 28 (.call (.f 33) [(.t 26),(.t 27)]),
 qm 10 28])
 (.seq (.af [qm 29 10,
 qo 30 (.bin .neq (.t 29) (qk 0))])
 (.cond (.t 30) (.seq (.af [qm 31 10,
 qm 6 31])
 .ret)
 .skip)))
 (.seq (.af [qm 32 0,
 qo 33 (.bP 6 (.t 7)),
 qo 34 (.aV (.t 32)),
 qo 35 (.aj 12 (.t 34)),
 qn (.st 6 (.t 35) (.t 33))])
 (.seq (.af [qm 36 0,
 qo 37 (.aV (.t 36)),
 qo 38 (.aj 20 (.t 37)),
 qo 39 (.call (.f 127) [(.t 38),(qk 1)])])
 (.seq (.seq (.bQ [qm 41 0,
 qm 42 2,
 qd 43 (.call (.f 188) [(.t 41),(.t 42)]) [0,1],
 qo 44 (.aj 0 (.t 4)),
 qd 45 (.ld1 (.t 44)) [3],
 qd 46 ((.more (.Uy .nilFunc true (.t 43) (.t 45)))) [2,0,1,4,3],
 qd 40 (.mv (.t 46)) [5,2,0,1,4,3],
 qd 47 (.ext (.t 40) 0) [6,5,2,0,1,4,3],
 qd 48 (.ext (.t 40) 1) [6,5,2,0,1,4,3],
 qd 11 (.mv (.t 47)) [7,6,5,2,0,1,4,3],
 qd 12 (.mv (.t 48)) [8,6,5,2,0,1,4,3,9,7]])
 (.seq (.af [qm 49 12])
 (.cond (.t 49) (.af [qm 50 11,
 qo 51 (.bP 7 (.t 4)),
 qo 52 (.call (.t 50) [(.t 51)])])
 .skip)))
 (.seq (.af [qo 6 (.mv (qk 0))])
 .ret)))))))),
[(.t 6)])
theorem Fo:aq Tryz.prog Tryz.f100=some Kc:=by kernel_rfl
def mJ:aD:=.box 72 [.ptr 0 0]
def n_:LV:=.fn (.func 237) [] [.ptr 8 0,.ptr 9 0]
def wJ:LV:=.fn (.func 238) [] [.ptr 8 0]
def Da:LV:=.fn (.func 239) [] [.ptr 8 0]
def FU:aD:=.mp [(13,Da),(2,wJ),(15,wJ),(7,n_),(8,n_)]
theorem Lq (x:aQ) (now:Int):bw Tryz.prog G 188 [.ptr 0 0,.int now] (bH x) (.mr 10) (bH x++[mJ,.box 3 [.int now],FU]):=by
 refine cG Tryz.func188 (by decide) NI rfl ?_
 simp only [bH,dz,aX,Rg,go_sem,simprocAttr]
 refine dF [] [0,1,2,3,4,5,6,7,8,9,10] [] (vs:=[.mr 10]) rfl rfl (by decide) (by simp) (by simp) ?_ (by show (bH x++[mJ,.box 3 [.int now],FU]).all (ei 11)=true; rw [List.all_append,bS _ (by omega)]; rfl) ?_
 ·simp only [List.map_cons,List.map_nil,fc,lU,bA,bN]
  rfl
 simp [aW,ai]
end Dv
namespace Dv
open Go Go.Proofs
variable {G:Nat→Option (List DV)}
def mc:dc:=gO
def eF:lS:=⟨0,false,mc,0,0,mc⟩
def yW (now:Int) (k:Int) (l:lS):lS:={ l with has:=false,report:=mc,heard:=if k=8 then now else l.heard }
theorem D8 (x:aQ) (now:Int) (o:cH) (i:Nat) (hi:i<x.lines.length) (ho:o.a=i):bw Tryz.prog G 237 [uN o,.ptr 8 0,.ptr 9 0] (bH x++[mJ,.box 3 [.int now]]) (.dP []) (bH { x with lines:=x.lines.set i (yW now o.kind (x.lines.getD i eF)) }++[mJ,.box 3 [.int now]]):=by
 have hid:(bH { x with lines:=x.lines.set i (yW now o.kind (x.lines.getD i eF)) }++[mJ,.box 3 [.int now]]).all (ei 10)=true:=by rw [List.all_append,bS _ (by omega)]; rfl
 refine aR Tryz.func237 (by decide) Nk rfl rfl hid rfl ?_
 have hg:=aL (f:=lW) eF hi
 generalize x.lines.getD i eF=l at *
 obtain ⟨lg,lh,⟨q0,q1,q2,q3,q4,q5,q6,q7,q8,q9,U3⟩,ls,le,⟨r0,r1,r2,r3,r4,r5,r6,r7,r8,r9,X2⟩⟩:=l
 simp only [lW,kV,List.cons_append,List.nil_append] at hg
 obtain ⟨k,a,b,c,d,e,f⟩:=o
 dsimp only at ho
 subst ho
 simp only [bH,dz,aX,mJ,List.length_set,QN,go_sem,simprocAttr]
 have s7:∀ v,((x.lines.map lW).set i v)[i]? = some v:=fun v=>List.getElem?_set_self (by simpa using hi)
 by_cases hk:k=8
 ·subst hk
  simp only [hi,hg,s7,yW,lW,mc,List.map_set,List.length_set,List.set_set,go_sem,simprocAttr]
 ·simp only [hi,hg,s7,hk,beq_eq_false_iff_ne.2 hk,yW,lW,mc,List.map_set,List.length_set,List.set_set,go_sem,simprocAttr]
theorem K8 (x:aQ) (hs:x.sh.length=25) (o:cH) (i:Nat) (hi:1≤i∧i≤24) (ho:o.a=i):bw Tryz.prog G 238 [uN o,.ptr 8 0] (bH x++[mJ]) (.dP []) (bH { x with sh:=x.sh.set i kY }++[mJ]):=by
 have hid:(bH { x with sh:=x.sh.set i kY }++[mJ]).all (ei 9)=true:=by rw [List.all_append,bS _ (by omega)]; rfl
 have he:=zj (G:=G) x.room x.term x.sh x.wr i hi hs
 simp only [jA,List.cons_append,List.nil_append] at he
 refine aR Tryz.func238 (by decide) Nj rfl rfl hid rfl ?_
 simp only [bH,dz,aX,mJ,ho,QM,go_sem,simprocAttr]
 refine eS [6] (he) rfl ?_ (by decide) ?_ ?_ (by simp) ?_ <;> simp only [ah,ai,go_sem,simprocAttr,bA,bN,aP,bh]
 refine av rfl ?_
 simp only [go_sem,simprocAttr]
theorem IT (x:aQ) (hs:x.sh.length=25) (o:cH) (i:Nat) (hi:1≤i∧i≤24) (ho:o.a=i) (hb:1≤o.b):bw Tryz.prog G 239 [uN o,.ptr 8 0] (bH x++[mJ]) (.dP []) (bH { x with sh:=x.sh.set i (gx (x.sh.getD i kY) o.b) }++[mJ]):=by
 have hid:(bH { x with sh:=x.sh.set i (gx (x.sh.getD i kY) o.b) }++[mJ]).all (ei 9)=true:=by rw [List.all_append,bS _ (by omega)]; rfl
 have he:=uq (G:=G) x.room x.term x.sh x.wr i hi hs o.b hb _ rfl
 simp only [jA,List.cons_append,List.nil_append] at he
 refine aR Tryz.func239 (by decide) Ni rfl rfl hid rfl ?_
 simp only [bH,dz,aX,mJ,ho,QL,go_sem,simprocAttr]
 refine eS [6] (he) rfl ?_ (by decide) ?_ ?_ (by simp) ?_ <;> simp only [ah,ai,go_sem,simprocAttr,bA,bN,aP,bh]
 refine av rfl ?_
 simp only [go_sem,simprocAttr]
end Dv
namespace Dv
open Go Go.Proofs
def g_ (o:cH) (sh:List ni):List ni:=if o.kind=13 then sh.set o.a.toNat (gx (sh.getD o.a.toNat kY) o.b) else if o.kind=2∨o.kind=15 then sh.set o.a.toNat kY else sh
def kJ (now:Int) (o:cH) (l:List lS):List lS:=if o.kind=7∨o.kind=8 then l.set o.a.toNat (yW now o.kind (l.getD o.a.toNat eF)) else l
def aQ.eu (x:aQ) (o:cH) (now:Int):aQ:=if x.e_ o=0 then { x with j:=(x.gA o).add (gT o),s:=(bO x.c x.s o).1,cr:=IntKind.i64.wrap (x.cr+1),sh:=g_ o x.sh,lines:=kJ now o x.lines } else { x with j:=x.gA o }
theorem wF {x:aQ} {o:cH} (he:x.e_ o=0):(bO x.c x.s o).2=0∧(x.gA o).room (gT o).length=true∧x.wG o=au (gT o):=by
 have TP:=he
 unfold aQ.e_ at he
 split at he
 ·rename_i h; exact absurd he h
 ·rename_i h
  split at he
  ·rename_i h2
   refine ⟨by simpa using h,?_,?_⟩
   ·unfold aQ.gA; rw [if_neg h]; exact h2
   ·unfold aQ.wG; rw [if_neg (by simpa using TP)]
  ·cases he
theorem Ig.JX {x:aQ} (h:Ig x) (o:cH):xx (x.gA o):=by
 unfold aQ.gA aQ.JX
 split
 ·exact h.jn
 split
 ·exact h.jn
 ·exact h.jn.pack (Bh _)
theorem Jq {c:aH} {s:aa} {o:cH} (hp:bT c s) (h:(bO c s o).2=0) (hk:DH o.kind=true):1≤o.a∧o.a≤s.jobs.length:=by
 have hr:=(gG c s).2 hp
 unfold bO xV at h
 rw [if_neg (by rw [hr]; decide)] at h
 split at h
 ·cases h
 split at h
 ·cases h
 ·rename_i h1 h2
  simp only [hk,true_and] at h2
  omega
theorem Md {c:aH} {s:aa} {o:cH} (hp:bT c s) (h:(bO c s o).2=0) (hk:vR o.kind=true):0≤o.a∧o.a<s.nodes.length:=by
 have hr:=(gG c s).2 hp
 unfold bO xV at h
 rw [if_neg (by rw [hr]; decide)] at h
 split at h
 ·cases h
 split at h
 ·cases h
 split at h
 ·cases h
 ·rename_i h0 h1 h2
  have:=sO (o:=o) (by simpa using h0)
  simp only [hk,true_and] at h2
  omega
theorem Jp {c:aH} {s:aa} {o:cH} (hp:bT c s) (h:(bO c s o).2=0) (hn:gH o=true) (hk:o.kind=13):1≤o.b:=by
 have ha:=Jq hp h (by rw [hk]; rfl)
 obtain ⟨k,h1,h2,h3,h4⟩:=JV hp ha
 rw [FT ((gG c s).2 hp) hn (by rw [hk]; rfl) (by rw [hk]; rfl),if_neg (by omega)] at h
 unfold bM at h
 simp only [hk] at h
 unfold jH at h
 have BT:=(hp.num k h3).epoch
 rw [← h4] at BT
 simp only [Int.reduceEq,if_false,if_true] at h
 split at h
 ·cases h
 split at h
 ·cases h
 ·rename_i h5; omega
set_option maxHeartbeats 2000000 in
theorem vN (x:aQ) (h:Ig x) (o:cH) (now:Int):bw Tryz.prog dQ 100 [.ptr 0 0,uN o,.int now] (bH x) (.int (x.e_ o)) (bH (x.eu o now)):=by
 have hf:=Hi x h o
 unfold aQ.eu
 by_cases he:x.e_ o=0
 case neg=>
  simp only [he,if_false]
  generalize x.gA o=J at *
  generalize x.wG o=B at *
  generalize x.e_ o=e at *
  simp only [bH,dz,aX,List.cons_append,List.nil_append] at hf
  refine aR Tryz.func100 (by decide) Fo rfl rfl (bS _ (Nat.le_refl 8) _) rfl ?_
  simp only [bH,dz,aX,Kc,go_sem,simprocAttr]
  refine aK [0,1,2,3,4,5,6,7] (hf) rfl ?_ (by decide) ?_ ?_ (by simp) ?_ <;> simp only [ah,ai,go_sem,simprocAttr,bA,bN,aP,bh]
  simp only [show (e !=0)=true from bne_iff_ne.2 he,go_sem,simprocAttr]
 obtain ⟨h1,h2,h3⟩:=wF he
 have hj1:=h.JX o
 have KB:=fun hk=>Jq h.right h1 (o:=o) hk
 have Wj:=fun hk=>Md h.right h1 (o:=o) hk
 have Wi:gH o=true:=by
  cases hq:gH o with
  | true=>rfl
  | false=>
    have hr:=(gG x.c x.s).2 h.right
    unfold bO xV at h1
    rw [if_neg (by rw [hr]; decide),if_pos hq] at h1
    cases h1
 rw [h3,he] at hf
 rw [if_pos he,he]
 have ha:=JY (G:=dQ) (x.gA o) hj1 (gT o) h2
 have hn1:(x.gA o).n=x.j.n:=by unfold aQ.gA aQ.JX; split; · rfl
                               split; · rfl
                               ·exact mO.Dm _ _
 generalize x.gA o=J at *
 generalize D5:J.add (gT o)=J2 at *
 have hn2:J2.n=x.j.n:=by rw [← D5,mO.W5,hn1]
 generalize (bO x.c x.s o).1=t at *
 have WR:=Er (G:=dQ) { x with j:=J2,s:=t }
 have hal:=Lq (G:=dQ) { x with j:=J2,s:=t,cr:=IntKind.i64.wrap (x.cr+1) } now
 have CG:=h.sh
 have uQ:=h.lines
 simp only [jO,uy,hn1,hn2,au] at ha
 simp only [bH,dz,aX,mJ,FU,hn1,hn2,au,List.cons_append,List.nil_append] at hf WR hal
 refine aR Tryz.func100 (by decide) Fo rfl rfl (bS _ (Nat.le_refl 8) _) rfl ?_
 simp only [bH,dz,aX,hn2,Kc,go_sem,simprocAttr]
 refine aK [0,1,2,3,4,5,6,7] (hf) rfl ?_ (by decide) ?_ ?_ (by simp) ?_ <;> simp only [ah,ai,go_sem,simprocAttr,bA,bN,aP,bh]
 refine aK [1,2,3,4,5] (ha) rfl ?_ (by decide) ?_ ?_ (by simp) ?_ <;> simp only [ah,ai,go_sem,simprocAttr]
 refine aK [0,1,2,3,4,5,6,7] (WR) rfl ?_ (by decide) ?_ ?_ (by simp) ?_ <;> simp only [ah,ai,go_sem,simprocAttr,bA,bN,aP,bh]
 refine eS [0,1,2,3,4,5,6,7] (hal) rfl ?_ (by decide) ?_ ?_ (by simp) ?_ <;> simp only [ah,ai,go_sem,simprocAttr,bA,bN,aP,bh]
 have hlj:=h.right.jobs
 have VU:o.kind=13→1≤o.b:=fun hk=>Jp h.right h1 Wi hk
 by_cases Mt:o.kind=13
 ·obtain ⟨q1,q2⟩:=KB (by rw [Mt]; rfl)
  obtain ⟨i,hi⟩:∃ i:Nat,o.a=i:=⟨o.a.toNat,by omega⟩
  have hc:=IT (G:=dQ) { x with j:=J2,s:=t,cr:=IntKind.i64.wrap (x.cr+1) } CG o i (by omega) hi (VU Mt)
  simp only [bH,dz,aX,mJ,hn2,List.cons_append,List.nil_append] at hc
  have hA:g_ o x.sh=x.sh.set i (gx (x.sh.getD i kY) o.b):=by unfold g_; rw [if_pos Mt,hi]; rfl
  have hL:kJ now o x.lines=x.lines:=by unfold kJ; rw [if_neg (by rw [Mt]; decide)]
  simp only [hA,hL]
  have hm:(if o.kind=13 then some (rn (bB [0,1,2,3,4,5,6,7] 10) Da) else if o.kind=2 then some (rn (bB [0,1,2,3,4,5,6,7] 10) wJ) else if o.kind=15 then some (rn (bB [0,1,2,3,4,5,6,7] 10) wJ) else if o.kind=7 then some (rn (bB [0,1,2,3,4,5,6,7] 10) n_) else if o.kind=8 then some (rn (bB [0,1,2,3,4,5,6,7] 10) n_) else none)=some (rn (bB [0,1,2,3,4,5,6,7] 10) Da):=by rw [Mt]; rfl
  simp only [hm]
  simp only [Da,go_sem,simprocAttr]
  refine av rfl ?_
  simp only [go_sem,simprocAttr]
  refine aK [0,1,2,3,4,5,6,7,10] (hc) rfl ?_ (by decide) ?_ ?_ (by simp) ?_ <;> simp only [ah,ai,go_sem,simprocAttr,bA,bN,aP,bh]
 by_cases kE:o.kind=2∨o.kind=15
 ·obtain ⟨q1,q2⟩:=KB (by rcases kE with k | k <;> (rw [k]; rfl))
  obtain ⟨i,hi⟩:∃ i:Nat,o.a=i:=⟨o.a.toNat,by omega⟩
  have hc:=K8 (G:=dQ) { x with j:=J2,s:=t,cr:=IntKind.i64.wrap (x.cr+1) } CG o i (by omega) hi
  simp only [bH,dz,aX,mJ,hn2,List.cons_append,List.nil_append] at hc
  have hA:g_ o x.sh=x.sh.set i kY:=by unfold g_; rw [if_neg Mt,if_pos kE,hi]; rfl
  have hL:kJ now o x.lines=x.lines:=by unfold kJ; rw [if_neg (by omega)]
  simp only [hA,hL]
  have hm:(if o.kind=13 then some (rn (bB [0,1,2,3,4,5,6,7] 10) Da) else if o.kind=2 then some (rn (bB [0,1,2,3,4,5,6,7] 10) wJ) else if o.kind=15 then some (rn (bB [0,1,2,3,4,5,6,7] 10) wJ) else if o.kind=7 then some (rn (bB [0,1,2,3,4,5,6,7] 10) n_) else if o.kind=8 then some (rn (bB [0,1,2,3,4,5,6,7] 10) n_) else none)=some (rn (bB [0,1,2,3,4,5,6,7] 10) wJ):=by rcases kE with k | k <;> (rw [k]; rfl)
  simp only [hm]
  simp only [wJ,go_sem,simprocAttr]
  refine av rfl ?_
  simp only [go_sem,simprocAttr]
  refine aK [0,1,2,3,4,5,6,7,10] (hc) rfl ?_ (by decide) ?_ ?_ (by simp) ?_ <;> simp only [ah,ai,go_sem,simprocAttr,bA,bN,aP,bh]
 by_cases kF:o.kind=7∨o.kind=8
 ·obtain ⟨q1,q2⟩:=Wj (by rcases kF with k | k <;> (rw [k]; rfl))
  obtain ⟨i,hi⟩:∃ i:Nat,o.a=i:=⟨o.a.toNat,by omega⟩
  have hc:=D8 (G:=dQ) { x with j:=J2,s:=t,cr:=IntKind.i64.wrap (x.cr+1) } now o i (by show i<x.lines.length; omega) hi
  simp only [bH,dz,aX,mJ,hn2,List.length_set,List.cons_append,List.nil_append] at hc
  have hA:g_ o x.sh=x.sh:=by unfold g_; rw [if_neg Mt,if_neg kE]
  have hL:kJ now o x.lines=x.lines.set i (yW now o.kind (x.lines.getD i eF)):=by unfold kJ; rw [if_pos kF,hi]; rfl
  simp only [hA,hL,List.length_set]
  have hm:(if o.kind=13 then some (rn (bB [0,1,2,3,4,5,6,7] 10) Da) else if o.kind=2 then some (rn (bB [0,1,2,3,4,5,6,7] 10) wJ) else if o.kind=15 then some (rn (bB [0,1,2,3,4,5,6,7] 10) wJ) else if o.kind=7 then some (rn (bB [0,1,2,3,4,5,6,7] 10) n_) else if o.kind=8 then some (rn (bB [0,1,2,3,4,5,6,7] 10) n_) else none)=some (rn (bB [0,1,2,3,4,5,6,7] 10) n_):=by rcases kF with k | k <;> (rw [k]; rfl)
  simp only [hm]
  simp only [n_,go_sem,simprocAttr]
  refine av rfl ?_
  simp only [go_sem,simprocAttr]
  refine aK [0,1,2,3,4,5,6,7,10,11] (hc) rfl ?_ (by decide) ?_ ?_ (by simp) ?_ <;> simp only [ah,ai,go_sem,simprocAttr,bA,bN,aP,bh]
 have hA:g_ o x.sh=x.sh:=by unfold g_; rw [if_neg Mt,if_neg kE]
 have hL:kJ now o x.lines=x.lines:=by unfold kJ; rw [if_neg kF]
 simp only [hA,hL]
 rw [not_or] at kE kF
 simp only [Mt,kE.1,kE.2,kF.1,kF.2,go_sem,simprocAttr]
 refine av rfl ?_
 simp only [go_sem,simprocAttr]
end Dv
namespace Dv
open Go Go.Proofs
def Vh:Nat×C×List RV:=(55,
(.seq (.af [qo 3 (.box 23 (.t 0)),
 qo 6 (.new 30 [(.val (.slice none 0 0)),(.val (.slice none 0 0)),q0,q0,q0,q0]),
 qo 7 (.mv qf)])
 (.seq (.af [qo 15 (.bP 9 (.t 3)),
 qo 16 (.call (.f 15) [(.t 15)]),
 qo 8 (.new 30 [(.val (.slice none 0 0)),(.val (.slice none 0 0)),q0,q0,q0,q0]),
 qn (.st 6 (.t 8) (.t 16))])
 (.seq (.seq (.af [qm 17 1,
 qo 18 (.len (.t 17)),
 qo 19 (.bin .gtr (.t 18) (qk 0))])
 (.cond (.t 19) (.seq (.af [qo 9 (.mv qf)])
 (.seq (.af [qo 21 (.bP 9 (.t 3)),
 qm 22 1,
 qo 23 (.call (.f 132) [(.t 21),(.t 22)]),
 qm 20 23,
 qo 24 (.ext (.t 20) 0),
 qo 25 (.ext (.t 20) 1),
 qn (.st 6 (.t 8) (.t 24)),
 qm 9 25])
 (.seq (.af [qm 26 9,
 qo 27 (.not (.t 26))])
 (.cond (.t 27) (.seq (.af [qo 28 (.build [(.val (.slice none 0 0)),(.val (.slice none 0 0)),q0,q0,q0,q0] []),
 qn (.st 6 (.t 6) (.t 28)),
 qo 7 (.mv qf)])
 .ret)
 .skip))))
 .skip))
 (.seq (.seq (.af [qm 29 2,
 qo 30 (.len (.t 29)),
 qo 31 (.mv (qk 0))])
 (.block 0 (.loop (.seq (.af [qo 32 (.bin .lss (.t 31) (.t 30))])
 (.seq (.cond (.t 32) .skip
 (.exit 0))
 (.seq (.block 1 (.seq (.af [qo 33 (.eG 1 (.t 29) (.t 31)),
 qo 34 (.ld1 (.t 33)),
 qm 11 34])
 (.seq (.af [qm 36 11,
 qo 37 (.call (.f 133) [(.t 36)]),
 qm 35 37,
 qo 38 (.ext (.t 35) 0),
 qo 39 (.ext (.t 35) 1),
 qo 12 (.new 37 [q0,q0,q0,q0,q0,q0,q0]),
 qn (.st 7 (.t 12) (.t 38)),
 qm 13 39])
 (.seq (.seq (.af [qm 40 13,
 qo 41 (.not (.t 40))])
 (.cond (.t 41) (.seq (.af [qo 42 (.build [(.val (.slice none 0 0)),(.val (.slice none 0 0)),q0,q0,q0,q0] []),
 qn (.st 6 (.t 6) (.t 42)),
 qo 7 (.mv qf)])
 .ret)
 .skip))
 (.seq (.af [qo 14 (.mv (qk 0))])
 (.seq (.af [qo 44 (.bP 9 (.t 3)),
 qo 45 (.bP 6 (.t 8)),
 qo 46 (.bP 7 (.t 12)),
 qo 47 (.call (.f 24) [(.t 44),(.t 45),(.t 46)]),
 qm 43 47,
 qo 48 (.ext (.t 43) 0),
 qo 49 (.ext (.t 43) 1),
 qn (.st 6 (.t 8) (.t 48)),
 qm 14 49])
 (.seq (.af [qm 50 14,
 qo 51 (.bin .neq (.t 50) (qk 0))])
 (.cond (.t 51) (.seq (.af [qo 52 (.build [(.val (.slice none 0 0)),(.val (.slice none 0 0)),q0,q0,q0,q0] []),
 qn (.st 6 (.t 6) (.t 52)),
 qo 7 (.mv qf)])
 .ret)
 .skip))))))))
 (.af [qo 53 (.bin .add (.t 31) (qk 1)),
 qm 31 53])))))))
 (.seq (.af [qo 54 (.bP 6 (.t 8)),
 qn (.st 6 (.t 6) (.t 54)),
 qo 7 (.mv qt)])
 .ret))))),
[(.cn 6 6),(.t 7)])
theorem SV:aq Tryz.prog Tryz.f99=some Vh:=by kernel_rfl
def VB:Nat×C×List RV:=(122,
(.seq (.af [qo 4 (.box 23 (.t 0)),
 qo 8 (.mv (.c (.val (.pointer none)))),
 qo 9 (.mv (qk 0))])
 (.seq (.seq (.af [qo 20 (.bP 9 (.t 4)),
 qo 21 (.call (.f 64) [(.t 20)]),
 qo 22 (.not (.t 21)),
 qm 23 22,
 qg 24 (.mv (.t 1)) 23 false,
 qg 25 (.call (.f 79) [(.t 24)]) 23 false,
 qg 26 (.bin .lss (.t 25) (qk 64)) 23 false,
 qo 27 (.pick (.t 23) qt (.t 26)),
 qm 28 27,
 qg 29 (.mv (.t 2)) 28 false,
 qg 30 (.ic false (.t 29)) 28 false,
 qo 31 (.pick (.t 28) qt (.t 30)),
 qm 32 31,
 qg 33 (.mv (.t 3)) 32 false,
 qg 34 (.call (.f 98) [(.t 33)]) 32 false,
 qg 35 (.not (.t 34)) 32 false,
 qo 36 (.pick (.t 32) qt (.t 35))])
 (.cond (.t 36) (.seq (.af [qo 8 (.mv (.c (.val (.pointer none)))),
 qo 9 (.mv (qk 1))])
 .ret)
 .skip))
 (.seq (.af [qm 38 1,
 qo 39 (.call (.f 29) [(.t 38)]),
 qm 37 39,
 qo 40 (.ext (.t 37) 0),
 qo 41 (.ext (.t 37) 1),
 qo 42 (.ext (.t 37) 2),
 qo 43 (.ext (.t 37) 3),
 qm 10 40,
 qm 11 41,
 qm 12 42,
 qm 13 43])
 (.seq (.af [qo 45 (.bP 9 (.t 4)),
 qm 46 11,
 qm 47 12,
 qo 48 (.call (.f 99) [(.t 45),(.t 46),(.t 47)]),
 qm 44 48,
 qo 49 (.ext (.t 44) 0),
 qo 50 (.ext (.t 44) 1),
 qo 14 (.new 30 [(.val (.slice none 0 0)),(.val (.slice none 0 0)),q0,q0,q0,q0]),
 qn (.st 6 (.t 14) (.t 49)),
 qm 15 50])
 (.seq (.seq (.af [qm 51 15,
 qo 52 (.not (.t 51))])
 (.cond (.t 52) (.seq (.af [qo 8 (.mv (.c (.val (.pointer none)))),
 qo 9 (.mv (qk 2))])
 .ret)
 .skip))
 (.seq (.af [qo 53 (.bP 9 (.t 4)),
 qm 54 1,
 qm 55 10,
 qm 56 2,
 qo 57 (.bP 6 (.t 14)),
 qo 58 (.build [q0,q0,q0,q0,q0,q0,q0,q0,q0,(.val (.pointer none)),(.val (.pointer none)),(.val (.pointer none)),(.val (.slice none 0 0)),(.val (.slice none 0 0)),q0,q0,q0,q0,(.val (.slice none 0 0)),(.val (.bool false)),q0] [(0,9,(.t 53)),(9,1,(.t 54)),(10,1,(.t 55)),(11,1,(.t 56)),(12,6,(.t 57))]),
 qo 59 (.box 195 (.t 58)),
 qm 16 59])
 (.seq (.seq (.af [qo 60 (.aj 0 (.t 14)),
 qo 61 (.ld1 (.t 60)),
 qo 62 (.len (.t 61)),
 qo 63 (.mv (qk 0))])
 (.block 0 (.loop (.seq (.af [qo 64 (.bin .lss (.t 63) (.t 62))])
 (.seq (.cond (.t 64) .skip
 (.exit 0))
 (.seq (.block 1 (.af [qm 65 16,
 qm 66 16,
 qo 67 (.aV (.t 66)),
 qo 68 (.aj 18 (.t 67)),
 qo 69 (.ld1 (.t 68)),
 qm 70 3,
 qo 71 (.build [q0,(.val (.bool false)),q0,q0,q0,q0,q0,q0,q0,q0,q0,q0,q0,q0,q0,q0,q0,q0,q0,q0,q0,q0,q0,q0,q0,q0] [(14,1,(.t 70))]),
 qo 72 (.nh 197 26 [(.t 71)]),
 qo 73 (.app 197 26 208 (.t 69) (.t 72)),
 qo 74 (.aV (.t 65)),
 qo 75 (.aj 18 (.t 74)),
 qn (.st 1 (.t 75) (.t 73))]))
 (.af [qo 76 (.bin .add (.t 63) (qk 1)),
 qm 63 76])))))))
 (.seq (.seq (.af [qm 77 16,
 qo 78 (.build [q0,q0,q0,q0,q0,q0,q0] [(0,1,(qk 21))]),
 qm 79 3,
 qo 80 (.call (.f 100) [(.t 77),(.t 78),(.t 79)]),
 qm 17 80])
 (.seq (.af [qm 81 17,
 qo 82 (.bin .neq (.t 81) (qk 0))])
 (.cond (.t 82) (.seq (.af [qm 83 17,
 qo 8 (.mv (.c (.val (.pointer none)))),
 qm 9 83])
 .ret)
 .skip)))
 (.seq (.af [qm 84 2,
 qm 85 16,
 qo 86 (.aV (.t 85)),
 qo 87 (.aj 12 (.t 86)),
 qo 88 (.aj 5 (.t 87)),
 qo 89 (.ld1 (.t 88)),
 qo 90 (.call (.f 101) [(.t 84),(.t 89)])])
 (.seq (.seq (.af [qm 91 16,
 qo 92 (.aV (.t 91)),
 qo 93 (.aj 12 (.t 92)),
 qo 94 (.aj 1 (.t 93)),
 qo 95 (.ld1 (.t 94)),
 qo 96 (.len (.t 95)),
 qo 97 (.mv (qk 0))])
 (.block 2 (.loop (.seq (.af [qo 98 (.bin .lss (.t 97) (.t 96))])
 (.seq (.cond (.t 98) .skip
 (.exit 2))
 (.seq (.block 3 (.seq (.af [qm 99 97,
 qo 100 (.eG 12 (.t 95) (.t 97)),
 qo 101 (.bP 12 (.t 100)),
 qo 19 (.new 119 [q0,q0,q0,q0,q0,q0,q0,q0,q0,q0,q0,q0]),
 qm 18 99,
 qn (.st 12 (.t 19) (.t 101))])
 (.block 4 (.seq (.af [qo 103 (.aj 6 (.t 19)),
 qo 104 (.ld1 (.t 103)),
 qo 105 (.bin .eql (.t 104) (qk 4)),
 qm 102 105])
 (.cond (.t 102) (.af [qm 106 2,
 qm 107 18,
 qo 108 (.bin .add (.t 107) (qk 1)),
 qo 109 (.call (.f 102) [(.t 106),(.t 108)])])
 (.seq (.af [qo 111 (.aj 11 (.t 19)),
 qo 112 (.ld1 (.t 111)),
 qo 113 (.bin .neq (.t 112) (qk 0)),
 qm 110 113])
 (.cond (.t 110) (.af [qm 114 2,
 qm 115 18,
 qo 116 (.bin .add (.t 115) (qk 1)),
 qo 117 (.aj 11 (.t 19)),
 qo 118 (.ld1 (.t 117)),
 qo 119 (.call (.f 103) [(.t 114),(.t 116),(.t 118)])])
 .skip)))))))
 (.af [qo 120 (.bin .add (.t 97) (qk 1)),
 qm 97 120])))))))
 (.seq (.af [qm 121 16,
 qm 8 121,
 qo 9 (.mv (qk 0))])
 .ret))))))))))),
[(.t 8),(.t 9)])
theorem Tl:aq Tryz.prog Tryz.f37=some VB:=by kernel_rfl
theorem EB (o:cH) (l:List ni):(g_ o l).length=l.length:=by
 unfold g_
 split
 ·rw [List.length_set]
 split
 ·rw [List.length_set]
 ·rfl
theorem HZ (now:Int) (o:cH) (l:List lS):(kJ now o l).length=l.length:=by
 unfold kJ
 split
 ·rw [List.length_set]
 ·rfl
theorem Ig.note {x:aQ} (h:Ig x) (o:cH) (now:Int):Ig (x.eu o now):=by
 unfold aQ.eu
 split
 ·rename_i he
  obtain ⟨h1,h2,h3⟩:=wF he
  have hr:=Cq h.right o
  have h4:=h.right.nodes
  have h5:=hr.nodes
  refine ⟨hr,(h.JX o).add (I_ o) h2,by show (g_ o x.sh).length=25; rw [EB,h.sh],?_⟩
  show (kJ now o x.lines).length=(bO x.c x.s o).1.nodes.length
  rw [HZ,h.lines]
  omega
 ·exact ⟨h.right,h.JX o,h.sh,h.lines⟩
def aQ.Za (x:aQ) (o:cH):Int:=if 1≤o.kind∧o.kind≤6 then x.e_ o else 1
def aQ.XP (x:aQ) (o:cH) (now:Int):aQ:=if 1≤o.kind∧o.kind≤6 then x.eu o now else x
theorem Dt (x:aQ) (o:cH) (now:Int):(x.eu o now).down=x.down:=by unfold aQ.eu; split <;> rfl
theorem E8 (x:aQ) (o:cH) (now:Int):(x.eu o now).c=x.c:=by unfold aQ.eu; split <;> rfl
theorem E7 (x:aQ) (o:cH) (now:Int):(x.eu o now).j.n=x.j.n:=by
 have h:(x.gA o).n=x.j.n:=by
  unfold aQ.gA aQ.JX
  split
  ·rfl
  split
  ·rfl
  ·exact mO.Dm _ _
 unfold aQ.eu
 split
 ·exact h
 ·exact h
theorem Pk (x:aQ) (h:Ig x) (hd:x.down=false) (o:cH) (now:Int):bw Tryz.prog dQ 43 [.ptr 0 0,uN o,.int now] (bH x) (.int (x.Za o)) (bH (x.XP o now)):=by
 have ha:=mI (G:=dQ) x
 have hop:=xH (G:=dQ) o
 have hn:=vN x h o now
 have hn2:=E7 x o now
 rw [hd] at ha
 unfold aQ.Za aQ.XP
 generalize x.eu o now=y at *
 generalize x.e_ o=e at *
 simp only [bH,dz,aX,List.cons_append,List.nil_append] at ha hn
 by_cases hk:1≤o.kind∧o.kind≤6
 ·simp only [hk,and_self,if_true]
  simp only [hk,and_self,decide_true] at hop
  refine aR Tryz.func43 (by decide) J8 rfl rfl (bS _ (Nat.le_refl 8) _) rfl ?_
  simp only [bH,dz,aX,Tw,go_sem,simprocAttr]
  refine gy [0,1,2,3,4,5,6,7] (ha) rfl ?_ (by decide) ?_ ?_ ?_ <;> simp only [ah,ai,go_sem,simprocAttr,bA,bN,aP,bh]
  refine aC (hop) rfl rfl rfl rfl ?_; simp only [go_sem,simprocAttr]
  refine aK [0,1,2,3,4,5,6,7] (hn) rfl ?_ (by decide) ?_ ?_ (by simp) ?_ <;> simp only [ah,ai,go_sem,simprocAttr,bA,bN,aP,bh]
 ·simp only [hk,if_false]
  simp only [hk,decide_false] at hop
  refine aR Tryz.func43 (by decide) J8 rfl rfl (bS _ (Nat.le_refl 8) _) rfl ?_
  simp only [bH,dz,aX,Tw,go_sem,simprocAttr]
  refine gy [0,1,2,3,4,5,6,7] (ha) rfl ?_ (by decide) ?_ ?_ ?_ <;> simp only [ah,ai,go_sem,simprocAttr,bA,bN,aP,bh]
  refine aC (hop) rfl rfl rfl rfl ?_; simp only [go_sem,simprocAttr]
theorem Gq (c:aH):bw Tryz.prog dQ 99 [gK c,au [],.d (.dY 1 [])] [] (.dP [bp (dJ c),.bool true]) []:=by
 have hn:=Mm (G:=dQ) c
 refine bn Tryz.func99 (by decide) SV rfl rfl ?_
 simp only [au,aA,Vh,go_sem,simprocAttr]
 refine aC (hn) rfl rfl rfl rfl ?_; simp only [go_sem,simprocAttr]
 refine aY [3,6,7,8,29,30,31] [] (fun k:Nat=>k=0) (fun k=>1-k) (fun _=>⟨[(3,.ptr 0 0),(6,.ptr 1 0),(7,.bool false),(8,.ptr 2 0),(29,.d (.dY 1 [])),(30,.int 0),(31,.int 0)],[some (.box 23 [.int c.nodes,.int c.bG,.int c.cD,.int c.wave,.int c.b_,.int c.eE,.int c.deadline,.int c.room,.int c.fG]),some (.box 30 [.d (.val (.slice none 0 0)),.d (.val (.slice none 0 0)),.int 0,.int 0,.int 0,.int 0]),some (.box 30 [bZ (dJ c).nodes,dg (dJ c).jobs,.int (dJ c).goal,.int (dJ c).prior,.int (dJ c).mode,.int (dJ c).term])]⟩) 0 ?_ rfl (fun k hk=>?_)
 ·simp only [go_sem,simprocAttr]
 simp only [go_sem,simprocAttr]
end Dv
namespace Dv
open Go Go.Proofs
def je:cH:=⟨21,0,0,0,0,0,0⟩
def SR (now:Int):lS:=⟨0,false,mc,0,now,mc⟩
def tj (c:aH) (n:Nat) (s room term:Int) (sh:List ni) (wr now:Int):aQ:=⟨c,dJ c,⟨n,List.replicate n 0,IntKind.i64.wrap (s+1),0,-1,0⟩,room,term,sh,wr,List.replicate (dJ c).nodes.length (SR now),false,0⟩
def aQ.K4 (x:aQ):aQ:={ x with term:=if x.s.term>x.term then x.s.term else x.term }
def Pe (c:aH) (n:Nat) (s room term:Int) (sh:List ni) (wr now:Int):aQ:=((tj c n s room term sh wr now).eu je now).K4
def FI (x:aQ):aD:=.box 195 [.int x.c.nodes,.int x.c.bG,.int x.c.cD,.int x.c.wave,.int x.c.b_,.int x.c.eE,.int x.c.deadline,.int x.c.room,.int x.c.fG,.ptr 0 0,.ptr 5 0,.ptr 2 0,bZ x.s.nodes,dg x.s.jobs,.int x.s.goal,.int x.s.prior,.int x.s.mode,.int x.s.term,.sl 4 x.lines.length 26 0 x.lines.length,.bool x.down,.int x.cr]
def Cl (x:aQ):List aD:=[.box 150 [.sl 1 x.j.n 1 0 x.j.n,.d (.val (.slice none 0 0)),.int x.j.s],.dat 5 1 (aA x.j.l),.box 190 ([.int x.room,.int x.term]++(x.sh.flatMap pP++[.int x.wr])),FI x,aX x.lines,.box 160 [.ptr 0 0,.ptr 6 0,.ptr 7 0,.int x.j.cnt,.int x.j.cT],.box 243 [.ptr 0 0,.int 0,.int ((x.j.n / 4:Nat):Int)],.box 245 [.ptr 0 0,.int ((2*(x.j.n / 4):Nat):Int),.int ((x.j.n-2*(x.j.n / 4):Nat):Int),.int x.j.us]]
theorem HP (k:Nat) (hk:8≤k) (x:aQ):(Cl x).all (ei k)=true:=by
 have h:∀ i,i<8→i<k:=fun i hi=>by omega
 simp [Cl,FI,aX,List.all_cons,List.all_nil,ei,aP,bh,ej,dZ,LV.int,LV.bool,bZ,dg,h]
theorem AX {c:aH} (h:gL c=true):bO c (dJ c) je=({ dJ c with term:=1 },0):=by
 have hr:=(gG c (dJ c)).2 (pX h)
 rw [Cs hr (by decide) (by decide) (by decide)]
 have h0:(dJ c).term=0:=by unfold dJ; rw [if_pos h]
 show gq (dJ c)=_
 unfold gq
 rw [h0]
 rfl
theorem X5:gT je=[1,21]:=by decide +kernel
theorem KT {c:aH} (h:gL c=true) {n:Nat} (hn:64≤n∧n≤65536) (s room term:Int) (sh:List ni) (wr now:Int):(tj c n s room term sh wr now).e_ je=0:=by
 have hrm:(tj c n s room term sh wr now).j.room (gT je).length=true:=by
  rw [X5]
  show (decide (1≤2∧2≤3900)&&qT (n-2*(n / 4)) 0 (2+(cc 0).length))=true
  rw [show (cc 0).length=1 by decide +kernel]
  unfold qT
  rw [show (cc (2+1:Nat)).length=1 by decide +kernel]
  simp
  omega
 unfold aQ.e_ aQ.JX
 show (if (bO c (dJ c) je).2≠0 then (bO c (dJ c) je).2 else if (if (tj c n s room term sh wr now).j.room (gT je).length=true then (tj c n s room term sh wr now).j else (tj c n s room term sh wr now).j.pack (mY (dJ c))).room (gT je).length=true then 0 else 3)=0
 rw [AX h,if_neg (fun h=>h rfl),if_pos hrm,if_pos hrm]
theorem FK {c:aH} (h:gL c=true) {n:Nat} (hn:64≤n∧n≤65536) (s room term:Int) (sh:List ni) (hs:sh.length=25) (wr now:Int):Ig (tj c n s room term sh wr now):=
 ⟨pX h,⟨List.length_replicate,hn,uR _,Nat.zero_le _⟩,hs,List.length_replicate⟩
theorem HH {c:aH} (h:gL c=true) {n:Nat} (hn:64≤n∧n≤65536) (s room term:Int) (sh:List ni) (wr now:Int):((tj c n s room term sh wr now).eu je now).s = { dJ c with term:=1 }:=by
 unfold aQ.eu
 rw [if_pos (KT h hn s room term sh wr now)]
 show (bO c (dJ c) je).1=_
 rw [AX h]
def FO (c:aH) (n:Nat) (s room term:Int) (sh:List ni) (wr now:Int) (k:Nat):St:=⟨[(1,.ptr 0 0),(2,.ptr 2 0),(3,.int now),(4,.ptr 3 0),(8,.d (.val (.pointer none))),(9,.int 0),(16,.ptr 8 0),(62,.int (dJ c).nodes.length),(63,.int k)],
 [some (.box 150 [.sl 1 n 1 0 n,.d (.val (.slice none 0 0)),.int (IntKind.i64.wrap (s+1))]),some (.dat 5 1 (aA (List.replicate n 0))),some (.box 190 (.int room::.int term::(sh.flatMap pP++[.int wr]))),
  some (.box 23 [.int c.nodes,.int c.bG,.int c.cD,.int c.wave,.int c.b_,.int c.eE,.int c.deadline,.int c.room,.int c.fG]),
  some (.box 160 [.ptr 0 0,.ptr 5 0,.ptr 6 0,.int 0,.int (-1)]),some (.box 243 [.ptr 0 0,.int 0,.int ((n / 4:Nat):Int)]),some (.box 245 [.ptr 0 0,.int ((2*(n / 4):Nat):Int),.int ((n-2*(n / 4):Nat):Int),.int 0]),
  some (.box 30 [bZ (dJ c).nodes,dg (dJ c).jobs,.int (dJ c).goal,.int (dJ c).prior,.int (dJ c).mode,.int (dJ c).term]),
  some (.box 195 [.int c.nodes,.int c.bG,.int c.cD,.int c.wave,.int c.b_,.int c.eE,.int c.deadline,.int c.room,.int c.fG,.ptr 0 0,.ptr 4 0,.ptr 2 0,bZ (dJ c).nodes,dg (dJ c).jobs,.int (dJ c).goal,.int (dJ c).prior,.int (dJ c).mode,.int (dJ c).term,.sl 9 k 26 0 k,.bool false,.int 0]),
  some (aX (List.replicate k (SR now)))]⟩
def Ll (c:aH) (n:Nat) (y:aQ):List (Option aD):=
 [some (.box 150 [.sl 1 n 1 0 n,.d (.val (.slice none 0 0)),.int y.j.s]),some (.dat 5 1 (aA y.j.l)),some (.box 190 (.int y.room::.int (if y.s.term>y.term then y.s.term else y.term)::(y.sh.flatMap pP++[.int y.wr]))),
  some (.box 23 [.int c.nodes,.int c.bG,.int c.cD,.int c.wave,.int c.b_,.int c.eE,.int c.deadline,.int c.room,.int c.fG]),
  some (.box 160 [.ptr 0 0,.ptr 5 0,.ptr 6 0,.int y.j.cnt,.int y.j.cT]),some (.box 243 [.ptr 0 0,.int 0,.int ((n / 4:Nat):Int)]),some (.box 245 [.ptr 0 0,.int ((2*(n / 4):Nat):Int),.int ((n-2*(n / 4):Nat):Int),.int y.j.us]),
  some (.box 30 [bZ (dJ c).nodes,dg (dJ c).jobs,.int (dJ c).goal,.int (dJ c).prior,.int (dJ c).mode,.int (dJ c).term]),
  some (.box 195 [.int y.c.nodes,.int y.c.bG,.int y.c.cD,.int y.c.wave,.int y.c.b_,.int y.c.eE,.int y.c.deadline,.int y.c.room,.int y.c.fG,.ptr 0 0,.ptr 4 0,.ptr 2 0,bZ y.s.nodes,.d (.dY 12 []),.int y.s.goal,.int y.s.prior,.int y.s.mode,.int y.s.term,.sl 9 y.lines.length 26 0 y.lines.length,.bool y.down,.int y.cr]),
  some (aX y.lines)]
set_option maxHeartbeats 2000000 in
theorem HQ (c:aH) (hm:gL c=true) (n:Nat) (hn:64≤n∧n≤65536) (s room term:Int) (sh:List ni) (hs:sh.length=25) (wr now:Int) (DT:0≤now∧now≤1000000):bw Tryz.prog dQ 37 [gK c,.ptr 0 0,.ptr 2 0,.int now] (eV (List.replicate n 0) s++jA room term sh wr) (.dP [.ptr 3 0,.int 0]) (Cl (Pe c n s room term sh wr now)):=by
 have hlen:(List.replicate n (0:Int)).length=n:=List.length_replicate
 have hmay:=zT (G:=dQ) c
 rw [hm] at hmay
 have hsz:=jv (G:=dQ) (List.replicate n 0) s
 have Sa:=AW (G:=dQ) now
 rw [decide_eq_true DT] at Sa
 have hop:=DF (G:=dQ) n s hn
 have hrd:=Gq c
 have Fy:=vN (tj c n s room term sh wr now) (FK hm hn s room term sh hs wr now) je now
 have hjn:=E7 (tj c n s room term sh wr now) je now
 have hst:=HH hm hn s room term sh wr now
 rw [KT hm hn] at Fy
 unfold Pe
 have XF:(dJ c).nodes.length≤6:=(pX hm).len.2
 have hj0:(dJ c).jobs=[]:=by unfold dJ; rw [if_pos hm]
 generalize hy:(tj c n s room term sh wr now).eu je now=y at *
 have ZG:=vn (G:=dQ) y.room y.term y.sh y.wr y.s.term
 simp only [eV,hlen] at hsz hop
 simp only [Zr,au] at hop
 simp only [au] at hrd
 simp only [bH,dz,aX,tj,hjn,List.cons_append,List.nil_append] at Fy
 simp only [jA,List.cons_append,List.nil_append] at ZG
 refine cG Tryz.func37 (by decide) Tl rfl ?_
 simp only [eV,jA,hlen,VB,go_sem,simprocAttr]
 refine aC (hmay) rfl rfl rfl rfl ?_; simp only [go_sem,simprocAttr]
 refine aK [0,1] (hsz) rfl ?_ (by decide) ?_ ?_ (by simp) ?_ <;> simp only [ah,ai,go_sem,simprocAttr]
 simp only [decide_eq_false (show ¬ ((n:Nat):Int)<64 by omega),go_sem,simprocAttr]
 refine aC (Sa) rfl rfl rfl rfl ?_; simp only [go_sem,simprocAttr]
 refine aK [0,1] (hop) rfl ?_ (by decide) ?_ ?_ (by simp) ?_ <;> simp only [ah,ai,go_sem,simprocAttr]
 refine aC (hrd) rfl rfl rfl rfl ?_; simp only [go_sem,simprocAttr]
 refine aY [1,2,3,4,8,9,16,62,63] [.b 8 18 197 26] (fun k:Nat=>k≤(dJ c).nodes.length) (fun k=>(dJ c).nodes.length-k) (FO c n s room term sh wr now) 0 ?_ (Nat.zero_le _) (fun k hk=>?_)
 ·simp only [FO,aX,List.replicate_zero,Int.natCast_zero,go_sem,simprocAttr]
 simp only [FO,aX,go_sem,simprocAttr]
 by_cases hlt:k<(dJ c).nodes.length
 ·have fU:(List.replicate (k+1) (SR now)).map lW=(List.replicate k (SR now)).map lW++[lW (SR now)]:=by rw [List.replicate_succ',List.map_append]; rfl
  simp only [decide_eq_true (show ((k:Nat):Int)<(((dJ c).nodes.length:Nat):Int) by omega),go_sem,simprocAttr]
  have Ae:lW (SR now)=[i64 0,bl false,i64 0,i64 0,i64 0,i64 0,i64 0,i64 0,i64 0,i64 0,i64 0,i64 0,i64 0,i64 0,i64 now,i64 0,i64 0,i64 0,i64 0,i64 0,i64 0,i64 0,i64 0,i64 0,i64 0,i64 0]:=rfl
  have c1:(k+1)*208≤70368744177664:=by omega
  simp only [List.length_append,List.length_replicate,c1,go_sem,simprocAttr]
  refine bz (k+1) ?_ ?_ (show k+1≤(dJ c).nodes.length by omega) (show (dJ c).nodes.length-(k+1)<(dJ c).nodes.length-k by omega)
  ·simp only [aP,bh,go_sem,simprocAttr]
  ·simp only [aG (show k<9223372036854775807 by omega),fU,Ae,FO,aX,go_sem,simprocAttr]
 obtain rfl:k=(dJ c).nodes.length:=by omega
 simp only [decide_eq_false (show ¬ (((dJ c).nodes.length:Nat):Int)<(((dJ c).nodes.length:Nat):Int) by omega),go_sem,simprocAttr]
 simp only [je,List.length_replicate] at Fy
 refine aK [8,4,0,5,6,1,2,9] (Fy) rfl ?_ (by decide) ?_ ?_ (by simp) ?_ <;> simp only [ah,ai,go_sem,simprocAttr,bA,bN,aP,bh]
 have Xz:y.s.jobs=[]:=by rw [hst]; exact hj0
 refine aK [2] (ZG) rfl ?_ (by decide) ?_ ?_ (by simp) ?_ <;> simp only [ah,ai,go_sem,simprocAttr,bA,bN,aP,bh]
 simp only [Xz,Int.natCast_zero,go_sem,simprocAttr]
 refine aY [8,9,16,95,96,97] [] (fun k:Nat=>k=0) (fun k=>1-k) (fun _=>⟨[(8,.d (.val (.pointer none))),(9,.int 0),(16,.ptr 8 0),(95,.d (.dY 12 [])),(96,.int 0),(97,.int 0)],Ll c n y⟩) 0 ?_ rfl (fun k hk=>?_)
 ·simp only [Ll,aX,go_sem,simprocAttr]
 subst hk
 simp only [Ll,aX,go_sem,simprocAttr]
 have hid:=HP 8 (Nat.le_refl 8) y.K4
 simp only [aQ.K4,Cl,FI,aX,hjn,Xz,List.map_nil,bZ,dg,LV.int,LV.bool] at hid ⊢
 refine dF [] [0,1,2,8,9,4,5,6] [] (vs:=[.ptr 8 0,.int 0]) rfl rfl (by decide) (by simp) (by simp) ?_ hid ?_
 ·simp only [List.map_cons,List.map_nil,fc,lU,bA,bN]
  rfl
 simp [aW,ai,ah,LV.int]
end Dv
