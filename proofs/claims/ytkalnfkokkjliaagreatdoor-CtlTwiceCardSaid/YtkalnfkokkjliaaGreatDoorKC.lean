/- part -/
import Derived.Test.YtkalnfkokkjliaaGreatDoorQD
import Derived.Test.YtkalnfkokkjliaaGreatDoorAB
set_option linter.all false
set_option maxHeartbeats 8000000
set_option maxRecDepth 100000
namespace Dv
open Go Go.Proofs
def abu:Nat×C×List RV:=(184,
(.seq (.iJ [qo 2 (.box 23 (.t 0)),
 qo 4 (.mv qf)])
 (.seq (.seq (.iJ [qo 18 (.call (.f 26) []),
 qo 19 (.not (.t 18))])
 (.cond (.t 19) (.seq (.iJ [qo 4 (.mv qf)])
 .ret)
 .skip))
 (.seq (.seq (.iJ [qo 20 (.Bi 9 (.t 2)),
 qm 21 1,
 qo 22 (.call (.f 41) [(.t 20),(.t 21)]),
 qo 23 (.not (.t 22))])
 (.cond (.t 23) (.seq (.iJ [qo 4 (.mv qt)])
 .ret)
 .skip))
 (.seq (.jA [qo 24 (.eO 8 (.t 2)),
 qd 25 (.ld1 (.t 24)) [0],
 qd 26 (.call (.f 27) [(.t 25)]) [1,0],
 qo 27 (.eO 7 (.t 2)),
 qd 28 (.ld1 (.t 27)) [3],
 qd 29 (.call (.f 35) [(.t 28)]) [4,3,2,1,0],
 qd 5 (.mv (.t 26)) [2,1,0,5,4,3],
 qd 6 (.mv (.t 29)) [5,4,3,2,1,0,6]])
 (.seq (.iJ [qo 31 (.Bi 9 (.t 2)),
 qm 32 5,
 qm 33 6,
 qo 34 (.call (.f 37) [(.t 31),(.t 32),(.t 33),(qk 0)]),
 qm 30 34,
 qo 35 (.ext (.t 30) 0),
 qo 36 (.ext (.t 30) 1),
 qm 7 35,
 qm 8 36])
 (.seq (.seq (.iJ [qo 9 (.mv (qk 0))])
 (.block 0 (.loop (.seq (.seq (.iJ [qm 37 9,
 qm 38 1,
 qo 39 (.len (.t 38)),
 qo 40 (.bin .lss (.t 37) (.t 39)),
 qm 41 40,
 qg 42 (.mv (.t 8)) 41 true,
 qg 43 (.bin .eql (.t 42) (qk 0)) 41 true,
 qo 44 (.pick (.t 41) (.t 43) qf)])
 (.cond (.t 44) .skip
 (.exit 0)))
 (.seq (.block 1 (.seq (.seq (.iJ [qm 47 1,
 qm 48 9,
 qo 49 (.A3 26 (.t 47) (.t 48)),
 qo 50 (.eO 0 (.t 49)),
 qo 51 (.ld1 (.t 50)),
 qo 52 (.bin .eql (.t 51) (qk 0))])
 (.cond (.t 52) (.jA [qm 53 7,
 qm 54 1,
 qm 55 9,
 qd 56 (.A3 26 (.t 54) (.t 55)) [1,2],
 qd 57 (.eO 3 (.t 56)) [3,1,2],
 qd 58 (.Bi 7 (.t 57)) [4,3,1,2],
 qm 59 1,
 qm 60 9,
 qd 61 (.A3 26 (.t 59) (.t 60)) [6,7],
 qd 62 (.eO 1 (.t 61)) [8,6,7],
 qd 63 (.ld1 (.t 62)) [9,8,6,7],
 qd 64 (.call (.f 43) [(.t 53),(.t 58),(.t 63)]) [0,5,4,3,1,2,10,9,8,6,7]])
 .skip))
 (.seq (.iJ [qm 65 1,
 qm 66 9,
 qo 67 (.A3 26 (.t 65) (.t 66)),
 qo 68 (.eO 0 (.t 67)),
 qo 69 (.ld1 (.t 68)),
 qo 70 (.bin .eql (.t 69) (qk 1))])
 (.cond (.t 70) (.iJ [qm 71 7,
 qm 72 1,
 qm 73 9,
 qo 74 (.A3 26 (.t 72) (.t 73)),
 qo 75 (.eO 1 (.t 74)),
 qo 76 (.ld1 (.t 75)),
 qo 77 (.call (.f 44) [(.t 71),(.t 76)])])
 .skip))))
 (.iJ [qm 45 9,
 qo 46 (.bin .add (.t 45) (qk 1)),
 qm 9 46]))))))
 (.seq (.seq (.iJ [qm 78 8,
 qo 79 (.bin .neq (.t 78) (qk 0))])
 (.cond (.t 79) (.seq (.iJ [qo 4 (.mv qf)])
 .ret)
 .skip))
 (.seq (.iJ [qm 80 7,
 qo 81 (.call (.f 39) [(.t 80)]),
 qo 10 (.new 30 [(.val (.slice none 0 0)),(.val (.slice none 0 0)),q0,q0,q0,q0]),
 qn (.st 6 (.t 10) (.t 81))])
 (.seq (.iJ [qo 83 (.Bi 9 (.t 2)),
 qm 84 5,
 qm 85 6,
 qo 86 (.call (.f 37) [(.t 83),(.t 84),(.t 85),(qk 0)]),
 qm 82 86,
 qo 87 (.ext (.t 82) 0),
 qo 88 (.ext (.t 82) 1),
 qm 11 87,
 qm 12 88])
 (.seq (.iJ [qo 90 (.Bi 9 (.t 2)),
 qm 91 5,
 qm 92 6,
 qo 93 (.call (.f 37) [(.t 90),(.t 91),(.t 92),(qk 0)]),
 qm 89 93,
 qo 94 (.ext (.t 89) 0),
 qo 95 (.ext (.t 89) 1),
 qm 13 94,
 qm 14 95])
 (.seq (.seq (.iJ [qm 96 12,
 qo 97 (.bin .neq (.t 96) (qk 0)),
 qm 98 97,
 qg 99 (.mv (.t 14)) 98 false,
 qg 100 (.bin .neq (.t 99) (qk 0)) 98 false,
 qo 101 (.pick (.t 98) qt (.t 100))])
 (.cond (.t 101) (.seq (.iJ [qm 102 12,
 qo 103 (.bin .eql (.t 102) (qk 3)),
 qm 104 103,
 qg 105 (.mv (.t 14)) 104 false,
 qg 106 (.bin .eql (.t 105) (qk 3)) 104 false,
 qo 107 (.pick (.t 104) qt (.t 106)),
 qm 4 107])
 .ret)
 .skip))
 (.seq (.iJ [qo 108 (.eO 5 (.t 10)),
 qo 109 (.ld1 (.t 108)),
 qo 110 (.bin .add (.t 109) (qk 1)),
 qo 111 (.eO 5 (.t 10)),
 qn (.st 1 (.t 111) (.t 110))])
 (.seq (.seq (.jA [qm 112 11,
 qd 113 (.call (.f 39) [(.t 112)]) [0],
 qo 114 (.Bi 6 (.t 10)),
 qd 115 (.call (.f 20) [(.t 113),(.t 114)]) [1,0,2],
 qd 116 (.not (.t 115)) [3,1,0,2]])
 (.cond (.t 116) (.seq (.iJ [qo 4 (.mv qf)])
 .ret)
 .skip))
 (.seq (.iJ [qo 117 (.eO 5 (.t 10)),
 qo 118 (.ld1 (.t 117)),
 qo 119 (.bin .add (.t 118) (qk 1)),
 qo 120 (.eO 5 (.t 10)),
 qn (.st 1 (.t 120) (.t 119))])
 (.seq (.iJ [qm 122 13,
 qo 123 (.call (.f 44) [(.t 122),(qk 0)]),
 qm 121 123,
 qo 124 (.ext (.t 121) 0),
 qo 125 (.ext (.t 121) 1),
 qo 15 (.new 37 [q0,q0,q0,q0,q0,q0,q0]),
 qn (.st 7 (.t 15) (.t 124)),
 qm 16 125])
 (.seq (.seq (.iJ [qo 17 (.mv (qk 0))])
 (.block 2 (.loop (.seq (.seq (.iJ [qm 126 17,
 qm 127 16,
 qo 128 (.len (.t 127)),
 qo 129 (.bin .lss (.t 126) (.t 128))])
 (.cond (.t 129) .skip
 (.exit 2)))
 (.seq (.block 3 (.seq (.jA [qm 132 16,
 qm 133 17,
 qd 134 (.A3 11 (.t 132) (.t 133)) [0,1],
 qd 135 (.eO 2 (.t 134)) [2,0,1],
 qd 136 (.ld1 (.t 135)) [3,2,0,1],
 qo 137 (.eO 5 (.t 10)),
 qd 138 (.ld1 (.t 137)) [5],
 qd 139 (.bin .neq (.t 136) (.t 138)) [4,3,2,0,1,6,5],
 qd 140 (.mv (.t 139)) [7,4,3,2,0,1,6,5],
 qe 141 (.mv (.t 13)) 140 false [8,7,4,3,2,0,1,6,5],
 qe 142 (.mv (.t 16)) 140 false [8,7,4,3,2,0,1,6,5],
 qe 143 (.mv (.t 17)) 140 false [8,7,4,3,2,0,1,6,5],
 qe 144 (.A3 11 (.t 142) (.t 143)) 140 false [10,8,7,4,3,2,0,1,6,5,11],
 qe 145 (.eO 0 (.t 144)) 140 false [12,10,8,7,4,3,2,0,1,6,5,11],
 qe 146 (.ld1 (.t 145)) 140 false [13,12,10,8,7,4,3,2,0,1,6,5,11],
 qe 147 (.eO 5 (.t 10)) 140 false [8,7,4,3,2,0,1,6,5],
 qe 148 (.ld1 (.t 147)) 140 false [15,8,7,4,3,2,0,1,6,5],
 qe 149 (.bin .sub (.t 148) (qk 1)) 140 false [16,15,8,7,4,3,2,0,1,6,5],
 qe 150 (.mv (.t 16)) 140 false [8,7,4,3,2,0,1,6,5],
 qe 151 (.mv (.t 17)) 140 false [8,7,4,3,2,0,1,6,5],
 qe 152 (.A3 11 (.t 150) (.t 151)) 140 false [18,8,7,4,3,2,0,1,6,5,19],
 qe 153 (.eO 3 (.t 152)) 140 false [20,18,8,7,4,3,2,0,1,6,5,19],
 qe 154 (.ld1 (.t 153)) 140 false [21,20,18,8,7,4,3,2,0,1,6,5,19],
 qe 155 (.build [q0,q0,q0,q0,q0,q0,q0,q0,q0,q0,q0] [(0,1,(.t 146)),(1,1,(qk 6)),(2,1,(.t 149)),(3,1,(.t 154))]) 140 false [14,13,12,10,8,7,4,3,2,0,1,6,5,11,17,16,15,22,21,20,18,19],
 qe 156 (.call (.f 45) [(.t 141),(.t 155),(qk 0)]) 140 false [9,8,7,4,3,2,0,1,6,5,23,14,13,12,10,11,17,16,15,22,21,20,18,19],
 qe 157 (.mv (.t 156)) 140 false [24,9,8,7,4,3,2,0,1,6,5,23,14,13,12,10,11,17,16,15,22,21,20,18,19],
 qe 158 (.mv (.t 13)) 157 true [25,24,9,8,7,4,3,2,0,1,6,5,23,14,13,12,10,11,17,16,15,22,21,20,18,19],
 qe 159 (.call (.f 39) [(.t 158)]) 157 true [26,25,24,9,8,7,4,3,2,0,1,6,5,23,14,13,12,10,11,17,16,15,22,21,20,18,19],
 qe 160 (.MB 0 (.t 159)) 157 true [27,26,25,24,9,8,7,4,3,2,0,1,6,5,23,14,13,12,10,11,17,16,15,22,21,20,18,19],
 qe 161 (.mv (.t 16)) 157 true [25,24,9,8,7,4,3,2,0,1,6,5,23,14,13,12,10,11,17,16,15,22,21,20,18,19],
 qe 162 (.mv (.t 17)) 157 true [25,24,9,8,7,4,3,2,0,1,6,5,23,14,13,12,10,11,17,16,15,22,21,20,18,19],
 qe 163 (.A3 11 (.t 161) (.t 162)) 157 true [29,25,24,9,8,7,4,3,2,0,1,6,5,23,14,13,12,10,11,17,16,15,22,21,20,18,19,30],
 qe 164 (.eO 0 (.t 163)) 157 true [31,29,25,24,9,8,7,4,3,2,0,1,6,5,23,14,13,12,10,11,17,16,15,22,21,20,18,19,30],
 qe 165 (.ld1 (.t 164)) 157 true [32,31,29,25,24,9,8,7,4,3,2,0,1,6,5,23,14,13,12,10,11,17,16,15,22,21,20,18,19,30],
 qe 166 (.A3 5 (.t 160) (.t 165)) 157 true [28,27,26,25,24,9,8,7,4,3,2,0,1,6,5,23,14,13,12,10,11,17,16,15,22,21,20,18,19,33,32,31,29,30],
 qe 167 (.eO 0 (.t 166)) 157 true [34,28,27,26,25,24,9,8,7,4,3,2,0,1,6,5,23,14,13,12,10,11,17,16,15,22,21,20,18,19,33,32,31,29,30],
 qe 168 (.ld1 (.t 167)) 157 true [35,34,28,27,26,25,24,9,8,7,4,3,2,0,1,6,5,23,14,13,12,10,11,17,16,15,22,21,20,18,19,33,32,31,29,30],
 qe 169 (.pick (.t 157) (.t 168) qf) 140 false [25,24,9,8,7,4,3,2,0,1,6,5,23,14,13,12,10,11,17,16,15,22,21,20,18,19,36,35,34,28,27,26,33,32,31,29,30],
 qd 170 (.pick (.t 140) qt (.t 169)) [8,7,4,3,2,0,1,6,5,37,25,24,9,23,14,13,12,10,11,17,16,15,22,21,20,18,19,36,35,34,28,27,26,33,32,31,29,30]])
 (.cond (.t 170) (.seq (.iJ [qo 4 (.mv qf)])
 .ret)
 .skip)))
 (.iJ [qm 130 17,
 qo 131 (.bin .add (.t 130) (qk 1)),
 qm 17 131]))))))
 (.seq (.jA [qm 171 13,
 qd 172 (.call (.f 39) [(.t 171)]) [0],
 qd 173 (.MB 5 (.t 172)) [1,0],
 qo 174 (.eO 5 (.t 10)),
 qd 175 (.ld1 (.t 174)) [3],
 qd 176 (.bin .eql (.t 173) (.t 175)) [2,1,0,4,3],
 qd 177 (.mv (.t 176)) [5,2,1,0,4,3],
 qe 178 (.mv (.t 6)) 177 true [6,5,2,1,0,4,3],
 qe 179 (.call (.f 48) [(.t 178)]) 177 true [7,6,5,2,1,0,4,3],
 qe 180 (.eO 5 (.t 10)) 177 true [6,5,2,1,0,4,3],
 qe 181 (.ld1 (.t 180)) 177 true [9,6,5,2,1,0,4,3],
 qe 182 (.bin .eql (.t 179) (.t 181)) 177 true [8,7,6,5,2,1,0,4,3,10,9],
 qd 183 (.pick (.t 177) (.t 182) qf) [6,5,2,1,0,4,3,11,8,7,10,9],
 qd 4 (.mv (.t 183)) [12,6,5,2,1,0,4,3,11,8,7,10,9]])
 .ret))))))))))))))))),
[(.t 4)])
theorem ZN:aj Tryz.prog Tryz.f10=some abu:=by kernel_rfl
def cwS (c:aC) (l:List wN) (q:Nat×aO):St:=⟨[(1,kN l),(2,.ptr 0 0),(4,.bool false),(5,.ptr 1 0),(6,.ptr 3 0),(7,.ptr 4 0),(8,.int 0),(9,.int q.1)],(Cl c q.2).map some⟩
def AF (x:aO) (j l:Nat):aH:=.box 195 [.int x.c.nodes,.int x.c.bH,.int x.c.cB,.int x.c.gF,.int x.c.bZ,.int x.c.eC,.int x.c.deadline,.int x.c.room,.int x.c.fP,.ptr 1 0,.ptr j 0,.ptr 3 0,bO x.s.nodes,cO x.s.jobs,.int x.s.goal,.int x.s.prior,.int x.s.mode,.int x.s.term,.sl l x.lines.length 26 0 x.lines.length,.bool x.down,.int x.er]
def twO (c:aC) (n:Nat) (x y w:aO) (t:Int) (o:cA):List aH:=[ri c,.box 150 [.sl 2 n 1 0 n,.d (.val (.slice none 0 0)),.int w.j.s],.dat 5 1 (aB w.j.l),.box 190 (.int w.room::.int w.term::(w.sh.flatMap rD++[.int w.wr])),
 AF x 6 5,aP x.lines,.box 160 [.ptr 1 0,.ptr 7 0,.ptr 8 0,.int x.j.cnt,.int x.j.cc],.box 243 [.ptr 1 0,.int 0,.int ((n / 4:Nat):Int)],.box 245 [.ptr 1 0,.int ((2*(n / 4):Nat):Int),.int ((n-2*(n / 4):Nat):Int),.int x.j.us],
 .box 30 [bO x.s.nodes,cO x.s.jobs,.int x.s.goal,.int x.s.prior,.int x.s.mode,.int t],
 AF y 12 11,aP y.lines,.box 160 [.ptr 1 0,.ptr 13 0,.ptr 14 0,.int y.j.cnt,.int y.j.cc],.box 243 [.ptr 1 0,.int 0,.int ((n / 4:Nat):Int)],.box 245 [.ptr 1 0,.int ((2*(n / 4):Nat):Int),.int ((n-2*(n / 4):Nat):Int),.int y.j.us],
 AF w 17 16,aP w.lines,.box 160 [.ptr 1 0,.ptr 18 0,.ptr 19 0,.int w.j.cnt,.int w.j.cc],.box 243 [.ptr 1 0,.int 0,.int ((n / 4:Nat):Int)],.box 245 [.ptr 1 0,.int ((2*(n / 4):Nat):Int),.int ((n-2*(n / 4):Nat):Int),.int w.j.us],
 .box 37 [.int o.kind,.int o.a,.int o.b,.int o.c,.int o.d,.int o.e,.int o.f]]
def ctS (c:aC) (n:Nat) (x y:aO) (t:Int) (o:cA) (ms:List dA) (q:Nat×aO):St:=⟨[(4,.bool false),(6,.ptr 3 0),(10,.ptr 9 0),(13,.ptr 15 0),(16,iT ms),(17,.int q.1)],(twO c n x y q.2 t o).map some⟩
theorem Qj {x:aO} {m:dA} (h:x.Cz m=true) (ht:m.term≠x.s.term):∃ k:Nat,m.node=k∧k<x.lines.length∧(dR x.s k).up=false:=by
 unfold aO.Cz aO.Qh aO.NP at h
 simp only [Bool.and_eq_true,decide_eq_true_eq] at h
 obtain ⟨⟨⟨⟨_,h1⟩,h2⟩,_⟩,h4⟩:=h
 refine ⟨m.node.toNat,by omega,by omega,?_⟩
 cases hu:(dR x.s m.node.toNat).up with
 | false=>rfl
 | true=>
   rw [hu] at h4
   simp [bne_iff_ne.2 ht] at h4
theorem By (aak:bw Tryz.prog eE 26 [] [] (.bool true) []) (c:aC) (l:List wN):bw Tryz.prog eE 10 [fV c,kN l] [] (.bool true) []:=by
 have adl:=Vu (G:=eE) c l
 refine br Tryz.func10 (by decide) ZN rfl rfl ?_
 simp only [abu,go_sem]
 refine ay (aak) rfl rfl rfl rfl ?_; simp only [go_sem]
 refine ay (adl) rfl rfl rfl rfl ?_; simp only [go_sem]
 cases hF:QH c l with
 | false=>simp only [go_sem]
 | true=>
 obtain ⟨hlen,hm,hd4,DZ⟩:=Vv hF
 simp only [kN,go_sem]
 have hdk:2000≤c.fP:=by
  unfold gJ at hm
  simp only [Bool.and_eq_true] at hm
  exact (bh hm.2).1
 obtain ⟨n,hn⟩:∃ n:Nat,c.fP=n:=⟨c.fP.toNat,by omega⟩
 have hdn:=Gp (G:=eE) n (by omega) (by omega)
 have hsn:=De (G:=eE) c.room
 have hb:=bw.up (M9 c hm n (by omega) 0 (if c.room>0 then c.room else 0) 0 (List.replicate 25 ic) (by rw [List.length_replicate]) 0 0 (by decide)) nM
 have hok:=H8 hm (n:=n) (by omega) (if c.room>0 then c.room else 0)
 generalize MY c n 0 (if c.room>0 then c.room else 0) 0 (List.replicate 25 ic) 0 0=x0 at *
 generalize hsh:List.replicate 25 ic=sh at *
 generalize (if c.room>0 then c.room else 0)=room at *
 simp only [dM,List.length_replicate] at hdn hb
 simp only [gu,pQ,xF,List.cons_append,List.nil_append] at hsn hb
 rw [← hn] at hdn
 refine ko hdn rfl rfl rfl ?_
 simp only [go_sem]
 refine ko hsn rfl rfl rfl ?_
 simp only [aV,bD,go_sem]
 refine au rfl ?_
 simp only [go_sem]
 refine av [1,2,3] (hb) rfl ?_ (by decide) ?_ ?_ (by simp) ?_ <;> simp only [ag,ah,go_sem,aV,bD,aL,aR]
 refine aW [1,2,4,5,6,7,8,9] [] (fun q:Nat×aO=>q.1≤l.length∧gA c n (q.1+1) q.2) (fun q=>l.length-q.1) (cwS c l) (0,x0) ?_ ⟨Nat.zero_le _,hok⟩ ?_
 ·simp only [cwS,Cl,ri,CM,aP,kN,Int.natCast_zero,go_sem]
 rintro ⟨i,x⟩ ⟨hi,hx⟩
 dsimp only at hi hx
 simp only [cwS,Cl,ri,CM,aP,kN,go_sem]
 by_cases hlt:i<l.length
 case pos=>
  have hg:=aJ (f:=JB) GO hlt
  have hna:=DZ (l.getD i GO) (by rw [List.getD,List.getElem?_eq_getElem hlt]; exact List.getElem_mem hlt)
  generalize l.getD i GO=a at *
  obtain ⟨ak,an,adM,⟨o1,o2,o3,o4,o5,o6,o7⟩,am,a1,a2,a3,a4,ad⟩:=a
  simp only [JB,opR,lX,List.cons_append,List.nil_append] at hg
  dsimp only at hna
  simp only [decide_eq_true (show ((i:Nat):Int)<((l.length:Nat):Int) by omega),hlt,hg,go_sem]
  by_cases k0:ak=0
  case pos=>
   subst k0
   obtain ⟨e,y,hdo,hyI⟩:=SB hx (by omega) ⟨o1,o2,o3,o4,o5,o6,o7⟩ hna
   simp only [bX,d_,aP,List.cons_append,List.nil_append] at hdo
   simp only [hlt,hg,go_sem]
   refine dV [4,6,1,7,8,2,3,5] (hdo) rfl ?_ (by decide) ?_ ?_ (by simp) ?_ <;> simp only [ag,ah,go_sem,aV,bD,aL,aR]
   refine au rfl ?_
   simp only [hlt,hg,show ((0:Int)==1)=false from rfl,go_sem]
   refine a_ (i+1,_) ?_ ?_ ⟨show i+1≤l.length by omega,hyI⟩ (show l.length-(i+1)<l.length-i by omega)
   ·simp only [aL,aR,go_sem]
   ·simp only [aG (show i<9223372036854775807 by omega),cwS,Cl,ri,CM,aP,kN,go_sem]
  case neg=>
   simp only [beq_eq_false_iff_ne.2 k0,hlt,hg,go_sem]
   by_cases k1:ak=1
   case pos=>
    subst k1
    obtain ⟨o,y,ms,hact,hyI,_⟩:=FM hx (by omega) hna
    simp only [bX,d_,aP,List.cons_append,List.nil_append] at hact
    simp only [hlt,hg,go_sem]
    refine av [4,6,1,7,8,2,3,5] (hact) rfl ?_ (by decide) ?_ ?_ (by simp) ?_ <;> simp only [ag,ah,go_sem,aV,bD,aL,aR]
    refine a_ (i+1,_) ?_ ?_ ⟨show i+1≤l.length by omega,hyI⟩ (show l.length-(i+1)<l.length-i by omega)
    ·simp only [aL,aR,go_sem]
    ·simp only [aG (show i<9223372036854775807 by omega),cwS,Cl,ri,CM,aP,kN,go_sem]
   case neg=>
    simp only [beq_eq_false_iff_ne.2 k1,go_sem]
    refine a_ (i+1,x) ?_ ?_ ⟨show i+1≤l.length by omega,hx.more (Nat.le_succ _)⟩ (show l.length-(i+1)<l.length-i by omega)
    ·simp only [aL,aR,go_sem]
    ·simp only [aG (show i<9223372036854775807 by omega),cwS,Cl,ri,CM,aP,kN,go_sem]
 case neg=>
  simp only [decide_eq_false (show ¬ ((i:Nat):Int)<((l.length:Nat):Int) by omega),bne_self_eq_false,go_sem]
  have sE:x.s.nodes.length≤1000:=by have:=hx.fi.ok.right.len; omega
  have hlj:x.s.jobs.length≤1000:=by have:=hx.fi.ok.right.jobs; omega
  have hst:=oZ (G:=eE) x hx.fi.dn sE hlj
  simp only [bX,d_,aP,List.cons_append,List.nil_append] at hst
  refine gW [4,6,1,7,8,2,3,5] (hst) rfl ?_ (by decide) ?_ ?_ ?_ <;> simp only [ag,ah,go_sem,aV,bD,aL,aR]
  skip
  obtain ⟨f,y,hb1,hy,hf,A8,Rw⟩:=Cm hx hm (now:=0) (by omega) (by decide)
  obtain ⟨g,z,hb2,hz,hg,hg0,vw⟩:=Cm hy hm (now:=0) (by omega) (by decide)
  have hxl:x.j.l.length=n:=by rw [hx.fi.ok.jn.len,hx.sz]
  have Rs:y.j.l.length=n:=by rw [hy.fi.ok.jn.len,hy.sz]
  have hzl:z.j.l.length=n:=by rw [hz.fi.ok.jn.len,hz.sz]
  have hxn:=hx.sz
  have U0:=hy.sz
  have hzn:=hz.sz
  rcases hf with rfl | rfl
  case inr=>
   simp only [dM,gu,hxl,Rs,hxn,U0,if_neg (show ¬ (3:Int)=0 by decide),qM,List.cons_append,List.nil_append] at hb1
   simp only [hxn,go_sem]
   refine av [1,2,3] (hb1) rfl ?_ (by decide) ?_ ?_ (by simp) ?_ <;> simp only [ag,ah,go_sem,aV,bD,aL,aR]
   rcases hg with rfl | rfl
   case inl=>
    simp only [dM,gu,pQ,xF,aP,Rs,hzl,U0,hzn,if_true,List.cons_append,List.nil_append] at hb2
    refine av [1,2,3] (hb2) rfl ?_ (by decide) ?_ ?_ (by simp) ?_ <;> simp only [ag,ah,go_sem,aV,bD,aL,aR]
   case inr=>
    simp only [dM,gu,Rs,hzl,U0,hzn,if_neg (show ¬ (3:Int)=0 by decide),qM,List.cons_append,List.nil_append] at hb2
    refine av [1,2,3] (hb2) rfl ?_ (by decide) ?_ ?_ (by simp) ?_ <;> simp only [ag,ah,go_sem,aV,bD,aL,aR]
  case inl=>
  obtain ⟨_,hys,hyt,_⟩:=A8 rfl
  simp only [dM,gu,pQ,xF,aP,hxl,Rs,hxn,U0,if_true,List.cons_append,List.nil_append] at hb1
  simp only [hxn,go_sem]
  refine av [1,2,3] (hb1) rfl ?_ (by decide) ?_ ?_ (by simp) ?_ <;> simp only [ag,ah,go_sem,aV,bD,aL,aR]
  rcases hg with rfl | rfl
  case inr=>
   simp only [dM,gu,Rs,hzl,U0,hzn,if_neg (show ¬ (3:Int)=0 by decide),qM,List.cons_append,List.nil_append] at hb2
   refine av [1,2,3] (hb2) rfl ?_ (by decide) ?_ ?_ (by simp) ?_ <;> simp only [ag,ah,go_sem,aV,bD,aL,aR]
  case inl=>
  obtain ⟨_,hzs,hzt,_⟩:=hg0 rfl
  simp only [dM,gu,pQ,xF,aP,Rs,hzl,U0,hzn,if_true,List.cons_append,List.nil_append] at hb2
  refine av [1,2,3] (hb2) rfl ?_ (by decide) ?_ ?_ (by simp) ?_ <;> simp only [ag,ah,go_sem,aV,bD,aL,aR]
  have ht0:=hx.t0
  have w1:IntKind.i64.wrap (x.s.term+1)=x.s.term+1:=aN (by omega) (by omega)
  have w2:IntKind.i64.wrap (x.s.term+1+1)=x.s.term+1+1:=aN (by omega) (by omega)
  have w3:IntKind.i64.wrap (x.s.term+1+1-1)=x.s.term+1:=by rw [show x.s.term+1+1-1=x.s.term+1 by omega]; exact w1
  have hyS:=oZ (G:=eE) { y with j:={ y.j with l:=z.j.l,s:=z.j.s },room:=z.room,term:=z.term,sh:=z.sh,wr:=z.wr } hy.fi.dn (by rw [hys]; exact sE) (by rw [hys]; exact hlj)
  have YK:=aaR y.s { x.s with term:=x.s.term+1 } hys (by rw [hys]; exact sE) (by rw [hys]; exact hlj)
  simp only [bX,d_,aP,U0,List.cons_append,List.nil_append] at hyS
  simp only [aY] at hyS YK
  simp only [bne_self_eq_false,w1,go_sem]
  refine ey [10,12,1,13,14,2,3,11] (hyS) rfl ?_ (by decide) ?_ ?_ ?_ <;> simp only [ag,ah,go_sem,aV,bD,aL,aR]
  refine bq (YK) rfl rfl rfl rfl ?_; simp only [go_sem]
  simp only [w2,go_sem]
  obtain ⟨o,z2,ms,hact,Ij,acW,acV,adQ,hms⟩:=FM hz (now:=0) (by omega) (by decide)
  have acX:=Ij.sz
  simp only [bX,d_,aP,hzn,acX,tO,iT,List.cons_append,List.nil_append] at hact
  refine av [15,17,1,18,19,2,3,16] (hact) rfl ?_ (by decide) ?_ ?_ (by simp) ?_ <;> simp only [ag,ah,go_sem,aV,bD,aL,aR]
  have hzT:z.s.term=x.s.term+1+1:=by rw [hzs,hys]
  refine aW [4,6,10,13,16,17] [] (fun q:Nat×aO=>q.1≤ms.length∧gA c n (i+1+1+1+1) q.2∧q.2.s.term=x.s.term+1+1∧q.2.term=x.s.term+1+1) (fun q=>ms.length-q.1) (ctS c n x y (x.s.term+1+1) o ms) (0,z2) ?_ ⟨Nat.zero_le _,Ij,by rw [acW,hzT],by rw [acV,hzt,hzT]⟩ ?_
  ·simp only [ctS,twO,ri,AF,aP,Int.natCast_zero,go_sem]
  rintro ⟨k,w⟩ ⟨hk,hw,hwt,Yu⟩
  dsimp only at hk hw hwt Yu
  have hwn:=hw.sz
  have hwS:=oZ (G:=eE) w hw.fi.dn (by have:=hw.fi.ok.right.len; omega) (by have:=hw.fi.ok.right.jobs; omega)
  simp only [ctS,twO,ri,AF,aP,go_sem]
  by_cases hlk:k<ms.length
  case neg=>
   have hsT:=Bb (G:=eE) w.room w.term w.sh w.wr
   simp only [bX,d_,aP,hwn,aY,List.cons_append,List.nil_append] at hwS
   simp only [gu,List.cons_append,List.nil_append] at hsT
   simp only [decide_eq_false (show ¬ ((k:Nat):Int)<((ms.length:Nat):Int) by omega),go_sem]
   refine ey [15,17,1,18,19,2,3,16] (hwS) rfl ?_ (by decide) ?_ ?_ ?_ <;> simp only [ag,ah,go_sem,aV,bD,aL,aR]
   simp only [hwt,go_sem]
   refine ey [3] (hsT) rfl ?_ (by decide) ?_ ?_ ?_ <;> simp only [ag,ah,go_sem,aV,bD,aL,aR]
   simp only [Yu,go_sem]
  case pos=>
   have hg:=aJ (f:=lX) mF hlk
   have hmt:=hms (ms.getD k mF) (by rw [List.getD,List.getElem?_eq_getElem hlk]; exact List.getElem_mem hlk)
   generalize ms.getD k mF=m at *
   obtain ⟨m0,m1,m2,m3,m4,m5,m6,m7,m8,m9,m10⟩:=m
   dsimp only at hmt
   rw [hzT] at hmt
   subst hmt
   simp only [lX] at hg
   have hh:=Qi (G:=eE) w hw.fi.dn hw.fi.ok.lines ⟨m0,6,x.s.term+1,m3,0,0,0,0,0,0,0⟩ 0
   obtain ⟨hw2,U2,abw⟩:=hw.aaf ⟨m0,6,x.s.term+1,m3,0,0,0,0,0,0,0⟩ (now:=0) (by decide)
   have hold:=fun h=>Qj (x:=w) (m:=⟨m0,6,x.s.term+1,m3,0,0,0,0,0,0,0⟩) h (by rw [hwt]; show x.s.term+1≠_; omega)
   generalize w.kJ ⟨m0,6,x.s.term+1,m3,0,0,0,0,0,0,0⟩ 0=v at *
   have hvn:=hw2.sz
   have hvS:=oZ (G:=eE) v hw2.fi.dn (by have:=hw2.fi.ok.right.len; omega) (by have:=hw2.fi.ok.right.jobs; omega)
   have hvl:=hw2.fi.ok.lines
   have hwl:=hw.fi.ok.lines
   simp only [bX,d_,aP,hwn,hvn,xS,aY,List.cons_append,List.nil_append] at hh hvS
   simp only [decide_eq_true (show ((k:Nat):Int)<((ms.length:Nat):Int) by omega),hlk,hg,bne_self_eq_false,w3,go_sem]
   refine dV [15,17,1,18,19,2,3,16] (hh) rfl ?_ (by decide) ?_ ?_ (by simp) ?_ <;> simp only [ag,ah,go_sem,aV,bD,aL,aR]
   cases hB:w.Cz ⟨m0,6,x.s.term+1,m3,0,0,0,0,0,0,0⟩ with
   | false=>
     simp only [hlk,hg,go_sem]
     refine au rfl ?_
     simp only [go_sem]
     refine a_ (k+1,v) ?_ ?_ ⟨show k+1≤ms.length by omega,hw2,by rw [U2]; exact hwt,by rw [abw]; exact Yu⟩ (show ms.length-(k+1)<ms.length-k by omega)
     ·simp only [aL,aR,go_sem]
     ·simp only [aG (show k<9223372036854775807 by omega),ctS,twO,ri,AF,aP,go_sem]
   | true=>
     obtain ⟨d,hd,hdl,hup⟩:=hold hB
     dsimp only at hd
     subst hd
     have ab3:d<v.s.nodes.length:=by rw [U2,← hwl]; exact hdl
     have tQ:=aJ (f:=bY) ai ab3
     have hNv:(v.s.nodes.getD d ai).up=false:=by rw [U2]; exact hup
     generalize v.s.nodes.getD d ai=nd at *
     obtain ⟨n1,n2,n3,n4,n5⟩:=nd
     dsimp only at hNv
     subst hNv
     simp only [bY] at tQ
     simp only [go_sem]
     refine ey [15,17,1,18,19,2,3,16] (hvS) rfl ?_ (by decide) ?_ ?_ ?_ <;> simp only [ag,ah,go_sem,aV,bD,aL,aR]
     simp only [hlk,hg,ab3,tQ,go_sem]
     refine au rfl ?_
     simp only [go_sem]
     refine a_ (k+1,v) ?_ ?_ ⟨show k+1≤ms.length by omega,hw2,by rw [U2]; exact hwt,by rw [abw]; exact Yu⟩ (show ms.length-(k+1)<ms.length-k by omega)
     ·simp only [aL,aR,go_sem]
     ·simp only [aG (show k<9223372036854775807 by omega),ctS,twO,ri,AF,aP,go_sem]
end Dv
namespace Dv
open Go Go.Proofs
theorem Em (c:aC) (l:List wN):bw Tryz.prog eE 10 [fV c,kN l] [] (.bool true) []:=By GL c l
end Dv
