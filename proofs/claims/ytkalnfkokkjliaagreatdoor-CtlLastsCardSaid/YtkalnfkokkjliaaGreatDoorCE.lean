/- part -/
import Derived.Test.YtkalnfkokkjliaaGreatDoorCA
import Derived.Test.YtkalnfkokkjliaaGreatDoorCD
set_option linter.all false
set_option maxHeartbeats 4000000
set_option maxRecDepth 100000
namespace Dv
open Go Go.Proofs
def U9:=qx Tryz.f46
theorem IA:aj Tryz.prog Tryz.f46=some U9:=by kernel_rfl
def gP.Lr (j:gP) (p:List Int) (keep:Int):gP:={ j with l:=bF j.l (2*(j.n / 4)+j.us) ((eY j.cnt p).take (gC keep (eY j.cnt p))),cnt:=IntKind.i64.wrap (j.cnt+1),us:=j.us+(eY j.cnt p).length }
def aN.nU (x:aN) (o:cB) (keep:Int):aN:=if 1≤o.kind∧o.kind≤6 then { x with j:=if x.dK o=0 then (x.bH o).Lr (fh o) keep else x.bH o,down:=true } else { x with down:=true }
theorem NY (x:aN) (h:BW x) (hd:x.down=false) (o:cB) (now keep:Int):bu Tryz.prog cF 46 [.ptr 0 0,tF o,.int now,.int keep] (bT x) (.int (x.VU o)) (bT (x.nU o keep)):=by
 have ha:=mA (G:=cF) x
 have hop:=sK (G:=cF) o
 have hf:=CY x h o
 have hj1:=h.EP o
 have hn1:(x.bH o).n=x.j.n:=by
  unfold aN.bH aN.EP
  split
  ·rfl
  split
  ·rfl
  ·exact gP.tC _ _
 rw [hd] at ha
 unfold aN.VU aN.nU
 by_cases hk:1≤o.kind∧o.kind≤6
 case neg=>
  have hc:=mw (G:=cF) x.j.l x.j.s keep
  have hl:=h.jn.len
  rw [decide_eq_false hk] at hop
  simp only [if_neg hk]
  simp only [cU,hl] at hc
  simp only [bT,dS,aR,List.cons_append,List.nil_append] at ha
  refine aT Tryz.func46 (by decide) IA rfl rfl (ck _ (Nat.le_refl 8) _) rfl ?_
  simp only [bT,dS,aR,U9,go_sem]
  refine fT [0,1,2,3,4,5,6,7] (ha) rfl ?_ (by decide) ?_ ?_ ?_ <;> simp only [ag,ah,go_sem,aU,bE,aK,aP]
  refine av (hop) rfl rfl rfl rfl ?_; simp only [go_sem]
  refine au [2,5] (hc) rfl ?_ (by decide) ?_ ?_ (by simp) ?_ <;> simp only [ag,ah,go_sem]
 rw [decide_eq_true hk] at hop
 simp only [if_pos hk]
 by_cases he:x.dK o=0
 case neg=>
  have hc:=mw (G:=cF) (x.bH o).l (x.bH o).s keep
  have hl:=hj1.len
  simp only [he,if_false]
  generalize x.bH o=J at *
  generalize x.wS o=B at *
  generalize x.dK o=e at *
  rw [hn1] at hl
  simp only [cU,hl] at hc
  simp only [bT,dS,aR,hn1,List.cons_append,List.nil_append] at ha hf
  refine aT Tryz.func46 (by decide) IA rfl rfl (ck _ (Nat.le_refl 8) _) rfl ?_
  simp only [bT,dS,aR,hn1,U9,go_sem]
  refine fT [0,1,2,3,4,5,6,7] (ha) rfl ?_ (by decide) ?_ ?_ ?_ <;> simp only [ag,ah,go_sem,aU,bE,aK,aP]
  refine av (hop) rfl rfl rfl rfl ?_; simp only [go_sem]
  refine au [0,1,2,3,4,5,6,7] (hf) rfl ?_ (by decide) ?_ ?_ (by simp) ?_ <;> simp only [ag,ah,go_sem,aU,bE,aK,aP]
  simp only [show (e==0)=false from beq_eq_false_iff_ne.2 he,go_sem]
  refine au [2,5] (hc) rfl ?_ (by decide) ?_ ?_ (by simp) ?_ <;> simp only [ag,ah,go_sem]
 obtain ⟨h1,h2,h3⟩:=mm he
 rw [h3,he] at hf
 simp only [he,if_true]
 have hs:=Au (G:=cF) (x.bH o).n (x.bH o).l (x.bH o).s (x.bH o).cnt (x.bH o).cv (x.bH o).us (fh o) hj1.len (by have:=hj1.size; omega) hj1.used h2
 have hfit:=gP.uA h2
 have hc:=BR (G:=cF) (x.bH o).l (x.bH o).s (2*((x.bH o).n / 4)+(x.bH o).us) (eY (x.bH o).cnt (fh o)) (by have:=hj1.size; have:=hj1.len; omega) (by have:=hj1.size; have:=hj1.len; omega) keep
 have hl:=hj1.len
 have hl2:(bF (x.bH o).l (2*((x.bH o).n / 4)+(x.bH o).us) ((eY (x.bH o).cnt (fh o)).take (gC keep (eY (x.bH o).cnt (fh o))))).length=(x.bH o).n:=by
  rw [dB (by rw [List.length_take]; have:=hj1.size; omega)]; exact hl
 unfold gP.Lr
 generalize x.bH o=J at *
 generalize (eY J.cnt (fh o)).take (gC keep (eY J.cnt (fh o)))=K at *
 generalize eY J.cnt (fh o)=R at *
 rw [hn1] at hl hl2 hs hc ⊢
 generalize bF J.l (2*(x.j.n / 4)+J.us) K=L2 at *
 simp only [cU,i_,hl,hl2,List.cons_append,List.nil_append] at hc
 simp only [xQ,jnW,aq] at hs
 simp only [bT,dS,aR,hn1,aq,List.cons_append,List.nil_append] at ha hf
 refine aT Tryz.func46 (by decide) IA rfl rfl (ck _ (Nat.le_refl 8) _) rfl ?_
 simp only [bT,dS,aR,hn1,U9,go_sem]
 refine fT [0,1,2,3,4,5,6,7] (ha) rfl ?_ (by decide) ?_ ?_ ?_ <;> simp only [ag,ah,go_sem,aU,bE,aK,aP]
 refine av (hop) rfl rfl rfl rfl ?_; simp only [go_sem]
 refine au [0,1,2,3,4,5,6,7] (hf) rfl ?_ (by decide) ?_ ?_ (by simp) ?_ <;> simp only [ag,ah,go_sem,aU,bE,aK,aP]
 refine au [1,2,3,4,5] (hs) rfl ?_ (by decide) ?_ ?_ (by simp) ?_ <;> simp only [ag,ah,go_sem]
 refine au [2,5,9] (hc) rfl ?_ (by decide) ?_ ?_ (by simp) ?_ <;> simp only [ag,ah,go_sem]
end Dv
namespace Dv
open Go Go.Proofs
def vH (c:aF):aG:=.box 23 [.int c.nodes,.int c.bL,.int c.cE,.int c.gT,.int c.cc,.int c.eG,.int c.deadline,.int c.room,.int c.ga]
def vB (x:aN):aG:=.box 195 [.int x.c.nodes,.int x.c.bL,.int x.c.cE,.int x.c.gT,.int x.c.cc,.int x.c.eG,.int x.c.deadline,.int x.c.room,.int x.c.ga,.ptr 1 0,.ptr 6 0,.ptr 3 0,bS x.s.nodes,cZ x.s.jobs,.int x.s.goal,.int x.s.prior,.int x.s.mode,.int x.s.term,.sl 5 x.lines.length 26 0 x.lines.length,.bool x.down,.int x.ew]
def sM (c:aF) (x:aN):List aG:=[vH c,.box 150 [.sl 2 x.j.n 1 0 x.j.n,.d (.val (.slice none 0 0)),.int x.j.s],.dat 5 1 (aB x.j.l),.box 190 (.int x.room::.int x.term::(x.sh.flatMap sy++[.int x.wr])),vB x,aR x.lines,.box 160 [.ptr 1 0,.ptr 7 0,.ptr 8 0,.int x.j.cnt,.int x.j.cv],.box 243 [.ptr 1 0,.int 0,.int ((x.j.n / 4:Nat):Int)],.box 245 [.ptr 1 0,.int ((2*(x.j.n / 4):Nat):Int),.int ((x.j.n-2*(x.j.n / 4):Nat):Int),.int x.j.us]]
theorem Wu (s t:aa) (h:s=t) (hn:s.nodes.length≤1000) (hj:s.jobs.length≤1000):bu Tryz.prog eB 20 [aX s,aX t] [] (.bool true) []:=by
 subst h
 have:=Cf (G:=eB) s s (by omega) (by omega)
 rw [decide_eq_true rfl] at this
 exact this
theorem Ji {c:aF} (h:gH c=true) {n:Nat} (hn:64≤n∧n≤65536) (room:Int):gQ c 1 (Nf c n 0 room 0 (List.replicate 25 iB) 0 0):=by
 have h0:gQ c 0 (nQ c n 0 room 0 (List.replicate 25 iB) 0 0):=by
  refine ⟨EE h hn 0 room 0 _ (by rw [List.length_replicate]) 0 0,rfl,rfl,?_,?_,⟨Int.le_refl _,Int.le_refl _⟩⟩
  ·intro l hl
   change l∈List.replicate _ (Ip 0) at hl
   rw [List.eq_of_mem_replicate hl]
   exact ⟨Int.le_refl _,by show (0:Int)≤_; omega⟩
  ·intro i hi
   show (List.replicate 25 iB).getD i iB=iB
   rw [List.getD,List.getElem?_replicate,if_pos hi]
   rfl
 have h1:=h0.note (by omega) bI (now:=0) (by omega)
 exact ⟨⟨h1.ok.right,h1.ok.jn,h1.ok.sh,h1.ok.lines⟩,h1.cf,h1.dn,h1.hr,h1.sz,h1.nt⟩
end Dv
