/- The logical machine and its plain laws: parts B1, B2, B3, proved sound. -/
import Derived.Test.YtkalnfkokkjliaaGreatDoorNA
import Derived.Test.YtkalnfkokkjliaaGreatDoorKA
import Derived.Test.YtkalnfkokkjliaaGreatDoorCA
import Derived.Test.YtkalnfkokkjliaaGreatDoorIA
import Derived.Test.YtkalnfkokkjliaaGreatDoorOA
set_option linter.unusedVariables false
set_option linter.unusedSimpArgs false
set_option maxRecDepth 100000
namespace Dv
open Go Go.Proofs
variable {G:Nat→Option (List DV)}
def UI:=qx Tryz.f174
theorem Rg:aq Tryz.prog Tryz.f174=some UI:=by kernel_rfl
def T_:=qx Tryz.f228
theorem QE:aq Tryz.prog Tryz.f228=some T_:=by kernel_rfl
def UJ:=qx Tryz.f173
theorem Rh:aq Tryz.prog Tryz.f173=some UJ:=by kernel_rfl
theorem N_ {b:List Int} (hb:∀ c∈b,0≤c∧c≤255) (a:Nat):∀ c∈(ck b a).1,0≤c∧c≤255:=fun c hc=>hb c ((p9 b a).1 c hc)
theorem IU {b:List Int} (hb:∀ c∈b,0≤c∧c≤255):∀ (f:Nat) (l:List (List Int)) (a:Nat),a≤b.length→(∀ r∈l,(∀ c∈r,0≤c∧c≤255)∧r.length≤4000)→(rJ b f l a).2≤b.length∧(rJ b f l a).1.length+a≤l.length+(rJ b f l a).2∧∀ r∈(rJ b f l a).1,(∀ c∈r,0≤c∧c≤255)∧r.length≤4000
 | 0,l,a,ha,hl=>⟨ha,Nat.le_refl _,hl⟩
 | f+1,l,a,ha,hl=>by
   unfold rJ
   by_cases h1:(ck b a).2.2=1
   ·rw [if_pos h1]
    have he:=zc (fun c hc=>(hb c hc).1) h1
    have:=IU hb f (l++[(ck b a).1]) (ck b a).2.1 he.2.1 (fun r hr=>by
     rcases List.mem_append.1 hr with hr | hr
     ·exact hl r hr
     ·rw [List.mem_singleton.1 hr]
      exact ⟨N_ hb a,he.2.2⟩)
    refine ⟨this.1,?_,this.2.2⟩
    have h2:=this.2.1
    rw [List.length_append,List.length_cons,List.length_nil] at h2
    omega
   ·rw [if_neg h1]
    exact ⟨ha,Nat.le_refl _,hl⟩
theorem qO {l:List Int} (hb:∀ c∈l,0≤c∧c≤255) {fr sz:Nat} (h:fr+sz≤l.length):(gL l fr sz).2≤sz∧(gL l fr sz).1.length≤sz∧∀ r∈(gL l fr sz).1,(∀ c∈r,0≤c∧c≤255)∧r.length≤4000:=by
 have:=IU (tv (fr:=fr) (sz:=sz) hb) (sz+1) [] 0 (Nat.zero_le _) (fun r hr=>by cases hr)
 rw [xV h] at this
 unfold gL
 refine ⟨this.1,?_,this.2.2⟩
 have h2:=this.2.1
 have h1:=this.1
 simp only [List.length_nil] at h2
 omega
def sQ:List (List Int)→Int→List (List Int)
 | [],_=>[]
 | r::rs,a=>match eZ r 0 with
   | none=>[]
   | some q=>if q.1<a∧q.2<r.length then sQ rs a else if q.1≠a∨q.2=r.length then [] else r.drop q.2::sQ rs (a+1)
def ot (r:List Int) (a:Int):Bool:=match eZ r 0 with
 | none=>true
 | some q=>decide (q.1≥a)
def wE (a:Int):List (List Int)→Nat→Int
 | [],_=>-1
 | r::rs,k=>if ot r a=true then k else wE a rs (k+1)
def vz (rs:List (List Int)) (a:Int):Bool:=decide ((rs.length:Int)>0)&&!(decide (wE a rs 0≥0))
def rH (a:Int):List aG:=[.box 3 [.int a]]
def Ae (p:Nat):LV:=.fn (.func 174) [] [.ptr p 0]
theorem Oj (r:List Int) (a:Int) (hb:∀ c∈r,0≤c∧c≤255) (hl:r.length≤4000):br Tryz.prog G 174 [af r,.ptr 0 0] (rH a) (.bool (ot r a)) (rH a):=by
 have hg:=lV (G:=G) r hb (by omega) 0 (by omega) _ rfl
 refine aY Tryz.func174 (by decide) Rg rfl rfl rfl rfl ?_
 simp only [UI,go_sem,simprocAttr]
 simp only [rH,af,go_sem,simprocAttr]
 simp only [af] at hg
 unfold ot
 cases hq:eZ r 0 with
 | none=>
   rw [hq] at hg
   simp only [eT,oH,oI,Option.isSome] at hg
   refine av (hg) rfl rfl rfl rfl ?_; simp only [go_sem,simprocAttr]
 | some q=>
   rw [hq] at hg
   obtain ⟨x,p⟩:=q
   simp only [eT,oH,oI,Option.isSome] at hg
   refine av (hg) rfl rfl rfl rfl ?_; simp only [go_sem,simprocAttr]
def ixS (rs:List (List Int)) (a:Int) (k:Nat):St:=⟨[(0,.d (.dN 1 (aS rs))),(1,Ae 0),(7,.int rs.length),(8,.int k)],(rH a).map some⟩
theorem Sj (rs:List (List Int)) (a:Int) (hr:∀ r∈rs,(∀ c∈r,0≤c∧c≤255)∧r.length≤4000) (hl:rs.length≤100000):br Tryz.prog G 228 [.d (.dN 1 (aS rs)),Ae 0] (rH a) (.int (wE a rs 0)) (rH a):=by
 have hcl:(aS rs).length=rs.length:=by simp [aS]
 refine aY Tryz.func228 (by decide) QE rfl rfl rfl rfl ?_
 simp only [T_,go_sem,simprocAttr]
 simp only [rH,Ae,hcl,go_sem,simprocAttr]
 refine aP [0,1,7,8] [] (fun k:Nat=>k≤rs.length∧wE a rs 0=wE a (rs.drop k) k) (fun k=>rs.length-k) (ixS rs a) 0 ?_ ⟨Nat.zero_le _,rfl⟩ ?_
 ·simp only [ixS,rH,Ae,Int.natCast_zero,go_sem,simprocAttr]
 rintro k ⟨hk,hI⟩
 simp only [ixS,rH,Ae,go_sem,simprocAttr]
 by_cases hlt:k<rs.length
 case neg=>
  obtain rfl:k=rs.length:=by omega
  rw [List.drop_length] at hI
  simp only [decide_eq_false (show ¬ ((rs.length:Nat):Int)<((rs.length:Nat):Int) by omega),hI,wE,go_sem,simprocAttr]
 have hg:=aB (f:=fun b:List Int=>[DV.dN 1 (ak b)]) [] hlt
 rw [show rs.map (fun b:List Int=>[DV.dN 1 (ak b)])=aS rs from rfl] at hg
 rw [gT rs k [] hlt] at hI
 have hm:rs.getD k []∈rs:=by rw [List.getD_eq_getElem?_getD,List.getElem?_eq_getElem hlt]; exact List.getElem_mem hlt
 have he:=Oj (G:=G) (rs.getD k []) a (hr _ hm).1 (hr _ hm).2
 generalize rs.getD k []=r at *
 simp only [rH,af] at he
 simp only [decide_eq_true (show ((k:Nat):Int)<((rs.length:Nat):Int) by omega),hg,go_sem,simprocAttr]
 refine dI [0] (he) rfl ?_ (by decide) ?_ ?_ ?_ <;> simp only [aa,ah,go_sem,simprocAttr]
 rw [show wE a (r::rs.drop (k+1)) k=if ot r a=true then (k:Int) else wE a (rs.drop (k+1)) (k+1) from rfl] at hI
 cases h1:ot r a with
 | true=>
   rw [h1,if_pos rfl] at hI
   simp only [hI,go_sem,simprocAttr]
 | false=>
   rw [h1,if_neg (by decide)] at hI
   simp only [go_sem,simprocAttr]
   refine aR (k+1) ?_ ?_ ⟨by omega,hI⟩ (by omega)
   ·simp only [go_sem,simprocAttr]
   ·simp only [ixS,rH,Ae,ax (show k<9223372036854775807 by omega),go_sem,simprocAttr]
theorem CS (rs:List (List Int)) (a:Int) (hr:∀ r∈rs,(∀ c∈r,0≤c∧c≤255)∧r.length≤4000) (hl:rs.length≤100000):br Tryz.prog G 173 [.d (.dN 1 (aS rs)),Ae 0] (rH a) (.bool (decide (wE a rs 0≥0))) (rH a):=by
 have hi:=Sj (G:=G) rs a hr hl
 simp only [rH,Ae] at hi
 refine aY Tryz.func173 (by decide) Rh rfl rfl rfl rfl ?_
 simp only [UJ,go_sem,simprocAttr]
 simp only [rH,Ae,go_sem,simprocAttr]
 refine dI [0] (hi) rfl ?_ (by decide) ?_ ?_ ?_ <;> simp only [aa,ah,go_sem,simprocAttr]
theorem KL (rs:List (List Int)) (a:Int) (hr:∀ r∈rs,(∀ c∈r,0≤c∧c≤255)∧r.length≤4000) (hl:rs.length≤100000):br Tryz.prog G 85 [.d (.dN 1 (aS rs)),.int a] [] (.bool (vz rs a)) []:=by
 have hcl:(aS rs).length=rs.length:=by simp [aS]
 have hc:=CS (G:=G) rs a hr hl
 simp only [rH,Ae] at hc
 refine b_ Tryz.func85 (by decide) WX rfl rfl ?_
 simp only [Zs,go_sem,simprocAttr]
 simp only [hcl,vz,go_sem,simprocAttr]
 by_cases h0:((rs.length:Nat):Int)>0
 ·simp only [decide_eq_true h0,go_sem,simprocAttr]
  refine dI [0] (hc) rfl ?_ (by decide) ?_ ?_ ?_ <;> simp only [aa,ah,go_sem,simprocAttr]
 ·simp only [decide_eq_false h0,go_sem,simprocAttr]
def dO:Option (List Int×Int)→Int
 | none=>0
 | some p=>p.2
def Hg (n:Nat) (l:List Int) (s:Int) (us:Nat) (cnt aX:Int) (rs:List (List Int)) (fr:Int) (ops:LV) (rest:List (Option aG)):List (Option aG):=some (.box 150 [.sl 1 n 1 0 n,.d (.val (.slice none 0 0)),.int s])::some (.dat 5 1 (ak l))::some (.box 243 [.ptr 0 0,.int 0,.int ((n / 4:Nat):Int)])::some (.box 245 [.ptr 0 0,.int ((2*(n / 4):Nat):Int),.int ((n-2*(n / 4):Nat):Int),.int us])::some (.box 160 [.ptr 0 0,.ptr 2 0,.ptr 3 0,.int cnt,.int aX])::some (.box 56 [.ptr 4 0])::some (.box 58 [ops])::some (.box 58 [.d (.dN 1 (aS rs))])::some (.box 3 [.int fr])::rest
def Y1 (n:Nat) (l:List Int) (s:Int) (us:Nat) (aX:Int) (rs:List (List Int)) (a:Int) (q:Nat×List (List Int)):St:=⟨[(0,.yl 9),(2,.ptr 8 0),(9,.d (.dN 1 (aS rs))),(10,.int rs.length),(11,.int q.1),(YS,jH)],Hg n l s us (a+q.2.length) aX rs (a+q.2.length) (.sl 10 q.2.length 1 0 q.2.length) [none,some (.dat 57 1 (aS q.2))]⟩
theorem qi:∀ (rs:List (List Int)) (a:Int),(sQ rs a).length≤rs.length
 | [],_=>Nat.le_refl _
 | r::rs,a=>by
   unfold sQ
   have h1:=qi rs a
   have h2:=qi rs (a+1)
   cases eZ r 0 with
   | none=>simp
   | some q=>
     dsimp only
     split
     ·rw [List.length_cons]; omega
     ·split
      ·simp
      ·rw [List.length_cons,List.length_cons]; omega
theorem vt (r:List Int) (rs:List (List Int)) (a:Int):sQ (r::rs) a=match eZ r 0 with
  | none=>[]
  | some q=>if q.1<a∧q.2<r.length then sQ rs a else if q.1≠a∨q.2=r.length then [] else r.drop q.2::sQ rs (a+1):=rfl
def mQ (l:List Int) (n:Nat):List Int:=bN l (2*(n / 4)+(gL l (2*(n / 4)) (n-2*(n / 4))).2) (List.replicate (n-2*(n / 4)-(gL l (2*(n / 4)) (n-2*(n / 4))).2) 0)
def tK (l:List Int) (n:Nat):List (List Int):=(gL l (2*(n / 4)) (n-2*(n / 4))).1
def jB (l:List Int) (n:Nat):Option (List Int×Int):=gR (mQ l n) 0 (n / 4)
def mP (l:List Int) (n:Nat):List (List Int):=sQ (tK l n) (dO (jB l n))
def F8 (l:List Int) (n:Nat):Bool:=vz (tK l n) (dO (jB l n))
set_option maxHeartbeats 4000000 in
theorem J6 (n:Nat) (l:List Int) (s:Int) (hn:64≤n∧n≤65536) (hl:l.length=n) (hb:∀ c∈l,0≤c∧c≤255) (l1:List Int) (us:Nat) (rs:List (List Int)) (q:Option (List Int×Int)) (ops:List (List Int)) (E:Bool)
  (h1:l1=mQ l n) (h2:us=(gL l (2*(n / 4)) (n-2*(n / 4))).2) (h3:rs=tK l n) (h4:q=gR l1 0 (n / 4)) (h5:ops=sQ rs (dO q)) (h6:E=vz rs (dO q)) :
  br Tryz.prog G 29 [.ptr 0 0] (dR l s) (.dM [.ptr 2 0,af (jI q),.d (.dN 1 (aS ops)),.int 0])
   (if E=true then Ze n (bN l1 (2*(n / 4)) (List.replicate (n-2*(n / 4)) 0)) (IntKind.i64.wrap (IntKind.i64.wrap (s+1)+1)) (dO q+ops.length) (cG q) 0 else Ze n l1 (IntKind.i64.wrap (s+1)) (dO q+ops.length) (cG q) us):=by
 have hro:=qO hb (fr:=2*(n / 4)) (sz:=n-2*(n / 4)) (by omega)
 have hsz:=ij (G:=G) l s
 have Ij:=zS (G:=G) l s 0 (n / 4) (by omega) (by omega) (by omega)
 have hlo:=Eh (G:=G) l s (2*(n / 4)) (n-2*(n / 4)) hb (by omega) (by omega) (by omega) hro.1
 have qY:l1.length=n:=by rw [h1]; unfold mQ; rw [cw (by rw [List.length_replicate]; omega),hl]
 have EC:∀ c∈l1,0≤c∧c≤255:=by
  rw [h1]
  intro c hc
  unfold mQ bN at hc
  rcases List.mem_append.1 hc with hc | hc
  ·rcases List.mem_append.1 hc with hc | hc
   ·exact hb c (List.mem_of_mem_take hc)
   ·rw [List.eq_of_mem_replicate hc]; decide
  ·exact hb c (List.mem_of_mem_drop hc)
 have OW:=yL (G:=G) l1 (IntKind.i64.wrap (s+1)) 0 (n / 4) EC (by omega) (by omega)
 have hcl:=tT (G:=G) l1 (IntKind.i64.wrap (s+1)) (2*(n / 4)) (n-2*(n / 4)) us (by omega) (by omega) (by omega)
 have hcb:(bN l1 (2*(n / 4)) (List.replicate (n-2*(n / 4)) 0)).length=n:=by rw [cw (by rw [List.length_replicate]; omega),qY]
 rw [show bN l (2*(n / 4)+(gL l (2*(n / 4)) (n-2*(n / 4))).2) (List.replicate (n-2*(n / 4)-(gL l (2*(n / 4)) (n-2*(n / 4))).2) 0)=l1 from h1.symm] at hlo
 rw [← h2] at hlo hro
 rw [show (gL l (2*(n / 4)) (n-2*(n / 4))).1=rs from h3.symm] at hlo hro
 rw [← h4] at OW
 have hq:∀ p,q=some p→0≤p.2∧p.2≤dK:=fun p hp=>by
  rw [h4] at hp
  unfold gR at hp
  split at hp
  ·cases hp
  ·exact tH EC hp
 have ha:0≤dO q∧dO q≤dK:=by
  cases Cz:q with
  | none=>exact ⟨Int.le_refl _,by decide⟩
  | some p=>exact hq p Cz
 have hfo:=Ac (G:=G) rs (dO q)
 have hel:=KL (G:=G) rs (dO q) hro.2.2 (by omega)
 rw [← h6] at hel
 have hol:=qi rs (dO q)
 rw [← h5] at hol
 have SH:(aS rs).length=rs.length:=by simp [aS]
 clear h1 h2 h3 h4 h6
 have hpv:oV q=.dM [af (jI q),.int (dO q),.bool q.isSome]:=by cases q <;> rfl
 rw [hpv] at OW
 simp only [dR,dkS,dkL,mo,yN,af,hl,qY,hcb] at hsz Ij hlo OW hcl
 have w1:IntKind.i64.wrap (((n:Nat):Int).tdiv 4)=((n / 4:Nat):Int):=by rw [Int.tdiv_eq_ediv_of_nonneg (by omega),aD (by omega) (by omega)]; omega
 have w2:IntKind.i64.wrap (2*((n / 4:Nat):Int))=((2*(n / 4):Nat):Int):=by rw [aD (by omega) (by omega)]; omega
 have w3:IntKind.i64.wrap (((n:Nat):Int)-((2*(n / 4):Nat):Int))=((n-2*(n / 4):Nat):Int):=by rw [aD (by omega) (by omega)]; omega
 unfold dK at ha
 refine bD Tryz.func29 (by decide) Xm rfl ?_
 simp only [dR,hl,af,ZP,go_sem,simprocAttr]
 refine au [0,1] (hsz) rfl ?_ (by decide) ?_ ?_ (by simp) ?_ <;> simp only [aa,ah,go_sem,simprocAttr]
 simp only [decide_eq_false (show ¬ ((n:Nat):Int)<64 by omega),go_sem,simprocAttr]
 refine au [0,1] (hsz) rfl ?_ (by decide) ?_ ?_ (by simp) ?_ <;> simp only [aa,ah,go_sem,simprocAttr]
 simp only [w1,go_sem,simprocAttr]
 refine au [0,1] (Ij) rfl ?_ (by decide) ?_ ?_ (by simp) ?_ <;> simp only [aa,ah,go_sem,simprocAttr]
 simp only [w2,go_sem,simprocAttr]
 refine au [0,1] (hsz) rfl ?_ (by decide) ?_ ?_ (by simp) ?_ <;> simp only [aa,ah,go_sem,simprocAttr]
 simp only [w2,w3,go_sem,simprocAttr]
 refine au [0,1] (hlo) rfl ?_ (by decide) ?_ ?_ (by simp) ?_ <;> simp only [aa,ah,go_sem,simprocAttr]
 refine au [2,0,1] (OW) rfl ?_ (by decide) ?_ ?_ (by simp) ?_ <;> simp only [aa,ah,go_sem,simprocAttr]
 have hag:q.isSome=false→cG q = -1:=by cases q <;> simp [cG]
 have hat:q.isSome=true→cG q=dO q:=by cases q <;> simp [cG,dO]
 simp only [X9] at hfo
 cases hs:q.isSome
 case' false=>have hA:=hag hs
 case' true=>have hA:=hat hs
 all_goals
  simp only [go_sem,simprocAttr]
  refine fO hfo rfl rfl rfl ?_
  simp only [go_sem,simprocAttr]
  refine aaZ rfl (fun yv o=>yv=jH∧∃ fr rest,o=Hg n l1 (IntKind.i64.wrap (s+1)) us (dO q+ops.length) (cG q) rs fr (.sl 10 ops.length 1 0 ops.length) (none::some (.dat 57 1 (aS ops))::rest)) ?_ ?_
  case refine_2=>
   rintro yv ag ⟨rfl,fr,rest,rfl⟩
   refine .inl ⟨rfl,?_⟩
   simp only [Hg,go_sem,simprocAttr]
   refine av (hel) rfl rfl rfl rfl ?_; simp only [go_sem,simprocAttr]
   cases E with
   | true=>
     simp only [go_sem,simprocAttr]
     refine au [3,0,1] (hcl) rfl ?_ (by decide) ?_ ?_ (by simp) ?_ <;> simp only [aa,ah,go_sem,simprocAttr]
     refine bM [] [0,1,4,2,3] [10] (vs:=[.ptr 4 0,.d (.dN 1 (ak (jI q))),.sl 10 ops.length 1 0 ops.length,.int 0]) rfl rfl (by decide) (by simp) (by simp [St.obj,ay,bX]) rfl rfl ?_
     simp [St.obj,ay,aF,ah,aa,aM,aS,List.take_of_length_le,bX,LV.int]
   | false=>
     simp only [go_sem,simprocAttr]
     refine bM [] [0,1,4,2,3] [10] (vs:=[.ptr 4 0,.d (.dN 1 (ak (jI q))),.sl 10 ops.length 1 0 ops.length,.int 0]) rfl rfl (by decide) (by simp) (by simp [St.obj,ay,bX]) rfl rfl ?_
     simp [St.obj,ay,aF,ah,aa,aM,aS,List.take_of_length_le,bX,LV.int]
  simp only [go_sem,simprocAttr]
  refine WL Tryz.func171 (by decide) Rj rfl rfl rfl ?_
  simp only [UL,SH,go_sem,simprocAttr]
  refine aP [0,2,9,10,11,YS] [.b 6 0 57 1] (fun x:Nat×List (List Int)=>x.1≤rs.length∧ops=x.2++sQ (rs.drop x.1) (dO q+x.2.length)∧x.2.length≤x.1) (fun x=>rs.length-x.1) (Y1 n l1 (IntKind.i64.wrap (s+1)) us (cG q) rs (dO q)) (0,[]) ?_ ⟨Nat.zero_le _,by simp [h5],Nat.le_refl _⟩ ?_
  ·simp only [Y1,Hg,hA,Int.natCast_zero,Int.add_zero,aS,go_sem,simprocAttr]
  rintro ⟨k,done⟩ ⟨hk,hO,hd⟩
  dsimp only at hk hO hd
  simp only [Y1,Hg,go_sem,simprocAttr]
  by_cases hlt:k<rs.length
  case neg=>
   obtain rfl:k=rs.length:=by omega
   rw [List.drop_length,show sQ [] (dO q+done.length)=[] from rfl,List.append_nil] at hO
   subst hO
   simp only [decide_eq_false (show ¬ ((rs.length:Nat):Int)<((rs.length:Nat):Int) by omega),go_sem,simprocAttr]
   exact ⟨_,_,rfl⟩
  have hg:=aB (f:=fun b:List Int=>[DV.dN 1 (ak b)]) [] hlt
  rw [show rs.map (fun b:List Int=>[DV.dN 1 (ak b)])=aS rs from rfl] at hg
  rw [gT rs k [] hlt,vt] at hO
  have hm:rs.getD k []∈rs:=by rw [List.getD_eq_getElem?_getD,List.getElem?_eq_getElem hlt]; exact List.getElem_mem hlt
  have rE:=lV (G:=G) (rs.getD k []) (hro.2.2 _ hm).1 (by have:=(hro.2.2 _ hm).2; omega) 0 (by omega) _ rfl
  have v7:=hro.2.2 _ hm
  have Ss:=fun (x:Int) (p':Nat) (h:eZ (rs.getD k []) 0=some (x,p'))=>eY (fun c hc=>(v7.1 c hc).1) h
  generalize rs.getD k []=r at *
  have hkk:IntKind.i64.wrap (((k:Nat):Int)+1)=((k+1:Nat):Int):=ax (show k<9223372036854775807 by omega)
  simp only [decide_eq_true (show ((k:Nat):Int)<((rs.length:Nat):Int) by omega),hg,go_sem,simprocAttr]
  simp only [af] at rE
  cases hq1:eZ r 0 with
  | none=>
    rw [hq1] at rE hO
    simp only [eT,oH,oI,Option.isSome,List.append_nil] at rE hO
    subst hO
    refine av (rE) rfl rfl rfl rfl ?_; simp only [go_sem,simprocAttr]
    exact ⟨_,_,rfl⟩
  | some q1=>
    obtain ⟨x,p1⟩:=q1
    have hx:=Ss x p1 hq1
    rw [hq1] at rE hO
    simp only [eT,oH,oI,Option.isSome] at rE hO
    refine av (rE) rfl rfl rfl rfl ?_; simp only [go_sem,simprocAttr]
    have oO:(ak r).length=r.length:=aj r
    by_cases hc1:x<dO q+done.length∧p1<r.length
    ·rw [if_pos hc1] at hO
     simp only [decide_eq_true hc1.1,oO,decide_eq_true (show ((r.length:Nat):Int)>((p1:Nat):Int) by omega),go_sem,simprocAttr]
     refine aR (k+1,done) ?_ ?_ ⟨by dsimp only; omega,hO,by dsimp only; omega⟩ (by dsimp only; omega)
     ·simp only [jH,go_sem,simprocAttr]
     ·simp only [Y1,Hg,hkk,go_sem,simprocAttr]
    rw [if_neg hc1] at hO
    by_cases hc2:x≠dO q+done.length∨p1=r.length
    ·rw [if_pos hc2,List.append_nil] at hO
     subst hO
     by_cases hx1:x<dO q+ops.length
     ·have hp1:p1=r.length:=by omega
      simp only [decide_eq_true hx1,oO,decide_eq_false (show ¬ ((r.length:Nat):Int)>((p1:Nat):Int) by omega),show (x !=dO q+ops.length)=true from bne_iff_ne.2 (by omega),go_sem,simprocAttr]
      exact ⟨_,_,rfl⟩
     ·by_cases hx2:x=dO q+ops.length
      ·simp only [decide_eq_false hx1,oO,show (x !=dO q+ops.length)=false by simp [hx2],show (((r.length:Nat):Int)==((p1:Nat):Int))=true by rw [beq_iff_eq]; omega,go_sem,simprocAttr]
       exact ⟨_,_,rfl⟩
      ·simp only [decide_eq_false hx1,show (x !=dO q+ops.length)=true from bne_iff_ne.2 hx2,go_sem,simprocAttr]
       exact ⟨_,_,rfl⟩
    rw [if_neg hc2] at hO
    have hx2:x=dO q+done.length:=by omega
    have hp2:p1≠r.length:=by omega
    subst hx2
    have hcb:=oz (G:=G) (r.drop p1) (by rw [List.length_drop]; omega)
    simp only [af] at hcb
    have c1:p1≤r.length∧r.length≤r.length:=by omega
    have Ng:(ak (r.drop p1)).take (r.length-p1)=ak (r.drop p1):=List.take_of_length_le (by rw [aj,List.length_drop]; omega)
    simp only [decide_eq_false (show ¬ dO q+(done.length:Int)<dO q+(done.length:Int) by omega),oO,bne_self_eq_false,show (((r.length:Nat):Int)==((p1:Nat):Int))=false from beq_eq_false_iff_ne.2 (by omega),c1,dP,Ng,go_sem,simprocAttr]
    refine Tl rfl ?_
    simp only [go_sem,simprocAttr]
    refine Pr rfl rfl ?_
    simp only [go_sem,simprocAttr]
    refine bA (hcb) rfl rfl rfl rfl ?_; simp only [go_sem,simprocAttr]
    have hdl:(aS done).length=done.length:=by simp [aS]
    have LA:aS done++[[DV.dN 1 (ak (r.drop p1))]]=aS (done++[r.drop p1]):=by simp [aS]
    have XV:(aS (done++[r.drop p1])).length*24≤70368744177664:=by
     have:(aS (done++[r.drop p1])).length=done.length+1:=by simp [aS]
     omega
    rw [hdl,LA,if_pos ⟨rfl,XV⟩]
    simp only [go_sem,simprocAttr]
    refine az rfl ?_
    have w5:IntKind.i64.wrap (dO q+(done.length:Int)+1)=dO q+((done++[r.drop p1]).length:Int):=by rw [aD (by omega) (by omega),List.length_append,List.length_cons,List.length_nil]; omega
    simp only [w5,go_sem,simprocAttr]
    refine aR (k+1,done++[r.drop p1]) ?_ ?_ ⟨by dsimp only; omega,by rw [hO]; simp [Int.add_assoc],by simp; omega⟩ (by dsimp only; omega)
    ·simp only [jH,go_sem,simprocAttr]
    ·simp only [Y1,Hg,hkk,w5,List.length_append,go_sem,simprocAttr]
end Dv
namespace Dv
open Go Go.Proofs
def Ai (c:aI):ai→List (List Int)→Option ai
 | s,[]=>some s
 | s,b::bs=>match oZ b with
   | none=>none
   | some o=>if (bC c s o).2=0 then Ai c (bC c s o).1 bs else none
def lI (c:aI) (eR:List Int) (l:List (List Int)):Option ai:=if eR.length>0 then (nG c eR).bind fun s=>Ai c s l else Ai c (yI c) l
def rdS (c:aI) (l:List (List Int)) (x:Nat×ai):St:=⟨[(3,.ptr 0 0),(6,.ptr 1 0),(8,.ptr 2 0),(29,.d (.dN 1 (aS l))),(30,.int l.length),(31,.int x.1)],[some (.box 23 [.int c.nodes,.int c.bn,.int c.cv,.int c.gJ,.int c.eF,.int c.eE,.int c.deadline,.int c.room,.int c.gq]),some (.box 30 [.d (.val (.slice none 0 0)),.d (.val (.slice none 0 0)),.int 0,.int 0,.int 0,.int 0]),some (ez x.2)]⟩
set_option maxHeartbeats 2000000 in
theorem KU (c:aI) (eR:List Int) (l:List (List Int)) (hp:∀ x∈eR,0≤x∧x≤255) (iZ:eR.length≤1000000) (hl:∀ b∈l,(∀ x∈b,0≤x∧x≤255)∧b.length≤1000000) (Bh:l.length≤1000000):br Tryz.prog eD 99 [f_ c,af eR,.d (.dN 1 (aS l))] [] (fW (lI c eR l)) []:=by
 have hn:=PS (G:=eD) c
 have hg:=SN (G:=eD) c eR hp iZ
 have hcl:(aS l).length=l.length:=by simp [aS]
 simp only [af] at hg
 refine bD Tryz.func99 (by decide) WM rfl ?_
 simp only [af,Zi,go_sem,simprocAttr]
 refine av (hn) rfl rfl rfl rfl ?_; simp only [go_sem,simprocAttr]
 simp only [aj,hcl,go_sem,simprocAttr]
 obtain ⟨R,hR⟩:∃ R,lI c eR l=R:=⟨_,rfl⟩
 rw [hR]
 unfold lI at hR
 by_cases mz:0<eR.length
 case' pos=>
  rw [if_pos mz] at hR
  simp only [decide_eq_true (show ((eR.length:Nat):Int)>0 by omega),go_sem,simprocAttr]
  cases YF:nG c eR with
  | none=>
    rw [YF] at hg hR
    simp only [fW,Option.getD,Option.isSome,bz,j4] at hg
    refine av (hg) rfl rfl rfl rfl ?_; simp only [go_sem,simprocAttr]
    subst hR
    exact bw [] rfl (by simp) (by simp [aF,ah,aa,fW,bz,j4,bK,cA,LV.int,LV.bool,St.get,aO])
  | some s0=>?_
  rw [YF] at hg hR
  simp only [Option.bind] at hR
  simp only [fW,Option.getD,Option.isSome,bz] at hg
  refine av (hg) rfl rfl rfl rfl ?_; simp only [go_sem,simprocAttr]
 case' neg=>
  rw [if_neg mz] at hR
  simp only [decide_eq_false (show ¬ ((eR.length:Nat):Int)>0 by omega),go_sem,simprocAttr]
  obtain ⟨s0,hs0⟩:∃ s0,yI c=s0:=⟨_,rfl⟩
  rw [hs0] at hR ⊢
 all_goals
  refine aP [3,6,8,29,30,31] [] (fun x:Nat×ai=>x.1≤l.length∧Ai c x.2 (l.drop x.1)=R) (fun x=>l.length-x.1) (rdS c l) (0,s0) ?_ ⟨Nat.zero_le _,hR⟩ ?_
  ·simp only [rdS,ez,hcl,Int.natCast_zero,go_sem,simprocAttr]
  rintro ⟨k,s⟩ ⟨hk,hA⟩
  dsimp only at hk hA
  simp only [rdS,ez,go_sem,simprocAttr]
  by_cases hlt:k<l.length
  case neg=>
   obtain rfl:k=l.length:=by omega
   rw [List.drop_length] at hA
   unfold Ai at hA
   subst hA
   simp only [decide_eq_false (show ¬ ((l.length:Nat):Int)<((l.length:Nat):Int) by omega),go_sem,simprocAttr]
   exact bw [] rfl (by simp) (by simp [aF,ah,aa,fW,bz,j4,bK,cA,LV.int,LV.bool,St.get,aO])
  have hg:=aB (f:=fun b:List Int=>[DV.dN 1 (ak b)]) [] hlt
  rw [show l.map (fun b:List Int=>[DV.dN 1 (ak b)])=aS l from rfl] at hg
  rw [gT l k [] hlt] at hA
  have hm:l.getD k []∈l:=by rw [List.getD_eq_getElem?_getD,List.getElem?_eq_getElem hlt]; exact List.getElem_mem hlt
  have ho:=Mz (l.getD k []) (hl _ hm).1 (hl _ hm).2
  generalize l.getD k []=b at *
  simp only [af] at ho
  simp only [decide_eq_true (show ((k:Nat):Int)<((l.length:Nat):Int) by omega),hg,go_sem,simprocAttr]
  have o7:=hA
  unfold Ai at o7
  cases hq:oZ b with
  | none=>
    rw [hq] at ho o7
    simp only at o7
    subst o7
    simp only [AO,Option.getD,Option.isSome,rS,BJ] at ho
    refine av (ho) rfl rfl rfl rfl ?_; simp only [go_sem,simprocAttr]
    exact bw [] rfl (by simp) (by simp [aF,ah,aa,fW,bz,j4,bK,cA,LV.int,LV.bool,St.get,aO])
  | some o=>
    rw [hq] at ho o7
    simp only at o7
    simp only [AO,Option.getD,Option.isSome,rS] at ho
    refine av (ho) rfl rfl rfl rfl ?_; simp only [go_sem,simprocAttr]
    have hap:=BE c s o
    simp only [bz,rS] at hap
    refine av (hap) rfl rfl rfl rfl ?_; simp only [go_sem,simprocAttr]
    by_cases he:(bC c s o).2=0
    ·rw [if_pos he] at o7
     simp only [he,bne_self_eq_false,go_sem,simprocAttr]
     refine aR (k+1,(bC c s o).1) ?_ ?_ ⟨by dsimp only; omega,o7⟩ (by dsimp only; omega)
     ·simp only [go_sem,simprocAttr]
     ·simp only [rdS,ez,ax (show k<9223372036854775807 by omega),go_sem,simprocAttr]
    ·rw [if_neg he] at o7
     subst o7
     simp only [show ((bC c s o).2 !=0)=true from bne_iff_ne.2 he,go_sem,simprocAttr]
     exact bw [] rfl (by simp) (by simp [aF,ah,aa,fW,bz,j4,bK,cA,LV.int,LV.bool,St.get,aO])
end Dv
namespace Dv
open Go Go.Proofs
def gQ (l:List Int) (n:Nat) (s:Int):iB:=if F8 l n=true then ⟨n,bN (mQ l n) (2*(n / 4)) (List.replicate (n-2*(n / 4)) 0),IntKind.i64.wrap (IntKind.i64.wrap (s+1)+1),dO (jB l n)+(mP l n).length,cG (jB l n),0⟩ else ⟨n,mQ l n,IntKind.i64.wrap (s+1),dO (jB l n)+(mP l n).length,cG (jB l n),(gL l (2*(n / 4)) (n-2*(n / 4))).2⟩
def jP (j:iB):List aG:=Ze j.n j.l j.s j.cnt j.aX j.us
theorem Cb (l:List Int) (n:Nat) (s:Int):(gQ l n s).n=n:=by unfold gQ; split <;> rfl
theorem Bc {G:Nat→Option (List DV)} (n:Nat) (l:List Int) (s:Int) (hn:64≤n∧n≤65536) (hl:l.length=n) (hb:bP l):br Tryz.prog G 29 [.ptr 0 0] (dR l s) (.dM [.ptr 2 0,af (jI (jB l n)),.d (.dN 1 (aS (mP l n))),.int 0]) (jP (gQ l n s)):=by
 have h:=J6 (G:=G) n l s hn hl hb _ _ _ _ _ _ rfl rfl rfl rfl rfl rfl
 unfold jP gQ F8
 by_cases hE:vz (tK l n) (dO (jB l n))=true
 ·rw [if_pos hE]
  rw [if_pos (show vz (tK l n) (dO (gR (mQ l n) 0 (n / 4)))=true from hE)] at h
  exact h
 ·rw [if_neg hE]
  rw [if_neg (show ¬ vz (tK l n) (dO (gR (mQ l n) 0 (n / 4)))=true from hE)] at h
  exact h
theorem HN {l:List Int} {n:Nat} (hl:l.length=n) (hb:bP l):(mQ l n).length=n∧bP (mQ l n):=by
 have hro:=(qO hb (fr:=2*(n / 4)) (sz:=n-2*(n / 4)) (by omega)).1
 refine ⟨?_,jJ hb (gN _)⟩
 unfold mQ
 rw [cw (by rw [List.length_replicate]; omega),hl]
theorem w9 {l:List Int} {n:Nat} (s:Int) (hn:64≤n∧n≤65536) (hl:l.length=n) (hb:bP l):qC (gQ l n s):=by
 have hro:=(qO hb (fr:=2*(n / 4)) (sz:=n-2*(n / 4)) (by omega)).1
 obtain ⟨h1,h2⟩:=HN hl hb
 unfold gQ
 split
 ·exact ⟨by show (bN _ _ _).length=n; rw [cw (by rw [List.length_replicate]; omega),h1],hn,jJ h2 (gN _),Nat.zero_le _⟩
 ·exact ⟨h1,hn,h2,hro⟩
theorem HL {l:List Int} {n:Nat} (hl:l.length=n) (hb:bP l):bP (jI (jB l n))∧(jI (jB l n)).length≤n:=by
 obtain ⟨h1,h2⟩:=HN hl hb
 unfold jB gR
 split
 ·exact ⟨fun c hc=>(by cases hc),Nat.zero_le _⟩
 ·generalize (mR (mQ l n) 0 (n / 4) 2).1.toNat=k
  have hs:∀ c∈fE (mQ l n) 0 (n / 4) k,c∈mQ l n:=fun c hc=>List.mem_of_mem_drop (List.mem_of_mem_take hc)
  have hg:=p9 (fE (mQ l n) 0 (n / 4) k) 0
  have uM:(fE (mQ l n) 0 (n / 4) k).length≤n:=by unfold fE; rw [List.length_take,List.length_drop]; omega
  unfold ek
  split
  ·cases eZ (ck (fE (mQ l n) 0 (n / 4) k) 0).1 0 with
   | none=>exact ⟨fun c hc=>(by cases hc),Nat.zero_le _⟩
   | some q=>
     refine ⟨fun c hc=>h2 c (hs c (hg.1 c (List.mem_of_mem_drop hc))),?_⟩
     show (List.drop q.2 _).length≤n
     rw [List.length_drop]; omega
  ·exact ⟨fun c hc=>(by cases hc),Nat.zero_le _⟩
theorem CJ:∀ (rs:List (List Int)) (a:Int),(∀ r∈rs,bP r∧r.length≤4000)→∀ b∈sQ rs a,bP b∧b.length≤4000
 | [],_,_,b,hb=>by cases hb
 | r::rs,a,h,b,hb=>by
   rw [vt] at hb
   cases hq:eZ r 0 with
   | none=>rw [hq] at hb; cases hb
   | some q=>
     rw [hq] at hb
     dsimp only at hb
     split at hb
     ·exact CJ rs a (fun x hx=>h x (List.mem_cons_of_mem _ hx)) b hb
     split at hb
     ·cases hb
     rcases List.mem_cons.1 hb with rfl | hb
     ·have:=h r (List.mem_cons_self ..)
      exact ⟨fun c hc=>this.1 c (List.mem_of_mem_drop hc),by rw [List.length_drop]; omega⟩
     ·exact CJ rs (a+1) (fun x hx=>h x (List.mem_cons_of_mem _ hx)) b hb
theorem HM {l:List Int} {n:Nat} (hl:l.length=n) (hb:bP l):(∀ b∈mP l n,bP b∧b.length≤4000)∧(mP l n).length≤n:=by
 have hro:=qO hb (fr:=2*(n / 4)) (sz:=n-2*(n / 4)) (by omega)
 refine ⟨CJ _ _ hro.2.2,?_⟩
 have:=qi (tK l n) (dO (jB l n))
 have h2:=hro.2.1
 unfold mP
 unfold tK at *
 omega
theorem s6 {c:aI} : ∀ (l:List (List Int)) (s:ai) {t:ai},cm c s→Ai c s l=some t→cm c t
 | [],s,t,h,ht=>by cases ht; exact h
 | b::bs,s,t,h,ht=>by
   unfold Ai at ht
   cases hq:oZ b with
   | none=>rw [hq] at ht; cases ht
   | some o=>
     rw [hq] at ht
     dsimp only at ht
     split at ht
     ·exact s6 bs _ (mF h o) ht
     ·cases ht
theorem zb {c:aI} {b:List Int} {s:ai} (h:nG c b=some s):cm c s:=by
 unfold nG at h
 split at h
 ·cases h
 split at h
 ·split at h
  ·cases h
  split at h
  ·rename_i hr; cases h; exact (gA _ _).1 hr
  ·cases h
 ·cases h
theorem pO {c:aI} (hm:iH c=true) {eR:List Int} {l:List (List Int)} {t:ai} (h:lI c eR l=some t):cm c t:=by
 unfold lI at h
 split at h
 ·cases hg:nG c eR with
  | none=>rw [hg] at h; cases h
  | some s=>rw [hg] at h; exact s6 l s (zb hg) h
 ·exact s6 l _ (yH hm) h
def cr (c:aI) (j:iB) (room term:Int) (sh:List oQ) (wr now:Int) (st:ai):bR:=⟨c,st,j,room,term,sh,wr,List.replicate st.nodes.length (Lw now),false,0⟩
def Ek (sh:List oQ) (k:Nat) (j:ct):List oQ:=if j.phase=4 then sh.set (k+1) vL else if j.cK≠0 then sh.set (k+1) (jw (sh.getD (k+1) vL) j.cK) else sh
def mT (jobs:List ct) (sh:List oQ):Nat→List oQ
 | 0=>sh
 | k+1=>Ek (mT jobs sh k) k (jobs.getD k aK)
theorem J9 (sh:List oQ) (k:Nat) (j:ct):(Ek sh k j).length=sh.length:=by
 unfold Ek
 split
 ·simp
 ·split <;> simp
theorem yS (jobs:List ct) (sh:List oQ):∀ k,(mT jobs sh k).length=sh.length
 | 0=>rfl
 | k+1=>by rw [mT,J9,yS jobs sh k]
def bR.uC (y:bR):bR:={ y with term:=if y.s.term>y.term then y.s.term else y.term,sh:=mT y.s.jobs y.sh y.s.jobs.length }
def eL:LV:=.d (.val (.pointer none))
def IL (c:aI) (l:List Int) (n:Nat) (s room term:Int) (sh:List oQ) (wr now:Int):LV×List aG:=match lI c (jI (jB l n)) (mP l n) with
 | none=>(.dM [eL,.int 2],dR (gQ l n s).l (gQ l n s).s++nS room term sh wr)
 | some st=>if (cr c (gQ l n s) room term sh wr now st).ew aZ=0 then (.dM [.ptr 3 0,.int 0],Fa ((cr c (gQ l n s) room term sh wr now st).cU aZ now).uC) else (.dM [eL,.int ((cr c (gQ l n s) room term sh wr now st).ew aZ)],dR ((cr c (gQ l n s) room term sh wr now st).cU aZ now).j.l ((cr c (gQ l n s) room term sh wr now st).cU aZ now).j.s++nS room term sh wr)
theorem zG {c:aI} {j:iB} {room term:Int} {sh:List oQ} {wr now:Int} {st:ai} (hr:cm c st) (hj:qC j) (hs:sh.length=25):Tk (cr c j room term sh wr now st):=⟨hr,hj,hs,List.length_replicate⟩
def wK (c:aI):aG:=.box 23 [.int c.nodes,.int c.bn,.int c.cv,.int c.gJ,.int c.eF,.int c.eE,.int c.deadline,.int c.room,.int c.gq]
def btS (c:aI) (j:iB) (room term:Int) (sh:List oQ) (wr now:Int) (st:ai) (k:Nat):St:=⟨[(1,.ptr 0 0),(2,.ptr 2 0),(3,.int now),(16,.ptr 8 0),(62,.int st.nodes.length),(63,.int k)],
 [some (.box 150 [.sl 1 j.n 1 0 j.n,.d (.val (.slice none 0 0)),.int j.s]),some (.dat 5 1 (ak j.l)),some (.box 190 (.int room::.int term::(sh.flatMap tu++[.int wr]))),some (wK c),
  some (.box 160 [.ptr 0 0,.ptr 5 0,.ptr 6 0,.int j.cnt,.int j.aX]),some (.box 243 [.ptr 0 0,.int 0,.int ((j.n / 4:Nat):Int)]),some (.box 245 [.ptr 0 0,.int ((2*(j.n / 4):Nat):Int),.int ((j.n-2*(j.n / 4):Nat):Int),.int j.us]),
  some (ez st),
  some (.box 195 [.int c.nodes,.int c.bn,.int c.cv,.int c.gJ,.int c.eF,.int c.eE,.int c.deadline,.int c.room,.int c.gq,.ptr 0 0,.ptr 4 0,.ptr 2 0,bK st.nodes,cA st.jobs,.int st.goal,.int st.bH,.int st.mode,.int st.term,.sl 9 k 26 0 k,.bool false,.int 0]),
  some (dg (List.replicate k (Lw now)))]⟩
def YM (c:aI) (st:ai) (y:bR) (k:Nat):St:=⟨[(2,.ptr 2 0),(16,.ptr 8 0),(95,cA y.s.jobs),(96,.int y.s.jobs.length),(97,.int k)],
 [some (.box 150 [.sl 1 y.j.n 1 0 y.j.n,.d (.val (.slice none 0 0)),.int y.j.s]),some (.dat 5 1 (ak y.j.l)),some (.box 190 (.int y.room::.int (if y.s.term>y.term then y.s.term else y.term)::((mT y.s.jobs y.sh k).flatMap tu++[.int y.wr]))),some (wK c),
  some (.box 160 [.ptr 0 0,.ptr 5 0,.ptr 6 0,.int y.j.cnt,.int y.j.aX]),some (.box 243 [.ptr 0 0,.int 0,.int ((y.j.n / 4:Nat):Int)]),some (.box 245 [.ptr 0 0,.int ((2*(y.j.n / 4):Nat):Int),.int ((y.j.n-2*(y.j.n / 4):Nat):Int),.int y.j.us]),
  some (ez st),
  some (.box 195 [.int y.c.nodes,.int y.c.bn,.int y.c.cv,.int y.c.gJ,.int y.c.eF,.int y.c.eE,.int y.c.deadline,.int y.c.room,.int y.c.gq,.ptr 0 0,.ptr 4 0,.ptr 2 0,bK y.s.nodes,cA y.s.jobs,.int y.s.goal,.int y.s.bH,.int y.s.mode,.int y.s.term,.sl 9 y.lines.length 26 0 y.lines.length,.bool y.down,.int y.gx]),
  some (dg y.lines)]⟩
set_option maxHeartbeats 4000000 in
theorem OC (c:aI) (hm:iH c=true) (n:Nat) (hn:64≤n∧n≤65536) (l:List Int) (hl:l.length=n) (hb:bP l) (s room term:Int) (sh:List oQ) (hs:sh.length=25) (wr now:Int) (Nt:0≤now∧now≤1000000):br Tryz.prog eD 37 [f_ c,.ptr 0 0,.ptr 2 0,.int now] (dR l s++nS room term sh wr) (IL c l n s room term sh wr now).1 (IL c l n s room term sh wr now).2:=by
 have hmay:=qU (G:=eD) c
 rw [hm] at hmay
 have hsz:=ij (G:=eD) l s
 have VH:=Dm (G:=eD) now
 rw [decide_eq_true Nt] at VH
 have hop:=Bc (G:=eD) n l s hn hl hb
 have hq:=HL hl hb
 have ho:=HM hl hb
 have hrd:=KU c (jI (jB l n)) (mP l n) hq.1 (by omega) (fun b h=>⟨(ho.1 b h).1,by have:=(ho.1 b h).2; omega⟩) (by omega)
 have YB:=fun t (h:lI c (jI (jB l n)) (mP l n)=some t)=>pO hm h
 have hj:=w9 s hn hl hb
 have hjn:=Cb l n s
 unfold IL
 generalize lI c (jI (jB l n)) (mP l n)=R at *
 generalize gQ l n s=j at *
 generalize jI (jB l n)=eR at *
 generalize mP l n=ops at *
 clear hq ho
 subst hjn
 have hjl:=hj.len
 have hR:R=none∨∃ st,R=some st:=by cases R <;> simp
 simp only [dR,hl] at hsz hop
 simp only [jP,Ze,af] at hop
 simp only [af] at hrd
 refine bD Tryz.func37 (by decide) Cq rfl ?_
 simp only [dR,nS,hl,hjl,M0,go_sem,simprocAttr]
 refine av (hmay) rfl rfl rfl rfl ?_; simp only [go_sem,simprocAttr]
 refine au [0,1] (hsz) rfl ?_ (by decide) ?_ ?_ (by simp) ?_ <;> simp only [aa,ah,go_sem,simprocAttr]
 simp only [decide_eq_false (show ¬ ((j.n:Nat):Int)<64 by omega),go_sem,simprocAttr]
 refine av (VH) rfl rfl rfl rfl ?_; simp only [go_sem,simprocAttr]
 refine au [0,1] (hop) rfl ?_ (by decide) ?_ ?_ (by simp) ?_ <;> simp only [aa,ah,go_sem,simprocAttr]
 rcases hR with rfl | ⟨st,rfl⟩
 ·simp only [fW,Option.getD,Option.isSome,bz,j4] at hrd
  refine av (hrd) rfl rfl rfl rfl ?_; simp only [go_sem,simprocAttr]
  exact bM [] [0,1,2] [] (vs:=[eL,.int 2]) rfl rfl (by decide) (by simp) (by simp) (by simp only [List.map_cons,List.map_nil,fC,m_,cO,dV]; rfl) (by simp only [List.all_cons,List.all_nil,dQ,eX,eU,bU,cH]; rfl) (by simp [aF,ah,aa,eL,LV.int])
 have hr:=YB st rfl
 have hx:=zG (room:=room) (term:=term) (wr:=wr) (now:=now) hr hj hs
 have v8:=MF _ hx aZ now
 have hno:=hx.note aZ now
 have hjn:=xk (cr c j room term sh wr now st) aZ now
 have hnl:st.nodes.length≤6:=hr.len.2
 have hnX:(cr c j room term sh wr now st).ew aZ≠0→((cr c j room term sh wr now st).cU aZ now).sh=sh∧((cr c j room term sh wr now st).cU aZ now).room=room∧((cr c j room term sh wr now st).cU aZ now).term=term∧((cr c j room term sh wr now st).cU aZ now).wr=wr:=fun h=>by
  unfold bR.cU; rw [if_neg h]; exact ⟨rfl,rfl,rfl,rfl⟩
 dsimp only
 generalize hy:(cr c j room term sh wr now st).cU aZ now=y at *
 generalize (cr c j room term sh wr now st).ew aZ=e at *
 have YG:=xP (G:=eD) y.room y.term y.sh y.wr y.s.term
 simp only [fW,Option.getD,Option.isSome,bz] at hrd
 refine av (hrd) rfl rfl rfl rfl ?_; simp only [go_sem,simprocAttr]
 simp only [cr] at hjn
 simp only [eM,kC,dg,cr,hjn,List.cons_append,List.nil_append,aZ,List.length_replicate] at v8
 simp only [nS,List.cons_append,List.nil_append] at YG
 refine aP [1,2,3,16,62,63] [.b 8 18 197 26] (fun k:Nat=>k≤st.nodes.length) (fun k=>st.nodes.length-k) (btS c j room term sh wr now st) 0 ?_ (Nat.zero_le _) (fun k hk=>?_)
 ·simp only [btS,wK,ez,dg,List.replicate_zero,Int.natCast_zero,go_sem,simprocAttr]
 simp only [btS,wK,ez,dg,go_sem,simprocAttr]
 by_cases hlt:k<st.nodes.length
 ·have gu:(List.replicate (k+1) (Lw now)).map OR=(List.replicate k (Lw now)).map OR++[OR (Lw now)]:=by rw [List.replicate_succ',List.map_append]; rfl
  simp only [decide_eq_true (show ((k:Nat):Int)<((st.nodes.length:Nat):Int) by omega),go_sem,simprocAttr]
  have rD:OR (Lw now)=[i64 0,bl false,i64 0,i64 0,i64 0,i64 0,i64 0,i64 0,i64 0,i64 0,i64 0,i64 0,i64 0,i64 0,i64 now,i64 0,i64 0,i64 0,i64 0,i64 0,i64 0,i64 0,i64 0,i64 0,i64 0,i64 0]:=rfl
  have c1:(k+1)*208≤70368744177664:=by omega
  simp only [List.length_append,List.length_replicate,c1,go_sem,simprocAttr]
  refine aR (k+1) ?_ ?_ (show k+1≤st.nodes.length by omega) (show st.nodes.length-(k+1)<st.nodes.length-k by omega)
  ·simp only [bU,cH,go_sem,simprocAttr]
  ·simp only [ax (show k<9223372036854775807 by omega),gu,rD,List.length_replicate,List.length_append,btS,wK,ez,dg,go_sem,simprocAttr]
 obtain rfl:k=st.nodes.length:=by omega
 simp only [decide_eq_false (show ¬ ((st.nodes.length:Nat):Int)<((st.nodes.length:Nat):Int) by omega),go_sem,simprocAttr]
 refine au [8,4,0,5,6,1,2,9] (v8) rfl ?_ (by decide) ?_ ?_ (by simp) ?_ <;> simp only [aa,ah,go_sem,simprocAttr,cO,dV,bU,cH,List.length_replicate]
 by_cases he:e=0
 case neg=>
  obtain ⟨g1,g2,g3,g4⟩:=hnX he
  have Nc:=hno.jn.len
  simp only [show (e !=0)=true from bne_iff_ne.2 he,if_neg he,g1,g2,g3,g4,dR,nS,Nc,hjn,go_sem,simprocAttr]
  exact bM [] [0,1,2] [] (vs:=[eL,.int e]) rfl rfl (by decide) (by simp) (by simp) (by simp only [List.map_cons,List.map_nil,fC,m_,cO,dV]; rfl) (by simp only [List.all_cons,List.all_nil,dQ,eX,eU,bU,cH]; rfl) (by simp [aF,ah,aa,eL,LV.int])
 subst he
 simp only [bne_self_eq_false,go_sem,simprocAttr]
 refine au [2] (YG) rfl ?_ (by decide) ?_ ?_ (by simp) ?_ <;> simp only [aa,ah,go_sem,simprocAttr,cO,dV,bU,cH]
 have Sl:=hno.right
 have hjb:=Sl.jobs
 have hys:=hno.sh
 refine aP [2,16,95,96,97] [] (fun k:Nat=>k≤y.s.jobs.length) (fun k=>y.s.jobs.length-k) (YM c st y) 0 ?_ (Nat.zero_le _) (fun k hk=>?_)
 ·simp only [YM,wK,ez,dg,mT,hjn,Int.natCast_zero,go_sem,simprocAttr]
 simp only [YM,wK,ez,dg,go_sem,simprocAttr]
 by_cases hlt:k<y.s.jobs.length
 case neg=>
  obtain rfl:k=y.s.jobs.length:=by omega
  simp only [decide_eq_false (show ¬ ((y.s.jobs.length:Nat):Int)<((y.s.jobs.length:Nat):Int) by omega),go_sem,simprocAttr]
  have hid:=Ld 8 (Nat.le_refl 8) y.uC
  simp only [bR.uC,Fa,II,dg,bK,cA,LV.int,LV.bool] at hid ⊢
  refine bM [] [0,1,2,8,9,4,5,6] [] (vs:=[.ptr 8 0,.int 0]) rfl rfl (by decide) (by simp) (by simp) ?_ hid ?_
  ·simp only [List.map_cons,List.map_nil,fC,m_,cO,dV]
   rfl
  simp [aF,ah,aa,LV.int,LV.bool]
 have hg:=aB (f:=cQ) aK hlt
 have Kn:mT y.s.jobs y.sh (k+1)=Ek (mT y.s.jobs y.sh k) k (y.s.jobs.getD k aK):=rfl
 have hep:=(Sl.num k hlt).cK
 have uM:(mT y.s.jobs y.sh k).length=25:=by rw [yS,hys]
 generalize hq:mT y.s.jobs y.sh k=sk at *
 have abW:0≤(y.s.jobs.getD k aK).cK:=hep.1
 clear hep
 generalize y.s.jobs.getD k aK=jb at *
 obtain ⟨q0,q1,q2,q3,q4,q5,ph,q7,q8,q9,q10,ep⟩:=jb
 dsimp only at abW
 have w1:=ax (show k<9223372036854775807 by omega)
 have hend:=tn (G:=eD) y.room (if y.s.term>y.term then y.s.term else y.term) sk y.wr (k+1) (by omega) uM
 simp only [cQ] at hg
 simp only [nS,List.cons_append,List.nil_append] at hend
 unfold Ek at Kn
 simp only [decide_eq_true (show ((k:Nat):Int)<((y.s.jobs.length:Nat):Int) by omega),hg,go_sem,simprocAttr]
 by_cases h4:ph=4
 ·subst h4
  rw [if_pos rfl] at Kn
  simp only [w1,go_sem,simprocAttr]
  refine au [2] (hend) rfl ?_ (by decide) ?_ ?_ (by simp) ?_ <;> simp only [aa,ah,go_sem,simprocAttr,cO,dV,bU,cH]
  refine aR (k+1) ?_ ?_ (show k+1≤y.s.jobs.length by omega) (show y.s.jobs.length-(k+1)<y.s.jobs.length-k by omega)
  ·simp only [bU,cH,go_sem,simprocAttr]
  ·simp only [YM,wK,ez,dg,Kn,w1,go_sem,simprocAttr]
 rw [if_neg h4] at Kn
 by_cases h0:ep=0
 ·subst h0
  rw [if_neg (by simp)] at Kn
  simp only [show (ph==4)=false from beq_eq_false_iff_ne.2 h4,go_sem,simprocAttr]
  refine aR (k+1) ?_ ?_ (show k+1≤y.s.jobs.length by omega) (show y.s.jobs.length-(k+1)<y.s.jobs.length-k by omega)
  ·simp only [bU,cH,go_sem,simprocAttr]
  ·simp only [YM,wK,ez,dg,Kn,w1,go_sem,simprocAttr]
 ·rw [if_pos h0] at Kn
  have LD:=oE (G:=eD) y.room (if y.s.term>y.term then y.s.term else y.term) sk y.wr (k+1) (by omega) uM ep (by omega) _ rfl
  simp only [nS,List.cons_append,List.nil_append] at LD
  simp only [show (ph==4)=false from beq_eq_false_iff_ne.2 h4,show (ep !=0)=true from bne_iff_ne.2 h0,w1,go_sem,simprocAttr]
  refine au [2] (LD) rfl ?_ (by decide) ?_ ?_ (by simp) ?_ <;> simp only [aa,ah,go_sem,simprocAttr,cO,dV,bU,cH]
  refine aR (k+1) ?_ ?_ (show k+1≤y.s.jobs.length by omega) (show y.s.jobs.length-(k+1)<y.s.jobs.length-k by omega)
  ·simp only [bU,cH,go_sem,simprocAttr]
  ·simp only [YM,wK,ez,dg,Kn,w1,go_sem,simprocAttr]
end Dv
