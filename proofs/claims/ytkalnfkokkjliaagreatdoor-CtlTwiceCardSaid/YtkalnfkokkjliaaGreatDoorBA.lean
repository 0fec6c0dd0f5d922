/- part -/
import Derived.Test.YtkalnfkokkjliaaGreatDoorNA
import Derived.Test.YtkalnfkokkjliaaGreatDoorKA
import Derived.Test.YtkalnfkokkjliaaGreatDoorCA
import Derived.Test.YtkalnfkokkjliaaGreatDoorIA
import Derived.Test.YtkalnfkokkjliaaGreatDoorOA
set_option linter.all false
set_option maxHeartbeats 4000000
set_option maxRecDepth 100000
namespace Dv
open Go Go.Proofs
variable {G:Nat→Option (List DV)}
def XK:=qx Tryz.f174
theorem Ua:aj Tryz.prog Tryz.f174=some XK:=by kernel_rfl
def Xi:=qx Tryz.f228
theorem TE:aj Tryz.prog Tryz.f228=some Xi:=by kernel_rfl
def XL:=qx Tryz.f173
theorem Ub:aj Tryz.prog Tryz.f173=some XL:=by kernel_rfl
theorem Qz {b:List Int} (hb:∀ c∈b,0≤c∧c≤255) (a:Nat):∀ c∈(dL b a).1,0≤c∧c≤255:=fun c hc=>hb c ((qT b a).1 c hc)
theorem KU {b:List Int} (hb:∀ c∈b,0≤c∧c≤255):∀ (f:Nat) (l:List (List Int)) (a:Nat),a≤b.length→(∀ r∈l,(∀ c∈r,0≤c∧c≤255)∧r.length≤4000)→(vi b f l a).2≤b.length∧(vi b f l a).1.length+a≤l.length+(vi b f l a).2∧∀ r∈(vi b f l a).1,(∀ c∈r,0≤c∧c≤255)∧r.length≤4000
 | 0,l,a,ha,hl=>⟨ha,Nat.le_refl _,hl⟩
 | f+1,l,a,ha,hl=>by
   unfold vi
   by_cases h1:(dL b a).2.2=1
   ·rw [if_pos h1]
    have he:=Gc (fun c hc=>(hb c hc).1) h1
    have:=KU hb f (l++[(dL b a).1]) (dL b a).2.1 he.2.1 (fun r hr=>by
     rcases List.mem_append.1 hr with hr | hr
     ·exact hl r hr
     ·rw [List.mem_singleton.1 hr]
      exact ⟨Qz hb a,he.2.2⟩)
    refine ⟨this.1,?_,this.2.2⟩
    have h2:=this.2.1
    rw [List.length_append,List.length_cons,List.length_nil] at h2
    omega
   ·rw [if_neg h1]
    exact ⟨ha,Nat.le_refl _,hl⟩
theorem ym {l:List Int} (hb:∀ c∈l,0≤c∧c≤255) {fr sz:Nat} (h:fr+sz≤l.length):(je l fr sz).2≤sz∧(je l fr sz).1.length≤sz∧∀ r∈(je l fr sz).1,(∀ c∈r,0≤c∧c≤255)∧r.length≤4000:=by
 have:=KU (EU (fr:=fr) (sz:=sz) hb) (sz+1) [] 0 (Nat.zero_le _) (fun r hr=>by cases hr)
 rw [uc h] at this
 unfold je
 refine ⟨this.1,?_,this.2.2⟩
 have h2:=this.2.1
 have h1:=this.1
 simp only [List.length_nil] at h2
 omega
def uW:List (List Int)→Int→List (List Int)
 | [],_=>[]
 | r::rs,a=>match gq r 0 with
   | none=>[]
   | some q=>if q.1<a∧q.2<r.length then uW rs a else if q.1≠a∨q.2=r.length then [] else r.drop q.2::uW rs (a+1)
def IW (r:List Int) (a:Int):Bool:=match gq r 0 with
 | none=>true
 | some q=>decide (q.1≥a)
def Ab (a:Int):List (List Int)→Nat→Int
 | [],_=>-1
 | r::rs,k=>if IW r a=true then k else Ab a rs (k+1)
def Ej (rs:List (List Int)) (a:Int):Bool:=decide ((rs.length:Int)>0)&&!(decide (Ab a rs 0≥0))
def sq (a:Int):List aH:=[.box 3 [.int a]]
def Bw (p:Nat):LV:=.fn (.func 174) [] [.ptr p 0]
theorem QN (r:List Int) (a:Int) (hb:∀ c∈r,0≤c∧c≤255) (hl:r.length≤4000):bw Tryz.prog G 174 [aq r,.ptr 0 0] (sq a) (.bool (IW r a)) (sq a):=by
 have hg:=jT (G:=G) r hb (by omega) 0 (by omega) _ rfl
 refine aT Tryz.func174 (by decide) Ua rfl rfl rfl rfl ?_
 simp only [XK,go_sem]
 simp only [sq,aq,go_sem]
 simp only [aq] at hg
 unfold IW
 cases hq:gq r 0 with
 | none=>
   rw [hq] at hg
   simp only [gd,zj,zk,Option.isSome] at hg
   refine ay (hg) rfl rfl rfl rfl ?_; simp only [go_sem]
 | some q=>
   rw [hq] at hg
   obtain ⟨x,p⟩:=q
   simp only [gd,zj,zk,Option.isSome] at hg
   refine ay (hg) rfl rfl rfl rfl ?_; simp only [go_sem]
def ixS (rs:List (List Int)) (a:Int) (k:Nat):St:=⟨[(0,.d (.dH 1 (bT rs))),(1,Bw 0),(7,.int rs.length),(8,.int k)],(sq a).map some⟩
theorem UY (rs:List (List Int)) (a:Int) (hr:∀ r∈rs,(∀ c∈r,0≤c∧c≤255)∧r.length≤4000) (hl:rs.length≤100000):bw Tryz.prog G 228 [.d (.dH 1 (bT rs)),Bw 0] (sq a) (.int (Ab a rs 0)) (sq a):=by
 have hcl:(bT rs).length=rs.length:=by simp [bT]
 refine aT Tryz.func228 (by decide) TE rfl rfl rfl rfl ?_
 simp only [Xi,go_sem]
 simp only [sq,Bw,hcl,go_sem]
 refine aW [0,1,7,8] [] (fun k:Nat=>k≤rs.length∧Ab a rs 0=Ab a (rs.drop k) k) (fun k=>rs.length-k) (ixS rs a) 0 ?_ ⟨Nat.zero_le _,rfl⟩ ?_
 ·simp only [ixS,sq,Bw,Int.natCast_zero,go_sem]
 rintro k ⟨hk,hI⟩
 simp only [ixS,sq,Bw,go_sem]
 by_cases hlt:k<rs.length
 case neg=>
  obtain rfl:k=rs.length:=by omega
  rw [List.drop_length] at hI
  simp only [decide_eq_false (show ¬ ((rs.length:Nat):Int)<((rs.length:Nat):Int) by omega),hI,Ab,go_sem]
 have hg:=aJ (f:=fun b:List Int=>[DV.dH 1 (aB b)]) [] hlt
 rw [show rs.map (fun b:List Int=>[DV.dH 1 (aB b)])=bT rs from rfl] at hg
 rw [tB rs k [] hlt] at hI
 have hm:rs.getD k []∈rs:=by rw [List.getD_eq_getElem?_getD,List.getElem?_eq_getElem hlt]; exact List.getElem_mem hlt
 have he:=QN (G:=G) (rs.getD k []) a (hr _ hm).1 (hr _ hm).2
 generalize rs.getD k []=r at *
 simp only [sq,aq] at he
 simp only [decide_eq_true (show ((k:Nat):Int)<((rs.length:Nat):Int) by omega),hg,go_sem]
 refine gW [0] (he) rfl ?_ (by decide) ?_ ?_ ?_ <;> simp only [ag,ah,go_sem]
 rw [show Ab a (r::rs.drop (k+1)) k=if IW r a=true then (k:Int) else Ab a (rs.drop (k+1)) (k+1) from rfl] at hI
 cases h1:IW r a with
 | true=>
   rw [h1,if_pos rfl] at hI
   simp only [hI,go_sem]
 | false=>
   rw [h1,if_neg (by decide)] at hI
   simp only [go_sem]
   refine a_ (k+1) ?_ ?_ ⟨by omega,hI⟩ (by omega)
   ·simp only [go_sem]
   ·simp only [ixS,sq,Bw,aG (show k<9223372036854775807 by omega),go_sem]
theorem Ep (rs:List (List Int)) (a:Int) (hr:∀ r∈rs,(∀ c∈r,0≤c∧c≤255)∧r.length≤4000) (hl:rs.length≤100000):bw Tryz.prog G 173 [.d (.dH 1 (bT rs)),Bw 0] (sq a) (.bool (decide (Ab a rs 0≥0))) (sq a):=by
 have hi:=UY (G:=G) rs a hr hl
 simp only [sq,Bw] at hi
 refine aT Tryz.func173 (by decide) Ub rfl rfl rfl rfl ?_
 simp only [XL,go_sem]
 simp only [sq,Bw,go_sem]
 refine gW [0] (hi) rfl ?_ (by decide) ?_ ?_ ?_ <;> simp only [ag,ah,go_sem]
theorem MP (rs:List (List Int)) (a:Int) (hr:∀ r∈rs,(∀ c∈r,0≤c∧c≤255)∧r.length≤4000) (hl:rs.length≤100000):bw Tryz.prog G 85 [.d (.dH 1 (bT rs)),.int a] [] (.bool (Ej rs a)) []:=by
 have hcl:(bT rs).length=rs.length:=by simp [bT]
 have hc:=Ep (G:=G) rs a hr hl
 simp only [sq,Bw] at hc
 refine br Tryz.func85 (by decide) Pr rfl rfl ?_
 simp only [ZQ,go_sem]
 simp only [hcl,Ej,go_sem]
 by_cases h0:((rs.length:Nat):Int)>0
 ·simp only [decide_eq_true h0,go_sem]
  refine gW [0] (hc) rfl ?_ (by decide) ?_ ?_ ?_ <;> simp only [ag,ah,go_sem]
 ·simp only [decide_eq_false h0,go_sem]
def fo:Option (List Int×Int)→Int
 | none=>0
 | some p=>p.2
def Jr (n:Nat) (l:List Int) (s:Int) (us:Nat) (cnt cc:Int) (rs:List (List Int)) (fr:Int) (ops:LV) (rest:List (Option aH)):List (Option aH):=some (.box 150 [.sl 1 n 1 0 n,.d (.val (.slice none 0 0)),.int s])::some (.dat 5 1 (aB l))::some (.box 243 [.ptr 0 0,.int 0,.int ((n / 4:Nat):Int)])::some (.box 245 [.ptr 0 0,.int ((2*(n / 4):Nat):Int),.int ((n-2*(n / 4):Nat):Int),.int us])::some (.box 160 [.ptr 0 0,.ptr 2 0,.ptr 3 0,.int cnt,.int cc])::some (.box 56 [.ptr 4 0])::some (.box 58 [ops])::some (.box 58 [.d (.dH 1 (bT rs))])::some (.box 3 [.int fr])::rest
def opS (n:Nat) (l:List Int) (s:Int) (us:Nat) (cc:Int) (rs:List (List Int)) (a:Int) (q:Nat×List (List Int)):St:=⟨[(0,.yl 9),(2,.ptr 8 0),(9,.d (.dH 1 (bT rs))),(10,.int rs.length),(11,.int q.1),(YS,jf)],Jr n l s us (a+q.2.length) cc rs (a+q.2.length) (.sl 10 q.2.length 1 0 q.2.length) [none,some (.dat 57 1 (bT q.2))]⟩
theorem uV:∀ (rs:List (List Int)) (a:Int),(uW rs a).length≤rs.length
 | [],_=>Nat.le_refl _
 | r::rs,a=>by
   unfold uW
   have h1:=uV rs a
   have h2:=uV rs (a+1)
   cases gq r 0 with
   | none=>simp
   | some q=>
     dsimp only
     split
     ·rw [List.length_cons]; omega
     ·split
      ·simp
      ·rw [List.length_cons,List.length_cons]; omega
theorem wz (r:List Int) (rs:List (List Int)) (a:Int):uW (r::rs) a=match gq r 0 with
  | none=>[]
  | some q=>if q.1<a∧q.2<r.length then uW rs a else if q.1≠a∨q.2=r.length then [] else r.drop q.2::uW rs (a+1):=rfl
def mE (l:List Int) (n:Nat):List Int:=bW l (2*(n / 4)+(je l (2*(n / 4)) (n-2*(n / 4))).2) (List.replicate (n-2*(n / 4)-(je l (2*(n / 4)) (n-2*(n / 4))).2) 0)
def Bf (l:List Int) (n:Nat):List (List Int):=(je l (2*(n / 4)) (n-2*(n / 4))).1
def ny (l:List Int) (n:Nat):Option (List Int×Int):=fI (mE l n) 0 (n / 4)
def tf (l:List Int) (n:Nat):List (List Int):=uW (Bf l n) (fo (ny l n))
def Sh (l:List Int) (n:Nat):Bool:=Ej (Bf l n) (fo (ny l n))
theorem Md (n:Nat) (l:List Int) (s:Int) (hn:64≤n∧n≤65536) (hl:l.length=n) (hb:∀ c∈l,0≤c∧c≤255) (l1:List Int) (us:Nat) (rs:List (List Int)) (q:Option (List Int×Int)) (ops:List (List Int)) (E:Bool)
  (h1:l1=mE l n) (h2:us=(je l (2*(n / 4)) (n-2*(n / 4))).2) (h3:rs=Bf l n) (h4:q=fI l1 0 (n / 4)) (h5:ops=uW rs (fo q)) (h6:E=Ej rs (fo q)) :
  bw Tryz.prog G 29 [.ptr 0 0] (dM l s) (.dJ [.ptr 2 0,aq (ta q),.d (.dH 1 (bT ops)),.int 0])
   (if E=true then jnP n (bW l1 (2*(n / 4)) (List.replicate (n-2*(n / 4)) 0)) (IntKind.i64.wrap (IntKind.i64.wrap (s+1)+1)) (fo q+ops.length) (AW q) 0 else jnP n l1 (IntKind.i64.wrap (s+1)) (fo q+ops.length) (AW q) us):=by
 have hro:=ym hb (fr:=2*(n / 4)) (sz:=n-2*(n / 4)) (by omega)
 have hsz:=gU (G:=G) l s
 have Ku:=sx (G:=G) l s 0 (n / 4) (by omega) (by omega) (by omega)
 have hlo:=xu (G:=G) l s (2*(n / 4)) (n-2*(n / 4)) hb (by omega) (by omega) (by omega) hro.1
 have tP:l1.length=n:=by rw [h1]; unfold mE; rw [dN (by rw [List.length_replicate]; omega),hl]
 have hb1:∀ c∈l1,0≤c∧c≤255:=by
  rw [h1]
  intro c hc
  unfold mE bW at hc
  rcases List.mem_append.1 hc with hc | hc
  ·rcases List.mem_append.1 hc with hc | hc
   ·exact hb c (List.mem_of_mem_take hc)
   ·rw [List.eq_of_mem_replicate hc]; decide
  ·exact hb c (List.mem_of_mem_drop hc)
 have Ru:=uH (G:=G) l1 (IntKind.i64.wrap (s+1)) 0 (n / 4) hb1 (by omega) (by omega)
 have hcl:=uG (G:=G) l1 (IntKind.i64.wrap (s+1)) (2*(n / 4)) (n-2*(n / 4)) us (by omega) (by omega) (by omega)
 have hcb:(bW l1 (2*(n / 4)) (List.replicate (n-2*(n / 4)) 0)).length=n:=by rw [dN (by rw [List.length_replicate]; omega),tP]
 rw [show bW l (2*(n / 4)+(je l (2*(n / 4)) (n-2*(n / 4))).2) (List.replicate (n-2*(n / 4)-(je l (2*(n / 4)) (n-2*(n / 4))).2) 0)=l1 from h1.symm] at hlo
 rw [← h2] at hlo hro
 rw [show (je l (2*(n / 4)) (n-2*(n / 4))).1=rs from h3.symm] at hlo hro
 rw [← h4] at Ru
 have hq:∀ p,q=some p→0≤p.2∧p.2≤eT:=fun p hp=>by
  rw [h4] at hp
  unfold fI at hp
  split at hp
  ·cases hp
  ·exact Oq hb1 hp
 have ha:0≤fo q∧fo q≤eT:=by
  cases Ir:q with
  | none=>exact ⟨Int.le_refl _,by decide⟩
  | some p=>exact hq p Ir
 have hfo:=sG (G:=G) rs (fo q)
 have hel:=MP (G:=G) rs (fo q) hro.2.2 (by omega)
 rw [← h6] at hel
 have hol:=uV rs (fo q)
 rw [← h5] at hol
 have hcR:(bT rs).length=rs.length:=by simp [bT]
 clear h1 h2 h3 h4 h6
 have hpv:oG q=.dJ [aq (ta q),.int (fo q),.bool q.isSome]:=by cases q <;> rfl
 rw [hpv] at Ru
 simp only [dM,dkS,dkL,mD,zS,aq,hl,tP,hcb] at hsz Ku hlo Ru hcl
 have w1:IntKind.i64.wrap (((n:Nat):Int).tdiv 4)=((n / 4:Nat):Int):=by rw [Int.tdiv_eq_ediv_of_nonneg (by omega),aN (by omega) (by omega)]; omega
 have w2:IntKind.i64.wrap (2*((n / 4:Nat):Int))=((2*(n / 4):Nat):Int):=by rw [aN (by omega) (by omega)]; omega
 have w3:IntKind.i64.wrap (((n:Nat):Int)-((2*(n / 4):Nat):Int))=((n-2*(n / 4):Nat):Int):=by rw [aN (by omega) (by omega)]; omega
 unfold eT at ha
 refine cD Tryz.func29 (by decide) Pw rfl ?_
 simp only [dM,hl,aq,ZU,go_sem]
 refine av [0,1] (hsz) rfl ?_ (by decide) ?_ ?_ (by simp) ?_ <;> simp only [ag,ah,go_sem]
 simp only [decide_eq_false (show ¬ ((n:Nat):Int)<64 by omega),go_sem]
 refine av [0,1] (hsz) rfl ?_ (by decide) ?_ ?_ (by simp) ?_ <;> simp only [ag,ah,go_sem]
 simp only [w1,go_sem]
 refine av [0,1] (Ku) rfl ?_ (by decide) ?_ ?_ (by simp) ?_ <;> simp only [ag,ah,go_sem]
 simp only [w2,go_sem]
 refine av [0,1] (hsz) rfl ?_ (by decide) ?_ ?_ (by simp) ?_ <;> simp only [ag,ah,go_sem]
 simp only [w2,w3,go_sem]
 refine av [0,1] (hlo) rfl ?_ (by decide) ?_ ?_ (by simp) ?_ <;> simp only [ag,ah,go_sem]
 refine av [2,0,1] (Ru) rfl ?_ (by decide) ?_ ?_ (by simp) ?_ <;> simp only [ag,ah,go_sem]
 have hag:q.isSome=false→AW q = -1:=by cases q <;> simp [AW]
 have hat:q.isSome=true→AW q=fo q:=by cases q <;> simp [AW,fo]
 simp only [Vq] at hfo
 cases hs:q.isSome
 case' false=>have hA:=hag hs
 case' true=>have hA:=hat hs
 all_goals
  simp only [go_sem]
  refine jw hfo rfl rfl rfl ?_
  simp only [go_sem]
  refine YT rfl (fun yv o=>yv=jf∧∃ fr rest,o=Jr n l1 (IntKind.i64.wrap (s+1)) us (fo q+ops.length) (AW q) rs fr (.sl 10 ops.length 1 0 ops.length) (none::some (.dat 57 1 (bT ops))::rest)) ?_ ?_
  case refine_2=>
   rintro yv af ⟨rfl,fr,rest,rfl⟩
   refine .inl ⟨rfl,?_⟩
   simp only [Jr,go_sem]
   refine ay (hel) rfl rfl rfl rfl ?_; simp only [go_sem]
   cases E with
   | true=>
     simp only [go_sem]
     refine av [3,0,1] (hcl) rfl ?_ (by decide) ?_ ?_ (by simp) ?_ <;> simp only [ag,ah,go_sem]
     refine dh [] [0,1,4,2,3] [10] (vs:=[.ptr 4 0,.d (.dH 1 (aB (ta q))),.sl 10 ops.length 1 0 ops.length,.int 0]) rfl rfl (by decide) (by simp) (by simp [St.obj,aD,dg]) rfl rfl ?_
     simp [St.obj,aD,aU,ah,ag,bG,bT,List.take_of_length_le,dg,LV.int]
   | false=>
     simp only [go_sem]
     refine dh [] [0,1,4,2,3] [10] (vs:=[.ptr 4 0,.d (.dH 1 (aB (ta q))),.sl 10 ops.length 1 0 ops.length,.int 0]) rfl rfl (by decide) (by simp) (by simp [St.obj,aD,dg]) rfl rfl ?_
     simp [St.obj,aD,aU,ah,ag,bG,bT,List.take_of_length_le,dg,LV.int]
  simp only [go_sem]
  refine Pm Tryz.func171 (by decide) Kk rfl rfl rfl ?_
  simp only [PC,hcR,go_sem]
  refine aW [0,2,9,10,11,YS] [.b 6 0 57 1] (fun x:Nat×List (List Int)=>x.1≤rs.length∧ops=x.2++uW (rs.drop x.1) (fo q+x.2.length)∧x.2.length≤x.1) (fun x=>rs.length-x.1) (opS n l1 (IntKind.i64.wrap (s+1)) us (AW q) rs (fo q)) (0,[]) ?_ ⟨Nat.zero_le _,by simp [h5],Nat.le_refl _⟩ ?_
  ·simp only [opS,Jr,hA,Int.natCast_zero,Int.add_zero,bT,go_sem]
  rintro ⟨k,done⟩ ⟨hk,hO,hd⟩
  dsimp only at hk hO hd
  simp only [opS,Jr,go_sem]
  by_cases hlt:k<rs.length
  case neg=>
   obtain rfl:k=rs.length:=by omega
   rw [List.drop_length,show uW [] (fo q+done.length)=[] from rfl,List.append_nil] at hO
   subst hO
   simp only [decide_eq_false (show ¬ ((rs.length:Nat):Int)<((rs.length:Nat):Int) by omega),go_sem]
   exact ⟨_,_,rfl⟩
  have hg:=aJ (f:=fun b:List Int=>[DV.dH 1 (aB b)]) [] hlt
  rw [show rs.map (fun b:List Int=>[DV.dH 1 (aB b)])=bT rs from rfl] at hg
  rw [tB rs k [] hlt,wz] at hO
  have hm:rs.getD k []∈rs:=by rw [List.getD_eq_getElem?_getD,List.getElem?_eq_getElem hlt]; exact List.getElem_mem hlt
  have tQ:=jT (G:=G) (rs.getD k []) (hro.2.2 _ hm).1 (by have:=(hro.2.2 _ hm).2; omega) 0 (by omega) _ rfl
  have Mo:=hro.2.2 _ hm
  have abC:=fun (x:Int) (p':Nat) (h:gq (rs.getD k []) 0=some (x,p'))=>gp (fun c hc=>(Mo.1 c hc).1) h
  generalize rs.getD k []=r at *
  have hkk:IntKind.i64.wrap (((k:Nat):Int)+1)=((k+1:Nat):Int):=aG (show k<9223372036854775807 by omega)
  simp only [decide_eq_true (show ((k:Nat):Int)<((rs.length:Nat):Int) by omega),hg,go_sem]
  simp only [aq] at tQ
  cases hq1:gq r 0 with
  | none=>
    rw [hq1] at tQ hO
    simp only [gd,zj,zk,Option.isSome,List.append_nil] at tQ hO
    subst hO
    refine ay (tQ) rfl rfl rfl rfl ?_; simp only [go_sem]
    exact ⟨_,_,rfl⟩
  | some q1=>
    obtain ⟨x,p1⟩:=q1
    have hx:=abC x p1 hq1
    rw [hq1] at tQ hO
    simp only [gd,zj,zk,Option.isSome] at tQ hO
    refine ay (tQ) rfl rfl rfl rfl ?_; simp only [go_sem]
    have yB:(aB r).length=r.length:=aF r
    by_cases hc1:x<fo q+done.length∧p1<r.length
    ·rw [if_pos hc1] at hO
     simp only [decide_eq_true hc1.1,yB,decide_eq_true (show ((r.length:Nat):Int)>((p1:Nat):Int) by omega),go_sem]
     refine a_ (k+1,done) ?_ ?_ ⟨by dsimp only; omega,hO,by dsimp only; omega⟩ (by dsimp only; omega)
     ·simp only [jf,go_sem]
     ·simp only [opS,Jr,hkk,go_sem]
    rw [if_neg hc1] at hO
    by_cases F6:x≠fo q+done.length∨p1=r.length
    ·rw [if_pos F6,List.append_nil] at hO
     subst hO
     by_cases hx1:x<fo q+ops.length
     ·have hp1:p1=r.length:=by omega
      simp only [decide_eq_true hx1,yB,decide_eq_false (show ¬ ((r.length:Nat):Int)>((p1:Nat):Int) by omega),show (x !=fo q+ops.length)=true from bne_iff_ne.2 (by omega),go_sem]
      exact ⟨_,_,rfl⟩
     ·by_cases hx2:x=fo q+ops.length
      ·simp only [decide_eq_false hx1,yB,show (x !=fo q+ops.length)=false by simp [hx2],show (((r.length:Nat):Int)==((p1:Nat):Int))=true by rw [beq_iff_eq]; omega,go_sem]
       exact ⟨_,_,rfl⟩
      ·simp only [decide_eq_false hx1,show (x !=fo q+ops.length)=true from bne_iff_ne.2 hx2,go_sem]
       exact ⟨_,_,rfl⟩
    rw [if_neg F6] at hO
    have hx2:x=fo q+done.length:=by omega
    have hp2:p1≠r.length:=by omega
    subst hx2
    have hcb:=o9 (G:=G) (r.drop p1) (by rw [List.length_drop]; omega)
    simp only [aq] at hcb
    have c1:p1≤r.length∧r.length≤r.length:=by omega
    have htk:(aB (r.drop p1)).take (r.length-p1)=aB (r.drop p1):=List.take_of_length_le (by rw [aF,List.length_drop]; omega)
    simp only [decide_eq_false (show ¬ fo q+(done.length:Int)<fo q+(done.length:Int) by omega),yB,bne_self_eq_false,show (((r.length:Nat):Int)==((p1:Nat):Int))=false from beq_eq_false_iff_ne.2 (by omega),c1,gi,htk,go_sem]
    refine VN rfl ?_
    simp only [go_sem]
    refine RX rfl rfl ?_
    simp only [go_sem]
    refine bq (hcb) rfl rfl rfl rfl ?_; simp only [go_sem]
    have hdl:(bT done).length=done.length:=by simp [bT]
    have hsn:bT done++[[DV.dH 1 (aB (r.drop p1))]]=bT (done++[r.drop p1]):=by simp [bT]
    have adp:(bT (done++[r.drop p1])).length*24≤70368744177664:=by
     have:(bT (done++[r.drop p1])).length=done.length+1:=by simp [bT]
     omega
    rw [hdl,hsn,if_pos ⟨rfl,adp⟩]
    simp only [go_sem]
    refine au rfl ?_
    have w5:IntKind.i64.wrap (fo q+(done.length:Int)+1)=fo q+((done++[r.drop p1]).length:Int):=by rw [aN (by omega) (by omega),List.length_append,List.length_cons,List.length_nil]; omega
    simp only [w5,go_sem]
    refine a_ (k+1,done++[r.drop p1]) ?_ ?_ ⟨by dsimp only; omega,by rw [hO]; simp [Int.add_assoc],by simp; omega⟩ (by dsimp only; omega)
    ·simp only [jf,go_sem]
    ·simp only [opS,Jr,hkk,w5,List.length_append,go_sem]
end Dv
namespace Dv
open Go Go.Proofs
def wG (c:aC):aa→List (List Int)→Option aa
 | s,[]=>some s
 | s,b::bs=>match Ed b with
   | none=>none
   | some o=>if (bE c s o).2=0 then wG c (bE c s o).1 bs else none
def kH (c:aC) (eW:List Int) (l:List (List Int)):Option aa:=if eW.length>0 then (uT c eW).bind fun s=>wG c s l else wG c (dF c) l
def rdS (c:aC) (l:List (List Int)) (x:Nat×aa):St:=⟨[(3,.ptr 0 0),(6,.ptr 1 0),(8,.ptr 2 0),(29,.d (.dH 1 (bT l))),(30,.int l.length),(31,.int x.1)],[some (.box 23 [.int c.nodes,.int c.bH,.int c.cB,.int c.gF,.int c.bZ,.int c.eC,.int c.deadline,.int c.room,.int c.fP]),some (.box 30 [.d (.val (.slice none 0 0)),.d (.val (.slice none 0 0)),.int 0,.int 0,.int 0,.int 0]),some (j5 x.2)]⟩
theorem MZ (c:aC) (eW:List Int) (l:List (List Int)) (hp:∀ x∈eW,0≤x∧x≤255) (lZ:eW.length≤1000000) (hl:∀ b∈l,(∀ x∈b,0≤x∧x≤255)∧b.length≤1000000) (we:l.length≤1000000):bw Tryz.prog dc 99 [fV c,aq eW,.d (.dH 1 (bT l))] [] (kL (kH c eW l)) []:=by
 have hn:=J8 (G:=dc) c
 have hg:=Vj (G:=dc) c eW hp lZ
 have hcl:(bT l).length=l.length:=by simp [bT]
 simp only [aq] at hg
 refine cD Tryz.func99 (by decide) Pp rfl ?_
 simp only [aq,ZO,go_sem]
 refine ay (hn) rfl rfl rfl rfl ?_; simp only [go_sem]
 simp only [aF,hcl,go_sem]
 obtain ⟨R,hR⟩:∃ R,kH c eW l=R:=⟨_,rfl⟩
 rw [hR]
 unfold kH at hR
 by_cases hp0:0<eW.length
 case' pos=>
  rw [if_pos hp0] at hR
  simp only [decide_eq_true (show ((eW.length:Nat):Int)>0 by omega),go_sem]
  cases hgi:uT c eW with
  | none=>
    rw [hgi] at hg hR
    simp only [kL,Option.getD,Option.isSome,aY,wO] at hg
    refine ay (hg) rfl rfl rfl rfl ?_; simp only [go_sem]
    subst hR
    exact dP [] rfl (by simp) (by simp [aU,ah,ag,kL,aY,wO,bO,cO,LV.int,LV.bool,St.get,aZ])
  | some s0=>?_
  rw [hgi] at hg hR
  simp only [Option.bind] at hR
  simp only [kL,Option.getD,Option.isSome,aY] at hg
  refine ay (hg) rfl rfl rfl rfl ?_; simp only [go_sem]
 case' neg=>
  rw [if_neg hp0] at hR
  simp only [decide_eq_false (show ¬ ((eW.length:Nat):Int)>0 by omega),go_sem]
  obtain ⟨s0,hs0⟩:∃ s0,dF c=s0:=⟨_,rfl⟩
  rw [hs0] at hR ⊢
 all_goals
  refine aW [3,6,8,29,30,31] [] (fun x:Nat×aa=>x.1≤l.length∧wG c x.2 (l.drop x.1)=R) (fun x=>l.length-x.1) (rdS c l) (0,s0) ?_ ⟨Nat.zero_le _,hR⟩ ?_
  ·simp only [rdS,j5,hcl,Int.natCast_zero,go_sem]
  rintro ⟨k,s⟩ ⟨hk,hA⟩
  dsimp only at hk hA
  simp only [rdS,j5,go_sem]
  by_cases hlt:k<l.length
  case neg=>
   obtain rfl:k=l.length:=by omega
   rw [List.drop_length] at hA
   unfold wG at hA
   subst hA
   simp only [decide_eq_false (show ¬ ((l.length:Nat):Int)<((l.length:Nat):Int) by omega),go_sem]
   exact dP [] rfl (by simp) (by simp [aU,ah,ag,kL,aY,wO,bO,cO,LV.int,LV.bool,St.get,aZ])
  have hg:=aJ (f:=fun b:List Int=>[DV.dH 1 (aB b)]) [] hlt
  rw [show l.map (fun b:List Int=>[DV.dH 1 (aB b)])=bT l from rfl] at hg
  rw [tB l k [] hlt] at hA
  have hm:l.getD k []∈l:=by rw [List.getD_eq_getElem?_getD,List.getElem?_eq_getElem hlt]; exact List.getElem_mem hlt
  have ho:=OO (l.getD k []) (hl _ hm).1 (hl _ hm).2
  generalize l.getD k []=b at *
  simp only [aq] at ho
  simp only [decide_eq_true (show ((k:Nat):Int)<((l.length:Nat):Int) by omega),hg,go_sem]
  have F7:=hA
  unfold wG at F7
  cases hq:Ed b with
  | none=>
    rw [hq] at ho F7
    simp only at F7
    subst F7
    simp only [OA,Option.getD,Option.isSome,tO,ia] at ho
    refine ay (ho) rfl rfl rfl rfl ?_; simp only [go_sem]
    exact dP [] rfl (by simp) (by simp [aU,ah,ag,kL,aY,wO,bO,cO,LV.int,LV.bool,St.get,aZ])
  | some o=>
    rw [hq] at ho F7
    simp only at F7
    simp only [OA,Option.getD,Option.isSome,tO] at ho
    refine ay (ho) rfl rfl rfl rfl ?_; simp only [go_sem]
    have hap:=CW c s o
    simp only [aY,tO] at hap
    refine ay (hap) rfl rfl rfl rfl ?_; simp only [go_sem]
    by_cases he:(bE c s o).2=0
    ·rw [if_pos he] at F7
     simp only [he,bne_self_eq_false,go_sem]
     refine a_ (k+1,(bE c s o).1) ?_ ?_ ⟨by dsimp only; omega,F7⟩ (by dsimp only; omega)
     ·simp only [go_sem]
     ·simp only [rdS,j5,aG (show k<9223372036854775807 by omega),go_sem]
    ·rw [if_neg he] at F7
     subst F7
     simp only [show ((bE c s o).2 !=0)=true from bne_iff_ne.2 he,go_sem]
     exact dP [] rfl (by simp) (by simp [aU,ah,ag,kL,aY,wO,bO,cO,LV.int,LV.bool,St.get,aZ])
end Dv
namespace Dv
open Go Go.Proofs
def iq (l:List Int) (n:Nat) (s:Int):jx:=if Sh l n=true then ⟨n,bW (mE l n) (2*(n / 4)) (List.replicate (n-2*(n / 4)) 0),IntKind.i64.wrap (IntKind.i64.wrap (s+1)+1),fo (ny l n)+(tf l n).length,AW (ny l n),0⟩ else ⟨n,mE l n,IntKind.i64.wrap (s+1),fo (ny l n)+(tf l n).length,AW (ny l n),(je l (2*(n / 4)) (n-2*(n / 4))).2⟩
def jP (j:jx):List aH:=jnP j.n j.l j.s j.cnt j.cc j.us
theorem OD (l:List Int) (n:Nat) (s:Int):(iq l n s).n=n:=by unfold iq; split <;> rfl
theorem Mc {G:Nat→Option (List DV)} (n:Nat) (l:List Int) (s:Int) (hn:64≤n∧n≤65536) (hl:l.length=n) (hb:bI l):bw Tryz.prog G 29 [.ptr 0 0] (dM l s) (.dJ [.ptr 2 0,aq (ta (ny l n)),.d (.dH 1 (bT (tf l n))),.int 0]) (jP (iq l n s)):=by
 have h:=Md (G:=G) n l s hn hl hb _ _ _ _ _ _ rfl rfl rfl rfl rfl rfl
 unfold jP iq Sh
 by_cases hE:Ej (Bf l n) (fo (ny l n))=true
 ·rw [if_pos hE]
  rw [if_pos (show Ej (Bf l n) (fo (fI (mE l n) 0 (n / 4)))=true from hE)] at h
  exact h
 ·rw [if_neg hE]
  rw [if_neg (show ¬ Ej (Bf l n) (fo (fI (mE l n) 0 (n / 4)))=true from hE)] at h
  exact h
theorem JS {l:List Int} {n:Nat} (hl:l.length=n) (hb:bI l):(mE l n).length=n∧bI (mE l n):=by
 have hro:=(ym hb (fr:=2*(n / 4)) (sz:=n-2*(n / 4)) (by omega)).1
 refine ⟨?_,lq hb (lH _)⟩
 unfold mE
 rw [dN (by rw [List.length_replicate]; omega),hl]
theorem JT {l:List Int} {n:Nat} (s:Int) (hn:64≤n∧n≤65536) (hl:l.length=n) (hb:bI l):vq (iq l n s):=by
 have hro:=(ym hb (fr:=2*(n / 4)) (sz:=n-2*(n / 4)) (by omega)).1
 obtain ⟨h1,h2⟩:=JS hl hb
 unfold iq
 split
 ·exact ⟨by show (bW _ _ _).length=n; rw [dN (by rw [List.length_replicate]; omega),h1],hn,lq h2 (lH _),Nat.zero_le _⟩
 ·exact ⟨h1,hn,h2,hro⟩
theorem Sf {l:List Int} {n:Nat} (hl:l.length=n) (hb:bI l):bI (ta (ny l n))∧(ta (ny l n)).length≤n:=by
 obtain ⟨h1,h2⟩:=JS hl hb
 unfold ny fI
 split
 ·exact ⟨fun c hc=>(by cases hc),Nat.zero_le _⟩
 ·generalize (lV (mE l n) 0 (n / 4) 2).1.toNat=k
  have hs:∀ c∈eF (mE l n) 0 (n / 4) k,c∈mE l n:=fun c hc=>List.mem_of_mem_drop (List.mem_of_mem_take hc)
  have hg:=qT (eF (mE l n) 0 (n / 4) k) 0
  have yA:(eF (mE l n) 0 (n / 4) k).length≤n:=by unfold eF; rw [List.length_take,List.length_drop]; omega
  unfold iA
  split
  ·cases gq (dL (eF (mE l n) 0 (n / 4) k) 0).1 0 with
   | none=>exact ⟨fun c hc=>(by cases hc),Nat.zero_le _⟩
   | some q=>
     refine ⟨fun c hc=>h2 c (hs c (hg.1 c (List.mem_of_mem_drop hc))),?_⟩
     show (List.drop q.2 _).length≤n
     rw [List.length_drop]; omega
  ·exact ⟨fun c hc=>(by cases hc),Nat.zero_le _⟩
theorem Eg:∀ (rs:List (List Int)) (a:Int),(∀ r∈rs,bI r∧r.length≤4000)→∀ b∈uW rs a,bI b∧b.length≤4000
 | [],_,_,b,hb=>by cases hb
 | r::rs,a,h,b,hb=>by
   rw [wz] at hb
   cases hq:gq r 0 with
   | none=>rw [hq] at hb; cases hb
   | some q=>
     rw [hq] at hb
     dsimp only at hb
     split at hb
     ·exact Eg rs a (fun x hx=>h x (List.mem_cons_of_mem _ hx)) b hb
     split at hb
     ·cases hb
     rcases List.mem_cons.1 hb with rfl | hb
     ·have:=h r (List.mem_cons_self ..)
      exact ⟨fun c hc=>this.1 c (List.mem_of_mem_drop hc),by rw [List.length_drop]; omega⟩
     ·exact Eg rs (a+1) (fun x hx=>h x (List.mem_cons_of_mem _ hx)) b hb
theorem Sg {l:List Int} {n:Nat} (hl:l.length=n) (hb:bI l):(∀ b∈tf l n,bI b∧b.length≤4000)∧(tf l n).length≤n:=by
 have hro:=ym hb (fr:=2*(n / 4)) (sz:=n-2*(n / 4)) (by omega)
 refine ⟨Eg _ _ hro.2.2,?_⟩
 have:=uV (Bf l n) (fo (ny l n))
 have h2:=hro.2.1
 unfold tf
 unfold Bf at *
 omega
theorem tH {c:aC} : ∀ (l:List (List Int)) (s:aa) {t:aa},bR c s→wG c s l=some t→bR c t
 | [],s,t,h,ht=>by cases ht; exact h
 | b::bs,s,t,h,ht=>by
   unfold wG at ht
   cases hq:Ed b with
   | none=>rw [hq] at ht; cases ht
   | some o=>
     rw [hq] at ht
     dsimp only at ht
     split at ht
     ·exact tH bs _ (xK h o) ht
     ·cases ht
theorem IE {c:aC} {b:List Int} {s:aa} (h:uT c b=some s):bR c s:=by
 unfold uT at h
 split at h
 ·cases h
 split at h
 ·split at h
  ·cases h
  split at h
  ·rename_i hr; cases h; exact (ez _ _).1 hr
  ·cases h
 ·cases h
theorem wY {c:aC} (hm:gJ c=true) {eW:List Int} {l:List (List Int)} {t:aa} (h:kH c eW l=some t):bR c t:=by
 unfold kH at h
 split at h
 ·cases hg:uT c eW with
  | none=>rw [hg] at h; cases h
  | some s=>rw [hg] at h; exact tH l s (IE hg) h
 ·exact tH l _ (oL hm) h
def fK (c:aC) (j:jx) (room term:Int) (sh:List kO) (wr now:Int) (st:aa):aO:=⟨c,st,j,room,term,sh,wr,List.replicate st.nodes.length (HZ now),false,0⟩
def zX (sh:List kO) (k:Nat) (j:bP):List kO:=if j.phase=4 then sh.set (k+1) ic else if j.epoch≠0 then sh.set (k+1) (gV (sh.getD (k+1) ic) j.epoch) else sh
def jQ (jobs:List bP) (sh:List kO):Nat→List kO
 | 0=>sh
 | k+1=>zX (jQ jobs sh k) k (jobs.getD k az)
theorem Me (sh:List kO) (k:Nat) (j:bP):(zX sh k j).length=sh.length:=by
 unfold zX
 split
 ·simp
 ·split <;> simp
theorem oO (jobs:List bP) (sh:List kO):∀ k,(jQ jobs sh k).length=sh.length
 | 0=>rfl
 | k+1=>by rw [jQ,Me,oO jobs sh k]
def aO.KM (y:aO):aO:={ y with term:=if y.s.term>y.term then y.s.term else y.term,sh:=jQ y.s.jobs y.sh y.s.jobs.length }
def qM:LV:=.d (.val (.pointer none))
def KK (c:aC) (l:List Int) (n:Nat) (s room term:Int) (sh:List kO) (wr now:Int):LV×List aH:=match kH c (ta (ny l n)) (tf l n) with
 | none=>(.dJ [qM,.int 2],dM (iq l n s).l (iq l n s).s++gu room term sh wr)
 | some st=>if (fK c (iq l n s) room term sh wr now st).ek bN=0 then (.dJ [.ptr 3 0,.int 0],pQ ((fK c (iq l n s) room term sh wr now st).bQ bN now).KM) else (.dJ [qM,.int ((fK c (iq l n s) room term sh wr now st).ek bN)],dM ((fK c (iq l n s) room term sh wr now st).bQ bN now).j.l ((fK c (iq l n s) room term sh wr now st).bQ bN now).j.s++gu room term sh wr)
theorem GB {c:aC} {j:jx} {room term:Int} {sh:List kO} {wr now:Int} {st:aa} (hr:bR c st) (hj:vq j) (hs:sh.length=25):CX (fK c j room term sh wr now st):=⟨hr,hj,hs,List.length_replicate⟩
def Rz (c:aC):aH:=.box 23 [.int c.nodes,.int c.bH,.int c.cB,.int c.gF,.int c.bZ,.int c.eC,.int c.deadline,.int c.room,.int c.fP]
def btS (c:aC) (j:jx) (room term:Int) (sh:List kO) (wr now:Int) (st:aa) (k:Nat):St:=⟨[(1,.ptr 0 0),(2,.ptr 2 0),(3,.int now),(16,.ptr 8 0),(62,.int st.nodes.length),(63,.int k)],
 [some (.box 150 [.sl 1 j.n 1 0 j.n,.d (.val (.slice none 0 0)),.int j.s]),some (.dat 5 1 (aB j.l)),some (.box 190 (.int room::.int term::(sh.flatMap rD++[.int wr]))),some (Rz c),
  some (.box 160 [.ptr 0 0,.ptr 5 0,.ptr 6 0,.int j.cnt,.int j.cc]),some (.box 243 [.ptr 0 0,.int 0,.int ((j.n / 4:Nat):Int)]),some (.box 245 [.ptr 0 0,.int ((2*(j.n / 4):Nat):Int),.int ((j.n-2*(j.n / 4):Nat):Int),.int j.us]),
  some (j5 st),
  some (.box 195 [.int c.nodes,.int c.bH,.int c.cB,.int c.gF,.int c.bZ,.int c.eC,.int c.deadline,.int c.room,.int c.fP,.ptr 0 0,.ptr 4 0,.ptr 2 0,bO st.nodes,cO st.jobs,.int st.goal,.int st.prior,.int st.mode,.int st.term,.sl 9 k 26 0 k,.bool false,.int 0]),
  some (aP (List.replicate k (HZ now)))]⟩
def btT (c:aC) (st:aa) (y:aO) (k:Nat):St:=⟨[(2,.ptr 2 0),(16,.ptr 8 0),(95,cO y.s.jobs),(96,.int y.s.jobs.length),(97,.int k)],
 [some (.box 150 [.sl 1 y.j.n 1 0 y.j.n,.d (.val (.slice none 0 0)),.int y.j.s]),some (.dat 5 1 (aB y.j.l)),some (.box 190 (.int y.room::.int (if y.s.term>y.term then y.s.term else y.term)::((jQ y.s.jobs y.sh k).flatMap rD++[.int y.wr]))),some (Rz c),
  some (.box 160 [.ptr 0 0,.ptr 5 0,.ptr 6 0,.int y.j.cnt,.int y.j.cc]),some (.box 243 [.ptr 0 0,.int 0,.int ((y.j.n / 4:Nat):Int)]),some (.box 245 [.ptr 0 0,.int ((2*(y.j.n / 4):Nat):Int),.int ((y.j.n-2*(y.j.n / 4):Nat):Int),.int y.j.us]),
  some (j5 st),
  some (.box 195 [.int y.c.nodes,.int y.c.bH,.int y.c.cB,.int y.c.gF,.int y.c.bZ,.int y.c.eC,.int y.c.deadline,.int y.c.room,.int y.c.fP,.ptr 0 0,.ptr 4 0,.ptr 2 0,bO y.s.nodes,cO y.s.jobs,.int y.s.goal,.int y.s.prior,.int y.s.mode,.int y.s.term,.sl 9 y.lines.length 26 0 y.lines.length,.bool y.down,.int y.er]),
  some (aP y.lines)]⟩
theorem Ra (c:aC) (hm:gJ c=true) (n:Nat) (hn:64≤n∧n≤65536) (l:List Int) (hl:l.length=n) (hb:bI l) (s room term:Int) (sh:List kO) (hs:sh.length=25) (wr now:Int) (DZ:0≤now∧now≤1000000):bw Tryz.prog dc 37 [fV c,.ptr 0 0,.ptr 2 0,.int now] (dM l s++gu room term sh wr) (KK c l n s room term sh wr now).1 (KK c l n s room term sh wr now).2:=by
 have hmay:=yx (G:=dc) c
 rw [hm] at hmay
 have hsz:=gU (G:=dc) l s
 have Mm:=yT (G:=dc) now
 rw [decide_eq_true DZ] at Mm
 have hop:=Mc (G:=dc) n l s hn hl hb
 have hq:=Sf hl hb
 have ho:=Sg hl hb
 have hrd:=MZ c (ta (ny l n)) (tf l n) hq.1 (by omega) (fun b h=>⟨(ho.1 b h).1,by have:=(ho.1 b h).2; omega⟩) (by omega)
 have hrr:=fun t (h:kH c (ta (ny l n)) (tf l n)=some t)=>wY hm h
 have hj:=JT s hn hl hb
 have hjn:=OD l n s
 unfold KK
 generalize kH c (ta (ny l n)) (tf l n)=R at *
 generalize iq l n s=j at *
 generalize ta (ny l n)=eW at *
 generalize tf l n=ops at *
 clear hq ho
 subst hjn
 have hjl:=hj.len
 have hR:R=none∨∃ st,R=some st:=by cases R <;> simp
 simp only [dM,hl] at hsz hop
 simp only [jP,jnP,aq] at hop
 simp only [aq] at hrd
 refine cD Tryz.func37 (by decide) Pv rfl ?_
 simp only [dM,gu,hl,hjl,ZT,go_sem]
 refine ay (hmay) rfl rfl rfl rfl ?_; simp only [go_sem]
 refine av [0,1] (hsz) rfl ?_ (by decide) ?_ ?_ (by simp) ?_ <;> simp only [ag,ah,go_sem]
 simp only [decide_eq_false (show ¬ ((j.n:Nat):Int)<64 by omega),go_sem]
 refine ay (Mm) rfl rfl rfl rfl ?_; simp only [go_sem]
 refine av [0,1] (hop) rfl ?_ (by decide) ?_ ?_ (by simp) ?_ <;> simp only [ag,ah,go_sem]
 rcases hR with rfl | ⟨st,rfl⟩
 ·simp only [kL,Option.getD,Option.isSome,aY,wO] at hrd
  refine ay (hrd) rfl rfl rfl rfl ?_; simp only [go_sem]
  exact dh [] [0,1,2] [] (vs:=[qM,.int 2]) rfl rfl (by decide) (by simp) (by simp) (by simp only [List.map_cons,List.map_nil,fB,ni,aV,bD]; rfl) (by simp only [List.all_cons,List.all_nil,dZ,eD,eH,aL,aR]; rfl) (by simp [aU,ah,ag,qM,LV.int])
 have hr:=hrr st rfl
 have hx:=GB (room:=room) (term:=term) (wr:=wr) (now:=now) hr hj hs
 have Ag:=uC _ hx bN now
 have hno:=hx.note bN now
 have hjn:=DI (fK c j room term sh wr now st) bN now
 have hnl:st.nodes.length≤6:=hr.len.2
 have hnX:(fK c j room term sh wr now st).ek bN≠0→((fK c j room term sh wr now st).bQ bN now).sh=sh∧((fK c j room term sh wr now st).bQ bN now).room=room∧((fK c j room term sh wr now st).bQ bN now).term=term∧((fK c j room term sh wr now st).bQ bN now).wr=wr:=fun h=>by
  unfold aO.bQ; rw [if_neg h]; exact ⟨rfl,rfl,rfl,rfl⟩
 dsimp only
 generalize hy:(fK c j room term sh wr now st).bQ bN now=y at *
 generalize (fK c j room term sh wr now st).ek bN=e at *
 have hfe:=qc (G:=dc) y.room y.term y.sh y.wr y.s.term
 simp only [kL,Option.getD,Option.isSome,aY] at hrd
 refine ay (hrd) rfl rfl rfl rfl ?_; simp only [go_sem]
 simp only [fK] at hjn
 simp only [bX,d_,aP,fK,hjn,List.cons_append,List.nil_append,bN,List.length_replicate] at Ag
 simp only [gu,List.cons_append,List.nil_append] at hfe
 refine aW [1,2,3,16,62,63] [.b 8 18 197 26] (fun k:Nat=>k≤st.nodes.length) (fun k=>st.nodes.length-k) (btS c j room term sh wr now st) 0 ?_ (Nat.zero_le _) (fun k hk=>?_)
 ·simp only [btS,Rz,j5,aP,List.replicate_zero,Int.natCast_zero,go_sem]
 simp only [btS,Rz,j5,aP,go_sem]
 by_cases hlt:k<st.nodes.length
 ·have gh:(List.replicate (k+1) (HZ now)).map mL=(List.replicate k (HZ now)).map mL++[mL (HZ now)]:=by rw [List.replicate_succ',List.map_append]; rfl
  simp only [decide_eq_true (show ((k:Nat):Int)<((st.nodes.length:Nat):Int) by omega),go_sem]
  have sE:mL (HZ now)=[i64 0,bl false,i64 0,i64 0,i64 0,i64 0,i64 0,i64 0,i64 0,i64 0,i64 0,i64 0,i64 0,i64 0,i64 now,i64 0,i64 0,i64 0,i64 0,i64 0,i64 0,i64 0,i64 0,i64 0,i64 0,i64 0]:=rfl
  have c1:(k+1)*208≤70368744177664:=by omega
  simp only [List.length_append,List.length_replicate,c1,go_sem]
  refine a_ (k+1) ?_ ?_ (show k+1≤st.nodes.length by omega) (show st.nodes.length-(k+1)<st.nodes.length-k by omega)
  ·simp only [aL,aR,go_sem]
  ·simp only [aG (show k<9223372036854775807 by omega),gh,sE,List.length_replicate,List.length_append,btS,Rz,j5,aP,go_sem]
 obtain rfl:k=st.nodes.length:=by omega
 simp only [decide_eq_false (show ¬ ((st.nodes.length:Nat):Int)<((st.nodes.length:Nat):Int) by omega),go_sem]
 refine av [8,4,0,5,6,1,2,9] (Ag) rfl ?_ (by decide) ?_ ?_ (by simp) ?_ <;> simp only [ag,ah,go_sem,aV,bD,aL,aR,List.length_replicate]
 by_cases he:e=0
 case neg=>
  obtain ⟨g1,g2,g3,g4⟩:=hnX he
  have Rs:=hno.jn.len
  simp only [show (e !=0)=true from bne_iff_ne.2 he,if_neg he,g1,g2,g3,g4,dM,gu,Rs,hjn,go_sem]
  exact dh [] [0,1,2] [] (vs:=[qM,.int e]) rfl rfl (by decide) (by simp) (by simp) (by simp only [List.map_cons,List.map_nil,fB,ni,aV,bD]; rfl) (by simp only [List.all_cons,List.all_nil,dZ,eD,eH,aL,aR]; rfl) (by simp [aU,ah,ag,qM,LV.int])
 subst he
 simp only [bne_self_eq_false,go_sem]
 refine av [2] (hfe) rfl ?_ (by decide) ?_ ?_ (by simp) ?_ <;> simp only [ag,ah,go_sem,aV,bD,aL,aR]
 have hyr:=hno.right
 have hjb:=hyr.jobs
 have hys:=hno.sh
 refine aW [2,16,95,96,97] [] (fun k:Nat=>k≤y.s.jobs.length) (fun k=>y.s.jobs.length-k) (btT c st y) 0 ?_ (Nat.zero_le _) (fun k hk=>?_)
 ·simp only [btT,Rz,j5,aP,jQ,hjn,Int.natCast_zero,go_sem]
 simp only [btT,Rz,j5,aP,go_sem]
 by_cases hlt:k<y.s.jobs.length
 case neg=>
  obtain rfl:k=y.s.jobs.length:=by omega
  simp only [decide_eq_false (show ¬ ((y.s.jobs.length:Nat):Int)<((y.s.jobs.length:Nat):Int) by omega),go_sem]
  have hid:=CR 8 (Nat.le_refl 8) y.KM
  simp only [aO.KM,pQ,xF,aP,bO,cO,LV.int,LV.bool] at hid ⊢
  refine dh [] [0,1,2,8,9,4,5,6] [] (vs:=[.ptr 8 0,.int 0]) rfl rfl (by decide) (by simp) (by simp) ?_ hid ?_
  ·simp only [List.map_cons,List.map_nil,fB,ni,aV,bD]
   rfl
  simp [aU,ah,ag,LV.int,LV.bool]
 have hg:=aJ (f:=dD) az hlt
 have hjs:jQ y.s.jobs y.sh (k+1)=zX (jQ y.s.jobs y.sh k) k (y.s.jobs.getD k az):=rfl
 have hep:=(hyr.num k hlt).epoch
 have yA:(jQ y.s.jobs y.sh k).length=25:=by rw [oO,hys]
 generalize hq:jQ y.s.jobs y.sh k=sk at *
 have adn:0≤(y.s.jobs.getD k az).epoch:=hep.1
 clear hep
 generalize y.s.jobs.getD k az=jb at *
 obtain ⟨q0,q1,q2,q3,q4,q5,ph,q7,q8,q9,q10,ep⟩:=jb
 dsimp only at adn
 have w1:=aG (show k<9223372036854775807 by omega)
 have hend:=tX (G:=dc) y.room (if y.s.term>y.term then y.s.term else y.term) sk y.wr (k+1) (by omega) yA
 simp only [dD] at hg
 simp only [gu,List.cons_append,List.nil_append] at hend
 unfold zX at hjs
 simp only [decide_eq_true (show ((k:Nat):Int)<((y.s.jobs.length:Nat):Int) by omega),hg,go_sem]
 by_cases h4:ph=4
 ·subst h4
  rw [if_pos rfl] at hjs
  simp only [w1,go_sem]
  refine av [2] (hend) rfl ?_ (by decide) ?_ ?_ (by simp) ?_ <;> simp only [ag,ah,go_sem,aV,bD,aL,aR]
  refine a_ (k+1) ?_ ?_ (show k+1≤y.s.jobs.length by omega) (show y.s.jobs.length-(k+1)<y.s.jobs.length-k by omega)
  ·simp only [aL,aR,go_sem]
  ·simp only [btT,Rz,j5,aP,hjs,w1,go_sem]
 rw [if_neg h4] at hjs
 by_cases h0:ep=0
 ·subst h0
  rw [if_neg (by simp)] at hjs
  simp only [show (ph==4)=false from beq_eq_false_iff_ne.2 h4,go_sem]
  refine a_ (k+1) ?_ ?_ (show k+1≤y.s.jobs.length by omega) (show y.s.jobs.length-(k+1)<y.s.jobs.length-k by omega)
  ·simp only [aL,aR,go_sem]
  ·simp only [btT,Rz,j5,aP,hjs,w1,go_sem]
 ·rw [if_pos h0] at hjs
  have hcm:=pH (G:=dc) y.room (if y.s.term>y.term then y.s.term else y.term) sk y.wr (k+1) (by omega) yA ep (by omega) _ rfl
  simp only [gu,List.cons_append,List.nil_append] at hcm
  simp only [show (ph==4)=false from beq_eq_false_iff_ne.2 h4,show (ep !=0)=true from bne_iff_ne.2 h0,w1,go_sem]
  refine av [2] (hcm) rfl ?_ (by decide) ?_ ?_ (by simp) ?_ <;> simp only [ag,ah,go_sem,aV,bD,aL,aR]
  refine a_ (k+1) ?_ ?_ (show k+1≤y.s.jobs.length by omega) (show y.s.jobs.length-(k+1)<y.s.jobs.length-k by omega)
  ·simp only [aL,aR,go_sem]
  ·simp only [btT,Rz,j5,aP,hjs,w1,go_sem]
end Dv
