/- part -/
import Derived.Test.YtkalnfkokkjliaaGreatDoorNA
import Derived.Test.YtkalnfkokkjliaaGreatDoorKA
import Derived.Test.YtkalnfkokkjliaaGreatDoorCA
import Derived.Test.YtkalnfkokkjliaaGreatDoorIA
import Derived.Test.YtkalnfkokkjliaaGreatDoorOA
set_option linter.all false
set_option maxHeartbeats 4000000
set_option maxRecDepth 100000
namespace Dv
open Go Go.Proofs
variable {G:Nat→Option (List DV)}
def X8:=qx Tryz.f174
theorem Uo:aj Tryz.prog Tryz.f174=some X8:=by kernel_rfl
def XH:=qx Tryz.f228
theorem TS:aj Tryz.prog Tryz.f228=some XH:=by kernel_rfl
def X9:=qx Tryz.f173
theorem Up:aj Tryz.prog Tryz.f173=some X9:=by kernel_rfl
theorem QX {b:List Int} (hb:∀ c∈b,0≤c∧c≤255) (a:Nat):∀ c∈(dw b a).1,0≤c∧c≤255:=fun c hc=>hb c ((rj b a).1 c hc)
theorem Le {b:List Int} (hb:∀ c∈b,0≤c∧c≤255):∀ (f:Nat) (l:List (List Int)) (a:Nat),a≤b.length→(∀ r∈l,(∀ c∈r,0≤c∧c≤255)∧r.length≤4000)→(vI b f l a).2≤b.length∧(vI b f l a).1.length+a≤l.length+(vI b f l a).2∧∀ r∈(vI b f l a).1,(∀ c∈r,0≤c∧c≤255)∧r.length≤4000
 | 0,l,a,ha,hl=>⟨ha,Nat.le_refl _,hl⟩
 | f+1,l,a,ha,hl=>by
   unfold vI
   by_cases h1:(dw b a).2.2=1
   ·rw [if_pos h1]
    have he:=AM (fun c hc=>(hb c hc).1) h1
    have:=Le hb f (l++[(dw b a).1]) (dw b a).2.1 he.2.1 (fun r hr=>by
     rcases List.mem_append.1 hr with hr | hr
     ·exact hl r hr
     ·rw [List.mem_singleton.1 hr]
      exact ⟨QX hb a,he.2.2⟩)
    refine ⟨this.1,?_,this.2.2⟩
    have h2:=this.2.1
    rw [List.length_append,List.length_cons,List.length_nil] at h2
    omega
   ·rw [if_neg h1]
    exact ⟨ha,Nat.le_refl _,hl⟩
theorem yM {l:List Int} (hb:∀ c∈l,0≤c∧c≤255) {fr sz:Nat} (h:fr+sz≤l.length):(iI l fr sz).2≤sz∧(iI l fr sz).1.length≤sz∧∀ r∈(iI l fr sz).1,(∀ c∈r,0≤c∧c≤255)∧r.length≤4000:=by
 have:=Le (Fi (fr:=fr) (sz:=sz) hb) (sz+1) [] 0 (Nat.zero_le _) (fun r hr=>by cases hr)
 rw [uv h] at this
 unfold iI
 refine ⟨this.1,?_,this.2.2⟩
 have h2:=this.2.1
 have h1:=this.1
 simp only [List.length_nil] at h2
 omega
def vp:List (List Int)→Int→List (List Int)
 | [],_=>[]
 | r::rs,a=>match f_ r 0 with
   | none=>[]
   | some q=>if q.1<a∧q.2<r.length then vp rs a else if q.1≠a∨q.2=r.length then [] else r.drop q.2::vp rs (a+1)
def Jm (r:List Int) (a:Int):Bool:=match f_ r 0 with
 | none=>true
 | some q=>decide (q.1≥a)
def AB (a:Int):List (List Int)→Nat→Int
 | [],_=>-1
 | r::rs,k=>if Jm r a=true then k else AB a rs (k+1)
def EB (rs:List (List Int)) (a:Int):Bool:=decide ((rs.length:Int)>0)&&!(decide (AB a rs 0≥0))
def sC (a:Int):List aG:=[.box 3 [.int a]]
def BO (p:Nat):LV:=.fn (.func 174) [] [.ptr p 0]
theorem Rg (r:List Int) (a:Int) (hb:∀ c∈r,0≤c∧c≤255) (hl:r.length≤4000):bu Tryz.prog G 174 [aq r,.ptr 0 0] (sC a) (.bool (Jm r a)) (sC a):=by
 have hg:=jY (G:=G) r hb (by omega) 0 (by omega) _ rfl
 refine aT Tryz.func174 (by decide) Uo rfl rfl rfl rfl ?_
 simp only [X8,go_sem]
 simp only [sC,aq,go_sem]
 simp only [aq] at hg
 unfold Jm
 cases hq:f_ r 0 with
 | none=>
   rw [hq] at hg
   simp only [gj,zM,zN,Option.isSome] at hg
   refine av (hg) rfl rfl rfl rfl ?_; simp only [go_sem]
 | some q=>
   rw [hq] at hg
   obtain ⟨x,p⟩:=q
   simp only [gj,zM,zN,Option.isSome] at hg
   refine av (hg) rfl rfl rfl rfl ?_; simp only [go_sem]
def ixS (rs:List (List Int)) (a:Int) (k:Nat):St:=⟨[(0,.d (.dO 1 (bW rs))),(1,BO 0),(7,.int rs.length),(8,.int k)],(sC a).map some⟩
theorem Vb (rs:List (List Int)) (a:Int) (hr:∀ r∈rs,(∀ c∈r,0≤c∧c≤255)∧r.length≤4000) (hl:rs.length≤100000):bu Tryz.prog G 228 [.d (.dO 1 (bW rs)),BO 0] (sC a) (.int (AB a rs 0)) (sC a):=by
 have hcl:(bW rs).length=rs.length:=by simp [bW]
 refine aT Tryz.func228 (by decide) TS rfl rfl rfl rfl ?_
 simp only [XH,go_sem]
 simp only [sC,BO,hcl,go_sem]
 refine aW [0,1,7,8] [] (fun k:Nat=>k≤rs.length∧AB a rs 0=AB a (rs.drop k) k) (fun k=>rs.length-k) (ixS rs a) 0 ?_ ⟨Nat.zero_le _,rfl⟩ ?_
 ·simp only [ixS,sC,BO,Int.natCast_zero,go_sem]
 rintro k ⟨hk,hI⟩
 simp only [ixS,sC,BO,go_sem]
 by_cases hlt:k<rs.length
 case neg=>
  obtain rfl:k=rs.length:=by omega
  rw [List.drop_length] at hI
  simp only [decide_eq_false (show ¬ ((rs.length:Nat):Int)<((rs.length:Nat):Int) by omega),hI,AB,go_sem]
 have hg:=aM (f:=fun b:List Int=>[DV.dO 1 (aB b)]) [] hlt
 rw [show rs.map (fun b:List Int=>[DV.dO 1 (aB b)])=bW rs from rfl] at hg
 rw [tQ rs k [] hlt] at hI
 have hm:rs.getD k []∈rs:=by rw [List.getD_eq_getElem?_getD,List.getElem?_eq_getElem hlt]; exact List.getElem_mem hlt
 have he:=Rg (G:=G) (rs.getD k []) a (hr _ hm).1 (hr _ hm).2
 generalize rs.getD k []=r at *
 simp only [sC,aq] at he
 simp only [decide_eq_true (show ((k:Nat):Int)<((rs.length:Nat):Int) by omega),hg,go_sem]
 refine fT [0] (he) rfl ?_ (by decide) ?_ ?_ ?_ <;> simp only [ag,ah,go_sem]
 rw [show AB a (r::rs.drop (k+1)) k=if Jm r a=true then (k:Int) else AB a (rs.drop (k+1)) (k+1) from rfl] at hI
 cases h1:Jm r a with
 | true=>
   rw [h1,if_pos rfl] at hI
   simp only [hI,go_sem]
 | false=>
   rw [h1,if_neg (by decide)] at hI
   simp only [go_sem]
   refine bh (k+1) ?_ ?_ ⟨by omega,hI⟩ (by omega)
   ·simp only [go_sem]
   ·simp only [ixS,sC,BO,aH (show k<9223372036854775807 by omega),go_sem]
theorem EG (rs:List (List Int)) (a:Int) (hr:∀ r∈rs,(∀ c∈r,0≤c∧c≤255)∧r.length≤4000) (hl:rs.length≤100000):bu Tryz.prog G 173 [.d (.dO 1 (bW rs)),BO 0] (sC a) (.bool (decide (AB a rs 0≥0))) (sC a):=by
 have hi:=Vb (G:=G) rs a hr hl
 simp only [sC,BO] at hi
 refine aT Tryz.func173 (by decide) Up rfl rfl rfl rfl ?_
 simp only [X9,go_sem]
 simp only [sC,BO,go_sem]
 refine fT [0] (hi) rfl ?_ (by decide) ?_ ?_ ?_ <;> simp only [ag,ah,go_sem]
theorem M6 (rs:List (List Int)) (a:Int) (hr:∀ r∈rs,(∀ c∈r,0≤c∧c≤255)∧r.length≤4000) (hl:rs.length≤100000):bu Tryz.prog G 85 [.d (.dO 1 (bW rs)),.int a] [] (.bool (EB rs a)) []:=by
 have hcl:(bW rs).length=rs.length:=by simp [bW]
 have hc:=EG (G:=G) rs a hr hl
 simp only [sC,BO] at hc
 refine bz Tryz.func85 (by decide) PM rfl rfl ?_
 simp only [aaa,go_sem]
 simp only [hcl,EB,go_sem]
 by_cases h0:((rs.length:Nat):Int)>0
 ·simp only [decide_eq_true h0,go_sem]
  refine fT [0] (hc) rfl ?_ (by decide) ?_ ?_ ?_ <;> simp only [ag,ah,go_sem]
 ·simp only [decide_eq_false h0,go_sem]
def eL:Option (List Int×Int)→Int
 | none=>0
 | some p=>p.2
def JK (n:Nat) (l:List Int) (s:Int) (us:Nat) (cnt cv:Int) (rs:List (List Int)) (fr:Int) (ops:LV) (rest:List (Option aG)):List (Option aG):=some (.box 150 [.sl 1 n 1 0 n,.d (.val (.slice none 0 0)),.int s])::some (.dat 5 1 (aB l))::some (.box 243 [.ptr 0 0,.int 0,.int ((n / 4:Nat):Int)])::some (.box 245 [.ptr 0 0,.int ((2*(n / 4):Nat):Int),.int ((n-2*(n / 4):Nat):Int),.int us])::some (.box 160 [.ptr 0 0,.ptr 2 0,.ptr 3 0,.int cnt,.int cv])::some (.box 56 [.ptr 4 0])::some (.box 58 [ops])::some (.box 58 [.d (.dO 1 (bW rs))])::some (.box 3 [.int fr])::rest
def opS (n:Nat) (l:List Int) (s:Int) (us:Nat) (cv:Int) (rs:List (List Int)) (a:Int) (q:Nat×List (List Int)):St:=⟨[(0,.yl 9),(2,.ptr 8 0),(9,.d (.dO 1 (bW rs))),(10,.int rs.length),(11,.int q.1),(YS,jr)],JK n l s us (a+q.2.length) cv rs (a+q.2.length) (.sl 10 q.2.length 1 0 q.2.length) [none,some (.dat 57 1 (bW q.2))]⟩
theorem vo:∀ (rs:List (List Int)) (a:Int),(vp rs a).length≤rs.length
 | [],_=>Nat.le_refl _
 | r::rs,a=>by
   unfold vp
   have h1:=vo rs a
   have h2:=vo rs (a+1)
   cases f_ r 0 with
   | none=>simp
   | some q=>
     dsimp only
     split
     ·rw [List.length_cons]; omega
     ·split
      ·simp
      ·rw [List.length_cons,List.length_cons]; omega
theorem wU (r:List Int) (rs:List (List Int)) (a:Int):vp (r::rs) a=match f_ r 0 with
  | none=>[]
  | some q=>if q.1<a∧q.2<r.length then vp rs a else if q.1≠a∨q.2=r.length then [] else r.drop q.2::vp rs (a+1):=rfl
def ko (l:List Int) (n:Nat):List Int:=bF l (2*(n / 4)+(iI l (2*(n / 4)) (n-2*(n / 4))).2) (List.replicate (n-2*(n / 4)-(iI l (2*(n / 4)) (n-2*(n / 4))).2) 0)
def yq (l:List Int) (n:Nat):List (List Int):=(iI l (2*(n / 4)) (n-2*(n / 4))).1
def lZ (l:List Int) (n:Nat):Option (List Int×Int):=fJ (ko l n) 0 (n / 4)
def qP (l:List Int) (n:Nat):List (List Int):=vp (yq l n) (eL (lZ l n))
def L6 (l:List Int) (n:Nat):Bool:=EB (yq l n) (eL (lZ l n))
theorem Mw (n:Nat) (l:List Int) (s:Int) (hn:64≤n∧n≤65536) (hl:l.length=n) (hb:∀ c∈l,0≤c∧c≤255) (l1:List Int) (us:Nat) (rs:List (List Int)) (q:Option (List Int×Int)) (ops:List (List Int)) (E:Bool)
  (h1:l1=ko l n) (h2:us=(iI l (2*(n / 4)) (n-2*(n / 4))).2) (h3:rs=yq l n) (h4:q=fJ l1 0 (n / 4)) (h5:ops=vp rs (eL q)) (h6:E=EB rs (eL q)) :
  bu Tryz.prog G 29 [.ptr 0 0] (cU l s) (.dM [.ptr 2 0,aq (tB q),.d (.dO 1 (bW ops)),.int 0])
   (if E=true then jnP n (bF l1 (2*(n / 4)) (List.replicate (n-2*(n / 4)) 0)) (IntKind.i64.wrap (IntKind.i64.wrap (s+1)+1)) (eL q+ops.length) (Bt q) 0 else jnP n l1 (IntKind.i64.wrap (s+1)) (eL q+ops.length) (Bt q) us):=by
 have hro:=yM hb (fr:=2*(n / 4)) (sz:=n-2*(n / 4)) (by omega)
 have hsz:=ia (G:=G) l s
 have KK:=sH (G:=G) l s 0 (n / 4) (by omega) (by omega) (by omega)
 have hlo:=xP (G:=G) l s (2*(n / 4)) (n-2*(n / 4)) hb (by omega) (by omega) (by omega) hro.1
 have sQ:l1.length=n:=by rw [h1]; unfold ko; rw [dB (by rw [List.length_replicate]; omega),hl]
 have hb1:∀ c∈l1,0≤c∧c≤255:=by
  rw [h1]
  intro c hc
  unfold ko bF at hc
  rcases List.mem_append.1 hc with hc | hc
  ·rcases List.mem_append.1 hc with hc | hc
   ·exact hb c (List.mem_of_mem_take hc)
   ·rw [List.eq_of_mem_replicate hc]; decide
  ·exact hb c (List.mem_of_mem_drop hc)
 have RL:=uV (G:=G) l1 (IntKind.i64.wrap (s+1)) 0 (n / 4) hb1 (by omega) (by omega)
 have hcl:=uU (G:=G) l1 (IntKind.i64.wrap (s+1)) (2*(n / 4)) (n-2*(n / 4)) us (by omega) (by omega) (by omega)
 have hcb:(bF l1 (2*(n / 4)) (List.replicate (n-2*(n / 4)) 0)).length=n:=by rw [dB (by rw [List.length_replicate]; omega),sQ]
 rw [show bF l (2*(n / 4)+(iI l (2*(n / 4)) (n-2*(n / 4))).2) (List.replicate (n-2*(n / 4)-(iI l (2*(n / 4)) (n-2*(n / 4))).2) 0)=l1 from h1.symm] at hlo
 rw [← h2] at hlo hro
 rw [show (iI l (2*(n / 4)) (n-2*(n / 4))).1=rs from h3.symm] at hlo hro
 rw [← h4] at RL
 have hq:∀ p,q=some p→0≤p.2∧p.2≤eV:=fun p hp=>by
  rw [h4] at hp
  unfold fJ at hp
  split at hp
  ·cases hp
  ·exact OJ hb1 hp
 have ha:0≤eL q∧eL q≤eV:=by
  cases IP:q with
  | none=>exact ⟨Int.le_refl _,by decide⟩
  | some p=>exact hq p IP
 have hfo:=sU (G:=G) rs (eL q)
 have hel:=M6 (G:=G) rs (eL q) hro.2.2 (by omega)
 rw [← h6] at hel
 have hol:=vo rs (eL q)
 rw [← h5] at hol
 have hcR:(bW rs).length=rs.length:=by simp [bW]
 clear h1 h2 h3 h4 h6
 have hpv:oP q=.dM [aq (tB q),.int (eL q),.bool q.isSome]:=by cases q <;> rfl
 rw [hpv] at RL
 simp only [cU,dkS,dkL,mM,Ap,aq,hl,sQ,hcb] at hsz KK hlo RL hcl
 have w1:IntKind.i64.wrap (((n:Nat):Int).tdiv 4)=((n / 4:Nat):Int):=by rw [Int.tdiv_eq_ediv_of_nonneg (by omega),aO (by omega) (by omega)]; omega
 have w2:IntKind.i64.wrap (2*((n / 4:Nat):Int))=((2*(n / 4):Nat):Int):=by rw [aO (by omega) (by omega)]; omega
 have w3:IntKind.i64.wrap (((n:Nat):Int)-((2*(n / 4):Nat):Int))=((n-2*(n / 4):Nat):Int):=by rw [aO (by omega) (by omega)]; omega
 unfold eV at ha
 refine cI Tryz.func29 (by decide) PT rfl ?_
 simp only [cU,hl,aq,aaf,go_sem]
 refine au [0,1] (hsz) rfl ?_ (by decide) ?_ ?_ (by simp) ?_ <;> simp only [ag,ah,go_sem]
 simp only [decide_eq_false (show ¬ ((n:Nat):Int)<64 by omega),go_sem]
 refine au [0,1] (hsz) rfl ?_ (by decide) ?_ ?_ (by simp) ?_ <;> simp only [ag,ah,go_sem]
 simp only [w1,go_sem]
 refine au [0,1] (KK) rfl ?_ (by decide) ?_ ?_ (by simp) ?_ <;> simp only [ag,ah,go_sem]
 simp only [w2,go_sem]
 refine au [0,1] (hsz) rfl ?_ (by decide) ?_ ?_ (by simp) ?_ <;> simp only [ag,ah,go_sem]
 simp only [w2,w3,go_sem]
 refine au [0,1] (hlo) rfl ?_ (by decide) ?_ ?_ (by simp) ?_ <;> simp only [ag,ah,go_sem]
 refine au [2,0,1] (RL) rfl ?_ (by decide) ?_ ?_ (by simp) ?_ <;> simp only [ag,ah,go_sem]
 have hag:q.isSome=false→Bt q = -1:=by cases q <;> simp [Bt]
 have hat:q.isSome=true→Bt q=eL q:=by cases q <;> simp [Bt,eL]
 simp only [VI] at hfo
 cases hs:q.isSome
 case' false=>have hA:=hag hs
 case' true=>have hA:=hat hs
 all_goals
  simp only [go_sem]
  refine jD hfo rfl rfl rfl ?_
  simp only [go_sem]
  refine Ze rfl (fun yv o=>yv=jr∧∃ fr rest,o=JK n l1 (IntKind.i64.wrap (s+1)) us (eL q+ops.length) (Bt q) rs fr (.sl 10 ops.length 1 0 ops.length) (none::some (.dat 57 1 (bW ops))::rest)) ?_ ?_
  case refine_2=>
   rintro yv af ⟨rfl,fr,rest,rfl⟩
   refine .inl ⟨rfl,?_⟩
   simp only [JK,go_sem]
   refine av (hel) rfl rfl rfl rfl ?_; simp only [go_sem]
   cases E with
   | true=>
     simp only [go_sem]
     refine au [3,0,1] (hcl) rfl ?_ (by decide) ?_ ?_ (by simp) ?_ <;> simp only [ag,ah,go_sem]
     refine dA [] [0,1,4,2,3] [10] (vs:=[.ptr 4 0,.d (.dO 1 (aB (tB q))),.sl 10 ops.length 1 0 ops.length,.int 0]) rfl rfl (by decide) (by simp) (by simp [St.obj,aC,b_]) rfl rfl ?_
     simp [St.obj,aC,aV,ah,ag,bK,bW,List.take_of_length_le,b_,LV.int]
   | false=>
     simp only [go_sem]
     refine dA [] [0,1,4,2,3] [10] (vs:=[.ptr 4 0,.d (.dO 1 (aB (tB q))),.sl 10 ops.length 1 0 ops.length,.int 0]) rfl rfl (by decide) (by simp) (by simp [St.obj,aC,b_]) rfl rfl ?_
     simp [St.obj,aC,aV,ah,ag,bK,bW,List.take_of_length_le,b_,LV.int]
  simp only [go_sem]
  refine PG Tryz.func171 (by decide) Kz rfl rfl rfl ?_
  simp only [PZ,hcR,go_sem]
  refine aW [0,2,9,10,11,YS] [.b 6 0 57 1] (fun x:Nat×List (List Int)=>x.1≤rs.length∧ops=x.2++vp (rs.drop x.1) (eL q+x.2.length)∧x.2.length≤x.1) (fun x=>rs.length-x.1) (opS n l1 (IntKind.i64.wrap (s+1)) us (Bt q) rs (eL q)) (0,[]) ?_ ⟨Nat.zero_le _,by simp [h5],Nat.le_refl _⟩ ?_
  ·simp only [opS,JK,hA,Int.natCast_zero,Int.add_zero,bW,go_sem]
  rintro ⟨k,done⟩ ⟨hk,hO,hd⟩
  dsimp only at hk hO hd
  simp only [opS,JK,go_sem]
  by_cases hlt:k<rs.length
  case neg=>
   obtain rfl:k=rs.length:=by omega
   rw [List.drop_length,show vp [] (eL q+done.length)=[] from rfl,List.append_nil] at hO
   subst hO
   simp only [decide_eq_false (show ¬ ((rs.length:Nat):Int)<((rs.length:Nat):Int) by omega),go_sem]
   exact ⟨_,_,rfl⟩
  have hg:=aM (f:=fun b:List Int=>[DV.dO 1 (aB b)]) [] hlt
  rw [show rs.map (fun b:List Int=>[DV.dO 1 (aB b)])=bW rs from rfl] at hg
  rw [tQ rs k [] hlt,wU] at hO
  have hm:rs.getD k []∈rs:=by rw [List.getD_eq_getElem?_getD,List.getElem?_eq_getElem hlt]; exact List.getElem_mem hlt
  have wL:=jY (G:=G) (rs.getD k []) (hro.2.2 _ hm).1 (by have:=(hro.2.2 _ hm).2; omega) 0 (by omega) _ rfl
  have Hi:=hro.2.2 _ hm
  have abR:=fun (x:Int) (p':Nat) (h:f_ (rs.getD k []) 0=some (x,p'))=>gv (fun c hc=>(Hi.1 c hc).1) h
  generalize rs.getD k []=r at *
  have hkk:IntKind.i64.wrap (((k:Nat):Int)+1)=((k+1:Nat):Int):=aH (show k<9223372036854775807 by omega)
  simp only [decide_eq_true (show ((k:Nat):Int)<((rs.length:Nat):Int) by omega),hg,go_sem]
  simp only [aq] at wL
  cases hq1:f_ r 0 with
  | none=>
    rw [hq1] at wL hO
    simp only [gj,zM,zN,Option.isSome,List.append_nil] at wL hO
    subst hO
    refine av (wL) rfl rfl rfl rfl ?_; simp only [go_sem]
    exact ⟨_,_,rfl⟩
  | some q1=>
    obtain ⟨x,p1⟩:=q1
    have hx:=abR x p1 hq1
    rw [hq1] at wL hO
    simp only [gj,zM,zN,Option.isSome] at wL hO
    refine av (wL) rfl rfl rfl rfl ?_; simp only [go_sem]
    have yY:(aB r).length=r.length:=aD r
    by_cases hc1:x<eL q+done.length∧p1<r.length
    ·rw [if_pos hc1] at hO
     simp only [decide_eq_true hc1.1,yY,decide_eq_true (show ((r.length:Nat):Int)>((p1:Nat):Int) by omega),go_sem]
     refine bh (k+1,done) ?_ ?_ ⟨by dsimp only; omega,hO,by dsimp only; omega⟩ (by dsimp only; omega)
     ·simp only [jr,go_sem]
     ·simp only [opS,JK,hkk,go_sem]
    rw [if_neg hc1] at hO
    by_cases Gk:x≠eL q+done.length∨p1=r.length
    ·rw [if_pos Gk,List.append_nil] at hO
     subst hO
     by_cases hx1:x<eL q+ops.length
     ·have hp1:p1=r.length:=by omega
      simp only [decide_eq_true hx1,yY,decide_eq_false (show ¬ ((r.length:Nat):Int)>((p1:Nat):Int) by omega),show (x !=eL q+ops.length)=true from bne_iff_ne.2 (by omega),go_sem]
      exact ⟨_,_,rfl⟩
     ·by_cases hx2:x=eL q+ops.length
      ·simp only [decide_eq_false hx1,yY,show (x !=eL q+ops.length)=false by simp [hx2],show (((r.length:Nat):Int)==((p1:Nat):Int))=true by rw [beq_iff_eq]; omega,go_sem]
       exact ⟨_,_,rfl⟩
      ·simp only [decide_eq_false hx1,show (x !=eL q+ops.length)=true from bne_iff_ne.2 hx2,go_sem]
       exact ⟨_,_,rfl⟩
    rw [if_neg Gk] at hO
    have hx2:x=eL q+done.length:=by omega
    have hp2:p1≠r.length:=by omega
    subst hx2
    have hcb:=pI (G:=G) (r.drop p1) (by rw [List.length_drop]; omega)
    simp only [aq] at hcb
    have c1:p1≤r.length∧r.length≤r.length:=by omega
    have htk:(aB (r.drop p1)).take (r.length-p1)=aB (r.drop p1):=List.take_of_length_le (by rw [aD,List.length_drop]; omega)
    simp only [decide_eq_false (show ¬ eL q+(done.length:Int)<eL q+(done.length:Int) by omega),yY,bne_self_eq_false,show (((r.length:Nat):Int)==((p1:Nat):Int))=false from beq_eq_false_iff_ne.2 (by omega),c1,gp,htk,go_sem]
    refine Wh rfl ?_
    simp only [go_sem]
    refine Se rfl rfl ?_
    simp only [go_sem]
    refine bf (hcb) rfl rfl rfl rfl ?_; simp only [go_sem]
    have hdl:(bW done).length=done.length:=by simp [bW]
    have hsn:bW done++[[DV.dO 1 (aB (r.drop p1))]]=bW (done++[r.drop p1]):=by simp [bW]
    have adE:(bW (done++[r.drop p1])).length*24≤70368744177664:=by
     have:(bW (done++[r.drop p1])).length=done.length+1:=by simp [bW]
     omega
    rw [hdl,hsn,if_pos ⟨rfl,adE⟩]
    simp only [go_sem]
    refine ay rfl ?_
    have w5:IntKind.i64.wrap (eL q+(done.length:Int)+1)=eL q+((done++[r.drop p1]).length:Int):=by rw [aO (by omega) (by omega),List.length_append,List.length_cons,List.length_nil]; omega
    simp only [w5,go_sem]
    refine bh (k+1,done++[r.drop p1]) ?_ ?_ ⟨by dsimp only; omega,by rw [hO]; simp [Int.add_assoc],by simp; omega⟩ (by dsimp only; omega)
    ·simp only [jr,go_sem]
    ·simp only [opS,JK,hkk,w5,List.length_append,go_sem]
end Dv
namespace Dv
open Go Go.Proofs
def w9 (c:aF):aa→List (List Int)→Option aa
 | s,[]=>some s
 | s,b::bs=>match Et b with
   | none=>none
   | some o=>if (aZ c s o).2=0 then w9 c (aZ c s o).1 bs else none
def kN (c:aF) (eZ:List Int) (l:List (List Int)):Option aa:=if eZ.length>0 then (vi c eZ).bind fun s=>w9 c s l else w9 c (dN c) l
def rdS (c:aF) (l:List (List Int)) (x:Nat×aa):St:=⟨[(3,.ptr 0 0),(6,.ptr 1 0),(8,.ptr 2 0),(29,.d (.dO 1 (bW l))),(30,.int l.length),(31,.int x.1)],[some (.box 23 [.int c.nodes,.int c.bL,.int c.cE,.int c.gT,.int c.cc,.int c.eG,.int c.deadline,.int c.room,.int c.ga]),some (.box 30 [.d (.val (.slice none 0 0)),.d (.val (.slice none 0 0)),.int 0,.int 0,.int 0,.int 0]),some (j_ x.2)]⟩
theorem Ng (c:aF) (eZ:List Int) (l:List (List Int)) (hp:∀ x∈eZ,0≤x∧x≤255) (mg:eZ.length≤1000000) (hl:∀ b∈l,(∀ x∈b,0≤x∧x≤255)∧b.length≤1000000) (wI:l.length≤1000000):bu Tryz.prog cF 99 [fN c,aq eZ,.d (.dO 1 (bW l))] [] (kR (kN c eZ l)) []:=by
 have hn:=Ko (G:=cF) c
 have hg:=VB (G:=cF) c eZ hp mg
 have hcl:(bW l).length=l.length:=by simp [bW]
 simp only [aq] at hg
 refine cI Tryz.func99 (by decide) PK rfl ?_
 simp only [aq,Z9,go_sem]
 refine av (hn) rfl rfl rfl rfl ?_; simp only [go_sem]
 simp only [aD,hcl,go_sem]
 obtain ⟨R,hR⟩:∃ R,kN c eZ l=R:=⟨_,rfl⟩
 rw [hR]
 unfold kN at hR
 by_cases hp0:0<eZ.length
 case' pos=>
  rw [if_pos hp0] at hR
  simp only [decide_eq_true (show ((eZ.length:Nat):Int)>0 by omega),go_sem]
  cases hgi:vi c eZ with
  | none=>
    rw [hgi] at hg hR
    simp only [kR,Option.getD,Option.isSome,aX,xu] at hg
    refine av (hg) rfl rfl rfl rfl ?_; simp only [go_sem]
    subst hR
    exact dQ [] rfl (by simp) (by simp [aV,ah,ag,kR,aX,xu,bS,cZ,LV.int,LV.bool,St.get,aY])
  | some s0=>?_
  rw [hgi] at hg hR
  simp only [Option.bind] at hR
  simp only [kR,Option.getD,Option.isSome,aX] at hg
  refine av (hg) rfl rfl rfl rfl ?_; simp only [go_sem]
 case' neg=>
  rw [if_neg hp0] at hR
  simp only [decide_eq_false (show ¬ ((eZ.length:Nat):Int)>0 by omega),go_sem]
  obtain ⟨s0,hs0⟩:∃ s0,dN c=s0:=⟨_,rfl⟩
  rw [hs0] at hR ⊢
 all_goals
  refine aW [3,6,8,29,30,31] [] (fun x:Nat×aa=>x.1≤l.length∧w9 c x.2 (l.drop x.1)=R) (fun x=>l.length-x.1) (rdS c l) (0,s0) ?_ ⟨Nat.zero_le _,hR⟩ ?_
  ·simp only [rdS,j_,hcl,Int.natCast_zero,go_sem]
  rintro ⟨k,s⟩ ⟨hk,hA⟩
  dsimp only at hk hA
  simp only [rdS,j_,go_sem]
  by_cases hlt:k<l.length
  case neg=>
   obtain rfl:k=l.length:=by omega
   rw [List.drop_length] at hA
   unfold w9 at hA
   subst hA
   simp only [decide_eq_false (show ¬ ((l.length:Nat):Int)<((l.length:Nat):Int) by omega),go_sem]
   exact dQ [] rfl (by simp) (by simp [aV,ah,ag,kR,aX,xu,bS,cZ,LV.int,LV.bool,St.get,aY])
  have hg:=aM (f:=fun b:List Int=>[DV.dO 1 (aB b)]) [] hlt
  rw [show l.map (fun b:List Int=>[DV.dO 1 (aB b)])=bW l from rfl] at hg
  rw [tQ l k [] hlt] at hA
  have hm:l.getD k []∈l:=by rw [List.getD_eq_getElem?_getD,List.getElem?_eq_getElem hlt]; exact List.getElem_mem hlt
  have ho:=O8 (l.getD k []) (hl _ hm).1 (hl _ hm).2
  generalize l.getD k []=b at *
  simp only [aq] at ho
  simp only [decide_eq_true (show ((k:Nat):Int)<((l.length:Nat):Int) by omega),hg,go_sem]
  have Gl:=hA
  unfold w9 at Gl
  cases hq:Et b with
  | none=>
    rw [hq] at ho Gl
    simp only at Gl
    subst Gl
    simp only [OR,Option.getD,Option.isSome,tF,iA] at ho
    refine av (ho) rfl rfl rfl rfl ?_; simp only [go_sem]
    exact dQ [] rfl (by simp) (by simp [aV,ah,ag,kR,aX,xu,bS,cZ,LV.int,LV.bool,St.get,aY])
  | some o=>
    rw [hq] at ho Gl
    simp only at Gl
    simp only [OR,Option.getD,Option.isSome,tF] at ho
    refine av (ho) rfl rfl rfl rfl ?_; simp only [go_sem]
    have hap:=ox c s o
    simp only [aX,tF] at hap
    refine av (hap) rfl rfl rfl rfl ?_; simp only [go_sem]
    by_cases he:(aZ c s o).2=0
    ·rw [if_pos he] at Gl
     simp only [he,bne_self_eq_false,go_sem]
     refine bh (k+1,(aZ c s o).1) ?_ ?_ ⟨by dsimp only; omega,Gl⟩ (by dsimp only; omega)
     ·simp only [go_sem]
     ·simp only [rdS,j_,aH (show k<9223372036854775807 by omega),go_sem]
    ·rw [if_neg he] at Gl
     subst Gl
     simp only [show ((aZ c s o).2 !=0)=true from bne_iff_ne.2 he,go_sem]
     exact dQ [] rfl (by simp) (by simp [aV,ah,ag,kR,aX,xu,bS,cZ,LV.int,LV.bool,St.get,aY])
end Dv
namespace Dv
open Go Go.Proofs
def g_ (l:List Int) (n:Nat) (s:Int):gP:=if L6 l n=true then ⟨n,bF (ko l n) (2*(n / 4)) (List.replicate (n-2*(n / 4)) 0),IntKind.i64.wrap (IntKind.i64.wrap (s+1)+1),eL (lZ l n)+(qP l n).length,Bt (lZ l n),0⟩ else ⟨n,ko l n,IntKind.i64.wrap (s+1),eL (lZ l n)+(qP l n).length,Bt (lZ l n),(iI l (2*(n / 4)) (n-2*(n / 4))).2⟩
def jP (j:gP):List aG:=jnP j.n j.l j.s j.cnt j.cv j.us
theorem OU (l:List Int) (n:Nat) (s:Int):(g_ l n s).n=n:=by unfold g_; split <;> rfl
theorem Mv {G:Nat→Option (List DV)} (n:Nat) (l:List Int) (s:Int) (hn:64≤n∧n≤65536) (hl:l.length=n) (hb:bB l):bu Tryz.prog G 29 [.ptr 0 0] (cU l s) (.dM [.ptr 2 0,aq (tB (lZ l n)),.d (.dO 1 (bW (qP l n))),.int 0]) (jP (g_ l n s)):=by
 have h:=Mw (G:=G) n l s hn hl hb _ _ _ _ _ _ rfl rfl rfl rfl rfl rfl
 unfold jP g_ L6
 by_cases hE:EB (yq l n) (eL (lZ l n))=true
 ·rw [if_pos hE]
  rw [if_pos (show EB (yq l n) (eL (fJ (ko l n) 0 (n / 4)))=true from hE)] at h
  exact h
 ·rw [if_neg hE]
  rw [if_neg (show ¬ EB (yq l n) (eL (fJ (ko l n) 0 (n / 4)))=true from hE)] at h
  exact h
theorem Ke {l:List Int} {n:Nat} (hl:l.length=n) (hb:bB l):(ko l n).length=n∧bB (ko l n):=by
 have hro:=(yM hb (fr:=2*(n / 4)) (sz:=n-2*(n / 4)) (by omega)).1
 refine ⟨?_,jQ hb (jf _)⟩
 unfold ko
 rw [dB (by rw [List.length_replicate]; omega),hl]
theorem Kf {l:List Int} {n:Nat} (s:Int) (hn:64≤n∧n≤65536) (hl:l.length=n) (hb:bB l):vN (g_ l n s):=by
 have hro:=(yM hb (fr:=2*(n / 4)) (sz:=n-2*(n / 4)) (by omega)).1
 obtain ⟨h1,h2⟩:=Ke hl hb
 unfold g_
 split
 ·exact ⟨by show (bF _ _ _).length=n; rw [dB (by rw [List.length_replicate]; omega),h1],hn,jQ h2 (jf _),Nat.zero_le _⟩
 ·exact ⟨h1,hn,h2,hro⟩
theorem Sx {l:List Int} {n:Nat} (hl:l.length=n) (hb:bB l):bB (tB (lZ l n))∧(tB (lZ l n)).length≤n:=by
 obtain ⟨h1,h2⟩:=Ke hl hb
 unfold lZ fJ
 split
 ·exact ⟨fun c hc=>(by cases hc),Nat.zero_le _⟩
 ·generalize (mc (ko l n) 0 (n / 4) 2).1.toNat=k
  have hs:∀ c∈eF (ko l n) 0 (n / 4) k,c∈ko l n:=fun c hc=>List.mem_of_mem_drop (List.mem_of_mem_take hc)
  have hg:=rj (eF (ko l n) 0 (n / 4) k) 0
  have yW:(eF (ko l n) 0 (n / 4) k).length≤n:=by unfold eF; rw [List.length_take,List.length_drop]; omega
  unfold iJ
  split
  ·cases f_ (dw (eF (ko l n) 0 (n / 4) k) 0).1 0 with
   | none=>exact ⟨fun c hc=>(by cases hc),Nat.zero_le _⟩
   | some q=>
     refine ⟨fun c hc=>h2 c (hs c (hg.1 c (List.mem_of_mem_drop hc))),?_⟩
     show (List.drop q.2 _).length≤n
     rw [List.length_drop]; omega
  ·exact ⟨fun c hc=>(by cases hc),Nat.zero_le _⟩
theorem Ey:∀ (rs:List (List Int)) (a:Int),(∀ r∈rs,bB r∧r.length≤4000)→∀ b∈vp rs a,bB b∧b.length≤4000
 | [],_,_,b,hb=>by cases hb
 | r::rs,a,h,b,hb=>by
   rw [wU] at hb
   cases hq:f_ r 0 with
   | none=>rw [hq] at hb; cases hb
   | some q=>
     rw [hq] at hb
     dsimp only at hb
     split at hb
     ·exact Ey rs a (fun x hx=>h x (List.mem_cons_of_mem _ hx)) b hb
     split at hb
     ·cases hb
     rcases List.mem_cons.1 hb with rfl | hb
     ·have:=h r (List.mem_cons_self ..)
      exact ⟨fun c hc=>this.1 c (List.mem_of_mem_drop hc),by rw [List.length_drop]; omega⟩
     ·exact Ey rs (a+1) (fun x hx=>h x (List.mem_cons_of_mem _ hx)) b hb
theorem Sy {l:List Int} {n:Nat} (hl:l.length=n) (hb:bB l):(∀ b∈qP l n,bB b∧b.length≤4000)∧(qP l n).length≤n:=by
 have hro:=yM hb (fr:=2*(n / 4)) (sz:=n-2*(n / 4)) (by omega)
 refine ⟨Ey _ _ hro.2.2,?_⟩
 have:=vo (yq l n) (eL (lZ l n))
 have h2:=hro.2.1
 unfold qP
 unfold yq at *
 omega
theorem tX {c:aF} : ∀ (l:List (List Int)) (s:aa) {t:aa},bU c s→w9 c s l=some t→bU c t
 | [],s,t,h,ht=>by cases ht; exact h
 | b::bs,s,t,h,ht=>by
   unfold w9 at ht
   cases hq:Et b with
   | none=>rw [hq] at ht; cases ht
   | some o=>
     rw [hq] at ht
     dsimp only at ht
     split at ht
     ·exact tX bs _ (ye h o) ht
     ·cases ht
theorem I_ {c:aF} {b:List Int} {s:aa} (h:vi c b=some s):bU c s:=by
 unfold vi at h
 split at h
 ·cases h
 split at h
 ·split at h
  ·cases h
  split at h
  ·rename_i hr; cases h; exact (d_ _ _).1 hr
  ·cases h
 ·cases h
theorem xF {c:aF} (hm:gH c=true) {eZ:List Int} {l:List (List Int)} {t:aa} (h:kN c eZ l=some t):bU c t:=by
 unfold kN at h
 split at h
 ·cases hg:vi c eZ with
  | none=>rw [hg] at h; cases h
  | some s=>rw [hg] at h; exact tX l s (I_ hg) h
 ·exact tX l _ (oW hm) h
def fL (c:aF) (j:gP) (room term:Int) (sh:List lz) (wr now:Int) (st:aa):aN:=⟨c,st,j,room,term,sh,wr,List.replicate st.nodes.length (Ip now),false,0⟩
def Aw (sh:List lz) (k:Nat) (j:bQ):List lz:=if j.phase=4 then sh.set (k+1) iB else if j.epoch≠0 then sh.set (k+1) (ic (sh.getD (k+1) iB) j.epoch) else sh
def jV (jobs:List bQ) (sh:List lz):Nat→List lz
 | 0=>sh
 | k+1=>Aw (jV jobs sh k) k (jobs.getD k az)
theorem Mx (sh:List lz) (k:Nat) (j:bQ):(Aw sh k j).length=sh.length:=by
 unfold Aw
 split
 ·simp
 ·split <;> simp
theorem o_ (jobs:List bQ) (sh:List lz):∀ k,(jV jobs sh k).length=sh.length
 | 0=>rfl
 | k+1=>by rw [jV,Mx,o_ jobs sh k]
def aN.K8 (y:aN):aN:={ y with term:=if y.s.term>y.term then y.s.term else y.term,sh:=jV y.s.jobs y.sh y.s.jobs.length }
def sL:LV:=.d (.val (.pointer none))
def K6 (c:aF) (l:List Int) (n:Nat) (s room term:Int) (sh:List lz) (wr now:Int):LV×List aG:=match kN c (tB (lZ l n)) (qP l n) with
 | none=>(.dM [sL,.int 2],cU (g_ l n s).l (g_ l n s).s++iu room term sh wr)
 | some st=>if (fL c (g_ l n s) room term sh wr now st).dK bI=0 then (.dM [.ptr 3 0,.int 0],rD ((fL c (g_ l n s) room term sh wr now st).bR bI now).K8) else (.dM [sL,.int ((fL c (g_ l n s) room term sh wr now st).dK bI)],cU ((fL c (g_ l n s) room term sh wr now st).bR bI now).j.l ((fL c (g_ l n s) room term sh wr now st).bR bI now).j.s++iu room term sh wr)
theorem GR {c:aF} {j:gP} {room term:Int} {sh:List lz} {wr now:Int} {st:aa} (hr:bU c st) (hj:vN j) (hs:sh.length=25):BW (fL c j room term sh wr now st):=⟨hr,hj,hs,List.length_replicate⟩
def RP (c:aF):aG:=.box 23 [.int c.nodes,.int c.bL,.int c.cE,.int c.gT,.int c.cc,.int c.eG,.int c.deadline,.int c.room,.int c.ga]
def btS (c:aF) (j:gP) (room term:Int) (sh:List lz) (wr now:Int) (st:aa) (k:Nat):St:=⟨[(1,.ptr 0 0),(2,.ptr 2 0),(3,.int now),(16,.ptr 8 0),(62,.int st.nodes.length),(63,.int k)],
 [some (.box 150 [.sl 1 j.n 1 0 j.n,.d (.val (.slice none 0 0)),.int j.s]),some (.dat 5 1 (aB j.l)),some (.box 190 (.int room::.int term::(sh.flatMap sy++[.int wr]))),some (RP c),
  some (.box 160 [.ptr 0 0,.ptr 5 0,.ptr 6 0,.int j.cnt,.int j.cv]),some (.box 243 [.ptr 0 0,.int 0,.int ((j.n / 4:Nat):Int)]),some (.box 245 [.ptr 0 0,.int ((2*(j.n / 4):Nat):Int),.int ((j.n-2*(j.n / 4):Nat):Int),.int j.us]),
  some (j_ st),
  some (.box 195 [.int c.nodes,.int c.bL,.int c.cE,.int c.gT,.int c.cc,.int c.eG,.int c.deadline,.int c.room,.int c.ga,.ptr 0 0,.ptr 4 0,.ptr 2 0,bS st.nodes,cZ st.jobs,.int st.goal,.int st.prior,.int st.mode,.int st.term,.sl 9 k 26 0 k,.bool false,.int 0]),
  some (aR (List.replicate k (Ip now)))]⟩
def btT (c:aF) (st:aa) (y:aN) (k:Nat):St:=⟨[(2,.ptr 2 0),(16,.ptr 8 0),(95,cZ y.s.jobs),(96,.int y.s.jobs.length),(97,.int k)],
 [some (.box 150 [.sl 1 y.j.n 1 0 y.j.n,.d (.val (.slice none 0 0)),.int y.j.s]),some (.dat 5 1 (aB y.j.l)),some (.box 190 (.int y.room::.int (if y.s.term>y.term then y.s.term else y.term)::((jV y.s.jobs y.sh k).flatMap sy++[.int y.wr]))),some (RP c),
  some (.box 160 [.ptr 0 0,.ptr 5 0,.ptr 6 0,.int y.j.cnt,.int y.j.cv]),some (.box 243 [.ptr 0 0,.int 0,.int ((y.j.n / 4:Nat):Int)]),some (.box 245 [.ptr 0 0,.int ((2*(y.j.n / 4):Nat):Int),.int ((y.j.n-2*(y.j.n / 4):Nat):Int),.int y.j.us]),
  some (j_ st),
  some (.box 195 [.int y.c.nodes,.int y.c.bL,.int y.c.cE,.int y.c.gT,.int y.c.cc,.int y.c.eG,.int y.c.deadline,.int y.c.room,.int y.c.ga,.ptr 0 0,.ptr 4 0,.ptr 2 0,bS y.s.nodes,cZ y.s.jobs,.int y.s.goal,.int y.s.prior,.int y.s.mode,.int y.s.term,.sl 9 y.lines.length 26 0 y.lines.length,.bool y.down,.int y.ew]),
  some (aR y.lines)]⟩
theorem Ru (c:aF) (hm:gH c=true) (n:Nat) (hn:64≤n∧n≤65536) (l:List Int) (hl:l.length=n) (hb:bB l) (s room term:Int) (sh:List lz) (hs:sh.length=25) (wr now:Int) (El:0≤now∧now≤1000000):bu Tryz.prog cF 37 [fN c,.ptr 0 0,.ptr 2 0,.int now] (cU l s++iu room term sh wr) (K6 c l n s room term sh wr now).1 (K6 c l n s room term sh wr now).2:=by
 have hmay:=yT (G:=cF) c
 rw [hm] at hmay
 have hsz:=ia (G:=cF) l s
 have II:=zk (G:=cF) now
 rw [decide_eq_true El] at II
 have hop:=Mv (G:=cF) n l s hn hl hb
 have hq:=Sx hl hb
 have ho:=Sy hl hb
 have hrd:=Ng c (tB (lZ l n)) (qP l n) hq.1 (by omega) (fun b h=>⟨(ho.1 b h).1,by have:=(ho.1 b h).2; omega⟩) (by omega)
 have hrr:=fun t (h:kN c (tB (lZ l n)) (qP l n)=some t)=>xF hm h
 have hj:=Kf s hn hl hb
 have hjn:=OU l n s
 unfold K6
 generalize kN c (tB (lZ l n)) (qP l n)=R at *
 generalize g_ l n s=j at *
 generalize tB (lZ l n)=eZ at *
 generalize qP l n=ops at *
 clear hq ho
 subst hjn
 have hjl:=hj.len
 have hR:R=none∨∃ st,R=some st:=by cases R <;> simp
 simp only [cU,hl] at hsz hop
 simp only [jP,jnP,aq] at hop
 simp only [aq] at hrd
 refine cI Tryz.func37 (by decide) PS rfl ?_
 simp only [cU,iu,hl,hjl,aae,go_sem]
 refine av (hmay) rfl rfl rfl rfl ?_; simp only [go_sem]
 refine au [0,1] (hsz) rfl ?_ (by decide) ?_ ?_ (by simp) ?_ <;> simp only [ag,ah,go_sem]
 simp only [decide_eq_false (show ¬ ((j.n:Nat):Int)<64 by omega),go_sem]
 refine av (II) rfl rfl rfl rfl ?_; simp only [go_sem]
 refine au [0,1] (hop) rfl ?_ (by decide) ?_ ?_ (by simp) ?_ <;> simp only [ag,ah,go_sem]
 rcases hR with rfl | ⟨st,rfl⟩
 ·simp only [kR,Option.getD,Option.isSome,aX,xu] at hrd
  refine av (hrd) rfl rfl rfl rfl ?_; simp only [go_sem]
  exact dA [] [0,1,2] [] (vs:=[sL,.int 2]) rfl rfl (by decide) (by simp) (by simp) (by simp only [List.map_cons,List.map_nil,fq,mT,aU,bE]; rfl) (by simp only [List.all_cons,List.all_nil,dW,eE,eN,aK,aP]; rfl) (by simp [aV,ah,ag,sL,LV.int])
 have hr:=hrr st rfl
 have hx:=GR (room:=room) (term:=term) (wr:=wr) (now:=now) hr hj hs
 have AG:=uQ _ hx bI now
 have hno:=hx.note bI now
 have hjn:=DY (fL c j room term sh wr now st) bI now
 have hnl:st.nodes.length≤6:=hr.len.2
 have hnX:(fL c j room term sh wr now st).dK bI≠0→((fL c j room term sh wr now st).bR bI now).sh=sh∧((fL c j room term sh wr now st).bR bI now).room=room∧((fL c j room term sh wr now st).bR bI now).term=term∧((fL c j room term sh wr now st).bR bI now).wr=wr:=fun h=>by
  unfold aN.bR; rw [if_neg h]; exact ⟨rfl,rfl,rfl,rfl⟩
 dsimp only
 generalize hy:(fL c j room term sh wr now st).bR bI now=y at *
 generalize (fL c j room term sh wr now st).dK bI=e at *
 have hfe:=qv (G:=cF) y.room y.term y.sh y.wr y.s.term
 simp only [kR,Option.getD,Option.isSome,aX] at hrd
 refine av (hrd) rfl rfl rfl rfl ?_; simp only [go_sem]
 simp only [fL] at hjn
 simp only [bT,dS,aR,fL,hjn,List.cons_append,List.nil_append,bI,List.length_replicate] at AG
 simp only [iu,List.cons_append,List.nil_append] at hfe
 refine aW [1,2,3,16,62,63] [.b 8 18 197 26] (fun k:Nat=>k≤st.nodes.length) (fun k=>st.nodes.length-k) (btS c j room term sh wr now st) 0 ?_ (Nat.zero_le _) (fun k hk=>?_)
 ·simp only [btS,RP,j_,aR,List.replicate_zero,Int.natCast_zero,go_sem]
 simp only [btS,RP,j_,aR,go_sem]
 by_cases hlt:k<st.nodes.length
 ·have gm:(List.replicate (k+1) (Ip now)).map mU=(List.replicate k (Ip now)).map mU++[mU (Ip now)]:=by rw [List.replicate_succ',List.map_append]; rfl
  simp only [decide_eq_true (show ((k:Nat):Int)<((st.nodes.length:Nat):Int) by omega),go_sem]
  have sP:mU (Ip now)=[i64 0,bl false,i64 0,i64 0,i64 0,i64 0,i64 0,i64 0,i64 0,i64 0,i64 0,i64 0,i64 0,i64 0,i64 now,i64 0,i64 0,i64 0,i64 0,i64 0,i64 0,i64 0,i64 0,i64 0,i64 0,i64 0]:=rfl
  have c1:(k+1)*208≤70368744177664:=by omega
  simp only [List.length_append,List.length_replicate,c1,go_sem]
  refine bh (k+1) ?_ ?_ (show k+1≤st.nodes.length by omega) (show st.nodes.length-(k+1)<st.nodes.length-k by omega)
  ·simp only [aK,aP,go_sem]
  ·simp only [aH (show k<9223372036854775807 by omega),gm,sP,List.length_replicate,List.length_append,btS,RP,j_,aR,go_sem]
 obtain rfl:k=st.nodes.length:=by omega
 simp only [decide_eq_false (show ¬ ((st.nodes.length:Nat):Int)<((st.nodes.length:Nat):Int) by omega),go_sem]
 refine au [8,4,0,5,6,1,2,9] (AG) rfl ?_ (by decide) ?_ ?_ (by simp) ?_ <;> simp only [ag,ah,go_sem,aU,bE,aK,aP,List.length_replicate]
 by_cases he:e=0
 case neg=>
  obtain ⟨g1,g2,g3,g4⟩:=hnX he
  have hyl:=hno.jn.len
  simp only [show (e !=0)=true from bne_iff_ne.2 he,if_neg he,g1,g2,g3,g4,cU,iu,hyl,hjn,go_sem]
  exact dA [] [0,1,2] [] (vs:=[sL,.int e]) rfl rfl (by decide) (by simp) (by simp) (by simp only [List.map_cons,List.map_nil,fq,mT,aU,bE]; rfl) (by simp only [List.all_cons,List.all_nil,dW,eE,eN,aK,aP]; rfl) (by simp [aV,ah,ag,sL,LV.int])
 subst he
 simp only [bne_self_eq_false,go_sem]
 refine au [2] (hfe) rfl ?_ (by decide) ?_ ?_ (by simp) ?_ <;> simp only [ag,ah,go_sem,aU,bE,aK,aP]
 have hyr:=hno.right
 have hjb:=hyr.jobs
 have hys:=hno.sh
 refine aW [2,16,95,96,97] [] (fun k:Nat=>k≤y.s.jobs.length) (fun k=>y.s.jobs.length-k) (btT c st y) 0 ?_ (Nat.zero_le _) (fun k hk=>?_)
 ·simp only [btT,RP,j_,aR,jV,hjn,Int.natCast_zero,go_sem]
 simp only [btT,RP,j_,aR,go_sem]
 by_cases hlt:k<y.s.jobs.length
 case neg=>
  obtain rfl:k=y.s.jobs.length:=by omega
  simp only [decide_eq_false (show ¬ ((y.s.jobs.length:Nat):Int)<((y.s.jobs.length:Nat):Int) by omega),go_sem]
  have hid:=Dg 8 (Nat.le_refl 8) y.K8
  simp only [aN.K8,rD,Dc,aR,bS,cZ,LV.int,LV.bool] at hid ⊢
  refine dA [] [0,1,2,8,9,4,5,6] [] (vs:=[.ptr 8 0,.int 0]) rfl rfl (by decide) (by simp) (by simp) ?_ hid ?_
  ·simp only [List.map_cons,List.map_nil,fq,mT,aU,bE]
   rfl
  simp [aV,ah,ag,LV.int,LV.bool]
 have hg:=aM (f:=dJ) az hlt
 have hjs:jV y.s.jobs y.sh (k+1)=Aw (jV y.s.jobs y.sh k) k (y.s.jobs.getD k az):=rfl
 have hep:=(hyr.num k hlt).epoch
 have yW:(jV y.s.jobs y.sh k).length=25:=by rw [o_,hys]
 generalize hq:jV y.s.jobs y.sh k=sk at *
 have adC:0≤(y.s.jobs.getD k az).epoch:=hep.1
 clear hep
 generalize y.s.jobs.getD k az=jb at *
 obtain ⟨q0,q1,q2,q3,q4,q5,ph,q7,q8,q9,q10,ep⟩:=jb
 dsimp only at adC
 have w1:=aH (show k<9223372036854775807 by omega)
 have hend:=uq (G:=cF) y.room (if y.s.term>y.term then y.s.term else y.term) sk y.wr (k+1) (by omega) yW
 simp only [dJ] at hg
 simp only [iu,List.cons_append,List.nil_append] at hend
 unfold Aw at hjs
 simp only [decide_eq_true (show ((k:Nat):Int)<((y.s.jobs.length:Nat):Int) by omega),hg,go_sem]
 by_cases h4:ph=4
 ·subst h4
  rw [if_pos rfl] at hjs
  simp only [w1,go_sem]
  refine au [2] (hend) rfl ?_ (by decide) ?_ ?_ (by simp) ?_ <;> simp only [ag,ah,go_sem,aU,bE,aK,aP]
  refine bh (k+1) ?_ ?_ (show k+1≤y.s.jobs.length by omega) (show y.s.jobs.length-(k+1)<y.s.jobs.length-k by omega)
  ·simp only [aK,aP,go_sem]
  ·simp only [btT,RP,j_,aR,hjs,w1,go_sem]
 rw [if_neg h4] at hjs
 by_cases h0:ep=0
 ·subst h0
  rw [if_neg (by simp)] at hjs
  simp only [show (ph==4)=false from beq_eq_false_iff_ne.2 h4,go_sem]
  refine bh (k+1) ?_ ?_ (show k+1≤y.s.jobs.length by omega) (show y.s.jobs.length-(k+1)<y.s.jobs.length-k by omega)
  ·simp only [aK,aP,go_sem]
  ·simp only [btT,RP,j_,aR,hjs,w1,go_sem]
 ·rw [if_pos h0] at hjs
  have hcm:=pO (G:=cF) y.room (if y.s.term>y.term then y.s.term else y.term) sk y.wr (k+1) (by omega) yW ep (by omega) _ rfl
  simp only [iu,List.cons_append,List.nil_append] at hcm
  simp only [show (ph==4)=false from beq_eq_false_iff_ne.2 h4,show (ep !=0)=true from bne_iff_ne.2 h0,w1,go_sem]
  refine au [2] (hcm) rfl ?_ (by decide) ?_ ?_ (by simp) ?_ <;> simp only [ag,ah,go_sem,aU,bE,aK,aP]
  refine bh (k+1) ?_ ?_ (show k+1≤y.s.jobs.length by omega) (show y.s.jobs.length-(k+1)<y.s.jobs.length-k by omega)
  ·simp only [aK,aP,go_sem]
  ·simp only [btT,RP,j_,aR,hjs,w1,go_sem]
end Dv
