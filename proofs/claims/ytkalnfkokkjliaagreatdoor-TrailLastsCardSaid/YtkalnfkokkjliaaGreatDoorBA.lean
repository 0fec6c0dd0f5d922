/- part -/
import Derived.Test.YtkalnfkokkjliaaGreatDoorNA
import Derived.Test.YtkalnfkokkjliaaGreatDoorKA
import Derived.Test.YtkalnfkokkjliaaGreatDoorCA
import Derived.Test.YtkalnfkokkjliaaGreatDoorIA
import Derived.Test.YtkalnfkokkjliaaGreatDoorOA
set_option linter.all false
set_option maxHeartbeats 4000000
set_option maxRecDepth 100000
namespace Dv
open Go Go.Proofs
variable {G:Nat→Option (List DV)}
def W_:=qx Tryz.f174
theorem Tu:aj Tryz.prog Tryz.f174=some W_:=by kernel_rfl
def WB:=qx Tryz.f228
theorem SZ:aj Tryz.prog Tryz.f228=some WB:=by kernel_rfl
def Xa:=qx Tryz.f173
theorem Tv:aj Tryz.prog Tryz.f173=some Xa:=by kernel_rfl
theorem PO {b:List Int} (hb:∀ c∈b,0≤c∧c≤255) (a:Nat):∀ c∈(dJ b a).1,0≤c∧c≤255:=fun c hc=>hb c ((qz b a).1 c hc)
theorem Kl {b:List Int} (hb:∀ c∈b,0≤c∧c≤255):∀ (f:Nat) (l:List (List Int)) (a:Nat),a≤b.length→(∀ r∈l,(∀ c∈r,0≤c∧c≤255)∧r.length≤4000)→(u5 b f l a).2≤b.length∧(u5 b f l a).1.length+a≤l.length+(u5 b f l a).2∧∀ r∈(u5 b f l a).1,(∀ c∈r,0≤c∧c≤255)∧r.length≤4000
 | 0,l,a,ha,hl=>⟨ha,Nat.le_refl _,hl⟩
 | f+1,l,a,ha,hl=>by
   unfold u5
   by_cases h1:(dJ b a).2.2=1
   ·rw [if_pos h1]
    have he:=FC (fun c hc=>(hb c hc).1) h1
    have:=Kl hb f (l++[(dJ b a).1]) (dJ b a).2.1 he.2.1 (fun r hr=>by
     rcases List.mem_append.1 hr with hr | hr
     ·exact hl r hr
     ·rw [List.mem_singleton.1 hr]
      exact ⟨PO hb a,he.2.2⟩)
    refine ⟨this.1,?_,this.2.2⟩
    have h2:=this.2.1
    rw [List.length_append,List.length_cons,List.length_nil] at h2
    omega
   ·rw [if_neg h1]
    exact ⟨ha,Nat.le_refl _,hl⟩
theorem CT {l:List Int} (hb:∀ c∈l,0≤c∧c≤255) {fr sz:Nat} (h:fr+sz≤l.length):(iU l fr sz).2≤sz∧(iU l fr sz).1.length≤sz∧∀ r∈(iU l fr sz).1,(∀ c∈r,0≤c∧c≤255)∧r.length≤4000:=by
 have:=Kl (Ek (fr:=fr) (sz:=sz) hb) (sz+1) [] 0 (Nat.zero_le _) (fun r hr=>by cases hr)
 rw [tO h] at this
 unfold iU
 refine ⟨this.1,?_,this.2.2⟩
 have h2:=this.2.1
 have h1:=this.1
 simp only [List.length_nil] at h2
 omega
def uM:List (List Int)→Int→List (List Int)
 | [],_=>[]
 | r::rs,a=>match fZ r 0 with
   | none=>[]
   | some q=>if q.1<a∧q.2<r.length then uM rs a else if q.1≠a∨q.2=r.length then [] else r.drop q.2::uM rs (a+1)
def Ig (r:List Int) (a:Int):Bool:=match fZ r 0 with
 | none=>true
 | some q=>decide (q.1≥a)
def zN (a:Int):List (List Int)→Nat→Int
 | [],_=>-1
 | r::rs,k=>if Ig r a=true then k else zN a rs (k+1)
def DC (rs:List (List Int)) (a:Int):Bool:=decide ((rs.length:Int)>0)&&!(decide (zN a rs 0≥0))
def rM (a:Int):List aC:=[.box 3 [.int a]]
def A9 (p:Nat):LV:=.fn (.func 174) [] [.ptr p 0]
theorem P_ (r:List Int) (a:Int) (hb:∀ c∈r,0≤c∧c≤255) (hl:r.length≤4000):bh Tryz.prog G 174 [ak r,.ptr 0 0] (rM a) (.bool (Ig r a)) (rM a):=by
 have hg:=jJ (G:=G) r hb (by omega) 0 (by omega) _ rfl
 refine aQ Tryz.func174 (by decide) Tu rfl rfl rfl rfl ?_
 simp only [W_,go_sem]
 simp only [rM,ak,go_sem]
 simp only [ak] at hg
 unfold Ig
 cases hq:fZ r 0 with
 | none=>
   rw [hq] at hg
   simp only [fP,yX,yY,Option.isSome] at hg
   refine ax (hg) rfl rfl rfl rfl ?_; simp only [go_sem]
 | some q=>
   rw [hq] at hg
   obtain ⟨x,p⟩:=q
   simp only [fP,yX,yY,Option.isSome] at hg
   refine ax (hg) rfl rfl rfl rfl ?_; simp only [go_sem]
def ixS (rs:List (List Int)) (a:Int) (k:Nat):St:=⟨[(0,.d (.dK 1 (bR rs))),(1,A9 0),(7,.int rs.length),(8,.int k)],(rM a).map some⟩
theorem Up (rs:List (List Int)) (a:Int) (hr:∀ r∈rs,(∀ c∈r,0≤c∧c≤255)∧r.length≤4000) (hl:rs.length≤100000):bh Tryz.prog G 228 [.d (.dK 1 (bR rs)),A9 0] (rM a) (.int (zN a rs 0)) (rM a):=by
 have hcl:(bR rs).length=rs.length:=by simp [bR]
 refine aQ Tryz.func228 (by decide) SZ rfl rfl rfl rfl ?_
 simp only [WB,go_sem]
 simp only [rM,A9,hcl,go_sem]
 refine aR [0,1,7,8] [] (fun k:Nat=>k≤rs.length∧zN a rs 0=zN a (rs.drop k) k) (fun k=>rs.length-k) (ixS rs a) 0 ?_ ⟨Nat.zero_le _,rfl⟩ ?_
 ·simp only [ixS,rM,A9,Int.natCast_zero,go_sem]
 rintro k ⟨hk,hI⟩
 simp only [ixS,rM,A9,go_sem]
 by_cases hlt:k<rs.length
 case neg=>
  obtain rfl:k=rs.length:=by omega
  rw [List.drop_length] at hI
  simp only [decide_eq_false (show ¬ ((rs.length:Nat):Int)<((rs.length:Nat):Int) by omega),hI,zN,go_sem]
 have hg:=aK (f:=fun b:List Int=>[DV.dK 1 (az b)]) [] hlt
 rw [show rs.map (fun b:List Int=>[DV.dK 1 (az b)])=bR rs from rfl] at hg
 rw [Al rs k [] hlt] at hI
 have hm:rs.getD k []∈rs:=by rw [List.getD_eq_getElem?_getD,List.getElem?_eq_getElem hlt]; exact List.getElem_mem hlt
 have he:=P_ (G:=G) (rs.getD k []) a (hr _ hm).1 (hr _ hm).2
 generalize rs.getD k []=r at *
 simp only [rM,ak] at he
 simp only [decide_eq_true (show ((k:Nat):Int)<((rs.length:Nat):Int) by omega),hg,go_sem]
 refine gL [0] (he) rfl ?_ (by decide) ?_ ?_ ?_ <;> simp only [ag,ah,go_sem]
 rw [show zN a (r::rs.drop (k+1)) k=if Ig r a=true then (k:Int) else zN a (rs.drop (k+1)) (k+1) from rfl] at hI
 cases h1:Ig r a with
 | true=>
   rw [h1,if_pos rfl] at hI
   simp only [hI,go_sem]
 | false=>
   rw [h1,if_neg (by decide)] at hI
   simp only [go_sem]
   refine bg (k+1) ?_ ?_ ⟨by omega,hI⟩ (by omega)
   ·simp only [go_sem]
   ·simp only [ixS,rM,A9,aG (show k<9223372036854775807 by omega),go_sem]
theorem DH (rs:List (List Int)) (a:Int) (hr:∀ r∈rs,(∀ c∈r,0≤c∧c≤255)∧r.length≤4000) (hl:rs.length≤100000):bh Tryz.prog G 173 [.d (.dK 1 (bR rs)),A9 0] (rM a) (.bool (decide (zN a rs 0≥0))) (rM a):=by
 have hi:=Up (G:=G) rs a hr hl
 simp only [rM,A9] at hi
 refine aQ Tryz.func173 (by decide) Tv rfl rfl rfl rfl ?_
 simp only [Xa,go_sem]
 simp only [rM,A9,go_sem]
 refine gL [0] (hi) rfl ?_ (by decide) ?_ ?_ ?_ <;> simp only [ag,ah,go_sem]
theorem Mh (rs:List (List Int)) (a:Int) (hr:∀ r∈rs,(∀ c∈r,0≤c∧c≤255)∧r.length≤4000) (hl:rs.length≤100000):bh Tryz.prog G 85 [.d (.dK 1 (bR rs)),.int a] [] (.bool (DC rs a)) []:=by
 have hcl:(bR rs).length=rs.length:=by simp [bR]
 have hc:=DH (G:=G) rs a hr hl
 simp only [rM,A9] at hc
 refine bn Tryz.func85 (by decide) OP rfl rfl ?_
 simp only [Zi,go_sem]
 simp only [hcl,DC,go_sem]
 by_cases h0:((rs.length:Nat):Int)>0
 ·simp only [decide_eq_true h0,go_sem]
  refine gL [0] (hc) rfl ?_ (by decide) ?_ ?_ ?_ <;> simp only [ag,ah,go_sem]
 ·simp only [decide_eq_false h0,go_sem]
def ew:Option (List Int×Int)→Int
 | none=>0
 | some p=>p.2
def IJ (n:Nat) (l:List Int) (s:Int) (us:Nat) (cnt bz:Int) (rs:List (List Int)) (fr:Int) (ops:LV) (rest:List (Option aC)):List (Option aC):=some (.box 150 [.sl 1 n 1 0 n,.d (.val (.slice none 0 0)),.int s])::some (.dat 5 1 (az l))::some (.box 243 [.ptr 0 0,.int 0,.int ((n / 4:Nat):Int)])::some (.box 245 [.ptr 0 0,.int ((2*(n / 4):Nat):Int),.int ((n-2*(n / 4):Nat):Int),.int us])::some (.box 160 [.ptr 0 0,.ptr 2 0,.ptr 3 0,.int cnt,.int bz])::some (.box 56 [.ptr 4 0])::some (.box 58 [ops])::some (.box 58 [.d (.dK 1 (bR rs))])::some (.box 3 [.int fr])::rest
def opS (n:Nat) (l:List Int) (s:Int) (us:Nat) (bz:Int) (rs:List (List Int)) (a:Int) (q:Nat×List (List Int)):St:=⟨[(0,.yl 9),(2,.ptr 8 0),(9,.d (.dK 1 (bR rs))),(10,.int rs.length),(11,.int q.1),(YS,ia)],IJ n l s us (a+q.2.length) bz rs (a+q.2.length) (.sl 10 q.2.length 1 0 q.2.length) [none,some (.dat 57 1 (bR q.2))]⟩
theorem uL:∀ (rs:List (List Int)) (a:Int),(uM rs a).length≤rs.length
 | [],_=>Nat.le_refl _
 | r::rs,a=>by
   unfold uM
   have h1:=uL rs a
   have h2:=uL rs (a+1)
   cases fZ r 0 with
   | none=>simp
   | some q=>
     dsimp only
     split
     ·rw [List.length_cons]; omega
     ·split
      ·simp
      ·rw [List.length_cons,List.length_cons]; omega
theorem vY (r:List Int) (rs:List (List Int)) (a:Int):uM (r::rs) a=match fZ r 0 with
  | none=>[]
  | some q=>if q.1<a∧q.2<r.length then uM rs a else if q.1≠a∨q.2=r.length then [] else r.drop q.2::uM rs (a+1):=rfl
def me (l:List Int) (n:Nat):List Int:=bN l (2*(n / 4)+(iU l (2*(n / 4)) (n-2*(n / 4))).2) (List.replicate (n-2*(n / 4)-(iU l (2*(n / 4)) (n-2*(n / 4))).2) 0)
def AX (l:List Int) (n:Nat):List (List Int):=(iU l (2*(n / 4)) (n-2*(n / 4))).1
def ji (l:List Int) (n:Nat):Option (List Int×Int):=fu (me l n) 0 (n / 4)
def ue (l:List Int) (n:Nat):List (List Int):=uM (AX l n) (ew (ji l n))
def RF (l:List Int) (n:Nat):Bool:=DC (AX l n) (ew (ji l n))
theorem LD (n:Nat) (l:List Int) (s:Int) (hn:64≤n∧n≤65536) (hl:l.length=n) (hb:∀ c∈l,0≤c∧c≤255) (l1:List Int) (us:Nat) (rs:List (List Int)) (q:Option (List Int×Int)) (ops:List (List Int)) (E:Bool)
  (h1:l1=me l n) (h2:us=(iU l (2*(n / 4)) (n-2*(n / 4))).2) (h3:rs=AX l n) (h4:q=fu l1 0 (n / 4)) (h5:ops=uM rs (ew q)) (h6:E=DC rs (ew q)) :
  bh Tryz.prog G 29 [.ptr 0 0] (eN l s) (.dH [.ptr 2 0,ak (rJ q),.d (.dK 1 (bR ops)),.int 0])
   (if E=true then jnP n (bN l1 (2*(n / 4)) (List.replicate (n-2*(n / 4)) 0)) (IntKind.i64.wrap (IntKind.i64.wrap (s+1)+1)) (ew q+ops.length) (AJ q) 0 else jnP n l1 (IntKind.i64.wrap (s+1)) (ew q+ops.length) (AJ q) us):=by
 have hro:=CT hb (fr:=2*(n / 4)) (sz:=n-2*(n / 4)) (by omega)
 have hsz:=iZ (G:=G) l s
 have JQ:=rQ (G:=G) l s 0 (n / 4) (by omega) (by omega) (by omega)
 have hlo:=wP (G:=G) l s (2*(n / 4)) (n-2*(n / 4)) hb (by omega) (by omega) (by omega) hro.1
 have tB:l1.length=n:=by rw [h1]; unfold me; rw [dR (by rw [List.length_replicate]; omega),hl]
 have hb1:∀ c∈l1,0≤c∧c≤255:=by
  rw [h1]
  intro c hc
  unfold me bN at hc
  rcases List.mem_append.1 hc with hc | hc
  ·rcases List.mem_append.1 hc with hc | hc
   ·exact hb c (List.mem_of_mem_take hc)
   ·rw [List.eq_of_mem_replicate hc]; decide
  ·exact hb c (List.mem_of_mem_drop hc)
 have QL:=uv (G:=G) l1 (IntKind.i64.wrap (s+1)) 0 (n / 4) hb1 (by omega) (by omega)
 have hcl:=uu (G:=G) l1 (IntKind.i64.wrap (s+1)) (2*(n / 4)) (n-2*(n / 4)) us (by omega) (by omega) (by omega)
 have hcb:(bN l1 (2*(n / 4)) (List.replicate (n-2*(n / 4)) 0)).length=n:=by rw [dR (by rw [List.length_replicate]; omega),tB]
 rw [show bN l (2*(n / 4)+(iU l (2*(n / 4)) (n-2*(n / 4))).2) (List.replicate (n-2*(n / 4)-(iU l (2*(n / 4)) (n-2*(n / 4))).2) 0)=l1 from h1.symm] at hlo
 rw [← h2] at hlo hro
 rw [show (iU l (2*(n / 4)) (n-2*(n / 4))).1=rs from h3.symm] at hlo hro
 rw [← h4] at QL
 have hq:∀ p,q=some p→0≤p.2∧p.2≤eF:=fun p hp=>by
  rw [h4] at hp
  unfold fu at hp
  split at hp
  ·cases hp
  ·exact NI hb1 hp
 have ha:0≤ew q∧ew q≤eF:=by
  cases HK:q with
  | none=>exact ⟨Int.le_refl _,by decide⟩
  | some p=>exact hq p HK
 have hfo:=rZ (G:=G) rs (ew q)
 have hel:=Mh (G:=G) rs (ew q) hro.2.2 (by omega)
 rw [← h6] at hel
 have hol:=uL rs (ew q)
 rw [← h5] at hol
 have hcR:(bR rs).length=rs.length:=by simp [bR]
 clear h1 h2 h3 h4 h6
 have hpv:og q=.dH [ak (rJ q),.int (ew q),.bool q.isSome]:=by cases q <;> rfl
 rw [hpv] at QL
 simp only [eN,dkS,dkL,mc,zC,ak,hl,tB,hcb] at hsz JQ hlo QL hcl
 have w1:IntKind.i64.wrap (((n:Nat):Int).tdiv 4)=((n / 4:Nat):Int):=by rw [Int.tdiv_eq_ediv_of_nonneg (by omega),aL (by omega) (by omega)]; omega
 have w2:IntKind.i64.wrap (2*((n / 4:Nat):Int))=((2*(n / 4):Nat):Int):=by rw [aL (by omega) (by omega)]; omega
 have w3:IntKind.i64.wrap (((n:Nat):Int)-((2*(n / 4):Nat):Int))=((n-2*(n / 4):Nat):Int):=by rw [aL (by omega) (by omega)]; omega
 unfold eF at ha
 refine cA Tryz.func29 (by decide) OR rfl ?_
 simp only [eN,hl,ak,Zk,go_sem]
 refine av [0,1] (hsz) rfl ?_ (by decide) ?_ ?_ (by simp) ?_ <;> simp only [ag,ah,go_sem]
 simp only [decide_eq_false (show ¬ ((n:Nat):Int)<64 by omega),go_sem]
 refine av [0,1] (hsz) rfl ?_ (by decide) ?_ ?_ (by simp) ?_ <;> simp only [ag,ah,go_sem]
 simp only [w1,go_sem]
 refine av [0,1] (JQ) rfl ?_ (by decide) ?_ ?_ (by simp) ?_ <;> simp only [ag,ah,go_sem]
 simp only [w2,go_sem]
 refine av [0,1] (hsz) rfl ?_ (by decide) ?_ ?_ (by simp) ?_ <;> simp only [ag,ah,go_sem]
 simp only [w2,w3,go_sem]
 refine av [0,1] (hlo) rfl ?_ (by decide) ?_ ?_ (by simp) ?_ <;> simp only [ag,ah,go_sem]
 refine av [2,0,1] (QL) rfl ?_ (by decide) ?_ ?_ (by simp) ?_ <;> simp only [ag,ah,go_sem]
 have hag:q.isSome=false→AJ q = -1:=by cases q <;> simp [AJ]
 have hat:q.isSome=true→AJ q=ew q:=by cases q <;> simp [AJ,ew]
 simp only [UO] at hfo
 cases hs:q.isSome
 case' false=>have hA:=hag hs
 case' true=>have hA:=hat hs
 all_goals
  simp only [go_sem]
  refine gu hfo rfl rfl rfl ?_
  simp only [go_sem]
  refine Qx rfl (fun yv o=>yv=ia∧∃ fr rest,o=IJ n l1 (IntKind.i64.wrap (s+1)) us (ew q+ops.length) (AJ q) rs fr (.sl 10 ops.length 1 0 ops.length) (none::some (.dat 57 1 (bR ops))::rest)) ?_ ?_
  case refine_2=>
   rintro yv af ⟨rfl,fr,rest,rfl⟩
   refine .inl ⟨rfl,?_⟩
   simp only [IJ,go_sem]
   refine ax (hel) rfl rfl rfl rfl ?_; simp only [go_sem]
   cases E with
   | true=>
     simp only [go_sem]
     refine av [3,0,1] (hcl) rfl ?_ (by decide) ?_ ?_ (by simp) ?_ <;> simp only [ag,ah,go_sem]
     refine dm [] [0,1,4,2,3] [10] (vs:=[.ptr 4 0,.d (.dK 1 (az (rJ q))),.sl 10 ops.length 1 0 ops.length,.int 0]) rfl rfl (by decide) (by simp) (by simp [St.obj,au,c_]) rfl rfl ?_
     simp [St.obj,au,aP,ah,ag,bB,bR,List.take_of_length_le,c_,LV.int]
   | false=>
     simp only [go_sem]
     refine dm [] [0,1,4,2,3] [10] (vs:=[.ptr 4 0,.d (.dK 1 (az (rJ q))),.sl 10 ops.length 1 0 ops.length,.int 0]) rfl rfl (by decide) (by simp) (by simp [St.obj,au,c_]) rfl rfl ?_
     simp [St.obj,au,aP,ah,ag,bB,bR,List.take_of_length_le,c_,LV.int]
  simp only [go_sem]
  refine Hx Tryz.func171 (by decide) JH rfl rfl rfl ?_
  simp only [OX,hcR,go_sem]
  refine aR [0,2,9,10,11,YS] [.b 6 0 57 1] (fun x:Nat×List (List Int)=>x.1≤rs.length∧ops=x.2++uM (rs.drop x.1) (ew q+x.2.length)∧x.2.length≤x.1) (fun x=>rs.length-x.1) (opS n l1 (IntKind.i64.wrap (s+1)) us (AJ q) rs (ew q)) (0,[]) ?_ ⟨Nat.zero_le _,by simp [h5],Nat.le_refl _⟩ ?_
  ·simp only [opS,IJ,hA,Int.natCast_zero,Int.add_zero,bR,go_sem]
  rintro ⟨k,done⟩ ⟨hk,hO,hd⟩
  dsimp only at hk hO hd
  simp only [opS,IJ,go_sem]
  by_cases hlt:k<rs.length
  case neg=>
   obtain rfl:k=rs.length:=by omega
   rw [List.drop_length,show uM [] (ew q+done.length)=[] from rfl,List.append_nil] at hO
   subst hO
   simp only [decide_eq_false (show ¬ ((rs.length:Nat):Int)<((rs.length:Nat):Int) by omega),go_sem]
   exact ⟨_,_,rfl⟩
  have hg:=aK (f:=fun b:List Int=>[DV.dK 1 (az b)]) [] hlt
  rw [show rs.map (fun b:List Int=>[DV.dK 1 (az b)])=bR rs from rfl] at hg
  rw [Al rs k [] hlt,vY] at hO
  have hm:rs.getD k []∈rs:=by rw [List.getD_eq_getElem?_getD,List.getElem?_eq_getElem hlt]; exact List.getElem_mem hlt
  have LQ:=jJ (G:=G) (rs.getD k []) (hro.2.2 _ hm).1 (by have:=(hro.2.2 _ hm).2; omega) 0 (by omega) _ rfl
  have LN:=hro.2.2 _ hm
  have abi:=fun (x:Int) (p':Nat) (h:fZ (rs.getD k []) 0=some (x,p'))=>fW (fun c hc=>(LN.1 c hc).1) h
  generalize rs.getD k []=r at *
  have hkk:IntKind.i64.wrap (((k:Nat):Int)+1)=((k+1:Nat):Int):=aG (show k<9223372036854775807 by omega)
  simp only [decide_eq_true (show ((k:Nat):Int)<((rs.length:Nat):Int) by omega),hg,go_sem]
  simp only [ak] at LQ
  cases hq1:fZ r 0 with
  | none=>
    rw [hq1] at LQ hO
    simp only [fP,yX,yY,Option.isSome,List.append_nil] at LQ hO
    subst hO
    refine ax (LQ) rfl rfl rfl rfl ?_; simp only [go_sem]
    exact ⟨_,_,rfl⟩
  | some q1=>
    obtain ⟨x,p1⟩:=q1
    have hx:=abi x p1 hq1
    rw [hq1] at LQ hO
    simp only [fP,yX,yY,Option.isSome] at LQ hO
    refine ax (LQ) rfl rfl rfl rfl ?_; simp only [go_sem]
    have AQ:(az r).length=r.length:=aA r
    by_cases hc1:x<ew q+done.length∧p1<r.length
    ·rw [if_pos hc1] at hO
     simp only [decide_eq_true hc1.1,AQ,decide_eq_true (show ((r.length:Nat):Int)>((p1:Nat):Int) by omega),go_sem]
     refine bg (k+1,done) ?_ ?_ ⟨by dsimp only; omega,hO,by dsimp only; omega⟩ (by dsimp only; omega)
     ·simp only [ia,go_sem]
     ·simp only [opS,IJ,hkk,go_sem]
    rw [if_neg hc1] at hO
    by_cases Gi:x≠ew q+done.length∨p1=r.length
    ·rw [if_pos Gi,List.append_nil] at hO
     subst hO
     by_cases hx1:x<ew q+ops.length
     ·have hp1:p1=r.length:=by omega
      simp only [decide_eq_true hx1,AQ,decide_eq_false (show ¬ ((r.length:Nat):Int)>((p1:Nat):Int) by omega),show (x !=ew q+ops.length)=true from bne_iff_ne.2 (by omega),go_sem]
      exact ⟨_,_,rfl⟩
     ·by_cases hx2:x=ew q+ops.length
      ·simp only [decide_eq_false hx1,AQ,show (x !=ew q+ops.length)=false by simp [hx2],show (((r.length:Nat):Int)==((p1:Nat):Int))=true by rw [beq_iff_eq]; omega,go_sem]
       exact ⟨_,_,rfl⟩
      ·simp only [decide_eq_false hx1,show (x !=ew q+ops.length)=true from bne_iff_ne.2 hx2,go_sem]
       exact ⟨_,_,rfl⟩
    rw [if_neg Gi] at hO
    have hx2:x=ew q+done.length:=by omega
    have hp2:p1≠r.length:=by omega
    subst hx2
    have hcb:=oJ (G:=G) (r.drop p1) (by rw [List.length_drop]; omega)
    simp only [ak] at hcb
    have c1:p1≤r.length∧r.length≤r.length:=by omega
    have htk:(az (r.drop p1)).take (r.length-p1)=az (r.drop p1):=List.take_of_length_le (by rw [aA,List.length_drop]; omega)
    simp only [decide_eq_false (show ¬ ew q+(done.length:Int)<ew q+(done.length:Int) by omega),AQ,bne_self_eq_false,show (((r.length:Nat):Int)==((p1:Nat):Int))=false from beq_eq_false_iff_ne.2 (by omega),c1,fR,htk,go_sem]
    refine DO rfl ?_
    simp only [go_sem]
    refine CR rfl rfl ?_
    simp only [go_sem]
    refine aU (hcb) rfl rfl rfl rfl ?_; simp only [go_sem]
    have hdl:(bR done).length=done.length:=by simp [bR]
    have X1:bR done++[[DV.dK 1 (az (r.drop p1))]]=bR (done++[r.drop p1]):=by simp [bR]
    have acX:(bR (done++[r.drop p1])).length*24≤70368744177664:=by
     have:(bR (done++[r.drop p1])).length=done.length+1:=by simp [bR]
     omega
    rw [hdl,X1,if_pos ⟨rfl,acX⟩]
    simp only [go_sem]
    refine an rfl ?_
    have w5:IntKind.i64.wrap (ew q+(done.length:Int)+1)=ew q+((done++[r.drop p1]).length:Int):=by rw [aL (by omega) (by omega),List.length_append,List.length_cons,List.length_nil]; omega
    simp only [w5,go_sem]
    refine bg (k+1,done++[r.drop p1]) ?_ ?_ ⟨by dsimp only; omega,by rw [hO]; simp [Int.add_assoc],by simp; omega⟩ (by dsimp only; omega)
    ·simp only [ia,go_sem]
    ·simp only [opS,IJ,hkk,w5,List.length_append,go_sem]
end Dv
namespace Dv
open Go Go.Proofs
def xH (c:aB):aa→List (List Int)→Option aa
 | s,[]=>some s
 | s,b::bs=>match A7 b with
   | none=>none
   | some o=>if (bx c s o).2=0 then xH c (bx c s o).1 bs else none
def rT (c:aB) (eO:List Int) (l:List (List Int)):Option aa:=if eO.length>0 then (sW c eO).bind fun s=>xH c s l else xH c (dz c) l
end Dv
namespace Dv
open Go Go.Proofs
def sP (l:List Int) (n:Nat) (s:Int):jy:=if RF l n=true then ⟨n,bN (me l n) (2*(n / 4)) (List.replicate (n-2*(n / 4)) 0),IntKind.i64.wrap (IntKind.i64.wrap (s+1)+1),ew (ji l n)+(ue l n).length,AJ (ji l n),0⟩ else ⟨n,me l n,IntKind.i64.wrap (s+1),ew (ji l n)+(ue l n).length,AJ (ji l n),(iU l (2*(n / 4)) (n-2*(n / 4))).2⟩
def jP (j:jy):List aC:=jnP j.n j.l j.s j.cnt j.bz j.us
theorem YE (l:List Int) (n:Nat) (s:Int):(sP l n s).n=n:=by unfold sP; split <;> rfl
theorem LC {G:Nat→Option (List DV)} (n:Nat) (l:List Int) (s:Int) (hn:64≤n∧n≤65536) (hl:l.length=n) (hb:bE l):bh Tryz.prog G 29 [.ptr 0 0] (eN l s) (.dH [.ptr 2 0,ak (rJ (ji l n)),.d (.dK 1 (bR (ue l n))),.int 0]) (jP (sP l n s)):=by
 have h:=LD (G:=G) n l s hn hl hb _ _ _ _ _ _ rfl rfl rfl rfl rfl rfl
 unfold jP sP RF
 by_cases hE:DC (AX l n) (ew (ji l n))=true
 ·rw [if_pos hE]
  rw [if_pos (show DC (AX l n) (ew (fu (me l n) 0 (n / 4)))=true from hE)] at h
  exact h
 ·rw [if_neg hE]
  rw [if_neg (show ¬ DC (AX l n) (ew (fu (me l n) 0 (n / 4)))=true from hE)] at h
  exact h
theorem RE {l:List Int} {n:Nat} (hl:l.length=n) (hb:bE l):(me l n).length=n∧bE (me l n):=by
 have hro:=(CT hb (fr:=2*(n / 4)) (sz:=n-2*(n / 4)) (by omega)).1
 refine ⟨?_,ny hb (m_ _)⟩
 unfold me
 rw [dR (by rw [List.length_replicate]; omega),hl]
theorem RC {l:List Int} {n:Nat} (hl:l.length=n) (hb:bE l):bE (rJ (ji l n))∧(rJ (ji l n)).length≤n:=by
 obtain ⟨h1,h2⟩:=RE hl hb
 unfold ji fu
 split
 ·exact ⟨fun c hc=>(by cases hc),Nat.zero_le _⟩
 ·generalize (lD (me l n) 0 (n / 4) 2).1.toNat=k
  have hs:∀ c∈eo (me l n) 0 (n / 4) k,c∈me l n:=fun c hc=>List.mem_of_mem_drop (List.mem_of_mem_take hc)
  have hg:=qz (eo (me l n) 0 (n / 4) k) 0
  have xF:(eo (me l n) 0 (n / 4) k).length≤n:=by unfold eo; rw [List.length_take,List.length_drop]; omega
  unfold ic
  split
  ·cases fZ (dJ (eo (me l n) 0 (n / 4) k) 0).1 0 with
   | none=>exact ⟨fun c hc=>(by cases hc),Nat.zero_le _⟩
   | some q=>
     refine ⟨fun c hc=>h2 c (hs c (hg.1 c (List.mem_of_mem_drop hc))),?_⟩
     show (List.drop q.2 _).length≤n
     rw [List.length_drop]; omega
  ·exact ⟨fun c hc=>(by cases hc),Nat.zero_le _⟩
theorem DA:∀ (rs:List (List Int)) (a:Int),(∀ r∈rs,bE r∧r.length≤4000)→∀ b∈uM rs a,bE b∧b.length≤4000
 | [],_,_,b,hb=>by cases hb
 | r::rs,a,h,b,hb=>by
   rw [vY] at hb
   cases hq:fZ r 0 with
   | none=>rw [hq] at hb; cases hb
   | some q=>
     rw [hq] at hb
     dsimp only at hb
     split at hb
     ·exact DA rs a (fun x hx=>h x (List.mem_cons_of_mem _ hx)) b hb
     split at hb
     ·cases hb
     rcases List.mem_cons.1 hb with rfl | hb
     ·have:=h r (List.mem_cons_self ..)
      exact ⟨fun c hc=>this.1 c (List.mem_of_mem_drop hc),by rw [List.length_drop]; omega⟩
     ·exact DA rs (a+1) (fun x hx=>h x (List.mem_cons_of_mem _ hx)) b hb
theorem RD {l:List Int} {n:Nat} (hl:l.length=n) (hb:bE l):(∀ b∈ue l n,bE b∧b.length≤4000)∧(ue l n).length≤n:=by
 have hro:=CT hb (fr:=2*(n / 4)) (sz:=n-2*(n / 4)) (by omega)
 refine ⟨DA _ _ hro.2.2,?_⟩
 have:=uL (AX l n) (ew (ji l n))
 have h2:=hro.2.1
 unfold ue
 unfold AX at *
 omega
theorem HW {c:aB} {b:List Int} {s:aa} (h:sW c b=some s):bK c s:=by
 unfold sW at h
 split at h
 ·cases h
 split at h
 ·split at h
  ·cases h
  split at h
  ·rename_i hr; cases h; exact (fq _ _).1 hr
  ·cases h
 ·cases h
end Dv
