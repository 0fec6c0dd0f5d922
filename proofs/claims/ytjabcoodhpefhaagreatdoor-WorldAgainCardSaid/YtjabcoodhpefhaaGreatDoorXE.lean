/- part of the proof -/
import Derived.Test.YtjabcoodhpefhaaGreatDoorXD
import Derived.Shelf.SlSortCmp.NoneTotal
import Derived.Shelf.SlIterI.Nil
import Derived.Shelf.SlIterI.Sorted
import Derived.Shelf.SortM.Plain
import Derived.Shelf.SortM.SortNone
import Derived.Maps.OwnIn
import Derived.Maps.Views
import Derived.Deep.Slices
import Derived.Deep.Fields
import Derived.Carry
import Derived.LaidMore
import Derived.OpenShut
import Derived.LaidHandle
import Derived.MakeChecks
import Derived.Test.YtjabcoodhpefhaaGreatDoorRows
set_option linter.all false
set_option maxHeartbeats 8000000
set_option maxRecDepth 1000000
namespace Dv
open Int List Nat Option Go.Proofs.Tryz
variable {G:tY}
open Go Go.Proofs
section
variable(r:List Int)(rs:List (List Int))(a:Int)
def Cd{b:List Int}(T:∀c∈b,0<=c/\c<=255)(a:Nat):∀c∈(cT b a).1,0<=c/\c<=255:=λc K=>T c ((sK b a).1 c K)
def NL{b:List Int}(T:∀c∈b,0<=c/\c<=255):∀(f:Nat) (l:List (List Int)) (a:Nat),a<=b.length->(∀r∈l,(∀c∈r,0<=c/\c<=255)/\r.length<=4000)->(xB b f l a).2<=b.length/\(xB b f l a).1.length+a<=l.length+(xB b f l a).2/\∀r∈(xB b f l a).1,(∀c∈r,0<=c/\c<=255)/\r.length<=4000
 |0,l,a,X,Z=>⟨X,Nat.le_refl _,Z⟩
 |f+1,l,a,X,Z=>by
  unfold xB;by_cases U:(cT b a).2.2=1
  .rw [if_pos U];have v:=wV (λc K=>(T c K).1) U;have:=NL T f (l++[(cT b a).1]) (cT b a).2.1 v.2.1 (λr hr=>by
    rcases mem_append.1 hr with hr|hr
    .exact Z r hr
    .rw [mem_singleton.1 hr];exact⟨Cd T a,v.2.2⟩)
   refine⟨this.1,?_,this.2.2⟩;have h2:=this.2.1;rw[length_append,length_cons,length_nil]at h2;omega
  .rw [if_neg U];exact⟨X,Nat.le_refl _,Z⟩
def Ak{l:List Int}(T:∀c∈l,0<=c/\c<=255){fr sz:Nat}(h:fr+sz<=l.length):(jk l fr sz).2<=sz/\(jk l fr sz).1.length<=sz/\∀r∈(jk l fr sz).1,(∀c∈r,0<=c/\c<=255)/\r.length<=4000:=by have:=NL (Hy (fr:=fr) (sz:=sz) T) (sz+1) [] 0 (zero_le _) (λr hr=>by cases hr);rw[vP h]at this;unfold jk;refine⟨this.1,?_,this.2.2⟩;have h2:=this.2.1;have U:=this.1;simp only[length_nil]at h2;omega
def wY:List (List Int)->Int->List (List Int)
 |[],_=>[]
 |r::rs,a=>match fK r 0 with
  |none=>[]
  |some q=>if q.1<a/\q.2<r.length then wY rs a else if q.1≠a\/q.2=r.length then[]else r.drop q.2::wY rs (a+1)
def LU(r:List Int)(a:Int):Bool:=match fK r 0 with
 |none=>true
 |some q=>decide (q.1>=a)
def B5(a:Int):List (List Int)->Nat->Int
 |[],_=>-1
 |r::rs,k=>if LU r a=true then k else B5 a rs (k+1)
def Gy(rs:List (List Int))(a:Int):Bool:=decide ((rs.length:Int)>0)&&!(decide (B5 a rs 0>=0))
def tO(a:Int):List ah:=[.box 3 [.int a]]
def Dw(p:Nat):LV:=.fn (.func 129) [] [.ptr p 0]
def Ux(T:∀c∈r,0<=c/\c<=255)(Z:r.length<=4000):aS G 129 [ak r,.ptr 0 0] (tO a) (.bool (LU r a)) (tO a):=by
 have V:=iD (G:=G) r T (by omega) 0 (by omega) _ rfl;refine oO func129 rfl ?_;simp only[tO,ak,go_sem];simp only[ak]at V;unfold LU;cases E:fK r 0 with
 |none=>rw[E]at V;simp only[Gj,yg,yh,isSome]at V;refine a_ V trivial
 |some q=>rw[E]at V;obtain⟨x,p⟩:=q;simp only[Gj,yg,yh,isSome]at V;refine a_ V trivial
def ixS(rs:List (List Int))(a:Int)(k:Nat):St:=⟨[(0,.d (.cM 1 (bS rs))),(1,Dw 0),(7,.int rs.length),(8,.int k)],(tO a).map some⟩
def Xg(hr:∀r∈rs,(∀c∈r,0<=c/\c<=255)/\r.length<=4000)(Z:rs.length<=100000):aS G 181 [.d (.cM 1 (bS rs)),Dw 0] (tO a) (.int (B5 a rs 0)) (tO a):=by
 have e:(bS rs).length=rs.length:=by simp[bS]
 refine oO func181 rfl ?_;simp only[tO,Dw,e,go_sem];refine aQ [0,1,7,8] [] (λk:Nat=>k<=rs.length/\B5 a rs 0=B5 a (rs.drop k) k) (λk=>rs.length-k) (ixS rs a) 0 ?_ ⟨zero_le _,rfl⟩ ?_
 .simp only[ixS,tO,Dw,Int.natCast_zero,go_sem]
 rintro k ⟨hk,J⟩;simp only[ixS,tO,Dw,go_sem];by_cases X:k<rs.length;case neg=>
  obtain rfl:k=rs.length:=by omega
  rw[drop_length]at J;simp only[dF ((rs.length:Int)<(rs.length:Int)),J,B5,go_sem]
 have V:=aG (f:=λb:List Int=>[DV.cM 1 (ax b)]) [] X;rw[show rs.map (λb:List Int=>[DV.cM 1 (ax b)])=bS rs from rfl]at V;rw[qU rs k [] X]at J;have H:rs.getD k []∈rs:=by rw[getD_eq_getElem?_getD,getElem?_eq_getElem X];exact getElem_mem X
 have v:=Ux (G:=G) (rs.getD k []) a (hr _ H).1 (hr _ H).2;generalize rs.getD k []=r at *;simp only[tO,ak]at v;simp only[dT ((k:Int)<(rs.length:Int)),V,go_sem];refine kG [0] v ?_;rw[show B5 a (r::rs.drop (k+1)) k=if LU r a=true then(k:Int)else B5 a (rs.drop (k+1)) (k+1)from rfl]at J;cases U:LU r a with
 |true=>rw[U,if_pos rfl]at J;simp only[J,go_sem]
 |false=>
  rw[U,if_neg (by decide)]at J;simp only[go_sem];refine aY (k+1) ?_ ?_ ⟨by omega,J⟩ (by omega)
  .simp only[go_sem]
  .simp only[ixS,tO,Dw,wS k,go_sem]
def GB(hr:∀r∈rs,(∀c∈r,0<=c/\c<=255)/\r.length<=4000)(Z:rs.length<=100000):aS G 128 [.d (.cM 1 (bS rs)),Dw 0] (tO a) (.bool (decide (B5 a rs 0>=0))) (tO a):=by have hi:=Xg (G:=G) rs a hr Z;simp only[tO,Dw]at hi;refine oO func128 rfl ?_;simp only[tO,Dw,go_sem];refine kG [0] hi trivial
def Qm(hr:∀r∈rs,(∀c∈r,0<=c/\c<=255)/\r.length<=4000)(Z:rs.length<=100000):aS G 81 [.d (.cM 1 (bS rs)),.int a] [] (.bool (Gy rs a)) []:=by
 have e:(bS rs).length=rs.length:=by simp[bS]
 have K:=GB (G:=G) rs a hr Z;simp only[tO,Dw]at K;refine iL func81 ?_;simp only[e,Gy,go_sem];by_cases h0:(rs.length:Int)>0
 .simp only[decide_eq_true h0,go_sem];refine kG [0] K trivial
 .simp only[decide_eq_false h0,go_sem]
def eM:Option (List Int×Int)->Int
 |none=>0
 |some p=>p.2
def Mk(n:Nat)(l:List Int)(s:Int)(us:Nat)(cnt cA:Int)(rs:List (List Int))(fr:Int)(ops:LV)(j:List (Option ah)):List (Option ah):=some (.box 123 [.sl 1 n 1 0 n,.d (.val (.slice none 0 0)),.int s])::some (.dat 5 1 (ax l))::some (.box 216 [.ptr 0 0,.int 0,.int ((n / 4:Nat):Int)])::some (.box 218 [.ptr 0 0,.int ((2*(n / 4):Nat):Int),.int ((n-2*(n / 4):Nat):Int),.int us])::some (.box 155 [.ptr 0 0,.ptr 2 0,.ptr 3 0,.int cnt,.int cA])::some (.box 102 [.ptr 4 0])::some (.box 103 [ops])::some (.box 103 [.d (.cM 1 (bS rs))])::some (.box 3 [.int fr])::j
def opS(n:Nat)(l:List Int)(s:Int)(us:Nat)(cA:Int)(rs:List (List Int))(a:Int)(q:Nat×List (List Int)):St:=⟨[(0,.yl 9),(2,.ptr 8 0),(9,.d (.cM 1 (bS rs))),(10,.int rs.length),(11,.int q.1),(YS,mq)],Mk n l s us (a+q.2.length) cA rs (a+q.2.length) (.sl 10 q.2.length 1 0 q.2.length) [none,some (.dat 100 1 (bS q.2))]⟩
def wX:∀(rs:List (List Int)) (a:Int),(wY rs a).length<=rs.length
 |[],_=>Nat.le_refl _
 |r::rs,a=>by
  unfold wY;have U:=wX rs a;have h2:=wX rs (a+1);cases fK r 0 with
  |none=>simp
  |some q=>
   dsimp only;split
   .rw [length_cons];omega
   .split
    .simp
    .rw [length_cons,length_cons];omega
def yG:wY (r::rs) a=match fK r 0 with
  |none=>[]
  |some q=>if q.1<a/\q.2<r.length then wY rs a else if q.1≠a\/q.2=r.length then[]else r.drop q.2::wY rs (a+1):=rfl
def lV(l:List Int)(n:Nat):List Int:=br l (2*(n / 4)+(jk l (2*(n / 4)) (n-2*(n / 4))).2) (replicate (n-2*(n / 4)-(jk l (2*(n / 4)) (n-2*(n / 4))).2) 0)
def zW(l:List Int)(n:Nat):List (List Int):=(jk l (2*(n / 4)) (n-2*(n / 4))).1
def jN(l:List Int)(n:Nat):Option (List Int×Int):=fR (lV l n) 0 (n / 4)
def nG(l:List Int)(n:Nat):List (List Int):=wY (zW l n) (eM (jN l n))
def Pe(l:List Int)(n:Nat):Bool:=Gy (zW l n) (eM (jN l n))
def PB(n:Nat)(l:List Int)(s:Int)(D:64<=n/\n<=65536)(Z:l.length=n)(T:∀c∈l,0<=c/\c<=255)(l1:List Int)(us:Nat)(rs:List (List Int))(q:Option (List Int×Int))(ops:List (List Int))(E:Bool)
  (U:l1=lV l n) (h2:us=(jk l (2*(n / 4)) (n-2*(n / 4))).2) (B:rs=zW l n) (y:q=fR l1 0 (n / 4)) (A:ops=wY rs (eM q)) (h6:E=Gy rs (eM q)) :
  aS G 39 [.ptr 0 0] (wO l s) (.cZ [.ptr 2 0,ak (nC q),.d (.cM 1 (bS ops)),.int 0])
   (if E=true then ZW n (br l1 (2*(n / 4)) (replicate (n-2*(n / 4)) 0)) (IntKind.i64.wrap (IntKind.i64.wrap (s+1)+1)) (eM q+ops.length) (CI q) 0 else ZW n l1 (IntKind.i64.wrap (s+1)) (eM q+ops.length) (CI q) us):=by
 have hro:=Ak T (fr:=2*(n / 4)) (sz:=n-2*(n / 4)) (by omega);have u:=iS (G:=G) l s;have hso:=tX (G:=G) l s 0 (n / 4) (by omega) (by omega) (by omega);have hlo:=zi (G:=G) l s (2*(n / 4)) (n-2*(n / 4)) T (by omega) (by omega) (by omega) hro.1;have v:l1.length=n:=by rw[U];unfold lV;rw[dD (by rw[length_replicate];omega),Z]
 have t:∀c∈l1,0<=c/\c<=255:=by
  rw[U];intro c K;unfold lV br at K;rcases mem_append.1 K with K|K
  .rcases mem_append.1 K with K|K
   .exact T c (mem_of_mem_take K)
   .rw [eq_of_mem_replicate K];decide
  .exact T c (mem_of_mem_drop K)
 have hld:=wK (G:=G) l1 (IntKind.i64.wrap (s+1)) 0 (n / 4) t (by omega) (by omega);have e:=wJ (G:=G) l1 (IntKind.i64.wrap (s+1)) (2*(n / 4)) (n-2*(n / 4)) us (by omega) (by omega) (by omega);have hcb:(br l1 (2*(n / 4)) (replicate (n-2*(n / 4)) 0)).length=n:=by rw[dD (by rw[length_replicate];omega),v]
 rw[show br l (2*(n / 4)+(jk l (2*(n / 4)) (n-2*(n / 4))).2) (replicate (n-2*(n / 4)-(jk l (2*(n / 4)) (n-2*(n / 4))).2) 0)=l1 from U.symm]at hlo;rw[<- h2]at hlo hro;rw[show(jk l (2*(n / 4)) (n-2*(n / 4))).1=rs from B.symm]at hlo hro;rw[<- y]at hld;have a:∀p,q=some p->0<=p.2/\p.2<=dS:=λp O=>by
  rw[y]at O;unfold fR at O;split at O
  .cases O
  .exact Sv t O
 have J:0<=eM q/\eM q<=dS:=by
  cases My:q with
  |none=>exact⟨Int.le_refl _,by decide⟩
  |some p=>exact a p My
 have hfo:=uh (G:=G) rs (eM q);have hel:=Qm (G:=G) rs (eM q) hro.2.2 (by omega);rw[<- h6]at hel;have hol:=wX rs (eM q);rw[<- A]at hol;have hcR:(bS rs).length=rs.length:=by simp[bS]
 clear U h2 B y h6;have hpv:qA q=.cZ [ak (nC q),.int (eM q),.bool q.isSome]:=by cases q<;>rfl
 rw[hpv]at hld;simp only[wO,dkS,dkL,od,BO,ak,Z,v,hcb]at u hso hlo hld e;have j:IntKind.i64.wrap ((n:Int).tdiv 4)=((n / 4:Nat):Int):=by rw[tdiv_eq_ediv_of_nonneg (by omega),aH (by omega) (by omega)];omega
 have w2:IntKind.i64.wrap (2*((n / 4:Nat):Int))=((2*(n / 4):Nat):Int):=by rw[aH (by omega) (by omega)];omega
 have w3:IntKind.i64.wrap ((n:Int)-((2*(n / 4):Nat):Int))=((n-2*(n / 4):Nat):Int):=by rw[aH (by omega) (by omega)];omega
 unfold dS at J;refine tW func39 ?_;simp only[wO,Z,ak,go_sem];refine bJ [0,1] u ?_;simp only[dF ((n:Int)<64),go_sem];refine bJ [0,1] u ?_;simp only[j,go_sem];refine bJ [0,1] hso ?_;simp only[w2,go_sem];refine bJ [0,1] u ?_;simp only[w2,w3,go_sem];refine bJ [0,1] hlo ?_;refine bJ [2,0,1] hld ?_;have hag:q.isSome=false->CI q = -1:=by cases q<;>simp[CI]
 have hat:q.isSome=true->CI q=eM q:=by cases q<;>simp[CI,eM]
 simp only[XH]at hfo;cases hs:q.isSome;case' false=>have m:=hag hs
 case' true=>have m:=hat hs
 all_goals
  simp only[go_sem];refine acj hfo ?_;refine Za rfl (λyv o=>yv=mq/\∃fr rest,o=Mk n l1 (IntKind.i64.wrap (s+1)) us (eM q+ops.length) (CI q) rs fr (.sl 10 ops.length 1 0 ops.length) (none::some (.dat 100 1 (bS ops))::rest)) ?_ ?_;case refine_2=>
   rintro yv af ⟨rfl,fr,rest,rfl⟩;refine .inl ⟨rfl,?_⟩;simp only[Mk,go_sem,sA];refine a_ hel ?_;cases E with
   |true=>simp only[go_sem];refine bJ [3,0,1] e ?_;refine ue [] [0,1,4,2,3] [10] (vs:=[.ptr 4 0,.d (.cM 1 (ax (nC q))),.sl 10 ops.length 1 0 ops.length,.int 0]) rfl rfl (by decide) (by simp) (by simp[St.obj,an,bQ]) rfl rfl ?_;simp[St.obj,an,aR,aB,ay,bz,bS,take_of_length_le,bQ,LV.int]
   |false=>simp only[go_sem];refine ue [] [0,1,4,2,3] [10] (vs:=[.ptr 4 0,.d (.cM 1 (ax (nC q))),.sl 10 ops.length 1 0 ops.length,.int 0]) rfl rfl (by decide) (by simp) (by simp[St.obj,an,bQ]) rfl rfl ?_;simp[St.obj,an,aR,aB,ay,bz,bS,take_of_length_le,bQ,LV.int]
  simp only[go_sem,sA];refine TD func126 (by decide) ad_ rfl rfl rfl ?_;simp only[aew,hcR,go_sem];refine aQ [0,2,9,10,11,YS] [.b 6 0 100 1] (λx:Nat×List (List Int)=>x.1<=rs.length/\ops=x.2++wY (rs.drop x.1) (eM q+x.2.length)/\x.2.length<=x.1) (λx=>rs.length-x.1) (opS n l1 (IntKind.i64.wrap (s+1)) us (CI q) rs (eM q)) (0,[]) ?_ ⟨zero_le _,by simp[A],Nat.le_refl _⟩ ?_
  .simp only[opS,Mk,m,Int.natCast_zero,Int.add_zero,bS,go_sem]
  rintro⟨k,done⟩ ⟨hk,hO,hd⟩;dsimp only at hk hO hd;simp only[opS,Mk,go_sem];by_cases X:k<rs.length;case neg=>
   obtain rfl:k=rs.length:=by omega
   rw[drop_length,show wY [] (eM q+done.length)=[]from rfl,append_nil]at hO;subst hO;simp only[dF ((rs.length:Int)<(rs.length:Int)),go_sem];exact⟨_,_,rfl⟩
  have V:=aG (f:=λb:List Int=>[DV.cM 1 (ax b)]) [] X;rw[show rs.map (λb:List Int=>[DV.cM 1 (ax b)])=bS rs from rfl]at V;rw[qU rs k [] X,yG]at hO;have H:rs.getD k []∈rs:=by rw[getD_eq_getElem?_getD,getElem?_eq_getElem X];exact getElem_mem X
  have hgn:=iD (G:=G) (rs.getD k []) (hro.2.2 _ H).1 (by have:=(hro.2.2 _ H).2;omega) 0 (by omega) _ rfl;have hr0:=hro.2.2 _ H;have abM:=λ(x:Int) (p':Nat) (h:fK (rs.getD k []) 0=some (x,p'))=>gw (λc K=>(hr0.1 c K).1) h
  generalize rs.getD k []=r at *;have hkk:IntKind.i64.wrap ((k:Int)+1)=((k+1:Nat):Int):=wS k;simp only[dT ((k:Int)<(rs.length:Int)),V,go_sem];simp only[ak]at hgn;cases hq1:fK r 0 with
  |none=>rw[hq1]at hgn hO;simp only[Gj,yg,yh,isSome,append_nil]at hgn hO;subst hO;refine a_ hgn ?_;exact⟨_,_,rfl⟩
  |some q1=>
   obtain⟨x,p1⟩:=q1;have S:=abM x p1 hq1;rw[hq1]at hgn hO;simp only[Gj,yg,yh,isSome]at hgn hO;refine a_ hgn ?_;have hbl:(ax r).length=r.length:=au r;by_cases hc1:x<eM q+done.length/\p1<r.length
   .rw [if_pos hc1]at hO;simp only[decide_eq_true hc1.1,hbl,dT ((r.length:Int)>(p1:Int)),go_sem];refine aY (k+1,done) ?_ ?_ ⟨by dsimp only;omega,hO,by dsimp only;omega⟩ (by dsimp only;omega)
    .simp only[mq,go_sem]
    .simp only[opS,Mk,hkk,go_sem]
   rw[if_neg hc1]at hO;by_cases Vg:x≠eM q+done.length\/p1=r.length
   .rw [if_pos Vg,append_nil]at hO;subst hO;by_cases hx1:x<eM q+ops.length
    .have hp1:p1=r.length:=by omega
     simp only[decide_eq_true hx1,hbl,dF ((r.length:Int)>(p1:Int)),show(x !=eM q+ops.length)=true from bne_iff_ne.2 (by omega),go_sem];exact⟨_,_,rfl⟩
    .by_cases hx2:x=eM q+ops.length
     .simp only[decide_eq_false hx1,hbl,show(x !=eM q+ops.length)=false by simp[hx2],show((r.length:Int)==(p1:Int))=true by rw[beq_iff_eq];omega,go_sem];exact⟨_,_,rfl⟩
     .simp only[decide_eq_false hx1,show(x !=eM q+ops.length)=true from bne_iff_ne.2 hx2,go_sem];exact⟨_,_,rfl⟩
   rw[if_neg Vg]at hO;have hx2:x=eM q+done.length:=by omega
   have hp2:p1≠r.length:=by omega
   subst hx2;have hcb:=k_ (G:=G) (r.drop p1) (by rw[length_drop];omega);simp only[ak]at hcb;have c1:p1<=r.length/\r.length<=r.length:=by omega
   have w:(ax (r.drop p1)).take (r.length-p1)=ax (r.drop p1):=take_of_length_le (by rw[au,length_drop];omega);simp only[dF (eM q+(done.length:Int)<eM q+(done.length:Int)),hbl,bne_self_eq_false,show((r.length:Int)==(p1:Int))=false from beq_eq_false_iff_ne.2 (by omega),c1,ga,w,go_sem];refine X5 rfl ?_;simp only[go_sem];refine VT rfl rfl ?_;simp only[go_sem];refine cc hcb ?_;have hdl:(bS done).length=done.length:=by simp[bS]
   have hsn:bS done++[[DV.cM 1 (ax (r.drop p1))]]=bS (done++[r.drop p1]):=by simp[bS]
   have ado:(bS (done++[r.drop p1])).length*24<=70368744177664:=by
    have:(bS (done++[r.drop p1])).length=done.length+1:=by simp[bS]
    omega
   rw[hdl,hsn,if_pos ⟨rfl,ado⟩];simp only[go_sem];refine aD rfl ?_;have w5:IntKind.i64.wrap (eM q+(done.length:Int)+1)=eM q+((done++[r.drop p1]).length:Int):=by rw[aH (by omega) (by omega),length_append,length_cons,length_nil];omega
   simp only[w5,go_sem];refine aY (k+1,done++[r.drop p1]) ?_ ?_ ⟨by dsimp only;omega,by rw[hO];simp[Int.add_assoc],by simp;omega⟩ (by dsimp only;omega)
   .simp only[mq,go_sem]
   .simp only[opS,Mk,hkk,w5,length_append,go_sem]
end
def tQ(c:av):aa->List (List Int)->Option aa
 |s,[]=>some s
 |s,b::bs=>match Dr b with
  |none=>none
  |some o=>if(aW c s o).2=0 then tQ c (aW c s o).1 bs else none
def iB(c:av)(eO:List Int)(l:List (List Int)):Option aa:=if eO.length>0 then(uY c eO).bind λs=>tQ c s l else tQ c (dN c) l
def rdS(c:av)(l:List (List Int))(x:Nat×aa):St:=⟨[(3,.ptr 0 0),(6,.ptr 1 0),(8,.ptr 2 0),(29,.d (.cM 1 (bS l))),(30,.int l.length),(31,.int x.1)],[some (.box 23 [.int c.nodes,.int c.bA,.int c.cF,.int c.gQ,.int c.bD,.int c.ej,.int c.deadline,.int c.room,.int c.fT]),some (.box 34 [.d (.val (.slice none 0 0)),.d (.val (.slice none 0 0)),.int 0,.int 0,.int 0,.int 0]),some (iY x.2)]⟩
def Qy(c:av)(eO:List Int)(l:List (List Int))(O:∀x∈eO,0<=x/\x<=255)(t:eO.length<=1000000)(Z:∀b∈l,(∀x∈b,0<=x/\x<=255)/\b.length<=1000000)(B:l.length<=1000000):aS ck 48 [eD c,ak eO,.d (.cM 1 (bS l))] [] (lY (iB c eO l)) []:=by
 have D:=F7 (G:=ck) c;have V:=Ns (G:=ck) c eO O t;have e:(bS l).length=l.length:=by simp[bS]
 simp only[ak]at V;refine tW func48 ?_;simp only[ak,go_sem];refine a_ D ?_;simp only[au,e,go_sem];obtain⟨R,K⟩:∃R,iB c eO l=R:=⟨_,rfl⟩;rw[K];unfold iB at K;by_cases S:0<eO.length;case' pos=>
  rw[if_pos S]at K;simp only[dT ((eO.length:Int)>0),go_sem];cases a:uY c eO with
  |none=>rw[a]at V K;simp only[lY,Option.getD,isSome,aU,yS]at V;refine a_ V ?_;subst K;exact dP [] rfl (by simp) (by simp[aR,aB,ay,lY,aU,yS,bH,qM,LV.int,LV.bool,St.get,aN])
  |some h=>?_
  rw[a]at V K;simp only[Option.bind]at K;simp only[lY,Option.getD,isSome,aU]at V;refine a_ V ?_
 case' neg=>rw[if_neg S]at K;simp only[dF ((eO.length:Int)>0),go_sem];obtain⟨h,J⟩:∃h,dN c=h:=⟨_,rfl⟩;rw[J]at K ⊢
 all_goals
  refine aQ [3,6,8,29,30,31] [] (λx:Nat×aa=>x.1<=l.length/\tQ c x.2 (l.drop x.1)=R) (λx=>l.length-x.1) (rdS c l) (0,h) ?_ ⟨zero_le _,K⟩ ?_
  .simp only[rdS,iY,e,Int.natCast_zero,go_sem]
  rintro⟨k,s⟩ ⟨hk,q⟩;dsimp only at hk q;simp only[rdS,iY,go_sem];by_cases X:k<l.length;case neg=>
   obtain rfl:k=l.length:=by omega
   rw[drop_length]at q;unfold tQ at q;subst q;simp only[dF ((l.length:Int)<(l.length:Int)),go_sem];exact dP [] rfl (by simp) (by simp[aR,aB,ay,lY,aU,yS,bH,qM,LV.int,LV.bool,St.get,aN])
  have V:=aG (f:=λb:List Int=>[DV.cM 1 (ax b)]) [] X;rw[show l.map (λb:List Int=>[DV.cM 1 (ax b)])=bS l from rfl]at V;rw[qU l k [] X]at q;have H:l.getD k []∈l:=by rw[getD_eq_getElem?_getD,getElem?_eq_getElem X];exact getElem_mem X
  have j:=HW (l.getD k []) (Z _ H).1 (Z _ H).2;generalize l.getD k []=b at *;simp only[ak]at j;simp only[dT ((k:Int)<(l.length:Int)),V,go_sem];have m:=q;unfold tQ at m;cases E:Dr b with
  |none=>rw[E]at j m;simp only at m;subst m;simp only[MU,Option.getD,isSome,qD,fW]at j;refine a_ j ?_;exact dP [] rfl (by simp) (by simp[aR,aB,ay,lY,aU,yS,bH,qM,LV.int,LV.bool,St.get,aN])
  |some o=>
   rw[E]at j m;simp only at m;simp only[MU,Option.getD,isSome,qD]at j;refine a_ j ?_;have U:=yM c s o;simp only[aU,qD]at U;refine a_ U ?_;by_cases v:(aW c s o).2=0
   .rw [if_pos v]at m;simp only[v,bne_self_eq_false,go_sem];refine aY (k+1,(aW c s o).1) ?_ ?_ ⟨by dsimp only;omega,m⟩ (by dsimp only;omega)
    .simp only[go_sem]
    .simp only[rdS,iY,wS k,go_sem]
   .rw [if_neg v]at m;subst m;simp only[show((aW c s o).2 !=0)=true from bne_iff_ne.2 v,go_sem];exact dP [] rfl (by simp) (by simp[aR,aB,ay,lY,aU,yS,bH,qM,LV.int,LV.bool,St.get,aN])
def gm(l:List Int)(n:Nat)(s:Int):gP:=if Pe l n=true then⟨n,br (lV l n) (2*(n / 4)) (replicate (n-2*(n / 4)) 0),IntKind.i64.wrap (IntKind.i64.wrap (s+1)+1),eM (jN l n)+(nG l n).length,CI (jN l n),0⟩else⟨n,lV l n,IntKind.i64.wrap (s+1),eM (jN l n)+(nG l n).length,CI (jN l n),(jk l (2*(n / 4)) (n-2*(n / 4))).2⟩
def jP(j:gP):List ah:=ZW j.n j.l j.s j.cnt j.cA j.us
def KR(l:List Int)(n:Nat)(s:Int):(gm l n s).n=n:=by unfold gm;split<;>rfl
def Ew{G:tY}(n:Nat)(l:List Int)(s:Int)(D:64<=n/\n<=65536)(Z:l.length=n)(T:aT l):aS G 39 [.ptr 0 0] (wO l s) (.cZ [.ptr 2 0,ak (nC (jN l n)),.d (.cM 1 (bS (nG l n))),.int 0]) (jP (gm l n s)):=by
 have h:=PB (G:=G) n l s D Z T _ _ _ _ _ _ rfl rfl rfl rfl rfl rfl;unfold jP gm Pe;by_cases J:Gy (zW l n) (eM (jN l n))=true
 .rw [if_pos J];rw[if_pos (show Gy (zW l n) (eM (fR (lV l n) 0 (n / 4)))=true from J)]at h;exact h
 .rw [if_neg J];rw[if_neg (show¬Gy (zW l n) (eM (fR (lV l n) 0 (n / 4)))=true from J)]at h;exact h
def MX{l:List Int}{n:Nat}(Z:l.length=n)(T:aT l):(lV l n).length=n/\aT (lV l n):=by have c:=(Ak T (fr:=2*(n / 4)) (sz:=n-2*(n / 4)) (by omega)).1;refine⟨?_,kT T (jS _)⟩;unfold lV;rw[dD (by rw[length_replicate];omega),Z]
def MY{l:List Int}{n:Nat}(s:Int)(D:64<=n/\n<=65536)(Z:l.length=n)(T:aT l):xI (gm l n s):=by
 have c:=(Ak T (fr:=2*(n / 4)) (sz:=n-2*(n / 4)) (by omega)).1;obtain⟨U,h2⟩:=MX Z T;unfold gm;split
 .exact ⟨by show(br _ _ _).length=n;rw[dD (by rw[length_replicate];omega),U],D,kT h2 (jS _),zero_le _⟩
 .exact ⟨U,D,h2,c⟩
def MV{l:List Int}{n:Nat}(Z:l.length=n)(T:aT l):aT (nC (jN l n))/\(nC (jN l n)).length<=n:=by
 obtain⟨U,h2⟩:=MX Z T;unfold jN fR;split
 .exact ⟨λc K=>(by cases K),zero_le _⟩
 .generalize (nJ (lV l n) 0 (n / 4) 2).1.toNat=k;have hs:∀c∈eL (lV l n) 0 (n / 4) k,c∈lV l n:=λc K=>mem_of_mem_drop (mem_of_mem_take K)
  have V:=sK (eL (lV l n) 0 (n / 4) k) 0;have S:(eL (lV l n) 0 (n / 4) k).length<=n:=by unfold eL;rw[length_take,length_drop];omega
  unfold jq;split
  .cases fK (cT (eL (lV l n) 0 (n / 4) k) 0).1 0 with
   |none=>exact⟨λc K=>(by cases K),zero_le _⟩
   |some q=>refine⟨λc K=>h2 c (hs c (V.1 c (mem_of_mem_drop K))),?_⟩;show(drop q.2 _).length<=n;rw[length_drop];omega
  .exact ⟨λc K=>(by cases K),zero_le _⟩
def Gv:∀(rs:List (List Int)) (a:Int),(∀r∈rs,aT r/\r.length<=4000)->∀b∈wY rs a,aT b/\b.length<=4000
 |[],_,_,b,T=>by cases T
 |r::rs,a,h,b,T=>by
  rw[yG]at T;cases E:fK r 0 with
  |none=>rw[E]at T;cases T
  |some q=>
   rw[E]at T;dsimp only at T;split at T
   .exact Gv rs a (λx S=>h x (mem_cons_of_mem _ S)) b T
   split at T
   .cases T
   rcases mem_cons.1 T with rfl|T
   .have:=h r (mem_cons_self ..);exact⟨λc K=>this.1 c (mem_of_mem_drop K),by rw[length_drop];omega⟩
   .exact Gv rs (a+1) (λx S=>h x (mem_cons_of_mem _ S)) b T
def MW{l:List Int}{n:Nat}(Z:l.length=n)(T:aT l):(∀b∈nG l n,aT b/\b.length<=4000)/\(nG l n).length<=n:=by have c:=Ak T (fr:=2*(n / 4)) (sz:=n-2*(n / 4)) (by omega);refine⟨Gv _ _ c.2.2,?_⟩;have:=wX (zW l n) (eM (jN l n));have h2:=c.2.1;unfold nG;unfold zW at *;omega
def vq{c:av} : ∀(l:List (List Int)) (s:aa) {t:aa},bU c s->tQ c s l=some t->bU c t
 |[],s,t,h,u=>by cases u;exact h
 |b::bs,s,t,h,u=>by
  unfold tQ at u;cases E:Dr b with
  |none=>rw[E]at u;cases u
  |some o=>
   rw[E]at u;dsimp only at u;split at u
   .exact vq bs _ (zM h o) u
   .cases u
def LG{c:av}{b:List Int}{s:aa}(h:uY c b=some s):bU c s:=by
 unfold uY at h;split at h
 .cases h
 split at h
 .split at h
  .cases h
  split at h
  .rename_i hr;cases h;exact(eG _ _).1 hr
  .cases h
 .cases h
def zb{c:av}(H:gq c=true){eO:List Int}{l:List (List Int)}{t:aa}(h:iB c eO l=some t):bU c t:=by
 unfold iB at h;split at h
 .cases V:uY c eO with
  |none=>rw[V]at h;cases h
  |some s=>rw[V]at h;exact vq l s (LG V) h
 .exact vq l _ (qI H) h
def eX(c:av)(j:gP)(room term:Int)(sh:List eE)(wr now:Int)(st:aa):aF:=⟨c,st,j,room,term,sh,wr,replicate st.nodes.length (Lb now),false,0⟩
def BT(sh:List eE)(k:Nat)(j:bT):List eE:=if j.phase=4 then sh.set (k+1) gU else if j.epoch≠0 then sh.set (k+1) (iU (sh.getD (k+1) gU) j.epoch)else sh
def kZ(jobs:List bT)(sh:List eE):Nat->List eE
 |0=>sh
 |k+1=>BT (kZ jobs sh k) k (jobs.getD k az)
def PC(sh:List eE)(k:Nat)(j:bT):(BT sh k j).length=sh.length:=by
 unfold BT;split
 .simp
 .split<;>simp
def uS(jobs:List bT)(sh:List eE):∀k,(kZ jobs sh k).length=sh.length
 |0=>rfl
 |k+1=>by rw[kZ,PC,uS jobs sh k]
def aF.Jp(y:aF):aF:={ y with term:=if y.s.term>y.term then y.s.term else y.term,sh:=kZ y.s.jobs y.sh y.s.jobs.length }
def wE:LV:=.d (.val (.pointer none))
def ND(c:av)(l:List Int)(n:Nat)(s room term:Int)(sh:List eE)(wr now:Int):LV×List ah:=match iB c (nC (jN l n)) (nG l n)with
 |none=>(.cZ [wE,.int 2],wO (gm l n s).l (gm l n s).s++eF room term sh wr)
 |some st=>if(eX c (gm l n s) room term sh wr now st).dc bL=0 then(.cZ [.ptr 3 0,.int 0],uq ((eX c (gm l n s) room term sh wr now st).bC bL now).Jp)else(.cZ [wE,.int ((eX c (gm l n s) room term sh wr now st).dc bL)],wO ((eX c (gm l n s) room term sh wr now st).bC bL now).j.l ((eX c (gm l n s) room term sh wr now st).bC bL now).j.s++eF room term sh wr)
def Jo{c:av}{j:gP}{room term:Int}{sh:List eE}{wr now:Int}{st:aa}(hr:bU c st)(hj:xI j)(hs:sh.length=25):CL (eX c j room term sh wr now st):=⟨hr,hj,hs,length_replicate⟩
def Vh(c:av):ah:=.box 23 [.int c.nodes,.int c.bA,.int c.cF,.int c.gQ,.int c.bD,.int c.ej,.int c.deadline,.int c.room,.int c.fT]
def btS(c:av)(j:gP)(room term:Int)(sh:List eE)(wr now:Int)(st:aa)(k:Nat):St:=⟨[(1,.ptr 0 0),(2,.ptr 2 0),(3,.int now),(16,.ptr 8 0),(62,.int st.nodes.length),(63,.int k)],
 [some (.box 123 [.sl 1 j.n 1 0 j.n,.d (.val (.slice none 0 0)),.int j.s]),some (.dat 5 1 (ax j.l)),some (.box 119 (.int room::.int term::(sh.flatMap Nq++[.int wr]))),some (Vh c),
  some (.box 155 [.ptr 0 0,.ptr 5 0,.ptr 6 0,.int j.cnt,.int j.cA]),some (.box 216 [.ptr 0 0,.int 0,.int ((j.n / 4:Nat):Int)]),some (.box 218 [.ptr 0 0,.int ((2*(j.n / 4):Nat):Int),.int ((j.n-2*(j.n / 4):Nat):Int),.int j.us]),
  some (iY st),
  some (.box 128 [.int c.nodes,.int c.bA,.int c.cF,.int c.gQ,.int c.bD,.int c.ej,.int c.deadline,.int c.room,.int c.fT,.ptr 0 0,.ptr 4 0,.ptr 2 0,bH st.nodes,qM st.jobs,.int st.goal,.int st.prior,.int st.mode,.int st.term,.sl 9 k 26 0 k,.bool false,.int 0]),
  some (aL (replicate k (Lb now)))]⟩
def btT(c:av)(st:aa)(y:aF)(k:Nat):St:=⟨[(2,.ptr 2 0),(16,.ptr 8 0),(95,qM y.s.jobs),(96,.int y.s.jobs.length),(97,.int k)],
 [some (.box 123 [.sl 1 y.j.n 1 0 y.j.n,.d (.val (.slice none 0 0)),.int y.j.s]),some (.dat 5 1 (ax y.j.l)),some (.box 119 (.int y.room::.int (if y.s.term>y.term then y.s.term else y.term)::((kZ y.s.jobs y.sh k).flatMap Nq++[.int y.wr]))),some (Vh c),
  some (.box 155 [.ptr 0 0,.ptr 5 0,.ptr 6 0,.int y.j.cnt,.int y.j.cA]),some (.box 216 [.ptr 0 0,.int 0,.int ((y.j.n / 4:Nat):Int)]),some (.box 218 [.ptr 0 0,.int ((2*(y.j.n / 4):Nat):Int),.int ((y.j.n-2*(y.j.n / 4):Nat):Int),.int y.j.us]),
  some (iY st),
  some (.box 128 [.int y.c.nodes,.int y.c.bA,.int y.c.cF,.int y.c.gQ,.int y.c.bD,.int y.c.ej,.int y.c.deadline,.int y.c.room,.int y.c.fT,.ptr 0 0,.ptr 4 0,.ptr 2 0,bH y.s.nodes,qM y.s.jobs,.int y.s.goal,.int y.s.prior,.int y.s.mode,.int y.s.term,.sl 9 y.lines.length 26 0 y.lines.length,.bool y.down,.int y.dM]),
  some (aL y.lines)]⟩
def UK(c:av)(H:gq c=true)(n:Nat)(D:64<=n/\n<=65536)(l:List Int)(Z:l.length=n)(T:aT l)(s room term:Int)(sh:List eE)(hs:sh.length=25)(wr now:Int)(K:0<=now/\now<=1000000):aS ck 28 [eD c,.ptr 0 0,.ptr 2 0,.int now] (wO l s++eF room term sh wr) (ND c l n s room term sh wr now).1 (ND c l n s room term sh wr now).2:=by
 have hmay:=wH (G:=ck) c;rw[H]at hmay;have u:=iS (G:=ck) l s;have Rh:=AQ (G:=ck) now;rw[decide_eq_true K]at Rh;have A:=Ew (G:=ck) n l s D Z T;have E:=MV Z T;have O:=MW Z T;have x:=Qy c (nC (jN l n)) (nG l n) E.1 (by omega) (λb h=>⟨(O.1 b h).1,by have:=(O.1 b h).2;omega⟩) (by omega);have hrr:=λt (h:iB c (nC (jN l n)) (nG l n)=some t)=>zb H h
 have hj:=MY s D Z T;have r:=KR l n s;unfold ND;generalize iB c (nC (jN l n)) (nG l n)=R at *;generalize gm l n s=j at *;generalize nC (jN l n)=eO at *;generalize nG l n=ops at *;clear E O;subst r;have hjl:=hj.len;have w:R=none\/∃st,R=some st:=by cases R<;>simp
 simp only[wO,Z]at u A;simp only[jP,ZW,ak]at A;simp only[ak]at x;refine tW func28 ?_;simp only[wO,eF,Z,hjl,go_sem,sA];refine a_ hmay ?_;refine bJ [0,1] u ?_;simp only[dF ((j.n:Int)<64),go_sem];refine a_ Rh ?_;refine bJ [0,1] A ?_;rcases w with rfl|⟨st,rfl⟩
 .simp only[lY,Option.getD,isSome,aU,yS]at x;refine a_ x ?_;exact ue [] [0,1,2] [] (vs:=[wE,.int 2]) rfl rfl (by decide) (by simp) (by simp) (by simp only[map_cons,map_nil,bP,kC,gF,kQ];rfl) (by simp only[all_cons,all_nil,aP,bn,bV,eB,gV];rfl) (by simp[aR,aB,ay,wE,LV.int])
 have hr:=hrr st rfl;have S:=Jo (room:=room) (term:=term) (wr:=wr) (now:=now) hr hj hs;have YR:=wz _ S bL now;have m:=S.note bL now;have r:=F4 (eX c j room term sh wr now st) bL now;have J:st.nodes.length<=6:=hr.len.2;have hnX:(eX c j room term sh wr now st).dc bL≠0->((eX c j room term sh wr now st).bC bL now).sh=sh/\((eX c j room term sh wr now st).bC bL now).room=room/\((eX c j room term sh wr now st).bC bL now).term=term/\((eX c j room term sh wr now st).bC bL now).wr=wr:=λh=>by unfold aF.bC;rw[if_neg h];exact⟨rfl,rfl,rfl,rfl⟩
 dsimp only;generalize hy:(eX c j room term sh wr now st).bC bL now=y at *;generalize(eX c j room term sh wr now st).dc bL=e at *;have hfe:=rQ (G:=ck) y.room y.term y.sh y.wr y.s.term;simp only[lY,Option.getD,isSome,aU]at x;refine a_ x ?_;simp only[eX]at r;simp only[bX,dR,aL,eX,r,bL,length_replicate,sA]at YR;simp only[eF,sA]at hfe;refine aQ [1,2,3,16,62,63] [.b 8 18 130 26] (λk:Nat=>k<=st.nodes.length) (λk=>st.nodes.length-k) (btS c j room term sh wr now st) 0 ?_ (zero_le _) (λk hk=>?_)
 .simp only[btS,Vh,iY,aL,replicate_zero,Int.natCast_zero,go_sem]
 simp only[btS,Vh,iY,aL,go_sem];by_cases X:k<st.nodes.length
 .have Gk:(replicate (k+1) (Lb now)).map oz=(replicate k (Lb now)).map oz++[oz (Lb now)]:=by rw[replicate_succ',map_append];rfl
  simp only[dT ((k:Int)<(st.nodes.length:Int)),go_sem];have o:oz (Lb now)=[i64 0,bl false,i64 0,i64 0,i64 0,i64 0,i64 0,i64 0,i64 0,i64 0,i64 0,i64 0,i64 0,i64 0,i64 now,i64 0,i64 0,i64 0,i64 0,i64 0,i64 0,i64 0,i64 0,i64 0,i64 0,i64 0]:=rfl;have c1:(k+1)*208<=70368744177664:=by omega
  simp only[length_append,length_replicate,c1,go_sem];refine aY (k+1) ?_ ?_ (show k+1<=st.nodes.length by omega) (show st.nodes.length-(k+1)<st.nodes.length-k by omega)
  .simp only[go_sem]
  .simp only[wS k,Gk,o,length_replicate,length_append,btS,Vh,iY,aL,go_sem,sA]
 obtain rfl:k=st.nodes.length:=by omega
 simp only[dF ((st.nodes.length:Int)<(st.nodes.length:Int)),go_sem];refine dz [8,4,0,5,6,1,2,9] YR rfl ?_ (by decide) ?_ ?_ (by simp) ?_<;>simp only[ay,aB,go_sem,length_replicate]
 by_cases v:e=0;case neg=>obtain⟨g1,g2,g3,g4⟩:=hnX v;have Z6:=m.jn.len;simp only[show(e !=0)=true from bne_iff_ne.2 v,if_neg v,g1,g2,g3,g4,wO,eF,Z6,r,go_sem,sA];exact ue [] [0,1,2] [] (vs:=[wE,.int e]) rfl rfl (by decide) (by simp) (by simp) (by simp only[map_cons,map_nil,bP,kC,gF,kQ];rfl) (by simp only[all_cons,all_nil,aP,bn,bV,eB,gV];rfl) (by simp[aR,aB,ay,wE,LV.int])
 subst v;simp only[bne_self_eq_false,go_sem];refine bJ [2] hfe ?_;have hyr:=m.right;have hjb:=hyr.jobs;have hys:=m.sh;refine aQ [2,16,95,96,97] [] (λk:Nat=>k<=y.s.jobs.length) (λk=>y.s.jobs.length-k) (btT c st y) 0 ?_ (zero_le _) (λk hk=>?_)
 .simp only[btT,Vh,iY,aL,kZ,r,Int.natCast_zero,go_sem]
 simp only[btT,Vh,iY,aL,go_sem];by_cases X:k<y.s.jobs.length;case neg=>
  obtain rfl:k=y.s.jobs.length:=by omega
  simp only[dF ((y.s.jobs.length:Int)<(y.s.jobs.length:Int)),go_sem];have hid:=EY 8 (Nat.le_refl 8) y.Jp;simp only[aF.Jp,uq,ET,aL,bH,qM,LV.int,LV.bool]at hid ⊢;refine ue [] [0,1,2,8,9,4,5,6] [] (vs:=[.ptr 8 0,.int 0]) rfl rfl (by decide) (by simp) (by simp) ?_ hid ?_
  .simp only[map_cons,map_nil,bP,kC,gF,kQ];rfl
  simp[aR,aB,ay,LV.int,LV.bool]
 have V:=aG (f:=dH) az X;have hjs:kZ y.s.jobs y.sh (k+1)=BT (kZ y.s.jobs y.sh k) k (y.s.jobs.getD k az):=rfl;have hep:=(hyr.num k X).epoch;have Z8:(kZ y.s.jobs y.sh k).length=25:=by rw[uS,hys]
 generalize E:kZ y.s.jobs y.sh k=sk at *;have adl:0<=(y.s.jobs.getD k az).epoch:=hep.1;clear hep;generalize y.s.jobs.getD k az=jb at *;obtain⟨q0,a,q2,q3,q4,q5,ph,q7,q8,q9,q10,U⟩:=jb;dsimp only at adl;have B:=wS k;have hend:=vK (G:=ck) y.room (if y.s.term>y.term then y.s.term else y.term) sk y.wr (k+1) (by omega) Z8;simp only[dH]at V;simp only[eF,sA]at hend;unfold BT at hjs;simp only[dT ((k:Int)<(y.s.jobs.length:Int)),V,go_sem];by_cases q:ph=4
 .subst q;rw[if_pos rfl]at hjs;simp only[B,go_sem];refine bJ [2] hend ?_;refine aY (k+1) ?_ ?_ (show k+1<=y.s.jobs.length by omega) (show y.s.jobs.length-(k+1)<y.s.jobs.length-k by omega)
  .simp only[go_sem]
  .simp only[btT,Vh,iY,aL,hjs,B,go_sem]
 rw[if_neg q]at hjs;by_cases h0:U=0
 .subst h0;rw[if_neg (by simp)]at hjs;simp only[show(ph==4)=false from beq_eq_false_iff_ne.2 q,go_sem];refine aY (k+1) ?_ ?_ (show k+1<=y.s.jobs.length by omega) (show y.s.jobs.length-(k+1)<y.s.jobs.length-k by omega)
  .simp only[go_sem]
  .simp only[btT,Vh,iY,aL,hjs,B,go_sem]
 .rw [if_pos h0]at hjs;have hcm:=qZ (G:=ck) y.room (if y.s.term>y.term then y.s.term else y.term) sk y.wr (k+1) (by omega) Z8 U (by omega) _ rfl;simp only[eF,sA]at hcm;simp only[show(ph==4)=false from beq_eq_false_iff_ne.2 q,show(U !=0)=true from bne_iff_ne.2 h0,B,go_sem];refine bJ [2] hcm ?_;refine aY (k+1) ?_ ?_ (show k+1<=y.s.jobs.length by omega) (show y.s.jobs.length-(k+1)<y.s.jobs.length-k by omega)
  .simp only[go_sem]
  .simp only[btT,Vh,iY,aL,hjs,B,go_sem]
section
def aeP:Nat×C×List RV:=(53,
(.seq (.mj [qo 5 (.box 34 (.t 0)),
 qo 10 (.mv qf)])
 (.seq (.mj [qm 12 1,
 qm 13 2,
 qo 14 (.call (.f 249) [(.t 12),(.t 13)]),
 qo 11 (.new 94 [q0,q0,q0,q0,q0,q0,q0,q0,q0,q0,q0]),
 qn (.st 11 (.t 11) (.t 14))])
 (.seq (.mK [qo 15 (.B0 1 (.t 11)),
 qd 16 (.ld1 (.t 15)) [0],
 qd 17 (.bin .eql (.t 16) (qk 6)) [1,0],
 qd 18 (.mv (.t 17)) [2,1,0],
 qe 19 (.mv (.t 4)) 18 true [3,2,1,0],
 qe 20 (.bin .geq (.t 19) (qk 1)) 18 true [4,3,2,1,0],
 qd 21 (.pick (.t 18) (.t 20) qf) [3,2,1,0,5,4],
 qd 22 (.mv (.t 21)) [6,3,2,1,0,5,4],
 qe 23 (.mv (.t 4)) 22 true [7,6,3,2,1,0,5,4],
 qe 24 (.B0 1 (.t 5)) 22 true [7,6,3,2,1,0,5,4],
 qe 25 (.ld1 (.t 24)) 22 true [9,7,6,3,2,1,0,5,4],
 qe 26 (.len (.t 25)) 22 true [10,9,7,6,3,2,1,0,5,4],
 qe 27 (.bin .leq (.t 23) (.t 26)) 22 true [8,7,6,3,2,1,0,5,4,11,10,9],
 qd 28 (.pick (.t 22) (.t 27) qf) [7,6,3,2,1,0,5,4,12,8,11,10,9],
 qd 29 (.mv (.t 28)) [13,7,6,3,2,1,0,5,4,12,8,11,10,9],
 qe 30 (.B0 9 (.t 11)) 29 true [14,13,7,6,3,2,1,0,5,4,12,8,11,10,9],
 qe 31 (.ld1 (.t 30)) 29 true [15,14,13,7,6,3,2,1,0,5,4,12,8,11,10,9],
 qe 32 (.mv (.t 3)) 29 true [14,13,7,6,3,2,1,0,5,4,12,8,11,10,9],
 qe 33 (.bin .eql (.t 31) (.t 32)) 29 true [16,15,14,13,7,6,3,2,1,0,5,4,12,8,11,10,9,17],
 qd 34 (.pick (.t 29) (.t 33) qf) [14,13,7,6,3,2,1,0,5,4,12,8,11,10,9,18,16,15,17],
 qd 35 (.mv (.t 34)) [19,14,13,7,6,3,2,1,0,5,4,12,8,11,10,9,18,16,15,17],
 qe 36 (.B0 4 (.t 11)) 35 true [20,19,14,13,7,6,3,2,1,0,5,4,12,8,11,10,9,18,16,15,17],
 qe 37 (.ld1 (.t 36)) 35 true [21,20,19,14,13,7,6,3,2,1,0,5,4,12,8,11,10,9,18,16,15,17],
 qe 38 (.mv (.t 4)) 35 true [20,19,14,13,7,6,3,2,1,0,5,4,12,8,11,10,9,18,16,15,17],
 qe 39 (.bin .eql (.t 37) (.t 38)) 35 true [22,21,20,19,14,13,7,6,3,2,1,0,5,4,12,8,11,10,9,18,16,15,17,23],
 qd 40 (.pick (.t 35) (.t 39) qf) [20,19,14,13,7,6,3,2,1,0,5,4,12,8,11,10,9,18,16,15,17,24,22,21,23],
 qd 41 (.mv (.t 40)) [25,20,19,14,13,7,6,3,2,1,0,5,4,12,8,11,10,9,18,16,15,17,24,22,21,23],
 qe 42 (.B0 5 (.t 11)) 41 true [26,25,20,19,14,13,7,6,3,2,1,0,5,4,12,8,11,10,9,18,16,15,17,24,22,21,23],
 qe 43 (.ld1 (.t 42)) 41 true [27,26,25,20,19,14,13,7,6,3,2,1,0,5,4,12,8,11,10,9,18,16,15,17,24,22,21,23],
 qe 44 (.B0 1 (.t 5)) 41 true [26,25,20,19,14,13,7,6,3,2,1,0,5,4,12,8,11,10,9,18,16,15,17,24,22,21,23],
 qe 45 (.ld1 (.t 44)) 41 true [29,26,25,20,19,14,13,7,6,3,2,1,0,5,4,12,8,11,10,9,18,16,15,17,24,22,21,23],
 qe 46 (.mv (.t 4)) 41 true [26,25,20,19,14,13,7,6,3,2,1,0,5,4,12,8,11,10,9,18,16,15,17,24,22,21,23],
 qe 47 (.bin .sub (.t 46) (qk 1)) 41 true [31,26,25,20,19,14,13,7,6,3,2,1,0,5,4,12,8,11,10,9,18,16,15,17,24,22,21,23],
 qe 48 (.BU 12 (.t 45) (.t 47)) 41 true [30,29,26,25,20,19,14,13,7,6,3,2,1,0,5,4,12,8,11,10,9,18,16,15,17,24,22,21,23,32,31],
 qe 49 (.B0 7 (.t 48)) 41 true [33,30,29,26,25,20,19,14,13,7,6,3,2,1,0,5,4,12,8,11,10,9,18,16,15,17,24,22,21,23,32,31],
 qe 50 (.ld1 (.t 49)) 41 true [34,33,30,29,26,25,20,19,14,13,7,6,3,2,1,0,5,4,12,8,11,10,9,18,16,15,17,24,22,21,23,32,31],
 qe 51 (.bin .eql (.t 43) (.t 50)) 41 true [28,27,26,25,20,19,14,13,7,6,3,2,1,0,5,4,12,8,11,10,9,18,16,15,17,24,22,21,23,35,34,33,30,29,32,31],
 qd 52 (.pick (.t 41) (.t 51) qf) [26,25,20,19,14,13,7,6,3,2,1,0,5,4,12,8,11,10,9,18,16,15,17,24,22,21,23,36,28,27,35,34,33,30,29,32,31],
 qd 10 (.mv (.t 52)) [37,26,25,20,19,14,13,7,6,3,2,1,0,5,4,12,8,11,10,9,18,16,15,17,24,22,21,23,36,28,27,35,34,33,30,29,32,31]])
 .ret))),
[(.t 10)])
def aeA:bM prog f253=some aeP:=by kernel_rfl
def aeQ:=qx f252
def aeB:bM prog f252=some aeQ:=by kernel_rfl
def uH(r:List bE)(i:Int):aS G 249 [Nh r,.int i] [] (fG (gW r i)) []:=by
 have V:i.toNat<r.length->(r.map jQ)[i.toNat]? = some (jQ (r.getD i.toNat lz)):=λh=>aG (f:=jQ) lz h
 unfold gW;generalize r.getD i.toNat lz=m at *;refine iL func249 ?_;cases U:decide (i<0)with
 |true=>have x:i<0:=of_decide_eq_true U;simp only[x,go_sem]
 |false=>
 have x:¬i<0:=of_decide_eq_false U;simp only[x,false_or,go_sem];cases h2:decide (i>=(r.length:Int))with
 |true=>have b:(r.length:Int)<=i:=of_decide_eq_true h2;simp only[b,go_sem]
 |false=>
 have b:¬(r.length:Int)<=i:=of_decide_eq_false h2;have h0:0<=i:=by omega
 have V:=V (by omega);rw[if_neg b];simp only[h0,b,V,go_sem];cases B:(m.kind !=6)with
 |true=>
  have q:¬m.kind=6:=by simpa using B
  rw[if_neg q];simp only[go_sem]
 |false=>
  have q:m.kind=6:=by simpa using B
  rw[if_pos q];simp only[h0,b,V,go_sem]
def TJ(m:bE):aS G 250 [fG m] [] (.bool (Nn m)) []:=by refine iL func250 ?_;unfold Nn;repeat' (first|((first|with_reducible refine BZ (λh=>?_) (λh=>?_)|refine dK (λh=>?_) (λh=>?_))<;>simp only[h,go_sem])|((first|with_reducible refine CO (λh=>?_) (λh=>?_)|refine iV (λh=>?_) (λh=>?_))<;>simp only[h,go_sem]))
def Sb(s:aa)(r:List bE)(node mode aM:Int)(Z:s.jobs.length<=1000):aS G 253 [aU s,Nh r,.int node,.int mode,.int aM] [] (.bool (mA s r node mode aM)) []:=by
 unfold mA;have V:(aM-1).toNat<s.jobs.length->(s.jobs.map dH)[(aM-1).toNat]? = some (dH (s.jobs.getD (aM-1).toNat az)):=λh=>aG (f:=dH) az h
 generalize s.jobs.getD (aM-1).toNat az=j at *;refine xS func253 (by decide) aeA rfl rfl ?_;simp only[aeP,go_sem];refine a_ (uH r node) ?_;generalize gW r node=m at *;cases U:(m.kind==6)<;>simp only[U,go_sem]
 cases h2:decide (aM>=1)with
 |false=>simp only[h2,show decide (1<=aM)=false from h2,go_sem]
 |true=>
 simp only[h2,show decide (1<=aM)=true from h2,go_sem];cases B:decide (aM<=(s.jobs.length:Int))<;>simp only[B,go_sem]
 cases y:(m.mode==mode)<;>simp only[y,go_sem]
 cases A:(m.aM==aM)<;>simp only[A,go_sem]
 have b:1<=aM:=of_decide_eq_true h2;have q:aM<=s.jobs.length:=of_decide_eq_true B;have n:0<=aM-1:=by omega
 have S:IntKind.i64.wrap (aM-1)=aM-1:=aH (by omega) (by omega);have V:=V (by omega);simp only[S,V,n,go_sem]
def jV(s:aa):ah:=.box 34 [bH s.nodes,qM s.jobs,.int s.goal,.int s.prior,.int s.mode,.int s.term]
def rB(r:List bE):ah:=.box 40 [Nh r]
def sF(x:Int):ah:=.box 3 [.int x]
def y_:ah:=.box 302 [.fn (.func 251) [] [.ptr 0 0,.ptr 1 0,.ptr 2 0]]
def TB(j:bT):ah:=.box 54 [.int j.queue,.int j.prio,.int j.min,.int j.max,.int j.work,.int j.pin,.int j.phase,.int j.inc,.int j.nodes,.int j.since,.int j.til,.int j.epoch]
attribute [local go_sem] jV rB sF y_ TB
def qq(s:aa)(r:List bE)(node mode aM:Int)(Z:s.jobs.length<=1000) :
  aS G 252 [.int node,.ptr 0 0,.ptr 1 0,.ptr 3 0,.ptr 2 0] [jV s,rB r,sF aM,sF mode] (.bool (mA s r node mode aM)) [jV s,rB r,sF aM,sF mode]:=by
 refine FB func252 (by decide) aeB rfl rfl rfl rfl ?_;simp only[aeQ,go_sem];refine a_ (Sb s r node mode aM Z) trivial
def tj(s:aa)(r:List bE)(mode aM:Int) :
  aS G 251 [.int mode,.ptr 0 0,.ptr 1 0,.ptr 2 0] [jV s,rB r,sF aM] (.fn (.func 252) [] [.ptr 0 0,.ptr 1 0,.ptr 3 0,.ptr 2 0]) [jV s,rB r,sF aM,sF mode]:=by
 refine uW func251 ?_;refine ue [] [0,1,2,3] [] rfl rfl (by decide) (by simp) (by simp) rfl rfl ?_;show aB _ _ _ (.fn (.func 252) [] [.ptr 0 0,.ptr 1 0,.ptr 3 0,.ptr 2 0]) _;simp[aB,ay]
def Qf(s:aa)(r:List bE)(node aM:Int)(Z:s.jobs.length<=1000) :
  aS G 255 [.int node,.ptr 3 0] [jV s,rB r,sF aM,y_] (.bool (mA s r node 1 aM||mA s r node 2 aM)) [jV s,rB r,sF aM,y_]:=by
 refine oO func255 rfl ?_;refine bJ [0,1,2] (tj s r 1 aM) ?_;refine bJ [0,1,2,4] (qq s r node 1 aM Z) ?_;cases U:mA s r node 1 aM with
 |true=>simp only[go_sem]
 |false=>
 simp only[go_sem];refine bJ [0,1,2] (tj s r 2 aM) ?_;refine bJ [0,1,2,5] (qq s r node 2 aM Z) trivial
def Qe(s:aa)(r:List bE)(node aM:Int)(j:bT)(Z:s.jobs.length<=1000) :
  aS G 256 [.int node,.ptr 3 0,.ptr 1 0,.ptr 4 0] [jV s,rB r,sF aM,y_,TB j] (.bool (mA s r node 2 aM&&decide (j.work<=(gW r node).work))) [jV s,rB r,sF aM,y_,TB j]:=by
 refine oO func256 rfl ?_;refine fV [0,1,2] (tj s r 2 aM) ?_;refine aD (by decide) ?_;simp only[go_sem];refine bJ [0,1,2,5] (qq s r node 2 aM Z) ?_;cases U:mA s r node 2 aM with
 |false=>simp only[go_sem]
 |true=>
 simp only[go_sem];refine cc (uH r node) trivial
end
section
attribute [local go_sem] jV rB sF y_ TB
def Qi(m:Int)(b:Nat->Bool):u_ m (λi=>b i.val)=qS m b:=by simp only[u_,qS,fB,show List.range 6=[0,1,2,3,4,5]from rfl,all_cons,all_nil,all_append];simp only[show(0:Nat)<6 from by decide,show(1:Nat)<6 from by decide,show(2:Nat)<6 from by decide,show(3:Nat)<6 from by decide,show(4:Nat)<6 from by decide,show(5:Nat)<6 from by decide,dite_true];cases hasB m 0<;>cases hasB m 1<;>cases hasB m 2<;>cases hasB m 3<;>cases hasB m 4<;>cases hasB m 5<;>(first|rfl|(simp only[Bool.and_true,Bool.true_and,Bool.false_or,Bool.not_true,Bool.not_false,Bool.true_or,all_cons,all_nil,Bool.and_assoc,if_true,Bool.false_eq_true,if_false,ite_true,ite_false]<;>rfl))
def vf(j:bT)(t:Nat)(first a:List LV)(af:List ah)(Z:((af.map some).all λx=>match x with|some (.mp _)=>false|_=>true)=true)(b:Nat->Bool)(K:∀i:Nat,aS G t (first++[.int i]++a) af (.bool (b i)) af) :
  aS G 254 [Gf j,.fn (.func t) first a] af (.bool (qS j.nodes b)) af:=by
 rw[<- Qi];exact Qh j t first a af Z (λi=>b i.val) (λi=>K i.val)
def Ul(s:aa)(r:List bE)(aM now:Int)(Z:s.jobs.length<=1000)(U:1<=aM)(h2:aM<=s.jobs.length) :
  aS G 239 [aU s,Nh r,.int aM,.int now] [] (.cZ [qD (EI s r aM now (s.jobs.getD (aM-1).toNat az)).1,.bool (EI s r aM now (s.jobs.getD (aM-1).toNat az)).2]) []:=by
 have V:=aG (f:=dH) az (show(aM-1).toNat<s.jobs.length by omega);generalize s.jobs.getD (aM-1).toNat az=j at *;have n:0<=aM-1:=by omega
 have S:IntKind.i64.wrap (aM-1)=aM-1:=aH (by omega) (by omega);have b:=vf (G:=G) j 255 [] [.ptr 3 0] [jV s,rB r,sF aM,y_] rfl _ (λi=>Qf s r i aM Z);have work:=vf (G:=G) j 256 [] [.ptr 3 0,.ptr 1 0,.ptr 4 0] [jV s,rB r,sF aM,y_,TB j] rfl _ (λi=>Qe s r i aM j Z);have k:=vf (G:=G) j 252 [] [.ptr 0 0,.ptr 1 0,.ptr 3 0,.ptr 2 0] [jV s,rB r,sF aM,sF 3] rfl _ (λi=>qq s r i 3 aM Z);unfold EI;generalize qS j.nodes (λi=>mA s r i 1 aM||mA s r i 2 aM)=o at *;generalize qS j.nodes (λi=>mA s r i 2 aM&&decide (j.work<=(gW r i).work))=t at *;generalize qS j.nodes (λi=>mA s r i 3 aM)=X at *;refine iL func239 ?_;simp only[S,V,n,go_sem];cases w:(j.phase==1)with
 |true=>
  have e:j.phase=1:=by simpa using w
  rw[if_pos e];simp only[go_sem];refine bJ [0,1,2,5] b trivial
 |false=>
 have e:¬j.phase=1:=by simpa using w
 rw[if_neg e];simp only[go_sem];cases m:(j.phase==2)with
 |true=>
  have a:j.phase=2:=by simpa using m
  rw[if_pos a];simp only[go_sem];refine bJ [0,1,2,5,4] work trivial
 |false=>
 have a:¬j.phase=2:=by simpa using m
 rw[if_neg a];simp only[go_sem];cases c:(j.phase==3)with
 |true=>
  have h:j.phase=3:=by simpa using c
  rw[if_pos h];simp only[go_sem];refine fV [0,1,2] (tj s r 3 aM) ?_;refine fV [0,1,2,6] k ?_;refine aD (by decide) ?_;simp only[go_sem];cases v:decide (j.epoch<j.inc)with
  |true=>rw[if_pos (of_decide_eq_true v)];simp only[go_sem]
  |false=>rw[if_neg (of_decide_eq_false v)];simp only[go_sem]
 |false=>
 have h:¬j.phase=3:=by simpa using c
 rw[if_neg h];simp only[go_sem]
def pK(o:Option cr):LV:=.cZ [qD (o.getD fW),.bool o.isSome]
def S_(s:aa)(r:List bE)(k:Nat)(hk:k<s.nodes.length) :
  aS G 238 [aU s,Nh r,.int k] [] (pK (Hg s (gW r k) (s.nodes.getD k aq) k)) []:=by
 have V:=aG (f:=cv) aq hk;have K:=uH (G:=G) r k;generalize s.nodes.getD k aq=n at *;generalize gW r k=m at *;obtain⟨up,D,J,x,H⟩:=n;have O:=kY (G:=G) s;unfold Hg;generalize gA s=h at *;refine iL func238 ?_;simp only[V,go_sem];refine cc K ?_;refine aD (by decide) ?_;simp only[go_sem];refine a_ (TJ m) ?_;generalize Nn m=b at *;cases b with
 |false=>simp only[go_sem,pK,sN]
 |true=>
 have e:∀A B:Option cr,(if true=false then none else if up=false/\1<=m.version/\m.version<=9 then A else if J=true/\m.version=h then B else none)=if(!up&&decide (m.version>=1)&&decide (m.version<=9))=true then A else if(J&&(m.version==h))=true then B else none:=λA B=>by simp only[Bool.and_eq_true,Bool.not_eq_true',decide_eq_true_eq,beq_iff_eq,and_assoc,ge_iff_le,Bool.true_eq_false,if_false]
 rw[e];cases up<;>cases h2:decide (m.version>=1)<;>cases u:decide (m.version<=9)<;>cases J<;>simp only[h2,u,Bool.true_eq_false,Bool.false_eq_true,go_sem,pK,sN,sS]
 all_goals
  refine cc O ?_;cases y:(m.version==h)<;>simp only[y,Bool.true_eq_false,Bool.false_eq_true,go_sem,pK,sN,sS]
def R7(up:List Bool)(hs:List Int)(bD now:Int)(k:Nat):St:=⟨[(0,.d (.cM 1 (up.map λb=>[bl b]))),(1,.d (.cM 1 (hs.map λh=>[i64 h]))),(2,.int bD),(3,.int now),(14,.int (min up.length hs.length:Nat)),(15,.int k)],[]⟩
def Kz(up:List Bool)(hs:List Int)(bD now:Int)(y:up.length<=50)(j:hs.length<=50)(Z:0<=bD/\bD<=1000000)(K:∀h∈hs,0<=h/\h<=1000000) :
  aS G 210 [.d (.cM 1 (up.map λb=>[bl b])),.d (.cM 1 (hs.map λh=>[i64 h])),.int bD,.int now] [] (.int (ou bD now up hs 0)) []:=by
 refine iL func210 ?_;generalize hr:ou bD now up hs 0=r;have H:(if(hs.length:Int)<(up.length:Int)then(hs.length:Int)else(up.length:Int))=((min up.length hs.length:Nat):Int):=by split<;>omega
 refine aQ [0,1,2,3,14,15] [] (λk:Nat=>k<=min up.length hs.length/\ou bD now (up.drop k) (hs.drop k) k=r) (λk=>min up.length hs.length-k) (R7 up hs bD now) 0 ?_ ⟨zero_le _,hr⟩ ?_
 .simp only[R7,go_sem,H,Int.natCast_zero]
 rintro k ⟨hk,A⟩;simp only[R7,go_sem];refine bp (λh=>?_) (λh=>?_)
 .have h:=eV h;have w:k<up.length:=by omega
  have J:k<hs.length:=by omega
  rw[drop_eq_getElem_cons w,drop_eq_getElem_cons J,ou]at A;have a:=get_map (f:=λb:Bool=>[bl b]) w;have v:=get_map (f:=λh:Int=>[i64 h]) J;have T:=K hs[k] (getElem_mem J);generalize up[k]=u at *;generalize hs[k]=x at *;have S:IntKind.i64.wrap (x+bD)=x+bD:=aH (by omega) (by omega);simp only[a,v,go_sem];cases u with
  |false=>
   simp only[Bool.false_eq_true,false_and,if_false]at A;simp only[go_sem];refine aY (k+1) ?_ ?_ ⟨h,by rw[natCast_add];exact A⟩ (by omega)
   .simp only[go_sem]
   .simp only[R7,go_sem,wS k]
  |true=>
   simp only[S,v,go_sem];cases O:decide (now>=x+bD)with
   |true=>have c:x+bD<=now:=of_decide_eq_true O;rw[if_pos ⟨rfl,c⟩]at A;simp only[go_sem,<- A]
   |false=>
    have c:¬x+bD<=now:=of_decide_eq_false O;rw[if_neg (λh=>c h.2)]at A;simp only[go_sem];refine aY (k+1) ?_ ?_ ⟨h,by rw[natCast_add];exact A⟩ (by omega)
    .simp only[go_sem]
    .simp only[R7,go_sem,wS k]
 .have J:=eW h hk;have:ou bD now (up.drop k) (hs.drop k) k = -1:=by
   rcases(by omega:up.length<=k\/hs.length<=k)with h|h
   .rw [drop_eq_nil_of_le h];rfl
   .rw [drop_eq_nil_of_le h];cases drop k up<;>rfl
  rw[this]at A;simp only[go_sem,<- A]
def D7(s:aa)(r:List bE)(now:Int):Nat->Option cr
 |0=>match nh s r false s.nodes 0 with
  |some o=>some o
  |none=>match nh s r true s.nodes 0 with
   |some o=>some o
   |none=>tU s r now s.jobs 0
 |1=>match nh s r true s.nodes 0 with
  |some o=>some o
  |none=>tU s r now s.jobs 0
 |_=>tU s r now s.jobs 0
def Vx:Nat->Bool
 |0=>false
 |_=>true
def Sn(s:aa)(r:List bE)(now:Int)(i:Nat)(hi:i<2):D7 s r now i=match nh s r (Vx i) s.nodes 0 with|some o=>some o|none=>D7 s r now (i+1):=by
 match i,hi with
 |0,_=>rfl
 |1,_=>rfl
def Vw(i:Nat)(hi:i<2):([.bool false,.bool true]:List LV)[i]? = some (.bool (Vx i)):=by
 match i,hi with
 |0,_=>rfl
 |1,_=>rfl
def kW(s:aa):List (Option ah):=[some (jV s),some (.box 46 [.int 0,.int 0,.int 0,.int 0,.int 0,.int 0,.int 0])]
def M_(s:aa)(r:List bE)(now:Int)(i:Nat):St:=⟨[(1,Nh r),(2,.int now),(3,.ptr 0 0),(6,.ptr 1 0),(7,.bool false),(17,.agg [.bool false,.bool true]),(18,.int i)],kW s⟩
def H9(s:aa)(r:List bE)(now:Int)(i k:Nat):St:=⟨[(1,Nh r),(2,.int now),(3,.ptr 0 0),(6,.ptr 1 0),(7,.bool false),(9,.bool (Vx i)),(17,.agg [.bool false,.bool true]),(18,.int i),(22,bH s.nodes),(23,.int s.nodes.length),(24,.int k)],kW s⟩
def M9(s:aa)(r:List bE)(now:Int)(k:Nat):St:=⟨[(1,Nh r),(2,.int now),(3,.ptr 0 0),(6,.ptr 1 0),(7,.bool false),(46,.int s.jobs.length),(47,.int k)],kW s⟩
def Du(s:aa)(r:List bE)(now:Int)(D:s.nodes.length<=1000)(Z:s.jobs.length<=1000):aS G 211 [aU s,Nh r,.int now] [] (pK (jg s r now)) []:=by
 rw[show jg s r now=D7 s r now 0 from rfl];generalize hr:D7 s r now 0=q;refine iL func211 ?_;refine aQ [1,2,3,6,7,17,18] [] (λi:Nat=>i<=2/\D7 s r now i=q) (λi=>2-i) (M_ s r now) 0 ?_ ⟨by omega,hr⟩ ?_
 .simp only[M_,kW,go_sem,Int.natCast_zero]
 clear hr;rintro i ⟨hi,hr⟩;simp only[M_,kW,go_sem];cases X:decide ((i:Int)<2)with
 |false=>
  have B:i=2:=by have:=of_decide_eq_false X;omega
  subst B;simp only[D7]at hr;simp only[go_sem];refine aQ [1,2,3,6,7,46,47] [] (λk:Nat=>k<=s.jobs.length/\tU s r now (s.jobs.drop k) k=q) (λk=>s.jobs.length-k) (M9 s r now) 0 ?_ ⟨zero_le _,hr⟩ ?_
  .simp only[M9,kW,go_sem,Int.natCast_zero]
  clear hr;rintro k ⟨hk,A⟩;simp only[M9,kW,go_sem];refine bp (λh=>?_) (λh=>?_)
  .have h:=eV h;rw[drop_eq_getElem_cons h,tU]at A;have K:=Ul (G:=G) s r ((k+1:Nat):Int) now Z (by omega) (by omega);rw[show(((k+1:Nat):Int)-1).toNat=k by omega,show s.jobs.getD k az=s.jobs[k]by simp[List.getD,h]]at K;rw[show(k:Int)+1=((k+1:Nat):Int)from rfl]at A;generalize EI s r ((k+1:Nat):Int) now s.jobs[k]=p at *;obtain⟨⟨U,t,v,u,w,E,e⟩,b⟩:=p;unfold R5 at A;simp only[wS k,go_sem];refine a_ K ?_;cases b with
   |true=>simp only[if_true]at A;subst A;simp only[go_sem,pK,sS]
   |false=>
    simp only[Bool.false_eq_true,if_false]at A;simp only[go_sem];refine aY (k+1) ?_ ?_ ⟨h,A⟩ (by omega)
    .simp only[go_sem]
    .simp only[M9,kW,go_sem,wS k]
  .obtain rfl:=eW h hk;rw[drop_length,tU]at A;subst A;simp only[go_sem,pK,sN]
 |true=>
 have B:i<2:=by have:=of_decide_eq_true X;omega
 rw[Sn s r now i B]at hr;have V:=Vw i B;simp only[go_sem]at V;simp only[go_sem,V,B];generalize c:nh s r (Vx i) s.nodes 0=O at hr;refine aQ [1,2,3,6,7,9,17,18,22,23,24] [] (λk:Nat=>k<=s.nodes.length/\nh s r (Vx i) (s.nodes.drop k) k=O) (λk=>s.nodes.length-k) (H9 s r now i) 0 ?_ ⟨zero_le _,c⟩ ?_
 .simp only[H9,kW,go_sem,Int.natCast_zero]
 clear c;rintro k ⟨hk,A⟩;simp only[H9,kW,go_sem];refine bp (λh=>?_) (λh=>?_)
 .have h:=eV h;rw[drop_eq_getElem_cons h,nh]at A;have K:=S_ (G:=G) s r k h;rw[show s.nodes.getD k aq=s.nodes[k]by simp[List.getD,h]]at K;have V:=get_map (f:=cv) h;generalize Hg s (gW r k) s.nodes[k] k=p at *;generalize s.nodes[k]=n at *;obtain⟨up,j,J,x,H⟩:=n;simp only[V,go_sem];cases y:(up==Vx i)with
  |false=>
   have a:¬up=Vx i:=by simpa using y
   rw[if_neg a]at A;simp only[go_sem];refine aY (k+1) ?_ ?_ ⟨h,A⟩ (by omega)
   .simp only[go_sem]
   .simp only[H9,kW,go_sem,wS k]
  |true=>
  have a:up=Vx i:=by simpa using y
  rw[if_pos a]at A;simp only[go_sem];cases p with
  |none=>
   replace A:nh s r (Vx i) (drop (k+1) s.nodes) (k+1)=O:=A;replace K:aS G 238 [aU s,Nh r,.int k] [] (.cZ [qD fW,.bool false]) []:=K;refine a_ K ?_;refine aY (k+1) ?_ ?_ ⟨h,A⟩ (by omega)
   .simp only[go_sem]
   .simp only[H9,kW,go_sem,wS k]
  |some o=>replace A:some o=O:=A;subst A;replace hr:some o=q:=hr;subst hr;replace K:aS G 238 [aU s,Nh r,.int k] [] (.cZ [qD o,.bool true]) []:=K;obtain⟨U,t,v,u,w,E,e⟩:=o;refine a_ K ?_;simp only[go_sem,pK,sS]
 .obtain rfl:=eW h hk;rw[drop_length,nh]at A;subst A;simp only[go_sem];refine aY (i+1) ?_ ?_ ⟨B,hr⟩ (by omega)
  .simp only[go_sem]
  .simp only[M_,kW,go_sem,wS i]
end
section
variable(m:Nat)
def Ng(m:bE):bE:={ m with term:=0,gen:=0,til:=0 }
def Jt(m:bE):aS G 245 [fG m] [] (fG (Ng m)) []:=by refine iL func245 ?_;simp only[Ng,go_sem]
def GI(a b:bE):Bool:=((Ng a).node==(Ng b).node&&((Ng a).kind==(Ng b).kind&&((Ng a).term==(Ng b).term&&((Ng a).gen==(Ng b).gen&&((Ng a).aM==(Ng b).aM&&((Ng a).inc==(Ng b).inc&&((Ng a).version==(Ng b).version&&((Ng a).epoch==(Ng b).epoch&&((Ng a).til==(Ng b).til&&((Ng a).mode==(Ng b).mode&&(Ng a).work==(Ng b).work))))))))))
def QY(a b:bE):aS G 214 [fG a,fG b] [] (.bool (GI a b)) []:=by have X:=Jt (G:=G) a;have T:=Jt (G:=G) b;unfold GI;refine iL func214 ?_;refine cc X ?_;refine cc T trivial
def U8(m:Int):Int:=if hasB m 0=true then 0 else if hasB m 1=true then 1 else if hasB m 2=true then 2 else if hasB m 3=true then 3 else if hasB m 4=true then 4 else if hasB m 5=true then 5 else 64
def tzQ(m:Nat):Int:=vM .u64 (IntKind.u64.wrap (rF .u64 m (IntKind.u64.wrap (0-m))*285870213051353865)) 58
def Zq:((List.range 64).all λm=>m==0||(decide (0<=tzQ m)&&(decide ((tzQ m).toNat<64)&&(ER[(tzQ m).toNat]?==some (U8 m)&&IntKind.i64.wrap (U8 m)==U8 m))))=true:=by kernel_rfl
def RF(H:m<64):aS dh 274 [.d (.val (.int .u64 m))] [] (.int (U8 m)) []:=by
 have h:=List.all_eq_true.1 Zq m (mem_range.2 H);refine iL func274 ?_;by_cases h0:m=0
 .subst h0;simp only[show((0:Nat):Int)=0 from rfl,show U8 0=64 from rfl,go_sem]
 simp only[Bool.or_eq_true,Bool.and_eq_true,beq_iff_eq,decide_eq_true_eq]at h;obtain⟨U,h2,B,y⟩:=h.resolve_left h0;clear h;have a:((m:Int)==0)=false:=beq_eq_false_iff_ne.2 (by omega);generalize U8 m=z at *;obtain⟨q,E⟩:∃q,tzQ m=q:=⟨_,rfl⟩;rw[E]at U h2 B;unfold tzQ at E;generalize(m:Int)=i at *;have u:dh 3=some (ER.map λn=>.val (.int .u8 n)):=rfl;have hr:(ER.map λn=>DV.val (.int .u8 n))[q.toNat]? = some (.val (.int .u8 z)):=by rw[getElem?_map,B];rfl
 generalize(ER.map λn=>DV.val (.int .u8 n))=tb at *;simp only[a,u,go_sem];simp only[E,U,h2,go_sem];simp only[Nat.mul_one,hr,y,go_sem]
def Zp(H:m<64):aS dh 264 [.d (.val (.int .u64 m))] [] (.int (U8 m)) []:=by have a:=RF m H;refine iL func264 ?_;refine a_ a trivial
def Ka(j:bT)(i:Nat)(hj:0<=j.nodes/\j.nodes<64):aS dh 244 [Gf j,.int i] [] (.int (if U8 j.nodes=i then 1 else 0)) []:=by
 obtain⟨m,H⟩:∃m:Nat,j.nodes=m:=⟨j.nodes.toNat,by omega⟩;have K:=Zp m (by omega);have S:IntKind.u64.wrap (m:Int)=m:=by show(m:Int) % 18446744073709551616=m;omega
 rw[H];refine iL func244 ?_;simp only[H,S,go_sem];refine a_ K ?_;by_cases h:U8 (m:Int)=(i:Int)
 .simp only[h,go_sem]
 .simp only[beq_eq_false_iff_ne.2 h,h,go_sem]
def nD(s:aa)(r:Int->Int)(i:Nat):Option bE:=
 if(ei s i).up=false then none else
 if(ei s i).aM=0 then some ⟨i,if(ei s i).bw=true then 5 else 1,0,0,0,0,if(ei s i).bw=true then gA s else 0,0,0,0,0⟩else
 if(dO s ((ei s i).aM-1).toNat).phase=2 then some ⟨i,3,0,0,(ei s i).aM,(dO s ((ei s i).aM-1).toNat).inc,if(ei s i).bw=true then gA s else 0,(dO s ((ei s i).aM-1).toNat).epoch,0,0,r (ei s i).aM⟩else
 if(dO s ((ei s i).aM-1).toNat).phase=3 then some ⟨i,4,0,0,(ei s i).aM,(dO s ((ei s i).aM-1).toNat).inc,if(ei s i).bw=true then gA s else 0,0,0,if U8 (dO s ((ei s i).aM-1).toNat).nodes=i then 1 else 0,0⟩else
 if(dO s ((ei s i).aM-1).toNat).phase=1 then some ⟨i,2,0,0,(ei s i).aM,(dO s ((ei s i).aM-1).toNat).inc,(ei s i).version,0,0,0,0⟩else
 some ⟨i,2,0,0,(ei s i).aM,(dO s ((ei s i).aM-1).toNat).inc,if(ei s i).bw=true then gA s else 0,0,0,0,0⟩
def jf(q:Option bE):LV:=.cZ [fG (q.getD lz),.bool q.isSome]
def Pd(c:av)(s:aa)(h:bU c s)(r:Int->Int)(i:Nat)(hi:i<s.nodes.length)(room term:Int)(sh:List eE)(wr:Int)(x:∀j:Int,1<=j/\j<=s.jobs.length->aS dh 243 [aU s,.int j,.ptr 0 0] (eF room term sh wr) (.int (r j)) (eF room term sh wr)) :
  aS dh 213 [aU s,.int i,.ptr 0 0] (eF room term sh wr) (jf (nD s r i)) (eF room term sh wr):=by
 have V:=aG (f:=cv) aq hi;have O:=kY (G:=dh) s;have a:=h.aM i hi;have y:=h.bw i hi;have T:=h.jobs;unfold nD jf;have w:ei s i=s.nodes.getD i aq:=rfl;rw[w]at a y ⊢;generalize s.nodes.getD i aq=n at *;obtain⟨up,D,J,b,H⟩:=n;dsimp only at a y ⊢;simp only[cv]at V;have c1:i<s.nodes.length:=hi;cases up with
 |false=>simp only[if_true];refine Lv func213 (dX _ _ _ _ _) ?_;simp only[eF,go_sem,sA];simp only[dF ((i:Int)<0),dF ((i:Int)>=(s.nodes.length:Nat)),V,hi,go_sem,sN,sS]
 |true=>
 simp only[Bool.true_eq_false,if_false];by_cases q:H=0
 .subst q;simp only[if_true];cases J with
  |true=>refine Lv func213 (dX _ _ _ _ _) ?_;simp only[eF,go_sem,sA];simp only[dF ((i:Int)<0),dF ((i:Int)>=(s.nodes.length:Nat)),V,hi,go_sem,sN,sS];refine a_ O trivial
  |false=>refine Lv func213 (dX _ _ _ _ _) ?_;simp only[eF,go_sem,sA];simp only[dF ((i:Int)<0),dF ((i:Int)>=(s.nodes.length:Nat)),V,hi,go_sem,sN,sS]
 have hmo:J=false:=by
  cases J with
  |false=>rfl
  |true=>exact absurd (y rfl).2.2 q
 subst hmo;obtain⟨k,hk⟩:∃k:Nat,H=k+1:=⟨(H-1).toNat,by omega⟩;have u:k<s.jobs.length:=by omega
 have K:=aG (f:=dH) az u;have Z:dO s (H-1).toNat=s.jobs.getD k az:=by unfold dO;rw[show(H-1).toNat=k by omega]
 have v:=NG h u;have e:=x H (by omega);rw[Z];unfold dO at v;generalize s.jobs.getD k az=j at *;simp only[dH]at K;have S:IntKind.i64.wrap (H-1)=k:=by rw[aH (by omega) (by omega)];omega
 have X:=Ka j i v;simp only[q,if_false];have o:(H==0)=false:=beq_eq_false_iff_ne.2 q;simp only[eF,sA]at e;by_cases U:j.phase=2
 .have A:(j.phase==2)=true:=beq_iff_eq.2 U;rw[if_pos U];refine Lv func213 (dX _ _ _ _ _) ?_;simp only[eF,go_sem,sA];simp only[dF ((i:Int)<0),dF ((i:Int)>=(s.nodes.length:Nat)),V,hi,go_sem,sN,sS];simp only[o,S,u,K,go_sem,sN,sS];refine aD rfl ?_;simp only[A,go_sem,sN,sS];refine oL [0] e ?_;refine aD rfl ?_;simp only[go_sem,sN,sS]
 have A:(j.phase==2)=false:=beq_eq_false_iff_ne.2 U;rw[if_neg U];by_cases B:j.phase=3
 .have E:(j.phase==3)=true:=beq_iff_eq.2 B;rw[if_pos B];refine Lv func213 (dX _ _ _ _ _) ?_;simp only[eF,go_sem,sA];simp only[dF ((i:Int)<0),dF ((i:Int)>=(s.nodes.length:Nat)),V,hi,go_sem,sN,sS];simp only[o,S,u,K,go_sem,sN,sS];refine aD rfl ?_;simp only[A,E,go_sem,sN,sS];refine a_ X trivial
 have E:(j.phase==3)=false:=beq_eq_false_iff_ne.2 B;rw[if_neg B];by_cases m:j.phase=1
 .have t:(j.phase==1)=true:=beq_iff_eq.2 m;rw[if_pos m];refine Lv func213 (dX _ _ _ _ _) ?_;simp only[eF,go_sem,sA];simp only[dF ((i:Int)<0),dF ((i:Int)>=(s.nodes.length:Nat)),V,hi,go_sem,sN,sS];simp only[o,S,u,K,go_sem,sN,sS];refine aD rfl ?_;simp only[t,A,E,go_sem,sN,sS]
 have t:(j.phase==1)=false:=beq_eq_false_iff_ne.2 m;rw[if_neg m];refine Lv func213 (dX _ _ _ _ _) ?_;simp only[eF,go_sem,sA];simp only[dF ((i:Int)<0),dF ((i:Int)>=(s.nodes.length:Nat)),V,hi,go_sem,sN,sS];simp only[o,S,u,K,go_sem,sN,sS];refine aD rfl ?_;simp only[t,A,E,go_sem,sN,sS]
end
def Gs:aS G 263 [.d (.val (.slice none 0 0)),.int 0] [] (.cZ [.d (.val (.string ⟨#[]⟩)),.int 0,.bool false]) []:=by have D:=iD (G:=G) [] (λ_ h=>by cases h) (by simp) 0 (by omega) _ rfl;simp only[ak,ax,map_nil,Gj,fK,lQ,List.drop_nil,map_none]at D;simp only[show yg none=0 from rfl,show yh none=0 from rfl,isSome_none,Int.natCast_zero]at D;refine iL func263 ?_;refine xD [] D rfl (by simp[ay,aB,bz,an,go_sem]) (by simp[an]) rfl rfl ?_;simp only[go_sem]
def aF.MA(x:aF)(k:Nat):List Bool:=(List.range k).map λi=>(ei x.s i).up
def aF.sH(x:aF)(k:Nat):List Int:=(x.lines.take k).map λl=>l.heard
def aF.mJ(x:aF)(k:Nat):List bE:=(x.lines.take k).map λl=>l.report
def aF.VM(x:aF)(now:Int):Int:=ou x.c.bD now (x.MA x.lines.length) (x.sH x.lines.length) 0
def aF.ki(x:aF)(now:Int)(q p:Option cr):Option cr:=if 0<=x.VM now then some ⟨7,x.VM now,0,0,0,0,0⟩else match q with
 |some o=>some o
 |none=>p
def Jq(l:List Bool):List (List DV):=l.map λb=>[bl b]
def Iw(l:List Int):List (List DV):=l.map λh=>[i64 h]
def Ws(x:aF)(now:Int)(k:Nat):St:=⟨[(0,.ptr 0 0),(1,.int now),(4,.ptr 8 0),(5,.bool false),(6,.sl 9 k 1 0 k),(7,.sl 10 k 1 0 k),(8,.sl 11 k 11 0 k),(17,.sl 7 x.lines.length 26 0 x.lines.length),(18,.int x.lines.length),(19,.int k)],(bX x).map some++[some (.box 46 [.int 0,.int 0,.int 0,.int 0,.int 0,.int 0,.int 0]),some (.dat 4 1 (Jq (x.MA k))),some (.dat 3 1 (Iw (x.sH k))),some (.dat 94 11 ((x.mJ k).map jQ))]⟩
def RC(x:aF)(k:Nat):x.MA (k+1)=x.MA k++[(ei x.s k).up]:=by unfold aF.MA;rw[range_succ,map_append];rfl
def jT{α:Type}{l:List α}{i:Nat}(z:α)(h:i<l.length):l.take (i+1)=l.take i++[l.getD i z]:=by rw[take_add_one];simp[List.getD,h]
def TO(x:aF){k:Nat}(h:k<x.lines.length):x.sH (k+1)=x.sH k++[(x.lines.getD k fI).heard]:=by unfold aF.sH;rw[jT fI h,map_append];rfl
def OW(x:aF){k:Nat}(h:k<x.lines.length):x.mJ (k+1)=x.mJ k++[(x.lines.getD k fI).report]:=by unfold aF.mJ;rw[jT fI h,map_append];rfl
def Mz(x:aF)(k:Nat):(x.MA k).length=k:=by simp[aF.MA]
def Np(x:aF){k:Nat}(h:k<=x.lines.length):(x.sH k).length=k:=by simp[aF.sH];omega
def HM(x:aF){k:Nat}(h:k<=x.lines.length):(x.mJ k).length=k:=by simp[aF.mJ];omega
def F5(x:aF)(h:CL x)(now:Int)(D:0<=now/\now<=1000000)(K:∀l∈x.lines,0<=l.heard/\l.heard<=1000000)(q p:Option cr)(hfn:aS G 211 [aU x.s,Nh (x.mJ x.lines.length),.int now] [] (pK q) [])(O:aS G 212 [eD x.c,aU x.s,.int now] [] (pK p) []) :
  aS G 172 [.ptr 0 0,.int now] (bX x) (pK (x.ki now q p)) (bX x):=by
 have U:=h.lines;have E:=h.right.len;refine Lv func172 (cw _ (Nat.le_refl 8) _) ?_;simp only[bX,dR,aL,go_sem,sA];refine aQ [0,1,4,5,6,7,8,17,18,19] [.t 6 4 1,.t 7 3 1,.t 8 94 11] (λk:Nat=>k<=x.lines.length) (λk=>x.lines.length-k) (Ws x now) 0 ?_ (zero_le _) (λk hk=>?_)
 .simp only[Ws,bX,dR,aL,aF.MA,aF.sH,aF.mJ,Jq,Iw,range_zero,Int.natCast_zero,go_sem,sA]
 simp only[Ws,bX,dR,aL,go_sem,sA];by_cases X:k<x.lines.length
 .have V:=aG (f:=oz) fI X;have u:=aG (f:=cv) aq (show k<x.s.nodes.length by omega);simp only[dT ((k:Int)<(x.lines.length:Int)),go_sem];have y:=RC x k;have j:=TO x X;have hr:=OW x X;have lu:=Mz x k;have lh:=Np x hk;have lr:=HM x hk;have w:ei x.s k=x.s.nodes.getD k aq:=rfl;rw[w]at y;have hkn:k<x.s.nodes.length:=by omega
  generalize x.s.nodes.getD k aq=n at *;generalize x.lines.getD k fI=l at *;obtain⟨up,co,mo,ve,a⟩:=n;obtain⟨lg,lhs,⟨q0,A,e,q3,q4,q5,q6,q7,q8,q9,q10⟩,r,le,⟨r0,r1,r2,r3,r4,r5,r6,r7,r8,r9,r10⟩⟩:=l;simp only[oz,jQ,sA]at V;simp only[cv]at u;dsimp only at y j hr;generalize Z7:x.MA k=ub at *;generalize hhb:x.sH k=T at *;generalize hrb:x.mJ k=rb at *;have c1:(k+1)*88<=70368744177664:=by omega
  have S:(k+1)*8<=70368744177664:=by omega
  have m:(k+1)*1<=70368744177664:=by omega
  simp only[X,V,Jq,Iw,length_append,lu,lh,lr,c1,S,m,hkn,u,go_sem];refine dQ ?_;refine aY (k+1) ?_ ?_ (show k+1<=x.lines.length by omega) (show x.lines.length-(k+1)<x.lines.length-k by omega)
  .simp only[go_sem]
  .simp only[wS k,Ws,bX,dR,aL,y,j,hr,Jq,Iw,map_append,go_sem,sA]
 obtain rfl:k=x.lines.length:=by omega
 simp only[dF ((x.lines.length:Int)<(x.lines.length:Int)),go_sem];have hup:(x.MA x.lines.length).length=x.lines.length:=Mz x _;have hhp:=Np x (Nat.le_refl x.lines.length);have hrp:=HM x (Nat.le_refl x.lines.length);have aaj:0<=x.c.bD/\x.c.bD<=1000000:=by have H:=h.right.xw;unfold gq at H;simp only[Bool.and_eq_true]at H;have:=bf H.1.1.1.1.2;omega
 have abK:=Kz (G:=G) (x.MA x.lines.length) (x.sH x.lines.length) x.c.bD now (by omega) (by omega) aaj (λv B=>by unfold aF.sH at B;rw[mem_map]at B;obtain⟨l,Z,rfl⟩:=B;exact K l (mem_of_mem_take Z));unfold aF.ki;have hsi:x.VM now=ou x.c.bD now (x.MA x.lines.length) (x.sH x.lines.length) 0:=rfl;rw[<- hsi]at abK;generalize x.VM now=si at *;have htu:take x.lines.length (map (λb=>[DV.val (Value.bool b)]) (x.MA x.lines.length))=map (λb=>[DV.val (Value.bool b)]) (x.MA x.lines.length):=take_of_length_le (by rw[length_map];omega);have Ri:take x.lines.length (map (λh=>[DV.val (Value.int .i64 h)]) (x.sH x.lines.length))=map (λh=>[DV.val (Value.int .i64 h)]) (x.sH x.lines.length):=take_of_length_le (by rw[length_map];omega);have htr:take x.lines.length (map jQ (x.mJ x.lines.length))=map jQ (x.mJ x.lines.length):=take_of_length_le (by rw[length_map];omega);refine xD [9,10] abK rfl (by simp[ay,aB,bz,an,Jq,Iw,htu,Ri,hup,hhp,Nat.le_refl,and_self,go_sem]) (by simp[an]) rfl rfl ?_;simp only[go_sem];by_cases J:0<=si
 .simp only[decide_eq_true (show si>=0 from J),J,pK,go_sem,sS]
 simp only[decide_eq_false (show¬si>=0 from J),J,go_sem];simp only[Nh]at hfn;refine xD [11] hfn rfl (by simp[ay,aB,bz,an,Nh,htr,hrp,Nat.le_refl,and_self,go_sem]) (by simp[an]) rfl rfl ?_;simp only[go_sem];cases q with
 |some o=>simp only[pK,go_sem,sS]
 |none=>
  simp only[pK,go_sem,sN];refine cc O ?_;cases p with
  |none=>simp only[pK,go_sem,sN];refine dQ trivial
  |some o=>simp only[pK,go_sem,sS];refine dQ trivial
def YF:Nat×C×List RV:=(112,
(.seq (.mj [qo 6 (.new 94 [q0,q0,q0,q0,q0,q0,q0,q0,q0,q0,q0]),
 qo 7 (.mv qf)])
 (.seq (.mj [qm 11 0,
 qo 12 (.kL (.t 11)),
 qo 13 (.B0 18 (.t 12)),
 qo 14 (.ld1 (.t 13)),
 qm 15 1,
 qo 16 (.BU 26 (.t 14) (.t 15)),
 qm 8 16])
 (.seq (.mK [qm 18 0,
 qd 19 (.kL (.t 18)) [0],
 qd 20 (.B0 12 (.t 19)) [1,0],
 qd 21 (.Es 6 (.t 20)) [2,1,0],
 qm 22 1,
 qm 23 0,
 qd 24 (.kL (.t 23)) [5],
 qd 25 (.B0 11 (.t 24)) [6,5],
 qd 26 (.ld1 (.t 25)) [7,6,5],
 qd 27 (.call (.f 213) [(.t 21),(.t 22),(.t 26)]) [3,2,1,0,4,8,7,6,5],
 qd 17 (.mv (.t 27)) [9,3,2,1,0,4,8,7,6,5],
 qd 28 (.ext (.t 17) 0) [10,9,3,2,1,0,4,8,7,6,5],
 qd 29 (.ext (.t 17) 1) [10,9,3,2,1,0,4,8,7,6,5],
 qo 9 (.new 94 [q0,q0,q0,q0,q0,q0,q0,q0,q0,q0,q0]),
 ql (.st 11 (.t 9) (.t 28)) [13,11,10,9,3,2,1,0,4,8,7,6,5],
 qd 10 (.mv (.t 29)) [12,10,9,3,2,1,0,4,8,7,6,5,14,13,11]])
 (.seq (.block 0 (.seq (.mj [qm 31 10,
 qo 32 (.not (.t 31)),
 qm 30 32])
 (.cond (.t 30) (.seq (.mj [qm 33 8,
 qo 34 (.kL (.t 33)),
 qo 35 (.B0 1 (.t 34)),
 qn (.st 1 (.t 35) qf)])
 (.seq (.mj [qo 36 (.build [q0,q0,q0,q0,q0,q0,q0,q0,q0,q0,q0] []),
 qn (.st 11 (.t 6) (.t 36)),
 qo 7 (.mv qf)])
 .ret))
 (.seq (.mK [qm 38 8,
 qd 39 (.kL (.t 38)) [0],
 qd 40 (.B0 1 (.t 39)) [1,0],
 qd 41 (.ld1 (.t 40)) [2,1,0],
 qd 42 (.not (.t 41)) [3,2,1,0],
 qd 43 (.mv (.t 42)) [4,3,2,1,0],
 qe 44 (.Es 11 (.t 9)) 43 false [5,4,3,2,1,0],
 qe 45 (.mv (.t 8)) 43 false [5,4,3,2,1,0],
 qe 46 (.kL (.t 45)) 43 false [7,5,4,3,2,1,0],
 qe 47 (.B0 2 (.t 46)) 43 false [8,7,5,4,3,2,1,0],
 qe 48 (.Es 11 (.t 47)) 43 false [9,8,7,5,4,3,2,1,0],
 qe 49 (.call (.f 214) [(.t 44),(.t 48)]) 43 false [6,5,4,3,2,1,0,10,9,8,7],
 qe 50 (.not (.t 49)) 43 false [11,6,5,4,3,2,1,0,10,9,8,7],
 qd 51 (.pick (.t 43) qt (.t 50)) [5,4,3,2,1,0,12,11,6,10,9,8,7],
 qd 37 (.mv (.t 51)) [13,5,4,3,2,1,0,12,11,6,10,9,8,7]])
 (.cond (.t 37) (.seq (.mK [qm 52 8,
 qm 53 8,
 qm 54 8,
 qo 55 (.Es 11 (.t 9)),
 qo 56 (.build [q0,q0,q0,q0,q0,q0,q0,q0,q0,q0,q0] []),
 qd 57 (.kL (.t 52)) [0],
 qd 58 (.B0 1 (.t 57)) [5,0],
 ql (.st 1 (.t 58) qt) [6,5,0],
 qd 59 (.kL (.t 53)) [1,0,3,5,6,7],
 qd 60 (.B0 2 (.t 59)) [8,1,0,3,5,6,7],
 ql (.st 11 (.t 60) (.t 55)) [9,8,1,0,3,5,6,7],
 qd 61 (.kL (.t 54)) [2,0,1,3,4,5,6,7,8,9,10],
 qd 62 (.B0 15 (.t 61)) [11,2,0,1,3,4,5,6,7,8,9,10],
 ql (.st 11 (.t 62) (.t 56)) [12,11,2,0,1,3,4,5,6,7,8,9,10]])
 (.mj [qm 63 8,
 qo 64 (.kL (.t 63)),
 qo 65 (.B0 0 (.t 64)),
 qo 66 (.ld1 (.t 65)),
 qo 67 (.bin .add (.t 66) (qk 1)),
 qo 68 (.kL (.t 63)),
 qo 69 (.B0 0 (.t 68)),
 qn (.st 1 (.t 69) (.t 67))]))
 (.seq (.mK [qm 71 2,
 qm 72 8,
 qd 73 (.kL (.t 72)) [1],
 qd 74 (.B0 13 (.t 73)) [2,1],
 qd 75 (.ld1 (.t 74)) [3,2,1],
 qm 76 0,
 qd 77 (.kL (.t 76)) [5],
 qd 78 (.B0 0 (.t 77)) [6,5],
 qd 79 (.B0 5 (.t 78)) [7,6,5],
 qd 80 (.ld1 (.t 79)) [8,7,6,5],
 qd 81 (.bin .add (.t 75) (.t 80)) [4,3,2,1,9,8,7,6,5],
 qd 82 (.bin .lss (.t 71) (.t 81)) [0,10,4,3,2,1,9,8,7,6,5],
 qd 70 (.mv (.t 82)) [11,0,10,4,3,2,1,9,8,7,6,5]])
 (.cond (.t 70) (.seq (.mj [qo 83 (.build [q0,q0,q0,q0,q0,q0,q0,q0,q0,q0,q0] []),
 qn (.st 11 (.t 6) (.t 83)),
 qo 7 (.mv qf)])
 .ret)
 .skip)))))))
 (.seq (.mj [qm 84 8,
 qm 85 2,
 qo 86 (.kL (.t 84)),
 qo 87 (.B0 13 (.t 86)),
 qn (.st 1 (.t 87) (.t 85))])
 (.seq (.mK [qm 88 0,
 qd 89 (.kL (.t 88)) [0],
 qd 90 (.B0 12 (.t 89)) [1,0],
 qd 91 (.B0 5 (.t 90)) [2,1,0],
 qd 92 (.ld1 (.t 91)) [3,2,1,0],
 qm 93 8,
 qd 94 (.kL (.t 93)) [5],
 qd 95 (.B0 0 (.t 94)) [6,5],
 qd 96 (.ld1 (.t 95)) [7,6,5],
 qm 97 8,
 qd 98 (.kL (.t 97)) [9],
 qd 99 (.B0 14 (.t 98)) [10,9],
 qd 100 (.ld1 (.t 99)) [11,10,9],
 qm 101 0,
 qd 102 (.kL (.t 101)) [13],
 qd 103 (.B0 0 (.t 102)) [14,13],
 qd 104 (.B0 4 (.t 103)) [15,14,13],
 qd 105 (.ld1 (.t 104)) [16,15,14,13],
 qd 106 (.bin .add (.t 100) (.t 105)) [12,11,10,9,17,16,15,14,13],
 qd 107 (.min (qk 1000000) (.t 106)) [18,12,11,10,9,17,16,15,14,13],
 qd 108 (.B0 2 (.t 9)) [0,1,2,3,4],
 ql (.st 1 (.t 108) (.t 92)) [20,0,1,2,3,4],
 qd 109 (.B0 3 (.t 9)) [0,1,2,3,4,5,6,7,8,20,21],
 ql (.st 1 (.t 109) (.t 96)) [22,0,1,2,3,4,5,6,7,8,20,21],
 qd 110 (.B0 8 (.t 9)) [0,1,2,3,4,5,6,7,8,9,10,11,12,13,14,15,16,17,18,19,20,21,22,23],
 ql (.st 1 (.t 110) (.t 107)) [24,0,1,2,3,4,5,6,7,8,9,10,11,12,13,14,15,16,17,18,19,20,21,22,23]])
 (.seq (.mj [qo 111 (.Es 11 (.t 9)),
 qn (.st 11 (.t 6) (.t 111)),
 qo 7 (.mv qt)])
 .ret))))))),
[(.cn 6 11),(.t 7)])
def Xb:bM prog f173=some YF:=by kernel_rfl
def ni(x:aF)(q:Option bE)(now:Int)(l:oM):oM×Option bE:=match q with
 |none=>({ l with has:=false },none)
 |some m=>
  if l.has=false\/GI m l.order=false then({ l with has:=true,order:=m,report:=qK,gen:=IntKind.i64.wrap (l.gen+1),sent:=now },some { m with term:=x.s.term,gen:=IntKind.i64.wrap (l.gen+1),til:=if IntKind.i64.wrap (l.heard+x.c.bD)<1000000 then IntKind.i64.wrap (l.heard+x.c.bD)else 1000000 })
  else if now<IntKind.i64.wrap (l.sent+x.c.ej)then(l,none)
  else({ l with sent:=now },some { m with term:=x.s.term,gen:=l.gen,til:=if IntKind.i64.wrap (l.heard+x.c.bD)<1000000 then IntKind.i64.wrap (l.heard+x.c.bD)else 1000000 })
def R9{α:Type}{l:List α}{i:Nat}{v:α}(h:l[i]? = some v):l.set i v=l:=by obtain⟨U,h2⟩:=List.getElem?_eq_some_iff.1 h;subst h2;exact set_getElem_self U
def FC(x:aF)(now:Int)(i:Nat)(hi:i<x.lines.length)(q:Option bE)(a:aS dh 213 [aU x.s,.int i,.ptr 0 0] (eF x.room x.term x.sh x.wr) (jf q) (eF x.room x.term x.sh x.wr)) :
  aS dh 173 [.ptr 0 0,.int i,.int now] (bX x) (jf (ni x q now (x.lines.getD i fI)).2) (bX { x with lines:=x.lines.set i (ni x q now (x.lines.getD i fI)).1 }):=by
 have V:=aG (f:=oz) fI hi;have E:∀v,((x.lines.map oz).set i v)[i]? = some v:=λv=>getElem?_set_self (by simpa using hi)
 simp only[eF,sA]at a;generalize x.lines.getD i fI=l at *;obtain⟨k,lhs,⟨q0,A,O,y,w,S,e,q7,q8,X,h⟩,r,le,⟨r0,r1,K,T,J,r5,r6,r7,r8,r9,j⟩⟩:=l;simp only[oz,jQ,sA]at V;cases q with
 |none=>simp only[ni];refine eY func173 (by decide) Xb rfl rfl (cw _ (Nat.le_refl 8) _) rfl ?_;simp only[jf,sN]at a ⊢;simp only[bX,dR,aL,length_set,YF,go_sem,sA];simp only[hi,go_sem];refine oL [6] a ?_;refine aD rfl ?_;simp only[hi,V,E,oz,map_set,length_set,set_set,go_sem,sA]
 |some m=>
  obtain⟨n,o,t,D,u,m5,H,U,m8,m9,B⟩:=m;have b:=QY (G:=dh) ⟨n,o,t,D,u,m5,H,U,m8,m9,B⟩ ⟨q0,A,O,y,w,S,e,q7,q8,X,h⟩;simp only[ni];generalize GI ⟨n,o,t,D,u,m5,H,U,m8,m9,B⟩ ⟨q0,A,O,y,w,S,e,q7,q8,X,h⟩=al at *;cases lhs with
  |false=>
   simp only[true_or,if_true];refine eY func173 (by decide) Xb rfl rfl (cw _ (Nat.le_refl 8) _) rfl ?_;simp only[jf,sS]at a;simp only[jf,sN,sS];simp only[bX,dR,aL,length_set,YF,go_sem,sA];simp only[hi,go_sem];refine oL [6] a ?_;refine aD rfl ?_;simp only[hi,V,E,qK,oz,map_set,length_set,set_set,go_sem,sA]
   (repeat (refine aD rfl ?_;(try simp only[hi,V,E,qK,oz,map_set,length_set,set_set,go_sem,sA])))
  |true=>
  cases al with
  |false=>
   simp only[Bool.true_eq_false,or_true,if_true];refine eY func173 (by decide) Xb rfl rfl (cw _ (Nat.le_refl 8) _) rfl ?_;simp only[jf,sS]at a;simp only[jf,sN,sS];simp only[bX,dR,aL,length_set,YF,go_sem,sA];simp only[hi,go_sem];refine oL [6] a ?_;refine aD rfl ?_;simp only[hi,V,E,qK,oz,map_set,length_set,set_set,go_sem,sA];refine cc b ?_;simp only[hi,V,E,qK,oz,map_set,length_set,set_set,go_sem,sA]
   (repeat (refine aD rfl ?_;(try simp only[hi,V,E,qK,oz,map_set,length_set,set_set,go_sem,sA])))
  |true=>
   simp only[Bool.true_eq_false,or_false,if_false];by_cases Z:now<IntKind.i64.wrap (r+x.c.ej)
   .simp only[Z,if_true];refine eY func173 (by decide) Xb rfl rfl (cw _ (Nat.le_refl 8) _) rfl ?_;simp only[jf,sS]at a;simp only[jf,sN,sS];simp only[bX,dR,aL,length_set,YF,go_sem,sA];simp only[hi,go_sem];refine oL [6] a ?_;refine aD rfl ?_;simp only[hi,V,E,qK,oz,map_set,length_set,set_set,go_sem,sA];refine cc b ?_;simp only[decide_eq_true Z,hi,V,E,qK,oz,map_set,length_set,set_set,go_sem,sA]
    (repeat (refine aD rfl ?_;(try simp only[decide_eq_true Z,hi,V,E,qK,oz,map_set,length_set,set_set,go_sem,sA])))
    rw[R9 V]
   .simp only[Z,if_false];refine eY func173 (by decide) Xb rfl rfl (cw _ (Nat.le_refl 8) _) rfl ?_;simp only[jf,sS]at a;simp only[jf,sN,sS];simp only[bX,dR,aL,length_set,YF,go_sem,sA];simp only[hi,go_sem];refine oL [6] a ?_;refine aD rfl ?_;simp only[hi,V,E,qK,oz,map_set,length_set,set_set,go_sem,sA];refine cc b ?_;simp only[decide_eq_false Z,hi,V,E,qK,oz,map_set,length_set,set_set,go_sem,sA]
    (repeat (refine aD rfl ?_;(try simp only[decide_eq_false Z,hi,V,E,qK,oz,map_set,length_set,set_set,go_sem,sA])))
def c_(y:aF)(r:Int->Int)(now:Int):Nat->aF×List bE
 |0=>(y,[])
 |k+1=>({ (c_ y r now k).1 with lines:=(c_ y r now k).1.lines.set k (ni (c_ y r now k).1 (nD y.s r k) now ((c_ y r now k).1.lines.getD k fI)).1 },(c_ y r now k).2++(ni (c_ y r now k).1 (nD y.s r k) now ((c_ y r now k).1.lines.getD k fI)).2.toList)
structure Yc(y z:aF):Prop where
 c:z.c=y.c
 s:z.s=y.s
 j:z.j=y.j
 room:z.room=y.room
 term:z.term=y.term
 sh:z.sh=y.sh
 wr:z.wr=y.wr
 len:z.lines.length=y.lines.length
 down:z.down=y.down
 dM:z.dM=y.dM
def ng(y:aF)(r:Int->Int)(now:Int):∀k,Yc y (c_ y r now k).1
 |0=>⟨rfl,rfl,rfl,rfl,rfl,rfl,rfl,rfl,rfl,rfl⟩
 |k+1=>by have h:=ng y r now k;exact⟨h.c,h.s,h.j,h.room,h.term,h.sh,h.wr,by show(List.set _ _ _).length=_;rw[length_set,h.len],h.down,h.dM⟩
def xT(y:aF)(r:Int->Int)(now:Int):∀k,(c_ y r now k).2.length<=k
 |0=>Nat.le_refl _
 |k+1=>by
  have h:=xT y r now k;show((c_ y r now k).2++(ni (c_ y r now k).1 (nD y.s r k) now ((c_ y r now k).1.lines.getD k fI)).2.toList).length<=k+1;rw[length_append];have:∀q:Option bE,q.toList.length<=1:=λq=>by cases q<;>simp
  have:=this (ni (c_ y r now k).1 (nD y.s r k) now ((c_ y r now k).1.lines.getD k fI)).2;omega
def aF.iu(x:aF)(now:Int)(q p:Option cr):aF:=match x.ki now q p with
 |some o=>x.bC o now
 |none=>x
def aF.GL(x:aF)(now:Int)(q p:Option cr):cr:=match x.ki now q p with
 |some o=>if x.dc o=0 then o else fW
 |none=>fW
def pZ(o:cr):ah:=.box 46 [.int o.kind,.int o.a,.int o.b,.int o.c,.int o.d,.int o.e,.int o.f]
def Ra(z:aF)(now:Int)(o:cr)(h:List bE)(k:Nat):St:=⟨[(0,.ptr 0 0),(1,.int now),(4,.ptr 8 0),(5,.d (.val (.slice none 0 0))),(6,.ptr 9 0),(8,.sl 10 h.length 11 0 h.length),(41,.int z.lines.length),(42,.int k)],(bX z).map some++[some (pZ fW),some (pZ o),some (.dat 94 11 (h.map jQ))]⟩
def X3(x:aF)(h:CL x)(hd:x.down=false)(now:Int)(D:0<=now/\now<=1000000)(K:∀l∈x.lines,0<=l.heard/\l.heard<=1000000)(u p:Option cr)(T:aS dh 211 [aU x.s,Nh (x.mJ x.lines.length),.int now] [] (pK u) [])(O:aS dh 212 [eD x.c,aU x.s,.int now] [] (pK p) [])(r:Int->Int)
  (ac6:∀i,i<(x.iu now u p).lines.length->aS dh 213 [aU (x.iu now u p).s,.int i,.ptr 0 0] (eF (x.iu now u p).room (x.iu now u p).term (x.iu now u p).sh (x.iu now u p).wr) (jf (nD (x.iu now u p).s r i)) (eF (x.iu now u p).room (x.iu now u p).term (x.iu now u p).sh (x.iu now u p).wr)) :
  aS dh 104 [.ptr 0 0,.int now] (bX x) (.cZ [qD (x.GL now u p),Nh (c_ (x.iu now u p) r now x.lines.length).2]) (bX (c_ (x.iu now u p) r now x.lines.length).1):=by
 have J:=nS (G:=dh) x;have Rh:=AQ (G:=dh) now;have hnx:=F5 x h now D K u p T O;rw[hd]at J;rw[decide_eq_true D]at Rh;have hnt:=λo=>gd.up (wz x h o now) kP
 have JP:x.lines.length<=6:=by have:=h.lines;have:=h.right.len;omega
 have abH:(x.iu now u p).lines.length=x.lines.length:=by
  unfold aF.iu;split
  .rename_i o _;have U:=(h.note o now).lines;have h2:=h.lines;have B:=(h.note o now).right.nodes;have n:=h.right.nodes;rw[M6]at B;omega
  .rfl
 have hyc:CL (x.iu now u p):=by
  unfold aF.iu;split
  .exact h.note _ now
  .exact h
 have hY:x.iu now u p=match x.ki now u p with|some o=>x.bC o now|none=>x:=rfl
 have hQ:x.GL now u p=match x.ki now u p with|some o=>if x.dc o=0 then o else fW|none=>fW:=rfl
 generalize x.iu now u p=y at *;generalize x.GL now u p=q at *;have Lu:x.lines.length=y.lines.length:=abH.symm;rw[Lu]at JP ⊢;obtain⟨F,A⟩:∃F,F=c_ y r now y.lines.length:=⟨_,rfl⟩;rw[<- A];simp only[bX,dR,aL,sA]at J hnx;refine tW func104 ?_;simp only[bX,dR,aL,go_sem,sA];refine kG [0,1,2,3,4,5,6,7] J ?_;refine a_ Rh ?_;refine kG [0,1,2,3,4,5,6,7] hnx ?_;have H:=ng y r now;have S:=xT y r now;cases Z:x.ki now u p;case' none=>rw[Z]at hY hQ;have hY2:y=x:=hY;have E:q=fW:=hQ;subst hY2;simp only[pK,go_sem,sN]
 case' some o=>
  rw[Z]at hY hQ;have hY2:x.bC o now=y:=hY.symm;have hnt:=hnt o;rw[hY2]at hnt;simp only[bX,dR,aL,sA]at hnt;simp only[pK,go_sem,sS];refine bJ [0,1,2,3,4,5,6,7] hnt ?_;by_cases v:x.dc o=0;case' pos=>
   have E:q=o:=by rw[hQ];exact if_pos v
   simp only[v,bne_self_eq_false,go_sem]
  case' neg=>
   have E:q=fW:=by rw[hQ];exact if_neg v
   simp only[show(x.dc o !=0)=true from bne_iff_ne.2 v,go_sem]
 all_goals
  refine aQ [0,1,4,5,6,8,41,42] [.t 8 94 11] (λk:Nat=>k<=y.lines.length) (λk=>y.lines.length-k) (λk=>Ra (c_ y r now k).1 now q (c_ y r now k).2 k) 0 ?_ (zero_le _) (λk hk=>?_)
  .simp only[Ra,c_,E,pZ,bX,dR,aL,Int.natCast_zero,go_sem,sA]
  have j:=H k;have hzl:=S k;have YJ:c_ y r now (k+1)=({ (c_ y r now k).1 with lines:=(c_ y r now k).1.lines.set k (ni (c_ y r now k).1 (nD y.s r k) now ((c_ y r now k).1.lines.getD k fI)).1 },(c_ y r now k).2++(ni (c_ y r now k).1 (nD y.s r k) now ((c_ y r now k).1.lines.getD k fI)).2.toList):=rfl;by_cases X:k<y.lines.length
  .have K:=FC (c_ y r now k).1 now k (by rw[j.len];exact X) (nD y.s r k) (by rw[j.s,j.room,j.term,j.sh,j.wr];exact ac6 k X);generalize(c_ y r now k).1=z at *;generalize(c_ y r now k).2=V at *;generalize ni z (nD y.s r k) now (z.lines.getD k fI)=tl at *;have No:=j.len;simp only[bX,dR,aL,length_set,sA]at K;simp only[Ra,pZ,bX,dR,aL,No,go_sem,sA];simp only[dT ((k:Int)<(y.lines.length:Int)),go_sem];rw[No]at K;refine bJ [0,1,2,3,4,5,6,7] K ?_;obtain⟨l2,r2⟩:=tl;have c1:(V.length+1)*88<=70368744177664:=by omega
   cases r2 with
   |none=>
    simp only[jf,go_sem,sN];refine aY (k+1) ?_ ?_ (show k+1<=y.lines.length by omega) (show y.lines.length-(k+1)<y.lines.length-k by omega)
    .simp only[go_sem]
    .simp only[wS k,YJ,toList,No,length_set,Ra,pZ,bX,dR,aL,go_sem,sA]
   |some m=>
    simp only[jf,length_append,c1,go_sem,sS];refine aY (k+1) ?_ ?_ (show k+1<=y.lines.length by omega) (show y.lines.length-(k+1)<y.lines.length-k by omega)
    .simp only[go_sem]
    .simp only[wS k,YJ,toList,No,length_set,map_append,length_append,Ra,pZ,bX,dR,aL,go_sem,sA]
  .obtain rfl:k=y.lines.length:=by omega
   rw[<- A]at *;simp only[Ra,pZ,bX,dR,aL,go_sem,sA];simp only[j.len,dF ((y.lines.length:Int)<(y.lines.length:Int)),go_sem];have hid:=cw 8 (Nat.le_refl 8) F.1;simp only[bX,dR,aL,j.len,bH,qM,LV.int,LV.bool,sA]at hid;have w:take F.2.length (map jQ F.2)=map jQ F.2:=take_of_length_le (by rw[length_map];exact Nat.le_refl _);refine ue [] [0,1,2,3,4,5,6,7] [10] (vs:=[.agg [.int q.kind,.int q.a,.int q.b,.int q.c,.int q.d,.int q.e,.int q.f],.sl 10 F.2.length 11 0 F.2.length]) rfl rfl (by decide) (by decide) (by simp[St.obj,an,bQ]) ?_ hid ?_
   .simp only[map_cons,map_nil,bP,kC,gF,kQ];rfl
   simp[aR,aB,ay,bz,LV.int,LV.bool,w,St.obj,an,bQ]
section
variable(c:av)
def vp(s:aa)(n:bh):aS G 266 [aU s,BB n] [] (.bool (mQ s n)) []:=by
 refine iL func266 ?_;have e:mQ s n=(n.up&&(!n.bw&&(n.version !=gA s))):=by unfold mQ;rw[Bool.eq_iff_iff];simp[and_assoc]
 rw[e];repeat' (first|((first|with_reducible refine BZ (λh=>?_) (λh=>?_)|refine dK (λh=>?_) (λh=>?_))<;>simp only[h,go_sem])|(refine JJ (kY s) rfl rfl rfl rfl ?_;simp only[go_sem])|(refine jB (kY s) rfl rfl rfl rfl ?_;simp only[go_sem])|((first|with_reducible refine CO (λh=>?_) (λh=>?_)|refine iV (λh=>?_) (λh=>?_))<;>simp only[h,go_sem]))
structure NJ(s:aa):Prop where
 nodes:s.nodes.length<=1000
 jobs:s.jobs.length<=1000
 aM:∀k,k<s.nodes.length->0<=(s.nodes.getD k aq).aM/\(s.nodes.getD k aq).aM<=s.jobs.length
def GM.nj{c:av}{s:aa}(h:GM c s):NJ s:=by have U:=h.xw;have h2:=h.nodes;have B:=h.jobs;exact⟨by omega,by omega,λk hk=>⟨(h.node hk).2.2.1,(h.node hk).2.2.2⟩⟩
def yP(s:aa)(i:Int)(hs:NJ s):aS G 267 [aU s,.int i] [] (.bool (vr s i)) []:=by
 refine iL func267 ?_;unfold vr;cases U:decide (i<0)with
 |true=>have x:i<0:=of_decide_eq_true U;simp only[x,go_sem]
 |false=>
  have x:¬i<0:=of_decide_eq_false U;simp only[x,false_or,go_sem];cases h2:decide (i>=(s.nodes.length:Int))with
  |true=>have b:(s.nodes.length:Int)<=i:=of_decide_eq_true h2;simp only[b,go_sem]
  |false=>
   have b:¬(s.nodes.length:Int)<=i:=of_decide_eq_false h2;have h0:0<=i:=by omega
   have hk:i.toNat<s.nodes.length:=by omega
   have V:=aG (f:=cv) aq hk;have o:=hs.aM _ hk;have K:=hs.jobs;unfold nV v8;generalize s.nodes.getD i.toNat aq=n at *;simp only[h0,b,V,go_sem];cases B:(n.aM==0)with
   |true=>
    have q:n.aM=0:=by simpa using B
    simp only[q,go_sem]
   |false=>
    have q:n.aM≠0:=by simpa using B
    have S:IntKind.i64.wrap (n.aM-1)=n.aM-1:=aH (by omega) (by omega);have v:=aG (f:=dH) az (show(n.aM-1).toNat<s.jobs.length by omega);have y:0<=n.aM-1:=by omega
    generalize s.jobs.getD (n.aM-1).toNat az=j at *;have e:(decide (j.pin≠0)&&decide (j.pin≠gA s))=((j.pin !=0)&&(j.pin !=gA s)):=by rw[Bool.eq_iff_iff];simp
    simp only[e,q,S,V,v,h0,y,go_sem];repeat' (first|((first|with_reducible refine BZ (λh=>?_) (λh=>?_)|refine dK (λh=>?_) (λh=>?_))<;>simp only[h,go_sem])|(refine jB (kY s) rfl rfl rfl rfl ?_;simp only[go_sem]))
def GZ(s:aa)(k:Nat):St:=⟨[(3,.int (rJ (s.nodes.take k))),(7,bH s.nodes),(8,.int s.nodes.length),(9,.int k)],[some (.box 34 [bH s.nodes,qM s.jobs,.int s.goal,.int s.prior,.int s.mode,.int s.term])]⟩
def Rw(s:aa)(D:s.nodes.length<=1000):aS G 269 [aU s] [] (.int (rJ s.nodes)) []:=by
 refine iL func269 ?_;refine aQ [3,7,8,9] [] (λk:Nat=>k<=s.nodes.length) (λk=>s.nodes.length-k) (GZ s) 0 ?_ (zero_le _) (λk hk=>?_)
 .simp only[GZ,go_sem,rJ,filter_nil,Int.natCast_zero]
 simp only[GZ,go_sem];refine bp (λh=>?_) (λh=>?_)
 .have h:=eV h;have T:=Rx (s.nodes.take k);rw[length_take]at T;have hs:s.nodes.take (k+1)=s.nodes.take k++[s.nodes[k]]:=by rw[take_succ_eq_append_getElem h]
  have hd:=Kf (s.nodes.take k) s.nodes[k];simp only[get_map h,go_sem];cases K:s.nodes[k].cU<;>simp only[go_sem]
  .refine aY (k+1) ?_ ?_ h (by omega)
   .simp only[go_sem]
   .simp only[GZ,go_sem,wS k,hs,hd,K,Bool.false_eq_true,Int.add_zero]
  .refine aY (k+1) ?_ ?_ h (by omega)
   .simp only[go_sem]
   .simp only[GZ,go_sem,wS k,hs,hd,K,aH (show -9223372036854775808<=rJ (s.nodes.take k)+1 by omega) (by omega)]
 .obtain rfl:=eW h hk;simp only[go_sem,take_length]
def oo(c:av)(s:aa)(now:Int):LV:=.agg [.int c.nodes,.int c.bA,.int c.cF,.int c.gQ,.int c.bD,.int c.ej,.int c.deadline,.int c.room,.int c.fT,bH s.nodes,qM s.jobs,.int s.goal,.int s.prior,.int s.mode,.int s.term,.int now]
def SJ(s:aa)(now:Int)(k:Nat)(hs:NJ s)(hk:k<s.nodes.length):aS G 258 [oo c s now,.int k] [] (.cZ [qD ⟨17,k,0,0,0,0,0⟩,.bool (MZ s (s.nodes.getD k aq))]) []:=by
 refine MG func258 ?_;have V:=aG (f:=cv) aq hk;have X:=s7 s k hk;generalize s.nodes.getD k aq=n at *;obtain⟨up,D,J,x,H⟩:=n;unfold MZ;simp only[oo,V,go_sem];cases D<;>simp only[go_sem]
 cases up<;>simp only[go_sem]
 cases J<;>simp only[go_sem]
 refine a_ (vp s ⟨true,true,false,x,H⟩) ?_;cases T:mQ s ⟨true,true,false,x,H⟩<;>simp only[go_sem]
 refine a_ (yP s k hs) ?_;rw[X]
def Ni(o:Option cr):LV:=.cZ [qD (o.getD fW),.bool o.isSome]
def QG(s:aa)(now:Int)(k:Nat)(hs:NJ s)(hk:k<s.nodes.length)(U:-1000000000<=now+c.deadline/\now+c.deadline<=1000000000):aS G 259 [oo c s now,.int k] [] (Ni (nR c s now (s.nodes.getD k aq) k)) []:=by
 refine MG func259 ?_;have V:=aG (f:=cv) aq hk;have X:=s7 s k hk;have o:=hs.aM _ hk;have K:=hs.jobs;have B:IntKind.i64.wrap (now+c.deadline)=now+c.deadline:=aH (by omega) (by omega);generalize s.nodes.getD k aq=n at *;obtain⟨up,D,J,x,H⟩:=n;unfold nR;simp only[oo,V,go_sem];cases D with
 |false=>simp only[go_sem,Ni,sN]
 |true=>
 simp only[Bool.true_eq_false,false_or,go_sem];refine a_ (vp s ⟨up,true,J,x,H⟩) ?_;cases T:mQ s ⟨up,true,J,x,H⟩with
 |false=>simp only[go_sem,Ni,sN]
 |true=>
 simp only[Bool.true_eq_false,false_or,go_sem];refine a_ (yP s k hs) ?_;rw[X];cases b:nV s ⟨up,true,J,x,H⟩with
 |true=>simp only[go_sem,Ni,sN]
 |false=>
 simp only[Bool.false_eq_true,go_sem];cases q:(H==0)with
 |true=>
  have u:H=0:=by simpa using q
  simp only[u,go_sem,Ni,sS]
 |false=>
 have u:H≠0:=by simpa using q
 have S:IntKind.i64.wrap (H-1)=H-1:=aH (by dsimp only at o;omega) (by dsimp only at o;omega);have v:=aG (f:=dH) az (show(H-1).toNat<s.jobs.length by dsimp only at o;omega);have y:0<=H-1:=by dsimp only at o;omega
 generalize s.jobs.getD (H-1).toNat az=j at *;simp only[S,v,y,u,go_sem];have t:(if 1000000<=now+c.deadline then(1000000:Int)else now+c.deadline)=if now+c.deadline<1000000 then now+c.deadline else 1000000:=by split<;>split<;>omega
 rw[t];cases w:(j.phase==1)with
 |true=>
  have e:j.phase=1:=by simpa using w
  rw[if_pos e];simp only[go_sem,Ni,sS]
 |false=>
 have e:¬j.phase=1:=by simpa using w
 rw[if_neg e];simp only[go_sem];cases m:(j.phase==2)with
 |false=>
  have a:¬j.phase=2:=by simpa using m
  rw[if_neg (λh=>a h.1),if_neg (λh=>a h.1)];simp only[m,go_sem,Ni,sN]
 |true=>
 have a:j.phase=2:=by simpa using m
 simp only[a,m,go_sem];refine cc (tE _) ?_;cases E:decide (many (j.nodes % 64)>j.min)with
 |true=>have r:j.min<many (j.nodes % 64):=of_decide_eq_true E;rw[if_pos r];simp only[go_sem,Ni,sS]
 |false=>
 have r:¬j.min<many (j.nodes % 64):=of_decide_eq_false E;rw[if_neg r];simp only[m,go_sem];refine cc (vh s j.queue (by omega)) ?_;cases hd:decide (dg s.jobs j.queue<c.cF)with
 |true=>have A:=of_decide_eq_true hd;rw[if_pos A];simp only[B,go_sem,Ni,sS]
 |false=>have A:=of_decide_eq_false hd;rw[if_neg A];simp only[go_sem,Ni,sN]
def R8(s:aa)(now:Int)(k:Nat)(hs:NJ s)(hk:k<s.nodes.length):aS G 260 [oo c s now,.int k] [] (.cZ [qD ⟨16,k,0,0,0,0,0⟩,.bool (Hv c s (s.nodes.getD k aq))]) []:=by
 refine MG func260 ?_;have V:=aG (f:=cv) aq hk;have X:=s7 s k hk;generalize s.nodes.getD k aq=n at *;obtain⟨up,D,J,x,H⟩:=n;unfold Hv;simp only[oo,V,go_sem];cases D<;>simp only[go_sem]
 refine cc (vp s ⟨up,false,J,x,H⟩) ?_;cases T:mQ s ⟨up,false,J,x,H⟩<;>simp only[go_sem]
 refine cc (yP s k hs) ?_;rw[X];cases b:nV s ⟨up,false,J,x,H⟩<;>simp only[go_sem]
 refine cc (Rw s hs.nodes) trivial
end
section
variable(c:av)
def RN:Nat->Nat
 |0=>258
 |1=>259
 |_=>260
def DL(c:av)(s:aa)(now:Int):Nat->bh->Int->Option cr
 |0=>HT s
 |1=>nR c s now
 |_=>A3 c s
def tell(c:av)(s:aa)(now:Int)(i:Nat)(n:bh)(k:Nat):cr×Bool:=match i with
 |0=>(⟨17,k,0,0,0,0,0⟩,MZ s n)
 |1=>((nR c s now n k).getD fW,(nR c s now n k).isSome)
 |_=>(⟨16,k,0,0,0,0,0⟩,Hv c s n)
def RM(s:aa)(now:Int)(i:Nat)(n:bh)(k:Nat):DL c s now i n k=if(tell c s now i n k).2=true then some (tell c s now i n k).1 else none:=by
 match i with
 |0=>rfl
 |1=>simp only[DL,tell];cases nR c s now n k<;>rfl
 |i+2=>rfl
def RL(s:aa)(now:Int)(i k:Nat)(hs:NJ s)(hk:k<s.nodes.length)(U:-1000000000<=now+c.deadline/\now+c.deadline<=1000000000) :
  aS G (RN i) [oo c s now,.int k] [] (.cZ [qD (tell c s now i (s.nodes.getD k aq) k).1,.bool (tell c s now i (s.nodes.getD k aq) k).2]) []:=by
 match i with
 |0=>exact SJ c s now k hs hk
 |1=>exact QG c s now k hs hk U
 |i+2=>exact R8 c s now k hs hk
def A_(c:av)(s:aa)(now:Int):Nat->Option cr
 |0=>match f_ (HT s) s.nodes 0 with
  |some o=>some o
  |none=>match f_ (nR c s now) s.nodes 0 with
   |some o=>some o
   |none=>f_ (A3 c s) s.nodes 0
 |1=>match f_ (nR c s now) s.nodes 0 with
  |some o=>some o
  |none=>f_ (A3 c s) s.nodes 0
 |2=>f_ (A3 c s) s.nodes 0
 |_=>none
def Sm(s:aa)(now:Int)(i:Nat)(hi:i<3):A_ c s now i=match f_ (DL c s now i) s.nodes 0 with|some o=>some o|none=>A_ c s now (i+1):=by
 match i,hi with
 |0,_=>rfl
 |1,_=>rfl
 |2,_=>simp only[A_,DL];cases f_ (A3 c s) s.nodes 0<;>rfl
def Un(c:av)(s:aa)(now:Int):List LV:=[.fn (.func 258) [oo c s now] [],.fn (.func 259) [oo c s now] [],.fn (.func 260) [oo c s now] []]
def Um(s:aa)(now:Int)(i:Nat)(hi:i<3):((Un c s now).drop (i*1)).take 1=[.fn (.func (RN i)) [oo c s now] []]:=by
 match i,hi with
 |0,_=>rfl
 |1,_=>rfl
 |2,_=>rfl
def RA(c:av)(s:aa)(now:Int):List LV:=[.int c.nodes,.int c.bA,.int c.cF,.int c.gQ,.int c.bD,.int c.ej,.int c.deadline,.int c.room,.int c.fT,bH s.nodes,qM s.jobs,.int s.goal,.int s.prior,.int s.mode,.int s.term,.int now]
def ki(c:av)(s:aa)(now:Int):List (Option ah):=[some (.box 23 [.int c.nodes,.int c.bA,.int c.cF,.int c.gQ,.int c.bD,.int c.ej,.int c.deadline,.int c.room,.int c.fT]),some (.box 34 [bH s.nodes,qM s.jobs,.int s.goal,.int s.prior,.int s.mode,.int s.term]),some (.box 46 [.int 0,.int 0,.int 0,.int 0,.int 0,.int 0,.int 0]),some (.box 306 (RA c s now))]
def M8(c:av)(s:aa)(now:Int)(i:Nat):St:=⟨[(4,.ptr 1 0),(6,.ptr 2 0),(7,.bool false),(31,.agg (Un c s now)),(32,.int i)],ki c s now⟩
def F6(c:av)(s:aa)(now:Int)(i k:Nat):St:=⟨[(4,.ptr 1 0),(6,.ptr 2 0),(7,.bool false),(10,.ptr 4 0),(31,.agg (Un c s now)),(32,.int i),(37,.int s.nodes.length),(38,.int k)],ki c s now++[some (.box 308 [.fn (.func (RN i)) [oo c s now] []])]⟩
def Tc(s:aa)(now:Int)(hs:NJ s)(U:-1000000000<=now+c.deadline/\now+c.deadline<=1000000000):aS G 241 [eD c,aU s,.int now] [] (Ni (BD c s now)) []:=by
 refine MG func241 ?_;unfold BD;simp only[go_sem];cases H:(s.mode==1)with
 |true=>
  have n:s.mode=1:=by simpa using H
  simp only[n,go_sem,Ni,sN]
 |false=>
 have n:¬s.mode=1:=by simpa using H
 rw[if_neg n];show W prog G (Ends [.cn 6 7,.t 7] (Ni (A_ c s now 0))) _ _;generalize hr:A_ c s now 0=r;simp only[go_sem];have D:=hs.nodes;refine aQ [4,6,7,31,32] [] (λi:Nat=>i<=3/\A_ c s now i=r) (λi=>3-i) (M8 c s now) 0 ?_ ⟨by omega,hr⟩ ?_
 .simp only[M8,ki,Un,RA,oo,go_sem,Int.natCast_zero]
 clear hr;rintro i ⟨hi,hr⟩;simp only[M8,ki,go_sem];cases X:decide ((i:Int)<3)with
 |false=>
  have B:i=3:=by have:=of_decide_eq_false X;omega
  subst B;simp only[A_]at hr;simp only[<- hr,go_sem,Ni,sN]
 |true=>
 have B:i<3:=by have:=of_decide_eq_true X;omega
 rw[Sm c s now i B]at hr;have V:=Um c s now i B;simp only[go_sem,V,B];have K:∀m,bV m (oo c s now)=true:=λm=>rfl
 have Z:∀m,bn m (RA c s now)=true:=λm=>rfl
 have T:∀m,bn m (Un c s now)=true:=λm=>rfl
 generalize J:f_ (DL c s now i) s.nodes 0=q at hr;refine aQ [4,6,7,10,31,32,37,38] [] (λk:Nat=>k<=s.nodes.length/\f_ (DL c s now i) (s.nodes.drop k) k=q) (λk=>s.nodes.length-k) (F6 c s now i) 0 ?_ ⟨zero_le _,J⟩ ?_
 .simp only[F6,ki,go_sem,Int.natCast_zero]
 clear J;rintro k ⟨hk,A⟩;simp only[F6,ki,go_sem];refine bp (λh=>?_) (λh=>?_)
 .have h:=eV h;rw[drop_eq_getElem_cons h,f_,RM]at A;simp only[go_sem];refine jB (RL c s now i k hs h U) rfl rfl (by rfl) rfl ?_;rw[show s.nodes.getD k aq=s.nodes[k]by simp[List.getD,h]];generalize tell c s now i s.nodes[k] k=p at *;obtain⟨⟨e,a,v,u,w,E,j⟩,b⟩:=p;simp only[go_sem];cases b with
  |true=>simp only[if_true]at A;subst A;subst hr;simp only[go_sem,Ni,sS]
  |false=>
   simp only[Bool.false_eq_true,if_false]at A;simp only[go_sem];refine aY (k+1) ?_ ?_ ⟨h,A⟩ (by omega)
   .simp only[go_sem,K,Z,T]
   .simp only[F6,ki,go_sem,wS k]
 .obtain rfl:=eW h hk;rw[drop_length,f_]at A;subst A;simp only[go_sem];refine aY (i+1) ?_ ?_ ⟨B,hr⟩ (by omega)
  .simp only[go_sem,K,Z,T]
  .simp only[M8,ki,go_sem,wS i]
end
def Ir(s:aa)(now:Int)(i:Nat):Bool:=decide ((s.jobs.getD i az).phase=3)&&decide ((s.jobs.getD i az).til<=now)
def Nd(s:aa)(now:Int):List Nat:=(List.range s.jobs.length).filter (Ir s now)
def Ck(s:aa)(now:Int):Option cr:=match Nd s now with
 |[]=>none
 |k::_=>some ⟨14,((k+1:Nat):Int),0,0,0,0,0⟩
def B8(s:aa)(now:Int):Option cr:=if(s6 s now).2.2=true then some ⟨9,(s6 s now).1,(s6 s now).2.1,0,0,0,0⟩else none
def kJ(c:av)(s:aa)(now:Int):Option cr:=match Ck s now with
 |some o=>some o
 |none=>match BD c s now with
  |some o=>some o
  |none=>B8 s now
def nM(s:aa)(now:Int)(k:Nat):List Nat:=(List.range k).filter (Ir s now)
def Iq(s:aa)(now:Int)(k:Nat):nM s now (k+1)=nM s now k++(if Ir s now k=true then[k]else[]):=by unfold nM;rw[range_succ,filter_append];simp only[filter_cons,filter_nil]
def Le(s:aa)(now:Int)(k:Nat):(nM s now k).length<=k:=by have:=length_filter_le (Ir s now) (List.range k);simpa[nM]using this
structure Fi(s t:aa):Prop where
 len:t.jobs.length=s.jobs.length
 goal:t.goal=s.goal
 mode:t.mode=s.mode
 term:t.term=s.term
 aM:∀k,k<s.jobs.length->((dO t k).phase=4↔(dO s k).phase=4)/\(dO t k).epoch=(dO s k).epoch
def Fi.refl(s:aa):Fi s s:=⟨rfl,rfl,rfl,rfl,λ_ _=>⟨Iff.rfl,rfl⟩⟩
def Fi.trans{s t u:aa}(h:Fi s t)(h2:Fi t u):Fi s u:=
 ⟨h2.len.trans h.len,h2.goal.trans h.goal,h2.mode.trans h.mode,h2.term.trans h.term,λk hk=>⟨(h2.aM k (by rw[h.len];exact hk)).1.trans (h.aM k hk).1,(h2.aM k (by rw[h.len];exact hk)).2.trans (h.aM k hk).2⟩⟩
def Yn(k:Int):Bool:=decide (k=9\/k=11\/k=12\/k=14\/k=16\/k=17\/k=18\/k=20)
def O7{c:av}{s:aa}{now:Int}{o:cr}(h:kJ c s now=some o):Yn o.kind=true:=by
 unfold kJ at h;split at h
 .rename_i p O;unfold Ck at O;split at O
  .cases O
  .cases O;cases h;rfl
 .split at h
  .rename_i p O;cases h;have:=KY c s now _ O;cases this<;>rfl
  .unfold B8 at h;split at h
   .cases h;rfl
   .cases h
end Dv
namespace Go.Proofs
open Go.Shelf
def Tryz.DR:Go.Shelf.Ren:=⟨λ| 6=>276|15=>284|14=>283|28=>297|29=>298|20=>289|21=>290|22=>291|23=>292|24=>293|25=>294|26=>295|27=>296|46=>304|47=>305|48=>306|49=>307|50=>308|57=>312|n=>n,λ| 22=>29|24=>3|25=>327|3=>3|39=>260|0=>0|53=>73|55=>285|4=>4|46=>338|45=>337|50=>321|5=>5|9=>9|66=>346|70=>350|76=>353|77=>354|n=>n,λ| n=>n⟩
def Tryz.Yj:Go.Proofs.SlLaysF.n6 Tryz.prog Tryz.DR:={
 mixed:=by kernel_rfl
 f6:=⟨Tryz.f276.name,by decide,Tryz.func276.trans (congrArg some (by kernel_rfl))⟩
 f14:=⟨Tryz.f283.name,by decide,Tryz.func283.trans (congrArg some (by kernel_rfl))⟩
 f15:=Tryz.func284.trans (congrArg some (by kernel_rfl))
 f20:=⟨Tryz.f289.name,by decide,Tryz.func289.trans (congrArg some (by kernel_rfl))⟩
 f21:=⟨Tryz.f290.name,by decide,Tryz.func290.trans (congrArg some (by kernel_rfl))⟩
 f22:=⟨Tryz.f291.name,by decide,Tryz.func291.trans (congrArg some (by kernel_rfl))⟩
 f23:=⟨Tryz.f292.name,by decide,Tryz.func292.trans (congrArg some (by kernel_rfl))⟩
 f24:=⟨Tryz.f293.name,by decide,Tryz.func293.trans (congrArg some (by kernel_rfl))⟩
 f25:=⟨Tryz.f294.name,by decide,Tryz.func294.trans (congrArg some (by kernel_rfl))⟩
 f26:=⟨Tryz.f295.name,by decide,Tryz.func295.trans (congrArg some (by kernel_rfl))⟩
 f27:=⟨Tryz.f296.name,by decide,Tryz.func296.trans (congrArg some (by kernel_rfl))⟩
 f28:=Tryz.func297.trans (congrArg some (by kernel_rfl))
 f29:=Tryz.func298.trans (congrArg some (by kernel_rfl))
 f46:=⟨Tryz.f304.name,by decide,Tryz.func304.trans (congrArg some (by kernel_rfl))⟩
 f47:=Tryz.func305.trans (congrArg some (by kernel_rfl))
 f48:=Tryz.func306.trans (congrArg some (by kernel_rfl))
 f49:=⟨Tryz.f307.name,by decide,Tryz.func307.trans (congrArg some (by kernel_rfl))⟩
 f50:=⟨Tryz.f308.name,by decide,Tryz.func308.trans (congrArg some (by kernel_rfl))⟩
 f57:=⟨Tryz.f312.name,by decide,Tryz.func312.trans (congrArg some (by kernel_rfl))⟩
 t0:=Tryz.underlying0
 a0:=Tryz.isAgg0
 z0:=Tryz.sizeOf0
 v0:=Tryz.zeroValue0
 t3:=Tryz.underlying3
 a3:=Tryz.isAgg3
 z3:=Tryz.sizeOf3
 v3:=Tryz.zeroValue3
 t4:=Tryz.underlying4
 a4:=Tryz.isAgg4
 z4:=Tryz.sizeOf4
 v4:=Tryz.zeroValue4
 t5:=Tryz.underlying5
 a5:=Tryz.isAgg5
 z5:=Tryz.sizeOf5
 v5:=Tryz.zeroValue5
 t9:=Tryz.underlying9
 a9:=Tryz.isAgg9
 z9:=Tryz.sizeOf9
 v9:=Tryz.zeroValue9
 t22:=Tryz.underlying29
 a22:=Tryz.isAgg29
 z22:=Tryz.sizeOf29
 v22:=Tryz.zeroValue29
 a24:=Tryz.isAgg3
 z24:=Tryz.sizeOf3
 t25:=Tryz.underlying327
 a25:=Tryz.isAgg327
 z25:=Tryz.sizeOf327
 v25:=Tryz.zeroValue327
 t39:=Tryz.underlying260
 a39:=Tryz.isAgg260
 z39:=Tryz.sizeOf260
 v39:=Tryz.zeroValue260
 t45:=Tryz.underlying337
 a45:=Tryz.isAgg337
 z45:=Tryz.sizeOf337
 v45:=Tryz.zeroValue337
 t46:=Tryz.underlying338
 a46:=Tryz.isAgg338
 z46:=Tryz.sizeOf338
 v46:=Tryz.zeroValue338
 t50:=Tryz.underlying321
 a50:=Tryz.isAgg321
 z50:=Tryz.sizeOf321
 v50:=Tryz.zeroValue321
 t53:=Tryz.underlying73
 a53:=Tryz.isAgg73
 z53:=Tryz.sizeOf73
 v53:=Tryz.zeroValue73
 t55:=Tryz.underlying285
 a55:=Tryz.isAgg285
 z55:=Tryz.sizeOf285
 v55:=Tryz.zeroValue285
 t66:=Tryz.underlying346
 a66:=Tryz.isAgg346
 z66:=Tryz.sizeOf346
 v66:=Tryz.zeroValue346
 t70:=Tryz.underlying350
 a70:=Tryz.isAgg350
 z70:=Tryz.sizeOf350
 v70:=Tryz.zeroValue350
 t76:=Tryz.underlying353
 a76:=Tryz.isAgg353
 z76:=Tryz.sizeOf353
 v76:=Tryz.zeroValue353
 t77:=Tryz.underlying354
 a77:=Tryz.isAgg354
 z77:=Tryz.sizeOf354
 v77:=Tryz.zeroValue354 }
def Tryz.Et:Go.Shelf.Ren:=⟨λ| 7=>303|10=>311|n=>n,λ| 23=>343|26=>3|3=>4|28=>316|0=>0|27=>315|33=>124|4=>4|n=>n,λ| n=>n⟩
def Tryz.Yu:Go.Proofs.SlLaysZI.n7 Tryz.prog Tryz.Et:={
 mixed:=by kernel_rfl
 f7:=⟨Tryz.f303.name,by decide,Tryz.func303.trans (congrArg some (by kernel_rfl))⟩
 f10:=⟨Tryz.f311.name,by decide,Tryz.func311.trans (congrArg some (by kernel_rfl))⟩
 t0:=Tryz.underlying0
 a0:=Tryz.isAgg0
 z0:=Tryz.sizeOf0
 v0:=Tryz.zeroValue0
 t4:=Tryz.underlying4
 a4:=Tryz.isAgg4
 z4:=Tryz.sizeOf4
 v4:=Tryz.zeroValue4
 t23:=Tryz.underlying343
 a23:=Tryz.isAgg343
 z23:=Tryz.sizeOf343
 v23:=Tryz.zeroValue343
 t26:=Tryz.underlying3
 a26:=Tryz.isAgg3
 z26:=Tryz.sizeOf3
 v26:=Tryz.zeroValue3
 t27:=Tryz.underlying315
 a27:=Tryz.isAgg315
 z27:=Tryz.sizeOf315
 v27:=Tryz.zeroValue315
 t28:=Tryz.underlying316
 a28:=Tryz.isAgg316
 z28:=Tryz.sizeOf316
 v28:=Tryz.zeroValue316
 t33:=Tryz.underlying124
 a33:=Tryz.isAgg124
 z33:=Tryz.sizeOf124
 v33:=Tryz.zeroValue124 }
def Tryz.yY:Go.Shelf.Ren:=⟨λ| 6=>302|8=>309|9=>310|11=>313|13=>284|12=>314|23=>297|24=>298|14=>315|15=>316|16=>317|17=>318|18=>319|19=>320|20=>321|21=>322|22=>323|25=>324|26=>305|27=>306|28=>325|29=>326|30=>327|31=>328|n=>n,λ| 26=>3|28=>316|24=>29|0=>0|3=>3|37=>260|48=>73|50=>285|4=>4|40=>338|39=>337|45=>321|5=>5|9=>9|51=>346|55=>350|57=>353|58=>354|33=>124|n=>n,λ| n=>n⟩
def Tryz.VK:Go.Proofs.SlLaysZI.n6 Tryz.prog Tryz.yY:={
 mixed:=by kernel_rfl
 f6:=⟨Tryz.f302.name,by decide,Tryz.func302.trans (congrArg some (by kernel_rfl))⟩
 f8:=⟨Tryz.f309.name,by decide,Tryz.func309.trans (congrArg some (by kernel_rfl))⟩
 f11:=⟨Tryz.f313.name,by decide,Tryz.func313.trans (congrArg some (by kernel_rfl))⟩
 t0:=Tryz.underlying0
 a0:=Tryz.isAgg0
 z0:=Tryz.sizeOf0
 v0:=Tryz.zeroValue0
 t24:=Tryz.underlying29
 a24:=Tryz.isAgg29
 z24:=Tryz.sizeOf29
 v24:=Tryz.zeroValue29
 t26:=Tryz.underlying3
 a26:=Tryz.isAgg3
 z26:=Tryz.sizeOf3
 v26:=Tryz.zeroValue3
 t28:=Tryz.underlying316
 a28:=Tryz.isAgg316
 z28:=Tryz.sizeOf316
 v28:=Tryz.zeroValue316
 i26:=by kernel_rfl }
def Tryz.OI:Go.Shelf.Ren:=⟨λ| 5=>310|8=>284|7=>314|19=>297|20=>298|10=>315|11=>316|12=>317|13=>318|14=>319|15=>320|16=>321|17=>322|18=>323|30=>324|31=>305|32=>306|33=>325|34=>326|35=>327|40=>328|n=>n,λ| 23=>29|25=>3|3=>3|32=>260|22=>29|0=>0|44=>73|46=>285|4=>4|36=>338|35=>337|41=>321|5=>5|9=>9|53=>346|57=>350|63=>353|64=>354|n=>n,λ| n=>n⟩
def Tryz.Yk:Go.Proofs.SlLaysM.n5 Tryz.prog Tryz.OI:={
 mixed:=by kernel_rfl
 f5:=⟨Tryz.f310.name,by decide,Tryz.func310.trans (congrArg some (by kernel_rfl))⟩
 f7:=⟨Tryz.f314.name,by decide,Tryz.func314.trans (congrArg some (by kernel_rfl))⟩
 f8:=Tryz.func284.trans (congrArg some (by kernel_rfl))
 f10:=⟨Tryz.f315.name,by decide,Tryz.func315.trans (congrArg some (by kernel_rfl))⟩
 f11:=⟨Tryz.f316.name,by decide,Tryz.func316.trans (congrArg some (by kernel_rfl))⟩
 f12:=⟨Tryz.f317.name,by decide,Tryz.func317.trans (congrArg some (by kernel_rfl))⟩
 f13:=⟨Tryz.f318.name,by decide,Tryz.func318.trans (congrArg some (by kernel_rfl))⟩
 f14:=⟨Tryz.f319.name,by decide,Tryz.func319.trans (congrArg some (by kernel_rfl))⟩
 f15:=⟨Tryz.f320.name,by decide,Tryz.func320.trans (congrArg some (by kernel_rfl))⟩
 f16:=⟨Tryz.f321.name,by decide,Tryz.func321.trans (congrArg some (by kernel_rfl))⟩
 f17:=⟨Tryz.f322.name,by decide,Tryz.func322.trans (congrArg some (by kernel_rfl))⟩
 f18:=⟨Tryz.f323.name,by decide,Tryz.func323.trans (congrArg some (by kernel_rfl))⟩
 f19:=Tryz.func297.trans (congrArg some (by kernel_rfl))
 f20:=Tryz.func298.trans (congrArg some (by kernel_rfl))
 f30:=⟨Tryz.f324.name,by decide,Tryz.func324.trans (congrArg some (by kernel_rfl))⟩
 f31:=Tryz.func305.trans (congrArg some (by kernel_rfl))
 f32:=Tryz.func306.trans (congrArg some (by kernel_rfl))
 f33:=⟨Tryz.f325.name,by decide,Tryz.func325.trans (congrArg some (by kernel_rfl))⟩
 f34:=⟨Tryz.f326.name,by decide,Tryz.func326.trans (congrArg some (by kernel_rfl))⟩
 f35:=⟨Tryz.f327.name,by decide,Tryz.func327.trans (congrArg some (by kernel_rfl))⟩
 f40:=⟨Tryz.f328.name,by decide,Tryz.func328.trans (congrArg some (by kernel_rfl))⟩
 t0:=Tryz.underlying0
 a0:=Tryz.isAgg0
 z0:=Tryz.sizeOf0
 v0:=Tryz.zeroValue0
 t3:=Tryz.underlying3
 a3:=Tryz.isAgg3
 z3:=Tryz.sizeOf3
 v3:=Tryz.zeroValue3
 t4:=Tryz.underlying4
 a4:=Tryz.isAgg4
 z4:=Tryz.sizeOf4
 v4:=Tryz.zeroValue4
 t5:=Tryz.underlying5
 a5:=Tryz.isAgg5
 z5:=Tryz.sizeOf5
 v5:=Tryz.zeroValue5
 t9:=Tryz.underlying9
 a9:=Tryz.isAgg9
 z9:=Tryz.sizeOf9
 v9:=Tryz.zeroValue9
 t22:=Tryz.underlying29
 a22:=Tryz.isAgg29
 z22:=Tryz.sizeOf29
 v22:=Tryz.zeroValue29
 t23:=Tryz.underlying29
 a23:=Tryz.isAgg29
 z23:=Tryz.sizeOf29
 v23:=Tryz.zeroValue29
 t25:=Tryz.underlying3
 a25:=Tryz.isAgg3
 z25:=Tryz.sizeOf3
 v25:=Tryz.zeroValue3
 t32:=Tryz.underlying260
 a32:=Tryz.isAgg260
 z32:=Tryz.sizeOf260
 v32:=Tryz.zeroValue260
 t35:=Tryz.underlying337
 a35:=Tryz.isAgg337
 z35:=Tryz.sizeOf337
 v35:=Tryz.zeroValue337
 t36:=Tryz.underlying338
 a36:=Tryz.isAgg338
 z36:=Tryz.sizeOf338
 v36:=Tryz.zeroValue338
 t41:=Tryz.underlying321
 a41:=Tryz.isAgg321
 z41:=Tryz.sizeOf321
 v41:=Tryz.zeroValue321
 t44:=Tryz.underlying73
 a44:=Tryz.isAgg73
 z44:=Tryz.sizeOf73
 v44:=Tryz.zeroValue73
 t46:=Tryz.underlying285
 a46:=Tryz.isAgg285
 z46:=Tryz.sizeOf285
 v46:=Tryz.zeroValue285
 t53:=Tryz.underlying346
 a53:=Tryz.isAgg346
 z53:=Tryz.sizeOf346
 v53:=Tryz.zeroValue346
 t57:=Tryz.underlying350
 a57:=Tryz.isAgg350
 z57:=Tryz.sizeOf350
 v57:=Tryz.zeroValue350
 t63:=Tryz.underlying353
 a63:=Tryz.isAgg353
 z63:=Tryz.sizeOf353
 v63:=Tryz.zeroValue353
 t64:=Tryz.underlying354
 a64:=Tryz.isAgg354
 z64:=Tryz.sizeOf354
 v64:=Tryz.zeroValue354 }
end Go.Proofs
namespace Dv
open Go List Nat Go.Proofs.Tryz Go.World
section
variable{w w':World}{o:Oper}
def yL{α:Type} : ∀(k:Ask α) (w:World),w.drawn<=(w.ask k).2.drawn
 |.done a,w=>Nat.le_refl _
 |.ask b range k,w=>by
  unfold World.ask;dsimp only;split
  .exact yL _ w
  .exact Nat.le_trans (le_succ _) (yL (k _) { w with drawn:=w.drawn+1 })
def Ox(w:World)(c:Sys):w.drawn<=(w.sys c).2.drawn:=by
 unfold World.sys;have h:=yL (Kernel.perform c w.os) w;split
 .exact Nat.le_refl _
 .rename_i e;rw[e]at h;exact h
def Qd{P:Program}{a:Addr}{v:Value}{at_:Bool}{l:List Addr}(h:w.farStore P a v at_=.ok (w',l)):w'.drawn=w.drawn:=by
 unfold farStore at h;split at h
 .split at h
  .rename_i r hr;cases h;unfold viewStore at hr;simp only[bind,Except.bind,pure,Except.pure]at hr;repeat' split at hr
   all_goals (try (cases hr;done))
   all_goals (cases hr;rfl)
  .cases h
 .cases h
def ee(P:Program){α:Type} : ∀(s:Sem α) (w:World) (v:α) (w':World),s.run P w=.ok v w'->w.drawn<=w'.drawn
 |.pure a,w,v,w',h=>by cases h;exact Nat.le_refl _
 |.load m a k,w,v,w',h=>by
  unfold Sem.run at h;split at h
  .exact ee P _ _ _ _ h
  .split at h
   .exact ee P _ _ _ _ h
   .cases h
 |.store m a u k,w,v,w',h=>by
  have key:(match w.cell? a with
   |some _=>if w.frozen? a then Result.halt (.unsupported (.unsafePointer "a write to bytes that a string shares")) w else k.run P (w.setCell a u)
   |none=>match w.farStore P a u (m==Mode.atomic)with
    |.ok (w,_)=>k.run P w
    |.error h=>.halt h w)=.ok v w'->w.drawn<=w'.drawn:=by
   intro K;split at K
   .split at K
    .cases K
    .exact ee P k (w.setCell a u) _ _ K
   .split at K
    .rename_i t l V;have:=ee P k t _ _ K;rw[Qd V]at this;exact this
    .cases K
  cases u<;>first|exact key h|(cases h;done)
 |.new o k,w,v,w',h=>ee P (k w.heap.size) { w with heap:=w.heap.push o } v w' h
 |.shape r k,w,v,w',h=>ee P (k (w.shape? r)) w v w' h
 |.freeze a n k,w,v,w',h=>by
  have:=ee P k (w.freeze a n) v w' h;have e:(w.freeze a n).drawn=w.drawn:=by unfold World.freeze;split<;>rfl
  rw[e]at this;exact this
 |.frozen a k,w,v,w',h=>ee P (k (w.frozen? a)) w v w' h
 |.getObj r k,w,v,w',h=>by
  unfold Sem.run at h;split at h
  .cases h
  .exact ee P _ _ _ _ h
  .cases h
 |.setObj r o k,w,v,w',h=>by
  unfold Sem.run at h;split at h
  .cases h
  .exact ee P k { w with heap:=w.heap.setIfInBounds r o } v w' h
  .cases h
 |.choose q k,w,v,w',h=>by
  unfold Sem.run at h;split at h
  .exact ee P (k 0) w v w' h
  .exact Nat.le_trans (le_succ _) (ee P (k _) { w with drawn:=w.drawn+1 } v w' h)
 |.sys c k,w,v,w',h=>Nat.le_trans (Ox w c) (ee P (k (w.sys c).1) (w.sys c).2 v w' h)
 |.program k,w,v,w',h=>ee P (k P) w v w' h
 |.mark _ k,w,v,w',h=>ee P k w v w' h
 |.halt x,w,v,w',h=>by cases h
def sq(o:Oper):Bool:=match o.op with
 |.move _ | .assign _ | .pick .. | .alloc _ | .box .. | .load .. | .store .. | .binOp .. | .fieldAddr .. | .indexAddr ..=>true
 |_=>false
def O4{P:Program}{ρ:Operand->Value}(h:sq o=true){n:Next}(hr:(execOp ρ o).run P w=.ok n w'):w.drawn<=w'.drawn/\((∃v,n=.value v)\/n=.skip):=by
 refine⟨ee P _ _ _ _ hr,?_⟩;obtain⟨dst,op,type,pos,after,guard⟩:=o;cases op<;>simp only[sq,Bool.false_eq_true]at h<;>simp only[execOp,Sem.run_bind,Sem.run_pure]at hr<;>(try (cases hr;exact .inl ⟨_,rfl⟩))<;>
  (first
   |(cases hs:Sem.run P _ w with
     |ok v t=>rw[hs]at hr;simp only[Result.andThen_ok]at hr;cases hr;first|exact .inl ⟨_,rfl⟩|exact .inr rfl
     |halt x t=>rw[hs]at hr;cases hr)
   |(cases hs:Sem.run P (eqGuard _ _ _ _ _ _) w with
     |ok v t=>
      rw[hs]at hr;simp only[Result.andThen_ok]at hr;cases b:Sem.run P (Go.binOp _ _ _ _) t with
      |ok a m=>rw[b]at hr;simp only[Result.andThen_ok]at hr;cases hr;exact .inl ⟨_,rfl⟩
      |halt x m=>rw[b]at hr;cases hr
     |halt x t=>rw[hs]at hr;cases hr))
section
variable {P:Program} {ops:Array Oper} {Q:Exit->Act->World->Prop} {nn:Nat}
def QD(c:Nat)(Q:Exit->Act->World->Prop):Exit->Act->World->Prop:=λe a w=>Q e a w/\((e=.normal\/e=.ret)->c<=w.drawn)
def Yp(O:sq o=true){c:Nat}{a:Act}{K U:Act->World->Prop}(T:c<=w.drawn)(A:∀b w',c<=w'.drawn->K b w'->U b w')(h:o.wpIn (fz none) nn P a w K Q):o.wpIn (fz none) nn P a w U (QD c Q):=by
 unfold Oper.wpIn at *;refine⟨h.1,?_⟩;have h:=h.2;have hs:(o.semAt (fz none).round a.eval)=execOp a.eval o:=rfl;rw[hs]at h ⊢;cases hr:(execOp a.eval o).run P w with
 |ok n w'=>
  obtain⟨H,h2⟩:=O4 O hr;rw[hr]at h;rcases h2 with ⟨v,rfl⟩|rfl
  .exact A _ _ (Nat.le_trans T H) h
  .exact A _ _ (Nat.le_trans T H) h
 |halt x w'=>rw[hr]at h;cases x<;>first|exact h.elim|exact⟨h,by rintro(h|h)<;>cases h⟩
def xN{c:Nat} : ∀(os:List Oper) (a:Act) (w:World),os.all sq=true->c<=w.drawn->wpListIn (fz none) nn P ops Q os a w->wpListIn (fz none) nn P ops (QD c Q) os a w
 |[],a,w,_,T,h=>⟨h,λ_=>T⟩
 |o::os,a,w,X,T,h=>by
  simp only[all_cons,Bool.and_eq_true]at X;unfold wpListIn at *;split
  .rename_i y;rw[if_pos y]at h;exact Yp X.1 T (λb w' m j=>xN os b w' X.2 m j) h
  .rename_i y;rw[if_neg y]at h;exact⟨h.1,xN os _ w X.2 T h.2⟩
def rH{c:Nat}(X:ops.all sq=true):∀(fuel:Nat) (listed:Array Bool) (a:Act) (w:World),c<=w.drawn->wpAnyIn (fz none) nn P .any ops Q fuel listed a w->wpAnyIn (fz none) nn P .any ops (QD c Q) fuel listed a w
 |0,listed,a,w,T,h=>⟨h.1,h.2,λ_=>T⟩
 |fuel+1,listed,a,w,T,h=>by
  refine⟨λe=>⟨h.1 e,λ_=>T⟩,λi hi=>?_⟩;have h2:=h.2 i hi;unfold wpOpIn at *;cases O:ops[i]? with
  |none=>rw[O]at h2;exact rH X fuel _ a w T h2
  |some o=>
   rw[O]at h2;have k:sq o=true:=by obtain⟨q,rfl⟩:=Array.getElem?_eq_some_iff.1 O;exact(Array.all_eq_true.1 X) i q
   dsimp only at h2 ⊢;split
   .rename_i y;rw[if_pos y]at h2;exact Yp k T (λb w' m j=>rH X fuel _ b w' m j) h2
   .rename_i y;rw[if_neg y]at h2;exact⟨h2.1,rH X fuel _ _ w T h2.2⟩
end
def mu:Code->C->Bool
 |.skip,_=>true
 |.region _ ops false,_=>ops.all sq
 |.region _ ops true,.mK _=>ops.all sq
 |.seq a b,.seq c d=>mu a c&&mu b d
 |.cond _ a b,.cond _ c d=>mu a c&&mu b d
 |.ret,_=>true
 |_,_=>false
section
variable {P:Program} {G:tY} {D:Dk} {N:Nat} {aX:Nat->bK} {J0:Nat->Prop} {bR:fe} {w0:World} {nn:Nat}
def kN(n0:Nat):∀(code:Code) (c:C),mu code c=true->dW P N code=some c->∀(s:St) (K:CT),vc P G c s K->pE P G none K.y D N aX J0 bR w0->∀a w,n0<=w.drawn->mF G D N aX J0 bR w0 s a w->code.wpIn (fz none) nn P (QD n0 (KQ G D N aX J0 bR w0 K)) a w
 |.skip,c,X,U,s,K,h,k,a,w,T,u=>by simp only[dW]at U;cases U;exact wpIn_skip ⟨⟨s,u,h⟩,λ_=>T⟩
 |.region rid ops draw,c,X,U,s,K,h,k,a,w,T,u=>by
  simp only[dW]at U;split at U
  .rename_i gh Gn;cases U;cases draw with
   |false=>simp only[mu]at X;simp only[Bool.false_eq_true,if_false,vc]at h;simp only[qV,Bool.false_eq_true,if_false]at Gn;obtain⟨H,h2⟩:=oG Gn;refine wpIn_region_list (xN _ _ _ ?_ T (ya (Q:=KQ G D N aX J0 bR w0 K) k (K:=K.n) (λs a w u hK=>⟨s,u,hK⟩) (λv s a w hd hO hX=>⟨v,s,rfl,hd,hO,hX⟩) _ _ _ _ _ H h2 h u));rw[all_eq_true];intro o O;obtain⟨i,hi,rfl⟩:=Array.getElem_of_mem (Array.mem_toList_iff.1 O);exact(Array.all_eq_true.1 X) i hi
   |true=>
    simp only[if_true]at h X;unfold Ky at h X;split at h
    .rename_i p r;rw[r]at X;dsimp only at X;split at X
     .simp only[mu,Bool.false_eq_true]at X
     .rename_i j;rw[j]at h;simp only[mu]at X;simp only[vc]at h;have hd:=Cq (Q:=KQ G D N aX J0 bR w0 K) (nn:=nn) (ro:=none) (K:=K.n) (λs a w u hK=>⟨s,u,hK⟩) (λv s a w hd hO hX=>⟨v,s,rfl,hd,hO,hX⟩) Gn h u;exact wpIn_region_any hd.1 (rH X _ _ _ _ (le_succ_of_le T) hd.2)
    .rename_i r;rw[r]at X;simp only[mu]at X;simp only[vc]at h;have hd:=Cq (Q:=KQ G D N aX J0 bR w0 K) (nn:=nn) (ro:=none) (K:=K.n) (λs a w u hK=>⟨s,u,hK⟩) (λv s a w hd hO hX=>⟨v,s,rfl,hd,hO,hX⟩) Gn h u;exact wpIn_region_any hd.1 (rH X _ _ _ _ (le_succ_of_le T) hd.2)
  .cases U
 |.seq x y,c,X,U,s,K,h,k,a,w,T,u=>by
  simp only[dW]at U;split at U
  .rename_i cx cy H h2;cases U;simp only[mu,Bool.and_eq_true]at X;refine wpIn_seq (wpIn_mono (kN n0 x cx X.1 H s _ h k a w T u) (λe b w' hQ=>?_));obtain⟨hQ,hd⟩:=hQ;cases e with
   |normal=>obtain⟨Z,V,h'⟩:=hQ;exact kN n0 y cy X.2 h2 Z K h' k b w' (hd (.inl rfl)) V
   |ret=>exact⟨hQ,hd⟩
   |exit i=>exact⟨hQ,hd⟩
   |goto l=>exact⟨hQ,hd⟩
   |panic ch=>exact⟨hQ,hd⟩
   |outgrown=>exact⟨hQ,hd⟩
  .cases U
 |.cond x p q,c,X,U,s,K,h,k,a,w,T,u=>by
  simp only[dW]at U;split at U
  .rename_i cx cp cq H h2 m;cases U;simp only[mu,Bool.and_eq_true]at X;simp only[vc]at h;split at h
   .rename_i t B;have A:a.eval x=.bool t:=by
     obtain⟨J,ι,S,E⟩:=u.ex;have hr:=aZ S.store S.env H;rw[B]at hr;exact hr
    exact wpIn_cond_split A (λhh=>kN n0 p cp X.1 h2 s K (by rw[if_pos hh]at h;exact h) k a w T u) (λhh=>kN n0 q cq X.2 m s K (by rw[if_neg (by simp[hh])]at h;exact h) k a w T u)
   .rename_i B;obtain⟨t,A⟩:∃t,a.eval x=.bool t:=by
     obtain⟨J,ι,S,E⟩:=u.ex;have hr:=aZ S.store S.env H;rw[B]at hr;exact hr
    exact wpIn_cond_split A (λhh=>kN n0 p cp X.1 h2 s K h.1 k a w T u) (λhh=>kN n0 q cq X.2 m s K h.2 k a w T u)
   .exact h.elim
  .cases U
 |.ret,c,X,U,s,K,h,k,a,w,T,u=>by simp only[dW]at U;cases U;exact wpIn_ret ⟨⟨s,u,h⟩,λ_=>T⟩
def aa6{f:Nat}{fn:Func}{x:Nat×C×List RV}{args:List LV}{r:LV}(V:P.funcs[f]? = some fn)(T:(fn.name != "runtime.NumGoroutine")=true)(b:bM P fn=some x)(y:ble args.length x.1=true)(hid:bV 0 r=true)
  (X:(match fn.body with|some c=>mu c x.2.1|none=>false)=true) (h:W P G (Ends x.2.2 r) [.c x.2.1] ⟨dU 0 args,[]⟩) (J0:Nat->Prop) (bR:fe) (w0:World) (vs:Array Value) (m:aA G J0 w0 bR (an [])) (q:cm J0 w0 bR args vs.toList) :
  Calls P f vs w0 (λe w'=>∃v,e=.returned v/\aO G (an []) (an []) J0 bR w0 r v w'/\w0.drawn<=w'.drawn):=by
 unfold bM at b;split at b
 .rename_i code A;split at b
  .rename_i c' rv' U j;split at b;case isFalse=>cases b
   rename_i o;cases b;rw[A]at X;simp only[W,Wx]at h;have u:=xz (n:=fn.ntmps) (ai:=[]) m q (le_of_ble_eq_true y) o;refine(pV (ro:=none) (n:=0)).1 (callsIn_of_wp V A trivial (wpIn_mono (kN (D:=Dk.plain [] false) (N:=fn.ntmps) (aX:=an []) (J0:=J0) (bR:=bR) (w0:=w0) w0.drawn code c' X U _ _ h pE.no _ w0 (Nat.le_refl _) u) (λe a w t=>?_)));obtain⟨t,hd⟩:=t;have fin:∀s,mF G (Dk.plain [] false) fn.ntmps (an []) J0 bR w0 s a w->Ends rv' r s->w0.drawn<=w.drawn->
     a.defers=[]/\∃v,(results fn a.tmps).run P w=.ok v w/\∃v',Ending.returned v=.returned v'/\aO G (an []) (an []) J0 bR w0 r v' w/\w0.drawn<=w.drawn:=by
    intro s u Z hdr;obtain⟨J,ι,S,E⟩:=u.ex;unfold Ends at Z;split at Z
    .rename_i rs O;cases Z;refine⟨S.defers.none rfl,?_⟩;obtain⟨v,hv1,k⟩:=Gx (r:=aR rs) [] S.store S.env m E j O (λ_ h=>by cases h) (sY _ _ _ _ hid);exact⟨v,hv1,v,rfl,k,hdr⟩
    .cases Z
   cases e with
   |normal=>obtain⟨s,u,Z⟩:=t;exact fin s u Z (hd (.inl rfl))
   |ret=>obtain⟨s,u,Z⟩:=t;exact fin s u Z (hd (.inr rfl))
   |exit i=>obtain⟨_,s,u,Z⟩:=t;exact Z.elim
   |goto l=>exact t.elim
   |panic B=>obtain⟨v,s,H,h2,K,hk⟩:=t;exact hk.elim
   |outgrown=>exact t.elim
  .cases b
 .cases b
end
end
variable {G:tY}
section
open Go.Proofs Go.Sort Go.Shelf
variable{J:Nat->Prop}{ι:fe}{w:World}
def aeO:=qx f278
def aez:bM prog f278=some aeO:=by kernel_rfl
def zV(s:aa)(i j:Nat):Int:=if e_ s i=e_ s j then(i:Int)-j else e_ s j-e_ s i
def Bt(s:aa)(i j:Nat):decide (zV s i j<0)=GR s i j:=by
 unfold zV GR;rw[Bool.eq_iff_iff,decide_eq_true_eq,decide_eq_true_eq]
 split<;>omega
def NT(s:aa):Prop:=∀i,i<s.jobs.length->0<=e_ s i/\e_ s i<=1000000
def HR(s:aa)(Z:s.jobs.length<=1000000)(O:NT s)(i j:Nat)(hi:i<s.jobs.length)(hj:j<s.jobs.length){vs:Array Value}(S:aA G J w ι (an []))(r:cm J w ι [aU s,.int ((i+1:Nat):Int),.int ((j+1:Nat):Int)] vs.toList) :
  Calls prog 278 vs w (λe w'=>∃v,e=.returned v/\aO G (an []) (an []) J ι w (.int (zV s i j)) v w'/\w.drawn<=w'.drawn):=by
 refine aa6 func278 (by decide) aez rfl rfl (by kernel_rfl) ?_ J ι w vs S r;have a:=aG (f:=dH) az hi;have K:=aG (f:=dH) az hj;have b:=O i hi;have c:=O j hj;have o:IntKind.i64.wrap (((i+1:Nat):Int)-1)=(i:Int):=by rw[aH (by omega) (by omega)];omega
 have V:IntKind.i64.wrap (((j+1:Nat):Int)-1)=(j:Int):=by rw[aH (by omega) (by omega)];omega
 have X:IntKind.i64.wrap (((i+1:Nat):Int)-((j+1:Nat):Int))=(i:Int)-j:=by rw[aH (by omega) (by omega)];omega
 have n:IntKind.i64.wrap (e_ s j-e_ s i)=e_ s j-e_ s i:=aH (by omega) (by omega);unfold zV;unfold e_ at *;generalize s.jobs.getD i az=x at *;generalize s.jobs.getD j az=y at *;simp only[dH]at a K;simp only[aeO,o,V,X,a,K,go_sem];refine dQ ?_;by_cases h:x.prio=y.prio
 .simp only[h,bne_self_eq_false,X,go_sem]
 .simp only[show(x.prio !=y.prio)=true from bne_iff_ne.2 h,h,n,go_sem]
def Dq{G:tY}{w':World}{r:LV}{v:Value}(h:aO G (an []) (an []) J ι w r v w')(hd:w.drawn<=w'.drawn):∃q y,w'=grow (w.drewN q) y:=by
 obtain⟨J',ι',_,_,E⟩:=h;have Z:∀b,¬Own ι (an []) b:=λb ⟨o,j⟩=>by simp[an,bK.own]at j
 have x:w'.heap=w.heap++w'.heap.extract w.heap.size w'.heap.size:=by
  apply Array.ext_getElem?;intro i;rw[Array.getElem?_append];split
  .rename_i hi;exact E.ev.same i hi (Z i)
  .rename_i hi;rw[Array.getElem?_extract];have:=E.ev.size;split
   .congr 1;omega
   .exact Array.getElem?_eq_none (by omega)
 refine⟨w'.drawn-w.drawn,w'.heap.extract w.heap.size w'.heap.size,?_⟩;have B:=E.ev.os;have V:=E.ev.tape;have X:=E.ev.output;clear E Z;cases w' with
 |mk h0 t0 c o0 a=>simp only at B V X x hd;subst B V X;simp only[grow,drewN,Nat.add_sub_cancel' hd];rw[<- x]
def Ip(s:aa)(Z:s.jobs.length<=1000000)(O:NT s)(i j:Nat)(hi:i<s.jobs.length)(hj:j<s.jobs.length)(S:aA G J w ι (an [])){bs:Nat}{C:Array Value}{et:TypeId}(T:w.heap[bs]? = some (.cells C et (0,0)))
  (c:bx J w ι [bH s.nodes,qM s.jobs,.int s.goal,.int s.prior,.int s.mode,.int s.term] C.toList) :
  Calls prog 277 #[.int .i64 ((i+1:Nat):Int),.int .i64 ((j+1:Nat):Int),.pointer (some ⟨bs,0,none⟩)] w (λe w'=>e=.returned (.int .i64 (zV s i j))/\∃q y,w'=grow (w.drewN q) y):=by
 obtain⟨cl⟩:=C
 match cl,c with
 |[x0,x1,x2,x3,x4,x5],⟨o0,r0,U,r1,t,K,H,r3,A,r4,X,r5,_⟩=>
 have V:∀k v,([x0,x1,x2,x3,x4,x5]:List Value)[k]? = some v->w.cell? ⟨bs,k,none⟩=some v:=λk v hk=>by simp only[cell?,T];simpa using hk
 have h:=V 0 x0 rfl;have c1:=V 1 x1 rfl;have E:=V 2 x2 rfl;have x:=V 3 x3 rfl;have n:=V 4 x4 rfl;have u:=V 5 x5 rfl;have o:=HR (w:=w) (vs:=#[.agg #[x0,x1,x2,x3,x4,x5],.int .i64 ((i+1:Nat):Int),.int .i64 ((j+1:Nat):Int)]) s Z O i j hi hj S ⟨⟨_,rfl,o0,r0,U,r1,t,K,H,r3,A,r4,X,r5,trivial⟩,rfl,rfl,trivial⟩;clear V T r0 r1 K r3 r4 r5;generalize((i+1:Nat):Int)=a at *;generalize((j+1:Nat):Int)=b at *;generalize zV s i j=r at *
 go_enter func277,ntmps277
 go_wp2_with (go_at_call 278;refine o.mono ?_;rintro e w' ⟨v,rfl,D,hd⟩;obtain⟨q,y,rfl⟩:=Dq D hd;obtain⟨_,_,_,B,_⟩:=D;obtain rfl:v=.int .i64 r:=B)
 go_ret
 exact⟨rfl,q,y,rfl⟩
end
section
open Go.Proofs Go.Sort Go.Shelf
variable{n k:Nat}{t:TypeId}
def og(l:List (Fin n)):List (List DV):=l.map λi=>[i64 ((i.val+1:Nat):Int)]
def oh(i:Fin n):Value:=.int .i64 ((i.val+1:Nat):Int)
def za{J:Nat->Prop}{w:World}{n:Nat} : ∀(l:List (Fin n)) (b off:Nat),(∀k x,l[k]? = some x->w.cell? ⟨b,off+k,none⟩=some (oh x))->bq J w 1 (og l) b off
 |[],_,_,_=>trivial
 |x::l,b,off,h=>⟨rfl,⟨⟨oh x,h 0 x rfl,rfl,rfl⟩,trivial⟩,za l b (off+1) (λk y hk=>by have:=h (k+1) y hk;rwa [show off+(k+1)=off+1+k by omega]at this)⟩
section
variable {α:Type} [Inhabited α] (enc:α->Value) (w:World) (blk m:Nat) (d:Array α) (os:Array Obj)
def rP(T:blk<w.heap.size)(hk:k<w.heap.size)(a:k≠blk):(sortWorld enc w blk 0 m d os).heap[k]? = w.heap[k]?:=by unfold sortWorld;rw[heap_grow_old _ _ (by rw[Go.Sort.size_putRow];exact hk)];unfold putRow mapBlock;show(w.heap.modify blk _)[k]? = _;rw[Array.getElem?_modify];rw[if_neg (λe=>a e.symm)]
def RR{C:Array Value}{f:Nat×Nat}(T:w.heap[blk]? = some (.cells C t f)):(sortWorld enc w blk 0 m d os).heap[blk]? = some (.cells (putCells enc 0 d C) t f):=by have X:=(Array.getElem?_eq_some_iff.1 T).1;unfold sortWorld;rw[heap_grow_old _ _ (by rw[Go.Sort.size_putRow];exact X)];unfold putRow mapBlock;show(w.heap.modify blk _)[blk]? = _;rw[Array.getElem?_modify,if_pos rfl,T];rfl
def VJ:w.heap.size<=(sortWorld enc w blk 0 m d os).heap.size:=by unfold sortWorld grow;simp[Go.Sort.size_putRow,Sort.ahead]
def Hp{C:Array Value}{f:Nat×Nat}(T:w.heap[blk]? = some (.cells C t f))(hk:k<w.heap.size):(sortWorld enc w blk 0 m d os).shape? k=w.shape? k:=by
 by_cases e:k=blk
 .subst e;unfold shape?;rw[RR enc w k m d os T,T];simp[putCells]
 .exact bI (rP enc w blk m d os (Array.getElem?_eq_some_iff.1 T).1 hk e)
end
def acS(s:aa):SWO (ltOf (λx y:Fin s.jobs.length=>zV s x.val y.val)) where
 irrefl x:=by unfold ltOf;rw[Bt];exact aaL s _
 trans x y z U h2:=by unfold ltOf at *;rw[Bt]at *;exact JA U h2
 ntrans x y z U h2:=by
  unfold ltOf at *;rw[Bt]at *;cases h:GR s x.val z.val with
  |false=>rfl
  |true=>
   by_cases e:y.val=x.val
   .rw [<- e]at h;rw[h]at h2;exact h2
   .rcases JB (s:=s) (λh=>e h.symm)with k|k
    .rw [k]at U;exact U
    .have:=JA k h;rw[this]at h2;exact h2
def acR(s:aa)(x y:Fin s.jobs.length)(U:ltOf (λx y:Fin s.jobs.length=>zV s x.val y.val) x y=false)(h2:ltOf (λx y:Fin s.jobs.length=>zV s x.val y.val) y x=false):x=y:=by
 unfold ltOf at *;rw[Bt]at *;by_cases e:x.val=y.val
 .exact Fin.ext e
 .rcases JB (s:=s) e with k|k
  .rw [k]at U;cases U
  .rw [k]at h2;cases h2
def R4(s:aa)(u:s.jobs.length<=1000000)(O:NT s)(l:List (Fin s.jobs.length))(Lu:l.length<=1000000) :
  aS G 276 [.sl 0 l.length 1 0 l.length,.fn (.func 277) [] [.ptr 1 0]] [.dat 3 1 (og l),fM s] (.cZ []) [.dat 3 1 (og (l.mergeSort λx y=>!GR s y.val x.val)),fM s]:=by
 refine⟨by decide,λJ ι w vs S X=>?_⟩;obtain⟨vl⟩:=vs
 match vl,X with
 |[v0,v1],⟨h0,U,_⟩=>
 obtain⟨fs,cs,rfl,Xr,hcs⟩:=U;obtain⟨fl⟩:=fs;obtain⟨cl⟩:=cs
 match fl,Xr,cl,hcs with
 |[],_,[p],⟨⟨bs,Y0,hpv⟩,_⟩=>
 subst hpv;by_cases qO:l=[]
 .subst qO;rw[mergeSort_nil];obtain⟨p,cap,rfl⟩:∃p cap,v0=.slice p 0 cap:=by
   rcases h0 with ⟨_,a,rfl⟩|⟨b,cap,et,C,_,rfl,_⟩
   .exact ⟨a,0,rfl⟩
   .exact ⟨_,cap,rfl⟩
  have K:=AnyF.slices_SortFunc_none (P:=prog) (ρ:=Tryz.DR) { Tryz.Yj with } p cap (.func (.func 277) #[] #[.pointer (some ⟨bs,0,none⟩)]) w;change Calls prog 276 _ _ _ at K;refine K.mono ?_;rintro e w' ⟨rfl,rfl⟩;exact⟨.tuple #[],rfl,aO.stay S (show cW J _ ι (.cZ []) (.tuple #[])from⟨#[],rfl,trivial⟩)⟩
 obtain⟨x0,_⟩:=exists_mem_of_ne_nil l qO;haveI:Inhabited (Fin s.jobs.length):=⟨x0⟩;have hpos:0<l.length:=length_pos_iff.2 qO;obtain⟨b,cap,et',C',T,rfl,hcap,_,_⟩:=h0.resolve_left (λh=>by omega);have abP:=S.rep 0;have abO:=S.rep 1;obtain⟨⟨_,PU⟩,hkey⟩:=abP;have hlen:(og l).length=l.length:=length_map _;rw[hlen]at PU;obtain⟨⟨C,hC⟩,hrows⟩:=PU b T;obtain⟨⟨bs',B,aci,A,hBc⟩,_⟩:=abO;rw[Y0]at aci;cases aci;have PV:=(Array.getElem?_eq_some_iff.1 hC).1;have IC:(an (map some [ah.dat 3 1 (og l),fM s]) 0).own ι 0 b:=by show ι 0 (og l).length=some b;rw[hlen];exact T
 have B7:(an (map some [ah.dat 3 1 (og l),fM s]) 1).own ι 1 bs:=Y0;have hne:bs≠b:=λe=>by have:=S.inj 1 0 b (by rw[<- e];exact B7) IC;cases this
 have hnJ:∀k,J k->k≠b:=λk hk e=>S.pX 0 b IC (e▸hk)
 have hcell:∀k x,l[k]? = some x->w.cell? ⟨b,k,none⟩=some (oh x):=λk x hk=>by
  have hr:(og l)[k]? = some [i64 ((x.val+1:Nat):Int)]:=by unfold og;rw[getElem?_map,hk];rfl
  obtain⟨_,h⟩:=hrows.get hr;obtain⟨v,U,_,t⟩:=h.get (i:=0) rfl;have t:v=oh x:=t;rw[t]at U;simpa using U
 have hH:Holds oh w b 0 l.toArray:=λj hj=>by
  have hj':j<l.length:=by simpa using hj
  have q:l[j]? = some l[j]:=getElem?_eq_getElem hj';have e:l.toArray[j]! = l[j]:=by simp[hj']
  rw[e,Nat.zero_add];exact⟨hcell j _ q,by simp[frozen?,hC]⟩
 obtain⟨S0,_⟩:=S.sub (ρ:=[]) (Z:=[]) (ai:=[]) (base:=0) nodup_nil (λ_ h=>by cases h) rfl (λi o h=>by simp at h) rfl (λ_ h=>by cases h);have hcmp:CmpLays1 prog 277 #[.pointer (some ⟨bs,0,none⟩)] oh (λx y:Fin s.jobs.length=>zV s x.val y.val) b 0 l.toArray.size w:=λm os dk hs x y=>by
  have hds:=m_ (ds:=[.cM 5 (s.nodes.map cv),.cM 12 (s.jobs.map dH),i64 s.goal,i64 s.prior,i64 s.mode,i64 s.term]) rfl hBc.CV;have hJ':∀k,(J k\/DC ι (an (map some [ah.dat 3 1 (og l),fM s])) [] k)->J k:=λk h=>h.resolve_right (λ⟨z,V,_⟩=>by cases V)
  have hsame:∀k,J k->(sortWorld oh w b 0 m dk os).heap[k]? = w.heap[k]?:=λk hk=>rP oh w b m dk os PV (S.Ey k hk) (hnJ k hk)
  have r:=S0.still (w':=sortWorld oh w b 0 m dk os) (λk hk=>hsame k (hJ' k hk)) (λk hk=>by obtain⟨o,c⟩:=hk;simp[an,bK.own]at c) (λk hk=>Hp oh w b m dk os hC (iA hk));refine Ip s u O x.val y.val x.isLt y.isLt r (C:=B) (et:=34) ((rP oh w b m dk os PV (Array.getElem?_eq_some_iff.1 A).1 hne).trans A) ?_;exact bG.zX (bG.mono (λk hk=>.inl hk) hsame _ _ hds) hBc.one
 have K:=Any.slices_SortFunc_total Tryz.Yj oh (λ_=>rfl) (λx y:Fin s.jobs.length=>zV s x.val y.val) (acS s) 277 #[.pointer (some ⟨bs,0,none⟩)] b 0 cap l.toArray w (enters_of func277 (by kernel_rfl) rfl) hcmp hH PV (by simp;omega) (acR s);change Calls prog 276 _ _ _ at K;simp only[size_toArray,Nat.zero_mul]at K ⊢;refine K.mono ?_;rintro e w' ⟨rfl,m,os,rfl⟩;refine⟨_,rfl,?_⟩;have elt:(λx y:Fin s.jobs.length=>!ltOf (λx y:Fin s.jobs.length=>zV s x.val y.val) y x)=λx y=>!GR s y.val x.val:=by funext x y;unfold ltOf;rw[Bt]
 rw[elt];generalize hl':(l.mergeSort λx y=>!GR s y.val x.val)=l';have hlen':l'.length=l.length:=by rw[<- hl'];exact length_mergeSort _
 have hSW:SW oh w b 0 l'.toArray (sortWorld oh w b 0 m l'.toArray os):=⟨m,os,rfl⟩;have hH':=hSW.holds PV hH (by simpa using hlen');have aas:∀k x,l'[k]? = some x->(sortWorld oh w b 0 m l'.toArray os).cell? ⟨b,k,none⟩=some (oh x):=λk x hk=>by
  obtain⟨YW,H⟩:=List.getElem?_eq_some_iff.1 hk;have:=(hH' k (by simpa using YW)).1;have e:l'.toArray[k]! = x:=by simp[YW,H]
  rw[e,Nat.zero_add]at this;exact this
 have E:Ev (Own ι (an (map some [ah.dat 3 1 (og l),fM s]))) J J ι ι w (sortWorld oh w b 0 m l'.toArray os):=
  ⟨rfl,rfl,rfl,VJ oh w b m _ os,λk hk D=>rP oh w b m _ os PV hk (λe=>D ⟨0,e▸IC⟩),λk hk=>Hp oh w b m _ os hC hk,λ_ h=>h,λ_ h=>.inl h,λ_ _ _ h=>h⟩
 obtain⟨S1,E1⟩:=S.jC 0 (.live (.dat 3 1 (og l'))) E (λ_ _ _=>rfl) (λk hk D=>rP oh w b m _ os PV hk (λe=>D (e▸IC))) (by
  have hlr:(og l').length=l.length:=by unfold og;rw[length_map,hlen']
  refine⟨⟨.inr (by rw[hlr,T];rfl),λk hk=>?_⟩,λn D=>hkey n (by rw[hlen];rw[hlr]at D;exact D)⟩;rw[hlr,T]at hk;cases hk;exact⟨⟨_,RR oh w b m _ os hC⟩,za l' b 0 (λk x hk=>by rw[Nat.zero_add];exact aas k x hk)⟩) (λk hk=>by
  have hlr:(og l').length=l.length:=by unfold og;rw[length_map,hlen']
  have hk:ι 0 (og l').length=some k:=hk;rw[hlr,T]at hk;cases hk;exact .inl IC)
 have e:(λo=>if o=0 then bK.live (ah.dat 3 1 (og l'))else an (map some [ah.dat 3 1 (og l),fM s]) o)=an (map some [ah.dat 3 1 (og l'),fM s]):=by funext o;cases o<;>rfl
 rw[e]at S1 E1;exact⟨J,ι,S1,⟨#[],rfl,trivial⟩,E1⟩
end
open Go.Proofs
def mN(l:List Nat):List (List DV):=l.map λi=>[i64 ((i+1:Nat):Int)]
def fu(s:aa)(k:Nat):List Nat:=(List.range k).filter (qB s)
def Dg(s:aa)(k:Nat):fu s (k+1)=fu s k++(if qB s k=true then[k]else[]):=by unfold fu;rw[range_succ,filter_append];simp only[filter_cons,filter_nil]
def qy(s:aa)(k:Nat):(fu s k).length<=k:=by have:=length_filter_le (qB s) (List.range k);simpa[fu]using this
def qF(s:aa):List (Fin s.jobs.length):=(qz s).pmap (λi h=>⟨i,h⟩) (λi hi=>(jG.1 hi).1)
def FT(s:aa):(qF s).map (·.val)=qz s:=by unfold qF;rw[map_pmap,pmap_eq_map,map_id']
def Iz{n:Nat}(l:List (Fin n)):og l=mN (l.map (·.val)):=by unfold og mN;rw[map_map];rfl
def V0(s:aa):((qF s).mergeSort λx y=>!GR s y.val x.val).map (·.val)=oA s:=by unfold oA;rw[<- FT s];exact map_mergeSort (λ_ _ _ _=>rfl)
def lnS(s:aa)(k:Nat):St:=⟨[(1,.ptr 0 0),(3,.sl 1 (fu s k).length 1 0 (fu s k).length),(7,qM s.jobs),(8,.int s.jobs.length),(9,.int k)],[some (fM s),some (.dat 3 1 (mN (fu s k)))]⟩
def Io(s:aa)(D:s.jobs.length<=1000)(O:NT s):aS G 270 [aU s] [] (.d (.cM 1 (mN (oA s)))) []:=by
 refine uW func270 ?_;refine aQ [1,3,7,8,9] [.t 3 3 1] (λk:Nat=>k<=s.jobs.length) (λk=>s.jobs.length-k) (lnS s) 0 ?_ (zero_le _) (λk hk=>?_)
 .simp only[lnS,fM,go_sem,fu,range_zero,filter_nil,mN,Int.natCast_zero]
 simp only[lnS,fM,go_sem];by_cases X:k<s.jobs.length
 .have V:=aG (f:=dH) az X;have J:=Dg s k;have hlen:=qy s k;have a:((fu s k).length+1)*8<=70368744177664:=by omega
  have E:qB s k=decide ((s.jobs.getD k az).phase=0):=rfl;generalize s.jobs.getD k az=j at *;simp only[dH]at V;simp only[dT ((k:Int)<(s.jobs.length:Int)),V,go_sem];by_cases T:j.phase=0
  .rw [E,decide_eq_true T,if_pos rfl]at J;simp only[show(j.phase==0)=true from beq_iff_eq.2 T,mN,length_append,a,wS k,go_sem];refine aY (k+1) ?_ ?_ (by omega) (by omega)
   .simp only[go_sem]
   .simp only[lnS,fM,J,mN,map_append,length_append,go_sem,wS k]
  .rw [E,decide_eq_false T,if_neg (by decide),append_nil]at J;simp only[show(j.phase==0)=false from beq_eq_false_iff_ne.2 T,go_sem];refine aY (k+1) ?_ ?_ (by omega) (by omega)
   .simp only[go_sem]
   .simp only[lnS,fM,J,mN,map_append,length_append,go_sem,wS k]
 .obtain rfl:k=s.jobs.length:=by omega
  simp only[dF ((s.jobs.length:Int)<(s.jobs.length:Int)),go_sem];have b:fu s s.jobs.length=qz s:=rfl;have v:=R4 (G:=G) s (by omega) O (qF s) (by have:=qy s s.jobs.length;have e:=congrArg length (FT s);rw[length_map]at e;rw[e,<- b];omega);have c:(qF s).length=(fu s s.jobs.length).length:=by rw[b,<- FT s,length_map]
  rw[Iz,Iz,FT,V0,c,<- b]at v;have r:(fu s s.jobs.length).length=(oA s).length:=by rw[b];exact((uR s).length_eq).symm
  generalize fu s s.jobs.length=Q at *;generalize oA s=L at *;rw[r]at v ⊢;refine dz [1,0] v rfl ?_ (by decide) ?_ ?_ (by simp) ?_<;>simp only[ay,aB,go_sem,fM]
  exact dP [1] rfl (by simp[St.obj,an]) (by simp[St.obj,an,aR,St.get,aN,aB,bz,mN,take_of_length_le])
def succ_pred(i:Nat)(h:i<=1000):IntKind.i64.wrap (((i+1:Nat):Int)-1)=(i:Int):=by rw[aH (by omega) (by omega)];omega
def xG(now:Int):Prop:=0<=now/\now<=1000000
def Nv(s:aa)(h:vw s)(aM now:Int)(h0:xG now):aS G 301 [aU s,.int aM,.int now] [] (.int (XO s aM now)) []:=by
 refine iL func301 ?_;have hj:=h.jobs;obtain⟨b,c⟩:=h0;unfold XO;by_cases U:aM<1
 .simp only[decide_eq_true U,U,go_sem]
 simp only[decide_eq_false U,U,false_or,go_sem];by_cases h2:(s.jobs.length:Int)<aM
 .simp only[decide_eq_true (show aM>(s.jobs.length:Int)from h2),h2,go_sem]
 simp only[decide_eq_false (show¬aM>(s.jobs.length:Int)from h2),h2,false_or,go_sem];obtain⟨i,rfl⟩:∃i:Nat,aM=((i+1:Nat):Int):=⟨(aM-1).toNat,by omega⟩;have hi:i<s.jobs.length:=by omega
 have o:=succ_pred i (by omega);have q:(((i+1:Nat):Int)-1).toNat=i:=by omega
 have a:=aG (f:=dH) az hi;have J:Yd (s.jobs.getD i az):=h.ends i hi;generalize S:s.jobs.getD i az=x at a J;obtain⟨k,r,e⟩:=J;simp only[dH]at a;simp only[q,o,S,a,go_sem];unfold w9;by_cases B:x.phase=1
 .simp only[show(x.phase==1)=true from beq_iff_eq.2 B,if_pos B,aH (show -9223372036854775808<=now+x.work by omega) (show now+x.work<=9223372036854775807 by omega),go_sem]
 simp only[show(x.phase==1)=false from beq_eq_false_iff_ne.2 B,if_neg B,go_sem];by_cases y:x.phase=2
 .simp only[show(x.phase==2)=true from beq_iff_eq.2 y,if_pos y,aH (show -9223372036854775808<=x.since+x.work by omega) (show x.since+x.work<=9223372036854775807 by omega),Tl,go_sem]
 simp only[show(x.phase==2)=false from beq_eq_false_iff_ne.2 y,if_neg y,go_sem];by_cases A:x.phase=3
 .simp only[show(x.phase==3)=true from beq_iff_eq.2 A,if_pos A,Tl,go_sem]
 simp only[show(x.phase==3)=false from beq_eq_false_iff_ne.2 A,if_neg A,go_sem]
def Be(s:aa)(D:s.jobs.length<=1000)(aM:Int):aS G 281 [aU s,.int aM] [] (.bool (iP s aM)) []:=by
 refine iL func281 ?_;unfold iP;by_cases U:aM<1
 .simp only[dF (aM>=1),show¬(1<=aM)by omega,false_and,go_sem]
 simp only[dT (aM>=1),show 1<=aM by omega,go_sem];by_cases h2:(s.jobs.length:Int)<aM
 .simp only[dF (aM<=(s.jobs.length:Int)),show¬(aM<=(s.jobs.length:Int))by omega,false_and,go_sem]
 simp only[dT (aM<=(s.jobs.length:Int)),show aM<=(s.jobs.length:Int)by omega,go_sem];obtain⟨i,rfl⟩:∃i:Nat,aM=((i+1:Nat):Int):=⟨(aM-1).toNat,by omega⟩;have hi:i<s.jobs.length:=by omega
 have o:=succ_pred i (by omega);have q:(((i+1:Nat):Int)-1).toNat=i:=by omega
 have a:=aG (f:=dH) az hi;generalize S:s.jobs.getD i az=x at a;simp only[dH]at a;simp only[q,o,S,a,go_sem];by_cases B:x.phase=0
 .simp only[B,go_sem]
 .simp only[show(x.phase==0)=false from beq_eq_false_iff_ne.2 B,B,go_sem]
theorem SQ(e t:Int):okE e t=if 0<=e then decide (e<=t)else false:=by
 unfold okE;split
 .rw [decide_eq_true (by assumption),Bool.true_and]
 .rw [decide_eq_false (by assumption),Bool.false_and]
def QO(s:aa)(now t:Int)(k:Nat):St:=⟨[(1,.int now),(2,.int t),(3,.ptr 0 0),(7,.int (JT s now t k)),(14,qM s.jobs),(15,.int s.jobs.length),(16,.int k)],[some (fM s)]⟩
def aaG(s:aa)(h:vw s)(now t:Int)(h0:xG now):aS G 288 [aU s,.int now,.int t] [] (.int (JT s now t s.jobs.length)) []:=by
 refine iL func288 ?_;have D:=h.jobs;refine a_ (yF s h.nodes) ?_;refine aQ [1,2,3,7,14,15,16] [] (λk:Nat=>k<=s.jobs.length) (λk=>s.jobs.length-k) (QO s now t) 0 ?_ (zero_le _) (λk hk=>?_)
 .simp only[QO,fM,JT,Int.natCast_zero,go_sem]
 simp only[QO,fM,go_sem];by_cases X:k<s.jobs.length
 .have V:=aG (f:=dH) az X;have v:=Nw (s:=s) X now;have S:JT s now t (k+1)=if okE (w9 (dO s k) now) t=true then Ef .i64 (JT s now t k) (dO s k).nodes else JT s now t k:=rfl
  have m:dO s k=s.jobs.getD k az:=rfl;generalize s.jobs.getD k az=x at V m;rw[m]at v S;simp only[dH]at V;simp only[dT ((k:Int)<(s.jobs.length:Int)),V,wS k,go_sem];refine a_ (Nv s h ((k+1:Nat):Int) now h0) ?_;simp only[v,go_sem];rw[SQ]at S;generalize w9 x now=e at S ⊢;by_cases U:0<=e
  .simp only[if_pos U]at S;simp only[decide_eq_true (show e>=0 from U),go_sem];by_cases h2:e<=t
   .rw [decide_eq_true h2,if_pos rfl]at S;simp only[decide_eq_true h2,go_sem];refine aY (k+1) ?_ ?_ (by omega) (by omega)
    .simp only[go_sem]
    .simp only[QO,fM,S,wS k,go_sem]
   .rw [decide_eq_false h2,if_neg (by decide)]at S;simp only[decide_eq_false h2,go_sem];refine aY (k+1) ?_ ?_ (by omega) (by omega)
    .simp only[go_sem]
    .simp only[QO,fM,S,wS k,go_sem]
  .simp only[if_neg U,if_neg (show¬false=true by decide)]at S;simp only[decide_eq_false (show¬e>=0 from U),go_sem];refine aY (k+1) ?_ ?_ (by omega) (by omega)
   .simp only[go_sem]
   .simp only[QO,fM,S,wS k,go_sem]
 .obtain rfl:k=s.jobs.length:=by omega
  simp only[dF ((s.jobs.length:Int)<(s.jobs.length:Int)),go_sem]
def vY(s:aa)(aM:Int):(aM<1/\iP s aM=false)\/(¬aM<1/\(s.jobs.length:Int)<aM/\iP s aM=false)\/
  ∃i:Nat,aM=((i+1:Nat):Int)/\i<s.jobs.length/\¬aM<1/\¬(s.jobs.length:Int)<aM/\iP s aM=decide ((s.jobs.getD i az).phase=0):=by
 unfold iP;by_cases U:aM<1
 .exact .inl ⟨U,decide_eq_false (λh=>by omega)⟩
 by_cases h2:(s.jobs.length:Int)<aM
 .exact .inr (.inl ⟨U,h2,decide_eq_false (λh=>by omega)⟩)
 refine .inr (.inr ⟨(aM-1).toNat,by omega,by omega,U,h2,?_⟩);simp only[show 1<=aM by omega,show aM<=(s.jobs.length:Int)by omega,true_and]
def M5(s:aa)(h:vw s)(aM:Int):aS G 271 [aU s,.int aM] [] (.cZ [.int (Bz s aM).1,.bool (Bz s aM).2]) []:=by
 refine iL func271 ?_;have hj:=h.jobs;unfold Bz;rcases vY s aM with ⟨U,E⟩|⟨U,h2,E⟩|⟨i,rfl,hi,U,h2,E⟩
 .simp only[decide_eq_true U,E,if_neg (show¬false=true by decide),go_sem]
 .simp only[decide_eq_false U,decide_eq_true (show aM>(s.jobs.length:Int)from h2),E,if_neg (show¬false=true by decide),go_sem]
 have o:=succ_pred i (by omega);have V:=As s i;have a:=aG (f:=dH) az hi;have H:=h.most i hi;have m:dO s i=s.jobs.getD i az:=rfl;generalize s.jobs.getD i az=x at a m E;rw[m]at V H;simp only[dH]at a;simp only[decide_eq_false U,decide_eq_false (show¬((i+1:Nat):Int)>(s.jobs.length:Int)from h2),o,V,a,go_sem];by_cases B:x.phase=0
 .simp only[show(x.phase !=0)=false from(bne_eq_false_iff_eq.2 B),E,decide_eq_true B,o,V,a,go_sem];refine cc (yF s h.nodes) ?_;refine cc (Bh s x (ug s) h.nodes (LM h.nodes) H) trivial
 .simp only[show(x.phase !=0)=true from bne_iff_ne.2 B,E,decide_eq_false B,if_neg (show¬false=true by decide),go_sem]
def Ig(l:List Nat)(i:Nat)(h:i<l.length):(mN l)[i]? = some [i64 ((l.getD i 0+1:Nat):Int)]:=by unfold mN;rw[getElem?_map,getElem?_eq_getElem h];simp[getD,h]
def Ie(l:List Nat):(mN l).length=l.length:=by unfold mN;rw[length_map]
def H8(f g:Int->Int×Bool)(L:List Nat)(i:Nat)(hi:i<L.length):TG f g (L.drop i) i =
  if(if i=0 then f ((L.getD i 0+1:Nat):Int)else g ((L.getD i 0+1:Nat):Int)).2=true then(((L.getD i 0+1:Nat):Int),(if i=0 then f ((L.getD i 0+1:Nat):Int)else g ((L.getD i 0+1:Nat):Int)).1,true)else TG f g (L.drop (i+1)) (i+1):=by
 rw[drop_eq_getElem_cons hi,show L.getD i 0=L[i]by simp[getD,hi]];cases i with
 |zero=>simp only[TG,if_true]
 |succ i=>simp only[TG,if_neg (succ_ne_zero i)]
section
variable{J:Nat->Prop}{w:World}{a:Nat}{e:TypeId}{v:Value}
def DX{J:Nat->Prop}{w:World}{g:Nat} : ∀(l:List Int) (off:Nat),(∀(j:Nat) x,l[j]? = some x->w.cell? ⟨g,off+j,none⟩=some (.int .i64 x))->bq J w 1 (l.map λi=>[i64 i]) g off
 |[],_,_=>trivial
 |x::l,off,h=>⟨rfl,⟨⟨.int .i64 x,h 0 x rfl,rfl,rfl⟩,trivial⟩,DX l (off+1) (λj y E=>by have:=h (j+1) y (by simpa using E);rw[show off+1+j=off+(j+1)by omega];exact this)⟩
def Xf{l:List Int}(h:w.ownsRow a e 1 v l.length (l.map (Value.int .i64)))(hj:∀b,v.ownBlock=some b->J b):kz J w (.cM 1 (l.map λi=>[i64 i])) v:=by
 rcases h.2 with ⟨rfl,h0⟩|⟨g,cap,cur,rfl,_,V,K,_,_,S⟩
 .exact ⟨none,0,0,rfl,by simp[h0],Nat.le_refl _,.inl (by rw[eq_nil_of_length_eq_zero h0];rfl)⟩
 .refine ⟨_,_,_,rfl,by simp,K,.inr ⟨g,0,rfl,hj g rfl,DX l 0 (λj x c=>?_)⟩⟩;have U:(cur.toList.take (l.length*1))[j]? = some (.int .i64 x):=by rw[S,getElem?_map,c];rfl
  have X:=(List.getElem?_eq_some_iff.1 U).1;rw[length_take]at X;rw[getElem?_take,if_pos (by omega)]at U;rw[Nat.zero_add];simp only[cell?,V];simpa using U
def Sh{aJ k:Nat}{xs:List Value}(h:w.ownsRow a e aJ v k xs)(b:Nat)(T:v.ownBlock=some b):a<=b/\∃C t f,w.heap[b]? = some (.cells C t f):=by
 rcases h.2 with ⟨rfl,h0⟩|⟨g,cap,cur,rfl,m,V,_⟩
 .simp [Value.ownBlock]at T
 .simp only[Value.ownBlock,Option.some.injEq]at T;subst T;exact⟨m,_,_,_,V⟩
def Q9{G:tY}{ι:fe}{W:World}(S:aA G J w ι (an []))(Z:RowKit.Below w.heap.size w W)(D:w.heap.size<=a){l:List Int}
  (h:W.ownsRow a e 1 v l.length (l.map (Value.int .i64))):aO G (an []) (an []) J ι w (.d (.cM 1 (l.map λi=>[i64 i]))) v W:=by
 have H:aA G J W ι (an []):=S.still (λb h=>Z.block b (S.Ey b h)) (λb h=>Z.block b (S.TF h)) (λb h=>bI (Z.block b (iA h)));have nil:∀o b,¬(an [] o).own ι o b:=λo b=>by rw[cD (by simp)];exactλh=>h.elim
 refine⟨λb=>J b\/v.ownBlock=some b,ι,⟨λo=>?_,λo o' b h=>absurd h (nil o b),λo b h=>absurd h (nil o b),λb T=>?_,λq row E=>?_⟩,Xf h (λb T=>.inr T),
  ⟨⟨Z.os,Z.tape,Z.output,Z.size,λb T _=>Z.block b T,λb T=>bI (Z.block b T),λb T=>.inl T,λb T=>?_,λ_ _ _ h=>h⟩,λb T=>?_⟩⟩
 .have:=H.rep o;rw[cD (by simp)]at this ⊢;exact this
 .rcases T with T|T
  .exact H.jcell b T
  .exact (Sh h b T).2
 .obtain ⟨A,O,y⟩:=H.uV q row E;exact⟨.inl A,dV.mono (λk h=>.inl h) (λ_ _=>rfl) _ _ _ rfl O,y⟩
 .rcases T with T|T
  .exact .inl T
  .exact .inr (.inl (Nat.le_trans D (Sh h b T).1))
 .obtain ⟨o,h⟩:=T;exact absurd h (nil o b)
def EA(l:List Int):List (List DV):=l.map λi=>[i64 i]
end
end Dv
namespace Go
open Go.Maps Keyed
def tJ{H:Type}{P:Program}(w:World){F:Fence}{nF:Nat}{ops:Array Oper}{j:List Oper}{o:Oper}{a:Act}{Q:Exit->Act->World->Prop}
  (V:o.guard=none) (m x v:Operand) (t:TypeId) (A:o.op=Op.insert t m x v)
  (k e:TypeId) (K:Keyed P k) (X:P.underlying t=some (.map k e)) (R:Value->Option (DataW H×List MemPlace)) (b n:Nat) (D:DataW H)
  (h:a.eval m=.map (some b)) (Z:w.ownsMap P k R b n D) (u:n<maxLen) (key val:Value) (T:Lit) (S:a.eval x=key) (B:a.eval v=val) (O:keyOf P k key=some T)
  (d:DataW H) (ps:List MemPlace) (U:R val=some (d,ps))
  (q:∀w',w'.ownsMap P k R b (n+1) (D.put T d)->w.grownBy w' (some b)->wpListIn F nF P ops Q j (a.put o.dst undef) w') :
  wpListIn F nF P ops Q (o::j) a w:=by
 refine wpListIn_plain V λK' J=>?_
 obtain⟨w',r,r1,y⟩:=Z.update K X u O U;unfold Oper.wpIn;refine⟨by simp[Oper.about,A],?_⟩;rw[Oper.semAt_plain F _ _ (by rw[A];intro c E;cases E)];simp[execOp,A,h,S,B,r,Result.andThen];exact J _ _ (q w' r1 y)
end Go
namespace Go.Proofs
open Go.RowKit Go.Shelf Go.Maps
variable{D:DataW Unit}
attribute [local go_sem] Oper.semAt_some
def Tryz.Zy(m:Nat):AnyZI.SortsIn Tryz.prog Tryz.yY Fence.wide m:=
 ⟨λblk off cap a W S b u=>callsIn_wide.2 (AnyM.slices_Sort_int Tryz.Yk blk off cap a W S b u),
  λp cap W=>callsIn_wide.2 (AnyM.slices_Sort_int_none Tryz.Yk p cap W)⟩
def keys_perm{P:Program}{k:TypeId}{R:Value->Option (DataW Unit×List MemPlace)}{W:World}{b nn:Nat}(Z:W.ownsMap P k R b nn D)(K:Keyed P k)(hk:P.underlying k=some (.int .i64)){l:List Int}(u:l.Nodup)(H:∀x,Maps.has D (.int .i64 x)=true↔x∈l):l.Perm (intKeys D):=by
 obtain⟨es,q,h,_⟩:=Z.entries K;obtain⟨c,a,e⟩:=Z.keysOf;obtain rfl:es=c:=by rw[q]at a;simpa using a
 subst q;exact perm_intKeys h (λp O=>by obtain⟨v,B⟩:=e p O;obtain⟨x,_,S,_⟩:=Maps.keyOf_i64 hk B;exact⟨x,S⟩) u (λx=>(H x).symm)
def zu(q:IsMap D)(e x:Int)(d:DataW Unit)(l:List Int)(H:∀x,Maps.has D (.int .i64 x)=true↔x∈l):Maps.has (D.put (.int .i64 e) d) (.int .i64 x)=true↔x∈Dv.GK l e:=by
 rw[Dv.Ti];by_cases h:x=e
 .subst h;rw[has_put_same q (show WideAt.IsKeyLit (Lit.int .i64 x)from trivial)];simp
 .rw [has_put_other (λX=>h (by cases X;rfl)),H];simp[h]
def Oq{G:Nat->Option (List Dv.DV)}(s:Dv.aa)(h:Dv.vw s)(now:Int)(h0:Dv.xG now):Dv.aS G 287 [Dv.aU s,.int now] [] (.d (.cM 1 (Dv.EA (Dv.uC s now)))) []:=by
 refine⟨by decide,λJ ι w vs S O=>?_⟩;obtain⟨vl⟩:=vs
 match vl,O with
 |[va,vk],⟨a,hk,_⟩=>
 have hk:vk=.int .i64 now:=hk;subst hk;obtain⟨cs,rfl,hcs⟩:=a;obtain⟨cl⟩:=cs
 match cl,hcs with
 |[x0,x1,x2,x3,x4,x5],hcs=>
 have hds:=Dv.m_ (ds:=[.cM 5 (s.nodes.map Dv.cv),.cM 12 (s.jobs.map Dv.dH),Dv.i64 s.goal,Dv.i64 s.prior,Dv.i64 s.mode,Dv.i64 s.term]) rfl hcs.CV;have hone:=hcs.one;obtain⟨ja,jn,jc,rfl,hjn,hjc,hjr⟩:=hds.2.1;rw[List.length_map]at hjn;subst hjn;have adg:=h.jobs;have hmm:=@run_makeMap Tryz.prog;refine(callsIn_wide (n:=6)).1 ?_;refine callsIn_of_wp Tryz.func287 rfl trivial ?_ rfl;simp only[Tryz.ntmps287,Nat.reduceAdd,Nat.reduceSub,Dv.sG,Dv.sA];have wfI:∀x:Int,-9223372036854775808<=x->x<=9223372036854775807->(Lit.int .i64 x).wf=true:=λx U h2=>by
  have o:IntKind.i64.min = -9223372036854775808:=by decide
  have V:IntKind.i64.max=9223372036854775807:=by decide
  simp only[Lit.wf,o,V,U,h2,decide_true,Bool.and_self]
 have Y5:=h0;obtain⟨n1,n2⟩:=Y5;have hwf:=wfI now (by omega) (by omega);have hm0:=World.ownsMap_made (w.alloc (.cells #[x0,.slice ja s.jobs.length jc,x2,x3,x4,x5] 34)) Tryz.prog 3 (plainElem (H:=Unit) Tryz.prog 4);have hBA:Below w.heap.size w ((w.alloc (.cells #[x0,.slice ja s.jobs.length jc,x2,x3,x4,x5] 34)).alloc (.map #[] 0)):=((Below.refl _ w).alloc (Nat.le_refl _) _).alloc (by simp) _;have m:∀A,Below w.heap.size w A->Dv.aA G J A ι (Dv.an []):=λA T=>S.still (λb h=>T.block b (S.Ey b h)) (λb h=>T.block b (S.TF h)) (λb h=>Dv.bI (T.block b (Dv.iA h)))
 have aau:∀A,Below w.heap.size w A->A.heap[w.heap.size]? = some (.cells #[x0,.slice ja s.jobs.length jc,x2,x3,x4,x5] 34 (0,0))->Dv.nZ J s A w.heap.size x0 (.slice ja s.jobs.length jc) x2 x3 x4 x5:=λA T j=>⟨j,Dv.bG.mono (λ_ h=>h) (λb h=>T.block b (S.Ey b h)) _ _ hds,hone⟩
 have hh0:((w.alloc (.cells #[x0,.slice ja s.jobs.length jc,x2,x3,x4,x5] 34)).alloc (.map #[] 0)).heap[w.heap.size]? = some (.cells #[x0,.slice ja s.jobs.length jc,x2,x3,x4,x5] 34 (0,0)):=
  (Below.block (Below.alloc (Below.refl _ _) (Nat.le_refl _) _) _ (by simp)).trans (World.alloc_heap_new _ _)
 have hsA:(w.alloc (.cells #[x0,.slice ja s.jobs.length jc,x2,x3,x4,x5] 34)).heap.size=w.heap.size+1:=by simp
 rw[hsA]at hm0
 gi_wp2_with (refine tJ _ rfl _ _ _ 343 rfl 3 4 (Maps.int_keyed Tryz.underlying3) Tryz.underlying343 _ _ 0 _ rfl hm0 (by decide) _ _ _ rfl rfl (Maps.keyOf_int_mk Tryz.underlying3 hwf) _ [] (plainElem_bool Tryz.underlying4 true) ?_;intro B B7 TW;have hb1:Below w.heap.size w B:=hBA.grown TW hBA.size (λr e=>by cases e;simp);have ach:=aau B hb1 ((TW.block _ (by simp;omega) (by simp)).trans hh0);obtain⟨a0,K,a2,a3,a4,a5⟩:=ach.cells)
 gi_loopw [14] (λq wr=>∃(k nn:Nat) (D:DataW Unit),q=.int .i64 k/\k<=s.jobs.length/\nn<=k+1/\wr.ownsMap Tryz.prog 3 (plainElem Tryz.prog 4) (w.heap.size+1) nn D/\(∀x,Maps.has D (.int .i64 x)=true↔x∈Dv.uB s now k)/\Below w.heap.size w wr/\Dv.nZ J s wr w.heap.size x0 (.slice ja s.jobs.length jc) x2 x3 x4 x5)
  (λq _=>s.jobs.length-(intOf q).toNat)
 case atStart=>refine⟨0,1,_,rfl,Nat.zero_le _,Nat.le_refl _,B7,λx=>?_,hb1,ach⟩;rw[zu ⟨_,rfl⟩ now x _ [] (λx=>by simp[Maps.has])];simp[Dv.GK,Dv.uB]
 case round=>
  obtain⟨k,nn,D,rfl,hk,hnn,Z,hD,Xv,hbx⟩:=hrel;obtain⟨b0,b1,b2,b3,b4,b5⟩:=hbx.cells;rcases Nat.lt_or_ge k s.jobs.length with X|hge
  .have t:=(Dv.Nv (G:=G) s h ((k+1:Nat):Int) now h0).num (m wr Xv) (vs:=#[.agg #[x0,.slice ja s.jobs.length jc,x2,x3,x4,x5],.int .i64 ((k+1:Nat):Int),.int .i64 now]) ⟨hbx.arg,rfl,rfl,trivial⟩;have hts:Dv.uB s now (k+1)=if 0<=Dv.w9 (Dv.dO s k) now then Dv.GK (Dv.uB s now k) (Dv.w9 (Dv.dO s k) now)else Dv.uB s now k:=rfl
   have her:=Dv.Uv (h.ends k X) ⟨n1,n2⟩;rw[Dv.Nw X,show((k+1:Nat):Int)=(k:Int)+1 by omega]at t;generalize Dv.w9 (Dv.dO s k) now=e at t hts her;have hwe:=wfI e (by omega) (by omega)
   gi_wp2_with (first
    |(refine⟨trivial,?_⟩;gi_at_call 301;refine(callsIn_wide.2 t).mono ?_;rintro e3 w3 ⟨rfl,c⟩
      have TP:=Z.kept (w':=w3) (row:=none) ⟨c.os,c.tape,c.output,c.size,λk hk _=>c.block k hk⟩ (by simp))
    |(gi_at_mapUpdate;refine wpListIn_mapUpdate_own _ rfl _ _ _ 343 rfl 3 4 (Maps.int_keyed Tryz.underlying3) Tryz.underlying343 _ _ nn _ rfl TP (by simp only[Go.maxLen];omega) _ _ _ rfl rfl (Maps.keyOf_int_mk Tryz.underlying3 hwe) _ [] (plainElem_bool Tryz.underlying4 true) ?_;intro w4 abT TV))
   .have hge:0<=e:=‹0<=e›;rw[if_pos hge]at hts;have hsz3:=Xv.size;have adQ:=c.size;have hml:=Z.lt;have hb4:Below w.heap.size w w4:=(Xv.trans (c.mono Xv.size)).grown TV (Nat.le_trans Xv.size c.size) (λr e=>by cases e;omega);have hbk:=hbx.heap;have aag:=(Array.getElem?_eq_some_iff.1 hbk).1;refine⟨⟨k+1,nn+1,_,rfl,by omega,by omega,abT,λx=>?_,hb4,aau w4 hb4 ?_⟩,by simp[intOf];omega⟩
    .rw [hts];exact zu TP.isMap e x _ _ hD
    .exact ((TV.block _ (by omega) (by simp)).trans (c.block _ aag)).trans hbk
   .have hge:e<0:=‹e<0›;rw[if_neg (by omega)]at hts;have hb4:Below w.heap.size w w3:=Xv.trans (c.mono Xv.size);have hbk:=hbx.heap;have aag:=(Array.getElem?_eq_some_iff.1 hbk).1;exact⟨⟨k+1,nn,D,rfl,by omega,by omega,TP,λx=>by rw[hts];exact hD x,hb4,aau w3 hb4 ((c.block _ aag).trans hbk)⟩,by simp[intOf];omega⟩
  .obtain rfl:k=s.jobs.length:=by omega
   have u:=Z.size_le;have hml:=Z.lt;have hseq:SeqGives Fence.wide 2 Tryz.prog 311 #[.pointer (some ⟨wr.heap.size,0,none⟩)] encZ (λss=>ss.Perm (intKeys D)) (Maps.size D) (wr.alloc (.cells #[.map (some (w.heap.size+1))] 343)):=
    AnyZI.keys_gives (ρ:=Tryz.Et) { Tryz.Yu with } Fence.wide _ trivial rfl (by omega) wr.heap.size (w.heap.size+1) nn D _ (by simp) (by simp) (Z.alloc _)
   have cK:∀mb W,CallsIn Fence.wide 5 Tryz.prog 303 #[.map mb] W λe w'=>e=.returned (.func (.func 311) #[] #[.pointer (some ⟨W.heap.size,0,none⟩)])/\w'=W.alloc (.cells #[.map mb] 343):=λmb W=>AnyZI.keys_in Tryz.Yu Fence.wide 5 trivial rfl mb W
   have cS:=AnyZI.sorted_in Tryz.VK Fence.wide 5 trivial trivial trivial trivial rfl (by omega) (Tryz.Zy _) (enters_of Tryz.func310 (by kernel_rfl) rfl) 311 #[.pointer (some ⟨wr.heap.size,0,none⟩)] trivial (enters_of Tryz.func311 (by kernel_rfl) rfl) _ _ (by simp only[Go.maxLen];omega) (by omega) _ hseq;change CallsIn _ _ Tryz.prog 302 _ _ _ at cS;have hpm:(Dv.uB s now s.jobs.length).Perm (intKeys D):=keys_perm Z (Maps.int_keyed Tryz.underlying3) Tryz.underlying3 (Dv.uA s now _) hD;have hsb:=Xv.size
   gi_wp2_with (first
    |(refine⟨trivial,?_⟩;gi_at_call 303;refine(cK _ _).mono ?_;rintro e w' ⟨rfl,rfl⟩)
    |(refine⟨trivial,?_⟩;gi_at_call 302;refine cS.mono ?_;rintro e w5 ⟨v,ss,rfl,E,hrow,qO,hb5⟩))
   have hee:ss.mergeSort (λx y=>decide (x<=y))=Dv.uC s now:=mergeSort_of_perm_i (E.trans hpm.symm);have Lu:ss.length=(Dv.uC s now).length:=by rw[<- hee,List.length_mergeSort]
   rw[hee,Lu]at hrow
   go_ret
   have hbw:Below w.heap.size w w5:=(Xv.alloc hsb _).trans (hb5.mono (by simp;omega));exact⟨v,rfl,Dv.Q9 S hbw (by simp;omega) hrow⟩
end Go.Proofs
namespace Dv
open Int List Nat Go.Proofs.Tryz Go.World
variable {G:tY}
open Go Go.Proofs
def TI(l:List Int)(i:Nat)(h:i<l.length):(EA l)[i]? = some [i64 (l.getD i 0)]:=by unfold EA;rw[getElem?_map,getElem?_eq_getElem h];simp[getD,h]
def Iy(l:List Int):(EA l).length=l.length:=by unfold EA;rw[length_map]
def IY(s:aa)(j:bT)(now:Int)(L:List Int)(i:Nat)(hi:i<L.length):qR s j now (L.drop i) =
  if(kK s j (JT s now (L.getD i 0) s.jobs.length)).2=true then(L.getD i 0,(kK s j (JT s now (L.getD i 0) s.jobs.length)).1,true)else qR s j now (L.drop (i+1)):=by
 rw[drop_eq_getElem_cons hi,show L.getD i 0=L[i]by simp[getD,hi]];rfl
def rsS(s:aa)(aM now:Int)(L:List Int)(k:Nat):St:=⟨[(1,.int aM),(2,.int now),(3,.ptr 0 0),(19,.d (.cM 1 (EA L))),(20,.int L.length),(21,.int k)],[some (fM s)]⟩
def VV(s:aa)(h:vw s)(aM now:Int)(h0:xG now):aS G 282 [aU s,.int aM,.int now] [] (.cZ [.int (zT s aM now).1,.int (zT s aM now).2.1,.bool (zT s aM now).2.2]) []:=by
 refine iL func282 ?_;have hj:=h.jobs;unfold zT;refine a_ (Be s hj aM) ?_;rcases vY s aM with ⟨U,E⟩|⟨U,h2,E⟩|⟨i,rfl,hi,U,h2,E⟩
 .simp only[E,if_neg (show¬false=true by decide),go_sem]
 .simp only[E,if_neg (show¬false=true by decide),go_sem]
 have o:=succ_pred i (by omega);have V:=As s i;have a:=aG (f:=dH) az hi;have H:=h.most i hi;have m:dO s i=s.jobs.getD i az:=rfl;generalize s.jobs.getD i az=x at a m E;rw[m]at V H;simp only[dH]at a;by_cases B:x.phase=0;case neg=>simp only[E,decide_eq_false B,if_neg (show¬false=true by decide),go_sem]
 simp only[E,decide_eq_true B,go_sem];refine a_ (Oq s h now h0) ?_;have u:=Km s now;simp only[V,Iy,go_sem];generalize uC s now=L at u ⊢;refine aQ [1,2,3,19,20,21] [] (λk:Nat=>k<=L.length/\qR s x now L=qR s x now (L.drop k)) (λk=>L.length-k) (rsS s ((i+1:Nat):Int) now L) 0 ?_ ⟨zero_le _,rfl⟩ (λk hk=>?_)
 .simp only[rsS,fM,Int.natCast_zero,go_sem]
 obtain⟨hk,w⟩:=hk;simp only[rsS,fM,Iy,go_sem];by_cases X:k<L.length;case neg=>
  obtain rfl:k=L.length:=by omega
  rw[drop_length]at w;simp only[dF ((L.length:Int)<(L.length:Int)),w,qR,go_sem]
 have b:=TI L k X;have hs:=IY s x now L k X;generalize L.getD k 0=t at b hs;rw[<- w]at hs;simp only[dT ((k:Int)<(L.length:Int)),b,o,a,go_sem];refine cc (aaG s h now t h0) ?_;refine cc (Bh s x (JT s now t s.jobs.length) h.nodes (Y_ h now t _ (Nat.le_refl _)) H) ?_;generalize kK s x (JT s now t s.jobs.length)=r at hs ⊢;obtain⟨n,ok⟩:=r;cases ok with
 |true=>rw[if_pos rfl]at hs;simp only[hs,go_sem]
 |false=>
  rw[if_neg Bool.false_ne_true]at hs;simp only[go_sem];refine aY (k+1) ?_ ?_ ⟨by omega,hs⟩ (by omega)
  .simp only[go_sem]
  simp only[rsS,fM,wS k,go_sem]
def Pt{s:aa}{aM:Int}(E:iP s aM=true):0<(oA s).length:=by obtain⟨i,_,hi⟩:=sr.1 E;exact length_pos_of_mem (Th.2 (jG.1 hi))
def Up(s:aa)(h:vw s)(aM now:Int)(h0:xG now):aS G 272 [aU s,.int aM,.int now] [] (.cZ [.int (zA s aM now).1,.bool (zA s aM now).2]) []:=by
 refine iL func272 ?_;have hj:=h.jobs;have D:=h.nodes;unfold zA;refine a_ (Io s hj h.prio) ?_;refine a_ (Be s hj aM) ?_;cases E:iP s aM with
 |false=>simp only[Bool.false_eq_true,go_sem]
 |true=>
 have Z:=Pt E;have S:=Ig (oA s) 0 Z;have j:((((oA s).getD 0 0+1:Nat):Int))=rj s:=rfl;rw[j]at S;simp only[S,go_sem];by_cases e:rj s=aM
 .simp only[show(rj s==aM)=true from beq_iff_eq.2 e,e,go_sem]
 simp only[show(rj s==aM)=false from beq_eq_false_iff_ne.2 e,Bool.true_eq_false,e,or_self,go_sem];obtain⟨i,rfl,hi⟩:=sr.1 E;have n:=(jG.1 hi).1;have o:=succ_pred i (by omega);have V:=As s i;have a:=aG (f:=dH) az n;have H:=h.most i n;have J:=h.ends i n;have m:dO s i=s.jobs.getD i az:=rfl;generalize s.jobs.getD i az=x at a m;rw[m]at V H J;obtain⟨B,K,y⟩:=J;have X:IntKind.i64.wrap (now+x.work)=now+x.work:=aH (by have:=h0.1;omega) (by have:=h0.2;omega);simp only[dH]at a;simp only[o,V,a,S,go_sem];refine cc (VV s h (rj s) now h0) ?_;have b:=h.aeq (rj s) now;generalize zT s (rj s) now=r at b ⊢;obtain⟨t,k,ok⟩:=r;simp only[go_sem];refine cc (yF s h.nodes) ?_;have u:=(QV (LM h.nodes) b).1;refine cc (Bh s x (ig .i64 (ug s) k) h.nodes u H) ?_;generalize kK s x (ig .i64 (ug s) k)=q;obtain⟨c,U⟩:=q;cases U with
 |true=>simp only[go_sem]
 |false=>
  simp only[if_neg Bool.false_ne_true,go_sem];refine a_ (M5 s h ((i+1:Nat):Int)) ?_;generalize Bz s ((i+1:Nat):Int)=nw;obtain⟨O,v⟩:=nw;cases ok with
  |false=>simp only[go_sem]
  |true=>
   cases v with
   |false=>simp only[go_sem]
   |true=>
    simp only[o,a,X,go_sem];by_cases A:t<now+x.work
    .simp only[decide_eq_true (show now+x.work>t from A),A,go_sem]
    .simp only[decide_eq_false (show¬now+x.work>t from A),A,Bool.true_eq_false,or_self,go_sem]
def nxS(s:aa)(now:Int)(L:List Nat)(k:Nat):St:=⟨[(1,.int now),(2,.ptr 0 0),(7,.int 0),(8,.int 0),(14,.d (.cM 1 (mN L))),(15,.int L.length),(16,.int k)],[some (fM s)]⟩
def QU(s:aa)(h:vw s)(now:Int)(h0:xG now):aS G 261 [aU s,.int now] [] (.cZ [.int (s6 s now).1,.int (s6 s now).2.1,.bool (s6 s now).2.2]) []:=by
 refine iL func261 ?_;have hj:=h.jobs;have u:(oA s).length<=1000:=by have:=(uR s).length_eq;have:=qy s s.jobs.length;have e:fu s s.jobs.length=qz s:=rfl;rw[e]at this;omega
 unfold s6;refine a_ (Io s hj h.prio) ?_;simp only[Ie,go_sem];generalize oA s=L at u ⊢;refine aQ [1,2,7,8,14,15,16] [] (λk:Nat=>k<=L.length/\TG (Bz s) (λk=>zA s k now) L 0=TG (Bz s) (λk=>zA s k now) (L.drop k) k) (λk=>L.length-k) (nxS s now L) 0 ?_ ⟨zero_le _,rfl⟩ (λk hk=>?_)
 .simp only[nxS,fM,Int.natCast_zero,go_sem]
 obtain⟨hk,w⟩:=hk;simp only[nxS,fM,Ie,go_sem];by_cases X:k<L.length;case neg=>
  obtain rfl:k=L.length:=by omega
  rw[drop_length]at w;simp only[dF ((L.length:Int)<(L.length:Int)),w,TG,go_sem]<;>rfl
 have b:=Ig L k X;have hs:=H8 (Bz s) (λk=>zA s k now) L k X;have a:0<((L.getD k 0+1:Nat):Int):=by omega
 generalize((L.getD k 0+1:Nat):Int)=aM at b hs a;rw[<- w]at hs;simp only[dT ((k:Int)<(L.length:Int)),b,go_sem];by_cases v:k=0;case pos=>
  simp only[if_pos v]at hs;simp only[show((k:Int)==0)=true from beq_iff_eq.2 (by omega),go_sem];refine a_ (M5 s h aM) ?_;generalize Bz s aM=r at hs ⊢;obtain⟨n,ok⟩:=r;cases ok with
  |true=>rw[if_pos rfl]at hs;simp only[hs,decide_eq_true (show aM>0 from a),go_sem]
  |false=>
   rw[if_neg Bool.false_ne_true]at hs;simp only[go_sem];refine aY (k+1) ?_ ?_ ⟨by omega,hs⟩ (by omega)
   .simp only[go_sem]
   simp only[nxS,fM,wS k,go_sem]
 case neg=>
  simp only[if_neg v]at hs;simp only[show((k:Int)==0)=false from beq_eq_false_iff_ne.2 (by omega),go_sem];refine a_ (Up s h aM now h0) ?_;generalize zA s aM now=r at hs ⊢;obtain⟨n,ok⟩:=r;cases ok with
  |true=>rw[if_pos rfl]at hs;simp only[hs,decide_eq_true (show aM>0 from a),go_sem]
  |false=>
   rw[if_neg Bool.false_ne_true]at hs;simp only[go_sem];refine aY (k+1) ?_ ?_ ⟨by omega,hs⟩ (by omega)
   .simp only[go_sem]
   simp only[nxS,fM,wS k,go_sem]
def EV(s:aa):ah:=.box 34 [bH s.nodes,qM s.jobs,.int s.goal,.int s.prior,.int s.mode,.int s.term]
def EX(c:av):ah:=.box 23 [.int c.nodes,.int c.bA,.int c.cF,.int c.gQ,.int c.bD,.int c.ej,.int c.deadline,.int c.room,.int c.fT]
def Pf:ah:=.box 46 [.int 0,.int 0,.int 0,.int 0,.int 0,.int 0,.int 0]
section
variable(c:av)
def ltS(s:aa)(now:Int)(k:Nat):St:=⟨[(1,.int now),(2,.ptr 0 0),(5,.sl 1 (nM s now k).length 1 0 (nM s now k).length),(9,qM s.jobs),(10,.int s.jobs.length),(11,.int k)],[some (fM s),some (.dat 3 1 (mN (nM s now k)))]⟩
def Tz(s:aa)(now:Int)(D:s.jobs.length<=1000):aS G 257 [aU s,.int now] [] (.d (.cM 1 (mN (Nd s now)))) []:=by
 refine uW func257 ?_;refine aQ [1,2,5,9,10,11] [.t 5 3 1] (λk:Nat=>k<=s.jobs.length) (λk=>s.jobs.length-k) (ltS s now) 0 ?_ (zero_le _) (λk hk=>?_)
 .simp only[ltS,fM,go_sem,nM,range_zero,filter_nil,mN,Int.natCast_zero]
 simp only[ltS,fM,go_sem];by_cases X:k<s.jobs.length
 .have V:=aG (f:=dH) az X;have J:=Iq s now k;have hlen:=Le s now k;have a:((nM s now k).length+1)*8<=70368744177664:=by omega
  have E:Ir s now k=(decide ((s.jobs.getD k az).phase=3)&&decide ((s.jobs.getD k az).til<=now)):=rfl;generalize s.jobs.getD k az=j at *;simp only[dH]at V;simp only[dT ((k:Int)<(s.jobs.length:Int)),V,go_sem];by_cases T:j.phase=3;case neg=>
   rw[E,decide_eq_false T,Bool.false_and,if_neg (by decide),append_nil]at J;simp only[show(j.phase==3)=false from beq_eq_false_iff_ne.2 T,go_sem];refine aY (k+1) ?_ ?_ (by omega) (by omega)
   .simp only[go_sem]
   .simp only[ltS,fM,J,mN,map_append,length_append,go_sem,wS k]
  simp only[show(j.phase==3)=true from beq_iff_eq.2 T,go_sem];by_cases y:j.til<=now
  .rw [E,decide_eq_true T,decide_eq_true y,Bool.true_and,if_pos rfl]at J;simp only[decide_eq_true y,mN,length_append,a,wS k,go_sem];refine aY (k+1) ?_ ?_ (by omega) (by omega)
   .simp only[go_sem]
   .simp only[ltS,fM,J,mN,map_append,length_append,go_sem,wS k]
  .rw [E,decide_eq_false y,Bool.and_false,if_neg (by decide),append_nil]at J;simp only[decide_eq_false y,go_sem];refine aY (k+1) ?_ ?_ (by omega) (by omega)
   .simp only[go_sem]
   .simp only[ltS,fM,J,mN,map_append,length_append,go_sem,wS k]
 .obtain rfl:k=s.jobs.length:=by omega
  simp only[dF ((s.jobs.length:Int)<(s.jobs.length:Int)),show nM s now s.jobs.length=Nd s now from rfl,go_sem];exact dP [1] rfl (by simp[St.obj,an]) (by simp[St.obj,an,aR,St.get,aN,aB,bz,mN,take_of_length_le])
def KH(s:aa)(now:Int)(D:s.jobs.length<=1000):aS G 240 [eD c,aU s,.int now] [] (Ni (Ck s now)) []:=by
 refine iL func240 ?_;unfold Ck;refine a_ (Tz s now D) ?_;cases Nd s now with
 |nil=>simp only[mN,Int.natCast_zero,Ni,go_sem,sN]
 |cons k l=>simp only[mN,show((((l.length+1:Nat):Int))==0)=false from beq_eq_false_iff_ne.2 (by omega),Ni,go_sem,sS]
def Pa(s:aa)(h:vw s)(now:Int)(h0:xG now):aS G 242 [eD c,aU s,.int now] [] (Ni (B8 s now)) []:=by
 refine iL func242 ?_;unfold B8;refine a_ (QU s h now h0) ?_;generalize s6 s now=r;obtain⟨aM,n,ok⟩:=r;cases ok with
 |true=>simp only[Ni,go_sem,sS]
 |false=>simp only[Bool.false_eq_true,Ni,go_sem,sN]
def Eb:List LV:=[.d (.fn (.func 240) [] []),.d (.fn (.func 241) [] []),.d (.fn (.func 242) [] [])]
def HK(c:av)(s:aa)(now:Int):Nat->Option cr
 |0=>kJ c s now
 |1=>match BD c s now with
  |some o=>some o
  |none=>B8 s now
 |2=>B8 s now
 |_=>none
def O_(c:av)(s:aa)(now:Int)(i:Nat):St:=⟨[(2,.int now),(3,.ptr 0 0),(4,.ptr 1 0),(6,.ptr 2 0),(7,.bool false),(15,.agg Eb),(16,.int i)],[some (EX c),some (EV s),some Pf]⟩
def Ot{c:av}(H:gq c=true){now:Int}(h0:xG now):-1000000000<=now+c.deadline/\now+c.deadline<=1000000000:=by unfold gq at H;simp only[Bool.and_eq_true]at H;have:=bf H.1.1.2;have U:=h0.1;have h2:=h0.2;omega
def bU.nj{c:av}{s:aa}(h:bU c s):NJ s:=⟨by have:=h.len;omega,by have:=h.jobs;omega,h.aM⟩
def Su(s:aa)(h:bU c s)(now:Int)(h0:xG now):aS G 212 [eD c,aU s,.int now] [] (Ni (kJ c s now)) []:=by
 refine iL func212 ?_;generalize hr:kJ c s now=r;have hd:=Ot h.xw h0;refine aQ [2,3,4,6,7,15,16] [] (λi:Nat=>i<=3/\HK c s now i=r) (λi=>3-i) (O_ c s now) 0 ?_ ⟨by omega,hr⟩ ?_
 .simp only[O_,Eb,EX,EV,Pf,Int.natCast_zero,go_sem]
 clear hr;rintro i ⟨hi,hr⟩;simp only[O_,Eb,EX,EV,Pf,go_sem]
 match i,hi with
 |0,_=>
  simp only[HK,kJ]at hr;simp only[show(decide (((0:Nat):Int)<3))=true from rfl,go_sem];refine a_ (KH c s now (by have:=h.jobs;omega)) ?_;generalize Ck s now=o at hr ⊢;cases o with
  |some o=>
   try dsimp only at hr
   subst hr;obtain⟨U,t,v,u,w,E,e⟩:=o;simp only[Ni,go_sem,sS]
  |none=>
   try dsimp only at hr
   simp only[Ni,go_sem,sN];refine aY 1 ?_ ?_ ⟨by omega,by first|exact hr|(subst hr;rfl)⟩ (by omega)
   .simp only[go_sem]
   .simp only[O_,Eb,EX,EV,Pf,go_sem];rfl
 |1,_=>
  simp only[HK]at hr;simp only[show(decide (((1:Nat):Int)<3))=true from rfl,go_sem];refine a_ (Tc c s now h.nj hd) ?_;generalize BD c s now=o at hr ⊢;cases o with
  |some o=>
   try dsimp only at hr
   subst hr;obtain⟨U,t,v,u,w,E,e⟩:=o;simp only[Ni,go_sem,sS]
  |none=>
   try dsimp only at hr
   simp only[Ni,go_sem,sN];refine aY 2 ?_ ?_ ⟨by omega,by first|exact hr|(subst hr;rfl)⟩ (by omega)
   .simp only[go_sem]
   .simp only[O_,Eb,EX,EV,Pf,go_sem];rfl
 |2,_=>
  simp only[HK]at hr;simp only[show(decide (((2:Nat):Int)<3))=true from rfl,go_sem];refine a_ (Pa c s h.fits now h0) ?_;generalize B8 s now=o at hr ⊢;cases o with
  |some o=>
   try dsimp only at hr
   subst hr;obtain⟨U,t,v,u,w,E,e⟩:=o;simp only[Ni,go_sem,sS]
  |none=>
   try dsimp only at hr
   simp only[Ni,go_sem,sN];refine aY 3 ?_ ?_ ⟨by omega,by first|exact hr|(subst hr;rfl)⟩ (by omega)
   .simp only[go_sem]
   .simp only[O_,Eb,EX,EV,Pf,go_sem];rfl
 |3,_=>simp only[HK]at hr;subst hr;simp only[show(decide (((3:Nat):Int)<3))=false from rfl,Ni,go_sem,sN]
end
section
structure zm where
 up:Bool
 term:Int
 gen:Int
 mode:Int
 aM:Int
 inc:Int
 version:Int
 bD:Int
 ff:Int
 U9:Int
 deriving DecidableEq
def zN(a:zm):List DV:=[bl a.up,i64 a.term,i64 a.gen,i64 a.mode,i64 a.aM,i64 a.inc,i64 a.version,i64 a.bD,i64 a.ff,i64 a.U9]
def tR(a:zm):LV:=.agg [.bool a.up,.int a.term,.int a.gen,.int a.mode,.int a.aM,.int a.inc,.int a.version,.int a.bD,.int a.ff,.int a.U9]
def Q0(a:zm):ah:=.box 56 [.bool a.up,.int a.term,.int a.gen,.int a.mode,.int a.aM,.int a.inc,.int a.version,.int a.bD,.int a.ff,.int a.U9]
def kB:zm:=⟨true,0,0,0,0,0,1,0,0,0⟩
def zm.loose(a:zm):zm:={ a with mode:=0,aM:=0,inc:=0,bD:=0,ff:=0 }
def zm.tell(a:zm)(node:Int):bE:=⟨node,6,a.term,a.gen,a.aM,a.inc,a.version,0,0,a.mode,a.ff⟩
def zm.act(a:zm)(now:Int):zm:=
 if a.up=false\/a.mode=0 then a
 else if a.mode=4 then{ a with version:=a.U9,U9:=0 }.loose
 else if now>=a.bD then a.loose
 else if a.mode=2 then{ a with ff:=if IntKind.i64.wrap (a.ff+1)<1000 then IntKind.i64.wrap (a.ff+1)else 1000 }
 else a
def zm.fail(a:zm):zm:={ a.loose with up:=false,U9:=0 }
def zm.back(a:zm):zm:={ a with up:=true }
attribute [local go_sem] tR kB zm.loose zm.tell zm.back zm.fail fG
def QZ:aS G 27 [] [] (tR kB) []:=by refine iL func27 trivial
def oK(a:zm):aS G 175 [tR a] [] (tR a.loose) []:=by refine iL func175 trivial
def CJ(a:zm)(node:Int):aS G 109 [tR a,.int node] [] (fG (a.tell node)) []:=by refine iL func109 trivial
def Mt(a:zm):aS G 118 [tR a] [] (tR a.back) []:=by refine iL func118 trivial
def Ms(a:zm):aS G 117 [tR a] [] (tR a.fail) []:=by have h:=oK (G:=G) a;simp only[tR,zm.loose]at h;refine iL func117 ?_;refine a_ h trivial
def Q8(a:zm)(now:Int):aS G 107 [tR a,.int now] [] (tR (a.act now)) []:=by
 have h:=oK (G:=G) a;have h2:=oK (G:=G) { a with version:=a.U9,U9:=0 };obtain⟨u,K,T,U,v,q,y,E,X,H⟩:=a;simp only[tR,zm.loose]at h h2;refine iL func107 ?_;unfold zm.act;dsimp only;cases u with
 |false=>simp only[go_sem]
 |true=>
 by_cases k0:U=0
 .subst k0;simp only[go_sem]
 simp only[Bool.true_eq_false,k0,false_or,beq_eq_false_iff_ne.2 k0,go_sem];by_cases k4:U=4
 .subst k4;simp only[go_sem];refine a_ h2 trivial
 simp only[k4,beq_eq_false_iff_ne.2 k4,go_sem];by_cases b:now>=E
 .simp only[b,decide_eq_true b,go_sem];refine a_ h trivial
 simp only[b,decide_eq_false b,go_sem];by_cases k2:U=2
 .subst k2;simp only[go_sem]
 .simp only[k2,beq_eq_false_iff_ne.2 k2,go_sem]
end
section
variable(m:bE)
def ae_:Nat×C×List RV:=(85,
(.seq (.mj [qo 2 (.new 94 [q0,q0,q0,q0,q0,q0,q0,q0,q0,q0,q0]),
 qo 3 (.mv qf)])
 (.seq (.mj [qm 12 0,
 qo 13 (.call (.f 98) [(.t 12),(qk 0)]),
 qm 11 13,
 qo 14 (.ext (.t 11) 0),
 qo 15 (.ext (.t 11) 1),
 qo 16 (.ext (.t 11) 2),
 qm 4 14,
 qm 5 15,
 qm 6 16])
 (.seq (.seq (.mj [qm 17 6,
 qo 18 (.bin .neq (.t 17) (qk 1)),
 qm 19 18,
 qg 20 (.mv (.t 5)) 19 false,
 qg 21 (.mv (.t 0)) 19 false,
 qg 22 (.len (.t 21)) 19 false,
 qg 23 (.bin .neq (.t 20) (.t 22)) 19 false,
 qo 24 (.pick (.t 19) qt (.t 23))])
 (.cond (.t 24) (.seq (.mj [qo 25 (.build [q0,q0,q0,q0,q0,q0,q0,q0,q0,q0,q0] []),
 qn (.st 11 (.t 2) (.t 25)),
 qo 3 (.mv qf)])
 .ret)
 .skip))
 (.seq (.mj [qm 27 4,
 qo 28 (.call (.f 84) [(.t 27),(qk 0),(qk 11)]),
 qm 26 28,
 qo 29 (.ext (.t 26) 0),
 qo 30 (.ext (.t 26) 1),
 qo 31 (.ext (.t 26) 2),
 qm 7 29,
 qm 8 30,
 qm 9 31])
 (.seq (.seq (.mj [qm 32 9,
 qo 33 (.not (.t 32)),
 qm 34 33,
 qg 35 (.mv (.t 8)) 34 false,
 qg 36 (.mv (.t 4)) 34 false,
 qg 37 (.len (.t 36)) 34 false,
 qg 38 (.bin .neq (.t 35) (.t 37)) 34 false,
 qo 39 (.pick (.t 34) qt (.t 38)),
 qm 40 39,
 qg 41 (.mv (.t 7)) 40 false,
 qg 42 (.len (.t 41)) 40 false,
 qg 43 (.bin .neq (.t 42) (qk 11)) 40 false,
 qo 44 (.pick (.t 40) qt (.t 43))])
 (.cond (.t 44) (.seq (.mj [qo 45 (.build [q0,q0,q0,q0,q0,q0,q0,q0,q0,q0,q0] []),
 qn (.st 11 (.t 2) (.t 45)),
 qo 3 (.mv qf)])
 .ret)
 .skip))
 (.seq (.mK [qm 46 7,
 qd 47 (.BU 1 (.t 46) (qk 0)) [0],
 qd 48 (.ld1 (.t 47)) [1,0],
 qm 49 7,
 qd 50 (.BU 1 (.t 49) (qk 1)) [3],
 qd 51 (.ld1 (.t 50)) [4,3],
 qm 52 7,
 qd 53 (.BU 1 (.t 52) (qk 2)) [6],
 qd 54 (.ld1 (.t 53)) [7,6],
 qm 55 7,
 qd 56 (.BU 1 (.t 55) (qk 3)) [9],
 qd 57 (.ld1 (.t 56)) [10,9],
 qm 58 7,
 qd 59 (.BU 1 (.t 58) (qk 4)) [12],
 qd 60 (.ld1 (.t 59)) [13,12],
 qm 61 7,
 qd 62 (.BU 1 (.t 61) (qk 5)) [15],
 qd 63 (.ld1 (.t 62)) [16,15],
 qm 64 7,
 qd 65 (.BU 1 (.t 64) (qk 6)) [18],
 qd 66 (.ld1 (.t 65)) [19,18],
 qm 67 7,
 qd 68 (.BU 1 (.t 67) (qk 7)) [21],
 qd 69 (.ld1 (.t 68)) [22,21],
 qm 70 7,
 qd 71 (.BU 1 (.t 70) (qk 8)) [24],
 qd 72 (.ld1 (.t 71)) [25,24],
 qm 73 7,
 qd 74 (.BU 1 (.t 73) (qk 9)) [27],
 qd 75 (.ld1 (.t 74)) [28,27],
 qm 76 7,
 qd 77 (.BU 1 (.t 76) (qk 10)) [30],
 qd 78 (.ld1 (.t 77)) [31,30],
 qd 79 (.build [q0,q0,q0,q0,q0,q0,q0,q0,q0,q0,q0] [(0,1,(.t 48)),(1,1,(.t 51)),(2,1,(.t 54)),(3,1,(.t 57)),(4,1,(.t 60)),(5,1,(.t 63)),(6,1,(.t 66)),(7,1,(.t 69)),(8,1,(.t 72)),(9,1,(.t 75)),(10,1,(.t 78))]) [2,1,0,5,4,3,8,7,6,11,10,9,14,13,12,17,16,15,20,19,18,23,22,21,26,25,24,29,28,27,32,31,30],
 qo 10 (.new 94 [q0,q0,q0,q0,q0,q0,q0,q0,q0,q0,q0]),
 ql (.st 11 (.t 10) (.t 79)) [34,33,2,1,0,5,4,3,8,7,6,11,10,9,14,13,12,17,16,15,20,19,18,23,22,21,26,25,24,29,28,27,32,31,30]])
 (.seq (.seq (.mj [qo 80 (.Es 11 (.t 10)),
 qo 81 (.call (.f 99) [(.t 80)]),
 qo 82 (.not (.t 81))])
 (.cond (.t 82) (.seq (.mj [qo 83 (.build [q0,q0,q0,q0,q0,q0,q0,q0,q0,q0,q0] []),
 qn (.st 11 (.t 2) (.t 83)),
 qo 3 (.mv qf)])
 .ret)
 .skip))
 (.seq (.mj [qo 84 (.Es 11 (.t 10)),
 qn (.st 11 (.t 2) (.t 84)),
 qo 3 (.mv qt)])
 .ret)))))))),
[(.cn 2 11),(.t 3)])
def aeX:bM prog f55=some ae_:=by kernel_rfl
def jv(m:bE):List Int:=[m.node,m.kind,m.term,m.gen,m.aM,m.inc,m.version,m.epoch,m.til,m.mode,m.work]
def HH:aS G 167 [fG m] [] (.agg ((jv m).map LV.int)) []:=by simp only[jv,map_cons,map_nil];refine iL func167 trivial
def WJ(n:Int):Bool:=decide (0<=n)&&decide (n<=1000000)
def jd(m:bE):Bool:=(jv m).all WJ&&decide (m.node<6)&&decide (1<=m.kind)&&decide (m.kind<=6)
def rtS(m:bE)(k:Nat):St:=⟨[(1,.ptr 0 0),(2,.bool false),(6,.agg ((jv m).map LV.int)),(7,.int k)],[some (.box 94 [.int m.node,.int m.kind,.int m.term,.int m.gen,.int m.aM,.int m.inc,.int m.version,.int m.epoch,.int m.til,.int m.mode,.int m.work])]⟩
def mM:aS G 99 [fG m] [] (.bool (jd m)) []:=by
 have D:=HH (G:=G) m;refine iL func99 ?_;refine a_ D ?_;refine aQ [1,2,6,7] [] (λk:Nat=>k<=11/\((jv m).take k).all WJ=true) (λk=>11-k) (rtS m) 0 ?_ ⟨zero_le _,rfl⟩ (λk hk=>?_)
 .simp only[rtS,jv,Int.natCast_zero,go_sem]
 obtain⟨hk,b⟩:=hk;have hlen:(jv m).length=11:=rfl;by_cases X:k<11
 .have V:((jv m).map LV.int)[k]? = some (.int ((jv m).getD k 0)):=by rw[getElem?_map,getD,getElem?_eq_getElem (by omega)];rfl
  have j:(jv m).take (k+1)=(jv m).take k++[(jv m).getD k 0]:=by rw[take_add_one];simp[getD,hlen,X]
  have c:(jv m).getD k 0∈jv m:=by rw[getD,getElem?_eq_getElem (by omega)];exact getElem_mem _
  have hid:bn 1 ((jv m).map LV.int)=true:=rfl;generalize(jv m).getD k 0=v at *;have e:WJ v=false->jd m=false:=λh=>by unfold jd;rw[show(jv m).all WJ=false from all_eq_false.2 ⟨v,c,by rw[h];decide⟩];rfl
  simp only[rtS];generalize n:(jv m).map LV.int=row at *;simp only[LV.int]at V;simp only[dT ((k:Int)<11),X,V,go_sem];by_cases h0:v<0
  .rw [e (by unfold WJ;rw[decide_eq_false (by omega)];rfl)];simp only[decide_eq_true h0,go_sem]
  by_cases U:v>1000000
  .rw [e (by unfold WJ;rw[dF (v<=1000000),Bool.and_false])];simp only[decide_eq_false h0,decide_eq_true U,go_sem]
  simp only[decide_eq_false h0,decide_eq_false U,go_sem];refine aY (k+1) ?_ ?_ ⟨show k+1<=11 by omega,by rw[j,all_append,b];simp[WJ];omega⟩ (show 11-(k+1)<11-k by omega)
  .simp only[hid,go_sem]
  .simp only[rtS,n,wS k,go_sem]
 obtain rfl:k=11:=by omega
 have a:(jv m).all WJ=true:=by rw[take_of_length_le (by omega)]at b;exact b
 unfold jd;rw[a];simp only[rtS,show decide (((11:Nat):Int)<11)=false from rfl,go_sem];by_cases A:m.node<6
 .by_cases U:1<=m.kind
  .simp only[decide_eq_true A,decide_eq_true U,decide_eq_true (show m.kind>=1 from U),go_sem]
  .simp only[decide_eq_true A,decide_eq_false U,decide_eq_false (show¬m.kind>=1 from U),go_sem]
 .simp only[decide_eq_false A,go_sem]
def mB(m:bE):List Int:=cu (g_ (jv m))
def HJ{m:bE}(h:jd m=true):∀n∈jv m,0<=n/\n<=1000000:=by unfold jd at h;simp only[Bool.and_eq_true]at h;intro n D;have:=all_eq_true.1 h.1.1.1 n D;unfold WJ at this;simp only[Bool.and_eq_true]at this;exact⟨of_decide_eq_true this.1,of_decide_eq_true this.2⟩
def yz{m:bE}(h:jd m=true):1<=(g_ (jv m)).length/\(g_ (jv m)).length<=200:=by
 have D:=HJ h;have X:(jv m).all isNum=true:=all_eq_true.2 λn H=>by have:=D n H;unfold isNum dS;exact decide_eq_true ⟨this.1,by omega⟩
 unfold g_;rw[if_pos X,length_append];have U:=Bx (n:=((jv m).length:Int)) (by unfold isNum dS;exact decide_eq_true ⟨by omega,by show(11:Int)<=_;omega⟩);have h2:=fD ((jv m).length:Int);have B:=Gw (jv m);have y:(jv m).length=11:=rfl;omega
def KZ(h:jd m=true):aS G 174 [fG m] [] (.sl 0 (mB m).length 1 0 (mB m).length) [.dat 5 1 (ax (mB m))]:=by have hr:=mM (G:=G) m;have a:=HH (G:=G) m;have Z:=kj (G:=G) (jv m) (show 11<=1000000 by omega);have T:=yz h;have A:=Dt (G:=G) (g_ (jv m)) T.1 (by omega);rw[h]at hr;unfold mB;generalize g_ (jv m)=p at *;simp only[jv,gL,i64,map_cons,map_nil]at Z a;refine tW func174 ?_;simp only[go_sem];refine a_ hr ?_;refine a_ a ?_;refine X9 1 Z rfl (by simp[ay,aB,bz,an,bF.ev,aN,LV.rz,LV.VC]) ⟨_,_,rfl⟩ rfl ?_;simp only[go_sem];refine acj A ?_;refine ue [] [2] [] (vs:=[.sl 2 (cu p).length 1 0 (cu p).length]) rfl rfl (by decide) (by simp) (by simp) rfl rfl ?_;simp[aR,aB]
def Nb:bE:=⟨0,0,0,0,0,0,0,0,0,0,0⟩
def Na(l:List Int):bE:=⟨l.getD 0 0,l.getD 1 0,l.getD 2 0,l.getD 3 0,l.getD 4 0,l.getD 5 0,l.getD 6 0,l.getD 7 0,l.getD 8 0,l.getD 9 0,l.getD 10 0⟩
def uf(b:List Int):Option bE:=
 if(cT b 0).2.2=1/\(cT b 0).2.1=b.length then
  match uX (cT b 0).1 0 11 with
  |some (l,e)=>if e=(cT b 0).1.length/\l.length=11/\jd (Na l)=true then some (Na l)else none
  |none=>none
 else none
def nE(q:Option bE):LV:=.cZ [fG (q.getD Nb),.bool q.isSome]
def aek{b:List Int}(T:∀c∈b,0<=c/\c<=255)(a:Nat):∀c∈(cT b a).1,0<=c/\c<=255:=by
 unfold cT;intro c K;split at K
 .cases K
 split at K
 .cases K
 split at K
 .cases K
 split at K
 .cases K
 split at K
 .cases K
 exact T c (mem_of_mem_drop (mem_of_mem_take K))
def WN{α:Type}{l:List α}(h:l.length=11):∃v c1 S m k u D t T x a,l=[v,c1,S,m,k,u,D,t,T,x,a]:=by
 match l,h with
 |[v,c1,S,m,k,u,D,t,T,x,a],_=>exact⟨v,c1,S,m,k,u,D,t,T,x,a,rfl⟩
attribute [local go_sem] nE Nb fG
def BG(b:List Int)(T:∀c∈b,0<=c/\c<=255)(Z:b.length<=1000000):aS G 55 [ak b] [] (nE (uf b)) []:=by
 have A:=qQ (G:=G) b T Z 0 (by omega);have w:=aek T 0;have X:(cT b 0).2.2=1->(cT b 0).1.length<=4000:=λh=>(wV (λc K=>(T c K).1) h).2.2
 generalize j:uf b=z;unfold uf at j;generalize cT b 0=q at *;obtain⟨p,e,wh⟩:=q;dsimp only at *;simp only[pU,ak]at A;refine xS func55 (by decide) aeX rfl rfl ?_;simp only[ak,ae_,go_sem];refine a_ A ?_;by_cases U:wh=1;case neg=>obtain rfl:=j.symm.trans (if_neg (λh=>U h.1));simp only[show(wh !=1)=true from bne_iff_ne.2 U,go_sem,sN]
 subst U;by_cases h2:e=b.length;case neg=>obtain rfl:=j.symm.trans (if_neg (λh=>h2 h.2));simp only[au,bne_self_eq_false,show((e:Int) !=(b.length:Int))=true from bne_iff_ne.2 (by omega),go_sem,sN]
 subst h2;rw[if_pos ⟨rfl,rfl⟩]at j;simp only[au,bne_self_eq_false,go_sem];have O:=X rfl;cases E:uX p 0 11 with
 |none=>rw[E]at j;obtain rfl:=j.symm;have V:=pT (G:=G) p w (by omega) 11 (by omega) E;simp only[ak]at V;refine a_ V ?_;simp only[go_sem,sN]
 |some xe=>
  obtain⟨l,t⟩:=xe;rw[E]at j;dsimp only at j;have V:=zy (G:=G) p w (by omega) 11 (by omega) l t E;have o:(gL l).length=l.length:=by simp[gL]
  simp only[ak]at V;refine acj V ?_;by_cases B:t=p.length;case neg=>obtain rfl:=j.symm.trans (if_neg (λh=>B h.1));simp only[au,show((t:Int) !=(p.length:Int))=true from bne_iff_ne.2 (by omega),go_sem,sN]
  by_cases y:l.length=11;case neg=>obtain rfl:=j.symm.trans (if_neg (λh=>y h.2.1));simp only[au,B,bne_self_eq_false,show((l.length:Int) !=11)=true from bne_iff_ne.2 (by omega),go_sem,sN]
  obtain⟨v,c1,S,m,k,u,D,n,r,x,a,rfl⟩:=WN y;have hr:=mM (G:=G) (Na [v,c1,S,m,k,u,D,n,r,x,a]);have H:Na [v,c1,S,m,k,u,D,n,r,x,a]=⟨v,c1,S,m,k,u,D,n,r,x,a⟩:=rfl;rw[H]at hr j;simp only[fG]at hr;cases J:jd ⟨v,c1,S,m,k,u,D,n,r,x,a⟩with
  |false=>rw[J]at hr;obtain rfl:=j.symm.trans (if_neg (λh=>by rw[J]at h;cases h.2.2));simp only[au,B,bne_self_eq_false,gL,show(((11:Nat):Int) !=11)=false from rfl,go_sem,sN];refine dQ ?_;refine a_ hr trivial
  |true=>rw[J]at hr;obtain rfl:=j.symm.trans (if_pos ⟨B,y,J⟩);simp only[au,B,bne_self_eq_false,gL,show(((11:Nat):Int) !=11)=false from rfl,go_sem,sS];refine dQ ?_;refine a_ hr trivial
end
def i_(sh:List eE):Nat->Int
 |0=>0
 |k+1=>i_ sh k+(((sh.getD k gU).cd.length:Int)+((sh.getD k gU).sd.length:Int))
structure iH(sh:List eE):Prop where
 len:sh.length=25
 cd:∀k,k<25->(sh.getD k gU).cd.length<=100/\aT (sh.getD k gU).cd/\((sh.getD k gU).ce≠0->(sh.getD k gU).cd≠[])
 sd:∀k,k<25->(sh.getD k gU).sd.length<=100/\aT (sh.getD k gU).sd/\((sh.getD k gU).se≠0->(sh.getD k gU).sd≠[])
def eE.ok(x:eE):Prop:=(x.cd.length<=100/\aT x.cd/\(x.ce≠0->x.cd≠[]))/\(x.sd.length<=100/\aT x.sd/\(x.se≠0->x.sd≠[]))
def xZ:gU.ok:=⟨⟨zero_le _,nofun,λh=>absurd rfl h⟩,zero_le _,nofun,λh=>absurd rfl h⟩
def iH.one{sh:List eE}(h:iH sh)(k:Nat):(sh.getD k gU).ok:=by
 by_cases hk:k<25
 .exact ⟨h.cd k hk,h.sd k hk⟩
 .rw [getD,getElem?_eq_none (by rw[h.len];omega)];exact xZ
def iH.set{sh:List eE}(h:iH sh)(j:Nat){x:eE}(S:x.ok):iH (sh.set j x):=by
 have V:∀k,((sh.set j x).getD k gU).ok:=by
  intro k;rw[getD,getElem?_set];split
  .split
   .exact S
   .exact xZ
  .exact h.one k
 exact⟨by rw[length_set];exact h.len,λk _=>(V k).1,λk _=>(V k).2⟩
def EU{x:eE}(h:x.ok)(U:Int):(iU x U).ok:=by
 unfold iU;split
 .exact ⟨h.2,zero_le _,nofun,λh=>absurd rfl h⟩
 .exact h
def iH.zero:iH (replicate 25 gU):=by
 have h:∀k,(replicate 25 gU).getD k gU=gU:=by
  intro k;rw[getD,getElem?_replicate]
  split<;>rfl
 exact⟨length_replicate,λk _=>by rw[h];exact xZ.1,λk _=>by rw[h];exact xZ.2⟩
def xQ{sh:List eE}(h:iH sh):∀k,k<=25->0<=i_ sh k/\i_ sh k<=200*k
 |0,_=>⟨Int.le_refl _,Int.le_refl _⟩
 |k+1,hk=>by have o:=xQ h k (by omega);have U:=(h.cd k (by omega)).1;have h2:=(h.sd k (by omega)).1;unfold i_;omega
def Ct(d:List Int):(∃rows,ep d=.d (.cM 1 rows)/\rows.length=d.length)\/(ep d=.d (.val (.slice none 0 0))/\d.length=0):=by
 cases d with
 |nil=>exact .inr ⟨rfl,rfl⟩
 |cons c d=>exact .inl ⟨_,rfl,au _⟩
def usS(room term:Int)(sh:List eE)(wr:Int)(k:Nat):St:=⟨[(3,.int (i_ sh k)),(11,.agg (sh.flatMap Nq)),(12,.int k)],[some (.box 119 (.int room::.int term::(sh.flatMap Nq++[.int wr])))]⟩
def RB(room term:Int)(sh:List eE)(wr:Int)(h:iH sh):aS G 246 [.ptr 0 0] (eF room term sh wr) (.int (i_ sh 25)) (eF room term sh wr):=by
 have Z:(sh.flatMap Nq).length=100:=by rw[vO,h.len]
 have U:(sh.flatMap Nq++[LV.int wr]).take 100=sh.flatMap Nq:=by rw[<- Z,take_left]
 have u:=dX 1 room term sh wr;refine Lv func246 u ?_;simp only[LV.int]at U;simp only[eF,U,Z,go_sem,sA];refine aQ [3,11,12] [] (λk:Nat=>k<=25) (λk=>25-k) (usS room term sh wr) 0 ?_ (zero_le _) (λk hk=>?_)
 .simp only[usS,i_,Int.natCast_zero,go_sem]
 simp only[usS,go_sem];by_cases X:k<25;case neg=>
  obtain rfl:k=25:=by omega
  simp only[show decide (((25:Nat):Int)<25)=false from rfl,go_sem]
 have a:((sh.flatMap Nq).drop (k*4)).take 4=Nq (sh.getD k gU):=by rw[Nat.mul_comm];exact Zz sh k (by rw[h.len];exact X)
 have A:=(h.cd k X).1;have j:=(h.sd k X).1;have y:=xQ h k (by omega);have S:i_ sh (k+1)=i_ sh k+(((sh.getD k gU).cd.length:Int)+((sh.getD k gU).sd.length:Int)):=rfl;generalize sh.getD k gU=x at *;obtain⟨ce,cd,se,sd⟩:=x;simp only[Nq,LV.int]at a;dsimp only at S A j;have B:IntKind.i64.wrap ((cd.length:Int)+(sd.length:Int))=(cd.length:Int)+sd.length:=aH (by omega) (by omega);have r:IntKind.i64.wrap (i_ sh k+((cd.length:Int)+sd.length))=i_ sh (k+1):=by rw[S];exact aH (by omega) (by omega)
 rcases Ct cd with ⟨r1,o,w⟩|⟨o,w⟩<;>rcases Ct sd with ⟨K,V,m⟩|⟨V,m⟩
 all_goals
  rw[o,V]at a;try rw[show(cd.length:Int)=0 by omega]at B r
  try rw[show(sd.length:Int)=0 by omega]at B r
  try simp only[Int.add_zero,Int.zero_add]at B r
  simp only[dT ((k:Int)<25),X,a,go_sem];try simp only[w,m,B,r,Int.add_zero,Int.zero_add,go_sem]
  refine aY (k+1) ?_ ?_ (by omega) (by omega)
  .simp only[go_sem]
  .simp only[usS,B,r,Int.add_zero,Int.zero_add,wS k,go_sem]
def pJ(m:bE)(now:Int):LV:=.agg [.ptr 0 0,.int m.node,.int m.kind,.int m.term,.int m.gen,.int m.aM,.int m.inc,.int m.version,.int m.epoch,.int m.til,.int m.mode,.int m.work,.int now,.ptr 1 0]
def vB(a:zm)(room term:Int)(sh:List eE)(wr:Int):List ah:=[.box 56 [.bool a.up,.int a.term,.int a.gen,.int a.mode,.int a.aM,.int a.inc,.int a.version,.int a.bD,.int a.ff,.int a.U9],.box 119 (.int room::.int term::(sh.flatMap Nq++[.int wr]))]
def oI(a:zm)(room term:Int)(sh:List eE)(wr:Int):(vB a room term sh wr).all (aP 2)=true:=by simp[vB,aP,bn,bV,eB,gV,LV.int,LV.bool]
def zm.own(a:zm)(m:bE)(mode:Int):Bool:=decide (a.mode=mode/\a.aM=m.aM/\a.inc=m.inc)
def zm.renew(a:zm)(m:bE):zm:={ a with bD:=if m.til>a.bD then m.til else a.bD }
def aeR:Nat×C×List RV:=(60,
(.seq (.mj [qo 1 (.box 251 (.t 0))])
 (.block 0 (.seq (.seq (.mj [qo 3 (.Es 14 (.t 1)),
 qo 4 (.call (.f 218) [(.t 3),(qk 1)]),
 qm 2 4])
 (.cond (.t 2) .skip
 (.mj [qo 5 (.Es 14 (.t 1)),
 qo 6 (.call (.f 218) [(.t 5),(qk 2)]),
 qm 2 6])))
 (.cond (.t 2) (.mj [qo 7 (.Es 14 (.t 1)),
 qo 8 (.call (.f 219) [(.t 7)])])
 (.seq (.mK [qo 10 (.B0 0 (.t 1)),
 qd 11 (.ld1 (.t 10)) [0],
 qd 12 (.kL (.t 11)) [1,0],
 qd 13 (.B0 3 (.t 12)) [2,1,0],
 qd 14 (.ld1 (.t 13)) [3,2,1,0],
 qd 15 (.bin .eql (.t 14) (qk 0)) [4,3,2,1,0],
 qd 16 (.mv (.t 15)) [5,4,3,2,1,0],
 qe 17 (.B0 0 (.t 1)) 16 true [6,5,4,3,2,1,0],
 qe 18 (.ld1 (.t 17)) 16 true [7,6,5,4,3,2,1,0],
 qe 19 (.kL (.t 18)) 16 true [8,7,6,5,4,3,2,1,0],
 qe 20 (.B0 6 (.t 19)) 16 true [9,8,7,6,5,4,3,2,1,0],
 qe 21 (.ld1 (.t 20)) 16 true [10,9,8,7,6,5,4,3,2,1,0],
 qe 22 (.B0 1 (.t 1)) 16 true [6,5,4,3,2,1,0],
 qe 23 (.B0 6 (.t 22)) 16 true [12,6,5,4,3,2,1,0],
 qe 24 (.ld1 (.t 23)) 16 true [13,12,6,5,4,3,2,1,0],
 qe 25 (.bin .eql (.t 21) (.t 24)) 16 true [11,10,9,8,7,6,5,4,3,2,1,0,14,13,12],
 qd 26 (.pick (.t 16) (.t 25) qf) [6,5,4,3,2,1,0,15,11,10,9,8,7,14,13,12],
 qd 27 (.mv (.t 26)) [16,6,5,4,3,2,1,0,15,11,10,9,8,7,14,13,12],
 qe 28 (.B0 12 (.t 1)) 27 true [17,16,6,5,4,3,2,1,0,15,11,10,9,8,7,14,13,12],
 qe 29 (.ld1 (.t 28)) 27 true [18,17,16,6,5,4,3,2,1,0,15,11,10,9,8,7,14,13,12],
 qe 30 (.B0 1 (.t 1)) 27 true [17,16,6,5,4,3,2,1,0,15,11,10,9,8,7,14,13,12],
 qe 31 (.B0 8 (.t 30)) 27 true [20,17,16,6,5,4,3,2,1,0,15,11,10,9,8,7,14,13,12],
 qe 32 (.ld1 (.t 31)) 27 true [21,20,17,16,6,5,4,3,2,1,0,15,11,10,9,8,7,14,13,12],
 qe 33 (.bin .lss (.t 29) (.t 32)) 27 true [19,18,17,16,6,5,4,3,2,1,0,15,11,10,9,8,7,14,13,12,22,21,20],
 qd 34 (.pick (.t 27) (.t 33) qf) [17,16,6,5,4,3,2,1,0,15,11,10,9,8,7,14,13,12,23,19,18,22,21,20],
 qd 9 (.mv (.t 34)) [24,17,16,6,5,4,3,2,1,0,15,11,10,9,8,7,14,13,12,23,19,18,22,21,20]])
 (.cond (.t 9) (.mK [qo 35 (.B0 0 (.t 1)),
 qd 36 (.ld1 (.t 35)) [0],
 qo 37 (.B0 0 (.t 1)),
 qd 38 (.ld1 (.t 37)) [2],
 qo 39 (.B0 0 (.t 1)),
 qd 40 (.ld1 (.t 39)) [4],
 qo 41 (.B0 0 (.t 1)),
 qd 42 (.ld1 (.t 41)) [6],
 qo 43 (.B0 1 (.t 1)),
 qd 44 (.B0 4 (.t 43)) [8],
 qd 45 (.ld1 (.t 44)) [9,8],
 qo 46 (.B0 1 (.t 1)),
 qd 47 (.B0 5 (.t 46)) [11],
 qd 48 (.ld1 (.t 47)) [12,11],
 qo 49 (.B0 1 (.t 1)),
 qd 50 (.B0 8 (.t 49)) [14],
 qd 51 (.ld1 (.t 50)) [15,14],
 qd 52 (.kL (.t 36)) [1,0],
 qd 53 (.B0 3 (.t 52)) [17,1,0],
 ql (.st 1 (.t 53) (qk 1)) [18,17,1,0],
 qd 54 (.kL (.t 38)) [3,2,0,1,8,9,10,17,18,19],
 qd 55 (.B0 4 (.t 54)) [20,3,2,0,1,8,9,10,17,18,19],
 ql (.st 1 (.t 55) (.t 45)) [21,20,3,2,0,1,8,9,10,17,18,19],
 qd 56 (.kL (.t 40)) [5,4,0,1,2,3,8,9,10,11,12,13,17,18,19,20,21,22],
 qd 57 (.B0 5 (.t 56)) [23,5,4,0,1,2,3,8,9,10,11,12,13,17,18,19,20,21,22],
 ql (.st 1 (.t 57) (.t 48)) [24,23,5,4,0,1,2,3,8,9,10,11,12,13,17,18,19,20,21,22],
 qd 58 (.kL (.t 42)) [7,6,0,1,2,3,4,5,8,9,10,11,12,13,14,15,16,17,18,19,20,21,22,23,24,25],
 qd 59 (.B0 7 (.t 58)) [26,7,6,0,1,2,3,4,5,8,9,10,11,12,13,14,15,16,17,18,19,20,21,22,23,24,25],
 ql (.st 1 (.t 59) (.t 51)) [27,26,7,6,0,1,2,3,4,5,8,9,10,11,12,13,14,15,16,17,18,19,20,21,22,23,24,25]])
 .skip)))))),
[])
def aeC:bM prog f217=some aeR:=by kernel_rfl
def wg(a:zm)(m:bE)(now mode room term:Int)(sh:List eE)(wr:Int):aS G 218 [pJ m now,.int mode] (vB a room term sh wr) (.bool (a.own m mode)) (vB a room term sh wr):=by
 refine Lv func218 (oI _ _ _ _ _) ?_;unfold zm.own;simp only[pJ,vB,go_sem];by_cases U:a.mode=mode;case neg=>simp only[beq_eq_false_iff_ne.2 U,U,false_and,go_sem]
 simp only[beq_iff_eq.2 U,U,go_sem];by_cases h2:a.aM=m.aM;case neg=>simp only[beq_eq_false_iff_ne.2 h2,h2,false_and,go_sem]
 simp only[beq_iff_eq.2 h2,h2,go_sem];by_cases B:a.inc=m.inc
 .simp only[beq_iff_eq.2 B,B,go_sem]
 .simp only[beq_eq_false_iff_ne.2 B,B,go_sem]
def D8(a:zm)(m:bE)(now room term:Int)(sh:List eE)(wr:Int):aS G 219 [pJ m now] (vB a room term sh wr) (.cZ []) (vB (a.renew m) room term sh wr):=by refine Lv func219 (oI _ _ _ _ _) ?_;simp only[pJ,vB,zm.renew,go_sem];refine dQ trivial
def zm.rest(a:zm):zm:=if a.mode=4 then a else a.loose
def zm.take(a:zm)(m:bE)(now:Int):zm:=if a.own m 1=true\/a.own m 2=true then a.renew m else if a.mode=0/\a.version=m.version/\now<m.til then{ a with mode:=1,aM:=m.aM,inc:=m.inc,bD:=m.til }else a
def zm.work(a:zm)(m:bE):zm:=if a.own m 2=true then a.renew m else if a.own m 1=true then{ a with mode:=2,ff:=m.work,bD:=m.til }else a
def zm.jC(a:zm)(m:bE):zm:=if a.mode=0/\1<=m.version/\m.version<=9 then{ a with mode:=4,U9:=m.version }else a
def Sl(a:zm)(m:bE)(now room term:Int)(sh:List eE)(wr:Int):aS G 216 [pJ m now] (vB a room term sh wr) (.cZ []) (vB a.rest room term sh wr):=by
 have h:=oK (G:=G) a;simp only[tR,zm.loose]at h;refine Lv func216 (oI _ _ _ _ _) ?_;unfold zm.rest;by_cases y:a.mode=4
 .simp only[pJ,vB,y,bne_self_eq_false,go_sem]
 .simp only[pJ,vB,zm.loose,y,bne_iff_ne.2 y,go_sem];refine cc h ?_;refine dQ trivial
def RP(a:zm)(m:bE)(now room term:Int)(sh:List eE)(wr:Int):aS G 217 [pJ m now] (vB a room term sh wr) (.cZ []) (vB (a.take m now) room term sh wr):=by
 have U:=wg (G:=G) a m now 1 room term sh wr;have h2:=wg (G:=G) a m now 2 room term sh wr;have hr:=D8 (G:=G) a m now room term sh wr;generalize j:a.take m now=z;simp only[zm.take]at j;refine eY func217 (by decide) aeC rfl rfl (oI _ _ _ _ _) rfl ?_;simp only[pJ,vB]at U h2 hr;simp only[pJ,vB,aeR,go_sem];cases o:a.own m 1 with
 |true=>
  rw[o]at U j;obtain rfl:a.renew m=z:=by simpa using j
  refine kG [0,1] U ?_;refine bJ [0,1] hr trivial
 |false=>
 rw[o]at U j;refine kG [0,1] U ?_;cases V:a.own m 2 with
 |true=>
  rw[V]at h2 j;obtain rfl:a.renew m=z:=by simpa using j
  refine kG [0,1] h2 ?_;refine bJ [0,1] hr trivial
 |false=>
 rw[V]at h2 j;refine kG [0,1] h2 ?_;simp only[Bool.false_eq_true,or_self,if_false]at j;obtain⟨u,K,T,b,v,q,e,E,X,H⟩:=a;by_cases k0:b=0;case neg=>obtain rfl:=j.symm.trans (if_neg (λh=>k0 h.1));simp only[beq_eq_false_iff_ne.2 k0,go_sem]
 subst k0;by_cases w:e=m.version;case neg=>obtain rfl:=j.symm.trans (if_neg (λh=>w h.2.1));simp only[beq_eq_false_iff_ne.2 w,go_sem]
 subst w;by_cases c:now<m.til;case neg=>obtain rfl:=j.symm.trans (if_neg (λh=>c h.2.2));simp only[decide_eq_false c,go_sem]
 obtain rfl:=j.symm.trans (if_pos ⟨rfl,rfl,c⟩);simp only[decide_eq_true c,go_sem];refine dQ trivial
def Ru(a:zm)(m:bE)(now room term:Int)(sh:List eE)(wr:Int):aS G 220 [pJ m now] (vB a room term sh wr) (.cZ []) (vB (a.work m) room term sh wr):=by
 have U:=wg (G:=G) a m now 1 room term sh wr;have h2:=wg (G:=G) a m now 2 room term sh wr;have hr:=D8 (G:=G) a m now room term sh wr;generalize j:a.work m=z;simp only[zm.work]at j;refine Lv func220 (oI _ _ _ _ _) ?_;simp only[pJ,vB]at U h2 hr;simp only[pJ,vB,go_sem];cases V:a.own m 2 with
 |true=>
  rw[V]at h2 j;obtain rfl:a.renew m=z:=by simpa using j
  refine kG [0,1] h2 ?_;refine bJ [0,1] hr trivial
 |false=>
 rw[V]at h2 j;refine kG [0,1] h2 ?_;cases o:a.own m 1 with
 |true=>
  rw[o]at U j;obtain rfl:{ a with mode:=2,ff:=m.work,bD:=m.til } = z:=by simpa using j
  refine kG [0,1] U ?_;refine dQ trivial
 |false=>
  rw[o]at U j;obtain rfl:a=z:=by simpa using j
  refine kG [0,1] U trivial
def Mp(a:zm)(m:bE)(now room term:Int)(sh:List eE)(wr:Int):aS G 224 [pJ m now] (vB a room term sh wr) (.cZ []) (vB (a.jC m) room term sh wr):=by
 generalize j:a.jC m=z;simp only[zm.jC]at j;refine Lv func224 (oI _ _ _ _ _) ?_;simp only[pJ,vB,go_sem];obtain⟨u,K,T,b,v,q,e,E,X,H⟩:=a;by_cases k0:b=0;case neg=>obtain rfl:=j.symm.trans (if_neg (λh=>k0 h.1));simp only[beq_eq_false_iff_ne.2 k0,go_sem]
 subst k0;by_cases k1:1<=m.version;case neg=>obtain rfl:=j.symm.trans (if_neg (λh=>k1 h.2.1));simp only[decide_eq_false (show¬m.version>=1 from k1),go_sem]
 by_cases c:m.version<=9;case neg=>obtain rfl:=j.symm.trans (if_neg (λh=>c h.2.2));simp only[decide_eq_true (show m.version>=1 from k1),decide_eq_false c,go_sem]
 obtain rfl:=j.symm.trans (if_pos ⟨rfl,k1,c⟩);simp only[decide_eq_true (show m.version>=1 from k1),decide_eq_true c,go_sem];refine dQ trivial
def Kt(l:List Int):ByteArray:=⟨(l.map λc=>UInt8.ofNat c.toNat).toArray⟩
def pz:∀l:List Int,bytesOf (ax l)=some (l.map λc=>UInt8.ofNat c.toNat)
 |[]=>rfl
 |c::l=>by show(match bytesOf (ax l)with|some bs=>some (UInt8.ofNat c.toNat::bs)|none=>none)=_;rw[pz l];rfl
def HC{l:List Int}(h:aT l):ZG (Kt l)=ax l:=by
 unfold ZG Kt ax;rw[map_map];refine map_congr_left λc K=>?_
 have:=h c K;have e:(((UInt8.ofNat c.toNat).toNat:Nat):Int)=c:=by rw[UInt8.toNat_ofNat',mod_eq_of_lt (by omega)];omega
 show[DV.val (.int .u8 ((UInt8.ofNat c.toNat).toNat:Int))]=[u8 c];rw[e];rfl
def tf(l:List Int):(Kt l).size=l.length:=by show(l.map λc=>UInt8.ofNat c.toNat).toArray.size=_;simp
def Ki(b:List Int):Option (List Int×Nat):=match fK b 0 with
 |none=>none
 |some (n,q)=>if n>(b.length:Int)-q then none else some ((b.drop q).take n.toNat,q+n.toNat)
def On:Option (List Int×Nat)->LV
 |none=>.cZ [.d (.val (.string ⟨#[]⟩)),.int 0,.bool false]
 |some (t,e)=>.cZ [.d (.val (.string (Kt t))),.int e,.bool true]
def IJ(b:List Int)(T:aT b)(Z:b.length<=1000000):aS G 263 [ak b,.int 0] [] (On (Ki b)) []:=by
 have D:=iD (G:=G) b T Z 0 (by omega) _ rfl;have u:(ax b).length=b.length:=au b;refine MG func263 (hid:=by cases Ki b with|none=>rfl|some p=>rfl) ?_;unfold Ki;cases E:fK b 0 with
 |none=>rw[E]at D;simp only[Gj,yg,yh,Option.isSome,ak,Int.natCast_zero]at D;simp only[ak,On,go_sem];refine a_ D trivial
 |some p=>
  obtain⟨n,q⟩:=p;have hr:=gw (λc K=>(T c K).1) E;unfold dS at hr;rw[E]at D;simp only[Gj,yg,yh,Option.isSome,ak,Int.natCast_zero]at D;have B:IntKind.i64.wrap ((b.length:Int)-(q:Int))=(b.length:Int)-q:=aH (by omega) (by omega);dsimp only;by_cases K:n>(b.length:Int)-q
  .rw [if_pos K];simp only[ak,On,go_sem];refine a_ D ?_;simp only[u,B,decide_eq_true K,go_sem]
  .rw [if_neg K];obtain⟨m,rfl⟩:=eq_ofNat_of_zero_le hr.1;have r:IntKind.i64.wrap ((q:Int)+(m:Int))=((q+m:Nat):Int):=by rw[aH (by omega) (by omega)];omega
   have hs:bytesOf (((ax b).drop q).take (q+m-q))=some (((b.drop q).take m).map λc=>UInt8.ofNat c.toNat):=by rw[show q+m-q=m by omega,ga,iE];exact pz _
   have c1:q<=q+m:=by omega
   have S:q+m<=b.length:=by omega
   simp only[ak,On,go_sem];refine a_ D ?_;simp only[u,B,r,decide_eq_false K,c1,S,Nat.le_refl,hs,go_sem];rfl
def zx(x:eE)(U:Int):Option (List Int):=if x.ce=U then some x.cd else if x.se=U then some x.sd else none
def Ue(L:List LV)(U:Int)(cs:List LV)(i:Nat):St:=⟨[(2,.int U),(6,.d (.val (.slice none 0 0))),(7,.bool false),(28,.agg cs),(29,.int i)],[some (.box 119 L)]⟩
def Ug(room term:Int)(sh:List eE)(wr:Int)(k:Nat)(hk:1<=k/\k<=24)(hs:sh.length=25)(U:Int)(v:1<=U)(a:∀d,zx (sh.getD k gU) U=some d->d≠[]/\d.length<=1000000) :
  aS G 262 [.ptr 0 0,.int k,.int U] (eF room term sh wr) (.cZ [ep ((zx (sh.getD k gU) U).getD []),.bool (zx (sh.getD k gU) U).isSome]) (eF room term sh wr):=by
 have hj:=mH (G:=G) room term sh wr k hk;obtain⟨A,B,q,E,O⟩:=xW room term sh wr k (by omega);have O:=O _ rfl;have u:=dX 1 room term sh wr;generalize sh.getD k gU=x at *;obtain⟨ce,cd,se,sd⟩:=x;unfold zx at a ⊢;dsimp only at a O ⊢;simp only[eF,sA]at hj;refine Lv func262 u (hid:=by simp[bV,bn,xl,LV.bool]) ?_;simp only[eF,go_sem,sA];refine kG [0] hj ?_;have t:bn 1 (LV.int room::LV.int term::(sh.flatMap Nq++[LV.int wr]))=true:=by simp[eB,gV,bn,bV,LV.int]
 simp only[LV.int]at O t;rw[O]at t ⊢;generalize H:2+4*k=m at *;have g0:=abp A B (LV.d (.val (.int .i64 ce))) (ep cd) (LV.d (.val (.int .i64 se))) (ep sd) m q;have g2:((A++LV.d (.val (.int .i64 ce))::ep cd::LV.d (.val (.int .i64 se))::ep sd::B).drop m).take 2=[LV.d (.val (.int .i64 ce)),ep cd]:=by subst q;simp
 have Z:(A++LV.d (.val (.int .i64 ce))::ep cd::LV.d (.val (.int .i64 se))::ep sd::B).length=m+4+B.length:=by rw[length_append,q];simp;omega
 have c1:m+2<=m+4+B.length:=by omega
 have S:m+4<=m+4+B.length:=by omega
 clear E O u;generalize A++LV.d (.val (.int .i64 ce))::ep cd::LV.d (.val (.int .i64 se))::ep sd::B=L at *;simp only[dF (U<1),g0,g2,Z,c1,S,go_sem];have e:=λ(c:Int) (d:List Int) (h:(c::d).length<=1000000)=>k_ (G:=G) (c::d) h
 refine aQ [2,6,7,28,29] [] (λi:Nat=>i<=2/\(1<=i->ce≠U)/\(2<=i->se≠U)) (λi=>2-i) (Ue L U [.int ce,ep cd,.int se,ep sd]) 0 ?_ ⟨zero_le _,λh=>absurd h (by decide),λh=>absurd h (by decide)⟩ (λi hi=>?_)
 .simp only[Ue,Int.natCast_zero,go_sem]
 obtain⟨hi,X,T⟩:=hi;simp only[Ue,go_sem];rcases(show i=0\/i=1\/i=2 by omega)with rfl|rfl|rfl
 .by_cases o:ce=U
  .obtain ⟨D,J⟩:=a cd (by rw[if_pos o]);cases cd with
   |nil=>exact absurd rfl D
   |cons c d=>have e:=e c d J;simp only[ak]at e;simp only[Int.natCast_zero,if_pos o,ep,show(ce==U)=true from beq_iff_eq.2 o,Option.getD,Option.isSome,go_sem];refine a_ e ?_;rfl
  .simp only[Int.natCast_zero,show(ce==U)=false from beq_eq_false_iff_ne.2 o,go_sem];refine aY 1 ?_ ?_ ⟨by decide,λ_=>o,λh=>absurd h (by decide)⟩ (by decide)
   .simp only[t,xl,go_sem]
   .simp only[Ue,show IntKind.i64.wrap 1=1 from by decide,Int.natCast_one,go_sem]
 .have o:=X (Nat.le_refl _);by_cases V:se=U
  .obtain ⟨D,J⟩:=a sd (by rw[if_neg o,if_pos V]);cases sd with
   |nil=>exact absurd rfl D
   |cons c d=>have e:=e c d J;simp only[ak]at e;simp only[Int.natCast_one,if_neg o,if_pos V,ep,show(se==U)=true from beq_iff_eq.2 V,Option.getD,Option.isSome,go_sem];refine a_ e ?_;rfl
  .simp only[Int.natCast_one,show(se==U)=false from beq_eq_false_iff_ne.2 V,go_sem];refine aY 2 ?_ ?_ ⟨by decide,λ_=>o,λ_=>V⟩ (by decide)
   .simp only[t,xl,go_sem]
   .simp only[Ue,show IntKind.i64.wrap (1+1)=2 from by decide,show IntKind.i64.wrap 2=2 from by decide,show((2:Nat):Int)=2 from rfl,go_sem]
 .simp only[show((2:Nat):Int)=2 from rfl,if_neg (X (by decide)),if_neg (T (Nat.le_refl _)),Option.getD,Option.isSome,ep,go_sem]
def RG{b:List Int}(T:aT b){t:List Int}{e:Nat}(h:Ki b=some (t,e)):aT t/\t.length<=b.length:=by
 unfold Ki at h;split at h
 .cases h
 .split at h
  .cases h
  .cases h;exact⟨λc K=>T c (mem_of_mem_drop (mem_of_mem_take K)),by rw[length_take,length_drop];omega⟩
def aax(x:eE)(U:Int):Int:=match zx x U with
 |none=>0
 |some d=>match Ki d with
  |none=>0
  |some (t,e)=>if e=d.length then(match fK t 0 with
   |none=>0
   |some (n,q)=>if q=t.length then(if n<1000 then n else 1000)else 0)else 0
def Xx(s:aa)(Z:s.jobs.length<=24)(room term:Int)(sh:List eE)(wr:Int)(J:iH sh)(v:∀k,k<s.jobs.length->0<=(dO s k).epoch)(k:Nat)(hk:k<s.jobs.length) :
  aS G 243 [aU s,.int ((k+1:Nat):Int),.ptr 0 0] (eF room term sh wr) (.int (if(dO s k).epoch=0 then 0 else aax (sh.getD (k+1) gU) (dO s k).epoch)) (eF room term sh wr):=by
 have K:=aG (f:=dH) az hk;have m:=v k hk;have A:=J.cd (k+1) (by omega);have j:=J.sd (k+1) (by omega);have b:=λadm a=>Ug (G:=G) room term sh wr (k+1) (by omega) J.len (dO s k).epoch adm a
 generalize sh.getD (k+1) gU=x at *;unfold dO at *;generalize s.jobs.getD k az=O at *;simp only[dH]at K;have S:IntKind.i64.wrap (((k+1:Nat):Int)-1)=k:=by rw[aH (by omega) (by omega)];omega
 have adk:=Gs (G:=G);refine Lv func243 (dX _ _ _ _ _) ?_;simp only[eF,go_sem,sA];simp only[dF (((k+1:Nat):Int)<1),dF (((k+1:Nat):Int)>(s.jobs.length:Nat)),S,hk,K,go_sem];by_cases h0:O.epoch=0
 .simp only[show(O.epoch==0)=true from beq_iff_eq.2 h0,h0,go_sem]
 simp only[show(O.epoch==0)=false from beq_eq_false_iff_ne.2 h0,h0,S,hk,K,go_sem];have y:∀d,zx x O.epoch=some d->d≠[]/\d.length<=100/\aT d:=λd hd=>by
  unfold zx at hd;split at hd
  .rename_i o;cases hd;exact⟨A.2.2 (by omega),A.1,A.2.1⟩
  .split at hd
   .rename_i V;cases hd;exact⟨j.2.2 (by omega),j.1,j.2.1⟩
   .cases hd
 have b:=b (by omega) (λd hd=>⟨(y d hd).1,by have:=(y d hd).2.1;omega⟩);simp only[eF,sA]at b;unfold aax;cases E:zx x O.epoch with
 |none=>rw[E]at b;simp only[Option.getD,Option.isSome,ep]at b;refine kG [0] b ?_;refine a_ adk trivial
 |some d=>
 obtain⟨r,X,hdb⟩:=y d E;rw[E]at b;have h:ep d=.d (.cM 1 (ax d)):=by cases d with
  |nil=>exact absurd rfl r
  |cons c d=>rfl
 simp only[Option.getD,Option.isSome,h]at b;have B:=IJ (G:=G) d hdb (by omega);refine kG [0] b ?_;cases u:Ki d with
 |none=>rw[u]at B;simp only[ak,On]at B;refine a_ B trivial
 |some p=>
 obtain⟨t,e⟩:=p;obtain⟨H,T⟩:=RG hdb u;rw[u]at B;simp only[ak,On]at B;refine a_ B ?_;simp only[au,go_sem];by_cases U:e=d.length;case neg=>simp only[show((e:Int) !=(d.length:Int))=true from bne_iff_ne.2 (by omega),U,go_sem]
 simp only[U,bne_self_eq_false,HC H,go_sem];have D:=iD (G:=G) t H (by omega) 0 (by omega) _ rfl;cases w:fK t 0 with
 |none=>rw[w]at D;simp only[Gj,yg,yh,Option.isSome,ak,Int.natCast_zero]at D;refine a_ D trivial
 |some p=>
 obtain⟨n,q⟩:=p;rw[w]at D;simp only[Gj,yg,yh,Option.isSome,ak,Int.natCast_zero]at D;refine a_ D ?_;by_cases h2:q=t.length;case neg=>simp only[tf,show((q:Int) !=(t.length:Int))=true from bne_iff_ne.2 (by omega),h2,go_sem]
 simp only[tf,h2,bne_self_eq_false,go_sem]
def Xe:Nat×C×List RV:=(92,
(.seq (.mj [qo 4 (.box 94 (.t 1)),
 qo 6 (.mv qf)])
 (.seq (.seq (.mK [qm 8 0,
 qd 9 (.call (.f 53) [(.t 8)]) [0],
 qd 10 (.not (.t 9)) [1,0],
 qd 11 (.mv (.t 10)) [2,1,0],
 qe 12 (.B0 1 (.t 4)) 11 false [3,2,1,0],
 qe 13 (.ld1 (.t 12)) 11 false [4,3,2,1,0],
 qe 14 (.bin .neq (.t 13) (qk 6)) 11 false [5,4,3,2,1,0],
 qd 15 (.pick (.t 11) qt (.t 14)) [3,2,1,0,6,5,4],
 qd 16 (.mv (.t 15)) [7,3,2,1,0,6,5,4],
 qe 17 (.B0 0 (.t 4)) 16 false [8,7,3,2,1,0,6,5,4],
 qe 18 (.ld1 (.t 17)) 16 false [9,8,7,3,2,1,0,6,5,4],
 qe 19 (.bin .lss (.t 18) (qk 0)) 16 false [10,9,8,7,3,2,1,0,6,5,4],
 qd 20 (.pick (.t 16) qt (.t 19)) [8,7,3,2,1,0,6,5,4,11,10,9],
 qd 21 (.mv (.t 20)) [12,8,7,3,2,1,0,6,5,4,11,10,9],
 qe 22 (.B0 0 (.t 4)) 21 false [13,12,8,7,3,2,1,0,6,5,4,11,10,9],
 qe 23 (.ld1 (.t 22)) 21 false [14,13,12,8,7,3,2,1,0,6,5,4,11,10,9],
 qe 24 (.mv (.t 0)) 21 false [13,12,8,7,3,2,1,0,6,5,4,11,10,9],
 qe 25 (.kL (.t 24)) 21 false [16,13,12,8,7,3,2,1,0,6,5,4,11,10,9],
 qe 26 (.B0 18 (.t 25)) 21 false [17,16,13,12,8,7,3,2,1,0,6,5,4,11,10,9],
 qe 27 (.ld1 (.t 26)) 21 false [18,17,16,13,12,8,7,3,2,1,0,6,5,4,11,10,9],
 qe 28 (.len (.t 27)) 21 false [19,18,17,16,13,12,8,7,3,2,1,0,6,5,4,11,10,9],
 qe 29 (.bin .geq (.t 23) (.t 28)) 21 false [15,14,13,12,8,7,3,2,1,0,6,5,4,11,10,9,20,19,18,17,16],
 qd 30 (.pick (.t 21) qt (.t 29)) [13,12,8,7,3,2,1,0,6,5,4,11,10,9,21,15,14,20,19,18,17,16],
 qd 31 (.mv (.t 30)) [22,13,12,8,7,3,2,1,0,6,5,4,11,10,9,21,15,14,20,19,18,17,16],
 qe 32 (.B0 2 (.t 4)) 31 false [23,22,13,12,8,7,3,2,1,0,6,5,4,11,10,9,21,15,14,20,19,18,17,16],
 qe 33 (.ld1 (.t 32)) 31 false [24,23,22,13,12,8,7,3,2,1,0,6,5,4,11,10,9,21,15,14,20,19,18,17,16],
 qe 34 (.mv (.t 0)) 31 false [23,22,13,12,8,7,3,2,1,0,6,5,4,11,10,9,21,15,14,20,19,18,17,16],
 qe 35 (.kL (.t 34)) 31 false [26,23,22,13,12,8,7,3,2,1,0,6,5,4,11,10,9,21,15,14,20,19,18,17,16],
 qe 36 (.B0 12 (.t 35)) 31 false [27,26,23,22,13,12,8,7,3,2,1,0,6,5,4,11,10,9,21,15,14,20,19,18,17,16],
 qe 37 (.B0 5 (.t 36)) 31 false [28,27,26,23,22,13,12,8,7,3,2,1,0,6,5,4,11,10,9,21,15,14,20,19,18,17,16],
 qe 38 (.ld1 (.t 37)) 31 false [29,28,27,26,23,22,13,12,8,7,3,2,1,0,6,5,4,11,10,9,21,15,14,20,19,18,17,16],
 qe 39 (.bin .gtr (.t 33) (.t 38)) 31 false [25,24,23,22,13,12,8,7,3,2,1,0,6,5,4,11,10,9,21,15,14,20,19,18,17,16,30,29,28,27,26],
 qd 40 (.pick (.t 31) qt (.t 39)) [23,22,13,12,8,7,3,2,1,0,6,5,4,11,10,9,21,15,14,20,19,18,17,16,31,25,24,30,29,28,27,26]])
 (.cond (.t 40) (.seq (.mj [qo 6 (.mv qf)])
 .ret)
 .skip))
 (.seq (.mK [qm 41 0,
 qd 42 (.kL (.t 41)) [0],
 qd 43 (.B0 18 (.t 42)) [1,0],
 qd 44 (.ld1 (.t 43)) [2,1,0],
 qo 45 (.B0 0 (.t 4)),
 qd 46 (.ld1 (.t 45)) [4],
 qd 47 (.BU 26 (.t 44) (.t 46)) [3,2,1,0,5,4],
 qd 7 (.mv (.t 47)) [6,3,2,1,0,5,4]])
 (.seq (.seq (.mK [qm 48 0,
 qd 49 (.kL (.t 48)) [0],
 qd 50 (.B0 12 (.t 49)) [1,0],
 qd 51 (.B0 0 (.t 50)) [2,1,0],
 qd 52 (.ld1 (.t 51)) [3,2,1,0],
 qo 53 (.B0 0 (.t 4)),
 qd 54 (.ld1 (.t 53)) [5],
 qd 55 (.BU 5 (.t 52) (.t 54)) [4,3,2,1,0,6,5],
 qd 56 (.B0 0 (.t 55)) [7,4,3,2,1,0,6,5],
 qd 57 (.ld1 (.t 56)) [8,7,4,3,2,1,0,6,5],
 qd 58 (.mv (.t 57)) [9,8,7,4,3,2,1,0,6,5],
 qe 59 (.mv (.t 7)) 58 true [10,9,8,7,4,3,2,1,0,6,5],
 qe 60 (.kL (.t 59)) 58 true [11,10,9,8,7,4,3,2,1,0,6,5],
 qe 61 (.B0 1 (.t 60)) 58 true [12,11,10,9,8,7,4,3,2,1,0,6,5],
 qe 62 (.ld1 (.t 61)) 58 true [13,12,11,10,9,8,7,4,3,2,1,0,6,5],
 qe 63 (.not (.t 62)) 58 true [14,13,12,11,10,9,8,7,4,3,2,1,0,6,5],
 qe 64 (.mv (.t 63)) 58 true [15,14,13,12,11,10,9,8,7,4,3,2,1,0,6,5],
 qe 65 (.B0 2 (.t 4)) 64 false [16,15,14,13,12,11,10,9,8,7,4,3,2,1,0,6,5],
 qe 66 (.ld1 (.t 65)) 64 false [17,16,15,14,13,12,11,10,9,8,7,4,3,2,1,0,6,5],
 qe 67 (.mv (.t 0)) 64 false [16,15,14,13,12,11,10,9,8,7,4,3,2,1,0,6,5],
 qe 68 (.kL (.t 67)) 64 false [19,16,15,14,13,12,11,10,9,8,7,4,3,2,1,0,6,5],
 qe 69 (.B0 12 (.t 68)) 64 false [20,19,16,15,14,13,12,11,10,9,8,7,4,3,2,1,0,6,5],
 qe 70 (.B0 5 (.t 69)) 64 false [21,20,19,16,15,14,13,12,11,10,9,8,7,4,3,2,1,0,6,5],
 qe 71 (.ld1 (.t 70)) 64 false [22,21,20,19,16,15,14,13,12,11,10,9,8,7,4,3,2,1,0,6,5],
 qe 72 (.bin .neq (.t 66) (.t 71)) 64 false [18,17,16,15,14,13,12,11,10,9,8,7,4,3,2,1,0,6,5,23,22,21,20,19],
 qe 73 (.pick (.t 64) qt (.t 72)) 58 true [16,15,14,13,12,11,10,9,8,7,4,3,2,1,0,6,5,24,18,17,23,22,21,20,19],
 qe 74 (.mv (.t 73)) 58 true [25,16,15,14,13,12,11,10,9,8,7,4,3,2,1,0,6,5,24,18,17,23,22,21,20,19],
 qe 75 (.B0 3 (.t 4)) 74 false [26,25,16,15,14,13,12,11,10,9,8,7,4,3,2,1,0,6,5,24,18,17,23,22,21,20,19],
 qe 76 (.ld1 (.t 75)) 74 false [27,26,25,16,15,14,13,12,11,10,9,8,7,4,3,2,1,0,6,5,24,18,17,23,22,21,20,19],
 qe 77 (.mv (.t 7)) 74 false [26,25,16,15,14,13,12,11,10,9,8,7,4,3,2,1,0,6,5,24,18,17,23,22,21,20,19],
 qe 78 (.kL (.t 77)) 74 false [29,26,25,16,15,14,13,12,11,10,9,8,7,4,3,2,1,0,6,5,24,18,17,23,22,21,20,19],
 qe 79 (.B0 0 (.t 78)) 74 false [30,29,26,25,16,15,14,13,12,11,10,9,8,7,4,3,2,1,0,6,5,24,18,17,23,22,21,20,19],
 qe 80 (.ld1 (.t 79)) 74 false [31,30,29,26,25,16,15,14,13,12,11,10,9,8,7,4,3,2,1,0,6,5,24,18,17,23,22,21,20,19],
 qe 81 (.bin .neq (.t 76) (.t 80)) 74 false [28,27,26,25,16,15,14,13,12,11,10,9,8,7,4,3,2,1,0,6,5,24,18,17,23,22,21,20,19,32,31,30,29],
 qe 82 (.pick (.t 74) qt (.t 81)) 58 true [26,25,16,15,14,13,12,11,10,9,8,7,4,3,2,1,0,6,5,24,18,17,23,22,21,20,19,33,28,27,32,31,30,29],
 qd 83 (.pick (.t 58) (.t 82) qf) [10,9,8,7,4,3,2,1,0,6,5,34,26,25,16,15,14,13,12,11,24,18,17,23,22,21,20,19,33,28,27,32,31,30,29]])
 (.cond (.t 83) (.seq (.mj [qo 6 (.mv qf)])
 .ret)
 .skip))
 (.seq (.mj [qm 84 7,
 qm 85 7,
 qo 86 (.Es 11 (.t 4)),
 qm 87 2,
 qo 88 (.kL (.t 84)),
 qo 89 (.B0 15 (.t 88)),
 qn (.st 11 (.t 89) (.t 86)),
 qo 90 (.kL (.t 85)),
 qo 91 (.B0 14 (.t 90)),
 qn (.st 1 (.t 91) (.t 87))])
 (.seq (.mj [qo 6 (.mv qt)])
 .ret)))))),
[(.t 6)])
def Va:bM prog f111=some Xe:=by kernel_rfl
def aF.YZ(x:aF)(m:bE):Bool:=decide (m.kind=6)&&decide (0<=m.node)&&decide (m.node<x.lines.length)&&decide (m.term<=x.s.term)
def aF.Yi(x:aF)(m:bE):Bool:=(ei x.s m.node.toNat).up&&(!(x.lines.getD m.node.toNat fI).has||m.term !=x.s.term||m.gen !=(x.lines.getD m.node.toNat fI).gen)
def aF.zn(x:aF)(m:bE):Bool:=x.YZ m&&!x.Yi m
def aF.jw(x:aF)(m:bE)(now:Int):aF:=if x.zn m=true then{ x with lines:=x.lines.set m.node.toNat { (x.lines.getD m.node.toNat fI)with report:=m,heard:=now } }else x
def TY(x:aF)(hd:x.down=false)(B:x.lines.length=x.s.nodes.length)(m:bE)(now:Int):aS G 111 [.ptr 0 0,fG m,.int now] (bX x) (.bool (x.zn m)) (bX (x.jw m now)):=by
 have X:=nS (G:=G) x;rw[hd]at X;obtain⟨q0,A,O,y,k,q,q6,q7,q8,q9,h⟩:=m;unfold aF.jw aF.zn aF.YZ aF.Yi;dsimp only;simp only[bX,dR,aL,sA]at X;by_cases k1:A=6;case neg=>simp only[k1,decide_false,Bool.false_and,Bool.false_eq_true,if_false];refine eY func111 (by decide) Va rfl rfl (cw _ (Nat.le_refl 8) _) rfl ?_;simp only[bX,dR,aL,length_set,Xe,go_sem,sA];refine oL [0,1,2,3,4,5,6,7] X ?_;simp only[show(A !=6)=true from bne_iff_ne.2 k1,go_sem]
 have t:(A !=6)=false:=by rw[k1];rfl
 by_cases k2:0<=q0;case neg=>simp only[k1,k2,decide_true,decide_false,Bool.false_and,Bool.true_and,Bool.false_eq_true,if_false];refine eY func111 (by decide) Va rfl rfl (cw _ (Nat.le_refl 8) _) rfl ?_;simp only[bX,dR,aL,length_set,Xe,go_sem,sA];refine oL [0,1,2,3,4,5,6,7] X ?_;simp only[t,dT (q0<0),go_sem]
 by_cases k3:q0<x.lines.length;case neg=>simp only[k1,k2,k3,decide_true,decide_false,Bool.false_and,Bool.true_and,Bool.false_eq_true,if_false];refine eY func111 (by decide) Va rfl rfl (cw _ (Nat.le_refl 8) _) rfl ?_;simp only[bX,dR,aL,length_set,Xe,go_sem,sA];refine oL [0,1,2,3,4,5,6,7] X ?_;simp only[t,dF (q0<0),dT (q0>=(x.lines.length:Nat)),go_sem]
 by_cases k4:O<=x.s.term;case neg=>simp only[k1,k2,k3,k4,decide_true,decide_false,Bool.false_and,Bool.true_and,Bool.false_eq_true,if_false];refine eY func111 (by decide) Va rfl rfl (cw _ (Nat.le_refl 8) _) rfl ?_;simp only[bX,dR,aL,length_set,Xe,go_sem,sA];refine oL [0,1,2,3,4,5,6,7] X ?_;simp only[t,dF (q0<0),dF (q0>=(x.lines.length:Nat)),dT (O>x.s.term),go_sem]
 obtain⟨i,rfl⟩:∃i:Nat,q0=i:=⟨q0.toNat,by omega⟩;have hi:i<x.lines.length:=by omega
 have D:i<x.s.nodes.length:=by omega
 have V:=aG (f:=oz) fI hi;have u:=aG (f:=cv) aq D;have E:∀v,((x.lines.map oz).set i v)[i]? = some v:=λv=>getElem?_set_self (by simpa using hi)
 simp only[k1,k2,k3,k4,decide_true,Bool.true_and,toNat_natCast];have w:ei x.s i=x.s.nodes.getD i aq:=rfl;rw[w];generalize x.s.nodes.getD i aq=n at *;generalize x.lines.getD i fI=l at *;obtain⟨up,j,J,b,H⟩:=n;obtain⟨lg,lhs,⟨p0,c,U,a,p4,Z,p6,p7,p8,p9,p10⟩,r,le,⟨r0,r1,K,T,r4,r5,r6,r7,r8,r9,r10⟩⟩:=l;simp only[oz,jQ,sA]at V;simp only[cv]at u;have g1:=dF ((i:Int)<0);have g2:=dF ((i:Int)>=(x.lines.length:Nat));have g3:=dF (O>x.s.term);cases S:(up&&(!lhs||O !=x.s.term||y !=lg))with
 |true=>
  simp only[Bool.not_true,Bool.false_eq_true,if_false];refine eY func111 (by decide) Va rfl rfl (cw _ (Nat.le_refl 8) _) rfl ?_;simp only[bX,dR,aL,length_set,Xe,go_sem,sA];refine oL [0,1,2,3,4,5,6,7] X ?_;simp only[t,g1,g2,g3,hi,D,V,u,go_sem];cases up with
  |false=>simp at S
  |true=>
  cases lhs with
  |false=>
   simp only[hi,D,V,u,E,oz,map_set,length_set,set_set,go_sem,sA]
   (repeat (refine aD rfl ?_;(try simp only[hi,D,V,u,E,oz,map_set,length_set,set_set,go_sem,sA])))
  |true=>
  cases e:(O !=x.s.term)with
  |true=>
   simp only[e,hi,D,V,u,E,oz,map_set,length_set,set_set,go_sem,sA]
   (repeat (refine aD rfl ?_;(try simp only[hi,D,V,u,E,oz,map_set,length_set,set_set,go_sem,sA])))
  |false=>
  cases o:(y !=lg)with
  |true=>
   simp only[e,o,hi,D,V,u,E,oz,map_set,length_set,set_set,go_sem,sA]
   (repeat (refine aD rfl ?_;(try simp only[hi,D,V,u,E,oz,map_set,length_set,set_set,go_sem,sA])))
  |false=>simp[e,o]at S
 |false=>
  simp only[Bool.not_false,if_true];refine eY func111 (by decide) Va rfl rfl (cw _ (Nat.le_refl 8) _) rfl ?_;simp only[bX,dR,aL,length_set,Xe,go_sem,sA];refine oL [0,1,2,3,4,5,6,7] X ?_;simp only[t,g1,g2,g3,hi,D,V,u,E,go_sem];cases up with
  |false=>
   simp only[hi,D,V,u,E,oz,map_set,length_set,set_set,go_sem,sA]
   (repeat (refine aD rfl ?_;(try simp only[hi,D,V,u,E,oz,map_set,length_set,set_set,go_sem,sA])))
  |true=>
  cases lhs with
  |false=>simp at S
  |true=>
  cases e:(O !=x.s.term)with
  |true=>simp[e]at S
  |false=>
  cases o:(y !=lg)with
  |true=>simp[e,o]at S
  |false=>
   simp only[e,o,hi,D,V,u,E,oz,map_set,length_set,set_set,go_sem,sA]
   (repeat (refine aD rfl ?_;(try simp only[hi,D,V,u,E,oz,map_set,length_set,set_set,go_sem,sA])))
section
variable{c:av}{k:Nat}{x:aF}
structure gy(c:av)(k:Nat)(x:aF):Prop where
 ok:CL x
 cf:x.c=c
 dn:x.down=false
 hr:∀l∈x.lines,0<=l.heard/\l.heard<=1000000
 sz:iH x.sh
 nt:0<=x.dM/\x.dM<=k
def gy.more{H:Nat}(h:gy c k x)(hk:k<=H):gy c H x:=⟨h.ok,h.cf,h.dn,h.hr,h.sz,by have:=h.nt;omega⟩
def QW{sh:List eE}(h:iH sh)(o:cr):iH (ku o sh):=by
 unfold ku;split
 .exact h.set _ (EU (h.one _) _)
 split
 .exact h.set _ xZ
 .exact h
def Ua(s:aa)(sh:List eE)(j:Int):Int:=if(dO s (j.toNat-1)).epoch=0 then 0 else aax (sh.getD (j.toNat-1+1) gU) (dO s (j.toNat-1)).epoch
def T_{G:tY}(s:aa)(Z:s.jobs.length<=24)(room term:Int)(sh:List eE)(wr:Int)(J:iH sh)(v:∀k,k<s.jobs.length->0<=(dO s k).epoch)(j:Int)(hj:1<=j/\j<=s.jobs.length):aS G 243 [aU s,.int j,.ptr 0 0] (eF room term sh wr) (.int (Ua s sh j)) (eF room term sh wr):=by obtain⟨k,rfl⟩:∃k:Nat,j=(k+1:Nat):=⟨j.toNat-1,by omega⟩;unfold Ua;rw[toNat_natCast,Nat.add_sub_cancel];exact Xx s Z room term sh wr J v k (by omega)
def gy.note{c:av}{k:Nat}{x:aF}(h:gy c k x)(hk:k<=1000)(o:cr){now:Int}(D:0<=now/\now<=1000000):gy c (k+1) (x.bC o now):=by
 refine⟨h.ok.note o now,by rw[M6];exact h.cf,by rw[KW];exact h.dn,?_,?_,?_⟩
 .unfold aF.bC;split
  .intro l Z;change l∈oJ now o x.lines at Z;unfold oJ at Z;split at Z
   .rcases mem_or_eq_of_mem_set Z with Z|rfl
    .exact h.hr l Z
    .show 0<=(if o.kind=8 then now else(x.lines.getD o.a.toNat fI).heard)/\(if o.kind=8 then now else(x.lines.getD o.a.toNat fI).heard)<=1000000;split
     .exact D
     .by_cases X:o.a.toNat<x.lines.length
      .exact h.hr _ (by rw[getD,getElem?_eq_getElem X];exact getElem_mem X)
      .rw [getD,getElem?_eq_none (by omega)];exact⟨Int.le_refl _,by show(0:Int)<=_;omega⟩
   .exact h.hr l Z
  .exact h.hr
 .unfold aF.bC;split
  .exact QW h.sz o
  .exact h.sz
 .have:=h.nt;unfold aF.bC;split
  .show 0<=IntKind.i64.wrap (x.dM+1)/\IntKind.i64.wrap (x.dM+1)<=((k+1:Nat):Int);rw[aH (by omega) (by omega)];omega
  .show 0<=x.dM/\x.dM<=((k+1:Nat):Int);omega
def Hh(x:aF)(q:Option bE)(now:Int)(l:oM):(ni x q now l).1.heard=l.heard:=by
 unfold ni;split
 .rfl
 .split
  .rfl
  split<;>rfl
def gy.MF{c:av}{k:Nat}{y:aF}(h:gy c k y)(r:Int->Int)(now:Int):∀j,gy c k (c_ y r now j).1
 |0=>h
 |j+1=>by
  have o:=gy.MF h r now j;refine⟨⟨o.ok.right,o.ok.jn,o.ok.sh,?_⟩,o.cf,o.dn,?_,o.sz,o.nt⟩
  .show (List.set _ _ _).length=_;rw[length_set];exact o.ok.lines
  .intro l Z;change l∈(c_ y r now j).1.lines.set j _ at Z;rcases mem_or_eq_of_mem_set Z with Z|rfl
   .exact o.hr l Z
   .rw [Hh];by_cases X:j<(c_ y r now j).1.lines.length
    .exact o.hr _ (by rw[getD,getElem?_eq_getElem X];exact getElem_mem X)
    .rw [getD,getElem?_eq_none (by omega)];exact⟨Int.le_refl _,by show(0:Int)<=_;omega⟩
def gy.aaq(h:gy c k x)(m:bE){now:Int}(D:0<=now/\now<=1000000):gy c k (x.jw m now)/\(x.jw m now).s=x.s/\(x.jw m now).dM=x.dM:=by
 unfold aF.jw;split
 .refine ⟨⟨⟨h.ok.right,h.ok.jn,h.ok.sh,?_⟩,h.cf,h.dn,?_,h.sz,h.nt⟩,rfl,rfl⟩
  .show (List.set _ _ _).length=_;rw[length_set];exact h.ok.lines
  .intro l Z;rcases mem_or_eq_of_mem_set Z with Z|rfl
   .exact h.hr l Z
   .exact D
 .exact ⟨h,rfl,rfl⟩
def KV(K:x.c=c)(o:cr)(now:Int):(x.dc o=0/\aW c x.s o=((x.bC o now).s,0)/\(x.bC o now).dM=IntKind.i64.wrap (x.dM+1)/\o.kind≠0)\/(x.dc o≠0/\(x.bC o now).s=x.s/\(x.bC o now).dM=x.dM):=by
 subst K;by_cases h:x.dc o=0
 .have U:=(kq h).1;refine .inl ⟨h,?_,?_,?_⟩
  .have:(x.bC o now).s=(aW x.c x.s o).1:=by unfold aF.bC;rw[if_pos h]
   rw[this,<- U]
  .unfold aF.bC;rw[if_pos h]
  .intro hk;have E:eU o=false:=by unfold eU;rw[hk];rfl
   unfold aW yO at U;rw[if_pos E]at U;split at U<;>cases U
 .exact .inr ⟨h,by unfold aF.bC;rw[if_neg h],by unfold aF.bC;rw[if_neg h]⟩
def Q_(K:x.c=c)(now:Int)(u p:Option cr):(aW c x.s (x.GL now u p)=((x.iu now u p).s,0)/\(x.iu now u p).dM=IntKind.i64.wrap (x.dM+1)/\(x.GL now u p).kind≠0)\/(x.GL now u p=fW/\(x.iu now u p).s=x.s/\(x.iu now u p).dM=x.dM):=by
 unfold aF.GL aF.iu;cases x.ki now u p with
 |none=>exact .inr ⟨rfl,rfl,rfl⟩
 |some o=>
  dsimp only;rcases KV K o now with ⟨h,U,h2,B⟩|⟨h,U,h2⟩
  .rw [if_pos h];exact .inl ⟨U,h2,B⟩
  .rw [if_neg h];exact .inr ⟨rfl,U,h2⟩
def gy.act(h:gy c k x)(hk:k<=1000){now:Int}(D:0<=now/\now<=1000000)(u p:Option cr):gy c (k+1) (x.iu now u p):=by
 unfold aF.iu;split
 .exact h.note hk _ D
 .exact h.more (le_succ _)
end
structure ad2 where
 kind:Int
 now:Int
 keep:Int
 o:cr
 m:bE
 sk:Int
 st:Int
 sj:Int
 se:Int
 sd:List Int
def gP.Oo(j:gP)(p:List Int)(keep:Int):gP:={ j with l:=br j.l (2*(j.n / 4)+j.us) ((fh j.cnt p).take (h_ keep (fh j.cnt p))),cnt:=IntKind.i64.wrap (j.cnt+1),us:=j.us+(fh j.cnt p).length }
def aF.gI(x:aF)(o:cr)(keep:Int):aF:=if 1<=o.kind/\o.kind<=6 then{ x with j:=if x.dc o=0 then(x.bO o).Oo (fF o) keep else x.bO o,down:=true }else{ x with down:=true }
def RH(x:aF)(h:CL x)(hd:x.down=false)(o:cr)(now keep:Int):aS ck 121 [.ptr 0 0,qD o,.int now,.int keep] (bX x) (.int (x.C8 o)) (bX (x.gI o keep)):=by
 have X:=nS (G:=ck) x;have m:=uc (G:=ck) o;have A:=EJ x h o;have V:=h.GQ o;have q:(x.bO o).n=x.j.n:=by
  unfold aF.bO aF.GQ;split
  .rfl
  split
  .rfl
  .exact gP.uL _ _
 rw[hd]at X;unfold aF.C8 aF.gI;by_cases hk:1<=o.kind/\o.kind<=6;case neg=>have a:=nQ (G:=ck) x.j.l x.j.s keep;have Z:=h.jn.len;rw[decide_eq_false hk]at m;simp only[if_neg hk];simp only[wO,Z]at a;simp only[bX,dR,aL,sA]at X;refine Lv func121 (cw _ (Nat.le_refl 8) _) ?_;simp only[bX,dR,aL,go_sem,sA];refine kG [0,1,2,3,4,5,6,7] X ?_;refine a_ m ?_;refine bJ [2,5] a trivial
 rw[decide_eq_true hk]at m;simp only[if_pos hk];by_cases v:x.dc o=0;case neg=>have a:=nQ (G:=ck) (x.bO o).l (x.bO o).s keep;have Z:=V.len;simp only[v,if_false];generalize x.bO o=J at *;generalize x.yE o=B at *;generalize x.dc o=e at *;rw[q]at Z;simp only[wO,Z]at a;simp only[bX,dR,aL,q,sA]at X A;refine Lv func121 (cw _ (Nat.le_refl 8) _) ?_;simp only[bX,dR,aL,q,go_sem,sA];refine kG [0,1,2,3,4,5,6,7] X ?_;refine a_ m ?_;refine bJ [0,1,2,3,4,5,6,7] A ?_;simp only[show(e==0)=false from beq_eq_false_iff_ne.2 v,go_sem];refine bJ [2,5] a trivial
 obtain⟨U,h2,u⟩:=kq v;rw[u,v]at A;simp only[v,if_true];have hs:=BR (G:=ck) (x.bO o).n (x.bO o).l (x.bO o).s (x.bO o).cnt (x.bO o).cA (x.bO o).us (fF o) V.len (by have:=V.size;omega) V.used h2;have E:=gP.vT h2;have a:=Dz (G:=ck) (x.bO o).l (x.bO o).s (2*((x.bO o).n / 4)+(x.bO o).us) (fh (x.bO o).cnt (fF o)) (by have:=V.size;have:=V.len;omega) (by have:=V.size;have:=V.len;omega) keep;have Z:=V.len;have r:(br (x.bO o).l (2*((x.bO o).n / 4)+(x.bO o).us) ((fh (x.bO o).cnt (fF o)).take (h_ keep (fh (x.bO o).cnt (fF o))))).length=(x.bO o).n:=by rw[dD (by rw[length_take];have:=V.size;omega)];exact Z
 unfold gP.Oo;generalize x.bO o=J at *;generalize(fh J.cnt (fF o)).take (h_ keep (fh J.cnt (fF o)))=K at *;generalize fh J.cnt (fF o)=R at *;rw[q]at Z r hs a ⊢;generalize br J.l (2*(x.j.n / 4)+J.us) K=b at *;simp only[wO,jH,Z,r,sA]at a;simp only[zl,jnW,ak]at hs;simp only[bX,dR,aL,q,ak,sA]at X A;refine Lv func121 (cw _ (Nat.le_refl 8) _) ?_;simp only[bX,dR,aL,q,go_sem,sA];refine kG [0,1,2,3,4,5,6,7] X ?_;refine a_ m ?_;refine bJ [0,1,2,3,4,5,6,7] A ?_;refine bJ [1,2,3,4,5] hs ?_;refine bJ [2,5,9] a trivial
def abl(s t:aa)(h:s=t)(D:s.nodes.length<=1000)(hj:s.jobs.length<=1000):aS dh 12 [aU s,aU t] [] (.bool true) []:=by subst h;have:=OQ (G:=dh) s s (by omega) (by omega);rw[decide_eq_true rfl]at this;exact this
def LP{c:av}(h:gq c=true){n:Nat}(D:64<=n/\n<=65536)(room:Int):gy c 1 (Jd c n 0 room 0 (replicate 25 gU) 0 0):=by
 have h0:gy c 0 (pq c n 0 room 0 (replicate 25 gU) 0 0):=by
  refine⟨Gz h D 0 room 0 _ (by rw[length_replicate]) 0 0,rfl,rfl,?_,?_,⟨Int.le_refl _,Int.le_refl _⟩⟩
  .intro l Z;change l∈replicate _ (Lb 0)at Z;rw[eq_of_mem_replicate Z];exact⟨Int.le_refl _,by show(0:Int)<=_;omega⟩
  .exact iH.zero
 have U:=h0.note (by omega) bL (now:=0) (by omega);exact⟨⟨U.ok.right,U.ok.jn,U.ok.sh,U.ok.lines⟩,U.cf,U.dn,U.hr,U.sz,U.nt⟩
section
open Go.ChangeShapes Go.WideShapes Go.RowKit Go.Deep Go.WideElems
variable{w:World}{v:Value}{t:TypeId}{fuel base:Nat}{cs:List Value}{α H:Type}{spare:Nat->Bool}{held:Bool}
def J0(w:World)(b:Nat):Prop:=∃C t f,w.heap[b]? = some (.cells C t f)
def J0.M1{a:Addr}(h:w.cell? a=some v):J0 w a.block:=by
 unfold cell? at h;unfold J0;split at h
 .rename_i C t f hc;exact⟨C,t,f,hc⟩
 .cases h
def bR:fe:=λ_ _=>none
def noG:tY:=λ_=>none
def aA.zero(w:World):aA noG (J0 w) w bR (an []):=by
 refine⟨λo=>?_,λo o' b h=>?_,λo b h=>?_,λb h=>h,λg row h=>by cases h⟩
 .have:an [] o=.free:=rfl;rw[this];intro n;rfl
 .have:an [] o=.free:=rfl;rw[this]at h;exact h.elim
 .have:an [] o=.free:=rfl;rw[this]at h;exact h.elim
def aO.below{G:tY}{r:LV}{w':World}(h:aO G (an []) (an []) (J0 w) bR w r v w'):Below w.heap.size w w':=by obtain⟨J,ι,S,R,E⟩:=h;refine⟨E.ev.os,E.ev.tape,E.ev.output,E.ev.size,λk hk=>E.ev.same k hk ?_⟩;rintro⟨o,ho⟩;have:an [] o=.free:=rfl;rw[this]at ho;exact ho.elim
section
variable {H:Type} {enc:TypeId×Value->H} {P:Program} {w:World} {base:Nat} {spare:Nat->Bool} {held:Bool}
def Fb(hl:laidOutB P=true){W W':World}(hb:Below W.heap.size W W'):∀{ts:List TypeId} {vs:List Value} {ds:List (DataW H)} {ps:List MemPlace},
  (∀t∈ts,P.readableRec t=true/\t<P.types.size)->DataW.TrodAll enc P W 0 (λ_=>true) true ts vs ds ps->(∀x∈ps,x.block<W.heap.size)->DataW.TrodAll enc P W' 0 (λb=>decide (b<W.heap.size)) true ts vs ds ps
 |[],[],[],_,_,h,_=>h
 |_::_,_::_,_::_,_,hT,⟨p,q,h1,h2,e⟩,hs=>
  ⟨p,q,Below.trod hl (hT _ (mem_cons.2 (Or.inl rfl))).1 (hT _ (mem_cons.2 (Or.inl rfl))).2 h1 hb (λx hx=>hs x (by rw[e];exact mem_append_left _ hx)),
   Fb hl hb (λt ht=>hT t (mem_cons.2 (Or.inr ht))) h2 (λx hx=>hs x (by rw[e];exact mem_append_right _ hx)),e⟩
def DK{fs:Array Field}{x:DataW H×List MemPlace}(ht:P.underlying t=some (.struct fs))(hone:oneCellFields P fs=true)(h:DataW.trod enc P w base spare held fuel t cs=some x) :
  cs.length=P.cellsOf t/\∃n,∀(i:Nat) (f:Field) (v:Value),fs[i]? = some f->cs[i]? = some v->∃y,DataW.trod enc P w base spare held n f.type [v]=some y:=by
 obtain⟨xs,n,_,_,hl,hlen,hf⟩:=DataW.trod_struct ht h;refine⟨hl,n,λi f v hi hv=>?_⟩;obtain⟨ho,hc⟩:=hone_of hone i f hi;have h1:=hf i f hi;rw[ho,hc]at h1;have hlt:i<fs.size:=(Array.getElem?_eq_some_iff.1 hi).1;have hx:xs[i]? = some (xs[i]'(by omega)):=getElem?_eq_getElem (by omega);obtain⟨hlt2,Xk⟩:=List.getElem?_eq_some_iff.1 hv;rw[drop_eq_getElem_cons hlt2,Xk]at h1;rw[hx]at h1;exact⟨_,by simpa using h1⟩
def fC{n:Nat}(ht:P.underlying t=some (.int .i64))(h:∃y,DataW.trod enc P w base spare held n t [v]=some y):∃z,v=.int .i64 z:=by obtain⟨y,h⟩:=h;obtain⟨z,hz,_⟩:=DataW.trod_int ht h;exact⟨z,by simpa using hz⟩
def FP{J:Nat->Prop}{b:Nat} : ∀(vs:List Value) (off:Nat),(∀v∈vs,v.oneCell'=true)->(∀i v,vs[i]? = some v->w.cell? ⟨b,off+i,none⟩=some v)->dV J w (vs.map .val) b off
 |[],_,_,_=>trivial
 |v::vs,off,h1,h2=>⟨⟨v,by simpa using h2 0 v rfl,h1 v (by simp),rfl⟩,FP vs (off+1) (λu hu=>h1 u (by simp[hu])) (λi u hu=>by have:=h2 (i+1) u (by simpa using hu);rw[show off+1+i=off+(i+1)by omega];exact this)⟩
def HG{α:Type}{J:Nat->Prop}{b size:Nat}(row:α->List Value)(h1:∀r,∀v∈row r,v.oneCell'=true)(hl:∀r,(row r).length=size):∀(l:List α) (off:Nat),(∀k r,l[k]? = some r->∀i v,(row r)[i]? = some v->w.cell? ⟨b,off+k*size+i,none⟩=some v)->bq J w size (l.map λr=>(row r).map .val) b off
 |[],_,_=>trivial
 |r::l,off,h=>⟨by simp[hl],FP _ _ (h1 r) (λi v hv=>by simpa using h 0 r rfl i v hv),HG row h1 hl l (off+size) (λk q hq i v hv=>by have:=h (k+1) q (by simpa using hq) i v hv;rw[show off+size+k*size+i=off+(k+1)*size+i by rw[Nat.add_mul];omega];exact this)⟩
def OT(row:α->List Value)(z:α){e:TypeId}{size:Nat}(h1:∀r,∀v∈row r,v.oneCell'=true)(hl:∀r,(row r).length=size)(ht:P.underlying t=some (.slice e))(hC:P.cellsOf e=size)(hs0:0<size)
  (hel:∀(n:Nat) (cs:List Value) (y:DataW H×List MemPlace),DataW.trod enc P w base spare held n e cs=some y->∃r,cs=row r) (h:∃x,DataW.trod enc P w base spare held fuel t [v]=some x) :
  ∃rs:List α,rs.length<=maxLen/\v.oneCell'=true/\kz (J0 w) w (.cM size (rs.map λr=>(row r).map .val)) v:=by
 obtain⟨x,h⟩:=h;rcases open_slice ht h with ⟨hcs,_⟩|⟨a,len,cap,m,n,D,Pl,hcs,_,hlc,hmx,hmm,_,hx⟩
 .have hv:v=.slice none 0 0:=by simpa using hcs
  exact⟨[],zero_le _,by rw[hv];rfl,none,0,0,hv,rfl,Nat.le_refl _,.inl rfl⟩
 .have hv:v=.slice (some a) len cap:=by simpa using hcs
  have hlm:len<=m:=by rw[hmm];split<;>omega
  have hE:∀k,k<len->∃r,w.cells? base (a.add (k*size)) size=some (row r):=λk hk=>by obtain⟨cs',h1,h2⟩:=hx k (by omega);obtain⟨r,rfl⟩:=hel _ _ _ h2;exact⟨r,by rw[hC]at h1;exact h1⟩
  obtain⟨f,hf⟩:∃f:Nat->α,∀k,k<len->w.cells? base (a.add (k*size)) size=some (row (f k)):=
   ⟨λk=>if hk:k<len then(hE k hk).choose else z,λk hk=>by have:=(hE k hk).choose_spec;simpa only[dif_pos hk]using this⟩
  refine⟨(List.range len).map f,by simp;omega,by rw[hv];rfl,some a,len,cap,hv,by simp,hlc,?_⟩;rcases eq_zero_or_pos len with h0|h0
  .left;rw[h0];rfl
  .right;obtain⟨b,o,sp⟩:=a;obtain⟨_,hlen',hc'⟩:=cells?_some (hf 0 h0);obtain⟨u0,hu0⟩:∃u0,(row (f 0))[0]? = some u0:=by
    rw[getElem?_eq_getElem (by rw[hl];exact hs0)];exact⟨_,rfl⟩
   have hc0:=(hc' 0 hs0).trans hu0;have hsp:sp=none:=by have:=cell?_spot hc0;simpa[Addr.add]using this
   subst hsp;have hlt:=J0.M1 hc0;refine⟨b,o,rfl,by simp only[Addr.add]at hlt;(repeat' split at hlt)<;>exact hlt,?_⟩;refine HG row h1 hl _ o (λk r hk i v hv=>?_);have hk':k<len:=by have:=(List.getElem?_eq_some_iff.1 hk).1;simpa using this
   have hr:r=f k:=by simp[hk']at hk;exact hk.symm
   subst hr;obtain⟨_,hlen,hc⟩:=cells?_some (hf k hk');obtain⟨hi,_⟩:=List.getElem?_eq_some_iff.1 hv;have:=(hc i (by rw[hl]at hi;exact hi)).trans hv;rw[add_plain,add_plain]at this;exact this
end
def Cv(c:av):List Value:=[.int .i64 c.nodes,.int .i64 c.bA,.int .i64 c.cF,.int .i64 c.gQ,.int .i64 c.bD,.int .i64 c.ej,.int .i64 c.deadline,.int .i64 c.room,.int .i64 c.fT]
def abz{l:List α}(h:l.length=9):∃c0 c1 c2 c3 c4 c5 c6 c7 c8,l=[c0,c1,c2,c3,c4,c5,c6,c7,c8]:=by
 match l,h with
 |[c0,c1,c2,c3,c4,c5,c6,c7,c8],_=>exact⟨c0,c1,c2,c3,c4,c5,c6,c7,c8,rfl⟩
def L7{enc:TypeId×Value->H}{x:DataW H×List MemPlace}(h:DataW.trod enc prog w base spare held fuel 23 cs=some x):∃r:av,cs=Cv r:=by obtain⟨hl,n,hf⟩:=DK underlying23 (by kernel_rfl) h;obtain⟨c0,c1,c2,c3,c4,c5,c6,c7,c8,rfl⟩:=abz (hl.trans (by kernel_rfl));obtain⟨z0,rfl⟩:=fC underlying3 (hf 0 _ c0 rfl rfl);obtain⟨z1,rfl⟩:=fC underlying3 (hf 1 _ c1 rfl rfl);obtain⟨z2,rfl⟩:=fC underlying3 (hf 2 _ c2 rfl rfl);obtain⟨z3,rfl⟩:=fC underlying3 (hf 3 _ c3 rfl rfl);obtain⟨z4,rfl⟩:=fC underlying3 (hf 4 _ c4 rfl rfl);obtain⟨z5,rfl⟩:=fC underlying3 (hf 5 _ c5 rfl rfl);obtain⟨z6,rfl⟩:=fC underlying3 (hf 6 _ c6 rfl rfl);obtain⟨z7,rfl⟩:=fC underlying3 (hf 7 _ c7 rfl rfl);obtain⟨z8,rfl⟩:=fC underlying3 (hf 8 _ c8 rfl rfl);exact⟨⟨z0,z1,z2,z3,z4,z5,z6,z7,z8⟩,rfl⟩
def QB{enc:TypeId×Value->H}{W:World}{r:Reach}{b0:Nat}{d:DataW H}{p:List MemPlace}(hv:Value.okWide prog W r b0 23 v)(h:DataW.Trod enc prog W base spare held 23 v d p):∃c:av,cW (J0 W) W bR (eD c) v:=by
 obtain⟨cs,rfl,_⟩:=okWide_struct underlying23 hv;obtain⟨fuel,hf⟩:=h;obtain⟨c,hc⟩:=L7 hf;have:cs.toList=Cv c:=by simpa[Value.cells]using hc
 refine⟨c,cs,rfl,?_⟩;rw[this];simp[Cv,bx,cW,kz,Value.oneCell',LV.int]
end
section
open Go.ChangeShapes Go.WideShapes Go.RowKit Go.Deep Go.WideElems
variable{fuel:Nat}{cs:List Value}
section
variable {H:Type} {enc:TypeId×Value->H} {P:Program} {w:World} {base:Nat} {spare:Nat->Bool} {held:Bool}
def Mm{n:Nat}{t e:TypeId}{p:List MemPlace}(ht:P.underlying t=some (.array n e))(hc:P.cellsOf e=1)(hct:P.cellsOf t=n){vals:List Value}{ds:List (DataW H)}(hlen:vals.length=n)
  (hel:∀(m i:Nat) (cs':List Value) (x:DataW H×List MemPlace),DataW.trod enc P w base spare held m e cs'=some x->ds[i]? = some x.1->∃v,vals[i]? = some v/\cs'=[v])
  (h:DataW.trod enc P w base spare held fuel t cs=some (.agg ds,p)):cs=vals:=by
 obtain⟨xs,m,rfl,hx,hl,hn,he⟩:=DataW.trod_array ht h;simp only[Prod.mk.injEq,DataW.agg.injEq]at hx;obtain⟨rfl,_⟩:=hx;apply ext_getElem?;intro i;by_cases hi:i<n
 .have h1:=he i hi;rw[hc,Nat.mul_one]at h1;have GP:xs[i]? = some xs[i]:=getElem?_eq_getElem (by omega);rw[GP]at h1;obtain⟨v,hv,hcs⟩:=hel m i _ _ h1 (by rw[getElem?_map,GP];rfl);rw[hv];have:((cs.drop i).take 1)[0]? = some v:=by rw[hcs];rfl
  rw[getElem?_take_of_lt (by omega),getElem?_drop]at this;simpa using this
 .rw [getElem?_eq_none (by omega),getElem?_eq_none (by omega)]
end
def mT:List Value:=Ga.map .string
def K7:(Go.Proofs.YtjabcoodhpefhaaGreatDoor.Rows.laid_dunnage_ops_names:DataW Unit)=.agg (Ga.map λs=>.lit (.string s.data.toList)):=by rfl
def Ii{W:World}{p:List MemPlace}(h:DataW.trod (λ_=>()) prog W 0 (λ_=>true) false fuel 230 cs=some (Go.Proofs.YtjabcoodhpefhaaGreatDoor.Rows.laid_dunnage_ops_names,p)):cs=mT:=by
 rw[K7]at h;refine Mm underlying230 (by kernel_rfl) (by kernel_rfl) rfl (λm i cs' x hx hi=>?_) h;obtain⟨s,e1,e2,_⟩:=DataW.trod_string underlying9 hx;rw[getElem?_map,e2]at hi;obtain⟨a,ha,hb⟩:=Option.map_eq_some_iff.1 hi;simp only[DataW.lit.injEq,Lit.string.injEq]at hb;have:a=s:=by obtain⟨a⟩:=a;obtain⟨s⟩:=s;have:a=s:=Array.toList_inj.1 hb;rw[this]
 subst this;exact⟨_,by rw[mT,getElem?_map,ha];rfl,e1⟩
@[reducible] def tables:List (String×DataW Unit):=[("dunnage/ops.names",Go.Proofs.YtjabcoodhpefhaaGreatDoor.Rows.laid_dunnage_ops_names),("dunnage/ops.many",Go.Proofs.YtjabcoodhpefhaaGreatDoor.Rows.laid_dunnage_ops_many)]
def FK{W:World}{b:Nat}{vs:List Value}(h:∀i:Nat,W.cell? ⟨b,i,none⟩=vs[i]?)(h0:0<vs.length):∃t,W.shape? b=some (t,vs.length):=by
 have h1:=h 0;rw[getElem?_eq_getElem h0]at h1;unfold cell? at h1;split at h1
 .rename_i C t f hc;have hs:C.toList=vs:=ext_getElem? (λi=>by
   have:=h i;simp only[cell?,hc]at this;rw[<- this];simp)
  refine⟨t,?_⟩;simp only[shape?,hc];rw[<- hs];simp
 .cases h1
def SN(o:cr):List Value:=[.int .i64 o.kind,.int .i64 o.a,.int .i64 o.b,.int .i64 o.c,.int .i64 o.d,.int .i64 o.e,.int .i64 o.f]
def abA{α:Type}{l:List α}(h:l.length=7):∃c0 c1 c2 c3 c4 c5 c6,l=[c0,c1,c2,c3,c4,c5,c6]:=by
 match l,h with
 |[c0,c1,c2,c3,c4,c5,c6],_=>exact⟨c0,c1,c2,c3,c4,c5,c6,rfl⟩
def SM{H:Type}{enc:TypeId×Value->H}{w:World}{base:Nat}{spare:Nat->Bool}{held:Bool}{x:DataW H×List MemPlace}(h:DataW.trod enc prog w base spare held fuel 46 cs=some x):∃r:cr,cs=SN r:=by obtain⟨hl,n,hf⟩:=DK underlying46 (by kernel_rfl) h;obtain⟨c0,c1,c2,c3,c4,c5,c6,rfl⟩:=abA (hl.trans (by kernel_rfl));obtain⟨z0,rfl⟩:=fC underlying3 (hf 0 _ c0 rfl rfl);obtain⟨z1,rfl⟩:=fC underlying3 (hf 1 _ c1 rfl rfl);obtain⟨z2,rfl⟩:=fC underlying3 (hf 2 _ c2 rfl rfl);obtain⟨z3,rfl⟩:=fC underlying3 (hf 3 _ c3 rfl rfl);obtain⟨z4,rfl⟩:=fC underlying3 (hf 4 _ c4 rfl rfl);obtain⟨z5,rfl⟩:=fC underlying3 (hf 5 _ c5 rfl rfl);obtain⟨z6,rfl⟩:=fC underlying3 (hf 6 _ c6 rfl rfl);exact⟨⟨z0,z1,z2,z3,z4,z5,z6⟩,rfl⟩
end
section
open Go.ChangeShapes Go.WideShapes Go.RowKit Go.Deep Go.WideElems
end
section
variable(m:bE)
structure U4 where
 key:Nat
 len:Nat
 mZ:Bool
structure bY where
 rK:Nat
 ps:List U4
 bs:List (List Int)
 sent:Int
def qc(p:U4):List LV:=[.sl 2 p.key 1 0 p.len,.bool p.mZ]
def Ez(c:av)(now:Int)(na:Nat)(l:LV)(a:Int)(post:List LV):ah:=.box 85 (.int c.nodes::.int c.bA::.int c.cF::.int c.gQ::.int c.bD::.int c.ej::.int c.deadline::.int c.room::.int c.fT::.int now::.sl 3 na 10 0 na::l::.int a::post)
def cB(c:av)(now:Int)(na:Nat)(N:bY)(post:List LV)(r:ah×ah×ah×ah×ah×ah×ah×ah×ah):List ah:=
 [Ez c now na (.sl 1 N.rK 2 0 N.ps.length) N.sent post,
  .lr 137 2 N.rK (N.ps.flatMap qc),.l_ 5 (N.bs.map ax),r.1,r.2.1,r.2.2.1,r.2.2.2.1,r.2.2.2.2.1,r.2.2.2.2.2.1,r.2.2.2.2.2.2.1,r.2.2.2.2.2.2.2.1,r.2.2.2.2.2.2.2.2]
def eZ(post:List LV)(r:ah×ah×ah×ah×ah×ah×ah×ah×ah):Prop:=
 bn 12 post=true/\[r.1,r.2.1,r.2.2.1,r.2.2.2.1,r.2.2.2.2.1,r.2.2.2.2.2.1,r.2.2.2.2.2.2.1,r.2.2.2.2.2.2.2.1,r.2.2.2.2.2.2.2.2].all (aP 12)=true
def v_(ps:List U4):bn 12 (ps.flatMap qc)=true:=by
 induction ps with
 |nil=>rfl
 |cons x ps o=>rw[flatMap_cons,eB,o];rfl
def eu{c:av}{now:Int}{na:Nat}{N:bY}{post:List LV}{r:ah×ah×ah×ah×ah×ah×ah×ah×ah}(h:eZ post r):(cB c now na N post r).all (aP 12)=true:=by unfold cB Ez;rw[all_cons,all_cons,all_cons,h.2];simp only[aP,bn,bV,LV.int,h.1,v_];rfl
variable {c:av} {now:Int} {na:Nat} (N:bY) {post:List LV} {r:ah×ah×ah×ah×ah×ah×ah×ah×ah}
def bY.hasB(N:bY)(i:Int):Bool:=decide (0<=i/\i<N.ps.length)
def gG(i:Int)(J:eZ post r):aS G 176 [.ptr 0 11,.int i] (cB c now na N post r) (.bool (N.hasB i)) (cB c now na N post r):=by
 refine Lv func176 (eu J) ?_;simp only[cB,Ez,bY.hasB,go_sem];by_cases h0:0<=i;case neg=>simp only[decide_eq_false (show¬i>=0 from h0),h0,false_and,go_sem]
 simp only[decide_eq_true (show i>=0 from h0),h0,go_sem]
def K6(l:LV)(a:Int)(os:List ah)(J:(Ez c now na l a post::os).all (aP (os.length+1))=true):aS G 32 [.ptr 0 12,.int 1] (Ez c now na l a post::os) (.int (IntKind.i64.wrap (a+1))) (Ez c now na l (IntKind.i64.wrap (a+1)) post::os):=by refine eY func32 (by decide) YA rfl rfl J rfl ?_;simp only[Ez,aeh,go_sem];rw[take_of_length_le (by simp)]
def gY(ps:List U4):(ps.flatMap qc).length=ps.length*2:=by
 induction ps with
 |nil=>rfl
 |cons x ps o=>rw[flatMap_cons,length_append,o,length_cons];simp[qc];omega
def Bj:∀(ps:List U4) (i:Nat),(ps.flatMap qc).take (i*2)=(ps.take i).flatMap qc
 |[],i=>by simp
 |x::ps,0=>by simp
 |x::ps,i+1=>by rw[flatMap_cons,take_succ_cons,flatMap_cons,<- Bj ps i,show(i+1)*2=i*2+1+1 by omega];rfl
def Bk:∀(ps:List U4) (i:Nat),(ps.flatMap qc).drop (i*2)=(ps.drop i).flatMap qc
 |[],i=>by simp
 |x::ps,0=>by simp
 |x::ps,i+1=>by rw[flatMap_cons,drop_succ_cons,<- Bk ps i,show(i+1)*2=i*2+1+1 by omega];rfl
def bY.drop(N:bY)(i:Nat):bY:={ N with rK:=N.rK+1,ps:=N.ps.take i++N.ps.drop (i+1) }
def zg(i:Nat)(h:i<N.ps.length)(H:N.ps.length<=40)(J:eZ post r):aS G 113 [.ptr 0 11,.int i] (cB c now na N post r) (.bool true) (cB c now na (N.drop i) post r):=by
 have x:=gG (G:=G) (c:=c) (now:=now) (na:=na) N i J;rw[show N.hasB i=true from decide_eq_true (by omega)]at x;refine Lv func113 (eu J) ?_;simp only[cB,Ez,go_sem];refine ey 12 rfl x rfl rfl rfl (eu J) rfl ?_;simp only[go_sem];have c1:(0<=i/\i<=i/\i<=N.ps.length):=by omega
 have B:IntKind.i64.wrap ((i:Int)+1)=((i+1:Nat):Int):=by rw[aH (by omega) (by omega)];rfl
 have S:(i+1<=N.ps.length/\N.ps.length<=N.ps.length):=by omega
 have m:(i+1+(N.ps.length-(i+1)))*2<=N.ps.length*2:=by omega
 have k:i*2<=N.ps.length*2:=by omega
 have u:(i+(N.ps.length-(i+1)))*32<=70368744177664:=by omega
 have o:(N.drop i).ps.length=i+(N.ps.length-(i+1)):=by simp[bY.drop];omega
 have V:(N.drop i).ps.flatMap qc=(N.ps.flatMap qc).take (i*2)++((N.ps.flatMap qc).drop ((i+1)*2)).take ((N.ps.length-(i+1))*2):=by rw[Bj,Bk,Bj,<- flatMap_append,take_of_length_le (l:=N.ps.drop (i+1)) (by simp)];rfl
 rw[o,V];simp only[bY.drop,c1,B,S,m,k,u,Jw,A0,gY,Nat.sub_zero,go_sem];refine dQ trivial
def Dm(i:Int)(h:N.hasB i=false)(J:eZ post r):aS G 113 [.ptr 0 11,.int i] (cB c now na N post r) (.bool false) (cB c now na N post r):=by have x:=gG (G:=G) (c:=c) (now:=now) (na:=na) N i J;rw[h]at x;refine Lv func113 (eu J) ?_;simp only[cB,Ez,go_sem];refine ey 12 rfl x rfl rfl rfl (eu J) rfl ?_;simp only[go_sem]
structure oc(N:bY):Prop where
 few:N.ps.length<=40
 at_:∀p∈N.ps,∃b,N.bs[p.key]? = some b/\b.length=p.len/\1<=p.len/\p.len<=4100
 rng:∀b∈N.bs,∀c∈b,0<=c/\c<=255
def bY.send(N:bY)(m:bE):bY:={ rK:=N.rK+1,ps:=N.ps++[⟨N.bs.length,(mB m).length,false⟩],bs:=N.bs++[mB m],sent:=IntKind.i64.wrap (N.sent+1) }
def D_{p:List Int}(h0:1<=p.length)(U:p.length<=4000):1<=(cu p).length/\(cu p).length<=p.length+20:=by unfold cu;rw[if_neg (by omega)];have V:=fD (p.length:Int);have y:=nk (fQ 0 p);simp only[length_append,length_singleton];omega
def Dj(h:N.ps.length>=40\/jd m=false)(J:eZ post r):aS G 105 [.ptr 0 11,fG m] (cB c now na N post r) (.bool false) (cB c now na N post r):=by
 have hr:=mM (G:=G) m;simp only[fG]at hr;refine Lv func105 (eu J) ?_;simp only[cB,Ez,go_sem];by_cases n:N.ps.length>=40
 .simp only[dT ((N.ps.length:Int)>=40),go_sem]
 rw[h.resolve_left n]at hr;simp only[dF ((N.ps.length:Int)>=40),go_sem];refine a_ hr trivial
def Ia(h:N.ps.length<40)(H:jd m=true)(J:eZ post r):aS G 105 [.ptr 0 11,fG m] (cB c now na N post r) (.bool true) (cB c now na (N.send m) post r):=by
 have hr:=mM (G:=G) m;rw[H]at hr;have O:=KZ (G:=G) m H;have a:ax (mB m)≠[]:=by have U:=yz H;have h2:=(D_ U.1 (by omega)).1;intro B;have y:=au (mB m);rw[B]at y;unfold mB at y;simp at y;omega
 have T:=au (mB m);generalize b:(mB m).length=n at *;simp only[fG]at hr O;refine tW func105 ?_;simp only[cB,Ez,go_sem];simp only[dF ((N.ps.length:Int)>=40),go_sem];refine a_ hr ?_;refine s_ O rfl rfl rfl ?_;have c1:N.ps.length*2<=N.ps.length*2/\(N.ps.length+1)*32<=70368744177664:=by omega
 have j:(N.ps.flatMap qc).take (N.ps.length*2)=N.ps.flatMap qc:=take_of_length_le (Nat.le_of_eq (gY _));simp only[c1,Jw,A0,gY,j,go_sem];refine dQ ?_;have t:([Ez c now na (.sl 1 (N.rK+1) 2 0 (N.ps.length+1)) N.sent post,.lr 137 2 (N.rK+1) (N.ps.flatMap qc++[.sl 13 n 1 0 n,.bool false]),.l_ 5 (N.bs.map ax),r.1,r.2.1,r.2.2.1,r.2.2.2.1,r.2.2.2.2.1,r.2.2.2.2.2.1,r.2.2.2.2.2.2.1,r.2.2.2.2.2.2.2.1,r.2.2.2.2.2.2.2.2,.box 94 [.int m.node,.int m.kind,.int m.term,.int m.gen,.int m.aM,.int m.inc,.int m.version,.int m.epoch,.int m.til,.int m.mode,.int m.work],.dat 5 1 (ax (mB m))]:List ah).all (aP 14)=true:=by have A:=eN (show 12<=14 by decide) J.2;have O:=gv (show 12<=14 by decide) _ J.1;have K:=gv (show 12<=14 by decide) _ (v_ N.ps);refine(all_append (xs:=[_,_,_]) (ys:=[_,_,_,_,_,_,_,_,_]++[_,_])).trans ?_;rw[all_append,A];simp[aP,bn,bV,LV.int,LV.bool,eB,O,K,Ez]
 refine ij 14 rfl (K6 _ _ _ t) rfl rfl rfl t rfl t rfl ?_;simp only[Ez,go_sem];have D:=eu (c:=c) (now:=now) (na:=na) (N:=N.send m) J;simp only[cB,Ez]at D;refine Zh [.ab 1 (N.ps.length*2) 2 13] ?_ rfl D;have V:(N.ps.flatMap qc++[LV.sl 13 n 1 0 n,.d (.val (.bool false))])[N.ps.length*2]? = some (.sl 13 n 1 0 n):=by rw[getElem?_append_right (Nat.le_of_eq (gY _)),gY,Nat.sub_self];rfl
 have hs:(N.ps.flatMap qc++[LV.sl 13 n 1 0 n,.d (.val (.bool false))]).set (N.ps.length*2) (.sl 2 N.bs.length 1 0 n)=(N.send m).ps.flatMap qc:=by rw[set_append_right _ _ (Nat.le_of_eq (gY _)),gY,Nat.sub_self];simp[bY.send,qc,b,LV.bool]
 have Z:(N.send m).ps.length=N.ps.length+1:=by simp[bY.send]
 rw[<- hs,Z];simp only[X4,V,T,eq_false a,ne_eq,not_false_eq_true,bY.send,map_append,go_sem]
 skip
end
section
variable {c:av} {now:Int} {na:Nat} (N:bY) {post:List LV} {r:ah×ah×ah×ah×ah×ah×ah×ah×ah}
def An:U4:=⟨0,0,false⟩
def bY.kD(N:bY)(i:Nat):List Int:=N.bs.getD (N.ps.getD i An).key []
def Bl:∀(ps:List U4) (i:Nat),i<ps.length->(ps.flatMap qc)[i*2]? = some (.sl 2 (ps.getD i An).key 1 0 (ps.getD i An).len)/\(ps.flatMap qc)[i*2+1 ]? = some (.bool (ps.getD i An).mZ)
 |[],i,h=>absurd h (not_lt_zero i)
 |x::ps,0,_=>⟨rfl,rfl⟩
 |x::ps,i+1,h=>by have:=Bl ps i (by simpa using h);rw[flatMap_cons,show(i+1)*2=i*2+1+1 by omega];exact this
def oc.kD{N:bY}(h:oc N){i:Nat}(hi:i<N.ps.length):(N.bs.map ax)[(N.ps.getD i An).key]? = some (ax (N.kD i))/\(N.kD i).length=(N.ps.getD i An).len/\1<=(N.kD i).length/\(N.kD i).length<=4100/\∀c∈N.kD i,0<=c/\c<=255:=by
 have O:N.ps.getD i An∈N.ps:=by rw[getD,getElem?_eq_getElem hi];exact getElem_mem _
 obtain⟨b,U,h2,B,y⟩:=h.at_ _ O;have T:N.kD i=b:=by unfold bY.kD;rw[getD,U];rfl
 rw[T];refine⟨by rw[getElem?_map,U];rfl,h2,by omega,by omega,h.rng b (mem_of_getElem? U)⟩
def yt(i:Int)(h:N.hasB i=false)(J:eZ post r):aS G 110 [.ptr 0 11,.int i] (cB c now na N post r) (nE none) (cB c now na N post r):=by have x:=gG (G:=G) (c:=c) (now:=now) (na:=na) N i J;rw[h]at x;refine Lv func110 (eu J) ?_;simp only[nE,Nb,cB,Ez,go_sem,sN];refine ey 12 rfl x rfl rfl rfl (eu J) rfl ?_;simp only[go_sem]
def BI(i:Nat)(h:i<N.ps.length)(w:oc N)(J:eZ post r):aS G 110 [.ptr 0 11,.int i] (cB c now na N post r) (nE (uf (N.kD i))) (cB c now na (N.drop i) post r):=by
 have x:=gG (G:=G) (c:=c) (now:=now) (na:=na) N i J;rw[show N.hasB i=true from decide_eq_true (by omega)]at x;have hd:=zg (G:=G) (c:=c) (now:=now) (na:=na) N i h w.few J;obtain⟨t,A,Z,O,S⟩:=w.kD h;have V:=BG (G:=G) (N.kD i) S (by omega);have K:=(Bl N.ps i h).1;have v:=au (N.kD i);generalize N.kD i=b at *;generalize N.ps.getD i An=p at *;generalize H:uf b=q at *;refine Lv func110 (eu J) ?_;simp only[cB,Ez,nE,go_sem];refine ey 12 rfl x rfl rfl rfl (eu J) rfl ?_;simp only[go_sem];simp only[h,K,go_sem];refine ij 12 rfl hd rfl rfl rfl (eu J) rfl (eu J) rfl ?_;simp only[go_sem,cB,Ez];simp only[ak,nE,fG]at V;refine NQ 2 V rfl ⟨⟨rfl,mem_singleton.2 rfl,rfl,_,t,by omega,?_⟩,trivial⟩ ⟨_,_,rfl⟩ rfl rfl ?_
 .rw [drop_zero,take_of_length_le (by omega)]
 simp only[go_sem]
def Jg(bs:List (List (List DV)))(k:Nat)(l:List Int)(hk:bs[k]? = some (ax l))(U:1<=l.length)(Z:l.length<=1000000):aS G 74 [.sl 0 k 1 0 l.length] [.l_ 5 bs] (.sl 1 l.length 1 0 l.length) [.l_ 5 bs,.dat 5 1 (ax l)]:=by
 refine tW func74 ?_;have v:=au l;have h0:¬l.length=0:=by omega
 have J:l.length*1<=70368744177664:=by omega
 simp only[hk,v,h0,take_of_length_le (show(ax l).length<=l.length by omega),Nat.le_refl,J,go_sem];refine ue [] [0,1] [] (vs:=[.sl 1 l.length 1 0 l.length]) rfl rfl (by decide) (by simp) (by simp) rfl rfl ?_;simp[aR,aB]
def bY.tS(N:bY)(i:Nat):bY:={ N with rK:=N.rK+1,ps:=N.ps++[⟨N.bs.length,(N.kD i).length,(N.ps.getD i An).mZ⟩],bs:=N.bs++[N.kD i] }
def BF(i:Int)(h:N.hasB i=false\/N.ps.length>=40)(J:eZ post r):aS G 114 [.ptr 0 11,.int i] (cB c now na N post r) (.bool false) (cB c now na N post r):=by
 have x:=gG (G:=G) (c:=c) (now:=now) (na:=na) N i J;refine Lv func114 (eu J) ?_;simp only[cB,Ez,go_sem];cases T:N.hasB i with
 |false=>rw[T]at x;refine ey 12 rfl x rfl rfl rfl (eu J) rfl ?_;simp only[go_sem]
 |true=>rw[T]at x h;have n:=h.resolve_left (by decide);refine ey 12 rfl x rfl rfl rfl (eu J) rfl ?_;simp only[go_sem];simp only[dT ((N.ps.length:Int)>=40),go_sem]
def F8(i:Nat)(h:i<N.ps.length)(n:N.ps.length<40)(w:oc N)(J:eZ post r):aS G 114 [.ptr 0 11,.int i] (cB c now na N post r) (.bool true) (cB c now na (N.tS i) post r):=by
 have x:=gG (G:=G) (c:=c) (now:=now) (na:=na) N i J;rw[show N.hasB i=true from decide_eq_true (by omega)]at x;obtain⟨t,A,Z,O,S⟩:=w.kD h;have e:=Jg (G:=G) (N.bs.map ax) (N.ps.getD i An).key (N.kD i) t Z (by omega);have K:=Bl N.ps i h;have v:=au (N.kD i);have a:ax (N.kD i)≠[]:=by intro B;rw[B]at v;simp at v;omega
 have D:=eu (c:=c) (now:=now) (na:=na) (N:=N.tS i) J;have k:(N.tS i).ps.flatMap qc=N.ps.flatMap qc++[.sl 2 N.bs.length 1 0 (N.kD i).length,.bool (N.ps.getD i An).mZ]:=by simp[bY.tS,qc]
 have H:(N.tS i).bs.map ax=N.bs.map ax++[ax (N.kD i)]:=by simp[bY.tS]
 have T:(N.tS i).ps.length=N.ps.length+1:=by simp[bY.tS]
 simp only[cB,Ez,k,H,T]at D;refine tW func114 ?_;simp only[cB,Ez,k,H,T,go_sem];rw[<- A]at K;generalize N.kD i=b at *;generalize N.ps.getD i An=p at *;refine ey 12 rfl x rfl rfl rfl (eu J) rfl ?_;simp only[go_sem];have c1:N.ps.length*2<=N.ps.length*2/\(N.ps.length+1)*32<=70368744177664:=by omega
 have j:(N.ps.flatMap qc).take (N.ps.length*2)=N.ps.flatMap qc:=take_of_length_le (Nat.le_of_eq (gY _));simp only[dF ((N.ps.length:Int)>=40),h,K.1,go_sem];refine fV [2] e ?_;have o:=K.2;simp only[LV.bool]at o;simp only[h,o,c1,Jw,A0,gY,j,go_sem];refine dQ ?_;refine Zh [.ab 1 (N.ps.length*2) 2 12] ?_ rfl D;have V:(N.ps.flatMap qc++[LV.sl 12 b.length 1 0 b.length,.d (.val (.bool p.mZ))])[N.ps.length*2]? = some (.sl 12 b.length 1 0 b.length):=by rw[getElem?_append_right (Nat.le_of_eq (gY _)),gY,Nat.sub_self];rfl
 have hs:(N.ps.flatMap qc++[LV.sl 12 b.length 1 0 b.length,.d (.val (.bool p.mZ))]).set (N.ps.length*2) (.sl 2 N.bs.length 1 0 b.length)=N.ps.flatMap qc++[.sl 2 N.bs.length 1 0 b.length,.d (.val (.bool p.mZ))]:=by rw[set_append_right _ _ (Nat.le_of_eq (gY _)),gY,Nat.sub_self];rfl
 simp only[X4,V,v,hs,eq_false a,ne_eq,not_false_eq_true,bY.tS,go_sem]
 skip
end
section
variable {c:av} {now:Int} {na:Nat} (N:bY) {post:List LV} {r:ah×ah×ah×ah×ah×ah×ah×ah×ah}
def bY.EL(N:bY)(i:Nat)(j:Int):Bool:=decide (0<=j)&&decide (j.tdiv 8<(N.kD i).length)&&!(N.ps.getD i An).mZ
def abo{j:Int}(h0:0<=j)(h:j<=9223372036854775807):IntKind.i64.wrap (j.tdiv 8)=j.tdiv 8:=by rw[tdiv_eq_ediv_of_nonneg h0];exact aH (by omega) (by omega)
def BH(i j:Int)(h:N.hasB i=false)(J:eZ post r):aS G 115 [.ptr 0 11,.int i,.int j] (cB c now na N post r) (.bool false) (cB c now na N post r):=by have x:=gG (G:=G) (c:=c) (now:=now) (na:=na) N i J;rw[h]at x;refine Lv func115 (eu J) ?_;simp only[cB,Ez,go_sem];refine ey 12 rfl x rfl rfl rfl (eu J) rfl ?_;simp only[go_sem]
def Dl(i:Nat)(j:Int)(h:i<N.ps.length)(w:oc N)(A:N.EL i j=false)(e:j<=9223372036854775807)(J:eZ post r):aS G 115 [.ptr 0 11,.int i,.int j] (cB c now na N post r) (.bool false) (cB c now na N post r):=by
 have x:=gG (G:=G) (c:=c) (now:=now) (na:=na) N i J;rw[show N.hasB i=true from decide_eq_true (by omega)]at x;have T:=(w.kD h).2.1;have K:=Bl N.ps i h;unfold bY.EL at A;rw[T]at A;generalize N.ps.getD i An=p at *;have o:=K.2;simp only[LV.bool]at o;refine Lv func115 (eu J) ?_;simp only[cB,Ez,go_sem];refine ey 12 rfl x rfl rfl rfl (eu J) rfl ?_;simp only[go_sem];by_cases h0:j<0
 .simp only[decide_eq_true h0,go_sem]
 simp only[decide_eq_false h0,h,K.1,abo (show 0<=j by omega) e,go_sem];by_cases U:j.tdiv 8>=p.len
 .simp only[decide_eq_true U,go_sem]
 have h2:p.mZ=true:=by rw[dT (0<=j),dT (j.tdiv 8<p.len)]at A;simpa using A
 rw[h2]at o;simp only[decide_eq_false U,h,o,go_sem]
def IW(x j:Int):Int:=vC .u8 x (Df .u8 1 (j.tmod 8))
def HO:∀(ps:List U4) (i:Nat),i<ps.length->splice (ps.flatMap qc) (i*2+1) [.bool true]=(ps.set i { ps.getD i An with mZ:=true }).flatMap qc
 |[],i,h=>absurd h (not_lt_zero i)
 |x::ps,0,_=>rfl
 |x::ps,i+1,h=>by have:=HO ps i (by simpa using h);rw[flatMap_cons,show(i+1)*2+1=(i*2+1)+1+1 by omega,set_cons_succ,flatMap_cons,<- show ps.getD i An=(x::ps).getD (i+1) An from rfl,<- this];simp[splice,qc]
def bY.flip(N:bY)(i:Nat)(j:Int):bY:=
 { N with ps:=N.ps.set i { N.ps.getD i An with mZ:=true },bs:=N.bs.set (N.ps.getD i An).key ((N.kD i).set (j.tdiv 8).toNat (IW ((N.kD i).getD (j.tdiv 8).toNat 0) j)) }
def Ic(i:Nat)(j:Int)(h:i<N.ps.length)(w:oc N)(A:N.EL i j=true)(e:j<=9223372036854775807)(J:eZ post r):aS G 115 [.ptr 0 11,.int i,.int j] (cB c now na N post r) (.bool true) (cB c now na (N.flip i j) post r):=by
 have x:=gG (G:=G) (c:=c) (now:=now) (na:=na) N i J;rw[show N.hasB i=true from decide_eq_true (by omega)]at x;obtain⟨t,T,Z,O,S⟩:=w.kD h;have K:=Bl N.ps i h;unfold bY.EL at A;simp only[Bool.and_eq_true,decide_eq_true_eq,Bool.not_eq_true']at A;obtain⟨⟨h0,U⟩,h2⟩:=A;refine Lv func115 (eu J) ?_;simp only[cB,Ez,go_sem];refine ey 12 rfl x rfl rfl rfl (eu J) rfl ?_;simp only[go_sem];have B:=abo h0 e;obtain⟨k,hk⟩:∃k:Nat,j.tdiv 8=k:=⟨(j.tdiv 8).toNat,by rw[toNat_of_nonneg (Int.tdiv_nonneg h0 (by decide))]⟩;rw[hk]at U B;rw[<- T]at K;have o:=K.2;simp only[LV.bool]at o;generalize a:N.kD i=b at *;have H:(ax b)[k]? = some [.val (.int .u8 (b.getD k 0))]:=aG (l:=b) (f:=λn:Int=>[DV.val (.int .u8 n)]) 0 (by omega);have v:=au b;have D:0<=j.tmod 8:=tmod_nonneg 8 h0;simp only[dF (j<0),h,K.1,o,h2,hk,B,dF ((k:Int)>=(b.length:Int)),(show k<b.length by omega),H,t,D,go_sem];have hlen:i*2+1+1<=(N.ps.flatMap qc).length:=by rw[gY];omega
 have m:=HO N.ps i h;simp only[LV.bool,splice,length_cons,length_nil,Nat.zero_add]at m;have q:(N.flip i j).bs.map ax=(N.bs.map ax).set (N.ps.getD i An).key ((ax b).set k [.val (.int .u8 (IW (b.getD k 0) j))]):=by simp only[bY.flip,a,hk,map_set,ax,toNat_natCast];rfl
 rw[q];simp only[bY.flip,length_set,IW,(show k<b.length by omega),v,h,hlen,m,go_sem];refine aD rfl ?_;simp only[(show k<b.length by omega),v,h,hlen,m,go_sem]
end
section
variable {c:av} {now:Int} {na:Nat} (N:bY) {post:List LV} {r:ah×ah×ah×ah×ah×ah×ah×ah×ah}
def bY.cM(N:bY):Nat->List bE
 |0=>[]
 |k+1=>N.cM k++(uf (N.kD k)).toList
def Gc(N:bY):∀k,(N.cM k).length<=k
 |0=>Nat.le_refl _
 |k+1=>by have:=Gc N k;rw[bY.cM,length_append];cases uf (N.kD k)<;>simp<;>omega
def Tt(c:av)(now:Int)(na:Nat)(N:bY)(post:List LV)(r:ah×ah×ah×ah×ah×ah×ah×ah×ah)(k:Nat):St:=
 ⟨[(3,.sl 12 (N.cM k).length 11 0 (N.cM k).length),(13,.sl 1 N.rK 2 0 N.ps.length),(14,.int N.ps.length),(15,.int k)],(cB c now na N post r).map some++[some (.dat 94 11 ((N.cM k).map jQ))]⟩
def Ib(w:oc N)(J:eZ post r):aS G 30 [.ptr 0 11] (cB c now na N post r) (.sl 12 (N.cM N.ps.length).length 11 0 (N.cM N.ps.length).length) (cB c now na N post r++[.dat 94 11 ((N.cM N.ps.length).map jQ)]):=by
 have D:∀rows,(cB c now na N post r++[ah.dat 94 11 rows]).all (aP 13)=true:=λrows=>by rw[all_append,eN (show 12<=13 by decide) (eu J)];rfl
 refine tW func30 ?_;simp only[cB,Ez,go_sem,sA];refine aQ [3,13,14,15] [.t 3 94 11] (λk:Nat=>k<=N.ps.length) (λk=>N.ps.length-k) (Tt c now na N post r) 0 ?_ (zero_le _) (λk hk=>?_)
 .simp only[Tt,bY.cM,cB,Ez,Int.natCast_zero,go_sem,sA]
 simp only[Tt,cB,Ez,go_sem,sA];by_cases X:k<N.ps.length;case neg=>
  obtain rfl:k=N.ps.length:=by omega
  simp only[dF ((N.ps.length:Int)<(N.ps.length:Nat)),go_sem];refine Fj (by simp) ?_ rfl (D _);simp only[go_sem]
 obtain⟨a,A,Z,O,S⟩:=w.kD X;have V:=BG (G:=G) (N.kD k) S (by omega);have v:=au (N.kD k);have u:N.cM (k+1)=N.cM k++(uf (N.kD k)).toList:=rfl;have B:=Gc N k;have n:=w.few;have hd:((N.ps.flatMap qc).drop (k*2)).take 2=qc (N.ps.getD k An):=by rw[Bk,drop_eq_getElem_cons X,flatMap_cons,getD,getElem?_eq_getElem X];rfl
 generalize N.kD k=b at *;generalize N.ps.getD k An=p at *;simp only[qc,LV.bool]at hd;simp only[ak,nE,fG]at V;simp only[dT ((k:Int)<(N.ps.length:Nat)),X,hd,go_sem];refine NQ 2 V rfl ⟨⟨rfl,mem_singleton.2 rfl,rfl,_,a,by omega,?_⟩,trivial⟩ ⟨_,_,rfl⟩ rfl rfl ?_
 .rw [drop_zero,take_of_length_le (by omega)]
 simp only[go_sem];cases E:uf b with
 |none=>
  rw[E]at u;simp only[Option.toList_none,append_nil]at u;simp only[Option.isSome_none,go_sem];refine aY (k+1) ?_ ?_ (by omega) (by omega)
  .exact ⟨rfl,M0 (D _),by simp⟩
  .simp only[Tt,cB,Ez,u,wS k,go_sem,sA]
 |some m=>
  rw[E]at u;simp only[Option.toList_some]at u;simp only[go_sem,sS];rw[if_pos (by simp;omega)];simp only[go_sem];refine aY (k+1) ?_ ?_ (by omega) (by omega)
  .exact ⟨rfl,M0 (D _),by simp⟩
  .simp only[Tt,cB,Ez,u,wS k,map_append,length_append,go_sem,sA]
end
end Dv
