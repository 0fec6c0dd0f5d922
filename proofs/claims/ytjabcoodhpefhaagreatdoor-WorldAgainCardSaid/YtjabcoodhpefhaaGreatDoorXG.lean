/- part of the proof -/
import Derived.Test.YtjabcoodhpefhaaGreatDoorXE
import Derived.RegionTactic
import Derived.RegionCalls
import Derived.ChangeAlike
import Derived.Lib.LaidTab
import Derived.Lib.LaidU8
import Derived.HandedShaped
import Derived.Lay
set_option linter.all false
set_option maxHeartbeats 8000000
set_option maxRecDepth 1000000
namespace Dv
open Int List Nat Go.Proofs.Tryz
variable {G:tY}
open Go Go.Proofs
def tT(l:List Int):List Int:=aV l.length++l
def RK(l:List Int)(T:aT l)(Z:l.length<=1000000):aS G 223 [.d (.val (.string (Kt l)))] [] (ak (tT l)) []:=by
 have y:isNum (l.length:Int)=true:=by unfold isNum dS;simp;omega
 have V:=fD (l.length:Int);refine tW func223 ?_;simp only[tf,go_sem];refine tG (H6 (l.length:Int) y) rfl rfl rfl ?_;have a:(ax (aV (l.length:Int))++ax l).length*1<=70368744177664:=by rw[length_append,au,au];omega
 have O:=Bx y;have e:(ax (aV (l.length:Int))).length=(aV (l.length:Int)).length:=au _;have D:(Kt l).data.toList.map (λb=>[DV.val (.int .u8 b.toNat)])=ax l:=HC T;simp only[D,tf,go_sem];rw[if_pos ⟨e.symm,a⟩];simp only[e,au,go_sem];refine dP [0] rfl (by simp[St.obj,an]) ?_;simp[St.obj,an,aR,St.get,aN,aB,bz,ak,tT,ax,take_of_length_le]
def FE(room term:Int)(sh:List eE)(hs:sh.length=25)(wr:Int):aS G 32 [.ptr 0 102,.int 1] (eF room term sh wr) (.int (IntKind.i64.wrap (wr+1))) (eF room term sh (IntKind.i64.wrap (wr+1))):=by
 have Z:(sh.flatMap Nq).length=100:=by rw[vO,hs]
 have U:(LV.int room::LV.int term::(sh.flatMap Nq++[LV.int wr]))[102]? = some (.int wr):=by show(sh.flatMap Nq++[LV.int wr])[100]? = _;rw[getElem?_append_right (by omega),Z];rfl
 have h2:∀y,(sh.flatMap Nq++[LV.int wr]).take 100++[y]++(sh.flatMap Nq++[LV.int wr]).drop 101=sh.flatMap Nq++[y]:=by intro y;rw[take_append_of_le_length (by omega),take_of_length_le (by omega),drop_eq_nil_of_le (by rw[length_append,Z];exact Nat.le_refl _)];simp
 refine eY func32 (by decide) YA rfl rfl (dX _ _ _ _ _) rfl ?_;simp only[LV.int]at U h2;simp only[eF,aeh,U,h2,go_sem,sA]
def rT(room term:Int)(sh:List eE)(wr t aM U:Int)(d:List Int):Int×List eE×Int:=
 if t<term then(6,sh,wr)
 else if¬(1<=aM/\aM<=24)then(1,sh,wr)
 else if U<1\/U>1000000\/d.length=0\/d.length>100 then(1,sh,wr)
 else if U<=(sh.getD aM.toNat gU).ce\/U<(sh.getD aM.toNat gU).se then(6,sh,wr)
 else if U=(sh.getD aM.toNat gU).se then(0,sh,wr)
 else if i_ sh 25-(sh.getD aM.toNat gU).sd.length+d.length>room then(3,sh,wr)
 else(0,sh.set aM.toNat { sh.getD aM.toNat gU with se:=U,sd:=d },IntKind.i64.wrap (wr+1))
def OE(room term:Int)(sh:List eE)(wr:Int)(h:iH sh)(t aM U:Int)(d:List Int)(hd:d.length<=1000000)(r:Int×List eE×Int)(hr:rT room term sh wr t aM U d=r) :
  aS G 222 [.ptr 0 0,.int t,.int aM,.int U,ak d] (eF room term sh wr) (.int r.1) (eF room term r.2.1 r.2.2):=by
 refine Lv func222 (dX _ _ _ _ _) ?_;unfold rT at hr;by_cases hj:1<=aM/\aM<=24;case neg=>
  have hj0:=AX (G:=G) room term sh wr aM (by omega);simp only[eF,sA]at hj0;simp only[eF,ak,go_sem,sA];refine kG [0] hj0 ?_;by_cases u:t<term
  .obtain rfl:=(if_pos u).symm.trans hr;simp only[decide_eq_true u,go_sem]
  .obtain rfl:=((if_neg u).trans (if_pos hj)).symm.trans hr;simp only[decide_eq_false u,go_sem]
 obtain⟨k,rfl⟩:∃k:Nat,aM=k:=⟨aM.toNat,by omega⟩;rw[toNat_natCast]at hr;have hjb:=mH (G:=G) room term sh wr k (by omega);obtain⟨A,B,q,Z,O⟩:=xW room term sh wr k (by rw[h.len];omega);have O:=O _ rfl;have y:=RB (G:=G) room term sh wr h;have PM:=xQ h 25 (Nat.le_refl _);have Z8:=(h.sd k (by omega)).1;have hI1:bn 1 (LV.int room::LV.int term::(sh.flatMap Nq++[LV.int wr]))=true:=by simp[eB,gV,bn,bV,LV.int]
 have D:=λx:eE=>FE (G:=G) room term (sh.set k x) (by rw[length_set,h.len]) wr
 simp only[eF,sA]at hjb y D;simp only[eF,ak,go_sem,sA];refine kG [0] hjb ?_;by_cases u:t<term
 .obtain rfl:=(if_pos u).symm.trans hr;simp only[decide_eq_true u,go_sem]
 rw[if_neg u,if_neg (λx=>x hj)]at hr;simp only[decide_eq_false u,au,go_sem];by_cases o:U<1
 .obtain rfl:=(if_pos (.inl o)).symm.trans hr;simp only[decide_eq_true o,go_sem]
 by_cases V:U>1000000
 .obtain rfl:=(if_pos (.inr (.inl V))).symm.trans hr;simp only[decide_eq_false o,decide_eq_true V,go_sem]
 by_cases X:d.length=0
 .obtain rfl:=(if_pos (.inr (.inr (.inl X)))).symm.trans hr;simp only[au,decide_eq_false o,decide_eq_false V,show((d.length:Int)==0)=true from beq_iff_eq.2 (by omega),go_sem]
 by_cases e4:d.length>100
 .obtain rfl:=(if_pos (.inr (.inr (.inr e4)))).symm.trans hr;simp only[au,decide_eq_false o,decide_eq_false V,show((d.length:Int)==0)=false from beq_eq_false_iff_ne.2 (by omega),dT ((d.length:Int)>100),go_sem]
 rw[if_neg (λx=>by rcases x with x|x|x|x<;>omega)]at hr;simp only[au,decide_eq_false o,decide_eq_false V,show((d.length:Int)==0)=false from beq_eq_false_iff_ne.2 (by omega),dF ((d.length:Int)>100),go_sem];generalize sh.getD k gU=x at *;obtain⟨ce,cd,se,sd⟩:=x;dsimp only at hr Z8 O;simp only[LV.int]at Z O hI1;have j:=hI1;rw[O]at j ⊢;generalize H:2+4*k=m at *;have g0:=abt A B (LV.d (.val (.int .i64 ce))) (ep cd) (LV.d (.val (.int .i64 se))) (ep sd) m q;have g2:=abr A B (LV.d (.val (.int .i64 ce))) (ep cd) (LV.d (.val (.int .i64 se))) (ep sd) m q;have g3:(A++LV.d (.val (.int .i64 ce))::ep cd::LV.d (.val (.int .i64 se))::ep sd::B)[m+3]? = some (ep sd):=by subst q;simp
 have gs2:=Ym A B (LV.d (.val (.int .i64 ce))) (ep cd) (LV.d (.val (.int .i64 se))) (ep sd) (LV.d (.val (.int .i64 U))) (.d (.cM 1 (ax d))) m q;have gl:∀a b c d:LV,(A++a::b::c::d::B).length=m+4+B.length:=by intros;rw[length_append,q];simp;omega
 have E:m+4<=m+4+B.length:=by omega
 simp only[g0,g2,go_sem];by_cases f1:U<=ce
 .obtain rfl:=(if_pos (.inl f1)).symm.trans hr;simp only[decide_eq_true f1,O,go_sem]
 simp only[decide_eq_false f1,g0,g2,go_sem];by_cases f2:U<se
 .obtain rfl:=(if_pos (.inr f2)).symm.trans hr;simp only[decide_eq_true f2,O,go_sem]
 rw[if_neg (λx=>by rcases x with x|x<;>omega)]at hr;simp only[decide_eq_false f2,g0,g2,go_sem];by_cases f3:U=se
 .obtain rfl:=(if_pos f3).symm.trans hr;simp only[beq_iff_eq.2 f3,O,go_sem]
 rw[if_neg f3]at hr;simp only[beq_eq_false_iff_ne.2 f3,go_sem];simp only[LV.int]at y;rw[O]at y;have ab8:([ah.box 119 (A++LV.d (.val (.int .i64 ce))::ep cd::LV.d (.val (.int .i64 se))::ep sd::B)]).all (aP 1)=true:=by simpa[aP]using j
 have hdv:ep d=.d (.cM 1 (ax d)):=by cases d with
  |nil=>exact absurd rfl X
  |cons c d=>rfl
 have v:=Z ⟨ce,cd,U,d⟩;have D:=D ⟨ce,cd,U,d⟩;have Lx:=dX 1 room term (sh.set k ⟨ce,cd,U,d⟩) wr;have PT:=dX 1 room term (sh.set k ⟨ce,cd,U,d⟩) (IntKind.i64.wrap (wr+1));simp only[eF,sA]at Lx PT;simp only[LV.int]at v D Lx PT;rw[hdv]at v;rw[v]at D Lx;have e:=k_ (G:=G) d hd;simp only[ak]at e;have n:IntKind.i64.wrap (i_ sh 25-(sd.length:Int))=i_ sh 25-sd.length:=aH (by omega) (by omega);have K:IntKind.i64.wrap (i_ sh 25-(sd.length:Int)+(d.length:Int))=i_ sh 25-sd.length+d.length:=aH (by omega) (by omega);have gr:(A++LV.d (.val (.int .i64 ce))::ep cd::LV.d (.val (.int .i64 se))::ep sd::B)[0]? = some (LV.d (.val (.int .i64 room))):=by rw[<- O];rfl
 clear Z hI1 j hjb h;rcases Ct sd with ⟨r1,T,l1⟩|⟨T,l1⟩
 all_goals
  rw[T]at y ab8 g3 gs2 gr O ⊢;try rw[show(sd.length:Int)=0 by omega]at n K hr
  refine s9 1 rfl y rfl rfl rfl ab8 rfl ?_;simp only[go_sem];simp only[g3,l1,au,gr,n,K,go_sem];split at hr
  .rename_i S;subst hr;simp only[decide_eq_true S,<- O,go_sem]
  rename_i S;subst hr;simp only[decide_eq_false S,go_sem];refine a_ e ?_;simp only[gl,E,gs2,go_sem];refine ij 1 rfl D rfl rfl rfl Lx rfl PT rfl ?_;simp only[go_sem]
def zm.MM(a:zm)(m:bE)(now room term:Int)(sh:List eE)(wr:Int):zm×List eE×Int:=
 if a.own m 2=true/\now<a.bD then
  if m.mode=1 then
   if(rT room term sh wr m.term a.aM a.inc (tT (aV a.ff))).1=0 then({ a with mode:=3 },(rT room term sh wr m.term a.aM a.inc (tT (aV a.ff))).2)else(a,(rT room term sh wr m.term a.aM a.inc (tT (aV a.ff))).2)
  else({ a with mode:=3 },sh,wr)
 else(a,sh,wr)
def Mr(a:zm)(m:bE)(now room term:Int)(sh:List eE)(wr:Int)(h:iH sh)(z:zm×List eE×Int)(j:a.MM m now room term sh wr=z):aS G 221 [pJ m now] (vB a room term sh wr) (.cZ []) (vB z.1 room term z.2.1 z.2.2):=by
 have h2:=wg (G:=G) a m now 2 room term sh wr;have D:=mL (G:=G) a.ff;have A:=fD a.ff;have u:=RK (G:=G) (aV a.ff) (F1 _) (by omega);have hs:=λr hr=>OE (G:=G) room term sh wr h m.term a.aM a.inc (tT (aV a.ff)) (by unfold tT;rw[length_append];have:=fD ((aV a.ff).length:Int);omega) r hr
 have hid:=oI a room term sh wr;unfold zm.MM at j;refine Lv func221 (oI _ _ _ _ _) ?_;simp only[eF,ak,sA]at hs D u;simp only[pJ,vB,LV.int,LV.bool]at h2 hid;simp only[pJ,vB,go_sem];cases V:a.own m 2 with
 |false=>
  rw[V]at h2 j;obtain rfl:(a,sh,wr)=z:=by simpa using j
  refine s9 2 rfl h2 rfl rfl rfl hid rfl ?_;simp only[go_sem]
 |true=>
 rw[V]at h2 j;refine s9 2 rfl h2 rfl rfl rfl hid rfl ?_;simp only[go_sem];by_cases Z:now<a.bD;case neg=>rw[if_neg (λx=>Z x.2)]at j;subst j;simp only[dT (now>=a.bD),go_sem]
 rw[if_pos ⟨rfl,Z⟩]at j;simp only[dF (now>=a.bD),go_sem];by_cases U:m.mode=1;case neg=>rw[if_neg U]at j;subst j;simp only[beq_eq_false_iff_ne.2 U,go_sem]
 rw[if_pos U]at j;simp only[beq_iff_eq.2 U,go_sem];refine cc D ?_;have b:bytesOf (ax (aV a.ff))=some ((aV a.ff).map λc=>UInt8.ofNat c.toNat):=pz _;have S:(⟨((aV a.ff).map λc=>UInt8.ofNat c.toNat).toArray⟩:ByteArray)=Kt (aV a.ff):=rfl;simp only[b,S,go_sem];refine cc u ?_;generalize hr:rT room term sh wr m.term a.aM a.inc (tT (aV a.ff))=r at j;have hs:=hs r hr;obtain⟨e,n,o⟩:=r;refine fV [1] hs ?_;by_cases v:e=0
 .rw [if_pos v]at j;subst j;simp only[show(e !=0)=false from by rw[v];rfl,go_sem];refine dQ trivial
 .rw [if_neg v]at j;subst j;simp only[bne_iff_ne.2 v,go_sem];refine dQ trivial
section
open Go.RowKit
variable(k:Int)
def WY:=qx f112
def aeH:bM prog f112=some WY:=by kernel_rfl
def aeT:=qx f178
def aeE:bM prog f178=some aeT:=by kernel_rfl
def FV:ah:=.mp [(1,.d (.fn (.func 216) [] [])),(2,.d (.fn (.func 217) [] [])),(3,.d (.fn (.func 220) [] [])),(4,.d (.fn (.func 221) [] [])),(5,.d (.fn (.func 224) [] []))]
def Fe:aS G 177 [] [] (.mr 0) [FV]:=by refine uW func177 ?_;refine ue [] [0] [] (vs:=[.mr 0]) rfl rfl (by decide) (by simp) (by simp) rfl rfl ?_;simp[aR,aB]
def BK(m:bE):ah:=.box 94 [.int m.node,.int m.kind,.int m.term,.int m.gen,.int m.aM,.int m.inc,.int m.version,.int m.epoch,.int m.til,.int m.mode,.int m.work]
def Yf:zm:=⟨false,0,0,0,0,0,0,0,0,0⟩
def uw:bE:=⟨0,0,0,0,0,0,0,0,0,0,0⟩
def Ho(a:zm)(node:Int):ael prog G 178 [.ptr 0 0,.ptr 1 0,.ptr 2 0,.ptr 3 0,.ptr 4 0] [Q0 a,.box 3 [.int node],Q0 Yf,BK uw,.box 4 [.bool false]] (.cZ []) [Q0 a,.box 3 [.int node],Q0 a,BK (a.tell node),.box 4 [.bool true]]:=by have h:=CJ (G:=G) a node;simp only[tR,fG,zm.tell]at h;refine VA func178 (by decide) aeE (by kernel_rfl) rfl rfl rfl rfl ?_;simp only[Q0,BK,Yf,uw,zm.tell,aeT,go_sem];refine cc h ?_;refine dQ trivial
def VI:f112.body=some ((preB 3 f112.body).foldr Code.seq (.seq ((preB 4 f112.body).getD 3 .skip) (HL 4 f112.body))):=by kernel_rfl
def Zu:(preB 3 f112.body).map (dW prog 65)=((oe 3 WY.2.1).1).map some:=by kernel_rfl
def Zv:((oe 3 WY.2.1).1).all lW=true:=by kernel_rfl
def VH:dW prog 65 (HL 4 f112.body)=some (oe 4 WY.2.1).2:=by kernel_rfl
def aa7:jA prog f112.results.toList=some WY.2.2:=by kernel_rfl
def Zw{Q:Exit->Act->World->Prop}{a:Act}{w:World}(hs:a.tmps.size=65){y T j n q:Value}(A:a.tmps.getD 5 Go.undef=y)(o:a.tmps.getD 6 Go.undef=T)(m:a.tmps.getD 10 Go.undef=j)(O:a.tmps.getD 11 Go.undef=n)(E:a.tmps.getD 12 Go.undef=q)
  (B:∀x:Act,x.defers = { target:=.fn (.func 178) #[y,T,j,n,q],args:=#[] }::a.defers->x.tmps.size=65->(∀t,t≠52->x.tmps.getD t Go.undef=a.tmps.getD t Go.undef)->Q .normal x w):((preB 4 f112.body).getD 3 .skip).wp prog Q a w:=by
 refine wp_region_list ?_;refine wpList_plain rfl (λK D=>?_);have S:a.eval (.tmp 5)=y:=by rw[<- A];simp[Act.eval,Array.getD_eq_getD_getElem?]
 have r:a.eval (.tmp 6)=T:=by rw[<- o];simp[Act.eval,Array.getD_eq_getD_getElem?]
 have b:a.eval (.tmp 10)=j:=by rw[<- m];simp[Act.eval,Array.getD_eq_getD_getElem?]
 have c:a.eval (.tmp 11)=n:=by rw[<- O];simp[Act.eval,Array.getD_eq_getD_getElem?]
 have U:a.eval (.tmp 12)=q:=by rw[<- E];simp[Act.eval,Array.getD_eq_getD_getElem?]
 refine cL.of_run (v:=.func (.func 178) #[] #[y,T,j,n,q]) (w':=w) (post:=λZ w'=>Z=.func (.func 178) #[] #[y,T,j,n,q]/\w'=w) ?_ ⟨rfl,rfl⟩ K _ (λZ w' h=>?_)
 .simp only[execOp,map_toArray,map_cons,map_nil,Array.map_empty,S,r,b,c,U];rfl
 obtain⟨rfl,rfl⟩:=h;refine D _ _ ?_;clear D;refine wpList_plain rfl (λK D=>?_);have H:(a.put (some 52) (.func (.func 178) #[] #[y,T,j,n,q])).eval (.tmp 52)=.func (.func 178) #[] #[y,T,j,n,q]:=by simp[Act.eval,Act.put,hs]
 unfold Oper.wp;rw[DW H,Oper.upon_defer];refine D _ _ (wpList_nil (B _ (by simp[Act.put]) ?_ ?_))
 .simp [Act.put,hs]
 .intro t u;simp[Act.put,Array.getD_eq_getD_getElem?,Array.getElem?_setIfInBounds_ne (λe=>u e.symm)]
def zm.fits(a:zm)(m:bE):Prop:=(1<=m.kind/\m.kind<=5)/\a.up=true/\¬m.term<a.term/\¬(m.term=a.term/\m.gen<a.gen)
instance (a:zm)(m:bE):Decidable (a.fits m):=by unfold zm.fits;exact inferInstance
def Wk(k:Int):LV:=if k=1 then .d (.fn (.func 216) [] [])else if k=2 then .d (.fn (.func 217) [] [])else if k=3 then .d (.fn (.func 220) [] [])else if k=4 then .d (.fn (.func 221) [] [])else .d (.fn (.func 224) [] [])
def HS(h:1<=k/\k<=5):(if k=1 then some (LV.d (.fn (.func 216) [] []))else if k=2 then some (LV.d (.fn (.func 217) [] []))else if k=3 then some (LV.d (.fn (.func 220) [] []))else if k=4 then some (LV.d (.fn (.func 221) [] []))else if k=5 then some (LV.d (.fn (.func 224) [] []))else none)=some (Wk k):=by rcases(show k=1\/k=2\/k=3\/k=4\/k=5 by omega)with rfl|rfl|rfl|rfl|rfl<;>rfl
def Wj(h:¬(1<=k/\k<=5))(a b c d e:LV):(if k=1 then some a else if k=2 then some b else if k=3 then some c else if k=4 then some d else if k=5 then some e else none)=none:=by rw[if_neg (by omega),if_neg (by omega),if_neg (by omega),if_neg (by omega),if_neg (by omega)]
def GJ(a:zm)(node:Int)(m:bE)(now room term:Int)(sh:List eE)(wr:Int)(h:¬a.fits m):aS G 112 [tR a,.int node,fG m,.int now,.ptr 0 0] (eF room term sh wr) (.cZ [tR a,fG uw,.bool false]) (eF room term sh wr):=by
 have j:=Fe (G:=G);simp only[FV]at j;unfold zm.fits at h;refine eY func112 (by decide) aeH rfl rfl (dX _ _ _ _ _) rfl ?_;simp only[eF,tR,uw,WY,go_sem,sA];refine s_ j rfl rfl rfl ?_;by_cases hk:1<=m.kind/\m.kind<=5;case neg=>simp only[Wj _ hk,go_sem];refine dQ trivial
 simp only[HS _ hk,go_sem];refine aD rfl ?_;obtain⟨u,K,T,b,v,q,e,E,X,H⟩:=a;dsimp only at h;cases u with
 |false=>simp only[go_sem]
 |true=>
 by_cases U:m.term<K
 .simp only[decide_eq_true U,go_sem]
 by_cases h2:m.term=K;case neg=>exact absurd ⟨hk,rfl,U,λx=>h2 x.1⟩ h
 by_cases B:m.gen<T;case neg=>exact absurd ⟨hk,rfl,U,λx=>B x.2⟩ h
 simp only[decide_eq_false U,beq_iff_eq.2 h2,decide_eq_true B,go_sem]
def zm.tN(a:zm)(m:bE)(now room term:Int)(sh:List eE)(wr:Int):zm×List eE×Int:=
 if m.kind=1 then(a.rest,sh,wr)else if m.kind=2 then(a.take m now,sh,wr)else if m.kind=3 then(a.work m,sh,wr)else if m.kind=4 then a.MM m now room term sh wr else(a.jC m,sh,wr)
def Zx(a:zm)(node:Int)(m:bE)(now room term:Int)(sh:List eE)(wr:Int):St:=⟨[(3,.int now),(4,.ptr 0 0),(5,.ptr 1 0),(6,.ptr 2 0),(7,.ptr 3 0),(10,.ptr 4 0),(11,.ptr 5 0),(12,.ptr 6 0),(13,Wk m.kind)],(eF room term sh wr++[Q0 a,.box 3 [.int node],BK m,Q0 Yf,BK uw,.box 4 [.bool false],FV]).map some⟩
def VG(a:zm)(node:Int)(m:bE)(now room term:Int)(sh:List eE)(wr:Int)(h:a.fits m):W prog G (λ_=>False) ((oe 3 WY.2.1).1.map It.c++[.rt (Has (Zx a node m now room term sh wr)) λ_ _=>False]) ⟨dU 0 [tR a,.int node,fG m,.int now,.ptr 0 0],(eF room term sh wr).map some⟩:=by
 have j:=Fe (G:=G);simp only[FV]at j;obtain⟨hk,y,U,h2⟩:=h;simp only[eF,tR,WY,oe,go_sem,sA];refine s_ j rfl rfl rfl ?_;simp only[HS _ hk,go_sem];refine aD rfl ?_;obtain⟨u,K,T,b,v,q,e,E,X,H⟩:=a;dsimp only at y U h2;subst y;simp only[decide_eq_false U,go_sem];cases B:m.term==K with
 |false=>simp only[Has,Zx,Q0,BK,Yf,uw,eF,FV,mem_cons,not_mem_nil,or_false,forall_eq_or_imp,forall_eq,go_sem]
 |true=>simp only[decide_eq_false (λx=>h2 ⟨eq_of_beq B,x⟩),go_sem];simp only[Has,Zx,Q0,BK,Yf,uw,eF,FV,mem_cons,not_mem_nil,or_false,forall_eq_or_imp,forall_eq,go_sem]
def Wh(a:zm)(m:bE)(now room term:Int)(sh:List eE)(wr:Int)(hk:1<=m.kind/\m.kind<=5)(h:iH sh)(z:zm×List eE×Int)(j:a.tN m now room term sh wr=z):∃f,Wk m.kind=.d (.fn (.func f) [] [])/\aS G f [pJ m now] (vB a room term sh wr) (.cZ []) (vB z.1 room term z.2.1 z.2.2):=by
 unfold zm.tN at j;unfold Wk;rcases(show m.kind=1\/m.kind=2\/m.kind=3\/m.kind=4\/m.kind=5 by omega)with e|e|e|e|e<;>rw[e]at j ⊢
 .obtain rfl:(a.rest,sh,wr)=z:=j;exact⟨_,rfl,Sl a m now room term sh wr⟩
 .obtain rfl:(a.take m now,sh,wr)=z:=j;exact⟨_,rfl,RP a m now room term sh wr⟩
 .obtain rfl:(a.work m,sh,wr)=z:=j;exact⟨_,rfl,Ru a m now room term sh wr⟩
 .exact ⟨_,rfl,Mr a m now room term sh wr h z j⟩
 .obtain rfl:(a.jC m,sh,wr)=z:=j;exact⟨_,rfl,Mp a m now room term sh wr⟩
def Zt(a:zm)(node:Int)(m:bE)(room term:Int)(sh:List eE)(wr:Int):St:=⟨[(5,.ptr 1 0),(6,.ptr 2 0),(10,.ptr 4 0),(11,.ptr 5 0),(12,.ptr 6 0)],(eF room term sh wr++[Q0 a,.box 3 [.int node],BK m,Q0 Yf,BK uw,.box 4 [.bool false],FV]).map some⟩
def zm.seen(a:zm)(m:bE):zm:={ a with term:=m.term,gen:=m.gen }
def VE(a:zm)(node:Int)(m:bE)(now room term:Int)(sh:List eE)(wr:Int)(hk:1<=m.kind/\m.kind<=5)(h:iH sh)(z:zm×List eE×Int)(j:(a.seen m).tN m now room term sh wr=z):W prog G (Has (Zt z.1 node m room term z.2.1 z.2.2)) [.c (oe 4 WY.2.1).2] (Zx a node m now room term sh wr):=by obtain⟨f,A,K⟩:=Wh (G:=G) (a.seen m) m now room term sh wr hk h z j;simp only[pJ,vB,zm.seen]at K;simp only[Zx,eF,Q0,BK,Yf,uw,FV,A,WY,oe,go_sem,sA];refine dQ ?_;refine bJ [1,0] K ?_;simp only[Has,Zt,Q0,BK,Yf,uw,eF,FV,mem_cons,not_mem_nil,or_false,forall_eq_or_imp,forall_eq,go_sem]
def dTg(a b c d e:Value):Deferred:={ target:=.fn (.func 178) #[a,b,c,d,e],args:=#[] }
def ad5(a b c d e:Value)(w:World):(invoke (.fn (.func 178) #[a,b,c,d,e]) #[]).run prog w=.ok (.enter 178 #[a,b,c,d,e]) w:=by simp only[invoke];exact jM (by decide) _ w
def Mq(a:zm)(node:Int)(m:bE)(now room term:Int)(sh:List eE)(wr:Int)(h:a.fits m)(c:iH sh)(z:zm×List eE×Int)(j:(a.seen m).tN m now room term sh wr=z) :
  aS G 112 [tR a,.int node,fG m,.int now,.ptr 0 0] (eF room term sh wr) (.cZ [tR z.1,fG (z.1.tell node),.bool true]) (eF room term z.2.1 z.2.2):=by
 refine⟨by decide,λJ0 bR w0 vs Z r=>?_⟩;refine calls_of_wp_defers func112 VI ?_;refine Fl (D:=Dk.plain [] false) (N:=65) (aX:=an ((eF room term sh wr).map some)) (J0:=J0) (bR:=bR) (w0:=w0) (fin:=λ_=>False) (λs K B q x=>?_) (λ_ _ _ _ h=>h.elim) _ _ _ _ _ Zu Zv (VG (G:=G) a node m now room term sh wr h) (xz (n:=65) Z r (show 5<=65 by decide));obtain⟨J1,o,H,X⟩:=q.has x;have hr:cm J1 B o [.ptr 1 0,.ptr 2 0,.ptr 4 0,.ptr 5 0,.ptr 6 0] [K.tmps.getD 5 Go.undef,K.tmps.getD 6 Go.undef,K.tmps.getD 10 Go.undef,K.tmps.getD 11 Go.undef,K.tmps.getD 12 Go.undef]:=⟨H.env 5,H.env 6,H.env 10,H.env 11,H.env 12,trivial⟩;refine wp_seq (Zw H.size rfl rfl rfl rfl rfl (λT hd hs2 u=>?_));show(HL 4 f112.body).wp prog _ T B;generalize hd5:dTg (K.tmps.getD 5 Go.undef) (K.tmps.getD 6 Go.undef) (K.tmps.getD 10 Go.undef) (K.tmps.getD 11 Go.undef) (K.tmps.getD 12 Go.undef)=dd;have b:mF G (Dk.plain [dd] false) 65 (Zx a node m now room term sh wr).obj J1 o B (Zx a node m now room term sh wr) T B:=by
  refine⟨J1,o,⟨H.store,λt=>?_,hs2,by rw[hd,H.defers.none rfl,<- hd5];exact Marks.plain _ _,trivial,H.lim⟩,Ext.refl ..⟩;by_cases V:t=52
  .subst V;trivial
  .rw [u t V];exact H.env t
 have S:=VE (G:=G) a node m now room term sh wr h.1 c z j;refine xM (fin:=Has (Zt z.1 node m room term z.2.1 z.2.2)) (pan:=λ_=>False) VH ?_ b ?_ (λ_ _ _ _ _ _ h=>h.elim)
 .simp only[W,Wx]at S;exact mG _ _ ⟨Has (Zt z.1 node m room term z.2.1 z.2.2),λ_ _=>False,Has (Zt z.1 node m room term z.2.1 z.2.2),uP,none⟩ _ (λs h=>h) (λi s (h:False)=>h.elim) (λs h=>h) S
 .intro s U y hA3 A;obtain⟨J3,Rn,E,E3⟩:=hA3.has A;have O:Leaves prog f112 U.tmps (λe w'=>∃v,e=Ending.returned v/\aO G (an (map some (eF room term sh wr))) (an (map some (eF room term z.2.1 z.2.2))) J0 bR w0 (.cZ [tR z.1,fG (z.1.tell node),.bool true]) v w') U.defers .returning y:=by
   rw[E.defers.none rfl,<- hd5];refine zj (s:=Zt z.1 node m room term z.2.1 z.2.2) E.store E.env (X.trans E3) (ad5 ..) (hr.ev H.store E3.ev) [1,2,4,5,6] (Ho (G:=G) z.1 node) (by simp[ay,aB]) (by decide) rfl rfl (Nat.le_refl _) (λJ4 ι4 w4 S4 he4 E4 _=>?_);exact zk (s:=⟨(Zt z.1 node m room term z.2.1 z.2.2).env,_⟩) S4 he4 Z E4 (by rw[E.size];decide) aa7 ⟨rfl,rfl⟩ rfl (dX _ _ _ _ _) (Nat.le_refl _)
  exact⟨O,O⟩
end
section
variable(a:Addr)(w:World)
def Sr:(callFunc 202 #[]).run prog w=.ok (.value (.tuple #[])) w:=run_call_mark0 func202 (by kernel_rfl) (by kernel_rfl) (by kernel_rfl) .disable (by kernel_rfl) w
def Yl:(callFunc 204 #[]).run prog w=.ok (.value (.tuple #[])) w:=run_call_mark0 func204 (by kernel_rfl) (by kernel_rfl) (by kernel_rfl) .enable (by kernel_rfl) w
def ZK:(callFunc 205 #[.pointer (some a)]).run prog w=.ok (.value (.tuple #[])) w:=run_call_marked func205 (by kernel_rfl) (by kernel_rfl) (by kernel_rfl) .acquire (by kernel_rfl) a w
def ZJ:(callFunc 207 #[.pointer (some a)]).run prog w=.ok (.value (.tuple #[])) w:=run_call_marked func207 (by kernel_rfl) (by kernel_rfl) (by kernel_rfl) .releaseMerge (by kernel_rfl) a w
def aco(x:Value)(u:FrameMode)(w:World)(K:w.cell? a=some x)(j:w.frozen? a=false) :
  CallsD prog 103 #[.pointer (some a),.bool true] u w λe m w'=>m=u/\(e=.returned (.tuple #[])/\w'=w.drew.setCell a (.int .u32 1)):=by
 have E:w.drew.cell? a=some x:=by go_simp
 have b:w.drew.frozen? a=false:=by go_simp
 have S:=run_call_store (P:=prog) func170 (by kernel_rfl) (by kernel_rfl) (by kernel_rfl) (by kernel_rfl) (k:=.u32) (y:=1) E b
 go_enter_d func103,ntmps103
 go_wp2
 go_region_calls
 all_goals (go_end0;exact⟨rfl,rfl⟩)
def aa5(u:FrameMode)(w:World)(K:w.cell? a=some (.int .i32 1))(j:w.frozen? a=false) :
  CallsD prog 102 #[.pointer (some a)] u w λe m w'=>m=u/\(e=.returned (.tuple #[])/\w'=w.setCell a (.int .i32 0)):=by
 have hd:=Sr;have v:=Yl;have hr:=ZJ;have D:=run_call_add (P:=prog) func208 (by kernel_rfl) (by kernel_rfl) (by kernel_rfl) .i32 (by kernel_rfl) (y:=-1) (s:=0) K j (by simp[go_sem];rfl);have b:=run_convert_to_unsafe (P:=prog) (src:=267) (dst:=271) underlying267 underlying271 (by kernel_rfl) K
 go_enter_d func102,ntmps102
 go_wp2
 go_end0
 go_wp2
 go_end0
 exact⟨rfl,rfl⟩
def ZU(K:w.cell? a=some (.int .i32 0))(j:w.frozen? a=false) :
  Calls prog 101 #[.pointer (some a)] w λe w'=>e=.returned (.tuple #[])/\w'=w.setCell a (.int .i32 1):=by
 have hd:=Sr;have v:=Yl;have X:=ZK;have c:=run_call_cas_hit (P:=prog) func203 (by kernel_rfl) (by kernel_rfl) (by kernel_rfl) .i32 (by kernel_rfl) (y:=1) K j;have E:(w.setCell a (.int .i32 1)).cell? a=some (.int .i32 1):=World.cell?_setCell_same w a _ K;have b:=run_convert_to_unsafe (P:=prog) (src:=267) (dst:=271) underlying267 underlying271 (by kernel_rfl) E
 go_enter func101,ntmps101
 go_wp2
 first|go_end0|(simp only[Exit.inBlock,Exit.then];refine bodyPost_ret (results_none rfl _ _ _) rfl ?_)|refine bodyPost_ret (results_none rfl _ _ _) rfl ?_
 go_wp2
 go_end0
 exact⟨rfl,rfl⟩
def acq(d:Int)(w:World)(h0:w.cell? a=some (.int .u32 d)):Calls prog 58 #[.pointer (some a)] w λe w'=>e=.returned (.bool (d !=0))/\w'=w:=by
 have Z:=run_call_load (P:=prog) func100 (by kernel_rfl) (by kernel_rfl) (by kernel_rfl) .u32 (by kernel_rfl) h0
 go_enter func58,ntmps58
 go_wp2
 exact⟨rfl,.bool (d !=0),by simp[results,results58,go_sem],rfl,rfl⟩
end
section
open Go.RowKit
variable{et:TypeId}{c t:Nat}{v:Value}{ops:Array Oper}{a:Act}{w:World}(os:List ah)
section
variable {J:Nat->Prop} {w:World} {ι:fe} {obj:Nat->bK}
def aA.drawn(S:aA G J w ι obj)(n:Nat):aA G J { w with drawn:=n } ι obj/\Ext obj obj J J ι ι w { w with drawn:=n }:=by have X:Ext obj obj J J ι ι w { w with drawn:=n }:=⟨⟨rfl,rfl,rfl,Nat.le_refl _,λ_ _ _=>rfl,λ_ _=>rfl,λ_ h=>h,λ_ h=>.inl h,λ_ _ _ h=>h⟩,λ_ h=>.inl h⟩;refine⟨⟨λo=>jI.keep S X.ev (λ_=>rfl) (λ_ _=>rfl),S.inj,S.pX,S.jcell,λg row V=>?_⟩,X⟩;obtain⟨U,h2,B⟩:=S.uV g row V;exact⟨U,h2.ev S X.ev U,B⟩
def Aw(S:aA G J w ι obj){cells:List LV}{x:DV}(j:obj 0=.live (.box et cells))(q:cells[c]? = some (.d x))(B:cW J w ι (.ptr 0 c) v) :
  ∃b u,v=.pointer (some ⟨b,c,none⟩)/\kz J w x u/\w.cell? ⟨b,c,none⟩=some u/\w.frozen? ⟨b,c,none⟩=false/\
   ∀(n:Nat) (y:LV) (z:Value),cW J w ι y z->z.oneCell'=true->∃J' ι',aA G J' ({ w with drawn:=n }.setCell ⟨b,c,none⟩ z) ι' (λk=>if k=0 then .live (.box et (splice cells c [y]))else obj k)/\Ext obj (λk=>if k=0 then .live (.box et (splice cells c [y]))else obj k) J J' ι ι' w ({ w with drawn:=n }.setCell ⟨b,c,none⟩ z):=by
 obtain⟨b,T,B⟩:=B;have r:c<cells.length:=(List.getElem?_eq_some_iff.1 q).1;have h0:=S.rep 0;rw[j]at h0;obtain⟨⟨D,C,o,t,Z⟩,_⟩:=h0;rw[T]at o;cases o;obtain⟨u,a,_,hr⟩:=Z.get q;refine⟨b,u,B,hr,?_,by simp[World.frozen?,t],λn y z E V=>?_⟩
 .simp only[World.cell?,t];simpa using a
 .obtain ⟨H,X⟩:=S.drawn n;obtain⟨A,U,m,J',ι',e,_,h⟩:=aO.x_ H (col:=c) (cs:=[y]) (vs:=[z]) j ⟨V,E.ev S X.ev,trivial⟩ (by simp;omega);rw[T]at U;cases U;exact⟨J',ι',e,X.trans h⟩
end
def F0(x y:ah)(os:List ah):(λk=>if k=0 then bK.live y else an ((x::os).map some) k)=an ((y::os).map some):=by
 funext k;cases k with
 |zero=>rfl
 |succ k=>simp[an]
def Tw{cells:List LV}(q:cells[c]? = some (.d (.val (.int .i32 0)))):aS G 101 [.ptr 0 c] (.box et cells::os) (.cZ []) (.box et (splice cells c [.d (.val (.int .i32 1))])::os):=by
 refine⟨by decide,λJ ι w vs S r=>?_⟩;obtain⟨vs⟩:=vs
 match vs,r with
 |[v],⟨K,_⟩=>
 obtain⟨b,u,rfl,y,U,h2,B⟩:=Aw S rfl q K;obtain rfl:u=.int .i32 0:=y;refine(ZU _ w U h2).mono ?_;rintro e w' ⟨rfl,rfl⟩;obtain⟨J',ι',A,E'⟩:=B w.drawn (.d (.val (.int .i32 1))) (.int .i32 1) rfl rfl;rw[F0]at A E';exact⟨_,rfl,J',ι',A,⟨#[],rfl,trivial⟩,E'⟩
def yK{cells:List LV}(d:Int)(q:cells[c]? = some (.d (.val (.int .u32 d)))):aS G 58 [.ptr 0 c] (.box et cells::os) (.bool (d !=0)) (.box et cells::os):=by
 refine⟨by decide,λJ ι w vs S r=>?_⟩;obtain⟨vs⟩:=vs
 match vs,r with
 |[v],⟨K,_⟩=>
 obtain⟨b,u,rfl,y,U,h2,B⟩:=Aw S rfl q K;obtain rfl:u=.int .u32 d:=y;refine(acq _ d w U).mono ?_;rintro e w' ⟨rfl,rfl⟩;exact⟨_,rfl,J,ι,S,rfl,Ext.refl ..⟩
def Vy{cells:List LV}(q:cells[c]? = some (.d (.val (.int .i32 1)))):ael prog G 102 [.ptr 0 c] (.box et cells::os) (.cZ []) (.box et (splice cells c [.d (.val (.int .i32 0))])::os):=by
 refine⟨by decide,λJ ι w vs u S r=>?_⟩;obtain⟨vs⟩:=vs
 match vs,r with
 |[v],⟨K,_⟩=>
 obtain⟨b,u,rfl,y,U,h2,B⟩:=Aw S rfl q K;obtain rfl:u=.int .i32 1:=y;refine(aa5 _ _ w U h2).mono ?_;rintro e m w' ⟨rfl,rfl,rfl⟩;obtain⟨J',ι',A,E'⟩:=B w.drawn (.d (.val (.int .i32 0))) (.int .i32 0) rfl rfl;rw[F0]at A E';exact⟨rfl,_,rfl,J',ι',A,⟨#[],rfl,trivial⟩,E'⟩
def XY{cells:List LV}(x:DV)(q:cells[c]? = some (.d x)):ael prog G 103 [.ptr 0 c,.bool true] (.box et cells::os) (.cZ []) (.box et (splice cells c [.d (.val (.int .u32 1))])::os):=by
 refine⟨by decide,λJ ι w vs u S r=>?_⟩;obtain⟨vs⟩:=vs
 match vs,r with
 |[v,z],⟨K,j,_⟩=>
 obtain rfl:z=.bool true:=j;obtain⟨b,u,rfl,y,U,h2,B⟩:=Aw S rfl q K;refine(aco _ _ _ w U h2).mono ?_;rintro e m w' ⟨rfl,rfl,rfl⟩;obtain⟨J',ι',A,E'⟩:=B (w.drawn+1) (.d (.val (.int .u32 1))) (.int .u32 1) rfl rfl;rw[F0]at A E';exact⟨rfl,_,rfl,J',ι',A,⟨#[],rfl,trivial⟩,E'⟩
def YB:=qx f59
def wl1{P:Program}{Q:Exit->Act->World->Prop}{j:List Oper}{o:Oper}(V:o.guard=none)(hr:(execOp a.eval o).run P w=.ok (.value v) w)(h:wpList P ops Q j (a.put o.dst v) w):wpList P ops Q (o::j) a w:=
 wpList_plain V (λK D=>(cL.of_run (post:=λZ w'=>Z=v/\w'=w) hr ⟨rfl,rfl⟩) K Q (λZ w' X=>by obtain⟨rfl,rfl⟩:=X;exact D _ _ h))
def GW{P:Program}{Q:Exit->Act->World->Prop}{j:List Oper}{d:Option Nat}{x:Operand}{xs:Array Operand}{ts:Array TypeId}{ty:TypeId}{pos:String}{b:Array Edge}{fv:Fn}{fs cap:Array Value}(S:a.eval x=.func fv fs cap)
  (h:wpList P ops Q j (Act.put { a with defers:={ target:=.fn fv cap,args:=fs++xs.map a.eval }::a.defers } d Go.undef) w):wpList P ops Q (⟨d,.defer ⟨.value x,xs,ts⟩,ty,pos,b,none⟩::j) a w:=
 wpList_plain rfl (λK D=>by unfold Oper.wp;rw[DW S,Oper.upon_defer];exact D _ _ h)
def qT(a:Act)(t:Nat):a.eval (.tmp t)=a.tmps.getD t Go.undef:=by simp[Act.eval,Array.getD_eq_getD_getElem?]
def put_eq(h:t<a.tmps.size):(a.put (some t) v).tmps.getD t Go.undef=v:=by simp[Act.put,Array.getD_eq_getD_getElem?,h]
def yj: (a.put (some t) v).tmps.size=a.tmps.size:=by simp[Act.put]
def slA(b:Option Code):Code:=(preB 2 b).getD 1 .skip
def abf{Q:Exit->Act->World->Prop}{b:Nat}(hs:a.tmps.size=21)(h0:a.tmps.getD 0 Go.undef=.pointer (some ⟨b,c,none⟩))
  (B:∀x:Act,x.defers = { target:=.fn (.func 102) #[],args:=#[.pointer (some ⟨b,c+1,none⟩)] }::a.defers->x.tmps.size=21->(∀t,t≠8->t≠9->t≠10->x.tmps.getD t Go.undef=a.tmps.getD t Go.undef)->Q .normal x w):(slA f59.body).wp prog Q a w:=by
 refine wp_region_list ?_;refine wl1 (v:=.pointer (some ⟨b,c,none⟩)) rfl ?_ ?_
 .simp only[execOp,qT,h0];rfl
 have o:(a.put (some 8) (.pointer (some ⟨b,c,none⟩))).eval (.tmp 8)=.pointer (some ⟨b,c,none⟩):=by rw[qT];exact put_eq (by rw[hs];decide)
 refine wl1 (v:=.pointer (some ⟨b,c,none⟩)) rfl ?_ ?_
 .simp only[execOp,o];rfl
 have V:((a.put (some 8) (.pointer (some ⟨b,c,none⟩))).put (some 9) (.pointer (some ⟨b,c,none⟩))).eval (.tmp 9)=.pointer (some ⟨b,c,none⟩):=by rw[qT];exact put_eq (by rw[yj,hs];decide)
 refine wl1 (v:=.pointer (some ⟨b,c+1,none⟩)) rfl ?_ ?_
 .simp only[execOp,V];first|kernel_rfl|rfl|simp[go_sem]
 have X:(((a.put (some 8) (.pointer (some ⟨b,c,none⟩))).put (some 9) (.pointer (some ⟨b,c,none⟩))).put (some 10) (.pointer (some ⟨b,c+1,none⟩))).eval (.tmp 10)=.pointer (some ⟨b,c+1,none⟩):=by rw[qT];exact put_eq (by rw[yj,yj,hs];decide)
 refine GW (fv:=.func 102) (fs:=#[]) (cap:=#[]) rfl (wpList_nil (B _ ?_ ?_ ?_))
 .simp [Act.put];exact X
 .simp [Act.put,hs]
 .intro t D A m;simp[Act.put,Array.getD_eq_getD_getElem?,Array.getElem?_setIfInBounds_ne (λe=>D e.symm),Array.getElem?_setIfInBounds_ne (λe=>A e.symm),Array.getElem?_setIfInBounds_ne (λe=>m e.symm)]
def Yh:Code->Code
 |.cond _ x _=>x
 |c=>c
def RJ:C->C
 |.cond _ x _=>x
 |c=>c
def slM(b:Option Code):Code:=((ON 1 (Yh (HL 3 b))).1).getD 0 .skip
def slR(b:Option Code):Code:=(ON 1 (Yh (HL 3 b))).2
def abe{Q:Exit->Act->World->Prop}{b:Nat}(hs:a.tmps.size=21)(h0:a.tmps.getD 0 Go.undef=.pointer (some ⟨b,c,none⟩))
  (B:∀x:Act,x.defers = { target:=.fn (.func 103) #[],args:=#[.pointer (some ⟨b,c,none⟩),.bool true] }::a.defers->x.tmps.size=21->(∀t,t≠16->t≠17->t≠18->x.tmps.getD t Go.undef=a.tmps.getD t Go.undef)->Q .normal x w):(slM f59.body).wp prog Q a w:=by
 refine wp_region_list ?_;refine wl1 (v:=.pointer (some ⟨b,c,none⟩)) rfl ?_ ?_
 .simp only[execOp,qT,h0];rfl
 have o:(a.put (some 16) (.pointer (some ⟨b,c,none⟩))).eval (.tmp 16)=.pointer (some ⟨b,c,none⟩):=by rw[qT];exact put_eq (by rw[hs];decide)
 refine wl1 (v:=.pointer (some ⟨b,c,none⟩)) rfl ?_ ?_
 .simp only[execOp,o];rfl
 have V:((a.put (some 16) (.pointer (some ⟨b,c,none⟩))).put (some 17) (.pointer (some ⟨b,c,none⟩))).eval (.tmp 17)=.pointer (some ⟨b,c,none⟩):=by rw[qT];exact put_eq (by rw[yj,hs];decide)
 refine wl1 (v:=.pointer (some ⟨b,c,none⟩)) rfl ?_ ?_
 .simp only[execOp,V];kernel_rfl
 have X:(((a.put (some 16) (.pointer (some ⟨b,c,none⟩))).put (some 17) (.pointer (some ⟨b,c,none⟩))).put (some 18) (.pointer (some ⟨b,c,none⟩))).eval (.tmp 18)=.pointer (some ⟨b,c,none⟩):=by rw[qT];exact put_eq (by rw[yj,yj,hs];decide)
 refine GW (fv:=.func 103) (fs:=#[]) (cap:=#[]) rfl (wpList_nil (B _ ?_ ?_ ?_))
 .simp [Act.put];exact⟨X,rfl⟩
 .simp [Act.put,hs]
 .intro t D A m;simp[Act.put,Array.getD_eq_getD_getElem?,Array.getElem?_setIfInBounds_ne (λe=>D e.symm),Array.getElem?_setIfInBounds_ne (λe=>A e.symm),Array.getElem?_setIfInBounds_ne (λe=>m e.symm)]
def VL:f59.body=some (((preB 1 f59.body)).foldr Code.seq (.seq (slA f59.body) (([(preB 3 f59.body).getD 2 .skip]).foldr Code.seq (.cond (.tmp 15) (.seq (slM f59.body) (slR f59.body)) .skip)))):=by kernel_rfl
def abi:(preB 1 f59.body).map (dW prog 21)=((oe 1 YB.2.1).1).map some:=by kernel_rfl
def abd:((oe 1 YB.2.1).1).all lW=true:=by kernel_rfl
def abh:[(preB 3 f59.body).getD 2 .skip].map (dW prog 21)=([(oe 3 YB.2.1).1.getD 2 .skip]).map some:=by kernel_rfl
def abc:([(oe 3 YB.2.1).1.getD 2 .skip]).all lW=true:=by kernel_rfl
def abg:dW prog 21 (slR f59.body)=some (oe 1 (RJ (oe 3 YB.2.1).2)).2:=by kernel_rfl
def abb:jA prog f59.results.toList=some []:=by kernel_rfl
section
variable {et:TypeId} {cells fL:List LV} {os xK:List ah} {k:Nat} {cs:List LV}
def A2(f:LV)(a:List ah):St:=⟨[(0,.ptr 0 17),(1,f)],a.map some⟩
def aba(a:cells[18]? = some (.d (.val (.int .i32 0))))(f:LV)(hid:(ah.box et cells::os).all (aP (os.length+1))=true)(e:(ah.box et (splice cells 18 [.d (.val (.int .i32 1))])::os).all (aP (os.length+1))=true) :
  W prog G (λ_=>False) ((oe 1 YB.2.1).1.map It.c++[.rt (Has (A2 f (.box et (splice cells 18 [.d (.val (.int .i32 1))])::os))) λ_ _=>False]) ⟨dU 0 [.ptr 0 17,f],(ah.box et cells::os).map some⟩:=by
 simp only[YB,oe,go_sem];have t:(os.map some).drop os.length=[]:=drop_of_length_le (by simp);have j:(os.map some).take os.length=os.map some:=take_of_length_le (by simp);refine ij (os.length+1) rfl (Tw (G:=G) os a) (show bn (os.length+1) [.ptr 0 18]=true by simp[bn,bV]) rfl (by simp[j]) hid rfl e rfl ?_;simp only[t,go_sem];simp only[Has,A2,mem_cons,not_mem_nil,or_false,forall_eq_or_imp,forall_eq,go_sem]
def aa_(d:Int)(a:cells[17]? = some (.d (.val (.int .u32 d))))(hd:d=0)(f:LV)(hid:(ah.box et cells::os).all (aP (os.length+1))=true) :
  W prog G (λ_=>False) ([(oe 3 YB.2.1).1.getD 2 .skip].map It.c++[.rt (Has ⟨(15,.bool true)::(A2 f (.box et cells::os)).env,(A2 f (.box et cells::os)).af⟩) λ_ _=>False]) (A2 f (.box et cells::os)):=by
 subst hd;have j:(os.map some).take os.length=os.map some:=take_of_length_le (by simp);simp only[YB,oe,A2,getD_cons_succ,getD_cons_zero,go_sem];refine ey (os.length+1) rfl (yK (G:=G) os 0 a) (show bn (os.length+1) [.ptr 0 17]=true by simp[bn,bV]) rfl (by simp[j]) hid rfl ?_;simp only[show((0:Int) !=0)=false from rfl,go_sem];simp only[Has,A2,mem_cons,not_mem_nil,or_false,forall_eq_or_imp,forall_eq,go_sem]
def aa9(K:aS G k cs (.box et cells::os) (.cZ []) (.box et fL::xK))(Z:xK.length=os.length)(X:bn (os.length+1) cs=true)(hid:(ah.box et cells::os).all (aP (os.length+1))=true)(u:(ah.box et fL::xK).all (aP (os.length+1))=true) :
  W prog G (Has (A2 (.fn (.func k) [] cs) (.box et fL::xK))) [.c (oe 1 (RJ (oe 3 YB.2.1).2)).2] ⟨(15,.bool true)::(A2 (.fn (.func k) [] cs) (.box et cells::os)).env,(A2 (.fn (.func k) [] cs) (.box et cells::os)).af⟩:=by
 have t:(os.map some).drop os.length=[]:=drop_of_length_le (by simp);have j:(os.map some).take os.length=os.map some:=take_of_length_le (by simp);simp only[YB,oe,A2,RJ,go_sem];refine ij (os.length+1) rfl K (by simpa using X) rfl (by simp[j]) hid (by simp[Z]) u rfl ?_;simp only[t,go_sem];simp only[Has,A2,mem_cons,not_mem_nil,or_false,forall_eq_or_imp,forall_eq,go_sem]
def R6(h17:cells[17]? = some (.d (.val (.int .u32 0))))(h18:cells[18]? = some (.d (.val (.int .i32 0))))(hid:(ah.box et cells::os).all (aP (os.length+1))=true)(aao:(ah.box et (splice cells 18 [.d (.val (.int .i32 1))])::os).all (aP (os.length+1))=true)(adz:(splice cells 18 [.d (.val (.int .i32 1))])[17]? = some (.d (.val (.int .u32 0))))
  (K:aS G k cs (.box et (splice cells 18 [.d (.val (.int .i32 1))])::os) (.cZ []) (.box et fL::xK)) (Z:xK.length=os.length) (X:bn (os.length+1) cs=true) (c:(ah.box et fL::xK).all (aP (os.length+1))=true)
  (x:DV) (g17:fL[17]? = some (.d x)) (Lx:(ah.box et (splice fL 17 [.d (.val (.int .u32 1))])::xK).all (aP (os.length+1))=true) (g18:(splice fL 17 [.d (.val (.int .u32 1))])[18]? = some (.d (.val (.int .i32 1)))) (PT:(ah.box et (splice (splice fL 17 [.d (.val (.int .u32 1))]) 18 [.d (.val (.int .i32 0))])::xK).all (aP (os.length+1))=true) :
  aS G 59 [.ptr 0 17,.fn (.func k) [] cs] (.box et cells::os) (.cZ []) (.box et (splice (splice fL 17 [.d (.val (.int .u32 1))]) 18 [.d (.val (.int .i32 0))])::xK):=by
 refine⟨by decide,λJ0 bR w0 vs S0 r=>?_⟩;refine calls_of_wp_defers func59 VL ?_;refine Fl (D:=Dk.plain [] false) (N:=21) (aX:=an ((ah.box et cells::os).map some)) (J0:=J0) (bR:=bR) (w0:=w0) (fin:=λ_=>False) (λs E B q o=>?_) (λ_ _ _ _ h=>h.elim) _ _ _ _ _ abi abd (aba (G:=G) h18 (.fn (.func k) [] cs) hid aao) (xz (n:=21) S0 r (show 2<=21 by decide));obtain⟨J1,C9,S1,E1⟩:=q.has o;obtain⟨b,T,h0⟩:=S1.env 0;refine wp_seq (abf S1.size h0 (λa hd hs2 u=>?_));show Code.wp prog _ _ a B;generalize hd1:({ target:=.fn (.func 102) #[],args:=#[.pointer (some ⟨b,17+1,none⟩)] } : Deferred)=d1 at hd;have m:mF G (Dk.plain [d1] false) 21 (A2 (.fn (.func k) [] cs) (.box et (splice cells 18 [.d (.val (.int .i32 1))])::os)).obj J1 C9 B (A2 (.fn (.func k) [] cs) (.box et (splice cells 18 [.d (.val (.int .i32 1))])::os)) a B:=by
  refine⟨J1,C9,⟨S1.store,λt=>?_,hs2,by rw[hd,S1.defers.none rfl];exact Marks.plain _ _,trivial,S1.lim⟩,Ext.refl ..⟩;by_cases V:t=8\/t=9\/t=10
  .rcases V with rfl|rfl|rfl<;>trivial
  .rw [u t (by omega) (by omega) (by omega)];exact S1.env t
 refine Fl (D:=Dk.plain [d1] false) (N:=21) (fin:=λ_=>False) (λs U y hA3 hs3=>?_) (λ_ _ _ _ h=>h.elim) _ _ _ _ _ abh abc (aa_ (G:=G) 0 adz rfl (.fn (.func k) [] cs) aao) m;have hA3:=hA3.has hs3;obtain⟨J3,Rn,S3,E3⟩:=hA3;obtain⟨b',hb',Y5⟩:=S3.env 0;have h15:U.eval (.tmp 15)=.bool true:=by rw[qT];exact S3.env 15
 refine wp_cond h15 ?_;simp only[if_true];refine wp_seq (abe S3.size Y5 (λj Xt hs4 ht4=>?_));show Code.wp prog _ _ j y;generalize hd2:({ target:=.fn (.func 103) #[],args:=#[.pointer (some ⟨b',17,none⟩),.bool true] } : Deferred)=d2 at Xt;have hA4:mF G (Dk.plain [d2,d1] false) 21 (A2 (.fn (.func k) [] cs) (.box et (splice cells 18 [.d (.val (.int .i32 1))])::os)).obj J3 Rn y ⟨(15,.bool true)::(A2 (.fn (.func k) [] cs) (.box et (splice cells 18 [.d (.val (.int .i32 1))])::os)).env,(A2 (.fn (.func k) [] cs) (.box et (splice cells 18 [.d (.val (.int .i32 1))])::os)).af⟩ j y:=by
  refine⟨J3,Rn,⟨S3.store,λt=>?_,hs4,by rw[Xt,S3.defers.none rfl];exact Marks.plain _ _,trivial,S3.lim⟩,Ext.refl ..⟩;by_cases V:t=16\/t=17\/t=18
  .rcases V with rfl|rfl|rfl<;>trivial
  .rw [ht4 t (by omega) (by omega) (by omega)];exact S3.env t
 have S:=aa9 (G:=G) K Z X aao c;refine xM (fin:=Has (A2 (.fn (.func k) [] cs) (.box et fL::xK))) (pan:=λ_=>False) abg ?_ hA4 ?_ (λ_ _ _ _ _ _ h=>h.elim)
 .simp only[W,Wx]at S;exact mG _ _ ⟨Has (A2 (.fn (.func k) [] cs) (.box et fL::xK)),λ_ _=>False,Has (A2 (.fn (.func k) [] cs) (.box et fL::xK)),uP,none⟩ _ (λs h=>h) (λi s (h:False)=>h.elim) (λs h=>h) S
 .intro s H w5 hA5 A;obtain⟨J5,ι5,S5,E5⟩:=hA5.has A;have O:Leaves prog f59 H.tmps (λe w'=>∃v,e=Ending.returned v/\aO G (an (map some (ah.box et cells::os))) (an (map some (ah.box et (splice (splice fL 17 [.d (.val (.int .u32 1))]) 18 [.d (.val (.int .i32 0))])::xK))) J0 bR w0 (.cZ []) v w') H.defers .returning w5:=by
   rw[S5.defers.none rfl,<- hd2,<- hd1];refine wL (env:=(A2 (.fn (.func k) [] cs) (.box et fL::xK)).env) (args:=[.ptr 0 17,.bool true]) (us:=#[.pointer (some ⟨b',17,none⟩),.bool true]) S5.store S5.env (E1.trans (E3.trans E5)) ?_ ⟨⟨b',E5.ev.gu 0 0 b' hb',rfl⟩,rfl,trivial⟩ (XY (G:=G) xK x g17) (by simp[bn,bV,Z,LV.bool]) (by simpa[Z]using c) (by simpa[Z]using Lx) rfl (λJ6 ι6 w6 S6 he6 E6 hr6=>?_)
   .simp only[invoke];exact jM (by decide) _ _
   refine wL (env:=(A2 (.fn (.func k) [] cs) (.box et fL::xK)).env) (args:=[.ptr 0 18]) (us:=#[.pointer (some ⟨b,17+1,none⟩)]) S6 he6 E6 ?_ (hr6 _ _ ⟨⟨b,E5.ev.gu 0 0 b (E3.ev.gu 0 0 b T),rfl⟩,trivial⟩) (Vy (G:=G) xK g18) (by simp[bn,bV]) (by simpa[Z]using Lx) (by simpa[Z]using PT) rfl (λJ7 ι7 w7 S7 he7 E7 _=>?_)
   .simp only[invoke];exact jM (by decide) _ _
   exact zk (s:=⟨(A2 (.fn (.func k) [] cs) (.box et fL::xK)).env,(ah.box et (splice (splice fL 17 [.d (.val (.int .u32 1))]) 18 [.d (.val (.int .i32 0))])::xK).map some⟩) S7 he7 S0 E7 (by rw[S5.size];decide) abb ⟨rfl,by rw[take_of_length_le (by simp)]⟩ (by rfl) (by simpa[Z]using PT) (by simp[Z])
  exact⟨O,O⟩
def L4(d:Int)(hd:d≠0)(a:cells[17]? = some (.d (.val (.int .u32 d))))(f:LV)(hid:(ah.box et cells::os).all (aP (os.length+1))=true):aS G 33 [.ptr 0 17,f] (.box et cells::os) (.cZ []) (.box et cells::os):=by have j:(os.map some).take os.length=os.map some:=take_of_length_le (by simp);refine oO func33 (by simpa using hid) ?_;refine ey (os.length+1) rfl (yK (G:=G) os d a) (show bn (os.length+1) [.ptr 0 17]=true by simp[bn,bV]) rfl (by simp[j]) hid rfl ?_;simp only[show(d !=0)=true from bne_iff_ne.2 hd,j,go_sem]
def I_(a:cells[17]? = some (.d (.val (.int .u32 0))))(hid:(ah.box et cells::os).all (aP (os.length+1))=true)(f:LV)(X:bn (os.length+1) [f]=true)(Z:xK.length=os.length)
  (v:aS G 59 [.ptr 0 17,f] (.box et cells::os) (.cZ []) (.box et fL::xK)) (u:(ah.box et fL::xK).all (aP (os.length+1))=true):aS G 33 [.ptr 0 17,f] (.box et cells::os) (.cZ []) (.box et fL::xK):=by
 have t:(os.map some).drop os.length=[]:=drop_of_length_le (by simp);have j:(os.map some).take os.length=os.map some:=take_of_length_le (by simp);have b:(xK.map some).take xK.length=xK.map some:=take_of_length_le (by simp);refine oO func33 (by simpa[Z]using u) (hlen:=by simp[Z]) ?_;refine ey (os.length+1) rfl (yK (G:=G) os 0 a) (show bn (os.length+1) [.ptr 0 17]=true by simp[bn,bV]) rfl (by simp[j]) hid rfl ?_;simp only[show((0:Int) !=0)=false from rfl,go_sem];refine ij (os.length+1) rfl v (by simp only[bn,Bool.and_true]at X;show bn (os.length+1) [.ptr 0 17,f]=true;simp[bn,bV,X]) rfl (by simp[j]) hid (by simp[Z]) u rfl ?_;simp only[t,b,go_sem]
end
end
section
variable{na:Nat}
structure dL where
 kind:Int
 a:Int
 b:Int
 op:cr
def cN(e:dL):LV:=.agg [.int e.kind,.int e.a,.int e.b,.int e.op.kind,.int e.op.a,.int e.op.b,.int e.op.c,.int e.op.d,.int e.op.e,.int e.op.f]
def vg(e:dL):List DV:=[i64 e.kind,i64 e.a,i64 e.b,i64 e.op.kind,i64 e.op.a,i64 e.op.b,i64 e.op.c,i64 e.op.d,i64 e.op.e,i64 e.op.f]
def abE(e:dL):ah:=.box 48 [.int e.kind,.int e.a,.int e.b,.int e.op.kind,.int e.op.a,.int e.op.b,.int e.op.c,.int e.op.d,.int e.op.e,.int e.op.f]
def eP(ag:List zm):ah:=.dat 56 10 (ag.map zN)
def jt(b:Bool):Int:=if b then 1 else 0
abbrev O8:=ah×ah×ah×ah×ah×ah×ah×ah
def ox(b:Bool):aS G 108 [.bool b] [] (.int (jt b)) []:=by refine iL func108 ?_;cases b<;>simp only[jt,go_sem]<;>rfl
variable {c:av} {now:Int} {N:bY} {post:List LV} {ag:List zm} {q:O8}
def jh{r:ah×O8}(i:Int)(J:eZ post r):aS G 106 [.ptr 0 0,.int i] (cB c now na N post r) (.bool (decide (0<=i/\i<na))) (cB c now na N post r):=by
 refine Lv func106 (eu J) ?_;simp only[cB,Ez,go_sem];by_cases h0:0<=i;case neg=>simp only[decide_eq_false (show¬i>=0 from h0),h0,false_and,go_sem]
 simp only[decide_eq_true (show i>=0 from h0),h0,go_sem]
def bY.kH(N:bY)(m:bE):Bool×bY:=if N.ps.length>=40\/jd m=false then(false,N)else(true,N.send m)
def bY.rq(N:bY)(i:Int):Bool×bY:=if N.hasB i=true then(true,N.drop i.toNat)else(false,N)
def bY.bu(N:bY)(i:Int):Option bE×bY:=if N.hasB i=true then(uf (N.kD i.toNat),N.drop i.toNat)else(none,N)
def bY.me(N:bY)(i:Int):Bool×bY:=if N.hasB i=false\/N.ps.length>=40 then(false,N)else(true,N.tS i.toNat)
def bY.Vf(N:bY)(i j:Int):Bool×bY:=if N.hasB i=true/\N.EL i.toNat j=true then(true,N.flip i.toNat j)else(false,N)
def kX{N:bY}{i:Int}(h:N.hasB i=true):i=(i.toNat:Int)/\i.toNat<N.ps.length:=by have:=of_decide_eq_true h;omega
section
variable {na:Nat} {r:ah×O8}
def qJ(m:bE)(J:eZ post r):aS G 105 [.ptr 0 11,fG m] (cB c now na N post r) (.bool (N.kH m).1) (cB c now na (N.kH m).2 post r):=by
 unfold bY.kH;by_cases h:N.ps.length>=40\/jd m=false
 .rw [if_pos h];exact Dj m N h J
 .rw [if_neg h];exact Ia m N (by omega) (by simpa usingλe=>h (.inr e)) J
def F_(i:Int)(w:oc N)(J:eZ post r):aS G 113 [.ptr 0 11,.int i] (cB c now na N post r) (.bool (N.rq i).1) (cB c now na (N.rq i).2 post r):=by
 unfold bY.rq;by_cases h:N.hasB i=true
 .rw [if_pos h];obtain⟨U,h2⟩:=kX h;have:=zg (G:=G) (c:=c) (now:=now) (na:=na) N i.toNat h2 w.few J;rwa [<- U]at this
 .rw [if_neg h];exact Dm N i (by simpa using h) J
def fP(i:Int)(w:oc N)(J:eZ post r):aS G 110 [.ptr 0 11,.int i] (cB c now na N post r) (nE (N.bu i).1) (cB c now na (N.bu i).2 post r):=by
 unfold bY.bu;by_cases h:N.hasB i=true
 .rw [if_pos h];obtain⟨U,h2⟩:=kX h;have:=BI (G:=G) (c:=c) (now:=now) (na:=na) N i.toNat h2 w J;rwa [<- U]at this
 .rw [if_neg h];exact yt N i (by simpa using h) J
def Di(i:Int)(w:oc N)(J:eZ post r):aS G 114 [.ptr 0 11,.int i] (cB c now na N post r) (.bool (N.me i).1) (cB c now na (N.me i).2 post r):=by
 unfold bY.me;by_cases h:N.hasB i=false\/N.ps.length>=40
 .rw [if_pos h];exact BF N i h J
 .rw [if_neg h];have T:N.hasB i=true:=by simpa usingλe=>h (.inl e)
  obtain⟨U,h2⟩:=kX T;have:=F8 (G:=G) (c:=c) (now:=now) (na:=na) N i.toNat h2 (by omega) w J;rwa [<- U]at this
def F9(i j:Int)(w:oc N)(e:j<=9223372036854775807)(J:eZ post r):aS G 115 [.ptr 0 11,.int i,.int j] (cB c now na N post r) (.bool (N.Vf i j).1) (cB c now na (N.Vf i j).2 post r):=by
 unfold bY.Vf;by_cases h:N.hasB i=true
 .obtain ⟨U,h2⟩:=kX h;by_cases A:N.EL i.toNat j=true
  .rw [if_pos ⟨h,A⟩];have:=Ic (G:=G) (c:=c) (now:=now) (na:=na) N i.toNat j h2 w A e J;rwa [<- U]at this
  .rw [if_neg (λx=>A x.2)];have:=Dl (G:=G) (c:=c) (now:=now) (na:=na) N i.toNat j h2 w (by simpa using A) e J;rwa [<- U]at this
 .rw [if_neg (λx=>h x.1)];exact BH N i j (by simpa using h) J
def Oi(e:dL)(w:oc N)(J:eZ post r):aS G 65 [.ptr 0 0,cN e] (cB c now na N post r) (.int (jt (N.rq e.a).1)) (cB c now na (N.rq e.a).2 post r):=by have h:=F_ (G:=G) (c:=c) (now:=now) (na:=na) e.a w J;generalize N.rq e.a=z at *;have k:=ox (G:=G) z.1;refine Lv func65 (eu J) ?_;simp only[cB,Ez,cN,go_sem];refine gM 12 rfl h rfl rfl rfl (eu J) rfl (eu J) rfl ?_;simp only[go_sem];refine cc k ?_;refine aD rfl ?_;simp only[cB,Ez,go_sem]
def JX(e:dL)(w:oc N)(J:eZ post r):aS G 66 [.ptr 0 0,cN e] (cB c now na N post r) (.int (jt (N.me e.a).1)) (cB c now na (N.me e.a).2 post r):=by have h:=Di (G:=G) (c:=c) (now:=now) (na:=na) e.a w J;generalize N.me e.a=z at *;have k:=ox (G:=G) z.1;refine Lv func66 (eu J) ?_;simp only[cB,Ez,cN,go_sem];refine gM 12 rfl h rfl rfl rfl (eu J) rfl (eu J) rfl ?_;simp only[go_sem];refine cc k ?_;refine aD rfl ?_;simp only[cB,Ez,go_sem]
def Og(e:dL)(w:oc N)(T:e.b<=9223372036854775807)(J:eZ post r):aS G 67 [.ptr 0 0,cN e] (cB c now na N post r) (.int (jt (N.Vf e.a e.b).1)) (cB c now na (N.Vf e.a e.b).2 post r):=by have h:=F9 (G:=G) (c:=c) (now:=now) (na:=na) e.a e.b w T J;generalize N.Vf e.a e.b=z at *;have k:=ox (G:=G) z.1;refine Lv func67 (eu J) ?_;simp only[cB,Ez,cN,go_sem];refine gM 12 rfl h rfl rfl rfl (eu J) rfl (eu J) rfl ?_;simp only[go_sem];refine cc k ?_;refine aD rfl ?_;simp only[cB,Ez,go_sem]
end
def vI(now:Int):Int:=if IntKind.i64.wrap (now+1)<1000000 then IntKind.i64.wrap (now+1)else 1000000
def N0{r:ah×O8}(e:dL)(J:eZ post r):aS G 60 [.ptr 0 0,cN e] (cB c now na N post r) (.int 0) (cB c (vI now) na N post r):=by refine Lv func60 (eu J) ?_;simp only[cB,Ez,cN,vI,go_sem]
def Vs{r:ah×O8}(e:dL)(h:¬(0<=e.a/\e.a<na))(J:eZ post r):aS G 62 [.ptr 0 0,cN e] (cB c now na N post r) (.int (-4)) (cB c now na N post r):=by have x:=jh (G:=G) (c:=c) (now:=now) (N:=N) (na:=na) e.a J;rw[decide_eq_false h]at x;refine Lv func62 (eu J) ?_;simp only[cB,Ez,cN,go_sem];refine ey 12 rfl x rfl rfl rfl (eu J) rfl ?_;simp only[go_sem]
def Rz(e:dL)(i:Nat)(hi:e.a=i)(h:i<ag.length)(J:eZ post (eP ag,q)):aS G 62 [.ptr 0 0,cN e] (cB c now ag.length N post (eP ag,q)) (.int ((ag.getD i kB).act now).mode) (cB c now ag.length N post (eP (ag.set i ((ag.getD i kB).act now)),q)):=by
 obtain⟨ek,T,eb,eo⟩:=e;dsimp only at hi;subst hi;have x:=jh (G:=G) (c:=c) (now:=now) (N:=N) (na:=ag.length) i J;rw[dT (0<=(i:Int)/\(i:Int)<ag.length)]at x;have t:∀a:List zm,eZ post (eP a,q):=λa=>⟨J.1,by simpa[eP,aP]using J.2⟩
 have V:=aG (f:=zN) kB h;have j:=Q8 (G:=G) (ag.getD i kB) now;refine Lv func62 (eu (t _)) ?_;generalize ag.getD i kB=a at *;generalize a.act now=b at *;obtain⟨p0,m,U,B,o,Z,D,K,u,k⟩:=a;obtain⟨q0,A,O,y,w,S,H,q7,q8,X⟩:=b;simp only[zN]at V;simp only[tR]at j;have hgl:(ag.map zN).length=ag.length:=length_map ..;have E:∀v,((ag.map zN).set i v)[i]? = some v:=λv=>getElem?_set_self (by simpa using h)
 simp only[cB,Ez,cN,eP,map_set,zN,go_sem];refine ey 12 rfl x rfl rfl rfl (eu J) rfl ?_;simp only[h,V,go_sem];refine cc j ?_;simp only[h,V,E,length_set,go_sem];refine aD rfl ?_;simp only[h,E,length_set,go_sem]
def Rq{r:ah×O8}(e:dL)(h:¬(0<=e.a/\e.a<na))(J:eZ post r):aS G 63 [.ptr 0 0,cN e] (cB c now na N post r) (.int 0) (cB c now na N post r):=by have x:=jh (G:=G) (c:=c) (now:=now) (N:=N) (na:=na) e.a J;rw[decide_eq_false h]at x;refine Lv func63 (eu J) ?_;simp only[cB,Ez,cN,go_sem];refine s9 12 rfl x rfl rfl rfl (eu J) rfl ?_;simp only[go_sem];try (refine aD rfl ?_;simp only[go_sem])
def Hi(ag:List zm)(N:bY)(i:Nat):Int×bY:=if(ag.getD i kB).up=true then(jt (N.kH ((ag.getD i kB).tell i)).1,(N.kH ((ag.getD i kB).tell i)).2)else(0,N)
def N_(e:dL)(i:Nat)(hi:e.a=i)(h:i<ag.length)(J:eZ post (eP ag,q)):aS G 63 [.ptr 0 0,cN e] (cB c now ag.length N post (eP ag,q)) (.int (Hi ag N i).1) (cB c now ag.length (Hi ag N i).2 post (eP ag,q)):=by
 obtain⟨w,b,t,y⟩:=e;dsimp only at hi;subst hi;have x:=jh (G:=G) (c:=c) (now:=now) (N:=N) (na:=ag.length) i J;rw[dT (0<=(i:Int)/\(i:Int)<ag.length)]at x;have V:=aG (f:=zN) kB h;have T:=CJ (G:=G) (ag.getD i kB) i;have j:=qJ (G:=G) (c:=c) (now:=now) (na:=ag.length) (N:=N) ((ag.getD i kB).tell i) J;unfold Hi;refine Lv func63 (eu J) ?_;generalize ag.getD i kB=a at *;generalize N.kH (a.tell i)=z at *;have k:=ox (G:=G) z.1;simp only[fG]at j;obtain⟨p0,m,U,B,o,Z,D,K,u,v⟩:=a;simp only[zN]at V;simp only[tR,fG]at T;simp only[cB,Ez,cN,eP,go_sem];refine s9 12 rfl x rfl rfl rfl (eu J) rfl ?_;simp only[h,V,go_sem];cases p0 with
 |false=>simp only[go_sem];try (refine aD rfl ?_;simp only[if_neg (show¬false=true from nofun),go_sem])
 |true=>simp only[h,V,go_sem];refine cc T ?_;refine gM 12 rfl j rfl rfl rfl (eu J) rfl (eu J) rfl ?_;simp only[go_sem];refine cc k ?_;refine aD rfl ?_;simp only[cB,Ez,eP,go_sem]
def Rp{r:ah×O8}(i:Int)(up:Bool)(f:LV)(h:¬(0<=i/\i<na))(J:eZ post r):aS G 116 [.ptr 0 0,.int i,.bool up,f] (cB c now na N post r) (.int (-4)) (cB c now na N post r):=by have x:=jh (G:=G) (c:=c) (now:=now) (N:=N) (na:=na) i J;rw[decide_eq_false h]at x;refine Lv func116 (eu J) ?_;simp only[cB,Ez,go_sem];refine ey 12 rfl x rfl rfl rfl (eu J) rfl ?_;simp only[go_sem]
def Ro(i:Nat)(up:Bool)(f:LV)(h:i<ag.length)(y:(ag.getD i kB).up≠up)(J:eZ post (eP ag,q)):aS G 116 [.ptr 0 0,.int i,.bool up,f] (cB c now ag.length N post (eP ag,q)) (.int (-5)) (cB c now ag.length N post (eP ag,q)):=by have x:=jh (G:=G) (c:=c) (now:=now) (N:=N) (na:=ag.length) i J;rw[dT (0<=(i:Int)/\(i:Int)<ag.length)]at x;have V:=aG (f:=zN) kB h;refine Lv func116 (eu J) ?_;generalize ag.getD i kB=a at *;obtain⟨p0,m,U,B,o,Z,D,K,u,v⟩:=a;simp only[zN]at V;simp only[cB,Ez,eP,go_sem];refine ey 12 rfl x rfl rfl rfl (eu J) rfl ?_;dsimp only at y;simp only[h,V,show(p0==up)=false from beq_eq_false_iff_ne.2 y,go_sem]
def NY(i:Nat)(up:Bool)(k:Nat)(h:i<ag.length)(y:(ag.getD i kB).up=up)(b:zm)(T:aS G k [tR (ag.getD i kB)] [] (tR b) [])(J:eZ post (eP ag,q)):aS G 116 [.ptr 0 0,.int i,.bool up,.d (.fn (.func k) [] [])] (cB c now ag.length N post (eP ag,q)) (.int 1) (cB c now ag.length N post (eP (ag.set i b),q)):=by
 have x:=jh (G:=G) (c:=c) (now:=now) (N:=N) (na:=ag.length) i J;rw[dT (0<=(i:Int)/\(i:Int)<ag.length)]at x;have t:∀a:List zm,eZ post (eP a,q):=λa=>⟨J.1,by simpa[eP,aP]using J.2⟩
 have V:=aG (f:=zN) kB h;refine Lv func116 (eu (t _)) ?_;generalize ag.getD i kB=a at *;obtain⟨p0,m,U,B,o,Z,D,K,j,v⟩:=a;obtain⟨q0,A,O,u,w,S,e,q7,q8,X⟩:=b;dsimp only at y;subst y;simp only[zN]at V;simp only[tR]at T;simp only[cB,Ez,eP,map_set,zN,go_sem];refine ey 12 rfl x rfl rfl rfl (eu J) rfl ?_;simp only[h,V,bne_self_eq_false,go_sem];refine cc T ?_;simp only[h,V,length_set,go_sem];refine dQ trivial
def iy(ag:List zm)(i:Int)(up:Bool)(b:zm->zm):Int×List zm:=
 if¬(0<=i/\i<ag.length)then(-4,ag)else if(ag.getD i.toNat kB).up≠up then(-5,ag)else(1,ag.set i.toNat (b (ag.getD i.toNat kB)))
def DJ(ag:List zm)(i:Int)(up:Bool)(b:zm->zm):(iy ag i up b).2.length=ag.length:=by
 unfold iy;split
 .rfl
 .split
  .rfl
  .exact length_set ..
def Az(i:Int)(up:Bool)(k:Nat)(b:zm->zm)(T:∀a,aS G k [tR a] [] (tR (b a)) [])(J:eZ post (eP ag,q)):aS G 116 [.ptr 0 0,.int i,.bool up,.d (.fn (.func k) [] [])] (cB c now ag.length N post (eP ag,q)) (.int (iy ag i up b).1) (cB c now ag.length N post (eP (iy ag i up b).2,q)):=by
 unfold iy;by_cases h:0<=i/\i<ag.length;case neg=>rw[if_pos h];exact Rp i up _ h J
 rw[if_neg (λx=>x h)];obtain⟨n,rfl⟩:∃n:Nat,i=n:=⟨i.toNat,by omega⟩;rw[toNat_natCast];by_cases y:(ag.getD n kB).up=up;case neg=>rw[if_pos y];exact Ro n up _ (by omega) y J
 rw[if_neg (λx=>x y)];exact NY n up k (by omega) y _ (T _) J
def Oh(e:dL)(J:eZ post (eP ag,q)):aS G 68 [.ptr 0 0,cN e] (cB c now ag.length N post (eP ag,q)) (.int (iy ag e.a true zm.fail).1) (cB c now ag.length N post (eP (iy ag e.a true zm.fail).2,q)):=by
 have h:=Az (G:=G) (c:=c) (now:=now) (N:=N) e.a true 117 zm.fail (λa=>Ms a) J;generalize iy ag e.a true zm.fail=z at *;have t:∀a:List zm,eZ post (eP a,q):=λa=>⟨J.1,by simpa[eP,aP]using J.2⟩
 refine Lv func68 (eu (t _)) ?_;simp only[cB,Ez,cN,go_sem];refine ij 12 rfl h rfl rfl rfl (eu J) rfl (eu (t _)) rfl ?_;simp only[cB,Ez,go_sem]
def aef(e:dL)(J:eZ post (eP ag,q)):aS G 69 [.ptr 0 0,cN e] (cB c now ag.length N post (eP ag,q)) (.int (iy ag e.a false zm.back).1) (cB c now ag.length N post (eP (iy ag e.a false zm.back).2,q)):=by
 have h:=Az (G:=G) (c:=c) (now:=now) (N:=N) e.a false 118 zm.back (λa=>Mt a) J;generalize iy ag e.a false zm.back=z at *;have t:∀a:List zm,eZ post (eP a,q):=λa=>⟨J.1,by simpa[eP,aP]using J.2⟩
 refine Lv func69 (eu (t _)) ?_;simp only[cB,Ez,cN,go_sem];refine ij 12 rfl h rfl rfl rfl (eu J) rfl (eu (t _)) rfl ?_;simp only[cB,Ez,go_sem]
def CK(ag:List zm)(i now:Int):Int×List zm:=if¬(0<=i/\i<ag.length)then(-4,ag)else(((ag.getD i.toNat kB).act now).mode,ag.set i.toNat ((ag.getD i.toNat kB).act now))
def rO(ag:List zm)(N:bY)(i:Int):Int×bY:=if¬(0<=i/\i<ag.length)then(0,N)else Hi ag N i.toNat
def Ol(e:dL)(J:eZ post (eP ag,q)):aS G 62 [.ptr 0 0,cN e] (cB c now ag.length N post (eP ag,q)) (.int (CK ag e.a now).1) (cB c now ag.length N post (eP (CK ag e.a now).2,q)):=by
 unfold CK;by_cases h:0<=e.a/\e.a<ag.length;case neg=>rw[if_pos h];exact Vs e h J
 rw[if_neg (λx=>x h)];exact Rz e e.a.toNat (by omega) (by omega) J
def JY(e:dL)(J:eZ post (eP ag,q)):aS G 63 [.ptr 0 0,cN e] (cB c now ag.length N post (eP ag,q)) (.int (rO ag N e.a).1) (cB c now ag.length (rO ag N e.a).2 post (eP ag,q)):=by
 unfold rO;by_cases h:0<=e.a/\e.a<ag.length;case neg=>rw[if_pos h];exact Rq e h J
 rw[if_neg (λx=>x h)];exact N_ e e.a.toNat (by omega) (by omega) J
end
section
variable{G:tY}(ag:List zm)(e:dL)(x:aF)(o:cr)
def wF(r:Int):Int:=IntKind.i64.wrap (0-r)
def dZ:LV:=.d (.val (.pointer none))
def GO(x:aF):ah:=.box 128 [.int x.c.nodes,.int x.c.bA,.int x.c.cF,.int x.c.gQ,.int x.c.bD,.int x.c.ej,.int x.c.deadline,.int x.c.room,.int x.c.fT,.ptr 5 0,.ptr 9 0,.ptr 4 0,bH x.s.nodes,qM x.s.jobs,.int x.s.goal,.int x.s.prior,.int x.s.mode,.int x.s.term,.sl 8 x.lines.length 26 0 x.lines.length,.bool x.down,.int x.dM]
def tc(n:Nat)(s:Int):ah:=.box 123 [.sl 6 n 1 0 n,.d (.val (.slice none 0 0)),.int s]
def om(room term:Int)(sh:List eE)(wr:Int):ah:=.box 119 (.int room::.int term::(sh.flatMap Nq++[.int wr]))
def qh(l:List Int):ah:=.dat 5 1 (ax l)
def GN(j:gP):ah:=.box 155 [.ptr 5 0,.ptr 10 0,.ptr 11 0,.int j.cnt,.int j.cA]
def Da(j:gP):ah:=.box 216 [.ptr 5 0,.int 0,.int ((j.n / 4:Nat):Int)]
def Db(j:gP):ah:=.box 218 [.ptr 5 0,.int ((2*(j.n / 4):Nat):Int),.int ((j.n-2*(j.n / 4):Nat):Int),.int j.us]
def q8(x:aF):O8:=(om x.room x.term x.sh x.wr,tc x.j.n x.j.s,qh x.j.l,GO x,aL x.lines,GN x.j,Da x.j,Db x.j)
def cI(xv:LV)(steps d:Int)(tb:List LV):List LV:=.ptr 4 0::.ptr 5 0::xv::.int steps::.d (.val (.int .u32 d))::.d (.val (.int .i32 0))::.d (.val (.int .u32 0))::tb
def wU(c:av)(now:Int)(ag:List zm)(N:bY)(steps d:Int)(tb:List LV)(x:aF):List ah:=cB c now ag.length N (cI (.ptr 7 0) steps d tb) (eP ag,q8 x)
def wN(c:av)(now:Int)(ag:List zm)(N:bY)(steps d:Int)(tb:List LV)(n:Nat)(l:List Int)(s room term:Int)(sh:List eE)(wr:Int)(g:ah×ah×ah×ah×ah):List ah:=cB c now ag.length N (cI dZ steps d tb) (eP ag,om room term sh wr,tc n s,qh l,g)
def Ds(g:ah×ah×ah×ah×ah):Prop:=[g.1,g.2.1,g.2.2.1,g.2.2.2.1,g.2.2.2.2].all (aP 12)=true
def rU(steps d:Int){tb:List LV}(u:bn 12 tb=true)(x:aF):eZ (cI (.ptr 7 0) steps d tb) (eP ag,q8 x):=by refine⟨by simp[cI,bn,bV,LV.int,u],?_⟩;simp[q8,eP,om,tc,qh,GO,GN,Da,Db,aL,aP,bn,bV,eB,gV,LV.int,LV.bool,bH,qM]
def rN(steps d:Int){tb:List LV}(u:bn 12 tb=true)(n:Nat)(l:List Int)(s room term:Int)(sh:List eE)(wr:Int){g:ah×ah×ah×ah×ah}(V:Ds g):eZ (cI dZ steps d tb) (eP ag,om room term sh wr,tc n s,qh l,g):=by refine⟨by simp[cI,dZ,bn,bV,LV.int,u],?_⟩;unfold Ds at V;simp only[all_cons,all_nil,Bool.and_true,Bool.and_eq_true]at V ⊢;exact⟨rfl,by simp[om,aP,bn,bV,eB,gV,LV.int],rfl,rfl,V⟩
variable {c:av} {now:Int} {ag:List zm} {N:bY} {steps d:Int} {tb:List LV}
def Ry(h:CL x)(hd:x.down=false)(e:dL)(u:bn 12 tb=true):aS dh 70 [.ptr 0 0,cN e] (wU c now ag N steps d tb x) (.int (wF (x.C8 e.op))) (wU c now ag N steps d tb (x.Rk e.op now)):=by have b:=gd.up (XX x h hd e.op now) kP;generalize x.Rk e.op now=y at *;unfold wF;generalize x.C8 e.op=r at *;simp only[qD]at b;refine Lv func70 (eu (rU ag steps d u y)) ?_;simp only[wU,cB,Ez,cN,eP,q8,cI,om,tc,qh,GO,GN,Da,Db,aL,go_sem];simp only[bX,dR,aL,sA]at b;refine fV [7,9,5,10,11,6,4,8] b ?_;refine dQ trivial
def vn: aS G 53 [dZ] [] (.bool false) []:=by refine MG func53 ?_;simp only[dZ,go_sem]
def Qp(now:Int):aS G 119 [dZ,qD o,.int now] [] (.int 9) []:=by have h:=vn (G:=G);simp only[dZ]at h;refine MG func119 ?_;simp only[dZ,go_sem];refine a_ h trivial
def G_(now keep:Int):aS G 121 [dZ,qD o,.int now,.int keep] [] (.int 9) []:=by have h:=vn (G:=G);simp only[dZ]at h;refine MG func121 ?_;simp only[dZ,go_sem];refine a_ h trivial
def IE(m:bE)(now:Int):aS G 111 [dZ,fG m,.int now] [] (.bool false) []:=by have h:=vn (G:=G);simp only[dZ]at h;refine xS func111 (by decide) Va rfl rfl ?_;simp only[dZ,Xe,go_sem];refine cc h trivial
section
variable {G:tY} {n:Nat} {l:List Int} {s room term:Int} {sh:List eE} {wr:Int} {g:ah×ah×ah×ah×ah}
def Kg(u:bn 12 tb=true)(V:Ds g):aS G 70 [.ptr 0 0,cN e] (wN c now ag N steps d tb n l s room term sh wr g) (.int (-9)) (wN c now ag N steps d tb n l s room term sh wr g):=by have b:=Qp (G:=G) e.op now;simp only[qD,dZ]at b;refine Lv func70 (eu (rN ag steps d u n l s room term sh wr V)) ?_;simp only[wN,cB,Ez,cN,eP,cI,dZ,go_sem];refine cc b ?_;exact(show IntKind.i64.wrap (-9) = -9 by decide)
def Fs(u:bn 12 tb=true)(V:Ds g):aS G 71 [.ptr 0 0,cN e] (wN c now ag N steps d tb n l s room term sh wr g) (.int (-9)) (wN c now ag N steps d tb n l s room term sh wr g):=by refine Lv func71 (eu (rN ag steps d u n l s room term sh wr V)) ?_;simp only[wN,cB,Ez,cN,eP,cI,dZ,go_sem]
def AG(u:bn 12 tb=true)(V:Ds g):aS G 61 [.ptr 0 0,cN e] (wN c now ag N steps d tb n l s room term sh wr g) (.int (-9)) (wN c now ag N steps d tb n l s room term sh wr g):=by refine Lv func61 (eu (rN ag steps d u n l s room term sh wr V)) ?_;simp only[wN,cB,Ez,cN,eP,cI,dZ,go_sem]
def GS(u:bn 12 tb=true)(V:Ds g):aS G 72 [.ptr 0 0,cN e] (wN c now ag N steps d tb n l s room term sh wr g) (.int (-9)) (wN c now ag N steps d tb n l s room term sh wr g):=by have b:=G_ (G:=G) e.op now e.a;simp only[qD,dZ]at b;refine Lv func72 (eu (rN ag steps d u n l s room term sh wr V)) ?_;simp only[wN,cB,Ez,cN,eP,cI,dZ,go_sem];refine cc b ?_;exact(show IntKind.i64.wrap (-9) = -9 by decide)
def gX(x:aF):ah×ah×ah×ah×ah:=(GO x,aL x.lines,GN x.j,Da x.j,Db x.j)
def IQ:Ds (gX x):=by simp[Ds,gX,GO,GN,Da,Db,aL,aP,bn,bV,LV.int,LV.bool,bH,qM]
def Ke(Z:x.j.l.length=x.j.n)(e:dL)(u:bn 12 tb=true):aS G 71 [.ptr 0 0,cN e] (wU c now ag N steps d tb x) (.int 1) (wN c now ag N steps d tb x.j.n x.j.l x.j.s x.room x.term x.sh x.wr (gX x)):=by have b:=nQ (G:=G) x.j.l x.j.s e.a;refine Lv func71 (eu (rN ag steps d u _ _ _ _ _ _ _ (IQ x))) ?_;simp only[wO,Z]at b;simp only[wU,wN,cB,Ez,cN,eP,q8,gX,cI,dZ,om,tc,qh,GO,GN,Da,Db,aL,go_sem];refine fV [5,6] b ?_;refine dQ trivial
def NZ(h:CL x)(hd:x.down=false)(e:dL)(u:bn 12 tb=true):aS dh 72 [.ptr 0 0,cN e] (wU c now ag N steps d tb x) (.int (wF (x.C8 e.op))) (wN c now ag N steps d tb (x.gI e.op e.a).j.n (x.gI e.op e.a).j.l (x.gI e.op e.a).j.s (x.gI e.op e.a).room (x.gI e.op e.a).term (x.gI e.op e.a).sh (x.gI e.op e.a).wr (gX (x.gI e.op e.a))):=by have b:=gd.up (RH x h hd e.op now e.a) kP;generalize x.gI e.op e.a=y at *;unfold wF;generalize x.C8 e.op=r at *;simp only[qD]at b;refine Lv func72 (eu (rN ag steps d u _ _ _ _ _ _ _ (IQ y))) ?_;simp only[wU,wN,cB,Ez,cN,eP,q8,gX,cI,dZ,om,tc,qh,GO,GN,Da,Db,aL,go_sem];simp only[bX,dR,aL,sA]at b;refine fV [7,9,5,10,11,6,4,8] b ?_;refine dQ trivial
end
end
section
variable(e:dL)(x:aF)
variable {c:av} {now:Int} {ag:List zm} {N:bY} {steps d:Int} {tb:List LV}
def jD(N:bY)(l:List bE):bY:=l.foldl (λN m=>(N.kH m).2) N
def UG(c:av)(now:Int)(ag:List zm)(N:bY)(steps d:Int)(tb:List LV)(y:aF)(e:dL)(o:cr)(h:List bE)(k:Nat):St:=⟨[(0,.ptr 0 0),(5,.ptr 13 0),(26,Nh h),(27,.int h.length),(28,.int k)],(wU c now ag (jD N (h.take k)) steps d tb y++[abE e,pZ o]).map some⟩
def Ft(y:aF)(o:cr)(h:List bE)(A:h.length<=1000)(b:aS dh 104 [.ptr 0 0,.int now] (bX x) (.cZ [qD o,Nh h]) (bX y))(e:dL)(u:bn 12 tb=true) :
  aS dh 61 [.ptr 0 0,cN e] (wU c now ag N steps d tb x) (.int o.kind) (wU c now ag (jD N h) steps d tb y):=by
 have J:=rU ag steps d u y;refine Lv func61 (eu J) ?_;simp only[qD,Nh]at b;simp only[bX,dR,aL,sA]at b;simp only[wU,cB,Ez,cN,eP,q8,cI,om,tc,qh,GO,GN,Da,Db,aL,go_sem];refine fV [7,9,5,10,11,6,4,8] b ?_;refine aD rfl ?_;simp only[go_sem];refine aQ [0,5,26,27,28] [] (λk:Nat=>k<=h.length) (λk=>h.length-k) (UG c now ag N steps d tb y e o h) 0 ?_ (zero_le _) (λk hk=>?_)
 .simp only[UG,wU,cB,Ez,abE,pZ,eP,q8,cI,om,tc,qh,GO,GN,Da,Db,aL,jD,foldl_nil,Int.natCast_zero,go_sem,sA]
 by_cases X:k<h.length;case neg=>
  obtain rfl:k=h.length:=by omega
  simp only[UG,wU,cB,Ez,abE,pZ,eP,q8,cI,om,tc,qh,GO,GN,Da,Db,aL,take_length,Int.lt_irrefl,go_sem,sA]
 have V:=aG (f:=jQ) uw X;have j:=qJ (G:=dh) (c:=c) (now:=now) (na:=ag.length) (N:=jD N (h.take k)) (h.getD k uw) J;have t:jD N (h.take (k+1))=((jD N (h.take k)).kH (h.getD k uw)).2:=by unfold jD;rw[take_add_one,foldl_append];simp[getD,X]
 generalize h.getD k uw=m at *;simp only[jQ,i64]at V;simp only[fG]at j;simp only[UG,wU,cB,Ez,abE,pZ,eP,q8,cI,om,tc,qh,GO,GN,Da,Db,aL,dT ((k:Int)<(h.length:Nat)),X,V,go_sem,sA];refine gM 12 rfl j rfl rfl rfl (eu J) rfl (eu J) rfl ?_;rw[<- t];simp only[go_sem];refine dQ ?_;refine aY (k+1) ?_ ?_ (by omega) (by omega)
 .have D:(cB c now ag.length (jD N (h.take (k+1))) (cI (.ptr 7 0) steps d tb) (eP ag,q8 y)++[abE e,pZ o]).all (aP 14)=true:=by rw[all_append,eN (by decide) (eu J)];rfl
  exact⟨rfl,M0 D,by simp[cB]⟩
 .simp only[UG,wU,cB,Ez,abE,pZ,eP,q8,cI,om,tc,qh,GO,GN,Da,Db,aL,wS k,go_sem,sA]
section
variable {G:tY} {xv:LV} {room term:Int} {sh:List eE} {wr:Int} {q7:ah×ah×ah×ah×ah×ah×ah}
def wD(c:av)(now:Int)(ag:List zm)(N:bY)(post:List LV)(room term:Int)(sh:List eE)(wr:Int)(q7:ah×ah×ah×ah×ah×ah×ah):List ah:=cB c now ag.length N post (eP ag,om room term sh wr,q7)
def rD(post:List LV)(q7:ah×ah×ah×ah×ah×ah×ah):Prop:=bn 12 post=true/\[q7.1,q7.2.1,q7.2.2.1,q7.2.2.2.1,q7.2.2.2.2.1,q7.2.2.2.2.2.1,q7.2.2.2.2.2.2].all (aP 12)=true
variable {post:List LV}
def KF(h:rD post q7)(ag:List zm)(room term:Int)(sh:List eE)(wr:Int):eZ post (eP ag,om room term sh wr,q7):=by refine⟨h.1,?_⟩;rw[all_cons,all_cons,h.2];simp[eP,om,aP,bn,bV,eB,gV,LV.int]
def Fp(w:oc N)(h:(N.bu e.a).1=none)(hr:rD post q7):aS G 64 [.ptr 0 0,cN e] (wD c now ag N post room term sh wr q7) (.int 0) (wD c now ag (N.bu e.a).2 post room term sh wr q7):=by have J:=KF hr ag room term sh wr;have hd:=fP (G:=G) (c:=c) (now:=now) (na:=ag.length) e.a w J;rw[h]at hd;generalize(N.bu e.a).2=M at *;simp only[nE,fG,Nb,sN]at hd;refine Lv func64 (eu J) ?_;simp only[wD,cB,Ez,cN,go_sem];refine gM 12 rfl hd rfl rfl rfl (eu J) rfl (eu J) rfl ?_;simp only[cB,Ez,go_sem];refine dQ trivial
def GX(w:oc N)(m:bE)(h:(N.bu e.a).1=some m)(hk:m.kind≠6)(A:¬(0<=m.node/\m.node<ag.length))(hr:rD post q7):aS G 64 [.ptr 0 0,cN e] (wD c now ag N post room term sh wr q7) (.int 0) (wD c now ag (N.bu e.a).2 post room term sh wr q7):=by have J:=KF hr ag room term sh wr;have hd:=fP (G:=G) (c:=c) (now:=now) (na:=ag.length) e.a w J;rw[h]at hd;generalize(N.bu e.a).2=M at *;have x:=jh (G:=G) (c:=c) (now:=now) (N:=M) (na:=ag.length) m.node J;rw[decide_eq_false A]at x;simp only[nE,fG,sS]at hd;refine Lv func64 (eu J) ?_;simp only[wD,cB,Ez,cN,go_sem];refine gM 12 rfl hd rfl rfl rfl (eu J) rfl (eu J) rfl ?_;simp only[cB,Ez,go_sem];refine aD rfl ?_;simp only[beq_eq_false_iff_ne.2 hk,go_sem];refine ey 12 rfl x rfl rfl rfl (eu J) rfl ?_;simp only[go_sem]
def Kc(w:oc N)(m:bE)(h:(N.bu e.a).1=some m)(hk:m.kind≠6)(i:Nat)(hi:m.node=i)(A:i<ag.length)(D:¬(ag.getD i kB).fits m)(S:post[0]? = some (.ptr 4 0))(hr:rD post q7):aS G 64 [.ptr 0 0,cN e] (wD c now ag N post room term sh wr q7) (.int 0) (wD c now ag (N.bu e.a).2 post room term sh wr q7):=by
 obtain⟨p0,ps,rfl⟩:∃p0 ps,post=p0::ps:=by cases post with
  |nil=>cases S
  |cons a b=>exact⟨a,b,rfl⟩
 obtain rfl:p0=.ptr 4 0:=by simpa using S
 have J:=KF hr ag room term sh wr;have hd:=fP (G:=G) (c:=c) (now:=now) (na:=ag.length) e.a w J;rw[h]at hd;generalize(N.bu e.a).2=M at *;have x:=jh (G:=G) (c:=c) (now:=now) (N:=M) (na:=ag.length) m.node J;rw[dT (0<=m.node/\m.node<ag.length)]at x;have V:=aG (f:=zN) kB A;have u:=GJ (G:=G) (ag.getD i kB) m.node m now room term sh wr D;have k:=ox (G:=G) false;generalize ag.getD i kB=a at *;obtain⟨t,K,T,U,v,H,y,E,X,j⟩:=a;obtain⟨m0,o,O,Z,m4,m5,m6,m7,m8,m9,B⟩:=m;dsimp only at hi hk;subst hi;simp only[zN]at V;simp only[tR,fG,uw,eF,sA]at u;simp only[nE,fG,sS]at hd;refine Lv func64 (eu J) ?_;simp only[wD,cB,Ez,cN,eP,om,go_sem];refine gM 12 rfl hd rfl rfl rfl (eu J) rfl (eu J) rfl ?_;simp only[cB,Ez,eP,om,go_sem];refine aD rfl ?_;simp only[beq_eq_false_iff_ne.2 hk,go_sem];refine ey 12 rfl x rfl rfl rfl (eu J) rfl ?_;simp only[A,V,go_sem];refine fV [4] u ?_;refine dQ ?_;refine a_ k ?_;rfl
def Fo(w:oc N)(m:bE)(h:(N.bu e.a).1=some m)(hk:m.kind≠6)(i:Nat)(hi:m.node=i)(A:i<ag.length)(D:(ag.getD i kB).fits m)(O:iH sh)(z:zm×List eE×Int)(j:((ag.getD i kB).seen m).tN m now room term sh wr=z)(S:post[0]? = some (.ptr 4 0))(hr:rD post q7) :
  aS G 64 [.ptr 0 0,cN e] (wD c now ag N post room term sh wr q7) (.int 1) (wD c now (ag.set i z.1) ((N.bu e.a).2.kH (z.1.tell i)).2 post room term z.2.1 z.2.2 q7):=by
 obtain⟨p0,ps,rfl⟩:∃p0 ps,post=p0::ps:=by cases post with
  |nil=>cases S
  |cons a b=>exact⟨a,b,rfl⟩
 obtain rfl:p0=.ptr 4 0:=by simpa using S
 have J:=KF hr ag room term sh wr;have t:=KF hr (ag.set i z.1) room term z.2.1 z.2.2;have hd:=fP (G:=G) (c:=c) (now:=now) (na:=ag.length) e.a w J;rw[h]at hd;have E:∀v,((ag.map zN).set i v)[i]? = some v:=λv=>getElem?_set_self (by simpa using A)
 generalize(N.bu e.a).2=M at *;have x:=jh (G:=G) (c:=c) (now:=now) (N:=M) (na:=ag.length) m.node J;rw[dT (0<=m.node/\m.node<ag.length)]at x;have V:=aG (f:=zN) kB A;have u:=Mq (G:=G) (ag.getD i kB) m.node m now room term sh wr D O z j;rw[hi]at u x;have hsd:=qJ (G:=G) (c:=c) (now:=now) (na:=(ag.set i z.1).length) (N:=M) (z.1.tell i) t;have k:=ox (G:=G) true;clear j D;obtain⟨b,sh2,wr2⟩:=z;generalize hte:b.tell i=te at *;generalize ag.getD i kB=a at *;obtain⟨y,K,T,U,o,H,a6,a7,a8,a9⟩:=a;obtain⟨b0,X,B,Z,b4,b5,b6,b7,b8,b9⟩:=b;obtain⟨m0,m1,m2,m3,m4,m5,m6,m7,m8,m9,m10⟩:=m;dsimp only at hi hk hte u hsd t;subst hi;simp only[zN]at V;simp only[tR,fG,eF,sA]at u;simp only[nE,fG,sS]at hd;simp only[fG,length_set]at hsd;refine Lv func64 (eu t) ?_;simp only[wD,cB,Ez,cN,eP,om,length_set,go_sem];refine gM 12 rfl hd rfl rfl rfl (eu J) rfl (eu J) rfl ?_;simp only[cB,Ez,eP,om,go_sem];refine aD rfl ?_;simp only[beq_eq_false_iff_ne.2 hk,go_sem];refine ey 12 rfl x rfl rfl rfl (eu J) rfl ?_;simp only[A,V,go_sem];refine fV [4] u ?_;refine aD rfl ?_;simp only[A,V,length_set,go_sem];refine dQ ?_;refine gM 12 rfl hsd rfl rfl (by simp only[cB,Ez,eP,om,map_set,zN,go_sem]) (eu t) rfl (eu t) rfl ?_;simp only[cB,Ez,eP,om,go_sem];refine dQ ?_;refine a_ k ?_;rfl
def Fq(S:x.down=false)(B:x.lines.length=x.s.nodes.length)(e:dL)(w:oc N)(m:bE)(h:(N.bu e.a).1=some m)(hk:m.kind=6)(u:bn 12 tb=true) :
  aS G 64 [.ptr 0 0,cN e] (wU c now ag N steps d tb x) (.int (jt (x.zn m))) (wU c now ag (N.bu e.a).2 steps d tb (x.jw m now)):=by
 have J:=rU ag steps d u x;have t:=rU ag steps d u (x.jw m now);have hd:=fP (G:=G) (c:=c) (now:=now) (na:=ag.length) e.a w J;rw[h]at hd;generalize(N.bu e.a).2=M at *;have j:=TY (G:=G) x S B m now;have k:=ox (G:=G) (x.zn m);generalize x.jw m now=y at *;generalize x.zn m=r at *;obtain⟨v,o,O,D,A,E,H,U,K,T,b⟩:=m;dsimp only at hk;subst hk;simp only[nE,fG,sS]at hd;simp only[fG,bX,dR,aL,sA]at j;refine Lv func64 (eu t) ?_;simp only[wU,cB,Ez,cN,eP,q8,cI,om,tc,qh,GO,GN,Da,Db,aL,go_sem];refine gM 12 rfl hd rfl rfl rfl (eu J) rfl (eu J) rfl ?_;simp only[cB,Ez,eP,q8,cI,om,tc,qh,GO,GN,Da,Db,aL,go_sem];refine aD rfl ?_;simp only[go_sem];refine fV [7,9,5,10,11,6,4,8] j ?_;refine cc k ?_;refine dQ trivial
def AF(w:oc N)(m:bE)(h:(N.bu e.a).1=some m)(hk:m.kind=6)(u:bn 12 tb=true)(hr:rD (cI dZ steps d tb) q7) :
  aS G 64 [.ptr 0 0,cN e] (wD c now ag N (cI dZ steps d tb) room term sh wr q7) (.int 0) (wD c now ag (N.bu e.a).2 (cI dZ steps d tb) room term sh wr q7):=by
 have J:=KF hr ag room term sh wr;have hd:=fP (G:=G) (c:=c) (now:=now) (na:=ag.length) e.a w J;rw[h]at hd;generalize(N.bu e.a).2=M at *;have x:=IE (G:=G) m now;have k:=ox (G:=G) false;obtain⟨v,o,t,D,A,E,H,U,K,T,B⟩:=m;dsimp only at hk;subst hk;simp only[nE,fG,sS]at hd;simp only[fG,dZ]at x;refine Lv func64 (eu J) ?_;simp only[wD,cB,Ez,cN,eP,cI,dZ,om,go_sem];refine gM 12 rfl hd rfl rfl rfl (eu J) rfl (eu J) rfl ?_;simp only[cB,Ez,eP,cI,dZ,om,go_sem];refine aD rfl ?_;simp only[go_sem];refine cc x ?_;refine cc k ?_;rfl
end
end
section
def Vu(x:aF):ah:=.box 128 [.int x.c.nodes,.int x.c.bA,.int x.c.cF,.int x.c.gQ,.int x.c.bD,.int x.c.ej,.int x.c.deadline,.int x.c.room,.int x.c.fT,.ptr 5 0,.ptr 14 0,.ptr 4 0,bH x.s.nodes,qM x.s.jobs,.int x.s.goal,.int x.s.prior,.int x.s.mode,.int x.s.term,.sl 13 x.lines.length 26 0 x.lines.length,.bool x.down,.int x.dM]
def Vt(j:gP):ah:=.box 155 [.ptr 5 0,.ptr 15 0,.ptr 16 0,.int j.cnt,.int j.cA]
def iw(x:aF):List ah:=[Vu x,aL x.lines,Vt x.j,Da x.j,Db x.j]
def wB(c:av)(now:Int)(ag:List zm)(N:bY)(steps d:Int)(tb:List LV)(x:aF)(g:ah×ah×ah×ah×ah):List ah:=cB c now ag.length N (cI (.ptr 12 0) steps d tb) (eP ag,om x.room x.term x.sh x.wr,tc x.j.n x.j.s,qh x.j.l,g)
variable {c:av} {now:Int} {ag:List zm} {N:bY} {steps d:Int} {tb:List LV}
def GY{G:tY}(x:aF)(e:dL)(u:bn 12 tb=true):aS G 73 [.ptr 0 0,cN e] (wU c now ag N steps d tb x) (.int (-5)) (wU c now ag N steps d tb x):=by refine Lv func73 (eu (rU ag steps d u x)) ?_;simp only[wU,cB,Ez,cN,eP,q8,cI,om,tc,qh,GO,GN,Da,Db,aL,go_sem]
def xP(y:aF){g:ah×ah×ah×ah×ah}(V:Ds g)(u:bn 12 tb=true):(wB c now ag N steps d tb y g++iw y).all (aP 17)=true:=by
 obtain⟨g0,g1,g2,g3,g4⟩:=g;unfold Ds at V;simp only[all_cons,all_nil,Bool.and_true,Bool.and_eq_true]at V;obtain⟨t,K,T,U,v⟩:=V;have b:∀ob,aP 12 ob=true->aP 17 ob=true:=λob h=>EB (by decide) ob h
 have hi:bn 17 tb=true:=gv (by decide) tb u;have E:bn 17 (N.ps.flatMap qc)=true:=gv (by decide) _ (v_ N.ps);simp only[wB,iw,cB,all_cons,all_nil,Bool.and_true,Bool.true_and,b _ t,b _ K,b _ T,b _ U,b _ v,sA];simp[Ez,eP,cI,om,tc,qh,Vu,Vt,Da,Db,aL,aP,bn,bV,eB,gV,LV.int,LV.bool,bH,qM,hi,E]
section
variable {n:Nat} {l:List Int} {s room term:Int} {sh:List eE} {wr:Int} {g:ah×ah×ah×ah×ah}
def Oj(Z:l.length=n)(y:aF)(D:aS dh 28 [eD c,.ptr 0 0,.ptr 2 0,.int now] (wO l s++eF room term sh wr) (.cZ [.ptr 3 0,.int 0]) (uq y))(e:dL)(u:bn 12 tb=true)(V:Ds g) :
  aS dh 73 [.ptr 0 0,cN e] (wN c now ag N steps d tb n l s room term sh wr g) (.int 0) (wB c now ag N steps d tb y g++iw y):=by
 have J:=rN ag steps d u n l s room term sh wr V;have S:=V;obtain⟨g0,g1,g2,g3,g4⟩:=g;refine tW func73 ?_;simp only[wO,eF,Z,eD,sA]at D;simp only[uq,ET,aL,sA]at D;simp only[wN,cB,Ez,cN,eP,cI,dZ,om,tc,qh,go_sem];refine fV [5,6,4] D ?_;refine dQ ?_;have b:∀o,o<12->gz (List.range 12++range' 13 5) 0 o=o:=by decide
 have x:∀ob:ah,aP 12 ob=true->bP (gz (List.range 12++range' 13 5) 0) ob=ob:=λob h=>jZ b ob h
 unfold Ds at V;simp only[all_cons,all_nil,Bool.and_true,Bool.and_eq_true]at V;obtain⟨t,K,T,U,v⟩:=V;have lA:(wB c now ag N steps d tb y (g0,g1,g2,g3,g4)).length=12:=rfl;have lB:(iw y).length=5:=rfl;have p12:gz (List.range 12++range' 13 5) 0 12=13:=by decide
 have p13:gz (List.range 12++range' 13 5) 0 13=14:=by decide
 have p14:gz (List.range 12++range' 13 5) 0 14=15:=by decide
 have p15:gz (List.range 12++range' 13 5) 0 15=16:=by decide
 have p16:gz (List.range 12++range' 13 5) 0 16=17:=by decide
 have p0:=b 0 (by decide);have m:=b 1 (by decide);have j:=b 2 (by decide);have p3:=b 3 (by decide);have p4:=b 4 (by decide);have p5:=b 5 (by decide);have p6:=b 6 (by decide);have H:=mI b tb u;have hpc:=mI b _ (v_ N.ps);have k:=x _ t;have X:=x _ K;have w:=x _ T;have E:=x _ U;have O:=x _ v;refine Zg (A:=wB c now ag N steps d tb y (g0,g1,g2,g3,g4)) (B:=iw y) 13 rfl rfl (show 12<=13 by decide) ?_ ?_ ?_
 .rw [lA,lB];generalize gz (List.range 12++range' 13 5) 0=π at *;simp only[wB,cB,map_cons,map_nil,take_succ_cons,List.take_zero,k,X,w,E,O];simp only[Ez,eP,cI,om,tc,qh,bP,kC,rn,gF,kQ,H,hpc,k,X,w,E,O,p0,m,j,p3,p4,p5,p6,p12,LV.int]
 .rw [lA,lB];generalize gz (List.range 12++range' 13 5) 0=π at *;simp only[iw,Vu,Vt,Da,Db,aL,map_cons,map_nil,drop_succ_cons,drop_zero,take_succ_cons,List.take_zero,bP,kC,rn,p4,p5,p13,p14,p15,p16,LV.int,LV.bool,bH,qM]
 .exact xP y S u
def Fu(Z:l.length=n)(z:Int)(y:aF)(b:y.j.l.length=n)(D:aS dh 28 [eD c,.ptr 0 0,.ptr 2 0,.int now] (wO l s++eF room term sh wr) (.cZ [wE,.int z]) (wO y.j.l y.j.s++eF y.room y.term y.sh y.wr))(e:dL)(u:bn 12 tb=true)(V:Ds g) :
  aS dh 73 [.ptr 0 0,cN e] (wN c now ag N steps d tb n l s room term sh wr g) (.int (wF z)) (wN c now ag N steps d tb n y.j.l y.j.s y.room y.term y.sh y.wr g):=by
 refine Lv func73 (eu (rN ag steps d u n _ _ _ _ _ _ V)) ?_;simp only[wO,eF,Z,b,eD,wE,sA]at D;simp only[wN,cB,Ez,cN,eP,cI,dZ,om,tc,qh,wF,go_sem];refine fV [5,6,4] D ?_;refine dQ trivial
end
end
section
variable(os:List ah)(e:dL)(kn:Bool)
def afa:=qx Tryz.f34
def aeY:bM prog Tryz.f34=some afa:=by kernel_rfl
def nF:LV:=.d (.val .nilFunc)
def CZ(k:Nat):LV:=.d (.fn (.func k) [] [])
def VF:List LV:=[nF,nF,nF,nF,nF,nF,nF,nF,nF,nF,nF,nF,nF,nF,nF]
def uD:List LV:=[nF,CZ 60,CZ 61,CZ 62,CZ 63,CZ 64,CZ 65,CZ 66,CZ 67,CZ 68,CZ 69,CZ 70,CZ 71,CZ 72,CZ 73]
def Px:aS G 35 [] [] (.agg uD) []:=by refine MG func35 ?_;simp only[uD,nF,CZ,go_sem]
def tL(c:av)(now:Int)(na:Nat)(l:LV)(a:Int)(xv:LV)(steps d lk:Int)(tb:List LV):List LV:=.int c.nodes::.int c.bA::.int c.cF::.int c.gQ::.int c.bD::.int c.ej::.int c.deadline::.int c.room::.int c.fT::.int now::.sl 3 na 10 0 na::l::.int a::.ptr 4 0::.ptr 5 0::xv::.int steps::.d (.val (.int .u32 d))::.d (.val (.int .i32 lk))::.d (.val (.int .u32 0))::tb
section
variable {c:av} {now:Int} {na:Nat} {l:LV} {a:Int} {xv:LV} {steps d lk:Int} {tb:List LV}
def z_{k:Nat}(hk:6<=k)(Z:bV k l=true)(S:bV k xv=true)(u:bn k tb=true):bn k (tL c now na l a xv steps d lk tb)=true:=by
 have h:∀i,i<6->i<k:=λi hi=>by omega
 simp[tL,bn,bV,LV.int,Z,S,u,h]
def Hr(b:os.length=11)(hi:bV 13 l=true)(S:bV 13 xv=true)(j:os.all (aP 13)=true) :
  aS G 34 [.ptr 12 0] (.box 85 (tL c now na l a xv steps d lk VF)::(os++[.box 27 [.ptr 0 0]])) (.cZ []) (.box 85 (tL c now na l a xv steps d lk uD)::(os++[.box 27 [.ptr 0 0]])):=by
 have hk:=Px (G:=G);simp only[uD,nF,CZ]at hk
 match os,b with
 |[U,t,v,u,w,E,e,k,h,m,o],_=>
 refine eY func34 (by decide) aeY rfl rfl ?_ rfl ?_
 .show (ah.box _ _::_).all (aP 13)=true;rw[all_cons,all_append,j];simp only[aP,z_ (show 6<=13 by decide) hi S (show bn 13 uD=true from rfl)];rfl
 simp only[tL,VF,uD,nF,CZ,afa,go_sem,sA];refine cc hk ?_;refine dQ trivial
def clV:LV:=.fn (.func 34) [] [.ptr 12 0]
def HV(b:os.length=11)(hi:bV 13 l=true)(S:bV 13 xv=true)(j:os.all (aP 13)=true)(kn:Bool) :
  aS G 33 [.ptr 0 17,clV] (.box 85 (tL c now na l a xv steps (jt kn) 0 (if kn then uD else VF))::(os++[.box 27 [.ptr 0 0]])) (.cZ []) (.box 85 (tL c now na l a xv steps 1 0 uD)::(os++[.box 27 [.ptr 0 0]])):=by
 have Z:(os++[ah.box 27 [.ptr 0 0]]).length+1=13:=by simp[b]
 have hid:∀d lk tb,bn 13 tb=true->(ah.box 85 (tL c now na l a xv steps d lk tb)::(os++[.box 27 [.ptr 0 0]])).all (aP ((os++[ah.box 27 [.ptr 0 0]]).length+1))=true:=by intro d lk tb u;rw[Z,all_cons,all_append,j];simp only[aP,z_ (show 6<=13 by decide) hi S u];rfl
 cases kn with
 |true=>exact L4 1 (by decide) rfl _ (hid _ _ _ rfl)
 |false=>
  have K:=Hr (G:=G) (c:=c) (now:=now) (na:=na) (a:=a) (steps:=steps) (d:=0) (lk:=1) os b hi S j;have o:splice (tL c now na l a xv steps 0 0 VF) 18 [.d (.val (.int .i32 1))]=tL c now na l a xv steps 0 1 VF:=rfl;have V:splice (tL c now na l a xv steps 0 1 uD) 17 [.d (.val (.int .u32 1))]=tL c now na l a xv steps 1 1 uD:=rfl;have X:splice (tL c now na l a xv steps 1 1 uD) 18 [.d (.val (.int .i32 0))]=tL c now na l a xv steps 1 0 uD:=rfl;have hs:=R6 (G:=G) (et:=85) (cells:=tL c now na l a xv steps 0 0 VF) (fL:=tL c now na l a xv steps 0 1 uD) (os:=os++[.box 27 [.ptr 0 0]]) (xK:=os++[.box 27 [.ptr 0 0]]) (k:=34) (cs:=[.ptr 12 0])
   rfl rfl (hid _ _ _ rfl) (by rw[o];exact hid 0 1 VF rfl) (by rw[o];rfl) (by rw[o];exact K) rfl (by rw[Z];rfl) (hid _ _ _ rfl) _ rfl (by rw[V];exact hid 1 1 uD rfl) (by rw[V];rfl) (by rw[V,X];exact hid 1 0 uD rfl)
  rw[V,X]at hs;exact I_ rfl (hid _ _ _ rfl) _ (by rw[Z];rfl) rfl hs (hid 1 0 uD rfl)
def qp(hid:∀n,(ah.box 85 (tL c now na l a xv n d lk tb)::os).all (aP (os.length+1))=true):aS G 32 [.ptr 0 16,.int 1] (.box 85 (tL c now na l a xv steps d lk tb)::os) (.int (IntKind.i64.wrap (steps+1))) (.box 85 (tL c now na l a xv (IntKind.i64.wrap (steps+1)) d lk tb)::os):=by refine eY func32 (by decide) YA rfl rfl (hid _) rfl ?_;simp only[tL,aeh,go_sem];rw[take_of_length_le (by simp)]
abbrev O9:=ah×O8
def HQ(N:bY)(r:O9):List ah:=[.lr 137 2 N.rK (N.ps.flatMap qc),.l_ 5 (N.bs.map ax),r.1,r.2.1,r.2.2.1,r.2.2.2.1,r.2.2.2.2.1,r.2.2.2.2.2.1,r.2.2.2.2.2.2.1,r.2.2.2.2.2.2.2.1,r.2.2.2.2.2.2.2.2]
variable {N:bY} {r:O9}
def nA(h:eZ (cI xv steps d tb) r):bV 12 xv=true/\∀x e b,bn 12 b=true->eZ (cI xv x e b) r:=by
 have S:bV 12 xv=true:=by have:=h.1;simp[cI,bn]at this;exact this.2.2.1
 exact⟨S,λx e b u=>⟨by simp[cI,bn,bV,LV.int,u,S],h.2⟩⟩
def MT{post:List LV}(h:eZ post r):(HQ N r).all (aP 12)=true:=by unfold HQ;rw[all_cons,all_cons,h.2];simp only[aP,v_];rfl
def Ku(hk:e.kind<1\/e.kind>14)(J:eZ (cI xv steps d tb) r)(u:bn 12 tb=true):aS G 17 [.ptr 0 0,cN e] (cB c now na N (cI xv steps d tb) r) (.int (-1)) (cB c now na N (cI xv (IntKind.i64.wrap (steps+1)) d tb) r):=by
 have t:=λx=>(nA J).2 x d tb u
 have D:=qp (G:=G) (c:=c) (now:=now) (na:=na) (l:=.sl 1 N.rK 2 0 N.ps.length) (a:=N.sent) (xv:=xv) (steps:=steps) (d:=d) (lk:=0) (tb:=tb) (HQ N r) (λn=>eu (t n));refine Lv func17 (eu (t _)) ?_;simp only[cB,Ez,cI,cN,go_sem];refine ij 12 rfl D rfl rfl rfl (eu J) rfl (eu (t _)) rfl ?_;simp only[tL,HQ,go_sem];by_cases U:e.kind<1
 .simp only[decide_eq_true U,go_sem]
 .simp only[decide_eq_false U,dT (e.kind>14),go_sem]
def Aa(kn:Bool):List LV:=if kn then uD else VF
def ot:bn 12 (Aa kn)=true:=by cases kn<;>rfl
def RT(k f:Nat)(hk:e.kind=k)(w:1<=k/\k<=14)(T:uD[k]? = some (CZ f))(J:eZ (cI xv steps (jt kn) (Aa kn)) r)(K:LV)(y:List ah)(Z:y.length=12)(m:y.all (aP 12)=true)(B:bV 0 K=true)
  (A:aS G f [.ptr 0 0,cN e] (cB c now na N (cI xv (IntKind.i64.wrap (steps+1)) 1 uD) r) K y):aS G 17 [.ptr 0 0,cN e] (cB c now na N (cI xv steps (jt kn) (Aa kn)) r) K y:=by
 have t:=λx=>(nA J).2 x (jt kn) (Aa kn) (ot kn)
 have D:=(nA J).2 (IntKind.i64.wrap (steps+1)) 1 uD rfl;have S:=(nA J).1;have j:(HQ N r).all (aP 12)=true:=MT J;have h:=qp (G:=G) (c:=c) (now:=now) (na:=na) (l:=.sl 1 N.rK 2 0 N.ps.length) (a:=N.sent) (xv:=xv) (steps:=steps) (d:=jt kn) (lk:=0) (tb:=Aa kn) (HQ N r) (λn=>eu (t n));have E:=HV (G:=G) (c:=c) (now:=now) (na:=na) (l:=.sl 1 N.rK 2 0 N.ps.length) (a:=N.sent) (xv:=xv) (steps:=IntKind.i64.wrap (steps+1)) (HQ N r) rfl rfl (ko (by decide) _ S) (eN (by decide) j) kn;have o:∀d tb,bn 13 tb=true->((ah.box 85 (tL c now na (.sl 1 N.rK 2 0 N.ps.length) N.sent xv (IntKind.i64.wrap (steps+1)) d 0 tb)::(HQ N r++[.box 27 [.ptr 0 0]]))).all (aP 13)=true:=by intro d tb u;rw[all_cons,all_append,eN (by decide) j];simp only[aP,z_ (show 6<=13 by decide) (show bV 13 (.sl 1 N.rK 2 0 N.ps.length)=true from rfl) (ko (by decide) _ S) u];rfl
 have v:bn 13 (Aa kn)=true:=by cases kn<;>rfl
 have b:∀H:List LV,(tL c now na (.sl 1 N.rK 2 0 N.ps.length) N.sent xv (IntKind.i64.wrap (steps+1)) 1 0 H)[20+k]? = H[k]?:=λH=>by rw[Nat.add_comm];rfl
 rw[Z.symm]at m;refine Lv func17 m (hid:=ko (zero_le _) _ B) (hlen:=by rw[Z];rfl) ?_;rw[Z]at m;simp only[cB,Ez,cI,cN,go_sem];refine ij 12 rfl h rfl rfl rfl (eu J) rfl (eu (t _)) rfl ?_;simp only[tL,HQ,hk,dF ((k:Int)<1),dF ((k:Int)>14),go_sem];refine ij 13 rfl E rfl rfl rfl (o _ _ v) rfl (o _ _ rfl) rfl ?_;have V:=b uD;rw[T]at V;simp only[tL,CZ,LV.int]at V;simp only[cN,hk,LV.int]at A;simp only[tL,HQ,V,show k<15 by omega,Nat.mul_one,go_sem];refine ij 12 rfl A rfl rfl rfl (eu D) Z m (ko (zero_le _) _ B) ?_;simp only[go_sem];exact take_left' (by simp)
def Oz(hk:e.kind=14)(J:eZ (cI xv steps (jt kn) (Aa kn)) r)(A B:List ah)(Z:A.length=12)(k:B.length=5)(m:(A++B).all (aP 17)=true)
  (b:aS G 73 [.ptr 0 0,cN e] (cB c now na N (cI xv (IntKind.i64.wrap (steps+1)) 1 uD) r) (.int 0) (A++B)):aS G 17 [.ptr 0 0,cN e] (cB c now na N (cI xv steps (jt kn) (Aa kn)) r) (.int 0) (A++B):=by
 have t:=λx=>(nA J).2 x (jt kn) (Aa kn) (ot kn)
 have D:=(nA J).2 (IntKind.i64.wrap (steps+1)) 1 uD rfl;have S:=(nA J).1;have j:(HQ N r).all (aP 12)=true:=MT J;have h:=qp (G:=G) (c:=c) (now:=now) (na:=na) (l:=.sl 1 N.rK 2 0 N.ps.length) (a:=N.sent) (xv:=xv) (steps:=steps) (d:=jt kn) (lk:=0) (tb:=Aa kn) (HQ N r) (λn=>eu (t n));have E:=HV (G:=G) (c:=c) (now:=now) (na:=na) (l:=.sl 1 N.rK 2 0 N.ps.length) (a:=N.sent) (xv:=xv) (steps:=IntKind.i64.wrap (steps+1)) (HQ N r) rfl rfl (ko (by decide) _ S) (eN (by decide) j) kn;have o:∀d tb,bn 13 tb=true->((ah.box 85 (tL c now na (.sl 1 N.rK 2 0 N.ps.length) N.sent xv (IntKind.i64.wrap (steps+1)) d 0 tb)::(HQ N r++[.box 27 [.ptr 0 0]]))).all (aP 13)=true:=by intro d tb u;rw[all_cons,all_append,eN (by decide) j];simp only[aP,z_ (show 6<=13 by decide) (show bV 13 (.sl 1 N.rK 2 0 N.ps.length)=true from rfl) (ko (by decide) _ S) u];rfl
 have v:bn 13 (Aa kn)=true:=by cases kn<;>rfl
 refine tW func17 ?_;simp only[cB,Ez,cI,cN,hk,go_sem];refine ij 12 rfl h rfl rfl rfl (eu J) rfl (eu (t _)) rfl ?_;simp only[tL,HQ,go_sem];refine ij 13 rfl E rfl rfl rfl (o _ _ v) rfl (o _ _ rfl) rfl ?_;simp only[cN,hk,LV.int]at b;simp only[tL,HQ,uD,nF,CZ,go_sem];refine UW 12 rfl b rfl rfl rfl (eu D) Z rfl ?_;simp only[go_sem];exact acP 12 2 Z rfl rfl rfl (by rw[k];exact m)
end
end
section
open Go.ChangeShapes Go.WideShapes Go.RowKit Go.Deep Go.WideElems
variable{H:Type}{base:Nat}{G:Nat->Bool}
def Av(e:dL):List Value:=[.int .i64 e.kind,.int .i64 e.a,.int .i64 e.b,.int .i64 e.op.kind,.int .i64 e.op.a,.int .i64 e.op.b,.int .i64 e.op.c,.int .i64 e.op.d,.int .i64 e.op.e,.int .i64 e.op.f]
def ZV{α:Type}{l:List α}(h:l.length=10):∃v c1 S m k u D t T x,l=[v,c1,S,m,k,u,D,t,T,x]:=by
 match l,h with
 |[v,c1,S,m,k,u,D,t,T,x],_=>exact⟨v,c1,S,m,k,u,D,t,T,x,rfl⟩
def Ql{enc:TypeId×Value->H}{w:World}{held:Bool}{fuel:Nat}{cs:List Value}{x:DataW H×List MemPlace}(h:DataW.trod enc prog w base G held fuel 48 cs=some x):∃r:{e:dL // e.b<=9223372036854775807},cs=Av r.1:=by
 obtain⟨xs,n,_,_,Z,hlen,A⟩:=DataW.trod_struct underlying48 h;obtain⟨v,c1,E,m,k,u,D,t,T,J,rfl⟩:=ZV (Z.trans (by kernel_rfl));have hi:prog.cellsOf 3=1:=by kernel_rfl
 have j:prog.cellsOf 46=7:=by kernel_rfl
 have c:∀i,i<4->∃y,xs[i]? = some y:=λi hi=>⟨_,getElem?_eq_getElem (by rw[hlen];exact hi)⟩
 have h0:DataW.trod enc prog w base G held n 3 (([v,c1,E,m,k,u,D,t,T,J].drop 0).take (prog.cellsOf 3))=xs[0]?:=A 0 _ rfl;have U:DataW.trod enc prog w base G held n 3 (([v,c1,E,m,k,u,D,t,T,J].drop 1).take (prog.cellsOf 3))=xs[1]?:=A 1 _ rfl;have h2:DataW.trod enc prog w base G held n 3 (([v,c1,E,m,k,u,D,t,T,J].drop 2).take (prog.cellsOf 3))=xs[2]?:=A 2 _ rfl;have B:DataW.trod enc prog w base G held n 46 (([v,c1,E,m,k,u,D,t,T,J].drop 3).take (prog.cellsOf 46))=xs[3]?:=A 3 _ rfl;obtain⟨y0,q⟩:=c 0 (by decide);obtain⟨y1,a⟩:=c 1 (by decide);obtain⟨y2,V⟩:=c 2 (by decide);obtain⟨y3,X⟩:=c 3 (by decide);rw[q]at h0;rw[a]at U;rw[V]at h2;rw[X]at B;simp only[hi,j,drop_succ_cons,drop_zero,take_succ_cons,List.take_zero]at h0 U h2 B;obtain⟨z0,rfl⟩:=fC underlying3 ⟨_,h0⟩;obtain⟨z1,rfl⟩:=fC underlying3 ⟨_,U⟩;obtain⟨z2,O,_,S⟩:=DataW.trod_int underlying3 h2;obtain rfl:=head_eq_of_cons_eq O;obtain⟨o,K⟩:=SM B;simp only[SN,List.cons.injEq,and_true]at K;obtain⟨rfl,rfl,rfl,rfl,rfl,rfl,rfl⟩:=K;simp only[Lit.wf,Bool.and_eq_true,decide_eq_true_eq]at S;exact⟨⟨⟨z0,z1,z2,o⟩,S.2⟩,rfl⟩
def Qk{enc:TypeId×Value->H}{W:World}{j:Bool}{r:Reach}{k:Nat}{v:Value}{d:DataW H}{p:List MemPlace}(B:Value.okWide prog W r k 24 v)(h:DataW.Trod enc prog W base G j 24 v d p):∃l:List dL,cW (J0 W) W bR (.d (.cM 10 (l.map vg))) v/\∀e∈l,e.b<=9223372036854775807:=by
 obtain⟨a,len,cap,rfl⟩:=okWide_slice underlying24 B;obtain⟨fuel,A⟩:=h;obtain⟨l,_,_,hr⟩:=OT (size:=10) (λr:{e:dL // e.b<=9223372036854775807}=>Av r.1) ⟨⟨0,0,0,fW⟩,by decide⟩ (λr v B=>by simp[Av]at B;rcases B with rfl|rfl|rfl|rfl|rfl|rfl|rfl|rfl|rfl|rfl<;>rfl) (λ_=>rfl) underlying24 (by kernel_rfl:prog.cellsOf 48=10) (by omega) (λ_ _ _ h=>Ql h) ⟨_,A⟩;refine⟨l.map (·.1),?_,λe c=>?_⟩
 .have e:(l.map (·.1)).map vg=l.map λr:{e:dL // e.b<=9223372036854775807}=>(Av r.1).map DV.val:=by rw[map_map];rfl
  show kz (J0 W) W (.cM 10 ((l.map (·.1)).map vg)) _;rw[e];exact hr
 .obtain ⟨y,_,rfl⟩:=mem_map.1 c;exact y.2
end
section
open Go.ChangeShapes Go.WideShapes Go.RowKit Go.Deep Go.WideElems
variable{k:IntKind}{zs:List Int}
@[reducible] def vJ:List (String×DataW Unit):=[("math/bits.deBruijn32tab",Go.Proofs.YtjabcoodhpefhaaGreatDoor.Rows.laid_math_bits_deBruijn32tab),("math/bits.deBruijn64tab",Go.Proofs.YtjabcoodhpefhaaGreatDoor.Rows.laid_math_bits_deBruijn64tab),("dunnage/ops.names",Go.Proofs.YtjabcoodhpefhaaGreatDoor.Rows.laid_dunnage_ops_names),("dunnage/ops.many",Go.Proofs.YtjabcoodhpefhaaGreatDoor.Rows.laid_dunnage_ops_many)]
def RQ{W:World}(h:laidMetH prog vJ W):laidMet prog vJ W:=by rw[MakeChecks.laidMetH_plain _ _ _ (by kernel_rfl)]at h;exact h
def AW{W:World}(h:laidMet prog vJ W){name:String}{d:DataW Unit}{g t e n:Nat}(hm:(name,d)∈vJ)(hd:d=Lib.tabData k zs)(hg:prog.globalNamed name=some g)(ht:(prog.globals[g]?).map (·.type)=some t)
  (hu:prog.underlying t=some (.array n e)) (he:prog.underlying e=some (.int k)) (h1:prog.cellsOf e=1) (h2:prog.cellsOf t=n) (i:Nat):W.cell? ⟨g,i,none⟩=(zs.map (Value.int k))[i]?:=by
 obtain⟨g0,t0,cs0,f0,p0,hg0,Ht,hv0,zq⟩:=Lib.laidMet.reads h hm;obtain rfl:=Option.some.inj (hg.symm.trans hg0);obtain rfl:=Option.some.inj (ht.symm.trans Ht);rw[hd]at zq;rw[World.var?_cell hg0 hv0 i];have:=Lib.cells_of_tab hu he h1 h2 zq;rw[<- this];simp
def Ih{W:World}(h:laidMet prog vJ W)(i:Nat):W.cell? ⟨1,i,none⟩=mT[i]?:=by obtain⟨g0,t0,cs0,f0,p0,hg0,Ht,hv0,zq⟩:=Lib.laidMet.reads h (n:= "dunnage/ops.names") (d:=Go.Proofs.YtjabcoodhpefhaaGreatDoor.Rows.laid_dunnage_ops_names) (by simp);obtain rfl:=Option.some.inj ((show prog.globalNamed "dunnage/ops.names" = some 1 by kernel_rfl).symm.trans hg0);obtain rfl:=Option.some.inj ((show(prog.globals[1]?).map (·.type)=some 230 by kernel_rfl).symm.trans Ht);rw[World.var?_cell hg0 hv0 i,<- Ii zq];simp
def EE{W:World}{g:Nat}{vals:List Value}(h:∀i:Nat,W.cell? ⟨g,i,none⟩=vals[i]?)(hf:∀v∈vals,v.oneCell'=true)(h0:0<vals.length):J0 W g/\dV (J0 W) W (vals.map DV.val) g 0/\∃t,W.shape? g=some (t,(vals.map DV.val).length):=by have hc:=h 0;rw[getElem?_eq_getElem h0]at hc;refine⟨J0.M1 hc,FP vals 0 hf (λi v hv=>by rw[Nat.zero_add,h i,hv]),?_⟩;rw[length_map];exact FK h h0
def yC{W:World}{g:Nat}(h:∀i:Nat,W.cell? ⟨g,i,none⟩=(zs.map (Value.int k))[i]?)(h0:0<zs.length):J0 W g/\dV (J0 W) W (zs.map λn=>DV.val (.int k n)) g 0/\∃t,W.shape? g=some (t,(zs.map λn=>DV.val (.int k n)).length):=by have:=EE h (λv hv=>by simp only[mem_map]at hv;obtain⟨n,_,rfl⟩:=hv;rfl) (by simpa using h0);rw[map_map]at this;exact this
def aA.vJ{W:World}(hm:laidMetH prog vJ W):aA dh (J0 W) W bR (an []):=by
 have h:=RQ hm;have S:=aA.zero W;refine⟨S.rep,S.inj,S.pX,S.jcell,λg row hg=>?_⟩;unfold dh at hg;split at hg
 .rename_i e;subst e;cases hg;exact yC (AW h (name:= "math/bits.deBruijn32tab") (d:=Go.Proofs.YtjabcoodhpefhaaGreatDoor.Rows.laid_math_bits_deBruijn32tab) (k:=.u8) (zs:=Y8) (by simp) (by rfl) (by kernel_rfl) (by kernel_rfl) underlying330 underlying5 (by kernel_rfl) (by kernel_rfl)) (by decide)
 split at hg
 .rename_i e;subst e;cases hg;exact yC (AW h (name:= "math/bits.deBruijn64tab") (d:=Go.Proofs.YtjabcoodhpefhaaGreatDoor.Rows.laid_math_bits_deBruijn64tab) (k:=.u8) (zs:=ER) (by simp) (by rfl) (by kernel_rfl) (by kernel_rfl) underlying331 underlying5 (by kernel_rfl) (by kernel_rfl)) (by decide)
 unfold ck at hg;split at hg
 .rename_i e;subst e;cases hg;exact yC (AW h (name:= "dunnage/ops.many") (d:=Go.Proofs.YtjabcoodhpefhaaGreatDoor.Rows.laid_dunnage_ops_many) (k:=.i64) (zs:=Ys) (by simp) (by rfl) (by kernel_rfl) (by kernel_rfl) underlying172 underlying3 (by kernel_rfl) (by kernel_rfl)) (by decide)
 split at hg
 .rename_i e;subst e;cases hg;have:=EE (Ih h) (λv hv=>by
   simp only[mT,mem_map]at hv;obtain⟨n,_,rfl⟩:=hv;rfl) (by decide)
  rw[show BJ=mT.map DV.val from by unfold BJ mT;rw[map_map];rfl];exact this
 cases hg
def Ow(os:Os)(args:Array Value):laidMetH prog vJ ((World.laidAll prog os vJ).forCall (λ_ _=>0) ⟨#[],args,[]⟩).memory:=by rw[MakeChecks.laidMetH_plain _ _ _ (by kernel_rfl)];exact laidMet_laidAll _ (by kernel_rfl) (by kernel_rfl)
end
section
attribute [local go_sem] ak
end
section
variable{o:cr}
def Eg:∀(m:Nat) (l:List Int) (i:Nat),sx m l i=true->∀n∈l,0<=n/\n<=1000000
 |m,[],i,_,n,h=>by cases h
 |m,x::l,i,h,n,D=>by
  simp only[sx,Bool.and_eq_true]at h;rcases mem_cons.1 D with rfl|D
  .have:=h.1;unfold q_ at this;rw[Bool.and_eq_true]at this;exact of_decide_eq_true this.1
  .exact Eg m l (i+1) h.2 n D
def SY(h:eU o=true):∀n∈cO o,0<=n/\n<=1000000:=by rw[wj,Bool.and_eq_true]at h;exact Eg _ _ _ h.2
def Bv:∀(m:Nat) (l:List Int) (i:Nat),sx m l i=true->∀j,m<=i+j->l.getD j 0=0
 |m,[],i,_,j,_=>rfl
 |m,x::l,i,h,j,hj=>by
  simp only[sx,Bool.and_eq_true]at h;cases j with
  |zero=>have:=h.1;rw[decide_eq_false (by omega)]at this;unfold q_ at this;simp at this;show x=0;exact this.2
  |succ j=>exact Bv m l (i+1) h.2 j (by omega)
def Wp(h:eU o=true):FZ o.kind ((cO o).take (fH o.kind))=o:=by
 have h2:=h;rw[wj,Bool.and_eq_true]at h2;have V:∀j,((cO o).take (fH o.kind)).getD j 0=(cO o).getD j 0:=λj=>by
  by_cases hj:j<fH o.kind
  .simp only[getD];rw[getElem?_take_of_lt hj]
  .rw [Bv _ _ 0 h2.2 j (by omega)];simp only[getD];rw[getElem?_eq_none (by rw[length_take];omega)];rfl
 unfold FZ;simp only[V];rfl
def Wa(h:eU o=true):fF o=g_ (o.kind::(cO o).take (fH o.kind)):=by unfold fF;rw[if_pos h]
def SO(h:eU o=true):(o.kind::(cO o).take (fH o.kind)).all isNum=true:=by
 have hk:=tw h;rw[all_eq_true];intro x S;rcases mem_cons.1 S with rfl|S
 .exact decide_eq_true ⟨by omega,by unfold dS;omega⟩
 .have:=SY h x (mem_of_mem_take S);exact decide_eq_true ⟨by omega,by unfold dS;omega⟩
def Dc(o:cr):((cO o).take (fH o.kind)).length=fH o.kind:=by have:=wI o.kind;rw[length_take];simp[cO];omega
def Uj(h:eU o=true):Dr (fF o)=some o:=by have hk:=tw h;have H:=wI o.kind;have Z:=Dc o;have u:=IL (o.kind::(cO o).take (fH o.kind)) [] 7 (SO h) (by rw[length_cons];omega) (by rw[length_cons];omega);rw[append_nil,<- Wa h]at u;unfold Dr;rw[u];have a:FZ o.kind ((cO o).take (fH o.kind))=o:=Wp h;have B:(o.kind::(cO o).take (fH o.kind)).getD 0 0=o.kind:=rfl;have V:(o.kind::(cO o).take (fH o.kind)).drop 1=(cO o).take (fH o.kind):=rfl;dsimp only;rw[B,V,a,if_pos];exact⟨rfl,by simp,decide_eq_true hk,by rw[length_cons];omega,h⟩
end
section
variable{n:Int}{b:List Int}
def Pg(h:isNum n=true)(U:1<=n)(t:List Int):(aV n++t).getD 0 0≠0:=by
 rw[Aq h];show(iT (7+1) n++t).getD 0 0≠0;unfold iT;split
 .show n % 128+128≠0;omega
 .show n≠0;omega
def tu{p:List Int}(h:1<=p.length/\p.length<=4000):cu p=aV p.length++(p++nq (fQ 0 p)++[1]):=by unfold cu;rw[if_neg (by omega)];simp only[append_assoc]
def wW{a:List Int}(k:Nat):(a++b).getD (a.length+k) 0=b.getD k 0:=by simp only[getD];rw[getElem?_append_right (by omega),Nat.add_sub_cancel_left]
def IM(pre t p:List Int)(k:aT pre)(u:aT t)(O:aT p)(h:1<=p.length/\p.length<=4000):cT (pre++(cu p++t)) pre.length=(p,pre.length+(cu p).length,1):=by
 have D:isNum (p.length:Int)=true:=by unfold isNum dS;exact decide_eq_true ⟨by omega,by omega⟩
 have T:aT (pre++(cu p++t)):=k.cat ((lT O).cat u);have Z:=ny h;have a:=By D;have h0:(pre++(cu p++t)).getD pre.length 0≠0:=by rw[show pre.length=pre.length+0 from rfl,wW,tu h,append_assoc];exact Pg D (by omega) _
 have E:fK (pre++(cu p++t)) pre.length=some ((p.length:Int),pre.length+(aV p.length).length):=by rw[tu h,append_assoc];exact pS pre _ _ D
 have hlen:(pre++(cu p++t)).length=pre.length+((cu p).length+t.length):=by simp only[length_append]
 obtain⟨_,_,B⟩:=IN T (by omega) h0 E;have hd:p=((pre++(cu p++t)).drop (pre.length+(aV p.length).length)).take (p.length:Int).toNat:=by rw[<- drop_drop,drop_left,tu h,append_assoc,drop_left,append_assoc,append_assoc,toNat_natCast,take_left]
 obtain⟨_,y⟩:=B (by omega) (by omega) p hd;rw[y,if_neg];rw[drop_left,take_left];rintro(A|A)
 .omega
 .exact A rfl
def frames(rs:List (List Int)):List Int:=rs.flatMap cu
def LN{rs:List (List Int)}(h:∀r∈rs,aT r):aT (frames rs):=λc K=>by obtain⟨r,hr,K⟩:=mem_flatMap.1 K;exact lT (h r hr) c K
def u5:∀{rs:List (List Int)},(∀r∈rs,1<=r.length/\r.length<=4000)->rs.length<=(frames rs).length
 |[],_=>Nat.le_refl _
 |r::rs,h=>by
  have:=u5 λx S=>h x (mem_cons_of_mem _ S)
  have h2:=ny (h r (mem_cons_self ..));show rs.length+1<=(cu r++frames rs).length;rw[length_append];omega
def CH(t:List Int)(u:aT t)(H:∀pre,aT pre->(cT (pre++t) pre.length).2.2≠1):∀(rs:List (List Int)) (pre:List Int) (f:Nat) (l:List (List Int)),aT pre->(∀r∈rs,aT r/\1<=r.length/\r.length<=4000)->rs.length<f->
  xB (pre++(frames rs++t)) f l pre.length=(l++rs,pre.length+(frames rs).length)
 |[],pre,f+1,l,O,_,_=>by unfold xB;show(if(cT (pre++t) pre.length).2.2=1 then _ else _)=_;rw[if_neg (H pre O),append_nil];rfl
 |r::rs,pre,f+1,l,O,hr,A=>by
  have U:=hr r (mem_cons_self ..);have c:=LN λx S=>(hr x (mem_cons_of_mem _ S)).1
  have V:=IM pre (frames rs++t) r O (c.cat u) U.1 U.2;have S:pre++(frames (r::rs)++t)=pre++(cu r++(frames rs++t)):=by show pre++((cu r++frames rs)++t)=_;rw[append_assoc (cu r)]
  rw[S];unfold xB;rw[V,if_pos rfl];have:=CH t u H rs (pre++cu r) f (l++[r]) (O.cat (lT U.1)) (λx S=>hr x (mem_cons_of_mem _ S)) (by simp only[length_cons]at A;omega);rw[append_assoc,length_append,append_assoc]at this;rw[this];show(_,_)=(_,pre.length+(cu r++frames rs).length);rw[length_append,Nat.add_assoc];rfl
def LH(pre:List Int)(m:Nat):(cT (pre++replicate m 0) pre.length).2.2≠1:=by
 unfold cT;rw[if_neg (by rw[length_append];omega)];by_cases H:m=0
 .subst H;rw[if_pos (.inl (by simp))];show(0:Int)≠1;decide
 .rw [if_pos (.inr (by rw[show pre.length=pre.length+0 from rfl,wW];cases m with|zero=>exact absurd rfl H|succ k=>rfl))];show(0:Int)≠1;decide
def gK:Int->List (List Int)->List (List Int)
 |_,[]=>[]
 |a,b::bs=>(aV a++b)::gK (a+1) bs
def uJ:∀(bs:List (List Int)) (a:Int) (p:List Int),gK a (bs++[p])=gK a bs++[aV (a+bs.length)++p]
 |[],a,p=>by simp[gK]
 |b::bs,a,p=>by simp only[cons_append,gK,uJ bs (a+1) p,length_cons];rw[show a+1+(bs.length:Int)=a+((bs.length+1:Nat):Int)by omega]
def yf:∀(bs:List (List Int)) (a:Int),(∀b∈bs,aT b)->∀r∈gK a bs,aT r
 |[],_,_,r,hr=>by cases hr
 |b::bs,a,h,r,hr=>by
  rcases mem_cons.1 hr with rfl|hr
  .exact (kg a).cat (h b (mem_cons_self ..))
  .exact yf bs (a+1) (λx S=>h x (mem_cons_of_mem _ S)) r hr
def sE(h:0<=n)(h2:n<=1000000000):isNum n=true:=by unfold isNum dS;exact decide_eq_true ⟨h,by omega⟩
def yD{a:Int}(h:isNum a=true)(b:List Int):fK (aV a++b) 0=some (a,(aV a).length):=by have:=pS [] b a h;simpa using this
def u6:∀(bs:List (List Int)) (a:Int),0<=a->a+bs.length<=1000000000->(∀b∈bs,1<=b.length)->wY (gK a bs) a=bs
 |[],_,_,_,_=>rfl
 |b::bs,a,h0,U,T=>by have t:=T b (mem_cons_self ..);have D:=yD (sE h0 (by simp only[length_cons]at U;omega)) b;show wY ((aV a++b)::gK (a+1) bs) a=_;rw[yG,D];dsimp only;rw[if_neg (by omega),if_neg (by rw[length_append];omega),drop_left,u6 bs (a+1) (by omega) (by simp only[length_cons]at U;omega) (λx S=>T x (mem_cons_of_mem _ S))]
def Cn(bs:List (List Int))(a:Int)(h0:0<=a)(U:a+bs.length<=1000000000):Gy (gK a bs) a=false:=by
 cases bs with
 |nil=>rfl
 |cons b bs=>
  have D:=yD (sE h0 (by simp only[length_cons]at U;omega)) b;have v:LU (aV a++b) a=true:=by unfold LU;rw[D];exact decide_eq_true (Int.le_refl _)
  unfold Gy;show(_&&!(decide (B5 a ((aV a++b)::gK (a+1) bs) 0>=0)))=false;unfold B5;rw[if_pos v];simp
structure CU(j:gP)(q:Option (List Int×Int))(bs:List (List Int)):Prop where
 ok:xI j
 load:fR j.l 0 (j.n / 4)=q
 cA:j.cA=CI q
 cnt:j.cnt=eM q+bs.length
 lo:0<=eM q
 hi:j.cnt<=1000000000
 seg:rW j.l (2*(j.n / 4)) (j.n-2*(j.n / 4))=frames (gK (eM q) bs)++replicate (j.n-2*(j.n / 4)-j.us) 0
 us:j.us=(frames (gK (eM q) bs)).length
 rcs:∀r∈gK (eM q) bs,1<=r.length/\r.length<=4000
 kD:∀b∈bs,aT b
 one:∀b∈bs,1<=b.length
def KO{l:List Int}{a:Nat}(h:(l.drop a).take b.length=b):br l a b=l:=by
 unfold br;rw[append_assoc];conv=>lhs;arg 2;arg 1;rw[<- h]
 rw[<- drop_drop,take_append_drop,take_append_drop]
def CU.jk{j:gP}{q:Option (List Int×Int)}{bs:List (List Int)}(h:CU j q bs):jk j.l (2*(j.n / 4)) (j.n-2*(j.n / 4))=(gK (eM q) bs,j.us):=by
 have y:=h.ok.used;have hr:∀r∈gK (eM q) bs,aT r/\1<=r.length/\r.length<=4000:=λr hr=>⟨yf bs _ h.kD r hr,h.rcs r hr⟩
 have J:=u5 h.rcs;have:=CH (replicate (j.n-2*(j.n / 4)-j.us) 0) (jS _) (λpre _=>LH pre _) (gK (eM q) bs) [] (j.n-2*(j.n / 4)+1) [] (λc K=>by cases K) hr (by have:=h.us;omega);unfold Dv.jk;rw[h.seg];simp only[nil_append,length_nil,Nat.zero_add]at this;rw[this,h.us]
def CU.lV{j:gP}{q:Option (List Int×Int)}{bs:List (List Int)}(h:CU j q bs):lV j.l j.n=j.l:=by
 unfold Dv.lV;rw[h.jk];apply KO;have hs:=h.seg;have y:=h.ok.used;unfold rW at hs;have h2:(((j.l.drop (2*(j.n / 4))).take (j.n-2*(j.n / 4))).drop j.us).take (j.n-2*(j.n / 4)-j.us)=replicate (j.n-2*(j.n / 4)-j.us) 0:=by rw[hs,h.us,drop_left,take_of_length_le (by rw[length_replicate];exact Nat.le_refl _)]
 rw[length_replicate,<- drop_drop];rw[drop_take,take_take,Nat.min_self]at h2;exact h2
def CU.opn{j:gP}{q:Option (List Int×Int)}{bs:List (List Int)}(h:CU j q bs)(s:Int):jN j.l j.n=q/\nG j.l j.n=bs/\gm j.l j.n s = { j with s:=IntKind.i64.wrap (s+1) }:=by
 have B:jN j.l j.n=q:=by unfold jN;rw[h.lV];exact h.load
 have K:zW j.l j.n=gK (eM q) bs:=by unfold zW;rw[h.jk]
 have A:=h.hi;have y:=h.cnt;have o:nG j.l j.n=bs:=by unfold nG;rw[B,K];exact u6 bs _ h.lo (by omega) h.one
 have J:Pe j.l j.n=false:=by unfold Pe;rw[B,K];exact Cn bs _ h.lo (by omega)
 refine⟨B,o,?_⟩;unfold gm;rw[J,if_neg (by decide),h.lV,B,o,h.jk,<- h.cnt,<- h.cA]
end
section
variable{sz a k:Nat}{b:List Int}
def nw2(p0 m:Option (List Int×Int)):Int×Int:=
 match m with
 |none=>(match p0 with
  |none=>(-1,-1)
  |some q=>if q.2 > -1 then(0,q.2)else(-1,-1))
 |some r=>if r.2>(match p0 with
  |none=>((-1,-1):Int×Int)
  |some q=>if q.2 > -1 then(0,q.2)else(-1,-1)).2 then(1,r.2)else(match p0 with
  |none=>(-1,-1)
  |some q=>if q.2 > -1 then(0,q.2)else(-1,-1))
def wu(l:List Int)(sz:Nat):nJ l 0 sz 2=nw2 (jq l 0 sz 0) (jq l 0 sz 1):=rfl
def BN{l a:List Int}(h:∀k,k<2->eL a 0 sz k=eL l 0 sz k):fR a 0 sz=fR l 0 sz:=by
 have O:∀k,k<2->jq a 0 sz k=jq l 0 sz k:=λk hk=>by unfold jq;rw[h k hk]
 have D:nJ a 0 sz 2=nJ l 0 sz 2:=by rw[wu,wu,O 0 (by omega),O 1 (by omega)]
 have hr:=wv l 0 sz 2;unfold fR;rw[D];split
 .rfl
 .exact O _ (by omega)
def EP{l:List Int}(h:a<=l.length)(hk:k<=a):(br l a b).drop k=br (l.drop k) (a-k) b:=by unfold br;rw[append_assoc,drop_append_of_le_length (by rw[length_take];omega),drop_take,append_assoc,drop_drop];rw[show k+(a-k+b.length)=a+b.length by omega]
def Ov{l:List Int}(h:a<=l.length)(hk:k<=a):(br l a b).take k=l.take k:=by unfold br;rw[append_assoc,take_append_of_le_length (by rw[length_take];omega),take_take,Nat.min_eq_left hk]
def tg{l:List Int}(h:a<=l.length)(hk:k*sz+sz<=a):eL (br l a b) 0 sz k=eL l 0 sz k:=by unfold eL;rw[EP h (by omega),Ov (by rw[length_drop];omega) (by omega)]
def yZ{l:List Int}(h:a+b.length<=l.length)(hk:a+b.length<=k*sz):eL (br l a b) 0 sz k=eL l 0 sz k:=by unfold eL br;rw[drop_append,drop_eq_nil_of_le (by simp only[length_append,length_take];omega),nil_append,drop_drop];congr 2;simp only[length_append,length_take];omega
def rV{l:List Int}{fr:Nat}(h:fr+sz<=l.length)(A:fr<=a)(X:a+b.length<=fr+sz):rW (br l a b) fr sz=br (rW l fr sz) (a-fr) b:=by unfold rW;rw[EP (by omega) A];unfold br;rw[take_append,take_of_length_le (by simp only[length_append,length_take,length_drop];omega),take_take,Nat.min_eq_left (by omega),drop_drop,drop_take,drop_drop];congr 2;simp only[length_append,length_take,length_drop];omega
def uO{fs:List Int}{m:Nat}(h:b.length<=m):br (fs++replicate m 0) fs.length b=(fs++b)++replicate (m-b.length) 0:=by unfold br;rw[take_left,<- drop_drop,drop_left,drop_replicate]
def CU.add{j:gP}{q:Option (List Int×Int)}{bs:List (List Int)}(h:CU j q bs){p:List Int}(O:aT p)(hr:j.room p.length=true)(K:j.cnt+1<=1000000000):CU (j.add p) q (bs++[p]):=by
 have E:=gP.vT hr;have v:1<=p.length/\1<=(aV j.cnt++p).length/\(aV j.cnt++p).length<=4000:=by unfold gP.room ov rZ at hr;rw[Bool.and_eq_true,decide_eq_true_eq,decide_eq_true_eq]at hr;rw[length_append];omega
 have hlen:=h.ok.len;have u:=h.ok.size;have y:=h.cnt;have a:=h.lo;have S:IntKind.i64.wrap (j.cnt+1)=j.cnt+1:=aH (by omega) (by omega);have c:frames (gK (eM q) (bs++[p]))=frames (gK (eM q) bs)++fh j.cnt p:=by rw[uJ,<- y];unfold frames;rw[flatMap_append];simp[fh]
 refine⟨h.ok.add O hr,?_,h.cA,?_,h.lo,?_,?_,?_,?_,?_,?_⟩
 .show fR (br j.l (2*(j.n / 4)+j.us) (fh j.cnt p)) 0 (j.n / 4)=q;rw[BN (l:=j.l) λk hk=>tg (by omega) (by have:k*(j.n / 4)<=1*(j.n / 4):=mul_le_mul_right _ (by omega);omega)];exact h.load
 .show IntKind.i64.wrap (j.cnt+1)=_;rw[S,length_append,y];simp only[length_cons,length_nil];omega
 .show IntKind.i64.wrap (j.cnt+1)<=_;rw[S];exact K
 .show rW (br j.l (2*(j.n / 4)+j.us) (fh j.cnt p)) (2*(j.n / 4)) (j.n-2*(j.n / 4))=_++replicate (j.n-2*(j.n / 4)-(j.us+(fh j.cnt p).length)) 0;rw[rV (by omega) (by omega) (by omega),h.seg,Nat.add_sub_cancel_left,c,<- Nat.sub_sub];conv=>lhs;arg 2;rw[h.us]
  exact uO (by omega)
 .show j.us+(fh j.cnt p).length=_;rw[c,length_append,h.us]
 .rw [uJ,<- y];intro r X;rcases mem_append.1 X with X|X
  .exact h.rcs r X
  .rw [mem_singleton.1 X];exact v.2
 .intro b T;rcases mem_append.1 T with T|T
  .exact h.kD b T
  .rw [mem_singleton.1 T];exact O
 .intro b T;rcases mem_append.1 T with T|T
  .exact h.one b T
  .rw [mem_singleton.1 T];exact v.1
def FU{l:List Int}(T:aT l){q:List Int×Int}(h:jq l 0 sz k=some q):0<=q.2:=by
 have hs:∀c∈eL l 0 sz k,0<=c/\c<=255:=λc K=>T c (mem_of_mem_drop (mem_of_mem_take K))
 have V:=sK (eL l 0 sz k) 0;unfold jq at h;split at h
 .cases E:fK (cT (eL l 0 sz k) 0).1 0 with
  |none=>rw[E]at h;cases h
  |some r=>rw[E]at h;cases h;exact(gw (λc K=>(hs c (V.1 c K)).1) (x:=r.1) (p':=r.2) E).1
 .cases h
theorem Pr{l eO:List Int}{cA:Int}(T:aT l)(O:aT eO)(Z:2*sz<=l.length)(j:1<=sz)(J:fo l 0 sz eO cA=0)(D:isNum cA=true):fR (jK l 0 sz eO cA) 0 sz=some (eO,cA)/\(jK l 0 sz eO cA).length=l.length:=by
 unfold fo at J;split at J
 .cases J
 rename_i U;split at J
 .cases J
 rename_i h2;split at J
 .cases J
 rename_i B;have hk:dw l 0 sz<2:=by unfold dw;split<;>omega
 have hks:dw l 0 sz*sz<=1*sz:=mul_le_mul_right _ (by omega);have hlen:(br l (dw l 0 sz*sz) (replicate sz 0)).length=l.length:=dD (by rw[length_replicate];omega);have t:1<=(aV cA++eO).length/\(aV cA++eO).length<=4000:=by
  have:(gE eO cA).length≠0:=λe=>B (.inl e)
  unfold gE cu at this;split at this
  .exact absurd rfl this
  .omega
 have S:(gE eO cA).length<=sz:=by omega
 have TN:jK l 0 sz eO cA=br (br l (dw l 0 sz*sz) (replicate sz 0)) (dw l 0 sz*sz) (gE eO cA):=by unfold jK;rw[Nat.zero_add]
 have abJ:eL (jK l 0 sz eO cA) 0 sz (dw l 0 sz)=gE eO cA++replicate (sz-(gE eO cA).length) 0:=by
  have y:=rV (l:=br l (dw l 0 sz*sz) (replicate sz 0)) (b:=gE eO cA) (a:=dw l 0 sz*sz) (fr:=dw l 0 sz*sz) (sz:=sz) (by omega) (Nat.le_refl _) (by omega);have A:=rV (l:=l) (b:=replicate sz 0) (a:=dw l 0 sz*sz) (fr:=dw l 0 sz*sz) (sz:=sz) (by omega) (Nat.le_refl _) (by rw[length_replicate];omega);rw[TN];show(drop (0+dw l 0 sz*sz) _).take sz=_;rw[Nat.zero_add];show rW _ (dw l 0 sz*sz) sz=_;rw[y,A,Nat.sub_self];have o:br (rW l (dw l 0 sz*sz) sz) 0 (replicate sz 0)=replicate sz 0:=by unfold br;rw[drop_eq_nil_of_le (by rw[vP (by omega),length_replicate];omega)];simp
  rw[o];have:=uO (fs:=[]) (b:=gE eO cA) (m:=sz) S;simpa using this
 have aae:∀k,k<2->k≠dw l 0 sz->eL (jK l 0 sz eO cA) 0 sz k=eL l 0 sz k:=λk H h=>by
  rw[TN];by_cases hkk:k<dw l 0 sz
  .have v:k=0:=by omega
   have w:dw l 0 sz=1:=by omega
   rw[w]at hlen;rw[v,w];rw[tg (by omega) (by omega),tg (by omega) (by omega)]
  .have v:dw l 0 sz=0:=by omega
   have w:k=1:=by omega
   rw[v]at hlen;rw[v,w];rw[yZ (by omega) (by omega),yZ (by rw[length_replicate];omega) (by rw[length_replicate];omega)]
 have hnew:jq (jK l 0 sz eO cA) 0 sz (dw l 0 sz)=some (eO,cA):=by have V:=IM [] (replicate (sz-(gE eO cA).length) 0) (aV cA++eO) (λc K=>by cases K) (jS _) ((kg _).cat O) t;simp only[nil_append,length_nil,Nat.zero_add]at V;unfold jq;rw[abJ];unfold gE;unfold gE at V;rw[V,if_pos rfl,yD D];show some (drop (aV cA).length (aV cA++eO),cA)=_;rw[drop_left]
 have hold:∀k,k<2->k≠dw l 0 sz->jq (jK l 0 sz eO cA) 0 sz k=jq l 0 sz k:=λk y A=>by unfold jq;rw[aae k y A]
 have adW:0<=cA:=by unfold isNum at D;have:=of_decide_eq_true D;omega
 have abM:=wv l 0 sz 2;have YT:∀q,fR l 0 sz=some q->q.2<cA:=λq E=>by rw[E]at h2;unfold SP at h2;simp at h2;exact h2
 refine⟨?_,by rw[TN,dD (by rw[hlen];omega),hlen]⟩;unfold fR;rcases Nat.lt_or_ge (dw l 0 sz) 1 with v|w
 .have v:dw l 0 sz=0:=by omega
  have n:(nJ l 0 sz 2).1≠0:=λe=>by unfold dw at v;rw[if_pos e]at v;cases v
  rw[v]at hnew hold;have x:=hold 1 (by omega) (by omega)
  have hQ:nJ (jK l 0 sz eO cA) 0 sz 2=(0,cA):=by
   rw[wu,hnew,x];have X:cA > -1:=by omega
   unfold nw2;cases E:jq l 0 sz 1 with
   |none=>simp only[if_pos X]
   |some q=>
    have hq0:=FU T E;have hn1:(nJ l 0 sz 2).1=1:=by
     have:(nJ l 0 sz 2).1 = -1\/(nJ l 0 sz 2).1=1:=by omega
     rcases this with e|e
     .exfalso;rw[wu,E]at e;unfold nw2 at e;cases hr:jq l 0 sz 0 with
      |none=>rw[hr]at e;simp only[if_pos (show q.2 > -1 by omega)]at e;exact absurd e (by decide)
      |some r=>
       have G:=FU T hr;rw[hr]at e;simp only[if_pos (show r.2 > -1 by omega)]at e;split at e
       .exact absurd e (show(1:Int)≠-1 by decide)
       .exact absurd e (show(0:Int)≠-1 by decide)
     .exact e
    have:fR l 0 sz=some q:=by unfold fR;rw[hn1,if_neg (by decide)];exact E
    have:=YT q this;simp only[if_pos X,if_neg (show¬q.2>cA by omega)]
  rw[hQ,if_neg (show¬(0:Int)<0 by decide)];exact hnew
 .have w:dw l 0 sz=1:=by omega
  have n:(nJ l 0 sz 2).1=0:=by unfold dw at w;split at w;· assumption
                               .cases w
  rw[w]at hnew hold;have Y5:=hold 0 (by omega) (by omega);have aah:fR l 0 sz=jq l 0 sz 0:=by unfold fR;rw[n,if_neg (by decide)];rfl
  have hQ:nJ (jK l 0 sz eO cA) 0 sz 2=(1,cA):=by
   rw[wu,hnew,Y5];unfold nw2;cases E:jq l 0 sz 0 with
   |none=>simp only[if_pos (show cA > -1 by omega)]
   |some q=>have u:=YT q (by rw[aah,E]);have hq0:=FU T E;simp only[if_pos (show q.2 > -1 by omega),if_pos (show cA>q.2 by omega)]
  rw[hQ,if_neg (show¬(1:Int)<0 by decide)];exact hnew
def CU.pack{j:gP}{q:Option (List Int×Int)}{bs:List (List Int)}(h:CU j q bs){eO:List Int}(O:aT eO):j.pack eO=j\/CU (j.pack eO) (some (eO,j.cnt)) []:=by
 have hlen:=h.ok.len;have u:=h.ok.size;have b:=h.ok.pack O;unfold gP.pack at *;split
 .exact .inl rfl
 rename_i K;right;rw[if_neg K]at b;have J:fo j.l 0 (j.n / 4) eO j.cnt=0:=Decidable.not_not.1 λe=>K (.inr e)
 have y:=h.cnt;have a:=h.lo;have A:=h.hi;obtain⟨U,h2⟩:=Pr h.ok.kD O (by omega) (by omega) J (sE (by omega) A);refine⟨b,?_,rfl,?_,?_,A,?_,rfl,?_,?_,?_⟩
 .show fR (zI j.n j.l eO j.cnt) 0 (j.n / 4)=_;unfold zI;rw[BN (l:=jK j.l 0 (j.n / 4) eO j.cnt) λk hk=>tg (by omega) (by have:k*(j.n / 4)<=1*(j.n / 4):=mul_le_mul_right _ (by omega);omega)];exact U
 .show j.cnt=j.cnt+((0:Nat):Int);omega
 .show 0<=j.cnt;omega
 .show rW (zI j.n j.l eO j.cnt) (2*(j.n / 4)) (j.n-2*(j.n / 4))=[]++replicate (j.n-2*(j.n / 4)-0) 0;unfold zI;rw[rV (by omega) (Nat.le_refl _) (by rw[length_replicate];omega),Nat.sub_self];unfold br;rw[drop_eq_nil_of_le (by rw[vP (by omega),length_replicate];omega)];simp
 .intro r hr;cases hr
 .intro r hr;cases hr
 .intro r hr;cases hr
end
section
variable{c:av}{bs:List (List Int)}{x:aF}
def yN{c:av}{o:cr}(j:eU o=true):∀(bs:List (List Int)) (s:aa) {t:aa},tQ c s bs=some t->(aW c t o).2=0->tQ c s (bs++[fF o])=some (aW c t o).1
 |[],s,t,h,v=>by cases h;show tQ c s [fF o]=_;unfold tQ;rw[Uj j];dsimp only;rw[if_pos v];rfl
 |b::bs,s,t,h,v=>by
  rw[cons_append];unfold tQ at h ⊢;cases E:Dr b with
  |none=>rw[E]at h;cases h
  |some p=>
   rw[E]at h;dsimp only at h ⊢;split at h
   .rename_i U;rw[if_pos U];exact yN j bs _ h v
   .cases h
def Bc{o:cr}(j:eU o=true){eO:List Int}{t:aa}(h:iB c eO bs=some t)(v:(aW c t o).2=0):iB c eO (bs++[fF o])=some (aW c t o).1:=by
 unfold iB at h ⊢;split at h
 .rename_i U;rw[if_pos U];cases V:uY c eO with
  |none=>rw[V]at h;cases h
  |some s=>rw[V]at h;exact yN j bs s h v
 .rename_i U;rw[if_neg U];exact yN j bs _ h v
def Yq{s:aa}{o:cr}(hr:bU c s)(h:(aW c s o).2=0):eU o=true:=by
 cases E:eU o with
 |true=>rfl
 |false=>unfold aW yO at h;rw[if_neg (by rw[(eG c s).2 hr];decide),if_pos E]at h;cases h
structure Vi(x:aF)(q:Option (List Int×Int))(bs:List (List Int)):Prop where
 Ge:CU x.j q bs
 rd:iB x.c (nC q) bs=some x.s
def OZ{s:aa}(h:bU c s):iB c (kS s) []=some s:=by have hr:=(eG c s).2 h;obtain⟨⟨U,h2⟩,B,y,_⟩:=HI hr;unfold iB;rw[if_pos (by omega),XD U h2 B hr];rfl
def Vi.fresh{q:Option (List Int×Int)}(h:Vi x q bs)(S:CL x)(o:cr):∃m B,CU (x.bO o) m B/\iB x.c (nC m) B=some x.s:=by
 unfold aF.bO aF.GQ;split
 .exact ⟨q,bs,h.Ge,h.rd⟩
 split
 .exact ⟨q,bs,h.Ge,h.rd⟩
 .rcases h.Ge.pack (Bg x.s)with e|e
  .rw [e];exact⟨q,bs,h.Ge,h.rd⟩
  .exact ⟨_,_,e,OZ S.right⟩
def Ch(x:aF)(o:cr):(x.bO o).cnt=x.j.cnt:=by
 unfold aF.bO aF.GQ gP.pack;split
 .rfl
 split
 .rfl
 split<;>rfl
def Vi.note{q:Option (List Int×Int)}(h:Vi x q bs)(S:CL x)(o:cr)(now:Int)(K:x.j.cnt+1<=1000000000):∃m B,Vi (x.bC o now) m B/\(x.bC o now).j.cnt<=x.j.cnt+1:=by
 obtain⟨m,B,hj,hr⟩:=h.fresh S o;have y:=Ch x o;have a:0<=x.j.cnt:=by have:=h.Ge.cnt;have:=h.Ge.lo;omega
 unfold aF.bC;by_cases v:x.dc o=0
 .rw [if_pos v];obtain⟨U,h2,_⟩:=kq v;refine⟨m,B++[fF o],⟨hj.add (Bf o) h2 (by omega),?_⟩,?_⟩
  .exact Bc (Yq S.right U) hr U
  .show IntKind.i64.wrap ((x.bO o).cnt+1)<=_;rw[aH (by omega) (by omega)];omega
 .rw [if_neg v];exact⟨m,B,⟨hj,hr⟩,by show(x.bO o).cnt<=_;omega⟩
def CU.sync{j:gP}{q:Option (List Int×Int)}(h:CU j q bs)(s:Int):CU { j with s:=s } q bs:=⟨⟨h.ok.len,h.ok.size,h.ok.kD,h.ok.used⟩,h.load,h.cA,h.cnt,h.lo,h.hi,h.seg,h.us,h.rcs,h.kD,h.one⟩
def Vi.acp{q:Option (List Int×Int)}(h:Vi x q bs)(s room term:Int)(sh:List eE)(wr now:Int) :
  iB x.c (nC (jN x.j.l x.j.n)) (nG x.j.l x.j.n)=some x.s/\Vi (eX x.c (gm x.j.l x.j.n s) room term sh wr now x.s) q bs/\(gm x.j.l x.j.n s).cnt=x.j.cnt:=by
 obtain⟨U,h2,B⟩:=h.Ge.opn s;rw[U,h2,B];exact⟨h.rd,⟨h.Ge.sync _,h.rd⟩,rfl⟩
def Zs(S:CL x):x.dc bL=0\/x.dc bL=3:=by
 have hr:=(eG x.c x.s).2 S.right;have X:(aW x.c x.s bL).2=0\/(aW x.c x.s bL).2=3:=by
  rw[sZ hr (by decide) (by decide) (by decide)];show(d_ x.s).2=0\/(d_ x.s).2=3;unfold d_;split
  .exact .inr rfl
  .exact .inl rfl
 unfold aF.dc;split
 .exact X
 .split
  .exact .inl rfl
  .exact .inr rfl
def Zr(S:CL x)(h:x.dc bL=0):aW x.c x.s bL=({ x.s with term:=x.s.term+1 },0):=by
 have hr:=(eG x.c x.s).2 S.right;obtain⟨U,_⟩:=kq h;rw[sZ hr (by decide) (by decide) (by decide)]at U ⊢;change(d_ x.s).2=0 at U;show d_ x.s=_;unfold d_ at U ⊢;split at U
 .cases U
 .rename_i h2;rw[if_neg h2]
end
section
variable{bs:List (List Int)}
def O6{p:List Int}(h:1<=(cu p).length):1<=p.length/\p.length<=4000:=by
 unfold cu at h;split at h
 .simp at h
 .omega
def P0(pre p:List Int)(k:aT pre)(O:aT p)(h:1<=p.length/\p.length<=4000)(m z:Nat)(H:m<(cu p).length):(cT (pre++((cu p).take m++replicate z 0)) pre.length).2.2≠1:=by
 intro S;have D:aT ((cu p).take m):=λc K=>lT O c (mem_of_mem_take K)
 have T:aT (pre++((cu p).take m++replicate z 0)):=k.cat (D.cat (jS _));obtain⟨p',U,h2,B⟩:=LI T S;have y:=(wV (λc K=>(T c K).1) S).1;rw[U]at y;dsimp only at y;have A:=O6 (p:=p') (by omega);have r:=ny A;have Z:=ny h;rw[drop_left]at h2;have j:(cu p').getD ((cu p').length-1) 0=1:=by
  have e:cu p'=(aV p'.length++(p'++nq (fQ 0 p')))++[1]:=by rw[tu A];simp only[append_assoc]
  have E:(aV p'.length++(p'++nq (fQ 0 p'))).length=(cu p').length-1:=by have:=congrArg length e;simp only[length_append,length_cons,length_nil]at this ⊢;omega
  rw[<- E];conv=>lhs;arg 1;rw[e]
  have:=wW (a:=aV p'.length++(p'++nq (fQ 0 p'))) (b:=[1]) 0;simpa using this
 have x:(cu p').length<=m:=by
  refine Nat.le_of_not_lt λX=>?_
  generalize(cu p').length=v at *;rw[h2]at j;have o:(((cu p).take m++replicate z 0).take v).getD (v-1) 0=((cu p).take m++replicate z 0).getD (v-1) 0:=by simp only[getD];rw[getElem?_take_of_lt (by omega)]
  rw[o]at j;have u:((cu p).take m).length=m:=by rw[length_take];omega
  rw[show v-1=((cu p).take m).length+(v-1-m)by omega,wW]at j;simp only[getD,getElem?_replicate]at j;split at j<;>simp at j
 have t:cu p'=(cu p).take (cu p').length:=by
  conv=>lhs;rw[h2]
  rw[take_append_of_le_length (by rw[length_take];omega),take_take,Nat.min_eq_left x]
 have n:cu p=cu p'++(cu p).drop (cu p').length:=by
  conv=>rhs;arg 1;rw[t]
  rw[take_append_drop]
 have q:fK (cu p) 0=some ((p.length:Int),(aV p.length).length):=by have:=pS [] (p++nq (fQ 0 p)++[1]) p.length (sE (by omega) (by omega));rw[tu h];simpa using this
 have w:fK (cu p) 0=some ((p'.length:Int),(aV p'.length).length):=by
  have:=pS [] ((p'++nq (fQ 0 p')++[1])++(cu p).drop (cu p').length) p'.length (sE (by omega) (by omega));rw[n];conv=>lhs;arg 1;arg 1;rw[tu A]
  simpa using this
 rw[q]at w;simp only[Option.some.injEq,Prod.mk.injEq]at w;have:p.length=p'.length:=by omega
 rw[<- this]at r;omega
structure Reads(l:List Int)(j:gP)(q:Option (List Int×Int))(bs:List (List Int)):Prop where
 len:l.length=j.n
 kD:aT l
 Ge:CU j q bs
 eO:jN l j.n=q
 ops:nG l j.n=bs
 jn:∀s,gm l j.n s = { j with s:=IntKind.i64.wrap (s+1) }
def CU.reads{j:gP}{q:Option (List Int×Int)}(h:CU j q bs):Reads j.l j q bs:=⟨h.ok.len,h.ok.kD,h,(h.opn 0).1,(h.opn 0).2.1,λs=>(h.opn s).2.2⟩
def KP{l x z:List Int}{a:Nat}(h:x.length<=z.length)(X:a+z.length<=l.length):br (br l a x) a z=br l a z:=by
 unfold br;have e:(l.take a++x++l.drop (a+x.length)).take a=l.take a:=by rw[append_assoc,take_append_of_le_length (by rw[length_take];omega),take_take,Nat.min_self]
 have V:(l.take a++x++l.drop (a+x.length)).drop (a+z.length)=l.drop (a+z.length):=by rw[drop_append,drop_eq_nil_of_le (by simp only[length_append,length_take];omega),nil_append,drop_drop];congr 1;simp only[length_append,length_take];omega
 rw[e,V]
def CU.Oo{j:gP}{q:Option (List Int×Int)}(h:CU j q bs){p:List Int}(O:aT p)(hr:j.room p.length=true)(K:j.cnt+1<=1000000000)(m:Nat)(H:m<=(fh j.cnt p).length) :
  Reads (br j.l (2*(j.n / 4)+j.us) ((fh j.cnt p).take m)) j q bs\/Reads (br j.l (2*(j.n / 4)+j.us) ((fh j.cnt p).take m)) (j.add p) q (bs++[p]):=by
 have E:=gP.vT hr;have hlen:=h.ok.len;have a:=h.ok.size;have y:=h.cnt;have A:=h.hi;by_cases b:m=(fh j.cnt p).length
 .right;have:=(h.add O hr K).reads;rw[b,take_of_length_le (Nat.le_refl _)];exact this
 left;have v:1<=(aV j.cnt++p).length/\(aV j.cnt++p).length<=4000:=by unfold gP.room ov rZ at hr;rw[Bool.and_eq_true,decide_eq_true_eq,decide_eq_true_eq]at hr;rw[length_append];omega
 have D:aT (fh j.cnt p):=lT ((kg _).cat O);have G:aT ((fh j.cnt p).take m):=λc K=>D c (mem_of_mem_take K)
 have T:((fh j.cnt p).take m).length=m:=by rw[length_take];omega
 have t:(br j.l (2*(j.n / 4)+j.us) ((fh j.cnt p).take m)).length=j.n:=by rw[dD (by omega),hlen]
 have x:Dv.jk (br j.l (2*(j.n / 4)+j.us) ((fh j.cnt p).take m)) (2*(j.n / 4)) (j.n-2*(j.n / 4))=(gK (eM q) bs,j.us):=by
  have X:∀r∈gK (eM q) bs,aT r/\1<=r.length/\r.length<=4000:=λr hr=>⟨yf bs _ h.kD r hr,h.rcs r hr⟩
  have U:=u5 h.rcs;have V:=h.us;have S:∀pre,aT pre->(cT (pre++((fh j.cnt p).take m++replicate (j.n-2*(j.n / 4)-j.us-m) 0)) pre.length).2.2≠1:=λpre k=>P0 pre _ k ((kg _).cat O) v m _ (by unfold fh at H b;omega)
  have:=CH _ (G.cat (jS _)) S (gK (eM q) bs) [] (j.n-2*(j.n / 4)+1) [] (λc K=>by cases K) X (by omega);unfold Dv.jk;rw[rV (by omega) (by omega) (by omega),h.seg,Nat.add_sub_cancel_left];have e:br (frames (gK (eM q) bs)++replicate (j.n-2*(j.n / 4)-j.us) 0) j.us ((fh j.cnt p).take m)=frames (gK (eM q) bs)++((fh j.cnt p).take m++replicate (j.n-2*(j.n / 4)-j.us-m) 0):=by
   conv=>lhs;arg 2;rw[h.us]
   rw[uO (by omega),T,append_assoc]
  rw[e];simp only[nil_append,length_nil,Nat.zero_add]at this;rw[this,<- V]
 have u:Dv.lV (br j.l (2*(j.n / 4)+j.us) ((fh j.cnt p).take m)) j.n=j.l:=by unfold Dv.lV;rw[x];show br (br _ _ _) _ (replicate (j.n-2*(j.n / 4)-j.us) 0)=_;rw[KP (by rw[T,length_replicate];omega) (by rw[length_replicate];omega)];have:=h.lV;unfold Dv.lV at this;rw[h.jk]at this;exact this
 have B:jN (br j.l (2*(j.n / 4)+j.us) ((fh j.cnt p).take m)) j.n=q:=by unfold jN;rw[u];exact h.load
 have w:zW (br j.l (2*(j.n / 4)+j.us) ((fh j.cnt p).take m)) j.n=gK (eM q) bs:=by unfold zW;rw[x]
 have o:nG (br j.l (2*(j.n / 4)+j.us) ((fh j.cnt p).take m)) j.n=bs:=by unfold nG;rw[B,w];exact u6 bs _ h.lo (by omega) h.one
 have J:Pe (br j.l (2*(j.n / 4)+j.us) ((fh j.cnt p).take m)) j.n=false:=by unfold Pe;rw[B,w];exact Cn bs _ h.lo (by omega)
 refine⟨t,kT h.ok.kD G,h,B,o,λs=>?_⟩;unfold gm;rw[J,if_neg (by decide),u,B,o,x,<- h.cnt,<- h.cA]
end
section
variable{t:Int}{c:av}{o:cr}{n k:Nat}
def ZY{p:Prop}[Decidable p]{a b:aa×Int}(X:p->a.1.term=t)(T:¬p->b.1.term=t):(if p then a else b).1.term=t:=by
 split
 .exact X ‹_›
 .exact T ‹_›
def ZX{p:Prop}[Decidable p]{a b:aa}(X:a.term=t)(T:b.term=t):(if p then a else b).term=t:=by
 split
 .exact X
 .exact T
def Qs{s:aa}(hk:o.kind≠21)(hr:1<=o.kind/\o.kind<=21):(bW c s o).1.term=s.term:=by unfold bW;simp only[jU,lI,lD,iX,sW,RD,pP,oP,lC,nP,kR,pg,uo,mP,iK,wG,nL,gT,eA,lP,gJ];repeat' first|rfl|(exfalso;omega)|refine ZY (λ_=>?_) (λ_=>?_)|refine ZX ?_ ?_
def CG{s:aa}(h:bU c s)(hk:o.kind≠21):(aW c s o).1.term=s.term:=by
 unfold aW yO;rw[if_neg (by rw[(eG c s).2 h];decide)];split
 .rfl
 rename_i h0;have:=tw (o:=o) (by simpa using h0);split
 .rfl
 split
 .rfl
 exact Qs hk this
def qj{s:aa}{r:List bE}{up:Bool}{o:cr} : ∀(l:List bh) (i:Nat),nh s r up l i=some o->o.kind≠21
 |[],i,h=>by cases h
 |n::l,i,h=>by
  unfold nh at h;split at h
  .split at h
   .rename_i p O;cases h;unfold Hg at O;split at O
    .cases O
    split at O
    .cases O;show(8:Int)≠21;decide
    split at O
    .cases O;show(19:Int)≠21;decide
    .cases O
   .exact qj l (i+1) h
  .exact qj l (i+1) h
def AU{s:aa}{r:List bE}{now:Int}{o:cr} : ∀(l:List bT) (k:Nat),tU s r now l k=some o->o.kind≠21
 |[],k,h=>by cases h
 |j::l,k,h=>by
  unfold tU at h;split at h
  .rename_i p O;cases h;unfold R5 at O;split at O
   .cases O;unfold EI;split
    .show (10:Int)≠21;decide
    split
    .show (15:Int)≠21;decide
    split
    .show (if j.epoch<j.inc then(⟨13,(k:Int)+1,j.inc,0,0,0,0⟩:cr)else⟨14,(k:Int)+1,0,0,0,0,0⟩).kind≠21;split
     .show (13:Int)≠21;decide
     .show (14:Int)≠21;decide
    .show (0:Int)≠21;decide
   .cases O
  .exact AU l (k+1) h
def LQ{s:aa}{r:List bE}{now:Int}(h:jg s r now=some o):o.kind≠21:=by
 unfold jg at h;split at h
 .rename_i p O;cases h;exact qj _ _ O
 split at h
 .rename_i p O;cases h;exact qj _ _ O
 .exact AU _ _ h
def Em{x:aF}{now:Int}{u:Option cr}(h:x.ki now (jg x.s (x.mJ x.lines.length) now) (kJ x.c x.s now)=some o):o.kind≠21:=by
 unfold aF.ki at h;split at h
 .cases h;show(7:Int)≠21;decide
 split at h
 .rename_i p O;cases h;exact LQ O
 .have:=O7 h;unfold Yn at this;have:=of_decide_eq_true this;omega
structure gC(c:av)(n k:Nat)(x:aF):Prop where
 fi:gy c k x
 du:∃q bs,Vi x q bs
 ct:x.j.cnt<=k
 tm:x.term<=x.s.term
 sz:x.j.n=n
 t0:0<=x.s.term/\x.s.term<=1000000
def gC.more{c:av}{n k H:Nat}{x:aF}(h:gC c n k x)(hk:k<=H):gC c n H x:=⟨h.fi.more hk,h.du,by have:=h.ct;omega,h.tm,h.sz,h.t0⟩
def BA(x:aF)(o:cr)(now:Int):(x.bC o now).j.n=x.j.n:=by
 have U:(x.bO o).n=x.j.n:=by
  unfold aF.bO aF.GQ;split
  .rfl
  split
  .rfl
  .exact gP.uL _ _
 unfold aF.bC;split
 .exact U
 .exact U
def qE(x:aF)(o:cr)(now:Int):(x.bC o now).term=x.term:=by unfold aF.bC;split<;>rfl
def wA{x:aF}{now:Int} : (x.bC o now).s=if x.dc o=0 then(aW x.c x.s o).1 else x.s:=by unfold aF.bC;split<;>rfl
def Ei{x:aF}(S:CL x)(hk:o.kind≠21)(now:Int):(x.bC o now).s.term=x.s.term:=by
 rw[wA];split
 .exact CG S.right hk
 .rfl
def gC.note{c:av}{n k:Nat}{x:aF}(h:gC c n k x)(hk:k<=1000){o:cr}(j:o.kind≠21){now:Int}(D:0<=now/\now<=1000000):gC c n (k+1) (x.bC o now):=by obtain⟨q,bs,hd⟩:=h.du;have K:=h.ct;obtain⟨m,B,U,h2⟩:=hd.note h.fi.ok o now (by omega);have u:=Ei h.fi.ok j now;exact⟨h.fi.note hk o D,⟨m,B,U⟩,by omega,by rw[qE,u];exact h.tm,by rw[BA];exact h.sz,by rw[u];exact h.t0⟩
def Ko(x:aF)(q:Option bE)(now:Int)(l:oM):∀m∈(ni x q now l).2.toList,m.term=x.s.term:=by
 unfold ni;split
 .intro m H;cases H
 .split
  .intro m H;simp at H;rw[H]
  split
  .intro m H;cases H
  .intro m H;simp at H;rw[H]
def AT(y:aF)(r:Int->Int)(now:Int):∀j,∀m∈(c_ y r now j).2,m.term=y.s.term
 |0,m,h=>by cases h
 |j+1,m,h=>by
  change m∈(c_ y r now j).2++_ at h;rcases mem_append.1 h with h|h
  .exact AT y r now j m h
  .rw [Ko _ _ _ _ m h,(ng y r now j).s]
def gC.MF{c:av}{n k:Nat}{y:aF}(h:gC c n k y)(r:Int->Int)(now:Int)(j:Nat):gC c n k (c_ y r now j).1:=by have u:=ng y r now j;obtain⟨q,bs,hd⟩:=h.du;exact⟨h.fi.MF r now j,⟨q,bs,by rw[u.j];exact hd.Ge,by rw[u.c,u.s];exact hd.rd⟩,by rw[u.j];exact h.ct,by rw[u.term,u.s];exact h.tm,by rw[u.j];exact h.sz,by rw[u.s];exact h.t0⟩
def aF.uF(x:aF)(now:Int):Option cr:=jg x.s (x.mJ x.lines.length) now
def aF.pF(x:aF)(now:Int):Option cr:=kJ x.c x.s now
def aF.mid(x:aF)(now:Int):aF:=x.iu now (x.uF now) (x.pF now)
def aF.JC(x:aF)(now:Int):cr:=x.GL now (x.uF now) (x.pF now)
def aF.s8(x:aF)(now:Int):aF×List bE:=c_ (x.mid now) (Ua (x.mid now).s (x.mid now).sh) now x.lines.length
def Pw{x:aF}(h:gC c n k x)(hk:k<=1000){now:Int}(D:0<=now/\now<=1000000):aS dh 104 [.ptr 0 0,.int now] (bX x) (.cZ [qD (x.JC now),Nh (x.s8 now).2]) (bX (x.s8 now).1)/\gC c n (k+1) (x.s8 now).1/\(x.s8 now).1.s.term=x.s.term/\(x.s8 now).1.term=x.term/\(x.s8 now).2.length<=6/\(∀m∈(x.s8 now).2,m.term=x.s.term)/\
  ((aW c x.s (x.JC now)=((x.s8 now).1.s,0)/\(x.JC now).kind≠0/\(x.JC now).kind≠21)\/(x.JC now=fW/\(x.s8 now).1.s=x.s)):=by
 have a:=h.fi.ok.lines;have E:=h.fi.ok.right.len;have T:=h.fi.ok.right.jobs;have q:gC c n (k+1) (x.iu now (jg x.s (x.mJ x.lines.length) now) (kJ x.c x.s now))/\(x.iu now (jg x.s (x.mJ x.lines.length) now) (kJ x.c x.s now)).s.term=x.s.term/\(x.iu now (jg x.s (x.mJ x.lines.length) now) (kJ x.c x.s now)).term=x.term:=by
  unfold aF.iu;split
  .rename_i o O;have J:=Em (u:=none) O;exact⟨h.note hk J D,Ei h.fi.ok J now,qE _ _ _⟩
  .exact ⟨h.more (le_succ _),rfl,rfl⟩
 obtain⟨q,r,t⟩:=q;have K:=X3 x h.fi.ok h.fi.dn now D h.fi.hr (jg x.s (x.mJ x.lines.length) now) (kJ x.c x.s now) (Du x.s _ now (by omega) (by omega)) (Su x.c x.s h.fi.ok.right now D) (Ua (x.iu now (jg x.s (x.mJ x.lines.length) now) (kJ x.c x.s now)).s (x.iu now (jg x.s (x.mJ x.lines.length) now) (kJ x.c x.s now)).sh) (λi hi=>by have hr:=q.fi.ok.right;have w:=hr.jobs;refine Pd _ _ hr _ i (by rw[<- q.fi.ok.lines];exact hi) _ _ _ _ (λj hj=>?_);exact T_ _ (by omega) _ _ _ _ q.fi.sz (λe v=>(hr.num e v).epoch.1) j hj);have V:=Q_ h.fi.cf now (jg x.s (x.mJ x.lines.length) now) (kJ x.c x.s now);unfold aF.s8 aF.JC aF.mid aF.uF aF.pF;refine⟨K,q.MF _ now x.lines.length,?_,?_,?_,λm H=>?_,?_⟩
 .rw [(ng _ _ _ _).s];exact r
 .rw [(ng _ _ _ _).term];exact t
 .have:=xT (x.iu now (jg x.s (x.mJ x.lines.length) now) (kJ x.c x.s now)) (Ua (x.iu now (jg x.s (x.mJ x.lines.length) now) (kJ x.c x.s now)).s (x.iu now (jg x.s (x.mJ x.lines.length) now) (kJ x.c x.s now)).sh) now x.lines.length;omega
 .rw [AT _ _ _ _ m H];exact r
 .rw [(ng _ _ _ _).s];rcases V with ⟨U,_,B⟩|⟨U,h2,_⟩
  .refine .inl ⟨U,B,λb=>?_⟩;unfold aF.GL at b;split at b
   .rename_i o O;split at b
    .exact Em (u:=none) O b
    .cases b
   .cases b
  .exact .inr ⟨U,h2⟩
def gC.aaq{c:av}{n k:Nat}{x:aF}(h:gC c n k x)(m:bE){now:Int}(D:0<=now/\now<=1000000):gC c n k (x.jw m now)/\(x.jw m now).s=x.s/\(x.jw m now).term=x.term:=by
 obtain⟨U,h2,B⟩:=h.fi.aaq m D;obtain⟨q,bs,hd⟩:=h.du;have o:(x.jw m now).j=x.j:=by unfold aF.jw;split<;>rfl
 have V:(x.jw m now).c=x.c:=by unfold aF.jw;split<;>rfl
 have X:(x.jw m now).term=x.term:=by unfold aF.jw;split<;>rfl
 exact⟨⟨U,⟨q,bs,by rw[o];exact hd.Ge,by rw[V,h2];exact hd.rd⟩,by rw[o];exact h.ct,by rw[X,h2];exact h.tm,by rw[o];exact h.sz,by rw[h2];exact h.t0⟩,h2,X⟩
def Ex{sh:List eE}(h:iH sh)(jobs:List bT):∀k,iH (kZ jobs sh k)
 |0=>h
 |k+1=>by
  have o:=Ex h jobs k;show iH (BT (kZ jobs sh k) k (jobs.getD k az));unfold BT;split
  .exact o.set _ xZ
  split
  .exact o.set _ (EU (o.one _) _)
  .exact o
def Lf(h:gq c=true)(D:64<=n/\n<=65536)(room:Int):gC c n 1 (Jd c n 0 room 0 (replicate 25 gU) 0 0):=by
 have h0:gC c n 0 (pq c n 0 room 0 (replicate 25 gU) 0 0):=by
  have V:(dN c).term=0:=by unfold dN;rw[if_pos h]
  have b:=Gz h D 0 room 0 (replicate 25 gU) (by rw[length_replicate]) 0 0;refine⟨⟨b,rfl,rfl,?_,?_,⟨Int.le_refl _,Int.le_refl _⟩⟩,⟨none,[],⟨b.jn,BM _ _ _ (by show 0+2*(n / 4)<=n;omega),rfl,rfl,Int.le_refl _,by show(0:Int)<=_;omega,?_,rfl,λr hr=>(by cases hr),λr hr=>(by cases hr),λr hr=>(by cases hr)⟩,rfl⟩,Int.le_refl _,by show(0:Int)<=(dN c).term;omega,rfl,by show 0<=(dN c).term/\(dN c).term<=1000000;omega⟩
  .intro l Z;change l∈replicate _ (Lb 0)at Z;rw[eq_of_mem_replicate Z];exact⟨Int.le_refl _,by show(0:Int)<=_;omega⟩
  .exact iH.zero
  .show rW (replicate n 0) (2*(n / 4)) (n-2*(n / 4))=[]++replicate (n-2*(n / 4)-0) 0;unfold rW;rw[drop_replicate,take_replicate,Nat.min_self];rfl
 obtain⟨q,bs,hd⟩:=h0.du;have J:=LL h D 0 room 0 (replicate 25 gU) 0 0;obtain⟨m,B,U,h2⟩:=hd.note h0.fi.ok bL 0 (by show(0:Int)+1<=_;omega);have hs:((pq c n 0 room 0 (replicate 25 gU) 0 0).bC bL 0).s = { dN c with term:=1 }:=by rw[wA,if_pos J];show(aW c (dN c) bL).1=_;rw[AR h]
 have u:(Jd c n 0 room 0 (replicate 25 gU) 0 0).term=1:=by show(if _>_ then _ else _)=_;rw[qE,hs];exact if_pos (show(1:Int)>0 by decide)
 refine⟨LP h D room,⟨m,B,U.Ge,U.rd⟩,?_,?_,?_,?_⟩
 .show ((pq c n 0 room 0 (replicate 25 gU) 0 0).bC bL 0).j.cnt<=_;have:(pq c n 0 room 0 (replicate 25 gU) 0 0).j.cnt=0:=rfl;omega
 .rw [u];show(1:Int)<=((pq c n 0 room 0 (replicate 25 gU) 0 0).bC bL 0).s.term;rw[hs];exact Int.le_refl _
 .show ((pq c n 0 room 0 (replicate 25 gU) 0 0).bC bL 0).j.n=n;rw[BA];rfl
 .show 0<=((pq c n 0 room 0 (replicate 25 gU) 0 0).bC bL 0).s.term/\((pq c n 0 room 0 (replicate 25 gU) 0 0).bC bL 0).s.term<=1000000;rw[hs];exact⟨by show(0:Int)<=1;decide,by show(1:Int)<=1000000;decide⟩
def EZ(c:av)(l:List Int)(n:Nat)(s room term:Int)(sh:List eE)(wr now:Int)(t:aa):Int:=(eX c (gm l n s) room term sh wr now t).dc bL
def NB(c:av)(l:List Int)(n:Nat)(s room term:Int)(sh:List eE)(wr now:Int)(t:aa):aF:=if(eX c (gm l n s) room term sh wr now t).dc bL=0 then((eX c (gm l n s) room term sh wr now t).bC bL now).Jp else(eX c (gm l n s) room term sh wr now t).bC bL now
def Jn{l:List Int}{j:gP}{q:Option (List Int×Int)}{bs:List (List Int)}{t:aa}(K:Reads l j q bs)(T:iB c (nC q) bs=some t)(r:j.n=n)(hct:j.cnt<=k)(s room term:Int)(sh:List eE)(wr:Int)(hs:sh.length=25)(V:iH sh)(O:term<=t.term)(Ht:0<=t.term/\t.term<=1000000)(H:gq c=true)(hk:k<=1001){now:Int}(D:0<=now/\now<=1000000) :
  ∃e y,(e=EZ c l j.n s room term sh wr now t/\y=NB c l j.n s room term sh wr now t)/\aS dh 28 [eD c,.ptr 0 0,.ptr 2 0,.int now] (wO l s++eF room term sh wr) (.cZ [if e=0 then .ptr 3 0 else wE,.int e]) (if e=0 then uq y else wO y.j.l y.j.s++eF y.room y.term y.sh y.wr)/\
  gC c n (k+1) y/\(e=0\/e=3)/\(e=0->aW c t bL=({ t with term:=t.term+1 },0)/\y.s = { t with term:=t.term+1 }/\y.term=y.s.term/\y.dM=1)/\(e≠0->y.s=t):=by
 have u:=K.Ge.ok.size;have a:=UK c H j.n u l K.len K.kD s room term sh hs wr now D;have hX:CL (eX c (gm l j.n s) room term sh wr now t):=Jo (zb H T) (MY _ u K.len K.kD) hs;have A:gy c 0 (eX c (gm l j.n s) room term sh wr now t):=⟨hX,rfl,rfl,λl Z=>by change l∈replicate _ (Lb now)at Z;rw[eq_of_mem_replicate Z];exact D,V,⟨Int.le_refl _,Int.le_refl _⟩⟩;have hD:Vi (eX c (gm l j.n s) room term sh wr now t) q bs:=⟨by show CU (gm l j.n s) q bs;rw[K.jn];exact K.Ge.sync _,T⟩;have G:(eX c (gm l j.n s) room term sh wr now t).j.cnt=j.cnt:=by show(gm l j.n s).cnt=_;rw[K.jn]
 have adf:(eX c (gm l j.n s) room term sh wr now t).j.n=n:=by show(gm l j.n s).n=n;rw[KR];exact r
 have b:(eX c (gm l j.n s) room term sh wr now t).s=t:=rfl;have hxt:(eX c (gm l j.n s) room term sh wr now t).term=term:=rfl;have hxo:(eX c (gm l j.n s) room term sh wr now t).dM=0:=rfl;have S:eF room term sh wr=eF (eX c (gm l j.n s) room term sh wr now t).room (eX c (gm l j.n s) room term sh wr now t).term (eX c (gm l j.n s) room term sh wr now t).sh (eX c (gm l j.n s) room term sh wr now t).wr:=rfl;unfold ND at a;rw[K.eO,K.ops,T]at a;dsimp only at a;unfold EZ NB;generalize eX c (gm l j.n s) room term sh wr now t=X at *;have w:=A.note (by omega) bL D;obtain⟨q',B,x,o⟩:=hD.note hX bL now (by omega);have hc3:(X.bC bL now).j.cnt<=((k+1:Nat):Int):=by omega
 have hn3:(X.bC bL now).j.n=n:=by rw[BA];exact adf
 have hut:=qE X bL now;have hxc:=A.cf;rcases Zs hX with v|v
 .rw [if_pos v]at a;have E:=Zr hX v;rw[hxc,b]at E;have Xl:(X.bC bL now).s = { t with term:=t.term+1 }:=by rw[wA,if_pos v,hxc,b,E]
  have m:(X.bC bL now).dM=1:=by unfold aF.bC;rw[if_pos v];show IntKind.i64.wrap (X.dM+1)=1;rw[hxo];rfl
  have U:t.term+1<=1000000:=by
   have:=(kq v).1;rw[sZ ((eG _ _).2 hX.right) (by decide) (by decide) (by decide)]at this;change(d_ X.s).2=0 at this;unfold d_ at this;rw[b]at this;split at this
   .cases this
   .omega
  have hfd:(X.bC bL now).Jp.term=t.term+1:=by show(if(X.bC bL now).s.term>(X.bC bL now).term then(X.bC bL now).s.term else(X.bC bL now).term)=_;rw[hut,hxt,Xl,if_pos (show t.term+1>term by omega)]
  refine⟨0,_,⟨v.symm,(if_pos v).symm⟩,gd.up a kP,⟨⟨⟨w.ok.right,w.ok.jn,?_,w.ok.lines⟩,w.cf,w.dn,w.hr,Ex w.sz _ _,⟨w.nt.1,by show(X.bC bL now).dM<=_;rw[m];omega⟩⟩,⟨q',B,x.Ge,x.rd⟩,hc3,?_,hn3,?_⟩,.inl rfl,λ_=>⟨E,Xl,?_,m⟩,λh=>absurd rfl h⟩
  .show (kZ _ _ _).length=25;rw[uS];exact w.ok.sh
  .rw [hfd];show _<=(X.bC bL now).s.term;rw[Xl];exact Int.le_refl _
  .show 0<=(X.bC bL now).s.term/\(X.bC bL now).s.term<=1000000;rw[Xl];exact⟨by show 0<=t.term+1;omega,U⟩
  .rw [hfd];show _=(X.bC bL now).s.term;rw[Xl]
 .rw [if_neg (by rw[v];decide),v]at a;have J:¬X.dc bL=0:=by rw[v];decide
  have Xl:(X.bC bL now).s=t:=by rw[wA,if_neg J];exact b
  have hYs:eF (X.bC bL now).room (X.bC bL now).term (X.bC bL now).sh (X.bC bL now).wr=eF X.room X.term X.sh X.wr:=by unfold aF.bC;rw[if_neg J]
  refine⟨3,_,⟨v.symm,(if_neg J).symm⟩,?_,⟨w.more (by omega),⟨q',B,x⟩,hc3,by rw[hut,Xl,hxt];exact O,hn3,by rw[Xl];exact Ht⟩,.inr rfl,λh=>(by cases h),λ_=>Xl⟩;rw[if_neg (by decide),if_neg (by decide),hYs,<- S];exact gd.up a kP
structure zP(c:av)(n k:Nat)(l:List Int)(t:aa)(term:Int):Prop where
 ex:∃j q bs,Reads l j q bs/\iB c (nC q) bs=some t/\j.n=n/\j.cnt<=k
 tm:term<=t.term
 t0:0<=t.term/\t.term<=1000000
 len:l.length=n
def zP.more{H:Nat}{l:List Int}{t:aa}{term:Int}(h:zP c n k l t term)(hk:k<=H):zP c n H l t term:=by obtain⟨j,q,bs,U,h2,B,y⟩:=h.ex;exact⟨⟨j,q,bs,U,h2,B,by omega⟩,h.tm,h.t0,h.len⟩
def gC.reads{c:av}{n k:Nat}{x:aF}(h:gC c n k x):zP c n k x.j.l x.s x.term:=by obtain⟨q,bs,hd⟩:=h.du;exact⟨⟨x.j,q,bs,hd.Ge.reads,by have:=hd.rd;rwa [h.fi.cf]at this,h.sz,h.ct⟩,h.tm,h.t0,by rw[h.fi.ok.jn.len,h.sz]⟩
def Kl{x:aF}(h:gC c n k x)(hk:k<=1000)(o:cr)(keep:Int):∃t,(t=x.s\/(x.C8 o=0/\t=(aW c x.s o).1))/\zP c n (k+1) (x.gI o keep).j.l t x.term:=by
 obtain⟨q,bs,hd⟩:=h.du;have b:=h.fi.cf;have E:=h.ct;have S:=h.fi.ok;have J:=hd.rd;rw[b]at J;unfold aF.gI aF.C8;by_cases e:1<=o.kind/\o.kind<=6;case neg=>simp only[if_neg e];exact⟨x.s,.inl rfl,h.reads.more (le_succ _)⟩
 simp only[if_pos e];obtain⟨A,w,V,O⟩:=hd.fresh S o;have y:=Ch x o
 have r:(x.bO o).n=n:=by rw[<- h.sz];unfold aF.bO aF.GQ;split;· rfl
                         split;· rfl
                         .exact gP.uL _ _
 rw[b]at O;have m:o.kind≠21:=by omega
 by_cases v:x.dc o=0;case neg=>simp only[if_neg v];exact⟨x.s,.inl rfl,⟨_,_,_,V.reads,O,r,by omega⟩,h.tm,h.t0,by rw[V.ok.len,r]⟩
 simp only[if_pos v];obtain⟨g1,g2,_⟩:=kq v;have a:0<=x.j.cnt:=by have:=hd.Ge.cnt;have:=hd.Ge.lo;omega
 have u:h_ keep (fh (x.bO o).cnt (fF o))<=(fh (x.bO o).cnt (fF o)).length:=by unfold h_;omega
 unfold gP.Oo;dsimp only;rcases V.Oo (Bf o) g2 (by omega) _ u with K|K
 .exact ⟨x.s,.inl rfl,⟨_,_,_,K,O,r,by omega⟩,h.tm,h.t0,by rw[K.len,r]⟩
 .have U:=CG S.right m;rw[b]at U g1;have X:=Bc (Yq (by rw[<- b];exact S.right) g1) O g1;exact⟨_,.inr ⟨v,rfl⟩,⟨_,_,_,K,X,r,by show IntKind.i64.wrap ((x.bO o).cnt+1)<=_;rw[aH (by omega) (by omega)];omega⟩,by rw[U];exact h.tm,by rw[U];exact h.t0,by rw[K.len];exact r⟩
end
def O5{m:bE}(h:jd m=true):aT (mB m)/\1<=(mB m).length/\(mB m).length<=4100:=by have U:=yz h;have h2:=D_ U.1 (by omega);unfold mB;exact⟨lT (yy _),h2.1,by omega⟩
def oc.drop{N:bY}(h:oc N)(i:Nat):oc (N.drop i):=by
 have hs:∀p∈(N.drop i).ps,p∈N.ps:=λp O=>by
  rcases mem_append.1 O with O|O
  .exact mem_of_mem_take O
  .exact mem_of_mem_drop O
 refine⟨?_,λp O=>h.at_ p (hs p O),h.rng⟩;have:=h.few;show(N.ps.take i++N.ps.drop (i+1)).length<=40;rw[length_append,length_take,length_drop];omega
def oc.add{N:bY}(h:oc N)(A:N.ps.length<40){b:List Int}(T:aT b)(U:1<=b.length/\b.length<=4100)(t:Bool)(v:Nat)(s:Int):oc ⟨v,N.ps++[⟨N.bs.length,b.length,t⟩],N.bs++[b],s⟩:=by
 refine⟨by show(N.ps++[_]).length<=40;rw[length_append];simp;omega,λp O=>?_,λx S=>?_⟩
 .rcases mem_append.1 O with O|O
  .obtain ⟨y,h2,B⟩:=h.at_ p O;exact⟨y,by show(N.bs++[b])[p.key]? = _;rw[getElem?_append_left (List.getElem?_eq_some_iff.1 h2).1];exact h2,B⟩
  .obtain rfl:=mem_singleton.1 O;exact⟨b,by show(N.bs++[b])[N.bs.length]? = _;rw[getElem?_append_right (Nat.le_refl _),Nat.sub_self];rfl,rfl,U⟩
 .rcases mem_append.1 S with S|S
  .exact h.rng x S
  .obtain rfl:=mem_singleton.1 S;exact T
def oc.kH{N:bY}(h:oc N)(m:bE):oc (N.kH m).2:=by
 unfold bY.kH;split
 .exact h
 .rename_i K;have hr:jd m=true:=by simpa usingλe=>K (.inr e)
  obtain⟨U,h2⟩:=O5 hr;exact h.add (by omega) U h2 _ _ _
def oc.jD{N:bY}(h:oc N):∀l:List bE,oc (jD N l):=by
 intro l;unfold Dv.jD
 induction l generalizing N with
 |nil=>exact h
 |cons m l o=>exact o (h.kH m)
def oc.rq{N:bY}(h:oc N)(i:Int):oc (N.rq i).2:=by
 unfold bY.rq;split
 .exact h.drop _
 .exact h
def oc.bu{N:bY}(h:oc N)(i:Int):oc (N.bu i).2:=by
 unfold bY.bu;split
 .exact h.drop _
 .exact h
def oc.me{N:bY}(h:oc N)(i:Int):oc (N.me i).2:=by
 unfold bY.me;split
 .exact h
 .rename_i K;have T:N.hasB i=true:=by simpa usingλe=>K (.inl e)
  obtain⟨_,_,B,y,A⟩:=h.kD (kX T).2;exact h.add (by omega) A ⟨B,y⟩ _ _ _
def oc.Vf{N:bY}(h:oc N)(i j:Int):oc (N.Vf i j).2:=by
 unfold bY.Vf;split;case isFalse=>exact h
 rename_i K;have hi:=(kX K.1).2;have H:N.ps.getD i.toNat An∈N.ps:=by rw[getD,getElem?_eq_getElem hi];exact getElem_mem hi
 obtain⟨b,T,m,a⟩:=h.at_ _ H;have r:N.kD i.toNat=b:=by unfold bY.kD;rw[getD,T];rfl
 unfold bY.flip;rw[r];generalize S:IW _ _=x;have v:0<=x/\x<=255:=by rw[<- S];unfold IW vC;exact RE _
 generalize(j.tdiv 8).toNat=q;generalize N.ps.getD i.toNat An=p at *;have u:∀c∈b.set q x,0<=c/\c<=255:=λc K=>by
  rcases mem_or_eq_of_mem_set K with K|rfl
  .exact h.rng b (mem_of_getElem? T) c K
  .exact v
 have hk:=(List.getElem?_eq_some_iff.1 T).1;have o:∀p':U4,(∃y,N.bs[p'.key]? = some y/\y.length=p'.len/\1<=p'.len/\p'.len<=4100)->∃y,(N.bs.set p.key (b.set q x))[p'.key]? = some y/\y.length=p'.len/\1<=p'.len/\p'.len<=4100:=by
  rintro p' ⟨y,U,h2,B⟩;by_cases e:p.key=p'.key
  .rw [<- e]at U ⊢;rw[T]at U;obtain rfl:=Option.some.inj U;exact⟨_,getElem?_set_self hk,by rw[length_set];exact h2,B⟩
  .exact ⟨y,by rw[getElem?_set_ne e];exact U,h2,B⟩
 refine⟨by show(List.set _ _ _).length<=40;rw[length_set];exact h.few,λp' O=>?_,λy E=>?_⟩
 .rcases mem_or_eq_of_mem_set O with O|rfl
  .exact o p' (h.at_ p' O)
  .exact o _ ⟨b,T,m,a⟩
 .rcases mem_or_eq_of_mem_set E with E|rfl
  .exact h.rng y E
  .exact u
section
variable{c:av}{n k:Nat}{x:aF}{t:aa}{r:Int}{e:dL}
def OF{sh:List eE}(h:iH sh)(room term wr t aM U:Int){d:List Int}(hd:aT d):iH (rT room term sh wr t aM U d).2.1:=by
 unfold rT;split
 .exact h
 split
 .exact h
 split
 .exact h
 rename_i K;split
 .exact h
 split
 .exact h
 split
 .exact h
 .exact h.set _ ⟨(h.one _).1,by show d.length<=100;omega,hd,λ_ e=>K (.inr (.inr (.inl (by have e:d=[]:=e;rw[e];rfl))))⟩
def Ou(n:Int):aT (tT (aV n)):=by
 unfold tT;intro c K;rcases mem_append.1 K with K|K
 .exact F1 _ c K
 .exact F1 _ c K
def Wl{sh:List eE}(h:iH sh)(a:zm)(m:bE)(now room term wr:Int):iH (a.tN m now room term sh wr).2.1:=by
 unfold zm.tN;split
 .exact h
 split
 .exact h
 split
 .exact h
 split
 .unfold zm.MM;split
  .split
   .split<;>exact OF h _ _ _ _ _ _ (Ou _)
   .exact h
  .exact h
 .exact h
def gC.store(h:gC c n k x){sh:List eE}(hs:iH sh)(wr:Int):gC c n k { x with sh:=sh,wr:=wr }:=by obtain⟨⟨⟨U,h2,B,y⟩,A,o,u,D,V⟩,⟨q,bs,m,O⟩,E,b,a,j⟩:=h;exact⟨⟨⟨U,h2,hs.len,y⟩,A,o,u,hs,V⟩,⟨q,bs,m,O⟩,E,b,a,j⟩
structure WD where
 c:av
 now:Int
 ag:List zm
 N:bY
 steps:Int
 kn:Bool
 up:Bool
 x:aF
 g:ah×ah×ah×ah×ah
def WD.xv(w:WD):LV:=if w.up=true then .ptr 7 0 else dZ
def WD.post(w:WD):List LV:=cI w.xv w.steps (jt w.kn) (Aa w.kn)
def WD.q7(w:WD):ah×ah×ah×ah×ah×ah×ah:=(tc w.x.j.n w.x.j.s,qh w.x.j.l,if w.up=true then gX w.x else w.g)
def WD.q(w:WD):O9:=(eP w.ag,om w.x.room w.x.term w.x.sh w.x.wr,w.q7)
def WD.O(w:WD):List ah:=cB w.c w.now w.ag.length w.N w.post w.q
def WD.OB(w:WD)(g:ah×ah×ah×ah×ah):List ah:=wB w.c w.now w.ag w.N w.steps (jt w.kn) (Aa w.kn) w.x g++iw w.x
structure WI(c:av)(n k:Nat)(t:aa)(w:WD):Prop where
 cf:w.c=c
 now:0<=w.now/\w.now<=k
 ag:(w.ag.length:Int)=c.nodes
 N:oc w.N
 st:0<=w.steps/\w.steps<=k
 up:w.up=true->gC c n k w.x/\w.x.s=t
 dn:w.up=false->zP c n k w.x.j.l t w.x.term/\Ds w.g/\iH w.x.sh/\w.x.j.n=n
def WI.g{w:WD}(h:WI c n k t w):Ds (if w.up=true then gX w.x else w.g):=by
 split
 .exact IQ _
 .rename_i y;exact(h.dn (by simpa using y)).2.1
def WI.sh{w:WD}(h:WI c n k t w):iH w.x.sh:=by
 cases y:w.up with
 |true=>exact(h.up y).1.fi.sz
 |false=>exact(h.dn y).2.2.1
def WI.rD{w:WD}(h:WI c n k t w):rD w.post w.q7:=by
 have V:=h.g;unfold WD.post WD.q7;generalize(if w.up=true then gX w.x else w.g)=g at *;refine⟨?_,?_⟩
 .unfold cI WD.xv;have u:=ot w.kn;cases w.up<;>simp[dZ,bn,bV,LV.int,u]
 .unfold Ds at V;simp only[all_cons,all_nil,Bool.and_true,Bool.and_eq_true]at V ⊢;exact⟨rfl,rfl,V⟩
def WI.rI{w:WD}(h:WI c n k t w):eZ w.post w.q:=KF h.rD _ _ _ _ _
def WI.bV{w:WD}(h:WI c n k t w):w.O.all (aP 12)=true:=eu h.rI
def SC(w:WD)(e:dL)(r:Int)(w':WD):Prop:=
 if w.up=false/\w'.up=true then aS dh 17 [.ptr 0 0,cN e] w.O (.int r) (w'.OB w.g)else aS dh 17 [.ptr 0 0,cN e] w.O (.int r) w'.O
def WD.eR(w:WD):WD:={ w with steps:=IntKind.i64.wrap (w.steps+1),kn:=true }
variable {c:av} {n k:Nat} {t:aa} {w:WD}
def WI.eR(h:WI c n k t w)(hk:k<=1000):WI c n (k+1) t w.eR:=by have S:w.eR.steps=w.steps+1:=aH (by have:=h.st;omega) (by have:=h.st;omega);exact⟨h.cf,by have:=h.now;show 0<=w.now/\w.now<=_;omega,h.ag,h.N,by rw[S];have:=h.st;omega,λy=>⟨(h.up y).1.more (le_succ _),(h.up y).2⟩,λy=>⟨(h.dn y).1.more (le_succ _),(h.dn y).2⟩⟩
def kI(h:WI c n k t w)(e:dL)(i f:Nat)(hk:e.kind=i)(b:1<=i/\i<=14)(a:uD[i]? = some (CZ f)){w':WD}{H:Nat}{t':aa}(X:WI c n H t' w')(T:¬(w.up=false/\w'.up=true))(A:aS dh f [.ptr 0 0,cN e] w.eR.O (.int r) w'.O):SC w e r w':=by unfold SC;rw[if_neg T];exact RT e w.kn i f hk b a h.rI (.int r) w'.O rfl X.bV rfl A
def WD.CS(y:w.up=true):w.O=wU w.c w.now w.ag w.N w.steps (jt w.kn) (Aa w.kn) w.x:=by unfold WD.O WD.post WD.q WD.q7 WD.xv;rw[if_pos y,if_pos y];rfl
def WD.ac3(y:w.up=false):w.O=wN w.c w.now w.ag w.N w.steps (jt w.kn) (Aa w.kn) w.x.j.n w.x.j.l w.x.j.s w.x.room w.x.term w.x.sh w.x.wr w.g:=by unfold WD.O WD.post WD.q WD.q7 WD.xv;rw[if_neg (by rw[y];decide),if_neg (by rw[y];decide)];rfl
def U6(p:aa×Int):Prop:=0<=p.2/\p.2<=100
def Uu{P:Prop}[Decidable P]{a b:aa×Int}(U:U6 a)(h2:U6 b):U6 (if P then a else b):=by
 split
 .exact U
 .exact h2
def aaC(s:aa)(e:Int)(h:0<=e/\e<=100):U6 (s,e):=h
def QT(c:av)(s:aa)(o:cr):U6 (aW c s o):=by unfold aW yO bW jU lI lD iX sW RD pP oP lC nP kR pg uo mP iK wG nL gT d_;repeat' (first|exact aaC _ _ (by decide)|apply Uu)
def XQ(x:aF)(o:cr):0<=x.C8 o/\x.C8 o<=100:=by
 have:=QT x.c x.s o;unfold aF.C8 aF.dc;repeat' split
 all_goals first|exact⟨by decide,by decide⟩|exact this
def Te{z:Int}(h:0<=z/\z<=100):wF z=0-z:=aH (by omega) (by omega)
def WD.fc(w:WD)(e:dL):Int×WD:=
 if e.kind<1\/e.kind>14 then(-1,{ w with steps:=IntKind.i64.wrap (w.steps+1) })
 else if e.kind=1 then(0,{ w.eR with now:=vI w.now })
 else if e.kind=2 then(if w.up=true then((w.x.JC w.now).kind,{ w.eR with N:=jD w.N (w.x.s8 w.now).2,x:=(w.x.s8 w.now).1 })else(-9,w.eR))
 else if e.kind=3 then((CK w.ag e.a w.now).1,{ w.eR with ag:=(CK w.ag e.a w.now).2 })
 else if e.kind=4 then((rO w.ag w.N e.a).1,{ w.eR with N:=(rO w.ag w.N e.a).2 })
 else if e.kind=5 then(match(w.N.bu e.a).1 with
  |none=>(0,{ w.eR with N:=(w.N.bu e.a).2 })
  |some m=>if m.kind=6 then(if w.up=true then(jt (w.x.zn m),{ w.eR with N:=(w.N.bu e.a).2,x:=w.x.jw m w.now })else(0,{ w.eR with N:=(w.N.bu e.a).2 }))
   else if(0<=m.node/\m.node<w.ag.length)/\(w.ag.getD m.node.toNat kB).fits m then(1,{ w.eR with ag:=w.ag.set m.node.toNat (((w.ag.getD m.node.toNat kB).seen m).tN m w.now w.x.room w.x.term w.x.sh w.x.wr).1,N:=((w.N.bu e.a).2.kH ((((w.ag.getD m.node.toNat kB).seen m).tN m w.now w.x.room w.x.term w.x.sh w.x.wr).1.tell m.node.toNat)).2,x:={ w.x with sh:=(((w.ag.getD m.node.toNat kB).seen m).tN m w.now w.x.room w.x.term w.x.sh w.x.wr).2.1,wr:=(((w.ag.getD m.node.toNat kB).seen m).tN m w.now w.x.room w.x.term w.x.sh w.x.wr).2.2 } })
   else(0,{ w.eR with N:=(w.N.bu e.a).2 }))
 else if e.kind=6 then(jt (w.N.rq e.a).1,{ w.eR with N:=(w.N.rq e.a).2 })
 else if e.kind=7 then(jt (w.N.me e.a).1,{ w.eR with N:=(w.N.me e.a).2 })
 else if e.kind=8 then(jt (w.N.Vf e.a e.b).1,{ w.eR with N:=(w.N.Vf e.a e.b).2 })
 else if e.kind=9 then((iy w.ag e.a true zm.fail).1,{ w.eR with ag:=(iy w.ag e.a true zm.fail).2 })
 else if e.kind=10 then((iy w.ag e.a false zm.back).1,{ w.eR with ag:=(iy w.ag e.a false zm.back).2 })
 else if e.kind=11 then(if w.up=true then(wF (w.x.C8 e.op),{ w.eR with x:=w.x.Rk e.op w.now })else(-9,w.eR))
 else if e.kind=12 then(if w.up=true then(1,{ w.eR with up:=false,g:=gX w.x })else(-9,w.eR))
 else if e.kind=13 then(if w.up=true then(wF (w.x.C8 e.op),{ w.eR with up:=false,x:=w.x.gI e.op e.a,g:=gX (w.x.gI e.op e.a) })else(-9,w.eR))
 else if w.up=true then(-5,w.eR)else
  (match iB w.c (nC (jN w.x.j.l w.x.j.n)) (nG w.x.j.l w.x.j.n)with
  |none=>(-2,w.eR)
  |some t=>(wF (EZ w.c w.x.j.l w.x.j.n w.x.j.s w.x.room w.x.term w.x.sh w.x.wr w.now t),{ w.eR with up:=decide (EZ w.c w.x.j.l w.x.j.n w.x.j.s w.x.room w.x.term w.x.sh w.x.wr w.now t=0),x:=NB w.c w.x.j.l w.x.j.n w.x.j.s w.x.room w.x.term w.x.sh w.x.wr w.now t }))
structure WL(c:av)(e:dL)(r:Int)(t t':aa):Prop where
 no:e.kind≠2->e.kind≠11->e.kind≠13->e.kind≠14->t'=t
 act:e.kind=2->(∃o:cr,r=o.kind/\o.kind≠0/\o.kind≠21/\aW c t o=(t',0))\/(t'=t/\r<=0)
 ask:e.kind=11->(r=0/\(1<=e.op.kind/\e.op.kind<=6)/\aW c t e.op=(t',0))\/(r<0/\t'=t)
 Oo:e.kind=13->t'=t\/(r=0/\(1<=e.op.kind/\e.op.kind<=6)/\aW c t e.op=(t',0))
 acp:e.kind=14->(r=0/\aW c t bL=(t',0)/\t' = { t with term:=t.term+1 })\/(r<0/\t'=t)
def WL.same(h:e.kind≠2/\e.kind≠11/\e.kind≠13/\e.kind≠14):WL c e r t t:=⟨λ_ _ _ _=>rfl,λv=>absurd v h.1,λv=>absurd v h.2.1,λv=>absurd v h.2.2.1,λv=>absurd v h.2.2.2⟩
def WL.err(h:r<0):WL c e r t t:=⟨λ_ _ _ _=>rfl,λ_=>.inr ⟨rfl,by omega⟩,λ_=>.inr ⟨h,rfl⟩,λ_=>.inl rfl,λ_=>.inr ⟨h,rfl⟩⟩
def WS(c:av)(n k:Nat)(t:aa)(w:WD)(e:dL):Prop:=∃r w' t',w.fc e=(r,w')/\SC w e r w'/\WI c n (k+1) t' w'/\WL c e r t t'/\w'.steps=w.steps+1/\w'.now=(if e.kind=1 then w.now+1 else w.now)/\
 (w.up=false->e.kind≠14->w'.up=false/\t'=t/\(e.kind=2\/e.kind=11\/e.kind=12\/e.kind=13->r = -9))/\(w.up=true->e.kind=12->w'.up=false/\t'=t)
def WI.steps(h:WI c n k t w)(hk:k<=1000):w.eR.steps=w.steps+1:=aH (by have:=h.st;omega) (by have:=h.st;omega)
section
variable (h:WI c n k t w) (hk:k<=1000) (e:dL)
include h hk
theorem aa4(v:e.kind<1\/e.kind>14):WS c n k t w e:=by
 have hs:=h.steps hk;have U:=h.eR hk;refine⟨-1,{ w with steps:=IntKind.i64.wrap (w.steps+1) },t,by unfold WD.fc;rw[if_pos v],?_,⟨U.cf,U.now,U.ag,U.N,U.st,U.up,U.dn⟩,.err (by decide),hs,?_,λy _=>⟨y,rfl,λS=>by omega⟩,λ_ S=>by omega⟩
 .unfold SC;rw[if_neg (by intro S;have:=S.1.symm.trans S.2;cases this)];exact Ku e v h.rI (ot _)
 .rw [if_neg (by omega)]
theorem Vl(v:e.kind=1):WS c n k t w e:=by
 have hs:=h.steps hk;have U:=h.eR hk;have D:=h.now;have u:vI w.now=w.now+1:=by unfold vI;rw[aH (by omega) (by omega),if_pos (by omega)]
 have h2:WI c n (k+1) t { w.eR with now:=vI w.now }:=⟨U.cf,by show 0<=vI w.now/\vI w.now<=_;rw[u];omega,U.ag,U.N,U.st,U.up,U.dn⟩;refine⟨0,{ w.eR with now:=vI w.now },t,by unfold WD.fc;simp[v],kI h e 1 _ v (by decide) rfl h2 ?_ (N0 e U.rI),h2,.same (by omega),hs,?_,λy _=>⟨y,rfl,λS=>by omega⟩,λ_ S=>by omega⟩
 .intro S;have:=S.1.symm.trans S.2;cases this
 .rw [if_pos v];exact u
theorem AB(i f:Nat)(hi:e.kind=i)(b:3<=i/\i<=10)(T:uD[i]? = some (CZ f))(r:Int)(ag:List zm)(N:bY)(u:ag.length=w.ag.length)(a:oc N)(A:aS dh f [.ptr 0 0,cN e] w.eR.O (.int r) { w.eR with ag:=ag,N:=N }.O)(E:w.fc e=(r,{ w.eR with ag:=ag,N:=N }))(H:i≠5):WS c n k t w e:=by
 have hs:=h.steps hk;have U:=h.eR hk;have h2:WI c n (k+1) t { w.eR with ag:=ag,N:=N }:=⟨U.cf,U.now,by show(ag.length:Int)=_;rw[u];exact U.ag,a,U.st,U.up,U.dn⟩;refine⟨r,_,t,E,kI h e i f hi (by omega) T h2 ?_ A,h2,.same (by omega),hs,?_,λy _=>⟨y,rfl,λS=>by omega⟩,λ_ S=>by omega⟩
 .intro S;have:=S.1.symm.trans S.2;cases this
 .rw [if_neg (by omega)];rfl
theorem Zl(v:e.kind=3):WS c n k t w e:=by
 have U:=h.eR hk;have Z:(CK w.ag e.a w.now).2.length=w.ag.length:=by
  unfold CK;split
  .rfl
  .exact length_set ..
 refine AB h hk e 3 _ v (by decide) rfl (CK w.ag e.a w.now).1 (CK w.ag e.a w.now).2 w.N Z h.N ?_ (by unfold WD.fc;simp[v];rfl) (by decide);have:=Ol (G:=dh) (c:=w.c) (now:=w.now) (N:=w.N) e U.rI;show gd _ _ _ _ _ _ (cB w.c w.now (CK w.ag e.a w.now).2.length w.N w.eR.post (eP (CK w.ag e.a w.now).2,w.eR.q.2));rw[Z];exact this
theorem Vm(v:e.kind=4):WS c n k t w e:=by
 have U:=h.eR hk;refine AB h hk e 4 _ v (by decide) rfl (rO w.ag w.N e.a).1 w.ag (rO w.ag w.N e.a).2 rfl ?_ (JY (G:=dh) (c:=w.c) (now:=w.now) e U.rI) (by unfold WD.fc;simp[v];rfl) (by decide);unfold rO Hi;split
 .exact h.N
 split
 .exact h.N.kH _
 .exact h.N
theorem Vp(v:e.kind=6):WS c n k t w e:=
 AB h hk e 6 _ v (by decide) rfl _ w.ag _ rfl (h.N.rq e.a) (Oi (G:=dh) (c:=w.c) (now:=w.now) (na:=w.ag.length) e h.N (h.eR hk).rI) (by unfold WD.fc;simp[v];exact⟨rfl,rfl⟩) (by decide)
theorem Rr(v:e.kind=7):WS c n k t w e:=
 AB h hk e 7 _ v (by decide) rfl _ w.ag _ rfl (h.N.me e.a) (JX (G:=dh) (c:=w.c) (now:=w.now) (na:=w.ag.length) e h.N (h.eR hk).rI) (by unfold WD.fc;simp[v];exact⟨rfl,rfl⟩) (by decide)
theorem Vn(v:e.kind=8)(T:e.b<=9223372036854775807):WS c n k t w e:=
 AB h hk e 8 _ v (by decide) rfl _ w.ag _ rfl (h.N.Vf e.a e.b) (Og (G:=dh) (c:=w.c) (now:=w.now) (na:=w.ag.length) e h.N T (h.eR hk).rI) (by unfold WD.fc;simp[v];exact⟨rfl,rfl⟩) (by decide)
theorem Vo(v:e.kind=9):WS c n k t w e:=by have U:=h.eR hk;have Z:=DJ w.ag e.a true zm.fail;refine AB h hk e 9 _ v (by decide) rfl (iy w.ag e.a true zm.fail).1 (iy w.ag e.a true zm.fail).2 w.N Z h.N ?_ (by unfold WD.fc;simp[v];rfl) (by decide);have:=Oh (G:=dh) (c:=w.c) (now:=w.now) (N:=w.N) e U.rI;show gd _ _ _ _ _ _ (cB w.c w.now (iy w.ag e.a true zm.fail).2.length w.N w.eR.post (eP (iy w.ag e.a true zm.fail).2,w.eR.q.2));rw[Z];exact this
theorem Vr(v:e.kind=10):WS c n k t w e:=by have U:=h.eR hk;have Z:=DJ w.ag e.a false zm.back;refine AB h hk e 10 _ v (by decide) rfl (iy w.ag e.a false zm.back).1 (iy w.ag e.a false zm.back).2 w.N Z h.N ?_ (by unfold WD.fc;simp[v];rfl) (by decide);have:=aef (G:=dh) (c:=w.c) (now:=w.now) (N:=w.N) e U.rI;show gd _ _ _ _ _ _ (cB w.c w.now (iy w.ag e.a false zm.back).2.length w.N w.eR.post (eP (iy w.ag e.a false zm.back).2,w.eR.q.2));rw[Z];exact this
omit h hk in
theorem Nf(y:w.up=false/\w.up=true):False:=by have:=y.1.symm.trans y.2;cases this
omit h hk in
theorem FF(v:e.kind=5){m:bE}(H:(w.N.bu e.a).1=some m)(o:m.kind≠6):w.fc e=if(0<=m.node/\m.node<w.ag.length)/\(w.ag.getD m.node.toNat kB).fits m then(1,{ w.eR with ag:=w.ag.set m.node.toNat (((w.ag.getD m.node.toNat kB).seen m).tN m w.now w.x.room w.x.term w.x.sh w.x.wr).1,N:=((w.N.bu e.a).2.kH ((((w.ag.getD m.node.toNat kB).seen m).tN m w.now w.x.room w.x.term w.x.sh w.x.wr).1.tell m.node.toNat)).2,x:={ w.x with sh:=(((w.ag.getD m.node.toNat kB).seen m).tN m w.now w.x.room w.x.term w.x.sh w.x.wr).2.1,wr:=(((w.ag.getD m.node.toNat kB).seen m).tN m w.now w.x.room w.x.term w.x.sh w.x.wr).2.2 } })
  else(0,{ w.eR with N:=(w.N.bu e.a).2 }):=by
 unfold WD.fc;simp only[v,H,o,if_false];rfl
theorem J9(v:e.kind=5):WS c n k t w e:=by
 have U:=h.eR hk;have hs:=h.steps hk;have q:=h.N.bu e.a;have K:¬e.kind=1:=by omega
 have B:∀{r:Int} {w':WD},w'.up=w.up->w.up=false->e.kind≠14->w'.up=false/\t=t/\(e.kind=2\/e.kind=11\/e.kind=12\/e.kind=13->r = -9):=λy hd _=>⟨y.trans hd,rfl,λS=>by omega⟩
 cases H:(w.N.bu e.a).1 with
 |none=>have h2:WI c n (k+1) t { w.eR with N:=(w.N.bu e.a).2 }:=⟨U.cf,U.now,U.ag,q,U.st,U.up,U.dn⟩;exact⟨0,_,t,by unfold WD.fc;simp[v,H],kI h e 5 _ v (by decide) rfl h2 Nf (Fp e h.N H U.rD),h2,.same (by omega),hs,(if_neg K).symm,B rfl,λ_ S=>by omega⟩
 |some m=>
 by_cases o:m.kind=6
 .cases y:w.up with
  |true=>obtain⟨u,b⟩:=U.up y;have E:=u.aaq m (now:=w.now) (by have:=h.now;omega);have h2:WI c n (k+1) t { w.eR with N:=(w.N.bu e.a).2,x:=w.x.jw m w.now }:=⟨U.cf,U.now,U.ag,q,U.st,λ_=>⟨E.1,E.2.1.trans b⟩,λhd=>by rw[show w.up=false from hd]at y;cases y⟩;refine⟨jt (w.x.zn m),_,t,by unfold WD.fc;simp[v,H,o,y],kI h e 5 _ v (by decide) rfl h2 Nf ?_,h2,.same (by omega),hs,(if_neg K).symm,λhd=>(by rw[hd]at y;cases y),λ_ S=>by omega⟩;rw[WD.CS (w:=w.eR) y,WD.CS (w:={ w.eR with N:=(w.N.bu e.a).2,x:=w.x.jw m w.now }) y];exact Fq w.x u.fi.dn u.fi.ok.lines e h.N m H o rfl
  |false=>
   have h2:WI c n (k+1) t { w.eR with N:=(w.N.bu e.a).2 }:=⟨U.cf,U.now,U.ag,q,U.st,U.up,U.dn⟩;refine⟨0,_,t,by unfold WD.fc;simp[v,H,o,y],kI h e 5 _ v (by decide) rfl h2 Nf ?_,h2,.same (by omega),hs,(if_neg K).symm,λhd S=>B (r:=0) (w':={ w.eR with N:=(w.N.bu e.a).2 }) rfl (y.trans hd.symm▸hd) S,λS=>(by rw[y]at S;cases S)⟩;have hr:=U.rD;have O:w.eR.post=cI dZ w.eR.steps 1 uD:=by unfold WD.post WD.xv;rw[if_neg (show¬w.eR.up=true by rw[show w.eR.up=false from y];decide)];rfl
   rw[O]at hr;show gd _ _ _ _ (wD w.c w.now w.ag w.N w.eR.post w.x.room w.x.term w.x.sh w.x.wr w.q7) _ (wD w.c w.now w.ag (w.N.bu e.a).2 w.eR.post w.x.room w.x.term w.x.sh w.x.wr w.q7);rw[O];exact AF e h.N m H o rfl hr
 by_cases A:0<=m.node/\m.node<w.ag.length;case neg=>have h2:WI c n (k+1) t { w.eR with N:=(w.N.bu e.a).2 }:=⟨U.cf,U.now,U.ag,q,U.st,U.up,U.dn⟩;exact⟨0,_,t,by rw[FF e v H o,if_neg (λS=>A S.1)],kI h e 5 _ v (by decide) rfl h2 Nf (GX e h.N m H o A U.rD),h2,.same (by omega),hs,(if_neg K).symm,B rfl,λ_ S=>by omega⟩
 obtain⟨i,hi⟩:∃i:Nat,m.node=i:=⟨m.node.toNat,by omega⟩;by_cases D:(w.ag.getD i kB).fits m;case neg=>have h2:WI c n (k+1) t { w.eR with N:=(w.N.bu e.a).2 }:=⟨U.cf,U.now,U.ag,q,U.st,U.up,U.dn⟩;exact⟨0,_,t,by rw[FF e v H o,hi,toNat_natCast,if_neg (λS=>D S.2)],kI h e 5 _ v (by decide) rfl h2 Nf (Kc e h.N m H o i hi (show i<w.ag.length by omega) D rfl U.rD),h2,.same (by omega),hs,(if_neg K).symm,B rfl,λ_ S=>by omega⟩
 obtain⟨z,j⟩:∃z,((w.ag.getD i kB).seen m).tN m w.now w.x.room w.x.term w.x.sh w.x.wr=z:=⟨_,rfl⟩;have J:iH z.2.1:=by rw[<- j];exact Wl h.sh _ _ _ _ _ _
 have hlen:(w.ag.set i z.1).length=w.ag.length:=length_set ..;have h2:WI c n (k+1) t { w.eR with ag:=w.ag.set i z.1,N:=((w.N.bu e.a).2.kH (z.1.tell i)).2,x:={ w.x with sh:=z.2.1,wr:=z.2.2 } }:=
  ⟨U.cf,U.now,by show((w.ag.set i z.1).length:Int)=_;rw[hlen];exact h.ag,q.kH _,U.st,λy=>⟨(U.up y).1.store J _,(U.up y).2⟩,λhd=>⟨(U.dn hd).1,(U.dn hd).2.1,J,(U.dn hd).2.2.2⟩⟩
 exact⟨1,_,t,by rw[FF e v H o,hi,toNat_natCast,j,if_pos ⟨by omega,D⟩],kI h e 5 _ v (by decide) rfl h2 Nf (Fo e h.N m H o i hi (show i<w.ag.length by omega) D h.sh z j rfl U.rD),h2,.same (by omega),hs,(if_neg K).symm,B rfl,λ_ S=>by omega⟩
omit h hk in
theorem Ja{o:cr}(S:x.C8 o=0):(1<=o.kind/\o.kind<=6)/\aW x.c x.s o=((aW x.c x.s o).1,0):=by
 unfold aF.C8 at S;split at S
 .rename_i hk;refine⟨hk,?_⟩;have:=(kq S).1;rw[<- this]
 .cases S
omit h hk in
theorem Y7(x:aF)(o:cr)(now:Int):(x.Rk o now).s=if x.C8 o=0 then(aW x.c x.s o).1 else x.s:=by
 unfold aF.Rk aF.C8;split
 .exact wA
 .rfl
omit h hk in
theorem VB(x:aF)(o:cr)(keep:Int):(x.gI o keep).j.n=x.j.n/\(x.gI o keep).term=x.term/\(x.gI o keep).sh=x.sh:=by
 have hj:(x.bO o).n=x.j.n:=by
  unfold aF.bO aF.GQ;split
  .rfl
  split
  .rfl
  .exact gP.uL _ _
 unfold aF.gI;split
 .refine ⟨?_,rfl,rfl⟩;dsimp only
  split<;>exact hj
 .exact ⟨rfl,rfl,rfl⟩
theorem Rs(v:e.kind=12):WS c n k t w e:=by
 have U:=h.eR hk;have hs:=h.steps hk;have K:¬e.kind=1:=by omega
 cases y:w.up with
 |false=>exact⟨-9,w.eR,t,by unfold WD.fc;simp[v,y],kI h e 12 _ v (by decide) rfl U Nf (by rw[WD.ac3 (w:=w.eR) y];exact Fs e rfl (h.dn y).2.1),U,.err (by decide),hs,(if_neg K).symm,λ_ _=>⟨y,rfl,λ_=>rfl⟩,λS=>(by rw[y]at S;cases S)⟩
 |true=>obtain⟨u,b⟩:=U.up y;have hr:=u.reads;rw[show w.eR.x.s=t from b]at hr;have h2:WI c n (k+1) t { w.eR with up:=false,g:=gX w.x }:=⟨U.cf,U.now,U.ag,U.N,U.st,nofun,λ_=>⟨hr,IQ _,u.fi.sz,u.sz⟩⟩;refine⟨1,_,t,by unfold WD.fc;simp[v,y],kI h e 12 _ v (by decide) rfl h2 (λS=>by cases S.2) ?_,h2,.same (by omega),hs,(if_neg K).symm,λhd=>(by rw[hd]at y;cases y),λ_ _=>⟨rfl,rfl⟩⟩;rw[WD.CS (w:=w.eR) y,WD.ac3 (w:={ w.eR with up:=false,g:=gX w.x }) rfl];exact Ke w.x u.fi.ok.jn.len e rfl
theorem Vk(v:e.kind=13):WS c n k t w e:=by
 have U:=h.eR hk;have hs:=h.steps hk;have K:¬e.kind=1:=by omega
 cases y:w.up with
 |false=>exact⟨-9,w.eR,t,by unfold WD.fc;simp[v,y],kI h e 13 _ v (by decide) rfl U Nf (by rw[WD.ac3 (w:=w.eR) y];exact GS e rfl (h.dn y).2.1),U,.err (by decide),hs,(if_neg K).symm,λ_ _=>⟨y,rfl,λ_=>rfl⟩,λS=>(by rw[y]at S;cases S)⟩
 |true=>
  obtain⟨u,b⟩:=h.up y;obtain⟨t',j,hr⟩:=Kl u hk e.op e.a;obtain⟨o,V,X⟩:=VB w.x e.op e.a;have h2:WI c n (k+1) t' { w.eR with up:=false,x:=w.x.gI e.op e.a,g:=gX (w.x.gI e.op e.a) }:=⟨U.cf,U.now,U.ag,U.N,U.st,nofun,λ_=>⟨by show zP _ _ _ _ _ (w.x.gI e.op e.a).term;rw[V];exact hr,IQ _,by show iH (w.x.gI e.op e.a).sh;rw[X];exact u.fi.sz,o.trans u.sz⟩⟩;refine⟨wF (w.x.C8 e.op),_,t',by unfold WD.fc;simp[v,y],kI h e 13 _ v (by decide) rfl h2 (λS=>by cases S.2) ?_,h2,⟨λ_ _ S=>absurd v S,λS=>by omega,λS=>by omega,λ_=>?_,λS=>by omega⟩,hs,(if_neg K).symm,λhd=>(by rw[hd]at y;cases y),λ_ S=>by omega⟩;rotate_left
  .rcases j with rfl|⟨h0,rfl⟩
   .exact .inl b
   .obtain ⟨g1,g2⟩:=Ja h0;rw[u.fi.cf,b]at g2;refine .inr ⟨by rw[h0];rfl,g1,?_⟩;rw[b];exact g2
  rw[WD.CS (w:=w.eR) y,WD.ac3 (w:={ w.eR with up:=false,x:=w.x.gI e.op e.a,g:=gX (w.x.gI e.op e.a) }) rfl];exact NZ w.x u.fi.ok u.fi.dn e rfl
theorem Zk(v:e.kind=11):WS c n k t w e:=by
 have U:=h.eR hk;have hs:=h.steps hk;have K:¬e.kind=1:=by omega
 cases y:w.up with
 |false=>exact⟨-9,w.eR,t,by unfold WD.fc;simp[v,y],kI h e 11 _ v (by decide) rfl U Nf (by rw[WD.ac3 (w:=w.eR) y];exact Kg e rfl (h.dn y).2.1),U,.err (by decide),hs,(if_neg K).symm,λ_ _=>⟨y,rfl,λ_=>rfl⟩,λS=>(by rw[y]at S;cases S)⟩
 |true=>
  obtain⟨u,b⟩:=h.up y;have D:0<=w.now/\w.now<=1000000:=by have:=h.now;omega
  have E:gC c n (k+1) (w.x.Rk e.op w.now):=by
   unfold aF.Rk;split
   .exact u.note hk (by omega) D
   .exact u.more (le_succ _)
  have h2:WI c n (k+1) (w.x.Rk e.op w.now).s { w.eR with x:=w.x.Rk e.op w.now }:=⟨U.cf,U.now,U.ag,U.N,U.st,λ_=>⟨E,rfl⟩,λhd=>by rw[show w.up=false from hd]at y;cases y⟩;refine⟨wF (w.x.C8 e.op),_,_,by unfold WD.fc;simp[v,y],kI h e 11 _ v (by decide) rfl h2 Nf ?_,h2,⟨λ_ S=>absurd v S,λS=>by omega,λ_=>?_,λS=>by omega,λS=>by omega⟩,hs,(if_neg K).symm,λhd=>(by rw[hd]at y;cases y),λ_ S=>by omega⟩;rotate_left
  .have J:=XQ w.x e.op;by_cases h0:w.x.C8 e.op=0
   .obtain ⟨g1,g2⟩:=Ja h0;rw[Y7,if_pos h0];rw[u.fi.cf,b]at g2;exact .inl ⟨by rw[h0];rfl,g1,by rw[u.fi.cf,b];exact g2⟩
   .rw [Y7,if_neg h0,Te J];exact .inr ⟨by omega,b⟩
  rw[WD.CS (w:=w.eR) y,WD.CS (w:={ w.eR with x:=w.x.Rk e.op w.now }) y];exact Ry w.x u.fi.ok u.fi.dn e rfl
theorem J_(v:e.kind=2):WS c n k t w e:=by
 have U:=h.eR hk;have hs:=h.steps hk;have K:¬e.kind=1:=by omega
 cases y:w.up with
 |false=>exact⟨-9,w.eR,t,by unfold WD.fc;simp[v,y],kI h e 2 _ v (by decide) rfl U Nf (by rw[WD.ac3 (w:=w.eR) y];exact AG e rfl (h.dn y).2.1),U,.err (by decide),hs,(if_neg K).symm,λ_ _=>⟨y,rfl,λ_=>rfl⟩,λS=>(by rw[y]at S;cases S)⟩
 |true=>
  obtain⟨u,b⟩:=h.up y;have D:0<=w.now/\w.now<=1000000:=by have:=h.now;omega
  obtain⟨q,E,_,_,A,_,V⟩:=Pw u hk D;have h2:WI c n (k+1) (w.x.s8 w.now).1.s { w.eR with N:=jD w.N (w.x.s8 w.now).2,x:=(w.x.s8 w.now).1 }:=⟨U.cf,U.now,U.ag,h.N.jD _,U.st,λ_=>⟨E,rfl⟩,λhd=>by rw[show w.up=false from hd]at y;cases y⟩;refine⟨(w.x.JC w.now).kind,_,_,by unfold WD.fc;simp[v,y],kI h e 2 _ v (by decide) rfl h2 Nf ?_,h2,⟨λS=>absurd v S,λ_=>?_,λS=>by omega,λS=>by omega,λS=>by omega⟩,hs,(if_neg K).symm,λhd=>(by rw[hd]at y;cases y),λ_ S=>by omega⟩;rotate_left
  .rw [b]at V;rcases V with ⟨g1,g2,g3⟩|⟨g1,g2⟩
   .exact .inl ⟨_,rfl,g2,g3,g1⟩
   .exact .inr ⟨g2,by rw[g1];exact Int.le_refl _⟩
  rw[WD.CS (w:=w.eR) y,WD.CS (w:={ w.eR with N:=jD w.N (w.x.s8 w.now).2,x:=(w.x.s8 w.now).1 }) y];exact Ft w.x _ _ _ (by omega) q e rfl
omit h hk in
theorem RU(v:e.kind=14)(y:w.up=false)(T:iB w.c (nC (jN w.x.j.l w.x.j.n)) (nG w.x.j.l w.x.j.n)=some t):w.fc e=(wF (EZ w.c w.x.j.l w.x.j.n w.x.j.s w.x.room w.x.term w.x.sh w.x.wr w.now t),{ w.eR with up:=decide (EZ w.c w.x.j.l w.x.j.n w.x.j.s w.x.room w.x.term w.x.sh w.x.wr w.now t=0),x:=NB w.c w.x.j.l w.x.j.n w.x.j.s w.x.room w.x.term w.x.sh w.x.wr w.now t }):=by unfold WD.fc;simp only[v,y,T];rfl
theorem Vq(H:gq c=true)(v:e.kind=14):WS c n k t w e:=by
 have U:=h.eR hk;have hs:=h.steps hk;have K:¬e.kind=1:=by omega
 cases o:w.up with
 |true=>exact⟨-5,w.eR,t,by unfold WD.fc;simp[v,o],kI h e 14 _ v (by decide) rfl U Nf (by rw[WD.CS (w:=w.eR) o];exact GY w.x e rfl),U,.err (by decide),hs,(if_neg K).symm,λhd=>(by rw[hd]at o;cases o),λ_ S=>by omega⟩
 |false=>
  obtain⟨⟨⟨j,q,bs,r1,r2,r3,r4⟩,Rh,Ht,B⟩,V,J,r⟩:=h.dn o;have D:0<=w.now/\w.now<=1000000:=by have:=h.now;omega
  obtain⟨z,y,⟨TL,hy1⟩,Z,u,a,hz0,hy⟩:=Jn r1 r2 r3 r4 w.x.j.s w.x.room w.x.term w.x.sh w.x.wr J.len J Rh Ht H (by omega) D;have hcf:=h.cf;have hjj:j.n=w.x.j.n:=r3.trans r.symm;have b:=r1.eO;have m:=r1.ops;rw[hjj]at TL hy1 b m;have T:iB w.c (nC (jN w.x.j.l w.x.j.n)) (nG w.x.j.l w.x.j.n)=some t:=by rw[hcf,b,m];exact r2
  have E:=RU e v o T;rw[hcf,<- TL,<- hy1]at E;rcases a with rfl|rfl
  .rw [if_pos rfl,if_pos rfl]at Z;have h2:WI c n (k+1) y.s { w.eR with up:=true,x:=y }:=⟨U.cf,U.now,U.ag,U.N,U.st,λ_=>⟨u,rfl⟩,nofun⟩;obtain⟨X,A,_⟩:=hz0 rfl;refine⟨0,_,_,E,?_,h2,⟨λ_ _ _ S=>absurd v S,λS=>by omega,λS=>by omega,λS=>by omega,λ_=>.inl ⟨rfl,by rw[A];exact X,A⟩⟩,hs,(if_neg K).symm,λ_ S=>absurd v S,λ_ S=>by omega⟩;unfold SC;rw[if_pos ⟨o,rfl⟩];refine Oz e w.kn v h.rI (wB w.c w.now w.ag w.N (IntKind.i64.wrap (w.steps+1)) 1 uD y w.g) (iw y) rfl rfl (xP y V rfl) ?_;show gd _ _ _ _ w.eR.O _ _;rw[WD.ac3 (w:=w.eR) o];subst hcf;show gd _ _ _ _ (wN w.c w.now w.ag w.N (IntKind.i64.wrap (w.steps+1)) 1 uD w.x.j.n w.x.j.l w.x.j.s w.x.room w.x.term w.x.sh w.x.wr w.g) _ _;exact Oj (B.trans r.symm) y Z e rfl V
  .rw [if_neg (by decide),if_neg (by decide)]at Z;have Z6:y.j.l.length=w.x.j.n:=by rw[u.fi.ok.jn.len,u.sz,r]
   have hr:=u.reads;rw[hy (by decide)]at hr;have h2:WI c n (k+1) t { w.eR with x:=y }:=⟨U.cf,U.now,U.ag,U.N,U.st,λhd=>(by rw[show w.up=true from hd]at o;cases o),λ_=>⟨hr,V,u.fi.sz,u.sz⟩⟩;refine⟨wF 3,_,t,E.trans (by rw[<- (show w.eR.up=decide ((3:Int)=0)from o)]),kI h e 14 _ v (by decide) rfl h2 Nf ?_,h2,.err (by decide),hs,(if_neg K).symm,λ_ S=>absurd v S,λ_ S=>by omega⟩;rw[WD.ac3 (w:=w.eR) o,WD.ac3 (w:={ w.eR with x:=y }) o];subst hcf;show gd _ _ _ _ (wN w.c w.now w.ag w.N (IntKind.i64.wrap (w.steps+1)) 1 uD w.x.j.n w.x.j.l w.x.j.s w.x.room w.x.term w.x.sh w.x.wr w.g) _ (wN w.c w.now w.ag w.N (IntKind.i64.wrap (w.steps+1)) 1 uD y.j.n y.j.l y.j.s y.room y.term y.sh y.wr w.g);rw[u.sz,<- r];exact Fu (B.trans r.symm) 3 y Z6 Z e rfl V
theorem uy(H:gq c=true)(T:e.b<=9223372036854775807):WS c n k t w e:=by
 by_cases Z:e.kind<1\/e.kind>14
 .exact aa4 h hk e Z
 rcases(show e.kind=1\/e.kind=2\/e.kind=3\/e.kind=4\/e.kind=5\/e.kind=6\/e.kind=7\/e.kind=8\/e.kind=9\/e.kind=10\/e.kind=11\/e.kind=12\/e.kind=13\/e.kind=14 by omega)with v|v|v|v|v|v|v|v|v|v|v|v|v|v
 .exact Vl h hk e v
 .exact J_ h hk e v
 .exact Zl h hk e v
 .exact Vm h hk e v
 .exact J9 h hk e v
 .exact Vp h hk e v
 .exact Rr h hk e v
 .exact Vn h hk e v T
 .exact Vo h hk e v
 .exact Vr h hk e v
 .exact Zk h hk e v
 .exact Rs h hk e v
 .exact Vk h hk e v
 .exact Vq h hk e H v
end
end
def NA(c:av):ah:=.box 23 [.int c.nodes,.int c.bA,.int c.cF,.int c.gQ,.int c.bD,.int c.ej,.int c.deadline,.int c.room,.int c.fT]
def wNw(c:av)(k:Nat)(xv:LV):ah:=.box 85 [.int c.nodes,.int c.bA,.int c.cF,.int c.gQ,.int c.bD,.int c.ej,.int c.deadline,.int c.room,.int c.fT,.int 0,.sl 5 k 10 0 k,.sl 6 0 2 0 0,.int 0,.ptr 1 0,.ptr 2 0,xv,.int 0,.d (.val (.int .u32 0)),.d (.val (.int .i32 0)),.d (.val (.int .u32 0)),nF,nF,nF,nF,nF,nF,nF,nF,nF,nF,nF,nF,nF,nF,nF]
def SX(c:av)(n:Nat)(room:Int)(sh:List eE)(m k:Nat):St:=⟨[(1,.ptr 0 0),(3,.ptr 4 0),(17,.int m),(18,.int k)],
 [some (NA c),some (om room 0 sh 0),some (.box 123 [.sl 3 n 1 0 n,.d (.val (.slice none 0 0)),.int 0]),some (qh (replicate n 0)),some (wNw c k dZ),some (eP (replicate k kB)),some (.lr 137 2 0 []),some (.l_ 5 [])]⟩
def WD.new(c:av)(n:Nat):WD:=⟨c,0,replicate c.nodes.toNat kB,⟨0,[],[],0⟩,0,false,true,Jd c n 0 (if c.room>0 then c.room else 0) 0 (replicate 25 gU) 0 0,gX (Jd c n 0 (if c.room>0 then c.room else 0) 0 (replicate 25 gU) 0 0)⟩
def Rv{c:av}(H:gq c=true){n:Nat}(D:c.fT=n)(a:64<=n/\n<=65536)(K:1<=c.nodes):WI c n 1 (WD.new c n).x.s (WD.new c n):=by have u:=Lf H a (if c.room>0 then c.room else 0);refine⟨rfl,⟨Int.le_refl _,zero_le_ofNat _⟩,?_,⟨zero_le _,nofun,nofun⟩,⟨Int.le_refl _,zero_le_ofNat _⟩,λ_=>⟨u,rfl⟩,nofun⟩;show((replicate c.nodes.toNat kB).length:Int)=c.nodes;rw[length_replicate];omega
def GU(c:av)(H:gq c=true)(n:Nat)(D:c.fT=n)(a:64<=n/\n<=65536)(K:1<=c.nodes/\c.nodes<=1000):aS dh 8 [eD c] [] (.ptr 0 0) (WD.new c n).O:=by
 have v:=wH (G:=dh) c;rw[H]at v;have r:=zF (G:=dh) n (by omega) (by omega);have y:=FD (G:=dh) c.room;have T:=gd.up (QJ c H n a 0 (if c.room>0 then c.room else 0) 0 (replicate 25 gU) (by rw[length_replicate]) 0 0 (by decide)) kP;have u:=QZ (G:=dh);unfold WD.new WD.O WD.post WD.q WD.q7 WD.xv;dsimp only;generalize V:Jd c n 0 (if c.room>0 then c.room else 0) 0 (replicate 25 gU) 0 0=x0 at *;generalize J:replicate 25 gU=sh at *;generalize(if c.room>0 then c.room else 0)=room at *;obtain⟨m,x⟩:∃m:Nat,c.nodes=m:=⟨c.nodes.toNat,by omega⟩;rw[x,toNat_natCast];simp only[wO,length_replicate]at r T;simp only[eF,uq,ET,sA]at y T;rw[<- D]at r;simp only[tR,kB]at u;refine tW func8 ?_;simp only[x,go_sem]at v T ⊢;refine a_ v ?_;refine s_ y rfl rfl rfl ?_;simp only[go_sem];refine CP r ?_;refine dQ ?_;refine aQ [1,3,17,18] [.b 4 10 56 10,.l 4 11 137 2,.nb 5] (λk:Nat=>k<=m) (λk=>m-k) (SX c n room sh m) 0 ?_ (zero_le _) (λk hk=>?_)
 .simp only[SX,NA,wNw,om,qh,eP,dZ,nF,x,replicate_zero,Int.natCast_zero,go_sem]
 by_cases X:k<m;case neg=>
  obtain rfl:k=m:=by omega
  simp only[SX,NA,wNw,om,qh,eP,dZ,nF,x,Int.lt_irrefl,go_sem];refine fV [2,3,1] T ?_;refine dQ ?_;have E:(replicate k kB).length=k:=length_replicate;refine ue [] [4,6,7,5,1,2,3,8,9,10,11,12] [] (vs:=[.ptr 4 0]) rfl rfl (by decide) (by simp) (by simp) ?_ ?_ ?_
  .simp only[cB,Ez,cI,eP,om,tc,qh,gX,GO,GN,Da,Db,aL,Aa,VF,nF,jt,E,x,map_cons,map_nil,bP,kC,rn,gF,kQ,flatMap_nil,LV.int,LV.bool,bH,qM];rfl
  .exact eu (rU _ _ _ rfl _)
  .simp [aR,aB]
 have o:(replicate k kB).length=k:=length_replicate;have j:(replicate (k+1) kB).map zN=(replicate k kB).map zN++[[.val (.bool true),.val (.int .i64 0),.val (.int .i64 0),.val (.int .i64 0),.val (.int .i64 0),.val (.int .i64 0),.val (.int .i64 1),.val (.int .i64 0),.val (.int .i64 0),.val (.int .i64 0)]]:=by rw[replicate_succ',map_append];rfl
 simp only[SX,NA,wNw,om,qh,eP,dZ,nF,x,dT ((k:Int)<(m:Nat)),go_sem];refine cc u ?_;simp only[o,go_sem];rw[if_pos (by simp;omega)];simp only[go_sem];refine dQ ?_;refine aY (k+1) ?_ ?_ (by omega) (by omega)
 .simp only[go_sem]
 .simp only[SX,NA,wNw,om,qh,eP,dZ,nF,x,j,wS k,go_sem]
section
variable {c:av} {n k:Nat} {t:aa} {w:WD}
def DE(h:WI c n k t w):aS G 15 [.ptr 0 0] w.O (.int w.now) w.O:=by refine Lv func15 h.bV ?_;simp only[WD.O,cB,Ez,go_sem]
def Hq{now:Int}{na:Nat}{l:LV}{a:Int}{xv:LV}{steps d lk:Int}{tb:List LV}(os:List ah)(hid:(ah.box 85 (tL c now na l a xv steps d lk tb)::os).all (aP (os.length+1))=true):aS G 31 [.ptr 0 16] (.box 85 (tL c now na l a xv steps d lk tb)::os) (.int steps) (.box 85 (tL c now na l a xv steps d lk tb)::os):=by have j:(os.map some).take os.length=os.map some:=take_of_length_le (by simp);refine eY func31 (by decide) aeZ rfl rfl hid rfl ?_;simp only[tL,j,afb,go_sem]
def AA(h:WI c n k t w):aS G 16 [.ptr 0 0] w.O (.int w.steps) w.O:=by have J:=h.rI;have Z:=Hq (G:=G) (c:=w.c) (now:=w.now) (na:=w.ag.length) (l:=.sl 1 w.N.rK 2 0 w.N.ps.length) (a:=w.N.sent) (xv:=w.xv) (steps:=w.steps) (d:=jt w.kn) (lk:=0) (tb:=Aa w.kn) (HQ w.N w.q) (eu J);refine Lv func16 h.bV ?_;simp only[WD.O,WD.post,cB,Ez,cI,go_sem];refine ey 12 rfl Z rfl rfl rfl (eu J) rfl ?_;simp only[go_sem]
def Jh(ag:List zm)(Z:1<=ag.length/\ag.length<=1000000):aS G 44 [.sl 0 ag.length 10 0 ag.length] [eP ag] (.sl 1 ag.length 10 0 ag.length) [eP ag,eP ag]:=by
 obtain⟨m,H⟩:∃m,ag.length=m+1:=⟨ag.length-1,by omega⟩;have hr:(ag.map zN).length=m+1:=by rw[length_map,H]
 have u:(ag.map zN).take (m+1)=ag.map zN:=take_of_length_le (by omega);unfold eP;rw[H];refine uW func44 ?_;have T:(m+1)*80<=70368744177664:=by omega
 simp only[hr,u,H,Nat.le_refl,go_sem];simp only[H,T,go_sem];refine ue [] [0,1] [] (vs:=[.sl 1 (m+1) 10 0 (m+1)]) rfl rfl (by decide) (by simp) (by simp) ?_ ?_ ?_
 .rfl
 .rfl
 simp[aR,aB]
def yT(h:WI c n k t w)(Z:1<=w.ag.length/\w.ag.length<=1000000):aS G 19 [.ptr 0 0] w.O (.sl 12 w.ag.length 10 0 w.ag.length) (w.O++[eP w.ag]):=by have J:=h.rI;have K:=Jh (G:=G) w.ag Z;simp only[eP]at K;refine tW func19 ?_;simp only[WD.O,WD.q,cB,Ez,eP,go_sem];refine bJ [3] K ?_;exact Fj (aC:=w.O++[eP w.ag]) (show 12<=13 by decide) ⟨rfl,rfl⟩ rfl (by rw[all_append,show(w.O++[eP w.ag]).length=13 from rfl,eN (show 12<=13 by decide) h.bV];rfl)
def GV(h:WI c n k t w):aS G 14 [.ptr 0 0] w.O (.sl 12 (w.N.cM w.N.ps.length).length 11 0 (w.N.cM w.N.ps.length).length) (w.O++[.dat 94 11 ((w.N.cM w.N.ps.length).map jQ)]):=by
 have J:=h.rI;have K:=Ib (G:=G) (c:=w.c) (now:=w.now) (na:=w.ag.length) w.N h.N J;refine tW func14 ?_;simp only[WD.O,cB,Ez,go_sem];refine UU 12 (.sl 12 (w.N.cM w.N.ps.length).length 11 0 (w.N.cM w.N.ps.length).length) [.dat 94 11 ((w.N.cM w.N.ps.length).map jQ)] rfl K rfl rfl rfl (eu J) rfl (eu J) rfl rfl ?_;simp only[cB,Ez,go_sem];show Rj _ 12 (.sl 12 (w.N.cM w.N.ps.length).length 11 0 (w.N.cM w.N.ps.length).length) (w.O++[.dat 94 11 ((w.N.cM w.N.ps.length).map jQ)]) _;refine Fj (show 12<=13 by decide) ?_ rfl ?_
 .exact ⟨rfl,rfl⟩
 .rw [all_append,show(w.O++[ah.dat 94 11 ((w.N.cM w.N.ps.length).map jQ)]).length=13 from rfl,eN (show 12<=13 by decide) h.bV];rfl
end
section
variable{c:av}{n k:Nat}{t:aa}{w:WD}
def laS(c:av)(now:Int)(na:Nat)(N:bY)(p0:LV)(ps:List LV)(r0 r1 g0 g1 g2 g3 g4:ah)(n:Nat)(ds:Int)(l:List Int)(j:gP)(bs:List (List Int))(q:Nat×aa):St:=⟨[(0,.ptr 0 0),(2,.ptr 12 0),(9,.ptr 19 0),(62,.d (.cM 1 (bS bs))),(63,.int bs.length),(64,.int q.1)],
 (cB c now na N (p0::.ptr 5 0::ps) (r0,r1,tc n ds,qh l,g0,g1,g2,g3,g4)++[.box 34 [.d (.val (.slice none 0 0)),.d (.val (.slice none 0 0)),.int 0,.int 0,.int 0,.int 0],.box 123 [.sl 14 j.n 1 0 j.n,.d (.val (.slice none 0 0)),.int j.s],.dat 5 1 (ax j.l),.dat 147 2 [[i64 0,.cM 1 (ax l)]],
  .box 155 [.ptr 13 0,.ptr 17 0,.ptr 18 0,.int j.cnt,.int j.cA],.box 216 [.ptr 13 0,.int 0,.int ((j.n / 4:Nat):Int)],.box 218 [.ptr 13 0,.int ((2*(j.n / 4):Nat):Int),.int ((j.n-2*(j.n / 4):Nat):Int),.int j.us],iY q.2]).map some⟩
def Of{now:Int}{na:Nat}{N:bY}{p0:LV}{ps:List LV}{r0 r1 g0 g1 g2 g3 g4:ah}{ds:Int}{l:List Int}(J:eZ (p0::.ptr 5 0::ps) (r0,r1,tc n ds,qh l,g0,g1,g2,g3,g4))(hcn:c.fT=n)(D:64<=n/\n<=65536)(Z:l.length=n)(T:aT l)(t:aa)(u:iB c (nC (jN l n)) (nG l n)=some t) :
  aS ck 18 [.ptr 0 0] (cB c now na N (p0::.ptr 5 0::ps) (r0,r1,tc n ds,qh l,g0,g1,g2,g3,g4)) (.cZ [aU t,.bool true]) (cB c now na N (p0::.ptr 5 0::ps) (r0,r1,tc n ds,qh l,g0,g1,g2,g3,g4)):=by
 have hdn:=zF (G:=ck) n (by omega) (by omega);have hby:=jx (G:=ck) l ds (by omega);have hdw:=gN (G:=ck) (replicate n 0) 0 0 l (by rw[length_replicate];omega) (by rw[length_replicate];omega);have hds:=iR (G:=ck) (replicate n 0) 0 0 l (by rw[length_replicate];omega) (by rw[length_replicate];omega);have hov:br (replicate n 0) 0 l=l:=by unfold br;rw[List.take_zero,nil_append,Nat.zero_add,drop_of_length_le (by rw[length_replicate];omega),append_nil]
 rw[hov]at hds;have m:=Ew (G:=ck) n l (IntKind.i64.wrap (0+1)) D Z T;have E:=MV Z T;have O:=MW Z T;have B:=Ns (G:=ck) c (nC (jN l n)) E.1 (by omega);have K:=F7 (G:=ck) c;have r:=KR l n (IntKind.i64.wrap (0+1));unfold iB at u;generalize gm l n (IntKind.i64.wrap (0+1))=j at *;generalize nC (jN l n)=eO at *;generalize nG l n=bs at *;subst r;have a:(bS bs).length=bs.length:=by simp[bS]
 simp only[wO,jH,ux,Z,hov,length_replicate,sA]at hdn hdw hds m hby;simp only[jP,ZW,ak]at m;simp only[ak]at hdw B hby;rw[<- hcn]at hdn;refine Lv func18 (eu J) ?_;simp only[cB,Ez,tc,qh,go_sem];refine acj hdn ?_;refine kG [5,6] hby ?_;refine bJ [13,14] hdw ?_;refine bJ [13,14,15] hds ?_;refine bJ [13,14] m ?_;refine a_ K ?_;simp only[au,a,go_sem];by_cases S:eO.length>0;case' pos=>
  rw[if_pos S]at u;simp only[dT ((eO.length:Int)>0),go_sem];cases y:uY c eO with
  |none=>rw[y]at u;cases u
  |some s0=>?_
  rw[y]at B u;simp only[Option.bind]at u;simp only[lY,Option.getD,Option.isSome,aU]at B;refine a_ B ?_
 case' neg=>rw[if_neg S]at u;simp only[dF ((eO.length:Int)>0),go_sem];obtain⟨s0,hs0⟩:∃s0,dN c=s0:=⟨_,rfl⟩;rw[hs0]at u ⊢
 all_goals
  refine aQ [0,2,9,62,63,64] [] (λx:Nat×aa=>x.1<=bs.length/\tQ c x.2 (bs.drop x.1)=some t) (λx=>bs.length-x.1) (laS c now na N p0 ps r0 r1 g0 g1 g2 g3 g4 j.n ds l j bs) (0,s0) ?_ ⟨zero_le _,u⟩ ?_
  .simp only[laS,cB,Ez,tc,qh,iY,a,Int.natCast_zero,go_sem]
  rintro⟨k,s⟩ ⟨hk,q⟩;dsimp only at hk q;simp only[laS,cB,Ez,tc,qh,iY,go_sem];by_cases X:k<bs.length;case neg=>
   obtain rfl:k=bs.length:=by omega
   rw[drop_length]at q;unfold tQ at q;cases q;simp only[dF ((bs.length:Int)<(bs.length:Int)),go_sem]
  have V:=aG (f:=λb:List Int=>[DV.cM 1 (ax b)]) [] X;rw[show bs.map (λb:List Int=>[DV.cM 1 (ax b)])=bS bs from rfl]at V;rw[qU bs k [] X]at q;have H:bs.getD k []∈bs:=by rw[getD_eq_getElem?_getD,getElem?_eq_getElem X];exact getElem_mem X
  have PR:=HW (bs.getD k []) (O.1 _ H).1 (by have:=(O.1 _ H).2;omega);generalize bs.getD k []=b at *;simp only[ak]at PR;simp only[dT ((k:Int)<(bs.length:Int)),V,go_sem];unfold tQ at q;cases My:Dr b with
  |none=>rw[My]at q;cases q
  |some o=>
  rw[My]at PR q;simp only at q;by_cases v:(aW c s o).2=0;case neg=>rw[if_neg v]at q;cases q
  rw[if_pos v]at q;simp only[MU,Option.getD,Option.isSome,qD]at PR;refine a_ PR ?_;have U:=yM c s o;simp only[aU,qD,eD]at U;refine cc U ?_;simp only[v,bne_self_eq_false,go_sem];refine aD rfl ?_;simp only[v,bne_self_eq_false,go_sem];refine aY (k+1,(aW c s o).1) ?_ ?_ ⟨by dsimp only;omega,q⟩ (by dsimp only;omega)
  .have A:(cB c now na N (p0::.ptr 5 0::ps) (r0,r1,tc j.n ds,qh l,g0,g1,g2,g3,g4)++[.box 34 [.d (.val (.slice none 0 0)),.d (.val (.slice none 0 0)),.int 0,.int 0,.int 0,.int 0],.box 123 [.sl 14 j.n 1 0 j.n,.d (.val (.slice none 0 0)),.int j.s],.dat 5 1 (ax j.l),.dat 147 2 [[i64 0,.cM 1 (ax l)]],
    .box 155 [.ptr 13 0,.ptr 17 0,.ptr 18 0,.int j.cnt,.int j.cA],.box 216 [.ptr 13 0,.int 0,.int ((j.n / 4:Nat):Int)],.box 218 [.ptr 13 0,.int ((2*(j.n / 4):Nat):Int),.int ((j.n-2*(j.n / 4):Nat):Int),.int j.us],iY (aW c s o).1]).all (aP 20)=true:=by
    rw[all_append,eN (by decide) (eu J)];rfl
   exact⟨rfl,M0 A,by simp[cB]⟩
  .simp only[laS,cB,Ez,tc,qh,iY,wS k,go_sem]
def WI.rd(h:WI c n k t w):zP c n k w.x.j.l t w.x.term:=by
 cases y:w.up with
 |true=>obtain⟨U,h2⟩:=h.up y;rw[<- h2];exact U.reads
 |false=>exact(h.dn y).1
def WI.jn(h:WI c n k t w):w.x.j.n=n:=by
 cases y:w.up with
 |true=>exact(h.up y).1.sz
 |false=>exact(h.dn y).2.2.2
def Fm(h:WI c n k t w)(y:c.fT=n):aS dh 18 [.ptr 0 0] w.O (.cZ [aU t,.bool true]) w.O:=by obtain⟨⟨j,q,bs,hr,T,hj,_⟩,_,_,Z⟩:=h.rd;have r:=h.jn;have u:=hr.Ge.ok.size;have b:=hr.eO;have m:=hr.ops;rw[hj]at b m u;rw[<- b,<- m]at T;have J:=h.rI;rw[<- h.cf]at y T;have:=gd.up (Of (now:=w.now) (na:=w.ag.length) (N:=w.N) (ds:=w.x.j.s) (l:=w.x.j.l) (n:=n) (p0:=.ptr 4 0) (ps:=w.post.drop 2) (r0:=w.q.1) (r1:=w.q.2.1) (g0:=w.q7.2.2.1) (g1:=w.q7.2.2.2.1) (g2:=w.q7.2.2.2.2.1) (g3:=w.q7.2.2.2.2.2.1) (g4:=w.q7.2.2.2.2.2.2) (by rw[<- r];exact J) y u Z hr.kD t T) kP;rw[<- r]at this;exact this
end
section
variable{ρ:List Nat}{af:List (Option ah)}
def U_(i:Nat):Nat:=if i<7 then i else i+5
def Sx{π:Nat->Nat}(h:π 2=2)(ps:List U4):kC π (ps.flatMap qc)=ps.flatMap qc:=by
 induction ps with
 |nil=>rfl
 |cons x ps o=>rw[flatMap_cons,gF,o];simp[qc,kC,rn,h,LV.bool]
def RO(π:Nat->Nat)(b:Bool):kC π (Aa b)=Aa b:=by cases b<;>rfl
def WD.OA(w:WD)(g:ah×ah×ah×ah×ah):List ah:=wB w.c w.now w.ag w.N w.steps (jt w.kn) (Aa w.kn) w.x g
def GD(w:WD)(y:w.up=true)(g:ah×ah×ah×ah×ah):(w.OA g).take 7++iw w.x=w.O.map (bP U_):=by rw[WD.CS y];have h2:U_ 2=2:=rfl;simp only[WD.OA,wB,wU,iw,cB,Ez,cI,eP,q8,om,tc,qh,GO,Vu,GN,Vt,Da,Db,aL,map_cons,map_nil,take_succ_cons,List.take_zero,bP,kC,rn,gF,kQ,Sx h2,RO,LV.int,LV.bool,bH,qM,sA];rfl
def ir5:=qx Tryz.f5
def ae7:bM prog Tryz.f5=some ir5:=by kernel_rfl
def kM(l:List dL):LV:=.d (.cM 10 (l.map vg))
def Cl:dL:=⟨0,0,0,fW⟩
def great(c:av)(l:List dL):Bool:=decide (l.length>120)||!gq c||decide (c.fT>4000)
def PX{G:tY}(c:av)(l:List dL):aS G 7 [eD c,kM l] [] (.bool (great c l)) []:=by
 have H:=Tk (G:=G) c;simp only[eD]at H;unfold great;refine iL func7 ?_;simp only[kM,go_sem];by_cases U:l.length>120
 .simp only[dT ((l.length:Int)>120),decide_eq_true U,go_sem]
 simp only[dF ((l.length:Int)>120),decide_eq_false U,go_sem];refine a_ H ?_;cases a:gq c<;>simp only[a,go_sem]
def Sw(s:Nat):gz [] s=(· + s):=by funext o;unfold gz;simp[Nat.add_comm]
def yw{α:Type}{l:List α}(h:l.length=12):∃t K T U v q y E X H e r,l=[t,K,T,U,v,q,y,E,X,H,e,r]:=by
 match l,h with
 |[t,K,T,U,v,q,y,E,X,H,e,r],_=>exact⟨_,_,_,_,_,_,_,_,_,_,_,_,rfl⟩
def WD.abF(w:WD):w.O.length=12:=rfl
structure mc(p:Nat)(ρ:List Nat)(af:List (Option ah))(w:WD):Prop where
 nd:ρ.Nodup
 len:ρ.length=12
 hd:ρ[0]? = some p
 at_:∀base,ρ.map (an af)=w.O.map (λob=>bK.live (bP (gz ρ base) ob))
def mc.lt{p:Nat}{w:WD}(h:mc p ρ af w):∀o∈ρ,o<af.length:=by intro o j;have U:an af o∈ρ.map (an af):=mem_map_of_mem j;rw[h.at_ 0]at U;obtain⟨ob,_,D⟩:=mem_map.1 U;exact JO D.symm
def mc.app{p:Nat}{w:WD}(h:mc p ρ af w)(X:List (Option ah)):mc p ρ (af++X) w:=by
 refine⟨h.nd,h.len,h.hd,λbase=>?_⟩;rw[<- h.at_ base];refine map_congr_left λo j=>?_
 unfold an;rw[getElem?_append_left (h.lt o j)]
def ZE(s:Nat)(w:WD)(hid:w.O.all (aP 12)=true)(pre post:List (Option ah))(a:pre.length=s):mc s (range' s 12) (pre++(w.O.map (bP (· + s))).map some++post) w:=
 ⟨nodup_range',by simp,by rw[getElem?_range' (by decide)];simp,λbase=>MK a rfl hid base⟩
def OU:List Nat:=[1,2,3,4,5,6,7,13,14,15,16,17]
def VU(base:Nat):∀o,o<12->gz OU base o=U_ o+1:=by
 intro o j;have h:∀o,o<12->OU[o]? = some (U_ o+1):=by decide
 unfold gz;rw[h o j]
def ZF(w:WD)(y:w.up=true)(hid:w.O.all (aP 12)=true)(g:ah×ah×ah×ah×ah)(x:Option ah):mc 1 OU ([x]++((w.OA g).map (bP (· + 1))).map some++((iw w.x).map (bP (· + 1))).map some) w:=by
 refine⟨by decide,rfl,rfl,λbase=>?_⟩;have U:OU.map (an ([x]++((w.OA g).map (bP (· + 1))).map some++((iw w.x).map (bP (· + 1))).map some))=(((w.OA g).take 7++iw w.x).map (bP (· + 1))).map bK.live:=rfl;rw[U,GD w y g,map_map,map_map];rw[all_eq_true]at hid;refine map_congr_left λob D=>?_
 simp only[Function.comp_apply,bK.live.injEq];rw[FQ];exact(nv (λo j=>(VU base o j)) ob (hid ob D)).symm
def mc.back{w:WD}(h:mc 1 ρ af w)(hid:w.O.all (aP 12)=true){x:ah}(S:an af 0=.live x)(r:∀π:Nat->Nat,bP π x=x):(0::ρ).map (an af)=(x::w.O.map (bP (· + 1))).map (λob=>bK.live (bP (gz (0::ρ) 0) ob)):=by rw[map_cons,map_cons,S,r,h.at_ 0,map_map];rw[all_eq_true]at hid;refine congrArg _ (map_congr_left λob D=>?_);simp only[Function.comp_apply,bK.live.injEq];rw[FQ];refine nv (λo j=>?_) ob (hid ob D);unfold gz;rw[getElem?_cons_succ,getElem?_eq_getElem (by rw[h.len];exact j)]
section
variable {fin:St->Prop} {env:List (Nat×LV)} {af:List (Option ah)} {os:List er} {it:List It} {log:List iI}
def aaT{d:Option Nat}{f:bF}{xs:List bF}{G:List Nat}{cs fs:List LV}{w w':WD}{e:dL}{r:Int}{c c':av}{n n' k H:Nat}{t t':aa}(x:ah)(h:SC w e r w')(S:WI c n k t w)(y:WI c' n' H t' w')(K:callee (f.ev dh (aN env))=some (17,fs,cs))
  (X:fs++xs.map (·.ev dh (aN env))++cs=[.ptr 1 0,cN e]) (J:af=[some x]++(w.O.map (bP (· + 1))).map some)
  (hk:∀aC a,mc 1 a aC w'->an aC 0=.live x->(a=range' 1 12/\aC.length=13)\/(a=OU/\aC.length=18)->W prog dh fin (.ops os::it) ⟨di d (.int r) env,aC⟩):W prog dh fin (.ops (⟨d,.call f xs,none,G⟩::os)::it) ⟨env,af⟩:=by
 have j:af=[some x]++(w.O.map (bP (· + 1))).map some++[]:=by rw[J,append_nil]
 have v:af.length=13:=by rw[J];rfl
 have u:ay (an af) (range' 1 12) [] (fs++xs.map (·.ev dh (aN env))++cs) [.ptr 0 0,cN e]:=by rw[X];simp[ay,aB,cN,LV.int]
 unfold SC at h;split at h
 .rename_i T;have q:∀l:List ah,l.all (aP 17)=true->l.map (bP (gz (range' 1 12) af.length))=l.map (bP (· + 1)):=by
   intro l Z;rw[all_eq_true]at Z;refine map_congr_left λob D=>nv (λo j=>?_) ob (Z ob D)
   rw[v];unfold gz;by_cases E:o<12
   .rw [getElem?_range' E];simp[Nat.add_comm]
   .rw [getElem?_eq_none (by simp;omega)];simp;omega
  have b:=xP (c:=w'.c) (now:=w'.now) (ag:=w'.ag) (N:=w'.N) (steps:=w'.steps) (d:=jt w'.kn) (tb:=Aa w'.kn) w'.x (S.dn T.1).2.1 (ot _);rw[all_append,Bool.and_eq_true]at b;refine JG 1 12 (.int r) ((w'.OA w.g).map (bP (· + 1))) ((iw w'.x).map (bP (· + 1))) [some x] [] (A:=w'.OA w.g) (B:=iw w'.x) h K j rfl rfl u S.bV rfl rfl (q _ b.1) (q _ b.2) ?_;rw[append_nil];exact hk _ OU (ZF w' T.2 y.bV w.g (some x)) rfl (.inr ⟨rfl,rfl⟩)
 .refine JG 1 12 (.int r) (w'.O.map (bP (· + 1))) [] [some x] [] (A:=w'.O) (B:=[]) (by rw[append_nil];exact h) K j rfl rfl u S.bV rfl rfl (Tn y.bV) rfl ?_;refine hk _ (range' 1 12) ?_ rfl (.inl ⟨rfl,rfl⟩);exact(ZE 1 w' y.bV [some x] [] rfl).app []
end
section
variable {π:Nat->Nat} {k m:Nat}
mutual
def Lj(h:∀o,o<k->π o<m):∀(x:LV),bV k x=true->bV m (rn π x)=true
 |.top,_=>rfl
 |.d x,_=>rfl
 |.ec,_=>rfl
 |.ptr o c,S=>by simp only[bV,decide_eq_true_eq]at S;simp only[rn,bV,decide_eq_true_eq];exact h o S
 |.rp o n e r c,S=>by simp only[bV,decide_eq_true_eq]at S;simp only[rn,bV,decide_eq_true_eq];exact h o S
 |.ip ..,_=>rfl
 |.sl o n e l r,S=>by simp only[bV,decide_eq_true_eq]at S;simp only[rn,bV,decide_eq_true_eq];exact h o S
 |.fn f a b,S=>by simp only[bV,Bool.and_eq_true]at S;simp only[rn,bV,Bool.and_eq_true];exact⟨qN h a S.1,qN h b S.2⟩
 |.agg cs,S=>by simp only[bV]at S;simp only[rn,bV];exact qN h cs S
 |.cZ cs,S=>by simp only[bV]at S;simp only[rn,bV];exact qN h cs S
 |.gR t x,S=>by simp only[bV]at S;simp only[rn,bV];exact Lj h x S
 |.yl o,S=>by simp only[bV,decide_eq_true_eq]at S;simp only[rn,bV,decide_eq_true_eq];exact h o S
 |.mr o,S=>by simp only[bV,decide_eq_true_eq]at S;simp only[rn,bV,decide_eq_true_eq];exact h o S
def qN(h:∀o,o<k->π o<m):∀(xs:List LV),bn k xs=true->bn m (kC π xs)=true
 |[],_=>rfl
 |x::xs,S=>by simp only[bn,Bool.and_eq_true]at S;simp only[kC,bn,Bool.and_eq_true];exact⟨Lj h x S.1,qN h xs S.2⟩
end
def Xi(h:∀o,o<k->π o<m):∀(ob:ah),aP k ob=true->aP m (bP π ob)=true
 |.box et cells,S=>by simp only[aP]at S;simp only[bP,aP];exact qN h cells S
 |.mp es,S=>by simp only[aP,all_eq_true]at S;simp only[bP,aP,all_eq_true,mem_map];rintro p ⟨q,E,rfl⟩;exact Lj h _ (S q E)
 |.lr et e v cells,S=>by simp only[aP]at S;simp only[bP,aP];exact qN h cells S
 |.dat ..,_=>rfl
 |.k9 ..,_=>rfl
 |.l_ ..,_=>rfl
end
def abw{base:Nat}(h:ρ.length=12):gz ρ base 12=base:=by unfold gz;rw[getElem?_eq_none (by omega),h];rfl
def ticks(l:List dL)(i:Nat):Nat:=((l.take i).filter λe=>decide (e.kind=1)).length
def Kn(l:List dL){i:Nat}(h:i<l.length):ticks l (i+1)=ticks l i+(if(l.getD i Cl).kind=1 then 1 else 0):=by
 unfold ticks;rw[jT Cl h,filter_append,length_append];congr 1;generalize l.getD i Cl=x;by_cases e:x.kind=1
 .rw [filter_cons_of_pos (by simpa using e),if_pos e];rfl
 .rw [filter_cons_of_neg (by simpa using e),if_neg e];rfl
def wtS(c:av)(l:List dL)(q:Nat×WD):St:=⟨[(1,kM l),(2,.ptr 0 0),(5,.ptr 1 0),(6,.int (ticks l q.1:Nat)),(7,.int q.1)],(NA c::q.2.O.map (bP (· + 1))).map some⟩
def AD(aaw:aS dh 6 [] [] (.bool true) [])(c:av)(l:List dL)(u:∀e∈l,e.b<=9223372036854775807):aS dh 5 [eD c,kM l] [] (.bool true) []:=by
 have hgr:=PX (G:=dh) c l;simp only[eD,kM]at hgr;refine Kk func5 (by decide) ae7 rfl ?_;simp only[ir5,go_sem];have A:∀s:St,s.get 4=.bool true->Rj ir5.2.2 0 (.bool true) [] s:=λs h=>dP [] (vs:=[.bool true]) (by simp[gi.of,RV.of,h,ir5,qxE]) (by simp) (by simp[aR,aB,LV.bool])
 simp only[kM,go_sem];refine a_ aaw ?_;refine a_ hgr ?_;cases hG:great c l with
 |true=>simp only[go_sem];exact A _ rfl
 |false=>
 unfold great at hG;simp only[Bool.or_eq_false_iff,Bool.not_eq_false',decide_eq_false_iff_not]at hG;obtain⟨⟨hlen,H⟩,Xt⟩:=hG;have hdk:2000<=c.fT:=by have h:=H;unfold gq at h;simp only[Bool.and_eq_true]at h;exact(bf h.2).1
 have hnd:1<=c.nodes/\c.nodes<=6:=by have h:=H;unfold gq at h;simp only[Bool.and_eq_true]at h;exact bf h.1.1.1.1.1.1.1.1
 obtain⟨n,D⟩:∃n:Nat,c.fT=n:=⟨c.fT.toNat,by omega⟩;have Vd:=GU c H n D (by omega) (by omega);have hI0:=Rv H D (by omega) hnd.1;have hs0:(WD.new c n).steps=0:=rfl;have hn0:(WD.new c n).now=0:=rfl;generalize WD.new c n=w0 at *;simp only[eD]at Vd;simp only[go_sem];refine tG Vd rfl rfl rfl ?_;rw[Sw];obtain⟨a0,E,a2,a3,a4,a5,a6,a7,a8,a9,Rm,Rl,hO⟩:=yw (show(w0.O.map (bP (· + 1))).length=12 by rw[length_map];rfl);simp only[length_cons,length_nil,Nat.zero_add];rw[hO];simp only[go_sem];refine aQ [1,2,5,6,7] [] (λq:Nat×WD=>q.1<=l.length/\(∃t,WI c n (q.1+1) t q.2)/\q.2.steps=q.1/\q.2.now=(ticks l q.1:Nat)) (λq=>l.length-q.1) (wtS c l) (0,w0) ?_ ⟨zero_le _,⟨_,hI0⟩,hs0,hn0⟩ ?_
 .simp only[wtS,kM,NA,hO,show ticks l 0=0 from rfl,Int.natCast_zero,go_sem]
 rintro⟨i,w⟩ ⟨hi,⟨t,J⟩,S,K⟩;dsimp only at hi J S K;clear hO;obtain⟨a0,E,a2,a3,a4,a5,a6,a7,a8,a9,Rm,Rl,hO⟩:=yw (show(w.O.map (bP (· + 1))).length=12 by rw[length_map];rfl);simp only[wtS,kM,hO,go_sem];by_cases X:i<l.length;case neg=>simp only[dF ((i:Int)<(l.length:Nat)),go_sem];exact A _ rfl
 have V:=aG (f:=vg) Cl X;have heb:=u (l.getD i Cl) (by rw[getD,getElem?_eq_getElem X];exact getElem_mem X);have htk:=Kn l X;generalize l.getD i Cl=e at *;obtain⟨r,w',t',_,Xy,y,_,ac0,abZ,_,_⟩:=uy J (by omega) e H heb;simp only[vg,i64]at V;simp only[dT ((i:Int)<(l.length:Nat)),X,V,go_sem];refine aaT (NA c) Xy J y rfl rfl (by rw[hO];rfl) (λaC T v h0 hsh=>?_);obtain⟨rest,rfl⟩:∃rest,aC=some (NA c)::rest:=by
  cases aC with
  |nil=>simp[an]at h0
  |cons a b=>
   cases a with
   |none=>simp[an]at h0
   |some a=>simp[an]at h0;exact⟨b,by rw[h0]⟩
 have hTm:=DE (G:=dh) y;have hSt:=AA (G:=dh) y;have hal:(w'.ag.length:Int)=c.nodes:=y.ag;have hAg:=yT (G:=dh) y (by omega);have hNt:=GV (G:=dh) y;have hml:(w'.N.cM w'.N.ps.length).length<=40:=by have U:=Gc w'.N w'.N.ps.length;have h2:=y.N.few;omega
 simp only[X,V,NA,go_sem];have abX:w'.now=(ticks l (i+1):Nat):=by
  rw[htk,abZ,K]
  split<;>simp
 have hst2:w'.steps=((i+1:Nat):Int):=by rw[ac0,S];rfl
 by_cases YW:e.kind=1;case' pos=>
  have hw1:IntKind.i64.wrap ((ticks l i:Nat)+1)=((ticks l (i+1):Nat):Int):=by rw[htk,if_pos YW];have:=J.now;exact aH (by omega) (by omega)
  simp only[beq_iff_eq.2 YW,hw1,go_sem]
 case' neg=>
  have hw1:ticks l i=ticks l (i+1):=by rw[htk,if_neg YW];rfl
  simp only[beq_eq_false_iff_ne.2 YW,hw1,go_sem]
 all_goals
  refine NS T (.int w'.now) [] (ai:=w'.O) (B:=[]) (by rw[append_nil];exact hTm) rfl (show ay _ T [] [.ptr 1 0] [.ptr 0 0]by simp[ay,aB,v.hd]) v.nd (v.at_ _) (by rw[v.len];exact y.bV) rfl rfl ?_;simp only[abX,bne_self_eq_false,go_sem];refine NS T (.int w'.steps) [] (ai:=w'.O) (B:=[]) (by rw[append_nil];exact hSt) rfl (show ay _ T [] [.ptr 1 0] [.ptr 0 0]by simp[ay,aB,v.hd]) v.nd (v.at_ _) (by rw[v.len];exact y.bV) rfl rfl ?_;simp only[hst2,wS i,bne_self_eq_false,go_sem];refine NS T (.sl (rest.length+1) w'.ag.length 10 0 w'.ag.length) [eP w'.ag] (ai:=w'.O) (B:=[eP w'.ag]) hAg rfl (show ay _ T [] [.ptr 1 0] [.ptr 0 0]by simp[ay,aB,v.hd]) v.nd (v.at_ _) (by rw[v.len];exact y.bV) (by show LV.sl (gz T _ 12) _ _ _ _=_;rw[abw v.len];rfl) rfl ?_;simp only[hal,bne_self_eq_false,go_sem];refine NS T (.sl (rest.length+1+1) (w'.N.cM w'.N.ps.length).length 11 0 (w'.N.cM w'.N.ps.length).length) [.dat 94 11 ((w'.N.cM w'.N.ps.length).map jQ)] (ai:=w'.O) (B:=[.dat 94 11 ((w'.N.cM w'.N.ps.length).map jQ)]) hNt rfl (show ay _ T [] [.ptr 1 0] [.ptr 0 0]by simp[ay,aB,v.hd]) v.nd ((v.app [some (eP w'.ag)]).at_ _) (by rw[v.len];exact y.bV) (by show LV.sl (gz T _ 12) _ _ _ _=_;rw[abw v.len];simp) rfl ?_;simp only[dF ((((w'.N.cM w'.N.ps.length).length:Nat):Int)>40),go_sem];refine aD ?_ ?_
  .rcases hsh with ⟨rfl,Z⟩|⟨rfl,Z⟩<;>(simp only[length_cons]at Z ⊢;obtain Z:=Nat.succ.inj Z;rw[Z];rfl)
  simp only[go_sem];have hbk:=(v.app ([some (eP w'.ag)]++[some (.dat 94 11 ((w'.N.cM w'.N.ps.length).map jQ))])).back y.bV (x:=NA c) h0 (λπ=>by simp[NA,bP,kC,rn,LV.int]);rw[wS i];refine JD [] (0::T) [] (NA c::w'.O.map (bP (· + 1))) [(1,kM l),(2,.ptr 0 0),(5,.ptr 1 0),(6,.int (ticks l (i+1):Nat)),(7,.int (i+1:Nat))] (i+1,w') rfl ⟨zero_le _,rfl⟩ ?_ (by simp) ?_ ?_ (by simp) rfl ?_ ⟨by omega,⟨t',y⟩,hst2,abX⟩ (by dsimp only;omega)
  .rcases hsh with ⟨rfl,Z⟩|⟨rfl,Z⟩<;>decide
  .refine Eq.trans ?_ hbk;rw[<- append_assoc];rfl
  .rw [length_cons,v.len,all_cons,all_map];rw[Bool.and_eq_true];refine⟨by simp[NA,aP,bV,bn,LV.int],?_⟩;have U:=y.bV;rw[all_eq_true]at U ⊢;exactλob zY=>Xi (λo j=>succ_lt_succ j) ob (U ob zY)
  .simp [bQ,St.get,aN,ay,aB,v.hd,kM,LV.int]
end
section
variable{ρ Z:List Nat}{af aC:List (Option ah)}{k:Nat}{w w':WD}{X:List ah}
def Wf{b D o:Nat}(h:o<ρ.length):gz ρ b o=gz ρ D o:=by unfold gz;rw[getElem?_eq_getElem h]
def pG.maps{A B:List ah}(h:pG ρ Z af aC A B)(hk:k<=ρ.length)(J:k<=A.length):(ρ.take k).map (an aC)=(A.take k).map (λx=>bK.live (bP (gz ρ af.length) x)):=by refine ext_getElem (by simp;omega) (λi U h2=>?_);simp only[length_map,length_take]at U;simp only[getElem_map,getElem_take];exact h.at_ i _ _ (getElem?_eq_getElem (by omega)) (getElem?_eq_getElem (by omega))
def mc.stay{p:Nat}(v:mc p ρ af w)(E:pG ρ Z af aC w'.O X)(hid:w'.O.all (aP 12)=true):mc p ρ aC w':=by
 refine⟨v.nd,v.len,v.hd,λbase=>?_⟩;have U:=E.maps (k:=12) (by rw[v.len];exact Nat.le_refl _) (Nat.le_refl _);rw[take_of_length_le (by rw[v.len];exact Nat.le_refl _),take_of_length_le (Nat.le_refl 12)]at U;rw[U];rw[all_eq_true]at hid;refine map_congr_left λob D=>?_
 rw[nv (λo j=>Wf (by rw[v.len];exact j)) ob (hid ob D)]
def mc.acp{p:Nat}{g:ah×ah×ah×ah×ah}(v:mc p ρ af w)(E:pG ρ Z af aC (w'.OA g) (iw w'.x++X))(y:w'.up=true)(hid:w'.O.all (aP 12)=true):mc p (ρ.take 7++range' af.length 5) aC w':=by
 have c:=v.lt;have h:(ρ.take 7).length=7:=by rw[length_take,v.len];rfl
 refine⟨?_,by rw[length_append,h,length_range'],?_,λbase=>?_⟩
 .rw [nodup_append];refine⟨v.nd.sublist (take_sublist _ _),nodup_range',λa J b T e=>?_⟩;have U:=c a (mem_of_mem_take J);have h2:=(mem_range'_1.1 T).1;omega
 .rw [getElem?_append_left (by omega),getElem?_take_of_lt (by decide)];exact v.hd
 .have U:=E.maps (k:=7) (by rw[v.len];decide) (show 7<=12 by decide);have h2:(range' af.length 5).map (an aC)=(iw w'.x).map (λx=>bK.live (bP (gz ρ af.length) x)):=by
   refine ext_getElem rfl (λi B q=>?_);simp only[length_map,length_range']at B;simp only[getElem_map,getElem_range',Nat.one_mul];refine E.new i _ ?_;rw[getElem?_append_left (by show i<5;exact B),getElem?_eq_getElem]
  rw[map_append,U,h2,<- map_append,GD w' y g,map_map];rw[all_eq_true]at hid;refine map_congr_left λob D=>?_
  simp only[Function.comp_apply,bK.live.injEq];rw[FQ];refine nv (λo j=>?_) ob (hid ob D);unfold U_ gz;by_cases u:o<7
  .rw [if_pos u,getElem?_append_left (by omega),getElem?_take_of_lt u,getElem?_eq_getElem (show o<ρ.length by rw[v.len];exact j)]
  .rw [if_neg u,getElem?_append_right (by omega),h,getElem?_eq_none (show ρ.length<=o+5 by rw[v.len];omega),getElem?_range' (by omega),v.len];show af.length+(o+5-12)=af.length+1*(o-7);omega
section
variable {fin:St->Prop} {env:List (Nat×LV)} {af:List (Option ah)} {os:List er} {it:List It} {log:List iI}
def aed{d:Option Nat}{f:bF}{xs:List bF}{G:List Nat}{cs fs:List LV}{e:dL}{r:Int}{c c':av}{n n' H:Nat}{t t':aa}{p:Nat}(v:mc p ρ af w)(h:SC w e r w')(S:WI c n k t w)(y:WI c' n' H t' w')(K:callee (f.ev dh (aN env))=some (17,fs,cs))
  (J:fs++xs.map (·.ev dh (aN env))++cs=[.ptr p 0,cN e])
  (hk:∀aC a,mc p a aC w'->(∀o,o<af.length->o∉ρ->an aC o=an af o)->(a=ρ/\aC.length=af.length)\/(w.up=false/\w'.up=true/\a=ρ.take 7++range' af.length 5/\aC.length=af.length+5)->W prog dh fin (.ops os::it) ⟨di d (.int r) env,aC⟩):W prog dh fin (.ops (⟨d,.call f xs,none,G⟩::os)::it) ⟨env,af⟩:=by
 have u:ay (an af) ρ [] (fs++xs.map (·.ev dh (aN env))++cs) [.ptr 0 0,cN e]:=by rw[J];simp[ay,aB,cN,LV.int,v.hd]
 have hid:w.O.all (aP ρ.length)=true:=by rw[v.len];exact S.bV
 unfold SC at h;split at h
 .rename_i T;refine aa0 ρ (.int r) (A:=w'.OA w.g) (B:=iw w'.x) h K u v.nd (v.at_ _) hid (by rw[v.len];rfl) rfl (λaC Z=>?_);exact hk _ _ (v.acp (X:=[]) (by rw[append_nil];exact Z) T.2 y.bV) (λo U h2=>Z.same o U h2 nofun) (.inr ⟨T.1,T.2,rfl,Z.len⟩)
 .refine aa0 ρ (.int r) (A:=w'.O) (B:=[]) (by rw[append_nil];exact h) K u v.nd (v.at_ _) hid (by rw[v.len];rfl) rfl (λaC Z=>?_);exact hk _ _ (v.stay Z y.bV) (λo U h2=>Z.same o U h2 nofun) (.inl ⟨rfl,Z.len⟩)
end
end
section
variable{α:Type}{ρ:List Nat}{af nI:List (Option ah)}{w:WD}{c:av}{n k:Nat}{t:aa}
def ir9:=qx f9
def ae5:bM prog f9=some ir9:=by kernel_rfl
def Tr{l:List α}(h:l.length=17):∃t K T U v q y E X H e r x a b c j,l=[t,K,T,U,v,q,y,E,X,H,e,r,x,a,b,c,j]:=by
 match l,h with
 |[t,K,T,U,v,q,y,E,X,H,e,r,x,a,b,c,j],_=>exact⟨_,_,_,_,_,_,_,_,_,_,_,_,_,_,_,_,_,rfl⟩
def kf{l:List (Option ah)}{o:Nat}{x:ah}(h:an l o=.live x):l[o]? = some (some x):=by
 unfold an at h;split at h
 .cases h
 .cases h
 .rename_i ob D;cases h;exact D
def Ts{l:List α}(h:l.length=14):∃r t u v x y A B D E c e b a,l=[r,t,u,v,x,y,A,B,D,E,c,e,b,a]:=by
 match l,h with
 |[r,t,u,v,x,y,A,B,D,E,c,e,b,a],_=>exact⟨_,_,_,_,_,_,_,_,_,_,_,_,_,_,rfl⟩
def Tq{l:List α}(h:l.length=19):∃r t u v x y A B D E c e b a j n o w q,l=[r,t,u,v,x,y,A,B,D,E,c,e,b,a,j,n,o,w,q]:=by
 match l,h with
 |[r,t,u,v,x,y,A,B,D,E,c,e,b,a,j,n,o,w,q],_=>exact⟨_,_,_,_,_,_,_,_,_,_,_,_,_,_,_,_,_,_,_,rfl⟩
def mc.ren{p:Nat}(v:mc p ρ af w)(hid:w.O.all (aP 12)=true)(X:List Nat)(xs:List ah)(a:ρ.map (an nI)=ρ.map (an af))(V:X.map (an nI)=xs.map bK.live)(b:∀x∈xs,∀π,bP π x=x) :
  (ρ++X).map (an nI)=(w.O++xs).map (λob=>bK.live (bP (gz (ρ++X) 0) ob)):=by
 rw[map_append,map_append,a,V,v.at_ 0];rw[all_eq_true]at hid;congr 1
 .refine map_congr_left λob D=>?_
  rw[nv (λo j=>?_) ob (hid ob D)];unfold gz;rw[getElem?_append_left (by rw[v.len];exact j),getElem?_eq_getElem (by rw[v.len];exact j)]
 .exact map_congr_left λx S=>by rw[b x S]
def pG.ren{aC:List (Option ah)}{A B:List ah}{Z:List Nat}(E:pG ρ Z af aC A B)(q:A.length=ρ.length)(hid:(A++B).all (aP (A.length+B.length))=true)(X:List Nat)(xs:List ah)(a:(ρ++range' af.length B.length).map (an nI)=(ρ++range' af.length B.length).map (an aC))(V:X.map (an nI)=xs.map bK.live)(b:∀x∈xs,∀π,bP π x=x) :
  (ρ++range' af.length B.length++X).map (an nI)=(A++B++xs).map (λob=>bK.live (bP (gz (ρ++range' af.length B.length++X) 0) ob)):=by
 have U:=E.maps (k:=ρ.length) (Nat.le_refl _) (by rw[q];exact Nat.le_refl _);rw[take_length,take_of_length_le (by omega)]at U;have h2:(range' af.length B.length).map (an aC)=B.map (λx=>bK.live (bP (gz ρ af.length) x)):=by refine ext_getElem (by simp) (λi u y=>?_);simp only[length_map,length_range']at u;simp only[getElem_map,getElem_range',Nat.one_mul];exact E.new i _ (getElem?_eq_getElem u)
 rw[map_append,a,V,map_append,U,h2,<- map_append];refine Eq.trans ?_ (map_append ..).symm;rw[all_eq_true]at hid;congr 1
 .refine map_congr_left λob D=>?_
  rw[nv (λo j=>?_) ob (hid ob D)];unfold gz;by_cases h:o<ρ.length
  .rw [append_assoc,getElem?_append_left h,getElem?_eq_getElem h]
  .rw [getElem?_append_left (by simp;omega),getElem?_append_right (by omega),getElem?_eq_none (by omega),getElem?_range' (by omega)];show af.length+(o-ρ.length)=af.length+1*(o-ρ.length);omega
 .exact map_congr_left λx S=>by rw[b x S]
structure RX where
 w:WD
 b:Bool
 outs:List Int
def RX.next(s:RX)(e:dL):RX:=⟨if s.b=true then{ (s.w.fc e).2 with g:=s.w.g }else(s.w.fc e).2,(s.w.fc e).2.up&&(s.b||!s.w.up),s.outs++[(s.w.fc e).1]⟩
def RX.O(s:RX):List ah:=if s.b=true then s.w.OA s.w.g++iw s.w.x else s.w.O
def RX.at(s:RX):Nat:=if s.b=true then 17 else 12
def iC(l:List Int):List (List DV):=l.map λv=>[i64 v]
def tM(w:WD)(l:List dL):RX:=l.foldl RX.next ⟨w,false,[]⟩
def OS(w:WD)(l:List dL){i:Nat}(h:i<l.length):tM w (l.take (i+1))=(tM w (l.take i)).next (l.getD i Cl):=by unfold tM;rw[jT Cl h,foldl_append];rfl
def A9:List Nat:=[0,1,2,3,4,5,6,12,13,14,15,16]
def MQ(base:Nat):∀o,o<12->gz A9 base o=U_ o:=by
 intro o j;have h:∀o,o<12->A9[o]? = some (U_ o):=by decide
 unfold gz;rw[h o j]
def Sa(hid:w.O.all (aP 12)=true)(h:af.take 12=w.O.map some):mc 0 (List.range 12) af w:=
 ⟨nodup_range,by simp,rfl,λbase=>nu h rfl hid⟩
def ZD(y:w.up=true)(hid:w.O.all (aP 12)=true){g:ah×ah×ah×ah×ah}(h:af.take 17=(w.OA g++iw w.x).map some):mc 0 A9 af w:=by
 refine⟨by decide,rfl,rfl,λbase=>?_⟩;have U:A9.map (an af)=A9.map (an (af.take 17)):=by
  refine map_congr_left λo j=>?_
  have:o<17:=by revert o;decide
  unfold an;rw[getElem?_take_of_lt this]
 rw[U,h];have h2:A9.map (an ((w.OA g++iw w.x).map some))=((w.OA g).take 7++iw w.x).map bK.live:=rfl;rw[h2,GD w y g,map_map];rw[all_eq_true]at hid;refine map_congr_left λob D=>?_
 simp only[Function.comp_apply,bK.live.injEq];exact(nv (λo j=>(MQ base o j)) ob (hid ob D)).symm
def abC{p:Prop}[Decidable p]{a b:Int×WD}{g:ah×ah×ah×ah×ah}(X:p->a.2.g=g)(T:¬p->b.2.g=g):(if p then a else b).2.g=g:=by
 split
 .exact X ‹_›
 .exact T ‹_›
def DN(w:WD)(e:dL)(y:w.up=false):(w.fc e).2.g=w.g:=by unfold WD.fc;repeat' (first|rfl|refine abC (λ_=>?_) (λ_=>?_)|(exfalso;rename_i h;rw[y]at h;cases h;done)|split)
def WI.ZA(h:WI c n k t w){g:ah×ah×ah×ah×ah}(V:Ds g):WI c n k t { w with g:=g }:=
 ⟨h.cf,h.now,h.ag,h.N,h.st,h.up,λhd=>⟨(h.dn hd).1,V,(h.dn hd).2.2⟩⟩
def adD(w:WD)(y:w.up=false):(w.O.take 7).map (bP U_)=w.O.take 7:=by rw[WD.ac3 y];have h2:U_ 2=2:=rfl;simp only[wN,cB,Ez,cI,dZ,eP,om,tc,qh,map_cons,map_nil,take_succ_cons,List.take_zero,bP,kC,rn,gF,kQ,Sx h2,RO,LV.int];rfl
def acn(w:WD)(y:w.up=false)(g:ah×ah×ah×ah×ah):({ w with g:=g } : WD).O=w.O.take 7++[g.1,g.2.1,g.2.2.1,g.2.2.2.1,g.2.2.2.2]:=by rw[WD.ac3 y,WD.ac3 (w:={ w with g:=g }) y];rfl
def ZI{ai:List ah}(h:(List.range n).map (an nI)=ai.map bK.live)(hid:ai.all (aP n)=true):(List.range n).map (an nI)=ai.map (λob=>bK.live (bP (gz (List.range n) 0) ob)):=by rw[h];rw[all_eq_true]at hid;exact map_congr_left λob D=>by rw[jZ (jX n 0) ob (hid ob D)]
def ZH(l:List dL)(s:RX)(i:Nat):St:=⟨[(0,.ptr 0 0),(5,.sl s.at i 1 0 i),(8,kM l),(9,.int l.length),(10,.int i)],(s.O++[ah.dat 3 1 (iC s.outs)]).map some⟩
theorem Rt(h:WI c n k t w)(H:gq c=true)(l:List dL)(D:∀e∈l,e.b<=9223372036854775807)(hk:k+l.length<=1000) :
  aS dh 9 [.ptr 0 0,kM l] w.O (.sl (tM w l).at l.length 1 0 l.length) ((tM w l).O++[.dat 3 1 (iC (tM w l).outs)]):=by
 refine Kk func9 (by decide) ae5 rfl ?_;obtain⟨a0,G,a2,a3,a4,a5,a6,a7,a8,a9,Rm,Rl,hO⟩:=yw (show w.O.length=12 from rfl);rw[hO];simp only[kM,ir9,go_sem];refine aQ [0,5,8,9,10] [.t 5 3 1] (λi:Nat=>i<=l.length/\(∃t',WI c n (k+i) t' (tM w (l.take i)).w)/\((tM w (l.take i)).b=true->(tM w (l.take i)).w.up=true/\Ds (tM w (l.take i)).w.g)/\(tM w (l.take i)).outs.length=i) (λi=>l.length-i) (λi=>ZH l (tM w (l.take i)) i) 0 ?_ ⟨zero_le _,⟨t,h⟩,nofun,rfl⟩ ?_
 .rw [List.take_zero];show _=ZH l ⟨w,false,[]⟩ 0;simp only[ZH,RX.O,RX.at,hO,kM,iC,Bool.false_eq_true,Int.natCast_zero,go_sem,sA]
 clear hO;rintro i ⟨hi,⟨t1,J⟩,T,hol⟩;by_cases X:i<l.length;case neg=>
  obtain rfl:i=l.length:=by omega
  rw[take_length]at J T hol ⊢;generalize tM w l=s at *;have hdc:=dF ((l.length:Int)<(l.length:Nat));have hid:=J.bV;cases hbb:s.b with
  |false=>obtain⟨a0,G,a2,a3,a4,a5,a6,a7,a8,a9,Rm,Rl,hO⟩:=yw (show s.w.O.length=12 from rfl);rw[hO]at hid;simp only[ZH,RX.O,RX.at,hbb,hO,hdc,Bool.false_eq_true,go_sem,sA];exact Fj (show 12<=13 by decide) ⟨rfl,rfl⟩ rfl (by have:=eN (show 12<=13 by decide) hid;show([a0,G,a2,a3,a4,a5,a6,a7,a8,a9,Rm,Rl]++[ah.dat 3 1 (iC s.outs)]).all (aP 13)=true;rw[all_append,this];rfl)
  |true=>have hid:=xP (c:=s.w.c) (now:=s.w.now) (ag:=s.w.ag) (N:=s.w.N) (steps:=s.w.steps) (d:=jt s.w.kn) (tb:=Aa s.w.kn) s.w.x (T hbb).2 (ot _);change(s.w.OA s.w.g++iw s.w.x).all (aP 17)=true at hid;obtain⟨a0,G,a2,a3,a4,a5,a6,a7,a8,a9,Rm,Rl,a12,a13,a14,a15,a16,hO⟩:=Tr (show(s.w.OA s.w.g++iw s.w.x).length=17 from rfl);rw[hO]at hid;simp only[ZH,RX.O,RX.at,hbb,hO,hdc,go_sem,sA];exact Fj (show 12<=18 by decide) ⟨rfl,rfl⟩ rfl (by have:=eN (show 17<=18 by decide) hid;show([a0,G,a2,a3,a4,a5,a6,a7,a8,a9,Rm,Rl,a12,a13,a14,a15,a16]++[ah.dat 3 1 (iC s.outs)]).all (aP 18)=true;rw[all_append,this];rfl)
 have V:=aG (f:=vg) Cl X;have heb:=D (l.getD i Cl) (by rw[getD,getElem?_eq_getElem X];exact getElem_mem X);have sH:=OS w l X;generalize l.getD i Cl=e at *;generalize hs1:tM w (l.take i)=s at *;obtain⟨r,w',t',Z9,Xy,zw,_,_,_,hdn,hcr⟩:=uy J (by omega) e H heb;simp only[vg,i64]at V;have hdc:=dT ((i:Int)<(l.length:Nat));have c1:(i+1)*8<=70368744177664:=by omega
 have YL:(iC s.outs).length=i:=by rw[<- hol];exact length_map _
 have hid:=J.bV;cases hbb:s.b with
 |false=>
  have hnx:s.next e=⟨w',w'.up&&!s.w.up,s.outs++[r]⟩:=by unfold RX.next;rw[hbb,Z9];simp
  obtain⟨a0,G,a2,a3,a4,a5,a6,a7,a8,a9,Rm,Rl,hO⟩:=yw (show s.w.O.length=12 from rfl);simp only[ZH,RX.O,RX.at,kM,hbb,hO,hdc,X,V,Bool.false_eq_true,go_sem,sA];have E:=Sa hid (af:=[some a0,some G,some a2,some a3,some a4,some a5,some a6,some a7,some a8,some a9,some Rm,some Rl,some (ah.dat 3 1 (iC s.outs)),some (abE e)]) (by rw[hO];rfl);unfold SC at Xy;split at Xy
  .rename_i hbt;refine aa0 (List.range 12) (.int r) (A:=w'.OA s.w.g) (B:=iw w'.x) Xy rfl (show ay _ (List.range 12) [] [.ptr 0 0,cN e] [.ptr 0 0,cN e]by simp[ay,aB,cN,LV.int]) E.nd (E.at_ _) hid rfl rfl (λaC Z=>?_);obtain⟨y0,y1,y2,y3,y4,y5,y6,y7,y8,y9,y10,y11,Zj,Yg,y14,y15,y16,y17,y18,rfl⟩:=Tq Z.len;have h12:some Zj=some (some _):=kf (Z.same 12 (le_of_ble_eq_true rfl) (by decide) nofun);obtain rfl:=Option.some.inj h12;clear h12;have hall:=xP (c:=w'.c) (now:=w'.now) (ag:=w'.ag) (N:=w'.N) (steps:=w'.steps) (d:=jt w'.kn) (tb:=Aa w'.kn) w'.x (J.dn hbt.1).2.1 (ot _);change(w'.OA s.w.g++iw w'.x).all (aP 17)=true at hall;have a:(w'.up&&!s.w.up)=true:=by rw[hbt.1,hbt.2];rfl
   have hg':w'.g=s.w.g:=by have:=DN s.w e hbt.1;rwa [Z9]at this
   simp only[iC,length_append,hol,c1,go_sem];rw[wS i];refine JD [] (List.range 12++range' 14 5++[12]) [] (w'.OA s.w.g++iw w'.x++[.dat 3 1 (iC (s.outs++[r]))]) [(0,.ptr 0 0),(5,.sl 17 (i+1) 1 0 (i+1)),(8,.d (.cM 10 (l.map vg))),(9,.int l.length),(10,.int (i+1:Nat))] (i+1) ?_ ⟨le_of_ble_eq_true rfl,rfl⟩ (by decide) (by simp) ?_ ?_ (by simp) rfl ?_ ⟨by omega,?_,?_,?_⟩ (by omega)
   .rw [sH,hnx];simp only[a,hg',if_true];rfl
   .exact pG.ren (nI:=[y0,y1,y2,y3,y4,y5,y6,y7,y8,y9,y10,y11,some _,Yg,y14,y15,y16,y17,y18,_]) Z rfl hall [12] [_] rfl (by simp[an,iC]) (λx S π=>by rw[mem_singleton.1 S];rfl)
   .show (w'.OA s.w.g++iw w'.x++[ah.dat 3 1 (iC (s.outs++[r]))]).all (aP 18)=true;rw[all_append,eN (show 17<=18 by decide) hall];rfl
   .simp [bQ,St.get,aN,ay,aB,LV.int]
   .rw [sH,hnx];exact⟨t',zw⟩
   .rw [sH,hnx];exactλ_=>⟨hbt.2,by show Ds w'.g;rw[hg'];exact(J.dn hbt.1).2.1⟩
   .rw [sH,hnx];simp[hol]
  .rename_i hbt;refine aa0 (List.range 12) (.int r) (A:=w'.O) (B:=[]) (by rw[append_nil];exact Xy) rfl (show ay _ (List.range 12) [] [.ptr 0 0,cN e] [.ptr 0 0,cN e]by simp[ay,aB,cN,LV.int]) E.nd (E.at_ _) hid rfl rfl (λaC Z=>?_);obtain⟨y0,y1,y2,y3,y4,y5,y6,y7,y8,y9,y10,y11,Zj,Yg,rfl⟩:=Ts Z.len;have h12:some Zj=some (some _):=kf (Z.same 12 (le_of_ble_eq_true rfl) (by decide) nofun);obtain rfl:=Option.some.inj h12;have hS':=E.stay Z zw.bV;clear Z h12;simp only[iC,length_append,hol,c1,go_sem];have a:(w'.up&&!s.w.up)=false:=by
    cases U:w'.up<;>cases h2:s.w.up<;>simp_all
   rw[wS i];refine JD [] (List.range 12++[12]) [] (w'.O++[.dat 3 1 (iC (s.outs++[r]))]) [(0,.ptr 0 0),(5,.sl 12 (i+1) 1 0 (i+1)),(8,.d (.cM 10 (l.map vg))),(9,.int l.length),(10,.int (i+1:Nat))] (i+1) ?_ ⟨le_of_ble_eq_true rfl,rfl⟩ (by decide) (by simp) ?_ ?_ (by simp) rfl ?_ ⟨by omega,?_,?_,?_⟩ (by omega)
   .rw [sH,hnx];simp only[a,Bool.false_eq_true,if_false];rfl
   .exact mc.ren (nI:=[y0,y1,y2,y3,y4,y5,y6,y7,y8,y9,y10,y11,some _,Yg,_]) hS' zw.bV [12] [_] rfl (by simp[an,iC]) (λx S π=>by rw[mem_singleton.1 S];rfl)
   .show (w'.O++[ah.dat 3 1 (iC (s.outs++[r]))]).all (aP 13)=true;rw[all_append,eN (show 12<=13 by decide) zw.bV];rfl
   .simp [bQ,St.get,aN,ay,aB,LV.int]
   .rw [sH,hnx];exact⟨t',zw⟩
   .rw [sH,hnx];intro h2;rw[show(RX.mk w' (w'.up&&!s.w.up) (s.outs++[r])).b=false from a]at h2;cases h2
   .rw [sH,hnx];simp[hol]
 |true=>
  obtain⟨y,hgo⟩:=T hbb;have hnx:s.next e=⟨{ w' with g:=s.w.g },w'.up,s.outs++[r]⟩:=by unfold RX.next;rw[hbb,Z9];simp
  obtain⟨a0,G,a2,a3,a4,a5,a6,a7,a8,a9,Rm,Rl,a12,a13,a14,a15,a16,hO⟩:=Tr (show(s.w.OA s.w.g++iw s.w.x).length=17 from rfl);have hga:=congrArg (λl=>(l.drop 7).take 5) hO;change[s.w.g.1,s.w.g.2.1,s.w.g.2.2.1,s.w.g.2.2.2.1,s.w.g.2.2.2.2]=[a7,a8,a9,Rm,Rl]at hga;simp only[List.cons.injEq,and_true]at hga;obtain⟨rfl,rfl,rfl,rfl,rfl⟩:=hga;simp only[ZH,RX.O,RX.at,kM,hbb,hO,hdc,X,V,go_sem,sA];have E:=ZD y hid (g:=s.w.g) (af:=[some a0,some G,some a2,some a3,some a4,some a5,some a6,some s.w.g.1,some s.w.g.2.1,some s.w.g.2.2.1,some s.w.g.2.2.2.1,some s.w.g.2.2.2.2,some a12,some a13,some a14,some a15,some a16,some (ah.dat 3 1 (iC s.outs)),some (abE e)]) (by rw[hO];rfl);unfold SC at Xy;rw[if_neg (by rw[y];simp)]at Xy;refine aa0 A9 (.int r) (A:=w'.O) (B:=[]) (by rw[append_nil];exact Xy) rfl (show ay _ A9 [] [.ptr 0 0,cN e] [.ptr 0 0,cN e]by simp[ay,aB,cN,LV.int,A9]) E.nd (E.at_ _) hid rfl rfl (λaC Z=>?_);obtain⟨y0,y1,y2,y3,y4,y5,y6,y7,y8,y9,y10,y11,Zj,Yg,y14,y15,y16,y17,y18,rfl⟩:=Tq Z.len;have h7:some y7=some (some _):=kf (Z.same 7 (le_of_ble_eq_true rfl) (by decide) nofun);have h8:some y8=some (some _):=kf (Z.same 8 (le_of_ble_eq_true rfl) (by decide) nofun);have h9:some y9=some (some _):=kf (Z.same 9 (le_of_ble_eq_true rfl) (by decide) nofun);have h10:some y10=some (some _):=kf (Z.same 10 (le_of_ble_eq_true rfl) (by decide) nofun);have h11:some y11=some (some _):=kf (Z.same 11 (le_of_ble_eq_true rfl) (by decide) nofun);have h17:some y17=some (some _):=kf (Z.same 17 (le_of_ble_eq_true rfl) (by decide) nofun);obtain rfl:=Option.some.inj h7;obtain rfl:=Option.some.inj h8;obtain rfl:=Option.some.inj h9;obtain rfl:=Option.some.inj h10;obtain rfl:=Option.some.inj h11;obtain rfl:=Option.some.inj h17;clear h7 h8 h9 h10 h11 h17;have q:=(E.stay Z zw.bV).at_ 0;have Ud:A9.map (an [y0,y1,y2,y3,y4,y5,y6,some s.w.g.1,some s.w.g.2.1,some s.w.g.2.2.1,some s.w.g.2.2.2.1,some s.w.g.2.2.2.2,Zj,Yg,y14,y15,y16,some (ah.dat 3 1 (iC s.outs)),y18])=(w'.O.map (bP U_)).map bK.live:=by
   rw[q,map_map];have ab9:=zw.bV;rw[all_eq_true]at ab9;refine map_congr_left λob zY=>?_
   simp only[Function.comp_apply];rw[nv (MQ 0) ob (ab9 ob zY)]
  clear Z q E;simp only[iC,length_append,hol,c1,go_sem];have S:iC (s.outs++[r])=s.outs.map (λv=>[i64 v])++[[i64 r]]:=by simp[iC]
  rw[wS i];cases YI:w'.up with
  |true=>
   have K:A9.map (an [y0,y1,y2,y3,y4,y5,y6,some s.w.g.1,some s.w.g.2.1,some s.w.g.2.2.1,some s.w.g.2.2.2.1,some s.w.g.2.2.2.2,Zj,Yg,y14,y15,y16,some (ah.dat 3 1 (iC s.outs)),y18])=((w'.OA s.w.g).take 7++iw w'.x).map bK.live:=by rw[Ud,GD w' YI s.w.g]
   have hT1:=congrArg (take 7) K;have hT2:=congrArg (drop 7) K;have hall:=xP (c:=w'.c) (now:=w'.now) (ag:=w'.ag) (N:=w'.N) (steps:=w'.steps) (d:=jt w'.kn) (tb:=Aa w'.kn) w'.x hgo (ot _);change(w'.OA s.w.g++iw w'.x).all (aP 17)=true at hall;refine JD [] (List.range 18) [] (w'.OA s.w.g++iw w'.x++[.dat 3 1 (iC (s.outs++[r]))]) [(0,.ptr 0 0),(5,.sl 17 (i+1) 1 0 (i+1)),(8,.d (.cM 10 (l.map vg))),(9,.int l.length),(10,.int (i+1:Nat))] (i+1) ?_ ⟨le_of_ble_eq_true rfl,rfl⟩ (by decide) (by simp) (ZI ?_ ?_) ?_ (by simp) rfl ?_ ⟨by omega,?_,?_,?_⟩ (by omega)
   .rw [sH,hnx];simp only[YI,if_true];rfl
   .rw [S];refine Eq.trans (b:=(take 7 (((w'.OA s.w.g).take 7++iw w'.x).map bK.live))++[s.w.g.1,s.w.g.2.1,s.w.g.2.2.1,s.w.g.2.2.2.1,s.w.g.2.2.2.2].map bK.live++(drop 7 (((w'.OA s.w.g).take 7++iw w'.x).map bK.live))++[bK.live (.dat 3 1 (s.outs.map (λv=>[i64 v])++[[i64 r]]))]) ?_ rfl;rw[<- hT1,<- hT2];rfl
   .show (w'.OA s.w.g++iw w'.x++[ah.dat 3 1 (iC (s.outs++[r]))]).all (aP 18)=true;rw[all_append,eN (show 17<=18 by decide) hall];rfl
   .show (w'.OA s.w.g++iw w'.x++[ah.dat 3 1 (iC (s.outs++[r]))]).all (aP 18)=true;rw[all_append,eN (show 17<=18 by decide) hall];rfl
   .simp [bQ,St.get,aN,ay,aB,LV.int]
   .rw [sH,hnx];exact⟨t',zw.ZA hgo⟩
   .rw [sH,hnx];exactλ_=>⟨YI,hgo⟩
   .rw [sH,hnx];simp[hol]
  |false=>
   have j:=zw.ZA hgo;refine JD [] (List.range 12++[17]) [] (({ w' with g:=s.w.g } : WD).O++[.dat 3 1 (iC (s.outs++[r]))]) [(0,.ptr 0 0),(5,.sl 12 (i+1) 1 0 (i+1)),(8,.d (.cM 10 (l.map vg))),(9,.int l.length),(10,.int (i+1:Nat))] (i+1) ?_ ⟨le_of_ble_eq_true rfl,rfl⟩ (by decide) (by simp) ?_ ?_ (by simp) rfl ?_ ⟨by omega,?_,?_,?_⟩ (by omega)
   .rw [sH,hnx];simp only[YI,Bool.false_eq_true,if_false];rfl
   .rw [S,acn w' YI];have hT1:=congrArg (take 7) Ud;rw[<- map_take,<- map_take,<- map_take,adD w' YI]at hT1;refine Eq.trans (b:=(w'.O.take 7).map bK.live++[s.w.g.1,s.w.g.2.1,s.w.g.2.2.1,s.w.g.2.2.2.1,s.w.g.2.2.2.2].map bK.live++[bK.live (.dat 3 1 (s.outs.map (λv=>[i64 v])++[[i64 r]]))]) (by rw[<- hT1];rfl) ?_;have aan:=j.bV;rw[acn w' YI]at aan;rw[all_eq_true]at aan;have hpi:∀o,o<12->gz (List.range 12++[17]) 0 o=o:=by decide
    have u:(w'.O.take 7++[s.w.g.1,s.w.g.2.1,s.w.g.2.2.1,s.w.g.2.2.2.1,s.w.g.2.2.2.2]).map (λob=>bK.live (bP (gz (List.range 12++[17]) 0) ob))=(w'.O.take 7++[s.w.g.1,s.w.g.2.1,s.w.g.2.2.1,s.w.g.2.2.2.1,s.w.g.2.2.2.2]).map bK.live:=map_congr_left λob zY=>by rw[jZ hpi ob (aan ob zY)]
    refine Eq.trans ?_ (map_append ..).symm;rw[u,map_append];rfl
   .show (({ w' with g:=s.w.g } : WD).O++[ah.dat 3 1 (iC (s.outs++[r]))]).all (aP 13)=true;rw[all_append,eN (show 12<=13 by decide) j.bV];rfl
   .simp [bQ,St.get,aN,ay,aB,LV.int]
   .rw [sH,hnx];exact⟨t',j⟩
   .rw [sH,hnx];intro h2;rw[show(RX.mk { w' with g:=s.w.g } w'.up (s.outs++[r])).b=false from YI]at h2;cases h2
   .rw [sH,hnx];simp[hol]
end
section
variable {G:tY} {c:av} {n k:Nat} {t:aa} {w:WD}
def J8(h:WI c n k t w)(y:w.up=true):aS G 10 [.ptr 0 0] w.O (.cZ [aU t,.bool true]) w.O:=by obtain⟨u,rfl⟩:=h.up y;have E:=u.fi.ok.right.len;have T:=u.fi.ok.right.jobs;have K:=L5 (G:=G) w.x u.fi.dn (by omega) (by omega);have J:=h.bV;rw[WD.CS y]at J ⊢;refine Lv func10 J ?_;simp only[bX,dR,aL,sA]at K;simp only[wU,cB,Ez,eP,q8,cI,om,tc,qh,GO,GN,Da,Db,aL,go_sem];refine kG [7,9,5,10,11,6,4,8] K trivial
def W_(h:WI c n k t w)(y:w.up=false):aS G 10 [.ptr 0 0] w.O (.cZ [aU yS,.bool false]) w.O:=by have J:=h.bV;rw[WD.ac3 y]at J ⊢;refine tW func10 ?_;have m:=nu (n:=12) (base:=0) (af:=(wN w.c w.now w.ag w.N w.steps (jt w.kn) (Aa w.kn) w.x.j.n w.x.j.l w.x.j.s w.x.room w.x.term w.x.sh w.x.wr w.g++[ah.box 34 [.d (.val (.slice none 0 0)),.d (.val (.slice none 0 0)),.int 0,.int 0,.int 0,.int 0]]).map some) rfl rfl J;simp only[wN,cB,Ez,eP,dZ,cI,om,tc,qh,sA]at J m ⊢;simp only[go_sem];exact ue [] (List.range 12) [] (vs:=[.agg [.d (.val (.slice none 0 0)),.d (.val (.slice none 0 0)),.int 0,.int 0,.int 0,.int 0],.bool false]) rfl rfl (by decide) (by simp) (by simp) m J (by simp[aR,aB,ay,aU,yS,bH,qM,LV.int,LV.bool])
def JZ(h:WI c n k t w):aS G 21 [.ptr 0 0] w.O (.ptr 4 0) w.O:=by refine Lv func21 h.bV ?_;simp only[WD.O,WD.post,cI,cB,Ez,go_sem]
end
section
variable{G:tY}{ρ:List Nat}{af:List (Option ah)}{w:WD}
def ir6:=qx Tryz.f6
def ae6:bM prog Tryz.f6=some ir6:=by kernel_rfl
def Nl(a:List Int)(k:Nat):St:=⟨[(0,.d (.cM 1 (iC a))),(1,.d (.cM 1 (iC a))),(5,.int k)],[]⟩
def PK(a:List Int)(J:a.length<=1000000000):aS G 11 [.d (.cM 1 (iC a)),.d (.cM 1 (iC a))] [] (.bool true) []:=by
 have b:(iC a).length=a.length:=length_map _;refine iL func11 ?_;simp only[b,bne_self_eq_false,go_sem];refine aQ [0,1,5] [] (λk:Nat=>k<=a.length) (λk=>a.length-k) (Nl a) 0 ?_ (zero_le _) ?_
 .simp only[Nl,Int.natCast_zero,go_sem]
 rintro k hk;simp only[Nl,b,go_sem];by_cases X:k<a.length;case neg=>simp only[dF ((k:Int)<(a.length:Int)),go_sem]
 have e:=aG (f:=λn:Int=>[i64 n]) 0 X;generalize a.getD k 0=x at *;have h:(iC a)[k]? = some [DV.val (.int .i64 x)]:=e;simp only[dT ((k:Int)<(a.length:Int)),h,bne_self_eq_false,go_sem];refine aY (k+1) ?_ ?_ (by omega) (by omega)
 .simp only[go_sem]
 .simp only[Nl,wS k,go_sem]
def XW:av:=⟨2,1,1,1,5,2,4,50,2000⟩
def QC: aS G 20 [] [] (eD XW) []:=by refine iL func20 ?_;simp only[XW,go_sem]
def enK(k:Int):dL:=⟨k,0,0,fW⟩
def lA:List dL:=[⟨11,0,0,⟨1,0,0,1,1,3,0⟩⟩,enK 2,enK 5,enK 1,enK 99]
def sAl:RX:=tM (WD.new XW 2000) lA
def abm:(sAl.b,sAl.outs,sAl.w.up,(sAl.w.x.s.jobs.getD 0 az).phase,(sAl.w.ag.getD 0 kB).mode,sAl.w.now,(sAl.w.N.cM sAl.w.N.ps.length).length,sAl.w.steps,sAl.w.x.term)=(false,[0,9,1,0,-1],true,1,1,1,2,5,1):=by kernel_rfl
def Sf{c:av}{n:Nat}(H:gq c=true):∀(l:List dL) {k:Nat} {t:aa} {s:RX},WI c n k t s.w->(∀e∈l,e.b<=9223372036854775807)->k+l.length<=1000->(s.b=true->Ds s.w.g)->∃t',WI c n (k+l.length) t' (l.foldl RX.next s).w
 |[],k,t,s,h,_,_,_=>⟨t,h⟩
 |e::l,k,t,s,h,T,hk,V=>by
  rw[length_cons]at hk;obtain⟨r,w',t',E,_,j,_⟩:=uy h (by omega) e H (T e (mem_cons_self ..));have D:WI c n (k+1) t' (s.next e).w:=by
   unfold RX.next;rw[E];dsimp only;split
   .exact j.ZA (V ‹_›)
   .exact j
  have m:(s.next e).b=true->Ds (s.next e).w.g:=by
   unfold RX.next;rw[E];dsimp only;intro a;split
   .exact V ‹_›
   .rename_i q;simp only[Bool.and_eq_true,Bool.or_eq_true,Bool.not_eq_true']at a;have y:s.w.up=false:=a.2.resolve_left q;have U:=DN s.w e y;rw[E]at U;dsimp only at U;rw[U];exact(h.dn y).2.1
  obtain⟨o,h2⟩:=Sf H l D (λu v=>T u (mem_cons_of_mem _ v)) (by omega) m;exact⟨o,by rw[length_cons,show k+(l.length+1)=k+1+l.length by omega];exact h2⟩
def mc.of{p:Nat}{nI:List (Option ah)}(h:mc p ρ af w)(e:ρ.map (an nI)=ρ.map (an af)):mc p ρ nI w:=⟨h.nd,h.len,h.hd,λbase=>e.trans (h.at_ base)⟩
def mc.store{p o:Nat}(h:mc p ρ af w)(j:ρ[4]? = some o)(base:Nat):[o].map (an af)=(eF w.x.room w.x.term w.x.sh w.x.wr).map (λob=>bK.live (bP (gz [o] base) ob)):=by have U:=congrArg (λl=>l[4]?) (h.at_ 0);simp only[getElem?_map,j]at U;have h2:w.O[4]? = some (om w.x.room w.x.term w.x.sh w.x.wr):=rfl;rw[h2]at U;have B:=Option.some.inj U;simp only[map_cons,map_nil,B];simp[eF,om,bP,kC,rn,gF,kQ,LV.int]
def Jz:aS dh 6 [] [] (.bool true) []:=by
 have H:gq XW=true:=by decide
 have Vd:=GU XW H 2000 rfl (by decide) (by decide);have hI0:=Rv H (n:=2000) rfl (by decide) (by decide);have hrun:=Rt hI0 H lA (by decide) (by decide);obtain⟨t5,Uc⟩:∃t',WI XW 2000 6 t' sAl.w:=Sf H lA (s:=⟨WD.new XW 2000,false,[]⟩) hI0 (by decide) (by decide) nofun;have hok:=abm;have Xq:=hI0.bV;simp only[Prod.mk.injEq]at hok;obtain⟨o1,o2,o3,o4,o5,o6,o7,o8,o9⟩:=hok;have hsa:tM (WD.new XW 2000) lA=sAl:=rfl;rw[hsa]at hrun;clear hsa;generalize WD.new XW 2000=w0 at *;generalize sAl=s at *;obtain⟨w,b,outs⟩:=s;dsimp only at o1 o2 o3 o4 o5 o6 o7 o8 o9 Uc;subst o1 o2;obtain⟨u,rfl⟩:=Uc.up o3;have v:=J8 (G:=dh) Uc o3;have hLa:=Fm Uc rfl;have S:=JZ (G:=dh) Uc;have hTm:=DE (G:=dh) Uc;have hSt:=AA (G:=dh) Uc;have hal:w.ag.length=2:=by have:=Uc.ag;exact Int.ofNat.inj this
 have hAg:=yT (G:=dh) Uc (by omega);have hNt:=GV (G:=dh) Uc;have hid:=Uc.bV;have hcf:=QC (G:=dh);simp only[eD]at hcf Vd;refine Kk func6 (by decide) ae6 rfl ?_;have m:∀s:St,s.get 0=.bool true->Rj ir6.2.2 0 (.bool true) [] s:=λs h=>dP [] (vs:=[.bool true]) (by simp[gi.of,RV.of,h,ir6,qxE]) (by simp) (by simp[aR,aB,LV.bool])
 simp only[ir6,go_sem];refine a_ hcf ?_;refine tG Vd rfl rfl rfl ?_;have e0:w0.O.map (bP (gz [] 0))=w0.O:=by
  rw[all_eq_true]at Xq;conv=>rhs;rw[<- map_id w0.O]
  exact map_congr_left λob D=>jZ (k:=12) (λo _=>by rw[Sw];rfl) ob (Xq ob D)
 simp only[e0,go_sem];obtain⟨y,K,T,U,j,q,a6,a7,a8,a9,Rm,Rl,e⟩:=yw (show w0.O.length=12 from rfl);have hS0:=Sa Xq (af:=[some y,some K,some T,some U,some j,some q,some a6,some a7,some a8,some a9,some Rm,some Rl,some (ah.dat 48 10 (lA.map vg))]) (by rw[e];rfl);simp only[e,go_sem];refine acG (List.range 12) [12] (.sl 13 5 1 0 5) (A:=w.O) (B:=[.dat 3 1 (iC [0,9,1,0,-1])]) hrun rfl (show ay _ (List.range 12) [12] [.ptr 0 0,.sl 12 5 10 0 5] [.ptr 0 0,kM lA]by simp[ay,aB,bz,an,kM,lA,enK,vg,fW,LV.int]) hS0.nd (by simp) (by simp[an]) (hS0.at_ _) Xq rfl rfl (λaC Z=>?_);obtain⟨y0,y1,y2,y3,y4,y5,y6,y7,y8,y9,y10,y11,Zj,Yg,rfl⟩:=Ts Z.len;have h13:some Yg=some (some _):=kf (Z.new 0 _ rfl);obtain rfl:=Option.some.inj h13;have LF:=hS0.stay Z hid;clear Z h13 e hS0;simp only[go_sem];refine JE (List.range 12) (.cZ [aU w.x.s,.bool true]) [] (ai:=w.O) (B:=[]) (by rw[append_nil];exact v) rfl (show ay _ (List.range 12) [] [.ptr 0 0] [.ptr 0 0]by simp[ay,aB]) LF.nd (LF.at_ _) hid rfl rfl ?_;simp only[go_sem];refine JE (List.range 12) (.cZ [aU w.x.s,.bool true]) [] (ai:=w.O) (B:=[]) (by rw[append_nil];exact hLa) rfl (show ay _ (List.range 12) [] [.ptr 0 0] [.ptr 0 0]by simp[ay,aB]) LF.nd ((LF.of rfl).at_ _) hid rfl rfl ?_;simp only[go_sem];have hin:=PK (G:=dh) [0,9,1,0,-1] (by decide);simp only[iC,i64,map_cons,map_nil]at hin;refine xD [13,16] hin rfl (by simp[ay,aB,bz,an,iC,go_sem]) (by simp[an]) rfl rfl ?_;simp only[go_sem];have JP:=u.fi.ok.right.len;have J:=u.fi.ok.right.jobs;have hj0:0<w.x.s.jobs.length:=by
  cases hj:w.x.s.jobs with
  |nil=>rw[hj]at o4;cases o4
  |cons a b=>simp
 have V:=aG (f:=dH) az hj0;have hsm:=abl w.x.s w.x.s rfl (by omega) (by omega);generalize w.x.s.jobs.getD 0 az=j0 at *;obtain⟨j1,j2,j3,j4,j5,j6,j7,j8,j9,j10,j11,j12⟩:=j0;dsimp only at o4;subst o4;simp only[dH,i64]at V;simp only[aU]at hsm;simp only[hj0,V,go_sem];refine a_ hsm ?_;have hga:=aG (f:=zN) kB (show 0<w.ag.length by omega);generalize w.ag.getD 0 kB=b0 at *;obtain⟨X,r,E,b4,b5,b6,b7,b8,b9,b10⟩:=b0;dsimp only at o5;subst o5;simp only[zN,i64,bl]at hga;refine JE (List.range 12) (.sl 17 2 10 0 2) [eP w.ag] (ai:=w.O) (B:=[eP w.ag]) hAg rfl (show ay _ (List.range 12) [] [.ptr 0 0] [.ptr 0 0]by simp[ay,aB]) LF.nd ((LF.of rfl).at_ _) hid (by rw[hal];rfl) rfl ?_;simp only[eP,hga,hal,go_sem];refine JE (List.range 12) (.int 1) [] (ai:=w.O) (B:=[]) (by rw[o6]at hTm;rw[append_nil];exact hTm) rfl (show ay _ (List.range 12) [] [.ptr 0 0] [.ptr 0 0]by simp[ay,aB]) LF.nd ((LF.of rfl).at_ _) hid rfl rfl ?_;simp only[go_sem];refine JE (List.range 12) (.sl 18 2 11 0 2) [.dat 94 11 ((w.N.cM w.N.ps.length).map jQ)] (ai:=w.O) (B:=[.dat 94 11 ((w.N.cM w.N.ps.length).map jQ)]) hNt rfl (show ay _ (List.range 12) [] [.ptr 0 0] [.ptr 0 0]by simp[ay,aB]) LF.nd ((LF.of rfl).at_ _) hid (by rw[o7];rfl) rfl ?_;simp only[go_sem];refine JE (List.range 12) (.int 5) [] (ai:=w.O) (B:=[]) (by rw[o8]at hSt;rw[append_nil];exact hSt) rfl (show ay _ (List.range 12) [] [.ptr 0 0] [.ptr 0 0]by simp[ay,aB]) LF.nd ((LF.of rfl).at_ _) hid rfl rfl ?_;simp only[go_sem];refine JE (List.range 12) (.ptr 4 0) [] (ai:=w.O) (B:=[]) (by rw[append_nil];exact S) rfl (show ay _ (List.range 12) [] [.ptr 0 0] [.ptr 0 0]by simp[ay,aB]) LF.nd ((LF.of rfl).at_ _) hid rfl rfl ?_;simp only[go_sem];have hte:=Dd (G:=dh) w.x.room w.x.term w.x.sh w.x.wr;rw[o9]at hte;have hSs:=LF.store (o:=4) rfl;rw[o9]at hSs;refine JE [4] (.int 1) [] (ai:=eF w.x.room 1 w.x.sh w.x.wr) (B:=[]) (by rw[append_nil];exact hte) rfl (show ay _ [4] [] [.ptr 4 0] [.ptr 0 0]by simp[ay,aB]) (by simp) (hSs _) (by simp[eF,aP,bn,bV,eB,gV,LV.int]) rfl rfl ?_;simp only[go_sem];exact m _ rfl
end
def C_(c:av)(l:List dL)(u:∀e∈l,e.b<=9223372036854775807):aS dh 5 [eD c,.d (.cM 10 (l.map vg))] [] (.bool true) []:=AD Jz c l u
section
variable{w v:WD}{c:av}{n k:Nat}{t:aa}{ρ G:List Nat}{xs:List bF}{cs fs:List LV}
def EqG(w v:WD):Prop:={ w with g:=v.g } = v
def EqG.set(h:EqG w v)(a b:ah×ah×ah×ah×ah):EqG { w with g:=a } { v with g:=b }:=by unfold EqG at h ⊢;have h2:=congrArg (λx:WD=>({ x with g:=b } : WD)) h;exact h2
def StG(a b:Int×WD):Prop:=a.1=b.1/\EqG a.2 b.2
def aeW{p:Prop}[Decidable p]{a b x D:Int×WD}(X:StG a x)(T:StG b D):StG (if p then a else b) (if p then x else D):=by
 split
 .exact X
 .exact T
def aem(h:EqG w v)(e:dL):StG (w.fc e) (v.fc e):=by obtain⟨g,rfl⟩:∃g,{ w with g:=g } = v:=⟨_,h⟩;clear h;unfold WD.fc WD.eR;dsimp only;repeat' (first|exact⟨rfl,rfl⟩|refine aeW ?_ ?_|split)
def aey{s r:RX}(h:EqG s.w r.w)(e:dL):∃z,(s.next e).outs=s.outs++[z]/\(r.next e).outs=r.outs++[z]/\EqG (s.next e).w (r.next e).w:=by
 obtain⟨U,h2⟩:=aem h e;refine⟨_,rfl,by rw[U];rfl,?_⟩;unfold RX.next;dsimp only
 split<;>split
 .exact h2.set _ _
 .exact h2.set _ (r.w.fc e).2.g
 .exact h2.set (s.w.fc e).2.g _
 .exact h2
def aec:∀(l:List dL) {s r:RX},EqG s.w r.w->∃zs,(l.foldl RX.next s).outs=s.outs++zs/\(l.foldl RX.next r).outs=r.outs++zs/\EqG (l.foldl RX.next s).w (l.foldl RX.next r).w
 |[],s,r,h=>⟨[],by simp,by simp,h⟩
 |e::l,s,r,h=>by obtain⟨z,U,h2,B⟩:=aey h e;obtain⟨zs,y,A,o⟩:=aec l B;exact⟨z::zs,by rw[foldl_cons,y,U];simp,by rw[foldl_cons,A,h2];simp,o⟩
def aeo(w:WD)(l:List dL)(i:Nat):(tM w l).outs=(tM w (l.take i)).outs++(tM (tM w (l.take i)).w (l.drop i)).outs/\EqG (tM w l).w (tM (tM w (l.take i)).w (l.drop i)).w:=by
 have h0:tM w l=(l.drop i).foldl RX.next (tM w (l.take i)):=by unfold tM;rw[<- foldl_append,take_append_drop]
 obtain⟨zs,U,h2,B⟩:=aec (l.drop i) (s:=tM w (l.take i)) (r:=⟨(tM w (l.take i)).w,false,[]⟩) rfl;refine⟨?_,by rw[h0];exact B⟩;rw[h0,U];unfold tM at h2 ⊢;rw[h2];simp
def aeb:∀(l:List dL) {s:RX},(s.b=true->s.w.up=true)->(l.foldl RX.next s).b=true->(l.foldl RX.next s).w.up=true
 |[],_,h,T=>h T
 |e::l,s,_,T=>aeb l (s:=s.next e) (λh=>by
  unfold RX.next at h ⊢;dsimp only at h ⊢;rw[Bool.and_eq_true]at h;split
  .exact h.1
  .exact h.1) T
def aep{c:av}{n:Nat}(H:gq c=true):∀(l:List dL) {k:Nat} {t:aa} {s:RX},WI c n k t s.w->(∀e∈l,e.b<=9223372036854775807)->k+l.length<=1000->(s.b=true->Ds s.w.g)->(l.foldl RX.next s).w.steps=s.w.steps+l.length/\((l.foldl RX.next s).b=true->Ds (l.foldl RX.next s).w.g)/\(l.foldl RX.next s).outs.length=s.outs.length+l.length
 |[],k,t,s,h,_,_,V=>⟨by simp,V,by simp⟩
 |e::l,k,t,s,h,T,hk,V=>by
  rw[length_cons]at hk;obtain⟨r,w',t',E,_,j,_,S,_⟩:=uy h (by omega) e H (T e (mem_cons_self ..));have D:WI c n (k+1) t' (s.next e).w:=by
   unfold RX.next;rw[E];dsimp only;split
   .exact j.ZA (V ‹_›)
   .exact j
  have o:(s.next e).w.steps=s.w.steps+1:=by
   unfold RX.next;rw[E];dsimp only;split
   .exact S
   .exact S
  have m:(s.next e).b=true->Ds (s.next e).w.g:=by
   unfold RX.next;rw[E];dsimp only;intro a;split
   .exact V ‹_›
   .rename_i q;simp only[Bool.and_eq_true,Bool.or_eq_true,Bool.not_eq_true']at a;have y:s.w.up=false:=a.2.resolve_left q;have U:=DN s.w e y;rw[E]at U;dsimp only at U;rw[U];exact(h.dn y).2.1
  obtain⟨U,h2,B⟩:=aep H l D (λu v=>T u (mem_cons_of_mem _ v)) (by omega) m;refine⟨?_,h2,?_⟩
  .rw [foldl_cons,U,o,length_cons];push_cast;omega
  .rw [foldl_cons,B,length_cons];show(s.outs++[_]).length+_=_;rw[length_append,length_singleton];omega
structure afH(c:av)(n k:Nat)(t:aa)(w:WD)(l:List dL):Prop where
 wi:WI c n (k+l.length) t (tM w l).w
 st:(tM w l).w.steps=w.steps+l.length
 len:(tM w l).outs.length=l.length
def ad6(H:gq c=true)(l:List dL)(h:WI c n k t w)(T:∀e∈l,e.b<=9223372036854775807)(hk:k+l.length<=1000):∃t',afH c n k t' w l:=by obtain⟨t',U⟩:=Sf H l (s:=⟨w,false,[]⟩) h T hk nofun;obtain⟨h2,_,B⟩:=aep H l (s:=⟨w,false,[]⟩) h T hk nofun;exact⟨t',U,h2,by rw[show(tM w l).outs.length=_ from B];simp⟩
section
variable {fin:St->Prop} {env:List (Nat×LV)} {af:List (Option ah)} {os:List er} {it:List It} {log:List iI}
def aeN(h:WI c n k t w)(H:gq c=true)(l:List dL)(u:∀e∈l,e.b<=9223372036854775807)(hk:k+l.length<=1000){p:Nat}(v:mc p ρ af w) :
  ∃A B q,aS dh 9 [.ptr 0 0,kM l] w.O (.sl q l.length 1 0 l.length) (A++B)/\A.length=12/\12<=q/\q<12+B.length/\∀aC,pG ρ [] af aC A B->∃a,mc p a aC (tM w l).w/\(∀o∈a,o∈ρ\/af.length<=o)/\af.length+(q-12)∉a/\an aC (af.length+(q-12))=.live (.dat 3 1 (iC (tM w l).outs)):=by
 have r:=Rt h H l u hk;obtain⟨t',J⟩:=Sf H l (s:=⟨w,false,[]⟩) h u hk nofun;have hid:(tM w l).w.O.all (aP 12)=true:=WI.bV J;have X:=v.lt;unfold RX.O RX.at at r;cases T:(tM w l).b with
 |false=>rw[T]at r;refine⟨_,_,_,r,rfl,Nat.le_refl _,lt_succ_self _,λaC Z=>⟨ρ,v.stay Z hid,λo j=>.inl j,λj=>?_,Z.new 0 _ rfl⟩⟩;have:=X _ j;omega
 |true=>
  have y:=aeb l (s:=⟨w,false,[]⟩) nofun T;rw[T]at r;simp only[if_true,append_assoc]at r;refine⟨_,_,17,r,rfl,by decide,Nat.le_refl _,λaC Z=>⟨_,v.acp Z y hid,λo j=>?_,λj=>?_,Z.new 5 _ rfl⟩⟩
  .rcases mem_append.1 j with U|U
   .exact .inl (mem_of_mem_take U)
   .exact .inr (mem_range'_1.1 U).1
  .rcases mem_append.1 j with U|U
   .have:=X _ (mem_of_mem_take U);omega
   .have:=(mem_range'_1.1 U).2;omega
def aex{d:Option Nat}{f:bF}(h:WI c n k t w)(H:gq c=true)(l:List dL)(J:∀e∈l,e.b<=9223372036854775807)(r:k+l.length<=1000){p:Nat}(v:mc p ρ af w)(K:callee (f.ev dh (aN env))=some (9,fs,cs))
  (X:fs++xs.map (·.ev dh (aN env))++cs=[.ptr p 0,kM l])
  (hk:∀aC T q,mc p T aC (tM w l).w->(∀o,o<af.length->o∉ρ->an aC o=an af o)->(∀o∈T,o∈ρ\/af.length<=o)->af.length<=q->q∉T->an aC q=.live (.dat 3 1 (iC (tM w l).outs))->W prog dh fin (.ops os::it) ⟨di d (.sl q l.length 1 0 l.length) env,aC⟩):W prog dh fin (.ops (⟨d,.call f xs,none,G⟩::os)::it) ⟨env,af⟩:=by
 obtain⟨A,B,q,a,D,E,x,V⟩:=aeN h H l J r v;refine aa0 ρ (.sl (af.length+(q-12)) l.length 1 0 l.length) a K (by rw[X];simp[ay,aB,kM,v.hd]) v.nd (v.at_ _) (by rw[v.len];exact h.bV) (by rw[v.len];exact D) ?_ (λaC Z=>?_)
 .show LV.sl (gz ρ _ q) _ _ _ _=_;unfold gz;rw[getElem?_eq_none (by rw[v.len];exact E),v.len]
 .obtain ⟨T,U,h2,u,y⟩:=V aC Z;exact hk aC T _ U (λo O j=>Z.same o O j nofun) h2 (le_add_right ..) u y
def aee{d:Option Nat}{f:bF}(h:WI c n k t w)(H:gq c=true)(l:List dL)(J:∀e∈l,e.b<=9223372036854775807)(r:k+l.length<=1000){p:Nat}(v:mc p ρ af w)(K:callee (f.ev dh (aN env))=some (9,fs,cs))
  (X:fs++xs.map (·.ev dh (aN env))++cs=[.ptr p 0,kM l])
  (hk:∀aC T q m,mc p T aC (tM w l).w->(∀o,o<af.length->o∉ρ->an aC o=an af o)->(∀o∈T,o∈ρ\/af.length<=o)->af.length<=q->q∉T->an aC q=.live (.dat 3 1 (iC (tM w l).outs))->W prog dh fin (.en os (log++[⟨G,ρ,range' af.length m++ρ⟩])::it) ⟨di d (.sl q l.length 1 0 l.length) env,aC⟩):W prog dh fin (.en (⟨d,.call f xs,none,G⟩::os) log::it) ⟨env,af⟩:=by
 obtain⟨A,B,q,a,D,E,x,V⟩:=aeN h H l J r v;refine aft ρ (.sl (af.length+(q-12)) l.length 1 0 l.length) a K (by rw[X];simp[ay,aB,kM,v.hd]) v.nd (v.at_ _) (by rw[v.len];exact h.bV) (by rw[v.len];exact D) ?_ (λaC Z=>?_)
 .show LV.sl (gz ρ _ q) _ _ _ _=_;unfold gz;rw[getElem?_eq_none (by rw[v.len];exact E),v.len]
 .obtain ⟨T,U,h2,u,y⟩:=V aC Z;exact hk aC T _ _ U (λo O j=>Z.same o O j nofun) h2 (le_add_right ..) u y
end
end
section
variable{x:Option ah}{w:WD}{c:av}{n k:Nat}{t:aa}
def ir4:=qx Tryz.f4
def ae8:bM prog Tryz.f4=some ir4:=by kernel_rfl
def PJ{l r:List (Option ah)}{o:Nat}{x:ah}(h:an l o=.live x):an (l++r) o=.live x:=by
 unfold an at h ⊢;rw[getElem?_append_left (by
  by_cases Z:o<l.length
  .exact Z
  .rw [getElem?_eq_none (by omega)]at h;cases h)]
 exact h
def TH(l r:List (Option ah))(x:ah):an (l++some x::r) l.length=.live x:=by unfold an;rw[getElem?_append_right (Nat.le_refl _),Nat.sub_self];rfl
def WX{l:List (Option ah)} : (l++[x])[l.length]? = some x:=by simp
def WV{l:List (Option ah)}{y:Option ah} : (l++[x]).set l.length y=l++[y]:=by simp
def mc.of'{p:Nat}{ρ:List Nat}{af nI:List (Option ah)}(h:mc p ρ af w)(e:∀o∈ρ,an nI o=an af o):mc p ρ nI w:=h.of (map_congr_left e)
structure DwS where
 i:Nat
 w:WD
 af:List (Option ah)
 ρ:List Nat
 p:Nat
 q:Nat
def dnS(m:List dL)(x:DwS):St:=⟨[(2,kM m),(7,.ptr x.p 0),(8,.ptr x.q 0),(9,.bool true),(10,.int x.i)],x.af⟩
def DwI(c:av)(n k:Nat)(t:aa)(m:List dL)(x:DwS):Prop:=x.i<=m.length/\WI c n (k+x.i) t x.w/\x.w.up=false/\mc x.p x.ρ x.af x.w/\x.q∉x.ρ/\an x.af x.q=.live (iY t)
def aen(t:aa)(π:Nat->Nat):bP π (iY t)=iY t:=by simp[iY,bP,kC,rn,bH,qM,LV.int]
def afs{k0:Nat}{m:List dL}{fin:St->Prop}{U:List It}{env:List (Nat×LV)}{mm:Nat}{x:DwS}(h:DwI c n k0 t m x)(T:CE (Wb U) mm=0)(h2:aN env 2=kM m)(u:aN env 7=.ptr x.p 0)(D:aN env 8=.ptr x.q 0)(A:aN env 9=.bool true)(r:aN env 10=.int x.i)(S:m.length-x.i<k) :
  W prog dh fin (.lp [2,7,8,9,10] mm (JN (DwI c n k0 t m) (λx=>m.length-x.i) (dnS m)) k::U) ⟨env,x.af⟩:=by
 obtain⟨hi,J,o,v,E,j⟩:=h;have Z:x.ρ.length=12:=v.len;have K:(x.ρ++[x.q]).Nodup:=by rw[nodup_append];exact⟨v.nd,by simp,λa X b T e=>E (by rw[mem_singleton]at T;rw[<- T,<- e];exact X)⟩
 have G:=v.ren J.bV [x.q] [iY t] (nI:=x.af) rfl (by simp[j]) (λy H π=>by rw[mem_singleton.1 H];exact aen t π);have hid:(x.w.O++[iY t]).all (aP 13)=true:=by rw[all_append,eN (show 12<=13 by decide) J.bV];rfl
 refine JD [] (x.ρ++[x.q]) [] (x.w.O++[iY t]) [(2,kM m),(7,.ptr 0 0),(8,.ptr 12 0),(9,.bool true),(10,.int x.i)] ⟨x.i,x.w,(x.w.O++[iY t]).map some,List.range 12,0,12⟩ rfl ⟨by rw[T];exact zero_le _,by rw[T];rfl⟩ K (by simp) G (by rw[length_append,Z];exact hid) (by simp) rfl ?_ ⟨hi,J,o,?_,by simp,?_⟩ S
 .have B:(x.ρ++[x.q])[0]? = some x.p:=by rw[getElem?_append_left (by omega)];exact v.hd
  have V:(x.ρ++[x.q])[12]? = some x.q:=by rw[getElem?_append_right (by omega),Z];rfl
  simp[bQ,St.get,h2,u,D,A,r,ay,aB,B,V,kM,LV.int,LV.bool];exact(List.getElem?_eq_some_iff.1 B).2
 .refine Sa J.bV ?_;rw[<- map_take,take_left' (show x.w.O.length=12 from rfl)]
 .have:=TH (x.w.O.map some) [] (iY t);rw[map_append];exact this
def WI.more{c:av}{n k H:Nat}{t:aa}{w:WD}(h:WI c n k t w)(hk:k<=H):WI c n H t w:=
 ⟨h.cf,by have:=h.now;omega,h.ag,h.N,by have:=h.st;omega,λy=>⟨(h.up y).1.more hk,(h.up y).2⟩,λy=>⟨(h.dn y).1.more hk,(h.dn y).2⟩⟩
def WI.right(h:WI c n k t w)(H:gq c=true):bU c t:=by obtain⟨⟨j,q,bs,_,T,_,_⟩,_⟩:=h.rd;exact zb H T
def enC:dL:=⟨12,0,0,fW⟩
def YD(c:av)(l m:List dL)(u:∀e∈l,e.b<=9223372036854775807)(hmb:∀e∈m,e.b<=9223372036854775807):aS dh 4 [eD c,kM l,kM m] [] (.bool true) []:=by
 have aaw:=Jz;have hgr:=PX (G:=dh) c l;simp only[eD,kM]at hgr;refine Kk func4 (by decide) ae8 rfl ?_;simp only[ir4,go_sem];have A:∀s:St,s.get 6=.bool true->Rj ir4.2.2 0 (.bool true) [] s:=λs h=>dP [] (vs:=[.bool true]) (by simp[gi.of,RV.of,h,ir4,qxE]) (by simp) (by simp[aR,aB,LV.bool])
 simp only[kM,go_sem];refine a_ aaw ?_;refine a_ hgr ?_;cases hG:great c l with
 |true=>simp only[go_sem];exact A _ rfl
 |false=>
 unfold great at hG;simp only[Bool.or_eq_false_iff,Bool.not_eq_false',decide_eq_false_iff_not]at hG;obtain⟨⟨hlen,H⟩,Xt⟩:=hG;simp only[go_sem];by_cases h60:m.length>60
 .simp only[dT ((m.length:Int)>60),go_sem];exact A _ rfl
 simp only[dF ((m.length:Int)>60),go_sem];have hdk:2000<=c.fT:=by have h:=H;unfold gq at h;simp only[Bool.and_eq_true]at h;exact(bf h.2).1
 have hnd:1<=c.nodes/\c.nodes<=6:=by have h:=H;unfold gq at h;simp only[Bool.and_eq_true]at h;exact bf h.1.1.1.1.1.1.1.1
 obtain⟨n,D⟩:∃n:Nat,c.fT=n:=⟨c.fT.toNat,by omega⟩;have Vd:=GU c H n D (by omega) (by omega);have hI0:=Rv H D (by omega) hnd.1;generalize WD.new c n=w0 at *;simp only[eD]at Vd;refine tG Vd rfl rfl rfl ?_;rw[Sw];have hS0:=ZE 1 w0 hI0.bV [some (NA c)] [] rfl;simp only[go_sem];obtain⟨t1,K⟩:=ad6 H l hI0 u (by omega);refine aex hI0 H l u (by omega) (ρ:=range' 1 12) (p:=1) (by have h:=hS0;simp only[NA,LV.int,append_nil,sA]at h;exact h) rfl rfl (λaes Z0 q1 hS1 _ _ _ _ _=>?_);have hI1:=K.wi;generalize(tM w0 l).w=k at *;simp only[go_sem];obtain⟨r2,o,t2,_,Z,t,_,_,_,hdn,hcr⟩:=uy hI1 (by omega) enC H (by decide);have hu2:o.up=false/\t2=t1:=by
  cases y:k.up with
  |true=>exact hcr y rfl
  |false=>obtain⟨U,h2,_⟩:=hdn y (by decide);exact⟨U,h2⟩
 obtain⟨hu2,rfl⟩:=hu2;refine aed hS1 Z hI1 t rfl rfl (λnI ρ2 hS2 _ _=>?_);simp only[go_sem];have hLa:=Fm t D;refine JE ρ2 (.cZ [aU t2,.bool true]) [] (ai:=o.O) (B:=[]) (by rw[append_nil];exact hLa) rfl (show ay _ ρ2 [] [.ptr 1 0] [.ptr 0 0]by simp[ay,aB,hS2.hd]) hS2.nd (hS2.at_ _) (by rw[hS2.len];exact t.bV) rfl rfl ?_;simp only[WX,WV,go_sem];have E:=TH nI [] (iY t2);have hS3:mc 1 ρ2 (nI++[some (iY t2)]) o:=hS2.app _;have hqn:nI.length∉ρ2:=λh=>Nat.lt_irrefl _ (hS2.lt _ h)
 refine aQ [2,7,8,9,10] [] (DwI c n (1+l.length+1) t2 m) (λx=>m.length-x.i) (dnS m) ⟨0,o,nI++[some (iY t2)],ρ2,1,nI.length⟩ ?_ ⟨zero_le _,t,hu2,hS3,hqn,E⟩ ?_
 .simp only[dnS,iY,kM,Int.natCast_zero,go_sem]
 clear hS3 E hqn hS2 t hu2 hLa hdn hcr Z hS1 hI1 K hS0 hI0 Vd;rintro x S;obtain⟨hi,J,y,v,hqn,E⟩:=id S;simp only[dnS,kM,go_sem];by_cases X:x.i<m.length;case neg=>simp only[dF ((x.i:Int)<(m.length:Int)),go_sem];have hSn:=W_ (G:=dh) J y;refine JE x.ρ (.cZ [aU yS,.bool false]) [] (ai:=x.w.O) (B:=[]) (by rw[append_nil];exact hSn) rfl (show ay _ x.ρ [] [.ptr x.p 0] [.ptr 0 0]by simp[ay,aB,v.hd]) v.nd (v.at_ _) (by rw[v.len];exact J.bV) rfl rfl ?_;simp only[yS,WX,WV,go_sem];exact A _ rfl
 have V:=aG (f:=vg) Cl X;have heb:=hmb (m.getD x.i Cl) (by rw[getD,getElem?_eq_getElem X];exact getElem_mem X);generalize m.getD x.i Cl=e at *;simp only[vg,i64]at V;simp only[dT ((x.i:Int)<(m.length:Int)),X,V,go_sem];by_cases h14:e.kind=14;case pos=>simp only[beq_iff_eq.2 h14,go_sem];rw[wS x.i];exact afs (x:=⟨x.i+1,x.w,x.af,x.ρ,x.p,x.q⟩) ⟨by dsimp only;omega,J.more (by dsimp only;omega),y,v,hqn,E⟩ rfl rfl rfl rfl rfl rfl (by dsimp only;omega)
 obtain⟨r,w',t',_,Z,j,_,_,_,hdn,_⟩:=uy J (by omega) e H heb;obtain⟨YI,rfl,hr⟩:=hdn y h14;simp only[beq_eq_false_iff_ne.2 h14,X,V,go_sem];refine aed v Z J j rfl rfl (λaC T hS' hsm hsh=>?_);have afB:T=x.ρ:=by
  rcases hsh with ⟨h,_⟩|⟨_,h,_⟩
  .exact h
  .rw [YI]at h;cases h
 subst afB;have hq':an aC x.q=.live (iY t'):=by rw[hsm _ (JO E) hqn];exact E
 have hqg:=kf (PJ hq' (r:=[some (iY t')]));have hLa:=Fm j D;have K:=j.right H;have hSm:=abl t' t' rfl (by have:=K.len;omega) (by have:=K.jobs;omega);simp only[aU,bH,qM]at hSm hLa;simp only[iY,bH,qM,LV.int]at hqg;simp only[X,V,go_sem];rcases(show e.kind=11\/(e.kind≠11/\e.kind=2)\/(e.kind≠11/\e.kind≠2/\e.kind=13)\/(e.kind≠11/\e.kind≠2/\e.kind≠13/\e.kind=12)\/(e.kind≠11/\e.kind≠2/\e.kind≠13/\e.kind≠12)by omega)with h|⟨a,h⟩|⟨a,b,h⟩|⟨a,b,d,h⟩|⟨a,b,d,h⟩
 case' inl=>simp only[beq_iff_eq.2 h,hr (.inr (.inl h)),bne_self_eq_false,go_sem]
 case' inr.inl=>simp only[beq_eq_false_iff_ne.2 a,beq_iff_eq.2 h,hr (.inl h),bne_self_eq_false,X,V,go_sem]
 case' inr.inr.inl=>simp only[beq_eq_false_iff_ne.2 a,beq_eq_false_iff_ne.2 b,beq_iff_eq.2 h,hr (.inr (.inr (.inr h))),bne_self_eq_false,X,V,go_sem]
 case' inr.inr.inr.inl=>simp only[beq_eq_false_iff_ne.2 a,beq_eq_false_iff_ne.2 b,beq_eq_false_iff_ne.2 d,beq_iff_eq.2 h,hr (.inr (.inr (.inl h))),bne_self_eq_false,X,V,go_sem]
 case' inr.inr.inr.inr=>simp only[beq_eq_false_iff_ne.2 a,beq_eq_false_iff_ne.2 b,beq_eq_false_iff_ne.2 d,beq_eq_false_iff_ne.2 h,X,V,go_sem]
 all_goals
  refine JE x.ρ (.cZ [aU t',.bool true]) [] (ai:=w'.O) (B:=[]) (by rw[append_nil];exact hLa) rfl (show ay _ x.ρ [] [.ptr x.p 0] [.ptr 0 0]by simp[ay,aB,v.hd]) hS'.nd (hS'.at_ _) (by rw[hS'.len];exact j.bV) rfl rfl ?_;simp only[WX,WV,hqg,go_sem];refine a_ hSm ?_;rw[wS x.i];exact afs (x:=⟨x.i+1,w',aC++[some (iY t')],x.ρ,x.p,x.q⟩) ⟨by dsimp only;omega,j.more (by dsimp only;omega),YI,hS'.app _,hqn,PJ hq'⟩ rfl rfl rfl rfl rfl rfl (by dsimp only;omega)
end
section
variable{G:tY}{k:Nat}
def ir3:=qx Tryz.f3
def ae9:bM prog Tryz.f3=some ir3:=by kernel_rfl
def msV(l:List bE):LV:=.d (.cM 11 (l.map jQ))
def msS(l:List bE)(k:Nat):St:=⟨[(0,msV l),(1,msV l),(5,.int k)],[]⟩
def aeg(l:List bE)(Z:l.length<=1000):aS G 13 [msV l,msV l] [] (.bool true) []:=by
 refine iL func13 ?_;simp only[msV,bne_self_eq_false,go_sem];refine aQ [0,1,5] [] (λk:Nat=>k<=l.length) (λk=>l.length-k) (msS l) 0 ?_ (zero_le _) ?_
 .simp only[msS,msV,Int.natCast_zero,go_sem]
 rintro k hk;simp only[msS,msV,go_sem];by_cases X:k<l.length;case neg=>simp only[dF ((k:Int)<(l.length:Int)),go_sem]
 have e:=aG (f:=jQ) lz X;generalize l.getD k lz=x at *;simp only[jQ,i64]at e;simp only[dT ((k:Int)<(l.length:Int)),X,e,Bool.and_self,go_sem];refine aY (k+1) ?_ ?_ (by omega) (by omega)
 .simp only[go_sem]
 .simp only[msS,msV,wS k,go_sem]
def WZ{l:List (Option ah)}{o:Nat}{x:Option ah}(h:o≠k):an (l.set k x) o=an l o:=by unfold an;rw[getElem?_set_ne (Ne.symm h)]
def abG{l:List (Option ah)}{x:ah}(h:k<l.length):an (l.set k (some x)) k=.live x:=by unfold an;rw[getElem?_set_self h]
def Z1{c:av}{n:Nat}{t:aa}{w:WD}(h:WI c n k t w):aS G 10 [.ptr 0 0] w.O (.cZ [aU (if w.up=true then w.x.s else yS),.bool w.up]) w.O:=by
 cases y:w.up with
 |true=>rw[if_pos rfl,(h.up y).2];exact J8 h y
 |false=>exact W_ h y
def Yx(c:av)(l:List dL)(u:Int)(y:0<=u/\u<=255)(J:∀e∈l,e.b<=9223372036854775807):aS dh 3 [eD c,kM l,.d (.val (.int .u8 u))] [] (.bool true) []:=by
 have aaw:=Jz;have hgr:=PX (G:=dh) c l;simp only[eD,kM]at hgr;refine Kk func3 (by decide) ae9 rfl ?_;simp only[ir3,go_sem];have m:∀s:St,s.get 6=.bool true->Rj ir3.2.2 0 (.bool true) [] s:=λs h=>dP [] (vs:=[.bool true]) (by simp[gi.of,RV.of,h,ir3,qxE]) (by simp) (by simp[aR,aB,LV.bool])
 simp only[kM,go_sem];refine a_ aaw ?_;refine a_ hgr ?_;cases hG:great c l with
 |true=>simp only[go_sem];exact m _ rfl
 |false=>
 unfold great at hG;simp only[Bool.or_eq_false_iff,Bool.not_eq_false',decide_eq_false_iff_not]at hG;obtain⟨⟨hlen,H⟩,Xt⟩:=hG;have hdk:2000<=c.fT:=by have h:=H;unfold gq at h;simp only[Bool.and_eq_true]at h;exact(bf h.2).1
 have hnd:1<=c.nodes/\c.nodes<=6:=by have h:=H;unfold gq at h;simp only[Bool.and_eq_true]at h;exact bf h.1.1.1.1.1.1.1.1
 obtain⟨n,D⟩:∃n:Nat,c.fT=n:=⟨c.fT.toNat,by omega⟩;have Vd:=GU c H n D (by omega) (by omega);have hI0:=Rv H D (by omega) hnd.1;have hs0:(WD.new c n).steps=0:=rfl;generalize WD.new c n=w0 at *;simp only[eD]at Vd;have hwu:IntKind.i64.wrap u=u:=aH (by omega) (by omega);simp only[hwu,go_sem];obtain⟨i,hi,hiu⟩:∃i:Nat,i<=l.length/\(i:Int)=if u>l.length then(l.length:Int)else u:=by
  by_cases h:u>l.length
  .exact ⟨l.length,Nat.le_refl _,by rw[if_pos h]⟩
  .exact ⟨u.toNat,by omega,by rw[if_neg h];omega⟩
 by_cases hgt:u>(l.length:Int);case' pos=>rw[if_pos hgt]at hiu;simp only[decide_eq_true hgt,go_sem];rw[<- hiu]
 case' neg=>rw[if_neg hgt]at hiu;simp only[decide_eq_false hgt,go_sem];rw[<- hiu]
 all_goals
  refine s_ Vd rfl rfl rfl ?_;rw[Sw];simp only[go_sem];simp only[M4,length_map,WD.abF];refine s_ Vd rfl rfl rfl ?_;rw[Sw];simp only[M4,length_append,WD.abF,go_sem];refine aD rfl ?_;have ae4:=ZE 1 w0 hI0.bV [some (NA c)] ((w0.O.map (bP (· + 13))).map some) rfl;have aeL:=ZE 13 w0 hI0.bV ([some (NA c)]++(w0.O.map (bP (· + 1))).map some) [] (by simp[WD.abF]);simp only[NA,LV.int,append_nil,append_assoc,sA]at ae4 aeL;simp only[go_sem];obtain⟨t1,K⟩:=ad6 H l hI0 J (by omega);refine aex hI0 H l J (by omega) ae4 rfl rfl (λaes Z0 qx aeM afc afi hle1 afJ S=>?_);have afu:=aeo w0 l i;have hle2:25<=qx:=by simpa[WD.abF]using hle1
  have afh:∀o∈Z0,o<13\/25<=o:=λo j=>by
   rcases afi o j with h|h
   .have:=mem_range'_1.1 h;omega
   .right;simpa[WD.abF]using h
  have aeJ:∀o∈range' 13 12,13<=o/\o<25:=λo j=>by have:=mem_range'_1.1 j;omega
  have afo:mc 13 (range' 13 12) aes w0:=aeL.of' (λo j=>afc o (aeL.lt o j) (λh=>by have:=mem_range'_1.1 h;have:=aeJ o j;omega));have hIa:=K.wi;have afz:=K.st;have afd:=K.len;have afA:w0.steps=0:=hs0;clear afc afi hle1 ae4 aeL;have X:=length_take_of_le hi;obtain⟨t2,hR2⟩:=ad6 H (l.take i) hI0 (λe v=>J e (mem_of_mem_take v)) (by rw[X];omega);obtain⟨t3,hR3⟩:=ad6 H (l.drop i) hR2.wi (λe v=>J e (mem_of_mem_drop v)) (by rw[X,length_drop];omega);have E:(l.map vg).take i=(l.take i).map vg:=(map_take ..).symm;have afG:(l.map vg).drop i=(l.drop i).map vg:=(map_drop ..).symm;simp only[hi,E,zero_le,Nat.le_refl,Nat.sub_zero,go_sem];refine aee hI0 H (l.take i) (λe v=>J e (mem_of_mem_take v)) (by rw[X];omega) afo rfl rfl (λnI ρ2 q1 m2 afn ae1 afg afL afe hq1=>?_);have afy:((l.drop i).map vg).take (l.length-i)=(l.drop i).map vg:=take_of_length_le (by simp);have hn2:∀o,(o<13\/25<=o)->o<aes.length->o∉ρ2:=λo U h2 h=>by
   rcases afg o h with h|h
   .have:=aeJ o h;omega
   .omega
  simp only[hi,afG,afy,zero_le,Nat.le_refl,Nat.sub_zero,go_sem];refine aee hR2.wi H (l.drop i) (λe v=>J e (mem_of_mem_drop v)) (by rw[X,length_drop];omega) afn rfl rfl (λaak ρ3 q2 m3 afm aeI aff afK afI My=>?_);have hIb:=hR3.wi;have afD:=hR2.len;have afC:=hR3.len;obtain⟨hto,htg⟩:=afu;generalize(tM w0 (l.take i)).w=k at *;generalize(tM w0 (l.take i)).outs=o1 at *;generalize Z:(tM k (l.drop i)).outs=o2 at *;generalize hwb:(tM k (l.drop i)).w=wb at *;generalize(tM w0 l).outs=oa at *;generalize(tM w0 l).w=wa at *;subst hto;have hlx:=JO S;have T:=JO hq1;have afr:mc 1 Z0 aak wa:=aeM.of' (λo j=>by have U:=aeM.lt o j;have h2:=afh o j;rw[aeI o (by omega) (hn2 o h2 U),ae1 o U (λh=>by have:=aeJ o h;omega)]);have hx3:an aak qx=.live (.dat 3 1 (iC (o1++o2))):=by rw[aeI qx (by omega) (hn2 qx (.inr hle2) hlx),ae1 qx hlx (λh=>by have:=aeJ qx h;omega)];exact S
  have ae2:an aak q1=.live (.dat 3 1 (iC o1)):=by rw[aeI q1 T afe];exact hq1
  have hg1:=kf ae2;have hg2:=kf My;have hd1:(l.take i).length+(l.drop i).length=l.length:=by rw[<- length_append,take_append_drop]
  have NM:(iC o1).length=(l.take i).length:=by rw[<- afD];exact length_map _
  have YQ:(iC o2).length=(l.drop i).length:=by rw[<- afC];exact length_map _
  have hc8:l.length*8<=70368744177664:=by omega
  have afv:(iC o2).take (l.drop i).length=iC o2:=by rw[<- YQ,take_length]
  have hoo:iC o1++iC o2=iC (o1++o2):=(map_append ..).symm;have ae3:(iC (o1++o2)).length=l.length:=by rw[<- afd];exact length_map _
  simp only[hg1,hg2,NM,YQ,afv,hd1,hc8,hoo,ae3,length_append,Nat.le_refl,go_sem];refine aD ?_ ?_
  .simp [indep,List.range,List.range.loop,Cz]
  have afF:q1<aak.length:=JO ae2;have hqa:q1∉Z0:=λh=>by have:=aeM.lt q1 h;omega
  have hqb:q1∉ρ3:=λh=>by
   rcases aff q1 h with h|h
   .exact afe h
   .omega
  obtain⟨Yz,q⟩:∃z,z=aak.set q1 (some (ah.dat 3 1 (iC (o1++o2)))):=⟨_,rfl⟩;have aej:mc 1 Z0 Yz wa:=afr.of' (λo j=>by rw[q];exact WZ λe=>hqa (e▸j));have afl:mc 13 ρ3 Yz wb:=afm.of' (λo j=>by rw[q];exact WZ λe=>hqb (e▸j));have hx4:an Yz qx=.live (.dat 3 1 (iC (o1++o2))):=by rw[q,WZ (by omega)];exact hx3
  have hq4:an Yz q1=.live (.dat 3 1 (iC (o1++o2))):=by rw[q];exact abG afF
  rw[<- q];clear q afr afm hx3 ae2 hg1 hg2 aeM afo afn S hq1 My ae1 aeI afh afg aff;have hup:wb.up=wa.up:=(congrArg WD.up htg).symm;have hxx:wb.x=wa.x:=(congrArg WD.x htg).symm;have hNN:wb.N=wa.N:=(congrArg WD.N htg).symm;have afE:wb.now=wa.now:=(congrArg WD.now htg).symm;have htA:=Z1 (G:=dh) hIa;have htB:=Z1 (G:=dh) hIb;rw[hup,hxx]at htB;have a:(if wa.up=true then wa.x.s else yS).nodes.length<=1000/\(if wa.up=true then wa.x.s else yS).jobs.length<=1000:=by
   split
   .rename_i h;obtain⟨U,h2⟩:=hIa.up h;have t:=hIa.right H;rw[h2];have q:=t.len;have A:=t.jobs;omega
   .simp [yS]
  generalize(if wa.up=true then wa.x.s else yS)=sa at *;have hSm:=abl sa sa rfl a.1 a.2;simp only[aU,bH,qM]at htA htB hSm;simp only[go_sem];refine JE Z0 (.cZ [aU sa,.bool wa.up]) [] (ai:=wa.O) (B:=[]) (by rw[append_nil];exact htA) rfl (show ay _ Z0 [] [.ptr 1 0] [.ptr 0 0]by simp[ay,aB,aej.hd]) aej.nd (aej.at_ _) (by rw[aej.len];exact hIa.bV) rfl rfl ?_;simp only[WX,WV,go_sem];obtain⟨Z2,A⟩:∃z,z=Yz++[some (iY sa)]:=⟨_,rfl⟩;have afq:mc 1 Z0 Z2 wa:=by rw[A];exact aej.app _
  have aei:mc 13 ρ3 Z2 wb:=by rw[A];exact afl.app _
  have hx5:=PJ hx4 (r:=[some (iY sa)]);have hq5:=PJ hq4 (r:=[some (iY sa)]);have hp5:=TH Yz [] (iY sa);rw[<- A]at hx5 hq5 hp5;simp only[iY,bH,qM,LV.int]at A;rw[<- A];generalize Yz.length=p5 at *;clear A aej afl hx4 hq4;refine JE ρ3 (.cZ [aU sa,.bool wa.up]) [] (ai:=wb.O) (B:=[]) (by rw[append_nil];exact htB) rfl (show ay _ ρ3 [] [.ptr 13 0] [.ptr 0 0]by simp[ay,aB,aei.hd]) aei.nd (aei.at_ _) (by rw[aei.len];exact hIb.bV) rfl rfl ?_;simp only[WX,WV,go_sem];obtain⟨Yy,h6⟩:∃z,z=Z2++[some (iY sa)]:=⟨_,rfl⟩;have ad1:mc 1 Z0 Yy wa:=by rw[h6];exact afq.app _
  have afk:mc 13 ρ3 Yy wb:=by rw[h6];exact aei.app _
  have hx6:=PJ hx5 (r:=[some (iY sa)]);have hq6:=PJ hq5 (r:=[some (iY sa)]);have hp6:=PJ hp5 (r:=[some (iY sa)]);have hp7:=TH Z2 [] (iY sa);rw[<- h6]at hx6 hq6 hp6 hp7;simp only[iY,bH,qM,LV.int]at h6;rw[<- h6];generalize Z2.length=p6 at *;clear h6 afq aei hx5 hq5 hp5;have hin:=PK (G:=dh) (o1++o2) (by rw[afd];omega);have afx:(iC (o1++o2)).take l.length=iC (o1++o2):=by rw[<- ae3,take_length]
  have hg6:=kf hp6;have hg7:=kf hp7;simp only[iY,bH,qM,LV.int]at hg6 hg7;refine xD [qx,q1] hin rfl (show ay (an Yy) [] [qx,q1] [LV.sl qx l.length 1 0 l.length,LV.sl q1 l.length 1 0 l.length] [.d (.cM 1 (iC (o1++o2))),.d (.cM 1 (iC (o1++o2)))]by simp[ay,aB,bz,hx6,hq6,ae3,afx]) (λz V=>?_) rfl rfl ?_
  .simp only[mem_cons,not_mem_nil,or_false]at V;rcases V with rfl|rfl
   .exact ⟨_,_,_,.inl hx6⟩
   .exact ⟨_,_,_,.inl hq6⟩
  simp only[hg6,hg7,go_sem];refine a_ hSm ?_;have hNa:=GV (G:=dh) hIa;have hNb:=GV (G:=dh) hIb;rw[hNN]at hNb;have hml:(wa.N.cM wa.N.ps.length).length<=1000:=by have U:=Gc wa.N wa.N.ps.length;have h2:=hIa.N.few;omega
  have hms:=aeg (G:=dh) (wa.N.cM wa.N.ps.length) hml;generalize wa.N.cM wa.N.ps.length=ms at *;refine JE Z0 (.sl Yy.length ms.length 11 0 ms.length) [.dat 94 11 (ms.map jQ)] (ai:=wa.O) (B:=[.dat 94 11 (ms.map jQ)]) hNa rfl (show ay _ Z0 [] [.ptr 1 0] [.ptr 0 0]by simp[ay,aB,ad1.hd]) ad1.nd (ad1.at_ _) (by rw[ad1.len];exact hIa.bV) (by show LV.sl (gz Z0 _ 12) _ _ _ _=_;rw[abw ad1.len]) rfl ?_;obtain⟨YE,h7⟩:∃z,z=Yy++[some (ah.dat 94 11 (ms.map jQ))]:=⟨_,rfl⟩;have afp:mc 1 Z0 YE wa:=by rw[h7];exact ad1.app _
  have adL:mc 13 ρ3 YE wb:=by rw[h7];exact afk.app _
  have hm7:=TH Yy [] (.dat 94 11 (ms.map jQ));rw[<- h7]at hm7;simp only[go_sem];rw[<- h7];generalize Yy.length=m6 at *;clear h7 ad1 afk;refine JE ρ3 (.sl YE.length ms.length 11 0 ms.length) [.dat 94 11 (ms.map jQ)] (ai:=wb.O) (B:=[.dat 94 11 (ms.map jQ)]) hNb rfl (show ay _ ρ3 [] [.ptr 13 0] [.ptr 0 0]by simp[ay,aB,adL.hd]) adL.nd (adL.at_ _) (by rw[adL.len];exact hIb.bV) (by show LV.sl (gz ρ3 _ 12) _ _ _ _=_;rw[abw adL.len]) rfl ?_;obtain⟨aer,h8⟩:∃z,z=YE++[some (ah.dat 94 11 (ms.map jQ))]:=⟨_,rfl⟩;have abD:mc 1 Z0 aer wa:=by rw[h8];exact afp.app _
  have aeK:mc 13 ρ3 aer wb:=by rw[h8];exact adL.app _
  have hm8:=TH YE [] (.dat 94 11 (ms.map jQ));have hm9:=PJ hm7 (r:=[some (ah.dat 94 11 (ms.map jQ))]);rw[<- h8]at hm8 hm9;simp only[go_sem];rw[<- h8];generalize YE.length=m7 at *;clear h8 afp adL;have afw:(ms.map jQ).take ms.length=ms.map jQ:=take_of_length_le (by simp);refine xD [m6,m7] hms rfl (show ay (an aer) [] [m6,m7] [LV.sl m6 ms.length 11 0 ms.length,LV.sl m7 ms.length 11 0 ms.length] [msV ms,msV ms]by simp[ay,aB,bz,msV,hm8,hm9,afw]) (λz V=>?_) rfl rfl ?_
  .simp only[mem_cons,not_mem_nil,or_false]at V;rcases V with rfl|rfl
   .exact ⟨_,_,_,.inl hm9⟩
   .exact ⟨_,_,_,.inl hm8⟩
  have hTa:=DE (G:=dh) hIa;have hTb:=DE (G:=dh) hIb;have hSt:=AA (G:=dh) hIa;rw[afE]at hTb;simp only[go_sem];refine JE Z0 (.int wa.now) [] (ai:=wa.O) (B:=[]) (by rw[append_nil];exact hTa) rfl (show ay _ Z0 [] [.ptr 1 0] [.ptr 0 0]by simp[ay,aB,abD.hd]) abD.nd (abD.at_ _) (by rw[abD.len];exact hIa.bV) rfl rfl ?_;simp only[go_sem];refine JE ρ3 (.int wa.now) [] (ai:=wb.O) (B:=[]) (by rw[append_nil];exact hTb) rfl (show ay _ ρ3 [] [.ptr 13 0] [.ptr 0 0]by simp[ay,aB,aeK.hd]) aeK.nd (aeK.at_ _) (by rw[aeK.len];exact hIb.bV) rfl rfl ?_;simp only[go_sem];refine JE Z0 (.int wa.steps) [] (ai:=wa.O) (B:=[]) (by rw[append_nil];exact hSt) rfl (show ay _ Z0 [] [.ptr 1 0] [.ptr 0 0]by simp[ay,aB,abD.hd]) abD.nd (abD.at_ _) (by rw[abD.len];exact hIa.bV) rfl rfl ?_;have hs9:wa.steps=(l.length:Int):=by rw[afz,afA];omega
  simp only[hs9,go_sem];exact m _ rfl
end
end Dv
