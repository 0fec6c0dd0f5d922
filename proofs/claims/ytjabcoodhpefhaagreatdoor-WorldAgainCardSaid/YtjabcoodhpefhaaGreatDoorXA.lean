/- part of the proof -/
import Derived.ProofKit
import Derived.Deep.MidRow
import Derived.Deep.AppendSrc
import Derived.Deep.Upon
import Derived.Laws.StructEq
set_option linter.all false
set_option maxHeartbeats 8000000
set_option maxRecDepth 1000000
namespace Dv
open Bool List
structure bh where
 up:Bool
 cU:Bool
 bw:Bool
 version:Int
 aM:Int
 deriving DecidableEq
structure bT where
 queue:Int
 prio:Int
 min:Int
 max:Int
 work:Int
 pin:Int
 phase:Int
 inc:Int
 nodes:Int
 since:Int
 til:Int
 epoch:Int
 deriving DecidableEq
structure av where
 nodes:Int
 bA:Int
 cF:Int
 gQ:Int
 bD:Int
 ej:Int
 deadline:Int
 room:Int
 fT:Int
 deriving DecidableEq
structure aa where
 nodes:List bh
 jobs:List bT
 goal:Int
 prior:Int
 mode:Int
 term:Int
 deriving DecidableEq
structure cr where
 kind:Int
 a:Int
 b:Int
 c:Int
 d:Int
 e:Int
 f:Int
 deriving DecidableEq
structure bE where
 node:Int
 kind:Int
 term:Int
 gen:Int
 aM:Int
 inc:Int
 version:Int
 epoch:Int
 til:Int
 mode:Int
 work:Int
 deriving DecidableEq
def fW:cr:=⟨0,0,0,0,0,0,0⟩
def lz:bE:=⟨0,0,0,0,0,0,0,0,0,0,0⟩
def az:bT:=⟨0,0,0,0,0,0,0,0,0,0,0,0⟩
def aq:bh:=⟨false,false,false,0,0⟩
def gA(s:aa):Int:=if s.mode=2 then s.prior else s.goal
def dg(l:List bT)(q:Int):Int:=((l.filter (λj=>decide (j.queue=q)&&decide (j.phase=3))).length:Int)
def LZ(l:List bT)(q:Int):0<=dg l q/\dg l q<=l.length:=by unfold dg;have:=length_filter_le (λj:bT=>decide (j.queue=q)&&decide (j.phase=3)) l;omega
def w_(l:List bT)(j:bT)(q:Int):dg (l++[j]) q=dg l q+if j.queue=q/\j.phase=3 then 1 else 0:=by unfold dg;by_cases U:j.queue=q<;>by_cases h2:j.phase=3<;>simp[filter_append,filter_cons,U,h2]
def hasB(n:Int)(i:Nat):Bool:=decide (n / 2 ^ i % 2=1)
def Y1(n:Int)(i:Nat):Int:=if hasB n i then 1 else 0
def yu(n:Int):Nat->Int
 |0=>0
 |k+1=>yu n k+Y1 n k
def many(n:Int):Int:=yu n 6
def Er(n:Int):∀k:Nat,0<=yu n k/\yu n k<=k
 |0=>by simp[yu]
 |k+1=>by
  have:=Er n k;unfold yu Y1
  split<;>omega
def bN(n lo hi:Int):Bool:=decide (lo<=n/\n<=hi)
def eC(nodes:Int)(e:bh->Bool):List bh->Nat->Int->Bool
 |[],_,_=>true
 |n::l,i,v=>
  if hasB nodes i=false then eC nodes e l (i+1) v
  else if e n=true/\n.version=(if v=0 then n.version else v)then eC nodes e l (i+1) (if v=0 then n.version else v)else false
def oE(ns:List bh)(j:bT)(nodes:Int)(e:bh->Bool):Bool:=
 if nodes<0\/2 ^ ns.length<=nodes then false
 else if bN (many nodes) j.min j.max=true then eC nodes e ns 0 j.pin else false
def nT(c:av)(j:bT):Bool:=bN j.queue 0 (c.bA-1)&&bN j.prio 0 9&&bN j.min 1 j.max&&bN j.max 1 c.nodes&&bN j.work 1 1000&&bN j.pin 0 9
def eT(p:Int):Bool:=decide (p=1\/p=2\/p=3)
def gq(c:av):Bool:=bN c.nodes 1 6&&bN c.bA 1 3&&bN c.cF 0 4&&bN c.gQ 1 6&&bN c.bD 2 30&&bN c.ej 1 20&&bN c.deadline 1 60&&bN c.room 0 5000&&bN c.fT 2000 40000
def mg(m:Int)(n:bh):Bool:=n.up&&!n.bw&&decide (n.aM=m)
def iN(c:av)(s:aa)(j:bT)(m:Int):Bool:=
 nT c j&&bN j.phase 0 4&&bN j.inc 0 1000000&&bN j.since 0 1000000&&bN j.til 0 1000000&&bN j.epoch 0 j.inc&&
 (if eT j.phase=true then oE s.nodes j j.nodes (mg m)else decide (j.nodes=0))
def oS(s:aa)(n:bh)(m:Nat):Bool:=
 bN n.version 1 9&&bN n.aM 0 s.jobs.length&&!(n.bw&&(!n.up||!n.cU||decide (n.aM≠0)))&&
 (decide (n.aM=0)||hasB (s.jobs.getD (n.aM-1).toNat az).nodes m)
def fq(c:av)(s:aa):List bT->Nat->Bool
 |[],_=>true
 |j::l,k=>iN c s j (k+1)&&fq c s l (k+1)
def fO(s:aa):List bh->Nat->Bool
 |[],_=>true
 |n::l,k=>oS s n k&&fO s l (k+1)
def fk(c:av)(s:aa):Nat->Nat->Bool
 |_,0=>true
 |q,n+1=>!decide (c.cF<dg s.jobs q)&&fk c s (q+1) n
def jE(c:av)(s:aa):Bool:=
 gq c&&decide ((s.nodes.length:Int)=c.nodes)&&decide (s.jobs.length<=24)&&bN s.goal 1 9&&bN s.prior 1 9&&bN s.mode 0 2&&bN s.term 0 1000000&&
 fq c s s.jobs 0&&fO s s.nodes 0&&fk c s 0 c.bA.toNat
def drop_cons{α:Type}(l:List α)(k:Nat)(z:α)(h:k<l.length):l.drop k=l.getD k z::l.drop (k+1):=by rw[drop_eq_getElem_cons h];simp[getD,h]
section
variable{c:av}{k:Nat}
def mQ(s:aa)(n:bh):Bool:=n.up&&!n.bw&&decide (n.version≠gA s)
def v8(s:aa)(aM:Int):Int:=(s.jobs.getD (aM-1).toNat az).pin
def nV(s:aa)(n:bh):Bool:=if n.aM=0 then false else decide (v8 s n.aM≠0)&&decide (v8 s n.aM≠gA s)
def vr(s:aa)(i:Int):Bool:=if i<0\/(s.nodes.length:Int)<=i then false else nV s (s.nodes.getD i.toNat aq)
def rJ(l:List bh):Int:=((l.filter (·.cU)).length:Int)
def Rx(l:List bh):0<=rJ l/\rJ l<=l.length:=by unfold rJ;have:=length_filter_le (λn:bh=>n.cU) l;omega
def Kf(l:List bh)(n:bh):rJ (l++[n])=rJ l+if n.cU then 1 else 0:=by unfold rJ;cases h:n.cU<;>simp[filter_append,filter_cons,h]
def MZ(s:aa)(n:bh):Bool:=n.cU&&n.up&&!n.bw&&(!mQ s n||nV s n)
def nR(c:av)(s:aa)(now:Int)(n:bh)(i:Int):Option cr:=
 if n.cU=false\/mQ s n=false\/nV s n=true then none
 else if n.aM=0 then some ⟨18,i,0,0,0,0,0⟩
 else
  let j:=s.jobs.getD (n.aM-1).toNat az
  if j.phase=1 then some ⟨11,n.aM,0,0,0,0,0⟩
  else if j.phase=2/\j.min<many (j.nodes % 64)then some ⟨20,n.aM,i,0,0,0,0⟩
  else if j.phase=2/\dg s.jobs j.queue<c.cF then some ⟨12,n.aM,(if 1000000<=now+c.deadline then 1000000 else now+c.deadline),0,0,0,0⟩
  else none
def Hv(c:av)(s:aa)(n:bh):Bool:=!n.cU&&mQ s n&&!nV s n&&decide (rJ s.nodes<c.gQ)
def f_(f:bh->Int->Option cr):List bh->Nat->Option cr
 |[],_=>none
 |n::l,k=>match f n k with
  |some o=>some o
  |none=>f_ f l (k+1)
def HT(s:aa)(n:bh)(i:Int):Option cr:=if MZ s n=true then some ⟨17,i,0,0,0,0,0⟩else none
def A3(c:av)(s:aa)(n:bh)(i:Int):Option cr:=if Hv c s n=true then some ⟨16,i,0,0,0,0,0⟩else none
def BD(c:av)(s:aa)(now:Int):Option cr:=
 if s.mode=1 then none
 else match f_ (HT s) s.nodes 0 with
  |some o=>some o
  |none=>match f_ (nR c s now) s.nodes 0 with
   |some o=>some o
   |none=>f_ (A3 c s) s.nodes 0
structure GM(c:av)(s:aa):Prop where
 xw:1<=c.nodes/\c.nodes<=6/\1<=c.bA/\c.bA<=3/\0<=c.cF/\c.cF<=4/\1<=c.gQ/\c.gQ<=6/\2<=c.bD/\c.bD<=30/\1<=c.ej/\c.ej<=20/\1<=c.deadline/\c.deadline<=60/\0<=c.room/\c.room<=5000/\2000<=c.fT/\c.fT<=40000
 nodes:(s.nodes.length:Int)=c.nodes
 jobs:s.jobs.length<=24
 acV:1<=s.goal/\s.goal<=9/\1<=s.prior/\s.prior<=9/\0<=s.mode/\s.mode<=2/\0<=s.term/\s.term<=1000000
 RW:∀k,k<s.jobs.length->iN c s (s.jobs.getD k az) (k+1)=true
 sound:∀k,k<s.nodes.length->oS s (s.nodes.getD k aq) k=true
 cF:∀q:Nat,(q:Int)<c.bA->dg s.jobs q<=c.cF
def bf{n lo hi:Int}(h:bN n lo hi=true):lo<=n/\n<=hi:=of_decide_eq_true h
def rS(c:av)(s:aa):∀(l:List bT) (k:Nat),fq c s l k=true->∀i,i<l.length->iN c s (l.getD i az) ((k+i:Nat)+1)=true
 |[],_,_,i,hi=>by simp at hi
 |j::l,k,h,i,hi=>by
  unfold fq at h;simp only[and_eq_true]at h;cases i with
  |zero=>simpa using h.1
  |succ i=>have:=rS c s l (k+1) h.2 i (by simpa using hi);rw[show k+(i+1)=k+1+i by omega];simpa using this
def tV(s:aa):∀(l:List bh) (k:Nat),fO s l k=true->∀i,i<l.length->oS s (l.getD i aq) (k+i)=true
 |[],_,_,i,hi=>by simp at hi
 |j::l,k,h,i,hi=>by
  unfold fO at h;simp only[and_eq_true]at h;cases i with
  |zero=>simpa using h.1
  |succ i=>have:=tV s l (k+1) h.2 i (by simpa using hi);rw[show k+(i+1)=k+1+i by omega];simpa using this
def t_(c:av)(s:aa):∀(n q:Nat),fk c s q n=true->∀i,i<n->dg s.jobs ((q+i:Nat):Int)<=c.cF
 |0,_,_,i,hi=>by omega
 |n+1,q,h,i,hi=>by
  unfold fk at h;simp only[and_eq_true,not_eq_true',decide_eq_false_iff_not]at h;cases i with
  |zero=>have:=h.1;simp;omega
  |succ i=>have:=t_ c s n (q+1) h.2 i (by omega);rw[show q+(i+1)=q+1+i by omega];exact this
def vV{s:aa}(h:jE c s=true):GM c s:=by
 unfold jE gq at h;simp only[and_eq_true,decide_eq_true_eq]at h;obtain⟨⟨⟨⟨⟨⟨⟨⟨⟨⟨⟨⟨⟨⟨⟨⟨⟨U,h2⟩,B⟩,y⟩,A⟩,o⟩,u⟩,D⟩,V⟩,O⟩,v⟩,g1⟩,g2⟩,g3⟩,g4⟩,st⟩,b⟩,a⟩:=h;have U:=bf U;have h2:=bf h2;have B:=bf B;have y:=bf y;have A:=bf A;have o:=bf o;have u:=bf u;have D:=bf D;have V:=bf V;have g1:=bf g1;have g2:=bf g2;have g3:=bf g3;have g4:=bf g4;exact⟨⟨U.1,U.2,h2.1,h2.2,B.1,B.2,y.1,y.2,A.1,A.2,o.1,o.2,u.1,u.2,D.1,D.2,V.1,V.2⟩,O,v,⟨g1.1,g1.2,g2.1,g2.2,g3.1,g3.2,g4.1,g4.2⟩,
  λk hk=>by have:=rS c s s.jobs 0 st k hk;simpa using this,
  λk hk=>by have:=tV s s.nodes 0 b k hk;simpa using this,
  λq E=>by have:=t_ c s _ 0 a q (by omega);simpa using this⟩
def GM.node{s:aa}(h:GM c s)(hk:k<s.nodes.length) :
  1<=(s.nodes.getD k aq).version/\(s.nodes.getD k aq).version<=9/\0<=(s.nodes.getD k aq).aM/\(s.nodes.getD k aq).aM<=s.jobs.length:=by
 have:=h.sound k hk;unfold oS at this;simp only[and_eq_true]at this;have U:=bf this.1.1.1;have h2:=bf this.1.1.2;omega
def GM.aM{s:aa}(h:GM c s)(hk:k<s.jobs.length) :
  let j:=s.jobs.getD k az
  (0<=j.queue/\j.queue<=c.bA-1)/\(0<=j.prio/\j.prio<=9)/\(1<=j.min/\j.min<=j.max)/\(1<=j.max/\j.max<=c.nodes)/\(1<=j.work/\j.work<=1000)/\(0<=j.pin/\j.pin<=9)/\(0<=j.phase/\j.phase<=4)/\(0<=j.inc/\j.inc<=1000000)/\(0<=j.since/\j.since<=1000000)/\(0<=j.til/\j.til<=1000000)/\(0<=j.epoch/\j.epoch<=j.inc):=by
 have:=h.RW k hk;unfold iN nT at this;simp only[and_eq_true]at this;obtain⟨⟨⟨⟨⟨⟨⟨⟨⟨⟨⟨K,T⟩,U⟩,v⟩,q⟩,y⟩,t⟩,w⟩,Z⟩,G⟩,S⟩,_⟩:=this;exact⟨bf K,bf T,bf U,bf v,bf q,bf y,bf t,bf w,bf Z,bf G,bf S⟩
def Ss(n:Nat)(h:n<=6):(2:Int) ^ n<=64:=by
 have:n=0\/n=1\/n=2\/n=3\/n=4\/n=5\/n=6:=by omega
 rcases this with h|h|h|h|h|h|h<;>subst h<;>simp
def GM.bits{s:aa}(h:GM c s)(hk:k<s.jobs.length):0<=(s.jobs.getD k az).nodes/\(s.jobs.getD k az).nodes<64:=by
 have:=h.RW k hk;have K:=h.xw;have D:=h.nodes;unfold iN at this;simp only[and_eq_true]at this;have h2:=this.2;split at h2
 .unfold oE at h2;split at h2
  .cases h2
  .rename_i E;have:=Ss s.nodes.length (by omega);omega
 .have:=of_decide_eq_true h2;omega
end
def oF(f:bh->Int->Option cr):∀(l:List bh) (k:Nat) (o:cr),f_ f l k=some o->∃i,i<l.length/\f (l.getD i aq) ((k+i:Nat):Int)=some o
 |[],_,_,h=>by simp[f_]at h
 |n::l,k,o,h=>by
  unfold f_ at h;cases A:f n k with
  |some p=>rw[A]at h;exact⟨0,by simp,by simpa using A.trans h⟩
  |none=>rw[A]at h;obtain⟨i,hi,h2⟩:=oF f l (k+1) o h;refine⟨i+1,by simpa using hi,?_⟩;rw[show k+(i+1)=k+1+i by omega];simpa using h2
inductive vz(s:aa):cr->Prop where
 |opened (a:Int):vz s ⟨17,a,0,0,0,0,0⟩
 |shut (a:Int) (h:vr s a=false):vz s ⟨16,a,0,0,0,0,0⟩
 |move (a:Int) (h:vr s a=false):vz s ⟨18,a,0,0,0,0,0⟩
 |shrink (j a:Int) (h:vr s a=false):vz s ⟨20,j,a,0,0,0,0⟩
 |Zn (i:Nat) (hi:i<s.nodes.length) (h0:(s.nodes.getD i aq).aM≠0) (h:v8 s (s.nodes.getD i aq).aM=0\/v8 s (s.nodes.getD i aq).aM=gA s):vz s ⟨11,(s.nodes.getD i aq).aM,0,0,0,0,0⟩
 |drain (i:Nat) (t:Int) (hi:i<s.nodes.length) (h0:(s.nodes.getD i aq).aM≠0) (h:v8 s (s.nodes.getD i aq).aM=0\/v8 s (s.nodes.getD i aq).aM=gA s):vz s ⟨12,(s.nodes.getD i aq).aM,t,0,0,0,0⟩
def s7(s:aa)(i:Nat)(hi:i<s.nodes.length):vr s (i:Int)=nV s (s.nodes.getD i aq):=by unfold vr;rw[if_neg (by omega)];simp
def KY(c:av)(s:aa)(now:Int)(o:cr)(h:BD c s now=some o):vz s o:=by
 unfold BD at h;split at h
 .cases h
 cases U:f_ (HT s) s.nodes 0 with
 |some p=>
  rw[U]at h;obtain⟨i,hi,h2⟩:=oF _ _ _ _ U;cases h;unfold HT at h2;split at h2
  .cases h2;exact .opened _
  .cases h2
 |none=>
  rw[U]at h;cases B:f_ (nR c s now) s.nodes 0 with
  |some p=>
   rw[B]at h;cases h;obtain⟨i,hi,h2⟩:=oF _ _ _ _ B;have X:=s7 s i hi;rw[Nat.zero_add]at h2;unfold nR at h2;split at h2
   .cases h2
   rename_i D;have b:nV s (s.nodes.getD i aq)=false:=by
    cases S:nV s (s.nodes.getD i aq)with
    |false=>rfl
    |true=>exact absurd (Or.inr (Or.inr S)) D
   rw[b]at X;split at h2
   .cases h2;exact .move _ X
   rename_i h0;have O:v8 s (s.nodes.getD i aq).aM=0\/v8 s (s.nodes.getD i aq).aM=gA s:=by unfold nV at b;rw[if_neg h0]at b;simp only[and_eq_false_iff,decide_eq_false_iff_not,Decidable.not_not]at b;exact b
   dsimp only at h2;split at h2
   .cases h2;exact .Zn i hi h0 O
   split at h2
   .cases h2;exact .shrink _ _ X
   split at h2
   .cases h2;exact .drain i _ hi h0 O
   .cases h2
  |none=>
   rw[B]at h;obtain⟨i,hi,h2⟩:=oF _ _ _ _ h;have X:=s7 s i hi;rw[Nat.zero_add]at h2;unfold A3 at h2;split at h2
   .rename_i hs;cases h2;refine .shut _ (X.trans ?_);unfold Hv at hs;simp only[and_eq_true,not_eq_true']at hs;exact hs.1.2
   .cases h2
section
variable{k:Nat}
def iW{α:Type}(g:Nat->α->α)(l:List α)(k:Nat):List α:=l.mapIdx λi x=>if i<k then g i x else x
section
variable {α:Type} (g:Nat->α->α) (l:List α)
@[simp] def qi(k:Nat):(iW g l k).length=l.length:=by simp[iW]
def AI:iW g l 0=l:=by
 apply ext_getElem
 .simp
 .intro i U h2;simp[iW]
def AK:iW g l l.length=l.mapIdx g:=by
 apply ext_getElem
 .simp
 .intro i U h2;simp at U;simp[iW,U]
def G7(h:k<l.length):(iW g l k)[k]? = some l[k]:=by simp[iW,h]
def xR{x:α}(h:k<l.length)(S:g k l[k]=x):(iW g l k).set k x=iW g l (k+1):=by
 apply ext_getElem
 .simp
 .intro i U h2;simp only[iW,getElem_set,getElem_mapIdx];by_cases hi:k=i
  .subst hi;simp[S]
  .rw [if_neg hi];by_cases B:i<k
   .rw [if_pos B,if_pos (by omega)]
   .rw [if_neg B,if_neg (by omega)]
def AJ(h:k<l.length)(S:g k l[k]=l[k]):iW g l k=iW g l (k+1):=by
 rw[<- xR g l h S];apply ext_getElem
 .simp
 .intro i U h2;rw[getElem_set];split
  .rename_i h;subst h;simp[iW]
  .rfl
end
def dm(s:aa)(i:Int):bh:=s.nodes.getD i.toNat aq
def eH(s:aa)(a:Int):bT:=s.jobs.getD (a-1).toNat az
def nN(n:bh):Bool:=n.up&&!n.cU&&!n.bw&&decide (n.aM=0)
def lP(s:aa)(i:Int)(n:bh):aa:={ s with nodes:=s.nodes.set i.toNat n }
def gJ(s:aa)(a:Int)(j:bT):aa:={ s with jobs:=s.jobs.set (a-1).toNat j }
def lets(m:Int)(_:Nat)(n:bh):bh:=if n.aM=m then{ n with aM:=0 }else n
def iz(bits m:Int)(i:Nat)(n:bh):bh:=if hasB bits i then{ n with aM:=m }else n
def eA(s:aa)(m phase:Int):aa:=
 { s with nodes:=s.nodes.mapIdx (lets m),jobs:=s.jobs.set (m-1).toNat { eH s m with phase:=phase,nodes:=0,since:=0,til:=0 } }
def oZ(o:cr):bT:=⟨o.a,o.b,o.c,o.d,o.e,o.f,0,0,0,0,0,0⟩
def jU(c:av)(s:aa)(o:cr):aa×Int:=if nT c (oZ o)=false then(s,1)else if 24<=s.jobs.length then(s,3)else({ s with jobs:=s.jobs++[oZ o] },0)
def lI(s:aa)(o:cr):aa×Int:=if(eH s o.a).phase=4 then(s,5)else(eA s o.a 4,0)
def lD(s:aa)(o:cr):aa×Int:=if bN o.a 1 9=false then(s,1)else({ s with prior:=gA s,goal:=o.a,mode:=0 },0)
def iX(s:aa)(ok:Bool)(b:Int):aa×Int:=if ok=true then({ s with mode:=b },0)else(s,5)
def sW(s:aa)(o:cr):aa×Int:=if(dm s o.a).up=false then(s,5)else
 let t:=if(dm s o.a).aM≠0 then eA s (dm s o.a).aM 0 else s
 (lP t o.a { dm t o.a with up:=false,bw:=false },0)
def RD(s:aa)(o:cr):aa×Int:=if bN o.b 1 9=false then(s,1)else if(dm s o.a).up=true then(s,5)else(lP s o.a { dm s o.a with up:=true,version:=o.b },0)
def pP(s:aa)(o:cr):aa×Int:=if(eH s o.a).phase≠0 then(s,5)else if oE s.nodes (eH s o.a) o.b nN=false\/1000000<=(eH s o.a).inc then(s,8)else
 ({ gJ s o.a { eH s o.a with phase:=1,inc:=(eH s o.a).inc+1,nodes:=o.b }with nodes:=s.nodes.mapIdx (iz o.b o.a) },0)
def oP(s:aa)(o:cr):aa×Int:=if(eH s o.a).phase≠1 then(s,5)else(gJ s o.a { eH s o.a with phase:=2,since:=o.b },0)
def lC(s:aa)(o:cr):aa×Int:=if(eH s o.a).phase≠1 then(s,5)else(eA s o.a 0,0)
def nP(c:av)(s:aa)(o:cr):aa×Int:=if(eH s o.a).phase≠2 then(s,5)else if c.cF<=dg s.jobs (eH s o.a).queue then(s,7)else(gJ s o.a { eH s o.a with phase:=3,til:=o.b },0)
def vQ(j:bT):Bool:=decide (j.phase=2)||decide (j.phase=3)
def kR(s:aa)(o:cr):aa×Int:=if vQ (eH s o.a)=false then(s,5)else if o.b≠(eH s o.a).inc\/o.b<=(eH s o.a).epoch then(s,6)else(gJ s o.a { eH s o.a with epoch:=o.b },0)
def pg(s:aa)(o:cr):aa×Int:=if(eH s o.a).phase≠3 then(s,5)else(eA s o.a 0,0)
def uo(s:aa)(o:cr):aa×Int:=if vQ (eH s o.a)=false then(s,5)else(eA s o.a 4,0)
def mP(s:aa)(o:cr):aa×Int:=if(dm s o.a).up=false\/(dm s o.a).cU=true then(s,5)else(lP s o.a { dm s o.a with cU:=true },0)
def iK(s:aa)(o:cr):aa×Int:=if(dm s o.a).cU=false\/(dm s o.a).bw=true then(s,5)else(lP s o.a { dm s o.a with cU:=false },0)
def wG(s:aa)(o:cr):aa×Int:=if(dm s o.a).up=false\/(dm s o.a).cU=false\/(dm s o.a).bw=true\/(dm s o.a).aM≠0 then(s,5)else(lP s o.a { dm s o.a with bw:=true },0)
def nL(s:aa)(o:cr):aa×Int:=if bN o.b 1 9=false then(s,1)else if(dm s o.a).bw=false then(s,5)else(lP s o.a { dm s o.a with version:=o.b,bw:=false,cU:=false },0)
def oB(n b:Int):Int:=if hasB n b.toNat then n-2 ^ b.toNat else n
def gT(s:aa)(o:cr):aa×Int:=if(s.nodes.length:Int)<=o.b then(s,4)else if(eH s o.a).phase≠2 then(s,5)else if(dm s o.b).aM≠o.a\/many (eH s o.a).nodes<=(eH s o.a).min then(s,8)else
 (lP (gJ s o.a { eH s o.a with nodes:=oB (eH s o.a).nodes o.b }) o.b { dm s o.b with aM:=0 },0)
def d_(s:aa):aa×Int:=if 1000000<=s.term then(s,3)else({ s with term:=s.term+1 },0)
def fH(k:Int):Nat:=if k=1 then 6 else if k=4\/k=5\/k=6\/k=21 then 0 else if k=8\/k=9\/k=10\/k=12\/k=13\/k=19\/k=20 then 2 else 1
def q_(n:Int)(a:Bool):Bool:=decide (0<=n/\n<=1000000)&&(a||decide (n=0))
def eU(o:cr):Bool:=decide (1<=o.kind/\o.kind<=21)&&q_ o.a (decide (0<fH o.kind))&&q_ o.b (decide (1<fH o.kind))&&q_ o.c (decide (2<fH o.kind))&&q_ o.d (decide (3<fH o.kind))&&q_ o.e (decide (4<fH o.kind))&&q_ o.f (decide (5<fH o.kind))
def Li(k:Int):Bool:=decide (k=2\/k=9\/k=10\/k=11\/k=12\/k=13\/k=14\/k=15\/k=20)
def BC(k:Int):Bool:=decide (k=7\/k=8\/k=16\/k=17\/k=18\/k=19)
def bW(c:av)(s:aa)(o:cr):aa×Int:=
 if o.kind=1 then jU c s o else if o.kind=2 then lI s o else if o.kind=3 then lD s o
 else if o.kind=4 then iX s (s.mode==0) 1 else if o.kind=5 then iX s (s.mode==1) 0 else if o.kind=6 then iX s (s.mode !=2) 2
 else if o.kind=7 then sW s o else if o.kind=8 then RD s o else if o.kind=9 then pP s o else if o.kind=10 then oP s o
 else if o.kind=11 then lC s o else if o.kind=12 then nP c s o else if o.kind=13 then kR s o else if o.kind=14 then pg s o
 else if o.kind=15 then uo s o else if o.kind=16 then mP s o else if o.kind=17 then iK s o else if o.kind=18 then wG s o
 else if o.kind=19 then nL s o else if o.kind=20 then gT s o else d_ s
def pH:aa:=⟨[],[],0,0,0,0⟩
def yO(c:av)(s:aa)(o:cr):aa×Int:=
 if eU o=false then(s,1)
 else if Li o.kind=true/\(o.a<1\/(s.jobs.length:Int)<o.a)then(s,4)
 else if BC o.kind=true/\(s.nodes.length:Int)<=o.a then(s,4)
 else bW c s o
def aW(c:av)(s:aa)(o:cr):aa×Int:=if jE c s=false then(pH,1)else yO c s o
end
section
variable{c:av}
def ei(s:aa)(i:Nat):bh:=s.nodes.getD i aq
def dO(s:aa)(k:Nat):bT:=s.jobs.getD k az
structure yR(c:av)(j:bT):Prop where
 asked:nT c j=true
 phase:0<=j.phase/\j.phase<=4
 inc:0<=j.inc/\j.inc<=1000000
 since:0<=j.since/\j.since<=1000000
 til:0<=j.til/\j.til<=1000000
 epoch:0<=j.epoch/\j.epoch<=j.inc
structure vu(ns:List bh)(j:bT):Prop where
 lo:0<=j.nodes
 hi:j.nodes<2 ^ ns.length
 many:j.min<=many j.nodes/\many j.nodes<=j.max
 rK:∃u,(j.pin=0\/u=j.pin)/\∀i,i<ns.length->hasB j.nodes i=true->(ns.getD i aq).version=u
structure bU(c:av)(s:aa):Prop where
 xw:gq c=true
 nodes:(s.nodes.length:Int)=c.nodes
 jobs:s.jobs.length<=24
 goal:1<=s.goal/\s.goal<=9
 prior:1<=s.prior/\s.prior<=9
 mode:0<=s.mode/\s.mode<=2
 term:0<=s.term/\s.term<=1000000
 num:∀k,k<s.jobs.length->yR c (dO s k)
 oW:∀k,k<s.jobs.length->eT (dO s k).phase=true->vu s.nodes (dO s k)
 idle:∀k,k<s.jobs.length->eT (dO s k).phase=false->(dO s k).nodes=0
 rK:∀i,i<s.nodes.length->1<=(ei s i).version/\(ei s i).version<=9
 aM:∀i,i<s.nodes.length->0<=(ei s i).aM/\(ei s i).aM<=s.jobs.length
 bw:∀i,i<s.nodes.length->(ei s i).bw=true->(ei s i).up=true/\(ei s i).cU=true/\(ei s i).aM=0
 up:∀i,i<s.nodes.length->(ei s i).aM≠0->(ei s i).up=true
 link:∀i k,i<s.nodes.length->k<s.jobs.length->(hasB (dO s k).nodes i=true↔(ei s i).aM=k+1)
 cF:∀q:Nat,(q:Int)<c.bA->dg s.jobs q<=c.cF
def qL(h:gq c=true):1<=c.nodes/\c.nodes<=6:=by unfold gq at h;simp only[and_eq_true]at h;exact bf h.1.1.1.1.1.1.1.1
def bU.len{s:aa}(h:bU c s):1<=s.nodes.length/\s.nodes.length<=6:=by have:=qL h.xw;have:=h.nodes;omega
def sI(i:Nat):hasB 0 i=false:=by simp[hasB]
def wZ(m:Int)(e:bh->Bool):∀(l:List bh) (i:Nat) (v:Int),(∀k,k<l.length->1<=(l.getD k aq).version)->
  (eC m e l i v=true↔∃u,(v=0\/u=v)/\∀k,k<l.length->hasB m (i+k)=true->e (l.getD k aq)=true/\(l.getD k aq).version=u)
 |[],i,v,_=>by simp only[eC,length_nil,true_iff];exact⟨v,.inr rfl,λk hk=>by omega⟩
 |n::l,i,v,K=>by
  have h0:1<=n.version:=by simpa using K 0 (by simp)
  have o:=λv=>wZ m e l (i+1) v (λk hk=>by simpa using K (k+1) (by simpa using hk))
  have a:∀u,(∀k,k<(n::l).length->hasB m (i+k)=true->e ((n::l).getD k aq)=true/\((n::l).getD k aq).version=u)↔
    (hasB m i=true->e n=true/\n.version=u)/\∀k,k<l.length->hasB m (i+1+k)=true->e (l.getD k aq)=true/\(l.getD k aq).version=u:=by
   intro u;refine⟨λh=>⟨λU=>by simpa using h 0 (by simp) U,λk hk U=>?_⟩,λh k hk U=>?_⟩
   .have:=h (k+1) (by simpa using hk) (by rw[<- U];congr 1;omega);simpa using this
   .cases k with
    |zero=>simpa using h.1 U
    |succ k=>have:=h.2 k (by simpa using hk) (by rw[<- U];congr 1;omega);simpa using this
  unfold eC;by_cases T:hasB m i=false
  .rw [if_pos T,o v];refine exists_congr λu=>and_congr_right λ_=>?_
   rw[a u];simp[T]
  .rw [if_neg T];have r:hasB m i=true:=by simpa using T
   by_cases X:e n=true
   .by_cases E:n.version=(if v=0 then n.version else v)
    .rw [if_pos ⟨X,E⟩,o,<- E];constructor
     .rintro ⟨u,U,h2⟩;have y:u=n.version:=by omega
      refine⟨u,?_,(a u).2 ⟨λ_=>⟨X,y.symm⟩,h2⟩⟩;by_cases B:v=0
      .exact .inl B
      .rw [if_neg B]at E;exact .inr (by omega)
     .rintro ⟨u,U,h2⟩;obtain⟨B,q⟩:=(a u).1 h2;exact⟨u,.inr (B r).2.symm,q⟩
    .rw [if_neg (λh=>E h.2)];refine⟨λh=>(by cases h),?_⟩;rintro⟨u,U,h2⟩;have B:=((a u).1 h2).1 r;refine absurd ?_ E;by_cases q:v=0
     .rw [if_pos q]
     .rw [if_neg q];omega
   .rw [if_neg (λh=>X h.1)];refine⟨λh=>(by cases h),?_⟩;rintro⟨u,U,h2⟩;exact absurd (((a u).1 h2).1 r).1 X
def EN(ns:List bh)(j:bT)(m:Int)(e:bh->Bool)(K:∀k,k<ns.length->1<=(ns.getD k aq).version) :
  oE ns j m e=true↔(0<=m/\m<2 ^ ns.length)/\(j.min<=many m/\many m<=j.max)/\∃u,(j.pin=0\/u=j.pin)/\∀k,k<ns.length->hasB m k=true->e (ns.getD k aq)=true/\(ns.getD k aq).version=u:=by
 unfold oE;by_cases U:m<0\/2 ^ ns.length<=m
 .rw [if_pos U];refine⟨λh=>(by cases h),λh=>?_⟩;omega
 .rw [if_neg U];by_cases h2:bN (many m) j.min j.max=true
  .rw [if_pos h2,wZ m e ns 0 j.pin K];have B:=bf h2;simp only[Nat.zero_add];exact⟨λh=>⟨by omega,B,h⟩,λh=>h.2.2⟩
  .rw [if_neg h2];refine⟨λh=>(by cases h),λh=>absurd ?_ h2⟩;exact _root_.decide_eq_true h.2.1
def yV(c:av)(s:aa)(j:bT)(m:Int)(B:∀k,k<s.nodes.length->1<=(s.nodes.getD k aq).version) :
  iN c s j m=true↔yR c j/\(eT j.phase=true->vu s.nodes j/\∀i,i<s.nodes.length->hasB j.nodes i=true->mg m (ei s i)=true)/\(eT j.phase=false->j.nodes=0):=by
 unfold iN;simp only[and_eq_true];have key:(if eT j.phase=true then oE s.nodes j j.nodes (mg m)else decide (j.nodes=0))=true↔(eT j.phase=true->vu s.nodes j/\∀i,i<s.nodes.length->hasB j.nodes i=true->mg m (ei s i)=true)/\(eT j.phase=false->j.nodes=0):=by
  cases O:eT j.phase with
  |true=>
   rw[if_pos rfl,EN _ _ _ _ B];constructor
   .rintro ⟨⟨a,b⟩,e,u,f,g⟩;exact⟨λ_=>⟨⟨a,b,e,u,f,λi hi h=>(g i hi h).2⟩,λi hi h=>(g i hi h).1⟩,λh=>by cases h⟩
   .rintro ⟨h,_⟩;obtain⟨⟨a,b,e,u,f,g⟩,h⟩:=h rfl;exact⟨⟨a,b⟩,e,u,f,λi hi T=>⟨h i hi T,g i hi T⟩⟩
  |false=>simp
 rw[key];constructor
 .rintro ⟨⟨⟨⟨⟨⟨a,b⟩,d⟩,e⟩,f⟩,g⟩,h⟩;exact⟨⟨a,bf b,bf d,bf e,bf f,bf g⟩,h⟩
 .rintro ⟨⟨a,b,d,e,f,g⟩,h⟩;exact⟨⟨⟨⟨⟨⟨a,_root_.decide_eq_true b⟩,_root_.decide_eq_true d⟩,_root_.decide_eq_true e⟩,_root_.decide_eq_true f⟩,_root_.decide_eq_true g⟩,h⟩
def nr(c:av)(s:aa):∀(l:List bT) (k:Nat),fq c s l k=true↔∀i,i<l.length->iN c s (l.getD i az) ((k+i:Nat)+1)=true
 |[],k=>by simp[fq]
 |j::l,k=>by
  unfold fq;rw[and_eq_true,nr c s l (k+1)];constructor
  .rintro ⟨U,h2⟩ i hi;cases i with
   |zero=>simpa using U
   |succ i=>have:=h2 i (by simpa using hi);rw[show k+(i+1)=k+1+i by omega];simpa using this
  .intro h;refine⟨by simpa using h 0 (by simp),λi hi=>?_⟩;have:=h (i+1) (by simpa using hi);rw[show k+1+i=k+(i+1)by omega];simpa using this
def oQ(s:aa):∀(l:List bh) (k:Nat),fO s l k=true↔∀i,i<l.length->oS s (l.getD i aq) (k+i)=true
 |[],k=>by simp[fO]
 |j::l,k=>by
  unfold fO;rw[and_eq_true,oQ s l (k+1)];constructor
  .rintro ⟨U,h2⟩ i hi;cases i with
   |zero=>simpa using U
   |succ i=>have:=h2 i (by simpa using hi);rw[show k+(i+1)=k+1+i by omega];simpa using this
  .intro h;refine⟨by simpa using h 0 (by simp),λi hi=>?_⟩;have:=h (i+1) (by simpa using hi);rw[show k+1+i=k+(i+1)by omega];simpa using this
def oV(c:av)(s:aa):∀(n q:Nat),fk c s q n=true↔∀i,i<n->dg s.jobs ((q+i:Nat):Int)<=c.cF
 |0,q=>by simp[fk]
 |n+1,q=>by
  unfold fk;rw[and_eq_true,oV c s n (q+1),not_eq_true',decide_eq_false_iff_not];constructor
  .rintro ⟨U,h2⟩ i hi;cases i with
   |zero=>simpa using U
   |succ i=>have:=h2 i (by omega);rw[show q+(i+1)=q+1+i by omega];exact this
  .intro h;refine⟨by have:=h 0 (by omega);simpa using this,λi hi=>?_⟩;have:=h (i+1) (by omega);rw[show q+1+i=q+(i+1)by omega];exact this
def A1(s:aa)(n:bh)(i:Nat):oS s n i=true↔(1<=n.version/\n.version<=9)/\(0<=n.aM/\n.aM<=s.jobs.length)/\(n.bw=true->n.up=true/\n.cU=true/\n.aM=0)/\(n.aM≠0->hasB (s.jobs.getD (n.aM-1).toNat az).nodes i=true):=by unfold oS bN;cases n.bw<;>cases n.up<;>cases n.cU<;>by_cases h0:n.aM=0<;>simp[h0,_root_.and_assoc]
def eG(c:av)(s:aa):jE c s=true↔bU c s:=by
 unfold jE;simp only[and_eq_true];constructor
 .rintro ⟨⟨⟨⟨⟨⟨⟨⟨⟨U,h2⟩,B⟩,y⟩,A⟩,o⟩,u⟩,D⟩,V⟩,m⟩;rw[nr]at D;rw[oQ]at V;rw[oV]at m;have B:=of_decide_eq_true B;have hs:∀i,i<s.nodes.length->_:=λi hi=>(A1 s (s.nodes.getD i aq) i).1 (by simpa using V i hi)
  have K:∀k,k<s.nodes.length->1<=(s.nodes.getD k aq).version:=λk hk=>(hs k hk).1.1
  have S:∀i,i<s.jobs.length->_:=λi hi=>(yV c s (s.jobs.getD i az) (i+1) K).1 (by simpa using D i hi)
  have t:∀i k,i<s.nodes.length->k<s.jobs.length->hasB (dO s k).nodes i=true->mg (k+1) (ei s i)=true:=λi k hi hk T=>by
   cases O:eT (s.jobs.getD k az).phase with
   |true=>exact((S k hk).2.1 O).2 i hi T
   |false=>have:=(S k hk).2.2 O;unfold dO at T;rw[this,sI]at T;cases T
  have r:∀i k,i<s.nodes.length->k<s.jobs.length->(ei s i).aM=k+1->hasB (dO s k).nodes i=true:=λi k hi hk hj=>by have:=(hs i hi).2.2.2 (by unfold ei at hj;omega);unfold ei at hj;rw[hj]at this;simpa[dO]using this
  refine⟨U,of_decide_eq_true h2,B,bf y,bf A,bf o,bf u,λk hk=>(S k hk).1,λk hk O=>((S k hk).2.1 O).1,λk hk O=>(S k hk).2.2 O,λi hi=>(hs i hi).1,λi hi=>(hs i hi).2.1,λi hi=>(hs i hi).2.2.1,λi hi h0=>?_,λi k hi hk=>⟨λT=>?_,r i k hi hk⟩,λq E=>?_⟩
  .have h:=(hs i hi).2.1;have:=t i ((ei s i).aM-1).toNat hi (by unfold ei at *;omega) (r i _ hi (by unfold ei at *;omega) (by unfold ei at *;omega));simp only[mg,and_eq_true]at this;exact this.1.1
  .have:=t i k hi hk T;simp only[mg,and_eq_true,decide_eq_true_eq]at this;exact this.2
  .have:=m q (by omega);simpa using this
 .intro h;have K:∀k,k<s.nodes.length->1<=(s.nodes.getD k aq).version:=λk hk=>(h.rK k hk).1
  refine⟨⟨⟨⟨⟨⟨⟨⟨⟨h.xw,_root_.decide_eq_true h.nodes⟩,_root_.decide_eq_true h.jobs⟩,_root_.decide_eq_true h.goal⟩,_root_.decide_eq_true h.prior⟩,_root_.decide_eq_true h.mode⟩,_root_.decide_eq_true h.term⟩,?_⟩,?_⟩,?_⟩
  .rw [nr];intro k hk;rw[Nat.zero_add,yV _ _ _ _ K];refine⟨h.num k hk,λO=>⟨h.oW k hk O,λi hi T=>?_⟩,h.idle k hk⟩;have hj:=(h.link i k hi hk).1 T;have H:(ei s i).bw=false:=by
    cases H:(ei s i).bw with
    |false=>rfl
    |true=>have:=(h.bw i hi H).2.2;omega
   simp only[mg,and_eq_true,decide_eq_true_eq,H,h.up i hi (by omega),hj,Bool.not_false,_root_.and_self]
  .rw [oQ];intro i hi;rw[Nat.zero_add,A1];refine⟨h.rK i hi,h.aM i hi,h.bw i hi,λh0=>?_⟩;have hj:=h.aM i hi;have:=(h.link i ((ei s i).aM-1).toNat hi (by unfold ei at *;omega)).2 (by unfold ei at *;omega);exact this
  .rw [oV];intro i hi;have:=h.cF i (by omega);simpa using this
end
section
variable{α:Type}{ns':List bh}
def Cf(l:List α)(k i:Nat)(x z:α)(h:k<l.length):(l.set k x).getD i z=if i=k then x else l.getD i z:=by
 by_cases hi:i=k
 .subst hi;simp[getD,h]
 .rw [if_neg hi];simp[getD,getElem?_set_ne (λe=>hi e.symm)]
def oC(l:List α)(g:Nat->α->α)(i:Nat)(z:α)(h:i<l.length):(l.mapIdx g).getD i z=g i (l.getD i z):=by simp[getD,h]
def Gg(q:Int)(j:bT):Bool:=decide (j.queue=q)&&decide (j.phase=3)
def xh(j:bT)(l:List bT)(q:Int):dg (j::l) q=(if Gg q j then 1 else 0)+dg l q:=by
 unfold dg;have:(λj:bT=>decide (j.queue=q)&&decide (j.phase=3))=Gg q:=rfl;rw[this];cases h:Gg q j
 .simp [filter_cons,h]
 .simp [filter_cons,h];omega
def Xw(q:Int)(j':bT):∀(l:List bT) (k:Nat),k<l.length->dg (l.set k j') q+(if Gg q (l.getD k az)then 1 else 0)=dg l q+(if Gg q j' then 1 else 0)
 |[],k,h=>by simp at h
 |j::l,0,_=>by simp only[set_cons_zero,xh,getD_cons_zero];omega
 |j::l,k+1,h=>by have:=Xw q j' l k (by simpa using h);simp only[set_cons_succ,xh,getD_cons_succ];omega
def Cr(q:Int)(j:bT)(l:List bT):dg (l++[j]) q=dg l q+(if Gg q j then 1 else 0):=by rw[w_];unfold Gg;by_cases U:j.queue=q<;>by_cases h2:j.phase=3<;>simp[U,h2]
structure oN(c:av)(s:aa)(k0:Nat)(j':bT)(ns':List bh):Prop where
 hk:k0<s.jobs.length
 num:yR c j'
 fixed:j'.queue=(dO s k0).queue/\j'.prio=(dO s k0).prio/\j'.min=(dO s k0).min/\j'.max=(dO s k0).max/\j'.work=(dO s k0).work/\j'.pin=(dO s k0).pin
 grow:(dO s k0).inc<=j'.inc/\(dO s k0).epoch<=j'.epoch
 ended:(dO s k0).phase≠4
 len:ns'.length=s.nodes.length
 same:∀i,i<s.nodes.length->(ns'.getD i aq).up=(ei s i).up/\(ns'.getD i aq).cU=(ei s i).cU/\(ns'.getD i aq).bw=(ei s i).bw/\(ns'.getD i aq).version=(ei s i).version
 oW:eT j'.phase=true->vu s.nodes j'
 idle:eT j'.phase=false->j'.nodes=0
 link:∀i,i<s.nodes.length->(hasB j'.nodes i=true↔(ns'.getD i aq).aM=k0+1)
 others:∀i k,i<s.nodes.length->k<s.jobs.length->k≠k0->((ns'.getD i aq).aM=k+1↔(ei s i).aM=k+1)
 range:∀i,i<s.nodes.length->0<=(ns'.getD i aq).aM/\(ns'.getD i aq).aM<=s.jobs.length
 use:∀i,i<s.nodes.length->(ns'.getD i aq).aM≠0->(ei s i).up=true/\(ei s i).bw=false
 cF:j'.phase=3->(dO s k0).phase=3\/dg s.jobs (dO s k0).queue<c.cF
structure xH(s:aa)(i0:Nat)(n':bh):Prop where
 hi:i0<s.nodes.length
 rK:1<=n'.version/\n'.version<=9
 aM:n'.aM=(ei s i0).aM
 keep:(ei s i0).aM≠0->n'.version=(ei s i0).version
 bw:n'.bw=true->n'.up=true/\n'.cU=true/\n'.aM=0
 up:n'.aM≠0->n'.up=true
structure NU(s:aa)(g p m t:Int):Prop where
 goal:1<=g/\g<=9
 prior:1<=p/\p<=9
 mode:0<=m/\m<=2
 term:s.term<=t/\t<=1000000
structure JM(c:av)(s:aa)(j:bT):Prop where
 len:s.jobs.length<24
 num:yR c j
 phase:j.phase=0
 nodes:j.nodes=0
inductive Step(c:av)(s:aa):aa->Prop where
 |num {g p m t:Int} (h:NU s g p m t):Step c s { s with goal:=g,prior:=p,mode:=m,term:=t }
 |aM {k0:Nat} {j':bT} {ns':List bh} (h:oN c s k0 j' ns'):Step c s { s with nodes:=ns',jobs:=s.jobs.set k0 j' }
 |node {i0:Nat} {n':bh} (h:xH s i0 n'):Step c s { s with nodes:=s.nodes.set i0 n' }
 |both {k0:Nat} {j':bT} {ns':List bh} {i0:Nat} {n':bh} (h:oN c s k0 j' ns') (h2:xH { s with nodes:=ns',jobs:=s.jobs.set k0 j' } i0 n'):Step c s { s with nodes:=ns'.set i0 n',jobs:=s.jobs.set k0 j' }
 |more {j:bT} (h:JM c s j):Step c s { s with jobs:=s.jobs++[j] }
section
variable {c:av} {s:aa}
def vu.of{ns:List bh}{j:bT}(h:vu ns j)(Z:ns'.length=ns.length)(B:∀i,i<ns.length->hasB j.nodes i=true->(ns'.getD i aq).version=(ns.getD i aq).version):vu ns' j:=by obtain⟨a,b,d,u,e,f⟩:=h;refine⟨a,by rw[Z];exact b,d,u,e,λi hi T=>?_⟩;rw[Z]at hi;rw[B i hi T];exact f i hi T
def bU.BS(h:bU c s){k0:Nat}{j':bT}(q:oN c s k0 j' ns'):bU c { s with nodes:=ns',jobs:=s.jobs.set k0 j' }:=by
 have T:(s.jobs.set k0 j').length=s.jobs.length:=by simp
 have m:∀k,dO { s with nodes:=ns',jobs:=s.jobs.set k0 j' } k=if k=k0 then j' else dO s k:=λk=>Cf _ _ _ _ _ q.hk
 have Z:∀i,ei { s with nodes:=ns',jobs:=s.jobs.set k0 j' } i=ns'.getD i aq:=λi=>rfl
 refine⟨h.xw,by rw[<- h.nodes];exact congrArg _ q.len,by dsimp only;rw[T];exact h.jobs,h.goal,h.prior,h.mode,h.term,λk hk=>?_,λk hk O=>?_,λk hk O=>?_,λi hi=>?_,λi hi=>?_,λi hi H=>?_,λi hi h0=>?_,λi k hi hk=>?_,λp O=>?_⟩
 .dsimp only at hk;rw[T]at hk;rw[m];split
  .exact q.num
  .exact h.num k hk
 .dsimp only at hk;rw[T]at hk;rw[m]at O ⊢;dsimp only;split
  .rename_i e;rw[if_pos e]at O;exact(q.oW O).of q.len λi hi _=>(q.same i hi).2.2.2
  .rename_i e;rw[if_neg e]at O;exact(h.oW k hk O).of q.len λi hi _=>(q.same i hi).2.2.2
 .dsimp only at hk;rw[T]at hk;rw[m]at O ⊢;split
  .rename_i e;rw[if_pos e]at O;exact q.idle O
  .rename_i e;rw[if_neg e]at O;exact h.idle k hk O
 .dsimp only at hi;rw[q.len]at hi;rw[Z,(q.same i hi).2.2.2];exact h.rK i hi
 .dsimp only at hi ⊢;rw[q.len]at hi;rw[Z,T];exact q.range i hi
 .dsimp only at hi;rw[q.len]at hi;rw[Z]at H ⊢;obtain⟨a,b,d,_⟩:=q.same i hi;rw[d]at H;have:=h.bw i hi H;rw[a,b];refine⟨this.1,this.2.1,?_⟩;by_cases h0:(ns'.getD i aq).aM=0
  .exact h0
  .have:=(q.use i hi h0).2;rw[H]at this;cases this
 .dsimp only at hi;rw[q.len]at hi;rw[Z]at h0 ⊢;rw[(q.same i hi).1];exact(q.use i hi h0).1
 .dsimp only at hi hk;rw[q.len]at hi;rw[T]at hk;rw[Z,m];split
  .rename_i e;subst e;exact q.link i hi
  .rename_i e;rw[q.others i k hi hk e];exact h.link i k hi hk
 .have U:=Xw p j' s.jobs k0 q.hk;have h2:=h.cF p O;have B:=q.fixed.1;have y:=q.cF;dsimp only;unfold dO at B y;generalize s.jobs.getD k0 az=j at *;unfold Gg at U;by_cases o:j'.queue=p
  .have V:j.queue=p:=by omega
   by_cases X:j'.phase=3
   .rcases y X with n|n
    .simp only[o,V,X,n,decide_true,Bool.and_true,if_true]at U;omega
    .by_cases S:j.phase=3
     .simp only[o,V,X,S,decide_true,Bool.and_true,if_true]at U;omega
     .simp only[o,V,X,S,decide_true,decide_false,Bool.and_true,Bool.and_false,if_true]at U;rw[V]at n;simp at U;omega
   .simp [o,V,X]at U;split at U<;>omega
  .have V:j.queue≠p:=by omega
   simp[o,V]at U;omega
def bU.Ek(h:bU c s){i0:Nat}{n':bh}(q:xH s i0 n'):bU c { s with nodes:=s.nodes.set i0 n' }:=by
 have B:(s.nodes.set i0 n').length=s.nodes.length:=by simp
 have Z:∀k,ei { s with nodes:=s.nodes.set i0 n' } k=if k=i0 then n' else ei s k:=λk=>Cf _ _ _ _ _ q.hi
 have m:∀i,dO { s with nodes:=s.nodes.set i0 n' } i=dO s i:=λi=>rfl
 refine⟨h.xw,by dsimp only;rw[B];exact h.nodes,h.jobs,h.goal,h.prior,h.mode,h.term,h.num,λk hk O=>?_,h.idle,λi hi=>?_,λi hi=>?_,λi hi H=>?_,λi hi h0=>?_,λi k hi hk=>?_,h.cF⟩
 .refine (h.oW k hk O).of B λi hi T=>?_
  have:=Z i;unfold ei at this;dsimp only at this ⊢;rw[this];split
  .rename_i e;subst e;have hj:=(h.link i k hi hk).1 T;exact q.keep (by omega)
  .rfl
 .dsimp only at hi;rw[B]at hi;rw[Z];split
  .exact q.rK
  .exact h.rK i hi
 .dsimp only at hi;rw[B]at hi;rw[Z];split
  .rename_i e;subst e;rw[q.aM];exact h.aM i hi
  .exact h.aM i hi
 .dsimp only at hi;rw[B]at hi;rw[Z]at H ⊢;by_cases e:i=i0
  .rw [if_pos e]at H ⊢;exact q.bw H
  .rw [if_neg e]at H ⊢;exact h.bw i hi H
 .dsimp only at hi;rw[B]at hi;rw[Z]at h0 ⊢;by_cases e:i=i0
  .rw [if_pos e]at h0 ⊢;exact q.up h0
  .rw [if_neg e]at h0 ⊢;exact h.up i hi h0
 .dsimp only at hi hk;rw[B]at hi;rw[Z,m];split
  .rename_i e;subst e;rw[q.aM];exact h.link i k hi hk
  .exact h.link i k hi hk
def bU.SZ(h:bU c s){g p m t:Int}(q:NU s g p m t):bU c { s with goal:=g,prior:=p,mode:=m,term:=t }:=
 ⟨h.xw,h.nodes,h.jobs,q.goal,q.prior,q.mode,⟨by have:=h.term;have:=q.term;dsimp only;omega,q.term.2⟩,h.num,h.oW,h.idle,h.rK,h.aM,h.bw,h.up,h.link,h.cF⟩
def P9(l:List bT)(j:bT)(k:Nat):(l++[j]).getD k az=if k<l.length then l.getD k az else if k=l.length then j else az:=by
 by_cases h:k<l.length
 .rw [if_pos h];simp[getD,getElem?_append_left h]
 .rw [if_neg h];by_cases e:k=l.length
  .rw [if_pos e];subst e;simp
  .rw [if_neg e];simp[getD,getElem?_append_right (show l.length<=k by omega)];rw[getElem?_eq_none (by simp;omega)];rfl
def bU.Pm(h:bU c s){j:bT}(q:JM c s j):bU c { s with jobs:=s.jobs++[j] }:=by
 have m:∀k,k<(s.jobs++[j]).length->dO { s with jobs:=s.jobs++[j] } k=if k<s.jobs.length then dO s k else j:=λk hk=>by
  unfold dO;dsimp only;rw[P9];simp at hk;by_cases e:k<s.jobs.length
  .rw [if_pos e,if_pos e]
  .rw [if_neg e,if_neg e,if_pos (by omega)]
 have hlen:(s.jobs++[j]).length=s.jobs.length+1:=by simp
 refine⟨h.xw,h.nodes,by dsimp only;rw[hlen];have:=q.len;omega,h.goal,h.prior,h.mode,h.term,λk hk=>?_,λk hk O=>?_,λk hk O=>?_,h.rK,λi hi=>?_,h.bw,h.up,λi k hi hk=>?_,λp O=>?_⟩
 .rw [m k hk];split
  .rename_i e;exact h.num k e
  .exact q.num
 .rw [m k hk]at O ⊢;by_cases e:k<s.jobs.length
  .rw [if_pos e]at O ⊢;exact h.oW k e O
  .rw [if_neg e,q.phase]at O;cases O
 .rw [m k hk]at O ⊢;by_cases e:k<s.jobs.length
  .rw [if_pos e]at O ⊢;exact h.idle k e O
  .rw [if_neg e];exact q.nodes
 .have:=h.aM i hi;have e:ei { s with jobs:=s.jobs++[j] } i=ei s i:=rfl;dsimp only;rw[hlen,e];omega
 .rw [m k hk];have e:ei { s with jobs:=s.jobs++[j] } i=ei s i:=rfl;rw[e];by_cases e:k<s.jobs.length
  .rw [if_pos e];exact h.link i k hi e
  .rw [if_neg e,q.nodes,sI];have:=h.aM i hi;simp only[false_eq_true,false_iff];omega
 .have:=Cr p j s.jobs;have h2:=h.cF p O;dsimp only;rw[this];unfold Gg;rw[q.phase];simp;exact h2
def Step.right(h:bU c s){t:aa}(q:Step c s t):bU c t:=by
 cases q with
 |num q=>exact h.SZ q
 |aM q=>exact h.BS q
 |node q=>exact h.Ek q
 |both q O=>exact(h.BS q).Ek O
 |more q=>exact h.Pm q
end
end
def gW(r:List bE)(i:Int):bE:=if i<0\/(r.length:Int)<=i then lz else if(r.getD i.toNat lz).kind=6 then r.getD i.toNat lz else lz
def Nn(m:bE):Bool:=m.kind==6&&m.mode==0
def mA(s:aa)(r:List bE)(node mode aM:Int):Bool:=
 (gW r node).kind==6&&decide (1<=aM)&&decide (aM<=s.jobs.length)&&(gW r node).mode==mode&&(gW r node).aM==aM&&(gW r node).inc==(s.jobs.getD (aM-1).toNat az).inc
def qS(m:Int)(b:Nat->Bool):Bool:=(List.range 6).all λi=>!hasB m i||b i
def EI(s:aa)(r:List bE)(aM now:Int)(j:bT):cr×Bool:=
 if j.phase=1 then(⟨10,aM,now,0,0,0,0⟩,qS j.nodes λi=>mA s r i 1 aM||mA s r i 2 aM)
 else if j.phase=2 then(⟨15,aM,0,0,0,0,0⟩,qS j.nodes λi=>mA s r i 2 aM&&decide (j.work<=(gW r i).work))
 else if j.phase=3 then(if j.epoch<j.inc then⟨13,aM,j.inc,0,0,0,0⟩else⟨14,aM,0,0,0,0,0⟩,qS j.nodes λi=>mA s r i 3 aM)
 else(fW,false)
def R5(p:cr×Bool):Option cr:=if p.2=true then some p.1 else none
def Hg(s:aa)(m:bE)(n:bh)(i:Int):Option cr:=
 if Nn m=false then none
 else if n.up=false/\1<=m.version/\m.version<=9 then some ⟨8,i,m.version,0,0,0,0⟩
 else if n.bw=true/\m.version=gA s then some ⟨19,i,m.version,0,0,0,0⟩
 else none
def nh(s:aa)(r:List bE)(up:Bool):List bh->Nat->Option cr
 |[],_=>none
 |n::l,i=>if n.up=up then(match Hg s (gW r i) n i with|some o=>some o|none=>nh s r up l (i+1))else nh s r up l (i+1)
def tU(s:aa)(r:List bE)(now:Int):List bT->Nat->Option cr
 |[],_=>none
 |j::l,k=>match R5 (EI s r ((k:Int)+1) now j)with|some o=>some o|none=>tU s r now l (k+1)
def jg(s:aa)(r:List bE)(now:Int):Option cr:=
 match nh s r false s.nodes 0 with
 |some o=>some o
 |none=>match nh s r true s.nodes 0 with
  |some o=>some o
  |none=>tU s r now s.jobs 0
def ou(bD now:Int):List Bool->List Int->Int->Int
 |u::us,h::hs,i=>if u=true/\h+bD<=now then i else ou bD now us hs (i+1)
 |_,_,_=>-1
end Dv
attribute [go_sem ↓] reduceIte reduceDIte dreduceIte dreduceDIte
attribute [go_sem] Nat.reduceMod Int.reduceBNe reduceCtorEq Int.reduceNatCast' Int.reduceGE Nat.reduceSucc Int.reduceAdd Int.reduceToNat Nat.reduceXor Nat.reduceShiftRight Nat.reduceLeDiff Int.reduceTMod Int.reduceNeg List.reduceReplicate Int.reduceFDiv Int.reduceAbs Int.reduceEq Int.reduceLE Nat.reduceAdd Nat.reduceOr Nat.reduceSubDiff Int.reducePow Int.reduceNegSucc Int.reduceMul Nat.reduceLT Int.reduceBEq Nat.reduceGT Int.reduceNe Int.reduceNatCast Nat.reduceBneDiff Nat.reduceDvd Int.reduceMod Int.reduceLT Nat.reduceBEq Nat.reducePow Int.reduceBmod Nat.reduceEqDiff Nat.reduceGcd Nat.reduceDiv Nat.reduceBeqDiff Nat.reduceBNe Int.reduceOfNat Int.reduceDvd Int.reduceSub Nat.reduceSub Int.reduceGT Int.reduceTDiv Int.reduceFMod Int.reduceDiv Int.reduceBdiv Nat.reduceAnd Nat.reduceMul Nat.reduceShiftLeft
def Go.Obj.pO:Go.Obj->Bool
 |.cells ..=>true
 |.map ..=>true
 |_=>false
namespace Dv
open Go Bool List Go.World
section
variable{w w':World}{b:Nat}
def Gh:=And.intro @beq_iff_eq.{0} <| And.intro @beq_eq_false_iff_ne.{0} <| And.intro @bne_iff_ne.{0} <| And.intro @ne_eq.{1} <| And.intro @decide_eq_true_eq <| And.intro @decide_eq_false_iff_not <| And.intro @Bool.not_true <| And.intro @Bool.not_false <| And.intro @Bool.not_eq_true <| And.intro @Bool.not_eq_false <| And.intro @bne_eq_false_iff_eq.{0} @Decidable.not_not
inductive DV where
 |val (v:Value)
 |cM (aJ:Nat) (rows:List (List DV))
 |fn (f:Fn) (first captured:List DV)
 |gR (t:TypeId) (v:DV)
 |agg (cs:List DV)
inductive LV where
 |top
 |ec
 |d (x:DV)
 |ptr (o col:Nat)
 |rp (o n aJ row col:Nat)
 |ip (row:List DV) (col:Nat)
 |sl (o n aJ lo len:Nat)
 |fn (f:Fn) (first captured:List LV)
 |agg (cs:List LV)
 |cZ (vs:List LV)
 |gR (t:TypeId) (v:LV)
 |yl (o:Nat)
 |mr (o:Nat)
section
variable (J:Nat->Prop) (w:World)
mutual
def kz:DV->Value->Prop
 |.val v,x=>x=v
 |.cM aJ rows,x=>∃a n cap,x=.slice a n cap/\n=rows.length/\n<=cap/\(rows=[]\/∃b off,a=some ⟨b,off,none⟩/\J b/\bq aJ rows b off)
 |.fn f fs cs,x=>∃c O,x=.func f c O/\bG fs c.toList/\bG cs O.toList
 |.gR t y,x=>∃z,x=.iface t z/\kz y z
 |.agg cs,x=>∃xs,x=.agg xs/\bG cs xs.toList/\∀v∈xs.toList,v.oneCell'=true
def bG:List DV->List Value->Prop
 |[],[]=>True
 |x::xs,v::vs=>kz x v/\bG xs vs
 |_,_=>False
def dV:List DV->Nat->Nat->Prop
 |[],_,_=>True
 |x::xs,b,off=>(∃v,w.cell? ⟨b,off,none⟩=some v/\v.oneCell'=true/\kz x v)/\dV xs b (off+1)
def bq(aJ:Nat):List (List DV)->Nat->Nat->Prop
 |[],_,_=>True
 |r::rs,b,off=>r.length=aJ/\dV r b off/\bq aJ rs b (off+aJ)
end
variable (ι:Nat->Nat->Option Nat)
mutual
def cW:LV->Value->Prop
 |.top,_=>True
 |.ec,v=>∃b,v=.bool b
 |.d x,v=>kz J w x v
 |.ptr o col,v=>∃b,ι o 0=some b/\v=.pointer (some ⟨b,col,none⟩)
 |.rp o n aJ row col,v=>∃b,ι o n=some b/\v=.pointer (some ⟨b,row*aJ+col,none⟩)
 |.ip row col,v=>∃b off,J b/\v=.pointer (some ⟨b,off+col,none⟩)/\dV J w row b off
 |.sl o n aJ lo len,v=>(len=0/\∃a,v=.slice a 0 0)\/
  ∃b cap et C,ι o n=some b/\v=.slice (some ⟨b,lo*aJ,none⟩) len cap/\len<=cap/\w.shape? b=some (et,C)/\(lo+cap)*aJ<=C
 |.fn f fs cs,v=>∃c O,v=.func f c O/\cm fs c.toList/\cm cs O.toList
 |.agg cs,v=>∃xs,v=.agg xs/\bx cs xs.toList
 |.cZ vs,v=>∃xs,v=.tuple xs/\cm vs xs.toList
 |.gR t x,v=>∃y,v=.iface t y/\cW x y
 |.yl o,v=>∃b,ι o 0=some b/\v=.func (.yield b) #[] #[]
 |.mr o,v=>∃b,ι o 0=some b/\v=.map (some b)
def cm:List LV->List Value->Prop
 |[],[]=>True
 |x::xs,v::vs=>cW x v/\cm xs vs
 |_,_=>False
def bx:List LV->List Value->Prop
 |[],[]=>True
 |x::xs,v::vs=>v.oneCell'=true/\cW x v/\bx xs vs
 |_,_=>False
end
def jR:List (Int×LV)->List MapEntry->Prop
 |[],[]=>True
 |(k,x)::r,e::es=>e.key=.int .i64 k/\cW J w ι x e.val/\jR r es
 |_,_=>False
end
structure Ev(W J J':Nat->Prop)(ι ι':Nat->Nat->Option Nat)(w w':World):Prop where
 os:w'.os=w.os
 tape:w'.tape=w.tape
 output:w'.output=w.output
 size:w.heap.size<=w'.heap.size
 same:∀b,b<w.heap.size->¬W b->w'.heap[b]? = w.heap[b]?
 shape:∀b,b<w.heap.size->w'.shape? b=w.shape? b
 ia:∀b,J b->J' b
 uT:∀b,J' b->J b\/w.heap.size<=b\/W b
 gu:∀o n b,ι o n=some b->ι' o n=some b
def Ev.refl(W J:Nat->Prop)(ι:Nat->Nat->Option Nat)(w:World):Ev W J J ι ι w w:=
 ⟨rfl,rfl,rfl,Nat.le_refl _,λ_ _ _=>rfl,λ_ _=>rfl,λ_ h=>h,λ_ h=>.inl h,λ_ _ _ h=>h⟩
def kr{o:Nat}(h:w'.heap[b]? = w.heap[b]?):w'.cell? ⟨b,o,none⟩=w.cell? ⟨b,o,none⟩:=by simp only[cell?,h]
def bI(h:w'.heap[b]? = w.heap[b]?):w'.shape? b=w.shape? b:=by simp only[shape?,h]
section mono
variable {J J':Nat->Prop} {w w':World}
mutual
def kz.mono(hj:∀b,J b->J' b)(hs:∀b,J b->w'.heap[b]? = w.heap[b]?):∀(x:DV) (v:Value),kz J w x v->kz J' w' x v
 |.val v,x,h=>h
 |.cM aJ rows,x,h=>by obtain⟨a,n,cap,rfl,T,U,h⟩:=h;refine⟨a,n,cap,rfl,T,U,h.imp id ?_⟩;rintro⟨b,off,j,V,hr⟩;exact⟨b,off,j,hj b V,bq.mono hj hs aJ rows b off (hs b V) hr⟩
 |.fn f fs cs,x,h=>by obtain⟨c,O,rfl,H,h2⟩:=h;exact⟨c,O,rfl,bG.mono hj hs fs _ H,bG.mono hj hs cs _ h2⟩
 |.gR t y,x,h=>by obtain⟨z,rfl,H⟩:=h;exact⟨z,rfl,kz.mono hj hs y z H⟩
 |.agg cs,x,h=>by obtain⟨xs,rfl,H,h2⟩:=h;exact⟨xs,rfl,bG.mono hj hs cs _ H,h2⟩
def bG.mono(hj:∀b,J b->J' b)(hs:∀b,J b->w'.heap[b]? = w.heap[b]?):∀(xs:List DV) (vs:List Value),bG J w xs vs->bG J' w' xs vs
 |[],[],_=>trivial
 |x::xs,v::vs,h=>⟨kz.mono hj hs x v h.1,bG.mono hj hs xs vs h.2⟩
 |[],_::_,h=>h.elim
 |_::_,[],h=>h.elim
def dV.mono(hj:∀b,J b->J' b)(hs:∀b,J b->w'.heap[b]? = w.heap[b]?):∀(xs:List DV) (b off:Nat),w'.heap[b]? = w.heap[b]?->dV J w xs b off->dV J' w' xs b off
 |[],_,_,_,_=>trivial
 |x::xs,b,off,V,h=>by obtain⟨⟨v,E,H,Z⟩,hr⟩:=h;exact⟨⟨v,by rw[kr V];exact E,H,kz.mono hj hs x v Z⟩,dV.mono hj hs xs b (off+1) V hr⟩
def bq.mono(hj:∀b,J b->J' b)(hs:∀b,J b->w'.heap[b]? = w.heap[b]?)(aJ:Nat):∀(rs:List (List DV)) (b off:Nat),w'.heap[b]? = w.heap[b]?->bq J w aJ rs b off->bq J' w' aJ rs b off
 |[],_,_,_,_=>trivial
 |r::rs,b,off,V,h=>⟨h.1,dV.mono hj hs r b off V h.2.1,bq.mono hj hs aJ rs b (off+aJ) V h.2.2⟩
end
variable {ι ι':Nat->Nat->Option Nat}
mutual
def cW.mono(hj:∀b,J b->J' b)(hs:∀b,J b->w'.heap[b]? = w.heap[b]?)(hi:∀o n b,ι o n=some b->ι' o n=some b)
  (j:∀b,(w.shape? b).isSome=true->w'.shape? b=w.shape? b):∀(x:LV) (v:Value),cW J w ι x v->cW J' w' ι' x v
 |.top,_,_=>trivial
 |.ec,_,h=>h
 |.d x,v,h=>kz.mono hj hs x v h
 |.ptr o col,v,h=>by obtain⟨b,V,rfl⟩:=h;exact⟨b,hi _ _ _ V,rfl⟩
 |.rp o n aJ row col,v,h=>by obtain⟨b,V,rfl⟩:=h;exact⟨b,hi _ _ _ V,rfl⟩
 |.ip row col,v,h=>by obtain⟨b,off,V,rfl,hr⟩:=h;exact⟨b,off,hj b V,rfl,dV.mono hj hs row b off (hs b V) hr⟩
 |.sl o n aJ lo len,v,h=>by
  rcases h with h|⟨b,cap,et,C,V,rfl,k,u,B⟩
  .exact .inl h
  .exact .inr ⟨b,cap,et,C,hi _ _ _ V,rfl,k,by rw[j b (by rw[u];rfl)];exact u,B⟩
 |.fn f fs cs,v,h=>by obtain⟨c,O,rfl,H,h2⟩:=h;exact⟨c,O,rfl,cm.mono hj hs hi j fs _ H,cm.mono hj hs hi j cs _ h2⟩
 |.agg cs,v,h=>by obtain⟨xs,rfl,H⟩:=h;exact⟨xs,rfl,bx.mono hj hs hi j cs _ H⟩
 |.cZ vs,v,h=>by obtain⟨xs,rfl,H⟩:=h;exact⟨xs,rfl,cm.mono hj hs hi j vs _ H⟩
 |.gR t x,v,h=>by obtain⟨y,rfl,H⟩:=h;exact⟨y,rfl,cW.mono hj hs hi j x y H⟩
 |.yl o,v,h=>by obtain⟨b,V,rfl⟩:=h;exact⟨b,hi _ _ _ V,rfl⟩
 |.mr o,v,h=>by obtain⟨b,V,rfl⟩:=h;exact⟨b,hi _ _ _ V,rfl⟩
def cm.mono(hj:∀b,J b->J' b)(hs:∀b,J b->w'.heap[b]? = w.heap[b]?)(hi:∀o n b,ι o n=some b->ι' o n=some b)
  (j:∀b,(w.shape? b).isSome=true->w'.shape? b=w.shape? b):∀(xs:List LV) (vs:List Value),cm J w ι xs vs->cm J' w' ι' xs vs
 |[],[],_=>trivial
 |x::xs,v::vs,h=>⟨cW.mono hj hs hi j x v h.1,cm.mono hj hs hi j xs vs h.2⟩
 |[],_::_,h=>h.elim
 |_::_,[],h=>h.elim
def bx.mono(hj:∀b,J b->J' b)(hs:∀b,J b->w'.heap[b]? = w.heap[b]?)(hi:∀o n b,ι o n=some b->ι' o n=some b)
  (j:∀b,(w.shape? b).isSome=true->w'.shape? b=w.shape? b):∀(xs:List LV) (vs:List Value),bx J w ι xs vs->bx J' w' ι' xs vs
 |[],[],_=>trivial
 |x::xs,v::vs,h=>⟨h.1,cW.mono hj hs hi j x v h.2.1,bx.mono hj hs hi j xs vs h.2.2⟩
 |[],_::_,h=>h.elim
 |_::_,[],h=>h.elim
end
def jR.mono(hj:∀b,J b->J' b)(hs:∀b,J b->w'.heap[b]? = w.heap[b]?)(hi:∀o n b,ι o n=some b->ι' o n=some b)
  (j:∀b,(w.shape? b).isSome=true->w'.shape? b=w.shape? b):∀(x:List (Int×LV)) (v:List MapEntry),jR J w ι x v->jR J' w' ι' x v
 |[],[],_=>trivial
 |(k,x)::r,e::es,h=>⟨h.1,cW.mono hj hs hi j x _ h.2.1,jR.mono hj hs hi j r es h.2.2⟩
 |[],_::_,h=>h.elim
 |_::_,[],h=>h.elim
end mono
inductive ah where
 |box (et:TypeId) (cells:List LV)
 |dat (et:TypeId) (aJ:Nat) (rows:List (List DV))
 |k9 (et:TypeId) (aJ:Nat) (rows:List (List DV))
 |mp (es:List (Int×LV))
 |lr (et:TypeId) (aJ v:Nat) (cells:List LV)
 |l_ (et:TypeId) (bs:List (List (List DV)))
inductive bK where
 |free
 |dead
 |live (ob:ah)
def ah.own(ι:Nat->Nat->Option Nat)(o:Nat):ah->Nat->Prop
 |.box _ _,b=>ι o 0=some b
 |.dat _ _ rows,b=>ι o rows.length=some b
 |.k9 ..,_=>False
 |.mp _,b=>ι o 0=some b
 |.lr _ _ v _,b=>ι o v=some b
 |.l_ _ bs,b=>∃k,k<bs.length/\ι o k=some b
def bK.own(ι:Nat->Nat->Option Nat)(o:Nat):bK->Nat->Prop
 |.live ob,b=>ob.own ι o b
 |_,_=>False
def aa3(J:Nat->Prop)(w:World)(ι:Nat->Nat->Option Nat)(o:Nat):ah->Prop
 |.box et cells=>∃b C,ι o 0=some b/\w.heap[b]? = some (.cells C et (0,0))/\bx J w ι cells C.toList
 |.dat et aJ rows=>(rows=[]\/(ι o rows.length).isSome=true)/\∀b,ι o rows.length=some b->(∃C,w.heap[b]? = some (.cells C et (0,0)))/\bq J w aJ rows b 0
 |.k9 et aJ rows=>(rows=[]\/(ι o rows.length).isSome=true)/\∀b,ι o rows.length=some b->J b/\bq J w aJ rows b 0
 |.mp es=>∃b E c,ι o 0=some b/\w.heap[b]? = some (.map E c)/\jR J w ι es E.toList
 |.lr et _ v cells=>(cells=[]/\ι o v=none)\/∃b C,ι o v=some b/\w.heap[b]? = some (.cells C et (0,0))/\cells.length<=C.size/\bx J w ι cells (C.toList.take cells.length)
 |.l_ et bs=>(∀(k:Nat) rows,bs[k]? = some rows->∃b C,ι o k=some b/\w.heap[b]? = some (.cells C et (0,0))/\bq J w 1 rows b 0)/\∀k A b,ι o k=some b->ι o A=some b->k=A
def jI(J:Nat->Prop)(w:World)(ι:Nat->Nat->Option Nat)(o:Nat):bK->Prop
 |.free=>∀n,ι o n=none
 |.dead=>True
 |.live ob=>aa3 J w ι o ob/\(match ob with | .dat _ _ rows=>∀n,rows.length<n->ι o n=none | .lr _ _ v _=>∀n,v<n->ι o n=none | .l_ _ bs=>∀n,bs.length<=n->ι o n=none|_=>True)
abbrev tY:=Nat->Option (List DV)
abbrev fe:=Nat->Nat->Option Nat
structure aA(G:tY)(J:Nat->Prop)(w:World)(ι:fe)(obj:Nat->bK):Prop where
 rep:∀o,jI J w ι o (obj o)
 inj:∀o o' b,(obj o).own ι o b->(obj o').own ι o' b->o=o'
 pX:∀o b,(obj o).own ι o b->¬J b
 jcell:∀b,J b->∃C t f,w.heap[b]? = some (.cells C t f)
 uV:∀g row,G g=some row->J g/\dV J w row g 0/\∃t,w.shape? g=some (t,row.length)
def aA.Ey{G:tY}{J:Nat->Prop}{w:World}{ι:fe}{obj:Nat->bK}(S:aA G J w ι obj)(b:Nat)(h:J b):b<w.heap.size:=by obtain⟨C,t,f,h⟩:=S.jcell b h;exact(Array.getElem?_eq_some_iff.1 h).1
def Own(ι:fe)(obj:Nat->bK)(b:Nat):Prop:=∃o,(obj o).own ι o b
def jI.uN{J:Nat->Prop}{w:World}{ι:fe}{o:Nat}{s:bK}(h:jI J w ι o s){b:Nat}(V:s.own ι o b):∃x,w.heap[b]? = some x/\x.pO=true:=by
 cases s with
 |free=>exact V.elim
 |dead=>exact V.elim
 |live ob=>
  cases ob with
  |box et cells=>obtain⟨⟨u,C,H,h2,_⟩,_⟩:=h;cases H.symm.trans V;exact⟨_,h2,rfl⟩
  |dat et aJ rows=>obtain⟨⟨_,H⟩,_⟩:=h;obtain⟨⟨C,h2⟩,_⟩:=H b V;exact⟨_,h2,rfl⟩
  |k9 et aJ rows=>exact V.elim
  |mp es=>obtain⟨⟨u,E,c,H,h2,_⟩,_⟩:=h;cases H.symm.trans V;exact⟨_,h2,rfl⟩
  |lr et aJ v cells=>
   obtain⟨⟨_,H⟩|⟨u,C,H,h2,_⟩,_⟩:=h
   .cases H.symm.trans V
   cases H.symm.trans V;exact⟨_,h2,rfl⟩
  |l_ et bs=>obtain⟨k,hk,V⟩:=V;obtain⟨u,C,H,h2,_⟩:=h.1.1 k _ (getElem?_eq_getElem hk);cases H.symm.trans V;exact⟨_,h2,rfl⟩
def aA.uN{G:tY}{J:Nat->Prop}{w:World}{ι:fe}{obj:Nat->bK}(S:aA G J w ι obj){b:Nat}(h:Own ι obj b):∃x,w.heap[b]? = some x/\x.pO=true:=by obtain⟨o,h⟩:=h;exact(S.rep o).uN h
def ZR(tmp:Bool)(s:bK):Prop:=(∃et e rows,s=.live (.dat et e rows)\/s=.live (.k9 et e rows))\/(∃et cells,s=.live (.box et cells))\/(tmp=true/\∃et bs,s=.live (.l_ et bs))
def ZR.up{tmp:Bool}{s:bK}(h:ZR tmp s):ZR true s:=h.imp id λh=>h.imp id λh=>⟨rfl,h.2⟩
def aA.Wg{G:tY}{J:Nat->Prop}{w:World}{ι:fe}{obj:Nat->bK}(S:aA G J w ι obj){z b:Nat}(A:ZR true (obj z))(h:(obj z).own ι z b):∃C t f,w.heap[b]? = some (.cells C t f):=by
 obtain⟨et,e,rows,A|A⟩|⟨et,cells,A⟩|⟨_,et,bs,A⟩:=A<;>rw[A]at h
 .have hr:=S.rep z;rw[A]at hr;obtain⟨⟨_,H⟩,_⟩:=hr;obtain⟨⟨C,h2⟩,_⟩:=H b h;exact⟨_,_,_,h2⟩
 .exact h.elim
 .have hr:=S.rep z;rw[A]at hr;obtain⟨⟨u,C,H,h2,_⟩,_⟩:=hr;cases H.symm.trans h;exact⟨_,_,_,h2⟩
 .have hr:=S.rep z;rw[A]at hr;obtain⟨k,hk,V⟩:=h;obtain⟨u,C,H,h2,_⟩:=hr.1.1 k _ (getElem?_eq_getElem hk);cases H.symm.trans V;exact⟨_,_,_,h2⟩
structure Ext(obj obj':Nat->bK)(J J':Nat->Prop)(ι ι':fe)(w w':World):Prop where
 ev:Ev (Own ι obj) J J' ι ι' w w'
 own:∀b,Own ι' obj' b->Own ι obj b\/w.heap.size<=b
def Ext.refl(obj:Nat->bK)(J:Nat->Prop)(ι:fe)(w:World):Ext obj obj J J ι ι w w:=⟨Ev.refl ..,λ_ h=>.inl h⟩
def Ext.trans{x q B:Nat->bK}{u j e:Nat->Prop}{A v r:fe}{t m c:World}
  (h:Ext x q u j A v t m) (k:Ext q B j e v r m c):Ext x B u e A r t c:=by
 have hs:=h.ev.size;refine⟨⟨k.ev.os.trans h.ev.os,k.ev.tape.trans h.ev.tape,k.ev.output.trans h.ev.output,Nat.le_trans hs k.ev.size,?_,?_,λb V=>k.ev.ia b (h.ev.ia b V),?_,λo n b V=>k.ev.gu _ _ _ (h.ev.gu _ _ _ V)⟩,?_⟩
 .intro b V T;rw[k.ev.same b (by omega) (λy=>(h.own b y).elim T (by omega)),h.ev.same b V T]
 .intro b V;rw[k.ev.shape b (by omega),h.ev.shape b V]
 .intro b V;rcases k.ev.uT b V with V|V|V
  .exact h.ev.uT b V
  .exact .inr (.inl (by omega))
  .rcases h.own b V with V|V
   .exact .inr (.inr V)
   .exact .inr (.inl V)
 .intro b V;rcases k.own b V with V|V
  .exact h.own b V
  .exact .inr (by omega)
def iA{w:World}{b:Nat}(h:(w.shape? b).isSome=true):b<w.heap.size:=by
 unfold shape? at h;rcases Nat.lt_or_ge b w.heap.size with V|V
 .exact V
 .rw [Array.getElem?_eq_none V]at h;cases h
section
variable {G:tY} {J J':Nat->Prop} {w w':World} {ι ι':fe} {obj obj':Nat->bK}
def aA.same(S:aA G J w ι obj)(E:Ev (Own ι obj) J J' ι ι' w w')(b:Nat)(V:J b):w'.heap[b]? = w.heap[b]?:=
 E.same b (S.Ey b V) (λ⟨o,O⟩=>S.pX o b O V)
def cW.ev(S:aA G J w ι obj)(E:Ev (Own ι obj) J J' ι ι' w w'){x:LV}{v:Value}(h:cW J w ι x v):cW J' w' ι' x v:=
 cW.mono E.ia (S.same E) E.gu (λb V=>E.shape b (iA V)) x v h
def cm.ev(S:aA G J w ι obj)(E:Ev (Own ι obj) J J' ι ι' w w'){x:List LV}{v:List Value}(h:cm J w ι x v):cm J' w' ι' x v:=
 cm.mono E.ia (S.same E) E.gu (λb V=>E.shape b (iA V)) x v h
def bx.ev(S:aA G J w ι obj)(E:Ev (Own ι obj) J J' ι ι' w w'){x:List LV}{v:List Value}(h:bx J w ι x v):bx J' w' ι' x v:=
 bx.mono E.ia (S.same E) E.gu (λb V=>E.shape b (iA V)) x v h
def jR.ev(S:aA G J w ι obj)(E:Ev (Own ι obj) J J' ι ι' w w'){x:List (Int×LV)}{v:List MapEntry}(h:jR J w ι x v):jR J' w' ι' x v:=
 jR.mono E.ia (S.same E) E.gu (λb V=>E.shape b (iA V)) x v h
def kz.ev(S:aA G J w ι obj)(E:Ev (Own ι obj) J J' ι ι' w w'){x:DV}{v:Value}(h:kz J w x v):kz J' w' x v:=
 kz.mono E.ia (S.same E) x v h
def dV.ev(S:aA G J w ι obj)(E:Ev (Own ι obj) J J' ι ι' w w'){x:List DV}{b off:Nat}(V:J b)(h:dV J w x b off):dV J' w' x b off:=
 dV.mono E.ia (S.same E) x b off (S.same E b V) h
def bq.ev(S:aA G J w ι obj)(E:Ev (Own ι obj) J J' ι ι' w w'){aJ:Nat}{x:List (List DV)}{b off:Nat}(V:w'.heap[b]? = w.heap[b]?)(h:bq J w aJ x b off):bq J' w' aJ x b off:=
 bq.mono E.ia (S.same E) aJ x b off V h
end
end
inductive bF where
 |t (n:Nat)
 |c (x:DV)
 |g (n:Nat)
 |f (n:Nat)
inductive M where
 |sla (n:Nat) (x:bF) (lo hi:Option bF)
 |cpy (x y:bF)
 |CX (et aJ bytes:Nat) (z:List DV) (n:bF)
 |b2s (x:bF)
 |s2b (x:bF)
 |stk
 |cpl (x:bF)
 |clr (aJ:Nat) (z:List DV) (x:bF)
 |atl (x:bF)
 |ata (x y:bF)
 |mkm
 |mup (x k y:bF)
 |mlk (z:Value) (ok:Bool) (x k:bF)
inductive I where
 |mv (x:bF)
 |pick (c x y:bF)
 |new (et:TypeId) (row:List DV)
 |box (et:TypeId) (x:bF)
 |build (zero:List DV) (parts:List (Nat×Nat×bF))
 |Y9 (et aJ:Nat) (parts:List bF)
 |ld1 (x:bF)
 |Es (size:Nat) (x:bF)
 |st (size:Nat) (x y:bF)
 |kL (x:bF)
 |bin (op:BinOp) (x y:bF)
 |eqb (neg:Bool) (x y:bF)
 |not (x:bF)
 |cvt (k:IntKind) (x:bF)
 |B0 (off:Nat) (x:bF)
 |XJ (off:Nat) (x:bF)
 |XI (off size:Nat) (x:bF)
 |BU (aJ:Nat) (x i:bF)
 |ixr (len aJ:Nat) (x i:bF)
 |ix1 (len:Nat) (x i:bF)
 |ixs (x i:bF)
 |len (x:bF)
 |lens (x:bF)
 |mkf (f:Fn) (first captured:List bF)
 |ext (x:bF) (i:Nat)
 |app (et aJ bytes:Nat) (x y:bF)
 |min (x y:bF)
 |max (x y:bF)
 |PI (neg:Bool) (x:bF)
 |PG (neg:Bool) (x:bF)
 |eqs (neg:Bool) (ks:List Nat) (x y:bF)
 |neg (x:bF)
 |ixn (len aJ:Nat) (x i:bF)
 |sli (aJ:Nat) (x:bF) (lo hi mx:Option bF)
 |sls (x:bF) (lo hi:Option bF)
 |more (m:M)
 |call (f:bF) (args:List bF)
structure er where
 dst:Option Nat
 op:I
 guard:Option (Nat×Bool):=none
 pre:List Nat:=[]
def bF.tmps:bF->List Nat
 |.t n=>[n]
 |_=>[]
def bF.ze:Option bF->List Nat
 |some x=>x.tmps
 |none=>[]
def M.tmps:M->List Nat
 |.sla _ x lo hi=>x.tmps++bF.ze lo++bF.ze hi
 |.cpy x y=>x.tmps++y.tmps
 |.CX _ _ _ _ n=>n.tmps
 |.b2s x=>x.tmps
 |.s2b x=>x.tmps
 |.stk=>[]
 |.cpl x=>x.tmps
 |.clr _ _ x=>x.tmps
 |.atl x=>x.tmps
 |.ata x y=>x.tmps++y.tmps
 |.mkm=>[]
 |.mup x k y=>x.tmps++k.tmps++y.tmps
 |.mlk _ _ x k=>x.tmps++k.tmps
def I.tmps:I->List Nat
 |.more m=>m.tmps
 |.mv x=>x.tmps
 |.pick c x y=>c.tmps++x.tmps++y.tmps
 |.new _ _=>[]
 |.box _ x=>x.tmps
 |.build _ parts=>parts.flatMap λp=>p.2.2.tmps
 |.Y9 _ _ parts=>parts.flatMap bF.tmps
 |.ld1 x=>x.tmps
 |.Es _ x=>x.tmps
 |.st _ x y=>x.tmps++y.tmps
 |.kL x=>x.tmps
 |.bin _ x y=>x.tmps++y.tmps
 |.eqb _ x y=>x.tmps++y.tmps
 |.not x=>x.tmps
 |.cvt _ x=>x.tmps
 |.B0 _ x=>x.tmps
 |.XJ _ x=>x.tmps
 |.XI _ _ x=>x.tmps
 |.BU _ x i=>x.tmps++i.tmps
 |.ixr _ _ x i=>x.tmps++i.tmps
 |.ix1 _ x i=>x.tmps++i.tmps
 |.ixs x i=>x.tmps++i.tmps
 |.len x=>x.tmps
 |.lens x=>x.tmps
 |.mkf _ a b=>a.flatMap bF.tmps++b.flatMap bF.tmps
 |.ext x _=>x.tmps
 |.app _ _ _ x y=>x.tmps++y.tmps
 |.min x y=>x.tmps++y.tmps
 |.max x y=>x.tmps++y.tmps
 |.PI _ x=>x.tmps
 |.PG _ x=>x.tmps
 |.eqs _ _ x y=>x.tmps++y.tmps
 |.neg x=>x.tmps
 |.ixn _ _ x i=>x.tmps++i.tmps
 |.sli _ x lo hi mx=>x.tmps++bF.ze lo++bF.ze hi++bF.ze mx
 |.sls x lo hi=>x.tmps++bF.ze lo++bF.ze hi
 |.call f args=>f.tmps++args.flatMap bF.tmps
structure fN where
 r:LV
 rd:List Nat:=[]
 wr:List (Nat×ah):=[]
 nw:List ah:=[]
def LV.int(n:Int):LV:=.d (.val (.int .i64 n))
def LV.bool(b:Bool):LV:=.d (.val (.bool b))
def LV.undef:LV:=.d (.val Go.undef)
def LV.cells:LV->Option (List LV)
 |.d (.val v)=>if v.oneCell' then some [.d (.val v)]else none
 |.d (.agg cs)=>some (cs.map .d)
 |.d x=>some [.d x]
 |.ptr o c=>some [.ptr o c]
 |.rp o n e r c=>some [.rp o n e r c]
 |.ip r c=>some [.ip r c]
 |.sl o n e l k=>some [.sl o n e l k]
 |.fn f a b=>some [.fn f a b]
 |.gR t v=>some [.gR t v]
 |.agg cs=>some cs
 |.ec=>some [.ec]
 |.top=>none
 |.yl _=>none
 |.mr o=>some [.mr o]
 |.cZ _=>none
mutual
def LV.VC:LV->Option DV
 |.d x=>some x
 |.fn f a b=>match LV.rz a,LV.rz b with
  |some a,some b=>some (.fn f a b)
  |_,_=>none
 |.gR t v=>match LV.VC v with
  |some v=>some (.gR t v)
  |none=>none
 |_=>none
def LV.rz:List LV->Option (List DV)
 |[]=>some []
 |x::xs=>match LV.VC x,LV.rz xs with
  |some x,some xs=>some (x::xs)
  |_,_=>none
end
def splice{α:Type}(l:List α)(o:Nat)(xs:List α):List α:=l.take o++xs++l.drop (o+xs.length)
def rF(k:IntKind)(a b:Int):Int:=k.wrap (BitVec.ofInt k.bits a&&& BitVec.ofInt k.bits b).toNat
def Ef(k:IntKind)(a b:Int):Int:=k.wrap (BitVec.ofInt k.bits a||| BitVec.ofInt k.bits b).toNat
def vC(k:IntKind)(a b:Int):Int:=k.wrap (BitVec.ofInt k.bits a^^^BitVec.ofInt k.bits b).toNat
def ig(k:IntKind)(a b:Int):Int:=k.wrap (BitVec.ofInt k.bits a&&& ~~~ BitVec.ofInt k.bits b).toNat
def Df(k:IntKind)(a b:Int):Int:=k.wrap (a*2 ^ (Nat.min b.toNat k.bits))
def vM(k:IntKind)(a b:Int):Int:=a.fdiv (2 ^ (Nat.min b.toNat k.bits))
def X0(op:BinOp):Value->Value->Option Value
 |.int k a,.int A b=>
  match op with
  |.add=>if k=A then some (.int k (k.wrap (a+b)))else none
  |.sub=>if k=A then some (.int k (k.wrap (a-b)))else none
  |.mul=>if k=A then some (.int k (k.wrap (a*b)))else none
  |.quo=>if k=A/\b≠0 then some (.int k (k.wrap (a.tdiv b)))else none
  |.rem=>if k=A/\b≠0 then some (.int k (a.tmod b))else none
  |.and=>if k=A then some (.int k (rF k a b))else none
  |.or=>if k=A then some (.int k (Ef k a b))else none
  |.xor=>if k=A then some (.int k (vC k a b))else none
  |.andNot=>if k=A then some (.int k (ig k a b))else none
  |.shl=>if 0<=b then some (.int k (Df k a b))else none
  |.shr=>if 0<=b then some (.int k (vM k a b))else none
  |.eql=>if k=A then some (.bool (a==b))else none
  |.neq=>if k=A then some (.bool (a !=b))else none
  |.lss=>if k=A then some (.bool (decide (a<b)))else none
  |.leq=>if k=A then some (.bool (decide (a<=b)))else none
  |.gtr=>if k=A then some (.bool (decide (a>b)))else none
  |.geq=>if k=A then some (.bool (decide (a>=b)))else none
 |.string a,.string b=>
  match op with
  |.add=>if a.size+b.size<=9223372036854775807 then some (.string (a++b))else none
  |.eql=>some (.bool (a.toList==b.toList))
  |.neq=>some (.bool (!(a.toList==b.toList)))
  |.lss=>some (.bool (Op.bytesLess a.toList b.toList))
  |.leq=>some (.bool (Op.bytesLess a.toList b.toList||a.toList==b.toList))
  |.gtr=>some (.bool (!(Op.bytesLess a.toList b.toList||a.toList==b.toList)))
  |.geq=>some (.bool (!(Op.bytesLess a.toList b.toList)))
  |_=>none
 |_,_=>none
def JS:Nat->Value->Value->Option Bool
 |0,.int k a,.int A b=>if k=A then some (a==b)else none
 |1,.bool a,.bool b=>some (a==b)
 |2,.string a,.string b=>some (a.toList==b.toList)
 |_,_,_=>none
def ew:List Nat->List LV->List LV->Option Bool
 |[],[],[]=>some true
 |k::ks,.d (.val a)::xs,.d (.val b)::ys=>match JS k a b,ew ks xs ys with
  |some p,some q=>some (p&&q)
  |_,_=>none
 |_,_,_=>none
def iF(b:Nat):Option LV->Option Nat
 |none=>some b
 |some (.d (.val (.int _ i)))=>if 0<=i then some i.toNat else none
 |some _=>none
section
variable (G:tY) (get:Nat->LV) (obj:Nat->bK) (base:Nat)
def bF.ev:bF->LV
 |.t n=>get n
 |.c x=>.d x
 |.g n=>match G n with|some row=>.ip row 0|none=>.top
 |.f n=>.d (.fn (.func n) [] [])
def uk:List LV->List (Nat×Nat×bF)->Option (List LV)
 |cells,[]=>some cells
 |cells,(off,size,x)::o=>match(x.ev G get).cells with
  |some cs=>if cs.length=size/\off+cs.length<=cells.length then uk (splice cells off cs) o else none
  |none=>none
def rowsOf(aJ:Nat):List bF->Option (List (List DV))
 |[]=>some []
 |x::xs=>match(x.ev G get).cells with
  |some cs=>match LV.rz cs with
   |some ds=>if ds.length=aJ then(match rowsOf aJ xs with|some r=>some (ds::r)|none=>none)else none
   |none=>none
  |none=>none
def xy(aJ:Nat):List bF->Option (List LV)
 |[]=>some []
 |x::xs=>match(x.ev G get).cells with
  |some cs=>if cs.length=aJ then(match xy aJ xs with|some r=>some (cs++r)|none=>none)else none
  |none=>none
def Bw:List bF->Option LV
 |[p]=>match p.ev G get with
  |.sl o n e lo len=>some (.sl o n e lo len)
  |_=>none
 |_=>none
def sO:LV->Option (Nat×ah×DV)
 |.sl o n e lo len=>match obj o with
  |.live (.dat t A rows)=>if e=A/\n=rows.length/\lo+len<=rows.length then some (o,.k9 t A rows,.cM A ((rows.drop lo).take len))else none
  |_=>none
 |_=>none
def bg(aJ:Nat):LV->Option (List (List DV)×List Nat)
 |.d (.cM e rows)=>if e=aJ then some (rows,[])else none
 |.d (.val (.slice none 0 0))=>some ([],[])
 |.d (.val (.string s))=>if aJ=1 then some (s.data.toList.map λb=>[.val (.int .u8 b.toNat)],[])else none
 |.sl o n e lo len=>match obj o with
  |.live (.dat _ A rows)=>if e=aJ/\A=aJ/\n=rows.length/\lo+len<=n then some ((rows.drop lo).take len,[o])else none
  |.live (.k9 _ A rows)=>if e=aJ/\A=aJ/\n=rows.length/\lo+len<=n then some ((rows.drop lo).take len,[o])else none
  |.live (.box _ cells)=>if e=aJ/\aJ=1/\n=0/\lo+len<=cells.length then(match LV.rz ((cells.drop lo).take len)with
   |some ds=>some (ds.map λx=>[x],[o])
   |none=>none)else none
  |.live (.l_ _ bs)=>if e=aJ/\aJ=1 then(match bs[n]? with
   |some rows=>if lo+len<=rows.length then some ((rows.drop lo).take len,[o])else none
   |none=>none)else none
  |_=>none
 |_=>none
def A0(aJ:Nat):LV->Option (List LV×Nat×Nat)
 |.sl o n e lo len=>match obj o with
  |.live (.lr _ A v cells)=>if e=aJ/\A=aJ/\n=v/\(lo+len)*aJ<=cells.length then some ((cells.drop (lo*aJ)).take (len*aJ),len,o)else none
  |_=>none
 |_=>none
def Jw(base et aJ bytes:Nat)(x y:LV):Option fN:=match A0 obj aJ y with
 |some (new,m,s)=>match x with
  |.d (.val (.slice none 0 0))=>if m*bytes<=70368744177664/\0<m then some { r:=.sl base 0 aJ 0 m,rd:=[s],nw:=[.lr et aJ 0 new] }else none
  |.sl o n e lo len=>match obj o with
   |.live (.lr X A v cells)=>if X=et/\e=aJ/\A=aJ/\n=v/\lo=0/\len*aJ<=cells.length/\(len+m)*bytes<=70368744177664 then
    some { r:=.sl o (v+1) aJ 0 (len+m),rd:=[o,s],wr:=[(o,.lr et aJ (v+1) (cells.take (len*aJ)++new))] }else none
   |_=>none
  |_=>none
 |none=>none
def bytesOf:List (List DV)->Option (List UInt8)
 |[]=>some []
 |[.val (.int .u8 n)]::r=>match bytesOf r with
  |some bs=>some (UInt8.ofNat n.toNat::bs)
  |none=>none
 |_=>none
def getM:List (Int×LV)->Int->Option LV
 |[],_=>none
 |(k,x)::r,n=>if n=k then some x else getM r n
def Dh:List (Int×LV)->Int->LV->List (Int×LV)
 |[],n,y=>[(n,y)]
 |(k,x)::r,n,y=>if n=k then(k,y)::r else(k,x)::Dh r n y
def ZG(s:ByteArray):List (List DV):=s.data.toList.map λb=>[.val (.int .u8 b.toNat)]
def fS:M->Option fN
 |.sla n x lo hi=>match x.ev G get with
  |.ptr o col=>match obj o with
   |.live (.box _ cells)=>match iF 0 (lo.map (·.ev G get)),iF n (hi.map (·.ev G get))with
    |some l,some h=>if l<=h/\h<=n/\col+n<=cells.length then some { r:=.sl o 0 1 (col+l) (h-l),rd:=[o] }else none
    |_,_=>none
   |_=>none
  |_=>none
 |.cpy x y=>match bg obj 1 (y.ev G get)with
  |some (new,rd)=>(match x.ev G get with
   |.sl o 0 1 lo len=>match obj o with
    |.live (.box et cells)=>if lo+len<=cells.length/\new.length<=len then
     some { r:=.int new.length,rd:=o::rd,wr:=[(o,.box et (splice cells lo (new.flatten.map .d)))] }else none
    |_=>none
   |.sl o n 1 lo len=>match obj o with
    |.live (.dat et 1 rows)=>if n=rows.length/\lo+len<=rows.length/\new.length<=len/\rows≠[]then
     some { r:=.int new.length,rd:=o::rd,wr:=[(o,.dat et 1 (splice rows lo new))] }else none
    |_=>none
   |_=>none)
  |none=>none
 |.CX et aJ bytes z n=>match n.ev G get with
  |.d (.val (.int _ k))=>if 0<=k/\k.toNat*bytes<=70368744177664/\k<=9223372036854775807 then some { r:=.sl base k.toNat aJ 0 k.toNat,nw:=[.dat et aJ (replicate k.toNat z)] }else none
  |_=>none
 |.b2s x=>match x.ev G get with
  |.d (.val (.string _))=>none
  |y=>match bg obj 1 y with
   |some (rows,rd)=>match bytesOf rows with
    |some bs=>some { r:=.d (.val (.string ⟨bs.toArray⟩)),rd:=rd }
    |none=>none
   |none=>none
 |.s2b x=>match x.ev G get with
  |.d (.val (.string s))=>some { r:=.d (.cM 1 (ZG s)) }
  |_=>none
 |.stk=>none
 |.cpl x=>match x.ev G get with
  |.d (.val (.int k a))=>some { r:=.d (.val (.int k (vC k (if k.signed=true then -1 else k.max) a))) }
  |_=>none
 |.clr aJ z x=>match x.ev G get with
  |.sl o n e lo len=>match obj o with
   |.live (.dat et A rows)=>if e=aJ/\A=aJ/\n=rows.length/\lo+len<=rows.length/\0<len then
    some { r:=.undef,rd:=[o],wr:=[(o,.dat et A (splice rows lo (replicate len z)))] }else none
   |_=>none
  |.d (.cM _ [])=>some { r:=.undef }
  |_=>none
 |.atl x=>match x.ev G get with
  |.ptr o c=>match obj o with
   |.live (.box et cells)=>match cells[c]? with
    |some (.d (.val (.int .i64 a)))=>some { r:=.int a,rd:=[o] }
    |_=>none
   |_=>none
  |_=>none
 |.ata x y=>match x.ev G get,y.ev G get with
  |.ptr o c,.d (.val (.int .i64 d))=>match obj o with
   |.live (.box et cells)=>match cells[c]? with
    |some (.d (.val (.int .i64 a)))=>some { r:=.int (IntKind.i64.wrap (a+d)),rd:=[o],wr:=[(o,.box et (splice cells c [.int (IntKind.i64.wrap (a+d))]))] }
    |_=>none
   |_=>none
  |_,_=>none
 |.mkm=>some { r:=.mr base,nw:=[.mp []] }
 |.mup x k y=>match x.ev G get,k.ev G get with
  |.mr o,.d (.val (.int .i64 n))=>match obj o with
   |.live (.mp es)=>some { r:=.undef,rd:=[o],wr:=[(o,.mp (Dh es n (y.ev G get)))] }
   |_=>none
  |_,_=>none
 |.mlk z ok x k=>match x.ev G get,k.ev G get with
  |.mr o,.d (.val (.int .i64 n))=>match obj o with
   |.live (.mp es)=>match getM es n with
    |some y=>some { r:=bif ok then .cZ [y,.bool true]else y,rd:=[o] }
    |none=>some { r:=bif ok then .cZ [.d (.val z),.bool false]else .d (.val z),rd:=[o] }
   |_=>none
  |_,_=>none
def de:I->Option fN
 |.more m=>fS G get obj base m
 |.mv x=>some { r:=x.ev G get }
 |.pick c x y=>match c.ev G get with
  |.d (.val (.bool b))=>some { r:=bif b then x.ev G get else y.ev G get }
  |_=>none
 |.new et row=>some { r:=.ptr base 0,nw:=[.box et (row.map .d)] }
 |.box et x=>match(x.ev G get).cells with
  |some cs=>some { r:=.ptr base 0,nw:=[.box et cs] }
  |none=>none
 |.build zr parts=>match uk G get (zr.map .d) parts with
  |some cs=>some { r:=.agg cs }
  |none=>none
 |.Y9 et aJ parts=>match rowsOf G get aJ parts with
  |some rows=>some { r:=.sl base rows.length aJ 0 rows.length,nw:=[.dat et aJ rows] }
  |none=>match Bw G get parts with
   |some x=>if aJ=1 then(match sO obj x with
    |some (o,ob,d)=>some { r:=.sl base 1 1 0 1,rd:=[o],wr:=[(o,ob)],nw:=[.dat et 1 [[d]]] }
    |none=>none)else none
   |none=>match xy G get aJ parts with
    |some cs=>if aJ=1 then some { r:=.sl base 0 1 0 cs.length,nw:=[.box et cs] }else some { r:=.sl base 0 aJ 0 parts.length,nw:=[.lr et aJ 0 cs] }
    |none=>none
 |.ld1 x=>match x.ev G get with
  |.ptr o col=>match obj o with
   |.live (.box et cells)=>match cells[col]? with
    |some v=>some { r:=v,rd:=[o] }
    |none=>none
   |_=>none
  |.ip row col=>match row[col]? with
   |some v=>some { r:=.d v }
   |none=>none
  |.rp o n aJ row col=>match obj o with
   |.live (.dat et E rows)=>if aJ=E/\n=rows.length then(match rows[row]? with
    |some r=>match r[col]? with
     |some v=>some { r:=.d v,rd:=[o] }
     |none=>none
    |none=>none)else none
   |.live (.lr et E v cells)=>if aJ=E/\n=v then(match cells[row*aJ+col]? with
    |some x=>some { r:=x,rd:=[o] }
    |none=>none)else none
   |.live (.l_ et bs)=>if aJ=1 then(match bs[n]? with
    |some rows=>(match rows[row]? with
     |some r=>match r[col]? with
      |some v=>some { r:=.d v,rd:=[o] }
      |none=>none
     |none=>none)
    |none=>none)else none
   |_=>none
  |_=>none
 |.Es size x=>match x.ev G get with
  |.ptr o col=>match obj o with
   |.live (.box et cells)=>if((cells.drop col).take size).length=size then some { r:=.agg ((cells.drop col).take size),rd:=[o] }else none
   |_=>none
  |.ip row col=>if((row.drop col).take size).length=size then some { r:=.agg (((row.drop col).take size).map .d) }else none
  |.rp o n aJ row col=>match obj o with
   |.live (.dat et E rows)=>if aJ=E/\n=rows.length then(match rows[row]? with
    |some r=>if((r.drop col).take size).length=size then some { r:=.agg (((r.drop col).take size).map .d),rd:=[o] }else none
    |none=>none)else none
   |.live (.lr et E v cells)=>if aJ=E/\n=v/\((cells.drop (row*aJ+col)).take size).length=size then some { r:=.agg ((cells.drop (row*aJ+col)).take size),rd:=[o] }else none
   |_=>none
  |_=>none
 |.st size x y=>match(y.ev G get).cells with
  |some cs=>if cs.length=size then(match x.ev G get with
   |.ptr o col=>match obj o with
    |.live (.box et cells)=>if col+cs.length<=cells.length then some { r:=.undef,rd:=[o],wr:=[(o,.box et (splice cells col cs))] }else none
    |_=>none
   |.rp o n aJ row col=>match obj o with
    |.live (.dat et E rows)=>if aJ=E/\n=rows.length then(match LV.rz cs with
     |some ds=>match rows[row]? with
      |some r=>if col+ds.length<=r.length then some { r:=.undef,rd:=[o],wr:=[(o,.dat et E (rows.set row (splice r col ds)))] }else none
      |none=>none
     |none=>none)else none
    |.live (.lr et E v cells)=>if aJ=E/\n=v/\row*aJ+col+cs.length<=cells.length then some { r:=.undef,rd:=[o],wr:=[(o,.lr et E v (splice cells (row*aJ+col) cs))] }else none
    |.live (.l_ et bs)=>if aJ=1 then(match LV.rz cs with
     |some ds=>(match bs[n]? with
      |some rows=>(match rows[row]? with
       |some r=>if col+ds.length<=r.length then some { r:=.undef,rd:=[o],wr:=[(o,.l_ et (bs.set n (rows.set row (splice r col ds))))] }else none
       |none=>none)
      |none=>none)
     |none=>none)else none
    |_=>none
   |_=>none)else none
  |none=>none
 |.kL x=>match x.ev G get with
  |.ptr o col=>some { r:=.ptr o col }
  |.rp o n e r c=>some { r:=.rp o n e r c }
  |.ip r c=>some { r:=.ip r c }
  |_=>none
 |.bin op x y=>match x.ev G get,y.ev G get with
  |.d (.val a),.d (.val b)=>match X0 op a b with
   |some v=>some { r:=.d (.val v) }
   |none=>none
  |_,_=>none
 |.eqb neg x y=>match x.ev G get,y.ev G get with
  |.d (.val (.bool a)),.d (.val (.bool b))=>some { r:=.bool (bif neg then !(a==b)else a==b) }
  |_,_=>none
 |.not x=>match x.ev G get with
  |.d (.val (.bool a))=>some { r:=.bool (!a) }
  |_=>none
 |.cvt k x=>match x.ev G get with
  |.d (.val (.int _ a))=>some { r:=.d (.val (.int k (k.wrap a))) }
  |_=>none
 |.B0 off x=>match x.ev G get with
  |.ptr o col=>some { r:=.ptr o (col+off) }
  |.rp o n e r c=>some { r:=.rp o n e r (c+off) }
  |.ip r c=>some { r:=.ip r (c+off) }
  |_=>none
 |.XJ off x=>match x.ev G get with
  |.agg cs=>match cs[off]? with
   |some v=>some { r:=v }
   |none=>none
  |_=>none
 |.XI off size x=>match x.ev G get with
  |.agg cs=>if((cs.drop off).take size).length=size then some { r:=.agg ((cs.drop off).take size) }else none
  |_=>none
 |.BU aJ x i=>match i.ev G get with
  |.d (.val (.int _ i))=>if 0<=i then(match x.ev G get with
   |.d (.cM e rows)=>if e=aJ then(match rows[i.toNat]? with
    |some r=>some { r:=.ip r 0 }
    |none=>none)else none
   |.sl o n e lo len=>match obj o with
    |.live (.k9 et A rows)=>if e=aJ/\A=aJ/\n=rows.length/\i.toNat<len then(match rows[lo+i.toNat]? with
     |some r=>some { r:=.ip r 0,rd:=[o] }
     |none=>none)else none
    |.live (.box _ _)=>if e=aJ/\e=1/\n=0/\i.toNat<len then some { r:=.ptr o (lo+i.toNat),rd:=[o] }else none
    |_=>if e=aJ/\i.toNat<len then some { r:=.rp o n e (lo+i.toNat) 0,rd:=[o] }else none
   |_=>none)else none
  |_=>none
 |.ixr len aJ x i=>match i.ev G get with
  |.d (.val (.int _ i))=>if 0<=i/\i.toNat<len then(match x.ev G get with
   |.ptr o col=>some { r:=.ptr o (col+i.toNat*aJ) }
   |.rp o n e r c=>some { r:=.rp o n e r (c+i.toNat*aJ) }
   |.ip r c=>some { r:=.ip r (c+i.toNat*aJ) }
   |_=>none)else none
  |_=>none
 |.ix1 len x i=>match i.ev G get with
  |.d (.val (.int _ i))=>if 0<=i/\i.toNat<len then(match x.ev G get with
   |.agg cs=>match cs[i.toNat]? with
    |some v=>some { r:=v }
    |none=>none
   |_=>none)else none
  |_=>none
 |.ixs x i=>match i.ev G get,x.ev G get with
  |.d (.val (.int _ i)),.d (.val (.string s))=>if 0<=i then(match s.data.toList[i.toNat]? with
   |some b=>some { r:=.d (.val (.int .u8 b.toNat)) }
   |none=>none)else none
  |_,_=>none
 |.len x=>match x.ev G get with
  |.d (.cM e rows)=>some { r:=.int rows.length }
  |.d (.val (.slice none 0 0))=>some { r:=.int 0 }
  |.sl o n e lo len=>some { r:=.int len }
  |_=>none
 |.lens x=>match x.ev G get with
  |.d (.val (.string s))=>some { r:=.int s.size }
  |_=>none
 |.mkf f a b=>some { r:=.fn f (a.map (·.ev G get)) (b.map (·.ev G get)) }
 |.ext x i=>match x.ev G get with
  |.cZ vs=>match vs[i]? with
   |some v=>some { r:=v }
   |none=>none
  |_=>none
 |.app et aJ bytes x y=>match bg obj aJ (y.ev G get)with
  |some (new,rd)=>(match x.ev G get with
   |.d (.val (.slice none 0 0))=>if new.length*bytes<=70368744177664 then
    some { r:=.sl base new.length aJ 0 new.length,rd:=rd,nw:=[.dat et aJ new] }else none
   |.sl o n e lo len=>match obj o with
    |.live (.dat X A rows)=>if X=et/\e=aJ/\A=aJ/\n=rows.length/\lo=0/\len=n/\(rows++new).length*bytes<=70368744177664 then
     some { r:=.sl o (rows.length+new.length) aJ 0 (rows.length+new.length),rd:=o::rd,wr:=[(o,.dat X aJ (rows++new))] }else none
    |_=>none
   |_=>none)
  |none=>Jw obj base et aJ bytes (x.ev G get) (y.ev G get)
 |.min x y=>match x.ev G get,y.ev G get with
  |.d (.val (.int k a)),.d (.val (.int _ b))=>some { r:=.d (.val (.int k (if b<a then b else a))) }
  |_,_=>none
 |.max x y=>match x.ev G get,y.ev G get with
  |.d (.val (.int k a)),.d (.val (.int _ b))=>some { r:=.d (.val (.int k (if b>a then b else a))) }
  |_,_=>none
 |.PI neg x=>match x.ev G get with
  |.ptr _ _=>some { r:=.bool neg }
  |.rp _ _ _ _ _=>some { r:=.bool neg }
  |.ip _ _=>some { r:=.bool neg }
  |.d (.val (.pointer none))=>some { r:=.bool !neg }
  |_=>none
 |.PG neg x=>match x.ev G get with
  |.d (.val (.slice none 0 0))=>some { r:=.bool !neg }
  |.d (.cM _ rows)=>some { r:=if rows.length=0 then .ec else .bool neg }
  |.sl _ _ _ _ len=>some { r:=if len=0 then .ec else .bool neg }
  |_=>none
 |.eqs neg ks x y=>match x.ev G get,y.ev G get with
  |.agg xs,.agg ys=>match ew ks xs ys with
   |some b=>some { r:=.bool (bif neg then !b else b) }
   |none=>none
  |_,_=>none
 |.neg x=>match x.ev G get with
  |.d (.val (.int k a))=>some { r:=.d (.val (.int k (k.wrap (0-a)))) }
  |_=>none
 |.ixn len aJ x i=>match i.ev G get with
  |.d (.val (.int _ i))=>if 0<=i/\i.toNat<len then(match x.ev G get with
   |.agg cs=>if((cs.drop (i.toNat*aJ)).take aJ).length=aJ then some { r:=.agg ((cs.drop (i.toNat*aJ)).take aJ) }else none
   |_=>none)else none
  |_=>none
 |.sli aJ x lo hi mx=>match x.ev G get with
  |.d (.cM e rows)=>match iF 0 (lo.map (·.ev G get)),iF rows.length (hi.map (·.ev G get)),iF rows.length (mx.map (·.ev G get))with
   |some l,some h,some m=>if e=aJ/\l<=h/\h<=m/\m<=rows.length then some { r:=.d (.cM aJ ((rows.drop l).take (h-l))) }else none
   |_,_,_=>none
  |.sl o n e j len=>match iF 0 (lo.map (·.ev G get)),iF len (hi.map (·.ev G get)),iF len (mx.map (·.ev G get))with
   |some l,some h,some m=>if e=aJ/\l<=h/\h<=m/\m<=len then some { r:=.sl o n e (j+l) (h-l) }else none
   |_,_,_=>none
  |.d (.val (.slice none 0 0))=>match iF 0 (lo.map (·.ev G get)),iF 0 (hi.map (·.ev G get)),iF 0 (mx.map (·.ev G get))with
   |some l,some h,some m=>if l<=h/\h<=m/\m<=0 then some { r:=.d (.val (.slice none 0 0)) }else none
   |_,_,_=>none
  |_=>none
 |.sls x lo hi=>match x.ev G get with
  |.d (.val (.string s))=>match iF 0 (lo.map (·.ev G get)),iF s.size (hi.map (·.ev G get))with
   |some l,some h=>if l<=h/\h<=s.size then some { r:=.d (.val (.string (s.extract l h))) }else none
   |_,_=>none
  |_=>none
 |.call _ _=>none
end
section
variable{α:Type}{b o et:Nat}{G:tY}{rows:List (List DV)}(w:World)
def yX(l:List α)(o:Nat)(x:α)(xs:List α)(h:o<l.length):splice (l.set o x) (o+1) xs=splice l o (x::xs):=by unfold splice;rw[take_set,take_add_one,getElem?_eq_getElem h,drop_set];simp only[length_cons,show¬(o+1+xs.length<=o)by omega];rw[if_pos (by omega),set_append,length_take,Nat.min_eq_left (by omega),if_neg (by omega)];simp only[Option.toList_some,Nat.sub_self,set_cons_zero,append_assoc,singleton_append,cons_append,nil_append];rw[show o+1+xs.length=o+(xs.length+1)by omega]
def LA(l:List α)(o:Nat)(xs:List α)(h:o+xs.length<=l.length):(splice l o xs).length=l.length:=by unfold splice;simp only[length_append,length_take,length_drop];omega
def fZ{b:Nat}{et:TypeId}{fr:Nat×Nat} : ∀(vs:List Value) (o:Nat) (w:World) (C:Array Value),w.heap[b]? = some (.cells C et fr)->o+vs.length<=C.size->
  ∃D,(w.setCells b o vs).heap[b]? = some (.cells D et fr)/\D.toList=splice C.toList o vs
 |[],o,w,C,h,y=>⟨C,h,by simp[splice]⟩
 |v::r,o,w,C,h,y=>by
  simp only[length_cons]at y;have H:(w.setCell ⟨b,o,none⟩ v).heap[b]? = some (.cells (C.setIfInBounds o v) et fr):=by simp[setCell,Array.getElem?_modify,h]
  obtain⟨D,h2,K⟩:=fZ r (o+1) _ _ H (by simp;omega);refine⟨D,by rw[setCells];exact h2,?_⟩;rw[K,Array.toList_setIfInBounds,yX _ _ _ _ (by simp;omega)]
def heap_setCells_other{b k:Nat}(h:k≠b):∀(vs:List Value) (o:Nat) (w:World),(w.setCells b o vs).heap[k]? = w.heap[k]?
 |[],_,_=>rfl
 |v::r,o,w=>by rw[setCells,heap_setCells_other h r];simp only[setCell,Array.getElem?_modify];rw[if_neg (by omega)]
def size_setCells(b:Nat):∀(vs:List Value) (o:Nat) (w:World),(w.setCells b o vs).heap.size=w.heap.size
 |[],_,_=>rfl
 |v::r,o,w=>by rw[setCells,size_setCells b r];simp
def tZ(b:Nat):∀(vs:List Value) (o:Nat) (w:World),(w.setCells b o vs).os=w.os/\(w.setCells b o vs).tape=w.tape/\(w.setCells b o vs).output=w.output
 |[],_,_=>⟨rfl,rfl,rfl⟩
 |v::r,o,w=>by rw[setCells];exact tZ b r (o+1) _
def jW(b:Nat):∀(vs:List Value) (o:Nat) (w:World) (k:Nat),(w.setCells b o vs).shape? k=w.shape? k
 |[],_,_,_=>rfl
 |v::r,o,w,k=>by
  rw[setCells,jW b r];simp only[setCell,shape?,Array.getElem?_modify];by_cases V:b=k
  .subst V;simp only[if_true];cases w.heap[b]? with
   |none=>rfl
   |some x=>cases x<;>simp
  .rw [if_neg V]
def dB(o:Obj)(k:Nat)(h:k<w.heap.size):(w.alloc o).heap[k]? = w.heap[k]?:=by show(w.heap.push o)[k]? = _;rw[Array.getElem?_push,if_neg (by omega)]
def cE(o:Obj):(w.alloc o).heap[w.heap.size]? = some o:=by show(w.heap.push o)[w.heap.size]? = _;rw[Array.getElem?_push,if_pos rfl]
def K8{w:World}{x:Obj}(h:w.heap[b]? = some x):b<w.heap.size:=(Array.getElem?_eq_some_iff.1 h).1
section
variable {G:tY} {J J':Nat->Prop} {w w':World} {ι ι':fe} {obj obj':Nat->bK}
def aA.TF(S:aA G J w ι obj)(h:Own ι obj b):b<w.heap.size:=by obtain⟨o,O⟩:=h;obtain⟨x,K,_⟩:=(S.rep o).uN O;exact K8 K
def jI.keep(S:aA G J w ι obj)(E:Ev (Own ι obj) J J' ι ι' w w')(hk:∀n,ι' o n=ι o n)(V:∀b,(obj o).own ι o b->w'.heap[b]? = w.heap[b]?):jI J' w' ι' o (obj o):=by
 have h:=S.rep o;cases hs:obj o with
 |free=>rw[hs]at h;intro n;rw[hk];exact h n
 |dead=>trivial
 |live ob=>
  rw[hs]at h V;obtain⟨h,m⟩:=h;cases ob with
  |box et cells=>obtain⟨b,C,H,h2,K⟩:=h;exact⟨⟨b,C,by rw[hk];exact H,by rw[V b H];exact h2,K.ev S E⟩,trivial⟩
  |dat et aJ rows=>obtain⟨H,h2⟩:=h;refine⟨⟨by rw[hk];exact H,λb X=>?_⟩,λn T=>by rw[hk];exact m n T⟩;rw[hk]at X;obtain⟨⟨C,K⟩,u⟩:=h2 b X;exact⟨⟨C,by rw[V b X];exact K⟩,u.ev S E (V b X)⟩
  |k9 et aJ rows=>obtain⟨H,h2⟩:=h;refine⟨⟨by rw[hk];exact H,λb X=>?_⟩,trivial⟩;rw[hk]at X;obtain⟨K,u⟩:=h2 b X;exact⟨E.ia b K,u.ev S E (S.same E b K)⟩
  |mp es=>obtain⟨b,C,c,H,h2,K⟩:=h;exact⟨⟨b,C,c,by rw[hk];exact H,by rw[V b H];exact h2,K.ev S E⟩,trivial⟩
  |l_ et bs=>refine⟨⟨λk rows hr=>?_,λk A b=>by rw[hk,hk];exact h.2 k A b⟩,λn T=>by rw[hk];exact m n T⟩;obtain⟨b,C,H,h2,K⟩:=h.1 k rows hr;have X:=V b ⟨k,(List.getElem?_eq_some_iff.1 hr).1,H⟩;exact⟨b,C,by rw[hk];exact H,by rw[X];exact h2,K.ev S E X⟩
  |lr et aJ v cells=>
   obtain⟨x,e⟩|⟨b,C,H,h2,h0,K⟩:=h
   .exact ⟨.inl ⟨x,by rw[hk];exact e⟩,λn T=>by rw[hk];exact m n T⟩
   exact⟨.inr ⟨b,C,by rw[hk];exact H,by rw[V b H];exact h2,h0,K.ev S E⟩,λn T=>by rw[hk];exact m n T⟩
def bK.lU{s:bK}(hk:∀n,ι' o n=ι o n) : s.own ι' o b↔s.own ι o b:=by
 cases s with
 |free=>exact Iff.rfl
 |dead=>exact Iff.rfl
 |live ob=>cases ob<;>simp only[bK.own,ah.own,hk]
def aA.jC(S:aA G J w ι obj)(o0:Nat)(s:bK)(E:Ev (Own ι obj) J J ι ι' w w')(hk:∀o,o≠o0->∀n,ι' o n=ι o n)
  (V:∀b,b<w.heap.size->¬(obj o0).own ι o0 b->w'.heap[b]? = w.heap[b]?)
  (hs:jI J w' ι' o0 s) (U:∀b,s.own ι' o0 b->(obj o0).own ι o0 b\/w.heap.size<=b) :
  aA G J w' ι' (λo=>if o=o0 then s else obj o)/\Ext obj (λo=>if o=o0 then s else obj o) J J ι ι' w w':=by
 have Z:∀o b,(if o=o0 then s else obj o).own ι' o b->(o=o0/\s.own ι' o0 b)\/(o≠o0/\(obj o).own ι o b):=by
  intro o b h;by_cases O:o=o0
  .subst O;rw[if_pos rfl]at h;exact .inl ⟨rfl,h⟩
  .rw [if_neg O]at h;exact .inr ⟨O,(bK.lU (hk o O)).1 h⟩
 have q:∀o b,(obj o).own ι o b->b<w.heap.size:=λo b h=>S.TF ⟨o,h⟩
 refine⟨⟨?_,?_,?_,?_,?_⟩,⟨E,?_⟩⟩
 .intro o;by_cases O:o=o0
  .subst O;rw[if_pos rfl];exact hs
  .rw [if_neg O];exact jI.keep S E (hk o O) (λb h=>V b (q o b h) (λj=>O (S.inj o o0 b h j)))
 .intro o o' b h j;rcases Z o b h with ⟨x,k⟩|⟨O,k⟩<;>rcases Z o' b j with ⟨e,A⟩|⟨c,A⟩
  .rw [x,e]
  .rw [x];rcases U b k with h2|h2
   .exact S.inj _ _ _ h2 A
   .have:=q _ _ A;omega
  .rw [e];rcases U b A with h2|h2
   .exact S.inj _ _ _ k h2
   .have:=q _ _ k;omega
  .exact S.inj _ _ _ k A
 .intro o b h hj;rcases Z o b h with ⟨rfl,h⟩|⟨O,h⟩
  .rcases U b h with h2|h2
   .exact S.pX _ _ h2 hj
   .have:=S.Ey b hj;omega
  .exact S.pX _ _ h hj
 .intro b hj;rw[S.same E b hj];exact S.jcell b hj
 .intro g row u;obtain⟨H,h2,t,K⟩:=S.uV g row u;exact⟨H,h2.ev S E H,t,by rw[E.shape g (S.Ey g H)];exact K⟩
 .rintro b ⟨o,h⟩;rcases Z o b h with ⟨rfl,h⟩|⟨O,h⟩
  .exact (U b h).imp (λh=>⟨_,h⟩) id
  .exact .inl ⟨o,h⟩
def Ev.alloc(W J:Nat->Prop)(w:World)(n:Nat)(x:Obj)(hi:∀o n b,ι o n=some b->ι' o n=some b):Ev W J J ι ι' w ({ w with drawn:=n }.alloc x):=by
 refine⟨rfl,rfl,rfl,by simp,λb V _=>?_,λb V=>?_,λ_ h=>h,λ_ h=>.inl h,hi⟩
 .exact dB { w with drawn:=n } x b V
 .exact bI (dB { w with drawn:=n } x b V)
def Ev.setCells(J:Nat->Prop)(w:World)(b o:Nat)(vs:List Value)(y:Own ι obj b)(hi:∀o n b,ι o n=some b->ι' o n=some b):Ev (Own ι obj) J J ι ι' w (w.setCells b o vs):=by obtain⟨H,h2,K⟩:=tZ b vs o w;refine⟨H,h2,K,by rw[size_setCells];exact Nat.le_refl _,λk hk T=>?_,λk hk=>jW b vs o w k,λ_ h=>h,λ_ h=>.inl h,hi⟩;exact heap_setCells_other (λe=>T (by rw[e];exact y)) vs o w
end
section
variable {J:Nat->Prop} {w:World} {ι:fe}
def cm.length:∀{xs:List LV} {vs:List Value},cm J w ι xs vs->xs.length=vs.length
 |[],[],_=>rfl
 |x::xs,v::vs,h=>by simp[cm.length h.2]
 |[],_::_,h=>h.elim
 |_::_,[],h=>h.elim
def bx.length:∀{xs:List LV} {vs:List Value},bx J w ι xs vs->xs.length=vs.length
 |[],[],_=>rfl
 |x::xs,v::vs,h=>by simp[bx.length h.2.2]
 |[],_::_,h=>h.elim
 |_::_,[],h=>h.elim
def bx.get:∀{xs:List LV} {vs:List Value} {i:Nat} {x:LV},bx J w ι xs vs->xs[i]? = some x->∃v,vs[i]? = some v/\v.oneCell'=true/\cW J w ι x v
 |[],[],i,x,_,h=>by simp at h
 |y::xs,v::vs,0,x,h,Z=>by simp at Z;subst Z;exact⟨v,by simp,h.1,h.2.1⟩
 |y::xs,v::vs,i+1,x,h,Z=>by simpa using bx.get h.2.2 (by simpa using Z)
 |[],_::_,_,_,h,_=>h.elim
 |_::_,[],_,_,h,_=>h.elim
def cm.get:∀{xs:List LV} {vs:List Value} {i:Nat} {x:LV},cm J w ι xs vs->xs[i]? = some x->∃v,vs[i]? = some v/\cW J w ι x v
 |[],[],i,x,_,h=>by simp at h
 |y::xs,v::vs,0,x,h,Z=>by simp at Z;subst Z;exact⟨v,by simp,h.1⟩
 |y::xs,v::vs,i+1,x,h,Z=>by simpa using cm.get h.2 (by simpa using Z)
 |[],_::_,_,_,h,_=>h.elim
 |_::_,[],_,_,h,_=>h.elim
def bx.one:∀{xs:List LV} {vs:List Value},bx J w ι xs vs->∀v∈vs,v.oneCell'=true
 |[],[],_,v,h=>by cases h
 |x::xs,y::vs,h,v,E=>by
  rcases mem_cons.1 E with rfl|E
  .exact h.1
  .exact bx.one h.2.2 v E
 |[],_::_,h,_,_=>h.elim
 |_::_,[],h,_,_=>h.elim
def bx.append:∀{xs ys:List LV} {vs us:List Value},bx J w ι xs vs->bx J w ι ys us->bx J w ι (xs++ys) (vs++us)
 |[],ys,[],us,_,h=>h
 |x::xs,ys,v::vs,us,h,k=>⟨h.1,h.2.1,bx.append h.2.2 k⟩
 |[],_,_::_,_,h,_=>h.elim
 |_::_,_,[],_,h,_=>h.elim
def bx.take:∀(n:Nat) {xs:List LV} {vs:List Value},bx J w ι xs vs->bx J w ι (xs.take n) (vs.take n)
 |0,_,_,_=>by simp[bx]
 |n+1,[],[],_=>by simp[bx]
 |n+1,x::xs,v::vs,h=>by simpa[bx]using⟨h.1,h.2.1,bx.take n h.2.2⟩
 |_+1,[],_::_,h=>h.elim
 |_+1,_::_,[],h=>h.elim
def bx.drop:∀(n:Nat) {xs:List LV} {vs:List Value},bx J w ι xs vs->bx J w ι (xs.drop n) (vs.drop n)
 |0,_,_,h=>by simpa using h
 |n+1,[],[],_=>by simp[bx]
 |n+1,x::xs,v::vs,h=>by simpa using bx.drop n h.2.2
 |_+1,[],_::_,h=>h.elim
 |_+1,_::_,[],h=>h.elim
def bx.splice{xs ys:List LV}{vs us:List Value}(o:Nat)(h:bx J w ι xs vs)(k:bx J w ι ys us):bx J w ι (splice xs o ys) (splice vs o us):=by unfold Dv.splice;rw[k.length];exact(bx.append (bx.append (h.take o) k) (h.drop _))
def bx.CV:∀{xs:List LV} {vs:List Value},bx J w ι xs vs->cm J w ι xs vs
 |[],[],_=>trivial
 |x::xs,v::vs,h=>⟨h.2.1,bx.CV h.2.2⟩
 |[],_::_,h=>h.elim
 |_::_,[],h=>h.elim
def bx.ofL:∀{xs:List LV} {vs:List Value},cm J w ι xs vs->(∀v∈vs,v.oneCell'=true)->bx J w ι xs vs
 |[],[],_,_=>trivial
 |x::xs,v::vs,h,k=>⟨k v (by simp),h.1,bx.ofL h.2 (λu m=>k u (by simp[m]))⟩
 |[],_::_,h,_=>h.elim
 |_::_,[],h,_=>h.elim
def bG.CV:∀{xs:List DV} {vs:List Value},bG J w xs vs->cm J w ι (xs.map .d) vs
 |[],[],_=>trivial
 |x::xs,v::vs,h=>⟨h.1,bG.CV h.2⟩
 |[],_::_,h=>h.elim
 |_::_,[],h=>h.elim
def dV.get{b:Nat} : ∀{xs:List DV} {off i:Nat} {x:DV},dV J w xs b off->xs[i]? = some x->∃v,w.cell? ⟨b,off+i,none⟩=some v/\v.oneCell'=true/\kz J w x v
 |[],off,i,x,_,h=>by simp at h
 |y::xs,off,0,x,h,Z=>by simp at Z;subst Z;exact h.1
 |y::xs,off,i+1,x,h,Z=>by have:=dV.get h.2 (by simpa using Z:xs[i]? = some x);rwa [show off+(i+1)=off+1+i by omega]
def dV.drop{b:Nat} : ∀(n:Nat) {xs:List DV} {off:Nat},dV J w xs b off->dV J w (xs.drop n) b (off+n)
 |0,_,_,h=>by simpa using h
 |n+1,[],_,_=>by simp[dV]
 |n+1,x::xs,off,h=>by have:=dV.drop n h.2;rw[show off+(n+1)=off+1+n by omega];simpa using this
def dV.take{b:Nat} : ∀(n:Nat) {xs:List DV} {off:Nat},dV J w xs b off->dV J w (xs.take n) b off
 |0,_,_,h=>by simp[dV]
 |n+1,[],_,_=>by simp[dV]
 |n+1,x::xs,off,h=>by simpa[dV]using⟨h.1,dV.take n h.2⟩
def dV.append{b:Nat} : ∀{xs ys:List DV} {off:Nat},dV J w xs b off->dV J w ys b (off+xs.length)->dV J w (xs++ys) b off
 |[],ys,off,_,h=>by simpa using h
 |x::xs,ys,off,h,k=>⟨h.1,dV.append h.2 (by rw[show off+1+xs.length=off+(xs.length+1)by omega];exact k)⟩
def dV.vals{b:Nat} : ∀{xs:List DV} {off:Nat},dV J w xs b off->∃vs:List Value,bG J w xs vs/\(∀v∈vs,v.oneCell'=true)/\w.rangeAt b off vs
 |[],off,_=>⟨[],trivial,by simp,λj v h=>by simp at h⟩
 |x::xs,off,h=>by
  obtain⟨⟨v,H,h2,K⟩,hr⟩:=h;obtain⟨vs,k1,k2,k3⟩:=dV.vals hr;refine⟨v::vs,⟨K,k1⟩,by simpa[h2]using k2,λj u m=>?_⟩;cases j with
  |zero=>simp at m;subst m;simpa using H
  |succ j=>have:=k3 j u (by simpa using m);rwa [show off+(j+1)=off+1+j by omega]
def dV.of{b:Nat} : ∀{xs:List DV} {vs:List Value} {off:Nat},bG J w xs vs->(∀v∈vs,v.oneCell'=true)->w.rangeAt b off vs->dV J w xs b off
 |[],[],off,_,_,_=>trivial
 |x::xs,v::vs,off,h,k,r=>by refine⟨⟨v,by simpa using r 0 v (by simp),k v (by simp),h.1⟩,dV.of h.2 (λu m=>k u (by simp[m])) (λj u m=>?_)⟩;have:=r (j+1) u (by simpa using m);rwa [show off+(j+1)=off+1+j by omega]at this
 |[],_::_,_,h,_,_=>h.elim
 |_::_,[],_,h,_,_=>h.elim
def bG.length:∀{xs:List DV} {vs:List Value},bG J w xs vs->xs.length=vs.length
 |[],[],_=>rfl
 |x::xs,v::vs,h=>by simp[bG.length h.2]
 |[],_::_,h=>h.elim
 |_::_,[],h=>h.elim
def bq.get{b aJ:Nat} : ∀{rs:List (List DV)} {off i:Nat} {r:List DV},bq J w aJ rs b off->rs[i]? = some r->r.length=aJ/\dV J w r b (off+i*aJ)
 |[],off,i,x,_,h=>by simp at h
 |y::xs,off,0,x,h,Z=>by simp at Z;subst Z;simpa using⟨h.1,h.2.1⟩
 |y::xs,off,i+1,x,h,Z=>by have:=bq.get h.2.2 (by simpa using Z:xs[i]? = some x);rwa [show off+(i+1)*aJ=off+aJ+i*aJ by rw[Nat.add_mul];omega]
def bq.of{b aJ:Nat} : ∀{rs:List (List DV)} {off:Nat},(∀i r,rs[i]? = some r->r.length=aJ/\dV J w r b (off+i*aJ))->bq J w aJ rs b off
 |[],_,_=>trivial
 |r::rs,off,h=>by have h0:=h 0 r (by simp);refine⟨h0.1,by simpa using h0.2,bq.of (λi x Z=>?_)⟩;have:=h (i+1) x (by simpa using Z);rwa [show off+(i+1)*aJ=off+aJ+i*aJ by rw[Nat.add_mul];omega]at this
def bq.drop{b aJ:Nat} : ∀(n:Nat) {rs:List (List DV)} {off:Nat},bq J w aJ rs b off->bq J w aJ (rs.drop n) b (off+n*aJ)
 |0,_,_,h=>by simpa using h
 |n+1,[],_,_=>by simp[bq]
 |n+1,x::xs,off,h=>by have:=bq.drop n h.2.2;rw[show off+(n+1)*aJ=off+aJ+n*aJ by rw[Nat.add_mul];omega];simpa using this
def bq.take{b aJ:Nat} : ∀(n:Nat) {rs:List (List DV)} {off:Nat},bq J w aJ rs b off->bq J w aJ (rs.take n) b off
 |0,_,_,h=>by simp[bq]
 |n+1,[],_,_=>by simp[bq]
 |n+1,x::xs,off,h=>by simpa[bq]using⟨h.1,h.2.1,bq.take n h.2.2⟩
def aA.freeze{obj:Nat->bK}(S:aA G J w ι obj){aJ:Nat}(O:obj o=.live (.dat et aJ rows)) :
  aA G (λb=>J b\/ι o rows.length=some b) w ι (λk=>if k=o then .live (.k9 et aJ rows)else obj k)/\Ext obj (λk=>if k=o then .live (.k9 et aJ rows)else obj k) J (λb=>J b\/ι o rows.length=some b) ι ι w w:=by
 have U:∀b,ι o rows.length=some b->(obj o).own ι o b:=λb h=>by rw[O];exact h
 have E:Ev (Own ι obj) J (λb=>J b\/ι o rows.length=some b) ι ι w w:=⟨rfl,rfl,rfl,Nat.le_refl _,λ_ _ _=>rfl,λ_ _=>rfl,λ_ h=>.inl h,λb h=>h.elim .inl (λh=>.inr (.inr ⟨o,U b h⟩)),λ_ _ _ h=>h⟩;have Z:∀k b,(if k=o then bK.live (.k9 et aJ rows)else obj k).own ι k b->k≠o/\(obj k).own ι k b:=by
  intro k b h;by_cases hk:k=o
  .rw [if_pos hk]at h;exact h.elim
  .rw [if_neg hk]at h;exact⟨hk,h⟩
 have hr:=S.rep o;rw[O]at hr;refine⟨⟨?_,?_,?_,?_,?_⟩,⟨E,?_⟩⟩
 .intro k;by_cases hk:k=o
  .subst hk;rw[if_pos rfl];exact⟨⟨hr.1.1,λb V=>⟨.inr V,bq.mono (λ_ h=>.inl h) (λ_ _=>rfl) _ _ _ _ rfl (hr.1.2 b V).2⟩⟩,trivial⟩
  .rw [if_neg hk];exact jI.keep S E (λ_=>rfl) (λ_ _=>rfl)
 .intro k A b h j;exact S.inj k A b (Z k b h).2 (Z A b j).2
 .intro k b h hj;obtain⟨hk,h⟩:=Z k b h;rcases hj with hj|hj
  .exact S.pX _ _ h hj
  .exact hk (S.inj k o b h (U b hj))
 .intro b hj;rcases hj with hj|hj
  .exact S.jcell b hj
  .obtain ⟨C,B⟩:=(hr.1.2 b hj).1;exact⟨C,_,_,B⟩
 .intro g row u;obtain⟨H,h2,t,K⟩:=S.uV g row u;exact⟨.inl H,dV.mono (λ_ h=>.inl h) (λ_ _=>rfl) _ _ _ rfl h2,t,K⟩
 .rintro b ⟨k,h⟩;exact .inl ⟨k,(Z k b h).2⟩
def OL{obj:Nat->bK}(S:aA G J w ι obj){e lo len:Nat}(O:obj o=.live (.dat et e rows))(q:lo+len<=rows.length){v:Value}(E:cW J w ι (.sl o rows.length e lo len) v) :
  kz (λb=>J b\/ι o rows.length=some b) w (.cM e ((rows.drop lo).take len)) v/\v.cells=#[v]/\v.oneCell'=true:=by
 have r:=S.rep o;rw[O]at r;obtain⟨⟨_,hd⟩,_⟩:=r;have c:((rows.drop lo).take len).length=len:=by simp;omega
 rcases E with ⟨rfl,a,rfl⟩|⟨b,cap,X,C,V,rfl,k,_⟩
 .exact ⟨⟨a,0,0,rfl,by simp,Nat.le_refl _,.inl (by simp)⟩,rfl,rfl⟩
 .obtain ⟨_,t⟩:=hd b V;have:=bq.mono (J':=λb=>J b\/ι o rows.length=some b) (w':=w) (λb h=>.inl h) (λ_ _=>rfl) e _ _ _ rfl ((t.drop lo).take len);exact⟨⟨_,len,cap,rfl,c.symm,k,.inr ⟨b,lo*e,rfl,.inr V,by simpa using this⟩⟩,rfl,rfl⟩
def bq.append{b aJ:Nat} : ∀{xs ys:List (List DV)} {off:Nat},bq J w aJ xs b off->bq J w aJ ys b (off+xs.length*aJ)->bq J w aJ (xs++ys) b off
 |[],ys,off,_,h=>by simpa using h
 |x::xs,ys,off,h,k=>⟨h.1,h.2.1,bq.append h.2.2 (by rw[show off+aJ+xs.length*aJ=off+(xs.length+1)*aJ by rw[Nat.add_mul];omega];exact k)⟩
def bq.flat{b aJ:Nat} : ∀{rs:List (List DV)} {off:Nat},bq J w aJ rs b off->dV J w rs.flatten b off/\rs.flatten.length=rs.length*aJ
 |[],_,_=>⟨trivial,by simp⟩
 |r::rs,off,h=>by obtain⟨k1,k2⟩:=bq.flat h.2.2;refine⟨?_,by simp[k2,h.1,Nat.add_mul];omega⟩;simp only[flatten_cons];exact dV.append h.2.1 (by rw[h.1];exact k1)
def bq.Fy{b aJ:Nat} : ∀{rs:List (List DV)} {off:Nat},(∀r∈rs,r.length=aJ)->dV J w rs.flatten b off->bq J w aJ rs b off
 |[],_,_,_=>trivial
 |r::rs,off,y,h=>by simp only[flatten_cons]at h;have hr:=y r (by simp);have H:=h.take r.length;have h2:=h.drop r.length;simp only[take_left,drop_left]at H h2;rw[hr]at h2;exact⟨hr,H,bq.Fy (λx Z=>y x (by simp[Z])) h2⟩
end
end
section
variable{o n col aJ row:Nat}{a:Act}{w w':World}{v:Value}{vs:List Value}{cs:List LV}{et:TypeId}{rows:List (List DV)}{r ds:List DV}
def Tx:Value->Option DV
 |.agg cs=>if cs.all (·.oneCell')then some (.agg (cs.toList.map .val))else none
 |v=>some (.val v)
def aI:Operand->Option bF
 |.tmp t=>some (.t t)
 |.const v=>match Tx v with
  |some x=>some (.c x)
  |none=>none
 |.global g=>some (.g g)
 |.func f=>some (.f f)
def dJ:List Operand->Option (List bF)
 |[]=>some []
 |x::xs=>match aI x,dJ xs with
  |some x,some xs=>some (x::xs)
  |_,_=>none
def fU:Option Operand->Option (Option bF)
 |none=>some none
 |some x=>match aI x with
  |some y=>some (some y)
  |none=>none
def Wz:Operand->Bool
 |.const (.pointer none)=>true
 |_=>false
def Ww:Operand->Bool
 |.const (.slice none 0 0)=>true
 |_=>false
def dY(P:Program)(t:TypeId):Option Nat:=match P.info? t with
 |some i=>some i.size
 |none=>none
def qa(P:Program)(t:TypeId):Option Bool:=match P.underlying t with
 |some (.struct _)=>some true
 |some (.array _ _)=>some true
 |some _=>some false
 |none=>none
def rG(P:Program)(t:TypeId):Option (List DV):=match P.info? t with
 |some i=>match i.zero with
  |some z=>if z.cells.all (·.oneCell')then some (z.cells.toList.map .val)else none
  |none=>none
 |none=>none
def Al(P:Program)(fs:Array Field):List (Nat×Operand)->Option (List (Nat×Nat×bF))
 |[]=>some []
 |(i,x)::o=>match fs[i]?,aI x,Al P fs o with
  |some f,some x,some r=>match dY P f.type with
   |some n=>some ((f.offset,n,x)::r)
   |none=>none
  |_,_,_=>none
def zD(P:Program)(t:TypeId):Option (Nat×Nat):=match P.info? t with
 |some i=>match i.zero with
  |some z=>if z.cells.size=i.size/\0<i.bytes/\0<i.size then some (i.size,i.bytes)else none
  |none=>none
 |none=>none
def RZ(P:Program)(t:TypeId):Bool:=match P.underlying t with
 |some (.slice _)=>true
 |some .string=>true
 |_=>false
def BQ(P:Program)(t:TypeId):Option Nat:=match P.underlying t with
 |some (.int _)=>some 0
 |some .bool=>some 1
 |some .string=>some 2
 |_=>none
def BP(P:Program):Nat->List Field->Option (List Nat)
 |_,[]=>some []
 |i,f::fs=>match BQ P f.type,BP P (i+1) fs with
  |some k,some ks=>if f.offset=i/\f.name≠ "_" then some (k::ks)else none
  |_,_=>none
def yA(P:Program):Nat->List Field->Option (List Nat)
 |_,[]=>some []
 |i,f::fs=>if f.offset=i/\f.name≠ "_" then(match BQ P f.type with
  |some k=>(match yA P (i+1) fs with
   |some ks=>some (k::ks)
   |none=>none)
  |none=>(match P.underlying f.type with
   |some (.struct b)=>(match BP P 0 b.toList with
    |some S=>if P.stoodInHeld f.type=false/\dY P f.type=some S.length/\qa P f.type=some true then(match yA P (i+S.length) fs with
     |some ks=>some (S++ks)
     |none=>none)else none
    |none=>none)
   |_=>none))else none
def eqT(P:Program)(t:TypeId):Option (List Nat):=match P.underlying t with
 |some (.struct fs)=>if P.stoodInHeld t=false/\P.eqGuardType P.depth t=false then yA P 0 fs.toList else none
 |_=>none
def IZ(P:Program)(fs:Array Field):Bool:=fs.toList.all λf=>(dY P f.type).isSome
def Am(n:Nat):List (Nat×Operand)->Option (List (Nat×Nat×bF))
 |[]=>some []
 |(i,x)::o=>match aI x,Am n o with
  |some x,some r=>some ((i*n,n,x)::r)
  |_,_=>none
def cV(P:Program):Op->Option I
 |.move x=>match aI x with|some x=>some (.mv x)|none=>none
 |.assign x=>match aI x with|some x=>some (.mv x)|none=>none
 |.pick c a b=>match aI c,aI a,aI b with|some c,some a,some b=>some (.pick c a b)|_,_,_=>none
 |.alloc T=>match rG P T with|some z=>some (.new T z)|none=>none
 |.box T x=>match aI x with|some x=>some (.box T x)|none=>none
 |.load T x=>match aI x,qa P T,dY P T with
  |some x,some true,some n=>some (.Es n x)
  |some x,some false,some _=>some (.ld1 x)
  |_,_,_=>none
 |.store T x y=>match aI x,aI y,dY P T with|some x,some y,some n=>some (.st n x y)|_,_,_=>none
 |.nilCheck x=>match aI x with|some x=>some (.kL x)|none=>none
 |.binOp op T X Y _=>match aI X,aI Y with
  |some x,some y=>match P.underlying T,op with
   |some .bool,.eql=>some (.eqb false x y)
   |some .bool,.neq=>some (.eqb true x y)
   |some (.int _),op=>some (.bin op x y)
   |some .string,op=>some (.bin op x y)
   |some (.struct _),.eql=>match eqT P T with|some ks=>some (.eqs false ks x y)|none=>none
   |some (.struct _),.neq=>match eqT P T with|some ks=>some (.eqs true ks x y)|none=>none
   |some (.pointer _),.eql=>if Wz Y then some (.PI false x)else none
   |some (.pointer _),.neq=>if Wz Y then some (.PI true x)else none
   |some (.slice _),.eql=>if Ww Y then some (.PG false x)else none
   |some (.slice _),.neq=>if Ww Y then some (.PG true x)else none
   |_,_=>none
  |_,_=>none
 |.unOp .neg _ x=>match aI x with|some x=>some (.neg x)|none=>none
 |.unOp .not _ x=>match aI x with|some x=>some (.not x)|none=>none
 |.convert S T x=>match aI x,P.underlying S,P.underlying T with|some x,some (.int _),some (.int k)=>some (.cvt k x)|_,_,_=>none
 |.fieldAddr T x f=>match aI x,P.underlying T with
  |some x,some (.struct fs)=>match fs[f]? with
   |some f=>match dY P f.type with
    |some (_+1)=>some (.B0 f.offset x)
    |_=>none
   |none=>none
  |_,_=>none
 |.field T x f=>match aI x,P.underlying T with
  |some x,some (.struct fs)=>match fs[f]? with
   |some f=>match qa P f.type,dY P f.type with
    |some true,some n=>some (.XI f.offset n x)
    |some false,some _=>some (.XJ f.offset x)
    |_,_=>none
   |none=>none
  |_,_=>none
 |.indexAddr T x i=>match aI x,aI i,P.underlying T with
  |some x,some i,some (.slice e)=>match dY P e with|some n=>some (.BU n x i)|none=>none
  |some x,some i,some (.array len e)=>match dY P e with|some n=>some (.ixr len n x i)|none=>none
  |_,_,_=>none
 |.index T x i=>match aI x,aI i,P.underlying T with
  |some x,some i,some (.array len e)=>match qa P e,dY P e with|some false,some 1=>some (.ix1 len x i)|some true,some n=>some (.ixn len n x i)|_,_=>none
  |some x,some i,some .string=>some (.ixs x i)
  |_,_,_=>none
 |.makeFunc f a b=>match dJ a.toList,dJ b.toList with|some a,some b=>some (.mkf f a b)|_,_=>none
 |.extract x i=>match aI x with|some x=>some (.ext x i)|none=>none
 |.call ⟨.builtin .len,args,ts⟩=>match args.toList,ts[0]? with
  |[x],some T=>match aI x,P.underlying T with
   |some x,some .string=>some (.lens x)
   |some x,some (.slice _)=>some (.len x)
   |_,_=>none
  |_,_=>none
 |.call ⟨.builtin .append,args,ts⟩=>match args.toList,ts.toList with
  |[x,y],[tx,ty]=>match aI x,aI y,P.underlying tx,RZ P ty with
   |some x,some y,some (.slice e),true=>match zD P e with|some (n,b)=>some (.app e n b x y)|none=>none
   |_,_,_,_=>none
  |_,_=>none
 |.build T parts=>match rG P T,P.underlying T with
  |some z,some (.struct fs)=>if IZ P fs then(match Al P fs parts.toList with|some ps=>some (.build z ps)|none=>none)else none
  |some z,some (.array _ e)=>match dY P e with
   |some n=>match Am n parts.toList with|some ps=>some (.build z ps)|none=>none
   |none=>none
  |_,_=>none
 |.buildSlice T n parts=>match P.underlying T with
  |some (.slice e)=>match zD P e,dJ (parts.toList.map (·.2))with
   |some (size,_),some xs=>if n*size<=16777216/\parts.toList.map (·.1)=List.range n then some (.Y9 e size xs)else none
   |_,_=>none
  |_=>none
 |.call ⟨.builtin .min,args,ts⟩=>match args.toList with
  |[x,y]=>match aI x,aI y with|some x,some y=>some (.min x y)|_,_=>none
  |_=>none
 |.call ⟨.builtin .max,args,ts⟩=>match args.toList with
  |[x,y]=>match aI x,aI y with|some x,some y=>some (.max x y)|_,_=>none
  |_=>none
 |.slice T x lo hi mx=>match aI x,fU lo,fU hi,fU mx,P.underlying T with
  |some x,some h,some v,some j,some (.slice e)=>match dY P e with|some n=>if mx.isNone||hi.isSome then some (.sli n x h v j)else none|none=>none
  |some x,some lo,some hi,some none,some .string=>some (.sls x lo hi)
  |_,_,_,_,_=>none
 |.call ⟨.value f,args,ts⟩=>match aI f,dJ args.toList with|some f,some args=>some (.call f args)|_,_=>none
 |_=>none
def cL(P:Program)(o:Oper)(a:Act)(w:World)(post:Value->World->Prop):Prop:=
 ∀next Q,(∀v w',post v w'->next (a.put o.dst v) w')->o.wp P a w next Q
def cL.of_run{P:Program}{o:Oper}{post:Value->World->Prop}(h:(execOp a.eval o).run P w=.ok (.value v) w')(S:post v w'):cL P o a w post:=
 λnext Q T=>by unfold Oper.wp;rw[h];exact T v w' S
def cL.Ao{P:Program}{o:Oper}{post:Value->World->Prop}(h:(execOp a.eval o).run P w=.ok .skip w')(S:post Go.undef w'):cL P o a w post:=
 λnext Q T=>by unfold Oper.wp;rw[h];exact T _ w' S
def cG:List (Nat×ah)->(Nat->bK)->Nat->bK
 |[],obj=>obj
 |(k,ob)::r,obj=>λo=>if o=k then .live ob else cG r obj o
def rA:Nat->List ah->(Nat->bK)->Nat->bK
 |_,[],obj=>obj
 |k,ob::r,obj=>λo=>if o=k then .live ob else rA (k+1) r obj o
def bB(obj:Nat->bK)(base:Nat)(e:fN):Nat->bK:=rA base e.nw (cG e.wr obj)
def aO(G:tY)(obj obj':Nat->bK)(J:Nat->Prop)(ι:fe)(w:World)(r:LV)(v:Value)(w':World):Prop:=
 ∃J' ι',aA G J' w' ι' obj'/\cW J' w' ι' r v/\Ext obj obj' J J' ι ι' w w'
section
variable {P:Program} {G:tY} {J:Nat->Prop} {w:World} {ι:fe} {obj:Nat->bK} {a:Act} {get:Nat->LV} {base:Nat}
def aO.stay(S:aA G J w ι obj){r:LV}(h:cW J w ι r v):aO G obj obj J ι w r v w:=⟨J,ι,S,h,Ext.refl ..⟩
theorem Pu{x:DV}(h:Tx v=some x):kz J w x v:=by
 cases v<;>simp only[Tx]at h<;>first
  |(cases h;rfl;done)
  |skip
 split at h
 .rename_i cs A;cases h;rw[Array.all_eq_true_iff_forall_mem]at A;refine⟨cs,rfl,?_,λv E=>A v (by grind)⟩;have:∀l:List Value,bG J w (l.map .val) l:=λl=>by
   induction l with
   |nil=>trivial
   |cons y l u=>exact⟨rfl,u⟩
  exact this _
 .cases h
def aZ(S:aA G J w ι obj)(c:∀t,cW J w ι (get t) (a.tmps.getD t Go.undef)){x:Operand}{y:bF}(h:aI x=some y):cW J w ι (y.ev G get) (a.eval x):=by
 cases x with
 |tmp t=>cases h;exact c t
 |const v=>
  simp only[aI]at h;split at h
  .rename_i x Z;cases h;exact Pu Z
  .cases h
 |global g=>
  cases h;simp only[bF.ev,Act.eval];cases u:G g with
  |none=>trivial
  |some row=>obtain⟨H,h2,_⟩:=S.uV g row u;exact⟨g,0,H,rfl,h2⟩
 |func f=>cases h;exact⟨#[],#[],rfl,trivial,trivial⟩
def tq(S:aA G J w ι obj)(c:∀t,cW J w ι (get t) (a.tmps.getD t Go.undef)):∀{xs:List Operand} {ys:List bF},dJ xs=some ys->cm J w ι (ys.map (·.ev G get)) (xs.map a.eval)
 |[],ys,h=>by cases h;trivial
 |x::xs,ys,h=>by
  simp only[dJ]at h;split at h
  .rename_i y o H h2;cases h;exact⟨aZ S c H,tq S c h2⟩
  .cases h
def bG.zX{cs:List DV}(h:bG J w cs vs)(k:∀v∈vs,v.oneCell'=true):bx J w ι (cs.map .d) vs:=bx.ofL h.CV k
def pY{x:LV}(h:cW J w ι x v)(U:x.cells=some cs):bx J w ι cs v.cells.toList:=by
 cases x with
 |top=>cases U
 |ec=>cases U;obtain⟨b,rfl⟩:=h;exact⟨rfl,⟨b,rfl⟩,trivial⟩
 |d x=>
  cases x with
  |val u=>
   simp only[LV.cells]at U;split at U
   .rename_i H;cases U;have E:=h;subst E;have:v.cells=#[v]:=by cases v<;>first|rfl|(simp[Value.oneCell']at H;done)
    rw[this];exact⟨H,rfl,trivial⟩
   .cases U
  |cM aJ rows=>cases U;obtain⟨a,n,cap,rfl,h⟩:=h;exact⟨rfl,⟨a,n,cap,rfl,h⟩,trivial⟩
  |fn f fs cs=>cases U;obtain⟨m,q,rfl,h⟩:=h;exact⟨rfl,⟨m,q,rfl,h⟩,trivial⟩
  |gR t y=>cases U;obtain⟨z,rfl,h⟩:=h;exact⟨rfl,⟨z,rfl,h⟩,trivial⟩
  |agg ds=>simp only[LV.cells]at U;cases U;obtain⟨xs,rfl,H,h2⟩:=h;exact bG.zX H h2
 |ptr o c=>cases U;obtain⟨b,V,rfl⟩:=h;exact⟨rfl,⟨b,V,rfl⟩,trivial⟩
 |mr o=>cases U;obtain⟨b,V,rfl⟩:=h;exact⟨rfl,⟨b,V,rfl⟩,trivial⟩
 |rp o n e r c=>cases U;obtain⟨b,V,rfl⟩:=h;exact⟨rfl,⟨b,V,rfl⟩,trivial⟩
 |ip r c=>cases U;obtain⟨b,off,V,rfl,h⟩:=h;exact⟨rfl,⟨b,off,V,rfl,h⟩,trivial⟩
 |sl o n e l k=>
  cases U;have j:=h;rcases h with ⟨_,a,rfl⟩|⟨b,cap,et,C,_,rfl,_⟩
  .exact ⟨rfl,j,trivial⟩
  .exact ⟨rfl,j,trivial⟩
 |fn f fs cs=>cases U;obtain⟨m,q,rfl,h⟩:=h;exact⟨rfl,⟨m,q,rfl,h⟩,trivial⟩
 |agg cs=>cases U;obtain⟨xs,rfl,h⟩:=h;exact h
 |cZ vs=>cases U
 |gR t y=>cases U;obtain⟨z,rfl,h⟩:=h;exact⟨rfl,⟨z,rfl,h⟩,trivial⟩
 |yl o=>cases U
theorem cH{t:TypeId}(h:dY P t=some n):∃i,P.info? t=some i/\i.size=n:=by
 unfold dY at h;split at h
 .grind
 .cases h
theorem xL{t:TypeId}{z:List DV}(h:rG P t=some z):∃v:Value,(zeroValue t).run P w=.ok v w/\bx J w ι (z.map .d) v.cells.toList:=by
 unfold rG at h;split at h
 .rename_i i hi;split at h
  .rename_i v E;split at h
   .rename_i A;cases h;refine⟨v,by simp[zeroValue,typeInfo,hi,E],bG.zX ?_ ?_⟩
    .have:∀l:List Value,bG J w (l.map .val) l:=λl=>by
      induction l with
      |nil=>trivial
      |cons y l u=>exact⟨rfl,u⟩
     exact this _
    .rw [Array.all_eq_true_iff_forall_mem]at A;exactλv E=>A v (by grind)
   .cases h
  .cases h
 .cases h
theorem nW{t:TypeId}{b:Bool}(h:qa P t=some b):(isAgg t).run P w=.ok b w:=by
 unfold qa at h;unfold isAgg;cases m:P.underlying t with
 |none=>grind
 |some d=>rw[Sem.run_bind,run_underlying m w];rw[m]at h;cases d<;>first|(cases h;rfl)
theorem aO.box(S:aA G J w ι obj)(V:obj base=.free)(et:TypeId)(cells:List LV)(C:Array Value)(h:bx J w ι cells C.toList) :
  aO G obj (λo=>if o=base then .live (.box et cells)else obj o) J ι w (.ptr base 0) (.pointer (some ⟨w.heap.size,0,none⟩)) (w.alloc (.cells C et)):=by
 have x:∀n,ι base n=none:=by have:=S.rep base;rw[V]at this;exact this
 let ι':fe:=λo n=>if o=base then(if n=0 then some w.heap.size else none)else ι o n
 have hi:∀o n b,ι o n=some b->ι' o n=some b:=λo n b K=>by grind
 have E:Ev (Own ι obj) J J ι ι' w (w.alloc (.cells C et)):=Ev.alloc _ _ w w.drawn _ hi;have c:=aA.jC S base (.live (.box et cells)) E (λo O n=>by grind) (λb q _=>dB w _ b q)
  ⟨⟨w.heap.size,C,by simp[ι'],cE w _,h.ev S E⟩,trivial⟩ (λb K=>by have:ι' base 0=some b:=K;simp[ι']at this;exact .inr (by omega))
 exact⟨J,ι',c.1,⟨w.heap.size,by simp[ι'],rfl⟩,c.2⟩
theorem aO.dat(S:aA G J w ι obj)(V:obj base=.free)(et:TypeId)(aJ:Nat)(rows:List (List DV))(C:Array Value)(n:Nat)(cap:Nat)(k:rows.length<=cap)(B:cap*aJ<=C.size)
  (h:∀ι':fe,Ev (Own ι obj) J J ι ι' w ({ w with drawn:=n }.alloc (.cells C et))->bq J ({ w with drawn:=n }.alloc (.cells C et)) aJ rows w.heap.size 0) :
  aO G obj (λo=>if o=base then .live (.dat et aJ rows)else obj o) J ι w (.sl base rows.length aJ 0 rows.length) (.slice (some ⟨w.heap.size,0,none⟩) rows.length cap) ({ w with drawn:=n }.alloc (.cells C et)):=by
 have x:∀n,ι base n=none:=by have:=S.rep base;rw[V]at this;exact this
 let ι':fe:=λo n=>if o=base then(if n=rows.length then some w.heap.size else none)else ι o n
 have hi:∀o n b,ι o n=some b->ι' o n=some b:=λo n b K=>by grind
 have E:Ev (Own ι obj) J J ι ι' w ({ w with drawn:=n }.alloc (.cells C et)):=Ev.alloc _ _ w n _ hi;have e:({ w with drawn:=n }.alloc (.cells C et)).heap[w.heap.size]? = some (.cells C et (0,0)):=cE { w with drawn:=n } _;have c:=aA.jC S base (.live (.dat et aJ rows)) E (λo O n=>by grind) (λb q _=>dB { w with drawn:=n } _ b q)
  ⟨⟨.inr (by simp[ι']),λb K=>by simp[ι']at K;subst K;exact⟨⟨C,e⟩,h ι' E⟩⟩,λm u=>by grind⟩
  (λb K=>by have:ι' base rows.length=some b:=K;simp[ι']at this;exact .inr (by omega))
 refine⟨J,ι',c.1,.inr ⟨w.heap.size,cap,et,C.size,by simp[ι'],by simp,k,?_,by grind⟩,c.2⟩;simp only[shape?,e]
def aO.x_(S:aA G J w ι obj){cells:List LV}(O:obj o=.live (.box et cells))(h:bx J w ι cs vs)(y:col+cs.length<=cells.length) :
  ∃b,ι o 0=some b/\w.there b col vs.length/\aO G obj (λk=>if k=o then .live (.box et (splice cells col cs))else obj k) J ι w .undef Go.undef (w.setCells b col vs):=by
 have h0:=S.rep o;rw[O]at h0;obtain⟨⟨b,C,H,h2,K⟩,_⟩:=h0;have hlen:C.size=cells.length:=by rw[K.length];simp
 have U:Own ι obj b:=⟨o,by rw[O];exact H⟩;have E:=Ev.setCells J w b col vs U (λ_ _ _ h=>h);obtain⟨D,k1,k2⟩:=fZ vs col w C h2 (by rw[<- h.length];omega);refine⟨b,H,λj hj=>?_,?_⟩
 .have:col+j<C.size:=by rw[<- h.length]at hj;omega
  simp[cell?,frozen?,h2,this]
 .have c:=aA.jC S o (.live (.box et (splice cells col cs))) E (λ_ _ _=>rfl) (λk hk T=>heap_setCells_other (λe=>T (by rw[O,e];exact H)) vs col w)
   ⟨⟨b,D,H,k1,by rw[k2];exact(K.splice col h).ev S E⟩,trivial⟩ (λk hk=>.inl (by rw[O];exact hk))
  exact⟨J,ι,c.1,rfl,c.2⟩
theorem Hl{α:Type}{l xs:List α}(h:o+xs.length<=n)(T:n<=l.length):(splice l o xs).take n=splice (l.take n) o xs:=by unfold splice;rw[take_take,Nat.min_eq_left (by omega),take_append,take_of_length_le (l:=l.take o++xs) (by grind),drop_take];simp;omega
theorem aO.abj(S:aA G J w ι obj){v:Nat}{cells:List LV}(O:obj o=.live (.lr et aJ v cells))(h:bx J w ι cs vs)(y:col+cs.length<=cells.length)(x:(ι o v).isSome=true) :
  ∃b,ι o v=some b/\w.there b col vs.length/\aO G obj (λk=>if k=o then .live (.lr et aJ v (splice cells col cs))else obj k) J ι w .undef Go.undef (w.setCells b col vs):=by
 have h0:=S.rep o;rw[O]at h0;obtain⟨⟨b,C,H,h2,q,K⟩,m⟩:=And.intro (h0.1.resolve_left λe=>by grind) h0.2;have U:Own ι obj b:=⟨o,by rw[O];exact H⟩;have E:=Ev.setCells J w b col vs U (λ_ _ _ h=>h);have t:=h.length;obtain⟨D,k1,k2⟩:=fZ vs col w C h2 (by omega);have n:=LA _ _ _ y;have r:D.size=C.size:=by have:=congrArg length k2;rw[LA _ _ _ (by grind)]at this;simpa using this
 refine⟨b,H,λj hj=>?_,?_⟩
 .have:col+j<C.size:=by omega
  simp[cell?,frozen?,h2,this]
 .have c:=aA.jC S o (.live (.lr et aJ v (splice cells col cs))) E (λ_ _ _=>rfl) (λk hk T=>heap_setCells_other (λe=>T (by rw[O,e];exact H)) vs col w)
   ⟨.inr ⟨b,D,H,k1,by omega,by rw[n,k2,Hl (by omega) (by grind)];exact(K.splice col h).ev S E⟩,m⟩ (λk hk=>.inl (by rw[O];exact hk))
  exact⟨J,ι,c.1,rfl,c.2⟩
theorem aO.lr(S:aA G J w ι obj)(V:obj base=.free)(et:TypeId)(aJ:Nat)(cells:List LV)(C:Array Value)(n len cap:Nat)(k:len<=cap)(B:cap*aJ<=C.size)(D:cells.length<=C.size)(h:bx J w ι cells (C.toList.take cells.length)) :
  aO G obj (λo=>if o=base then .live (.lr et aJ 0 cells)else obj o) J ι w (.sl base 0 aJ 0 len) (.slice (some ⟨w.heap.size,0,none⟩) len cap) ({ w with drawn:=n }.alloc (.cells C et)):=by
 have x:∀n,ι base n=none:=by have:=S.rep base;rw[V]at this;exact this
 let ι':fe:=λo n=>if o=base then(if n=0 then some w.heap.size else none)else ι o n
 have hi:∀o n b,ι o n=some b->ι' o n=some b:=λo n b K=>by grind
 have E:Ev (Own ι obj) J J ι ι' w ({ w with drawn:=n }.alloc (.cells C et)):=Ev.alloc _ _ w n _ hi;have e:({ w with drawn:=n }.alloc (.cells C et)).heap[w.heap.size]? = some (.cells C et (0,0)):=cE { w with drawn:=n } _;have c:=aA.jC S base (.live (.lr et aJ 0 cells)) E (λo O n=>by grind) (λb q _=>dB { w with drawn:=n } _ b q)
  ⟨.inr ⟨w.heap.size,C,by simp[ι'],e,D,h.ev S E⟩,λm u=>by grind⟩
  (λb K=>by have:ι' base 0=some b:=K;simp[ι']at this;exact .inr (by omega))
 refine⟨J,ι',c.1,.inr ⟨w.heap.size,cap,et,C.size,by simp[ι'],by simp,k,?_,by grind⟩,c.2⟩;simp only[shape?,e]
theorem aA.setRow(S:aA G J w ι obj){b:Nat}{C:Array Value}(U:Own ι obj b)(h2:w.heap[b]? = some (.cells C et (0,0)))(K:bq J w aJ rows b 0)(hr:rows[row]? = some r)
  (h:bG J w ds vs) (h1':∀v∈vs,v.oneCell'=true) (k:col+ds.length<=r.length) :
  w.there b (row*aJ+col) vs.length/\bq J (w.setCells b (row*aJ+col) vs) aJ (rows.set row (splice r col ds)) b 0/\∃D,(w.setCells b (row*aJ+col) vs).heap[b]? = some (.cells D et (0,0)):=by
 have E:Ev (Own ι obj) J J ι ι w (w.setCells b (row*aJ+col) vs):=Ev.setCells J w b _ vs U (λ_ _ _ h=>h);obtain⟨hrl,hrow⟩:=K.get hr;simp at hrow;have c:∀j,j<r.length->(w.cell? ⟨b,row*aJ+j,none⟩).isSome=true:=λj hj=>by obtain⟨v,q,_⟩:=hrow.get (getElem?_eq_getElem hj);rw[q];rfl
 have B:w.there b (row*aJ+col) vs.length:=λj hj=>by rw[<- h.length]at hj;have:=c (col+j) (by omega);rw[<- Nat.add_assoc]at this;refine⟨this,?_⟩;simp[frozen?,h2]
 have V:∀x:Addr,x.block=b->(x.off<row*aJ+col\/row*aJ+col+vs.length<=x.off)->(w.setCells b (row*aJ+col) vs).cell? x=w.cell? x:=λx Z hj=>cell?_setCells_out b vs _ w x (λ_ _=>hj)
 have n:=rangeAt_setCells_same w b (row*aJ+col) vs B;have aaz:=S.same E
 have t:bq J (w.setCells b (row*aJ+col) vs) aJ (rows.set row (splice r col ds)) b 0:=by
  refine bq.of (λi x Z=>?_);simp;by_cases hi:i=row
  .subst hi;have T:=(List.getElem?_eq_some_iff.1 hr).1;rw[getElem?_set_self T]at Z;cases Z;refine⟨by rw[LA _ _ _ (by omega)];exact hrl,?_⟩;obtain⟨us,u1,u2,u3⟩:=hrow.vals;have H:=u1.length.symm;refine dV.of (vs:=splice us col vs) ?_ ?_ ?_
   .have X:bx J w ι (splice (r.map .d) col (ds.map .d)) (splice us col vs):=bx.splice col (bG.zX u1 u2) (bG.zX h h1');have O:splice (r.map LV.d) col (ds.map LV.d)=(splice r col ds).map .d:=by simp[splice]
    rw[O]at X;have e3:=(X.ev S E).CV;have:∀(xs:List DV) (vs:List Value),cm J (w.setCells b (i*aJ+col) (vs:List Value)) ι (xs.map .d) vs->True:=λ_ _ _=>trivial
    have back:∀{w0:World} (xs:List DV) (ys:List Value),cm J w0 ι (xs.map .d) ys->bG J w0 xs ys:=λ{w0} xs=>by
     induction xs with
     |nil=>intro ys h;cases ys with
      |nil=>trivial
      |cons _ _=>exact h.elim
     |cons x xs u=>intro ys h;cases ys with
      |nil=>exact h.elim
      |cons y ys=>exact⟨h.1,u ys h.2⟩
    exact back _ _ e3
   .intro v q;have X:bx J w ι (splice (r.map .d) col (ds.map .d)) (splice us col vs):=bx.splice col (bG.zX u1 u2) (bG.zX h h1');exact X.one v q
   .intro j v q;by_cases hj1:j<col
    .rw [V _ rfl (.inl (by grind))];refine u3 j v ?_;rw[<- q];simp only[splice,append_assoc];rw[getElem?_append_left (by grind),getElem?_take_of_lt hj1]
    .by_cases hj2:j<col+vs.length
     .have:=n (j-col) v (by
       rw[<- q];simp only[splice];rw[getElem?_append_left (by grind),getElem?_append_right (by grind)];congr 1;simp;omega)
      rwa [show i*aJ+col+(j-col)=i*aJ+j by omega]at this
     .rw [V _ rfl (.inr (by grind))];refine u3 j v ?_;rw[<- q];simp only[splice];rw[getElem?_append_right (by grind),getElem?_drop];congr 1;simp;omega
  .rw [getElem?_set_ne (λe=>hi e.symm)]at Z;obtain⟨k1,k2⟩:=K.get Z;refine⟨k1,?_⟩;simp at k2;obtain⟨us,u1,u2,u3⟩:=k2.vals;have o:=h.length.symm;refine dV.of (vs:=us) (bG.mono (λ_ h=>h) aaz _ _ u1) u2 (λj v q=>?_);have hj:=(List.getElem?_eq_some_iff.1 q).1;rw[<- u1.length,k1]at hj;rw[V _ rfl ?_]
   .exact u3 j v q
   .show i*aJ+j<_\/_<=i*aJ+j;rcases Nat.lt_or_gt_of_ne hi with m|hgt
    .left;have:(i+1)*aJ<=row*aJ:=Nat.mul_le_mul_right _ m;rw[Nat.add_mul]at this;omega
    .right;have:(row+1)*aJ<=i*aJ:=Nat.mul_le_mul_right _ hgt;rw[Nat.add_mul]at this;omega
 refine⟨B,t,?_⟩;have hs:row*aJ+col+vs.length<=C.size\/vs.length=0:=by
  rcases Nat.eq_zero_or_pos vs.length with A|A
  .grind
  .left;have:=(B (vs.length-1) (by omega)).1;simp only[cell?,h2]at this;simp at this;omega
 rcases hs with hs|hs
 .obtain ⟨D,k1,_⟩:=fZ vs _ w C h2 hs;exact⟨D,k1⟩
 .have:vs=[]:=by simpa using hs
  subst this;exact⟨C,h2⟩
theorem aO.ZB(S:aA G J w ι obj)(O:obj o=.live (.dat et aJ rows))(hr:rows[row]? = some r)
  (h:bG J w ds vs) (V:∀v∈vs,v.oneCell'=true) (y:col+ds.length<=r.length) :
  ∃b,ι o rows.length=some b/\w.there b (row*aJ+col) vs.length/\
   aO G obj (λk=>if k=o then .live (.dat et aJ (rows.set row (splice r col ds)))else obj k) J ι w .undef Go.undef (w.setCells b (row*aJ+col) vs):=by
 have h0:=S.rep o;rw[O]at h0;obtain⟨⟨j,q⟩,m⟩:=h0;have x:rows≠[]:=by grind
 obtain⟨b,H⟩:=Option.isSome_iff_exists.1 (j.resolve_left x);obtain⟨⟨C,h2⟩,K⟩:=q b H;have U:Own ι obj b:=⟨o,by rw[O];exact H⟩;have E:Ev (Own ι obj) J J ι ι w (w.setCells b (row*aJ+col) vs):=Ev.setCells J w b _ vs U (λ_ _ _ h=>h);obtain⟨B,t,D,k1⟩:=aA.setRow S U h2 K hr h V y;refine⟨b,H,B,?_⟩;have c:=aA.jC S o (.live (.dat et aJ (rows.set row (splice r col ds)))) E (λ_ _ _=>rfl) (λk hk T=>heap_setCells_other (λe=>T (by rw[O,e];exact H)) vs _ w)
  ⟨⟨.inr (by simp[H]),λk hk=>by rw[length_set,H]at hk;cases hk;exact⟨⟨D,k1⟩,t⟩⟩,λn T=>by grind⟩
  (λk hk=>.inl (by rw[O];simp only[bK.own,ah.own,length_set]at hk ⊢;exact hk))
 exact⟨J,ι,c.1,rfl,c.2⟩
theorem aO.ZC(S:aA G J w ι obj){bs:List (List (List DV))}(O:obj o=.live (.l_ et bs))(T:bs[n]? = some rows)(hr:rows[row]? = some r)
  (h:bG J w ds vs) (V:∀v∈vs,v.oneCell'=true) (y:col+ds.length<=r.length) :
  ∃b,ι o n=some b/\w.there b (row*1+col) vs.length/\
   aO G obj (λk=>if k=o then .live (.l_ et (bs.set n (rows.set row (splice r col ds))))else obj k) J ι w .undef Go.undef (w.setCells b (row*1+col) vs):=by
 have h0:=S.rep o;rw[O]at h0;obtain⟨⟨A,Z⟩,m⟩:=h0;obtain⟨b,C,H,h2,K⟩:=A n rows T;have q:=(List.getElem?_eq_some_iff.1 T).1;have j:(obj o).own ι o b:=by rw[O];exact⟨n,q,H⟩
 have U:Own ι obj b:=⟨o,j⟩;have E:Ev (Own ι obj) J J ι ι w (w.setCells b (row*1+col) vs):=Ev.setCells J w b _ vs U (λ_ _ _ h=>h);obtain⟨B,t,D,k1⟩:=aA.setRow S U h2 K hr h V y;refine⟨b,H,B,?_⟩;have c:=aA.jC S o (.live (.l_ et (bs.set n (rows.set row (splice r col ds))))) E (λ_ _ _=>rfl) (λk hk T=>heap_setCells_other (λe=>T (by grind)) vs _ w)
  ⟨⟨λk rs hk=>by
    by_cases hkn:k=n
    .grind
    .rw [getElem?_set_ne (λe=>hkn e.symm)]at hk;obtain⟨u,x,j1,j2,j3⟩:=A k rs hk;have X:u≠b:=λe=>hkn (Z k n b (by grind) H)
     have hs:=heap_setCells_other X vs (row*1+col) w;exact⟨u,x,j1,by grind,j3.ev S E hs⟩,Z⟩,λk hk=>by grind⟩
  (λk hk=>.inl (by rw[O];simp only[bK.own,ah.own,length_set]at hk ⊢;exact hk))
 exact⟨J,ι,c.1,rfl,c.2⟩
end
end
section
variable{rows:List (List DV)}{aJ b o m v0:Nat}{et tx t ty:TypeId}{fr:Nat×Nat}{y:LV}{v x:Value}{news:List Value}
section
variable {P:Program} {G:tY} {J:Nat->Prop} {w w':World} {ι:fe} {obj:Nat->bK} {a:Act} {get:Nat->LV} {base:Nat}
def bG.append:∀{xs ys:List DV} {vs us:List Value},bG J w xs vs->bG J w ys us->bG J w (xs++ys) (vs++us)
 |[],ys,[],us,_,h=>h
 |x::xs,ys,v::vs,us,h,k=>⟨h.1,bG.append h.2 k⟩
 |[],_,_::_,_,h,_=>h.elim
 |_::_,_,[],_,h,_=>h.elim
def bq.rowLen{b aJ:Nat} : ∀{rs:List (List DV)} {off:Nat},bq J w aJ rs b off->∀r∈rs,r.length=aJ
 |[],_,_,r,h=>by cases h
 |x::xs,off,h,r,hr=>by
  rcases mem_cons.1 hr with rfl|hr
  .exact h.1
  .exact bq.rowLen h.2.2 r hr
def bq.wm{vs:List Value}{C:Array Value}(h:bG J w rows.flatten vs)(H:∀v∈vs,v.oneCell'=true)(y:∀r∈rows,r.length=aJ)
  (V:w.heap[b]? = some (.cells C et fr)) (B:∀(j:Nat) (v:Value),vs[j]? = some v->C[j]? = some v):bq J w aJ rows b 0:=by
 refine bq.Fy y (dV.of h H (λj v E=>?_));rw[Nat.zero_add,cell_of_row w b j C et fr V];exact B j v E
theorem oD(y:∀r∈rows,r.length=aJ):rows.flatten.length=rows.length*aJ:=by
 induction rows with
 |nil=>simp
 |cons r rs u=>grind
theorem j_{C:Array Value}(h:w.heap[b]? = some (.cells C et fr))(col n:Nat):w.rangeAt b col ((C.toList.drop col).take n):=λj v E=>by
 rw[cell_of_row w b (col+j) C et fr h];rw[getElem?_take]at E;split at E
 .grind
 .cases E
theorem m_:∀{cs:List LV} {ds:List DV} {vs:List Value},LV.rz cs=some ds->cm J w ι cs vs->bG J w ds vs:=by
 have one:∀(n:Nat),(∀(x:LV) (d:DV) (v:Value),sizeOf x<n->LV.VC x=some d->cW J w ι x v->kz J w d v)/\
   (∀(xs:List LV) (ds:List DV) (vs:List Value),sizeOf xs<n->LV.rz xs=some ds->cm J w ι xs vs->bG J w ds vs):=by
  intro n
  induction n with
  |zero=>grind
  |succ n u=>
   refine⟨λx d v hs h hr=>?_,λxs ds vs hs h hr=>?_⟩
   .cases x with
    |d x=>simp only[LV.VC]at h;cases h;exact hr
    |fn f p q=>
     simp only[LV.VC]at h;split at h
     .rename_i p' e H h2;cases h;obtain⟨fs,cs,rfl,k1,k2⟩:=hr;simp at hs;exact⟨fs,cs,rfl,u.2 _ _ _ (by omega) H k1,u.2 _ _ _ (by omega) h2 k2⟩
     .cases h
    |gR t y=>
     simp only[LV.VC]at h;split at h
     .rename_i b H;cases h;obtain⟨z,rfl,k1⟩:=hr;simp at hs;exact⟨z,rfl,u.1 _ _ _ (by omega) H k1⟩
     .cases h
    |_=>simp[LV.VC]at h
   .cases xs with
    |nil=>
     simp only[LV.rz]at h;cases h;cases vs with
     |nil=>trivial
     |cons _ _=>exact hr.elim
    |cons x xs=>
     simp only[LV.rz]at h;split at h
     .rename_i d c H h2;cases h;cases vs with
      |nil=>exact hr.elim
      |cons v vs=>simp at hs;exact⟨u.1 _ _ _ (by omega) H hr.1,u.2 _ _ _ (by omega) h2 hr.2⟩
     .cases h
 intro cs ds vs h hr;exact(one (sizeOf cs+1)).2 cs ds vs (by omega) h hr
theorem Jm{cells:List LV}{C:Array Value}{lo len:Nat}{ds:List DV}(h:bx J w ι cells C.toList)(K:w.heap[b]? = some (.cells C et fr))(hd:LV.rz ((cells.drop lo).take len)=some ds):bq J w 1 (ds.map λx=>[x]) b lo:=by
 have u:=(h.drop lo).take len;have y:=dV.of (m_ hd u.CV) u.one (j_ K lo len);have V:∀l:List DV,(l.map λx=>[x]).flatten=l:=λl=>by induction l with|nil=>rfl|cons x l c=>simp[c]
 refine bq.Fy (λr hr=>?_) (by grind);obtain⟨x,_,rfl⟩:=mem_map.1 hr;rfl
def vH:∀{cs:List LV} {ds:List DV},LV.rz cs=some ds->ds.length=cs.length
 |[],ds,h=>by simp only[LV.rz]at h;cases h;rfl
 |x::xs,ds,h=>by
  simp only[LV.rz]at h;split at h
  .rename_i d c H h2;cases h;simp[vH h2]
  .cases h
theorem xY(S:aA G J w ι obj){new:List (List DV)}{rd:List Nat}(hk:(∃A,P.underlying tx=some (.slice A))\/P.underlying tx=some .string)
  (h:bg obj aJ y=some (new,rd)) (B:cW J w ι y v) :
  ∃news,Src P aJ tx v new.length news w/\bG J w new.flatten news/\(∀r∈new,r.length=aJ):=by
 have FY:∀(b off n cap:Nat),n=new.length->bq J w aJ new b off->∃news,Src P aJ tx (.slice (some ⟨b,off,none⟩) n cap) new.length news w/\bG J w new.flatten news/\(∀r∈new,r.length=aJ):=by
  intro b off n cap T hr;subst T;obtain⟨k1,k2⟩:=hr.flat;obtain⟨vs,v1,v2,v3⟩:=k1.vals;have hcell:∀j u,vs[j]? = some u->w.cell? ((⟨b,off,none⟩:Addr).add j)=some u:=λj u m=>by rw[Addr.add_mid];exact v3 j u m
  have hlen:vs.length=new.length*aJ:=by rw[<- v1.length,k2]
  exact⟨vs,⟨hk,λ_=>rfl,run_firstCells_some w aJ _ _ _ cap vs hlen hcell,run_firstCells_some w.drew aJ _ _ _ cap vs hlen (by simp_all),hlen,v2⟩,v1,hr.rowLen⟩
 have ZP:∀(a:Option Addr) (cap:Nat),new=[]->∃news,Src P aJ tx (.slice a 0 cap) new.length news w/\bG J w new.flatten news/\(∀r∈new,r.length=aJ):=by
  intro a cap T;subst T;refine⟨[],?_,trivial,λ_ h=>by cases h⟩;cases a with
  |none=>exact⟨hk,λ_=>rfl,run_firstCells_none w aJ 0 0 cap,run_firstCells_none w.drew aJ 0 0 cap,by simp,λ_ h=>by cases h⟩
  |some a=>exact⟨hk,λ_=>rfl,run_firstCells_some w aJ 0 a 0 cap [] (by simp) (λj u m=>by simp at m),run_firstCells_some w.drew aJ 0 a 0 cap [] (by simp) (λj u m=>by simp at m),by simp,λ_ h=>by cases h⟩
 cases y with
 |d x=>
  cases x with
  |cM e rows=>
   simp only[bg]at h;split at h
   .rename_i X;cases h;subst X;obtain⟨a,n,cap,rfl,T,U,hr⟩:=B;rcases hr with hr|⟨b,off,rfl,V,hr⟩
    .simp_all
    .simp_all
   .cases h
  |val u=>
   have hvu:=B;subst hvu;cases v with
   |slice sa n c=>
    cases sa with
    |some _=>simp[bg]at h
    |none=>
     cases n with
     |succ _=>simp[bg]at h
     |zero=>
      cases c with
      |succ _=>simp[bg]at h
      |zero=>simp[bg]at h;exact ZP none 0 h.1
   |string s=>
    simp only[bg]at h;split at h
    .rename_i X;cases h;subst X;have hbc:=byteCells_length s;have hlen:(s.data.toList.map λb=>[DV.val (Value.int IntKind.u8 (b.toNat:Int))]).length=s.size:=by simp
     refine⟨byteCells s,?_,?_,?_⟩
     .rw [hlen];exact⟨hk,λ_=>rfl,firstCells_string s w,firstCells_string s w.drew,by grind,λu m=>by obtain⟨_,_,rfl⟩:=mem_map.1 m;rfl⟩
     .have:∀l:List UInt8,bG J w (l.map λb=>[DV.val (Value.int IntKind.u8 (b.toNat:Int))]).flatten (l.map λb=>Value.int .u8 b.toNat):=λl=>by
       induction l with
       |nil=>trivial
       |cons x l E=>exact⟨rfl,E⟩
      exact this _
     .grind
    .cases h
   |_=>simp[bg]at h
  |fn f a b=>simp[bg]at h
  |gR t y=>simp[bg]at h
  |agg cs=>simp[bg]at h
 |sl o n e lo len=>
  simp only[bg]at h;have D:=S.rep o;split at h
  .rename_i et A rows O;split at h
   .rename_i U;obtain⟨rfl,rfl,rfl,q⟩:=U;cases h;rw[O]at D;obtain⟨⟨hs,hd⟩,_⟩:=D;have Lu:((rows.drop lo).take len).length=len:=by grind
    rcases B with ⟨rfl,a,rfl⟩|⟨b,cap,et',C,V,rfl,k,_,_⟩
    .simp_all
    .exact FY b (lo*_) len cap Lu.symm (by have:=((hd b V).2.drop lo).take len;simpa using this)
   .cases h
  .rename_i et A rows O;split at h
   .rename_i U;obtain⟨rfl,rfl,rfl,q⟩:=U;cases h;rw[O]at D;obtain⟨⟨hs,hd⟩,_⟩:=D;have Lu:((rows.drop lo).take len).length=len:=by grind
    rcases B with ⟨rfl,a,rfl⟩|⟨b,cap,et',C,V,rfl,k,_,_⟩
    .simp_all
    .exact FY b (lo*_) len cap Lu.symm (by have:=((hd b V).2.drop lo).take len;simpa using this)
   .cases h
  .rename_i et cells O;split at h
   .rename_i U;obtain⟨rfl,rfl,rfl,q⟩:=U;split at h
    .rename_i ds hds;cases h;rw[O]at D;obtain⟨⟨Z,C,H,h2,K⟩,_⟩:=D;have Lu:(ds.map λx=>[x]).length=len:=by rw[length_map,vH hds];simp;omega
     rcases B with ⟨rfl,a,rfl⟩|⟨b,cap,et',C',V,rfl,k,_,_⟩
     .simp_all
     .rw [H]at V;cases V;exact FY Z (lo*1) len cap Lu.symm (by rw[Nat.mul_one];exact Jm K h2 hds)
    .cases h
   .cases h
  .rename_i et bs O;split at h
   .rename_i U;obtain⟨rfl,rfl⟩:=U;split at h
    .rename_i rows T;split at h
     .rename_i q;cases h;rw[O]at D;obtain⟨Z,C,H,h2,K⟩:=D.1.1 n rows T;have Lu:((rows.drop lo).take len).length=len:=by grind
      rcases B with ⟨rfl,a,rfl⟩|⟨b,cap,et',C',V,rfl,k,_,_⟩
      .simp_all
      .rw [H]at V;cases V;exact FY Z (lo*_) len cap Lu.symm (by have:=(K.drop lo).take len;simpa using this)
     .cases h
    .cases h
   .cases h
  .cases h
 |top=>simp[bg]at h
 |ec=>simp[bg]at h
 |ptr o c=>simp[bg]at h
 |rp o n e r c=>simp[bg]at h
 |ip r c=>simp[bg]at h
 |fn f a b=>simp[bg]at h
 |agg cs=>simp[bg]at h
 |cZ cs=>simp[bg]at h
 |gR t y=>simp[bg]at h
 |yl o=>simp[bg]at h
 |mr o=>simp[bg]at h
def sU{cap bytes:Nat}(h:cap<b)(V:b*bytes<=70368744177664):Builtin.nextslicecap b cap*bytes<=281474976710656:=by have H:=nextslicecap_le h;have h2:Builtin.nextslicecap b cap*bytes<=2*b*bytes:=Nat.mul_le_mul_right _ H;rw[Nat.mul_assoc]at h2;omega
theorem aO.aaI(S:aA G J w ι obj)(V:obj base=.free){i:TypeInfo}{z:Value}{new:List (List DV)}(B:P.underlying t=some (.slice et))(hi:P.info? et=some i)(A:i.zero=some z)
  (hzs:z.cells.size=i.size) (H:0<i.bytes)
  (k:Src P i.size tx v new.length news w) (D:bG J w new.flatten news) (X:∀r∈new,r.length=i.size) (e:new.length*i.bytes<=70368744177664) :
  ∃u w',(Builtin.append_ #[t,tx] ty #[.slice none 0 0,v]).run P w=.ok u w'/\
   aO G obj (λo=>if o=base then .live (.dat et i.size new)else obj o) J ι w (.sl base new.length i.size 0 new.length) u w':=by
 rcases Nat.eq_zero_or_pos new.length with h0|h0
 .have T:new=[]:=by simpa using h0
  subst T;have O:news=[]:=by have:=k.newsLen;simpa using this
  subst O;refine⟨.slice none 0 0,w,run_append_nothing w t tx ty et i B hi none 0 0 (Nat.le_refl _) v k,?_⟩;have x:∀n,ι base n=none:=by have:=S.rep base;rw[V]at this;exact this
  have c:=aA.jC S base (.live (.dat et i.size [])) (Ev.refl (Own ι obj) J ι w) (λ_ _ _=>rfl) (λ_ _ _=>rfl)
   ⟨⟨.inl rfl,λb V=>by grind⟩,λn _=>x n⟩ (λb V=>by have:ι base 0=some b:=V;rw[x]at this;cases this)
  exact⟨J,ι,c.1,.inl ⟨rfl,none,rfl⟩,c.2⟩
 .have q:0<0+new.length:=by omega
  have Z:((0+new.length:Nat):Int)<=9223372036854775807:=by have:new.length*1<=new.length*i.bytes:=Nat.mul_le_mul_left _ H;omega
  have K:=run_append_grow_src w t tx ty et i z B hi A none 0 0 [] (run_firstCells_none w.drew i.size 0 0 0) v new.length news k q Z (sU q (by grind));have hge:=grownCap_ge w (0+new.length) 0 et;refine⟨_,_,K,?_⟩;simp at *;have y:=k.newsLen;have U:(news.toArray++Builtin.zeroCells z.cells (grownCap w new.length 0 et-new.length)).size=grownCap w new.length 0 et*i.size:=by simp only[Array.size_append,size_toArray,size_zeroCells,hzs,y,<- Nat.add_mul];congr 1;omega
  refine aO.dat S V et i.size new _ (w.drawn+1) (grownCap w new.length 0 et) hge (by grind) (λι' E=>?_);refine bq.wm (bG.mono (λ_ h=>h) (S.same E) _ _ D) k.one X (cE { w with drawn:=w.drawn+1 } _) (λj u m=>?_);have hj:=(List.getElem?_eq_some_iff.1 m).1;rw[Array.getElem?_append_left (by grind)];simpa using m
theorem aO.aaH(S:aA G J w ι obj){i:TypeInfo}{z:Value}{new:List (List DV)}(O:obj o=.live (.dat et i.size rows))
  (Z:cW J w ι (.sl o rows.length i.size 0 rows.length) x) (B:P.underlying t=some (.slice et)) (hi:P.info? et=some i) (A:i.zero=some z)
  (hzs:z.cells.size=i.size) (hbytes:0<i.bytes)
  (hsrc:Src P i.size tx v new.length news w) (D:bG J w new.flatten news) (hrl:∀r∈new,r.length=i.size) (hfit:(rows++new).length*i.bytes<=70368744177664) :
  ∃u w',(Builtin.append_ #[t,tx] ty #[x,v]).run P w=.ok u w'/\
   aO G obj (λk=>if k=o then .live (.dat et i.size (rows++new))else obj k) J ι w (.sl o (rows.length+new.length) i.size 0 (rows.length+new.length)) u w':=by
 have h0:=S.rep o;rw[O]at h0;obtain⟨⟨hsome,PU⟩,hkey⟩:=h0;rw[length_append]at hfit;have y:=hsrc.newsLen;have h63:((rows.length+new.length:Nat):Int)<=9223372036854775807:=by have:(rows.length+new.length)*1<=(rows.length+new.length)*i.bytes:=Nat.mul_le_mul_left _ hbytes;omega
 obtain⟨sa,cap,rfl,hcap,olds,hold,YL,adR,YK,hblk⟩:∃(sa:Option Addr) (cap:Nat),x=.slice sa rows.length cap/\rows.length<=cap/\∃olds:List Value,
   (Builtin.firstCells i.size rows.length (.slice sa rows.length cap)).run P w.drew=.ok olds.toArray w.drew/\bG J w rows.flatten olds/\(∀v∈olds,v.oneCell'=true)/\(∀r∈rows,r.length=i.size)/\
   ((cap=0/\rows.length=0)\/∃b C,sa=some ⟨b,0,none⟩/\ι o rows.length=some b/\w.heap[b]? = some (.cells C et (0,0))/\cap*i.size<=C.size/\bq J w i.size rows b 0):=by
  rcases Z with ⟨H,sa,rfl⟩|⟨b,cap,et',C',V,rfl,U,hS,hC'⟩
  .have T:rows=[]:=by simpa using H
   subst T;refine⟨sa,0,rfl,Nat.le_refl _,[],?_,trivial,(λ_ h=>by cases h),(λ_ h=>by cases h),.inl ⟨rfl,rfl⟩⟩;cases sa with
   |none=>exact run_firstCells_none w.drew i.size 0 0 0
   |some a=>exact run_firstCells_some w.drew i.size 0 a 0 0 [] (by simp) (λj u m=>by simp at m)
  .obtain ⟨⟨C,h2⟩,K⟩:=PU b V;obtain⟨k1,k2⟩:=K.flat;obtain⟨vs,v1,v2,v3⟩:=k1.vals;have hcs:C'= C.size:=by simp only[shape?,h2]at hS;cases hS;rfl
   subst hcs;refine⟨some ⟨b,0,none⟩,cap,by simp,U,vs,?_,v1,v2,K.rowLen,.inr ⟨b,C,rfl,V,h2,by grind,K⟩⟩;refine run_firstCells_some w.drew i.size _ _ _ cap vs (by rw[<- v1.length,k2]) (λj u m=>?_);rw[Addr.add_mid];exact v3 j u m
 by_cases hroom:rows.length+new.length<=cap
 .rcases hblk with ⟨rfl,hr0⟩|⟨b,C,rfl,V,h2,hC,K⟩
  .
   have T:new=[]:=by grind
   subst T;have hnews:news=[]:=by simp_all
   subst hnews;have hrn:rows=[]:=by grind
   subst hrn;refine⟨_,w,run_append_nothing w t tx ty et i B hi sa 0 0 (Nat.le_refl _) v hsrc,?_⟩;have X:=aA.jC S o (.live (.dat et i.size ([]++[]))) (Ev.refl (Own ι obj) J ι w) (λ_ _ _=>rfl) (λ_ _ _=>rfl)
    (by have:=S.rep o;rw[O]at this;exact this) (λb V=>.inl (by grind))
   exact⟨J,ι,X.1,.inl ⟨rfl,sa,rfl⟩,X.2⟩
  .have hlen:news.length+rows.length*i.size<=C.size:=by
    rw[y,<- Nat.add_mul];exact Nat.le_trans (Nat.mul_le_mul_right _ (by omega)) hC
   have hc1:∀j,j<news.length->(w.cell? ⟨b,0+rows.length*i.size+j,none⟩).isSome=true:=λj hj=>by rw[cell_of_row w b _ C et _ h2];simp;omega
   have hf1:∀j,j<news.length->w.frozen? ⟨b,0+rows.length*i.size+j,none⟩=false:=λj hj=>by simp[frozen?,h2]
   have hrun:=run_append_room_src w t tx ty et i B hi b 0 rows.length cap v new.length news hsrc hroom hc1 hf1;simp at hrun;refine⟨_,_,hrun,?_⟩;have hown:Own ι obj b:=⟨o,by rw[O];exact V⟩
   let ι':fe:=λk n=>if k=o/\n=rows.length+new.length then some b else ι k n
   have hi':∀k n c,ι k n=some c->ι' k n=some c:=λk n c U=>by grind
   have E:Ev (Own ι obj) J J ι ι' w (w.setCells b (rows.length*i.size) news):=Ev.setCells J w b _ news hown hi';obtain⟨C',k1,k2⟩:=fZ news (rows.length*i.size) w C h2 (by omega);have hCl:C'.size=C.size:=by have:=congrArg length k2;rw[LA _ _ _ (by grind)]at this;simpa using this
   have YM:olds.length=rows.length*i.size:=by rw[<- YL.length,oD YK]
   have adN:∀(j:Nat) (u:Value),olds[j]? = some u->C[j]? = some u:=by
    obtain⟨q1,q2⟩:=K.flat;obtain⟨us,u1,u2,u3⟩:=q1.vals;have:us=olds:=by
     have hh:=run_firstCells_some (P:=P) w.drew i.size rows.length ⟨b,0,none⟩ rows.length cap us (by rw[<- u1.length,q2]) (λj u m=>by rw[Addr.add_mid];exact u3 j u m);rw[hh]at hold;injection hold with e1 _
     exact(toArray_inj e1)
    subst this;intro j u m;have:=u3 j u m;rw[Nat.zero_add,cell_of_row w b _ C et _ h2]at this;exact this
   have Lo:bq J (w.setCells b (rows.length*i.size) news) i.size (rows++new) b 0:=by
    refine bq.wm (vs:=olds++news) ?_ ?_ ?_ k1 ?_
    .rw [flatten_append];exact bG.mono (λ_ h=>h) (S.same E) _ _ (bG.append YL D)
    .intro u m;rcases mem_append.1 m with m|m
     .grind
     .exact hsrc.one u m
    .grind
    .intro j u m;have hk:C'[j]? = C'.toList[j]?:=by simp
     rw[hk,k2];unfold splice;by_cases hj:j<olds.length
     .grind
     .grind
   have X:=aA.jC S o (.live (.dat et i.size (rows++new))) E (λk hk n=>by grind)
    (λk hk T=>heap_setCells_other (λe=>T (by rw[O,e];exact V)) news _ w)
    ⟨⟨.inr (by simp[ι']),λc U=>by
      simp[ι']at U;subst U;exact⟨⟨C',k1⟩,Lo⟩⟩,λn T=>by
      rw[length_append]at T;simp only[ι'];rw[if_neg (by omega)];exact hkey n (by omega)⟩
    (λc U=>.inl (by simp[bK.own,ah.own,ι']at U;rw[O];subst U;exact V))
   refine⟨J,ι',X.1,.inr ⟨b,cap,et,C.size,by simp[ι'],by simp,by omega,?_,by grind⟩,X.2⟩;simp only[shape?,k1,hCl]
 .have q:cap<rows.length+new.length:=by omega
  have hrun:=run_append_grow_src w t tx ty et i z B hi A sa rows.length cap olds hold v new.length news hsrc q h63 (sU q hfit);have hge:=grownCap_ge w (rows.length+new.length) cap et;refine⟨_,_,hrun,?_⟩;generalize grownCap w (rows.length+new.length) cap et=gc at *
  let ι':fe:=λk n=>if k=o/\n=rows.length+new.length then some w.heap.size else ι k n
  have hi':∀k n c,ι k n=some c->ι' k n=some c:=λk n c U=>by grind
  have YM:olds.length=rows.length*i.size:=by rw[<- YL.length,oD YK]
  have hsz:((olds++news).toArray++Builtin.zeroCells z.cells (gc-(rows.length+new.length))).size=gc*i.size:=by simp only[Array.size_append,size_toArray,size_zeroCells,hzs,length_append,YM,y,<- Nat.add_mul];congr 1;omega
  generalize hCC:(olds++news).toArray++Builtin.zeroCells z.cells (gc-(rows.length+new.length))=C at *;have E:Ev (Own ι obj) J J ι ι' w ({ w with drawn:=w.drawn+1 }.alloc (.cells C et)):=Ev.alloc _ _ w _ _ hi';have hnew:({ w with drawn:=w.drawn+1 }.alloc (.cells C et)).heap[w.heap.size]? = some (.cells C et (0,0)):=cE { w with drawn:=w.drawn+1 } _;have Lo:bq J ({ w with drawn:=w.drawn+1 }.alloc (.cells C et)) i.size (rows++new) w.heap.size 0:=by
   refine bq.wm (vs:=olds++news) ?_ ?_ ?_ hnew ?_
   .rw [flatten_append];exact bG.mono (λ_ h=>h) (S.same E) _ _ (bG.append YL D)
   .intro u m;rcases mem_append.1 m with m|m
    .grind
    .exact hsrc.one u m
   .grind
   .grind
  have X:=aA.jC S o (.live (.dat et i.size (rows++new))) E (λk hk n=>by grind)
   (λk hk T=>dB { w with drawn:=w.drawn+1 } _ k hk)
   ⟨⟨.inr (by simp[ι']),λc U=>by
     simp[ι']at U;subst U;exact⟨⟨C,hnew⟩,Lo⟩⟩,λn T=>by
     rw[length_append]at T;simp only[ι'];rw[if_neg (by omega)];exact hkey n (by omega)⟩
   (λc U=>.inr (by simp[bK.own,ah.own,ι']at U;omega))
  refine⟨J,ι',X.1,.inr ⟨w.heap.size,gc,et,C.size,by simp[ι'],by simp,hge,?_,by simp[hsz]⟩,X.2⟩;show({ w with drawn:=w.drawn+1 }.alloc (.cells C et)).shape? w.heap.size=_;simp only[shape?,hnew]
theorem Kx(S:aA G J w ι obj){s:Nat}{new:List LV}(hk:(∃A,P.underlying tx=some (.slice A))\/P.underlying tx=some .string)(h:A0 obj aJ y=some (new,m,s))(B:cW J w ι y v) :
  ∃news,Src P aJ tx v m news w/\bx J w ι new news:=by
 unfold A0 at h;split at h
 .rename_i o n e lo len;split at h
  .rename_i et A x cells O;split at h
   .rename_i U;obtain⟨rfl,rfl,rfl,q⟩:=U;cases h;have r:=S.rep s;rw[O]at r;obtain⟨hlr,_⟩:=r;rcases B with ⟨rfl,a,rfl⟩|⟨b,cap,c,T,V,rfl,E,_,_⟩
    .refine ⟨[],?_,by simp[bx]⟩;cases a with
     |none=>exact⟨hk,λ_=>rfl,run_firstCells_none w _ 0 0 0,run_firstCells_none w.drew _ 0 0 0,by simp,λ_ h=>by cases h⟩
     |some a=>exact⟨hk,λ_=>rfl,run_firstCells_some w _ 0 a 0 0 [] (by simp) (λj u D=>by simp at D),run_firstCells_some w.drew _ 0 a 0 0 [] (by simp) (λj u D=>by simp at D),by simp,λ_ h=>by cases h⟩
    .obtain ⟨Z,C,H,h2,h0,K⟩:=hlr.resolve_left (λe=>by grind);rw[H]at V;cases V;have X:=(K.drop (lo*A)).take (m*A);rw[Nat.add_mul]at q;have k:(((C.toList.take cells.length).drop (lo*A)).take (m*A)).length=m*A:=by grind
     have t:∀j u,(((C.toList.take cells.length).drop (lo*A)).take (m*A))[j]? = some u->w.cell? ((⟨b,lo*A,none⟩:Addr).add j)=some u:=λj u D=>by
      have hj:j<m*A:=by grind
      rw[Addr.add_mid,cell_of_row w b _ C et _ h2];rw[getElem?_take_of_lt hj,getElem?_drop,getElem?_take_of_lt (by omega)]at D;simpa using D
     exact⟨_,⟨hk,λ_=>rfl,run_firstCells_some w A _ _ _ cap _ k t,run_firstCells_some w.drew A _ _ _ cap _ k (by simp_all),k,X.one⟩,X⟩
   .cases h
  .cases h
 .cases h
theorem aO.UP(S:aA G J w ι obj)(V:obj base=.free){i:TypeInfo}{z:Value}{new:List LV}(B:P.underlying t=some (.slice et))(hi:P.info? et=some i)(A:i.zero=some z)
  (b:z.cells.size=i.size) (H:0<i.bytes) (k:Src P i.size tx v m news w) (r:bx J w ι new news) (O:0<m) (e:m*i.bytes<=70368744177664) :
  ∃u w',(Builtin.append_ #[t,tx] ty #[.slice none 0 0,v]).run P w=.ok u w'/\
   aO G obj (λo=>if o=base then .live (.lr et i.size 0 new)else obj o) J ι w (.sl base 0 i.size 0 m) u w':=by
 have q:0<0+m:=by omega
 have Z:((0+m:Nat):Int)<=9223372036854775807:=by have:m*1<=m*i.bytes:=Nat.mul_le_mul_left _ H;omega
 have K:=run_append_grow_src w t tx ty et i z B hi A none 0 0 [] (run_firstCells_none w.drew i.size 0 0 0) v m news k q Z (sU q (by grind));have c:=grownCap_ge w (0+m) 0 et;refine⟨_,_,K,?_⟩;simp at *;have y:=k.newsLen;have h:=r.length;have U:(news.toArray++Builtin.zeroCells z.cells (grownCap w m 0 et-m)).size=grownCap w m 0 et*i.size:=by simp only[Array.size_append,size_toArray,size_zeroCells,b,y,<- Nat.add_mul];congr 1;omega
 exact aO.lr S V et i.size new _ (w.drawn+1) m (grownCap w m 0 et) c (by grind) (by grind) (by grind)
theorem aO.aaJ(S:aA G J w ι obj){len:Nat}{i:TypeInfo}{z:Value}{new:List LV}(O:obj o=.live (.lr et i.size v0 []))(hno:ι o v0=none)
  (Z:cW J w ι (.sl o v0 i.size 0 len) x) (B:P.underlying t=some (.slice et)) (hi:P.info? et=some i) (A:i.zero=some z)
  (hzs:z.cells.size=i.size) (hbytes:0<i.bytes) (hsrc:Src P i.size tx v m news w) (r:bx J w ι new news) (hfit:(len+m)*i.bytes<=70368744177664) :
  ∃u w',(Builtin.append_ #[t,tx] ty #[x,v]).run P w=.ok u w'/\
   aO G obj (λk=>if k=o then .live (.lr et i.size (v0+1) new)else obj k) J ι w (.sl o (v0+1) i.size 0 (len+m)) u w':=by
 have h0:=S.rep o;rw[O]at h0;obtain⟨_,H⟩:=h0;obtain⟨rfl,sa,rfl⟩:len=0/\∃sa,x=.slice sa 0 0:=by
  rcases Z with h|⟨b,_,_,_,V,_⟩
  .exact h
  .grind
 have y:=hsrc.newsLen;have hnl:=r.length;have hold:(Builtin.firstCells i.size 0 (.slice sa 0 0)).run P w.drew=.ok ([]:List Value).toArray w.drew:=by
  cases sa with
  |none=>exact run_firstCells_none w.drew i.size 0 0 0
  |some a=>exact run_firstCells_some w.drew i.size 0 a 0 0 [] (by simp) (λj u D=>by simp at D)
 rcases Nat.eq_zero_or_pos m with rfl|e
 .obtain rfl:news=[]:=by simpa using y
  obtain rfl:new=[]:=by grind
  refine⟨_,_,run_append_nothing w t tx ty et i B hi sa 0 0 (Nat.le_refl _) v hsrc,?_⟩;have X:=aA.jC S o (.live (.lr et i.size (v0+1) [])) (Ev.refl (Own ι obj) J ι w) (λ_ _ _=>rfl) (λ_ _ _=>rfl)
   ⟨.inl ⟨rfl,H _ (by omega)⟩,λn T=>H n (by omega)⟩ (λb V=>by have:ι o (v0+1)=some b:=V;rw[H _ (by omega)]at this;cases this)
  exact⟨J,ι,X.1,.inl ⟨rfl,sa,rfl⟩,X.2⟩
 .have h63:((0+m:Nat):Int)<=9223372036854775807:=by
   have:(0+m)*1<=(0+m)*i.bytes:=Nat.mul_le_mul_left _ hbytes;omega
  have q:0<0+m:=by omega
  have K:=run_append_grow_src w t tx ty et i z B hi A sa 0 0 _ hold v m news hsrc q h63 (sU q hfit);have hge:=grownCap_ge w (0+m) 0 et;refine⟨_,_,K,?_⟩;generalize grownCap w (0+m) 0 et=gc at *
  let ι':fe:=λk n=>if k=o/\n=v0+1 then some w.heap.size else ι k n
  have hi':∀k n c,ι k n=some c->ι' k n=some c:=λk n c U=>by grind
  have hsz:(([]++news).toArray++Builtin.zeroCells z.cells (gc-(0+m))).size=gc*i.size:=by simp only[Array.size_append,size_toArray,size_zeroCells,hzs,nil_append,y,<- Nat.add_mul];congr 1;omega
  have htk:(([]++news).toArray++Builtin.zeroCells z.cells (gc-(0+m))).toList.take new.length=news:=by grind
  have hle2:new.length<=(([]++news).toArray++Builtin.zeroCells z.cells (gc-(0+m))).size:=by grind
  generalize hCC:([]++news).toArray++Builtin.zeroCells z.cells (gc-(0+m))=C2 at *;have E:Ev (Own ι obj) J J ι ι' w ({ w with drawn:=w.drawn+1 }.alloc (.cells C2 et)):=Ev.alloc _ _ w _ _ hi';have hnew:({ w with drawn:=w.drawn+1 }.alloc (.cells C2 et)).heap[w.heap.size]? = some (.cells C2 et (0,0)):=cE { w with drawn:=w.drawn+1 } _;have X:=aA.jC S o (.live (.lr et i.size (v0+1) new)) E (λk hk n=>by grind)
   (λk hk T=>dB { w with drawn:=w.drawn+1 } _ k hk)
   ⟨.inr ⟨w.heap.size,C2,by simp[ι'],hnew,hle2,by rw[htk];exact r.ev S E⟩,λn T=>by simp only[ι'];rw[if_neg (by omega)];exact H n (by omega)⟩
   (λc U=>.inr (by simp[bK.own,ah.own,ι']at U;omega))
  refine⟨J,ι',X.1,.inr ⟨w.heap.size,gc,et,C2.size,by simp[ι'],by simp,hge,?_,by simp[hsz]⟩,X.2⟩;show({ w with drawn:=w.drawn+1 }.alloc (.cells C2 et)).shape? w.heap.size=_;simp only[shape?,hnew]
theorem aO.acr(S:aA G J w ι obj){len:Nat}{i:TypeInfo}{z:Value}{cells new:List LV}(O:obj o=.live (.lr et i.size v0 cells))(hlen:len*i.size<=cells.length)
  (Z:cW J w ι (.sl o v0 i.size 0 len) x) (B:P.underlying t=some (.slice et)) (hi:P.info? et=some i) (A:i.zero=some z)
  (hzs:z.cells.size=i.size) (hbytes:0<i.bytes) (hsrc:Src P i.size tx v m news w) (r:bx J w ι new news) (hfit:(len+m)*i.bytes<=70368744177664) :
  ∃u w',(Builtin.append_ #[t,tx] ty #[x,v]).run P w=.ok u w'/\
   aO G obj (λk=>if k=o then .live (.lr et i.size (v0+1) (cells.take (len*i.size)++new))else obj k) J ι w (.sl o (v0+1) i.size 0 (len+m)) u w':=by
 have h0:=S.rep o;rw[O]at h0;obtain⟨⟨rfl,hno⟩|⟨b,C,H,h2,hle,K⟩,hkey⟩:=h0
 .simpa using aO.aaJ S O hno Z B hi A hzs hbytes hsrc r hfit
 have y:=hsrc.newsLen;have hnl:=r.length;have h63:((len+m:Nat):Int)<=9223372036854775807:=by have:(len+m)*1<=(len+m)*i.bytes:=Nat.mul_le_mul_left _ hbytes;omega
 have YL:bx J w ι (cells.take (len*i.size)) (C.toList.take (len*i.size)):=by have:=K.take (len*i.size);rwa [take_take,Nat.min_eq_left hlen]at this
 have hol:(C.toList.take (len*i.size)).length=len*i.size:=by grind
 have hown:Own ι obj b:=⟨o,by rw[O];exact H⟩;obtain⟨sa,cap,rfl,hcap,hold,hblk⟩:∃(sa:Option Addr) (cap:Nat),x=.slice sa len cap/\len<=cap/\(Builtin.firstCells i.size len (.slice sa len cap)).run P w.drew=.ok (C.toList.take (len*i.size)).toArray w.drew/\
   ((cap=0/\len=0)\/(sa=some ⟨b,0,none⟩/\cap*i.size<=C.size)):=by
  rcases Z with ⟨rfl,sa,rfl⟩|⟨b2,cap,et',C',V,rfl,U,hS,hC'⟩
  .refine ⟨sa,0,rfl,Nat.le_refl _,?_,.inl ⟨rfl,rfl⟩⟩;simp;cases sa with
   |none=>exact run_firstCells_none w.drew i.size 0 0 0
   |some a=>exact run_firstCells_some w.drew i.size 0 a 0 0 [] (by simp) (λj u D=>by simp at D)
  .rw [H]at V;cases V;have hcs:C'=C.size:=by simp only[shape?,h2]at hS;cases hS;rfl
   subst hcs;refine⟨some ⟨b,0,none⟩,cap,by simp,U,?_,.inr ⟨rfl,by grind⟩⟩;refine run_firstCells_some w.drew i.size _ _ _ cap _ hol (λj u D=>?_);have hj:j<len*i.size:=by grind
   rw[Addr.add_mid];show w.cell? ⟨b,0+j,none⟩=_;rw[cell_of_row w b _ C et _ h2];rw[getElem?_take_of_lt hj]at D;simpa using D
 by_cases hroom:len+m<=cap
 .have adt:len*i.size+news.length<=C.size:=by
   rcases hblk with ⟨rfl,h⟩|⟨_,hC⟩
   .grind
   .rw [y,<- Nat.add_mul];exact Nat.le_trans (Nat.mul_le_mul_right _ hroom) hC
  have hrun:(Builtin.append_ #[t,tx] ty #[.slice sa len cap,v]).run P w=.ok (.slice sa (len+m) cap) (w.setCells b (len*i.size) news):=by
   rcases hblk with ⟨rfl,h⟩|⟨rfl,hC⟩
   .obtain rfl:m=0:=by omega
    subst h;obtain rfl:news=[]:=by grind
    simpa[setCells]using run_append_nothing w t tx ty et i B hi sa 0 0 (Nat.le_refl _) v hsrc
   .have hc1:∀j,j<news.length->(w.cell? ⟨b,0+len*i.size+j,none⟩).isSome=true:=λj hj=>by
     rw[cell_of_row w b _ C et _ h2];simp;omega
    have hf1:∀j,j<news.length->w.frozen? ⟨b,0+len*i.size+j,none⟩=false:=λj hj=>by simp[frozen?,h2]
    have:=run_append_room_src w t tx ty et i B hi b 0 len cap v m news hsrc hroom hc1 hf1;simpa only[Nat.zero_add]using this
  refine⟨_,_,hrun,?_⟩
  let ι':fe:=λk n=>if k=o/\n=v0+1 then some b else ι k n
  have hi':∀k n c,ι k n=some c->ι' k n=some c:=λk n c U=>by grind
  have E:Ev (Own ι obj) J J ι ι' w (w.setCells b (len*i.size) news):=Ev.setCells J w b _ news hown hi';obtain⟨C',k1,k2⟩:=fZ news (len*i.size) w C h2 adt;have hCl:C'.size=C.size:=by have:=congrArg length k2;rw[LA _ _ _ (by grind)]at this;simpa using this
  have htk:C'.toList.take (cells.take (len*i.size)++new).length=C.toList.take (len*i.size)++news:=by
   have hL:(cells.take (len*i.size)++new).length=(C.toList.take (len*i.size)++news).length:=by grind
   rw[hL,k2];unfold splice;rw[take_left]
  have X:=aA.jC S o (.live (.lr et i.size (v0+1) (cells.take (len*i.size)++new))) E (λk hk n=>by grind)
   (λk hk T=>heap_setCells_other (λe=>T (by rw[O,e];exact H)) news _ w)
   ⟨.inr ⟨b,C',by simp[ι'],k1,by grind,by rw[htk];exact(YL.append r).ev S E⟩,λn T=>by simp only[ι'];rw[if_neg (by omega)];exact hkey n (by omega)⟩
   (λc U=>.inl (by simp[bK.own,ah.own,ι']at U;rw[O];subst U;exact H))
  refine⟨J,ι',X.1,?_,X.2⟩;rcases hblk with ⟨rfl,h⟩|⟨rfl,hC⟩
  .obtain rfl:m=0:=by omega
   subst h;exact .inl ⟨rfl,sa,rfl⟩
  .refine .inr ⟨b,cap,et,C.size,by simp[ι'],by simp,hroom,?_,by grind⟩;simp only[shape?,k1,hCl]
 .have q:cap<len+m:=by omega
  have hrun:=run_append_grow_src w t tx ty et i z B hi A sa len cap _ hold v m news hsrc q h63 (sU q hfit);have hge:=grownCap_ge w (len+m) cap et;refine⟨_,_,hrun,?_⟩;generalize grownCap w (len+m) cap et=gc at *
  let ι':fe:=λk n=>if k=o/\n=v0+1 then some w.heap.size else ι k n
  have hi':∀k n c,ι k n=some c->ι' k n=some c:=λk n c U=>by grind
  generalize hO:C.toList.take (len*i.size)=olds at *;have hsz:((olds++news).toArray++Builtin.zeroCells z.cells (gc-(len+m))).size=gc*i.size:=by simp only[Array.size_append,size_toArray,size_zeroCells,hzs,length_append,hol,y,<- Nat.add_mul];congr 1;omega
  have htk:((olds++news).toArray++Builtin.zeroCells z.cells (gc-(len+m))).toList.take (cells.take (len*i.size)++new).length=olds++news:=by grind
  have hle2:(cells.take (len*i.size)++new).length<=((olds++news).toArray++Builtin.zeroCells z.cells (gc-(len+m))).size:=by grind
  generalize hCC:(olds++news).toArray++Builtin.zeroCells z.cells (gc-(len+m))=C2 at *;have E:Ev (Own ι obj) J J ι ι' w ({ w with drawn:=w.drawn+1 }.alloc (.cells C2 et)):=Ev.alloc _ _ w _ _ hi';have hnew:({ w with drawn:=w.drawn+1 }.alloc (.cells C2 et)).heap[w.heap.size]? = some (.cells C2 et (0,0)):=cE { w with drawn:=w.drawn+1 } _;have X:=aA.jC S o (.live (.lr et i.size (v0+1) (cells.take (len*i.size)++new))) E (λk hk n=>by grind)
   (λk hk T=>dB { w with drawn:=w.drawn+1 } _ k hk)
   ⟨.inr ⟨w.heap.size,C2,by simp[ι'],hnew,hle2,by rw[htk];exact(YL.append r).ev S E⟩,λn T=>by simp only[ι'];rw[if_neg (by omega)];exact hkey n (by omega)⟩
   (λc U=>.inr (by simp[bK.own,ah.own,ι']at U;omega))
  refine⟨J,ι',X.1,.inr ⟨w.heap.size,gc,et,C2.size,by simp[ι'],by simp,hge,?_,by simp[hsz]⟩,X.2⟩;show({ w with drawn:=w.drawn+1 }.alloc (.cells C2 et)).shape? w.heap.size=_;simp only[shape?,hnew]
end
end
inductive vA{α β:Type}(R:α->β->Prop):List α->List β->Prop
 |nil:vA R [] []
 |cons {x y xs ys} : R x y->vA R xs ys->vA R (x::xs) (y::ys)
section
variable {P:Program} {G:tY} {J:Nat->Prop} {w w':World} {ι:fe} {obj:Nat->bK} {a:Act} {get:Nat->LV} {base:Nat}
def sQ(off:Nat):∀(vs:List Value) (k:Nat) (cells:Array Value),off+k+vs.length<=cells.size->
  ((vs.zipIdx k).foldl (λcs (p:Value×Nat)=>cs.setIfInBounds (off+p.2) p.1) cells).toList=splice cells.toList (off+k) vs
 |[],k,cells,h=>by simp[splice]
 |v::vs,k,cells,h=>by simp only[length_cons]at h;simp only[zipIdx_cons,foldl_cons];rw[sQ off vs (k+1) (cells.setIfInBounds (off+k) v) (by simp;omega),Array.toList_setIfInBounds,<- Nat.add_assoc,yX _ _ _ _ (by simp;omega)]
def u7(S:aA G J w ι obj)(c:∀t,cW J w ι (get t) (a.tmps.getD t Go.undef))(k:Nat->Option (Nat×Nat)) :
  ∀(parts:List (Nat×Operand)) (ps:List (Nat×Nat×bF)) (e m:List LV) (cells:Array Value),
   vA (λ(p:Nat×Operand) (q:Nat×Nat×bF)=>k p.1=some (q.1,q.2.1)/\aI p.2=some q.2.2) parts ps->
   bx J w ι e cells.toList->uk G get e ps=some m->
   ∃cs,Instr.fill k cells (parts.map λp=>(p.1,a.eval p.2))=some cs/\bx J w ι m cs.toList
 |[],_,e,m,cells,h,hr,V=>by cases h;simp only[uk]at V;cases V;exact⟨cells,rfl,hr⟩
 |p::parts,_,e,m,cells,h,hr,V=>by
  cases h with
  |cons H h2=>
   rename_i q ps;obtain⟨r,Z⟩:=H;obtain⟨off,size,x⟩:=q;simp only[uk]at V;split at V
   .rename_i cs b;split at V
    .rename_i D;have B:=pY (aZ S c Z) b;have y:=B.length;have T:=hr.length;simp only[Array.length_toList]at y T;have U:(a.eval p.2).cells.size=cs.length:=y.symm;have j:((a.eval p.2).cells.zipIdx.foldl (λcs (p:Value×Nat)=>cs.setIfInBounds (off+p.2) p.1) cells).toList=splice cells.toList off (a.eval p.2).cells.toList:=by
      have:=sQ off (a.eval p.2).cells.toList 0 cells (by simp[U];omega);simp only[Nat.add_zero]at this;rw[<- this,<- Array.foldl_toList];simp
     obtain⟨O,k1,k2⟩:=u7 S c k parts ps (splice e off cs) m _ h2 (by rw[j];exact hr.splice off B) V;refine⟨O,?_,k2⟩;simp only[map_cons,Instr.fill,r];rw[if_neg (by rw[U];simp;exact⟨D.1,by omega⟩)];exact k1
    .cases V
   .cases V
def vZ{fs:Array Field} : ∀{parts:List (Nat×Operand)} {ps:List (Nat×Nat×bF)},Al P fs parts=some ps->
  vA (λ(p:Nat×Operand) (q:Nat×Nat×bF)=>(∃f,fs[p.1]? = some f/\q.1=f.offset/\dY P f.type=some q.2.1)/\aI p.2=some q.2.2) parts ps
 |[],ps,h=>by cases h;exact .nil
 |(i,x)::o,ps,h=>by
  simp only[Al]at h;split at h
  .rename_i f y r H h2 K;split at h
   .rename_i n T;cases h;exact .cons ⟨⟨f,H,rfl,T⟩,h2⟩ (vZ K)
   .cases h
  .cases h
def v7{n:Nat} : ∀{parts:List (Nat×Operand)} {ps:List (Nat×Nat×bF)},Am n parts=some ps->
  vA (λ(p:Nat×Operand) (q:Nat×Nat×bF)=>(some (p.1*n,n)=some (q.1,q.2.1))/\aI p.2=some q.2.2) parts ps
 |[],ps,h=>by cases h;exact .nil
 |(i,x)::o,ps,h=>by
  simp only[Am]at h;split at h
  .rename_i y r H h2;cases h;exact .cons ⟨rfl,H⟩ (v7 h2)
  .cases h
def zz{α β:Type}{R T:α->β->Prop}(h:∀a b,R a b->T a b):∀{xs:List α} {ys:List β},vA R xs ys->vA T xs ys
 |_,_,.nil=>.nil
 |_,_,.cons H h2=>.cons (h _ _ H) (zz h h2)
def rX:∀(fs:List Field) (w:World),(fs.all λf=>(dY P f.type).isSome)=true->
  (fs.mapM (λf=>do pure (f.offset,<- sizeOf f.type):Field->Sem (Nat×Nat))).run P w=.ok (fs.map λf=>(f.offset,(dY P f.type).getD 0)) w
 |[],w,_=>rfl
 |f::fs,w,h=>by
  simp only[all_cons,and_eq_true]at h;obtain⟨n,T⟩:=Option.isSome_iff_exists.1 h.1;obtain⟨i,hi,hs⟩:=cH T;have u:=rX fs w h.2;have U:(Go.sizeOf f.type).run P w=.ok n w:=by simp[Go.sizeOf,typeInfo,hi,hs]
  simp only[mapM_cons,Sem.run_bind,U,Sem.run_pure,Result.andThen_ok,map_cons,T,Option.getD_some];rw[u];rfl
def zS(fs:Array Field)(w:World)(h:IZ P fs=true) :
  (fs.mapM (λf=>do pure (f.offset,<- sizeOf f.type):Field->Sem (Nat×Nat))).run P w=.ok (fs.map λf=>(f.offset,(dY P f.type).getD 0)) w:=by
 rw[Array.mapM_eq_mapM_toList,Sem.run_map,rX fs.toList w h];simp only[Result.andThen_ok];congr 1;apply Array.ext';simp
def Jk(S:aA G J w ι obj)(c:∀t,cW J w ι (get t) (a.tmps.getD t Go.undef)){T:TypeId}{parts:Array (Nat×Operand)}{zero:List DV}{ps:List (Nat×Nat×bF)}{cs:List LV}
  (U:cV P (.build T parts)=some (.build zero ps)) (V:uk G get (zero.map .d) ps=some cs) :
  ∃v,(Instr.build T (parts.map λ(i,x)=>(i,a.eval x))).run P w=.ok v w/\cW J w ι (.agg cs) v:=by
 simp only[cV]at U;have b:(parts.map λ(i,x)=>(i,a.eval x)).toList=parts.toList.map λp=>(p.1,a.eval p.2):=by simp
 split at U
 .rename_i z fs A m;split at U
  .rename_i y;split at U
   .rename_i k j;cases U;obtain⟨v,E,r⟩:=xL (J:=J) (w:=w) (ι:=ι) A;obtain⟨O,k1,k2⟩:=u7 S c (λi=>(fs.map λf=>(f.offset,(dY P f.type).getD 0))[i]?) parts.toList ps (zero.map .d) cs v.cells
     (zz (λp q h=>by obtain⟨⟨f,H,h2,K⟩,u⟩:=h;exact⟨by simp[H,h2,K],u⟩) (vZ j)) r V
    refine⟨.agg O,?_,O,rfl,k2⟩;simp only[Instr.build,Sem.run_bind,E,Result.andThen_ok,run_underlying m w,Sem.run_map,zS fs w y,b,Sem.run_pure];simp only[k1,Sem.run_pure]
   .cases U
  .cases U
 .rename_i z e A m;split at U
  .rename_i n D;split at U
   .rename_i k j;cases U;obtain⟨v,E,r⟩:=xL (J:=J) (w:=w) (ι:=ι) A;obtain⟨i,hi,hs⟩:=cH D;obtain⟨O,k1,k2⟩:=u7 S c (λi=>some (i*n,n)) parts.toList ps (zero.map .d) cs v.cells (v7 j) r V;refine⟨.agg O,?_,O,rfl,k2⟩;simp only[Instr.build,Sem.run_bind,E,Result.andThen_ok,run_underlying m w,Go.sizeOf,typeInfo,run_program,hi,hs,Sem.run_pure,b];simp only[k1,Sem.run_pure]
   .cases U
  .cases U
 .cases U
end
section
variable{op:BinOp}{v:Value}{T e t:TypeId}{k cap h m n:Nat}{ks:List Nat}{b:Bool}{lo hi mx:Option Value}
section
variable {P:Program} {G:tY} {J:Nat->Prop} {w w':World} {ι:fe} {obj:Nat->bK} {a:Act} {get:Nat->LV} {base:Nat}
def UM{x y:Value}(h:X0 op x y=some v)(T:TypeId)(X Y:Operand)(w:World):(do eqGuard op T X Y x y;Go.binOp op T x y).run P w=.ok v w:=by
 cases x<;>cases y<;>simp only[X0]at h<;>(try (cases h;done))
 .rename_i k a A b;cases op<;>simp only[]at h<;>(split at h<;>first|(cases h;done)|skip)<;>cases h<;>
   rename_i U<;>first
    |(subst U;simp[eqGuard,Go.binOp,Op.intArith,Op.intBits,Op.intCmp,rF,Ef,vC,ig];done)
    |(obtain⟨rfl,V⟩:=U;simp[eqGuard,Go.binOp,Op.intDiv,V];done)
    |(have q:¬b<0:=by omega
      simp[eqGuard,Go.binOp,Op.shift,q,Df,vM];done)
    |(have q:¬b<0:=by omega
      simp only[eqGuard,Go.binOp,Op.shift,Sem.run_bind,q,Df,vM];rfl)
 .rename_i a b;cases op<;>simp only[]at h<;>(try (cases h;done))<;>(try (split at h))<;>(try (cases h;done))<;>cases h<;>first
   |(simp[eqGuard,Go.binOp,Op.stringOp];done)
   |(rename_i U
     have O:¬(((a.size+b.size:Nat):Int)>IntKind.i64.max):=by
      have:IntKind.i64.max=9223372036854775807:=by decide
      rw[this];omega
     simp only[eqGuard,Go.binOp,Op.stringOp,if_neg O,Sem.run_bind];simp)
def HF(h:P.underlying T=some .bool)(x y:Bool)(w:World):(Op.equal T (.bool x) (.bool y)).run P w=.ok (x==y) w:=by have:Op.equal T (.bool x) (.bool y)=Op.equalIn (9999+1) T (.bool x) (.bool y):=rfl;rw[this,Op.equalIn,Sem.run_bind,run_underlying h w];rfl
def jL:BinOp->Bool
 |.neq=>true
 |_=>false
def XN(O:op=.eql\/op=.neq)(h:P.underlying T=some .bool)(X Y:Operand)(x y:Bool)(w:World) :
  (do eqGuard op T X Y (.bool x) (.bool y);Go.binOp op T (.bool x) (.bool y)).run P w=.ok (.bool (bif jL op then !(x==y)else x==y)) w:=by
 rcases O with rfl|rfl<;>simp[eqGuard,Go.binOp,HF h,jL]
def VR(O:op=.eql\/op=.neq)(h:P.underlying T=some (.pointer e))(X Y:Operand)(x:Option Addr)(w:World) :
  (do eqGuard op T X Y (.pointer x) (.pointer none);Go.binOp op T (.pointer x) (.pointer none)).run P w=.ok (.bool (bif jL op then !x.isNone else x.isNone)) w:=by
 have m:(Op.equal T (.pointer x) (.pointer none)).run P w=.ok x.isNone w:=by have:Op.equal T (.pointer x) (.pointer none)=Op.equalIn (9999+1) T (.pointer x) (.pointer none):=rfl;rw[this,Op.equalIn,Sem.run_bind,run_underlying h w];cases x<;>rfl
 rcases O with rfl|rfl<;>simp[eqGuard,Go.binOp,m,jL]
def VQ(O:op=.eql\/op=.neq)(h:P.underlying T=some (.slice e))(X Y:Operand)(x:Option Addr)(n c:Nat)(w:World) :
  (do eqGuard op T X Y (.slice x n c) (.slice none 0 0);Go.binOp op T (.slice x n c) (.slice none 0 0)).run P w=.ok (.bool (bif jL op then !x.isNone else x.isNone)) w:=by
 have m:(Op.equal T (.slice x n c) (.slice none 0 0)).run P w=.ok x.isNone w:=by have:Op.equal T (.slice x n c) (.slice none 0 0)=Op.equalIn (9999+1) T (.slice x n c) (.slice none 0 0):=rfl;rw[this,Op.equalIn,Sem.run_bind,run_underlying h w];cases x<;>rfl
 rcases O with rfl|rfl<;>simp[eqGuard,Go.binOp,m,jL]
def sV{l m:List LV}(h:ew (k::ks) l m=some b) :
  ∃e j p q xs ys,l=.d (.val e)::xs/\m=.d (.val j)::ys/\JS k e j=some p/\ew ks xs ys=some q/\b=(p&&q):=by
 cases l with
 |nil=>cases m<;>simp[ew]at h
 |cons x xs=>
  cases x with
  |d x=>
   cases x with
   |val e=>
    cases m with
    |nil=>simp[ew]at h
    |cons y ys=>
     cases y with
     |d y=>
      cases y with
      |val j=>
       simp only[ew]at h;split at h
       .rename_i p q K u;exact⟨e,j,p,q,xs,ys,rfl,rfl,K,u,(Option.some.inj h).symm⟩
       .cases h
      |_=>simp[ew]at h
     |_=>simp[ew]at h
   |_=>cases m<;>simp[ew]at h
  |_=>cases m<;>simp[ew]at h
def vR(d:Nat){xs ys:Array Value}{S x:List LV}(Z:bx J w ι S xs.toList)(B:bx J w ι x ys.toList):∀(fs:List Field) (i:Nat) (ks:List Nat) (b:Bool),BP P i fs=some ks->ew ks (S.drop i) (x.drop i)=some b->
  (Op.eqFields (d+1) xs ys fs).run P w=.ok b w
 |[],i,ks,b,hk,c=>by simp only[BP]at hk;cases hk;simp only[Op.eqFields];generalize S.drop i=l at c;generalize x.drop i=m at c;cases l<;>cases m<;>simp only[ew]at c<;>first|(cases c;rfl)|(cases c)
 |f::fs,i,ks,b,hk,c=>by
  simp only[BP]at hk;split at hk
  .rename_i k ks' H h2;split at hk
   .rename_i U;cases hk;obtain⟨hoff,X⟩:=U;have hdx:=Z.drop i;have hdy:=B.drop i;generalize y:S.drop i=l at c hdx;generalize O:x.drop i=m at c hdy;have:=sV c;obtain⟨va,vb,p,q,xs',o,rfl,rfl,K,u,rfl⟩:=this;have V:S[i]? = some (.d (.val va)):=by
     have:(S.drop i)[0]? = some (.d (.val va)):=by rw[y];rfl
     simpa using this
    have r:x[i]? = some (.d (.val vb)):=by
     have:(x.drop i)[0]? = some (.d (.val vb)):=by rw[O];rfl
     simpa using this
    obtain⟨T,hua,_,e⟩:=Z.get V;obtain⟨ub,Z7,_,hrb⟩:=B.get r;have aaa:T=va:=e;have Z_:ub=vb:=hrb;subst aaa;subst Z_;have GP:xs[i]? = some T:=by simpa using hua
    have hyi:ys[i]? = some ub:=by simpa using Z7
    have t:=vR d Z B fs (i+1) ks' q h2 (by rw[<- drop_drop,<- drop_drop,y,O];exact u);have n:∀{v:Value} {cs:Array Value},qa P f.type=some false->cs[i]? = some v->(part f.type cs f.offset).run P w=.ok v w:=λj E=>by rw[hoff];simp[part,nW j,E]
    simp only[Op.eqFields];rw[if_pos X];have h:qa P f.type=some false/\(Op.equalIn (d+1) f.type T ub).run P w=.ok p w:=by
     unfold BQ at H;split at H
     .rename_i A D;cases H;refine⟨by simp[qa,D],?_⟩;clear c y O hdx hdy V r e hrb GP hyi hua Z7 t n;cases T<;>cases ub<;>first|(simp[JS]at K;done)|skip
      simp only[JS]at K;split at K
      .rename_i hk;subst hk;cases K;exact run_equalIn_int w d f.type _ A _ _ D
      .cases K
     .rename_i D;cases H;refine⟨by simp[qa,D],?_⟩;clear c y O hdx hdy V r e hrb GP hyi hua Z7 t n;cases T<;>cases ub<;>first|(simp[JS]at K;done)|skip
      simp only[JS]at K;cases K;exact run_equalIn_bool' w d f.type _ _ D
     .rename_i D;cases H;refine⟨by simp[qa,D],?_⟩;clear c y O hdx hdy V r e hrb GP hyi hua Z7 t n;cases T<;>cases ub<;>first|(simp[JS]at K;done)|skip
      simp only[JS]at K;cases K;exact run_equalIn_string w d f.type _ _ D
     .cases H
    simp only[Sem.run_bind,n h.1 GP,n h.1 hyi,Result.andThen_ok,h.2];cases p
    .simp
    .simp only[Bool.not_true,false_eq_true,if_false,Bool.true_and];exact t
   .cases hk
  .cases hk
def Py(h:BQ P t=some k):qa P t=some false:=by unfold BQ at h;split at h<;>first|(cases h;done)|simp[qa, *]
def WQ(d:Nat){T b:Value}{p:Bool}(h:BQ P t=some k)(K:JS k T b=some p):(Op.equalIn (d+1) t T b).run P w=.ok p w:=by
 unfold BQ at h;split at h
 .rename_i A m;cases h;cases T<;>cases b<;>first|(simp[JS]at K;done)|skip
  simp only[JS]at K;split at K
  .rename_i hk;subst hk;cases K;exact run_equalIn_int w d t _ A _ _ m
  .cases K
 .rename_i m;cases h;cases T<;>cases b<;>first|(simp[JS]at K;done)|skip
  simp only[JS]at K;cases K;exact run_equalIn_bool' w d t _ _ m
 .rename_i m;cases h;cases T<;>cases b<;>first|(simp[JS]at K;done)|skip
  simp only[JS]at K;cases K;exact run_equalIn_string w d t _ _ m
 .cases h
def zC:∀(ks n:List Nat) (l m:List LV) (b:Bool),ew (ks++n) l m=some b->∃p q,ew ks (l.take ks.length) (m.take ks.length)=some p/\ew n (l.drop ks.length) (m.drop ks.length)=some q/\b=(p&&q)
 |[],n,l,m,b,h=>⟨true,b,by simp[ew],by simpa using h,by simp⟩
 |k::ks,n,l,m,b,h=>by rw[cons_append]at h;obtain⟨e,j,p,q,xs,ys,rfl,rfl,K,u,rfl⟩:=sV h;obtain⟨r,o,y,c,rfl⟩:=zC ks n xs ys q u;refine⟨p&&r,o,?_,by simpa using c,by rw[Bool.and_assoc]⟩;simp only[length_cons,take_succ_cons,ew,K,y]
def oU{xs ys:Array Value}{S ms:List LV}(Z:bx J w ι S xs.toList)(B:bx J w ι ms ys.toList):∀(fs:List Field) (i:Nat) (ks:List Nat) (b:Bool),yA P i fs=some ks->ew ks (S.drop i) (ms.drop i)=some b->
  (Op.eqFields 9999 xs ys fs).run P w=.ok b w
 |[],i,ks,b,hk,c=>by simp only[yA]at hk;cases hk;simp only[Op.eqFields];generalize S.drop i=l at c;generalize ms.drop i=m at c;cases l<;>cases m<;>simp only[ew]at c<;>first|(cases c;rfl)|(cases c)
 |f::fs,i,ks,b,hk,c=>by
  simp only[yA]at hk;split at hk
  .rename_i U;obtain⟨hoff,X⟩:=U;split at hk
   .rename_i k H;split at hk
    .rename_i ks' h2;cases hk;have hdx:=Z.drop i;have hdy:=B.drop i;generalize y:S.drop i=l at c hdx;generalize O:ms.drop i=m at c hdy;have:=sV c;obtain⟨va,vb,p,q,xs',o,rfl,rfl,K,u,rfl⟩:=this;have V:S[i]? = some (.d (.val va)):=by
      have:(S.drop i)[0]? = some (.d (.val va)):=by rw[y];rfl
      simpa using this
     have r:ms[i]? = some (.d (.val vb)):=by
      have:(ms.drop i)[0]? = some (.d (.val vb)):=by rw[O];rfl
      simpa using this
     obtain⟨ua,hua,_,A⟩:=Z.get V;obtain⟨ub,Z7,_,hrb⟩:=B.get r;have aaa:ua=va:=A;have Z_:ub=vb:=hrb;subst aaa;subst Z_;have GP:xs[i]? = some ua:=by simpa using hua
     have hyi:ys[i]? = some ub:=by simpa using Z7
     have t:=oU Z B fs (i+1) ks' q h2 (by rw[<- drop_drop,<- drop_drop,y,O];exact u);have n:∀{v:Value} {cs:Array Value},cs[i]? = some v->(part f.type cs f.offset).run P w=.ok v w:=λE=>by rw[hoff];simp[part,nW (Py H),E]
     simp only[Op.eqFields];rw[if_pos X];simp only[Sem.run_bind,n GP,n hyi,Result.andThen_ok,WQ (w:=w) 9998 H K];cases p
     .simp
     .simp only[Bool.not_true,false_eq_true,if_false,Bool.true_and];exact t
    .cases hk
   .split at hk
    .rename_i gs D;split at hk
     .rename_i j H;split at hk
      .rename_i h;obtain⟨g1,g2,g3⟩:=h;split at hk
       .rename_i ks' h2;cases hk;obtain⟨p,q,x,e,rfl⟩:=zC j ks' _ _ _ c;have t:=oU Z B fs (i+j.length) ks' q h2 (by rw[<- drop_drop,<- drop_drop];exact e);have abx:∀{cs:Array Value},(part f.type cs f.offset).run P w=.ok (.agg (cs.extract i (i+j.length))) w:=λ{cs}=>by
         obtain⟨ti,hi,T⟩:=cH g2;rw[hoff];simp[part,nW g3,Go.sizeOf,typeInfo,hi,T]
        have acf:∀{cs:Array Value},(cs.extract i (i+j.length)).toList=(cs.toList.drop i).take j.length:=λ{cs}=>by simp[take_drop]
        have hxn:bx J w ι ((S.drop i).take j.length) (xs.extract i (i+j.length)).toList:=by rw[acf];exact(Z.drop i).take _
        have hyn:bx J w ι ((ms.drop i).take j.length) (ys.extract i (i+j.length)).toList:=by rw[acf];exact(B.drop i).take _
        have hfo:P.underlying f.type=some (.struct (P.fieldsOf f.type)):=by simp[Program.fieldsOf,D]
        have hff:P.fieldsOf f.type=gs:=by simp[Program.fieldsOf,D]
        have heq:(Op.equalIn 9999 f.type (.agg (xs.extract i (i+j.length))) (.agg (ys.extract i (i+j.length)))).run P w=.ok p w:=by rw[show(9999:Nat)=9998+1 from rfl,run_equalIn_struct w 9998 f.type _ _ hfo g1,hff];exact vR 9997 hxn hyn gs.toList 0 j p H (by simpa using x)
        simp only[Op.eqFields];rw[if_pos X];simp only[Sem.run_bind,abx,Result.andThen_ok,heq];cases p
        .simp
        .simp only[Bool.not_true,false_eq_true,if_false,Bool.true_and];exact t
       .cases hk
      .cases hk
     .cases hk
    .cases hk
  .cases hk
def VS(O:op=.eql\/op=.neq)(h:eqT P T=some ks)(X Y:Operand){xs ys:Array Value}{S x:List LV}(Z:bx J w ι S xs.toList)(B:bx J w ι x ys.toList)(c:ew ks S x=some b) :
  (do eqGuard op T X Y (.agg xs) (.agg ys);Go.binOp op T (.agg xs) (.agg ys)).run P w=.ok (.bool (bif jL op then !b else b)) w:=by
 unfold eqT at h;split at h
 .rename_i fs m;split at h
  .rename_i U;have j:P.underlying T=some (.struct (P.fieldsOf T)):=by simp[Program.fieldsOf,m]
   have e:P.fieldsOf T=fs:=by simp[Program.fieldsOf,m]
   have k:(Op.equalIn 10000 T (.agg xs) (.agg ys)).run P w=.ok b w:=by rw[show(10000:Nat)=9999+1 from rfl,run_equalIn_struct w 9999 T xs ys j U.1,e];exact oU Z B fs.toList 0 ks b h (by simpa using c)
   have u:=run_eqGuard_agg (P:=P) w op T X Y xs ys U.2;rcases O with rfl|rfl
   .rw [Sem.run_bind,u];simp only[Result.andThen_ok,run_eql_struct,k];rfl
   .rw [Sem.run_bind,u];simp only[Result.andThen_ok,run_neq_struct,k];rfl
  .cases h
 .cases h
def iO{y:Nat}{code:BoundsCode}{k:IntKind}{i:Int}(E:v=.int k i)(h0:0<=i)(V:i.toNat<=y)(w:World):(Instr.sliceBound v y code).run P w=.ok i.toNat w:=by subst E;have:0<=i/\i<=(y:Int):=⟨h0,by omega⟩;simp[Instr.sliceBound,asIntOf,this]
def BV(o:Option Value)(d v:Nat):Prop:=(o=none/\v=d)\/∃k i,o=some (.int k i)/\0<=i/\v=i.toNat
def mh{len l:Nat}(H:BV lo 0 l)(h2:BV hi len h)(K:BV mx len m)(k1:l<=h)(k2:h<=m)(k3:m<=len)(k4:len<=cap)(O:mx=none\/hi.isSome=true)(w:World) :
  ∃X,m<=X/\X<=cap/\(Instr.sliceBounds b len cap lo hi mx).run P w=.ok (l,h,X) w:=by
 rcases K with ⟨rfl,rfl⟩|⟨e,r,rfl,t,rfl⟩
 .refine ⟨cap,k4,Nat.le_refl _,?_⟩;rcases h2 with ⟨rfl,rfl⟩|⟨c,v,rfl,o,rfl⟩<;>rcases H with ⟨rfl,rfl⟩|⟨k,A,rfl,q,rfl⟩
  .simp [Instr.sliceBounds]
  .simp [Instr.sliceBounds,iO (P:=P) rfl q (y:=h) (by omega) w]
  .simp [Instr.sliceBounds,iO (P:=P) rfl o (y:=cap) (by omega) w]
  .simp [Instr.sliceBounds,iO (P:=P) rfl o (y:=cap) (by omega) w,iO (P:=P) rfl q (y:=v.toNat) (by omega) w]
 .refine ⟨r.toNat,Nat.le_refl _,by omega,?_⟩;rcases h2 with ⟨rfl,rfl⟩|⟨c,v,rfl,o,rfl⟩
  .rcases O with O|O<;>cases O
  .rcases H with ⟨rfl,rfl⟩|⟨k,A,rfl,q,rfl⟩
   .simp [Instr.sliceBounds,iO (P:=P) rfl t (y:=cap) (by omega) w,iO (P:=P) rfl o (y:=r.toNat) (by omega) w]
   .simp [Instr.sliceBounds,iO (P:=P) rfl t (y:=cap) (by omega) w,iO (P:=P) rfl o (y:=r.toNat) (by omega) w,iO (P:=P) rfl q (y:=v.toNat) (by omega) w]
def Af(D:P.underlying T=some (.slice e))(hs:dY P e=some n){sa:Option Addr}{len l:Nat}(H:BV lo 0 l)(h2:BV hi len h)(K:BV mx len m)(k1:l<=h)(k2:h<=m)(k3:m<=len)(k4:len<=cap)
  (O:mx=none\/hi.isSome=true) (w:World) :
  ∃X,m<=X/\X<=cap/\(Instr.sliceAt T (.slice sa len cap) lo hi mx).run P w=.ok (.slice (if X=l then sa else sa.map (·.add (l*n))) (h-l) (X-l)) w:=by
 obtain⟨i,v,q⟩:=cH hs;obtain⟨X,c,r,Z⟩:=mh (P:=P) (b:=true) H h2 K k1 k2 k3 k4 O w;refine⟨X,c,r,?_⟩;have U:(Go.sizeOf e).run P w=.ok n w:=by simp[Go.sizeOf,typeInfo,v,q]
 simp only[Instr.sliceAt,Instr.slice,Sem.run_bind,run_underlying D w,Result.andThen_ok,Z,U,Sem.run_pure]
def VN(m:P.underlying T=some .string){s:ByteArray}{l:Nat}(H:BV lo 0 l)(h2:BV hi s.size h)(k1:l<=h)(k2:h<=s.size)(w:World) :
  (Instr.sliceAt T (.string s) lo hi none).run P w=.ok (.string (s.extract l h)) w:=by
 obtain⟨X,_,_,K⟩:=mh (P:=P) (b:=false) (mx:=none) (cap:=s.size) H h2 (.inl ⟨rfl,rfl⟩) k1 k2 (Nat.le_refl _) (Nat.le_refl _) (.inl rfl) w;simp only[Instr.sliceAt,Instr.slice,Sem.run_bind,run_underlying m w,Result.andThen_ok];simp[K]
def mD(S:aA G J w ι obj)(c:∀t,cW J w ι (get t) (a.tmps.getD t Go.undef)){o:Option Operand}{o':Option bF}{d v:Nat}(O:fU o=some o')(V:iF d (o'.map (·.ev G get))=some v):BV (o.map a.eval) d v:=by
 cases o with
 |none=>simp only[fU]at O;cases O;simp only[Option.map_none,iF]at V;exact .inl ⟨rfl,(Option.some.inj V).symm⟩
 |some X=>
  simp only[fU]at O;split at O
  .rename_i y B;cases O;have hr:=aZ S c B;simp only[Option.map_some]at V;unfold iF at V;split at V
   .rename_i m;cases m
   .rename_i k i m;rw[Option.some.inj m]at hr;have T:a.eval X=.int k i:=hr;split at V
    .rename_i h0;exact .inr ⟨k,i,by simp[T],h0,(Option.some.inj V).symm⟩
    .cases V
   .cases V
  .cases O
def OJ(S:aA G J w ι obj)(c:∀t,cW J w ι (get t) (a.tmps.getD t Go.undef)){X:Operand}{x:bF}(Z:aI X=some x){lo hi mx:Option Operand}{lo' H mx':Option bF}(k:fU lo=some lo')(hh:fU hi=some H)(u:fU mx=some mx')
  (hmh:(mx.isNone||hi.isSome)=true) {el:TypeId} (D:P.underlying T=some (.slice el)) (hs:dY P el=some n) {e:fN} (A:de G get obj base (.sli n x lo' H mx')=some e) :
  ∃v,(Instr.sliceAt T (a.eval X) (lo.map a.eval) (hi.map a.eval) (mx.map a.eval)).run P w=.ok v w/\cW J w ι e.r v/\e.nw=[]/\e.wr=[]:=by
 have B:=aZ S c Z;have hmm:mx.map a.eval=none\/(hi.map a.eval).isSome=true:=by
  cases mx with
  |none=>exact .inl rfl
  |some _=>right;cases hi<;>simp at hmh ⊢
 simp only[de]at A;split at A
 .rename_i q rows y;rw[y]at B;split at A
  .rename_i l h m b1 b2 b3;split at A
   .rename_i U;obtain⟨rfl,k1,k2,k3⟩:=U;cases A;obtain⟨sa,len,cap,E,hlen,j,hr⟩:=B;subst hlen;obtain⟨m',p1,p2,K⟩:=Af (P:=P) D hs (sa:=sa) (mD S c k b1) (mD S c hh b2) (mD S c u b3) k1 k2 k3 j hmm w;refine⟨_,by rw[E];exact K,⟨_,h-l,m'-l,rfl,by simp;omega,by omega,?_⟩,rfl,rfl⟩;by_cases O:h=l
    .left;simp[O]
    .right;rcases hr with hr|⟨b,off,rfl,hJ,hr⟩
     .rw [hr]at k3;simp at k3;omega
     .refine ⟨b,off+l*q,?_,hJ,(hr.drop l).take _⟩;rw[if_neg (by omega)];simp[Addr.add_mid]
   .cases A
  .cases A
 .rename_i o on q slo len y;rw[y]at B;split at A
  .rename_i l h m b1 b2 b3;split at A
   .rename_i U;obtain⟨rfl,k1,k2,k3⟩:=U;cases A;rcases B with ⟨O,sa,E⟩|⟨b,cap,et,C,V,E,j,hsh,hC⟩
    .subst O;obtain⟨m',p1,p2,K⟩:=Af (P:=P) D hs (sa:=sa) (cap:=0) (mD S c k b1) (mD S c hh b2) (mD S c u b3) k1 k2 k3 (Nat.le_refl _) hmm w;rw[show h-l=0 by omega,show m'-l=0 by omega]at K;exact⟨_,by rw[E];exact K,.inl ⟨by omega,_,rfl⟩,rfl,rfl⟩
    .obtain ⟨m',p1,p2,K⟩:=Af (P:=P) D hs (sa:=some ⟨b,slo*q,none⟩) (mD S c k b1) (mD S c hh b2) (mD S c u b3) k1 k2 k3 j hmm w;refine⟨_,by rw[E];exact K,?_,rfl,rfl⟩;by_cases O:m'=l
     .left;rw[show h-l=0 by omega,show m'-l=0 by omega];exact⟨rfl,_,rfl⟩
     .right;refine⟨b,m'-l,et,C,V,?_,by omega,hsh,?_⟩
      .rw [if_neg O];simp[Addr.add_mid,Nat.add_mul]
      .refine Nat.le_trans (Nat.mul_le_mul_right _ ?_) hC;omega
   .cases A
  .cases A
 .rename_i y;rw[y]at B;have E:a.eval X=.slice none 0 0:=B;split at A
  .rename_i l h m b1 b2 b3;split at A
   .rename_i U;obtain⟨k1,k2,k3⟩:=U;cases A;obtain⟨m',p1,p2,K⟩:=Af (P:=P) D hs (sa:=none) (len:=0) (cap:=0) (mD S c k b1) (mD S c hh b2) (mD S c u b3) k1 k2 k3 (Nat.le_refl _) hmm w;refine⟨_,by rw[E];exact K,?_,rfl,rfl⟩;show _=_;rw[show h-l=0 by omega,show m'-l=0 by omega]
    split<;>rfl
   .cases A
  .cases A
 .cases A
def rY{fs:Array Field}{f:Field}(m:P.underlying T=some (.struct fs))(V:fs[k]? = some f)(hs:dY P f.type=some (n+1))(b o:Nat)(w:World) :
  (Instr.fieldAt T (.pointer (some ⟨b,o,none⟩)) k).run P w=.ok (.pointer (some ⟨b,o+f.offset,none⟩)) w:=by
 obtain⟨i,hi,q⟩:=cH hs;have A:(Go.sizeOf f.type).run P w=.ok (n+1) w:=by simp[Go.sizeOf,typeInfo,hi,q]
 simp only[Instr.fieldAt,Sem.run_bind,run_underlying m w,Result.andThen_ok,V,Instr.sureAddr,Sem.run_pure,fieldPlace,A];rw[if_neg (by omega)];simp[Addr.add_mid]
def MN(m:P.underlying T=some (.slice e))(hs:dY P e=some n)(b o len cap:Nat)(k:IntKind)(i:Int)(h0:0<=i)(y:i.toNat<len)(w:World) :
  (Instr.indexAt T (.slice (some ⟨b,o,none⟩) len cap) (.int k i)).run P w=.ok (.pointer (some ⟨b,o+i.toNat*n,none⟩)) w:=by
 obtain⟨j,hj,q⟩:=cH hs;have A:(Go.sizeOf e).run P w=.ok n w:=by simp[Go.sizeOf,typeInfo,hj,q]
 have U:0<=i/\i<len:=⟨h0,by omega⟩;simp only[Instr.indexAt,asIntOf,Sem.run_bind,Sem.run_pure,Result.andThen_ok,run_underlying m w];rw[if_pos U];simp[A,Addr.add_mid]
def FN{len:Nat}(m:P.underlying T=some (.array len e))(hs:dY P e=some n)(b o:Nat)(k:IntKind)(i:Int)(h0:0<=i)(y:i.toNat<len)(w:World) :
  (Instr.indexAt T (.pointer (some ⟨b,o,none⟩)) (.int k i)).run P w=.ok (.pointer (some ⟨b,o+i.toNat*n,none⟩)) w:=by
 obtain⟨j,hj,q⟩:=cH hs;have A:(Go.sizeOf e).run P w=.ok n w:=by simp[Go.sizeOf,typeInfo,hj,q]
 have U:0<=i/\i<len:=⟨h0,by omega⟩;simp only[Instr.indexAt,asIntOf,Sem.run_bind,Sem.run_pure,Result.andThen_ok,run_underlying m w,Instr.sureAddr];rw[if_pos U];simp[A,Addr.add_mid]
def tn(j:qa P T=some false){b o:Nat}(E:w.cell? ⟨b,o,none⟩=some v) :
  (Instr.loadAt T (.pointer (some ⟨b,o,none⟩))).run P w=.ok v w:=by
 simp[Instr.loadAt,Instr.sureAddr,loadVar,nW j,E]
def Ag(B:qa P T=some true)(hs:dY P T=some n){b o:Nat}{vs:List Value}(E:w.rangeAt b o vs)(y:vs.length=n) :
  (Instr.loadAt T (.pointer (some ⟨b,o,none⟩))).run P w=.ok (.agg vs.toArray) w:=by
 obtain⟨i,hi,q⟩:=cH hs;have H:(loadCells ⟨b,o,none⟩ vs.length).run P w=.ok vs.toArray w:=run_loadCells_list (P:=P) w ⟨b,o,none⟩ vs (λj v h=>by rw[Addr.add_mid];exact E j v h);rw[y]at H;simp[Instr.loadAt,Instr.sureAddr,loadVar,nW B,Go.sizeOf,typeInfo,hi,q,H]
def A7(hs:dY P T=some n){b o:Nat}(B:w.there b o v.cells.size)(y:v.cells.size=n)(H:∀u∈v.cells.toList,u.oneCell'=true) :
  (Instr.storeAt T (.pointer (some ⟨b,o,none⟩)) v).run P w=.ok () (w.setCells b o v.cells.toList):=by
 obtain⟨i,hi,q⟩:=cH hs;have:=run_storeCells_cells (P:=P) b o v.cells.toList 0 w (λj hj=>by simpa using(B j (by simpa using hj)).1) (λj hj=>by simpa using(B j (by simpa using hj)).2) H;simp only[Nat.add_zero]at this;simp[Instr.storeAt,Instr.sureAddr,storeVar,Go.sizeOf,typeInfo,hi,q,y,this]
def A8(S:aA G J w ι obj)(c:∀t,cW J w ι (get t) (a.tmps.getD t Go.undef)){aJ:Nat} : ∀{xs:List Operand} {ys:List bF} {rows:List (List DV)},dJ xs=some ys->rowsOf G get aJ ys=some rows->
  vA (λ(x:Operand) (r:List DV)=>bG J w r (a.eval x).cells.toList/\(∀v∈(a.eval x).cells.toList,v.oneCell'=true)/\r.length=aJ) xs rows
 |[],ys,rows,h,k=>by simp only[dJ]at h;cases h;simp only[rowsOf]at k;cases k;exact .nil
 |x::xs,ys,rows,h,k=>by
  simp only[dJ]at h;split at h
  .rename_i y o H h2;cases h;simp only[rowsOf]at k;split at k
   .rename_i cs b;split at k
    .rename_i ds m;split at k
     .rename_i V;split at k
      .rename_i r hr;cases k;have B:=pY (aZ S c H) b;exact .cons ⟨m_ m B.CV,B.one,V⟩ (A8 S c h2 hr)
      .cases k
     .cases k
    .cases k
   .cases k
  .cases h
def EW(S:aA G J w ι obj)(X:∀t,cW J w ι (get t) (a.tmps.getD t Go.undef)){aJ:Nat} : ∀{xs:List Operand} {ys:List bF} {cs:List LV},dJ xs=some ys->xy G get aJ ys=some cs->
  bx J w ι cs (((xs.map a.eval).map (·.cells.toList)).flatten)/\(∀v∈xs.map a.eval,v.cells.size=aJ)/\cs.length=xs.length*aJ
 |[],ys,cs,h,k=>by simp only[dJ]at h;cases h;simp only[xy]at k;cases k;exact⟨trivial,by simp,by simp⟩
 |x::xs,ys,cs,h,k=>by
  simp only[dJ]at h;split at h
  .rename_i y o H h2;cases h;simp only[xy]at k;split at k
   .rename_i c b;split at k
    .rename_i V;split at k
     .rename_i r hr;cases k;have B:=pY (aZ S X H) b;obtain⟨k1,k2,k3⟩:=EW S X h2 hr;have U:(a.eval x).cells.size=aJ:=by
       have:=B.length;simp at this;omega
      refine⟨?_,?_,by rw[length_append,length_cons,k3,V,Nat.add_mul];omega⟩
      .rw [map_cons,map_cons,flatten_cons];exact bx.append B k1
      .intro v E;rw[map_cons]at E;rcases mem_cons.1 E with rfl|E
       .exact U
       .exact k2 v E
     .cases k
    .cases k
   .cases k
  .cases h
def De{α:Type}(l:List α)(o:Nat)(xs ys:List α)(h:o+xs.length+ys.length<=l.length):splice (splice l o xs) (o+xs.length) ys=splice l o (xs++ys):=by
 unfold splice;have H:(l.take o++xs).length=o+xs.length:=by simp;omega
 rw[take_left' H,<- H,<- drop_drop,drop_left,H,drop_drop,length_append,append_assoc,append_assoc,append_assoc,append_assoc];rw[show o+xs.length+ys.length=o+(xs.length+ys.length)by omega]
def yI(n:Nat):∀(b:List Value) (k:Nat) (cells:Array Value),(∀v∈b,v.cells.size=n)->(k+b.length)*n<=cells.size->
  ∃cs,Instr.fill (λi=>some (i*n,n)) cells ((range' k b.length).zip b)=some cs/\cs.toList=splice cells.toList (k*n) (b.map (·.cells.toList)).flatten
 |[],k,cells,_,_=>⟨cells,by simp[Instr.fill],by simp[splice]⟩
 |v::b,k,cells,h,y=>by
  have E:=h v (by simp);simp only[length_cons]at y;have q:(k+1)*n<=cells.size:=Nat.le_trans (Nat.mul_le_mul_right _ (by omega)) y;rw[Nat.add_mul]at q;have j:(v.cells.zipIdx.foldl (λcs (p:Value×Nat)=>cs.setIfInBounds (k*n+p.2) p.1) cells).toList=splice cells.toList (k*n) v.cells.toList:=by have:=sQ (k*n) v.cells.toList 0 cells (by simp[E];omega);simp only[Nat.add_zero]at this;rw[<- this,<- Array.foldl_toList];simp
  generalize X:v.cells.zipIdx.foldl (λcs (p:Value×Nat)=>cs.setIfInBounds (k*n+p.2) p.1) cells=A at j;have r:A.size=cells.size:=by have:=congrArg length j;rw[LA _ _ _ (by simp[E];omega)]at this;simpa using this
  obtain⟨cs,k1,k2⟩:=yI n b (k+1) A (λu m=>h u (by simp[m])) (by rw[r,show k+1+b.length=k+(b.length+1)by omega];exact y);refine⟨cs,?_,?_⟩
  .simp only[length_cons,range'_succ,zip_cons_cons,Instr.fill];rw[if_neg (by rw[E];simp;omega),X];exact k1
  .rw [k2,j];simp only[map_cons,flatten_cons];have o:v.cells.toList.length=n:=by simpa using E
   have O:(b.map (·.cells.toList)).flatten.length=b.length*n:=by
    have K:∀u∈b,u.cells.size=n:=λu m=>h u (by simp[m])
    clear k1 k2 y
    induction b with
    |nil=>simp
    |cons u us c=>simp only[map_cons,flatten_cons,length_append,length_cons,Nat.add_mul];rw[c (λx Z=>h x (by simp at Z ⊢;rcases Z with Z|Z<;>simp[Z])) (λx Z=>K x (by simp[Z]))];have:=K u (by simp);simp[this];omega
   have:=De cells.toList (k*n) v.cells.toList (b.map (·.cells.toList)).flatten (by
    have T:cells.toList.length=cells.size:=Array.length_toList;rw[o,O,T];have e:(k+(b.length+1))*n=k*n+n+b.length*n:=by simp only[Nat.add_mul];omega
    omega)
   rw[o]at this;rw[show(k+1)*n=k*n+n by rw[Nat.add_mul];omega];exact this
end
end
section
variable{o:Oper}{v:Value}{x:bF}{X:Operand}{T t:TypeId}{e:fN}{n off et aJ:Nat}{cs:Array Value}{β:Type}{parts:Array (Nat×Operand)}
section
variable {P:Program} {G:tY} {J:Nat->Prop} {w w':World} {ι:fe} {obj:Nat->bK} {a:Act} {get:Nat->LV} {base:Nat}
def cL.value{s:Sem Value}{w':World}{post:Value->World->Prop}(c:execOp a.eval o=(do pure (.value (<- s))))(hr:s.run P w=.ok v w')(S:post v w'):cL P o a w post:=
 cL.of_run (by rw[c,Sem.run_bind,hr];rfl) S
theorem Ty(S:aA G J w ι obj)(c:∀t,cW J w ι (get t) (a.tmps.getD t Go.undef))(Z:aI X=some x)(j:qa P T=some false)(A:de G get obj base (.ld1 x)=some e) :
  ∃v,(Instr.loadAt T (a.eval X)).run P w=.ok v w/\cW J w ι e.r v/\e.nw=[]/\e.wr=[]:=by
 have B:=aZ S c Z;simp only[de]at A;split at A
 .rename_i o col y;rw[y]at B;split at A
  .rename_i et cells O;split at A
   .rename_i v E;cases A;obtain⟨b,V,h⟩:=B;have h0:=S.rep o;rw[O]at h0;obtain⟨⟨k,C,H,h2,K⟩,_⟩:=h0;rw[V]at H;cases H;obtain⟨u,m,h1c,IB⟩:=K.get E;rw[h];exact⟨u,tn j (by rw[cell_of_row w b col C et _ h2];simpa using m),IB,rfl,rfl⟩
   .cases A
  .cases A
 .rename_i row col y;rw[y]at B;split at A
  .rename_i v E;cases A;obtain⟨b,off,V,h,hr⟩:=B;obtain⟨u,m,h1c,IB⟩:=hr.get E;rw[h];exact⟨u,tn j m,IB,rfl,rfl⟩
  .cases A
 .rename_i o n aJ row col y;rw[y]at B;split at A
  .rename_i et Us rows O;split at A
   .rename_i U;obtain⟨rfl,rfl⟩:=U;split at A
    .rename_i r hr;split at A
     .rename_i v E;cases A;obtain⟨b,V,h⟩:=B;have h0:=S.rep o;rw[O]at h0;obtain⟨⟨_,H⟩,_⟩:=h0;obtain⟨_,h2⟩:=H b V;obtain⟨_,K⟩:=h2.get hr;obtain⟨u,m,h1c,IB⟩:=K.get E;rw[Nat.zero_add]at m;rw[h];exact⟨u,tn j m,IB,rfl,rfl⟩
     .cases A
    .cases A
   .cases A
  .rename_i et Us v0 cells O;split at A
   .rename_i U;obtain⟨rfl,rfl⟩:=U;split at A
    .rename_i v E;cases A;obtain⟨b,V,h⟩:=B;have h0:=S.rep o;rw[O]at h0;obtain⟨⟨_,H⟩|⟨k,C,H,h2,D,K⟩,_⟩:=h0
     .grind
     rw[V]at H;cases H;obtain⟨u,m,h1c,IB⟩:=K.get E;have hk:=(List.getElem?_eq_some_iff.1 E).1;rw[getElem?_take_of_lt hk]at m;rw[h];exact⟨u,tn j (by rw[cell_of_row w b _ C et _ h2];simpa using m),IB,rfl,rfl⟩
    .cases A
   .cases A
  .rename_i et bs O;split at A
   .rename_i U;subst U;split at A
    .rename_i rows q;split at A
     .rename_i r hr;split at A
      .rename_i v E;cases A;obtain⟨b,V,h⟩:=B;have h0:=S.rep o;rw[O]at h0;obtain⟨k,C,H,_,h2⟩:=h0.1.1 n rows q;rw[V]at H;cases H;obtain⟨_,K⟩:=h2.get hr;obtain⟨u,m,h1c,IB⟩:=K.get E;rw[Nat.zero_add]at m;rw[h];exact⟨u,tn j m,IB,rfl,rfl⟩
      .cases A
     .cases A
    .cases A
   .cases A
  .cases A
 .cases A
theorem Pv(S:aA G J w ι obj)(c:∀t,cW J w ι (get t) (a.tmps.getD t Go.undef))(Z:aI X=some x)(j:qa P T=some true)(hs:dY P T=some n)
  (A:de G get obj base (.Es n x)=some e) :
  ∃v,(Instr.loadAt T (a.eval X)).run P w=.ok v w/\cW J w ι e.r v/\e.nw=[]/\e.wr=[]:=by
 have B:=aZ S c Z;have ofRow:∀{b off:Nat} {row:List DV},dV J w row b off->∀col,((row.drop col).take n).length=n->
   ∃v,(Instr.loadAt T (.pointer (some ⟨b,off+col,none⟩))).run P w=.ok v w/\cW J w ι (.agg (((row.drop col).take n).map .d)) v:=by
  intro b off row hr col k;obtain⟨vs,v1,v2,v3⟩:=((hr.drop col).take n).vals;exact⟨_,Ag j hs v3 (by rw[<- v1.length,k]),vs.toArray,rfl,bG.zX v1 v2⟩
 simp only[de]at A;split at A
 .rename_i o col y;rw[y]at B;split at A
  .rename_i et cells O;split at A
   .rename_i k;cases A;obtain⟨b,V,h⟩:=B;have h0:=S.rep o;rw[O]at h0;obtain⟨⟨D,C,H,h2,K⟩,_⟩:=h0;rw[V]at H;cases H;have u:=(K.drop col).take n;rw[h];exact⟨_,Ag j hs (j_ h2 col n) (by rw[<- u.length,k]),⟨_,rfl,by grind⟩,rfl,rfl⟩
   .cases A
  .cases A
 .rename_i row col y;rw[y]at B;split at A
  .rename_i k;cases A;obtain⟨b,off,V,h,hr⟩:=B;rw[h];obtain⟨v,k1,k2⟩:=ofRow hr col k;exact⟨v,k1,k2,rfl,rfl⟩
  .cases A
 .rename_i o m aJ row col y;rw[y]at B;split at A
  .rename_i et E rows O;split at A
   .rename_i U;obtain⟨rfl,rfl⟩:=U;split at A
    .rename_i r hr;split at A
     .rename_i k;cases A;obtain⟨b,V,h⟩:=B;have h0:=S.rep o;rw[O]at h0;obtain⟨⟨_,H⟩,_⟩:=h0;obtain⟨_,h2⟩:=H b V;obtain⟨_,K⟩:=h2.get hr;rw[Nat.zero_add]at K;rw[h];obtain⟨v,k1,k2⟩:=ofRow K col k;exact⟨v,k1,k2,rfl,rfl⟩
     .cases A
    .cases A
   .cases A
  .rename_i et E v0 cells O;split at A
   .rename_i U;obtain⟨rfl,rfl,k⟩:=U;cases A;obtain⟨b,V,h⟩:=B;have h0:=S.rep o;rw[O]at h0;obtain⟨⟨_,H⟩|⟨D,C,H,h2,q,K⟩,_⟩:=h0
    .grind
    rw[V]at H;cases H;have u:=(K.drop (row*aJ+col)).take n;have hl2:=k;rw[length_take,length_drop]at hl2;rw[drop_take,take_take,show min n (cells.length-(row*aJ+col))=n by omega]at u;rw[h];exact⟨_,Ag j hs (j_ h2 _ n) (by grind),⟨_,rfl,by grind⟩,rfl,rfl⟩
   .cases A
  .cases A
 .cases A
theorem RY(S:aA G J w ι obj)(c:∀t,cW J w ι (get t) (a.tmps.getD t Go.undef)){y:bF}{Y:Operand}(Z:aI X=some x)(K:aI Y=some y)(hs:dY P T=some n)
  (A:de G get obj base (.st n x y)=some e) :
  ∃w',(Instr.storeAt T (a.eval X) (a.eval Y)).run P w=.ok () w'/\aO G obj (bB obj base e) J ι w e.r Go.undef w':=by
 have B:=aZ S c Z;have j:=aZ S c K;simp only[de]at A;split at A
 .rename_i cs hcs;have hrc:=pY j hcs;split at A
  .rename_i k;have hvl:(a.eval Y).cells.size=n:=by have:=hrc.length;simp at this;omega
   split at A
   .rename_i o col H;rw[H]at B;split at A
    .rename_i et cells O;split at A
     .rename_i D;cases A;obtain⟨b,V,h,u⟩:=aO.x_ S O hrc D;obtain⟨b',v,E⟩:=B;rw[V]at v;cases v;rw[E];exact⟨_,A7 hs (by grind) hvl hrc.one,u⟩
     .cases A
    .cases A
   .rename_i o m aJ row col H;rw[H]at B;split at A
    .rename_i et Us rows O;split at A
     .rename_i U;obtain⟨rfl,rfl⟩:=U;split at A
      .rename_i ds hds;split at A
       .rename_i r hr;split at A
        .rename_i D;cases A;obtain⟨b,V,h,u⟩:=aO.ZB S O hr (m_ hds hrc.CV) hrc.one D;obtain⟨b',v,E⟩:=B;rw[V]at v;cases v;rw[E];exact⟨_,A7 hs (by grind) hvl hrc.one,u⟩
        .cases A
       .cases A
      .cases A
     .cases A
    .rename_i et Us v0 cells O;split at A
     .rename_i U;obtain⟨rfl,rfl,D⟩:=U;cases A;obtain⟨b',v,E⟩:=B;obtain⟨b,V,h,u⟩:=aO.abj S O hrc D (by grind);rw[V]at v;cases v;rw[E];exact⟨_,A7 hs (by grind) hvl hrc.one,u⟩
     .cases A
    .rename_i et bs O;split at A
     .rename_i U;subst U;split at A
      .rename_i ds hds;split at A
       .rename_i rows q;split at A
        .rename_i r hr;split at A
         .rename_i D;cases A;obtain⟨b,V,h,u⟩:=aO.ZC S O q hr (m_ hds hrc.CV) hrc.one D;obtain⟨b',v,E⟩:=B;rw[V]at v;cases v;rw[E];exact⟨_,A7 hs (by grind) hvl hrc.one,u⟩
         .cases A
        .cases A
       .cases A
      .cases A
     .cases A
    .cases A
   .cases A
  .cases A
 .cases A
theorem PF(S:aA G J w ι obj)(c:∀t,cW J w ι (get t) (a.tmps.getD t Go.undef)){i:bF}{Y:Operand}(Z:aI X=some x)(K:aI Y=some i){el:TypeId}(D:P.underlying T=some (.slice el))(hs:dY P el=some n)
  (A:de G get obj base (.BU n x i)=some e) :
  ∃v,(Instr.indexAt T (a.eval X) (a.eval Y)).run P w=.ok v w/\cW J w ι e.r v/\e.nw=[]/\e.wr=[]:=by
 have B:=aZ S c Z;have o_:=aZ S c K;simp only[de]at A;split at A
 .rename_i k j y;rw[y]at o_;have hY:=o_;split at A
  .rename_i h0;split at A
   .rename_i el' rows Xj;rw[Xj]at B;split at A
    .rename_i hel;split at A
     .rename_i r hr;cases A;obtain⟨sa,m,cap,h,u,E,hrows⟩:=B;have q:=(List.getElem?_eq_some_iff.1 hr).1;rcases hrows with hrows|⟨b,off,rfl,V,hrows⟩
      .grind
      .subst hel;obtain⟨_,hrow⟩:=hrows.get hr;rw[h,hY];exact⟨_,MN D hs b off m cap k j h0 (by omega) w,⟨b,off+j.toNat*el',V,by simp,hrow⟩,rfl,rfl⟩
     .cases A
    .cases A
   .rename_i o m el' lo len Xj;rw[Xj]at B;have real:∀{b cap:Nat},a.eval X=.slice (some ⟨b,lo*el',none⟩) len cap->el'=n->j.toNat<len->
      (Instr.indexAt T (a.eval X) (a.eval Y)).run P w=.ok (.pointer (some ⟨b,(lo+j.toNat)*el',none⟩)) w:=by
     intro b cap h hel q;rw[h,hY];have:=MN (P:=P) D hs b (lo*el') len cap k j h0 q w;rw[<- hel]at this;rw[this,Nat.add_mul]
    split at A
    .rename_i et adY rows O;split at A
     .rename_i U;obtain⟨hel,adn,u,q⟩:=U;split at A
      .rename_i r hr;cases A;rcases B with ⟨H,_⟩|⟨b,cap,et',C,V,h,E,_⟩
       .omega
       .have Y5:=S.rep o;rw[O]at Y5;obtain⟨⟨_,H⟩,_⟩:=Y5;rw[u]at V;obtain⟨hJ,hrows⟩:=H b V;obtain⟨_,hrow⟩:=hrows.get hr;refine⟨_,real h hel q,⟨b,(lo+j.toNat)*el',hJ,by simp,?_⟩,rfl,rfl⟩;rw[Nat.zero_add,adn,<- hel]at hrow;exact hrow
      .cases A
     .cases A
    .split at A
     .rename_i U;obtain⟨hel,he1,u,q⟩:=U;cases A;rcases B with ⟨H,_⟩|⟨b,cap,et',C,V,h,E,_⟩
      .omega
      .rw [u]at V;exact⟨_,real h hel q,⟨b,V,by grind⟩,rfl,rfl⟩
     .cases A
    .split at A
     .rename_i U;obtain⟨hel,q⟩:=U;cases A;rcases B with ⟨H,_⟩|⟨b,cap,et',C,V,h,E,_⟩
      .omega
      .exact ⟨_,real h hel q,⟨b,V,by simp⟩,rfl,rfl⟩
     .cases A
   .cases A
  .cases A
 .cases A
theorem PE(S:aA G J w ι obj)(h:∀t,cW J w ι (get t) (a.tmps.getD t Go.undef)){i:bF}{Y:Operand}(Z:aI X=some x)(K:aI Y=some i){u:TypeId}{len:Nat}(D:P.underlying T=some (.array len u))(hs:dY P u=some n)
  (A:de G get obj base (.ixr len n x i)=some e) :
  ∃v,(Instr.indexAt T (a.eval X) (a.eval Y)).run P w=.ok v w/\cW J w ι e.r v/\e.nw=[]/\e.wr=[]:=by
 have B:=aZ S h Z;have U:=aZ S h K;simp only[de]at A;split at A
 .rename_i k j y;rw[y]at U;have q:=U;split at A
  .rename_i h0;split at A
   .rename_i o col H;rw[H]at B;cases A;obtain⟨b,V,E⟩:=B;rw[E,q];exact⟨_,FN D hs b col k j h0.1 h0.2 w,⟨b,V,rfl⟩,rfl,rfl⟩
   .rename_i o m es r c H;rw[H]at B;cases A;obtain⟨b,V,E⟩:=B;rw[E,q];exact⟨_,FN D hs b _ k j h0.1 h0.2 w,⟨b,V,by grind⟩,rfl,rfl⟩
   .rename_i r c H;rw[H]at B;cases A;obtain⟨b,off,V,E,hr⟩:=B;rw[E,q];exact⟨_,FN D hs b _ k j h0.1 h0.2 w,⟨b,off,V,by grind,hr⟩,rfl,rfl⟩
   .cases A
  .cases A
 .cases A
def HE(j:qa P t=some false)(E:cs[off]? = some v):(part t cs off).run P w=.ok v w:=by simp[part,nW j,E]
def DU(j:qa P t=some true)(hs:dY P t=some n):(part t cs off).run P w=.ok (.agg (cs.extract off (off+n))) w:=by obtain⟨i,hi,T⟩:=cH hs;simp[part,nW j,Go.sizeOf,typeInfo,hi,T]
def vA.map_eq{α:Type}{xs:List α}{ys:List β}{R:α->β->Prop}(h:vA R xs ys):xs.length=ys.length:=by
 induction h with
 |nil=>rfl
 |cons _ _ u=>simp[u]
theorem nO{e:TypeId}{b:Nat}(h:zD P e=some (n,b)):∃i z,P.info? e=some i/\i.zero=some z/\i.size=n/\i.bytes=b/\z.cells.size=i.size/\0<i.bytes/\0<i.size:=by
 unfold zD at h;split at h
 .grind
 .cases h
theorem DD{γ:Type}(f:β->γ):∀(l:List (Nat×β)) (k:Nat),l.map (·.1)=range' k l.length->l.map (λp=>(p.1,f p.2))=(range' k (l.map (λp=>f p.2)).length).zip (l.map (λp=>f p.2))
 |[],k,_=>rfl
 |p::l,k,h=>by grind
theorem vA.flat{aJ:Nat} : ∀{xs:List Operand} {rows:List (List DV)},vA (λ(x:Operand) (r:List DV)=>bG J w r (a.eval x).cells.toList/\(∀v∈(a.eval x).cells.toList,v.oneCell'=true)/\r.length=aJ) xs rows->
  bG J w rows.flatten ((xs.map a.eval).map (·.cells.toList)).flatten/\(∀v∈((xs.map a.eval).map (·.cells.toList)).flatten,v.oneCell'=true)/\(∀r∈rows,r.length=aJ)/\(∀v∈xs.map a.eval,v.cells.size=aJ)
 |_,_,.nil=>⟨trivial,(λ_ h=>by cases h),(λ_ h=>by cases h),(λ_ h=>by cases h)⟩
 |_,_,.cons H h2=>by
  obtain⟨k1,k2,k3,k4⟩:=vA.flat h2;obtain⟨K,u,y⟩:=H;refine⟨bG.append K k1,λv E=>?_,λr hr=>?_,λv E=>?_⟩
  .grind
  .grind
  .rcases mem_cons.1 E with rfl|E
   .have:=K.length;simp at this;omega
   .grind
theorem Jl(S:aA G J w ι obj){bs:Nat}{rows:List (List DV)}(m:P.underlying T=some (.slice et))(H:zD P et=some (aJ,bs))(e:n*aJ<=16777216)(q:parts.toList.map (·.1)=List.range n)(V:obj base=.free)
  (X:vA (λ(x:Operand) (r:List DV)=>bG J w r (a.eval x).cells.toList/\(∀v∈(a.eval x).cells.toList,v.oneCell'=true)/\r.length=aJ) (parts.toList.map (·.2)) rows) :
  ∃v w',(Instr.buildSlice T n (parts.map λ(i,x)=>(i,a.eval x))).run P w=.ok v w'/\aO G obj (λo=>if o=base then .live (.dat et aJ rows)else obj o) J ι w (.sl base rows.length aJ 0 rows.length) v w':=by
 obtain⟨i,z,hi,A,U,_,hzc,_,y⟩:=nO H;have hlen:=X.map_eq;have B:parts.toList.length=n:=by have:=congrArg length q;simpa using this
 rw[length_map,B]at hlen;obtain⟨f1,f2,f3,f4⟩:=X.flat;have D:(parts.map λ(i,x)=>(i,a.eval x)).toList=(range' 0 ((parts.toList.map (·.2)).map a.eval).length).zip ((parts.toList.map (·.2)).map a.eval):=by have:=DD a.eval parts.toList 0 (by rw[q,B,range_eq_range']);rw[Array.toList_map,map_map];exact this
 let C0:Array Value:=(Array.range (n*aJ)).map ((if n*aJ=0 then#[]else z.cells)[· % (if n*aJ=0 then#[]else z.cells).size]!)
 have hC0:C0.size=n*aJ:=by simp[C0]
 have c:((parts.toList.map (·.2)).map a.eval).length=n:=by grind
 obtain⟨cs,k1,k2⟩:=yI aJ ((parts.toList.map (·.2)).map a.eval) 0 C0 f4 (by grind);have K:(Instr.buildSlice T n (parts.map λ(i,x)=>(i,a.eval x))).run P w=.ok (.slice (some ⟨w.heap.size,0,none⟩) n n) (w.alloc (.cells cs et)):=by
  have t:¬n*aJ>2 ^ 24:=by omega
  have Z:∀w:World,(Go.sizeOf et).run P w=.ok aJ w:=λw=>by simp[Go.sizeOf,typeInfo,hi,U]
  have hze:∀w:World,(zeroValue et).run P w=.ok z w:=λw=>by simp[zeroValue,typeInfo,hi,A]
  by_cases h0:n*aJ=0
  .have k:=k1;simp only[C0,if_pos h0]at k;simp only[Instr.buildSlice,Sem.run_bind,run_underlying m w,Result.andThen_ok,Z,if_neg t,Sem.run_pure,if_pos h0,D,k];simp[newRow]
  .have k:=k1;simp only[C0,if_neg h0]at k;simp only[Instr.buildSlice,Sem.run_bind,run_underlying m w,Result.andThen_ok,Z,if_neg t,Sem.run_pure,if_neg h0,hze,D,k];simp[newRow]
 have b:cs.toList=((parts.toList.map (·.2)).map a.eval |>.map (·.cells.toList)).flatten:=by
  rw[k2];have O:(((parts.toList.map (·.2)).map a.eval).map (·.cells.toList)).flatten.length=C0.toList.length:=by
   have ads:C0.toList.length=n*aJ:=by grind
   rw[<- f1.length,oD f3,ads,<- hlen]
  simp only[Nat.zero_mul];unfold splice;rw[Nat.zero_add,O];simp
 refine⟨_,_,K,?_⟩;have aar:cs.size=n*aJ:=by have:cs.toList.length=cs.size:=Array.length_toList;rw[<- this,b,<- f1.length,oD f3,<- hlen]
 have:=aO.dat (G:=G) (J:=J) (w:=w) (ι:=ι) S V et aJ rows cs w.drawn n (by omega) (by grind) (λι' E=>by refine bq.wm (bG.mono (λ_ h=>h) (S.same E) _ _ f1) f2 f3 (cE { w with drawn:=w.drawn } _) (λj u m=>?_);rw[<- b]at m;simpa using m);rw[<- hlen]at this ⊢;exact this
def xq:∀{xs:List Operand} {ys:List bF},dJ xs=some ys->ys.length=xs.length
 |[],ys,h=>by simp only[dJ]at h;cases h;rfl
 |x::xs,ys,h=>by
  simp only[dJ]at h;split at h
  .rename_i H h2;cases h;simp[xq h2]
  .cases h
theorem QI(S:aA G J w ι obj)(c:∀t,cW J w ι (get t) (a.tmps.getD t Go.undef)){ys:List bF}(U:cV P (.buildSlice T n parts)=some (.Y9 et aJ ys))
  (V:obj base=.free) (A:de G get obj base (.Y9 et aJ ys)=some e) :
  ∃v w',(Instr.buildSlice T n (parts.map λ(i,x)=>(i,a.eval x))).run P w=.ok v w'/\aO G obj (bB obj base e) J ι w e.r v w':=by
 simp only[cV]at U;split at U
 .rename_i el D;split at U
  .rename_i size bs xs H h2;split at U
   .rename_i pQ;cases U;obtain⟨hfit,hidx⟩:=pQ;obtain⟨i,z,hi,q,hsz,_,hzc,_,hpos⟩:=nO H;simp only[de]at A;split at A
    .rename_i rows k;cases A;have j:=A8 S c h2 k;exact Jl S D H hfit hidx V j
    .split at A
     .rename_i x Z;split at A
      .rename_i aap;subst aap;split at A
       .rename_i o ob d hfr;cases A
        obtain⟨X,hxs,B⟩:∃X,parts.toList.map (·.2)=[X]/\cW J w ι x (a.eval X):=by
         unfold Bw at Z;split at Z
         .rename_i p;cases hXs:parts.toList.map (·.2)with
          |nil=>rw[hXs]at h2;simp only[dJ]at h2;cases h2
          |cons X Xs=>
           rw[hXs]at h2;simp only[dJ]at h2;split at h2
           .rename_i y ys' g1 g2;cases h2;cases Xs with
            |nil=>
             refine⟨X,rfl,?_⟩;have:=aZ S c g1;split at Z
             .grind
             .cases Z
            |cons X' Xs'=>simp only[dJ]at g2;split at g2<;>cases g2
           .cases h2
         .cases Z
        unfold sO at hfr;split at hfr
        .rename_i o' m e0 lo len;split at hfr
         .rename_i t e' rows O;split at hfr
          .rename_i B_;obtain⟨rfl,rfl,h⟩:=B_;cases hfr;obtain⟨S1,E1⟩:=S.freeze O;obtain⟨r1,r2,r3⟩:=OL S O h B;have hne:base≠o:=λe=>by grind
           obtain⟨v,w',E,J2,Fk,S2,R2,E2⟩:=Jl (rows:=[[.cM e0 ((rows.drop lo).take len)]]) S1 D H hfit hidx (base:=base) (by grind) (by
            rw[hxs];refine .cons ⟨?_,?_,rfl⟩ .nil
            .rw [r2];exact⟨r1,trivial⟩
            .rw [r2];intro u D;simp at D;rw[D];exact r3)
           exact⟨v,w',E,J2,Fk,S2,R2,E1.trans E2⟩
          .cases hfr
         .cases hfr
        .cases hfr
       .cases A
      .cases A
     .split at A
      .rename_i cl hcl;obtain⟨b1,b2,b3⟩:=EW S c h2 hcl;have hpl:parts.toList.length=n:=by have:=congrArg length hidx;simpa using this
       have Z6:ys.length=n:=by rw[<- hpl];have:=xq h2;simpa using this
       rw[length_map,hpl]at b3;have YG:(parts.map λ(i,x)=>(i,a.eval x)).toList=(range' 0 ((parts.toList.map (·.2)).map a.eval).length).zip ((parts.toList.map (·.2)).map a.eval):=by have:=DD a.eval parts.toList 0 (by rw[hidx,hpl,range_eq_range']);rw[Array.toList_map,map_map];exact this
       let C0:Array Value:=(Array.range (n*aJ)).map ((if n*aJ=0 then#[]else z.cells)[· % (if n*aJ=0 then#[]else z.cells).size]!)
       have hC0:C0.size=n*aJ:=by simp[C0]
       have hvl:((parts.toList.map (·.2)).map a.eval).length=n:=by grind
       obtain⟨cs,k1,k2⟩:=yI aJ ((parts.toList.map (·.2)).map a.eval) 0 C0 b2 (by grind);have K:(Instr.buildSlice T n (parts.map λ(i,x)=>(i,a.eval x))).run P w=.ok (.slice (some ⟨w.heap.size,0,none⟩) n n) (w.alloc (.cells cs et)):=by
        have YY:¬n*aJ>2 ^ 24:=by omega
        have hso:∀w:World,(Go.sizeOf et).run P w=.ok aJ w:=λw=>by simp[Go.sizeOf,typeInfo,hi,hsz]
        have hze:∀w:World,(zeroValue et).run P w=.ok z w:=λw=>by simp[zeroValue,typeInfo,hi,q]
        by_cases h0:n*aJ=0
        .have Yv:=k1;simp only[C0,if_pos h0]at Yv;simp only[Instr.buildSlice,Sem.run_bind,run_underlying D w,Result.andThen_ok,hso,if_neg YY,Sem.run_pure,if_pos h0,YG,Yv];simp[newRow]
        .have Yv:=k1;simp only[C0,if_neg h0]at Yv;simp only[Instr.buildSlice,Sem.run_bind,run_underlying D w,Result.andThen_ok,hso,if_neg YY,Sem.run_pure,if_neg h0,hze,YG,Yv];simp[newRow]
       have hfl:(((parts.toList.map (·.2)).map a.eval).map (·.cells.toList)).flatten.length=n*aJ:=by rw[<- b1.length,b3]
       have adv:C0.toList.length=n*aJ:=by grind
       have adV:cs.toList=(((parts.toList.map (·.2)).map a.eval).map (·.cells.toList)).flatten:=by rw[k2];simp only[Nat.zero_mul];unfold splice;rw[Nat.zero_add,hfl,<- adv];simp
       have aar:cs.size=n*aJ:=by grind
       split at A
       .rename_i aap;cases A;subst aap;rw[Nat.mul_one]at b3 aar;have j:=aO.box (G:=G) (J:=J) (w:=w) (ι:=ι) S V et cl cs (by grind);obtain⟨J',ι',q1,⟨b,q2,q3⟩,q4⟩:=j;have hbe:b=w.heap.size:=by grind
        subst hbe;refine⟨_,_,K,J',ι',q1,.inr ⟨_,n,et,n,q2,?_,?_,?_,?_⟩,q4⟩
        .grind
        .grind
        .simp only[shape?,cE];rw[aar]
        .omega
       .cases A;have j:=aO.lr (G:=G) (J:=J) (w:=w) (ι:=ι) S V et aJ cl cs w.drawn n n (Nat.le_refl _) (by grind) (by grind) (by grind);rw[Z6];exact⟨_,_,K,j⟩
      .cases A
   .cases U
  .cases U
 .cases U
def Qn(S:aA G J w ι obj)(he:∀t,cW J w ι (get t) (a.tmps.getD t Go.undef)){i:I}(A:de G get obj base i=some e)(hfree:∀j,j<e.nw.length->obj (base+j)=.free)(U:cV P o.op=some i) :
  cL P o a w (aO G obj (bB obj base e) J ι w e.r):=by
 obtain⟨dst,op,type,pos,after,guard⟩:=o;dsimp only at U;have stay:∀{e:fN} {v:Value},e.nw=[]->e.wr=[]->cW J w ι e.r v->aO G obj (bB obj base e) J ι w e.r v w:=by intro e v H h2 K;simp only[bB,H,h2,rA,cG];exact aO.stay S K
 cases op with
 |move x=>
  simp only[cV]at U;split at U
  .rename_i y hy;cases U;simp only[de]at A;cases A;exact cL.of_run rfl (stay rfl rfl (aZ S he hy))
  .cases U
 |assign x=>
  simp only[cV]at U;split at U
  .rename_i y hy;cases U;simp only[de]at A;cases A;exact cL.of_run rfl (stay rfl rfl (aZ S he hy))
  .cases U
 |pick c x y=>
  simp only[cV]at U;split at U
  .rename_i c' x' y' H h2 K;cases U;simp only[de]at A;split at A
   .rename_i b V;cases A;have hrc:=aZ S he H;rw[V]at hrc;have wR:a.eval c=.bool b:=hrc;refine cL.of_run (v:=if b then a.eval x else a.eval y) (by simp[execOp,wR,asBool]) (stay rfl rfl ?_);cases b
    .exact aZ S he K
    .exact aZ S he h2
   .cases A
  .cases U
 |alloc T=>
  simp only[cV]at U;split at U
  .rename_i z hz;cases U;simp only[de]at A;cases A;obtain⟨v,E,hr⟩:=xL (J:=J) (w:=w) (ι:=ι) hz;have V:obj base=.free:=by simpa using hfree 0 (by simp)
   have:=aO.box S V T (z.map .d) v.cells hr;exact cL.value (s:=Instr.alloc T true (.tuple #[])) rfl (by simp[Instr.alloc,E,newVar,newRow]) this
  .cases U
 |box T x=>
  simp only[cV]at U;split at U
  .rename_i y hy;cases U;simp only[de]at A;split at A
   .rename_i cs hcs;cases A;have V:obj base=.free:=by simpa using hfree 0 (by simp)
    have:=aO.box S V T cs (a.eval x).cells (pY (aZ S he hy) hcs);exact cL.value (s:=Instr.box T (a.eval x)) rfl (by simp[Instr.box,newVar,newRow]) this
   .cases A
  .cases U
 |build T parts=>
  have hc':=U;obtain⟨zero,ps,rfl⟩:∃zero ps,i=.build zero ps:=by
   simp only[cV]at U;split at U
   .split at U
    .split at U
     .cases U;exact⟨_,_,rfl⟩
     .cases U
    .cases U
   .split at U
    .split at U
     .cases U;exact⟨_,_,rfl⟩
     .cases U
    .cases U
   .cases U
  simp only[de]at A;split at A
  .rename_i cs hcs;cases A;obtain⟨v,E,hr⟩:=Jk S he hc' hcs;exact cL.value (s:=Instr.build T (parts.map λ(i,x)=>(i,a.eval x))) rfl E (stay rfl rfl hr)
  .cases A
 |buildSlice T n parts=>
  have hc':=U;obtain⟨et,aJ,ys,rfl⟩:∃et aJ ys,i=.Y9 et aJ ys:=by
   simp only[cV]at U;split at U
   .split at U
    .split at U
     .cases U;exact⟨_,_,_,rfl⟩
     .cases U
    .cases U
   .cases U
  have V:obj base=.free:=by
   have hlen:0<e.nw.length:=by
    simp only[de]at A
    (repeat' split at A)<;>first|(cases A;simp;done)|cases A
   simpa using hfree 0 hlen
  obtain⟨v,w',E,hA⟩:=QI S he hc' V A;refine cL.of_run (v:=v) (w':=w') ?_ hA;simp only[execOp,Sem.run_bind];rw[E];rfl
 |load T x=>
  simp only[cV]at U;split at U
  .rename_i y n H h2 K;cases U;obtain⟨v,E,hr,h4,h5⟩:=Pv S he H h2 K A;exact cL.value (s:=Instr.loadAt T (a.eval x)) rfl E (stay h4 h5 hr)
  .rename_i y n H h2 K;cases U;obtain⟨v,E,hr,h4,h5⟩:=Ty S he H h2 A;exact cL.value (s:=Instr.loadAt T (a.eval x)) rfl E (stay h4 h5 hr)
  .cases U
 |store T x y=>
  simp only[cV]at U;split at U
  .rename_i x' y' n H h2 K;cases U;obtain⟨w',E,hA⟩:=RY S he H h2 K A;refine cL.Ao (w':=w') ?_ hA;simp[execOp,E]
  .cases U
 |nilCheck x=>
  simp only[cV]at U;split at U
  .rename_i y hy;cases U;have B:=aZ S he hy;simp only[de]at A;split at A<;>first|(cases A;done)|skip
   .rename_i o col iJ;cases A;rw[iJ]at B;obtain⟨b,V,E⟩:=B;exact cL.of_run (v:=a.eval x) (by simp[execOp,E]) (stay rfl rfl ⟨b,V,E⟩)
   .rename_i o n e r c iJ;cases A;rw[iJ]at B;obtain⟨b,V,E⟩:=B;exact cL.of_run (v:=a.eval x) (by simp[execOp,E]) (stay rfl rfl ⟨b,V,E⟩)
   .rename_i r c iJ;cases A;rw[iJ]at B;obtain⟨b,off,V,E,h⟩:=B;exact cL.of_run (v:=a.eval x) (by simp[execOp,E]) (stay rfl rfl ⟨b,off,V,E,h⟩)
  .cases U
 |binOp n_ T x y T2=>
  have two:∀{x' y':bF},aI x=some x'->aI y=some y'->de G get obj base (.bin n_ x' y')=some e->cL P ⟨dst,.binOp n_ T x y T2,type,pos,after,guard⟩ a w (aO G obj (bB obj base e) J ι w e.r):=by
   intro x' y' H h2 A;have B:=aZ S he H;have o_:=aZ S he h2;simp only[de]at A;split at A
   .rename_i p q hp hq;rw[hp]at B;rw[hq]at o_;split at A
    .rename_i v E;cases A;have e1:a.eval x=p:=B;have e2:a.eval y=q:=o_;exact cL.value (s:=(do eqGuard n_ T x y (a.eval x) (a.eval y);Go.binOp n_ T (a.eval x) (a.eval y))) rfl (by rw[e1,e2];exact UM E T x y w) (stay rfl rfl rfl)
    .cases A
   .cases A
  have bl:∀{x' y':bF} {neg:Bool},(n_=.eql\/n_=.neq)->neg=jL n_->P.underlying T=some .bool->aI x=some x'->aI y=some y'->de G get obj base (.eqb neg x' y')=some e->
    cL P ⟨dst,.binOp n_ T x y T2,type,pos,after,guard⟩ a w (aO G obj (bB obj base e) J ι w e.r):=by
   intro x' y' neg O hneg hu H h2 A;have B:=aZ S he H;have o_:=aZ S he h2;simp only[de]at A;split at A
   .rename_i p q hp hq;rw[hp]at B;rw[hq]at o_;cases A;have e1:a.eval x=.bool p:=B;have e2:a.eval y=.bool q:=o_;exact cL.value (s:=(do eqGuard n_ T x y (a.eval x) (a.eval y);Go.binOp n_ T (a.eval x) (a.eval y))) rfl (by rw[e1,e2,hneg];exact XN O hu x y p q w) (stay rfl rfl rfl)
   .cases A
  simp only[cV]at U;split at U
  .rename_i x' y' H h2;cases hU:P.underlying T with
   |none=>simp[hU]at U
   |some d=>
    rw[hU]at U;cases d with
    |bool=>
     cases n_<;>dsimp only at U<;>first|(cases U;done)|skip
     .cases U;exact bl (.inl rfl) rfl hU H h2 A
     .cases U;exact bl (.inr rfl) rfl hU H h2 A
    |int k=>cases n_<;>(dsimp only at U;cases U;exact two H h2 A)
    |string=>cases n_<;>(dsimp only at U;cases U;exact two H h2 A)
    |struct fs=>
     have go:∀{neg:Bool},(n_=.eql\/n_=.neq)->neg=jL n_->(match eqT P T with|some ks=>some (I.eqs neg ks x' y')|none=>none)=some i->cL P ⟨dst,.binOp n_ T x y T2,type,pos,after,guard⟩ a w (aO G obj (bB obj base e) J ι w e.r):=by
      intro neg O hneg U;split at U
      .rename_i ks hks;cases U;have B:=aZ S he H;have o_:=aZ S he h2;simp only[de]at A;split at A
       .rename_i p q hp hq;rw[hp]at B;rw[hq]at o_;split at A
        .rename_i b V;cases A;obtain⟨xs,e1,hxs⟩:=B;obtain⟨ys,e2,hys⟩:=o_;exact cL.value (s:=(do eqGuard n_ T x y (a.eval x) (a.eval y);Go.binOp n_ T (a.eval x) (a.eval y))) rfl (by rw[e1,e2,hneg];exact VS O hks x y hxs hys V) (stay rfl rfl rfl)
        .cases A
       .cases A
      .cases U
     cases n_<;>dsimp only at U<;>first|(cases U;done)|skip
     .exact go (.inl rfl) rfl U
     .exact go (.inr rfl) rfl U
    |pointer pe=>
     have go:∀{neg:Bool},(n_=.eql\/n_=.neq)->neg=jL n_->(if Wz y=true then some (I.PI neg x')else none)=some i->cL P ⟨dst,.binOp n_ T x y T2,type,pos,after,guard⟩ a w (aO G obj (bB obj base e) J ι w e.r):=by
      intro neg O hneg U;split at U
      .rename_i qO;cases U;have hy:a.eval y=.pointer none:=by
        unfold Wz at qO;split at qO
        .rfl
        .cases qO
       have B:=aZ S he H;have fin:∀{v:Option Addr} {r:Bool},a.eval x=.pointer v->r=(bif jL n_ then !v.isNone else v.isNone)->e = { r:=.bool r }->cL P ⟨dst,.binOp n_ T x y T2,type,pos,after,guard⟩ a w (aO G obj (bB obj base e) J ι w e.r):=by intro v r E hr he';subst he';exact cL.value (s:=(do eqGuard n_ T x y (a.eval x) (a.eval y);Go.binOp n_ T (a.eval x) (a.eval y))) rfl (by rw[E,hy];exact VR O hU x y v w) (stay rfl rfl (by rw[hr];rfl))
       simp only[de]at A;split at A<;>first|(cases A;done)|skip
       .rename_i iJ;rw[iJ]at B;obtain⟨b,_,E⟩:=B;exact fin E (by rw[hneg];cases jL n_<;>rfl) (Option.some.inj A).symm
       .rename_i iJ;rw[iJ]at B;obtain⟨b,_,E⟩:=B;exact fin E (by rw[hneg];cases jL n_<;>rfl) (Option.some.inj A).symm
       .rename_i iJ;rw[iJ]at B;obtain⟨b,off,_,E,_⟩:=B;exact fin E (by rw[hneg];cases jL n_<;>rfl) (Option.some.inj A).symm
       .rename_i iJ;rw[iJ]at B;have E:a.eval x=.pointer none:=B;exact fin E (by rw[hneg];cases jL n_<;>rfl) (Option.some.inj A).symm
      .cases U
     cases n_<;>dsimp only at U<;>first|(cases U;done)|skip
     .exact go (.inl rfl) rfl U
     .exact go (.inr rfl) rfl U
    |slice se=>
     have go:∀{neg:Bool},(n_=.eql\/n_=.neq)->neg=jL n_->(if Ww y=true then some (I.PG neg x')else none)=some i->cL P ⟨dst,.binOp n_ T x y T2,type,pos,after,guard⟩ a w (aO G obj (bB obj base e) J ι w e.r):=by
      intro neg O hneg U;split at U
      .rename_i qO;cases U;have hy:a.eval y=.slice none 0 0:=by
        unfold Ww at qO;split at qO
        .rfl
        .cases qO
       have B:=aZ S he H;have fin:∀{v:Option Addr} {n c:Nat},a.eval x=.slice v n c->(e.nw=[]/\e.wr=[]/\cW J w ι e.r (.bool (bif jL n_ then !v.isNone else v.isNone)))->cL P ⟨dst,.binOp n_ T x y T2,type,pos,after,guard⟩ a w (aO G obj (bB obj base e) J ι w e.r):=by intro v n c E hr;exact cL.value (s:=(do eqGuard n_ T x y (a.eval x) (a.eval y);Go.binOp n_ T (a.eval x) (a.eval y))) rfl (by rw[E,hy];exact VQ O hU x y v n c w) (stay hr.1 hr.2.1 hr.2.2)
       simp only[de]at A;split at A<;>first|(cases A;done)|skip
       .rename_i iJ;cases A;rw[iJ]at B;have E:a.eval x=.slice none 0 0:=B;exact fin E ⟨rfl,rfl,by rw[hneg];cases jL n_<;>rfl⟩
       .rename_i iJ;cases A;rw[iJ]at B;obtain⟨sa,n,cap,E,_,_,hr⟩:=B;refine fin E ⟨rfl,rfl,?_⟩;dsimp only;split
        .exact ⟨_,rfl⟩
        .rename_i hne;rcases hr with hr|⟨b,off,hsa,_⟩
         .exact absurd (by rw[hr];rfl) hne
         .rw [hneg,hsa];cases jL n_<;>rfl
       .rename_i iJ;cases A;rw[iJ]at B;rcases B with ⟨hz,sa,E⟩|⟨b,cap,et',C,V,E,_⟩
        .refine fin E ⟨rfl,rfl,?_⟩;dsimp only;rw[if_pos hz];exact⟨_,rfl⟩
        .refine fin E ⟨rfl,rfl,?_⟩;dsimp only;split
         .exact ⟨_,rfl⟩
         .rw [hneg];cases jL n_<;>rfl
      .cases U
     cases n_<;>dsimp only at U<;>first|(cases U;done)|skip
     .exact go (.inl rfl) rfl U
     .exact go (.inr rfl) rfl U
    |_=>cases n_<;>(dsimp only at U;cases U)
  .cases U
 |unOp uop T x=>
  cases uop<;>simp only[cV]at U<;>first|(cases U;done)|skip
  .split at U
   .rename_i y hy;cases U;have B:=aZ S he hy;simp only[de]at A;split at A
    .rename_i k p hp;rw[hp]at B;cases A;have e1:a.eval x=.int k p:=B;exact cL.value (s:=Op.unary .neg (a.eval x)) rfl (by rw[e1];rfl) (stay rfl rfl rfl)
    .cases A
   .cases U
  .split at U
   .rename_i y hy;cases U;have B:=aZ S he hy;simp only[de]at A;split at A
    .rename_i p hp;rw[hp]at B;cases A;have e1:a.eval x=.bool p:=B;exact cL.value (s:=Op.unary .not (a.eval x)) rfl (by rw[e1];rfl) (stay rfl rfl rfl)
    .cases A
   .cases U
 |convert S' T x=>
  simp only[cV]at U;split at U
  .rename_i y k k' H h2 K;cases U;have B:=aZ S he H;simp only[de]at A;split at A
   .rename_i kk n hp;rw[hp]at B;cases A;have e1:a.eval x=.int kk n:=B;refine cL.value (s:=Go.convert S' T (a.eval x)) rfl ?_ (stay rfl rfl rfl);rw[e1];simp only[Go.convert,Sem.run_bind,run_underlying h2 w,run_underlying K w,Result.andThen_ok];rfl
   .cases A
  .cases U
 |fieldAddr T x f=>
  simp only[cV]at U;split at U
  .rename_i y fs H h2;split at U
   .rename_i fd K;split at U
    .rename_i n h4;cases U;have B:=aZ S he H;simp only[de]at A;split at A<;>first|(cases A;done)|skip
     .rename_i o col iJ;cases A;rw[iJ]at B;obtain⟨b,V,E⟩:=B;exact cL.value (s:=Instr.fieldAt T (a.eval x) f) rfl (by rw[E];exact rY h2 K h4 b col w) (stay rfl rfl ⟨b,V,rfl⟩)
     .rename_i o n' e' r c iJ;cases A;rw[iJ]at B;obtain⟨b,V,E⟩:=B;exact cL.value (s:=Instr.fieldAt T (a.eval x) f) rfl (by rw[E];exact rY h2 K h4 b _ w) (stay rfl rfl ⟨b,V,by simp;omega⟩)
     .rename_i r c iJ;cases A;rw[iJ]at B;obtain⟨b,off,V,E,h⟩:=B;exact cL.value (s:=Instr.fieldAt T (a.eval x) f) rfl (by rw[E];exact rY h2 K h4 b _ w) (stay rfl rfl ⟨b,off,V,by simp;omega,h⟩)
    .cases U
   .cases U
  .cases U
 |field T x f=>
  simp only[cV]at U;split at U
  .rename_i y fs H h2;split at U
   .rename_i fd K;split at U
    .rename_i n h4 h5;cases U;have B:=aZ S he H;simp only[de]at A;split at A
     .rename_i cs iJ;rw[iJ]at B;obtain⟨xs,E,hcs⟩:=B;split at A
      .rename_i hl;cases A;refine cL.value (s:=Instr.field T (a.eval x) f) rfl (v:=.agg (xs.extract fd.offset (fd.offset+n))) (by
        rw[E];simp only[Instr.field,Sem.run_bind,run_underlying h2 w,Result.andThen_ok,K,asAgg,Sem.run_pure,DU h4 h5]) (stay rfl rfl ⟨_,rfl,?_⟩)
       have:=(hcs.drop fd.offset).take n;simpa[Array.toList_extract,extract_eq_take_drop]using this
      .cases A
     .cases A
    .rename_i n h4 h5;cases U;have B:=aZ S he H;simp only[de]at A;split at A
     .rename_i cs iJ;rw[iJ]at B;obtain⟨xs,E,hcs⟩:=B;split at A
      .rename_i v hl;cases A;obtain⟨u,hu,_,IB⟩:=hcs.get hl;refine cL.value (s:=Instr.field T (a.eval x) f) rfl (v:=u) (by rw[E];simp only[Instr.field,Sem.run_bind,run_underlying h2 w,Result.andThen_ok,K,asAgg,Sem.run_pure];exact HE h4 (by simpa using hu)) (stay rfl rfl IB)
      .cases A
     .cases A
    .cases U
   .cases U
  .cases U
 |indexAddr T x y=>
  simp only[cV]at U;split at U
  .rename_i x' y' el H h2 K;split at U
   .rename_i n h4;cases U;obtain⟨v,E,hr,h5,h6⟩:=PF S he H h2 K h4 A;exact cL.value (s:=Instr.indexAt T (a.eval x) (a.eval y)) rfl E (stay h5 h6 hr)
   .cases U
  .rename_i x' y' len el H h2 K;split at U
   .rename_i n h4;cases U;obtain⟨v,E,hr,h5,h6⟩:=PE S he H h2 K h4 A;exact cL.value (s:=Instr.indexAt T (a.eval x) (a.eval y)) rfl E (stay h5 h6 hr)
   .cases U
  .cases U
 |index T x y=>
  simp only[cV]at U;split at U
  .rename_i x' y' len el H h2 K;split at U
   .rename_i h4 h5;cases U;have B:=aZ S he H;have o_:=aZ S he h2;simp only[de]at A;split at A
    .rename_i k j iJ;rw[iJ]at o_;have hY:a.eval y=.int k j:=o_;split at A
     .rename_i h0;split at A
      .rename_i cs Xj;rw[Xj]at B;obtain⟨xs,E,hcs⟩:=B;split at A
       .rename_i v hl;cases A;obtain⟨u,hu,_,IB⟩:=hcs.get hl;obtain⟨ii,hii,D⟩:=cH h5;have B_:0<=j/\j<(len:Int):=⟨h0.1,by omega⟩;refine cL.value (s:=Instr.index T (a.eval x) (a.eval y)) rfl (v:=u) (by
         rw[E,hY];have hsz:(Go.sizeOf el).run P w=.ok 1 w:=by simp[Go.sizeOf,typeInfo,hii,D]
         simp only[Instr.index,asIntOf,Sem.run_bind,Sem.run_pure,Result.andThen_ok,run_underlying K w];rw[if_pos B_];simp only[Sem.run_bind,hsz,Result.andThen_ok];exact HE h4 (by simpa using hu)) (stay rfl rfl IB)
       .cases A
      .cases A
     .cases A
    .cases A
   .rename_i n h4 h5;cases U;have B:=aZ S he H;have o_:=aZ S he h2;simp only[de]at A;split at A
    .rename_i k j iJ;rw[iJ]at o_;have hY:a.eval y=.int k j:=o_;split at A
     .rename_i h0;split at A
      .rename_i cs Xj;rw[Xj]at B;obtain⟨xs,E,hcs⟩:=B;split at A
       .rename_i hl;cases A;obtain⟨ii,hii,D⟩:=cH h5;have B_:0<=j/\j<(len:Int):=⟨h0.1,by omega⟩;refine cL.value (s:=Instr.index T (a.eval x) (a.eval y)) rfl (v:=.agg (xs.extract (j.toNat*n) (j.toNat*n+n))) (by
         rw[E,hY];have hsz:(Go.sizeOf el).run P w=.ok n w:=by simp[Go.sizeOf,typeInfo,hii,D]
         simp only[Instr.index,asIntOf,Sem.run_bind,Sem.run_pure,Result.andThen_ok,run_underlying K w];rw[if_pos B_];simp only[Sem.run_bind,hsz,Result.andThen_ok];exact DU h4 h5) (stay rfl rfl ⟨_,rfl,?_⟩)
        have:=(hcs.drop (j.toNat*n)).take n;simpa[Array.toList_extract,extract_eq_take_drop]using this
       .cases A
      .cases A
     .cases A
    .cases A
   .cases U
  .rename_i x' y' H h2 K;cases U;have B:=aZ S he H;have o_:=aZ S he h2;simp only[de]at A;split at A
   .rename_i k j s iJ Xj;rw[iJ]at o_;rw[Xj]at B;have hY:a.eval y=.int k j:=o_;have hX:a.eval x=.string s:=B;split at A
    .rename_i h0;split at A
     .rename_i b V;cases A;refine cL.value (s:=Instr.index T (a.eval x) (a.eval y)) rfl (v:=.int .u8 b.toNat) (by
       rw[hX,hY];simp only[Instr.index,asIntOf,Sem.run_bind,Sem.run_pure,Result.andThen_ok,run_underlying K w];rw[if_pos h0];have:s[j.toNat]? = some b:=by
        have hlt:j.toNat<s.data.toList.length:=(List.getElem?_eq_some_iff.1 V).1;have hlt':j.toNat<s.size:=by simpa using hlt
        rw[getElem?_pos s j.toNat hlt'];have:=(List.getElem?_eq_some_iff.1 V).2;rw[<- this];rfl
       rw[this];rfl) (stay rfl rfl rfl)
     .cases A
    .cases A
   .cases A
  .cases U
 |slice T x lo hi mx=>
  simp only[cV]at U;split at U
  .rename_i x' lo' hi' mx' el H h2 K h4 hu;split at U
   .rename_i n h5;split at U
    .rename_i hmh;cases U;obtain⟨v,E,hr,h6,h7⟩:=OJ S he H h2 K h4 hmh hu h5 A;exact cL.value (s:=Instr.sliceAt T (a.eval x) (lo.map a.eval) (hi.map a.eval) (mx.map a.eval)) rfl E (stay h6 h7 hr)
    .cases U
   .cases U
  .rename_i x' lo' hi' H h2 K h4 hu;cases U;have hmx:mx=none:=by
    cases mx with
    |none=>rfl
    |some X=>simp only[fU]at h4;split at h4<;>cases h4
   subst hmx;have B:=aZ S he H;simp only[de]at A;split at A
   .rename_i s iJ;rw[iJ]at B;have E:a.eval x=.string s:=B;split at A
    .rename_i l h b1 b2;split at A
     .rename_i B_;cases A;exact cL.value (s:=Instr.sliceAt T (a.eval x) (lo.map a.eval) (hi.map a.eval) none) rfl (v:=.string (s.extract l h)) (by rw[E];exact VN hu (mD S he h2 b1) (mD S he K b2) B_.1 B_.2 w) (stay rfl rfl rfl)
     .cases A
    .cases A
   .cases A
  .cases U
 |makeFunc f p q=>
  simp only[cV]at U;split at U
  .rename_i p' q' H h2;cases U;simp only[de]at A;cases A;refine cL.of_run (v:=.func f (p.map a.eval) (q.map a.eval)) rfl (stay rfl rfl ⟨_,_,rfl,?_,?_⟩)
   .have:=tq S he H;simpa using this
   .have:=tq S he h2;simpa using this
  .cases U
 |extract x k=>
  simp only[cV]at U;split at U
  .rename_i y hy;cases U;have B:=aZ S he hy;simp only[de]at A;split at A
   .rename_i vs iJ;rw[iJ]at B;obtain⟨xs,E,hvs⟩:=B;split at A
    .rename_i v hl;cases A;obtain⟨u,hu,IB⟩:=hvs.get hl;exact cL.value (s:=Instr.extract (a.eval x) k) rfl (v:=u) (by
      rw[E];have:xs[k]? = some u:=by simpa using hu
      simp[Instr.extract,this]) (stay rfl rfl IB)
    .cases A
   .cases A
  .cases U
 |call c=>
  obtain⟨callee,args,ts⟩:=c;cases callee with
  |value f=>
   simp only[cV]at U;split at U
   .cases U;simp[de]at A
   .cases U
  |invoke r m=>simp[cV]at U
  |builtin b=>
   cases b with
   |len=>
    simp only[cV]at U;split at U
    .rename_i x T hargs hT;have ha:args=#[x]:=by apply Array.ext';simpa using hargs
     subst ha;have Z:execOp a.eval ⟨dst,.call ⟨.builtin .len,#[x],ts⟩,type,pos,after,guard⟩=(do pure (.value (<- Builtin.len_ ts type #[a.eval x]))):=by simp[execOp,resolve,invoke,builtin]
     split at U
     .rename_i y H h2;cases U;have B:=aZ S he H;simp only[de]at A;split at A
      .rename_i s iJ;cases A;rw[iJ]at B;have E:a.eval x=.string s:=B;exact cL.value Z (v:=.int .i64 s.size) (by simp[Builtin.len_,hT,run_underlying h2,E,goInt]) (stay rfl rfl rfl)
      .cases A
     .rename_i y el H h2;cases U;have B:=aZ S he H;have sl:∀{sa:Option Addr} {n cap:Nat},a.eval x=.slice sa n cap->(Builtin.len_ ts type #[a.eval x]).run P w=.ok (.int .i64 n) w:=by
       intro sa n cap E;simp[Builtin.len_,hT,run_underlying h2,E,goInt]
      simp only[de]at A;split at A
      .rename_i e' rows iJ;cases A;rw[iJ]at B;obtain⟨sa,n,cap,E,D,_⟩:=B;exact cL.value Z (sl E) (stay rfl rfl (by rw[D];rfl))
      .rename_i iJ;cases A;rw[iJ]at B;have E:a.eval x=.slice none 0 0:=B;exact cL.value Z (sl E) (stay rfl rfl rfl)
      .rename_i o n e' lo len iJ;cases A;rw[iJ]at B;rcases B with ⟨h0,sa,E⟩|⟨b,cap,et',C,V,E,_⟩
       .exact cL.value Z (sl E) (stay rfl rfl (by rw[h0];rfl))
       .exact cL.value Z (sl E) (stay rfl rfl rfl)
      .cases A
     .cases U
    .cases U
   |append=>
    simp only[cV]at U;split at U
    .rename_i x y tx ty hargs hts;have ha:args=#[x,y]:=by apply Array.ext';simpa using hargs
     have ht:ts=#[tx,ty]:=by apply Array.ext';simpa using hts
     subst ha;subst ht;split at U
     .rename_i x' y' el H h2 K h4;split at U
      .rename_i n b h5;cases U;obtain⟨i,z,hi,hz,rfl,rfl,hzc,hb0,hs0⟩:=nO h5;have hk:(∃e',P.underlying ty=some (.slice e'))\/P.underlying ty=some .string:=by
        unfold RZ at h4;split at h4
        .rename_i e' hq;exact .inl ⟨e',hq⟩
        .rename_i hq;exact .inr hq
        .cases h4
       have B:=aZ S he H;have o_:=aZ S he h2;simp only[de]at A;split at A
       .rename_i new rd hsrc;obtain⟨news,s1,s2,s3⟩:=xY (P:=P) (tx:=ty) S hk hsrc o_;split at A
        .rename_i iJ;rw[iJ]at B;have E:a.eval x=.slice none 0 0:=B;split at A
         .rename_i hfit;cases A;have V:obj base=.free:=by simpa using hfree 0 (by simp)
          obtain⟨u,w',hrun,hA⟩:=aO.aaI (P:=P) (t:=tx) (ty:=type) S V K hi hz hzc hb0 s1 s2 s3 hfit;exact cL.value (s:=Builtin.append_ #[tx,ty] type #[a.eval x,a.eval y]) (by simp[execOp,resolve,invoke,builtin]) (by rw[E];exact hrun) hA
         .cases A
        .rename_i o n e' lo len iJ;rw[iJ]at B;split at A
         .rename_i et' e'' rows O;split at A
          .rename_i pQ;obtain⟨rfl,rfl,rfl,rfl,rfl,rfl,hfit⟩:=pQ;cases A;obtain⟨u,w',hrun,hA⟩:=aO.aaH (P:=P) (t:=tx) (ty:=type) S O B K hi hz hzc hb0 s1 s2 s3 hfit;exact cL.value (s:=Builtin.append_ #[tx,ty] type #[a.eval x,a.eval y]) (by simp[execOp,resolve,invoke,builtin]) hrun hA
          .cases A
         .cases A
        .cases A
       .unfold Jw at A;split at A
        .rename_i new m s hsrc;obtain⟨news,s1,s2⟩:=Kx (P:=P) (tx:=ty) S hk hsrc o_;split at A
         .rename_i iJ;rw[iJ]at B;have E:a.eval x=.slice none 0 0:=B;split at A
          .rename_i B_;cases A;have V:obj base=.free:=by simpa using hfree 0 (by simp)
           obtain⟨u,w',hrun,hA⟩:=aO.UP (P:=P) (t:=tx) (ty:=type) S V K hi hz hzc hb0 s1 s2 B_.2 B_.1;exact cL.value (s:=Builtin.append_ #[tx,ty] type #[a.eval x,a.eval y]) (by simp[execOp,resolve,invoke,builtin]) (by rw[E];exact hrun) hA
          .cases A
         .rename_i o n e' lo len iJ;rw[iJ]at B;split at A
          .rename_i et' e'' v0 cells O;split at A
           .rename_i pQ;obtain⟨rfl,rfl,rfl,rfl,rfl,hle,hfit⟩:=pQ;cases A;obtain⟨u,w',hrun,hA⟩:=aO.acr (P:=P) (t:=tx) (ty:=type) S O hle B K hi hz hzc hb0 s1 s2 hfit;exact cL.value (s:=Builtin.append_ #[tx,ty] type #[a.eval x,a.eval y]) (by simp[execOp,resolve,invoke,builtin]) hrun hA
           .cases A
          .cases A
         .cases A
        .cases A
      .cases U
     .cases U
    .cases U
   |min=>
    simp only[cV]at U;split at U
    .rename_i x y hargs;have ha:args=#[x,y]:=by apply Array.ext';simpa using hargs
     subst ha;split at U
     .rename_i x' y' H h2;cases U;have B:=aZ S he H;have o_:=aZ S he h2;simp only[de]at A;split at A
      .rename_i k p k' q hp hq;cases A;rw[hp]at B;rw[hq]at o_;have Z:a.eval x=.int k p:=B;have hy:a.eval y=.int k' q:=o_;exact cL.value (s:=Builtin.min_ ts type #[a.eval x,a.eval y]) (by simp[execOp,resolve,invoke,builtin]) (v:=.int k (if q<p then q else p)) (by rw[Z,hy];simp[Builtin.min_,Builtin.min2]) (stay rfl rfl rfl)
      .cases A
     .cases U
    .cases U
   |max=>
    simp only[cV]at U;split at U
    .rename_i x y hargs;have ha:args=#[x,y]:=by apply Array.ext';simpa using hargs
     subst ha;split at U
     .rename_i x' y' H h2;cases U;have B:=aZ S he H;have o_:=aZ S he h2;simp only[de]at A;split at A
      .rename_i k p k' q hp hq;cases A;rw[hp]at B;rw[hq]at o_;have Z:a.eval x=.int k p:=B;have hy:a.eval y=.int k' q:=o_;exact cL.value (s:=Builtin.max_ ts type #[a.eval x,a.eval y]) (by simp[execOp,resolve,invoke,builtin]) (v:=.int k (if q>p then q else p)) (by rw[Z,hy];simp[Builtin.max_,Builtin.max2]) (stay rfl rfl rfl)
      .cases A
     .cases U
    .cases U
   |_=>simp[cV]at U
 |_=>simp[cV]at U
end
end
mutual
def rn(π:Nat->Nat):LV->LV
 |.top=>.top
 |.ec=>.ec
 |.d x=>.d x
 |.ptr o c=>.ptr (π o) c
 |.rp o n e r c=>.rp (π o) n e r c
 |.ip r c=>.ip r c
 |.sl o n e l k=>.sl (π o) n e l k
 |.fn f a b=>.fn f (kC π a) (kC π b)
 |.agg cs=>.agg (kC π cs)
 |.cZ vs=>.cZ (kC π vs)
 |.gR t v=>.gR t (rn π v)
 |.yl o=>.yl (π o)
 |.mr o=>.mr (π o)
def kC(π:Nat->Nat):List LV->List LV
 |[]=>[]
 |x::xs=>rn π x::kC π xs
end
def vU(π:Nat->Nat):∀xs:List LV,(kC π xs).length=xs.length
 |[]=>rfl
 |x::xs=>by simp only[kC,length_cons,vU π xs]
def bP(π:Nat->Nat):ah->ah
 |.box et cells=>.box et (kC π cells)
 |.dat et e rows=>.dat et e rows
 |.k9 et e rows=>.k9 et e rows
 |.mp es=>.mp (es.map λp=>(p.1,rn π p.2))
 |.lr et e v cells=>.lr et e v (kC π cells)
 |.l_ et bs=>.l_ et bs
mutual
def bV(k:Nat):LV->Bool
 |.top=>true
 |.ec=>true
 |.d _=>true
 |.ptr o _=>decide (o<k)
 |.rp o _ _ _ _=>decide (o<k)
 |.ip _ _=>true
 |.sl o _ _ _ _=>decide (o<k)
 |.fn _ a b=>bn k a&&bn k b
 |.agg cs=>bn k cs
 |.cZ vs=>bn k vs
 |.gR _ v=>bV k v
 |.yl o=>decide (o<k)
 |.mr o=>decide (o<k)
def bn(k:Nat):List LV->Bool
 |[]=>true
 |x::xs=>bV k x&&bn k xs
end
def aP(k:Nat):ah->Bool
 |.box _ cells=>bn k cells
 |.dat ..=>true
 |.k9 ..=>true
 |.mp es=>es.all λp=>bV k p.2
 |.lr _ _ _ cells=>bn k cells
 |.l_ _ _=>true
section
variable {J J':Nat->Prop} {w:World} {ι ι':fe} {π:Nat->Nat} {k0:Nat}
mutual
def cW.rn(h:∀o n b,o<k0->ι (π o) n=some b->ι' o n=some b):∀(x:LV) (v:Value),bV k0 x=true->cW J w ι (rn π x) v->cW J w ι' x v
 |.top,_,_,_=>trivial
 |.ec,_,_,k=>k
 |.d x,v,_,k=>k
 |.ptr o col,v,q,k=>by simp only[bV,decide_eq_true_eq]at q;obtain⟨b,V,rfl⟩:=k;exact⟨b,h _ _ _ q V,rfl⟩
 |.rp o n e r c,v,q,k=>by simp only[bV,decide_eq_true_eq]at q;obtain⟨b,V,rfl⟩:=k;exact⟨b,h _ _ _ q V,rfl⟩
 |.ip r c,v,_,k=>k
 |.sl o n e l m,v,q,k=>by
  simp only[bV,decide_eq_true_eq]at q;rcases k with k|⟨b,cap,et,C,V,k⟩
  .exact .inl k
  .exact .inr ⟨b,cap,et,C,h _ _ _ q V,k⟩
 |.fn f a b,v,q,k=>by simp only[bV,and_eq_true]at q;obtain⟨fs,cs,rfl,k1,k2⟩:=k;exact⟨fs,cs,rfl,cm.rn h a _ q.1 k1,cm.rn h b _ q.2 k2⟩
 |.agg cs,v,q,k=>by simp only[bV]at q;obtain⟨xs,rfl,k1⟩:=k;exact⟨xs,rfl,bx.rn h cs _ q k1⟩
 |.cZ vs,v,q,k=>by simp only[bV]at q;obtain⟨xs,rfl,k1⟩:=k;exact⟨xs,rfl,cm.rn h vs _ q k1⟩
 |.gR t x,v,q,k=>by simp only[bV]at q;obtain⟨y,rfl,k1⟩:=k;exact⟨y,rfl,cW.rn h x y q k1⟩
 |.yl o,v,q,k=>by simp only[bV,decide_eq_true_eq]at q;obtain⟨b,V,rfl⟩:=k;exact⟨b,h _ _ _ q V,rfl⟩
 |.mr o,v,q,k=>by simp only[bV,decide_eq_true_eq]at q;obtain⟨b,V,rfl⟩:=k;exact⟨b,h _ _ _ q V,rfl⟩
def cm.rn(h:∀o n b,o<k0->ι (π o) n=some b->ι' o n=some b):∀(xs:List LV) (vs:List Value),bn k0 xs=true->cm J w ι (kC π xs) vs->cm J w ι' xs vs
 |[],[],_,_=>trivial
 |x::xs,v::vs,q,k=>by simp only[bn,and_eq_true]at q;exact⟨cW.rn h x v q.1 k.1,cm.rn h xs vs q.2 k.2⟩
 |[],_::_,_,k=>k.elim
 |_::_,[],_,k=>k.elim
def bx.rn(h:∀o n b,o<k0->ι (π o) n=some b->ι' o n=some b):∀(xs:List LV) (vs:List Value),bn k0 xs=true->bx J w ι (kC π xs) vs->bx J w ι' xs vs
 |[],[],_,_=>trivial
 |x::xs,v::vs,q,k=>by simp only[bn,and_eq_true]at q;exact⟨k.1,cW.rn h x v q.1 k.2.1,bx.rn h xs vs q.2 k.2.2⟩
 |[],_::_,_,k=>k.elim
 |_::_,[],_,k=>k.elim
end
mutual
def cW.ry(h:∀o n b,ι o n=some b->ι' (π o) n=some b):∀(x:LV) (v:Value),cW J w ι x v->cW J w ι' (Dv.rn π x) v
 |.top,_,_=>trivial
 |.ec,_,k=>k
 |.d x,v,k=>k
 |.ptr o col,v,k=>by obtain⟨b,V,rfl⟩:=k;exact⟨b,h _ _ _ V,rfl⟩
 |.rp o n e r c,v,k=>by obtain⟨b,V,rfl⟩:=k;exact⟨b,h _ _ _ V,rfl⟩
 |.ip r c,v,k=>k
 |.sl o n e l q,v,k=>by
  rcases k with k|⟨b,cap,et,C,V,k⟩
  .exact .inl k
  .exact .inr ⟨b,cap,et,C,h _ _ _ V,k⟩
 |.fn f a b,v,k=>by obtain⟨fs,cs,rfl,k1,k2⟩:=k;exact⟨fs,cs,rfl,cm.ry h a _ k1,cm.ry h b _ k2⟩
 |.agg cs,v,k=>by obtain⟨xs,rfl,k1⟩:=k;exact⟨xs,rfl,bx.ry h cs _ k1⟩
 |.cZ vs,v,k=>by obtain⟨xs,rfl,k1⟩:=k;exact⟨xs,rfl,cm.ry h vs _ k1⟩
 |.gR t x,v,k=>by obtain⟨y,rfl,k1⟩:=k;exact⟨y,rfl,cW.ry h x y k1⟩
 |.yl o,v,k=>by obtain⟨b,V,rfl⟩:=k;exact⟨b,h _ _ _ V,rfl⟩
 |.mr o,v,k=>by obtain⟨b,V,rfl⟩:=k;exact⟨b,h _ _ _ V,rfl⟩
def cm.ry(h:∀o n b,ι o n=some b->ι' (π o) n=some b):∀(xs:List LV) (vs:List Value),cm J w ι xs vs->cm J w ι' (kC π xs) vs
 |[],[],_=>trivial
 |x::xs,v::vs,k=>⟨cW.ry h x v k.1,cm.ry h xs vs k.2⟩
 |[],_::_,k=>k.elim
 |_::_,[],k=>k.elim
def bx.ry(h:∀o n b,ι o n=some b->ι' (π o) n=some b):∀(xs:List LV) (vs:List Value),bx J w ι xs vs->bx J w ι' (kC π xs) vs
 |[],[],_=>trivial
 |x::xs,v::vs,k=>⟨k.1,cW.ry h x v k.2.1,bx.ry h xs vs k.2.2⟩
 |[],_::_,k=>k.elim
 |_::_,[],k=>k.elim
end
def jR.rn(h:∀o n b,o<k0->ι (π o) n=some b->ι' o n=some b):∀(xs:List (Int×LV)) (vs:List MapEntry),(xs.all λp=>bV k0 p.2)=true->jR J w ι (xs.map λp=>(p.1,Dv.rn π p.2)) vs->jR J w ι' xs vs
 |[],[],_,_=>trivial
 |(i,x)::xs,v::vs,q,k=>by simp only[all_cons,and_eq_true]at q;exact⟨k.1,cW.rn h x _ q.1 k.2.1,jR.rn h xs vs q.2 k.2.2⟩
 |[],_::_,_,k=>k.elim
 |_::_,[],_,k=>k.elim
def jR.ry(h:∀o n b,ι o n=some b->ι' (π o) n=some b):∀(xs:List (Int×LV)) (vs:List MapEntry),jR J w ι xs vs->jR J w ι' (xs.map λp=>(p.1,Dv.rn π p.2)) vs
 |[],[],_=>trivial
 |(i,x)::xs,v::vs,k=>⟨k.1,cW.ry h x _ k.2.1,jR.ry h xs vs k.2.2⟩
 |[],_::_,k=>k.elim
 |_::_,[],k=>k.elim
end
def an(af:List (Option ah))(o:Nat):bK:=
 match af[o]? with
 |none=>.free
 |some none=>.dead
 |some (some ob)=>.live ob
def lH(P:Program)(f:Nat):Bool:=match P.funcs[f]? with
 |some fn=>fn.name != "runtime.NumGoroutine" &&fn.body.isSome
 |none=>false
def gd(P:Program)(G:tY)(f:Nat)(args:List LV)(af:List ah)(r:LV)(aC:List ah):Prop:=
 lH P f=true/\∀J ι w (vs:Array Value),aA G J w ι (an (af.map some))->cm J w ι args vs.toList->
  Calls P f vs w (λe w'=>∃v,e=.returned v/\aO G (an (af.map some)) (an (aC.map some)) J ι w r v w')
def bz(obj:Nat->bK)(Z:List Nat)(o n aJ lo len:Nat)(rs:List (List DV)):Prop:=
 match obj o with
 |.live (.k9 _ e rows)=>o∈Z/\e=aJ/\n=rows.length/\lo+len<=rows.length/\rs=(rows.drop lo).take len
 |.live (.dat _ e rows)=>o∈Z/\e=aJ/\n=rows.length/\lo+len<=rows.length/\rs=(rows.drop lo).take len
 |.live (.box _ cells)=>o∈Z/\aJ=1/\n=0/\lo+len<=cells.length/\∃ds,LV.rz ((cells.drop lo).take len)=some ds/\rs=ds.map λx=>[x]
 |.live (.l_ _ bs)=>o∈Z/\aJ=1/\∃rows,bs[n]? = some rows/\lo+len<=rows.length/\rs=(rows.drop lo).take len
 |_=>False
mutual
def aB(obj:Nat->bK)(ρ Z:List Nat):LV->LV->Prop
 |_,.top=>True
 |.ec,.ec=>True
 |.d x,.d y=>x=y\/(x=.val (.slice none 0 0)/\∃aJ,y=.cM aJ [])
 |.ptr o c,.ptr i c'=>ρ[i]? = some o/\c=c'
 |.yl o,.yl i=>ρ[i]? = some o
 |.mr o,.mr i=>ρ[i]? = some o
 |.rp o n e r c,.rp i n' A q c'=>ρ[i]? = some o/\n=n'/\e=A/\r=q/\c=c'
 |.ip r c,.ip q c'=>r=q/\c=c'
 |.sl o n e l k,.sl i n' A D v=>ρ[i]? = some o/\n=n'/\e=A/\l=D/\k=v
 |.sl o n e l k,.d (.cM A rs)=>e=A/\bz obj Z o n e l k rs
 |.agg xs,.agg ys=>ay obj ρ Z xs ys
 |.cZ xs,.cZ ys=>ay obj ρ Z xs ys
 |.fn f a b,.fn O B u=>f=O/\ay obj ρ Z a B/\ay obj ρ Z b u
 |.d (.fn f a b),.fn O B u=>f=O/\B=a.map .d/\u=b.map .d
 |.gR t x,.gR t' y=>t=t'/\aB obj ρ Z x y
 |_,_=>False
def ay(obj:Nat->bK)(ρ Z:List Nat):List LV->List LV->Prop
 |[],[]=>True
 |x::xs,y::ys=>aB obj ρ Z x y/\ay obj ρ Z xs ys
 |_,_=>False
end
mutual
def qH:LV->Bool
 |.top=>true
 |.ec=>true
 |.d (.val _)=>true
 |.d (.cM _ rows)=>rows.isEmpty
 |.d _=>false
 |.ptr _ _=>true
 |.rp _ _ _ _ _=>true
 |.ip _ _=>false
 |.sl _ _ _ _ _=>true
 |.fn _ a b=>wC a&&wC b
 |.agg cs=>wC cs
 |.cZ vs=>wC vs
 |.gR _ v=>qH v
 |.yl _=>true
 |.mr _=>true
def wC:List LV->Bool
 |[]=>true
 |x::xs=>qH x&&wC xs
end
section
variable {J J':Nat->Prop} {w:World} {ι:fe}
mutual
def cW.qH(K:True):∀(x:LV) (v:Value),qH x=true->cW J w ι x v->cW J' w ι x v
 |.top,_,_,_=>trivial
 |.ec,_,_,k=>k
 |.d (.val u),v,_,k=>k
 |.d (.cM e rows),v,h,k=>by simp only[Dv.qH,isEmpty_iff]at h;subst h;obtain⟨a,n,cap,rfl,T,U,_⟩:=k;exact⟨a,n,cap,rfl,T,U,.inl rfl⟩
 |.d (.fn _ _ _),v,h,k=>by simp[Dv.qH]at h
 |.d (.gR _ _),v,h,k=>by simp[Dv.qH]at h
 |.d (.agg _),v,h,k=>by simp[Dv.qH]at h
 |.ptr o col,v,_,k=>k
 |.rp o n e r c,v,_,k=>k
 |.ip r c,v,h,k=>by simp[Dv.qH]at h
 |.sl o n e l q,v,_,k=>k
 |.fn f a b,v,h,k=>by simp only[Dv.qH,and_eq_true]at h;obtain⟨fs,cs,rfl,k1,k2⟩:=k;exact⟨fs,cs,rfl,cm.qH K a _ h.1 k1,cm.qH K b _ h.2 k2⟩
 |.agg cs,v,h,k=>by simp only[Dv.qH]at h;obtain⟨xs,rfl,k1⟩:=k;exact⟨xs,rfl,bx.qH K cs _ h k1⟩
 |.cZ vs,v,h,k=>by simp only[Dv.qH]at h;obtain⟨xs,rfl,k1⟩:=k;exact⟨xs,rfl,cm.qH K vs _ h k1⟩
 |.gR t x,v,h,k=>by simp only[Dv.qH]at h;obtain⟨y,rfl,k1⟩:=k;exact⟨y,rfl,cW.qH K x y h k1⟩
 |.yl o,v,_,k=>k
 |.mr o,v,_,k=>k
def cm.qH(K:True):∀(xs:List LV) (vs:List Value),wC xs=true->cm J w ι xs vs->cm J' w ι xs vs
 |[],[],_,_=>trivial
 |x::xs,v::vs,h,k=>by simp only[Dv.wC,and_eq_true]at h;exact⟨cW.qH K x v h.1 k.1,cm.qH K xs vs h.2 k.2⟩
 |[],_::_,_,k=>k.elim
 |_::_,[],_,k=>k.elim
def bx.qH(K:True):∀(xs:List LV) (vs:List Value),wC xs=true->bx J w ι xs vs->bx J' w ι xs vs
 |[],[],_,_=>trivial
 |x::xs,v::vs,h,k=>by simp only[Dv.wC,and_eq_true]at h;exact⟨k.1,cW.qH K x v h.1 k.2.1,bx.qH K xs vs h.2 k.2.2⟩
 |[],_::_,_,k=>k.elim
 |_::_,[],_,k=>k.elim
end
end
section
variable{o n:Nat}
section
variable {P:Program} {G:tY} {J J':Nat->Prop} {w w':World} {ι ι':fe} {obj:Nat->bK}
def DC(ι:fe)(obj:Nat->bK)(Z:List Nat)(b:Nat):Prop:=∃z∈Z,(obj z).own ι z b
def jj(ι:fe)(ρ:List Nat)(i n:Nat):Option Nat:=match ρ[i]? with
 |some o=>ι o n
 |none=>none
def FO(S:aA G J w ι obj){Z:List Nat}{aJ lo len:Nat}{rs:List (List DV)}(h:bz obj Z o n aJ lo len rs){v:Value}(E:cW J w ι (.sl o n aJ lo len) v)(j:fe) :
  cW (λb=>J b\/DC ι obj Z b) w j (.d (.cM aJ rs)) v:=by
 unfold bz at h;have r:=S.rep o;split at h
 .rename_i et e rows O;obtain⟨_,rfl,rfl,q,rfl⟩:=h;rw[O]at r;obtain⟨⟨_,hd⟩,_⟩:=r;have c:((rows.drop lo).take len).length=len:=by simp;omega
  rcases E with ⟨rfl,a,rfl⟩|⟨b,cap,X,C,V,rfl,k,_⟩
  .exact ⟨a,0,0,rfl,by simp,Nat.le_refl _,.inl (by simp)⟩
  .obtain ⟨B,t⟩:=hd b V;have:=bq.mono (J':=λb=>J b\/DC ι obj Z b) (w':=w) (λb h=>.inl h) (λ_ _=>rfl) e _ _ _ rfl ((t.drop lo).take len);exact⟨_,len,cap,rfl,c.symm,k,.inr ⟨b,lo*e,rfl,.inl B,by simpa using this⟩⟩
 .rename_i et e rows O;obtain⟨A,rfl,rfl,q,rfl⟩:=h;rw[O]at r;obtain⟨⟨_,hd⟩,_⟩:=r;have c:((rows.drop lo).take len).length=len:=by simp;omega
  rcases E with ⟨rfl,a,rfl⟩|⟨b,cap,X,C,V,rfl,k,_⟩
  .exact ⟨a,0,0,rfl,by simp,Nat.le_refl _,.inl (by simp)⟩
  .obtain ⟨_,t⟩:=hd b V;have:=bq.mono (J':=λb=>J b\/DC ι obj Z b) (w':=w) (λb h=>.inl h) (λ_ _=>rfl) e _ _ _ rfl ((t.drop lo).take len);exact⟨_,len,cap,rfl,c.symm,k,.inr ⟨b,lo*e,rfl,.inr ⟨o,A,by rw[O];exact V⟩,by simpa using this⟩⟩
 .rename_i et cells O;obtain⟨A,rfl,rfl,q,ds,m,rfl⟩:=h;rw[O]at r;obtain⟨⟨u,C,H,h2,K⟩,_⟩:=r;have c:(ds.map λx=>[x]).length=len:=by rw[length_map,vH m];simp;omega
  rcases E with ⟨rfl,a,rfl⟩|⟨b,cap,X,D,V,rfl,k,_⟩
  .exact ⟨a,0,0,rfl,by omega,Nat.le_refl _,.inl (eq_nil_of_length_eq_zero c)⟩
  .rw [H]at V;cases V;have:=bq.mono (J':=λb=>J b\/DC ι obj Z b) (w':=w) (λb h=>.inl h) (λ_ _=>rfl) 1 _ _ _ rfl (Jm K h2 m);exact⟨_,len,cap,rfl,c.symm,k,.inr ⟨u,lo*1,rfl,.inr ⟨o,A,by rw[O];exact H⟩,by rw[Nat.mul_one];exact this⟩⟩
 .rename_i et bs O;obtain⟨A,rfl,rows,T,q,rfl⟩:=h;rw[O]at r;have c:((rows.drop lo).take len).length=len:=by simp;omega
  rcases E with ⟨rfl,a,rfl⟩|⟨b,cap,X,C,V,rfl,k,_⟩
  .exact ⟨a,0,0,rfl,by simp,Nat.le_refl _,.inl (by simp)⟩
  .obtain ⟨u,D,H,_,t⟩:=r.1.1 n rows T;rw[V]at H;cases H;have:=bq.mono (J':=λb=>J b\/DC ι obj Z b) (w':=w) (λb h=>.inl h) (λ_ _=>rfl) 1 _ _ _ rfl ((t.drop lo).take len);exact⟨_,len,cap,rfl,c.symm,k,.inr ⟨b,lo*1,rfl,.inr ⟨o,A,by rw[O];exact⟨n,(List.getElem?_eq_some_iff.1 T).1,V⟩⟩,by simpa using this⟩⟩
 .exact h.elim
def lK{ρ:List Nat}{i b:Nat}(h:ρ[i]? = some o)(V:ι o n=some b):jj ι ρ i n=some b:=by simp only[jj,h,V]
mutual
def Nk(S:aA G J w ι obj){ρ Z:List Nat} : ∀(x y:LV) (v:Value),aB obj ρ Z x y->cW J w ι x v->cW (λb=>J b\/DC ι obj Z b) w (jj ι ρ) y v
 |x,.top,_,_,_=>trivial
 |.ec,.ec,_,_,k=>k
 |.d x,.d y,v,h,k=>by
  have j:x=y\/(x=.val (.slice none 0 0)/\∃aJ,y=.cM aJ []):=by simpa only[aB]using h
  rcases j with rfl|⟨rfl,aJ,rfl⟩
  .exact kz.mono (λb h=>.inl h) (λ_ _=>rfl) _ _ k
  .have E:v=.slice none 0 0:=k;subst E;exact⟨none,0,0,rfl,by simp,Nat.le_refl _,.inl rfl⟩
 |.ptr o c,.ptr i c',v,h,k=>by
  obtain⟨H,rfl⟩:ρ[i]? = some o/\c=c':=by simpa only[aB]using h
  obtain⟨b,V,rfl⟩:=k;exact⟨b,lK H V,rfl⟩
 |.yl o,.yl i,v,h,k=>by
  have H:ρ[i]? = some o:=by simpa only[aB]using h
  obtain⟨b,V,rfl⟩:=k;exact⟨b,lK H V,rfl⟩
 |.mr o,.mr i,v,h,k=>by
  have H:ρ[i]? = some o:=by simpa only[aB]using h
  obtain⟨b,V,rfl⟩:=k;exact⟨b,lK H V,rfl⟩
 |.rp o n e r c,.rp i n' A q c',v,h,k=>by
  obtain⟨H,rfl,rfl,rfl,rfl⟩:ρ[i]? = some o/\n=n'/\e=A/\r=q/\c=c':=by simpa only[aB]using h
  obtain⟨b,V,rfl⟩:=k;exact⟨b,lK H V,rfl⟩
 |.ip r c,.ip q c',v,h,k=>by
  obtain⟨rfl,rfl⟩:r=q/\c=c':=by simpa only[aB]using h
  obtain⟨b,off,V,rfl,hr⟩:=k;exact⟨b,off,.inl V,rfl,dV.mono (λb h=>.inl h) (λ_ _=>rfl) _ _ _ rfl hr⟩
 |.sl o n e l m,.sl i n' A D X,v,h,k=>by
  obtain⟨H,rfl,rfl,rfl,rfl⟩:ρ[i]? = some o/\n=n'/\e=A/\l=D/\m=X:=by simpa only[aB]using h
  rcases k with k|⟨b,cap,et,C,V,k⟩
  .exact .inl k
  .exact .inr ⟨b,cap,et,C,lK H V,k⟩
 |.sl o n e l m,.d (.cM A rs),v,h,k=>by
  obtain⟨rfl,H⟩:e=A/\bz obj Z o n e l m rs:=by simpa only[aB]using h
  exact FO S H k _
 |.agg xs,.agg ys,v,h,k=>by
  have j:ay obj ρ Z xs ys:=by simpa only[aB]using h
  obtain⟨us,rfl,k1⟩:=k;exact⟨us,rfl,bx.ofL (gB S xs ys _ j k1.CV) k1.one⟩
 |.cZ xs,.cZ ys,v,h,k=>by
  have j:ay obj ρ Z xs ys:=by simpa only[aB]using h
  obtain⟨us,rfl,k1⟩:=k;exact⟨us,rfl,gB S xs ys _ j k1⟩
 |.fn f a b,.fn O B u,v,h,k=>by
  obtain⟨rfl,H,h2⟩:f=O/\ay obj ρ Z a B/\ay obj ρ Z b u:=by simpa only[aB]using h
  obtain⟨fs,cs,rfl,k1,k2⟩:=k;exact⟨fs,cs,rfl,gB S a B _ H k1,gB S b u _ h2 k2⟩
 |.d (.fn f a b),.fn O B u,v,h,k=>by
  obtain⟨rfl,rfl,rfl⟩:f=O/\B=a.map .d/\u=b.map .d:=by simpa only[aB]using h
  obtain⟨fs,cs,rfl,k1,k2⟩:=k;exact⟨fs,cs,rfl,(bG.mono (λb h=>.inl h) (λ_ _=>rfl) _ _ k1).CV,(bG.mono (λb h=>.inl h) (λ_ _=>rfl) _ _ k2).CV⟩
 |.gR t x,.gR t' y,v,h,k=>by
  obtain⟨rfl,H⟩:t=t'/\aB obj ρ Z x y:=by simpa only[aB]using h
  obtain⟨z,rfl,k1⟩:=k;exact⟨z,rfl,Nk S x y z H k1⟩
 |.mr _,.d _,_,h,_ | .mr _,.ptr ..,_,h,_ | .mr _,.rp ..,_,h,_ | .mr _,.ip ..,_,h,_ | .mr _,.sl ..,_,h,_ | .mr _,.fn ..,_,h,_ | .mr _,.agg _,_,h,_ | .mr _,.cZ _,_,h,_ | .mr _,.gR ..,_,h,_ | .mr _,.ec,_,h,_ | .mr _,.yl _,_,h,_ | .d _,.mr _,_,h,_ | .ptr ..,.mr _,_,h,_ | .rp ..,.mr _,_,h,_ | .ip ..,.mr _,_,h,_ | .sl ..,.mr _,_,h,_ | .fn ..,.mr _,_,h,_ | .agg _,.mr _,_,h,_ | .cZ _,.mr _,_,h,_ | .gR ..,.mr _,_,h,_ | .ec,.mr _,_,h,_ | .yl _,.mr _,_,h,_ | .top,.mr _,_,h,_=>by simp[aB]at h
 |.yl _,.d _,_,h,_ | .yl _,.ptr ..,_,h,_ | .yl _,.rp ..,_,h,_ | .yl _,.ip ..,_,h,_ | .yl _,.sl ..,_,h,_ | .yl _,.fn ..,_,h,_ | .yl _,.agg _,_,h,_ | .yl _,.cZ _,_,h,_ | .yl _,.gR ..,_,h,_ | .yl _,.ec,_,h,_=>by simp[aB]at h
 |.d _,.yl _,_,h,_ | .ptr ..,.yl _,_,h,_ | .rp ..,.yl _,_,h,_ | .ip ..,.yl _,_,h,_ | .sl ..,.yl _,_,h,_ | .fn ..,.yl _,_,h,_ | .agg _,.yl _,_,h,_ | .cZ _,.yl _,_,h,_ | .gR ..,.yl _,_,h,_ | .ec,.yl _,_,h,_ | .top,.yl _,_,h,_=>by simp[aB]at h
 |.top,.d _,_,h,_ | .top,.ptr ..,_,h,_ | .top,.rp ..,_,h,_ | .top,.ip ..,_,h,_ | .top,.sl ..,_,h,_ | .top,.fn ..,_,h,_ | .top,.agg _,_,h,_ | .top,.cZ _,_,h,_ | .top,.gR ..,_,h,_=>by simp[aB]at h
 |.ptr ..,.d _,_,h,_ | .ptr ..,.rp ..,_,h,_ | .ptr ..,.ip ..,_,h,_ | .ptr ..,.sl ..,_,h,_ | .ptr ..,.fn ..,_,h,_ | .ptr ..,.agg _,_,h,_ | .ptr ..,.cZ _,_,h,_ | .ptr ..,.gR ..,_,h,_=>by simp[aB]at h
 |.rp ..,.d _,_,h,_ | .rp ..,.ptr ..,_,h,_ | .rp ..,.ip ..,_,h,_ | .rp ..,.sl ..,_,h,_ | .rp ..,.fn ..,_,h,_ | .rp ..,.agg _,_,h,_ | .rp ..,.cZ _,_,h,_ | .rp ..,.gR ..,_,h,_=>by simp[aB]at h
 |.ip ..,.d _,_,h,_ | .ip ..,.ptr ..,_,h,_ | .ip ..,.rp ..,_,h,_ | .ip ..,.sl ..,_,h,_ | .ip ..,.fn ..,_,h,_ | .ip ..,.agg _,_,h,_ | .ip ..,.cZ _,_,h,_ | .ip ..,.gR ..,_,h,_=>by simp[aB]at h
 |.sl ..,.d (.val _),_,h,_ | .sl ..,.d (.fn ..),_,h,_ | .sl ..,.d (.gR ..),_,h,_ | .sl ..,.d (.agg _),_,h,_ | .sl ..,.ptr ..,_,h,_ | .sl ..,.rp ..,_,h,_ | .sl ..,.ip ..,_,h,_ | .sl ..,.fn ..,_,h,_ | .sl ..,.agg _,_,h,_ | .sl ..,.cZ _,_,h,_ | .sl ..,.gR ..,_,h,_=>by simp[aB]at h
 |.agg _,.d _,_,h,_ | .agg _,.ptr ..,_,h,_ | .agg _,.rp ..,_,h,_ | .agg _,.ip ..,_,h,_ | .agg _,.sl ..,_,h,_ | .agg _,.fn ..,_,h,_ | .agg _,.cZ _,_,h,_ | .agg _,.gR ..,_,h,_=>by simp[aB]at h
 |.cZ _,.d _,_,h,_ | .cZ _,.ptr ..,_,h,_ | .cZ _,.rp ..,_,h,_ | .cZ _,.ip ..,_,h,_ | .cZ _,.sl ..,_,h,_ | .cZ _,.fn ..,_,h,_ | .cZ _,.agg _,_,h,_ | .cZ _,.gR ..,_,h,_=>by simp[aB]at h
 |.fn ..,.d _,_,h,_ | .fn ..,.ptr ..,_,h,_ | .fn ..,.rp ..,_,h,_ | .fn ..,.ip ..,_,h,_ | .fn ..,.sl ..,_,h,_ | .fn ..,.agg _,_,h,_ | .fn ..,.cZ _,_,h,_ | .fn ..,.gR ..,_,h,_=>by simp[aB]at h
 |.gR ..,.d _,_,h,_ | .gR ..,.ptr ..,_,h,_ | .gR ..,.rp ..,_,h,_ | .gR ..,.ip ..,_,h,_ | .gR ..,.sl ..,_,h,_ | .gR ..,.fn ..,_,h,_ | .gR ..,.agg _,_,h,_ | .gR ..,.cZ _,_,h,_=>by simp[aB]at h
 |.d (.val _),.ptr ..,_,h,_ | .d (.val _),.rp ..,_,h,_ | .d (.val _),.ip ..,_,h,_ | .d (.val _),.sl ..,_,h,_ | .d (.val _),.fn ..,_,h,_ | .d (.val _),.agg _,_,h,_ | .d (.val _),.cZ _,_,h,_ | .d (.val _),.gR ..,_,h,_=>by simp[aB]at h
 |.d (.cM ..),.ptr ..,_,h,_ | .d (.cM ..),.rp ..,_,h,_ | .d (.cM ..),.ip ..,_,h,_ | .d (.cM ..),.sl ..,_,h,_ | .d (.cM ..),.fn ..,_,h,_ | .d (.cM ..),.agg _,_,h,_ | .d (.cM ..),.cZ _,_,h,_ | .d (.cM ..),.gR ..,_,h,_=>by simp[aB]at h
 |.d (.fn ..),.ptr ..,_,h,_ | .d (.fn ..),.rp ..,_,h,_ | .d (.fn ..),.ip ..,_,h,_ | .d (.fn ..),.sl ..,_,h,_ | .d (.fn ..),.agg _,_,h,_ | .d (.fn ..),.cZ _,_,h,_ | .d (.fn ..),.gR ..,_,h,_=>by simp[aB]at h
 |.d (.gR ..),.ptr ..,_,h,_ | .d (.gR ..),.rp ..,_,h,_ | .d (.gR ..),.ip ..,_,h,_ | .d (.gR ..),.sl ..,_,h,_ | .d (.gR ..),.fn ..,_,h,_ | .d (.gR ..),.agg _,_,h,_ | .d (.gR ..),.cZ _,_,h,_ | .d (.gR ..),.gR ..,_,h,_=>by simp[aB]at h
 |.d (.agg _),.ptr ..,_,h,_ | .d (.agg _),.rp ..,_,h,_ | .d (.agg _),.ip ..,_,h,_ | .d (.agg _),.sl ..,_,h,_ | .d (.agg _),.fn ..,_,h,_ | .d (.agg _),.agg _,_,h,_ | .d (.agg _),.cZ _,_,h,_ | .d (.agg _),.gR ..,_,h,_=>by simp[aB]at h
 |.ec,.d _,_,h,_ | .ec,.ptr ..,_,h,_ | .ec,.rp ..,_,h,_ | .ec,.ip ..,_,h,_ | .ec,.sl ..,_,h,_ | .ec,.fn ..,_,h,_ | .ec,.agg _,_,h,_ | .ec,.cZ _,_,h,_ | .ec,.gR ..,_,h,_=>by simp[aB]at h
 |.top,.ec,_,h,_ | .d (.val _),.ec,_,h,_ | .d (.cM ..),.ec,_,h,_ | .d (.fn ..),.ec,_,h,_ | .d (.gR ..),.ec,_,h,_ | .d (.agg _),.ec,_,h,_ | .ptr ..,.ec,_,h,_ | .rp ..,.ec,_,h,_ | .ip ..,.ec,_,h,_ | .sl ..,.ec,_,h,_ | .fn ..,.ec,_,h,_ | .agg _,.ec,_,h,_ | .cZ _,.ec,_,h,_ | .gR ..,.ec,_,h,_=>by simp[aB]at h
def gB(S:aA G J w ι obj){ρ Z:List Nat} : ∀(xs ys:List LV) (vs:List Value),ay obj ρ Z xs ys->cm J w ι xs vs->cm (λb=>J b\/DC ι obj Z b) w (jj ι ρ) ys vs
 |[],[],[],_,_=>trivial
 |x::xs,y::ys,v::vs,h,k=>by
  have j:aB obj ρ Z x y/\ay obj ρ Z xs ys:=by simpa only[ay]using h
  exact⟨Nk S x y v j.1 k.1,gB S xs ys vs j.2 k.2⟩
 |[],_::_,_,h,_=>by simp[ay]at h
 |_::_,[],_,h,_=>by simp[ay]at h
 |[],[],_::_,_,k=>k.elim
 |_::_,_::_,[],_,k=>k.elim
end
end
end
section
variable{ρ Z:List Nat}{base:Nat}{ai:List ah}
def gz(ρ:List Nat)(base i:Nat):Nat:=match ρ[i]? with
 |some o=>o
 |none=>base+(i-ρ.length)
def fA(obj:Nat->bK):List Nat->List (Nat×ah)
 |[]=>[]
 |z::Z=>match obj z with
  |.live (.dat et e rows)=>(z,.k9 et e rows)::fA obj Z
  |.live (.box et _)=>(z,.k9 et 1 [])::fA obj Z
  |_=>fA obj Z
def IU:bK->Option ah
 |.live (.dat et e rows)=>some (.k9 et e rows)
 |.live (.box et _)=>some (.k9 et 1 [])
 |_=>none
def tC(obj:Nat->bK)(z:Nat)(Z:List Nat):fA obj (z::Z)=match IU (obj z)with|some x=>(z,x)::fA obj Z|none=>fA obj Z:=by
 rw[fA];cases obj z with
 |live ob=>cases ob<;>rfl
 |_=>rfl
structure bZ(P:Program)(G:tY)(f:Nat)(args:List LV)(obj:Nat->bK)(base:Nat)(e:fN):Prop where
 mk::
 ex:∃(ρ Z:List Nat) (tmp:Bool) (aK:List LV) (ai:List ah) (r:LV) (aj:List ah) (keep:Nat->Bool),(∀(i o:Nat),ρ[i]? = some o->keep o=false->aj[i]? = ai[i]?)/\
  ρ.Nodup/\(∀z∈Z,z∉ρ)/\(∀z∈Z,ZR tmp (obj z))/\ai.length=ρ.length/\(∀(i o:Nat),ρ[i]? = some o->∃ob,ai[i]? = some ob/\obj o=.live (bP (gz ρ base) ob))/\ai.all (aP ρ.length)=true/\
  ay obj ρ Z args aK/\(tmp=true->qH r=true/\aj=[]/\ρ=[])/\ai.length<=aj.length/\
  gd P G f aK ai r aj/\
  e = { r:=rn (gz ρ base) r,rd:=ρ++Z,wr:=((ρ.zip (aj.map (bP (gz ρ base)))).filter λp=>keep p.1)++(if tmp then[]else fA obj Z),nw:=(aj.drop ρ.length).map (bP (gz ρ base)) }
def xF(P:Program)(G:tY)(f:Nat)(args:List LV)(af:List ah)(p:Value)(aC:List ah):Prop:=
 lH P f=true/\∀J ι w (vs:Array Value),aA G J w ι (an (af.map some))->cm J w ι args vs.toList->
  Calls P f vs w (λe w'=>e=.panicked [{ v:=p,recovered:=false }]/\aO G (an (af.map some)) (an (aC.map some)) J ι w .top Go.undef w')
structure fE(P:Program)(G:tY)(f:Nat)(args:List LV)(obj:Nat->bK)(base:Nat)(p:Value)(e:fN):Prop where
 mk::
 ex:∃(ρ Z:List Nat) (aK:List LV) (ai aj:List ah),
  ρ.Nodup/\(∀z∈Z,z∉ρ)/\(∀z∈Z,∃et e rows,obj z=.live (.dat et e rows)\/obj z=.live (.k9 et e rows))/\ai.length=ρ.length/\(∀(i o:Nat),ρ[i]? = some o->∃ob,ai[i]? = some ob/\obj o=.live (bP (gz ρ base) ob))/\ai.all (aP ρ.length)=true/\
  ay obj ρ Z args aK/\ai.length<=aj.length/\
  xF P G f aK ai p aj/\
  e = { r:=.top,rd:=ρ++Z,wr:=(ρ.zip (aj.map (bP (gz ρ base))))++fA obj Z,nw:=(aj.drop ρ.length).map (bP (gz ρ base)) }
section
variable {P:Program} {G:tY} {J J':Nat->Prop} {w w':World} {ι ι':fe} {obj:Nat->bK}
theorem ZS(π:Nat->Nat):(∀x:LV,qH x=true->qH (rn π x)=true)/\(∀xs:List LV,wC xs=true->wC (kC π xs)=true):=by
 have one:∀n,(∀x:LV,sizeOf x<n->qH x=true->qH (rn π x)=true)/\(∀xs:List LV,sizeOf xs<n->wC xs=true->wC (kC π xs)=true):=by
  intro n
  induction n with
  |zero=>grind
  |succ n u=>
   refine⟨λx hs h=>?_,λxs hs h=>?_⟩
   .cases x<;>simp only[rn]<;>(try exact h)<;>simp only[qH,and_eq_true]at h ⊢<;>simp at hs
    .grind
    .grind
    .grind
    .grind
   .cases xs with
    |nil=>rfl
    |cons x xs=>simp only[kC,wC,and_eq_true]at h ⊢;simp at hs;exact⟨u.1 _ (by omega) h.1,u.2 _ (by omega) h.2⟩
 exact⟨λx=>(one (sizeOf x+1)).1 x (by omega),λxs=>(one (sizeOf xs+1)).2 xs (by omega)⟩
theorem nK:∀(l:List ah) (base:Nat) (obj:Nat->bK) (o:Nat),rA base l obj o=if base<=o then(match l[o-base]? with|some ob=>.live ob|none=>obj o)else obj o
 |[],base,obj,o=>by simp[rA]
 |ob::r,base,obj,o=>by
  simp only[rA];by_cases h:o=base
  .grind
  .rw [if_neg h,nK r (base+1) obj o];by_cases h2:base+1<=o
   .grind
   .grind
def jJ:∀(l m:List (Nat×ah)) (obj:Nat->bK),cG (l++m) obj=cG l (cG m obj)
 |[],_,_=>rfl
 |(k,ob)::r,m,obj=>by simp only[cons_append,cG,jJ r m obj]
theorem AL:∀(ρ:List Nat) (l:List ah) (obj:Nat->bK) (o:Nat),ρ.Nodup->ρ.length<=l.length->
  (∀(i:Nat),ρ[i]? = some o->∃ob,l[i]? = some ob/\cG (ρ.zip l) obj o=.live ob)/\(o∉ρ->cG (ρ.zip l) obj o=obj o)
 |[],l,obj,o,_,_=>⟨λi h=>by simp at h,λ_=>rfl⟩
 |k::ρ,[],obj,o,_,h=>by simp at h
 |k::ρ,x::l,obj,o,T,h=>by
  have m:=nodup_cons.1 T;obtain⟨H,h2⟩:=AL ρ l obj o m.2 (by grind);refine⟨λi hi=>?_,λO=>?_⟩
  .cases i with
   |zero=>simp at hi;subst hi;exact⟨x,by simp,by simp[cG]⟩
   |succ i=>
    have v:ρ[i]? = some o:=by grind
    obtain⟨ob,k1,k2⟩:=H i v;refine⟨ob,by grind,?_⟩;simp only[zip_cons_cons,cG];have y:o≠k:=λe=>m.1 (by grind)
    rw[if_neg y];exact k2
  .simp at O;simp only[zip_cons_cons,cG];rw[if_neg O.1];exact h2 O.2
theorem kO(aX:Nat->bK):∀(Z:List Nat) (obj:Nat->bK) (o:Nat),
  (o∈Z->∀x,IU (aX o)=some x->cG (fA aX Z) obj o=.live x)/\((o∉Z\/IU (aX o)=none)->cG (fA aX Z) obj o=obj o)
 |[],obj,o=>⟨(λh=>by cases h),(λ_=>rfl)⟩
 |z::Z,obj,o=>by
  obtain⟨H,h2⟩:=kO aX Z obj o;refine⟨λO x K=>?_,λO=>?_⟩
  .rw [tC];by_cases A:o=z
   .subst A;rw[K];simp[cG]
   .have m:=(mem_cons.1 O).resolve_left A;split
    .simp only[cG];rw[if_neg A];exact H m x K
    .grind
  .rw [tC];have hr:=h2 (O.imp (λh u=>h (by simp[u])) id);split
   .rename_i x K;simp only[cG];by_cases A:o=z
    .grind
    .grind
   .exact hr
def sy(l:List ah)(o:Nat):an (l.map some) o=(match l[o]? with|some ob=>.live ob|none=>.free):=by unfold an;rw[getElem?_map];cases l[o]?<;>rfl
theorem yq:∀{l:List Nat} {i j:Nat},l.Nodup->(hi:i<l.length)->(hj:j<l.length)->l[i]=l[j]->i=j
 |[],i,_,_,hi,_,_=>by simp at hi
 |x::l,0,0,_,_,_,_=>rfl
 |x::l,0,j+1,T,_,hj,h=>by grind
 |x::l,i+1,0,T,hi,_,h=>by grind
 |x::l,i+1,j+1,T,hi,hj,h=>by simp at h hi hj;rw[yq (nodup_cons.1 T).2 hi hj h]
def jr{i o:Nat}(h:ρ[i]? = some o):gz ρ base i=o:=by simp[gz,h]
def nB{i:Nat}(h:ρ.length<=i):gz ρ base i=base+(i-ρ.length):=by simp[gz,getElem?_eq_none h]
theorem jM{f:Nat}(h:lH P f=true)(args:Array Value)(w:World):(callFunc f args).run P w=.ok (.enter f args) w:=by
 unfold lH at h;split at h
 .rename_i fn b;simp at h;obtain⟨H,h2⟩:=h;have K:fn.body.isNone=false:=by simp_all
  simp only[callFunc,Sem.run_bind,run_program,Result.andThen_ok,b,K];rw[if_neg (by grind)];rfl
 .cases h
theorem aA.sub(S:aA G J w ι obj)(T:ρ.Nodup)(A:∀z∈Z,z∉ρ)(y:ai.length=ρ.length)
  (O:∀(i o:Nat),ρ[i]? = some o->∃ob,ai[i]? = some ob/\obj o=.live (bP (gz ρ base) ob)) (hid:ai.all (aP ρ.length)=true) (LD:∀z∈Z,ZR true (obj z)) :
  aA G (λb=>J b\/DC ι obj Z b) w (jj ι ρ) (an (ai.map some))/\(∀i b,(an (ai.map some) i).own (jj ι ρ) i b->∃o,ρ[i]? = some o/\(obj o).own ι o b):=by
 have U:∀i b,(an (ai.map some) i).own (jj ι ρ) i b->∃o,ρ[i]? = some o/\(obj o).own ι o b:=by
  intro i b h;rw[sy]at h;cases hi:ai[i]? with
  |none=>rw[hi]at h;exact h.elim
  |some ob=>
   rw[hi]at h;have q:i<ρ.length:=by grind
   obtain⟨ob',k1,k2⟩:=O i _ (getElem?_eq_getElem q);rw[hi]at k1;cases k1;refine⟨ρ[i],getElem?_eq_getElem q,?_⟩;rw[k2];cases ob<;>(simp[bK.own,ah.own,bP,jj,getElem?_eq_getElem q]at h ⊢;try exact h)
 refine⟨⟨λi=>?_,?_,?_,?_,?_⟩,U⟩
 .rw [sy];cases hi:ai[i]? with
  |none=>intro n;have:ρ[i]? = none:=getElem?_eq_none (by grind);simp[jj,this]
  |some ob=>
   have q:i<ρ.length:=by grind
   have hρ:=getElem?_eq_getElem q;obtain⟨ob',k1,k2⟩:=O i _ hρ;rw[hi]at k1;cases k1;have r:=S.rep ρ[i];rw[k2]at r;have hsub:∀n,jj ι ρ i n=ι ρ[i] n:=λn=>by simp[jj,hρ]
   have aam:=(all_eq_true.1 hid) ob (mem_of_getElem? hi);cases ob with
   |box et cells=>obtain⟨⟨b,C,H,h2,K⟩,_⟩:=r;refine⟨⟨b,C,by grind,h2,?_⟩,trivial⟩;have u:bx J w (jj ι ρ) cells C.toList:=bx.rn (k0:=ρ.length) (π:=gz ρ base) (λo n b O V=>by have X:=getElem?_eq_getElem O;rw[jr X]at V;simp[jj,X,V]) cells _ (by simpa[aP]using aam) K;exact bx.mono (λ_ h=>.inl h) (λ_ _=>rfl) (λ_ _ _ h=>h) (λ_ _=>rfl) _ _ u
   |mp es=>obtain⟨⟨b,C,c,H,h2,K⟩,_⟩:=r;refine⟨⟨b,C,c,by grind,h2,?_⟩,trivial⟩;have u:jR J w (jj ι ρ) es C.toList:=jR.rn (k0:=ρ.length) (π:=gz ρ base) (λo n b O V=>by have X:=getElem?_eq_getElem O;rw[jr X]at V;simp[jj,X,V]) es _ (by simpa[aP]using aam) K;exact jR.mono (λ_ h=>.inl h) (λ_ _=>rfl) (λ_ _ _ h=>h) (λ_ _=>rfl) _ _ u
   |l_ et bs=>obtain⟨⟨H,h2⟩,m⟩:=r;refine⟨⟨λk rows hk=>?_,λk j b=>by grind⟩,λn T=>by rw[hsub];exact m n T⟩;obtain⟨b,C,K,u,E⟩:=H k rows hk;exact⟨b,C,by grind,u,bq.mono (λ_ h=>.inl h) (λ_ _=>rfl) _ _ _ _ rfl E⟩
   |lr et e v cells=>
    obtain⟨⟨x,D⟩|⟨b,C,H,h2,h0,K⟩,m⟩:=r
    .refine ⟨.inl ⟨?_,by grind⟩,λn T=>by rw[hsub];exact m n T⟩;have:=vU (gz ρ base) cells;rw[x]at this;exact eq_nil_of_length_eq_zero this.symm
    have hl0:(kC (gz ρ base) cells).length=cells.length:=vU _ _;refine⟨.inr ⟨b,C,by grind,h2,by grind,?_⟩,λn T=>by rw[hsub];exact m n T⟩;rw[hl0]at K;have u:bx J w (jj ι ρ) cells (C.toList.take cells.length):=bx.rn (k0:=ρ.length) (π:=gz ρ base) (λo n b O V=>by have X:=getElem?_eq_getElem O;rw[jr X]at V;simp[jj,X,V]) cells _ (by simpa[aP]using aam) K;exact bx.mono (λ_ h=>.inl h) (λ_ _=>rfl) (λ_ _ _ h=>h) (λ_ _=>rfl) _ _ u
   |dat et e rows=>obtain⟨⟨H,h2⟩,K⟩:=r;refine⟨⟨by grind,λb V=>?_⟩,λn T=>by rw[hsub];exact K n T⟩;rw[hsub]at V;obtain⟨u,E⟩:=h2 b V;exact⟨u,bq.mono (λ_ h=>.inl h) (λ_ _=>rfl) _ _ _ _ rfl E⟩
   |k9 et e rows=>obtain⟨⟨H,h2⟩,K⟩:=r;refine⟨⟨by grind,λb V=>?_⟩,trivial⟩;rw[hsub]at V;obtain⟨u,E⟩:=h2 b V;exact⟨.inl u,bq.mono (λ_ h=>.inl h) (λ_ _=>rfl) _ _ _ _ rfl E⟩
 .intro i i' b h h';obtain⟨o,k1,k2⟩:=U i b h;obtain⟨o',Yv,k2'⟩:=U i' b h';have:=S.inj o o' b k2 k2';subst this;have hi:=(List.getElem?_eq_some_iff.1 k1).1;have t:=(List.getElem?_eq_some_iff.1 Yv).1;have x:=(List.getElem?_eq_some_iff.1 k1).2;have D:=(List.getElem?_eq_some_iff.1 Yv).2;exact yq T hi t (x.trans D.symm)
 .rintro i b h hJ;obtain⟨o,k1,k2⟩:=U i b h;rcases hJ with hJ|⟨z,TL,Rg⟩
  .exact S.pX o b k2 hJ
  .have:=S.inj o z b k2 Rg;subst this;exact A o TL (mem_of_getElem? k1)
 .rintro b (h|⟨z,_,h⟩)
  .exact S.jcell b h
  .rename_i A;exact S.Wg (LD z A) h
 .intro g row B;obtain⟨H,h2,K⟩:=S.uV g row B;exact⟨.inl H,dV.mono (λ_ h=>.inl h) (λ_ _=>rfl) _ _ _ rfl h2,K⟩
theorem aO.call(S:aA G J w ι obj){tmp:Bool}{aj:List ah}{r:LV}{v:Value}(T:ρ.Nodup)(A:∀z∈Z,z∉ρ)(y:ai.length=ρ.length)
  (O:∀(i o:Nat),ρ[i]? = some o->∃ob,ai[i]? = some ob/\obj o=.live (bP (gz ρ base) ob)) (hid:ai.all (aP ρ.length)=true)
  (LD:∀z∈Z,ZR tmp (obj z)) (TM:tmp=true->qH r=true/\aj=[]/\ρ=[]) (hle:ai.length<=aj.length) (U:∀j,j<aj.length-ρ.length->obj (base+j)=.free)
  (u:aO G (an (ai.map some)) (an (aj.map some)) (λb=>J b\/DC ι obj Z b) (jj ι ρ) w r v w') :
  aO G obj (bB obj base { r:=rn (gz ρ base) r,rd:=ρ++Z,wr:=(ρ.zip (aj.map (bP (gz ρ base))))++(if tmp then[]else fA obj Z),nw:=(aj.drop ρ.length).map (bP (gz ρ base)) }) J ι w (rn (gz ρ base) r) v w':=by
 obtain⟨SF,abS⟩:=S.sub (base:=base) T A y O hid (λz A=>(LD z A).up);obtain⟨J2,Fk,S2,hr,E2⟩:=u;generalize hm:aj.length=m at *;have hnew:∀j,j<m-ρ.length->∀n,ι (base+j) n=none:=λj hj=>by have:=S.rep (base+j);rw[U j hj]at this;exact this
 have Gi:∀{i o:Nat},ρ[i]? = some o->∃ob,obj o=.live ob:=λh=>by grind
 have hinj:∀i i',i<m->i'<m->gz ρ base i=gz ρ base i'->i=i':=by
  intro i i' hi hi' h;rcases Nat.lt_or_ge i ρ.length with H|H<;>rcases Nat.lt_or_ge i' ρ.length with h2|h2
  .rw [jr (getElem?_eq_getElem H),jr (getElem?_eq_getElem h2)]at h;exact yq T H h2 h
  .rw [jr (getElem?_eq_getElem H),nB h2]at h;obtain⟨ob,k⟩:=Gi (getElem?_eq_getElem H);rw[h,U _ (by omega)]at k;cases k
  .rw [nB H,jr (getElem?_eq_getElem h2)]at h;obtain⟨ob,k⟩:=Gi (getElem?_eq_getElem h2);rw[<- h,U _ (by omega)]at k;cases k
  .rw [nB H,nB h2]at h;omega
 let idx:Nat->Option Nat:=λo=>(List.range m).find? (λi=>gz ρ base i==o)
 have hidx:∀i,i<m->idx (gz ρ base i)=some i:=by
  intro i hi;cases q:idx (gz ρ base i)with
  |none=>have:=find?_eq_none.1 q i (by grind);simp at this
  |some i'=>grind
 have TU:∀o i,idx o=some i->i<m/\gz ρ base i=o:=by grind
 let ι':fe:=λo n=>match idx o with|some i=>Fk i n|none=>ι o n
 have rC:∀i n,i<m->ι' (gz ρ base i) n=Fk i n:=λi n hi=>by grind
 have Z5:∀o n,idx o=none->ι' o n=ι o n:=λo n h=>by grind
 have TK:∀i n,m<=i->Fk i n=none:=λi n hi=>by have:=S2.rep i;rw[sy,getElem?_eq_none (by grind)]at this;exact this n
 have aal:∀o n b,ι o n=some b->ι' o n=some b:=by
  intro o n b V;cases q:idx o with
  |none=>grind
  |some i=>
   obtain⟨hi,hpi⟩:=TU o i q;rw[<- hpi,rC i n hi];rcases Nat.lt_or_ge i ρ.length with H|H
   .rw [jr (getElem?_eq_getElem H)]at hpi;exact E2.ev.gu i n b (by simp[jj,getElem?_eq_getElem H,hpi,V])
   .rw [nB H]at hpi;rw[<- hpi,hnew _ (by omega)]at V;cases V
 have hun:∀o n b,Fk o n=some b->ι' (gz ρ base o) n=some b:=by grind
 let J':Nat->Prop:=λb=>if tmp=true then J b else J2 b
 have ack:∀b,J b->J' b:=λb V=>by
  simp only[J'];split
  .exact V
  .exact E2.ev.ia b (.inl V)
 have wP:∀b,Own (jj ι ρ) (an (ai.map some)) b->∃o,o∈ρ/\(obj o).own ι o b:=λb ⟨i,hi⟩=>by grind
 have E:Ev (Own ι obj) J J' ι ι' w w':=by
  refine⟨E2.ev.os,E2.ev.tape,E2.ev.output,E2.ev.size,λb V hno=>E2.ev.same b V (λh=>?_),E2.ev.shape,ack,λb V=>?_,aal⟩
  .obtain ⟨o,_,k⟩:=wP b h;exact hno ⟨o,k⟩
  .simp only[J']at V;split at V
   .grind
   .rcases E2.ev.uT b V with (h|⟨z,_,h⟩)|h|h
    .grind
    .exact .inr (.inr ⟨z,h⟩)
    .grind
    .obtain ⟨o,_,k⟩:=wP b h;exact .inr (.inr ⟨o,k⟩)
 generalize YP:bB obj base { r:=rn (gz ρ base) r,rd:=ρ++Z,wr:=(ρ.zip (aj.map (bP (gz ρ base))))++(if tmp then[]else fA obj Z),nw:=(aj.drop ρ.length).map (bP (gz ρ base)) } = obj';have B9:∀i ob,aj[i]? = some ob->obj' (gz ρ base i)=.live (bP (gz ρ base) ob):=by
  intro i ob hi;rw[<- YP];simp only[bB,nK];rcases Nat.lt_or_ge i ρ.length with H|H
  .have Z4:=getElem?_eq_getElem H;rw[jr Z4];have acZ:=((AL ρ (aj.map (bP (gz ρ base))) (cG (if tmp then[]else fA obj Z) obj) ρ[i] T (by grind)).1 i Z4);obtain⟨ob',k1,k2⟩:=acZ;rw[getElem?_map,hi]at k1;simp at k1;subst k1;rw[jJ,k2];split
   .rename_i V;split
    .rename_i ob2 ac8;obtain⟨ob3,k3⟩:=Gi Z4;have D:ρ[i]-base<m-ρ.length:=by grind
     have:=U _ D;rw[show base+(ρ[i]-base)=ρ[i]by omega,k3]at this;cases this
    .rfl
   .rfl
  .rw [nB H,if_pos (by omega)];have:base+(i-ρ.length)-base=i-ρ.length:=by omega
   rw[this,getElem?_map,getElem?_drop,show ρ.length+(i-ρ.length)=i by omega,hi];rfl
 have Y3:∀{o:Nat},o∉ρ->cG ((ρ.zip (aj.map (bP (gz ρ base))))++(if tmp then[]else fA obj Z)) obj o=cG (if tmp then[]else fA obj Z) obj o:=λh=>by rw[jJ];exact(AL ρ _ _ _ T (by grind)).2 h
 have Ls:∀o,idx o=none->o∉ρ/\obj' o=cG (if tmp then[]else fA obj Z) obj o:=by
  intro o q;have hno:∀i,i<m->gz ρ base i≠o:=λi hi h=>by grind
  have hρ:o∉ρ:=λh=>by obtain⟨i,hi,X⟩:=mem_iff_getElem.1 h;exact hno i (by omega) (by rw[jr (getElem?_eq_getElem hi)];exact X)
  refine⟨hρ,?_⟩;rw[<- YP];simp only[bB,nK];split
  .rename_i V;split
   .rename_i ob zY;have D:=(List.getElem?_eq_some_iff.1 zY).1;simp at D;exact absurd (by rw[nB (by omega)];omega) (hno (ρ.length+(o-base)) (by omega))
   .grind
  .grind
 have hown2:∀o b,(obj' o).own ι' o b->(∃i,i<m/\gz ρ base i=o/\(an (aj.map some) i).own Fk i b)\/(idx o=none/\obj' o=obj o/\(obj o).own ι o b/\(tmp=false->o∉Z)):=by
  intro o b h;cases q:idx o with
  |some i=>
   obtain⟨hi,hpi⟩:=TU o i q;left;refine⟨i,hi,hpi,?_⟩;have Lz:=getElem?_eq_getElem (l:=aj) (i:=i) (by omega);rw[sy,Lz];rw[<- hpi,B9 i _ Lz]at h;have:∀ob:ah,(bK.live (bP (gz ρ base) ob)).own ι' (gz ρ base i) b->(bK.live ob).own Fk i b:=λob h=>by cases ob<;>(simp[bK.own,ah.own,bP,rC i _ hi]at h ⊢;try exact h)
   exact this _ h
  |none=>
   right;obtain⟨hρ,zY⟩:=Ls o q;have hk:∀n,ι' o n=ι o n:=λn=>Z5 o n q
   by_cases B:tmp=true
   .rw [if_pos B]at zY;rw[zY]at h;exact⟨rfl,zY,(bK.lU hk).1 h,λhf=>by grind⟩
   .rw [if_neg B]at zY;by_cases hd:o∈Z/\∃x,IU (obj o)=some x
    .obtain ⟨hZ,x,hd⟩:=hd;rw[(kO obj Z obj o).1 hZ x hd]at zY;rw[zY]at h;have:∃et e rows,x=.k9 et e rows:=by
      unfold IU at hd;split at hd
      .grind
      .grind
      .cases hd
     obtain⟨_,_,_,rfl⟩:=this;exact h.elim
    .have T:o∈Z->IU (obj o)=none:=λhZ=>by
      cases q:IU (obj o)with
      |none=>rfl
      |some x=>grind
     have abW:obj' o=obj o:=by
      rw[zY];refine(kO obj Z obj o).2 ?_;rcases Classical.em (o∈Z)with hZ|hZ
      .grind
      .grind
     rw[abW]at h;refine⟨rfl,abW,(bK.lU hk).1 h,λ_ hZ=>?_⟩;have hf:=T hZ;obtain⟨et,e,rows,hh|hh⟩|⟨et,cells,hh⟩|⟨h2,_⟩:=LD o hZ
     .rw [hh]at hf;cases hf
     .rw [hh]at h;exact h
     .rw [hh]at hf;cases hf
     .grind
 have D:∀o b,(obj o).own ι o b->b<w.heap.size:=λo b h=>S.TF ⟨o,h⟩
 have Gq:∀i b,(an (aj.map some) i).own Fk i b->(∃o,o∈ρ/\(obj o).own ι o b)\/w.heap.size<=b:=λi b h=>(E2.own b ⟨i,h⟩).imp (wP b) id
 have Ll:∀o,o∈ρ->idx o≠none:=λo ho' q=>(Ls o q).1 ho'
 have S':aA G J' w' ι' obj':=by
  refine⟨λo=>?_,?_,?_,?_,?_⟩
  .cases q:idx o with
   |some i=>
    obtain⟨hi,hpi⟩:=TU o i q;have Lz:=getElem?_eq_getElem (l:=aj) (i:=i) (by omega);have h2:=S2.rep i;rw[sy,Lz]at h2;rw[<- hpi,B9 i _ Lz];have htf:tmp≠true:=λB=>by grind
    have XA:∀b,J2 b->J' b:=λb V=>by grind
    generalize aj[i]=ob at h2 ⊢;cases ob with
    |box et cells=>obtain⟨⟨b,C,K,h4,h5⟩,_⟩:=h2;exact⟨⟨b,C,by grind,h4,bx.mono XA (λ_ _=>rfl) (λ_ _ _ h=>h) (λ_ _=>rfl) _ _ (bx.ry hun _ _ h5)⟩,trivial⟩
    |mp es=>obtain⟨⟨b,C,c,K,h4,h5⟩,_⟩:=h2;exact⟨⟨b,C,c,by grind,h4,jR.mono XA (λ_ _=>rfl) (λ_ _ _ h=>h) (λ_ _=>rfl) _ _ (jR.ry hun _ _ h5)⟩,trivial⟩
    |l_ et bs=>obtain⟨⟨K,h4⟩,hkey⟩:=h2;refine⟨⟨λk rows hk=>?_,λk k' b=>by grind⟩,λn hn'=>by grind⟩;obtain⟨b,C,h5,h6,h7⟩:=K k rows hk;exact⟨b,C,by grind,h6,bq.mono XA (λ_ _=>rfl) _ _ _ _ rfl h7⟩
    |lr et e v cells=>
     obtain⟨⟨e1,e2⟩|⟨b,C,K,h4,h0,h5⟩,hkey⟩:=h2
     .subst e1;exact⟨.inl ⟨rfl,by grind⟩,λn hn'=>by grind⟩
     have h6:=bx.mono XA (λ_ _=>rfl) (λ_ _ _ h=>h) (λ_ _=>rfl) _ _ (bx.ry hun _ _ h5);exact⟨.inr ⟨b,C,by grind,h4,by rw[vU];exact h0,by rw[vU];exact h6⟩,λn hn'=>by grind⟩
    |dat et e rows=>obtain⟨⟨K,h4⟩,h5⟩:=h2;refine⟨⟨by grind,λb V=>?_⟩,λn hn'=>by grind⟩;rw[rC i _ hi]at V;obtain⟨h6,h7⟩:=h4 b V;exact⟨h6,bq.mono XA (λ_ _=>rfl) _ _ _ _ rfl h7⟩
    |k9 et e rows=>obtain⟨⟨K,h4⟩,h5⟩:=h2;refine⟨⟨by grind,λb V=>?_⟩,trivial⟩;rw[rC i _ hi]at V;obtain⟨h6,h7⟩:=h4 b V;exact⟨XA b h6,bq.mono XA (λ_ _=>rfl) _ _ _ _ rfl h7⟩
   |none=>
    obtain⟨hρ,zY⟩:=Ls o q;have hk:∀n,ι' o n=ι o n:=λn=>Z5 o n q
    have hblk:∀b,(obj o).own ι o b->w'.heap[b]? = w.heap[b]?:=λb V=>E2.ev.same b (D o b V) (λh=>by obtain⟨o',H,h2⟩:=wP b h;have:=S.inj o o' b V h2;subst this;exact hρ H)
    have keep:=jI.keep S E hk hblk;by_cases B:tmp=true
    .rw [if_pos B]at zY;rw[zY];exact keep
    .rw [if_neg B]at zY;by_cases hZ:o∈Z
     .obtain ⟨et,e,rows,hd|hd⟩|⟨et,cells,hd⟩|⟨h,_⟩:=LD o hZ;rotate_left 3
      .grind
      rotate_left 1
      .rw [(kO obj Z obj o).2 (.inr (by rw[hd];rfl))]at zY;rw[zY];exact keep
      .rw [(kO obj Z obj o).1 hZ (.k9 et 1 []) (by rw[hd];rfl)]at zY;rw[zY];refine⟨⟨.inl rfl,λb V=>⟨?_,trivial⟩⟩,trivial⟩;simp only[J'];rw[if_neg B];refine E2.ev.ia b (.inr ⟨o,hZ,?_⟩);rw[hd];rw[hk]at V;exact V
      rw[(kO obj Z obj o).1 hZ (.k9 et e rows) (by rw[hd];rfl)]at zY;rw[zY];rw[hd]at keep;obtain⟨⟨H,h2⟩,_⟩:=keep;refine⟨⟨H,λb V=>?_⟩,trivial⟩;obtain⟨_,K⟩:=h2 b V;refine⟨?_,K⟩;simp only[J'];rw[if_neg B];refine E2.ev.ia b (.inr ⟨o,hZ,?_⟩);rw[hd];rw[hk]at V;exact V
     .rw [(kO obj Z obj o).2 (.inl hZ)]at zY;rw[zY];exact keep
  .intro o o' b h h';rcases hown2 o b h with ⟨i,hi,hpi,k⟩|⟨q,_,k,_⟩<;>rcases hown2 o' b h' with ⟨i',hi',ac4,k'⟩|⟨hx',_,k',_⟩
   .rw [<- hpi,<- ac4,S2.inj i i' b k k']
   .rcases Gq i b k with ⟨o2,H,h2⟩|H
    .have:=S.inj _ _ _ h2 k';subst this;exact absurd hx' (Ll _ H)
    .grind
   .rcases Gq i' b k' with ⟨o2,H,h2⟩|H
    .have:=S.inj _ _ _ h2 k;subst this;exact absurd q (Ll _ H)
    .grind
   .exact S.inj _ _ _ k k'
  .intro o b h hJb;rcases hown2 o b h with ⟨i,hi,hpi,k⟩|⟨q,_,k,hZ⟩
   .have htf:tmp≠true:=λB=>by
     have:=(TM B).2.1;rw[this]at hm;simp at hm;omega
    simp only[J']at hJb;rw[if_neg htf]at hJb;exact S2.pX i b k hJb
   .simp only[J']at hJb;split at hJb
    .exact S.pX o b k hJb
    .rename_i htf;rcases E2.ev.uT b hJb with (H|⟨z,TL,Rg⟩)|H|H
     .exact S.pX o b k H
     .have:=S.inj _ _ _ k Rg;subst this;exact hZ (by grind) TL
     .grind
     .obtain ⟨o2,K,h4⟩:=wP b H;have:=S.inj _ _ _ k h4;subst this;exact Ll _ K q
  .intro b V;simp only[J']at V;split at V
   .rw [S.same E b V];exact S.jcell b V
   .exact S2.jcell b V
  .intro g row hg;obtain⟨H,h2,t,K⟩:=S.uV g row hg;exact⟨ack g H,h2.ev S E H,t,by rw[E.shape g (S.Ey g H)];exact K⟩
 refine⟨J',ι',S',?_,E,?_⟩
 .have H:=cW.ry hun r v hr;by_cases B:tmp=true
  .have Rf:qH (rn (gz ρ base) r)=true:=by
    have:∀(x:LV),qH x=true->qH (rn (gz ρ base) x)=true:=by intro x;exact(ZS (gz ρ base)).1 x
    exact this r (TM B).1
   exact cW.qH trivial _ _ Rf H
  .have:J'=J2:=by funext b;simp only[J'];rw[if_neg B]
   rw[this];exact H
 .rintro b ⟨o,h⟩;rcases hown2 o b h with ⟨i,hi,hpi,k⟩|⟨q,_,k,_⟩
  .rcases Gq i b k with ⟨o2,H,h2⟩|H
   .exact .inl ⟨o2,h2⟩
   .grind
  .exact .inl ⟨o,k⟩
end
end
end Dv
