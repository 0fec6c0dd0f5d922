/- What agents' reports mean: plain data (no program in sight). -/
import Derived.Test.YtkalnfkokkjliaaGreatDoorPA
set_option linter.unusedVariables false
set_option linter.unusedSimpArgs false
namespace Dv
def fq (r:List dc) (i:Int):dc:=if i<0∨(r.length:Int)≤i then gO else if (r.getD i.toNat gO).kind=6 then r.getD i.toNat gO else gO
def Fq (m:dc):Bool:=m.kind==6&&m.mode==0
def jf (s:aa) (r:List dc) (node mode aN:Int):Bool:=
 (fq r node).kind==6&&decide (1≤aN)&&decide (aN≤s.jobs.length)&&(fq r node).mode==mode&&(fq r node).aN==aN&&(fq r node).inc==(s.jobs.getD (aN-1).toNat ax).inc
def mA (m:Int) (tk:Nat→Bool):Bool:=(List.range 6).all fun i=>!hasB m i||tk i
def BZ (s:aa) (r:List dc) (aN now:Int) (j:bU):cH×Bool:=
 if j.phase=1 then (⟨10,aN,now,0,0,0,0⟩,mA j.nodes fun i=>jf s r i 1 aN||jf s r i 2 aN)
 else if j.phase=2 then (⟨15,aN,0,0,0,0,0⟩,mA j.nodes fun i=>jf s r i 2 aN&&decide (j.work≤(fq r i).work))
 else if j.phase=3 then (if j.epoch<j.inc then ⟨13,aN,j.inc,0,0,0,0⟩ else ⟨14,aN,0,0,0,0,0⟩,mA j.nodes fun i=>jf s r i 3 aN)
 else (gh,false)
def PF (p:cH×Bool):Option cH:=if p.2=true then some p.1 else none
def EJ (s:aa) (m:dc) (n:bK) (i:Int):Option cH:=
 if Fq m=false then none
 else if n.up=false∧1≤m.version∧m.version≤9 then some ⟨8,i,m.version,0,0,0,0⟩
 else if n.bu=true∧m.version=fk s then some ⟨19,i,m.version,0,0,0,0⟩
 else none
def k_ (s:aa) (r:List dc) (up:Bool):List bK→Nat→Option cH
 | [],_=>none
 | n::l,i=>if n.up=up then (match EJ s (fq r i) n i with | some o=>some o | none=>k_ s r up l (i+1)) else k_ s r up l (i+1)
def tI (s:aa) (r:List dc) (now:Int):List bU→Nat→Option cH
 | [],_=>none
 | j::l,k=>match PF (BZ s r ((k:Int)+1) now j) with | some o=>some o | none=>tI s r now l (k+1)
def tf (s:aa) (r:List dc) (now:Int):Option cH:=
 match k_ s r false s.nodes 0 with
 | some o=>some o
 | none=>match k_ s r true s.nodes 0 with
   | some o=>some o
   | none=>tI s r now s.jobs 0
def kn (b_ now:Int):List Bool→List Int→Int→Int
 | u::us,h::hs,i=>if u=true∧h+b_≤now then i else kn b_ now us hs (i+1)
 | _,_,_=>-1
end Dv
