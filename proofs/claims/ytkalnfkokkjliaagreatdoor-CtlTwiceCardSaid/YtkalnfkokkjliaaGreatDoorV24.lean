/- part -/
import Derived.Test.YtkalnfkokkjliaaGreatDoorVD
import Derived.Test.YtkalnfkokkjliaaGreatDoorVD
set_option linter.all false
namespace Dv
open Go
inductive Out where
 | n
 | x (i:Nat)
 | r
structure Tab where
 ir:Nat→Option (Nat×C×List RV)
 hand:Nat→Bool→List LV→List aH→Option (LV×List aH)
 dat:Nat→Nat→Bool
 ro:Nat→Nat→Bool
mutual
def rP (ρ:List Nat):LV→Bool
 | .top=>true
 | .dQ=>true
 | .d _=>true
 | .ptr o _=>ρ.contains o
 | .rp o _ _ _ _=>ρ.contains o
 | .ip _ _=>true
 | .sl o _ _ _ _=>ρ.contains o
 | .fn _ a b=>v8 ρ a&&v8 ρ b
 | .agg cs=>v8 ρ cs
 | .dJ vs=>v8 ρ vs
 | .fW _ v=>rP ρ v
 | .yl _=>false
 | .mr o=>ρ.contains o
def v8 (ρ:List Nat):List LV→Bool
 | []=>true
 | x::xs=>rP ρ x&&v8 ρ xs
end
def inO (ρ:List Nat):aH→Bool
 | .box _ cells=>v8 ρ cells
 | .mp es=>es.all fun p=>rP ρ p.2
 | _=>true
mutual
def nms:LV→List Nat
 | .ptr o _=>[o]
 | .mr o=>[o]
 | .rp o _ _ _ _=>[o]
 | .sl o _ _ _ _=>[o]
 | .fn _ a b=>Fx a++Fx b
 | .agg cs=>Fx cs
 | .dJ vs=>Fx vs
 | .fW _ v=>nms v
 | _=>[]
def Fx:List LV→List Nat
 | []=>[]
 | x::xs=>nms x++Fx xs
end
def acR:aH→List Nat
 | .box _ cells=>Fx cells
 | .mp es=>es.flatMap fun p=>nms p.2
 | _=>[]
def Nl (l:List Nat):List Nat→List Nat
 | []=>l
 | x::xs=>Nl (if l.contains x then l else l++[x]) xs
def reach (af:List (Option aH)):Nat→List Nat→List Nat
 | 0,ρ=>ρ
 | n+1,ρ=>
   let ρ':=Nl ρ (ρ.flatMap fun o=>match af[o]? with | some (some ob)=>acR ob | _=>[])
   if ρ'.length=ρ.length then ρ else reach af n ρ'
def uu (af:List (Option aH)):List Nat→Option (List aH)
 | []=>some []
 | o::r=>match af[o]?,uu af r with
   | some (some ob),some l=>some (ob::l)
   | _,_=>none
def slots:List (Nat×LV)→List Nat→List Nat
 | [],acc=>acc
 | (k,_)::r,acc=>slots r (if acc.contains k then acc else acc++[k])
def xk (env:List (Nat×LV)):List (Nat×LV):=(slots env []).map fun t=>(t,aZ env t)
def nodupB:List Nat→Bool
 | []=>true
 | x::xs=>!xs.contains x&&nodupB xs
def isR:LV→Bool
 | .d (.val (.tuple a))=>a.size==0
 | _=>false
def isLeft:LV→Bool
 | .dJ []=>true
 | _=>false
abbrev RES:=Option (Out×List (Nat×LV)×List (Option aH))
abbrev Ns:=List LV→List (Option aH)→LV→Option (LV×Bool×List (Option aH))
def HT:Ns:=fun _ _ _=>none
def Fc (ra rb:List (Nat×LV)→List (Option aH)→RES) (jm:Option Nat) (ps:List Nat) (env:List (Nat×LV)) (oy:Nat):Ns:=fun as af ys=>match as with
 | .yl q::as=>if q=oy∧isR ys=true∧as.length=ps.length then (match ra (sL ps as env) af with
   | some (.n,e1,o1)=>(match rb e1 o1 with
     | some (.n,_,o)=>some (jf,true,o)
     | some (.x i,_,o)=>if i≠gY∧jm=some i then some (kj,false,o) else none
     | some (.r,_,o)=>if jm=none then some (kj,false,o) else none
     | none=>none)
   | _=>none) else none
 | _=>none
def Ob:Value→Value→Bool
 | .int k n,.int k' n'=>decide (k=k')&&decide (n=n')
 | .bool a,.bool b=>decide (a=b)
 | .string a,.string b=>decide (a=b)
 | .pointer none,.pointer none=>true
 | .slice none n c,.slice none n' c'=>Nat.beq n n'&&Nat.beq c c'
 | .nilFunc,.nilFunc=>true
 | _,_=>false
mutual
def qq:DV→DV→Bool
 | .val a,.val b=>Ob a b
 | .dH e rows,.dH e' VZ=>Nat.beq e e'&&qp rows VZ
 | .agg a,.agg b=>sX a b
 | _,_=>false
def sX:List DV→List DV→Bool
 | [],[]=>true
 | x::xs,y::ys=>qq x y&&sX xs ys
 | _,_=>false
def qp:List (List DV)→List (List DV)→Bool
 | [],[]=>true
 | x::xs,y::ys=>sX x y&&qp xs ys
 | _,_=>false
end
mutual
def JM:LV→LV→Bool
 | .top,.top=>true
 | .d x,.d y=>qq x y
 | .ptr o c,.ptr o' c'=>Nat.beq o o'&&Nat.beq c c'
 | .sl o n e l k,.sl o' n' e' l' k'=>Nat.beq o o'&&Nat.beq n n'&&Nat.beq e e'&&Nat.beq l l'&&Nat.beq k k'
 | .rp o n e l k,.rp o' n' e' l' k'=>Nat.beq o o'&&Nat.beq n n'&&Nat.beq e e'&&Nat.beq l l'&&Nat.beq k k'
 | .agg a,.agg b=>oB a b
 | _,_=>false
def oB:List LV→List LV→Bool
 | [],[]=>true
 | x::xs,y::ys=>JM x y&&oB xs ys
 | _,_=>false
end
def EY:Option aH→Option aH→Bool
 | some (.box t a),some (.box t' b)=>decide (t=t')&&oB a b
 | some (.dat t e a),some (.dat t' e' b)=>decide (t=t')&&Nat.beq e e'&&qp a b
 | some (.kW t e a),some (.kW t' e' b)=>decide (t=t')&&Nat.beq e e'&&qp a b
 | _,_=>false
section
variable (G:Nat→Option (List DV)) (self:Bool→Nat→List LV→List aH→Option (LV×List aH)) (pI:Nat→List LV→List (Option aH)→Ns→Option (LV×List (Option aH))) (dat ro:Nat→Bool)
def I_ (k:Nat) (as:List LV) (af:List (Option aH)):Option fu:=
 let ρ:=reach af af.length (Nl [] (Fx as))
 match uu af ρ with
 | some obs=>
   if v8 ρ as&&obs.all (inO ρ)&&nodupB ρ then
    match self (dat k) k (ni (fun o=>ρ.idxOf o) as) (obs.map (fB fun o=>ρ.idxOf o)) with
    | some (r,ax)=>if obs.length≤ax.length then
      some { r:=rn (bB ρ af.length) r,rd:=ρ,wr:=(if ro k=true then (ρ.zip (ax.map (fB (bB ρ af.length)))).filter fun p=>!EY ax[ρ.idxOf p.1]? (obs.map (fB fun o=>ρ.idxOf o))[ρ.idxOf p.1]? else ρ.zip (ax.map (fB (bB ρ af.length)))),nw:=(ax.drop ρ.length).map (fB (bB ρ af.length)) } else none
    | none=>none
   else none
 | none=>none
def doI (i:I) (env:List (Nat×LV)) (af:List (Option aH)):Option fu:=
 match i with
 | .call f args=>match callee (f.ev G (aZ env)) with
   | some (k,fs,cs)=>I_ self dat ro k (fs++args.map (·.ev G (aZ env))++cs) af
   | none=>none
 | i=>cI G (aZ env) (aD af) af.length i
def doY (gB:Ns) (i:I) (env:List (Nat×LV)) (af:List (Option aH)):Option (LV×Bool×List (Option aH)):=
 match i with
 | .call f args=>match callee (f.ev G (aZ env)) with
   | some _=>none
   | none=>match f.ev G (aZ env) with
     | .yl oy=>gB (.yl oy::args.map (·.ev G (aZ env))) af (aZ env YS)
     | _=>none
 | _=>none
def do1 (gB:Ns) (o:ei) (env:List (Nat×LV)) (af:List (Option aH)):Option (List (Nat×LV)×List (Option aH)):=
 match doI G self dat ro o.op env af with
 | some e=>some (dY o.dst e.r env,fQ e.wr af++e.nw.map some)
 | none=>match doY G gB o.op env af with
   | some (ys,b,aA)=>some (dY o.dst (.bool b) ((YS,ys)::env),aA)
   | none=>none
def sY (gB:Ns):List ei→List (Nat×LV)→List (Option aH)→Option (List (Nat×LV)×List (Option aH))
 | [],env,af=>some (env,af)
 | o::os,env,af=>
   match o.guard with
   | none=>(match do1 G self dat ro gB o env af with
     | some (env',aA)=>sY gB os env' aA
     | none=>none)
   | some (g,want)=>match aZ env g with
     | .d (.val (.bool b))=>if b=want then (match do1 G self dat ro gB o env af with
       | some (env',aA)=>sY gB os env' aA
       | none=>none) else sY gB os (dY o.dst .undef env) af
     | .d (.val (.tuple _))=>sY gB os (dY o.dst .undef env) af
     | _=>none
def mK:List ei→List (Nat×LV)→List (Option aH)→List iP→Option (List (Nat×LV)×List (Option aH))
 | [],env,af,log=>if indep log=true then some (env,af) else none
 | o::os,env,af,log=>
   match o.guard with
   | none=>(match doI G self dat ro o.op env af with
     | some e=>mK os (dY o.dst e.r env) (fQ e.wr af++e.nw.map some) (log++[⟨o.pre,e.rd,(e.owned af.length).map (·.1)⟩])
     | none=>none)
   | some (g,want)=>match aZ env g with
     | .d (.val (.bool b))=>if b=want then (match doI G self dat ro o.op env af with
       | some e=>mK os (dY o.dst e.r env) (fQ e.wr af++e.nw.map some) (log++[⟨o.pre,e.rd,(e.owned af.length).map (·.1)⟩])
       | none=>none) else mK os (dY o.dst .undef env) af (log++[⟨o.pre,[],[]⟩])
     | .d (.val (.tuple _))=>mK os (dY o.dst .undef env) af (log++[⟨o.pre,[],[]⟩])
     | _=>none
def iter (f:List (Nat×LV)→List (Option aH)→RES):Nat→List (Nat×LV)→List (Option aH)→RES
 | 0,_,_=>none
 | n+1,env,af=>match f env af with
   | some (.n,env',aA)=>iter f n (xk env') aA
   | r=>r
def zf (jm:Option Nat) (env:List (Nat×LV)):Option (LV×List (Option aH))→RES
 | some (yv,o)=>if isR yv=true then some (.n,env,o) else if isLeft yv=true then (match jm with
   | some i=>if i≠gY then some (.x i,env,o) else none
   | none=>some (.r,env,o)) else none
 | none=>none
def jI (L:Nat):C→Ns→List (Nat×LV)→List (Option aH)→RES
 | .skip,gB,env,af=>some (.n,env,af)
 | .iJ ops,gB,env,af=>match sY G self dat ro gB ops env af with
   | some (env',aA)=>some (.n,env',aA)
   | none=>none
 | .jA ops,gB,env,af=>match mK G self dat ro ops env af [] with
   | some (env',aA)=>some (.n,env',aA)
   | none=>none
 | .seq a b,gB,env,af=>match jI L a gB env af with
   | some (.n,env',aA)=>jI L b gB env' aA
   | r=>r
 | .cond c a b,gB,env,af=>match c.ev G (aZ env) with
   | .d (.val (.bool t))=>if t=true then jI L a gB env af else jI L b gB env af
   | _=>none
 | .block i b,gB,env,af=>match jI L b gB env af with
   | some (.x j,env',aA)=>some (if j=i then .n else .x j,env',aA)
   | r=>r
 | .loop b,gB,env,af=>iter (jI L b gB) L (xk env) af
 | .exit i,gB,env,af=>some (.x i,env,af)
 | .ret,gB,env,af=>some (.r,env,af)
 | .scope b,gB,env,af=>jI L b gB env af
 | .Zc g ps a b,gB,env,af=>match callee (g.ev G (aZ env)) with
   | some (k,fs,cs)=>(match zf none env (pI k (fs++[.yl af.length]++cs) (af++[none]) (Fc (jI L a HT) (jI L b HT) none ps env af.length)) with
     | some r=>some r
     | none=>zf (some 0) env (pI k (fs++[.yl af.length]++cs) (af++[none]) (Fc (jI L a HT) (jI L b HT) (some 0) ps env af.length)))
   | none=>none
end
def wW (af:List (Option aH)) (o:Nat):Option (Nat×List (List DV)):=match af[o]? with
 | some (some (.dat _ e rows))=>some (e,rows)
 | some (some (.kW _ e rows))=>some (e,rows)
 | _=>none
mutual
def jB (k:Nat) (af:List (Option aH)):LV→LV
 | .sl o n e lo len=>if k≤o then (match wW af o with
   | some (e0,rows)=>if e=e0∧n=rows.length∧lo+len≤rows.length then .d (.dH e ((rows.drop lo).take len)) else .sl o n e lo len
   | none=>.sl o n e lo len) else .sl o n e lo len
 | .dJ vs=>.dJ (vF k af vs)
 | x=>x
def vF (k:Nat) (af:List (Option aH)):List LV→List LV
 | []=>[]
 | x::xs=>jB k af x::vF k af xs
end
def MO:List Nat→List Nat→Bool
 | [],[]=>true
 | x::xs,y::ys=>Nat.beq x y&&MO xs ys
 | _,_=>false
def aao (md:Bool) (k:Nat) (r:LV) (af:List (Option aH)):Option (LV×List aH):=
 if md=true then (match uu af (List.range k) with
  | some obs=>if eH k (jB k af r)=true∧obs.all (dZ k)=true then some (jB k af r,obs) else none
  | none=>none)
 else let ρ:=reach af af.length (Nl (List.range k) (nms r))
  match uu af ρ with
  | some obs=>if (MO (ρ.take k) (List.range k)&&nodupB ρ&&rP ρ r&&obs.all (inO ρ))=true then some (rn (fun o=>ρ.idxOf o) r,obs.map (fB fun o=>ρ.idxOf o)) else none
  | none=>none
mutual
def r_ (G:Nat→Option (List DV)) (T:Tab) (L:Nat):Nat→Bool→Nat→List LV→List aH→Option (LV×List aH)
 | 0,_,_,_,_=>none
 | d+1,md,f,args,af=>match T.hand f md args af with
   | some r=>some r
   | none=>match T.ir f with
     | some (N,c,rv)=>if args.length≤N then (match jI G (r_ G T L d) (Oe G T L d) (T.dat f) (T.ro f) L c HT (fF 0 args) (af.map some) with
       | some (.x _,_,_)=>none
       | some (_,env,aA)=>(match yE.of ⟨env,aA⟩ rv with
         | some vs=>aao md af.length (aU vs) aA
         | none=>none)
       | none=>none) else none
     | none=>none
def Oe (G:Nat→Option (List DV)) (T:Tab) (L:Nat):Nat→Nat→List LV→List (Option aH)→Ns→Option (LV×List (Option aH))
 | 0,_,_,_,_=>none
 | d+1,f,args,af,gB=>match T.ir f with
   | some (N,c,rv)=>if (args.length≤N∧kf c=true)∧rv=[] then (match jI G (r_ G T L d) (Oe G T L d) (T.dat f) (T.ro f) L c gB ((YS,jf)::fF 0 args) af with
     | some (.x _,_,_)=>none
     | some (_,env,aA)=>some (aZ env YS,aA)
     | none=>none) else none
   | none=>none
end
theorem uL {ρ:List Nat} {o:Nat} (h:o∈ρ):ρ[ρ.idxOf o]? = some o:=by
 have hl:=List.idxOf_lt_length_of_mem h
 rw [List.getElem?_eq_getElem hl,List.getElem_idxOf hl]
theorem DU {ρ:List Nat} {o:Nat} (b:Nat) (h:o∈ρ):bB ρ b (ρ.idxOf o)=o:=by
 unfold bB; rw [uL h]
section
variable {ρ:List Nat}
mutual
theorem Hx (b:Nat):∀ (x:LV),rP ρ x=true→rn (bB ρ b) (rn (fun o=>ρ.idxOf o) x)=x
 | .top,_=>rfl
 | .dQ,_=>rfl
 | .d x,_=>rfl
 | .ptr o c,h=>by simp only [rP,List.contains_iff_mem] at h; simp only [rn,DU b h]
 | .rp o n e r c,h=>by simp only [rP,List.contains_iff_mem] at h; simp only [rn,DU b h]
 | .ip ..,_=>rfl
 | .sl o n e l m,h=>by simp only [rP,List.contains_iff_mem] at h; simp only [rn,DU b h]
 | .fn f x y,h=>by
   simp only [rP,Bool.and_eq_true] at h
   simp only [rn,rH b x h.1,rH b y h.2]
 | .agg cs,h=>by
   simp only [rP] at h
   simp only [rn,rH b cs h]
 | .dJ cs,h=>by
   simp only [rP] at h
   simp only [rn,rH b cs h]
 | .fW t v,h=>by
   simp only [rP] at h
   simp only [rn,Hx b v h]
 | .yl _,h=>by simp [rP] at h
 | .mr o,h=>by simp only [rP,List.contains_iff_mem] at h; simp only [rn,DU b h]
theorem rH (b:Nat):∀ (xs:List LV),v8 ρ xs=true→ni (bB ρ b) (ni (fun o=>ρ.idxOf o) xs)=xs
 | [],_=>rfl
 | x::xs,h=>by
   simp only [v8,Bool.and_eq_true] at h
   simp only [ni,Hx b x h.1,rH b xs h.2]
end
theorem JP (b:Nat) (ob:aH) (h:inO ρ ob=true):fB (bB ρ b) (fB (fun o=>ρ.idxOf o) ob)=ob:=by
 cases ob with
 | box et cells=>simp only [fB]; rw [rH b cells h]
 | mp es=>
   simp only [inO,List.all_eq_true] at h
   simp only [fB,aH.mp.injEq,List.map_map]
   conv=>rhs; rw [← List.map_id es]
   exact List.map_congr_left fun p hp=>by simp [Hx b p.2 (h p hp)]
 | _=>rfl
mutual
theorem Ih:∀ (x:LV),rP ρ x=true→eH ρ.length (rn (fun o=>ρ.idxOf o) x)=true
 | .top,_=>rfl
 | .dQ,_=>rfl
 | .d x,_=>rfl
 | .ptr o c,h=>by simp only [rP,List.contains_iff_mem] at h; simpa only [rn,eH,decide_eq_true_eq] using List.idxOf_lt_length_of_mem h
 | .rp o n e r c,h=>by simp only [rP,List.contains_iff_mem] at h; simpa only [rn,eH,decide_eq_true_eq] using List.idxOf_lt_length_of_mem h
 | .ip ..,_=>rfl
 | .sl o n e l m,h=>by simp only [rP,List.contains_iff_mem] at h; simpa only [rn,eH,decide_eq_true_eq] using List.idxOf_lt_length_of_mem h
 | .fn f x y,h=>by
   simp only [rP,Bool.and_eq_true] at h
   simp only [rn,eH,rQ x h.1,rQ y h.2,Bool.and_self]
 | .agg cs,h=>by
   simp only [rP] at h
   simp only [rn,eH,rQ cs h]
 | .dJ cs,h=>by
   simp only [rP] at h
   simp only [rn,eH,rQ cs h]
 | .fW t v,h=>by
   simp only [rP] at h
   simp only [rn,eH,Ih v h]
 | .yl _,h=>by simp [rP] at h
 | .mr o,h=>by simp only [rP,List.contains_iff_mem] at h; simpa only [rn,eH,decide_eq_true_eq] using List.idxOf_lt_length_of_mem h
theorem rQ:∀ (xs:List LV),v8 ρ xs=true→eD ρ.length (ni (fun o=>ρ.idxOf o) xs)=true
 | [],_=>rfl
 | x::xs,h=>by
   simp only [v8,Bool.and_eq_true] at h
   simp only [ni,eD,Ih x h.1,rQ xs h.2,Bool.and_self]
end
theorem Ks (ob:aH) (h:inO ρ ob=true):dZ ρ.length (fB (fun o=>ρ.idxOf o) ob)=true:=by
 cases ob with
 | box et cells=>exact rQ cells h
 | mp es=>
   simp only [inO,List.all_eq_true] at h
   simp only [fB,dZ,List.all_map,List.all_eq_true]
   exact fun p hp=>Ih p.2 (h p hp)
 | _=>rfl
mutual
theorem Et (obj:Nat→cF):∀ (x:LV),rP ρ x=true→ah obj ρ [] x (rn (fun o=>ρ.idxOf o) x)
 | .top,_=>by simp [rn,ah]
 | .dQ,_=>by simp [rn,ah]
 | .d x,_=>by simp [rn,ah]
 | .ptr o c,h=>by simp only [rP,List.contains_iff_mem] at h; simp only [rn,ah,uL h,and_self]
 | .rp o n e r c,h=>by simp only [rP,List.contains_iff_mem] at h; simp only [rn,ah,uL h,and_self]
 | .ip ..,_=>by simp [rn,ah]
 | .sl o n e l m,h=>by simp only [rP,List.contains_iff_mem] at h; simp only [rn,ah,uL h,and_self]
 | .fn f x y,h=>by
   simp only [rP,Bool.and_eq_true] at h
   simp only [rn,ah,true_and]
   exact ⟨mm obj x h.1,mm obj y h.2⟩
 | .agg cs,h=>by
   simp only [rP] at h
   simp only [rn,ah]
   exact mm obj cs h
 | .dJ cs,h=>by
   simp only [rP] at h
   simp only [rn,ah]
   exact mm obj cs h
 | .fW t v,h=>by
   simp only [rP] at h
   simp only [rn,ah,true_and]
   exact Et obj v h
 | .yl _,h=>by simp [rP] at h
 | .mr o,h=>by simp only [rP,List.contains_iff_mem] at h; simp only [rn,ah,uL h]
theorem mm (obj:Nat→cF):∀ (xs:List LV),v8 ρ xs=true→ag obj ρ [] xs (ni (fun o=>ρ.idxOf o) xs)
 | [],_=>by simp [ni,ag]
 | x::xs,h=>by
   simp only [v8,Bool.and_eq_true] at h
   simp only [ni,ag]
   exact ⟨Et obj x h.1,mm obj xs h.2⟩
end
end
theorem qL:∀ (l:List Nat),nodupB l=true→l.Nodup
 | [],_=>List.nodup_nil
 | x::xs,h=>by
   simp only [nodupB,Bool.and_eq_true,Bool.not_eq_true',List.contains_eq_mem,decide_eq_false_iff_not] at h
   exact List.nodup_cons.2 ⟨h.1,qL xs h.2⟩
theorem KD:∀ (l m:List Nat),MO l m=true→l=m
 | [],[],_=>rfl
 | x::xs,y::ys,h=>by
   simp only [MO,Bool.and_eq_true] at h
   rw [Nat.eq_of_beq_eq_true h.1,KD xs ys h.2]
 | [],_::_,h=>by simp [MO] at h
 | _::_,[],h=>by simp [MO] at h
theorem Pn {x:LV} (h:isR x=true):x=jf:=by
 unfold isR at h
 split at h
 ·rename_i a
  have:a=#[]:=by
   apply Array.eq_empty_of_size_eq_zero
   simpa using h
  subst this; rfl
 ·cases h
theorem Mk {x:LV} (h:isLeft x=true):x=kj:=by
 unfold isLeft at h
 split at h
 ·rfl
 ·cases h
theorem rK {af:List (Option aH)} : ∀ {ρ:List Nat} {obs:List aH},uu af ρ=some obs→ρ.map (aD af)=obs.map cF.live
 | [],obs,h=>by cases h; rfl
 | o::r,obs,h=>by
   simp only [uu] at h
   split at h
   ·rename_i ob l h1 h2
    cases h
    rw [List.map_cons,List.map_cons,rK h2]
    congr 1
    simp [aD,h1]
   ·cases h
theorem B5 {af:List (Option aH)} {ρ:List Nat} {obs:List aH} (h:uu af ρ=some obs) (i o:Nat) (hi:ρ[i]? = some o):∃ ob,obs[i]? = some ob∧aD af o=.live ob:=by
 have h1:=congrArg (fun l=>l[i]?) (rK h)
 simp only [List.getElem?_map,hi,Option.map_some] at h1
 cases eX:obs[i]? with
 | none=>rw [eX] at h1; cases h1
 | some ob=>rw [eX] at h1; exact ⟨ob,rfl,Option.some.inj h1⟩
theorem B4 {af:List (Option aH)} {ρ:List Nat} {obs:List aH} (h:uu af ρ=some obs):obs.length=ρ.length:=by
 have:=congrArg List.length (rK h)
 simpa using this.symm
theorem Oa:∀ (a b:Value),Ob a b=true→a=b:=by
 intro a b h
 unfold Ob at h
 split at h <;> (try (cases h; done)) <;> simp only [Bool.and_eq_true,decide_eq_true_eq] at h
 ·rw [h.1,h.2]
 ·rw [h]
 ·rw [h]
 ·rfl
 ·rw [Nat.eq_of_beq_eq_true h.1,Nat.eq_of_beq_eq_true h.2]
 ·rfl
mutual
theorem EZ:∀ (a b:DV),qq a b=true→a=b
 | .val a,.val b,h=>by simp only [qq] at h; rw [Oa _ _ h]
 | .dH e rows,.dH e' VZ,h=>by
   simp only [qq,Bool.and_eq_true] at h
   rw [Nat.eq_of_beq_eq_true h.1,rG _ _ h.2]
 | .agg a,.agg b,h=>by simp only [qq] at h; rw [vM _ _ h]
 | .val _,.dH ..,h | .val _,.fn ..,h | .val _,.fW ..,h | .val _,.agg _,h=>by simp [qq] at h
 | .dH ..,.val _,h | .dH ..,.fn ..,h | .dH ..,.fW ..,h | .dH ..,.agg _,h=>by simp [qq] at h
 | .agg _,.val _,h | .agg _,.fn ..,h | .agg _,.fW ..,h | .agg _,.dH ..,h=>by simp [qq] at h
 | .fn ..,_,h=>by simp [qq] at h
 | .fW ..,_,h=>by simp [qq] at h
theorem vM:∀ (a b:List DV),sX a b=true→a=b
 | [],[],_=>rfl
 | x::xs,y::ys,h=>by
   simp only [sX,Bool.and_eq_true] at h
   rw [EZ _ _ h.1,vM _ _ h.2]
 | [],_::_,h=>by simp [sX] at h
 | _::_,[],h=>by simp [sX] at h
theorem rG:∀ (a b:List (List DV)),qp a b=true→a=b
 | [],[],_=>rfl
 | x::xs,y::ys,h=>by
   simp only [qp,Bool.and_eq_true] at h
   rw [vM _ _ h.1,rG _ _ h.2]
 | [],_::_,h=>by simp [qp] at h
 | _::_,[],h=>by simp [qp] at h
end
mutual
theorem Oc:∀ (a b:LV),JM a b=true→a=b:=by
 intro a b h
 cases a <;> cases b <;> (try (simp [JM] at h; done)) <;> simp only [JM,Bool.and_eq_true] at h
 ·rfl
 ·rw [EZ _ _ h]
 ·rw [Nat.eq_of_beq_eq_true h.1,Nat.eq_of_beq_eq_true h.2]
 ·rw [Nat.eq_of_beq_eq_true h.1.1.1.1,Nat.eq_of_beq_eq_true h.1.1.1.2,Nat.eq_of_beq_eq_true h.1.1.2,Nat.eq_of_beq_eq_true h.1.2,Nat.eq_of_beq_eq_true h.2]
 ·rw [Nat.eq_of_beq_eq_true h.1.1.1.1,Nat.eq_of_beq_eq_true h.1.1.1.2,Nat.eq_of_beq_eq_true h.1.1.2,Nat.eq_of_beq_eq_true h.1.2,Nat.eq_of_beq_eq_true h.2]
 ·rw [nN _ _ h]
theorem nN:∀ (a b:List LV),oB a b=true→a=b
 | [],[],_=>rfl
 | x::xs,y::ys,h=>by
   simp only [oB,Bool.and_eq_true] at h
   rw [Oc _ _ h.1,nN _ _ h.2]
 | [],_::_,h=>by simp [oB] at h
 | _::_,[],h=>by simp [oB] at h
end
theorem EX {a b:Option aH} (h:EY a b=true):a=b:=by
 unfold EY at h
 split at h <;> (try (cases h; done)) <;> simp only [Bool.and_eq_true,decide_eq_true_eq] at h
 ·rw [h.1,nN _ _ h.2]
 ·rw [h.1.1,Nat.eq_of_beq_eq_true h.1.2,rG _ _ h.2]
 ·rw [h.1.1,Nat.eq_of_beq_eq_true h.1.2,rG _ _ h.2]
theorem cw.acf {P:Program} {G:Nat→Option (List DV)} {k:Nat} {args aX:List LV} {obj:Nat→cF} {base:Nat} {r:LV} {aK ax:List aH} (ρ:List Nat) (keep:Nat→Bool) (hT:bw P G k aX aK r ax) (ha:ag obj ρ [] args aX) (hnd:ρ.Nodup) (ho:ρ.map obj=aK.map (fun ob=>cF.live (fB (bB ρ base) ob))) (hid:aK.all (dZ ρ.length)=true) (hle:aK.length≤ax.length)
  (hkeep:∀ (i o:Nat),ρ[i]? = some o→keep o=false→ax[i]? = aK[i]?) :
  cw P G k args obj base { r:=rn (bB ρ base) r,rd:=ρ,wr:=(ρ.zip (ax.map (fB (bB ρ base)))).filter fun p=>keep p.1,nw:=(ax.drop ρ.length).map (fB (bB ρ base)) }:=
 ⟨⟨ρ,[],false,aX,aK,r,ax,keep,hkeep,hnd,(fun _ h=>by cases h),(fun _ h=>by cases h),by have:=congrArg List.length ho; simpa using this.symm,(fun i o hi=>by
   have h1:(ρ.map obj)[i]? = some (obj o):=by rw [List.getElem?_map,hi]; rfl
   rw [ho,List.getElem?_map] at h1
   cases hf:aK[i]? with
   | none=>rw [hf] at h1; cases h1
   | some ob=>rw [hf] at h1; simp at h1; exact ⟨ob,rfl,h1.symm⟩),hid,ha,(fun h=>by cases h),hle,hT,by simp [gE]⟩⟩
section
variable {P:Program} {G:Nat→Option (List DV)} {self:Bool→Nat→List LV→List aH→Option (LV×List aH)} {dat ro:Nat→Bool}
 (nW:∀ md k as af r aA,self md k as af=some (r,aA)→bw P G k as af r aA)
include nW
theorem Ek {k:Nat} {as:List LV} {af:List (Option aH)} {e:fu} (h:I_ self dat ro k as af=some e):cw P G k as (aD af) af.length e:=by
 unfold I_ at h
 dsimp only at h
 generalize reach af af.length (Nl [] (Fx as))=ρ at h
 cases hp:uu af ρ with
 | none=>rw [hp] at h; cases h
 | some obs=>
   rw [hp] at h
   dsimp only at h
   split at h
   ·rename_i hc
    simp only [Bool.and_eq_true] at hc
    obtain ⟨⟨h1,h2⟩,h3⟩:=hc
    split at h
    ·rename_i r ax hs
     split at h
     ·rename_i hle
      cases h
      have hT:=nW _ _ _ _ _ _ hs
      rw [List.all_eq_true] at h2
      have g1:ρ.map (aD af)=(obs.map (fB fun o=>ρ.idxOf o)).map (fun ob=>cF.live (fB (bB ρ af.length) ob)):=by
       rw [rK hp,List.map_map]
       refine List.map_congr_left (fun ob eX=>?_)
       simp only [Function.comp,JP af.length ob (h2 ob eX)]
      have g2:(obs.map (fB fun o=>ρ.idxOf o)).all (dZ ρ.length)=true:=by
       rw [List.all_map,List.all_eq_true]
       exact fun ob eX=>Ks ob (h2 ob eX)
      split
      ·refine cw.acf ρ (fun q=>!EY ax[ρ.idxOf q]? (obs.map (fB fun o=>ρ.idxOf o))[ρ.idxOf q]?) hT (mm _ as h1) (qL ρ h3) g1 g2 (by simpa using hle) (fun i o hi hk=>?_)
       have hidx:ρ.idxOf o=i:=by
        have hlt:=(List.getElem?_eq_some_iff.1 hi).1
        obtain ⟨_,rfl⟩:=List.getElem?_eq_some_iff.1 hi
        exact (qL ρ h3).idxOf_getElem i hlt
       simp only [Bool.not_eq_false',hidx] at hk
       exact EX hk
      ·exact cw.hand ρ hT (mm _ as h1) (qL ρ h3) g1 g2 (by simpa using hle)
     ·cases h
    ·cases h
   ·cases h
theorem wC {Y:YO} {X:Value→fu→St→Prop} {o:ei} {env:List (Nat×LV)} {af:List (Option aH)} {e:fu} {K:St→fu→Prop} (h:doI G self dat ro o.op env af=some e) (hK:K ⟨dY o.dst e.r env,fQ e.wr af++e.nw.map some⟩ e):yI P G Y X o ⟨env,af⟩ K:=by
 have A9:K (St.app ⟨env,af⟩ o.dst e) e:=hK
 unfold yI
 unfold doI at h
 cases hi:o.op with
 | call f args=>
   rw [hi] at h
   dsimp only at h ⊢
   split at h
   ·rename_i k fs cs hc
    have wh:callee (f.ev G (St.get ⟨env,af⟩))=some (k,fs,cs):=hc
    rw [wh]
    dsimp only
    exact .inl ⟨e,Ek nW h,A9⟩
   ·cases h
 | _=>
   rw [hi] at h
   dsimp only at h ⊢
   have h2:=h
   change cI G (St.get ⟨env,af⟩) (St.obj ⟨env,af⟩) af.length _=some e at h2
   rw [h2]
   exact A9
def xY (gB:Ns) (Y:YO):Prop:=∀ as af ys ys' b aA (K':LV→Bool→List (Option aH)→Prop),gB as af ys=some (ys',b,aA)→K' ys' b aA→Y as af ys K'
omit nW in
theorem xY.no:xY HT rN:=fun _ _ _ _ _ _ _ h=>by cases h
theorem CK {gB:Ns} {Y:YO} (hr:xY gB Y) {X:Value→fu→St→Prop} {o:ei} {env env':List (Nat×LV)} {af aA:List (Option aH)} {K:St→Prop} (h:do1 G self dat ro gB o env af=some (env',aA)) (hK:K ⟨env',aA⟩):yI P G Y X o ⟨env,af⟩ (fun s _=>K s):=by
 unfold do1 at h
 split at h
 ·rename_i e he
  cases h
  exact wC nW he hK
 ·split at h
  ·rename_i ys b o1 hy
   cases h
   unfold doY at hy
   split at hy
   ·rename_i f args hop
    split at hy
    ·cases hy
    ·rename_i jq
     split at hy
     ·rename_i oy ej
      unfold yI
      rw [hop]
      dsimp only
      have wh:callee (f.ev G (St.get ⟨env,af⟩))=none:=jq
      rw [wh]
      dsimp only
      unfold vcY
      have adm:f.ev G (St.get ⟨env,af⟩)=.yl oy:=ej
      rw [adm]
      exact hr _ _ _ _ _ _ _ hy hK
     ·cases hy
   ·cases hy
  ·cases h
theorem i_ {gB:Ns} {Y:YO} (hr:xY gB Y) {X:Value→St→Prop} : ∀ (ops:List ei) (env:List (Nat×LV)) (af:List (Option aH)) {env':List (Nat×LV)} {aA:List (Option aH)} {K:St→Prop},sY G self dat ro gB ops env af=some (env',aA)→K ⟨env',aA⟩→gG P G Y X ops ⟨env,af⟩ K
 | [],env,af,env',aA,K,h,hK=>by
   cases h
   exact hK
 | o::os,env,af,env',aA,K,h,hK=>by
   unfold sY at h
   unfold gG yH
   split at h
   ·rename_i hg
    rw [hg]
    dsimp only
    split at h
    ·rename_i e1 o1 he
     exact CK nW hr (K:=fun s=>gG P G Y X os s K) he (i_ hr os _ _ h hK)
    ·cases h
   ·rename_i g want hg
    rw [hg]
    dsimp only
    have l_:St.get ⟨env,af⟩ g=aZ env g:=rfl
    rw [l_]
    split at h
    ·rename_i b hb
     rw [hb]
     dsimp only
     split at h
     ·rename_i hbw
      rw [if_pos hbw]
      split at h
      ·rename_i e1 o1 he
       exact CK nW hr (K:=fun s=>gG P G Y X os s K) he (i_ hr os _ _ h hK)
      ·cases h
     ·rename_i hbw
      rw [if_neg hbw]
      exact i_ hr os _ _ h hK
    ·rename_i b hb
     rw [hb]
     exact i_ hr os _ _ h hK
    ·cases h
theorem iz {X:Value→St→Prop} : ∀ (ops:List ei) (env:List (Nat×LV)) (af:List (Option aH)) (log:List iP) {env':List (Nat×LV)} {aA:List (Option aH)} {K:St→Prop},mK G self dat ro ops env af log=some (env',aA)→K ⟨env',aA⟩→eV P G X ops ⟨env,af⟩ log (fun s log=>indep log=true∧K s)
 | [],env,af,log,env',aA,K,h,hK=>by
   unfold mK at h
   split at h
   ·rename_i hi
    cases h
    exact ⟨hi,hK⟩
   ·cases h
 | o::os,env,af,log,env',aA,K,h,hK=>by
   unfold mK at h
   unfold eV yH
   have hl:(St.af ⟨env,af⟩).length=af.length:=rfl
   split at h
   ·rename_i hg
    rw [hg]
    dsimp only
    split at h
    ·rename_i e he
     refine wC nW he ?_
     dsimp only at hl ⊢
     rw [hl]
     exact iz os _ _ _ h hK
    ·cases h
   ·rename_i g want hg
    rw [hg]
    dsimp only
    have l_:St.get ⟨env,af⟩ g=aZ env g:=rfl
    rw [l_]
    split at h
    ·rename_i b hb
     rw [hb]
     dsimp only
     split at h
     ·rename_i hbw
      rw [if_pos hbw]
      split at h
      ·rename_i e he
       refine wC nW he ?_
       dsimp only at hl ⊢
       rw [hl]
       exact iz os _ _ _ h hK
      ·cases h
     ·rename_i hbw
      rw [if_neg hbw]
      exact iz os _ _ _ h hK
    ·rename_i b hb
     rw [hb]
     exact iz os _ _ _ h hK
    ·cases h
end
def aa3 (K:wL) (out:Out) (s:St):Prop:=match out with
 | .n=>K.n s
 | .x i=>K.x i s
 | .r=>K.r s
theorem BO:∀ (env:List (Nat×LV)) (acc:List Nat) (t:Nat),(t∈acc∨∃ v,(t,v)∈env)→t∈slots env acc
 | [],acc,t,h=>by
   rcases h with h | ⟨v,h⟩
   ·exact h
   ·cases h
 | (k,v)::r,acc,t,h=>by
   unfold slots
   refine BO r _ t ?_
   rcases h with h | ⟨u,h⟩
   ·left
    split
    ·exact h
    ·exact List.mem_append_left _ h
   ·rcases List.mem_cons.1 h with h | h
    ·left
     cases h
     split
     ·rename_i hc; exact List.contains_iff_mem.1 hc
     ·exact List.mem_append_right _ (by simp)
    ·exact .inr ⟨u,h⟩
theorem CE:∀ (env:List (Nat×LV)) (t:Nat),(∀ v,(t,v)∉env)→aZ env t=.top
 | [],_,_=>rfl
 | (k,v)::r,t,h=>by
   unfold aZ
   by_cases hk:k=t
   ·subst hk; exact absurd (List.mem_cons_self) (h v)
   ·rw [if_neg hk]
    exact CE r t (fun u hu=>h u (List.mem_cons_of_mem _ hu))
theorem My (env:List (Nat×LV)):aZ (xk env)=aZ env:=by
 funext t
 unfold xk
 by_cases ht:t∈slots env []
 ·have:=mc (aZ env) (slots env []) t
  rw [if_pos ht] at this
  exact this
 ·have h1:aZ env t=.top:=CE env t (fun v hv=>ht (BO env [] t (.inr ⟨v,hv⟩)))
  have:=mc (aZ env) (slots env []) t
  rw [if_neg ht] at this
  rw [this,h1]
theorem JC.norm {G:Nat→Option (List DV)} (m:Nat) (env:List (Nat×LV)) (o:List (Option aH)):JC G m ⟨env,o⟩ ⟨xk env,o⟩:=by
 intro D N bu J0 ck w0 a w _ h
 have e:St.get ⟨xk env,o⟩=St.get ⟨env,o⟩:=My env
 unfold oq at h ⊢
 rw [e]
 exact h
section
variable {P:Program} {G:Nat→Option (List DV)} {self:Bool→Nat→List LV→List aH→Option (LV×List aH)} {pI:Nat→List LV→List (Option aH)→Ns→Option (LV×List (Option aH))} {dat ro:Nat→Bool}
 (nW:∀ md k as af r aA,self md k as af=some (r,aA)→bw P G k as af r aA)
 (PN:∀ k as af gB Y yv aA,xY gB Y→pI k as af gB=some (yv,aA)→GU P G k as af Y (fun y o=>y=yv∧o=aA))
include nW PN
theorem dB (L:Nat):∀ (c:C) (gB:Ns) (env:List (Nat×LV)) (af:List (Option aH)) {out:Out} {env':List (Nat×LV)} {aA:List (Option aH)} {K:wL},xY gB K.y→jI G self pI dat ro L c gB env af=some (out,env',aA)→aa3 K out ⟨env',aA⟩→vc P G c ⟨env,af⟩ K
 | .skip,gB,env,af,out,env',aA,K,hr,h,hK=>by
   cases h
   exact hK
 | .iJ ops,gB,env,af,out,env',aA,K,hr,h,hK=>by
   unfold jI at h
   split at h
   ·rename_i e1 o1 hx
    cases h
    exact i_ nW hr ops env af hx hK
   ·cases h
 | .jA ops,gB,env,af,out,env',aA,K,hr,h,hK=>by
   unfold jI at h
   split at h
   ·rename_i e1 o1 hx
    cases h
    exact iz nW ops env af [] (K:=K.n) hx hK
   ·cases h
 | .seq a b,gB,env,af,out,env',aA,K,hr,h,hK=>by
   unfold jI at h
   unfold vc
   split at h
   ·rename_i e1 o1 hx
    exact dB L a gB env af (K:={ K with n:=fun s'=>vc P G b s' K }) hr hx (dB L b gB e1 o1 hr h hK)
   ·rename_i hn
    refine dB L a gB env af (K:={ K with n:=fun s'=>vc P G b s' K }) hr h ?_
    cases out with
    | n=>exact absurd h (hn _ _)
    | x i=>exact hK
    | r=>exact hK
 | .cond c a b,gB,env,af,out,env',aA,K,hr,h,hK=>by
   unfold jI at h
   unfold vc
   have l_:St.get ⟨env,af⟩=aZ env:=rfl
   rw [l_]
   split at h
   ·rename_i t ht
    rw [ht]
    dsimp only
    split at h
    ·rename_i h1
     rw [if_pos h1]
     exact dB L a gB env af hr h hK
    ·rename_i h1
     rw [if_neg h1]
     exact dB L b gB env af hr h hK
   ·cases h
 | .block i b,gB,env,af,out,env',aA,K,hr,h,hK=>by
   unfold jI at h
   unfold vc
   split at h
   ·rename_i j e1 o1 hx
    cases h
    refine dB L b gB env af (K:={ K with x:=fun j s'=>if j=i then K.n s' else K.x j s' }) hr hx ?_
    unfold aa3 at hK ⊢
    dsimp only
    by_cases hj:j=i
    ·rw [if_pos hj]; rw [if_pos hj] at hK; exact hK
    ·rw [if_neg hj]; rw [if_neg hj] at hK; exact hK
   ·rename_i hn
    refine dB L b gB env af (K:={ K with x:=fun j s'=>if j=i then K.n s' else K.x j s' }) hr h ?_
    cases out with
    | n=>exact hK
    | x j=>exact absurd h (hn _ _ _)
    | r=>exact hK
 | .loop b,gB,env,af,out,env',aA,K,hr,h,hK=>by
   unfold jI at h
   unfold vc
   refine ⟨slots env [],fun k s=>∃ e o,s=⟨e,o⟩∧iter (jI G self pI dat ro L b gB) k e o=some (out,env',aA),L,[],⟨xk env,af,rfl,h⟩,?_⟩
   rintro k s' ⟨e,o,rfl,hi⟩
   cases k with
   | zero=>cases hi
   | succ k=>
     unfold iter at hi
     split at hi
     ·rename_i e1 o1 hx
      refine dB L b gB e o (K:={ K with n:=_ }) hr hx ?_
      exact ⟨k,Nat.lt_succ_self k,_,⟨xk e1,o1,rfl,hi⟩,JC.norm _ _ _⟩
     ·rename_i hn
      refine dB L b gB e o (K:={ K with n:=_ }) hr hi ?_
      cases out with
      | n=>exact absurd hi (hn _ _)
      | x i=>exact hK
      | r=>exact hK
 | .exit i,gB,env,af,out,env',aA,K,hr,h,hK=>by
   cases h
   exact hK
 | .ret,gB,env,af,out,env',aA,K,hr,h,hK=>by
   cases h
   exact hK
 | .scope b,gB,env,af,out,env',aA,K,hr,h,hK=>by
   unfold jI at h
   unfold vc
   exact dB L b gB env af hr h hK
 | .Zc g ps a b,gB,env,af,out,env',aA,K,hr,h,hK=>by
   unfold jI at h
   unfold vc
   split at h
   ·rename_i k fs cs jq
    have ab8:callee (g.ev G (St.get ⟨env,af⟩))=some (k,fs,cs):=jq
    rw [ab8]
    dsimp only
    have key:∀ jm:Option Nat,zf jm env (pI k (fs++[.yl af.length]++cs) (af++[none]) (Fc (jI G self pI dat ro L a HT) (jI G self pI dat ro L b HT) jm ps env af.length))=some (out,env',aA)→
      ∃ (R:LV→List (Option aH)→Prop),GU P G k (fs++[.yl af.length]++cs) (af++[none]) (qw P G jm ps a b ⟨env,af⟩) R∧
        ∀ yv zG,R yv zG→(yv=jf∧K.n ⟨env,zG⟩)∨(yv=kj∧match jm with | some i=>i≠gY∧K.x i ⟨env,zG⟩ | none=>K.r ⟨env,zG⟩):=by
     intro jm hj
     cases hs:pI k (fs++[.yl af.length]++cs) (af++[none]) (Fc (jI G self pI dat ro L a HT) (jI G self pI dat ro L b HT) jm ps env af.length) with
     | none=>rw [hs] at hj; simp [zf] at hj
     | some p=>
       obtain ⟨yv,o⟩:=p
       rw [hs] at hj
       refine ⟨_,PN _ _ _ _ (qw P G jm ps a b ⟨env,af⟩) _ _ ?_ hs,?_⟩
       ·intro as adL ys ys' bb adK K' hrd A9
        unfold Fc at hrd
        split at hrd
        ·rename_i q as'
         split at hrd
         ·rename_i hc
          obtain ⟨hq,hR,hlen⟩:=hc
          have hys:=Pn hR
          subst hq
          refine ⟨hys,rfl,hlen,?_⟩
          split at hrd
          ·rename_i e1 o1 hx
           refine dB L a HT _ _ (K:=⟨_,_,_,rN,none⟩) xY.no hx ?_
           show vc P G b _ _
           split at hrd
           ·rename_i e2 o2 hx2
            cases hrd
            exact dB L b HT _ _ (K:=⟨_,_,_,rN,none⟩) xY.no hx2 A9
           ·rename_i i e2 o2 hx2
            split at hrd
            ·rename_i hij
             cases hrd
             exact dB L b HT _ _ (K:=⟨_,_,_,rN,none⟩) xY.no hx2 ⟨hij.1,hij.2,A9⟩
            ·cases hrd
           ·rename_i e2 o2 hx2
            split at hrd
            ·rename_i hij
             cases hrd
             exact dB L b HT _ _ (K:=⟨_,_,_,rN,none⟩) xY.no hx2 ⟨hij,A9⟩
            ·cases hrd
           ·cases hrd
          ·cases hrd
         ·cases hrd
        ·cases hrd
       ·rintro yv' zG ⟨rfl,rfl⟩
        unfold zf at hj
        dsimp only at hj
        split at hj
        ·rename_i h1
         cases hj
         exact .inl ⟨Pn h1,hK⟩
        ·split at hj
         ·rename_i h1
          refine .inr ⟨Mk h1,?_⟩
          cases jm with
          | none=>dsimp only at hj ⊢; cases hj; exact hK
          | some i=>
            dsimp only at hj ⊢
            split at hj
            ·rename_i hi
             cases hj; exact ⟨hi,hK⟩
            ·cases hj
         ·cases hj
    split at h
    ·rename_i r Rt
     cases h
     obtain ⟨R,h1,h2⟩:=key none Rt
     exact ⟨none,R,h1,h2⟩
    ·obtain ⟨R,h1,h2⟩:=key (some 0) h
     exact ⟨some 0,R,h1,h2⟩
   ·cases h
end
section
variable {ρ Z:List Nat} {k:Nat}
mutual
theorem dX (h:∀ o,o<k→ρ[o]? = some o) (obj:Nat→cF):∀ (x:LV),eH k x=true→ah obj ρ Z x x
 | .top,_=>by simp [ah]
 | .dQ,_=>by simp [ah]
 | .d x,_=>by simp [ah]
 | .ptr o c,hx=>by simp only [eH,decide_eq_true_eq] at hx; simp only [ah,h o hx,and_self]
 | .rp o n e r c,hx=>by simp only [eH,decide_eq_true_eq] at hx; simp only [ah,h o hx,and_self]
 | .ip ..,_=>by simp [ah]
 | .sl o n e l m,hx=>by simp only [eH,decide_eq_true_eq] at hx; simp only [ah,h o hx,and_self]
 | .fn f x y,hx=>by
   simp only [eH,Bool.and_eq_true] at hx
   simp only [ah,true_and]
   exact ⟨mq h obj x hx.1,mq h obj y hx.2⟩
 | .agg cs,hx=>by
   simp only [eH] at hx
   simp only [ah]
   exact mq h obj cs hx
 | .dJ cs,hx=>by
   simp only [eH] at hx
   simp only [ah]
   exact mq h obj cs hx
 | .fW t v,hx=>by
   simp only [eH] at hx
   simp only [ah,true_and]
   exact dX h obj v hx
 | .yl o,hx=>by simp only [eH,decide_eq_true_eq] at hx; simp only [ah,h o hx]
 | .mr o,hx=>by simp only [eH,decide_eq_true_eq] at hx; simp only [ah,h o hx]
theorem mq (h:∀ o,o<k→ρ[o]? = some o) (obj:Nat→cF):∀ (xs:List LV),eD k xs=true→ag obj ρ Z xs xs
 | [],_=>by simp [ag]
 | x::xs,hx=>by
   simp only [eD,Bool.and_eq_true] at hx
   simp only [ag]
   exact ⟨dX h obj x hx.1,mq h obj xs hx.2⟩
end
end
mutual
theorem BF {af:List (Option aH)} {k:Nat} {Z:List Nat} (hZ:∀ o e rows,k≤o→wW af o=some (e,rows)→o∈Z):∀ (x:LV),eH k (jB k af x)=true→ah (aD af) (List.range k) Z x (jB k af x)
 | .sl o n e l m,h=>by
   unfold jB at h ⊢
   split at h
   ·rename_i hk
    rw [if_pos hk]
    split at h
    ·rename_i e0 rows hrow
     split at h
     ·rename_i hc
      rw [if_pos hc]
      obtain ⟨rfl,rfl,h4⟩:=hc
      simp only [ah,true_and]
      have hz:=hZ _ _ _ hk hrow
      unfold wW at hrow
      unfold bG aD
      split at hrow
      ·rename_i heq; rw [heq]; cases hrow; exact ⟨hz,rfl,rfl,h4,rfl⟩
      ·rename_i heq; rw [heq]; cases hrow; exact ⟨hz,rfl,rfl,h4,rfl⟩
      ·cases hrow
     ·rename_i hc
      rw [if_neg hc]
      exact dX (fun o h=>eG h) _ _ h
    ·exact dX (fun o h=>eG h) _ _ h
   ·rename_i hk
    rw [if_neg hk]
    exact dX (fun o h=>eG h) _ _ h
 | .dJ vs,h=>by
   unfold jB at h ⊢
   simp only [eH] at h
   simp only [ah]
   exact yS hZ vs h
 | .top,h=>by unfold jB at h ⊢; exact dX (fun o h=>eG h) _ _ h
 | .dQ,h=>by unfold jB at h ⊢; exact dX (fun o h=>eG h) _ _ h
 | .d x,h=>by unfold jB at h ⊢; exact dX (fun o h=>eG h) _ _ h
 | .ptr o c,h=>by unfold jB at h ⊢; exact dX (fun o h=>eG h) _ _ h
 | .rp o n e r c,h=>by unfold jB at h ⊢; exact dX (fun o h=>eG h) _ _ h
 | .ip r c,h=>by unfold jB at h ⊢; exact dX (fun o h=>eG h) _ _ h
 | .fn f a b,h=>by unfold jB at h ⊢; exact dX (fun o h=>eG h) _ _ h
 | .agg cs,h=>by unfold jB at h ⊢; exact dX (fun o h=>eG h) _ _ h
 | .fW t v,h=>by unfold jB at h ⊢; exact dX (fun o h=>eG h) _ _ h
 | .yl o,h=>by unfold jB at h ⊢; exact dX (fun o h=>eG h) _ _ h
 | .mr o,h=>by unfold jB at h ⊢; exact dX (fun o h=>eG h) _ _ h
theorem yS {af:List (Option aH)} {k:Nat} {Z:List Nat} (hZ:∀ o e rows,k≤o→wW af o=some (e,rows)→o∈Z):∀ (xs:List LV),eD k (vF k af xs)=true→ag (aD af) (List.range k) Z xs (vF k af xs)
 | [],_=>by simp [vF,ag]
 | x::xs,h=>by
   unfold vF at h ⊢
   simp only [eD,Bool.and_eq_true] at h
   simp only [ag]
   exact ⟨BF hZ x h.1,yS hZ xs h.2⟩
end
theorem MG {rv:List RV} {md:Bool} {k:Nat} {af:List (Option aH)} {env:List (Nat×LV)} {vs:List LV} {r:LV} {aA:List aH} (hvs:yE.of ⟨env,af⟩ rv=some vs) (h:aao md k (aU vs) af=some (r,aA)):vv rv k r aA ⟨env,af⟩:=by
 unfold aao at h
 split at h
 ·split at h
  ·rename_i obs hp
   split at h
   ·rename_i hc
    cases h
    obtain ⟨h1,h2⟩:=hc
    refine ⟨[],vs,List.range k,(List.range af.length).filter fun o=>decide (k≤o)&&(wW af o).isSome,hvs,?_,List.nodup_range,(fun z hz=>?_),(fun z hz=>?_),?_,fun i o hi=>?_,?_,BF (fun o e rows hk hrow=>?_) _ h1⟩
    ·rw [List.take_range,Nat.min_self]
    ·simp at hz; simp; omega
    ·simp only [List.mem_filter,Bool.and_eq_true,decide_eq_true_eq] at hz
     have Ij:=hz.2.2
     show ∃ et e rows,aD af z=_∨aD af z=_
     unfold wW at Ij
     unfold aD
     split at Ij
     ·rename_i a b c heq; rw [heq]; exact ⟨_,_,_,.inl rfl⟩
     ·rename_i a b c heq; rw [heq]; exact ⟨_,_,_,.inr rfl⟩
     ·cases Ij
    ·have:=B4 hp; simpa using this
    ·obtain ⟨ob,eX,hl⟩:=B5 hp i o hi
     refine ⟨ob,eX,?_⟩
     rw [List.all_eq_true] at h2
     have hk:i<k:=by
      have:=(List.getElem?_eq_some_iff.1 hi).1
      simpa using this
     rw [Du (fun o h=>s_ h) _ (h2 _ (List.mem_of_getElem? eX))]
     exact hl
    ·rw [List.length_range]; exact h2
    ·simp only [List.mem_filter,Bool.and_eq_true,decide_eq_true_eq,List.mem_range]
     have Kx:wW af o=some (e,rows):=hrow
     refine ⟨?_,hk,by rw [Kx]; rfl⟩
     unfold wW at Kx
     rcases Nat.lt_or_ge o af.length with h3 | h3
     ·exact h3
     ·rw [List.getElem?_eq_none h3] at Kx; cases Kx
   ·cases h
  ·cases h
 ·dsimp only at h
  generalize reach af af.length (Nl (List.range k) (nms (aU vs)))=ρ at h
  split at h
  ·rename_i obs hp
   split at h
   ·rename_i hc
    simp only [Bool.and_eq_true] at hc
    obtain ⟨⟨⟨h1,h2⟩,h3⟩,h4⟩:=hc
    cases h
    rw [List.all_eq_true] at h4
    refine ⟨[],vs,ρ,[],hvs,KD _ _ h1,qL ρ h2,(fun z hz=>by cases hz),(fun z hz=>by cases hz),by simpa using B4 hp,fun i o hi=>?_,?_,Et _ _ h3⟩
    ·obtain ⟨ob,eX,hl⟩:=B5 hp i o hi
     refine ⟨fB (fun o=>ρ.idxOf o) ob,by rw [List.getElem?_map,eX]; rfl,?_⟩
     rw [JP 0 ob (h4 ob (List.mem_of_getElem? eX))]
     exact hl
    ·rw [List.all_map,List.all_eq_true]
     exact fun ob eX=>Ks ob (h4 ob eX)
   ·cases h
  ·cases h
theorem zc {P:Program} {G:Nat→Option (List DV)} {T:Tab} (hh:∀ f md args af r aA,T.hand f md args af=some (r,aA)→bw P G f args af r aA)
  (hir:∀ f ir,T.ir f=some ir→∃ fn,P.funcs[f]? = some fn∧(fn.name != "runtime.NumGoroutine")=true∧aj P fn=some ir) (L:Nat) :
  ∀ (d:Nat),(∀ (md:Bool) (f:Nat) (args:List LV) (af:List aH) (r:LV) (aA:List aH),r_ G T L d md f args af=some (r,aA)→bw P G f args af r aA)∧
    (∀ k as af gB Y yv aA,xY gB Y→Oe G T L d k as af gB=some (yv,aA)→GU P G k as af Y (fun y o=>y=yv∧o=aA))
 | 0=>⟨(fun md f args af r aA h=>by unfold r_ at h; cases h),(fun k as af gB Y yv aA _ h=>by unfold Oe at h; cases h)⟩
 | d+1=>by
   obtain ⟨ihF,ihI⟩:=zc hh hir L d
   refine ⟨fun md f args af r aA h=>?_,fun k as af gB Y yv aA hr h=>?_⟩
   ·unfold r_ at h
    split at h
    ·rename_i p hp
     cases h
     exact hh _ _ _ _ _ _ hp
    ·split at h
     ·rename_i N c rv hi
      obtain ⟨fn,hf,hn,g_⟩:=hir _ _ hi
      split at h
      ·rename_i hl
       split at h
       ·cases h
       ·rename_i out env o1 hx hrun
        split at h
        ·rename_i vs hvs
         refine yQ hf (by simpa using hn) g_ hl (dB ihF ihI L c HT _ _ (K:=⟨_,_,_,rN,none⟩) xY.no hrun ?_)
         have hb:=MG hvs h
         cases hx2:out with
         | n=>exact hb
         | x i=>exact (hx i hx2).elim
         | r=>exact hb
        ·cases h
       ·cases h
      ·cases h
     ·cases h
   ·unfold Oe at h
    split at h
    ·rename_i N c rv hi
     obtain ⟨fn,hf,hn,g_⟩:=hir _ _ hi
     split at h
     ·rename_i hl
      obtain ⟨⟨hl,Iu⟩,Mn⟩:=hl
      split at h
      ·cases h
      ·rename_i out env o1 hx hrun
       cases h
       refine Kc hf (by simpa using hn) g_ hl Iu (dB ihF ihI L c gB _ _ (K:=⟨_,_,_,Y,none⟩) hr hrun ?_)
       cases hx2:out with
       | n=>exact ⟨⟨rfl,rfl⟩,Mn⟩
       | x i=>exact (hx i hx2).elim
       | r=>exact ⟨⟨rfl,rfl⟩,Mn⟩
      ·cases h
     ·cases h
    ·cases h
theorem Hu {P:Program} {G:Nat→Option (List DV)} {T:Tab} (hh:∀ f md args af r aA,T.hand f md args af=some (r,aA)→bw P G f args af r aA)
  (hir:∀ f ir,T.ir f=some ir→∃ fn,P.funcs[f]? = some fn∧(fn.name != "runtime.NumGoroutine")=true∧aj P fn=some ir) (L d:Nat) (md:Bool) (f:Nat) (args:List LV) (af:List aH) (r:LV) (aA:List aH) (h:r_ G T L d md f args af=some (r,aA)):bw P G f args af r aA:=
 (zc hh hir L d).1 md f args af r aA h
def nV (P:Program) (f:Nat):Option (Nat×C×List RV):=match P.funcs[f]? with
 | some fn=>if (fn.name != "runtime.NumGoroutine")=true then aj P fn else none
 | none=>none
theorem Po {P:Program} (f:Nat) (ir:Nat×C×List RV) (h:nV P f=some ir):∃ fn,P.funcs[f]? = some fn∧(fn.name != "runtime.NumGoroutine")=true∧aj P fn=some ir:=by
 unfold nV at h
 split at h
 ·rename_i fn hf
  split at h
  ·rename_i hn
   exact ⟨fn,hf,hn,h⟩
  ·cases h
 ·cases h
end Dv
