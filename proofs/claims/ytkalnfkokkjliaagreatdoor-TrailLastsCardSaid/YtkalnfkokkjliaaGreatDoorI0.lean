/- part -/
import Derived.Test.YtkalnfkokkjliaaGreatDoorDB
import Derived.Test.YtkalnfkokkjliaaGreatDoorPB
import Derived.Test.YtkalnfkokkjliaaGreatDoorVD
set_option linter.all false
set_option maxHeartbeats 1000000
set_option maxRecDepth 100000
namespace Dv
open Go Go.Proofs
variable {G:Nat→Option (List DV)}
def Xb:=qx Tryz.f172
theorem Tw:aj Tryz.prog Tryz.f172=some Xb:=by kernel_rfl
def u8 (n:Int):DV:=.val (.int .u8 n)
def az (l:List Int):List (List DV):=l.map fun n=>[u8 n]
def ak (l:List Int):LV:=.d (.dK 1 (az l))
def gW (l:List Int):List (List DV):=l.map fun n=>[i64 n]
def yX:Option (Int×Nat)→Int
 | none=>0
 | some (x,_)=>x
def yY:Option (Int×Nat)→Nat
 | none=>0
 | some (_,p)=>p
def fP (q:Option (Int×Nat)):LV:=.dH [.int (yX q),.int (yY q),.bool q.isSome]
theorem YD (n d:Int) (i:Nat) (hi:i<8) (h0:0≤n) (hn:n<128 ^ i) (MY:0≤d) (hd:d<128):BK .i64 n (CH .i64 d (IntKind.i64.wrap (7*(i:Int))))=n+d*128 ^ i:=by
 have hw:IntKind.i64.wrap (7*(i:Int))=((7*i:Nat):Int):=by rw [aL (by omega) (by omega)]; omega
 have abX:(128:Int) ^ i=((2 ^ (7*i):Nat):Int):=by
  rw [Nat.pow_mul]; push_cast; rfl
 have hp:2 ^ (7*i)≤2 ^ 49:=Nat.pow_le_pow_right (by decide) (by omega)
 rw [hw,abX]
 rw [abX] at hn
 obtain ⟨n,rfl⟩:=Int.eq_ofNat_of_zero_le h0
 obtain ⟨d,rfl⟩:=Int.eq_ofNat_of_zero_le MY
 generalize hq:2 ^ (7*i)=q at *
 have hn':n<q:=by omega
 have hd':d<128:=by omega
 have hmul:d*q≤127*2 ^ 49:=Nat.mul_le_mul (by omega) hp
 have hs:CH .i64 (d:Int) ((7*i:Nat):Int)=((d*q:Nat):Int):=by
  unfold CH
  rw [Int.toNat_natCast,show Nat.min (7*i) IntKind.i64.bits=7*i from Nat.min_eq_left (by show 7*i≤64; omega)]
  have:(2:Int) ^ (7*i)=(q:Int):=by rw [← hq]; push_cast; rfl
  rw [this,← Int.natCast_mul,tC _ (by omega)]
 rw [hs]
 have e:BK .i64 (n:Int) ((d*q:Nat):Int)=IntKind.i64.wrap ((BitVec.ofInt 64 (n:Int)||| BitVec.ofInt 64 ((d*q:Nat):Int)).toNat:Int):=rfl
 rw [e,BitVec.toNat_or,BitVec.ofInt_natCast,BitVec.ofInt_natCast,BitVec.toNat_ofNat,BitVec.toNat_ofNat,Nat.mod_eq_of_lt (by omega),Nat.mod_eq_of_lt (by omega)]
 have h3:n||| d*q=d*q+n:=by
  have:=Nat.two_pow_add_eq_or_of_lt (i:=7*i) (b:=n) (by rw [hq]; exact hn') d
  rw [hq,Nat.mul_comm q d] at this
  rw [this,Nat.or_comm]
 rw [h3,tC _ (by omega)]
 push_cast
 omega
def gnS (a0:Nat) (l:List Int) (p:Nat×Int):St:=⟨[(1,.int a0),(7,.int p.2),(25,.d (.dK 1 (az l))),(26,.int l.length),(27,.int p.1)],[]⟩
attribute [local go_sem] u8 ak
theorem jJ (b:List Int) (hb:∀ c∈b,0≤c∧c≤255) (hl:b.length≤1000000) (a0:Nat) (ha:a0≤1000000) (q:Option (Int×Nat)) (hq:fZ b a0=q):bh Tryz.prog G 172 [ak b,.int a0] [] (fP q) []:=by
 have hlb:(az b).length=b.length:=by simp [az]
 have h1:decide ((a0:Int)<0)=false:=decide_eq_false (by omega)
 refine bn Tryz.func172 (by decide) Tw rfl (by cases q <;> rfl) ?_
 simp only [Xb,go_sem]
 simp only [h1,hlb,go_sem]
 by_cases hlen:b.length≤a0
 case pos=>
  have h2:decide ((a0:Int)≥(b.length:Int))=true:=decide_eq_true (by omega)
  have:q=none:=by rw [← hq]; unfold fZ; rw [List.drop_eq_nil_of_le hlen]; rfl
  subst this
  simp only [h2,fP,yX,yY,Option.isSome_none,Option.isSome_some,Int.natCast_zero,go_sem]
 have h2:decide ((a0:Int)≥(b.length:Int))=false:=decide_eq_false (by omega)
 have h3:IntKind.i64.wrap ((a0:Int)+8)=((a0+8:Nat):Int):=by rw [aL (by omega) (by omega)]; rfl
 have h4:(if ((a0+8:Nat):Int)<(b.length:Int) then ((a0+8:Nat):Int) else (b.length:Int))=((a0+((b.drop a0).take 8).length:Nat):Int):=by
  split <;> simp <;> omega
 have HK:(jZ ((b.drop a0).take 8) 0 0).map (fun p=>(p.1,a0+p.2))=q:=by rw [← hq]; unfold fZ; rw [← yM (b.drop a0) 0 0]
 have hr:((az b).drop a0).take (a0+((b.drop a0).take 8).length-a0)=az ((b.drop a0).take 8):=by
  simp only [az,Nat.add_sub_cancel_left,← List.map_drop,List.map_take,List.length_take]
  rw [List.take_eq_take_iff]; simp
 have AQ:∀ c∈(b.drop a0).take 8,0≤c∧c≤255:=fun c hc=>hb c (List.mem_of_mem_drop (List.mem_of_mem_take hc))
 have X9:((b.drop a0).take 8).length≤8:=by simp; omega
 have h5:a0≤a0+((b.drop a0).take 8).length∧a0+((b.drop a0).take 8).length≤b.length∧b.length≤b.length:=by simp; omega
 have h6:(az ((b.drop a0).take 8)).length=((b.drop a0).take 8).length:=by simp [az]
 simp only [h2,h3,hlb,h4,go_sem]
 generalize (b.drop a0).take 8=l at *
 simp only [hlb,h5,hr,h6,go_sem]
 refine aR [1,7,25,26,27] [] (fun p:Nat×Int=>p.1≤l.length∧0≤p.2∧p.2<128 ^ p.1∧(jZ (l.drop p.1) p.1 p.2).map (fun r=>(r.1,a0+r.2))=q) (fun p=>l.length-p.1) (gnS a0 l) (0,0) ?_ ⟨Nat.zero_le _,Int.le_refl _,by decide,by rw [List.drop_zero]; exact HK⟩ ?_
 ·simp only [gnS,go_sem]
 clear HK h5 hr h4 h3 h2 h1 hq
 rintro ⟨i,n⟩ ⟨hi,hn0,hn,hF⟩
 dsimp only at hi hn0 hn hF
 simp only [gnS,go_sem]
 cases hlt:decide ((i:Int)<(l.length:Int)) with
 | false=>
   have hi':i=l.length:=by have:=of_decide_eq_false hlt; omega
   rw [hi',List.drop_length] at hF
   have:q=none:=hF.symm
   subst this
   simp only [fP,yX,yY,Option.isSome_none,Option.isSome_some,Int.natCast_zero,go_sem]
 | true=>
 have hi':i<l.length:=by have:=of_decide_eq_true hlt; omega
 have hg:=aK (f:=fun n:Int=>[u8 n]) 0 hi'
 simp only [u8] at hg
 have hc:=AQ (l.getD i 0) (by simp [List.getD,hi'])
 have hd:l.drop i=l.getD i 0::l.drop (i+1):=by rw [List.drop_eq_getElem_cons hi']; simp [List.getD,hi']
 rw [hd] at hF
 generalize l.getD i 0=c at *
 have Pf:=YD n (c % 128) i (by omega) hn0 hn (Int.emod_nonneg _ (by decide)) (Int.emod_lt_of_pos _ (by decide))
 have Zq:c.tmod 128=c % 128:=Int.tmod_eq_emod_of_nonneg hc.1
 have hw:IntKind.i64.wrap (c % 128)=c % 128:=aL (by omega) (by omega)
 have hw7:0≤IntKind.i64.wrap (7*(i:Int)):=by rw [aL (by omega) (by omega)]; omega
 have hp8:(0:Int)<128 ^ i:=Int.pow_pos (by decide)
 have hn2:n+c % 128*128 ^ i<128 ^ (i+1):=by
  have:c % 128*128 ^ i≤127*128 ^ i:=Int.mul_le_mul_of_nonneg_right (by omega) (Int.le_of_lt hp8)
  rw [Int.pow_succ]; omega
 have hn3:0≤n+c % 128*128 ^ i:=Int.add_nonneg hn0 (Int.mul_nonneg (by omega) (Int.le_of_lt hp8))
 simp only [az,hg,Zq,hw,hw7,Pf,ne_eq,not_false_eq_true,show ((128:Int)=0)=False from by decide,go_sem]
 unfold jZ at hF
 rw [if_neg (by omega)] at hF
 by_cases h128:128≤c
 case pos=>
  rw [if_pos h128] at hF
  simp only [decide_eq_true (show c≥128 from h128),go_sem]
  refine bg (i+1,n+c % 128*128 ^ i) ?_ ?_ ⟨by dsimp only; omega,hn3,hn2,hF⟩ (by dsimp only; omega)
  ·simp only [go_sem]
  ·simp only [gnS,aG (show i<9223372036854775807 by omega),az,go_sem]
 rw [if_neg h128] at hF
 simp only [decide_eq_false (show ¬ c≥128 from h128),go_sem]
 by_cases hz:c=0∧0<i
 case pos=>
  rw [if_pos (.inl hz)] at hF
  have:q=none:=hF.symm
  subst this
  simp only [show (c==0)=true by rw [hz.1]; rfl,decide_eq_true (show ((i:Nat):Int)>0 by omega),fP,yX,yY,Option.isSome_none,Option.isSome_some,Int.natCast_zero,go_sem]
 have hgo:(c==0)=true→decide (((i:Nat):Int)>0)=false:=fun h=>decide_eq_false (fun h2=>hz ⟨by simpa using h,by omega⟩)
 by_cases hm:eF<n+c % 128*128 ^ i
 case pos=>
  rw [if_pos (.inr hm)] at hF
  have:q=none:=hF.symm
  subst this
  cases h0:(c==0) with
  | true=>simp only [hgo h0,decide_eq_true (show n+c % 128*128 ^ i>9007199254740991 from hm),fP,yX,yY,Option.isSome_none,Option.isSome_some,Int.natCast_zero,go_sem]
  | false=>simp only [decide_eq_true (show n+c % 128*128 ^ i>9007199254740991 from hm),fP,yX,yY,Option.isSome_none,Option.isSome_some,Int.natCast_zero,go_sem]
 rw [if_neg (fun h=>h.elim hz hm)] at hF
 have:q=some (n+c % 128*128 ^ i,a0+(i+1)):=hF.symm
 subst this
 have w1:IntKind.i64.wrap ((a0:Int)+(i:Int))=((a0+i:Nat):Int):=by rw [aL (by omega) (by omega)]; rfl
 cases h0:(c==0) with
 | true=>simp only [hgo h0,decide_eq_false (show ¬ n+c % 128*128 ^ i>9007199254740991 from hm),w1,aG (show a0+i<9223372036854775807 by omega),fP,yX,yY,Option.isSome_none,Option.isSome_some,Nat.add_assoc,go_sem]
 | false=>simp only [decide_eq_false (show ¬ n+c % 128*128 ^ i>9007199254740991 from hm),w1,aG (show a0+i<9223372036854775807 by omega),fP,yX,yY,Option.isSome_none,Option.isSome_some,Nat.add_assoc,go_sem]
end Dv
