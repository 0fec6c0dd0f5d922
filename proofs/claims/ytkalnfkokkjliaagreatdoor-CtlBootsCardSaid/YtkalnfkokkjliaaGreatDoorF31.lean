/- CtlBoots: for every input it returns true, and its arguments read behind the call as they did ahead of it. Conditions: the listed tables hold what the program's text lays there (tied by the card). -/
import Derived.Test.YtkalnfkokkjliaaGreatDoorK13
import Derived.Test.YtkalnfkokkjliaaGreatDoorE9
import Derived.Test.YtkalnfkokkjliaaGreatDoorE11
import Derived.OpenShut
import Derived.Stop.Joined
import Derived.SevenTiedAt
import Derived.Test.YtkalnfkokkjliaaGreatDoorRows
import Derived.Test.YtkalnfkokkjliaaGreatDoorTie
import Derived.Test.YtkalnfkokkjliaaGreatDoorCards
set_option linter.unusedVariables false
set_option linter.unusedSimpArgs false
namespace Go.Proofs.YtkalnfkokkjliaaGreatDoor
open Go.ChangeShapes Go.WideShapes Go.ChangeAt Go.RowKit Dv
theorem own:ownKnob Tryz.prog.godebug=none:=by kernel_rfl
theorem laidOut:laidOutB Tryz.prog=true:=by kernel_rfl
theorem F5 {P:Program} {ts:List TypeId} (h:(ts.all fun t=>P.readableRec t&&decide (t<P.types.size))=true):∀ t∈ts,P.readableRec t=true∧t<P.types.size:=fun t ht=>by
 have:=List.all_eq_true.1 h t ht
 simpa using this
set_option maxRecDepth 100000 in
theorem wI (os:Os) (started:os.Started) (H:Type) (enc:TypeId×Value→H) :
  ReturnsInHanded {} Tryz.checked os 5 .any (fun w args=>(Rows.ctlBootsSpec.pre enc Tryz.prog Tryz.f5 [] false w args∧laidMetH Tryz.prog tg w)∧sizedMet enc Tryz.prog Tryz.f5 (OpenSpec.ofChange Rows.ctlBootsSpec) false w args) (Rows.ctlBootsSpec.post enc Tryz.prog Tryz.f5 false true false false):=by
 refine returnsInHanded_of_change_and (C:=Tryz.checked) (X:=fun w _=>laidMetH Tryz.prog tg w) (fun _ _ _ hh h=>h.of_heap hh) own started (by kernel_rfl) Tryz.func5
  (ChangeSpec.witness_shaped (enc:=enc) (C:=Tryz.checked) (os:=os) (X:=fun w _=>laidMetH Tryz.prog tg w) false (World.laidAll Tryz.prog os tg) #[.agg #[.int .i64 0,.int .i64 0,.int .i64 0,.int .i64 0,.int .i64 0,.int .i64 0,.int .i64 0,.int .i64 0,.int .i64 0],.int .i64 0,.slice none 0 0] 8 (World.laidAll_os _ _ _) (World.shaped_of_ZipB (by kernel_rfl) (by kernel_rfl)) (by kernel_rfl) (by kernel_rfl) (by kernel_rfl) (Je os _)) ?_
 intro W base args ds gs before VG hW _ _ hL _
 have hval:∀ (j:Nat) t v,Tryz.f5.params[j]? = some t→args[j]? = some v→Value.okWide Tryz.prog W .any base t v:=VG
 have hW':=hW
 obtain ⟨p,q,hA0,hV,rfl,hfz,hnd⟩:=hW
 have hA:DataW.TrodAll enc Tryz.prog W 0 (fun _=>true) true Tryz.f5.params.toList args.toList ds p:=hA0
 have hAk:=hA
 rw [Tryz.params5] at hA hval
 obtain ⟨v0,v1,v2,d0,d1,d2,p0,p1,p2,rfl,rfl,rfl,h0,h1,h2⟩:=trodAll_three hA
 obtain ⟨rfl,rfl⟩:=trodVars_none hV
 obtain ⟨x0,r0⟩:=KY (hval 0 _ v0 rfl rfl) h0
 obtain ⟨x1,rfl,rfl,rfl,w1⟩:=open_int Tryz.underlying3 (hval 1 _ v1 rfl rfl) h1
 obtain ⟨x2,r2,b2⟩:=Hr (hval 2 _ v2 rfl rfl) h2
 clear hA0 VG
 simp only [List.append_nil] at hW'
 refine ((CQ x0 x1 x2 b2).2 (J0 W) cI W #[v0,.int .i64 x1,v2] (aN.tg hL) ⟨r0,rfl,r2,trivial⟩).mono fun e W' hr=>?_
 obtain ⟨v,he,NS⟩:=hr
 have hb:=NS.below
 have hv:v=.bool true:=by
  obtain ⟨J,ι,S,R,E⟩:=NS
  exact R
 subst hv
 refine ⟨_,he,_,_,_,[],_,[],hW',trodAll_mk1 (shut_bool Tryz.underlying4 _),BC laidOut hb (F5 (by kernel_rfl)) hAk (fun x hx=>by simpa using hW'.lt x (by simpa using hx)),rfl,hb.frame _,fun h=>by cases h⟩
theorem k1:(Rows.ctlBootsRow.inPlace==Tryz.prog.inPlace 5)=true:=by kernel_rfl
theorem k2:(Rows.ctlBootsRow.unfollowed==Tryz.prog.unfollowed 5)=true:=by kernel_rfl
theorem k3:(Rows.ctlBootsRow.recurses==Tryz.prog.recurses 5)=true:=by kernel_rfl
theorem k4:(Rows.ctlBootsRow.named==Tryz.prog.varsNamed 5)=true:=by kernel_rfl
theorem k5:joinedFacts Tryz.prog 5 Tryz.f5 Rows.ctlBootsSpec Rows.ctlBootsRow=true:=by
 unfold joinedFacts
 rw [k1,k2,k3,k4]
 kernel_rfl
theorem k6:Rows.ctlBootsRow.wfByText (.ofChange Rows.ctlBootsSpec)=true:=by kernel_rfl
theorem k7:true=Tryz.prog.looks []:=by kernel_rfl
theorem k8:false=Rows.ctlBootsRow.goesBy Tryz.prog:=by kernel_rfl
theorem ctlBoots_said:Rows.CtlBootsSaid:=
 OpenClaim.holds_of_wide 5 Tryz.f5 rfl rfl rfl rfl rfl rfl rfl ⟨rfl,rfl,rfl,rfl,rfl⟩ rfl rfl rfl rfl rfl (by kernel_rfl) Tryz.func5 k5
  (of_decide_eq_true (by kernel_rfl)) (by unfold Func.isWrapper; first | (rw [if_pos (by decide +kernel)]; kernel_rfl) | (rw [if_neg (by decide +kernel)]; exact ⟨rfl,rfl⟩))
  (fun os started H enc _=>wI os started H enc)
/-- the card: the row, its tables tied to the program's text. -/
theorem ctlBoots_card:Rows.CtlBootsCardSaid:=
 Claim7.holds_tied_plain_at .later [] [.data,.data,.data,.data] true _ true
  ctlBoots_said (fun _ h=>by cases h) k6 (fun _ h=>by cases h) ctlBoots_row_tie rfl ⟨rfl,rfl⟩ (by kernel_rfl) rfl
  (fun f fn hf hfn=>by
   obtain rfl:f=5:=Option.some.inj ((show Tryz.prog.funcNamed "dunnage/dunnagelaw21.CtlBoots" = some 5 by kernel_rfl).symm.trans hf) |>.symm
   obtain rfl:fn=Tryz.f5:=(Option.some.inj (Tryz.func5.symm.trans hfn)).symm
   exact ⟨k7,fun j t ht=>by
    rw [Tryz.params5] at ht
    have hm:t∈[23,3,51]:=by simpa using Array.mem_of_getElem? ht
    have hall:([23,3,51].all fun u=>!Tryz.prog.wantsStandIn u)=true:=by kernel_rfl
    exact (show Tryz.prog.wantsStandIn t=false by simpa using List.all_eq_true.1 hall t hm)⟩)
  k8
#print axioms ctlBoots_card
end Go.Proofs.YtkalnfkokkjliaaGreatDoor
