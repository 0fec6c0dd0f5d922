/- part -/
import Derived.Test.YtkalnfkokkjliaaGreatDoorJA
import Derived.Test.YtkalnfkokkjliaaGreatDoorE8
import Derived.OpenShut
import Derived.Stop.Joined
import Derived.SevenTiedAt
import Derived.Test.YtkalnfkokkjliaaGreatDoorRows
import Derived.Test.YtkalnfkokkjliaaGreatDoorTie
import Derived.Test.YtkalnfkokkjliaaGreatDoorCards
set_option linter.all false
set_option maxRecDepth 100000
namespace Go.Proofs.YtkalnfkokkjliaaGreatDoor
open Go.ChangeShapes Go.WideShapes Go.ChangeAt Go.RowKit Dv
theorem own:ownKnob Tryz.prog.godebug=none:=by kernel_rfl
theorem laidOut:laidOutB Tryz.prog=true:=by kernel_rfl
theorem GV {P:Program} {ts:List TypeId} (h:(ts.all fun t=>P.readableRec t&&decide (t<P.types.size))=true):∀ t∈ts,P.readableRec t=true∧t<P.types.size:=fun t ht=>by
 have:=List.all_eq_true.1 h t ht
 simpa using this
theorem tG (os:Os) (started:os.Started) (H:Type) (enc:TypeId×Value→H) :
  ReturnsInHanded {} Tryz.checked os 12 .any (fun w args=>(Rows.trailLastsSpec.pre enc Tryz.prog Tryz.f12 [] false w args∧laidMetH Tryz.prog tI w)∧sizedMet enc Tryz.prog Tryz.f12 (OpenSpec.ofChange Rows.trailLastsSpec) false w args) (Rows.trailLastsSpec.post enc Tryz.prog Tryz.f12 false true false false):=by
 refine returnsInHanded_of_change_and (C:=Tryz.checked) (X:=fun w _=>laidMetH Tryz.prog tI w) (fun _ _ _ hh h=>h.of_heap hh) own started (by kernel_rfl) Tryz.func12
  (ChangeSpec.witness_shaped (enc:=enc) (C:=Tryz.checked) (os:=os) (X:=fun w _=>laidMetH Tryz.prog tI w) false (World.laidAll Tryz.prog os tI) #[.agg #[.int .i64 0,.int .i64 0,.int .i64 0,.int .i64 0,.int .i64 0,.int .i64 0,.int .i64 0,.int .i64 0,.int .i64 0],.slice none 0 0] 8 (World.laidAll_os _ _ _) (World.shaped_of_ZipB (by kernel_rfl) (by kernel_rfl)) (by kernel_rfl) (by kernel_rfl) (by kernel_rfl) (KD os _)) ?_
 intro W base args ds gs before XY hW _ _ hL _
 have hval:∀ (j:Nat) t v,Tryz.f12.params[j]? = some t→args[j]? = some v→Value.okWide Tryz.prog W .any base t v:=XY
 have hW':=hW
 obtain ⟨p,q,hA0,hV,rfl,hfz,hnd⟩:=hW
 have hA:DataW.TrodAll enc Tryz.prog W 0 (fun _=>true) true Tryz.f12.params.toList args.toList ds p:=hA0
 have hAk:=hA
 rw [Tryz.params12] at hA hval
 obtain ⟨v0,v1,d0,d1,p0,p1,rfl,rfl,rfl,h0,h1⟩:=trodAll_two hA
 obtain ⟨rfl,rfl⟩:=trodVars_none hV
 obtain ⟨x0,r0⟩:=Mt (hval 0 _ v0 rfl rfl) h0
 obtain ⟨x1,r1⟩:=NR (hval 1 _ v1 rfl rfl) h1
 clear hA0 XY
 simp only [List.append_nil] at hW'
 refine ((yy x0 x1).2 (J0 W) bV W #[v0,v1] (aF.tI hL) ⟨r0,r1,trivial⟩).mono fun e W' hr=>?_
 obtain ⟨v,he,PF⟩:=hr
 have hb:=PF.below
 have hv:v=.bool true:=by
  obtain ⟨J,ι,S,R,E⟩:=PF
  exact R
 subst hv
 refine ⟨_,he,_,_,_,[],_,[],hW',trodAll_mk1 (shut_bool Tryz.underlying4 _),Cq laidOut hb (GV (by kernel_rfl)) hAk (fun x hx=>by simpa using hW'.lt x (by simpa using hx)),rfl,hb.frame _,fun h=>by cases h⟩
theorem k1:(Rows.trailLastsRow.inPlace==Tryz.prog.inPlace 12)=true:=by kernel_rfl
theorem k2:(Rows.trailLastsRow.unfollowed==Tryz.prog.unfollowed 12)=true:=by kernel_rfl
theorem k3:(Rows.trailLastsRow.recurses==Tryz.prog.recurses 12)=true:=by kernel_rfl
theorem k4:(Rows.trailLastsRow.named==Tryz.prog.varsNamed 12)=true:=by kernel_rfl
theorem k5:joinedFacts Tryz.prog 12 Tryz.f12 Rows.trailLastsSpec Rows.trailLastsRow=true:=by
 unfold joinedFacts
 rw [k1,k2,k3,k4]
 kernel_rfl
theorem k6:Rows.trailLastsRow.wfByText (.ofChange Rows.trailLastsSpec)=true:=by kernel_rfl
theorem k7:true=Tryz.prog.looks []:=by kernel_rfl
theorem k8:false=Rows.trailLastsRow.goesBy Tryz.prog:=by kernel_rfl
theorem trailLasts_said:Rows.TrailLastsSaid:=
 OpenClaim.holds_of_wide 12 Tryz.f12 rfl rfl rfl rfl rfl rfl rfl ⟨rfl,rfl,rfl,rfl,rfl⟩ rfl rfl rfl rfl rfl (by kernel_rfl) Tryz.func12 k5
  (of_decide_eq_true (by kernel_rfl)) (by unfold Func.isWrapper; first | (rw [if_pos (by decide +kernel)]; kernel_rfl) | (rw [if_neg (by decide +kernel)]; exact ⟨rfl,rfl⟩))
  (fun os started H enc _=>tG os started H enc)
theorem trailLasts_card:Rows.TrailLastsCardSaid:=
 Claim7.holds_tied_plain_at .later [] [.data,.data,.data,.data,.data] true _ true
  trailLasts_said (fun _ h=>by cases h) k6 (fun _ h=>by cases h) trailLasts_row_tie rfl ⟨rfl,rfl⟩ (by kernel_rfl) rfl
  (fun f fn hf hfn=>by
   obtain rfl:f=12:=Option.some.inj ((show Tryz.prog.funcNamed "dunnage/dunnagelaw26.TrailLasts" = some 12 by kernel_rfl).symm.trans hf) |>.symm
   obtain rfl:fn=Tryz.f12:=(Option.some.inj (Tryz.func12.symm.trans hfn)).symm
   exact ⟨k7,fun j t ht=>by
    rw [Tryz.params12] at ht
    have hm:t∈[23,24]:=by simpa using Array.mem_of_getElem? ht
    have hall:([23,24].all fun u=>!Tryz.prog.wantsStandIn u)=true:=by kernel_rfl
    exact (show Tryz.prog.wantsStandIn t=false by simpa using List.all_eq_true.1 hall t hm)⟩)
  k8
#print axioms trailLasts_card
end Go.Proofs.YtkalnfkokkjliaaGreatDoor
