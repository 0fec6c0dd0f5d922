/- part -/
import Derived.Test.YtkalnfkokkjliaaGreatDoorAC
import Derived.Test.YtkalnfkokkjliaaGreatDoorEA
import Derived.Test.YtkalnfkokkjliaaGreatDoorEA
import Derived.LaidMore
import Derived.Lib.LaidTab
import Derived.Lib.LaidU8
import Derived.HandedShaped
import Derived.Lay
import Derived.OpenShut
import Derived.LaidHandle
import Derived.MakeChecks
import Derived.Test.YtkalnfkokkjliaaGreatDoorRows
set_option linter.all false
set_option maxRecDepth 100000
namespace Dv
open Go Go.Proofs
open Go.ChangeShapes Go.WideShapes Go.RowKit Go.Deep Go.WideElems
@[reducible] def tI:List (String×DataW Unit):=[("math/bits.deBruijn32tab",Go.Proofs.YtkalnfkokkjliaaGreatDoor.Rows.laid_math_bits_deBruijn32tab),("math/bits.deBruijn64tab",Go.Proofs.YtkalnfkokkjliaaGreatDoor.Rows.laid_math_bits_deBruijn64tab),("internal/strconv.uint64pow10",Go.Proofs.YtkalnfkokkjliaaGreatDoor.Rows.laid_internal_strconv_uint64pow10),("dunnage/ops.names",Go.Proofs.YtkalnfkokkjliaaGreatDoor.Rows.laid_dunnage_ops_names),("dunnage/ops.many",Go.Proofs.YtkalnfkokkjliaaGreatDoor.Rows.laid_dunnage_ops_many)]
theorem Na {W:World} (h:laidMetH Tryz.prog tI W):laidMet Tryz.prog tI W:=by
 rw [MakeChecks.laidMetH_plain _ _ _ (by kernel_rfl)] at h
 exact h
theorem tJ {W:World} (h:laidMet Tryz.prog tI W) {name:String} {d:DataW Unit} {g t e n:Nat} {k:IntKind} {zs:List Int} (hm:(name,d)∈tI) (hd:d=Lib.tabData k zs) (hg:Tryz.prog.globalNamed name=some g) (ht:(Tryz.prog.globals[g]?).map (·.type)=some t)
  (hu:Tryz.prog.underlying t=some (.array n e)) (he:Tryz.prog.underlying e=some (.int k)) (h1:Tryz.prog.cellsOf e=1) (h2:Tryz.prog.cellsOf t=n) (i:Nat):W.cell? ⟨g,i,none⟩=(zs.map (Value.int k))[i]?:=by
 obtain ⟨g0,t0,cs0,f0,p0,hg0,ht0,hv0,MY⟩:=Lib.laidMet.reads h hm
 obtain rfl:=Option.some.inj (hg.symm.trans hg0)
 obtain rfl:=Option.some.inj (ht.symm.trans ht0)
 rw [hd] at MY
 rw [World.var?_cell hg0 hv0 i]
 have:=Lib.cells_of_tab hu he h1 h2 MY
 rw [← this]; simp
theorem EV {W:World} (h:laidMet Tryz.prog tI W) (i:Nat):W.cell? ⟨1,i,none⟩=kR[i]?:=by
 obtain ⟨g0,t0,cs0,f0,p0,hg0,ht0,hv0,MY⟩:=Lib.laidMet.reads h (n:= "dunnage/ops.names") (d:=Go.Proofs.YtkalnfkokkjliaaGreatDoor.Rows.laid_dunnage_ops_names) (by simp)
 obtain rfl:=Option.some.inj ((show Tryz.prog.globalNamed "dunnage/ops.names" = some 1 by kernel_rfl).symm.trans hg0)
 obtain rfl:=Option.some.inj ((show (Tryz.prog.globals[1]?).map (·.type)=some 284 by kernel_rfl).symm.trans ht0)
 rw [World.var?_cell hg0 hv0 i,← EW MY]; simp
theorem B8 {W:World} {g:Nat} {vals:List Value} (h:∀ i:Nat,W.cell? ⟨g,i,none⟩=vals[i]?) (hf:∀ v∈vals,v.oneCell'=true) (h0:0<vals.length):J0 W g∧dL (J0 W) W (vals.map DV.val) g 0∧∃ t,W.shape? g=some (t,(vals.map DV.val).length):=by
 have hc:=h 0
 rw [List.getElem?_eq_getElem h0] at hc
 refine ⟨J0.Jj hc,CQ vals 0 hf (fun i v hv=>by rw [Nat.zero_add,h i,hv]),?_⟩
 rw [List.length_map]
 exact CJ h h0
theorem rj {W:World} {g:Nat} {k:IntKind} {zs:List Int} (h:∀ i:Nat,W.cell? ⟨g,i,none⟩=(zs.map (Value.int k))[i]?) (h0:0<zs.length):J0 W g∧dL (J0 W) W (zs.map fun n=>DV.val (.int k n)) g 0∧∃ t,W.shape? g=some (t,(zs.map fun n=>DV.val (.int k n)).length):=by
 have:=B8 h (fun v hv=>by
  simp only [List.mem_map] at hv
  obtain ⟨n,_,rfl⟩:=hv
  rfl) (by simpa using h0)
 rw [List.map_map] at this
 exact this
theorem aF.tI {W:World} (hm:laidMetH Tryz.prog tI W):aF tK (J0 W) W bV (au []):=by
 have h:=Na hm
 have S:=aF.zero W
 refine ⟨S.rep,S.inj,S.oH,S.jcell,fun g row hg=>?_⟩
 unfold tK at hg
 split at hg
 ·rename_i e; subst e; cases hg; exact rj (tJ h (name:= "internal/strconv.uint64pow10") (d:=Go.Proofs.YtkalnfkokkjliaaGreatDoor.Rows.laid_internal_strconv_uint64pow10) (k:=.u64) (zs:=aaA) (by simp) (by rfl) (by kernel_rfl) (by kernel_rfl) Tryz.underlying336 Tryz.underlying315 (by kernel_rfl) (by kernel_rfl)) (by decide)
 unfold g_ at hg
 split at hg
 ·rename_i e; subst e; cases hg; exact rj (tJ h (name:= "math/bits.deBruijn32tab") (d:=Go.Proofs.YtkalnfkokkjliaaGreatDoor.Rows.laid_math_bits_deBruijn32tab) (k:=.u8) (zs:=Yf) (by simp) (by rfl) (by kernel_rfl) (by kernel_rfl) Tryz.underlying348 Tryz.underlying5 (by kernel_rfl) (by kernel_rfl)) (by decide)
 split at hg
 ·rename_i e; subst e; cases hg; exact rj (tJ h (name:= "math/bits.deBruijn64tab") (d:=Go.Proofs.YtkalnfkokkjliaaGreatDoor.Rows.laid_math_bits_deBruijn64tab) (k:=.u8) (zs:=Ye) (by simp) (by rfl) (by kernel_rfl) (by kernel_rfl) Tryz.underlying349 Tryz.underlying5 (by kernel_rfl) (by kernel_rfl)) (by decide)
 unfold cR at hg
 split at hg
 ·rename_i e; subst e; cases hg; exact rj (tJ h (name:= "dunnage/ops.many") (d:=Go.Proofs.YtkalnfkokkjliaaGreatDoor.Rows.laid_dunnage_ops_many) (k:=.i64) (zs:=Vv) (by simp) (by rfl) (by kernel_rfl) (by kernel_rfl) Tryz.underlying238 Tryz.underlying3 (by kernel_rfl) (by kernel_rfl)) (by decide)
 split at hg
 ·rename_i e; subst e; cases hg
  have:=B8 (EV h) (fun v hv=>by
   simp only [kR,List.mem_map] at hv
   obtain ⟨n,_,rfl⟩:=hv
   rfl) (by decide)
  rw [show zy=kR.map DV.val from by unfold zy kR; rw [List.map_map]; rfl]
  exact this
 cases hg
theorem KD (os:Os) (args:Array Value):laidMetH Tryz.prog tI ((World.laidAll Tryz.prog os tI).forCall (fun _ _=>0) ⟨#[],args,[]⟩).memory:=by
 rw [MakeChecks.laidMetH_plain _ _ _ (by kernel_rfl)]
 exact laidMet_laidAll _ (by kernel_rfl) (by kernel_rfl)
end Dv
