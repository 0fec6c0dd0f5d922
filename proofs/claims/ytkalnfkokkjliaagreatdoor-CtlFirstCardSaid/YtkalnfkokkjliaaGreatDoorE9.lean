/- The tables, opened out of the condition on memory. -/
import Derived.Test.YtkalnfkokkjliaaGreatDoorA1
import Derived.Test.YtkalnfkokkjliaaGreatDoorEA
import Derived.LaidMore
import Derived.Lib.LaidTab
import Derived.Lib.LaidU8
import Derived.HandedShaped
import Derived.Lay
import Derived.OpenShut
import Derived.LaidHandle
import Derived.MakeChecks
import Derived.Test.YtkalnfkokkjliaaGreatDoorRows
set_option linter.unusedVariables false
set_option linter.unusedSimpArgs false
namespace Dv
open Go Go.Proofs
open Go.ChangeShapes Go.WideShapes Go.RowKit Go.Deep Go.WideElems
@[reducible] def qL:List (String×DataW Unit):=[("math/bits.deBruijn32tab",Go.Proofs.YtkalnfkokkjliaaGreatDoor.Rows.laid_math_bits_deBruijn32tab),("math/bits.deBruijn64tab",Go.Proofs.YtkalnfkokkjliaaGreatDoor.Rows.laid_math_bits_deBruijn64tab),("dunnage/ops.names",Go.Proofs.YtkalnfkokkjliaaGreatDoor.Rows.laid_dunnage_ops_names),("dunnage/ops.many",Go.Proofs.YtkalnfkokkjliaaGreatDoor.Rows.laid_dunnage_ops_many)]
theorem IA {W:World} (h:laidMetH Tryz.prog qL W):laidMet Tryz.prog qL W:=by
 rw [MakeChecks.laidMetH_plain _ _ _ (by kernel_rfl)] at h
 exact h
theorem vg {W:World} (h:laidMet Tryz.prog qL W) {name:String} {d:DataW Unit} {g t e n:Nat} {k:IntKind} {zs:List Int} (hm:(name,d)∈qL) (hd:d=Lib.tabData k zs) (hg:Tryz.prog.globalNamed name=some g) (ht:(Tryz.prog.globals[g]?).map (·.type)=some t)
  (hu:Tryz.prog.underlying t=some (.array n e)) (he:Tryz.prog.underlying e=some (.int k)) (h1:Tryz.prog.cellsOf e=1) (h2:Tryz.prog.cellsOf t=n) (i:Nat):W.cell? ⟨g,i,none⟩=(zs.map (Value.int k))[i]?:=by
 obtain ⟨g0,t0,cs0,f0,p0,hg0,Yl,hv0,UI⟩:=Lib.laidMet.reads h hm
 obtain rfl:=Option.some.inj (hg.symm.trans hg0)
 obtain rfl:=Option.some.inj (ht.symm.trans Yl)
 rw [hd] at UI
 rw [World.var?_cell hg0 hv0 i]
 have:=Lib.cells_of_tab hu he h1 h2 UI
 rw [← this]; simp
theorem By {W:World} (h:laidMet Tryz.prog qL W) (i:Nat):W.cell? ⟨1,i,none⟩=jC[i]?:=by
 obtain ⟨g0,t0,cs0,f0,p0,hg0,Yl,hv0,UI⟩:=Lib.laidMet.reads h (n:= "dunnage/ops.names") (d:=Go.Proofs.YtkalnfkokkjliaaGreatDoor.Rows.laid_dunnage_ops_names) (by simp)
 obtain rfl:=Option.some.inj ((show Tryz.prog.globalNamed "dunnage/ops.names" = some 1 by kernel_rfl).symm.trans hg0)
 obtain rfl:=Option.some.inj ((show (Tryz.prog.globals[1]?).map (·.type)=some 284 by kernel_rfl).symm.trans Yl)
 rw [World.var?_cell hg0 hv0 i,← Bz UI]; simp
theorem yT {W:World} {g:Nat} {vals:List Value} (h:∀ i:Nat,W.cell? ⟨g,i,none⟩=vals[i]?) (hf:∀ v∈vals,v.oneCell'=true) (h0:0<vals.length):J0 W g∧cU (J0 W) W (vals.map DV.val) g 0∧∃ t,W.shape? g=some (t,(vals.map DV.val).length):=by
 have hc:=h 0
 rw [List.getElem?_eq_getElem h0] at hc
 refine ⟨J0.zJ hc,zC vals 0 hf (fun i v hv=>by rw [Nat.zero_add,h i,hv]),?_⟩
 rw [List.length_map]
 exact zu h h0
theorem s9 {W:World} {g:Nat} {k:IntKind} {zs:List Int} (h:∀ i:Nat,W.cell? ⟨g,i,none⟩=(zs.map (Value.int k))[i]?) (h0:0<zs.length):J0 W g∧cU (J0 W) W (zs.map fun n=>DV.val (.int k n)) g 0∧∃ t,W.shape? g=some (t,(zs.map fun n=>DV.val (.int k n)).length):=by
 have:=yT h (fun v hv=>by
  simp only [List.mem_map] at hv
  obtain ⟨n,_,rfl⟩:=hv
  rfl) (by simpa using h0)
 rw [List.map_map] at this
 exact this
theorem aJ.qL {W:World} (hm:laidMetH Tryz.prog qL W):aJ dI (J0 W) W cw (aB []):=by
 have h:=IA hm
 have S:=aJ.zero W
 refine ⟨S.rep,S.inj,S.qq,S.jcell,fun g row hg=>?_⟩
 unfold dI at hg
 split at hg
 ·rename_i e; subst e; cases hg; exact s9 (vg h (name:= "math/bits.deBruijn32tab") (d:=Go.Proofs.YtkalnfkokkjliaaGreatDoor.Rows.laid_math_bits_deBruijn32tab) (k:=.u8) (zs:=Sn) (by simp) (by rfl) (by kernel_rfl) (by kernel_rfl) Tryz.underlying348 Tryz.underlying5 (by kernel_rfl) (by kernel_rfl)) (by decide)
 split at hg
 ·rename_i e; subst e; cases hg; exact s9 (vg h (name:= "math/bits.deBruijn64tab") (d:=Go.Proofs.YtkalnfkokkjliaaGreatDoor.Rows.laid_math_bits_deBruijn64tab) (k:=.u8) (zs:=Sm) (by simp) (by rfl) (by kernel_rfl) (by kernel_rfl) Tryz.underlying349 Tryz.underlying5 (by kernel_rfl) (by kernel_rfl)) (by decide)
 unfold dQ at hg
 split at hg
 ·rename_i e; subst e; cases hg; exact s9 (vg h (name:= "dunnage/ops.many") (d:=Go.Proofs.YtkalnfkokkjliaaGreatDoor.Rows.laid_dunnage_ops_many) (k:=.i64) (zs:=PN) (by simp) (by rfl) (by kernel_rfl) (by kernel_rfl) Tryz.underlying238 Tryz.underlying3 (by kernel_rfl) (by kernel_rfl)) (by decide)
 split at hg
 ·rename_i e; subst e; cases hg
  have:=yT (By h) (fun v hv=>by
   simp only [jC,List.mem_map] at hv
   obtain ⟨n,_,rfl⟩:=hv
   rfl) (by decide)
  rw [show vT=jC.map DV.val from by unfold vT jC; rw [List.map_map]; rfl]
  exact this
 cases hg
set_option maxRecDepth 100000 in
theorem F5 (os:Os) (args:Array Value):laidMetH Tryz.prog qL ((World.laidAll Tryz.prog os qL).forCall (fun _ _=>0) ⟨#[],args,[]⟩).memory:=by
 rw [MakeChecks.laidMetH_plain _ _ _ (by kernel_rfl)]
 exact laidMet_laidAll _ (by kernel_rfl) (by kernel_rfl)
end Dv
