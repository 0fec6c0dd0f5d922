/- The tables, opened out of the condition on memory. -/
import Derived.Test.YtkalnfkokkjliaaGreatDoorA1
import Derived.Test.YtkalnfkokkjliaaGreatDoorEA
import Derived.Test.YtkalnfkokkjliaaGreatDoorEA
import Derived.LaidMore
import Derived.Lib.LaidTab
import Derived.Lib.LaidU8
import Derived.HandedShaped
import Derived.Lay
import Derived.OpenShut
import Derived.LaidHandle
import Derived.MakeChecks
import Derived.Test.YtkalnfkokkjliaaGreatDoorRows
set_option linter.unusedVariables false
set_option linter.unusedSimpArgs false
namespace Dv
open Go Go.Proofs
open Go.ChangeShapes Go.WideShapes Go.RowKit Go.Deep Go.WideElems
@[reducible] def tg:List (String×DataW Unit):=[("math/bits.deBruijn32tab",Go.Proofs.YtkalnfkokkjliaaGreatDoor.Rows.laid_math_bits_deBruijn32tab),("math/bits.deBruijn64tab",Go.Proofs.YtkalnfkokkjliaaGreatDoor.Rows.laid_math_bits_deBruijn64tab),("dunnage/ops.names",Go.Proofs.YtkalnfkokkjliaaGreatDoor.Rows.laid_dunnage_ops_names),("dunnage/ops.many",Go.Proofs.YtkalnfkokkjliaaGreatDoor.Rows.laid_dunnage_ops_many)]
theorem LW {W:World} (h:laidMetH Tryz.prog tg W):laidMet Tryz.prog tg W:=by
 rw [MakeChecks.laidMetH_plain _ _ _ (by kernel_rfl)] at h
 exact h
theorem xN {W:World} (h:laidMet Tryz.prog tg W) {name:String} {d:DataW Unit} {g t e n:Nat} {k:IntKind} {zs:List Int} (hm:(name,d)∈tg) (hd:d=Lib.tabData k zs) (hg:Tryz.prog.globalNamed name=some g) (ht:(Tryz.prog.globals[g]?).map (·.type)=some t)
  (hu:Tryz.prog.underlying t=some (.array n e)) (he:Tryz.prog.underlying e=some (.int k)) (h1:Tryz.prog.cellsOf e=1) (h2:Tryz.prog.cellsOf t=n) (i:Nat):W.cell? ⟨g,i,none⟩=(zs.map (Value.int k))[i]?:=by
 obtain ⟨g0,t0,cs0,f0,p0,Kq,ht0,hv0,Kr⟩:=Lib.laidMet.reads h hm
 obtain rfl:=Option.some.inj (hg.symm.trans Kq)
 obtain rfl:=Option.some.inj (ht.symm.trans ht0)
 rw [hd] at Kr
 rw [World.var?_cell Kq hv0 i]
 have:=Lib.cells_of_tab hu he h1 h2 Kr
 rw [← this]; simp
theorem Ec {W:World} (h:laidMet Tryz.prog tg W) (i:Nat):W.cell? ⟨1,i,none⟩=lu[i]?:=by
 obtain ⟨g0,t0,cs0,f0,p0,Kq,ht0,hv0,Kr⟩:=Lib.laidMet.reads h (n:= "dunnage/ops.names") (d:=Go.Proofs.YtkalnfkokkjliaaGreatDoor.Rows.laid_dunnage_ops_names) (by simp)
 obtain rfl:=Option.some.inj ((show Tryz.prog.globalNamed "dunnage/ops.names" = some 1 by kernel_rfl).symm.trans Kq)
 obtain rfl:=Option.some.inj ((show (Tryz.prog.globals[1]?).map (·.type)=some 284 by kernel_rfl).symm.trans ht0)
 rw [World.var?_cell Kq hv0 i,← Ed Kr]; simp
theorem Bi {W:World} {g:Nat} {vals:List Value} (h:∀ i:Nat,W.cell? ⟨g,i,none⟩=vals[i]?) (hf:∀ v∈vals,v.oneCell'=true) (h0:0<vals.length):J0 W g∧dU (J0 W) W (vals.map DV.val) g 0∧∃ t,W.shape? g=some (t,(vals.map DV.val).length):=by
 have hc:=h 0
 rw [List.getElem?_eq_getElem h0] at hc
 refine ⟨J0.Cf hc,B4 vals 0 hf (fun i v hv=>by rw [Nat.zero_add,h i,hv]),?_⟩
 rw [List.length_map]
 exact BT h h0
theorem vp {W:World} {g:Nat} {k:IntKind} {zs:List Int} (h:∀ i:Nat,W.cell? ⟨g,i,none⟩=(zs.map (Value.int k))[i]?) (h0:0<zs.length):J0 W g∧dU (J0 W) W (zs.map fun n=>DV.val (.int k n)) g 0∧∃ t,W.shape? g=some (t,(zs.map fun n=>DV.val (.int k n)).length):=by
 have:=Bi h (fun v hv=>by
  simp only [List.mem_map] at hv
  obtain ⟨n,_,rfl⟩:=hv
  rfl) (by simpa using h0)
 rw [List.map_map] at this
 exact this
theorem aN.tg {W:World} (hm:laidMetH Tryz.prog tg W):aN fL (J0 W) W cI (ay []):=by
 have h:=LW hm
 have S:=aN.zero W
 refine ⟨S.rep,S.inj,S.uu,S.nB,fun g row hg=>?_⟩
 unfold fL at hg
 split at hg
 ·rename_i e; subst e; cases hg; exact vp (xN h (name:= "math/bits.deBruijn32tab") (d:=Go.Proofs.YtkalnfkokkjliaaGreatDoor.Rows.laid_math_bits_deBruijn32tab) (k:=.u8) (zs:=Wg) (by simp) (by rfl) (by kernel_rfl) (by kernel_rfl) Tryz.underlying348 Tryz.underlying5 (by kernel_rfl) (by kernel_rfl)) (by decide)
 split at hg
 ·rename_i e; subst e; cases hg; exact vp (xN h (name:= "math/bits.deBruijn64tab") (d:=Go.Proofs.YtkalnfkokkjliaaGreatDoor.Rows.laid_math_bits_deBruijn64tab) (k:=.u8) (zs:=Wf) (by simp) (by rfl) (by kernel_rfl) (by kernel_rfl) Tryz.underlying349 Tryz.underlying5 (by kernel_rfl) (by kernel_rfl)) (by decide)
 unfold eD at hg
 split at hg
 ·rename_i e; subst e; cases hg; exact vp (xN h (name:= "dunnage/ops.many") (d:=Go.Proofs.YtkalnfkokkjliaaGreatDoor.Rows.laid_dunnage_ops_many) (k:=.i64) (zs:=TH) (by simp) (by rfl) (by kernel_rfl) (by kernel_rfl) Tryz.underlying238 Tryz.underlying3 (by kernel_rfl) (by kernel_rfl)) (by decide)
 split at hg
 ·rename_i e; subst e; cases hg
  have:=Bi (Ec h) (fun v hv=>by
   simp only [lu,List.mem_map] at hv
   obtain ⟨n,_,rfl⟩:=hv
   rfl) (by decide)
  rw [show yK=lu.map DV.val from by unfold yK lu; rw [List.map_map]; rfl]
  exact this
 cases hg
set_option maxRecDepth 100000 in
theorem Je (os:Os) (args:Array Value):laidMetH Tryz.prog tg ((World.laidAll Tryz.prog os tg).forCall (fun _ _=>0) ⟨#[],args,[]⟩).memory:=by
 rw [MakeChecks.laidMetH_plain _ _ _ (by kernel_rfl)]
 exact laidMet_laidAll _ (by kernel_rfl) (by kernel_rfl)
end Dv
