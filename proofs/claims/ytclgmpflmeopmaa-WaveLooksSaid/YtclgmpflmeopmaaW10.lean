import Derived.Test.YtclgmpflmeopmaaW9
import Derived.WalkMore
import Derived.Deep.LoopGhost
set_option linter.unusedVariables false
set_option linter.unusedSimpArgs false
namespace Go.Proofs.Ytclgmpflmeopmaa
open Go.RowKit Dun

theorem clear_any (c : ConfD) (s : StateD) (a1 a2 : Option Addr) (c1 c2 : Nat) (now : Int) (k : Nat) (hk : k < s.nodes.length) (w : World) (r : Option OpD) (hr : clearO c s now (s.nodes.getD k zeroNode) k = r) (hO : Okay c s) (hS : StateAt w s a1 a2) (hnow : 0 ≤ now ∧ now ≤ 1000000) :
    Calls Try.prog 41 #[viewV c s a1 a2 c1 c2 now, .int .i64 (k : Int)] w (Ret w (optV r)) := by
  unfold clearO at hr
  by_cases h1 : (s.nodes.getD k zeroNode).cordon = false
  · rw [if_pos (Or.inl h1)] at hr
    subst hr
    exact clear_c c s a1 a2 c1 c2 now k hk w hO hS hnow h1
  have h1' : (s.nodes.getD k zeroNode).cordon = true := by simpa using h1
  by_cases h2 : behindB s (s.nodes.getD k zeroNode) = false
  · rw [if_pos (Or.inr (Or.inl h2))] at hr
    subst hr
    exact clear_b c s a1 a2 c1 c2 now k hk w hO hS hnow h1' h2
  have h2' : behindB s (s.nodes.getD k zeroNode) = true := by simpa using h2
  by_cases h3 : aloneN s (s.nodes.getD k zeroNode) = true
  · rw [if_pos (Or.inr (Or.inr h3))] at hr
    subst hr
    exact clear_a c s a1 a2 c1 c2 now k hk w hO hS hnow h1' h2' h3
  have h3' : aloneN s (s.nodes.getD k zeroNode) = false := by simpa using h3
  rw [if_neg (fun h => h.elim h1 (fun h => h.elim h2 h3))] at hr
  by_cases h4 : (s.nodes.getD k zeroNode).job = 0
  · rw [if_pos h4] at hr
    subst hr
    exact clear_0 c s a1 a2 c1 c2 now k hk w hO hS hnow h1' h2' h3' h4
  rw [if_neg h4] at hr
  have hb := hO.node hk
  obtain ⟨q, hq⟩ : ∃ q : Nat, (s.nodes.getD k zeroNode).job = (q : Int) + 1 := ⟨((s.nodes.getD k zeroNode).job - 1).toNat, by omega⟩
  have hql : q < s.jobs.length := by omega
  have hq1 : ((q : Int) + 1 - 1).toNat = q := by omega
  dsimp only at hr
  rw [hq, hq1] at hr
  by_cases h5 : (s.jobs.getD q zeroJob).phase = 1
  · rw [if_pos h5] at hr
    subst hr
    exact clear_1 c s a1 a2 c1 c2 now k hk w hO hS hnow q hql h1' h2' h3' hq h5
  rw [if_neg h5] at hr
  by_cases h6 : (s.jobs.getD q zeroJob).phase = 2
  · by_cases h7 : (s.jobs.getD q zeroJob).min < many ((s.jobs.getD q zeroJob).nodes % 64)
    · rw [if_pos ⟨h6, h7⟩] at hr
      subst hr
      exact clear_m c s a1 a2 c1 c2 now k hk w hO hS hnow q hql h1' h2' h3' hq h6 h7
    · rw [if_neg (fun h => h7 h.2)] at hr
      by_cases h8 : drainsL s.jobs (s.jobs.getD q zeroJob).queue < c.quota
      · rw [if_pos ⟨h6, h8⟩] at hr
        subst hr
        exact clear_d _ c s a1 a2 c1 c2 now k hk w hO hS hnow q hql h1' h2' h3' hq h6 h7 rfl h8
      · rw [if_neg (fun h => h8 h.2)] at hr
        subst hr
        exact clear_q c s a1 a2 c1 c2 now k hk w hO hS hnow q hql h1' h2' h3' hq h6 h7 h8
  · rw [if_neg (fun h => h6 h.1), if_neg (fun h => h6 h.1)] at hr
    subst hr
    exact clear_n c s a1 a2 c1 c2 now k hk w hO hS hnow q hql h1' h2' h3' hq h5 h6

end Go.Proofs.Ytclgmpflmeopmaa
