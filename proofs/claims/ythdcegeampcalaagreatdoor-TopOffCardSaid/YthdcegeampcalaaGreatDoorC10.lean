/-
  What a controller that is off is behind a bit. Condition: what the theorems state ahead.
-/
import Derived.Test.YthdcegeampcalaaGreatDoorC9
open Go Go.Proofs Go.Sy Go.Stuff
namespace Go.Proofs.YthdcegeampcalaaGreatDoor
set_option maxRecDepth 100000 in
set_option maxHeartbeats 4000000 in
theorem sa_off0 (rest n : Int) (h0 : 0 ≤ n) (h1 : n ≤ 10) (h2 : 1 ≤ rest) (h3 : rest ≤ 128) : Eff Tryz.prog 30 [.agg (outS true rest 8 n false true f0), U 48] [] 0 (fun r _ _ => r = .tup [.agg (outS true rest 8 0 false true f0), .agg ev0, .i 0]) := by
  have c1 := cr_off rest n h0 h1 h2 h3
  have c2 := steps_eff
  refine eff_of Tryz.func30 rfl rfl rfl fun cx e hP => ?_
  refine AWP.runL e tab_ok L30 300 rfl (by trivial ) ?_
  repeat (
    first
      | (refine AWP.askT rfl ?_; ( (refine Told.f rfl ?_) ); refine AWP.runL e tab_ok L30 300 rfl (by trivial ) ?_)
      | (refine AWP.callQ e rfl rfl ?_; (first | refine CallQ.mk (c1) rfl rfl ?_); refine AWP.runL e tab_ok L30 300 rfl (by trivial ) ?_)

    )
  refine AWP.drgP 300 rfl rfl (by kernel_rfl) ?_
  (refine DrG.runN e tab_ok 200 rfl (by trivial ) ?_)
  (refine DrG.runS e tab_ok 200 rfl (by trivial ) ?_)
  repeat (
    first
      | (refine DrG.callQ e rfl rfl ?_; (first | refine CallVQ.mk (c2) rfl rfl ?_); (refine DrG.runS e tab_ok 200 rfl (by trivial ) ?_))
      | (refine DrG.v rfl (fun _ => VStep.idx_agg e tab_ok rfl rfl rfl rfl rfl 8 rfl (by decide) rfl) rfl ?_; (refine DrG.runS e tab_ok 200 rfl (by trivial ) ?_))
    )
  refine DrG.finK e rfl ?_ rfl rfl rfl ?_ ?_
  (focus kernel_rfl)
  (focus (repeat' (first | exact True.intro | (refine And.intro ?_ ?_) | rfl )))
  dsimp only [tmS, hpS, tput, effH]
  refine AWP.enter e rfl Tryz.func78 rfl rfl rfl rfl fun cx' e' hP' => ?_
  refine AWP.runL e' tab_ok L78 300 rfl (by  (simp [in64] <;> omega)) ?_
  repeat (
    (refine AWP.askT rfl ?_; ((refine Told.t rfl ?_) ); refine AWP.runL e' tab_ok L78 300 rfl (by trivial ) ?_)

    )
  ((refine AWP.ret e' tab_ok rfl ?_)); rw [hP']; show AWP cx _ _
  refine AWP.runL e tab_ok L30 300 rfl (by trivial ) ?_
  refine AWP.keep L30 rfl ?_
  refine AWP.drg 900 ?_
  (refine DrG.runS e tab_ok 200 rfl (by trivial ) ?_)
  repeat (
    (refine DrG.askT rfl ?_; ((refine Told.t rfl ?_) ); (refine DrG.runS e tab_ok 200 rfl (by trivial ) ?_))

    )
  refine DrG.finK e rfl ?_ rfl rfl rfl ?_ ?_
  (focus kernel_rfl)
  (focus (repeat' (first | exact True.intro | (refine And.intro ?_ ?_) | rfl )))
  dsimp only [tmS, hpS, tput, effH]
  refine AWP.runL e tab_ok L30 300 rfl (by trivial ) ?_
  refine AWP.ret e tab_ok rfl ?_
  rw [hP]
  all_goals rfl
set_option maxRecDepth 100000 in
set_option maxHeartbeats 4000000 in
theorem sa_off1 (rest : Int) (n : Nat) (h1 : n < 10) (h2 : 1 ≤ rest) (h3 : rest ≤ 128) : Eff Tryz.prog 30 [.agg (outS true rest 8 n false true f0), U 49] [] 0 (fun r _ _ => r = .tup [.agg (outS true rest 8 (n + 1 : Nat) false true f0), .agg ev0, .i 0]) := by
  have c1 := cr_off rest n (by omega) (by omega) h2 h3
  have c2 := steps_eff
  refine eff_of Tryz.func30 rfl rfl rfl fun cx e hP => ?_
  refine AWP.runL e tab_ok L30 300 rfl (by trivial ) ?_
  repeat (
    first
      | (refine AWP.askT rfl ?_; (first | (refine Told.t rfl ?_) | (refine Told.f rfl ?_) ); refine AWP.runL e tab_ok L30 300 rfl (by trivial ) ?_)
      | (refine AWP.callQ e rfl rfl ?_; (first | refine CallQ.mk (c1) rfl rfl ?_); refine AWP.runL e tab_ok L30 300 rfl (by trivial ) ?_)

    )
  refine AWP.drgP 300 rfl rfl (by kernel_rfl) ?_
  (refine DrG.runN e tab_ok 200 rfl (by trivial ) ?_)
  (refine DrG.runS e tab_ok 200 rfl (by trivial ) ?_)
  repeat (
    first
      | (refine DrG.callQ e rfl rfl ?_; (first | refine CallVQ.mk (c2) rfl rfl ?_); (refine DrG.runS e tab_ok 200 rfl (by trivial ) ?_))
      | (refine DrG.v rfl (fun _ => VStep.idx_agg e tab_ok rfl rfl rfl rfl rfl 8 rfl (by decide) rfl) rfl ?_; (refine DrG.runS e tab_ok 200 rfl (by trivial ) ?_))
    )
  refine DrG.finK e rfl ?_ rfl rfl rfl ?_ ?_
  (focus kernel_rfl)
  (focus (repeat' (first | exact True.intro | (refine And.intro ?_ ?_) | rfl )))
  dsimp only [tmS, hpS, tput, effH]
  refine AWP.enter e rfl Tryz.func78 rfl rfl rfl rfl fun cx' e' hP' => ?_
  refine AWP.runL e' tab_ok L78 300 rfl (by  (simp [in64] <;> omega)) ?_
  repeat (
    (refine AWP.askT rfl ?_; (first | (refine Told.f rfl ?_) | (refine Told.t ?_ ?_; (focus ((simp; omega)); done))); refine AWP.runL e' tab_ok L78 300 rfl (by trivial ) ?_)

    )
  ((refine AWP.ret e' tab_ok rfl ?_)); rw [hP']; show AWP cx _ _
  refine AWP.runL e tab_ok L30 300 rfl (by trivial ) ?_
  refine AWP.keep L30 rfl ?_
  refine AWP.drg 900 ?_
  (refine DrG.runS e tab_ok 200 rfl (by trivial ) ?_)
  repeat (
    (refine DrG.askT rfl ?_; ((refine Told.t rfl ?_) ); (refine DrG.runS e tab_ok 200 rfl (by trivial ) ?_))

    )
  refine DrG.finK e rfl ?_ rfl rfl rfl ?_ ?_
  (focus kernel_rfl)
  (focus (repeat' (first | exact True.intro | (refine And.intro ?_ ?_) | rfl )))
  dsimp only [tmS, hpS, tput, effH]
  refine AWP.runL e tab_ok L30 300 rfl (by trivial ) ?_
  refine AWP.ret e tab_ok rfl ?_
  rw [hP]
  all_goals rfl
set_option maxRecDepth 100000 in
set_option maxHeartbeats 4000000 in
theorem sa_off11 (rest : Int) (h2 : 2 ≤ rest) (h3 : rest ≤ 128) : Eff Tryz.prog 30 [.agg (outS true rest 8 10 false true f0), U 49] [] 0 (fun r _ _ => r = .tup [.agg (outS true (rest - 1) 8 0 false true f0), .agg ev0, .i 0]) := by
  have c1 := cr_off rest 10 (by omega) (by omega) (by omega) h3
  have c2 := steps_eff
  have c3 := rest_eff rest h2 h3
  have c4 := state_off (rest - 1) (by omega) (by omega)
  refine eff_of Tryz.func30 rfl rfl rfl fun cx e hP => ?_
  refine AWP.runL e tab_ok L30 300 rfl (by trivial ) ?_
  repeat (
    first
      | (refine AWP.askT rfl ?_; (first | (refine Told.t rfl ?_) | (refine Told.f rfl ?_) ); refine AWP.runL e tab_ok L30 300 rfl (by trivial ) ?_)
      | (refine AWP.callQ e rfl rfl ?_; (first | refine CallQ.mk (c1) rfl rfl ?_); refine AWP.runL e tab_ok L30 300 rfl (by trivial ) ?_)

    )
  refine AWP.drgP 300 rfl rfl (by kernel_rfl) ?_
  (refine DrG.runN e tab_ok 200 rfl (by trivial ) ?_)
  (refine DrG.runS e tab_ok 200 rfl (by trivial ) ?_)
  repeat (
    first
      | (refine DrG.callQ e rfl rfl ?_; (first | refine CallVQ.mk (c2) rfl rfl ?_); (refine DrG.runS e tab_ok 200 rfl (by trivial ) ?_))
      | (refine DrG.v rfl (fun _ => VStep.idx_agg e tab_ok rfl rfl rfl rfl rfl 8 rfl (by decide) rfl) rfl ?_; (refine DrG.runS e tab_ok 200 rfl (by trivial ) ?_))
    )
  refine DrG.finK e rfl ?_ rfl rfl rfl ?_ ?_
  (focus kernel_rfl)
  (focus (repeat' (first | exact True.intro | (refine And.intro ?_ ?_) | rfl )))
  dsimp only [tmS, hpS, tput, effH]
  refine AWP.enter e rfl Tryz.func78 rfl rfl rfl rfl fun cx' e' hP' => ?_
  refine AWP.runL e' tab_ok L78 300 rfl (by trivial ) ?_
  repeat (
    (refine AWP.askT rfl ?_; ( (refine Told.f rfl ?_) ); refine AWP.runL e' tab_ok L78 300 rfl (by trivial ) ?_)

    )
  refine AWP.enter e' rfl Tryz.func87 rfl rfl rfl rfl fun cx'' e'' hP'' => ?_
  refine AWP.runL e'' tab_ok L87 300 rfl (by trivial ) ?_
  repeat (

      (refine AWP.callQ e'' rfl rfl ?_; (first | refine CallQ.mk (c3) rfl rfl ?_ | refine CallQ.mk (c4) rfl rfl ?_); refine AWP.runL e'' tab_ok L87 300 rfl (by trivial ) ?_)

    )
  ((refine AWP.ret e'' tab_ok rfl ?_)); rw [hP'']; show AWP cx' _ _
  refine AWP.runL e' tab_ok L78 300 rfl (by trivial ) ?_
  repeat (
    (refine AWP.askT rfl ?_; ( (refine Told.f rfl ?_) ); refine AWP.runL e' tab_ok L78 300 rfl (by trivial ) ?_)

    )
  ( (refine AWP.fin e' tab_ok rfl ?_)); rw [hP']; show AWP cx _ _
  refine AWP.runL e tab_ok L30 300 rfl (by trivial ) ?_
  refine AWP.keep L30 rfl ?_
  refine AWP.drg 900 ?_
  (refine DrG.runS e tab_ok 200 rfl (by trivial ) ?_)
  repeat (
    (refine DrG.askT rfl ?_; ((refine Told.t rfl ?_) ); (refine DrG.runS e tab_ok 200 rfl (by trivial ) ?_))

    )
  refine DrG.finK e rfl ?_ rfl rfl rfl ?_ ?_
  (focus kernel_rfl)
  (focus (repeat' (first | exact True.intro | (refine And.intro ?_ ?_) | rfl )))
  dsimp only [tmS, hpS, tput, effH]
  refine AWP.runL e tab_ok L30 300 rfl (by trivial ) ?_
  refine AWP.ret e tab_ok rfl ?_
  rw [hP]
  all_goals rfl
theorem one_row (c : UInt8) : ∀ (j : Nat) (b : UInt8), [c][j]? = some b → [u8S c][0 + j]? = some (u8S b) := by
  intro j b hj
  match j, hj with
  | 0, hj => cases hj; rfl
end Go.Proofs.YthdcegeampcalaaGreatDoor
