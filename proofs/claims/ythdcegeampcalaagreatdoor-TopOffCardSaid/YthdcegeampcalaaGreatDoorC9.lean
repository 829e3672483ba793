/-
  What a controller at rest is behind a bit, in each of its states. Condition: what the theorems state ahead.
-/
import Derived.Test.YthdcegeampcalaaGreatDoorC8
open Go Go.Proofs
namespace Go.Proofs.YthdcegeampcalaaGreatDoor
open Go.Sy Go.Stuff
abbrev evS (kind : Int) (fr : Frm) (bad : Int) : List SV := [.i kind, U32 fr.id, .b fr.ext, .b fr.rem, .i fr.dlc, .s (strL fr.data), .i bad]
/-- Nothing happens. -/
abbrev ev0 : List SV := evS 0 f0 0
set_option maxRecDepth 100000 in
theorem steps_eff : Eff Tryz.prog 54 [] [] 0 (fun r _ _ => r = .agg [.fn (.func 70) [] [], .fn (.func 71) [] [], .fn (.func 72) [] [], .fn (.func 73) [] [], .fn (.func 74) [] [], .fn (.func 75) [] [], .fn (.func 76) [] [], .fn (.func 77) [] [], .fn (.func 78) [] []]) := by
  refine eff_of Tryz.func54 rfl rfl rfl fun cx e hP => ?_
  refine AWP.runL e tab_ok L54 300 rfl (by trivial ) ?_
  refine AWP.ret e tab_ok rfl ?_
  rw [hP]
  all_goals rfl
set_option maxRecDepth 100000 in
set_option maxHeartbeats 4000000 in
theorem sa_join (n : Nat) (h1 : n < 10) : Eff Tryz.prog 30 [.agg (outS false 0 0 n false false f0), U 49] [] 0 (fun r _ _ => r = .tup [.agg (outS false 0 0 (n + 1 : Nat) false false f0), .agg ev0, .i 0]) := by
  have c1 := cr_join n (by omega) (by omega)
  have c2 := steps_eff
  refine eff_of Tryz.func30 rfl rfl rfl fun cx e hP => ?_
  refine AWP.runL e tab_ok L30 300 rfl (by trivial ) ?_
  repeat (
    first
      | (refine AWP.askT rfl ?_; (first | (refine Told.t rfl ?_) | (refine Told.f rfl ?_) ); refine AWP.runL e tab_ok L30 300 rfl (by trivial ) ?_)
      | (refine AWP.callQ e rfl rfl ?_; (first | refine CallQ.mk (c1) rfl rfl ?_); refine AWP.runL e tab_ok L30 300 rfl (by trivial ) ?_)

    )
  refine AWP.drgP 300 rfl rfl (by kernel_rfl) ?_
  (refine DrG.runN e tab_ok 200 rfl (by trivial ) ?_)
  (refine DrG.runS e tab_ok 200 rfl (by trivial ) ?_)
  repeat (
    first
      | (refine DrG.callQ e rfl rfl ?_; (first | refine CallVQ.mk (c2) rfl rfl ?_); (refine DrG.runS e tab_ok 200 rfl (by trivial ) ?_))
      | (refine DrG.v rfl (fun _ => VStep.idx_agg e tab_ok rfl rfl rfl rfl rfl 0 rfl (by decide) rfl) rfl ?_; (refine DrG.runS e tab_ok 200 rfl (by trivial ) ?_))
    )
  refine DrG.finK e rfl ?_ rfl rfl rfl ?_ ?_
  (focus kernel_rfl)
  (focus (repeat' (first | exact True.intro | (refine And.intro ?_ ?_) | rfl )))
  dsimp only [tmS, hpS, tput, effH]
  refine AWP.enter e rfl Tryz.func70 rfl rfl rfl rfl fun cx' e' hP' => ?_
  refine AWP.runL e' tab_ok L70 300 rfl (by  (simp [in64] <;> omega)) ?_
  repeat (
    (refine AWP.askT rfl ?_; (first | (refine Told.f rfl ?_) | (refine Told.f ?_ ?_; (focus ((simp; omega)); done))); refine AWP.runL e' tab_ok L70 300 rfl (by trivial ) ?_)

    )
  ( (refine AWP.fin e' tab_ok rfl ?_)); rw [hP']; show AWP cx _ _
  refine AWP.runL e tab_ok L30 300 rfl (by trivial ) ?_
  refine AWP.keep L30 rfl ?_
  refine AWP.drg 900 ?_
  (refine DrG.runS e tab_ok 200 rfl (by trivial ) ?_)
  repeat (
    (refine DrG.askT rfl ?_; ((refine Told.t rfl ?_) ); (refine DrG.runS e tab_ok 200 rfl (by trivial ) ?_))

    )
  refine DrG.finK e rfl ?_ rfl rfl rfl ?_ ?_
  (focus kernel_rfl)
  (focus (repeat' (first | exact True.intro | (refine And.intro ?_ ?_) | rfl )))
  dsimp only [tmS, hpS, tput, effH]
  refine AWP.runL e tab_ok L30 300 rfl (by trivial ) ?_
  refine AWP.ret e tab_ok rfl ?_
  rw [hP]
  all_goals rfl
set_option maxRecDepth 100000 in
set_option maxHeartbeats 4000000 in
theorem sa_joined : Eff Tryz.prog 30 [.agg (outS false 0 0 10 false false f0), U 49] [] 0 (fun r _ _ => r = .tup [.agg (outS false 0 1 0 false false f0), .agg ev0, .i 0]) := by
  have c1 := cr_join 10 (by omega) (by omega)
  have c2 := steps_eff
  refine eff_of Tryz.func30 rfl rfl rfl fun cx e hP => ?_
  refine AWP.runL e tab_ok L30 300 rfl (by trivial ) ?_
  repeat (
    first
      | (refine AWP.askT rfl ?_; (first | (refine Told.t rfl ?_) | (refine Told.f rfl ?_) ); refine AWP.runL e tab_ok L30 300 rfl (by trivial ) ?_)
      | (refine AWP.callQ e rfl rfl ?_; (first | refine CallQ.mk (c1) rfl rfl ?_); refine AWP.runL e tab_ok L30 300 rfl (by trivial ) ?_)

    )
  refine AWP.drgP 300 rfl rfl (by kernel_rfl) ?_
  (refine DrG.runN e tab_ok 200 rfl (by trivial ) ?_)
  (refine DrG.runS e tab_ok 200 rfl (by trivial ) ?_)
  repeat (
    first
      | (refine DrG.callQ e rfl rfl ?_; (first | refine CallVQ.mk (c2) rfl rfl ?_); (refine DrG.runS e tab_ok 200 rfl (by trivial ) ?_))
      | (refine DrG.v rfl (fun _ => VStep.idx_agg e tab_ok rfl rfl rfl rfl rfl 0 rfl (by decide) rfl) rfl ?_; (refine DrG.runS e tab_ok 200 rfl (by trivial ) ?_))
    )
  refine DrG.finK e rfl ?_ rfl rfl rfl ?_ ?_
  (focus kernel_rfl)
  (focus (repeat' (first | exact True.intro | (refine And.intro ?_ ?_) | rfl )))
  dsimp only [tmS, hpS, tput, effH]
  refine AWP.enter e rfl Tryz.func70 rfl rfl rfl rfl fun cx' e' hP' => ?_
  refine AWP.runL e' tab_ok L70 300 rfl (by trivial ) ?_
  repeat (
    (refine AWP.askT rfl ?_; (first | (refine Told.t rfl ?_) | (refine Told.f rfl ?_) ); refine AWP.runL e' tab_ok L70 300 rfl (by trivial ) ?_)

    )
  refine AWP.enter e' rfl Tryz.func83 rfl rfl rfl rfl fun cx'' e'' hP'' => ?_
  refine AWP.runL e'' tab_ok L83 300 rfl (by trivial ) ?_
  repeat (
    (refine AWP.askT rfl ?_; ((refine Told.t rfl ?_) ); refine AWP.runL e'' tab_ok L83 300 rfl (by trivial ) ?_)

    )
  ( (refine AWP.fin e'' tab_ok rfl ?_)); rw [hP'']; show AWP cx' _ _
  refine AWP.runL e' tab_ok L70 300 rfl (by trivial ) ?_
  repeat (
    (refine AWP.askT rfl ?_; ((refine Told.t rfl ?_) ); refine AWP.runL e' tab_ok L70 300 rfl (by trivial ) ?_)

    )
  ( (refine AWP.fin e' tab_ok rfl ?_)); rw [hP']; show AWP cx _ _
  refine AWP.runL e tab_ok L30 300 rfl (by trivial ) ?_
  refine AWP.keep L30 rfl ?_
  refine AWP.drg 900 ?_
  (refine DrG.runS e tab_ok 200 rfl (by trivial ) ?_)
  repeat (
    (refine DrG.askT rfl ?_; ((refine Told.t rfl ?_) ); (refine DrG.runS e tab_ok 200 rfl (by trivial ) ?_))

    )
  refine DrG.finK e rfl ?_ rfl rfl rfl ?_ ?_
  (focus kernel_rfl)
  (focus (repeat' (first | exact True.intro | (refine And.intro ?_ ?_) | rfl )))
  dsimp only [tmS, hpS, tput, effH]
  refine AWP.runL e tab_ok L30 300 rfl (by trivial ) ?_
  refine AWP.ret e tab_ok rfl ?_
  rw [hP]
  all_goals rfl
set_option maxRecDepth 100000 in
set_option maxHeartbeats 4000000 in
theorem sa_idle (was : Bool) : Eff Tryz.prog 30 [.agg (outS false 0 1 0 was false f0), U 49] [] 0 (fun r _ _ => r = .tup [.agg (outS false 0 1 0 was false f0), .agg ev0, .i 0]) := by
  have c1 := cr_idle was
  have c2 := steps_eff
  refine eff_of Tryz.func30 rfl rfl rfl fun cx e hP => ?_
  refine AWP.runL e tab_ok L30 300 rfl (by trivial ) ?_
  repeat (
    first
      | (refine AWP.askT rfl ?_; (first | (refine Told.t rfl ?_) | (refine Told.f rfl ?_) ); refine AWP.runL e tab_ok L30 300 rfl (by trivial ) ?_)
      | (refine AWP.callQ e rfl rfl ?_; (first | refine CallQ.mk (c1) rfl rfl ?_); refine AWP.runL e tab_ok L30 300 rfl (by trivial ) ?_)

    )
  refine AWP.drgP 300 rfl rfl (by kernel_rfl) ?_
  (refine DrG.runN e tab_ok 200 rfl (by trivial ) ?_)
  (refine DrG.runS e tab_ok 200 rfl (by trivial ) ?_)
  repeat (
    first
      | (refine DrG.callQ e rfl rfl ?_; (first | refine CallVQ.mk (c2) rfl rfl ?_); (refine DrG.runS e tab_ok 200 rfl (by trivial ) ?_))
      | (refine DrG.v rfl (fun _ => VStep.idx_agg e tab_ok rfl rfl rfl rfl rfl 1 rfl (by decide) rfl) rfl ?_; (refine DrG.runS e tab_ok 200 rfl (by trivial ) ?_))
    )
  refine DrG.finK e rfl ?_ rfl rfl rfl ?_ ?_
  (focus kernel_rfl)
  (focus (repeat' (first | exact True.intro | (refine And.intro ?_ ?_) | rfl )))
  dsimp only [tmS, hpS, tput, effH]
  refine AWP.enter e rfl Tryz.func71 rfl rfl rfl rfl fun cx' e' hP' => ?_
  refine AWP.runL e' tab_ok L71 300 rfl (by trivial ) ?_
  repeat (
    (refine AWP.askT rfl ?_; ( (refine Told.f rfl ?_) ); refine AWP.runL e' tab_ok L71 300 rfl (by trivial ) ?_)

    )
  ( (refine AWP.fin e' tab_ok rfl ?_)); rw [hP']; show AWP cx _ _
  refine AWP.runL e tab_ok L30 300 rfl (by trivial ) ?_
  refine AWP.keep L30 rfl ?_
  refine AWP.drg 900 ?_
  (refine DrG.runS e tab_ok 200 rfl (by trivial ) ?_)
  repeat (
    (refine DrG.askT rfl ?_; ((refine Told.t rfl ?_) ); (refine DrG.runS e tab_ok 200 rfl (by trivial ) ?_))

    )
  refine DrG.finK e rfl ?_ rfl rfl rfl ?_ ?_
  (focus kernel_rfl)
  (focus (repeat' (first | exact True.intro | (refine And.intro ?_ ?_) | rfl )))
  dsimp only [tmS, hpS, tput, effH]
  refine AWP.runL e tab_ok L30 300 rfl (by trivial ) ?_
  refine AWP.ret e tab_ok rfl ?_
  rw [hP]
  all_goals rfl
set_option maxRecDepth 100000 in
set_option maxHeartbeats 4000000 in
theorem sa_begin (was : Bool) : Eff Tryz.prog 30 [.agg (outS false 0 1 0 was false f0), U 48] [] 0 (fun r _ _ => r = .tup [.agg (inS false f0 [] 0 (48, 1) [48] false 0 false), .agg ev0, .i 0]) := by
  have c1 := cr_idle was
  have c2 := steps_eff
  refine eff_of Tryz.func30 rfl rfl rfl fun cx e hP => ?_
  refine AWP.runL e tab_ok L30 300 rfl (by trivial ) ?_
  repeat (
    first
      | (refine AWP.askT rfl ?_; ( (refine Told.f rfl ?_) ); refine AWP.runL e tab_ok L30 300 rfl (by trivial ) ?_)
      | (refine AWP.callQ e rfl rfl ?_; (first | refine CallQ.mk (c1) rfl rfl ?_); refine AWP.runL e tab_ok L30 300 rfl (by trivial ) ?_)

    )
  refine AWP.drgP 300 rfl rfl (by kernel_rfl) ?_
  (refine DrG.runN e tab_ok 200 rfl (by trivial ) ?_)
  (refine DrG.runS e tab_ok 200 rfl (by trivial ) ?_)
  repeat (
    first
      | (refine DrG.callQ e rfl rfl ?_; (first | refine CallVQ.mk (c2) rfl rfl ?_); (refine DrG.runS e tab_ok 200 rfl (by trivial ) ?_))
      | (refine DrG.v rfl (fun _ => VStep.idx_agg e tab_ok rfl rfl rfl rfl rfl 1 rfl (by decide) rfl) rfl ?_; (refine DrG.runS e tab_ok 200 rfl (by trivial ) ?_))
    )
  refine DrG.finK e rfl ?_ rfl rfl rfl ?_ ?_
  (focus kernel_rfl)
  (focus (repeat' (first | exact True.intro | (refine And.intro ?_ ?_) | rfl )))
  dsimp only [tmS, hpS, tput, effH]
  refine AWP.enter e rfl Tryz.func71 rfl rfl rfl rfl fun cx' e' hP' => ?_
  refine AWP.runL e' tab_ok L71 300 rfl (by trivial ) ?_
  repeat (
    (refine AWP.askT rfl ?_; ((refine Told.t rfl ?_) ); refine AWP.runL e' tab_ok L71 300 rfl (by trivial ) ?_)

    )
  refine AWP.enter e' rfl Tryz.func84 rfl rfl rfl rfl fun cx'' e'' hP'' => ?_
  refine AWP.runL e'' tab_ok L84 300 rfl (by trivial ) ?_
  repeat (
    (refine AWP.askT rfl ?_; ((refine Told.t rfl ?_) ); refine AWP.runL e'' tab_ok L84 300 rfl (by trivial ) ?_)

    )
  refine AWP.enter e'' rfl Tryz.func83 rfl rfl rfl rfl fun cx''' e''' hP''' => ?_
  refine AWP.runL e''' tab_ok L83 300 rfl (by trivial ) ?_
  repeat (
    (refine AWP.askT rfl ?_; ((refine Told.t rfl ?_) ); refine AWP.runL e''' tab_ok L83 300 rfl (by trivial ) ?_)

    )
  ( (refine AWP.fin e''' tab_ok rfl ?_)); rw [hP''']; show AWP cx'' _ _
  refine AWP.runL e'' tab_ok L84 300 rfl (by trivial ) ?_
  repeat (
    (refine AWP.askT rfl ?_; ( (refine Told.f rfl ?_) ); refine AWP.runL e'' tab_ok L84 300 rfl (by trivial ) ?_)

    )
  ( (refine AWP.fin e'' tab_ok rfl ?_)); rw [hP'']; show AWP cx' _ _
  refine AWP.runL e' tab_ok L71 300 rfl (by trivial ) ?_
  repeat (
    (refine AWP.askT rfl ?_; ((refine Told.t rfl ?_) ); refine AWP.runL e' tab_ok L71 300 rfl (by trivial ) ?_)

    )
  ( (refine AWP.fin e' tab_ok rfl ?_)); rw [hP']; show AWP cx _ _
  refine AWP.runL e tab_ok L30 300 rfl (by trivial ) ?_
  refine AWP.keep L30 rfl ?_
  refine AWP.drg 900 ?_
  (refine DrG.runS e tab_ok 200 rfl (by trivial ) ?_)
  repeat (
    (refine DrG.askT rfl ?_; ((refine Told.t rfl ?_) ); (refine DrG.runS e tab_ok 200 rfl (by trivial ) ?_))

    )
  refine DrG.finK e rfl ?_ rfl rfl rfl ?_ ?_
  (focus kernel_rfl)
  (focus (repeat' (first | exact True.intro | (refine And.intro ?_ ?_) | rfl )))
  dsimp only [tmS, hpS, tput, effH]
  refine AWP.runL e tab_ok L30 300 rfl (by trivial ) ?_
  refine AWP.ret e tab_ok rfl ?_
  rw [hP]
  all_goals rfl
set_option maxRecDepth 100000 in
set_option maxHeartbeats 4000000 in
theorem sa_sends (was : Bool) (f : Frm) (hr : rightF f = true) : Eff Tryz.prog 30 [.agg (outS false 0 1 0 was true f), U 48] [] 0 (fun r _ _ => r = .tup [.agg (inS true f (bitsF f) 1 (48, 1) [48] false 0 false), .agg ev0, .i 0]) := by
  have c1 := cr_has was f hr
  have c2 := steps_eff
  have c3 := bits_eff f hr
  generalize bitsF f = B at *
  refine eff_of Tryz.func30 rfl rfl rfl fun cx e hP => ?_
  refine AWP.runL e tab_ok L30 300 rfl (by trivial ) ?_
  repeat (
    first
      | (refine AWP.askT rfl ?_; ( (refine Told.f rfl ?_) ); refine AWP.runL e tab_ok L30 300 rfl (by trivial ) ?_)
      | (refine AWP.callQ e rfl rfl ?_; (first | refine CallQ.mk (c1) rfl rfl ?_); refine AWP.runL e tab_ok L30 300 rfl (by trivial ) ?_)

    )
  refine AWP.drgP 300 rfl rfl (by kernel_rfl) ?_
  (refine DrG.runN e tab_ok 200 rfl (by trivial ) ?_)
  (refine DrG.runS e tab_ok 200 rfl (by trivial ) ?_)
  repeat (
    first
      | (refine DrG.callQ e rfl rfl ?_; (first | refine CallVQ.mk (c2) rfl rfl ?_); (refine DrG.runS e tab_ok 200 rfl (by trivial ) ?_))
      | (refine DrG.v rfl (fun _ => VStep.idx_agg e tab_ok rfl rfl rfl rfl rfl 1 rfl (by decide) rfl) rfl ?_; (refine DrG.runS e tab_ok 200 rfl (by trivial ) ?_))
    )
  refine DrG.finK e rfl ?_ rfl rfl rfl ?_ ?_
  (focus kernel_rfl)
  (focus (repeat' (first | exact True.intro | (refine And.intro ?_ ?_) | rfl )))
  dsimp only [tmS, hpS, tput, effH]
  refine AWP.enter e rfl Tryz.func71 rfl rfl rfl rfl fun cx' e' hP' => ?_
  refine AWP.runL e' tab_ok L71 300 rfl (by trivial ) ?_
  repeat (
    (refine AWP.askT rfl ?_; ((refine Told.t rfl ?_) ); refine AWP.runL e' tab_ok L71 300 rfl (by trivial ) ?_)

    )
  refine AWP.enter e' rfl Tryz.func84 rfl rfl rfl rfl fun cx'' e'' hP'' => ?_
  refine AWP.runL e'' tab_ok L84 300 rfl (by trivial ) ?_
  repeat (
    (refine AWP.askT rfl ?_; ((refine Told.t rfl ?_) ); refine AWP.runL e'' tab_ok L84 300 rfl (by trivial ) ?_)

    )
  refine AWP.enter e'' rfl Tryz.func83 rfl rfl rfl rfl fun cx''' e''' hP''' => ?_
  refine AWP.runL e''' tab_ok L83 300 rfl (by trivial ) ?_
  repeat (
    (refine AWP.askT rfl ?_; ((refine Told.t rfl ?_) ); refine AWP.runL e''' tab_ok L83 300 rfl (by trivial ) ?_)

    )
  ( (refine AWP.fin e''' tab_ok rfl ?_)); rw [hP''']; show AWP cx'' _ _
  refine AWP.runL e'' tab_ok L84 300 rfl (by trivial ) ?_
  repeat (
    first
      | (refine AWP.askT rfl ?_; ((refine Told.t rfl ?_) ); refine AWP.runL e'' tab_ok L84 300 rfl (by trivial ) ?_)
      | (refine AWP.callQ e'' rfl rfl ?_; (first | refine CallQ.mk (c3) rfl rfl ?_); refine AWP.runL e'' tab_ok L84 300 rfl (by trivial ) ?_)

    )
  ( (refine AWP.fin e'' tab_ok rfl ?_)); rw [hP'']; show AWP cx' _ _
  refine AWP.runL e' tab_ok L71 300 rfl (by trivial ) ?_
  repeat (
    (refine AWP.askT rfl ?_; ((refine Told.t rfl ?_) ); refine AWP.runL e' tab_ok L71 300 rfl (by trivial ) ?_)

    )
  ( (refine AWP.fin e' tab_ok rfl ?_)); rw [hP']; show AWP cx _ _
  refine AWP.runL e tab_ok L30 300 rfl (by trivial ) ?_
  refine AWP.keep L30 rfl ?_
  refine AWP.drg 900 ?_
  (refine DrG.runS e tab_ok 200 rfl (by trivial ) ?_)
  repeat (
    (refine DrG.askT rfl ?_; ((refine Told.t rfl ?_) ); (refine DrG.runS e tab_ok 200 rfl (by trivial ) ?_))

    )
  refine DrG.finK e rfl ?_ rfl rfl rfl ?_ ?_
  (focus kernel_rfl)
  (focus (repeat' (first | exact True.intro | (refine And.intro ?_ ?_) | rfl )))
  dsimp only [tmS, hpS, tput, effH]
  refine AWP.runL e tab_ok L30 300 rfl (by trivial ) ?_
  refine AWP.ret e tab_ok rfl ?_
  rw [hP]
  all_goals rfl
set_option maxRecDepth 100000 in
set_option maxHeartbeats 4000000 in
theorem sa_gap (n : Nat) (was : Bool) (h1 : n < 2) : Eff Tryz.prog 30 [.agg (outS false 0 6 n was false f0), U 49] [] 0 (fun r _ _ => r = .tup [.agg (outS false 0 6 (n + 1 : Nat) was false f0), .agg ev0, .i 0]) := by
  have c1 := cr_gap n was (by omega) (by omega)
  have c2 := steps_eff
  refine eff_of Tryz.func30 rfl rfl rfl fun cx e hP => ?_
  refine AWP.runL e tab_ok L30 300 rfl (by trivial ) ?_
  repeat (
    first
      | (refine AWP.askT rfl ?_; (first | (refine Told.t rfl ?_) | (refine Told.f rfl ?_) ); refine AWP.runL e tab_ok L30 300 rfl (by trivial ) ?_)
      | (refine AWP.callQ e rfl rfl ?_; (first | refine CallQ.mk (c1) rfl rfl ?_); refine AWP.runL e tab_ok L30 300 rfl (by trivial ) ?_)

    )
  refine AWP.drgP 300 rfl rfl (by kernel_rfl) ?_
  (refine DrG.runN e tab_ok 200 rfl (by trivial ) ?_)
  (refine DrG.runS e tab_ok 200 rfl (by trivial ) ?_)
  repeat (
    first
      | (refine DrG.callQ e rfl rfl ?_; (first | refine CallVQ.mk (c2) rfl rfl ?_); (refine DrG.runS e tab_ok 200 rfl (by trivial ) ?_))
      | (refine DrG.v rfl (fun _ => VStep.idx_agg e tab_ok rfl rfl rfl rfl rfl 6 rfl (by decide) rfl) rfl ?_; (refine DrG.runS e tab_ok 200 rfl (by trivial ) ?_))
    )
  refine DrG.finK e rfl ?_ rfl rfl rfl ?_ ?_
  (focus kernel_rfl)
  (focus (repeat' (first | exact True.intro | (refine And.intro ?_ ?_) | rfl )))
  dsimp only [tmS, hpS, tput, effH]
  refine AWP.enter e rfl Tryz.func76 rfl rfl rfl rfl fun cx' e' hP' => ?_
  refine AWP.runL e' tab_ok L76 300 rfl (by  (simp [in64] <;> omega)) ?_
  repeat (
    (refine AWP.askT rfl ?_; (first | (refine Told.f rfl ?_) | (refine Told.f ?_ ?_; (focus ((simp; omega)); done))); refine AWP.runL e' tab_ok L76 300 rfl (by trivial ) ?_)

    )
  ( (refine AWP.fin e' tab_ok rfl ?_)); rw [hP']; show AWP cx _ _
  refine AWP.runL e tab_ok L30 300 rfl (by trivial ) ?_
  refine AWP.keep L30 rfl ?_
  refine AWP.drg 900 ?_
  (refine DrG.runS e tab_ok 200 rfl (by trivial ) ?_)
  repeat (
    (refine DrG.askT rfl ?_; ((refine Told.t rfl ?_) ); (refine DrG.runS e tab_ok 200 rfl (by trivial ) ?_))

    )
  refine DrG.finK e rfl ?_ rfl rfl rfl ?_ ?_
  (focus kernel_rfl)
  (focus (repeat' (first | exact True.intro | (refine And.intro ?_ ?_) | rfl )))
  dsimp only [tmS, hpS, tput, effH]
  refine AWP.runL e tab_ok L30 300 rfl (by trivial ) ?_
  refine AWP.ret e tab_ok rfl ?_
  rw [hP]
  all_goals rfl
set_option maxRecDepth 100000 in
set_option maxHeartbeats 4000000 in
theorem sa_gaps (was : Bool) : Eff Tryz.prog 30 [.agg (outS false 0 6 2 was false f0), U 49] [] 0 (fun r _ _ => r = .tup [.agg (outS false 0 1 0 was false f0), .agg ev0, .i 0]) := by
  have c1 := cr_gap 2 was (by omega) (by omega)
  have c2 := steps_eff
  have c3 := state_act
  cases was
  all_goals (
    refine eff_of Tryz.func30 rfl rfl rfl fun cx e hP => ?_
    refine AWP.runL e tab_ok L30 300 rfl (by trivial ) ?_
    repeat (
      first
        | (refine AWP.askT rfl ?_; (first | (refine Told.t rfl ?_) | (refine Told.f rfl ?_) ); refine AWP.runL e tab_ok L30 300 rfl (by trivial ) ?_)
        | (refine AWP.callQ e rfl rfl ?_; (first | refine CallQ.mk (c1) rfl rfl ?_); refine AWP.runL e tab_ok L30 300 rfl (by trivial ) ?_)

      )
    refine AWP.drgP 300 rfl rfl (by kernel_rfl) ?_
    (refine DrG.runN e tab_ok 200 rfl (by trivial ) ?_)
    (refine DrG.runS e tab_ok 200 rfl (by trivial ) ?_)
    repeat (
      first
        | (refine DrG.callQ e rfl rfl ?_; (first | refine CallVQ.mk (c2) rfl rfl ?_); (refine DrG.runS e tab_ok 200 rfl (by trivial ) ?_))
        | (refine DrG.v rfl (fun _ => VStep.idx_agg e tab_ok rfl rfl rfl rfl rfl 6 rfl (by decide) rfl) rfl ?_; (refine DrG.runS e tab_ok 200 rfl (by trivial ) ?_))
      )
    refine DrG.finK e rfl ?_ rfl rfl rfl ?_ ?_
    (focus kernel_rfl)
    (focus (repeat' (first | exact True.intro | (refine And.intro ?_ ?_) | rfl )))
    dsimp only [tmS, hpS, tput, effH]
    refine AWP.enter e rfl Tryz.func76 rfl rfl rfl rfl fun cx' e' hP' => ?_
    refine AWP.runL e' tab_ok L76 300 rfl (by trivial ) ?_
    repeat (
      (refine AWP.askT rfl ?_; (first | (refine Told.t rfl ?_) | (refine Told.f rfl ?_) ); refine AWP.runL e' tab_ok L76 300 rfl (by trivial ) ?_)

      )
    refine AWP.enter e' rfl Tryz.func83 rfl rfl rfl rfl fun cx'' e'' hP'' => ?_
    refine AWP.runL e'' tab_ok L83 300 rfl (by trivial ) ?_
    repeat (
      (refine AWP.askT rfl ?_; ((refine Told.t rfl ?_) ); refine AWP.runL e'' tab_ok L83 300 rfl (by trivial ) ?_)

      )
    ( (refine AWP.fin e'' tab_ok rfl ?_)); rw [hP'']; show AWP cx' _ _
    refine AWP.runL e' tab_ok L76 300 rfl (by trivial ) ?_
    repeat (
      first
        | (refine AWP.askT rfl ?_; (first | (refine Told.t rfl ?_) | (refine Told.f rfl ?_) ); refine AWP.runL e' tab_ok L76 300 rfl (by trivial ) ?_)
        | (refine AWP.callQ e' rfl rfl ?_; (first | refine CallQ.mk (c3) rfl rfl ?_); refine AWP.runL e' tab_ok L76 300 rfl (by trivial ) ?_)

      )
    ( (refine AWP.fin e' tab_ok rfl ?_)); rw [hP']; show AWP cx _ _
    refine AWP.runL e tab_ok L30 300 rfl (by trivial ) ?_
    refine AWP.keep L30 rfl ?_
    refine AWP.drg 900 ?_
    (refine DrG.runS e tab_ok 200 rfl (by trivial ) ?_)
    repeat (
      (refine DrG.askT rfl ?_; ((refine Told.t rfl ?_) ); (refine DrG.runS e tab_ok 200 rfl (by trivial ) ?_))

      )
    refine DrG.finK e rfl ?_ rfl rfl rfl ?_ ?_
    (focus kernel_rfl)
    (focus (repeat' (first | exact True.intro | (refine And.intro ?_ ?_) | rfl )))
    dsimp only [tmS, hpS, tput, effH]
    refine AWP.runL e tab_ok L30 300 rfl (by trivial ) ?_
    refine AWP.ret e tab_ok rfl ?_
    rw [hP]
    all_goals rfl
  )
end Go.Proofs.YthdcegeampcalaaGreatDoor
