/-
  What a controller is behind a bit of a frame's end. Condition: what the theorems state ahead.
-/
import Derived.Test.YthdcegeampcalaaGreatDoorC10
open Go Go.Proofs Go.Sy Go.Stuff
namespace Go.Proofs.YthdcegeampcalaaGreatDoor
set_option maxRecDepth 100000 in
set_option maxHeartbeats 8000000 in
theorem ta_plain (x : X) (g : List UInt8) (t : Nat) (c1 : Eff Tryz.prog 28 [.agg (inS false f0 [] 0 x g true t true)] [] 0 (fun r _ _ => r = .b true)) (h1 : ((t : Int) == 1) = false) (h8 : ((t : Int) == 8) = false) (h9 : ((t : Int) == 9) = false) (ht : t ≤ 9) :
    Eff Tryz.prog 30 [.agg (inS false f0 [] 0 x g true t true), U 49] [] 0 (fun r _ _ => r = .tup [.agg (inS false f0 [] 0 x g true (t + 1 : Nat) true), .agg ev0, .i 0]) := by
  have c2 := steps_eff
  have g1 : ((t : Int) != 1) = true := by rw [bne, h1]; rfl
  rcases cases_b ((t : Int) == 2) with h2 | h2
  all_goals (
    refine eff_of Tryz.func30 rfl rfl rfl fun cx e hP => ?_
    refine AWP.runL e tab_ok L30 300 rfl (by trivial ) ?_
    repeat (
      first
        | (refine AWP.askT rfl ?_; (first | (refine Told.t rfl ?_) | (refine Told.f rfl ?_) ); refine AWP.runL e tab_ok L30 300 rfl (by trivial ) ?_)
        | (refine AWP.callQ e rfl rfl ?_; (first | refine CallQ.mk (c1) rfl rfl ?_); refine AWP.runL e tab_ok L30 300 rfl (by trivial ) ?_)

      )
    refine AWP.drgP 300 rfl rfl (by kernel_rfl) ?_
    (refine DrG.runN e tab_ok 200 rfl (by trivial ) ?_)
    (refine DrG.runS e tab_ok 200 rfl (by trivial ) ?_)
    repeat (
      first
        | (refine DrG.callQ e rfl rfl ?_; (first | refine CallVQ.mk (c2) rfl rfl ?_); (refine DrG.runS e tab_ok 200 rfl (by trivial ) ?_))
        | (refine DrG.v rfl (fun _ => VStep.idx_agg e tab_ok rfl rfl rfl rfl rfl 2 rfl (by decide) rfl) rfl ?_; (refine DrG.runS e tab_ok 200 rfl (by trivial ) ?_))
      )
    refine DrG.finK e rfl ?_ rfl rfl rfl ?_ ?_
    (focus kernel_rfl)
    (focus (repeat' (first | exact True.intro | (refine And.intro ?_ ?_) | rfl )))
    dsimp only [tmS, hpS, tput, effH]
    refine AWP.enter e rfl Tryz.func72 rfl rfl rfl rfl fun cx' e' hP' => ?_
    refine AWP.runL e' tab_ok L72 300 rfl (by trivial ) ?_
    repeat (
      (refine AWP.askT rfl ?_; ((refine Told.t rfl ?_) ); refine AWP.runL e' tab_ok L72 300 rfl (by trivial ) ?_)

      )
    refine AWP.enter e' rfl Tryz.func85 rfl rfl rfl rfl fun cx'' e'' hP'' => ?_
    refine AWP.runL e'' tab_ok L85 300 rfl (by trivial ) ?_
    repeat (
      (refine AWP.askT rfl ?_; (first | (refine Told.t rfl ?_) | (refine Told.f rfl ?_) | (refine Told.t ?_ ?_; (focus assumption)) | (refine Told.f ?_ ?_; (focus assumption)) ); refine AWP.runL e'' tab_ok L85 300 rfl (by first | trivial | (simp [in64] <;> omega)) ?_)

      )
    ( (refine AWP.fin e'' tab_ok rfl ?_)); rw [hP'']; show AWP cx' _ _
    refine AWP.runL e' tab_ok L72 300 rfl (by trivial ) ?_
    repeat (
      (refine AWP.askT rfl ?_; ((refine Told.t rfl ?_) ); refine AWP.runL e' tab_ok L72 300 rfl (by trivial ) ?_)

      )
    ( (refine AWP.fin e' tab_ok rfl ?_)); rw [hP']; show AWP cx _ _
    refine AWP.runL e tab_ok L30 300 rfl (by trivial ) ?_
    refine AWP.keep L30 rfl ?_
    refine AWP.drg 900 ?_
    (refine DrG.runS e tab_ok 200 rfl (by trivial ) ?_)
    repeat (
      (refine DrG.askT rfl ?_; ((refine Told.t rfl ?_) ); (refine DrG.runS e tab_ok 200 rfl (by trivial ) ?_))

      )
    refine DrG.finK e rfl ?_ rfl rfl rfl ?_ ?_
    (focus kernel_rfl)
    (focus (repeat' (first | exact True.intro | (refine And.intro ?_ ?_) | rfl )))
    dsimp only [tmS, hpS, tput, effH]
    refine AWP.runL e tab_ok L30 300 rfl (by trivial ) ?_
    refine AWP.ret e tab_ok rfl ?_
    rw [hP]
    all_goals rfl
  )
set_option maxRecDepth 100000 in
set_option maxHeartbeats 8000000 in
theorem ta_ack (x : X) (g : List UInt8) (c1 : Eff Tryz.prog 28 [.agg (inS false f0 [] 0 x g true 1 true)] [] 0 (fun r _ _ => r = .b true)) :
    Eff Tryz.prog 30 [.agg (inS false f0 [] 0 x g true 1 true), U 48] [] 0 (fun r _ _ => r = .tup [.agg (inS false f0 [] 0 x g true 2 true), .agg ev0, .i 0]) := by
  have c2 := steps_eff
  refine eff_of Tryz.func30 rfl rfl rfl fun cx e hP => ?_
  refine AWP.runL e tab_ok L30 300 rfl (by trivial ) ?_
  repeat (
    first
      | (refine AWP.askT rfl ?_; ( (refine Told.f rfl ?_) ); refine AWP.runL e tab_ok L30 300 rfl (by trivial ) ?_)
      | (refine AWP.callQ e rfl rfl ?_; (first | refine CallQ.mk (c1) rfl rfl ?_); refine AWP.runL e tab_ok L30 300 rfl (by trivial ) ?_)

    )
  refine AWP.drgP 300 rfl rfl (by kernel_rfl) ?_
  (refine DrG.runN e tab_ok 200 rfl (by trivial ) ?_)
  (refine DrG.runS e tab_ok 200 rfl (by trivial ) ?_)
  repeat (
    first
      | (refine DrG.callQ e rfl rfl ?_; (first | refine CallVQ.mk (c2) rfl rfl ?_); (refine DrG.runS e tab_ok 200 rfl (by trivial ) ?_))
      | (refine DrG.v rfl (fun _ => VStep.idx_agg e tab_ok rfl rfl rfl rfl rfl 2 rfl (by decide) rfl) rfl ?_; (refine DrG.runS e tab_ok 200 rfl (by trivial ) ?_))
    )
  refine DrG.finK e rfl ?_ rfl rfl rfl ?_ ?_
  (focus kernel_rfl)
  (focus (repeat' (first | exact True.intro | (refine And.intro ?_ ?_) | rfl )))
  dsimp only [tmS, hpS, tput, effH]
  refine AWP.enter e rfl Tryz.func72 rfl rfl rfl rfl fun cx' e' hP' => ?_
  refine AWP.runL e' tab_ok L72 300 rfl (by trivial ) ?_
  repeat (
    (refine AWP.askT rfl ?_; ((refine Told.t rfl ?_) ); refine AWP.runL e' tab_ok L72 300 rfl (by trivial ) ?_)

    )
  refine AWP.enter e' rfl Tryz.func85 rfl rfl rfl rfl fun cx'' e'' hP'' => ?_
  refine AWP.runL e'' tab_ok L85 300 rfl (by trivial ) ?_
  repeat (
    (refine AWP.askT rfl ?_; (first | (refine Told.t rfl ?_) | (refine Told.f rfl ?_) ); refine AWP.runL e'' tab_ok L85 300 rfl (by trivial ) ?_)

    )
  ( (refine AWP.fin e'' tab_ok rfl ?_)); rw [hP'']; show AWP cx' _ _
  refine AWP.runL e' tab_ok L72 300 rfl (by trivial ) ?_
  repeat (
    (refine AWP.askT rfl ?_; ((refine Told.t rfl ?_) ); refine AWP.runL e' tab_ok L72 300 rfl (by trivial ) ?_)

    )
  ( (refine AWP.fin e' tab_ok rfl ?_)); rw [hP']; show AWP cx _ _
  refine AWP.runL e tab_ok L30 300 rfl (by trivial ) ?_
  refine AWP.keep L30 rfl ?_
  refine AWP.drg 900 ?_
  (refine DrG.runS e tab_ok 200 rfl (by trivial ) ?_)
  repeat (
    (refine DrG.askT rfl ?_; ((refine Told.t rfl ?_) ); (refine DrG.runS e tab_ok 200 rfl (by trivial ) ?_))

    )
  refine DrG.finK e rfl ?_ rfl rfl rfl ?_ ?_
  (focus kernel_rfl)
  (focus (repeat' (first | exact True.intro | (refine And.intro ?_ ?_) | rfl )))
  dsimp only [tmS, hpS, tput, effH]
  refine AWP.runL e tab_ok L30 300 rfl (by trivial ) ?_
  refine AWP.ret e tab_ok rfl ?_
  rw [hP]
  all_goals rfl
set_option maxRecDepth 100000 in
set_option maxHeartbeats 8000000 in
theorem ta_came (f : Frm) (x : X) (S H : List UInt8) (c1 : Eff Tryz.prog 28 [.agg (inS false f0 [] 0 x S true 8 true)] [] 0 (fun r _ _ => r = .b true)) (c4 : Eff Tryz.prog 26 [.s (strL H)] [] 0 (fun r _ _ => r = .tup [.agg (fS f), .i 0])) (hcut : (strL S).extract 0 (((strL S).size : Int) - 15).toNat = strL H) (hz : 15 ≤ (strL S).size) (hz2 : (strL S).size ≤ 1000) :
    Eff Tryz.prog 30 [.agg (inS false f0 [] 0 x S true 8 true), U 49] [] 0 (fun r _ _ => r = .tup [.agg (inS false f0 [] 0 x S true 9 true), .agg (evS 2 f 0), .i 0]) := by
  have c2 := steps_eff
  have c5 := came_eff
  have c6 := state_act
  refine eff_of Tryz.func30 rfl rfl rfl fun cx e hP => ?_
  refine AWP.runL e tab_ok L30 300 rfl (by trivial ) ?_
  repeat (
    first
      | (refine AWP.askT rfl ?_; (first | (refine Told.t rfl ?_) | (refine Told.f rfl ?_) ); refine AWP.runL e tab_ok L30 300 rfl (by trivial ) ?_)
      | (refine AWP.callQ e rfl rfl ?_; (first | refine CallQ.mk (c1) rfl rfl ?_); refine AWP.runL e tab_ok L30 300 rfl (by trivial ) ?_)

    )
  refine AWP.drgP 300 rfl rfl (by kernel_rfl) ?_
  (refine DrG.runN e tab_ok 200 rfl (by trivial ) ?_)
  (refine DrG.runS e tab_ok 200 rfl (by trivial ) ?_)
  repeat (
    first
      | (refine DrG.callQ e rfl rfl ?_; (first | refine CallVQ.mk (c2) rfl rfl ?_); (refine DrG.runS e tab_ok 200 rfl (by trivial ) ?_))
      | (refine DrG.v rfl (fun _ => VStep.idx_agg e tab_ok rfl rfl rfl rfl rfl 2 rfl (by decide) rfl) rfl ?_; (refine DrG.runS e tab_ok 200 rfl (by trivial ) ?_))
    )
  refine DrG.finK e rfl ?_ rfl rfl rfl ?_ ?_
  (focus kernel_rfl)
  (focus (repeat' (first | exact True.intro | (refine And.intro ?_ ?_) | rfl )))
  dsimp only [tmS, hpS, tput, effH]
  refine AWP.enter e rfl Tryz.func72 rfl rfl rfl rfl fun cx' e' hP' => ?_
  refine AWP.runL e' tab_ok L72 300 rfl (by trivial ) ?_
  repeat (
    (refine AWP.askT rfl ?_; ((refine Told.t rfl ?_) ); refine AWP.runL e' tab_ok L72 300 rfl (by trivial ) ?_)

    )
  refine AWP.enter e' rfl Tryz.func85 rfl rfl rfl rfl fun cx'' e'' hP'' => ?_
  refine AWP.runL e'' tab_ok L85 300 rfl (by trivial ) ?_
  repeat (
    (refine AWP.askT rfl ?_; (first | (refine Told.t rfl ?_) | (refine Told.f rfl ?_) ); refine AWP.runL e'' tab_ok L85 300 rfl (by trivial ) ?_)

    )
  refine AWP.enter e'' rfl Tryz.func87 rfl rfl rfl rfl fun cx''' e''' hP''' => ?_
  refine AWP.runL e''' tab_ok L87 300 rfl (by trivial ) ?_
  repeat (

      (refine AWP.callQ e''' rfl rfl ?_; (first | refine CallQ.mk (c5) rfl rfl ?_ | refine CallQ.mk (c6) rfl rfl ?_); refine AWP.runL e''' tab_ok L87 300 rfl (by trivial ) ?_)

    )
  ((refine AWP.ret e''' tab_ok rfl ?_)); rw [hP''']; show AWP cx'' _ _
  refine AWP.runL e'' tab_ok L85 300 rfl (by trivial ) ?_
  repeat (
    (refine AWP.askT rfl ?_; ((refine Told.t rfl ?_) ); refine AWP.runL e'' tab_ok L85 300 rfl (by trivial ) ?_)

    )
  refine AWP.keep L85 rfl ?_
  refine AWP.drg 400 ?_
  (refine DrG.runS e'' tab_ok 200 rfl (by  (simp [in64] <;> omega)) ?_)
  repeat (
    (refine DrG.askT rfl ?_; ((refine Told.t rfl ?_) ); (refine DrG.runS e'' tab_ok 200 rfl (by trivial ) ?_))

    )
  refine DrG.eqV (x' := .s (strL H)) (congrArg SV.s hcut) ?_
  (refine DrG.runS e'' tab_ok 200 rfl (by trivial ) ?_)
  repeat (

      (refine DrG.callQ e'' rfl rfl ?_; (first | refine CallVQ.mk (c4) rfl rfl ?_); (refine DrG.runS e'' tab_ok 200 rfl (by trivial ) ?_))

    )
  refine DrG.finK e'' rfl ?_ rfl rfl rfl ?_ ?_
  (focus kernel_rfl)
  (focus (repeat' (first | exact True.intro | (refine And.intro ?_ ?_) | rfl )))
  dsimp only [tmS, hpS, tput, effH]
  refine AWP.runL e'' tab_ok L85 300 rfl (by trivial ) ?_
  repeat (
    (refine AWP.askT rfl ?_; ( (refine Told.f rfl ?_) ); refine AWP.runL e'' tab_ok L85 300 rfl (by trivial ) ?_)

    )
  ( (refine AWP.fin e'' tab_ok rfl ?_)); rw [hP'']; show AWP cx' _ _
  refine AWP.runL e' tab_ok L72 300 rfl (by trivial ) ?_
  repeat (
    (refine AWP.askT rfl ?_; ((refine Told.t rfl ?_) ); refine AWP.runL e' tab_ok L72 300 rfl (by trivial ) ?_)

    )
  ( (refine AWP.fin e' tab_ok rfl ?_)); rw [hP']; show AWP cx _ _
  refine AWP.runL e tab_ok L30 300 rfl (by trivial ) ?_
  refine AWP.keep L30 rfl ?_
  refine AWP.drg 900 ?_
  (refine DrG.runS e tab_ok 200 rfl (by trivial ) ?_)
  repeat (
    (refine DrG.askT rfl ?_; ((refine Told.t rfl ?_) ); (refine DrG.runS e tab_ok 200 rfl (by trivial ) ?_))

    )
  refine DrG.finK e rfl ?_ rfl rfl rfl ?_ ?_
  (focus kernel_rfl)
  (focus (repeat' (first | exact True.intro | (refine And.intro ?_ ?_) | rfl )))
  dsimp only [tmS, hpS, tput, effH]
  refine AWP.runL e tab_ok L30 300 rfl (by trivial ) ?_
  refine AWP.ret e tab_ok rfl ?_
  rw [hP]
  all_goals rfl
set_option maxRecDepth 100000 in
set_option maxHeartbeats 8000000 in
theorem ta_end (x : X) (g : List UInt8) (c1 : Eff Tryz.prog 28 [.agg (inS false f0 [] 0 x g true 9 true)] [] 0 (fun r _ _ => r = .b true)) :
    Eff Tryz.prog 30 [.agg (inS false f0 [] 0 x g true 9 true), U 49] [] 0 (fun r _ _ => r = .tup [.agg (outS false 0 6 0 false false f0), .agg ev0, .i 0]) := by
  have c2 := steps_eff
  refine eff_of Tryz.func30 rfl rfl rfl fun cx e hP => ?_
  refine AWP.runL e tab_ok L30 300 rfl (by trivial ) ?_
  repeat (
    first
      | (refine AWP.askT rfl ?_; (first | (refine Told.t rfl ?_) | (refine Told.f rfl ?_) ); refine AWP.runL e tab_ok L30 300 rfl (by trivial ) ?_)
      | (refine AWP.callQ e rfl rfl ?_; (first | refine CallQ.mk (c1) rfl rfl ?_); refine AWP.runL e tab_ok L30 300 rfl (by trivial ) ?_)

    )
  refine AWP.drgP 300 rfl rfl (by kernel_rfl) ?_
  (refine DrG.runN e tab_ok 200 rfl (by trivial ) ?_)
  (refine DrG.runS e tab_ok 200 rfl (by trivial ) ?_)
  repeat (
    first
      | (refine DrG.callQ e rfl rfl ?_; (first | refine CallVQ.mk (c2) rfl rfl ?_); (refine DrG.runS e tab_ok 200 rfl (by trivial ) ?_))
      | (refine DrG.v rfl (fun _ => VStep.idx_agg e tab_ok rfl rfl rfl rfl rfl 2 rfl (by decide) rfl) rfl ?_; (refine DrG.runS e tab_ok 200 rfl (by trivial ) ?_))
    )
  refine DrG.finK e rfl ?_ rfl rfl rfl ?_ ?_
  (focus kernel_rfl)
  (focus (repeat' (first | exact True.intro | (refine And.intro ?_ ?_) | rfl )))
  dsimp only [tmS, hpS, tput, effH]
  refine AWP.enter e rfl Tryz.func72 rfl rfl rfl rfl fun cx' e' hP' => ?_
  refine AWP.runL e' tab_ok L72 300 rfl (by trivial ) ?_
  repeat (
    (refine AWP.askT rfl ?_; ((refine Told.t rfl ?_) ); refine AWP.runL e' tab_ok L72 300 rfl (by trivial ) ?_)

    )
  refine AWP.enter e' rfl Tryz.func85 rfl rfl rfl rfl fun cx'' e'' hP'' => ?_
  refine AWP.runL e'' tab_ok L85 300 rfl (by trivial ) ?_
  repeat (
    (refine AWP.askT rfl ?_; (first | (refine Told.t rfl ?_) | (refine Told.f rfl ?_) ); refine AWP.runL e'' tab_ok L85 300 rfl (by trivial ) ?_)

    )
  refine AWP.enter e'' rfl Tryz.func92 rfl rfl rfl rfl fun cx''' e''' hP''' => ?_
  refine AWP.runL e''' tab_ok L92 300 rfl (by trivial ) ?_
  repeat (
    (refine AWP.askT rfl ?_; ((refine Told.t rfl ?_) ); refine AWP.runL e''' tab_ok L92 300 rfl (by trivial ) ?_)

    )
  refine AWP.enter e''' rfl Tryz.func83 rfl rfl rfl rfl fun cx'''' e'''' hP'''' => ?_
  refine AWP.runL e'''' tab_ok L83 300 rfl (by trivial ) ?_
  repeat (
    (refine AWP.askT rfl ?_; ((refine Told.t rfl ?_) ); refine AWP.runL e'''' tab_ok L83 300 rfl (by trivial ) ?_)

    )
  ( (refine AWP.fin e'''' tab_ok rfl ?_)); rw [hP'''']; show AWP cx''' _ _
  refine AWP.runL e''' tab_ok L92 300 rfl (by trivial ) ?_
  repeat (
    (refine AWP.askT rfl ?_; ( (refine Told.f rfl ?_) ); refine AWP.runL e''' tab_ok L92 300 rfl (by trivial ) ?_)

    )
  ( (refine AWP.fin e''' tab_ok rfl ?_)); rw [hP''']; show AWP cx'' _ _
  refine AWP.runL e'' tab_ok L85 300 rfl (by trivial ) ?_
  repeat (
    (refine AWP.askT rfl ?_; ((refine Told.t rfl ?_) ); refine AWP.runL e'' tab_ok L85 300 rfl (by trivial ) ?_)

    )
  ((refine AWP.ret e'' tab_ok rfl ?_)); rw [hP'']; show AWP cx' _ _
  refine AWP.runL e' tab_ok L72 300 rfl (by trivial ) ?_
  repeat (
    (refine AWP.askT rfl ?_; ((refine Told.t rfl ?_) ); refine AWP.runL e' tab_ok L72 300 rfl (by trivial ) ?_)

    )
  ( (refine AWP.fin e' tab_ok rfl ?_)); rw [hP']; show AWP cx _ _
  refine AWP.runL e tab_ok L30 300 rfl (by trivial ) ?_
  refine AWP.keep L30 rfl ?_
  refine AWP.drg 900 ?_
  (refine DrG.runS e tab_ok 200 rfl (by trivial ) ?_)
  repeat (
    (refine DrG.askT rfl ?_; ((refine Told.t rfl ?_) ); (refine DrG.runS e tab_ok 200 rfl (by trivial ) ?_))

    )
  refine DrG.finK e rfl ?_ rfl rfl rfl ?_ ?_
  (focus kernel_rfl)
  (focus (repeat' (first | exact True.intro | (refine And.intro ?_ ?_) | rfl )))
  dsimp only [tmS, hpS, tput, effH]
  refine AWP.runL e tab_ok L30 300 rfl (by trivial ) ?_
  refine AWP.ret e tab_ok rfl ?_
  rw [hP]
  all_goals rfl
set_option maxRecDepth 100000 in
set_option maxHeartbeats 8000000 in
theorem st_plain (f : Frm) (B : List UInt8) (k : Nat) (x : X) (g : List UInt8) (t : Nat) (c1 : Eff Tryz.prog 28 [.agg (inS true f B k x g true t true)] [] 0 (fun r _ _ => r = .b true)) (h1 : ((t : Int) == 1) = false) (h9 : ((t : Int) == 9) = false) (ht : t ≤ 9) (hk : k ≤ 1000) :
    Eff Tryz.prog 30 [.agg (inS true f B k x g true t true), U 49] [] 0 (fun r _ _ => r = .tup [.agg (inS true f B (k + 1 : Nat) x g true (t + 1 : Nat) true), .agg ev0, .i 0]) := by
  have c2 := steps_eff
  have g1 : ((t : Int) != 1) = true := by rw [bne, h1]; rfl
  rcases cases_b ((t : Int) == 2) with h2 | h2 <;> rcases cases_b ((t : Int) == 8) with h8 | h8
  all_goals (
    refine eff_of Tryz.func30 rfl rfl rfl fun cx e hP => ?_
    refine AWP.runL e tab_ok L30 300 rfl (by trivial ) ?_
    repeat (
      first
        | (refine AWP.askT rfl ?_; (first | (refine Told.t rfl ?_) | (refine Told.f rfl ?_) ); refine AWP.runL e tab_ok L30 300 rfl (by trivial ) ?_)
        | (refine AWP.callQ e rfl rfl ?_; (first | refine CallQ.mk (c1) rfl rfl ?_); refine AWP.runL e tab_ok L30 300 rfl (by trivial ) ?_)

      )
    refine AWP.drgP 300 rfl rfl (by kernel_rfl) ?_
    (refine DrG.runN e tab_ok 200 rfl (by trivial ) ?_)
    (refine DrG.runS e tab_ok 200 rfl (by trivial ) ?_)
    repeat (
      first
        | (refine DrG.callQ e rfl rfl ?_; (first | refine CallVQ.mk (c2) rfl rfl ?_); (refine DrG.runS e tab_ok 200 rfl (by trivial ) ?_))
        | (refine DrG.v rfl (fun _ => VStep.idx_agg e tab_ok rfl rfl rfl rfl rfl 2 rfl (by decide) rfl) rfl ?_; (refine DrG.runS e tab_ok 200 rfl (by trivial ) ?_))
      )
    refine DrG.finK e rfl ?_ rfl rfl rfl ?_ ?_
    (focus kernel_rfl)
    (focus (repeat' (first | exact True.intro | (refine And.intro ?_ ?_) | rfl )))
    dsimp only [tmS, hpS, tput, effH]
    refine AWP.enter e rfl Tryz.func72 rfl rfl rfl rfl fun cx' e' hP' => ?_
    refine AWP.runL e' tab_ok L72 300 rfl (by trivial ) ?_
    repeat (
      (refine AWP.askT rfl ?_; ((refine Told.t rfl ?_) ); refine AWP.runL e' tab_ok L72 300 rfl (by trivial ) ?_)

      )
    refine AWP.enter e' rfl Tryz.func85 rfl rfl rfl rfl fun cx'' e'' hP'' => ?_
    refine AWP.runL e'' tab_ok L85 300 rfl (by trivial ) ?_
    repeat (
      (refine AWP.askT rfl ?_; (first | (refine Told.t rfl ?_) | (refine Told.f rfl ?_) | (refine Told.t ?_ ?_; (focus assumption)) | (refine Told.f ?_ ?_; (focus assumption)) ); refine AWP.runL e'' tab_ok L85 300 rfl (by first | trivial | (simp [in64] <;> omega)) ?_)

      )
    ( (refine AWP.fin e'' tab_ok rfl ?_)); rw [hP'']; show AWP cx' _ _
    refine AWP.runL e' tab_ok L72 300 rfl (by trivial ) ?_
    repeat (
      (refine AWP.askT rfl ?_; ((refine Told.t rfl ?_) ); refine AWP.runL e' tab_ok L72 300 rfl (by trivial ) ?_)

      )
    ( (refine AWP.fin e' tab_ok rfl ?_)); rw [hP']; show AWP cx _ _
    refine AWP.runL e tab_ok L30 300 rfl (by trivial ) ?_
    refine AWP.keep L30 rfl ?_
    refine AWP.drg 900 ?_
    (refine DrG.runS e tab_ok 200 rfl (by trivial ) ?_)
    repeat (
      (refine DrG.askT rfl ?_; ((refine Told.t rfl ?_) ); (refine DrG.runS e tab_ok 200 rfl (by trivial ) ?_))

      )
    refine DrG.finK e rfl ?_ rfl rfl rfl ?_ ?_
    (focus kernel_rfl)
    (focus (repeat' (first | exact True.intro | (refine And.intro ?_ ?_) | rfl )))
    dsimp only [tmS, hpS, tput, effH]
    refine AWP.runL e tab_ok L30 300 rfl (by trivial ) ?_
    refine AWP.ret e tab_ok rfl ?_
    rw [hP]
    all_goals rfl
  )
set_option maxRecDepth 100000 in
set_option maxHeartbeats 8000000 in
theorem st_ack (f : Frm) (B : List UInt8) (k : Nat) (x : X) (g : List UInt8) (c1 : Eff Tryz.prog 28 [.agg (inS true f B k x g true 1 true)] [] 0 (fun r _ _ => r = .b true)) (hk : k ≤ 1000) :
    Eff Tryz.prog 30 [.agg (inS true f B k x g true 1 true), U 48] [] 0 (fun r _ _ => r = .tup [.agg (inS true f B (k + 1 : Nat) x g true 2 true), .agg ev0, .i 0]) := by
  have c2 := steps_eff
  refine eff_of Tryz.func30 rfl rfl rfl fun cx e hP => ?_
  refine AWP.runL e tab_ok L30 300 rfl (by trivial ) ?_
  repeat (
    first
      | (refine AWP.askT rfl ?_; ( (refine Told.f rfl ?_) ); refine AWP.runL e tab_ok L30 300 rfl (by trivial ) ?_)
      | (refine AWP.callQ e rfl rfl ?_; (first | refine CallQ.mk (c1) rfl rfl ?_); refine AWP.runL e tab_ok L30 300 rfl (by trivial ) ?_)

    )
  refine AWP.drgP 300 rfl rfl (by kernel_rfl) ?_
  (refine DrG.runN e tab_ok 200 rfl (by trivial ) ?_)
  (refine DrG.runS e tab_ok 200 rfl (by trivial ) ?_)
  repeat (
    first
      | (refine DrG.callQ e rfl rfl ?_; (first | refine CallVQ.mk (c2) rfl rfl ?_); (refine DrG.runS e tab_ok 200 rfl (by trivial ) ?_))
      | (refine DrG.v rfl (fun _ => VStep.idx_agg e tab_ok rfl rfl rfl rfl rfl 2 rfl (by decide) rfl) rfl ?_; (refine DrG.runS e tab_ok 200 rfl (by trivial ) ?_))
    )
  refine DrG.finK e rfl ?_ rfl rfl rfl ?_ ?_
  (focus kernel_rfl)
  (focus (repeat' (first | exact True.intro | (refine And.intro ?_ ?_) | rfl )))
  dsimp only [tmS, hpS, tput, effH]
  refine AWP.enter e rfl Tryz.func72 rfl rfl rfl rfl fun cx' e' hP' => ?_
  refine AWP.runL e' tab_ok L72 300 rfl (by trivial ) ?_
  repeat (
    (refine AWP.askT rfl ?_; ((refine Told.t rfl ?_) ); refine AWP.runL e' tab_ok L72 300 rfl (by trivial ) ?_)

    )
  refine AWP.enter e' rfl Tryz.func85 rfl rfl rfl rfl fun cx'' e'' hP'' => ?_
  refine AWP.runL e'' tab_ok L85 300 rfl (by trivial ) ?_
  repeat (
    (refine AWP.askT rfl ?_; (first | (refine Told.t rfl ?_) | (refine Told.f rfl ?_) ); refine AWP.runL e'' tab_ok L85 300 rfl (by first | trivial | (simp [in64] <;> omega)) ?_)

    )
  ( (refine AWP.fin e'' tab_ok rfl ?_)); rw [hP'']; show AWP cx' _ _
  refine AWP.runL e' tab_ok L72 300 rfl (by trivial ) ?_
  repeat (
    (refine AWP.askT rfl ?_; ((refine Told.t rfl ?_) ); refine AWP.runL e' tab_ok L72 300 rfl (by trivial ) ?_)

    )
  ( (refine AWP.fin e' tab_ok rfl ?_)); rw [hP']; show AWP cx _ _
  refine AWP.runL e tab_ok L30 300 rfl (by trivial ) ?_
  refine AWP.keep L30 rfl ?_
  refine AWP.drg 900 ?_
  (refine DrG.runS e tab_ok 200 rfl (by trivial ) ?_)
  repeat (
    (refine DrG.askT rfl ?_; ((refine Told.t rfl ?_) ); (refine DrG.runS e tab_ok 200 rfl (by trivial ) ?_))

    )
  refine DrG.finK e rfl ?_ rfl rfl rfl ?_ ?_
  (focus kernel_rfl)
  (focus (repeat' (first | exact True.intro | (refine And.intro ?_ ?_) | rfl )))
  dsimp only [tmS, hpS, tput, effH]
  refine AWP.runL e tab_ok L30 300 rfl (by trivial ) ?_
  refine AWP.ret e tab_ok rfl ?_
  rw [hP]
  all_goals rfl
set_option maxRecDepth 100000 in
set_option maxHeartbeats 8000000 in
theorem st_end (f : Frm) (B : List UInt8) (k : Nat) (x : X) (g : List UInt8) (c1 : Eff Tryz.prog 28 [.agg (inS true f B k x g true 9 true)] [] 0 (fun r _ _ => r = .b true)) :
    Eff Tryz.prog 30 [.agg (inS true f B k x g true 9 true), U 49] [] 0 (fun r _ _ => r = .tup [.agg (outS false 0 6 0 true false f0), .agg (evS 1 f 0), .i 0]) := by
  have c2 := steps_eff
  have c5 := sent_eff
  have c6 := state_act
  refine eff_of Tryz.func30 rfl rfl rfl fun cx e hP => ?_
  refine AWP.runL e tab_ok L30 300 rfl (by trivial ) ?_
  repeat (
    first
      | (refine AWP.askT rfl ?_; (first | (refine Told.t rfl ?_) | (refine Told.f rfl ?_) ); refine AWP.runL e tab_ok L30 300 rfl (by trivial ) ?_)
      | (refine AWP.callQ e rfl rfl ?_; (first | refine CallQ.mk (c1) rfl rfl ?_); refine AWP.runL e tab_ok L30 300 rfl (by trivial ) ?_)

    )
  refine AWP.drgP 300 rfl rfl (by kernel_rfl) ?_
  (refine DrG.runN e tab_ok 200 rfl (by trivial ) ?_)
  (refine DrG.runS e tab_ok 200 rfl (by trivial ) ?_)
  repeat (
    first
      | (refine DrG.callQ e rfl rfl ?_; (first | refine CallVQ.mk (c2) rfl rfl ?_); (refine DrG.runS e tab_ok 200 rfl (by trivial ) ?_))
      | (refine DrG.v rfl (fun _ => VStep.idx_agg e tab_ok rfl rfl rfl rfl rfl 2 rfl (by decide) rfl) rfl ?_; (refine DrG.runS e tab_ok 200 rfl (by trivial ) ?_))
    )
  refine DrG.finK e rfl ?_ rfl rfl rfl ?_ ?_
  (focus kernel_rfl)
  (focus (repeat' (first | exact True.intro | (refine And.intro ?_ ?_) | rfl )))
  dsimp only [tmS, hpS, tput, effH]
  refine AWP.enter e rfl Tryz.func72 rfl rfl rfl rfl fun cx' e' hP' => ?_
  refine AWP.runL e' tab_ok L72 300 rfl (by trivial ) ?_
  repeat (
    (refine AWP.askT rfl ?_; ((refine Told.t rfl ?_) ); refine AWP.runL e' tab_ok L72 300 rfl (by trivial ) ?_)

    )
  refine AWP.enter e' rfl Tryz.func85 rfl rfl rfl rfl fun cx'' e'' hP'' => ?_
  refine AWP.runL e'' tab_ok L85 300 rfl (by trivial ) ?_
  repeat (
    (refine AWP.askT rfl ?_; (first | (refine Told.t rfl ?_) | (refine Told.f rfl ?_) ); refine AWP.runL e'' tab_ok L85 300 rfl (by trivial ) ?_)

    )
  refine AWP.enter e'' rfl Tryz.func92 rfl rfl rfl rfl fun cx''' e''' hP''' => ?_
  refine AWP.runL e''' tab_ok L92 300 rfl (by trivial ) ?_
  repeat (
    (refine AWP.askT rfl ?_; ((refine Told.t rfl ?_) ); refine AWP.runL e''' tab_ok L92 300 rfl (by trivial ) ?_)

    )
  refine AWP.enter e''' rfl Tryz.func83 rfl rfl rfl rfl fun cx'''' e'''' hP'''' => ?_
  refine AWP.runL e'''' tab_ok L83 300 rfl (by trivial ) ?_
  repeat (
    (refine AWP.askT rfl ?_; ((refine Told.t rfl ?_) ); refine AWP.runL e'''' tab_ok L83 300 rfl (by trivial ) ?_)

    )
  ( (refine AWP.fin e'''' tab_ok rfl ?_)); rw [hP'''']; show AWP cx''' _ _
  refine AWP.runL e''' tab_ok L92 300 rfl (by trivial ) ?_
  repeat (
    (refine AWP.askT rfl ?_; (first | (refine Told.t rfl ?_) | (refine Told.f rfl ?_) ); refine AWP.runL e''' tab_ok L92 300 rfl (by trivial ) ?_)

    )
  refine AWP.enter e''' rfl Tryz.func87 rfl rfl rfl rfl fun cx'''' e'''' hP'''' => ?_
  refine AWP.runL e'''' tab_ok L87 300 rfl (by trivial ) ?_
  repeat (

      (refine AWP.callQ e'''' rfl rfl ?_; (first | refine CallQ.mk (c5) rfl rfl ?_ | refine CallQ.mk (c6) rfl rfl ?_); refine AWP.runL e'''' tab_ok L87 300 rfl (by trivial ) ?_)

    )
  ((refine AWP.ret e'''' tab_ok rfl ?_)); rw [hP'''']; show AWP cx''' _ _
  refine AWP.runL e''' tab_ok L92 300 rfl (by trivial ) ?_
  repeat (
    (refine AWP.askT rfl ?_; ((refine Told.t rfl ?_) ); refine AWP.runL e''' tab_ok L92 300 rfl (by trivial ) ?_)

    )
  ( (refine AWP.fin e''' tab_ok rfl ?_)); rw [hP''']; show AWP cx'' _ _
  refine AWP.runL e'' tab_ok L85 300 rfl (by trivial ) ?_
  repeat (
    (refine AWP.askT rfl ?_; ((refine Told.t rfl ?_) ); refine AWP.runL e'' tab_ok L85 300 rfl (by trivial ) ?_)

    )
  ((refine AWP.ret e'' tab_ok rfl ?_)); rw [hP'']; show AWP cx' _ _
  refine AWP.runL e' tab_ok L72 300 rfl (by trivial ) ?_
  repeat (
    (refine AWP.askT rfl ?_; ((refine Told.t rfl ?_) ); refine AWP.runL e' tab_ok L72 300 rfl (by trivial ) ?_)

    )
  ( (refine AWP.fin e' tab_ok rfl ?_)); rw [hP']; show AWP cx _ _
  refine AWP.runL e tab_ok L30 300 rfl (by trivial ) ?_
  refine AWP.keep L30 rfl ?_
  refine AWP.drg 900 ?_
  (refine DrG.runS e tab_ok 200 rfl (by trivial ) ?_)
  repeat (
    (refine DrG.askT rfl ?_; ((refine Told.t rfl ?_) ); (refine DrG.runS e tab_ok 200 rfl (by trivial ) ?_))

    )
  refine DrG.finK e rfl ?_ rfl rfl rfl ?_ ?_
  (focus kernel_rfl)
  (focus (repeat' (first | exact True.intro | (refine And.intro ?_ ?_) | rfl )))
  dsimp only [tmS, hpS, tput, effH]
  refine AWP.runL e tab_ok L30 300 rfl (by trivial ) ?_
  refine AWP.ret e tab_ok rfl ?_
  rw [hP]
  all_goals rfl
end Go.Proofs.YthdcegeampcalaaGreatDoor
