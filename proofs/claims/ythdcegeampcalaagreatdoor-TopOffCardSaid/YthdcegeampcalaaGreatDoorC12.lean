/-
  What a controller that sends a frame is behind a bit. Condition: what the theorems state ahead.
-/
import Derived.Test.YthdcegeampcalaaGreatDoorC11
open Go Go.Proofs Go.Sy Go.Stuff
namespace Go.Proofs.YthdcegeampcalaaGreatDoor
set_option maxRecDepth 100000 in
set_option maxHeartbeats 16000000 in
theorem se_step (f : Frm) (B : List UInt8) (k : Nat) (x : UInt8) (n : Nat) (c x2 : UInt8) (n2 : Nat) (g g2 : List UInt8) (z1 z2 sz kd : Int)
    (c1 : Eff Tryz.prog 28 [.agg (inS true f B (k : Nat) (x, n) g false 0 false)] [] 0 (fun r _ _ => r = .b true)) (c3 : Eff Tryz.prog 42 [.agg (xC x n), U c] [] 0 (fun r _ _ => r = .tup [.agg (xC x2 n2), .i kd, .i 0]))
    (hk : (kd = 1 ∧ g2 = g ++ [c]) ∨ (kd = 2 ∧ g2 = g)) (hcc : isB c) (c4 : Eff Tryz.prog 44 [.s (strL g2)] [] 0 (fun r _ _ => r = .tup [.i z1, .i z2])) (hz2 : (z2 == 12) = false) (c5 : Eff Tryz.prog 66 [.s (strL g2)] [] 0 (fun r _ _ => r = .i sz)) (hgl : g.length ≤ 1000) (hBk : k < (strL B).size) (hBz : (strL B).size ≤ 1000) (hat : byteAt (strL B) k = (c.toNat : Int))
    (hend : (((strL g2).size : Int) == sz) = false ∨ ((((strL g2).size : Int) == sz) = true ∧ decide ((n2 : Int) < 5) = false)) :
    Eff Tryz.prog 30 [.agg (inS true f B (k : Nat) (x, n) g false 0 false), U c] [] 0 (fun r _ _ => r = .tup [.agg (inS true f B (k + 1 : Nat) (x2, n2) g2 false 0 false), .agg ev0, .i 0]) := by
  have c2 := steps_eff
  have hzg : (strL g).size = g.length := strL_size _
  have hz1 : (strL [c]).size = 1 := rfl
  have hbit : (byteAt (strL B) k != (c.toNat : Int)) = false := by rw [hat]; simp
  rcases hend with h130 | ⟨h130, h138⟩
  all_goals (
    rcases hk with ⟨rfl, hg⟩ | ⟨rfl, rfl⟩
    · have hja : strL g ++ strL [c] = strL g2 := by rw [str_app, hg]
      clear hg
      rcases hcc with rfl | rfl
      all_goals (
        refine eff_of Tryz.func30 rfl rfl rfl fun cx e hP => ?_
        refine AWP.runL e tab_ok L30 300 rfl (by trivial ) ?_
        repeat (
          first
            | (refine AWP.askT rfl ?_; (first | (refine Told.t rfl ?_) | (refine Told.f rfl ?_) ); refine AWP.runL e tab_ok L30 300 rfl (by trivial ) ?_)
            | (refine AWP.callQ e rfl rfl ?_; (first | refine CallQ.mk (c1) rfl rfl ?_); refine AWP.runL e tab_ok L30 300 rfl (by trivial ) ?_)

          )
        refine AWP.drgP 300 rfl rfl (by kernel_rfl) ?_
        (refine DrG.runN e tab_ok 200 rfl (by trivial ) ?_)
        (refine DrG.runS e tab_ok 200 rfl (by trivial ) ?_)
        repeat (
          first
            | (refine DrG.callQ e rfl rfl ?_; (first | refine CallVQ.mk (c2) rfl rfl ?_); (refine DrG.runS e tab_ok 200 rfl (by trivial ) ?_))
            | (refine DrG.v rfl (fun _ => VStep.idx_agg e tab_ok rfl rfl rfl rfl rfl 2 rfl (by decide) rfl) rfl ?_; (refine DrG.runS e tab_ok 200 rfl (by trivial ) ?_))
          )
        refine DrG.finK e rfl ?_ rfl rfl rfl ?_ ?_
        (focus kernel_rfl)
        (focus (repeat' (first | exact True.intro | (refine And.intro ?_ ?_) | rfl )))
        dsimp only [tmS, hpS, tput, effH]
        refine AWP.enter e rfl Tryz.func72 rfl rfl rfl rfl fun cx' e' hP' => ?_
        refine AWP.runL e' tab_ok L72 300 rfl (by trivial ) ?_
        repeat (
          (refine AWP.askT rfl ?_; ( (refine Told.f rfl ?_) ); refine AWP.runL e' tab_ok L72 300 rfl (by trivial ) ?_)

          )
        refine AWP.enter e' rfl Tryz.func86 rfl rfl rfl rfl fun cx'' e'' hP'' => ?_
        refine AWP.runL e'' tab_ok L86 300 rfl (by trivial ) ?_
        repeat (
          first
            | (refine AWP.askT rfl ?_; ( (refine Told.f ?_ ?_; (focus assumption)) ); refine AWP.runL e'' tab_ok L86 300 rfl (by trivial ) ?_)
            | (refine AWP.keep L86 rfl ?_; refine AWP.drg 400 ?_; (refine DrG.runS e'' tab_ok 200 rfl (by trivial ) ?_); (repeat ((refine DrG.askT rfl ?_; ((refine Told.t rfl ?_) ); (refine DrG.runS e'' tab_ok 200 rfl (by  (simp [in64] <;> omega)) ?_)) )); refine DrG.finK e'' rfl ?_ rfl rfl rfl ?_ ?_; (focus kernel_rfl); (focus (repeat' (first | exact True.intro | (refine And.intro ?_ ?_) | rfl ))); dsimp only [tmS, hpS, tput, effH]; refine AWP.runL e'' tab_ok L86 300 rfl (by trivial ) ?_)
          )
        repeat (
          first
            | (refine AWP.askT rfl ?_; (first | (refine Told.t rfl ?_) | (refine Told.f rfl ?_) ); refine AWP.runL e'' tab_ok L86 300 rfl (by trivial ) ?_)
            | (refine AWP.callQ e'' rfl rfl ?_; (first | refine CallQ.mk (c3) rfl rfl ?_); refine AWP.runL e'' tab_ok L86 300 rfl (by trivial ) ?_)

          )
        repeat (

            (refine AWP.keep L86 rfl ?_; refine AWP.drg 500 ?_; (refine DrG.runS e'' tab_ok 200 rfl (by trivial ) ?_); (repeat (first | (refine DrG.bytesStr e'' tab_ok [48] rfl rfl rfl rfl rfl rfl rfl rfl rfl rfl (one_row 48) ?_; (refine DrG.runS e'' tab_ok 200 rfl (by  (simp [in64] <;> omega)) ?_)) | (refine DrG.bytesStr e'' tab_ok [49] rfl rfl rfl rfl rfl rfl rfl rfl rfl rfl (one_row 49) ?_; (refine DrG.runS e'' tab_ok 200 rfl (by  (simp [in64] <;> omega)) ?_)))); refine DrG.finK e'' rfl ?_ rfl rfl rfl ?_ ?_; (focus kernel_rfl); (focus (repeat' (first | exact True.intro | (refine And.intro ?_ ?_) | rfl ))); dsimp only [tmS, hpS, tput, effH]; refine AWP.runL e'' tab_ok L86 300 rfl (by trivial ) ?_)
          )
        refine AWP.eqT 95 (.s (strL g2)) rfl (congrArg SV.s hja) ?_
        refine AWP.eqH 3 (inS true f B (k : Nat) (x2, n2) g2 false 0 false ++ ev0) rfl ?_ ?_
        · rw [hja]; rfl
        refine AWP.keepB [3, 400, 2, 1, 0] rfl ?_
        repeat (
          first
            | (refine AWP.askT rfl ?_; (first | (refine Told.t rfl ?_) | (refine Told.f ?_ ?_; (focus assumption)) ); refine AWP.runL e'' tab_ok L86 300 rfl (by first | trivial | (simp [in64] <;> omega)) ?_)
            | (refine AWP.callQ e'' rfl rfl ?_; (first | refine CallQ.mk (c4) rfl rfl ?_); refine AWP.runL e'' tab_ok L86 300 rfl (by trivial ) ?_)

          )
        repeat (
          first
            | (refine AWP.askT rfl ?_; ( (refine Told.f ?_ ?_; (focus assumption)) ); refine AWP.runL e'' tab_ok L86 300 rfl (by trivial ) ?_)
            | (refine AWP.keep L86 rfl ?_; refine AWP.drg 600 ?_; (refine DrG.runS e'' tab_ok 200 rfl (by trivial ) ?_); (repeat (first | (refine DrG.askT rfl ?_; (first | (refine Told.t ?_ ?_; (focus assumption)) | (refine Told.f ?_ ?_; (focus assumption)) ); (refine DrG.runS e'' tab_ok 200 rfl (by trivial ) ?_)) | (refine DrG.callQ e'' rfl rfl ?_; (first | refine CallVQ.mk (c5) rfl rfl ?_); (refine DrG.runS e'' tab_ok 200 rfl (by trivial ) ?_)) )); refine DrG.finK e'' rfl ?_ rfl rfl rfl ?_ ?_; (focus kernel_rfl); (focus (repeat' (first | exact True.intro | (refine And.intro ?_ ?_) | rfl ))); dsimp only [tmS, hpS, tput, effH]; refine AWP.runL e'' tab_ok L86 300 rfl (by trivial ) ?_)
          )
        repeat (
          (refine AWP.askT rfl ?_; ((refine Told.t rfl ?_) ); refine AWP.runL e'' tab_ok L86 300 rfl (by trivial ) ?_)

          )
        ( (refine AWP.fin e'' tab_ok rfl ?_)); rw [hP'']; show AWP cx' _ _
        refine AWP.runL e' tab_ok L72 300 rfl (by trivial ) ?_
        repeat (
          (refine AWP.askT rfl ?_; ((refine Told.t rfl ?_) ); refine AWP.runL e' tab_ok L72 300 rfl (by trivial ) ?_)

          )
        ( (refine AWP.fin e' tab_ok rfl ?_)); rw [hP']; show AWP cx _ _
        refine AWP.runL e tab_ok L30 300 rfl (by trivial ) ?_
        refine AWP.keep L30 rfl ?_
        refine AWP.drg 900 ?_
        (refine DrG.runS e tab_ok 200 rfl (by trivial ) ?_)
        repeat (
          (refine DrG.askT rfl ?_; ((refine Told.t rfl ?_) ); (refine DrG.runS e tab_ok 200 rfl (by trivial ) ?_))

          )
        refine DrG.finK e rfl ?_ rfl rfl rfl ?_ ?_
        (focus kernel_rfl)
        (focus (repeat' (first | exact True.intro | (refine And.intro ?_ ?_) | rfl )))
        dsimp only [tmS, hpS, tput, effH]
        refine AWP.runL e tab_ok L30 300 rfl (by trivial ) ?_
        refine AWP.ret e tab_ok rfl ?_
        rw [hP]
        all_goals rfl
      )
    · rcases hcc with rfl | rfl
      all_goals (
        refine eff_of Tryz.func30 rfl rfl rfl fun cx e hP => ?_
        refine AWP.runL e tab_ok L30 300 rfl (by trivial ) ?_
        repeat (
          first
            | (refine AWP.askT rfl ?_; (first | (refine Told.t rfl ?_) | (refine Told.f rfl ?_) ); refine AWP.runL e tab_ok L30 300 rfl (by trivial ) ?_)
            | (refine AWP.callQ e rfl rfl ?_; (first | refine CallQ.mk (c1) rfl rfl ?_); refine AWP.runL e tab_ok L30 300 rfl (by trivial ) ?_)

          )
        refine AWP.drgP 300 rfl rfl (by kernel_rfl) ?_
        (refine DrG.runN e tab_ok 200 rfl (by trivial ) ?_)
        (refine DrG.runS e tab_ok 200 rfl (by trivial ) ?_)
        repeat (
          first
            | (refine DrG.callQ e rfl rfl ?_; (first | refine CallVQ.mk (c2) rfl rfl ?_); (refine DrG.runS e tab_ok 200 rfl (by trivial ) ?_))
            | (refine DrG.v rfl (fun _ => VStep.idx_agg e tab_ok rfl rfl rfl rfl rfl 2 rfl (by decide) rfl) rfl ?_; (refine DrG.runS e tab_ok 200 rfl (by trivial ) ?_))
          )
        refine DrG.finK e rfl ?_ rfl rfl rfl ?_ ?_
        (focus kernel_rfl)
        (focus (repeat' (first | exact True.intro | (refine And.intro ?_ ?_) | rfl )))
        dsimp only [tmS, hpS, tput, effH]
        refine AWP.enter e rfl Tryz.func72 rfl rfl rfl rfl fun cx' e' hP' => ?_
        refine AWP.runL e' tab_ok L72 300 rfl (by trivial ) ?_
        repeat (
          (refine AWP.askT rfl ?_; ( (refine Told.f rfl ?_) ); refine AWP.runL e' tab_ok L72 300 rfl (by trivial ) ?_)

          )
        refine AWP.enter e' rfl Tryz.func86 rfl rfl rfl rfl fun cx'' e'' hP'' => ?_
        refine AWP.runL e'' tab_ok L86 300 rfl (by trivial ) ?_
        repeat (
          first
            | (refine AWP.askT rfl ?_; ( (refine Told.f ?_ ?_; (focus assumption)) ); refine AWP.runL e'' tab_ok L86 300 rfl (by trivial ) ?_)
            | (refine AWP.keep L86 rfl ?_; refine AWP.drg 400 ?_; (refine DrG.runS e'' tab_ok 200 rfl (by trivial ) ?_); (repeat ((refine DrG.askT rfl ?_; ((refine Told.t rfl ?_) ); (refine DrG.runS e'' tab_ok 200 rfl (by  (simp [in64] <;> omega)) ?_)) )); refine DrG.finK e'' rfl ?_ rfl rfl rfl ?_ ?_; (focus kernel_rfl); (focus (repeat' (first | exact True.intro | (refine And.intro ?_ ?_) | rfl ))); dsimp only [tmS, hpS, tput, effH]; refine AWP.runL e'' tab_ok L86 300 rfl (by trivial ) ?_)
          )
        repeat (
          first
            | (refine AWP.askT rfl ?_; (first | (refine Told.t rfl ?_) | (refine Told.f rfl ?_) ); refine AWP.runL e'' tab_ok L86 300 rfl (by first | trivial | (simp [in64] <;> omega)) ?_)
            | (refine AWP.callQ e'' rfl rfl ?_; (first | refine CallQ.mk (c3) rfl rfl ?_); refine AWP.runL e'' tab_ok L86 300 rfl (by trivial ) ?_)

          )
        repeat (
          first
            | (refine AWP.askT rfl ?_; ( (refine Told.f ?_ ?_; (focus assumption)) ); refine AWP.runL e'' tab_ok L86 300 rfl (by trivial ) ?_)
            | (refine AWP.keep L86 rfl ?_; refine AWP.drg 600 ?_; (refine DrG.runS e'' tab_ok 200 rfl (by trivial ) ?_); (repeat (first | (refine DrG.askT rfl ?_; (first | (refine Told.t ?_ ?_; (focus assumption)) | (refine Told.f ?_ ?_; (focus assumption)) ); (refine DrG.runS e'' tab_ok 200 rfl (by trivial ) ?_)) | (refine DrG.callQ e'' rfl rfl ?_; (first | refine CallVQ.mk (c5) rfl rfl ?_); (refine DrG.runS e'' tab_ok 200 rfl (by trivial ) ?_)) )); refine DrG.finK e'' rfl ?_ rfl rfl rfl ?_ ?_; (focus kernel_rfl); (focus (repeat' (first | exact True.intro | (refine And.intro ?_ ?_) | rfl ))); dsimp only [tmS, hpS, tput, effH]; refine AWP.runL e'' tab_ok L86 300 rfl (by trivial ) ?_)
          )
        repeat (
          (refine AWP.askT rfl ?_; ((refine Told.t rfl ?_) ); refine AWP.runL e'' tab_ok L86 300 rfl (by trivial ) ?_)

          )
        ( (refine AWP.fin e'' tab_ok rfl ?_)); rw [hP'']; show AWP cx' _ _
        refine AWP.runL e' tab_ok L72 300 rfl (by trivial ) ?_
        repeat (
          (refine AWP.askT rfl ?_; ((refine Told.t rfl ?_) ); refine AWP.runL e' tab_ok L72 300 rfl (by trivial ) ?_)

          )
        ( (refine AWP.fin e' tab_ok rfl ?_)); rw [hP']; show AWP cx _ _
        refine AWP.runL e tab_ok L30 300 rfl (by trivial ) ?_
        refine AWP.keep L30 rfl ?_
        refine AWP.drg 900 ?_
        (refine DrG.runS e tab_ok 200 rfl (by trivial ) ?_)
        repeat (
          (refine DrG.askT rfl ?_; ((refine Told.t rfl ?_) ); (refine DrG.runS e tab_ok 200 rfl (by trivial ) ?_))

          )
        refine DrG.finK e rfl ?_ rfl rfl rfl ?_ ?_
        (focus kernel_rfl)
        (focus (repeat' (first | exact True.intro | (refine And.intro ?_ ?_) | rfl )))
        dsimp only [tmS, hpS, tput, effH]
        refine AWP.runL e tab_ok L30 300 rfl (by trivial ) ?_
        refine AWP.ret e tab_ok rfl ?_
        rw [hP]
        all_goals rfl
      )
  )
set_option maxRecDepth 100000 in
set_option maxHeartbeats 16000000 in
theorem se_end (f : Frm) (B : List UInt8) (k : Nat) (x : UInt8) (n : Nat) (c x2 : UInt8) (n2 : Nat) (g g2 : List UInt8) (z1 z2 sz kd : Int)
    (c1 : Eff Tryz.prog 28 [.agg (inS true f B (k : Nat) (x, n) g false 0 false)] [] 0 (fun r _ _ => r = .b true)) (c3 : Eff Tryz.prog 42 [.agg (xC x n), U c] [] 0 (fun r _ _ => r = .tup [.agg (xC x2 n2), .i kd, .i 0]))
    (hk : (kd = 1 ∧ g2 = g ++ [c]) ∨ (kd = 2 ∧ g2 = g)) (hcc : isB c) (c4 : Eff Tryz.prog 44 [.s (strL g2)] [] 0 (fun r _ _ => r = .tup [.i z1, .i z2])) (hz2 : (z2 == 12) = false) (c5 : Eff Tryz.prog 66 [.s (strL g2)] [] 0 (fun r _ _ => r = .i sz)) (hgl : g.length ≤ 1000) (hBk : k < (strL B).size) (hBz : (strL B).size ≤ 1000) (hat : byteAt (strL B) k = (c.toNat : Int))
    (h1 : (((strL g2).size : Int) == sz) = true) (h2 : decide ((n2 : Int) < 5) = true) (c6 : Eff Tryz.prog 67 [.s (strL g2)] [] 0 (fun r _ _ => r = .b true)) :
    Eff Tryz.prog 30 [.agg (inS true f B (k : Nat) (x, n) g false 0 false), U c] [] 0 (fun r _ _ => r = .tup [.agg (inS true f B (k + 1 : Nat) (x2, n2) g2 true 0 true), .agg ev0, .i 0]) := by
  have c2 := steps_eff
  have hzg : (strL g).size = g.length := strL_size _
  have hz1 : (strL [c]).size = 1 := rfl
  have hbit : (byteAt (strL B) k != (c.toNat : Int)) = false := by rw [hat]; simp
  rcases hk with ⟨rfl, hg⟩ | ⟨rfl, rfl⟩
  · have hja : strL g ++ strL [c] = strL g2 := by rw [str_app, hg]
    clear hg
    rcases hcc with rfl | rfl
    all_goals (
      refine eff_of Tryz.func30 rfl rfl rfl fun cx e hP => ?_
      refine AWP.runL e tab_ok L30 300 rfl (by trivial ) ?_
      repeat (
        first
          | (refine AWP.askT rfl ?_; (first | (refine Told.t rfl ?_) | (refine Told.f rfl ?_) ); refine AWP.runL e tab_ok L30 300 rfl (by trivial ) ?_)
          | (refine AWP.callQ e rfl rfl ?_; (first | refine CallQ.mk (c1) rfl rfl ?_); refine AWP.runL e tab_ok L30 300 rfl (by trivial ) ?_)

        )
      refine AWP.drgP 300 rfl rfl (by kernel_rfl) ?_
      (refine DrG.runN e tab_ok 200 rfl (by trivial ) ?_)
      (refine DrG.runS e tab_ok 200 rfl (by trivial ) ?_)
      repeat (
        first
          | (refine DrG.callQ e rfl rfl ?_; (first | refine CallVQ.mk (c2) rfl rfl ?_); (refine DrG.runS e tab_ok 200 rfl (by trivial ) ?_))
          | (refine DrG.v rfl (fun _ => VStep.idx_agg e tab_ok rfl rfl rfl rfl rfl 2 rfl (by decide) rfl) rfl ?_; (refine DrG.runS e tab_ok 200 rfl (by trivial ) ?_))
        )
      refine DrG.finK e rfl ?_ rfl rfl rfl ?_ ?_
      (focus kernel_rfl)
      (focus (repeat' (first | exact True.intro | (refine And.intro ?_ ?_) | rfl )))
      dsimp only [tmS, hpS, tput, effH]
      refine AWP.enter e rfl Tryz.func72 rfl rfl rfl rfl fun cx' e' hP' => ?_
      refine AWP.runL e' tab_ok L72 300 rfl (by trivial ) ?_
      repeat (
        (refine AWP.askT rfl ?_; ( (refine Told.f rfl ?_) ); refine AWP.runL e' tab_ok L72 300 rfl (by trivial ) ?_)

        )
      refine AWP.enter e' rfl Tryz.func86 rfl rfl rfl rfl fun cx'' e'' hP'' => ?_
      refine AWP.runL e'' tab_ok L86 300 rfl (by trivial ) ?_
      repeat (
        first
          | (refine AWP.askT rfl ?_; ( (refine Told.f ?_ ?_; (focus assumption)) ); refine AWP.runL e'' tab_ok L86 300 rfl (by trivial ) ?_)
          | (refine AWP.keep L86 rfl ?_; refine AWP.drg 400 ?_; (refine DrG.runS e'' tab_ok 200 rfl (by trivial ) ?_); (repeat ((refine DrG.askT rfl ?_; ((refine Told.t rfl ?_) ); (refine DrG.runS e'' tab_ok 200 rfl (by  (simp [in64] <;> omega)) ?_)) )); refine DrG.finK e'' rfl ?_ rfl rfl rfl ?_ ?_; (focus kernel_rfl); (focus (repeat' (first | exact True.intro | (refine And.intro ?_ ?_) | rfl ))); dsimp only [tmS, hpS, tput, effH]; refine AWP.runL e'' tab_ok L86 300 rfl (by trivial ) ?_)
        )
      repeat (
        first
          | (refine AWP.askT rfl ?_; (first | (refine Told.t rfl ?_) | (refine Told.f rfl ?_) ); refine AWP.runL e'' tab_ok L86 300 rfl (by trivial ) ?_)
          | (refine AWP.callQ e'' rfl rfl ?_; (first | refine CallQ.mk (c3) rfl rfl ?_); refine AWP.runL e'' tab_ok L86 300 rfl (by trivial ) ?_)

        )
      repeat (

          (refine AWP.keep L86 rfl ?_; refine AWP.drg 500 ?_; (refine DrG.runS e'' tab_ok 200 rfl (by trivial ) ?_); (repeat (first | (refine DrG.bytesStr e'' tab_ok [48] rfl rfl rfl rfl rfl rfl rfl rfl rfl rfl (one_row 48) ?_; (refine DrG.runS e'' tab_ok 200 rfl (by  (simp [in64] <;> omega)) ?_)) | (refine DrG.bytesStr e'' tab_ok [49] rfl rfl rfl rfl rfl rfl rfl rfl rfl rfl (one_row 49) ?_; (refine DrG.runS e'' tab_ok 200 rfl (by  (simp [in64] <;> omega)) ?_)))); refine DrG.finK e'' rfl ?_ rfl rfl rfl ?_ ?_; (focus kernel_rfl); (focus (repeat' (first | exact True.intro | (refine And.intro ?_ ?_) | rfl ))); dsimp only [tmS, hpS, tput, effH]; refine AWP.runL e'' tab_ok L86 300 rfl (by trivial ) ?_)
        )
      refine AWP.eqT 95 (.s (strL g2)) rfl (congrArg SV.s hja) ?_
      refine AWP.eqH 3 (inS true f B (k : Nat) (x2, n2) g2 false 0 false ++ ev0) rfl ?_ ?_
      · rw [hja]; rfl
      refine AWP.keepB [3, 400, 2, 1, 0] rfl ?_
      repeat (
        first
          | (refine AWP.askT rfl ?_; (first | (refine Told.t rfl ?_) | (refine Told.f ?_ ?_; (focus assumption)) ); refine AWP.runL e'' tab_ok L86 300 rfl (by first | trivial | (simp [in64] <;> omega)) ?_)
          | (refine AWP.callQ e'' rfl rfl ?_; (first | refine CallQ.mk (c4) rfl rfl ?_); refine AWP.runL e'' tab_ok L86 300 rfl (by trivial ) ?_)

        )
      repeat (
        first
          | (refine AWP.askT rfl ?_; ( (refine Told.t ?_ ?_; (focus assumption)) ); refine AWP.runL e'' tab_ok L86 300 rfl (by trivial ) ?_)
          | (refine AWP.keep L86 rfl ?_; refine AWP.drg 600 ?_; (refine DrG.runS e'' tab_ok 200 rfl (by trivial ) ?_); (repeat (first | (refine DrG.askT rfl ?_; ( (refine Told.t ?_ ?_; (focus assumption)) ); (refine DrG.runS e'' tab_ok 200 rfl (by trivial ) ?_)) | (refine DrG.callQ e'' rfl rfl ?_; (first | refine CallVQ.mk (c5) rfl rfl ?_); (refine DrG.runS e'' tab_ok 200 rfl (by trivial ) ?_)) )); refine DrG.finK e'' rfl ?_ rfl rfl rfl ?_ ?_; (focus kernel_rfl); (focus (repeat' (first | exact True.intro | (refine And.intro ?_ ?_) | rfl ))); dsimp only [tmS, hpS, tput, effH]; refine AWP.runL e'' tab_ok L86 300 rfl (by trivial ) ?_)
        )
      repeat (

          (refine AWP.callQ e'' rfl rfl ?_; (first | refine CallQ.mk (c6) rfl rfl ?_); refine AWP.runL e'' tab_ok L86 300 rfl (by trivial ) ?_)

        )
      ( (refine AWP.fin e'' tab_ok rfl ?_)); rw [hP'']; show AWP cx' _ _
      refine AWP.runL e' tab_ok L72 300 rfl (by trivial ) ?_
      repeat (
        (refine AWP.askT rfl ?_; ((refine Told.t rfl ?_) ); refine AWP.runL e' tab_ok L72 300 rfl (by trivial ) ?_)

        )
      ( (refine AWP.fin e' tab_ok rfl ?_)); rw [hP']; show AWP cx _ _
      refine AWP.runL e tab_ok L30 300 rfl (by trivial ) ?_
      refine AWP.keep L30 rfl ?_
      refine AWP.drg 900 ?_
      (refine DrG.runS e tab_ok 200 rfl (by trivial ) ?_)
      repeat (
        (refine DrG.askT rfl ?_; ((refine Told.t rfl ?_) ); (refine DrG.runS e tab_ok 200 rfl (by trivial ) ?_))

        )
      refine DrG.finK e rfl ?_ rfl rfl rfl ?_ ?_
      (focus kernel_rfl)
      (focus (repeat' (first | exact True.intro | (refine And.intro ?_ ?_) | rfl )))
      dsimp only [tmS, hpS, tput, effH]
      refine AWP.runL e tab_ok L30 300 rfl (by trivial ) ?_
      refine AWP.ret e tab_ok rfl ?_
      rw [hP]
      all_goals rfl
    )
  · rcases hcc with rfl | rfl
    all_goals (
      refine eff_of Tryz.func30 rfl rfl rfl fun cx e hP => ?_
      refine AWP.runL e tab_ok L30 300 rfl (by trivial ) ?_
      repeat (
        first
          | (refine AWP.askT rfl ?_; (first | (refine Told.t rfl ?_) | (refine Told.f rfl ?_) ); refine AWP.runL e tab_ok L30 300 rfl (by trivial ) ?_)
          | (refine AWP.callQ e rfl rfl ?_; (first | refine CallQ.mk (c1) rfl rfl ?_); refine AWP.runL e tab_ok L30 300 rfl (by trivial ) ?_)

        )
      refine AWP.drgP 300 rfl rfl (by kernel_rfl) ?_
      (refine DrG.runN e tab_ok 200 rfl (by trivial ) ?_)
      (refine DrG.runS e tab_ok 200 rfl (by trivial ) ?_)
      repeat (
        first
          | (refine DrG.callQ e rfl rfl ?_; (first | refine CallVQ.mk (c2) rfl rfl ?_); (refine DrG.runS e tab_ok 200 rfl (by trivial ) ?_))
          | (refine DrG.v rfl (fun _ => VStep.idx_agg e tab_ok rfl rfl rfl rfl rfl 2 rfl (by decide) rfl) rfl ?_; (refine DrG.runS e tab_ok 200 rfl (by trivial ) ?_))
        )
      refine DrG.finK e rfl ?_ rfl rfl rfl ?_ ?_
      (focus kernel_rfl)
      (focus (repeat' (first | exact True.intro | (refine And.intro ?_ ?_) | rfl )))
      dsimp only [tmS, hpS, tput, effH]
      refine AWP.enter e rfl Tryz.func72 rfl rfl rfl rfl fun cx' e' hP' => ?_
      refine AWP.runL e' tab_ok L72 300 rfl (by trivial ) ?_
      repeat (
        (refine AWP.askT rfl ?_; ( (refine Told.f rfl ?_) ); refine AWP.runL e' tab_ok L72 300 rfl (by trivial ) ?_)

        )
      refine AWP.enter e' rfl Tryz.func86 rfl rfl rfl rfl fun cx'' e'' hP'' => ?_
      refine AWP.runL e'' tab_ok L86 300 rfl (by trivial ) ?_
      repeat (
        first
          | (refine AWP.askT rfl ?_; ( (refine Told.f ?_ ?_; (focus assumption)) ); refine AWP.runL e'' tab_ok L86 300 rfl (by trivial ) ?_)
          | (refine AWP.keep L86 rfl ?_; refine AWP.drg 400 ?_; (refine DrG.runS e'' tab_ok 200 rfl (by trivial ) ?_); (repeat ((refine DrG.askT rfl ?_; ((refine Told.t rfl ?_) ); (refine DrG.runS e'' tab_ok 200 rfl (by  (simp [in64] <;> omega)) ?_)) )); refine DrG.finK e'' rfl ?_ rfl rfl rfl ?_ ?_; (focus kernel_rfl); (focus (repeat' (first | exact True.intro | (refine And.intro ?_ ?_) | rfl ))); dsimp only [tmS, hpS, tput, effH]; refine AWP.runL e'' tab_ok L86 300 rfl (by trivial ) ?_)
        )
      repeat (
        first
          | (refine AWP.askT rfl ?_; (first | (refine Told.t rfl ?_) | (refine Told.f rfl ?_) ); refine AWP.runL e'' tab_ok L86 300 rfl (by first | trivial | (simp [in64] <;> omega)) ?_)
          | (refine AWP.callQ e'' rfl rfl ?_; (first | refine CallQ.mk (c3) rfl rfl ?_); refine AWP.runL e'' tab_ok L86 300 rfl (by trivial ) ?_)

        )
      repeat (
        first
          | (refine AWP.askT rfl ?_; ( (refine Told.t ?_ ?_; (focus assumption)) ); refine AWP.runL e'' tab_ok L86 300 rfl (by trivial ) ?_)
          | (refine AWP.keep L86 rfl ?_; refine AWP.drg 600 ?_; (refine DrG.runS e'' tab_ok 200 rfl (by trivial ) ?_); (repeat (first | (refine DrG.askT rfl ?_; ( (refine Told.t ?_ ?_; (focus assumption)) ); (refine DrG.runS e'' tab_ok 200 rfl (by trivial ) ?_)) | (refine DrG.callQ e'' rfl rfl ?_; (first | refine CallVQ.mk (c5) rfl rfl ?_); (refine DrG.runS e'' tab_ok 200 rfl (by trivial ) ?_)) )); refine DrG.finK e'' rfl ?_ rfl rfl rfl ?_ ?_; (focus kernel_rfl); (focus (repeat' (first | exact True.intro | (refine And.intro ?_ ?_) | rfl ))); dsimp only [tmS, hpS, tput, effH]; refine AWP.runL e'' tab_ok L86 300 rfl (by trivial ) ?_)
        )
      repeat (

          (refine AWP.callQ e'' rfl rfl ?_; (first | refine CallQ.mk (c6) rfl rfl ?_); refine AWP.runL e'' tab_ok L86 300 rfl (by trivial ) ?_)

        )
      ( (refine AWP.fin e'' tab_ok rfl ?_)); rw [hP'']; show AWP cx' _ _
      refine AWP.runL e' tab_ok L72 300 rfl (by trivial ) ?_
      repeat (
        (refine AWP.askT rfl ?_; ((refine Told.t rfl ?_) ); refine AWP.runL e' tab_ok L72 300 rfl (by trivial ) ?_)

        )
      ( (refine AWP.fin e' tab_ok rfl ?_)); rw [hP']; show AWP cx _ _
      refine AWP.runL e tab_ok L30 300 rfl (by trivial ) ?_
      refine AWP.keep L30 rfl ?_
      refine AWP.drg 900 ?_
      (refine DrG.runS e tab_ok 200 rfl (by trivial ) ?_)
      repeat (
        (refine DrG.askT rfl ?_; ((refine Told.t rfl ?_) ); (refine DrG.runS e tab_ok 200 rfl (by trivial ) ?_))

        )
      refine DrG.finK e rfl ?_ rfl rfl rfl ?_ ?_
      (focus kernel_rfl)
      (focus (repeat' (first | exact True.intro | (refine And.intro ?_ ?_) | rfl )))
      dsimp only [tmS, hpS, tput, effH]
      refine AWP.runL e tab_ok L30 300 rfl (by trivial ) ?_
      refine AWP.ret e tab_ok rfl ?_
      rw [hP]
      all_goals rfl
    )
end Go.Proofs.YthdcegeampcalaaGreatDoor
