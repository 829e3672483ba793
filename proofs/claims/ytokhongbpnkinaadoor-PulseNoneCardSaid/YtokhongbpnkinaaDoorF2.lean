import Derived.Test.YtokhongbpnkinaaDoorF1
open Go Go.Proofs Go.Sy Go.Pulse
namespace Go.Proofs.YtokhongbpnkinaaDoor

def pC (mn mx : Int) (x : X) : List SV := [.i mn, .i mx, .i x.1, .i x.2.1, .i x.2.2]
set_option maxRecDepth 100000 in
set_option maxHeartbeats 1000000 in
theorem pright_eff (mn mx : Int) (x : X) : Eff Tryd.prog 10 [.agg (pC mn mx x)] [] 0 (fun r _ _ => r = .b (rightP mn mx x)) := by
  obtain ⟨st, n, ag⟩ := x
  unfold pC
  dsimp only
  refine eff_of Tryd.func10 rfl rfl rfl fun cx e hP => ?_
  refine AWP.runL e tab_ok L10 300 rfl (by first | trivial | (simp [in64] <;> omega) | (simp only [in64, true_and, and_true]; omega)) ?_
  repeat' (
    first
      | (refine AWP.ret e tab_ok rfl ?_; rw [hP])
      | (refine AWP.fin e tab_ok rfl ?_; rw [hP])
      | (first
        | (refine AWP.askT rfl ?_; (first | (refine Told.t rfl ?_) | (refine Told.f rfl ?_) | (refine Told.t ?_ ?_; (focus assumption)) | (refine Told.f ?_ ?_; (focus assumption)) | (refine Told.t ?_ ?_; (focus (first | (simp; omega) | (simp [*]; done)); done)) | (refine Told.f ?_ ?_; (focus (first | (simp; omega) | (simp [*]; done)); done)) | (refine Told.both (fun h => ?_) (fun h => ?_) <;> (try simp only [decide_eq_true_eq, decide_eq_false_iff_not] at h))))) <;>
        refine AWP.runL e tab_ok L10 300 rfl (by first | trivial | (simp [in64] <;> omega) | (simp only [in64, true_and, and_true]; omega)) ?_
    )
  all_goals (first | rfl | (first | refine congrArg SV.b ?_ | skip); (try rw [Bool.eq_iff_iff]); simp only [decide_eq_true_eq, beq_iff_eq, Bool.false_eq_true, true_iff, false_iff, rightP] at *; omega)
set_option maxRecDepth 100000 in
set_option maxHeartbeats 1000000 in
theorem prefright_eff (mn mx : Int) (x : X) : Eff Tryd.prog 9 [.agg (pC mn mx x)] [] 0 (fun r _ _ => r = .b (rightP mn mx x)) := by
  obtain ⟨st, n, ag⟩ := x
  unfold pC
  dsimp only
  refine eff_of Tryd.func9 rfl rfl rfl fun cx e hP => ?_
  refine AWP.runL e tab_ok L9 300 rfl (by first | trivial | (simp [in64] <;> omega) | (simp only [in64, true_and, and_true]; omega)) ?_
  repeat' (
    first
      | (refine AWP.ret e tab_ok rfl ?_; rw [hP])
      | (refine AWP.fin e tab_ok rfl ?_; rw [hP])
      | (first
        | (refine AWP.askT rfl ?_; (first | (refine Told.t rfl ?_) | (refine Told.f rfl ?_) | (refine Told.t ?_ ?_; (focus assumption)) | (refine Told.f ?_ ?_; (focus assumption)) | (refine Told.t ?_ ?_; (focus (first | (simp; omega) | (simp [*]; done)); done)) | (refine Told.f ?_ ?_; (focus (first | (simp; omega) | (simp [*]; done)); done)) | (refine Told.both (fun h => ?_) (fun h => ?_) <;> (try simp only [decide_eq_true_eq, decide_eq_false_iff_not, beq_iff_eq, beq_eq_false_iff_ne, ne_eq] at h))))) <;>
        refine AWP.runL e tab_ok L9 300 rfl (by first | trivial | (simp [in64] <;> omega) | (simp only [in64, true_and, and_true]; omega)) ?_
    )
  all_goals (first | rfl | (first | refine congrArg SV.b ?_ | skip); (try rw [Bool.eq_iff_iff]); simp only [decide_eq_true_eq, beq_iff_eq, Bool.false_eq_true, false_iff, rightP] at *; omega)
set_option maxRecDepth 100000 in
theorem looks_eff : Eff Tryd.prog 26 [] [] 0 (fun r _ _ => r = .agg [.d (.v (.int .u8 48)), .d (.v (.int .u8 49)), .d (.v (.int .u8 48))]) := by
  refine eff_of Tryd.func26 rfl rfl rfl fun cx e hP => ?_
  refine AWP.runL e tab_ok L26 300 rfl (by first | trivial | (simp [in64] <;> omega) | (simp only [in64, true_and, and_true]; omega)) ?_
  refine AWP.ret e tab_ok rfl ?_
  rw [hP]
  all_goals first | rfl | (simp [strip]; done)
end Go.Proofs.YtokhongbpnkinaaDoor
