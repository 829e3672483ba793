import Derived.Test.YtaiejjfikdpccaaEd
import Derived.Test.YtaiejjfikdpccaaL
import Derived.Test.YtaiejjfikdpccaaProg
open Go Go.Proofs Go.Sy
namespace Go.Proofs.Ytaiejjfikdpccaa
def tab : Tab := [
  (3, ⟨.int .i64, 1, 8, [.v (.int .i64 0)]⟩),
  (4, ⟨.bool, 1, 1, [.v (.bool false)]⟩),
  (23, ⟨.struct [(3, 0), (3, 1), (3, 2), (3, 3), (3, 4)], 5, 40, [.v (.int .i64 0), .v (.int .i64 0), .v (.int .i64 0), .v (.int .i64 0), .v (.int .i64 0)]⟩),
  (25, ⟨.struct [(23, 0), (23, 5), (4, 10), (3, 11), (3, 12), (3, 13), (3, 14), (3, 15), (4, 16)], 17, 136, [.v (.int .i64 0), .v (.int .i64 0), .v (.int .i64 0), .v (.int .i64 0), .v (.int .i64 0), .v (.int .i64 0), .v (.int .i64 0), .v (.int .i64 0), .v (.int .i64 0), .v (.int .i64 0), .v (.bool false), .v (.int .i64 0), .v (.int .i64 0), .v (.int .i64 0), .v (.int .i64 0), .v (.int .i64 0), .v (.bool false)]⟩),
  (26, ⟨.slice 3, 1, 24, [.nil]⟩),
  (27, ⟨.int .i64, 1, 8, [.v (.int .i64 0)]⟩),
  (30, ⟨.oth, 1, 8, [.v .nilFunc]⟩),
  (40, ⟨.slice 42, 1, 24, [.nil]⟩),
  (42, ⟨.struct [(4, 0), (4, 1), (4, 2), (3, 3)], 4, 16, [.v (.bool false), .v (.bool false), .v (.bool false), .v (.int .i64 0)]⟩),
  (46, ⟨.ptr 48, 1, 8, [.v (.pointer none)]⟩),
  (48, ⟨.struct [(25, 0)], 17, 136, [.v (.int .i64 0), .v (.int .i64 0), .v (.int .i64 0), .v (.int .i64 0), .v (.int .i64 0), .v (.int .i64 0), .v (.int .i64 0), .v (.int .i64 0), .v (.int .i64 0), .v (.int .i64 0), .v (.bool false), .v (.int .i64 0), .v (.int .i64 0), .v (.int .i64 0), .v (.int .i64 0), .v (.int .i64 0), .v (.bool false)]⟩),
  (50, ⟨.slice 30, 1, 24, [.nil]⟩)]
theorem tab_ok : TabOk Try.prog tab := tabChk_ok (by kernel_rfl)

structure WV where
  kind : Int
  first : Int
  per : Int
  reps : Int
  gap : Int
structure SE where
  t : WV
  f : WV
  on : Bool
  delay : Int
  period : Int
  gap : Int
  left : Int
  hold : Int
  asked : Bool
abbrev wC (w : WV) : List SV := [.i w.kind, .i w.first, .i w.per, .i w.reps, .i w.gap]
abbrev sC (s : SE) : List SV := [.i s.t.kind, .i s.t.first, .i s.t.per, .i s.t.reps, .i s.t.gap, .i s.f.kind, .i s.f.first, .i s.f.per, .i s.f.reps, .i s.f.gap, .b s.on, .i s.delay, .i s.period, .i s.gap, .i s.left, .i s.hold, .b s.asked]
theorem cases_b (b : Bool) : b = true ∨ b = false := by cases b <;> simp

def inB (n a b : Int) : Bool := decide (n ≥ a) && decide (n ≤ b)
theorem inB_t {n a b : Int} : inB n a b = true ↔ a ≤ n ∧ n ≤ b := by unfold inB; simp
theorem inB_f {n a b : Int} : inB n a b = false ↔ n < a ∨ b < n := by unfold inB; simp; omega
def perB (w : WV) : Bool := (w.kind == 2) || (w.kind == 3)
def dirB (w : WV) : Bool := (w.kind == 1) || (w.kind == 3)
def wayB (w : WV) : Bool := inB w.kind 0 3 && (inB w.first 0 1000000 && (inB w.per 0 1000000 && (inB w.reps 0 100 && (inB w.gap 0 1000000 && ((!perB w || decide (w.per > 0)) && ((w.reps == 0) || decide (w.gap > 0)))))))
def SE.way (s : SE) : WV := if s.on then s.t else s.f
def mx (a b : Int) : Int := if b > a then b else a
def leastP (w : WV) : Int := if perB w then 1 else 0
def topP (w : WV) : Int := if perB w then mx (mx w.first w.per) 1 else 0
def repsD (w : WV) : Int := if dirB w then w.reps else 0
def rightB (s : SE) : Bool := wayB s.t && (wayB s.f && (inB s.delay 0 1000000 && (inB s.hold 0 s.delay && (inB s.period (leastP s.way) (topP s.way) && (inB s.left 0 (repsD s.way) && (if s.left > 0 then inB s.gap 1 s.way.gap else s.gap == 0))))))

set_option maxRecDepth 100000 in
theorem within_eff (n a b : Int) : Eff Try.prog 15 [.i n, .i a, .i b] [] 0 (fun r _ _ => r = .b (inB n a b)) := by
  refine eff_of Try.func15 rfl rfl rfl fun cx e hP => ?_
  unfold inB at hP
  rcases cases_b (decide (n ≥ a)) with h | h <;> rw [h] at hP
  · refine AWP.runL e tab_ok L15 300 rfl (by first | trivial | (simp [in64] <;> omega)) ?_
    repeat (
      first
        | (refine AWP.askT rfl ?_; (first | (refine Told.t rfl ?_) | (refine Told.f rfl ?_) | (refine Told.t ?_ ?_; (focus assumption)) | (refine Told.f ?_ ?_; (focus assumption)) | (refine Told.t ?_ ?_; (focus (first | (simp; omega) | (simp [*]; done)); done)) | (refine Told.f ?_ ?_; (focus (first | (simp; omega) | (simp [*]; done)); done))); refine AWP.runL e tab_ok L15 300 rfl (by first | trivial | (simp [in64] <;> omega)) ?_)
        | (refine AWP.eq_agg e tab_ok rfl rfl rfl (.inl ⟨rfl, rfl⟩) ?_ 5 (by omega) rfl ?_ rfl rfl rfl rfl rfl rfl rfl ?_; (focus kernel_rfl); (focus kernel_rfl); refine AWP.runL e tab_ok L15 300 rfl (by first | trivial | (simp [in64] <;> omega)) ?_)
        | (refine AWP.eq_agg e tab_ok rfl rfl rfl (.inr ⟨rfl, rfl⟩) ?_ 5 (by omega) rfl ?_ rfl rfl rfl rfl rfl rfl rfl ?_; (focus kernel_rfl); (focus kernel_rfl); refine AWP.runL e tab_ok L15 300 rfl (by first | trivial | (simp [in64] <;> omega)) ?_)
      )
    refine AWP.ret e tab_ok rfl ?_
    rw [hP]
    all_goals first | rfl | (simp [strip]; done)
  · refine AWP.runL e tab_ok L15 300 rfl (by first | trivial | (simp [in64] <;> omega)) ?_
    repeat (
      first
        | (refine AWP.askT rfl ?_; (first | (refine Told.t rfl ?_) | (refine Told.f rfl ?_) | (refine Told.t ?_ ?_; (focus assumption)) | (refine Told.f ?_ ?_; (focus assumption)) | (refine Told.t ?_ ?_; (focus (first | (simp; omega) | (simp [*]; done)); done)) | (refine Told.f ?_ ?_; (focus (first | (simp; omega) | (simp [*]; done)); done))); refine AWP.runL e tab_ok L15 300 rfl (by first | trivial | (simp [in64] <;> omega)) ?_)
        | (refine AWP.eq_agg e tab_ok rfl rfl rfl (.inl ⟨rfl, rfl⟩) ?_ 5 (by omega) rfl ?_ rfl rfl rfl rfl rfl rfl rfl ?_; (focus kernel_rfl); (focus kernel_rfl); refine AWP.runL e tab_ok L15 300 rfl (by first | trivial | (simp [in64] <;> omega)) ?_)
        | (refine AWP.eq_agg e tab_ok rfl rfl rfl (.inr ⟨rfl, rfl⟩) ?_ 5 (by omega) rfl ?_ rfl rfl rfl rfl rfl rfl rfl ?_; (focus kernel_rfl); (focus kernel_rfl); refine AWP.runL e tab_ok L15 300 rfl (by first | trivial | (simp [in64] <;> omega)) ?_)
      )
    refine AWP.ret e tab_ok rfl ?_
    rw [hP]
    all_goals first | rfl | (simp [strip]; done)
set_option maxRecDepth 100000 in
theorem direct_eff (w : WV) : Eff Try.prog 20 [.agg (wC w)] [] 0 (fun r _ _ => r = .b (dirB w)) := by
  refine eff_of Try.func20 rfl rfl rfl fun cx e hP => ?_
  unfold dirB at hP
  rcases cases_b (w.kind == 1) with h | h <;> rw [h] at hP
  · refine AWP.runL e tab_ok L20 300 rfl (by first | trivial | (simp [in64] <;> omega)) ?_
    repeat (
      first
        | (refine AWP.askT rfl ?_; (first | (refine Told.t rfl ?_) | (refine Told.f rfl ?_) | (refine Told.t ?_ ?_; (focus assumption)) | (refine Told.f ?_ ?_; (focus assumption)) | (refine Told.t ?_ ?_; (focus (first | (simp; omega) | (simp [*]; done)); done)) | (refine Told.f ?_ ?_; (focus (first | (simp; omega) | (simp [*]; done)); done))); refine AWP.runL e tab_ok L20 300 rfl (by first | trivial | (simp [in64] <;> omega)) ?_)
        | (refine AWP.eq_agg e tab_ok rfl rfl rfl (.inl ⟨rfl, rfl⟩) ?_ 5 (by omega) rfl ?_ rfl rfl rfl rfl rfl rfl rfl ?_; (focus kernel_rfl); (focus kernel_rfl); refine AWP.runL e tab_ok L20 300 rfl (by first | trivial | (simp [in64] <;> omega)) ?_)
        | (refine AWP.eq_agg e tab_ok rfl rfl rfl (.inr ⟨rfl, rfl⟩) ?_ 5 (by omega) rfl ?_ rfl rfl rfl rfl rfl rfl rfl ?_; (focus kernel_rfl); (focus kernel_rfl); refine AWP.runL e tab_ok L20 300 rfl (by first | trivial | (simp [in64] <;> omega)) ?_)
      )
    refine AWP.ret e tab_ok rfl ?_
    rw [hP]
    all_goals first | rfl | (simp [strip]; done)
  · refine AWP.runL e tab_ok L20 300 rfl (by first | trivial | (simp [in64] <;> omega)) ?_
    repeat (
      first
        | (refine AWP.askT rfl ?_; (first | (refine Told.t rfl ?_) | (refine Told.f rfl ?_) | (refine Told.t ?_ ?_; (focus assumption)) | (refine Told.f ?_ ?_; (focus assumption)) | (refine Told.t ?_ ?_; (focus (first | (simp; omega) | (simp [*]; done)); done)) | (refine Told.f ?_ ?_; (focus (first | (simp; omega) | (simp [*]; done)); done))); refine AWP.runL e tab_ok L20 300 rfl (by first | trivial | (simp [in64] <;> omega)) ?_)
        | (refine AWP.eq_agg e tab_ok rfl rfl rfl (.inl ⟨rfl, rfl⟩) ?_ 5 (by omega) rfl ?_ rfl rfl rfl rfl rfl rfl rfl ?_; (focus kernel_rfl); (focus kernel_rfl); refine AWP.runL e tab_ok L20 300 rfl (by first | trivial | (simp [in64] <;> omega)) ?_)
        | (refine AWP.eq_agg e tab_ok rfl rfl rfl (.inr ⟨rfl, rfl⟩) ?_ 5 (by omega) rfl ?_ rfl rfl rfl rfl rfl rfl rfl ?_; (focus kernel_rfl); (focus kernel_rfl); refine AWP.runL e tab_ok L20 300 rfl (by first | trivial | (simp [in64] <;> omega)) ?_)
      )
    refine AWP.ret e tab_ok rfl ?_
    rw [hP]
    all_goals first | rfl | (simp [strip]; done)
set_option maxRecDepth 100000 in
theorem periodic_eff (w : WV) : Eff Try.prog 21 [.agg (wC w)] [] 0 (fun r _ _ => r = .b (perB w)) := by
  refine eff_of Try.func21 rfl rfl rfl fun cx e hP => ?_
  unfold perB at hP
  rcases cases_b (w.kind == 2) with h | h <;> rw [h] at hP
  · refine AWP.runL e tab_ok L21 300 rfl (by first | trivial | (simp [in64] <;> omega)) ?_
    repeat (
      first
        | (refine AWP.askT rfl ?_; (first | (refine Told.t rfl ?_) | (refine Told.f rfl ?_) | (refine Told.t ?_ ?_; (focus assumption)) | (refine Told.f ?_ ?_; (focus assumption)) | (refine Told.t ?_ ?_; (focus (first | (simp; omega) | (simp [*]; done)); done)) | (refine Told.f ?_ ?_; (focus (first | (simp; omega) | (simp [*]; done)); done))); refine AWP.runL e tab_ok L21 300 rfl (by first | trivial | (simp [in64] <;> omega)) ?_)
        | (refine AWP.eq_agg e tab_ok rfl rfl rfl (.inl ⟨rfl, rfl⟩) ?_ 5 (by omega) rfl ?_ rfl rfl rfl rfl rfl rfl rfl ?_; (focus kernel_rfl); (focus kernel_rfl); refine AWP.runL e tab_ok L21 300 rfl (by first | trivial | (simp [in64] <;> omega)) ?_)
        | (refine AWP.eq_agg e tab_ok rfl rfl rfl (.inr ⟨rfl, rfl⟩) ?_ 5 (by omega) rfl ?_ rfl rfl rfl rfl rfl rfl rfl ?_; (focus kernel_rfl); (focus kernel_rfl); refine AWP.runL e tab_ok L21 300 rfl (by first | trivial | (simp [in64] <;> omega)) ?_)
      )
    refine AWP.ret e tab_ok rfl ?_
    rw [hP]
    all_goals first | rfl | (simp [strip]; done)
  · refine AWP.runL e tab_ok L21 300 rfl (by first | trivial | (simp [in64] <;> omega)) ?_
    repeat (
      first
        | (refine AWP.askT rfl ?_; (first | (refine Told.t rfl ?_) | (refine Told.f rfl ?_) | (refine Told.t ?_ ?_; (focus assumption)) | (refine Told.f ?_ ?_; (focus assumption)) | (refine Told.t ?_ ?_; (focus (first | (simp; omega) | (simp [*]; done)); done)) | (refine Told.f ?_ ?_; (focus (first | (simp; omega) | (simp [*]; done)); done))); refine AWP.runL e tab_ok L21 300 rfl (by first | trivial | (simp [in64] <;> omega)) ?_)
        | (refine AWP.eq_agg e tab_ok rfl rfl rfl (.inl ⟨rfl, rfl⟩) ?_ 5 (by omega) rfl ?_ rfl rfl rfl rfl rfl rfl rfl ?_; (focus kernel_rfl); (focus kernel_rfl); refine AWP.runL e tab_ok L21 300 rfl (by first | trivial | (simp [in64] <;> omega)) ?_)
        | (refine AWP.eq_agg e tab_ok rfl rfl rfl (.inr ⟨rfl, rfl⟩) ?_ 5 (by omega) rfl ?_ rfl rfl rfl rfl rfl rfl rfl ?_; (focus kernel_rfl); (focus kernel_rfl); refine AWP.runL e tab_ok L21 300 rfl (by first | trivial | (simp [in64] <;> omega)) ?_)
      )
    refine AWP.ret e tab_ok rfl ?_
    rw [hP]
    all_goals first | rfl | (simp [strip]; done)
end Go.Proofs.Ytaiejjfikdpccaa
