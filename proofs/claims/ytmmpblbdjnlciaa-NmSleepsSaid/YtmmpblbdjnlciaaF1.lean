import Derived.Test.YtmmpblbdjnlciaaSyE
import Derived.Test.YtmmpblbdjnlciaaL
import Derived.Test.YtmmpblbdjnlciaaProg
open Go Go.Proofs Go.Sy
namespace Go.Proofs.Ytmmpblbdjnlciaa
def tab : Tab := [
  (3, ⟨.int .i64, 1, 8, [.v (.int .i64 0)]⟩),
  (4, ⟨.bool, 1, 1, [.v (.bool false)]⟩),
  (24, ⟨.struct [(3, 0), (4, 1), (3, 2), (3, 3), (3, 4), (3, 5), (3, 6), (3, 7), (3, 8), (3, 9)], 10, 80, [.v (.int .i64 0), .v (.bool false), .v (.int .i64 0), .v (.int .i64 0), .v (.int .i64 0), .v (.int .i64 0), .v (.int .i64 0), .v (.int .i64 0), .v (.int .i64 0), .v (.int .i64 0)]⟩),
  (25, ⟨.int .i64, 1, 8, [.v (.int .i64 0)]⟩),
  (36, ⟨.slice 38, 1, 24, [.nil]⟩),
  (38, ⟨.struct [(3, 0), (4, 1), (3, 2)], 3, 24, [.v (.int .i64 0), .v (.bool false), .v (.int .i64 0)]⟩),
  (43, ⟨.ptr 24, 1, 8, [.v (.pointer none)]⟩),
  (22, ⟨.slice 3, 1, 24, [.nil]⟩)]
theorem tab_ok : TabOk Try.prog tab := tabChk_ok (by kernel_rfl)

structure PV where
  rep : Int
  cyc : Int
  hrd : Int
  wt : Int
structure OkP (p : PV) : Prop where
  r0 : 0 ≤ p.rep
  r1 : p.rep ≤ 1000
  c0 : 1 ≤ p.cyc
  c1 : p.cyc ≤ 1000
  h0 : 1 ≤ p.hrd
  h1 : p.hrd ≤ 1000
  w0 : 1 ≤ p.wt
  w1 : p.wt ≤ 1000
inductive NS : Type where
  | sleep
  | prep (l : Int)
  | rep (w : Bool) (a x q : Int)
  | norm (x q : Int)
  | ready (q : Int)
abbrev nv (st : Int) (w : Bool) (a x q l : Int) (p : PV) : List SV := [.i st, .b w, .i a, .i x, .i q, .i l, .i p.rep, .i p.cyc, .i p.hrd, .i p.wt]
def nC (p : PV) : NS → List SV
  | .sleep => nv 0 false 0 0 0 0 p
  | .prep l => nv 1 false 0 0 0 l p
  | .rep w a x q => nv 2 w a x q 0 p
  | .norm x q => nv 3 true 0 x q 0 p
  | .ready q => nv 4 false 0 0 q 0 p
def OkS (p : PV) : NS → Prop
  | .sleep => True
  | .prep l => 1 ≤ l ∧ l ≤ p.wt
  | .rep _ a x q => (1 ≤ a ∧ a ≤ p.rep) ∧ (0 ≤ x ∧ x ≤ p.cyc) ∧ 1 ≤ q ∧ q ≤ p.hrd
  | .norm x q => (0 ≤ x ∧ x ≤ p.cyc) ∧ 1 ≤ q ∧ q ≤ p.hrd
  | .ready q => 1 ≤ q ∧ q ≤ p.hrd
theorem cases_b (b : Bool) : b = true ∨ b = false := by cases b <;> simp

set_option maxRecDepth 100000 in
theorem within_ok (n a b : Int) (h1 : a ≤ n) (h2 : n ≤ b) : Eff Try.prog 27 [.i n, .i a, .i b] [] 0 (fun r _ _ => r = .b true) := by
  refine eff_of Try.func27 rfl rfl rfl fun cx e hP => ?_
  refine AWP.runL e tab_ok L27 300 rfl (by first | trivial | (simp [in64] <;> omega)) ?_
  repeat (
    first
      | (refine AWP.askT rfl ?_; (first | (refine Told.t rfl ?_) | (refine Told.f rfl ?_) | (refine Told.t ?_ ?_; (focus assumption)) | (refine Told.f ?_ ?_; (focus assumption)) | (refine Told.t ?_ ?_; (focus (first | (simp; omega) | (simp [*]; done)); done)) | (refine Told.f ?_ ?_; (focus (first | (simp; omega) | (simp [*]; done)); done))); refine AWP.runL e tab_ok L27 300 rfl (by first | trivial | (simp [in64] <;> omega)) ?_)
      | (refine AWP.eq_agg e tab_ok rfl rfl rfl (.inl ⟨rfl, rfl⟩) ?_ 5 (by omega) rfl ?_ rfl rfl rfl rfl rfl rfl rfl ?_; (focus kernel_rfl); (focus kernel_rfl); refine AWP.runL e tab_ok L27 300 rfl (by first | trivial | (simp [in64] <;> omega)) ?_)
      | (refine AWP.eq_agg e tab_ok rfl rfl rfl (.inr ⟨rfl, rfl⟩) ?_ 5 (by omega) rfl ?_ rfl rfl rfl rfl rfl rfl rfl ?_; (focus kernel_rfl); (focus kernel_rfl); refine AWP.runL e tab_ok L27 300 rfl (by first | trivial | (simp [in64] <;> omega)) ?_)
    )
  refine AWP.ret e tab_ok rfl ?_
  rw [hP]
  exact congrArg SV.b (decide_eq_true h2)
set_option maxRecDepth 100000 in
theorem is_on (v a b : Int) (h1 : a ≤ v) (h2 : v ≤ b) : Eff Try.prog 28 [.i v, .b true, .i a, .i b] [] 0 (fun r _ _ => r = .b true) := by
  have hw := within_ok v a b h1 h2
  refine eff_of Try.func28 rfl rfl rfl fun cx e hP => ?_
  refine AWP.runL e tab_ok L28 300 rfl (by first | trivial | (simp [in64] <;> omega)) ?_
  repeat (
    first
      | (refine AWP.askT rfl ?_; (first | (refine Told.t rfl ?_) | (refine Told.f rfl ?_) | (refine Told.t ?_ ?_; (focus assumption)) | (refine Told.f ?_ ?_; (focus assumption)) | (refine Told.t ?_ ?_; (focus (first | (simp; omega) | (simp [*]; done)); done)) | (refine Told.f ?_ ?_; (focus (first | (simp; omega) | (simp [*]; done)); done))); refine AWP.runL e tab_ok L28 300 rfl (by first | trivial | (simp [in64] <;> omega)) ?_)
      | (refine AWP.callQ e rfl rfl ?_; (first | refine CallQ.mk (hw) rfl rfl ?_); refine AWP.runL e tab_ok L28 300 rfl (by first | trivial | (simp [in64] <;> omega)) ?_)
      | (refine AWP.eq_agg e tab_ok rfl rfl rfl (.inl ⟨rfl, rfl⟩) ?_ 5 (by omega) rfl ?_ rfl rfl rfl rfl rfl rfl rfl ?_; (focus kernel_rfl); (focus kernel_rfl); refine AWP.runL e tab_ok L28 300 rfl (by first | trivial | (simp [in64] <;> omega)) ?_)
      | (refine AWP.eq_agg e tab_ok rfl rfl rfl (.inr ⟨rfl, rfl⟩) ?_ 5 (by omega) rfl ?_ rfl rfl rfl rfl rfl rfl rfl ?_; (focus kernel_rfl); (focus kernel_rfl); refine AWP.runL e tab_ok L28 300 rfl (by first | trivial | (simp [in64] <;> omega)) ?_)
    )
  refine AWP.ret e tab_ok rfl ?_
  rw [hP]
  all_goals first | rfl | (simp [strip]; done)
set_option maxRecDepth 100000 in
theorem is_off (a b : Int) : Eff Try.prog 28 [.i 0, .b false, .i a, .i b] [] 0 (fun r _ _ => r = .b true) := by
  refine eff_of Try.func28 rfl rfl rfl fun cx e hP => ?_
  refine AWP.runL e tab_ok L28 300 rfl (by first | trivial | (simp [in64] <;> omega)) ?_
  repeat (
    first
      | (refine AWP.askT rfl ?_; (first | (refine Told.t rfl ?_) | (refine Told.f rfl ?_) | (refine Told.t ?_ ?_; (focus assumption)) | (refine Told.f ?_ ?_; (focus assumption)) | (refine Told.t ?_ ?_; (focus (first | (simp; omega) | (simp [*]; done)); done)) | (refine Told.f ?_ ?_; (focus (first | (simp; omega) | (simp [*]; done)); done))); refine AWP.runL e tab_ok L28 300 rfl (by first | trivial | (simp [in64] <;> omega)) ?_)
      | (refine AWP.eq_agg e tab_ok rfl rfl rfl (.inl ⟨rfl, rfl⟩) ?_ 5 (by omega) rfl ?_ rfl rfl rfl rfl rfl rfl rfl ?_; (focus kernel_rfl); (focus kernel_rfl); refine AWP.runL e tab_ok L28 300 rfl (by first | trivial | (simp [in64] <;> omega)) ?_)
      | (refine AWP.eq_agg e tab_ok rfl rfl rfl (.inr ⟨rfl, rfl⟩) ?_ 5 (by omega) rfl ?_ rfl rfl rfl rfl rfl rfl rfl ?_; (focus kernel_rfl); (focus kernel_rfl); refine AWP.runL e tab_ok L28 300 rfl (by first | trivial | (simp [in64] <;> omega)) ?_)
    )
  refine AWP.ret e tab_ok rfl ?_
  rw [hP]
  all_goals first | rfl | (simp [strip]; done)
-- $1 a number, $2 the answer, $3 the function, $4 its name
set_option maxRecDepth 100000 in
theorem awake_0 : Eff Try.prog 23 [.i 0] [] 0 (fun r _ _ => r = .b false) := by
  refine eff_of Try.func23 rfl rfl rfl fun cx e hP => ?_
  refine AWP.runL e tab_ok L23 300 rfl (by first | trivial | (simp [in64] <;> omega)) ?_
  repeat (
    first
      | (refine AWP.askT rfl ?_; (first | (refine Told.t rfl ?_) | (refine Told.f rfl ?_) | (refine Told.t ?_ ?_; (focus assumption)) | (refine Told.f ?_ ?_; (focus assumption)) | (refine Told.t ?_ ?_; (focus (first | (simp; omega) | (simp [*]; done)); done)) | (refine Told.f ?_ ?_; (focus (first | (simp; omega) | (simp [*]; done)); done))); refine AWP.runL e tab_ok L23 300 rfl (by first | trivial | (simp [in64] <;> omega)) ?_)
      | (refine AWP.eq_agg e tab_ok rfl rfl rfl (.inl ⟨rfl, rfl⟩) ?_ 5 (by omega) rfl ?_ rfl rfl rfl rfl rfl rfl rfl ?_; (focus kernel_rfl); (focus kernel_rfl); refine AWP.runL e tab_ok L23 300 rfl (by first | trivial | (simp [in64] <;> omega)) ?_)
      | (refine AWP.eq_agg e tab_ok rfl rfl rfl (.inr ⟨rfl, rfl⟩) ?_ 5 (by omega) rfl ?_ rfl rfl rfl rfl rfl rfl rfl ?_; (focus kernel_rfl); (focus kernel_rfl); refine AWP.runL e tab_ok L23 300 rfl (by first | trivial | (simp [in64] <;> omega)) ?_)
    )
  refine AWP.ret e tab_ok rfl ?_
  rw [hP]
  all_goals first | rfl | (simp [strip]; done)
set_option maxRecDepth 100000 in
theorem awake_1 : Eff Try.prog 23 [.i 1] [] 0 (fun r _ _ => r = .b false) := by
  refine eff_of Try.func23 rfl rfl rfl fun cx e hP => ?_
  refine AWP.runL e tab_ok L23 300 rfl (by first | trivial | (simp [in64] <;> omega)) ?_
  repeat (
    first
      | (refine AWP.askT rfl ?_; (first | (refine Told.t rfl ?_) | (refine Told.f rfl ?_) | (refine Told.t ?_ ?_; (focus assumption)) | (refine Told.f ?_ ?_; (focus assumption)) | (refine Told.t ?_ ?_; (focus (first | (simp; omega) | (simp [*]; done)); done)) | (refine Told.f ?_ ?_; (focus (first | (simp; omega) | (simp [*]; done)); done))); refine AWP.runL e tab_ok L23 300 rfl (by first | trivial | (simp [in64] <;> omega)) ?_)
      | (refine AWP.eq_agg e tab_ok rfl rfl rfl (.inl ⟨rfl, rfl⟩) ?_ 5 (by omega) rfl ?_ rfl rfl rfl rfl rfl rfl rfl ?_; (focus kernel_rfl); (focus kernel_rfl); refine AWP.runL e tab_ok L23 300 rfl (by first | trivial | (simp [in64] <;> omega)) ?_)
      | (refine AWP.eq_agg e tab_ok rfl rfl rfl (.inr ⟨rfl, rfl⟩) ?_ 5 (by omega) rfl ?_ rfl rfl rfl rfl rfl rfl rfl ?_; (focus kernel_rfl); (focus kernel_rfl); refine AWP.runL e tab_ok L23 300 rfl (by first | trivial | (simp [in64] <;> omega)) ?_)
    )
  refine AWP.ret e tab_ok rfl ?_
  rw [hP]
  all_goals first | rfl | (simp [strip]; done)
set_option maxRecDepth 100000 in
theorem awake_2 : Eff Try.prog 23 [.i 2] [] 0 (fun r _ _ => r = .b true) := by
  refine eff_of Try.func23 rfl rfl rfl fun cx e hP => ?_
  refine AWP.runL e tab_ok L23 300 rfl (by first | trivial | (simp [in64] <;> omega)) ?_
  repeat (
    first
      | (refine AWP.askT rfl ?_; (first | (refine Told.t rfl ?_) | (refine Told.f rfl ?_) | (refine Told.t ?_ ?_; (focus assumption)) | (refine Told.f ?_ ?_; (focus assumption)) | (refine Told.t ?_ ?_; (focus (first | (simp; omega) | (simp [*]; done)); done)) | (refine Told.f ?_ ?_; (focus (first | (simp; omega) | (simp [*]; done)); done))); refine AWP.runL e tab_ok L23 300 rfl (by first | trivial | (simp [in64] <;> omega)) ?_)
      | (refine AWP.eq_agg e tab_ok rfl rfl rfl (.inl ⟨rfl, rfl⟩) ?_ 5 (by omega) rfl ?_ rfl rfl rfl rfl rfl rfl rfl ?_; (focus kernel_rfl); (focus kernel_rfl); refine AWP.runL e tab_ok L23 300 rfl (by first | trivial | (simp [in64] <;> omega)) ?_)
      | (refine AWP.eq_agg e tab_ok rfl rfl rfl (.inr ⟨rfl, rfl⟩) ?_ 5 (by omega) rfl ?_ rfl rfl rfl rfl rfl rfl rfl ?_; (focus kernel_rfl); (focus kernel_rfl); refine AWP.runL e tab_ok L23 300 rfl (by first | trivial | (simp [in64] <;> omega)) ?_)
    )
  refine AWP.ret e tab_ok rfl ?_
  rw [hP]
  all_goals first | rfl | (simp [strip]; done)
set_option maxRecDepth 100000 in
theorem awake_3 : Eff Try.prog 23 [.i 3] [] 0 (fun r _ _ => r = .b true) := by
  refine eff_of Try.func23 rfl rfl rfl fun cx e hP => ?_
  refine AWP.runL e tab_ok L23 300 rfl (by first | trivial | (simp [in64] <;> omega)) ?_
  repeat (
    first
      | (refine AWP.askT rfl ?_; (first | (refine Told.t rfl ?_) | (refine Told.f rfl ?_) | (refine Told.t ?_ ?_; (focus assumption)) | (refine Told.f ?_ ?_; (focus assumption)) | (refine Told.t ?_ ?_; (focus (first | (simp; omega) | (simp [*]; done)); done)) | (refine Told.f ?_ ?_; (focus (first | (simp; omega) | (simp [*]; done)); done))); refine AWP.runL e tab_ok L23 300 rfl (by first | trivial | (simp [in64] <;> omega)) ?_)
      | (refine AWP.eq_agg e tab_ok rfl rfl rfl (.inl ⟨rfl, rfl⟩) ?_ 5 (by omega) rfl ?_ rfl rfl rfl rfl rfl rfl rfl ?_; (focus kernel_rfl); (focus kernel_rfl); refine AWP.runL e tab_ok L23 300 rfl (by first | trivial | (simp [in64] <;> omega)) ?_)
      | (refine AWP.eq_agg e tab_ok rfl rfl rfl (.inr ⟨rfl, rfl⟩) ?_ 5 (by omega) rfl ?_ rfl rfl rfl rfl rfl rfl rfl ?_; (focus kernel_rfl); (focus kernel_rfl); refine AWP.runL e tab_ok L23 300 rfl (by first | trivial | (simp [in64] <;> omega)) ?_)
    )
  refine AWP.ret e tab_ok rfl ?_
  rw [hP]
  all_goals first | rfl | (simp [strip]; done)
set_option maxRecDepth 100000 in
theorem awake_4 : Eff Try.prog 23 [.i 4] [] 0 (fun r _ _ => r = .b true) := by
  refine eff_of Try.func23 rfl rfl rfl fun cx e hP => ?_
  refine AWP.runL e tab_ok L23 300 rfl (by first | trivial | (simp [in64] <;> omega)) ?_
  repeat (
    first
      | (refine AWP.askT rfl ?_; (first | (refine Told.t rfl ?_) | (refine Told.f rfl ?_) | (refine Told.t ?_ ?_; (focus assumption)) | (refine Told.f ?_ ?_; (focus assumption)) | (refine Told.t ?_ ?_; (focus (first | (simp; omega) | (simp [*]; done)); done)) | (refine Told.f ?_ ?_; (focus (first | (simp; omega) | (simp [*]; done)); done))); refine AWP.runL e tab_ok L23 300 rfl (by first | trivial | (simp [in64] <;> omega)) ?_)
      | (refine AWP.eq_agg e tab_ok rfl rfl rfl (.inl ⟨rfl, rfl⟩) ?_ 5 (by omega) rfl ?_ rfl rfl rfl rfl rfl rfl rfl ?_; (focus kernel_rfl); (focus kernel_rfl); refine AWP.runL e tab_ok L23 300 rfl (by first | trivial | (simp [in64] <;> omega)) ?_)
      | (refine AWP.eq_agg e tab_ok rfl rfl rfl (.inr ⟨rfl, rfl⟩) ?_ 5 (by omega) rfl ?_ rfl rfl rfl rfl rfl rfl rfl ?_; (focus kernel_rfl); (focus kernel_rfl); refine AWP.runL e tab_ok L23 300 rfl (by first | trivial | (simp [in64] <;> omega)) ?_)
    )
  refine AWP.ret e tab_ok rfl ?_
  rw [hP]
  all_goals first | rfl | (simp [strip]; done)
set_option maxRecDepth 100000 in
theorem sends_0 : Eff Try.prog 29 [.i 0] [] 0 (fun r _ _ => r = .b false) := by
  refine eff_of Try.func29 rfl rfl rfl fun cx e hP => ?_
  refine AWP.runL e tab_ok L29 300 rfl (by first | trivial | (simp [in64] <;> omega)) ?_
  repeat (
    first
      | (refine AWP.askT rfl ?_; (first | (refine Told.t rfl ?_) | (refine Told.f rfl ?_) | (refine Told.t ?_ ?_; (focus assumption)) | (refine Told.f ?_ ?_; (focus assumption)) | (refine Told.t ?_ ?_; (focus (first | (simp; omega) | (simp [*]; done)); done)) | (refine Told.f ?_ ?_; (focus (first | (simp; omega) | (simp [*]; done)); done))); refine AWP.runL e tab_ok L29 300 rfl (by first | trivial | (simp [in64] <;> omega)) ?_)
      | (refine AWP.eq_agg e tab_ok rfl rfl rfl (.inl ⟨rfl, rfl⟩) ?_ 5 (by omega) rfl ?_ rfl rfl rfl rfl rfl rfl rfl ?_; (focus kernel_rfl); (focus kernel_rfl); refine AWP.runL e tab_ok L29 300 rfl (by first | trivial | (simp [in64] <;> omega)) ?_)
      | (refine AWP.eq_agg e tab_ok rfl rfl rfl (.inr ⟨rfl, rfl⟩) ?_ 5 (by omega) rfl ?_ rfl rfl rfl rfl rfl rfl rfl ?_; (focus kernel_rfl); (focus kernel_rfl); refine AWP.runL e tab_ok L29 300 rfl (by first | trivial | (simp [in64] <;> omega)) ?_)
    )
  refine AWP.ret e tab_ok rfl ?_
  rw [hP]
  all_goals first | rfl | (simp [strip]; done)
set_option maxRecDepth 100000 in
theorem sends_1 : Eff Try.prog 29 [.i 1] [] 0 (fun r _ _ => r = .b false) := by
  refine eff_of Try.func29 rfl rfl rfl fun cx e hP => ?_
  refine AWP.runL e tab_ok L29 300 rfl (by first | trivial | (simp [in64] <;> omega)) ?_
  repeat (
    first
      | (refine AWP.askT rfl ?_; (first | (refine Told.t rfl ?_) | (refine Told.f rfl ?_) | (refine Told.t ?_ ?_; (focus assumption)) | (refine Told.f ?_ ?_; (focus assumption)) | (refine Told.t ?_ ?_; (focus (first | (simp; omega) | (simp [*]; done)); done)) | (refine Told.f ?_ ?_; (focus (first | (simp; omega) | (simp [*]; done)); done))); refine AWP.runL e tab_ok L29 300 rfl (by first | trivial | (simp [in64] <;> omega)) ?_)
      | (refine AWP.eq_agg e tab_ok rfl rfl rfl (.inl ⟨rfl, rfl⟩) ?_ 5 (by omega) rfl ?_ rfl rfl rfl rfl rfl rfl rfl ?_; (focus kernel_rfl); (focus kernel_rfl); refine AWP.runL e tab_ok L29 300 rfl (by first | trivial | (simp [in64] <;> omega)) ?_)
      | (refine AWP.eq_agg e tab_ok rfl rfl rfl (.inr ⟨rfl, rfl⟩) ?_ 5 (by omega) rfl ?_ rfl rfl rfl rfl rfl rfl rfl ?_; (focus kernel_rfl); (focus kernel_rfl); refine AWP.runL e tab_ok L29 300 rfl (by first | trivial | (simp [in64] <;> omega)) ?_)
    )
  refine AWP.ret e tab_ok rfl ?_
  rw [hP]
  all_goals first | rfl | (simp [strip]; done)
set_option maxRecDepth 100000 in
theorem sends_2 : Eff Try.prog 29 [.i 2] [] 0 (fun r _ _ => r = .b true) := by
  refine eff_of Try.func29 rfl rfl rfl fun cx e hP => ?_
  refine AWP.runL e tab_ok L29 300 rfl (by first | trivial | (simp [in64] <;> omega)) ?_
  repeat (
    first
      | (refine AWP.askT rfl ?_; (first | (refine Told.t rfl ?_) | (refine Told.f rfl ?_) | (refine Told.t ?_ ?_; (focus assumption)) | (refine Told.f ?_ ?_; (focus assumption)) | (refine Told.t ?_ ?_; (focus (first | (simp; omega) | (simp [*]; done)); done)) | (refine Told.f ?_ ?_; (focus (first | (simp; omega) | (simp [*]; done)); done))); refine AWP.runL e tab_ok L29 300 rfl (by first | trivial | (simp [in64] <;> omega)) ?_)
      | (refine AWP.eq_agg e tab_ok rfl rfl rfl (.inl ⟨rfl, rfl⟩) ?_ 5 (by omega) rfl ?_ rfl rfl rfl rfl rfl rfl rfl ?_; (focus kernel_rfl); (focus kernel_rfl); refine AWP.runL e tab_ok L29 300 rfl (by first | trivial | (simp [in64] <;> omega)) ?_)
      | (refine AWP.eq_agg e tab_ok rfl rfl rfl (.inr ⟨rfl, rfl⟩) ?_ 5 (by omega) rfl ?_ rfl rfl rfl rfl rfl rfl rfl ?_; (focus kernel_rfl); (focus kernel_rfl); refine AWP.runL e tab_ok L29 300 rfl (by first | trivial | (simp [in64] <;> omega)) ?_)
    )
  refine AWP.ret e tab_ok rfl ?_
  rw [hP]
  all_goals first | rfl | (simp [strip]; done)
set_option maxRecDepth 100000 in
theorem sends_3 : Eff Try.prog 29 [.i 3] [] 0 (fun r _ _ => r = .b true) := by
  refine eff_of Try.func29 rfl rfl rfl fun cx e hP => ?_
  refine AWP.runL e tab_ok L29 300 rfl (by first | trivial | (simp [in64] <;> omega)) ?_
  repeat (
    first
      | (refine AWP.askT rfl ?_; (first | (refine Told.t rfl ?_) | (refine Told.f rfl ?_) | (refine Told.t ?_ ?_; (focus assumption)) | (refine Told.f ?_ ?_; (focus assumption)) | (refine Told.t ?_ ?_; (focus (first | (simp; omega) | (simp [*]; done)); done)) | (refine Told.f ?_ ?_; (focus (first | (simp; omega) | (simp [*]; done)); done))); refine AWP.runL e tab_ok L29 300 rfl (by first | trivial | (simp [in64] <;> omega)) ?_)
      | (refine AWP.eq_agg e tab_ok rfl rfl rfl (.inl ⟨rfl, rfl⟩) ?_ 5 (by omega) rfl ?_ rfl rfl rfl rfl rfl rfl rfl ?_; (focus kernel_rfl); (focus kernel_rfl); refine AWP.runL e tab_ok L29 300 rfl (by first | trivial | (simp [in64] <;> omega)) ?_)
      | (refine AWP.eq_agg e tab_ok rfl rfl rfl (.inr ⟨rfl, rfl⟩) ?_ 5 (by omega) rfl ?_ rfl rfl rfl rfl rfl rfl rfl ?_; (focus kernel_rfl); (focus kernel_rfl); refine AWP.runL e tab_ok L29 300 rfl (by first | trivial | (simp [in64] <;> omega)) ?_)
    )
  refine AWP.ret e tab_ok rfl ?_
  rw [hP]
  all_goals first | rfl | (simp [strip]; done)
set_option maxRecDepth 100000 in
theorem sends_4 : Eff Try.prog 29 [.i 4] [] 0 (fun r _ _ => r = .b false) := by
  refine eff_of Try.func29 rfl rfl rfl fun cx e hP => ?_
  refine AWP.runL e tab_ok L29 300 rfl (by first | trivial | (simp [in64] <;> omega)) ?_
  repeat (
    first
      | (refine AWP.askT rfl ?_; (first | (refine Told.t rfl ?_) | (refine Told.f rfl ?_) | (refine Told.t ?_ ?_; (focus assumption)) | (refine Told.f ?_ ?_; (focus assumption)) | (refine Told.t ?_ ?_; (focus (first | (simp; omega) | (simp [*]; done)); done)) | (refine Told.f ?_ ?_; (focus (first | (simp; omega) | (simp [*]; done)); done))); refine AWP.runL e tab_ok L29 300 rfl (by first | trivial | (simp [in64] <;> omega)) ?_)
      | (refine AWP.eq_agg e tab_ok rfl rfl rfl (.inl ⟨rfl, rfl⟩) ?_ 5 (by omega) rfl ?_ rfl rfl rfl rfl rfl rfl rfl ?_; (focus kernel_rfl); (focus kernel_rfl); refine AWP.runL e tab_ok L29 300 rfl (by first | trivial | (simp [in64] <;> omega)) ?_)
      | (refine AWP.eq_agg e tab_ok rfl rfl rfl (.inr ⟨rfl, rfl⟩) ?_ 5 (by omega) rfl ?_ rfl rfl rfl rfl rfl rfl rfl ?_; (focus kernel_rfl); (focus kernel_rfl); refine AWP.runL e tab_ok L29 300 rfl (by first | trivial | (simp [in64] <;> omega)) ?_)
    )
  refine AWP.ret e tab_ok rfl ?_
  rw [hP]
  all_goals first | rfl | (simp [strip]; done)

set_option maxHeartbeats 1000000 in
set_option maxRecDepth 100000 in
theorem right_ok (p : PV) (hp : OkP p) (s : NS) (hs : OkS p s) : Eff Try.prog 15 [.agg (nC p s)] [] 0 (fun r _ _ => r = .b true) := by
  have w1 := within_ok p.rep 0 1000 hp.r0 hp.r1
  have w2 := within_ok p.cyc 1 1000 hp.c0 hp.c1
  have w3 := within_ok p.hrd 1 1000 hp.h0 hp.h1
  have w4 := within_ok p.wt 1 1000 hp.w0 hp.w1
  cases s with
  | sleep =>
    · have i1 := is_off 1 p.rep
      have i2 := is_off 0 p.cyc
      have i3 := is_off 1 p.hrd
      have i4 := is_off 1 p.wt
      have w5 := within_ok 0 0 4 (by omega) (by omega)
      refine eff_of Try.func15 rfl rfl rfl fun cx e hP => ?_
      refine AWP.runL e tab_ok L15 300 rfl (by first | trivial | (simp [in64] <;> omega)) ?_
      repeat (
        first
          | (refine AWP.askT rfl ?_; (first | (refine Told.t rfl ?_) | (refine Told.f rfl ?_) | (refine Told.t ?_ ?_; (focus assumption)) | (refine Told.f ?_ ?_; (focus assumption)) | (refine Told.t ?_ ?_; (focus (first | (simp; omega) | (simp [*]; done)); done)) | (refine Told.f ?_ ?_; (focus (first | (simp; omega) | (simp [*]; done)); done))); refine AWP.runL e tab_ok L15 300 rfl (by first | trivial | (simp [in64] <;> omega)) ?_)
          | (refine AWP.callQ e rfl rfl ?_; (first | refine CallQ.mk (w1) rfl rfl ?_ | refine CallQ.mk (w2) rfl rfl ?_ | refine CallQ.mk (w3) rfl rfl ?_ | refine CallQ.mk (w4) rfl rfl ?_ | refine CallQ.mk (w5) rfl rfl ?_ | refine CallQ.mk (awake_0) rfl rfl ?_ | refine CallQ.mk (sends_0) rfl rfl ?_ | refine CallQ.mk (i1) rfl rfl ?_ | refine CallQ.mk (i2) rfl rfl ?_ | refine CallQ.mk (i3) rfl rfl ?_ | refine CallQ.mk (i4) rfl rfl ?_); refine AWP.runL e tab_ok L15 300 rfl (by first | trivial | (simp [in64] <;> omega)) ?_)
          | (refine AWP.eq_agg e tab_ok rfl rfl rfl (.inl ⟨rfl, rfl⟩) ?_ 5 (by omega) rfl ?_ rfl rfl rfl rfl rfl rfl rfl ?_; (focus kernel_rfl); (focus kernel_rfl); refine AWP.runL e tab_ok L15 300 rfl (by first | trivial | (simp [in64] <;> omega)) ?_)
          | (refine AWP.eq_agg e tab_ok rfl rfl rfl (.inr ⟨rfl, rfl⟩) ?_ 5 (by omega) rfl ?_ rfl rfl rfl rfl rfl rfl rfl ?_; (focus kernel_rfl); (focus kernel_rfl); refine AWP.runL e tab_ok L15 300 rfl (by first | trivial | (simp [in64] <;> omega)) ?_)
          | (refine AWP.keep L15 rfl ?_; refine AWP.drg 100 ?_; (refine DrG.runS e tab_ok 200 rfl (by first | trivial | (simp [in64] <;> omega)) ?_); (repeat (first | (refine DrG.askT rfl ?_; (first | (refine Told.t rfl ?_) | (refine Told.f rfl ?_) | (refine Told.t ?_ ?_; (focus assumption)) | (refine Told.f ?_ ?_; (focus assumption)) | (refine Told.t ?_ ?_; (focus (first | (simp; omega) | (simp [*]; done)); done)) | (refine Told.f ?_ ?_; (focus (first | (simp; omega) | (simp [*]; done)); done))); (refine DrG.runS e tab_ok 200 rfl (by first | trivial | (simp [in64] <;> omega)) ?_)) | (refine DrG.callQ e rfl rfl ?_; (first | refine CallVQ.mk (w1) rfl rfl ?_ | refine CallVQ.mk (w2) rfl rfl ?_ | refine CallVQ.mk (w3) rfl rfl ?_ | refine CallVQ.mk (w4) rfl rfl ?_ | refine CallVQ.mk (w5) rfl rfl ?_ | refine CallVQ.mk (awake_0) rfl rfl ?_ | refine CallVQ.mk (sends_0) rfl rfl ?_ | refine CallVQ.mk (i1) rfl rfl ?_ | refine CallVQ.mk (i2) rfl rfl ?_ | refine CallVQ.mk (i3) rfl rfl ?_ | refine CallVQ.mk (i4) rfl rfl ?_); (refine DrG.runS e tab_ok 200 rfl (by first | trivial | (simp [in64] <;> omega)) ?_)) | (refine DrG.callGo e rfl rfl rfl ?_; (first | refine CallVQ.mk (w1) rfl rfl ?_ | refine CallVQ.mk (w2) rfl rfl ?_ | refine CallVQ.mk (w3) rfl rfl ?_ | refine CallVQ.mk (w4) rfl rfl ?_ | refine CallVQ.mk (w5) rfl rfl ?_ | refine CallVQ.mk (awake_0) rfl rfl ?_ | refine CallVQ.mk (sends_0) rfl rfl ?_ | refine CallVQ.mk (i1) rfl rfl ?_ | refine CallVQ.mk (i2) rfl rfl ?_ | refine CallVQ.mk (i3) rfl rfl ?_ | refine CallVQ.mk (i4) rfl rfl ?_); (refine DrG.runS e tab_ok 200 rfl (by first | trivial | (simp [in64] <;> omega)) ?_)) | (refine DrG.eq_agg e tab_ok rfl rfl rfl (.inl ⟨rfl, rfl⟩) ?_ 5 (by omega) rfl ?_ rfl rfl rfl rfl rfl rfl rfl ?_; (focus kernel_rfl); (focus kernel_rfl); (refine DrG.runS e tab_ok 200 rfl (by first | trivial | (simp [in64] <;> omega)) ?_)) | (refine DrG.eq_aggGo e tab_ok rfl rfl rfl rfl (.inl ⟨rfl, rfl⟩) ?_ 5 (by omega) rfl ?_ rfl rfl rfl rfl rfl rfl rfl ?_; (focus kernel_rfl); (focus kernel_rfl); (refine DrG.runS e tab_ok 200 rfl (by first | trivial | (simp [in64] <;> omega)) ?_)) | (refine DrG.eq_agg e tab_ok rfl rfl rfl (.inr ⟨rfl, rfl⟩) ?_ 5 (by omega) rfl ?_ rfl rfl rfl rfl rfl rfl rfl ?_; (focus kernel_rfl); (focus kernel_rfl); (refine DrG.runS e tab_ok 200 rfl (by first | trivial | (simp [in64] <;> omega)) ?_)) | (refine DrG.eq_aggGo e tab_ok rfl rfl rfl rfl (.inr ⟨rfl, rfl⟩) ?_ 5 (by omega) rfl ?_ rfl rfl rfl rfl rfl rfl rfl ?_; (focus kernel_rfl); (focus kernel_rfl); (refine DrG.runS e tab_ok 200 rfl (by first | trivial | (simp [in64] <;> omega)) ?_)))); refine DrG.finK e rfl ?_ rfl rfl rfl ?_ ?_; (focus kernel_rfl); (focus (repeat' (first | exact True.intro | (refine And.intro ?_ ?_) | rfl | assumption | exact okRow _))); dsimp only [tmS, hpS, tput, effH]; refine AWP.runL e tab_ok L15 300 rfl (by first | trivial | (simp [in64] <;> omega)) ?_)
        )
      refine AWP.ret e tab_ok rfl ?_
      rw [hP]
      all_goals first | rfl | (simp [strip]; done)
  | prep l =>
    · have i1 := is_off 1 p.rep
      have i2 := is_off 0 p.cyc
      have i3 := is_off 1 p.hrd
      have i4 := is_on l 1 p.wt hs.1 hs.2
      have w5 := within_ok 1 0 4 (by omega) (by omega)
      refine eff_of Try.func15 rfl rfl rfl fun cx e hP => ?_
      refine AWP.runL e tab_ok L15 300 rfl (by first | trivial | (simp [in64] <;> omega)) ?_
      repeat (
        first
          | (refine AWP.askT rfl ?_; (first | (refine Told.t rfl ?_) | (refine Told.f rfl ?_) | (refine Told.t ?_ ?_; (focus assumption)) | (refine Told.f ?_ ?_; (focus assumption)) | (refine Told.t ?_ ?_; (focus (first | (simp; omega) | (simp [*]; done)); done)) | (refine Told.f ?_ ?_; (focus (first | (simp; omega) | (simp [*]; done)); done))); refine AWP.runL e tab_ok L15 300 rfl (by first | trivial | (simp [in64] <;> omega)) ?_)
          | (refine AWP.callQ e rfl rfl ?_; (first | refine CallQ.mk (w1) rfl rfl ?_ | refine CallQ.mk (w2) rfl rfl ?_ | refine CallQ.mk (w3) rfl rfl ?_ | refine CallQ.mk (w4) rfl rfl ?_ | refine CallQ.mk (w5) rfl rfl ?_ | refine CallQ.mk (awake_1) rfl rfl ?_ | refine CallQ.mk (sends_1) rfl rfl ?_ | refine CallQ.mk (i1) rfl rfl ?_ | refine CallQ.mk (i2) rfl rfl ?_ | refine CallQ.mk (i3) rfl rfl ?_ | refine CallQ.mk (i4) rfl rfl ?_); refine AWP.runL e tab_ok L15 300 rfl (by first | trivial | (simp [in64] <;> omega)) ?_)
          | (refine AWP.eq_agg e tab_ok rfl rfl rfl (.inl ⟨rfl, rfl⟩) ?_ 5 (by omega) rfl ?_ rfl rfl rfl rfl rfl rfl rfl ?_; (focus kernel_rfl); (focus kernel_rfl); refine AWP.runL e tab_ok L15 300 rfl (by first | trivial | (simp [in64] <;> omega)) ?_)
          | (refine AWP.eq_agg e tab_ok rfl rfl rfl (.inr ⟨rfl, rfl⟩) ?_ 5 (by omega) rfl ?_ rfl rfl rfl rfl rfl rfl rfl ?_; (focus kernel_rfl); (focus kernel_rfl); refine AWP.runL e tab_ok L15 300 rfl (by first | trivial | (simp [in64] <;> omega)) ?_)
          | (refine AWP.keep L15 rfl ?_; refine AWP.drg 100 ?_; (refine DrG.runS e tab_ok 200 rfl (by first | trivial | (simp [in64] <;> omega)) ?_); (repeat (first | (refine DrG.askT rfl ?_; (first | (refine Told.t rfl ?_) | (refine Told.f rfl ?_) | (refine Told.t ?_ ?_; (focus assumption)) | (refine Told.f ?_ ?_; (focus assumption)) | (refine Told.t ?_ ?_; (focus (first | (simp; omega) | (simp [*]; done)); done)) | (refine Told.f ?_ ?_; (focus (first | (simp; omega) | (simp [*]; done)); done))); (refine DrG.runS e tab_ok 200 rfl (by first | trivial | (simp [in64] <;> omega)) ?_)) | (refine DrG.callQ e rfl rfl ?_; (first | refine CallVQ.mk (w1) rfl rfl ?_ | refine CallVQ.mk (w2) rfl rfl ?_ | refine CallVQ.mk (w3) rfl rfl ?_ | refine CallVQ.mk (w4) rfl rfl ?_ | refine CallVQ.mk (w5) rfl rfl ?_ | refine CallVQ.mk (awake_1) rfl rfl ?_ | refine CallVQ.mk (sends_1) rfl rfl ?_ | refine CallVQ.mk (i1) rfl rfl ?_ | refine CallVQ.mk (i2) rfl rfl ?_ | refine CallVQ.mk (i3) rfl rfl ?_ | refine CallVQ.mk (i4) rfl rfl ?_); (refine DrG.runS e tab_ok 200 rfl (by first | trivial | (simp [in64] <;> omega)) ?_)) | (refine DrG.callGo e rfl rfl rfl ?_; (first | refine CallVQ.mk (w1) rfl rfl ?_ | refine CallVQ.mk (w2) rfl rfl ?_ | refine CallVQ.mk (w3) rfl rfl ?_ | refine CallVQ.mk (w4) rfl rfl ?_ | refine CallVQ.mk (w5) rfl rfl ?_ | refine CallVQ.mk (awake_1) rfl rfl ?_ | refine CallVQ.mk (sends_1) rfl rfl ?_ | refine CallVQ.mk (i1) rfl rfl ?_ | refine CallVQ.mk (i2) rfl rfl ?_ | refine CallVQ.mk (i3) rfl rfl ?_ | refine CallVQ.mk (i4) rfl rfl ?_); (refine DrG.runS e tab_ok 200 rfl (by first | trivial | (simp [in64] <;> omega)) ?_)) | (refine DrG.eq_agg e tab_ok rfl rfl rfl (.inl ⟨rfl, rfl⟩) ?_ 5 (by omega) rfl ?_ rfl rfl rfl rfl rfl rfl rfl ?_; (focus kernel_rfl); (focus kernel_rfl); (refine DrG.runS e tab_ok 200 rfl (by first | trivial | (simp [in64] <;> omega)) ?_)) | (refine DrG.eq_aggGo e tab_ok rfl rfl rfl rfl (.inl ⟨rfl, rfl⟩) ?_ 5 (by omega) rfl ?_ rfl rfl rfl rfl rfl rfl rfl ?_; (focus kernel_rfl); (focus kernel_rfl); (refine DrG.runS e tab_ok 200 rfl (by first | trivial | (simp [in64] <;> omega)) ?_)) | (refine DrG.eq_agg e tab_ok rfl rfl rfl (.inr ⟨rfl, rfl⟩) ?_ 5 (by omega) rfl ?_ rfl rfl rfl rfl rfl rfl rfl ?_; (focus kernel_rfl); (focus kernel_rfl); (refine DrG.runS e tab_ok 200 rfl (by first | trivial | (simp [in64] <;> omega)) ?_)) | (refine DrG.eq_aggGo e tab_ok rfl rfl rfl rfl (.inr ⟨rfl, rfl⟩) ?_ 5 (by omega) rfl ?_ rfl rfl rfl rfl rfl rfl rfl ?_; (focus kernel_rfl); (focus kernel_rfl); (refine DrG.runS e tab_ok 200 rfl (by first | trivial | (simp [in64] <;> omega)) ?_)))); refine DrG.finK e rfl ?_ rfl rfl rfl ?_ ?_; (focus kernel_rfl); (focus (repeat' (first | exact True.intro | (refine And.intro ?_ ?_) | rfl | assumption | exact okRow _))); dsimp only [tmS, hpS, tput, effH]; refine AWP.runL e tab_ok L15 300 rfl (by first | trivial | (simp [in64] <;> omega)) ?_)
        )
      refine AWP.ret e tab_ok rfl ?_
      rw [hP]
      all_goals first | rfl | (simp [strip]; done)
  | rep w a x q =>
    · have i1 := is_on a 1 p.rep hs.1.1 hs.1.2
      have i2 := is_on x 0 p.cyc hs.2.1.1 hs.2.1.2
      have i3 := is_on q 1 p.hrd hs.2.2.1 hs.2.2.2
      have i4 := is_off 1 p.wt
      have w5 := within_ok 2 0 4 (by omega) (by omega)
      refine eff_of Try.func15 rfl rfl rfl fun cx e hP => ?_
      refine AWP.runL e tab_ok L15 300 rfl (by first | trivial | (simp [in64] <;> omega)) ?_
      repeat (
        first
          | (refine AWP.askT rfl ?_; (first | (refine Told.t rfl ?_) | (refine Told.f rfl ?_) | (refine Told.t ?_ ?_; (focus assumption)) | (refine Told.f ?_ ?_; (focus assumption)) | (refine Told.t ?_ ?_; (focus (first | (simp; omega) | (simp [*]; done)); done)) | (refine Told.f ?_ ?_; (focus (first | (simp; omega) | (simp [*]; done)); done))); refine AWP.runL e tab_ok L15 300 rfl (by first | trivial | (simp [in64] <;> omega)) ?_)
          | (refine AWP.callQ e rfl rfl ?_; (first | refine CallQ.mk (w1) rfl rfl ?_ | refine CallQ.mk (w2) rfl rfl ?_ | refine CallQ.mk (w3) rfl rfl ?_ | refine CallQ.mk (w4) rfl rfl ?_ | refine CallQ.mk (w5) rfl rfl ?_ | refine CallQ.mk (awake_2) rfl rfl ?_ | refine CallQ.mk (sends_2) rfl rfl ?_ | refine CallQ.mk (i1) rfl rfl ?_ | refine CallQ.mk (i2) rfl rfl ?_ | refine CallQ.mk (i3) rfl rfl ?_ | refine CallQ.mk (i4) rfl rfl ?_); refine AWP.runL e tab_ok L15 300 rfl (by first | trivial | (simp [in64] <;> omega)) ?_)
          | (refine AWP.eq_agg e tab_ok rfl rfl rfl (.inl ⟨rfl, rfl⟩) ?_ 5 (by omega) rfl ?_ rfl rfl rfl rfl rfl rfl rfl ?_; (focus kernel_rfl); (focus kernel_rfl); refine AWP.runL e tab_ok L15 300 rfl (by first | trivial | (simp [in64] <;> omega)) ?_)
          | (refine AWP.eq_agg e tab_ok rfl rfl rfl (.inr ⟨rfl, rfl⟩) ?_ 5 (by omega) rfl ?_ rfl rfl rfl rfl rfl rfl rfl ?_; (focus kernel_rfl); (focus kernel_rfl); refine AWP.runL e tab_ok L15 300 rfl (by first | trivial | (simp [in64] <;> omega)) ?_)
          | (refine AWP.keep L15 rfl ?_; refine AWP.drg 100 ?_; (refine DrG.runS e tab_ok 200 rfl (by first | trivial | (simp [in64] <;> omega)) ?_); (repeat (first | (refine DrG.askT rfl ?_; (first | (refine Told.t rfl ?_) | (refine Told.f rfl ?_) | (refine Told.t ?_ ?_; (focus assumption)) | (refine Told.f ?_ ?_; (focus assumption)) | (refine Told.t ?_ ?_; (focus (first | (simp; omega) | (simp [*]; done)); done)) | (refine Told.f ?_ ?_; (focus (first | (simp; omega) | (simp [*]; done)); done))); (refine DrG.runS e tab_ok 200 rfl (by first | trivial | (simp [in64] <;> omega)) ?_)) | (refine DrG.callQ e rfl rfl ?_; (first | refine CallVQ.mk (w1) rfl rfl ?_ | refine CallVQ.mk (w2) rfl rfl ?_ | refine CallVQ.mk (w3) rfl rfl ?_ | refine CallVQ.mk (w4) rfl rfl ?_ | refine CallVQ.mk (w5) rfl rfl ?_ | refine CallVQ.mk (awake_2) rfl rfl ?_ | refine CallVQ.mk (sends_2) rfl rfl ?_ | refine CallVQ.mk (i1) rfl rfl ?_ | refine CallVQ.mk (i2) rfl rfl ?_ | refine CallVQ.mk (i3) rfl rfl ?_ | refine CallVQ.mk (i4) rfl rfl ?_); (refine DrG.runS e tab_ok 200 rfl (by first | trivial | (simp [in64] <;> omega)) ?_)) | (refine DrG.callGo e rfl rfl rfl ?_; (first | refine CallVQ.mk (w1) rfl rfl ?_ | refine CallVQ.mk (w2) rfl rfl ?_ | refine CallVQ.mk (w3) rfl rfl ?_ | refine CallVQ.mk (w4) rfl rfl ?_ | refine CallVQ.mk (w5) rfl rfl ?_ | refine CallVQ.mk (awake_2) rfl rfl ?_ | refine CallVQ.mk (sends_2) rfl rfl ?_ | refine CallVQ.mk (i1) rfl rfl ?_ | refine CallVQ.mk (i2) rfl rfl ?_ | refine CallVQ.mk (i3) rfl rfl ?_ | refine CallVQ.mk (i4) rfl rfl ?_); (refine DrG.runS e tab_ok 200 rfl (by first | trivial | (simp [in64] <;> omega)) ?_)) | (refine DrG.eq_agg e tab_ok rfl rfl rfl (.inl ⟨rfl, rfl⟩) ?_ 5 (by omega) rfl ?_ rfl rfl rfl rfl rfl rfl rfl ?_; (focus kernel_rfl); (focus kernel_rfl); (refine DrG.runS e tab_ok 200 rfl (by first | trivial | (simp [in64] <;> omega)) ?_)) | (refine DrG.eq_aggGo e tab_ok rfl rfl rfl rfl (.inl ⟨rfl, rfl⟩) ?_ 5 (by omega) rfl ?_ rfl rfl rfl rfl rfl rfl rfl ?_; (focus kernel_rfl); (focus kernel_rfl); (refine DrG.runS e tab_ok 200 rfl (by first | trivial | (simp [in64] <;> omega)) ?_)) | (refine DrG.eq_agg e tab_ok rfl rfl rfl (.inr ⟨rfl, rfl⟩) ?_ 5 (by omega) rfl ?_ rfl rfl rfl rfl rfl rfl rfl ?_; (focus kernel_rfl); (focus kernel_rfl); (refine DrG.runS e tab_ok 200 rfl (by first | trivial | (simp [in64] <;> omega)) ?_)) | (refine DrG.eq_aggGo e tab_ok rfl rfl rfl rfl (.inr ⟨rfl, rfl⟩) ?_ 5 (by omega) rfl ?_ rfl rfl rfl rfl rfl rfl rfl ?_; (focus kernel_rfl); (focus kernel_rfl); (refine DrG.runS e tab_ok 200 rfl (by first | trivial | (simp [in64] <;> omega)) ?_)))); refine DrG.finK e rfl ?_ rfl rfl rfl ?_ ?_; (focus kernel_rfl); (focus (repeat' (first | exact True.intro | (refine And.intro ?_ ?_) | rfl | assumption | exact okRow _))); dsimp only [tmS, hpS, tput, effH]; refine AWP.runL e tab_ok L15 300 rfl (by first | trivial | (simp [in64] <;> omega)) ?_)
        )
      refine AWP.ret e tab_ok rfl ?_
      rw [hP]
      all_goals first | rfl | (simp [strip]; done)
  | norm x q =>
    · have i1 := is_off 1 p.rep
      have i2 := is_on x 0 p.cyc hs.1.1 hs.1.2
      have i3 := is_on q 1 p.hrd hs.2.1 hs.2.2
      have i4 := is_off 1 p.wt
      have w5 := within_ok 3 0 4 (by omega) (by omega)
      refine eff_of Try.func15 rfl rfl rfl fun cx e hP => ?_
      refine AWP.runL e tab_ok L15 300 rfl (by first | trivial | (simp [in64] <;> omega)) ?_
      repeat (
        first
          | (refine AWP.askT rfl ?_; (first | (refine Told.t rfl ?_) | (refine Told.f rfl ?_) | (refine Told.t ?_ ?_; (focus assumption)) | (refine Told.f ?_ ?_; (focus assumption)) | (refine Told.t ?_ ?_; (focus (first | (simp; omega) | (simp [*]; done)); done)) | (refine Told.f ?_ ?_; (focus (first | (simp; omega) | (simp [*]; done)); done))); refine AWP.runL e tab_ok L15 300 rfl (by first | trivial | (simp [in64] <;> omega)) ?_)
          | (refine AWP.callQ e rfl rfl ?_; (first | refine CallQ.mk (w1) rfl rfl ?_ | refine CallQ.mk (w2) rfl rfl ?_ | refine CallQ.mk (w3) rfl rfl ?_ | refine CallQ.mk (w4) rfl rfl ?_ | refine CallQ.mk (w5) rfl rfl ?_ | refine CallQ.mk (awake_3) rfl rfl ?_ | refine CallQ.mk (sends_3) rfl rfl ?_ | refine CallQ.mk (i1) rfl rfl ?_ | refine CallQ.mk (i2) rfl rfl ?_ | refine CallQ.mk (i3) rfl rfl ?_ | refine CallQ.mk (i4) rfl rfl ?_); refine AWP.runL e tab_ok L15 300 rfl (by first | trivial | (simp [in64] <;> omega)) ?_)
          | (refine AWP.eq_agg e tab_ok rfl rfl rfl (.inl ⟨rfl, rfl⟩) ?_ 5 (by omega) rfl ?_ rfl rfl rfl rfl rfl rfl rfl ?_; (focus kernel_rfl); (focus kernel_rfl); refine AWP.runL e tab_ok L15 300 rfl (by first | trivial | (simp [in64] <;> omega)) ?_)
          | (refine AWP.eq_agg e tab_ok rfl rfl rfl (.inr ⟨rfl, rfl⟩) ?_ 5 (by omega) rfl ?_ rfl rfl rfl rfl rfl rfl rfl ?_; (focus kernel_rfl); (focus kernel_rfl); refine AWP.runL e tab_ok L15 300 rfl (by first | trivial | (simp [in64] <;> omega)) ?_)
          | (refine AWP.keep L15 rfl ?_; refine AWP.drg 100 ?_; (refine DrG.runS e tab_ok 200 rfl (by first | trivial | (simp [in64] <;> omega)) ?_); (repeat (first | (refine DrG.askT rfl ?_; (first | (refine Told.t rfl ?_) | (refine Told.f rfl ?_) | (refine Told.t ?_ ?_; (focus assumption)) | (refine Told.f ?_ ?_; (focus assumption)) | (refine Told.t ?_ ?_; (focus (first | (simp; omega) | (simp [*]; done)); done)) | (refine Told.f ?_ ?_; (focus (first | (simp; omega) | (simp [*]; done)); done))); (refine DrG.runS e tab_ok 200 rfl (by first | trivial | (simp [in64] <;> omega)) ?_)) | (refine DrG.callQ e rfl rfl ?_; (first | refine CallVQ.mk (w1) rfl rfl ?_ | refine CallVQ.mk (w2) rfl rfl ?_ | refine CallVQ.mk (w3) rfl rfl ?_ | refine CallVQ.mk (w4) rfl rfl ?_ | refine CallVQ.mk (w5) rfl rfl ?_ | refine CallVQ.mk (awake_3) rfl rfl ?_ | refine CallVQ.mk (sends_3) rfl rfl ?_ | refine CallVQ.mk (i1) rfl rfl ?_ | refine CallVQ.mk (i2) rfl rfl ?_ | refine CallVQ.mk (i3) rfl rfl ?_ | refine CallVQ.mk (i4) rfl rfl ?_); (refine DrG.runS e tab_ok 200 rfl (by first | trivial | (simp [in64] <;> omega)) ?_)) | (refine DrG.callGo e rfl rfl rfl ?_; (first | refine CallVQ.mk (w1) rfl rfl ?_ | refine CallVQ.mk (w2) rfl rfl ?_ | refine CallVQ.mk (w3) rfl rfl ?_ | refine CallVQ.mk (w4) rfl rfl ?_ | refine CallVQ.mk (w5) rfl rfl ?_ | refine CallVQ.mk (awake_3) rfl rfl ?_ | refine CallVQ.mk (sends_3) rfl rfl ?_ | refine CallVQ.mk (i1) rfl rfl ?_ | refine CallVQ.mk (i2) rfl rfl ?_ | refine CallVQ.mk (i3) rfl rfl ?_ | refine CallVQ.mk (i4) rfl rfl ?_); (refine DrG.runS e tab_ok 200 rfl (by first | trivial | (simp [in64] <;> omega)) ?_)) | (refine DrG.eq_agg e tab_ok rfl rfl rfl (.inl ⟨rfl, rfl⟩) ?_ 5 (by omega) rfl ?_ rfl rfl rfl rfl rfl rfl rfl ?_; (focus kernel_rfl); (focus kernel_rfl); (refine DrG.runS e tab_ok 200 rfl (by first | trivial | (simp [in64] <;> omega)) ?_)) | (refine DrG.eq_aggGo e tab_ok rfl rfl rfl rfl (.inl ⟨rfl, rfl⟩) ?_ 5 (by omega) rfl ?_ rfl rfl rfl rfl rfl rfl rfl ?_; (focus kernel_rfl); (focus kernel_rfl); (refine DrG.runS e tab_ok 200 rfl (by first | trivial | (simp [in64] <;> omega)) ?_)) | (refine DrG.eq_agg e tab_ok rfl rfl rfl (.inr ⟨rfl, rfl⟩) ?_ 5 (by omega) rfl ?_ rfl rfl rfl rfl rfl rfl rfl ?_; (focus kernel_rfl); (focus kernel_rfl); (refine DrG.runS e tab_ok 200 rfl (by first | trivial | (simp [in64] <;> omega)) ?_)) | (refine DrG.eq_aggGo e tab_ok rfl rfl rfl rfl (.inr ⟨rfl, rfl⟩) ?_ 5 (by omega) rfl ?_ rfl rfl rfl rfl rfl rfl rfl ?_; (focus kernel_rfl); (focus kernel_rfl); (refine DrG.runS e tab_ok 200 rfl (by first | trivial | (simp [in64] <;> omega)) ?_)))); refine DrG.finK e rfl ?_ rfl rfl rfl ?_ ?_; (focus kernel_rfl); (focus (repeat' (first | exact True.intro | (refine And.intro ?_ ?_) | rfl | assumption | exact okRow _))); dsimp only [tmS, hpS, tput, effH]; refine AWP.runL e tab_ok L15 300 rfl (by first | trivial | (simp [in64] <;> omega)) ?_)
        )
      refine AWP.ret e tab_ok rfl ?_
      rw [hP]
      all_goals first | rfl | (simp [strip]; done)
  | ready q =>
    · have i1 := is_off 1 p.rep
      have i2 := is_off 0 p.cyc
      have i3 := is_on q 1 p.hrd hs.1 hs.2
      have i4 := is_off 1 p.wt
      have w5 := within_ok 4 0 4 (by omega) (by omega)
      refine eff_of Try.func15 rfl rfl rfl fun cx e hP => ?_
      refine AWP.runL e tab_ok L15 300 rfl (by first | trivial | (simp [in64] <;> omega)) ?_
      repeat (
        first
          | (refine AWP.askT rfl ?_; (first | (refine Told.t rfl ?_) | (refine Told.f rfl ?_) | (refine Told.t ?_ ?_; (focus assumption)) | (refine Told.f ?_ ?_; (focus assumption)) | (refine Told.t ?_ ?_; (focus (first | (simp; omega) | (simp [*]; done)); done)) | (refine Told.f ?_ ?_; (focus (first | (simp; omega) | (simp [*]; done)); done))); refine AWP.runL e tab_ok L15 300 rfl (by first | trivial | (simp [in64] <;> omega)) ?_)
          | (refine AWP.callQ e rfl rfl ?_; (first | refine CallQ.mk (w1) rfl rfl ?_ | refine CallQ.mk (w2) rfl rfl ?_ | refine CallQ.mk (w3) rfl rfl ?_ | refine CallQ.mk (w4) rfl rfl ?_ | refine CallQ.mk (w5) rfl rfl ?_ | refine CallQ.mk (awake_4) rfl rfl ?_ | refine CallQ.mk (sends_4) rfl rfl ?_ | refine CallQ.mk (i1) rfl rfl ?_ | refine CallQ.mk (i2) rfl rfl ?_ | refine CallQ.mk (i3) rfl rfl ?_ | refine CallQ.mk (i4) rfl rfl ?_); refine AWP.runL e tab_ok L15 300 rfl (by first | trivial | (simp [in64] <;> omega)) ?_)
          | (refine AWP.eq_agg e tab_ok rfl rfl rfl (.inl ⟨rfl, rfl⟩) ?_ 5 (by omega) rfl ?_ rfl rfl rfl rfl rfl rfl rfl ?_; (focus kernel_rfl); (focus kernel_rfl); refine AWP.runL e tab_ok L15 300 rfl (by first | trivial | (simp [in64] <;> omega)) ?_)
          | (refine AWP.eq_agg e tab_ok rfl rfl rfl (.inr ⟨rfl, rfl⟩) ?_ 5 (by omega) rfl ?_ rfl rfl rfl rfl rfl rfl rfl ?_; (focus kernel_rfl); (focus kernel_rfl); refine AWP.runL e tab_ok L15 300 rfl (by first | trivial | (simp [in64] <;> omega)) ?_)
          | (refine AWP.keep L15 rfl ?_; refine AWP.drg 100 ?_; (refine DrG.runS e tab_ok 200 rfl (by first | trivial | (simp [in64] <;> omega)) ?_); (repeat (first | (refine DrG.askT rfl ?_; (first | (refine Told.t rfl ?_) | (refine Told.f rfl ?_) | (refine Told.t ?_ ?_; (focus assumption)) | (refine Told.f ?_ ?_; (focus assumption)) | (refine Told.t ?_ ?_; (focus (first | (simp; omega) | (simp [*]; done)); done)) | (refine Told.f ?_ ?_; (focus (first | (simp; omega) | (simp [*]; done)); done))); (refine DrG.runS e tab_ok 200 rfl (by first | trivial | (simp [in64] <;> omega)) ?_)) | (refine DrG.callQ e rfl rfl ?_; (first | refine CallVQ.mk (w1) rfl rfl ?_ | refine CallVQ.mk (w2) rfl rfl ?_ | refine CallVQ.mk (w3) rfl rfl ?_ | refine CallVQ.mk (w4) rfl rfl ?_ | refine CallVQ.mk (w5) rfl rfl ?_ | refine CallVQ.mk (awake_4) rfl rfl ?_ | refine CallVQ.mk (sends_4) rfl rfl ?_ | refine CallVQ.mk (i1) rfl rfl ?_ | refine CallVQ.mk (i2) rfl rfl ?_ | refine CallVQ.mk (i3) rfl rfl ?_ | refine CallVQ.mk (i4) rfl rfl ?_); (refine DrG.runS e tab_ok 200 rfl (by first | trivial | (simp [in64] <;> omega)) ?_)) | (refine DrG.callGo e rfl rfl rfl ?_; (first | refine CallVQ.mk (w1) rfl rfl ?_ | refine CallVQ.mk (w2) rfl rfl ?_ | refine CallVQ.mk (w3) rfl rfl ?_ | refine CallVQ.mk (w4) rfl rfl ?_ | refine CallVQ.mk (w5) rfl rfl ?_ | refine CallVQ.mk (awake_4) rfl rfl ?_ | refine CallVQ.mk (sends_4) rfl rfl ?_ | refine CallVQ.mk (i1) rfl rfl ?_ | refine CallVQ.mk (i2) rfl rfl ?_ | refine CallVQ.mk (i3) rfl rfl ?_ | refine CallVQ.mk (i4) rfl rfl ?_); (refine DrG.runS e tab_ok 200 rfl (by first | trivial | (simp [in64] <;> omega)) ?_)) | (refine DrG.eq_agg e tab_ok rfl rfl rfl (.inl ⟨rfl, rfl⟩) ?_ 5 (by omega) rfl ?_ rfl rfl rfl rfl rfl rfl rfl ?_; (focus kernel_rfl); (focus kernel_rfl); (refine DrG.runS e tab_ok 200 rfl (by first | trivial | (simp [in64] <;> omega)) ?_)) | (refine DrG.eq_aggGo e tab_ok rfl rfl rfl rfl (.inl ⟨rfl, rfl⟩) ?_ 5 (by omega) rfl ?_ rfl rfl rfl rfl rfl rfl rfl ?_; (focus kernel_rfl); (focus kernel_rfl); (refine DrG.runS e tab_ok 200 rfl (by first | trivial | (simp [in64] <;> omega)) ?_)) | (refine DrG.eq_agg e tab_ok rfl rfl rfl (.inr ⟨rfl, rfl⟩) ?_ 5 (by omega) rfl ?_ rfl rfl rfl rfl rfl rfl rfl ?_; (focus kernel_rfl); (focus kernel_rfl); (refine DrG.runS e tab_ok 200 rfl (by first | trivial | (simp [in64] <;> omega)) ?_)) | (refine DrG.eq_aggGo e tab_ok rfl rfl rfl rfl (.inr ⟨rfl, rfl⟩) ?_ 5 (by omega) rfl ?_ rfl rfl rfl rfl rfl rfl rfl ?_; (focus kernel_rfl); (focus kernel_rfl); (refine DrG.runS e tab_ok 200 rfl (by first | trivial | (simp [in64] <;> omega)) ?_)))); refine DrG.finK e rfl ?_ rfl rfl rfl ?_ ?_; (focus kernel_rfl); (focus (repeat' (first | exact True.intro | (refine And.intro ?_ ?_) | rfl | assumption | exact okRow _))); dsimp only [tmS, hpS, tput, effH]; refine AWP.runL e tab_ok L15 300 rfl (by first | trivial | (simp [in64] <;> omega)) ?_)
        )
      refine AWP.ret e tab_ok rfl ?_
      rw [hP]
      all_goals first | rfl | (simp [strip]; done)
end Go.Proofs.Ytmmpblbdjnlciaa
