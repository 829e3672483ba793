import Derived.Test.YtmmpblbdjnlciaaF1
open Go Go.Proofs Go.Sy
namespace Go.Proofs.Ytmmpblbdjnlciaa

def NS.aw : NS → Bool
  | .sleep | .prep _ => false
  | _ => true
def NS.wants : NS → Bool
  | .rep w _ _ _ => w
  | .norm _ _ => true
  | _ => false
def beginS (p : PV) (w : Bool) : NS := if p.rep = 0 then (if w then .norm 0 p.hrd else .ready p.hrd) else .rep w p.rep 0 p.hrd
def wantS (p : PV) (on : Bool) : NS → NS
  | .sleep => if on then beginS p true else .sleep
  | .prep l => if on then beginS p true else .prep l
  | .rep _ a x q => .rep on a x q
  | .norm x q => if on then .norm x q else .ready q
  | .ready q => if on then .norm 0 q else .ready q
def wakeS (p : PV) : NS → NS
  | .sleep => beginS p false
  | s => s
def heardS (p : PV) : NS → NS
  | .sleep => .sleep
  | .prep _ => beginS p false
  | .rep w a x _ => .rep w a x p.hrd
  | .norm x _ => .norm x p.hrd
  | .ready _ => .ready p.hrd
def sentS (p : PV) : NS → NS
  | .sleep => .sleep
  | .prep l => .prep l
  | .rep w a x _ => .rep w a x p.hrd
  | .norm x _ => .norm x p.hrd
  | .ready _ => .ready p.hrd
def qd (p : PV) (q : Int) : Int := if q - 1 > 0 then q - 1 else p.hrd
def xd (p : PV) (x : Int) : Int := if x > 0 then x - 1 else p.cyc - 1
def tickS (p : PV) : NS → NS
  | .sleep => .sleep
  | .prep l => if l - 1 = 0 then .sleep else .prep (l - 1)
  | .rep w a x q => if a - 1 = 0 then (if w then .norm 0 (qd p q) else .ready (qd p q)) else .rep w (a - 1) (xd p x) (qd p q)
  | .norm x q => .norm (xd p x) (qd p q)
  | .ready q => if q - 1 > 0 then .ready (q - 1) else .prep p.wt
def tickB : NS → Bool
  | .rep _ _ x _ => decide (¬ x > 0)
  | .norm x _ => decide (¬ x > 0)
  | _ => false

theorem beginS_ok {p : PV} (hp : OkP p) (w : Bool) : OkS p (beginS p w) := by
  have := hp.r0; have := hp.c0; have := hp.h0
  unfold beginS
  split
  · cases w
    · exact ⟨by omega, Int.le_refl _⟩
    · exact ⟨⟨Int.le_refl _, by omega⟩, by omega, Int.le_refl _⟩
  · exact ⟨⟨by omega, Int.le_refl _⟩, ⟨Int.le_refl _, by omega⟩, by omega, Int.le_refl _⟩
theorem wantS_ok {p : PV} (hp : OkP p) (on : Bool) {s : NS} (hs : OkS p s) : OkS p (wantS p on s) := by
  have := hp.c0
  cases s with
  | sleep => cases on; exact trivial; exact beginS_ok hp true
  | prep l => cases on; exact hs; exact beginS_ok hp true
  | rep w a x q => exact hs
  | norm x q => cases on; exact hs.2; exact hs
  | ready q => cases on; exact hs; exact ⟨⟨Int.le_refl _, by omega⟩, hs⟩
theorem wakeS_ok {p : PV} (hp : OkP p) {s : NS} (hs : OkS p s) : OkS p (wakeS p s) := by
  cases s with
  | sleep => exact beginS_ok hp false
  | _ => exact hs
theorem heardS_ok {p : PV} (hp : OkP p) {s : NS} (hs : OkS p s) : OkS p (heardS p s) := by
  have := hp.h0
  cases s with
  | sleep => exact trivial
  | prep l => exact beginS_ok hp false
  | rep w a x q => exact ⟨hs.1, hs.2.1, by omega, Int.le_refl _⟩
  | norm x q => exact ⟨hs.1, by omega, Int.le_refl _⟩
  | ready q => exact ⟨by omega, Int.le_refl _⟩
theorem sentS_ok {p : PV} (hp : OkP p) {s : NS} (hs : OkS p s) : OkS p (sentS p s) := by
  have := hp.h0
  cases s with
  | sleep => exact trivial
  | prep l => exact hs
  | rep w a x q => exact ⟨hs.1, hs.2.1, by omega, Int.le_refl _⟩
  | norm x q => exact ⟨hs.1, by omega, Int.le_refl _⟩
  | ready q => exact ⟨by omega, Int.le_refl _⟩
theorem qd_ok {p : PV} (hp : OkP p) {q : Int} (h : q ≤ p.hrd) : 1 ≤ qd p q ∧ qd p q ≤ p.hrd := by
  have := hp.h0
  unfold qd; split <;> omega
theorem xd_ok {p : PV} (hp : OkP p) {x : Int} (h : x ≤ p.cyc) : 0 ≤ xd p x ∧ xd p x ≤ p.cyc := by
  have := hp.c0
  unfold xd; split <;> omega
theorem tickS_ok {p : PV} (hp : OkP p) {s : NS} (hs : OkS p s) : OkS p (tickS p s) := by
  have := hp.h0; have := hp.c0; have := hp.w0
  cases s with
  | sleep => exact trivial
  | prep l =>
    show OkS p (if l - 1 = 0 then .sleep else .prep (l - 1))
    have h1 : 1 ≤ l ∧ l ≤ p.wt := hs
    split
    · exact trivial
    · exact ⟨by omega, by omega⟩
  | rep w a x q =>
    obtain ⟨h1, h2, h3⟩ := hs
    show OkS p (if a - 1 = 0 then (if w then .norm 0 (qd p q) else .ready (qd p q)) else .rep w (a - 1) (xd p x) (qd p q))
    split
    · cases w
      · exact qd_ok hp h3.2
      · exact ⟨⟨Int.le_refl _, by omega⟩, qd_ok hp h3.2⟩
    · exact ⟨⟨by omega, by omega⟩, xd_ok hp h2.2, qd_ok hp h3.2⟩
  | norm x q => exact ⟨xd_ok hp hs.1.2, qd_ok hp hs.2.2⟩
  | ready q =>
    show OkS p (if q - 1 > 0 then .ready (q - 1) else .prep p.wt)
    have h1 : 1 ≤ q ∧ q ≤ p.hrd := hs
    split
    · exact ⟨by omega, by omega⟩
    · exact ⟨by omega, Int.le_refl _⟩

set_option maxRecDepth 100000 in
theorem new_ok (p : PV) (hp : OkP p) : Eff Try.prog 6 [.i p.rep, .i p.cyc, .i p.hrd, .i p.wt] [] 0 (fun r _ _ => r = .tup [.agg (nC p .sleep), .i 0]) := by
  have hr := right_ok p hp .sleep trivial
  refine eff_of Try.func6 rfl rfl rfl fun cx e hP => ?_
  refine AWP.runL e tab_ok L6 300 rfl (by first | trivial | (simp [in64] <;> omega)) ?_
  repeat (
    first
      | (refine AWP.askT rfl ?_; (first | (refine Told.t rfl ?_) | (refine Told.f rfl ?_) | (refine Told.t ?_ ?_; (focus assumption)) | (refine Told.f ?_ ?_; (focus assumption)) | (refine Told.t ?_ ?_; (focus (first | (simp; omega) | (simp [*]; done)); done)) | (refine Told.f ?_ ?_; (focus (first | (simp; omega) | (simp [*]; done)); done))); refine AWP.runL e tab_ok L6 300 rfl (by first | trivial | (simp [in64] <;> omega)) ?_)
      | (refine AWP.callQ e rfl rfl ?_; (first | refine CallQ.mk (hr) rfl rfl ?_); refine AWP.runL e tab_ok L6 300 rfl (by first | trivial | (simp [in64] <;> omega)) ?_)
      | (refine AWP.eq_agg e tab_ok rfl rfl rfl (.inl ⟨rfl, rfl⟩) ?_ 5 (by omega) rfl ?_ rfl rfl rfl rfl rfl rfl rfl ?_; (focus kernel_rfl); (focus kernel_rfl); refine AWP.runL e tab_ok L6 300 rfl (by first | trivial | (simp [in64] <;> omega)) ?_)
      | (refine AWP.eq_agg e tab_ok rfl rfl rfl (.inr ⟨rfl, rfl⟩) ?_ 5 (by omega) rfl ?_ rfl rfl rfl rfl rfl rfl rfl ?_; (focus kernel_rfl); (focus kernel_rfl); refine AWP.runL e tab_ok L6 300 rfl (by first | trivial | (simp [in64] <;> omega)) ?_)
    )
  refine AWP.ret e tab_ok rfl ?_
  rw [hP]
  all_goals first | rfl | (simp [strip]; done)

set_option maxRecDepth 100000 in
theorem awakeq_ok (p : PV) (hp : OkP p) (s : NS) (hs : OkS p s) : Eff Try.prog 11 [.agg (nC p s)] [] 0 (fun r _ _ => r = .b s.aw) := by
  have hr := right_ok p hp s hs
  refine eff_of Try.func11 rfl rfl rfl fun cx e hP => ?_
  cases s with
  | sleep =>
    refine AWP.runL e tab_ok L11 300 rfl (by first | trivial | (simp [in64] <;> omega)) ?_
    repeat (
      first
        | (refine AWP.askT rfl ?_; (first | (refine Told.t rfl ?_) | (refine Told.f rfl ?_) | (refine Told.t ?_ ?_; (focus assumption)) | (refine Told.f ?_ ?_; (focus assumption)) | (refine Told.t ?_ ?_; (focus (first | (simp; omega) | (simp [*]; done)); done)) | (refine Told.f ?_ ?_; (focus (first | (simp; omega) | (simp [*]; done)); done))); refine AWP.runL e tab_ok L11 300 rfl (by first | trivial | (simp [in64] <;> omega)) ?_)
        | (refine AWP.callQ e rfl rfl ?_; (first | refine CallQ.mk (hr) rfl rfl ?_ | refine CallQ.mk (awake_0) rfl rfl ?_); refine AWP.runL e tab_ok L11 300 rfl (by first | trivial | (simp [in64] <;> omega)) ?_)
        | (refine AWP.eq_agg e tab_ok rfl rfl rfl (.inl ⟨rfl, rfl⟩) ?_ 5 (by omega) rfl ?_ rfl rfl rfl rfl rfl rfl rfl ?_; (focus kernel_rfl); (focus kernel_rfl); refine AWP.runL e tab_ok L11 300 rfl (by first | trivial | (simp [in64] <;> omega)) ?_)
        | (refine AWP.eq_agg e tab_ok rfl rfl rfl (.inr ⟨rfl, rfl⟩) ?_ 5 (by omega) rfl ?_ rfl rfl rfl rfl rfl rfl rfl ?_; (focus kernel_rfl); (focus kernel_rfl); refine AWP.runL e tab_ok L11 300 rfl (by first | trivial | (simp [in64] <;> omega)) ?_)
      )
    refine AWP.ret e tab_ok rfl ?_
    rw [hP]
    all_goals first | rfl | (simp [strip]; done)
  | prep l =>
    refine AWP.runL e tab_ok L11 300 rfl (by first | trivial | (simp [in64] <;> omega)) ?_
    repeat (
      first
        | (refine AWP.askT rfl ?_; (first | (refine Told.t rfl ?_) | (refine Told.f rfl ?_) | (refine Told.t ?_ ?_; (focus assumption)) | (refine Told.f ?_ ?_; (focus assumption)) | (refine Told.t ?_ ?_; (focus (first | (simp; omega) | (simp [*]; done)); done)) | (refine Told.f ?_ ?_; (focus (first | (simp; omega) | (simp [*]; done)); done))); refine AWP.runL e tab_ok L11 300 rfl (by first | trivial | (simp [in64] <;> omega)) ?_)
        | (refine AWP.callQ e rfl rfl ?_; (first | refine CallQ.mk (hr) rfl rfl ?_ | refine CallQ.mk (awake_1) rfl rfl ?_); refine AWP.runL e tab_ok L11 300 rfl (by first | trivial | (simp [in64] <;> omega)) ?_)
        | (refine AWP.eq_agg e tab_ok rfl rfl rfl (.inl ⟨rfl, rfl⟩) ?_ 5 (by omega) rfl ?_ rfl rfl rfl rfl rfl rfl rfl ?_; (focus kernel_rfl); (focus kernel_rfl); refine AWP.runL e tab_ok L11 300 rfl (by first | trivial | (simp [in64] <;> omega)) ?_)
        | (refine AWP.eq_agg e tab_ok rfl rfl rfl (.inr ⟨rfl, rfl⟩) ?_ 5 (by omega) rfl ?_ rfl rfl rfl rfl rfl rfl rfl ?_; (focus kernel_rfl); (focus kernel_rfl); refine AWP.runL e tab_ok L11 300 rfl (by first | trivial | (simp [in64] <;> omega)) ?_)
      )
    refine AWP.ret e tab_ok rfl ?_
    rw [hP]
    all_goals first | rfl | (simp [strip]; done)
  | rep w a x q =>
    refine AWP.runL e tab_ok L11 300 rfl (by first | trivial | (simp [in64] <;> omega)) ?_
    repeat (
      first
        | (refine AWP.askT rfl ?_; (first | (refine Told.t rfl ?_) | (refine Told.f rfl ?_) | (refine Told.t ?_ ?_; (focus assumption)) | (refine Told.f ?_ ?_; (focus assumption)) | (refine Told.t ?_ ?_; (focus (first | (simp; omega) | (simp [*]; done)); done)) | (refine Told.f ?_ ?_; (focus (first | (simp; omega) | (simp [*]; done)); done))); refine AWP.runL e tab_ok L11 300 rfl (by first | trivial | (simp [in64] <;> omega)) ?_)
        | (refine AWP.callQ e rfl rfl ?_; (first | refine CallQ.mk (hr) rfl rfl ?_ | refine CallQ.mk (awake_2) rfl rfl ?_); refine AWP.runL e tab_ok L11 300 rfl (by first | trivial | (simp [in64] <;> omega)) ?_)
        | (refine AWP.eq_agg e tab_ok rfl rfl rfl (.inl ⟨rfl, rfl⟩) ?_ 5 (by omega) rfl ?_ rfl rfl rfl rfl rfl rfl rfl ?_; (focus kernel_rfl); (focus kernel_rfl); refine AWP.runL e tab_ok L11 300 rfl (by first | trivial | (simp [in64] <;> omega)) ?_)
        | (refine AWP.eq_agg e tab_ok rfl rfl rfl (.inr ⟨rfl, rfl⟩) ?_ 5 (by omega) rfl ?_ rfl rfl rfl rfl rfl rfl rfl ?_; (focus kernel_rfl); (focus kernel_rfl); refine AWP.runL e tab_ok L11 300 rfl (by first | trivial | (simp [in64] <;> omega)) ?_)
      )
    refine AWP.ret e tab_ok rfl ?_
    rw [hP]
    all_goals first | rfl | (simp [strip]; done)
  | norm x q =>
    refine AWP.runL e tab_ok L11 300 rfl (by first | trivial | (simp [in64] <;> omega)) ?_
    repeat (
      first
        | (refine AWP.askT rfl ?_; (first | (refine Told.t rfl ?_) | (refine Told.f rfl ?_) | (refine Told.t ?_ ?_; (focus assumption)) | (refine Told.f ?_ ?_; (focus assumption)) | (refine Told.t ?_ ?_; (focus (first | (simp; omega) | (simp [*]; done)); done)) | (refine Told.f ?_ ?_; (focus (first | (simp; omega) | (simp [*]; done)); done))); refine AWP.runL e tab_ok L11 300 rfl (by first | trivial | (simp [in64] <;> omega)) ?_)
        | (refine AWP.callQ e rfl rfl ?_; (first | refine CallQ.mk (hr) rfl rfl ?_ | refine CallQ.mk (awake_3) rfl rfl ?_); refine AWP.runL e tab_ok L11 300 rfl (by first | trivial | (simp [in64] <;> omega)) ?_)
        | (refine AWP.eq_agg e tab_ok rfl rfl rfl (.inl ⟨rfl, rfl⟩) ?_ 5 (by omega) rfl ?_ rfl rfl rfl rfl rfl rfl rfl ?_; (focus kernel_rfl); (focus kernel_rfl); refine AWP.runL e tab_ok L11 300 rfl (by first | trivial | (simp [in64] <;> omega)) ?_)
        | (refine AWP.eq_agg e tab_ok rfl rfl rfl (.inr ⟨rfl, rfl⟩) ?_ 5 (by omega) rfl ?_ rfl rfl rfl rfl rfl rfl rfl ?_; (focus kernel_rfl); (focus kernel_rfl); refine AWP.runL e tab_ok L11 300 rfl (by first | trivial | (simp [in64] <;> omega)) ?_)
      )
    refine AWP.ret e tab_ok rfl ?_
    rw [hP]
    all_goals first | rfl | (simp [strip]; done)
  | ready q =>
    refine AWP.runL e tab_ok L11 300 rfl (by first | trivial | (simp [in64] <;> omega)) ?_
    repeat (
      first
        | (refine AWP.askT rfl ?_; (first | (refine Told.t rfl ?_) | (refine Told.f rfl ?_) | (refine Told.t ?_ ?_; (focus assumption)) | (refine Told.f ?_ ?_; (focus assumption)) | (refine Told.t ?_ ?_; (focus (first | (simp; omega) | (simp [*]; done)); done)) | (refine Told.f ?_ ?_; (focus (first | (simp; omega) | (simp [*]; done)); done))); refine AWP.runL e tab_ok L11 300 rfl (by first | trivial | (simp [in64] <;> omega)) ?_)
        | (refine AWP.callQ e rfl rfl ?_; (first | refine CallQ.mk (hr) rfl rfl ?_ | refine CallQ.mk (awake_4) rfl rfl ?_); refine AWP.runL e tab_ok L11 300 rfl (by first | trivial | (simp [in64] <;> omega)) ?_)
        | (refine AWP.eq_agg e tab_ok rfl rfl rfl (.inl ⟨rfl, rfl⟩) ?_ 5 (by omega) rfl ?_ rfl rfl rfl rfl rfl rfl rfl ?_; (focus kernel_rfl); (focus kernel_rfl); refine AWP.runL e tab_ok L11 300 rfl (by first | trivial | (simp [in64] <;> omega)) ?_)
        | (refine AWP.eq_agg e tab_ok rfl rfl rfl (.inr ⟨rfl, rfl⟩) ?_ 5 (by omega) rfl ?_ rfl rfl rfl rfl rfl rfl rfl ?_; (focus kernel_rfl); (focus kernel_rfl); refine AWP.runL e tab_ok L11 300 rfl (by first | trivial | (simp [in64] <;> omega)) ?_)
      )
    refine AWP.ret e tab_ok rfl ?_
    rw [hP]
    all_goals first | rfl | (simp [strip]; done)

end Go.Proofs.Ytmmpblbdjnlciaa
