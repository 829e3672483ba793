import Derived.Test.YtaiejjfikdpccaaF6
open Go Go.Proofs Go.Sy
namespace Go.Proofs.Ytaiejjfikdpccaa

theorem bounds {s : SE} (h : rightB s = true) : (0 ≤ s.hold ∧ s.hold ≤ 1000000) ∧ (0 ≤ s.period ∧ s.period ≤ 1000000) ∧ (0 ≤ s.gap ∧ s.gap ≤ 1000000) ∧ (0 ≤ s.left ∧ s.left ≤ 100) := by
  have hw := wayB_iff.1 (way_ok h)
  obtain ⟨h1, h2, h3, h4, h5, h6, h7, h8⟩ := rightB_iff.1 h
  have e1 : 0 ≤ s.period ∧ s.period ≤ 1000000 := by
    unfold leastP topP mx at h5
    rcases cases_b (perB s.way) with hb | hb <;> rw [hb] at h5
    · simp only [if_true] at h5
      split at h5 <;> split at h5 <;> omega
    · simp at h5; omega
  have e2 : s.left ≤ 100 := by
    unfold repsD at h6
    split at h6 <;> omega
  refine ⟨by omega, e1, ?_, by omega⟩
  by_cases hl : s.left > 0
  · have := h7 hl; omega
  · have := h8 hl; omega
theorem fnrow (n : Nat) : ∀ e ∈ [[SV.fn (Fn.func 22) [SV.ptr 2 0] []], [SV.fn (Fn.func 23) [SV.ptr 2 0] []]], SV.idsLt.go (n + 3) e = true := by
  intro e he
  simp at he
  rcases he with rfl | rfl <;> simp [SV.idsLt.go, SV.idsLt]
abbrev lC (t : SE) (pe ga le ho : Int) (ak : Bool) : List SV := [.i t.t.kind, .i t.t.first, .i t.t.per, .i t.t.reps, .i t.t.gap, .i t.f.kind, .i t.f.first, .i t.f.per, .i t.f.reps, .i t.f.gap, .b t.on, .i t.delay, .i pe, .i ga, .i le, .i ho, .b ak]
def duS (t : SE) : Nat → Bool
  | 0 => t.asked
  | 1 => perD t || t.asked
  | _ => dueB t
def tkS (t : SE) : Nat → SE
  | 0 => tick1 t
  | 1 => tick2 t
  | _ => tick3 t

set_option maxHeartbeats 4000000 in
set_option maxRecDepth 100000 in
theorem run_gen (s : SE) (n : Nat) (hr : rightB s = true) (hn : n ≤ 10000) (Post : SV → List (Nat × Blk) → Nat → Prop)
    (fin : ∀ (cx : Cx) (k : List It) (C : Nat), Env cx Try.prog Try.f7 0 → cx.Post = Post → (out s n).length ≤ C → AWP cx (.code .ret :: k) ⟨[(4, .ptr 1 0), (5, .own 3 1 0 (out s n).length C), (6, .i 0)], [(1, .box (sC (runS s n))), (3, .row 3 false 1 ((ints (out s n)).map (·.map SV.d)) C)], 4⟩) :
    Eff Try.prog 7 [.agg (sC s), .i n] [] 0 Post := by
  have c1 := right_eff s
  rw [hr] at c1
  have c2 := within_eff n 0 10000
  rw [inB_t.2 ⟨by omega, by omega⟩] at c2
  refine eff_of Try.func7 rfl rfl rfl fun cx e hP => ?_
  refine AWP.runL e tab_ok L7 300 rfl (by first | trivial | (simp [in64] <;> omega)) ?_
  repeat (
    first
      | (refine AWP.askT rfl ?_; (first | (refine Told.t rfl ?_) | (refine Told.f rfl ?_) | (refine Told.t ?_ ?_; (focus assumption)) | (refine Told.f ?_ ?_; (focus assumption)) | (refine Told.t ?_ ?_; (focus (first | (simp; omega) | (simp [*]; done)); done)) | (refine Told.f ?_ ?_; (focus (first | (simp; omega) | (simp [*]; done)); done))); refine AWP.runL e tab_ok L7 300 rfl (by first | trivial | (simp [in64] <;> omega)) ?_)
      | (refine AWP.callQ e rfl rfl ?_; (first | refine CallQ.mk (c1) rfl rfl ?_ | refine CallQ.mk (c2) rfl rfl ?_); refine AWP.runL e tab_ok L7 300 rfl (by first | trivial | (simp [in64] <;> omega)) ?_)
      | (refine AWP.eq_agg e tab_ok rfl rfl rfl (.inl ⟨rfl, rfl⟩) ?_ 5 (by omega) rfl ?_ rfl rfl rfl rfl rfl rfl rfl ?_; (focus kernel_rfl); (focus kernel_rfl); refine AWP.runL e tab_ok L7 300 rfl (by first | trivial | (simp [in64] <;> omega)) ?_)
      | (refine AWP.eq_agg e tab_ok rfl rfl rfl (.inr ⟨rfl, rfl⟩) ?_ 5 (by omega) rfl ?_ rfl rfl rfl rfl rfl rfl rfl ?_; (focus kernel_rfl); (focus kernel_rfl); refine AWP.runL e tab_ok L7 300 rfl (by first | trivial | (simp [in64] <;> omega)) ?_)
    )
  clear c1 c2
  refine AWP.nil_own (t := 8) rfl 3 1 ?_
  refine AWP.loop (ι := Nat × Nat) (fun x => ⟨[(23, .i x.1), (22, .i n), (8, .own 3 1 0 (out s x.1).length x.2), (7, .ptr 2 0), (4, .ptr 1 0)], [(1, .box (sC SE.zero)), (2, .box (sC (runS s x.1))), (3, .row 3 false 1 ((ints (out s x.1)).map (·.map SV.d)) x.2)], 4⟩) (fun x => x.1 ≤ n ∧ (out s x.1).length ≤ x.2) (fun x => n - x.1) (0, 0) ⟨Nat.zero_le _, Nat.le_refl _⟩ ?_ ?_
  · intro g
    refine AWP.less e ?_ ?_ ?_ ?_ ?_ (g) <;> (repeat' (first | exact True.intro | (refine And.intro ?_ ?_) | rfl | assumption))
    exact fun e he => ints_ok _ _ e he
  rintro ⟨i, C⟩ Φ hI next
  have hI : i ≤ n ∧ (out s i).length ≤ C := hI
  refine AWP.runL e tab_ok L7 300 rfl (by first | trivial | (simp [in64] <;> omega)) ?_
  refine AWP.cond2 rfl (fun hlt => ?_) (fun hlt => ?_)
  rotate_left
  · obtain rfl : i = n := by have := hI.1; simp at hlt; omega
    refine AWP.runL e tab_ok L7 300 rfl (by first | trivial | (simp [in64] <;> omega)) ?_
    refine AWP.less e ?_ ?_ ?_ ?_ ?_ (fin _ _ C e hP hI.2) <;> (repeat' (first | exact True.intro | (refine And.intro ?_ ?_) | rfl | assumption))
    exact fun e he => ints_ok _ _ e he
  have hlt : i < n := by simp at hlt; omega
  obtain ⟨t, ht⟩ : ∃ t, t = runS s i := ⟨_, rfl⟩
  have hrt := right_run hr i
  rw [← ht] at hrt ⊢
  obtain ⟨⟨b1, b2⟩, ⟨b3, b4⟩, ⟨b5, b6⟩, b7, b8⟩ := bounds hrt
  refine AWP.runL e tab_ok L7 300 rfl (by first | trivial | (simp [in64] <;> omega)) ?_
  refine AWP.enter e rfl Try.func16 rfl rfl rfl rfl fun cx' e' hP' => ?_
  refine AWP.runL e' tab_ok L16 300 rfl (by first | trivial | (simp [in64] <;> omega)) ?_
  refine AWP.loop (ι := Nat) (fun j => ⟨[(28, .i j), (27, .i 2), (26, .own 4 1 0 2 2), (0, .ptr 2 0), (3, .b (duS t j))], [(4, .row 30 false 1 [[.fn (.func 22) [.ptr 2 0] []], [.fn (.func 23) [.ptr 2 0] []]] 2), (2, .box (sC (tkS t j))), (1, .box (sC SE.zero)), (3, .row 3 false 1 ((ints (out s i)).map (·.map SV.d)) C)], 5⟩) (fun j => j ≤ 2) (fun j => 2 - j) 0 (Nat.zero_le _) ?_ ?_
  · intro g
    refine AWP.less e' ?_ ?_ ?_ ?_ ?_ (g) <;> (repeat' (first | exact True.intro | (refine And.intro ?_ ?_) | rfl | assumption))
    · exact fnrow _
    · exact fun e he => ints_ok _ _ e he
  rintro j Φ2 hj next2
  rcases (show j = 0 ∨ j = 1 ∨ j = 2 by have : j ≤ 2 := hj; omega) with rfl | rfl | rfl
  · have nx2 := next2 1 (by decide) (by decide)
    clear next2 next
    have hpc := periodic_eff t.way
    have hd : duS t 1 = (perD t || t.asked) := rfl
    have hk : tkS t 1 = ⟨t.t, t.f, t.on, t.delay, perP t, t.gap, t.left, hold1 t, t.asked⟩ := rfl
    rw [hd, hk] at nx2
    unfold perD perP at nx2
    clear hd hk
    refine AWP.eqH 2 (lC t t.period t.gap t.left (hold1 t) t.asked) rfl rfl ?_
    refine AWP.runL e' tab_ok L16 300 rfl (by first | trivial | (simp [in64] <;> omega)) ?_
    repeat (
      first
        | (refine AWP.askT rfl ?_; (first | (refine Told.t rfl ?_) | (refine Told.f rfl ?_) | (refine Told.t ?_ ?_; (focus assumption)) | (refine Told.f ?_ ?_; (focus assumption)) | (refine Told.t ?_ ?_; (focus (first | (simp; omega) | (simp [*]; done)); done)) | (refine Told.f ?_ ?_; (focus (first | (simp; omega) | (simp [*]; done)); done))); refine AWP.runL e' tab_ok L16 300 rfl (by first | trivial | (simp [in64] <;> omega)) ?_)
        | (refine AWP.eq_agg e' tab_ok rfl rfl rfl (.inl ⟨rfl, rfl⟩) ?_ 5 (by omega) rfl ?_ rfl rfl rfl rfl rfl rfl rfl ?_; (focus kernel_rfl); (focus kernel_rfl); refine AWP.runL e' tab_ok L16 300 rfl (by first | trivial | (simp [in64] <;> omega)) ?_)
        | (refine AWP.eq_agg e' tab_ok rfl rfl rfl (.inr ⟨rfl, rfl⟩) ?_ 5 (by omega) rfl ?_ rfl rfl rfl rfl rfl rfl rfl ?_; (focus kernel_rfl); (focus kernel_rfl); refine AWP.runL e' tab_ok L16 300 rfl (by first | trivial | (simp [in64] <;> omega)) ?_)
      )
    refine AWP.idx_own e' tab_ok rfl rfl rfl rfl 0 rfl (by decide) ?_
    refine AWP.runL e' tab_ok L16 300 rfl (by first | trivial | (simp [in64] <;> omega)) ?_
    refine AWP.load_el e' tab_ok rfl rfl rfl rfl (el := [.fn (.func 22) [.ptr 2 0] []]) rfl rfl ?_
    refine AWP.runL e' tab_ok L16 300 rfl (by first | trivial | (simp [in64] <;> omega)) ?_
    rcases cases_b t.on with h | h
    · rw [way_t h] at hpc nx2
      rcases cases_b (perB t.t) with h1 | h1 <;> rw [h1] at hpc nx2
      · rcases cases_b (decide (t.period - 1 > 0)) with h2 | h2
        · rw [h2, if_pos rfl, if_pos (of_decide_eq_true h2)] at nx2
          refine AWP.enter e' rfl Try.func22 rfl rfl rfl rfl fun cx'' e'' hP'' => ?_
          refine AWP.runL e'' tab_ok L22 300 rfl (by first | trivial | (simp [in64] <;> omega)) ?_
          refine AWP.enter e'' rfl Try.func19 rfl rfl rfl rfl fun cx''' e''' hP''' => ?_
          refine AWP.runL e''' tab_ok L19 300 rfl (by first | trivial | (simp [in64] <;> omega)) ?_
          repeat (
            first
              | (refine AWP.askT rfl ?_; (first | (refine Told.t rfl ?_) | (refine Told.f rfl ?_) | (refine Told.t ?_ ?_; (focus assumption)) | (refine Told.f ?_ ?_; (focus assumption)) | (refine Told.t ?_ ?_; (focus (first | (simp; omega) | (simp [*]; done)); done)) | (refine Told.f ?_ ?_; (focus (first | (simp; omega) | (simp [*]; done)); done))); refine AWP.runL e''' tab_ok L19 300 rfl (by first | trivial | (simp [in64] <;> omega)) ?_)
              | (refine AWP.eq_agg e''' tab_ok rfl rfl rfl (.inl ⟨rfl, rfl⟩) ?_ 5 (by omega) rfl ?_ rfl rfl rfl rfl rfl rfl rfl ?_; (focus kernel_rfl); (focus kernel_rfl); refine AWP.runL e''' tab_ok L19 300 rfl (by first | trivial | (simp [in64] <;> omega)) ?_)
              | (refine AWP.eq_agg e''' tab_ok rfl rfl rfl (.inr ⟨rfl, rfl⟩) ?_ 5 (by omega) rfl ?_ rfl rfl rfl rfl rfl rfl rfl ?_; (focus kernel_rfl); (focus kernel_rfl); refine AWP.runL e''' tab_ok L19 300 rfl (by first | trivial | (simp [in64] <;> omega)) ?_)
            )
          (first | (refine AWP.ret e''' tab_ok rfl ?_) | (refine AWP.fin e''' tab_ok rfl ?_)); rw [hP''']; show AWP cx'' _ _
          refine AWP.runL e'' tab_ok L22 300 rfl (by first | trivial | (simp [in64] <;> omega)) ?_
          refine AWP.runL e'' tab_ok L22 300 rfl (by first | trivial | (simp [in64] <;> omega)) ?_
          repeat (
            first
              | (refine AWP.askT rfl ?_; (first | (refine Told.t rfl ?_) | (refine Told.f rfl ?_) | (refine Told.t ?_ ?_; (focus assumption)) | (refine Told.f ?_ ?_; (focus assumption)) | (refine Told.t ?_ ?_; (focus (first | (simp; omega) | (simp [*]; done)); done)) | (refine Told.f ?_ ?_; (focus (first | (simp; omega) | (simp [*]; done)); done))); refine AWP.runL e'' tab_ok L22 300 rfl (by first | trivial | (simp [in64] <;> omega)) ?_)
              | (refine AWP.callQ e'' rfl rfl ?_; (first | refine CallQ.mk (hpc) rfl rfl ?_); refine AWP.runL e'' tab_ok L22 300 rfl (by first | trivial | (simp [in64] <;> omega)) ?_)
              | (refine AWP.eq_agg e'' tab_ok rfl rfl rfl (.inl ⟨rfl, rfl⟩) ?_ 5 (by omega) rfl ?_ rfl rfl rfl rfl rfl rfl rfl ?_; (focus kernel_rfl); (focus kernel_rfl); refine AWP.runL e'' tab_ok L22 300 rfl (by first | trivial | (simp [in64] <;> omega)) ?_)
              | (refine AWP.eq_agg e'' tab_ok rfl rfl rfl (.inr ⟨rfl, rfl⟩) ?_ 5 (by omega) rfl ?_ rfl rfl rfl rfl rfl rfl rfl ?_; (focus kernel_rfl); (focus kernel_rfl); refine AWP.runL e'' tab_ok L22 300 rfl (by first | trivial | (simp [in64] <;> omega)) ?_)
            )
          repeat (
            first
              | (refine AWP.askT rfl ?_; (first | (refine Told.t rfl ?_) | (refine Told.f rfl ?_) | (refine Told.t ?_ ?_; (focus assumption)) | (refine Told.f ?_ ?_; (focus assumption)) | (refine Told.t ?_ ?_; (focus (first | (simp; omega) | (simp [*]; done)); done)) | (refine Told.f ?_ ?_; (focus (first | (simp; omega) | (simp [*]; done)); done))); refine AWP.runL e'' tab_ok L22 300 rfl (by first | trivial | (simp [in64] <;> omega)) ?_)
              | (refine AWP.eq_agg e'' tab_ok rfl rfl rfl (.inl ⟨rfl, rfl⟩) ?_ 5 (by omega) rfl ?_ rfl rfl rfl rfl rfl rfl rfl ?_; (focus kernel_rfl); (focus kernel_rfl); refine AWP.runL e'' tab_ok L22 300 rfl (by first | trivial | (simp [in64] <;> omega)) ?_)
              | (refine AWP.eq_agg e'' tab_ok rfl rfl rfl (.inr ⟨rfl, rfl⟩) ?_ 5 (by omega) rfl ?_ rfl rfl rfl rfl rfl rfl rfl ?_; (focus kernel_rfl); (focus kernel_rfl); refine AWP.runL e'' tab_ok L22 300 rfl (by first | trivial | (simp [in64] <;> omega)) ?_)
              | (refine AWP.keep L22 rfl ?_; refine AWP.drg 100 ?_; (refine DrG.runS e'' tab_ok 200 rfl (by first | trivial | (simp [in64] <;> omega)) ?_); (repeat (first | (refine DrG.askT rfl ?_; (first | (refine Told.t rfl ?_) | (refine Told.f rfl ?_) | (refine Told.t ?_ ?_; (focus assumption)) | (refine Told.f ?_ ?_; (focus assumption)) | (refine Told.t ?_ ?_; (focus (first | (simp; omega) | (simp [*]; done)); done)) | (refine Told.f ?_ ?_; (focus (first | (simp; omega) | (simp [*]; done)); done))); (refine DrG.runS e'' tab_ok 200 rfl (by first | trivial | (simp [in64] <;> omega)) ?_)) | (refine DrG.eq_agg e'' tab_ok rfl rfl rfl (.inl ⟨rfl, rfl⟩) ?_ 5 (by omega) rfl ?_ rfl rfl rfl rfl rfl rfl rfl ?_; (focus kernel_rfl); (focus kernel_rfl); (refine DrG.runS e'' tab_ok 200 rfl (by first | trivial | (simp [in64] <;> omega)) ?_)) | (refine DrG.eq_aggGo e'' tab_ok rfl rfl rfl rfl (.inl ⟨rfl, rfl⟩) ?_ 5 (by omega) rfl ?_ rfl rfl rfl rfl rfl rfl rfl ?_; (focus kernel_rfl); (focus kernel_rfl); (refine DrG.runS e'' tab_ok 200 rfl (by first | trivial | (simp [in64] <;> omega)) ?_)) | (refine DrG.eq_agg e'' tab_ok rfl rfl rfl (.inr ⟨rfl, rfl⟩) ?_ 5 (by omega) rfl ?_ rfl rfl rfl rfl rfl rfl rfl ?_; (focus kernel_rfl); (focus kernel_rfl); (refine DrG.runS e'' tab_ok 200 rfl (by first | trivial | (simp [in64] <;> omega)) ?_)) | (refine DrG.eq_aggGo e'' tab_ok rfl rfl rfl rfl (.inr ⟨rfl, rfl⟩) ?_ 5 (by omega) rfl ?_ rfl rfl rfl rfl rfl rfl rfl ?_; (focus kernel_rfl); (focus kernel_rfl); (refine DrG.runS e'' tab_ok 200 rfl (by first | trivial | (simp [in64] <;> omega)) ?_)))); refine DrG.finK e'' rfl ?_ rfl rfl rfl ?_ ?_; (focus kernel_rfl); (focus (repeat' (first | exact True.intro | (refine And.intro ?_ ?_) | rfl | assumption | exact okRow _))); dsimp only [tmS, hpS, tput, effH]; refine AWP.runL e'' tab_ok L22 300 rfl (by first | trivial | (simp [in64] <;> omega)) ?_)
            )
          (first | (refine AWP.ret e'' tab_ok rfl ?_) | (refine AWP.fin e'' tab_ok rfl ?_)); rw [hP'']; show AWP cx' _ _
          refine AWP.runL e' tab_ok L16 300 rfl (by first | trivial | (simp [in64] <;> omega)) ?_
          refine AWP.runL e' tab_ok L16 300 rfl (by first | trivial | (simp [in64] <;> omega)) ?_
          repeat (
            first
              | (refine AWP.askT rfl ?_; (first | (refine Told.t rfl ?_) | (refine Told.f rfl ?_) | (refine Told.t ?_ ?_; (focus assumption)) | (refine Told.f ?_ ?_; (focus assumption)) | (refine Told.t ?_ ?_; (focus (first | (simp; omega) | (simp [*]; done)); done)) | (refine Told.f ?_ ?_; (focus (first | (simp; omega) | (simp [*]; done)); done))); refine AWP.runL e' tab_ok L16 300 rfl (by first | trivial | (simp [in64] <;> omega)) ?_)
              | (refine AWP.eq_agg e' tab_ok rfl rfl rfl (.inl ⟨rfl, rfl⟩) ?_ 5 (by omega) rfl ?_ rfl rfl rfl rfl rfl rfl rfl ?_; (focus kernel_rfl); (focus kernel_rfl); refine AWP.runL e' tab_ok L16 300 rfl (by first | trivial | (simp [in64] <;> omega)) ?_)
              | (refine AWP.eq_agg e' tab_ok rfl rfl rfl (.inr ⟨rfl, rfl⟩) ?_ 5 (by omega) rfl ?_ rfl rfl rfl rfl rfl rfl rfl ?_; (focus kernel_rfl); (focus kernel_rfl); refine AWP.runL e' tab_ok L16 300 rfl (by first | trivial | (simp [in64] <;> omega)) ?_)
            )
          refine AWP.less e' ?_ ?_ ?_ ?_ ?_ (nx2) <;> (repeat' (first | exact True.intro | (refine And.intro ?_ ?_) | rfl | assumption))
          · exact fnrow _
          · exact fun e he => ints_ok _ _ e he
        · rw [h2, if_pos rfl, if_neg (of_decide_eq_false h2)] at nx2
          refine AWP.enter e' rfl Try.func22 rfl rfl rfl rfl fun cx'' e'' hP'' => ?_
          refine AWP.runL e'' tab_ok L22 300 rfl (by first | trivial | (simp [in64] <;> omega)) ?_
          refine AWP.enter e'' rfl Try.func19 rfl rfl rfl rfl fun cx''' e''' hP''' => ?_
          refine AWP.runL e''' tab_ok L19 300 rfl (by first | trivial | (simp [in64] <;> omega)) ?_
          repeat (
            first
              | (refine AWP.askT rfl ?_; (first | (refine Told.t rfl ?_) | (refine Told.f rfl ?_) | (refine Told.t ?_ ?_; (focus assumption)) | (refine Told.f ?_ ?_; (focus assumption)) | (refine Told.t ?_ ?_; (focus (first | (simp; omega) | (simp [*]; done)); done)) | (refine Told.f ?_ ?_; (focus (first | (simp; omega) | (simp [*]; done)); done))); refine AWP.runL e''' tab_ok L19 300 rfl (by first | trivial | (simp [in64] <;> omega)) ?_)
              | (refine AWP.eq_agg e''' tab_ok rfl rfl rfl (.inl ⟨rfl, rfl⟩) ?_ 5 (by omega) rfl ?_ rfl rfl rfl rfl rfl rfl rfl ?_; (focus kernel_rfl); (focus kernel_rfl); refine AWP.runL e''' tab_ok L19 300 rfl (by first | trivial | (simp [in64] <;> omega)) ?_)
              | (refine AWP.eq_agg e''' tab_ok rfl rfl rfl (.inr ⟨rfl, rfl⟩) ?_ 5 (by omega) rfl ?_ rfl rfl rfl rfl rfl rfl rfl ?_; (focus kernel_rfl); (focus kernel_rfl); refine AWP.runL e''' tab_ok L19 300 rfl (by first | trivial | (simp [in64] <;> omega)) ?_)
            )
          (first | (refine AWP.ret e''' tab_ok rfl ?_) | (refine AWP.fin e''' tab_ok rfl ?_)); rw [hP''']; show AWP cx'' _ _
          refine AWP.runL e'' tab_ok L22 300 rfl (by first | trivial | (simp [in64] <;> omega)) ?_
          refine AWP.runL e'' tab_ok L22 300 rfl (by first | trivial | (simp [in64] <;> omega)) ?_
          repeat (
            first
              | (refine AWP.askT rfl ?_; (first | (refine Told.t rfl ?_) | (refine Told.f rfl ?_) | (refine Told.t ?_ ?_; (focus assumption)) | (refine Told.f ?_ ?_; (focus assumption)) | (refine Told.t ?_ ?_; (focus (first | (simp; omega) | (simp [*]; done)); done)) | (refine Told.f ?_ ?_; (focus (first | (simp; omega) | (simp [*]; done)); done))); refine AWP.runL e'' tab_ok L22 300 rfl (by first | trivial | (simp [in64] <;> omega)) ?_)
              | (refine AWP.callQ e'' rfl rfl ?_; (first | refine CallQ.mk (hpc) rfl rfl ?_); refine AWP.runL e'' tab_ok L22 300 rfl (by first | trivial | (simp [in64] <;> omega)) ?_)
              | (refine AWP.eq_agg e'' tab_ok rfl rfl rfl (.inl ⟨rfl, rfl⟩) ?_ 5 (by omega) rfl ?_ rfl rfl rfl rfl rfl rfl rfl ?_; (focus kernel_rfl); (focus kernel_rfl); refine AWP.runL e'' tab_ok L22 300 rfl (by first | trivial | (simp [in64] <;> omega)) ?_)
              | (refine AWP.eq_agg e'' tab_ok rfl rfl rfl (.inr ⟨rfl, rfl⟩) ?_ 5 (by omega) rfl ?_ rfl rfl rfl rfl rfl rfl rfl ?_; (focus kernel_rfl); (focus kernel_rfl); refine AWP.runL e'' tab_ok L22 300 rfl (by first | trivial | (simp [in64] <;> omega)) ?_)
            )
          repeat (
            first
              | (refine AWP.askT rfl ?_; (first | (refine Told.t rfl ?_) | (refine Told.f rfl ?_) | (refine Told.t ?_ ?_; (focus assumption)) | (refine Told.f ?_ ?_; (focus assumption)) | (refine Told.t ?_ ?_; (focus (first | (simp; omega) | (simp [*]; done)); done)) | (refine Told.f ?_ ?_; (focus (first | (simp; omega) | (simp [*]; done)); done))); refine AWP.runL e'' tab_ok L22 300 rfl (by first | trivial | (simp [in64] <;> omega)) ?_)
              | (refine AWP.eq_agg e'' tab_ok rfl rfl rfl (.inl ⟨rfl, rfl⟩) ?_ 5 (by omega) rfl ?_ rfl rfl rfl rfl rfl rfl rfl ?_; (focus kernel_rfl); (focus kernel_rfl); refine AWP.runL e'' tab_ok L22 300 rfl (by first | trivial | (simp [in64] <;> omega)) ?_)
              | (refine AWP.eq_agg e'' tab_ok rfl rfl rfl (.inr ⟨rfl, rfl⟩) ?_ 5 (by omega) rfl ?_ rfl rfl rfl rfl rfl rfl rfl ?_; (focus kernel_rfl); (focus kernel_rfl); refine AWP.runL e'' tab_ok L22 300 rfl (by first | trivial | (simp [in64] <;> omega)) ?_)
              | (refine AWP.keep L22 rfl ?_; refine AWP.drg 100 ?_; (refine DrG.runS e'' tab_ok 200 rfl (by first | trivial | (simp [in64] <;> omega)) ?_); (repeat (first | (refine DrG.askT rfl ?_; (first | (refine Told.t rfl ?_) | (refine Told.f rfl ?_) | (refine Told.t ?_ ?_; (focus assumption)) | (refine Told.f ?_ ?_; (focus assumption)) | (refine Told.t ?_ ?_; (focus (first | (simp; omega) | (simp [*]; done)); done)) | (refine Told.f ?_ ?_; (focus (first | (simp; omega) | (simp [*]; done)); done))); (refine DrG.runS e'' tab_ok 200 rfl (by first | trivial | (simp [in64] <;> omega)) ?_)) | (refine DrG.eq_agg e'' tab_ok rfl rfl rfl (.inl ⟨rfl, rfl⟩) ?_ 5 (by omega) rfl ?_ rfl rfl rfl rfl rfl rfl rfl ?_; (focus kernel_rfl); (focus kernel_rfl); (refine DrG.runS e'' tab_ok 200 rfl (by first | trivial | (simp [in64] <;> omega)) ?_)) | (refine DrG.eq_aggGo e'' tab_ok rfl rfl rfl rfl (.inl ⟨rfl, rfl⟩) ?_ 5 (by omega) rfl ?_ rfl rfl rfl rfl rfl rfl rfl ?_; (focus kernel_rfl); (focus kernel_rfl); (refine DrG.runS e'' tab_ok 200 rfl (by first | trivial | (simp [in64] <;> omega)) ?_)) | (refine DrG.eq_agg e'' tab_ok rfl rfl rfl (.inr ⟨rfl, rfl⟩) ?_ 5 (by omega) rfl ?_ rfl rfl rfl rfl rfl rfl rfl ?_; (focus kernel_rfl); (focus kernel_rfl); (refine DrG.runS e'' tab_ok 200 rfl (by first | trivial | (simp [in64] <;> omega)) ?_)) | (refine DrG.eq_aggGo e'' tab_ok rfl rfl rfl rfl (.inr ⟨rfl, rfl⟩) ?_ 5 (by omega) rfl ?_ rfl rfl rfl rfl rfl rfl rfl ?_; (focus kernel_rfl); (focus kernel_rfl); (refine DrG.runS e'' tab_ok 200 rfl (by first | trivial | (simp [in64] <;> omega)) ?_)))); refine DrG.finK e'' rfl ?_ rfl rfl rfl ?_ ?_; (focus kernel_rfl); (focus (repeat' (first | exact True.intro | (refine And.intro ?_ ?_) | rfl | assumption | exact okRow _))); dsimp only [tmS, hpS, tput, effH]; refine AWP.runL e'' tab_ok L22 300 rfl (by first | trivial | (simp [in64] <;> omega)) ?_)
            )
          (first | (refine AWP.ret e'' tab_ok rfl ?_) | (refine AWP.fin e'' tab_ok rfl ?_)); rw [hP'']; show AWP cx' _ _
          refine AWP.runL e' tab_ok L16 300 rfl (by first | trivial | (simp [in64] <;> omega)) ?_
          refine AWP.runL e' tab_ok L16 300 rfl (by first | trivial | (simp [in64] <;> omega)) ?_
          repeat (
            first
              | (refine AWP.askT rfl ?_; (first | (refine Told.t rfl ?_) | (refine Told.f rfl ?_) | (refine Told.t ?_ ?_; (focus assumption)) | (refine Told.f ?_ ?_; (focus assumption)) | (refine Told.t ?_ ?_; (focus (first | (simp; omega) | (simp [*]; done)); done)) | (refine Told.f ?_ ?_; (focus (first | (simp; omega) | (simp [*]; done)); done))); refine AWP.runL e' tab_ok L16 300 rfl (by first | trivial | (simp [in64] <;> omega)) ?_)
              | (refine AWP.eq_agg e' tab_ok rfl rfl rfl (.inl ⟨rfl, rfl⟩) ?_ 5 (by omega) rfl ?_ rfl rfl rfl rfl rfl rfl rfl ?_; (focus kernel_rfl); (focus kernel_rfl); refine AWP.runL e' tab_ok L16 300 rfl (by first | trivial | (simp [in64] <;> omega)) ?_)
              | (refine AWP.eq_agg e' tab_ok rfl rfl rfl (.inr ⟨rfl, rfl⟩) ?_ 5 (by omega) rfl ?_ rfl rfl rfl rfl rfl rfl rfl ?_; (focus kernel_rfl); (focus kernel_rfl); refine AWP.runL e' tab_ok L16 300 rfl (by first | trivial | (simp [in64] <;> omega)) ?_)
            )
          refine AWP.less e' ?_ ?_ ?_ ?_ ?_ (nx2) <;> (repeat' (first | exact True.intro | (refine And.intro ?_ ?_) | rfl | assumption))
          · exact fnrow _
          · exact fun e he => ints_ok _ _ e he
      · rw [if_neg (by simp)] at nx2
        refine AWP.enter e' rfl Try.func22 rfl rfl rfl rfl fun cx'' e'' hP'' => ?_
        refine AWP.runL e'' tab_ok L22 300 rfl (by first | trivial | (simp [in64] <;> omega)) ?_
        refine AWP.enter e'' rfl Try.func19 rfl rfl rfl rfl fun cx''' e''' hP''' => ?_
        refine AWP.runL e''' tab_ok L19 300 rfl (by first | trivial | (simp [in64] <;> omega)) ?_
        repeat (
          first
            | (refine AWP.askT rfl ?_; (first | (refine Told.t rfl ?_) | (refine Told.f rfl ?_) | (refine Told.t ?_ ?_; (focus assumption)) | (refine Told.f ?_ ?_; (focus assumption)) | (refine Told.t ?_ ?_; (focus (first | (simp; omega) | (simp [*]; done)); done)) | (refine Told.f ?_ ?_; (focus (first | (simp; omega) | (simp [*]; done)); done))); refine AWP.runL e''' tab_ok L19 300 rfl (by first | trivial | (simp [in64] <;> omega)) ?_)
            | (refine AWP.eq_agg e''' tab_ok rfl rfl rfl (.inl ⟨rfl, rfl⟩) ?_ 5 (by omega) rfl ?_ rfl rfl rfl rfl rfl rfl rfl ?_; (focus kernel_rfl); (focus kernel_rfl); refine AWP.runL e''' tab_ok L19 300 rfl (by first | trivial | (simp [in64] <;> omega)) ?_)
            | (refine AWP.eq_agg e''' tab_ok rfl rfl rfl (.inr ⟨rfl, rfl⟩) ?_ 5 (by omega) rfl ?_ rfl rfl rfl rfl rfl rfl rfl ?_; (focus kernel_rfl); (focus kernel_rfl); refine AWP.runL e''' tab_ok L19 300 rfl (by first | trivial | (simp [in64] <;> omega)) ?_)
          )
        (first | (refine AWP.ret e''' tab_ok rfl ?_) | (refine AWP.fin e''' tab_ok rfl ?_)); rw [hP''']; show AWP cx'' _ _
        refine AWP.runL e'' tab_ok L22 300 rfl (by first | trivial | (simp [in64] <;> omega)) ?_
        refine AWP.runL e'' tab_ok L22 300 rfl (by first | trivial | (simp [in64] <;> omega)) ?_
        repeat (
          first
            | (refine AWP.askT rfl ?_; (first | (refine Told.t rfl ?_) | (refine Told.f rfl ?_) | (refine Told.t ?_ ?_; (focus assumption)) | (refine Told.f ?_ ?_; (focus assumption)) | (refine Told.t ?_ ?_; (focus (first | (simp; omega) | (simp [*]; done)); done)) | (refine Told.f ?_ ?_; (focus (first | (simp; omega) | (simp [*]; done)); done))); refine AWP.runL e'' tab_ok L22 300 rfl (by first | trivial | (simp [in64] <;> omega)) ?_)
            | (refine AWP.callQ e'' rfl rfl ?_; (first | refine CallQ.mk (hpc) rfl rfl ?_); refine AWP.runL e'' tab_ok L22 300 rfl (by first | trivial | (simp [in64] <;> omega)) ?_)
            | (refine AWP.eq_agg e'' tab_ok rfl rfl rfl (.inl ⟨rfl, rfl⟩) ?_ 5 (by omega) rfl ?_ rfl rfl rfl rfl rfl rfl rfl ?_; (focus kernel_rfl); (focus kernel_rfl); refine AWP.runL e'' tab_ok L22 300 rfl (by first | trivial | (simp [in64] <;> omega)) ?_)
            | (refine AWP.eq_agg e'' tab_ok rfl rfl rfl (.inr ⟨rfl, rfl⟩) ?_ 5 (by omega) rfl ?_ rfl rfl rfl rfl rfl rfl rfl ?_; (focus kernel_rfl); (focus kernel_rfl); refine AWP.runL e'' tab_ok L22 300 rfl (by first | trivial | (simp [in64] <;> omega)) ?_)
          )
        repeat (
          first
            | (refine AWP.askT rfl ?_; (first | (refine Told.t rfl ?_) | (refine Told.f rfl ?_) | (refine Told.t ?_ ?_; (focus assumption)) | (refine Told.f ?_ ?_; (focus assumption)) | (refine Told.t ?_ ?_; (focus (first | (simp; omega) | (simp [*]; done)); done)) | (refine Told.f ?_ ?_; (focus (first | (simp; omega) | (simp [*]; done)); done))); refine AWP.runL e'' tab_ok L22 300 rfl (by first | trivial | (simp [in64] <;> omega)) ?_)
            | (refine AWP.eq_agg e'' tab_ok rfl rfl rfl (.inl ⟨rfl, rfl⟩) ?_ 5 (by omega) rfl ?_ rfl rfl rfl rfl rfl rfl rfl ?_; (focus kernel_rfl); (focus kernel_rfl); refine AWP.runL e'' tab_ok L22 300 rfl (by first | trivial | (simp [in64] <;> omega)) ?_)
            | (refine AWP.eq_agg e'' tab_ok rfl rfl rfl (.inr ⟨rfl, rfl⟩) ?_ 5 (by omega) rfl ?_ rfl rfl rfl rfl rfl rfl rfl ?_; (focus kernel_rfl); (focus kernel_rfl); refine AWP.runL e'' tab_ok L22 300 rfl (by first | trivial | (simp [in64] <;> omega)) ?_)
            | (refine AWP.keep L22 rfl ?_; refine AWP.drg 100 ?_; (refine DrG.runS e'' tab_ok 200 rfl (by first | trivial | (simp [in64] <;> omega)) ?_); (repeat (first | (refine DrG.askT rfl ?_; (first | (refine Told.t rfl ?_) | (refine Told.f rfl ?_) | (refine Told.t ?_ ?_; (focus assumption)) | (refine Told.f ?_ ?_; (focus assumption)) | (refine Told.t ?_ ?_; (focus (first | (simp; omega) | (simp [*]; done)); done)) | (refine Told.f ?_ ?_; (focus (first | (simp; omega) | (simp [*]; done)); done))); (refine DrG.runS e'' tab_ok 200 rfl (by first | trivial | (simp [in64] <;> omega)) ?_)) | (refine DrG.eq_agg e'' tab_ok rfl rfl rfl (.inl ⟨rfl, rfl⟩) ?_ 5 (by omega) rfl ?_ rfl rfl rfl rfl rfl rfl rfl ?_; (focus kernel_rfl); (focus kernel_rfl); (refine DrG.runS e'' tab_ok 200 rfl (by first | trivial | (simp [in64] <;> omega)) ?_)) | (refine DrG.eq_aggGo e'' tab_ok rfl rfl rfl rfl (.inl ⟨rfl, rfl⟩) ?_ 5 (by omega) rfl ?_ rfl rfl rfl rfl rfl rfl rfl ?_; (focus kernel_rfl); (focus kernel_rfl); (refine DrG.runS e'' tab_ok 200 rfl (by first | trivial | (simp [in64] <;> omega)) ?_)) | (refine DrG.eq_agg e'' tab_ok rfl rfl rfl (.inr ⟨rfl, rfl⟩) ?_ 5 (by omega) rfl ?_ rfl rfl rfl rfl rfl rfl rfl ?_; (focus kernel_rfl); (focus kernel_rfl); (refine DrG.runS e'' tab_ok 200 rfl (by first | trivial | (simp [in64] <;> omega)) ?_)) | (refine DrG.eq_aggGo e'' tab_ok rfl rfl rfl rfl (.inr ⟨rfl, rfl⟩) ?_ 5 (by omega) rfl ?_ rfl rfl rfl rfl rfl rfl rfl ?_; (focus kernel_rfl); (focus kernel_rfl); (refine DrG.runS e'' tab_ok 200 rfl (by first | trivial | (simp [in64] <;> omega)) ?_)))); refine DrG.finK e'' rfl ?_ rfl rfl rfl ?_ ?_; (focus kernel_rfl); (focus (repeat' (first | exact True.intro | (refine And.intro ?_ ?_) | rfl | assumption | exact okRow _))); dsimp only [tmS, hpS, tput, effH]; refine AWP.runL e'' tab_ok L22 300 rfl (by first | trivial | (simp [in64] <;> omega)) ?_)
          )
        (first | (refine AWP.ret e'' tab_ok rfl ?_) | (refine AWP.fin e'' tab_ok rfl ?_)); rw [hP'']; show AWP cx' _ _
        refine AWP.runL e' tab_ok L16 300 rfl (by first | trivial | (simp [in64] <;> omega)) ?_
        refine AWP.runL e' tab_ok L16 300 rfl (by first | trivial | (simp [in64] <;> omega)) ?_
        repeat (
          first
            | (refine AWP.askT rfl ?_; (first | (refine Told.t rfl ?_) | (refine Told.f rfl ?_) | (refine Told.t ?_ ?_; (focus assumption)) | (refine Told.f ?_ ?_; (focus assumption)) | (refine Told.t ?_ ?_; (focus (first | (simp; omega) | (simp [*]; done)); done)) | (refine Told.f ?_ ?_; (focus (first | (simp; omega) | (simp [*]; done)); done))); refine AWP.runL e' tab_ok L16 300 rfl (by first | trivial | (simp [in64] <;> omega)) ?_)
            | (refine AWP.eq_agg e' tab_ok rfl rfl rfl (.inl ⟨rfl, rfl⟩) ?_ 5 (by omega) rfl ?_ rfl rfl rfl rfl rfl rfl rfl ?_; (focus kernel_rfl); (focus kernel_rfl); refine AWP.runL e' tab_ok L16 300 rfl (by first | trivial | (simp [in64] <;> omega)) ?_)
            | (refine AWP.eq_agg e' tab_ok rfl rfl rfl (.inr ⟨rfl, rfl⟩) ?_ 5 (by omega) rfl ?_ rfl rfl rfl rfl rfl rfl rfl ?_; (focus kernel_rfl); (focus kernel_rfl); refine AWP.runL e' tab_ok L16 300 rfl (by first | trivial | (simp [in64] <;> omega)) ?_)
          )
        refine AWP.less e' ?_ ?_ ?_ ?_ ?_ (nx2) <;> (repeat' (first | exact True.intro | (refine And.intro ?_ ?_) | rfl | assumption))
        · exact fnrow _
        · exact fun e he => ints_ok _ _ e he
    · rw [way_f h] at hpc nx2
      rcases cases_b (perB t.f) with h1 | h1 <;> rw [h1] at hpc nx2
      · rcases cases_b (decide (t.period - 1 > 0)) with h2 | h2
        · rw [h2, if_pos rfl, if_pos (of_decide_eq_true h2)] at nx2
          refine AWP.enter e' rfl Try.func22 rfl rfl rfl rfl fun cx'' e'' hP'' => ?_
          refine AWP.runL e'' tab_ok L22 300 rfl (by first | trivial | (simp [in64] <;> omega)) ?_
          refine AWP.enter e'' rfl Try.func19 rfl rfl rfl rfl fun cx''' e''' hP''' => ?_
          refine AWP.runL e''' tab_ok L19 300 rfl (by first | trivial | (simp [in64] <;> omega)) ?_
          repeat (
            first
              | (refine AWP.askT rfl ?_; (first | (refine Told.t rfl ?_) | (refine Told.f rfl ?_) | (refine Told.t ?_ ?_; (focus assumption)) | (refine Told.f ?_ ?_; (focus assumption)) | (refine Told.t ?_ ?_; (focus (first | (simp; omega) | (simp [*]; done)); done)) | (refine Told.f ?_ ?_; (focus (first | (simp; omega) | (simp [*]; done)); done))); refine AWP.runL e''' tab_ok L19 300 rfl (by first | trivial | (simp [in64] <;> omega)) ?_)
              | (refine AWP.eq_agg e''' tab_ok rfl rfl rfl (.inl ⟨rfl, rfl⟩) ?_ 5 (by omega) rfl ?_ rfl rfl rfl rfl rfl rfl rfl ?_; (focus kernel_rfl); (focus kernel_rfl); refine AWP.runL e''' tab_ok L19 300 rfl (by first | trivial | (simp [in64] <;> omega)) ?_)
              | (refine AWP.eq_agg e''' tab_ok rfl rfl rfl (.inr ⟨rfl, rfl⟩) ?_ 5 (by omega) rfl ?_ rfl rfl rfl rfl rfl rfl rfl ?_; (focus kernel_rfl); (focus kernel_rfl); refine AWP.runL e''' tab_ok L19 300 rfl (by first | trivial | (simp [in64] <;> omega)) ?_)
            )
          (first | (refine AWP.ret e''' tab_ok rfl ?_) | (refine AWP.fin e''' tab_ok rfl ?_)); rw [hP''']; show AWP cx'' _ _
          refine AWP.runL e'' tab_ok L22 300 rfl (by first | trivial | (simp [in64] <;> omega)) ?_
          refine AWP.runL e'' tab_ok L22 300 rfl (by first | trivial | (simp [in64] <;> omega)) ?_
          repeat (
            first
              | (refine AWP.askT rfl ?_; (first | (refine Told.t rfl ?_) | (refine Told.f rfl ?_) | (refine Told.t ?_ ?_; (focus assumption)) | (refine Told.f ?_ ?_; (focus assumption)) | (refine Told.t ?_ ?_; (focus (first | (simp; omega) | (simp [*]; done)); done)) | (refine Told.f ?_ ?_; (focus (first | (simp; omega) | (simp [*]; done)); done))); refine AWP.runL e'' tab_ok L22 300 rfl (by first | trivial | (simp [in64] <;> omega)) ?_)
              | (refine AWP.callQ e'' rfl rfl ?_; (first | refine CallQ.mk (hpc) rfl rfl ?_); refine AWP.runL e'' tab_ok L22 300 rfl (by first | trivial | (simp [in64] <;> omega)) ?_)
              | (refine AWP.eq_agg e'' tab_ok rfl rfl rfl (.inl ⟨rfl, rfl⟩) ?_ 5 (by omega) rfl ?_ rfl rfl rfl rfl rfl rfl rfl ?_; (focus kernel_rfl); (focus kernel_rfl); refine AWP.runL e'' tab_ok L22 300 rfl (by first | trivial | (simp [in64] <;> omega)) ?_)
              | (refine AWP.eq_agg e'' tab_ok rfl rfl rfl (.inr ⟨rfl, rfl⟩) ?_ 5 (by omega) rfl ?_ rfl rfl rfl rfl rfl rfl rfl ?_; (focus kernel_rfl); (focus kernel_rfl); refine AWP.runL e'' tab_ok L22 300 rfl (by first | trivial | (simp [in64] <;> omega)) ?_)
            )
          repeat (
            first
              | (refine AWP.askT rfl ?_; (first | (refine Told.t rfl ?_) | (refine Told.f rfl ?_) | (refine Told.t ?_ ?_; (focus assumption)) | (refine Told.f ?_ ?_; (focus assumption)) | (refine Told.t ?_ ?_; (focus (first | (simp; omega) | (simp [*]; done)); done)) | (refine Told.f ?_ ?_; (focus (first | (simp; omega) | (simp [*]; done)); done))); refine AWP.runL e'' tab_ok L22 300 rfl (by first | trivial | (simp [in64] <;> omega)) ?_)
              | (refine AWP.eq_agg e'' tab_ok rfl rfl rfl (.inl ⟨rfl, rfl⟩) ?_ 5 (by omega) rfl ?_ rfl rfl rfl rfl rfl rfl rfl ?_; (focus kernel_rfl); (focus kernel_rfl); refine AWP.runL e'' tab_ok L22 300 rfl (by first | trivial | (simp [in64] <;> omega)) ?_)
              | (refine AWP.eq_agg e'' tab_ok rfl rfl rfl (.inr ⟨rfl, rfl⟩) ?_ 5 (by omega) rfl ?_ rfl rfl rfl rfl rfl rfl rfl ?_; (focus kernel_rfl); (focus kernel_rfl); refine AWP.runL e'' tab_ok L22 300 rfl (by first | trivial | (simp [in64] <;> omega)) ?_)
              | (refine AWP.keep L22 rfl ?_; refine AWP.drg 100 ?_; (refine DrG.runS e'' tab_ok 200 rfl (by first | trivial | (simp [in64] <;> omega)) ?_); (repeat (first | (refine DrG.askT rfl ?_; (first | (refine Told.t rfl ?_) | (refine Told.f rfl ?_) | (refine Told.t ?_ ?_; (focus assumption)) | (refine Told.f ?_ ?_; (focus assumption)) | (refine Told.t ?_ ?_; (focus (first | (simp; omega) | (simp [*]; done)); done)) | (refine Told.f ?_ ?_; (focus (first | (simp; omega) | (simp [*]; done)); done))); (refine DrG.runS e'' tab_ok 200 rfl (by first | trivial | (simp [in64] <;> omega)) ?_)) | (refine DrG.eq_agg e'' tab_ok rfl rfl rfl (.inl ⟨rfl, rfl⟩) ?_ 5 (by omega) rfl ?_ rfl rfl rfl rfl rfl rfl rfl ?_; (focus kernel_rfl); (focus kernel_rfl); (refine DrG.runS e'' tab_ok 200 rfl (by first | trivial | (simp [in64] <;> omega)) ?_)) | (refine DrG.eq_aggGo e'' tab_ok rfl rfl rfl rfl (.inl ⟨rfl, rfl⟩) ?_ 5 (by omega) rfl ?_ rfl rfl rfl rfl rfl rfl rfl ?_; (focus kernel_rfl); (focus kernel_rfl); (refine DrG.runS e'' tab_ok 200 rfl (by first | trivial | (simp [in64] <;> omega)) ?_)) | (refine DrG.eq_agg e'' tab_ok rfl rfl rfl (.inr ⟨rfl, rfl⟩) ?_ 5 (by omega) rfl ?_ rfl rfl rfl rfl rfl rfl rfl ?_; (focus kernel_rfl); (focus kernel_rfl); (refine DrG.runS e'' tab_ok 200 rfl (by first | trivial | (simp [in64] <;> omega)) ?_)) | (refine DrG.eq_aggGo e'' tab_ok rfl rfl rfl rfl (.inr ⟨rfl, rfl⟩) ?_ 5 (by omega) rfl ?_ rfl rfl rfl rfl rfl rfl rfl ?_; (focus kernel_rfl); (focus kernel_rfl); (refine DrG.runS e'' tab_ok 200 rfl (by first | trivial | (simp [in64] <;> omega)) ?_)))); refine DrG.finK e'' rfl ?_ rfl rfl rfl ?_ ?_; (focus kernel_rfl); (focus (repeat' (first | exact True.intro | (refine And.intro ?_ ?_) | rfl | assumption | exact okRow _))); dsimp only [tmS, hpS, tput, effH]; refine AWP.runL e'' tab_ok L22 300 rfl (by first | trivial | (simp [in64] <;> omega)) ?_)
            )
          (first | (refine AWP.ret e'' tab_ok rfl ?_) | (refine AWP.fin e'' tab_ok rfl ?_)); rw [hP'']; show AWP cx' _ _
          refine AWP.runL e' tab_ok L16 300 rfl (by first | trivial | (simp [in64] <;> omega)) ?_
          refine AWP.runL e' tab_ok L16 300 rfl (by first | trivial | (simp [in64] <;> omega)) ?_
          repeat (
            first
              | (refine AWP.askT rfl ?_; (first | (refine Told.t rfl ?_) | (refine Told.f rfl ?_) | (refine Told.t ?_ ?_; (focus assumption)) | (refine Told.f ?_ ?_; (focus assumption)) | (refine Told.t ?_ ?_; (focus (first | (simp; omega) | (simp [*]; done)); done)) | (refine Told.f ?_ ?_; (focus (first | (simp; omega) | (simp [*]; done)); done))); refine AWP.runL e' tab_ok L16 300 rfl (by first | trivial | (simp [in64] <;> omega)) ?_)
              | (refine AWP.eq_agg e' tab_ok rfl rfl rfl (.inl ⟨rfl, rfl⟩) ?_ 5 (by omega) rfl ?_ rfl rfl rfl rfl rfl rfl rfl ?_; (focus kernel_rfl); (focus kernel_rfl); refine AWP.runL e' tab_ok L16 300 rfl (by first | trivial | (simp [in64] <;> omega)) ?_)
              | (refine AWP.eq_agg e' tab_ok rfl rfl rfl (.inr ⟨rfl, rfl⟩) ?_ 5 (by omega) rfl ?_ rfl rfl rfl rfl rfl rfl rfl ?_; (focus kernel_rfl); (focus kernel_rfl); refine AWP.runL e' tab_ok L16 300 rfl (by first | trivial | (simp [in64] <;> omega)) ?_)
            )
          refine AWP.less e' ?_ ?_ ?_ ?_ ?_ (nx2) <;> (repeat' (first | exact True.intro | (refine And.intro ?_ ?_) | rfl | assumption))
          · exact fnrow _
          · exact fun e he => ints_ok _ _ e he
        · rw [h2, if_pos rfl, if_neg (of_decide_eq_false h2)] at nx2
          refine AWP.enter e' rfl Try.func22 rfl rfl rfl rfl fun cx'' e'' hP'' => ?_
          refine AWP.runL e'' tab_ok L22 300 rfl (by first | trivial | (simp [in64] <;> omega)) ?_
          refine AWP.enter e'' rfl Try.func19 rfl rfl rfl rfl fun cx''' e''' hP''' => ?_
          refine AWP.runL e''' tab_ok L19 300 rfl (by first | trivial | (simp [in64] <;> omega)) ?_
          repeat (
            first
              | (refine AWP.askT rfl ?_; (first | (refine Told.t rfl ?_) | (refine Told.f rfl ?_) | (refine Told.t ?_ ?_; (focus assumption)) | (refine Told.f ?_ ?_; (focus assumption)) | (refine Told.t ?_ ?_; (focus (first | (simp; omega) | (simp [*]; done)); done)) | (refine Told.f ?_ ?_; (focus (first | (simp; omega) | (simp [*]; done)); done))); refine AWP.runL e''' tab_ok L19 300 rfl (by first | trivial | (simp [in64] <;> omega)) ?_)
              | (refine AWP.eq_agg e''' tab_ok rfl rfl rfl (.inl ⟨rfl, rfl⟩) ?_ 5 (by omega) rfl ?_ rfl rfl rfl rfl rfl rfl rfl ?_; (focus kernel_rfl); (focus kernel_rfl); refine AWP.runL e''' tab_ok L19 300 rfl (by first | trivial | (simp [in64] <;> omega)) ?_)
              | (refine AWP.eq_agg e''' tab_ok rfl rfl rfl (.inr ⟨rfl, rfl⟩) ?_ 5 (by omega) rfl ?_ rfl rfl rfl rfl rfl rfl rfl ?_; (focus kernel_rfl); (focus kernel_rfl); refine AWP.runL e''' tab_ok L19 300 rfl (by first | trivial | (simp [in64] <;> omega)) ?_)
            )
          (first | (refine AWP.ret e''' tab_ok rfl ?_) | (refine AWP.fin e''' tab_ok rfl ?_)); rw [hP''']; show AWP cx'' _ _
          refine AWP.runL e'' tab_ok L22 300 rfl (by first | trivial | (simp [in64] <;> omega)) ?_
          refine AWP.runL e'' tab_ok L22 300 rfl (by first | trivial | (simp [in64] <;> omega)) ?_
          repeat (
            first
              | (refine AWP.askT rfl ?_; (first | (refine Told.t rfl ?_) | (refine Told.f rfl ?_) | (refine Told.t ?_ ?_; (focus assumption)) | (refine Told.f ?_ ?_; (focus assumption)) | (refine Told.t ?_ ?_; (focus (first | (simp; omega) | (simp [*]; done)); done)) | (refine Told.f ?_ ?_; (focus (first | (simp; omega) | (simp [*]; done)); done))); refine AWP.runL e'' tab_ok L22 300 rfl (by first | trivial | (simp [in64] <;> omega)) ?_)
              | (refine AWP.callQ e'' rfl rfl ?_; (first | refine CallQ.mk (hpc) rfl rfl ?_); refine AWP.runL e'' tab_ok L22 300 rfl (by first | trivial | (simp [in64] <;> omega)) ?_)
              | (refine AWP.eq_agg e'' tab_ok rfl rfl rfl (.inl ⟨rfl, rfl⟩) ?_ 5 (by omega) rfl ?_ rfl rfl rfl rfl rfl rfl rfl ?_; (focus kernel_rfl); (focus kernel_rfl); refine AWP.runL e'' tab_ok L22 300 rfl (by first | trivial | (simp [in64] <;> omega)) ?_)
              | (refine AWP.eq_agg e'' tab_ok rfl rfl rfl (.inr ⟨rfl, rfl⟩) ?_ 5 (by omega) rfl ?_ rfl rfl rfl rfl rfl rfl rfl ?_; (focus kernel_rfl); (focus kernel_rfl); refine AWP.runL e'' tab_ok L22 300 rfl (by first | trivial | (simp [in64] <;> omega)) ?_)
            )
          repeat (
            first
              | (refine AWP.askT rfl ?_; (first | (refine Told.t rfl ?_) | (refine Told.f rfl ?_) | (refine Told.t ?_ ?_; (focus assumption)) | (refine Told.f ?_ ?_; (focus assumption)) | (refine Told.t ?_ ?_; (focus (first | (simp; omega) | (simp [*]; done)); done)) | (refine Told.f ?_ ?_; (focus (first | (simp; omega) | (simp [*]; done)); done))); refine AWP.runL e'' tab_ok L22 300 rfl (by first | trivial | (simp [in64] <;> omega)) ?_)
              | (refine AWP.eq_agg e'' tab_ok rfl rfl rfl (.inl ⟨rfl, rfl⟩) ?_ 5 (by omega) rfl ?_ rfl rfl rfl rfl rfl rfl rfl ?_; (focus kernel_rfl); (focus kernel_rfl); refine AWP.runL e'' tab_ok L22 300 rfl (by first | trivial | (simp [in64] <;> omega)) ?_)
              | (refine AWP.eq_agg e'' tab_ok rfl rfl rfl (.inr ⟨rfl, rfl⟩) ?_ 5 (by omega) rfl ?_ rfl rfl rfl rfl rfl rfl rfl ?_; (focus kernel_rfl); (focus kernel_rfl); refine AWP.runL e'' tab_ok L22 300 rfl (by first | trivial | (simp [in64] <;> omega)) ?_)
              | (refine AWP.keep L22 rfl ?_; refine AWP.drg 100 ?_; (refine DrG.runS e'' tab_ok 200 rfl (by first | trivial | (simp [in64] <;> omega)) ?_); (repeat (first | (refine DrG.askT rfl ?_; (first | (refine Told.t rfl ?_) | (refine Told.f rfl ?_) | (refine Told.t ?_ ?_; (focus assumption)) | (refine Told.f ?_ ?_; (focus assumption)) | (refine Told.t ?_ ?_; (focus (first | (simp; omega) | (simp [*]; done)); done)) | (refine Told.f ?_ ?_; (focus (first | (simp; omega) | (simp [*]; done)); done))); (refine DrG.runS e'' tab_ok 200 rfl (by first | trivial | (simp [in64] <;> omega)) ?_)) | (refine DrG.eq_agg e'' tab_ok rfl rfl rfl (.inl ⟨rfl, rfl⟩) ?_ 5 (by omega) rfl ?_ rfl rfl rfl rfl rfl rfl rfl ?_; (focus kernel_rfl); (focus kernel_rfl); (refine DrG.runS e'' tab_ok 200 rfl (by first | trivial | (simp [in64] <;> omega)) ?_)) | (refine DrG.eq_aggGo e'' tab_ok rfl rfl rfl rfl (.inl ⟨rfl, rfl⟩) ?_ 5 (by omega) rfl ?_ rfl rfl rfl rfl rfl rfl rfl ?_; (focus kernel_rfl); (focus kernel_rfl); (refine DrG.runS e'' tab_ok 200 rfl (by first | trivial | (simp [in64] <;> omega)) ?_)) | (refine DrG.eq_agg e'' tab_ok rfl rfl rfl (.inr ⟨rfl, rfl⟩) ?_ 5 (by omega) rfl ?_ rfl rfl rfl rfl rfl rfl rfl ?_; (focus kernel_rfl); (focus kernel_rfl); (refine DrG.runS e'' tab_ok 200 rfl (by first | trivial | (simp [in64] <;> omega)) ?_)) | (refine DrG.eq_aggGo e'' tab_ok rfl rfl rfl rfl (.inr ⟨rfl, rfl⟩) ?_ 5 (by omega) rfl ?_ rfl rfl rfl rfl rfl rfl rfl ?_; (focus kernel_rfl); (focus kernel_rfl); (refine DrG.runS e'' tab_ok 200 rfl (by first | trivial | (simp [in64] <;> omega)) ?_)))); refine DrG.finK e'' rfl ?_ rfl rfl rfl ?_ ?_; (focus kernel_rfl); (focus (repeat' (first | exact True.intro | (refine And.intro ?_ ?_) | rfl | assumption | exact okRow _))); dsimp only [tmS, hpS, tput, effH]; refine AWP.runL e'' tab_ok L22 300 rfl (by first | trivial | (simp [in64] <;> omega)) ?_)
            )
          (first | (refine AWP.ret e'' tab_ok rfl ?_) | (refine AWP.fin e'' tab_ok rfl ?_)); rw [hP'']; show AWP cx' _ _
          refine AWP.runL e' tab_ok L16 300 rfl (by first | trivial | (simp [in64] <;> omega)) ?_
          refine AWP.runL e' tab_ok L16 300 rfl (by first | trivial | (simp [in64] <;> omega)) ?_
          repeat (
            first
              | (refine AWP.askT rfl ?_; (first | (refine Told.t rfl ?_) | (refine Told.f rfl ?_) | (refine Told.t ?_ ?_; (focus assumption)) | (refine Told.f ?_ ?_; (focus assumption)) | (refine Told.t ?_ ?_; (focus (first | (simp; omega) | (simp [*]; done)); done)) | (refine Told.f ?_ ?_; (focus (first | (simp; omega) | (simp [*]; done)); done))); refine AWP.runL e' tab_ok L16 300 rfl (by first | trivial | (simp [in64] <;> omega)) ?_)
              | (refine AWP.eq_agg e' tab_ok rfl rfl rfl (.inl ⟨rfl, rfl⟩) ?_ 5 (by omega) rfl ?_ rfl rfl rfl rfl rfl rfl rfl ?_; (focus kernel_rfl); (focus kernel_rfl); refine AWP.runL e' tab_ok L16 300 rfl (by first | trivial | (simp [in64] <;> omega)) ?_)
              | (refine AWP.eq_agg e' tab_ok rfl rfl rfl (.inr ⟨rfl, rfl⟩) ?_ 5 (by omega) rfl ?_ rfl rfl rfl rfl rfl rfl rfl ?_; (focus kernel_rfl); (focus kernel_rfl); refine AWP.runL e' tab_ok L16 300 rfl (by first | trivial | (simp [in64] <;> omega)) ?_)
            )
          refine AWP.less e' ?_ ?_ ?_ ?_ ?_ (nx2) <;> (repeat' (first | exact True.intro | (refine And.intro ?_ ?_) | rfl | assumption))
          · exact fnrow _
          · exact fun e he => ints_ok _ _ e he
      · rw [if_neg (by simp)] at nx2
        refine AWP.enter e' rfl Try.func22 rfl rfl rfl rfl fun cx'' e'' hP'' => ?_
        refine AWP.runL e'' tab_ok L22 300 rfl (by first | trivial | (simp [in64] <;> omega)) ?_
        refine AWP.enter e'' rfl Try.func19 rfl rfl rfl rfl fun cx''' e''' hP''' => ?_
        refine AWP.runL e''' tab_ok L19 300 rfl (by first | trivial | (simp [in64] <;> omega)) ?_
        repeat (
          first
            | (refine AWP.askT rfl ?_; (first | (refine Told.t rfl ?_) | (refine Told.f rfl ?_) | (refine Told.t ?_ ?_; (focus assumption)) | (refine Told.f ?_ ?_; (focus assumption)) | (refine Told.t ?_ ?_; (focus (first | (simp; omega) | (simp [*]; done)); done)) | (refine Told.f ?_ ?_; (focus (first | (simp; omega) | (simp [*]; done)); done))); refine AWP.runL e''' tab_ok L19 300 rfl (by first | trivial | (simp [in64] <;> omega)) ?_)
            | (refine AWP.eq_agg e''' tab_ok rfl rfl rfl (.inl ⟨rfl, rfl⟩) ?_ 5 (by omega) rfl ?_ rfl rfl rfl rfl rfl rfl rfl ?_; (focus kernel_rfl); (focus kernel_rfl); refine AWP.runL e''' tab_ok L19 300 rfl (by first | trivial | (simp [in64] <;> omega)) ?_)
            | (refine AWP.eq_agg e''' tab_ok rfl rfl rfl (.inr ⟨rfl, rfl⟩) ?_ 5 (by omega) rfl ?_ rfl rfl rfl rfl rfl rfl rfl ?_; (focus kernel_rfl); (focus kernel_rfl); refine AWP.runL e''' tab_ok L19 300 rfl (by first | trivial | (simp [in64] <;> omega)) ?_)
          )
        (first | (refine AWP.ret e''' tab_ok rfl ?_) | (refine AWP.fin e''' tab_ok rfl ?_)); rw [hP''']; show AWP cx'' _ _
        refine AWP.runL e'' tab_ok L22 300 rfl (by first | trivial | (simp [in64] <;> omega)) ?_
        refine AWP.runL e'' tab_ok L22 300 rfl (by first | trivial | (simp [in64] <;> omega)) ?_
        repeat (
          first
            | (refine AWP.askT rfl ?_; (first | (refine Told.t rfl ?_) | (refine Told.f rfl ?_) | (refine Told.t ?_ ?_; (focus assumption)) | (refine Told.f ?_ ?_; (focus assumption)) | (refine Told.t ?_ ?_; (focus (first | (simp; omega) | (simp [*]; done)); done)) | (refine Told.f ?_ ?_; (focus (first | (simp; omega) | (simp [*]; done)); done))); refine AWP.runL e'' tab_ok L22 300 rfl (by first | trivial | (simp [in64] <;> omega)) ?_)
            | (refine AWP.callQ e'' rfl rfl ?_; (first | refine CallQ.mk (hpc) rfl rfl ?_); refine AWP.runL e'' tab_ok L22 300 rfl (by first | trivial | (simp [in64] <;> omega)) ?_)
            | (refine AWP.eq_agg e'' tab_ok rfl rfl rfl (.inl ⟨rfl, rfl⟩) ?_ 5 (by omega) rfl ?_ rfl rfl rfl rfl rfl rfl rfl ?_; (focus kernel_rfl); (focus kernel_rfl); refine AWP.runL e'' tab_ok L22 300 rfl (by first | trivial | (simp [in64] <;> omega)) ?_)
            | (refine AWP.eq_agg e'' tab_ok rfl rfl rfl (.inr ⟨rfl, rfl⟩) ?_ 5 (by omega) rfl ?_ rfl rfl rfl rfl rfl rfl rfl ?_; (focus kernel_rfl); (focus kernel_rfl); refine AWP.runL e'' tab_ok L22 300 rfl (by first | trivial | (simp [in64] <;> omega)) ?_)
          )
        repeat (
          first
            | (refine AWP.askT rfl ?_; (first | (refine Told.t rfl ?_) | (refine Told.f rfl ?_) | (refine Told.t ?_ ?_; (focus assumption)) | (refine Told.f ?_ ?_; (focus assumption)) | (refine Told.t ?_ ?_; (focus (first | (simp; omega) | (simp [*]; done)); done)) | (refine Told.f ?_ ?_; (focus (first | (simp; omega) | (simp [*]; done)); done))); refine AWP.runL e'' tab_ok L22 300 rfl (by first | trivial | (simp [in64] <;> omega)) ?_)
            | (refine AWP.eq_agg e'' tab_ok rfl rfl rfl (.inl ⟨rfl, rfl⟩) ?_ 5 (by omega) rfl ?_ rfl rfl rfl rfl rfl rfl rfl ?_; (focus kernel_rfl); (focus kernel_rfl); refine AWP.runL e'' tab_ok L22 300 rfl (by first | trivial | (simp [in64] <;> omega)) ?_)
            | (refine AWP.eq_agg e'' tab_ok rfl rfl rfl (.inr ⟨rfl, rfl⟩) ?_ 5 (by omega) rfl ?_ rfl rfl rfl rfl rfl rfl rfl ?_; (focus kernel_rfl); (focus kernel_rfl); refine AWP.runL e'' tab_ok L22 300 rfl (by first | trivial | (simp [in64] <;> omega)) ?_)
            | (refine AWP.keep L22 rfl ?_; refine AWP.drg 100 ?_; (refine DrG.runS e'' tab_ok 200 rfl (by first | trivial | (simp [in64] <;> omega)) ?_); (repeat (first | (refine DrG.askT rfl ?_; (first | (refine Told.t rfl ?_) | (refine Told.f rfl ?_) | (refine Told.t ?_ ?_; (focus assumption)) | (refine Told.f ?_ ?_; (focus assumption)) | (refine Told.t ?_ ?_; (focus (first | (simp; omega) | (simp [*]; done)); done)) | (refine Told.f ?_ ?_; (focus (first | (simp; omega) | (simp [*]; done)); done))); (refine DrG.runS e'' tab_ok 200 rfl (by first | trivial | (simp [in64] <;> omega)) ?_)) | (refine DrG.eq_agg e'' tab_ok rfl rfl rfl (.inl ⟨rfl, rfl⟩) ?_ 5 (by omega) rfl ?_ rfl rfl rfl rfl rfl rfl rfl ?_; (focus kernel_rfl); (focus kernel_rfl); (refine DrG.runS e'' tab_ok 200 rfl (by first | trivial | (simp [in64] <;> omega)) ?_)) | (refine DrG.eq_aggGo e'' tab_ok rfl rfl rfl rfl (.inl ⟨rfl, rfl⟩) ?_ 5 (by omega) rfl ?_ rfl rfl rfl rfl rfl rfl rfl ?_; (focus kernel_rfl); (focus kernel_rfl); (refine DrG.runS e'' tab_ok 200 rfl (by first | trivial | (simp [in64] <;> omega)) ?_)) | (refine DrG.eq_agg e'' tab_ok rfl rfl rfl (.inr ⟨rfl, rfl⟩) ?_ 5 (by omega) rfl ?_ rfl rfl rfl rfl rfl rfl rfl ?_; (focus kernel_rfl); (focus kernel_rfl); (refine DrG.runS e'' tab_ok 200 rfl (by first | trivial | (simp [in64] <;> omega)) ?_)) | (refine DrG.eq_aggGo e'' tab_ok rfl rfl rfl rfl (.inr ⟨rfl, rfl⟩) ?_ 5 (by omega) rfl ?_ rfl rfl rfl rfl rfl rfl rfl ?_; (focus kernel_rfl); (focus kernel_rfl); (refine DrG.runS e'' tab_ok 200 rfl (by first | trivial | (simp [in64] <;> omega)) ?_)))); refine DrG.finK e'' rfl ?_ rfl rfl rfl ?_ ?_; (focus kernel_rfl); (focus (repeat' (first | exact True.intro | (refine And.intro ?_ ?_) | rfl | assumption | exact okRow _))); dsimp only [tmS, hpS, tput, effH]; refine AWP.runL e'' tab_ok L22 300 rfl (by first | trivial | (simp [in64] <;> omega)) ?_)
          )
        (first | (refine AWP.ret e'' tab_ok rfl ?_) | (refine AWP.fin e'' tab_ok rfl ?_)); rw [hP'']; show AWP cx' _ _
        refine AWP.runL e' tab_ok L16 300 rfl (by first | trivial | (simp [in64] <;> omega)) ?_
        refine AWP.runL e' tab_ok L16 300 rfl (by first | trivial | (simp [in64] <;> omega)) ?_
        repeat (
          first
            | (refine AWP.askT rfl ?_; (first | (refine Told.t rfl ?_) | (refine Told.f rfl ?_) | (refine Told.t ?_ ?_; (focus assumption)) | (refine Told.f ?_ ?_; (focus assumption)) | (refine Told.t ?_ ?_; (focus (first | (simp; omega) | (simp [*]; done)); done)) | (refine Told.f ?_ ?_; (focus (first | (simp; omega) | (simp [*]; done)); done))); refine AWP.runL e' tab_ok L16 300 rfl (by first | trivial | (simp [in64] <;> omega)) ?_)
            | (refine AWP.eq_agg e' tab_ok rfl rfl rfl (.inl ⟨rfl, rfl⟩) ?_ 5 (by omega) rfl ?_ rfl rfl rfl rfl rfl rfl rfl ?_; (focus kernel_rfl); (focus kernel_rfl); refine AWP.runL e' tab_ok L16 300 rfl (by first | trivial | (simp [in64] <;> omega)) ?_)
            | (refine AWP.eq_agg e' tab_ok rfl rfl rfl (.inr ⟨rfl, rfl⟩) ?_ 5 (by omega) rfl ?_ rfl rfl rfl rfl rfl rfl rfl ?_; (focus kernel_rfl); (focus kernel_rfl); refine AWP.runL e' tab_ok L16 300 rfl (by first | trivial | (simp [in64] <;> omega)) ?_)
          )
        refine AWP.less e' ?_ ?_ ?_ ?_ ?_ (nx2) <;> (repeat' (first | exact True.intro | (refine And.intro ?_ ?_) | rfl | assumption))
        · exact fnrow _
        · exact fun e he => ints_ok _ _ e he
  · have nx2 := next2 2 (by decide) (by decide)
    clear next2 next
    have hd : duS t 2 = (agD t || (perD t || t.asked)) := rfl
    have hk : tkS t 2 = ⟨t.t, t.f, t.on, t.delay, perP t, agGap t, agLeft t, hold1 t, t.asked⟩ := rfl
    rw [hd, hk] at nx2
    unfold agD agGap agLeft at nx2
    clear hd hk
    refine AWP.eqH 2 (lC t (perP t) t.gap t.left (hold1 t) t.asked) rfl rfl ?_
    refine AWP.eqT 3 (.b (perD t || t.asked)) rfl rfl ?_
    refine AWP.runL e' tab_ok L16 300 rfl (by first | trivial | (simp [in64] <;> omega)) ?_
    repeat (
      first
        | (refine AWP.askT rfl ?_; (first | (refine Told.t rfl ?_) | (refine Told.f rfl ?_) | (refine Told.t ?_ ?_; (focus assumption)) | (refine Told.f ?_ ?_; (focus assumption)) | (refine Told.t ?_ ?_; (focus (first | (simp; omega) | (simp [*]; done)); done)) | (refine Told.f ?_ ?_; (focus (first | (simp; omega) | (simp [*]; done)); done))); refine AWP.runL e' tab_ok L16 300 rfl (by first | trivial | (simp [in64] <;> omega)) ?_)
        | (refine AWP.eq_agg e' tab_ok rfl rfl rfl (.inl ⟨rfl, rfl⟩) ?_ 5 (by omega) rfl ?_ rfl rfl rfl rfl rfl rfl rfl ?_; (focus kernel_rfl); (focus kernel_rfl); refine AWP.runL e' tab_ok L16 300 rfl (by first | trivial | (simp [in64] <;> omega)) ?_)
        | (refine AWP.eq_agg e' tab_ok rfl rfl rfl (.inr ⟨rfl, rfl⟩) ?_ 5 (by omega) rfl ?_ rfl rfl rfl rfl rfl rfl rfl ?_; (focus kernel_rfl); (focus kernel_rfl); refine AWP.runL e' tab_ok L16 300 rfl (by first | trivial | (simp [in64] <;> omega)) ?_)
      )
    refine AWP.idx_own e' tab_ok rfl rfl rfl rfl 1 rfl (by decide) ?_
    refine AWP.runL e' tab_ok L16 300 rfl (by first | trivial | (simp [in64] <;> omega)) ?_
    refine AWP.load_el e' tab_ok rfl rfl rfl rfl (el := [.fn (.func 23) [.ptr 2 0] []]) rfl rfl ?_
    refine AWP.runL e' tab_ok L16 300 rfl (by first | trivial | (simp [in64] <;> omega)) ?_
    rcases cases_b (t.left == 0) with h1 | h1 <;> rw [h1] at nx2
    · refine AWP.enter e' rfl Try.func23 rfl rfl rfl rfl fun cx'' e'' hP'' => ?_
      refine AWP.runL e'' tab_ok L23 300 rfl (by first | trivial | (simp [in64] <;> omega)) ?_
      repeat (
        first
          | (refine AWP.askT rfl ?_; (first | (refine Told.t rfl ?_) | (refine Told.f rfl ?_) | (refine Told.t ?_ ?_; (focus assumption)) | (refine Told.f ?_ ?_; (focus assumption)) | (refine Told.t ?_ ?_; (focus (first | (simp; omega) | (simp [*]; done)); done)) | (refine Told.f ?_ ?_; (focus (first | (simp; omega) | (simp [*]; done)); done))); refine AWP.runL e'' tab_ok L23 300 rfl (by first | trivial | (simp [in64] <;> omega)) ?_)
          | (refine AWP.eq_agg e'' tab_ok rfl rfl rfl (.inl ⟨rfl, rfl⟩) ?_ 5 (by omega) rfl ?_ rfl rfl rfl rfl rfl rfl rfl ?_; (focus kernel_rfl); (focus kernel_rfl); refine AWP.runL e'' tab_ok L23 300 rfl (by first | trivial | (simp [in64] <;> omega)) ?_)
          | (refine AWP.eq_agg e'' tab_ok rfl rfl rfl (.inr ⟨rfl, rfl⟩) ?_ 5 (by omega) rfl ?_ rfl rfl rfl rfl rfl rfl rfl ?_; (focus kernel_rfl); (focus kernel_rfl); refine AWP.runL e'' tab_ok L23 300 rfl (by first | trivial | (simp [in64] <;> omega)) ?_)
          | (refine AWP.keep L23 rfl ?_; refine AWP.drg 100 ?_; (refine DrG.runS e'' tab_ok 200 rfl (by first | trivial | (simp [in64] <;> omega)) ?_); (repeat (first | (refine DrG.askT rfl ?_; (first | (refine Told.t rfl ?_) | (refine Told.f rfl ?_) | (refine Told.t ?_ ?_; (focus assumption)) | (refine Told.f ?_ ?_; (focus assumption)) | (refine Told.t ?_ ?_; (focus (first | (simp; omega) | (simp [*]; done)); done)) | (refine Told.f ?_ ?_; (focus (first | (simp; omega) | (simp [*]; done)); done))); (refine DrG.runS e'' tab_ok 200 rfl (by first | trivial | (simp [in64] <;> omega)) ?_)) | (refine DrG.eq_agg e'' tab_ok rfl rfl rfl (.inl ⟨rfl, rfl⟩) ?_ 5 (by omega) rfl ?_ rfl rfl rfl rfl rfl rfl rfl ?_; (focus kernel_rfl); (focus kernel_rfl); (refine DrG.runS e'' tab_ok 200 rfl (by first | trivial | (simp [in64] <;> omega)) ?_)) | (refine DrG.eq_aggGo e'' tab_ok rfl rfl rfl rfl (.inl ⟨rfl, rfl⟩) ?_ 5 (by omega) rfl ?_ rfl rfl rfl rfl rfl rfl rfl ?_; (focus kernel_rfl); (focus kernel_rfl); (refine DrG.runS e'' tab_ok 200 rfl (by first | trivial | (simp [in64] <;> omega)) ?_)) | (refine DrG.eq_agg e'' tab_ok rfl rfl rfl (.inr ⟨rfl, rfl⟩) ?_ 5 (by omega) rfl ?_ rfl rfl rfl rfl rfl rfl rfl ?_; (focus kernel_rfl); (focus kernel_rfl); (refine DrG.runS e'' tab_ok 200 rfl (by first | trivial | (simp [in64] <;> omega)) ?_)) | (refine DrG.eq_aggGo e'' tab_ok rfl rfl rfl rfl (.inr ⟨rfl, rfl⟩) ?_ 5 (by omega) rfl ?_ rfl rfl rfl rfl rfl rfl rfl ?_; (focus kernel_rfl); (focus kernel_rfl); (refine DrG.runS e'' tab_ok 200 rfl (by first | trivial | (simp [in64] <;> omega)) ?_)))); refine DrG.finK e'' rfl ?_ rfl rfl rfl ?_ ?_; (focus kernel_rfl); (focus (repeat' (first | exact True.intro | (refine And.intro ?_ ?_) | rfl | assumption | exact okRow _))); dsimp only [tmS, hpS, tput, effH]; refine AWP.runL e'' tab_ok L23 300 rfl (by first | trivial | (simp [in64] <;> omega)) ?_)
        )
      (first | (refine AWP.ret e'' tab_ok rfl ?_) | (refine AWP.fin e'' tab_ok rfl ?_)); rw [hP'']; show AWP cx' _ _
      refine AWP.runL e' tab_ok L16 300 rfl (by first | trivial | (simp [in64] <;> omega)) ?_
      refine AWP.runL e' tab_ok L16 300 rfl (by first | trivial | (simp [in64] <;> omega)) ?_
      repeat (
        first
          | (refine AWP.askT rfl ?_; (first | (refine Told.t rfl ?_) | (refine Told.f rfl ?_) | (refine Told.t ?_ ?_; (focus assumption)) | (refine Told.f ?_ ?_; (focus assumption)) | (refine Told.t ?_ ?_; (focus (first | (simp; omega) | (simp [*]; done)); done)) | (refine Told.f ?_ ?_; (focus (first | (simp; omega) | (simp [*]; done)); done))); refine AWP.runL e' tab_ok L16 300 rfl (by first | trivial | (simp [in64] <;> omega)) ?_)
          | (refine AWP.eq_agg e' tab_ok rfl rfl rfl (.inl ⟨rfl, rfl⟩) ?_ 5 (by omega) rfl ?_ rfl rfl rfl rfl rfl rfl rfl ?_; (focus kernel_rfl); (focus kernel_rfl); refine AWP.runL e' tab_ok L16 300 rfl (by first | trivial | (simp [in64] <;> omega)) ?_)
          | (refine AWP.eq_agg e' tab_ok rfl rfl rfl (.inr ⟨rfl, rfl⟩) ?_ 5 (by omega) rfl ?_ rfl rfl rfl rfl rfl rfl rfl ?_; (focus kernel_rfl); (focus kernel_rfl); refine AWP.runL e' tab_ok L16 300 rfl (by first | trivial | (simp [in64] <;> omega)) ?_)
        )
      refine AWP.less e' ?_ ?_ ?_ ?_ ?_ (nx2) <;> (repeat' (first | exact True.intro | (refine And.intro ?_ ?_) | rfl | assumption))
      · exact fnrow _
      · exact fun e he => ints_ok _ _ e he
    · rw [if_neg (show ¬ (false = true) by simp), if_neg (show ¬ (false = true) by simp)] at nx2
      rcases cases_b (decide (t.gap - 1 > 0)) with h2 | h2
      · rw [h2, if_pos (of_decide_eq_true h2), if_pos (of_decide_eq_true h2)] at nx2
        refine AWP.enter e' rfl Try.func23 rfl rfl rfl rfl fun cx'' e'' hP'' => ?_
        refine AWP.runL e'' tab_ok L23 300 rfl (by first | trivial | (simp [in64] <;> omega)) ?_
        repeat (
          first
            | (refine AWP.askT rfl ?_; (first | (refine Told.t rfl ?_) | (refine Told.f rfl ?_) | (refine Told.t ?_ ?_; (focus assumption)) | (refine Told.f ?_ ?_; (focus assumption)) | (refine Told.t ?_ ?_; (focus (first | (simp; omega) | (simp [*]; done)); done)) | (refine Told.f ?_ ?_; (focus (first | (simp; omega) | (simp [*]; done)); done))); refine AWP.runL e'' tab_ok L23 300 rfl (by first | trivial | (simp [in64] <;> omega)) ?_)
            | (refine AWP.eq_agg e'' tab_ok rfl rfl rfl (.inl ⟨rfl, rfl⟩) ?_ 5 (by omega) rfl ?_ rfl rfl rfl rfl rfl rfl rfl ?_; (focus kernel_rfl); (focus kernel_rfl); refine AWP.runL e'' tab_ok L23 300 rfl (by first | trivial | (simp [in64] <;> omega)) ?_)
            | (refine AWP.eq_agg e'' tab_ok rfl rfl rfl (.inr ⟨rfl, rfl⟩) ?_ 5 (by omega) rfl ?_ rfl rfl rfl rfl rfl rfl rfl ?_; (focus kernel_rfl); (focus kernel_rfl); refine AWP.runL e'' tab_ok L23 300 rfl (by first | trivial | (simp [in64] <;> omega)) ?_)
            | (refine AWP.keep L23 rfl ?_; refine AWP.drg 100 ?_; (refine DrG.runS e'' tab_ok 200 rfl (by first | trivial | (simp [in64] <;> omega)) ?_); (repeat (first | (refine DrG.askT rfl ?_; (first | (refine Told.t rfl ?_) | (refine Told.f rfl ?_) | (refine Told.t ?_ ?_; (focus assumption)) | (refine Told.f ?_ ?_; (focus assumption)) | (refine Told.t ?_ ?_; (focus (first | (simp; omega) | (simp [*]; done)); done)) | (refine Told.f ?_ ?_; (focus (first | (simp; omega) | (simp [*]; done)); done))); (refine DrG.runS e'' tab_ok 200 rfl (by first | trivial | (simp [in64] <;> omega)) ?_)) | (refine DrG.eq_agg e'' tab_ok rfl rfl rfl (.inl ⟨rfl, rfl⟩) ?_ 5 (by omega) rfl ?_ rfl rfl rfl rfl rfl rfl rfl ?_; (focus kernel_rfl); (focus kernel_rfl); (refine DrG.runS e'' tab_ok 200 rfl (by first | trivial | (simp [in64] <;> omega)) ?_)) | (refine DrG.eq_aggGo e'' tab_ok rfl rfl rfl rfl (.inl ⟨rfl, rfl⟩) ?_ 5 (by omega) rfl ?_ rfl rfl rfl rfl rfl rfl rfl ?_; (focus kernel_rfl); (focus kernel_rfl); (refine DrG.runS e'' tab_ok 200 rfl (by first | trivial | (simp [in64] <;> omega)) ?_)) | (refine DrG.eq_agg e'' tab_ok rfl rfl rfl (.inr ⟨rfl, rfl⟩) ?_ 5 (by omega) rfl ?_ rfl rfl rfl rfl rfl rfl rfl ?_; (focus kernel_rfl); (focus kernel_rfl); (refine DrG.runS e'' tab_ok 200 rfl (by first | trivial | (simp [in64] <;> omega)) ?_)) | (refine DrG.eq_aggGo e'' tab_ok rfl rfl rfl rfl (.inr ⟨rfl, rfl⟩) ?_ 5 (by omega) rfl ?_ rfl rfl rfl rfl rfl rfl rfl ?_; (focus kernel_rfl); (focus kernel_rfl); (refine DrG.runS e'' tab_ok 200 rfl (by first | trivial | (simp [in64] <;> omega)) ?_)))); refine DrG.finK e'' rfl ?_ rfl rfl rfl ?_ ?_; (focus kernel_rfl); (focus (repeat' (first | exact True.intro | (refine And.intro ?_ ?_) | rfl | assumption | exact okRow _))); dsimp only [tmS, hpS, tput, effH]; refine AWP.runL e'' tab_ok L23 300 rfl (by first | trivial | (simp [in64] <;> omega)) ?_)
          )
        (first | (refine AWP.ret e'' tab_ok rfl ?_) | (refine AWP.fin e'' tab_ok rfl ?_)); rw [hP'']; show AWP cx' _ _
        refine AWP.runL e' tab_ok L16 300 rfl (by first | trivial | (simp [in64] <;> omega)) ?_
        refine AWP.runL e' tab_ok L16 300 rfl (by first | trivial | (simp [in64] <;> omega)) ?_
        repeat (
          first
            | (refine AWP.askT rfl ?_; (first | (refine Told.t rfl ?_) | (refine Told.f rfl ?_) | (refine Told.t ?_ ?_; (focus assumption)) | (refine Told.f ?_ ?_; (focus assumption)) | (refine Told.t ?_ ?_; (focus (first | (simp; omega) | (simp [*]; done)); done)) | (refine Told.f ?_ ?_; (focus (first | (simp; omega) | (simp [*]; done)); done))); refine AWP.runL e' tab_ok L16 300 rfl (by first | trivial | (simp [in64] <;> omega)) ?_)
            | (refine AWP.eq_agg e' tab_ok rfl rfl rfl (.inl ⟨rfl, rfl⟩) ?_ 5 (by omega) rfl ?_ rfl rfl rfl rfl rfl rfl rfl ?_; (focus kernel_rfl); (focus kernel_rfl); refine AWP.runL e' tab_ok L16 300 rfl (by first | trivial | (simp [in64] <;> omega)) ?_)
            | (refine AWP.eq_agg e' tab_ok rfl rfl rfl (.inr ⟨rfl, rfl⟩) ?_ 5 (by omega) rfl ?_ rfl rfl rfl rfl rfl rfl rfl ?_; (focus kernel_rfl); (focus kernel_rfl); refine AWP.runL e' tab_ok L16 300 rfl (by first | trivial | (simp [in64] <;> omega)) ?_)
          )
        refine AWP.less e' ?_ ?_ ?_ ?_ ?_ (nx2) <;> (repeat' (first | exact True.intro | (refine And.intro ?_ ?_) | rfl | assumption))
        · exact fnrow _
        · exact fun e he => ints_ok _ _ e he
      · rw [h2, if_neg (of_decide_eq_false h2), if_neg (of_decide_eq_false h2)] at nx2
        rcases cases_b (decide (t.left - 1 > 0)) with h3 | h3
        · rw [if_pos (of_decide_eq_true h3)] at nx2
          rcases cases_b t.on with h | h
          · rw [way_t h] at nx2
            refine AWP.enter e' rfl Try.func23 rfl rfl rfl rfl fun cx'' e'' hP'' => ?_
            refine AWP.runL e'' tab_ok L23 300 rfl (by first | trivial | (simp [in64] <;> omega)) ?_
            repeat (
              first
                | (refine AWP.askT rfl ?_; (first | (refine Told.t rfl ?_) | (refine Told.f rfl ?_) | (refine Told.t ?_ ?_; (focus assumption)) | (refine Told.f ?_ ?_; (focus assumption)) | (refine Told.t ?_ ?_; (focus (first | (simp; omega) | (simp [*]; done)); done)) | (refine Told.f ?_ ?_; (focus (first | (simp; omega) | (simp [*]; done)); done))); refine AWP.runL e'' tab_ok L23 300 rfl (by first | trivial | (simp [in64] <;> omega)) ?_)
                | (refine AWP.eq_agg e'' tab_ok rfl rfl rfl (.inl ⟨rfl, rfl⟩) ?_ 5 (by omega) rfl ?_ rfl rfl rfl rfl rfl rfl rfl ?_; (focus kernel_rfl); (focus kernel_rfl); refine AWP.runL e'' tab_ok L23 300 rfl (by first | trivial | (simp [in64] <;> omega)) ?_)
                | (refine AWP.eq_agg e'' tab_ok rfl rfl rfl (.inr ⟨rfl, rfl⟩) ?_ 5 (by omega) rfl ?_ rfl rfl rfl rfl rfl rfl rfl ?_; (focus kernel_rfl); (focus kernel_rfl); refine AWP.runL e'' tab_ok L23 300 rfl (by first | trivial | (simp [in64] <;> omega)) ?_)
                | (refine AWP.keep L23 rfl ?_; refine AWP.drg 100 ?_; (refine DrG.runS e'' tab_ok 200 rfl (by first | trivial | (simp [in64] <;> omega)) ?_); (repeat (first | (refine DrG.askT rfl ?_; (first | (refine Told.t rfl ?_) | (refine Told.f rfl ?_) | (refine Told.t ?_ ?_; (focus assumption)) | (refine Told.f ?_ ?_; (focus assumption)) | (refine Told.t ?_ ?_; (focus (first | (simp; omega) | (simp [*]; done)); done)) | (refine Told.f ?_ ?_; (focus (first | (simp; omega) | (simp [*]; done)); done))); (refine DrG.runS e'' tab_ok 200 rfl (by first | trivial | (simp [in64] <;> omega)) ?_)) | (refine DrG.eq_agg e'' tab_ok rfl rfl rfl (.inl ⟨rfl, rfl⟩) ?_ 5 (by omega) rfl ?_ rfl rfl rfl rfl rfl rfl rfl ?_; (focus kernel_rfl); (focus kernel_rfl); (refine DrG.runS e'' tab_ok 200 rfl (by first | trivial | (simp [in64] <;> omega)) ?_)) | (refine DrG.eq_aggGo e'' tab_ok rfl rfl rfl rfl (.inl ⟨rfl, rfl⟩) ?_ 5 (by omega) rfl ?_ rfl rfl rfl rfl rfl rfl rfl ?_; (focus kernel_rfl); (focus kernel_rfl); (refine DrG.runS e'' tab_ok 200 rfl (by first | trivial | (simp [in64] <;> omega)) ?_)) | (refine DrG.eq_agg e'' tab_ok rfl rfl rfl (.inr ⟨rfl, rfl⟩) ?_ 5 (by omega) rfl ?_ rfl rfl rfl rfl rfl rfl rfl ?_; (focus kernel_rfl); (focus kernel_rfl); (refine DrG.runS e'' tab_ok 200 rfl (by first | trivial | (simp [in64] <;> omega)) ?_)) | (refine DrG.eq_aggGo e'' tab_ok rfl rfl rfl rfl (.inr ⟨rfl, rfl⟩) ?_ 5 (by omega) rfl ?_ rfl rfl rfl rfl rfl rfl rfl ?_; (focus kernel_rfl); (focus kernel_rfl); (refine DrG.runS e'' tab_ok 200 rfl (by first | trivial | (simp [in64] <;> omega)) ?_)))); refine DrG.finK e'' rfl ?_ rfl rfl rfl ?_ ?_; (focus kernel_rfl); (focus (repeat' (first | exact True.intro | (refine And.intro ?_ ?_) | rfl | assumption | exact okRow _))); dsimp only [tmS, hpS, tput, effH]; refine AWP.runL e'' tab_ok L23 300 rfl (by first | trivial | (simp [in64] <;> omega)) ?_)
              )
            refine AWP.enter e'' rfl Try.func19 rfl rfl rfl rfl fun cx''' e''' hP''' => ?_
            refine AWP.runL e''' tab_ok L19 300 rfl (by first | trivial | (simp [in64] <;> omega)) ?_
            repeat (
              first
                | (refine AWP.askT rfl ?_; (first | (refine Told.t rfl ?_) | (refine Told.f rfl ?_) | (refine Told.t ?_ ?_; (focus assumption)) | (refine Told.f ?_ ?_; (focus assumption)) | (refine Told.t ?_ ?_; (focus (first | (simp; omega) | (simp [*]; done)); done)) | (refine Told.f ?_ ?_; (focus (first | (simp; omega) | (simp [*]; done)); done))); refine AWP.runL e''' tab_ok L19 300 rfl (by first | trivial | (simp [in64] <;> omega)) ?_)
                | (refine AWP.eq_agg e''' tab_ok rfl rfl rfl (.inl ⟨rfl, rfl⟩) ?_ 5 (by omega) rfl ?_ rfl rfl rfl rfl rfl rfl rfl ?_; (focus kernel_rfl); (focus kernel_rfl); refine AWP.runL e''' tab_ok L19 300 rfl (by first | trivial | (simp [in64] <;> omega)) ?_)
                | (refine AWP.eq_agg e''' tab_ok rfl rfl rfl (.inr ⟨rfl, rfl⟩) ?_ 5 (by omega) rfl ?_ rfl rfl rfl rfl rfl rfl rfl ?_; (focus kernel_rfl); (focus kernel_rfl); refine AWP.runL e''' tab_ok L19 300 rfl (by first | trivial | (simp [in64] <;> omega)) ?_)
              )
            (first | (refine AWP.ret e''' tab_ok rfl ?_) | (refine AWP.fin e''' tab_ok rfl ?_)); rw [hP''']; show AWP cx'' _ _
            refine AWP.runL e'' tab_ok L23 300 rfl (by first | trivial | (simp [in64] <;> omega)) ?_
            refine AWP.runL e'' tab_ok L23 300 rfl (by first | trivial | (simp [in64] <;> omega)) ?_
            repeat (
              first
                | (refine AWP.askT rfl ?_; (first | (refine Told.t rfl ?_) | (refine Told.f rfl ?_) | (refine Told.t ?_ ?_; (focus assumption)) | (refine Told.f ?_ ?_; (focus assumption)) | (refine Told.t ?_ ?_; (focus (first | (simp; omega) | (simp [*]; done)); done)) | (refine Told.f ?_ ?_; (focus (first | (simp; omega) | (simp [*]; done)); done))); refine AWP.runL e'' tab_ok L23 300 rfl (by first | trivial | (simp [in64] <;> omega)) ?_)
                | (refine AWP.eq_agg e'' tab_ok rfl rfl rfl (.inl ⟨rfl, rfl⟩) ?_ 5 (by omega) rfl ?_ rfl rfl rfl rfl rfl rfl rfl ?_; (focus kernel_rfl); (focus kernel_rfl); refine AWP.runL e'' tab_ok L23 300 rfl (by first | trivial | (simp [in64] <;> omega)) ?_)
                | (refine AWP.eq_agg e'' tab_ok rfl rfl rfl (.inr ⟨rfl, rfl⟩) ?_ 5 (by omega) rfl ?_ rfl rfl rfl rfl rfl rfl rfl ?_; (focus kernel_rfl); (focus kernel_rfl); refine AWP.runL e'' tab_ok L23 300 rfl (by first | trivial | (simp [in64] <;> omega)) ?_)
              )
            repeat (
              first
                | (refine AWP.askT rfl ?_; (first | (refine Told.t rfl ?_) | (refine Told.f rfl ?_) | (refine Told.t ?_ ?_; (focus assumption)) | (refine Told.f ?_ ?_; (focus assumption)) | (refine Told.t ?_ ?_; (focus (first | (simp; omega) | (simp [*]; done)); done)) | (refine Told.f ?_ ?_; (focus (first | (simp; omega) | (simp [*]; done)); done))); refine AWP.runL e'' tab_ok L23 300 rfl (by first | trivial | (simp [in64] <;> omega)) ?_)
                | (refine AWP.eq_agg e'' tab_ok rfl rfl rfl (.inl ⟨rfl, rfl⟩) ?_ 5 (by omega) rfl ?_ rfl rfl rfl rfl rfl rfl rfl ?_; (focus kernel_rfl); (focus kernel_rfl); refine AWP.runL e'' tab_ok L23 300 rfl (by first | trivial | (simp [in64] <;> omega)) ?_)
                | (refine AWP.eq_agg e'' tab_ok rfl rfl rfl (.inr ⟨rfl, rfl⟩) ?_ 5 (by omega) rfl ?_ rfl rfl rfl rfl rfl rfl rfl ?_; (focus kernel_rfl); (focus kernel_rfl); refine AWP.runL e'' tab_ok L23 300 rfl (by first | trivial | (simp [in64] <;> omega)) ?_)
                | (refine AWP.keep L23 rfl ?_; refine AWP.drg 100 ?_; (refine DrG.runS e'' tab_ok 200 rfl (by first | trivial | (simp [in64] <;> omega)) ?_); (repeat (first | (refine DrG.askT rfl ?_; (first | (refine Told.t rfl ?_) | (refine Told.f rfl ?_) | (refine Told.t ?_ ?_; (focus assumption)) | (refine Told.f ?_ ?_; (focus assumption)) | (refine Told.t ?_ ?_; (focus (first | (simp; omega) | (simp [*]; done)); done)) | (refine Told.f ?_ ?_; (focus (first | (simp; omega) | (simp [*]; done)); done))); (refine DrG.runS e'' tab_ok 200 rfl (by first | trivial | (simp [in64] <;> omega)) ?_)) | (refine DrG.eq_agg e'' tab_ok rfl rfl rfl (.inl ⟨rfl, rfl⟩) ?_ 5 (by omega) rfl ?_ rfl rfl rfl rfl rfl rfl rfl ?_; (focus kernel_rfl); (focus kernel_rfl); (refine DrG.runS e'' tab_ok 200 rfl (by first | trivial | (simp [in64] <;> omega)) ?_)) | (refine DrG.eq_aggGo e'' tab_ok rfl rfl rfl rfl (.inl ⟨rfl, rfl⟩) ?_ 5 (by omega) rfl ?_ rfl rfl rfl rfl rfl rfl rfl ?_; (focus kernel_rfl); (focus kernel_rfl); (refine DrG.runS e'' tab_ok 200 rfl (by first | trivial | (simp [in64] <;> omega)) ?_)) | (refine DrG.eq_agg e'' tab_ok rfl rfl rfl (.inr ⟨rfl, rfl⟩) ?_ 5 (by omega) rfl ?_ rfl rfl rfl rfl rfl rfl rfl ?_; (focus kernel_rfl); (focus kernel_rfl); (refine DrG.runS e'' tab_ok 200 rfl (by first | trivial | (simp [in64] <;> omega)) ?_)) | (refine DrG.eq_aggGo e'' tab_ok rfl rfl rfl rfl (.inr ⟨rfl, rfl⟩) ?_ 5 (by omega) rfl ?_ rfl rfl rfl rfl rfl rfl rfl ?_; (focus kernel_rfl); (focus kernel_rfl); (refine DrG.runS e'' tab_ok 200 rfl (by first | trivial | (simp [in64] <;> omega)) ?_)))); refine DrG.finK e'' rfl ?_ rfl rfl rfl ?_ ?_; (focus kernel_rfl); (focus (repeat' (first | exact True.intro | (refine And.intro ?_ ?_) | rfl | assumption | exact okRow _))); dsimp only [tmS, hpS, tput, effH]; refine AWP.runL e'' tab_ok L23 300 rfl (by first | trivial | (simp [in64] <;> omega)) ?_)
              )
            (first | (refine AWP.ret e'' tab_ok rfl ?_) | (refine AWP.fin e'' tab_ok rfl ?_)); rw [hP'']; show AWP cx' _ _
            refine AWP.runL e' tab_ok L16 300 rfl (by first | trivial | (simp [in64] <;> omega)) ?_
            refine AWP.runL e' tab_ok L16 300 rfl (by first | trivial | (simp [in64] <;> omega)) ?_
            repeat (
              first
                | (refine AWP.askT rfl ?_; (first | (refine Told.t rfl ?_) | (refine Told.f rfl ?_) | (refine Told.t ?_ ?_; (focus assumption)) | (refine Told.f ?_ ?_; (focus assumption)) | (refine Told.t ?_ ?_; (focus (first | (simp; omega) | (simp [*]; done)); done)) | (refine Told.f ?_ ?_; (focus (first | (simp; omega) | (simp [*]; done)); done))); refine AWP.runL e' tab_ok L16 300 rfl (by first | trivial | (simp [in64] <;> omega)) ?_)
                | (refine AWP.eq_agg e' tab_ok rfl rfl rfl (.inl ⟨rfl, rfl⟩) ?_ 5 (by omega) rfl ?_ rfl rfl rfl rfl rfl rfl rfl ?_; (focus kernel_rfl); (focus kernel_rfl); refine AWP.runL e' tab_ok L16 300 rfl (by first | trivial | (simp [in64] <;> omega)) ?_)
                | (refine AWP.eq_agg e' tab_ok rfl rfl rfl (.inr ⟨rfl, rfl⟩) ?_ 5 (by omega) rfl ?_ rfl rfl rfl rfl rfl rfl rfl ?_; (focus kernel_rfl); (focus kernel_rfl); refine AWP.runL e' tab_ok L16 300 rfl (by first | trivial | (simp [in64] <;> omega)) ?_)
              )
            refine AWP.less e' ?_ ?_ ?_ ?_ ?_ (nx2) <;> (repeat' (first | exact True.intro | (refine And.intro ?_ ?_) | rfl | assumption))
            · exact fnrow _
            · exact fun e he => ints_ok _ _ e he
          · rw [way_f h] at nx2
            refine AWP.enter e' rfl Try.func23 rfl rfl rfl rfl fun cx'' e'' hP'' => ?_
            refine AWP.runL e'' tab_ok L23 300 rfl (by first | trivial | (simp [in64] <;> omega)) ?_
            repeat (
              first
                | (refine AWP.askT rfl ?_; (first | (refine Told.t rfl ?_) | (refine Told.f rfl ?_) | (refine Told.t ?_ ?_; (focus assumption)) | (refine Told.f ?_ ?_; (focus assumption)) | (refine Told.t ?_ ?_; (focus (first | (simp; omega) | (simp [*]; done)); done)) | (refine Told.f ?_ ?_; (focus (first | (simp; omega) | (simp [*]; done)); done))); refine AWP.runL e'' tab_ok L23 300 rfl (by first | trivial | (simp [in64] <;> omega)) ?_)
                | (refine AWP.eq_agg e'' tab_ok rfl rfl rfl (.inl ⟨rfl, rfl⟩) ?_ 5 (by omega) rfl ?_ rfl rfl rfl rfl rfl rfl rfl ?_; (focus kernel_rfl); (focus kernel_rfl); refine AWP.runL e'' tab_ok L23 300 rfl (by first | trivial | (simp [in64] <;> omega)) ?_)
                | (refine AWP.eq_agg e'' tab_ok rfl rfl rfl (.inr ⟨rfl, rfl⟩) ?_ 5 (by omega) rfl ?_ rfl rfl rfl rfl rfl rfl rfl ?_; (focus kernel_rfl); (focus kernel_rfl); refine AWP.runL e'' tab_ok L23 300 rfl (by first | trivial | (simp [in64] <;> omega)) ?_)
                | (refine AWP.keep L23 rfl ?_; refine AWP.drg 100 ?_; (refine DrG.runS e'' tab_ok 200 rfl (by first | trivial | (simp [in64] <;> omega)) ?_); (repeat (first | (refine DrG.askT rfl ?_; (first | (refine Told.t rfl ?_) | (refine Told.f rfl ?_) | (refine Told.t ?_ ?_; (focus assumption)) | (refine Told.f ?_ ?_; (focus assumption)) | (refine Told.t ?_ ?_; (focus (first | (simp; omega) | (simp [*]; done)); done)) | (refine Told.f ?_ ?_; (focus (first | (simp; omega) | (simp [*]; done)); done))); (refine DrG.runS e'' tab_ok 200 rfl (by first | trivial | (simp [in64] <;> omega)) ?_)) | (refine DrG.eq_agg e'' tab_ok rfl rfl rfl (.inl ⟨rfl, rfl⟩) ?_ 5 (by omega) rfl ?_ rfl rfl rfl rfl rfl rfl rfl ?_; (focus kernel_rfl); (focus kernel_rfl); (refine DrG.runS e'' tab_ok 200 rfl (by first | trivial | (simp [in64] <;> omega)) ?_)) | (refine DrG.eq_aggGo e'' tab_ok rfl rfl rfl rfl (.inl ⟨rfl, rfl⟩) ?_ 5 (by omega) rfl ?_ rfl rfl rfl rfl rfl rfl rfl ?_; (focus kernel_rfl); (focus kernel_rfl); (refine DrG.runS e'' tab_ok 200 rfl (by first | trivial | (simp [in64] <;> omega)) ?_)) | (refine DrG.eq_agg e'' tab_ok rfl rfl rfl (.inr ⟨rfl, rfl⟩) ?_ 5 (by omega) rfl ?_ rfl rfl rfl rfl rfl rfl rfl ?_; (focus kernel_rfl); (focus kernel_rfl); (refine DrG.runS e'' tab_ok 200 rfl (by first | trivial | (simp [in64] <;> omega)) ?_)) | (refine DrG.eq_aggGo e'' tab_ok rfl rfl rfl rfl (.inr ⟨rfl, rfl⟩) ?_ 5 (by omega) rfl ?_ rfl rfl rfl rfl rfl rfl rfl ?_; (focus kernel_rfl); (focus kernel_rfl); (refine DrG.runS e'' tab_ok 200 rfl (by first | trivial | (simp [in64] <;> omega)) ?_)))); refine DrG.finK e'' rfl ?_ rfl rfl rfl ?_ ?_; (focus kernel_rfl); (focus (repeat' (first | exact True.intro | (refine And.intro ?_ ?_) | rfl | assumption | exact okRow _))); dsimp only [tmS, hpS, tput, effH]; refine AWP.runL e'' tab_ok L23 300 rfl (by first | trivial | (simp [in64] <;> omega)) ?_)
              )
            refine AWP.enter e'' rfl Try.func19 rfl rfl rfl rfl fun cx''' e''' hP''' => ?_
            refine AWP.runL e''' tab_ok L19 300 rfl (by first | trivial | (simp [in64] <;> omega)) ?_
            repeat (
              first
                | (refine AWP.askT rfl ?_; (first | (refine Told.t rfl ?_) | (refine Told.f rfl ?_) | (refine Told.t ?_ ?_; (focus assumption)) | (refine Told.f ?_ ?_; (focus assumption)) | (refine Told.t ?_ ?_; (focus (first | (simp; omega) | (simp [*]; done)); done)) | (refine Told.f ?_ ?_; (focus (first | (simp; omega) | (simp [*]; done)); done))); refine AWP.runL e''' tab_ok L19 300 rfl (by first | trivial | (simp [in64] <;> omega)) ?_)
                | (refine AWP.eq_agg e''' tab_ok rfl rfl rfl (.inl ⟨rfl, rfl⟩) ?_ 5 (by omega) rfl ?_ rfl rfl rfl rfl rfl rfl rfl ?_; (focus kernel_rfl); (focus kernel_rfl); refine AWP.runL e''' tab_ok L19 300 rfl (by first | trivial | (simp [in64] <;> omega)) ?_)
                | (refine AWP.eq_agg e''' tab_ok rfl rfl rfl (.inr ⟨rfl, rfl⟩) ?_ 5 (by omega) rfl ?_ rfl rfl rfl rfl rfl rfl rfl ?_; (focus kernel_rfl); (focus kernel_rfl); refine AWP.runL e''' tab_ok L19 300 rfl (by first | trivial | (simp [in64] <;> omega)) ?_)
              )
            (first | (refine AWP.ret e''' tab_ok rfl ?_) | (refine AWP.fin e''' tab_ok rfl ?_)); rw [hP''']; show AWP cx'' _ _
            refine AWP.runL e'' tab_ok L23 300 rfl (by first | trivial | (simp [in64] <;> omega)) ?_
            refine AWP.runL e'' tab_ok L23 300 rfl (by first | trivial | (simp [in64] <;> omega)) ?_
            repeat (
              first
                | (refine AWP.askT rfl ?_; (first | (refine Told.t rfl ?_) | (refine Told.f rfl ?_) | (refine Told.t ?_ ?_; (focus assumption)) | (refine Told.f ?_ ?_; (focus assumption)) | (refine Told.t ?_ ?_; (focus (first | (simp; omega) | (simp [*]; done)); done)) | (refine Told.f ?_ ?_; (focus (first | (simp; omega) | (simp [*]; done)); done))); refine AWP.runL e'' tab_ok L23 300 rfl (by first | trivial | (simp [in64] <;> omega)) ?_)
                | (refine AWP.eq_agg e'' tab_ok rfl rfl rfl (.inl ⟨rfl, rfl⟩) ?_ 5 (by omega) rfl ?_ rfl rfl rfl rfl rfl rfl rfl ?_; (focus kernel_rfl); (focus kernel_rfl); refine AWP.runL e'' tab_ok L23 300 rfl (by first | trivial | (simp [in64] <;> omega)) ?_)
                | (refine AWP.eq_agg e'' tab_ok rfl rfl rfl (.inr ⟨rfl, rfl⟩) ?_ 5 (by omega) rfl ?_ rfl rfl rfl rfl rfl rfl rfl ?_; (focus kernel_rfl); (focus kernel_rfl); refine AWP.runL e'' tab_ok L23 300 rfl (by first | trivial | (simp [in64] <;> omega)) ?_)
              )
            repeat (
              first
                | (refine AWP.askT rfl ?_; (first | (refine Told.t rfl ?_) | (refine Told.f rfl ?_) | (refine Told.t ?_ ?_; (focus assumption)) | (refine Told.f ?_ ?_; (focus assumption)) | (refine Told.t ?_ ?_; (focus (first | (simp; omega) | (simp [*]; done)); done)) | (refine Told.f ?_ ?_; (focus (first | (simp; omega) | (simp [*]; done)); done))); refine AWP.runL e'' tab_ok L23 300 rfl (by first | trivial | (simp [in64] <;> omega)) ?_)
                | (refine AWP.eq_agg e'' tab_ok rfl rfl rfl (.inl ⟨rfl, rfl⟩) ?_ 5 (by omega) rfl ?_ rfl rfl rfl rfl rfl rfl rfl ?_; (focus kernel_rfl); (focus kernel_rfl); refine AWP.runL e'' tab_ok L23 300 rfl (by first | trivial | (simp [in64] <;> omega)) ?_)
                | (refine AWP.eq_agg e'' tab_ok rfl rfl rfl (.inr ⟨rfl, rfl⟩) ?_ 5 (by omega) rfl ?_ rfl rfl rfl rfl rfl rfl rfl ?_; (focus kernel_rfl); (focus kernel_rfl); refine AWP.runL e'' tab_ok L23 300 rfl (by first | trivial | (simp [in64] <;> omega)) ?_)
                | (refine AWP.keep L23 rfl ?_; refine AWP.drg 100 ?_; (refine DrG.runS e'' tab_ok 200 rfl (by first | trivial | (simp [in64] <;> omega)) ?_); (repeat (first | (refine DrG.askT rfl ?_; (first | (refine Told.t rfl ?_) | (refine Told.f rfl ?_) | (refine Told.t ?_ ?_; (focus assumption)) | (refine Told.f ?_ ?_; (focus assumption)) | (refine Told.t ?_ ?_; (focus (first | (simp; omega) | (simp [*]; done)); done)) | (refine Told.f ?_ ?_; (focus (first | (simp; omega) | (simp [*]; done)); done))); (refine DrG.runS e'' tab_ok 200 rfl (by first | trivial | (simp [in64] <;> omega)) ?_)) | (refine DrG.eq_agg e'' tab_ok rfl rfl rfl (.inl ⟨rfl, rfl⟩) ?_ 5 (by omega) rfl ?_ rfl rfl rfl rfl rfl rfl rfl ?_; (focus kernel_rfl); (focus kernel_rfl); (refine DrG.runS e'' tab_ok 200 rfl (by first | trivial | (simp [in64] <;> omega)) ?_)) | (refine DrG.eq_aggGo e'' tab_ok rfl rfl rfl rfl (.inl ⟨rfl, rfl⟩) ?_ 5 (by omega) rfl ?_ rfl rfl rfl rfl rfl rfl rfl ?_; (focus kernel_rfl); (focus kernel_rfl); (refine DrG.runS e'' tab_ok 200 rfl (by first | trivial | (simp [in64] <;> omega)) ?_)) | (refine DrG.eq_agg e'' tab_ok rfl rfl rfl (.inr ⟨rfl, rfl⟩) ?_ 5 (by omega) rfl ?_ rfl rfl rfl rfl rfl rfl rfl ?_; (focus kernel_rfl); (focus kernel_rfl); (refine DrG.runS e'' tab_ok 200 rfl (by first | trivial | (simp [in64] <;> omega)) ?_)) | (refine DrG.eq_aggGo e'' tab_ok rfl rfl rfl rfl (.inr ⟨rfl, rfl⟩) ?_ 5 (by omega) rfl ?_ rfl rfl rfl rfl rfl rfl rfl ?_; (focus kernel_rfl); (focus kernel_rfl); (refine DrG.runS e'' tab_ok 200 rfl (by first | trivial | (simp [in64] <;> omega)) ?_)))); refine DrG.finK e'' rfl ?_ rfl rfl rfl ?_ ?_; (focus kernel_rfl); (focus (repeat' (first | exact True.intro | (refine And.intro ?_ ?_) | rfl | assumption | exact okRow _))); dsimp only [tmS, hpS, tput, effH]; refine AWP.runL e'' tab_ok L23 300 rfl (by first | trivial | (simp [in64] <;> omega)) ?_)
              )
            (first | (refine AWP.ret e'' tab_ok rfl ?_) | (refine AWP.fin e'' tab_ok rfl ?_)); rw [hP'']; show AWP cx' _ _
            refine AWP.runL e' tab_ok L16 300 rfl (by first | trivial | (simp [in64] <;> omega)) ?_
            refine AWP.runL e' tab_ok L16 300 rfl (by first | trivial | (simp [in64] <;> omega)) ?_
            repeat (
              first
                | (refine AWP.askT rfl ?_; (first | (refine Told.t rfl ?_) | (refine Told.f rfl ?_) | (refine Told.t ?_ ?_; (focus assumption)) | (refine Told.f ?_ ?_; (focus assumption)) | (refine Told.t ?_ ?_; (focus (first | (simp; omega) | (simp [*]; done)); done)) | (refine Told.f ?_ ?_; (focus (first | (simp; omega) | (simp [*]; done)); done))); refine AWP.runL e' tab_ok L16 300 rfl (by first | trivial | (simp [in64] <;> omega)) ?_)
                | (refine AWP.eq_agg e' tab_ok rfl rfl rfl (.inl ⟨rfl, rfl⟩) ?_ 5 (by omega) rfl ?_ rfl rfl rfl rfl rfl rfl rfl ?_; (focus kernel_rfl); (focus kernel_rfl); refine AWP.runL e' tab_ok L16 300 rfl (by first | trivial | (simp [in64] <;> omega)) ?_)
                | (refine AWP.eq_agg e' tab_ok rfl rfl rfl (.inr ⟨rfl, rfl⟩) ?_ 5 (by omega) rfl ?_ rfl rfl rfl rfl rfl rfl rfl ?_; (focus kernel_rfl); (focus kernel_rfl); refine AWP.runL e' tab_ok L16 300 rfl (by first | trivial | (simp [in64] <;> omega)) ?_)
              )
            refine AWP.less e' ?_ ?_ ?_ ?_ ?_ (nx2) <;> (repeat' (first | exact True.intro | (refine And.intro ?_ ?_) | rfl | assumption))
            · exact fnrow _
            · exact fun e he => ints_ok _ _ e he
        · rw [if_neg (of_decide_eq_false h3)] at nx2
          refine AWP.enter e' rfl Try.func23 rfl rfl rfl rfl fun cx'' e'' hP'' => ?_
          refine AWP.runL e'' tab_ok L23 300 rfl (by first | trivial | (simp [in64] <;> omega)) ?_
          repeat (
            first
              | (refine AWP.askT rfl ?_; (first | (refine Told.t rfl ?_) | (refine Told.f rfl ?_) | (refine Told.t ?_ ?_; (focus assumption)) | (refine Told.f ?_ ?_; (focus assumption)) | (refine Told.t ?_ ?_; (focus (first | (simp; omega) | (simp [*]; done)); done)) | (refine Told.f ?_ ?_; (focus (first | (simp; omega) | (simp [*]; done)); done))); refine AWP.runL e'' tab_ok L23 300 rfl (by first | trivial | (simp [in64] <;> omega)) ?_)
              | (refine AWP.eq_agg e'' tab_ok rfl rfl rfl (.inl ⟨rfl, rfl⟩) ?_ 5 (by omega) rfl ?_ rfl rfl rfl rfl rfl rfl rfl ?_; (focus kernel_rfl); (focus kernel_rfl); refine AWP.runL e'' tab_ok L23 300 rfl (by first | trivial | (simp [in64] <;> omega)) ?_)
              | (refine AWP.eq_agg e'' tab_ok rfl rfl rfl (.inr ⟨rfl, rfl⟩) ?_ 5 (by omega) rfl ?_ rfl rfl rfl rfl rfl rfl rfl ?_; (focus kernel_rfl); (focus kernel_rfl); refine AWP.runL e'' tab_ok L23 300 rfl (by first | trivial | (simp [in64] <;> omega)) ?_)
              | (refine AWP.keep L23 rfl ?_; refine AWP.drg 100 ?_; (refine DrG.runS e'' tab_ok 200 rfl (by first | trivial | (simp [in64] <;> omega)) ?_); (repeat (first | (refine DrG.askT rfl ?_; (first | (refine Told.t rfl ?_) | (refine Told.f rfl ?_) | (refine Told.t ?_ ?_; (focus assumption)) | (refine Told.f ?_ ?_; (focus assumption)) | (refine Told.t ?_ ?_; (focus (first | (simp; omega) | (simp [*]; done)); done)) | (refine Told.f ?_ ?_; (focus (first | (simp; omega) | (simp [*]; done)); done))); (refine DrG.runS e'' tab_ok 200 rfl (by first | trivial | (simp [in64] <;> omega)) ?_)) | (refine DrG.eq_agg e'' tab_ok rfl rfl rfl (.inl ⟨rfl, rfl⟩) ?_ 5 (by omega) rfl ?_ rfl rfl rfl rfl rfl rfl rfl ?_; (focus kernel_rfl); (focus kernel_rfl); (refine DrG.runS e'' tab_ok 200 rfl (by first | trivial | (simp [in64] <;> omega)) ?_)) | (refine DrG.eq_aggGo e'' tab_ok rfl rfl rfl rfl (.inl ⟨rfl, rfl⟩) ?_ 5 (by omega) rfl ?_ rfl rfl rfl rfl rfl rfl rfl ?_; (focus kernel_rfl); (focus kernel_rfl); (refine DrG.runS e'' tab_ok 200 rfl (by first | trivial | (simp [in64] <;> omega)) ?_)) | (refine DrG.eq_agg e'' tab_ok rfl rfl rfl (.inr ⟨rfl, rfl⟩) ?_ 5 (by omega) rfl ?_ rfl rfl rfl rfl rfl rfl rfl ?_; (focus kernel_rfl); (focus kernel_rfl); (refine DrG.runS e'' tab_ok 200 rfl (by first | trivial | (simp [in64] <;> omega)) ?_)) | (refine DrG.eq_aggGo e'' tab_ok rfl rfl rfl rfl (.inr ⟨rfl, rfl⟩) ?_ 5 (by omega) rfl ?_ rfl rfl rfl rfl rfl rfl rfl ?_; (focus kernel_rfl); (focus kernel_rfl); (refine DrG.runS e'' tab_ok 200 rfl (by first | trivial | (simp [in64] <;> omega)) ?_)))); refine DrG.finK e'' rfl ?_ rfl rfl rfl ?_ ?_; (focus kernel_rfl); (focus (repeat' (first | exact True.intro | (refine And.intro ?_ ?_) | rfl | assumption | exact okRow _))); dsimp only [tmS, hpS, tput, effH]; refine AWP.runL e'' tab_ok L23 300 rfl (by first | trivial | (simp [in64] <;> omega)) ?_)
            )
          (first | (refine AWP.ret e'' tab_ok rfl ?_) | (refine AWP.fin e'' tab_ok rfl ?_)); rw [hP'']; show AWP cx' _ _
          refine AWP.runL e' tab_ok L16 300 rfl (by first | trivial | (simp [in64] <;> omega)) ?_
          refine AWP.runL e' tab_ok L16 300 rfl (by first | trivial | (simp [in64] <;> omega)) ?_
          repeat (
            first
              | (refine AWP.askT rfl ?_; (first | (refine Told.t rfl ?_) | (refine Told.f rfl ?_) | (refine Told.t ?_ ?_; (focus assumption)) | (refine Told.f ?_ ?_; (focus assumption)) | (refine Told.t ?_ ?_; (focus (first | (simp; omega) | (simp [*]; done)); done)) | (refine Told.f ?_ ?_; (focus (first | (simp; omega) | (simp [*]; done)); done))); refine AWP.runL e' tab_ok L16 300 rfl (by first | trivial | (simp [in64] <;> omega)) ?_)
              | (refine AWP.eq_agg e' tab_ok rfl rfl rfl (.inl ⟨rfl, rfl⟩) ?_ 5 (by omega) rfl ?_ rfl rfl rfl rfl rfl rfl rfl ?_; (focus kernel_rfl); (focus kernel_rfl); refine AWP.runL e' tab_ok L16 300 rfl (by first | trivial | (simp [in64] <;> omega)) ?_)
              | (refine AWP.eq_agg e' tab_ok rfl rfl rfl (.inr ⟨rfl, rfl⟩) ?_ 5 (by omega) rfl ?_ rfl rfl rfl rfl rfl rfl rfl ?_; (focus kernel_rfl); (focus kernel_rfl); refine AWP.runL e' tab_ok L16 300 rfl (by first | trivial | (simp [in64] <;> omega)) ?_)
            )
          refine AWP.less e' ?_ ?_ ?_ ?_ ?_ (nx2) <;> (repeat' (first | exact True.intro | (refine And.intro ?_ ?_) | rfl | assumption))
          · exact fnrow _
          · exact fun e he => ints_ok _ _ e he
  · clear next2
    obtain ⟨D, hD⟩ : ∃ D, D = dueB t := ⟨_, rfl⟩
    obtain ⟨H, hH⟩ : ∃ H, H = hold1 t := ⟨_, rfl⟩
    have hH0 : 0 ≤ H := by rw [hH]; unfold hold1; split <;> omega
    have hlen := out_len s i
    have key : sC (runS s (i + 1)) = lC t (perP t) (agGap t) (agLeft t) (if (D && (H == 0)) then t.delay else H) (D && decide (H > 0)) := by rw [hH, hD, ht]; rfl
    have kout : out s (i + 1) = out s i ++ (if (D && (H == 0)) then [(i : Int) + 1] else []) := by rw [hH, hD, ht]; rfl
    have nx := fun C2 (hC : (out s (i + 1)).length ≤ C2) => next (i + 1, C2) ⟨(show i + 1 ≤ n from hlt), hC⟩ (show n - (i + 1) < n - i by omega)
    clear next
    dsimp only at nx
    simp only [key, kout] at nx
    clear key kout
    refine AWP.eqH 2 (lC t (perP t) (agGap t) (agLeft t) H t.asked) rfl (by rw [hH]; rfl) ?_
    refine AWP.eqT 3 (.b D) rfl (by rw [hD]; rfl) ?_
    clear hD hH
    rcases cases_b D with h | h <;> subst h
    · by_cases h0 : H = 0
      · subst h0
        have nx := nx
        simp only [beq_self_eq_true, Bool.and_self, if_true, Int.lt_irrefl, decide_false, Bool.and_false, gt_iff_lt] at nx
        refine AWP.runL e' tab_ok L16 300 rfl (by first | trivial | (simp [in64] <;> omega)) ?_
        repeat (
          first
            | (refine AWP.askT rfl ?_; (first | (refine Told.t rfl ?_) | (refine Told.f rfl ?_) | (refine Told.t ?_ ?_; (focus assumption)) | (refine Told.f ?_ ?_; (focus assumption)) | (refine Told.t ?_ ?_; (focus (first | (simp; omega) | (simp [*]; done)); done)) | (refine Told.f ?_ ?_; (focus (first | (simp; omega) | (simp [*]; done)); done))); refine AWP.runL e' tab_ok L16 300 rfl (by first | trivial | (simp [in64] <;> omega)) ?_)
            | (refine AWP.eq_agg e' tab_ok rfl rfl rfl (.inl ⟨rfl, rfl⟩) ?_ 5 (by omega) rfl ?_ rfl rfl rfl rfl rfl rfl rfl ?_; (focus kernel_rfl); (focus kernel_rfl); refine AWP.runL e' tab_ok L16 300 rfl (by first | trivial | (simp [in64] <;> omega)) ?_)
            | (refine AWP.eq_agg e' tab_ok rfl rfl rfl (.inr ⟨rfl, rfl⟩) ?_ 5 (by omega) rfl ?_ rfl rfl rfl rfl rfl rfl rfl ?_; (focus kernel_rfl); (focus kernel_rfl); refine AWP.runL e' tab_ok L16 300 rfl (by first | trivial | (simp [in64] <;> omega)) ?_)
          )
        repeat (
          first
            | (refine AWP.askT rfl ?_; (first | (refine Told.t rfl ?_) | (refine Told.f rfl ?_) | (refine Told.t ?_ ?_; (focus assumption)) | (refine Told.f ?_ ?_; (focus assumption)) | (refine Told.t ?_ ?_; (focus (first | (simp; omega) | (simp [*]; done)); done)) | (refine Told.f ?_ ?_; (focus (first | (simp; omega) | (simp [*]; done)); done))); refine AWP.runL e' tab_ok L16 300 rfl (by first | trivial | (simp [in64] <;> omega)) ?_)
            | (refine AWP.eq_agg e' tab_ok rfl rfl rfl (.inl ⟨rfl, rfl⟩) ?_ 5 (by omega) rfl ?_ rfl rfl rfl rfl rfl rfl rfl ?_; (focus kernel_rfl); (focus kernel_rfl); refine AWP.runL e' tab_ok L16 300 rfl (by first | trivial | (simp [in64] <;> omega)) ?_)
            | (refine AWP.eq_agg e' tab_ok rfl rfl rfl (.inr ⟨rfl, rfl⟩) ?_ 5 (by omega) rfl ?_ rfl rfl rfl rfl rfl rfl rfl ?_; (focus kernel_rfl); (focus kernel_rfl); refine AWP.runL e' tab_ok L16 300 rfl (by first | trivial | (simp [in64] <;> omega)) ?_)
            | (refine AWP.keep L16 rfl ?_; refine AWP.drg 100 ?_; (refine DrG.runS e' tab_ok 200 rfl (by first | trivial | (simp [in64] <;> omega)) ?_); (repeat (first | (refine DrG.askT rfl ?_; (first | (refine Told.t rfl ?_) | (refine Told.f rfl ?_) | (refine Told.t ?_ ?_; (focus assumption)) | (refine Told.f ?_ ?_; (focus assumption)) | (refine Told.t ?_ ?_; (focus (first | (simp; omega) | (simp [*]; done)); done)) | (refine Told.f ?_ ?_; (focus (first | (simp; omega) | (simp [*]; done)); done))); (refine DrG.runS e' tab_ok 200 rfl (by first | trivial | (simp [in64] <;> omega)) ?_)) | (refine DrG.eq_agg e' tab_ok rfl rfl rfl (.inl ⟨rfl, rfl⟩) ?_ 5 (by omega) rfl ?_ rfl rfl rfl rfl rfl rfl rfl ?_; (focus kernel_rfl); (focus kernel_rfl); (refine DrG.runS e' tab_ok 200 rfl (by first | trivial | (simp [in64] <;> omega)) ?_)) | (refine DrG.eq_aggGo e' tab_ok rfl rfl rfl rfl (.inl ⟨rfl, rfl⟩) ?_ 5 (by omega) rfl ?_ rfl rfl rfl rfl rfl rfl rfl ?_; (focus kernel_rfl); (focus kernel_rfl); (refine DrG.runS e' tab_ok 200 rfl (by first | trivial | (simp [in64] <;> omega)) ?_)) | (refine DrG.eq_agg e' tab_ok rfl rfl rfl (.inr ⟨rfl, rfl⟩) ?_ 5 (by omega) rfl ?_ rfl rfl rfl rfl rfl rfl rfl ?_; (focus kernel_rfl); (focus kernel_rfl); (refine DrG.runS e' tab_ok 200 rfl (by first | trivial | (simp [in64] <;> omega)) ?_)) | (refine DrG.eq_aggGo e' tab_ok rfl rfl rfl rfl (.inr ⟨rfl, rfl⟩) ?_ 5 (by omega) rfl ?_ rfl rfl rfl rfl rfl rfl rfl ?_; (focus kernel_rfl); (focus kernel_rfl); (refine DrG.runS e' tab_ok 200 rfl (by first | trivial | (simp [in64] <;> omega)) ?_)))); refine DrG.finK e' rfl ?_ rfl rfl rfl ?_ ?_; (focus kernel_rfl); (focus (repeat' (first | exact True.intro | (refine And.intro ?_ ?_) | rfl | assumption | exact okRow _))); dsimp only [tmS, hpS, tput, effH]; refine AWP.runL e' tab_ok L16 300 rfl (by first | trivial | (simp [in64] <;> omega)) ?_)
          )
        (first | (refine AWP.ret e' tab_ok rfl ?_) | (refine AWP.fin e' tab_ok rfl ?_)); rw [hP']; show AWP cx _ _
        refine AWP.runL e tab_ok L7 300 rfl (by first | trivial | (simp [in64] <;> omega)) ?_
        refine AWP.runL e tab_ok L7 300 rfl (by first | trivial | (simp [in64] <;> omega)) ?_
        repeat (
          first
            | (refine AWP.askT rfl ?_; (first | (refine Told.t rfl ?_) | (refine Told.f rfl ?_) | (refine Told.t ?_ ?_; (focus assumption)) | (refine Told.f ?_ ?_; (focus assumption)) | (refine Told.t ?_ ?_; (focus (first | (simp; omega) | (simp [*]; done)); done)) | (refine Told.f ?_ ?_; (focus (first | (simp; omega) | (simp [*]; done)); done))); refine AWP.runL e tab_ok L7 300 rfl (by first | trivial | (simp [in64] <;> omega)) ?_)
            | (refine AWP.eq_agg e tab_ok rfl rfl rfl (.inl ⟨rfl, rfl⟩) ?_ 5 (by omega) rfl ?_ rfl rfl rfl rfl rfl rfl rfl ?_; (focus kernel_rfl); (focus kernel_rfl); refine AWP.runL e tab_ok L7 300 rfl (by first | trivial | (simp [in64] <;> omega)) ?_)
            | (refine AWP.eq_agg e tab_ok rfl rfl rfl (.inr ⟨rfl, rfl⟩) ?_ 5 (by omega) rfl ?_ rfl rfl rfl rfl rfl rfl rfl ?_; (focus kernel_rfl); (focus kernel_rfl); refine AWP.runL e tab_ok L7 300 rfl (by first | trivial | (simp [in64] <;> omega)) ?_)
          )
        refine AWP.append e tab_ok rfl rfl rfl rfl rfl rfl rfl rfl (.own rfl (by simp)) (by simp) (by simp [allCells, isCell]) (by simp; omega) (by simp; omega) fun C2 hC2 => ?_
        refine AWP.runL e tab_ok L7 300 rfl (by first | trivial | (simp [in64] <;> omega)) ?_
        refine AWP.lessR e [(3, 6)] ?_ ?_ ?_ ?_ ?_ ?_ (nx C2 (by simp; omega))
        · refine ⟨rfl, rfl, ?_, rfl, rfl, trivial⟩
          show some (SV.own 6 1 0 ((out s i).length + 1) C2) = some (SV.own 6 1 0 (out s i ++ [(i : Int) + 1]).length C2)
          simp
        · refine ⟨rfl, rfl, ?_, trivial⟩
          show some (Blk.row 3 false 1 ((ints (out s i)).map (·.map SV.d) ++ [[SV.i ((i : Int) + 1)]]) C2) = some (Blk.row 3 false 1 ((ints (out s i ++ [(i : Int) + 1])).map (·.map SV.d)) C2)
          simp [ints]
        · rfl
        · repeat' (first | exact True.intro | (refine And.intro ?_ ?_) | rfl | assumption)
          exact fun e he => ints_ok _ _ e he
        · rfl
        · rfl
      · have nx := nx C
        rw [Bool.true_and, Bool.true_and, show (H == 0) = false by simpa using h0, if_neg (by simp), if_neg (by simp), List.append_nil] at nx
        refine AWP.runL e' tab_ok L16 300 rfl (by first | trivial | (simp [in64] <;> omega)) ?_
        repeat (
          first
            | (refine AWP.askT rfl ?_; (first | (refine Told.t rfl ?_) | (refine Told.f rfl ?_) | (refine Told.t ?_ ?_; (focus assumption)) | (refine Told.f ?_ ?_; (focus assumption)) | (refine Told.t ?_ ?_; (focus (first | (simp; omega) | (simp [*]; done)); done)) | (refine Told.f ?_ ?_; (focus (first | (simp; omega) | (simp [*]; done)); done))); refine AWP.runL e' tab_ok L16 300 rfl (by first | trivial | (simp [in64] <;> omega)) ?_)
            | (refine AWP.eq_agg e' tab_ok rfl rfl rfl (.inl ⟨rfl, rfl⟩) ?_ 5 (by omega) rfl ?_ rfl rfl rfl rfl rfl rfl rfl ?_; (focus kernel_rfl); (focus kernel_rfl); refine AWP.runL e' tab_ok L16 300 rfl (by first | trivial | (simp [in64] <;> omega)) ?_)
            | (refine AWP.eq_agg e' tab_ok rfl rfl rfl (.inr ⟨rfl, rfl⟩) ?_ 5 (by omega) rfl ?_ rfl rfl rfl rfl rfl rfl rfl ?_; (focus kernel_rfl); (focus kernel_rfl); refine AWP.runL e' tab_ok L16 300 rfl (by first | trivial | (simp [in64] <;> omega)) ?_)
          )
        repeat (
          first
            | (refine AWP.askT rfl ?_; (first | (refine Told.t rfl ?_) | (refine Told.f rfl ?_) | (refine Told.t ?_ ?_; (focus assumption)) | (refine Told.f ?_ ?_; (focus assumption)) | (refine Told.t ?_ ?_; (focus (first | (simp; omega) | (simp [*]; done)); done)) | (refine Told.f ?_ ?_; (focus (first | (simp; omega) | (simp [*]; done)); done))); refine AWP.runL e' tab_ok L16 300 rfl (by first | trivial | (simp [in64] <;> omega)) ?_)
            | (refine AWP.eq_agg e' tab_ok rfl rfl rfl (.inl ⟨rfl, rfl⟩) ?_ 5 (by omega) rfl ?_ rfl rfl rfl rfl rfl rfl rfl ?_; (focus kernel_rfl); (focus kernel_rfl); refine AWP.runL e' tab_ok L16 300 rfl (by first | trivial | (simp [in64] <;> omega)) ?_)
            | (refine AWP.eq_agg e' tab_ok rfl rfl rfl (.inr ⟨rfl, rfl⟩) ?_ 5 (by omega) rfl ?_ rfl rfl rfl rfl rfl rfl rfl ?_; (focus kernel_rfl); (focus kernel_rfl); refine AWP.runL e' tab_ok L16 300 rfl (by first | trivial | (simp [in64] <;> omega)) ?_)
            | (refine AWP.keep L16 rfl ?_; refine AWP.drg 100 ?_; (refine DrG.runS e' tab_ok 200 rfl (by first | trivial | (simp [in64] <;> omega)) ?_); (repeat (first | (refine DrG.askT rfl ?_; (first | (refine Told.t rfl ?_) | (refine Told.f rfl ?_) | (refine Told.t ?_ ?_; (focus assumption)) | (refine Told.f ?_ ?_; (focus assumption)) | (refine Told.t ?_ ?_; (focus (first | (simp; omega) | (simp [*]; done)); done)) | (refine Told.f ?_ ?_; (focus (first | (simp; omega) | (simp [*]; done)); done))); (refine DrG.runS e' tab_ok 200 rfl (by first | trivial | (simp [in64] <;> omega)) ?_)) | (refine DrG.eq_agg e' tab_ok rfl rfl rfl (.inl ⟨rfl, rfl⟩) ?_ 5 (by omega) rfl ?_ rfl rfl rfl rfl rfl rfl rfl ?_; (focus kernel_rfl); (focus kernel_rfl); (refine DrG.runS e' tab_ok 200 rfl (by first | trivial | (simp [in64] <;> omega)) ?_)) | (refine DrG.eq_aggGo e' tab_ok rfl rfl rfl rfl (.inl ⟨rfl, rfl⟩) ?_ 5 (by omega) rfl ?_ rfl rfl rfl rfl rfl rfl rfl ?_; (focus kernel_rfl); (focus kernel_rfl); (refine DrG.runS e' tab_ok 200 rfl (by first | trivial | (simp [in64] <;> omega)) ?_)) | (refine DrG.eq_agg e' tab_ok rfl rfl rfl (.inr ⟨rfl, rfl⟩) ?_ 5 (by omega) rfl ?_ rfl rfl rfl rfl rfl rfl rfl ?_; (focus kernel_rfl); (focus kernel_rfl); (refine DrG.runS e' tab_ok 200 rfl (by first | trivial | (simp [in64] <;> omega)) ?_)) | (refine DrG.eq_aggGo e' tab_ok rfl rfl rfl rfl (.inr ⟨rfl, rfl⟩) ?_ 5 (by omega) rfl ?_ rfl rfl rfl rfl rfl rfl rfl ?_; (focus kernel_rfl); (focus kernel_rfl); (refine DrG.runS e' tab_ok 200 rfl (by first | trivial | (simp [in64] <;> omega)) ?_)))); refine DrG.finK e' rfl ?_ rfl rfl rfl ?_ ?_; (focus kernel_rfl); (focus (repeat' (first | exact True.intro | (refine And.intro ?_ ?_) | rfl | assumption | exact okRow _))); dsimp only [tmS, hpS, tput, effH]; refine AWP.runL e' tab_ok L16 300 rfl (by first | trivial | (simp [in64] <;> omega)) ?_)
          )
        (first | (refine AWP.ret e' tab_ok rfl ?_) | (refine AWP.fin e' tab_ok rfl ?_)); rw [hP']; show AWP cx _ _
        refine AWP.runL e tab_ok L7 300 rfl (by first | trivial | (simp [in64] <;> omega)) ?_
        refine AWP.runL e tab_ok L7 300 rfl (by first | trivial | (simp [in64] <;> omega)) ?_
        repeat (
          first
            | (refine AWP.askT rfl ?_; (first | (refine Told.t rfl ?_) | (refine Told.f rfl ?_) | (refine Told.t ?_ ?_; (focus assumption)) | (refine Told.f ?_ ?_; (focus assumption)) | (refine Told.t ?_ ?_; (focus (first | (simp; omega) | (simp [*]; done)); done)) | (refine Told.f ?_ ?_; (focus (first | (simp; omega) | (simp [*]; done)); done))); refine AWP.runL e tab_ok L7 300 rfl (by first | trivial | (simp [in64] <;> omega)) ?_)
            | (refine AWP.eq_agg e tab_ok rfl rfl rfl (.inl ⟨rfl, rfl⟩) ?_ 5 (by omega) rfl ?_ rfl rfl rfl rfl rfl rfl rfl ?_; (focus kernel_rfl); (focus kernel_rfl); refine AWP.runL e tab_ok L7 300 rfl (by first | trivial | (simp [in64] <;> omega)) ?_)
            | (refine AWP.eq_agg e tab_ok rfl rfl rfl (.inr ⟨rfl, rfl⟩) ?_ 5 (by omega) rfl ?_ rfl rfl rfl rfl rfl rfl rfl ?_; (focus kernel_rfl); (focus kernel_rfl); refine AWP.runL e tab_ok L7 300 rfl (by first | trivial | (simp [in64] <;> omega)) ?_)
          )
        refine AWP.less e ?_ ?_ ?_ ?_ ?_ (nx hI.2) <;> (repeat' (first | exact True.intro | (refine And.intro ?_ ?_) | rfl | assumption))
        exact fun e he => ints_ok _ _ e he
    · have nx := nx C
      rw [Bool.false_and, Bool.false_and, if_neg (by simp), if_neg (by simp), List.append_nil] at nx
      refine AWP.runL e' tab_ok L16 300 rfl (by first | trivial | (simp [in64] <;> omega)) ?_
      repeat (
        first
          | (refine AWP.askT rfl ?_; (first | (refine Told.t rfl ?_) | (refine Told.f rfl ?_) | (refine Told.t ?_ ?_; (focus assumption)) | (refine Told.f ?_ ?_; (focus assumption)) | (refine Told.t ?_ ?_; (focus (first | (simp; omega) | (simp [*]; done)); done)) | (refine Told.f ?_ ?_; (focus (first | (simp; omega) | (simp [*]; done)); done))); refine AWP.runL e' tab_ok L16 300 rfl (by first | trivial | (simp [in64] <;> omega)) ?_)
          | (refine AWP.eq_agg e' tab_ok rfl rfl rfl (.inl ⟨rfl, rfl⟩) ?_ 5 (by omega) rfl ?_ rfl rfl rfl rfl rfl rfl rfl ?_; (focus kernel_rfl); (focus kernel_rfl); refine AWP.runL e' tab_ok L16 300 rfl (by first | trivial | (simp [in64] <;> omega)) ?_)
          | (refine AWP.eq_agg e' tab_ok rfl rfl rfl (.inr ⟨rfl, rfl⟩) ?_ 5 (by omega) rfl ?_ rfl rfl rfl rfl rfl rfl rfl ?_; (focus kernel_rfl); (focus kernel_rfl); refine AWP.runL e' tab_ok L16 300 rfl (by first | trivial | (simp [in64] <;> omega)) ?_)
        )
      repeat (
        first
          | (refine AWP.askT rfl ?_; (first | (refine Told.t rfl ?_) | (refine Told.f rfl ?_) | (refine Told.t ?_ ?_; (focus assumption)) | (refine Told.f ?_ ?_; (focus assumption)) | (refine Told.t ?_ ?_; (focus (first | (simp; omega) | (simp [*]; done)); done)) | (refine Told.f ?_ ?_; (focus (first | (simp; omega) | (simp [*]; done)); done))); refine AWP.runL e' tab_ok L16 300 rfl (by first | trivial | (simp [in64] <;> omega)) ?_)
          | (refine AWP.eq_agg e' tab_ok rfl rfl rfl (.inl ⟨rfl, rfl⟩) ?_ 5 (by omega) rfl ?_ rfl rfl rfl rfl rfl rfl rfl ?_; (focus kernel_rfl); (focus kernel_rfl); refine AWP.runL e' tab_ok L16 300 rfl (by first | trivial | (simp [in64] <;> omega)) ?_)
          | (refine AWP.eq_agg e' tab_ok rfl rfl rfl (.inr ⟨rfl, rfl⟩) ?_ 5 (by omega) rfl ?_ rfl rfl rfl rfl rfl rfl rfl ?_; (focus kernel_rfl); (focus kernel_rfl); refine AWP.runL e' tab_ok L16 300 rfl (by first | trivial | (simp [in64] <;> omega)) ?_)
          | (refine AWP.keep L16 rfl ?_; refine AWP.drg 100 ?_; (refine DrG.runS e' tab_ok 200 rfl (by first | trivial | (simp [in64] <;> omega)) ?_); (repeat (first | (refine DrG.askT rfl ?_; (first | (refine Told.t rfl ?_) | (refine Told.f rfl ?_) | (refine Told.t ?_ ?_; (focus assumption)) | (refine Told.f ?_ ?_; (focus assumption)) | (refine Told.t ?_ ?_; (focus (first | (simp; omega) | (simp [*]; done)); done)) | (refine Told.f ?_ ?_; (focus (first | (simp; omega) | (simp [*]; done)); done))); (refine DrG.runS e' tab_ok 200 rfl (by first | trivial | (simp [in64] <;> omega)) ?_)) | (refine DrG.eq_agg e' tab_ok rfl rfl rfl (.inl ⟨rfl, rfl⟩) ?_ 5 (by omega) rfl ?_ rfl rfl rfl rfl rfl rfl rfl ?_; (focus kernel_rfl); (focus kernel_rfl); (refine DrG.runS e' tab_ok 200 rfl (by first | trivial | (simp [in64] <;> omega)) ?_)) | (refine DrG.eq_aggGo e' tab_ok rfl rfl rfl rfl (.inl ⟨rfl, rfl⟩) ?_ 5 (by omega) rfl ?_ rfl rfl rfl rfl rfl rfl rfl ?_; (focus kernel_rfl); (focus kernel_rfl); (refine DrG.runS e' tab_ok 200 rfl (by first | trivial | (simp [in64] <;> omega)) ?_)) | (refine DrG.eq_agg e' tab_ok rfl rfl rfl (.inr ⟨rfl, rfl⟩) ?_ 5 (by omega) rfl ?_ rfl rfl rfl rfl rfl rfl rfl ?_; (focus kernel_rfl); (focus kernel_rfl); (refine DrG.runS e' tab_ok 200 rfl (by first | trivial | (simp [in64] <;> omega)) ?_)) | (refine DrG.eq_aggGo e' tab_ok rfl rfl rfl rfl (.inr ⟨rfl, rfl⟩) ?_ 5 (by omega) rfl ?_ rfl rfl rfl rfl rfl rfl rfl ?_; (focus kernel_rfl); (focus kernel_rfl); (refine DrG.runS e' tab_ok 200 rfl (by first | trivial | (simp [in64] <;> omega)) ?_)))); refine DrG.finK e' rfl ?_ rfl rfl rfl ?_ ?_; (focus kernel_rfl); (focus (repeat' (first | exact True.intro | (refine And.intro ?_ ?_) | rfl | assumption | exact okRow _))); dsimp only [tmS, hpS, tput, effH]; refine AWP.runL e' tab_ok L16 300 rfl (by first | trivial | (simp [in64] <;> omega)) ?_)
        )
      (first | (refine AWP.ret e' tab_ok rfl ?_) | (refine AWP.fin e' tab_ok rfl ?_)); rw [hP']; show AWP cx _ _
      refine AWP.runL e tab_ok L7 300 rfl (by first | trivial | (simp [in64] <;> omega)) ?_
      refine AWP.runL e tab_ok L7 300 rfl (by first | trivial | (simp [in64] <;> omega)) ?_
      repeat (
        first
          | (refine AWP.askT rfl ?_; (first | (refine Told.t rfl ?_) | (refine Told.f rfl ?_) | (refine Told.t ?_ ?_; (focus assumption)) | (refine Told.f ?_ ?_; (focus assumption)) | (refine Told.t ?_ ?_; (focus (first | (simp; omega) | (simp [*]; done)); done)) | (refine Told.f ?_ ?_; (focus (first | (simp; omega) | (simp [*]; done)); done))); refine AWP.runL e tab_ok L7 300 rfl (by first | trivial | (simp [in64] <;> omega)) ?_)
          | (refine AWP.eq_agg e tab_ok rfl rfl rfl (.inl ⟨rfl, rfl⟩) ?_ 5 (by omega) rfl ?_ rfl rfl rfl rfl rfl rfl rfl ?_; (focus kernel_rfl); (focus kernel_rfl); refine AWP.runL e tab_ok L7 300 rfl (by first | trivial | (simp [in64] <;> omega)) ?_)
          | (refine AWP.eq_agg e tab_ok rfl rfl rfl (.inr ⟨rfl, rfl⟩) ?_ 5 (by omega) rfl ?_ rfl rfl rfl rfl rfl rfl rfl ?_; (focus kernel_rfl); (focus kernel_rfl); refine AWP.runL e tab_ok L7 300 rfl (by first | trivial | (simp [in64] <;> omega)) ?_)
        )
      refine AWP.less e ?_ ?_ ?_ ?_ ?_ (nx hI.2) <;> (repeat' (first | exact True.intro | (refine And.intro ?_ ?_) | rfl | assumption))
      exact fun e he => ints_ok _ _ e he

set_option maxRecDepth 100000 in
theorem run_ok (s : SE) (n : Nat) (hr : rightB s = true) (hn : n ≤ 10000) :
    Eff Try.prog 7 [.agg (sC s), .i n] [] 0 (fun r _ _ => r = .tup [.agg (sC (runS s n)), .d (.sl 1 (ints (out s n))), .i 0]) := by
  refine run_gen s n hr hn _ fun cx k C e hP hC => ?_
  refine AWP.freezeP (id := 3) (ints (out s n)) rfl rfl rfl (by simp [lenP]) ?_
  refine AWP.ret e tab_ok rfl ?_
  rw [hP]
  simp [strip]
  exact List.take_of_length_le (by simp [ints])
set_option maxRecDepth 100000 in
theorem run_own (s : SE) (n : Nat) (hr : rightB s = true) (hn : n ≤ 10000) :
    Eff Try.prog 7 [.agg (sC s), .i n] [] 0 (fun r h m => ∃ C, (out s n).length ≤ C ∧ r = .tup [.agg (sC (runS s n)), .own 3 1 0 (out s n).length C, .i 0] ∧ h = [(1, .box (sC (runS s n))), (3, .row 3 false 1 ((ints (out s n)).map (·.map SV.d)) C)] ∧ m = 4) := by
  refine run_gen s n hr hn _ fun cx k C e hP hC => ?_
  refine AWP.ret e tab_ok rfl ?_
  rw [hP]
  exact ⟨C, hC, rfl, rfl, rfl⟩

set_option maxRecDepth 100000 in
theorem run_bad (s : SE) (n : Int) (hr : rightB s = false) :
    Eff Try.prog 7 [.agg (sC s), .i n] [] 0 (fun r _ _ => r = .tup [.agg (sC SE.zero), .d .nil, .i 1]) := by
  have c1 := right_eff s
  rw [hr] at c1
  refine eff_of Try.func7 rfl rfl rfl fun cx e hP => ?_
  refine AWP.runL e tab_ok L7 300 rfl (by first | trivial | (simp [in64] <;> omega)) ?_
  repeat (
    first
      | (refine AWP.askT rfl ?_; (first | (refine Told.t rfl ?_) | (refine Told.f rfl ?_) | (refine Told.t ?_ ?_; (focus assumption)) | (refine Told.f ?_ ?_; (focus assumption)) | (refine Told.t ?_ ?_; (focus (first | (simp; omega) | (simp [*]; done)); done)) | (refine Told.f ?_ ?_; (focus (first | (simp; omega) | (simp [*]; done)); done))); refine AWP.runL e tab_ok L7 300 rfl (by first | trivial | (simp [in64] <;> omega)) ?_)
      | (refine AWP.callQ e rfl rfl ?_; (first | refine CallQ.mk (c1) rfl rfl ?_); refine AWP.runL e tab_ok L7 300 rfl (by first | trivial | (simp [in64] <;> omega)) ?_)
      | (refine AWP.eq_agg e tab_ok rfl rfl rfl (.inl ⟨rfl, rfl⟩) ?_ 5 (by omega) rfl ?_ rfl rfl rfl rfl rfl rfl rfl ?_; (focus kernel_rfl); (focus kernel_rfl); refine AWP.runL e tab_ok L7 300 rfl (by first | trivial | (simp [in64] <;> omega)) ?_)
      | (refine AWP.eq_agg e tab_ok rfl rfl rfl (.inr ⟨rfl, rfl⟩) ?_ 5 (by omega) rfl ?_ rfl rfl rfl rfl rfl rfl rfl ?_; (focus kernel_rfl); (focus kernel_rfl); refine AWP.runL e tab_ok L7 300 rfl (by first | trivial | (simp [in64] <;> omega)) ?_)
    )
  repeat (
    first
      | (refine AWP.askT rfl ?_; (first | (refine Told.t rfl ?_) | (refine Told.f rfl ?_) | (refine Told.t ?_ ?_; (focus assumption)) | (refine Told.f ?_ ?_; (focus assumption)) | (refine Told.t ?_ ?_; (focus (first | (simp; omega) | (simp [*]; done)); done)) | (refine Told.f ?_ ?_; (focus (first | (simp; omega) | (simp [*]; done)); done))); refine AWP.runL e tab_ok L7 300 rfl (by first | trivial | (simp [in64] <;> omega)) ?_)
      | (refine AWP.eq_agg e tab_ok rfl rfl rfl (.inl ⟨rfl, rfl⟩) ?_ 5 (by omega) rfl ?_ rfl rfl rfl rfl rfl rfl rfl ?_; (focus kernel_rfl); (focus kernel_rfl); refine AWP.runL e tab_ok L7 300 rfl (by first | trivial | (simp [in64] <;> omega)) ?_)
      | (refine AWP.eq_agg e tab_ok rfl rfl rfl (.inr ⟨rfl, rfl⟩) ?_ 5 (by omega) rfl ?_ rfl rfl rfl rfl rfl rfl rfl ?_; (focus kernel_rfl); (focus kernel_rfl); refine AWP.runL e tab_ok L7 300 rfl (by first | trivial | (simp [in64] <;> omega)) ?_)
      | (refine AWP.keep L7 rfl ?_; refine AWP.drg 100 ?_; (refine DrG.runS e tab_ok 200 rfl (by first | trivial | (simp [in64] <;> omega)) ?_); (repeat (first | (refine DrG.askT rfl ?_; (first | (refine Told.t rfl ?_) | (refine Told.f rfl ?_) | (refine Told.t ?_ ?_; (focus assumption)) | (refine Told.f ?_ ?_; (focus assumption)) | (refine Told.t ?_ ?_; (focus (first | (simp; omega) | (simp [*]; done)); done)) | (refine Told.f ?_ ?_; (focus (first | (simp; omega) | (simp [*]; done)); done))); (refine DrG.runS e tab_ok 200 rfl (by first | trivial | (simp [in64] <;> omega)) ?_)) | (refine DrG.eq_agg e tab_ok rfl rfl rfl (.inl ⟨rfl, rfl⟩) ?_ 5 (by omega) rfl ?_ rfl rfl rfl rfl rfl rfl rfl ?_; (focus kernel_rfl); (focus kernel_rfl); (refine DrG.runS e tab_ok 200 rfl (by first | trivial | (simp [in64] <;> omega)) ?_)) | (refine DrG.eq_aggGo e tab_ok rfl rfl rfl rfl (.inl ⟨rfl, rfl⟩) ?_ 5 (by omega) rfl ?_ rfl rfl rfl rfl rfl rfl rfl ?_; (focus kernel_rfl); (focus kernel_rfl); (refine DrG.runS e tab_ok 200 rfl (by first | trivial | (simp [in64] <;> omega)) ?_)) | (refine DrG.eq_agg e tab_ok rfl rfl rfl (.inr ⟨rfl, rfl⟩) ?_ 5 (by omega) rfl ?_ rfl rfl rfl rfl rfl rfl rfl ?_; (focus kernel_rfl); (focus kernel_rfl); (refine DrG.runS e tab_ok 200 rfl (by first | trivial | (simp [in64] <;> omega)) ?_)) | (refine DrG.eq_aggGo e tab_ok rfl rfl rfl rfl (.inr ⟨rfl, rfl⟩) ?_ 5 (by omega) rfl ?_ rfl rfl rfl rfl rfl rfl rfl ?_; (focus kernel_rfl); (focus kernel_rfl); (refine DrG.runS e tab_ok 200 rfl (by first | trivial | (simp [in64] <;> omega)) ?_)))); refine DrG.finK e rfl ?_ rfl rfl rfl ?_ ?_; (focus kernel_rfl); (focus (repeat' (first | exact True.intro | (refine And.intro ?_ ?_) | rfl | assumption | exact okRow _))); dsimp only [tmS, hpS, tput, effH]; refine AWP.runL e tab_ok L7 300 rfl (by first | trivial | (simp [in64] <;> omega)) ?_)
    )
  refine AWP.ret e tab_ok rfl ?_
  rw [hP]
  all_goals first | rfl | (simp [strip]; done)
end Go.Proofs.Ytaiejjfikdpccaa
