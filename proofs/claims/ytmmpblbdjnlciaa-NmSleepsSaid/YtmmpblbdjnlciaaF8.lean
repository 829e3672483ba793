import Derived.Test.YtmmpblbdjnlciaaF7
open Go Go.Proofs Go.Sy
namespace Go.Proofs.Ytmmpblbdjnlciaa

def G (p : PV) (s : NS) : Prop := s.wants = true ∧ OkS p s
abbrev rowN (l : List Int) : List (List DV) := l.map fun v => [.v (.int .i64 v)]
theorem G_aw {p : PV} {s : NS} (h : G p s) : s.aw = true := by cases s <;> first | rfl | exact absurd h.1 (by simp [NS.wants])
theorem G_heard {p : PV} (hp : OkP p) {s : NS} (h : G p s) : G p (heardS p s) ∧ (heardS p s).nx = s.nx := by
  refine ⟨⟨?_, heardS_ok hp h.2⟩, ?_⟩
  · have := h.1
    cases s <;> first | exact this | exact absurd this (by simp [NS.wants])
  · have := h.1
    cases s <;> first | rfl | exact absurd this (by simp [NS.wants])
theorem G_tick {p : PV} (hp : OkP p) {s : NS} (h : G p s) : G p (tickS p s) ∧ 0 ≤ s.nx ∧ s.nx ≤ p.cyc ∧ 0 ≤ (tickS p s).nx ∧ ((tickB s = true ∧ s.nx = 0 ∧ (tickS p s).nx ≤ p.cyc - 1) ∨ (tickB s = false ∧ 0 < s.nx ∧ (tickS p s).nx ≤ s.nx - 1)) := by
  have hc := hp.c0
  have hk := tickS_ok hp h.2
  obtain ⟨h1, h2⟩ := h
  cases s with
  | sleep => cases h1
  | prep l => cases h1
  | ready q => cases h1
  | norm x q =>
    have h2 : (0 ≤ x ∧ x ≤ p.cyc) ∧ 1 ≤ q ∧ q ≤ p.hrd := h2
    refine ⟨⟨rfl, hk⟩, h2.1.1, h2.1.2, ?_⟩
    show 0 ≤ xd p x ∧ ((decide (¬ x > 0) = true ∧ x = 0 ∧ xd p x ≤ p.cyc - 1) ∨ (decide (¬ x > 0) = false ∧ 0 < x ∧ xd p x ≤ x - 1))
    unfold xd
    by_cases hx : x > 0
    · rw [if_pos hx]
      exact ⟨by omega, .inr ⟨by simpa using hx, hx, Int.le_refl _⟩⟩
    · rw [if_neg hx]
      exact ⟨by omega, .inl ⟨by simpa using hx, by omega, Int.le_refl _⟩⟩
  | rep w a x q =>
    have hw : w = true := h1
    subst hw
    have h2 : (1 ≤ a ∧ a ≤ p.rep) ∧ (0 ≤ x ∧ x ≤ p.cyc) ∧ 1 ≤ q ∧ q ≤ p.hrd := h2
    have key : (tickS p (.rep true a x q)).wants = true ∧ ((tickS p (.rep true a x q)).nx = 0 ∨ (tickS p (.rep true a x q)).nx = xd p x) := by
      show NS.wants (if a - 1 = 0 then (if true = true then .norm 0 (qd p q) else .ready (qd p q)) else .rep true (a - 1) (xd p x) (qd p q)) = true ∧ _
      rw [show tickS p (.rep true a x q) = (if a - 1 = 0 then (if true = true then .norm 0 (qd p q) else .ready (qd p q)) else .rep true (a - 1) (xd p x) (qd p q)) from rfl]
      by_cases ha : a - 1 = 0
      · rw [if_pos ha, if_pos rfl]; exact ⟨rfl, .inl rfl⟩
      · rw [if_neg ha]; exact ⟨rfl, .inr rfl⟩
    refine ⟨⟨key.1, hk⟩, h2.2.1.1, h2.2.1.2, ?_⟩
    have k2 := key.2
    rw [show (NS.rep true a x q).nx = x from rfl, show tickB (NS.rep true a x q) = decide (¬ x > 0) from rfl]
    generalize (tickS p (.rep true a x q)).nx = y at k2 ⊢
    unfold xd at k2
    by_cases hx : x > 0
    · rw [if_pos hx] at k2
      exact ⟨by omega, .inr ⟨by simpa using hx, hx, by omega⟩⟩
    · rw [if_neg hx] at k2
      exact ⟨by omega, .inl ⟨by simpa using hx, by omega, by omega⟩⟩

theorem G_0 {p : PV} (hp : OkP p) : G p (wantS p true .sleep) ∧ (wantS p true .sleep).nx = 0 := by
  refine ⟨⟨?_, wantS_ok hp true trivial⟩, ?_⟩
  · show (beginS p true).wants = true
    unfold beginS; split <;> rfl
  · show (beginS p true).nx = 0
    unfold beginS; split <;> rfl

set_option maxHeartbeats 1000000 in
set_option maxRecDepth 100000 in
theorem sends_eff (rep cyc hrd wt ticks : Int) (ws : List Int) (hws : ws.length ≤ 9223372036854775807) : Eff Try.prog 3 [.i rep, .i cyc, .i hrd, .i wt, .i ticks, .d (.sl 1 (rowN ws))] [] 0 (fun r _ _ => r = .b true) := by
  obtain ⟨R, hR⟩ : ∃ C, C = cl 0 10 rep := ⟨_, rfl⟩
  obtain ⟨C, hC⟩ : ∃ C, C = cl 1 20 cyc := ⟨_, rfl⟩
  obtain ⟨H, hH⟩ : ∃ C, C = cl 1 15 hrd := ⟨_, rfl⟩
  obtain ⟨W, hW⟩ : ∃ C, C = cl 1 10 wt := ⟨_, rfl⟩
  obtain ⟨bR1, bR2⟩ : 0 ≤ R ∧ R ≤ 10 := hR ▸ cl_le (by omega)
  obtain ⟨bC1, bC2⟩ : 1 ≤ C ∧ C ≤ 20 := hC ▸ cl_le (by omega)
  obtain ⟨bH1, bH2⟩ : 1 ≤ H ∧ H ≤ 15 := hH ▸ cl_le (by omega)
  obtain ⟨bW1, bW2⟩ : 1 ≤ W ∧ W ≤ 10 := hW ▸ cl_le (by omega)
  obtain ⟨n, hn, bn⟩ : ∃ n : Nat, (n : Int) = cl 0 200 ticks ∧ n ≤ 200 := ⟨(cl 0 200 ticks).toNat, by have := cl_le (v := ticks) (show (0 : Int) ≤ 200 by omega); omega, by have := cl_le (v := ticks) (show (0 : Int) ≤ 200 by omega); omega⟩
  obtain ⟨p, hpe⟩ : ∃ p : PV, p = ⟨R, C, H, W⟩ := ⟨_, rfl⟩
  have hp : OkP p := by subst hpe; exact ⟨bR1, by show R ≤ 1000; omega, bC1, by show C ≤ 1000; omega, bH1, by show H ≤ 1000; omega, bW1, by show W ≤ 1000; omega⟩
  have c1 : Eff Try.prog 6 [.i R, .i C, .i H, .i W] [] 0 (fun r _ _ => r = .tup [.agg (nP p .sleep), .i 0]) := by have := newq p hp; subst hpe; exact this
  have c2 := wantq p hp .sleep trivial true
  refine eff_of Try.func3 rfl rfl rfl fun cx e hP => ?_
  refine AWP.runL e tab_ok L3 25 rfl (by first | trivial | (simp [in64] <;> omega)) ?_
  refine AWP.eqT 0 (.i R) rfl (congrArg SV.i hR.symm) ?_
  refine AWP.eqT 1 (.i C) rfl (congrArg SV.i hC.symm) ?_
  refine AWP.eqT 2 (.i H) rfl (congrArg SV.i hH.symm) ?_
  refine AWP.eqT 3 (.i W) rfl (congrArg SV.i hW.symm) ?_
  clear hC hH hW hR
  refine AWP.runL e tab_ok L3 300 rfl (by first | trivial | (simp [in64] <;> omega)) ?_
  repeat (
    first
      | (refine AWP.askT rfl ?_; (first | (refine Told.t rfl ?_) | (refine Told.f rfl ?_) | (refine Told.t ?_ ?_; (focus assumption)) | (refine Told.f ?_ ?_; (focus assumption)) | (refine Told.t ?_ ?_; (focus (first | (simp; omega) | (simp [*]; done)); done)) | (refine Told.f ?_ ?_; (focus (first | (simp; omega) | (simp [*]; done)); done))); refine AWP.runL e tab_ok L3 300 rfl (by first | trivial | (simp [in64] <;> omega)) ?_)
      | (refine AWP.callQ e rfl rfl ?_; (first | refine CallQ.mk (c1) rfl rfl ?_ | refine CallQ.mk (c2) rfl rfl ?_ | refine CallQ.mk (alive_eff) rfl rfl ?_); refine AWP.runL e tab_ok L3 300 rfl (by first | trivial | (simp [in64] <;> omega)) ?_)
      | (refine AWP.eq_agg e tab_ok rfl rfl rfl (.inl ⟨rfl, rfl⟩) ?_ 5 (by omega) rfl ?_ rfl rfl rfl rfl rfl rfl rfl ?_; (focus kernel_rfl); (focus kernel_rfl); refine AWP.runL e tab_ok L3 300 rfl (by first | trivial | (simp [in64] <;> omega)) ?_)
      | (refine AWP.eq_agg e tab_ok rfl rfl rfl (.inr ⟨rfl, rfl⟩) ?_ 5 (by omega) rfl ?_ rfl rfl rfl rfl rfl rfl rfl ?_; (focus kernel_rfl); (focus kernel_rfl); refine AWP.runL e tab_ok L3 300 rfl (by first | trivial | (simp [in64] <;> omega)) ?_)
    )
  refine AWP.eqT 62 (.i n) rfl (congrArg SV.i hn.symm) ?_
  clear hn c1 c2
  obtain ⟨g0, g1⟩ := G_0 hp
  have hpc : p.cyc = C := by rw [hpe]
  refine AWP.loop (ι := Nat × NS × Int) (fun x => ⟨[(63, .i x.1), (62, .i n), (16, .i x.2.2), (1, .i C), (13, .ptr 0 0), (5, .d (.sl 1 (rowN ws)))], [(0, .box (nP p x.2.1))], 1⟩)
    (fun x => x.1 ≤ n ∧ G p x.2.1 ∧ -1 ≤ x.2.2 ∧ x.2.2 < x.1 ∧ x.2.1.nx + (x.1 - x.2.2) ≤ C ∧ (x.1 = 0 → x.2.1.nx = 0)) (fun x => n - x.1) (0, wantS p true .sleep, -1) ⟨Nat.zero_le _, g0, Int.le_refl _, by show (-1 : Int) < ((0 : Nat) : Int); omega, by show _ + (((0 : Nat) : Int) - -1) ≤ C; rw [g1]; omega, fun _ => g1⟩ ?_ ?_
  · intro g
    refine AWP.less e ?_ ?_ ?_ ?_ ?_ (g) <;> (repeat' (first | exact True.intro | (refine And.intro ?_ ?_) | rfl | assumption))
  clear g0 g1
  rintro ⟨i, s, last⟩ Φ ⟨hI, hG, l1, l2, l3, l4⟩ next
  have hI : i ≤ n := hI
  have hG : G p s := hG
  have l1 : -1 ≤ last := l1
  have l2 : last < i := l2
  have l3 : s.nx + (i - last) ≤ C := l3
  have l4 : i = 0 → s.nx = 0 := l4
  refine AWP.runL e tab_ok L3 300 rfl (by first | trivial | (simp [in64] <;> omega)) ?_
  refine AWP.cond2 rfl (fun hlt => ?_) (fun hlt => ?_)
  rotate_left
  · refine AWP.runL e tab_ok L3 300 rfl (by first | trivial | (simp [in64] <;> omega)) ?_
    refine AWP.ret e tab_ok rfl ?_
    rw [hP]
    exact congrArg SV.b hG.1
  have hlt : i < n := by simp at hlt; omega
  obtain ⟨vs, hvs⟩ : ∃ vs : List Int, vs = ws.take (if (20 : Int) < ((rowN ws).length : Int) then (20 : Int) else ((rowN ws).length : Int)).toNat := ⟨_, rfl⟩
  have hvl : vs.length ≤ 9223372036854775807 := by rw [hvs]; simp; omega
  have e1 : SV.i (rowN vs).length = SV.i ((List.drop ((none : Option Int).getD 0).toNat (List.take ((some (if (20 : Int) < ((rowN ws).length : Int) then (20 : Int) else ((rowN ws).length : Int))).getD ((rowN ws).length : Int)).toNat (rowN ws))).length : Int) := by rw [hvs]; simp
  have e2 : rowN vs = List.drop ((none : Option Int).getD 0).toNat (List.take ((some (if (20 : Int) < ((rowN ws).length : Int) then (20 : Int) else ((rowN ws).length : Int))).getD ((rowN ws).length : Int)).toNat (rowN ws)) := by rw [hvs]; simp
  refine AWP.runL e tab_ok L3 300 rfl (by first | trivial | (simp [] <;> omega)) ?_
  refine AWP.eqT 70 (.d (.sl 1 (rowN vs))) rfl (congrArg (fun z => SV.d (.sl 1 z)) e2.symm) ?_
  refine AWP.eqT 71 (.i (rowN vs).length) rfl e1.symm ?_
  refine AWP.eqT 71 (.i vs.length) rfl (congrArg SV.i (by simp)) ?_
  clear hvs e1 e2
  refine AWP.loop (ι := Nat × NS) (fun y => ⟨[(72, .i y.1), (71, .i vs.length), (70, .d (.sl 1 (rowN vs))), (17, .i i), (63, .i i), (62, .i n), (16, .i last), (1, .i C), (13, .ptr 0 0), (5, .d (.sl 1 (rowN ws)))], [(0, .box (nP p y.2))], 1⟩)
    (fun y => y.1 ≤ vs.length ∧ G p y.2 ∧ y.2.nx = s.nx) (fun y => vs.length - y.1) (0, s) ⟨Nat.zero_le _, hG, rfl⟩ ?_ ?_
  · intro g
    refine AWP.less e ?_ ?_ ?_ ?_ ?_ (g) <;> (repeat' (first | exact True.intro | (refine And.intro ?_ ?_) | rfl | assumption))
  clear hG
  rintro ⟨j, t⟩ Φ2 ⟨hJ, hG, hx⟩ next2
  have hJ : j ≤ vs.length := hJ
  have hG : G p t := hG
  have hx : t.nx = s.nx := hx
  rw [← hx] at l3 l4
  refine AWP.runL e tab_ok L3 300 rfl (by first | trivial | (simp [in64] <;> omega)) ?_
  refine AWP.cond2 rfl (fun hjt => ?_) (fun hjt => ?_)
  · have hjt : j < vs.length := by simp at hjt; omega
    refine AWP.runL e tab_ok L3 300 rfl (by first | trivial | (simp [in64] <;> omega)) ?_
    refine AWP.idx e tab_ok rfl rfl rfl rfl j rfl (el := [.v (.int .i64 vs[j])]) (by simp [hjt]) ?_
    refine AWP.runL e tab_ok L3 300 rfl (by first | trivial | (simp [in64] <;> omega)) ?_
    refine AWP.cond2 rfl (fun hq => ?_) (fun hq => ?_)
    · obtain ⟨h1, h2⟩ := G_heard hp hG
      have c1 := heardq p hp t hG.2
      have nx := next2 (j + 1, heardS p t) ⟨hjt, h1, h2.trans hx⟩ (by show vs.length - (j + 1) < vs.length - j; omega)
      clear next next2 l3 l4 hx h2
      refine AWP.runL e tab_ok L3 300 rfl (by first | trivial | (simp [in64] <;> omega)) ?_
      repeat (
        first
          | (refine AWP.askT rfl ?_; (first | (refine Told.t rfl ?_) | (refine Told.f rfl ?_) | (refine Told.t ?_ ?_; (focus assumption)) | (refine Told.f ?_ ?_; (focus assumption)) | (refine Told.t ?_ ?_; (focus (first | (simp; omega) | (simp [*]; done)); done)) | (refine Told.f ?_ ?_; (focus (first | (simp; omega) | (simp [*]; done)); done))); refine AWP.runL e tab_ok L3 300 rfl (by first | trivial | (simp [in64] <;> omega)) ?_)
          | (refine AWP.callQ e rfl rfl ?_; (first | refine CallQ.mk (c1) rfl rfl ?_); refine AWP.runL e tab_ok L3 300 rfl (by first | trivial | (simp [in64] <;> omega)) ?_)
          | (refine AWP.eq_agg e tab_ok rfl rfl rfl (.inl ⟨rfl, rfl⟩) ?_ 5 (by omega) rfl ?_ rfl rfl rfl rfl rfl rfl rfl ?_; (focus kernel_rfl); (focus kernel_rfl); refine AWP.runL e tab_ok L3 300 rfl (by first | trivial | (simp [in64] <;> omega)) ?_)
          | (refine AWP.eq_agg e tab_ok rfl rfl rfl (.inr ⟨rfl, rfl⟩) ?_ 5 (by omega) rfl ?_ rfl rfl rfl rfl rfl rfl rfl ?_; (focus kernel_rfl); (focus kernel_rfl); refine AWP.runL e tab_ok L3 300 rfl (by first | trivial | (simp [in64] <;> omega)) ?_)
        )
      refine AWP.less e ?_ ?_ ?_ ?_ ?_ (nx) <;> (repeat' (first | exact True.intro | (refine And.intro ?_ ?_) | rfl | assumption))
    · have nx := next2 (j + 1, t) ⟨hjt, hG, hx⟩ (by show vs.length - (j + 1) < vs.length - j; omega)
      refine AWP.runL e tab_ok L3 300 rfl (by first | trivial | (simp [in64] <;> omega)) ?_
      refine AWP.less e ?_ ?_ ?_ ?_ ?_ (nx) <;> (repeat' (first | exact True.intro | (refine And.intro ?_ ?_) | rfl | assumption))
  obtain ⟨h1, h2, h3, h4, h5⟩ := G_tick hp hG
  have c1 := tickq p hp t hG.2
  have c2 := awakeq p hp _ h1.2
  rw [G_aw h1] at c2
  rw [hpc] at h3 h5
  clear next2 hx
  rcases h5 with ⟨h5, h6, h7⟩ | ⟨h5, h6, h7⟩
  · rw [h5] at c1
    have nx := next (i + 1, tickS p t, i) ⟨hlt, h1, by show (-1 : Int) ≤ i; omega, by show (i : Int) < ((i + 1 : Nat) : Int); omega, by show (tickS p t).nx + (((i + 1 : Nat) : Int) - i) ≤ C; omega, fun h => absurd h (by simp)⟩ (by show n - (i + 1) < n - i; omega)
    clear next l4
    generalize tickS p t = u at c1 c2 nx
    rcases cases_b ((i : Int) == 0) with h0 | h0
    · skip
      refine AWP.runL e tab_ok L3 300 rfl (by first | trivial | (simp [in64] <;> omega)) ?_
      repeat (
        first
          | (refine AWP.askT rfl ?_; (first | (refine Told.t rfl ?_) | (refine Told.f rfl ?_) | (refine Told.t ?_ ?_; (focus assumption)) | (refine Told.f ?_ ?_; (focus assumption)) | (refine Told.t ?_ ?_; (focus (first | (simp; omega) | (simp [*]; done)); done)) | (refine Told.f ?_ ?_; (focus (first | (simp; omega) | (simp [*]; done)); done))); refine AWP.runL e tab_ok L3 300 rfl (by first | trivial | (simp [in64] <;> omega)) ?_)
          | (refine AWP.callQ e rfl rfl ?_; (first | refine CallQ.mk (c1) rfl rfl ?_ | refine CallQ.mk (c2) rfl rfl ?_); refine AWP.runL e tab_ok L3 300 rfl (by first | trivial | (simp [in64] <;> omega)) ?_)
          | (refine AWP.eq_agg e tab_ok rfl rfl rfl (.inl ⟨rfl, rfl⟩) ?_ 5 (by omega) rfl ?_ rfl rfl rfl rfl rfl rfl rfl ?_; (focus kernel_rfl); (focus kernel_rfl); refine AWP.runL e tab_ok L3 300 rfl (by first | trivial | (simp [in64] <;> omega)) ?_)
          | (refine AWP.eq_agg e tab_ok rfl rfl rfl (.inr ⟨rfl, rfl⟩) ?_ 5 (by omega) rfl ?_ rfl rfl rfl rfl rfl rfl rfl ?_; (focus kernel_rfl); (focus kernel_rfl); refine AWP.runL e tab_ok L3 300 rfl (by first | trivial | (simp [in64] <;> omega)) ?_)
        )
      refine AWP.less e ?_ ?_ ?_ ?_ ?_ (nx) <;> (repeat' (first | exact True.intro | (refine And.intro ?_ ?_) | rfl | assumption))
    · skip
      refine AWP.runL e tab_ok L3 300 rfl (by first | trivial | (simp [in64] <;> omega)) ?_
      repeat (
        first
          | (refine AWP.askT rfl ?_; (first | (refine Told.t rfl ?_) | (refine Told.f rfl ?_) | (refine Told.t ?_ ?_; (focus assumption)) | (refine Told.f ?_ ?_; (focus assumption)) | (refine Told.t ?_ ?_; (focus (first | (simp; omega) | (simp [*]; done)); done)) | (refine Told.f ?_ ?_; (focus (first | (simp; omega) | (simp [*]; done)); done))); refine AWP.runL e tab_ok L3 300 rfl (by first | trivial | (simp [in64] <;> omega)) ?_)
          | (refine AWP.callQ e rfl rfl ?_; (first | refine CallQ.mk (c1) rfl rfl ?_ | refine CallQ.mk (c2) rfl rfl ?_); refine AWP.runL e tab_ok L3 300 rfl (by first | trivial | (simp [in64] <;> omega)) ?_)
          | (refine AWP.eq_agg e tab_ok rfl rfl rfl (.inl ⟨rfl, rfl⟩) ?_ 5 (by omega) rfl ?_ rfl rfl rfl rfl rfl rfl rfl ?_; (focus kernel_rfl); (focus kernel_rfl); refine AWP.runL e tab_ok L3 300 rfl (by first | trivial | (simp [in64] <;> omega)) ?_)
          | (refine AWP.eq_agg e tab_ok rfl rfl rfl (.inr ⟨rfl, rfl⟩) ?_ 5 (by omega) rfl ?_ rfl rfl rfl rfl rfl rfl rfl ?_; (focus kernel_rfl); (focus kernel_rfl); refine AWP.runL e tab_ok L3 300 rfl (by first | trivial | (simp [in64] <;> omega)) ?_)
        )
      refine AWP.less e ?_ ?_ ?_ ?_ ?_ (nx) <;> (repeat' (first | exact True.intro | (refine And.intro ?_ ?_) | rfl | assumption))
  · rw [h5] at c1
    have nx := next (i + 1, tickS p t, last) ⟨hlt, h1, l1, by show last < ((i + 1 : Nat) : Int); omega, by show (tickS p t).nx + (((i + 1 : Nat) : Int) - last) ≤ C; omega, fun h => absurd h (by simp)⟩ (by show n - (i + 1) < n - i; omega)
    have hi : 0 < i := by rcases Nat.eq_zero_or_pos i with h | h; have := l4 h; omega; exact h
    clear next l4
    generalize tickS p t = u at c1 c2 nx
    refine AWP.runL e tab_ok L3 300 rfl (by first | trivial | (simp [in64] <;> omega)) ?_
    repeat (
      first
        | (refine AWP.askT rfl ?_; (first | (refine Told.t rfl ?_) | (refine Told.f rfl ?_) | (refine Told.t ?_ ?_; (focus assumption)) | (refine Told.f ?_ ?_; (focus assumption)) | (refine Told.t ?_ ?_; (focus (first | (simp; omega) | (simp [*]; done)); done)) | (refine Told.f ?_ ?_; (focus (first | (simp; omega) | (simp [*]; done)); done))); refine AWP.runL e tab_ok L3 300 rfl (by first | trivial | (simp [in64] <;> omega)) ?_)
        | (refine AWP.callQ e rfl rfl ?_; (first | refine CallQ.mk (c1) rfl rfl ?_ | refine CallQ.mk (c2) rfl rfl ?_); refine AWP.runL e tab_ok L3 300 rfl (by first | trivial | (simp [in64] <;> omega)) ?_)
        | (refine AWP.eq_agg e tab_ok rfl rfl rfl (.inl ⟨rfl, rfl⟩) ?_ 5 (by omega) rfl ?_ rfl rfl rfl rfl rfl rfl rfl ?_; (focus kernel_rfl); (focus kernel_rfl); refine AWP.runL e tab_ok L3 300 rfl (by first | trivial | (simp [in64] <;> omega)) ?_)
        | (refine AWP.eq_agg e tab_ok rfl rfl rfl (.inr ⟨rfl, rfl⟩) ?_ 5 (by omega) rfl ?_ rfl rfl rfl rfl rfl rfl rfl ?_; (focus kernel_rfl); (focus kernel_rfl); refine AWP.runL e tab_ok L3 300 rfl (by first | trivial | (simp [in64] <;> omega)) ?_)
      )
    refine AWP.less e ?_ ?_ ?_ ?_ ?_ (nx) <;> (repeat' (first | exact True.intro | (refine And.intro ?_ ?_) | rfl | assumption))

theorem sends_args (l : List SV) (h : Args tab 9 [3, 3, 3, 3, 3, 22] l) : Eff Try.prog 3 l [] 0 (fun r _ _ => r = .b true) := by
  obtain ⟨_, _, rfl, ⟨a, rfl, _, _⟩, _, _, rfl, ⟨b, rfl, _, _⟩, _, _, rfl, ⟨c, rfl, _, _⟩, _, _, rfl, ⟨d, rfl, _, _⟩, _, _, rfl, ⟨g, rfl, _, _⟩, _, _, rfl, ⟨ys, rfl, hl, hy⟩, rfl⟩ := h
  obtain ⟨ws, rfl, _⟩ := ints_of (n := 7) (t := 3) rfl rfl ys hy
  exact sends_eff a b c d g ws (by simpa using hl)
end Go.Proofs.Ytmmpblbdjnlciaa
