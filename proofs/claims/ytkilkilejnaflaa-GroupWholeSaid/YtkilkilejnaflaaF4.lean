import Derived.Test.YtkilkilejnaflaaF3
open Go Go.Proofs Go.Sy
namespace Go.Proofs.Ytkilkilejnaflaa

theorem ints_set (s : List Int) (n : Nat) (v : Int) : ((ints s).map (·.map SV.d)).set n [.i v] = (ints (s.set n v)).map (·.map SV.d) := by
  simp [ints, List.map_set]

set_option maxRecDepth 100000 in
theorem set_ok (s g : List Int) (t i v : Int) (h : rightG s g t = true) (n : Nat) (hi : i = n) (hn : n < s.length) : Eff Try.prog 8 [.agg (grp s g t), .i i, .i v] [] 0 (fun r _ _ => r = .tup [.agg (grp (s.set n v) g t), .i 0]) := by
  subst hi
  obtain ⟨h1, h2, h3, h4, h5⟩ := rightG_get h
  have hne : s ≠ [] := by rintro rfl; simp at h1
  have hr := right_eff s g t
  have hh := has_eff s n
  rw [h] at hr
  rw [show (decide (0 ≤ (n : Int)) && decide ((n : Int) < s.length)) = true by simp; omega] at hh
  refine eff_of Try.func8 rfl rfl rfl fun cx e hP => ?_
  refine AWP.runL e tab_ok L8 300 rfl (by first | trivial | (simp [in64] <;> omega)) ?_
  repeat (
    first
      | (refine AWP.askT rfl ?_; (first | (refine Told.t rfl ?_) | (refine Told.f rfl ?_) | (refine Told.t ?_ ?_; (focus (first | assumption | (simp; omega) | (simp [*]; done)); done)) | (refine Told.f ?_ ?_; (focus (first | assumption | (simp; omega) | (simp [*]; done)); done))); refine AWP.runL e tab_ok L8 300 rfl (by first | trivial | (simp [in64] <;> omega)) ?_)
      | (refine AWP.callQ e rfl rfl ?_; (first | refine CallQ.mk (hr) rfl rfl ?_ | refine CallQ.mk (hh) rfl rfl ?_); refine AWP.runL e tab_ok L8 300 rfl (by first | trivial | (simp [in64] <;> omega)) ?_)
    )
  refine AWP.enter e rfl Try.func20 rfl rfl rfl rfl fun cx' e' hP' => ?_
  refine AWP.runL e' tab_ok L20 300 rfl ⟨ints_ne hne, trivial, trivial, trivial⟩ ?_
  refine AWP.cond rfl false rfl ?_
  refine AWP.runL e' tab_ok L20 300 rfl (by first | trivial | (simp [in64] <;> omega)) ?_
  refine AWP.append e' tab_ok rfl rfl rfl rfl rfl rfl rfl rfl (.sl (ints s)) rfl (ints_cells s) (by simp; omega) (by simp; omega) fun C2 hC2 => ?_
  refine AWP.runL e' tab_ok L20 300 rfl (by first | trivial | (simp [in64] <;> omega)) ?_
  refine AWP.ret e' tab_ok rfl ?_
  rw [hP']
  show AWP cx _ _
  refine AWP.runL e tab_ok L8 300 rfl (by first | trivial | (simp [in64] <;> omega)) ?_
  refine AWP.idx_own e tab_ok rfl rfl rfl rfl n rfl (by simp [hn]) ?_
  refine AWP.store_el e tab_ok rfl rfl rfl rfl rfl (el := [.i s[n]]) (by simp [hn]) rfl rfl rfl rfl ?_
  refine AWP.runL e tab_ok L8 300 rfl (by first | trivial | (simp [in64] <;> omega)) ?_
  refine AWP.freezeO (id := 3) (ints (s.set n v)) rfl ?_ rfl rfl ?_ ?_ ?_
  (focus (rw [List.nil_append, Nat.zero_add]; exact ints_set s n v))
  (focus (simp [lenDT, lenD, lenD.go, strip]; done))
  (focus (simp [lenDH, lenD, lenD.go, strip]; done))
  refine AWP.ret e tab_ok rfl ?_
  rw [hP]
  simp [strip, List.take_of_length_le, frzO]

set_option maxRecDepth 100000 in
theorem set_bad (s g : List Int) (t i v : Int) (h : ¬ (rightG s g t = true ∧ 0 ≤ i ∧ i < s.length)) : Eff Try.prog 8 [.agg (grp s g t), .i i, .i v] [] 0 (fun r _ _ => r = .tup [none0, .i 1]) := by
  have hr := right_eff s g t
  have hh := has_eff s i
  by_cases hR : rightG s g t = true
  · have h' : ¬ (0 ≤ i ∧ i < s.length) := fun q => h ⟨hR, q.1, q.2⟩
    have hb : (decide (0 ≤ i) && decide (i < s.length)) = false := by
      rw [Bool.and_eq_false_iff]; simp only [decide_eq_false_iff_not]; omega
    rw [hR] at hr
    rw [hb] at hh
    refine eff_of Try.func8 rfl rfl rfl fun cx e hP => ?_
    refine AWP.runL e tab_ok L8 300 rfl (by first | trivial | (simp [in64] <;> omega)) ?_
    repeat (
      first
        | (refine AWP.askT rfl ?_; (first | (refine Told.t rfl ?_) | (refine Told.f rfl ?_) | (refine Told.t ?_ ?_; (focus (first | assumption | (simp; omega) | (simp [*]; done)); done)) | (refine Told.f ?_ ?_; (focus (first | assumption | (simp; omega) | (simp [*]; done)); done))); refine AWP.runL e tab_ok L8 300 rfl (by first | trivial | (simp [in64] <;> omega)) ?_)
        | (refine AWP.callQ e rfl rfl ?_; (first | refine CallQ.mk (hr) rfl rfl ?_ | refine CallQ.mk (hh) rfl rfl ?_); refine AWP.runL e tab_ok L8 300 rfl (by first | trivial | (simp [in64] <;> omega)) ?_)
      )
    refine AWP.ret e tab_ok rfl ?_
    rw [hP]
    rfl
  · have hR : rightG s g t = false := by simpa using hR
    rw [hR] at hr
    refine eff_of Try.func8 rfl rfl rfl fun cx e hP => ?_
    refine AWP.runL e tab_ok L8 300 rfl (by first | trivial | (simp [in64] <;> omega)) ?_
    repeat (
      first
        | (refine AWP.askT rfl ?_; (first | (refine Told.t rfl ?_) | (refine Told.f rfl ?_) | (refine Told.t ?_ ?_; (focus (first | assumption | (simp; omega) | (simp [*]; done)); done)) | (refine Told.f ?_ ?_; (focus (first | assumption | (simp; omega) | (simp [*]; done)); done))); refine AWP.runL e tab_ok L8 300 rfl (by first | trivial | (simp [in64] <;> omega)) ?_)
        | (refine AWP.callQ e rfl rfl ?_; (first | refine CallQ.mk (hr) rfl rfl ?_ | refine CallQ.mk (hh) rfl rfl ?_); refine AWP.runL e tab_ok L8 300 rfl (by first | trivial | (simp [in64] <;> omega)) ?_)
      )
    refine AWP.ret e tab_ok rfl ?_
    rw [hP]
    rfl

set_option maxRecDepth 100000 in
theorem same_eff (a b : List Int) (ha : a.length ≤ 1099511627776) : Eff Try.prog 18 [sl a, sl b] [] 0 (fun r _ _ => r = .b (a == b)) := by
  refine eff_of Try.func18 rfl rfl rfl fun cx e hP => ?_
  refine AWP.runL e tab_ok L18 300 rfl (by first | trivial | (simp [in64] <;> omega)) ?_
  refine AWP.cond2 rfl (fun hne => ?_) (fun hne => ?_)
  · refine AWP.runL e tab_ok L18 300 rfl (by first | trivial | (simp [in64] <;> omega)) ?_
    refine AWP.ret e tab_ok rfl ?_
    rw [hP]
    have hne : a.length ≠ b.length := by simpa [bne_iff_ne, Int.natCast_inj] using hne
    show SV.b false = SV.b (a == b)
    have : (a == b) = false := by
      rw [beq_eq_false_iff_ne]
      rintro rfl
      exact hne rfl
    rw [this]
  · have hne : a.length = b.length := by
      have := hne; simp [bne_eq_false_iff_eq] at this; omega
    refine AWP.runL e tab_ok L18 300 rfl (by first | trivial | (simp [in64] <;> omega)) ?_
    refine AWP.loop (ι := Nat) (fun i => ⟨[(13, .i i), (12, .i (ints a).length), (0, sl a), (1, sl b)], [], 0⟩) (fun i => i ≤ a.length ∧ a.take i = b.take i) (fun i => a.length - i) 0 ⟨Nat.zero_le _, rfl⟩ ?_ ?_
    · intro g
      refine AWP.less e ?_ ?_ ?_ ?_ ?_ g
      · exact ⟨rfl, rfl, rfl, rfl, trivial⟩
      · exact trivial
      · rfl
      · exact trivial
      · rfl
    rintro i Φ ⟨hi, hs⟩ next
    refine AWP.runL e tab_ok L18 300 rfl (by first | trivial | (simp [in64] <;> omega)) ?_
    refine AWP.cond2 rfl (fun hlt => ?_) (fun hlt => ?_)
    · have hlt : i < a.length := by simpa using hlt
      have hlb : i < b.length := by omega
      refine AWP.runL e tab_ok L18 300 rfl (by first | trivial | (simp [in64] <;> omega)) ?_
      refine AWP.keep L18 rfl ?_
      refine AWP.drg 10 ?_
      (refine DrG.runN e tab_ok 200 rfl (by first | trivial | (simp [in64] <;> omega)) ?_)
      repeat (
        first
          | (refine DrG.v rfl (fun _ => VStep.goA rfl ?_ (VStep.ev e tab_ok rfl rfl ?_)) rfl ?_; (focus (first | assumption | with_reducible trivial | rfl | (simp; omega) | (simp [in64]; omega) | (simp [*]; done))); (focus (first | assumption | with_reducible trivial | rfl | (simp; omega) | (simp [in64]; omega) | (simp [*]; done))); (refine DrG.runN e tab_ok 200 rfl (by first | trivial | (simp [in64] <;> omega)) ?_))
          | (refine DrG.loadGoA e tab_ok rfl ?_ rfl rfl rfl rfl rfl rfl ?_; (focus (first | assumption | with_reducible trivial | rfl | (simp; omega) | (simp [in64]; omega) | (simp [*]; done))); (refine DrG.runN e tab_ok 200 rfl (by first | trivial | (simp [in64] <;> omega)) ?_))
          | (refine DrG.v rfl (fun _ => VStep.notA e rfl rfl ?_) rfl ?_; (focus (first | assumption | with_reducible trivial | rfl | (simp; omega) | (simp [in64]; omega) | (simp [*]; done))); (refine DrG.runN e tab_ok 200 rfl (by first | trivial | (simp [in64] <;> omega)) ?_))
          | (refine DrG.v rfl (fun _ => VStep.pickA e rfl rfl (v := true) ?_ rfl) rfl ?_; (focus (first | assumption | with_reducible trivial | rfl | (simp; omega) | (simp [in64]; omega) | (simp [*]; done))); (refine DrG.runN e tab_ok 200 rfl (by first | trivial | (simp [in64] <;> omega)) ?_))
          | (refine DrG.v rfl (fun _ => VStep.pickA e rfl rfl (v := false) ?_ rfl) rfl ?_; (focus (first | assumption | with_reducible trivial | rfl | (simp; omega) | (simp [in64]; omega) | (simp [*]; done))); (refine DrG.runN e tab_ok 200 rfl (by first | trivial | (simp [in64] <;> omega)) ?_))
        )
      refine DrG.v rfl (fun _ => VStep.idx e tab_ok rfl rfl rfl rfl i rfl (el := [.v (.int .i64 a[i])]) ?_) rfl ?_
      · simp [hlt]
      (refine DrG.runN e tab_ok 200 rfl (by first | trivial | (simp [in64] <;> omega)) ?_)
      repeat (
        first
          | (refine DrG.v rfl (fun _ => VStep.goA rfl ?_ (VStep.ev e tab_ok rfl rfl ?_)) rfl ?_; (focus (first | assumption | with_reducible trivial | rfl | (simp; omega) | (simp [in64]; omega) | (simp [*]; done))); (focus (first | assumption | with_reducible trivial | rfl | (simp; omega) | (simp [in64]; omega) | (simp [*]; done))); (refine DrG.runN e tab_ok 200 rfl (by first | trivial | (simp [in64] <;> omega)) ?_))
          | (refine DrG.loadGoA e tab_ok rfl ?_ rfl rfl rfl rfl rfl rfl ?_; (focus (first | assumption | with_reducible trivial | rfl | (simp; omega) | (simp [in64]; omega) | (simp [*]; done))); (refine DrG.runN e tab_ok 200 rfl (by first | trivial | (simp [in64] <;> omega)) ?_))
          | (refine DrG.v rfl (fun _ => VStep.notA e rfl rfl ?_) rfl ?_; (focus (first | assumption | with_reducible trivial | rfl | (simp; omega) | (simp [in64]; omega) | (simp [*]; done))); (refine DrG.runN e tab_ok 200 rfl (by first | trivial | (simp [in64] <;> omega)) ?_))
          | (refine DrG.v rfl (fun _ => VStep.pickA e rfl rfl (v := true) ?_ rfl) rfl ?_; (focus (first | assumption | with_reducible trivial | rfl | (simp; omega) | (simp [in64]; omega) | (simp [*]; done))); (refine DrG.runN e tab_ok 200 rfl (by first | trivial | (simp [in64] <;> omega)) ?_))
          | (refine DrG.v rfl (fun _ => VStep.pickA e rfl rfl (v := false) ?_ rfl) rfl ?_; (focus (first | assumption | with_reducible trivial | rfl | (simp; omega) | (simp [in64]; omega) | (simp [*]; done))); (refine DrG.runN e tab_ok 200 rfl (by first | trivial | (simp [in64] <;> omega)) ?_))
        )
      refine DrG.v rfl (fun _ => VStep.idx e tab_ok rfl rfl rfl rfl i rfl (el := [.v (.int .i64 b[i])]) ?_) rfl ?_
      · simp [hlb]
      (refine DrG.runN e tab_ok 200 rfl (by first | trivial | (simp [in64] <;> omega)) ?_)
      repeat (
        first
          | (refine DrG.v rfl (fun _ => VStep.goA rfl ?_ (VStep.ev e tab_ok rfl rfl ?_)) rfl ?_; (focus (first | assumption | with_reducible trivial | rfl | (simp; omega) | (simp [in64]; omega) | (simp [*]; done))); (focus (first | assumption | with_reducible trivial | rfl | (simp; omega) | (simp [in64]; omega) | (simp [*]; done))); (refine DrG.runN e tab_ok 200 rfl (by first | trivial | (simp [in64] <;> omega)) ?_))
          | (refine DrG.loadGoA e tab_ok rfl ?_ rfl rfl rfl rfl rfl rfl ?_; (focus (first | assumption | with_reducible trivial | rfl | (simp; omega) | (simp [in64]; omega) | (simp [*]; done))); (refine DrG.runN e tab_ok 200 rfl (by first | trivial | (simp [in64] <;> omega)) ?_))
          | (refine DrG.v rfl (fun _ => VStep.notA e rfl rfl ?_) rfl ?_; (focus (first | assumption | with_reducible trivial | rfl | (simp; omega) | (simp [in64]; omega) | (simp [*]; done))); (refine DrG.runN e tab_ok 200 rfl (by first | trivial | (simp [in64] <;> omega)) ?_))
          | (refine DrG.v rfl (fun _ => VStep.pickA e rfl rfl (v := true) ?_ rfl) rfl ?_; (focus (first | assumption | with_reducible trivial | rfl | (simp; omega) | (simp [in64]; omega) | (simp [*]; done))); (refine DrG.runN e tab_ok 200 rfl (by first | trivial | (simp [in64] <;> omega)) ?_))
          | (refine DrG.v rfl (fun _ => VStep.pickA e rfl rfl (v := false) ?_ rfl) rfl ?_; (focus (first | assumption | with_reducible trivial | rfl | (simp; omega) | (simp [in64]; omega) | (simp [*]; done))); (refine DrG.runN e tab_ok 200 rfl (by first | trivial | (simp [in64] <;> omega)) ?_))
        )
      refine DrG.fin e rfl ?_ rfl rfl rfl ?_ ?_
      (focus kernel_rfl)
      (focus (repeat' (first | exact True.intro | (refine And.intro ?_ ?_) | rfl | assumption | exact okRow _)))
      dsimp only [tmS, hpS, tput, effH]
      refine AWP.runL e tab_ok L18 300 rfl (by first | trivial | (simp [in64] <;> omega)) ?_
      refine AWP.cond2 rfl (fun hv => ?_) (fun hv => ?_)
      · refine AWP.runL e tab_ok L18 300 rfl (by first | trivial | (simp [in64] <;> omega)) ?_
        refine AWP.ret e tab_ok rfl ?_
        rw [hP]
        have hv : a[i] ≠ b[i] := by simpa using hv
        show SV.b false = SV.b (a == b)
        have : (a == b) = false := by
          rw [beq_eq_false_iff_ne]
          rintro rfl
          exact hv rfl
        rw [this]
      · have hv : a[i] = b[i] := by simpa using hv
        refine AWP.runL e tab_ok L18 300 rfl (by first | trivial | (simp [in64] <;> omega)) ?_
        refine AWP.less e ?_ ?_ ?_ ?_ ?_ (next (i + 1) ?_ ?_)
        · exact ⟨rfl, rfl, rfl, rfl, trivial⟩
        · exact trivial
        · rfl
        · exact trivial
        · rfl
        · exact ⟨hlt, by rw [List.take_succ_eq_append_getElem hlt, List.take_succ_eq_append_getElem hlb, hs, hv]⟩
        · omega
    · refine AWP.runL e tab_ok L18 300 rfl (by first | trivial | (simp [in64] <;> omega)) ?_
      refine AWP.ret e tab_ok rfl ?_
      rw [hP]
      have hle : a.length ≤ i := by simpa using hlt
      rw [List.take_of_length_le hle, List.take_of_length_le (by omega)] at hs
      show SV.b true = SV.b (a == b)
      rw [hs, beq_self_eq_true]

set_option maxRecDepth 100000 in
theorem like_eff (s g s' g' : List Int) (t t' : Int) (hs : s.length ≤ 1099511627776) (hg : g.length ≤ 1099511627776) : Eff Try.prog 13 [.agg (grp s g t), .agg (grp s' g' t')] [] 0 (fun r _ _ => r = .b (s == s' && g == g' && t == t')) := by
  have h1 := same_eff s s' hs
  have h2 := same_eff g g' hg
  generalize (s == s') = p at *
  generalize (g == g') = q at *
  refine eff_of Try.func13 rfl rfl rfl fun cx e hP => ?_
  refine AWP.runL e tab_ok L13 300 rfl (by first | trivial | (simp [in64] <;> omega)) ?_
  repeat' (
    first
      | (refine AWP.ret e tab_ok rfl ?_; rw [hP])
      | (refine AWP.fin e tab_ok rfl ?_; rw [hP])
      | (refine AWP.callQ e rfl rfl ?_; (first | refine CallQ.mk (h1) rfl rfl ?_ | refine CallQ.mk (h2) rfl rfl ?_); refine AWP.runL e tab_ok L13 300 rfl (by first | trivial | (simp [in64] <;> omega)) ?_)
      | (first
        | (refine AWP.askT rfl ?_; (first | (refine Told.t rfl ?_) | (refine Told.f rfl ?_) | (refine Told.t ?_ ?_; (focus (first | assumption | (simp; omega) | (simp [*]; done)); done)) | (refine Told.f ?_ ?_; (focus (first | assumption | (simp; omega) | (simp [*]; done)); done)) | (refine Told.both (fun h => ?_) (fun h => ?_) <;> (try simp only [decide_eq_true_eq, decide_eq_false_iff_not, bne_iff_ne, beq_iff_eq, beq_eq_false_iff_ne, bne_eq_false_iff_eq, ne_eq, Bool.not_eq_true', Bool.not_eq_false', Bool.and_eq_true, Bool.and_eq_false_iff, Bool.or_eq_true, Bool.or_eq_false_iff] at h))))) <;>
        refine AWP.runL e tab_ok L13 300 rfl (by first | trivial | (simp [in64] <;> omega)) ?_
    )
  all_goals (simp [strip, *]; done)

end Go.Proofs.Ytkilkilejnaflaa
