import Derived.Test.YtkilkilejnaflaaF6
open Go Go.Proofs Go.Sy
namespace Go.Proofs.Ytkilkilejnaflaa


set_option maxRecDepth 100000 in
theorem keeps_none (s0 o0 s o : List Int) (at_ v : Int) (hs0 : s0.length ≤ 9223372036854775807) (ho0 : o0.length ≤ 9223372036854775807) (hs : s = s0.take 16) (ho : o = o0.take 16) (ls : s.length ≤ 16) (lo : o.length ≤ 16) (hn : s = []) : Eff Try.prog 5 [sl s0, sl o0, .i at_, .i v] [] 0 (fun r _ _ => r = .b true) := by
  have hb := new_bad s (by rw [hn]; simp)
  refine eff_of Try.func5 rfl rfl rfl fun cx e hP => ?_
  refine AWP.runL e tab_ok L5 300 rfl (by first | trivial | (simp [in64] <;> omega)) ?_
  refine AWP.keep L5 rfl ?_
  refine AWP.drg 100 ?_
  (refine DrG.runN e tab_ok 200 rfl (by first | trivial | (simp [] <;> omega)) ?_)
  refine DrG.fin e rfl ?_ rfl rfl rfl ?_ ?_
  (focus kernel_rfl)
  (focus (repeat' (first | exact True.intro | (refine And.intro ?_ ?_) | rfl | assumption | exact okRow _)))
  dsimp only [tmS, hpS, tput, effH]
  refine AWP.less e (tm := [(0, sl s), (1, sl o), (2, .i at_), (3, .i v), (8, .b false)]) (hp := []) (nx := 0) ?_ ?_ ?_ ?_ ?_ ?_
  · refine ⟨?_, ?_, rfl, rfl, rfl, trivial⟩
    · exact congrArg (fun z => some (SV.d (.sl 1 z))) ((take_ints 16 s0 (by omega)).trans (congrArg ints hs.symm))
    · exact congrArg (fun z => some (SV.d (.sl 1 z))) ((take_ints 16 o0 (by omega)).trans (congrArg ints ho.symm))
  · exact trivial
  · rfl
  · exact trivial
  · rfl
  refine AWP.runL e tab_ok L5 300 rfl (by first | trivial | (simp [in64] <;> omega)) ?_
  refine AWP.append e tab_ok rfl rfl rfl rfl rfl rfl rfl rfl (.sl (ints s)) rfl (ints_cells s) (by simp; omega) (by simp; omega) fun C2 hC2 => ?_
  refine AWP.runL e tab_ok L5 300 rfl (by first | trivial | (simp [in64] <;> omega)) ?_
  refine AWP.append e tab_ok rfl rfl rfl rfl rfl rfl rfl rfl (.sl (ints o)) rfl (ints_cells o) (by simp; omega) (by simp; omega) fun C3 hC3 => ?_
  refine AWP.runL e tab_ok L5 300 rfl (by first | trivial | (simp [in64] <;> omega)) ?_
  refine AWP.freezeF (id := 1) (ints s) rfl ?_ rfl rfl ?_ ?_ ?_
  (focus (rfl))
  (focus (first | (simp [lenFT, lenF]; done) ))
  (focus (first | (simp [lenFH]; done) ))
  refine AWP.freezeF (id := 3) (ints o) rfl ?_ rfl rfl ?_ ?_ ?_
  (focus (rfl))
  (focus (first | (simp [lenFT, lenF]; done) ))
  (focus (first | (simp [lenFH]; done) ))
  refine AWP.callQ e rfl rfl ?_
  refine CallQ.mk (hb) rfl rfl ?_
  refine AWP.runL e tab_ok L5 300 rfl (by first | trivial | (simp [in64] <;> omega)) ?_
  subst hn
  repeat (
    first
      | (refine AWP.askT rfl ?_; (first | (refine Told.t rfl ?_) | (refine Told.f rfl ?_) | (refine Told.t ?_ ?_; (focus (first | assumption | (simp; omega) | (simp [*]; done)); done)) | (refine Told.f ?_ ?_; (focus (first | assumption | (simp; omega) | (simp [*]; done)); done))); refine AWP.runL e tab_ok L5 300 rfl (by first | trivial | (simp [in64] <;> omega)) ?_)
      | (refine AWP.callQ e rfl rfl ?_; (first | refine CallQ.mk (alive_eff) rfl rfl ?_); refine AWP.runL e tab_ok L5 300 rfl (by first | trivial | (simp [in64] <;> omega)) ?_)
    )
  refine AWP.ret e tab_ok rfl ?_
  rw [hP]
  all_goals first | rfl | (simp [strip]; done)

set_option maxRecDepth 100000 in
set_option maxHeartbeats 2000000 in
theorem keeps_a (s0 o0 s o : List Int) (at_ v : Int) (hs0 : s0.length ≤ 9223372036854775807) (ho0 : o0.length ≤ 9223372036854775807) (hs : s = s0.take 16) (ho : o = o0.take 16) (ls : s.length ≤ 16) (lo : o.length ≤ 16) (hn : 1 ≤ s.length) (hr : rightG s s 0 = true) (h1 : ¬ (0 ≤ at_ ∧ at_ < s.length)) (h2 : o.length = s.length) : Eff Try.prog 5 [sl s0, sl o0, .i at_, .i v] [] 0 (fun r _ _ => r = .b true) := by
  have hS := set_bad s s 0 at_ v (by rintro ⟨_, q⟩; exact h1 q)
  have hT := take_ok s s o 0 hr h2 (by omega)
  have hG := give_ok s s 0 hr (by omega)
  have hB := back_ok s s 0 hr
  have h1 := same_eff s s (by omega)
  have h2 := same_eff o o (by omega)
  have h3 := like_self s s 0 (by omega) (by omega)
  rw [beq_self_eq_true] at h1 h2
  refine eff_of Try.func5 rfl rfl rfl fun cx e hP => ?_
  refine AWP.runL e tab_ok L5 300 rfl (by first | trivial | (simp [in64] <;> omega)) ?_
  refine AWP.keep L5 rfl ?_
  refine AWP.drg 100 ?_
  (refine DrG.runN e tab_ok 200 rfl (by first | trivial | (simp [] <;> omega)) ?_)
  refine DrG.fin e rfl ?_ rfl rfl rfl ?_ ?_
  (focus kernel_rfl)
  (focus (repeat' (first | exact True.intro | (refine And.intro ?_ ?_) | rfl | assumption | exact okRow _)))
  dsimp only [tmS, hpS, tput, effH]
  refine AWP.less e (tm := [(0, sl s), (1, sl o), (2, .i at_), (3, .i v), (8, .b false)]) (hp := []) (nx := 0) ?_ ?_ ?_ ?_ ?_ ?_
  · refine ⟨?_, ?_, rfl, rfl, rfl, trivial⟩
    · exact congrArg (fun z => some (SV.d (.sl 1 z))) ((take_ints 16 s0 (by omega)).trans (congrArg ints hs.symm))
    · exact congrArg (fun z => some (SV.d (.sl 1 z))) ((take_ints 16 o0 (by omega)).trans (congrArg ints ho.symm))
  · exact trivial
  · rfl
  · exact trivial
  · rfl
  refine AWP.runL e tab_ok L5 300 rfl (by first | trivial | (simp [in64] <;> omega)) ?_
  refine AWP.append e tab_ok rfl rfl rfl rfl rfl rfl rfl rfl (.sl (ints s)) rfl (ints_cells s) (by simp; omega) (by simp; omega) fun C2 hC2 => ?_
  refine AWP.runL e tab_ok L5 300 rfl (by first | trivial | (simp [in64] <;> omega)) ?_
  refine AWP.append e tab_ok rfl rfl rfl rfl rfl rfl rfl rfl (.sl (ints o)) rfl (ints_cells o) (by simp; omega) (by simp; omega) fun C3 hC3 => ?_
  refine AWP.runL e tab_ok L5 300 rfl (by first | trivial | (simp [in64] <;> omega)) ?_
  refine AWP.freezeF (id := 1) (ints s) rfl ?_ rfl rfl ?_ ?_ ?_
  (focus (rfl))
  (focus (first | (simp [lenFT, lenF]; done) ))
  (focus (first | (simp [lenFH]; done) ))
  refine AWP.freezeF (id := 3) (ints o) rfl ?_ rfl rfl ?_ ?_ ?_
  (focus (rfl))
  (focus (first | (simp [lenFT, lenF]; done) ))
  (focus (first | (simp [lenFH]; done) ))
  refine AWP.callQ e rfl rfl ?_
  refine CallQ.mk (new_ok s hn ls) rfl rfl ?_
  refine AWP.runL e tab_ok L5 300 rfl (by first | trivial | (simp [in64] <;> omega)) ?_
  repeat (
    first
      | (refine AWP.askT rfl ?_; (first | (refine Told.t rfl ?_) | (refine Told.f rfl ?_) | (refine Told.t ?_ ?_; (focus (first | assumption | (simp; omega) | (simp [*]; done)); done)) | (refine Told.f ?_ ?_; (focus (first | assumption | (simp; omega) | (simp [*]; done)); done))); refine AWP.runL e tab_ok L5 300 rfl (by first | trivial | (simp [in64] <;> omega)) ?_)
    )
  refine AWP.keep L5 rfl ?_
  refine AWP.drc 100 ?_
  refine DrC.row 10 e tab_ok rfl rfl (fun c => rfl) rfl rfl rfl ?_
  repeat (
    first
      | (refine DrC.v rfl (fun c _ => VStep.ev e tab_ok rfl rfl ?_) (fun c => rfl) ?_; (focus (first | assumption | with_reducible trivial | rfl | (simp; omega) | (simp [in64]; omega) | (simp [*]; done))))
      | (refine DrC.load e tab_ok rfl (fun c => rfl) rfl (fun c => rfl) (fun c => rfl) (fun c => rfl) ?_)
      | (refine DrC.store e tab_ok rfl (fun c => rfl) (fun c => rfl) rfl (fun c => rfl) (fun c => rfl) (fun c => rfl) (fun c => rfl) (fun c => rfl) (fun c => rfl) rfl ?_)
    )
  refine DrC.append 11 e tab_ok rfl (fun c => rfl) (fun c => rfl) (fun c => rfl) rfl rfl rfl (fun _ => .sl (ints s)) rfl (ints_cells s) (by simp; omega) (by simp; omega) rfl rfl (ints_ok 0 s) rfl ?_
  refine DrC.row 12 e tab_ok rfl rfl (fun c => rfl) rfl rfl rfl ?_
  repeat (
    first
      | (refine DrC.v rfl (fun c _ => VStep.ev e tab_ok rfl rfl ?_) (fun c => rfl) ?_; (focus (first | assumption | with_reducible trivial | rfl | (simp; omega) | (simp [in64]; omega) | (simp [*]; done))))
      | (refine DrC.load e tab_ok rfl (fun c => rfl) rfl (fun c => rfl) (fun c => rfl) (fun c => rfl) ?_)
      | (refine DrC.store e tab_ok rfl (fun c => rfl) (fun c => rfl) rfl (fun c => rfl) (fun c => rfl) (fun c => rfl) (fun c => rfl) (fun c => rfl) (fun c => rfl) rfl ?_)
    )
  refine DrC.append 13 e tab_ok rfl (fun c => rfl) (fun c => rfl) (fun c => rfl) rfl rfl rfl (fun _ => .sl (ints s)) rfl (ints_cells s) (by simp; omega) (by simp; omega) rfl rfl (ints_ok 0 s) rfl ?_
  repeat (
    first
      | (refine DrC.v rfl (fun c _ => VStep.ev e tab_ok rfl rfl ?_) (fun c => rfl) ?_; (focus (first | assumption | with_reducible trivial | rfl | (simp; omega) | (simp [in64]; omega) | (simp [*]; done))))
      | (refine DrC.load e tab_ok rfl (fun c => rfl) rfl (fun c => rfl) (fun c => rfl) (fun c => rfl) ?_)
      | (refine DrC.store e tab_ok rfl (fun c => rfl) (fun c => rfl) rfl (fun c => rfl) (fun c => rfl) (fun c => rfl) (fun c => rfl) (fun c => rfl) (fun c => rfl) rfl ?_)
    )
  refine DrC.box 14 e tab_ok rfl rfl (fun c => rfl) rfl rfl (fun c => rfl) (fun c => rfl) ?_
  repeat (
    first
      | (refine DrC.v rfl (fun c _ => VStep.ev e tab_ok rfl rfl ?_) (fun c => rfl) ?_; (focus (first | assumption | with_reducible trivial | rfl | (simp; omega) | (simp [in64]; omega) | (simp [*]; done))))
      | (refine DrC.load e tab_ok rfl (fun c => rfl) rfl (fun c => rfl) (fun c => rfl) (fun c => rfl) ?_)
      | (refine DrC.store e tab_ok rfl (fun c => rfl) (fun c => rfl) rfl (fun c => rfl) (fun c => rfl) (fun c => rfl) (fun c => rfl) (fun c => rfl) (fun c => rfl) rfl ?_)
    )
  refine DrC.fin e rfl ?_ (fun c => rfl) rfl rfl ?_ ?_ (fun cp => ?_)
  (focus (intro c; kernel_rfl))
  (focus (repeat' (first | exact True.intro | (refine And.intro ?_ ?_) | rfl | assumption | exact okRow _)))
  (focus (repeat' (first | exact True.intro | (refine And.intro (fun c C => ?_) ?_)) <;> (repeat' (first | exact All2.nil | (refine All2.cons ⟨rfl, ?_⟩ ?_) | exact Or.inr rfl | (refine Or.inl ?_; kernel_rfl)))))
  dsimp only [tmS, hpS, tput, effH]
  refine AWP.freezeF (id := 11) (ints s) rfl ?_ rfl rfl ?_ ?_ ?_
  (focus (rfl))
  (focus (first | (simp [lenFT, lenF, lenF.go, strip]; done) ))
  (focus (first | (simp [lenFH, lenF, lenF.go, strip, adel, Nat.beq]; done) ))
  refine AWP.freezeF (id := 13) (ints s) rfl ?_ rfl rfl ?_ ?_ ?_
  (focus (rfl))
  (focus (first | (simp [lenFT, lenF, lenF.go, strip, Nat.beq, frzF]; done) ))
  (focus (first | (simp [lenFH, lenF, lenF.go, strip, Nat.beq, frzF]; done) ))
  refine AWP.runL e tab_ok L5 300 rfl (by first | trivial | (simp [in64] <;> omega)) ?_
  repeat (
    first
      | (refine AWP.askT rfl ?_; (first | (refine Told.t rfl ?_) | (refine Told.f rfl ?_) | (refine Told.t ?_ ?_; (focus (first | assumption | (simp; omega) | (simp [*]; done)); done)) | (refine Told.f ?_ ?_; (focus (first | assumption | (simp; omega) | (simp [*]; done)); done))); refine AWP.runL e tab_ok L5 300 rfl (by first | trivial | (simp [in64] <;> omega)) ?_)
      | (refine AWP.callQ e rfl rfl ?_; (first | refine CallQ.mk (hS) rfl rfl ?_ | refine CallQ.mk (hG) rfl rfl ?_ | refine CallQ.mk (hB) rfl rfl ?_ | refine CallQ.mk (hT) rfl rfl ?_ | refine CallQ.mk (alive_eff) rfl rfl ?_ | refine CallQ.mk (h1) rfl rfl ?_ | refine CallQ.mk (h2) rfl rfl ?_ | refine CallQ.mk (h3) rfl rfl ?_); refine AWP.runL e tab_ok L5 300 rfl (by first | trivial | (simp [in64] <;> omega)) ?_)
    )
  refine AWP.ret e tab_ok rfl ?_
  rw [hP]
  all_goals first | rfl | (simp [strip]; done)

set_option maxRecDepth 100000 in
set_option maxHeartbeats 2000000 in
theorem keeps_b (s0 o0 s o : List Int) (at_ v : Int) (hs0 : s0.length ≤ 9223372036854775807) (ho0 : o0.length ≤ 9223372036854775807) (hs : s = s0.take 16) (ho : o = o0.take 16) (ls : s.length ≤ 16) (lo : o.length ≤ 16) (hn : 1 ≤ s.length) (hr : rightG s s 0 = true) (h1 : ¬ (0 ≤ at_ ∧ at_ < s.length)) (h2 : o.length ≠ s.length) : Eff Try.prog 5 [sl s0, sl o0, .i at_, .i v] [] 0 (fun r _ _ => r = .b true) := by
  have hS := set_bad s s 0 at_ v (by rintro ⟨_, q⟩; exact h1 q)
  have hT := take_bad s s o 0 (by rintro ⟨_, q, _⟩; exact h2 q)
  have hG := give_ok s s 0 hr (by omega)
  have hB := back_ok s s 0 hr
  have h1 := same_eff s s (by omega)
  have h2 := same_eff o o (by omega)
  have h3 := like_self s s 0 (by omega) (by omega)
  rw [beq_self_eq_true] at h1 h2
  refine eff_of Try.func5 rfl rfl rfl fun cx e hP => ?_
  refine AWP.runL e tab_ok L5 300 rfl (by first | trivial | (simp [in64] <;> omega)) ?_
  refine AWP.keep L5 rfl ?_
  refine AWP.drg 100 ?_
  (refine DrG.runN e tab_ok 200 rfl (by first | trivial | (simp [] <;> omega)) ?_)
  refine DrG.fin e rfl ?_ rfl rfl rfl ?_ ?_
  (focus kernel_rfl)
  (focus (repeat' (first | exact True.intro | (refine And.intro ?_ ?_) | rfl | assumption | exact okRow _)))
  dsimp only [tmS, hpS, tput, effH]
  refine AWP.less e (tm := [(0, sl s), (1, sl o), (2, .i at_), (3, .i v), (8, .b false)]) (hp := []) (nx := 0) ?_ ?_ ?_ ?_ ?_ ?_
  · refine ⟨?_, ?_, rfl, rfl, rfl, trivial⟩
    · exact congrArg (fun z => some (SV.d (.sl 1 z))) ((take_ints 16 s0 (by omega)).trans (congrArg ints hs.symm))
    · exact congrArg (fun z => some (SV.d (.sl 1 z))) ((take_ints 16 o0 (by omega)).trans (congrArg ints ho.symm))
  · exact trivial
  · rfl
  · exact trivial
  · rfl
  refine AWP.runL e tab_ok L5 300 rfl (by first | trivial | (simp [in64] <;> omega)) ?_
  refine AWP.append e tab_ok rfl rfl rfl rfl rfl rfl rfl rfl (.sl (ints s)) rfl (ints_cells s) (by simp; omega) (by simp; omega) fun C2 hC2 => ?_
  refine AWP.runL e tab_ok L5 300 rfl (by first | trivial | (simp [in64] <;> omega)) ?_
  refine AWP.append e tab_ok rfl rfl rfl rfl rfl rfl rfl rfl (.sl (ints o)) rfl (ints_cells o) (by simp; omega) (by simp; omega) fun C3 hC3 => ?_
  refine AWP.runL e tab_ok L5 300 rfl (by first | trivial | (simp [in64] <;> omega)) ?_
  refine AWP.freezeF (id := 1) (ints s) rfl ?_ rfl rfl ?_ ?_ ?_
  (focus (rfl))
  (focus (first | (simp [lenFT, lenF]; done) ))
  (focus (first | (simp [lenFH]; done) ))
  refine AWP.freezeF (id := 3) (ints o) rfl ?_ rfl rfl ?_ ?_ ?_
  (focus (rfl))
  (focus (first | (simp [lenFT, lenF]; done) ))
  (focus (first | (simp [lenFH]; done) ))
  refine AWP.callQ e rfl rfl ?_
  refine CallQ.mk (new_ok s hn ls) rfl rfl ?_
  refine AWP.runL e tab_ok L5 300 rfl (by first | trivial | (simp [in64] <;> omega)) ?_
  repeat (
    first
      | (refine AWP.askT rfl ?_; (first | (refine Told.t rfl ?_) | (refine Told.f rfl ?_) | (refine Told.t ?_ ?_; (focus (first | assumption | (simp; omega) | (simp [*]; done)); done)) | (refine Told.f ?_ ?_; (focus (first | assumption | (simp; omega) | (simp [*]; done)); done))); refine AWP.runL e tab_ok L5 300 rfl (by first | trivial | (simp [in64] <;> omega)) ?_)
    )
  refine AWP.keep L5 rfl ?_
  refine AWP.drc 100 ?_
  refine DrC.row 10 e tab_ok rfl rfl (fun c => rfl) rfl rfl rfl ?_
  repeat (
    first
      | (refine DrC.v rfl (fun c _ => VStep.ev e tab_ok rfl rfl ?_) (fun c => rfl) ?_; (focus (first | assumption | with_reducible trivial | rfl | (simp; omega) | (simp [in64]; omega) | (simp [*]; done))))
      | (refine DrC.load e tab_ok rfl (fun c => rfl) rfl (fun c => rfl) (fun c => rfl) (fun c => rfl) ?_)
      | (refine DrC.store e tab_ok rfl (fun c => rfl) (fun c => rfl) rfl (fun c => rfl) (fun c => rfl) (fun c => rfl) (fun c => rfl) (fun c => rfl) (fun c => rfl) rfl ?_)
    )
  refine DrC.append 11 e tab_ok rfl (fun c => rfl) (fun c => rfl) (fun c => rfl) rfl rfl rfl (fun _ => .sl (ints s)) rfl (ints_cells s) (by simp; omega) (by simp; omega) rfl rfl (ints_ok 0 s) rfl ?_
  refine DrC.row 12 e tab_ok rfl rfl (fun c => rfl) rfl rfl rfl ?_
  repeat (
    first
      | (refine DrC.v rfl (fun c _ => VStep.ev e tab_ok rfl rfl ?_) (fun c => rfl) ?_; (focus (first | assumption | with_reducible trivial | rfl | (simp; omega) | (simp [in64]; omega) | (simp [*]; done))))
      | (refine DrC.load e tab_ok rfl (fun c => rfl) rfl (fun c => rfl) (fun c => rfl) (fun c => rfl) ?_)
      | (refine DrC.store e tab_ok rfl (fun c => rfl) (fun c => rfl) rfl (fun c => rfl) (fun c => rfl) (fun c => rfl) (fun c => rfl) (fun c => rfl) (fun c => rfl) rfl ?_)
    )
  refine DrC.append 13 e tab_ok rfl (fun c => rfl) (fun c => rfl) (fun c => rfl) rfl rfl rfl (fun _ => .sl (ints s)) rfl (ints_cells s) (by simp; omega) (by simp; omega) rfl rfl (ints_ok 0 s) rfl ?_
  repeat (
    first
      | (refine DrC.v rfl (fun c _ => VStep.ev e tab_ok rfl rfl ?_) (fun c => rfl) ?_; (focus (first | assumption | with_reducible trivial | rfl | (simp; omega) | (simp [in64]; omega) | (simp [*]; done))))
      | (refine DrC.load e tab_ok rfl (fun c => rfl) rfl (fun c => rfl) (fun c => rfl) (fun c => rfl) ?_)
      | (refine DrC.store e tab_ok rfl (fun c => rfl) (fun c => rfl) rfl (fun c => rfl) (fun c => rfl) (fun c => rfl) (fun c => rfl) (fun c => rfl) (fun c => rfl) rfl ?_)
    )
  refine DrC.box 14 e tab_ok rfl rfl (fun c => rfl) rfl rfl (fun c => rfl) (fun c => rfl) ?_
  repeat (
    first
      | (refine DrC.v rfl (fun c _ => VStep.ev e tab_ok rfl rfl ?_) (fun c => rfl) ?_; (focus (first | assumption | with_reducible trivial | rfl | (simp; omega) | (simp [in64]; omega) | (simp [*]; done))))
      | (refine DrC.load e tab_ok rfl (fun c => rfl) rfl (fun c => rfl) (fun c => rfl) (fun c => rfl) ?_)
      | (refine DrC.store e tab_ok rfl (fun c => rfl) (fun c => rfl) rfl (fun c => rfl) (fun c => rfl) (fun c => rfl) (fun c => rfl) (fun c => rfl) (fun c => rfl) rfl ?_)
    )
  refine DrC.fin e rfl ?_ (fun c => rfl) rfl rfl ?_ ?_ (fun cp => ?_)
  (focus (intro c; kernel_rfl))
  (focus (repeat' (first | exact True.intro | (refine And.intro ?_ ?_) | rfl | assumption | exact okRow _)))
  (focus (repeat' (first | exact True.intro | (refine And.intro (fun c C => ?_) ?_)) <;> (repeat' (first | exact All2.nil | (refine All2.cons ⟨rfl, ?_⟩ ?_) | exact Or.inr rfl | (refine Or.inl ?_; kernel_rfl)))))
  dsimp only [tmS, hpS, tput, effH]
  refine AWP.freezeF (id := 11) (ints s) rfl ?_ rfl rfl ?_ ?_ ?_
  (focus (rfl))
  (focus (first | (simp [lenFT, lenF, lenF.go, strip]; done) ))
  (focus (first | (simp [lenFH, lenF, lenF.go, strip, adel, Nat.beq]; done) ))
  refine AWP.freezeF (id := 13) (ints s) rfl ?_ rfl rfl ?_ ?_ ?_
  (focus (rfl))
  (focus (first | (simp [lenFT, lenF, lenF.go, strip, Nat.beq, frzF]; done) ))
  (focus (first | (simp [lenFH, lenF, lenF.go, strip, Nat.beq, frzF]; done) ))
  refine AWP.runL e tab_ok L5 300 rfl (by first | trivial | (simp [in64] <;> omega)) ?_
  repeat (
    first
      | (refine AWP.askT rfl ?_; (first | (refine Told.t rfl ?_) | (refine Told.f rfl ?_) | (refine Told.t ?_ ?_; (focus (first | assumption | (simp; omega) | (simp [*]; done)); done)) | (refine Told.f ?_ ?_; (focus (first | assumption | (simp; omega) | (simp [*]; done)); done))); refine AWP.runL e tab_ok L5 300 rfl (by first | trivial | (simp [in64] <;> omega)) ?_)
      | (refine AWP.callQ e rfl rfl ?_; (first | refine CallQ.mk (hS) rfl rfl ?_ | refine CallQ.mk (hG) rfl rfl ?_ | refine CallQ.mk (hB) rfl rfl ?_ | refine CallQ.mk (hT) rfl rfl ?_ | refine CallQ.mk (alive_eff) rfl rfl ?_ | refine CallQ.mk (h1) rfl rfl ?_ | refine CallQ.mk (h2) rfl rfl ?_ | refine CallQ.mk (h3) rfl rfl ?_); refine AWP.runL e tab_ok L5 300 rfl (by first | trivial | (simp [in64] <;> omega)) ?_)
    )
  refine AWP.ret e tab_ok rfl ?_
  rw [hP]
  all_goals first | rfl | (simp [strip]; done)

set_option maxRecDepth 100000 in
set_option maxHeartbeats 2000000 in
theorem keeps_c (s0 o0 s o : List Int) (at_ v : Int) (hs0 : s0.length ≤ 9223372036854775807) (ho0 : o0.length ≤ 9223372036854775807) (hs : s = s0.take 16) (ho : o = o0.take 16) (ls : s.length ≤ 16) (lo : o.length ≤ 16) (hn : 1 ≤ s.length) (hr : rightG s s 0 = true) (n : Nat) (hi : at_ = n) (hn2 : n < s.length) (h2 : o.length = s.length) : Eff Try.prog 5 [sl s0, sl o0, .i at_, .i v] [] 0 (fun r _ _ => r = .b true) := by
  have hS := set_ok s s 0 at_ v hr n hi hn2
  have hT := take_ok s s o 0 hr h2 (by omega)
  have hG := give_ok s s 0 hr (by omega)
  have hB := back_ok s s 0 hr
  have h1 := same_eff s s (by omega)
  have h2 := same_eff o o (by omega)
  have h3 := like_self s s 0 (by omega) (by omega)
  rw [beq_self_eq_true] at h1 h2
  refine eff_of Try.func5 rfl rfl rfl fun cx e hP => ?_
  refine AWP.runL e tab_ok L5 300 rfl (by first | trivial | (simp [in64] <;> omega)) ?_
  refine AWP.keep L5 rfl ?_
  refine AWP.drg 100 ?_
  (refine DrG.runN e tab_ok 200 rfl (by first | trivial | (simp [] <;> omega)) ?_)
  refine DrG.fin e rfl ?_ rfl rfl rfl ?_ ?_
  (focus kernel_rfl)
  (focus (repeat' (first | exact True.intro | (refine And.intro ?_ ?_) | rfl | assumption | exact okRow _)))
  dsimp only [tmS, hpS, tput, effH]
  refine AWP.less e (tm := [(0, sl s), (1, sl o), (2, .i at_), (3, .i v), (8, .b false)]) (hp := []) (nx := 0) ?_ ?_ ?_ ?_ ?_ ?_
  · refine ⟨?_, ?_, rfl, rfl, rfl, trivial⟩
    · exact congrArg (fun z => some (SV.d (.sl 1 z))) ((take_ints 16 s0 (by omega)).trans (congrArg ints hs.symm))
    · exact congrArg (fun z => some (SV.d (.sl 1 z))) ((take_ints 16 o0 (by omega)).trans (congrArg ints ho.symm))
  · exact trivial
  · rfl
  · exact trivial
  · rfl
  refine AWP.runL e tab_ok L5 300 rfl (by first | trivial | (simp [in64] <;> omega)) ?_
  refine AWP.append e tab_ok rfl rfl rfl rfl rfl rfl rfl rfl (.sl (ints s)) rfl (ints_cells s) (by simp; omega) (by simp; omega) fun C2 hC2 => ?_
  refine AWP.runL e tab_ok L5 300 rfl (by first | trivial | (simp [in64] <;> omega)) ?_
  refine AWP.append e tab_ok rfl rfl rfl rfl rfl rfl rfl rfl (.sl (ints o)) rfl (ints_cells o) (by simp; omega) (by simp; omega) fun C3 hC3 => ?_
  refine AWP.runL e tab_ok L5 300 rfl (by first | trivial | (simp [in64] <;> omega)) ?_
  refine AWP.freezeF (id := 1) (ints s) rfl ?_ rfl rfl ?_ ?_ ?_
  (focus (rfl))
  (focus (first | (simp [lenFT, lenF]; done) ))
  (focus (first | (simp [lenFH]; done) ))
  refine AWP.freezeF (id := 3) (ints o) rfl ?_ rfl rfl ?_ ?_ ?_
  (focus (rfl))
  (focus (first | (simp [lenFT, lenF]; done) ))
  (focus (first | (simp [lenFH]; done) ))
  refine AWP.callQ e rfl rfl ?_
  refine CallQ.mk (new_ok s hn ls) rfl rfl ?_
  refine AWP.runL e tab_ok L5 300 rfl (by first | trivial | (simp [in64] <;> omega)) ?_
  repeat (
    first
      | (refine AWP.askT rfl ?_; (first | (refine Told.t rfl ?_) | (refine Told.f rfl ?_) | (refine Told.t ?_ ?_; (focus (first | assumption | (simp; omega) | (simp [*]; done)); done)) | (refine Told.f ?_ ?_; (focus (first | assumption | (simp; omega) | (simp [*]; done)); done))); refine AWP.runL e tab_ok L5 300 rfl (by first | trivial | (simp [in64] <;> omega)) ?_)
    )
  refine AWP.keep L5 rfl ?_
  refine AWP.drc 100 ?_
  refine DrC.row 10 e tab_ok rfl rfl (fun c => rfl) rfl rfl rfl ?_
  repeat (
    first
      | (refine DrC.v rfl (fun c _ => VStep.ev e tab_ok rfl rfl ?_) (fun c => rfl) ?_; (focus (first | assumption | with_reducible trivial | rfl | (simp; omega) | (simp [in64]; omega) | (simp [*]; done))))
      | (refine DrC.load e tab_ok rfl (fun c => rfl) rfl (fun c => rfl) (fun c => rfl) (fun c => rfl) ?_)
      | (refine DrC.store e tab_ok rfl (fun c => rfl) (fun c => rfl) rfl (fun c => rfl) (fun c => rfl) (fun c => rfl) (fun c => rfl) (fun c => rfl) (fun c => rfl) rfl ?_)
    )
  refine DrC.append 11 e tab_ok rfl (fun c => rfl) (fun c => rfl) (fun c => rfl) rfl rfl rfl (fun _ => .sl (ints s)) rfl (ints_cells s) (by simp; omega) (by simp; omega) rfl rfl (ints_ok 0 s) rfl ?_
  refine DrC.row 12 e tab_ok rfl rfl (fun c => rfl) rfl rfl rfl ?_
  repeat (
    first
      | (refine DrC.v rfl (fun c _ => VStep.ev e tab_ok rfl rfl ?_) (fun c => rfl) ?_; (focus (first | assumption | with_reducible trivial | rfl | (simp; omega) | (simp [in64]; omega) | (simp [*]; done))))
      | (refine DrC.load e tab_ok rfl (fun c => rfl) rfl (fun c => rfl) (fun c => rfl) (fun c => rfl) ?_)
      | (refine DrC.store e tab_ok rfl (fun c => rfl) (fun c => rfl) rfl (fun c => rfl) (fun c => rfl) (fun c => rfl) (fun c => rfl) (fun c => rfl) (fun c => rfl) rfl ?_)
    )
  refine DrC.append 13 e tab_ok rfl (fun c => rfl) (fun c => rfl) (fun c => rfl) rfl rfl rfl (fun _ => .sl (ints s)) rfl (ints_cells s) (by simp; omega) (by simp; omega) rfl rfl (ints_ok 0 s) rfl ?_
  repeat (
    first
      | (refine DrC.v rfl (fun c _ => VStep.ev e tab_ok rfl rfl ?_) (fun c => rfl) ?_; (focus (first | assumption | with_reducible trivial | rfl | (simp; omega) | (simp [in64]; omega) | (simp [*]; done))))
      | (refine DrC.load e tab_ok rfl (fun c => rfl) rfl (fun c => rfl) (fun c => rfl) (fun c => rfl) ?_)
      | (refine DrC.store e tab_ok rfl (fun c => rfl) (fun c => rfl) rfl (fun c => rfl) (fun c => rfl) (fun c => rfl) (fun c => rfl) (fun c => rfl) (fun c => rfl) rfl ?_)
    )
  refine DrC.box 14 e tab_ok rfl rfl (fun c => rfl) rfl rfl (fun c => rfl) (fun c => rfl) ?_
  repeat (
    first
      | (refine DrC.v rfl (fun c _ => VStep.ev e tab_ok rfl rfl ?_) (fun c => rfl) ?_; (focus (first | assumption | with_reducible trivial | rfl | (simp; omega) | (simp [in64]; omega) | (simp [*]; done))))
      | (refine DrC.load e tab_ok rfl (fun c => rfl) rfl (fun c => rfl) (fun c => rfl) (fun c => rfl) ?_)
      | (refine DrC.store e tab_ok rfl (fun c => rfl) (fun c => rfl) rfl (fun c => rfl) (fun c => rfl) (fun c => rfl) (fun c => rfl) (fun c => rfl) (fun c => rfl) rfl ?_)
    )
  refine DrC.fin e rfl ?_ (fun c => rfl) rfl rfl ?_ ?_ (fun cp => ?_)
  (focus (intro c; kernel_rfl))
  (focus (repeat' (first | exact True.intro | (refine And.intro ?_ ?_) | rfl | assumption | exact okRow _)))
  (focus (repeat' (first | exact True.intro | (refine And.intro (fun c C => ?_) ?_)) <;> (repeat' (first | exact All2.nil | (refine All2.cons ⟨rfl, ?_⟩ ?_) | exact Or.inr rfl | (refine Or.inl ?_; kernel_rfl)))))
  dsimp only [tmS, hpS, tput, effH]
  refine AWP.freezeF (id := 11) (ints s) rfl ?_ rfl rfl ?_ ?_ ?_
  (focus (rfl))
  (focus (first | (simp [lenFT, lenF, lenF.go, strip]; done) ))
  (focus (first | (simp [lenFH, lenF, lenF.go, strip, adel, Nat.beq]; done) ))
  refine AWP.freezeF (id := 13) (ints s) rfl ?_ rfl rfl ?_ ?_ ?_
  (focus (rfl))
  (focus (first | (simp [lenFT, lenF, lenF.go, strip, Nat.beq, frzF]; done) ))
  (focus (first | (simp [lenFH, lenF, lenF.go, strip, Nat.beq, frzF]; done) ))
  refine AWP.runL e tab_ok L5 300 rfl (by first | trivial | (simp [in64] <;> omega)) ?_
  repeat (
    first
      | (refine AWP.askT rfl ?_; (first | (refine Told.t rfl ?_) | (refine Told.f rfl ?_) | (refine Told.t ?_ ?_; (focus (first | assumption | (simp; omega) | (simp [*]; done)); done)) | (refine Told.f ?_ ?_; (focus (first | assumption | (simp; omega) | (simp [*]; done)); done))); refine AWP.runL e tab_ok L5 300 rfl (by first | trivial | (simp [in64] <;> omega)) ?_)
      | (refine AWP.callQ e rfl rfl ?_; (first | refine CallQ.mk (hS) rfl rfl ?_ | refine CallQ.mk (hG) rfl rfl ?_ | refine CallQ.mk (hB) rfl rfl ?_ | refine CallQ.mk (hT) rfl rfl ?_ | refine CallQ.mk (alive_eff) rfl rfl ?_ | refine CallQ.mk (h1) rfl rfl ?_ | refine CallQ.mk (h2) rfl rfl ?_ | refine CallQ.mk (h3) rfl rfl ?_); refine AWP.runL e tab_ok L5 300 rfl (by first | trivial | (simp [in64] <;> omega)) ?_)
    )
  refine AWP.ret e tab_ok rfl ?_
  rw [hP]
  all_goals first | rfl | (simp [strip]; done)

set_option maxRecDepth 100000 in
set_option maxHeartbeats 2000000 in
theorem keeps_d (s0 o0 s o : List Int) (at_ v : Int) (hs0 : s0.length ≤ 9223372036854775807) (ho0 : o0.length ≤ 9223372036854775807) (hs : s = s0.take 16) (ho : o = o0.take 16) (ls : s.length ≤ 16) (lo : o.length ≤ 16) (hn : 1 ≤ s.length) (hr : rightG s s 0 = true) (n : Nat) (hi : at_ = n) (hn2 : n < s.length) (h2 : o.length ≠ s.length) : Eff Try.prog 5 [sl s0, sl o0, .i at_, .i v] [] 0 (fun r _ _ => r = .b true) := by
  have hS := set_ok s s 0 at_ v hr n hi hn2
  have hT := take_bad s s o 0 (by rintro ⟨_, q, _⟩; exact h2 q)
  have hG := give_ok s s 0 hr (by omega)
  have hB := back_ok s s 0 hr
  have h1 := same_eff s s (by omega)
  have h2 := same_eff o o (by omega)
  have h3 := like_self s s 0 (by omega) (by omega)
  rw [beq_self_eq_true] at h1 h2
  refine eff_of Try.func5 rfl rfl rfl fun cx e hP => ?_
  refine AWP.runL e tab_ok L5 300 rfl (by first | trivial | (simp [in64] <;> omega)) ?_
  refine AWP.keep L5 rfl ?_
  refine AWP.drg 100 ?_
  (refine DrG.runN e tab_ok 200 rfl (by first | trivial | (simp [] <;> omega)) ?_)
  refine DrG.fin e rfl ?_ rfl rfl rfl ?_ ?_
  (focus kernel_rfl)
  (focus (repeat' (first | exact True.intro | (refine And.intro ?_ ?_) | rfl | assumption | exact okRow _)))
  dsimp only [tmS, hpS, tput, effH]
  refine AWP.less e (tm := [(0, sl s), (1, sl o), (2, .i at_), (3, .i v), (8, .b false)]) (hp := []) (nx := 0) ?_ ?_ ?_ ?_ ?_ ?_
  · refine ⟨?_, ?_, rfl, rfl, rfl, trivial⟩
    · exact congrArg (fun z => some (SV.d (.sl 1 z))) ((take_ints 16 s0 (by omega)).trans (congrArg ints hs.symm))
    · exact congrArg (fun z => some (SV.d (.sl 1 z))) ((take_ints 16 o0 (by omega)).trans (congrArg ints ho.symm))
  · exact trivial
  · rfl
  · exact trivial
  · rfl
  refine AWP.runL e tab_ok L5 300 rfl (by first | trivial | (simp [in64] <;> omega)) ?_
  refine AWP.append e tab_ok rfl rfl rfl rfl rfl rfl rfl rfl (.sl (ints s)) rfl (ints_cells s) (by simp; omega) (by simp; omega) fun C2 hC2 => ?_
  refine AWP.runL e tab_ok L5 300 rfl (by first | trivial | (simp [in64] <;> omega)) ?_
  refine AWP.append e tab_ok rfl rfl rfl rfl rfl rfl rfl rfl (.sl (ints o)) rfl (ints_cells o) (by simp; omega) (by simp; omega) fun C3 hC3 => ?_
  refine AWP.runL e tab_ok L5 300 rfl (by first | trivial | (simp [in64] <;> omega)) ?_
  refine AWP.freezeF (id := 1) (ints s) rfl ?_ rfl rfl ?_ ?_ ?_
  (focus (rfl))
  (focus (first | (simp [lenFT, lenF]; done) ))
  (focus (first | (simp [lenFH]; done) ))
  refine AWP.freezeF (id := 3) (ints o) rfl ?_ rfl rfl ?_ ?_ ?_
  (focus (rfl))
  (focus (first | (simp [lenFT, lenF]; done) ))
  (focus (first | (simp [lenFH]; done) ))
  refine AWP.callQ e rfl rfl ?_
  refine CallQ.mk (new_ok s hn ls) rfl rfl ?_
  refine AWP.runL e tab_ok L5 300 rfl (by first | trivial | (simp [in64] <;> omega)) ?_
  repeat (
    first
      | (refine AWP.askT rfl ?_; (first | (refine Told.t rfl ?_) | (refine Told.f rfl ?_) | (refine Told.t ?_ ?_; (focus (first | assumption | (simp; omega) | (simp [*]; done)); done)) | (refine Told.f ?_ ?_; (focus (first | assumption | (simp; omega) | (simp [*]; done)); done))); refine AWP.runL e tab_ok L5 300 rfl (by first | trivial | (simp [in64] <;> omega)) ?_)
    )
  refine AWP.keep L5 rfl ?_
  refine AWP.drc 100 ?_
  refine DrC.row 10 e tab_ok rfl rfl (fun c => rfl) rfl rfl rfl ?_
  repeat (
    first
      | (refine DrC.v rfl (fun c _ => VStep.ev e tab_ok rfl rfl ?_) (fun c => rfl) ?_; (focus (first | assumption | with_reducible trivial | rfl | (simp; omega) | (simp [in64]; omega) | (simp [*]; done))))
      | (refine DrC.load e tab_ok rfl (fun c => rfl) rfl (fun c => rfl) (fun c => rfl) (fun c => rfl) ?_)
      | (refine DrC.store e tab_ok rfl (fun c => rfl) (fun c => rfl) rfl (fun c => rfl) (fun c => rfl) (fun c => rfl) (fun c => rfl) (fun c => rfl) (fun c => rfl) rfl ?_)
    )
  refine DrC.append 11 e tab_ok rfl (fun c => rfl) (fun c => rfl) (fun c => rfl) rfl rfl rfl (fun _ => .sl (ints s)) rfl (ints_cells s) (by simp; omega) (by simp; omega) rfl rfl (ints_ok 0 s) rfl ?_
  refine DrC.row 12 e tab_ok rfl rfl (fun c => rfl) rfl rfl rfl ?_
  repeat (
    first
      | (refine DrC.v rfl (fun c _ => VStep.ev e tab_ok rfl rfl ?_) (fun c => rfl) ?_; (focus (first | assumption | with_reducible trivial | rfl | (simp; omega) | (simp [in64]; omega) | (simp [*]; done))))
      | (refine DrC.load e tab_ok rfl (fun c => rfl) rfl (fun c => rfl) (fun c => rfl) (fun c => rfl) ?_)
      | (refine DrC.store e tab_ok rfl (fun c => rfl) (fun c => rfl) rfl (fun c => rfl) (fun c => rfl) (fun c => rfl) (fun c => rfl) (fun c => rfl) (fun c => rfl) rfl ?_)
    )
  refine DrC.append 13 e tab_ok rfl (fun c => rfl) (fun c => rfl) (fun c => rfl) rfl rfl rfl (fun _ => .sl (ints s)) rfl (ints_cells s) (by simp; omega) (by simp; omega) rfl rfl (ints_ok 0 s) rfl ?_
  repeat (
    first
      | (refine DrC.v rfl (fun c _ => VStep.ev e tab_ok rfl rfl ?_) (fun c => rfl) ?_; (focus (first | assumption | with_reducible trivial | rfl | (simp; omega) | (simp [in64]; omega) | (simp [*]; done))))
      | (refine DrC.load e tab_ok rfl (fun c => rfl) rfl (fun c => rfl) (fun c => rfl) (fun c => rfl) ?_)
      | (refine DrC.store e tab_ok rfl (fun c => rfl) (fun c => rfl) rfl (fun c => rfl) (fun c => rfl) (fun c => rfl) (fun c => rfl) (fun c => rfl) (fun c => rfl) rfl ?_)
    )
  refine DrC.box 14 e tab_ok rfl rfl (fun c => rfl) rfl rfl (fun c => rfl) (fun c => rfl) ?_
  repeat (
    first
      | (refine DrC.v rfl (fun c _ => VStep.ev e tab_ok rfl rfl ?_) (fun c => rfl) ?_; (focus (first | assumption | with_reducible trivial | rfl | (simp; omega) | (simp [in64]; omega) | (simp [*]; done))))
      | (refine DrC.load e tab_ok rfl (fun c => rfl) rfl (fun c => rfl) (fun c => rfl) (fun c => rfl) ?_)
      | (refine DrC.store e tab_ok rfl (fun c => rfl) (fun c => rfl) rfl (fun c => rfl) (fun c => rfl) (fun c => rfl) (fun c => rfl) (fun c => rfl) (fun c => rfl) rfl ?_)
    )
  refine DrC.fin e rfl ?_ (fun c => rfl) rfl rfl ?_ ?_ (fun cp => ?_)
  (focus (intro c; kernel_rfl))
  (focus (repeat' (first | exact True.intro | (refine And.intro ?_ ?_) | rfl | assumption | exact okRow _)))
  (focus (repeat' (first | exact True.intro | (refine And.intro (fun c C => ?_) ?_)) <;> (repeat' (first | exact All2.nil | (refine All2.cons ⟨rfl, ?_⟩ ?_) | exact Or.inr rfl | (refine Or.inl ?_; kernel_rfl)))))
  dsimp only [tmS, hpS, tput, effH]
  refine AWP.freezeF (id := 11) (ints s) rfl ?_ rfl rfl ?_ ?_ ?_
  (focus (rfl))
  (focus (first | (simp [lenFT, lenF, lenF.go, strip]; done) ))
  (focus (first | (simp [lenFH, lenF, lenF.go, strip, adel, Nat.beq]; done) ))
  refine AWP.freezeF (id := 13) (ints s) rfl ?_ rfl rfl ?_ ?_ ?_
  (focus (rfl))
  (focus (first | (simp [lenFT, lenF, lenF.go, strip, Nat.beq, frzF]; done) ))
  (focus (first | (simp [lenFH, lenF, lenF.go, strip, Nat.beq, frzF]; done) ))
  refine AWP.runL e tab_ok L5 300 rfl (by first | trivial | (simp [in64] <;> omega)) ?_
  repeat (
    first
      | (refine AWP.askT rfl ?_; (first | (refine Told.t rfl ?_) | (refine Told.f rfl ?_) | (refine Told.t ?_ ?_; (focus (first | assumption | (simp; omega) | (simp [*]; done)); done)) | (refine Told.f ?_ ?_; (focus (first | assumption | (simp; omega) | (simp [*]; done)); done))); refine AWP.runL e tab_ok L5 300 rfl (by first | trivial | (simp [in64] <;> omega)) ?_)
      | (refine AWP.callQ e rfl rfl ?_; (first | refine CallQ.mk (hS) rfl rfl ?_ | refine CallQ.mk (hG) rfl rfl ?_ | refine CallQ.mk (hB) rfl rfl ?_ | refine CallQ.mk (hT) rfl rfl ?_ | refine CallQ.mk (alive_eff) rfl rfl ?_ | refine CallQ.mk (h1) rfl rfl ?_ | refine CallQ.mk (h2) rfl rfl ?_ | refine CallQ.mk (h3) rfl rfl ?_); refine AWP.runL e tab_ok L5 300 rfl (by first | trivial | (simp [in64] <;> omega)) ?_)
    )
  refine AWP.ret e tab_ok rfl ?_
  rw [hP]
  all_goals first | rfl | (simp [strip]; done)


set_option maxRecDepth 100000 in
theorem keeps_args (l : List SV) (h : Args tab 9 [22, 22, 3, 2] l) : Eff Try.prog 5 l [] 0 (fun r _ _ => r = .b true) := by
  obtain ⟨_, _, rfl, ⟨ys, rfl, hl1, he1⟩, _, _, rfl, ⟨zs, rfl, hl2, he2⟩, _, _, rfl, ⟨at_, rfl, _, _⟩, _, _, rfl, ⟨v, rfl, _, _⟩, rfl⟩ := h
  obtain ⟨s0, rfl, _⟩ := ints_of (T := tab) (t := 2) rfl rfl ys he1
  obtain ⟨o0, rfl, _⟩ := ints_of (T := tab) (t := 2) rfl rfl zs he2
  have hs0 : s0.length ≤ 9223372036854775807 := by simpa using hl1
  have ho0 : o0.length ≤ 9223372036854775807 := by simpa using hl2
  obtain ⟨s, hs⟩ : ∃ s, s = s0.take 16 := ⟨_, rfl⟩
  obtain ⟨o, ho⟩ : ∃ s, s = o0.take 16 := ⟨_, rfl⟩
  have ls : s.length ≤ 16 := by rw [hs]; simp; omega
  have lo : o.length ≤ 16 := by rw [ho]; simp; omega
  by_cases hn : s = []
  · exact keeps_none s0 o0 s o at_ v hs0 ho0 hs ho ls lo hn
  have hn : 1 ≤ s.length := by
    cases s with
    | nil => exact absurd rfl hn
    | cons => simp
  have hr : rightG s s 0 = true := by unfold rightG; refine decide_eq_true ?_; omega
  by_cases h1 : 0 ≤ at_ ∧ at_ < s.length
  · obtain ⟨n, hi⟩ : ∃ n : Nat, at_ = n := ⟨at_.toNat, by omega⟩
    by_cases h2 : o.length = s.length
    · exact keeps_c s0 o0 s o at_ v hs0 ho0 hs ho ls lo hn hr n hi (by omega) h2
    · exact keeps_d s0 o0 s o at_ v hs0 ho0 hs ho ls lo hn hr n hi (by omega) h2
  · by_cases h2 : o.length = s.length
    · exact keeps_a s0 o0 s o at_ v hs0 ho0 hs ho ls lo hn hr h1 h2
    · exact keeps_b s0 o0 s o at_ v hs0 ho0 hs ho ls lo hn hr h1 h2

end Go.Proofs.Ytkilkilejnaflaa
