import Derived.Test.YtlmakgadjjpleaaF6
open Go Go.Proofs Go.Sy
namespace Go.Proofs.Ytlmakgadjjpleaa

set_option maxRecDepth 100000 in
theorem steps_bad (k m x mn mx ev fr old cnt v : Int) (l : List Int) (hl : l.length ≤ 9223372036854775807) (hright : rightB k mn mx ev fr cnt = false) : Eff Try.prog 3 [.agg (cells k m x mn mx ev fr old cnt), .i v, .d (.sl 1 (ints l))] [] 0 (fun r _ _ => r = .b true) := by
  have hR := right_eff k m x mn mx ev fr old cnt
  have hR' := refRight_eff k m x mn mx ev fr old cnt
  refine eff_of Try.func3 rfl rfl rfl fun cx e hP => ?_
  refine AWP.run e tab_ok 300 rfl (by first | trivial | (simp [in64] <;> omega)) ?_
  obtain ⟨l', hl'⟩ : ∃ l', l' = l.take 40 := ⟨_, rfl⟩
  have h40 : l'.length ≤ 40 := by rw [hl']; simp; omega
  have hcut : List.drop ((none : Option Int).getD 0).toNat (List.take ((some (if 40 < ((ints l).length : Int) then 40 else ((ints l).length : Int))).getD ((ints l).length : Int)).toNat (ints l)) = ints l' := by
    rw [cut_a 40 (ints l) (by omega), hl']; exact List.map_take.symm
  refine AWP.less e (tm := [(23, .i v), (22, .agg (cells k m x mn mx ev fr old cnt)), (2, .d (.sl 1 (ints l'))), (1, .i v), (3, .ptr 0 0), (6, .b false)]) (hp := [(0, .box (cells k m x mn mx ev fr old cnt))]) (nx := 1) ?_ ?_ ?_ ?_ ?_ ?_
  · exact ⟨rfl, rfl, congrArg (fun z => some (SV.d (.sl 1 z))) hcut, rfl, rfl, rfl, trivial⟩
  · exact ⟨rfl, trivial⟩
  · rfl
  · exact ⟨rfl, rfl, trivial⟩
  · rfl
  rw [hright] at hR hR'
  refine AWP.call e (passes_bad k m x mn mx ev fr old cnt v hright) rfl [] (.cons (.refl _) (.cons (.refl _) .nil)) rfl rfl ?_
  rintro _ _ _ rfl
  refine ⟨rfl, .inl rfl, ?_⟩
  refine AWP.run e tab_ok 300 rfl (by first | trivial | (simp [in64] <;> omega)) ?_
  refine AWP.call e (step_bad k m x mn mx ev fr old cnt v hright) rfl [] (.cons (.refl _) (.cons (.refl _) .nil)) rfl rfl ?_
  rintro _ _ _ rfl
  refine ⟨rfl, .inl rfl, ?_⟩
  refine AWP.run e tab_ok 300 rfl (by first | trivial | (simp [in64] <;> omega)) ?_
  refine AWP.call e (run_bad k m x mn mx ev fr old cnt l' hright) rfl [] (.cons (.refl _) (.cons (.refl _) .nil)) rfl rfl ?_
  rintro _ _ _ rfl
  refine ⟨rfl, .inl rfl, ?_⟩
  refine AWP.run e tab_ok 300 rfl (by first | trivial | (simp [in64] <;> omega)) ?_
  refine AWP.dr ?_
  repeat (
    first
      | (refine Dr.step rfl (VStep.ev e tab_ok rfl rfl ?_) ?_; (focus (first | assumption | with_reducible trivial | rfl | (simp; omega) | (simp [*]; done))))
      | (refine Dr.step rfl (VStep.go rfl (VStep.ev e tab_ok rfl rfl ?_)) ?_; (focus (first | assumption | with_reducible trivial | rfl | (simp; omega) | (simp [*]; done))))
      | (refine Dr.step rfl (VStep.goA rfl ?_ (VStep.ev e tab_ok rfl rfl ?_)) ?_; (focus (first | assumption | with_reducible trivial | rfl | (simp; omega) | (simp [*]; done))); (focus (first | assumption | with_reducible trivial | rfl | (simp; omega) | (simp [*]; done))))
      | refine Dr.step rfl (VStep.not e rfl rfl rfl) ?_
      | (refine Dr.step rfl (VStep.notA e rfl rfl ?_) ?_; (focus (first | assumption | with_reducible trivial | rfl | (simp; omega) | (simp [*]; done))))
      | refine Dr.step rfl (VStep.un e rfl rfl) ?_
      | (refine Dr.step rfl (VStep.pickA e rfl rfl (v := true) ?_ rfl) ?_; (focus (first | assumption | with_reducible trivial | rfl | (simp; omega) | (simp [*]; done))))
      | (refine Dr.step rfl (VStep.pickA e rfl rfl (v := false) ?_ rfl) ?_; (focus (first | assumption | with_reducible trivial | rfl | (simp; omega) | (simp [*]; done))))
    )
  refine Dr.step rfl (VStep.call e hR rfl [] (.cons (.refl _) .nil) rfl rfl rfl (.inl rfl)) ?_
  repeat (
    first
      | (refine Dr.step rfl (VStep.ev e tab_ok rfl rfl ?_) ?_; (focus (first | assumption | with_reducible trivial | rfl | (simp; omega) | (simp [*]; done))))
      | (refine Dr.step rfl (VStep.go rfl (VStep.ev e tab_ok rfl rfl ?_)) ?_; (focus (first | assumption | with_reducible trivial | rfl | (simp; omega) | (simp [*]; done))))
      | (refine Dr.step rfl (VStep.goA rfl ?_ (VStep.ev e tab_ok rfl rfl ?_)) ?_; (focus (first | assumption | with_reducible trivial | rfl | (simp; omega) | (simp [*]; done))); (focus (first | assumption | with_reducible trivial | rfl | (simp; omega) | (simp [*]; done))))
      | refine Dr.step rfl (VStep.not e rfl rfl rfl) ?_
      | (refine Dr.step rfl (VStep.notA e rfl rfl ?_) ?_; (focus (first | assumption | with_reducible trivial | rfl | (simp; omega) | (simp [*]; done))))
      | refine Dr.step rfl (VStep.un e rfl rfl) ?_
      | (refine Dr.step rfl (VStep.pickA e rfl rfl (v := true) ?_ rfl) ?_; (focus (first | assumption | with_reducible trivial | rfl | (simp; omega) | (simp [*]; done))))
      | (refine Dr.step rfl (VStep.pickA e rfl rfl (v := false) ?_ rfl) ?_; (focus (first | assumption | with_reducible trivial | rfl | (simp; omega) | (simp [*]; done))))
    )
  refine Dr.step rfl (VStep.call e hR' rfl [] (.cons (.refl _) .nil) rfl rfl rfl (.inl rfl)) ?_
  repeat (
    first
      | (refine Dr.step rfl (VStep.ev e tab_ok rfl rfl ?_) ?_; (focus (first | assumption | with_reducible trivial | rfl | (simp; omega) | (simp [*]; done))))
      | (refine Dr.step rfl (VStep.go rfl (VStep.ev e tab_ok rfl rfl ?_)) ?_; (focus (first | assumption | with_reducible trivial | rfl | (simp; omega) | (simp [*]; done))))
      | (refine Dr.step rfl (VStep.goA rfl ?_ (VStep.ev e tab_ok rfl rfl ?_)) ?_; (focus (first | assumption | with_reducible trivial | rfl | (simp; omega) | (simp [*]; done))); (focus (first | assumption | with_reducible trivial | rfl | (simp; omega) | (simp [*]; done))))
      | refine Dr.step rfl (VStep.not e rfl rfl rfl) ?_
      | (refine Dr.step rfl (VStep.notA e rfl rfl ?_) ?_; (focus (first | assumption | with_reducible trivial | rfl | (simp; omega) | (simp [*]; done))))
      | refine Dr.step rfl (VStep.un e rfl rfl) ?_
      | (refine Dr.step rfl (VStep.pickA e rfl rfl (v := true) ?_ rfl) ?_; (focus (first | assumption | with_reducible trivial | rfl | (simp; omega) | (simp [*]; done))))
      | (refine Dr.step rfl (VStep.pickA e rfl rfl (v := false) ?_ rfl) ?_; (focus (first | assumption | with_reducible trivial | rfl | (simp; omega) | (simp [*]; done))))
    )
  refine Dr.step rfl (VStep.goA rfl rfl (VStep.call e alive_eff rfl [] .nil rfl rfl rfl (.inl rfl))) ?_
  repeat (
    first
      | (refine Dr.step rfl (VStep.ev e tab_ok rfl rfl ?_) ?_; (focus (first | assumption | with_reducible trivial | rfl | (simp; omega) | (simp [*]; done))))
      | (refine Dr.step rfl (VStep.go rfl (VStep.ev e tab_ok rfl rfl ?_)) ?_; (focus (first | assumption | with_reducible trivial | rfl | (simp; omega) | (simp [*]; done))))
      | (refine Dr.step rfl (VStep.goA rfl ?_ (VStep.ev e tab_ok rfl rfl ?_)) ?_; (focus (first | assumption | with_reducible trivial | rfl | (simp; omega) | (simp [*]; done))); (focus (first | assumption | with_reducible trivial | rfl | (simp; omega) | (simp [*]; done))))
      | refine Dr.step rfl (VStep.not e rfl rfl rfl) ?_
      | (refine Dr.step rfl (VStep.notA e rfl rfl ?_) ?_; (focus (first | assumption | with_reducible trivial | rfl | (simp; omega) | (simp [*]; done))))
      | refine Dr.step rfl (VStep.un e rfl rfl) ?_
      | (refine Dr.step rfl (VStep.pickA e rfl rfl (v := true) ?_ rfl) ?_; (focus (first | assumption | with_reducible trivial | rfl | (simp; omega) | (simp [*]; done))))
      | (refine Dr.step rfl (VStep.pickA e rfl rfl (v := false) ?_ rfl) ?_; (focus (first | assumption | with_reducible trivial | rfl | (simp; omega) | (simp [*]; done))))
    )
  refine Dr.fin e rfl rfl (by kernel_rfl) ?_
  refine AWP.run e tab_ok 300 rfl (by first | trivial | (simp [in64] <;> omega)) ?_
  repeat (
    first
      | (refine AWP.guard rfl true ?_ ?_; (focus (first | rfl | (simp; omega) | (simp [*]; done)); done); refine AWP.run e tab_ok 300 rfl (by first | trivial | (simp [in64] <;> omega)) ?_)
      | (refine AWP.guard rfl false ?_ ?_; (focus (first | rfl | (simp; omega) | (simp [*]; done)); done); refine AWP.run e tab_ok 300 rfl (by first | trivial | (simp [in64] <;> omega)) ?_)
      | (refine AWP.cond rfl true ?_ ?_; (focus (first | rfl | (simp; omega) | (simp [*]; done)); done); refine AWP.run e tab_ok 300 rfl (by first | trivial | (simp [in64] <;> omega)) ?_)
      | (refine AWP.cond rfl false ?_ ?_; (focus (first | rfl | (simp; omega) | (simp [*]; done)); done); refine AWP.run e tab_ok 300 rfl (by first | trivial | (simp [in64] <;> omega)) ?_)
      | (refine AWP.pick rfl true ?_ ?_; (focus (first | rfl | (simp; omega) | (simp [*]; done)); done); refine AWP.run e tab_ok 300 rfl (by first | trivial | (simp [in64] <;> omega)) ?_)
      | (refine AWP.pick rfl false ?_ ?_; (focus (first | rfl | (simp; omega) | (simp [*]; done)); done); refine AWP.run e tab_ok 300 rfl (by first | trivial | (simp [in64] <;> omega)) ?_)
    )
  refine AWP.call e (hR') rfl [] (.cons (.refl _) .nil) rfl rfl ?_
  rintro _ _ _ rfl
  refine ⟨rfl, .inl rfl, ?_⟩
  refine AWP.run e tab_ok 300 rfl (by first | trivial | (simp [in64] <;> omega)) ?_
  repeat (
    first
      | (refine AWP.guard rfl true ?_ ?_; (focus (first | rfl | (simp; omega) | (simp [*]; done)); done); refine AWP.run e tab_ok 300 rfl (by first | trivial | (simp [in64] <;> omega)) ?_)
      | (refine AWP.guard rfl false ?_ ?_; (focus (first | rfl | (simp; omega) | (simp [*]; done)); done); refine AWP.run e tab_ok 300 rfl (by first | trivial | (simp [in64] <;> omega)) ?_)
      | (refine AWP.cond rfl true ?_ ?_; (focus (first | rfl | (simp; omega) | (simp [*]; done)); done); refine AWP.run e tab_ok 300 rfl (by first | trivial | (simp [in64] <;> omega)) ?_)
      | (refine AWP.cond rfl false ?_ ?_; (focus (first | rfl | (simp; omega) | (simp [*]; done)); done); refine AWP.run e tab_ok 300 rfl (by first | trivial | (simp [in64] <;> omega)) ?_)
      | (refine AWP.pick rfl true ?_ ?_; (focus (first | rfl | (simp; omega) | (simp [*]; done)); done); refine AWP.run e tab_ok 300 rfl (by first | trivial | (simp [in64] <;> omega)) ?_)
      | (refine AWP.pick rfl false ?_ ?_; (focus (first | rfl | (simp; omega) | (simp [*]; done)); done); refine AWP.run e tab_ok 300 rfl (by first | trivial | (simp [in64] <;> omega)) ?_)
    )
  refine AWP.eq_agg e tab_ok rfl rfl rfl (.inl ⟨rfl, rfl⟩) (by kernel_rfl) 5 (by omega) rfl (by kernel_rfl) rfl rfl rfl rfl rfl rfl rfl ?_
  refine AWP.run e tab_ok 300 rfl (by first | trivial | (simp [in64] <;> omega)) ?_
  repeat (
    first
      | (refine AWP.guard rfl true ?_ ?_; (focus (first | rfl | (simp; omega) | (simp [*]; done)); done); refine AWP.run e tab_ok 300 rfl (by first | trivial | (simp [in64] <;> omega)) ?_)
      | (refine AWP.guard rfl false ?_ ?_; (focus (first | rfl | (simp; omega) | (simp [*]; done)); done); refine AWP.run e tab_ok 300 rfl (by first | trivial | (simp [in64] <;> omega)) ?_)
      | (refine AWP.cond rfl true ?_ ?_; (focus (first | rfl | (simp; omega) | (simp [*]; done)); done); refine AWP.run e tab_ok 300 rfl (by first | trivial | (simp [in64] <;> omega)) ?_)
      | (refine AWP.cond rfl false ?_ ?_; (focus (first | rfl | (simp; omega) | (simp [*]; done)); done); refine AWP.run e tab_ok 300 rfl (by first | trivial | (simp [in64] <;> omega)) ?_)
      | (refine AWP.pick rfl true ?_ ?_; (focus (first | rfl | (simp; omega) | (simp [*]; done)); done); refine AWP.run e tab_ok 300 rfl (by first | trivial | (simp [in64] <;> omega)) ?_)
      | (refine AWP.pick rfl false ?_ ?_; (focus (first | rfl | (simp; omega) | (simp [*]; done)); done); refine AWP.run e tab_ok 300 rfl (by first | trivial | (simp [in64] <;> omega)) ?_)
    )
  refine AWP.ret e tab_ok rfl ?_
  rw [hP]
  first | rfl | (simp [strip]; done)

set_option maxRecDepth 100000 in
theorem steps_0 (k m x mn mx ev fr old cnt v : Int) (l : List Int) (hl : l.length ≤ 9223372036854775807) (hright : rightB k mn mx ev fr cnt = true) (hfull : cnt = 1099511627776) (hlate : cnt + (l.take 40).length ≤ 1099511627776) : Eff Try.prog 3 [.agg (cells k m x mn mx ev fr old cnt), .i v, .d (.sl 1 (ints l))] [] 0 (fun r _ _ => r = .b true) := by
  have hR := right_eff k m x mn mx ev fr old cnt
  have hR' := refRight_eff k m x mn mx ev fr old cnt
  refine eff_of Try.func3 rfl rfl rfl fun cx e hP => ?_
  refine AWP.run e tab_ok 300 rfl (by first | trivial | (simp [in64] <;> omega)) ?_
  obtain ⟨l', hl'⟩ : ∃ l', l' = l.take 40 := ⟨_, rfl⟩
  have h40 : l'.length ≤ 40 := by rw [hl']; simp; omega
  have hcut : List.drop ((none : Option Int).getD 0).toNat (List.take ((some (if 40 < ((ints l).length : Int) then 40 else ((ints l).length : Int))).getD ((ints l).length : Int)).toNat (ints l)) = ints l' := by
    rw [cut_a 40 (ints l) (by omega), hl']; exact List.map_take.symm
  refine AWP.less e (tm := [(23, .i v), (22, .agg (cells k m x mn mx ev fr old cnt)), (2, .d (.sl 1 (ints l'))), (1, .i v), (3, .ptr 0 0), (6, .b false)]) (hp := [(0, .box (cells k m x mn mx ev fr old cnt))]) (nx := 1) ?_ ?_ ?_ ?_ ?_ ?_
  · exact ⟨rfl, rfl, congrArg (fun z => some (SV.d (.sl 1 z))) hcut, rfl, rfl, rfl, trivial⟩
  · exact ⟨rfl, trivial⟩
  · rfl
  · exact ⟨rfl, rfl, trivial⟩
  · rfl
  rw [← hl'] at hlate
  rw [hright] at hR hR'
  have hr : 1 ≤ k ∧ k ≤ 8 ∧ mn ≤ mx ∧ 0 ≤ cnt ∧ cnt ≤ 1099511627776 ∧ (k = 8 → 1 ≤ ev ∧ ev ≤ 1000000 ∧ 0 ≤ fr ∧ fr < ev) := by
    have := hright; unfold rightB at this; exact of_decide_eq_true this
  refine AWP.call e (passes_ok k m x mn mx ev fr old cnt v hright) rfl [] (.cons (.refl _) (.cons (.refl _) .nil)) rfl rfl ?_
  rintro _ _ _ rfl
  refine ⟨rfl, .inl rfl, ?_⟩
  refine AWP.run e tab_ok 300 rfl (by first | trivial | (simp [in64] <;> omega)) ?_
  refine AWP.call e (step_late k m x mn mx ev fr old cnt v hright hfull) rfl [] (.cons (.refl _) (.cons (.refl _) .nil)) rfl rfl ?_
  rintro _ _ _ rfl
  refine ⟨rfl, .inl rfl, ?_⟩
  refine AWP.run e tab_ok 300 rfl (by first | trivial | (simp [in64] <;> omega)) ?_
  refine AWP.call e (run_ok k m x mn mx ev fr old cnt l' hright hlate) rfl [] (.cons (.refl _) (.cons (.refl _) .nil)) rfl rfl ?_
  rintro _ _ _ rfl
  refine ⟨rfl, .inl rfl, ?_⟩
  refine AWP.run e tab_ok 300 rfl (by first | trivial | (simp [in64] <;> omega)) ?_
  refine AWP.dr ?_
  repeat (
    first
      | (refine Dr.step rfl (VStep.ev e tab_ok rfl rfl ?_) ?_; (focus (first | assumption | with_reducible trivial | rfl | (simp; omega) | (simp [*]; done))))
      | (refine Dr.step rfl (VStep.go rfl (VStep.ev e tab_ok rfl rfl ?_)) ?_; (focus (first | assumption | with_reducible trivial | rfl | (simp; omega) | (simp [*]; done))))
      | (refine Dr.step rfl (VStep.goA rfl ?_ (VStep.ev e tab_ok rfl rfl ?_)) ?_; (focus (first | assumption | with_reducible trivial | rfl | (simp; omega) | (simp [*]; done))); (focus (first | assumption | with_reducible trivial | rfl | (simp; omega) | (simp [*]; done))))
      | refine Dr.step rfl (VStep.not e rfl rfl rfl) ?_
      | (refine Dr.step rfl (VStep.notA e rfl rfl ?_) ?_; (focus (first | assumption | with_reducible trivial | rfl | (simp; omega) | (simp [*]; done))))
      | refine Dr.step rfl (VStep.un e rfl rfl) ?_
      | (refine Dr.step rfl (VStep.pickA e rfl rfl (v := true) ?_ rfl) ?_; (focus (first | assumption | with_reducible trivial | rfl | (simp; omega) | (simp [*]; done))))
      | (refine Dr.step rfl (VStep.pickA e rfl rfl (v := false) ?_ rfl) ?_; (focus (first | assumption | with_reducible trivial | rfl | (simp; omega) | (simp [*]; done))))
    )
  refine Dr.step rfl (VStep.call e hR rfl [] (.cons (.refl _) .nil) rfl rfl rfl (.inl rfl)) ?_
  repeat (
    first
      | (refine Dr.step rfl (VStep.ev e tab_ok rfl rfl ?_) ?_; (focus (first | assumption | with_reducible trivial | rfl | (simp; omega) | (simp [*]; done))))
      | (refine Dr.step rfl (VStep.go rfl (VStep.ev e tab_ok rfl rfl ?_)) ?_; (focus (first | assumption | with_reducible trivial | rfl | (simp; omega) | (simp [*]; done))))
      | (refine Dr.step rfl (VStep.goA rfl ?_ (VStep.ev e tab_ok rfl rfl ?_)) ?_; (focus (first | assumption | with_reducible trivial | rfl | (simp; omega) | (simp [*]; done))); (focus (first | assumption | with_reducible trivial | rfl | (simp; omega) | (simp [*]; done))))
      | refine Dr.step rfl (VStep.not e rfl rfl rfl) ?_
      | (refine Dr.step rfl (VStep.notA e rfl rfl ?_) ?_; (focus (first | assumption | with_reducible trivial | rfl | (simp; omega) | (simp [*]; done))))
      | refine Dr.step rfl (VStep.un e rfl rfl) ?_
      | (refine Dr.step rfl (VStep.pickA e rfl rfl (v := true) ?_ rfl) ?_; (focus (first | assumption | with_reducible trivial | rfl | (simp; omega) | (simp [*]; done))))
      | (refine Dr.step rfl (VStep.pickA e rfl rfl (v := false) ?_ rfl) ?_; (focus (first | assumption | with_reducible trivial | rfl | (simp; omega) | (simp [*]; done))))
    )
  refine Dr.step rfl (VStep.call e hR' rfl [] (.cons (.refl _) .nil) rfl rfl rfl (.inl rfl)) ?_
  repeat (
    first
      | (refine Dr.step rfl (VStep.ev e tab_ok rfl rfl ?_) ?_; (focus (first | assumption | with_reducible trivial | rfl | (simp; omega) | (simp [*]; done))))
      | (refine Dr.step rfl (VStep.go rfl (VStep.ev e tab_ok rfl rfl ?_)) ?_; (focus (first | assumption | with_reducible trivial | rfl | (simp; omega) | (simp [*]; done))))
      | (refine Dr.step rfl (VStep.goA rfl ?_ (VStep.ev e tab_ok rfl rfl ?_)) ?_; (focus (first | assumption | with_reducible trivial | rfl | (simp; omega) | (simp [*]; done))); (focus (first | assumption | with_reducible trivial | rfl | (simp; omega) | (simp [*]; done))))
      | refine Dr.step rfl (VStep.not e rfl rfl rfl) ?_
      | (refine Dr.step rfl (VStep.notA e rfl rfl ?_) ?_; (focus (first | assumption | with_reducible trivial | rfl | (simp; omega) | (simp [*]; done))))
      | refine Dr.step rfl (VStep.un e rfl rfl) ?_
      | (refine Dr.step rfl (VStep.pickA e rfl rfl (v := true) ?_ rfl) ?_; (focus (first | assumption | with_reducible trivial | rfl | (simp; omega) | (simp [*]; done))))
      | (refine Dr.step rfl (VStep.pickA e rfl rfl (v := false) ?_ rfl) ?_; (focus (first | assumption | with_reducible trivial | rfl | (simp; omega) | (simp [*]; done))))
    )
  refine Dr.step rfl (VStep.goA rfl rfl (VStep.call e alive_eff rfl [] .nil rfl rfl rfl (.inl rfl))) ?_
  repeat (
    first
      | (refine Dr.step rfl (VStep.ev e tab_ok rfl rfl ?_) ?_; (focus (first | assumption | with_reducible trivial | rfl | (simp; omega) | (simp [*]; done))))
      | (refine Dr.step rfl (VStep.go rfl (VStep.ev e tab_ok rfl rfl ?_)) ?_; (focus (first | assumption | with_reducible trivial | rfl | (simp; omega) | (simp [*]; done))))
      | (refine Dr.step rfl (VStep.goA rfl ?_ (VStep.ev e tab_ok rfl rfl ?_)) ?_; (focus (first | assumption | with_reducible trivial | rfl | (simp; omega) | (simp [*]; done))); (focus (first | assumption | with_reducible trivial | rfl | (simp; omega) | (simp [*]; done))))
      | refine Dr.step rfl (VStep.not e rfl rfl rfl) ?_
      | (refine Dr.step rfl (VStep.notA e rfl rfl ?_) ?_; (focus (first | assumption | with_reducible trivial | rfl | (simp; omega) | (simp [*]; done))))
      | refine Dr.step rfl (VStep.un e rfl rfl) ?_
      | (refine Dr.step rfl (VStep.pickA e rfl rfl (v := true) ?_ rfl) ?_; (focus (first | assumption | with_reducible trivial | rfl | (simp; omega) | (simp [*]; done))))
      | (refine Dr.step rfl (VStep.pickA e rfl rfl (v := false) ?_ rfl) ?_; (focus (first | assumption | with_reducible trivial | rfl | (simp; omega) | (simp [*]; done))))
    )
  refine Dr.fin e rfl rfl (by kernel_rfl) ?_
  refine AWP.run e tab_ok 300 rfl (by first | trivial | (simp [in64] <;> omega)) ?_
  repeat (
    first
      | (refine AWP.guard rfl true ?_ ?_; (focus (first | rfl | (simp; omega) | (simp [*]; done)); done); refine AWP.run e tab_ok 300 rfl (by first | trivial | (simp [in64] <;> omega)) ?_)
      | (refine AWP.guard rfl false ?_ ?_; (focus (first | rfl | (simp; omega) | (simp [*]; done)); done); refine AWP.run e tab_ok 300 rfl (by first | trivial | (simp [in64] <;> omega)) ?_)
      | (refine AWP.cond rfl true ?_ ?_; (focus (first | rfl | (simp; omega) | (simp [*]; done)); done); refine AWP.run e tab_ok 300 rfl (by first | trivial | (simp [in64] <;> omega)) ?_)
      | (refine AWP.cond rfl false ?_ ?_; (focus (first | rfl | (simp; omega) | (simp [*]; done)); done); refine AWP.run e tab_ok 300 rfl (by first | trivial | (simp [in64] <;> omega)) ?_)
      | (refine AWP.pick rfl true ?_ ?_; (focus (first | rfl | (simp; omega) | (simp [*]; done)); done); refine AWP.run e tab_ok 300 rfl (by first | trivial | (simp [in64] <;> omega)) ?_)
      | (refine AWP.pick rfl false ?_ ?_; (focus (first | rfl | (simp; omega) | (simp [*]; done)); done); refine AWP.run e tab_ok 300 rfl (by first | trivial | (simp [in64] <;> omega)) ?_)
    )
  refine AWP.call e (hR') rfl [] (.cons (.refl _) .nil) rfl rfl ?_
  rintro _ _ _ rfl
  refine ⟨rfl, .inl rfl, ?_⟩
  refine AWP.run e tab_ok 300 rfl (by first | trivial | (simp [in64] <;> omega)) ?_
  repeat (
    first
      | (refine AWP.guard rfl true ?_ ?_; (focus (first | rfl | (simp; omega) | (simp [*]; done)); done); refine AWP.run e tab_ok 300 rfl (by first | trivial | (simp [in64] <;> omega)) ?_)
      | (refine AWP.guard rfl false ?_ ?_; (focus (first | rfl | (simp; omega) | (simp [*]; done)); done); refine AWP.run e tab_ok 300 rfl (by first | trivial | (simp [in64] <;> omega)) ?_)
      | (refine AWP.cond rfl true ?_ ?_; (focus (first | rfl | (simp; omega) | (simp [*]; done)); done); refine AWP.run e tab_ok 300 rfl (by first | trivial | (simp [in64] <;> omega)) ?_)
      | (refine AWP.cond rfl false ?_ ?_; (focus (first | rfl | (simp; omega) | (simp [*]; done)); done); refine AWP.run e tab_ok 300 rfl (by first | trivial | (simp [in64] <;> omega)) ?_)
      | (refine AWP.pick rfl true ?_ ?_; (focus (first | rfl | (simp; omega) | (simp [*]; done)); done); refine AWP.run e tab_ok 300 rfl (by first | trivial | (simp [in64] <;> omega)) ?_)
      | (refine AWP.pick rfl false ?_ ?_; (focus (first | rfl | (simp; omega) | (simp [*]; done)); done); refine AWP.run e tab_ok 300 rfl (by first | trivial | (simp [in64] <;> omega)) ?_)
    )
  refine AWP.call e (refPasses_eff k m x mn mx ev fr old cnt v hright) rfl [] (.cons (.refl _) (.cons (.refl _) .nil)) rfl rfl ?_
  rintro _ _ _ rfl
  refine ⟨rfl, .inl rfl, ?_⟩
  refine AWP.run e tab_ok 300 rfl (by first | trivial | (simp [in64] <;> omega)) ?_
  repeat (
    first
      | (refine AWP.guard rfl true ?_ ?_; (focus (first | rfl | (simp; omega) | (simp [*]; done)); done); refine AWP.run e tab_ok 300 rfl (by first | trivial | (simp [in64] <;> omega)) ?_)
      | (refine AWP.guard rfl false ?_ ?_; (focus (first | rfl | (simp; omega) | (simp [*]; done)); done); refine AWP.run e tab_ok 300 rfl (by first | trivial | (simp [in64] <;> omega)) ?_)
      | (refine AWP.cond rfl true ?_ ?_; (focus (first | rfl | (simp; omega) | (simp [*]; done)); done); refine AWP.run e tab_ok 300 rfl (by first | trivial | (simp [in64] <;> omega)) ?_)
      | (refine AWP.cond rfl false ?_ ?_; (focus (first | rfl | (simp; omega) | (simp [*]; done)); done); refine AWP.run e tab_ok 300 rfl (by first | trivial | (simp [in64] <;> omega)) ?_)
      | (refine AWP.pick rfl true ?_ ?_; (focus (first | rfl | (simp; omega) | (simp [*]; done)); done); refine AWP.run e tab_ok 300 rfl (by first | trivial | (simp [in64] <;> omega)) ?_)
      | (refine AWP.pick rfl false ?_ ?_; (focus (first | rfl | (simp; omega) | (simp [*]; done)); done); refine AWP.run e tab_ok 300 rfl (by first | trivial | (simp [in64] <;> omega)) ?_)
    )
  refine AWP.call e (refRun_ok k m x mn mx ev fr old cnt l' hright hlate) rfl [] (.cons (.refl _) (.cons (.refl _) .nil)) rfl rfl ?_
  rintro _ _ _ rfl
  refine ⟨rfl, .inl rfl, ?_⟩
  refine AWP.run e tab_ok 300 rfl (by first | trivial | (simp [in64] <;> omega)) ?_
  refine AWP.call e (same_eff (runL k m x mn mx ev fr old cnt l') (runL k m x mn mx ev fr old cnt l') (by have := runL_len k m x mn mx ev fr l' old cnt; omega)) rfl [] (.cons (.refl _) (.cons (.refl _) .nil)) rfl rfl ?_
  rintro _ _ _ rfl
  refine ⟨rfl, .inl rfl, ?_⟩
  refine AWP.run e tab_ok 300 rfl (by first | trivial | (simp [in64] <;> omega)) ?_
  repeat (
    first
      | (refine AWP.guard rfl true ?_ ?_; (focus (first | rfl | (simp; omega) | (simp [*]; done)); done); refine AWP.run e tab_ok 300 rfl (by first | trivial | (simp [in64] <;> omega)) ?_)
      | (refine AWP.guard rfl false ?_ ?_; (focus (first | rfl | (simp; omega) | (simp [*]; done)); done); refine AWP.run e tab_ok 300 rfl (by first | trivial | (simp [in64] <;> omega)) ?_)
      | (refine AWP.cond rfl true ?_ ?_; (focus (first | rfl | (simp; omega) | (simp [*]; done)); done); refine AWP.run e tab_ok 300 rfl (by first | trivial | (simp [in64] <;> omega)) ?_)
      | (refine AWP.cond rfl false ?_ ?_; (focus (first | rfl | (simp; omega) | (simp [*]; done)); done); refine AWP.run e tab_ok 300 rfl (by first | trivial | (simp [in64] <;> omega)) ?_)
      | (refine AWP.pick rfl true ?_ ?_; (focus (first | rfl | (simp; omega) | (simp [*]; done)); done); refine AWP.run e tab_ok 300 rfl (by first | trivial | (simp [in64] <;> omega)) ?_)
      | (refine AWP.pick rfl false ?_ ?_; (focus (first | rfl | (simp; omega) | (simp [*]; done)); done); refine AWP.run e tab_ok 300 rfl (by first | trivial | (simp [in64] <;> omega)) ?_)
    )
  refine AWP.run e tab_ok 300 rfl (by first | trivial | (simp [in64] <;> omega)) ?_
  repeat (
    first
      | (refine AWP.guard rfl true ?_ ?_; (focus (first | rfl | (simp; omega) | (simp [*]; done)); done); refine AWP.run e tab_ok 300 rfl (by first | trivial | (simp [in64] <;> omega)) ?_)
      | (refine AWP.guard rfl false ?_ ?_; (focus (first | rfl | (simp; omega) | (simp [*]; done)); done); refine AWP.run e tab_ok 300 rfl (by first | trivial | (simp [in64] <;> omega)) ?_)
      | (refine AWP.cond rfl true ?_ ?_; (focus (first | rfl | (simp; omega) | (simp [*]; done)); done); refine AWP.run e tab_ok 300 rfl (by first | trivial | (simp [in64] <;> omega)) ?_)
      | (refine AWP.cond rfl false ?_ ?_; (focus (first | rfl | (simp; omega) | (simp [*]; done)); done); refine AWP.run e tab_ok 300 rfl (by first | trivial | (simp [in64] <;> omega)) ?_)
      | (refine AWP.pick rfl true ?_ ?_; (focus (first | rfl | (simp; omega) | (simp [*]; done)); done); refine AWP.run e tab_ok 300 rfl (by first | trivial | (simp [in64] <;> omega)) ?_)
      | (refine AWP.pick rfl false ?_ ?_; (focus (first | rfl | (simp; omega) | (simp [*]; done)); done); refine AWP.run e tab_ok 300 rfl (by first | trivial | (simp [in64] <;> omega)) ?_)
    )
  refine AWP.eq_agg e tab_ok rfl rfl rfl (.inl ⟨rfl, rfl⟩) (by kernel_rfl) 5 (by omega) rfl (by kernel_rfl) rfl rfl rfl rfl rfl rfl rfl ?_
  refine AWP.run e tab_ok 300 rfl (by first | trivial | (simp [in64] <;> omega)) ?_
  repeat (
    first
      | (refine AWP.guard rfl true ?_ ?_; (focus (first | rfl | (simp; omega) | (simp [*]; done)); done); refine AWP.run e tab_ok 300 rfl (by first | trivial | (simp [in64] <;> omega)) ?_)
      | (refine AWP.guard rfl false ?_ ?_; (focus (first | rfl | (simp; omega) | (simp [*]; done)); done); refine AWP.run e tab_ok 300 rfl (by first | trivial | (simp [in64] <;> omega)) ?_)
      | (refine AWP.cond rfl true ?_ ?_; (focus (first | rfl | (simp; omega) | (simp [*]; done)); done); refine AWP.run e tab_ok 300 rfl (by first | trivial | (simp [in64] <;> omega)) ?_)
      | (refine AWP.cond rfl false ?_ ?_; (focus (first | rfl | (simp; omega) | (simp [*]; done)); done); refine AWP.run e tab_ok 300 rfl (by first | trivial | (simp [in64] <;> omega)) ?_)
      | (refine AWP.pick rfl true ?_ ?_; (focus (first | rfl | (simp; omega) | (simp [*]; done)); done); refine AWP.run e tab_ok 300 rfl (by first | trivial | (simp [in64] <;> omega)) ?_)
      | (refine AWP.pick rfl false ?_ ?_; (focus (first | rfl | (simp; omega) | (simp [*]; done)); done); refine AWP.run e tab_ok 300 rfl (by first | trivial | (simp [in64] <;> omega)) ?_)
    )
  refine AWP.ret e tab_ok rfl ?_
  rw [hP]
  first | rfl | (simp [strip]; done)

set_option maxRecDepth 100000 in
theorem steps_1 (k m x mn mx ev fr old cnt v : Int) (l : List Int) (hl : l.length ≤ 9223372036854775807) (hright : rightB k mn mx ev fr cnt = true) (hfull : cnt = 1099511627776) (hlate : ¬ cnt + (l.take 40).length ≤ 1099511627776) : Eff Try.prog 3 [.agg (cells k m x mn mx ev fr old cnt), .i v, .d (.sl 1 (ints l))] [] 0 (fun r _ _ => r = .b true) := by
  have hR := right_eff k m x mn mx ev fr old cnt
  have hR' := refRight_eff k m x mn mx ev fr old cnt
  refine eff_of Try.func3 rfl rfl rfl fun cx e hP => ?_
  refine AWP.run e tab_ok 300 rfl (by first | trivial | (simp [in64] <;> omega)) ?_
  obtain ⟨l', hl'⟩ : ∃ l', l' = l.take 40 := ⟨_, rfl⟩
  have h40 : l'.length ≤ 40 := by rw [hl']; simp; omega
  have hcut : List.drop ((none : Option Int).getD 0).toNat (List.take ((some (if 40 < ((ints l).length : Int) then 40 else ((ints l).length : Int))).getD ((ints l).length : Int)).toNat (ints l)) = ints l' := by
    rw [cut_a 40 (ints l) (by omega), hl']; exact List.map_take.symm
  refine AWP.less e (tm := [(23, .i v), (22, .agg (cells k m x mn mx ev fr old cnt)), (2, .d (.sl 1 (ints l'))), (1, .i v), (3, .ptr 0 0), (6, .b false)]) (hp := [(0, .box (cells k m x mn mx ev fr old cnt))]) (nx := 1) ?_ ?_ ?_ ?_ ?_ ?_
  · exact ⟨rfl, rfl, congrArg (fun z => some (SV.d (.sl 1 z))) hcut, rfl, rfl, rfl, trivial⟩
  · exact ⟨rfl, trivial⟩
  · rfl
  · exact ⟨rfl, rfl, trivial⟩
  · rfl
  rw [← hl'] at hlate
  rw [hright] at hR hR'
  have hr : 1 ≤ k ∧ k ≤ 8 ∧ mn ≤ mx ∧ 0 ≤ cnt ∧ cnt ≤ 1099511627776 ∧ (k = 8 → 1 ≤ ev ∧ ev ≤ 1000000 ∧ 0 ≤ fr ∧ fr < ev) := by
    have := hright; unfold rightB at this; exact of_decide_eq_true this
  refine AWP.call e (passes_ok k m x mn mx ev fr old cnt v hright) rfl [] (.cons (.refl _) (.cons (.refl _) .nil)) rfl rfl ?_
  rintro _ _ _ rfl
  refine ⟨rfl, .inl rfl, ?_⟩
  refine AWP.run e tab_ok 300 rfl (by first | trivial | (simp [in64] <;> omega)) ?_
  refine AWP.call e (step_late k m x mn mx ev fr old cnt v hright hfull) rfl [] (.cons (.refl _) (.cons (.refl _) .nil)) rfl rfl ?_
  rintro _ _ _ rfl
  refine ⟨rfl, .inl rfl, ?_⟩
  refine AWP.run e tab_ok 300 rfl (by first | trivial | (simp [in64] <;> omega)) ?_
  refine AWP.call e (run_late k m x mn mx ev fr old cnt l' hright (by omega) hlate) rfl [] (.cons (.refl _) (.cons (.refl _) .nil)) rfl rfl ?_
  rintro _ _ _ rfl
  refine ⟨rfl, .inl rfl, ?_⟩
  refine AWP.run e tab_ok 300 rfl (by first | trivial | (simp [in64] <;> omega)) ?_
  refine AWP.dr ?_
  repeat (
    first
      | (refine Dr.step rfl (VStep.ev e tab_ok rfl rfl ?_) ?_; (focus (first | assumption | with_reducible trivial | rfl | (simp; omega) | (simp [*]; done))))
      | (refine Dr.step rfl (VStep.go rfl (VStep.ev e tab_ok rfl rfl ?_)) ?_; (focus (first | assumption | with_reducible trivial | rfl | (simp; omega) | (simp [*]; done))))
      | (refine Dr.step rfl (VStep.goA rfl ?_ (VStep.ev e tab_ok rfl rfl ?_)) ?_; (focus (first | assumption | with_reducible trivial | rfl | (simp; omega) | (simp [*]; done))); (focus (first | assumption | with_reducible trivial | rfl | (simp; omega) | (simp [*]; done))))
      | refine Dr.step rfl (VStep.not e rfl rfl rfl) ?_
      | (refine Dr.step rfl (VStep.notA e rfl rfl ?_) ?_; (focus (first | assumption | with_reducible trivial | rfl | (simp; omega) | (simp [*]; done))))
      | refine Dr.step rfl (VStep.un e rfl rfl) ?_
      | (refine Dr.step rfl (VStep.pickA e rfl rfl (v := true) ?_ rfl) ?_; (focus (first | assumption | with_reducible trivial | rfl | (simp; omega) | (simp [*]; done))))
      | (refine Dr.step rfl (VStep.pickA e rfl rfl (v := false) ?_ rfl) ?_; (focus (first | assumption | with_reducible trivial | rfl | (simp; omega) | (simp [*]; done))))
    )
  refine Dr.step rfl (VStep.call e hR rfl [] (.cons (.refl _) .nil) rfl rfl rfl (.inl rfl)) ?_
  repeat (
    first
      | (refine Dr.step rfl (VStep.ev e tab_ok rfl rfl ?_) ?_; (focus (first | assumption | with_reducible trivial | rfl | (simp; omega) | (simp [*]; done))))
      | (refine Dr.step rfl (VStep.go rfl (VStep.ev e tab_ok rfl rfl ?_)) ?_; (focus (first | assumption | with_reducible trivial | rfl | (simp; omega) | (simp [*]; done))))
      | (refine Dr.step rfl (VStep.goA rfl ?_ (VStep.ev e tab_ok rfl rfl ?_)) ?_; (focus (first | assumption | with_reducible trivial | rfl | (simp; omega) | (simp [*]; done))); (focus (first | assumption | with_reducible trivial | rfl | (simp; omega) | (simp [*]; done))))
      | refine Dr.step rfl (VStep.not e rfl rfl rfl) ?_
      | (refine Dr.step rfl (VStep.notA e rfl rfl ?_) ?_; (focus (first | assumption | with_reducible trivial | rfl | (simp; omega) | (simp [*]; done))))
      | refine Dr.step rfl (VStep.un e rfl rfl) ?_
      | (refine Dr.step rfl (VStep.pickA e rfl rfl (v := true) ?_ rfl) ?_; (focus (first | assumption | with_reducible trivial | rfl | (simp; omega) | (simp [*]; done))))
      | (refine Dr.step rfl (VStep.pickA e rfl rfl (v := false) ?_ rfl) ?_; (focus (first | assumption | with_reducible trivial | rfl | (simp; omega) | (simp [*]; done))))
    )
  refine Dr.step rfl (VStep.call e hR' rfl [] (.cons (.refl _) .nil) rfl rfl rfl (.inl rfl)) ?_
  repeat (
    first
      | (refine Dr.step rfl (VStep.ev e tab_ok rfl rfl ?_) ?_; (focus (first | assumption | with_reducible trivial | rfl | (simp; omega) | (simp [*]; done))))
      | (refine Dr.step rfl (VStep.go rfl (VStep.ev e tab_ok rfl rfl ?_)) ?_; (focus (first | assumption | with_reducible trivial | rfl | (simp; omega) | (simp [*]; done))))
      | (refine Dr.step rfl (VStep.goA rfl ?_ (VStep.ev e tab_ok rfl rfl ?_)) ?_; (focus (first | assumption | with_reducible trivial | rfl | (simp; omega) | (simp [*]; done))); (focus (first | assumption | with_reducible trivial | rfl | (simp; omega) | (simp [*]; done))))
      | refine Dr.step rfl (VStep.not e rfl rfl rfl) ?_
      | (refine Dr.step rfl (VStep.notA e rfl rfl ?_) ?_; (focus (first | assumption | with_reducible trivial | rfl | (simp; omega) | (simp [*]; done))))
      | refine Dr.step rfl (VStep.un e rfl rfl) ?_
      | (refine Dr.step rfl (VStep.pickA e rfl rfl (v := true) ?_ rfl) ?_; (focus (first | assumption | with_reducible trivial | rfl | (simp; omega) | (simp [*]; done))))
      | (refine Dr.step rfl (VStep.pickA e rfl rfl (v := false) ?_ rfl) ?_; (focus (first | assumption | with_reducible trivial | rfl | (simp; omega) | (simp [*]; done))))
    )
  refine Dr.step rfl (VStep.goA rfl rfl (VStep.call e alive_eff rfl [] .nil rfl rfl rfl (.inl rfl))) ?_
  repeat (
    first
      | (refine Dr.step rfl (VStep.ev e tab_ok rfl rfl ?_) ?_; (focus (first | assumption | with_reducible trivial | rfl | (simp; omega) | (simp [*]; done))))
      | (refine Dr.step rfl (VStep.go rfl (VStep.ev e tab_ok rfl rfl ?_)) ?_; (focus (first | assumption | with_reducible trivial | rfl | (simp; omega) | (simp [*]; done))))
      | (refine Dr.step rfl (VStep.goA rfl ?_ (VStep.ev e tab_ok rfl rfl ?_)) ?_; (focus (first | assumption | with_reducible trivial | rfl | (simp; omega) | (simp [*]; done))); (focus (first | assumption | with_reducible trivial | rfl | (simp; omega) | (simp [*]; done))))
      | refine Dr.step rfl (VStep.not e rfl rfl rfl) ?_
      | (refine Dr.step rfl (VStep.notA e rfl rfl ?_) ?_; (focus (first | assumption | with_reducible trivial | rfl | (simp; omega) | (simp [*]; done))))
      | refine Dr.step rfl (VStep.un e rfl rfl) ?_
      | (refine Dr.step rfl (VStep.pickA e rfl rfl (v := true) ?_ rfl) ?_; (focus (first | assumption | with_reducible trivial | rfl | (simp; omega) | (simp [*]; done))))
      | (refine Dr.step rfl (VStep.pickA e rfl rfl (v := false) ?_ rfl) ?_; (focus (first | assumption | with_reducible trivial | rfl | (simp; omega) | (simp [*]; done))))
    )
  refine Dr.fin e rfl rfl (by kernel_rfl) ?_
  refine AWP.run e tab_ok 300 rfl (by first | trivial | (simp [in64] <;> omega)) ?_
  repeat (
    first
      | (refine AWP.guard rfl true ?_ ?_; (focus (first | rfl | (simp; omega) | (simp [*]; done)); done); refine AWP.run e tab_ok 300 rfl (by first | trivial | (simp [in64] <;> omega)) ?_)
      | (refine AWP.guard rfl false ?_ ?_; (focus (first | rfl | (simp; omega) | (simp [*]; done)); done); refine AWP.run e tab_ok 300 rfl (by first | trivial | (simp [in64] <;> omega)) ?_)
      | (refine AWP.cond rfl true ?_ ?_; (focus (first | rfl | (simp; omega) | (simp [*]; done)); done); refine AWP.run e tab_ok 300 rfl (by first | trivial | (simp [in64] <;> omega)) ?_)
      | (refine AWP.cond rfl false ?_ ?_; (focus (first | rfl | (simp; omega) | (simp [*]; done)); done); refine AWP.run e tab_ok 300 rfl (by first | trivial | (simp [in64] <;> omega)) ?_)
      | (refine AWP.pick rfl true ?_ ?_; (focus (first | rfl | (simp; omega) | (simp [*]; done)); done); refine AWP.run e tab_ok 300 rfl (by first | trivial | (simp [in64] <;> omega)) ?_)
      | (refine AWP.pick rfl false ?_ ?_; (focus (first | rfl | (simp; omega) | (simp [*]; done)); done); refine AWP.run e tab_ok 300 rfl (by first | trivial | (simp [in64] <;> omega)) ?_)
    )
  refine AWP.call e (hR') rfl [] (.cons (.refl _) .nil) rfl rfl ?_
  rintro _ _ _ rfl
  refine ⟨rfl, .inl rfl, ?_⟩
  refine AWP.run e tab_ok 300 rfl (by first | trivial | (simp [in64] <;> omega)) ?_
  repeat (
    first
      | (refine AWP.guard rfl true ?_ ?_; (focus (first | rfl | (simp; omega) | (simp [*]; done)); done); refine AWP.run e tab_ok 300 rfl (by first | trivial | (simp [in64] <;> omega)) ?_)
      | (refine AWP.guard rfl false ?_ ?_; (focus (first | rfl | (simp; omega) | (simp [*]; done)); done); refine AWP.run e tab_ok 300 rfl (by first | trivial | (simp [in64] <;> omega)) ?_)
      | (refine AWP.cond rfl true ?_ ?_; (focus (first | rfl | (simp; omega) | (simp [*]; done)); done); refine AWP.run e tab_ok 300 rfl (by first | trivial | (simp [in64] <;> omega)) ?_)
      | (refine AWP.cond rfl false ?_ ?_; (focus (first | rfl | (simp; omega) | (simp [*]; done)); done); refine AWP.run e tab_ok 300 rfl (by first | trivial | (simp [in64] <;> omega)) ?_)
      | (refine AWP.pick rfl true ?_ ?_; (focus (first | rfl | (simp; omega) | (simp [*]; done)); done); refine AWP.run e tab_ok 300 rfl (by first | trivial | (simp [in64] <;> omega)) ?_)
      | (refine AWP.pick rfl false ?_ ?_; (focus (first | rfl | (simp; omega) | (simp [*]; done)); done); refine AWP.run e tab_ok 300 rfl (by first | trivial | (simp [in64] <;> omega)) ?_)
    )
  refine AWP.call e (refPasses_eff k m x mn mx ev fr old cnt v hright) rfl [] (.cons (.refl _) (.cons (.refl _) .nil)) rfl rfl ?_
  rintro _ _ _ rfl
  refine ⟨rfl, .inl rfl, ?_⟩
  refine AWP.run e tab_ok 300 rfl (by first | trivial | (simp [in64] <;> omega)) ?_
  repeat (
    first
      | (refine AWP.guard rfl true ?_ ?_; (focus (first | rfl | (simp; omega) | (simp [*]; done)); done); refine AWP.run e tab_ok 300 rfl (by first | trivial | (simp [in64] <;> omega)) ?_)
      | (refine AWP.guard rfl false ?_ ?_; (focus (first | rfl | (simp; omega) | (simp [*]; done)); done); refine AWP.run e tab_ok 300 rfl (by first | trivial | (simp [in64] <;> omega)) ?_)
      | (refine AWP.cond rfl true ?_ ?_; (focus (first | rfl | (simp; omega) | (simp [*]; done)); done); refine AWP.run e tab_ok 300 rfl (by first | trivial | (simp [in64] <;> omega)) ?_)
      | (refine AWP.cond rfl false ?_ ?_; (focus (first | rfl | (simp; omega) | (simp [*]; done)); done); refine AWP.run e tab_ok 300 rfl (by first | trivial | (simp [in64] <;> omega)) ?_)
      | (refine AWP.pick rfl true ?_ ?_; (focus (first | rfl | (simp; omega) | (simp [*]; done)); done); refine AWP.run e tab_ok 300 rfl (by first | trivial | (simp [in64] <;> omega)) ?_)
      | (refine AWP.pick rfl false ?_ ?_; (focus (first | rfl | (simp; omega) | (simp [*]; done)); done); refine AWP.run e tab_ok 300 rfl (by first | trivial | (simp [in64] <;> omega)) ?_)
    )
  refine AWP.run e tab_ok 300 rfl (by first | trivial | (simp [in64] <;> omega)) ?_
  repeat (
    first
      | (refine AWP.guard rfl true ?_ ?_; (focus (first | rfl | (simp; omega) | (simp [*]; done)); done); refine AWP.run e tab_ok 300 rfl (by first | trivial | (simp [in64] <;> omega)) ?_)
      | (refine AWP.guard rfl false ?_ ?_; (focus (first | rfl | (simp; omega) | (simp [*]; done)); done); refine AWP.run e tab_ok 300 rfl (by first | trivial | (simp [in64] <;> omega)) ?_)
      | (refine AWP.cond rfl true ?_ ?_; (focus (first | rfl | (simp; omega) | (simp [*]; done)); done); refine AWP.run e tab_ok 300 rfl (by first | trivial | (simp [in64] <;> omega)) ?_)
      | (refine AWP.cond rfl false ?_ ?_; (focus (first | rfl | (simp; omega) | (simp [*]; done)); done); refine AWP.run e tab_ok 300 rfl (by first | trivial | (simp [in64] <;> omega)) ?_)
      | (refine AWP.pick rfl true ?_ ?_; (focus (first | rfl | (simp; omega) | (simp [*]; done)); done); refine AWP.run e tab_ok 300 rfl (by first | trivial | (simp [in64] <;> omega)) ?_)
      | (refine AWP.pick rfl false ?_ ?_; (focus (first | rfl | (simp; omega) | (simp [*]; done)); done); refine AWP.run e tab_ok 300 rfl (by first | trivial | (simp [in64] <;> omega)) ?_)
    )
  refine AWP.eq_agg e tab_ok rfl rfl rfl (.inl ⟨rfl, rfl⟩) (by kernel_rfl) 5 (by omega) rfl (by kernel_rfl) rfl rfl rfl rfl rfl rfl rfl ?_
  refine AWP.run e tab_ok 300 rfl (by first | trivial | (simp [in64] <;> omega)) ?_
  repeat (
    first
      | (refine AWP.guard rfl true ?_ ?_; (focus (first | rfl | (simp; omega) | (simp [*]; done)); done); refine AWP.run e tab_ok 300 rfl (by first | trivial | (simp [in64] <;> omega)) ?_)
      | (refine AWP.guard rfl false ?_ ?_; (focus (first | rfl | (simp; omega) | (simp [*]; done)); done); refine AWP.run e tab_ok 300 rfl (by first | trivial | (simp [in64] <;> omega)) ?_)
      | (refine AWP.cond rfl true ?_ ?_; (focus (first | rfl | (simp; omega) | (simp [*]; done)); done); refine AWP.run e tab_ok 300 rfl (by first | trivial | (simp [in64] <;> omega)) ?_)
      | (refine AWP.cond rfl false ?_ ?_; (focus (first | rfl | (simp; omega) | (simp [*]; done)); done); refine AWP.run e tab_ok 300 rfl (by first | trivial | (simp [in64] <;> omega)) ?_)
      | (refine AWP.pick rfl true ?_ ?_; (focus (first | rfl | (simp; omega) | (simp [*]; done)); done); refine AWP.run e tab_ok 300 rfl (by first | trivial | (simp [in64] <;> omega)) ?_)
      | (refine AWP.pick rfl false ?_ ?_; (focus (first | rfl | (simp; omega) | (simp [*]; done)); done); refine AWP.run e tab_ok 300 rfl (by first | trivial | (simp [in64] <;> omega)) ?_)
    )
  refine AWP.ret e tab_ok rfl ?_
  rw [hP]
  first | rfl | (simp [strip]; done)

set_option maxRecDepth 100000 in
theorem steps_2 (k m x mn mx ev fr old cnt v : Int) (l : List Int) (hl : l.length ≤ 9223372036854775807) (hright : rightB k mn mx ev fr cnt = true) (hfull : cnt < 1099511627776) (hlate : cnt + (l.take 40).length ≤ 1099511627776) : Eff Try.prog 3 [.agg (cells k m x mn mx ev fr old cnt), .i v, .d (.sl 1 (ints l))] [] 0 (fun r _ _ => r = .b true) := by
  have hR := right_eff k m x mn mx ev fr old cnt
  have hR' := refRight_eff k m x mn mx ev fr old cnt
  refine eff_of Try.func3 rfl rfl rfl fun cx e hP => ?_
  refine AWP.run e tab_ok 300 rfl (by first | trivial | (simp [in64] <;> omega)) ?_
  obtain ⟨l', hl'⟩ : ∃ l', l' = l.take 40 := ⟨_, rfl⟩
  have h40 : l'.length ≤ 40 := by rw [hl']; simp; omega
  have hcut : List.drop ((none : Option Int).getD 0).toNat (List.take ((some (if 40 < ((ints l).length : Int) then 40 else ((ints l).length : Int))).getD ((ints l).length : Int)).toNat (ints l)) = ints l' := by
    rw [cut_a 40 (ints l) (by omega), hl']; exact List.map_take.symm
  refine AWP.less e (tm := [(23, .i v), (22, .agg (cells k m x mn mx ev fr old cnt)), (2, .d (.sl 1 (ints l'))), (1, .i v), (3, .ptr 0 0), (6, .b false)]) (hp := [(0, .box (cells k m x mn mx ev fr old cnt))]) (nx := 1) ?_ ?_ ?_ ?_ ?_ ?_
  · exact ⟨rfl, rfl, congrArg (fun z => some (SV.d (.sl 1 z))) hcut, rfl, rfl, rfl, trivial⟩
  · exact ⟨rfl, trivial⟩
  · rfl
  · exact ⟨rfl, rfl, trivial⟩
  · rfl
  rw [← hl'] at hlate
  rw [hright] at hR hR'
  have hr : 1 ≤ k ∧ k ≤ 8 ∧ mn ≤ mx ∧ 0 ≤ cnt ∧ cnt ≤ 1099511627776 ∧ (k = 8 → 1 ≤ ev ∧ ev ≤ 1000000 ∧ 0 ≤ fr ∧ fr < ev) := by
    have := hright; unfold rightB at this; exact of_decide_eq_true this
  refine AWP.call e (passes_ok k m x mn mx ev fr old cnt v hright) rfl [] (.cons (.refl _) (.cons (.refl _) .nil)) rfl rfl ?_
  rintro _ _ _ rfl
  refine ⟨rfl, .inl rfl, ?_⟩
  refine AWP.run e tab_ok 300 rfl (by first | trivial | (simp [in64] <;> omega)) ?_
  refine AWP.call e (step_ok k m x mn mx ev fr old cnt v hright (by omega) (by omega)) rfl [] (.cons (.refl _) (.cons (.refl _) .nil)) rfl rfl ?_
  rintro _ _ _ rfl
  refine ⟨rfl, .inl rfl, ?_⟩
  refine AWP.run e tab_ok 300 rfl (by first | trivial | (simp [in64] <;> omega)) ?_
  refine AWP.call e (run_ok k m x mn mx ev fr old cnt l' hright hlate) rfl [] (.cons (.refl _) (.cons (.refl _) .nil)) rfl rfl ?_
  rintro _ _ _ rfl
  refine ⟨rfl, .inl rfl, ?_⟩
  refine AWP.run e tab_ok 300 rfl (by first | trivial | (simp [in64] <;> omega)) ?_
  refine AWP.dr ?_
  repeat (
    first
      | (refine Dr.step rfl (VStep.ev e tab_ok rfl rfl ?_) ?_; (focus (first | assumption | with_reducible trivial | rfl | (simp; omega) | (simp [*]; done))))
      | (refine Dr.step rfl (VStep.go rfl (VStep.ev e tab_ok rfl rfl ?_)) ?_; (focus (first | assumption | with_reducible trivial | rfl | (simp; omega) | (simp [*]; done))))
      | (refine Dr.step rfl (VStep.goA rfl ?_ (VStep.ev e tab_ok rfl rfl ?_)) ?_; (focus (first | assumption | with_reducible trivial | rfl | (simp; omega) | (simp [*]; done))); (focus (first | assumption | with_reducible trivial | rfl | (simp; omega) | (simp [*]; done))))
      | refine Dr.step rfl (VStep.not e rfl rfl rfl) ?_
      | (refine Dr.step rfl (VStep.notA e rfl rfl ?_) ?_; (focus (first | assumption | with_reducible trivial | rfl | (simp; omega) | (simp [*]; done))))
      | refine Dr.step rfl (VStep.un e rfl rfl) ?_
      | (refine Dr.step rfl (VStep.pickA e rfl rfl (v := true) ?_ rfl) ?_; (focus (first | assumption | with_reducible trivial | rfl | (simp; omega) | (simp [*]; done))))
      | (refine Dr.step rfl (VStep.pickA e rfl rfl (v := false) ?_ rfl) ?_; (focus (first | assumption | with_reducible trivial | rfl | (simp; omega) | (simp [*]; done))))
    )
  refine Dr.step rfl (VStep.call e hR rfl [] (.cons (.refl _) .nil) rfl rfl rfl (.inl rfl)) ?_
  repeat (
    first
      | (refine Dr.step rfl (VStep.ev e tab_ok rfl rfl ?_) ?_; (focus (first | assumption | with_reducible trivial | rfl | (simp; omega) | (simp [*]; done))))
      | (refine Dr.step rfl (VStep.go rfl (VStep.ev e tab_ok rfl rfl ?_)) ?_; (focus (first | assumption | with_reducible trivial | rfl | (simp; omega) | (simp [*]; done))))
      | (refine Dr.step rfl (VStep.goA rfl ?_ (VStep.ev e tab_ok rfl rfl ?_)) ?_; (focus (first | assumption | with_reducible trivial | rfl | (simp; omega) | (simp [*]; done))); (focus (first | assumption | with_reducible trivial | rfl | (simp; omega) | (simp [*]; done))))
      | refine Dr.step rfl (VStep.not e rfl rfl rfl) ?_
      | (refine Dr.step rfl (VStep.notA e rfl rfl ?_) ?_; (focus (first | assumption | with_reducible trivial | rfl | (simp; omega) | (simp [*]; done))))
      | refine Dr.step rfl (VStep.un e rfl rfl) ?_
      | (refine Dr.step rfl (VStep.pickA e rfl rfl (v := true) ?_ rfl) ?_; (focus (first | assumption | with_reducible trivial | rfl | (simp; omega) | (simp [*]; done))))
      | (refine Dr.step rfl (VStep.pickA e rfl rfl (v := false) ?_ rfl) ?_; (focus (first | assumption | with_reducible trivial | rfl | (simp; omega) | (simp [*]; done))))
    )
  refine Dr.step rfl (VStep.call e hR' rfl [] (.cons (.refl _) .nil) rfl rfl rfl (.inl rfl)) ?_
  repeat (
    first
      | (refine Dr.step rfl (VStep.ev e tab_ok rfl rfl ?_) ?_; (focus (first | assumption | with_reducible trivial | rfl | (simp; omega) | (simp [*]; done))))
      | (refine Dr.step rfl (VStep.go rfl (VStep.ev e tab_ok rfl rfl ?_)) ?_; (focus (first | assumption | with_reducible trivial | rfl | (simp; omega) | (simp [*]; done))))
      | (refine Dr.step rfl (VStep.goA rfl ?_ (VStep.ev e tab_ok rfl rfl ?_)) ?_; (focus (first | assumption | with_reducible trivial | rfl | (simp; omega) | (simp [*]; done))); (focus (first | assumption | with_reducible trivial | rfl | (simp; omega) | (simp [*]; done))))
      | refine Dr.step rfl (VStep.not e rfl rfl rfl) ?_
      | (refine Dr.step rfl (VStep.notA e rfl rfl ?_) ?_; (focus (first | assumption | with_reducible trivial | rfl | (simp; omega) | (simp [*]; done))))
      | refine Dr.step rfl (VStep.un e rfl rfl) ?_
      | (refine Dr.step rfl (VStep.pickA e rfl rfl (v := true) ?_ rfl) ?_; (focus (first | assumption | with_reducible trivial | rfl | (simp; omega) | (simp [*]; done))))
      | (refine Dr.step rfl (VStep.pickA e rfl rfl (v := false) ?_ rfl) ?_; (focus (first | assumption | with_reducible trivial | rfl | (simp; omega) | (simp [*]; done))))
    )
  refine Dr.step rfl (VStep.goA rfl rfl (VStep.call e alive_eff rfl [] .nil rfl rfl rfl (.inl rfl))) ?_
  repeat (
    first
      | (refine Dr.step rfl (VStep.ev e tab_ok rfl rfl ?_) ?_; (focus (first | assumption | with_reducible trivial | rfl | (simp; omega) | (simp [*]; done))))
      | (refine Dr.step rfl (VStep.go rfl (VStep.ev e tab_ok rfl rfl ?_)) ?_; (focus (first | assumption | with_reducible trivial | rfl | (simp; omega) | (simp [*]; done))))
      | (refine Dr.step rfl (VStep.goA rfl ?_ (VStep.ev e tab_ok rfl rfl ?_)) ?_; (focus (first | assumption | with_reducible trivial | rfl | (simp; omega) | (simp [*]; done))); (focus (first | assumption | with_reducible trivial | rfl | (simp; omega) | (simp [*]; done))))
      | refine Dr.step rfl (VStep.not e rfl rfl rfl) ?_
      | (refine Dr.step rfl (VStep.notA e rfl rfl ?_) ?_; (focus (first | assumption | with_reducible trivial | rfl | (simp; omega) | (simp [*]; done))))
      | refine Dr.step rfl (VStep.un e rfl rfl) ?_
      | (refine Dr.step rfl (VStep.pickA e rfl rfl (v := true) ?_ rfl) ?_; (focus (first | assumption | with_reducible trivial | rfl | (simp; omega) | (simp [*]; done))))
      | (refine Dr.step rfl (VStep.pickA e rfl rfl (v := false) ?_ rfl) ?_; (focus (first | assumption | with_reducible trivial | rfl | (simp; omega) | (simp [*]; done))))
    )
  refine Dr.fin e rfl rfl (by kernel_rfl) ?_
  refine AWP.run e tab_ok 300 rfl (by first | trivial | (simp [in64] <;> omega)) ?_
  repeat (
    first
      | (refine AWP.guard rfl true ?_ ?_; (focus (first | rfl | (simp; omega) | (simp [*]; done)); done); refine AWP.run e tab_ok 300 rfl (by first | trivial | (simp [in64] <;> omega)) ?_)
      | (refine AWP.guard rfl false ?_ ?_; (focus (first | rfl | (simp; omega) | (simp [*]; done)); done); refine AWP.run e tab_ok 300 rfl (by first | trivial | (simp [in64] <;> omega)) ?_)
      | (refine AWP.cond rfl true ?_ ?_; (focus (first | rfl | (simp; omega) | (simp [*]; done)); done); refine AWP.run e tab_ok 300 rfl (by first | trivial | (simp [in64] <;> omega)) ?_)
      | (refine AWP.cond rfl false ?_ ?_; (focus (first | rfl | (simp; omega) | (simp [*]; done)); done); refine AWP.run e tab_ok 300 rfl (by first | trivial | (simp [in64] <;> omega)) ?_)
      | (refine AWP.pick rfl true ?_ ?_; (focus (first | rfl | (simp; omega) | (simp [*]; done)); done); refine AWP.run e tab_ok 300 rfl (by first | trivial | (simp [in64] <;> omega)) ?_)
      | (refine AWP.pick rfl false ?_ ?_; (focus (first | rfl | (simp; omega) | (simp [*]; done)); done); refine AWP.run e tab_ok 300 rfl (by first | trivial | (simp [in64] <;> omega)) ?_)
    )
  refine AWP.call e (hR') rfl [] (.cons (.refl _) .nil) rfl rfl ?_
  rintro _ _ _ rfl
  refine ⟨rfl, .inl rfl, ?_⟩
  refine AWP.run e tab_ok 300 rfl (by first | trivial | (simp [in64] <;> omega)) ?_
  repeat (
    first
      | (refine AWP.guard rfl true ?_ ?_; (focus (first | rfl | (simp; omega) | (simp [*]; done)); done); refine AWP.run e tab_ok 300 rfl (by first | trivial | (simp [in64] <;> omega)) ?_)
      | (refine AWP.guard rfl false ?_ ?_; (focus (first | rfl | (simp; omega) | (simp [*]; done)); done); refine AWP.run e tab_ok 300 rfl (by first | trivial | (simp [in64] <;> omega)) ?_)
      | (refine AWP.cond rfl true ?_ ?_; (focus (first | rfl | (simp; omega) | (simp [*]; done)); done); refine AWP.run e tab_ok 300 rfl (by first | trivial | (simp [in64] <;> omega)) ?_)
      | (refine AWP.cond rfl false ?_ ?_; (focus (first | rfl | (simp; omega) | (simp [*]; done)); done); refine AWP.run e tab_ok 300 rfl (by first | trivial | (simp [in64] <;> omega)) ?_)
      | (refine AWP.pick rfl true ?_ ?_; (focus (first | rfl | (simp; omega) | (simp [*]; done)); done); refine AWP.run e tab_ok 300 rfl (by first | trivial | (simp [in64] <;> omega)) ?_)
      | (refine AWP.pick rfl false ?_ ?_; (focus (first | rfl | (simp; omega) | (simp [*]; done)); done); refine AWP.run e tab_ok 300 rfl (by first | trivial | (simp [in64] <;> omega)) ?_)
    )
  refine AWP.call e (refPasses_eff k m x mn mx ev fr old cnt v hright) rfl [] (.cons (.refl _) (.cons (.refl _) .nil)) rfl rfl ?_
  rintro _ _ _ rfl
  refine ⟨rfl, .inl rfl, ?_⟩
  refine AWP.run e tab_ok 300 rfl (by first | trivial | (simp [in64] <;> omega)) ?_
  repeat (
    first
      | (refine AWP.guard rfl true ?_ ?_; (focus (first | rfl | (simp; omega) | (simp [*]; done)); done); refine AWP.run e tab_ok 300 rfl (by first | trivial | (simp [in64] <;> omega)) ?_)
      | (refine AWP.guard rfl false ?_ ?_; (focus (first | rfl | (simp; omega) | (simp [*]; done)); done); refine AWP.run e tab_ok 300 rfl (by first | trivial | (simp [in64] <;> omega)) ?_)
      | (refine AWP.cond rfl true ?_ ?_; (focus (first | rfl | (simp; omega) | (simp [*]; done)); done); refine AWP.run e tab_ok 300 rfl (by first | trivial | (simp [in64] <;> omega)) ?_)
      | (refine AWP.cond rfl false ?_ ?_; (focus (first | rfl | (simp; omega) | (simp [*]; done)); done); refine AWP.run e tab_ok 300 rfl (by first | trivial | (simp [in64] <;> omega)) ?_)
      | (refine AWP.pick rfl true ?_ ?_; (focus (first | rfl | (simp; omega) | (simp [*]; done)); done); refine AWP.run e tab_ok 300 rfl (by first | trivial | (simp [in64] <;> omega)) ?_)
      | (refine AWP.pick rfl false ?_ ?_; (focus (first | rfl | (simp; omega) | (simp [*]; done)); done); refine AWP.run e tab_ok 300 rfl (by first | trivial | (simp [in64] <;> omega)) ?_)
    )
  refine AWP.call e (refRun_ok k m x mn mx ev fr old cnt l' hright hlate) rfl [] (.cons (.refl _) (.cons (.refl _) .nil)) rfl rfl ?_
  rintro _ _ _ rfl
  refine ⟨rfl, .inl rfl, ?_⟩
  refine AWP.run e tab_ok 300 rfl (by first | trivial | (simp [in64] <;> omega)) ?_
  refine AWP.call e (same_eff (runL k m x mn mx ev fr old cnt l') (runL k m x mn mx ev fr old cnt l') (by have := runL_len k m x mn mx ev fr l' old cnt; omega)) rfl [] (.cons (.refl _) (.cons (.refl _) .nil)) rfl rfl ?_
  rintro _ _ _ rfl
  refine ⟨rfl, .inl rfl, ?_⟩
  refine AWP.run e tab_ok 300 rfl (by first | trivial | (simp [in64] <;> omega)) ?_
  repeat (
    first
      | (refine AWP.guard rfl true ?_ ?_; (focus (first | rfl | (simp; omega) | (simp [*]; done)); done); refine AWP.run e tab_ok 300 rfl (by first | trivial | (simp [in64] <;> omega)) ?_)
      | (refine AWP.guard rfl false ?_ ?_; (focus (first | rfl | (simp; omega) | (simp [*]; done)); done); refine AWP.run e tab_ok 300 rfl (by first | trivial | (simp [in64] <;> omega)) ?_)
      | (refine AWP.cond rfl true ?_ ?_; (focus (first | rfl | (simp; omega) | (simp [*]; done)); done); refine AWP.run e tab_ok 300 rfl (by first | trivial | (simp [in64] <;> omega)) ?_)
      | (refine AWP.cond rfl false ?_ ?_; (focus (first | rfl | (simp; omega) | (simp [*]; done)); done); refine AWP.run e tab_ok 300 rfl (by first | trivial | (simp [in64] <;> omega)) ?_)
      | (refine AWP.pick rfl true ?_ ?_; (focus (first | rfl | (simp; omega) | (simp [*]; done)); done); refine AWP.run e tab_ok 300 rfl (by first | trivial | (simp [in64] <;> omega)) ?_)
      | (refine AWP.pick rfl false ?_ ?_; (focus (first | rfl | (simp; omega) | (simp [*]; done)); done); refine AWP.run e tab_ok 300 rfl (by first | trivial | (simp [in64] <;> omega)) ?_)
    )
  refine AWP.run e tab_ok 300 rfl (by first | trivial | (simp [in64] <;> omega)) ?_
  repeat (
    first
      | (refine AWP.guard rfl true ?_ ?_; (focus (first | rfl | (simp; omega) | (simp [*]; done)); done); refine AWP.run e tab_ok 300 rfl (by first | trivial | (simp [in64] <;> omega)) ?_)
      | (refine AWP.guard rfl false ?_ ?_; (focus (first | rfl | (simp; omega) | (simp [*]; done)); done); refine AWP.run e tab_ok 300 rfl (by first | trivial | (simp [in64] <;> omega)) ?_)
      | (refine AWP.cond rfl true ?_ ?_; (focus (first | rfl | (simp; omega) | (simp [*]; done)); done); refine AWP.run e tab_ok 300 rfl (by first | trivial | (simp [in64] <;> omega)) ?_)
      | (refine AWP.cond rfl false ?_ ?_; (focus (first | rfl | (simp; omega) | (simp [*]; done)); done); refine AWP.run e tab_ok 300 rfl (by first | trivial | (simp [in64] <;> omega)) ?_)
      | (refine AWP.pick rfl true ?_ ?_; (focus (first | rfl | (simp; omega) | (simp [*]; done)); done); refine AWP.run e tab_ok 300 rfl (by first | trivial | (simp [in64] <;> omega)) ?_)
      | (refine AWP.pick rfl false ?_ ?_; (focus (first | rfl | (simp; omega) | (simp [*]; done)); done); refine AWP.run e tab_ok 300 rfl (by first | trivial | (simp [in64] <;> omega)) ?_)
    )
  refine AWP.call e (refStep_eff k m x mn mx ev fr old cnt v hright (by omega) (by omega)) rfl [] (.cons (.refl _) (.cons (.refl _) .nil)) rfl rfl ?_
  rintro _ _ _ rfl
  refine ⟨rfl, .inl rfl, ?_⟩
  refine AWP.run e tab_ok 300 rfl (by first | trivial | (simp [in64] <;> omega)) ?_
  repeat (
    first
      | (refine AWP.guard rfl true ?_ ?_; (focus (first | rfl | (simp; omega) | (simp [*]; done)); done); refine AWP.run e tab_ok 300 rfl (by first | trivial | (simp [in64] <;> omega)) ?_)
      | (refine AWP.guard rfl false ?_ ?_; (focus (first | rfl | (simp; omega) | (simp [*]; done)); done); refine AWP.run e tab_ok 300 rfl (by first | trivial | (simp [in64] <;> omega)) ?_)
      | (refine AWP.cond rfl true ?_ ?_; (focus (first | rfl | (simp; omega) | (simp [*]; done)); done); refine AWP.run e tab_ok 300 rfl (by first | trivial | (simp [in64] <;> omega)) ?_)
      | (refine AWP.cond rfl false ?_ ?_; (focus (first | rfl | (simp; omega) | (simp [*]; done)); done); refine AWP.run e tab_ok 300 rfl (by first | trivial | (simp [in64] <;> omega)) ?_)
      | (refine AWP.pick rfl true ?_ ?_; (focus (first | rfl | (simp; omega) | (simp [*]; done)); done); refine AWP.run e tab_ok 300 rfl (by first | trivial | (simp [in64] <;> omega)) ?_)
      | (refine AWP.pick rfl false ?_ ?_; (focus (first | rfl | (simp; omega) | (simp [*]; done)); done); refine AWP.run e tab_ok 300 rfl (by first | trivial | (simp [in64] <;> omega)) ?_)
    )
  refine AWP.eq_agg e tab_ok rfl rfl rfl (.inl ⟨rfl, rfl⟩) (by kernel_rfl) 5 (by omega) rfl (by kernel_rfl) rfl rfl rfl rfl rfl rfl rfl ?_
  refine AWP.run e tab_ok 300 rfl (by first | trivial | (simp [in64] <;> omega)) ?_
  repeat (
    first
      | (refine AWP.guard rfl true ?_ ?_; (focus (first | rfl | (simp; omega) | (simp [*]; done)); done); refine AWP.run e tab_ok 300 rfl (by first | trivial | (simp [in64] <;> omega)) ?_)
      | (refine AWP.guard rfl false ?_ ?_; (focus (first | rfl | (simp; omega) | (simp [*]; done)); done); refine AWP.run e tab_ok 300 rfl (by first | trivial | (simp [in64] <;> omega)) ?_)
      | (refine AWP.cond rfl true ?_ ?_; (focus (first | rfl | (simp; omega) | (simp [*]; done)); done); refine AWP.run e tab_ok 300 rfl (by first | trivial | (simp [in64] <;> omega)) ?_)
      | (refine AWP.cond rfl false ?_ ?_; (focus (first | rfl | (simp; omega) | (simp [*]; done)); done); refine AWP.run e tab_ok 300 rfl (by first | trivial | (simp [in64] <;> omega)) ?_)
      | (refine AWP.pick rfl true ?_ ?_; (focus (first | rfl | (simp; omega) | (simp [*]; done)); done); refine AWP.run e tab_ok 300 rfl (by first | trivial | (simp [in64] <;> omega)) ?_)
      | (refine AWP.pick rfl false ?_ ?_; (focus (first | rfl | (simp; omega) | (simp [*]; done)); done); refine AWP.run e tab_ok 300 rfl (by first | trivial | (simp [in64] <;> omega)) ?_)
    )
  refine AWP.ret e tab_ok rfl ?_
  rw [hP]
  first | rfl | (simp [strip]; done)

set_option maxRecDepth 100000 in
theorem steps_3 (k m x mn mx ev fr old cnt v : Int) (l : List Int) (hl : l.length ≤ 9223372036854775807) (hright : rightB k mn mx ev fr cnt = true) (hfull : cnt < 1099511627776) (hlate : ¬ cnt + (l.take 40).length ≤ 1099511627776) : Eff Try.prog 3 [.agg (cells k m x mn mx ev fr old cnt), .i v, .d (.sl 1 (ints l))] [] 0 (fun r _ _ => r = .b true) := by
  have hR := right_eff k m x mn mx ev fr old cnt
  have hR' := refRight_eff k m x mn mx ev fr old cnt
  refine eff_of Try.func3 rfl rfl rfl fun cx e hP => ?_
  refine AWP.run e tab_ok 300 rfl (by first | trivial | (simp [in64] <;> omega)) ?_
  obtain ⟨l', hl'⟩ : ∃ l', l' = l.take 40 := ⟨_, rfl⟩
  have h40 : l'.length ≤ 40 := by rw [hl']; simp; omega
  have hcut : List.drop ((none : Option Int).getD 0).toNat (List.take ((some (if 40 < ((ints l).length : Int) then 40 else ((ints l).length : Int))).getD ((ints l).length : Int)).toNat (ints l)) = ints l' := by
    rw [cut_a 40 (ints l) (by omega), hl']; exact List.map_take.symm
  refine AWP.less e (tm := [(23, .i v), (22, .agg (cells k m x mn mx ev fr old cnt)), (2, .d (.sl 1 (ints l'))), (1, .i v), (3, .ptr 0 0), (6, .b false)]) (hp := [(0, .box (cells k m x mn mx ev fr old cnt))]) (nx := 1) ?_ ?_ ?_ ?_ ?_ ?_
  · exact ⟨rfl, rfl, congrArg (fun z => some (SV.d (.sl 1 z))) hcut, rfl, rfl, rfl, trivial⟩
  · exact ⟨rfl, trivial⟩
  · rfl
  · exact ⟨rfl, rfl, trivial⟩
  · rfl
  rw [← hl'] at hlate
  rw [hright] at hR hR'
  have hr : 1 ≤ k ∧ k ≤ 8 ∧ mn ≤ mx ∧ 0 ≤ cnt ∧ cnt ≤ 1099511627776 ∧ (k = 8 → 1 ≤ ev ∧ ev ≤ 1000000 ∧ 0 ≤ fr ∧ fr < ev) := by
    have := hright; unfold rightB at this; exact of_decide_eq_true this
  refine AWP.call e (passes_ok k m x mn mx ev fr old cnt v hright) rfl [] (.cons (.refl _) (.cons (.refl _) .nil)) rfl rfl ?_
  rintro _ _ _ rfl
  refine ⟨rfl, .inl rfl, ?_⟩
  refine AWP.run e tab_ok 300 rfl (by first | trivial | (simp [in64] <;> omega)) ?_
  refine AWP.call e (step_ok k m x mn mx ev fr old cnt v hright (by omega) (by omega)) rfl [] (.cons (.refl _) (.cons (.refl _) .nil)) rfl rfl ?_
  rintro _ _ _ rfl
  refine ⟨rfl, .inl rfl, ?_⟩
  refine AWP.run e tab_ok 300 rfl (by first | trivial | (simp [in64] <;> omega)) ?_
  refine AWP.call e (run_late k m x mn mx ev fr old cnt l' hright (by omega) hlate) rfl [] (.cons (.refl _) (.cons (.refl _) .nil)) rfl rfl ?_
  rintro _ _ _ rfl
  refine ⟨rfl, .inl rfl, ?_⟩
  refine AWP.run e tab_ok 300 rfl (by first | trivial | (simp [in64] <;> omega)) ?_
  refine AWP.dr ?_
  repeat (
    first
      | (refine Dr.step rfl (VStep.ev e tab_ok rfl rfl ?_) ?_; (focus (first | assumption | with_reducible trivial | rfl | (simp; omega) | (simp [*]; done))))
      | (refine Dr.step rfl (VStep.go rfl (VStep.ev e tab_ok rfl rfl ?_)) ?_; (focus (first | assumption | with_reducible trivial | rfl | (simp; omega) | (simp [*]; done))))
      | (refine Dr.step rfl (VStep.goA rfl ?_ (VStep.ev e tab_ok rfl rfl ?_)) ?_; (focus (first | assumption | with_reducible trivial | rfl | (simp; omega) | (simp [*]; done))); (focus (first | assumption | with_reducible trivial | rfl | (simp; omega) | (simp [*]; done))))
      | refine Dr.step rfl (VStep.not e rfl rfl rfl) ?_
      | (refine Dr.step rfl (VStep.notA e rfl rfl ?_) ?_; (focus (first | assumption | with_reducible trivial | rfl | (simp; omega) | (simp [*]; done))))
      | refine Dr.step rfl (VStep.un e rfl rfl) ?_
      | (refine Dr.step rfl (VStep.pickA e rfl rfl (v := true) ?_ rfl) ?_; (focus (first | assumption | with_reducible trivial | rfl | (simp; omega) | (simp [*]; done))))
      | (refine Dr.step rfl (VStep.pickA e rfl rfl (v := false) ?_ rfl) ?_; (focus (first | assumption | with_reducible trivial | rfl | (simp; omega) | (simp [*]; done))))
    )
  refine Dr.step rfl (VStep.call e hR rfl [] (.cons (.refl _) .nil) rfl rfl rfl (.inl rfl)) ?_
  repeat (
    first
      | (refine Dr.step rfl (VStep.ev e tab_ok rfl rfl ?_) ?_; (focus (first | assumption | with_reducible trivial | rfl | (simp; omega) | (simp [*]; done))))
      | (refine Dr.step rfl (VStep.go rfl (VStep.ev e tab_ok rfl rfl ?_)) ?_; (focus (first | assumption | with_reducible trivial | rfl | (simp; omega) | (simp [*]; done))))
      | (refine Dr.step rfl (VStep.goA rfl ?_ (VStep.ev e tab_ok rfl rfl ?_)) ?_; (focus (first | assumption | with_reducible trivial | rfl | (simp; omega) | (simp [*]; done))); (focus (first | assumption | with_reducible trivial | rfl | (simp; omega) | (simp [*]; done))))
      | refine Dr.step rfl (VStep.not e rfl rfl rfl) ?_
      | (refine Dr.step rfl (VStep.notA e rfl rfl ?_) ?_; (focus (first | assumption | with_reducible trivial | rfl | (simp; omega) | (simp [*]; done))))
      | refine Dr.step rfl (VStep.un e rfl rfl) ?_
      | (refine Dr.step rfl (VStep.pickA e rfl rfl (v := true) ?_ rfl) ?_; (focus (first | assumption | with_reducible trivial | rfl | (simp; omega) | (simp [*]; done))))
      | (refine Dr.step rfl (VStep.pickA e rfl rfl (v := false) ?_ rfl) ?_; (focus (first | assumption | with_reducible trivial | rfl | (simp; omega) | (simp [*]; done))))
    )
  refine Dr.step rfl (VStep.call e hR' rfl [] (.cons (.refl _) .nil) rfl rfl rfl (.inl rfl)) ?_
  repeat (
    first
      | (refine Dr.step rfl (VStep.ev e tab_ok rfl rfl ?_) ?_; (focus (first | assumption | with_reducible trivial | rfl | (simp; omega) | (simp [*]; done))))
      | (refine Dr.step rfl (VStep.go rfl (VStep.ev e tab_ok rfl rfl ?_)) ?_; (focus (first | assumption | with_reducible trivial | rfl | (simp; omega) | (simp [*]; done))))
      | (refine Dr.step rfl (VStep.goA rfl ?_ (VStep.ev e tab_ok rfl rfl ?_)) ?_; (focus (first | assumption | with_reducible trivial | rfl | (simp; omega) | (simp [*]; done))); (focus (first | assumption | with_reducible trivial | rfl | (simp; omega) | (simp [*]; done))))
      | refine Dr.step rfl (VStep.not e rfl rfl rfl) ?_
      | (refine Dr.step rfl (VStep.notA e rfl rfl ?_) ?_; (focus (first | assumption | with_reducible trivial | rfl | (simp; omega) | (simp [*]; done))))
      | refine Dr.step rfl (VStep.un e rfl rfl) ?_
      | (refine Dr.step rfl (VStep.pickA e rfl rfl (v := true) ?_ rfl) ?_; (focus (first | assumption | with_reducible trivial | rfl | (simp; omega) | (simp [*]; done))))
      | (refine Dr.step rfl (VStep.pickA e rfl rfl (v := false) ?_ rfl) ?_; (focus (first | assumption | with_reducible trivial | rfl | (simp; omega) | (simp [*]; done))))
    )
  refine Dr.step rfl (VStep.goA rfl rfl (VStep.call e alive_eff rfl [] .nil rfl rfl rfl (.inl rfl))) ?_
  repeat (
    first
      | (refine Dr.step rfl (VStep.ev e tab_ok rfl rfl ?_) ?_; (focus (first | assumption | with_reducible trivial | rfl | (simp; omega) | (simp [*]; done))))
      | (refine Dr.step rfl (VStep.go rfl (VStep.ev e tab_ok rfl rfl ?_)) ?_; (focus (first | assumption | with_reducible trivial | rfl | (simp; omega) | (simp [*]; done))))
      | (refine Dr.step rfl (VStep.goA rfl ?_ (VStep.ev e tab_ok rfl rfl ?_)) ?_; (focus (first | assumption | with_reducible trivial | rfl | (simp; omega) | (simp [*]; done))); (focus (first | assumption | with_reducible trivial | rfl | (simp; omega) | (simp [*]; done))))
      | refine Dr.step rfl (VStep.not e rfl rfl rfl) ?_
      | (refine Dr.step rfl (VStep.notA e rfl rfl ?_) ?_; (focus (first | assumption | with_reducible trivial | rfl | (simp; omega) | (simp [*]; done))))
      | refine Dr.step rfl (VStep.un e rfl rfl) ?_
      | (refine Dr.step rfl (VStep.pickA e rfl rfl (v := true) ?_ rfl) ?_; (focus (first | assumption | with_reducible trivial | rfl | (simp; omega) | (simp [*]; done))))
      | (refine Dr.step rfl (VStep.pickA e rfl rfl (v := false) ?_ rfl) ?_; (focus (first | assumption | with_reducible trivial | rfl | (simp; omega) | (simp [*]; done))))
    )
  refine Dr.fin e rfl rfl (by kernel_rfl) ?_
  refine AWP.run e tab_ok 300 rfl (by first | trivial | (simp [in64] <;> omega)) ?_
  repeat (
    first
      | (refine AWP.guard rfl true ?_ ?_; (focus (first | rfl | (simp; omega) | (simp [*]; done)); done); refine AWP.run e tab_ok 300 rfl (by first | trivial | (simp [in64] <;> omega)) ?_)
      | (refine AWP.guard rfl false ?_ ?_; (focus (first | rfl | (simp; omega) | (simp [*]; done)); done); refine AWP.run e tab_ok 300 rfl (by first | trivial | (simp [in64] <;> omega)) ?_)
      | (refine AWP.cond rfl true ?_ ?_; (focus (first | rfl | (simp; omega) | (simp [*]; done)); done); refine AWP.run e tab_ok 300 rfl (by first | trivial | (simp [in64] <;> omega)) ?_)
      | (refine AWP.cond rfl false ?_ ?_; (focus (first | rfl | (simp; omega) | (simp [*]; done)); done); refine AWP.run e tab_ok 300 rfl (by first | trivial | (simp [in64] <;> omega)) ?_)
      | (refine AWP.pick rfl true ?_ ?_; (focus (first | rfl | (simp; omega) | (simp [*]; done)); done); refine AWP.run e tab_ok 300 rfl (by first | trivial | (simp [in64] <;> omega)) ?_)
      | (refine AWP.pick rfl false ?_ ?_; (focus (first | rfl | (simp; omega) | (simp [*]; done)); done); refine AWP.run e tab_ok 300 rfl (by first | trivial | (simp [in64] <;> omega)) ?_)
    )
  refine AWP.call e (hR') rfl [] (.cons (.refl _) .nil) rfl rfl ?_
  rintro _ _ _ rfl
  refine ⟨rfl, .inl rfl, ?_⟩
  refine AWP.run e tab_ok 300 rfl (by first | trivial | (simp [in64] <;> omega)) ?_
  repeat (
    first
      | (refine AWP.guard rfl true ?_ ?_; (focus (first | rfl | (simp; omega) | (simp [*]; done)); done); refine AWP.run e tab_ok 300 rfl (by first | trivial | (simp [in64] <;> omega)) ?_)
      | (refine AWP.guard rfl false ?_ ?_; (focus (first | rfl | (simp; omega) | (simp [*]; done)); done); refine AWP.run e tab_ok 300 rfl (by first | trivial | (simp [in64] <;> omega)) ?_)
      | (refine AWP.cond rfl true ?_ ?_; (focus (first | rfl | (simp; omega) | (simp [*]; done)); done); refine AWP.run e tab_ok 300 rfl (by first | trivial | (simp [in64] <;> omega)) ?_)
      | (refine AWP.cond rfl false ?_ ?_; (focus (first | rfl | (simp; omega) | (simp [*]; done)); done); refine AWP.run e tab_ok 300 rfl (by first | trivial | (simp [in64] <;> omega)) ?_)
      | (refine AWP.pick rfl true ?_ ?_; (focus (first | rfl | (simp; omega) | (simp [*]; done)); done); refine AWP.run e tab_ok 300 rfl (by first | trivial | (simp [in64] <;> omega)) ?_)
      | (refine AWP.pick rfl false ?_ ?_; (focus (first | rfl | (simp; omega) | (simp [*]; done)); done); refine AWP.run e tab_ok 300 rfl (by first | trivial | (simp [in64] <;> omega)) ?_)
    )
  refine AWP.call e (refPasses_eff k m x mn mx ev fr old cnt v hright) rfl [] (.cons (.refl _) (.cons (.refl _) .nil)) rfl rfl ?_
  rintro _ _ _ rfl
  refine ⟨rfl, .inl rfl, ?_⟩
  refine AWP.run e tab_ok 300 rfl (by first | trivial | (simp [in64] <;> omega)) ?_
  repeat (
    first
      | (refine AWP.guard rfl true ?_ ?_; (focus (first | rfl | (simp; omega) | (simp [*]; done)); done); refine AWP.run e tab_ok 300 rfl (by first | trivial | (simp [in64] <;> omega)) ?_)
      | (refine AWP.guard rfl false ?_ ?_; (focus (first | rfl | (simp; omega) | (simp [*]; done)); done); refine AWP.run e tab_ok 300 rfl (by first | trivial | (simp [in64] <;> omega)) ?_)
      | (refine AWP.cond rfl true ?_ ?_; (focus (first | rfl | (simp; omega) | (simp [*]; done)); done); refine AWP.run e tab_ok 300 rfl (by first | trivial | (simp [in64] <;> omega)) ?_)
      | (refine AWP.cond rfl false ?_ ?_; (focus (first | rfl | (simp; omega) | (simp [*]; done)); done); refine AWP.run e tab_ok 300 rfl (by first | trivial | (simp [in64] <;> omega)) ?_)
      | (refine AWP.pick rfl true ?_ ?_; (focus (first | rfl | (simp; omega) | (simp [*]; done)); done); refine AWP.run e tab_ok 300 rfl (by first | trivial | (simp [in64] <;> omega)) ?_)
      | (refine AWP.pick rfl false ?_ ?_; (focus (first | rfl | (simp; omega) | (simp [*]; done)); done); refine AWP.run e tab_ok 300 rfl (by first | trivial | (simp [in64] <;> omega)) ?_)
    )
  refine AWP.run e tab_ok 300 rfl (by first | trivial | (simp [in64] <;> omega)) ?_
  repeat (
    first
      | (refine AWP.guard rfl true ?_ ?_; (focus (first | rfl | (simp; omega) | (simp [*]; done)); done); refine AWP.run e tab_ok 300 rfl (by first | trivial | (simp [in64] <;> omega)) ?_)
      | (refine AWP.guard rfl false ?_ ?_; (focus (first | rfl | (simp; omega) | (simp [*]; done)); done); refine AWP.run e tab_ok 300 rfl (by first | trivial | (simp [in64] <;> omega)) ?_)
      | (refine AWP.cond rfl true ?_ ?_; (focus (first | rfl | (simp; omega) | (simp [*]; done)); done); refine AWP.run e tab_ok 300 rfl (by first | trivial | (simp [in64] <;> omega)) ?_)
      | (refine AWP.cond rfl false ?_ ?_; (focus (first | rfl | (simp; omega) | (simp [*]; done)); done); refine AWP.run e tab_ok 300 rfl (by first | trivial | (simp [in64] <;> omega)) ?_)
      | (refine AWP.pick rfl true ?_ ?_; (focus (first | rfl | (simp; omega) | (simp [*]; done)); done); refine AWP.run e tab_ok 300 rfl (by first | trivial | (simp [in64] <;> omega)) ?_)
      | (refine AWP.pick rfl false ?_ ?_; (focus (first | rfl | (simp; omega) | (simp [*]; done)); done); refine AWP.run e tab_ok 300 rfl (by first | trivial | (simp [in64] <;> omega)) ?_)
    )
  refine AWP.call e (refStep_eff k m x mn mx ev fr old cnt v hright (by omega) (by omega)) rfl [] (.cons (.refl _) (.cons (.refl _) .nil)) rfl rfl ?_
  rintro _ _ _ rfl
  refine ⟨rfl, .inl rfl, ?_⟩
  refine AWP.run e tab_ok 300 rfl (by first | trivial | (simp [in64] <;> omega)) ?_
  repeat (
    first
      | (refine AWP.guard rfl true ?_ ?_; (focus (first | rfl | (simp; omega) | (simp [*]; done)); done); refine AWP.run e tab_ok 300 rfl (by first | trivial | (simp [in64] <;> omega)) ?_)
      | (refine AWP.guard rfl false ?_ ?_; (focus (first | rfl | (simp; omega) | (simp [*]; done)); done); refine AWP.run e tab_ok 300 rfl (by first | trivial | (simp [in64] <;> omega)) ?_)
      | (refine AWP.cond rfl true ?_ ?_; (focus (first | rfl | (simp; omega) | (simp [*]; done)); done); refine AWP.run e tab_ok 300 rfl (by first | trivial | (simp [in64] <;> omega)) ?_)
      | (refine AWP.cond rfl false ?_ ?_; (focus (first | rfl | (simp; omega) | (simp [*]; done)); done); refine AWP.run e tab_ok 300 rfl (by first | trivial | (simp [in64] <;> omega)) ?_)
      | (refine AWP.pick rfl true ?_ ?_; (focus (first | rfl | (simp; omega) | (simp [*]; done)); done); refine AWP.run e tab_ok 300 rfl (by first | trivial | (simp [in64] <;> omega)) ?_)
      | (refine AWP.pick rfl false ?_ ?_; (focus (first | rfl | (simp; omega) | (simp [*]; done)); done); refine AWP.run e tab_ok 300 rfl (by first | trivial | (simp [in64] <;> omega)) ?_)
    )
  refine AWP.eq_agg e tab_ok rfl rfl rfl (.inl ⟨rfl, rfl⟩) (by kernel_rfl) 5 (by omega) rfl (by kernel_rfl) rfl rfl rfl rfl rfl rfl rfl ?_
  refine AWP.run e tab_ok 300 rfl (by first | trivial | (simp [in64] <;> omega)) ?_
  repeat (
    first
      | (refine AWP.guard rfl true ?_ ?_; (focus (first | rfl | (simp; omega) | (simp [*]; done)); done); refine AWP.run e tab_ok 300 rfl (by first | trivial | (simp [in64] <;> omega)) ?_)
      | (refine AWP.guard rfl false ?_ ?_; (focus (first | rfl | (simp; omega) | (simp [*]; done)); done); refine AWP.run e tab_ok 300 rfl (by first | trivial | (simp [in64] <;> omega)) ?_)
      | (refine AWP.cond rfl true ?_ ?_; (focus (first | rfl | (simp; omega) | (simp [*]; done)); done); refine AWP.run e tab_ok 300 rfl (by first | trivial | (simp [in64] <;> omega)) ?_)
      | (refine AWP.cond rfl false ?_ ?_; (focus (first | rfl | (simp; omega) | (simp [*]; done)); done); refine AWP.run e tab_ok 300 rfl (by first | trivial | (simp [in64] <;> omega)) ?_)
      | (refine AWP.pick rfl true ?_ ?_; (focus (first | rfl | (simp; omega) | (simp [*]; done)); done); refine AWP.run e tab_ok 300 rfl (by first | trivial | (simp [in64] <;> omega)) ?_)
      | (refine AWP.pick rfl false ?_ ?_; (focus (first | rfl | (simp; omega) | (simp [*]; done)); done); refine AWP.run e tab_ok 300 rfl (by first | trivial | (simp [in64] <;> omega)) ?_)
    )
  refine AWP.ret e tab_ok rfl ?_
  rw [hP]
  first | rfl | (simp [strip]; done)

theorem steps_eff (k m x mn mx ev fr old cnt v : Int) (l : List Int) (hl : l.length ≤ 9223372036854775807) : Eff Try.prog 3 [.agg (cells k m x mn mx ev fr old cnt), .i v, .d (.sl 1 (ints l))] [] 0 (fun r _ _ => r = .b true) := by
  by_cases hright : rightB k mn mx ev fr cnt = true
  rotate_left
  · exact steps_bad k m x mn mx ev fr old cnt v l hl (by simpa using hright)
  have hr : 1 ≤ k ∧ k ≤ 8 ∧ mn ≤ mx ∧ 0 ≤ cnt ∧ cnt ≤ 1099511627776 ∧ (k = 8 → 1 ≤ ev ∧ ev ≤ 1000000 ∧ 0 ≤ fr ∧ fr < ev) := by
    have := hright; unfold rightB at this; exact of_decide_eq_true this
  by_cases hfull : cnt = 1099511627776
  · by_cases hlate : cnt + (l.take 40).length ≤ 1099511627776
    · exact steps_0 k m x mn mx ev fr old cnt v l hl hright hfull hlate
    · exact steps_1 k m x mn mx ev fr old cnt v l hl hright hfull hlate
  · by_cases hlate : cnt + (l.take 40).length ≤ 1099511627776
    · exact steps_2 k m x mn mx ev fr old cnt v l hl hright (by omega) hlate
    · exact steps_3 k m x mn mx ev fr old cnt v l hl hright (by omega) hlate

set_option maxRecDepth 100000 in
theorem steps_args (l : List SV) (h : Args tab 9 [23, 2, 24] l) : Eff Try.prog 3 l [] 0 (fun r _ _ => r = .b true) := by
  obtain ⟨_, _, rfl, ⟨_, _, rfl, ⟨k, rfl, _, _⟩, _, _, rfl, ⟨m, rfl, _, _⟩, _, _, rfl, ⟨x, rfl, _, _⟩, _, _, rfl, ⟨mn, rfl, _, _⟩, _, _, rfl, ⟨mx, rfl, _, _⟩, _, _, rfl, ⟨ev, rfl, _, _⟩, _, _, rfl, ⟨fr, rfl, _, _⟩, _, _, rfl, ⟨old, rfl, _, _⟩, _, _, rfl, ⟨cnt, rfl, _, _⟩, rfl⟩,
    _, _, rfl, ⟨v, rfl, _, _⟩, _, _, rfl, ⟨ys, rfl, hl, he⟩, rfl⟩ := h
  obtain ⟨l, rfl, _⟩ := ints_of (T := tab) (t := 2) rfl rfl ys he
  exact steps_eff k m x mn mx ev fr old cnt v l (by simpa using hl)

end Go.Proofs.Ytlmakgadjjpleaa
