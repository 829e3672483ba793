import Derived.Test.YtlmakgadjjpleaaF1
open Go Go.Proofs Go.Sy
namespace Go.Proofs.Ytlmakgadjjpleaa

def fnv (f : Nat) : DV := .v (.func (.func f) #[] #[])
def kindsV : List SV := [.d (.v .nilFunc), .fn (.func 22) [] [], .fn (.func 21) [] [.ip [fnv 22]], .fn (.func 19) [] [], .fn (.func 21) [] [.ip [fnv 19]], .fn (.func 23) [] [], .fn (.func 18) [] [], .fn (.func 21) [] [.ip [fnv 18]], .fn (.func 24) [] []]

set_option maxRecDepth 100000 in
theorem kinds_eff : Eff Try.prog 17 [] [] 0 (fun r _ _ => r = .agg kindsV) := by
  refine eff_of Try.func17 rfl rfl rfl fun cx e hP => ?_
  refine AWP.run e tab_ok 300 rfl (by first | trivial | (simp [in64] <;> omega)) ?_
  refine AWP.enter e rfl Try.func20 rfl rfl rfl rfl fun cx' e' hP' => ?_
  refine AWP.run e' tab_ok 300 rfl (by simp) ?_
  refine AWP.ret e' tab_ok rfl ?_
  rw [hP']
  show AWP cx _ _
  refine AWP.run e tab_ok 300 rfl (by first | trivial | (simp [in64] <;> omega)) ?_
  refine AWP.enter e rfl Try.func20 rfl rfl rfl rfl fun cx' e' hP' => ?_
  refine AWP.run e' tab_ok 300 rfl (by simp) ?_
  refine AWP.ret e' tab_ok rfl ?_
  rw [hP']
  show AWP cx _ _
  refine AWP.run e tab_ok 300 rfl (by first | trivial | (simp [in64] <;> omega)) ?_
  refine AWP.enter e rfl Try.func20 rfl rfl rfl rfl fun cx' e' hP' => ?_
  refine AWP.run e' tab_ok 300 rfl (by simp) ?_
  refine AWP.ret e' tab_ok rfl ?_
  rw [hP']
  show AWP cx _ _
  refine AWP.run e tab_ok 300 rfl (by first | trivial | (simp [in64] <;> omega)) ?_
  refine AWP.freezeB (id := 1) rfl rfl rfl rfl ?_
  refine AWP.freezeB (id := 2) rfl rfl rfl rfl ?_
  refine AWP.freezeB (id := 3) rfl rfl rfl rfl ?_
  refine AWP.ret e tab_ok rfl ?_
  rw [hP]
  rfl

def passesB (k m x mn mx ev fr old cnt v : Int) : Bool :=
  if k = 1 then true else if k = 3 then andI v m == x else if k = 4 then !(andI v m == x) else if k = 5 then andI v m != andI old m
  else if k = 6 then decide (mn ≤ v) && decide (v ≤ mx) else if k = 7 then !(decide (mn ≤ v) && decide (v ≤ mx)) else if k = 8 then cnt.tmod ev == fr else false

set_option maxRecDepth 100000 in
theorem passes_bad (k m x mn mx ev fr old cnt v : Int) (h : rightB k mn mx ev fr cnt = false) : Eff Try.prog 7 [.agg (cells k m x mn mx ev fr old cnt), .i v] [] 0 (fun r _ _ => r = .tup [.b false, .i 1]) := by
  refine eff_of Try.func7 rfl rfl rfl fun cx e hP => ?_
  refine AWP.run e tab_ok 300 rfl (by first | trivial | (simp [in64] <;> omega)) ?_
  refine AWP.call e (right_eff k m x mn mx ev fr old cnt) rfl [] (.cons (.refl _) .nil) rfl rfl ?_
  rintro _ _ _ rfl
  refine ⟨rfl, .inl rfl, ?_⟩
  rw [h]
  refine AWP.run e tab_ok 300 rfl (by first | trivial | (simp [in64] <;> omega)) ?_
  repeat' (
    first
      | (refine AWP.ret e tab_ok rfl ?_; rw [hP])
      | (refine AWP.fin e tab_ok rfl ?_; rw [hP])
      | (first
        | (refine AWP.guard rfl true ?_ ?_; (focus (first | rfl | (simp; omega) | (simp [*]; done)); done))
        | (refine AWP.guard rfl false ?_ ?_; (focus (first | rfl | (simp; omega) | (simp [*]; done)); done))
        | (refine AWP.guard2 rfl (fun h => ?_) (fun h => ?_) <;> (try simp only [decide_eq_true_eq, decide_eq_false_iff_not, bne_iff_ne, beq_iff_eq, beq_eq_false_iff_ne, bne_eq_false_iff_eq, ne_eq, Bool.not_eq_true', Bool.not_eq_false', Bool.and_eq_true, Bool.and_eq_false_iff, Bool.or_eq_true, Bool.or_eq_false_iff] at h))
        | (refine AWP.cond rfl true ?_ ?_; (focus (first | rfl | (simp; omega) | (simp [*]; done)); done))
        | (refine AWP.cond rfl false ?_ ?_; (focus (first | rfl | (simp; omega) | (simp [*]; done)); done))
        | (refine AWP.cond2 rfl (fun h => ?_) (fun h => ?_) <;> (try simp only [decide_eq_true_eq, decide_eq_false_iff_not, bne_iff_ne, beq_iff_eq, beq_eq_false_iff_ne, bne_eq_false_iff_eq, ne_eq, Bool.not_eq_true', Bool.not_eq_false', Bool.and_eq_true, Bool.and_eq_false_iff, Bool.or_eq_true, Bool.or_eq_false_iff] at h))
        | (refine AWP.pick rfl true ?_ ?_; (focus (first | rfl | (simp; omega) | (simp [*]; done)); done))
        | (refine AWP.pick rfl false ?_ ?_; (focus (first | rfl | (simp; omega) | (simp [*]; done)); done))
        | (refine AWP.pick2 rfl (fun h => ?_) (fun h => ?_) <;> (try simp only [decide_eq_true_eq, decide_eq_false_iff_not, bne_iff_ne, beq_iff_eq, beq_eq_false_iff_ne, bne_eq_false_iff_eq, ne_eq, Bool.not_eq_true', Bool.not_eq_false', Bool.and_eq_true, Bool.and_eq_false_iff, Bool.or_eq_true, Bool.or_eq_false_iff] at h))) <;>
        refine AWP.run e tab_ok 300 rfl (by first | trivial | (simp [in64] <;> omega)) ?_
    )
  all_goals rfl

theorem cvl_refl (hp : List (Nat × Blk)) (lend : List Nat) : ∀ l : List SV, CvL hp lend l l
  | [] => .nil
  | x :: l => .cons (.refl x) (cvl_refl hp lend l)

set_option maxRecDepth 100000 in
theorem passes_via (k m x mn mx ev fr old cnt v : Int) (h : rightB k mn mx ev fr cnt = true) (n : Nat) (hn : n < 9) (hk : k = n) (f : Nat) (caps : List SV) (hv : part1 false 1 (n * 1) kindsV = .val (.fn (.func f) [] caps) True) (β : Bool)
    (hE : Eff Try.prog f ([.agg (cells k m x mn mx ev fr old cnt), .i v] ++ caps) [] 0 (fun r _ _ => r = .b β)) (hno : SV.noIds.go caps = true) : Eff Try.prog 7 [.agg (cells k m x mn mx ev fr old cnt), .i v] [] 0 (fun r _ _ => r = .tup [.b β, .i 0]) := by
  refine eff_of Try.func7 rfl rfl rfl fun cx e hP => ?_
  refine AWP.run e tab_ok 300 rfl (by first | trivial | (simp [in64] <;> omega)) ?_
  refine AWP.call e (right_eff k m x mn mx ev fr old cnt) rfl [] (.cons (.refl _) .nil) rfl rfl ?_
  rintro _ _ _ rfl
  refine ⟨rfl, .inl rfl, ?_⟩
  rw [h]
  refine AWP.run e tab_ok 300 rfl (by first | trivial | (simp [in64] <;> omega)) ?_
  refine AWP.cond rfl false rfl ?_
  refine AWP.run e tab_ok 300 rfl (by first | trivial | (simp [in64] <;> omega)) ?_
  refine AWP.dr ?_
  refine Dr.step rfl (VStep.call e kinds_eff rfl [] .nil rfl rfl rfl (.inl rfl)) ?_
  repeat (
    first
      | (refine Dr.step rfl (VStep.ev e tab_ok rfl rfl ?_) ?_; (focus (first | assumption | with_reducible trivial | rfl | (simp; omega) | (simp [*]; done))))
      | (refine Dr.step rfl (VStep.go rfl (VStep.ev e tab_ok rfl rfl ?_)) ?_; (focus (first | assumption | with_reducible trivial | rfl | (simp; omega) | (simp [*]; done))))
      | (refine Dr.step rfl (VStep.goA rfl ?_ (VStep.ev e tab_ok rfl rfl ?_)) ?_; (focus (first | assumption | with_reducible trivial | rfl | (simp; omega) | (simp [*]; done))); (focus (first | assumption | with_reducible trivial | rfl | (simp; omega) | (simp [*]; done))))
      | refine Dr.step rfl (VStep.not e rfl rfl rfl) ?_
      | (refine Dr.step rfl (VStep.notA e rfl rfl ?_) ?_; (focus (first | assumption | with_reducible trivial | rfl | (simp; omega) | (simp [*]; done))))
      | refine Dr.step rfl (VStep.un e rfl rfl) ?_
      | (refine Dr.step rfl (VStep.pickA e rfl rfl (v := true) ?_ rfl) ?_; (focus (first | assumption | with_reducible trivial | rfl | (simp; omega) | (simp [*]; done))))
      | (refine Dr.step rfl (VStep.pickA e rfl rfl (v := false) ?_ rfl) ?_; (focus (first | assumption | with_reducible trivial | rfl | (simp; omega) | (simp [*]; done))))
    )
  refine Dr.step rfl (VStep.idx_agg e tab_ok rfl rfl rfl rfl rfl n hk hn hv) ?_
  repeat (
    first
      | (refine Dr.step rfl (VStep.ev e tab_ok rfl rfl ?_) ?_; (focus (first | assumption | with_reducible trivial | rfl | (simp; omega) | (simp [*]; done))))
      | (refine Dr.step rfl (VStep.go rfl (VStep.ev e tab_ok rfl rfl ?_)) ?_; (focus (first | assumption | with_reducible trivial | rfl | (simp; omega) | (simp [*]; done))))
      | (refine Dr.step rfl (VStep.goA rfl ?_ (VStep.ev e tab_ok rfl rfl ?_)) ?_; (focus (first | assumption | with_reducible trivial | rfl | (simp; omega) | (simp [*]; done))); (focus (first | assumption | with_reducible trivial | rfl | (simp; omega) | (simp [*]; done))))
      | refine Dr.step rfl (VStep.not e rfl rfl rfl) ?_
      | (refine Dr.step rfl (VStep.notA e rfl rfl ?_) ?_; (focus (first | assumption | with_reducible trivial | rfl | (simp; omega) | (simp [*]; done))))
      | refine Dr.step rfl (VStep.un e rfl rfl) ?_
      | (refine Dr.step rfl (VStep.pickA e rfl rfl (v := true) ?_ rfl) ?_; (focus (first | assumption | with_reducible trivial | rfl | (simp; omega) | (simp [*]; done))))
      | (refine Dr.step rfl (VStep.pickA e rfl rfl (v := false) ?_ rfl) ?_; (focus (first | assumption | with_reducible trivial | rfl | (simp; omega) | (simp [*]; done))))
    )
  refine Dr.step rfl (VStep.call e hE rfl [] (.cons (.refl _) (.cons (.refl _) (cvl_refl _ _ _))) hno rfl rfl (.inl rfl)) ?_
  repeat (
    first
      | (refine Dr.step rfl (VStep.ev e tab_ok rfl rfl ?_) ?_; (focus (first | assumption | with_reducible trivial | rfl | (simp; omega) | (simp [*]; done))))
      | (refine Dr.step rfl (VStep.go rfl (VStep.ev e tab_ok rfl rfl ?_)) ?_; (focus (first | assumption | with_reducible trivial | rfl | (simp; omega) | (simp [*]; done))))
      | (refine Dr.step rfl (VStep.goA rfl ?_ (VStep.ev e tab_ok rfl rfl ?_)) ?_; (focus (first | assumption | with_reducible trivial | rfl | (simp; omega) | (simp [*]; done))); (focus (first | assumption | with_reducible trivial | rfl | (simp; omega) | (simp [*]; done))))
      | refine Dr.step rfl (VStep.not e rfl rfl rfl) ?_
      | (refine Dr.step rfl (VStep.notA e rfl rfl ?_) ?_; (focus (first | assumption | with_reducible trivial | rfl | (simp; omega) | (simp [*]; done))))
      | refine Dr.step rfl (VStep.un e rfl rfl) ?_
      | (refine Dr.step rfl (VStep.pickA e rfl rfl (v := true) ?_ rfl) ?_; (focus (first | assumption | with_reducible trivial | rfl | (simp; omega) | (simp [*]; done))))
      | (refine Dr.step rfl (VStep.pickA e rfl rfl (v := false) ?_ rfl) ?_; (focus (first | assumption | with_reducible trivial | rfl | (simp; omega) | (simp [*]; done))))
    )
  refine Dr.fin e rfl rfl (by kernel_rfl) ?_
  refine AWP.run e tab_ok 300 rfl (by first | trivial | (simp [in64] <;> omega)) ?_
  refine AWP.ret e tab_ok rfl ?_
  rw [hP]
  rfl

theorem passes_ok (k m x mn mx ev fr old cnt v : Int) (h : rightB k mn mx ev fr cnt = true) : Eff Try.prog 7 [.agg (cells k m x mn mx ev fr old cnt), .i v] [] 0 (fun r _ _ => r = .tup [.b (passesB k m x mn mx ev fr old cnt v), .i 0]) := by
  have hr : 1 ≤ k ∧ k ≤ 8 ∧ mn ≤ mx ∧ 0 ≤ cnt ∧ cnt ≤ 1099511627776 ∧ (k = 8 → 1 ≤ ev ∧ ev ≤ 1000000 ∧ 0 ≤ fr ∧ fr < ev) := by
    have := h; unfold rightB at this; exact of_decide_eq_true this
  have hc : k = 1 ∨ k = 2 ∨ k = 3 ∨ k = 4 ∨ k = 5 ∨ k = 6 ∨ k = 7 ∨ k = 8 := by omega
  obtain rfl | rfl | rfl | rfl | rfl | rfl | rfl | rfl := hc
  · exact passes_via 1 m x mn mx ev fr old cnt v h 1 (by omega) rfl 22 [] rfl _ (f22_eff 1 m x mn mx ev fr old cnt v) rfl
  · exact passes_via 2 m x mn mx ev fr old cnt v h 2 (by omega) rfl 21 _ rfl _ (not22_eff 2 m x mn mx ev fr old cnt v) rfl
  · exact passes_via 3 m x mn mx ev fr old cnt v h 3 (by omega) rfl 19 _ rfl _ (f19_eff 3 m x mn mx ev fr old cnt v) rfl
  · exact passes_via 4 m x mn mx ev fr old cnt v h 4 (by omega) rfl 21 _ rfl _ (not19_eff 4 m x mn mx ev fr old cnt v) rfl
  · have := f23_eff 5 m x mn mx ev fr old cnt v
    rw [xor_and] at this
    exact passes_via 5 m x mn mx ev fr old cnt v h 5 (by omega) rfl 23 [] rfl _ this rfl
  · exact passes_via 6 m x mn mx ev fr old cnt v h 6 (by omega) rfl 18 [] rfl _ (f18_eff 6 m x mn mx ev fr old cnt v) rfl
  · exact passes_via 7 m x mn mx ev fr old cnt v h 7 (by omega) rfl 21 _ rfl _ (not18_eff 7 m x mn mx ev fr old cnt v) rfl
  · exact passes_via 8 m x mn mx ev fr old cnt v h 8 (by omega) rfl 24 [] rfl _ (f24_eff 8 m x mn mx ev fr old cnt v (by omega)) rfl

abbrev rcells (c : List SV) (is : Bool) (v : Int) : List SV := c

set_option maxRecDepth 100000 in
theorem step_bad (k m x mn mx ev fr old cnt v : Int) (h : rightB k mn mx ev fr cnt = false) : Eff Try.prog 8 [.agg (cells k m x mn mx ev fr old cnt), .i v] [] 0 (fun r _ _ => r = .tup [.agg (cells 0 0 0 0 0 0 0 0 0), .b false, .i 1]) := by
  refine eff_of Try.func8 rfl rfl rfl fun cx e hP => ?_
  refine AWP.run e tab_ok 300 rfl (by first | trivial | (simp [in64] <;> omega)) ?_
  refine AWP.call e (passes_bad k m x mn mx ev fr old cnt v h) rfl [] (.cons (.refl _) (.cons (.refl _) .nil)) rfl rfl ?_
  rintro _ _ _ rfl
  refine ⟨rfl, .inl rfl, ?_⟩
  refine AWP.run e tab_ok 300 rfl (by first | trivial | (simp [in64] <;> omega)) ?_
  repeat' (
    first
      | (refine AWP.ret e tab_ok rfl ?_; rw [hP])
      | (refine AWP.fin e tab_ok rfl ?_; rw [hP])
      | (first
        | (refine AWP.guard rfl true ?_ ?_; (focus (first | rfl | (simp; omega) | (simp [*]; done)); done))
        | (refine AWP.guard rfl false ?_ ?_; (focus (first | rfl | (simp; omega) | (simp [*]; done)); done))
        | (refine AWP.guard2 rfl (fun h => ?_) (fun h => ?_) <;> (try simp only [decide_eq_true_eq, decide_eq_false_iff_not, bne_iff_ne, beq_iff_eq, beq_eq_false_iff_ne, bne_eq_false_iff_eq, ne_eq, Bool.not_eq_true', Bool.not_eq_false', Bool.and_eq_true, Bool.and_eq_false_iff, Bool.or_eq_true, Bool.or_eq_false_iff] at h))
        | (refine AWP.cond rfl true ?_ ?_; (focus (first | rfl | (simp; omega) | (simp [*]; done)); done))
        | (refine AWP.cond rfl false ?_ ?_; (focus (first | rfl | (simp; omega) | (simp [*]; done)); done))
        | (refine AWP.cond2 rfl (fun h => ?_) (fun h => ?_) <;> (try simp only [decide_eq_true_eq, decide_eq_false_iff_not, bne_iff_ne, beq_iff_eq, beq_eq_false_iff_ne, bne_eq_false_iff_eq, ne_eq, Bool.not_eq_true', Bool.not_eq_false', Bool.and_eq_true, Bool.and_eq_false_iff, Bool.or_eq_true, Bool.or_eq_false_iff] at h))
        | (refine AWP.pick rfl true ?_ ?_; (focus (first | rfl | (simp; omega) | (simp [*]; done)); done))
        | (refine AWP.pick rfl false ?_ ?_; (focus (first | rfl | (simp; omega) | (simp [*]; done)); done))
        | (refine AWP.pick2 rfl (fun h => ?_) (fun h => ?_) <;> (try simp only [decide_eq_true_eq, decide_eq_false_iff_not, bne_iff_ne, beq_iff_eq, beq_eq_false_iff_ne, bne_eq_false_iff_eq, ne_eq, Bool.not_eq_true', Bool.not_eq_false', Bool.and_eq_true, Bool.and_eq_false_iff, Bool.or_eq_true, Bool.or_eq_false_iff] at h))) <;>
        refine AWP.run e tab_ok 300 rfl (by first | trivial | (simp [in64] <;> omega)) ?_
    )
  all_goals rfl

set_option maxRecDepth 100000 in
theorem step_late (k m x mn mx ev fr old cnt v : Int) (h : rightB k mn mx ev fr cnt = true) (hc : cnt = 1099511627776) : Eff Try.prog 8 [.agg (cells k m x mn mx ev fr old cnt), .i v] [] 0 (fun r _ _ => r = .tup [.agg (cells 0 0 0 0 0 0 0 0 0), .b false, .i 1]) := by
  refine eff_of Try.func8 rfl rfl rfl fun cx e hP => ?_
  refine AWP.run e tab_ok 300 rfl (by first | trivial | (simp [in64] <;> omega)) ?_
  refine AWP.call e (passes_ok k m x mn mx ev fr old cnt v h) rfl [] (.cons (.refl _) (.cons (.refl _) .nil)) rfl rfl ?_
  rintro _ _ _ rfl
  refine ⟨rfl, .inl rfl, ?_⟩
  refine AWP.run e tab_ok 300 rfl (by first | trivial | (simp [in64] <;> omega)) ?_
  repeat' (
    first
      | (refine AWP.ret e tab_ok rfl ?_; rw [hP])
      | (refine AWP.fin e tab_ok rfl ?_; rw [hP])
      | (first
        | (refine AWP.guard rfl true ?_ ?_; (focus (first | rfl | (simp; omega) | (simp [*]; done)); done))
        | (refine AWP.guard rfl false ?_ ?_; (focus (first | rfl | (simp; omega) | (simp [*]; done)); done))
        | (refine AWP.guard2 rfl (fun h => ?_) (fun h => ?_) <;> (try simp only [decide_eq_true_eq, decide_eq_false_iff_not, bne_iff_ne, beq_iff_eq, beq_eq_false_iff_ne, bne_eq_false_iff_eq, ne_eq, Bool.not_eq_true', Bool.not_eq_false', Bool.and_eq_true, Bool.and_eq_false_iff, Bool.or_eq_true, Bool.or_eq_false_iff] at h))
        | (refine AWP.cond rfl true ?_ ?_; (focus (first | rfl | (simp; omega) | (simp [*]; done)); done))
        | (refine AWP.cond rfl false ?_ ?_; (focus (first | rfl | (simp; omega) | (simp [*]; done)); done))
        | (refine AWP.cond2 rfl (fun h => ?_) (fun h => ?_) <;> (try simp only [decide_eq_true_eq, decide_eq_false_iff_not, bne_iff_ne, beq_iff_eq, beq_eq_false_iff_ne, bne_eq_false_iff_eq, ne_eq, Bool.not_eq_true', Bool.not_eq_false', Bool.and_eq_true, Bool.and_eq_false_iff, Bool.or_eq_true, Bool.or_eq_false_iff] at h))
        | (refine AWP.pick rfl true ?_ ?_; (focus (first | rfl | (simp; omega) | (simp [*]; done)); done))
        | (refine AWP.pick rfl false ?_ ?_; (focus (first | rfl | (simp; omega) | (simp [*]; done)); done))
        | (refine AWP.pick2 rfl (fun h => ?_) (fun h => ?_) <;> (try simp only [decide_eq_true_eq, decide_eq_false_iff_not, bne_iff_ne, beq_iff_eq, beq_eq_false_iff_ne, bne_eq_false_iff_eq, ne_eq, Bool.not_eq_true', Bool.not_eq_false', Bool.and_eq_true, Bool.and_eq_false_iff, Bool.or_eq_true, Bool.or_eq_false_iff] at h))) <;>
        refine AWP.run e tab_ok 300 rfl (by first | trivial | (simp [in64] <;> omega)) ?_
    )
  all_goals first | rfl | omega

set_option maxRecDepth 100000 in
theorem step_ok (k m x mn mx ev fr old cnt v : Int) (h : rightB k mn mx ev fr cnt = true) (hc : cnt < 1099511627776) (hc0 : 0 ≤ cnt) : Eff Try.prog 8 [.agg (cells k m x mn mx ev fr old cnt), .i v] [] 0 (fun r _ _ => r = .tup [.agg (cells k m x mn mx ev fr (if passesB k m x mn mx ev fr old cnt v = true then v else old) (cnt + 1)), .b (passesB k m x mn mx ev fr old cnt v), .i 0]) := by
  refine eff_of Try.func8 rfl rfl rfl fun cx e hP => ?_
  refine AWP.run e tab_ok 300 rfl (by first | trivial | (simp [in64] <;> omega)) ?_
  refine AWP.call e (passes_ok k m x mn mx ev fr old cnt v h) rfl [] (.cons (.refl _) (.cons (.refl _) .nil)) rfl rfl ?_
  rintro _ _ _ rfl
  refine ⟨rfl, .inl rfl, ?_⟩
  generalize passesB k m x mn mx ev fr old cnt v = is at hP ⊢
  refine AWP.run e tab_ok 300 rfl (by first | trivial | (simp [in64] <;> omega)) ?_
  repeat' (
    first
      | (refine AWP.ret e tab_ok rfl ?_; rw [hP])
      | (refine AWP.fin e tab_ok rfl ?_; rw [hP])
      | (first
        | (refine AWP.guard rfl true ?_ ?_; (focus (first | rfl | (simp; omega) | (simp [*]; done)); done))
        | (refine AWP.guard rfl false ?_ ?_; (focus (first | rfl | (simp; omega) | (simp [*]; done)); done))
        | (refine AWP.guard2 rfl (fun h => ?_) (fun h => ?_) <;> (try simp only [decide_eq_true_eq, decide_eq_false_iff_not, bne_iff_ne, beq_iff_eq, beq_eq_false_iff_ne, bne_eq_false_iff_eq, ne_eq, Bool.not_eq_true', Bool.not_eq_false', Bool.and_eq_true, Bool.and_eq_false_iff, Bool.or_eq_true, Bool.or_eq_false_iff] at h))
        | (refine AWP.cond rfl true ?_ ?_; (focus (first | rfl | (simp; omega) | (simp [*]; done)); done))
        | (refine AWP.cond rfl false ?_ ?_; (focus (first | rfl | (simp; omega) | (simp [*]; done)); done))
        | (refine AWP.cond2 rfl (fun h => ?_) (fun h => ?_) <;> (try simp only [decide_eq_true_eq, decide_eq_false_iff_not, bne_iff_ne, beq_iff_eq, beq_eq_false_iff_ne, bne_eq_false_iff_eq, ne_eq, Bool.not_eq_true', Bool.not_eq_false', Bool.and_eq_true, Bool.and_eq_false_iff, Bool.or_eq_true, Bool.or_eq_false_iff] at h))
        | (refine AWP.pick rfl true ?_ ?_; (focus (first | rfl | (simp; omega) | (simp [*]; done)); done))
        | (refine AWP.pick rfl false ?_ ?_; (focus (first | rfl | (simp; omega) | (simp [*]; done)); done))
        | (refine AWP.pick2 rfl (fun h => ?_) (fun h => ?_) <;> (try simp only [decide_eq_true_eq, decide_eq_false_iff_not, bne_iff_ne, beq_iff_eq, beq_eq_false_iff_ne, bne_eq_false_iff_eq, ne_eq, Bool.not_eq_true', Bool.not_eq_false', Bool.and_eq_true, Bool.and_eq_false_iff, Bool.or_eq_true, Bool.or_eq_false_iff] at h))) <;>
        refine AWP.run e tab_ok 300 rfl (by first | trivial | (simp [in64] <;> omega)) ?_
    )
  all_goals (simp [strip, *]; done)

end Go.Proofs.Ytlmakgadjjpleaa
