import Derived.Test.YtkcdmibpmoknmaaF4
open Go Go.Proofs Go.Sy
namespace Go.Proofs.Ytkcdmibpmoknmaa

set_option maxRecDepth 100000 in
theorem refRight_eff (l : List ByteArray) (c : Int) : Eff Try.prog 17 [slS l, .i c] [] 0 (fun r _ _ => r = .b (rightR l.length c)) := by
  refine eff_of Try.func17 rfl rfl rfl fun cx e hP => ?_
  refine AWP.runL e tab_ok L17 300 rfl (by first | trivial | (simp [in64] <;> omega)) ?_
  repeat' (
    first
      | (refine AWP.ret e tab_ok rfl ?_; rw [hP])
      | (refine AWP.fin e tab_ok rfl ?_; rw [hP])
      | (first
        | (refine AWP.askT rfl ?_; (first | (refine Told.t rfl ?_) | (refine Told.f rfl ?_) | (refine Told.t ?_ ?_; (focus (first | assumption | (simp; omega) | (simp [*]; done)); done)) | (refine Told.f ?_ ?_; (focus (first | assumption | (simp; omega) | (simp [*]; done)); done)) | (refine Told.both (fun h => ?_) (fun h => ?_) <;> (try simp only [decide_eq_true_eq, decide_eq_false_iff_not] at h))))) <;>
        refine AWP.runL e tab_ok L17 300 rfl (by first | trivial | (simp [in64] <;> omega)) ?_
    )
  all_goals (first | rfl | (first | refine congrArg SV.b ?_ | skip); (try rw [Bool.eq_iff_iff]); simp only [decide_eq_true_eq, Bool.false_eq_true, false_iff, List.length_map, rightR] at *; omega)

theorem bytes_inj (a b : ByteArray) : a.toList = b.toList ↔ a = b := by
  constructor
  · intro h
    rw [ByteArray.toList_eq, ByteArray.toList_eq] at h
    cases a; cases b
    exact congrArg _ (Array.toList_inj.1 h)
  · rintro rfl; rfl

set_option maxRecDepth 100000 in
theorem sameS_eff (a b : List ByteArray) (ha : a.length ≤ 1099511627776) : Eff Try.prog 26 [slS a, slS b] [] 0 (fun r _ _ => r = .b (decide (a = b))) := by
  refine eff_of Try.func26 rfl rfl rfl fun cx e hP => ?_
  refine AWP.runL e tab_ok L26 300 rfl (by first | trivial | (simp [in64] <;> omega)) ?_
  refine AWP.cond2 rfl (fun hne => ?_) (fun hne => ?_)
  · refine AWP.runL e tab_ok L26 300 rfl (by first | trivial | (simp [in64] <;> omega)) ?_
    refine AWP.ret e tab_ok rfl ?_
    rw [hP]
    have hne : a.length ≠ b.length := by simpa [bne_iff_ne, Int.natCast_inj] using hne
    show SV.b false = SV.b (decide (a = b))
    have : (decide (a = b)) = false := by
      rw [decide_eq_false_iff_not]
      rintro rfl
      exact hne rfl
    rw [this]
  · have hne : a.length = b.length := by
      have := hne; simp [bne_eq_false_iff_eq] at this; omega
    refine AWP.runL e tab_ok L26 300 rfl (by first | trivial | (simp [in64] <;> omega)) ?_
    refine AWP.loop (ι := Nat) (fun i => ⟨[(13, .i i), (12, .i (rowS a).length), (0, slS a), (1, slS b)], [], 0⟩) (fun i => i ≤ a.length ∧ a.take i = b.take i) (fun i => a.length - i) 0 ⟨Nat.zero_le _, rfl⟩ ?_ ?_
    · intro g
      refine AWP.less e ?_ ?_ ?_ ?_ ?_ g
      · exact ⟨rfl, rfl, rfl, rfl, trivial⟩
      · exact trivial
      · rfl
      · exact trivial
      · rfl
    rintro i Φ ⟨hi, hs⟩ next
    refine AWP.runL e tab_ok L26 300 rfl (by first | trivial | (simp [in64] <;> omega)) ?_
    refine AWP.cond2 rfl (fun hlt => ?_) (fun hlt => ?_)
    · have hlt : i < a.length := by simpa using hlt
      have hlb : i < b.length := by omega
      refine AWP.runL e tab_ok L26 300 rfl (by first | trivial | (simp [in64] <;> omega)) ?_
      refine AWP.keep L26 rfl ?_
      refine AWP.drg 10 ?_
      (refine DrG.runN e tab_ok 200 rfl (by first | trivial | (simp [in64] <;> omega)) ?_)
      repeat (
        first
          | (refine DrG.v rfl (fun _ => VStep.goA rfl ?_ (VStep.ev e tab_ok rfl rfl ?_)) rfl ?_; (focus (first | rfl | assumption | (simp; done))); (focus (first | assumption | with_reducible trivial | rfl | (simp; omega) | (simp [in64]; omega) | (simp [*]; done))); (refine DrG.runN e tab_ok 200 rfl (by first | trivial | (simp [in64] <;> omega)) ?_))
          | (refine DrG.loadGoA e tab_ok rfl ?_ rfl rfl rfl rfl rfl rfl ?_; (focus (first | rfl | assumption | (simp; done))); (refine DrG.runN e tab_ok 200 rfl (by first | trivial | (simp [in64] <;> omega)) ?_))
          | (refine DrG.v rfl (fun _ => VStep.notA e rfl rfl ?_) rfl ?_; (focus (first | rfl | assumption | (simp; done))); (refine DrG.runN e tab_ok 200 rfl (by first | trivial | (simp [in64] <;> omega)) ?_))
          | (refine DrG.v rfl (fun _ => VStep.pickA e rfl rfl (v := true) ?_ rfl) rfl ?_; (focus (first | rfl | assumption | (simp; done))); (refine DrG.runN e tab_ok 200 rfl (by first | trivial | (simp [in64] <;> omega)) ?_))
          | (refine DrG.v rfl (fun _ => VStep.pickA e rfl rfl (v := false) ?_ rfl) rfl ?_; (focus (first | rfl | assumption | (simp; done))); (refine DrG.runN e tab_ok 200 rfl (by first | trivial | (simp [in64] <;> omega)) ?_))
          | (refine DrG.v rfl (fun _ => VStep.goA rfl ?_ (VStep.ev e tab_ok rfl rfl ?_)) rfl ?_; (focus (first | assumption | with_reducible trivial | rfl | (simp; omega) | (simp [in64]; omega) | (simp [*]; done))); (focus (first | assumption | with_reducible trivial | rfl | (simp; omega) | (simp [in64]; omega) | (simp [*]; done))); (refine DrG.runN e tab_ok 200 rfl (by first | trivial | (simp [in64] <;> omega)) ?_))
          | (refine DrG.loadGoA e tab_ok rfl ?_ rfl rfl rfl rfl rfl rfl ?_; (focus (first | assumption | with_reducible trivial | rfl | (simp; omega) | (simp [in64]; omega) | (simp [*]; done))); (refine DrG.runN e tab_ok 200 rfl (by first | trivial | (simp [in64] <;> omega)) ?_))
          | (refine DrG.v rfl (fun _ => VStep.notA e rfl rfl ?_) rfl ?_; (focus (first | assumption | with_reducible trivial | rfl | (simp; omega) | (simp [in64]; omega) | (simp [*]; done))); (refine DrG.runN e tab_ok 200 rfl (by first | trivial | (simp [in64] <;> omega)) ?_))
          | (refine DrG.v rfl (fun _ => VStep.pickA e rfl rfl (v := true) ?_ rfl) rfl ?_; (focus (first | assumption | with_reducible trivial | rfl | (simp; omega) | (simp [in64]; omega) | (simp [*]; done))); (refine DrG.runN e tab_ok 200 rfl (by first | trivial | (simp [in64] <;> omega)) ?_))
          | (refine DrG.v rfl (fun _ => VStep.pickA e rfl rfl (v := false) ?_ rfl) rfl ?_; (focus (first | assumption | with_reducible trivial | rfl | (simp; omega) | (simp [in64]; omega) | (simp [*]; done))); (refine DrG.runN e tab_ok 200 rfl (by first | trivial | (simp [in64] <;> omega)) ?_))
          | (refine DrG.v rfl (fun _ => VStep.goA rfl ?_ (VStep.pickA e rfl rfl (v := true) ?_ rfl)) rfl ?_; (focus (first | assumption | with_reducible trivial | rfl | (simp; omega) | (simp [in64]; omega) | (simp [*]; done))); (focus (first | assumption | with_reducible trivial | rfl | (simp; omega) | (simp [in64]; omega) | (simp [*]; done))); (refine DrG.runN e tab_ok 200 rfl (by first | trivial | (simp [in64] <;> omega)) ?_))
          | (refine DrG.v rfl (fun _ => VStep.go rfl (VStep.pickA e rfl rfl (v := true) ?_ rfl)) rfl ?_; (focus (first | assumption | with_reducible trivial | rfl | (simp; omega) | (simp [in64]; omega) | (simp [*]; done))); (refine DrG.runN e tab_ok 200 rfl (by first | trivial | (simp [in64] <;> omega)) ?_))
          | (refine DrG.v rfl (fun _ => VStep.goA rfl ?_ (VStep.pickA e rfl rfl (v := false) ?_ rfl)) rfl ?_; (focus (first | assumption | with_reducible trivial | rfl | (simp; omega) | (simp [in64]; omega) | (simp [*]; done))); (focus (first | assumption | with_reducible trivial | rfl | (simp; omega) | (simp [in64]; omega) | (simp [*]; done))); (refine DrG.runN e tab_ok 200 rfl (by first | trivial | (simp [in64] <;> omega)) ?_))
          | (refine DrG.v rfl (fun _ => VStep.go rfl (VStep.pickA e rfl rfl (v := false) ?_ rfl)) rfl ?_; (focus (first | assumption | with_reducible trivial | rfl | (simp; omega) | (simp [in64]; omega) | (simp [*]; done))); (refine DrG.runN e tab_ok 200 rfl (by first | trivial | (simp [in64] <;> omega)) ?_))
        )
      refine DrG.v rfl (fun _ => VStep.idx e tab_ok rfl rfl rfl rfl i rfl (el := [.v (.string a[i])]) ?_) rfl ?_
      · simp [hlt]
      (refine DrG.runN e tab_ok 200 rfl (by first | trivial | (simp [in64] <;> omega)) ?_)
      repeat (
        first
          | (refine DrG.v rfl (fun _ => VStep.goA rfl ?_ (VStep.ev e tab_ok rfl rfl ?_)) rfl ?_; (focus (first | rfl | assumption | (simp; done))); (focus (first | assumption | with_reducible trivial | rfl | (simp; omega) | (simp [in64]; omega) | (simp [*]; done))); (refine DrG.runN e tab_ok 200 rfl (by first | trivial | (simp [in64] <;> omega)) ?_))
          | (refine DrG.loadGoA e tab_ok rfl ?_ rfl rfl rfl rfl rfl rfl ?_; (focus (first | rfl | assumption | (simp; done))); (refine DrG.runN e tab_ok 200 rfl (by first | trivial | (simp [in64] <;> omega)) ?_))
          | (refine DrG.v rfl (fun _ => VStep.notA e rfl rfl ?_) rfl ?_; (focus (first | rfl | assumption | (simp; done))); (refine DrG.runN e tab_ok 200 rfl (by first | trivial | (simp [in64] <;> omega)) ?_))
          | (refine DrG.v rfl (fun _ => VStep.pickA e rfl rfl (v := true) ?_ rfl) rfl ?_; (focus (first | rfl | assumption | (simp; done))); (refine DrG.runN e tab_ok 200 rfl (by first | trivial | (simp [in64] <;> omega)) ?_))
          | (refine DrG.v rfl (fun _ => VStep.pickA e rfl rfl (v := false) ?_ rfl) rfl ?_; (focus (first | rfl | assumption | (simp; done))); (refine DrG.runN e tab_ok 200 rfl (by first | trivial | (simp [in64] <;> omega)) ?_))
          | (refine DrG.v rfl (fun _ => VStep.goA rfl ?_ (VStep.ev e tab_ok rfl rfl ?_)) rfl ?_; (focus (first | assumption | with_reducible trivial | rfl | (simp; omega) | (simp [in64]; omega) | (simp [*]; done))); (focus (first | assumption | with_reducible trivial | rfl | (simp; omega) | (simp [in64]; omega) | (simp [*]; done))); (refine DrG.runN e tab_ok 200 rfl (by first | trivial | (simp [in64] <;> omega)) ?_))
          | (refine DrG.loadGoA e tab_ok rfl ?_ rfl rfl rfl rfl rfl rfl ?_; (focus (first | assumption | with_reducible trivial | rfl | (simp; omega) | (simp [in64]; omega) | (simp [*]; done))); (refine DrG.runN e tab_ok 200 rfl (by first | trivial | (simp [in64] <;> omega)) ?_))
          | (refine DrG.v rfl (fun _ => VStep.notA e rfl rfl ?_) rfl ?_; (focus (first | assumption | with_reducible trivial | rfl | (simp; omega) | (simp [in64]; omega) | (simp [*]; done))); (refine DrG.runN e tab_ok 200 rfl (by first | trivial | (simp [in64] <;> omega)) ?_))
          | (refine DrG.v rfl (fun _ => VStep.pickA e rfl rfl (v := true) ?_ rfl) rfl ?_; (focus (first | assumption | with_reducible trivial | rfl | (simp; omega) | (simp [in64]; omega) | (simp [*]; done))); (refine DrG.runN e tab_ok 200 rfl (by first | trivial | (simp [in64] <;> omega)) ?_))
          | (refine DrG.v rfl (fun _ => VStep.pickA e rfl rfl (v := false) ?_ rfl) rfl ?_; (focus (first | assumption | with_reducible trivial | rfl | (simp; omega) | (simp [in64]; omega) | (simp [*]; done))); (refine DrG.runN e tab_ok 200 rfl (by first | trivial | (simp [in64] <;> omega)) ?_))
          | (refine DrG.v rfl (fun _ => VStep.goA rfl ?_ (VStep.pickA e rfl rfl (v := true) ?_ rfl)) rfl ?_; (focus (first | assumption | with_reducible trivial | rfl | (simp; omega) | (simp [in64]; omega) | (simp [*]; done))); (focus (first | assumption | with_reducible trivial | rfl | (simp; omega) | (simp [in64]; omega) | (simp [*]; done))); (refine DrG.runN e tab_ok 200 rfl (by first | trivial | (simp [in64] <;> omega)) ?_))
          | (refine DrG.v rfl (fun _ => VStep.go rfl (VStep.pickA e rfl rfl (v := true) ?_ rfl)) rfl ?_; (focus (first | assumption | with_reducible trivial | rfl | (simp; omega) | (simp [in64]; omega) | (simp [*]; done))); (refine DrG.runN e tab_ok 200 rfl (by first | trivial | (simp [in64] <;> omega)) ?_))
          | (refine DrG.v rfl (fun _ => VStep.goA rfl ?_ (VStep.pickA e rfl rfl (v := false) ?_ rfl)) rfl ?_; (focus (first | assumption | with_reducible trivial | rfl | (simp; omega) | (simp [in64]; omega) | (simp [*]; done))); (focus (first | assumption | with_reducible trivial | rfl | (simp; omega) | (simp [in64]; omega) | (simp [*]; done))); (refine DrG.runN e tab_ok 200 rfl (by first | trivial | (simp [in64] <;> omega)) ?_))
          | (refine DrG.v rfl (fun _ => VStep.go rfl (VStep.pickA e rfl rfl (v := false) ?_ rfl)) rfl ?_; (focus (first | assumption | with_reducible trivial | rfl | (simp; omega) | (simp [in64]; omega) | (simp [*]; done))); (refine DrG.runN e tab_ok 200 rfl (by first | trivial | (simp [in64] <;> omega)) ?_))
        )
      refine DrG.v rfl (fun _ => VStep.idx e tab_ok rfl rfl rfl rfl i rfl (el := [.v (.string b[i])]) ?_) rfl ?_
      · simp [hlb]
      (refine DrG.runN e tab_ok 200 rfl (by first | trivial | (simp [in64] <;> omega)) ?_)
      repeat (
        first
          | (refine DrG.v rfl (fun _ => VStep.goA rfl ?_ (VStep.ev e tab_ok rfl rfl ?_)) rfl ?_; (focus (first | rfl | assumption | (simp; done))); (focus (first | assumption | with_reducible trivial | rfl | (simp; omega) | (simp [in64]; omega) | (simp [*]; done))); (refine DrG.runN e tab_ok 200 rfl (by first | trivial | (simp [in64] <;> omega)) ?_))
          | (refine DrG.loadGoA e tab_ok rfl ?_ rfl rfl rfl rfl rfl rfl ?_; (focus (first | rfl | assumption | (simp; done))); (refine DrG.runN e tab_ok 200 rfl (by first | trivial | (simp [in64] <;> omega)) ?_))
          | (refine DrG.v rfl (fun _ => VStep.notA e rfl rfl ?_) rfl ?_; (focus (first | rfl | assumption | (simp; done))); (refine DrG.runN e tab_ok 200 rfl (by first | trivial | (simp [in64] <;> omega)) ?_))
          | (refine DrG.v rfl (fun _ => VStep.pickA e rfl rfl (v := true) ?_ rfl) rfl ?_; (focus (first | rfl | assumption | (simp; done))); (refine DrG.runN e tab_ok 200 rfl (by first | trivial | (simp [in64] <;> omega)) ?_))
          | (refine DrG.v rfl (fun _ => VStep.pickA e rfl rfl (v := false) ?_ rfl) rfl ?_; (focus (first | rfl | assumption | (simp; done))); (refine DrG.runN e tab_ok 200 rfl (by first | trivial | (simp [in64] <;> omega)) ?_))
          | (refine DrG.v rfl (fun _ => VStep.goA rfl ?_ (VStep.ev e tab_ok rfl rfl ?_)) rfl ?_; (focus (first | assumption | with_reducible trivial | rfl | (simp; omega) | (simp [in64]; omega) | (simp [*]; done))); (focus (first | assumption | with_reducible trivial | rfl | (simp; omega) | (simp [in64]; omega) | (simp [*]; done))); (refine DrG.runN e tab_ok 200 rfl (by first | trivial | (simp [in64] <;> omega)) ?_))
          | (refine DrG.loadGoA e tab_ok rfl ?_ rfl rfl rfl rfl rfl rfl ?_; (focus (first | assumption | with_reducible trivial | rfl | (simp; omega) | (simp [in64]; omega) | (simp [*]; done))); (refine DrG.runN e tab_ok 200 rfl (by first | trivial | (simp [in64] <;> omega)) ?_))
          | (refine DrG.v rfl (fun _ => VStep.notA e rfl rfl ?_) rfl ?_; (focus (first | assumption | with_reducible trivial | rfl | (simp; omega) | (simp [in64]; omega) | (simp [*]; done))); (refine DrG.runN e tab_ok 200 rfl (by first | trivial | (simp [in64] <;> omega)) ?_))
          | (refine DrG.v rfl (fun _ => VStep.pickA e rfl rfl (v := true) ?_ rfl) rfl ?_; (focus (first | assumption | with_reducible trivial | rfl | (simp; omega) | (simp [in64]; omega) | (simp [*]; done))); (refine DrG.runN e tab_ok 200 rfl (by first | trivial | (simp [in64] <;> omega)) ?_))
          | (refine DrG.v rfl (fun _ => VStep.pickA e rfl rfl (v := false) ?_ rfl) rfl ?_; (focus (first | assumption | with_reducible trivial | rfl | (simp; omega) | (simp [in64]; omega) | (simp [*]; done))); (refine DrG.runN e tab_ok 200 rfl (by first | trivial | (simp [in64] <;> omega)) ?_))
          | (refine DrG.v rfl (fun _ => VStep.goA rfl ?_ (VStep.pickA e rfl rfl (v := true) ?_ rfl)) rfl ?_; (focus (first | assumption | with_reducible trivial | rfl | (simp; omega) | (simp [in64]; omega) | (simp [*]; done))); (focus (first | assumption | with_reducible trivial | rfl | (simp; omega) | (simp [in64]; omega) | (simp [*]; done))); (refine DrG.runN e tab_ok 200 rfl (by first | trivial | (simp [in64] <;> omega)) ?_))
          | (refine DrG.v rfl (fun _ => VStep.go rfl (VStep.pickA e rfl rfl (v := true) ?_ rfl)) rfl ?_; (focus (first | assumption | with_reducible trivial | rfl | (simp; omega) | (simp [in64]; omega) | (simp [*]; done))); (refine DrG.runN e tab_ok 200 rfl (by first | trivial | (simp [in64] <;> omega)) ?_))
          | (refine DrG.v rfl (fun _ => VStep.goA rfl ?_ (VStep.pickA e rfl rfl (v := false) ?_ rfl)) rfl ?_; (focus (first | assumption | with_reducible trivial | rfl | (simp; omega) | (simp [in64]; omega) | (simp [*]; done))); (focus (first | assumption | with_reducible trivial | rfl | (simp; omega) | (simp [in64]; omega) | (simp [*]; done))); (refine DrG.runN e tab_ok 200 rfl (by first | trivial | (simp [in64] <;> omega)) ?_))
          | (refine DrG.v rfl (fun _ => VStep.go rfl (VStep.pickA e rfl rfl (v := false) ?_ rfl)) rfl ?_; (focus (first | assumption | with_reducible trivial | rfl | (simp; omega) | (simp [in64]; omega) | (simp [*]; done))); (refine DrG.runN e tab_ok 200 rfl (by first | trivial | (simp [in64] <;> omega)) ?_))
        )
      refine DrG.fin e rfl ?_ rfl rfl rfl ?_ ?_
      (focus kernel_rfl)
      (focus (repeat' (first | exact True.intro | (refine And.intro ?_ ?_) | rfl | assumption | exact okRow _)))
      dsimp only [tmS, hpS, tput, effH]
      refine AWP.runL e tab_ok L26 300 rfl (by first | trivial | (simp [in64] <;> omega)) ?_
      refine AWP.cond2 rfl (fun hv => ?_) (fun hv => ?_)
      · refine AWP.runL e tab_ok L26 300 rfl (by first | trivial | (simp [in64] <;> omega)) ?_
        refine AWP.ret e tab_ok rfl ?_
        rw [hP]
        have hv : a[i] ≠ b[i] := by simpa [bytes_inj] using hv
        show SV.b false = SV.b (decide (a = b))
        have : (decide (a = b)) = false := by
          rw [decide_eq_false_iff_not]
          rintro rfl
          exact hv rfl
        rw [this]
      · have hv : a[i] = b[i] := by simpa [bytes_inj] using hv
        refine AWP.runL e tab_ok L26 300 rfl (by first | trivial | (simp [in64] <;> omega)) ?_
        refine AWP.less e ?_ ?_ ?_ ?_ ?_ (next (i + 1) ?_ ?_)
        · exact ⟨rfl, rfl, rfl, rfl, trivial⟩
        · exact trivial
        · rfl
        · exact trivial
        · rfl
        · exact ⟨hlt, by rw [List.take_succ_eq_append_getElem hlt, List.take_succ_eq_append_getElem hlb, hs, hv]⟩
        · omega
    · refine AWP.runL e tab_ok L26 300 rfl (by first | trivial | (simp [in64] <;> omega)) ?_
      refine AWP.ret e tab_ok rfl ?_
      rw [hP]
      have hle : a.length ≤ i := by simpa using hlt
      rw [List.take_of_length_le hle, List.take_of_length_le (by omega)] at hs
      show SV.b true = SV.b (decide (a = b))
      rw [hs, decide_eq_true rfl]

set_option maxRecDepth 100000 in
theorem is_eff (l l' : List ByteArray) (c c' : Int) (b b' : Bool) (hl : l.length ≤ 1099511627776) : Eff Try.prog 18 [ringS l c b, slS l', .i c', .b b'] [] 0 (fun r _ _ => r = .b (decide (l = l') && c == c' && b == b')) := by
  have h1 := sameS_eff l l' hl
  generalize decide (l = l') = p at *
  refine eff_of Try.func18 rfl rfl rfl fun cx e hP => ?_
  refine AWP.runL e tab_ok L18 300 rfl (by first | trivial | (simp [in64] <;> omega)) ?_
  repeat' (
    first
      | (refine AWP.ret e tab_ok rfl ?_; rw [hP])
      | (refine AWP.fin e tab_ok rfl ?_; rw [hP])
      | (refine AWP.callQ e rfl rfl ?_; (first | refine CallQ.mk (h1) rfl rfl ?_); refine AWP.runL e tab_ok L18 300 rfl (by first | trivial | (simp [in64] <;> omega)) ?_)
      | (first
        | (refine AWP.askT rfl ?_; (first | (refine Told.t rfl ?_) | (refine Told.f rfl ?_) | (refine Told.t ?_ ?_; (focus (first | assumption | (simp; omega) | (simp [*]; done)); done)) | (refine Told.f ?_ ?_; (focus (first | assumption | (simp; omega) | (simp [*]; done)); done)) | (refine Told.both (fun h => ?_) (fun h => ?_) <;> (try simp only [beq_iff_eq, beq_eq_false_iff_ne, ne_eq] at h))))) <;>
        refine AWP.runL e tab_ok L18 300 rfl (by first | trivial | (simp [in64] <;> omega)) ?_
    )
  all_goals (simp [strip, *]; done)

set_option maxRecDepth 100000 in
theorem refPut_busy (l : List ByteArray) (c : Int) (x : ByteArray) (h : (l.length : Int) = c) : Eff Try.prog 21 [slS l, .i c, .b false, .d (.v (.string x))] [] 0 (fun r _ _ => r = .tup [slS [], .i 0, .i 20]) := by
  refine eff_of Try.func21 rfl rfl rfl fun cx e hP => ?_
  refine AWP.runL e tab_ok L21 300 rfl (by first | trivial | (simp [in64] <;> omega)) ?_
  repeat (
    first
      | (refine AWP.askT rfl ?_; (first | (refine Told.t rfl ?_) | (refine Told.f rfl ?_) | (refine Told.t ?_ ?_; (focus (first | assumption | (simp; omega) | (simp [*]; done)); done)) | (refine Told.f ?_ ?_; (focus (first | assumption | (simp; omega) | (simp [*]; done)); done))); refine AWP.runL e tab_ok L21 300 rfl (by first | trivial | (simp [in64] <;> omega)) ?_)
    )
  refine AWP.retW e tab_ok rfl (r' := .tup [slS [], .i 0, .i 20]) ?_ ?_
  (focus (repeat' (first | exact WkL.nil | (refine WkL.cons ?_ ?_) | exact Wk.refl _ | exact Wk.nil _ | (refine Wk.aggL ?_) | (refine Wk.tupL ?_))))
  rw [hP]

set_option maxRecDepth 100000 in
theorem refPut_ok (l : List ByteArray) (c : Int) (b : Bool) (x : ByteArray) (h : (l.length : Int) ≠ c) (hl : l.length ≤ 100) : Eff Try.prog 21 [slS l, .i c, .b b, .d (.v (.string x))] [] 0 (fun r _ _ => r = .tup [slS (l.drop 0 ++ [x]), .i 0, .i 0]) := by
  have hw : 0 ≤ l.length := by omega
  try (obtain ⟨h, -, rfl⟩ := h)
  refine eff_of Try.func21 rfl rfl rfl fun cx e hP => ?_
  refine AWP.runL e tab_ok L21 300 rfl (by first | trivial | (simp [in64] <;> omega)) ?_
  repeat (
    first
      | (refine AWP.askT rfl ?_; (first | (refine Told.t rfl ?_) | (refine Told.f rfl ?_) | (refine Told.t ?_ ?_; (focus (first | assumption | (simp; omega) | (simp [*]; done)); done)) | (refine Told.f ?_ ?_; (focus (first | assumption | (simp; omega) | (simp [*]; done)); done))); refine AWP.runL e tab_ok L21 300 rfl (by first | trivial | (simp [] <;> omega)) ?_)
    )
  obtain ⟨m, hm⟩ : ∃ m, m = l.drop 0 := ⟨_, rfl⟩
  have hml : m.length ≤ 100 := by rw [hm]; simp; omega
  refine AWP.less e (tm := [(29, slS m), (26, .own 0 1 0 0 0), (11, .i 0), (3, .d (.v (.string x)))]) (hp := [(0, .row 9 false 1 [] 0)]) (nx := 1) ?_ ?_ ?_ ?_ ?_ ?_
  · exact ⟨congrArg (fun z => some (SV.d (.sl 1 z))) ((drop_map _ 0 _ l (by simp)).trans (congrArg rowS hm.symm)), rfl, rfl, rfl, trivial⟩
  · exact ⟨rfl, trivial⟩
  · rfl
  · exact ⟨rfl, (by intro e he; cases he), trivial⟩
  · rfl
  rw [← hm] at hP
  refine AWP.append e tab_ok rfl rfl rfl rfl rfl rfl rfl rfl (.sl (rowS m)) rfl (rowS_cells m) (by simp; omega) (by simp; omega) fun C2 hC2 => ?_
  refine AWP.runL e tab_ok L21 300 rfl (by first | trivial | (simp [in64] <;> omega)) ?_
  refine AWP.append e tab_ok rfl rfl rfl rfl rfl rfl rfl rfl (.own rfl (by simp)) (by simp) (by simp [allCells, isCell]) (by simp; omega) (by simp; omega) fun C3 hC3 => ?_
  refine AWP.runL e tab_ok L21 300 rfl (by first | trivial | (simp [in64] <;> omega)) ?_
  refine AWP.freezeO (id := 3) (rowS (m ++ [x])) rfl ?_ rfl rfl ?_ ?_ ?_
  (focus (simp))
  (focus (simp [lenDT, lenD]; done))
  (focus (simp [lenDH]; done))
  refine AWP.ret e tab_ok rfl ?_
  rw [hP]
  simp [strip, List.take_of_length_le]

set_option maxRecDepth 100000 in
theorem refPut_full (l : List ByteArray) (c : Int) (b : Bool) (x : ByteArray) (h : (l.length : Int) = c ∧ 1 ≤ l.length ∧ b = true) (hl : l.length ≤ 100) : Eff Try.prog 21 [slS l, .i c, .b b, .d (.v (.string x))] [] 0 (fun r _ _ => r = .tup [slS (l.drop 1 ++ [x]), .i 1, .i 0]) := by
  have hw : 1 ≤ l.length := by omega
  try (obtain ⟨h, -, rfl⟩ := h)
  refine eff_of Try.func21 rfl rfl rfl fun cx e hP => ?_
  refine AWP.runL e tab_ok L21 300 rfl (by first | trivial | (simp [in64] <;> omega)) ?_
  repeat (
    first
      | (refine AWP.askT rfl ?_; (first | (refine Told.t rfl ?_) | (refine Told.f rfl ?_) | (refine Told.t ?_ ?_; (focus (first | assumption | (simp; omega) | (simp [*]; done)); done)) | (refine Told.f ?_ ?_; (focus (first | assumption | (simp; omega) | (simp [*]; done)); done))); refine AWP.runL e tab_ok L21 300 rfl (by first | trivial | (simp [] <;> omega)) ?_)
    )
  obtain ⟨m, hm⟩ : ∃ m, m = l.drop 1 := ⟨_, rfl⟩
  have hml : m.length ≤ 100 := by rw [hm]; simp; omega
  refine AWP.less e (tm := [(29, slS m), (26, .own 0 1 0 0 0), (11, .i 1), (3, .d (.v (.string x)))]) (hp := [(0, .row 9 false 1 [] 0)]) (nx := 1) ?_ ?_ ?_ ?_ ?_ ?_
  · exact ⟨congrArg (fun z => some (SV.d (.sl 1 z))) ((drop_map _ 1 _ l (by simp)).trans (congrArg rowS hm.symm)), rfl, rfl, rfl, trivial⟩
  · exact ⟨rfl, trivial⟩
  · rfl
  · exact ⟨rfl, (by intro e he; cases he), trivial⟩
  · rfl
  rw [← hm] at hP
  refine AWP.append e tab_ok rfl rfl rfl rfl rfl rfl rfl rfl (.sl (rowS m)) rfl (rowS_cells m) (by simp; omega) (by simp; omega) fun C2 hC2 => ?_
  refine AWP.runL e tab_ok L21 300 rfl (by first | trivial | (simp [in64] <;> omega)) ?_
  refine AWP.append e tab_ok rfl rfl rfl rfl rfl rfl rfl rfl (.own rfl (by simp)) (by simp) (by simp [allCells, isCell]) (by simp; omega) (by simp; omega) fun C3 hC3 => ?_
  refine AWP.runL e tab_ok L21 300 rfl (by first | trivial | (simp [in64] <;> omega)) ?_
  refine AWP.freezeO (id := 3) (rowS (m ++ [x])) rfl ?_ rfl rfl ?_ ?_ ?_
  (focus (simp))
  (focus (simp [lenDT, lenD]; done))
  (focus (simp [lenDH]; done))
  refine AWP.ret e tab_ok rfl ?_
  rw [hP]
  simp [strip, List.take_of_length_le]

end Go.Proofs.Ytkcdmibpmoknmaa
