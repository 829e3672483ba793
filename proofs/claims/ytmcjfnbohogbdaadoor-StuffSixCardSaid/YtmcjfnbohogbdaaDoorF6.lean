import Derived.Test.YtmcjfnbohogbdaaDoorF5
open Go Go.Proofs Go.Sy Go.Stuff
namespace Go.Proofs.YtmcjfnbohogbdaaDoor

def RunAt (o : List UInt8) (F : Nat) (c : UInt8) (m : Nat) : Prop := ∃ pre t, o = pre ++ (t ++ List.replicate m c) ∧ pre.length = F ∧ ∀ h : t ≠ [], t.getLast h ≠ c
theorem RunAt.step {o : List UInt8} {F : Nat} {x : X} (h : RunAt o F x.1 x.2) (h0 : x.2 = 0 → o = []) (hx : x.2 ≤ 4) (c : UInt8) : RunAt (o ++ [c]) F c (sst x c).2 := by
  obtain ⟨pre, t, h1, h2, h3⟩ := h
  by_cases e : c = x.1
  · have hs : (sst x c).2 = x.2 + 1 := by unfold sst; rw [if_neg (by omega), if_pos e]
    rw [hs]
    refine ⟨pre, t, ?_, h2, fun h => by rw [e]; exact h3 h⟩
    rw [h1, List.replicate_succ', e]
    simp
  · have hs : (sst x c).2 = 1 := by unfold sst; rw [if_neg (by omega), if_neg e]
    rw [hs]
    refine ⟨pre, t ++ List.replicate x.2 x.1, by rw [h1]; simp, h2, fun h => ?_⟩
    by_cases hn : x.2 = 0
    · have := h0 hn
      rw [this] at h1
      have := congrArg List.length h1
      simp only [List.length_nil, List.length_append] at this
      exact absurd (List.eq_nil_of_length_eq_zero (by simp only [List.length_append]; omega)) h
    · obtain ⟨k, hk⟩ : ∃ k, x.2 = k + 1 := ⟨x.2 - 1, by omega⟩
      rw [List.getLast_append_of_ne_nil (h₁ := h) (by rw [hk]; simp)]
      rw [List.getLast_replicate]
      exact fun q => e q.symm
theorem RunAt.len {o : List UInt8} {F : Nat} {c : UInt8} {m : Nat} (h : RunAt o F c m) : F ≤ o.length := by
  obtain ⟨pre, t, h1, h2, _⟩ := h
  rw [h1, ← h2]; simp
theorem RunAt.eq5 {o : List UInt8} {F : Nat} {c : UInt8} {m : Nat} (h : RunAt o F c m) (h1 : 1 ≤ m) (h5 : m ≤ 5) : eqB o F = (m == 5) := by
  obtain ⟨pre, t, e1, e2, e3⟩ := h
  have hlen : o.length = F + t.length + m := by rw [e1, ← e2]; simp; omega
  have hin : ∀ k, k < m → o.getD (o.length - 1 - k) 0 = c := fun k hk => by
    have e : o.length - 1 - k = pre.length + (t.length + (m - 1 - k)) := by omega
    rw [e, e1, List.getD_eq_getElem?_getD, List.getElem?_append_right (by omega), Nat.add_sub_cancel_left, List.getElem?_append_right (by omega), Nat.add_sub_cancel_left, List.getElem?_replicate, if_pos (by omega)]
    rfl
  have hl := hin 0 (by omega)
  rw [Nat.sub_zero] at hl
  unfold eqB
  rw [hl]
  by_cases hm : m = 5
  · subst hm
    rw [show decide (F + 5 ≤ o.length) = true by simp; omega, Bool.true_and, beq_self_eq_true, List.all_eq_true]
    intro k hk
    have hk := List.mem_range.1 hk
    have := hin (4 - k) (by omega)
    rw [show o.length - 1 - (4 - k) = o.length - 5 + k by omega] at this
    rw [this]; simp
  · rw [show (m == 5) = false by simpa using hm]
    by_cases hF : F + 5 ≤ o.length
    · have ht : t ≠ [] := by intro h; rw [h] at hlen; simp at hlen; omega
      have hlast : o.getD (o.length - 5 + (4 - m)) 0 = t.getLast ht := by
        have e : o.length - 5 + (4 - m) = pre.length + (t.length - 1) := by
          have : 0 < t.length := List.length_pos_iff.2 ht
          omega
        have hp : 0 < t.length := List.length_pos_iff.2 ht
        rw [e, e1, List.getD_eq_getElem?_getD, List.getElem?_append_right (by omega), Nat.add_sub_cancel_left, List.getElem?_append_left (by omega), List.getElem?_eq_getElem (by omega), Option.getD_some, List.getLast_eq_getElem]
      rw [all_bad (k := 4 - m) (by omega) (by rw [hlast]; exact beq_eq_false_iff_ne.2 (e3 ht)), Bool.and_false]
    · rw [show decide (F + 5 ≤ o.length) = false by simpa using hF, Bool.false_and]

set_option maxRecDepth 100000 in
set_option maxHeartbeats 2000000 in
theorem refstuff_eff (l : List UInt8) (hw : wellB l = true) : Eff Tryd.prog 18 [.s (strL l)] [] 0 (fun r _ _ => r = .s (strL (stuffL x0 l))) := by
  have hl := well_len hw
  have hB := well_isB hw
  have hsz : (strL l).size = l.length := strL_size l
  refine eff_of Tryd.func18 rfl rfl rfl fun cx e hP => ?_
  refine AWP.runL e tab_ok L18 300 rfl (by first | trivial | (simp [in64] <;> omega) | (simp only [in64, true_and, and_true]; omega)) ?_
  refine AWP.loop (ι := Nat × Nat) (fun x => ⟨[(5, .i x.1), (4, .i x.2), (3, .s (strL (sO l x.1))), (0, .s (strL l))], [], 0⟩) (fun x => x.1 ≤ l.length ∧ RunAt (sO l x.1) x.2 (sE l x.1).1 (sE l x.1).2 ∧ ((sE l x.1).2 = 0 → sO l x.1 = [])) (fun x => l.length - x.1) (0, 0) ⟨Nat.zero_le _, ⟨[], [], rfl, rfl, fun h => absurd rfl h⟩, fun _ => rfl⟩ ?_ ?_
  · intro g
    refine AWP.less e ?_ ?_ ?_ ?_ ?_ (g) <;> (repeat' (first | exact True.intro | (refine And.intro ?_ ?_) | rfl | assumption))
  rintro ⟨i, F⟩ Φ ⟨hi, hJ, hJ0⟩ next
  dsimp only at hi hJ hJ0 next ⊢
  have hE4 : (sE l i).2 ≤ 4 := stuffE_le _ _ (by decide) fun c hc => hB c (List.mem_of_mem_take hc)
  have hOl : (sO l i).length ≤ 5000 := by
    have h1 := (stuff_len (l.take i) x0 (by decide) fun c hc => hB c (List.mem_of_mem_take hc)).2
    have h2 : (l.take i).length ≤ l.length := by simp; omega
    have h3 : x0.2 = 0 := rfl
    show (stuffL x0 (l.take i)).length ≤ 5000
    omega
  refine AWP.runL e tab_ok L18 300 rfl (by first | trivial | (simp [in64] <;> omega) | (simp only [in64, true_and, and_true]; omega)) ?_
  refine AWP.cond2 rfl (fun hlt => ?_) (fun hlt => ?_)
  · have hlt : i < l.length := by have := of_decide_eq_true hlt; omega
    have nx := fun F2 h1 h2 => next (i + 1, F2) ⟨hlt, h1, h2⟩ (by show l.length - (i + 1) < l.length - i; omega)
    dsimp only at nx
    rw [sO_succ hlt, sE_succ hlt] at nx
    have hb := b_G l hlt
    have hcut := str_cut1 l hlt
    have hci := hB l[i] (List.getElem_mem hlt)
    clear next
    generalize l[i] = c at *
    generalize sO l i = o at *
    generalize sE l i = x at *
    have hR := hJ.step hJ0 hE4 c
    have hle := sst_le (c := c) hE4
    have hq := hR.eq5 hle.2.2 (by omega)
    have hFl := hR.len
    have c2 := equal_eff (o ++ [c]) F hFl (by simp; omega)
    rw [hq] at c2
    have h1 : (byteAt (strL l) i == 48) = (c == 48) := by rw [hb]; exact u_eq c 48
    have hj : strL o ++ strL [c] = strL (o ++ [c]) := str_app _ _
    have hoz : (strL o).size = o.length := strL_size o
    have hz1 : (strL [c]).size = 1 := by rw [strL_size]; rfl
    have hoz2 : (strL (o ++ [c])).size = o.length + 1 := by rw [strL_size]; simp
    have k1 : (ByteArray.mk #[49]).size = 1 := rfl
    have k0 : (ByteArray.mk #[48]).size = 1 := rfl
    clear hJ hJ0 hFl hq
    rcases cases_b ((sst x c).2 == 5) with g5 | g5 <;> rw [g5] at c2
    · have g : (sst x c).2 = 5 := by simpa using g5
      have e3 : sst (sst x c) (oth c) = (oth c, 1) := by
        rw [(sst_five hE4 g).2.2]; exact sst_oth hci
      rw [if_pos g, if_pos g, e3] at nx
      have nx := nx (o.length + 1) ⟨o ++ [c], [], rfl, by simp, fun h => absurd rfl h⟩ (fun h => absurd h (by show ¬ (1 : Nat) = 0; decide))
      rcases hci with rfl | rfl
      · have h1 : (byteAt (strL l) i == 48) = true := h1
        refine AWP.runL e tab_ok L18 300 rfl (by first | trivial | (simp [in64] <;> omega) | (simp only [in64, true_and, and_true]; omega)) ?_
        refine AWP.eqT 3 (.s (strL (o ++ [48]))) rfl (congrArg SV.s ((congrArg (fun z => strL o ++ z) hcut).trans hj)) ?_
        refine AWP.eqT 19 (.s (strL (o ++ [48]))) rfl (congrArg SV.s ((congrArg (fun z => strL o ++ z) hcut).trans hj)) ?_
        repeat (
          first
            | (refine AWP.askT rfl ?_; (first | (refine Told.t rfl ?_) | (refine Told.f rfl ?_) | (refine Told.t ?_ ?_; (focus assumption)) | (refine Told.f ?_ ?_; (focus assumption)) | (refine Told.t ?_ ?_; (focus (first | (simp; omega) | (simp [*]; done)); done)) | (refine Told.f ?_ ?_; (focus (first | (simp; omega) | (simp [*]; done)); done))); refine AWP.runL e tab_ok L18 300 rfl (by first | trivial | (simp [in64] <;> omega) | (simp only [in64, true_and, and_true]; omega)) ?_)
            | (refine AWP.callQ e rfl rfl ?_; (first | refine CallQ.mk (c2) rfl rfl ?_); refine AWP.runL e tab_ok L18 300 rfl (by first | trivial | (simp [in64] <;> omega) | (simp only [in64, true_and, and_true]; omega)) ?_)
            | (refine AWP.eq_agg e tab_ok rfl rfl rfl (.inl ⟨rfl, rfl⟩) ?_ 5 (by omega) rfl ?_ rfl rfl rfl rfl rfl rfl rfl ?_; (focus kernel_rfl); (focus kernel_rfl); refine AWP.runL e tab_ok L18 300 rfl (by first | trivial | (simp [in64] <;> omega) | (simp only [in64, true_and, and_true]; omega)) ?_)
            | (refine AWP.eq_agg e tab_ok rfl rfl rfl (.inr ⟨rfl, rfl⟩) ?_ 5 (by omega) rfl ?_ rfl rfl rfl rfl rfl rfl rfl ?_; (focus kernel_rfl); (focus kernel_rfl); refine AWP.runL e tab_ok L18 300 rfl (by first | trivial | (simp [in64] <;> omega) | (simp only [in64, true_and, and_true]; omega)) ?_)
          )
        refine AWP.eqT 4 (.i ((o.length + 1 : Nat) : Int)) rfl (congrArg (fun z : Nat => SV.i (z : Int)) hoz2) ?_
        refine AWP.less e ?_ ?_ ?_ ?_ ?_ (nx) <;> (repeat' (first | exact True.intro | (refine And.intro ?_ ?_) | rfl | assumption))
      · have h1 : (byteAt (strL l) i == 48) = false := h1
        refine AWP.runL e tab_ok L18 300 rfl (by first | trivial | (simp [in64] <;> omega) | (simp only [in64, true_and, and_true]; omega)) ?_
        refine AWP.eqT 3 (.s (strL (o ++ [49]))) rfl (congrArg SV.s ((congrArg (fun z => strL o ++ z) hcut).trans hj)) ?_
        refine AWP.eqT 19 (.s (strL (o ++ [49]))) rfl (congrArg SV.s ((congrArg (fun z => strL o ++ z) hcut).trans hj)) ?_
        repeat (
          first
            | (refine AWP.askT rfl ?_; (first | (refine Told.t rfl ?_) | (refine Told.f rfl ?_) | (refine Told.t ?_ ?_; (focus assumption)) | (refine Told.f ?_ ?_; (focus assumption)) | (refine Told.t ?_ ?_; (focus (first | (simp; omega) | (simp [*]; done)); done)) | (refine Told.f ?_ ?_; (focus (first | (simp; omega) | (simp [*]; done)); done))); refine AWP.runL e tab_ok L18 300 rfl (by first | trivial | (simp [in64] <;> omega) | (simp only [in64, true_and, and_true]; omega)) ?_)
            | (refine AWP.callQ e rfl rfl ?_; (first | refine CallQ.mk (c2) rfl rfl ?_); refine AWP.runL e tab_ok L18 300 rfl (by first | trivial | (simp [in64] <;> omega) | (simp only [in64, true_and, and_true]; omega)) ?_)
            | (refine AWP.eq_agg e tab_ok rfl rfl rfl (.inl ⟨rfl, rfl⟩) ?_ 5 (by omega) rfl ?_ rfl rfl rfl rfl rfl rfl rfl ?_; (focus kernel_rfl); (focus kernel_rfl); refine AWP.runL e tab_ok L18 300 rfl (by first | trivial | (simp [in64] <;> omega) | (simp only [in64, true_and, and_true]; omega)) ?_)
            | (refine AWP.eq_agg e tab_ok rfl rfl rfl (.inr ⟨rfl, rfl⟩) ?_ 5 (by omega) rfl ?_ rfl rfl rfl rfl rfl rfl rfl ?_; (focus kernel_rfl); (focus kernel_rfl); refine AWP.runL e tab_ok L18 300 rfl (by first | trivial | (simp [in64] <;> omega) | (simp only [in64, true_and, and_true]; omega)) ?_)
          )
        refine AWP.eqT 4 (.i ((o.length + 1 : Nat) : Int)) rfl (congrArg (fun z : Nat => SV.i (z : Int)) hoz2) ?_
        refine AWP.less e ?_ ?_ ?_ ?_ ?_ (nx) <;> (repeat' (first | exact True.intro | (refine And.intro ?_ ?_) | rfl | assumption))
    · have g : ¬ (sst x c).2 = 5 := by simpa using g5
      rw [if_neg g, if_neg g] at nx
      have nx := nx F (by rw [hle.2.1]; exact hR) (fun h => absurd h (by omega))
      refine AWP.runL e tab_ok L18 300 rfl (by first | trivial | (simp [in64] <;> omega) | (simp only [in64, true_and, and_true]; omega)) ?_
      refine AWP.eqT 3 (.s (strL (o ++ [c]))) rfl (congrArg SV.s ((congrArg (fun z => strL o ++ z) hcut).trans hj)) ?_
      refine AWP.eqT 19 (.s (strL (o ++ [c]))) rfl (congrArg SV.s ((congrArg (fun z => strL o ++ z) hcut).trans hj)) ?_
      repeat (
        first
          | (refine AWP.askT rfl ?_; (first | (refine Told.t rfl ?_) | (refine Told.f rfl ?_) | (refine Told.t ?_ ?_; (focus assumption)) | (refine Told.f ?_ ?_; (focus assumption)) | (refine Told.t ?_ ?_; (focus (first | (simp; omega) | (simp [*]; done)); done)) | (refine Told.f ?_ ?_; (focus (first | (simp; omega) | (simp [*]; done)); done))); refine AWP.runL e tab_ok L18 300 rfl (by first | trivial | (simp [in64] <;> omega) | (simp only [in64, true_and, and_true]; omega)) ?_)
          | (refine AWP.callQ e rfl rfl ?_; (first | refine CallQ.mk (c2) rfl rfl ?_); refine AWP.runL e tab_ok L18 300 rfl (by first | trivial | (simp [in64] <;> omega) | (simp only [in64, true_and, and_true]; omega)) ?_)
          | (refine AWP.eq_agg e tab_ok rfl rfl rfl (.inl ⟨rfl, rfl⟩) ?_ 5 (by omega) rfl ?_ rfl rfl rfl rfl rfl rfl rfl ?_; (focus kernel_rfl); (focus kernel_rfl); refine AWP.runL e tab_ok L18 300 rfl (by first | trivial | (simp [in64] <;> omega) | (simp only [in64, true_and, and_true]; omega)) ?_)
          | (refine AWP.eq_agg e tab_ok rfl rfl rfl (.inr ⟨rfl, rfl⟩) ?_ 5 (by omega) rfl ?_ rfl rfl rfl rfl rfl rfl rfl ?_; (focus kernel_rfl); (focus kernel_rfl); refine AWP.runL e tab_ok L18 300 rfl (by first | trivial | (simp [in64] <;> omega) | (simp only [in64, true_and, and_true]; omega)) ?_)
        )
      refine AWP.less e ?_ ?_ ?_ ?_ ?_ (nx) <;> (repeat' (first | exact True.intro | (refine And.intro ?_ ?_) | rfl | assumption))
  · have hlt : ¬ i < l.length := by have := of_decide_eq_false hlt; omega
    obtain rfl : i = l.length := by omega
    have ho : sO l l.length = stuffL x0 l := by show stuffL x0 (l.take l.length) = _; rw [List.take_length]
    rw [ho]
    refine AWP.runL e tab_ok L18 300 rfl (by first | trivial | (simp [in64] <;> omega) | (simp only [in64, true_and, and_true]; omega)) ?_
    refine AWP.ret e tab_ok rfl ?_
    rw [hP]
    all_goals first | rfl | (simp [strip]; done)
end Go.Proofs.YtmcjfnbohogbdaaDoor
