import Derived.Test.YthfkoejjpfhcdaaF6
open Go Go.Proofs Go.Sy
namespace Go.Proofs.Ythfkoejjpfhcdaa

abbrev rowB (l : List Bool) : List (List SV) := (onD l).map (·.map SV.d)
theorem rowB_cells (l : List Bool) : ∀ e ∈ rowB l, allCells e = true := by
  intro e he
  simp only [rowB, onD, List.map_map, List.mem_map] at he
  obtain ⟨v, _, rfl⟩ := he
  rfl
theorem right_size {ps : List Way} {on : List Bool} (h : rightW ps on = true) : 1 ≤ on.length ∧ on.length ≤ 8 ∧ ps.length ≤ 16 := by
  unfold rightW at h
  simp only [Bool.and_eq_true] at h
  exact of_decide_eq_true h.1
theorem right_at {ps : List Way} {on : List Bool} (h : rightW ps on = true) {i : Nat} (hi : i < ps.length) : okW on.length ps[i] = true ∧ (ps.take i).any (samew ps[i]) = false := by
  unfold rightW at h
  simp only [Bool.and_eq_true, List.all_eq_true, List.mem_range] at h
  have := h.2 i hi
  rw [good_at hi] at this
  simpa using this
theorem right_its {ps : List Way} {on : List Bool} (h : rightW ps on = true) : ∀ p ∈ ps, p.its.length ≤ 1000 := by
  intro p hp
  obtain ⟨i, hi, rfl⟩ := List.mem_iff_getElem.1 hp
  have h1 := (right_at h hi).1
  unfold okW at h1
  simp only [Bool.and_eq_true] at h1
  have := rightR_get h1.1.2
  omega
set_option maxRecDepth 100000 in
set_option maxHeartbeats 2000000 in
theorem switch_eff (ps : List Way) (on : List Bool) (k : Nat) (b : Bool) (h : rightW ps on = true) (hk : k < on.length) : Eff Try.prog 8 [rtr ps on, .i k, .b b] [] 0 (fun r _ _ => r = .tup [rtr (if b then ps else ps.map (offW k)) (on.set k b), .i 0]) := by
  have hs := right_size h
  have c1 := pright_eff ps on (by omega) (by omega) (right_its h)
  rw [h] at c1
  have c2 := eachOff_eff ps k (by omega)
  have hsb : (onD on).length = on.length := List.length_map _
  have hel : (rowB on)[k]? = some [.b on[k]] := by simp [rowB, hk]
  have hset : (rowB on).set k [.b b] = rowB (on.set k b) := by
    simp only [rowB, onD, List.map_set]
    rfl
  refine eff_of Try.func8 rfl rfl rfl fun cx e hP => ?_
  refine AWP.runL e tab_ok L8 300 rfl (by first | trivial | (simp [in64] <;> omega) | (simp only [in64, true_and, and_true]; omega)) ?_
  repeat (
    first
      | (refine AWP.askT rfl ?_; (first | (refine Told.t rfl ?_) | (refine Told.f rfl ?_) | (refine Told.t ?_ ?_; (focus assumption)) | (refine Told.f ?_ ?_; (focus assumption)) | (refine Told.t ?_ ?_; (focus (first | (simp; omega) | (simp [*]; done)); done)) | (refine Told.f ?_ ?_; (focus (first | (simp; omega) | (simp [*]; done)); done))); refine AWP.runL e tab_ok L8 300 rfl (by first | trivial | (simp [in64] <;> omega) | (simp only [in64, true_and, and_true]; omega)) ?_)
      | (refine AWP.callQ e rfl rfl ?_; (first | refine CallQ.mk (c1) rfl rfl ?_); refine AWP.runL e tab_ok L8 300 rfl (by first | trivial | (simp [in64] <;> omega) | (simp only [in64, true_and, and_true]; omega)) ?_)
      | (refine AWP.eq_agg e tab_ok rfl rfl rfl (.inl ⟨rfl, rfl⟩) ?_ 5 (by omega) rfl ?_ rfl rfl rfl rfl rfl rfl rfl ?_; (focus kernel_rfl); (focus kernel_rfl); refine AWP.runL e tab_ok L8 300 rfl (by first | trivial | (simp [in64] <;> omega) | (simp only [in64, true_and, and_true]; omega)) ?_)
      | (refine AWP.eq_agg e tab_ok rfl rfl rfl (.inr ⟨rfl, rfl⟩) ?_ 5 (by omega) rfl ?_ rfl rfl rfl rfl rfl rfl rfl ?_; (focus kernel_rfl); (focus kernel_rfl); refine AWP.runL e tab_ok L8 300 rfl (by first | trivial | (simp [in64] <;> omega) | (simp only [in64, true_and, and_true]; omega)) ?_)
    )
  refine AWP.enter e rfl Try.func15 rfl rfl rfl rfl fun cx' e' hP' => ?_
  refine AWP.runL e' tab_ok L15 8 rfl (by trivial) ?_
  refine AWP.nilq e' tab_ok true rfl rfl rfl rfl rfl rfl (.inl ⟨rfl, rfl⟩) fun bn hb => ?_
  cases bn
  · refine AWP.runL e' tab_ok L15 300 rfl (by first | trivial | (simp [in64] <;> omega) | (simp only [in64, true_and, and_true]; omega)) ?_
    refine AWP.cond rfl false rfl ?_
    refine AWP.runL e' tab_ok L15 300 rfl (by first | trivial | (simp [in64] <;> omega) | (simp only [in64, true_and, and_true]; omega)) ?_
    refine AWP.append e' tab_ok rfl rfl rfl rfl rfl rfl rfl rfl (.sl (onD on)) rfl (rowB_cells on) (by simp; omega) (by simp; omega) fun C hC => ?_
    refine AWP.runL e' tab_ok L15 300 rfl (by first | trivial | (simp [in64] <;> omega) | (simp only [in64, true_and, and_true]; omega)) ?_
    refine AWP.ret e' tab_ok rfl ?_
    rw [hP']
    show AWP cx _ _
    refine AWP.runL e tab_ok L8 300 rfl (by first | trivial | (simp [in64] <;> omega) | (simp only [in64, true_and, and_true]; omega)) ?_
    refine AWP.idx_own e tab_ok rfl rfl rfl rfl k rfl (by simp; omega) ?_
    rw [Nat.zero_add]
    refine AWP.runL e tab_ok L8 300 rfl (by first | trivial | (simp [in64] <;> omega) | (simp only [in64, true_and, and_true]; omega)) ?_
    refine AWP.store_el e tab_ok rfl rfl rfl rfl rfl hel rfl rfl rfl rfl ?_
    have h0 : (List.map (fun x => List.map SV.d x) (onD on)).length = on.length := by simp
    refine AWP.lessR e [] (tm := [(7, .i 0), (6, .ptr 2 0), (4, .ptr 1 0), (3, .ptr 0 0), (2, .b b)]) (hp := [(0, .box [slP ps, .own 4 1 0 on.length C]), (1, .box [.i k]), (2, .box [.d .nil, .d .nil]), (4, .row 4 false 1 (rowB (on.set k b)) C)]) (nx := 5) ?_ ?_ ?_ ?_ ?_ ?_ ?_
    · exact ⟨rfl, rfl, rfl, rfl, rfl, trivial⟩
    · refine ⟨?_, rfl, rfl, ?_, trivial⟩
      · exact congrArg (fun n : Nat => some (Blk.box [slP ps, .own 4 1 0 n C])) (by rw [h0, Nat.zero_add])
      · refine congrArg some ?_
        show Blk.row 4 false 1 (([] ++ List.map (fun x => List.map SV.d x) (onD on)).set k [SV.b b]) C = _
        exact congrArg (fun z => Blk.row 4 false 1 z C) hset
    · rfl
    · exact ⟨rfl, rfl, rfl, rfl, rfl, rfl, rfl, okRow _, trivial⟩
    · rfl
    · rfl
    refine AWP.freezeF (id := 4) (onD (on.set k b)) rfl ?_ rfl rfl ?_ ?_ ?_
    (focus (rfl))
    (focus (first | (simp [lenFT, lenF]; done) ))
    (focus (first | (simp [lenFH, lenF, lenF.go]; done) ))
    cases b
    · refine AWP.freezeB (id := 1) rfl rfl rfl rfl ?_
      refine AWP.runL e tab_ok L8 300 rfl (by first | trivial | (simp [in64] <;> omega) | (simp only [in64, true_and, and_true]; omega)) ?_
      repeat (
        first
          | (refine AWP.askT rfl ?_; (first | (refine Told.t rfl ?_) | (refine Told.f rfl ?_) | (refine Told.t ?_ ?_; (focus assumption)) | (refine Told.f ?_ ?_; (focus assumption)) | (refine Told.t ?_ ?_; (focus (first | (simp; omega) | (simp [*]; done)); done)) | (refine Told.f ?_ ?_; (focus (first | (simp; omega) | (simp [*]; done)); done))); refine AWP.runL e tab_ok L8 300 rfl (by first | trivial | (simp [in64] <;> omega) | (simp only [in64, true_and, and_true]; omega)) ?_)
          | (refine AWP.callQ e rfl rfl ?_; (first | refine CallQ.mk (c2) rfl rfl ?_); refine AWP.runL e tab_ok L8 300 rfl (by first | trivial | (simp [in64] <;> omega) | (simp only [in64, true_and, and_true]; omega)) ?_)
          | (refine AWP.eq_agg e tab_ok rfl rfl rfl (.inl ⟨rfl, rfl⟩) ?_ 5 (by omega) rfl ?_ rfl rfl rfl rfl rfl rfl rfl ?_; (focus kernel_rfl); (focus kernel_rfl); refine AWP.runL e tab_ok L8 300 rfl (by first | trivial | (simp [in64] <;> omega) | (simp only [in64, true_and, and_true]; omega)) ?_)
          | (refine AWP.eq_agg e tab_ok rfl rfl rfl (.inr ⟨rfl, rfl⟩) ?_ 5 (by omega) rfl ?_ rfl rfl rfl rfl rfl rfl rfl ?_; (focus kernel_rfl); (focus kernel_rfl); refine AWP.runL e tab_ok L8 300 rfl (by first | trivial | (simp [in64] <;> omega) | (simp only [in64, true_and, and_true]; omega)) ?_)
        )
      refine AWP.ret e tab_ok rfl ?_
      rw [hP]
      rfl
    · refine AWP.runL e tab_ok L8 300 rfl (by first | trivial | (simp [in64] <;> omega) | (simp only [in64, true_and, and_true]; omega)) ?_
      repeat (
        first
          | (refine AWP.askT rfl ?_; (first | (refine Told.t rfl ?_) | (refine Told.f rfl ?_) | (refine Told.t ?_ ?_; (focus assumption)) | (refine Told.f ?_ ?_; (focus assumption)) | (refine Told.t ?_ ?_; (focus (first | (simp; omega) | (simp [*]; done)); done)) | (refine Told.f ?_ ?_; (focus (first | (simp; omega) | (simp [*]; done)); done))); refine AWP.runL e tab_ok L8 300 rfl (by first | trivial | (simp [in64] <;> omega) | (simp only [in64, true_and, and_true]; omega)) ?_)
          | (refine AWP.eq_agg e tab_ok rfl rfl rfl (.inl ⟨rfl, rfl⟩) ?_ 5 (by omega) rfl ?_ rfl rfl rfl rfl rfl rfl rfl ?_; (focus kernel_rfl); (focus kernel_rfl); refine AWP.runL e tab_ok L8 300 rfl (by first | trivial | (simp [in64] <;> omega) | (simp only [in64, true_and, and_true]; omega)) ?_)
          | (refine AWP.eq_agg e tab_ok rfl rfl rfl (.inr ⟨rfl, rfl⟩) ?_ 5 (by omega) rfl ?_ rfl rfl rfl rfl rfl rfl rfl ?_; (focus kernel_rfl); (focus kernel_rfl); refine AWP.runL e tab_ok L8 300 rfl (by first | trivial | (simp [in64] <;> omega) | (simp only [in64, true_and, and_true]; omega)) ?_)
        )
      refine AWP.ret e tab_ok rfl ?_
      rw [hP]
      rfl
  · have hb' : (onD on).length = 0 := hb rfl
    omega
end Go.Proofs.Ythfkoejjpfhcdaa
