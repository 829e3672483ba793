import Derived.Test.YtclmbbcchgfedaaDoorF8
open Go Go.Proofs Go.Sy
namespace Go.Proofs.YtclmbbcchgfedaaDoor

/-- The reference's. -/
def zeroAt (rows : List (List UInt8)) (i : Nat) : Bool := rows.any fun s => s.getD i 0 == 48
def andRef (n : Nat) (rows : List (List UInt8)) : List UInt8 := (List.range n).map fun i => if zeroAt rows i then 48 else 49
theorem andRef_succ (rows : List (List UInt8)) (i : Nat) : andRef (i + 1) rows = andRef i rows ++ [if zeroAt rows i then 48 else 49] := by
  simp [andRef, List.range_succ]
theorem zeroAt_succ {rows : List (List UInt8)} {k : Nat} (i : Nat) (h : k < rows.length) : zeroAt (rows.take (k + 1)) i = (zeroAt (rows.take k) i || (rows[k].getD i 0 == 48)) := by
  unfold zeroAt
  rw [List.take_succ_eq_append_getElem h, List.any_append, List.any_cons, List.any_nil, Bool.or_false]

set_option maxRecDepth 100000 in
set_option maxHeartbeats 1000000 in
theorem refand_eff (rows : List (List UInt8)) (n : Nat) (hn : n ≤ 4100) (hr : rows.length ≤ 8) (h0 : rows ≠ []) (hl : ∀ r ∈ rows, r.length = n) : Eff Tryd.prog 18 [rowsV rows] [] 0 (fun r _ _ => r = .s (strL (andRef n rows))) := by
  have hpos : 0 < rows.length := List.length_pos_iff.2 h0
  have hlen : ((rows.map fun r => [DV.v (Value.string (strL r))]).length) = rows.length := List.length_map _
  have hz0 : (strL rows[0]).size = n := by rw [strL_size]; exact hl _ (List.getElem_mem hpos)
  refine eff_of Tryd.func18 rfl rfl rfl fun cx e hP => ?_
  refine AWP.runL e tab_ok L18 300 rfl (by first | trivial | (simp [in64] <;> omega) | (simp only [in64, true_and, and_true]; omega)) ?_
  refine AWP.loop (ι := Nat) (fun i => ⟨[(4, .i i), (3, .s (strL (andRef i rows))), (0, rowsV rows)], [], 0⟩) (fun i => i ≤ n) (fun i => n - i) 0 (Nat.zero_le _) ?_ ?_
  · intro g
    refine AWP.less e ?_ ?_ ?_ ?_ ?_ (g) <;> (repeat' (first | exact True.intro | (refine And.intro ?_ ?_) | rfl | assumption))
  rintro i Φ hi next
  have hi : i ≤ n := hi
  have hs3 : (strL (andRef i rows)).size = i := by rw [strL_size]; simp [andRef]
  refine AWP.runL e tab_ok L18 300 rfl (by first | trivial | (simp [in64] <;> omega) | (simp only [in64, true_and, and_true]; omega)) ?_
  refine AWP.idx_elt 0 e tab_ok rfl rfl rfl rfl rfl (rows_at hpos) ?_
  refine AWP.runL e tab_ok L18 2 rfl (by first | trivial | (simp [in64] <;> omega) | (simp only [in64, true_and, and_true]; omega)) ?_
  refine AWP.eqT 12 (.i n) rfl (congrArg (fun z : Nat => SV.i (z : Int)) hz0) ?_
  refine AWP.runL e tab_ok L18 300 rfl (by first | trivial | (simp [in64] <;> omega) | (simp only [in64, true_and, and_true]; omega)) ?_
  refine AWP.cond2 rfl (fun hlt => ?_) (fun hlt => ?_)
  · have hlt : i < n := by simpa using hlt
    have nx := next (i + 1) hlt (by show n - (i + 1) < n - i; omega)
    rw [andRef_succ] at nx
    clear next
    refine AWP.runL e tab_ok L18 300 rfl (by first | trivial | (simp [in64] <;> omega) | (simp only [in64, true_and, and_true]; omega)) ?_
    rw [hlen]
    refine AWP.loop (ι := Nat) (fun k => ⟨[(18, .i k), (17, .i rows.length), (16, rowsV rows), (5, .s (strL [if zeroAt (rows.take k) i then 48 else 49])), (4, .i i), (3, .s (strL (andRef i rows))), (0, rowsV rows)], [], 0⟩) (fun k => k ≤ rows.length) (fun k => rows.length - k) 0 (Nat.zero_le _) ?_ ?_
    · intro g
      refine AWP.less e ?_ ?_ ?_ ?_ ?_ (g) <;> (repeat' (first | exact True.intro | (refine And.intro ?_ ?_) | rfl | assumption))
    rintro k Ψ hk nxt
    have hk : k ≤ rows.length := hk
    refine AWP.runL e tab_ok L18 300 rfl (by first | trivial | (simp [in64] <;> omega) | (simp only [in64, true_and, and_true]; omega)) ?_
    refine AWP.cond2 rfl (fun hkl => ?_) (fun hkl => ?_)
    · have hkl : k < rows.length := by simpa using hkl
      have nxt := nxt (k + 1) hkl (by show rows.length - (k + 1) < rows.length - k; omega)
      rw [zeroAt_succ i hkl] at nxt
      refine AWP.runL e tab_ok L18 300 rfl (by first | trivial | (simp [in64] <;> omega) | (simp only [in64, true_and, and_true]; omega)) ?_
      refine AWP.idx_elt k e tab_ok rfl rfl rfl rfl rfl (rows_at hkl) ?_
      have hs : (rows[k]).length = n := hl _ (List.getElem_mem hkl)
      generalize rows[k] = s at *
      have hb : byteAt (strL s) i = ((s.getD i 0).toNat : Int) := by
        rw [b_at s i (by omega), List.getD_eq_getElem?_getD, List.getElem?_eq_getElem (by omega)]; rfl
      have h1 : (byteAt (strL s) i == 48) = (s.getD i 0 == 48) := by rw [hb]; exact u_eq _ 48
      have hz : (strL s).size = n := by rw [strL_size]; exact hs
      rcases cases_b (s.getD i 0 == 48) with h | h <;> rw [h] at h1 nxt
      · rw [Bool.or_true] at nxt
        refine AWP.runL e tab_ok L18 300 rfl (by first | trivial | (simp [] <;> omega) | (simp only [in64, true_and, and_true]; omega)) ?_
        repeat (
          first
            | (refine AWP.askT rfl ?_; (first | (refine Told.t rfl ?_) | (refine Told.f rfl ?_) | (refine Told.t ?_ ?_; (focus assumption)) | (refine Told.f ?_ ?_; (focus assumption)) | (refine Told.t ?_ ?_; (focus (first | (simp; omega) | (simp [*]; done)); done)) | (refine Told.f ?_ ?_; (focus (first | (simp; omega) | (simp [*]; done)); done))); refine AWP.runL e tab_ok L18 300 rfl (by first | trivial | (simp [in64] <;> omega) | (simp only [in64, true_and, and_true]; omega)) ?_)
            | (refine AWP.eq_agg e tab_ok rfl rfl rfl (.inl ⟨rfl, rfl⟩) ?_ 5 (by omega) rfl ?_ rfl rfl rfl rfl rfl rfl rfl ?_; (focus kernel_rfl); (focus kernel_rfl); refine AWP.runL e tab_ok L18 300 rfl (by first | trivial | (simp [in64] <;> omega) | (simp only [in64, true_and, and_true]; omega)) ?_)
            | (refine AWP.eq_agg e tab_ok rfl rfl rfl (.inr ⟨rfl, rfl⟩) ?_ 5 (by omega) rfl ?_ rfl rfl rfl rfl rfl rfl rfl ?_; (focus kernel_rfl); (focus kernel_rfl); refine AWP.runL e tab_ok L18 300 rfl (by first | trivial | (simp [in64] <;> omega) | (simp only [in64, true_and, and_true]; omega)) ?_)
          )
        refine AWP.less e ?_ ?_ ?_ ?_ ?_ (nxt) <;> (repeat' (first | exact True.intro | (refine And.intro ?_ ?_) | rfl | assumption))
      · rw [Bool.or_false] at nxt
        refine AWP.runL e tab_ok L18 300 rfl (by first | trivial | (simp [] <;> omega) | (simp only [in64, true_and, and_true]; omega)) ?_
        repeat (
          first
            | (refine AWP.askT rfl ?_; (first | (refine Told.t rfl ?_) | (refine Told.f rfl ?_) | (refine Told.t ?_ ?_; (focus assumption)) | (refine Told.f ?_ ?_; (focus assumption)) | (refine Told.t ?_ ?_; (focus (first | (simp; omega) | (simp [*]; done)); done)) | (refine Told.f ?_ ?_; (focus (first | (simp; omega) | (simp [*]; done)); done))); refine AWP.runL e tab_ok L18 300 rfl (by first | trivial | (simp [in64] <;> omega) | (simp only [in64, true_and, and_true]; omega)) ?_)
            | (refine AWP.eq_agg e tab_ok rfl rfl rfl (.inl ⟨rfl, rfl⟩) ?_ 5 (by omega) rfl ?_ rfl rfl rfl rfl rfl rfl rfl ?_; (focus kernel_rfl); (focus kernel_rfl); refine AWP.runL e tab_ok L18 300 rfl (by first | trivial | (simp [in64] <;> omega) | (simp only [in64, true_and, and_true]; omega)) ?_)
            | (refine AWP.eq_agg e tab_ok rfl rfl rfl (.inr ⟨rfl, rfl⟩) ?_ 5 (by omega) rfl ?_ rfl rfl rfl rfl rfl rfl rfl ?_; (focus kernel_rfl); (focus kernel_rfl); refine AWP.runL e tab_ok L18 300 rfl (by first | trivial | (simp [in64] <;> omega) | (simp only [in64, true_and, and_true]; omega)) ?_)
          )
        refine AWP.less e ?_ ?_ ?_ ?_ ?_ (nxt) <;> (repeat' (first | exact True.intro | (refine And.intro ?_ ?_) | rfl | assumption))
    · have hkl : ¬ k < rows.length := by simpa using hkl
      obtain rfl : k = rows.length := by omega
      rw [List.take_length]
      have hs1 : (strL [if zeroAt rows i then 48 else 49]).size = 1 := by rw [strL_size]; rfl
      refine AWP.runL e tab_ok L18 300 rfl (by first | trivial | (simp [in64] <;> omega) | (simp only [in64, true_and, and_true]; omega)) ?_
      refine AWP.less e ?_ ?_ ?_ ?_ ?_ (nx) <;> (repeat' (first | exact True.intro | (refine And.intro ?_ ?_) | rfl | assumption))
  · have hlt : ¬ i < n := by simpa using hlt
    obtain rfl : i = n := by omega
    refine AWP.runL e tab_ok L18 300 rfl (by first | trivial | (simp [in64] <;> omega) | (simp only [in64, true_and, and_true]; omega)) ?_
    refine AWP.ret e tab_ok rfl ?_
    rw [hP]
    all_goals first | rfl | (simp [strip]; done)

/-- The two are alike. -/
theorem andL_ref (rows : List (List UInt8)) (r0 : List UInt8) (hb : ∀ r ∈ rows, r.length = r0.length ∧ wellB r = true) (h0 : wellB r0 = true) : andL r0 rows = (List.range r0.length).map fun i => if zeroAt (r0 :: rows) i then 48 else 49 := by
  induction rows generalizing r0 with
  | nil =>
    apply List.ext_getElem (by simp [andL])
    intro i h1 h2
    have h1 : i < r0.length := h1
    simp only [andL, List.foldl_nil, List.getElem_map, List.getElem_range, zeroAt, List.any_cons, List.any_nil, Bool.or_false]
    rw [List.getD_eq_getElem?_getD, List.getElem?_eq_getElem h1, Option.getD_some]
    rcases well_bits h0 i h1 with e | e <;> rw [e] <;> rfl
  | cons r rows ih =>
    have hr := hb r (by simp)
    have hz : (zipA r0 r).length = r0.length := zipK_len _ _ _
    have hat : ∀ i, i < r0.length → (zipA r0 r).getD i 0 = mn (r0.getD i 0) (r.getD i 0) := fun i hi => by
      unfold zipA
      rw [List.getD_eq_getElem?_getD, zipK_at _ _ _ hi, if_pos hi]; rfl
    have hbit : ∀ i, i < r0.length → (r0.getD i 0 = 48 ∨ r0.getD i 0 = 49) ∧ (r.getD i 0 = 48 ∨ r.getD i 0 = 49) := fun i hi => by
      have h1 := well_bits h0 i hi
      have h2 := well_bits hr.2 i (by omega)
      rw [List.getD_eq_getElem?_getD, List.getElem?_eq_getElem hi, List.getD_eq_getElem?_getD, List.getElem?_eq_getElem (by omega)]
      exact ⟨h1, h2⟩
    have hmn : ∀ i, i < r0.length → (mn (r0.getD i 0) (r.getD i 0) == 48) = ((r0.getD i 0 == 48) || (r.getD i 0 == 48)) ∧ bit (mn (r0.getD i 0) (r.getD i 0)) = true := fun i hi => by
      obtain ⟨h1, h2⟩ := hbit i hi
      rcases h1 with e | e <;> rcases h2 with f | f <;> rw [e, f] <;> decide
    have hw : wellB (zipA r0 r) = true := by
      unfold wellB
      rw [hz]
      have := h0
      unfold wellB at this
      simp only [Bool.and_eq_true] at this ⊢
      refine ⟨this.1, List.all_eq_true.2 fun b hb => ?_⟩
      obtain ⟨i, hi, rfl⟩ := List.mem_iff_getElem.1 hb
      have := hat i (by omega)
      rw [List.getD_eq_getElem?_getD, List.getElem?_eq_getElem hi, Option.getD_some] at this
      rw [this]
      exact (hmn i (by omega)).2
    have e := ih (zipA r0 r) (fun q hq => ⟨by rw [hz]; exact (hb q (by simp [hq])).1, (hb q (by simp [hq])).2⟩) hw
    show andL (zipA r0 r) rows = _
    rw [e, hz]
    apply List.map_congr_left
    intro i hi
    have hi : i < r0.length := List.mem_range.1 hi
    have : zeroAt (zipA r0 r :: rows) i = zeroAt (r0 :: r :: rows) i := by
      simp only [zeroAt, List.any_cons]
      rw [hat i hi, (hmn i hi).1, Bool.or_assoc]
    rw [this]
theorem andR_ref (rows : List (List UInt8)) (n : Nat) (h0 : rows ≠ []) (hb : ∀ r ∈ rows, r.length = n ∧ wellB r = true) : andR rows = (andRef n rows, 0) := by
  cases rows with
  | nil => exact absurd rfl h0
  | cons r0 rest =>
    have h := hb r0 (by simp)
    have hall : (r0 :: rest).all (andG r0.length) = true := List.all_eq_true.2 fun r hr => by
      unfold andG
      rw [(hb r hr).2, (hb r hr).1, h.1]
      simp
    show (if (r0 :: rest).all (andG r0.length) then (andL r0 (r0 :: rest), (0 : Int)) else ([], 1)) = _
    rw [if_pos hall, andL_ref _ _ (fun r hr => ⟨by rw [(hb r hr).1, h.1], (hb r hr).2⟩) h.2, h.1]
    unfold andRef
    congr 1
    apply List.map_congr_left
    intro i _
    have : zeroAt (r0 :: r0 :: rest) i = zeroAt (r0 :: rest) i := by
      simp only [zeroAt, List.any_cons, ← Bool.or_assoc, Bool.or_self]
    rw [this]
theorem andR_bad (rows : List (List UInt8)) (n : Nat) (h0 : ∀ r, rows.head? = some r → r.length = n) (hb : rows.all (andG n) = false ∨ rows = []) : andR rows = ([], 1) := by
  cases rows with
  | nil => rfl
  | cons r0 rest =>
    have h := h0 r0 rfl
    subst h
    show (if (r0 :: rest).all (andG r0.length) then (andL r0 (r0 :: rest), (0 : Int)) else ([], 1)) = _
    rcases hb with hb | hb
    · rw [if_neg (by rw [hb]; decide)]
    · cases hb
end Go.Proofs.YtclmbbcchgfedaaDoor
