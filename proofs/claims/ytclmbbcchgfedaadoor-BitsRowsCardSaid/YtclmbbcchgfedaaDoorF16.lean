import Derived.Test.YtclmbbcchgfedaaDoorF15
open Go Go.Proofs Go.Sy Go.RowKit
namespace Go.Proofs.YtclmbbcchgfedaaDoor

abbrev strC (r : List UInt8) : List SV := [.s (strL r)]
theorem strC_ids (rs : List (List UInt8)) (m : Nat) : ∀ e ∈ rs.map strC, SV.idsLt.go m e = true := by
  intro e he
  obtain ⟨b, _, rfl⟩ := List.mem_map.1 he
  rfl
theorem strC_rows (rs : List (List UInt8)) : rs.map strC = (rs.map fun r => [DV.v (.string (strL r))]).map (·.map SV.d) := by rw [List.map_map]; rfl
theorem join_flat (rs : List (List UInt8)) : Lib.join rs [] = rs.flatten := by
  cases rs with
  | nil => rfl
  | cons x r => rw [Lib.join_cons, Lib.joinTail]; simp
theorem join_eff (S : List (List UInt8)) (h8 : S.length ≤ 8) (hf : S.flatten.length ≤ 10000) : Eff Tryd.prog 19 [rowsV S, .s ⟨#[]⟩] [] 0 (fun r _ _ => r = .s (strL S.flatten)) := by
  have e0 : (⟨#[]⟩ : ByteArray).data.toList = [] := rfl
  have em : (S.map strL).map (fun x : ByteArray => x.data.toList) = S := by
    rw [List.map_map]
    conv => rhs; rw [← List.map_id S]
    exact List.map_congr_left fun r _ => strL_data r
  have h := eff_rows (P := Tryd.prog) (f := 19) (fn := Tryd.f19) (v := .string (strL S.flatten)) (sep := .string ⟨#[]⟩) (S.map fun r => .string (strL r)) Tryd.func19 rfl rfl
    (fun h0 w a c => by
      have h0 : S = [] := by simpa using h0
      subst h0
      exact (Any.strings_Join_none Tryd.lays156 Tryd.Builder_Extra_156 a c ⟨#[]⟩ w).mono fun e w' ⟨he, hw⟩ => ⟨he, hw ▸ Below.refl _ _⟩)
    (fun w b o c hc hb hl => by
      have hlen : (S.map fun r => Value.string (strL r)).length = (S.map strL).length := by simp
      have := Any.strings_Join Tryd.lays156 Tryd.Builder_Extra_156 b o c (S.map strL) ⟨#[]⟩ w (fun j x hx => hc j (.string x) (by
        rw [List.getElem?_map] at hx ⊢
        cases hS : S[j]? with
        | none => rw [hS] at hx; cases hx
        | some r => rw [hS] at hx; cases hx; rfl)) hb (by rw [List.length_map]; omega) (by rw [hlen] at hl; exact hl) (by rw [em, e0, join_flat]; omega)
      rw [em, e0, join_flat] at this
      rw [hlen]
      exact this)
  rw [List.map_map] at h
  exact h

/-- The rows, the first i of them cut. -/
def shS (R : List (List UInt8)) (i : Nat) : List (List UInt8) := (R.take i).map (·.take 300) ++ R.drop i
theorem shS_len (R : List (List UInt8)) (i : Nat) : (shS R i).length = R.length := by
  simp only [shS, List.length_append, List.length_map, List.length_take, List.length_drop]; omega
theorem shS_at (R : List (List UInt8)) {i k : Nat} (hk : k < R.length) : (shS R i)[k]? = some (if k < i then (R.getD k []).take 300 else R.getD k []) := by
  unfold shS
  have hg : R.getD k [] = R[k] := by rw [List.getD_eq_getElem?_getD, List.getElem?_eq_getElem hk]; rfl
  rw [hg]
  by_cases h : k < i
  · rw [if_pos h, List.getElem?_append_left (by simp; omega), List.getElem?_map, List.getElem?_take_of_lt h, List.getElem?_eq_getElem hk]; rfl
  · rw [if_neg h, List.getElem?_append_right (by simp; omega), List.length_map, List.length_take, List.getElem?_drop, show i + (k - min i R.length) = k by omega, List.getElem?_eq_getElem hk]
theorem shS_0 (R : List (List UInt8)) : shS R 0 = R := by simp [shS]
theorem shS_end (R : List (List UInt8)) : shS R R.length = R.map (·.take 300) := by simp [shS]
theorem shS_set (R : List (List UInt8)) {i : Nat} (h : i < R.length) : (shS R i).set i ((R.getD i []).take 300) = shS R (i + 1) := by
  apply List.ext_getElem?
  intro k
  by_cases hk : k < R.length
  · rw [shS_at R hk, List.getElem?_set]
    split
    · rename_i e
      subst e
      rw [if_pos (by rw [shS_len]; exact h), if_pos (by omega)]
    · rename_i e
      rw [shS_at R hk]
      congr 1
      by_cases g : k < i
      · rw [if_pos g, if_pos (by omega)]
      · rw [if_neg g, if_neg (by omega)]
  · rw [List.getElem?_eq_none (by rw [List.length_set, shS_len]; omega), List.getElem?_eq_none (by rw [shS_len]; omega)]
theorem shC_at (R : List (List UInt8)) {i k : Nat} (hk : k < R.length) : ((shS R i).map strC)[k]? = some (strC (if k < i then (R.getD k []).take 300 else R.getD k [])) := by
  rw [List.getElem?_map, shS_at R hk]; rfl
/-- What is known of the first i rows. -/
def wellK (R : List (List UInt8)) (i : Nat) : Bool := decide (0 < R.length) && ((R.take i).map (·.take 300)).all fun r => wellB r && (r.length == ((R.getD 0 []).take 300).length)
theorem wellK_succ (R : List (List UInt8)) {i : Nat} (h : i < R.length) : wellK R (i + 1) = (wellK R i && (wellB ((R.getD i []).take 300) && (((R.getD i []).take 300).length == ((R.getD 0 []).take 300).length))) := by
  unfold wellK
  rw [List.take_succ_eq_append_getElem h, List.map_append, List.all_append, Bool.and_assoc]
  simp [List.getD_eq_getElem?_getD, h]
theorem cut8 (R : List (List UInt8)) (N : Nat) : ((R.map fun r => [DV.v (.string (strL r))]).take (if (N : Int) < (((R.map fun r => [DV.v (.string (strL r))]).length : Nat) : Int) then (N : Int) else (((R.map fun r => [DV.v (.string (strL r))]).length : Nat) : Int)).toNat).drop 0 = (R.take N).map fun r => [DV.v (.string (strL r))] := by
  rw [List.drop_zero, List.length_map, ← List.map_take]
  congr 1
  split
  · rfl
  · rw [List.take_of_length_le (by omega), List.take_of_length_le (by omega)]
theorem cut20 (ks : List Int) (N : Nat) : ((ks.map fun k => [DV.v (.int .i64 k)]).take (if (N : Int) < (((ks.map fun k => [DV.v (.int .i64 k)]).length : Nat) : Int) then (N : Int) else (((ks.map fun k => [DV.v (.int .i64 k)]).length : Nat) : Int)).toNat).drop 0 = (ks.take N).map fun k => [DV.v (.int .i64 k)] := by
  rw [List.drop_zero, List.length_map, ← List.map_take]
  congr 1
  split
  · rfl
  · rw [List.take_of_length_le (by omega), List.take_of_length_le (by omega)]

/-- The first so many bits turned, so long as they are there. -/
theorem flipL_bit (s : List UInt8) (ks : List Int) (hb : ∀ b ∈ s, bit b = true) : ∀ b ∈ flipL s ks, bit b = true := by
  induction ks generalizing s with
  | nil => exact hb
  | cons k ks ih =>
    refine ih (flip1 s k.toNat) fun b hb' => ?_
    unfold flip1 at hb'
    by_cases h : k.toNat < s.length
    · rcases List.mem_or_eq_of_mem_set hb' with h1 | h1
      · exact hb b h1
      · rw [h1, List.getD_eq_getElem?_getD, List.getElem?_eq_getElem h]
        exact (opp_x _ (bit_or (hb _ (List.getElem_mem h)))).2.2
    · rw [List.set_eq_of_length_le (by omega)] at hb'
      exact hb b hb'
theorem opp_flip (s : List UInt8) {k : Nat} (h : k < s.length) (hb : ∀ b ∈ s, bit b = true) : s.set k (opp (s.getD k 0)) = flip1 s k := by
  unfold flip1
  congr 1
  rw [List.getD_eq_getElem?_getD, List.getElem?_eq_getElem h]
  rcases bit_or (hb _ (List.getElem_mem h)) with e | e <;> rw [Option.getD_some, e] <;> rfl
theorem well_all {s : List UInt8} (h : wellB s = true) : ∀ b ∈ s, bit b = true := by
  unfold wellB at h; simp only [Bool.and_eq_true] at h; exact List.all_eq_true.1 h.2
set_option maxRecDepth 100000 in
set_option maxHeartbeats 2000000 in
theorem rows_law (R0 R : List (List UInt8)) (k0 ks : List Int) (hR : R0.take 8 = R) (hks : k0.take 20 = ks) (hb : ∀ r ∈ R0, r.length ≤ 9223372036854775807) : Eff Tryd.prog 6 [rowsV R0, intsV k0] [] 0 (fun r _ _ => r = .b true) := by
  have hc0 := cut8 R0 8
  rw [hR] at hc0
  have h8 : R.length ≤ 8 := by rw [← hR]; simp; omega
  refine eff_of Tryd.func6 rfl rfl rfl fun cx e hP => ?_
  refine AWP.runL e tab_ok L6 300 rfl (by first | trivial | (simp [] <;> omega) | (simp only [in64, true_and, and_true]; omega)) ?_
  refine AWP.eqT 24 (rowsV R) rfl (congrArg (fun z => SV.d (.sl 1 z)) hc0) ?_
  refine AWP.append e tab_ok rfl rfl rfl rfl rfl rfl rfl rfl (.sl _) rfl (by rw [← strC_rows]; intro e he; obtain ⟨b, _, rfl⟩ := List.mem_map.1 he; rfl) (by show (0 + _) * 16 ≤ _; simp; omega) (by simp; omega) fun C hC => ?_
  rw [← strC_rows, List.nil_append, List.length_map, Nat.zero_add]
  refine AWP.runL e tab_ok L6 300 rfl (by first | trivial | (simp [in64] <;> omega) | (simp only [in64, true_and, and_true]; omega)) ?_
  refine AWP.loop (ι := Nat) (fun i => ⟨[(31, .i i), (30, .i R.length), (29, .own 1 1 0 R.length C), (5, .b (wellK R i)), (0, .own 1 1 0 R.length C), (1, intsV k0)], [(1, .row 9 false 1 ((shS R i).map strC) C)], 2⟩) (fun i => i ≤ R.length) (fun i => R.length - i) 0 (Nat.zero_le _) ?_ ?_
  · intro g
    rw [shS_0] at g
    refine AWP.less e ?_ ?_ ?_ ?_ ?_ (g) <;> (repeat' (first | exact True.intro | (refine And.intro ?_ ?_) | rfl | assumption))
    · exact congrArg (fun z => some (SV.b z)) (by unfold wellK; rw [List.take_zero, List.map_nil, List.all_nil, Bool.and_true, Bool.eq_iff_iff]; simp)
    · exact strC_ids _ 2
  rintro i Φ hi next
  have hi : i ≤ R.length := hi
  refine AWP.runL e tab_ok L6 300 rfl (by first | trivial | (simp [in64] <;> omega) | (simp only [in64, true_and, and_true]; omega)) ?_
  refine AWP.cond2 rfl (fun hlt => ?_) (fun hlt => ?_)
  · have hlt : i < R.length := by simpa using hlt
    have nx := next (i + 1) hlt (by show R.length - (i + 1) < R.length - i; omega)
    clear next
    rw [wellK_succ R hlt, ← shS_set R hlt] at nx
    have ha := shC_at R (i := i) hlt
    rw [if_neg (Nat.lt_irrefl _)] at ha
    have c1 := short_eff (R.getD i [])
    have hb2 := shC_at R (i := i + 1) hlt
    rw [if_pos (Nat.lt_succ_self _)] at hb2
    have hb0 := shC_at R (i := i + 1) (k := 0) (by omega)
    rw [if_pos (by omega)] at hb0
    have hset : ((shS R i).map strC).set i (strC ((R.getD i []).take 300)) = (shS R (i + 1)).map strC := by rw [← shS_set R hlt, List.map_set]
    have c2 := refright_eff ((R.getD i []).take 300) (by simp; omega)
    rw [shS_set R hlt] at nx
    have z1 : (strL ((R.getD i []).take 300)).size = ((R.getD i []).take 300).length := strL_size _
    have z2 : (strL ((R.getD 0 []).take 300)).size = ((R.getD 0 []).take 300).length := strL_size _
    generalize (R.getD 0 []).take 300 = s0 at *
    generalize R.getD i [] = r at *
    generalize r.take 300 = s at *
    rcases cases_b (wellK R i) with hw | hw <;> rw [hw] at nx ⊢
    · refine AWP.runL e tab_ok L6 300 rfl (by first | trivial | (simp [in64] <;> omega) | (simp only [in64, true_and, and_true]; omega)) ?_
      refine AWP.idx_own e tab_ok rfl rfl rfl rfl i rfl hlt ?_
      refine AWP.load_el e tab_ok rfl rfl rfl rfl (by rw [Nat.zero_add]; exact ha) rfl ?_
      refine AWP.runL e tab_ok L6 300 rfl (by first | trivial | (simp [in64] <;> omega) | (simp only [in64, true_and, and_true]; omega)) ?_
      repeat (
        first
          | (refine AWP.askT rfl ?_; (first | (refine Told.t rfl ?_) | (refine Told.f rfl ?_) | (refine Told.t ?_ ?_; (focus assumption)) | (refine Told.f ?_ ?_; (focus assumption)) | (refine Told.t ?_ ?_; (focus (first | (simp; omega) | (simp [*]; done)); done)) | (refine Told.f ?_ ?_; (focus (first | (simp; omega) | (simp [*]; done)); done))); refine AWP.runL e tab_ok L6 300 rfl (by first | trivial | (simp [in64] <;> omega) | (simp only [in64, true_and, and_true]; omega)) ?_)
          | (refine AWP.callQ e rfl rfl ?_; (first | refine CallQ.mk (c1) rfl rfl ?_); refine AWP.runL e tab_ok L6 300 rfl (by first | trivial | (simp [in64] <;> omega) | (simp only [in64, true_and, and_true]; omega)) ?_)
          | (refine AWP.eq_agg e tab_ok rfl rfl rfl (.inl ⟨rfl, rfl⟩) ?_ 5 (by omega) rfl ?_ rfl rfl rfl rfl rfl rfl rfl ?_; (focus kernel_rfl); (focus kernel_rfl); refine AWP.runL e tab_ok L6 300 rfl (by first | trivial | (simp [in64] <;> omega) | (simp only [in64, true_and, and_true]; omega)) ?_)
          | (refine AWP.eq_agg e tab_ok rfl rfl rfl (.inr ⟨rfl, rfl⟩) ?_ 5 (by omega) rfl ?_ rfl rfl rfl rfl rfl rfl rfl ?_; (focus kernel_rfl); (focus kernel_rfl); refine AWP.runL e tab_ok L6 300 rfl (by first | trivial | (simp [in64] <;> omega) | (simp only [in64, true_and, and_true]; omega)) ?_)
        )
      refine AWP.idx_own e tab_ok rfl rfl rfl rfl i rfl hlt ?_
      refine AWP.store_el e tab_ok rfl rfl rfl rfl rfl (by rw [Nat.zero_add]; exact ha) rfl rfl rfl rfl ?_
      rw [Nat.zero_add, hset]
      refine AWP.runL e tab_ok L6 300 rfl (by first | trivial | (simp [in64] <;> omega) | (simp only [in64, true_and, and_true]; omega)) ?_
      refine AWP.keep L6 rfl ?_
      refine AWP.drg 9 ?_
      (refine DrG.runS e tab_ok 200 rfl (by first | trivial | (simp [in64] <;> omega) | (simp only [in64, true_and, and_true]; omega)) ?_)
      repeat (
        first
          | (refine DrG.askT rfl ?_; (first | (refine Told.t rfl ?_) | (refine Told.f rfl ?_) | (refine Told.t ?_ ?_; (focus assumption)) | (refine Told.f ?_ ?_; (focus assumption)) | (refine Told.t ?_ ?_; (focus (first | (simp; omega) | (simp [*]; done)); done)) | (refine Told.f ?_ ?_; (focus (first | (simp; omega) | (simp [*]; done)); done))); (refine DrG.runS e tab_ok 200 rfl (by first | trivial | (simp [in64] <;> omega) | (simp only [in64, true_and, and_true]; omega)) ?_))
          | (refine DrG.eq_agg e tab_ok rfl rfl rfl (.inl ⟨rfl, rfl⟩) ?_ 5 (by omega) rfl ?_ rfl rfl rfl rfl rfl rfl rfl ?_; (focus kernel_rfl); (focus kernel_rfl); (refine DrG.runS e tab_ok 200 rfl (by first | trivial | (simp [in64] <;> omega) | (simp only [in64, true_and, and_true]; omega)) ?_))
          | (refine DrG.eq_aggGo e tab_ok rfl rfl rfl rfl (.inl ⟨rfl, rfl⟩) ?_ 5 (by omega) rfl ?_ rfl rfl rfl rfl rfl rfl rfl ?_; (focus kernel_rfl); (focus kernel_rfl); (refine DrG.runS e tab_ok 200 rfl (by first | trivial | (simp [in64] <;> omega) | (simp only [in64, true_and, and_true]; omega)) ?_))
          | (refine DrG.eq_agg e tab_ok rfl rfl rfl (.inr ⟨rfl, rfl⟩) ?_ 5 (by omega) rfl ?_ rfl rfl rfl rfl rfl rfl rfl ?_; (focus kernel_rfl); (focus kernel_rfl); (refine DrG.runS e tab_ok 200 rfl (by first | trivial | (simp [in64] <;> omega) | (simp only [in64, true_and, and_true]; omega)) ?_))
          | (refine DrG.eq_aggGo e tab_ok rfl rfl rfl rfl (.inr ⟨rfl, rfl⟩) ?_ 5 (by omega) rfl ?_ rfl rfl rfl rfl rfl rfl rfl ?_; (focus kernel_rfl); (focus kernel_rfl); (refine DrG.runS e tab_ok 200 rfl (by first | trivial | (simp [in64] <;> omega) | (simp only [in64, true_and, and_true]; omega)) ?_))
        )
      refine DrG.idx_ownGo i e tab_ok rfl rfl rfl rfl rfl rfl hlt rfl ?_
      refine DrG.load_elGo (.s (strL s)) e tab_ok rfl rfl rfl rfl rfl (by rw [Nat.zero_add]; exact hb2) rfl rfl ?_
      have hid := strC_ids (shS R (i + 1)) 0
      have hid0 := strC_ids (shS R i) 0
      rcases cases_b (wellB s) with hs | hs <;> rw [hs] at c2 nx
      · (refine DrG.runS e tab_ok 200 rfl (by first | trivial | (simp [in64] <;> omega) | (simp only [in64, true_and, and_true]; omega)) ?_)
        repeat (
          first
            | (refine DrG.askT rfl ?_; (first | (refine Told.t rfl ?_) | (refine Told.f rfl ?_) | (refine Told.t ?_ ?_; (focus assumption)) | (refine Told.f ?_ ?_; (focus assumption)) | (refine Told.t ?_ ?_; (focus (first | (simp; omega) | (simp [*]; done)); done)) | (refine Told.f ?_ ?_; (focus (first | (simp; omega) | (simp [*]; done)); done))); (refine DrG.runS e tab_ok 200 rfl (by first | trivial | (simp [in64] <;> omega) | (simp only [in64, true_and, and_true]; omega)) ?_))
            | (refine DrG.callQ e rfl rfl ?_; (first | refine CallVQ.mk (c2) rfl rfl ?_); (refine DrG.runS e tab_ok 200 rfl (by first | trivial | (simp [in64] <;> omega) | (simp only [in64, true_and, and_true]; omega)) ?_))
            | (refine DrG.callGo e rfl rfl rfl ?_; (first | refine CallVQ.mk (c2) rfl rfl ?_); (refine DrG.runS e tab_ok 200 rfl (by first | trivial | (simp [in64] <;> omega) | (simp only [in64, true_and, and_true]; omega)) ?_))
            | (refine DrG.eq_agg e tab_ok rfl rfl rfl (.inl ⟨rfl, rfl⟩) ?_ 5 (by omega) rfl ?_ rfl rfl rfl rfl rfl rfl rfl ?_; (focus kernel_rfl); (focus kernel_rfl); (refine DrG.runS e tab_ok 200 rfl (by first | trivial | (simp [in64] <;> omega) | (simp only [in64, true_and, and_true]; omega)) ?_))
            | (refine DrG.eq_aggGo e tab_ok rfl rfl rfl rfl (.inl ⟨rfl, rfl⟩) ?_ 5 (by omega) rfl ?_ rfl rfl rfl rfl rfl rfl rfl ?_; (focus kernel_rfl); (focus kernel_rfl); (refine DrG.runS e tab_ok 200 rfl (by first | trivial | (simp [in64] <;> omega) | (simp only [in64, true_and, and_true]; omega)) ?_))
            | (refine DrG.eq_agg e tab_ok rfl rfl rfl (.inr ⟨rfl, rfl⟩) ?_ 5 (by omega) rfl ?_ rfl rfl rfl rfl rfl rfl rfl ?_; (focus kernel_rfl); (focus kernel_rfl); (refine DrG.runS e tab_ok 200 rfl (by first | trivial | (simp [in64] <;> omega) | (simp only [in64, true_and, and_true]; omega)) ?_))
            | (refine DrG.eq_aggGo e tab_ok rfl rfl rfl rfl (.inr ⟨rfl, rfl⟩) ?_ 5 (by omega) rfl ?_ rfl rfl rfl rfl rfl rfl rfl ?_; (focus kernel_rfl); (focus kernel_rfl); (refine DrG.runS e tab_ok 200 rfl (by first | trivial | (simp [in64] <;> omega) | (simp only [in64, true_and, and_true]; omega)) ?_))
          )
        refine DrG.idx_ownGo i e tab_ok rfl rfl rfl rfl rfl rfl hlt rfl ?_
        refine DrG.load_elGo (.s (strL s)) e tab_ok rfl rfl rfl rfl rfl (by rw [Nat.zero_add]; exact hb2) rfl rfl ?_
        (refine DrG.runS e tab_ok 200 rfl (by first | trivial | (simp [in64] <;> omega) | (simp only [in64, true_and, and_true]; omega)) ?_)
        repeat (
          first
            | (refine DrG.askT rfl ?_; (first | (refine Told.t rfl ?_) | (refine Told.f rfl ?_) | (refine Told.t ?_ ?_; (focus assumption)) | (refine Told.f ?_ ?_; (focus assumption)) | (refine Told.t ?_ ?_; (focus (first | (simp; omega) | (simp [*]; done)); done)) | (refine Told.f ?_ ?_; (focus (first | (simp; omega) | (simp [*]; done)); done))); (refine DrG.runS e tab_ok 200 rfl (by first | trivial | (simp [in64] <;> omega) | (simp only [in64, true_and, and_true]; omega)) ?_))
            | (refine DrG.eq_agg e tab_ok rfl rfl rfl (.inl ⟨rfl, rfl⟩) ?_ 5 (by omega) rfl ?_ rfl rfl rfl rfl rfl rfl rfl ?_; (focus kernel_rfl); (focus kernel_rfl); (refine DrG.runS e tab_ok 200 rfl (by first | trivial | (simp [in64] <;> omega) | (simp only [in64, true_and, and_true]; omega)) ?_))
            | (refine DrG.eq_aggGo e tab_ok rfl rfl rfl rfl (.inl ⟨rfl, rfl⟩) ?_ 5 (by omega) rfl ?_ rfl rfl rfl rfl rfl rfl rfl ?_; (focus kernel_rfl); (focus kernel_rfl); (refine DrG.runS e tab_ok 200 rfl (by first | trivial | (simp [in64] <;> omega) | (simp only [in64, true_and, and_true]; omega)) ?_))
            | (refine DrG.eq_agg e tab_ok rfl rfl rfl (.inr ⟨rfl, rfl⟩) ?_ 5 (by omega) rfl ?_ rfl rfl rfl rfl rfl rfl rfl ?_; (focus kernel_rfl); (focus kernel_rfl); (refine DrG.runS e tab_ok 200 rfl (by first | trivial | (simp [in64] <;> omega) | (simp only [in64, true_and, and_true]; omega)) ?_))
            | (refine DrG.eq_aggGo e tab_ok rfl rfl rfl rfl (.inr ⟨rfl, rfl⟩) ?_ 5 (by omega) rfl ?_ rfl rfl rfl rfl rfl rfl rfl ?_; (focus kernel_rfl); (focus kernel_rfl); (refine DrG.runS e tab_ok 200 rfl (by first | trivial | (simp [in64] <;> omega) | (simp only [in64, true_and, and_true]; omega)) ?_))
          )
        refine DrG.idx_ownGo 0 e tab_ok rfl rfl rfl rfl rfl rfl (by omega) rfl ?_
        refine DrG.load_elGo (.s (strL s0)) e tab_ok rfl rfl rfl rfl rfl (by rw [Nat.zero_add]; exact hb0) rfl rfl ?_
        (refine DrG.runS e tab_ok 200 rfl (by first | trivial | (simp [in64] <;> omega) | (simp only [in64, true_and, and_true]; omega)) ?_)
        repeat (
          first
            | (refine DrG.askT rfl ?_; (first | (refine Told.t rfl ?_) | (refine Told.f rfl ?_) | (refine Told.t ?_ ?_; (focus assumption)) | (refine Told.f ?_ ?_; (focus assumption)) | (refine Told.t ?_ ?_; (focus (first | (simp; omega) | (simp [*]; done)); done)) | (refine Told.f ?_ ?_; (focus (first | (simp; omega) | (simp [*]; done)); done))); (refine DrG.runS e tab_ok 200 rfl (by first | trivial | (simp [in64] <;> omega) | (simp only [in64, true_and, and_true]; omega)) ?_))
            | (refine DrG.eq_agg e tab_ok rfl rfl rfl (.inl ⟨rfl, rfl⟩) ?_ 5 (by omega) rfl ?_ rfl rfl rfl rfl rfl rfl rfl ?_; (focus kernel_rfl); (focus kernel_rfl); (refine DrG.runS e tab_ok 200 rfl (by first | trivial | (simp [in64] <;> omega) | (simp only [in64, true_and, and_true]; omega)) ?_))
            | (refine DrG.eq_aggGo e tab_ok rfl rfl rfl rfl (.inl ⟨rfl, rfl⟩) ?_ 5 (by omega) rfl ?_ rfl rfl rfl rfl rfl rfl rfl ?_; (focus kernel_rfl); (focus kernel_rfl); (refine DrG.runS e tab_ok 200 rfl (by first | trivial | (simp [in64] <;> omega) | (simp only [in64, true_and, and_true]; omega)) ?_))
            | (refine DrG.eq_agg e tab_ok rfl rfl rfl (.inr ⟨rfl, rfl⟩) ?_ 5 (by omega) rfl ?_ rfl rfl rfl rfl rfl rfl rfl ?_; (focus kernel_rfl); (focus kernel_rfl); (refine DrG.runS e tab_ok 200 rfl (by first | trivial | (simp [in64] <;> omega) | (simp only [in64, true_and, and_true]; omega)) ?_))
            | (refine DrG.eq_aggGo e tab_ok rfl rfl rfl rfl (.inr ⟨rfl, rfl⟩) ?_ 5 (by omega) rfl ?_ rfl rfl rfl rfl rfl rfl rfl ?_; (focus kernel_rfl); (focus kernel_rfl); (refine DrG.runS e tab_ok 200 rfl (by first | trivial | (simp [in64] <;> omega) | (simp only [in64, true_and, and_true]; omega)) ?_))
          )
        refine DrG.finK e rfl ?_ rfl rfl rfl ?_ ?_
        (focus kernel_rfl)
        (focus (repeat' (first | exact True.intro | (refine And.intro ?_ ?_) | rfl | assumption | exact okRow _)))
        dsimp only [tmS, hpS, tput, effH]
        refine AWP.runL e tab_ok L6 300 rfl (by first | trivial | (simp [in64] <;> omega) | (simp only [in64, true_and, and_true]; omega)) ?_
        refine AWP.less e ?_ ?_ ?_ ?_ ?_ (nx) <;> (repeat' (first | exact True.intro | (refine And.intro ?_ ?_) | rfl | assumption))
        · exact congrArg (fun z => some (SV.b z)) (by rw [z1, z2, Bool.true_and, Bool.true_and, Bool.eq_iff_iff, beq_iff_eq, beq_iff_eq]; omega)
        · exact strC_ids _ 2
      · (refine DrG.runS e tab_ok 200 rfl (by first | trivial | (simp [in64] <;> omega) | (simp only [in64, true_and, and_true]; omega)) ?_)
        repeat (
          first
            | (refine DrG.askT rfl ?_; (first | (refine Told.t rfl ?_) | (refine Told.f rfl ?_) | (refine Told.t ?_ ?_; (focus assumption)) | (refine Told.f ?_ ?_; (focus assumption)) | (refine Told.t ?_ ?_; (focus (first | (simp; omega) | (simp [*]; done)); done)) | (refine Told.f ?_ ?_; (focus (first | (simp; omega) | (simp [*]; done)); done))); (refine DrG.runS e tab_ok 200 rfl (by first | trivial | (simp [in64] <;> omega) | (simp only [in64, true_and, and_true]; omega)) ?_))
            | (refine DrG.callQ e rfl rfl ?_; (first | refine CallVQ.mk (c2) rfl rfl ?_); (refine DrG.runS e tab_ok 200 rfl (by first | trivial | (simp [in64] <;> omega) | (simp only [in64, true_and, and_true]; omega)) ?_))
            | (refine DrG.callGo e rfl rfl rfl ?_; (first | refine CallVQ.mk (c2) rfl rfl ?_); (refine DrG.runS e tab_ok 200 rfl (by first | trivial | (simp [in64] <;> omega) | (simp only [in64, true_and, and_true]; omega)) ?_))
            | (refine DrG.eq_agg e tab_ok rfl rfl rfl (.inl ⟨rfl, rfl⟩) ?_ 5 (by omega) rfl ?_ rfl rfl rfl rfl rfl rfl rfl ?_; (focus kernel_rfl); (focus kernel_rfl); (refine DrG.runS e tab_ok 200 rfl (by first | trivial | (simp [in64] <;> omega) | (simp only [in64, true_and, and_true]; omega)) ?_))
            | (refine DrG.eq_aggGo e tab_ok rfl rfl rfl rfl (.inl ⟨rfl, rfl⟩) ?_ 5 (by omega) rfl ?_ rfl rfl rfl rfl rfl rfl rfl ?_; (focus kernel_rfl); (focus kernel_rfl); (refine DrG.runS e tab_ok 200 rfl (by first | trivial | (simp [in64] <;> omega) | (simp only [in64, true_and, and_true]; omega)) ?_))
            | (refine DrG.eq_agg e tab_ok rfl rfl rfl (.inr ⟨rfl, rfl⟩) ?_ 5 (by omega) rfl ?_ rfl rfl rfl rfl rfl rfl rfl ?_; (focus kernel_rfl); (focus kernel_rfl); (refine DrG.runS e tab_ok 200 rfl (by first | trivial | (simp [in64] <;> omega) | (simp only [in64, true_and, and_true]; omega)) ?_))
            | (refine DrG.eq_aggGo e tab_ok rfl rfl rfl rfl (.inr ⟨rfl, rfl⟩) ?_ 5 (by omega) rfl ?_ rfl rfl rfl rfl rfl rfl rfl ?_; (focus kernel_rfl); (focus kernel_rfl); (refine DrG.runS e tab_ok 200 rfl (by first | trivial | (simp [in64] <;> omega) | (simp only [in64, true_and, and_true]; omega)) ?_))
          )
        refine DrG.finK e rfl ?_ rfl rfl rfl ?_ ?_
        (focus kernel_rfl)
        (focus (repeat' (first | exact True.intro | (refine And.intro ?_ ?_) | rfl | assumption | exact okRow _)))
        dsimp only [tmS, hpS, tput, effH]
        refine AWP.runL e tab_ok L6 300 rfl (by first | trivial | (simp [in64] <;> omega) | (simp only [in64, true_and, and_true]; omega)) ?_
        refine AWP.less e ?_ ?_ ?_ ?_ ?_ (nx) <;> (repeat' (first | exact True.intro | (refine And.intro ?_ ?_) | rfl | assumption))
        exact strC_ids _ 2
    · refine AWP.runL e tab_ok L6 300 rfl (by first | trivial | (simp [in64] <;> omega) | (simp only [in64, true_and, and_true]; omega)) ?_
      refine AWP.idx_own e tab_ok rfl rfl rfl rfl i rfl hlt ?_
      refine AWP.load_el e tab_ok rfl rfl rfl rfl (by rw [Nat.zero_add]; exact ha) rfl ?_
      refine AWP.runL e tab_ok L6 300 rfl (by first | trivial | (simp [in64] <;> omega) | (simp only [in64, true_and, and_true]; omega)) ?_
      repeat (
        first
          | (refine AWP.askT rfl ?_; (first | (refine Told.t rfl ?_) | (refine Told.f rfl ?_) | (refine Told.t ?_ ?_; (focus assumption)) | (refine Told.f ?_ ?_; (focus assumption)) | (refine Told.t ?_ ?_; (focus (first | (simp; omega) | (simp [*]; done)); done)) | (refine Told.f ?_ ?_; (focus (first | (simp; omega) | (simp [*]; done)); done))); refine AWP.runL e tab_ok L6 300 rfl (by first | trivial | (simp [in64] <;> omega) | (simp only [in64, true_and, and_true]; omega)) ?_)
          | (refine AWP.callQ e rfl rfl ?_; (first | refine CallQ.mk (c1) rfl rfl ?_); refine AWP.runL e tab_ok L6 300 rfl (by first | trivial | (simp [in64] <;> omega) | (simp only [in64, true_and, and_true]; omega)) ?_)
          | (refine AWP.eq_agg e tab_ok rfl rfl rfl (.inl ⟨rfl, rfl⟩) ?_ 5 (by omega) rfl ?_ rfl rfl rfl rfl rfl rfl rfl ?_; (focus kernel_rfl); (focus kernel_rfl); refine AWP.runL e tab_ok L6 300 rfl (by first | trivial | (simp [in64] <;> omega) | (simp only [in64, true_and, and_true]; omega)) ?_)
          | (refine AWP.eq_agg e tab_ok rfl rfl rfl (.inr ⟨rfl, rfl⟩) ?_ 5 (by omega) rfl ?_ rfl rfl rfl rfl rfl rfl rfl ?_; (focus kernel_rfl); (focus kernel_rfl); refine AWP.runL e tab_ok L6 300 rfl (by first | trivial | (simp [in64] <;> omega) | (simp only [in64, true_and, and_true]; omega)) ?_)
        )
      refine AWP.idx_own e tab_ok rfl rfl rfl rfl i rfl hlt ?_
      refine AWP.store_el e tab_ok rfl rfl rfl rfl rfl (by rw [Nat.zero_add]; exact ha) rfl rfl rfl rfl ?_
      rw [Nat.zero_add, hset]
      have hid := strC_ids (shS R (i + 1)) 0
      have hid0 := strC_ids (shS R i) 0
      refine AWP.runL e tab_ok L6 300 rfl (by first | trivial | (simp [in64] <;> omega) | (simp only [in64, true_and, and_true]; omega)) ?_
      refine AWP.keep L6 rfl ?_
      refine AWP.drg 9 ?_
      (refine DrG.runS e tab_ok 200 rfl (by first | trivial | (simp [in64] <;> omega) | (simp only [in64, true_and, and_true]; omega)) ?_)
      repeat (
        first
          | (refine DrG.askT rfl ?_; (first | (refine Told.t rfl ?_) | (refine Told.f rfl ?_) | (refine Told.t ?_ ?_; (focus assumption)) | (refine Told.f ?_ ?_; (focus assumption)) | (refine Told.t ?_ ?_; (focus (first | (simp; omega) | (simp [*]; done)); done)) | (refine Told.f ?_ ?_; (focus (first | (simp; omega) | (simp [*]; done)); done))); (refine DrG.runS e tab_ok 200 rfl (by first | trivial | (simp [in64] <;> omega) | (simp only [in64, true_and, and_true]; omega)) ?_))
          | (refine DrG.eq_agg e tab_ok rfl rfl rfl (.inl ⟨rfl, rfl⟩) ?_ 5 (by omega) rfl ?_ rfl rfl rfl rfl rfl rfl rfl ?_; (focus kernel_rfl); (focus kernel_rfl); (refine DrG.runS e tab_ok 200 rfl (by first | trivial | (simp [in64] <;> omega) | (simp only [in64, true_and, and_true]; omega)) ?_))
          | (refine DrG.eq_aggGo e tab_ok rfl rfl rfl rfl (.inl ⟨rfl, rfl⟩) ?_ 5 (by omega) rfl ?_ rfl rfl rfl rfl rfl rfl rfl ?_; (focus kernel_rfl); (focus kernel_rfl); (refine DrG.runS e tab_ok 200 rfl (by first | trivial | (simp [in64] <;> omega) | (simp only [in64, true_and, and_true]; omega)) ?_))
          | (refine DrG.eq_agg e tab_ok rfl rfl rfl (.inr ⟨rfl, rfl⟩) ?_ 5 (by omega) rfl ?_ rfl rfl rfl rfl rfl rfl rfl ?_; (focus kernel_rfl); (focus kernel_rfl); (refine DrG.runS e tab_ok 200 rfl (by first | trivial | (simp [in64] <;> omega) | (simp only [in64, true_and, and_true]; omega)) ?_))
          | (refine DrG.eq_aggGo e tab_ok rfl rfl rfl rfl (.inr ⟨rfl, rfl⟩) ?_ 5 (by omega) rfl ?_ rfl rfl rfl rfl rfl rfl rfl ?_; (focus kernel_rfl); (focus kernel_rfl); (refine DrG.runS e tab_ok 200 rfl (by first | trivial | (simp [in64] <;> omega) | (simp only [in64, true_and, and_true]; omega)) ?_))
        )
      refine DrG.finK e rfl ?_ rfl rfl rfl ?_ ?_
      (focus kernel_rfl)
      (focus (repeat' (first | exact True.intro | (refine And.intro ?_ ?_) | rfl | assumption | exact okRow _)))
      dsimp only [tmS, hpS, tput, effH]
      refine AWP.runL e tab_ok L6 300 rfl (by first | trivial | (simp [in64] <;> omega) | (simp only [in64, true_and, and_true]; omega)) ?_
      refine AWP.less e ?_ ?_ ?_ ?_ ?_ (nx) <;> (repeat' (first | exact True.intro | (refine And.intro ?_ ?_) | rfl | assumption))
      exact strC_ids _ 2
  · have hlt : ¬ i < R.length := by simpa using hlt
    obtain rfl : i = R.length := by omega
    rw [shS_end]
    have hwd : wellK R R.length = (decide (0 < R.length) && (R.map (·.take 300)).all fun r => wellB r && (r.length == ((R.getD 0 []).take 300).length)) := by unfold wellK; rw [List.take_length]
    have hSl : (R.map (·.take 300)).length = R.length := List.length_map _
    have hS3 : ∀ r ∈ R.map (·.take 300), r.length ≤ 300 := fun r hr => by obtain ⟨q, _, rfl⟩ := List.mem_map.1 hr; simp; omega
    have hS0 : ∀ r, (R.map (·.take 300)).head? = some r → r.length = ((R.getD 0 []).take 300).length := fun r hr => by
      cases R with
      | nil => cases hr
      | cons q R => cases hr; rfl
    have hn0 : ((R.getD 0 []).take 300).length ≤ 300 := by simp; omega
    generalize ((R.getD 0 []).take 300).length = n at *
    generalize hS : R.map (·.take 300) = S at *
    have h8S : S.length ≤ 8 := by omega
    rw [hwd]
    rw [← hSl] at *
    have hfl : S.flatten.length ≤ 10000 := by
      have : ∀ (l : List (List UInt8)), (∀ r ∈ l, r.length ≤ 300) → l.flatten.length ≤ 300 * l.length := by
        intro l
        induction l with
        | nil => intro _; simp
        | cons a l ih =>
          intro h
          have h1 := ih fun r hr => h r (by simp [hr])
          have h2 := h a (by simp)
          rw [List.flatten_cons, List.length_append, List.length_cons]
          omega
      have := this S hS3
      omega
    have hcut := cut20 k0 20
    rw [hks] at hcut
    have a1 := and_eff S h8S (fun r hr => by have := hS3 r hr; omega)
    have j1 := join_eff S h8S hfl
    have s1 := short_eff S.flatten
    have hs3 : (S.flatten.take 300).length ≤ 300 := by simp; omega
    have hk20 : ks.length ≤ 20 := by rw [← hks]; simp; omega
    generalize S.flatten = F at *
    generalize F.take 300 = s at *
    have f1 := flip_eff s ks (by omega) (by omega)
    have w1 := refright_eff s (by omega)
    have al := alive_eff
    have hid := strC_ids S 0
    clear hR hS hwd hSl
    rcases cases_b (decide (0 < S.length) && S.all fun r => wellB r && (r.length == n)) with hw | hw
    · rw [hw]
      simp only [Bool.and_eq_true, decide_eq_true_eq] at hw
      obtain ⟨hpos, hall⟩ := hw
      have hne : S ≠ [] := by intro h; rw [h] at hpos; simp at hpos
      have hgood : ∀ r ∈ S, r.length = n ∧ wellB r = true := fun r hr => by
        have := List.all_eq_true.1 hall r hr
        simp only [Bool.and_eq_true, beq_iff_eq] at this
        exact ⟨this.2, this.1⟩
      have a2 := refand_eff S n (by omega) h8S hne (fun r hr => (hgood r hr).1)
      rw [andR_ref S n hne hgood] at a1
      have g1 : ((strL (andRef n S)).toList == (strL (andRef n S)).toList) = true := by simp
      clear hall hpos hgood hS3 hS0
      refine AWP.runL e tab_ok L6 300 rfl (by first | trivial | (simp [] <;> omega) | (simp only [in64, true_and, and_true]; omega)) ?_
      refine AWP.eqT 1 (intsV ks) rfl (congrArg (fun z => SV.d (.sl 1 z)) hcut) ?_
      refine AWP.call e a1 rfl [1] (.cons (.ownAll (id := 1) (S.map fun r => [DV.v (.string (strL r))]) rfl (strC_rows S) (by simp) (by simp)) .nil) rfl rfl ?_
      rintro _ _ _ rfl
      refine ⟨rfl, .inr rfl, ?_⟩
      refine AWP.runL e tab_ok L6 300 rfl (by first | trivial | (simp [in64] <;> omega) | (simp only [in64, true_and, and_true]; omega)) ?_
      repeat (
        first
          | (refine AWP.askT rfl ?_; (first | (refine Told.t rfl ?_) | (refine Told.f rfl ?_) | (refine Told.t ?_ ?_; (focus assumption)) | (refine Told.f ?_ ?_; (focus assumption)) | (refine Told.t ?_ ?_; (focus (first | (simp; omega) | (simp [*]; done)); done)) | (refine Told.f ?_ ?_; (focus (first | (simp; omega) | (simp [*]; done)); done))); refine AWP.runL e tab_ok L6 300 rfl (by first | trivial | (simp [in64] <;> omega) | (simp only [in64, true_and, and_true]; omega)) ?_)
          | (refine AWP.eq_agg e tab_ok rfl rfl rfl (.inl ⟨rfl, rfl⟩) ?_ 5 (by omega) rfl ?_ rfl rfl rfl rfl rfl rfl rfl ?_; (focus kernel_rfl); (focus kernel_rfl); refine AWP.runL e tab_ok L6 300 rfl (by first | trivial | (simp [in64] <;> omega) | (simp only [in64, true_and, and_true]; omega)) ?_)
          | (refine AWP.eq_agg e tab_ok rfl rfl rfl (.inr ⟨rfl, rfl⟩) ?_ 5 (by omega) rfl ?_ rfl rfl rfl rfl rfl rfl rfl ?_; (focus kernel_rfl); (focus kernel_rfl); refine AWP.runL e tab_ok L6 300 rfl (by first | trivial | (simp [in64] <;> omega) | (simp only [in64, true_and, and_true]; omega)) ?_)
        )
      refine AWP.call e a2 rfl [1] (.cons (.ownAll (id := 1) (S.map fun r => [DV.v (.string (strL r))]) rfl (strC_rows S) (by simp) (by simp)) .nil) rfl rfl ?_
      rintro _ _ _ rfl
      refine ⟨rfl, .inr rfl, ?_⟩
      refine AWP.runL e tab_ok L6 300 rfl (by first | trivial | (simp [in64] <;> omega) | (simp only [in64, true_and, and_true]; omega)) ?_
      repeat (
        first
          | (refine AWP.askT rfl ?_; (first | (refine Told.t rfl ?_) | (refine Told.f rfl ?_) | (refine Told.t ?_ ?_; (focus assumption)) | (refine Told.f ?_ ?_; (focus assumption)) | (refine Told.t ?_ ?_; (focus (first | (simp; omega) | (simp [*]; done)); done)) | (refine Told.f ?_ ?_; (focus (first | (simp; omega) | (simp [*]; done)); done))); refine AWP.runL e tab_ok L6 300 rfl (by first | trivial | (simp [in64] <;> omega) | (simp only [in64, true_and, and_true]; omega)) ?_)
          | (refine AWP.eq_agg e tab_ok rfl rfl rfl (.inl ⟨rfl, rfl⟩) ?_ 5 (by omega) rfl ?_ rfl rfl rfl rfl rfl rfl rfl ?_; (focus kernel_rfl); (focus kernel_rfl); refine AWP.runL e tab_ok L6 300 rfl (by first | trivial | (simp [in64] <;> omega) | (simp only [in64, true_and, and_true]; omega)) ?_)
          | (refine AWP.eq_agg e tab_ok rfl rfl rfl (.inr ⟨rfl, rfl⟩) ?_ 5 (by omega) rfl ?_ rfl rfl rfl rfl rfl rfl rfl ?_; (focus kernel_rfl); (focus kernel_rfl); refine AWP.runL e tab_ok L6 300 rfl (by first | trivial | (simp [in64] <;> omega) | (simp only [in64, true_and, and_true]; omega)) ?_)
        )
      refine AWP.call e j1 rfl [1] (.cons (.ownAll (id := 1) (S.map fun r => [DV.v (.string (strL r))]) rfl (strC_rows S) (by simp) (by simp)) (.cons (.refl _) .nil)) rfl rfl ?_
      rintro _ _ _ rfl
      refine ⟨rfl, .inr rfl, ?_⟩
      clear a1 j1
      refine AWP.runL e tab_ok L6 300 rfl (by first | trivial | (simp [in64] <;> omega) | (simp only [in64, true_and, and_true]; omega)) ?_
      refine AWP.keepB [] rfl ?_
      have hkl : ((ks.map fun k => [DV.v (Value.int .i64 k)]).length) = ks.length := List.length_map _
      have hsz : (strL s).size = s.length := strL_size s
      rcases cases_b (wellB s) with hw | hw
      · have r1 := runs_ok s hw
        have r2 := refruns_eff s (by omega)
        have r3 := same_eff (runs s) (by have := runs_len s; omega)
        rw [hw] at w1
        have hfR : flipR s ks = if ks.all (inN s.length) then (flipL s ks, 0) else ([], 1) := by unfold flipR; rw [hw]; simp
        have hwa := well_all hw
        rcases cases_b (ks.all (inN s.length)) with hk | hk
        · rw [hfR, if_pos hk] at f1
          dsimp only at f1
          have hkb := fun (i : Nat) (hi : i < ks.length) => List.all_eq_true.1 hk ks[i] (List.getElem_mem hi)
          have g3 : (!((strL (flipL s ks)).toList == (strL (flipL s ks)).toList)) = false := by simp
          repeat (
            first
              | (refine AWP.askT rfl ?_; (first | (refine Told.t rfl ?_) | (refine Told.f rfl ?_) | (refine Told.t ?_ ?_; (focus assumption)) | (refine Told.f ?_ ?_; (focus assumption)) | (refine Told.t ?_ ?_; (focus (first | (simp; omega) | (simp [*]; done)); done)) | (refine Told.f ?_ ?_; (focus (first | (simp; omega) | (simp [*]; done)); done))); refine AWP.runL e tab_ok L6 300 rfl (by first | trivial | (simp [in64] <;> omega) | (simp only [in64, true_and, and_true]; omega)) ?_)
              | (refine AWP.callQ e rfl rfl ?_; (first | refine CallQ.mk (s1) rfl rfl ?_ | refine CallQ.mk (f1) rfl rfl ?_ | refine CallQ.mk (r1) rfl rfl ?_ | refine CallQ.mk (w1) rfl rfl ?_); refine AWP.runL e tab_ok L6 300 rfl (by first | trivial | (simp [in64] <;> omega) | (simp only [in64, true_and, and_true]; omega)) ?_)
              | (refine AWP.eq_agg e tab_ok rfl rfl rfl (.inl ⟨rfl, rfl⟩) ?_ 5 (by omega) rfl ?_ rfl rfl rfl rfl rfl rfl rfl ?_; (focus kernel_rfl); (focus kernel_rfl); refine AWP.runL e tab_ok L6 300 rfl (by first | trivial | (simp [in64] <;> omega) | (simp only [in64, true_and, and_true]; omega)) ?_)
              | (refine AWP.eq_agg e tab_ok rfl rfl rfl (.inr ⟨rfl, rfl⟩) ?_ 5 (by omega) rfl ?_ rfl rfl rfl rfl rfl rfl rfl ?_; (focus kernel_rfl); (focus kernel_rfl); refine AWP.runL e tab_ok L6 300 rfl (by first | trivial | (simp [in64] <;> omega) | (simp only [in64, true_and, and_true]; omega)) ?_)
            )
          rw [hkl]
          refine AWP.loop (ι := Nat) (fun i => ⟨[(109, .i i), (108, .i ks.length), (107, intsV ks), (16, .b false), (10, .s (strL s)), (11, .s (strL (flipL s ks))), (12, .i 0), (13, runsV (runs s)), (14, .i 0), (1, intsV ks), (15, .s (strL (flipL s (ks.take i))))], [], 2⟩) (fun i => i ≤ ks.length) (fun i => ks.length - i) 0 (Nat.zero_le _) ?_ ?_
          · intro g
            refine AWP.less e ?_ ?_ ?_ ?_ ?_ (g) <;> (repeat' (first | exact True.intro | (refine And.intro ?_ ?_) | rfl | assumption))
          rintro i Φ hi next
          have hi : i ≤ ks.length := hi
          refine AWP.runL e tab_ok L6 300 rfl (by first | trivial | (simp [in64] <;> omega) | (simp only [in64, true_and, and_true]; omega)) ?_
          refine AWP.cond2 rfl (fun hlt => ?_) (fun hlt => ?_)
          · have hlt : i < ks.length := by simpa using hlt
            have nx := next (i + 1) hlt (by show ks.length - (i + 1) < ks.length - i; omega)
            rw [flipL_succ s hlt] at nx
            have hin := hkb i hlt
            have hfl := flipL_len (ks.take i) s
            have hfb := flipL_bit s (ks.take i) hwa
            have hat := ints_at hlt
            clear next hkb
            generalize flipL s (ks.take i) = o at *
            generalize ks[i] = q at *
            unfold inN at hin
            simp only [Bool.and_eq_true, decide_eq_true_eq] at hin
            obtain ⟨q, rfl⟩ : ∃ k : Nat, q = k := ⟨q.toNat, by omega⟩
            rw [Int.toNat_natCast] at nx
            have t1 := turn_eff o q (by omega) (by omega)
            rw [opp_flip o (by omega) hfb] at t1
            refine AWP.runL e tab_ok L6 300 rfl (by first | trivial | (simp [in64] <;> omega) | (simp only [in64, true_and, and_true]; omega)) ?_
            refine AWP.idx_elt i e tab_ok rfl rfl rfl rfl rfl hat ?_
            refine AWP.runL e tab_ok L6 300 rfl (by first | trivial | (simp [in64] <;> omega) | (simp only [in64, true_and, and_true]; omega)) ?_
            repeat (
              first
                | (refine AWP.askT rfl ?_; (first | (refine Told.t rfl ?_) | (refine Told.f rfl ?_) | (refine Told.t ?_ ?_; (focus assumption)) | (refine Told.f ?_ ?_; (focus assumption)) | (refine Told.t ?_ ?_; (focus (first | (simp; omega) | (simp [*]; done)); done)) | (refine Told.f ?_ ?_; (focus (first | (simp; omega) | (simp [*]; done)); done))); refine AWP.runL e tab_ok L6 300 rfl (by first | trivial | (simp [in64] <;> omega) | (simp only [in64, true_and, and_true]; omega)) ?_)
                | (refine AWP.callQ e rfl rfl ?_; (first | refine CallQ.mk (t1) rfl rfl ?_); refine AWP.runL e tab_ok L6 300 rfl (by first | trivial | (simp [in64] <;> omega) | (simp only [in64, true_and, and_true]; omega)) ?_)
                | (refine AWP.eq_agg e tab_ok rfl rfl rfl (.inl ⟨rfl, rfl⟩) ?_ 5 (by omega) rfl ?_ rfl rfl rfl rfl rfl rfl rfl ?_; (focus kernel_rfl); (focus kernel_rfl); refine AWP.runL e tab_ok L6 300 rfl (by first | trivial | (simp [in64] <;> omega) | (simp only [in64, true_and, and_true]; omega)) ?_)
                | (refine AWP.eq_agg e tab_ok rfl rfl rfl (.inr ⟨rfl, rfl⟩) ?_ 5 (by omega) rfl ?_ rfl rfl rfl rfl rfl rfl rfl ?_; (focus kernel_rfl); (focus kernel_rfl); refine AWP.runL e tab_ok L6 300 rfl (by first | trivial | (simp [in64] <;> omega) | (simp only [in64, true_and, and_true]; omega)) ?_)
              )
            refine AWP.less e ?_ ?_ ?_ ?_ ?_ (nx) <;> (repeat' (first | exact True.intro | (refine And.intro ?_ ?_) | rfl | assumption))
          · have hlt : ¬ i < ks.length := by simpa using hlt
            obtain rfl : i = ks.length := by omega
            rw [List.take_length]
            refine AWP.runL e tab_ok L6 300 rfl (by first | trivial | (simp [in64] <;> omega) | (simp only [in64, true_and, and_true]; omega)) ?_
            repeat (
              first
                | (refine AWP.askT rfl ?_; (first | (refine Told.t rfl ?_) | (refine Told.f rfl ?_) | (refine Told.t ?_ ?_; (focus assumption)) | (refine Told.f ?_ ?_; (focus assumption)) | (refine Told.t ?_ ?_; (focus (first | (simp; omega) | (simp [*]; done)); done)) | (refine Told.f ?_ ?_; (focus (first | (simp; omega) | (simp [*]; done)); done))); refine AWP.runL e tab_ok L6 300 rfl (by first | trivial | (simp [in64] <;> omega) | (simp only [in64, true_and, and_true]; omega)) ?_)
                | (refine AWP.callQ e rfl rfl ?_; (first | refine CallQ.mk (al) rfl rfl ?_ | refine CallQ.mk (w1) rfl rfl ?_ | refine CallQ.mk (r2) rfl rfl ?_ | refine CallQ.mk (r3) rfl rfl ?_); refine AWP.runL e tab_ok L6 300 rfl (by first | trivial | (simp [in64] <;> omega) | (simp only [in64, true_and, and_true]; omega)) ?_)
                | (refine AWP.eq_agg e tab_ok rfl rfl rfl (.inl ⟨rfl, rfl⟩) ?_ 5 (by omega) rfl ?_ rfl rfl rfl rfl rfl rfl rfl ?_; (focus kernel_rfl); (focus kernel_rfl); refine AWP.runL e tab_ok L6 300 rfl (by first | trivial | (simp [in64] <;> omega) | (simp only [in64, true_and, and_true]; omega)) ?_)
                | (refine AWP.eq_agg e tab_ok rfl rfl rfl (.inr ⟨rfl, rfl⟩) ?_ 5 (by omega) rfl ?_ rfl rfl rfl rfl rfl rfl rfl ?_; (focus kernel_rfl); (focus kernel_rfl); refine AWP.runL e tab_ok L6 300 rfl (by first | trivial | (simp [in64] <;> omega) | (simp only [in64, true_and, and_true]; omega)) ?_)
              )
            refine AWP.ret e tab_ok rfl ?_
            rw [hP]
            all_goals first | rfl | (simp [strip]; done)
        · rw [hfR, if_neg (by rw [hk]; decide)] at f1
          dsimp only at f1
          have g2 : (!((strL []).toList == (ByteArray.mk #[]).toList)) = false := by rw [str_ne]; rfl
          repeat (
            first
              | (refine AWP.askT rfl ?_; (first | (refine Told.t rfl ?_) | (refine Told.f rfl ?_) | (refine Told.t ?_ ?_; (focus assumption)) | (refine Told.f ?_ ?_; (focus assumption)) | (refine Told.t ?_ ?_; (focus (first | (simp; omega) | (simp [*]; done)); done)) | (refine Told.f ?_ ?_; (focus (first | (simp; omega) | (simp [*]; done)); done))); refine AWP.runL e tab_ok L6 300 rfl (by first | trivial | (simp [in64] <;> omega) | (simp only [in64, true_and, and_true]; omega)) ?_)
              | (refine AWP.callQ e rfl rfl ?_; (first | refine CallQ.mk (s1) rfl rfl ?_ | refine CallQ.mk (f1) rfl rfl ?_ | refine CallQ.mk (r1) rfl rfl ?_ | refine CallQ.mk (w1) rfl rfl ?_); refine AWP.runL e tab_ok L6 300 rfl (by first | trivial | (simp [in64] <;> omega) | (simp only [in64, true_and, and_true]; omega)) ?_)
              | (refine AWP.eq_agg e tab_ok rfl rfl rfl (.inl ⟨rfl, rfl⟩) ?_ 5 (by omega) rfl ?_ rfl rfl rfl rfl rfl rfl rfl ?_; (focus kernel_rfl); (focus kernel_rfl); refine AWP.runL e tab_ok L6 300 rfl (by first | trivial | (simp [in64] <;> omega) | (simp only [in64, true_and, and_true]; omega)) ?_)
              | (refine AWP.eq_agg e tab_ok rfl rfl rfl (.inr ⟨rfl, rfl⟩) ?_ 5 (by omega) rfl ?_ rfl rfl rfl rfl rfl rfl rfl ?_; (focus kernel_rfl); (focus kernel_rfl); refine AWP.runL e tab_ok L6 300 rfl (by first | trivial | (simp [in64] <;> omega) | (simp only [in64, true_and, and_true]; omega)) ?_)
            )
          rw [hkl]
          refine AWP.loop (ι := Nat) (fun i => ⟨[(109, .i i), (108, .i ks.length), (107, intsV ks), (16, .b false), (10, .s (strL s)), (11, .s (strL [])), (12, .i 1), (13, runsV (runs s)), (14, .i 0), (1, intsV ks), (15, .s (strL (flipL s (ks.take i))))], [], 2⟩) (fun i => i ≤ ks.length ∧ (ks.take i).all (inN s.length) = true) (fun i => ks.length - i) 0 ⟨Nat.zero_le _, rfl⟩ ?_ ?_
          · intro g
            refine AWP.less e ?_ ?_ ?_ ?_ ?_ (g) <;> (repeat' (first | exact True.intro | (refine And.intro ?_ ?_) | rfl | assumption))
          rintro i Φ ⟨hi, hpre⟩ next
          have hi : i ≤ ks.length := hi
          have hpre : (ks.take i).all (inN s.length) = true := hpre
          refine AWP.runL e tab_ok L6 300 rfl (by first | trivial | (simp [in64] <;> omega) | (simp only [in64, true_and, and_true]; omega)) ?_
          refine AWP.cond2 rfl (fun hlt => ?_) (fun hlt => ?_)
          · have hlt : i < ks.length := by simpa using hlt
            have nx := next (i + 1)
            have key : (ks.take (i + 1)).all (inN s.length) = inN s.length ks[i] := by
              rw [List.take_succ_eq_append_getElem hlt, List.all_append, hpre, Bool.true_and, List.all_cons, List.all_nil, Bool.and_true]
            rw [flipL_succ s hlt, key] at nx
            have hfl := flipL_len (ks.take i) s
            have hfb := flipL_bit s (ks.take i) hwa
            have hat := ints_at hlt
            clear next
            generalize flipL s (ks.take i) = o at *
            generalize ks[i] = q at *
            refine AWP.runL e tab_ok L6 300 rfl (by first | trivial | (simp [in64] <;> omega) | (simp only [in64, true_and, and_true]; omega)) ?_
            refine AWP.idx_elt i e tab_ok rfl rfl rfl rfl rfl hat ?_
            by_cases h0 : q < 0
            · refine AWP.runL e tab_ok L6 300 rfl (by first | trivial | (simp [in64] <;> omega) | (simp only [in64, true_and, and_true]; omega)) ?_
              repeat (
                first
                  | (refine AWP.askT rfl ?_; (first | (refine Told.t rfl ?_) | (refine Told.f rfl ?_) | (refine Told.t ?_ ?_; (focus assumption)) | (refine Told.f ?_ ?_; (focus assumption)) | (refine Told.t ?_ ?_; (focus (first | (simp; omega) | (simp [*]; done)); done)) | (refine Told.f ?_ ?_; (focus (first | (simp; omega) | (simp [*]; done)); done))); refine AWP.runL e tab_ok L6 300 rfl (by first | trivial | (simp [in64] <;> omega) | (simp only [in64, true_and, and_true]; omega)) ?_)
                  | (refine AWP.callQ e rfl rfl ?_; (first | refine CallQ.mk (al) rfl rfl ?_ | refine CallQ.mk (w1) rfl rfl ?_ | refine CallQ.mk (r2) rfl rfl ?_ | refine CallQ.mk (r3) rfl rfl ?_); refine AWP.runL e tab_ok L6 300 rfl (by first | trivial | (simp [in64] <;> omega) | (simp only [in64, true_and, and_true]; omega)) ?_)
                  | (refine AWP.eq_agg e tab_ok rfl rfl rfl (.inl ⟨rfl, rfl⟩) ?_ 5 (by omega) rfl ?_ rfl rfl rfl rfl rfl rfl rfl ?_; (focus kernel_rfl); (focus kernel_rfl); refine AWP.runL e tab_ok L6 300 rfl (by first | trivial | (simp [in64] <;> omega) | (simp only [in64, true_and, and_true]; omega)) ?_)
                  | (refine AWP.eq_agg e tab_ok rfl rfl rfl (.inr ⟨rfl, rfl⟩) ?_ 5 (by omega) rfl ?_ rfl rfl rfl rfl rfl rfl rfl ?_; (focus kernel_rfl); (focus kernel_rfl); refine AWP.runL e tab_ok L6 300 rfl (by first | trivial | (simp [in64] <;> omega) | (simp only [in64, true_and, and_true]; omega)) ?_)
                )
              refine AWP.ret e tab_ok rfl ?_
              rw [hP]
              all_goals first | rfl | (simp [strip]; done)
            · obtain ⟨q, rfl⟩ : ∃ k : Nat, q = k := ⟨q.toNat, by omega⟩
              by_cases h1 : q < s.length
              · have nx := nx ⟨hlt, by unfold inN; simp; omega⟩ (by show ks.length - (i + 1) < ks.length - i; omega)
                rw [Int.toNat_natCast] at nx
                have t1 := turn_eff o q (by omega) (by omega)
                rw [opp_flip o (by omega) hfb] at t1
                refine AWP.runL e tab_ok L6 300 rfl (by first | trivial | (simp [in64] <;> omega) | (simp only [in64, true_and, and_true]; omega)) ?_
                repeat (
                  first
                    | (refine AWP.askT rfl ?_; (first | (refine Told.t rfl ?_) | (refine Told.f rfl ?_) | (refine Told.t ?_ ?_; (focus assumption)) | (refine Told.f ?_ ?_; (focus assumption)) | (refine Told.t ?_ ?_; (focus (first | (simp; omega) | (simp [*]; done)); done)) | (refine Told.f ?_ ?_; (focus (first | (simp; omega) | (simp [*]; done)); done))); refine AWP.runL e tab_ok L6 300 rfl (by first | trivial | (simp [in64] <;> omega) | (simp only [in64, true_and, and_true]; omega)) ?_)
                    | (refine AWP.callQ e rfl rfl ?_; (first | refine CallQ.mk (t1) rfl rfl ?_); refine AWP.runL e tab_ok L6 300 rfl (by first | trivial | (simp [in64] <;> omega) | (simp only [in64, true_and, and_true]; omega)) ?_)
                    | (refine AWP.eq_agg e tab_ok rfl rfl rfl (.inl ⟨rfl, rfl⟩) ?_ 5 (by omega) rfl ?_ rfl rfl rfl rfl rfl rfl rfl ?_; (focus kernel_rfl); (focus kernel_rfl); refine AWP.runL e tab_ok L6 300 rfl (by first | trivial | (simp [in64] <;> omega) | (simp only [in64, true_and, and_true]; omega)) ?_)
                    | (refine AWP.eq_agg e tab_ok rfl rfl rfl (.inr ⟨rfl, rfl⟩) ?_ 5 (by omega) rfl ?_ rfl rfl rfl rfl rfl rfl rfl ?_; (focus kernel_rfl); (focus kernel_rfl); refine AWP.runL e tab_ok L6 300 rfl (by first | trivial | (simp [in64] <;> omega) | (simp only [in64, true_and, and_true]; omega)) ?_)
                  )
                refine AWP.less e ?_ ?_ ?_ ?_ ?_ (nx) <;> (repeat' (first | exact True.intro | (refine And.intro ?_ ?_) | rfl | assumption))
              · refine AWP.runL e tab_ok L6 300 rfl (by first | trivial | (simp [in64] <;> omega) | (simp only [in64, true_and, and_true]; omega)) ?_
                repeat (
                  first
                    | (refine AWP.askT rfl ?_; (first | (refine Told.t rfl ?_) | (refine Told.f rfl ?_) | (refine Told.t ?_ ?_; (focus assumption)) | (refine Told.f ?_ ?_; (focus assumption)) | (refine Told.t ?_ ?_; (focus (first | (simp; omega) | (simp [*]; done)); done)) | (refine Told.f ?_ ?_; (focus (first | (simp; omega) | (simp [*]; done)); done))); refine AWP.runL e tab_ok L6 300 rfl (by first | trivial | (simp [in64] <;> omega) | (simp only [in64, true_and, and_true]; omega)) ?_)
                    | (refine AWP.callQ e rfl rfl ?_; (first | refine CallQ.mk (al) rfl rfl ?_ | refine CallQ.mk (w1) rfl rfl ?_ | refine CallQ.mk (r2) rfl rfl ?_ | refine CallQ.mk (r3) rfl rfl ?_); refine AWP.runL e tab_ok L6 300 rfl (by first | trivial | (simp [in64] <;> omega) | (simp only [in64, true_and, and_true]; omega)) ?_)
                    | (refine AWP.eq_agg e tab_ok rfl rfl rfl (.inl ⟨rfl, rfl⟩) ?_ 5 (by omega) rfl ?_ rfl rfl rfl rfl rfl rfl rfl ?_; (focus kernel_rfl); (focus kernel_rfl); refine AWP.runL e tab_ok L6 300 rfl (by first | trivial | (simp [in64] <;> omega) | (simp only [in64, true_and, and_true]; omega)) ?_)
                    | (refine AWP.eq_agg e tab_ok rfl rfl rfl (.inr ⟨rfl, rfl⟩) ?_ 5 (by omega) rfl ?_ rfl rfl rfl rfl rfl rfl rfl ?_; (focus kernel_rfl); (focus kernel_rfl); refine AWP.runL e tab_ok L6 300 rfl (by first | trivial | (simp [in64] <;> omega) | (simp only [in64, true_and, and_true]; omega)) ?_)
                  )
                refine AWP.ret e tab_ok rfl ?_
                rw [hP]
                all_goals first | rfl | (simp [strip]; done)
          · have hlt : ¬ i < ks.length := by simpa using hlt
            obtain rfl : i = ks.length := by omega
            rw [List.take_length, hk] at hpre
            cases hpre
      · have r1 := runs_bad s hw
        rw [hw] at w1
        have hfR : flipR s ks = ([], 1) := by unfold flipR; rw [hw]; simp
        rw [hfR] at f1
        dsimp only at f1
        have g2 : (!((strL []).toList == (ByteArray.mk #[]).toList)) = false := by rw [str_ne]; rfl
        repeat (
          first
            | (refine AWP.askT rfl ?_; (first | (refine Told.t rfl ?_) | (refine Told.f rfl ?_) | (refine Told.t ?_ ?_; (focus assumption)) | (refine Told.f ?_ ?_; (focus assumption)) | (refine Told.t ?_ ?_; (focus (first | (simp; omega) | (simp [*]; done)); done)) | (refine Told.f ?_ ?_; (focus (first | (simp; omega) | (simp [*]; done)); done))); refine AWP.runL e tab_ok L6 300 rfl (by first | trivial | (simp [in64] <;> omega) | (simp only [in64, true_and, and_true]; omega)) ?_)
            | (refine AWP.callQ e rfl rfl ?_; (first | refine CallQ.mk (s1) rfl rfl ?_ | refine CallQ.mk (f1) rfl rfl ?_ | refine CallQ.mk (r1) rfl rfl ?_ | refine CallQ.mk (w1) rfl rfl ?_); refine AWP.runL e tab_ok L6 300 rfl (by first | trivial | (simp [in64] <;> omega) | (simp only [in64, true_and, and_true]; omega)) ?_)
            | (refine AWP.eq_agg e tab_ok rfl rfl rfl (.inl ⟨rfl, rfl⟩) ?_ 5 (by omega) rfl ?_ rfl rfl rfl rfl rfl rfl rfl ?_; (focus kernel_rfl); (focus kernel_rfl); refine AWP.runL e tab_ok L6 300 rfl (by first | trivial | (simp [in64] <;> omega) | (simp only [in64, true_and, and_true]; omega)) ?_)
            | (refine AWP.eq_agg e tab_ok rfl rfl rfl (.inr ⟨rfl, rfl⟩) ?_ 5 (by omega) rfl ?_ rfl rfl rfl rfl rfl rfl rfl ?_; (focus kernel_rfl); (focus kernel_rfl); refine AWP.runL e tab_ok L6 300 rfl (by first | trivial | (simp [in64] <;> omega) | (simp only [in64, true_and, and_true]; omega)) ?_)
          )
        rw [hkl]
        refine AWP.loop (ι := Unit) (fun _ => ⟨[(109, .i 0), (108, .i ks.length), (107, intsV ks), (16, .b true), (10, .s (strL s)), (11, .s (strL [])), (12, .i 1), (13, .d .nil), (14, .i 1), (1, intsV ks), (15, .s (strL s))], [], 2⟩) (fun _ => True) (fun _ => 0) () trivial ?_ ?_
        · intro g
          refine AWP.less e ?_ ?_ ?_ ?_ ?_ (g) <;> (repeat' (first | exact True.intro | (refine And.intro ?_ ?_) | rfl | assumption))
        rintro _ Φ _ _
        refine AWP.runL e tab_ok L6 300 rfl (by first | trivial | (simp [in64] <;> omega) | (simp only [in64, true_and, and_true]; omega)) ?_
        refine AWP.cond2 rfl (fun hlt => ?_) (fun hlt => ?_)
        · have hlt : 0 < ks.length := by simpa using hlt
          refine AWP.runL e tab_ok L6 300 rfl (by first | trivial | (simp [in64] <;> omega) | (simp only [in64, true_and, and_true]; omega)) ?_
          refine AWP.idx_elt 0 e tab_ok rfl rfl rfl rfl rfl (ints_at hlt) ?_
          refine AWP.runL e tab_ok L6 300 rfl (by first | trivial | (simp [in64] <;> omega) | (simp only [in64, true_and, and_true]; omega)) ?_
          repeat (
            first
              | (refine AWP.askT rfl ?_; (first | (refine Told.t rfl ?_) | (refine Told.f rfl ?_) | (refine Told.t ?_ ?_; (focus assumption)) | (refine Told.f ?_ ?_; (focus assumption)) | (refine Told.t ?_ ?_; (focus (first | (simp; omega) | (simp [*]; done)); done)) | (refine Told.f ?_ ?_; (focus (first | (simp; omega) | (simp [*]; done)); done))); refine AWP.runL e tab_ok L6 300 rfl (by first | trivial | (simp [in64] <;> omega) | (simp only [in64, true_and, and_true]; omega)) ?_)
              | (refine AWP.callQ e rfl rfl ?_; (first | refine CallQ.mk (al) rfl rfl ?_ | refine CallQ.mk (w1) rfl rfl ?_); refine AWP.runL e tab_ok L6 300 rfl (by first | trivial | (simp [in64] <;> omega) | (simp only [in64, true_and, and_true]; omega)) ?_)
              | (refine AWP.eq_agg e tab_ok rfl rfl rfl (.inl ⟨rfl, rfl⟩) ?_ 5 (by omega) rfl ?_ rfl rfl rfl rfl rfl rfl rfl ?_; (focus kernel_rfl); (focus kernel_rfl); refine AWP.runL e tab_ok L6 300 rfl (by first | trivial | (simp [in64] <;> omega) | (simp only [in64, true_and, and_true]; omega)) ?_)
              | (refine AWP.eq_agg e tab_ok rfl rfl rfl (.inr ⟨rfl, rfl⟩) ?_ 5 (by omega) rfl ?_ rfl rfl rfl rfl rfl rfl rfl ?_; (focus kernel_rfl); (focus kernel_rfl); refine AWP.runL e tab_ok L6 300 rfl (by first | trivial | (simp [in64] <;> omega) | (simp only [in64, true_and, and_true]; omega)) ?_)
            )
          refine AWP.ret e tab_ok rfl ?_
          rw [hP]
          all_goals first | rfl | (simp [strip]; done)
        · refine AWP.runL e tab_ok L6 300 rfl (by first | trivial | (simp [in64] <;> omega) | (simp only [in64, true_and, and_true]; omega)) ?_
          repeat (
            first
              | (refine AWP.askT rfl ?_; (first | (refine Told.t rfl ?_) | (refine Told.f rfl ?_) | (refine Told.t ?_ ?_; (focus assumption)) | (refine Told.f ?_ ?_; (focus assumption)) | (refine Told.t ?_ ?_; (focus (first | (simp; omega) | (simp [*]; done)); done)) | (refine Told.f ?_ ?_; (focus (first | (simp; omega) | (simp [*]; done)); done))); refine AWP.runL e tab_ok L6 300 rfl (by first | trivial | (simp [in64] <;> omega) | (simp only [in64, true_and, and_true]; omega)) ?_)
              | (refine AWP.callQ e rfl rfl ?_; (first | refine CallQ.mk (al) rfl rfl ?_ | refine CallQ.mk (w1) rfl rfl ?_); refine AWP.runL e tab_ok L6 300 rfl (by first | trivial | (simp [in64] <;> omega) | (simp only [in64, true_and, and_true]; omega)) ?_)
              | (refine AWP.eq_agg e tab_ok rfl rfl rfl (.inl ⟨rfl, rfl⟩) ?_ 5 (by omega) rfl ?_ rfl rfl rfl rfl rfl rfl rfl ?_; (focus kernel_rfl); (focus kernel_rfl); refine AWP.runL e tab_ok L6 300 rfl (by first | trivial | (simp [in64] <;> omega) | (simp only [in64, true_and, and_true]; omega)) ?_)
              | (refine AWP.eq_agg e tab_ok rfl rfl rfl (.inr ⟨rfl, rfl⟩) ?_ 5 (by omega) rfl ?_ rfl rfl rfl rfl rfl rfl rfl ?_; (focus kernel_rfl); (focus kernel_rfl); refine AWP.runL e tab_ok L6 300 rfl (by first | trivial | (simp [in64] <;> omega) | (simp only [in64, true_and, and_true]; omega)) ?_)
            )
          refine AWP.ret e tab_ok rfl ?_
          rw [hP]
          all_goals first | rfl | (simp [strip]; done)
    · rw [hw]
      have hbad : S.all (andG n) = false ∨ S = [] := by
        rw [Bool.and_eq_false_iff] at hw
        rcases hw with hw | hw
        · refine .inr (List.eq_nil_of_length_eq_zero ?_)
          have : ¬ 0 < S.length := by simpa using hw
          omega
        · exact .inl hw
      rw [andR_bad S n hS0 hbad] at a1
      dsimp only at a1
      clear hw hS3 hS0 hbad
      refine AWP.runL e tab_ok L6 300 rfl (by first | trivial | (simp [] <;> omega) | (simp only [in64, true_and, and_true]; omega)) ?_
      refine AWP.eqT 1 (intsV ks) rfl (congrArg (fun z => SV.d (.sl 1 z)) hcut) ?_
      refine AWP.call e a1 rfl [1] (.cons (.ownAll (id := 1) (S.map fun r => [DV.v (.string (strL r))]) rfl (strC_rows S) (by simp) (by simp)) .nil) rfl rfl ?_
      rintro _ _ _ rfl
      refine ⟨rfl, .inr rfl, ?_⟩
      refine AWP.runL e tab_ok L6 300 rfl (by first | trivial | (simp [in64] <;> omega) | (simp only [in64, true_and, and_true]; omega)) ?_
      have g1 : (!((strL []).toList == (ByteArray.mk #[]).toList)) = false := by rw [str_ne]; rfl
      repeat (
        first
          | (refine AWP.askT rfl ?_; (first | (refine Told.t rfl ?_) | (refine Told.f rfl ?_) | (refine Told.t ?_ ?_; (focus assumption)) | (refine Told.f ?_ ?_; (focus assumption)) | (refine Told.t ?_ ?_; (focus (first | (simp; omega) | (simp [*]; done)); done)) | (refine Told.f ?_ ?_; (focus (first | (simp; omega) | (simp [*]; done)); done))); refine AWP.runL e tab_ok L6 300 rfl (by first | trivial | (simp [in64] <;> omega) | (simp only [in64, true_and, and_true]; omega)) ?_)
          | (refine AWP.eq_agg e tab_ok rfl rfl rfl (.inl ⟨rfl, rfl⟩) ?_ 5 (by omega) rfl ?_ rfl rfl rfl rfl rfl rfl rfl ?_; (focus kernel_rfl); (focus kernel_rfl); refine AWP.runL e tab_ok L6 300 rfl (by first | trivial | (simp [in64] <;> omega) | (simp only [in64, true_and, and_true]; omega)) ?_)
          | (refine AWP.eq_agg e tab_ok rfl rfl rfl (.inr ⟨rfl, rfl⟩) ?_ 5 (by omega) rfl ?_ rfl rfl rfl rfl rfl rfl rfl ?_; (focus kernel_rfl); (focus kernel_rfl); refine AWP.runL e tab_ok L6 300 rfl (by first | trivial | (simp [in64] <;> omega) | (simp only [in64, true_and, and_true]; omega)) ?_)
        )
      refine AWP.call e j1 rfl [1] (.cons (.ownAll (id := 1) (S.map fun r => [DV.v (.string (strL r))]) rfl (strC_rows S) (by simp) (by simp)) (.cons (.refl _) .nil)) rfl rfl ?_
      rintro _ _ _ rfl
      refine ⟨rfl, .inr rfl, ?_⟩
      clear a1 j1
      refine AWP.runL e tab_ok L6 300 rfl (by first | trivial | (simp [in64] <;> omega) | (simp only [in64, true_and, and_true]; omega)) ?_
      refine AWP.keepB [] rfl ?_
      have hkl : ((ks.map fun k => [DV.v (Value.int .i64 k)]).length) = ks.length := List.length_map _
      have hsz : (strL s).size = s.length := strL_size s
      rcases cases_b (wellB s) with hw | hw
      · have r1 := runs_ok s hw
        have r2 := refruns_eff s (by omega)
        have r3 := same_eff (runs s) (by have := runs_len s; omega)
        rw [hw] at w1
        have hfR : flipR s ks = if ks.all (inN s.length) then (flipL s ks, 0) else ([], 1) := by unfold flipR; rw [hw]; simp
        have hwa := well_all hw
        rcases cases_b (ks.all (inN s.length)) with hk | hk
        · rw [hfR, if_pos hk] at f1
          dsimp only at f1
          have hkb := fun (i : Nat) (hi : i < ks.length) => List.all_eq_true.1 hk ks[i] (List.getElem_mem hi)
          have g3 : (!((strL (flipL s ks)).toList == (strL (flipL s ks)).toList)) = false := by simp
          repeat (
            first
              | (refine AWP.askT rfl ?_; (first | (refine Told.t rfl ?_) | (refine Told.f rfl ?_) | (refine Told.t ?_ ?_; (focus assumption)) | (refine Told.f ?_ ?_; (focus assumption)) | (refine Told.t ?_ ?_; (focus (first | (simp; omega) | (simp [*]; done)); done)) | (refine Told.f ?_ ?_; (focus (first | (simp; omega) | (simp [*]; done)); done))); refine AWP.runL e tab_ok L6 300 rfl (by first | trivial | (simp [in64] <;> omega) | (simp only [in64, true_and, and_true]; omega)) ?_)
              | (refine AWP.callQ e rfl rfl ?_; (first | refine CallQ.mk (s1) rfl rfl ?_ | refine CallQ.mk (f1) rfl rfl ?_ | refine CallQ.mk (r1) rfl rfl ?_ | refine CallQ.mk (w1) rfl rfl ?_); refine AWP.runL e tab_ok L6 300 rfl (by first | trivial | (simp [in64] <;> omega) | (simp only [in64, true_and, and_true]; omega)) ?_)
              | (refine AWP.eq_agg e tab_ok rfl rfl rfl (.inl ⟨rfl, rfl⟩) ?_ 5 (by omega) rfl ?_ rfl rfl rfl rfl rfl rfl rfl ?_; (focus kernel_rfl); (focus kernel_rfl); refine AWP.runL e tab_ok L6 300 rfl (by first | trivial | (simp [in64] <;> omega) | (simp only [in64, true_and, and_true]; omega)) ?_)
              | (refine AWP.eq_agg e tab_ok rfl rfl rfl (.inr ⟨rfl, rfl⟩) ?_ 5 (by omega) rfl ?_ rfl rfl rfl rfl rfl rfl rfl ?_; (focus kernel_rfl); (focus kernel_rfl); refine AWP.runL e tab_ok L6 300 rfl (by first | trivial | (simp [in64] <;> omega) | (simp only [in64, true_and, and_true]; omega)) ?_)
            )
          rw [hkl]
          refine AWP.loop (ι := Nat) (fun i => ⟨[(109, .i i), (108, .i ks.length), (107, intsV ks), (16, .b false), (10, .s (strL s)), (11, .s (strL (flipL s ks))), (12, .i 0), (13, runsV (runs s)), (14, .i 0), (1, intsV ks), (15, .s (strL (flipL s (ks.take i))))], [], 2⟩) (fun i => i ≤ ks.length) (fun i => ks.length - i) 0 (Nat.zero_le _) ?_ ?_
          · intro g
            refine AWP.less e ?_ ?_ ?_ ?_ ?_ (g) <;> (repeat' (first | exact True.intro | (refine And.intro ?_ ?_) | rfl | assumption))
          rintro i Φ hi next
          have hi : i ≤ ks.length := hi
          refine AWP.runL e tab_ok L6 300 rfl (by first | trivial | (simp [in64] <;> omega) | (simp only [in64, true_and, and_true]; omega)) ?_
          refine AWP.cond2 rfl (fun hlt => ?_) (fun hlt => ?_)
          · have hlt : i < ks.length := by simpa using hlt
            have nx := next (i + 1) hlt (by show ks.length - (i + 1) < ks.length - i; omega)
            rw [flipL_succ s hlt] at nx
            have hin := hkb i hlt
            have hfl := flipL_len (ks.take i) s
            have hfb := flipL_bit s (ks.take i) hwa
            have hat := ints_at hlt
            clear next hkb
            generalize flipL s (ks.take i) = o at *
            generalize ks[i] = q at *
            unfold inN at hin
            simp only [Bool.and_eq_true, decide_eq_true_eq] at hin
            obtain ⟨q, rfl⟩ : ∃ k : Nat, q = k := ⟨q.toNat, by omega⟩
            rw [Int.toNat_natCast] at nx
            have t1 := turn_eff o q (by omega) (by omega)
            rw [opp_flip o (by omega) hfb] at t1
            refine AWP.runL e tab_ok L6 300 rfl (by first | trivial | (simp [in64] <;> omega) | (simp only [in64, true_and, and_true]; omega)) ?_
            refine AWP.idx_elt i e tab_ok rfl rfl rfl rfl rfl hat ?_
            refine AWP.runL e tab_ok L6 300 rfl (by first | trivial | (simp [in64] <;> omega) | (simp only [in64, true_and, and_true]; omega)) ?_
            repeat (
              first
                | (refine AWP.askT rfl ?_; (first | (refine Told.t rfl ?_) | (refine Told.f rfl ?_) | (refine Told.t ?_ ?_; (focus assumption)) | (refine Told.f ?_ ?_; (focus assumption)) | (refine Told.t ?_ ?_; (focus (first | (simp; omega) | (simp [*]; done)); done)) | (refine Told.f ?_ ?_; (focus (first | (simp; omega) | (simp [*]; done)); done))); refine AWP.runL e tab_ok L6 300 rfl (by first | trivial | (simp [in64] <;> omega) | (simp only [in64, true_and, and_true]; omega)) ?_)
                | (refine AWP.callQ e rfl rfl ?_; (first | refine CallQ.mk (t1) rfl rfl ?_); refine AWP.runL e tab_ok L6 300 rfl (by first | trivial | (simp [in64] <;> omega) | (simp only [in64, true_and, and_true]; omega)) ?_)
                | (refine AWP.eq_agg e tab_ok rfl rfl rfl (.inl ⟨rfl, rfl⟩) ?_ 5 (by omega) rfl ?_ rfl rfl rfl rfl rfl rfl rfl ?_; (focus kernel_rfl); (focus kernel_rfl); refine AWP.runL e tab_ok L6 300 rfl (by first | trivial | (simp [in64] <;> omega) | (simp only [in64, true_and, and_true]; omega)) ?_)
                | (refine AWP.eq_agg e tab_ok rfl rfl rfl (.inr ⟨rfl, rfl⟩) ?_ 5 (by omega) rfl ?_ rfl rfl rfl rfl rfl rfl rfl ?_; (focus kernel_rfl); (focus kernel_rfl); refine AWP.runL e tab_ok L6 300 rfl (by first | trivial | (simp [in64] <;> omega) | (simp only [in64, true_and, and_true]; omega)) ?_)
              )
            refine AWP.less e ?_ ?_ ?_ ?_ ?_ (nx) <;> (repeat' (first | exact True.intro | (refine And.intro ?_ ?_) | rfl | assumption))
          · have hlt : ¬ i < ks.length := by simpa using hlt
            obtain rfl : i = ks.length := by omega
            rw [List.take_length]
            refine AWP.runL e tab_ok L6 300 rfl (by first | trivial | (simp [in64] <;> omega) | (simp only [in64, true_and, and_true]; omega)) ?_
            repeat (
              first
                | (refine AWP.askT rfl ?_; (first | (refine Told.t rfl ?_) | (refine Told.f rfl ?_) | (refine Told.t ?_ ?_; (focus assumption)) | (refine Told.f ?_ ?_; (focus assumption)) | (refine Told.t ?_ ?_; (focus (first | (simp; omega) | (simp [*]; done)); done)) | (refine Told.f ?_ ?_; (focus (first | (simp; omega) | (simp [*]; done)); done))); refine AWP.runL e tab_ok L6 300 rfl (by first | trivial | (simp [in64] <;> omega) | (simp only [in64, true_and, and_true]; omega)) ?_)
                | (refine AWP.callQ e rfl rfl ?_; (first | refine CallQ.mk (al) rfl rfl ?_ | refine CallQ.mk (w1) rfl rfl ?_ | refine CallQ.mk (r2) rfl rfl ?_ | refine CallQ.mk (r3) rfl rfl ?_); refine AWP.runL e tab_ok L6 300 rfl (by first | trivial | (simp [in64] <;> omega) | (simp only [in64, true_and, and_true]; omega)) ?_)
                | (refine AWP.eq_agg e tab_ok rfl rfl rfl (.inl ⟨rfl, rfl⟩) ?_ 5 (by omega) rfl ?_ rfl rfl rfl rfl rfl rfl rfl ?_; (focus kernel_rfl); (focus kernel_rfl); refine AWP.runL e tab_ok L6 300 rfl (by first | trivial | (simp [in64] <;> omega) | (simp only [in64, true_and, and_true]; omega)) ?_)
                | (refine AWP.eq_agg e tab_ok rfl rfl rfl (.inr ⟨rfl, rfl⟩) ?_ 5 (by omega) rfl ?_ rfl rfl rfl rfl rfl rfl rfl ?_; (focus kernel_rfl); (focus kernel_rfl); refine AWP.runL e tab_ok L6 300 rfl (by first | trivial | (simp [in64] <;> omega) | (simp only [in64, true_and, and_true]; omega)) ?_)
              )
            refine AWP.ret e tab_ok rfl ?_
            rw [hP]
            all_goals first | rfl | (simp [strip]; done)
        · rw [hfR, if_neg (by rw [hk]; decide)] at f1
          dsimp only at f1
          have g2 : (!((strL []).toList == (ByteArray.mk #[]).toList)) = false := by rw [str_ne]; rfl
          repeat (
            first
              | (refine AWP.askT rfl ?_; (first | (refine Told.t rfl ?_) | (refine Told.f rfl ?_) | (refine Told.t ?_ ?_; (focus assumption)) | (refine Told.f ?_ ?_; (focus assumption)) | (refine Told.t ?_ ?_; (focus (first | (simp; omega) | (simp [*]; done)); done)) | (refine Told.f ?_ ?_; (focus (first | (simp; omega) | (simp [*]; done)); done))); refine AWP.runL e tab_ok L6 300 rfl (by first | trivial | (simp [in64] <;> omega) | (simp only [in64, true_and, and_true]; omega)) ?_)
              | (refine AWP.callQ e rfl rfl ?_; (first | refine CallQ.mk (s1) rfl rfl ?_ | refine CallQ.mk (f1) rfl rfl ?_ | refine CallQ.mk (r1) rfl rfl ?_ | refine CallQ.mk (w1) rfl rfl ?_); refine AWP.runL e tab_ok L6 300 rfl (by first | trivial | (simp [in64] <;> omega) | (simp only [in64, true_and, and_true]; omega)) ?_)
              | (refine AWP.eq_agg e tab_ok rfl rfl rfl (.inl ⟨rfl, rfl⟩) ?_ 5 (by omega) rfl ?_ rfl rfl rfl rfl rfl rfl rfl ?_; (focus kernel_rfl); (focus kernel_rfl); refine AWP.runL e tab_ok L6 300 rfl (by first | trivial | (simp [in64] <;> omega) | (simp only [in64, true_and, and_true]; omega)) ?_)
              | (refine AWP.eq_agg e tab_ok rfl rfl rfl (.inr ⟨rfl, rfl⟩) ?_ 5 (by omega) rfl ?_ rfl rfl rfl rfl rfl rfl rfl ?_; (focus kernel_rfl); (focus kernel_rfl); refine AWP.runL e tab_ok L6 300 rfl (by first | trivial | (simp [in64] <;> omega) | (simp only [in64, true_and, and_true]; omega)) ?_)
            )
          rw [hkl]
          refine AWP.loop (ι := Nat) (fun i => ⟨[(109, .i i), (108, .i ks.length), (107, intsV ks), (16, .b false), (10, .s (strL s)), (11, .s (strL [])), (12, .i 1), (13, runsV (runs s)), (14, .i 0), (1, intsV ks), (15, .s (strL (flipL s (ks.take i))))], [], 2⟩) (fun i => i ≤ ks.length ∧ (ks.take i).all (inN s.length) = true) (fun i => ks.length - i) 0 ⟨Nat.zero_le _, rfl⟩ ?_ ?_
          · intro g
            refine AWP.less e ?_ ?_ ?_ ?_ ?_ (g) <;> (repeat' (first | exact True.intro | (refine And.intro ?_ ?_) | rfl | assumption))
          rintro i Φ ⟨hi, hpre⟩ next
          have hi : i ≤ ks.length := hi
          have hpre : (ks.take i).all (inN s.length) = true := hpre
          refine AWP.runL e tab_ok L6 300 rfl (by first | trivial | (simp [in64] <;> omega) | (simp only [in64, true_and, and_true]; omega)) ?_
          refine AWP.cond2 rfl (fun hlt => ?_) (fun hlt => ?_)
          · have hlt : i < ks.length := by simpa using hlt
            have nx := next (i + 1)
            have key : (ks.take (i + 1)).all (inN s.length) = inN s.length ks[i] := by
              rw [List.take_succ_eq_append_getElem hlt, List.all_append, hpre, Bool.true_and, List.all_cons, List.all_nil, Bool.and_true]
            rw [flipL_succ s hlt, key] at nx
            have hfl := flipL_len (ks.take i) s
            have hfb := flipL_bit s (ks.take i) hwa
            have hat := ints_at hlt
            clear next
            generalize flipL s (ks.take i) = o at *
            generalize ks[i] = q at *
            refine AWP.runL e tab_ok L6 300 rfl (by first | trivial | (simp [in64] <;> omega) | (simp only [in64, true_and, and_true]; omega)) ?_
            refine AWP.idx_elt i e tab_ok rfl rfl rfl rfl rfl hat ?_
            by_cases h0 : q < 0
            · refine AWP.runL e tab_ok L6 300 rfl (by first | trivial | (simp [in64] <;> omega) | (simp only [in64, true_and, and_true]; omega)) ?_
              repeat (
                first
                  | (refine AWP.askT rfl ?_; (first | (refine Told.t rfl ?_) | (refine Told.f rfl ?_) | (refine Told.t ?_ ?_; (focus assumption)) | (refine Told.f ?_ ?_; (focus assumption)) | (refine Told.t ?_ ?_; (focus (first | (simp; omega) | (simp [*]; done)); done)) | (refine Told.f ?_ ?_; (focus (first | (simp; omega) | (simp [*]; done)); done))); refine AWP.runL e tab_ok L6 300 rfl (by first | trivial | (simp [in64] <;> omega) | (simp only [in64, true_and, and_true]; omega)) ?_)
                  | (refine AWP.callQ e rfl rfl ?_; (first | refine CallQ.mk (al) rfl rfl ?_ | refine CallQ.mk (w1) rfl rfl ?_ | refine CallQ.mk (r2) rfl rfl ?_ | refine CallQ.mk (r3) rfl rfl ?_); refine AWP.runL e tab_ok L6 300 rfl (by first | trivial | (simp [in64] <;> omega) | (simp only [in64, true_and, and_true]; omega)) ?_)
                  | (refine AWP.eq_agg e tab_ok rfl rfl rfl (.inl ⟨rfl, rfl⟩) ?_ 5 (by omega) rfl ?_ rfl rfl rfl rfl rfl rfl rfl ?_; (focus kernel_rfl); (focus kernel_rfl); refine AWP.runL e tab_ok L6 300 rfl (by first | trivial | (simp [in64] <;> omega) | (simp only [in64, true_and, and_true]; omega)) ?_)
                  | (refine AWP.eq_agg e tab_ok rfl rfl rfl (.inr ⟨rfl, rfl⟩) ?_ 5 (by omega) rfl ?_ rfl rfl rfl rfl rfl rfl rfl ?_; (focus kernel_rfl); (focus kernel_rfl); refine AWP.runL e tab_ok L6 300 rfl (by first | trivial | (simp [in64] <;> omega) | (simp only [in64, true_and, and_true]; omega)) ?_)
                )
              refine AWP.ret e tab_ok rfl ?_
              rw [hP]
              all_goals first | rfl | (simp [strip]; done)
            · obtain ⟨q, rfl⟩ : ∃ k : Nat, q = k := ⟨q.toNat, by omega⟩
              by_cases h1 : q < s.length
              · have nx := nx ⟨hlt, by unfold inN; simp; omega⟩ (by show ks.length - (i + 1) < ks.length - i; omega)
                rw [Int.toNat_natCast] at nx
                have t1 := turn_eff o q (by omega) (by omega)
                rw [opp_flip o (by omega) hfb] at t1
                refine AWP.runL e tab_ok L6 300 rfl (by first | trivial | (simp [in64] <;> omega) | (simp only [in64, true_and, and_true]; omega)) ?_
                repeat (
                  first
                    | (refine AWP.askT rfl ?_; (first | (refine Told.t rfl ?_) | (refine Told.f rfl ?_) | (refine Told.t ?_ ?_; (focus assumption)) | (refine Told.f ?_ ?_; (focus assumption)) | (refine Told.t ?_ ?_; (focus (first | (simp; omega) | (simp [*]; done)); done)) | (refine Told.f ?_ ?_; (focus (first | (simp; omega) | (simp [*]; done)); done))); refine AWP.runL e tab_ok L6 300 rfl (by first | trivial | (simp [in64] <;> omega) | (simp only [in64, true_and, and_true]; omega)) ?_)
                    | (refine AWP.callQ e rfl rfl ?_; (first | refine CallQ.mk (t1) rfl rfl ?_); refine AWP.runL e tab_ok L6 300 rfl (by first | trivial | (simp [in64] <;> omega) | (simp only [in64, true_and, and_true]; omega)) ?_)
                    | (refine AWP.eq_agg e tab_ok rfl rfl rfl (.inl ⟨rfl, rfl⟩) ?_ 5 (by omega) rfl ?_ rfl rfl rfl rfl rfl rfl rfl ?_; (focus kernel_rfl); (focus kernel_rfl); refine AWP.runL e tab_ok L6 300 rfl (by first | trivial | (simp [in64] <;> omega) | (simp only [in64, true_and, and_true]; omega)) ?_)
                    | (refine AWP.eq_agg e tab_ok rfl rfl rfl (.inr ⟨rfl, rfl⟩) ?_ 5 (by omega) rfl ?_ rfl rfl rfl rfl rfl rfl rfl ?_; (focus kernel_rfl); (focus kernel_rfl); refine AWP.runL e tab_ok L6 300 rfl (by first | trivial | (simp [in64] <;> omega) | (simp only [in64, true_and, and_true]; omega)) ?_)
                  )
                refine AWP.less e ?_ ?_ ?_ ?_ ?_ (nx) <;> (repeat' (first | exact True.intro | (refine And.intro ?_ ?_) | rfl | assumption))
              · refine AWP.runL e tab_ok L6 300 rfl (by first | trivial | (simp [in64] <;> omega) | (simp only [in64, true_and, and_true]; omega)) ?_
                repeat (
                  first
                    | (refine AWP.askT rfl ?_; (first | (refine Told.t rfl ?_) | (refine Told.f rfl ?_) | (refine Told.t ?_ ?_; (focus assumption)) | (refine Told.f ?_ ?_; (focus assumption)) | (refine Told.t ?_ ?_; (focus (first | (simp; omega) | (simp [*]; done)); done)) | (refine Told.f ?_ ?_; (focus (first | (simp; omega) | (simp [*]; done)); done))); refine AWP.runL e tab_ok L6 300 rfl (by first | trivial | (simp [in64] <;> omega) | (simp only [in64, true_and, and_true]; omega)) ?_)
                    | (refine AWP.callQ e rfl rfl ?_; (first | refine CallQ.mk (al) rfl rfl ?_ | refine CallQ.mk (w1) rfl rfl ?_ | refine CallQ.mk (r2) rfl rfl ?_ | refine CallQ.mk (r3) rfl rfl ?_); refine AWP.runL e tab_ok L6 300 rfl (by first | trivial | (simp [in64] <;> omega) | (simp only [in64, true_and, and_true]; omega)) ?_)
                    | (refine AWP.eq_agg e tab_ok rfl rfl rfl (.inl ⟨rfl, rfl⟩) ?_ 5 (by omega) rfl ?_ rfl rfl rfl rfl rfl rfl rfl ?_; (focus kernel_rfl); (focus kernel_rfl); refine AWP.runL e tab_ok L6 300 rfl (by first | trivial | (simp [in64] <;> omega) | (simp only [in64, true_and, and_true]; omega)) ?_)
                    | (refine AWP.eq_agg e tab_ok rfl rfl rfl (.inr ⟨rfl, rfl⟩) ?_ 5 (by omega) rfl ?_ rfl rfl rfl rfl rfl rfl rfl ?_; (focus kernel_rfl); (focus kernel_rfl); refine AWP.runL e tab_ok L6 300 rfl (by first | trivial | (simp [in64] <;> omega) | (simp only [in64, true_and, and_true]; omega)) ?_)
                  )
                refine AWP.ret e tab_ok rfl ?_
                rw [hP]
                all_goals first | rfl | (simp [strip]; done)
          · have hlt : ¬ i < ks.length := by simpa using hlt
            obtain rfl : i = ks.length := by omega
            rw [List.take_length, hk] at hpre
            cases hpre
      · have r1 := runs_bad s hw
        rw [hw] at w1
        have hfR : flipR s ks = ([], 1) := by unfold flipR; rw [hw]; simp
        rw [hfR] at f1
        dsimp only at f1
        have g2 : (!((strL []).toList == (ByteArray.mk #[]).toList)) = false := by rw [str_ne]; rfl
        repeat (
          first
            | (refine AWP.askT rfl ?_; (first | (refine Told.t rfl ?_) | (refine Told.f rfl ?_) | (refine Told.t ?_ ?_; (focus assumption)) | (refine Told.f ?_ ?_; (focus assumption)) | (refine Told.t ?_ ?_; (focus (first | (simp; omega) | (simp [*]; done)); done)) | (refine Told.f ?_ ?_; (focus (first | (simp; omega) | (simp [*]; done)); done))); refine AWP.runL e tab_ok L6 300 rfl (by first | trivial | (simp [in64] <;> omega) | (simp only [in64, true_and, and_true]; omega)) ?_)
            | (refine AWP.callQ e rfl rfl ?_; (first | refine CallQ.mk (s1) rfl rfl ?_ | refine CallQ.mk (f1) rfl rfl ?_ | refine CallQ.mk (r1) rfl rfl ?_ | refine CallQ.mk (w1) rfl rfl ?_); refine AWP.runL e tab_ok L6 300 rfl (by first | trivial | (simp [in64] <;> omega) | (simp only [in64, true_and, and_true]; omega)) ?_)
            | (refine AWP.eq_agg e tab_ok rfl rfl rfl (.inl ⟨rfl, rfl⟩) ?_ 5 (by omega) rfl ?_ rfl rfl rfl rfl rfl rfl rfl ?_; (focus kernel_rfl); (focus kernel_rfl); refine AWP.runL e tab_ok L6 300 rfl (by first | trivial | (simp [in64] <;> omega) | (simp only [in64, true_and, and_true]; omega)) ?_)
            | (refine AWP.eq_agg e tab_ok rfl rfl rfl (.inr ⟨rfl, rfl⟩) ?_ 5 (by omega) rfl ?_ rfl rfl rfl rfl rfl rfl rfl ?_; (focus kernel_rfl); (focus kernel_rfl); refine AWP.runL e tab_ok L6 300 rfl (by first | trivial | (simp [in64] <;> omega) | (simp only [in64, true_and, and_true]; omega)) ?_)
          )
        rw [hkl]
        refine AWP.loop (ι := Unit) (fun _ => ⟨[(109, .i 0), (108, .i ks.length), (107, intsV ks), (16, .b true), (10, .s (strL s)), (11, .s (strL [])), (12, .i 1), (13, .d .nil), (14, .i 1), (1, intsV ks), (15, .s (strL s))], [], 2⟩) (fun _ => True) (fun _ => 0) () trivial ?_ ?_
        · intro g
          refine AWP.less e ?_ ?_ ?_ ?_ ?_ (g) <;> (repeat' (first | exact True.intro | (refine And.intro ?_ ?_) | rfl | assumption))
        rintro _ Φ _ _
        refine AWP.runL e tab_ok L6 300 rfl (by first | trivial | (simp [in64] <;> omega) | (simp only [in64, true_and, and_true]; omega)) ?_
        refine AWP.cond2 rfl (fun hlt => ?_) (fun hlt => ?_)
        · have hlt : 0 < ks.length := by simpa using hlt
          refine AWP.runL e tab_ok L6 300 rfl (by first | trivial | (simp [in64] <;> omega) | (simp only [in64, true_and, and_true]; omega)) ?_
          refine AWP.idx_elt 0 e tab_ok rfl rfl rfl rfl rfl (ints_at hlt) ?_
          refine AWP.runL e tab_ok L6 300 rfl (by first | trivial | (simp [in64] <;> omega) | (simp only [in64, true_and, and_true]; omega)) ?_
          repeat (
            first
              | (refine AWP.askT rfl ?_; (first | (refine Told.t rfl ?_) | (refine Told.f rfl ?_) | (refine Told.t ?_ ?_; (focus assumption)) | (refine Told.f ?_ ?_; (focus assumption)) | (refine Told.t ?_ ?_; (focus (first | (simp; omega) | (simp [*]; done)); done)) | (refine Told.f ?_ ?_; (focus (first | (simp; omega) | (simp [*]; done)); done))); refine AWP.runL e tab_ok L6 300 rfl (by first | trivial | (simp [in64] <;> omega) | (simp only [in64, true_and, and_true]; omega)) ?_)
              | (refine AWP.callQ e rfl rfl ?_; (first | refine CallQ.mk (al) rfl rfl ?_ | refine CallQ.mk (w1) rfl rfl ?_); refine AWP.runL e tab_ok L6 300 rfl (by first | trivial | (simp [in64] <;> omega) | (simp only [in64, true_and, and_true]; omega)) ?_)
              | (refine AWP.eq_agg e tab_ok rfl rfl rfl (.inl ⟨rfl, rfl⟩) ?_ 5 (by omega) rfl ?_ rfl rfl rfl rfl rfl rfl rfl ?_; (focus kernel_rfl); (focus kernel_rfl); refine AWP.runL e tab_ok L6 300 rfl (by first | trivial | (simp [in64] <;> omega) | (simp only [in64, true_and, and_true]; omega)) ?_)
              | (refine AWP.eq_agg e tab_ok rfl rfl rfl (.inr ⟨rfl, rfl⟩) ?_ 5 (by omega) rfl ?_ rfl rfl rfl rfl rfl rfl rfl ?_; (focus kernel_rfl); (focus kernel_rfl); refine AWP.runL e tab_ok L6 300 rfl (by first | trivial | (simp [in64] <;> omega) | (simp only [in64, true_and, and_true]; omega)) ?_)
            )
          refine AWP.ret e tab_ok rfl ?_
          rw [hP]
          all_goals first | rfl | (simp [strip]; done)
        · refine AWP.runL e tab_ok L6 300 rfl (by first | trivial | (simp [in64] <;> omega) | (simp only [in64, true_and, and_true]; omega)) ?_
          repeat (
            first
              | (refine AWP.askT rfl ?_; (first | (refine Told.t rfl ?_) | (refine Told.f rfl ?_) | (refine Told.t ?_ ?_; (focus assumption)) | (refine Told.f ?_ ?_; (focus assumption)) | (refine Told.t ?_ ?_; (focus (first | (simp; omega) | (simp [*]; done)); done)) | (refine Told.f ?_ ?_; (focus (first | (simp; omega) | (simp [*]; done)); done))); refine AWP.runL e tab_ok L6 300 rfl (by first | trivial | (simp [in64] <;> omega) | (simp only [in64, true_and, and_true]; omega)) ?_)
              | (refine AWP.callQ e rfl rfl ?_; (first | refine CallQ.mk (al) rfl rfl ?_ | refine CallQ.mk (w1) rfl rfl ?_); refine AWP.runL e tab_ok L6 300 rfl (by first | trivial | (simp [in64] <;> omega) | (simp only [in64, true_and, and_true]; omega)) ?_)
              | (refine AWP.eq_agg e tab_ok rfl rfl rfl (.inl ⟨rfl, rfl⟩) ?_ 5 (by omega) rfl ?_ rfl rfl rfl rfl rfl rfl rfl ?_; (focus kernel_rfl); (focus kernel_rfl); refine AWP.runL e tab_ok L6 300 rfl (by first | trivial | (simp [in64] <;> omega) | (simp only [in64, true_and, and_true]; omega)) ?_)
              | (refine AWP.eq_agg e tab_ok rfl rfl rfl (.inr ⟨rfl, rfl⟩) ?_ 5 (by omega) rfl ?_ rfl rfl rfl rfl rfl rfl rfl ?_; (focus kernel_rfl); (focus kernel_rfl); refine AWP.runL e tab_ok L6 300 rfl (by first | trivial | (simp [in64] <;> omega) | (simp only [in64, true_and, and_true]; omega)) ?_)
            )
          refine AWP.ret e tab_ok rfl ?_
          rw [hP]
          all_goals first | rfl | (simp [strip]; done)
end Go.Proofs.YtclmbbcchgfedaaDoor
