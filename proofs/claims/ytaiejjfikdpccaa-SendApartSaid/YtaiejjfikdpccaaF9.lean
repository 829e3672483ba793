import Derived.Test.YtaiejjfikdpccaaF8
open Go Go.Proofs Go.Sy
namespace Go.Proofs.Ytaiejjfikdpccaa

def clamp (lo hi z : Int) : Int := if hi < (if lo > z then lo else z) then hi else (if lo > z then lo else z)
theorem clamp_nat (lo hi z : Int) (h : 0 ≤ lo) (h2 : lo ≤ hi) : ∃ n : Nat, clamp lo hi z = n ∧ lo ≤ n ∧ n ≤ hi := by
  refine ⟨(clamp lo hi z).toNat, ?_, ?_, ?_⟩ <;> unfold clamp <;> (split <;> (try split)) <;> (try split) <;> omega

set_option maxHeartbeats 2000000 in
set_option maxRecDepth 100000 in
theorem cuts_bad (s : SE) (a b : Int) (hr : rightB s = false) : Eff Try.prog 3 [.agg (sC s), .i a, .i b] [] 0 (fun r _ _ => r = .b true) := by
  obtain ⟨A, hA, a0, a1⟩ := clamp_nat 0 100 a (by decide) (by decide)
  obtain ⟨B, hB, b0, b1⟩ := clamp_nat 0 100 b (by decide) (by decide)
  have c1 := run_bad s (A + B) hr
  have c2 := run_bad s A hr
  clear hr
  refine eff_of Try.func3 rfl rfl rfl fun cx e hP => ?_
  refine AWP.runL e tab_ok L3 16 rfl (by first | trivial | (simp [in64] <;> omega)) ?_
  refine AWP.eqT 1 (.i A) rfl (congrArg SV.i hA) ?_
  refine AWP.eqT 2 (.i B) rfl (congrArg SV.i hB) ?_
  clear hA hB
  refine AWP.runL e tab_ok L3 300 rfl (by first | trivial | (simp [in64] <;> omega)) ?_
  repeat (
    first
      | (refine AWP.askT rfl ?_; (first | (refine Told.t rfl ?_) | (refine Told.f rfl ?_) | (refine Told.t ?_ ?_; (focus assumption)) | (refine Told.f ?_ ?_; (focus assumption)) | (refine Told.t ?_ ?_; (focus (first | (simp; omega) | (simp [*]; done)); done)) | (refine Told.f ?_ ?_; (focus (first | (simp; omega) | (simp [*]; done)); done))); refine AWP.runL e tab_ok L3 300 rfl (by first | trivial | (simp [in64] <;> omega)) ?_)
      | (refine AWP.callQ e rfl rfl ?_; (first | refine CallQ.mk (c1) rfl rfl ?_ | refine CallQ.mk (c2) rfl rfl ?_ | refine CallQ.mk (alive_eff) rfl rfl ?_); refine AWP.runL e tab_ok L3 300 rfl (by first | trivial | (simp [in64] <;> omega)) ?_)
      | (refine AWP.eq_agg e tab_ok rfl rfl rfl (.inl ⟨rfl, rfl⟩) ?_ 5 (by omega) rfl ?_ rfl rfl rfl rfl rfl rfl rfl ?_; (focus kernel_rfl); (focus kernel_rfl); refine AWP.runL e tab_ok L3 300 rfl (by first | trivial | (simp [in64] <;> omega)) ?_)
      | (refine AWP.eq_agg e tab_ok rfl rfl rfl (.inr ⟨rfl, rfl⟩) ?_ 5 (by omega) rfl ?_ rfl rfl rfl rfl rfl rfl rfl ?_; (focus kernel_rfl); (focus kernel_rfl); refine AWP.runL e tab_ok L3 300 rfl (by first | trivial | (simp [in64] <;> omega)) ?_)
    )
  refine AWP.ret e tab_ok rfl ?_
  rw [hP]
  all_goals first | rfl | (simp [strip]; done)

set_option maxHeartbeats 2000000 in
set_option maxRecDepth 100000 in
theorem cuts_ok (s : SE) (a b : Int) (hr : rightB s = true) : Eff Try.prog 3 [.agg (sC s), .i a, .i b] [] 0 (fun r _ _ => r = .b true) := by
  obtain ⟨A, hA, a0, a1⟩ := clamp_nat 0 100 a (by decide) (by decide)
  obtain ⟨B, hB, b0, b1⟩ := clamp_nat 0 100 b (by decide) (by decide)
  have c1 := run_ok s (A + B) hr (by omega)
  have c2 := run_own s A hr (by omega)
  have c3 := run_ok (runS s A) B (right_run hr A) (by omega)
  have l1 := out_len s A
  have l2 := out_len (runS s A) B
  have l3 := out_len s (A + B)
  have l4 := out_mem (runS s A) B
  rw [run_add] at c1
  rw [out_add] at c1 l3
  rw [Int.natCast_add] at c1
  clear hr
  obtain ⟨X, hX⟩ : ∃ X, X = runS (runS s A) B := ⟨_, rfl⟩
  obtain ⟨Y, hY⟩ : ∃ Y, Y = runS s A := ⟨_, rfl⟩
  obtain ⟨O, hO⟩ : ∃ O, O = out (runS s A) B := ⟨_, rfl⟩
  obtain ⟨M, hM⟩ : ∃ M, M = out s A := ⟨_, rfl⟩
  rw [← hX] at c1 c3
  rw [← hO] at c1 c3 l3
  rw [← hO] at l2 l4
  rw [← hM] at c1 c2 l1 l3
  rw [← hY] at c2 c3
  clear hX hO hM hY
  have c4 := same_eff (M ++ O.map fun k => (A : Int) + k) (M ++ O.map fun k => (A : Int) + k) (by omega)
  rw [beq_self_eq_true] at c4
  refine eff_of Try.func3 rfl rfl rfl fun cx e hP => ?_
  refine AWP.runL e tab_ok L3 16 rfl (by first | trivial | (simp [in64] <;> omega)) ?_
  refine AWP.eqT 1 (.i A) rfl (congrArg SV.i hA) ?_
  refine AWP.eqT 2 (.i B) rfl (congrArg SV.i hB) ?_
  clear hA hB
  refine AWP.runL e tab_ok L3 300 rfl (by first | trivial | (simp [in64] <;> omega)) ?_
  repeat (
    first
      | (refine AWP.askT rfl ?_; (first | (refine Told.t rfl ?_) | (refine Told.f rfl ?_) | (refine Told.t ?_ ?_; (focus assumption)) | (refine Told.f ?_ ?_; (focus assumption)) | (refine Told.t ?_ ?_; (focus (first | (simp; omega) | (simp [*]; done)); done)) | (refine Told.f ?_ ?_; (focus (first | (simp; omega) | (simp [*]; done)); done))); refine AWP.runL e tab_ok L3 300 rfl (by first | trivial | (simp [in64] <;> omega)) ?_)
      | (refine AWP.callQ e rfl rfl ?_; (first | refine CallQ.mk (c1) rfl rfl ?_); refine AWP.runL e tab_ok L3 300 rfl (by first | trivial | (simp [in64] <;> omega)) ?_)
      | (refine AWP.eq_agg e tab_ok rfl rfl rfl (.inl ⟨rfl, rfl⟩) ?_ 5 (by omega) rfl ?_ rfl rfl rfl rfl rfl rfl rfl ?_; (focus kernel_rfl); (focus kernel_rfl); refine AWP.runL e tab_ok L3 300 rfl (by first | trivial | (simp [in64] <;> omega)) ?_)
      | (refine AWP.eq_agg e tab_ok rfl rfl rfl (.inr ⟨rfl, rfl⟩) ?_ 5 (by omega) rfl ?_ rfl rfl rfl rfl rfl rfl rfl ?_; (focus kernel_rfl); (focus kernel_rfl); refine AWP.runL e tab_ok L3 300 rfl (by first | trivial | (simp [in64] <;> omega)) ?_)
    )
  refine AWP.callC e c2 rfl rfl rfl rfl fun C hC => ⟨⟨trivial, ints_ok _ _, trivial⟩, ?_⟩
  refine AWP.runL e tab_ok L3 300 rfl (by first | trivial | (simp [in64] <;> omega)) ?_
  repeat (
    first
      | (refine AWP.askT rfl ?_; (first | (refine Told.t rfl ?_) | (refine Told.f rfl ?_) | (refine Told.t ?_ ?_; (focus assumption)) | (refine Told.f ?_ ?_; (focus assumption)) | (refine Told.t ?_ ?_; (focus (first | (simp; omega) | (simp [*]; done)); done)) | (refine Told.f ?_ ?_; (focus (first | (simp; omega) | (simp [*]; done)); done))); refine AWP.runL e tab_ok L3 300 rfl (by first | trivial | (simp [in64] <;> omega)) ?_)
      | (refine AWP.callQ e rfl rfl ?_; (first | refine CallQ.mk (c3) rfl rfl ?_); refine AWP.runL e tab_ok L3 300 rfl (by first | trivial | (simp [in64] <;> omega)) ?_)
      | (refine AWP.eq_agg e tab_ok rfl rfl rfl (.inl ⟨rfl, rfl⟩) ?_ 5 (by omega) rfl ?_ rfl rfl rfl rfl rfl rfl rfl ?_; (focus kernel_rfl); (focus kernel_rfl); refine AWP.runL e tab_ok L3 300 rfl (by first | trivial | (simp [in64] <;> omega)) ?_)
      | (refine AWP.eq_agg e tab_ok rfl rfl rfl (.inr ⟨rfl, rfl⟩) ?_ 5 (by omega) rfl ?_ rfl rfl rfl rfl rfl rfl rfl ?_; (focus kernel_rfl); (focus kernel_rfl); refine AWP.runL e tab_ok L3 300 rfl (by first | trivial | (simp [in64] <;> omega)) ?_)
    )
  clear c1 c2 c3
  refine AWP.loop (ι := Nat × Nat) (fun x => ⟨[(67, .i x.1), (66, .i (ints O).length), (65, .d (.sl 1 (ints O))), (15, .i 0), (13, .ptr 7 0), (12, .i 0), (11, .own 5 1 0 (M ++ (O.take x.1).map fun k => (A : Int) + k).length x.2), (8, .d (.sl 1 (ints (M ++ O.map fun k => (A : Int) + k)))), (7, .ptr 1 0), (1, .i A)],
    [(7, .box (sC X)), (5, .row 3 false 1 ((ints (M ++ (O.take x.1).map fun k => (A : Int) + k)).map (·.map SV.d)) x.2), (1, .box (sC X))], 8⟩) (fun x => x.1 ≤ O.length) (fun x => O.length - x.1) (0, C) (Nat.zero_le _) ?_ ?_
  · intro g
    refine AWP.less e ?_ ?_ ?_ ?_ ?_ (g) <;> (repeat' (first | exact True.intro | (refine And.intro ?_ ?_) | rfl | assumption))
    · show some (SV.own 5 1 0 M.length C) = some (SV.own 5 1 0 (M ++ []).length C)
      rw [List.append_nil]
    · show some (Blk.row 3 false 1 ((ints M).map (·.map SV.d)) C) = some (Blk.row 3 false 1 ((ints (M ++ [])).map (·.map SV.d)) C)
      rw [List.append_nil]
    · exact ints_ok _ _
  rintro ⟨i, C1⟩ Φ hI next
  have hI : i ≤ O.length := hI
  refine AWP.runL e tab_ok L3 300 rfl (by first | trivial | (simp [in64] <;> omega)) ?_
  refine AWP.cond2 rfl (fun hlt => ?_) (fun hlt => ?_)
  · have hlt : i < O.length := by simpa using hlt
    refine AWP.runL e tab_ok L3 300 rfl (by first | trivial | (simp [in64] <;> omega)) ?_
    refine AWP.idx e tab_ok rfl rfl rfl rfl i rfl (el := [.v (.int .i64 O[i])]) (by simp [hlt]) ?_
    have hb := l4 O[i] (List.getElem_mem hlt)
    refine AWP.runL e tab_ok L3 300 rfl (by first | trivial | (simp [in64] <;> omega)) ?_
    have hm : ((O.take i).map fun k => (A : Int) + k).length ≤ O.length := by simp; omega
    refine AWP.append e tab_ok rfl rfl rfl rfl rfl rfl rfl rfl (.own rfl (by simp)) (by simp) (by simp [allCells, isCell]) (by simp; omega) (by simp; omega) fun C2 hC2 => ?_
    refine AWP.runL e tab_ok L3 300 rfl (by first | trivial | (simp [in64] <;> omega)) ?_
    have key : M ++ (O.take i).map (fun k => (A : Int) + k) ++ [(A : Int) + O[i]] = M ++ (O.take (i + 1)).map fun k => (A : Int) + k := by
      rw [List.take_succ_eq_append_getElem hlt, List.map_append, List.append_assoc]; rfl
    have nx := next (i + 1, C2) hlt (by show O.length - (i + 1) < O.length - i; omega)
    dsimp only at nx
    rw [← key] at nx
    refine AWP.lessR e [(5, 9)] ?_ ?_ ?_ ?_ ?_ ?_ nx
    all_goals (repeat' (first | exact True.intro | (refine And.intro ?_ ?_) | rfl | assumption))
    · show some (SV.own 9 1 0 ((M ++ (O.take i).map fun k => (A : Int) + k).length + 1) C2) = some (SV.own 9 1 0 (M ++ (O.take i).map (fun k => (A : Int) + k) ++ [(A : Int) + O[i]]).length C2)
      exact congrArg (fun z => some (SV.own 9 1 0 z C2)) (by simp [Nat.add_assoc])
    · show some (Blk.row 3 false 1 ((ints (M ++ (O.take i).map fun k => (A : Int) + k)).map (·.map SV.d) ++ [[SV.i ((A : Int) + O[i])]]) C2) = some (Blk.row 3 false 1 ((ints (M ++ (O.take i).map (fun k => (A : Int) + k) ++ [(A : Int) + O[i]])).map (·.map SV.d)) C2)
      rw [show ints (M ++ (O.take i).map (fun k => (A : Int) + k) ++ [(A : Int) + O[i]]) = ints (M ++ (O.take i).map fun k => (A : Int) + k) ++ ints [(A : Int) + O[i]] from List.map_append, List.map_append]; rfl
    · exact fun e he => ints_ok _ _ e he
  · obtain rfl : i = O.length := by have : ¬ i < O.length := by simpa using hlt
                                    omega
    refine AWP.runL e tab_ok L3 300 rfl (by first | trivial | (simp [in64] <;> omega)) ?_
    repeat (
      first
        | (refine AWP.askT rfl ?_; (first | (refine Told.t rfl ?_) | (refine Told.f rfl ?_) | (refine Told.t ?_ ?_; (focus assumption)) | (refine Told.f ?_ ?_; (focus assumption)) | (refine Told.t ?_ ?_; (focus (first | (simp; omega) | (simp [*]; done)); done)) | (refine Told.f ?_ ?_; (focus (first | (simp; omega) | (simp [*]; done)); done))); refine AWP.runL e tab_ok L3 300 rfl (by first | trivial | (simp [in64] <;> omega)) ?_)
        | (refine AWP.callQ e rfl rfl ?_; (first | refine CallQ.mk (alive_eff) rfl rfl ?_); refine AWP.runL e tab_ok L3 300 rfl (by first | trivial | (simp [in64] <;> omega)) ?_)
        | (refine AWP.eq_agg e tab_ok rfl rfl rfl (.inl ⟨rfl, rfl⟩) ?_ 5 (by omega) rfl ?_ rfl rfl rfl rfl rfl rfl rfl ?_; (focus kernel_rfl); (focus kernel_rfl); refine AWP.runL e tab_ok L3 300 rfl (by first | trivial | (simp [in64] <;> omega)) ?_)
        | (refine AWP.eq_agg e tab_ok rfl rfl rfl (.inr ⟨rfl, rfl⟩) ?_ 5 (by omega) rfl ?_ rfl rfl rfl rfl rfl rfl rfl ?_; (focus kernel_rfl); (focus kernel_rfl); refine AWP.runL e tab_ok L3 300 rfl (by first | trivial | (simp [in64] <;> omega)) ?_)
      )
    refine AWP.call e c4 rfl [5] (.cons (.refl _) (.cons (.ownAll (ints (M ++ O.map fun k => (A : Int) + k)) rfl (by simp only [List.take_length]) (by simp) (by simp)) .nil)) rfl rfl ?_
    rintro _ _ _ rfl
    refine ⟨rfl, .inr rfl, ?_⟩
    refine AWP.runL e tab_ok L3 300 rfl (by first | trivial | (simp [in64] <;> omega)) ?_
    refine AWP.ret e tab_ok rfl ?_
    rw [hP]
    all_goals first | rfl | (simp [strip]; done)

theorem cuts_args (l : List SV) (h : Args tab 9 [25, 3, 3] l) : Eff Try.prog 3 l [] 0 (fun r _ _ => r = .b true) := by
  obtain ⟨xs, _, rfl, hp, _, _, rfl, ⟨a, rfl, _, _⟩, _, _, rfl, ⟨b, rfl, _, _⟩, rfl⟩ := h
  obtain ⟨s, hs⟩ := se_of hp
  show Eff Try.prog 3 [.agg (xs.map SV.d), _, _] [] 0 _
  rw [hs]
  rcases cases_b (rightB s) with h | h
  · exact cuts_ok s a b h
  · exact cuts_bad s a b h
end Go.Proofs.Ytaiejjfikdpccaa
