import Derived.Test.YtkilkilejnaflaaF6
open Go Go.Proofs Go.Sy
namespace Go.Proofs.Ytkilkilejnaflaa

abbrev Act := Int × Int × Bool × Bool × List Int
abbrev actD (a : Act) : List DV := [.v (.int .i64 a.1), .v (.int .i64 a.2.1), .v (.bool a.2.2.1), .v (.bool a.2.2.2.1), .sl 1 (ints a.2.2.2.2)]




set_option maxRecDepth 100000 in
set_option maxHeartbeats 4000000 in
theorem whole_eff (s0 : List Int) (acts : List Act) (hs0 : s0.length ≤ 9223372036854775807) (hac : acts.length ≤ 9223372036854775807) : Eff Try.prog 4 [sl s0, .d (.sl 5 (acts.map actD))] [] 0 (fun r _ _ => r = .b true) := by
  refine eff_of Try.func4 rfl rfl rfl fun cx e hP => ?_
  obtain ⟨s1, hs1⟩ : ∃ s, s = s0.take 16 := ⟨_, rfl⟩
  have l1 : s1.length ≤ 16 := by rw [hs1]; simp; omega
  refine AWP.runL e tab_ok L4 300 rfl (by first | trivial | (simp [] <;> omega)) ?_
  refine AWP.less e (tm := [(25, .b (decide (s1.length = 0))), (0, sl s1), (1, .d (.sl 5 (acts.map actD))), (4, .b false)]) (hp := []) (nx := 0) ?_ ?_ ?_ ?_ ?_ ?_
  · refine ⟨?_, congrArg (fun z => some (SV.d (.sl 1 z))) ((take_ints 16 s0 (by omega)).trans (congrArg ints hs1.symm)), rfl, rfl, trivial⟩
    have e1 := (take_ints 16 s0 (by omega)).trans (congrArg ints hs1.symm)
    refine (congrArg (fun z : List (List DV) => some (SV.b ((z.length : Int) == 0))) e1).trans ?_
    rw [List.length_map]
    congr 2
    rw [Bool.eq_iff_iff, beq_iff_eq, decide_eq_true_iff]
    omega
  · exact trivial
  · rfl
  · exact trivial
  · rfl
  by_cases hz : s1.length = 0
  · refine AWP.cond rfl true (decide_eq_true hz) ?_
    refine AWP.runL e tab_ok L4 300 rfl (by first | trivial | (simp [in64] <;> omega)) ?_
    refine AWP.freezeF (id := 0) (ints [0]) rfl ?_ rfl rfl ?_ ?_ ?_
    (focus (rfl))
    (focus (first | (simp [lenFT, lenF]; done) ))
    (focus (first | (simp [lenFH]; done) ))
    obtain ⟨s, hs⟩ : ∃ s, s = [(0 : Int)] := ⟨_, rfl⟩
    refine AWP.less e (tm := [(28, sl s), (0, sl s), (1, .d (.sl 5 (acts.map actD))), (4, .b false)]) (hp := []) (nx := 1) ?_ ?_ ?_ ?_ ?_ ?_
    · rw [hs]; exact ⟨rfl, rfl, rfl, rfl, trivial⟩
    · exact trivial
    · rfl
    · exact trivial
    · rfl
    have hn1 : 1 ≤ s.length := by rw [hs]; simp
    have hn2 : s.length ≤ 16 := by rw [hs]; simp
    refine AWP.callQ e rfl rfl ?_
    refine CallQ.mk (new_ok s hn1 hn2) rfl rfl ?_
    refine AWP.runL e tab_ok L4 300 rfl (by first | trivial | (simp [in64] <;> omega)) ?_
    refine AWP.append e tab_ok rfl rfl rfl rfl rfl rfl rfl rfl (.sl (ints s)) rfl (ints_cells s) (by simp; omega) (by simp; omega) fun C2 hC2 => ?_
    refine AWP.runL e tab_ok L4 300 rfl (by first | trivial | (simp [in64] <;> omega)) ?_
    refine AWP.append e tab_ok rfl rfl rfl rfl rfl rfl rfl rfl (.sl (ints s)) rfl (ints_cells s) (by simp; omega) (by simp; omega) fun C3 hC3 => ?_
    refine AWP.runL e tab_ok L4 300 rfl (by first | trivial | (simp [in64] <;> omega)) ?_
    repeat (
      first
        | (refine AWP.askT rfl ?_; (first | (refine Told.t rfl ?_) | (refine Told.f rfl ?_) | (refine Told.t ?_ ?_; (focus (first | assumption | (simp; omega) | (simp [*]; done)); done)) | (refine Told.f ?_ ?_; (focus (first | assumption | (simp; omega) | (simp [*]; done)); done))); refine AWP.runL e tab_ok L4 300 rfl (by first | trivial | (simp [in64] <;> omega)) ?_)
        | (refine AWP.callQ e rfl rfl ?_; (first | refine CallQ.mk (alive_eff) rfl rfl ?_); refine AWP.runL e tab_ok L4 300 rfl (by first | trivial | (simp [in64] <;> omega)) ?_)
      )
    obtain ⟨n, hn⟩ : ∃ n, n = s.length := ⟨_, rfl⟩
    refine AWP.loop (ι := Nat × Nat × List Int × List Int × Nat × Nat) (fun q => ⟨[(48, .i q.1), (47, .i acts.length), (46, .d (.sl 5 (acts.map actD))), (9, .i n), (4, .b false), (5, .ptr 0 0), (7, .own 1 1 0 n q.2.2.2.2.1), (8, .own 2 1 0 n q.2.2.2.2.2)], [(0, .box (grp q.2.2.1 q.2.2.2.1 q.2.1)), (1, .row 2 false 1 ((ints q.2.2.2.1).map (·.map SV.d)) q.2.2.2.2.1), (2, .row 2 false 1 ((ints q.2.2.1).map (·.map SV.d)) q.2.2.2.2.2)], 3⟩)
      (fun q => q.1 ≤ acts.length ∧ q.2.1 ≤ q.1 ∧ q.2.2.1.length = n ∧ q.2.2.2.1.length = n) (fun q => acts.length - q.1) (0, 0, s, s, C2, C3) ⟨Nat.zero_le _, Nat.le_refl _, hn.symm, hn.symm⟩ ?_ ?_
    · intro g
      refine AWP.lessR e [(0, 1), (1, 3), (2, 5)] ?_ ?_ ?_ ?_ ?_ ?_ g
      · refine ⟨rfl, ?_, rfl, ?_, rfl, rfl, ?_, ?_, trivial⟩
        · show some (SV.i _) = some (SV.i _)
          rw [List.length_map]
        · show some (SV.i _) = some (SV.i _)
          rw [List.length_map, hn]
        · show some (SV.own 3 1 0 _ C2) = some (SV.own 3 1 0 n C2)
          simp [hn]
        · show some (SV.own 5 1 0 _ C3) = some (SV.own 5 1 0 n C3)
          simp [hn]
      · exact ⟨rfl, rfl, rfl, trivial⟩
      · rfl
      · exact ⟨rfl, rfl, rfl, ints_ok _ _, rfl, ints_ok _ _, trivial⟩
      · rfl
      · rfl
    rintro ⟨i, t, wr, gv, C1, C2'⟩ Φ hI next
    obtain ⟨hI, ht, hw, hg⟩ : i ≤ acts.length ∧ t ≤ i ∧ wr.length = n ∧ gv.length = n := hI
    refine AWP.runL e tab_ok L4 300 rfl (by first | trivial | (simp [in64] <;> omega)) ?_
    refine AWP.cond2 rfl (fun hlt => ?_) (fun hlt => ?_)
    · have hlt : i < acts.length := by simpa using hlt
      obtain ⟨at_, v, giv, bck, com, hact⟩ : ∃ a v g b c, acts[i] = (a, v, g, b, c) := ⟨_, _, _, _, _, rfl⟩
      refine AWP.runL e tab_ok L4 300 rfl (by first | trivial | (simp [in64] <;> omega)) ?_
      refine AWP.idx e tab_ok rfl rfl rfl rfl i rfl (el := actD acts[i]) (by simp [hlt]) ?_
      rw [hact]
      refine AWP.runL e tab_ok L4 300 rfl (by first | trivial | (simp [in64] <;> omega)) ?_
      refine AWP.cond2 rfl (fun h40 => ?_) (fun h40 => ?_)
      · refine AWP.runL e tab_ok L4 300 rfl (by first | trivial | (simp [in64] <;> omega)) ?_
        have hS := same_eff wr wr (by omega)
        rw [beq_self_eq_true] at hS
        refine AWP.call e hS rfl [2] (.cons (.refl _) (.cons (.ownAll (ints wr) rfl rfl (by simp) (by rw [ints_len]; exact hw.symm)) .nil)) rfl rfl ?_
        rintro _ _ _ rfl; refine ⟨rfl, .inr rfl, ?_⟩
        refine AWP.runL e tab_ok L4 300 rfl (by first | trivial | (simp [in64] <;> omega)) ?_
        refine AWP.ret e tab_ok rfl ?_
        rw [hP]
        all_goals first | rfl | (simp [strip]; done)
      have h40 : i < 40 := by
        have h40 : ¬ ((40 : Int) ≤ i) := by simpa using h40
        omega
      have hr : rightG wr gv t = true := by unfold rightG; refine decide_eq_true ?_; omega
      refine AWP.runL e tab_ok L4 300 rfl (by first | trivial | (simp [in64] <;> omega)) ?_
      refine AWP.cond2 rfl (fun hc => ?_) (fun hc => ?_)
      · have hc : com.length = n := by
          have hc : (((ints com).length : Int) == n) = true := hc
          rw [ints_len, beq_iff_eq] at hc
          omega
        have hT := take_ok wr gv com t hr (by omega) (by omega)
        have hR := right_eff com com (t + 1)
        rw [show rightG com com (t + 1) = true by unfold rightG; refine decide_eq_true ?_; omega] at hR
        refine AWP.runL e tab_ok L4 300 rfl (by first | trivial | (simp [in64] <;> omega)) ?_
        repeat (
          first
            | (refine AWP.askT rfl ?_; (first | (refine Told.t rfl ?_) | (refine Told.f rfl ?_) | (refine Told.t ?_ ?_; (focus (first | assumption | (simp; omega) | (simp [*]; done)); done)) | (refine Told.f ?_ ?_; (focus (first | assumption | (simp; omega) | (simp [*]; done)); done))); refine AWP.runL e tab_ok L4 300 rfl (by first | trivial | (simp [in64] <;> omega)) ?_)
            | (refine AWP.callQ e rfl rfl ?_; (first | refine CallQ.mk (hT) rfl rfl ?_); refine AWP.runL e tab_ok L4 300 rfl (by first | trivial | (simp [in64] <;> omega)) ?_)
          )
        refine AWP.keep L4 rfl ?_
        refine AWP.drc 100 ?_
        refine DrC.row 10 e tab_ok rfl rfl (fun c => rfl) rfl rfl rfl ?_
        repeat (
          first
            | (refine DrC.v rfl (fun c _ => VStep.ev e tab_ok rfl rfl ?_) (fun c => rfl) ?_; (focus (first | assumption | with_reducible trivial | rfl | (simp; omega) | (simp [in64]; omega) | (simp [*]; done))))
            | (refine DrC.load e tab_ok rfl (fun c => rfl) rfl (fun c => rfl) (fun c => rfl) (fun c => rfl) ?_)
            | (refine DrC.store e tab_ok rfl (fun c => rfl) (fun c => rfl) rfl (fun c => rfl) (fun c => rfl) (fun c => rfl) (fun c => rfl) (fun c => rfl) (fun c => rfl) rfl ?_)
          )
        refine DrC.append 11 e tab_ok rfl (fun c => rfl) (fun c => rfl) (fun c => rfl) rfl rfl rfl (fun _ => .sl (ints com)) rfl (ints_cells com) (by simp; omega) (by simp; omega) rfl rfl (ints_ok 0 com) rfl ?_
        refine DrC.row 12 e tab_ok rfl rfl (fun c => rfl) rfl rfl rfl ?_
        repeat (
          first
            | (refine DrC.v rfl (fun c _ => VStep.ev e tab_ok rfl rfl ?_) (fun c => rfl) ?_; (focus (first | assumption | with_reducible trivial | rfl | (simp; omega) | (simp [in64]; omega) | (simp [*]; done))))
            | (refine DrC.load e tab_ok rfl (fun c => rfl) rfl (fun c => rfl) (fun c => rfl) (fun c => rfl) ?_)
            | (refine DrC.store e tab_ok rfl (fun c => rfl) (fun c => rfl) rfl (fun c => rfl) (fun c => rfl) (fun c => rfl) (fun c => rfl) (fun c => rfl) (fun c => rfl) rfl ?_)
          )
        refine DrC.append 13 e tab_ok rfl (fun c => rfl) (fun c => rfl) (fun c => rfl) rfl rfl rfl (fun _ => .sl (ints com)) rfl (ints_cells com) (by simp; omega) (by simp; omega) rfl rfl (ints_ok 0 com) rfl ?_
        repeat (
          first
            | (refine DrC.v rfl (fun c _ => VStep.ev e tab_ok rfl rfl ?_) (fun c => rfl) ?_; (focus (first | assumption | with_reducible trivial | rfl | (simp; omega) | (simp [in64]; omega) | (simp [*]; done))))
            | (refine DrC.load e tab_ok rfl (fun c => rfl) rfl (fun c => rfl) (fun c => rfl) (fun c => rfl) ?_)
            | (refine DrC.store e tab_ok rfl (fun c => rfl) (fun c => rfl) rfl (fun c => rfl) (fun c => rfl) (fun c => rfl) (fun c => rfl) (fun c => rfl) (fun c => rfl) rfl ?_)
          )
        refine DrC.fin e rfl ?_ (fun c => rfl) rfl rfl ?_ ?_ (fun cp => ?_)
        (focus (intro c; kernel_rfl))
        (focus (repeat' (first | exact True.intro | (refine And.intro ?_ ?_) | rfl | assumption | exact okRow _)))
        (focus (repeat' (first | exact True.intro | (refine And.intro (fun c C => ?_) ?_)) <;> (repeat' (first | exact All2.nil | (refine All2.cons ⟨rfl, ?_⟩ ?_) | exact Or.inr rfl | (refine Or.inl ?_; kernel_rfl)))))
        dsimp only [tmS, hpS, tput, effH]
        refine AWP.runL e tab_ok L4 300 rfl (by first | trivial | (simp [in64] <;> omega)) ?_
        repeat (
          first
            | (refine AWP.askT rfl ?_; (first | (refine Told.t rfl ?_) | (refine Told.f rfl ?_) | (refine Told.t ?_ ?_; (focus (first | assumption | (simp; omega) | (simp [*]; done)); done)) | (refine Told.f ?_ ?_; (focus (first | assumption | (simp; omega) | (simp [*]; done)); done))); refine AWP.runL e tab_ok L4 300 rfl (by first | trivial | (simp [in64] <;> omega)) ?_)
            | (refine AWP.callQ e rfl rfl ?_; (first | refine CallQ.mk (hR) rfl rfl ?_); refine AWP.runL e tab_ok L4 300 rfl (by first | trivial | (simp [in64] <;> omega)) ?_)
          )
        have hr' : rightG com com ((t + 1 : Nat) : Int) = true := by unfold rightG; refine decide_eq_true ?_; omega
        refine AWP.loop (ι := Nat) (fun k => ⟨[(128, .i k), (127, .i n), (48, .i i), (47, .i acts.length), (46, .d (.sl 5 (acts.map actD))), (9, .i n), (4, .b false), (5, .ptr 0 0), (7, .own 11 1 0 n (cp 3)), (8, .own 13 1 0 n (cp 7))], [(0, .box (grp (com) (com) (t + 1 : Nat))), (11, .row 2 false 1 ((ints (com)).map (·.map SV.d)) (cp 3)), (13, .row 2 false 1 ((ints (com)).map (·.map SV.d)) (cp 7))], 100⟩) (fun k => k ≤ n) (fun k => n - k) 0 (Nat.zero_le _) ?_ ?_
        · intro g
          refine AWP.lessR e [] ?_ ?_ ?_ ?_ ?_ ?_ g
          · refine ⟨rfl, rfl, rfl, rfl, rfl, rfl, rfl, rfl, ?_, ?_, trivial⟩
            · first | rfl | exact congrArg (fun z => some (SV.own 11 1 0 z (cp 3))) (by simp [*])
            · first | rfl | exact congrArg (fun z => some (SV.own 13 1 0 z (cp 7))) (by simp [*])
          · refine ⟨rfl, ?_, ?_, trivial⟩
            · first | rfl | skip
            · first | rfl | skip
          · rfl
          · exact ⟨rfl, rfl, rfl, ints_ok _ _, rfl, ints_ok _ _, trivial⟩
          · rfl
          · rfl
        rintro k Ψ hK next'
        have hK : k ≤ n := hK
        refine AWP.runL e tab_ok L4 300 rfl (by first | trivial | (simp [in64] <;> omega)) ?_
        refine AWP.cond2 rfl (fun hkn => ?_) (fun hkn => ?_)
        · have hkn : k < n := by simpa using hkn
          have hk : k < (com).length := by omega
          have hv : ((ints (com)).map (·.map SV.d))[k]? = some [SV.i (com)[k]] := by simp [ints, hk]
          have hget := get_ok (com) (com) ((t + 1 : Nat) : Int) k hr' k rfl hk
          refine AWP.runL e tab_ok L4 300 rfl (by first | trivial | (simp [in64] <;> omega)) ?_
          repeat (
            first
              | (refine AWP.askT rfl ?_; (first | (refine Told.t rfl ?_) | (refine Told.f rfl ?_) | (refine Told.t ?_ ?_; (focus (first | assumption | (simp; omega) | (simp [*]; done)); done)) | (refine Told.f ?_ ?_; (focus (first | assumption | (simp; omega) | (simp [*]; done)); done))); refine AWP.runL e tab_ok L4 300 rfl (by first | trivial | (simp [in64] <;> omega)) ?_)
              | (refine AWP.callQ e rfl rfl ?_; (first | refine CallQ.mk (hget) rfl rfl ?_); refine AWP.runL e tab_ok L4 300 rfl (by first | trivial | (simp [in64] <;> omega)) ?_)
            )
          refine AWP.idx_own e tab_ok rfl rfl rfl rfl k rfl hkn ?_
          rw [Nat.zero_add]
          refine AWP.runL e tab_ok L4 300 rfl (by first | trivial | (simp [in64] <;> omega)) ?_
          refine AWP.load_el e tab_ok rfl rfl rfl rfl hv rfl ?_
          refine AWP.runL e tab_ok L4 300 rfl (by first | trivial | (simp [in64] <;> omega)) ?_
          repeat (
            first
              | (refine AWP.askT rfl ?_; (first | (refine Told.t rfl ?_) | (refine Told.f rfl ?_) | (refine Told.t ?_ ?_; (focus (first | assumption | (simp; omega) | (simp [*]; done)); done)) | (refine Told.f ?_ ?_; (focus (first | assumption | (simp; omega) | (simp [*]; done)); done))); refine AWP.runL e tab_ok L4 300 rfl (by first | trivial | (simp [in64] <;> omega)) ?_)
            )
          refine AWP.lessR e [] ?_ ?_ ?_ ?_ ?_ ?_ (next' (k + 1) hkn (by show n - (k + 1) < n - k; omega))
          · exact ⟨rfl, rfl, rfl, rfl, rfl, rfl, rfl, rfl, rfl, rfl, trivial⟩
          · exact ⟨rfl, rfl, rfl, trivial⟩
          · rfl
          · exact ⟨rfl, rfl, rfl, ints_ok _ _, rfl, ints_ok _ _, trivial⟩
          · rfl
          · rfl
        · refine AWP.runL e tab_ok L4 300 rfl (by first | trivial | (simp [in64] <;> omega)) ?_
          refine AWP.lessR e [(1, 11), (2, 13)] ?_ ?_ ?_ ?_ ?_ ?_ (next (i + 1, t + 1, com, com, cp 3, cp 7) ⟨hlt, (by show t + 1 ≤ i + 1; omega), (by show (com).length = n; omega), (by show (com).length = n; omega)⟩ (by show acts.length - (i + 1) < acts.length - i; omega))
          · exact ⟨rfl, rfl, rfl, rfl, rfl, rfl, rfl, rfl, trivial⟩
          · exact ⟨rfl, rfl, rfl, trivial⟩
          · rfl
          · exact ⟨rfl, rfl, rfl, ints_ok _ _, rfl, ints_ok _ _, trivial⟩
          · rfl
          · rfl
      refine AWP.runL e tab_ok L4 300 rfl (by first | trivial | (simp [in64] <;> omega)) ?_
      cases giv
      · refine AWP.runL e tab_ok L4 300 rfl (by first | trivial | (simp [in64] <;> omega)) ?_
        repeat (
          first
            | (refine AWP.askT rfl ?_; (first | (refine Told.t rfl ?_) | (refine Told.f rfl ?_) | (refine Told.t ?_ ?_; (focus (first | assumption | (simp; omega) | (simp [*]; done)); done)) | (refine Told.f ?_ ?_; (focus (first | assumption | (simp; omega) | (simp [*]; done)); done))); refine AWP.runL e tab_ok L4 300 rfl (by first | trivial | (simp [in64] <;> omega)) ?_)
          )
        cases bck
        · have b1 : at_.tmod n < n := Int.tmod_lt_of_pos _ (by omega)
          have b2 : -(n : Int) < at_.tmod n := Int.lt_tmod_of_pos _ (by omega)
          have b3 : 0 ≤ (at_.tmod n + n).tmod n := Int.tmod_nonneg _ (by omega)
          have b4 : (at_.tmod n + n).tmod n < n := Int.tmod_lt_of_pos _ (by omega)
          obtain ⟨m, hm⟩ : ∃ m : Nat, (at_.tmod n + n).tmod n = m := ⟨((at_.tmod n + n).tmod n).toNat, by omega⟩
          have hmn : m < wr.length := by omega
          have hS := set_ok wr gv t _ v hr m hm hmn
          have hR := right_eff (wr.set m v) gv t
          have hr' : rightG (wr.set m v) gv ((t : Nat) : Int) = true := by unfold rightG; refine decide_eq_true ?_; rw [List.length_set]; omega
          rw [hr'] at hR
          have hl : (wr.set m v).length = n := by rw [List.length_set]; omega
          refine AWP.runL e tab_ok L4 300 rfl (by first | trivial | (simp [in64] <;> omega)) ?_
          repeat (
            first
              | (refine AWP.askT rfl ?_; (first | (refine Told.t rfl ?_) | (refine Told.f rfl ?_) | (refine Told.t ?_ ?_; (focus (first | assumption | (simp; omega) | (simp [*]; done)); done)) | (refine Told.f ?_ ?_; (focus (first | assumption | (simp; omega) | (simp [*]; done)); done))); refine AWP.runL e tab_ok L4 300 rfl (by first | trivial | (simp [in64] <;> omega)) ?_)
              | (refine AWP.callQ e rfl rfl ?_; (first | refine CallQ.mk (hS) rfl rfl ?_); refine AWP.runL e tab_ok L4 300 rfl (by first | trivial | (simp [in64] <;> omega)) ?_)
            )
          refine AWP.idx_own e tab_ok rfl rfl rfl rfl m hm (by omega) ?_
          rw [Nat.zero_add]
          refine AWP.store_el e tab_ok rfl rfl rfl rfl rfl (el := [.i wr[m]]) (by simp [hmn]) rfl rfl rfl rfl ?_
          refine AWP.runL e tab_ok L4 300 rfl (by first | trivial | (simp [in64] <;> omega)) ?_
          repeat (
            first
              | (refine AWP.askT rfl ?_; (first | (refine Told.t rfl ?_) | (refine Told.f rfl ?_) | (refine Told.t ?_ ?_; (focus (first | assumption | (simp; omega) | (simp [*]; done)); done)) | (refine Told.f ?_ ?_; (focus (first | assumption | (simp; omega) | (simp [*]; done)); done))); refine AWP.runL e tab_ok L4 300 rfl (by first | trivial | (simp [in64] <;> omega)) ?_)
              | (refine AWP.callQ e rfl rfl ?_; (first | refine CallQ.mk (hR) rfl rfl ?_); refine AWP.runL e tab_ok L4 300 rfl (by first | trivial | (simp [in64] <;> omega)) ?_)
            )
          refine AWP.loop (ι := Nat) (fun k => ⟨[(128, .i k), (127, .i n), (48, .i i), (47, .i acts.length), (46, .d (.sl 5 (acts.map actD))), (9, .i n), (4, .b false), (5, .ptr 0 0), (7, .own 1 1 0 n (C1)), (8, .own 2 1 0 n (C2'))], [(0, .box (grp (wr.set m v) (gv) (t : Nat))), (1, .row 2 false 1 ((ints (gv)).map (·.map SV.d)) (C1)), (2, .row 2 false 1 ((ints (wr.set m v)).map (·.map SV.d)) (C2'))], 100⟩) (fun k => k ≤ n) (fun k => n - k) 0 (Nat.zero_le _) ?_ ?_
          · intro g
            refine AWP.lessR e [] ?_ ?_ ?_ ?_ ?_ ?_ g
            · refine ⟨rfl, rfl, rfl, rfl, rfl, rfl, rfl, rfl, ?_, ?_, trivial⟩
              · first | rfl | exact congrArg (fun z => some (SV.own 1 1 0 z (C1))) (by simp [*])
              · first | rfl | exact congrArg (fun z => some (SV.own 2 1 0 z (C2'))) (by simp [*])
            · refine ⟨rfl, ?_, ?_, trivial⟩
              · first | rfl | skip
              · first | rfl | exact congrArg (fun z => some (Blk.row 2 false 1 z C2')) (ints_set wr m v)
            · rfl
            · exact ⟨rfl, rfl, rfl, ints_ok _ _, rfl, ints_ok _ _, trivial⟩
            · rfl
            · rfl
          rintro k Ψ hK next'
          have hK : k ≤ n := hK
          refine AWP.runL e tab_ok L4 300 rfl (by first | trivial | (simp [in64] <;> omega)) ?_
          refine AWP.cond2 rfl (fun hkn => ?_) (fun hkn => ?_)
          · have hkn : k < n := by simpa using hkn
            have hk : k < (gv).length := by omega
            have hv : ((ints (gv)).map (·.map SV.d))[k]? = some [SV.i (gv)[k]] := by simp [ints, hk]
            have hget := get_ok (wr.set m v) (gv) ((t : Nat) : Int) k hr' k rfl hk
            refine AWP.runL e tab_ok L4 300 rfl (by first | trivial | (simp [in64] <;> omega)) ?_
            repeat (
              first
                | (refine AWP.askT rfl ?_; (first | (refine Told.t rfl ?_) | (refine Told.f rfl ?_) | (refine Told.t ?_ ?_; (focus (first | assumption | (simp; omega) | (simp [*]; done)); done)) | (refine Told.f ?_ ?_; (focus (first | assumption | (simp; omega) | (simp [*]; done)); done))); refine AWP.runL e tab_ok L4 300 rfl (by first | trivial | (simp [in64] <;> omega)) ?_)
                | (refine AWP.callQ e rfl rfl ?_; (first | refine CallQ.mk (hget) rfl rfl ?_); refine AWP.runL e tab_ok L4 300 rfl (by first | trivial | (simp [in64] <;> omega)) ?_)
              )
            refine AWP.idx_own e tab_ok rfl rfl rfl rfl k rfl hkn ?_
            rw [Nat.zero_add]
            refine AWP.runL e tab_ok L4 300 rfl (by first | trivial | (simp [in64] <;> omega)) ?_
            refine AWP.load_el e tab_ok rfl rfl rfl rfl hv rfl ?_
            refine AWP.runL e tab_ok L4 300 rfl (by first | trivial | (simp [in64] <;> omega)) ?_
            repeat (
              first
                | (refine AWP.askT rfl ?_; (first | (refine Told.t rfl ?_) | (refine Told.f rfl ?_) | (refine Told.t ?_ ?_; (focus (first | assumption | (simp; omega) | (simp [*]; done)); done)) | (refine Told.f ?_ ?_; (focus (first | assumption | (simp; omega) | (simp [*]; done)); done))); refine AWP.runL e tab_ok L4 300 rfl (by first | trivial | (simp [in64] <;> omega)) ?_)
              )
            refine AWP.lessR e [] ?_ ?_ ?_ ?_ ?_ ?_ (next' (k + 1) hkn (by show n - (k + 1) < n - k; omega))
            · exact ⟨rfl, rfl, rfl, rfl, rfl, rfl, rfl, rfl, rfl, rfl, trivial⟩
            · exact ⟨rfl, rfl, rfl, trivial⟩
            · rfl
            · exact ⟨rfl, rfl, rfl, ints_ok _ _, rfl, ints_ok _ _, trivial⟩
            · rfl
            · rfl
          · refine AWP.runL e tab_ok L4 300 rfl (by first | trivial | (simp [in64] <;> omega)) ?_
            refine AWP.lessR e [(1, 1), (2, 2)] ?_ ?_ ?_ ?_ ?_ ?_ (next (i + 1, t, wr.set m v, gv, C1, C2') ⟨hlt, (by show t ≤ i + 1; omega), (by show (wr.set m v).length = n; omega), (by show (gv).length = n; omega)⟩ (by show acts.length - (i + 1) < acts.length - i; omega))
            · exact ⟨rfl, rfl, rfl, rfl, rfl, rfl, rfl, rfl, trivial⟩
            · exact ⟨rfl, rfl, rfl, trivial⟩
            · rfl
            · exact ⟨rfl, rfl, rfl, ints_ok _ _, rfl, ints_ok _ _, trivial⟩
            · rfl
            · rfl
        · have hB := back_ok wr gv t hr
          have hR := right_eff gv gv t
          rw [show rightG gv gv t = true by unfold rightG; refine decide_eq_true ?_; omega] at hR
          refine AWP.runL e tab_ok L4 300 rfl (by first | trivial | (simp [in64] <;> omega)) ?_
          repeat (
            first
              | (refine AWP.askT rfl ?_; (first | (refine Told.t rfl ?_) | (refine Told.f rfl ?_) | (refine Told.t ?_ ?_; (focus (first | assumption | (simp; omega) | (simp [*]; done)); done)) | (refine Told.f ?_ ?_; (focus (first | assumption | (simp; omega) | (simp [*]; done)); done))); refine AWP.runL e tab_ok L4 300 rfl (by first | trivial | (simp [in64] <;> omega)) ?_)
              | (refine AWP.callQ e rfl rfl ?_; (first | refine CallQ.mk (hB) rfl rfl ?_); refine AWP.runL e tab_ok L4 300 rfl (by first | trivial | (simp [in64] <;> omega)) ?_)
            )
          refine AWP.append e tab_ok rfl rfl rfl rfl rfl rfl rfl rfl (.own rfl (by simp [*])) (by rfl) (ints_cells _) (by simp; omega) (by simp; omega) fun C3 hC3 => ?_
          refine AWP.runL e tab_ok L4 300 rfl (by first | trivial | (simp [in64] <;> omega)) ?_
          repeat (
            first
              | (refine AWP.askT rfl ?_; (first | (refine Told.t rfl ?_) | (refine Told.f rfl ?_) | (refine Told.t ?_ ?_; (focus (first | assumption | (simp; omega) | (simp [*]; done)); done)) | (refine Told.f ?_ ?_; (focus (first | assumption | (simp; omega) | (simp [*]; done)); done))); refine AWP.runL e tab_ok L4 300 rfl (by first | trivial | (simp [in64] <;> omega)) ?_)
              | (refine AWP.callQ e rfl rfl ?_; (first | refine CallQ.mk (hR) rfl rfl ?_); refine AWP.runL e tab_ok L4 300 rfl (by first | trivial | (simp [in64] <;> omega)) ?_)
            )
          have hr' : rightG gv gv ((t : Nat) : Int) = true := by unfold rightG; refine decide_eq_true ?_; omega
          refine AWP.loop (ι := Nat) (fun k => ⟨[(128, .i k), (127, .i n), (48, .i i), (47, .i acts.length), (46, .d (.sl 5 (acts.map actD))), (9, .i n), (4, .b false), (5, .ptr 0 0), (7, .own 1 1 0 n (C1)), (8, .own 6 1 0 n (C3))], [(0, .box (grp (gv) (gv) (t : Nat))), (1, .row 2 false 1 ((ints (gv)).map (·.map SV.d)) (C1)), (6, .row 2 false 1 ((ints (gv)).map (·.map SV.d)) (C3))], 100⟩) (fun k => k ≤ n) (fun k => n - k) 0 (Nat.zero_le _) ?_ ?_
          · intro g
            refine AWP.lessR e [] ?_ ?_ ?_ ?_ ?_ ?_ g
            · refine ⟨rfl, rfl, rfl, rfl, rfl, rfl, rfl, rfl, ?_, ?_, trivial⟩
              · first | rfl | exact congrArg (fun z => some (SV.own 1 1 0 z (C1))) (by simp [*])
              · first | rfl | exact congrArg (fun z => some (SV.own 6 1 0 z (C3))) (by simp [*])
            · refine ⟨rfl, ?_, ?_, trivial⟩
              · first | rfl | skip
              · first | rfl | skip
            · rfl
            · exact ⟨rfl, rfl, rfl, ints_ok _ _, rfl, ints_ok _ _, trivial⟩
            · rfl
            · rfl
          rintro k Ψ hK next'
          have hK : k ≤ n := hK
          refine AWP.runL e tab_ok L4 300 rfl (by first | trivial | (simp [in64] <;> omega)) ?_
          refine AWP.cond2 rfl (fun hkn => ?_) (fun hkn => ?_)
          · have hkn : k < n := by simpa using hkn
            have hk : k < (gv).length := by omega
            have hv : ((ints (gv)).map (·.map SV.d))[k]? = some [SV.i (gv)[k]] := by simp [ints, hk]
            have hget := get_ok (gv) (gv) ((t : Nat) : Int) k hr' k rfl hk
            refine AWP.runL e tab_ok L4 300 rfl (by first | trivial | (simp [in64] <;> omega)) ?_
            repeat (
              first
                | (refine AWP.askT rfl ?_; (first | (refine Told.t rfl ?_) | (refine Told.f rfl ?_) | (refine Told.t ?_ ?_; (focus (first | assumption | (simp; omega) | (simp [*]; done)); done)) | (refine Told.f ?_ ?_; (focus (first | assumption | (simp; omega) | (simp [*]; done)); done))); refine AWP.runL e tab_ok L4 300 rfl (by first | trivial | (simp [in64] <;> omega)) ?_)
                | (refine AWP.callQ e rfl rfl ?_; (first | refine CallQ.mk (hget) rfl rfl ?_); refine AWP.runL e tab_ok L4 300 rfl (by first | trivial | (simp [in64] <;> omega)) ?_)
              )
            refine AWP.idx_own e tab_ok rfl rfl rfl rfl k rfl hkn ?_
            rw [Nat.zero_add]
            refine AWP.runL e tab_ok L4 300 rfl (by first | trivial | (simp [in64] <;> omega)) ?_
            refine AWP.load_el e tab_ok rfl rfl rfl rfl hv rfl ?_
            refine AWP.runL e tab_ok L4 300 rfl (by first | trivial | (simp [in64] <;> omega)) ?_
            repeat (
              first
                | (refine AWP.askT rfl ?_; (first | (refine Told.t rfl ?_) | (refine Told.f rfl ?_) | (refine Told.t ?_ ?_; (focus (first | assumption | (simp; omega) | (simp [*]; done)); done)) | (refine Told.f ?_ ?_; (focus (first | assumption | (simp; omega) | (simp [*]; done)); done))); refine AWP.runL e tab_ok L4 300 rfl (by first | trivial | (simp [in64] <;> omega)) ?_)
              )
            refine AWP.lessR e [] ?_ ?_ ?_ ?_ ?_ ?_ (next' (k + 1) hkn (by show n - (k + 1) < n - k; omega))
            · exact ⟨rfl, rfl, rfl, rfl, rfl, rfl, rfl, rfl, rfl, rfl, trivial⟩
            · exact ⟨rfl, rfl, rfl, trivial⟩
            · rfl
            · exact ⟨rfl, rfl, rfl, ints_ok _ _, rfl, ints_ok _ _, trivial⟩
            · rfl
            · rfl
          · refine AWP.runL e tab_ok L4 300 rfl (by first | trivial | (simp [in64] <;> omega)) ?_
            refine AWP.lessR e [(1, 1), (2, 6)] ?_ ?_ ?_ ?_ ?_ ?_ (next (i + 1, t, gv, gv, C1, C3) ⟨hlt, (by show t ≤ i + 1; omega), (by show (gv).length = n; omega), (by show (gv).length = n; omega)⟩ (by show acts.length - (i + 1) < acts.length - i; omega))
            · exact ⟨rfl, rfl, rfl, rfl, rfl, rfl, rfl, rfl, trivial⟩
            · exact ⟨rfl, rfl, rfl, trivial⟩
            · rfl
            · exact ⟨rfl, rfl, rfl, ints_ok _ _, rfl, ints_ok _ _, trivial⟩
            · rfl
            · rfl
      · have hG := give_ok wr gv t hr (by omega)
        have hR := right_eff wr wr (t + 1)
        rw [show rightG wr wr (t + 1) = true by unfold rightG; refine decide_eq_true ?_; omega] at hR
        refine AWP.runL e tab_ok L4 300 rfl (by first | trivial | (simp [in64] <;> omega)) ?_
        repeat (
          first
            | (refine AWP.askT rfl ?_; (first | (refine Told.t rfl ?_) | (refine Told.f rfl ?_) | (refine Told.t ?_ ?_; (focus (first | assumption | (simp; omega) | (simp [*]; done)); done)) | (refine Told.f ?_ ?_; (focus (first | assumption | (simp; omega) | (simp [*]; done)); done))); refine AWP.runL e tab_ok L4 300 rfl (by first | trivial | (simp [in64] <;> omega)) ?_)
            | (refine AWP.callQ e rfl rfl ?_; (first | refine CallQ.mk (hG) rfl rfl ?_); refine AWP.runL e tab_ok L4 300 rfl (by first | trivial | (simp [in64] <;> omega)) ?_)
          )
        refine AWP.append e tab_ok rfl rfl rfl rfl rfl rfl rfl rfl (.own rfl (by simp [*])) (by rfl) (ints_cells _) (by simp; omega) (by simp; omega) fun C3 hC3 => ?_
        refine AWP.runL e tab_ok L4 300 rfl (by first | trivial | (simp [in64] <;> omega)) ?_
        repeat (
          first
            | (refine AWP.askT rfl ?_; (first | (refine Told.t rfl ?_) | (refine Told.f rfl ?_) | (refine Told.t ?_ ?_; (focus (first | assumption | (simp; omega) | (simp [*]; done)); done)) | (refine Told.f ?_ ?_; (focus (first | assumption | (simp; omega) | (simp [*]; done)); done))); refine AWP.runL e tab_ok L4 300 rfl (by first | trivial | (simp [in64] <;> omega)) ?_)
            | (refine AWP.callQ e rfl rfl ?_; (first | refine CallQ.mk (hR) rfl rfl ?_); refine AWP.runL e tab_ok L4 300 rfl (by first | trivial | (simp [in64] <;> omega)) ?_)
          )
        have hr' : rightG wr wr ((t + 1 : Nat) : Int) = true := by unfold rightG; refine decide_eq_true ?_; omega
        refine AWP.loop (ι := Nat) (fun k => ⟨[(128, .i k), (127, .i n), (48, .i i), (47, .i acts.length), (46, .d (.sl 5 (acts.map actD))), (9, .i n), (4, .b false), (5, .ptr 0 0), (7, .own 6 1 0 n (C3)), (8, .own 2 1 0 n (C2'))], [(0, .box (grp (wr) (wr) (t + 1 : Nat))), (6, .row 2 false 1 ((ints (wr)).map (·.map SV.d)) (C3)), (2, .row 2 false 1 ((ints (wr)).map (·.map SV.d)) (C2'))], 100⟩) (fun k => k ≤ n) (fun k => n - k) 0 (Nat.zero_le _) ?_ ?_
        · intro g
          refine AWP.lessR e [] ?_ ?_ ?_ ?_ ?_ ?_ g
          · refine ⟨rfl, rfl, rfl, rfl, rfl, rfl, rfl, rfl, ?_, ?_, trivial⟩
            · first | rfl | exact congrArg (fun z => some (SV.own 6 1 0 z (C3))) (by simp [*])
            · first | rfl | exact congrArg (fun z => some (SV.own 2 1 0 z (C2'))) (by simp [*])
          · refine ⟨rfl, ?_, ?_, trivial⟩
            · first | rfl | skip
            · first | rfl | skip
          · rfl
          · exact ⟨rfl, rfl, rfl, ints_ok _ _, rfl, ints_ok _ _, trivial⟩
          · rfl
          · rfl
        rintro k Ψ hK next'
        have hK : k ≤ n := hK
        refine AWP.runL e tab_ok L4 300 rfl (by first | trivial | (simp [in64] <;> omega)) ?_
        refine AWP.cond2 rfl (fun hkn => ?_) (fun hkn => ?_)
        · have hkn : k < n := by simpa using hkn
          have hk : k < (wr).length := by omega
          have hv : ((ints (wr)).map (·.map SV.d))[k]? = some [SV.i (wr)[k]] := by simp [ints, hk]
          have hget := get_ok (wr) (wr) ((t + 1 : Nat) : Int) k hr' k rfl hk
          refine AWP.runL e tab_ok L4 300 rfl (by first | trivial | (simp [in64] <;> omega)) ?_
          repeat (
            first
              | (refine AWP.askT rfl ?_; (first | (refine Told.t rfl ?_) | (refine Told.f rfl ?_) | (refine Told.t ?_ ?_; (focus (first | assumption | (simp; omega) | (simp [*]; done)); done)) | (refine Told.f ?_ ?_; (focus (first | assumption | (simp; omega) | (simp [*]; done)); done))); refine AWP.runL e tab_ok L4 300 rfl (by first | trivial | (simp [in64] <;> omega)) ?_)
              | (refine AWP.callQ e rfl rfl ?_; (first | refine CallQ.mk (hget) rfl rfl ?_); refine AWP.runL e tab_ok L4 300 rfl (by first | trivial | (simp [in64] <;> omega)) ?_)
            )
          refine AWP.idx_own e tab_ok rfl rfl rfl rfl k rfl hkn ?_
          rw [Nat.zero_add]
          refine AWP.runL e tab_ok L4 300 rfl (by first | trivial | (simp [in64] <;> omega)) ?_
          refine AWP.load_el e tab_ok rfl rfl rfl rfl hv rfl ?_
          refine AWP.runL e tab_ok L4 300 rfl (by first | trivial | (simp [in64] <;> omega)) ?_
          repeat (
            first
              | (refine AWP.askT rfl ?_; (first | (refine Told.t rfl ?_) | (refine Told.f rfl ?_) | (refine Told.t ?_ ?_; (focus (first | assumption | (simp; omega) | (simp [*]; done)); done)) | (refine Told.f ?_ ?_; (focus (first | assumption | (simp; omega) | (simp [*]; done)); done))); refine AWP.runL e tab_ok L4 300 rfl (by first | trivial | (simp [in64] <;> omega)) ?_)
            )
          refine AWP.lessR e [] ?_ ?_ ?_ ?_ ?_ ?_ (next' (k + 1) hkn (by show n - (k + 1) < n - k; omega))
          · exact ⟨rfl, rfl, rfl, rfl, rfl, rfl, rfl, rfl, rfl, rfl, trivial⟩
          · exact ⟨rfl, rfl, rfl, trivial⟩
          · rfl
          · exact ⟨rfl, rfl, rfl, ints_ok _ _, rfl, ints_ok _ _, trivial⟩
          · rfl
          · rfl
        · refine AWP.runL e tab_ok L4 300 rfl (by first | trivial | (simp [in64] <;> omega)) ?_
          refine AWP.lessR e [(1, 6), (2, 2)] ?_ ?_ ?_ ?_ ?_ ?_ (next (i + 1, t + 1, wr, wr, C3, C2') ⟨hlt, (by show t + 1 ≤ i + 1; omega), (by show (wr).length = n; omega), (by show (wr).length = n; omega)⟩ (by show acts.length - (i + 1) < acts.length - i; omega))
          · exact ⟨rfl, rfl, rfl, rfl, rfl, rfl, rfl, rfl, trivial⟩
          · exact ⟨rfl, rfl, rfl, trivial⟩
          · rfl
          · exact ⟨rfl, rfl, rfl, ints_ok _ _, rfl, ints_ok _ _, trivial⟩
          · rfl
          · rfl
    · refine AWP.runL e tab_ok L4 300 rfl (by first | trivial | (simp [in64] <;> omega)) ?_
      have hS := same_eff wr wr (by omega)
      rw [beq_self_eq_true] at hS
      refine AWP.call e hS rfl [2] (.cons (.refl _) (.cons (.ownAll (ints wr) rfl rfl (by simp) (by rw [ints_len]; exact hw.symm)) .nil)) rfl rfl ?_
      rintro _ _ _ rfl; refine ⟨rfl, .inr rfl, ?_⟩
      refine AWP.runL e tab_ok L4 300 rfl (by first | trivial | (simp [in64] <;> omega)) ?_
      refine AWP.ret e tab_ok rfl ?_
      rw [hP]
      all_goals first | rfl | (simp [strip]; done)
  · refine AWP.cond rfl false (decide_eq_false hz) ?_
    refine AWP.runL e tab_ok L4 300 rfl (by first | trivial | (simp [in64] <;> omega)) ?_
    obtain ⟨s, hs⟩ : ∃ s, s = s1 := ⟨_, rfl⟩
    refine AWP.less e (tm := [(28, sl s), (0, sl s), (1, .d (.sl 5 (acts.map actD))), (4, .b false)]) (hp := []) (nx := 1) ?_ ?_ ?_ ?_ ?_ ?_
    · rw [hs]; exact ⟨rfl, rfl, rfl, rfl, trivial⟩
    · exact trivial
    · rfl
    · exact trivial
    · rfl
    have hn1 : 1 ≤ s.length := by rw [hs]; omega
    have hn2 : s.length ≤ 16 := by rw [hs]; omega
    refine AWP.callQ e rfl rfl ?_
    refine CallQ.mk (new_ok s hn1 hn2) rfl rfl ?_
    refine AWP.runL e tab_ok L4 300 rfl (by first | trivial | (simp [in64] <;> omega)) ?_
    refine AWP.append e tab_ok rfl rfl rfl rfl rfl rfl rfl rfl (.sl (ints s)) rfl (ints_cells s) (by simp; omega) (by simp; omega) fun C2 hC2 => ?_
    refine AWP.runL e tab_ok L4 300 rfl (by first | trivial | (simp [in64] <;> omega)) ?_
    refine AWP.append e tab_ok rfl rfl rfl rfl rfl rfl rfl rfl (.sl (ints s)) rfl (ints_cells s) (by simp; omega) (by simp; omega) fun C3 hC3 => ?_
    refine AWP.runL e tab_ok L4 300 rfl (by first | trivial | (simp [in64] <;> omega)) ?_
    repeat (
      first
        | (refine AWP.askT rfl ?_; (first | (refine Told.t rfl ?_) | (refine Told.f rfl ?_) | (refine Told.t ?_ ?_; (focus (first | assumption | (simp; omega) | (simp [*]; done)); done)) | (refine Told.f ?_ ?_; (focus (first | assumption | (simp; omega) | (simp [*]; done)); done))); refine AWP.runL e tab_ok L4 300 rfl (by first | trivial | (simp [in64] <;> omega)) ?_)
        | (refine AWP.callQ e rfl rfl ?_; (first | refine CallQ.mk (alive_eff) rfl rfl ?_); refine AWP.runL e tab_ok L4 300 rfl (by first | trivial | (simp [in64] <;> omega)) ?_)
      )
    obtain ⟨n, hn⟩ : ∃ n, n = s.length := ⟨_, rfl⟩
    refine AWP.loop (ι := Nat × Nat × List Int × List Int × Nat × Nat) (fun q => ⟨[(48, .i q.1), (47, .i acts.length), (46, .d (.sl 5 (acts.map actD))), (9, .i n), (4, .b false), (5, .ptr 0 0), (7, .own 1 1 0 n q.2.2.2.2.1), (8, .own 2 1 0 n q.2.2.2.2.2)], [(0, .box (grp q.2.2.1 q.2.2.2.1 q.2.1)), (1, .row 2 false 1 ((ints q.2.2.2.1).map (·.map SV.d)) q.2.2.2.2.1), (2, .row 2 false 1 ((ints q.2.2.1).map (·.map SV.d)) q.2.2.2.2.2)], 3⟩)
      (fun q => q.1 ≤ acts.length ∧ q.2.1 ≤ q.1 ∧ q.2.2.1.length = n ∧ q.2.2.2.1.length = n) (fun q => acts.length - q.1) (0, 0, s, s, C2, C3) ⟨Nat.zero_le _, Nat.le_refl _, hn.symm, hn.symm⟩ ?_ ?_
    · intro g
      refine AWP.lessR e [(0, 1), (1, 3), (2, 5)] ?_ ?_ ?_ ?_ ?_ ?_ g
      · refine ⟨rfl, ?_, rfl, ?_, rfl, rfl, ?_, ?_, trivial⟩
        · show some (SV.i _) = some (SV.i _)
          rw [List.length_map]
        · show some (SV.i _) = some (SV.i _)
          rw [List.length_map, hn]
        · show some (SV.own 3 1 0 _ C2) = some (SV.own 3 1 0 n C2)
          simp [hn]
        · show some (SV.own 5 1 0 _ C3) = some (SV.own 5 1 0 n C3)
          simp [hn]
      · exact ⟨rfl, rfl, rfl, trivial⟩
      · rfl
      · exact ⟨rfl, rfl, rfl, ints_ok _ _, rfl, ints_ok _ _, trivial⟩
      · rfl
      · rfl
    rintro ⟨i, t, wr, gv, C1, C2'⟩ Φ hI next
    obtain ⟨hI, ht, hw, hg⟩ : i ≤ acts.length ∧ t ≤ i ∧ wr.length = n ∧ gv.length = n := hI
    refine AWP.runL e tab_ok L4 300 rfl (by first | trivial | (simp [in64] <;> omega)) ?_
    refine AWP.cond2 rfl (fun hlt => ?_) (fun hlt => ?_)
    · have hlt : i < acts.length := by simpa using hlt
      obtain ⟨at_, v, giv, bck, com, hact⟩ : ∃ a v g b c, acts[i] = (a, v, g, b, c) := ⟨_, _, _, _, _, rfl⟩
      refine AWP.runL e tab_ok L4 300 rfl (by first | trivial | (simp [in64] <;> omega)) ?_
      refine AWP.idx e tab_ok rfl rfl rfl rfl i rfl (el := actD acts[i]) (by simp [hlt]) ?_
      rw [hact]
      refine AWP.runL e tab_ok L4 300 rfl (by first | trivial | (simp [in64] <;> omega)) ?_
      refine AWP.cond2 rfl (fun h40 => ?_) (fun h40 => ?_)
      · refine AWP.runL e tab_ok L4 300 rfl (by first | trivial | (simp [in64] <;> omega)) ?_
        have hS := same_eff wr wr (by omega)
        rw [beq_self_eq_true] at hS
        refine AWP.call e hS rfl [2] (.cons (.refl _) (.cons (.ownAll (ints wr) rfl rfl (by simp) (by rw [ints_len]; exact hw.symm)) .nil)) rfl rfl ?_
        rintro _ _ _ rfl; refine ⟨rfl, .inr rfl, ?_⟩
        refine AWP.runL e tab_ok L4 300 rfl (by first | trivial | (simp [in64] <;> omega)) ?_
        refine AWP.ret e tab_ok rfl ?_
        rw [hP]
        all_goals first | rfl | (simp [strip]; done)
      have h40 : i < 40 := by
        have h40 : ¬ ((40 : Int) ≤ i) := by simpa using h40
        omega
      have hr : rightG wr gv t = true := by unfold rightG; refine decide_eq_true ?_; omega
      refine AWP.runL e tab_ok L4 300 rfl (by first | trivial | (simp [in64] <;> omega)) ?_
      refine AWP.cond2 rfl (fun hc => ?_) (fun hc => ?_)
      · have hc : com.length = n := by
          have hc : (((ints com).length : Int) == n) = true := hc
          rw [ints_len, beq_iff_eq] at hc
          omega
        have hT := take_ok wr gv com t hr (by omega) (by omega)
        have hR := right_eff com com (t + 1)
        rw [show rightG com com (t + 1) = true by unfold rightG; refine decide_eq_true ?_; omega] at hR
        refine AWP.runL e tab_ok L4 300 rfl (by first | trivial | (simp [in64] <;> omega)) ?_
        repeat (
          first
            | (refine AWP.askT rfl ?_; (first | (refine Told.t rfl ?_) | (refine Told.f rfl ?_) | (refine Told.t ?_ ?_; (focus (first | assumption | (simp; omega) | (simp [*]; done)); done)) | (refine Told.f ?_ ?_; (focus (first | assumption | (simp; omega) | (simp [*]; done)); done))); refine AWP.runL e tab_ok L4 300 rfl (by first | trivial | (simp [in64] <;> omega)) ?_)
            | (refine AWP.callQ e rfl rfl ?_; (first | refine CallQ.mk (hT) rfl rfl ?_); refine AWP.runL e tab_ok L4 300 rfl (by first | trivial | (simp [in64] <;> omega)) ?_)
          )
        refine AWP.keep L4 rfl ?_
        refine AWP.drc 100 ?_
        refine DrC.row 10 e tab_ok rfl rfl (fun c => rfl) rfl rfl rfl ?_
        repeat (
          first
            | (refine DrC.v rfl (fun c _ => VStep.ev e tab_ok rfl rfl ?_) (fun c => rfl) ?_; (focus (first | assumption | with_reducible trivial | rfl | (simp; omega) | (simp [in64]; omega) | (simp [*]; done))))
            | (refine DrC.load e tab_ok rfl (fun c => rfl) rfl (fun c => rfl) (fun c => rfl) (fun c => rfl) ?_)
            | (refine DrC.store e tab_ok rfl (fun c => rfl) (fun c => rfl) rfl (fun c => rfl) (fun c => rfl) (fun c => rfl) (fun c => rfl) (fun c => rfl) (fun c => rfl) rfl ?_)
          )
        refine DrC.append 11 e tab_ok rfl (fun c => rfl) (fun c => rfl) (fun c => rfl) rfl rfl rfl (fun _ => .sl (ints com)) rfl (ints_cells com) (by simp; omega) (by simp; omega) rfl rfl (ints_ok 0 com) rfl ?_
        refine DrC.row 12 e tab_ok rfl rfl (fun c => rfl) rfl rfl rfl ?_
        repeat (
          first
            | (refine DrC.v rfl (fun c _ => VStep.ev e tab_ok rfl rfl ?_) (fun c => rfl) ?_; (focus (first | assumption | with_reducible trivial | rfl | (simp; omega) | (simp [in64]; omega) | (simp [*]; done))))
            | (refine DrC.load e tab_ok rfl (fun c => rfl) rfl (fun c => rfl) (fun c => rfl) (fun c => rfl) ?_)
            | (refine DrC.store e tab_ok rfl (fun c => rfl) (fun c => rfl) rfl (fun c => rfl) (fun c => rfl) (fun c => rfl) (fun c => rfl) (fun c => rfl) (fun c => rfl) rfl ?_)
          )
        refine DrC.append 13 e tab_ok rfl (fun c => rfl) (fun c => rfl) (fun c => rfl) rfl rfl rfl (fun _ => .sl (ints com)) rfl (ints_cells com) (by simp; omega) (by simp; omega) rfl rfl (ints_ok 0 com) rfl ?_
        repeat (
          first
            | (refine DrC.v rfl (fun c _ => VStep.ev e tab_ok rfl rfl ?_) (fun c => rfl) ?_; (focus (first | assumption | with_reducible trivial | rfl | (simp; omega) | (simp [in64]; omega) | (simp [*]; done))))
            | (refine DrC.load e tab_ok rfl (fun c => rfl) rfl (fun c => rfl) (fun c => rfl) (fun c => rfl) ?_)
            | (refine DrC.store e tab_ok rfl (fun c => rfl) (fun c => rfl) rfl (fun c => rfl) (fun c => rfl) (fun c => rfl) (fun c => rfl) (fun c => rfl) (fun c => rfl) rfl ?_)
          )
        refine DrC.fin e rfl ?_ (fun c => rfl) rfl rfl ?_ ?_ (fun cp => ?_)
        (focus (intro c; kernel_rfl))
        (focus (repeat' (first | exact True.intro | (refine And.intro ?_ ?_) | rfl | assumption | exact okRow _)))
        (focus (repeat' (first | exact True.intro | (refine And.intro (fun c C => ?_) ?_)) <;> (repeat' (first | exact All2.nil | (refine All2.cons ⟨rfl, ?_⟩ ?_) | exact Or.inr rfl | (refine Or.inl ?_; kernel_rfl)))))
        dsimp only [tmS, hpS, tput, effH]
        refine AWP.runL e tab_ok L4 300 rfl (by first | trivial | (simp [in64] <;> omega)) ?_
        repeat (
          first
            | (refine AWP.askT rfl ?_; (first | (refine Told.t rfl ?_) | (refine Told.f rfl ?_) | (refine Told.t ?_ ?_; (focus (first | assumption | (simp; omega) | (simp [*]; done)); done)) | (refine Told.f ?_ ?_; (focus (first | assumption | (simp; omega) | (simp [*]; done)); done))); refine AWP.runL e tab_ok L4 300 rfl (by first | trivial | (simp [in64] <;> omega)) ?_)
            | (refine AWP.callQ e rfl rfl ?_; (first | refine CallQ.mk (hR) rfl rfl ?_); refine AWP.runL e tab_ok L4 300 rfl (by first | trivial | (simp [in64] <;> omega)) ?_)
          )
        have hr' : rightG com com ((t + 1 : Nat) : Int) = true := by unfold rightG; refine decide_eq_true ?_; omega
        refine AWP.loop (ι := Nat) (fun k => ⟨[(128, .i k), (127, .i n), (48, .i i), (47, .i acts.length), (46, .d (.sl 5 (acts.map actD))), (9, .i n), (4, .b false), (5, .ptr 0 0), (7, .own 11 1 0 n (cp 3)), (8, .own 13 1 0 n (cp 7))], [(0, .box (grp (com) (com) (t + 1 : Nat))), (11, .row 2 false 1 ((ints (com)).map (·.map SV.d)) (cp 3)), (13, .row 2 false 1 ((ints (com)).map (·.map SV.d)) (cp 7))], 100⟩) (fun k => k ≤ n) (fun k => n - k) 0 (Nat.zero_le _) ?_ ?_
        · intro g
          refine AWP.lessR e [] ?_ ?_ ?_ ?_ ?_ ?_ g
          · refine ⟨rfl, rfl, rfl, rfl, rfl, rfl, rfl, rfl, ?_, ?_, trivial⟩
            · first | rfl | exact congrArg (fun z => some (SV.own 11 1 0 z (cp 3))) (by simp [*])
            · first | rfl | exact congrArg (fun z => some (SV.own 13 1 0 z (cp 7))) (by simp [*])
          · refine ⟨rfl, ?_, ?_, trivial⟩
            · first | rfl | skip
            · first | rfl | skip
          · rfl
          · exact ⟨rfl, rfl, rfl, ints_ok _ _, rfl, ints_ok _ _, trivial⟩
          · rfl
          · rfl
        rintro k Ψ hK next'
        have hK : k ≤ n := hK
        refine AWP.runL e tab_ok L4 300 rfl (by first | trivial | (simp [in64] <;> omega)) ?_
        refine AWP.cond2 rfl (fun hkn => ?_) (fun hkn => ?_)
        · have hkn : k < n := by simpa using hkn
          have hk : k < (com).length := by omega
          have hv : ((ints (com)).map (·.map SV.d))[k]? = some [SV.i (com)[k]] := by simp [ints, hk]
          have hget := get_ok (com) (com) ((t + 1 : Nat) : Int) k hr' k rfl hk
          refine AWP.runL e tab_ok L4 300 rfl (by first | trivial | (simp [in64] <;> omega)) ?_
          repeat (
            first
              | (refine AWP.askT rfl ?_; (first | (refine Told.t rfl ?_) | (refine Told.f rfl ?_) | (refine Told.t ?_ ?_; (focus (first | assumption | (simp; omega) | (simp [*]; done)); done)) | (refine Told.f ?_ ?_; (focus (first | assumption | (simp; omega) | (simp [*]; done)); done))); refine AWP.runL e tab_ok L4 300 rfl (by first | trivial | (simp [in64] <;> omega)) ?_)
              | (refine AWP.callQ e rfl rfl ?_; (first | refine CallQ.mk (hget) rfl rfl ?_); refine AWP.runL e tab_ok L4 300 rfl (by first | trivial | (simp [in64] <;> omega)) ?_)
            )
          refine AWP.idx_own e tab_ok rfl rfl rfl rfl k rfl hkn ?_
          rw [Nat.zero_add]
          refine AWP.runL e tab_ok L4 300 rfl (by first | trivial | (simp [in64] <;> omega)) ?_
          refine AWP.load_el e tab_ok rfl rfl rfl rfl hv rfl ?_
          refine AWP.runL e tab_ok L4 300 rfl (by first | trivial | (simp [in64] <;> omega)) ?_
          repeat (
            first
              | (refine AWP.askT rfl ?_; (first | (refine Told.t rfl ?_) | (refine Told.f rfl ?_) | (refine Told.t ?_ ?_; (focus (first | assumption | (simp; omega) | (simp [*]; done)); done)) | (refine Told.f ?_ ?_; (focus (first | assumption | (simp; omega) | (simp [*]; done)); done))); refine AWP.runL e tab_ok L4 300 rfl (by first | trivial | (simp [in64] <;> omega)) ?_)
            )
          refine AWP.lessR e [] ?_ ?_ ?_ ?_ ?_ ?_ (next' (k + 1) hkn (by show n - (k + 1) < n - k; omega))
          · exact ⟨rfl, rfl, rfl, rfl, rfl, rfl, rfl, rfl, rfl, rfl, trivial⟩
          · exact ⟨rfl, rfl, rfl, trivial⟩
          · rfl
          · exact ⟨rfl, rfl, rfl, ints_ok _ _, rfl, ints_ok _ _, trivial⟩
          · rfl
          · rfl
        · refine AWP.runL e tab_ok L4 300 rfl (by first | trivial | (simp [in64] <;> omega)) ?_
          refine AWP.lessR e [(1, 11), (2, 13)] ?_ ?_ ?_ ?_ ?_ ?_ (next (i + 1, t + 1, com, com, cp 3, cp 7) ⟨hlt, (by show t + 1 ≤ i + 1; omega), (by show (com).length = n; omega), (by show (com).length = n; omega)⟩ (by show acts.length - (i + 1) < acts.length - i; omega))
          · exact ⟨rfl, rfl, rfl, rfl, rfl, rfl, rfl, rfl, trivial⟩
          · exact ⟨rfl, rfl, rfl, trivial⟩
          · rfl
          · exact ⟨rfl, rfl, rfl, ints_ok _ _, rfl, ints_ok _ _, trivial⟩
          · rfl
          · rfl
      refine AWP.runL e tab_ok L4 300 rfl (by first | trivial | (simp [in64] <;> omega)) ?_
      cases giv
      · refine AWP.runL e tab_ok L4 300 rfl (by first | trivial | (simp [in64] <;> omega)) ?_
        repeat (
          first
            | (refine AWP.askT rfl ?_; (first | (refine Told.t rfl ?_) | (refine Told.f rfl ?_) | (refine Told.t ?_ ?_; (focus (first | assumption | (simp; omega) | (simp [*]; done)); done)) | (refine Told.f ?_ ?_; (focus (first | assumption | (simp; omega) | (simp [*]; done)); done))); refine AWP.runL e tab_ok L4 300 rfl (by first | trivial | (simp [in64] <;> omega)) ?_)
          )
        cases bck
        · have b1 : at_.tmod n < n := Int.tmod_lt_of_pos _ (by omega)
          have b2 : -(n : Int) < at_.tmod n := Int.lt_tmod_of_pos _ (by omega)
          have b3 : 0 ≤ (at_.tmod n + n).tmod n := Int.tmod_nonneg _ (by omega)
          have b4 : (at_.tmod n + n).tmod n < n := Int.tmod_lt_of_pos _ (by omega)
          obtain ⟨m, hm⟩ : ∃ m : Nat, (at_.tmod n + n).tmod n = m := ⟨((at_.tmod n + n).tmod n).toNat, by omega⟩
          have hmn : m < wr.length := by omega
          have hS := set_ok wr gv t _ v hr m hm hmn
          have hR := right_eff (wr.set m v) gv t
          have hr' : rightG (wr.set m v) gv ((t : Nat) : Int) = true := by unfold rightG; refine decide_eq_true ?_; rw [List.length_set]; omega
          rw [hr'] at hR
          have hl : (wr.set m v).length = n := by rw [List.length_set]; omega
          refine AWP.runL e tab_ok L4 300 rfl (by first | trivial | (simp [in64] <;> omega)) ?_
          repeat (
            first
              | (refine AWP.askT rfl ?_; (first | (refine Told.t rfl ?_) | (refine Told.f rfl ?_) | (refine Told.t ?_ ?_; (focus (first | assumption | (simp; omega) | (simp [*]; done)); done)) | (refine Told.f ?_ ?_; (focus (first | assumption | (simp; omega) | (simp [*]; done)); done))); refine AWP.runL e tab_ok L4 300 rfl (by first | trivial | (simp [in64] <;> omega)) ?_)
              | (refine AWP.callQ e rfl rfl ?_; (first | refine CallQ.mk (hS) rfl rfl ?_); refine AWP.runL e tab_ok L4 300 rfl (by first | trivial | (simp [in64] <;> omega)) ?_)
            )
          refine AWP.idx_own e tab_ok rfl rfl rfl rfl m hm (by omega) ?_
          rw [Nat.zero_add]
          refine AWP.store_el e tab_ok rfl rfl rfl rfl rfl (el := [.i wr[m]]) (by simp [hmn]) rfl rfl rfl rfl ?_
          refine AWP.runL e tab_ok L4 300 rfl (by first | trivial | (simp [in64] <;> omega)) ?_
          repeat (
            first
              | (refine AWP.askT rfl ?_; (first | (refine Told.t rfl ?_) | (refine Told.f rfl ?_) | (refine Told.t ?_ ?_; (focus (first | assumption | (simp; omega) | (simp [*]; done)); done)) | (refine Told.f ?_ ?_; (focus (first | assumption | (simp; omega) | (simp [*]; done)); done))); refine AWP.runL e tab_ok L4 300 rfl (by first | trivial | (simp [in64] <;> omega)) ?_)
              | (refine AWP.callQ e rfl rfl ?_; (first | refine CallQ.mk (hR) rfl rfl ?_); refine AWP.runL e tab_ok L4 300 rfl (by first | trivial | (simp [in64] <;> omega)) ?_)
            )
          refine AWP.loop (ι := Nat) (fun k => ⟨[(128, .i k), (127, .i n), (48, .i i), (47, .i acts.length), (46, .d (.sl 5 (acts.map actD))), (9, .i n), (4, .b false), (5, .ptr 0 0), (7, .own 1 1 0 n (C1)), (8, .own 2 1 0 n (C2'))], [(0, .box (grp (wr.set m v) (gv) (t : Nat))), (1, .row 2 false 1 ((ints (gv)).map (·.map SV.d)) (C1)), (2, .row 2 false 1 ((ints (wr.set m v)).map (·.map SV.d)) (C2'))], 100⟩) (fun k => k ≤ n) (fun k => n - k) 0 (Nat.zero_le _) ?_ ?_
          · intro g
            refine AWP.lessR e [] ?_ ?_ ?_ ?_ ?_ ?_ g
            · refine ⟨rfl, rfl, rfl, rfl, rfl, rfl, rfl, rfl, ?_, ?_, trivial⟩
              · first | rfl | exact congrArg (fun z => some (SV.own 1 1 0 z (C1))) (by simp [*])
              · first | rfl | exact congrArg (fun z => some (SV.own 2 1 0 z (C2'))) (by simp [*])
            · refine ⟨rfl, ?_, ?_, trivial⟩
              · first | rfl | skip
              · first | rfl | exact congrArg (fun z => some (Blk.row 2 false 1 z C2')) (ints_set wr m v)
            · rfl
            · exact ⟨rfl, rfl, rfl, ints_ok _ _, rfl, ints_ok _ _, trivial⟩
            · rfl
            · rfl
          rintro k Ψ hK next'
          have hK : k ≤ n := hK
          refine AWP.runL e tab_ok L4 300 rfl (by first | trivial | (simp [in64] <;> omega)) ?_
          refine AWP.cond2 rfl (fun hkn => ?_) (fun hkn => ?_)
          · have hkn : k < n := by simpa using hkn
            have hk : k < (gv).length := by omega
            have hv : ((ints (gv)).map (·.map SV.d))[k]? = some [SV.i (gv)[k]] := by simp [ints, hk]
            have hget := get_ok (wr.set m v) (gv) ((t : Nat) : Int) k hr' k rfl hk
            refine AWP.runL e tab_ok L4 300 rfl (by first | trivial | (simp [in64] <;> omega)) ?_
            repeat (
              first
                | (refine AWP.askT rfl ?_; (first | (refine Told.t rfl ?_) | (refine Told.f rfl ?_) | (refine Told.t ?_ ?_; (focus (first | assumption | (simp; omega) | (simp [*]; done)); done)) | (refine Told.f ?_ ?_; (focus (first | assumption | (simp; omega) | (simp [*]; done)); done))); refine AWP.runL e tab_ok L4 300 rfl (by first | trivial | (simp [in64] <;> omega)) ?_)
                | (refine AWP.callQ e rfl rfl ?_; (first | refine CallQ.mk (hget) rfl rfl ?_); refine AWP.runL e tab_ok L4 300 rfl (by first | trivial | (simp [in64] <;> omega)) ?_)
              )
            refine AWP.idx_own e tab_ok rfl rfl rfl rfl k rfl hkn ?_
            rw [Nat.zero_add]
            refine AWP.runL e tab_ok L4 300 rfl (by first | trivial | (simp [in64] <;> omega)) ?_
            refine AWP.load_el e tab_ok rfl rfl rfl rfl hv rfl ?_
            refine AWP.runL e tab_ok L4 300 rfl (by first | trivial | (simp [in64] <;> omega)) ?_
            repeat (
              first
                | (refine AWP.askT rfl ?_; (first | (refine Told.t rfl ?_) | (refine Told.f rfl ?_) | (refine Told.t ?_ ?_; (focus (first | assumption | (simp; omega) | (simp [*]; done)); done)) | (refine Told.f ?_ ?_; (focus (first | assumption | (simp; omega) | (simp [*]; done)); done))); refine AWP.runL e tab_ok L4 300 rfl (by first | trivial | (simp [in64] <;> omega)) ?_)
              )
            refine AWP.lessR e [] ?_ ?_ ?_ ?_ ?_ ?_ (next' (k + 1) hkn (by show n - (k + 1) < n - k; omega))
            · exact ⟨rfl, rfl, rfl, rfl, rfl, rfl, rfl, rfl, rfl, rfl, trivial⟩
            · exact ⟨rfl, rfl, rfl, trivial⟩
            · rfl
            · exact ⟨rfl, rfl, rfl, ints_ok _ _, rfl, ints_ok _ _, trivial⟩
            · rfl
            · rfl
          · refine AWP.runL e tab_ok L4 300 rfl (by first | trivial | (simp [in64] <;> omega)) ?_
            refine AWP.lessR e [(1, 1), (2, 2)] ?_ ?_ ?_ ?_ ?_ ?_ (next (i + 1, t, wr.set m v, gv, C1, C2') ⟨hlt, (by show t ≤ i + 1; omega), (by show (wr.set m v).length = n; omega), (by show (gv).length = n; omega)⟩ (by show acts.length - (i + 1) < acts.length - i; omega))
            · exact ⟨rfl, rfl, rfl, rfl, rfl, rfl, rfl, rfl, trivial⟩
            · exact ⟨rfl, rfl, rfl, trivial⟩
            · rfl
            · exact ⟨rfl, rfl, rfl, ints_ok _ _, rfl, ints_ok _ _, trivial⟩
            · rfl
            · rfl
        · have hB := back_ok wr gv t hr
          have hR := right_eff gv gv t
          rw [show rightG gv gv t = true by unfold rightG; refine decide_eq_true ?_; omega] at hR
          refine AWP.runL e tab_ok L4 300 rfl (by first | trivial | (simp [in64] <;> omega)) ?_
          repeat (
            first
              | (refine AWP.askT rfl ?_; (first | (refine Told.t rfl ?_) | (refine Told.f rfl ?_) | (refine Told.t ?_ ?_; (focus (first | assumption | (simp; omega) | (simp [*]; done)); done)) | (refine Told.f ?_ ?_; (focus (first | assumption | (simp; omega) | (simp [*]; done)); done))); refine AWP.runL e tab_ok L4 300 rfl (by first | trivial | (simp [in64] <;> omega)) ?_)
              | (refine AWP.callQ e rfl rfl ?_; (first | refine CallQ.mk (hB) rfl rfl ?_); refine AWP.runL e tab_ok L4 300 rfl (by first | trivial | (simp [in64] <;> omega)) ?_)
            )
          refine AWP.append e tab_ok rfl rfl rfl rfl rfl rfl rfl rfl (.own rfl (by simp [*])) (by rfl) (ints_cells _) (by simp; omega) (by simp; omega) fun C3 hC3 => ?_
          refine AWP.runL e tab_ok L4 300 rfl (by first | trivial | (simp [in64] <;> omega)) ?_
          repeat (
            first
              | (refine AWP.askT rfl ?_; (first | (refine Told.t rfl ?_) | (refine Told.f rfl ?_) | (refine Told.t ?_ ?_; (focus (first | assumption | (simp; omega) | (simp [*]; done)); done)) | (refine Told.f ?_ ?_; (focus (first | assumption | (simp; omega) | (simp [*]; done)); done))); refine AWP.runL e tab_ok L4 300 rfl (by first | trivial | (simp [in64] <;> omega)) ?_)
              | (refine AWP.callQ e rfl rfl ?_; (first | refine CallQ.mk (hR) rfl rfl ?_); refine AWP.runL e tab_ok L4 300 rfl (by first | trivial | (simp [in64] <;> omega)) ?_)
            )
          have hr' : rightG gv gv ((t : Nat) : Int) = true := by unfold rightG; refine decide_eq_true ?_; omega
          refine AWP.loop (ι := Nat) (fun k => ⟨[(128, .i k), (127, .i n), (48, .i i), (47, .i acts.length), (46, .d (.sl 5 (acts.map actD))), (9, .i n), (4, .b false), (5, .ptr 0 0), (7, .own 1 1 0 n (C1)), (8, .own 6 1 0 n (C3))], [(0, .box (grp (gv) (gv) (t : Nat))), (1, .row 2 false 1 ((ints (gv)).map (·.map SV.d)) (C1)), (6, .row 2 false 1 ((ints (gv)).map (·.map SV.d)) (C3))], 100⟩) (fun k => k ≤ n) (fun k => n - k) 0 (Nat.zero_le _) ?_ ?_
          · intro g
            refine AWP.lessR e [] ?_ ?_ ?_ ?_ ?_ ?_ g
            · refine ⟨rfl, rfl, rfl, rfl, rfl, rfl, rfl, rfl, ?_, ?_, trivial⟩
              · first | rfl | exact congrArg (fun z => some (SV.own 1 1 0 z (C1))) (by simp [*])
              · first | rfl | exact congrArg (fun z => some (SV.own 6 1 0 z (C3))) (by simp [*])
            · refine ⟨rfl, ?_, ?_, trivial⟩
              · first | rfl | skip
              · first | rfl | skip
            · rfl
            · exact ⟨rfl, rfl, rfl, ints_ok _ _, rfl, ints_ok _ _, trivial⟩
            · rfl
            · rfl
          rintro k Ψ hK next'
          have hK : k ≤ n := hK
          refine AWP.runL e tab_ok L4 300 rfl (by first | trivial | (simp [in64] <;> omega)) ?_
          refine AWP.cond2 rfl (fun hkn => ?_) (fun hkn => ?_)
          · have hkn : k < n := by simpa using hkn
            have hk : k < (gv).length := by omega
            have hv : ((ints (gv)).map (·.map SV.d))[k]? = some [SV.i (gv)[k]] := by simp [ints, hk]
            have hget := get_ok (gv) (gv) ((t : Nat) : Int) k hr' k rfl hk
            refine AWP.runL e tab_ok L4 300 rfl (by first | trivial | (simp [in64] <;> omega)) ?_
            repeat (
              first
                | (refine AWP.askT rfl ?_; (first | (refine Told.t rfl ?_) | (refine Told.f rfl ?_) | (refine Told.t ?_ ?_; (focus (first | assumption | (simp; omega) | (simp [*]; done)); done)) | (refine Told.f ?_ ?_; (focus (first | assumption | (simp; omega) | (simp [*]; done)); done))); refine AWP.runL e tab_ok L4 300 rfl (by first | trivial | (simp [in64] <;> omega)) ?_)
                | (refine AWP.callQ e rfl rfl ?_; (first | refine CallQ.mk (hget) rfl rfl ?_); refine AWP.runL e tab_ok L4 300 rfl (by first | trivial | (simp [in64] <;> omega)) ?_)
              )
            refine AWP.idx_own e tab_ok rfl rfl rfl rfl k rfl hkn ?_
            rw [Nat.zero_add]
            refine AWP.runL e tab_ok L4 300 rfl (by first | trivial | (simp [in64] <;> omega)) ?_
            refine AWP.load_el e tab_ok rfl rfl rfl rfl hv rfl ?_
            refine AWP.runL e tab_ok L4 300 rfl (by first | trivial | (simp [in64] <;> omega)) ?_
            repeat (
              first
                | (refine AWP.askT rfl ?_; (first | (refine Told.t rfl ?_) | (refine Told.f rfl ?_) | (refine Told.t ?_ ?_; (focus (first | assumption | (simp; omega) | (simp [*]; done)); done)) | (refine Told.f ?_ ?_; (focus (first | assumption | (simp; omega) | (simp [*]; done)); done))); refine AWP.runL e tab_ok L4 300 rfl (by first | trivial | (simp [in64] <;> omega)) ?_)
              )
            refine AWP.lessR e [] ?_ ?_ ?_ ?_ ?_ ?_ (next' (k + 1) hkn (by show n - (k + 1) < n - k; omega))
            · exact ⟨rfl, rfl, rfl, rfl, rfl, rfl, rfl, rfl, rfl, rfl, trivial⟩
            · exact ⟨rfl, rfl, rfl, trivial⟩
            · rfl
            · exact ⟨rfl, rfl, rfl, ints_ok _ _, rfl, ints_ok _ _, trivial⟩
            · rfl
            · rfl
          · refine AWP.runL e tab_ok L4 300 rfl (by first | trivial | (simp [in64] <;> omega)) ?_
            refine AWP.lessR e [(1, 1), (2, 6)] ?_ ?_ ?_ ?_ ?_ ?_ (next (i + 1, t, gv, gv, C1, C3) ⟨hlt, (by show t ≤ i + 1; omega), (by show (gv).length = n; omega), (by show (gv).length = n; omega)⟩ (by show acts.length - (i + 1) < acts.length - i; omega))
            · exact ⟨rfl, rfl, rfl, rfl, rfl, rfl, rfl, rfl, trivial⟩
            · exact ⟨rfl, rfl, rfl, trivial⟩
            · rfl
            · exact ⟨rfl, rfl, rfl, ints_ok _ _, rfl, ints_ok _ _, trivial⟩
            · rfl
            · rfl
      · have hG := give_ok wr gv t hr (by omega)
        have hR := right_eff wr wr (t + 1)
        rw [show rightG wr wr (t + 1) = true by unfold rightG; refine decide_eq_true ?_; omega] at hR
        refine AWP.runL e tab_ok L4 300 rfl (by first | trivial | (simp [in64] <;> omega)) ?_
        repeat (
          first
            | (refine AWP.askT rfl ?_; (first | (refine Told.t rfl ?_) | (refine Told.f rfl ?_) | (refine Told.t ?_ ?_; (focus (first | assumption | (simp; omega) | (simp [*]; done)); done)) | (refine Told.f ?_ ?_; (focus (first | assumption | (simp; omega) | (simp [*]; done)); done))); refine AWP.runL e tab_ok L4 300 rfl (by first | trivial | (simp [in64] <;> omega)) ?_)
            | (refine AWP.callQ e rfl rfl ?_; (first | refine CallQ.mk (hG) rfl rfl ?_); refine AWP.runL e tab_ok L4 300 rfl (by first | trivial | (simp [in64] <;> omega)) ?_)
          )
        refine AWP.append e tab_ok rfl rfl rfl rfl rfl rfl rfl rfl (.own rfl (by simp [*])) (by rfl) (ints_cells _) (by simp; omega) (by simp; omega) fun C3 hC3 => ?_
        refine AWP.runL e tab_ok L4 300 rfl (by first | trivial | (simp [in64] <;> omega)) ?_
        repeat (
          first
            | (refine AWP.askT rfl ?_; (first | (refine Told.t rfl ?_) | (refine Told.f rfl ?_) | (refine Told.t ?_ ?_; (focus (first | assumption | (simp; omega) | (simp [*]; done)); done)) | (refine Told.f ?_ ?_; (focus (first | assumption | (simp; omega) | (simp [*]; done)); done))); refine AWP.runL e tab_ok L4 300 rfl (by first | trivial | (simp [in64] <;> omega)) ?_)
            | (refine AWP.callQ e rfl rfl ?_; (first | refine CallQ.mk (hR) rfl rfl ?_); refine AWP.runL e tab_ok L4 300 rfl (by first | trivial | (simp [in64] <;> omega)) ?_)
          )
        have hr' : rightG wr wr ((t + 1 : Nat) : Int) = true := by unfold rightG; refine decide_eq_true ?_; omega
        refine AWP.loop (ι := Nat) (fun k => ⟨[(128, .i k), (127, .i n), (48, .i i), (47, .i acts.length), (46, .d (.sl 5 (acts.map actD))), (9, .i n), (4, .b false), (5, .ptr 0 0), (7, .own 6 1 0 n (C3)), (8, .own 2 1 0 n (C2'))], [(0, .box (grp (wr) (wr) (t + 1 : Nat))), (6, .row 2 false 1 ((ints (wr)).map (·.map SV.d)) (C3)), (2, .row 2 false 1 ((ints (wr)).map (·.map SV.d)) (C2'))], 100⟩) (fun k => k ≤ n) (fun k => n - k) 0 (Nat.zero_le _) ?_ ?_
        · intro g
          refine AWP.lessR e [] ?_ ?_ ?_ ?_ ?_ ?_ g
          · refine ⟨rfl, rfl, rfl, rfl, rfl, rfl, rfl, rfl, ?_, ?_, trivial⟩
            · first | rfl | exact congrArg (fun z => some (SV.own 6 1 0 z (C3))) (by simp [*])
            · first | rfl | exact congrArg (fun z => some (SV.own 2 1 0 z (C2'))) (by simp [*])
          · refine ⟨rfl, ?_, ?_, trivial⟩
            · first | rfl | skip
            · first | rfl | skip
          · rfl
          · exact ⟨rfl, rfl, rfl, ints_ok _ _, rfl, ints_ok _ _, trivial⟩
          · rfl
          · rfl
        rintro k Ψ hK next'
        have hK : k ≤ n := hK
        refine AWP.runL e tab_ok L4 300 rfl (by first | trivial | (simp [in64] <;> omega)) ?_
        refine AWP.cond2 rfl (fun hkn => ?_) (fun hkn => ?_)
        · have hkn : k < n := by simpa using hkn
          have hk : k < (wr).length := by omega
          have hv : ((ints (wr)).map (·.map SV.d))[k]? = some [SV.i (wr)[k]] := by simp [ints, hk]
          have hget := get_ok (wr) (wr) ((t + 1 : Nat) : Int) k hr' k rfl hk
          refine AWP.runL e tab_ok L4 300 rfl (by first | trivial | (simp [in64] <;> omega)) ?_
          repeat (
            first
              | (refine AWP.askT rfl ?_; (first | (refine Told.t rfl ?_) | (refine Told.f rfl ?_) | (refine Told.t ?_ ?_; (focus (first | assumption | (simp; omega) | (simp [*]; done)); done)) | (refine Told.f ?_ ?_; (focus (first | assumption | (simp; omega) | (simp [*]; done)); done))); refine AWP.runL e tab_ok L4 300 rfl (by first | trivial | (simp [in64] <;> omega)) ?_)
              | (refine AWP.callQ e rfl rfl ?_; (first | refine CallQ.mk (hget) rfl rfl ?_); refine AWP.runL e tab_ok L4 300 rfl (by first | trivial | (simp [in64] <;> omega)) ?_)
            )
          refine AWP.idx_own e tab_ok rfl rfl rfl rfl k rfl hkn ?_
          rw [Nat.zero_add]
          refine AWP.runL e tab_ok L4 300 rfl (by first | trivial | (simp [in64] <;> omega)) ?_
          refine AWP.load_el e tab_ok rfl rfl rfl rfl hv rfl ?_
          refine AWP.runL e tab_ok L4 300 rfl (by first | trivial | (simp [in64] <;> omega)) ?_
          repeat (
            first
              | (refine AWP.askT rfl ?_; (first | (refine Told.t rfl ?_) | (refine Told.f rfl ?_) | (refine Told.t ?_ ?_; (focus (first | assumption | (simp; omega) | (simp [*]; done)); done)) | (refine Told.f ?_ ?_; (focus (first | assumption | (simp; omega) | (simp [*]; done)); done))); refine AWP.runL e tab_ok L4 300 rfl (by first | trivial | (simp [in64] <;> omega)) ?_)
            )
          refine AWP.lessR e [] ?_ ?_ ?_ ?_ ?_ ?_ (next' (k + 1) hkn (by show n - (k + 1) < n - k; omega))
          · exact ⟨rfl, rfl, rfl, rfl, rfl, rfl, rfl, rfl, rfl, rfl, trivial⟩
          · exact ⟨rfl, rfl, rfl, trivial⟩
          · rfl
          · exact ⟨rfl, rfl, rfl, ints_ok _ _, rfl, ints_ok _ _, trivial⟩
          · rfl
          · rfl
        · refine AWP.runL e tab_ok L4 300 rfl (by first | trivial | (simp [in64] <;> omega)) ?_
          refine AWP.lessR e [(1, 6), (2, 2)] ?_ ?_ ?_ ?_ ?_ ?_ (next (i + 1, t + 1, wr, wr, C3, C2') ⟨hlt, (by show t + 1 ≤ i + 1; omega), (by show (wr).length = n; omega), (by show (wr).length = n; omega)⟩ (by show acts.length - (i + 1) < acts.length - i; omega))
          · exact ⟨rfl, rfl, rfl, rfl, rfl, rfl, rfl, rfl, trivial⟩
          · exact ⟨rfl, rfl, rfl, trivial⟩
          · rfl
          · exact ⟨rfl, rfl, rfl, ints_ok _ _, rfl, ints_ok _ _, trivial⟩
          · rfl
          · rfl
    · refine AWP.runL e tab_ok L4 300 rfl (by first | trivial | (simp [in64] <;> omega)) ?_
      have hS := same_eff wr wr (by omega)
      rw [beq_self_eq_true] at hS
      refine AWP.call e hS rfl [2] (.cons (.refl _) (.cons (.ownAll (ints wr) rfl rfl (by simp) (by rw [ints_len]; exact hw.symm)) .nil)) rfl rfl ?_
      rintro _ _ _ rfl; refine ⟨rfl, .inr rfl, ?_⟩
      refine AWP.runL e tab_ok L4 300 rfl (by first | trivial | (simp [in64] <;> omega)) ?_
      refine AWP.ret e tab_ok rfl ?_
      rw [hP]
      all_goals first | rfl | (simp [strip]; done)

theorem acts_of {n : Nat} : ∀ (ys : List (List DV)), (∀ el ∈ ys, Tyd tab (n + 3) 41 el) → ∃ l : List Act, ys = l.map actD
  | [], _ => ⟨[], rfl⟩
  | el :: ys, h => by
    obtain ⟨l, rfl⟩ := acts_of ys fun e he => h e (List.mem_cons_of_mem _ he)
    have h1 := h el List.mem_cons_self
    obtain ⟨_, _, rfl, ⟨at_, rfl, _, _⟩, _, _, rfl, ⟨v, rfl, _, _⟩, _, _, rfl, ⟨b, rfl⟩, _, _, rfl, ⟨c, rfl⟩, _, _, rfl, ⟨ws, rfl, _, he⟩, rfl⟩ := h1
    obtain ⟨ws, rfl, _⟩ := ints_of (T := tab) (t := 2) rfl rfl ws he
    exact ⟨(at_, v, b, c, ws) :: l, rfl⟩

set_option maxRecDepth 100000 in
theorem whole_args (l : List SV) (h : Args tab 9 [22, 39] l) : Eff Try.prog 4 l [] 0 (fun r _ _ => r = .b true) := by
  obtain ⟨_, _, rfl, ⟨ys, rfl, hl1, he1⟩, _, _, rfl, ⟨zs, rfl, hl2, he2⟩, rfl⟩ := h
  obtain ⟨s0, rfl, _⟩ := ints_of (T := tab) (t := 2) rfl rfl ys he1
  obtain ⟨acts, rfl⟩ := acts_of zs he2
  exact whole_eff s0 acts (by simpa using hl1) (by simpa using hl2)

end Go.Proofs.Ytkilkilejnaflaa
