import Derived.Test.YtaiejjfikdpccaaF11
open Go Go.Proofs Go.Sy
namespace Go.Proofs.Ytaiejjfikdpccaa

def lastOf (now last : Int) (l : List Int) : Int := l.foldl (fun _ k => now + k) last
theorem lastOf_app (now last : Int) (l : List Int) (k : Int) : lastOf now last (l ++ [k]) = now + k := by simp [lastOf]
theorem run_sep {s : SE} {D last now : Int} (hD : 0 ≤ D) (hd : s.delay = D) (h0 : 0 ≤ s.hold) (h1 : D - (now - last) ≤ s.hold) (h2 : last ≤ now) : ∀ n : Nat,
    (∀ (i : Nat) (h : i < (out s n).length), (if 1 > D then 1 else D) ≤ now + (out s n)[i] - lastOf now last ((out s n).take i)) ∧ lastOf now last (out s n) ≤ now + n ∧ D - (now + n - lastOf now last (out s n)) ≤ (runS s n).hold ∧ 0 ≤ (runS s n).hold ∧ last ≤ lastOf now last (out s n)
  | 0 => ⟨fun i h => by simp [out] at h, by show last ≤ now + 0; omega, by show D - (now + 0 - last) ≤ s.hold; omega, h0, Int.le_refl _⟩
  | n + 1 => by
    obtain ⟨g1, g2, g3, g4, g5⟩ := run_sep hD hd h0 h1 h2 n
    have hk := (run_kept s n).2.2.2
    rw [hd] at hk
    have e1 : (runS s (n + 1)).hold = if tickB (runS s n) then D else hold1 (runS s n) := by rw [runS, ← hk]; rfl
    have e2 : out s (n + 1) = out s n ++ if tickB (runS s n) then [(n : Int) + 1] else [] := rfl
    have hh : hold1 (runS s n) = if 0 > (runS s n).hold - 1 then 0 else (runS s n).hold - 1 := rfl
    generalize hq : out s n = l at *
    generalize hr : (runS s n).hold = h at *
    rcases cases_b (tickB (runS s n)) with ht | ht
    · have hz : hold1 (runS s n) = 0 := by
        unfold tickB at ht; simp at ht; exact ht.2
      rw [hz] at hh
      have hle : h ≤ 1 := by
        by_cases q : 0 > h - 1
        · omega
        · rw [if_neg q] at hh; omega
      rw [ht, if_pos rfl] at e1 e2
      rw [e1, e2, lastOf_app]
      refine ⟨fun i hi => ?_, by omega, by omega, hD, by omega⟩
      by_cases hi2 : i < l.length
      · rw [List.getElem_append_left hi2, List.take_append_of_le_length (by omega)]
        exact g1 i hi2
      · obtain rfl : i = l.length := by simp at hi; omega
        rw [List.getElem_append_right (by omega)]
        simp only [Nat.sub_self, List.getElem_cons_zero, List.take_left']
        split <;> omega
    · rw [ht, if_neg (by simp)] at e1 e2
      rw [List.append_nil] at e2
      rw [e1, e2]
      refine ⟨g1, by omega, ?_, ?_, g5⟩
      · rw [hh]; split <;> omega
      · rw [hh]; split <;> omega

theorem mod20 (z : Int) : ∃ k : Nat, k < 20 ∧ Int.tmod (Int.tmod z 20 + 20) 20 = k ∧ -20 < Int.tmod z 20 ∧ Int.tmod z 20 < 20 := by
  have h1 := Int.tmod_lt_of_pos z (show (0 : Int) < 20 by omega)
  have h2 := Int.lt_tmod_of_pos z (show (0 : Int) < 20 by omega)
  have h3 : 0 ≤ Int.tmod (Int.tmod z 20 + 20) 20 := Int.tmod_nonneg _ (by omega)
  have h4 := Int.tmod_lt_of_pos (Int.tmod z 20 + 20) (show (0 : Int) < 20 by omega)
  exact ⟨(Int.tmod (Int.tmod z 20 + 20) 20).toNat, by omega, by omega, h2, h1⟩

structure AV where
  ask : Bool
  sw : Bool
  on : Bool
  ticks : Int
abbrev rowA (a : AV) : List DV := [.v (.bool a.ask), .v (.bool a.sw), .v (.bool a.on), .v (.int .i64 a.ticks)]
theorem acts_of : ∀ (ys : List (List DV)), (∀ el ∈ ys, Tyd tab 8 42 el) → ∃ l : List AV, ys = l.map rowA
  | [], _ => ⟨[], rfl⟩
  | el :: ys, h => by
    obtain ⟨l, rfl⟩ := acts_of ys fun e he => h e (by simp [he])
    obtain ⟨_, _, rfl, ⟨k, rfl⟩, _, _, rfl, ⟨s, rfl⟩, _, _, rfl, ⟨on, rfl⟩, _, _, rfl, ⟨t, rfl, _, _⟩, rfl⟩ := h el (by simp)
    exact ⟨⟨k, s, on, t⟩ :: l, rfl⟩
theorem ask_kept (s : SE) : (askS s).delay = s.delay ∧ (askS s).hold = s.hold := by unfold askS; split <;> exact ⟨rfl, rfl⟩
theorem switch_kept (s : SE) (on : Bool) : (switchS s on).delay = s.delay ∧ (switchS s on).hold = s.hold := by unfold switchS; split <;> exact ⟨rfl, rfl⟩

abbrev apT (D : Int) (acts : List AV) (i : Nat) (last now : Int) : List (Nat × SV) := [(50, .i i), (49, .i acts.length), (48, .d (.sl 4 (acts.map rowA))), (2, .i D), (8, .b false), (9, .ptr 2 0), (10, .i 0), (11, .i last), (12, .i now)]
def ApI (D : Int) (i : Nat) (s : SE) (last now : Int) : Prop := rightB s = true ∧ s.delay = D ∧ D - (now - last) ≤ s.hold ∧ -1000 ≤ last ∧ last ≤ now ∧ 0 ≤ now ∧ now ≤ 20 * i
set_option maxHeartbeats 4000000 in
set_option maxRecDepth 100000 in
theorem apart_eff (y n : WV) (z : Int) (acts : List AV) (hws : acts.length ≤ 9223372036854775807) : Eff Try.prog 6 [.agg (wC y), .agg (wC n), .i z, .d (.sl 4 (acts.map rowA))] [] 0 (fun r _ _ => r = .b true) := by
  obtain ⟨D, hDz, a0, a1⟩ := clamp_nat 0 50 z (by decide) (by decide)
  rcases cases_b (wayB y && wayB n) with h | h
  rotate_left
  · have c1 := new_bad y n true D h
    rcases cases_b (wayB y) with h1 | h1
    · have h2 : wayB n = false := by rw [h1] at h; simpa using h
      have c2 := refway_eff y
      have c3 := refway_eff n
      rw [h1] at c2
      rw [h2] at c3
      clear h
      refine eff_of Try.func6 rfl rfl rfl fun cx e hP => ?_
      refine AWP.runL e tab_ok L6 13 rfl (by first | trivial | (simp [in64] <;> omega)) ?_
      refine AWP.eqT 2 (.i D) rfl (congrArg SV.i hDz) ?_
      refine AWP.runL e tab_ok L6 300 rfl (by first | trivial | (simp [in64] <;> omega)) ?_
      repeat (
        first
          | (refine AWP.askT rfl ?_; (first | (refine Told.t rfl ?_) | (refine Told.f rfl ?_) | (refine Told.t ?_ ?_; (focus assumption)) | (refine Told.f ?_ ?_; (focus assumption)) | (refine Told.t ?_ ?_; (focus (first | (simp; omega) | (simp [*]; done)); done)) | (refine Told.f ?_ ?_; (focus (first | (simp; omega) | (simp [*]; done)); done))); refine AWP.runL e tab_ok L6 300 rfl (by first | trivial | (simp [in64] <;> omega)) ?_)
          | (refine AWP.callQ e rfl rfl ?_; (first | refine CallQ.mk (c1) rfl rfl ?_ | refine CallQ.mk (c2) rfl rfl ?_ | refine CallQ.mk (c3) rfl rfl ?_ | refine CallQ.mk (alive_eff) rfl rfl ?_); refine AWP.runL e tab_ok L6 300 rfl (by first | trivial | (simp [in64] <;> omega)) ?_)
          | (refine AWP.eq_agg e tab_ok rfl rfl rfl (.inl ⟨rfl, rfl⟩) ?_ 5 (by omega) rfl ?_ rfl rfl rfl rfl rfl rfl rfl ?_; (focus kernel_rfl); (focus kernel_rfl); refine AWP.runL e tab_ok L6 300 rfl (by first | trivial | (simp [in64] <;> omega)) ?_)
          | (refine AWP.eq_agg e tab_ok rfl rfl rfl (.inr ⟨rfl, rfl⟩) ?_ 5 (by omega) rfl ?_ rfl rfl rfl rfl rfl rfl rfl ?_; (focus kernel_rfl); (focus kernel_rfl); refine AWP.runL e tab_ok L6 300 rfl (by first | trivial | (simp [in64] <;> omega)) ?_)
        )
      refine AWP.ret e tab_ok rfl ?_
      rw [hP]
      all_goals first | rfl | (simp [strip]; done)
    · have c2 := refway_eff y
      rw [h1] at c2
      clear h
      refine eff_of Try.func6 rfl rfl rfl fun cx e hP => ?_
      refine AWP.runL e tab_ok L6 13 rfl (by first | trivial | (simp [in64] <;> omega)) ?_
      refine AWP.eqT 2 (.i D) rfl (congrArg SV.i hDz) ?_
      refine AWP.runL e tab_ok L6 300 rfl (by first | trivial | (simp [in64] <;> omega)) ?_
      repeat (
        first
          | (refine AWP.askT rfl ?_; (first | (refine Told.t rfl ?_) | (refine Told.f rfl ?_) | (refine Told.t ?_ ?_; (focus assumption)) | (refine Told.f ?_ ?_; (focus assumption)) | (refine Told.t ?_ ?_; (focus (first | (simp; omega) | (simp [*]; done)); done)) | (refine Told.f ?_ ?_; (focus (first | (simp; omega) | (simp [*]; done)); done))); refine AWP.runL e tab_ok L6 300 rfl (by first | trivial | (simp [in64] <;> omega)) ?_)
          | (refine AWP.callQ e rfl rfl ?_; (first | refine CallQ.mk (c1) rfl rfl ?_ | refine CallQ.mk (c2) rfl rfl ?_ | refine CallQ.mk (alive_eff) rfl rfl ?_); refine AWP.runL e tab_ok L6 300 rfl (by first | trivial | (simp [in64] <;> omega)) ?_)
          | (refine AWP.eq_agg e tab_ok rfl rfl rfl (.inl ⟨rfl, rfl⟩) ?_ 5 (by omega) rfl ?_ rfl rfl rfl rfl rfl rfl rfl ?_; (focus kernel_rfl); (focus kernel_rfl); refine AWP.runL e tab_ok L6 300 rfl (by first | trivial | (simp [in64] <;> omega)) ?_)
          | (refine AWP.eq_agg e tab_ok rfl rfl rfl (.inr ⟨rfl, rfl⟩) ?_ 5 (by omega) rfl ?_ rfl rfl rfl rfl rfl rfl rfl ?_; (focus kernel_rfl); (focus kernel_rfl); refine AWP.runL e tab_ok L6 300 rfl (by first | trivial | (simp [in64] <;> omega)) ?_)
        )
      refine AWP.ret e tab_ok rfl ?_
      rw [hP]
      all_goals first | rfl | (simp [strip]; done)
  have h1 : wayB y = true := by simp at h; exact h.1
  have h2 : wayB n = true := by simp at h; exact h.2
  have r1 := refway_eff y
  have r2 := refway_eff n
  rw [h1] at r1
  rw [h2] at r2
  have n1 := right_new (on := true) (d := D) h1 h2 (by omega)
  have c1 := new_ok y n true D h1 h2 (inB_t.2 (by omega))
  have hI0 : ApI D 0 (newS y n true D) (-1000) 0 := ⟨n1, rfl, by show (D : Int) - (0 - (-1000)) ≤ 0; omega, by decide, by decide, by decide, by decide⟩
  generalize newS y n true D = P at *
  refine eff_of Try.func6 rfl rfl rfl fun cx e hP => ?_
  refine AWP.runL e tab_ok L6 13 rfl (by first | trivial | (simp [in64] <;> omega)) ?_
  refine AWP.eqT 2 (.i D) rfl (congrArg SV.i hDz) ?_
  clear hDz
  refine AWP.runL e tab_ok L6 300 rfl (by first | trivial | (simp [in64] <;> omega)) ?_
  repeat (
    first
      | (refine AWP.askT rfl ?_; (first | (refine Told.t rfl ?_) | (refine Told.f rfl ?_) | (refine Told.t ?_ ?_; (focus assumption)) | (refine Told.f ?_ ?_; (focus assumption)) | (refine Told.t ?_ ?_; (focus (first | (simp; omega) | (simp [*]; done)); done)) | (refine Told.f ?_ ?_; (focus (first | (simp; omega) | (simp [*]; done)); done))); refine AWP.runL e tab_ok L6 300 rfl (by first | trivial | (simp [in64] <;> omega)) ?_)
      | (refine AWP.callQ e rfl rfl ?_; (first | refine CallQ.mk (c1) rfl rfl ?_ | refine CallQ.mk (r1) rfl rfl ?_ | refine CallQ.mk (r2) rfl rfl ?_); refine AWP.runL e tab_ok L6 300 rfl (by first | trivial | (simp [in64] <;> omega)) ?_)
      | (refine AWP.eq_agg e tab_ok rfl rfl rfl (.inl ⟨rfl, rfl⟩) ?_ 5 (by omega) rfl ?_ rfl rfl rfl rfl rfl rfl rfl ?_; (focus kernel_rfl); (focus kernel_rfl); refine AWP.runL e tab_ok L6 300 rfl (by first | trivial | (simp [in64] <;> omega)) ?_)
      | (refine AWP.eq_agg e tab_ok rfl rfl rfl (.inr ⟨rfl, rfl⟩) ?_ 5 (by omega) rfl ?_ rfl rfl rfl rfl rfl rfl rfl ?_; (focus kernel_rfl); (focus kernel_rfl); refine AWP.runL e tab_ok L6 300 rfl (by first | trivial | (simp [in64] <;> omega)) ?_)
    )
  refine AWP.loopX (ι := Nat × SE × Int × Int) (ε := Unit) (fun x => ⟨apT D acts x.1 x.2.2.1 x.2.2.2, [(2, .box (sC x.2.1))], 3⟩)
    (fun x => x.1 ≤ acts.length ∧ x.1 ≤ 30 ∧ ApI D x.1 x.2.1 x.2.2.1 x.2.2.2) (fun x => acts.length - x.1) (0, P, -1000, 0)
    ⟨Nat.zero_le _, Nat.zero_le _, hI0⟩
    (fun _ => ⟨[(10, .i 0)], [], 3⟩) (fun _ => True) ?_ ?_ ?_
  · intro _ _
    refine AWP.runL e tab_ok L6 300 rfl (by first | trivial | (simp [in64] <;> omega)) ?_
    repeat (
      first
        | (refine AWP.askT rfl ?_; (first | (refine Told.t rfl ?_) | (refine Told.f rfl ?_) | (refine Told.t ?_ ?_; (focus assumption)) | (refine Told.f ?_ ?_; (focus assumption)) | (refine Told.t ?_ ?_; (focus (first | (simp; omega) | (simp [*]; done)); done)) | (refine Told.f ?_ ?_; (focus (first | (simp; omega) | (simp [*]; done)); done))); refine AWP.runL e tab_ok L6 300 rfl (by first | trivial | (simp [in64] <;> omega)) ?_)
        | (refine AWP.callQ e rfl rfl ?_; (first | refine CallQ.mk (alive_eff) rfl rfl ?_); refine AWP.runL e tab_ok L6 300 rfl (by first | trivial | (simp [in64] <;> omega)) ?_)
        | (refine AWP.eq_agg e tab_ok rfl rfl rfl (.inl ⟨rfl, rfl⟩) ?_ 5 (by omega) rfl ?_ rfl rfl rfl rfl rfl rfl rfl ?_; (focus kernel_rfl); (focus kernel_rfl); refine AWP.runL e tab_ok L6 300 rfl (by first | trivial | (simp [in64] <;> omega)) ?_)
        | (refine AWP.eq_agg e tab_ok rfl rfl rfl (.inr ⟨rfl, rfl⟩) ?_ 5 (by omega) rfl ?_ rfl rfl rfl rfl rfl rfl rfl ?_; (focus kernel_rfl); (focus kernel_rfl); refine AWP.runL e tab_ok L6 300 rfl (by first | trivial | (simp [in64] <;> omega)) ?_)
      )
    refine AWP.ret e tab_ok rfl ?_
    rw [hP]
    all_goals first | rfl | (simp [strip]; done)
  · intro kk g
    refine AWP.less e ?_ ?_ ?_ ?_ ?_ (g) <;> (repeat' (first | exact True.intro | (refine And.intro ?_ ?_) | rfl | assumption))
    exact congrArg (fun z => some (SV.i z)) (by simp)
  rintro ⟨i, s, last, now⟩ Φ Ψ ⟨hI, h30, hA⟩ nxt fin
  clear r1 r2 c1 hI0 n1
  have hI : i ≤ acts.length := hI
  have h30 : i ≤ 30 := h30
  have hA : ApI D i s last now := hA
  refine AWP.runL e tab_ok L6 300 rfl (by first | trivial | (simp [in64] <;> omega)) ?_
  refine AWP.cond2 rfl (fun hlt => ?_) (fun hlt => ?_)
  rotate_left
  · refine AWP.runL e tab_ok L6 300 rfl (by first | trivial | (simp [in64] <;> omega)) ?_
    refine AWP.less e ?_ ?_ ?_ ?_ ?_ (fin () trivial) <;> (repeat' (first | exact True.intro | (refine And.intro ?_ ?_) | rfl | assumption))
  have hlt : i < acts.length := by simp at hlt; omega
  obtain ⟨a, ha⟩ : ∃ a, a = acts[i] := ⟨_, rfl⟩
  refine AWP.runL e tab_ok L6 300 rfl (by first | trivial | (simp [in64] <;> omega)) ?_
  refine AWP.idx e tab_ok rfl rfl rfl rfl i rfl (el := rowA a) (by rw [ha]; simp [hlt]) ?_
  clear ha
  refine AWP.runL e tab_ok L6 300 rfl (by first | trivial | (simp [in64] <;> omega)) ?_
  refine AWP.cond2 rfl (fun hq => ?_) (fun hq => ?_)
  · refine AWP.runL e tab_ok L6 300 rfl (by first | trivial | (simp [in64] <;> omega)) ?_
    refine AWP.less e ?_ ?_ ?_ ?_ ?_ (fin () trivial) <;> (repeat' (first | exact True.intro | (refine And.intro ?_ ?_) | rfl | assumption))
  have hq : i < 30 := by simp at hq; omega
  obtain ⟨hr, hd, hh, b1, b2, b3, b4⟩ := hA
  obtain ⟨s1, hs1⟩ : ∃ s1, s1 = if a.ask then askS s else s := ⟨_, rfl⟩
  have hr1 : rightB s1 = true := by rw [hs1]; split; exact right_ask hr; exact hr
  have hd1 : s1.delay = s.delay ∧ s1.hold = s.hold := by rw [hs1]; split; exact ask_kept s; exact ⟨rfl, rfl⟩
  have ca := ask_ok s hr
  refine AWP.runL e tab_ok L6 300 rfl (by first | trivial | (simp [in64] <;> omega)) ?_
  refine AWP.joinN 1 (ε := Unit) (fun _ => ⟨apT D acts i last now ++ [(14, .ptr 3 0)], [(2, .box (sC s1)), (3, .box ((rowA a).map SV.d))], 4⟩) (fun _ => True) ?_ ?_
  rotate_left
  · intro Ψ1 fin1
    clear nxt fin
    rcases cases_b a.ask with h | h
    · rw [h, if_pos rfl] at hs1
      subst hs1
      refine AWP.runL e tab_ok L6 300 rfl (by first | trivial | (simp [in64] <;> omega)) ?_
      repeat (
        first
          | (refine AWP.askT rfl ?_; (first | (refine Told.t rfl ?_) | (refine Told.f rfl ?_) | (refine Told.t ?_ ?_; (focus assumption)) | (refine Told.f ?_ ?_; (focus assumption)) | (refine Told.t ?_ ?_; (focus (first | (simp; omega) | (simp [*]; done)); done)) | (refine Told.f ?_ ?_; (focus (first | (simp; omega) | (simp [*]; done)); done))); refine AWP.runL e tab_ok L6 300 rfl (by first | trivial | (simp [in64] <;> omega)) ?_)
          | (refine AWP.callQ e rfl rfl ?_; (first | refine CallQ.mk (ca) rfl rfl ?_); refine AWP.runL e tab_ok L6 300 rfl (by first | trivial | (simp [in64] <;> omega)) ?_)
          | (refine AWP.eq_agg e tab_ok rfl rfl rfl (.inl ⟨rfl, rfl⟩) ?_ 5 (by omega) rfl ?_ rfl rfl rfl rfl rfl rfl rfl ?_; (focus kernel_rfl); (focus kernel_rfl); refine AWP.runL e tab_ok L6 300 rfl (by first | trivial | (simp [in64] <;> omega)) ?_)
          | (refine AWP.eq_agg e tab_ok rfl rfl rfl (.inr ⟨rfl, rfl⟩) ?_ 5 (by omega) rfl ?_ rfl rfl rfl rfl rfl rfl rfl ?_; (focus kernel_rfl); (focus kernel_rfl); refine AWP.runL e tab_ok L6 300 rfl (by first | trivial | (simp [in64] <;> omega)) ?_)
        )
      refine AWP.less e ?_ ?_ ?_ ?_ ?_ (fin1 () trivial) <;> (repeat' (first | exact True.intro | (refine And.intro ?_ ?_) | rfl | assumption))
    · rw [h, if_neg (by simp)] at hs1
      subst hs1
      refine AWP.runL e tab_ok L6 300 rfl (by first | trivial | (simp [in64] <;> omega)) ?_
      repeat (
        first
          | (refine AWP.askT rfl ?_; (first | (refine Told.t rfl ?_) | (refine Told.f rfl ?_) | (refine Told.t ?_ ?_; (focus assumption)) | (refine Told.f ?_ ?_; (focus assumption)) | (refine Told.t ?_ ?_; (focus (first | (simp; omega) | (simp [*]; done)); done)) | (refine Told.f ?_ ?_; (focus (first | (simp; omega) | (simp [*]; done)); done))); refine AWP.runL e tab_ok L6 300 rfl (by first | trivial | (simp [in64] <;> omega)) ?_)
          | (refine AWP.eq_agg e tab_ok rfl rfl rfl (.inl ⟨rfl, rfl⟩) ?_ 5 (by omega) rfl ?_ rfl rfl rfl rfl rfl rfl rfl ?_; (focus kernel_rfl); (focus kernel_rfl); refine AWP.runL e tab_ok L6 300 rfl (by first | trivial | (simp [in64] <;> omega)) ?_)
          | (refine AWP.eq_agg e tab_ok rfl rfl rfl (.inr ⟨rfl, rfl⟩) ?_ 5 (by omega) rfl ?_ rfl rfl rfl rfl rfl rfl rfl ?_; (focus kernel_rfl); (focus kernel_rfl); refine AWP.runL e tab_ok L6 300 rfl (by first | trivial | (simp [in64] <;> omega)) ?_)
        )
      refine AWP.less e ?_ ?_ ?_ ?_ ?_ (fin1 () trivial) <;> (repeat' (first | exact True.intro | (refine And.intro ?_ ?_) | rfl | assumption))
  intro _ _
  clear ca hs1
  obtain ⟨s2, hs2⟩ : ∃ s2, s2 = if a.sw then switchS s1 a.on else s1 := ⟨_, rfl⟩
  have hr2 : rightB s2 = true := by rw [hs2]; split; exact right_switch hr1; exact hr1
  have hd2 : s2.delay = s.delay ∧ s2.hold = s.hold := by
    rw [hs2]; split
    · have := switch_kept s1 a.on; exact ⟨this.1.trans hd1.1, this.2.trans hd1.2⟩
    · exact hd1
  have ca := switch_ok s1 a.on hr1
  refine AWP.runL e tab_ok L6 300 rfl (by first | trivial | (simp [in64] <;> omega)) ?_
  refine AWP.joinN 1 (ε := Unit) (fun _ => ⟨apT D acts i last now ++ [(14, .ptr 3 0)], [(2, .box (sC s2)), (3, .box ((rowA a).map SV.d))], 4⟩) (fun _ => True) ?_ ?_
  rotate_left
  · intro Ψ1 fin1
    clear nxt fin
    rcases cases_b a.sw with h | h
    · rw [h, if_pos rfl] at hs2
      subst hs2
      refine AWP.runL e tab_ok L6 300 rfl (by first | trivial | (simp [in64] <;> omega)) ?_
      repeat (
        first
          | (refine AWP.askT rfl ?_; (first | (refine Told.t rfl ?_) | (refine Told.f rfl ?_) | (refine Told.t ?_ ?_; (focus assumption)) | (refine Told.f ?_ ?_; (focus assumption)) | (refine Told.t ?_ ?_; (focus (first | (simp; omega) | (simp [*]; done)); done)) | (refine Told.f ?_ ?_; (focus (first | (simp; omega) | (simp [*]; done)); done))); refine AWP.runL e tab_ok L6 300 rfl (by first | trivial | (simp [in64] <;> omega)) ?_)
          | (refine AWP.callQ e rfl rfl ?_; (first | refine CallQ.mk (ca) rfl rfl ?_); refine AWP.runL e tab_ok L6 300 rfl (by first | trivial | (simp [in64] <;> omega)) ?_)
          | (refine AWP.eq_agg e tab_ok rfl rfl rfl (.inl ⟨rfl, rfl⟩) ?_ 5 (by omega) rfl ?_ rfl rfl rfl rfl rfl rfl rfl ?_; (focus kernel_rfl); (focus kernel_rfl); refine AWP.runL e tab_ok L6 300 rfl (by first | trivial | (simp [in64] <;> omega)) ?_)
          | (refine AWP.eq_agg e tab_ok rfl rfl rfl (.inr ⟨rfl, rfl⟩) ?_ 5 (by omega) rfl ?_ rfl rfl rfl rfl rfl rfl rfl ?_; (focus kernel_rfl); (focus kernel_rfl); refine AWP.runL e tab_ok L6 300 rfl (by first | trivial | (simp [in64] <;> omega)) ?_)
        )
      refine AWP.less e ?_ ?_ ?_ ?_ ?_ (fin1 () trivial) <;> (repeat' (first | exact True.intro | (refine And.intro ?_ ?_) | rfl | assumption))
    · rw [h, if_neg (by simp)] at hs2
      subst hs2
      refine AWP.runL e tab_ok L6 300 rfl (by first | trivial | (simp [in64] <;> omega)) ?_
      repeat (
        first
          | (refine AWP.askT rfl ?_; (first | (refine Told.t rfl ?_) | (refine Told.f rfl ?_) | (refine Told.t ?_ ?_; (focus assumption)) | (refine Told.f ?_ ?_; (focus assumption)) | (refine Told.t ?_ ?_; (focus (first | (simp; omega) | (simp [*]; done)); done)) | (refine Told.f ?_ ?_; (focus (first | (simp; omega) | (simp [*]; done)); done))); refine AWP.runL e tab_ok L6 300 rfl (by first | trivial | (simp [in64] <;> omega)) ?_)
          | (refine AWP.eq_agg e tab_ok rfl rfl rfl (.inl ⟨rfl, rfl⟩) ?_ 5 (by omega) rfl ?_ rfl rfl rfl rfl rfl rfl rfl ?_; (focus kernel_rfl); (focus kernel_rfl); refine AWP.runL e tab_ok L6 300 rfl (by first | trivial | (simp [in64] <;> omega)) ?_)
          | (refine AWP.eq_agg e tab_ok rfl rfl rfl (.inr ⟨rfl, rfl⟩) ?_ 5 (by omega) rfl ?_ rfl rfl rfl rfl rfl rfl rfl ?_; (focus kernel_rfl); (focus kernel_rfl); refine AWP.runL e tab_ok L6 300 rfl (by first | trivial | (simp [in64] <;> omega)) ?_)
        )
      refine AWP.less e ?_ ?_ ?_ ?_ ?_ (fin1 () trivial) <;> (repeat' (first | exact True.intro | (refine And.intro ?_ ?_) | rfl | assumption))
  intro _ _
  clear ca hs2 hd1 hr1
  obtain ⟨T, hT, hm, m1, m2⟩ := mod20 a.ticks
  have hrr := right_run hr2 T
  have c1 := run_ok s2 T hr2 (by omega)
  have c2 := right_eff (runS s2 T)
  rw [hrr] at c2
  have hk := (run_kept s2 T).2.2.2
  have hb := out_mem s2 T
  have hlen := out_len s2 T
  obtain ⟨g1, g2, g3, g4, g5⟩ := run_sep (s := s2) (D := D) (last := last) (now := now) (by omega) (hd2.1.trans hd) (by rw [hd2.2]; exact (rightB_iff.1 hr).2.2.2.1.1) (by rw [hd2.2]; exact hh) b2 T
  rw [hd2.1, hd] at hk
  generalize runS s2 T = X at *
  generalize out s2 T = L at *
  clear hr2 hd2 hr hd hh
  refine AWP.runL e tab_ok L6 300 rfl (by first | trivial | (simp [in64] <;> omega)) ?_
  refine AWP.eqT 86 (.i T) rfl (congrArg SV.i hm) ?_
  refine AWP.eqT 19 (.i T) rfl (congrArg SV.i hm) ?_
  clear hm m1 m2
  repeat (
    first
      | (refine AWP.askT rfl ?_; (first | (refine Told.t rfl ?_) | (refine Told.f rfl ?_) | (refine Told.t ?_ ?_; (focus assumption)) | (refine Told.f ?_ ?_; (focus assumption)) | (refine Told.t ?_ ?_; (focus (first | (simp; omega) | (simp [*]; done)); done)) | (refine Told.f ?_ ?_; (focus (first | (simp; omega) | (simp [*]; done)); done))); refine AWP.runL e tab_ok L6 300 rfl (by first | trivial | (simp [in64] <;> omega)) ?_)
      | (refine AWP.callQ e rfl rfl ?_; (first | refine CallQ.mk (c1) rfl rfl ?_ | refine CallQ.mk (c2) rfl rfl ?_); refine AWP.runL e tab_ok L6 300 rfl (by first | trivial | (simp [in64] <;> omega)) ?_)
      | (refine AWP.eq_agg e tab_ok rfl rfl rfl (.inl ⟨rfl, rfl⟩) ?_ 5 (by omega) rfl ?_ rfl rfl rfl rfl rfl rfl rfl ?_; (focus kernel_rfl); (focus kernel_rfl); refine AWP.runL e tab_ok L6 300 rfl (by first | trivial | (simp [in64] <;> omega)) ?_)
      | (refine AWP.eq_agg e tab_ok rfl rfl rfl (.inr ⟨rfl, rfl⟩) ?_ 5 (by omega) rfl ?_ rfl rfl rfl rfl rfl rfl rfl ?_; (focus kernel_rfl); (focus kernel_rfl); refine AWP.runL e tab_ok L6 300 rfl (by first | trivial | (simp [in64] <;> omega)) ?_)
    )
  clear c1 c2
  refine AWP.loop (ι := Nat) (fun j => ⟨apT D acts i (lastOf now last (L.take j)) now ++ [(100, .i j), (99, .i (ints L).length), (98, .d (.sl 1 (ints L))), (19, .i T), (20, .ptr 4 0)], [(2, .box (sC s2)), (4, .box (sC X))], 5⟩)
    (fun j => j ≤ L.length ∧ -1000 ≤ lastOf now last (L.take j) ∧ lastOf now last (L.take j) ≤ 1000) (fun j => L.length - j) 0 ⟨Nat.zero_le _, b1, by show last ≤ 1000; omega⟩ ?_ ?_
  · intro g
    refine AWP.less e ?_ ?_ ?_ ?_ ?_ (g) <;> (repeat' (first | exact True.intro | (refine And.intro ?_ ?_) | rfl | assumption))
  rintro j Φ2 ⟨hj, k1, k2⟩ next
  refine AWP.runL e tab_ok L6 300 rfl (by first | trivial | (simp [in64] <;> omega)) ?_
  refine AWP.cond2 rfl (fun hlt => ?_) (fun hlt => ?_)
  rotate_left
  · have hlt : ¬ j < L.length := by simpa using hlt
    obtain rfl : j = L.length := by omega
    rw [List.take_length] at k1 k2 ⊢
    have nx := nxt (i + 1, X, lastOf now last L, now + T) ⟨by show i + 1 ≤ acts.length; omega, by show i + 1 ≤ 30; omega, hrr, hk, g3, k1, g2, by show 0 ≤ now + (T : Int); omega, by show now + (T : Int) ≤ 20 * ((i + 1 : Nat) : Int); omega⟩ (by show acts.length - (i + 1) < acts.length - i; omega)
    clear nxt fin next
    refine AWP.runL e tab_ok L6 300 rfl (by first | trivial | (simp [in64] <;> omega)) ?_
    refine AWP.less e ?_ ?_ ?_ ?_ ?_ (nx) <;> (repeat' (first | exact True.intro | (refine And.intro ?_ ?_) | rfl | assumption))
  have hlt : j < L.length := by simpa using hlt
  have g := g1 j hlt
  obtain ⟨k3, k4⟩ := hb L[j] (List.getElem_mem hlt)
  have key : lastOf now last (L.take (j + 1)) = now + L[j] := by rw [List.take_succ_eq_append_getElem hlt, lastOf_app]
  have nx := next (j + 1) ⟨hlt, by rw [key]; omega, by rw [key]; omega⟩ (by show L.length - (j + 1) < L.length - j; omega)
  rw [key] at nx
  clear nxt fin next key
  generalize lastOf now last (L.take j) = q at *
  refine AWP.runL e tab_ok L6 300 rfl (by first | trivial | (simp [in64] <;> omega)) ?_
  refine AWP.idx e tab_ok rfl rfl rfl rfl j rfl (el := [.v (.int .i64 L[j])]) (by simp [hlt]) ?_
  generalize L[j] = v at *
  refine AWP.runL e tab_ok L6 300 rfl (by first | trivial | (simp [in64] <;> omega)) ?_
  repeat (
    first
      | (refine AWP.askT rfl ?_; (first | (refine Told.t rfl ?_) | (refine Told.f rfl ?_) | (refine Told.t ?_ ?_; (focus assumption)) | (refine Told.f ?_ ?_; (focus assumption)) | (refine Told.t ?_ ?_; (focus (first | (simp; omega) | (simp [*]; done)); done)) | (refine Told.f ?_ ?_; (focus (first | (simp; omega) | (simp [*]; done)); done))); refine AWP.runL e tab_ok L6 300 rfl (by first | trivial | (simp [in64] <;> omega)) ?_)
      | (refine AWP.eq_agg e tab_ok rfl rfl rfl (.inl ⟨rfl, rfl⟩) ?_ 5 (by omega) rfl ?_ rfl rfl rfl rfl rfl rfl rfl ?_; (focus kernel_rfl); (focus kernel_rfl); refine AWP.runL e tab_ok L6 300 rfl (by first | trivial | (simp [in64] <;> omega)) ?_)
      | (refine AWP.eq_agg e tab_ok rfl rfl rfl (.inr ⟨rfl, rfl⟩) ?_ 5 (by omega) rfl ?_ rfl rfl rfl rfl rfl rfl rfl ?_; (focus kernel_rfl); (focus kernel_rfl); refine AWP.runL e tab_ok L6 300 rfl (by first | trivial | (simp [in64] <;> omega)) ?_)
    )
  refine AWP.less e ?_ ?_ ?_ ?_ ?_ (nx) <;> (repeat' (first | exact True.intro | (refine And.intro ?_ ?_) | rfl | assumption))

theorem apart_args (l : List SV) (h : Args tab 9 [23, 23, 3, 40] l) : Eff Try.prog 6 l [] 0 (fun r _ _ => r = .b true) := by
  obtain ⟨xs, _, rfl, hp, _, _, rfl, hq, _, _, rfl, ⟨z, rfl, _, _⟩, _, _, rfl, ⟨ys, rfl, hl, hy⟩, rfl⟩ := h
  obtain ⟨y, h1, _⟩ := wv_of hp
  obtain ⟨n, h2, _⟩ := wv_of hq
  obtain ⟨acts, rfl⟩ := acts_of ys hy
  show Eff Try.prog 6 [.agg (_ : List SV), .agg _, _, _] [] 0 _
  rw [h1, h2]
  exact apart_eff y n z acts (by simpa using hl)
end Go.Proofs.Ytaiejjfikdpccaa
