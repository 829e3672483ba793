import Derived.Test.YtjhfeeacdickbaaF11
open Go Go.Proofs Go.Sy
namespace Go.Proofs.Ytjhfeeacdickbaa

structure SeenV where
  f : FV
  good : Bool
  pat : Bool
abbrev rowS (s : SeenV) : List DV := [.v (.int .u32 (s.f.id.toNat : Int)), .v (.bool s.f.ext), .v (.bool s.f.rem), .v (.int .i64 s.f.dlc), .v (.string s.f.data), .v (.bool s.good), .v (.bool s.pat)]
theorem seen_of : ∀ (ys : List (List DV)), (∀ el ∈ ys, Tyd tab 8 40 el) → ∃ l : List SeenV, ys = l.map rowS
  | [], _ => ⟨[], rfl⟩
  | el :: ys, h => by
    obtain ⟨l, rfl⟩ := seen_of ys fun e he => h e (by simp [he])
    obtain ⟨_, _, rfl, ⟨_, _, rfl, ⟨id, rfl, a1, a2⟩, _, _, rfl, ⟨ext, rfl⟩, _, _, rfl, ⟨rem, rfl⟩, _, _, rfl, ⟨dlc, rfl, _, _⟩, _, _, rfl, ⟨data, rfl, _⟩, rfl⟩, _, _, rfl, ⟨good, rfl⟩, _, _, rfl, ⟨pat, rfl⟩, rfl⟩ := h el (by simp)
    obtain ⟨id, rfl⟩ := u32_of a1 a2
    exact ⟨⟨⟨id, ext, rem, dlc, data⟩, good, pat⟩ :: l, rfl⟩

theorem slp_match {t : TV} {D : ByteArray} {n : Int} (F : FV) : matchB (slp t D n) F = matchB (slp t D 0) F := rfl
theorem slp_pat {t : TV} {D : ByteArray} {n : Int} : patT (slp t D n) = slp t D n := rfl

set_option maxHeartbeats 4000000 in
set_option maxRecDepth 100000 in
theorem sleeps_eff (t : TV) (l : List SeenV) (hl : l.length ≤ 9223372036854775807) : Eff Try.prog 5 [tv t, .d (.sl 7 (l.map rowS))] [] 0 (fun r _ _ => r = .b true) := by
  obtain ⟨D, hD, hfew⟩ := few_eff t
  have hrr := rright_eff (slp t D 0)
  refine eff_of Try.func5 rfl rfl rfl fun cx e hP => ?_
  refine AWP.runL e tab_ok L5 300 rfl (by first | trivial | (simp [in64] <;> omega)) ?_
  rcases cases_b (rightB (slp t D 0)) with h | h <;> rw [h] at hrr
  rotate_left
  · repeat (
      first
        | (refine AWP.askT rfl ?_; (first | (refine Told.t rfl ?_) | (refine Told.f rfl ?_) | (refine Told.t ?_ ?_; (focus assumption)) | (refine Told.f ?_ ?_; (focus assumption)) | (refine Told.t ?_ ?_; (focus (first | (simp; omega) | (simp [*]; done)); done)) | (refine Told.f ?_ ?_; (focus (first | (simp; omega) | (simp [*]; done)); done))); refine AWP.runL e tab_ok L5 300 rfl (by first | trivial | (simp [in64] <;> omega)) ?_)
        | (refine AWP.callQ e rfl rfl ?_; (first | refine CallQ.mk (hfew) rfl rfl ?_ | refine CallQ.mk (hrr) rfl rfl ?_ | refine CallQ.mk (alive_eff) rfl rfl ?_); refine AWP.runL e tab_ok L5 300 rfl (by first | trivial | (simp [in64] <;> omega)) ?_)
        | (refine AWP.eq_agg e tab_ok rfl rfl rfl (.inl ⟨rfl, rfl⟩) ?_ 5 (by omega) rfl ?_ rfl rfl rfl rfl rfl rfl rfl ?_; (focus kernel_rfl); (focus kernel_rfl); refine AWP.runL e tab_ok L5 300 rfl (by first | trivial | (simp [in64] <;> omega)) ?_)
        | (refine AWP.eq_agg e tab_ok rfl rfl rfl (.inr ⟨rfl, rfl⟩) ?_ 5 (by omega) rfl ?_ rfl rfl rfl rfl rfl rfl rfl ?_; (focus kernel_rfl); (focus kernel_rfl); refine AWP.runL e tab_ok L5 300 rfl (by first | trivial | (simp [in64] <;> omega)) ?_)
      )
    refine AWP.ret e tab_ok rfl ?_
    rw [hP]
    all_goals first | rfl | (simp [strip]; done)
  have hR := rightB_iff.1 h
  have l1 : 1 ≤ t.lim := hR.l1
  have l2 : t.lim ≤ 255 := hR.l2
  repeat (
    first
      | (refine AWP.askT rfl ?_; (first | (refine Told.t rfl ?_) | (refine Told.f rfl ?_) | (refine Told.t ?_ ?_; (focus assumption)) | (refine Told.f ?_ ?_; (focus assumption)) | (refine Told.t ?_ ?_; (focus (first | (simp; omega) | (simp [*]; done)); done)) | (refine Told.f ?_ ?_; (focus (first | (simp; omega) | (simp [*]; done)); done))); refine AWP.runL e tab_ok L5 300 rfl (by first | trivial | (simp [in64] <;> omega)) ?_)
      | (refine AWP.callQ e rfl rfl ?_; (first | refine CallQ.mk (hfew) rfl rfl ?_ | refine CallQ.mk (hrr) rfl rfl ?_ | refine CallQ.mk (alive_eff) rfl rfl ?_); refine AWP.runL e tab_ok L5 300 rfl (by first | trivial | (simp [in64] <;> omega)) ?_)
      | (refine AWP.eq_agg e tab_ok rfl rfl rfl (.inl ⟨rfl, rfl⟩) ?_ 5 (by omega) rfl ?_ rfl rfl rfl rfl rfl rfl rfl ?_; (focus kernel_rfl); (focus kernel_rfl); refine AWP.runL e tab_ok L5 300 rfl (by first | trivial | (simp [in64] <;> omega)) ?_)
      | (refine AWP.eq_agg e tab_ok rfl rfl rfl (.inr ⟨rfl, rfl⟩) ?_ 5 (by omega) rfl ?_ rfl rfl rfl rfl rfl rfl rfl ?_; (focus kernel_rfl); (focus kernel_rfl); refine AWP.runL e tab_ok L5 300 rfl (by first | trivial | (simp [in64] <;> omega)) ?_)
    )
  clear hrr hfew hR
  refine AWP.loopX (ι := Nat × Int) (ε := Int) (fun x => ⟨[(41, .i x.1), (40, .i l.length), (39, .d (.sl 7 (l.map rowS))), (2, .ptr 0 0), (5, .ptr 1 0), (6, .i x.2)], [(0, .box (tC (slp t D 0))), (1, .box (tC (slp t D x.2)))], 2⟩)
    (fun x => x.1 ≤ l.length ∧ 0 ≤ x.2 ∧ x.2 ≤ t.lim) (fun x => l.length - x.1) (0, 0) ⟨Nat.zero_le _, Int.le_refl 0, by show (0 : Int) ≤ t.lim; omega⟩
    (fun n => ⟨[(5, .ptr 1 0)], [(1, .box (tC (slp t D n)))], 2⟩) (fun n => 0 ≤ n ∧ n ≤ t.lim) ?_ ?_ ?_
  · rintro n ⟨n1, n2⟩
    have hloc := local_eff (slp t D n) (slp_right h n1 n2)
    have e2 : locT (slp t D n) = { slp t D n with loc := true } := by simp [locT]
    rw [e2, show woke (slp t D n) { slp t D n with loc := true } = true from rfl] at hloc
    have hw := wokenr { slp t D n with loc := true } (by rw [← e2]; exact locT_right (slp_right h n1 n2))
    refine AWP.runL e tab_ok L5 300 rfl (by first | trivial | (simp [in64] <;> omega)) ?_
    repeat (
      first
        | (refine AWP.askT rfl ?_; (first | (refine Told.t rfl ?_) | (refine Told.f rfl ?_) | (refine Told.t ?_ ?_; (focus assumption)) | (refine Told.f ?_ ?_; (focus assumption)) | (refine Told.t ?_ ?_; (focus (first | (simp; omega) | (simp [*]; done)); done)) | (refine Told.f ?_ ?_; (focus (first | (simp; omega) | (simp [*]; done)); done))); refine AWP.runL e tab_ok L5 300 rfl (by first | trivial | (simp [in64] <;> omega)) ?_)
        | (refine AWP.callQ e rfl rfl ?_; (first | refine CallQ.mk (hloc) rfl rfl ?_ | refine CallQ.mk (hw) rfl rfl ?_); refine AWP.runL e tab_ok L5 300 rfl (by first | trivial | (simp [in64] <;> omega)) ?_)
        | (refine AWP.eq_agg e tab_ok rfl rfl rfl (.inl ⟨rfl, rfl⟩) ?_ 5 (by omega) rfl ?_ rfl rfl rfl rfl rfl rfl rfl ?_; (focus kernel_rfl); (focus kernel_rfl); refine AWP.runL e tab_ok L5 300 rfl (by first | trivial | (simp [in64] <;> omega)) ?_)
        | (refine AWP.eq_agg e tab_ok rfl rfl rfl (.inr ⟨rfl, rfl⟩) ?_ 5 (by omega) rfl ?_ rfl rfl rfl rfl rfl rfl rfl ?_; (focus kernel_rfl); (focus kernel_rfl); refine AWP.runL e tab_ok L5 300 rfl (by first | trivial | (simp [in64] <;> omega)) ?_)
      )
    refine AWP.ret e tab_ok rfl ?_
    rw [hP]
    all_goals first | rfl | (simp [strip]; done)
  · intro kk g
    refine AWP.less e ?_ ?_ ?_ ?_ ?_ (g) <;> (repeat' (first | exact True.intro | (refine And.intro ?_ ?_) | rfl | assumption))
    exact congrArg (fun z => some (SV.i z)) (by simp)
  rintro ⟨i, n⟩ Φ Ψ ⟨hI, n1, n2⟩ next fin
  have hI : i ≤ l.length := hI
  have n1 : 0 ≤ n := n1
  have n2 : n ≤ t.lim := n2
  have hnr := slp_right h n1 n2
  refine AWP.runL e tab_ok L5 300 rfl (by first | trivial | (simp [in64] <;> omega)) ?_
  refine AWP.cond2 rfl (fun hlt => ?_) (fun hlt => ?_)
  rotate_left
  · refine AWP.runL e tab_ok L5 300 rfl (by first | trivial | (simp [in64] <;> omega)) ?_
    refine AWP.less e ?_ ?_ ?_ ?_ ?_ (fin n ⟨n1, n2⟩) <;> (repeat' (first | exact True.intro | (refine And.intro ?_ ?_) | rfl | assumption))
  have hlt : i < l.length := by simp at hlt; omega
  obtain ⟨s, hs⟩ : ∃ s, s = l[i] := ⟨_, rfl⟩
  refine AWP.runL e tab_ok L5 300 rfl (by first | trivial | (simp [in64] <;> omega)) ?_
  refine AWP.idx e tab_ok rfl rfl rfl rfl i rfl (el := rowS s) (by rw [hs]; simp [hlt]) ?_
  clear hs
  refine AWP.runL e tab_ok L5 300 rfl (by first | trivial | (simp [in64] <;> omega)) ?_
  refine AWP.cond2 rfl (fun hq => ?_) (fun hq => ?_)
  · refine AWP.runL e tab_ok L5 300 rfl (by first | trivial | (simp [in64] <;> omega)) ?_
    refine AWP.less e ?_ ?_ ?_ ?_ ?_ (fin n ⟨n1, n2⟩) <;> (repeat' (first | exact True.intro | (refine And.intro ?_ ?_) | rfl | assumption))
  clear hq
  refine AWP.runL e tab_ok L5 300 rfl (by first | trivial | (simp [] <;> omega)) ?_
  obtain ⟨E, hE, _⟩ := extract_le s.f.data
  refine AWP.eqH 2 [U32 s.f.id, .b s.f.ext, .b s.f.rem, .i s.f.dlc, .s E, .b s.good, .b s.pat] rfl (congrArg (fun d => [U32 s.f.id, SV.b s.f.ext, .b s.f.rem, .i s.f.dlc, .s d, .b s.good, .b s.pat]) hE) ?_
  clear hE
  obtain ⟨F, hF⟩ : ∃ F : FV, F = ⟨s.f.id, s.f.ext, s.f.rem, s.f.dlc, E⟩ := ⟨_, rfl⟩
  have nx := fun m (h1 : 0 ≤ m) (h2 : m ≤ t.lim) => next (i + 1, m) ⟨hlt, h1, h2⟩ (by show l.length - (i + 1) < l.length - i; omega)
  have hm := rmatch_eff (slp t D 0) F h
  have hwn := wokenr (slp t D n) hnr
  rw [show woken (slp t D n) = false from rfl] at hwn
  rcases cases_b s.pat with a1 | a1
  · have hc := pattern_eff (slp t D n) hnr
    rw [slp_pat, woke_no] at hc
    have nx := nx n n1 n2
    repeat (
      first
        | (refine AWP.askT rfl ?_; (first | (refine Told.t rfl ?_) | (refine Told.f rfl ?_) | (refine Told.t ?_ ?_; (focus assumption)) | (refine Told.f ?_ ?_; (focus assumption)) | (refine Told.t ?_ ?_; (focus (first | (simp; omega) | (simp [*]; done)); done)) | (refine Told.f ?_ ?_; (focus (first | (simp; omega) | (simp [*]; done)); done))); refine AWP.runL e tab_ok L5 300 rfl (by first | trivial | (simp [in64] <;> omega)) ?_)
        | (refine AWP.callQ e rfl rfl ?_; (first | refine CallQ.mk (hc) rfl rfl ?_ | refine CallQ.mk (hwn) rfl rfl ?_); refine AWP.runL e tab_ok L5 300 rfl (by first | trivial | (simp [in64] <;> omega)) ?_)
        | (refine AWP.eq_agg e tab_ok rfl rfl rfl (.inl ⟨rfl, rfl⟩) ?_ 5 (by omega) rfl ?_ rfl rfl rfl rfl rfl rfl rfl ?_; (focus kernel_rfl); (focus kernel_rfl); refine AWP.runL e tab_ok L5 300 rfl (by first | trivial | (simp [in64] <;> omega)) ?_)
        | (refine AWP.eq_agg e tab_ok rfl rfl rfl (.inr ⟨rfl, rfl⟩) ?_ 5 (by omega) rfl ?_ rfl rfl rfl rfl rfl rfl rfl ?_; (focus kernel_rfl); (focus kernel_rfl); refine AWP.runL e tab_ok L5 300 rfl (by first | trivial | (simp [in64] <;> omega)) ?_)
      )
    refine AWP.less e ?_ ?_ ?_ ?_ ?_ (nx) <;> (repeat' (first | exact True.intro | (refine And.intro ?_ ?_) | rfl | assumption))
  rcases cases_b s.good with a2 | a2
  · have hc := saw_eff (slp t D n) F true hnr
    rw [slp_match] at hc
    rcases cases_b (matchB (slp t D 0) F) with a3 | a3 <;> rw [a3] at hm hc
    · have e1 : sawT (slp t D n) true true = { slp t D (dn n) with fr := true } := by simp [sawT]
      rw [e1, show woke (slp t D n) { slp t D (dn n) with fr := true } = true from rfl] at hc
      have nx := nx n n1 n2
      subst hF
      repeat (
        first
          | (refine AWP.askT rfl ?_; (first | (refine Told.t rfl ?_) | (refine Told.f rfl ?_) | (refine Told.t ?_ ?_; (focus assumption)) | (refine Told.f ?_ ?_; (focus assumption)) | (refine Told.t ?_ ?_; (focus (first | (simp; omega) | (simp [*]; done)); done)) | (refine Told.f ?_ ?_; (focus (first | (simp; omega) | (simp [*]; done)); done))); refine AWP.runL e tab_ok L5 300 rfl (by first | trivial | (simp [in64] <;> omega)) ?_)
          | (refine AWP.callQ e rfl rfl ?_; (first | refine CallQ.mk (hm) rfl rfl ?_ | refine CallQ.mk (hc) rfl rfl ?_); refine AWP.runL e tab_ok L5 300 rfl (by first | trivial | (simp [in64] <;> omega)) ?_)
          | (refine AWP.eq_agg e tab_ok rfl rfl rfl (.inl ⟨rfl, rfl⟩) ?_ 5 (by omega) rfl ?_ rfl rfl rfl rfl rfl rfl rfl ?_; (focus kernel_rfl); (focus kernel_rfl); refine AWP.runL e tab_ok L5 300 rfl (by first | trivial | (simp [in64] <;> omega)) ?_)
          | (refine AWP.eq_agg e tab_ok rfl rfl rfl (.inr ⟨rfl, rfl⟩) ?_ 5 (by omega) rfl ?_ rfl rfl rfl rfl rfl rfl rfl ?_; (focus kernel_rfl); (focus kernel_rfl); refine AWP.runL e tab_ok L5 300 rfl (by first | trivial | (simp [in64] <;> omega)) ?_)
        )
      refine AWP.less e ?_ ?_ ?_ ?_ ?_ (nx) <;> (repeat' (first | exact True.intro | (refine And.intro ?_ ?_) | rfl | assumption))
    · have d1 : 0 ≤ dn n ∧ dn n ≤ t.lim := by unfold dn; split <;> omega
      have hwn := wokenr (slp t D (dn n)) (slp_right h d1.1 d1.2)
      rw [show woken (slp t D (dn n)) = false from rfl] at hwn
      rw [slp_good, woke_no] at hc
      have nx := nx (dn n) d1.1 d1.2
      have hd : (dn n != (if 0 > n - 1 then 0 else n - 1)) = false := by unfold dn; simp
      subst hF
      repeat (
        first
          | (refine AWP.askT rfl ?_; (first | (refine Told.t rfl ?_) | (refine Told.f rfl ?_) | (refine Told.t ?_ ?_; (focus assumption)) | (refine Told.f ?_ ?_; (focus assumption)) | (refine Told.t ?_ ?_; (focus (first | (simp; omega) | (simp [*]; done)); done)) | (refine Told.f ?_ ?_; (focus (first | (simp; omega) | (simp [*]; done)); done))); refine AWP.runL e tab_ok L5 300 rfl (by first | trivial | (simp [in64] <;> omega)) ?_)
          | (refine AWP.callQ e rfl rfl ?_; (first | refine CallQ.mk (hm) rfl rfl ?_ | refine CallQ.mk (hc) rfl rfl ?_ | refine CallQ.mk (hwn) rfl rfl ?_); refine AWP.runL e tab_ok L5 300 rfl (by first | trivial | (simp [in64] <;> omega)) ?_)
          | (refine AWP.eq_agg e tab_ok rfl rfl rfl (.inl ⟨rfl, rfl⟩) ?_ 5 (by omega) rfl ?_ rfl rfl rfl rfl rfl rfl rfl ?_; (focus kernel_rfl); (focus kernel_rfl); refine AWP.runL e tab_ok L5 300 rfl (by first | trivial | (simp [in64] <;> omega)) ?_)
          | (refine AWP.eq_agg e tab_ok rfl rfl rfl (.inr ⟨rfl, rfl⟩) ?_ 5 (by omega) rfl ?_ rfl rfl rfl rfl rfl rfl rfl ?_; (focus kernel_rfl); (focus kernel_rfl); refine AWP.runL e tab_ok L5 300 rfl (by first | trivial | (simp [in64] <;> omega)) ?_)
        )
      refine AWP.less e ?_ ?_ ?_ ?_ ?_ (nx) <;> (repeat' (first | exact True.intro | (refine And.intro ?_ ?_) | rfl | assumption))
  · have hc := saw_eff (slp t D n) F false hnr
    by_cases a3 : n = t.lim
    · rw [slp_over _ a3, show woke (slp t D n) { slp t D 0 with ovr := true } = true from rfl] at hc
      have nx := nx n n1 n2
      subst hF
      repeat (
        first
          | (refine AWP.askT rfl ?_; (first | (refine Told.t rfl ?_) | (refine Told.f rfl ?_) | (refine Told.t ?_ ?_; (focus assumption)) | (refine Told.f ?_ ?_; (focus assumption)) | (refine Told.t ?_ ?_; (focus (first | (simp; omega) | (simp [*]; done)); done)) | (refine Told.f ?_ ?_; (focus (first | (simp; omega) | (simp [*]; done)); done))); refine AWP.runL e tab_ok L5 300 rfl (by first | trivial | (simp [in64] <;> omega)) ?_)
          | (refine AWP.callQ e rfl rfl ?_; (first | refine CallQ.mk (hm) rfl rfl ?_ | refine CallQ.mk (hc) rfl rfl ?_); refine AWP.runL e tab_ok L5 300 rfl (by first | trivial | (simp [in64] <;> omega)) ?_)
          | (refine AWP.eq_agg e tab_ok rfl rfl rfl (.inl ⟨rfl, rfl⟩) ?_ 5 (by omega) rfl ?_ rfl rfl rfl rfl rfl rfl rfl ?_; (focus kernel_rfl); (focus kernel_rfl); refine AWP.runL e tab_ok L5 300 rfl (by first | trivial | (simp [in64] <;> omega)) ?_)
          | (refine AWP.eq_agg e tab_ok rfl rfl rfl (.inr ⟨rfl, rfl⟩) ?_ 5 (by omega) rfl ?_ rfl rfl rfl rfl rfl rfl rfl ?_; (focus kernel_rfl); (focus kernel_rfl); refine AWP.runL e tab_ok L5 300 rfl (by first | trivial | (simp [in64] <;> omega)) ?_)
        )
      refine AWP.less e ?_ ?_ ?_ ?_ ?_ (nx) <;> (repeat' (first | exact True.intro | (refine And.intro ?_ ?_) | rfl | assumption))
    · rw [slp_err _ a3, woke_no] at hc
      have hwn := wokenr (slp t D (n + 1)) (slp_right h (by omega) (by omega))
      rw [show woken (slp t D (n + 1)) = false from rfl] at hwn
      have nx := nx (n + 1) (by omega) (by omega)
      subst hF
      repeat (
        first
          | (refine AWP.askT rfl ?_; (first | (refine Told.t rfl ?_) | (refine Told.f rfl ?_) | (refine Told.t ?_ ?_; (focus assumption)) | (refine Told.f ?_ ?_; (focus assumption)) | (refine Told.t ?_ ?_; (focus (first | (simp; omega) | (simp [*]; done)); done)) | (refine Told.f ?_ ?_; (focus (first | (simp; omega) | (simp [*]; done)); done))); refine AWP.runL e tab_ok L5 300 rfl (by first | trivial | (simp [in64] <;> omega)) ?_)
          | (refine AWP.callQ e rfl rfl ?_; (first | refine CallQ.mk (hm) rfl rfl ?_ | refine CallQ.mk (hc) rfl rfl ?_ | refine CallQ.mk (hwn) rfl rfl ?_); refine AWP.runL e tab_ok L5 300 rfl (by first | trivial | (simp [in64] <;> omega)) ?_)
          | (refine AWP.eq_agg e tab_ok rfl rfl rfl (.inl ⟨rfl, rfl⟩) ?_ 5 (by omega) rfl ?_ rfl rfl rfl rfl rfl rfl rfl ?_; (focus kernel_rfl); (focus kernel_rfl); refine AWP.runL e tab_ok L5 300 rfl (by first | trivial | (simp [in64] <;> omega)) ?_)
          | (refine AWP.eq_agg e tab_ok rfl rfl rfl (.inr ⟨rfl, rfl⟩) ?_ 5 (by omega) rfl ?_ rfl rfl rfl rfl rfl rfl rfl ?_; (focus kernel_rfl); (focus kernel_rfl); refine AWP.runL e tab_ok L5 300 rfl (by first | trivial | (simp [in64] <;> omega)) ?_)
        )
      refine AWP.less e ?_ ?_ ?_ ?_ ?_ (nx) <;> (repeat' (first | exact True.intro | (refine And.intro ?_ ?_) | rfl | assumption))

theorem sleeps_args (l : List SV) (h : Args tab 9 [24, 38] l) : Eff Try.prog 5 l [] 0 (fun r _ _ => r = .b true) := by
  obtain ⟨xs, _, rfl, hp, _, _, rfl, ⟨ys, rfl, hl, hy⟩, rfl⟩ := h
  obtain ⟨t, ht⟩ := tv_of hp
  obtain ⟨ss, rfl⟩ := seen_of ys hy
  show Eff Try.prog 5 [.agg (xs.map SV.d), _] [] 0 _
  rw [ht]
  exact sleeps_eff t ss (by simpa using hl)
end Go.Proofs.Ytjhfeeacdickbaa
