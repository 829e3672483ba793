import Derived.Test.YtokhongbpnkinaaDoorF6
open Go Go.Proofs Go.Sy Go.Pulse
namespace Go.Proofs.YtokhongbpnkinaaDoor

theorem cut_str (l : List UInt8) (N : Nat) : (strL l).extract 0 (if (N : Int) < ((strL l).size : Int) then (N : Int) else ((strL l).size : Int)).toNat = strL (l.take N) := by
  rw [strL_size]
  have : (if (N : Int) < (l.length : Int) then (N : Int) else (l.length : Int)).toNat = min N l.length := by split <;> omega
  rw [this]
  apply ByteArray.ext
  simp [strL]
theorem find_form (mn mx : Int) (x : X) (l : List UInt8) : ∃ a b : Int, findR mn mx x l = .tup [.i a, .i b] := by
  unfold findR
  split <;> exact ⟨_, _, rfl⟩
set_option maxRecDepth 100000 in
set_option maxHeartbeats 2000000 in
theorem pcuts_ok (mn mx : Int) (x : X) (s l : List UInt8) (hl : l.length ≤ 500) (hcut : (strL s).extract 0 (if (500 : Int) < ((strL s).size : Int) then (500 : Int) else ((strL s).size : Int)).toNat = strL l) : Eff Tryd.prog 4 [.agg (pC mn mx x), .s (strL s)] [] 0 (fun r _ _ => r = .b true) := by
  have al := alive_eff
  have w := refright_eff l (by omega)
  have c1 := pright_eff mn mx x
  have hsz : (strL l).size = l.length := strL_size l
  by_cases hbad : rightP mn mx x = false ∨ wellB l = false
  · have c2 := find_bad mn mx x l hbad
    unfold pC at c1 c2 ⊢
    refine eff_of Tryd.func4 rfl rfl rfl fun cx e hP => ?_
    rcases cases_b (rightP mn mx x) with q | q <;> rw [q] at c1
    · have h : wellB l = false := by rcases hbad with h | h; (rw [q] at h; cases h); exact h
      rw [h] at w
      refine AWP.runL e tab_ok L4 300 rfl (by first | trivial | (simp [] <;> omega) | (simp only [in64, true_and, and_true]; omega)) ?_
      refine AWP.eqT 1 (.s (strL l)) rfl (congrArg SV.s hcut) ?_
      refine AWP.eqT 18 (.s (strL l)) rfl (congrArg SV.s hcut) ?_
      clear hcut
      repeat (
        first
          | (refine AWP.askT rfl ?_; (first | (refine Told.t rfl ?_) | (refine Told.f rfl ?_) | (refine Told.t ?_ ?_; (focus assumption)) | (refine Told.f ?_ ?_; (focus assumption)) | (refine Told.t ?_ ?_; (focus (first | (simp; omega) | (simp [*]; done)); done)) | (refine Told.f ?_ ?_; (focus (first | (simp; omega) | (simp [*]; done)); done))); refine AWP.runL e tab_ok L4 300 rfl (by first | trivial | (simp [in64] <;> omega) | (simp only [in64, true_and, and_true]; omega)) ?_)
          | (refine AWP.callQ e rfl rfl ?_; (first | refine CallQ.mk (c1) rfl rfl ?_ | refine CallQ.mk (c2) rfl rfl ?_ | refine CallQ.mk (w) rfl rfl ?_ | refine CallQ.mk (al) rfl rfl ?_); refine AWP.runL e tab_ok L4 300 rfl (by first | trivial | (simp [in64] <;> omega) | (simp only [in64, true_and, and_true]; omega)) ?_)
          | (refine AWP.eq_agg e tab_ok rfl rfl rfl (.inl ⟨rfl, rfl⟩) ?_ 5 (by omega) rfl ?_ rfl rfl rfl rfl rfl rfl rfl ?_; (focus kernel_rfl); (focus kernel_rfl); refine AWP.runL e tab_ok L4 300 rfl (by first | trivial | (simp [in64] <;> omega) | (simp only [in64, true_and, and_true]; omega)) ?_)
          | (refine AWP.eq_agg e tab_ok rfl rfl rfl (.inr ⟨rfl, rfl⟩) ?_ 5 (by omega) rfl ?_ rfl rfl rfl rfl rfl rfl rfl ?_; (focus kernel_rfl); (focus kernel_rfl); refine AWP.runL e tab_ok L4 300 rfl (by first | trivial | (simp [in64] <;> omega) | (simp only [in64, true_and, and_true]; omega)) ?_)
        )
      refine AWP.ret e tab_ok rfl ?_
      rw [hP]
      all_goals first | rfl | (simp [strip]; done)
    · refine AWP.runL e tab_ok L4 300 rfl (by first | trivial | (simp [] <;> omega) | (simp only [in64, true_and, and_true]; omega)) ?_
      refine AWP.eqT 1 (.s (strL l)) rfl (congrArg SV.s hcut) ?_
      refine AWP.eqT 18 (.s (strL l)) rfl (congrArg SV.s hcut) ?_
      clear hcut
      repeat (
        first
          | (refine AWP.askT rfl ?_; (first | (refine Told.t rfl ?_) | (refine Told.f rfl ?_) | (refine Told.t ?_ ?_; (focus assumption)) | (refine Told.f ?_ ?_; (focus assumption)) | (refine Told.t ?_ ?_; (focus (first | (simp; omega) | (simp [*]; done)); done)) | (refine Told.f ?_ ?_; (focus (first | (simp; omega) | (simp [*]; done)); done))); refine AWP.runL e tab_ok L4 300 rfl (by first | trivial | (simp [in64] <;> omega) | (simp only [in64, true_and, and_true]; omega)) ?_)
          | (refine AWP.callQ e rfl rfl ?_; (first | refine CallQ.mk (c1) rfl rfl ?_ | refine CallQ.mk (c2) rfl rfl ?_ | refine CallQ.mk (w) rfl rfl ?_ | refine CallQ.mk (al) rfl rfl ?_); refine AWP.runL e tab_ok L4 300 rfl (by first | trivial | (simp [in64] <;> omega) | (simp only [in64, true_and, and_true]; omega)) ?_)
          | (refine AWP.eq_agg e tab_ok rfl rfl rfl (.inl ⟨rfl, rfl⟩) ?_ 5 (by omega) rfl ?_ rfl rfl rfl rfl rfl rfl rfl ?_; (focus kernel_rfl); (focus kernel_rfl); refine AWP.runL e tab_ok L4 300 rfl (by first | trivial | (simp [in64] <;> omega) | (simp only [in64, true_and, and_true]; omega)) ?_)
          | (refine AWP.eq_agg e tab_ok rfl rfl rfl (.inr ⟨rfl, rfl⟩) ?_ 5 (by omega) rfl ?_ rfl rfl rfl rfl rfl rfl rfl ?_; (focus kernel_rfl); (focus kernel_rfl); refine AWP.runL e tab_ok L4 300 rfl (by first | trivial | (simp [in64] <;> omega) | (simp only [in64, true_and, and_true]; omega)) ?_)
        )
      refine AWP.ret e tab_ok rfl ?_
      rw [hP]
      all_goals first | rfl | (simp [strip]; done)
  · have hr : rightP mn mx x = true := by
      rcases cases_b (rightP mn mx x) with q | q
      · exact q
      · exact absurd (.inl q) hbad
    have hw : wellB l = true := by
      rcases cases_b (wellB l) with q | q
      · exact q
      · exact absurd (.inr q) hbad
    clear hbad
    have c2 := find_ok mn mx x l hr hw
    rw [hr] at c1
    rw [hw] at w
    obtain ⟨A, B, hAB⟩ := find_form mn mx x l
    rw [hAB] at c2
    unfold pC at c1 c2 ⊢
    refine eff_of Tryd.func4 rfl rfl rfl fun cx e hP => ?_
    refine AWP.runL e tab_ok L4 300 rfl (by first | trivial | (simp [] <;> omega) | (simp only [in64, true_and, and_true]; omega)) ?_
    refine AWP.eqT 1 (.s (strL l)) rfl (congrArg SV.s hcut) ?_
    refine AWP.eqT 18 (.s (strL l)) rfl (congrArg SV.s hcut) ?_
    clear hcut
    repeat (
      first
        | (refine AWP.askT rfl ?_; (first | (refine Told.t rfl ?_) | (refine Told.f rfl ?_) | (refine Told.t ?_ ?_; (focus assumption)) | (refine Told.f ?_ ?_; (focus assumption)) | (refine Told.t ?_ ?_; (focus (first | (simp; omega) | (simp [*]; done)); done)) | (refine Told.f ?_ ?_; (focus (first | (simp; omega) | (simp [*]; done)); done))); refine AWP.runL e tab_ok L4 300 rfl (by first | trivial | (simp [in64] <;> omega) | (simp only [in64, true_and, and_true]; omega)) ?_)
        | (refine AWP.callQ e rfl rfl ?_; (first | refine CallQ.mk (c1) rfl rfl ?_ | refine CallQ.mk (c2) rfl rfl ?_ | refine CallQ.mk (w) rfl rfl ?_ | refine CallQ.mk (al) rfl rfl ?_); refine AWP.runL e tab_ok L4 300 rfl (by first | trivial | (simp [in64] <;> omega) | (simp only [in64, true_and, and_true]; omega)) ?_)
        | (refine AWP.eq_agg e tab_ok rfl rfl rfl (.inl ⟨rfl, rfl⟩) ?_ 5 (by omega) rfl ?_ rfl rfl rfl rfl rfl rfl rfl ?_; (focus kernel_rfl); (focus kernel_rfl); refine AWP.runL e tab_ok L4 300 rfl (by first | trivial | (simp [in64] <;> omega) | (simp only [in64, true_and, and_true]; omega)) ?_)
        | (refine AWP.eq_agg e tab_ok rfl rfl rfl (.inr ⟨rfl, rfl⟩) ?_ 5 (by omega) rfl ?_ rfl rfl rfl rfl rfl rfl rfl ?_; (focus kernel_rfl); (focus kernel_rfl); refine AWP.runL e tab_ok L4 300 rfl (by first | trivial | (simp [in64] <;> omega) | (simp only [in64, true_and, and_true]; omega)) ?_)
      )
    refine AWP.loop (ι := Nat × X) (fun y => ⟨[(41, .i y.1), (40, .i (strL l).size), (6, .i B), (5, .i A), (2, .ptr 0 0), (1, .s (strL l))], [(0, .box [.i mn, .i mx, .i y.2.1, .i y.2.2.1, .i y.2.2.2])], 1⟩) (fun y => y.1 ≤ l.length ∧ fnd mn mx x (l.take y.1) = 0 ∧ run mn mx x (l.take y.1) = y.2) (fun y => l.length - y.1) (0, x) ⟨Nat.zero_le _, rfl, rfl⟩ ?_ ?_
    · intro g
      refine AWP.less e ?_ ?_ ?_ ?_ ?_ (g) <;> (repeat' (first | exact True.intro | (refine And.intro ?_ ?_) | rfl | assumption))
    rintro ⟨i, ⟨st, n, ag⟩⟩ Φ ⟨hi, h0, hx⟩ next
    dsimp only at hi h0 hx next ⊢
    refine AWP.runL e tab_ok L4 300 rfl (by first | trivial | (simp [in64] <;> omega) | (simp only [in64, true_and, and_true]; omega)) ?_
    refine AWP.cond2 rfl (fun hlt => ?_) (fun hlt => ?_)
    · have hlt : i < l.length := by have := of_decide_eq_true hlt; omega
      have nx := fun (p : X) hp hq => next (i + 1, p) ⟨hlt, hp, hq⟩ (by show l.length - (i + 1) < l.length - i; omega)
      dsimp only at nx
      have hb := b_G l hlt
      have hhit := fnd_hit hlt h0
      have hmiss := fnd_miss hlt h0
      have hrr := right_run (l.take i) x hr
      rw [hx] at hhit hmiss hrr
      have c3 := pstep_ok mn mx (st, n, ag) l[i] hrr (well_bit hw _ (List.getElem_mem hlt))
      have hr2 := right_stp (c := l[i]) hrr
      have hdone := stp_done (mn := mn) (mx := mx) (x := (st, n, ag)) (c := l[i])
      have c4 := pright_eff mn mx (stp mn mx (st, n, ag) l[i]).1
      rw [hr2] at c4
      generalize stp mn mx (st, n, ag) l[i] = y at *
      obtain ⟨⟨st', n', ag'⟩, is⟩ := y
      unfold pC at c3 c4
      dsimp only at c3 c4 hhit hmiss hdone
      clear next hr2
      generalize l[i] = c at *
      cases is
      · obtain ⟨h1, h2⟩ := hmiss rfl
        refine AWP.runL e tab_ok L4 300 rfl (by first | trivial | (simp [in64] <;> omega) | (simp only [in64, true_and, and_true]; omega)) ?_
        refine AWP.keep L4 rfl ?_
        refine AWP.drg 100 ?_
        (refine DrG.runS e tab_ok 200 rfl (by first | trivial | (simp [] <;> omega) | (simp only [in64, true_and, and_true]; omega)) ?_)
        repeat (
          first
            | (refine DrG.askT rfl ?_; (first | (refine Told.t rfl ?_) | (refine Told.f rfl ?_) | (refine Told.t ?_ ?_; (focus assumption)) | (refine Told.f ?_ ?_; (focus assumption)) | (refine Told.t ?_ ?_; (focus (first | (simp; omega) | (simp [*]; done)); done)) | (refine Told.f ?_ ?_; (focus (first | (simp; omega) | (simp [*]; done)); done))); (refine DrG.runS e tab_ok 200 rfl (by first | trivial | (simp [in64] <;> omega) | (simp only [in64, true_and, and_true]; omega)) ?_))
            | (refine DrG.eq_agg e tab_ok rfl rfl rfl (.inl ⟨rfl, rfl⟩) ?_ 5 (by omega) rfl ?_ rfl rfl rfl rfl rfl rfl rfl ?_; (focus kernel_rfl); (focus kernel_rfl); (refine DrG.runS e tab_ok 200 rfl (by first | trivial | (simp [in64] <;> omega) | (simp only [in64, true_and, and_true]; omega)) ?_))
            | (refine DrG.eq_aggGo e tab_ok rfl rfl rfl rfl (.inl ⟨rfl, rfl⟩) ?_ 5 (by omega) rfl ?_ rfl rfl rfl rfl rfl rfl rfl ?_; (focus kernel_rfl); (focus kernel_rfl); (refine DrG.runS e tab_ok 200 rfl (by first | trivial | (simp [in64] <;> omega) | (simp only [in64, true_and, and_true]; omega)) ?_))
            | (refine DrG.eq_agg e tab_ok rfl rfl rfl (.inr ⟨rfl, rfl⟩) ?_ 5 (by omega) rfl ?_ rfl rfl rfl rfl rfl rfl rfl ?_; (focus kernel_rfl); (focus kernel_rfl); (refine DrG.runS e tab_ok 200 rfl (by first | trivial | (simp [in64] <;> omega) | (simp only [in64, true_and, and_true]; omega)) ?_))
            | (refine DrG.eq_aggGo e tab_ok rfl rfl rfl rfl (.inr ⟨rfl, rfl⟩) ?_ 5 (by omega) rfl ?_ rfl rfl rfl rfl rfl rfl rfl ?_; (focus kernel_rfl); (focus kernel_rfl); (refine DrG.runS e tab_ok 200 rfl (by first | trivial | (simp [in64] <;> omega) | (simp only [in64, true_and, and_true]; omega)) ?_))
          )
        refine DrG.eqV (x' := U c) (congrArg (fun z => SV.d (.v (.int .u8 z))) hb) ?_
        (refine DrG.runS e tab_ok 200 rfl (by first | trivial | (simp [in64] <;> omega) | (simp only [in64, true_and, and_true]; omega)) ?_)
        repeat (
          first
            | (refine DrG.askT rfl ?_; (first | (refine Told.t rfl ?_) | (refine Told.f rfl ?_) | (refine Told.t ?_ ?_; (focus assumption)) | (refine Told.f ?_ ?_; (focus assumption)) | (refine Told.t ?_ ?_; (focus (first | (simp; omega) | (simp [*]; done)); done)) | (refine Told.f ?_ ?_; (focus (first | (simp; omega) | (simp [*]; done)); done))); (refine DrG.runS e tab_ok 200 rfl (by first | trivial | (simp [in64] <;> omega) | (simp only [in64, true_and, and_true]; omega)) ?_))
            | (refine DrG.callQ e rfl rfl ?_; (first | refine CallVQ.mk (c3) rfl rfl ?_); (refine DrG.runS e tab_ok 200 rfl (by first | trivial | (simp [in64] <;> omega) | (simp only [in64, true_and, and_true]; omega)) ?_))
            | (refine DrG.callGo e rfl rfl rfl ?_; (first | refine CallVQ.mk (c3) rfl rfl ?_); (refine DrG.runS e tab_ok 200 rfl (by first | trivial | (simp [in64] <;> omega) | (simp only [in64, true_and, and_true]; omega)) ?_))
            | (refine DrG.eq_agg e tab_ok rfl rfl rfl (.inl ⟨rfl, rfl⟩) ?_ 5 (by omega) rfl ?_ rfl rfl rfl rfl rfl rfl rfl ?_; (focus kernel_rfl); (focus kernel_rfl); (refine DrG.runS e tab_ok 200 rfl (by first | trivial | (simp [in64] <;> omega) | (simp only [in64, true_and, and_true]; omega)) ?_))
            | (refine DrG.eq_aggGo e tab_ok rfl rfl rfl rfl (.inl ⟨rfl, rfl⟩) ?_ 5 (by omega) rfl ?_ rfl rfl rfl rfl rfl rfl rfl ?_; (focus kernel_rfl); (focus kernel_rfl); (refine DrG.runS e tab_ok 200 rfl (by first | trivial | (simp [in64] <;> omega) | (simp only [in64, true_and, and_true]; omega)) ?_))
            | (refine DrG.eq_agg e tab_ok rfl rfl rfl (.inr ⟨rfl, rfl⟩) ?_ 5 (by omega) rfl ?_ rfl rfl rfl rfl rfl rfl rfl ?_; (focus kernel_rfl); (focus kernel_rfl); (refine DrG.runS e tab_ok 200 rfl (by first | trivial | (simp [in64] <;> omega) | (simp only [in64, true_and, and_true]; omega)) ?_))
            | (refine DrG.eq_aggGo e tab_ok rfl rfl rfl rfl (.inr ⟨rfl, rfl⟩) ?_ 5 (by omega) rfl ?_ rfl rfl rfl rfl rfl rfl rfl ?_; (focus kernel_rfl); (focus kernel_rfl); (refine DrG.runS e tab_ok 200 rfl (by first | trivial | (simp [in64] <;> omega) | (simp only [in64, true_and, and_true]; omega)) ?_))
          )
        refine DrG.finK e rfl ?_ rfl rfl rfl ?_ ?_
        (focus kernel_rfl)
        (focus (repeat' (first | exact True.intro | (refine And.intro ?_ ?_) | rfl | assumption | exact okRow _)))
        dsimp only [tmS, hpS, tput, effH]
        refine AWP.runL e tab_ok L4 300 rfl (by first | trivial | (simp [in64] <;> omega) | (simp only [in64, true_and, and_true]; omega)) ?_
        repeat (
          first
            | (refine AWP.askT rfl ?_; (first | (refine Told.t rfl ?_) | (refine Told.f rfl ?_) | (refine Told.t ?_ ?_; (focus assumption)) | (refine Told.f ?_ ?_; (focus assumption)) | (refine Told.t ?_ ?_; (focus (first | (simp; omega) | (simp [*]; done)); done)) | (refine Told.f ?_ ?_; (focus (first | (simp; omega) | (simp [*]; done)); done))); refine AWP.runL e tab_ok L4 300 rfl (by first | trivial | (simp [in64] <;> omega) | (simp only [in64, true_and, and_true]; omega)) ?_)
            | (refine AWP.callQ e rfl rfl ?_; (first | refine CallQ.mk (c4) rfl rfl ?_); refine AWP.runL e tab_ok L4 300 rfl (by first | trivial | (simp [in64] <;> omega) | (simp only [in64, true_and, and_true]; omega)) ?_)
            | (refine AWP.eq_agg e tab_ok rfl rfl rfl (.inl ⟨rfl, rfl⟩) ?_ 5 (by omega) rfl ?_ rfl rfl rfl rfl rfl rfl rfl ?_; (focus kernel_rfl); (focus kernel_rfl); refine AWP.runL e tab_ok L4 300 rfl (by first | trivial | (simp [in64] <;> omega) | (simp only [in64, true_and, and_true]; omega)) ?_)
            | (refine AWP.eq_agg e tab_ok rfl rfl rfl (.inr ⟨rfl, rfl⟩) ?_ 5 (by omega) rfl ?_ rfl rfl rfl rfl rfl rfl rfl ?_; (focus kernel_rfl); (focus kernel_rfl); refine AWP.runL e tab_ok L4 300 rfl (by first | trivial | (simp [in64] <;> omega) | (simp only [in64, true_and, and_true]; omega)) ?_)
          )
        refine AWP.less e ?_ ?_ ?_ ?_ ?_ ((nx _ h1 h2)) <;> (repeat' (first | exact True.intro | (refine And.intro ?_ ?_) | rfl | assumption))
      · have h1 := hhit rfl
        have hd := hdone rfl
        cases hd
        have hR : findR mn mx x l = .tup [.i ((i : Int) + 1), .i 0] := by unfold findR; rw [h1]; rfl
        rw [hR] at hAB
        cases hAB
        refine AWP.runL e tab_ok L4 300 rfl (by first | trivial | (simp [in64] <;> omega) | (simp only [in64, true_and, and_true]; omega)) ?_
        refine AWP.keep L4 rfl ?_
        refine AWP.drg 100 ?_
        (refine DrG.runS e tab_ok 200 rfl (by first | trivial | (simp [] <;> omega) | (simp only [in64, true_and, and_true]; omega)) ?_)
        repeat (
          first
            | (refine DrG.askT rfl ?_; (first | (refine Told.t rfl ?_) | (refine Told.f rfl ?_) | (refine Told.t ?_ ?_; (focus assumption)) | (refine Told.f ?_ ?_; (focus assumption)) | (refine Told.t ?_ ?_; (focus (first | (simp; omega) | (simp [*]; done)); done)) | (refine Told.f ?_ ?_; (focus (first | (simp; omega) | (simp [*]; done)); done))); (refine DrG.runS e tab_ok 200 rfl (by first | trivial | (simp [in64] <;> omega) | (simp only [in64, true_and, and_true]; omega)) ?_))
            | (refine DrG.eq_agg e tab_ok rfl rfl rfl (.inl ⟨rfl, rfl⟩) ?_ 5 (by omega) rfl ?_ rfl rfl rfl rfl rfl rfl rfl ?_; (focus kernel_rfl); (focus kernel_rfl); (refine DrG.runS e tab_ok 200 rfl (by first | trivial | (simp [in64] <;> omega) | (simp only [in64, true_and, and_true]; omega)) ?_))
            | (refine DrG.eq_aggGo e tab_ok rfl rfl rfl rfl (.inl ⟨rfl, rfl⟩) ?_ 5 (by omega) rfl ?_ rfl rfl rfl rfl rfl rfl rfl ?_; (focus kernel_rfl); (focus kernel_rfl); (refine DrG.runS e tab_ok 200 rfl (by first | trivial | (simp [in64] <;> omega) | (simp only [in64, true_and, and_true]; omega)) ?_))
            | (refine DrG.eq_agg e tab_ok rfl rfl rfl (.inr ⟨rfl, rfl⟩) ?_ 5 (by omega) rfl ?_ rfl rfl rfl rfl rfl rfl rfl ?_; (focus kernel_rfl); (focus kernel_rfl); (refine DrG.runS e tab_ok 200 rfl (by first | trivial | (simp [in64] <;> omega) | (simp only [in64, true_and, and_true]; omega)) ?_))
            | (refine DrG.eq_aggGo e tab_ok rfl rfl rfl rfl (.inr ⟨rfl, rfl⟩) ?_ 5 (by omega) rfl ?_ rfl rfl rfl rfl rfl rfl rfl ?_; (focus kernel_rfl); (focus kernel_rfl); (refine DrG.runS e tab_ok 200 rfl (by first | trivial | (simp [in64] <;> omega) | (simp only [in64, true_and, and_true]; omega)) ?_))
          )
        refine DrG.eqV (x' := U c) (congrArg (fun z => SV.d (.v (.int .u8 z))) hb) ?_
        (refine DrG.runS e tab_ok 200 rfl (by first | trivial | (simp [in64] <;> omega) | (simp only [in64, true_and, and_true]; omega)) ?_)
        repeat (
          first
            | (refine DrG.askT rfl ?_; (first | (refine Told.t rfl ?_) | (refine Told.f rfl ?_) | (refine Told.t ?_ ?_; (focus assumption)) | (refine Told.f ?_ ?_; (focus assumption)) | (refine Told.t ?_ ?_; (focus (first | (simp; omega) | (simp [*]; done)); done)) | (refine Told.f ?_ ?_; (focus (first | (simp; omega) | (simp [*]; done)); done))); (refine DrG.runS e tab_ok 200 rfl (by first | trivial | (simp [in64] <;> omega) | (simp only [in64, true_and, and_true]; omega)) ?_))
            | (refine DrG.callQ e rfl rfl ?_; (first | refine CallVQ.mk (c3) rfl rfl ?_); (refine DrG.runS e tab_ok 200 rfl (by first | trivial | (simp [in64] <;> omega) | (simp only [in64, true_and, and_true]; omega)) ?_))
            | (refine DrG.callGo e rfl rfl rfl ?_; (first | refine CallVQ.mk (c3) rfl rfl ?_); (refine DrG.runS e tab_ok 200 rfl (by first | trivial | (simp [in64] <;> omega) | (simp only [in64, true_and, and_true]; omega)) ?_))
            | (refine DrG.eq_agg e tab_ok rfl rfl rfl (.inl ⟨rfl, rfl⟩) ?_ 5 (by omega) rfl ?_ rfl rfl rfl rfl rfl rfl rfl ?_; (focus kernel_rfl); (focus kernel_rfl); (refine DrG.runS e tab_ok 200 rfl (by first | trivial | (simp [in64] <;> omega) | (simp only [in64, true_and, and_true]; omega)) ?_))
            | (refine DrG.eq_aggGo e tab_ok rfl rfl rfl rfl (.inl ⟨rfl, rfl⟩) ?_ 5 (by omega) rfl ?_ rfl rfl rfl rfl rfl rfl rfl ?_; (focus kernel_rfl); (focus kernel_rfl); (refine DrG.runS e tab_ok 200 rfl (by first | trivial | (simp [in64] <;> omega) | (simp only [in64, true_and, and_true]; omega)) ?_))
            | (refine DrG.eq_agg e tab_ok rfl rfl rfl (.inr ⟨rfl, rfl⟩) ?_ 5 (by omega) rfl ?_ rfl rfl rfl rfl rfl rfl rfl ?_; (focus kernel_rfl); (focus kernel_rfl); (refine DrG.runS e tab_ok 200 rfl (by first | trivial | (simp [in64] <;> omega) | (simp only [in64, true_and, and_true]; omega)) ?_))
            | (refine DrG.eq_aggGo e tab_ok rfl rfl rfl rfl (.inr ⟨rfl, rfl⟩) ?_ 5 (by omega) rfl ?_ rfl rfl rfl rfl rfl rfl rfl ?_; (focus kernel_rfl); (focus kernel_rfl); (refine DrG.runS e tab_ok 200 rfl (by first | trivial | (simp [in64] <;> omega) | (simp only [in64, true_and, and_true]; omega)) ?_))
          )
        refine DrG.finK e rfl ?_ rfl rfl rfl ?_ ?_
        (focus kernel_rfl)
        (focus (repeat' (first | exact True.intro | (refine And.intro ?_ ?_) | rfl | assumption | exact okRow _)))
        dsimp only [tmS, hpS, tput, effH]
        refine AWP.runL e tab_ok L4 300 rfl (by first | trivial | (simp [in64] <;> omega) | (simp only [in64, true_and, and_true]; omega)) ?_
        repeat (
          first
            | (refine AWP.askT rfl ?_; (first | (refine Told.t rfl ?_) | (refine Told.f rfl ?_) | (refine Told.t ?_ ?_; (focus assumption)) | (refine Told.f ?_ ?_; (focus assumption)) | (refine Told.t ?_ ?_; (focus (first | (simp; omega) | (simp [*]; done)); done)) | (refine Told.f ?_ ?_; (focus (first | (simp; omega) | (simp [*]; done)); done))); refine AWP.runL e tab_ok L4 300 rfl (by first | trivial | (simp [in64] <;> omega) | (simp only [in64, true_and, and_true]; omega)) ?_)
            | (refine AWP.callQ e rfl rfl ?_; (first | refine CallQ.mk (c4) rfl rfl ?_ | refine CallQ.mk (al) rfl rfl ?_); refine AWP.runL e tab_ok L4 300 rfl (by first | trivial | (simp [in64] <;> omega) | (simp only [in64, true_and, and_true]; omega)) ?_)
            | (refine AWP.eq_agg e tab_ok rfl rfl rfl (.inl ⟨rfl, rfl⟩) ?_ 5 (by omega) rfl ?_ rfl rfl rfl rfl rfl rfl rfl ?_; (focus kernel_rfl); (focus kernel_rfl); refine AWP.runL e tab_ok L4 300 rfl (by first | trivial | (simp [in64] <;> omega) | (simp only [in64, true_and, and_true]; omega)) ?_)
            | (refine AWP.eq_agg e tab_ok rfl rfl rfl (.inr ⟨rfl, rfl⟩) ?_ 5 (by omega) rfl ?_ rfl rfl rfl rfl rfl rfl rfl ?_; (focus kernel_rfl); (focus kernel_rfl); refine AWP.runL e tab_ok L4 300 rfl (by first | trivial | (simp [in64] <;> omega) | (simp only [in64, true_and, and_true]; omega)) ?_)
          )
        refine AWP.ret e tab_ok rfl ?_
        rw [hP]
        all_goals first | rfl | (simp [strip]; done)
    · have hlt : ¬ i < l.length := by have := of_decide_eq_false hlt; omega
      obtain rfl : i = l.length := by omega
      rw [List.take_length] at h0
      have hR : findR mn mx x l = .tup [.i 0, .i 21] := by unfold findR; rw [h0]; rfl
      rw [hR] at hAB
      cases hAB
      refine AWP.runL e tab_ok L4 300 rfl (by first | trivial | (simp [in64] <;> omega) | (simp only [in64, true_and, and_true]; omega)) ?_
      repeat (
        first
          | (refine AWP.askT rfl ?_; (first | (refine Told.t rfl ?_) | (refine Told.f rfl ?_) | (refine Told.t ?_ ?_; (focus assumption)) | (refine Told.f ?_ ?_; (focus assumption)) | (refine Told.t ?_ ?_; (focus (first | (simp; omega) | (simp [*]; done)); done)) | (refine Told.f ?_ ?_; (focus (first | (simp; omega) | (simp [*]; done)); done))); refine AWP.runL e tab_ok L4 300 rfl (by first | trivial | (simp [in64] <;> omega) | (simp only [in64, true_and, and_true]; omega)) ?_)
          | (refine AWP.callQ e rfl rfl ?_; (first | refine CallQ.mk (al) rfl rfl ?_); refine AWP.runL e tab_ok L4 300 rfl (by first | trivial | (simp [in64] <;> omega) | (simp only [in64, true_and, and_true]; omega)) ?_)
          | (refine AWP.eq_agg e tab_ok rfl rfl rfl (.inl ⟨rfl, rfl⟩) ?_ 5 (by omega) rfl ?_ rfl rfl rfl rfl rfl rfl rfl ?_; (focus kernel_rfl); (focus kernel_rfl); refine AWP.runL e tab_ok L4 300 rfl (by first | trivial | (simp [in64] <;> omega) | (simp only [in64, true_and, and_true]; omega)) ?_)
          | (refine AWP.eq_agg e tab_ok rfl rfl rfl (.inr ⟨rfl, rfl⟩) ?_ 5 (by omega) rfl ?_ rfl rfl rfl rfl rfl rfl rfl ?_; (focus kernel_rfl); (focus kernel_rfl); refine AWP.runL e tab_ok L4 300 rfl (by first | trivial | (simp [in64] <;> omega) | (simp only [in64, true_and, and_true]; omega)) ?_)
        )
      refine AWP.ret e tab_ok rfl ?_
      rw [hP]
      all_goals first | rfl | (simp [strip]; done)
end Go.Proofs.YtokhongbpnkinaaDoor
