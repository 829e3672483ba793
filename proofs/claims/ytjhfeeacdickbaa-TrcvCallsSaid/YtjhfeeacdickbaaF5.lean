import Derived.Test.YtjhfeeacdickbaaF4
open Go Go.Proofs Go.Sy
namespace Go.Proofs.Ytjhfeeacdickbaa

abbrev slp (t : TV) (D : ByteArray) (errs : Int) : TV := { t with data := D, sel := true, mode := 3, errs := errs, bus := false, fr := false, loc := false, ovr := false }
theorem slp_right {t : TV} {D : ByteArray} {n : Int} (h : rightB (slp t D 0) = true) (h0 : 0 ≤ n) (h1 : n ≤ t.lim) : rightB (slp t D n) = true := by
  have hR := rightB_iff.1 h
  exact rightB_iff.2 ⟨hR.id, hR.mask, hR.d0, hR.d8, hR.data, hR.l1, hR.l2, hR.m1, hR.m3, h0, h1, fun h => (by cases h), fun h => (by cases h), fun h => (by cases h), fun (h : (3 : Int) = 1) => (by omega), fun (h : (3 : Int) = 1) => (by omega)⟩
theorem slp_err {t : TV} {D : ByteArray} {n : Int} (m : Bool) (h1 : n ≠ t.lim) : sawT (slp t D n) m false = slp t D (n + 1) := by
  simp [sawT, h1]
theorem slp_over {t : TV} {D : ByteArray} {n : Int} (m : Bool) (h1 : n = t.lim) : sawT (slp t D n) m false = { slp t D 0 with ovr := true } := by
  simp [sawT, h1]
theorem slp_good {t : TV} {D : ByteArray} {n : Int} : sawT (slp t D n) false true = slp t D (dn n) := by
  simp [sawT]
theorem woke_no {t : TV} {D : ByteArray} {n m : Int} : woke (slp t D n) (slp t D m) = false := rfl
def fb : FV := ⟨1073741824#32, false, false, 0, .empty⟩
theorem fb_no (t : TV) : matchB t fb = false := rfl
def eN (l : Int) (i : Nat) : Int := if 0 > l - i then 0 else l - i
theorem dn_eN (l : Int) (i : Nat) : dn (eN l i) = eN l (i + 1) := by
  unfold dn eN
  split <;> split <;> split <;> omega

set_option maxHeartbeats 1000000 in
set_option maxRecDepth 100000 in
theorem counts_eff (t : TV) (more : Int) : Eff Try.prog 4 [tv t, .i more] [] 0 (fun r _ _ => r = .b true) := by
  obtain ⟨D, hD, hfew⟩ := few_eff t
  have hrr := rright_eff (slp t D 0)
  refine eff_of Try.func4 rfl rfl rfl fun cx e hP => ?_
  refine AWP.runL e tab_ok L4 300 rfl (by first | trivial | (simp [in64] <;> omega)) ?_
  rcases cases_b (rightB (slp t D 0)) with h | h <;> rw [h] at hrr
  rotate_left
  · repeat (
      first
        | (refine AWP.askT rfl ?_; (first | (refine Told.t rfl ?_) | (refine Told.f rfl ?_) | (refine Told.t ?_ ?_; (focus assumption)) | (refine Told.f ?_ ?_; (focus assumption)) | (refine Told.t ?_ ?_; (focus (first | (simp; omega) | (simp [*]; done)); done)) | (refine Told.f ?_ ?_; (focus (first | (simp; omega) | (simp [*]; done)); done))); refine AWP.runL e tab_ok L4 300 rfl (by first | trivial | (simp [in64] <;> omega)) ?_)
        | (refine AWP.callQ e rfl rfl ?_; (first | refine CallQ.mk (hfew) rfl rfl ?_ | refine CallQ.mk (hrr) rfl rfl ?_ | refine CallQ.mk (alive_eff) rfl rfl ?_); refine AWP.runL e tab_ok L4 300 rfl (by first | trivial | (simp [in64] <;> omega)) ?_)
        | (refine AWP.eq_agg e tab_ok rfl rfl rfl (.inl ⟨rfl, rfl⟩) ?_ 5 (by omega) rfl ?_ rfl rfl rfl rfl rfl rfl rfl ?_; (focus kernel_rfl); (focus kernel_rfl); refine AWP.runL e tab_ok L4 300 rfl (by first | trivial | (simp [in64] <;> omega)) ?_)
        | (refine AWP.eq_agg e tab_ok rfl rfl rfl (.inr ⟨rfl, rfl⟩) ?_ 5 (by omega) rfl ?_ rfl rfl rfl rfl rfl rfl rfl ?_; (focus kernel_rfl); (focus kernel_rfl); refine AWP.runL e tab_ok L4 300 rfl (by first | trivial | (simp [in64] <;> omega)) ?_)
      )
    refine AWP.ret e tab_ok rfl ?_
    rw [hP]
    all_goals first | rfl | (simp [strip]; done)
  have hR := rightB_iff.1 h
  have l1 := hR.l1
  have l2 := hR.l2
  obtain ⟨n, hn⟩ : ∃ n : Nat, t.lim = n := ⟨t.lim.toNat, by have : 1 ≤ t.lim := l1; omega⟩
  have n2 : n ≤ 255 := by have : t.lim ≤ 255 := l2; omega
  repeat (
    first
      | (refine AWP.askT rfl ?_; (first | (refine Told.t rfl ?_) | (refine Told.f rfl ?_) | (refine Told.t ?_ ?_; (focus assumption)) | (refine Told.f ?_ ?_; (focus assumption)) | (refine Told.t ?_ ?_; (focus (first | (simp; omega) | (simp [*]; done)); done)) | (refine Told.f ?_ ?_; (focus (first | (simp; omega) | (simp [*]; done)); done))); refine AWP.runL e tab_ok L4 300 rfl (by first | trivial | (simp [in64] <;> omega)) ?_)
      | (refine AWP.callQ e rfl rfl ?_; (first | refine CallQ.mk (hfew) rfl rfl ?_ | refine CallQ.mk (hrr) rfl rfl ?_ | refine CallQ.mk (alive_eff) rfl rfl ?_); refine AWP.runL e tab_ok L4 300 rfl (by first | trivial | (simp [in64] <;> omega)) ?_)
      | (refine AWP.eq_agg e tab_ok rfl rfl rfl (.inl ⟨rfl, rfl⟩) ?_ 5 (by omega) rfl ?_ rfl rfl rfl rfl rfl rfl rfl ?_; (focus kernel_rfl); (focus kernel_rfl); refine AWP.runL e tab_ok L4 300 rfl (by first | trivial | (simp [in64] <;> omega)) ?_)
      | (refine AWP.eq_agg e tab_ok rfl rfl rfl (.inr ⟨rfl, rfl⟩) ?_ 5 (by omega) rfl ?_ rfl rfl rfl rfl rfl rfl rfl ?_; (focus kernel_rfl); (focus kernel_rfl); refine AWP.runL e tab_ok L4 300 rfl (by first | trivial | (simp [in64] <;> omega)) ?_)
    )
  clear hrr hfew
  refine AWP.eqT 35 (.i n) rfl (congrArg SV.i hn) ?_
  refine AWP.loop (ι := Nat) (fun i => ⟨[(36, .i i), (35, .i n), (1, .i more), (2, .ptr 0 0)], [(0, .box (tC (slp t D i)))], 1⟩) (fun i => i ≤ n) (fun i => n - i) 0 (Nat.zero_le _) ?_ ?_
  · intro g
    refine AWP.less e ?_ ?_ ?_ ?_ ?_ (g) <;> (repeat' (first | exact True.intro | (refine And.intro ?_ ?_) | rfl | assumption))
  rintro i Φ hI next
  have hI : i ≤ n := hI
  refine AWP.runL e tab_ok L4 300 rfl (by first | trivial | (simp [in64] <;> omega)) ?_
  refine AWP.cond2 rfl (fun hlt => ?_) (fun hlt => ?_)
  · have hlt : i < n := by simp at hlt; omega
    have hs := saw_eff (slp t D i) f0 false (slp_right h (by omega) (by omega))
    rw [slp_err _ (by omega), woke_no] at hs
    have nx := next (i + 1) hlt (by show n - (i + 1) < n - i; omega)
    refine AWP.runL e tab_ok L4 300 rfl (by first | trivial | (simp [in64] <;> omega)) ?_
    repeat (
      first
        | (refine AWP.askT rfl ?_; (first | (refine Told.t rfl ?_) | (refine Told.f rfl ?_) | (refine Told.t ?_ ?_; (focus assumption)) | (refine Told.f ?_ ?_; (focus assumption)) | (refine Told.t ?_ ?_; (focus (first | (simp; omega) | (simp [*]; done)); done)) | (refine Told.f ?_ ?_; (focus (first | (simp; omega) | (simp [*]; done)); done))); refine AWP.runL e tab_ok L4 300 rfl (by first | trivial | (simp [in64] <;> omega)) ?_)
        | (refine AWP.callQ e rfl rfl ?_; (first | refine CallQ.mk (hs) rfl rfl ?_); refine AWP.runL e tab_ok L4 300 rfl (by first | trivial | (simp [in64] <;> omega)) ?_)
        | (refine AWP.eq_agg e tab_ok rfl rfl rfl (.inl ⟨rfl, rfl⟩) ?_ 5 (by omega) rfl ?_ rfl rfl rfl rfl rfl rfl rfl ?_; (focus kernel_rfl); (focus kernel_rfl); refine AWP.runL e tab_ok L4 300 rfl (by first | trivial | (simp [in64] <;> omega)) ?_)
        | (refine AWP.eq_agg e tab_ok rfl rfl rfl (.inr ⟨rfl, rfl⟩) ?_ 5 (by omega) rfl ?_ rfl rfl rfl rfl rfl rfl rfl ?_; (focus kernel_rfl); (focus kernel_rfl); refine AWP.runL e tab_ok L4 300 rfl (by first | trivial | (simp [in64] <;> omega)) ?_)
      )
    refine AWP.less e ?_ ?_ ?_ ?_ ?_ (nx) <;> (repeat' (first | exact True.intro | (refine And.intro ?_ ?_) | rfl | assumption))
  obtain rfl : i = n := by simp at hlt; omega
  clear next hI
  have hs := saw_eff (slp t D i) f0 false (slp_right h (by omega) (by omega))
  rw [slp_over _ (by omega), show woke (slp t D i) { slp t D 0 with ovr := true } = true from rfl] at hs
  refine AWP.runL e tab_ok L4 300 rfl (by first | trivial | (simp [in64] <;> omega)) ?_
  repeat (
    first
      | (refine AWP.askT rfl ?_; (first | (refine Told.t rfl ?_) | (refine Told.f rfl ?_) | (refine Told.t ?_ ?_; (focus assumption)) | (refine Told.f ?_ ?_; (focus assumption)) | (refine Told.t ?_ ?_; (focus (first | (simp; omega) | (simp [*]; done)); done)) | (refine Told.f ?_ ?_; (focus (first | (simp; omega) | (simp [*]; done)); done))); refine AWP.runL e tab_ok L4 300 rfl (by first | trivial | (simp [in64] <;> omega)) ?_)
      | (refine AWP.callQ e rfl rfl ?_; (first | refine CallQ.mk (hs) rfl rfl ?_); refine AWP.runL e tab_ok L4 300 rfl (by first | trivial | (simp [in64] <;> omega)) ?_)
      | (refine AWP.eq_agg e tab_ok rfl rfl rfl (.inl ⟨rfl, rfl⟩) ?_ 5 (by omega) rfl ?_ rfl rfl rfl rfl rfl rfl rfl ?_; (focus kernel_rfl); (focus kernel_rfl); refine AWP.runL e tab_ok L4 300 rfl (by first | trivial | (simp [in64] <;> omega)) ?_)
      | (refine AWP.eq_agg e tab_ok rfl rfl rfl (.inr ⟨rfl, rfl⟩) ?_ 5 (by omega) rfl ?_ rfl rfl rfl rfl rfl rfl rfl ?_; (focus kernel_rfl); (focus kernel_rfl); refine AWP.runL e tab_ok L4 300 rfl (by first | trivial | (simp [in64] <;> omega)) ?_)
    )
  obtain ⟨q, hq⟩ : ∃ q : Nat, t.lim + (if 5 < (if 0 > more then 0 else more) then 5 else if 0 > more then 0 else more) = q := ⟨(t.lim + (if 5 < (if 0 > more then 0 else more) then 5 else if 0 > more then 0 else more)).toNat, by split <;> split <;> omega⟩
  have q2 : q ≤ 260 := by revert hq; split <;> split <;> omega
  refine AWP.eqT 89 (.i q) rfl (congrArg SV.i hq) ?_
  clear hq hs
  refine AWP.loop (ι := Nat) (fun j => ⟨[(90, .i j), (89, .i q), (2, .ptr 0 0), (12, .ptr 2 0)], [(0, .box (tC (slp t D (eN t.lim j)))), (2, .box (fC fb))], 3⟩) (fun j => j ≤ q) (fun j => q - j) 0 (Nat.zero_le _) ?_ ?_
  · intro g
    rw [show eN t.lim 0 = (i : Int) by unfold eN; split <;> omega] at g
    refine AWP.less e ?_ ?_ ?_ ?_ ?_ (g) <;> (repeat' (first | exact True.intro | (refine And.intro ?_ ?_) | rfl | assumption))
  rintro j Φ hI next
  have hI : j ≤ q := hI
  have e0 : 0 ≤ eN t.lim j ∧ eN t.lim j ≤ t.lim := by unfold eN; split <;> omega
  refine AWP.runL e tab_ok L4 300 rfl (by first | trivial | (simp [in64] <;> omega)) ?_
  refine AWP.cond2 rfl (fun hlt => ?_) (fun hlt => ?_)
  · have hlt : j < q := by simp at hlt; omega
    have hs := saw_eff (slp t D (eN t.lim j)) fb true (slp_right h e0.1 e0.2)
    rw [fb_no, slp_good, woke_no, dn_eN] at hs
    have nx := next (j + 1) hlt (by show q - (j + 1) < q - j; omega)
    have he : ((eN t.lim (j + 1)) != (if 0 > t.lim - (j : Int) - 1 then 0 else t.lim - (j : Int) - 1)) = false := by
      rw [show eN t.lim (j + 1) = (if 0 > t.lim - (j : Int) - 1 then 0 else t.lim - (j : Int) - 1) by unfold eN; split <;> split <;> omega]
      simp
    refine AWP.runL e tab_ok L4 300 rfl (by first | trivial | (simp [in64] <;> omega)) ?_
    repeat (
      first
        | (refine AWP.askT rfl ?_; (first | (refine Told.t rfl ?_) | (refine Told.f rfl ?_) | (refine Told.t ?_ ?_; (focus assumption)) | (refine Told.f ?_ ?_; (focus assumption)) | (refine Told.t ?_ ?_; (focus (first | (simp; omega) | (simp [*]; done)); done)) | (refine Told.f ?_ ?_; (focus (first | (simp; omega) | (simp [*]; done)); done))); refine AWP.runL e tab_ok L4 300 rfl (by first | trivial | (simp [in64] <;> omega)) ?_)
        | (refine AWP.callQ e rfl rfl ?_; (first | refine CallQ.mk (hs) rfl rfl ?_); refine AWP.runL e tab_ok L4 300 rfl (by first | trivial | (simp [in64] <;> omega)) ?_)
        | (refine AWP.eq_agg e tab_ok rfl rfl rfl (.inl ⟨rfl, rfl⟩) ?_ 5 (by omega) rfl ?_ rfl rfl rfl rfl rfl rfl rfl ?_; (focus kernel_rfl); (focus kernel_rfl); refine AWP.runL e tab_ok L4 300 rfl (by first | trivial | (simp [in64] <;> omega)) ?_)
        | (refine AWP.eq_agg e tab_ok rfl rfl rfl (.inr ⟨rfl, rfl⟩) ?_ 5 (by omega) rfl ?_ rfl rfl rfl rfl rfl rfl rfl ?_; (focus kernel_rfl); (focus kernel_rfl); refine AWP.runL e tab_ok L4 300 rfl (by first | trivial | (simp [in64] <;> omega)) ?_)
      )
    refine AWP.less e ?_ ?_ ?_ ?_ ?_ (nx) <;> (repeat' (first | exact True.intro | (refine And.intro ?_ ?_) | rfl | assumption))
  · have hw := wokenq_eff (slp t D (eN t.lim j))
    refine AWP.runL e tab_ok L4 300 rfl (by first | trivial | (simp [in64] <;> omega)) ?_
    repeat (
      first
        | (refine AWP.askT rfl ?_; (first | (refine Told.t rfl ?_) | (refine Told.f rfl ?_) | (refine Told.t ?_ ?_; (focus assumption)) | (refine Told.f ?_ ?_; (focus assumption)) | (refine Told.t ?_ ?_; (focus (first | (simp; omega) | (simp [*]; done)); done)) | (refine Told.f ?_ ?_; (focus (first | (simp; omega) | (simp [*]; done)); done))); refine AWP.runL e tab_ok L4 300 rfl (by first | trivial | (simp [in64] <;> omega)) ?_)
        | (refine AWP.callQ e rfl rfl ?_; (first | refine CallQ.mk (hw) rfl rfl ?_); refine AWP.runL e tab_ok L4 300 rfl (by first | trivial | (simp [in64] <;> omega)) ?_)
        | (refine AWP.eq_agg e tab_ok rfl rfl rfl (.inl ⟨rfl, rfl⟩) ?_ 5 (by omega) rfl ?_ rfl rfl rfl rfl rfl rfl rfl ?_; (focus kernel_rfl); (focus kernel_rfl); refine AWP.runL e tab_ok L4 300 rfl (by first | trivial | (simp [in64] <;> omega)) ?_)
        | (refine AWP.eq_agg e tab_ok rfl rfl rfl (.inr ⟨rfl, rfl⟩) ?_ 5 (by omega) rfl ?_ rfl rfl rfl rfl rfl rfl rfl ?_; (focus kernel_rfl); (focus kernel_rfl); refine AWP.runL e tab_ok L4 300 rfl (by first | trivial | (simp [in64] <;> omega)) ?_)
      )
    refine AWP.ret e tab_ok rfl ?_
    rw [hP]
    rw [show woken (slp t D (eN t.lim j)) = false from rfl, Bool.and_false]
    rfl

theorem counts_args (l : List SV) (h : Args tab 9 [24, 3] l) : Eff Try.prog 4 l [] 0 (fun r _ _ => r = .b true) := by
  obtain ⟨xs, _, rfl, hp, _, _, rfl, ⟨more, rfl, _, _⟩, rfl⟩ := h
  obtain ⟨t, ht⟩ := tv_of hp
  show Eff Try.prog 4 [.agg (xs.map SV.d), _] [] 0 _
  rw [ht]
  exact counts_eff t more
end Go.Proofs.Ytjhfeeacdickbaa
