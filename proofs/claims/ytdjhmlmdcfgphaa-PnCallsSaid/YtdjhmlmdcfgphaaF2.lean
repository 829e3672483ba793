import Derived.Test.YtdjhmlmdcfgphaaF1
open Go Go.Proofs Go.Sy
namespace Go.Proofs.Ytdjhmlmdcfgphaa

theorem right_new {m : BitVec 16} {l : Int} (h : 1 ≤ l ∧ l ≤ 1000000) : rightB m 0#16 (fun _ => 0) l = true := rightB_iff.2 ⟨h, by simp, fun k _ => ⟨Int.le_refl 0, by show (0 : Int) ≤ l; omega⟩⟩

set_option maxRecDepth 100000 in
theorem new_ok (m : BitVec 16) (l : Int) (h : 1 ≤ l ∧ l ≤ 1000000) : Eff Try.prog 7 [U16 m, .i l] [] 0 (fun r _ _ => r = .tup [pn m 0#16 (fun _ => 0) l, .i 0]) := by
  have hr := right_eff m 0#16 (fun _ => 0) l
  rw [right_new h] at hr
  refine eff_of Try.func7 rfl rfl rfl fun cx e hP => ?_
  refine AWP.runL e tab_ok L7 300 rfl (by first | trivial | (simp [in64] <;> omega)) ?_
  repeat (
    first
      | (refine AWP.askT rfl ?_; (first | (refine Told.t rfl ?_) | (refine Told.f rfl ?_) | (refine Told.t ?_ ?_; (focus (first | assumption | (simp; omega) | (simp [*]; done)); done)) | (refine Told.f ?_ ?_; (focus (first | assumption | (simp; omega) | (simp [*]; done)); done))); refine AWP.runL e tab_ok L7 300 rfl (by first | trivial | (simp [in64] <;> omega)) ?_)
      | (refine AWP.callQ e rfl rfl ?_; (first | refine CallQ.mk (hr) rfl rfl ?_); refine AWP.runL e tab_ok L7 300 rfl (by first | trivial | (simp [in64] <;> omega)) ?_)
      | (refine AWP.eq_agg e tab_ok rfl rfl rfl (.inl ⟨rfl, rfl⟩) ?_ 5 (by omega) rfl ?_ rfl rfl rfl rfl rfl rfl rfl ?_; (focus kernel_rfl); (focus kernel_rfl); refine AWP.runL e tab_ok L7 300 rfl (by first | trivial | (simp [in64] <;> omega)) ?_)
      | (refine AWP.eq_agg e tab_ok rfl rfl rfl (.inr ⟨rfl, rfl⟩) ?_ 5 (by omega) rfl ?_ rfl rfl rfl rfl rfl rfl rfl ?_; (focus kernel_rfl); (focus kernel_rfl); refine AWP.runL e tab_ok L7 300 rfl (by first | trivial | (simp [in64] <;> omega)) ?_)
    )
  refine AWP.ret e tab_ok rfl ?_
  rw [hP]
  all_goals first | rfl | (simp [strip]; done)

set_option maxRecDepth 100000 in
theorem new_bad (m : BitVec 16) (l : Int) (h : ¬ (1 ≤ l ∧ l ≤ 1000000)) : Eff Try.prog 7 [U16 m, .i l] [] 0 (fun r _ _ => r = .tup [pn0, .i 1]) := by
  have hr := right_eff m 0#16 (fun _ => 0) l
  rw [show rightB m 0#16 (fun _ => 0) l = false from Bool.eq_false_iff.2 fun g => h (rightB_iff.1 g).1] at hr
  refine eff_of Try.func7 rfl rfl rfl fun cx e hP => ?_
  refine AWP.runL e tab_ok L7 300 rfl (by first | trivial | (simp [in64] <;> omega)) ?_
  repeat (
    first
      | (refine AWP.askT rfl ?_; (first | (refine Told.t rfl ?_) | (refine Told.f rfl ?_) | (refine Told.t ?_ ?_; (focus (first | assumption | (simp; omega) | (simp [*]; done)); done)) | (refine Told.f ?_ ?_; (focus (first | assumption | (simp; omega) | (simp [*]; done)); done))); refine AWP.runL e tab_ok L7 300 rfl (by first | trivial | (simp [in64] <;> omega)) ?_)
      | (refine AWP.callQ e rfl rfl ?_; (first | refine CallQ.mk (hr) rfl rfl ?_); refine AWP.runL e tab_ok L7 300 rfl (by first | trivial | (simp [in64] <;> omega)) ?_)
      | (refine AWP.eq_agg e tab_ok rfl rfl rfl (.inl ⟨rfl, rfl⟩) ?_ 5 (by omega) rfl ?_ rfl rfl rfl rfl rfl rfl rfl ?_; (focus kernel_rfl); (focus kernel_rfl); refine AWP.runL e tab_ok L7 300 rfl (by first | trivial | (simp [in64] <;> omega)) ?_)
      | (refine AWP.eq_agg e tab_ok rfl rfl rfl (.inr ⟨rfl, rfl⟩) ?_ 5 (by omega) rfl ?_ rfl rfl rfl rfl rfl rfl rfl ?_; (focus kernel_rfl); (focus kernel_rfl); refine AWP.runL e tab_ok L7 300 rfl (by first | trivial | (simp [in64] <;> omega)) ?_)
    )
  refine AWP.ret e tab_ok rfl ?_
  rw [hP]
  all_goals first | rfl | (simp [strip]; done)

def seeS (told : BitVec 16) (s : Nat → Int) (l : Int) (i k : Nat) : Int := if k < i ∧ told.getLsbD k = true then l else s k
theorem seeS_0 (told : BitVec 16) (s : Nat → Int) (l : Int) : seeS told s l 0 = s := by funext k; simp [seeS]
theorem seeS_yes {told : BitVec 16} {s : Nat → Int} {l : Int} {i : Nat} (h : told.getLsbD i = true) : upd1 (seeS told s l i) i l = seeS told s l (i + 1) := by
  funext k
  unfold upd1 seeS
  by_cases e : k = i
  · subst e; simp [h]
  · by_cases c : k < i
    · simp [e, c, show k < i + 1 by omega]
    · simp [e, c, show ¬ k < i + 1 by omega]
theorem seeS_no {told : BitVec 16} {s : Nat → Int} {l : Int} {i : Nat} (h : told.getLsbD i = false) : seeS told s l i = seeS told s l (i + 1) := by
  funext k
  unfold seeS
  by_cases e : k = i
  · subst e; simp [h]
  · by_cases c : k < i
    · simp [c, show k < i + 1 by omega]
    · simp [c, show ¬ k < i + 1 by omega]

set_option maxRecDepth 100000 in
theorem see_ok (m o : BitVec 16) (s : Nat → Int) (l : Int) (told : BitVec 16) (h : rightB m o s l = true) : Eff Try.prog 11 [pn m o s l, U16 told] [] 0 (fun r _ _ => r = .tup [pn m o (seeS told s l 16) l, .i 0]) := by
  have hr := right_eff m o s l
  rw [h] at hr
  refine eff_of Try.func11 rfl rfl rfl fun cx e hP => ?_
  refine AWP.runL e tab_ok L11 300 rfl (by first | trivial | (simp [in64] <;> omega)) ?_
  repeat (
    first
      | (refine AWP.askT rfl ?_; (first | (refine Told.t rfl ?_) | (refine Told.f rfl ?_) | (refine Told.t ?_ ?_; (focus (first | assumption | (simp; omega) | (simp [*]; done)); done)) | (refine Told.f ?_ ?_; (focus (first | assumption | (simp; omega) | (simp [*]; done)); done))); refine AWP.runL e tab_ok L11 300 rfl (by first | trivial | (simp [in64] <;> omega)) ?_)
      | (refine AWP.callQ e rfl rfl ?_; (first | refine CallQ.mk (hr) rfl rfl ?_); refine AWP.runL e tab_ok L11 300 rfl (by first | trivial | (simp [in64] <;> omega)) ?_)
      | (refine AWP.eq_agg e tab_ok rfl rfl rfl (.inl ⟨rfl, rfl⟩) ?_ 5 (by omega) rfl ?_ rfl rfl rfl rfl rfl rfl rfl ?_; (focus kernel_rfl); (focus kernel_rfl); refine AWP.runL e tab_ok L11 300 rfl (by first | trivial | (simp [in64] <;> omega)) ?_)
      | (refine AWP.eq_agg e tab_ok rfl rfl rfl (.inr ⟨rfl, rfl⟩) ?_ 5 (by omega) rfl ?_ rfl rfl rfl rfl rfl rfl rfl ?_; (focus kernel_rfl); (focus kernel_rfl); refine AWP.runL e tab_ok L11 300 rfl (by first | trivial | (simp [in64] <;> omega)) ?_)
    )
  refine AWP.loop (ι := Nat) (fun i => ⟨[(11, .i i), (1, U16 told), (2, .ptr 0 0), (4, .ptr 1 0)], [(0, .box (pnC m o (seeS told s l i) l)), (1, .box (pnC 0#16 0#16 (fun _ => 0) 0))], 2⟩) (fun i => i ≤ 16) (fun i => 16 - i) 0 (Nat.zero_le _) ?_ ?_
  · intro g
    rw [seeS_0] at g
    refine AWP.less e ?_ ?_ ?_ ?_ ?_ (g) <;> (repeat' (first | exact True.intro | (refine And.intro ?_ ?_) | rfl | assumption))
  rintro i Φ hI next
  have hI : i ≤ 16 := hI
  refine AWP.runL e tab_ok L11 300 rfl (by first | trivial | (simp [in64] <;> omega)) ?_
  refine AWP.cond2 rfl (fun hlt => ?_) (fun hlt => ?_)
  · have hlt : i < 16 := by simp at hlt; omega
    have hb := bit_eff told i
    have nx := next (i + 1) hlt (by show 16 - (i + 1) < 16 - i; omega)
    cases h1 : told.getLsbD i
    · rw [h1] at hb
      rw [seeS_no h1]
      refine AWP.runL e tab_ok L11 300 rfl (by first | trivial | (simp [in64] <;> omega)) ?_
      repeat (
        first
          | (refine AWP.askT rfl ?_; (first | (refine Told.t rfl ?_) | (refine Told.f rfl ?_) | (refine Told.t ?_ ?_; (focus (first | assumption | (simp; omega) | (simp [*]; done)); done)) | (refine Told.f ?_ ?_; (focus (first | assumption | (simp; omega) | (simp [*]; done)); done))); refine AWP.runL e tab_ok L11 300 rfl (by first | trivial | (simp [in64] <;> omega)) ?_)
          | (refine AWP.callQ e rfl rfl ?_; (first | refine CallQ.mk (hb) rfl rfl ?_); refine AWP.runL e tab_ok L11 300 rfl (by first | trivial | (simp [in64] <;> omega)) ?_)
          | (refine AWP.eq_agg e tab_ok rfl rfl rfl (.inl ⟨rfl, rfl⟩) ?_ 5 (by omega) rfl ?_ rfl rfl rfl rfl rfl rfl rfl ?_; (focus kernel_rfl); (focus kernel_rfl); refine AWP.runL e tab_ok L11 300 rfl (by first | trivial | (simp [in64] <;> omega)) ?_)
          | (refine AWP.eq_agg e tab_ok rfl rfl rfl (.inr ⟨rfl, rfl⟩) ?_ 5 (by omega) rfl ?_ rfl rfl rfl rfl rfl rfl rfl ?_; (focus kernel_rfl); (focus kernel_rfl); refine AWP.runL e tab_ok L11 300 rfl (by first | trivial | (simp [in64] <;> omega)) ?_)
        )
      refine AWP.less e ?_ ?_ ?_ ?_ ?_ (nx) <;> (repeat' (first | exact True.intro | (refine And.intro ?_ ?_) | rfl | assumption))
    · rw [h1] at hb
      refine AWP.runL e tab_ok L11 300 rfl (by first | trivial | (simp [in64] <;> omega)) ?_
      repeat (
        first
          | (refine AWP.askT rfl ?_; (first | (refine Told.t rfl ?_) | (refine Told.f rfl ?_) | (refine Told.t ?_ ?_; (focus (first | assumption | (simp; omega) | (simp [*]; done)); done)) | (refine Told.f ?_ ?_; (focus (first | assumption | (simp; omega) | (simp [*]; done)); done))); refine AWP.runL e tab_ok L11 300 rfl (by first | trivial | (simp [in64] <;> omega)) ?_)
          | (refine AWP.callQ e rfl rfl ?_; (first | refine CallQ.mk (hb) rfl rfl ?_); refine AWP.runL e tab_ok L11 300 rfl (by first | trivial | (simp [in64] <;> omega)) ?_)
          | (refine AWP.idx_pel e tab_ok rfl rfl rfl rfl rfl _ rfl ?_ ?_; (focus (first | assumption | omega | decide)); refine AWP.runL e tab_ok L11 300 rfl (by first | trivial | (simp [in64] <;> omega)) ?_)
          | (refine AWP.store_pel e tab_ok rfl rfl rfl rfl rfl rfl rfl rfl (pn_at (by simp) hlt) ((pn_set (by simp) hlt).trans (congrArg (fun s => pnC m o s l) (seeS_yes h1))) ?_; refine AWP.runL e tab_ok L11 300 rfl (by first | trivial | (simp [in64] <;> omega)) ?_)
          | (refine AWP.eq_agg e tab_ok rfl rfl rfl (.inl ⟨rfl, rfl⟩) ?_ 5 (by omega) rfl ?_ rfl rfl rfl rfl rfl rfl rfl ?_; (focus kernel_rfl); (focus kernel_rfl); refine AWP.runL e tab_ok L11 300 rfl (by first | trivial | (simp [in64] <;> omega)) ?_)
          | (refine AWP.eq_agg e tab_ok rfl rfl rfl (.inr ⟨rfl, rfl⟩) ?_ 5 (by omega) rfl ?_ rfl rfl rfl rfl rfl rfl rfl ?_; (focus kernel_rfl); (focus kernel_rfl); refine AWP.runL e tab_ok L11 300 rfl (by first | trivial | (simp [in64] <;> omega)) ?_)
          | (refine AWP.keep L11 rfl ?_; refine AWP.drg 100 ?_; (refine DrG.runS e tab_ok 200 rfl (by first | trivial | (simp [in64] <;> omega)) ?_); (repeat (first | (refine DrG.askT rfl ?_; (first | (refine Told.t rfl ?_) | (refine Told.f rfl ?_) | (refine Told.t ?_ ?_; (focus (first | assumption | (simp; omega) | (simp [*]; done)); done)) | (refine Told.f ?_ ?_; (focus (first | assumption | (simp; omega) | (simp [*]; done)); done))); (refine DrG.runS e tab_ok 200 rfl (by first | trivial | (simp [in64] <;> omega)) ?_)) | (refine DrG.idx_pel e tab_ok rfl rfl rfl rfl rfl _ rfl ?_ rfl ?_; (focus (first | assumption | omega | decide)); (refine DrG.runS e tab_ok 200 rfl (by first | trivial | (simp [in64] <;> omega)) ?_)) | (refine DrG.idx_pelGo e tab_ok rfl rfl rfl rfl rfl rfl _ rfl ?_ rfl ?_; (focus (first | assumption | omega | decide)); (refine DrG.runS e tab_ok 200 rfl (by first | trivial | (simp [in64] <;> omega)) ?_)) | (refine DrG.store_pel e tab_ok rfl rfl rfl rfl rfl rfl rfl rfl (pn_at (by simp) hlt) ((pn_set (by simp) hlt).trans (congrArg (fun s => pnC m o s l) (seeS_yes h1))) rfl rfl ?_; (refine DrG.runS e tab_ok 200 rfl (by first | trivial | (simp [in64] <;> omega)) ?_)) | (refine DrG.callQ e rfl rfl ?_; (first | refine CallVQ.mk (hb) rfl rfl ?_); (refine DrG.runS e tab_ok 200 rfl (by first | trivial | (simp [in64] <;> omega)) ?_)) | (refine DrG.callGo e rfl rfl rfl ?_; (first | refine CallVQ.mk (hb) rfl rfl ?_); (refine DrG.runS e tab_ok 200 rfl (by first | trivial | (simp [in64] <;> omega)) ?_)) | (refine DrG.eq_agg e tab_ok rfl rfl rfl (.inl ⟨rfl, rfl⟩) ?_ 5 (by omega) rfl ?_ rfl rfl rfl rfl rfl rfl rfl ?_; (focus kernel_rfl); (focus kernel_rfl); (refine DrG.runS e tab_ok 200 rfl (by first | trivial | (simp [in64] <;> omega)) ?_)) | (refine DrG.eq_aggGo e tab_ok rfl rfl rfl rfl (.inl ⟨rfl, rfl⟩) ?_ 5 (by omega) rfl ?_ rfl rfl rfl rfl rfl rfl rfl ?_; (focus kernel_rfl); (focus kernel_rfl); (refine DrG.runS e tab_ok 200 rfl (by first | trivial | (simp [in64] <;> omega)) ?_)) | (refine DrG.eq_agg e tab_ok rfl rfl rfl (.inr ⟨rfl, rfl⟩) ?_ 5 (by omega) rfl ?_ rfl rfl rfl rfl rfl rfl rfl ?_; (focus kernel_rfl); (focus kernel_rfl); (refine DrG.runS e tab_ok 200 rfl (by first | trivial | (simp [in64] <;> omega)) ?_)) | (refine DrG.eq_aggGo e tab_ok rfl rfl rfl rfl (.inr ⟨rfl, rfl⟩) ?_ 5 (by omega) rfl ?_ rfl rfl rfl rfl rfl rfl rfl ?_; (focus kernel_rfl); (focus kernel_rfl); (refine DrG.runS e tab_ok 200 rfl (by first | trivial | (simp [in64] <;> omega)) ?_)))); refine DrG.finK e rfl ?_ rfl rfl rfl ?_ ?_; (focus kernel_rfl); (focus (repeat' (first | exact True.intro | (refine And.intro ?_ ?_) | rfl | assumption | exact okRow _))); dsimp only [tmS, hpS, tput, effH]; refine AWP.runL e tab_ok L11 300 rfl (by first | trivial | (simp [in64] <;> omega)) ?_)
        )
      refine AWP.less e ?_ ?_ ?_ ?_ ?_ (nx) <;> (repeat' (first | exact True.intro | (refine And.intro ?_ ?_) | rfl | assumption))
  · obtain rfl : i = 16 := by simp at hlt; omega
    refine AWP.runL e tab_ok L11 300 rfl (by first | trivial | (simp [in64] <;> omega)) ?_
    refine AWP.ret e tab_ok rfl ?_
    rw [hP]
    all_goals first | rfl | (simp [strip]; done)

set_option maxRecDepth 100000 in
theorem see_bad (m o : BitVec 16) (s : Nat → Int) (l : Int) (told : BitVec 16) (h : rightB m o s l = false) : Eff Try.prog 11 [pn m o s l, U16 told] [] 0 (fun r _ _ => r = .tup [pn0, .i 1]) := by
  have hr := right_eff m o s l
  rw [h] at hr
  refine eff_of Try.func11 rfl rfl rfl fun cx e hP => ?_
  refine AWP.runL e tab_ok L11 300 rfl (by first | trivial | (simp [in64] <;> omega)) ?_
  repeat (
    first
      | (refine AWP.askT rfl ?_; (first | (refine Told.t rfl ?_) | (refine Told.f rfl ?_) | (refine Told.t ?_ ?_; (focus (first | assumption | (simp; omega) | (simp [*]; done)); done)) | (refine Told.f ?_ ?_; (focus (first | assumption | (simp; omega) | (simp [*]; done)); done))); refine AWP.runL e tab_ok L11 300 rfl (by first | trivial | (simp [in64] <;> omega)) ?_)
      | (refine AWP.callQ e rfl rfl ?_; (first | refine CallQ.mk (hr) rfl rfl ?_); refine AWP.runL e tab_ok L11 300 rfl (by first | trivial | (simp [in64] <;> omega)) ?_)
      | (refine AWP.eq_agg e tab_ok rfl rfl rfl (.inl ⟨rfl, rfl⟩) ?_ 5 (by omega) rfl ?_ rfl rfl rfl rfl rfl rfl rfl ?_; (focus kernel_rfl); (focus kernel_rfl); refine AWP.runL e tab_ok L11 300 rfl (by first | trivial | (simp [in64] <;> omega)) ?_)
      | (refine AWP.eq_agg e tab_ok rfl rfl rfl (.inr ⟨rfl, rfl⟩) ?_ 5 (by omega) rfl ?_ rfl rfl rfl rfl rfl rfl rfl ?_; (focus kernel_rfl); (focus kernel_rfl); refine AWP.runL e tab_ok L11 300 rfl (by first | trivial | (simp [in64] <;> omega)) ?_)
    )
  refine AWP.ret e tab_ok rfl ?_
  rw [hP]
  all_goals first | rfl | (simp [strip]; done)

def dn (v : Int) : Int := if 0 > v - 1 then 0 else v - 1
def tickS (s : Nat → Int) (i k : Nat) : Int := if k < i then dn (s k) else s k
theorem tickS_0 (s : Nat → Int) : tickS s 0 = s := by funext k; simp [tickS]
theorem tickS_at (s : Nat → Int) (i : Nat) : tickS s i i = s i := by simp [tickS]
theorem tickS_up (s : Nat → Int) (i : Nat) : upd1 (tickS s i) i (dn (tickS s i i)) = tickS s (i + 1) := by
  rw [tickS_at]
  funext k
  unfold upd1 tickS
  by_cases e : k = i
  · subst e; simp
  · by_cases c : k < i
    · simp [e, c, show k < i + 1 by omega]
    · simp [e, c, show ¬ k < i + 1 by omega]

set_option maxRecDepth 100000 in
theorem tick_ok (m o : BitVec 16) (s : Nat → Int) (l : Int) (h : rightB m o s l = true) : Eff Try.prog 13 [pn m o s l] [] 0 (fun r _ _ => r = .tup [pn m o (tickS s 16) l, .i 0]) := by
  have hr := right_eff m o s l
  have hP' := rightB_iff.1 h
  rw [h] at hr
  refine eff_of Try.func13 rfl rfl rfl fun cx e hP => ?_
  refine AWP.runL e tab_ok L13 300 rfl (by first | trivial | (simp [in64] <;> omega)) ?_
  repeat (
    first
      | (refine AWP.askT rfl ?_; (first | (refine Told.t rfl ?_) | (refine Told.f rfl ?_) | (refine Told.t ?_ ?_; (focus (first | assumption | (simp; omega) | (simp [*]; done)); done)) | (refine Told.f ?_ ?_; (focus (first | assumption | (simp; omega) | (simp [*]; done)); done))); refine AWP.runL e tab_ok L13 300 rfl (by first | trivial | (simp [in64] <;> omega)) ?_)
      | (refine AWP.callQ e rfl rfl ?_; (first | refine CallQ.mk (hr) rfl rfl ?_); refine AWP.runL e tab_ok L13 300 rfl (by first | trivial | (simp [in64] <;> omega)) ?_)
      | (refine AWP.eq_agg e tab_ok rfl rfl rfl (.inl ⟨rfl, rfl⟩) ?_ 5 (by omega) rfl ?_ rfl rfl rfl rfl rfl rfl rfl ?_; (focus kernel_rfl); (focus kernel_rfl); refine AWP.runL e tab_ok L13 300 rfl (by first | trivial | (simp [in64] <;> omega)) ?_)
      | (refine AWP.eq_agg e tab_ok rfl rfl rfl (.inr ⟨rfl, rfl⟩) ?_ 5 (by omega) rfl ?_ rfl rfl rfl rfl rfl rfl rfl ?_; (focus kernel_rfl); (focus kernel_rfl); refine AWP.runL e tab_ok L13 300 rfl (by first | trivial | (simp [in64] <;> omega)) ?_)
    )
  refine AWP.loop (ι := Nat) (fun i => ⟨[(9, .i i), (1, .ptr 0 0), (2, .ptr 1 0)], [(0, .box (pnC m o (tickS s i) l)), (1, .box (pnC 0#16 0#16 (fun _ => 0) 0))], 2⟩) (fun i => i ≤ 16) (fun i => 16 - i) 0 (Nat.zero_le _) ?_ ?_
  · intro g
    rw [tickS_0] at g
    refine AWP.less e ?_ ?_ ?_ ?_ ?_ (g) <;> (repeat' (first | exact True.intro | (refine And.intro ?_ ?_) | rfl | assumption))
  rintro i Φ hI next
  have hI : i ≤ 16 := hI
  refine AWP.runL e tab_ok L13 300 rfl (by first | trivial | (simp [in64] <;> omega)) ?_
  refine AWP.cond2 rfl (fun hlt => ?_) (fun hlt => ?_)
  · have hlt : i < 16 := by simp at hlt; omega
    have nx := next (i + 1) hlt (by show 16 - (i + 1) < 16 - i; omega)
    have h1 := hP'.2.2 i hlt
    have h2 := hP'.1
    rw [← tickS_at s i] at h1
    refine AWP.runL e tab_ok L13 300 rfl (by first | trivial | (simp [in64] <;> omega)) ?_
    repeat (
      first
        | (refine AWP.askT rfl ?_; (first | (refine Told.t rfl ?_) | (refine Told.f rfl ?_) | (refine Told.t ?_ ?_; (focus (first | assumption | (simp; omega) | (simp [*]; done)); done)) | (refine Told.f ?_ ?_; (focus (first | assumption | (simp; omega) | (simp [*]; done)); done))); refine AWP.runL e tab_ok L13 300 rfl (by first | trivial | (simp [in64] <;> omega)) ?_)
        | (refine AWP.idx_pel e tab_ok rfl rfl rfl rfl rfl _ rfl ?_ ?_; (focus (first | assumption | omega | decide)); refine AWP.runL e tab_ok L13 300 rfl (by first | trivial | (simp [in64] <;> omega)) ?_)
        | (refine AWP.load_pel e tab_ok _ rfl rfl rfl rfl rfl (pn_at (by simp) hlt) ?_; refine AWP.runL e tab_ok L13 300 rfl (by first | trivial | (simp [in64] <;> omega)) ?_)
        | (refine AWP.store_pel e tab_ok rfl rfl rfl rfl rfl rfl rfl rfl (pn_at (by simp) hlt) ((pn_set (by simp) hlt).trans (congrArg (fun s => pnC m o s l) (tickS_up s i))) ?_; refine AWP.runL e tab_ok L13 300 rfl (by first | trivial | (simp [in64] <;> omega)) ?_)
        | (refine AWP.eq_agg e tab_ok rfl rfl rfl (.inl ⟨rfl, rfl⟩) ?_ 5 (by omega) rfl ?_ rfl rfl rfl rfl rfl rfl rfl ?_; (focus kernel_rfl); (focus kernel_rfl); refine AWP.runL e tab_ok L13 300 rfl (by first | trivial | (simp [in64] <;> omega)) ?_)
        | (refine AWP.eq_agg e tab_ok rfl rfl rfl (.inr ⟨rfl, rfl⟩) ?_ 5 (by omega) rfl ?_ rfl rfl rfl rfl rfl rfl rfl ?_; (focus kernel_rfl); (focus kernel_rfl); refine AWP.runL e tab_ok L13 300 rfl (by first | trivial | (simp [in64] <;> omega)) ?_)
        | (refine AWP.keep L13 rfl ?_; refine AWP.drg 100 ?_; (refine DrG.runS e tab_ok 200 rfl (by first | trivial | (simp [in64] <;> omega)) ?_); (repeat (first | (refine DrG.askT rfl ?_; (first | (refine Told.t rfl ?_) | (refine Told.f rfl ?_) | (refine Told.t ?_ ?_; (focus (first | assumption | (simp; omega) | (simp [*]; done)); done)) | (refine Told.f ?_ ?_; (focus (first | assumption | (simp; omega) | (simp [*]; done)); done))); (refine DrG.runS e tab_ok 200 rfl (by first | trivial | (simp [in64] <;> omega)) ?_)) | (refine DrG.idx_pel e tab_ok rfl rfl rfl rfl rfl _ rfl ?_ rfl ?_; (focus (first | assumption | omega | decide)); (refine DrG.runS e tab_ok 200 rfl (by first | trivial | (simp [in64] <;> omega)) ?_)) | (refine DrG.idx_pelGo e tab_ok rfl rfl rfl rfl rfl rfl _ rfl ?_ rfl ?_; (focus (first | assumption | omega | decide)); (refine DrG.runS e tab_ok 200 rfl (by first | trivial | (simp [in64] <;> omega)) ?_)) | (refine DrG.load_pel e tab_ok _ rfl rfl rfl rfl rfl (pn_at (by simp) hlt) rfl ?_; (refine DrG.runS e tab_ok 200 rfl (by first | trivial | (simp [in64] <;> omega)) ?_)) | (refine DrG.load_pelGo e tab_ok _ rfl rfl rfl rfl rfl rfl (pn_at (by simp) hlt) rfl ?_; (refine DrG.runS e tab_ok 200 rfl (by first | trivial | (simp [in64] <;> omega)) ?_)) | (refine DrG.store_pel e tab_ok rfl rfl rfl rfl rfl rfl rfl rfl (pn_at (by simp) hlt) ((pn_set (by simp) hlt).trans (congrArg (fun s => pnC m o s l) (tickS_up s i))) rfl rfl ?_; (refine DrG.runS e tab_ok 200 rfl (by first | trivial | (simp [in64] <;> omega)) ?_)) | (refine DrG.eq_agg e tab_ok rfl rfl rfl (.inl ⟨rfl, rfl⟩) ?_ 5 (by omega) rfl ?_ rfl rfl rfl rfl rfl rfl rfl ?_; (focus kernel_rfl); (focus kernel_rfl); (refine DrG.runS e tab_ok 200 rfl (by first | trivial | (simp [in64] <;> omega)) ?_)) | (refine DrG.eq_aggGo e tab_ok rfl rfl rfl rfl (.inl ⟨rfl, rfl⟩) ?_ 5 (by omega) rfl ?_ rfl rfl rfl rfl rfl rfl rfl ?_; (focus kernel_rfl); (focus kernel_rfl); (refine DrG.runS e tab_ok 200 rfl (by first | trivial | (simp [in64] <;> omega)) ?_)) | (refine DrG.eq_agg e tab_ok rfl rfl rfl (.inr ⟨rfl, rfl⟩) ?_ 5 (by omega) rfl ?_ rfl rfl rfl rfl rfl rfl rfl ?_; (focus kernel_rfl); (focus kernel_rfl); (refine DrG.runS e tab_ok 200 rfl (by first | trivial | (simp [in64] <;> omega)) ?_)) | (refine DrG.eq_aggGo e tab_ok rfl rfl rfl rfl (.inr ⟨rfl, rfl⟩) ?_ 5 (by omega) rfl ?_ rfl rfl rfl rfl rfl rfl rfl ?_; (focus kernel_rfl); (focus kernel_rfl); (refine DrG.runS e tab_ok 200 rfl (by first | trivial | (simp [in64] <;> omega)) ?_)))); refine DrG.finK e rfl ?_ rfl rfl rfl ?_ ?_; (focus kernel_rfl); (focus (repeat' (first | exact True.intro | (refine And.intro ?_ ?_) | rfl | assumption | exact okRow _))); dsimp only [tmS, hpS, tput, effH]; refine AWP.runL e tab_ok L13 300 rfl (by first | trivial | (simp [in64] <;> omega)) ?_)
      )
    refine AWP.less e ?_ ?_ ?_ ?_ ?_ (nx) <;> (repeat' (first | exact True.intro | (refine And.intro ?_ ?_) | rfl | assumption))
  · obtain rfl : i = 16 := by simp at hlt; omega
    refine AWP.runL e tab_ok L13 300 rfl (by first | trivial | (simp [in64] <;> omega)) ?_
    refine AWP.ret e tab_ok rfl ?_
    rw [hP]
    all_goals first | rfl | (simp [strip]; done)

set_option maxRecDepth 100000 in
theorem tick_bad (m o : BitVec 16) (s : Nat → Int) (l : Int) (h : rightB m o s l = false) : Eff Try.prog 13 [pn m o s l] [] 0 (fun r _ _ => r = .tup [pn0, .i 1]) := by
  have hr := right_eff m o s l
  rw [h] at hr
  refine eff_of Try.func13 rfl rfl rfl fun cx e hP => ?_
  refine AWP.runL e tab_ok L13 300 rfl (by first | trivial | (simp [in64] <;> omega)) ?_
  repeat (
    first
      | (refine AWP.askT rfl ?_; (first | (refine Told.t rfl ?_) | (refine Told.f rfl ?_) | (refine Told.t ?_ ?_; (focus (first | assumption | (simp; omega) | (simp [*]; done)); done)) | (refine Told.f ?_ ?_; (focus (first | assumption | (simp; omega) | (simp [*]; done)); done))); refine AWP.runL e tab_ok L13 300 rfl (by first | trivial | (simp [in64] <;> omega)) ?_)
      | (refine AWP.callQ e rfl rfl ?_; (first | refine CallQ.mk (hr) rfl rfl ?_); refine AWP.runL e tab_ok L13 300 rfl (by first | trivial | (simp [in64] <;> omega)) ?_)
      | (refine AWP.eq_agg e tab_ok rfl rfl rfl (.inl ⟨rfl, rfl⟩) ?_ 5 (by omega) rfl ?_ rfl rfl rfl rfl rfl rfl rfl ?_; (focus kernel_rfl); (focus kernel_rfl); refine AWP.runL e tab_ok L13 300 rfl (by first | trivial | (simp [in64] <;> omega)) ?_)
      | (refine AWP.eq_agg e tab_ok rfl rfl rfl (.inr ⟨rfl, rfl⟩) ?_ 5 (by omega) rfl ?_ rfl rfl rfl rfl rfl rfl rfl ?_; (focus kernel_rfl); (focus kernel_rfl); refine AWP.runL e tab_ok L13 300 rfl (by first | trivial | (simp [in64] <;> omega)) ?_)
    )
  refine AWP.ret e tab_ok rfl ?_
  rw [hP]
  all_goals first | rfl | (simp [strip]; done)

def actN (o : BitVec 16) (s : Nat → Int) : Nat → BitVec 16
  | 0 => o
  | i + 1 => if s i > 0 then actN o s i ||| (1#16 <<< i) else actN o s i

theorem or_shl (x : BitVec 16) (i : Nat) : (IntKind.wrap .u16 ((BitVec.ofInt 16 (x.toNat : Int) ||| BitVec.ofInt 16 (IntKind.wrap .u16 ((1 : Int) * 2 ^ (min ((i : Nat) : Int).toNat 16)))).toNat : Int)) = ((x ||| (1#16 <<< i)).toNat : Int) := by
  rw [show (1 : Int) = (((1#16).toNat : Nat) : Int) from rfl, u16shl, ofInt_toNat, ofInt_toNat, u16w]
theorem and_val (x y : BitVec 16) : (IntKind.wrap .u16 ((BitVec.ofInt 16 (x.toNat : Int) &&& BitVec.ofInt 16 (y.toNat : Int)).toNat : Int)) = ((x &&& y).toNat : Int) := by
  rw [ofInt_toNat, ofInt_toNat, u16w]

set_option maxRecDepth 100000 in
theorem active_ok (m o : BitVec 16) (s : Nat → Int) (l : Int) (h : rightB m o s l = true) : Eff Try.prog 12 [pn m o s l] [] 0 (fun r _ _ => r = U16 (actN o s 16 &&& m)) := by
  have hr := right_eff m o s l
  rw [h] at hr
  refine eff_of Try.func12 rfl rfl rfl fun cx e hP => ?_
  refine AWP.runL e tab_ok L12 300 rfl (by first | trivial | (simp [in64] <;> omega)) ?_
  repeat (
    first
      | (refine AWP.askT rfl ?_; (first | (refine Told.t rfl ?_) | (refine Told.f rfl ?_) | (refine Told.t ?_ ?_; (focus (first | assumption | (simp; omega) | (simp [*]; done)); done)) | (refine Told.f ?_ ?_; (focus (first | assumption | (simp; omega) | (simp [*]; done)); done))); refine AWP.runL e tab_ok L12 300 rfl (by first | trivial | (simp [in64] <;> omega)) ?_)
      | (refine AWP.callQ e rfl rfl ?_; (first | refine CallQ.mk (hr) rfl rfl ?_); refine AWP.runL e tab_ok L12 300 rfl (by first | trivial | (simp [in64] <;> omega)) ?_)
      | (refine AWP.eq_agg e tab_ok rfl rfl rfl (.inl ⟨rfl, rfl⟩) ?_ 5 (by omega) rfl ?_ rfl rfl rfl rfl rfl rfl rfl ?_; (focus kernel_rfl); (focus kernel_rfl); refine AWP.runL e tab_ok L12 300 rfl (by first | trivial | (simp [in64] <;> omega)) ?_)
      | (refine AWP.eq_agg e tab_ok rfl rfl rfl (.inr ⟨rfl, rfl⟩) ?_ 5 (by omega) rfl ?_ rfl rfl rfl rfl rfl rfl rfl ?_; (focus kernel_rfl); (focus kernel_rfl); refine AWP.runL e tab_ok L12 300 rfl (by first | trivial | (simp [in64] <;> omega)) ?_)
    )
  refine AWP.loop (ι := Nat) (fun i => ⟨[(10, .i i), (1, .ptr 0 0), (3, U16 (actN o s i))], [(0, .box (pnC m o s l))], 1⟩) (fun i => i ≤ 16) (fun i => 16 - i) 0 (Nat.zero_le _) ?_ ?_
  · intro g
    refine AWP.less e ?_ ?_ ?_ ?_ ?_ (g) <;> (repeat' (first | exact True.intro | (refine And.intro ?_ ?_) | rfl | assumption))
  rintro i Φ hI next
  have hI : i ≤ 16 := hI
  refine AWP.runL e tab_ok L12 300 rfl (by first | trivial | (simp [in64] <;> omega)) ?_
  refine AWP.cond2 rfl (fun hlt => ?_) (fun hlt => ?_)
  · have hlt : i < 16 := by simp at hlt; omega
    have nx := next (i + 1) hlt (by show 16 - (i + 1) < 16 - i; omega)
    by_cases h1 : s i > 0
    · refine AWP.runL e tab_ok L12 300 rfl (by first | trivial | (simp [in64] <;> omega)) ?_
      repeat (
        first
          | (refine AWP.askT rfl ?_; (first | (refine Told.t rfl ?_) | (refine Told.f rfl ?_) | (refine Told.t ?_ ?_; (focus (first | assumption | (simp; omega) | (simp [*]; done)); done)) | (refine Told.f ?_ ?_; (focus (first | assumption | (simp; omega) | (simp [*]; done)); done))); refine AWP.runL e tab_ok L12 300 rfl (by first | trivial | (simp [in64] <;> omega)) ?_)
          | (refine AWP.idx_pel e tab_ok rfl rfl rfl rfl rfl _ rfl ?_ ?_; (focus (first | assumption | omega | decide)); refine AWP.runL e tab_ok L12 300 rfl (by first | trivial | (simp [in64] <;> omega)) ?_)
          | (refine AWP.load_pel e tab_ok _ rfl rfl rfl rfl rfl (pn_at (by simp) hlt) ?_; refine AWP.runL e tab_ok L12 300 rfl (by first | trivial | (simp [in64] <;> omega)) ?_)
          | (refine AWP.eq_agg e tab_ok rfl rfl rfl (.inl ⟨rfl, rfl⟩) ?_ 5 (by omega) rfl ?_ rfl rfl rfl rfl rfl rfl rfl ?_; (focus kernel_rfl); (focus kernel_rfl); refine AWP.runL e tab_ok L12 300 rfl (by first | trivial | (simp [in64] <;> omega)) ?_)
          | (refine AWP.eq_agg e tab_ok rfl rfl rfl (.inr ⟨rfl, rfl⟩) ?_ 5 (by omega) rfl ?_ rfl rfl rfl rfl rfl rfl rfl ?_; (focus kernel_rfl); (focus kernel_rfl); refine AWP.runL e tab_ok L12 300 rfl (by first | trivial | (simp [in64] <;> omega)) ?_)
          | (refine AWP.keep L12 rfl ?_; refine AWP.drg 100 ?_; (refine DrG.runS e tab_ok 200 rfl (by first | trivial | (simp [in64] <;> omega)) ?_); (repeat (first | (refine DrG.askT rfl ?_; (first | (refine Told.t rfl ?_) | (refine Told.f rfl ?_) | (refine Told.t ?_ ?_; (focus (first | assumption | (simp; omega) | (simp [*]; done)); done)) | (refine Told.f ?_ ?_; (focus (first | assumption | (simp; omega) | (simp [*]; done)); done))); (refine DrG.runS e tab_ok 200 rfl (by first | trivial | (simp [in64] <;> omega)) ?_)) | (refine DrG.idx_pel e tab_ok rfl rfl rfl rfl rfl _ rfl ?_ rfl ?_; (focus (first | assumption | omega | decide)); (refine DrG.runS e tab_ok 200 rfl (by first | trivial | (simp [in64] <;> omega)) ?_)) | (refine DrG.idx_pelGo e tab_ok rfl rfl rfl rfl rfl rfl _ rfl ?_ rfl ?_; (focus (first | assumption | omega | decide)); (refine DrG.runS e tab_ok 200 rfl (by first | trivial | (simp [in64] <;> omega)) ?_)) | (refine DrG.load_pel e tab_ok _ rfl rfl rfl rfl rfl (pn_at (by simp) hlt) rfl ?_; (refine DrG.runS e tab_ok 200 rfl (by first | trivial | (simp [in64] <;> omega)) ?_)) | (refine DrG.load_pelGo e tab_ok _ rfl rfl rfl rfl rfl rfl (pn_at (by simp) hlt) rfl ?_; (refine DrG.runS e tab_ok 200 rfl (by first | trivial | (simp [in64] <;> omega)) ?_)) | (refine DrG.eq_agg e tab_ok rfl rfl rfl (.inl ⟨rfl, rfl⟩) ?_ 5 (by omega) rfl ?_ rfl rfl rfl rfl rfl rfl rfl ?_; (focus kernel_rfl); (focus kernel_rfl); (refine DrG.runS e tab_ok 200 rfl (by first | trivial | (simp [in64] <;> omega)) ?_)) | (refine DrG.eq_aggGo e tab_ok rfl rfl rfl rfl (.inl ⟨rfl, rfl⟩) ?_ 5 (by omega) rfl ?_ rfl rfl rfl rfl rfl rfl rfl ?_; (focus kernel_rfl); (focus kernel_rfl); (refine DrG.runS e tab_ok 200 rfl (by first | trivial | (simp [in64] <;> omega)) ?_)) | (refine DrG.eq_agg e tab_ok rfl rfl rfl (.inr ⟨rfl, rfl⟩) ?_ 5 (by omega) rfl ?_ rfl rfl rfl rfl rfl rfl rfl ?_; (focus kernel_rfl); (focus kernel_rfl); (refine DrG.runS e tab_ok 200 rfl (by first | trivial | (simp [in64] <;> omega)) ?_)) | (refine DrG.eq_aggGo e tab_ok rfl rfl rfl rfl (.inr ⟨rfl, rfl⟩) ?_ 5 (by omega) rfl ?_ rfl rfl rfl rfl rfl rfl rfl ?_; (focus kernel_rfl); (focus kernel_rfl); (refine DrG.runS e tab_ok 200 rfl (by first | trivial | (simp [in64] <;> omega)) ?_)))); refine DrG.finK e rfl ?_ rfl rfl rfl ?_ ?_; (focus kernel_rfl); (focus (repeat' (first | exact True.intro | (refine And.intro ?_ ?_) | rfl | assumption | exact okRow _))); dsimp only [tmS, hpS, tput, effH]; refine AWP.runL e tab_ok L12 300 rfl (by first | trivial | (simp [in64] <;> omega)) ?_)
        )
      refine AWP.eqT 3 (U16 (actN o s (i + 1))) rfl ?_ ?_
      · rw [actN, if_pos h1]
        exact congrArg (fun z => SV.d (.v (.int .u16 z))) (or_shl _ _)
      refine AWP.less e ?_ ?_ ?_ ?_ ?_ (nx) <;> (repeat' (first | exact True.intro | (refine And.intro ?_ ?_) | rfl | assumption))
    · refine AWP.runL e tab_ok L12 300 rfl (by first | trivial | (simp [in64] <;> omega)) ?_
      repeat (
        first
          | (refine AWP.askT rfl ?_; (first | (refine Told.t rfl ?_) | (refine Told.f rfl ?_) | (refine Told.t ?_ ?_; (focus (first | assumption | (simp; omega) | (simp [*]; done)); done)) | (refine Told.f ?_ ?_; (focus (first | assumption | (simp; omega) | (simp [*]; done)); done))); refine AWP.runL e tab_ok L12 300 rfl (by first | trivial | (simp [in64] <;> omega)) ?_)
          | (refine AWP.idx_pel e tab_ok rfl rfl rfl rfl rfl _ rfl ?_ ?_; (focus (first | assumption | omega | decide)); refine AWP.runL e tab_ok L12 300 rfl (by first | trivial | (simp [in64] <;> omega)) ?_)
          | (refine AWP.load_pel e tab_ok _ rfl rfl rfl rfl rfl (pn_at (by simp) hlt) ?_; refine AWP.runL e tab_ok L12 300 rfl (by first | trivial | (simp [in64] <;> omega)) ?_)
          | (refine AWP.eq_agg e tab_ok rfl rfl rfl (.inl ⟨rfl, rfl⟩) ?_ 5 (by omega) rfl ?_ rfl rfl rfl rfl rfl rfl rfl ?_; (focus kernel_rfl); (focus kernel_rfl); refine AWP.runL e tab_ok L12 300 rfl (by first | trivial | (simp [in64] <;> omega)) ?_)
          | (refine AWP.eq_agg e tab_ok rfl rfl rfl (.inr ⟨rfl, rfl⟩) ?_ 5 (by omega) rfl ?_ rfl rfl rfl rfl rfl rfl rfl ?_; (focus kernel_rfl); (focus kernel_rfl); refine AWP.runL e tab_ok L12 300 rfl (by first | trivial | (simp [in64] <;> omega)) ?_)
          | (refine AWP.keep L12 rfl ?_; refine AWP.drg 100 ?_; (refine DrG.runS e tab_ok 200 rfl (by first | trivial | (simp [in64] <;> omega)) ?_); (repeat (first | (refine DrG.askT rfl ?_; (first | (refine Told.t rfl ?_) | (refine Told.f rfl ?_) | (refine Told.t ?_ ?_; (focus (first | assumption | (simp; omega) | (simp [*]; done)); done)) | (refine Told.f ?_ ?_; (focus (first | assumption | (simp; omega) | (simp [*]; done)); done))); (refine DrG.runS e tab_ok 200 rfl (by first | trivial | (simp [in64] <;> omega)) ?_)) | (refine DrG.idx_pel e tab_ok rfl rfl rfl rfl rfl _ rfl ?_ rfl ?_; (focus (first | assumption | omega | decide)); (refine DrG.runS e tab_ok 200 rfl (by first | trivial | (simp [in64] <;> omega)) ?_)) | (refine DrG.idx_pelGo e tab_ok rfl rfl rfl rfl rfl rfl _ rfl ?_ rfl ?_; (focus (first | assumption | omega | decide)); (refine DrG.runS e tab_ok 200 rfl (by first | trivial | (simp [in64] <;> omega)) ?_)) | (refine DrG.load_pel e tab_ok _ rfl rfl rfl rfl rfl (pn_at (by simp) hlt) rfl ?_; (refine DrG.runS e tab_ok 200 rfl (by first | trivial | (simp [in64] <;> omega)) ?_)) | (refine DrG.load_pelGo e tab_ok _ rfl rfl rfl rfl rfl rfl (pn_at (by simp) hlt) rfl ?_; (refine DrG.runS e tab_ok 200 rfl (by first | trivial | (simp [in64] <;> omega)) ?_)) | (refine DrG.eq_agg e tab_ok rfl rfl rfl (.inl ⟨rfl, rfl⟩) ?_ 5 (by omega) rfl ?_ rfl rfl rfl rfl rfl rfl rfl ?_; (focus kernel_rfl); (focus kernel_rfl); (refine DrG.runS e tab_ok 200 rfl (by first | trivial | (simp [in64] <;> omega)) ?_)) | (refine DrG.eq_aggGo e tab_ok rfl rfl rfl rfl (.inl ⟨rfl, rfl⟩) ?_ 5 (by omega) rfl ?_ rfl rfl rfl rfl rfl rfl rfl ?_; (focus kernel_rfl); (focus kernel_rfl); (refine DrG.runS e tab_ok 200 rfl (by first | trivial | (simp [in64] <;> omega)) ?_)) | (refine DrG.eq_agg e tab_ok rfl rfl rfl (.inr ⟨rfl, rfl⟩) ?_ 5 (by omega) rfl ?_ rfl rfl rfl rfl rfl rfl rfl ?_; (focus kernel_rfl); (focus kernel_rfl); (refine DrG.runS e tab_ok 200 rfl (by first | trivial | (simp [in64] <;> omega)) ?_)) | (refine DrG.eq_aggGo e tab_ok rfl rfl rfl rfl (.inr ⟨rfl, rfl⟩) ?_ 5 (by omega) rfl ?_ rfl rfl rfl rfl rfl rfl rfl ?_; (focus kernel_rfl); (focus kernel_rfl); (refine DrG.runS e tab_ok 200 rfl (by first | trivial | (simp [in64] <;> omega)) ?_)))); refine DrG.finK e rfl ?_ rfl rfl rfl ?_ ?_; (focus kernel_rfl); (focus (repeat' (first | exact True.intro | (refine And.intro ?_ ?_) | rfl | assumption | exact okRow _))); dsimp only [tmS, hpS, tput, effH]; refine AWP.runL e tab_ok L12 300 rfl (by first | trivial | (simp [in64] <;> omega)) ?_)
        )
      rw [actN, if_neg h1] at nx
      refine AWP.less e ?_ ?_ ?_ ?_ ?_ (nx) <;> (repeat' (first | exact True.intro | (refine And.intro ?_ ?_) | rfl | assumption))
  · obtain rfl : i = 16 := by simp at hlt; omega
    refine AWP.runL e tab_ok L12 300 rfl (by first | trivial | (simp [in64] <;> omega)) ?_
    refine AWP.ret e tab_ok rfl ?_
    rw [hP]
    exact congrArg (fun z => SV.d (.v (.int .u16 z))) (and_val _ _)

set_option maxRecDepth 100000 in
theorem active_bad (m o : BitVec 16) (s : Nat → Int) (l : Int) (h : rightB m o s l = false) : Eff Try.prog 12 [pn m o s l] [] 0 (fun r _ _ => r = U16 0#16) := by
  have hr := right_eff m o s l
  rw [h] at hr
  refine eff_of Try.func12 rfl rfl rfl fun cx e hP => ?_
  refine AWP.runL e tab_ok L12 300 rfl (by first | trivial | (simp [in64] <;> omega)) ?_
  repeat (
    first
      | (refine AWP.askT rfl ?_; (first | (refine Told.t rfl ?_) | (refine Told.f rfl ?_) | (refine Told.t ?_ ?_; (focus (first | assumption | (simp; omega) | (simp [*]; done)); done)) | (refine Told.f ?_ ?_; (focus (first | assumption | (simp; omega) | (simp [*]; done)); done))); refine AWP.runL e tab_ok L12 300 rfl (by first | trivial | (simp [in64] <;> omega)) ?_)
      | (refine AWP.callQ e rfl rfl ?_; (first | refine CallQ.mk (hr) rfl rfl ?_); refine AWP.runL e tab_ok L12 300 rfl (by first | trivial | (simp [in64] <;> omega)) ?_)
      | (refine AWP.eq_agg e tab_ok rfl rfl rfl (.inl ⟨rfl, rfl⟩) ?_ 5 (by omega) rfl ?_ rfl rfl rfl rfl rfl rfl rfl ?_; (focus kernel_rfl); (focus kernel_rfl); refine AWP.runL e tab_ok L12 300 rfl (by first | trivial | (simp [in64] <;> omega)) ?_)
      | (refine AWP.eq_agg e tab_ok rfl rfl rfl (.inr ⟨rfl, rfl⟩) ?_ 5 (by omega) rfl ?_ rfl rfl rfl rfl rfl rfl rfl ?_; (focus kernel_rfl); (focus kernel_rfl); refine AWP.runL e tab_ok L12 300 rfl (by first | trivial | (simp [in64] <;> omega)) ?_)
    )
  refine AWP.ret e tab_ok rfl ?_
  rw [hP]
  all_goals first | rfl | (simp [strip]; done)

end Go.Proofs.Ytdjhmlmdcfgphaa
