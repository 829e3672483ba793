import Derived.Test.YtdjhmlmdcfgphaaF6
open Go Go.Proofs Go.Sy
namespace Go.Proofs.Ytdjhmlmdcfgphaa

structure ActV where
  n : Int
  on : Bool
  told : BitVec 16
  want : Bool
  ticks : Int
abbrev rowA (a : ActV) : List DV := [.v (.int .i64 a.n), .v (.bool a.on), .v (.int .u16 (a.told.toNat : Int)), .v (.bool a.want), .v (.int .i64 a.ticks)]
theorem acts_of : ∀ (ys : List (List DV)), (∀ el ∈ ys, Tyd tab 8 33 el) → ∃ l : List ActV, ys = l.map rowA
  | [], _ => ⟨[], rfl⟩
  | el :: ys, h => by
    obtain ⟨l, rfl⟩ := acts_of ys fun e he => h e (by simp [he])
    obtain ⟨_, _, rfl, ⟨n, rfl, _, _⟩, _, _, rfl, ⟨on, rfl⟩, _, _, rfl, ⟨told, rfl, t1, t2⟩, _, _, rfl, ⟨want, rfl⟩, _, _, rfl, ⟨ticks, rfl, _, _⟩, rfl⟩ := h el (by simp)
    obtain ⟨x, rfl⟩ := u16_of t1 t2
    exact ⟨⟨n, on, x, want, ticks⟩ :: l, rfl⟩

abbrev bC (w : Nat → Bool) : List SV := [.b (w 0), .b (w 1), .b (w 2), .b (w 3), .b (w 4), .b (w 5), .b (w 6), .b (w 7), .b (w 8), .b (w 9), .b (w 10), .b (w 11), .b (w 12), .b (w 13), .b (w 14), .b (w 15)]
abbrev uC (u : Nat → Int) : List SV := [.i (u 0), .i (u 1), .i (u 2), .i (u 3), .i (u 4), .i (u 5), .i (u 6), .i (u 7), .i (u 8), .i (u 9), .i (u 10), .i (u 11), .i (u 12), .i (u 13), .i (u 14), .i (u 15)]
theorem bC_at {w : Nat → Bool} {i j : Nat} (hj : j = i) (h : i < 16) : (bC w)[j]? = some (.b (w i)) := by
  subst hj
  rcases lt16 h with rfl | rfl | rfl | rfl | rfl | rfl | rfl | rfl | rfl | rfl | rfl | rfl | rfl | rfl | rfl | rfl <;> rfl
theorem uC_at {w : Nat → Int} {i j : Nat} (hj : j = i) (h : i < 16) : (uC w)[j]? = some (.i (w i)) := by
  subst hj
  rcases lt16 h with rfl | rfl | rfl | rfl | rfl | rfl | rfl | rfl | rfl | rfl | rfl | rfl | rfl | rfl | rfl | rfl <;> rfl
def updB (w : Nat → Bool) (i : Nat) (v : Bool) (k : Nat) : Bool := if k = i then v else w k
theorem bC_set {w : Nat → Bool} {v : Bool} {i j : Nat} (hj : j = i) (h : i < 16) : (bC w).set j (.b v) = bC (updB w i v) := by
  subst hj
  rcases lt16 h with rfl | rfl | rfl | rfl | rfl | rfl | rfl | rfl | rfl | rfl | rfl | rfl | rfl | rfl | rfl | rfl <;> rfl
theorem uC_set {w : Nat → Int} {v : Int} {i j : Nat} (hj : j = i) (h : i < 16) : (uC w).set j (.i v) = uC (upd1 w i v) := by
  subst hj
  rcases lt16 h with rfl | rfl | rfl | rfl | rfl | rfl | rfl | rfl | rfl | rfl | rfl | rfl | rfl | rfl | rfl | rfl <;> rfl

structure PI (m : BitVec 16) (L : Int) (o : BitVec 16) (s u : Nat → Int) (w : Nat → Bool) (now : Int) : Prop where
  r : rightB m o s L = true
  w : ∀ k, k < 16 → w k = o.getLsbD k
  s : ∀ k, k < 16 → s k = if u k > now then u k - now else 0
  u : ∀ k, k < 16 → 0 ≤ u k ∧ u k ≤ now + 20
  n : 0 ≤ now

theorem PI.want {m o : BitVec 16} {L : Int} {s u : Nat → Int} {w : Nat → Bool} {now : Int} (h : PI m L o s u w now) {i : Nat} (on : Bool) (hi : m.getLsbD i = true) : PI m L (wantB o i on) s u (updB w i on) now := by
  refine ⟨right_want h.r hi, fun k hk => ?_, h.s, h.u, h.n⟩
  rw [wantB_bit _ _ _ _ hk]
  unfold updB
  split
  · rfl
  · exact h.w k hk
theorem PI.see {m o : BitVec 16} {L : Int} {s u : Nat → Int} {w : Nat → Bool} {now : Int} (h : PI m L o s u w now) (hL : 1 ≤ L ∧ L ≤ 20) (told : BitVec 16) : PI m L o (seeS told s L 16) (seeS told u (now + L) 16) w now := by
  refine ⟨right_see h.r, h.w, fun k hk => ?_, fun k hk => ?_, h.n⟩
  · unfold seeS
    split
    · split <;> omega
    · exact h.s k hk
  · have := h.u k hk
    have := h.n
    unfold seeS
    split <;> omega
theorem PI.tick {m o : BitVec 16} {L : Int} {s u : Nat → Int} {w : Nat → Bool} {now : Int} (h : PI m L o s u w now) : PI m L o (tickS s 16) u w (now + 1) := by
  refine ⟨right_tick h.r, h.w, fun k hk => ?_, fun k hk => ?_, ?_⟩
  · have := h.s k hk
    have := h.u k hk
    have := h.n
    unfold tickS dn
    rw [if_pos hk]
    split at * <;> split <;> split <;> omega
  · have := h.u k hk; omega
  · have := h.n; omega
theorem PI.act {m o : BitVec 16} {L : Int} {s u : Nat → Int} {w : Nat → Bool} {now : Int} (h : PI m L o s u w now) (k : Nat) (hk : k < 16) : (actN o s 16 &&& m).getLsbD k = (m.getLsbD k && (w k || decide (u k > now))) := by
  rw [BitVec.getLsbD_and, actN_bit _ _ _ hk, h.w k hk, Bool.and_comm]
  have h1 := h.s k hk
  have : (k < 16 ∧ s k > 0) ↔ u k > now := by
    constructor
    · intro h2; split at h1 <;> omega
    · intro h2; rw [if_pos h2] at h1; omega
  rw [show decide (k < 16 ∧ s k > 0) = decide (u k > now) by exact decide_eq_decide.2 this]

theorem mod9 (z : Int) : ∃ n : Nat, 1 ≤ n ∧ n ≤ 9 ∧ Int.tmod (Int.tmod z 9 + 9) 9 + 1 = n ∧ -9 < Int.tmod z 9 ∧ Int.tmod z 9 < 9 ∧ 0 ≤ Int.tmod (Int.tmod z 9 + 9) 9 ∧ Int.tmod (Int.tmod z 9 + 9) 9 < 9 := by
  have h1 := Int.tmod_lt_of_pos z (show (0 : Int) < 9 by omega)
  have h2 := Int.lt_tmod_of_pos z (show (0 : Int) < 9 by omega)
  have h3 : 0 ≤ Int.tmod (Int.tmod z 9 + 9) 9 := Int.tmod_nonneg _ (by omega)
  have h4 := Int.tmod_lt_of_pos (Int.tmod z 9 + 9) (show (0 : Int) < 9 by omega)
  exact ⟨(Int.tmod (Int.tmod z 9 + 9) 9 + 1).toNat, by omega, by omega, by omega, h2, h1, h3, h4⟩

structure PS where
  o : BitVec 16
  s : Nat → Int
  u : Nat → Int
  w : Nat → Bool

abbrev acH (m : BitVec 16) (L : Int) (p : PS) : List (Nat × Blk) := [(0, .box (pnC m p.o p.s L)), (1, .box (bC p.w)), (2, .box (uC p.u))]
abbrev acT (m : BitVec 16) (L : Int) (acts : List ActV) (i : Nat) (now : Int) : List (Nat × SV) := [(40, .i i), (39, .i acts.length), (38, .d (.sl 5 (acts.map rowA))), (0, U16 m), (1, .i L), (7, .ptr 0 0), (9, .ptr 1 0), (10, .ptr 2 0), (11, .i now)]

set_option maxHeartbeats 4000000 in
set_option maxRecDepth 100000 in
theorem active_eff (m : BitVec 16) (l : Int) (acts : List ActV) (hws : acts.length ≤ 9223372036854775807) : Eff Try.prog 3 [U16 m, .i l, .d (.sl 5 (acts.map rowA))] [] 0 (fun r _ _ => r = .b true) := by
  obtain ⟨L, hL⟩ : ∃ L, L = if 20 < (if 1 > l then 1 else l) then 20 else if 1 > l then 1 else l := ⟨_, rfl⟩
  have hL1 : 1 ≤ L ∧ L ≤ 20 := by rw [hL]; split <;> split <;> omega
  have ha := new_ok m L (by omega)
  have ra : rightB m 0#16 (fun _ => 0) L = true := right_new (by omega)
  refine eff_of Try.func3 rfl rfl rfl fun cx e hP => ?_
  refine AWP.runL e tab_ok L3 300 rfl (by first | trivial | (simp [in64] <;> omega)) ?_
  refine AWP.eqT 1 (.i L) rfl (congrArg SV.i hL.symm) ?_
  refine AWP.eqT 28 (.i L) rfl (congrArg SV.i hL.symm) ?_
  clear hL
  repeat (
    first
      | (refine AWP.askT rfl ?_; (first | (refine Told.t rfl ?_) | (refine Told.f rfl ?_) | (refine Told.t ?_ ?_; (focus (first | assumption | (simp; omega) | (simp [*]; done)); done)) | (refine Told.f ?_ ?_; (focus (first | assumption | (simp; omega) | (simp [*]; done)); done))); refine AWP.runL e tab_ok L3 300 rfl (by first | trivial | (simp [in64] <;> omega)) ?_)
      | (refine AWP.callQ e rfl rfl ?_; (first | refine CallQ.mk (ha) rfl rfl ?_ | refine CallQ.mk (alive_eff) rfl rfl ?_); refine AWP.runL e tab_ok L3 300 rfl (by first | trivial | (simp [in64] <;> omega)) ?_)
      | (refine AWP.eq_agg e tab_ok rfl rfl rfl (.inl ⟨rfl, rfl⟩) ?_ 5 (by omega) rfl ?_ rfl rfl rfl rfl rfl rfl rfl ?_; (focus kernel_rfl); (focus kernel_rfl); refine AWP.runL e tab_ok L3 300 rfl (by first | trivial | (simp [in64] <;> omega)) ?_)
      | (refine AWP.eq_agg e tab_ok rfl rfl rfl (.inr ⟨rfl, rfl⟩) ?_ 5 (by omega) rfl ?_ rfl rfl rfl rfl rfl rfl rfl ?_; (focus kernel_rfl); (focus kernel_rfl); refine AWP.runL e tab_ok L3 300 rfl (by first | trivial | (simp [in64] <;> omega)) ?_)
    )
  refine AWP.loopX (ι := Nat × PS × Int) (ε := Unit) (fun x => ⟨acT m L acts x.1 x.2.2, acH m L x.2.1, 3⟩)
    (fun x => x.1 ≤ acts.length ∧ x.2.2 ≤ 9 * x.1 ∧ x.1 ≤ 25 ∧ PI m L x.2.1.o x.2.1.s x.2.1.u x.2.1.w x.2.2) (fun x => acts.length - x.1) (0, ⟨0#16, fun _ => 0, fun _ => 0, fun _ => false⟩, 0)
    ⟨Nat.zero_le _, by decide, by decide, ⟨ra, fun k _ => by simp, fun k _ => by simp, fun k _ => by simp, by decide⟩⟩
    (fun _ => ⟨[(0, U16 m)], [], 0⟩) (fun _ => True) ?_ ?_ ?_
  · intro _ _
    refine AWP.runL e tab_ok L3 300 rfl (by first | trivial | (simp [in64] <;> omega)) ?_
    refine AWP.ret e tab_ok rfl ?_
    rw [hP]
    all_goals first | rfl | (simp [strip]; done)
  · intro kk g
    refine AWP.less e ?_ ?_ ?_ ?_ ?_ (g) <;> (repeat' (first | exact True.intro | (refine And.intro ?_ ?_) | rfl | assumption))
    exact congrArg (fun z => some (SV.i z)) (by simp)
  rintro ⟨i, p, now⟩ Φ Ψ ⟨hI, hnow, hi25, hpi⟩ nxt fin
  have hI : i ≤ acts.length := hI
  have hnow : now ≤ 9 * i := hnow
  have hi25 : i ≤ 25 := hi25
  have hpi : PI m L p.o p.s p.u p.w now := hpi
  refine AWP.runL e tab_ok L3 300 rfl (by first | trivial | (simp [in64] <;> omega)) ?_
  refine AWP.cond2 rfl (fun hlt => ?_) (fun hlt => ?_)
  rotate_left
  · refine AWP.runL e tab_ok L3 300 rfl (by first | trivial | (simp [in64] <;> omega)) ?_
    refine AWP.less e ?_ ?_ ?_ ?_ ?_ (fin () trivial) <;> (repeat' (first | exact True.intro | (refine And.intro ?_ ?_) | rfl | assumption))
  have hlt : i < acts.length := by simp at hlt; omega
  obtain ⟨a, ha⟩ : ∃ a, a = acts[i] := ⟨_, rfl⟩
  refine AWP.runL e tab_ok L3 300 rfl (by first | trivial | (simp [in64] <;> omega)) ?_
  refine AWP.idx e tab_ok rfl rfl rfl rfl i rfl (el := rowA a) (by rw [ha]; simp [hlt]) ?_
  refine AWP.runL e tab_ok L3 300 rfl (by first | trivial | (simp [in64] <;> omega)) ?_
  refine AWP.cond2 rfl (fun hq => ?_) (fun hq => ?_)
  · refine AWP.runL e tab_ok L3 300 rfl (by first | trivial | (simp [in64] <;> omega)) ?_
    refine AWP.less e ?_ ?_ ?_ ?_ ?_ (fin () trivial) <;> (repeat' (first | exact True.intro | (refine And.intro ?_ ?_) | rfl | assumption))
  have hq : i < 25 := by simp at hq; omega
  refine AWP.runL e tab_ok L3 300 rfl (by first | trivial | (simp [in64] <;> omega)) ?_
  refine AWP.join (ε := PS) (fun p => ⟨acT m L acts i now ++ [(13, .ptr 3 0)], acH m L p ++ [(3, .box ((rowA a).map SV.d))], 4⟩) (fun p => PI m L p.o p.s p.u p.w now) ?_ ?_
  · rintro p hpi
    obtain ⟨n, hn1, hn9, hnn, t1, t2, t3, t4⟩ := mod9 a.ticks
    have h0 := hpi.n
    refine AWP.runL e tab_ok L3 300 rfl (by first | trivial | (simp [in64] <;> omega)) ?_
    refine AWP.eqT 103 (.i n) rfl (congrArg SV.i hnn) ?_
    clear hnn t1 t2 t3 t4
    refine AWP.loop (ι := Nat × PS) (fun x => ⟨acT m L acts i (now + x.1) ++ [(104, .i x.1), (103, .i n)], acH m L x.2, 3⟩) (fun x => x.1 ≤ n ∧ PI m L x.2.o x.2.s x.2.u x.2.w (now + x.1)) (fun x => n - x.1) (0, p) ⟨Nat.zero_le _, by simpa using hpi⟩ ?_ ?_
    · intro g
      rw [show now + (((0, p) : Nat × PS).1 : Int) = now from Int.add_zero _] at g
      refine AWP.less e ?_ ?_ ?_ ?_ ?_ (g) <;> (repeat' (first | exact True.intro | (refine And.intro ?_ ?_) | rfl | assumption))
    rintro ⟨j, p⟩ Φ2 ⟨hj, hpi⟩ next2
    have hj : j ≤ n := hj
    have hpi : PI m L p.o p.s p.u p.w (now + j) := hpi
    obtain ⟨T, hT⟩ : ∃ T : Int, T = now + j := ⟨_, rfl⟩
    have hTb : T ≤ 9 * i + j := by omega
    have hTp := hpi.n
    rw [← hT] at hpi hTp ⊢
    refine AWP.runL e tab_ok L3 300 rfl (by first | trivial | (simp [in64] <;> omega)) ?_
    refine AWP.cond2 rfl (fun hl => ?_) (fun hl => ?_)
    rotate_left
    · obtain rfl : j = n := by simp at hl; omega
      refine AWP.runL e tab_ok L3 300 rfl (by first | trivial | (simp [in64] <;> omega)) ?_
      refine AWP.less e ?_ ?_ ?_ ?_ ?_ (nxt (i + 1, p, T) ⟨hlt, by show T ≤ 9 * ((i + 1 : Nat) : Int); omega, by show i + 1 ≤ 25; omega, hpi⟩ (by show acts.length - (i + 1) < acts.length - i; omega)) <;> (repeat' (first | exact True.intro | (refine And.intro ?_ ?_) | rfl | assumption))
    have hl : j < n := by simp at hl; omega
    have hti := tick_ok m p.o p.s L hpi.r
    have hri := right_eff m p.o (tickS p.s 16) L
    rw [right_tick hpi.r] at hri
    have nx3 := next2 (j + 1, ⟨p.o, tickS p.s 16, p.u, p.w⟩) ⟨hl, by
      have := hpi.tick
      rw [show now + (((j + 1 : Nat)) : Int) = T + 1 by omega]
      exact this⟩ (by show n - (j + 1) < n - j; omega)
    rw [show now + ((((j + 1, ⟨p.o, tickS p.s 16, p.u, p.w⟩) : Nat × PS).1 : Nat) : Int) = T + 1 by show now + ((j + 1 : Nat) : Int) = T + 1; omega] at nx3
    refine AWP.runL e tab_ok L3 300 rfl (by first | trivial | (simp [in64] <;> omega)) ?_
    refine AWP.loop (ι := Nat) (fun k => ⟨acT m L acts i T ++ [(104, .i j), (103, .i n), (106, .i k)], acH m L p, 3⟩) (fun k => k ≤ 16) (fun k => 16 - k) 0 (Nat.zero_le _) ?_ ?_
    · intro g
      refine AWP.less e ?_ ?_ ?_ ?_ ?_ (g) <;> (repeat' (first | exact True.intro | (refine And.intro ?_ ?_) | rfl | assumption))
    rintro k Φ3 hk next3
    have hk : k ≤ 16 := hk
    refine AWP.runL e tab_ok L3 300 rfl (by first | trivial | (simp [in64] <;> omega)) ?_
    refine AWP.cond2 rfl (fun hk2 => ?_) (fun hk2 => ?_)
    rotate_left
    · refine AWP.runL e tab_ok L3 300 rfl (by first | trivial | (simp [in64] <;> omega)) ?_
      repeat (
        first
          | (refine AWP.askT rfl ?_; (first | (refine Told.t rfl ?_) | (refine Told.f rfl ?_) | (refine Told.t ?_ ?_; (focus (first | assumption | (simp; omega) | (simp [*]; done)); done)) | (refine Told.f ?_ ?_; (focus (first | assumption | (simp; omega) | (simp [*]; done)); done))); refine AWP.runL e tab_ok L3 300 rfl (by first | trivial | (simp [in64] <;> omega)) ?_)
          | (refine AWP.callQ e rfl rfl ?_; (first | refine CallQ.mk (hti) rfl rfl ?_ | refine CallQ.mk (hri) rfl rfl ?_); refine AWP.runL e tab_ok L3 300 rfl (by first | trivial | (simp [in64] <;> omega)) ?_)
          | (refine AWP.eq_agg e tab_ok rfl rfl rfl (.inl ⟨rfl, rfl⟩) ?_ 5 (by omega) rfl ?_ rfl rfl rfl rfl rfl rfl rfl ?_; (focus kernel_rfl); (focus kernel_rfl); refine AWP.runL e tab_ok L3 300 rfl (by first | trivial | (simp [in64] <;> omega)) ?_)
          | (refine AWP.eq_agg e tab_ok rfl rfl rfl (.inr ⟨rfl, rfl⟩) ?_ 5 (by omega) rfl ?_ rfl rfl rfl rfl rfl rfl rfl ?_; (focus kernel_rfl); (focus kernel_rfl); refine AWP.runL e tab_ok L3 300 rfl (by first | trivial | (simp [in64] <;> omega)) ?_)
        )
      refine AWP.less e ?_ ?_ ?_ ?_ ?_ (nx3) <;> (repeat' (first | exact True.intro | (refine And.intro ?_ ?_) | rfl | assumption))
    have hk2 : k < 16 := by simp at hk2; omega
    have hac := active_ok m p.o p.s L hpi.r
    have hb1 := rbit_eff (actN p.o p.s 16 &&& m) k hk2
    have hb2 := rbit_eff m k hk2
    rw [hpi.act k hk2] at hb1
    have nx4 := next3 (k + 1) hk2 (by show 16 - (k + 1) < 16 - k; omega)
    cases c1 : m.getLsbD k <;> rw [c1] at hb1 hb2
    · refine AWP.runL e tab_ok L3 300 rfl (by first | trivial | (simp [in64] <;> omega)) ?_
      repeat (
        first
          | (refine AWP.askT rfl ?_; (first | (refine Told.t rfl ?_) | (refine Told.f rfl ?_) | (refine Told.t ?_ ?_; (focus (first | assumption | (simp; omega) | (simp [*]; done)); done)) | (refine Told.f ?_ ?_; (focus (first | assumption | (simp; omega) | (simp [*]; done)); done))); refine AWP.runL e tab_ok L3 300 rfl (by first | trivial | (simp [in64] <;> omega)) ?_)
          | (refine AWP.callQ e rfl rfl ?_; (first | refine CallQ.mk (hac) rfl rfl ?_ | refine CallQ.mk (hb1) rfl rfl ?_ | refine CallQ.mk (hb2) rfl rfl ?_); refine AWP.runL e tab_ok L3 300 rfl (by first | trivial | (simp [in64] <;> omega)) ?_)
          | (refine AWP.eq_agg e tab_ok rfl rfl rfl (.inl ⟨rfl, rfl⟩) ?_ 5 (by omega) rfl ?_ rfl rfl rfl rfl rfl rfl rfl ?_; (focus kernel_rfl); (focus kernel_rfl); refine AWP.runL e tab_ok L3 300 rfl (by first | trivial | (simp [in64] <;> omega)) ?_)
          | (refine AWP.eq_agg e tab_ok rfl rfl rfl (.inr ⟨rfl, rfl⟩) ?_ 5 (by omega) rfl ?_ rfl rfl rfl rfl rfl rfl rfl ?_; (focus kernel_rfl); (focus kernel_rfl); refine AWP.runL e tab_ok L3 300 rfl (by first | trivial | (simp [in64] <;> omega)) ?_)
        )
      refine AWP.less e ?_ ?_ ?_ ?_ ?_ (nx4) <;> (repeat' (first | exact True.intro | (refine And.intro ?_ ?_) | rfl | assumption))
    cases c2 : p.w k <;> rw [c2] at hb1
    · by_cases c3 : p.u k > T
      · rw [show (true && (false || decide (p.u k > T))) = true by simp [c3]] at hb1
        refine AWP.runL e tab_ok L3 300 rfl (by first | trivial | (simp [in64] <;> omega)) ?_
        repeat (
          first
            | (refine AWP.askT rfl ?_; (first | (refine Told.t rfl ?_) | (refine Told.f rfl ?_) | (refine Told.t ?_ ?_; (focus (first | assumption | (simp; omega) | (simp [*]; done)); done)) | (refine Told.f ?_ ?_; (focus (first | assumption | (simp; omega) | (simp [*]; done)); done))); refine AWP.runL e tab_ok L3 300 rfl (by first | trivial | (simp [in64] <;> omega)) ?_)
            | (refine AWP.callQ e rfl rfl ?_; (first | refine CallQ.mk (hac) rfl rfl ?_ | refine CallQ.mk (hb1) rfl rfl ?_ | refine CallQ.mk (hb2) rfl rfl ?_); refine AWP.runL e tab_ok L3 300 rfl (by first | trivial | (simp [in64] <;> omega)) ?_)
            | (refine AWP.idx_pel e tab_ok rfl rfl rfl rfl rfl _ rfl ?_ ?_; (focus (first | assumption | omega | decide)); refine AWP.runL e tab_ok L3 300 rfl (by first | trivial | (simp [in64] <;> omega)) ?_)
            | (refine AWP.load_pel e tab_ok _ rfl rfl rfl rfl rfl (bC_at (by simp) hk2) ?_; refine AWP.runL e tab_ok L3 300 rfl (by first | trivial | (simp [in64] <;> omega)) ?_)
            | (refine AWP.load_pel e tab_ok _ rfl rfl rfl rfl rfl (uC_at (by simp) hk2) ?_; refine AWP.runL e tab_ok L3 300 rfl (by first | trivial | (simp [in64] <;> omega)) ?_)
            | (refine AWP.eq_agg e tab_ok rfl rfl rfl (.inl ⟨rfl, rfl⟩) ?_ 5 (by omega) rfl ?_ rfl rfl rfl rfl rfl rfl rfl ?_; (focus kernel_rfl); (focus kernel_rfl); refine AWP.runL e tab_ok L3 300 rfl (by first | trivial | (simp [in64] <;> omega)) ?_)
            | (refine AWP.eq_agg e tab_ok rfl rfl rfl (.inr ⟨rfl, rfl⟩) ?_ 5 (by omega) rfl ?_ rfl rfl rfl rfl rfl rfl rfl ?_; (focus kernel_rfl); (focus kernel_rfl); refine AWP.runL e tab_ok L3 300 rfl (by first | trivial | (simp [in64] <;> omega)) ?_)
          )
        refine AWP.less e ?_ ?_ ?_ ?_ ?_ (nx4) <;> (repeat' (first | exact True.intro | (refine And.intro ?_ ?_) | rfl | assumption))
      · rw [show (true && (false || decide (p.u k > T))) = false by simp [c3]] at hb1
        refine AWP.runL e tab_ok L3 300 rfl (by first | trivial | (simp [in64] <;> omega)) ?_
        repeat (
          first
            | (refine AWP.askT rfl ?_; (first | (refine Told.t rfl ?_) | (refine Told.f rfl ?_) | (refine Told.t ?_ ?_; (focus (first | assumption | (simp; omega) | (simp [*]; done)); done)) | (refine Told.f ?_ ?_; (focus (first | assumption | (simp; omega) | (simp [*]; done)); done))); refine AWP.runL e tab_ok L3 300 rfl (by first | trivial | (simp [in64] <;> omega)) ?_)
            | (refine AWP.callQ e rfl rfl ?_; (first | refine CallQ.mk (hac) rfl rfl ?_ | refine CallQ.mk (hb1) rfl rfl ?_ | refine CallQ.mk (hb2) rfl rfl ?_); refine AWP.runL e tab_ok L3 300 rfl (by first | trivial | (simp [in64] <;> omega)) ?_)
            | (refine AWP.idx_pel e tab_ok rfl rfl rfl rfl rfl _ rfl ?_ ?_; (focus (first | assumption | omega | decide)); refine AWP.runL e tab_ok L3 300 rfl (by first | trivial | (simp [in64] <;> omega)) ?_)
            | (refine AWP.load_pel e tab_ok _ rfl rfl rfl rfl rfl (bC_at (by simp) hk2) ?_; refine AWP.runL e tab_ok L3 300 rfl (by first | trivial | (simp [in64] <;> omega)) ?_)
            | (refine AWP.load_pel e tab_ok _ rfl rfl rfl rfl rfl (uC_at (by simp) hk2) ?_; refine AWP.runL e tab_ok L3 300 rfl (by first | trivial | (simp [in64] <;> omega)) ?_)
            | (refine AWP.eq_agg e tab_ok rfl rfl rfl (.inl ⟨rfl, rfl⟩) ?_ 5 (by omega) rfl ?_ rfl rfl rfl rfl rfl rfl rfl ?_; (focus kernel_rfl); (focus kernel_rfl); refine AWP.runL e tab_ok L3 300 rfl (by first | trivial | (simp [in64] <;> omega)) ?_)
            | (refine AWP.eq_agg e tab_ok rfl rfl rfl (.inr ⟨rfl, rfl⟩) ?_ 5 (by omega) rfl ?_ rfl rfl rfl rfl rfl rfl rfl ?_; (focus kernel_rfl); (focus kernel_rfl); refine AWP.runL e tab_ok L3 300 rfl (by first | trivial | (simp [in64] <;> omega)) ?_)
          )
        refine AWP.less e ?_ ?_ ?_ ?_ ?_ (nx4) <;> (repeat' (first | exact True.intro | (refine And.intro ?_ ?_) | rfl | assumption))
    · rw [show (true && (true || decide (p.u k > T))) = true by simp] at hb1
      refine AWP.runL e tab_ok L3 300 rfl (by first | trivial | (simp [in64] <;> omega)) ?_
      repeat (
        first
          | (refine AWP.askT rfl ?_; (first | (refine Told.t rfl ?_) | (refine Told.f rfl ?_) | (refine Told.t ?_ ?_; (focus (first | assumption | (simp; omega) | (simp [*]; done)); done)) | (refine Told.f ?_ ?_; (focus (first | assumption | (simp; omega) | (simp [*]; done)); done))); refine AWP.runL e tab_ok L3 300 rfl (by first | trivial | (simp [in64] <;> omega)) ?_)
          | (refine AWP.callQ e rfl rfl ?_; (first | refine CallQ.mk (hac) rfl rfl ?_ | refine CallQ.mk (hb1) rfl rfl ?_ | refine CallQ.mk (hb2) rfl rfl ?_); refine AWP.runL e tab_ok L3 300 rfl (by first | trivial | (simp [in64] <;> omega)) ?_)
          | (refine AWP.idx_pel e tab_ok rfl rfl rfl rfl rfl _ rfl ?_ ?_; (focus (first | assumption | omega | decide)); refine AWP.runL e tab_ok L3 300 rfl (by first | trivial | (simp [in64] <;> omega)) ?_)
          | (refine AWP.load_pel e tab_ok _ rfl rfl rfl rfl rfl (bC_at (by simp) hk2) ?_; refine AWP.runL e tab_ok L3 300 rfl (by first | trivial | (simp [in64] <;> omega)) ?_)
          | (refine AWP.load_pel e tab_ok _ rfl rfl rfl rfl rfl (uC_at (by simp) hk2) ?_; refine AWP.runL e tab_ok L3 300 rfl (by first | trivial | (simp [in64] <;> omega)) ?_)
          | (refine AWP.eq_agg e tab_ok rfl rfl rfl (.inl ⟨rfl, rfl⟩) ?_ 5 (by omega) rfl ?_ rfl rfl rfl rfl rfl rfl rfl ?_; (focus kernel_rfl); (focus kernel_rfl); refine AWP.runL e tab_ok L3 300 rfl (by first | trivial | (simp [in64] <;> omega)) ?_)
          | (refine AWP.eq_agg e tab_ok rfl rfl rfl (.inr ⟨rfl, rfl⟩) ?_ 5 (by omega) rfl ?_ rfl rfl rfl rfl rfl rfl rfl ?_; (focus kernel_rfl); (focus kernel_rfl); refine AWP.runL e tab_ok L3 300 rfl (by first | trivial | (simp [in64] <;> omega)) ?_)
        )
      refine AWP.less e ?_ ?_ ?_ ?_ ?_ (nx4) <;> (repeat' (first | exact True.intro | (refine And.intro ?_ ?_) | rfl | assumption))
  · intro Ψ2 join
    have h0 := hpi.n
    rcases (show a.want = false ∨ a.want = true by cases a.want <;> simp) with hwt | hwt
    · have hse := see_ok m p.o p.s L a.told hpi.r
      have jn := join ⟨p.o, seeS a.told p.s L 16, seeS a.told p.u (now + L) 16, p.w⟩ (hpi.see hL1 a.told)
      repeat (
        first
          | (refine AWP.askT rfl ?_; (first | (refine Told.t rfl ?_) | (refine Told.f rfl ?_) | (refine Told.t ?_ ?_; (focus (first | assumption | (simp; omega) | (simp [*]; done)); done)) | (refine Told.f ?_ ?_; (focus (first | assumption | (simp; omega) | (simp [*]; done)); done))); refine AWP.runL e tab_ok L3 300 rfl (by first | trivial | (simp [in64] <;> omega)) ?_)
          | (refine AWP.callQ e rfl rfl ?_; (first | refine CallQ.mk (hse) rfl rfl ?_); refine AWP.runL e tab_ok L3 300 rfl (by first | trivial | (simp [in64] <;> omega)) ?_)
          | (refine AWP.eq_agg e tab_ok rfl rfl rfl (.inl ⟨rfl, rfl⟩) ?_ 5 (by omega) rfl ?_ rfl rfl rfl rfl rfl rfl rfl ?_; (focus kernel_rfl); (focus kernel_rfl); refine AWP.runL e tab_ok L3 300 rfl (by first | trivial | (simp [in64] <;> omega)) ?_)
          | (refine AWP.eq_agg e tab_ok rfl rfl rfl (.inr ⟨rfl, rfl⟩) ?_ 5 (by omega) rfl ?_ rfl rfl rfl rfl rfl rfl rfl ?_; (focus kernel_rfl); (focus kernel_rfl); refine AWP.runL e tab_ok L3 300 rfl (by first | trivial | (simp [in64] <;> omega)) ?_)
        )
      refine AWP.loop (ι := Nat) (fun j => ⟨acT m L acts i now ++ [(13, .ptr 3 0), (85, .i j)], [(0, .box (pnC m p.o (seeS a.told p.s L 16) L)), (1, .box (bC p.w)), (2, .box (uC (seeS a.told p.u (now + L) j))), (3, .box ((rowA a).map SV.d))], 4⟩) (fun j => j ≤ 16) (fun j => 16 - j) 0 (Nat.zero_le _) ?_ ?_
      · intro g
        rw [seeS_0] at g
        refine AWP.less e ?_ ?_ ?_ ?_ ?_ (g) <;> (repeat' (first | exact True.intro | (refine And.intro ?_ ?_) | rfl | assumption))
      rintro j Φ2 hj next2
      have hj : j ≤ 16 := hj
      refine AWP.runL e tab_ok L3 300 rfl (by first | trivial | (simp [in64] <;> omega)) ?_
      refine AWP.cond2 rfl (fun hl => ?_) (fun hl => ?_)
      rotate_left
      · obtain rfl : j = 16 := by simp at hl; omega
        refine AWP.runL e tab_ok L3 300 rfl (by first | trivial | (simp [in64] <;> omega)) ?_
        refine AWP.less e ?_ ?_ ?_ ?_ ?_ (jn) <;> (repeat' (first | exact True.intro | (refine And.intro ?_ ?_) | rfl | assumption))
      have hl : j < 16 := by simp at hl; omega
      have hb := rbit_eff a.told j hl
      have nx := next2 (j + 1) hl (by show 16 - (j + 1) < 16 - j; omega)
      cases h1 : a.told.getLsbD j
      · rw [h1] at hb
        rw [seeS_no h1]
        refine AWP.runL e tab_ok L3 300 rfl (by first | trivial | (simp [in64] <;> omega)) ?_
        repeat (
          first
            | (refine AWP.askT rfl ?_; (first | (refine Told.t rfl ?_) | (refine Told.f rfl ?_) | (refine Told.t ?_ ?_; (focus (first | assumption | (simp; omega) | (simp [*]; done)); done)) | (refine Told.f ?_ ?_; (focus (first | assumption | (simp; omega) | (simp [*]; done)); done))); refine AWP.runL e tab_ok L3 300 rfl (by first | trivial | (simp [in64] <;> omega)) ?_)
            | (refine AWP.callQ e rfl rfl ?_; (first | refine CallQ.mk (hb) rfl rfl ?_); refine AWP.runL e tab_ok L3 300 rfl (by first | trivial | (simp [in64] <;> omega)) ?_)
            | (refine AWP.eq_agg e tab_ok rfl rfl rfl (.inl ⟨rfl, rfl⟩) ?_ 5 (by omega) rfl ?_ rfl rfl rfl rfl rfl rfl rfl ?_; (focus kernel_rfl); (focus kernel_rfl); refine AWP.runL e tab_ok L3 300 rfl (by first | trivial | (simp [in64] <;> omega)) ?_)
            | (refine AWP.eq_agg e tab_ok rfl rfl rfl (.inr ⟨rfl, rfl⟩) ?_ 5 (by omega) rfl ?_ rfl rfl rfl rfl rfl rfl rfl ?_; (focus kernel_rfl); (focus kernel_rfl); refine AWP.runL e tab_ok L3 300 rfl (by first | trivial | (simp [in64] <;> omega)) ?_)
          )
        refine AWP.less e ?_ ?_ ?_ ?_ ?_ (nx) <;> (repeat' (first | exact True.intro | (refine And.intro ?_ ?_) | rfl | assumption))
      · rw [h1] at hb
        refine AWP.runL e tab_ok L3 300 rfl (by first | trivial | (simp [in64] <;> omega)) ?_
        repeat (
          first
            | (refine AWP.askT rfl ?_; (first | (refine Told.t rfl ?_) | (refine Told.f rfl ?_) | (refine Told.t ?_ ?_; (focus (first | assumption | (simp; omega) | (simp [*]; done)); done)) | (refine Told.f ?_ ?_; (focus (first | assumption | (simp; omega) | (simp [*]; done)); done))); refine AWP.runL e tab_ok L3 300 rfl (by first | trivial | (simp [in64] <;> omega)) ?_)
            | (refine AWP.callQ e rfl rfl ?_; (first | refine CallQ.mk (hb) rfl rfl ?_); refine AWP.runL e tab_ok L3 300 rfl (by first | trivial | (simp [in64] <;> omega)) ?_)
            | (refine AWP.idx_pel e tab_ok rfl rfl rfl rfl rfl _ rfl ?_ ?_; (focus (first | assumption | omega | decide)); refine AWP.runL e tab_ok L3 300 rfl (by first | trivial | (simp [in64] <;> omega)) ?_)
            | (refine AWP.store_pel e tab_ok rfl rfl rfl rfl rfl rfl rfl rfl (uC_at (by simp) hl) ((uC_set (by simp) hl).trans (congrArg uC (seeS_yes h1))) ?_; refine AWP.runL e tab_ok L3 300 rfl (by first | trivial | (simp [in64] <;> omega)) ?_)
            | (refine AWP.eq_agg e tab_ok rfl rfl rfl (.inl ⟨rfl, rfl⟩) ?_ 5 (by omega) rfl ?_ rfl rfl rfl rfl rfl rfl rfl ?_; (focus kernel_rfl); (focus kernel_rfl); refine AWP.runL e tab_ok L3 300 rfl (by first | trivial | (simp [in64] <;> omega)) ?_)
            | (refine AWP.eq_agg e tab_ok rfl rfl rfl (.inr ⟨rfl, rfl⟩) ?_ 5 (by omega) rfl ?_ rfl rfl rfl rfl rfl rfl rfl ?_; (focus kernel_rfl); (focus kernel_rfl); refine AWP.runL e tab_ok L3 300 rfl (by first | trivial | (simp [in64] <;> omega)) ?_)
          )
        refine AWP.less e ?_ ?_ ?_ ?_ ?_ (nx) <;> (repeat' (first | exact True.intro | (refine And.intro ?_ ?_) | rfl | assumption))
    · obtain ⟨j, hj, hm16, hb1, hb2⟩ := mod16 a.n
      have hrb := rbit_eff m j hj
      repeat (
        first
          | (refine AWP.askT rfl ?_; (first | (refine Told.t rfl ?_) | (refine Told.f rfl ?_) | (refine Told.t ?_ ?_; (focus (first | assumption | (simp; omega) | (simp [*]; done)); done)) | (refine Told.f ?_ ?_; (focus (first | assumption | (simp; omega) | (simp [*]; done)); done))); refine AWP.runL e tab_ok L3 300 rfl (by first | trivial | (simp [in64] <;> omega)) ?_)
          | (refine AWP.eq_agg e tab_ok rfl rfl rfl (.inl ⟨rfl, rfl⟩) ?_ 5 (by omega) rfl ?_ rfl rfl rfl rfl rfl rfl rfl ?_; (focus kernel_rfl); (focus kernel_rfl); refine AWP.runL e tab_ok L3 300 rfl (by first | trivial | (simp [in64] <;> omega)) ?_)
          | (refine AWP.eq_agg e tab_ok rfl rfl rfl (.inr ⟨rfl, rfl⟩) ?_ 5 (by omega) rfl ?_ rfl rfl rfl rfl rfl rfl rfl ?_; (focus kernel_rfl); (focus kernel_rfl); refine AWP.runL e tab_ok L3 300 rfl (by first | trivial | (simp [in64] <;> omega)) ?_)
        )
      refine AWP.eqT 14 (.i j) rfl (congrArg SV.i hm16) ?_
      refine AWP.eqT 56 (.i j) rfl (congrArg SV.i hm16) ?_
      clear hm16 hb1 hb2
      cases hbit : m.getLsbD j
      · have hw := want_no m p.o p.s L j a.on hpi.r hj hbit
        rw [hbit] at hrb
        repeat (
          first
            | (refine AWP.askT rfl ?_; (first | (refine Told.t rfl ?_) | (refine Told.f rfl ?_) | (refine Told.t ?_ ?_; (focus (first | assumption | (simp; omega) | (simp [*]; done)); done)) | (refine Told.f ?_ ?_; (focus (first | assumption | (simp; omega) | (simp [*]; done)); done))); refine AWP.runL e tab_ok L3 300 rfl (by first | trivial | (simp [in64] <;> omega)) ?_)
            | (refine AWP.callQ e rfl rfl ?_; (first | refine CallQ.mk (hw) rfl rfl ?_ | refine CallQ.mk (hrb) rfl rfl ?_); refine AWP.runL e tab_ok L3 300 rfl (by first | trivial | (simp [in64] <;> omega)) ?_)
            | (refine AWP.eq_agg e tab_ok rfl rfl rfl (.inl ⟨rfl, rfl⟩) ?_ 5 (by omega) rfl ?_ rfl rfl rfl rfl rfl rfl rfl ?_; (focus kernel_rfl); (focus kernel_rfl); refine AWP.runL e tab_ok L3 300 rfl (by first | trivial | (simp [in64] <;> omega)) ?_)
            | (refine AWP.eq_agg e tab_ok rfl rfl rfl (.inr ⟨rfl, rfl⟩) ?_ 5 (by omega) rfl ?_ rfl rfl rfl rfl rfl rfl rfl ?_; (focus kernel_rfl); (focus kernel_rfl); refine AWP.runL e tab_ok L3 300 rfl (by first | trivial | (simp [in64] <;> omega)) ?_)
          )
        refine AWP.less e ?_ ?_ ?_ ?_ ?_ (join p hpi) <;> (repeat' (first | exact True.intro | (refine And.intro ?_ ?_) | rfl | assumption))
      · have hw := want_ok m p.o p.s L j a.on hpi.r hbit
        rw [hbit] at hrb
        have jn := join ⟨wantB p.o j a.on, p.s, p.u, updB p.w j a.on⟩ (hpi.want a.on hbit)
        repeat (
          first
            | (refine AWP.askT rfl ?_; (first | (refine Told.t rfl ?_) | (refine Told.f rfl ?_) | (refine Told.t ?_ ?_; (focus (first | assumption | (simp; omega) | (simp [*]; done)); done)) | (refine Told.f ?_ ?_; (focus (first | assumption | (simp; omega) | (simp [*]; done)); done))); refine AWP.runL e tab_ok L3 300 rfl (by first | trivial | (simp [in64] <;> omega)) ?_)
            | (refine AWP.callQ e rfl rfl ?_; (first | refine CallQ.mk (hw) rfl rfl ?_ | refine CallQ.mk (hrb) rfl rfl ?_); refine AWP.runL e tab_ok L3 300 rfl (by first | trivial | (simp [in64] <;> omega)) ?_)
            | (refine AWP.idx_pel e tab_ok rfl rfl rfl rfl rfl _ rfl ?_ ?_; (focus (first | assumption | omega | decide)); refine AWP.runL e tab_ok L3 300 rfl (by first | trivial | (simp [in64] <;> omega)) ?_)
            | (refine AWP.store_pel e tab_ok rfl rfl rfl rfl rfl rfl rfl rfl (bC_at (by simp) hj) (bC_set (by simp) hj) ?_; refine AWP.runL e tab_ok L3 300 rfl (by first | trivial | (simp [in64] <;> omega)) ?_)
            | (refine AWP.eq_agg e tab_ok rfl rfl rfl (.inl ⟨rfl, rfl⟩) ?_ 5 (by omega) rfl ?_ rfl rfl rfl rfl rfl rfl rfl ?_; (focus kernel_rfl); (focus kernel_rfl); refine AWP.runL e tab_ok L3 300 rfl (by first | trivial | (simp [in64] <;> omega)) ?_)
            | (refine AWP.eq_agg e tab_ok rfl rfl rfl (.inr ⟨rfl, rfl⟩) ?_ 5 (by omega) rfl ?_ rfl rfl rfl rfl rfl rfl rfl ?_; (focus kernel_rfl); (focus kernel_rfl); refine AWP.runL e tab_ok L3 300 rfl (by first | trivial | (simp [in64] <;> omega)) ?_)
            | (refine AWP.keep L3 rfl ?_; refine AWP.drg 100 ?_; (refine DrG.runS e tab_ok 200 rfl (by first | trivial | (simp [in64] <;> omega)) ?_); (repeat (first | (refine DrG.askT rfl ?_; (first | (refine Told.t rfl ?_) | (refine Told.f rfl ?_) | (refine Told.t ?_ ?_; (focus (first | assumption | (simp; omega) | (simp [*]; done)); done)) | (refine Told.f ?_ ?_; (focus (first | assumption | (simp; omega) | (simp [*]; done)); done))); (refine DrG.runS e tab_ok 200 rfl (by first | trivial | (simp [in64] <;> omega)) ?_)) | (refine DrG.idx_pel e tab_ok rfl rfl rfl rfl rfl _ rfl ?_ rfl ?_; (focus (first | assumption | omega | decide)); (refine DrG.runS e tab_ok 200 rfl (by first | trivial | (simp [in64] <;> omega)) ?_)) | (refine DrG.idx_pelGo e tab_ok rfl rfl rfl rfl rfl rfl _ rfl ?_ rfl ?_; (focus (first | assumption | omega | decide)); (refine DrG.runS e tab_ok 200 rfl (by first | trivial | (simp [in64] <;> omega)) ?_)) | (refine DrG.store_pel e tab_ok rfl rfl rfl rfl rfl rfl rfl rfl (bC_at (by simp) hj) (bC_set (by simp) hj) rfl rfl ?_; (refine DrG.runS e tab_ok 200 rfl (by first | trivial | (simp [in64] <;> omega)) ?_)) | (refine DrG.callQ e rfl rfl ?_; (first | refine CallVQ.mk (hw) rfl rfl ?_ | refine CallVQ.mk (hrb) rfl rfl ?_); (refine DrG.runS e tab_ok 200 rfl (by first | trivial | (simp [in64] <;> omega)) ?_)) | (refine DrG.callGo e rfl rfl rfl ?_; (first | refine CallVQ.mk (hw) rfl rfl ?_ | refine CallVQ.mk (hrb) rfl rfl ?_); (refine DrG.runS e tab_ok 200 rfl (by first | trivial | (simp [in64] <;> omega)) ?_)) | (refine DrG.eq_agg e tab_ok rfl rfl rfl (.inl ⟨rfl, rfl⟩) ?_ 5 (by omega) rfl ?_ rfl rfl rfl rfl rfl rfl rfl ?_; (focus kernel_rfl); (focus kernel_rfl); (refine DrG.runS e tab_ok 200 rfl (by first | trivial | (simp [in64] <;> omega)) ?_)) | (refine DrG.eq_aggGo e tab_ok rfl rfl rfl rfl (.inl ⟨rfl, rfl⟩) ?_ 5 (by omega) rfl ?_ rfl rfl rfl rfl rfl rfl rfl ?_; (focus kernel_rfl); (focus kernel_rfl); (refine DrG.runS e tab_ok 200 rfl (by first | trivial | (simp [in64] <;> omega)) ?_)) | (refine DrG.eq_agg e tab_ok rfl rfl rfl (.inr ⟨rfl, rfl⟩) ?_ 5 (by omega) rfl ?_ rfl rfl rfl rfl rfl rfl rfl ?_; (focus kernel_rfl); (focus kernel_rfl); (refine DrG.runS e tab_ok 200 rfl (by first | trivial | (simp [in64] <;> omega)) ?_)) | (refine DrG.eq_aggGo e tab_ok rfl rfl rfl rfl (.inr ⟨rfl, rfl⟩) ?_ 5 (by omega) rfl ?_ rfl rfl rfl rfl rfl rfl rfl ?_; (focus kernel_rfl); (focus kernel_rfl); (refine DrG.runS e tab_ok 200 rfl (by first | trivial | (simp [in64] <;> omega)) ?_)))); refine DrG.finK e rfl ?_ rfl rfl rfl ?_ ?_; (focus kernel_rfl); (focus (repeat' (first | exact True.intro | (refine And.intro ?_ ?_) | rfl | assumption | exact okRow _))); dsimp only [tmS, hpS, tput, effH]; refine AWP.runL e tab_ok L3 300 rfl (by first | trivial | (simp [in64] <;> omega)) ?_)
          )
        refine AWP.less e ?_ ?_ ?_ ?_ ?_ (jn) <;> (repeat' (first | exact True.intro | (refine And.intro ?_ ?_) | rfl | assumption))

theorem active_args (l : List SV) (h : Args tab 9 [22, 3, 23] l) : Eff Try.prog 3 l [] 0 (fun r _ _ => r = .b true) := by
  obtain ⟨_, _, rfl, ⟨m, rfl, m1, m2⟩, _, _, rfl, ⟨li, rfl, _, _⟩, _, _, rfl, ⟨ys, rfl, hl, hy⟩, rfl⟩ := h
  obtain ⟨m, rfl⟩ := u16_of m1 m2
  obtain ⟨acts, rfl⟩ := acts_of ys hy
  exact active_eff m li acts (by simpa using hl)
end Go.Proofs.Ytdjhmlmdcfgphaa
