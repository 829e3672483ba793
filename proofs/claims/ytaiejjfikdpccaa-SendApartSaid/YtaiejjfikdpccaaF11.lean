import Derived.Test.YtaiejjfikdpccaaF10
open Go Go.Proofs Go.Sy
namespace Go.Proofs.Ytaiejjfikdpccaa

theorem idle {s : SE} (h1 : tickS s = s) (h2 : tickB s = false) : ∀ n, runS s n = s ∧ out s n = []
  | 0 => ⟨rfl, rfl⟩
  | n + 1 => by
    obtain ⟨e1, e2⟩ := idle h1 h2 n
    refine ⟨by rw [runS, e1, h1], ?_⟩
    rw [out, e1, e2, h2]
    simp

def perW (F P : Int) : WV := ⟨2, F, P, 0, 0⟩
def zeroW : WV := ⟨0, 0, 0, 0, 0⟩
def perS (F P c : Int) : SE := ⟨zeroW, perW F P, false, 0, c, 0, 0, 0, false⟩
theorem per_new (F P : Int) : newS zeroW (perW F P) false 0 = perS F P (if 1 > F then 1 else F) := rfl
theorem per_tick_go (F P c : Int) (h : c - 1 > 0) : tickS (perS F P c) = perS F P (c - 1) ∧ tickB (perS F P c) = false := by
  have e1 : perD (perS F P c) = false := by
    show (true && !decide (c - 1 > 0)) = false
    simp; omega
  have e2 : tickB (perS F P c) = false := by
    unfold tickB dueB; rw [e1]; rfl
  refine ⟨?_, e2⟩
  unfold tickS
  rw [e2]
  unfold dueB; rw [e1]
  show (⟨zeroW, perW F P, false, 0, (if c - 1 > 0 then c - 1 else P), 0, 0, _, _⟩ : SE) = _
  rw [if_pos h]; rfl
theorem per_tick_end (F P c : Int) (h : c = 1) : tickS (perS F P c) = perS F P P ∧ tickB (perS F P c) = true := by
  subst h; exact ⟨rfl, rfl⟩
theorem per_run (F P a : Int) (hP : 1 ≤ P) (ha : 1 ≤ a) : ∀ n : Nat, ∃ k : Nat, a + k * P > n ∧ (∀ j : Nat, j < k → a + j * P ≤ n) ∧ runS (perS F P a) n = perS F P (a + k * P - n) ∧ out (perS F P a) n = (List.range k).map fun i : Nat => a + i * P
  | 0 => ⟨0, by simp; omega, by simp, by simp [runS], by simp [out]⟩
  | n + 1 => by
    obtain ⟨k, h1, h2, h3, h4⟩ := per_run F P a hP ha n
    by_cases hc : a + k * P - n - 1 > 0
    · obtain ⟨t1, t2⟩ := per_tick_go F P _ hc
      refine ⟨k, by omega, fun j hj => by have := h2 j hj; omega, ?_, ?_⟩
      · rw [runS, h3, t1]; congr 1; omega
      · rw [out, h3, t2, h4]; simp
    · obtain ⟨t1, t2⟩ := per_tick_end F P (a + k * P - n) (by omega)
      have e : ((k + 1 : Nat) : Int) * P = k * P + P := by rw [Int.natCast_add, Int.add_mul]; simp
      refine ⟨k + 1, by rw [e]; omega, fun j hj => ?_, ?_, ?_⟩
      · rcases Nat.lt_or_ge j k with h | h
        · have := h2 j h; omega
        · obtain rfl : j = k := by omega
          omega
      · rw [runS, h3, t1]; congr 1; rw [e]; omega
      · rw [out, h3, t2, h4, List.range_succ, List.map_append]
        simp; omega

def dirS : SE := ⟨⟨1, 0, 0, 0, 0⟩, zeroW, true, 0, 0, 0, 0, 0, false⟩
theorem dir_new : newS ⟨1, 0, 0, 0, 0⟩ zeroW true 0 = dirS := rfl
def noneS (F P : Int) : SE := ⟨zeroW, perW F P, true, 3, 0, 0, 0, 0, false⟩
theorem none_new (F P : Int) : newS zeroW (perW F P) true 3 = noneS F P := rfl

set_option maxHeartbeats 4000000 in
set_option maxRecDepth 100000 in
theorem periods_eff (f p z : Int) (asks : Bool) : Eff Try.prog 5 [.i f, .i p, .i z, .b asks] [] 0 (fun r _ _ => r = .b true) := by
  obtain ⟨F, hF, f0, f1⟩ := clamp_nat 0 60 f (by decide) (by decide)
  obtain ⟨P, hQ, p0, p1⟩ := clamp_nat 1 40 p (by decide) (by decide)
  obtain ⟨n, hn, n0, n1⟩ := clamp_nat 0 400 z (by decide) (by decide)
  obtain ⟨a, ha⟩ : ∃ a : Int, a = if 1 > (F : Int) then 1 else (F : Int) := ⟨_, rfl⟩
  have ha1 : 1 ≤ a ∧ a ≤ 60 := by rw [ha]; split <;> omega
  obtain ⟨K, k1, k2, k3, k4⟩ := per_run F P a (by omega) ha1.1 n
  have hK : K ≤ 400 := by
    have := out_len (perS F P a) n
    rw [k4] at this
    simp at this; omega
  have w1 : wayB (perW F P) = true := wayB_iff.2 (by unfold perW; simp; omega)
  have w2 : wayB zeroW = true := rfl
  have n1' := right_new (on := false) (d := 0) w2 w1 (by decide)
  have n3' := right_new (on := true) (d := 3) w2 w1 (by decide)
  have c0 := new_ok zeroW (perW F P) false 0 w2 w1 rfl
  have b0 := ask_ok _ n1'
  have c1 := run_ok _ n n1' (by omega)
  have c3 := new_ok ⟨1, 0, 0, 0, 0⟩ zeroW true 0 rfl rfl rfl
  have c4 := run_ok dirS n rfl (by omega)
  have c5 := new_ok zeroW (perW F P) true 3 w2 w1 rfl
  have c6 := run_ok _ n n3' (by omega)
  rw [per_new, ← ha] at c0 b0 c1
  rw [show askS (perS F P a) = perS F P a from rfl] at b0
  rw [k4] at c1
  rw [dir_new] at c3
  rw [(idle (s := dirS) rfl rfl n).2] at c4
  rw [none_new] at c5 c6
  rw [(idle (s := noneS F P) rfl rfl n).2] at c6
  clear w1 w2 n1' n3' k3 k4
  generalize runS (perS F P a) n = X1 at *
  generalize runS (noneS F P) n = X2 at *
  generalize runS dirS n = X3 at *
  refine eff_of Try.func5 rfl rfl rfl fun cx e hP => ?_
  refine AWP.runL e tab_ok L5 19 rfl (by first | trivial | (simp [in64] <;> omega)) ?_
  refine AWP.eqT 0 (.i F) rfl (congrArg SV.i hF) ?_
  refine AWP.eqT 1 (.i P) rfl (congrArg SV.i hQ) ?_
  refine AWP.eqT 2 (.i n) rfl (congrArg SV.i hn) ?_
  clear hF hQ hn
  refine AWP.runL e tab_ok L5 300 rfl (by first | trivial | (simp [in64] <;> omega)) ?_
  repeat (
    first
      | (refine AWP.askT rfl ?_; (first | (refine Told.t rfl ?_) | (refine Told.f rfl ?_) | (refine Told.t ?_ ?_; (focus assumption)) | (refine Told.f ?_ ?_; (focus assumption)) | (refine Told.t ?_ ?_; (focus (first | (simp; omega) | (simp [*]; done)); done)) | (refine Told.f ?_ ?_; (focus (first | (simp; omega) | (simp [*]; done)); done))); refine AWP.runL e tab_ok L5 300 rfl (by first | trivial | (simp [in64] <;> omega)) ?_)
      | (refine AWP.callQ e rfl rfl ?_; (first | refine CallQ.mk (c0) rfl rfl ?_); refine AWP.runL e tab_ok L5 300 rfl (by first | trivial | (simp [in64] <;> omega)) ?_)
      | (refine AWP.eq_agg e tab_ok rfl rfl rfl (.inl ⟨rfl, rfl⟩) ?_ 5 (by omega) rfl ?_ rfl rfl rfl rfl rfl rfl rfl ?_; (focus kernel_rfl); (focus kernel_rfl); refine AWP.runL e tab_ok L5 300 rfl (by first | trivial | (simp [in64] <;> omega)) ?_)
      | (refine AWP.eq_agg e tab_ok rfl rfl rfl (.inr ⟨rfl, rfl⟩) ?_ 5 (by omega) rfl ?_ rfl rfl rfl rfl rfl rfl rfl ?_; (focus kernel_rfl); (focus kernel_rfl); refine AWP.runL e tab_ok L5 300 rfl (by first | trivial | (simp [in64] <;> omega)) ?_)
    )
  rcases cases_b asks with h | h <;> subst h
  · repeat (
      first
        | (refine AWP.askT rfl ?_; (first | (refine Told.t rfl ?_) | (refine Told.f rfl ?_) | (refine Told.t ?_ ?_; (focus assumption)) | (refine Told.f ?_ ?_; (focus assumption)) | (refine Told.t ?_ ?_; (focus (first | (simp; omega) | (simp [*]; done)); done)) | (refine Told.f ?_ ?_; (focus (first | (simp; omega) | (simp [*]; done)); done))); refine AWP.runL e tab_ok L5 300 rfl (by first | trivial | (simp [in64] <;> omega)) ?_)
        | (refine AWP.callQ e rfl rfl ?_; (first | refine CallQ.mk (b0) rfl rfl ?_ | refine CallQ.mk (c1) rfl rfl ?_); refine AWP.runL e tab_ok L5 300 rfl (by first | trivial | (simp [in64] <;> omega)) ?_)
        | (refine AWP.eq_agg e tab_ok rfl rfl rfl (.inl ⟨rfl, rfl⟩) ?_ 5 (by omega) rfl ?_ rfl rfl rfl rfl rfl rfl rfl ?_; (focus kernel_rfl); (focus kernel_rfl); refine AWP.runL e tab_ok L5 300 rfl (by first | trivial | (simp [in64] <;> omega)) ?_)
        | (refine AWP.eq_agg e tab_ok rfl rfl rfl (.inr ⟨rfl, rfl⟩) ?_ 5 (by omega) rfl ?_ rfl rfl rfl rfl rfl rfl rfl ?_; (focus kernel_rfl); (focus kernel_rfl); refine AWP.runL e tab_ok L5 300 rfl (by first | trivial | (simp [in64] <;> omega)) ?_)
      )
    refine AWP.eqT 18 (.i a) rfl (congrArg SV.i ha.symm) ?_
    refine AWP.runL e tab_ok L5 300 rfl (by first | trivial | (simp [in64] <;> omega)) ?_
    refine AWP.loop (ι := Nat) (fun j => ⟨[(17, .i j), (18, .i (a + j * P)), (1, .i P), (2, .i n), (15, .d (.sl 1 (ints ((List.range K).map fun i : Nat => a + i * P)))), (8, .b false), (9, .ptr 0 0), (11, .i 0), (16, .i 0)], [(0, .box (wC (perW F P)))], 1⟩) (fun j => j ≤ K) (fun j => K - j) 0 (Nat.zero_le _) ?_ ?_
    · intro g
      refine AWP.less e ?_ ?_ ?_ ?_ ?_ (g) <;> (repeat' (first | exact True.intro | (refine And.intro ?_ ?_) | rfl | assumption))
      show some (SV.i a) = some (SV.i (a + (0 : Nat) * P))
      simp
    rintro j Φ hj next
    have hj : j ≤ K := hj
    refine AWP.runL e tab_ok L5 300 rfl (by first | trivial | (simp [in64] <;> omega)) ?_
    refine AWP.cond2 rfl (fun hlt => ?_) (fun hlt => ?_)
    · have hlt : j < K := by
        rcases Nat.lt_or_ge j K with h | h
        · exact h
        · obtain rfl : j = K := by omega
          have hlt : a + j * P ≤ n := by simpa using hlt
          omega
      have hlen : (decide ((j : Int) ≥ ((ints ((List.range K).map fun i : Nat => a + i * P)).length : Int))) = false := by simp; omega
      have h9 := k2 j hlt
      have h10 : (0 : Int) ≤ j * P := Int.mul_nonneg (by omega) (by omega)
      have eP : ((j + 1 : Nat) : Int) * P = j * P + P := by rw [Int.natCast_add, Int.add_mul]; simp
      refine AWP.runL e tab_ok L5 300 rfl (by first | trivial | (simp [in64] <;> omega)) ?_
      repeat (
        first
          | (refine AWP.askT rfl ?_; (first | (refine Told.t rfl ?_) | (refine Told.f rfl ?_) | (refine Told.t ?_ ?_; (focus assumption)) | (refine Told.f ?_ ?_; (focus assumption)) | (refine Told.t ?_ ?_; (focus (first | (simp; omega) | (simp [*]; done)); done)) | (refine Told.f ?_ ?_; (focus (first | (simp; omega) | (simp [*]; done)); done))); refine AWP.runL e tab_ok L5 300 rfl (by first | trivial | (simp [in64] <;> omega)) ?_)
          | (refine AWP.eq_agg e tab_ok rfl rfl rfl (.inl ⟨rfl, rfl⟩) ?_ 5 (by omega) rfl ?_ rfl rfl rfl rfl rfl rfl rfl ?_; (focus kernel_rfl); (focus kernel_rfl); refine AWP.runL e tab_ok L5 300 rfl (by first | trivial | (simp [in64] <;> omega)) ?_)
          | (refine AWP.eq_agg e tab_ok rfl rfl rfl (.inr ⟨rfl, rfl⟩) ?_ 5 (by omega) rfl ?_ rfl rfl rfl rfl rfl rfl rfl ?_; (focus kernel_rfl); (focus kernel_rfl); refine AWP.runL e tab_ok L5 300 rfl (by first | trivial | (simp [in64] <;> omega)) ?_)
        )
      refine AWP.idx e tab_ok rfl rfl rfl rfl j rfl (el := [.v (.int .i64 (a + j * P))]) (by simp [hlt]) ?_
      refine AWP.runL e tab_ok L5 300 rfl (by first | trivial | (simp [in64] <;> omega)) ?_
      repeat (
        first
          | (refine AWP.askT rfl ?_; (first | (refine Told.t rfl ?_) | (refine Told.f rfl ?_) | (refine Told.t ?_ ?_; (focus assumption)) | (refine Told.f ?_ ?_; (focus assumption)) | (refine Told.t ?_ ?_; (focus (first | (simp; omega) | (simp [*]; done)); done)) | (refine Told.f ?_ ?_; (focus (first | (simp; omega) | (simp [*]; done)); done))); refine AWP.runL e tab_ok L5 300 rfl (by first | trivial | (simp [in64] <;> omega)) ?_)
          | (refine AWP.eq_agg e tab_ok rfl rfl rfl (.inl ⟨rfl, rfl⟩) ?_ 5 (by omega) rfl ?_ rfl rfl rfl rfl rfl rfl rfl ?_; (focus kernel_rfl); (focus kernel_rfl); refine AWP.runL e tab_ok L5 300 rfl (by first | trivial | (simp [in64] <;> omega)) ?_)
          | (refine AWP.eq_agg e tab_ok rfl rfl rfl (.inr ⟨rfl, rfl⟩) ?_ 5 (by omega) rfl ?_ rfl rfl rfl rfl rfl rfl rfl ?_; (focus kernel_rfl); (focus kernel_rfl); refine AWP.runL e tab_ok L5 300 rfl (by first | trivial | (simp [in64] <;> omega)) ?_)
        )
      refine AWP.less e ?_ ?_ ?_ ?_ ?_ (next (j + 1) hlt (by show K - (j + 1) < K - j; omega)) <;> (repeat' (first | exact True.intro | (refine And.intro ?_ ?_) | rfl | assumption))
      show some (SV.i (a + j * P + P)) = some (SV.i (a + ((j + 1 : Nat) : Int) * P))
      rw [eP, Int.add_assoc]
    · obtain rfl : j = K := by
        have hlt : ¬ a + j * P ≤ n := by simpa using hlt
        rcases Nat.lt_or_ge j K with h | h
        · exact absurd (k2 j h) hlt
        · omega
      have hl : (((j : Nat) : Int) == ((ints ((List.range j).map fun i : Nat => a + i * P)).length : Int)) = true := by simp
      refine AWP.runL e tab_ok L5 300 rfl (by first | trivial | (simp [in64] <;> omega)) ?_
      repeat (
        first
          | (refine AWP.askT rfl ?_; (first | (refine Told.t rfl ?_) | (refine Told.f rfl ?_) | (refine Told.t ?_ ?_; (focus assumption)) | (refine Told.f ?_ ?_; (focus assumption)) | (refine Told.t ?_ ?_; (focus (first | (simp; omega) | (simp [*]; done)); done)) | (refine Told.f ?_ ?_; (focus (first | (simp; omega) | (simp [*]; done)); done))); refine AWP.runL e tab_ok L5 300 rfl (by first | trivial | (simp [in64] <;> omega)) ?_)
          | (refine AWP.callQ e rfl rfl ?_; (first | refine CallQ.mk (c3) rfl rfl ?_ | refine CallQ.mk (c4) rfl rfl ?_ | refine CallQ.mk (c5) rfl rfl ?_ | refine CallQ.mk (c6) rfl rfl ?_ | refine CallQ.mk (alive_eff) rfl rfl ?_); refine AWP.runL e tab_ok L5 300 rfl (by first | trivial | (simp [in64] <;> omega)) ?_)
          | (refine AWP.eq_agg e tab_ok rfl rfl rfl (.inl ⟨rfl, rfl⟩) ?_ 5 (by omega) rfl ?_ rfl rfl rfl rfl rfl rfl rfl ?_; (focus kernel_rfl); (focus kernel_rfl); refine AWP.runL e tab_ok L5 300 rfl (by first | trivial | (simp [in64] <;> omega)) ?_)
          | (refine AWP.eq_agg e tab_ok rfl rfl rfl (.inr ⟨rfl, rfl⟩) ?_ 5 (by omega) rfl ?_ rfl rfl rfl rfl rfl rfl rfl ?_; (focus kernel_rfl); (focus kernel_rfl); refine AWP.runL e tab_ok L5 300 rfl (by first | trivial | (simp [in64] <;> omega)) ?_)
        )
      refine AWP.ret e tab_ok rfl ?_
      rw [hP]
      all_goals first | rfl | (simp [strip]; done)
  · repeat (
      first
        | (refine AWP.askT rfl ?_; (first | (refine Told.t rfl ?_) | (refine Told.f rfl ?_) | (refine Told.t ?_ ?_; (focus assumption)) | (refine Told.f ?_ ?_; (focus assumption)) | (refine Told.t ?_ ?_; (focus (first | (simp; omega) | (simp [*]; done)); done)) | (refine Told.f ?_ ?_; (focus (first | (simp; omega) | (simp [*]; done)); done))); refine AWP.runL e tab_ok L5 300 rfl (by first | trivial | (simp [in64] <;> omega)) ?_)
        | (refine AWP.callQ e rfl rfl ?_; (first | refine CallQ.mk (c1) rfl rfl ?_); refine AWP.runL e tab_ok L5 300 rfl (by first | trivial | (simp [in64] <;> omega)) ?_)
        | (refine AWP.eq_agg e tab_ok rfl rfl rfl (.inl ⟨rfl, rfl⟩) ?_ 5 (by omega) rfl ?_ rfl rfl rfl rfl rfl rfl rfl ?_; (focus kernel_rfl); (focus kernel_rfl); refine AWP.runL e tab_ok L5 300 rfl (by first | trivial | (simp [in64] <;> omega)) ?_)
        | (refine AWP.eq_agg e tab_ok rfl rfl rfl (.inr ⟨rfl, rfl⟩) ?_ 5 (by omega) rfl ?_ rfl rfl rfl rfl rfl rfl rfl ?_; (focus kernel_rfl); (focus kernel_rfl); refine AWP.runL e tab_ok L5 300 rfl (by first | trivial | (simp [in64] <;> omega)) ?_)
      )
    refine AWP.eqT 18 (.i a) rfl (congrArg SV.i ha.symm) ?_
    refine AWP.runL e tab_ok L5 300 rfl (by first | trivial | (simp [in64] <;> omega)) ?_
    refine AWP.loop (ι := Nat) (fun j => ⟨[(17, .i j), (18, .i (a + j * P)), (1, .i P), (2, .i n), (15, .d (.sl 1 (ints ((List.range K).map fun i : Nat => a + i * P)))), (8, .b false), (9, .ptr 0 0), (11, .i 0), (16, .i 0)], [(0, .box (wC (perW F P)))], 1⟩) (fun j => j ≤ K) (fun j => K - j) 0 (Nat.zero_le _) ?_ ?_
    · intro g
      refine AWP.less e ?_ ?_ ?_ ?_ ?_ (g) <;> (repeat' (first | exact True.intro | (refine And.intro ?_ ?_) | rfl | assumption))
      show some (SV.i a) = some (SV.i (a + (0 : Nat) * P))
      simp
    rintro j Φ hj next
    have hj : j ≤ K := hj
    refine AWP.runL e tab_ok L5 300 rfl (by first | trivial | (simp [in64] <;> omega)) ?_
    refine AWP.cond2 rfl (fun hlt => ?_) (fun hlt => ?_)
    · have hlt : j < K := by
        rcases Nat.lt_or_ge j K with h | h
        · exact h
        · obtain rfl : j = K := by omega
          have hlt : a + j * P ≤ n := by simpa using hlt
          omega
      have hlen : (decide ((j : Int) ≥ ((ints ((List.range K).map fun i : Nat => a + i * P)).length : Int))) = false := by simp; omega
      have h9 := k2 j hlt
      have h10 : (0 : Int) ≤ j * P := Int.mul_nonneg (by omega) (by omega)
      have eP : ((j + 1 : Nat) : Int) * P = j * P + P := by rw [Int.natCast_add, Int.add_mul]; simp
      refine AWP.runL e tab_ok L5 300 rfl (by first | trivial | (simp [in64] <;> omega)) ?_
      repeat (
        first
          | (refine AWP.askT rfl ?_; (first | (refine Told.t rfl ?_) | (refine Told.f rfl ?_) | (refine Told.t ?_ ?_; (focus assumption)) | (refine Told.f ?_ ?_; (focus assumption)) | (refine Told.t ?_ ?_; (focus (first | (simp; omega) | (simp [*]; done)); done)) | (refine Told.f ?_ ?_; (focus (first | (simp; omega) | (simp [*]; done)); done))); refine AWP.runL e tab_ok L5 300 rfl (by first | trivial | (simp [in64] <;> omega)) ?_)
          | (refine AWP.eq_agg e tab_ok rfl rfl rfl (.inl ⟨rfl, rfl⟩) ?_ 5 (by omega) rfl ?_ rfl rfl rfl rfl rfl rfl rfl ?_; (focus kernel_rfl); (focus kernel_rfl); refine AWP.runL e tab_ok L5 300 rfl (by first | trivial | (simp [in64] <;> omega)) ?_)
          | (refine AWP.eq_agg e tab_ok rfl rfl rfl (.inr ⟨rfl, rfl⟩) ?_ 5 (by omega) rfl ?_ rfl rfl rfl rfl rfl rfl rfl ?_; (focus kernel_rfl); (focus kernel_rfl); refine AWP.runL e tab_ok L5 300 rfl (by first | trivial | (simp [in64] <;> omega)) ?_)
        )
      refine AWP.idx e tab_ok rfl rfl rfl rfl j rfl (el := [.v (.int .i64 (a + j * P))]) (by simp [hlt]) ?_
      refine AWP.runL e tab_ok L5 300 rfl (by first | trivial | (simp [in64] <;> omega)) ?_
      repeat (
        first
          | (refine AWP.askT rfl ?_; (first | (refine Told.t rfl ?_) | (refine Told.f rfl ?_) | (refine Told.t ?_ ?_; (focus assumption)) | (refine Told.f ?_ ?_; (focus assumption)) | (refine Told.t ?_ ?_; (focus (first | (simp; omega) | (simp [*]; done)); done)) | (refine Told.f ?_ ?_; (focus (first | (simp; omega) | (simp [*]; done)); done))); refine AWP.runL e tab_ok L5 300 rfl (by first | trivial | (simp [in64] <;> omega)) ?_)
          | (refine AWP.eq_agg e tab_ok rfl rfl rfl (.inl ⟨rfl, rfl⟩) ?_ 5 (by omega) rfl ?_ rfl rfl rfl rfl rfl rfl rfl ?_; (focus kernel_rfl); (focus kernel_rfl); refine AWP.runL e tab_ok L5 300 rfl (by first | trivial | (simp [in64] <;> omega)) ?_)
          | (refine AWP.eq_agg e tab_ok rfl rfl rfl (.inr ⟨rfl, rfl⟩) ?_ 5 (by omega) rfl ?_ rfl rfl rfl rfl rfl rfl rfl ?_; (focus kernel_rfl); (focus kernel_rfl); refine AWP.runL e tab_ok L5 300 rfl (by first | trivial | (simp [in64] <;> omega)) ?_)
        )
      refine AWP.less e ?_ ?_ ?_ ?_ ?_ (next (j + 1) hlt (by show K - (j + 1) < K - j; omega)) <;> (repeat' (first | exact True.intro | (refine And.intro ?_ ?_) | rfl | assumption))
      show some (SV.i (a + j * P + P)) = some (SV.i (a + ((j + 1 : Nat) : Int) * P))
      rw [eP, Int.add_assoc]
    · obtain rfl : j = K := by
        have hlt : ¬ a + j * P ≤ n := by simpa using hlt
        rcases Nat.lt_or_ge j K with h | h
        · exact absurd (k2 j h) hlt
        · omega
      have hl : (((j : Nat) : Int) == ((ints ((List.range j).map fun i : Nat => a + i * P)).length : Int)) = true := by simp
      refine AWP.runL e tab_ok L5 300 rfl (by first | trivial | (simp [in64] <;> omega)) ?_
      repeat (
        first
          | (refine AWP.askT rfl ?_; (first | (refine Told.t rfl ?_) | (refine Told.f rfl ?_) | (refine Told.t ?_ ?_; (focus assumption)) | (refine Told.f ?_ ?_; (focus assumption)) | (refine Told.t ?_ ?_; (focus (first | (simp; omega) | (simp [*]; done)); done)) | (refine Told.f ?_ ?_; (focus (first | (simp; omega) | (simp [*]; done)); done))); refine AWP.runL e tab_ok L5 300 rfl (by first | trivial | (simp [in64] <;> omega)) ?_)
          | (refine AWP.callQ e rfl rfl ?_; (first | refine CallQ.mk (c3) rfl rfl ?_ | refine CallQ.mk (c4) rfl rfl ?_ | refine CallQ.mk (c5) rfl rfl ?_ | refine CallQ.mk (c6) rfl rfl ?_ | refine CallQ.mk (alive_eff) rfl rfl ?_); refine AWP.runL e tab_ok L5 300 rfl (by first | trivial | (simp [in64] <;> omega)) ?_)
          | (refine AWP.eq_agg e tab_ok rfl rfl rfl (.inl ⟨rfl, rfl⟩) ?_ 5 (by omega) rfl ?_ rfl rfl rfl rfl rfl rfl rfl ?_; (focus kernel_rfl); (focus kernel_rfl); refine AWP.runL e tab_ok L5 300 rfl (by first | trivial | (simp [in64] <;> omega)) ?_)
          | (refine AWP.eq_agg e tab_ok rfl rfl rfl (.inr ⟨rfl, rfl⟩) ?_ 5 (by omega) rfl ?_ rfl rfl rfl rfl rfl rfl rfl ?_; (focus kernel_rfl); (focus kernel_rfl); refine AWP.runL e tab_ok L5 300 rfl (by first | trivial | (simp [in64] <;> omega)) ?_)
        )
      refine AWP.ret e tab_ok rfl ?_
      rw [hP]
      all_goals first | rfl | (simp [strip]; done)

theorem periods_args (l : List SV) (h : Args tab 9 [3, 3, 3, 4] l) : Eff Try.prog 5 l [] 0 (fun r _ _ => r = .b true) := by
  obtain ⟨_, _, rfl, ⟨a, rfl, _, _⟩, _, _, rfl, ⟨b, rfl, _, _⟩, _, _, rfl, ⟨c, rfl, _, _⟩, _, _, rfl, ⟨d, rfl⟩, rfl⟩ := h
  exact periods_eff a b c d
end Go.Proofs.Ytaiejjfikdpccaa
