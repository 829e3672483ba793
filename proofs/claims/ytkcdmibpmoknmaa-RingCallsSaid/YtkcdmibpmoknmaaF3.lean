import Derived.Test.YtkcdmibpmoknmaaF2
open Go Go.Proofs Go.Sy
namespace Go.Proofs.Ytkcdmibpmoknmaa

def al3 : Nat → List Int
  | 0 => []
  | 1 => [0]
  | 2 => [0, 1]
  | _ => [1, 2]

set_option maxRecDepth 100000 in
theorem alive_eff : Eff Try.prog 8 [] [] 0 (fun r _ _ => r = .b true) := by
  refine eff_of Try.func8 rfl rfl rfl fun cx e hP => ?_
  refine AWP.runL e tab_ok L8 300 rfl (by first | trivial | (simp [in64] <;> omega)) ?_
  refine AWP.callQ e rfl rfl ?_
  refine CallQ.mk (newI_ok 2 true (by omega) (by omega)) rfl rfl ?_
  refine AWP.runL e tab_ok L8 300 rfl (by first | trivial | (simp [in64] <;> omega)) ?_
  refine AWP.loop (ι := Nat) (fun i => ⟨[(14, .i i), (0, .b false), (1, .ptr 0 0), (2, .i 0)], [(0, .box [slI (al3 i), .i 2, .b true])], 1⟩) (fun i => i ≤ 3) (fun i => 3 - i) 0 (by decide) ?_ ?_
  · intro g
    refine AWP.less e ?_ ?_ ?_ ?_ ?_ g
    · exact ⟨rfl, rfl, rfl, rfl, trivial⟩
    · exact ⟨rfl, trivial⟩
    · rfl
    · exact ⟨rfl, rfl, trivial⟩
    · rfl
  rintro i Φ hI next
  have hI : i ≤ 3 := hI
  have hc : i = 0 ∨ i = 1 ∨ i = 2 ∨ i = 3 := by omega
  rcases hc with rfl | rfl | rfl | rfl
  · refine AWP.runL e tab_ok L8 300 rfl (by first | trivial | (simp [in64] <;> omega)) ?_
    repeat (
      first
        | (refine AWP.askT rfl ?_; (first | (refine Told.t rfl ?_) | (refine Told.f rfl ?_) | (refine Told.t ?_ ?_; (focus (first | assumption | (simp; omega) | (simp [*]; done)); done)) | (refine Told.f ?_ ?_; (focus (first | assumption | (simp; omega) | (simp [*]; done)); done))); refine AWP.runL e tab_ok L8 300 rfl (by first | trivial | (simp [in64] <;> omega)) ?_)
        | (refine AWP.callQ e rfl rfl ?_; (first | refine CallQ.mk (putI_ok [] 2 true 0 rfl (by decide)) rfl rfl ?_); refine AWP.runL e tab_ok L8 300 rfl (by first | trivial | (simp [in64] <;> omega)) ?_)
      )
    refine AWP.runL e tab_ok L8 300 rfl (by first | trivial | (simp [in64] <;> omega)) ?_
    refine AWP.less e ?_ ?_ ?_ ?_ ?_ (next 1 (by decide) (by decide))
    · exact ⟨rfl, rfl, rfl, rfl, trivial⟩
    · exact ⟨rfl, trivial⟩
    · rfl
    · exact ⟨rfl, rfl, trivial⟩
    · rfl
  · refine AWP.runL e tab_ok L8 300 rfl (by first | trivial | (simp [in64] <;> omega)) ?_
    repeat (
      first
        | (refine AWP.askT rfl ?_; (first | (refine Told.t rfl ?_) | (refine Told.f rfl ?_) | (refine Told.t ?_ ?_; (focus (first | assumption | (simp; omega) | (simp [*]; done)); done)) | (refine Told.f ?_ ?_; (focus (first | assumption | (simp; omega) | (simp [*]; done)); done))); refine AWP.runL e tab_ok L8 300 rfl (by first | trivial | (simp [in64] <;> omega)) ?_)
        | (refine AWP.callQ e rfl rfl ?_; (first | refine CallQ.mk (putI_ok [0] 2 true 1 rfl (by decide)) rfl rfl ?_); refine AWP.runL e tab_ok L8 300 rfl (by first | trivial | (simp [in64] <;> omega)) ?_)
      )
    refine AWP.runL e tab_ok L8 300 rfl (by first | trivial | (simp [in64] <;> omega)) ?_
    refine AWP.less e ?_ ?_ ?_ ?_ ?_ (next 2 (by decide) (by decide))
    · exact ⟨rfl, rfl, rfl, rfl, trivial⟩
    · exact ⟨rfl, trivial⟩
    · rfl
    · exact ⟨rfl, rfl, trivial⟩
    · rfl
  · refine AWP.runL e tab_ok L8 300 rfl (by first | trivial | (simp [in64] <;> omega)) ?_
    repeat (
      first
        | (refine AWP.askT rfl ?_; (first | (refine Told.t rfl ?_) | (refine Told.f rfl ?_) | (refine Told.t ?_ ?_; (focus (first | assumption | (simp; omega) | (simp [*]; done)); done)) | (refine Told.f ?_ ?_; (focus (first | assumption | (simp; omega) | (simp [*]; done)); done))); refine AWP.runL e tab_ok L8 300 rfl (by first | trivial | (simp [in64] <;> omega)) ?_)
        | (refine AWP.callQ e rfl rfl ?_; (first | refine CallQ.mk (putI_full [0, 1] 2 2 rfl (by decide)) rfl rfl ?_); refine AWP.runL e tab_ok L8 300 rfl (by first | trivial | (simp [in64] <;> omega)) ?_)
      )
    refine AWP.runL e tab_ok L8 300 rfl (by first | trivial | (simp [in64] <;> omega)) ?_
    refine AWP.less e ?_ ?_ ?_ ?_ ?_ (next 3 (by decide) (by decide))
    · exact ⟨rfl, rfl, rfl, rfl, trivial⟩
    · exact ⟨rfl, trivial⟩
    · rfl
    · exact ⟨rfl, rfl, trivial⟩
    · rfl
  · refine AWP.runL e tab_ok L8 300 rfl (by first | trivial | (simp [in64] <;> omega)) ?_
    repeat (
      first
        | (refine AWP.askT rfl ?_; (first | (refine Told.t rfl ?_) | (refine Told.f rfl ?_) | (refine Told.t ?_ ?_; (focus (first | assumption | (simp; omega) | (simp [*]; done)); done)) | (refine Told.f ?_ ?_; (focus (first | assumption | (simp; omega) | (simp [*]; done)); done))); refine AWP.runL e tab_ok L8 300 rfl (by first | trivial | (simp [in64] <;> omega)) ?_)
        | (refine AWP.callQ e rfl rfl ?_; (first | refine CallQ.mk (takeI_ok [2] 2 true 1 rfl) rfl rfl ?_); refine AWP.runL e tab_ok L8 300 rfl (by first | trivial | (simp [in64] <;> omega)) ?_)
      )
    refine AWP.ret e tab_ok rfl ?_
    rw [hP]
    all_goals first | rfl | (simp [strip]; done)

def rng (k : Nat) : List Int := (List.range k).map fun (j : Nat) => (j : Int)
theorem rng_len (k : Nat) : (rng k).length = k := by simp [rng]
theorem rng_succ (k : Nat) : rng (k + 1) = rng k ++ [(k : Int)] := by simp [rng, List.range_succ]
theorem rng_cons (k : Nat) (h : 0 < k) : ∃ l, rng k = 0 :: l ∧ l.length = k - 1 := by
  obtain ⟨j, rfl⟩ : ∃ j, k = j + 1 := ⟨k - 1, by omega⟩
  exact ⟨(List.range j).map fun (i : Nat) => ((i + 1 : Nat) : Int), by simp [rng, List.range_succ_eq_map, List.map_map, Function.comp_def], by simp⟩


set_option maxRecDepth 100000 in
theorem room_0 (size puts : Int) (n p : Nat) (hn : (n : Int) = if 16 < (if 1 > size then 1 else size) then 16 else if 1 > size then 1 else size) (hp : (p : Int) = if 30 < (if 0 > puts then 0 else puts) then 30 else if 0 > puts then 0 else puts) (n1 : 1 ≤ n) (n2 : n ≤ 16) (p2 : p ≤ 30) (p0 : p = 0) : Eff Try.prog 4 [.i size, .i puts] [] 0 (fun r _ _ => r = .b true) := by
  refine eff_of Try.func4 rfl rfl rfl fun cx e hP => ?_
  refine AWP.runL e tab_ok L4 300 rfl (by first | trivial | (simp [in64] <;> omega)) ?_
  refine AWP.less e (tm := [(24, .i n), (0, .i n), (1, .i p), (4, .b false)]) (hp := []) (nx := 0) ?_ ?_ ?_ ?_ ?_ ?_
  · exact ⟨congrArg (fun z => some (SV.i z)) hn.symm, congrArg (fun z => some (SV.i z)) hn.symm, congrArg (fun z => some (SV.i z)) hp.symm, rfl, trivial⟩
  · exact trivial
  · rfl
  · exact trivial
  · rfl
  clear hn hp
  refine AWP.callQ e rfl rfl ?_
  refine CallQ.mk (newI_ok n false (by omega) (by omega)) rfl rfl ?_
  refine AWP.runL e tab_ok L4 300 rfl (by first | trivial | (simp [in64] <;> omega)) ?_
  refine AWP.loop (ι := Nat) (fun i => ⟨[(29, .i i), (28, .i p), (0, .i n), (1, .i p), (4, .b false), (5, .ptr 0 0), (6, .i 0)], [(0, .box [slI (rng (min i n)), .i n, .b false])], 1⟩) (fun i => i ≤ p) (fun i => p - i) 0 (Nat.zero_le _) ?_ ?_
  · intro g
    refine AWP.less e ?_ ?_ ?_ ?_ ?_ g
    · exact ⟨rfl, rfl, rfl, rfl, rfl, rfl, rfl, trivial⟩
    · refine ⟨?_, trivial⟩
      rw [Nat.zero_min]; rfl
    · rfl
    · exact ⟨rfl, rfl, trivial⟩
    · rfl
  rintro i Φ hI next
  have hI : i ≤ p := hI
  refine AWP.runL e tab_ok L4 300 rfl (by first | trivial | (simp [in64] <;> omega)) ?_
  refine AWP.cond2 rfl (fun hlt => ?_) (fun hlt => ?_)
  · exfalso
    have hlt : i < p := by simpa using hlt
    omega
  have hge : ¬ i < p := by simpa using hlt
  obtain rfl : i = p := by omega
  obtain ⟨q, hq⟩ : ∃ q, q = min i n := ⟨_, rfl⟩
  rw [← hq]
  have hrt : rightR (rng q).length n = true := by unfold rightR; rw [rng_len]; refine decide_eq_true ?_; omega
  have hm := roomI_eff (rng q) n false hrt
  rw [show (n : Int) - (rng q).length = (if 0 > (n : Int) - i then 0 else (n : Int) - i) by rw [rng_len]; split <;> omega] at hm
  subst p0
  obtain rfl : q = 0 := by omega
  clear hq hlt hge next hI
  refine AWP.runL e tab_ok L4 300 rfl (by first | trivial | (simp [in64] <;> omega)) ?_
  repeat (
    first
      | (refine AWP.askT rfl ?_; (first | (refine Told.t rfl ?_) | (refine Told.f rfl ?_) | (refine Told.t ?_ ?_; (focus (first | assumption | (simp; omega) | (simp [*]; done)); done)) | (refine Told.f ?_ ?_; (focus (first | assumption | (simp; omega) | (simp [*]; done)); done))); refine AWP.runL e tab_ok L4 300 rfl (by first | trivial | (simp [in64] <;> omega)) ?_)
      | (refine AWP.callQ e rfl rfl ?_; (first | refine CallQ.mk (hm) rfl rfl ?_ | refine CallQ.mk (alive_eff) rfl rfl ?_ | refine CallQ.mk (takeI_none n false hrt) rfl rfl ?_); refine AWP.runL e tab_ok L4 300 rfl (by first | trivial | (simp [in64] <;> omega)) ?_)
    )
  refine AWP.ret e tab_ok rfl ?_
  rw [hP]
  all_goals first | rfl | (simp [strip]; done)

set_option maxRecDepth 100000 in
theorem room_1 (size puts : Int) (n p : Nat) (hn : (n : Int) = if 16 < (if 1 > size then 1 else size) then 16 else if 1 > size then 1 else size) (hp : (p : Int) = if 30 < (if 0 > puts then 0 else puts) then 30 else if 0 > puts then 0 else puts) (n1 : 1 ≤ n) (n2 : n ≤ 16) (p2 : p ≤ 30) (p1 : 1 ≤ p) : Eff Try.prog 4 [.i size, .i puts] [] 0 (fun r _ _ => r = .b true) := by
  refine eff_of Try.func4 rfl rfl rfl fun cx e hP => ?_
  refine AWP.runL e tab_ok L4 300 rfl (by first | trivial | (simp [in64] <;> omega)) ?_
  refine AWP.less e (tm := [(24, .i n), (0, .i n), (1, .i p), (4, .b false)]) (hp := []) (nx := 0) ?_ ?_ ?_ ?_ ?_ ?_
  · exact ⟨congrArg (fun z => some (SV.i z)) hn.symm, congrArg (fun z => some (SV.i z)) hn.symm, congrArg (fun z => some (SV.i z)) hp.symm, rfl, trivial⟩
  · exact trivial
  · rfl
  · exact trivial
  · rfl
  clear hn hp
  refine AWP.callQ e rfl rfl ?_
  refine CallQ.mk (newI_ok n false (by omega) (by omega)) rfl rfl ?_
  refine AWP.runL e tab_ok L4 300 rfl (by first | trivial | (simp [in64] <;> omega)) ?_
  refine AWP.loop (ι := Nat) (fun i => ⟨[(29, .i i), (28, .i p), (0, .i n), (1, .i p), (4, .b false), (5, .ptr 0 0), (6, .i 0)], [(0, .box [slI (rng (min i n)), .i n, .b false])], 1⟩) (fun i => i ≤ p) (fun i => p - i) 0 (Nat.zero_le _) ?_ ?_
  · intro g
    refine AWP.less e ?_ ?_ ?_ ?_ ?_ g
    · exact ⟨rfl, rfl, rfl, rfl, rfl, rfl, rfl, trivial⟩
    · refine ⟨?_, trivial⟩
      rw [Nat.zero_min]; rfl
    · rfl
    · exact ⟨rfl, rfl, trivial⟩
    · rfl
  rintro i Φ hI next
  have hI : i ≤ p := hI
  refine AWP.runL e tab_ok L4 300 rfl (by first | trivial | (simp [in64] <;> omega)) ?_
  refine AWP.cond2 rfl (fun hlt => ?_) (fun hlt => ?_)
  · have hlt : i < p := by simpa using hlt
    by_cases hin : i < n
    · have e1 : min i n = i := by omega
      have hput := putI_ok (rng i) n false i (by unfold rightR; rw [rng_len]; refine decide_eq_true ?_; omega) (by rw [rng_len]; omega)
      rw [← rng_succ] at hput
      rw [e1]
      refine AWP.runL e tab_ok L4 300 rfl (by first | trivial | (simp [in64] <;> omega)) ?_
      repeat (
        first
          | (refine AWP.askT rfl ?_; (first | (refine Told.t rfl ?_) | (refine Told.f rfl ?_) | (refine Told.t ?_ ?_; (focus (first | assumption | (simp; omega) | (simp [*]; done)); done)) | (refine Told.f ?_ ?_; (focus (first | assumption | (simp; omega) | (simp [*]; done)); done))); refine AWP.runL e tab_ok L4 300 rfl (by first | trivial | (simp [in64] <;> omega)) ?_)
          | (refine AWP.callQ e rfl rfl ?_; (first | refine CallQ.mk (hput) rfl rfl ?_); refine AWP.runL e tab_ok L4 300 rfl (by first | trivial | (simp [in64] <;> omega)) ?_)
        )
      refine AWP.less e ?_ ?_ ?_ ?_ ?_ (next (i + 1) hlt (by show p - (i + 1) < p - i; omega))
      · exact ⟨rfl, rfl, rfl, rfl, rfl, rfl, rfl, trivial⟩
      · refine ⟨?_, trivial⟩
        rw [show min (i + 1) n = i + 1 by omega]; rfl
      · rfl
      · exact ⟨rfl, rfl, trivial⟩
      · rfl
    · have e1 : min i n = n := by omega
      have hput := putI_busy (rng n) n i (by unfold rightR; rw [rng_len]; refine decide_eq_true ?_; omega) (by rw [rng_len])
      rw [e1]
      refine AWP.runL e tab_ok L4 300 rfl (by first | trivial | (simp [in64] <;> omega)) ?_
      repeat (
        first
          | (refine AWP.askT rfl ?_; (first | (refine Told.t rfl ?_) | (refine Told.f rfl ?_) | (refine Told.t ?_ ?_; (focus (first | assumption | (simp; omega) | (simp [*]; done)); done)) | (refine Told.f ?_ ?_; (focus (first | assumption | (simp; omega) | (simp [*]; done)); done))); refine AWP.runL e tab_ok L4 300 rfl (by first | trivial | (simp [in64] <;> omega)) ?_)
          | (refine AWP.callQ e rfl rfl ?_; (first | refine CallQ.mk (hput) rfl rfl ?_); refine AWP.runL e tab_ok L4 300 rfl (by first | trivial | (simp [in64] <;> omega)) ?_)
        )
      refine AWP.less e ?_ ?_ ?_ ?_ ?_ (next (i + 1) hlt (by show p - (i + 1) < p - i; omega))
      · exact ⟨rfl, rfl, rfl, rfl, rfl, rfl, rfl, trivial⟩
      · refine ⟨?_, trivial⟩
        rw [show min (i + 1) n = n by omega]; rfl
      · rfl
      · exact ⟨rfl, rfl, trivial⟩
      · rfl
  have hge : ¬ i < p := by simpa using hlt
  obtain rfl : i = p := by omega
  obtain ⟨q, hq⟩ : ∃ q, q = min i n := ⟨_, rfl⟩
  rw [← hq]
  have hrt : rightR (rng q).length n = true := by unfold rightR; rw [rng_len]; refine decide_eq_true ?_; omega
  have hm := roomI_eff (rng q) n false hrt
  rw [show (n : Int) - (rng q).length = (if 0 > (n : Int) - i then 0 else (n : Int) - i) by rw [rng_len]; split <;> omega] at hm
  obtain ⟨t, ht, htl⟩ := rng_cons q (by omega)
  have htk := takeI_ok t n false 0 (by rw [← ht]; exact hrt)
  rw [← ht] at htk
  have hr1 : rightR t.length n = true := by unfold rightR; refine decide_eq_true ?_; omega
  have hput := putI_ok t n false 99 hr1 (by omega)
  have hm1 := roomI_eff t n false hr1
  rw [show (n : Int) - t.length = (if 0 > (n : Int) - i then 0 else (n : Int) - i) + 1 by split <;> omega] at hm1
  have hm2 := roomI_eff (t ++ [99]) n false (by unfold rightR; refine decide_eq_true ?_; simp; omega)
  have q1 : (n : Int) - ((t ++ [(99 : Int)]).length : Nat) = (if 0 > (n : Int) - i then 0 else (n : Int) - i) := by simp; split <;> omega
  rw [q1] at hm2
  have hrange : 0 ≤ (if 0 > (n : Int) - i then 0 else (n : Int) - i) ∧ (if 0 > (n : Int) - i then 0 else (n : Int) - i) ≤ 16 := by split <;> omega
  have hne : ((i : Int) == 0) = false := by rw [beq_eq_false_iff_ne]; omega
  refine AWP.runL e tab_ok L4 300 rfl (by first | trivial | (simp [in64] <;> omega)) ?_
  repeat (
    first
      | (refine AWP.askT rfl ?_; (first | (refine Told.t rfl ?_) | (refine Told.f rfl ?_) | (refine Told.t ?_ ?_; (focus (first | assumption | (simp; omega) | (simp [*]; done)); done)) | (refine Told.f ?_ ?_; (focus (first | assumption | (simp; omega) | (simp [*]; done)); done))); refine AWP.runL e tab_ok L4 300 rfl (by first | trivial | (simp [in64] <;> omega)) ?_)
      | (refine AWP.callQ e rfl rfl ?_; (first | refine CallQ.mk (hm) rfl rfl ?_ | refine CallQ.mk (alive_eff) rfl rfl ?_ | refine CallQ.mk (htk) rfl rfl ?_ | refine CallQ.mk (hput) rfl rfl ?_ | refine CallQ.mk (hm1) rfl rfl ?_ | refine CallQ.mk (hm2) rfl rfl ?_); refine AWP.runL e tab_ok L4 300 rfl (by first | trivial | (simp [in64] <;> omega)) ?_)
      | (refine AWP.keep L4 rfl ?_; refine AWP.drg 100 ?_; (refine DrG.runN e tab_ok 200 rfl (by first | trivial | (simp [in64] <;> omega)) ?_); (repeat (first | (refine DrG.callQ e rfl rfl ?_; (first | refine CallVQ.mk (hm) rfl rfl ?_ | refine CallVQ.mk (alive_eff) rfl rfl ?_ | refine CallVQ.mk (htk) rfl rfl ?_ | refine CallVQ.mk (hput) rfl rfl ?_ | refine CallVQ.mk (hm1) rfl rfl ?_ | refine CallVQ.mk (hm2) rfl rfl ?_); (refine DrG.runN e tab_ok 200 rfl (by first | trivial | (simp [in64] <;> omega)) ?_)) | (refine DrG.callGo e rfl rfl rfl ?_; (first | refine CallVQ.mk (hm) rfl rfl ?_ | refine CallVQ.mk (alive_eff) rfl rfl ?_ | refine CallVQ.mk (htk) rfl rfl ?_ | refine CallVQ.mk (hput) rfl rfl ?_ | refine CallVQ.mk (hm1) rfl rfl ?_ | refine CallVQ.mk (hm2) rfl rfl ?_); (refine DrG.runN e tab_ok 200 rfl (by first | trivial | (simp [in64] <;> omega)) ?_)) | (refine DrG.callGoA e rfl ?_ rfl rfl ?_; (focus (first | assumption | with_reducible trivial | rfl | (simp; omega) | (simp [in64]; omega) | (simp [*]; done))); (first | refine CallVQ.mk (hm) rfl rfl ?_ | refine CallVQ.mk (alive_eff) rfl rfl ?_ | refine CallVQ.mk (htk) rfl rfl ?_ | refine CallVQ.mk (hput) rfl rfl ?_ | refine CallVQ.mk (hm1) rfl rfl ?_ | refine CallVQ.mk (hm2) rfl rfl ?_); (refine DrG.runN e tab_ok 200 rfl (by first | trivial | (simp [in64] <;> omega)) ?_)) | (refine DrG.v rfl (fun _ => VStep.goA rfl ?_ (VStep.ev e tab_ok rfl rfl ?_)) rfl ?_; (focus (first | rfl | assumption | (simp; done))); (focus (first | assumption | with_reducible trivial | rfl | (simp; omega) | (simp [in64]; omega) | (simp [*]; done))); (refine DrG.runN e tab_ok 200 rfl (by first | trivial | (simp [in64] <;> omega)) ?_)) | (refine DrG.loadGoA e tab_ok rfl ?_ rfl rfl rfl rfl rfl rfl ?_; (focus (first | rfl | assumption | (simp; done))); (refine DrG.runN e tab_ok 200 rfl (by first | trivial | (simp [in64] <;> omega)) ?_)) | (refine DrG.v rfl (fun _ => VStep.notA e rfl rfl ?_) rfl ?_; (focus (first | rfl | assumption | (simp; done))); (refine DrG.runN e tab_ok 200 rfl (by first | trivial | (simp [in64] <;> omega)) ?_)) | (refine DrG.v rfl (fun _ => VStep.pickA e rfl rfl (v := true) ?_ rfl) rfl ?_; (focus (first | rfl | assumption | (simp; done))); (refine DrG.runN e tab_ok 200 rfl (by first | trivial | (simp [in64] <;> omega)) ?_)) | (refine DrG.v rfl (fun _ => VStep.pickA e rfl rfl (v := false) ?_ rfl) rfl ?_; (focus (first | rfl | assumption | (simp; done))); (refine DrG.runN e tab_ok 200 rfl (by first | trivial | (simp [in64] <;> omega)) ?_)) | (refine DrG.v rfl (fun _ => VStep.goA rfl ?_ (VStep.ev e tab_ok rfl rfl ?_)) rfl ?_; (focus (first | assumption | with_reducible trivial | rfl | (simp; omega) | (simp [in64]; omega) | (simp [*]; done))); (focus (first | assumption | with_reducible trivial | rfl | (simp; omega) | (simp [in64]; omega) | (simp [*]; done))); (refine DrG.runN e tab_ok 200 rfl (by first | trivial | (simp [in64] <;> omega)) ?_)) | (refine DrG.loadGoA e tab_ok rfl ?_ rfl rfl rfl rfl rfl rfl ?_; (focus (first | assumption | with_reducible trivial | rfl | (simp; omega) | (simp [in64]; omega) | (simp [*]; done))); (refine DrG.runN e tab_ok 200 rfl (by first | trivial | (simp [in64] <;> omega)) ?_)) | (refine DrG.v rfl (fun _ => VStep.notA e rfl rfl ?_) rfl ?_; (focus (first | assumption | with_reducible trivial | rfl | (simp; omega) | (simp [in64]; omega) | (simp [*]; done))); (refine DrG.runN e tab_ok 200 rfl (by first | trivial | (simp [in64] <;> omega)) ?_)) | (refine DrG.v rfl (fun _ => VStep.pickA e rfl rfl (v := true) ?_ rfl) rfl ?_; (focus (first | assumption | with_reducible trivial | rfl | (simp; omega) | (simp [in64]; omega) | (simp [*]; done))); (refine DrG.runN e tab_ok 200 rfl (by first | trivial | (simp [in64] <;> omega)) ?_)) | (refine DrG.v rfl (fun _ => VStep.pickA e rfl rfl (v := false) ?_ rfl) rfl ?_; (focus (first | assumption | with_reducible trivial | rfl | (simp; omega) | (simp [in64]; omega) | (simp [*]; done))); (refine DrG.runN e tab_ok 200 rfl (by first | trivial | (simp [in64] <;> omega)) ?_)) | (refine DrG.v rfl (fun _ => VStep.goA rfl ?_ (VStep.pickA e rfl rfl (v := true) ?_ rfl)) rfl ?_; (focus (first | assumption | with_reducible trivial | rfl | (simp; omega) | (simp [in64]; omega) | (simp [*]; done))); (focus (first | assumption | with_reducible trivial | rfl | (simp; omega) | (simp [in64]; omega) | (simp [*]; done))); (refine DrG.runN e tab_ok 200 rfl (by first | trivial | (simp [in64] <;> omega)) ?_)) | (refine DrG.v rfl (fun _ => VStep.go rfl (VStep.pickA e rfl rfl (v := true) ?_ rfl)) rfl ?_; (focus (first | assumption | with_reducible trivial | rfl | (simp; omega) | (simp [in64]; omega) | (simp [*]; done))); (refine DrG.runN e tab_ok 200 rfl (by first | trivial | (simp [in64] <;> omega)) ?_)) | (refine DrG.v rfl (fun _ => VStep.goA rfl ?_ (VStep.pickA e rfl rfl (v := false) ?_ rfl)) rfl ?_; (focus (first | assumption | with_reducible trivial | rfl | (simp; omega) | (simp [in64]; omega) | (simp [*]; done))); (focus (first | assumption | with_reducible trivial | rfl | (simp; omega) | (simp [in64]; omega) | (simp [*]; done))); (refine DrG.runN e tab_ok 200 rfl (by first | trivial | (simp [in64] <;> omega)) ?_)) | (refine DrG.v rfl (fun _ => VStep.go rfl (VStep.pickA e rfl rfl (v := false) ?_ rfl)) rfl ?_; (focus (first | assumption | with_reducible trivial | rfl | (simp; omega) | (simp [in64]; omega) | (simp [*]; done))); (refine DrG.runN e tab_ok 200 rfl (by first | trivial | (simp [in64] <;> omega)) ?_)))); refine DrG.fin e rfl ?_ rfl rfl rfl ?_ ?_; (focus kernel_rfl); (focus (repeat' (first | exact True.intro | (refine And.intro ?_ ?_) | rfl | assumption | exact okRow _))); dsimp only [tmS, hpS, tput, effH]; refine AWP.runL e tab_ok L4 300 rfl (by first | trivial | (simp [in64] <;> omega)) ?_)
    )
  refine AWP.ret e tab_ok rfl ?_
  rw [hP]
  all_goals first | rfl | (simp [strip]; done)

set_option maxRecDepth 100000 in
theorem room_args (l : List SV) (h : Args tab 9 [3, 3] l) : Eff Try.prog 4 l [] 0 (fun r _ _ => r = .b true) := by
  obtain ⟨_, _, rfl, ⟨size, rfl, _, _⟩, _, _, rfl, ⟨puts, rfl, _, _⟩, rfl⟩ := h
  obtain ⟨n, hn⟩ : ∃ n : Nat, (n : Int) = if 16 < (if 1 > size then 1 else size) then 16 else if 1 > size then 1 else size := ⟨(if 16 < (if 1 > size then 1 else size) then 16 else if 1 > size then 1 else size).toNat, by split <;> split <;> omega⟩
  obtain ⟨p, hp⟩ : ∃ p : Nat, (p : Int) = if 30 < (if 0 > puts then 0 else puts) then 30 else if 0 > puts then 0 else puts := ⟨(if 30 < (if 0 > puts then 0 else puts) then 30 else if 0 > puts then 0 else puts).toNat, by split <;> split <;> omega⟩
  have n1 : 1 ≤ n ∧ n ≤ 16 := by revert hn; split <;> split <;> omega
  have p1 : p ≤ 30 := by revert hp; split <;> split <;> omega
  by_cases h0 : p = 0
  · exact room_0 size puts n p hn hp n1.1 n1.2 p1 h0
  · exact room_1 size puts n p hn hp n1.1 n1.2 p1 (by omega)

end Go.Proofs.Ytkcdmibpmoknmaa
