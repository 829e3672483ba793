import Derived.Test.YtkcdmibpmoknmaaF4
open Go Go.Proofs Go.Sy
namespace Go.Proofs.Ytkcdmibpmoknmaa

set_option maxRecDepth 100000 in
set_option maxHeartbeats 2000000 in
theorem kinds_eff (l : List ByteArray) (size : Int) (b : Bool) (n : Nat) (hl : l.length ≤ 9223372036854775807) (hn : (n : Int) = if 16 < (if 1 > size then 1 else size) then 16 else if 1 > size then 1 else size) (n1 : 1 ≤ n) (n2 : n ≤ 16) : Eff Try.prog 6 [slS l, .i size, .b b] [] 0 (fun r _ _ => r = .b true) := by
  have hS := newS_ok n b (by omega) (by omega)
  have hI := newI_ok n b (by omega) (by omega)
  rw [hn] at hS hI
  refine eff_of Try.func6 rfl rfl rfl fun cx e hP => ?_
  refine AWP.runL e tab_ok L6 300 rfl (by first | trivial | (simp [in64] <;> omega)) ?_
  repeat (
    first
      | (refine AWP.askT rfl ?_; (first | (refine Told.t rfl ?_) | (refine Told.f rfl ?_) | (refine Told.t ?_ ?_; (focus (first | assumption | (simp; omega) | (simp [*]; done)); done)) | (refine Told.f ?_ ?_; (focus (first | assumption | (simp; omega) | (simp [*]; done)); done))); refine AWP.runL e tab_ok L6 300 rfl (by first | trivial | (simp [in64] <;> omega)) ?_)
      | (refine AWP.callQ e rfl rfl ?_; (first | refine CallQ.mk (hS) rfl rfl ?_ | refine CallQ.mk (hI) rfl rfl ?_ | refine CallQ.mk (alive_eff) rfl rfl ?_); refine AWP.runL e tab_ok L6 300 rfl (by first | trivial | (simp [in64] <;> omega)) ?_)
    )
  rw [← hn]
  refine AWP.loop (ι := Nat × List ByteArray) (fun s => ⟨[(50, .i s.1), (49, .i l.length), (48, slS l), (0, slS l), (2, .b b), (6, .b false), (7, .ptr 0 0), (9, .ptr 1 0)], [(0, .box [slS s.2, .i n, .b b]), (1, .box [slI (sizes s.2), .i n, .b b])], 2⟩)
    (fun s => s.1 ≤ l.length ∧ s.2.length ≤ n) (fun s => l.length - s.1) (0, []) ⟨Nat.zero_le _, Nat.zero_le _⟩ ?_ ?_
  · intro g
    refine AWP.lessR e [] ?_ ?_ ?_ ?_ ?_ ?_ g
    · refine ⟨rfl, ?_, rfl, rfl, rfl, rfl, rfl, rfl, trivial⟩
      show some (SV.i _) = some (SV.i _)
      rw [List.length_map]
    · exact ⟨rfl, rfl, trivial⟩
    · rfl
    · exact ⟨rfl, rfl, rfl, rfl, trivial⟩
    · rfl
    · rfl
  rintro ⟨i, xs⟩ Φ hI next
  obtain ⟨hI, hx⟩ : i ≤ l.length ∧ xs.length ≤ n := hI
  have hrt : rightR xs.length n = true := by unfold rightR; refine decide_eq_true ?_; omega
  have hrs : rightR (sizes xs).length n = true := by rw [List.length_map]; exact hrt
  refine AWP.runL e tab_ok L6 300 rfl (by first | trivial | (simp [in64] <;> omega)) ?_
  refine AWP.cond2 rfl (fun hlt => ?_) (fun hlt => ?_)
  · have hlt : i < l.length := by simpa using hlt
    refine AWP.runL e tab_ok L6 300 rfl (by first | trivial | (simp [in64] <;> omega)) ?_
    refine AWP.idx e tab_ok rfl rfl rfl rfl i rfl (el := [.v (.string l[i])]) (by simp [hlt]) ?_
    refine AWP.runL e tab_ok L6 300 rfl (by first | trivial | (simp [in64] <;> omega)) ?_
    refine AWP.cond2 rfl (fun h30 => ?_) (fun h30 => ?_)
    · refine AWP.runL e tab_ok L6 300 rfl (by first | trivial | (simp [in64] <;> omega)) ?_
      repeat (
        first
          | (refine AWP.askT rfl ?_; (first | (refine Told.t rfl ?_) | (refine Told.f rfl ?_) | (refine Told.t ?_ ?_; (focus (first | assumption | (simp; omega) | (simp [*]; done)); done)) | (refine Told.f ?_ ?_; (focus (first | assumption | (simp; omega) | (simp [*]; done)); done))); refine AWP.runL e tab_ok L6 300 rfl (by first | trivial | (simp [in64] <;> omega)) ?_)
          | (refine AWP.callQ e rfl rfl ?_; (first | refine CallQ.mk (each_ok xs n b 22 len22_eff hrt) rfl rfl ?_); refine AWP.runL e tab_ok L6 300 rfl (by first | trivial | (simp [in64] <;> omega)) ?_)
          | (refine AWP.keep L6 rfl ?_; refine AWP.drg 100 ?_; (refine DrG.runN e tab_ok 200 rfl (by first | trivial | (simp [in64] <;> omega)) ?_); (repeat (first | (refine DrG.callQ e rfl rfl ?_; (first | refine CallVQ.mk (each_ok xs n b 22 len22_eff hrt) rfl rfl ?_); (refine DrG.runN e tab_ok 200 rfl (by first | trivial | (simp [in64] <;> omega)) ?_)) | (refine DrG.callGo e rfl rfl rfl ?_; (first | refine CallVQ.mk (each_ok xs n b 22 len22_eff hrt) rfl rfl ?_); (refine DrG.runN e tab_ok 200 rfl (by first | trivial | (simp [in64] <;> omega)) ?_)) | (refine DrG.callGoA e rfl ?_ rfl rfl ?_; (focus (first | assumption | with_reducible trivial | rfl | (simp; omega) | (simp [in64]; omega) | (simp [*]; done))); (first | refine CallVQ.mk (each_ok xs n b 22 len22_eff hrt) rfl rfl ?_); (refine DrG.runN e tab_ok 200 rfl (by first | trivial | (simp [in64] <;> omega)) ?_)) | (refine DrG.v rfl (fun _ => VStep.goA rfl ?_ (VStep.ev e tab_ok rfl rfl ?_)) rfl ?_; (focus (first | assumption | with_reducible trivial | rfl | (simp; omega) | (simp [in64]; omega) | (simp [*]; done))); (focus (first | assumption | with_reducible trivial | rfl | (simp; omega) | (simp [in64]; omega) | (simp [*]; done))); (refine DrG.runN e tab_ok 200 rfl (by first | trivial | (simp [in64] <;> omega)) ?_)) | (refine DrG.loadGoA e tab_ok rfl ?_ rfl rfl rfl rfl rfl rfl ?_; (focus (first | assumption | with_reducible trivial | rfl | (simp; omega) | (simp [in64]; omega) | (simp [*]; done))); (refine DrG.runN e tab_ok 200 rfl (by first | trivial | (simp [in64] <;> omega)) ?_)) | (refine DrG.v rfl (fun _ => VStep.notA e rfl rfl ?_) rfl ?_; (focus (first | assumption | with_reducible trivial | rfl | (simp; omega) | (simp [in64]; omega) | (simp [*]; done))); (refine DrG.runN e tab_ok 200 rfl (by first | trivial | (simp [in64] <;> omega)) ?_)) | (refine DrG.v rfl (fun _ => VStep.pickA e rfl rfl (v := true) ?_ rfl) rfl ?_; (focus (first | assumption | with_reducible trivial | rfl | (simp; omega) | (simp [in64]; omega) | (simp [*]; done))); (refine DrG.runN e tab_ok 200 rfl (by first | trivial | (simp [in64] <;> omega)) ?_)) | (refine DrG.v rfl (fun _ => VStep.pickA e rfl rfl (v := false) ?_ rfl) rfl ?_; (focus (first | assumption | with_reducible trivial | rfl | (simp; omega) | (simp [in64]; omega) | (simp [*]; done))); (refine DrG.runN e tab_ok 200 rfl (by first | trivial | (simp [in64] <;> omega)) ?_)))); refine DrG.fin e rfl ?_ rfl rfl rfl ?_ ?_; (focus kernel_rfl); (focus (repeat' (first | exact True.intro | (refine And.intro ?_ ?_) | rfl | assumption | exact okRow _))); dsimp only [tmS, hpS, tput, effH]; refine AWP.runL e tab_ok L6 300 rfl (by first | trivial | (simp [in64] <;> omega)) ?_)
        )
      refine AWP.keep [6, 9, 19, 108, 109, 110, 111] rfl ?_
      refine AWP.loop (ι := Nat) (fun j => ⟨[(111, .i j), (110, .i (rowI (sizes xs)).length), (6, .b false), (9, .ptr 1 0), (19, .ptr 2 0)], [(2, .box [slI (sizes xs), .i n, .b b]), (1, .box [slI (sizes xs), .i n, .b b])], 3⟩) (fun j => j ≤ xs.length) (fun j => xs.length - j) 0 (Nat.zero_le _) ?_ ?_
      · intro g
        refine AWP.lessR e [] ?_ ?_ ?_ ?_ ?_ ?_ g
        · exact ⟨rfl, rfl, rfl, rfl, rfl, trivial⟩
        · exact ⟨rfl, rfl, trivial⟩
        · rfl
        · exact ⟨rfl, rfl, rfl, rfl, trivial⟩
        · rfl
        · rfl
      rintro j Ψ hJ next'
      have hJ : j ≤ xs.length := hJ
      refine AWP.runL e tab_ok L6 300 rfl (by first | trivial | (simp [in64] <;> omega)) ?_
      refine AWP.cond2 rfl (fun hlt => ?_) (fun hlt => ?_)
      · have hlt : j < xs.length := by simpa using hlt
        have hidx : (rowI (sizes xs))[j]? = some [.v (.int .i64 (xs[j].size : Int))] := by simp [hlt]
        refine AWP.runL e tab_ok L6 300 rfl (by first | trivial | (simp [in64] <;> omega)) ?_
        repeat (
          first
            | (refine AWP.askT rfl ?_; (first | (refine Told.t rfl ?_) | (refine Told.f rfl ?_) | (refine Told.t ?_ ?_; (focus (first | assumption | (simp; omega) | (simp [*]; done)); done)) | (refine Told.f ?_ ?_; (focus (first | assumption | (simp; omega) | (simp [*]; done)); done))); refine AWP.runL e tab_ok L6 300 rfl (by first | trivial | (simp [in64] <;> omega)) ?_)
            | (refine AWP.keep L6 rfl ?_; refine AWP.drg 300 ?_; (refine DrG.runN e tab_ok 200 rfl (by first | trivial | (simp [in64] <;> omega)) ?_); (repeat (first | (refine DrG.v rfl (fun _ => VStep.goA rfl ?_ (VStep.ev e tab_ok rfl rfl ?_)) rfl ?_; (focus (first | assumption | with_reducible trivial | rfl | (simp; omega) | (simp [in64]; omega) | (simp [*]; done))); (focus (first | assumption | with_reducible trivial | rfl | (simp; omega) | (simp [in64]; omega) | (simp [*]; done))); (refine DrG.runN e tab_ok 200 rfl (by first | trivial | (simp [in64] <;> omega)) ?_)) | (refine DrG.loadGoA e tab_ok rfl ?_ rfl rfl rfl rfl rfl rfl ?_; (focus (first | assumption | with_reducible trivial | rfl | (simp; omega) | (simp [in64]; omega) | (simp [*]; done))); (refine DrG.runN e tab_ok 200 rfl (by first | trivial | (simp [in64] <;> omega)) ?_)) | (refine DrG.v rfl (fun _ => VStep.notA e rfl rfl ?_) rfl ?_; (focus (first | assumption | with_reducible trivial | rfl | (simp; omega) | (simp [in64]; omega) | (simp [*]; done))); (refine DrG.runN e tab_ok 200 rfl (by first | trivial | (simp [in64] <;> omega)) ?_)) | (refine DrG.v rfl (fun _ => VStep.pickA e rfl rfl (v := true) ?_ rfl) rfl ?_; (focus (first | assumption | with_reducible trivial | rfl | (simp; omega) | (simp [in64]; omega) | (simp [*]; done))); (refine DrG.runN e tab_ok 200 rfl (by first | trivial | (simp [in64] <;> omega)) ?_)) | (refine DrG.v rfl (fun _ => VStep.pickA e rfl rfl (v := false) ?_ rfl) rfl ?_; (focus (first | assumption | with_reducible trivial | rfl | (simp; omega) | (simp [in64]; omega) | (simp [*]; done))); (refine DrG.runN e tab_ok 200 rfl (by first | trivial | (simp [in64] <;> omega)) ?_)) | (refine DrG.v rfl (fun _ => VStep.idx e tab_ok rfl rfl rfl rfl j rfl hidx) rfl ?_; (refine DrG.runN e tab_ok 200 rfl (by first | trivial | (simp [in64] <;> omega)) ?_)) | (refine DrG.v rfl (fun _ => VStep.go rfl (VStep.idx e tab_ok rfl rfl rfl rfl j rfl hidx)) rfl ?_; (refine DrG.runN e tab_ok 200 rfl (by first | trivial | (simp [in64] <;> omega)) ?_)) | (refine DrG.v rfl (fun _ => VStep.goA rfl ?_ (VStep.idx e tab_ok rfl rfl rfl rfl j rfl hidx)) rfl ?_; (focus (first | assumption | with_reducible trivial | rfl | (simp; omega) | (simp [in64]; omega) | (simp [*]; done))); (refine DrG.runN e tab_ok 200 rfl (by first | trivial | (simp [in64] <;> omega)) ?_)))); refine DrG.fin e rfl ?_ rfl rfl rfl ?_ ?_; (focus kernel_rfl); (focus (repeat' (first | exact True.intro | (refine And.intro ?_ ?_) | rfl | assumption | exact okRow _))); dsimp only [tmS, hpS, tput, effH]; refine AWP.runL e tab_ok L6 300 rfl (by first | trivial | (simp [in64] <;> omega)) ?_)
          )
        refine AWP.lessR e [] ?_ ?_ ?_ ?_ ?_ ?_ (next' (j + 1) hlt (by show xs.length - (j + 1) < xs.length - j; omega))
        · exact ⟨rfl, rfl, rfl, rfl, rfl, trivial⟩
        · exact ⟨rfl, rfl, trivial⟩
        · rfl
        · exact ⟨rfl, rfl, rfl, rfl, trivial⟩
        · rfl
        · rfl
      · refine AWP.runL e tab_ok L6 300 rfl (by first | trivial | (simp [in64] <;> omega)) ?_
        refine AWP.ret e tab_ok rfl ?_
        rw [hP]
        all_goals first | rfl | (simp [strip]; done)
    by_cases hroom : xs.length < n
    · have p1 := putS_ok xs n b l[i] hrt (by omega)
      have p2 := putI_ok (sizes xs) n b l[i].size hrs (by rw [List.length_map]; omega)
      have e1 : sizes xs ++ [(l[i].size : Int)] = sizes (xs ++ [l[i]]) := by simp [sizes]
      rw [e1] at p2
      refine AWP.runL e tab_ok L6 300 rfl (by first | trivial | (simp [in64] <;> omega)) ?_
      repeat (
        first
          | (refine AWP.askT rfl ?_; (first | (refine Told.t rfl ?_) | (refine Told.f rfl ?_) | (refine Told.t ?_ ?_; (focus (first | assumption | (simp; omega) | (simp [*]; done)); done)) | (refine Told.f ?_ ?_; (focus (first | assumption | (simp; omega) | (simp [*]; done)); done))); refine AWP.runL e tab_ok L6 300 rfl (by first | trivial | (simp [in64] <;> omega)) ?_)
          | (refine AWP.callQ e rfl rfl ?_; (first | refine CallQ.mk (p1) rfl rfl ?_ | refine CallQ.mk (p2) rfl rfl ?_); refine AWP.runL e tab_ok L6 300 rfl (by first | trivial | (simp [in64] <;> omega)) ?_)
        )
      refine AWP.keep L6 rfl ?_
      refine AWP.drg 100 ?_
      (refine DrG.runN e tab_ok 200 rfl (by first | trivial | (simp [in64] <;> omega)) ?_)
      refine DrG.fin e rfl ?_ rfl rfl rfl ?_ ?_
      (focus kernel_rfl)
      (focus (repeat' (first | exact True.intro | (refine And.intro ?_ ?_) | rfl | assumption | exact okRow _)))
      dsimp only [tmS, hpS, tput, effH]
      refine AWP.runL e tab_ok L6 300 rfl (by first | trivial | (simp [in64] <;> omega)) ?_
      refine AWP.lessR e [] ?_ ?_ ?_ ?_ ?_ ?_ (next (i + 1, xs ++ [l[i]]) ?_ (by show l.length - (i + 1) < l.length - i; omega))
      · exact ⟨rfl, rfl, rfl, rfl, rfl, rfl, rfl, rfl, trivial⟩
      · exact ⟨rfl, rfl, trivial⟩
      · rfl
      · exact ⟨rfl, rfl, rfl, rfl, trivial⟩
      · rfl
      · rfl
      · exact ⟨hlt, by simp; omega⟩
    · cases b
      · have p1 := putS_busy xs n l[i] hrt (by omega)
        have p2 := putI_busy (sizes xs) n l[i].size hrs (by rw [List.length_map]; omega)
        refine AWP.runL e tab_ok L6 300 rfl (by first | trivial | (simp [in64] <;> omega)) ?_
        repeat (
          first
            | (refine AWP.askT rfl ?_; (first | (refine Told.t rfl ?_) | (refine Told.f rfl ?_) | (refine Told.t ?_ ?_; (focus (first | assumption | (simp; omega) | (simp [*]; done)); done)) | (refine Told.f ?_ ?_; (focus (first | assumption | (simp; omega) | (simp [*]; done)); done))); refine AWP.runL e tab_ok L6 300 rfl (by first | trivial | (simp [in64] <;> omega)) ?_)
            | (refine AWP.callQ e rfl rfl ?_; (first | refine CallQ.mk (p1) rfl rfl ?_ | refine CallQ.mk (p2) rfl rfl ?_); refine AWP.runL e tab_ok L6 300 rfl (by first | trivial | (simp [in64] <;> omega)) ?_)
          )
        refine AWP.lessR e [] ?_ ?_ ?_ ?_ ?_ ?_ (next (i + 1, xs) ⟨hlt, hx⟩ (by show l.length - (i + 1) < l.length - i; omega))
        · exact ⟨rfl, rfl, rfl, rfl, rfl, rfl, rfl, rfl, trivial⟩
        · exact ⟨rfl, rfl, trivial⟩
        · rfl
        · exact ⟨rfl, rfl, rfl, rfl, trivial⟩
        · rfl
        · rfl
      · have p1 := putS_full xs n l[i] hrt (by omega)
        have p2 := putI_full (sizes xs) n l[i].size hrs (by rw [List.length_map]; omega)
        have e1 : (sizes xs).drop 1 ++ [(l[i].size : Int)] = sizes (xs.drop 1 ++ [l[i]]) := by simp [sizes]
        rw [e1] at p2
        refine AWP.runL e tab_ok L6 300 rfl (by first | trivial | (simp [in64] <;> omega)) ?_
        repeat (
          first
            | (refine AWP.askT rfl ?_; (first | (refine Told.t rfl ?_) | (refine Told.f rfl ?_) | (refine Told.t ?_ ?_; (focus (first | assumption | (simp; omega) | (simp [*]; done)); done)) | (refine Told.f ?_ ?_; (focus (first | assumption | (simp; omega) | (simp [*]; done)); done))); refine AWP.runL e tab_ok L6 300 rfl (by first | trivial | (simp [in64] <;> omega)) ?_)
            | (refine AWP.callQ e rfl rfl ?_; (first | refine CallQ.mk (p1) rfl rfl ?_ | refine CallQ.mk (p2) rfl rfl ?_); refine AWP.runL e tab_ok L6 300 rfl (by first | trivial | (simp [in64] <;> omega)) ?_)
          )
        refine AWP.keep L6 rfl ?_
        refine AWP.drg 100 ?_
        (refine DrG.runN e tab_ok 200 rfl (by first | trivial | (simp [in64] <;> omega)) ?_)
        refine DrG.fin e rfl ?_ rfl rfl rfl ?_ ?_
        (focus kernel_rfl)
        (focus (repeat' (first | exact True.intro | (refine And.intro ?_ ?_) | rfl | assumption | exact okRow _)))
        dsimp only [tmS, hpS, tput, effH]
        refine AWP.runL e tab_ok L6 300 rfl (by first | trivial | (simp [in64] <;> omega)) ?_
        refine AWP.lessR e [] ?_ ?_ ?_ ?_ ?_ ?_ (next (i + 1, xs.drop 1 ++ [l[i]]) ?_ (by show l.length - (i + 1) < l.length - i; omega))
        · exact ⟨rfl, rfl, rfl, rfl, rfl, rfl, rfl, rfl, trivial⟩
        · exact ⟨rfl, rfl, trivial⟩
        · rfl
        · exact ⟨rfl, rfl, rfl, rfl, trivial⟩
        · rfl
        · rfl
        · exact ⟨hlt, by simp; omega⟩
  · refine AWP.runL e tab_ok L6 300 rfl (by first | trivial | (simp [in64] <;> omega)) ?_
    repeat (
      first
        | (refine AWP.askT rfl ?_; (first | (refine Told.t rfl ?_) | (refine Told.f rfl ?_) | (refine Told.t ?_ ?_; (focus (first | assumption | (simp; omega) | (simp [*]; done)); done)) | (refine Told.f ?_ ?_; (focus (first | assumption | (simp; omega) | (simp [*]; done)); done))); refine AWP.runL e tab_ok L6 300 rfl (by first | trivial | (simp [in64] <;> omega)) ?_)
        | (refine AWP.callQ e rfl rfl ?_; (first | refine CallQ.mk (each_ok xs n b 22 len22_eff hrt) rfl rfl ?_); refine AWP.runL e tab_ok L6 300 rfl (by first | trivial | (simp [in64] <;> omega)) ?_)
        | (refine AWP.keep L6 rfl ?_; refine AWP.drg 100 ?_; (refine DrG.runN e tab_ok 200 rfl (by first | trivial | (simp [in64] <;> omega)) ?_); (repeat (first | (refine DrG.callQ e rfl rfl ?_; (first | refine CallVQ.mk (each_ok xs n b 22 len22_eff hrt) rfl rfl ?_); (refine DrG.runN e tab_ok 200 rfl (by first | trivial | (simp [in64] <;> omega)) ?_)) | (refine DrG.callGo e rfl rfl rfl ?_; (first | refine CallVQ.mk (each_ok xs n b 22 len22_eff hrt) rfl rfl ?_); (refine DrG.runN e tab_ok 200 rfl (by first | trivial | (simp [in64] <;> omega)) ?_)) | (refine DrG.callGoA e rfl ?_ rfl rfl ?_; (focus (first | assumption | with_reducible trivial | rfl | (simp; omega) | (simp [in64]; omega) | (simp [*]; done))); (first | refine CallVQ.mk (each_ok xs n b 22 len22_eff hrt) rfl rfl ?_); (refine DrG.runN e tab_ok 200 rfl (by first | trivial | (simp [in64] <;> omega)) ?_)) | (refine DrG.v rfl (fun _ => VStep.goA rfl ?_ (VStep.ev e tab_ok rfl rfl ?_)) rfl ?_; (focus (first | assumption | with_reducible trivial | rfl | (simp; omega) | (simp [in64]; omega) | (simp [*]; done))); (focus (first | assumption | with_reducible trivial | rfl | (simp; omega) | (simp [in64]; omega) | (simp [*]; done))); (refine DrG.runN e tab_ok 200 rfl (by first | trivial | (simp [in64] <;> omega)) ?_)) | (refine DrG.loadGoA e tab_ok rfl ?_ rfl rfl rfl rfl rfl rfl ?_; (focus (first | assumption | with_reducible trivial | rfl | (simp; omega) | (simp [in64]; omega) | (simp [*]; done))); (refine DrG.runN e tab_ok 200 rfl (by first | trivial | (simp [in64] <;> omega)) ?_)) | (refine DrG.v rfl (fun _ => VStep.notA e rfl rfl ?_) rfl ?_; (focus (first | assumption | with_reducible trivial | rfl | (simp; omega) | (simp [in64]; omega) | (simp [*]; done))); (refine DrG.runN e tab_ok 200 rfl (by first | trivial | (simp [in64] <;> omega)) ?_)) | (refine DrG.v rfl (fun _ => VStep.pickA e rfl rfl (v := true) ?_ rfl) rfl ?_; (focus (first | assumption | with_reducible trivial | rfl | (simp; omega) | (simp [in64]; omega) | (simp [*]; done))); (refine DrG.runN e tab_ok 200 rfl (by first | trivial | (simp [in64] <;> omega)) ?_)) | (refine DrG.v rfl (fun _ => VStep.pickA e rfl rfl (v := false) ?_ rfl) rfl ?_; (focus (first | assumption | with_reducible trivial | rfl | (simp; omega) | (simp [in64]; omega) | (simp [*]; done))); (refine DrG.runN e tab_ok 200 rfl (by first | trivial | (simp [in64] <;> omega)) ?_)))); refine DrG.fin e rfl ?_ rfl rfl rfl ?_ ?_; (focus kernel_rfl); (focus (repeat' (first | exact True.intro | (refine And.intro ?_ ?_) | rfl | assumption | exact okRow _))); dsimp only [tmS, hpS, tput, effH]; refine AWP.runL e tab_ok L6 300 rfl (by first | trivial | (simp [in64] <;> omega)) ?_)
      )
    refine AWP.keep [6, 9, 19, 108, 109, 110, 111] rfl ?_
    refine AWP.loop (ι := Nat) (fun j => ⟨[(111, .i j), (110, .i (rowI (sizes xs)).length), (6, .b false), (9, .ptr 1 0), (19, .ptr 2 0)], [(2, .box [slI (sizes xs), .i n, .b b]), (1, .box [slI (sizes xs), .i n, .b b])], 3⟩) (fun j => j ≤ xs.length) (fun j => xs.length - j) 0 (Nat.zero_le _) ?_ ?_
    · intro g
      refine AWP.lessR e [] ?_ ?_ ?_ ?_ ?_ ?_ g
      · exact ⟨rfl, rfl, rfl, rfl, rfl, trivial⟩
      · exact ⟨rfl, rfl, trivial⟩
      · rfl
      · exact ⟨rfl, rfl, rfl, rfl, trivial⟩
      · rfl
      · rfl
    rintro j Ψ hJ next'
    have hJ : j ≤ xs.length := hJ
    refine AWP.runL e tab_ok L6 300 rfl (by first | trivial | (simp [in64] <;> omega)) ?_
    refine AWP.cond2 rfl (fun hlt => ?_) (fun hlt => ?_)
    · have hlt : j < xs.length := by simpa using hlt
      have hidx : (rowI (sizes xs))[j]? = some [.v (.int .i64 (xs[j].size : Int))] := by simp [hlt]
      refine AWP.runL e tab_ok L6 300 rfl (by first | trivial | (simp [in64] <;> omega)) ?_
      repeat (
        first
          | (refine AWP.askT rfl ?_; (first | (refine Told.t rfl ?_) | (refine Told.f rfl ?_) | (refine Told.t ?_ ?_; (focus (first | assumption | (simp; omega) | (simp [*]; done)); done)) | (refine Told.f ?_ ?_; (focus (first | assumption | (simp; omega) | (simp [*]; done)); done))); refine AWP.runL e tab_ok L6 300 rfl (by first | trivial | (simp [in64] <;> omega)) ?_)
          | (refine AWP.keep L6 rfl ?_; refine AWP.drg 300 ?_; (refine DrG.runN e tab_ok 200 rfl (by first | trivial | (simp [in64] <;> omega)) ?_); (repeat (first | (refine DrG.v rfl (fun _ => VStep.goA rfl ?_ (VStep.ev e tab_ok rfl rfl ?_)) rfl ?_; (focus (first | assumption | with_reducible trivial | rfl | (simp; omega) | (simp [in64]; omega) | (simp [*]; done))); (focus (first | assumption | with_reducible trivial | rfl | (simp; omega) | (simp [in64]; omega) | (simp [*]; done))); (refine DrG.runN e tab_ok 200 rfl (by first | trivial | (simp [in64] <;> omega)) ?_)) | (refine DrG.loadGoA e tab_ok rfl ?_ rfl rfl rfl rfl rfl rfl ?_; (focus (first | assumption | with_reducible trivial | rfl | (simp; omega) | (simp [in64]; omega) | (simp [*]; done))); (refine DrG.runN e tab_ok 200 rfl (by first | trivial | (simp [in64] <;> omega)) ?_)) | (refine DrG.v rfl (fun _ => VStep.notA e rfl rfl ?_) rfl ?_; (focus (first | assumption | with_reducible trivial | rfl | (simp; omega) | (simp [in64]; omega) | (simp [*]; done))); (refine DrG.runN e tab_ok 200 rfl (by first | trivial | (simp [in64] <;> omega)) ?_)) | (refine DrG.v rfl (fun _ => VStep.pickA e rfl rfl (v := true) ?_ rfl) rfl ?_; (focus (first | assumption | with_reducible trivial | rfl | (simp; omega) | (simp [in64]; omega) | (simp [*]; done))); (refine DrG.runN e tab_ok 200 rfl (by first | trivial | (simp [in64] <;> omega)) ?_)) | (refine DrG.v rfl (fun _ => VStep.pickA e rfl rfl (v := false) ?_ rfl) rfl ?_; (focus (first | assumption | with_reducible trivial | rfl | (simp; omega) | (simp [in64]; omega) | (simp [*]; done))); (refine DrG.runN e tab_ok 200 rfl (by first | trivial | (simp [in64] <;> omega)) ?_)) | (refine DrG.v rfl (fun _ => VStep.idx e tab_ok rfl rfl rfl rfl j rfl hidx) rfl ?_; (refine DrG.runN e tab_ok 200 rfl (by first | trivial | (simp [in64] <;> omega)) ?_)) | (refine DrG.v rfl (fun _ => VStep.go rfl (VStep.idx e tab_ok rfl rfl rfl rfl j rfl hidx)) rfl ?_; (refine DrG.runN e tab_ok 200 rfl (by first | trivial | (simp [in64] <;> omega)) ?_)) | (refine DrG.v rfl (fun _ => VStep.goA rfl ?_ (VStep.idx e tab_ok rfl rfl rfl rfl j rfl hidx)) rfl ?_; (focus (first | assumption | with_reducible trivial | rfl | (simp; omega) | (simp [in64]; omega) | (simp [*]; done))); (refine DrG.runN e tab_ok 200 rfl (by first | trivial | (simp [in64] <;> omega)) ?_)))); refine DrG.fin e rfl ?_ rfl rfl rfl ?_ ?_; (focus kernel_rfl); (focus (repeat' (first | exact True.intro | (refine And.intro ?_ ?_) | rfl | assumption | exact okRow _))); dsimp only [tmS, hpS, tput, effH]; refine AWP.runL e tab_ok L6 300 rfl (by first | trivial | (simp [in64] <;> omega)) ?_)
        )
      refine AWP.lessR e [] ?_ ?_ ?_ ?_ ?_ ?_ (next' (j + 1) hlt (by show xs.length - (j + 1) < xs.length - j; omega))
      · exact ⟨rfl, rfl, rfl, rfl, rfl, trivial⟩
      · exact ⟨rfl, rfl, trivial⟩
      · rfl
      · exact ⟨rfl, rfl, rfl, rfl, trivial⟩
      · rfl
      · rfl
    · refine AWP.runL e tab_ok L6 300 rfl (by first | trivial | (simp [in64] <;> omega)) ?_
      refine AWP.ret e tab_ok rfl ?_
      rw [hP]
      all_goals first | rfl | (simp [strip]; done)

theorem strs_of {n : Nat} {t : TypeId} {y : Ty} (ht : aget t tab = some y) (hy : y.td = .str) : ∀ (ys : List (List DV)), (∀ el ∈ ys, Tyd tab (n + 1) t el) → ∃ l : List ByteArray, ys = l.map (fun v => [.v (.string v)])
  | [], _ => ⟨[], rfl⟩
  | el :: ys, h => by
    obtain ⟨l, rfl⟩ := strs_of ht hy ys fun e he => h e (List.mem_cons_of_mem _ he)
    have h1 := h el List.mem_cons_self
    simp only [Tyd, ht, hy] at h1
    obtain ⟨z, rfl, _⟩ := h1
    exact ⟨z :: l, rfl⟩

set_option maxRecDepth 100000 in
theorem kinds_args (l : List SV) (h : Args tab 9 [35, 3, 4] l) : Eff Try.prog 6 l [] 0 (fun r _ _ => r = .b true) := by
  obtain ⟨_, _, rfl, ⟨ys, rfl, hl, he⟩, _, _, rfl, ⟨size, rfl, _, _⟩, _, _, rfl, ⟨b, rfl⟩, rfl⟩ := h
  obtain ⟨l, rfl⟩ := strs_of (t := 9) rfl rfl ys he
  obtain ⟨n, hn⟩ : ∃ n : Nat, (n : Int) = if 16 < (if 1 > size then 1 else size) then 16 else if 1 > size then 1 else size := ⟨(if 16 < (if 1 > size then 1 else size) then 16 else if 1 > size then 1 else size).toNat, by split <;> split <;> omega⟩
  have n1 : 1 ≤ n ∧ n ≤ 16 := by revert hn; split <;> split <;> omega
  exact kinds_eff l size b n (by simpa using hl) hn n1.1 n1.2

end Go.Proofs.Ytkcdmibpmoknmaa
