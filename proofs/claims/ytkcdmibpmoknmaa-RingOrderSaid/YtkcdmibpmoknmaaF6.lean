import Derived.Test.YtkcdmibpmoknmaaF3
import Derived.Test.YtkcdmibpmoknmaaSyx
open Go Go.Proofs Go.Sy
namespace Go.Proofs.Ytkcdmibpmoknmaa


set_option maxRecDepth 100000 in
set_option maxHeartbeats 4000000 in
theorem order_eff (acts : List Int) (size : Int) (best : Bool) (n : Nat) (hl : acts.length ≤ 9223372036854775807) (hn : (n : Int) = if 16 < (if 1 > size then 1 else size) then 16 else if 1 > size then 1 else size) (n1 : 1 ≤ n) (n2 : n ≤ 16) : Eff Try.prog 3 [.i size, .b best, slI acts] [] 0 (fun r _ _ => r = .b true) := by
  have hI := newI_ok n best (by omega) (by omega)
  rw [hn] at hI
  refine eff_of Try.func3 rfl rfl rfl fun cx e hP => ?_
  refine AWP.runL e tab_ok L3 300 rfl (by first | trivial | (simp [in64] <;> omega)) ?_
  repeat (
    first
      | (refine AWP.askT rfl ?_; (first | (refine Told.t rfl ?_) | (refine Told.f rfl ?_) | (refine Told.t ?_ ?_; (focus (first | assumption | (simp; omega) | (simp [*]; done)); done)) | (refine Told.f ?_ ?_; (focus (first | assumption | (simp; omega) | (simp [*]; done)); done))); refine AWP.runL e tab_ok L3 300 rfl (by first | trivial | (simp [in64] <;> omega)) ?_)
      | (refine AWP.callQ e rfl rfl ?_; (first | refine CallQ.mk (hI) rfl rfl ?_ | refine CallQ.mk (alive_eff) rfl rfl ?_); refine AWP.runL e tab_ok L3 300 rfl (by first | trivial | (simp [in64] <;> omega)) ?_)
    )
  rw [← hn]
  refine AWP.nil_own (t := 9) rfl 3 1 ?_
  refine AWP.loop (ι := Nat × Nat × List Int × Nat × Nat) (fun s => ⟨[(35, .i s.1), (34, .i acts.length), (33, slI acts), (1, .b best), (6, .b false), (7, .ptr 0 0), (9, .own 1 1 s.2.1 (s.2.2.1.length - s.2.1) s.2.2.2.1)], [(0, .box [slI (s.2.2.1.drop s.2.1), .i n, .b best]), (1, .row 3 false 1 ((rowI s.2.2.1).map (·.map SV.d)) s.2.2.2.2)], 2⟩)
    (fun s => s.1 ≤ acts.length ∧ s.2.1 ≤ s.2.2.1.length ∧ s.2.2.1.length - s.2.1 ≤ n ∧ s.2.2.1.length ≤ 17) (fun s => acts.length - s.1) (0, 0, [], 0, 0) ⟨Nat.zero_le _, Nat.zero_le _, Nat.zero_le _, Nat.zero_le _⟩ ?_ ?_
  · intro g
    refine AWP.lessR e [] ?_ ?_ ?_ ?_ ?_ ?_ g
    · refine ⟨rfl, ?_, rfl, rfl, rfl, rfl, rfl, trivial⟩
      show some (SV.i _) = some (SV.i _)
      rw [List.length_map]
    · exact ⟨rfl, rfl, trivial⟩
    · rfl
    · exact ⟨rfl, rfl, rfl, okRow _, trivial⟩
    · rfl
    · rfl
  rintro ⟨i, o, xs, C, C0⟩ Φ hI next
  obtain ⟨hI, ho, hx, hx2⟩ : i ≤ acts.length ∧ o ≤ xs.length ∧ xs.length - o ≤ n ∧ xs.length ≤ 17 := hI
  have hrt : rightR (xs.drop o).length n = true := by unfold rightR; refine decide_eq_true ?_; rw [List.length_drop]; omega
  refine AWP.runL e tab_ok L3 300 rfl (by first | trivial | (simp [in64] <;> omega)) ?_
  refine AWP.cond2 rfl (fun hlt => ?_) (fun hlt => ?_)
  · have hlt : i < acts.length := by simpa using hlt
    refine AWP.runL e tab_ok L3 300 rfl (by first | trivial | (simp [in64] <;> omega)) ?_
    refine AWP.idx e tab_ok rfl rfl rfl rfl i rfl (el := [.v (.int .i64 acts[i])]) (by simp [hlt]) ?_
    refine AWP.runL e tab_ok L3 300 rfl (by first | trivial | (simp [in64] <;> omega)) ?_
    refine AWP.cond2 rfl (fun h80 => ?_) (fun h80 => ?_)
    · refine AWP.runL e tab_ok L3 300 rfl (by first | trivial | (simp [in64] <;> omega)) ?_
      refine AWP.ret e tab_ok rfl ?_
      rw [hP]
      all_goals first | rfl | (simp [strip]; done)
    refine AWP.runL e tab_ok L3 300 rfl (by first | trivial | (simp [in64] <;> omega)) ?_
    refine AWP.cond2 rfl (fun h3 => ?_) (fun h3 => ?_)
    · by_cases he : o = xs.length
      · have hnil : xs.drop o = [] := by rw [he]; simp
        have hT : Eff Try.prog 9 [ringI (xs.drop o) n best] [] 0 (fun r _ _ => r = .tup [ringI [] 0 false, .i 0, .i 21]) := by
          rw [hnil]; exact takeI_none n best (by rw [hnil] at hrt; exact hrt)
        have hz : xs.length - o = 0 := by omega
        refine AWP.runL e tab_ok L3 300 rfl (by first | trivial | (simp [in64] <;> omega)) ?_
        repeat (
          first
            | (refine AWP.askT rfl ?_; (first | (refine Told.t rfl ?_) | (refine Told.f rfl ?_) | (refine Told.t ?_ ?_; (focus (first | assumption | (simp; omega) | (simp [*]; done)); done)) | (refine Told.f ?_ ?_; (focus (first | assumption | (simp; omega) | (simp [*]; done)); done))); refine AWP.runL e tab_ok L3 300 rfl (by first | trivial | (simp [in64] <;> omega)) ?_)
            | (refine AWP.callQ e rfl rfl ?_; (first | refine CallQ.mk (hT) rfl rfl ?_); refine AWP.runL e tab_ok L3 300 rfl (by first | trivial | (simp [in64] <;> omega)) ?_)
          )
        refine AWP.lessR e [] ?_ ?_ ?_ ?_ ?_ ?_ (next (i + 1, o, xs, C, C0) ?_ (by show acts.length - (i + 1) < acts.length - i; omega))
        · exact ⟨rfl, rfl, rfl, rfl, rfl, rfl, rfl, trivial⟩
        · exact ⟨rfl, rfl, trivial⟩
        · rfl
        · exact ⟨rfl, rfl, rfl, okRow _, trivial⟩
        · rfl
        · rfl
        · refine ⟨hlt, ?_, ?_, ?_⟩ <;> dsimp only <;> (first | omega | (skip))
      · have ho' : o < xs.length := by omega
        have hT := takeI_ok (xs.drop (o + 1)) n best xs[o] (by rw [← List.drop_eq_getElem_cons ho']; exact hrt)
        rw [← List.drop_eq_getElem_cons ho'] at hT
        refine AWP.runL e tab_ok L3 300 rfl (by first | trivial | (simp [in64] <;> omega)) ?_
        repeat (
          first
            | (refine AWP.askT rfl ?_; (first | (refine Told.t rfl ?_) | (refine Told.f rfl ?_) | (refine Told.t ?_ ?_; (focus (first | assumption | (simp; omega) | (simp [*]; done)); done)) | (refine Told.f ?_ ?_; (focus (first | assumption | (simp; omega) | (simp [*]; done)); done))); refine AWP.runL e tab_ok L3 300 rfl (by first | trivial | (simp [in64] <;> omega)) ?_)
            | (refine AWP.callQ e rfl rfl ?_; (first | refine CallQ.mk (hT) rfl rfl ?_); refine AWP.runL e tab_ok L3 300 rfl (by first | trivial | (simp [in64] <;> omega)) ?_)
          )
        have h1 : 1 ≤ xs.length - o := by omega
        have hel : ((rowI xs).map (·.map SV.d))[o]? = some [SV.i xs[o]] := by simp [ho']
        refine AWP.idx_own e tab_ok rfl rfl rfl rfl 0 rfl h1 ?_
        rw [Nat.add_zero]
        refine AWP.runL e tab_ok L3 300 rfl (by first | trivial | (simp [in64] <;> omega)) ?_
        refine AWP.load_el e tab_ok rfl rfl rfl rfl hel rfl ?_
        refine AWP.runL e tab_ok L3 300 rfl (by first | trivial | (simp [in64] <;> omega)) ?_
        repeat (
          first
            | (refine AWP.askT rfl ?_; (first | (refine Told.t rfl ?_) | (refine Told.f rfl ?_) | (refine Told.t ?_ ?_; (focus (first | assumption | (simp; omega) | (simp [*]; done)); done)) | (refine Told.f ?_ ?_; (focus (first | assumption | (simp; omega) | (simp [*]; done)); done))); refine AWP.runL e tab_ok L3 300 rfl (by first | trivial | (simp [in64] <;> omega)) ?_)
            | (refine AWP.keep L3 rfl ?_; refine AWP.drg 100 ?_; (refine DrG.runN e tab_ok 200 rfl (by first | trivial | (simp [] <;> omega)) ?_); (repeat (first | (refine DrG.v rfl (fun _ => VStep.goA rfl ?_ (VStep.ev e tab_ok rfl rfl ?_)) rfl ?_; (focus (first | assumption | with_reducible trivial | rfl | (simp; omega) | (simp [in64]; omega) | (simp [*]; done))); (focus (first | assumption | with_reducible trivial | rfl | (simp; omega) | (simp [in64]; omega) | (simp [*]; done))); (refine DrG.runN e tab_ok 200 rfl (by first | trivial | (simp [in64] <;> omega)) ?_)) | (refine DrG.loadGoA e tab_ok rfl ?_ rfl rfl rfl rfl rfl rfl ?_; (focus (first | assumption | with_reducible trivial | rfl | (simp; omega) | (simp [in64]; omega) | (simp [*]; done))); (refine DrG.runN e tab_ok 200 rfl (by first | trivial | (simp [in64] <;> omega)) ?_)) | (refine DrG.v rfl (fun _ => VStep.notA e rfl rfl ?_) rfl ?_; (focus (first | assumption | with_reducible trivial | rfl | (simp; omega) | (simp [in64]; omega) | (simp [*]; done))); (refine DrG.runN e tab_ok 200 rfl (by first | trivial | (simp [in64] <;> omega)) ?_)) | (refine DrG.v rfl (fun _ => VStep.pickA e rfl rfl (v := true) ?_ rfl) rfl ?_; (focus (first | assumption | with_reducible trivial | rfl | (simp; omega) | (simp [in64]; omega) | (simp [*]; done))); (refine DrG.runN e tab_ok 200 rfl (by first | trivial | (simp [in64] <;> omega)) ?_)) | (refine DrG.v rfl (fun _ => VStep.pickA e rfl rfl (v := false) ?_ rfl) rfl ?_; (focus (first | assumption | with_reducible trivial | rfl | (simp; omega) | (simp [in64]; omega) | (simp [*]; done))); (refine DrG.runN e tab_ok 200 rfl (by first | trivial | (simp [in64] <;> omega)) ?_)))); refine DrG.fin e rfl ?_ rfl rfl rfl ?_ ?_; (focus kernel_rfl); (focus (repeat' (first | exact True.intro | (refine And.intro ?_ ?_) | rfl | assumption | exact okRow _))); dsimp only [tmS, hpS, tput, effH]; refine AWP.runL e tab_ok L3 300 rfl (by first | trivial | (simp [in64] <;> omega)) ?_)
          )
        refine AWP.lessR e [] ?_ ?_ ?_ ?_ ?_ ?_ (next (i + 1, o + 1, xs, C, C0) ?_ (by show acts.length - (i + 1) < acts.length - i; omega))
        · exact ⟨rfl, rfl, rfl, rfl, rfl, rfl, rfl, trivial⟩
        · exact ⟨rfl, rfl, trivial⟩
        · rfl
        · exact ⟨rfl, rfl, rfl, okRow _, trivial⟩
        · rfl
        · rfl
        · refine ⟨hlt, ?_, ?_, ?_⟩ <;> dsimp only <;> (first | omega | (skip))
    · by_cases hroom : xs.length - o < n
      · have hp := putI_ok (xs.drop o) n best i hrt (by rw [List.length_drop]; omega)
        refine AWP.runL e tab_ok L3 300 rfl (by first | trivial | (simp [in64] <;> omega)) ?_
        repeat (
          first
            | (refine AWP.askT rfl ?_; (first | (refine Told.t rfl ?_) | (refine Told.f rfl ?_) | (refine Told.t ?_ ?_; (focus (first | assumption | (simp; omega) | (simp [*]; done)); done)) | (refine Told.f ?_ ?_; (focus (first | assumption | (simp; omega) | (simp [*]; done)); done))); refine AWP.runL e tab_ok L3 300 rfl (by first | trivial | (simp [in64] <;> omega)) ?_)
            | (refine AWP.callQ e rfl rfl ?_; (first | refine CallQ.mk (hp) rfl rfl ?_); refine AWP.runL e tab_ok L3 300 rfl (by first | trivial | (simp [in64] <;> omega)) ?_)
          )
        -- 0 gone, xs.drop o ++ [(i : Int)] the new row, simp [List.take_of_length_le, List.map_drop] proof that the rows are the same, simp; omega length of it
        have hrt' : rightR (xs.drop o ++ [(i : Int)]).length n = true := by unfold rightR; refine decide_eq_true ?_; simp; omega
        have hm := roomI_eff (xs.drop o ++ [(i : Int)]) n best hrt'
        have hg : 0 ≤ xs.length - o := by omega
        refine AWP.keep L3 rfl ?_
        refine AWP.drc 100 ?_
        repeat (
          first
            | (refine DrC.v rfl (fun c _ => VStep.ev e tab_ok rfl rfl ?_) (fun c => rfl) ?_; (focus (first | assumption | with_reducible trivial | rfl | (simp; omega) | (simp [in64]; omega) | (simp [*]; done))))
            | (refine DrC.load e tab_ok rfl (fun c => rfl) rfl (fun c => rfl) (fun c => rfl) (fun c => rfl) ?_)
            | (refine DrC.store e tab_ok rfl (fun c => rfl) (fun c => rfl) rfl (fun c => rfl) (fun c => rfl) (fun c => rfl) (fun c => rfl) (fun c => rfl) (fun c => rfl) rfl ?_)
          )
        refine DrC.v rfl (fun c _ => VStep.slice3 e tab_ok rfl rfl rfl rfl rfl rfl 0 (xs.length - o) (xs.length - o) rfl rfl rfl hg (Nat.le_refl _) (Nat.le_refl _)) (fun c => rfl) ?_
        repeat (
          first
            | (refine DrC.v rfl (fun c _ => VStep.ev e tab_ok rfl rfl ?_) (fun c => rfl) ?_; (focus (first | assumption | with_reducible trivial | rfl | (simp; omega) | (simp [in64]; omega) | (simp [*]; done))))
            | (refine DrC.load e tab_ok rfl (fun c => rfl) rfl (fun c => rfl) (fun c => rfl) (fun c => rfl) ?_)
            | (refine DrC.store e tab_ok rfl (fun c => rfl) (fun c => rfl) rfl (fun c => rfl) (fun c => rfl) (fun c => rfl) (fun c => rfl) (fun c => rfl) (fun c => rfl) rfl ?_)
          )
        refine DrC.row 10 e tab_ok rfl rfl (fun c => rfl) rfl rfl rfl ?_
        refine DrC.appendN 11 e tab_ok rfl (fun c => rfl) (fun c => rfl) (fun c => rfl) rfl rfl (fun c => rfl) rfl ?_ ?_ (by simp) ?_ ?_ rfl rfl ?_ ?_
        · dsimp only; omega
        · simp; omega
        · dsimp only; simp; omega
        · dsimp only; simp; omega
        · intro e he
          rcases List.mem_append.1 he with he | he
          · exact rowI_ok 0 xs e (List.mem_of_mem_drop (List.mem_of_mem_take he))
          · rw [List.mem_singleton] at he; subst he; rfl
        repeat (
          first
            | (refine DrC.v rfl (fun c _ => VStep.ev e tab_ok rfl rfl ?_) (fun c => rfl) ?_; (focus (first | assumption | with_reducible trivial | rfl | (simp; omega) | (simp [in64]; omega) | (simp [*]; done))))
            | (refine DrC.load e tab_ok rfl (fun c => rfl) rfl (fun c => rfl) (fun c => rfl) (fun c => rfl) ?_)
            | (refine DrC.store e tab_ok rfl (fun c => rfl) (fun c => rfl) rfl (fun c => rfl) (fun c => rfl) (fun c => rfl) (fun c => rfl) (fun c => rfl) (fun c => rfl) rfl ?_)
          )
        refine DrC.fin e rfl ?_ (fun c => rfl) rfl rfl ?_ ?_ (fun cp => ?_)
        (focus (intro c; kernel_rfl))
        (focus (repeat' (first | exact True.intro | (refine And.intro ?_ ?_) | rfl | assumption | exact okRow _)))
        (focus (repeat' (first | exact True.intro | (refine And.intro (fun c C => ?_) ?_)) <;> (repeat' (first | exact All2.nil | (refine All2.cons ⟨rfl, ?_⟩ ?_) | exact Or.inr rfl | (refine Or.inl ?_; kernel_rfl)))))
        dsimp only [tmS, hpS, tput, effH]
        refine AWP.lessR e [(1, 11)] (tm := [(35, .i i), (34, .i acts.length), (33, slI acts), (1, .b best), (6, .b false), (7, .ptr 0 0), (9, .own 1 1 0 (xs.drop o ++ [(i : Int)]).length (cp 10))]) (hp := [(0, .box [slI (xs.drop o ++ [(i : Int)]), .i n, .b best]), (1, .row 3 false 1 ((rowI (xs.drop o ++ [(i : Int)])).map (·.map SV.d)) (cp 10))]) (nx := 2) ?_ ?_ ?_ ?_ ?_ ?_ ?_
        · refine ⟨rfl, rfl, rfl, rfl, rfl, rfl, ?_, trivial⟩
          exact congrArg (fun z => some (SV.own 11 1 0 z (cp 10))) (by simp <;> omega)
        · refine ⟨rfl, ?_, trivial⟩
          refine congrArg (fun z => some (Blk.row 3 false 1 z (cp 10))) ?_
          simp [List.take_of_length_le, List.map_drop]
        · rfl
        · exact ⟨rfl, rfl, rfl, okRow _, trivial⟩
        · rfl
        · rfl
        refine AWP.runL e tab_ok L3 300 rfl (by first | trivial | (simp [in64] <;> omega)) ?_
        repeat (
          first
            | (refine AWP.askT rfl ?_; (first | (refine Told.t rfl ?_) | (refine Told.f rfl ?_) | (refine Told.t ?_ ?_; (focus (first | assumption | (simp; omega) | (simp [*]; done)); done)) | (refine Told.f ?_ ?_; (focus (first | assumption | (simp; omega) | (simp [*]; done)); done))); refine AWP.runL e tab_ok L3 300 rfl (by first | trivial | (simp [in64] <;> omega)) ?_)
            | (refine AWP.callQ e rfl rfl ?_; (first | refine CallQ.mk (hm) rfl rfl ?_); refine AWP.runL e tab_ok L3 300 rfl (by first | trivial | (simp [in64] <;> omega)) ?_)
            | (refine AWP.keep L3 rfl ?_; refine AWP.drg 100 ?_; (refine DrG.runN e tab_ok 200 rfl (by first | trivial | (simp [in64] <;> omega)) ?_); (repeat (first | (refine DrG.callQ e rfl rfl ?_; (first | refine CallVQ.mk (hm) rfl rfl ?_); (refine DrG.runN e tab_ok 200 rfl (by first | trivial | (simp [in64] <;> omega)) ?_)) | (refine DrG.callGo e rfl rfl rfl ?_; (first | refine CallVQ.mk (hm) rfl rfl ?_); (refine DrG.runN e tab_ok 200 rfl (by first | trivial | (simp [in64] <;> omega)) ?_)) | (refine DrG.callGoA e rfl ?_ rfl rfl ?_; (focus (first | assumption | with_reducible trivial | rfl | (simp; omega) | (simp []; omega) | (simp [*]; done))); (first | refine CallVQ.mk (hm) rfl rfl ?_); (refine DrG.runN e tab_ok 200 rfl (by first | trivial | (simp [in64] <;> omega)) ?_)) | (refine DrG.v rfl (fun _ => VStep.goA rfl ?_ (VStep.ev e tab_ok rfl rfl ?_)) rfl ?_; (focus (first | assumption | with_reducible trivial | rfl | (simp; omega) | (simp []; omega) | (simp [*]; done))); (focus (first | assumption | with_reducible trivial | rfl | (simp; omega) | (simp [in64]; omega) | (simp [*]; done))); (refine DrG.runN e tab_ok 200 rfl (by first | trivial | (simp [in64] <;> omega)) ?_)) | (refine DrG.loadGoA e tab_ok rfl ?_ rfl rfl rfl rfl rfl rfl ?_; (focus (first | assumption | with_reducible trivial | rfl | (simp; omega) | (simp []; omega) | (simp [*]; done))); (refine DrG.runN e tab_ok 200 rfl (by first | trivial | (simp [in64] <;> omega)) ?_)) | (refine DrG.v rfl (fun _ => VStep.notA e rfl rfl ?_) rfl ?_; (focus (first | assumption | with_reducible trivial | rfl | (simp; omega) | (simp [in64]; omega) | (simp [*]; done))); (refine DrG.runN e tab_ok 200 rfl (by first | trivial | (simp [in64] <;> omega)) ?_)) | (refine DrG.v rfl (fun _ => VStep.pickA e rfl rfl (v := true) ?_ rfl) rfl ?_; (focus (first | assumption | with_reducible trivial | rfl | (simp; omega) | (simp []; omega) | (simp [*]; done))); (refine DrG.runN e tab_ok 200 rfl (by first | trivial | (simp [in64] <;> omega)) ?_)) | (refine DrG.v rfl (fun _ => VStep.pickA e rfl rfl (v := false) ?_ rfl) rfl ?_; (focus (first | assumption | with_reducible trivial | rfl | (simp; omega) | (simp []; omega) | (simp [*]; done))); (refine DrG.runN e tab_ok 200 rfl (by first | trivial | (simp [in64] <;> omega)) ?_)))); refine DrG.fin e rfl ?_ rfl rfl rfl ?_ ?_; (focus kernel_rfl); (focus (repeat' (first | exact True.intro | (refine And.intro ?_ ?_) | rfl | assumption | exact okRow _))); dsimp only [tmS, hpS, tput, effH]; refine AWP.runL e tab_ok L3 300 rfl (by first | trivial | (simp [in64] <;> omega)) ?_)
          )
        refine AWP.lessR e [] ?_ ?_ ?_ ?_ ?_ ?_ (next (i + 1, 0, xs.drop o ++ [(i : Int)], cp 10, cp 10) ?_ (by show acts.length - (i + 1) < acts.length - i; omega))
        · exact ⟨rfl, rfl, rfl, rfl, rfl, rfl, rfl, trivial⟩
        · exact ⟨rfl, rfl, trivial⟩
        · rfl
        · exact ⟨rfl, rfl, rfl, okRow _, trivial⟩
        · rfl
        · rfl
        · refine ⟨hlt, ?_, ?_, ?_⟩ <;> dsimp only <;> (first | omega | (simp; omega))
      · cases best
        · have hp := putI_busy (xs.drop o) n i hrt (by rw [List.length_drop]; omega)
          refine AWP.runL e tab_ok L3 300 rfl (by first | trivial | (simp [in64] <;> omega)) ?_
          repeat (
            first
              | (refine AWP.askT rfl ?_; (first | (refine Told.t rfl ?_) | (refine Told.f rfl ?_) | (refine Told.t ?_ ?_; (focus (first | assumption | (simp; omega) | (simp [*]; done)); done)) | (refine Told.f ?_ ?_; (focus (first | assumption | (simp; omega) | (simp [*]; done)); done))); refine AWP.runL e tab_ok L3 300 rfl (by first | trivial | (simp [in64] <;> omega)) ?_)
              | (refine AWP.callQ e rfl rfl ?_; (first | refine CallQ.mk (hp) rfl rfl ?_); refine AWP.runL e tab_ok L3 300 rfl (by first | trivial | (simp [in64] <;> omega)) ?_)
            )
          refine AWP.lessR e [] ?_ ?_ ?_ ?_ ?_ ?_ (next (i + 1, o, xs, C, C0) ?_ (by show acts.length - (i + 1) < acts.length - i; omega))
          · exact ⟨rfl, rfl, rfl, rfl, rfl, rfl, rfl, trivial⟩
          · exact ⟨rfl, rfl, trivial⟩
          · rfl
          · exact ⟨rfl, rfl, rfl, okRow _, trivial⟩
          · rfl
          · rfl
          · refine ⟨hlt, ?_, ?_, ?_⟩ <;> dsimp only <;> (first | omega | (skip))
        · have hp := putI_full (xs.drop o) n i hrt (by rw [List.length_drop]; omega)
          refine AWP.runL e tab_ok L3 300 rfl (by first | trivial | (simp [in64] <;> omega)) ?_
          repeat (
            first
              | (refine AWP.askT rfl ?_; (first | (refine Told.t rfl ?_) | (refine Told.f rfl ?_) | (refine Told.t ?_ ?_; (focus (first | assumption | (simp; omega) | (simp [*]; done)); done)) | (refine Told.f ?_ ?_; (focus (first | assumption | (simp; omega) | (simp [*]; done)); done))); refine AWP.runL e tab_ok L3 300 rfl (by first | trivial | (simp [in64] <;> omega)) ?_)
              | (refine AWP.callQ e rfl rfl ?_; (first | refine CallQ.mk (hp) rfl rfl ?_); refine AWP.runL e tab_ok L3 300 rfl (by first | trivial | (simp [in64] <;> omega)) ?_)
            )
          -- 1 gone, (xs.drop o).drop 1 ++ [(i : Int)] the new row, rw [List.take_of_length_le (by simp; omega)]; simp [List.map_drop] proof that the rows are the same, simp; omega length of it
          have hrt' : rightR ((xs.drop o).drop 1 ++ [(i : Int)]).length n = true := by unfold rightR; refine decide_eq_true ?_; simp; omega
          have hm := roomI_eff ((xs.drop o).drop 1 ++ [(i : Int)]) n true hrt'
          have hg : 1 ≤ xs.length - o := by omega
          refine AWP.keep L3 rfl ?_
          refine AWP.drc 100 ?_
          repeat (
            first
              | (refine DrC.v rfl (fun c _ => VStep.ev e tab_ok rfl rfl ?_) (fun c => rfl) ?_; (focus (first | assumption | with_reducible trivial | rfl | (simp; omega) | (simp [in64]; omega) | (simp [*]; done))))
              | (refine DrC.load e tab_ok rfl (fun c => rfl) rfl (fun c => rfl) (fun c => rfl) (fun c => rfl) ?_)
              | (refine DrC.store e tab_ok rfl (fun c => rfl) (fun c => rfl) rfl (fun c => rfl) (fun c => rfl) (fun c => rfl) (fun c => rfl) (fun c => rfl) (fun c => rfl) rfl ?_)
            )
          refine DrC.v rfl (fun c _ => VStep.slice3 e tab_ok rfl rfl rfl rfl rfl rfl 1 (xs.length - o) (xs.length - o) rfl rfl rfl hg (Nat.le_refl _) (Nat.le_refl _)) (fun c => rfl) ?_
          repeat (
            first
              | (refine DrC.v rfl (fun c _ => VStep.ev e tab_ok rfl rfl ?_) (fun c => rfl) ?_; (focus (first | assumption | with_reducible trivial | rfl | (simp; omega) | (simp [in64]; omega) | (simp [*]; done))))
              | (refine DrC.load e tab_ok rfl (fun c => rfl) rfl (fun c => rfl) (fun c => rfl) (fun c => rfl) ?_)
              | (refine DrC.store e tab_ok rfl (fun c => rfl) (fun c => rfl) rfl (fun c => rfl) (fun c => rfl) (fun c => rfl) (fun c => rfl) (fun c => rfl) (fun c => rfl) rfl ?_)
            )
          refine DrC.row 10 e tab_ok rfl rfl (fun c => rfl) rfl rfl rfl ?_
          refine DrC.appendN 11 e tab_ok rfl (fun c => rfl) (fun c => rfl) (fun c => rfl) rfl rfl (fun c => rfl) rfl ?_ ?_ (by simp) ?_ ?_ rfl rfl ?_ ?_
          · dsimp only; omega
          · simp; omega
          · dsimp only; simp; omega
          · dsimp only; simp; omega
          · intro e he
            rcases List.mem_append.1 he with he | he
            · exact rowI_ok 0 xs e (List.mem_of_mem_drop (List.mem_of_mem_take he))
            · rw [List.mem_singleton] at he; subst he; rfl
          repeat (
            first
              | (refine DrC.v rfl (fun c _ => VStep.ev e tab_ok rfl rfl ?_) (fun c => rfl) ?_; (focus (first | assumption | with_reducible trivial | rfl | (simp; omega) | (simp [in64]; omega) | (simp [*]; done))))
              | (refine DrC.load e tab_ok rfl (fun c => rfl) rfl (fun c => rfl) (fun c => rfl) (fun c => rfl) ?_)
              | (refine DrC.store e tab_ok rfl (fun c => rfl) (fun c => rfl) rfl (fun c => rfl) (fun c => rfl) (fun c => rfl) (fun c => rfl) (fun c => rfl) (fun c => rfl) rfl ?_)
            )
          refine DrC.fin e rfl ?_ (fun c => rfl) rfl rfl ?_ ?_ (fun cp => ?_)
          (focus (intro c; kernel_rfl))
          (focus (repeat' (first | exact True.intro | (refine And.intro ?_ ?_) | rfl | assumption | exact okRow _)))
          (focus (repeat' (first | exact True.intro | (refine And.intro (fun c C => ?_) ?_)) <;> (repeat' (first | exact All2.nil | (refine All2.cons ⟨rfl, ?_⟩ ?_) | exact Or.inr rfl | (refine Or.inl ?_; kernel_rfl)))))
          dsimp only [tmS, hpS, tput, effH]
          refine AWP.lessR e [(1, 11)] (tm := [(35, .i i), (34, .i acts.length), (33, slI acts), (1, .b true), (6, .b false), (7, .ptr 0 0), (9, .own 1 1 0 ((xs.drop o).drop 1 ++ [(i : Int)]).length (cp 10))]) (hp := [(0, .box [slI ((xs.drop o).drop 1 ++ [(i : Int)]), .i n, .b true]), (1, .row 3 false 1 ((rowI ((xs.drop o).drop 1 ++ [(i : Int)])).map (·.map SV.d)) (cp 10))]) (nx := 2) ?_ ?_ ?_ ?_ ?_ ?_ ?_
          · refine ⟨rfl, rfl, rfl, rfl, rfl, rfl, ?_, trivial⟩
            exact congrArg (fun z => some (SV.own 11 1 0 z (cp 10))) (by simp <;> omega)
          · refine ⟨rfl, ?_, trivial⟩
            refine congrArg (fun z => some (Blk.row 3 false 1 z (cp 10))) ?_
            rw [List.take_of_length_le (by simp; omega)]; simp [List.map_drop]
          · rfl
          · exact ⟨rfl, rfl, rfl, okRow _, trivial⟩
          · rfl
          · rfl
          refine AWP.runL e tab_ok L3 300 rfl (by first | trivial | (simp [in64] <;> omega)) ?_
          repeat (
            first
              | (refine AWP.askT rfl ?_; (first | (refine Told.t rfl ?_) | (refine Told.f rfl ?_) | (refine Told.t ?_ ?_; (focus (first | assumption | (simp; omega) | (simp [*]; done)); done)) | (refine Told.f ?_ ?_; (focus (first | assumption | (simp; omega) | (simp [*]; done)); done))); refine AWP.runL e tab_ok L3 300 rfl (by first | trivial | (simp [in64] <;> omega)) ?_)
              | (refine AWP.callQ e rfl rfl ?_; (first | refine CallQ.mk (hm) rfl rfl ?_); refine AWP.runL e tab_ok L3 300 rfl (by first | trivial | (simp [in64] <;> omega)) ?_)
              | (refine AWP.keep L3 rfl ?_; refine AWP.drg 100 ?_; (refine DrG.runN e tab_ok 200 rfl (by first | trivial | (simp [in64] <;> omega)) ?_); (repeat (first | (refine DrG.callQ e rfl rfl ?_; (first | refine CallVQ.mk (hm) rfl rfl ?_); (refine DrG.runN e tab_ok 200 rfl (by first | trivial | (simp [in64] <;> omega)) ?_)) | (refine DrG.callGo e rfl rfl rfl ?_; (first | refine CallVQ.mk (hm) rfl rfl ?_); (refine DrG.runN e tab_ok 200 rfl (by first | trivial | (simp [in64] <;> omega)) ?_)) | (refine DrG.callGoA e rfl ?_ rfl rfl ?_; (focus (first | assumption | with_reducible trivial | rfl | (simp; omega) | (simp []; omega) | (simp [*]; done))); (first | refine CallVQ.mk (hm) rfl rfl ?_); (refine DrG.runN e tab_ok 200 rfl (by first | trivial | (simp [in64] <;> omega)) ?_)) | (refine DrG.v rfl (fun _ => VStep.goA rfl ?_ (VStep.ev e tab_ok rfl rfl ?_)) rfl ?_; (focus (first | assumption | with_reducible trivial | rfl | (simp; omega) | (simp []; omega) | (simp [*]; done))); (focus (first | assumption | with_reducible trivial | rfl | (simp; omega) | (simp [in64]; omega) | (simp [*]; done))); (refine DrG.runN e tab_ok 200 rfl (by first | trivial | (simp [in64] <;> omega)) ?_)) | (refine DrG.loadGoA e tab_ok rfl ?_ rfl rfl rfl rfl rfl rfl ?_; (focus (first | assumption | with_reducible trivial | rfl | (simp; omega) | (simp []; omega) | (simp [*]; done))); (refine DrG.runN e tab_ok 200 rfl (by first | trivial | (simp [in64] <;> omega)) ?_)) | (refine DrG.v rfl (fun _ => VStep.notA e rfl rfl ?_) rfl ?_; (focus (first | assumption | with_reducible trivial | rfl | (simp; omega) | (simp [in64]; omega) | (simp [*]; done))); (refine DrG.runN e tab_ok 200 rfl (by first | trivial | (simp [in64] <;> omega)) ?_)) | (refine DrG.v rfl (fun _ => VStep.pickA e rfl rfl (v := true) ?_ rfl) rfl ?_; (focus (first | assumption | with_reducible trivial | rfl | (simp; omega) | (simp []; omega) | (simp [*]; done))); (refine DrG.runN e tab_ok 200 rfl (by first | trivial | (simp [in64] <;> omega)) ?_)) | (refine DrG.v rfl (fun _ => VStep.pickA e rfl rfl (v := false) ?_ rfl) rfl ?_; (focus (first | assumption | with_reducible trivial | rfl | (simp; omega) | (simp []; omega) | (simp [*]; done))); (refine DrG.runN e tab_ok 200 rfl (by first | trivial | (simp [in64] <;> omega)) ?_)))); refine DrG.fin e rfl ?_ rfl rfl rfl ?_ ?_; (focus kernel_rfl); (focus (repeat' (first | exact True.intro | (refine And.intro ?_ ?_) | rfl | assumption | exact okRow _))); dsimp only [tmS, hpS, tput, effH]; refine AWP.runL e tab_ok L3 300 rfl (by first | trivial | (simp [in64] <;> omega)) ?_)
            )
          refine AWP.lessR e [] ?_ ?_ ?_ ?_ ?_ ?_ (next (i + 1, 0, (xs.drop o).drop 1 ++ [(i : Int)], cp 10, cp 10) ?_ (by show acts.length - (i + 1) < acts.length - i; omega))
          · exact ⟨rfl, rfl, rfl, rfl, rfl, rfl, rfl, trivial⟩
          · exact ⟨rfl, rfl, trivial⟩
          · rfl
          · exact ⟨rfl, rfl, rfl, okRow _, trivial⟩
          · rfl
          · rfl
          · refine ⟨hlt, ?_, ?_, ?_⟩ <;> dsimp only <;> (first | omega | (simp; omega))
  · refine AWP.runL e tab_ok L3 300 rfl (by first | trivial | (simp [in64] <;> omega)) ?_
    refine AWP.ret e tab_ok rfl ?_
    rw [hP]
    all_goals first | rfl | (simp [strip]; done)

set_option maxRecDepth 100000 in
theorem order_args (l : List SV) (h : Args tab 9 [3, 4, 22] l) : Eff Try.prog 3 l [] 0 (fun r _ _ => r = .b true) := by
  obtain ⟨_, _, rfl, ⟨size, rfl, _, _⟩, _, _, rfl, ⟨b, rfl⟩, _, _, rfl, ⟨ys, rfl, hl, he⟩, rfl⟩ := h
  obtain ⟨l, rfl, _⟩ := ints_of (T := tab) (t := 3) rfl rfl ys he
  obtain ⟨n, hn⟩ : ∃ n : Nat, (n : Int) = if 16 < (if 1 > size then 1 else size) then 16 else if 1 > size then 1 else size := ⟨(if 16 < (if 1 > size then 1 else size) then 16 else if 1 > size then 1 else size).toNat, by split <;> split <;> omega⟩
  have n1 : 1 ≤ n ∧ n ≤ 16 := by revert hn; split <;> split <;> omega
  exact order_eff l size b n (by simpa using hl) hn n1.1 n1.2

end Go.Proofs.Ytkcdmibpmoknmaa
