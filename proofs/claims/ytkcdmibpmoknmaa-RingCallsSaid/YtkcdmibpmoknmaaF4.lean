import Derived.Test.YtkcdmibpmoknmaaF3
open Go Go.Proofs Go.Sy
namespace Go.Proofs.Ytkcdmibpmoknmaa

set_option maxRecDepth 100000 in
theorem len16_eff (s : ByteArray) : Eff Try.prog 16 [.s s] [] 0 (fun r _ _ => r = .i s.size) := by
  refine eff_of Try.func16 rfl rfl rfl fun cx e hP => ?_
  refine AWP.runL e tab_ok L16 300 rfl (by first | trivial | (simp [in64] <;> omega)) ?_
  refine AWP.ret e tab_ok rfl ?_
  rw [hP]
  all_goals first | rfl | (simp [strip]; done)

set_option maxRecDepth 100000 in
theorem len22_eff (s : ByteArray) : Eff Try.prog 22 [.s s] [] 0 (fun r _ _ => r = .i s.size) := by
  refine eff_of Try.func22 rfl rfl rfl fun cx e hP => ?_
  refine AWP.runL e tab_ok L22 300 rfl (by first | trivial | (simp [in64] <;> omega)) ?_
  refine AWP.ret e tab_ok rfl ?_
  rw [hP]
  all_goals first | rfl | (simp [strip]; done)


abbrev sizes (l : List ByteArray) : List Int := l.map fun s => (s.size : Int)

set_option maxRecDepth 100000 in
theorem each_bad (l : List ByteArray) (c : Int) (b : Bool) (g : Nat) (h : rightR l.length c = false) : Eff Try.prog 15 [ringS l c b, .fn (.func g) [] []] [] 0 (fun r _ _ => r = .tup [ringI [] 0 false, .i 1]) := by
  have hr := rightS_eff l c b
  rw [h] at hr
  refine eff_of Try.func15 rfl rfl rfl fun cx e hP => ?_
  refine AWP.runL e tab_ok L15 300 rfl (by first | trivial | (simp [in64] <;> omega)) ?_
  repeat (
    first
      | (refine AWP.askT rfl ?_; (first | (refine Told.t rfl ?_) | (refine Told.f rfl ?_) | (refine Told.t ?_ ?_; (focus (first | assumption | (simp; omega) | (simp [*]; done)); done)) | (refine Told.f ?_ ?_; (focus (first | assumption | (simp; omega) | (simp [*]; done)); done))); refine AWP.runL e tab_ok L15 300 rfl (by first | trivial | (simp [in64] <;> omega)) ?_)
      | (refine AWP.callQ e rfl rfl ?_; (first | refine CallQ.mk (hr) rfl rfl ?_); refine AWP.runL e tab_ok L15 300 rfl (by first | trivial | (simp [in64] <;> omega)) ?_)
    )
  refine AWP.retW e tab_ok rfl (r' := .tup [ringI [] 0 false, .i 1]) ?_ ?_
  (focus (repeat' (first | exact WkL.nil | (refine WkL.cons ?_ ?_) | exact Wk.refl _ | exact Wk.nil _ | (refine Wk.aggL ?_) | (refine Wk.tupL ?_))))
  rw [hP]

set_option maxRecDepth 100000 in
theorem each_ok (l : List ByteArray) (c : Int) (b : Bool) (g : Nat) (hg : ∀ s : ByteArray, Eff Try.prog g [.s s] [] 0 (fun r _ _ => r = .i s.size)) (h : rightR l.length c = true) : Eff Try.prog 15 [ringS l c b, .fn (.func g) [] []] [] 0 (fun r _ _ => r = .tup [ringI (sizes l) c b, .i 0]) := by
  obtain ⟨c1, c2, c3⟩ := rightR_get h
  have hr := rightS_eff l c b
  rw [h] at hr
  refine eff_of Try.func15 rfl rfl rfl fun cx e hP => ?_
  refine AWP.runL e tab_ok L15 300 rfl (by first | trivial | (simp [in64] <;> omega)) ?_
  repeat (
    first
      | (refine AWP.askT rfl ?_; (first | (refine Told.t rfl ?_) | (refine Told.f rfl ?_) | (refine Told.t ?_ ?_; (focus (first | assumption | (simp; omega) | (simp [*]; done)); done)) | (refine Told.f ?_ ?_; (focus (first | assumption | (simp; omega) | (simp [*]; done)); done))); refine AWP.runL e tab_ok L15 300 rfl (by first | trivial | (simp [in64] <;> omega)) ?_)
      | (refine AWP.callQ e rfl rfl ?_; (first | refine CallQ.mk (hr) rfl rfl ?_); refine AWP.runL e tab_ok L15 300 rfl (by first | trivial | (simp [in64] <;> omega)) ?_)
    )
  refine AWP.nilB 2 0 3 1 rfl rfl ?_
  refine AWP.loop (ι := Nat × Nat) (fun s => ⟨[(21, .i s.1), (20, .i l.length), (19, slS l), (1, .fn (.func g) [] []), (4, .ptr 1 0), (5, .i 0), (6, .ptr 2 0)], [(2, .box [.own 3 1 0 s.1 s.2, .i c, .b b]), (3, .row 3 false 1 ((rowI ((sizes l).take s.1)).map (·.map SV.d)) s.2), (1, .box [.d .nil, .i 0, .b false])], 4⟩)
    (fun s => s.1 ≤ l.length) (fun s => l.length - s.1) (0, 0) (Nat.zero_le _) ?_ ?_
  · intro g'
    refine AWP.lessR e [] ?_ ?_ ?_ ?_ ?_ ?_ g'
    · refine ⟨rfl, ?_, rfl, rfl, rfl, rfl, rfl, trivial⟩
      show some (SV.i _) = some (SV.i _)
      rw [List.length_map]
    · exact ⟨rfl, rfl, rfl, trivial⟩
    · rfl
    · exact ⟨rfl, rfl, rfl, rowI_ok _ _, rfl, rfl, trivial⟩
    · rfl
    · rfl
  rintro ⟨i, C⟩ Φ hI next
  have hI : i ≤ l.length := hI
  refine AWP.runL e tab_ok L15 300 rfl (by first | trivial | (simp [in64] <;> omega)) ?_
  refine AWP.cond2 rfl (fun hlt => ?_) (fun hlt => ?_)
  · have hlt : i < l.length := by simpa using hlt
    refine AWP.runL e tab_ok L15 300 rfl (by first | trivial | (simp [in64] <;> omega)) ?_
    refine AWP.idx e tab_ok rfl rfl rfl rfl i rfl (el := [.v (.string l[i])]) (by simp [hlt]) ?_
    refine AWP.runL e tab_ok L15 300 rfl (by first | trivial | (simp [in64] <;> omega)) ?_
    refine AWP.keep L15 rfl ?_
    refine AWP.drc 100 ?_
    repeat (
      first
        | (refine DrC.v rfl (fun c _ => VStep.ev e tab_ok rfl rfl ?_) (fun c => rfl) ?_; (focus (first | assumption | with_reducible trivial | rfl | (simp; omega) | (simp [in64]; omega) | (simp [*]; done))))
        | (refine DrC.load e tab_ok rfl (fun c => rfl) rfl (fun c => rfl) (fun c => rfl) (fun c => rfl) ?_)
        | (refine DrC.store e tab_ok rfl (fun c => rfl) (fun c => rfl) rfl (fun c => rfl) (fun c => rfl) (fun c => rfl) (fun c => rfl) (fun c => rfl) (fun c => rfl) rfl ?_)
      )
    refine DrC.v (x := fun _ => .i l[i].size) rfl (fun c _ => VStep.callV e rfl rfl (CallV.mk (hg l[i]) rfl rfl)) (fun c => rfl) ?_
    refine DrC.row 10 e tab_ok rfl rfl (fun c => rfl) rfl rfl rfl ?_
    refine DrC.appendO 11 e tab_ok rfl (fun c => rfl) (fun c => rfl) (fun c => rfl) rfl rfl rfl (fun c => rfl) rfl (by simp; omega) (by simp [allCells, isCell]) (by simp; omega) (by simp; omega) rfl rfl ?_ rfl ?_
    · intro e he
      rcases List.mem_append.1 he with he | he
      · exact rowI_ok 0 _ e he
      · simp only [List.mem_singleton] at he; subst he; rfl
    repeat (
      first
        | (refine DrC.v rfl (fun c _ => VStep.ev e tab_ok rfl rfl ?_) (fun c => rfl) ?_; (focus (first | assumption | with_reducible trivial | rfl | (simp; omega) | (simp [in64]; omega) | (simp [*]; done))))
        | (refine DrC.load e tab_ok rfl (fun c => rfl) rfl (fun c => rfl) (fun c => rfl) (fun c => rfl) ?_)
        | (refine DrC.store e tab_ok rfl (fun c => rfl) (fun c => rfl) rfl (fun c => rfl) (fun c => rfl) (fun c => rfl) (fun c => rfl) (fun c => rfl) (fun c => rfl) rfl ?_)
      )
    refine DrC.fin e rfl ?_ (fun c => rfl) rfl rfl ?_ ?_ (fun cp => ?_)
    (focus (intro c; kernel_rfl))
    (focus (repeat' (first | exact True.intro | (refine And.intro ?_ ?_) | rfl | assumption | exact okRow _)))
    (focus (repeat' (first | exact True.intro | (refine And.intro (fun c C => ?_) ?_)) <;> (repeat' (first | exact All2.nil | (refine All2.cons ⟨rfl, ?_⟩ ?_) | exact Or.inr rfl | (refine Or.inl ?_; kernel_rfl)))))
    dsimp only [tmS, hpS, tput, effH]
    refine AWP.runL e tab_ok L15 300 rfl (by first | trivial | (simp [in64] <;> omega)) ?_
    have hl2 : i < (sizes l).length := by simp [hlt]
    refine AWP.lessR e [(3, 11)] ?_ ?_ ?_ ?_ ?_ ?_ (next (i + 1, cp 6) hlt (by show l.length - (i + 1) < l.length - i; omega))
    · exact ⟨rfl, rfl, rfl, rfl, rfl, rfl, rfl, trivial⟩
    · refine ⟨rfl, ?_, rfl, trivial⟩
      show some (Blk.row 3 false 1 ((rowI ((sizes l).take i)).map (·.map SV.d) ++ [[SV.i (l[i].size : Int)]]) (cp 6)) = some (Blk.row 3 false 1 ((rowI ((sizes l).take (i + 1))).map (·.map SV.d)) (cp 6))
      rw [List.take_succ_eq_append_getElem hl2]
      simp [rowI]
    · rfl
    · exact ⟨rfl, rfl, rfl, rowI_ok _ _, rfl, rfl, trivial⟩
    · rfl
    · rfl
  · have hge : ¬ i < l.length := by simpa using hlt
    obtain rfl : i = l.length := by omega
    refine AWP.runL e tab_ok L15 300 rfl (by first | trivial | (simp [in64] <;> omega)) ?_
    refine AWP.freezeO (id := 3) (rowI ((sizes l).take l.length)) rfl ?_ rfl rfl ?_ ?_ ?_
    (focus (rfl))
    (focus (simp [lenDT, lenD, lenD.go]; done))
    (focus (simp [lenDH, lenD, lenD.go]; done))
    refine AWP.ret e tab_ok rfl ?_
    rw [hP]
    simp [strip, frzO, List.take_of_length_le]

end Go.Proofs.Ytkcdmibpmoknmaa
