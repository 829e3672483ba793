/-
  A new bus; a frame is given to its first controller; three controllers that are ready. Condition: what the theorems state ahead.
-/
import Derived.Test.YthdcegeampcalaaGreatDoorB4
open Go Go.Proofs Go.Sy Go.Stuff
namespace Go.Proofs.YthdcegeampcalaaGreatDoor
theorem ct_cells (l : List Ct) : ∀ e ∈ l.map ctV, allCells e = true := by
  intro e he
  obtain ⟨b, _, rfl⟩ := List.mem_map.1 he
  rfl
set_option maxRecDepth 100000 in
set_option maxHeartbeats 4000000 in
/-- A bus that is new. -/
theorem bnew_eff (c : Ct) (cN : Eff Tryz.prog 8 [] [] 0 (fun r _ _ => r = .agg (ctV c))) : Eff Tryz.prog 13 [.i 3] [] 0 (fun r _ _ => r = .tup [busV [c, c, c] 0, .i 0]) := by
  refine eff_of Tryz.func13 rfl rfl rfl fun cx e hP => ?_
  refine AWP.runL e tab_ok L13 300 rfl (by trivial ) ?_
  repeat (
    (refine AWP.askT rfl ?_; ( (refine Told.f rfl ?_) ); refine AWP.runL e tab_ok L13 300 rfl (by trivial ) ?_)

    )
  refine AWP.nilB 1 0 38 23 rfl rfl ?_
  refine AWP.loop (ι := Nat × Nat) (fun x => ⟨[(13, .i x.1), (12, .i 3), (4, .ptr 1 0), (2, .ptr 0 0)], [(0, .box [.d .nil, .i 0]), (1, .box [.own 2 23 0 (List.replicate x.1 c).length x.2, .i 0]), (2, .row 38 false 23 ((List.replicate x.1 c).map ctV) x.2)], 3⟩) (fun x => x.1 ≤ 3) (fun x => 3 - x.1) (0, 0) (Nat.zero_le _) ?_ ?_
  · intro g
    refine AWP.less e ?_ ?_ ?_ ?_ ?_ (g) <;> (repeat' (first | exact True.intro | (refine And.intro ?_ ?_) | rfl))
    exact ct_ids _ _
  rintro ⟨i, C⟩ Φ hi next
  dsimp only at hi next ⊢
  refine AWP.runL e tab_ok L13 300 rfl (by trivial ) ?_
  refine AWP.cond2 rfl (fun hlt => ?_) (fun hlt => ?_)
  · have hlt : i < 3 := by have := of_decide_eq_true hlt; omega
    have nx := fun C2 => next (i + 1, C2) hlt (by show 3 - (i + 1) < 3 - i; omega)
    dsimp only at nx
    simp only [List.replicate_succ', List.map_append, List.length_append] at nx
    have hle : (List.replicate i c).length ≤ 4 := by rw [List.length_replicate]; omega
    clear next
    generalize List.replicate i c = l at *
    refine AWP.runL e tab_ok L13 300 rfl (by trivial ) ?_
    refine AWP.keep L13 rfl ?_
    refine AWP.drc 100 ?_
    repeat (
      first
        | (refine DrC.v rfl (fun c _ => VStep.ev e tab_ok rfl rfl ?_) (fun c => rfl) ?_; (focus ( with_reducible trivial )))
        | (refine DrC.load e tab_ok rfl (fun c => rfl) rfl (fun c => rfl) (fun c => rfl) (fun c => rfl) ?_)
      )
    refine DrC.v (x := fun _ => .agg (ctV c)) rfl (fun _ _ => VStep.callV e rfl rfl (.mk cN rfl rfl)) (fun _ => rfl) ?_
    refine DrC.row 10 e tab_ok rfl rfl (fun c => rfl) rfl rfl rfl ?_
    repeat (
      (refine DrC.v rfl (fun c _ => VStep.ev e tab_ok rfl rfl ?_) (fun c => rfl) ?_; (focus (assumption )))

      )
    refine DrC.appendO 11 e tab_ok rfl (fun c => rfl) (fun c => rfl) (fun c => rfl) rfl rfl rfl (fun c => rfl) rfl (by simp) (by simp [allCells, isCell]) (by simp; omega) (by simp; omega) rfl rfl ?_ rfl ?_
    · exact ct_app l c
    repeat (
      first
        | (refine DrC.v rfl (fun c _ => VStep.ev e tab_ok rfl rfl ?_) (fun c => rfl) ?_; (focus ( with_reducible trivial )))
        | (refine DrC.store e tab_ok rfl (fun c => rfl) (fun c => rfl) rfl (fun c => rfl) (fun c => rfl) (fun c => rfl) (fun c => rfl) (fun c => rfl) (fun c => rfl) rfl ?_)
      )
    refine DrC.fin e rfl ?_ (fun c => rfl) rfl rfl ?_ ?_ (fun cp => ?_)
    (focus (intro c; kernel_rfl))
    (focus (repeat' (first | exact True.intro | (refine And.intro ?_ ?_) | rfl | exact ct_ids _ 0)))
    (focus (repeat' (first | exact True.intro | (refine And.intro (fun c C => ?_) ?_)) <;> (repeat' (first | exact All2.nil | (refine All2.cons ⟨rfl, ?_⟩ ?_) | exact Or.inr rfl | (refine Or.inl ?_; kernel_rfl)))))
    dsimp only [tmS, hpS, tput, effH]
    refine AWP.runL e tab_ok L13 300 rfl (by  (simp [in64] <;> omega)) ?_
    refine AWP.lessR e [(2, 11)] ?_ ?_ ?_ ?_ ?_ ?_ ((nx (cp 4))) <;> (repeat' (first | exact True.intro | (refine And.intro ?_ ?_) | rfl))
    exact ct_app l c
  · have hlt : ¬ i < 3 := by have := of_decide_eq_false hlt; omega
    obtain rfl : i = 3 := by omega
    clear next
    refine AWP.runL e tab_ok L13 300 rfl (by trivial ) ?_
    refine AWP.freezeF (id := 2) ([c, c, c].map ctD) rfl ?_ rfl rfl ?_ ?_ ?_
    (focus (simp))
    (focus (first | (simp [lenFT, lenFH, lenF, lenF.go, tput, argT, strip, adel, Nat.beq, frzF, frzF.go]; done) ))
    (focus (first | (simp [lenFT, lenFH, lenF, lenF.go, tput, argT, strip, adel, Nat.beq, frzF, frzF.go]; done) ))
    refine AWP.ret e tab_ok rfl ?_
    rw [hP]
    rfl
end Go.Proofs.YthdcegeampcalaaGreatDoor

open Go Go.Proofs Go.Sy Go.Stuff
namespace Go.Proofs.YthdcegeampcalaaGreatDoor
set_option maxRecDepth 100000 in
set_option maxHeartbeats 4000000 in
/-- The first controller is given a frame. -/
theorem bsubmit_eff (c0 c1 c2 c0' : Ct) (now : Int) (f : Frm) (cR : Eff Tryz.prog 14 [busV [c0, c1, c2] now] [] 0 (fun r _ _ => r = .b true))
    (cS : Eff Tryz.prog 15 [.agg (ctV c0), .agg (fS f)] [] 0 (fun r _ _ => r = .tup [.agg (ctV c0'), .i 0])) :
    Eff Tryz.prog 9 [busV [c0, c1, c2] now, .i 0, .agg (fS f)] [] 0 (fun r _ _ => r = .tup [busV [c0', c1, c2] now, .i 0]) := by
  have hel : ([c0, c1, c2].map ctD)[0]? = some (ctD c0) := rfl
  have hel2 : ([c0, c1, c2].map ctV)[0]? = some (ctV c0) := rfl
  have g0 : decide ((0 : Int) ≥ (([c0, c1, c2].map ctD).length : Int)) = false := rfl
  refine eff_of Tryz.func9 rfl rfl rfl fun cx e hP => ?_
  refine AWP.runL e tab_ok L9 300 rfl (by trivial ) ?_
  repeat (
    first
      | (refine AWP.askT rfl ?_; ( (refine Told.f rfl ?_) ); refine AWP.runL e tab_ok L9 300 rfl (by trivial ) ?_)
      | (refine AWP.callQ e rfl rfl ?_; (first | refine CallQ.mk (cR) rfl rfl ?_); refine AWP.runL e tab_ok L9 300 rfl (by trivial ) ?_)

    )
  repeat (
    first
      | (refine AWP.askT rfl ?_; ( (refine Told.f rfl ?_) ); refine AWP.runL e tab_ok L9 300 rfl (by trivial ) ?_)
      | (refine AWP.keep L9 rfl ?_; refine AWP.drg 100 ?_; (refine DrG.runS e tab_ok 200 rfl (by trivial ) ?_); (repeat (first | (refine DrG.callQ e rfl rfl ?_; (first | refine CallVQ.mk (cS) rfl rfl ?_); (refine DrG.runS e tab_ok 200 rfl (by trivial ) ?_)) | (refine DrG.v rfl (fun _ => VStep.idx e tab_ok rfl rfl rfl rfl 0 rfl hel) rfl ?_; (refine DrG.runS e tab_ok 200 rfl (by trivial ) ?_)))); refine DrG.finK e rfl ?_ rfl rfl rfl ?_ ?_; (focus kernel_rfl); (focus (repeat' (first | exact True.intro | (refine And.intro ?_ ?_) | rfl ))); dsimp only [tmS, hpS, tput, effH]; refine AWP.runL e tab_ok L9 300 rfl (by trivial ) ?_)
    )
  repeat (
    (refine AWP.askT rfl ?_; ((refine Told.t rfl ?_) ); refine AWP.runL e tab_ok L9 300 rfl (by trivial ) ?_)

    )
  refine AWP.enter e rfl Tryz.func16 rfl rfl rfl rfl fun cx' e' hP' => ?_
  refine AWP.runL e' tab_ok L16 300 rfl (by  (simp [in64] <;> omega)) ?_
  refine AWP.cond rfl false rfl ?_
  refine AWP.runL e' tab_ok L16 300 rfl (by trivial ) ?_
  refine AWP.append e' tab_ok rfl rfl rfl rfl rfl rfl rfl rfl (.sl ([c0, c1, c2].map ctD)) rfl (ct_cells [c0, c1, c2]) (by simp) (by simp) fun C2 hC2 => ?_
  refine AWP.runL e' tab_ok L16 300 rfl (by trivial ) ?_
  ((refine AWP.ret e' tab_ok rfl ?_)); rw [hP']; show AWP cx _ _
  refine AWP.runL e tab_ok L9 300 rfl (by trivial ) ?_
  refine AWP.idx_own e tab_ok rfl rfl rfl rfl 0 rfl (by simp) ?_
  refine AWP.runL e tab_ok L9 300 rfl (by trivial ) ?_
  refine AWP.store_el e tab_ok rfl rfl rfl rfl rfl hel2 rfl rfl rfl rfl ?_
  refine AWP.freezeF (id := 101) ([c0', c1, c2].map ctD) rfl ?_ rfl rfl ?_ ?_ ?_
  (focus (rfl))
  (focus (first | (simp [lenFT, lenFH, lenF, lenF.go, tput, argT, strip, adel, Nat.beq, frzF, frzF.go]; done) ))
  (focus (first | (simp [lenFT, lenFH, lenF, lenF.go, tput, argT, strip, adel, Nat.beq, frzF, frzF.go]; done) ))
  refine AWP.runL e tab_ok L9 300 rfl (by trivial ) ?_
  refine AWP.ret e tab_ok rfl ?_
  rw [hP]
  rfl
end Go.Proofs.YthdcegeampcalaaGreatDoor

open Go Go.Proofs Go.Sy Go.Stuff
namespace Go.Proofs.YthdcegeampcalaaGreatDoor
namespace T3
theorem okRow {m : Nat} (l : List Ct) : ∀ e ∈ l.map ctV, SV.idsLt.go m e = true := ct_ids l m
set_option maxRecDepth 100000 in
set_option maxHeartbeats 4000000 in
/-- Three controllers that have joined. -/
theorem ready_eff (c c' : Ct) (cB : Eff Tryz.prog 13 [.i 3] [] 0 (fun r _ _ => r = .tup [busV [c, c, c] 0, .i 0]))
    (cR : Eff Tryz.prog 10 [busV [c, c, c] 0, .i 11] [] 0 (fun r h q => ∃ C, 0 ≤ C ∧ r = .tup [.agg [.own 3 23 0 3 C, .i 11], .d (.sl 9 []), .i 0] ∧ h = [(1, .box [.own 3 23 0 3 C, .i 11]), (3, .row 38 false 23 ([c', c', c'].map ctV) C)] ∧ q = 4)) :
    Eff Tryz.prog 7 [.i 3] [] 0 (fun r h q => ∃ C, 0 ≤ C ∧ r = .tup [.agg [.own 5 23 0 3 C, .i 11], .b true] ∧ h = [(0, .box [.own 5 23 0 3 C, .i 11]), (5, .row 38 false 23 ([c', c', c'].map ctV) C)] ∧ q = 6) := by
  refine eff_of Tryz.func7 rfl rfl rfl fun cx e hP => ?_
  refine AWP.runL e tab_ok L7 300 rfl (by trivial ) ?_
  repeat (

      (refine AWP.callQ e rfl rfl ?_; (first | refine CallQ.mk (cB) rfl rfl ?_); refine AWP.runL e tab_ok L7 300 rfl (by trivial ) ?_)

    )
  refine AWP.callC e cR rfl rfl rfl rfl fun C _ => ⟨⟨trivial, ct_ids _ 0, trivial⟩, ?_⟩
  refine AWP.runL e tab_ok L7 300 rfl (by trivial ) ?_
  refine AWP.lessR e [] (tm := [(7, .i 0), (6, .d (.sl 9 [])), (5, .i 0), (4, .ptr 1 0), (2, .ptr 0 0), (0, .i 3)]) (hp := [(0, .box [.d .nil, .i 0]), (1, .box [.own 5 23 0 3 C, .i 11]), (5, .row 38 false 23 ([c', c', c'].map ctV) C)]) (nx := 6) ?_ ?_ ?_ ?_ ?_ ?_ ?_
  · exact ⟨rfl, rfl, rfl, rfl, rfl, rfl, trivial⟩
  · exact ⟨rfl, rfl, rfl, trivial⟩
  · rfl
  · (repeat' (first | exact True.intro | (refine And.intro ?_ ?_) | rfl | exact ct_ids _ _))
  · rfl
  · rfl
  repeat (

      (refine AWP.keep L7 rfl ?_; refine AWP.drg 50 ?_; (refine DrG.runS e tab_ok 200 rfl (by trivial ) ?_); (repeat ((refine DrG.askT rfl ?_; ((refine Told.t rfl ?_) ); (refine DrG.runS e tab_ok 200 rfl (by trivial ) ?_)) )); refine DrG.finK e rfl ?_ rfl rfl rfl ?_ ?_; (focus kernel_rfl); (focus (repeat' (first | exact True.intro | (refine And.intro ?_ ?_) | rfl | exact okRow _))); dsimp only [tmS, hpS, tput, effH]; refine AWP.runL e tab_ok L7 300 rfl (by trivial ) ?_)
    )
  refine AWP.lessR e [] (tm := [(3, .b true), (2, .ptr 0 0)]) (hp := [(0, .box [.own 5 23 0 3 C, .i 11]), (5, .row 38 false 23 ([c', c', c'].map ctV) C)]) (nx := 6) ?_ ?_ ?_ ?_ ?_ ?_ ?_
  · exact ⟨rfl, rfl, trivial⟩
  · exact ⟨rfl, rfl, trivial⟩
  · rfl
  · (repeat' (first | exact True.intro | (refine And.intro ?_ ?_) | rfl | exact ct_ids _ _))
  · rfl
  · rfl
  refine AWP.ret e tab_ok rfl ?_
  rw [hP]
  exact ⟨C, Nat.zero_le _, rfl, rfl, rfl⟩
end T3
end Go.Proofs.YthdcegeampcalaaGreatDoor
