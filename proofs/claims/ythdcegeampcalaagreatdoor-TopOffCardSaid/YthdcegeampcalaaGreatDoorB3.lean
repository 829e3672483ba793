/-
  A bus behind a bit, and what happened. Condition: what the theorems state ahead.
-/
import Derived.Test.YthdcegeampcalaaGreatDoorB2
open Go Go.Proofs Go.Sy Go.Stuff
namespace Go.Proofs.YthdcegeampcalaaGreatDoor
/-- What happened, whatever it is. -/
structure Ev where
  kind : Int
  fid : Int
  ext : Bool
  rem : Bool
  dlc : Int
  data : ByteArray
  bad : Int
abbrev evD (v : Ev) : List DV := [.v (.int .i64 v.kind), .v (.int .u32 v.fid), .v (.bool v.ext), .v (.bool v.rem), .v (.int .i64 v.dlc), .v (.string v.data), .v (.int .i64 v.bad)]
abbrev evV (v : Ev) : List SV := [.d (.v (.int .i64 v.kind)), .d (.v (.int .u32 v.fid)), .d (.v (.bool v.ext)), .d (.v (.bool v.rem)), .d (.v (.int .i64 v.dlc)), .d (.v (.string v.data)), .d (.v (.int .i64 v.bad))]
theorem ct_ids (l : List Ct) (m : Nat) : ∀ e ∈ l.map ctV, SV.idsLt.go m e = true := by
  intro e he
  obtain ⟨b, _, rfl⟩ := List.mem_map.1 he
  rfl
theorem ev_ids (l : List Ev) (m : Nat) : ∀ e ∈ l.map evV, SV.idsLt.go m e = true := by
  intro e he
  obtain ⟨b, _, rfl⟩ := List.mem_map.1 he
  rfl
theorem ct_app (l : List Ct) (c : Ct) : ∀ e ∈ l.map ctV ++ [ctV c], SV.idsLt.go 0 e = true := by
  have := ct_ids (l ++ [c]) 0
  rwa [List.map_append] at this
theorem ev_app (l : List Ev) (c : Ev) : ∀ e ∈ l.map evV ++ [evV c], SV.idsLt.go 0 e = true := by
  have := ev_ids (l ++ [c]) 0
  rwa [List.map_append] at this
set_option maxRecDepth 100000 in
set_option maxHeartbeats 4000000 in
/-- A bit goes by: what the controllers are then (a row of one's own), and what happened. -/
theorem step_eff' (cs cs' : List Ct) (es : List Ev) (now : Int) (b : UInt8) (hl : cs.length ≤ 4) (hl2 : cs'.length = cs.length) (hl3 : es.length = cs.length) (hn : 0 ≤ now ∧ now ≤ 100000)
    (cL : Eff Tryz.prog 29 [busV cs now] [] 0 (fun r _ _ => r = U b))
    (hd : ∀ (i : Nat) (h : i < cs.length) (h2 : i < cs'.length) (h3 : i < es.length), Eff Tryz.prog 30 [.agg (ctV cs[i]), U b] [] 0 (fun r _ _ => r = .tup [.agg (ctV cs'[i]), .agg (evV es[i]), .i 0])) :
    Eff Tryz.prog 17 [busV cs now, .d .nil] [] 0 (fun r h n => ∃ C, 0 ≤ C ∧ r = .tup [.agg [.own 2 23 0 cs.length C, .i (now + 1)], .d (.sl 7 (es.map evD))] ∧ h = [(1, .box [.own 2 23 0 cs.length C, .i (now + 1)]), (2, .row 38 false 23 (cs'.map ctV) C)] ∧ n = 4) := by
  have hz : (cs.map ctD).length = cs.length := List.length_map _
  refine eff_of Tryz.func17 rfl rfl rfl fun cx e hP => ?_
  refine AWP.runL e tab_ok L17 300 rfl (by trivial ) ?_
  repeat (

      (refine AWP.callQ e rfl rfl ?_; (first | refine CallQ.mk (cL) rfl rfl ?_); refine AWP.runL e tab_ok L17 300 rfl (by trivial ) ?_)

    )
  refine AWP.nil_own (t := 7) rfl 38 23 ?_
  refine AWP.nil_own (t := 8) rfl 47 7 ?_
  refine AWP.loop (ι := Nat × Nat × Nat) (fun x => ⟨[(20, .i x.1), (19, .i cs.length), (18, .d (.sl 23 (cs.map ctD))), (8, .own 3 7 0 (es.take x.1).length x.2.2), (7, .own 2 23 0 (cs'.take x.1).length x.2.1), (6, U b), (4, .ptr 1 0), (2, .ptr 0 0), (1, .d .nil)], [(0, .box [.d (.sl 23 (cs.map ctD)), .i now]), (1, .box [.d .nil, .i 0]), (2, .row 38 false 23 ((cs'.take x.1).map ctV) x.2.1), (3, .row 47 false 7 ((es.take x.1).map evV) x.2.2)], 4⟩) (fun x => x.1 ≤ cs.length) (fun x => cs.length - x.1) (0, 0, 0) (Nat.zero_le _) ?_ ?_
  · intro g
    refine AWP.less e ?_ ?_ ?_ ?_ ?_ (g) <;> (repeat' (first | exact True.intro | (refine And.intro ?_ ?_) | rfl))
    · exact congrArg (fun z : Nat => some (SV.i z)) hz
    · exact ct_ids _ 4
    · exact ev_ids _ 4
  rintro ⟨i, C, D⟩ Φ hi next
  dsimp only at hi next ⊢
  refine AWP.runL e tab_ok L17 300 rfl (by trivial ) ?_
  refine AWP.cond2 rfl (fun hlt => ?_) (fun hlt => ?_)
  · have hlt : i < cs.length := by have := of_decide_eq_true hlt; omega
    have hel := ct_at hlt
    have c1 := hd i hlt (by omega) (by omega)
    have nx := fun C2 D2 => next (i + 1, C2, D2) hlt (by show cs.length - (i + 1) < cs.length - i; omega)
    dsimp only at nx
    rw [List.take_succ_eq_append_getElem (show i < cs'.length by omega), List.take_succ_eq_append_getElem (show i < es.length by omega), List.map_append, List.map_append, List.length_append, List.length_append] at nx
    have hle : (cs'.take i).length ≤ 4 := by rw [List.length_take]; omega
    have hle2 : (es.take i).length ≤ 4 := by rw [List.length_take]; omega
    clear next hd
    generalize cs[i] = c at *
    generalize cs'[i] = c' at *
    generalize es[i] = v at *
    generalize cs'.take i = l at *
    generalize es.take i = o at *
    refine AWP.runL e tab_ok L17 300 rfl (by trivial ) ?_
    refine AWP.idx e tab_ok rfl rfl rfl rfl i rfl hel ?_
    refine AWP.runL e tab_ok L17 300 rfl (by trivial ) ?_
    repeat (
      first
        | (refine AWP.askT rfl ?_; ( (refine Told.f rfl ?_) ); refine AWP.runL e tab_ok L17 300 rfl (by trivial ) ?_)
        | (refine AWP.callQ e rfl rfl ?_; (first | refine CallQ.mk (c1) rfl rfl ?_); refine AWP.runL e tab_ok L17 300 rfl (by trivial ) ?_)

      )
    refine AWP.keep L17 rfl ?_
    refine AWP.drc 100 ?_
    repeat (
      first
        | (refine DrC.v rfl (fun c _ => VStep.ev e tab_ok rfl rfl ?_) (fun c => rfl) ?_; (focus ( with_reducible trivial )))
        | (refine DrC.load e tab_ok rfl (fun c => rfl) rfl (fun c => rfl) (fun c => rfl) (fun c => rfl) ?_)
      )
    refine DrC.row 10 e tab_ok rfl rfl (fun c => rfl) rfl rfl rfl ?_
    repeat (
      (refine DrC.v rfl (fun c _ => VStep.ev e tab_ok rfl rfl ?_) (fun c => rfl) ?_; (focus (assumption )))

      )
    refine DrC.appendO 11 e tab_ok rfl (fun c => rfl) (fun c => rfl) (fun c => rfl) rfl rfl rfl (fun c => rfl) rfl (by simp) (by simp [allCells, isCell]) (by simp; omega) (by simp; omega) rfl rfl ?_ rfl ?_
    · exact ct_app l c'
    repeat (
      first
        | (refine DrC.v rfl (fun c _ => VStep.ev e tab_ok rfl rfl ?_) (fun c => rfl) ?_; (focus ( with_reducible trivial )))
        | (refine DrC.load e tab_ok rfl (fun c => rfl) rfl (fun c => rfl) (fun c => rfl) (fun c => rfl) ?_)
      )
    refine DrC.row 12 e tab_ok rfl rfl (fun c => rfl) rfl rfl rfl ?_
    repeat (
      (refine DrC.v rfl (fun c _ => VStep.ev e tab_ok rfl rfl ?_) (fun c => rfl) ?_; (focus (assumption )))

      )
    refine DrC.appendO 13 e tab_ok rfl (fun c => rfl) (fun c => rfl) (fun c => rfl) rfl rfl rfl (fun c => rfl) rfl (by simp) (by simp [allCells, isCell]) (by simp; omega) (by simp; omega) rfl rfl ?_ rfl ?_
    · exact ev_app o v
    repeat (
      (refine DrC.v rfl (fun c _ => VStep.ev e tab_ok rfl rfl ?_) (fun c => rfl) ?_; (focus ( with_reducible trivial )))

      )
    refine DrC.fin e rfl ?_ (fun c => rfl) rfl rfl ?_ ?_ (fun cp => ?_)
    (focus (intro c; kernel_rfl))
    (focus (repeat' (first | exact True.intro | (refine And.intro ?_ ?_) | rfl | exact ct_ids _ 0 | exact ev_ids _ 0)))
    (focus (repeat' (first | exact True.intro | (refine And.intro (fun c C => ?_) ?_)) <;> (repeat' (first | exact All2.nil | (refine All2.cons ⟨rfl, ?_⟩ ?_) | exact Or.inr rfl | (refine Or.inl ?_; kernel_rfl)))))
    dsimp only [tmS, hpS, tput, effH]
    refine AWP.runL e tab_ok L17 300 rfl (by  (simp [in64] <;> omega)) ?_
    refine AWP.lessR e [(2, 11), (3, 13)] ?_ ?_ ?_ ?_ ?_ ?_ ((nx (cp 3) (cp 7))) <;> (repeat' (first | exact True.intro | (refine And.intro ?_ ?_) | rfl))
    · exact ct_app l c'
    · exact ev_app o v
  · have hlt : ¬ i < cs.length := by have := of_decide_eq_false hlt; omega
    obtain rfl : i = cs.length := by omega
    rw [List.take_of_length_le (by omega), List.take_of_length_le (by omega), hl2]
    clear next
    refine AWP.runL e tab_ok L17 300 rfl (by  (simp [in64] <;> omega)) ?_
    refine AWP.freezeF (id := 3) (es.map evD) rfl ?_ rfl rfl ?_ ?_ ?_
    (focus (simp [evV, evD]))
    (focus (first | (simp [lenFT, lenFH, lenF, lenF.go, tput, argT, strip, adel, Nat.beq, frzF, frzF.go]; done) ))
    (focus (first | (simp [lenFT, lenFH, lenF, lenF.go, tput, argT, strip, adel, Nat.beq, frzF, frzF.go]; done) ))
    refine AWP.lessR e [] (tm := [(5, .d (.sl 7 (es.map evD))), (4, .ptr 1 0)]) (hp := [(1, .box [.own 2 23 0 cs.length C, .i (now + 1)]), (2, .row 38 false 23 (cs'.map ctV) C)]) (nx := 4) ?_ ?_ ?_ ?_ ?_ ?_ ?_
    · exact ⟨rfl, rfl, trivial⟩
    · exact ⟨rfl, rfl, trivial⟩
    · rfl
    · exact ⟨rfl, rfl, rfl, ct_ids _ 0, trivial⟩
    · rfl
    · rfl
    refine AWP.ret e tab_ok rfl ?_
    rw [hP]
    exact ⟨C, Nat.zero_le _, rfl, rfl, rfl⟩
end Go.Proofs.YthdcegeampcalaaGreatDoor
