/-
  A bus behind so many bits, and all that happened. Condition: what the theorems state ahead.
-/
import Derived.Test.YthdcegeampcalaaGreatDoorB3
open Go Go.Proofs Go.Sy Go.Stuff
namespace Go.Proofs.YthdcegeampcalaaGreatDoor
/-- What is seen of what happened at a bit. -/
abbrev snD (now : Int) (who : Nat) (v : Ev) : List DV := [.v (.int .i64 now), .v (.int .i64 who), .v (.int .i64 v.kind), .v (.int .u32 v.fid), .v (.bool v.ext), .v (.bool v.rem), .v (.int .i64 v.dlc), .v (.string v.data), .v (.int .i64 v.bad)]
def seenF (now : Int) : Nat → List Ev → List (List DV)
  | _, [] => []
  | w, v :: l => (if v.kind = 0 then [] else [snD now w v]) ++ seenF now (w + 1) l
theorem seenF_app (now : Int) (b : List Ev) : ∀ (a : List Ev) (w : Nat), seenF now w (a ++ b) = seenF now w a ++ seenF now (w + a.length) b
  | [], w => rfl
  | v :: a, w => by
    rw [List.cons_append, seenF, seenF, seenF_app now b a (w + 1), List.append_assoc, List.length_cons, show w + 1 + a.length = w + (a.length + 1) by omega]
theorem seenF_succ (now : Int) {l : List Ev} {j : Nat} (h : j < l.length) : seenF now 0 (l.take (j + 1)) = seenF now 0 (l.take j) ++ (if l[j].kind = 0 then [] else [snD now j l[j]]) := by
  rw [List.take_succ_eq_append_getElem h, seenF_app, List.length_take, Nat.min_eq_left (Nat.le_of_lt h), Nat.zero_add]
  simp only [seenF, List.append_nil]
theorem seenF_len (now : Int) : ∀ (l : List Ev) (w : Nat), (seenF now w l).length ≤ l.length
  | [], _ => Nat.le_refl _
  | v :: l, w => by
    rw [seenF, List.length_append, List.length_cons]
    have := seenF_len now l (w + 1)
    split <;> simp <;> omega
def outF (now : Int) (ev : Nat → List Ev) : Nat → List (List DV)
  | 0 => []
  | k + 1 => outF now ev k ++ seenF (now + k) 0 (ev k)
theorem outF_len (now : Int) (ev : Nat → List Ev) (m : Nat) (h : ∀ k, (ev k).length = m) : ∀ k, (outF now ev k).length ≤ m * k
  | 0 => Nat.zero_le _
  | k + 1 => by
    rw [outF, List.length_append]
    have h1 := outF_len now ev m h k
    have h2 := seenF_len (now + k) (ev k) 0
    rw [h k] at h2
    rw [Nat.mul_succ]
    omega
abbrev dvF (d : List DV) : List SV := d.map SV.d
theorem dv_ids (l : List (List DV)) (m : Nat) : ∀ e ∈ l.map dvF, SV.idsLt.go m e = true := by
  exact Go.Sy.okEls m l
/-- The slots and blocks of Run's rounds. -/
def runS (st : Nat → List Ct) (ev : Nat → List Ev) (now : Int) (n m : Nat) : Nat × Nat × Nat → St
  | (0, _, D) => ⟨[(32, .i (0 : Nat)), (31, .i n), (7, .own 2 9 0 (outF now ev 0).length D), (4, .ptr 1 0), (2, .ptr 0 0)], [(0, .box [.d (.sl 23 ((st 0).map ctD)), .i now]), (1, .box [.d .nil, .i 0]), (2, .row 49 false 9 ((outF now ev 0).map dvF) D)], 4⟩
  | (k + 1, C, D) => ⟨[(32, .i (k + 1 : Nat)), (31, .i n), (7, .own 2 9 0 (outF now ev (k + 1)).length D), (4, .ptr 1 0), (2, .ptr 0 0)], [(0, .box [.own 3 23 0 m C, .i (now + (k + 1 : Nat))]), (1, .box [.d .nil, .i 0]), (2, .row 49 false 9 ((outF now ev (k + 1)).map dvF) D), (3, .row 38 false 23 ((st (k + 1)).map ctV) C)], 4⟩
set_option maxRecDepth 100000 in
set_option maxHeartbeats 8000000 in
/-- Bits go by, one behind the other. -/
theorem run_eff (n m : Nat) (st : Nat → List Ct) (ev : Nat → List Ev) (now : Int) (hn1 : 1 ≤ n) (hn2 : n ≤ 20000) (h0 : 0 ≤ now) (h1 : now + n ≤ 100000) (hm : 1 ≤ m) (hm4 : m ≤ 4) (hl : ∀ k, (st k).length = m) (hle : ∀ k, (ev k).length = m)
    (cR : Eff Tryz.prog 14 [busV (st 0) now] [] 0 (fun r _ _ => r = .b true))
    (hs : ∀ k, k < n → Eff Tryz.prog 17 [busV (st k) (now + k), .d .nil] [] 0 (fun r h n => ∃ C, 0 ≤ C ∧ r = .tup [.agg [.own 2 23 0 m C, .i (now + k + 1)], .d (.sl 7 ((ev k).map evD))] ∧ h = [(1, .box [.own 2 23 0 m C, .i (now + k + 1)]), (2, .row 38 false 23 ((st (k + 1)).map ctV) C)] ∧ n = 4)) :
    Eff Tryz.prog 10 [busV (st 0) now, .i n] [] 0 (fun r h q => ∃ C, 0 ≤ C ∧ r = .tup [.agg [.own 3 23 0 m C, .i (now + n)], .d (.sl 9 (outF now ev n)), .i 0] ∧ h = [(1, .box [.own 3 23 0 m C, .i (now + n)]), (3, .row 38 false 23 ((st n).map ctV) C)] ∧ q = 4) := by
  refine eff_of Tryz.func10 rfl rfl rfl fun cx e hP => ?_
  refine AWP.runL e tab_ok L10 300 rfl (by trivial ) ?_
  repeat (
    first
      | (refine AWP.askT rfl ?_; (first | (refine Told.f rfl ?_) | (refine Told.f ?_ ?_; (focus ((simp; omega)); done))); refine AWP.runL e tab_ok L10 300 rfl (by first | trivial | (simp [in64] <;> omega)) ?_)
      | (refine AWP.callQ e rfl rfl ?_; (first | refine CallQ.mk (cR) rfl rfl ?_); refine AWP.runL e tab_ok L10 300 rfl (by trivial ) ?_)

    )
  refine AWP.nil_own (t := 7) rfl 49 9 ?_
  refine AWP.loop (ι := Nat × Nat × Nat) (runS st ev now n m) (fun x => x.1 ≤ n) (fun x => n - x.1) (0, 0, 0) (Nat.zero_le _) ?_ ?_
  · intro g
    unfold runS at g
    refine AWP.lessR e [] ?_ ?_ ?_ ?_ ?_ ?_ (g) <;> (repeat' (first | exact True.intro | (refine And.intro ?_ ?_) | rfl))
    exact dv_ids _ _
  rintro ⟨k, C, D⟩ Φ hi next
  dsimp only at hi next ⊢
  cases k with
  | zero =>
    unfold runS
    refine AWP.eqH 0 [.d (.sl 23 ((st 0).map ctD)), .i (now + (0 : Nat))] rfl (by simp) ?_
    refine AWP.runL e tab_ok L10 300 rfl (by trivial ) ?_
    refine AWP.cond2 rfl (fun hlt => ?_) (fun hlt => ?_)
    · have hlt : 0 < n := by have := of_decide_eq_true hlt; omega
      have c2 := hs 0 hlt
      have hel := hle 0
      have hol := outF_len now ev m hle 0
      have nx := fun C2 D2 => next (0 + 1, C2, D2) hlt (by show n - (0 + 1) < n - 0; omega)
      have hm3 : m * 0 ≤ 4 * 20000 := by
        have : m * 0 ≤ 4 * 0 := Nat.mul_le_mul_right _ hm4
        omega
      clear next
      refine AWP.runL e tab_ok L10 300 rfl (by trivial ) ?_
      refine AWP.callC e c2 rfl rfl rfl rfl fun C2 _ => ⟨⟨trivial, ct_ids _ 0, trivial⟩, ?_⟩
      refine AWP.runL e tab_ok L10 300 rfl (by trivial ) ?_
      have hz : ((ev 0).map evD).length = m := by rw [List.length_map, hle]
      refine AWP.loop (ι := Nat × Nat) (fun x => ⟨[(41, .i x.1), (40, .i m), (39, .d (.sl 7 ((ev 0).map evD))), (8, .ptr 8 0), (32, .i (0 : Nat)), (31, .i n), (7, .own 2 9 0 (outF now ev 0 ++ seenF (now + 0) 0 ((ev 0).take x.1)).length x.2), (4, .ptr 1 0), (2, .ptr 0 0)], [(8, .box [.own 6 23 0 m C2, .i (now + (0 : Nat) + 1)]), (6, .row 38 false 23 ((st (0 + 1)).map ctV) C2), (0, .box [.d (.sl 23 ((st 0).map ctD)), .i (now + (0 : Nat))]), (1, .box [.d .nil, .i 0]), (2, .row 49 false 9 ((outF now ev 0 ++ seenF (now + 0) 0 ((ev 0).take x.1)).map dvF) x.2)], 9⟩) (fun x => x.1 ≤ m) (fun x => m - x.1) (0, D) (Nat.zero_le _) ?_ ?_
      · intro g
        simp only [List.take_zero, seenF, List.append_nil] at g
        refine AWP.less e ?_ ?_ ?_ ?_ ?_ (g) <;> (repeat' (first | exact True.intro | (refine And.intro ?_ ?_) | rfl))
        · exact congrArg (fun z : Nat => some (SV.i z)) hz
        · exact ct_ids _ _
        · exact dv_ids _ _
      rintro ⟨j, D2⟩ Φ hi2 next
      dsimp only at hi2 next ⊢
      refine AWP.runL e tab_ok L10 300 rfl (by trivial ) ?_
      refine AWP.cond2 rfl (fun hlj => ?_) (fun hlj => ?_)
      · have hlj : j < m := by have := of_decide_eq_true hlj; omega
        have hle1 := hle 0
        have hlj' : j < (ev 0).length := by omega
        have hel : ((ev 0).map evD)[j]? = some (evD (ev 0)[j]) := by simp [hlj']
        have hsl := seenF_len (now + (0 : Nat)) ((ev 0).take j) 0
        rw [List.length_take] at hsl
        have ny := fun D3 => next (j + 1, D3) hlj (by show m - (j + 1) < m - j; omega)
        dsimp only at ny
        rw [seenF_succ _ hlj'] at ny
        clear next nx c2
        have hol2 : (outF now ev 0 ++ seenF (now + (0 : Nat)) 0 ((ev 0).take j)).length ≤ m * 0 + m := by rw [List.length_append]; omega
        rw [← List.append_assoc] at ny
        generalize outF now ev 0 ++ seenF (now + (0 : Nat)) 0 ((ev 0).take j) = out at *
        generalize (ev 0)[j] = v at *
        refine AWP.runL e tab_ok L10 300 rfl (by trivial ) ?_
        refine AWP.idx e tab_ok rfl rfl rfl rfl j rfl hel ?_
        refine AWP.runL e tab_ok L10 300 rfl (by trivial ) ?_
        by_cases hk : v.kind = 0
        · have hb : (v.kind != 0) = false := by simp [hk]
          rw [if_pos hk, List.append_nil] at ny
          repeat (
            (refine AWP.askT rfl ?_; ( (refine Told.f ?_ ?_; (focus assumption)) ); refine AWP.runL e tab_ok L10 300 rfl (by  (simp [in64] <;> omega)) ?_)

            )
          refine AWP.less e ?_ ?_ ?_ ?_ ?_ ((ny D2)) <;> (repeat' (first | exact True.intro | (refine And.intro ?_ ?_) | rfl))
          · exact ct_ids _ _
          · exact dv_ids _ _
        · have hb : (v.kind != 0) = true := by simp [hk]
          rw [if_neg hk] at ny
          repeat (
            (refine AWP.askT rfl ?_; ( (refine Told.t ?_ ?_; (focus assumption)) ); refine AWP.runL e tab_ok L10 300 rfl (by trivial ) ?_)

            )
          refine AWP.append1 dvF out (snD (now + (0 : Nat)) j v) e tab_ok rfl rfl rfl rfl rfl rfl rfl rfl rfl rfl rfl rfl rfl rfl (by show (_ + 1) * 64 ≤ _; omega) (by omega) fun C3 => ?_
          refine AWP.runL e tab_ok L10 300 rfl (by  (simp [in64] <;> omega)) ?_
          refine AWP.lessR e [(2, 11)] ?_ ?_ ?_ ?_ ?_ ?_ ((ny C3)) <;> (repeat' (first | exact True.intro | (refine And.intro ?_ ?_) | rfl))
          · exact ct_ids _ _
          · exact dv_ids _ _
      · have hlj : ¬ j < m := by have := of_decide_eq_false hlj; omega
        obtain rfl : j = m := by omega
        rw [List.take_of_length_le (by rw [hle]; exact Nat.le_refl _)]
        clear next
        have nx := nx C2 D2
        unfold runS at nx
        dsimp only [outF] at nx
        refine AWP.runL e tab_ok L10 300 rfl (by trivial ) ?_
        have hbx : now + (0 : Nat) + 1 = now + ((0 + 1 : Nat) : Int) := by push_cast; omega
        refine AWP.lessR e [(3, 6)] ?_ ?_ ?_ ?_ ?_ ?_ (nx) <;> (repeat' (first | exact True.intro | (refine And.intro ?_ ?_) | rfl))
        · show some (Blk.box [.own 6 23 0 _ C2, .i (now + (0 : Nat) + 1)]) = some (Blk.box [.own 6 23 0 _ C2, .i (now + ((0 + 1 : Nat) : Int))])
          rw [hbx]
        · exact dv_ids _ _
        · exact ct_ids _ _
    · have hlt : ¬ 0 < n := by have := of_decide_eq_false hlt; omega
      exfalso; omega
  | succ k =>
    dsimp only [runS]
    generalize k + 1 = q at *
    refine AWP.runL e tab_ok L10 300 rfl (by trivial ) ?_
    refine AWP.cond2 rfl (fun hlt => ?_) (fun hlt => ?_)
    · have hlt : q < n := by have := of_decide_eq_true hlt; omega
      have c2 := hs q hlt
      have hel := hle q
      have hol := outF_len now ev m hle q
      have nx := fun C2 D2 => next (q + 1, C2, D2) hlt (by show n - (q + 1) < n - q; omega)
      have hm3 : m * q ≤ 4 * 20000 := by
        have : m * q ≤ 4 * q := Nat.mul_le_mul_right _ hm4
        omega
      clear next
      rw [← hl q]
      refine AWP.freezeF (id := 3) ((st q).map ctD) rfl ?_ rfl rfl ?_ ?_ ?_
      (focus (simp))
      (focus (first | (simp [lenFT, lenFH, lenF, lenF.go, tput, argT, strip, adel, Nat.beq, frzF, frzF.go]; done) ))
      (focus (first | (simp [lenFT, lenFH, lenF, lenF.go, tput, argT, strip, adel, Nat.beq, frzF, frzF.go]; done) ))
      rw [hl q]
      refine AWP.runL e tab_ok L10 300 rfl (by trivial ) ?_
      refine AWP.callC e c2 rfl rfl rfl rfl fun C2 _ => ⟨⟨trivial, ct_ids _ 0, trivial⟩, ?_⟩
      refine AWP.runL e tab_ok L10 300 rfl (by trivial ) ?_
      have hz : ((ev q).map evD).length = m := by rw [List.length_map, hle]
      refine AWP.loop (ι := Nat × Nat) (fun x => ⟨[(41, .i x.1), (40, .i m), (39, .d (.sl 7 ((ev q).map evD))), (8, .ptr 8 0), (32, .i (q : Nat)), (31, .i n), (7, .own 2 9 0 (outF now ev q ++ seenF (now + q) 0 ((ev q).take x.1)).length x.2), (4, .ptr 1 0), (2, .ptr 0 0)], [(8, .box [.own 6 23 0 m C2, .i (now + (q : Nat) + 1)]), (6, .row 38 false 23 ((st (q + 1)).map ctV) C2), (0, .box [.d (.sl 23 ((st q).map ctD)), .i (now + (q : Nat))]), (1, .box [.d .nil, .i 0]), (2, .row 49 false 9 ((outF now ev q ++ seenF (now + q) 0 ((ev q).take x.1)).map dvF) x.2)], 9⟩) (fun x => x.1 ≤ m) (fun x => m - x.1) (0, D) (Nat.zero_le _) ?_ ?_
      · intro g
        simp only [List.take_zero, seenF, List.append_nil] at g
        refine AWP.less e ?_ ?_ ?_ ?_ ?_ (g) <;> (repeat' (first | exact True.intro | (refine And.intro ?_ ?_) | rfl))
        · exact congrArg (fun z : Nat => some (SV.i z)) hz
        · exact ct_ids _ _
        · exact dv_ids _ _
      rintro ⟨j, D2⟩ Φ hi2 next
      dsimp only at hi2 next ⊢
      refine AWP.runL e tab_ok L10 300 rfl (by trivial ) ?_
      refine AWP.cond2 rfl (fun hlj => ?_) (fun hlj => ?_)
      · have hlj : j < m := by have := of_decide_eq_true hlj; omega
        have hle1 := hle q
        have hlj' : j < (ev q).length := by omega
        have hel : ((ev q).map evD)[j]? = some (evD (ev q)[j]) := by simp [hlj']
        have hsl := seenF_len (now + (q : Nat)) ((ev q).take j) 0
        rw [List.length_take] at hsl
        have ny := fun D3 => next (j + 1, D3) hlj (by show m - (j + 1) < m - j; omega)
        dsimp only at ny
        rw [seenF_succ _ hlj'] at ny
        clear next nx c2
        have hol2 : (outF now ev q ++ seenF (now + (q : Nat)) 0 ((ev q).take j)).length ≤ m * q + m := by rw [List.length_append]; omega
        rw [← List.append_assoc] at ny
        generalize outF now ev q ++ seenF (now + (q : Nat)) 0 ((ev q).take j) = out at *
        generalize (ev q)[j] = v at *
        refine AWP.runL e tab_ok L10 300 rfl (by trivial ) ?_
        refine AWP.idx e tab_ok rfl rfl rfl rfl j rfl hel ?_
        refine AWP.runL e tab_ok L10 300 rfl (by trivial ) ?_
        by_cases hk : v.kind = 0
        · have hb : (v.kind != 0) = false := by simp [hk]
          rw [if_pos hk, List.append_nil] at ny
          repeat (
            (refine AWP.askT rfl ?_; ( (refine Told.f ?_ ?_; (focus assumption)) ); refine AWP.runL e tab_ok L10 300 rfl (by  (simp [in64] <;> omega)) ?_)

            )
          refine AWP.less e ?_ ?_ ?_ ?_ ?_ ((ny D2)) <;> (repeat' (first | exact True.intro | (refine And.intro ?_ ?_) | rfl))
          · exact ct_ids _ _
          · exact dv_ids _ _
        · have hb : (v.kind != 0) = true := by simp [hk]
          rw [if_neg hk] at ny
          repeat (
            (refine AWP.askT rfl ?_; ( (refine Told.t ?_ ?_; (focus assumption)) ); refine AWP.runL e tab_ok L10 300 rfl (by trivial ) ?_)

            )
          refine AWP.append1 dvF out (snD (now + (q : Nat)) j v) e tab_ok rfl rfl rfl rfl rfl rfl rfl rfl rfl rfl rfl rfl rfl rfl (by show (_ + 1) * 64 ≤ _; omega) (by omega) fun C3 => ?_
          refine AWP.runL e tab_ok L10 300 rfl (by  (simp [in64] <;> omega)) ?_
          refine AWP.lessR e [(2, 11)] ?_ ?_ ?_ ?_ ?_ ?_ ((ny C3)) <;> (repeat' (first | exact True.intro | (refine And.intro ?_ ?_) | rfl))
          · exact ct_ids _ _
          · exact dv_ids _ _
      · have hlj : ¬ j < m := by have := of_decide_eq_false hlj; omega
        obtain rfl : j = m := by omega
        rw [List.take_of_length_le (by rw [hle]; exact Nat.le_refl _)]
        clear next
        have nx := nx C2 D2
        unfold runS at nx
        dsimp only [outF] at nx
        refine AWP.runL e tab_ok L10 300 rfl (by  (simp [in64] <;> omega)) ?_
        have hbx : now + (q : Nat) + 1 = now + ((q + 1 : Nat) : Int) := by push_cast; omega
        refine AWP.lessR e [(3, 6)] ?_ ?_ ?_ ?_ ?_ ?_ (nx) <;> (repeat' (first | exact True.intro | (refine And.intro ?_ ?_) | rfl))
        · show some (Blk.box [.own 6 23 0 _ C2, .i (now + (q : Nat) + 1)]) = some (Blk.box [.own 6 23 0 _ C2, .i (now + ((q + 1 : Nat) : Int))])
          rw [hbx]
        · exact dv_ids _ _
        · exact ct_ids _ _
    · have hlt : ¬ q < n := by have := of_decide_eq_false hlt; omega
      have hk : q ≤ n := hi
      obtain rfl : q = n := by omega
      clear next
      refine AWP.runL e tab_ok L10 300 rfl (by trivial ) ?_
      refine AWP.freezeF (id := 2) (outF now ev q) rfl ?_ rfl rfl ?_ ?_ ?_
      (focus (simp))
      (focus (first | (simp [lenFT, lenFH, lenF, lenF.go, tput, argT, strip, adel, Nat.beq, frzF, frzF.go]; done) ))
      (focus (first | (simp [lenFT, lenFH, lenF, lenF.go, tput, argT, strip, adel, Nat.beq, frzF, frzF.go]; done) ))
      refine AWP.lessR e [] (tm := [(6, .i 0), (5, .d (.sl 9 (outF now ev q))), (4, .ptr 1 0)]) (hp := [(1, .box [.own 3 23 0 m C, .i (now + (q : Nat))]), (3, .row 38 false 23 ((st q).map ctV) C)]) (nx := 4) ?_ ?_ ?_ ?_ ?_ ?_ ?_
      · exact ⟨rfl, rfl, rfl, trivial⟩
      · exact ⟨rfl, rfl, trivial⟩
      · rfl
      · exact ⟨rfl, rfl, rfl, ct_ids _ 0, trivial⟩
      · rfl
      · rfl
      refine AWP.ret e tab_ok rfl ?_
      rw [hP]
      exact ⟨C, Nat.zero_le _, rfl, rfl, rfl⟩
end Go.Proofs.YthdcegeampcalaaGreatDoor
