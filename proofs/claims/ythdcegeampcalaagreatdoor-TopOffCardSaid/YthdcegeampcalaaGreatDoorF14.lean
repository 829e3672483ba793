/-
  How many bits a frame's head has, for every text of bits. Condition: what the theorems state ahead.
-/
import Derived.Test.YthdcegeampcalaaGreatDoorF13
open Go Go.Proofs Go.Sy Go.Stuff
namespace Go.Proofs.YthdcegeampcalaaGreatDoor
theorem str_ext (l : List UInt8) (i j : Nat) : (strL l).extract i j = strL ((l.take j).drop i) := by
  apply ByteArray.ext
  simp [strL, List.drop_take]
/-- How many bits a head has, as its first bits tell. -/
def extS (s : List UInt8) : Bool := s.getD 13 0 == 49
def fixS (s : List UInt8) : Nat := bif extS s then 39 else 19
def askS (s : List UInt8) : Bool := s.getD (bif extS s then 32 else 12) 0 == 49
def dlcS (s : List UInt8) : BitVec 64 := numOf ((s.take (fixS s)).drop (fixS s - 4))
def sizeL (s : List UInt8) : Int × Int :=
  if s.length < 14 then (0, 3) else if s.length < fixS s then (0, 3) else if 8 < (dlcS s).toNat then (0, 12) else if askS s then (fixS s, 0) else (fixS s + 8 * (dlcS s).toNat, 0)
theorem wellB_sub {l m : List UInt8} (h : wellB l = true) (hm : ∀ b ∈ m, b ∈ l) (hl : m.length ≤ l.length) : wellB m = true := by
  unfold wellB at *
  simp only [Bool.and_eq_true, decide_eq_true_eq] at *
  exact ⟨by omega, List.all_eq_true.2 fun b hb => List.all_eq_true.1 h.2 b (hm b hb)⟩
set_option maxRecDepth 100000 in
set_option maxHeartbeats 2000000 in
theorem size_eff (l : List UInt8) (hw : wellB l = true) : Eff Tryz.prog 44 [.s (strL l)] [] 0 (fun r _ _ => r = .tup [.i (sizeL l).1, .i (sizeL l).2]) := by
  have c1 := right_eff l
  rw [hw] at c1
  have hsz : (strL l).size = l.length := strL_size l
  unfold sizeL
  refine eff_of Tryz.func44 rfl rfl rfl fun cx e hP => ?_
  by_cases h1 : l.length < 14
  · rw [if_pos h1] at hP
    refine AWP.runL e tab_ok L44 300 rfl (by trivial ) ?_
    repeat (
      first
        | (refine AWP.askT rfl ?_; (first | (refine Told.f rfl ?_) | (refine Told.t ?_ ?_; (focus ((simp; omega)); done))); refine AWP.runL e tab_ok L44 300 rfl (by trivial ) ?_)
        | (refine AWP.callQ e rfl rfl ?_; (first | refine CallQ.mk (c1) rfl rfl ?_); refine AWP.runL e tab_ok L44 300 rfl (by trivial ) ?_)

      )
    refine AWP.ret e tab_ok rfl ?_
    rw [hP]
    all_goals rfl
  rw [if_neg h1] at hP
  have hb := b_at l 13 (by omega)
  have hq13 : (byteAt (strL l) 13 == 49) = extS l := by
    rw [show byteAt (strL l) 13 = ((l[13]'(by omega)).toNat : Int) from hb]
    unfold extS
    rw [List.getD_eq_getElem?_getD, List.getElem?_eq_getElem (by omega)]
    exact u_eq _ 49
  clear hb
  unfold dlcS fixS askS at hP
  rcases cases_b (extS l) with g | g <;> rw [g] at hP hq13 <;> simp only [cond_true, cond_false] at hP
  · refine AWP.runL e tab_ok L44 300 rfl (by trivial ) ?_
    repeat (
      first
        | (refine AWP.askT rfl ?_; (first | (refine Told.f rfl ?_) | (refine Told.t ?_ ?_; (focus assumption)) | (refine Told.f ?_ ?_; (focus ((simp; omega)); done))); refine AWP.runL e tab_ok L44 300 rfl (by first | trivial | (simp [in64] <;> omega)) ?_)
        | (refine AWP.callQ e rfl rfl ?_; (first | refine CallQ.mk (c1) rfl rfl ?_); refine AWP.runL e tab_ok L44 300 rfl (by trivial ) ?_)

      )
    have hl2 : ((l.take 39).drop (39 - 4)).length = 4 ∨ l.length < 39 := by simp only [List.length_drop, List.length_take]; omega
    by_cases h2 : l.length < 39
    · rw [if_pos h2] at hP
      refine AWP.runL e tab_ok L44 300 rfl (by trivial ) ?_
      repeat (
        (refine AWP.askT rfl ?_; ( (refine Told.t ?_ ?_; (focus ((simp; omega)); done))); refine AWP.runL e tab_ok L44 300 rfl (by trivial ) ?_)

        )
      refine AWP.ret e tab_ok rfl ?_
      rw [hP]
      all_goals rfl
    rw [if_neg h2] at hP
    have c2 := num_ok ((l.take 39).drop (39 - 4)) (wellB_sub hw (fun b hb => List.mem_of_mem_take (List.mem_of_mem_drop hb)) (by simp only [List.length_drop, List.length_take]; omega)) (by simp only [List.length_drop, List.length_take]; omega)
    have hx := str_ext l (39 - 4) 39
    have ha := b_at l 32 (by omega)
    have hq : (byteAt (strL l) 32 == 49) = (l.getD 32 0 == 49) := by
      rw [show byteAt (strL l) 32 = ((l[32]'(by omega)).toNat : Int) from ha, List.getD_eq_getElem?_getD, List.getElem?_eq_getElem (by omega)]
      exact u_eq _ 49
    clear ha
    generalize numOf ((l.take 39).drop (39 - 4)) = n at *
    generalize (l.take 39).drop (39 - 4) = m at *
    generalize (l.getD 32 0 == 49) = ask at *
    refine AWP.runL e tab_ok L44 300 rfl (by trivial ) ?_
    repeat (
      (refine AWP.askT rfl ?_; ( (refine Told.f ?_ ?_; (focus ((simp; omega)); done))); refine AWP.runL e tab_ok L44 300 rfl (by  (simp [in64] <;> omega)) ?_)

      )
    refine AWP.eqT 26 (.s (strL m)) rfl (congrArg SV.s hx) ?_
    repeat (

        (refine AWP.callQ e rfl rfl ?_; (first | refine CallQ.mk (c2) rfl rfl ?_); refine AWP.runL e tab_ok L44 300 rfl (by trivial ) ?_)

      )
    by_cases h3 : 8 < n.toNat
    · rw [if_pos h3] at hP
      have h3' : decide ((n.toNat : Int) > 8) = true := by simp; omega
      refine AWP.runL e tab_ok L44 300 rfl (by trivial ) ?_
      repeat (
        (refine AWP.askT rfl ?_; ( (refine Told.t ?_ ?_; (focus assumption)) ); refine AWP.runL e tab_ok L44 300 rfl (by trivial ) ?_)

        )
      refine AWP.ret e tab_ok rfl ?_
      rw [hP]
      all_goals rfl
    rw [if_neg h3] at hP
    have h3' : decide ((n.toNat : Int) > 8) = false := by simp; omega
    have hn : IntKind.wrap .i64 (n.toNat : Int) = (n.toNat : Int) := wrap64_in (by omega)
    cases ask
    · rw [if_neg (by decide)] at hP
      refine AWP.runL e tab_ok L44 300 rfl (by trivial ) ?_
      repeat (
        (refine AWP.askT rfl ?_; ( (refine Told.f ?_ ?_; (focus assumption)) ); refine AWP.runL e tab_ok L44 300 rfl (by  (simp [in64] <;> omega)) ?_)

        )
      refine AWP.ret e tab_ok rfl ?_
      rw [hP]
      all_goals rfl
    · rw [if_pos rfl] at hP
      refine AWP.runL e tab_ok L44 300 rfl (by trivial ) ?_
      repeat (
        (refine AWP.askT rfl ?_; (first | (refine Told.t ?_ ?_; (focus assumption)) | (refine Told.f ?_ ?_; (focus assumption)) ); refine AWP.runL e tab_ok L44 300 rfl (by first | trivial | (simp [in64] <;> omega)) ?_)

        )
      refine AWP.ret e tab_ok rfl ?_
      rw [hP]
      all_goals rfl
  · refine AWP.runL e tab_ok L44 300 rfl (by trivial ) ?_
    repeat (
      first
        | (refine AWP.askT rfl ?_; (first | (refine Told.f rfl ?_) | (refine Told.f ?_ ?_; (focus assumption)) | (refine Told.f ?_ ?_; (focus ((simp; omega)); done))); refine AWP.runL e tab_ok L44 300 rfl (by first | trivial | (simp [in64] <;> omega)) ?_)
        | (refine AWP.callQ e rfl rfl ?_; (first | refine CallQ.mk (c1) rfl rfl ?_); refine AWP.runL e tab_ok L44 300 rfl (by trivial ) ?_)

      )
    have hl2 : ((l.take 19).drop (19 - 4)).length = 4 ∨ l.length < 19 := by simp only [List.length_drop, List.length_take]; omega
    by_cases h2 : l.length < 19
    · rw [if_pos h2] at hP
      refine AWP.runL e tab_ok L44 300 rfl (by trivial ) ?_
      repeat (
        (refine AWP.askT rfl ?_; ( (refine Told.t ?_ ?_; (focus ((simp; omega)); done))); refine AWP.runL e tab_ok L44 300 rfl (by trivial ) ?_)

        )
      refine AWP.ret e tab_ok rfl ?_
      rw [hP]
      all_goals rfl
    rw [if_neg h2] at hP
    have c2 := num_ok ((l.take 19).drop (19 - 4)) (wellB_sub hw (fun b hb => List.mem_of_mem_take (List.mem_of_mem_drop hb)) (by simp only [List.length_drop, List.length_take]; omega)) (by simp only [List.length_drop, List.length_take]; omega)
    have hx := str_ext l (19 - 4) 19
    have ha := b_at l 12 (by omega)
    have hq : (byteAt (strL l) 12 == 49) = (l.getD 12 0 == 49) := by
      rw [show byteAt (strL l) 12 = ((l[12]'(by omega)).toNat : Int) from ha, List.getD_eq_getElem?_getD, List.getElem?_eq_getElem (by omega)]
      exact u_eq _ 49
    clear ha
    generalize numOf ((l.take 19).drop (19 - 4)) = n at *
    generalize (l.take 19).drop (19 - 4) = m at *
    generalize (l.getD 12 0 == 49) = ask at *
    refine AWP.runL e tab_ok L44 300 rfl (by trivial ) ?_
    repeat (
      (refine AWP.askT rfl ?_; ( (refine Told.f ?_ ?_; (focus ((simp; omega)); done))); refine AWP.runL e tab_ok L44 300 rfl (by  (simp [in64] <;> omega)) ?_)

      )
    refine AWP.eqT 26 (.s (strL m)) rfl (congrArg SV.s hx) ?_
    repeat (

        (refine AWP.callQ e rfl rfl ?_; (first | refine CallQ.mk (c2) rfl rfl ?_); refine AWP.runL e tab_ok L44 300 rfl (by trivial ) ?_)

      )
    by_cases h3 : 8 < n.toNat
    · rw [if_pos h3] at hP
      have h3' : decide ((n.toNat : Int) > 8) = true := by simp; omega
      refine AWP.runL e tab_ok L44 300 rfl (by trivial ) ?_
      repeat (
        (refine AWP.askT rfl ?_; ( (refine Told.t ?_ ?_; (focus assumption)) ); refine AWP.runL e tab_ok L44 300 rfl (by trivial ) ?_)

        )
      refine AWP.ret e tab_ok rfl ?_
      rw [hP]
      all_goals rfl
    rw [if_neg h3] at hP
    have h3' : decide ((n.toNat : Int) > 8) = false := by simp; omega
    have hn : IntKind.wrap .i64 (n.toNat : Int) = (n.toNat : Int) := wrap64_in (by omega)
    cases ask
    · rw [if_neg (by decide)] at hP
      refine AWP.runL e tab_ok L44 300 rfl (by trivial ) ?_
      repeat (
        (refine AWP.askT rfl ?_; ( (refine Told.f ?_ ?_; (focus assumption)) ); refine AWP.runL e tab_ok L44 300 rfl (by  (simp [in64] <;> omega)) ?_)

        )
      refine AWP.ret e tab_ok rfl ?_
      rw [hP]
      all_goals rfl
    · rw [if_pos rfl] at hP
      refine AWP.runL e tab_ok L44 300 rfl (by trivial ) ?_
      repeat (
        (refine AWP.askT rfl ?_; (first | (refine Told.t ?_ ?_; (focus assumption)) | (refine Told.f ?_ ?_; (focus assumption)) ); refine AWP.runL e tab_ok L44 300 rfl (by first | trivial | (simp [in64] <;> omega)) ?_)

        )
      refine AWP.ret e tab_ok rfl ?_
      rw [hP]
      all_goals rfl
end Go.Proofs.YthdcegeampcalaaGreatDoor
