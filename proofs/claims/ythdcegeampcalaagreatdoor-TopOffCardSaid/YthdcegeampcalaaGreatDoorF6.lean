/-
  What is stuffed of a text, for every text of bits. Condition: what the theorems state ahead.
-/
import Derived.Test.YthdcegeampcalaaGreatDoorF5
open Go Go.Proofs Go.Sy Go.Stuff
namespace Go.Proofs.YthdcegeampcalaaGreatDoor
theorem well_len {l : List UInt8} (h : wellB l = true) : l.length ≤ 4000 := by unfold wellB at h; simp only [Bool.and_eq_true, decide_eq_true_eq] at h; exact h.1
theorem well_isB {l : List UInt8} (h : wellB l = true) : ∀ c ∈ l, isB c := fun c hc => by
  unfold wellB at h
  simp only [Bool.and_eq_true] at h
  exact bit_or (List.all_eq_true.1 h.2 c hc)
abbrev x0 : X := (0, 0)
abbrev sO (l : List UInt8) (i : Nat) : List UInt8 := stuffL x0 (l.take i)
abbrev sE (l : List UInt8) (i : Nat) : X := stuffE x0 (l.take i)
theorem sO_succ {l : List UInt8} {i : Nat} (h : i < l.length) : sO l (i + 1) = if (sst (sE l i) l[i]).2 = 5 then sO l i ++ [l[i]] ++ [oth l[i]] else sO l i ++ [l[i]] := by
  show stuffL x0 (l.take (i + 1)) = _
  rw [List.take_succ_eq_append_getElem h, stuffL_app]
  simp only [stuffL]
  split <;> simp
theorem sE_succ {l : List UInt8} {i : Nat} (h : i < l.length) : sE l (i + 1) = if (sst (sE l i) l[i]).2 = 5 then sst (sst (sE l i) l[i]) (oth l[i]) else sst (sE l i) l[i] := by
  show stuffE x0 (l.take (i + 1)) = _
  rw [List.take_succ_eq_append_getElem h, stuffE_app]
  simp only [stuffE]

set_option maxRecDepth 100000 in
theorem stuff_bad (l : List UInt8) (hw : wellB l = false) : Eff Tryz.prog 21 [.s (strL l)] [] 0 (fun r _ _ => r = .tup [.s ⟨#[]⟩, .i 1]) := by
  have c1 := right_eff l
  rw [hw] at c1
  refine eff_of Tryz.func21 rfl rfl rfl fun cx e hP => ?_
  refine AWP.runL e tab_ok L21 300 rfl (by trivial ) ?_
  repeat (
    first
      | (refine AWP.askT rfl ?_; ((refine Told.t rfl ?_) ); refine AWP.runL e tab_ok L21 300 rfl (by trivial ) ?_)
      | (refine AWP.callQ e rfl rfl ?_; (first | refine CallQ.mk (c1) rfl rfl ?_); refine AWP.runL e tab_ok L21 300 rfl (by trivial ) ?_)

    )
  refine AWP.ret e tab_ok rfl ?_
  rw [hP]
  all_goals rfl
def stuffR (l : List UInt8) : SV := if 4000 < (stuffL x0 l).length then .tup [.s ⟨#[]⟩, .i 2] else .tup [.s (strL (stuffL x0 l)), .i 0]
abbrev sT (l : List UInt8) (i : Nat) : List (Nat × SV) := [(16, .i i), (15, .i l.length), (6, .fn (.func 37) [] [.ptr 2 0, .ptr 0 0]), (5, .ptr 2 0), (4, .ptr 0 0), (0, .s (strL l))]
abbrev sH (o : List UInt8) (x : X) (C : Nat) : List (Nat × Blk) := [(0, .box [.own 3 1 0 o.length C]), (1, .box [U x.1, .i x.2]), (2, .box [.ptr 1 0]), (3, .row 5 false 1 (o.map u8S) C)]
set_option maxRecDepth 100000 in
set_option maxHeartbeats 2000000 in
theorem stuff_ok (l : List UInt8) (hw : wellB l = true) : Eff Tryz.prog 21 [.s (strL l)] [] 0 (fun r _ _ => r = stuffR l) := by
  have c1 := right_eff l
  rw [hw] at c1
  have hl := well_len hw
  have hB := well_isB hw
  have hsz : (strL l).size = l.length := strL_size l
  refine eff_of Tryz.func21 rfl rfl rfl fun cx e hP => ?_
  refine AWP.runL e tab_ok L21 300 rfl (by trivial ) ?_
  repeat (
    first
      | (refine AWP.askT rfl ?_; ( (refine Told.f rfl ?_) ); refine AWP.runL e tab_ok L21 300 rfl (by trivial ) ?_)
      | (refine AWP.callQ e rfl rfl ?_; (first | refine CallQ.mk (c1) rfl rfl ?_); refine AWP.runL e tab_ok L21 300 rfl (by trivial ) ?_)

    )
  refine AWP.nilB 0 0 5 1 rfl rfl ?_
  rw [hsz]
  refine AWP.loop (ι := Nat × Nat) (fun x => ⟨sT l x.1, sH (sO l x.1) (sE l x.1) x.2, 4⟩) (fun x => x.1 ≤ l.length) (fun x => l.length - x.1) (0, 0) (Nat.zero_le _) ?_ ?_
  · intro g
    refine AWP.less e ?_ ?_ ?_ ?_ ?_ (g) <;> (repeat' (first | exact True.intro | (refine And.intro ?_ ?_) | rfl))
    exact u8_ids _ 4
  rintro ⟨i, C⟩ Φ hi next
  dsimp only at hi next ⊢
  have hE4 : (sE l i).2 ≤ 4 := stuffE_le _ _ (by decide) fun c hc => hB c (List.mem_of_mem_take hc)
  have hOl : (sO l i).length ≤ 5000 := by
    have h1 := (stuff_len (l.take i) x0 (by decide) fun c hc => hB c (List.mem_of_mem_take hc)).2
    have h2 : (l.take i).length ≤ l.length := by simp; omega
    have h3 : x0.2 = 0 := rfl
    show (stuffL x0 (l.take i)).length ≤ 5000
    omega
  refine AWP.runL e tab_ok L21 300 rfl (by trivial ) ?_
  refine AWP.cond2 rfl (fun hlt => ?_) (fun hlt => ?_)
  · have hlt : i < l.length := by have := of_decide_eq_true hlt; omega
    have nx := fun C2 => next (i + 1, C2) hlt (by show l.length - (i + 1) < l.length - i; omega)
    dsimp only at nx
    rw [sO_succ hlt, sE_succ hlt] at nx
    have hb : byteAt (strL l) i = ((l[i]).toNat : Int) := by
      unfold byteAt
      rw [strL_data, Int.toNat_natCast, List.getD_eq_getElem?_getD, List.getElem?_eq_getElem hlt]
      rfl
    have hci := hB l[i] (List.getElem_mem hlt)
    have c2 := other_eff l[i]
    clear next
    generalize l[i] = c at *
    generalize sO l i = o at *
    generalize sE l i = x at *
    obtain ⟨b, n⟩ := x
    have hE4 : n ≤ 4 := hE4
    have h1 := u_eq c b
    refine AWP.runL e tab_ok L21 300 rfl (by  (simp [in64] <;> omega)) ?_
    refine AWP.eqT 22 (U c) rfl (congrArg (fun z => SV.d (.v (.int .u8 z))) hb) ?_
    rcases cases_b (c == b) with g | g <;> rw [g] at h1
    · obtain rfl : c = b := by simpa using g
      by_cases h4 : n = 4
      · subst h4
        have e1 : sst (c, 4) c = (c, 5) := by unfold sst; rw [if_neg (show ¬ (4 : Nat) = 5 by decide), if_pos rfl]
        have e2 : sst (c, 5) (oth c) = (oth c, 1) := sst_oth hci
        have h3 : (((oth c).toNat : Int) == (c.toNat : Int)) = false := by rw [u_eq]; exact beq_eq_false_iff_ne.2 (oth_ne hci)
        have nx := fun C2 => nx C2
        simp only [e1, e2, if_true] at nx
        refine AWP.enter e rfl Tryz.func37 rfl rfl rfl rfl fun cx' e' hP' => ?_
        refine AWP.runL e' tab_ok L37 300 rfl (by trivial ) ?_
        refine AWP.enter e' rfl Tryz.func38 rfl rfl rfl rfl fun cx'' e'' hP'' => ?_
        refine AWP.runL e'' tab_ok L38 300 rfl (by trivial ) ?_
        repeat (
          (refine AWP.askT rfl ?_; (first | (refine Told.f rfl ?_) | (refine Told.t ?_ ?_; (focus assumption)) ); refine AWP.runL e'' tab_ok L38 300 rfl (by first | trivial | (simp [in64] <;> omega)) ?_)

          )
        ((refine AWP.ret e'' tab_ok rfl ?_)); rw [hP'']; show AWP cx' _ _
        refine AWP.runL e' tab_ok L37 300 rfl (by trivial ) ?_
        refine AWP.append1 u8S o c e' tab_ok rfl rfl rfl rfl rfl rfl rfl rfl rfl rfl rfl rfl rfl rfl (by show (_ + 1) * 1 ≤ _; (try simp only [List.length_append, List.length_singleton]); omega) (by (try simp only [List.length_append, List.length_singleton]); omega) fun C2 => ?_
        refine AWP.runL e' tab_ok L37 300 rfl (by trivial ) ?_
        ( (refine AWP.fin e' tab_ok rfl ?_)); rw [hP']; show AWP cx _ _
        refine AWP.runL e tab_ok L21 300 rfl (by trivial ) ?_
        repeat (
          (refine AWP.askT rfl ?_; ((refine Told.t rfl ?_) ); refine AWP.runL e tab_ok L21 300 rfl (by  (simp [in64] <;> omega)) ?_)

          )
        refine AWP.eqT 33 (U c) rfl (congrArg (fun z => SV.d (.v (.int .u8 z))) hb) ?_
        repeat (

            (refine AWP.callQ e rfl rfl ?_; (first | refine CallQ.mk (c2) rfl rfl ?_); refine AWP.runL e tab_ok L21 300 rfl (by trivial ) ?_)

          )
        refine AWP.enter e rfl Tryz.func37 rfl rfl rfl rfl fun cx' e' hP' => ?_
        refine AWP.runL e' tab_ok L37 300 rfl (by trivial ) ?_
        refine AWP.enter e' rfl Tryz.func38 rfl rfl rfl rfl fun cx'' e'' hP'' => ?_
        refine AWP.runL e'' tab_ok L38 300 rfl (by trivial ) ?_
        repeat (
          (refine AWP.askT rfl ?_; (first | (refine Told.t rfl ?_) | (refine Told.f ?_ ?_; (focus assumption)) ); refine AWP.runL e'' tab_ok L38 300 rfl (by trivial ) ?_)

          )
        ((refine AWP.ret e'' tab_ok rfl ?_)); rw [hP'']; show AWP cx' _ _
        refine AWP.runL e' tab_ok L37 300 rfl (by trivial ) ?_
        refine AWP.append1 u8S (o ++ [c]) (oth c) e' tab_ok rfl rfl rfl rfl rfl rfl rfl rfl rfl rfl rfl rfl rfl rfl (by show (_ + 1) * 1 ≤ _; (try simp only [List.length_append, List.length_singleton]); omega) (by (try simp only [List.length_append, List.length_singleton]); omega) fun C2 => ?_
        refine AWP.runL e' tab_ok L37 300 rfl (by trivial ) ?_
        ( (refine AWP.fin e' tab_ok rfl ?_)); rw [hP']; show AWP cx _ _
        refine AWP.runL e tab_ok L21 300 rfl (by  (simp [in64] <;> omega)) ?_
        refine AWP.lessR e [(3, 7)] ?_ ?_ ?_ ?_ ?_ ?_ ((nx C2)) <;> (repeat' (first | exact True.intro | (refine And.intro ?_ ?_) | rfl))
        exact u8_ids _ 0
      · have e1 : sst (c, n) c = (c, n + 1) := by unfold sst; rw [if_neg (show ¬ n = 5 by omega), if_pos rfl]
        simp only [e1, show ¬ n + 1 = 5 by omega, if_false] at nx
        refine AWP.enter e rfl Tryz.func37 rfl rfl rfl rfl fun cx' e' hP' => ?_
        refine AWP.runL e' tab_ok L37 300 rfl (by trivial ) ?_
        refine AWP.enter e' rfl Tryz.func38 rfl rfl rfl rfl fun cx'' e'' hP'' => ?_
        refine AWP.runL e'' tab_ok L38 300 rfl (by trivial ) ?_
        repeat (
          (refine AWP.askT rfl ?_; (first | (refine Told.t ?_ ?_; (focus assumption)) | (refine Told.f ?_ ?_; (focus ((simp; omega)); done))); refine AWP.runL e'' tab_ok L38 300 rfl (by first | trivial | (simp [in64] <;> omega)) ?_)

          )
        ((refine AWP.ret e'' tab_ok rfl ?_)); rw [hP'']; show AWP cx' _ _
        refine AWP.runL e' tab_ok L37 300 rfl (by trivial ) ?_
        refine AWP.append1 u8S o c e' tab_ok rfl rfl rfl rfl rfl rfl rfl rfl rfl rfl rfl rfl rfl rfl (by show (_ + 1) * 1 ≤ _; (try simp only [List.length_append, List.length_singleton]); omega) (by (try simp only [List.length_append, List.length_singleton]); omega) fun C2 => ?_
        refine AWP.runL e' tab_ok L37 300 rfl (by trivial ) ?_
        ( (refine AWP.fin e' tab_ok rfl ?_)); rw [hP']; show AWP cx _ _
        refine AWP.runL e tab_ok L21 300 rfl (by trivial ) ?_
        repeat (
          (refine AWP.askT rfl ?_; ( (refine Told.f ?_ ?_; (focus ((simp; omega)); done))); refine AWP.runL e tab_ok L21 300 rfl (by  (simp [in64] <;> omega)) ?_)

          )
        refine AWP.lessR e [(3, 5)] ?_ ?_ ?_ ?_ ?_ ?_ ((nx C2)) <;> (repeat' (first | exact True.intro | (refine And.intro ?_ ?_) | rfl))
        exact u8_ids _ 0
    · have gb : ¬ c = b := by simpa using g
      have e1 : sst (b, n) c = (c, 1) := by unfold sst; rw [if_neg (show ¬ n = 5 by omega), if_neg gb]
      simp only [e1, show ¬ (1 : Nat) = 5 by decide, if_false] at nx
      refine AWP.enter e rfl Tryz.func37 rfl rfl rfl rfl fun cx' e' hP' => ?_
      refine AWP.runL e' tab_ok L37 300 rfl (by trivial ) ?_
      refine AWP.enter e' rfl Tryz.func38 rfl rfl rfl rfl fun cx'' e'' hP'' => ?_
      refine AWP.runL e'' tab_ok L38 300 rfl (by trivial ) ?_
      repeat (
        (refine AWP.askT rfl ?_; (first | (refine Told.f ?_ ?_; (focus assumption)) | (refine Told.f ?_ ?_; (focus ((simp; omega)); done))); refine AWP.runL e'' tab_ok L38 300 rfl (by trivial ) ?_)

        )
      ((refine AWP.ret e'' tab_ok rfl ?_)); rw [hP'']; show AWP cx' _ _
      refine AWP.runL e' tab_ok L37 300 rfl (by trivial ) ?_
      refine AWP.append1 u8S o c e' tab_ok rfl rfl rfl rfl rfl rfl rfl rfl rfl rfl rfl rfl rfl rfl (by show (_ + 1) * 1 ≤ _; (try simp only [List.length_append, List.length_singleton]); omega) (by (try simp only [List.length_append, List.length_singleton]); omega) fun C2 => ?_
      refine AWP.runL e' tab_ok L37 300 rfl (by trivial ) ?_
      ( (refine AWP.fin e' tab_ok rfl ?_)); rw [hP']; show AWP cx _ _
      refine AWP.runL e tab_ok L21 300 rfl (by trivial ) ?_
      repeat (
        (refine AWP.askT rfl ?_; ( (refine Told.f rfl ?_) ); refine AWP.runL e tab_ok L21 300 rfl (by  (simp [in64] <;> omega)) ?_)

        )
      refine AWP.lessR e [(3, 5)] ?_ ?_ ?_ ?_ ?_ ?_ ((nx C2)) <;> (repeat' (first | exact True.intro | (refine And.intro ?_ ?_) | rfl))
      exact u8_ids _ 0
  · have hlt : ¬ i < l.length := by have := of_decide_eq_false hlt; omega
    obtain rfl : i = l.length := by omega
    have ho : sO l l.length = stuffL x0 l := by show stuffL x0 (l.take l.length) = _; rw [List.take_length]
    rw [ho] at hOl ⊢
    unfold stuffR at hP
    clear next
    generalize stuffL x0 l = o at *
    by_cases h4 : 4000 < o.length
    · rw [if_pos h4] at hP
      refine AWP.runL e tab_ok L21 300 rfl (by trivial ) ?_
      repeat (
        (refine AWP.askT rfl ?_; ( (refine Told.t ?_ ?_; (focus ((simp; omega)); done))); refine AWP.runL e tab_ok L21 300 rfl (by trivial ) ?_)

        )
      refine AWP.ret e tab_ok rfl ?_
      rw [hP]
      all_goals rfl
    · rw [if_neg h4] at hP
      refine AWP.runL e tab_ok L21 300 rfl (by trivial ) ?_
      repeat (
        (refine AWP.askT rfl ?_; ( (refine Told.f ?_ ?_; (focus ((simp; omega)); done))); refine AWP.runL e tab_ok L21 300 rfl (by trivial ) ?_)

        )
      refine AWP.bytesStr e tab_ok o rfl rfl rfl rfl rfl rfl rfl rfl rfl rfl ?_ ?_
      · intro q b hb
        rw [Nat.zero_add, List.getElem?_map, hb]
        rfl
      refine AWP.runL e tab_ok L21 300 rfl (by trivial ) ?_
      refine AWP.ret e tab_ok rfl ?_
      rw [hP]
      all_goals rfl

end Go.Proofs.YthdcegeampcalaaGreatDoor
