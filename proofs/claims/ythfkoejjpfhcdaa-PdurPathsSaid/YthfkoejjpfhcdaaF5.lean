import Derived.Test.YthfkoejjpfhcdaaF4
open Go Go.Proofs Go.Sy
namespace Go.Proofs.Ythfkoejjpfhcdaa

def cutW (p : Way) : Way := { p with its := p.its.take 20 }
/-- The first i are cut. -/
def cutTo (l : List Way) (i : Nat) : List Way := (l.take i).map cutW ++ l.drop i
theorem cutTo_len (l : List Way) (i : Nat) : (cutTo l i).length = l.length := by unfold cutTo; simp; omega
theorem cutTo_at {l : List Way} {i : Nat} (h : i < l.length) : (cutTo l i)[i]? = some l[i] := by
  unfold cutTo
  rw [List.getElem?_append_right (by simp; omega)]
  simp [Nat.min_eq_left (Nat.le_of_lt h), h]
theorem cutTo_set {l : List Way} {i : Nat} (h : i < l.length) : (cutTo l i).set i (cutW l[i]) = cutTo l (i + 1) := by
  unfold cutTo
  rw [List.set_append_right _ _ (by simp; omega)]
  simp only [List.length_map, List.length_take, Nat.min_eq_left (Nat.le_of_lt h), Nat.sub_self]
  rw [List.drop_eq_getElem_cons h, List.set_cons_zero, List.take_succ_eq_append_getElem h, List.map_append, List.append_assoc]
  rfl
theorem cutTo_end (l : List Way) : cutTo l l.length = l.map cutW := by unfold cutTo; simp
abbrev rowP (l : List Way) : List (List SV) := (l.map pD).map (·.map SV.d)
theorem rowP_cells (l : List Way) : ∀ e ∈ rowP l, allCells e = true := by
  intro e he
  simp only [rowP, List.map_map, List.mem_map] at he
  obtain ⟨v, _, rfl⟩ := he
  rfl
theorem rowP_ok (n : Nat) (l : List Way) : ∀ e ∈ rowP l, SV.idsLt.go n e = true := okEls n _
set_option maxRecDepth 100000 in
set_option maxHeartbeats 2000000 in
theorem few_eff (ps : List Way) (on : List Bool) (hps : ps.length ≤ 9223372036854775807) (hon : on.length ≤ 9223372036854775807) : Eff Try.prog 5 [rtr ps on] [] 0 (fun r _ _ => r = rtr ((ps.take 18).map cutW) (on.take 10)) := by
  have hsz : (ps.map pD).length = ps.length := List.length_map _
  have hsb : (onD on).length = on.length := List.length_map _
  have hE : List.drop ((none : Option Int).getD 0).toNat (List.take ((some (if (18 : Int) < ((ps.map pD).length : Int) then (18 : Int) else ((ps.map pD).length : Int))).getD ((ps.map pD).length : Int)).toNat (ps.map pD)) = (ps.take 18).map pD := take_map pD 18 ps (by decide)
  have hE2 : List.drop ((none : Option Int).getD 0).toNat (List.take ((some (if (10 : Int) < ((onD on).length : Int) then (10 : Int) else ((onD on).length : Int))).getD ((onD on).length : Int)).toNat (onD on)) = onD (on.take 10) := take_map (fun b => [.v (.bool b)]) 10 on (by decide)
  refine eff_of Try.func5 rfl rfl rfl fun cx e hP => ?_
  refine AWP.runL e tab_ok L5 300 rfl (by first | trivial | (simp [in64] <;> omega) | (simp only [in64, true_and, and_true]; omega)) ?_
  refine AWP.keep L5 rfl ?_
  refine AWP.drc 100 ?_
  refine DrC.row 10 e tab_ok rfl rfl (fun c => rfl) rfl rfl rfl ?_
  repeat (
    first
      | (refine DrC.v rfl (fun c _ => VStep.ev e tab_ok rfl rfl ?_) (fun c => rfl) ?_; (focus (first | assumption | with_reducible trivial | rfl | (simp; omega) | (simp [in64]; omega) | (simp [*]; done))))
      | (refine DrC.load e tab_ok rfl (fun c => rfl) rfl (fun c => rfl) (fun c => rfl) (fun c => rfl) ?_)
      | (refine DrC.store e tab_ok rfl (fun c => rfl) (fun c => rfl) rfl (fun c => rfl) (fun c => rfl) (fun c => rfl) (fun c => rfl) (fun c => rfl) (fun c => rfl) rfl ?_)
    )
  refine DrC.append 11 e tab_ok rfl (fun c => rfl) (fun c => rfl) (fun c => rfl) rfl rfl rfl (fun _ => .sl _) rfl (by rw [hE]; exact rowP_cells _) (by rw [hE]; simp; omega) (by rw [hE]; simp; omega) rfl rfl (by rw [hE]; exact rowP_ok 0 _) rfl ?_
  repeat (
    first
      | (refine DrC.v rfl (fun c _ => VStep.ev e tab_ok rfl rfl ?_) (fun c => rfl) ?_; (focus (first | assumption | with_reducible trivial | rfl | (simp; omega) | (simp [in64]; omega) | (simp [*]; done))))
      | (refine DrC.load e tab_ok rfl (fun c => rfl) rfl (fun c => rfl) (fun c => rfl) (fun c => rfl) ?_)
      | (refine DrC.store e tab_ok rfl (fun c => rfl) (fun c => rfl) rfl (fun c => rfl) (fun c => rfl) (fun c => rfl) (fun c => rfl) (fun c => rfl) (fun c => rfl) rfl ?_)
    )
  refine DrC.fin e rfl ?_ (fun c => rfl) rfl rfl ?_ ?_ (fun cp => ?_)
  (focus (intro c; kernel_rfl))
  (focus (repeat' (first | exact True.intro | (refine And.intro ?_ ?_) | rfl | assumption | exact okRow _)))
  (focus (repeat' (first | exact True.intro | (refine And.intro (fun c C => ?_) ?_)) <;> (repeat' (first | exact All2.nil | (refine All2.cons ⟨rfl, ?_⟩ ?_) | exact Or.inr rfl | (refine Or.inl ?_; kernel_rfl)))))
  dsimp only [tmS, hpS, tput, effH]
  obtain ⟨l, hl⟩ : ∃ l, l = ps.take 18 := ⟨_, rfl⟩
  obtain ⟨o, ho⟩ : ∃ o, o = on.take 10 := ⟨_, rfl⟩
  obtain ⟨C, hC⟩ : ∃ C, C = cp 8 := ⟨_, rfl⟩
  have hll : l.length ≤ 18 := by rw [hl]; simp; omega
  rw [← hl] at hE hP
  rw [← ho] at hE2 hP
  refine AWP.lessR e [] (tm := [(2, .ptr 1 0), (1, .ptr 0 0)]) (hp := [(0, .box [.own 11 6 0 l.length C, slB o]), (1, .box [.d .nil, .d .nil]), (11, .row 38 false 6 (rowP l) C)]) (nx := 12) ?_ ?_ ?_ ?_ ?_ ?_ ?_
  · exact ⟨rfl, rfl, trivial⟩
  · refine ⟨?_, rfl, ?_, trivial⟩
    · refine congrArg (fun z => some (Blk.box z)) ?_
      have h1 : ((List.map (fun x => List.map SV.d x) (List.drop ((none : Option Int).getD 0).toNat (List.take ((some (if (18 : Int) < ((ps.map pD).length : Int) then (18 : Int) else ((ps.map pD).length : Int))).getD ((ps.map pD).length : Int)).toNat (ps.map pD)))).length) = l.length := by rw [hE]; simp
      show [SV.own 11 6 0 (0 + _) (cp 8), SV.d (.sl 1 _)] = _
      rw [h1, hE2, hC, Nat.zero_add]
      rfl
    · refine congrArg some ?_
      show Blk.row 38 false 6 ([] ++ List.map (fun x => List.map SV.d x) _) (cp 8) = _
      rw [hE, hC]
      rfl
  · rfl
  · exact ⟨rfl, rfl, rfl, rfl, rfl, okRow _, trivial⟩
  · rfl
  · rfl
  clear hE hE2 hl ho hsz hsb hps hon hC
  refine AWP.runL e tab_ok L5 300 rfl (by first | trivial | (simp [in64] <;> omega) | (simp only [in64, true_and, and_true]; omega)) ?_
  refine AWP.loop (ι := Nat) (fun i => ⟨[(26, .i i), (25, .i l.length), (24, .own 11 6 0 l.length C), (2, .ptr 1 0), (1, .ptr 0 0)], [(0, .box [.own 11 6 0 l.length C, slB o]), (1, .box [.d .nil, .d .nil]), (11, .row 38 false 6 (rowP (cutTo l i)) C)], 12⟩) (fun i => i ≤ l.length) (fun i => l.length - i) 0 (Nat.zero_le _) ?_ ?_
  · intro g
    refine AWP.lessR e [] ?_ ?_ ?_ ?_ ?_ ?_ g
    · exact ⟨rfl, rfl, rfl, rfl, rfl, trivial⟩
    · exact ⟨rfl, rfl, rfl, trivial⟩
    · rfl
    · exact ⟨rfl, rfl, rfl, rfl, rfl, okRow _, trivial⟩
    · rfl
    · rfl
  intro i Φ hi next
  refine AWP.runL e tab_ok L5 300 rfl (by first | trivial | (simp [in64] <;> omega) | (simp only [in64, true_and, and_true]; omega)) ?_
  refine AWP.cond2 rfl (fun hlt => ?_) (fun hlt => ?_)
  · have hlt : i < l.length := by have := of_decide_eq_true hlt; omega
    have hel : (rowP (cutTo l i))[i]? = some (pS l[i]) := by
      simp only [rowP, List.getElem?_map, cutTo_at hlt]
      rfl
    have hset : (rowP (cutTo l i)).set i (pS (cutW l[i])) = rowP (cutTo l (i + 1)) := by
      rw [← cutTo_set hlt]
      simp only [rowP, List.map_set]
      rfl
    have hE3 := take_map (fun v => [DV.v (.string v)]) 20 l[i].its (by decide)
    have nx := next (i + 1) hlt (by omega)
    clear next
    have hcut : cutW l[i] = { l[i] with its := l[i].its.take 20 } := rfl
    generalize l[i] = p at *
    refine AWP.runL e tab_ok L5 300 rfl (by first | trivial | (simp [in64] <;> omega) | (simp only [in64, true_and, and_true]; omega)) ?_
    refine AWP.idx_own e tab_ok rfl rfl rfl rfl i rfl hlt ?_
    rw [Nat.zero_add]
    refine AWP.runL e tab_ok L5 300 rfl (by first | trivial | (simp [in64] <;> omega) | (simp only [in64, true_and, and_true]; omega)) ?_
    refine AWP.load_el e tab_ok rfl rfl rfl rfl hel rfl ?_
    refine AWP.runL e tab_ok L5 300 rfl (by first | trivial | (simp [in64] <;> omega) | (simp only [in64, true_and, and_true]; omega)) ?_
    refine AWP.keep L5 rfl ?_
    refine AWP.drg 100 ?_
    (refine DrG.runN e tab_ok 200 rfl (by first | trivial | (simp [] <;> omega) | (simp only [in64, true_and, and_true]; omega)) ?_)
    refine DrG.eqV (x' := slS (p.its.take 20)) (congrArg (fun z => SV.d (.sl 1 z)) hE3) ?_
    refine DrG.idx_own i e tab_ok rfl rfl rfl rfl rfl hlt rfl ?_
    rw [Nat.zero_add]
    (refine DrG.runN e tab_ok 200 rfl (by first | trivial | (simp [in64] <;> omega) | (simp only [in64, true_and, and_true]; omega)) ?_)
    refine DrG.store_el (el' := pS (cutW p)) e tab_ok rfl rfl rfl rfl rfl hel rfl rfl rfl rfl ?_ rfl ?_
    · rw [hset]; exact rowP_ok 0 _
    rw [hset]
    refine DrG.finK e rfl ?_ rfl rfl rfl ?_ ?_
    (focus kernel_rfl)
    (focus (repeat' (first | exact True.intro | (refine And.intro ?_ ?_) | rfl | assumption | exact okRow _)))
    dsimp only [tmS, hpS, tput, effH]
    refine AWP.runL e tab_ok L5 300 rfl (by first | trivial | (simp [in64] <;> omega) | (simp only [in64, true_and, and_true]; omega)) ?_
    refine AWP.lessR e [] ?_ ?_ ?_ ?_ ?_ ?_ nx
    · exact ⟨rfl, rfl, rfl, rfl, rfl, trivial⟩
    · exact ⟨rfl, rfl, rfl, trivial⟩
    · rfl
    · exact ⟨rfl, rfl, rfl, rfl, rfl, okRow _, trivial⟩
    · rfl
    · rfl
  · have hlt : ¬ i < l.length := by have := of_decide_eq_false hlt; omega
    obtain rfl : i = l.length := by omega
    rw [cutTo_end]
    refine AWP.runL e tab_ok L5 300 rfl (by first | trivial | (simp [in64] <;> omega) | (simp only [in64, true_and, and_true]; omega)) ?_
    refine AWP.freezeF (id := 11) ((l.map cutW).map pD) rfl ?_ rfl rfl ?_ ?_ ?_
    (focus (rfl))
    (focus (first | (simp [lenFT, lenF, lenF.go]; done) ))
    (focus (first | (simp [lenFH, lenF, lenF.go]; done) ))
    refine AWP.ret e tab_ok rfl ?_
    rw [hP]
    simp only [frzF]
    rfl
end Go.Proofs.Ythfkoejjpfhcdaa
