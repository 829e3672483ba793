import Derived.Test.YthfkoejjpfhcdaaF14
open Go Go.Proofs Go.Sy
namespace Go.Proofs.Ythfkoejjpfhcdaa

theorem okRT (n : Nat) (l : List ByteArray) : ∀ e ∈ rowT l, SV.idsLt.go n e = true := by
  intro e he
  obtain ⟨v, _, rfl⟩ := List.mem_map.1 he
  rfl
structure Deed where
  kind : Int
  who : Int
  data : ByteArray
  on : Bool
abbrev dD (a : Deed) : List DV := [.v (.int .i64 a.kind), .v (.int .i64 a.who), .v (.string a.data), .v (.bool a.on)]
abbrev dS (a : Deed) : List SV := [.i a.kind, .i a.who, .s a.data, .b a.on]
abbrev slD (l : List Deed) : SV := .d (.sl 4 (l.map dD))
theorem sw_at (x : Int) {n : Nat} (h : 1 ≤ n) : ∃ k : Nat, (x.tmod (n : Int) + (n : Int)).tmod (n : Int) = k ∧ k < n ∧ (x.tmod (n : Int)).natAbs < n := by
  have h1 : (x.tmod (n : Int)).natAbs < n := by rw [Int.natAbs_tmod, Int.natAbs_natCast]; exact Nat.mod_lt _ h
  have h2 : 0 ≤ x.tmod (n : Int) + (n : Int) := by omega
  have h3 := Int.tmod_nonneg (n : Int) h2
  have h4 : ((x.tmod (n : Int) + (n : Int)).tmod (n : Int)).natAbs < n := by rw [Int.natAbs_tmod, Int.natAbs_natCast]; exact Nat.mod_lt _ h
  exact ⟨((x.tmod (n : Int) + (n : Int)).tmod (n : Int)).toNat, by omega, by omega, h1⟩
theorem rowB_at (os : List Bool) {k : Nat} (h : k < os.length) : (rowB os)[k]? = some [.b os[k]] := by simp [rowB, h]
theorem rowB_set (os : List Bool) (k : Nat) (b : Bool) : (rowB os).set k [.b b] = rowB (os.set k b) := by
  simp only [rowB, List.map_set]
  rfl
theorem keeps_id (n : Nat) : Keeps n id := by
  refine ⟨fun _ => rfl, fun _ => rfl, fun _ => rfl, fun p hp => ?_⟩
  unfold okW at hp
  simp only [Bool.and_eq_true] at hp
  exact ⟨hp.1.2, by simpa using hp.2⟩
def noIts (p : Way) : Way := { p with its := [] }
set_option maxRecDepth 100000 in
set_option maxHeartbeats 2000000 in
theorem few_own (ps : List Way) (on : List Bool) (hps : ps.length ≤ 9223372036854775807) (hon : on.length ≤ 9223372036854775807) : Eff Try.prog 5 [rtr ps on] [] 0 (fun r h n => ∃ C, 0 ≤ C ∧ r = .agg [.own 11 6 0 ((ps.take 18).map cutW).length C, slB (on.take 10)] ∧ h = [(1, .box [.own 11 6 0 ((ps.take 18).map cutW).length C, slB (on.take 10)]), (11, .row 38 false 6 (rowP ((ps.take 18).map cutW)) C)] ∧ n = 12) := by
  have hsz : (ps.map pD).length = ps.length := List.length_map _
  have hsb : (onD on).length = on.length := List.length_map _
  have hE : List.drop ((none : Option Int).getD 0).toNat (List.take ((some (if (18 : Int) < ((ps.map pD).length : Int) then (18 : Int) else ((ps.map pD).length : Int))).getD ((ps.map pD).length : Int)).toNat (ps.map pD)) = (ps.take 18).map pD := take_map pD 18 ps (by decide)
  have hE2 : List.drop ((none : Option Int).getD 0).toNat (List.take ((some (if (10 : Int) < ((onD on).length : Int) then (10 : Int) else ((onD on).length : Int))).getD ((onD on).length : Int)).toNat (onD on)) = onD (on.take 10) := take_map (fun b => [.v (.bool b)]) 10 on (by decide)
  refine eff_of Try.func5 rfl rfl rfl fun cx e hP => ?_
  refine AWP.runL e tab_ok L5 300 rfl (by first | trivial | (simp [in64] <;> omega) | (simp only [in64, true_and, and_true]; omega)) ?_
  refine AWP.keep L5 rfl ?_
  refine AWP.drc 100 ?_
  refine DrC.row 10 e tab_ok rfl rfl (fun c => rfl) rfl rfl rfl ?_
  repeat (
    first
      | (refine DrC.v rfl (fun c _ => VStep.ev e tab_ok rfl rfl ?_) (fun c => rfl) ?_; (focus (first | assumption | with_reducible trivial | rfl | (simp; omega) | (simp [in64]; omega) | (simp [*]; done))))
      | (refine DrC.load e tab_ok rfl (fun c => rfl) rfl (fun c => rfl) (fun c => rfl) (fun c => rfl) ?_)
      | (refine DrC.store e tab_ok rfl (fun c => rfl) (fun c => rfl) rfl (fun c => rfl) (fun c => rfl) (fun c => rfl) (fun c => rfl) (fun c => rfl) (fun c => rfl) rfl ?_)
    )
  refine DrC.append 11 e tab_ok rfl (fun c => rfl) (fun c => rfl) (fun c => rfl) rfl rfl rfl (fun _ => .sl _) rfl (by rw [hE]; exact rowP_cells _) (by rw [hE]; simp; omega) (by rw [hE]; simp; omega) rfl rfl (by rw [hE]; exact rowP_ok 0 _) rfl ?_
  repeat (
    first
      | (refine DrC.v rfl (fun c _ => VStep.ev e tab_ok rfl rfl ?_) (fun c => rfl) ?_; (focus (first | assumption | with_reducible trivial | rfl | (simp; omega) | (simp [in64]; omega) | (simp [*]; done))))
      | (refine DrC.load e tab_ok rfl (fun c => rfl) rfl (fun c => rfl) (fun c => rfl) (fun c => rfl) ?_)
      | (refine DrC.store e tab_ok rfl (fun c => rfl) (fun c => rfl) rfl (fun c => rfl) (fun c => rfl) (fun c => rfl) (fun c => rfl) (fun c => rfl) (fun c => rfl) rfl ?_)
    )
  refine DrC.fin e rfl ?_ (fun c => rfl) rfl rfl ?_ ?_ (fun cp => ?_)
  (focus (intro c; kernel_rfl))
  (focus (repeat' (first | exact True.intro | (refine And.intro ?_ ?_) | rfl | assumption | exact okRow _)))
  (focus (repeat' (first | exact True.intro | (refine And.intro (fun c C => ?_) ?_)) <;> (repeat' (first | exact All2.nil | (refine All2.cons ⟨rfl, ?_⟩ ?_) | exact Or.inr rfl | (refine Or.inl ?_; kernel_rfl)))))
  dsimp only [tmS, hpS, tput, effH]
  obtain ⟨l, hl⟩ : ∃ l, l = ps.take 18 := ⟨_, rfl⟩
  obtain ⟨o, ho⟩ : ∃ o, o = on.take 10 := ⟨_, rfl⟩
  obtain ⟨C, hC⟩ : ∃ C, C = cp 8 := ⟨_, rfl⟩
  have hll : l.length ≤ 18 := by rw [hl]; simp; omega
  rw [← hl] at hE hP
  rw [← ho] at hE2 hP
  refine AWP.lessR e [] (tm := [(2, .ptr 1 0), (1, .ptr 0 0)]) (hp := [(0, .box [.own 11 6 0 l.length C, slB o]), (1, .box [.d .nil, .d .nil]), (11, .row 38 false 6 (rowP l) C)]) (nx := 12) ?_ ?_ ?_ ?_ ?_ ?_ ?_
  · exact ⟨rfl, rfl, trivial⟩
  · refine ⟨?_, rfl, ?_, trivial⟩
    · refine congrArg (fun z => some (Blk.box z)) ?_
      have h1 : ((List.map (fun x => List.map SV.d x) (List.drop ((none : Option Int).getD 0).toNat (List.take ((some (if (18 : Int) < ((ps.map pD).length : Int) then (18 : Int) else ((ps.map pD).length : Int))).getD ((ps.map pD).length : Int)).toNat (ps.map pD)))).length) = l.length := by rw [hE]; simp
      show [SV.own 11 6 0 (0 + _) (cp 8), SV.d (.sl 1 _)] = _
      rw [h1, hE2, hC, Nat.zero_add]
      rfl
    · refine congrArg some ?_
      show Blk.row 38 false 6 ([] ++ List.map (fun x => List.map SV.d x) _) (cp 8) = _
      rw [hE, hC]
      rfl
  · rfl
  · exact ⟨rfl, rfl, rfl, rfl, rfl, okRow _, trivial⟩
  · rfl
  · rfl
  clear hE hE2 hl ho hsz hsb hps hon hC
  refine AWP.runL e tab_ok L5 300 rfl (by first | trivial | (simp [in64] <;> omega) | (simp only [in64, true_and, and_true]; omega)) ?_
  refine AWP.loop (ι := Nat) (fun i => ⟨[(26, .i i), (25, .i l.length), (24, .own 11 6 0 l.length C), (2, .ptr 1 0), (1, .ptr 0 0)], [(0, .box [.own 11 6 0 l.length C, slB o]), (1, .box [.d .nil, .d .nil]), (11, .row 38 false 6 (rowP (cutTo l i)) C)], 12⟩) (fun i => i ≤ l.length) (fun i => l.length - i) 0 (Nat.zero_le _) ?_ ?_
  · intro g
    refine AWP.lessR e [] ?_ ?_ ?_ ?_ ?_ ?_ g
    · exact ⟨rfl, rfl, rfl, rfl, rfl, trivial⟩
    · exact ⟨rfl, rfl, rfl, trivial⟩
    · rfl
    · exact ⟨rfl, rfl, rfl, rfl, rfl, okRow _, trivial⟩
    · rfl
    · rfl
  intro i Φ hi next
  refine AWP.runL e tab_ok L5 300 rfl (by first | trivial | (simp [in64] <;> omega) | (simp only [in64, true_and, and_true]; omega)) ?_
  refine AWP.cond2 rfl (fun hlt => ?_) (fun hlt => ?_)
  · have hlt : i < l.length := by have := of_decide_eq_true hlt; omega
    have hel : (rowP (cutTo l i))[i]? = some (pS l[i]) := by
      simp only [rowP, List.getElem?_map, cutTo_at hlt]
      rfl
    have hset : (rowP (cutTo l i)).set i (pS (cutW l[i])) = rowP (cutTo l (i + 1)) := by
      rw [← cutTo_set hlt]
      simp only [rowP, List.map_set]
      rfl
    have hE3 := take_map (fun v => [DV.v (.string v)]) 20 l[i].its (by decide)
    have nx := next (i + 1) hlt (by omega)
    clear next
    have hcut : cutW l[i] = { l[i] with its := l[i].its.take 20 } := rfl
    generalize l[i] = p at *
    refine AWP.runL e tab_ok L5 300 rfl (by first | trivial | (simp [in64] <;> omega) | (simp only [in64, true_and, and_true]; omega)) ?_
    refine AWP.idx_own e tab_ok rfl rfl rfl rfl i rfl hlt ?_
    rw [Nat.zero_add]
    refine AWP.runL e tab_ok L5 300 rfl (by first | trivial | (simp [in64] <;> omega) | (simp only [in64, true_and, and_true]; omega)) ?_
    refine AWP.load_el e tab_ok rfl rfl rfl rfl hel rfl ?_
    refine AWP.runL e tab_ok L5 300 rfl (by first | trivial | (simp [in64] <;> omega) | (simp only [in64, true_and, and_true]; omega)) ?_
    refine AWP.keep L5 rfl ?_
    refine AWP.drg 100 ?_
    (refine DrG.runN e tab_ok 200 rfl (by first | trivial | (simp [] <;> omega) | (simp only [in64, true_and, and_true]; omega)) ?_)
    refine DrG.eqV (x' := slS (p.its.take 20)) (congrArg (fun z => SV.d (.sl 1 z)) hE3) ?_
    refine DrG.idx_own i e tab_ok rfl rfl rfl rfl rfl hlt rfl ?_
    rw [Nat.zero_add]
    (refine DrG.runN e tab_ok 200 rfl (by first | trivial | (simp [in64] <;> omega) | (simp only [in64, true_and, and_true]; omega)) ?_)
    refine DrG.store_el (el' := pS (cutW p)) e tab_ok rfl rfl rfl rfl rfl hel rfl rfl rfl rfl ?_ rfl ?_
    · rw [hset]; exact rowP_ok 0 _
    rw [hset]
    refine DrG.finK e rfl ?_ rfl rfl rfl ?_ ?_
    (focus kernel_rfl)
    (focus (repeat' (first | exact True.intro | (refine And.intro ?_ ?_) | rfl | assumption | exact okRow _)))
    dsimp only [tmS, hpS, tput, effH]
    refine AWP.runL e tab_ok L5 300 rfl (by first | trivial | (simp [in64] <;> omega) | (simp only [in64, true_and, and_true]; omega)) ?_
    refine AWP.lessR e [] ?_ ?_ ?_ ?_ ?_ ?_ nx
    · exact ⟨rfl, rfl, rfl, rfl, rfl, trivial⟩
    · exact ⟨rfl, rfl, rfl, trivial⟩
    · rfl
    · exact ⟨rfl, rfl, rfl, rfl, rfl, okRow _, trivial⟩
    · rfl
    · rfl
  · have hlt : ¬ i < l.length := by have := of_decide_eq_false hlt; omega
    obtain rfl : i = l.length := by omega
    rw [cutTo_end]
    refine AWP.runL e tab_ok L5 300 rfl (by first | trivial | (simp [in64] <;> omega) | (simp only [in64, true_and, and_true]; omega)) ?_
    have hle : (l.map cutW).length = l.length := List.length_map _
    refine AWP.lessR e [] (tm := [(2, .ptr 1 0)]) (hp := [(1, .box [.own 11 6 0 (l.map cutW).length C, slB o]), (11, .row 38 false 6 (rowP (l.map cutW)) C)]) (nx := 12) ?_ ?_ ?_ ?_ ?_ ?_ ?_
    · exact ⟨rfl, trivial⟩
    · exact ⟨by rw [hle]; rfl, rfl, trivial⟩
    · rfl
    · exact ⟨rfl, rfl, rfl, okRow _, trivial⟩
    · rfl
    · rfl
    refine AWP.ret e tab_ok rfl ?_
    rw [hP]
    exact ⟨C, Nat.zero_le _, rfl, rfl, rfl⟩
set_option maxRecDepth 100000 in
set_option maxHeartbeats 8000000 in
theorem lpaths_ok (ps0 : List Way) (on0 : List Bool) (acs : List Deed) (hps : ps0.length ≤ 9223372036854775807) (hon : on0.length ≤ 9223372036854775807) (has : acs.length ≤ 9223372036854775807) : Eff Try.prog 4 [rtr ps0 on0, slD acs] [] 0 (fun r _ _ => r = .b true) := by
  have al := alive_eff
  have c0 := few_own ps0 on0 hps hon
  obtain ⟨ps1, hps1⟩ : ∃ ps, ps = (ps0.take 18).map cutW := ⟨_, rfl⟩
  obtain ⟨on, hon1⟩ : ∃ on, on = on0.take 10 := ⟨_, rfl⟩
  have l1 : ps1.length ≤ 18 := by rw [hps1]; simp; omega
  have l2 : on.length ≤ 10 := by rw [hon1]; simp; omega
  rw [← hps1, ← hon1] at c0
  clear hps1 hon1 hps hon
  refine eff_of Try.func4 rfl rfl rfl fun cA e hP => ?_
  refine AWP.runL e tab_ok L4 300 rfl (by first | trivial | (simp [in64] <;> omega) | (simp only [in64, true_and, and_true]; omega)) ?_
  refine AWP.callC e c0 rfl rfl rfl rfl fun C _ => ⟨⟨trivial, rowP_ok 0 _, trivial⟩, ?_⟩
  refine AWP.runL e tab_ok L4 300 rfl (by first | trivial | (simp [in64] <;> omega) | (simp only [in64, true_and, and_true]; omega)) ?_
  refine AWP.loop (ι := Nat) (fun i => ⟨[(38, .i i), (37, .i ps1.length), (2, .ptr 0 0), (1, slD acs)], [(0, .box [.own 12 6 0 ps1.length C, slB on]), (12, .row 38 false 6 (rowP (chTo noIts ps1 i)) C)], 13⟩) (fun i => i ≤ ps1.length) (fun i => ps1.length - i) 0 (Nat.zero_le _) ?_ ?_
  · intro g
    refine AWP.lessR e [] ?_ ?_ ?_ ?_ ?_ ?_ g
    · exact ⟨rfl, rfl, rfl, rfl, trivial⟩
    · exact ⟨rfl, rfl, trivial⟩
    · rfl
    · exact ⟨rfl, rfl, rfl, okRow _, trivial⟩
    · rfl
    · rfl
  intro i Φ hi next
  refine AWP.runL e tab_ok L4 300 rfl (by first | trivial | (simp [in64] <;> omega) | (simp only [in64, true_and, and_true]; omega)) ?_
  refine AWP.cond2 rfl (fun hlt => ?_) (fun hlt => ?_)
  · have hlt : i < ps1.length := by have := of_decide_eq_true hlt; omega
    have hel := rowP_at (f := noIts) hlt
    have hset := rowP_set (f := noIts) hlt
    have nx := next (i + 1) hlt (by omega)
    clear next
    have hno : noIts ps1[i] = { ps1[i] with its := [] } := rfl
    rw [hno] at hset
    generalize ps1[i] = p at *
    refine AWP.runL e tab_ok L4 300 rfl (by first | trivial | (simp [in64] <;> omega) | (simp only [in64, true_and, and_true]; omega)) ?_
    refine AWP.idx_own e tab_ok rfl rfl rfl rfl i rfl hlt ?_
    rw [Nat.zero_add]
    refine AWP.runL e tab_ok L4 300 rfl (by first | trivial | (simp [in64] <;> omega) | (simp only [in64, true_and, and_true]; omega)) ?_
    refine AWP.store_el e tab_ok rfl rfl rfl rfl rfl hel rfl rfl rfl rfl ?_
    refine AWP.weakR 12 i (el' := pS { p with its := [] }) rfl (List.getElem?_set_self (by rw [List.getElem?_eq_some_iff] at hel; exact hel.1)) (.cons (.refl _) (.cons (.refl _) (.cons (.refl _) (.cons (.nil 1) (.cons (.refl _) (.cons (.refl _) .nil)))))) ?_
    rw [List.set_set, hset]
    refine AWP.runL e tab_ok L4 300 rfl (by first | trivial | (simp [in64] <;> omega) | (simp only [in64, true_and, and_true]; omega)) ?_
    refine AWP.lessR e [] ?_ ?_ ?_ ?_ ?_ ?_ nx
    · exact ⟨rfl, rfl, rfl, rfl, trivial⟩
    · exact ⟨rfl, rfl, trivial⟩
    · rfl
    · exact ⟨rfl, rfl, rfl, okRow _, trivial⟩
    · rfl
    · rfl
  have hlt : ¬ i < ps1.length := by have := of_decide_eq_false hlt; omega
  obtain rfl : i = ps1.length := by omega
  rw [chTo_end]
  clear next
  obtain ⟨ps, hps⟩ : ∃ ps, ps = ps1.map noIts := ⟨_, rfl⟩
  have hits : ∀ p ∈ ps, p.its = [] := by
    intro p hp
    rw [hps] at hp
    obtain ⟨q, _, rfl⟩ := List.mem_map.1 hp
    rfl
  have hlen : ps1.length = ps.length := by rw [hps]; simp
  rw [hlen] at l1 ⊢
  rw [← hps]
  clear hps hlen hi hlt
  refine AWP.runL e tab_ok L4 300 rfl (by first | trivial | (simp [in64] <;> omega) | (simp only [in64, true_and, and_true]; omega)) ?_
  refine AWP.freezeF (id := 12) (ps.map pD) rfl ?_ rfl rfl ?_ ?_ ?_
  (focus (rfl))
  (focus (first | (simp [lenFT, lenF, lenF.go]; done) ))
  (focus (first | (simp [lenFH, lenF, lenF.go]; done) ))
  have c1 := prefright_eff ps on (by omega) (by omega) (fun p hp => by rw [hits p hp]; exact Nat.zero_le _)
  rcases cases_b (rightW ps on) with hw | hw <;> rw [hw] at c1
  · repeat (
      first
        | (refine AWP.askT rfl ?_; (first | (refine Told.t rfl ?_) | (refine Told.f rfl ?_) | (refine Told.t ?_ ?_; (focus assumption)) | (refine Told.f ?_ ?_; (focus assumption)) | (refine Told.t ?_ ?_; (focus (first | (simp; omega) | (simp [*]; done)); done)) | (refine Told.f ?_ ?_; (focus (first | (simp; omega) | (simp [*]; done)); done))); refine AWP.runL e tab_ok L4 300 rfl (by first | trivial | (simp [in64] <;> omega) | (simp only [in64, true_and, and_true]; omega)) ?_)
        | (refine AWP.callQ e rfl rfl ?_; (first | refine CallQ.mk (c1) rfl rfl ?_ | refine CallQ.mk (al) rfl rfl ?_); refine AWP.runL e tab_ok L4 300 rfl (by first | trivial | (simp [in64] <;> omega) | (simp only [in64, true_and, and_true]; omega)) ?_)
        | (refine AWP.eq_agg e tab_ok rfl rfl rfl (.inl ⟨rfl, rfl⟩) ?_ 5 (by omega) rfl ?_ rfl rfl rfl rfl rfl rfl rfl ?_; (focus kernel_rfl); (focus kernel_rfl); refine AWP.runL e tab_ok L4 300 rfl (by first | trivial | (simp [in64] <;> omega) | (simp only [in64, true_and, and_true]; omega)) ?_)
        | (refine AWP.eq_agg e tab_ok rfl rfl rfl (.inr ⟨rfl, rfl⟩) ?_ 5 (by omega) rfl ?_ rfl rfl rfl rfl rfl rfl rfl ?_; (focus kernel_rfl); (focus kernel_rfl); refine AWP.runL e tab_ok L4 300 rfl (by first | trivial | (simp [in64] <;> omega) | (simp only [in64, true_and, and_true]; omega)) ?_)
      )
    have eA := e
    have hPA := hP
    refine AWP.makeMap (MapCx.start e) e rfl fun cx1 b m1 e1 hP1 ho _ => ?_
    have m1 : MapCx cA cx1 (SE b [] none) := m1.weak fun q hq => by
      rcases hq with h | ⟨p, hp, _⟩
      · exact .inl h
      · cases hp
    refine AWP.lowM m1 e1 eA fun cx m e hP2 hw2 => ?_
    rw [hP1] at hP2
    have hW : WMap 9 cx.w0 b [] (wt ps) none := by
      refine ⟨by rw [hw2]; exact ho, List.nodup_nil, (fun p hp => by cases hp), (fun k _ => ?_), (fun p hp => by cases hp)⟩
      refine Classical.byContradiction fun hne => ?_
      obtain ⟨p, h1, _, h3⟩ := wt_mem hne
      exact hne (h3.symm.trans (hits p h1))
    clear hw2 ho e1 m1 hP1
    have hs := right_size hw
    refine AWP.runL e tab_ok L4 300 rfl (by first | trivial | (simp [in64] <;> omega) | (simp only [in64, true_and, and_true]; omega)) ?_
    refine AWP.append e tab_ok rfl rfl rfl rfl rfl rfl rfl rfl (.sl (onD on)) rfl (rowB_cells on) (by simp; omega) (by simp; omega) fun C2 hC => ?_
    have h0 : (List.map (fun x => List.map SV.d x) (onD on)).length = on.length := by simp
    refine AWP.runL e tab_ok L4 300 rfl (by first | trivial | (simp [in64] <;> omega) | (simp only [in64, true_and, and_true]; omega)) ?_
    refine AWP.loopM (ι := Nat × List Way × List Bool) (fun s => ⟨[(63, .i s.1), (62, .i acs.length), (61, slD acs), (7, .own 14 1 0 on.length C2), (6, .d (.v (.map (some b)))), (2, .ptr 0 0)], [(0, .box [slP s.2.1, slB s.2.2]), (14, .row 4 false 1 (rowB s.2.2) C2)], 15⟩) (fun s c => ∃ E, MapCx cA c (SE b E none) ∧ Env c Try.prog Try.f4 0 ∧ c.Post = cA.Post ∧ WMap 9 c.w0 b E (wt s.2.1) none ∧ s.1 ≤ acs.length ∧ rightW s.2.1 s.2.2 = true ∧ s.2.2.length = on.length) (fun s => acs.length - s.1) (0, ps, on) ⟨[], m, e, hP2, hW, Nat.zero_le _, hw, rfl⟩ (fun s c ⟨_, h, _⟩ => ⟨h.P.trans m.P.symm, h.R.trans m.R.symm⟩) ?_ ?_
    · intro g
      refine AWP.lessR e [] ?_ ?_ ?_ ?_ ?_ ?_ g
      · refine ⟨rfl, ?_, rfl, ?_, rfl, rfl, trivial⟩
        · exact congrArg (fun n : Nat => some (SV.i n)) (List.length_map _)
        · exact congrArg (fun n : Nat => some (SV.own 14 1 0 n C2)) (by rw [h0, Nat.zero_add])
      · exact ⟨rfl, rfl, trivial⟩
      · rfl
      · exact ⟨rfl, rfl, rfl, okRow _, trivial⟩
      · rfl
      · rfl
    clear hP hP2 e hW m hs hC h0 hw hits c1 cx l1
    rintro ⟨i, qs, os⟩ cx Φ ⟨E, m, e, hP, hW, hi, hq, hos⟩ next
    rw [hPA] at hP
    dsimp only at hW hi hq hos next ⊢
    have hs := right_size hq
    have hnd := keys_nd hq
    refine AWP.runL e tab_ok L4 300 rfl (by first | trivial | (simp [in64] <;> omega) | (simp only [in64, true_and, and_true]; omega)) ?_
    refine AWP.cond2 rfl (fun hlt => ?_) (fun hlt => ?_)
    · have hlt : i < acs.length := by have := of_decide_eq_true hlt; omega
      have hel := el_at dD acs hlt
      have nx := fun qs' os' cx' h => next (i + 1, qs', os') cx' h (by show acs.length - (i + 1) < acs.length - i; omega)
      dsimp only at nx
      clear next
      generalize acs[i] = a at *
      obtain ⟨data, hdata⟩ : ∃ data, data = a.data.extract 0 (if (8 : Int) < (a.data.size : Int) then (8 : Int) else (a.data.size : Int)).toNat := ⟨_, rfl⟩
      have hd : data.size ≤ 8 := by rw [hdata]; exact strL_cut a.data 8
      refine AWP.runL e tab_ok L4 300 rfl (by first | trivial | (simp [in64] <;> omega) | (simp only [in64, true_and, and_true]; omega)) ?_
      refine AWP.idx e tab_ok rfl rfl rfl rfl i rfl hel ?_
      refine AWP.runL e tab_ok L4 300 rfl (by first | trivial | (simp [in64] <;> omega) | (simp only [in64, true_and, and_true]; omega)) ?_
      refine AWP.cond2 rfl (fun h60 => ?_) (fun h60 => ?_)
      · clear nx
        refine AWP.runL e tab_ok L4 300 rfl (by first | trivial | (simp [in64] <;> omega) | (simp only [in64, true_and, and_true]; omega)) ?_
        refine AWP.promoteK m e hW fun cx m e hP2 ho hden => ?_
        rw [hP] at hP2
        have hP := hP2
        have hz : (qs.map pD).length = qs.length := List.length_map _
        refine AWP.loop (ι := Nat) (fun j => ⟨[(265, .i j), (264, .i (qs.map pD).length), (263, slP qs), (6, .d (.v (.map (some b))))], [], 16⟩) (fun j => j ≤ qs.length) (fun j => qs.length - j) 0 (Nat.zero_le _) ?_ ?_
        · intro g
          refine AWP.less e ?_ ?_ ?_ ?_ ?_ (g) <;> (repeat' (first | exact True.intro | (refine And.intro ?_ ?_) | rfl | assumption))
        intro j Φ hj next
        refine AWP.runL e tab_ok L4 300 rfl (by first | trivial | (simp [in64] <;> omega) | (simp only [in64, true_and, and_true]; omega)) ?_
        refine AWP.cond2 rfl (fun hlt => ?_) (fun hlt => ?_)
        · have hlt : j < qs.length := by have := of_decide_eq_true hlt; omega
          have hel := el_at pD qs hlt
          have hat := wt_at hnd hlt
          have c2 := sameT_eff qs[j].its (right_its hq _ (List.getElem_mem hlt))
          have nx := next (j + 1) hlt (by omega)
          clear next
          generalize qs[j] = p at *
          have hd := hden (keyW p)
          rw [hat] at hd
          refine AWP.runL e tab_ok L4 300 rfl (by first | trivial | (simp [in64] <;> omega) | (simp only [in64, true_and, and_true]; omega)) ?_
          refine AWP.idx e tab_ok rfl rfl rfl rfl j rfl hel ?_
          refine AWP.runL e tab_ok L4 300 rfl (by first | trivial | (simp [in64] <;> omega) | (simp only [in64, true_and, and_true]; omega)) ?_
          refine AWP.keep L4 rfl ?_
          refine AWP.drg 100 ?_
          (refine DrG.runN e tab_ok 200 rfl (by first | trivial | (simp [in64] <;> omega) | (simp only [in64, true_and, and_true]; omega)) ?_)
          refine DrG.v rfl (fun hp0 => VStep.lookupX (hp := hp0) (q := keyW p) (sv := slS p.its) m e rfl ho und41 key45 zero34 rfl rfl rfl hd) rfl ?_
          (refine DrG.runN e tab_ok 200 rfl (by first | trivial | (simp [in64] <;> omega) | (simp only [in64, true_and, and_true]; omega)) ?_)
          (refine DrG.runS e tab_ok 200 rfl (by first | trivial | (simp [in64] <;> omega) | (simp only [in64, true_and, and_true]; omega)) ?_)
          repeat (
            first
              | (refine DrG.askT rfl ?_; (first | (refine Told.t rfl ?_) | (refine Told.f rfl ?_) | (refine Told.t ?_ ?_; (focus assumption)) | (refine Told.f ?_ ?_; (focus assumption)) | (refine Told.t ?_ ?_; (focus (first | (simp; omega) | (simp [*]; done)); done)) | (refine Told.f ?_ ?_; (focus (first | (simp; omega) | (simp [*]; done)); done))); (refine DrG.runS e tab_ok 200 rfl (by first | trivial | (simp [in64] <;> omega) | (simp only [in64, true_and, and_true]; omega)) ?_))
              | (refine DrG.callQ e rfl rfl ?_; (first | refine CallVQ.mk (c2) rfl rfl ?_); (refine DrG.runS e tab_ok 200 rfl (by first | trivial | (simp [in64] <;> omega) | (simp only [in64, true_and, and_true]; omega)) ?_))
              | (refine DrG.callGo e rfl rfl rfl ?_; (first | refine CallVQ.mk (c2) rfl rfl ?_); (refine DrG.runS e tab_ok 200 rfl (by first | trivial | (simp [in64] <;> omega) | (simp only [in64, true_and, and_true]; omega)) ?_))
              | (refine DrG.eq_agg e tab_ok rfl rfl rfl (.inl ⟨rfl, rfl⟩) ?_ 5 (by omega) rfl ?_ rfl rfl rfl rfl rfl rfl rfl ?_; (focus kernel_rfl); (focus kernel_rfl); (refine DrG.runS e tab_ok 200 rfl (by first | trivial | (simp [in64] <;> omega) | (simp only [in64, true_and, and_true]; omega)) ?_))
              | (refine DrG.eq_aggGo e tab_ok rfl rfl rfl rfl (.inl ⟨rfl, rfl⟩) ?_ 5 (by omega) rfl ?_ rfl rfl rfl rfl rfl rfl rfl ?_; (focus kernel_rfl); (focus kernel_rfl); (refine DrG.runS e tab_ok 200 rfl (by first | trivial | (simp [in64] <;> omega) | (simp only [in64, true_and, and_true]; omega)) ?_))
              | (refine DrG.eq_agg e tab_ok rfl rfl rfl (.inr ⟨rfl, rfl⟩) ?_ 5 (by omega) rfl ?_ rfl rfl rfl rfl rfl rfl rfl ?_; (focus kernel_rfl); (focus kernel_rfl); (refine DrG.runS e tab_ok 200 rfl (by first | trivial | (simp [in64] <;> omega) | (simp only [in64, true_and, and_true]; omega)) ?_))
              | (refine DrG.eq_aggGo e tab_ok rfl rfl rfl rfl (.inr ⟨rfl, rfl⟩) ?_ 5 (by omega) rfl ?_ rfl rfl rfl rfl rfl rfl rfl ?_; (focus kernel_rfl); (focus kernel_rfl); (refine DrG.runS e tab_ok 200 rfl (by first | trivial | (simp [in64] <;> omega) | (simp only [in64, true_and, and_true]; omega)) ?_))
            )
          refine DrG.finK e rfl ?_ rfl rfl rfl ?_ ?_
          (focus kernel_rfl)
          (focus (repeat' (first | exact True.intro | (refine And.intro ?_ ?_) | rfl | assumption | exact okRow _)))
          dsimp only [tmS, hpS, tput, effH]
          refine AWP.runL e tab_ok L4 300 rfl (by first | trivial | (simp [in64] <;> omega) | (simp only [in64, true_and, and_true]; omega)) ?_
          repeat (
            first
              | (refine AWP.askT rfl ?_; (first | (refine Told.t rfl ?_) | (refine Told.f rfl ?_) | (refine Told.t ?_ ?_; (focus assumption)) | (refine Told.f ?_ ?_; (focus assumption)) | (refine Told.t ?_ ?_; (focus (first | (simp; omega) | (simp [*]; done)); done)) | (refine Told.f ?_ ?_; (focus (first | (simp; omega) | (simp [*]; done)); done))); refine AWP.runL e tab_ok L4 300 rfl (by first | trivial | (simp [in64] <;> omega) | (simp only [in64, true_and, and_true]; omega)) ?_)
              | (refine AWP.eq_agg e tab_ok rfl rfl rfl (.inl ⟨rfl, rfl⟩) ?_ 5 (by omega) rfl ?_ rfl rfl rfl rfl rfl rfl rfl ?_; (focus kernel_rfl); (focus kernel_rfl); refine AWP.runL e tab_ok L4 300 rfl (by first | trivial | (simp [in64] <;> omega) | (simp only [in64, true_and, and_true]; omega)) ?_)
              | (refine AWP.eq_agg e tab_ok rfl rfl rfl (.inr ⟨rfl, rfl⟩) ?_ 5 (by omega) rfl ?_ rfl rfl rfl rfl rfl rfl rfl ?_; (focus kernel_rfl); (focus kernel_rfl); refine AWP.runL e tab_ok L4 300 rfl (by first | trivial | (simp [in64] <;> omega) | (simp only [in64, true_and, and_true]; omega)) ?_)
            )
          refine AWP.less e ?_ ?_ ?_ ?_ ?_ (nx) <;> (repeat' (first | exact True.intro | (refine And.intro ?_ ?_) | rfl | assumption))
        · refine AWP.runL e tab_ok L4 300 rfl (by first | trivial | (simp [in64] <;> omega) | (simp only [in64, true_and, and_true]; omega)) ?_
          refine AWP.ret e tab_ok rfl ?_
          rw [hP]
          all_goals first | rfl | (simp [strip]; done)
      · clear h60
        have hk : (a.kind.tmod 3).natAbs < 3 := by rw [Int.natAbs_tmod]; exact Nat.mod_lt _ (by decide)
        refine AWP.runL e tab_ok L4 300 rfl (by first | trivial | (simp [in64] <;> omega) | (simp only [in64, true_and, and_true]; omega)) ?_
        refine AWP.eqT 10 (.s data) rfl (congrArg SV.s hdata.symm) ?_
        clear hdata
        generalize a.kind.tmod 3 = k3 at *
        refine AWP.cond2 rfl (fun k0 => ?_) (fun k0 => ?_)
        · clear k0 hk
          have c2 := put_eff qs os a.who data hq hd
          have hq2 : rightW (qs.map (putW os a.who data)) os = true := right_map hq rfl (keeps_put _ _ _ _ hd)
          obtain ⟨f, hf⟩ : ∃ f, f = putW os a.who data := ⟨_, rfl⟩
          have hfk : ∀ p, keyW (f p) = keyW p := fun p => by
            have h := keeps_put 0 os a.who data hd
            rw [hf]
            unfold keyW
            rw [h.fr, h.to]
          rw [← hf] at c2 hq2
          generalize tk os a.who data qs = tt at *
          generalize ls os a.who data qs = tl at *
          refine AWP.runL e tab_ok L4 300 rfl (by first | trivial | (simp [in64] <;> omega) | (simp only [in64, true_and, and_true]; omega)) ?_
          repeat (
            first
              | (refine AWP.askT rfl ?_; (first | (refine Told.t rfl ?_) | (refine Told.f rfl ?_) | (refine Told.t ?_ ?_; (focus assumption)) | (refine Told.f ?_ ?_; (focus assumption)) | (refine Told.t ?_ ?_; (focus (first | (simp; omega) | (simp [*]; done)); done)) | (refine Told.f ?_ ?_; (focus (first | (simp; omega) | (simp [*]; done)); done))); refine AWP.runL e tab_ok L4 300 rfl (by first | trivial | (simp [in64] <;> omega) | (simp only [in64, true_and, and_true]; omega)) ?_)
              | (refine AWP.callQ e rfl rfl ?_; (first | refine CallQ.mk (c2) rfl rfl ?_); refine AWP.runL e tab_ok L4 300 rfl (by first | trivial | (simp [in64] <;> omega) | (simp only [in64, true_and, and_true]; omega)) ?_)
              | (refine AWP.eq_agg e tab_ok rfl rfl rfl (.inl ⟨rfl, rfl⟩) ?_ 5 (by omega) rfl ?_ rfl rfl rfl rfl rfl rfl rfl ?_; (focus kernel_rfl); (focus kernel_rfl); refine AWP.runL e tab_ok L4 300 rfl (by first | trivial | (simp [in64] <;> omega) | (simp only [in64, true_and, and_true]; omega)) ?_)
              | (refine AWP.eq_agg e tab_ok rfl rfl rfl (.inr ⟨rfl, rfl⟩) ?_ 5 (by omega) rfl ?_ rfl rfl rfl rfl rfl rfl rfl ?_; (focus kernel_rfl); (focus kernel_rfl); refine AWP.runL e tab_ok L4 300 rfl (by first | trivial | (simp [in64] <;> omega) | (simp only [in64, true_and, and_true]; omega)) ?_)
            )
          have hz : (qs.map pD).length = qs.length := List.length_map _
          refine AWP.loopM (ι := Nat) (fun j => ⟨[(99, .i j), (98, .i (qs.map pD).length), (97, slP qs), (11, .ptr 16 0), (10, .s data), (9, .ptr 15 0), (63, .i i), (62, .i acs.length), (61, slD acs), (7, .own 14 1 0 on.length C2), (6, .d (.v (.map (some b)))), (2, .ptr 0 0)], [(16, .box [slP (qs.map f), slB os]), (15, .box (dS a)), (0, .box [slP qs, slB os]), (14, .row 4 false 1 (rowB os) C2)], 17⟩) (fun j c => ∃ E, MapCx cA c (SE b E none) ∧ Env c Try.prog Try.f4 0 ∧ c.Post = cA.Post ∧ WMap 9 c.w0 b E (wt (chTo f qs j)) none ∧ j ≤ qs.length) (fun j => qs.length - j) 0 ⟨E, m, e, hP.trans hPA.symm, by rw [chTo_zero]; exact hW, Nat.zero_le _⟩ (fun s c ⟨_, h, _⟩ => ⟨h.P.trans m.P.symm, h.R.trans m.R.symm⟩) ?_ ?_
          · intro g
            refine AWP.lessR e [] ?_ ?_ ?_ ?_ ?_ ?_ g
            · exact ⟨rfl, rfl, rfl, rfl, rfl, rfl, rfl, rfl, rfl, rfl, rfl, rfl, trivial⟩
            · exact ⟨rfl, rfl, rfl, rfl, trivial⟩
            · rfl
            · exact ⟨rfl, rfl, rfl, rfl, rfl, rfl, rfl, okRow _, trivial⟩
            · rfl
            · rfl
          clear hP hW e m c2
          rintro j cx Φ2 ⟨E, m, e, hP, hW, hj⟩ next2
          refine AWP.runL e tab_ok L4 300 rfl (by first | trivial | (simp [in64] <;> omega) | (simp only [in64, true_and, and_true]; omega)) ?_
          refine AWP.cond2 rfl (fun hlt2 => ?_) (fun hlt2 => ?_)
          · have hlt2 : j < qs.length := by have := of_decide_eq_true hlt2; omega
            have hel2 := el_at pD qs hlt2
            obtain ⟨hw1, hw2⟩ := wt_step hfk hnd hlt2
            have hsm := chTo_same (f := f) hlt2
            have nx2 := fun cx' h => next2 (j + 1) cx' h (by show qs.length - (j + 1) < qs.length - j; omega)
            clear next2
            have hokp := (right_at hq hlt2).1
            generalize qs[j] = p at *
            unfold okW at hokp
            simp only [Bool.and_eq_true, decide_eq_true_eq] at hokp
            obtain ⟨⟨⟨o1, o2, o3, o4, o5, o6⟩, o7⟩, _⟩ := hokp
            obtain ⟨o8, o9, o10⟩ := rightR_get o7
            obtain ⟨s, hst⟩ : ∃ s : Nat, p.st = s := ⟨p.st.toNat, by omega⟩
            have hson : s < os.length := by omega
            have hon : (rowB os)[s]? = some [.b os[s]] := by simp [rowB, hson]
            have hgoes : goes os a.who p = (p.fr == a.who && os[s]) := by unfold goes; rw [hst]; simp [hson]
            have hone : f p = (putOne os a.who data p).1 := by rw [hf]; rfl
            have hz2 : (rowS p.its).length = p.its.length := List.length_map _
            rcases cases_b (p.fr == a.who) with q1 | q1
            · have nq : (p.fr != a.who) = false := by rw [bne, q1]; rfl
              rcases cases_b os[s] with q2 | q2
              · rw [q2] at hon
                refine AWP.runL e tab_ok L4 300 rfl (by first | trivial | (simp [in64] <;> omega) | (simp only [in64, true_and, and_true]; omega)) ?_
                refine AWP.idx e tab_ok rfl rfl rfl rfl j rfl hel2 ?_
                refine AWP.runL e tab_ok L4 300 rfl (by first | trivial | (simp [in64] <;> omega) | (simp only [in64, true_and, and_true]; omega)) ?_
                repeat (
                  first
                    | (refine AWP.askT rfl ?_; (first | (refine Told.t rfl ?_) | (refine Told.f rfl ?_) | (refine Told.t ?_ ?_; (focus assumption)) | (refine Told.f ?_ ?_; (focus assumption)) | (refine Told.t ?_ ?_; (focus (first | (simp; omega) | (simp [*]; done)); done)) | (refine Told.f ?_ ?_; (focus (first | (simp; omega) | (simp [*]; done)); done))); refine AWP.runL e tab_ok L4 300 rfl (by first | trivial | (simp [in64] <;> omega) | (simp only [in64, true_and, and_true]; omega)) ?_)
                    | (refine AWP.eq_agg e tab_ok rfl rfl rfl (.inl ⟨rfl, rfl⟩) ?_ 5 (by omega) rfl ?_ rfl rfl rfl rfl rfl rfl rfl ?_; (focus kernel_rfl); (focus kernel_rfl); refine AWP.runL e tab_ok L4 300 rfl (by first | trivial | (simp [in64] <;> omega) | (simp only [in64, true_and, and_true]; omega)) ?_)
                    | (refine AWP.eq_agg e tab_ok rfl rfl rfl (.inr ⟨rfl, rfl⟩) ?_ 5 (by omega) rfl ?_ rfl rfl rfl rfl rfl rfl rfl ?_; (focus kernel_rfl); (focus kernel_rfl); refine AWP.runL e tab_ok L4 300 rfl (by first | trivial | (simp [in64] <;> omega) | (simp only [in64, true_and, and_true]; omega)) ?_)
                  )
                refine AWP.idx_own e tab_ok rfl rfl rfl rfl s hst (by omega) ?_
                rw [Nat.zero_add]
                refine AWP.runL e tab_ok L4 300 rfl (by first | trivial | (simp [in64] <;> omega) | (simp only [in64, true_and, and_true]; omega)) ?_
                refine AWP.load_el e tab_ok rfl rfl rfl rfl hon rfl ?_
                refine AWP.runL e tab_ok L4 300 rfl (by first | trivial | (simp [in64] <;> omega) | (simp only [in64, true_and, and_true]; omega)) ?_
                repeat (
                  first
                    | (refine AWP.askT rfl ?_; (first | (refine Told.t rfl ?_) | (refine Told.f rfl ?_) | (refine Told.t ?_ ?_; (focus assumption)) | (refine Told.f ?_ ?_; (focus assumption)) | (refine Told.t ?_ ?_; (focus (first | (simp; omega) | (simp [*]; done)); done)) | (refine Told.f ?_ ?_; (focus (first | (simp; omega) | (simp [*]; done)); done))); refine AWP.runL e tab_ok L4 300 rfl (by first | trivial | (simp [in64] <;> omega) | (simp only [in64, true_and, and_true]; omega)) ?_)
                    | (refine AWP.eq_agg e tab_ok rfl rfl rfl (.inl ⟨rfl, rfl⟩) ?_ 5 (by omega) rfl ?_ rfl rfl rfl rfl rfl rfl rfl ?_; (focus kernel_rfl); (focus kernel_rfl); refine AWP.runL e tab_ok L4 300 rfl (by first | trivial | (simp [in64] <;> omega) | (simp only [in64, true_and, and_true]; omega)) ?_)
                    | (refine AWP.eq_agg e tab_ok rfl rfl rfl (.inr ⟨rfl, rfl⟩) ?_ 5 (by omega) rfl ?_ rfl rfl rfl rfl rfl rfl rfl ?_; (focus kernel_rfl); (focus kernel_rfl); refine AWP.runL e tab_ok L4 300 rfl (by first | trivial | (simp [in64] <;> omega) | (simp only [in64, true_and, and_true]; omega)) ?_)
                  )
                refine AWP.takeK m e hW (keyW p) fun cx C pre m e hP2 hW hx => ?_
                rw [hP] at hP2
                rw [hw2] at hx ⊢
                have hok := okRT 0 (pre ++ p.its)
                refine AWP.keep L4 rfl ?_
                refine AWP.drg 100 ?_
                (refine DrG.runN e tab_ok 200 rfl (by first | trivial | (simp [in64] <;> omega) | (simp only [in64, true_and, and_true]; omega)) ?_)
                refine DrG.v rfl (fun hp0 => VStep.lookupX (hp := hp0) (q := keyW p) (sv := .own 19 1 pre.length p.its.length C) m e (.inl rfl) hW.obj und41 key45 zero34 rfl rfl rfl hx) rfl ?_
                (refine DrG.runN e tab_ok 200 rfl (by first | trivial | (simp [in64] <;> omega) | (simp only [in64, true_and, and_true]; omega)) ?_)
                refine DrG.finK e rfl ?_ rfl rfl rfl ?_ ?_
                (focus kernel_rfl)
                (focus (repeat' (first | exact True.intro | (refine And.intro ?_ ?_) | rfl | assumption | exact okRow _)))
                dsimp only [tmS, hpS, tput, effH]
                refine AWP.runL e tab_ok L4 300 rfl (by first | trivial | (simp [in64] <;> omega) | (simp only [in64, true_and, and_true]; omega)) ?_
                refine AWP.cond2 rfl (fun hr => ?_) (fun hr => ?_)
                · have hr := of_decide_eq_true hr
                  have hE : putOne os a.who data p = ({ p with its := p.its ++ [data] }, 1, 0) := by unfold putOne; rw [hgoes, q1, q2]; simp [hr]
                  rw [hE] at hone
                  refine AWP.runL e tab_ok L4 300 rfl (by first | trivial | (simp [in64] <;> omega) | (simp only [in64, true_and, and_true]; omega)) ?_
                  refine AWP.entryOwn m e hW und41 key45 zero34 rfl rfl rfl hx fun cx E2 n u m e hP3 hW hidx => ?_
                  rw [hP2] at hP3
                  refine AWP.runL e tab_ok L4 300 rfl (by first | trivial | (simp [in64] <;> omega) | (simp only [in64, true_and, and_true]; omega)) ?_
                  refine AWP.appendLo e tab_ok rfl rfl rfl rfl rfl rfl rfl rfl (.own rfl (by simp)) (by simp) (by simp) (by simp [allCells, isCell]) (by simp; omega) (by simp; omega) fun C3 pre3 hpre => ?_
                  refine AWP.runL e tab_ok L4 300 rfl (by first | trivial | (simp [in64] <;> omega) | (simp only [in64, true_and, and_true]; omega)) ?_
                  obtain ⟨pre4, h4⟩ : ∃ pre4 : List ByteArray, pre3 = rowT pre4 := by
                    rcases hpre with h | h
                    · exact ⟨[], h⟩
                    · exact ⟨pre, h.trans (by simp [])⟩
                  subst h4
                  have hrow : rowT pre4 ++ ((rowT (pre ++ p.its)).drop pre.length ++ [[.s data]]) = rowT (pre4 ++ (p.its ++ [data])) := by simp []
                  refine AWP.entryStoreOwn (id := 101) m e hW hidx pre4 (p.its ++ [data]) (by simp) (by simp) rfl rfl rfl (congrArg (fun z => some (Blk.row 9 false 1 z C3)) hrow) rfl fun cx E3 m e hP4 hW => ?_
                  rw [hP3] at hP4
                  refine AWP.lowM m e eA fun cx m e hP hw5 => ?_
                  rw [hP4] at hP
                  refine AWP.runL e tab_ok L4 300 rfl (by first | trivial | (simp [in64] <;> omega) | (simp only [in64, true_and, and_true]; omega)) ?_
                  refine AWP.lessR e [] ?_ ?_ ?_ ?_ ?_ ?_ (nx2 cx ⟨E3, m, e, hP, by rw [hw5, hw1, hone]; exact hW, hlt2⟩)
                  · exact ⟨rfl, rfl, rfl, rfl, rfl, rfl, rfl, rfl, rfl, rfl, rfl, rfl, trivial⟩
                  · exact ⟨rfl, rfl, rfl, rfl, trivial⟩
                  · rfl
                  · exact ⟨rfl, rfl, rfl, rfl, rfl, rfl, rfl, okRow _, trivial⟩
                  · rfl
                  · rfl
                · have hr := of_decide_eq_false hr
                  rcases cases_b p.best with q3 | q3
                  · have hE : putOne os a.who data p = ({ p with its := p.its.drop 1 ++ [data] }, 1, 1) := by unfold putOne; rw [hgoes, q1, q2]; simp [hr, q3]
                    rw [hE] at hone
                    refine AWP.runL e tab_ok L4 300 rfl (by first | trivial | (simp [in64] <;> omega) | (simp only [in64, true_and, and_true]; omega)) ?_
                    repeat (
                      first
                        | (refine AWP.askT rfl ?_; (first | (refine Told.t rfl ?_) | (refine Told.f rfl ?_) | (refine Told.t ?_ ?_; (focus assumption)) | (refine Told.f ?_ ?_; (focus assumption)) | (refine Told.t ?_ ?_; (focus (first | (simp; omega) | (simp [*]; done)); done)) | (refine Told.f ?_ ?_; (focus (first | (simp; omega) | (simp [*]; done)); done))); refine AWP.runL e tab_ok L4 300 rfl (by first | trivial | (simp [in64] <;> omega) | (simp only [in64, true_and, and_true]; omega)) ?_)
                        | (refine AWP.eq_agg e tab_ok rfl rfl rfl (.inl ⟨rfl, rfl⟩) ?_ 5 (by omega) rfl ?_ rfl rfl rfl rfl rfl rfl rfl ?_; (focus kernel_rfl); (focus kernel_rfl); refine AWP.runL e tab_ok L4 300 rfl (by first | trivial | (simp [in64] <;> omega) | (simp only [in64, true_and, and_true]; omega)) ?_)
                        | (refine AWP.eq_agg e tab_ok rfl rfl rfl (.inr ⟨rfl, rfl⟩) ?_ 5 (by omega) rfl ?_ rfl rfl rfl rfl rfl rfl rfl ?_; (focus kernel_rfl); (focus kernel_rfl); refine AWP.runL e tab_ok L4 300 rfl (by first | trivial | (simp [in64] <;> omega) | (simp only [in64, true_and, and_true]; omega)) ?_)
                      )
                    refine AWP.untakeK (id := 19) m e hW (by rw [hw2]; exact hx) (by rw [hw2]; rfl) rfl fun cx m e hP3 hW => ?_
                    rw [hP2] at hP3
                    refine AWP.shareK m e hW (keyW p) fun cx m e hP4 hW hx => ?_
                    rw [hw2] at hx
                    rw [hP3] at hP4
                    refine AWP.keep L4 rfl ?_
                    refine AWP.drcP 300 rfl rfl (by kernel_rfl) ?_
                    repeat (
                      first
                        | (refine DrC.v rfl (fun c _ => VStep.ev e tab_ok rfl rfl ?_) (fun c => rfl) ?_; (focus (first | assumption | with_reducible trivial | rfl | (simp; omega) | (simp [in64]; omega) | (simp [*]; done))))
                        | (refine DrC.load e tab_ok rfl (fun c => rfl) rfl (fun c => rfl) (fun c => rfl) (fun c => rfl) ?_)
                        | (refine DrC.store e tab_ok rfl (fun c => rfl) (fun c => rfl) rfl (fun c => rfl) (fun c => rfl) (fun c => rfl) (fun c => rfl) (fun c => rfl) (fun c => rfl) rfl ?_)
                      )
                    refine DrC.row 101 e tab_ok rfl rfl (fun c => rfl) rfl rfl rfl ?_
                    repeat (
                      first
                        | (refine DrC.v rfl (fun c _ => VStep.ev e tab_ok rfl rfl ?_) (fun c => rfl) ?_; (focus (first | assumption | with_reducible trivial | rfl | (simp; omega) | (simp [in64]; omega) | (simp [*]; done))))
                        | (refine DrC.load e tab_ok rfl (fun c => rfl) rfl (fun c => rfl) (fun c => rfl) (fun c => rfl) ?_)
                        | (refine DrC.store e tab_ok rfl (fun c => rfl) (fun c => rfl) rfl (fun c => rfl) (fun c => rfl) (fun c => rfl) (fun c => rfl) (fun c => rfl) (fun c => rfl) rfl ?_)
                      )
                    refine DrC.v rfl (fun c hp0 => VStep.lookupX (hp := hp0) (q := keyW p) (sv := slS p.its) m e (.inl rfl) hW.obj und41 key45 zero34 rfl rfl rfl hx) (fun c => rfl) ?_
                    repeat (
                      first
                        | (refine DrC.v rfl (fun c _ => VStep.ev e tab_ok rfl rfl ?_) (fun c => rfl) ?_; (focus (first | assumption | with_reducible trivial | rfl | (simp; omega) | (simp [in64]; omega) | (simp [*]; done))))
                        | (refine DrC.load e tab_ok rfl (fun c => rfl) rfl (fun c => rfl) (fun c => rfl) (fun c => rfl) ?_)
                        | (refine DrC.store e tab_ok rfl (fun c => rfl) (fun c => rfl) rfl (fun c => rfl) (fun c => rfl) (fun c => rfl) (fun c => rfl) (fun c => rfl) (fun c => rfl) rfl ?_)
                      )
                    have hE3 : List.drop ((some (1 : Int)).getD 0).toNat (List.take ((none : Option Int).getD ((rowS p.its).length : Int)).toNat (rowS p.its)) = rowS (p.its.drop 1) := drop_map (fun v => [DV.v (.string v)]) 1 (rowS p.its).length p.its (by simp)
                    refine DrC.append 102 e tab_ok rfl (fun c => rfl) (fun c => rfl) (fun c => rfl) rfl rfl rfl (fun _ => .sl _) rfl (by rw [hE3]; exact rowS_cells _) (by rw [hE3]; simp; omega) (by rw [hE3]; simp; omega) rfl rfl (by rw [hE3]; exact rowS_ok 0 _) rfl ?_
                    repeat (
                      first
                        | (refine DrC.v rfl (fun c _ => VStep.ev e tab_ok rfl rfl ?_) (fun c => rfl) ?_; (focus (first | assumption | with_reducible trivial | rfl | (simp; omega) | (simp [in64]; omega) | (simp [*]; done))))
                        | (refine DrC.load e tab_ok rfl (fun c => rfl) rfl (fun c => rfl) (fun c => rfl) (fun c => rfl) ?_)
                        | (refine DrC.store e tab_ok rfl (fun c => rfl) (fun c => rfl) rfl (fun c => rfl) (fun c => rfl) (fun c => rfl) (fun c => rfl) (fun c => rfl) (fun c => rfl) rfl ?_)
                      )
                    refine DrC.row 103 e tab_ok rfl rfl (fun c => rfl) rfl rfl rfl ?_
                    repeat (
                      first
                        | (refine DrC.v rfl (fun c _ => VStep.ev e tab_ok rfl rfl ?_) (fun c => rfl) ?_; (focus (first | assumption | with_reducible trivial | rfl | (simp; omega) | (simp [in64]; omega) | (simp [*]; done))))
                        | (refine DrC.load e tab_ok rfl (fun c => rfl) rfl (fun c => rfl) (fun c => rfl) (fun c => rfl) ?_)
                        | (refine DrC.store e tab_ok rfl (fun c => rfl) (fun c => rfl) rfl (fun c => rfl) (fun c => rfl) (fun c => rfl) (fun c => rfl) (fun c => rfl) (fun c => rfl) rfl ?_)
                      )
                    refine DrC.appendO 104 e tab_ok rfl (fun c => rfl) (fun c => rfl) (fun c => rfl) rfl rfl rfl (fun c => rfl) rfl (by simp) (by simp [allCells, isCell]) (by rw [hE3]; simp; omega) (by rw [hE3]; simp; omega) rfl rfl ?_ rfl ?_
                    · rw [hE3]
                      intro e he
                      rcases List.mem_append.1 he with he | he
                      · exact rowS_ok 0 _ e he
                      · simp only [List.mem_singleton] at he
                        subst he
                        rfl
                    refine DrC.fin e rfl ?_ (fun c => rfl) rfl rfl ?_ ?_ (fun cp => ?_)
                    (focus (intro c; kernel_rfl))
                    (focus (repeat' (first | exact True.intro | (refine And.intro ?_ ?_) | rfl | assumption | exact okRow _)))
                    (focus (repeat' (first | exact True.intro | (refine And.intro (fun c C => ?_) ?_)) <;> (repeat' (first | exact All2.nil | (refine All2.cons ⟨rfl, ?_⟩ ?_) | exact Or.inr rfl | (refine Or.inl ?_; kernel_rfl)))))
                    dsimp only [tmS, hpS, tput, effH]
                    have hr3 : ([] ++ List.map (fun x => List.map SV.d x) (List.drop ((some (1 : Int)).getD 0).toNat (List.take ((none : Option Int).getD ((rowS p.its).length : Int)).toNat (rowS p.its)))) ++ [[.s data]] = rowT ([] ++ (p.its.drop 1 ++ [data])) := by
                      rw [hE3]
                      show List.map _ (List.map _ (p.its.drop 1)) ++ [[SV.s data]] = List.map _ (p.its.drop 1 ++ [data])
                      rw [List.map_append, List.map_map]
                      rfl
                    refine AWP.updateOwn (id := 104) m e hW (.inr rfl) und41 key45 [] (p.its.drop 1 ++ [data]) rfl ?_ rfl rfl rfl (congrArg (fun z => some (Blk.row 9 false 1 z _)) hr3) rfl fun cx E2 m e hP5 hW => ?_
                    · rw [hE3]; simp
                    rw [hP4] at hP5
                    refine AWP.lowM m e eA fun cx m e hP hw5 => ?_
                    rw [hP5] at hP
                    refine AWP.runL e tab_ok L4 300 rfl (by first | trivial | (simp [in64] <;> omega) | (simp only [in64, true_and, and_true]; omega)) ?_
                    refine AWP.lessR e [] ?_ ?_ ?_ ?_ ?_ ?_ (nx2 cx ⟨E2, m, e, hP, by rw [hw5, hw1, hone]; exact hW, hlt2⟩)
                    · exact ⟨rfl, rfl, rfl, rfl, rfl, rfl, rfl, rfl, rfl, rfl, rfl, rfl, trivial⟩
                    · exact ⟨rfl, rfl, rfl, rfl, trivial⟩
                    · rfl
                    · exact ⟨rfl, rfl, rfl, rfl, rfl, rfl, rfl, okRow _, trivial⟩
                    · rfl
                    · rfl
                  · have hE : putOne os a.who data p = (p, 0, 1) := by unfold putOne; rw [hgoes, q1, q2]; simp [hr, q3]
                    rw [hE] at hone
                    refine AWP.runL e tab_ok L4 300 rfl (by first | trivial | (simp [in64] <;> omega) | (simp only [in64, true_and, and_true]; omega)) ?_
                    repeat (
                      first
                        | (refine AWP.askT rfl ?_; (first | (refine Told.t rfl ?_) | (refine Told.f rfl ?_) | (refine Told.t ?_ ?_; (focus assumption)) | (refine Told.f ?_ ?_; (focus assumption)) | (refine Told.t ?_ ?_; (focus (first | (simp; omega) | (simp [*]; done)); done)) | (refine Told.f ?_ ?_; (focus (first | (simp; omega) | (simp [*]; done)); done))); refine AWP.runL e tab_ok L4 300 rfl (by first | trivial | (simp [in64] <;> omega) | (simp only [in64, true_and, and_true]; omega)) ?_)
                        | (refine AWP.eq_agg e tab_ok rfl rfl rfl (.inl ⟨rfl, rfl⟩) ?_ 5 (by omega) rfl ?_ rfl rfl rfl rfl rfl rfl rfl ?_; (focus kernel_rfl); (focus kernel_rfl); refine AWP.runL e tab_ok L4 300 rfl (by first | trivial | (simp [in64] <;> omega) | (simp only [in64, true_and, and_true]; omega)) ?_)
                        | (refine AWP.eq_agg e tab_ok rfl rfl rfl (.inr ⟨rfl, rfl⟩) ?_ 5 (by omega) rfl ?_ rfl rfl rfl rfl rfl rfl rfl ?_; (focus kernel_rfl); (focus kernel_rfl); refine AWP.runL e tab_ok L4 300 rfl (by first | trivial | (simp [in64] <;> omega) | (simp only [in64, true_and, and_true]; omega)) ?_)
                      )
                    refine AWP.untakeK (id := 19) m e hW (by rw [hw2]; exact hx) (by rw [hw2]; rfl) rfl fun cx m e hP3 hW => ?_
                    rw [hP2] at hP3
                    refine AWP.lowM m e eA fun cx m e hP hw5 => ?_
                    rw [hP3] at hP
                    refine AWP.lessR e [] ?_ ?_ ?_ ?_ ?_ ?_ (nx2 cx ⟨E, m, e, hP, by rw [hw5, hsm hone]; exact hW, hlt2⟩)
                    · exact ⟨rfl, rfl, rfl, rfl, rfl, rfl, rfl, rfl, rfl, rfl, rfl, rfl, trivial⟩
                    · exact ⟨rfl, rfl, rfl, rfl, trivial⟩
                    · rfl
                    · exact ⟨rfl, rfl, rfl, rfl, rfl, rfl, rfl, okRow _, trivial⟩
                    · rfl
                    · rfl
              · have hE : putOne os a.who data p = (p, 0, 0) := by unfold putOne; rw [hgoes, q1, q2]; rfl
                rw [hE] at hone
                rw [q2] at hon
                refine AWP.runL e tab_ok L4 300 rfl (by first | trivial | (simp [in64] <;> omega) | (simp only [in64, true_and, and_true]; omega)) ?_
                refine AWP.idx e tab_ok rfl rfl rfl rfl j rfl hel2 ?_
                refine AWP.runL e tab_ok L4 300 rfl (by first | trivial | (simp [in64] <;> omega) | (simp only [in64, true_and, and_true]; omega)) ?_
                repeat (
                  first
                    | (refine AWP.askT rfl ?_; (first | (refine Told.t rfl ?_) | (refine Told.f rfl ?_) | (refine Told.t ?_ ?_; (focus assumption)) | (refine Told.f ?_ ?_; (focus assumption)) | (refine Told.t ?_ ?_; (focus (first | (simp; omega) | (simp [*]; done)); done)) | (refine Told.f ?_ ?_; (focus (first | (simp; omega) | (simp [*]; done)); done))); refine AWP.runL e tab_ok L4 300 rfl (by first | trivial | (simp [in64] <;> omega) | (simp only [in64, true_and, and_true]; omega)) ?_)
                    | (refine AWP.eq_agg e tab_ok rfl rfl rfl (.inl ⟨rfl, rfl⟩) ?_ 5 (by omega) rfl ?_ rfl rfl rfl rfl rfl rfl rfl ?_; (focus kernel_rfl); (focus kernel_rfl); refine AWP.runL e tab_ok L4 300 rfl (by first | trivial | (simp [in64] <;> omega) | (simp only [in64, true_and, and_true]; omega)) ?_)
                    | (refine AWP.eq_agg e tab_ok rfl rfl rfl (.inr ⟨rfl, rfl⟩) ?_ 5 (by omega) rfl ?_ rfl rfl rfl rfl rfl rfl rfl ?_; (focus kernel_rfl); (focus kernel_rfl); refine AWP.runL e tab_ok L4 300 rfl (by first | trivial | (simp [in64] <;> omega) | (simp only [in64, true_and, and_true]; omega)) ?_)
                  )
                refine AWP.idx_own e tab_ok rfl rfl rfl rfl s hst (by omega) ?_
                rw [Nat.zero_add]
                refine AWP.runL e tab_ok L4 300 rfl (by first | trivial | (simp [in64] <;> omega) | (simp only [in64, true_and, and_true]; omega)) ?_
                refine AWP.load_el e tab_ok rfl rfl rfl rfl hon rfl ?_
                refine AWP.runL e tab_ok L4 300 rfl (by first | trivial | (simp [in64] <;> omega) | (simp only [in64, true_and, and_true]; omega)) ?_
                repeat (
                  first
                    | (refine AWP.askT rfl ?_; (first | (refine Told.t rfl ?_) | (refine Told.f rfl ?_) | (refine Told.t ?_ ?_; (focus assumption)) | (refine Told.f ?_ ?_; (focus assumption)) | (refine Told.t ?_ ?_; (focus (first | (simp; omega) | (simp [*]; done)); done)) | (refine Told.f ?_ ?_; (focus (first | (simp; omega) | (simp [*]; done)); done))); refine AWP.runL e tab_ok L4 300 rfl (by first | trivial | (simp [in64] <;> omega) | (simp only [in64, true_and, and_true]; omega)) ?_)
                    | (refine AWP.eq_agg e tab_ok rfl rfl rfl (.inl ⟨rfl, rfl⟩) ?_ 5 (by omega) rfl ?_ rfl rfl rfl rfl rfl rfl rfl ?_; (focus kernel_rfl); (focus kernel_rfl); refine AWP.runL e tab_ok L4 300 rfl (by first | trivial | (simp [in64] <;> omega) | (simp only [in64, true_and, and_true]; omega)) ?_)
                    | (refine AWP.eq_agg e tab_ok rfl rfl rfl (.inr ⟨rfl, rfl⟩) ?_ 5 (by omega) rfl ?_ rfl rfl rfl rfl rfl rfl rfl ?_; (focus kernel_rfl); (focus kernel_rfl); refine AWP.runL e tab_ok L4 300 rfl (by first | trivial | (simp [in64] <;> omega) | (simp only [in64, true_and, and_true]; omega)) ?_)
                  )
                refine AWP.lessR e [] ?_ ?_ ?_ ?_ ?_ ?_ (nx2 cx ⟨E, m, e, hP, by rw [hsm hone]; exact hW, hlt2⟩)
                · exact ⟨rfl, rfl, rfl, rfl, rfl, rfl, rfl, rfl, rfl, rfl, rfl, rfl, trivial⟩
                · exact ⟨rfl, rfl, rfl, rfl, trivial⟩
                · rfl
                · exact ⟨rfl, rfl, rfl, rfl, rfl, rfl, rfl, okRow _, trivial⟩
                · rfl
                · rfl
            · have nq : (p.fr != a.who) = true := by rw [bne, q1]; rfl
              have hE : putOne os a.who data p = (p, 0, 0) := by unfold putOne; rw [hgoes, q1]; rfl
              rw [hE] at hone
              refine AWP.runL e tab_ok L4 300 rfl (by first | trivial | (simp [in64] <;> omega) | (simp only [in64, true_and, and_true]; omega)) ?_
              refine AWP.idx e tab_ok rfl rfl rfl rfl j rfl hel2 ?_
              refine AWP.runL e tab_ok L4 300 rfl (by first | trivial | (simp [in64] <;> omega) | (simp only [in64, true_and, and_true]; omega)) ?_
              repeat (
                first
                  | (refine AWP.askT rfl ?_; (first | (refine Told.t rfl ?_) | (refine Told.f rfl ?_) | (refine Told.t ?_ ?_; (focus assumption)) | (refine Told.f ?_ ?_; (focus assumption)) | (refine Told.t ?_ ?_; (focus (first | (simp; omega) | (simp [*]; done)); done)) | (refine Told.f ?_ ?_; (focus (first | (simp; omega) | (simp [*]; done)); done))); refine AWP.runL e tab_ok L4 300 rfl (by first | trivial | (simp [in64] <;> omega) | (simp only [in64, true_and, and_true]; omega)) ?_)
                  | (refine AWP.eq_agg e tab_ok rfl rfl rfl (.inl ⟨rfl, rfl⟩) ?_ 5 (by omega) rfl ?_ rfl rfl rfl rfl rfl rfl rfl ?_; (focus kernel_rfl); (focus kernel_rfl); refine AWP.runL e tab_ok L4 300 rfl (by first | trivial | (simp [in64] <;> omega) | (simp only [in64, true_and, and_true]; omega)) ?_)
                  | (refine AWP.eq_agg e tab_ok rfl rfl rfl (.inr ⟨rfl, rfl⟩) ?_ 5 (by omega) rfl ?_ rfl rfl rfl rfl rfl rfl rfl ?_; (focus kernel_rfl); (focus kernel_rfl); refine AWP.runL e tab_ok L4 300 rfl (by first | trivial | (simp [in64] <;> omega) | (simp only [in64, true_and, and_true]; omega)) ?_)
                )
              refine AWP.lessR e [] ?_ ?_ ?_ ?_ ?_ ?_ (nx2 cx ⟨E, m, e, hP, by rw [hsm hone]; exact hW, hlt2⟩)
              · exact ⟨rfl, rfl, rfl, rfl, rfl, rfl, rfl, rfl, rfl, rfl, rfl, rfl, trivial⟩
              · exact ⟨rfl, rfl, rfl, rfl, trivial⟩
              · rfl
              · exact ⟨rfl, rfl, rfl, rfl, rfl, rfl, rfl, okRow _, trivial⟩
              · rfl
              · rfl
          · clear next2
            have hlt2 : ¬ j < qs.length := by have := of_decide_eq_false hlt2; omega
            obtain rfl : j = qs.length := by omega
            rw [chTo_end] at hW
            refine AWP.runL e tab_ok L4 300 rfl (by first | trivial | (simp [in64] <;> omega) | (simp only [in64, true_and, and_true]; omega)) ?_
            refine AWP.lessR e [] ?_ ?_ ?_ ?_ ?_ ?_ (nx ((qs.map f)) (os) cx ⟨_, m, e, by first | exact hP | exact hP.trans hPA.symm, hW, hlt, hq2, hos⟩)
            · exact ⟨rfl, rfl, rfl, rfl, rfl, rfl, trivial⟩
            · exact ⟨rfl, rfl, trivial⟩
            · rfl
            · exact ⟨rfl, rfl, rfl, okRow _, trivial⟩
            · rfl
            · rfl
        · clear k0
          refine AWP.runL e tab_ok L4 300 rfl (by first | trivial | (simp [in64] <;> omega) | (simp only [in64, true_and, and_true]; omega)) ?_
          refine AWP.cond2 rfl (fun k1 => ?_) (fun k1 => ?_)
          · clear k1 hk
            rcases cases_b (qs.any (fits a.who)) with qa | qa
            · obtain ⟨w, hwl, hwn, hwf⟩ := fits_some qa
              have hto : qs[w].to = a.who ∧ 0 < qs[w].its.length := by
                unfold fits at hwf
                simpa using hwf
              obtain ⟨x, its, hx⟩ : ∃ x its, qs[w].its = x :: its := by
                cases h : qs[w].its with
                | nil => rw [h] at hto; simp at hto
                | cons x its => exact ⟨x, its, rfl⟩
              have c2 := take_ok qs os a.who hq hwl hwn hwf hx
              obtain ⟨hq2, hw1, hw2⟩ := took hq hwl hx
              have hkw : keyW qs[w] = (qs[w].fr, a.who) := by unfold keyW; rw [hto.1]
              rw [hkw] at hw1 hw2
              generalize qs.set w { qs[w] with its := its } = qs2 at *
              clear hwn hwf hto hx hkw
              generalize qs[w].fr = fr at *
              refine AWP.runL e tab_ok L4 300 rfl (by first | trivial | (simp [in64] <;> omega) | (simp only [in64, true_and, and_true]; omega)) ?_
              repeat (
                first
                  | (refine AWP.askT rfl ?_; (first | (refine Told.t rfl ?_) | (refine Told.f rfl ?_) | (refine Told.t ?_ ?_; (focus assumption)) | (refine Told.f ?_ ?_; (focus assumption)) | (refine Told.t ?_ ?_; (focus (first | (simp; omega) | (simp [*]; done)); done)) | (refine Told.f ?_ ?_; (focus (first | (simp; omega) | (simp [*]; done)); done))); refine AWP.runL e tab_ok L4 300 rfl (by first | trivial | (simp [in64] <;> omega) | (simp only [in64, true_and, and_true]; omega)) ?_)
                  | (refine AWP.callQ e rfl rfl ?_; (first | refine CallQ.mk (c2) rfl rfl ?_); refine AWP.runL e tab_ok L4 300 rfl (by first | trivial | (simp [in64] <;> omega) | (simp only [in64, true_and, and_true]; omega)) ?_)
                  | (refine AWP.eq_agg e tab_ok rfl rfl rfl (.inl ⟨rfl, rfl⟩) ?_ 5 (by omega) rfl ?_ rfl rfl rfl rfl rfl rfl rfl ?_; (focus kernel_rfl); (focus kernel_rfl); refine AWP.runL e tab_ok L4 300 rfl (by first | trivial | (simp [in64] <;> omega) | (simp only [in64, true_and, and_true]; omega)) ?_)
                  | (refine AWP.eq_agg e tab_ok rfl rfl rfl (.inr ⟨rfl, rfl⟩) ?_ 5 (by omega) rfl ?_ rfl rfl rfl rfl rfl rfl rfl ?_; (focus kernel_rfl); (focus kernel_rfl); refine AWP.runL e tab_ok L4 300 rfl (by first | trivial | (simp [in64] <;> omega) | (simp only [in64, true_and, and_true]; omega)) ?_)
                )
              refine AWP.takeK m e hW (fr, a.who) fun cx C pre m e hP2 hW hx9 => ?_
              rw [hP] at hP2
              rw [hw2] at hx9 ⊢
              have hok := okRT 0 (pre ++ x :: its)
              refine AWP.lookupX (q := (fr, a.who)) (sv := .own 18 1 pre.length (x :: its).length C) m e (.inl rfl) hW.obj und41 key45 zero34 rfl rfl rfl hx9 ?_
              refine AWP.runL e tab_ok L4 300 rfl (by first | trivial | (simp [in64] <;> omega) | (simp only [in64, true_and, and_true]; omega)) ?_
              repeat (
                first
                  | (refine AWP.askT rfl ?_; (first | (refine Told.t rfl ?_) | (refine Told.f rfl ?_) | (refine Told.t ?_ ?_; (focus assumption)) | (refine Told.f ?_ ?_; (focus assumption)) | (refine Told.t ?_ ?_; (focus (first | (simp; omega) | (simp [*]; done)); done)) | (refine Told.f ?_ ?_; (focus (first | (simp; omega) | (simp [*]; done)); done))); refine AWP.runL e tab_ok L4 300 rfl (by first | trivial | (simp [in64] <;> omega) | (simp only [in64, true_and, and_true]; omega)) ?_)
                  | (refine AWP.eq_agg e tab_ok rfl rfl rfl (.inl ⟨rfl, rfl⟩) ?_ 5 (by omega) rfl ?_ rfl rfl rfl rfl rfl rfl rfl ?_; (focus kernel_rfl); (focus kernel_rfl); refine AWP.runL e tab_ok L4 300 rfl (by first | trivial | (simp [in64] <;> omega) | (simp only [in64, true_and, and_true]; omega)) ?_)
                  | (refine AWP.eq_agg e tab_ok rfl rfl rfl (.inr ⟨rfl, rfl⟩) ?_ 5 (by omega) rfl ?_ rfl rfl rfl rfl rfl rfl rfl ?_; (focus kernel_rfl); (focus kernel_rfl); refine AWP.runL e tab_ok L4 300 rfl (by first | trivial | (simp [in64] <;> omega) | (simp only [in64, true_and, and_true]; omega)) ?_)
                )
              refine AWP.lookupX (q := (fr, a.who)) (sv := .own 18 1 pre.length (x :: its).length C) m e (.inl rfl) hW.obj und41 key45 zero34 rfl rfl rfl hx9 ?_
              refine AWP.runL e tab_ok L4 300 rfl (by first | trivial | (simp [in64] <;> omega) | (simp only [in64, true_and, and_true]; omega)) ?_
              refine AWP.idx_own e tab_ok rfl rfl rfl rfl 0 rfl (by simp) ?_
              rw [Nat.add_zero]
              refine AWP.runL e tab_ok L4 300 rfl (by first | trivial | (simp [in64] <;> omega) | (simp only [in64, true_and, and_true]; omega)) ?_
              have hel9 : (rowT (pre ++ x :: its))[pre.length]? = some [.s x] := by simp
              refine AWP.load_el e tab_ok rfl rfl rfl rfl hel9 rfl ?_
              refine AWP.runL e tab_ok L4 300 rfl (by first | trivial | (simp [in64] <;> omega) | (simp only [in64, true_and, and_true]; omega)) ?_
              repeat (
                first
                  | (refine AWP.askT rfl ?_; (first | (refine Told.t rfl ?_) | (refine Told.f rfl ?_) | (refine Told.t ?_ ?_; (focus assumption)) | (refine Told.f ?_ ?_; (focus assumption)) | (refine Told.t ?_ ?_; (focus (first | (simp; omega) | (simp [*]; done)); done)) | (refine Told.f ?_ ?_; (focus (first | (simp; omega) | (simp [*]; done)); done))); refine AWP.runL e tab_ok L4 300 rfl (by first | trivial | (simp [in64] <;> omega) | (simp only [in64, true_and, and_true]; omega)) ?_)
                  | (refine AWP.eq_agg e tab_ok rfl rfl rfl (.inl ⟨rfl, rfl⟩) ?_ 5 (by omega) rfl ?_ rfl rfl rfl rfl rfl rfl rfl ?_; (focus kernel_rfl); (focus kernel_rfl); refine AWP.runL e tab_ok L4 300 rfl (by first | trivial | (simp [in64] <;> omega) | (simp only [in64, true_and, and_true]; omega)) ?_)
                  | (refine AWP.eq_agg e tab_ok rfl rfl rfl (.inr ⟨rfl, rfl⟩) ?_ 5 (by omega) rfl ?_ rfl rfl rfl rfl rfl rfl rfl ?_; (focus kernel_rfl); (focus kernel_rfl); refine AWP.runL e tab_ok L4 300 rfl (by first | trivial | (simp [in64] <;> omega) | (simp only [in64, true_and, and_true]; omega)) ?_)
                )
              refine AWP.keep L4 rfl ?_
              refine AWP.drgP 300 rfl rfl (by kernel_rfl) ?_
              (refine DrG.runN e tab_ok 200 rfl (by first | trivial | (simp [in64] <;> omega) | (simp only [in64, true_and, and_true]; omega)) ?_)
              refine DrG.v rfl (fun hp0 => VStep.lookupX (hp := hp0) (q := (fr, a.who)) (sv := .own 18 1 pre.length (x :: its).length C) m e (.inl rfl) hW.obj und41 key45 zero34 rfl rfl rfl hx9) rfl ?_
              (refine DrG.runN e tab_ok 200 rfl (by first | trivial | (simp [] <;> omega) | (simp only [in64, true_and, and_true]; omega)) ?_)
              refine DrG.finK e rfl ?_ rfl rfl rfl ?_ ?_
              (focus kernel_rfl)
              (focus (repeat' (first | exact True.intro | (refine And.intro ?_ ?_) | rfl | assumption | exact okRow _)))
              dsimp only [tmS, hpS, tput, effH]
              refine AWP.updateOwn (id := 18) m e hW (.inr rfl) und41 key45 (pre ++ [x]) its ?_ ?_ rfl rfl rfl (congrArg (fun z => some (Blk.row 9 false 1 z C)) (congrArg rowT (by simp))) rfl fun cx E2 m e hP3 hW => ?_
              · simp
              · simp
              rw [hP2] at hP3
              rw [← hw1] at hW
              refine AWP.lowM m e eA fun cx m e hP hw5 => ?_
              rw [hP3] at hP
              refine AWP.runL e tab_ok L4 300 rfl (by first | trivial | (simp [in64] <;> omega) | (simp only [in64, true_and, and_true]; omega)) ?_
              refine AWP.lessR e [] ?_ ?_ ?_ ?_ ?_ ?_ (nx (qs2) (os) cx ⟨_, m, e, by first | exact hP | exact hP.trans hPA.symm, by rw [hw5]; exact hW, hlt, hq2, hos⟩)
              · exact ⟨rfl, rfl, rfl, rfl, rfl, rfl, trivial⟩
              · exact ⟨rfl, rfl, trivial⟩
              · rfl
              · exact ⟨rfl, rfl, rfl, okRow _, trivial⟩
              · rfl
              · rfl
            · have c2 := take_none qs os a.who hq qa
              refine AWP.runL e tab_ok L4 300 rfl (by first | trivial | (simp [in64] <;> omega) | (simp only [in64, true_and, and_true]; omega)) ?_
              repeat (
                first
                  | (refine AWP.askT rfl ?_; (first | (refine Told.t rfl ?_) | (refine Told.f rfl ?_) | (refine Told.t ?_ ?_; (focus assumption)) | (refine Told.f ?_ ?_; (focus assumption)) | (refine Told.t ?_ ?_; (focus (first | (simp; omega) | (simp [*]; done)); done)) | (refine Told.f ?_ ?_; (focus (first | (simp; omega) | (simp [*]; done)); done))); refine AWP.runL e tab_ok L4 300 rfl (by first | trivial | (simp [in64] <;> omega) | (simp only [in64, true_and, and_true]; omega)) ?_)
                  | (refine AWP.callQ e rfl rfl ?_; (first | refine CallQ.mk (c2) rfl rfl ?_); refine AWP.runL e tab_ok L4 300 rfl (by first | trivial | (simp [in64] <;> omega) | (simp only [in64, true_and, and_true]; omega)) ?_)
                  | (refine AWP.eq_agg e tab_ok rfl rfl rfl (.inl ⟨rfl, rfl⟩) ?_ 5 (by omega) rfl ?_ rfl rfl rfl rfl rfl rfl rfl ?_; (focus kernel_rfl); (focus kernel_rfl); refine AWP.runL e tab_ok L4 300 rfl (by first | trivial | (simp [in64] <;> omega) | (simp only [in64, true_and, and_true]; omega)) ?_)
                  | (refine AWP.eq_agg e tab_ok rfl rfl rfl (.inr ⟨rfl, rfl⟩) ?_ 5 (by omega) rfl ?_ rfl rfl rfl rfl rfl rfl rfl ?_; (focus kernel_rfl); (focus kernel_rfl); refine AWP.runL e tab_ok L4 300 rfl (by first | trivial | (simp [in64] <;> omega) | (simp only [in64, true_and, and_true]; omega)) ?_)
                )
              refine AWP.rangeM m e hW und41 rfl rfl fun cx r m e hP2 hW hI hrb => ?_
              rw [hP] at hP2
              refine AWP.lowM m e eA fun cx m e hP hw5 => ?_
              rw [hP2] at hP
              rw [← hw5] at hW hI
              clear hw5 hP2
              refine AWP.runL e tab_ok L4 300 rfl (by first | trivial | (simp [in64] <;> omega) | (simp only [in64, true_and, and_true]; omega)) ?_
              refine AWP.loopM (ι := Array Nat) (fun _ => ⟨[(171, .d (.v (.pointer (some ⟨r, 0, none⟩)))), (9, .ptr 15 0), (63, .i i), (62, .i acs.length), (61, slD acs), (7, .own 14 1 0 on.length C2), (6, .d (.v (.map (some b)))), (2, .ptr 0 0)], [(15, .box (dS a)), (0, .box [slP qs, slB os]), (14, .row 4 false 1 (rowB os) C2)], 18⟩) (fun s c => MapCx cA c (SI b E r) ∧ Env c Try.prog Try.f4 0 ∧ c.Post = cA.Post ∧ WMap 9 c.w0 b E (wt qs) none ∧ c.w0.heap[r]? = some (itO b E s) ∧ s.toList.Nodup ∧ ∀ j ∈ s.toList, j < E.length) (fun s => E.length - s.size) #[] ⟨m, e, hP.trans hPA.symm, hW, hI, List.nodup_nil, fun j hj => by cases hj⟩ (fun s c h => ⟨h.1.P.trans m.P.symm, h.1.R.trans m.R.symm⟩) ?_ ?_
              · intro g
                refine AWP.lessR e [] ?_ ?_ ?_ ?_ ?_ ?_ g
                · exact ⟨rfl, rfl, rfl, rfl, rfl, rfl, rfl, rfl, trivial⟩
                · exact ⟨rfl, rfl, rfl, trivial⟩
                · rfl
                · exact ⟨rfl, rfl, rfl, rfl, rfl, okRow _, trivial⟩
                · rfl
                · rfl
              clear hP hW e m c2 hI
              rintro sn cx Φ2 ⟨m, e, hP, hW, hI, hsn, hsl⟩ next2
              refine AWP.runL e tab_ok L4 300 rfl (by first | trivial | (simp [in64] <;> omega) | (simp only [in64, true_and, and_true]; omega)) ?_
              refine AWP.nextM m e hW hI hrb rfl rfl (fun _ => ?_) fun cx j kk v hj hns m e hP2 hW hI => ?_
              · clear next2
                have m := m.weak (S' := SE b E none) fun q hq => Or.inr hq
                refine AWP.runL e tab_ok L4 300 rfl (by first | trivial | (simp [in64] <;> omega) | (simp only [in64, true_and, and_true]; omega)) ?_
                repeat (
                  first
                    | (refine AWP.askT rfl ?_; (first | (refine Told.t rfl ?_) | (refine Told.f rfl ?_) | (refine Told.t ?_ ?_; (focus assumption)) | (refine Told.f ?_ ?_; (focus assumption)) | (refine Told.t ?_ ?_; (focus (first | (simp; omega) | (simp [*]; done)); done)) | (refine Told.f ?_ ?_; (focus (first | (simp; omega) | (simp [*]; done)); done))); refine AWP.runL e tab_ok L4 300 rfl (by first | trivial | (simp [in64] <;> omega) | (simp only [in64, true_and, and_true]; omega)) ?_)
                    | (refine AWP.eq_agg e tab_ok rfl rfl rfl (.inl ⟨rfl, rfl⟩) ?_ 5 (by omega) rfl ?_ rfl rfl rfl rfl rfl rfl rfl ?_; (focus kernel_rfl); (focus kernel_rfl); refine AWP.runL e tab_ok L4 300 rfl (by first | trivial | (simp [in64] <;> omega) | (simp only [in64, true_and, and_true]; omega)) ?_)
                    | (refine AWP.eq_agg e tab_ok rfl rfl rfl (.inr ⟨rfl, rfl⟩) ?_ 5 (by omega) rfl ?_ rfl rfl rfl rfl rfl rfl rfl ?_; (focus kernel_rfl); (focus kernel_rfl); refine AWP.runL e tab_ok L4 300 rfl (by first | trivial | (simp [in64] <;> omega) | (simp only [in64, true_and, and_true]; omega)) ?_)
                  )
                refine AWP.lessR e [] ?_ ?_ ?_ ?_ ?_ ?_ (nx (qs) (os) cx ⟨_, m, e, by first | exact hP | exact hP.trans hPA.symm, hW, hlt, hq, hos⟩)
                · exact ⟨rfl, rfl, rfl, rfl, rfl, rfl, trivial⟩
                · exact ⟨rfl, rfl, trivial⟩
                · rfl
                · exact ⟨rfl, rfl, rfl, okRow _, trivial⟩
                · rfl
                · rfl
              · clear nx
                rw [hP] at hP2
                have hjl : j < E.length := (List.getElem?_eq_some_iff.1 hj).1
                have hsn2 : (sn.push j).toList.Nodup := by
                  rw [Array.toList_push]
                  exact List.nodup_append.2 ⟨hsn, by simp, fun u hu w hw => by simp only [List.mem_singleton] at hw; subst hw; intro h; exact hns (h ▸ hu)⟩
                have hsl2 : ∀ q ∈ (sn.push j).toList, q < E.length := fun q hq => by
                  rw [Array.toList_push, List.mem_append, List.mem_singleton] at hq
                  rcases hq with h | rfl
                  · exact hsl q h
                  · exact hjl
                have hsz2 : (sn.push j).size ≤ E.length := by
                  have := nodup_len _ _ hsn2 (fun q hq => List.mem_range.2 (hsl2 q hq))
                  simpa using this
                have nx2 := fun cx' h => next2 (sn.push j) cx' h (by simp only [Array.size_push] at hsz2 ⊢; omega)
                clear next2 hsn hsl hns
                obtain ⟨a9, cap, hv⟩ := (hW.rows (kk, v) (List.mem_of_getElem? hj) (by simp)).len
                dsimp only at hv
                rcases cases_b (kk.2 == a.who) with q1 | q1
                · rw [fits_none qa (eq_of_beq q1)] at hv
                  subst hv
                  refine AWP.runL e tab_ok L4 300 rfl (by first | trivial | (simp [in64] <;> omega) | (simp only [in64, true_and, and_true]; omega)) ?_
                  repeat (
                    first
                      | (refine AWP.askT rfl ?_; (first | (refine Told.t rfl ?_) | (refine Told.f rfl ?_) | (refine Told.t ?_ ?_; (focus assumption)) | (refine Told.f ?_ ?_; (focus assumption)) | (refine Told.t ?_ ?_; (focus (first | (simp; omega) | (simp [*]; done)); done)) | (refine Told.f ?_ ?_; (focus (first | (simp; omega) | (simp [*]; done)); done))); refine AWP.runL e tab_ok L4 300 rfl (by first | trivial | (simp [in64] <;> omega) | (simp only [in64, true_and, and_true]; omega)) ?_)
                      | (refine AWP.eq_agg e tab_ok rfl rfl rfl (.inl ⟨rfl, rfl⟩) ?_ 5 (by omega) rfl ?_ rfl rfl rfl rfl rfl rfl rfl ?_; (focus kernel_rfl); (focus kernel_rfl); refine AWP.runL e tab_ok L4 300 rfl (by first | trivial | (simp [in64] <;> omega) | (simp only [in64, true_and, and_true]; omega)) ?_)
                      | (refine AWP.eq_agg e tab_ok rfl rfl rfl (.inr ⟨rfl, rfl⟩) ?_ 5 (by omega) rfl ?_ rfl rfl rfl rfl rfl rfl rfl ?_; (focus kernel_rfl); (focus kernel_rfl); refine AWP.runL e tab_ok L4 300 rfl (by first | trivial | (simp [in64] <;> omega) | (simp only [in64, true_and, and_true]; omega)) ?_)
                    )
                  refine AWP.entryM m e hW hI hj rfl rfl ?_
                  refine AWP.runL e tab_ok L4 300 rfl (by first | trivial | (simp [in64] <;> omega) | (simp only [in64, true_and, and_true]; omega)) ?_
                  repeat (
                    first
                      | (refine AWP.askT rfl ?_; (first | (refine Told.t rfl ?_) | (refine Told.f rfl ?_) | (refine Told.t ?_ ?_; (focus assumption)) | (refine Told.f ?_ ?_; (focus assumption)) | (refine Told.t ?_ ?_; (focus (first | (simp; omega) | (simp [*]; done)); done)) | (refine Told.f ?_ ?_; (focus (first | (simp; omega) | (simp [*]; done)); done))); refine AWP.runL e tab_ok L4 300 rfl (by first | trivial | (simp [in64] <;> omega) | (simp only [in64, true_and, and_true]; omega)) ?_)
                      | (refine AWP.eq_agg e tab_ok rfl rfl rfl (.inl ⟨rfl, rfl⟩) ?_ 5 (by omega) rfl ?_ rfl rfl rfl rfl rfl rfl rfl ?_; (focus kernel_rfl); (focus kernel_rfl); refine AWP.runL e tab_ok L4 300 rfl (by first | trivial | (simp [in64] <;> omega) | (simp only [in64, true_and, and_true]; omega)) ?_)
                      | (refine AWP.eq_agg e tab_ok rfl rfl rfl (.inr ⟨rfl, rfl⟩) ?_ 5 (by omega) rfl ?_ rfl rfl rfl rfl rfl rfl rfl ?_; (focus kernel_rfl); (focus kernel_rfl); refine AWP.runL e tab_ok L4 300 rfl (by first | trivial | (simp [in64] <;> omega) | (simp only [in64, true_and, and_true]; omega)) ?_)
                    )
                  refine AWP.lenV e rfl rfl rfl ?_
                  refine AWP.runL e tab_ok L4 300 rfl (by first | trivial | (simp [in64] <;> omega) | (simp only [in64, true_and, and_true]; omega)) ?_
                  repeat (
                    first
                      | (refine AWP.askT rfl ?_; (first | (refine Told.t rfl ?_) | (refine Told.f rfl ?_) | (refine Told.t ?_ ?_; (focus assumption)) | (refine Told.f ?_ ?_; (focus assumption)) | (refine Told.t ?_ ?_; (focus (first | (simp; omega) | (simp [*]; done)); done)) | (refine Told.f ?_ ?_; (focus (first | (simp; omega) | (simp [*]; done)); done))); refine AWP.runL e tab_ok L4 300 rfl (by first | trivial | (simp [in64] <;> omega) | (simp only [in64, true_and, and_true]; omega)) ?_)
                      | (refine AWP.eq_agg e tab_ok rfl rfl rfl (.inl ⟨rfl, rfl⟩) ?_ 5 (by omega) rfl ?_ rfl rfl rfl rfl rfl rfl rfl ?_; (focus kernel_rfl); (focus kernel_rfl); refine AWP.runL e tab_ok L4 300 rfl (by first | trivial | (simp [in64] <;> omega) | (simp only [in64, true_and, and_true]; omega)) ?_)
                      | (refine AWP.eq_agg e tab_ok rfl rfl rfl (.inr ⟨rfl, rfl⟩) ?_ 5 (by omega) rfl ?_ rfl rfl rfl rfl rfl rfl rfl ?_; (focus kernel_rfl); (focus kernel_rfl); refine AWP.runL e tab_ok L4 300 rfl (by first | trivial | (simp [in64] <;> omega) | (simp only [in64, true_and, and_true]; omega)) ?_)
                    )
                  refine AWP.lowM m e eA fun cx m e hP hw5 => ?_
                  rw [hP2] at hP
                  rw [← hw5] at hW hI
                  refine AWP.lessR e [] ?_ ?_ ?_ ?_ ?_ ?_ (nx2 cx ⟨m, e, hP, hW, hI, hsn2, hsl2⟩)
                  · exact ⟨rfl, rfl, rfl, rfl, rfl, rfl, rfl, rfl, trivial⟩
                  · exact ⟨rfl, rfl, rfl, trivial⟩
                  · rfl
                  · exact ⟨rfl, rfl, rfl, rfl, rfl, okRow _, trivial⟩
                  · rfl
                  · rfl
                · subst hv
                  refine AWP.runL e tab_ok L4 300 rfl (by first | trivial | (simp [in64] <;> omega) | (simp only [in64, true_and, and_true]; omega)) ?_
                  repeat (
                    first
                      | (refine AWP.askT rfl ?_; (first | (refine Told.t rfl ?_) | (refine Told.f rfl ?_) | (refine Told.t ?_ ?_; (focus assumption)) | (refine Told.f ?_ ?_; (focus assumption)) | (refine Told.t ?_ ?_; (focus (first | (simp; omega) | (simp [*]; done)); done)) | (refine Told.f ?_ ?_; (focus (first | (simp; omega) | (simp [*]; done)); done))); refine AWP.runL e tab_ok L4 300 rfl (by first | trivial | (simp [in64] <;> omega) | (simp only [in64, true_and, and_true]; omega)) ?_)
                      | (refine AWP.eq_agg e tab_ok rfl rfl rfl (.inl ⟨rfl, rfl⟩) ?_ 5 (by omega) rfl ?_ rfl rfl rfl rfl rfl rfl rfl ?_; (focus kernel_rfl); (focus kernel_rfl); refine AWP.runL e tab_ok L4 300 rfl (by first | trivial | (simp [in64] <;> omega) | (simp only [in64, true_and, and_true]; omega)) ?_)
                      | (refine AWP.eq_agg e tab_ok rfl rfl rfl (.inr ⟨rfl, rfl⟩) ?_ 5 (by omega) rfl ?_ rfl rfl rfl rfl rfl rfl rfl ?_; (focus kernel_rfl); (focus kernel_rfl); refine AWP.runL e tab_ok L4 300 rfl (by first | trivial | (simp [in64] <;> omega) | (simp only [in64, true_and, and_true]; omega)) ?_)
                    )
                  refine AWP.entryM m e hW hI hj rfl rfl ?_
                  refine AWP.runL e tab_ok L4 300 rfl (by first | trivial | (simp [in64] <;> omega) | (simp only [in64, true_and, and_true]; omega)) ?_
                  repeat (
                    first
                      | (refine AWP.askT rfl ?_; (first | (refine Told.t rfl ?_) | (refine Told.f rfl ?_) | (refine Told.t ?_ ?_; (focus assumption)) | (refine Told.f ?_ ?_; (focus assumption)) | (refine Told.t ?_ ?_; (focus (first | (simp; omega) | (simp [*]; done)); done)) | (refine Told.f ?_ ?_; (focus (first | (simp; omega) | (simp [*]; done)); done))); refine AWP.runL e tab_ok L4 300 rfl (by first | trivial | (simp [in64] <;> omega) | (simp only [in64, true_and, and_true]; omega)) ?_)
                      | (refine AWP.eq_agg e tab_ok rfl rfl rfl (.inl ⟨rfl, rfl⟩) ?_ 5 (by omega) rfl ?_ rfl rfl rfl rfl rfl rfl rfl ?_; (focus kernel_rfl); (focus kernel_rfl); refine AWP.runL e tab_ok L4 300 rfl (by first | trivial | (simp [in64] <;> omega) | (simp only [in64, true_and, and_true]; omega)) ?_)
                      | (refine AWP.eq_agg e tab_ok rfl rfl rfl (.inr ⟨rfl, rfl⟩) ?_ 5 (by omega) rfl ?_ rfl rfl rfl rfl rfl rfl rfl ?_; (focus kernel_rfl); (focus kernel_rfl); refine AWP.runL e tab_ok L4 300 rfl (by first | trivial | (simp [in64] <;> omega) | (simp only [in64, true_and, and_true]; omega)) ?_)
                    )
                  refine AWP.lowM m e eA fun cx m e hP hw5 => ?_
                  rw [hP2] at hP
                  rw [← hw5] at hW hI
                  refine AWP.lessR e [] ?_ ?_ ?_ ?_ ?_ ?_ (nx2 cx ⟨m, e, hP, hW, hI, hsn2, hsl2⟩)
                  · exact ⟨rfl, rfl, rfl, rfl, rfl, rfl, rfl, rfl, trivial⟩
                  · exact ⟨rfl, rfl, rfl, trivial⟩
                  · rfl
                  · exact ⟨rfl, rfl, rfl, rfl, rfl, okRow _, trivial⟩
                  · rfl
                  · rfl
          · clear k1
            refine AWP.runL e tab_ok L4 300 rfl (by first | trivial | (simp [in64] <;> omega) | (simp only [in64, true_and, and_true]; omega)) ?_
            refine AWP.cond2 rfl (fun k2 => ?_) (fun k2 => ?_)
            · clear k2 hk
              obtain ⟨k, hk, hkl, hks⟩ := sw_at a.who hs.1
              have hz : (qs.map pD).length = qs.length := List.length_map _
              have hel := rowB_at os hkl
              have hl2 : ∀ b, (os.set k b).length = on.length := fun b => by simp [hos]
              rw [hos] at hk hks
              refine AWP.runL e tab_ok L4 300 rfl (by first | trivial | (simp [in64] <;> omega) | (simp only [in64, true_and, and_true]; omega)) ?_
              refine AWP.eqT 26 (.i k) rfl (congrArg SV.i hk) ?_
              refine AWP.eqT 226 (.i k) rfl (congrArg SV.i hk) ?_
              clear hk hks
              generalize a.on = o
              cases o
              · have c2 : Eff Try.prog 8 [rtr qs os, .i k, .b false] [] 0 (fun r _ _ => r = .tup [rtr (qs.map (offW k)) (os.set k false), .i 0]) := switch_eff qs os k false hq hkl
                have hq2 : rightW (qs.map (offW k)) (os.set k false) = true := right_map hq (by simp) (keeps_off _ _)
                have hos2 := hl2 false
                obtain ⟨f, hf⟩ : ∃ f, f = offW k := ⟨_, rfl⟩
                have hfk : ∀ p, keyW (f p) = keyW p := fun p => by
                  have h := keeps_off 0 k
                  rw [hf]
                  unfold keyW
                  rw [h.fr, h.to]
                rw [← hf] at c2 hq2
                refine AWP.runL e tab_ok L4 300 rfl (by first | trivial | (simp [in64] <;> omega) | (simp only [in64, true_and, and_true]; omega)) ?_
                repeat (
                  first
                    | (refine AWP.askT rfl ?_; (first | (refine Told.t rfl ?_) | (refine Told.f rfl ?_) | (refine Told.t ?_ ?_; (focus assumption)) | (refine Told.f ?_ ?_; (focus assumption)) | (refine Told.t ?_ ?_; (focus (first | (simp; omega) | (simp [*]; done)); done)) | (refine Told.f ?_ ?_; (focus (first | (simp; omega) | (simp [*]; done)); done))); refine AWP.runL e tab_ok L4 300 rfl (by first | trivial | (simp [in64] <;> omega) | (simp only [in64, true_and, and_true]; omega)) ?_)
                    | (refine AWP.callQ e rfl rfl ?_; (first | refine CallQ.mk (c2) rfl rfl ?_); refine AWP.runL e tab_ok L4 300 rfl (by first | trivial | (simp [in64] <;> omega) | (simp only [in64, true_and, and_true]; omega)) ?_)
                    | (refine AWP.eq_agg e tab_ok rfl rfl rfl (.inl ⟨rfl, rfl⟩) ?_ 5 (by omega) rfl ?_ rfl rfl rfl rfl rfl rfl rfl ?_; (focus kernel_rfl); (focus kernel_rfl); refine AWP.runL e tab_ok L4 300 rfl (by first | trivial | (simp [in64] <;> omega) | (simp only [in64, true_and, and_true]; omega)) ?_)
                    | (refine AWP.eq_agg e tab_ok rfl rfl rfl (.inr ⟨rfl, rfl⟩) ?_ 5 (by omega) rfl ?_ rfl rfl rfl rfl rfl rfl rfl ?_; (focus kernel_rfl); (focus kernel_rfl); refine AWP.runL e tab_ok L4 300 rfl (by first | trivial | (simp [in64] <;> omega) | (simp only [in64, true_and, and_true]; omega)) ?_)
                  )
                refine AWP.idx_own e tab_ok rfl rfl rfl rfl k rfl (by omega) ?_
                rw [Nat.zero_add]
                refine AWP.runL e tab_ok L4 300 rfl (by first | trivial | (simp [in64] <;> omega) | (simp only [in64, true_and, and_true]; omega)) ?_
                refine AWP.store_el e tab_ok rfl rfl rfl rfl rfl hel rfl rfl rfl rfl ?_
                rw [rowB_set]
                generalize os.set k false = os2 at *
                refine AWP.runL e tab_ok L4 300 rfl (by first | trivial | (simp [in64] <;> omega) | (simp only [in64, true_and, and_true]; omega)) ?_
                repeat (
                  first
                    | (refine AWP.askT rfl ?_; (first | (refine Told.t rfl ?_) | (refine Told.f rfl ?_) | (refine Told.t ?_ ?_; (focus assumption)) | (refine Told.f ?_ ?_; (focus assumption)) | (refine Told.t ?_ ?_; (focus (first | (simp; omega) | (simp [*]; done)); done)) | (refine Told.f ?_ ?_; (focus (first | (simp; omega) | (simp [*]; done)); done))); refine AWP.runL e tab_ok L4 300 rfl (by first | trivial | (simp [in64] <;> omega) | (simp only [in64, true_and, and_true]; omega)) ?_)
                    | (refine AWP.eq_agg e tab_ok rfl rfl rfl (.inl ⟨rfl, rfl⟩) ?_ 5 (by omega) rfl ?_ rfl rfl rfl rfl rfl rfl rfl ?_; (focus kernel_rfl); (focus kernel_rfl); refine AWP.runL e tab_ok L4 300 rfl (by first | trivial | (simp [in64] <;> omega) | (simp only [in64, true_and, and_true]; omega)) ?_)
                    | (refine AWP.eq_agg e tab_ok rfl rfl rfl (.inr ⟨rfl, rfl⟩) ?_ 5 (by omega) rfl ?_ rfl rfl rfl rfl rfl rfl rfl ?_; (focus kernel_rfl); (focus kernel_rfl); refine AWP.runL e tab_ok L4 300 rfl (by first | trivial | (simp [in64] <;> omega) | (simp only [in64, true_and, and_true]; omega)) ?_)
                  )
                refine AWP.loopM (ι := Nat) (fun j => ⟨[(245, .i j), (244, .i (qs.map pD).length), (243, slP qs), (27, .ptr 16 0), (26, .i k), (9, .ptr 15 0), (63, .i i), (62, .i acs.length), (61, slD acs), (7, .own 14 1 0 on.length C2), (6, .d (.v (.map (some b)))), (2, .ptr 0 0)], [(16, .box [slP (qs.map f), slB os2]), (0, .box [slP qs, slB os]), (14, .row 4 false 1 (rowB os2) C2)], 17⟩) (fun j c => ∃ E, MapCx cA c (SE b E none) ∧ Env c Try.prog Try.f4 0 ∧ c.Post = cA.Post ∧ WMap 9 c.w0 b E (wt (chTo f qs j)) none ∧ j ≤ qs.length) (fun j => qs.length - j) 0 ⟨E, m, e, hP.trans hPA.symm, by rw [chTo_zero]; exact hW, Nat.zero_le _⟩ (fun s c ⟨_, h, _⟩ => ⟨h.P.trans m.P.symm, h.R.trans m.R.symm⟩) ?_ ?_
                · intro g
                  refine AWP.lessR e [] ?_ ?_ ?_ ?_ ?_ ?_ g
                  · exact ⟨rfl, rfl, rfl, rfl, rfl, rfl, rfl, rfl, rfl, rfl, rfl, rfl, trivial⟩
                  · exact ⟨rfl, rfl, rfl, trivial⟩
                  · rfl
                  · exact ⟨rfl, rfl, rfl, rfl, rfl, okRow _, trivial⟩
                  · rfl
                  · rfl
                clear hP hW e m c2 hel
                rintro j cx Φ2 ⟨E, m, e, hP, hW, hj⟩ next2
                refine AWP.runL e tab_ok L4 300 rfl (by first | trivial | (simp [in64] <;> omega) | (simp only [in64, true_and, and_true]; omega)) ?_
                refine AWP.cond2 rfl (fun hlt2 => ?_) (fun hlt2 => ?_)
                · have hlt2 : j < qs.length := by have := of_decide_eq_true hlt2; omega
                  have hel2 := el_at pD qs hlt2
                  obtain ⟨hw1, hw2⟩ := wt_step hfk hnd hlt2
                  have hsm := chTo_same (f := f) hlt2
                  have nx2 := fun cx' h => next2 (j + 1) cx' h (by show qs.length - (j + 1) < qs.length - j; omega)
                  clear next2 nx hw2
                  have hfp : ∀ p, f p = if p.st = k then { p with its := [] } else p := fun p => by rw [hf]; rfl
                  have hfj := hfp qs[j]
                  clear hfp
                  generalize qs[j] = p at *
                  rcases cases_b (p.st == (k : Int)) with q1 | q1
                  · have hone : (f p).its = [] := by rw [hfj, if_pos (eq_of_beq q1)]
                    rw [hone] at hw1
                    refine AWP.runL e tab_ok L4 300 rfl (by first | trivial | (simp [in64] <;> omega) | (simp only [in64, true_and, and_true]; omega)) ?_
                    refine AWP.idx e tab_ok rfl rfl rfl rfl j rfl hel2 ?_
                    refine AWP.runL e tab_ok L4 300 rfl (by first | trivial | (simp [in64] <;> omega) | (simp only [in64, true_and, and_true]; omega)) ?_
                    repeat (
                      first
                        | (refine AWP.askT rfl ?_; (first | (refine Told.t rfl ?_) | (refine Told.f rfl ?_) | (refine Told.t ?_ ?_; (focus assumption)) | (refine Told.f ?_ ?_; (focus assumption)) | (refine Told.t ?_ ?_; (focus (first | (simp; omega) | (simp [*]; done)); done)) | (refine Told.f ?_ ?_; (focus (first | (simp; omega) | (simp [*]; done)); done))); refine AWP.runL e tab_ok L4 300 rfl (by first | trivial | (simp [in64] <;> omega) | (simp only [in64, true_and, and_true]; omega)) ?_)
                        | (refine AWP.eq_agg e tab_ok rfl rfl rfl (.inl ⟨rfl, rfl⟩) ?_ 5 (by omega) rfl ?_ rfl rfl rfl rfl rfl rfl rfl ?_; (focus kernel_rfl); (focus kernel_rfl); refine AWP.runL e tab_ok L4 300 rfl (by first | trivial | (simp [in64] <;> omega) | (simp only [in64, true_and, and_true]; omega)) ?_)
                        | (refine AWP.eq_agg e tab_ok rfl rfl rfl (.inr ⟨rfl, rfl⟩) ?_ 5 (by omega) rfl ?_ rfl rfl rfl rfl rfl rfl rfl ?_; (focus kernel_rfl); (focus kernel_rfl); refine AWP.runL e tab_ok L4 300 rfl (by first | trivial | (simp [in64] <;> omega) | (simp only [in64, true_and, and_true]; omega)) ?_)
                      )
                    refine AWP.updateNil m e hW (q := keyW p) und41 key45 rfl rfl (fun _ => rfl) fun cx E2 m e hP2 hW => ?_
                    rw [hP] at hP2
                    rw [← hw1] at hW
                    refine AWP.lowM m e eA fun cx m e hP hw5 => ?_
                    rw [hP2] at hP
                    rw [← hw5] at hW
                    refine AWP.runL e tab_ok L4 300 rfl (by first | trivial | (simp [in64] <;> omega) | (simp only [in64, true_and, and_true]; omega)) ?_
                    refine AWP.lessR e [] ?_ ?_ ?_ ?_ ?_ ?_ (nx2 cx ⟨E2, m, e, hP, hW, hlt2⟩)
                    · exact ⟨rfl, rfl, rfl, rfl, rfl, rfl, rfl, rfl, rfl, rfl, rfl, rfl, trivial⟩
                    · exact ⟨rfl, rfl, rfl, trivial⟩
                    · rfl
                    · exact ⟨rfl, rfl, rfl, rfl, rfl, okRow _, trivial⟩
                    · rfl
                    · rfl
                  · have hone : f p = p := by rw [hfj, if_neg (fun h => by rw [h] at q1; simp at q1)]
                    rw [← hsm hone] at hW
                    have hP2 := hP
                    refine AWP.runL e tab_ok L4 300 rfl (by first | trivial | (simp [in64] <;> omega) | (simp only [in64, true_and, and_true]; omega)) ?_
                    refine AWP.idx e tab_ok rfl rfl rfl rfl j rfl hel2 ?_
                    refine AWP.runL e tab_ok L4 300 rfl (by first | trivial | (simp [in64] <;> omega) | (simp only [in64, true_and, and_true]; omega)) ?_
                    repeat (
                      first
                        | (refine AWP.askT rfl ?_; (first | (refine Told.t rfl ?_) | (refine Told.f rfl ?_) | (refine Told.t ?_ ?_; (focus assumption)) | (refine Told.f ?_ ?_; (focus assumption)) | (refine Told.t ?_ ?_; (focus (first | (simp; omega) | (simp [*]; done)); done)) | (refine Told.f ?_ ?_; (focus (first | (simp; omega) | (simp [*]; done)); done))); refine AWP.runL e tab_ok L4 300 rfl (by first | trivial | (simp [in64] <;> omega) | (simp only [in64, true_and, and_true]; omega)) ?_)
                        | (refine AWP.eq_agg e tab_ok rfl rfl rfl (.inl ⟨rfl, rfl⟩) ?_ 5 (by omega) rfl ?_ rfl rfl rfl rfl rfl rfl rfl ?_; (focus kernel_rfl); (focus kernel_rfl); refine AWP.runL e tab_ok L4 300 rfl (by first | trivial | (simp [in64] <;> omega) | (simp only [in64, true_and, and_true]; omega)) ?_)
                        | (refine AWP.eq_agg e tab_ok rfl rfl rfl (.inr ⟨rfl, rfl⟩) ?_ 5 (by omega) rfl ?_ rfl rfl rfl rfl rfl rfl rfl ?_; (focus kernel_rfl); (focus kernel_rfl); refine AWP.runL e tab_ok L4 300 rfl (by first | trivial | (simp [in64] <;> omega) | (simp only [in64, true_and, and_true]; omega)) ?_)
                      )
                    refine AWP.lowM m e eA fun cx m e hP hw5 => ?_
                    rw [hP2] at hP
                    rw [← hw5] at hW
                    refine AWP.runL e tab_ok L4 300 rfl (by first | trivial | (simp [in64] <;> omega) | (simp only [in64, true_and, and_true]; omega)) ?_
                    refine AWP.lessR e [] ?_ ?_ ?_ ?_ ?_ ?_ (nx2 cx ⟨E, m, e, hP, hW, hlt2⟩)
                    · exact ⟨rfl, rfl, rfl, rfl, rfl, rfl, rfl, rfl, rfl, rfl, rfl, rfl, trivial⟩
                    · exact ⟨rfl, rfl, rfl, trivial⟩
                    · rfl
                    · exact ⟨rfl, rfl, rfl, rfl, rfl, okRow _, trivial⟩
                    · rfl
                    · rfl
                · clear next2
                  have hlt2 : ¬ j < qs.length := by have := of_decide_eq_false hlt2; omega
                  obtain rfl : j = qs.length := by omega
                  rw [chTo_end] at hW
                  refine AWP.runL e tab_ok L4 300 rfl (by first | trivial | (simp [in64] <;> omega) | (simp only [in64, true_and, and_true]; omega)) ?_
                  refine AWP.lessR e [] ?_ ?_ ?_ ?_ ?_ ?_ (nx ((qs.map f)) (os2) cx ⟨_, m, e, by first | exact hP | exact hP.trans hPA.symm, hW, hlt, hq2, hos2⟩)
                  · exact ⟨rfl, rfl, rfl, rfl, rfl, rfl, trivial⟩
                  · exact ⟨rfl, rfl, trivial⟩
                  · rfl
                  · exact ⟨rfl, rfl, rfl, okRow _, trivial⟩
                  · rfl
                  · rfl
              · have c2 : Eff Try.prog 8 [rtr qs os, .i k, .b true] [] 0 (fun r _ _ => r = .tup [rtr qs (os.set k true), .i 0]) := switch_eff qs os k true hq hkl
                have hq2 : rightW qs (os.set k true) = true := by
                  have := right_map (f := id) (on' := os.set k true) hq (by simp) (keeps_id _)
                  rwa [List.map_id] at this
                have hos2 := hl2 true
                refine AWP.runL e tab_ok L4 300 rfl (by first | trivial | (simp [in64] <;> omega) | (simp only [in64, true_and, and_true]; omega)) ?_
                repeat (
                  first
                    | (refine AWP.askT rfl ?_; (first | (refine Told.t rfl ?_) | (refine Told.f rfl ?_) | (refine Told.t ?_ ?_; (focus assumption)) | (refine Told.f ?_ ?_; (focus assumption)) | (refine Told.t ?_ ?_; (focus (first | (simp; omega) | (simp [*]; done)); done)) | (refine Told.f ?_ ?_; (focus (first | (simp; omega) | (simp [*]; done)); done))); refine AWP.runL e tab_ok L4 300 rfl (by first | trivial | (simp [in64] <;> omega) | (simp only [in64, true_and, and_true]; omega)) ?_)
                    | (refine AWP.callQ e rfl rfl ?_; (first | refine CallQ.mk (c2) rfl rfl ?_); refine AWP.runL e tab_ok L4 300 rfl (by first | trivial | (simp [in64] <;> omega) | (simp only [in64, true_and, and_true]; omega)) ?_)
                    | (refine AWP.eq_agg e tab_ok rfl rfl rfl (.inl ⟨rfl, rfl⟩) ?_ 5 (by omega) rfl ?_ rfl rfl rfl rfl rfl rfl rfl ?_; (focus kernel_rfl); (focus kernel_rfl); refine AWP.runL e tab_ok L4 300 rfl (by first | trivial | (simp [in64] <;> omega) | (simp only [in64, true_and, and_true]; omega)) ?_)
                    | (refine AWP.eq_agg e tab_ok rfl rfl rfl (.inr ⟨rfl, rfl⟩) ?_ 5 (by omega) rfl ?_ rfl rfl rfl rfl rfl rfl rfl ?_; (focus kernel_rfl); (focus kernel_rfl); refine AWP.runL e tab_ok L4 300 rfl (by first | trivial | (simp [in64] <;> omega) | (simp only [in64, true_and, and_true]; omega)) ?_)
                  )
                refine AWP.idx_own e tab_ok rfl rfl rfl rfl k rfl (by omega) ?_
                rw [Nat.zero_add]
                refine AWP.runL e tab_ok L4 300 rfl (by first | trivial | (simp [in64] <;> omega) | (simp only [in64, true_and, and_true]; omega)) ?_
                refine AWP.store_el e tab_ok rfl rfl rfl rfl rfl hel rfl rfl rfl rfl ?_
                rw [rowB_set]
                generalize os.set k true = os2 at *
                refine AWP.runL e tab_ok L4 300 rfl (by first | trivial | (simp [in64] <;> omega) | (simp only [in64, true_and, and_true]; omega)) ?_
                repeat (
                  first
                    | (refine AWP.askT rfl ?_; (first | (refine Told.t rfl ?_) | (refine Told.f rfl ?_) | (refine Told.t ?_ ?_; (focus assumption)) | (refine Told.f ?_ ?_; (focus assumption)) | (refine Told.t ?_ ?_; (focus (first | (simp; omega) | (simp [*]; done)); done)) | (refine Told.f ?_ ?_; (focus (first | (simp; omega) | (simp [*]; done)); done))); refine AWP.runL e tab_ok L4 300 rfl (by first | trivial | (simp [in64] <;> omega) | (simp only [in64, true_and, and_true]; omega)) ?_)
                    | (refine AWP.eq_agg e tab_ok rfl rfl rfl (.inl ⟨rfl, rfl⟩) ?_ 5 (by omega) rfl ?_ rfl rfl rfl rfl rfl rfl rfl ?_; (focus kernel_rfl); (focus kernel_rfl); refine AWP.runL e tab_ok L4 300 rfl (by first | trivial | (simp [in64] <;> omega) | (simp only [in64, true_and, and_true]; omega)) ?_)
                    | (refine AWP.eq_agg e tab_ok rfl rfl rfl (.inr ⟨rfl, rfl⟩) ?_ 5 (by omega) rfl ?_ rfl rfl rfl rfl rfl rfl rfl ?_; (focus kernel_rfl); (focus kernel_rfl); refine AWP.runL e tab_ok L4 300 rfl (by first | trivial | (simp [in64] <;> omega) | (simp only [in64, true_and, and_true]; omega)) ?_)
                  )
                refine AWP.lessR e [] ?_ ?_ ?_ ?_ ?_ ?_ (nx (qs) (os2) cx ⟨_, m, e, by first | exact hP | exact hP.trans hPA.symm, hW, hlt, hq2, hos2⟩)
                · exact ⟨rfl, rfl, rfl, rfl, rfl, rfl, trivial⟩
                · exact ⟨rfl, rfl, trivial⟩
                · rfl
                · exact ⟨rfl, rfl, rfl, okRow _, trivial⟩
                · rfl
                · rfl
            · refine AWP.runL e tab_ok L4 300 rfl (by first | trivial | (simp [in64] <;> omega) | (simp only [in64, true_and, and_true]; omega)) ?_
              refine AWP.lessR e [] ?_ ?_ ?_ ?_ ?_ ?_ (nx (qs) (os) cx ⟨_, m, e, by first | exact hP | exact hP.trans hPA.symm, hW, hlt, hq, hos⟩)
              · exact ⟨rfl, rfl, rfl, rfl, rfl, rfl, trivial⟩
              · exact ⟨rfl, rfl, trivial⟩
              · rfl
              · exact ⟨rfl, rfl, rfl, okRow _, trivial⟩
              · rfl
              · rfl
    · clear next
      refine AWP.runL e tab_ok L4 300 rfl (by first | trivial | (simp [in64] <;> omega) | (simp only [in64, true_and, and_true]; omega)) ?_
      refine AWP.promoteK m e hW fun cx m e hP2 ho hden => ?_
      rw [hP] at hP2
      have hP := hP2
      have hz : (qs.map pD).length = qs.length := List.length_map _
      refine AWP.loop (ι := Nat) (fun j => ⟨[(265, .i j), (264, .i (qs.map pD).length), (263, slP qs), (6, .d (.v (.map (some b))))], [], 15⟩) (fun j => j ≤ qs.length) (fun j => qs.length - j) 0 (Nat.zero_le _) ?_ ?_
      · intro g
        refine AWP.less e ?_ ?_ ?_ ?_ ?_ (g) <;> (repeat' (first | exact True.intro | (refine And.intro ?_ ?_) | rfl | assumption))
      intro j Φ hj next
      refine AWP.runL e tab_ok L4 300 rfl (by first | trivial | (simp [in64] <;> omega) | (simp only [in64, true_and, and_true]; omega)) ?_
      refine AWP.cond2 rfl (fun hlt => ?_) (fun hlt => ?_)
      · have hlt : j < qs.length := by have := of_decide_eq_true hlt; omega
        have hel := el_at pD qs hlt
        have hat := wt_at hnd hlt
        have c2 := sameT_eff qs[j].its (right_its hq _ (List.getElem_mem hlt))
        have nx := next (j + 1) hlt (by omega)
        clear next
        generalize qs[j] = p at *
        have hd := hden (keyW p)
        rw [hat] at hd
        refine AWP.runL e tab_ok L4 300 rfl (by first | trivial | (simp [in64] <;> omega) | (simp only [in64, true_and, and_true]; omega)) ?_
        refine AWP.idx e tab_ok rfl rfl rfl rfl j rfl hel ?_
        refine AWP.runL e tab_ok L4 300 rfl (by first | trivial | (simp [in64] <;> omega) | (simp only [in64, true_and, and_true]; omega)) ?_
        refine AWP.keep L4 rfl ?_
        refine AWP.drg 100 ?_
        (refine DrG.runN e tab_ok 200 rfl (by first | trivial | (simp [in64] <;> omega) | (simp only [in64, true_and, and_true]; omega)) ?_)
        refine DrG.v rfl (fun hp0 => VStep.lookupX (hp := hp0) (q := keyW p) (sv := slS p.its) m e rfl ho und41 key45 zero34 rfl rfl rfl hd) rfl ?_
        (refine DrG.runN e tab_ok 200 rfl (by first | trivial | (simp [in64] <;> omega) | (simp only [in64, true_and, and_true]; omega)) ?_)
        (refine DrG.runS e tab_ok 200 rfl (by first | trivial | (simp [in64] <;> omega) | (simp only [in64, true_and, and_true]; omega)) ?_)
        repeat (
          first
            | (refine DrG.askT rfl ?_; (first | (refine Told.t rfl ?_) | (refine Told.f rfl ?_) | (refine Told.t ?_ ?_; (focus assumption)) | (refine Told.f ?_ ?_; (focus assumption)) | (refine Told.t ?_ ?_; (focus (first | (simp; omega) | (simp [*]; done)); done)) | (refine Told.f ?_ ?_; (focus (first | (simp; omega) | (simp [*]; done)); done))); (refine DrG.runS e tab_ok 200 rfl (by first | trivial | (simp [in64] <;> omega) | (simp only [in64, true_and, and_true]; omega)) ?_))
            | (refine DrG.callQ e rfl rfl ?_; (first | refine CallVQ.mk (c2) rfl rfl ?_); (refine DrG.runS e tab_ok 200 rfl (by first | trivial | (simp [in64] <;> omega) | (simp only [in64, true_and, and_true]; omega)) ?_))
            | (refine DrG.callGo e rfl rfl rfl ?_; (first | refine CallVQ.mk (c2) rfl rfl ?_); (refine DrG.runS e tab_ok 200 rfl (by first | trivial | (simp [in64] <;> omega) | (simp only [in64, true_and, and_true]; omega)) ?_))
            | (refine DrG.eq_agg e tab_ok rfl rfl rfl (.inl ⟨rfl, rfl⟩) ?_ 5 (by omega) rfl ?_ rfl rfl rfl rfl rfl rfl rfl ?_; (focus kernel_rfl); (focus kernel_rfl); (refine DrG.runS e tab_ok 200 rfl (by first | trivial | (simp [in64] <;> omega) | (simp only [in64, true_and, and_true]; omega)) ?_))
            | (refine DrG.eq_aggGo e tab_ok rfl rfl rfl rfl (.inl ⟨rfl, rfl⟩) ?_ 5 (by omega) rfl ?_ rfl rfl rfl rfl rfl rfl rfl ?_; (focus kernel_rfl); (focus kernel_rfl); (refine DrG.runS e tab_ok 200 rfl (by first | trivial | (simp [in64] <;> omega) | (simp only [in64, true_and, and_true]; omega)) ?_))
            | (refine DrG.eq_agg e tab_ok rfl rfl rfl (.inr ⟨rfl, rfl⟩) ?_ 5 (by omega) rfl ?_ rfl rfl rfl rfl rfl rfl rfl ?_; (focus kernel_rfl); (focus kernel_rfl); (refine DrG.runS e tab_ok 200 rfl (by first | trivial | (simp [in64] <;> omega) | (simp only [in64, true_and, and_true]; omega)) ?_))
            | (refine DrG.eq_aggGo e tab_ok rfl rfl rfl rfl (.inr ⟨rfl, rfl⟩) ?_ 5 (by omega) rfl ?_ rfl rfl rfl rfl rfl rfl rfl ?_; (focus kernel_rfl); (focus kernel_rfl); (refine DrG.runS e tab_ok 200 rfl (by first | trivial | (simp [in64] <;> omega) | (simp only [in64, true_and, and_true]; omega)) ?_))
          )
        refine DrG.finK e rfl ?_ rfl rfl rfl ?_ ?_
        (focus kernel_rfl)
        (focus (repeat' (first | exact True.intro | (refine And.intro ?_ ?_) | rfl | assumption | exact okRow _)))
        dsimp only [tmS, hpS, tput, effH]
        refine AWP.runL e tab_ok L4 300 rfl (by first | trivial | (simp [in64] <;> omega) | (simp only [in64, true_and, and_true]; omega)) ?_
        repeat (
          first
            | (refine AWP.askT rfl ?_; (first | (refine Told.t rfl ?_) | (refine Told.f rfl ?_) | (refine Told.t ?_ ?_; (focus assumption)) | (refine Told.f ?_ ?_; (focus assumption)) | (refine Told.t ?_ ?_; (focus (first | (simp; omega) | (simp [*]; done)); done)) | (refine Told.f ?_ ?_; (focus (first | (simp; omega) | (simp [*]; done)); done))); refine AWP.runL e tab_ok L4 300 rfl (by first | trivial | (simp [in64] <;> omega) | (simp only [in64, true_and, and_true]; omega)) ?_)
            | (refine AWP.eq_agg e tab_ok rfl rfl rfl (.inl ⟨rfl, rfl⟩) ?_ 5 (by omega) rfl ?_ rfl rfl rfl rfl rfl rfl rfl ?_; (focus kernel_rfl); (focus kernel_rfl); refine AWP.runL e tab_ok L4 300 rfl (by first | trivial | (simp [in64] <;> omega) | (simp only [in64, true_and, and_true]; omega)) ?_)
            | (refine AWP.eq_agg e tab_ok rfl rfl rfl (.inr ⟨rfl, rfl⟩) ?_ 5 (by omega) rfl ?_ rfl rfl rfl rfl rfl rfl rfl ?_; (focus kernel_rfl); (focus kernel_rfl); refine AWP.runL e tab_ok L4 300 rfl (by first | trivial | (simp [in64] <;> omega) | (simp only [in64, true_and, and_true]; omega)) ?_)
          )
        refine AWP.less e ?_ ?_ ?_ ?_ ?_ (nx) <;> (repeat' (first | exact True.intro | (refine And.intro ?_ ?_) | rfl | assumption))
      · refine AWP.runL e tab_ok L4 300 rfl (by first | trivial | (simp [in64] <;> omega) | (simp only [in64, true_and, and_true]; omega)) ?_
        refine AWP.ret e tab_ok rfl ?_
        rw [hP]
        all_goals first | rfl | (simp [strip]; done)
  · repeat (
      first
        | (refine AWP.askT rfl ?_; (first | (refine Told.t rfl ?_) | (refine Told.f rfl ?_) | (refine Told.t ?_ ?_; (focus assumption)) | (refine Told.f ?_ ?_; (focus assumption)) | (refine Told.t ?_ ?_; (focus (first | (simp; omega) | (simp [*]; done)); done)) | (refine Told.f ?_ ?_; (focus (first | (simp; omega) | (simp [*]; done)); done))); refine AWP.runL e tab_ok L4 300 rfl (by first | trivial | (simp [in64] <;> omega) | (simp only [in64, true_and, and_true]; omega)) ?_)
        | (refine AWP.callQ e rfl rfl ?_; (first | refine CallQ.mk (c1) rfl rfl ?_ | refine CallQ.mk (al) rfl rfl ?_); refine AWP.runL e tab_ok L4 300 rfl (by first | trivial | (simp [in64] <;> omega) | (simp only [in64, true_and, and_true]; omega)) ?_)
        | (refine AWP.eq_agg e tab_ok rfl rfl rfl (.inl ⟨rfl, rfl⟩) ?_ 5 (by omega) rfl ?_ rfl rfl rfl rfl rfl rfl rfl ?_; (focus kernel_rfl); (focus kernel_rfl); refine AWP.runL e tab_ok L4 300 rfl (by first | trivial | (simp [in64] <;> omega) | (simp only [in64, true_and, and_true]; omega)) ?_)
        | (refine AWP.eq_agg e tab_ok rfl rfl rfl (.inr ⟨rfl, rfl⟩) ?_ 5 (by omega) rfl ?_ rfl rfl rfl rfl rfl rfl rfl ?_; (focus kernel_rfl); (focus kernel_rfl); refine AWP.runL e tab_ok L4 300 rfl (by first | trivial | (simp [in64] <;> omega) | (simp only [in64, true_and, and_true]; omega)) ?_)
      )
    refine AWP.ret e tab_ok rfl ?_
    rw [hP]
    all_goals first | rfl | (simp [strip]; done)
end Go.Proofs.Ythfkoejjpfhcdaa
