import Derived.Test.YthfkoejjpfhcdaaF12
open Go Go.Proofs Go.Sy
namespace Go.Proofs.Ythfkoejjpfhcdaa

set_option maxRecDepth 100000 in
set_option maxHeartbeats 4000000 in
theorem take_none (l : List Way) (on : List Bool) (to : Int) (h : rightW l on = true) (hn : l.any (fits to) = false) : Eff Try.prog 10 [rtr l on, .i to] [] 0 (fun r _ _ => r = .tup [.agg [.d .nil, .d .nil], .i 0, .s .empty, .i 21]) := by
  have hs := right_size h
  have c1 := pright_eff l on (by omega) (by omega) (right_its h)
  rw [h] at c1
  have c2 := idxT_eff l to (by omega)
  rw [ix_miss hn] at c2
  refine eff_of Try.func10 rfl rfl rfl fun cx e hP => ?_
  refine AWP.runL e tab_ok L10 300 rfl (by first | trivial | (simp [in64] <;> omega) | (simp only [in64, true_and, and_true]; omega)) ?_
  refine AWP.freezeB (id := 1) rfl rfl rfl rfl ?_
  repeat (
    first
      | (refine AWP.askT rfl ?_; (first | (refine Told.t rfl ?_) | (refine Told.f rfl ?_) | (refine Told.t ?_ ?_; (focus assumption)) | (refine Told.f ?_ ?_; (focus assumption)) | (refine Told.t ?_ ?_; (focus (first | (simp; omega) | (simp [*]; done)); done)) | (refine Told.f ?_ ?_; (focus (first | (simp; omega) | (simp [*]; done)); done))); refine AWP.runL e tab_ok L10 300 rfl (by first | trivial | (simp [in64] <;> omega) | (simp only [in64, true_and, and_true]; omega)) ?_)
      | (refine AWP.callQ e rfl rfl ?_; (first | refine CallQ.mk (c1) rfl rfl ?_ | refine CallQ.mk (c2) rfl rfl ?_); refine AWP.runL e tab_ok L10 300 rfl (by first | trivial | (simp [in64] <;> omega) | (simp only [in64, true_and, and_true]; omega)) ?_)
      | (refine AWP.eq_agg e tab_ok rfl rfl rfl (.inl ⟨rfl, rfl⟩) ?_ 5 (by omega) rfl ?_ rfl rfl rfl rfl rfl rfl rfl ?_; (focus kernel_rfl); (focus kernel_rfl); refine AWP.runL e tab_ok L10 300 rfl (by first | trivial | (simp [in64] <;> omega) | (simp only [in64, true_and, and_true]; omega)) ?_)
      | (refine AWP.eq_agg e tab_ok rfl rfl rfl (.inr ⟨rfl, rfl⟩) ?_ 5 (by omega) rfl ?_ rfl rfl rfl rfl rfl rfl rfl ?_; (focus kernel_rfl); (focus kernel_rfl); refine AWP.runL e tab_ok L10 300 rfl (by first | trivial | (simp [in64] <;> omega) | (simp only [in64, true_and, and_true]; omega)) ?_)
    )
  refine AWP.ret e tab_ok rfl ?_
  rw [hP]
  rfl
set_option maxRecDepth 100000 in
set_option maxHeartbeats 4000000 in
theorem take_ok (l : List Way) (on : List Bool) (to : Int) (h : rightW l on = true) {i : Nat} (hi : i < l.length) (hn : (l.take i).any (fits to) = false) (hf : fits to l[i] = true) {x : ByteArray} {its : List ByteArray} (hx : l[i].its = x :: its) :
    Eff Try.prog 10 [rtr l on, .i to] [] 0 (fun r _ _ => r = .tup [rtr (l.set i { l[i] with its := its }) on, .i l[i].fr, .s x, .i 0]) := by
  have hs := right_size h
  have c1 := pright_eff l on (by omega) (by omega) (right_its h)
  rw [h] at c1
  have c2 := idxT_eff l to (by omega)
  rw [ix_hit hi hn hf] at c2
  have hel := el_at pD l hi
  have hok := (right_at h hi).1
  unfold okW at hok
  simp only [Bool.and_eq_true] at hok
  have hr := hok.1.2
  rw [hx] at hr
  have c3 := takeS_ok its l[i].cap l[i].best x hr
  have hsz : (l.map pD).length = l.length := List.length_map _
  have hel2 : (rowP l)[i]? = some (pS l[i]) := by simp only [rowP, List.getElem?_map, hel]; rfl
  have hset : (rowP l).set i (pS { l[i] with its := its }) = rowP (l.set i { l[i] with its := its }) := by
    simp only [rowP, List.map_set]
    rfl
  have hll : (l.set i { l[i] with its := its }).length = l.length := by simp
  clear hok hr
  generalize hm : l.set i { l[i] with its := its } = m at *
  clear hm hf
  generalize l[i] = p at *
  obtain ⟨fr, to', st, its', cap, best⟩ := p
  dsimp only at hx hset c3 hel hel2 ⊢
  subst hx
  refine eff_of Try.func10 rfl rfl rfl fun cx e hP => ?_
  refine AWP.runL e tab_ok L10 300 rfl (by first | trivial | (simp [in64] <;> omega) | (simp only [in64, true_and, and_true]; omega)) ?_
  refine AWP.freezeB (id := 1) rfl rfl rfl rfl ?_
  repeat (
    first
      | (refine AWP.askT rfl ?_; (first | (refine Told.t rfl ?_) | (refine Told.f rfl ?_) | (refine Told.t ?_ ?_; (focus assumption)) | (refine Told.f ?_ ?_; (focus assumption)) | (refine Told.t ?_ ?_; (focus (first | (simp; omega) | (simp [*]; done)); done)) | (refine Told.f ?_ ?_; (focus (first | (simp; omega) | (simp [*]; done)); done))); refine AWP.runL e tab_ok L10 300 rfl (by first | trivial | (simp [in64] <;> omega) | (simp only [in64, true_and, and_true]; omega)) ?_)
      | (refine AWP.callQ e rfl rfl ?_; (first | refine CallQ.mk (c1) rfl rfl ?_ | refine CallQ.mk (c2) rfl rfl ?_); refine AWP.runL e tab_ok L10 300 rfl (by first | trivial | (simp [in64] <;> omega) | (simp only [in64, true_and, and_true]; omega)) ?_)
      | (refine AWP.eq_agg e tab_ok rfl rfl rfl (.inl ⟨rfl, rfl⟩) ?_ 5 (by omega) rfl ?_ rfl rfl rfl rfl rfl rfl rfl ?_; (focus kernel_rfl); (focus kernel_rfl); refine AWP.runL e tab_ok L10 300 rfl (by first | trivial | (simp [in64] <;> omega) | (simp only [in64, true_and, and_true]; omega)) ?_)
      | (refine AWP.eq_agg e tab_ok rfl rfl rfl (.inr ⟨rfl, rfl⟩) ?_ 5 (by omega) rfl ?_ rfl rfl rfl rfl rfl rfl rfl ?_; (focus kernel_rfl); (focus kernel_rfl); refine AWP.runL e tab_ok L10 300 rfl (by first | trivial | (simp [in64] <;> omega) | (simp only [in64, true_and, and_true]; omega)) ?_)
    )
  refine AWP.idx e tab_ok rfl rfl rfl rfl i rfl hel ?_
  refine AWP.runL e tab_ok L10 300 rfl (by first | trivial | (simp [in64] <;> omega) | (simp only [in64, true_and, and_true]; omega)) ?_
  repeat (
    first
      | (refine AWP.askT rfl ?_; (first | (refine Told.t rfl ?_) | (refine Told.f rfl ?_) | (refine Told.t ?_ ?_; (focus assumption)) | (refine Told.f ?_ ?_; (focus assumption)) | (refine Told.t ?_ ?_; (focus (first | (simp; omega) | (simp [*]; done)); done)) | (refine Told.f ?_ ?_; (focus (first | (simp; omega) | (simp [*]; done)); done))); refine AWP.runL e tab_ok L10 300 rfl (by first | trivial | (simp [in64] <;> omega) | (simp only [in64, true_and, and_true]; omega)) ?_)
      | (refine AWP.callQ e rfl rfl ?_; (first | refine CallQ.mk (c3) rfl rfl ?_); refine AWP.runL e tab_ok L10 300 rfl (by first | trivial | (simp [in64] <;> omega) | (simp only [in64, true_and, and_true]; omega)) ?_)
      | (refine AWP.eq_agg e tab_ok rfl rfl rfl (.inl ⟨rfl, rfl⟩) ?_ 5 (by omega) rfl ?_ rfl rfl rfl rfl rfl rfl rfl ?_; (focus kernel_rfl); (focus kernel_rfl); refine AWP.runL e tab_ok L10 300 rfl (by first | trivial | (simp [in64] <;> omega) | (simp only [in64, true_and, and_true]; omega)) ?_)
      | (refine AWP.eq_agg e tab_ok rfl rfl rfl (.inr ⟨rfl, rfl⟩) ?_ 5 (by omega) rfl ?_ rfl rfl rfl rfl rfl rfl rfl ?_; (focus kernel_rfl); (focus kernel_rfl); refine AWP.runL e tab_ok L10 300 rfl (by first | trivial | (simp [in64] <;> omega) | (simp only [in64, true_and, and_true]; omega)) ?_)
    )
  refine AWP.enter e rfl Try.func23 rfl rfl rfl rfl fun cx' e' hP' => ?_
  refine AWP.runL e' tab_ok L23 8 rfl (by trivial) ?_
  refine AWP.nilq e' tab_ok true rfl rfl rfl rfl rfl rfl (.inl ⟨rfl, rfl⟩) fun b hb => ?_
  refine AWP.runL e' tab_ok L23 300 rfl (by first | trivial | (simp [in64] <;> omega) | (simp only [in64, true_and, and_true]; omega)) ?_
  cases b
  · refine AWP.cond rfl false rfl ?_
    refine AWP.runL e' tab_ok L23 300 rfl (by first | trivial | (simp [in64] <;> omega) | (simp only [in64, true_and, and_true]; omega)) ?_
    refine AWP.append e' tab_ok rfl rfl rfl rfl rfl rfl rfl rfl (.sl (l.map pD)) rfl (rowP_cells l) (by simp; omega) (by simp; omega) fun C hC => ?_
    refine AWP.runL e' tab_ok L23 300 rfl (by first | trivial | (simp [in64] <;> omega) | (simp only [in64, true_and, and_true]; omega)) ?_
    refine AWP.ret e' tab_ok rfl ?_
    rw [hP']
    show AWP cx _ _
    refine AWP.runL e tab_ok L10 300 rfl (by first | trivial | (simp [in64] <;> omega) | (simp only [in64, true_and, and_true]; omega)) ?_
    refine AWP.idx_own e tab_ok rfl rfl rfl rfl i rfl (by simp; omega) ?_
    rw [Nat.zero_add]
    refine AWP.runL e tab_ok L10 300 rfl (by first | trivial | (simp [in64] <;> omega) | (simp only [in64, true_and, and_true]; omega)) ?_
    refine AWP.store_el (el' := pS ⟨fr, to', st, its, cap, best⟩) e tab_ok rfl rfl rfl rfl rfl hel2 rfl rfl rfl rfl ?_
    have h0 : (List.map (fun x => List.map SV.d x) (l.map pD)).length = l.length := by simp
    have hel3 : (rowP m)[i]? = some (pS ⟨fr, to', st, its, cap, best⟩) := by
      rw [← hset, List.getElem?_set_self (by rw [List.getElem?_eq_some_iff] at hel2; exact hel2.1)]
    refine AWP.lessR e [] (tm := [(11, .i 0), (10, .s x), (8, .i i), (4, .ptr 2 0), (2, .ptr 0 0)]) (hp := [(0, .box [.own 5 6 0 m.length C, slB on]), (2, .box [.d .nil, .d .nil]), (5, .row 38 false 6 (rowP m) C)]) (nx := 6) ?_ ?_ ?_ ?_ ?_ ?_ ?_
    · exact ⟨rfl, rfl, rfl, rfl, rfl, trivial⟩
    · refine ⟨?_, rfl, ?_, trivial⟩
      · exact congrArg (fun n : Nat => some (Blk.box [.own 5 6 0 n C, slB on])) (by rw [h0, Nat.zero_add, hll])
      · refine congrArg some ?_
        show Blk.row 38 false 6 (([] ++ List.map (fun x => List.map SV.d x) (l.map pD)).set i (pS ⟨fr, to', st, its, cap, best⟩)) C = _
        exact congrArg (fun z => Blk.row 38 false 6 z C) hset
    · rfl
    · exact ⟨rfl, rfl, rfl, rfl, rfl, okRow _, trivial⟩
    · rfl
    · rfl
    clear hset hel hel2
    refine AWP.runL e tab_ok L10 300 rfl (by first | trivial | (simp [in64] <;> omega) | (simp only [in64, true_and, and_true]; omega)) ?_
    refine AWP.keep L10 rfl ?_
    refine AWP.drg 300 ?_
    (refine DrG.runN e tab_ok 200 rfl (by first | trivial | (simp [in64] <;> omega) | (simp only [in64, true_and, and_true]; omega)) ?_)
    refine DrG.idx_own i e tab_ok rfl rfl rfl rfl rfl (by omega) rfl ?_
    rw [Nat.zero_add]
    (refine DrG.runN e tab_ok 200 rfl (by first | trivial | (simp [in64] <;> omega) | (simp only [in64, true_and, and_true]; omega)) ?_)
    refine DrG.load_el (.i fr) e tab_ok rfl rfl rfl rfl hel3 rfl rfl ?_
    (refine DrG.runN e tab_ok 200 rfl (by first | trivial | (simp [in64] <;> omega) | (simp only [in64, true_and, and_true]; omega)) ?_)
    refine DrG.finK e rfl ?_ rfl rfl rfl ?_ ?_
    (focus kernel_rfl)
    (focus (repeat' (first | exact True.intro | (refine And.intro ?_ ?_) | rfl | assumption | exact okRow _)))
    dsimp only [tmS, hpS, tput, effH]
    refine AWP.runL e tab_ok L10 300 rfl (by first | trivial | (simp [in64] <;> omega) | (simp only [in64, true_and, and_true]; omega)) ?_
    refine AWP.freezeF (id := 5) (m.map pD) rfl ?_ rfl rfl ?_ ?_ ?_
    (focus (rfl))
    (focus (first | (simp [lenFT, lenF, lenF.go]; done) ))
    (focus (first | (simp [lenFH, lenF, lenF.go]; done) ))
    refine AWP.ret e tab_ok rfl ?_
    rw [hP]
    rfl
  · have hb' : (l.map pD).length = 0 := hb rfl
    omega
end Go.Proofs.Ythfkoejjpfhcdaa
