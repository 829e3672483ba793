import Derived.Test.YthfkoejjpfhcdaaF9
open Go Go.Proofs Go.Sy
namespace Go.Proofs.Ythfkoejjpfhcdaa

theorem strL_cut (s : ByteArray) (N : Nat) : (s.extract 0 (if (N : Int) < (s.size : Int) then (N : Int) else (s.size : Int)).toNat).size ≤ N := by
  have : (if (N : Int) < (s.size : Int) then (N : Int) else (s.size : Int)).toNat ≤ N := by split <;> omega
  simp only [ByteArray.size_extract]
  omega
set_option maxRecDepth 100000 in
set_option maxHeartbeats 4000000 in
theorem lsets_ok (ps0 : List Way) (on0 : List Bool) (fr : Int) (data0 : ByteArray) (hps : ps0.length ≤ 9223372036854775807) (hon : on0.length ≤ 9223372036854775807) : Eff Try.prog 3 [rtr ps0 on0, .i fr, .s data0] [] 0 (fun r _ _ => r = .b true) := by
  have al := alive_eff
  have c0 := few_eff ps0 on0 hps hon
  obtain ⟨ps, hps1⟩ : ∃ ps, ps = (ps0.take 18).map cutW := ⟨_, rfl⟩
  obtain ⟨on, hon1⟩ : ∃ on, on = on0.take 10 := ⟨_, rfl⟩
  have l1 : ps.length ≤ 18 := by rw [hps1]; simp; omega
  have l2 : on.length ≤ 10 := by rw [hon1]; simp; omega
  have l3 : ∀ p ∈ ps, p.its.length ≤ 1000 := by
    intro p hp
    rw [hps1] at hp
    obtain ⟨q, _, rfl⟩ := List.mem_map.1 hp
    show (q.its.take 20).length ≤ 1000
    simp; omega
  rw [← hps1, ← hon1] at c0
  have c1 := prefright_eff ps on (by omega) (by omega) l3
  obtain ⟨data, hdata⟩ : ∃ data, data = data0.extract 0 (if (8 : Int) < (data0.size : Int) then (8 : Int) else (data0.size : Int)).toNat := ⟨_, rfl⟩
  have hd : data.size ≤ 8 := by rw [hdata]; exact strL_cut data0 8
  refine eff_of Try.func3 rfl rfl rfl fun cx e hP => ?_
  refine AWP.runL e tab_ok L3 300 rfl (by first | trivial | (simp [in64] <;> omega) | (simp only [in64, true_and, and_true]; omega)) ?_
  repeat (
    first
      | (refine AWP.askT rfl ?_; (first | (refine Told.t rfl ?_) | (refine Told.f rfl ?_) | (refine Told.t ?_ ?_; (focus assumption)) | (refine Told.f ?_ ?_; (focus assumption)) | (refine Told.t ?_ ?_; (focus (first | (simp; omega) | (simp [*]; done)); done)) | (refine Told.f ?_ ?_; (focus (first | (simp; omega) | (simp [*]; done)); done))); refine AWP.runL e tab_ok L3 300 rfl (by first | trivial | (simp [in64] <;> omega) | (simp only [in64, true_and, and_true]; omega)) ?_)
      | (refine AWP.callQ e rfl rfl ?_; (first | refine CallQ.mk (c0) rfl rfl ?_); refine AWP.runL e tab_ok L3 300 rfl (by first | trivial | (simp [] <;> omega) | (simp only [in64, true_and, and_true]; omega)) ?_)
      | (refine AWP.eq_agg e tab_ok rfl rfl rfl (.inl ⟨rfl, rfl⟩) ?_ 5 (by omega) rfl ?_ rfl rfl rfl rfl rfl rfl rfl ?_; (focus kernel_rfl); (focus kernel_rfl); refine AWP.runL e tab_ok L3 300 rfl (by first | trivial | (simp [in64] <;> omega) | (simp only [in64, true_and, and_true]; omega)) ?_)
      | (refine AWP.eq_agg e tab_ok rfl rfl rfl (.inr ⟨rfl, rfl⟩) ?_ 5 (by omega) rfl ?_ rfl rfl rfl rfl rfl rfl rfl ?_; (focus kernel_rfl); (focus kernel_rfl); refine AWP.runL e tab_ok L3 300 rfl (by first | trivial | (simp [in64] <;> omega) | (simp only [in64, true_and, and_true]; omega)) ?_)
    )
  refine AWP.eqT 2 (.s data) rfl (congrArg SV.s hdata.symm) ?_
  clear hdata hps1 hon1
  rcases cases_b (rightW ps on) with hw | hw <;> rw [hw] at c1
  · repeat (
      first
        | (refine AWP.askT rfl ?_; (first | (refine Told.t rfl ?_) | (refine Told.f rfl ?_) | (refine Told.t ?_ ?_; (focus assumption)) | (refine Told.f ?_ ?_; (focus assumption)) | (refine Told.t ?_ ?_; (focus (first | (simp; omega) | (simp [*]; done)); done)) | (refine Told.f ?_ ?_; (focus (first | (simp; omega) | (simp [*]; done)); done))); refine AWP.runL e tab_ok L3 300 rfl (by first | trivial | (simp [in64] <;> omega) | (simp only [in64, true_and, and_true]; omega)) ?_)
        | (refine AWP.callQ e rfl rfl ?_; (first | refine CallQ.mk (c1) rfl rfl ?_ | refine CallQ.mk (al) rfl rfl ?_); refine AWP.runL e tab_ok L3 300 rfl (by first | trivial | (simp [in64] <;> omega) | (simp only [in64, true_and, and_true]; omega)) ?_)
        | (refine AWP.eq_agg e tab_ok rfl rfl rfl (.inl ⟨rfl, rfl⟩) ?_ 5 (by omega) rfl ?_ rfl rfl rfl rfl rfl rfl rfl ?_; (focus kernel_rfl); (focus kernel_rfl); refine AWP.runL e tab_ok L3 300 rfl (by first | trivial | (simp [in64] <;> omega) | (simp only [in64, true_and, and_true]; omega)) ?_)
        | (refine AWP.eq_agg e tab_ok rfl rfl rfl (.inr ⟨rfl, rfl⟩) ?_ 5 (by omega) rfl ?_ rfl rfl rfl rfl rfl rfl rfl ?_; (focus kernel_rfl); (focus kernel_rfl); refine AWP.runL e tab_ok L3 300 rfl (by first | trivial | (simp [in64] <;> omega) | (simp only [in64, true_and, and_true]; omega)) ?_)
      )
    have hn := (right_size hw).2.1
    refine AWP.loop (ι := Nat × List Way × List Bool) (fun s => ⟨[(36, .i s.1), (35, .i (onD on).length), (3, .ptr 0 0), (2, .s data), (1, .i fr)], [(0, .box [slP s.2.1, slB s.2.2])], 1⟩) (fun s => s.1 ≤ on.length ∧ rightW s.2.1 s.2.2 = true ∧ s.2.2.length = on.length) (fun s => on.length - s.1) (0, ps, on) ⟨Nat.zero_le _, hw, rfl⟩ ?_ ?_
    · intro g
      refine AWP.less e ?_ ?_ ?_ ?_ ?_ (g) <;> (repeat' (first | exact True.intro | (refine And.intro ?_ ?_) | rfl | assumption))
    rintro ⟨i, qs, os⟩ Φ ⟨hi, hq, ho⟩ next
    dsimp only at hi hq ho next ⊢
    have hso : (onD on).length = on.length := List.length_map _
    refine AWP.runL e tab_ok L3 300 rfl (by first | trivial | (simp [in64] <;> omega) | (simp only [in64, true_and, and_true]; omega)) ?_
    refine AWP.cond2 rfl (fun hlt => ?_) (fun hlt => ?_)
    · have hlt : i < on.length := by have := of_decide_eq_true hlt; omega
      have c2 := switch_eff qs os i false hq (by omega)
      rw [if_neg (by decide)] at c2
      have hq1 : rightW (qs.map (offW i)) (os.set i false) = true := right_map hq (by simp) (keeps_off _ _)
      have c3 := switch_eff (qs.map (offW i)) (os.set i false) i true hq1 (by simp; omega)
      rw [if_pos rfl] at c3
      obtain ⟨o2, ho2⟩ : ∃ o2, o2 = (os.set i false).set i true := ⟨_, rfl⟩
      rw [← ho2] at c3
      have hl2 : o2.length = on.length := by rw [ho2]; simp [ho]
      have hq2 : rightW (qs.map (offW i)) o2 = true := by
        have := right_map (f := id) hq1 (on' := o2) (by rw [hl2]; simp [ho]) ⟨fun _ => rfl, fun _ => rfl, fun _ => rfl, fun p hp => by
          unfold okW at hp
          simp only [Bool.and_eq_true] at hp
          exact ⟨hp.1.2, by simpa using hp.2⟩⟩
        rwa [List.map_id] at this
      have hon2 : o2.getD i false = true := by rw [ho2]; simp [List.getD_eq_getElem?_getD, ho, hlt]
      have c4 := put_eff (qs.map (offW i)) o2 fr data hq2 hd
      have hq3 : rightW ((qs.map (offW i)).map (putW o2 fr data)) o2 = true := right_map hq2 rfl (keeps_put _ _ _ _ hd)
      have nx := next (i + 1, (qs.map (offW i)).map (putW o2 fr data), o2) ⟨hlt, hq3, hl2⟩ (by show on.length - (i + 1) < on.length - i; omega)
      dsimp only at nx
      obtain ⟨t1, t2, t3, t4⟩ := tk_le o2 fr data (qs.map (offW i))
      have hcap : ∀ (j : Nat) (h : j < qs.length), 1 ≤ qs[j].cap := fun j h => by
        have := (right_at hq h).1
        unfold okW at this
        simp only [Bool.and_eq_true] at this
        exact (rightR_get this.1.2).1
      have hz : ((qs.map (offW i)).map (putW o2 fr data)).length = qs.length := by simp
      have hzat : ∀ (j : Nat) (h : j < qs.length), ((qs.map (offW i)).map (putW o2 fr data))[j]'(by rw [hz]; exact h) = putW o2 fr data (offW i qs[j]) := fun j h => by simp
      have hyl : (qs.map (offW i)).length = qs.length := by simp
      have hyat : ∀ (j : Nat) (h : j < qs.length), (qs.map (offW i))[j]'(by rw [hyl]; exact h) = offW i qs[j] := fun j h => by simp
      have hql : qs.length ≤ 16 := (right_size hq).2.2
      clear next hq1 hq2 hq3 ho2
      generalize tk o2 fr data (qs.map (offW i)) = tt at *
      generalize ls o2 fr data (qs.map (offW i)) = tl at *
      obtain ⟨zs, hzs⟩ : ∃ zs, zs = (qs.map (offW i)).map (putW o2 fr data) := ⟨_, rfl⟩
      obtain ⟨ys, hys⟩ : ∃ ys, ys = qs.map (offW i) := ⟨_, rfl⟩
      simp only [← hzs] at c4 nx hz hzat
      simp only [← hys] at c2 c3 c4 hyl hyat
      refine AWP.runL e tab_ok L3 300 rfl (by first | trivial | (simp [in64] <;> omega) | (simp only [in64, true_and, and_true]; omega)) ?_
      repeat (
        first
          | (refine AWP.askT rfl ?_; (first | (refine Told.t rfl ?_) | (refine Told.f rfl ?_) | (refine Told.t ?_ ?_; (focus assumption)) | (refine Told.f ?_ ?_; (focus assumption)) | (refine Told.t ?_ ?_; (focus (first | (simp; omega) | (simp [*]; done)); done)) | (refine Told.f ?_ ?_; (focus (first | (simp; omega) | (simp [*]; done)); done))); refine AWP.runL e tab_ok L3 300 rfl (by first | trivial | (simp [in64] <;> omega) | (simp only [in64, true_and, and_true]; omega)) ?_)
          | (refine AWP.callQ e rfl rfl ?_; (first | refine CallQ.mk (c2) rfl rfl ?_ | refine CallQ.mk (c3) rfl rfl ?_ | refine CallQ.mk (c4) rfl rfl ?_); refine AWP.runL e tab_ok L3 300 rfl (by first | trivial | (simp [in64] <;> omega) | (simp only [in64, true_and, and_true]; omega)) ?_)
          | (refine AWP.eq_agg e tab_ok rfl rfl rfl (.inl ⟨rfl, rfl⟩) ?_ 5 (by omega) rfl ?_ rfl rfl rfl rfl rfl rfl rfl ?_; (focus kernel_rfl); (focus kernel_rfl); refine AWP.runL e tab_ok L3 300 rfl (by first | trivial | (simp [in64] <;> omega) | (simp only [in64, true_and, and_true]; omega)) ?_)
          | (refine AWP.eq_agg e tab_ok rfl rfl rfl (.inr ⟨rfl, rfl⟩) ?_ 5 (by omega) rfl ?_ rfl rfl rfl rfl rfl rfl rfl ?_; (focus kernel_rfl); (focus kernel_rfl); refine AWP.runL e tab_ok L3 300 rfl (by first | trivial | (simp [in64] <;> omega) | (simp only [in64, true_and, and_true]; omega)) ?_)
        )
      have hzl : (zs.map pD).length = zs.length := List.length_map _
      refine AWP.loop (ι := Nat) (fun j => ⟨[(81, .i j), (80, .i (zs.map pD).length), (79, slP zs), (12, .ptr 3 0), (10, .ptr 2 0), (7, .i i), (36, .i i), (35, .i (onD on).length), (3, .ptr 0 0), (2, .s data), (1, .i fr)], [(3, .box [slP zs, slB o2]), (2, .box [slP ys, slB o2]), (0, .box [slP qs, slB os])], 4⟩) (fun j => j ≤ zs.length) (fun j => zs.length - j) 0 (Nat.zero_le _) ?_ ?_
      · intro g
        refine AWP.less e ?_ ?_ ?_ ?_ ?_ (g) <;> (repeat' (first | exact True.intro | (refine And.intro ?_ ?_) | rfl | assumption))
      intro j Φ1 hj next1
      refine AWP.runL e tab_ok L3 300 rfl (by first | trivial | (simp [in64] <;> omega) | (simp only [in64, true_and, and_true]; omega)) ?_
      refine AWP.cond2 rfl (fun hlt1 => ?_) (fun hlt1 => ?_)
      · have hlt1 : j < zs.length := by have := of_decide_eq_true hlt1; omega
        have hjq : j < qs.length := by omega
        have nx1 := next1 (j + 1) hlt1 (by show zs.length - (j + 1) < zs.length - j; omega)
        clear next1
        have hel := el_at pD zs hlt1
        have hely := el_at pD ys (show j < ys.length by omega)
        have ez := hzat j hjq
        have ey := hyat j hjq
        have hc := hcap j hjq
        have hoff := put_off o2 fr data i qs[j] hon2 hc
        have helse := put_else o2 fr data i qs[j]
        rw [← ez, ← ey] at hoff
        rw [← ez] at helse
        clear ez ey hc
        generalize zs[j] = z at *
        generalize ys[j] = y at *
        generalize qs[j] = q at *
        by_cases hst : q.st = i
        · obtain ⟨e1, e2, e3, e4⟩ := hoff hst
          have f1 : (z.st == (i : Int)) = true := by rw [e3]; simp
          by_cases hfr : q.fr = fr
          · rw [if_pos hfr] at e1
            have f2 : (z.fr == fr) = true := by rw [e4, hfr]; simp
            have f3 : (((rowS z.its).length : Int) == 1) = true := by rw [List.length_map, e1]; rfl
            have f4 : (z.fr != fr) = false := by rw [bne, f2]; rfl
            have f5 : (!((z.fr == fr) == (((rowS z.its).length : Int) == 1))) = false := by rw [f2, f3]; rfl
            clear hoff helse e1 e2 e3 e4 hst hfr
            refine AWP.runL e tab_ok L3 300 rfl (by first | trivial | (simp [in64] <;> omega) | (simp only [in64, true_and, and_true]; omega)) ?_
            refine AWP.idx e tab_ok rfl rfl rfl rfl j rfl hel ?_
            refine AWP.runL e tab_ok L3 300 rfl (by first | trivial | (simp [in64] <;> omega) | (simp only [in64, true_and, and_true]; omega)) ?_
            repeat (
              first
                | (refine AWP.askT rfl ?_; (first | (refine Told.t rfl ?_) | (refine Told.f rfl ?_) | (refine Told.t ?_ ?_; (focus assumption)) | (refine Told.f ?_ ?_; (focus assumption)) | (refine Told.t ?_ ?_; (focus (first | (simp; omega) | (simp [*]; done)); done)) | (refine Told.f ?_ ?_; (focus (first | (simp; omega) | (simp [*]; done)); done))); refine AWP.runL e tab_ok L3 300 rfl (by first | trivial | (simp [in64] <;> omega) | (simp only [in64, true_and, and_true]; omega)) ?_)
                | (refine AWP.eq_agg e tab_ok rfl rfl rfl (.inl ⟨rfl, rfl⟩) ?_ 5 (by omega) rfl ?_ rfl rfl rfl rfl rfl rfl rfl ?_; (focus kernel_rfl); (focus kernel_rfl); refine AWP.runL e tab_ok L3 300 rfl (by first | trivial | (simp [in64] <;> omega) | (simp only [in64, true_and, and_true]; omega)) ?_)
                | (refine AWP.eq_agg e tab_ok rfl rfl rfl (.inr ⟨rfl, rfl⟩) ?_ 5 (by omega) rfl ?_ rfl rfl rfl rfl rfl rfl rfl ?_; (focus kernel_rfl); (focus kernel_rfl); refine AWP.runL e tab_ok L3 300 rfl (by first | trivial | (simp [in64] <;> omega) | (simp only [in64, true_and, and_true]; omega)) ?_)
              )
            refine AWP.less e ?_ ?_ ?_ ?_ ?_ (nx1) <;> (repeat' (first | exact True.intro | (refine And.intro ?_ ?_) | rfl | assumption))
          · rw [if_neg hfr] at e1
            have f2 : (z.fr == fr) = false := by rw [e4, beq_eq_false_iff_ne]; exact hfr
            have f3 : (((rowS z.its).length : Int) == 1) = false := by rw [List.length_map, e1]; rfl
            have f4 : (z.fr != fr) = true := by rw [bne, f2]; rfl
            have f5 : (!((z.fr == fr) == (((rowS z.its).length : Int) == 1))) = false := by rw [f2, f3]; rfl
            have f6 : (((rowS y.its).length : Int) != 0) = false := by rw [List.length_map, e2]; rfl
            clear hoff helse e1 e2 e3 e4 hst hfr
            refine AWP.runL e tab_ok L3 300 rfl (by first | trivial | (simp [in64] <;> omega) | (simp only [in64, true_and, and_true]; omega)) ?_
            refine AWP.idx e tab_ok rfl rfl rfl rfl j rfl hel ?_
            refine AWP.runL e tab_ok L3 300 rfl (by first | trivial | (simp [in64] <;> omega) | (simp only [in64, true_and, and_true]; omega)) ?_
            repeat (
              first
                | (refine AWP.askT rfl ?_; (first | (refine Told.t rfl ?_) | (refine Told.f rfl ?_) | (refine Told.t ?_ ?_; (focus assumption)) | (refine Told.f ?_ ?_; (focus assumption)) | (refine Told.t ?_ ?_; (focus (first | (simp; omega) | (simp [*]; done)); done)) | (refine Told.f ?_ ?_; (focus (first | (simp; omega) | (simp [*]; done)); done))); refine AWP.runL e tab_ok L3 300 rfl (by first | trivial | (simp [in64] <;> omega) | (simp only [in64, true_and, and_true]; omega)) ?_)
                | (refine AWP.eq_agg e tab_ok rfl rfl rfl (.inl ⟨rfl, rfl⟩) ?_ 5 (by omega) rfl ?_ rfl rfl rfl rfl rfl rfl rfl ?_; (focus kernel_rfl); (focus kernel_rfl); refine AWP.runL e tab_ok L3 300 rfl (by first | trivial | (simp [in64] <;> omega) | (simp only [in64, true_and, and_true]; omega)) ?_)
                | (refine AWP.eq_agg e tab_ok rfl rfl rfl (.inr ⟨rfl, rfl⟩) ?_ 5 (by omega) rfl ?_ rfl rfl rfl rfl rfl rfl rfl ?_; (focus kernel_rfl); (focus kernel_rfl); refine AWP.runL e tab_ok L3 300 rfl (by first | trivial | (simp [in64] <;> omega) | (simp only [in64, true_and, and_true]; omega)) ?_)
              )
            refine AWP.idx e tab_ok rfl rfl rfl rfl j rfl hely ?_
            refine AWP.runL e tab_ok L3 300 rfl (by first | trivial | (simp [in64] <;> omega) | (simp only [in64, true_and, and_true]; omega)) ?_
            repeat (
              first
                | (refine AWP.askT rfl ?_; (first | (refine Told.t rfl ?_) | (refine Told.f rfl ?_) | (refine Told.t ?_ ?_; (focus assumption)) | (refine Told.f ?_ ?_; (focus assumption)) | (refine Told.t ?_ ?_; (focus (first | (simp; omega) | (simp [*]; done)); done)) | (refine Told.f ?_ ?_; (focus (first | (simp; omega) | (simp [*]; done)); done))); refine AWP.runL e tab_ok L3 300 rfl (by first | trivial | (simp [in64] <;> omega) | (simp only [in64, true_and, and_true]; omega)) ?_)
                | (refine AWP.eq_agg e tab_ok rfl rfl rfl (.inl ⟨rfl, rfl⟩) ?_ 5 (by omega) rfl ?_ rfl rfl rfl rfl rfl rfl rfl ?_; (focus kernel_rfl); (focus kernel_rfl); refine AWP.runL e tab_ok L3 300 rfl (by first | trivial | (simp [in64] <;> omega) | (simp only [in64, true_and, and_true]; omega)) ?_)
                | (refine AWP.eq_agg e tab_ok rfl rfl rfl (.inr ⟨rfl, rfl⟩) ?_ 5 (by omega) rfl ?_ rfl rfl rfl rfl rfl rfl rfl ?_; (focus kernel_rfl); (focus kernel_rfl); refine AWP.runL e tab_ok L3 300 rfl (by first | trivial | (simp [in64] <;> omega) | (simp only [in64, true_and, and_true]; omega)) ?_)
              )
            refine AWP.less e ?_ ?_ ?_ ?_ ?_ (nx1) <;> (repeat' (first | exact True.intro | (refine And.intro ?_ ?_) | rfl | assumption))
        · have f1 : (z.st == (i : Int)) = false := by rw [beq_eq_false_iff_ne]; exact helse hst
          clear hoff helse hst
          refine AWP.runL e tab_ok L3 300 rfl (by first | trivial | (simp [in64] <;> omega) | (simp only [in64, true_and, and_true]; omega)) ?_
          refine AWP.idx e tab_ok rfl rfl rfl rfl j rfl hel ?_
          refine AWP.runL e tab_ok L3 300 rfl (by first | trivial | (simp [in64] <;> omega) | (simp only [in64, true_and, and_true]; omega)) ?_
          repeat (
            first
              | (refine AWP.askT rfl ?_; (first | (refine Told.t rfl ?_) | (refine Told.f rfl ?_) | (refine Told.t ?_ ?_; (focus assumption)) | (refine Told.f ?_ ?_; (focus assumption)) | (refine Told.t ?_ ?_; (focus (first | (simp; omega) | (simp [*]; done)); done)) | (refine Told.f ?_ ?_; (focus (first | (simp; omega) | (simp [*]; done)); done))); refine AWP.runL e tab_ok L3 300 rfl (by first | trivial | (simp [in64] <;> omega) | (simp only [in64, true_and, and_true]; omega)) ?_)
              | (refine AWP.eq_agg e tab_ok rfl rfl rfl (.inl ⟨rfl, rfl⟩) ?_ 5 (by omega) rfl ?_ rfl rfl rfl rfl rfl rfl rfl ?_; (focus kernel_rfl); (focus kernel_rfl); refine AWP.runL e tab_ok L3 300 rfl (by first | trivial | (simp [in64] <;> omega) | (simp only [in64, true_and, and_true]; omega)) ?_)
              | (refine AWP.eq_agg e tab_ok rfl rfl rfl (.inr ⟨rfl, rfl⟩) ?_ 5 (by omega) rfl ?_ rfl rfl rfl rfl rfl rfl rfl ?_; (focus kernel_rfl); (focus kernel_rfl); refine AWP.runL e tab_ok L3 300 rfl (by first | trivial | (simp [in64] <;> omega) | (simp only [in64, true_and, and_true]; omega)) ?_)
            )
          refine AWP.less e ?_ ?_ ?_ ?_ ?_ (nx1) <;> (repeat' (first | exact True.intro | (refine And.intro ?_ ?_) | rfl | assumption))
      · refine AWP.runL e tab_ok L3 300 rfl (by first | trivial | (simp [in64] <;> omega) | (simp only [in64, true_and, and_true]; omega)) ?_
        refine AWP.less e ?_ ?_ ?_ ?_ ?_ (nx) <;> (repeat' (first | exact True.intro | (refine And.intro ?_ ?_) | rfl | assumption))
    · refine AWP.runL e tab_ok L3 300 rfl (by first | trivial | (simp [in64] <;> omega) | (simp only [in64, true_and, and_true]; omega)) ?_
      refine AWP.ret e tab_ok rfl ?_
      rw [hP]
      all_goals first | rfl | (simp [strip]; done)
  · repeat (
      first
        | (refine AWP.askT rfl ?_; (first | (refine Told.t rfl ?_) | (refine Told.f rfl ?_) | (refine Told.t ?_ ?_; (focus assumption)) | (refine Told.f ?_ ?_; (focus assumption)) | (refine Told.t ?_ ?_; (focus (first | (simp; omega) | (simp [*]; done)); done)) | (refine Told.f ?_ ?_; (focus (first | (simp; omega) | (simp [*]; done)); done))); refine AWP.runL e tab_ok L3 300 rfl (by first | trivial | (simp [in64] <;> omega) | (simp only [in64, true_and, and_true]; omega)) ?_)
        | (refine AWP.callQ e rfl rfl ?_; (first | refine CallQ.mk (c1) rfl rfl ?_ | refine CallQ.mk (al) rfl rfl ?_); refine AWP.runL e tab_ok L3 300 rfl (by first | trivial | (simp [in64] <;> omega) | (simp only [in64, true_and, and_true]; omega)) ?_)
        | (refine AWP.eq_agg e tab_ok rfl rfl rfl (.inl ⟨rfl, rfl⟩) ?_ 5 (by omega) rfl ?_ rfl rfl rfl rfl rfl rfl rfl ?_; (focus kernel_rfl); (focus kernel_rfl); refine AWP.runL e tab_ok L3 300 rfl (by first | trivial | (simp [in64] <;> omega) | (simp only [in64, true_and, and_true]; omega)) ?_)
        | (refine AWP.eq_agg e tab_ok rfl rfl rfl (.inr ⟨rfl, rfl⟩) ?_ 5 (by omega) rfl ?_ rfl rfl rfl rfl rfl rfl rfl ?_; (focus kernel_rfl); (focus kernel_rfl); refine AWP.runL e tab_ok L3 300 rfl (by first | trivial | (simp [in64] <;> omega) | (simp only [in64, true_and, and_true]; omega)) ?_)
      )
    refine AWP.ret e tab_ok rfl ?_
    rw [hP]
    all_goals first | rfl | (simp [strip]; done)
end Go.Proofs.Ythfkoejjpfhcdaa
