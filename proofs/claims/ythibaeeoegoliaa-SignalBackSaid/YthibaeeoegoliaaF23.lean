import Derived.Test.YthibaeeoegoliaaF22
open Go Go.Proofs Go.RowKit Go.Sy Go.Signal
namespace Go.Proofs.Ythibaeeoegoliaa

theorem put_comm {d : List UInt8} {la lb : List Nat} (v w : Int) (ha : ∀ x ∈ la, x < 8 * d.length) (hb : ∀ x ∈ lb, x < 8 * d.length) (na : la.Nodup) (nb : lb.Nodup) (hd : ∀ x ∈ la, x ∉ lb) :
    putL (putL d la v) lb w = putL (putL d lb w) la v := by
  have l1 := putL_len la d v
  have l2 := putL_len lb d w
  have ha2 : ∀ x ∈ la, x < 8 * (putL d lb w).length := fun x hx => by rw [l2]; exact ha x hx
  have hb2 : ∀ x ∈ lb, x < 8 * (putL d la v).length := fun x hx => by rw [l1]; exact hb x hx
  have e1 : la.map (bitAt (putL d la v)) = la.map (bitAt (putL (putL d lb w) la v)) := (putL_in la d v ha na).trans (putL_in la _ v ha2 na).symm
  have e2 : lb.map (bitAt (putL d lb w)) = lb.map (bitAt (putL (putL d la v) lb w)) := (putL_in lb d w hb nb).trans (putL_in lb _ w hb2 nb).symm
  apply ext_bits (by rw [putL_len, putL_len, putL_len, putL_len])
  intro x _
  by_cases h1 : x ∈ la
  · rw [putL_out lb _ w hb2 (hd x h1)]
    exact List.map_inj_left.1 e1 x h1
  · rw [putL_out la _ v ha2 h1]
    by_cases h2 : x ∈ lb
    · exact (List.map_inj_left.1 e2 x h2).symm
    · rw [putL_out lb _ w hb2 h2, putL_out la _ v ha h1, putL_out lb _ w hb h2]
/-- A value that may be one's, as it is got. -/
theorem val_bits {s : Sig} {l : List Nat} (h : places s = some l) {v : Int} (hf : fitsB s v = true) (hv : -9223372036854775808 ≤ v ∧ v ≤ 9223372036854775807) : valS s (vbits v l.length) = v := by
  have hl := places_len h
  have hg := good_of h
  unfold bad at hg
  simp only [Bool.or_eq_false_iff] at hg
  have h5 := hg.2
  have hwn : s.width.toNat = l.length := by omega
  unfold fitsB at hf
  unfold valS
  rw [hwn] at hf
  cases hs : s.sgn
  · rw [hs] at hf h5
    simp only [Bool.false_eq_true, if_false, Bool.and_eq_true, decide_eq_true_eq, Bool.or_eq_true] at hf ⊢
    simp at h5
    refine num_vbits _ v hf.1 ?_
    rcases hf.2 with h6 | h6
    · have h63 : l.length = 63 := by omega
      rw [h63, show ((2 ^ 63 : Nat) : Int) = 9223372036854775808 from by decide]
      omega
    · exact h6
  · rw [hs] at hf
    simp only [if_true, Bool.and_eq_true, decide_eq_true_eq] at hf ⊢
    obtain ⟨n, hn⟩ : ∃ n, l.length = n + 1 := ⟨l.length - 1, by omega⟩
    rw [hn] at hf ⊢
    exact sgn_vbits n v hf.1 hf.2
theorem over_apart {a b : Sig} {la lb : List Nat} (ha : places a = some la) (hb : places b = some lb) (h : overB a b = false) : ∀ x ∈ la, x ∉ lb := by
  intro x hx hy
  have : overB a b = true := by
    unfold overB
    rw [plI_some ha, plI_some hb]
    refine List.any_eq_true.2 ⟨(x : Int), List.mem_map.2 ⟨x, hy, rfl⟩, ?_⟩
    exact List.any_eq_true.2 ⟨(x : Int), List.mem_map.2 ⟨x, hx, rfl⟩, by simp⟩
  rw [h] at this
  cases this
theorem overB_comm (a b : Sig) : overB a b = overB b a := inL_comm _ _
theorem putR_ok {d : List UInt8} {s : Sig} {l : List Nat} {v : Int} (h : places s = some l) (h8 : d.length ≤ 8) (hr : rightB s d.length = true) (hf : fitsB s v = true) : putR d s v = .tup [.s (strL (putL d l v)), .i 0] := by
  unfold putR; rw [h]; dsimp only; rw [if_pos ⟨h8, hr⟩, if_pos hf]
theorem putR_no {d : List UInt8} {s : Sig} {l : List Nat} {v : Int} (h : places s = some l) (h8 : d.length ≤ 8) (hr : rightB s d.length = true) (hf : fitsB s v = false) : putR d s v = .tup [.s .empty, .i 32] := by
  unfold putR; rw [h]; dsimp only; rw [if_pos ⟨h8, hr⟩, if_neg (by rw [hf]; decide)]
theorem getR_ok {d : List UInt8} {s : Sig} {l : List Nat} (h : places s = some l) (h8 : d.length ≤ 8) (hr : rightB s d.length = true) : getR d s = .tup [.i (valS s (l.map (bitAt d))), .i 0] := by
  unfold getR; rw [h]; dsimp only; rw [if_pos ⟨h8, hr⟩]
theorem some_of_right {s : Sig} {n : Int} (h : rightB s n = true) : ∃ l, places s = some l := by
  unfold rightB at h
  cases hp : places s with
  | none => rw [hp] at h; cases h
  | some l => exact ⟨l, rfl⟩
set_option maxRecDepth 100000 in
set_option maxHeartbeats 4000000 in
theorem lapart_ok (data : List UInt8) (a b : Sig) (v w : Int) (hv : -9223372036854775808 ≤ v ∧ v ≤ 9223372036854775807) (hw : -9223372036854775808 ≤ w ∧ w ≤ 9223372036854775807) : Eff Try.prog 7 [.s (strL data), .agg (sC a), .agg (sC b), .i v, .i w] [] 0 (fun r _ _ => r = .b true) := by
  have hcut := cut_len data 8 rfl
  obtain ⟨d, hd⟩ : ∃ d, d = data.take 8 := ⟨_, rfl⟩
  have hd8 : d.length ≤ 8 := by rw [hd]; simp; omega
  rw [← hd] at hcut
  clear hd
  have hz : (strL d).size = d.length := strL_size d
  have c4 := alive_eff
  have c5 := refRight_at a d
  have c6 := refRight_at b d
  have c7 := refOver_eff a b
  rcases cases_b (rightB a d.length) with qa | qa <;> rw [qa] at c5
  · rcases cases_b (rightB b d.length) with qb | qb <;> rw [qb] at c6
    · rcases cases_b (overB a b) with qo | qo <;> rw [qo] at c7
      · refine eff_of Try.func7 rfl rfl rfl fun cx e hP => ?_
        refine AWP.runL e tab_ok L7 300 rfl (by first | trivial | (simp [] <;> omega) | (simp only [in64, true_and, and_true]; omega)) ?_
        refine AWP.eqT 30 (.i ((strL d).size : Int)) rfl (congrArg (fun z : ByteArray => SV.i (z.size : Int)) hcut) ?_
        refine AWP.eqT 0 (.s (strL d)) rfl (congrArg SV.s hcut) ?_
        repeat (
          first
            | (refine AWP.askT rfl ?_; (first | (refine Told.t rfl ?_) | (refine Told.f rfl ?_) | (refine Told.t ?_ ?_; (focus assumption)) | (refine Told.f ?_ ?_; (focus assumption)) | (refine Told.t ?_ ?_; (focus (first | (simp; omega) | (simp [*]; done)); done)) | (refine Told.f ?_ ?_; (focus (first | (simp; omega) | (simp [*]; done)); done))); refine AWP.runL e tab_ok L7 300 rfl (by first | trivial | (simp [in64] <;> omega) | (simp only [in64, true_and, and_true]; omega)) ?_)
            | (refine AWP.callQ e rfl rfl ?_; (first | refine CallQ.mk (c4) rfl rfl ?_ | refine CallQ.mk (c5) rfl rfl ?_ | refine CallQ.mk (c6) rfl rfl ?_ | refine CallQ.mk (c7) rfl rfl ?_); refine AWP.runL e tab_ok L7 300 rfl (by first | trivial | (simp [in64] <;> omega) | (simp only [in64, true_and, and_true]; omega)) ?_)
            | (refine AWP.eq_agg e tab_ok rfl rfl rfl (.inl ⟨rfl, rfl⟩) ?_ 5 (by omega) rfl ?_ rfl rfl rfl rfl rfl rfl rfl ?_; (focus kernel_rfl); (focus kernel_rfl); refine AWP.runL e tab_ok L7 300 rfl (by first | trivial | (simp [in64] <;> omega) | (simp only [in64, true_and, and_true]; omega)) ?_)
            | (refine AWP.eq_agg e tab_ok rfl rfl rfl (.inr ⟨rfl, rfl⟩) ?_ 5 (by omega) rfl ?_ rfl rfl rfl rfl rfl rfl rfl ?_; (focus kernel_rfl); (focus kernel_rfl); refine AWP.runL e tab_ok L7 300 rfl (by first | trivial | (simp [in64] <;> omega) | (simp only [in64, true_and, and_true]; omega)) ?_)
          )
        refine AWP.ret e tab_ok rfl ?_
        rw [hP]
        all_goals first | rfl | (simp [strip]; done)
      · obtain ⟨la, ha⟩ := some_of_right qa
        obtain ⟨lb, hb⟩ := some_of_right qb
        have c1 := Put_eff d a v (by omega)
        have c2 := Put_eff d b w (by omega)
        rcases cases_b (fitsB a v) with fa | fa
        · rcases cases_b (fitsB b w) with fb | fb
          · rw [putR_ok ha hd8 qa fa] at c1
            rw [putR_ok hb hd8 qb fb] at c2
            have ra := right_lt ha qa
            have rb := right_lt hb qb
            have na := places_nodup ha
            have nb := places_nodup hb
            have hap := over_apart ha hb qo
            have l1 := putL_len la d v
            have l2 := putL_len lb d w
            have l3 := putL_len lb (putL d la v) w
            have c8 := Put_eff (putL d la v) b w (by omega)
            have c9 := Put_eff (putL d lb w) a v (by omega)
            rw [putR_ok hb (by omega) (by rw [l1]; exact qb) fb] at c8
            rw [putR_ok ha (by omega) (by rw [l2]; exact qa) fa, ← put_comm v w ra rb na nb hap] at c9
            have c10 := Get_eff (putL (putL d la v) lb w) a (by omega)
            have c11 := Get_eff (putL (putL d la v) lb w) b (by omega)
            rw [getR_ok ha (by omega) (by rw [l3, l1]; exact qa)] at c10
            rw [getR_ok hb (by omega) (by rw [l3, l1]; exact qb)] at c11
            have e1 : la.map (bitAt (putL (putL d la v) lb w)) = vbits v la.length := by
              rw [← putL_in la d v ra na]
              refine List.map_inj_left.2 fun x hx => ?_
              exact putL_out lb _ w (fun y hy => by rw [l1]; exact rb y hy) (hap x hx)
            have e2 : lb.map (bitAt (putL (putL d la v) lb w)) = vbits w lb.length := putL_in lb _ w (fun y hy => by rw [l1]; exact rb y hy) nb
            rw [e1, val_bits ha fa hv] at c10
            rw [e2, val_bits hb fb hw] at c11
            have c12 := Over_eff b a
            rw [overB_comm b a, qo] at c12
            clear e1 e2 l1 l2 l3 hap
            generalize putL (putL d la v) lb w = p at *
            generalize putL d la v = x at *
            generalize putL d lb w = y at *
            have e8 := toList_self (strL p)
            refine eff_of Try.func7 rfl rfl rfl fun cx e hP => ?_
            refine AWP.runL e tab_ok L7 300 rfl (by first | trivial | (simp [] <;> omega) | (simp only [in64, true_and, and_true]; omega)) ?_
            refine AWP.eqT 30 (.i ((strL d).size : Int)) rfl (congrArg (fun z : ByteArray => SV.i (z.size : Int)) hcut) ?_
            refine AWP.eqT 0 (.s (strL d)) rfl (congrArg SV.s hcut) ?_
            repeat (
              first
                | (refine AWP.askT rfl ?_; (first | (refine Told.t rfl ?_) | (refine Told.f rfl ?_) | (refine Told.t ?_ ?_; (focus assumption)) | (refine Told.f ?_ ?_; (focus assumption)) | (refine Told.t ?_ ?_; (focus (first | (simp; omega) | (simp [*]; done)); done)) | (refine Told.f ?_ ?_; (focus (first | (simp; omega) | (simp [*]; done)); done))); refine AWP.runL e tab_ok L7 300 rfl (by first | trivial | (simp [in64] <;> omega) | (simp only [in64, true_and, and_true]; omega)) ?_)
                | (refine AWP.callQ e rfl rfl ?_; (first | refine CallQ.mk (c4) rfl rfl ?_ | refine CallQ.mk (c5) rfl rfl ?_ | refine CallQ.mk (c6) rfl rfl ?_ | refine CallQ.mk (c7) rfl rfl ?_ | refine CallQ.mk (c1) rfl rfl ?_ | refine CallQ.mk (c2) rfl rfl ?_ | refine CallQ.mk (c8) rfl rfl ?_ | refine CallQ.mk (c9) rfl rfl ?_ | refine CallQ.mk (c10) rfl rfl ?_ | refine CallQ.mk (c11) rfl rfl ?_ | refine CallQ.mk (c12) rfl rfl ?_); refine AWP.runL e tab_ok L7 300 rfl (by first | trivial | (simp [in64] <;> omega) | (simp only [in64, true_and, and_true]; omega)) ?_)
                | (refine AWP.eq_agg e tab_ok rfl rfl rfl (.inl ⟨rfl, rfl⟩) ?_ 5 (by omega) rfl ?_ rfl rfl rfl rfl rfl rfl rfl ?_; (focus kernel_rfl); (focus kernel_rfl); refine AWP.runL e tab_ok L7 300 rfl (by first | trivial | (simp [in64] <;> omega) | (simp only [in64, true_and, and_true]; omega)) ?_)
                | (refine AWP.eq_agg e tab_ok rfl rfl rfl (.inr ⟨rfl, rfl⟩) ?_ 5 (by omega) rfl ?_ rfl rfl rfl rfl rfl rfl rfl ?_; (focus kernel_rfl); (focus kernel_rfl); refine AWP.runL e tab_ok L7 300 rfl (by first | trivial | (simp [in64] <;> omega) | (simp only [in64, true_and, and_true]; omega)) ?_)
              )
            refine AWP.ret e tab_ok rfl ?_
            rw [hP]
            all_goals first | rfl | (simp [strip]; done)
          · rw [putR_ok ha hd8 qa fa] at c1
            rw [putR_no hb hd8 qb fb] at c2
            refine eff_of Try.func7 rfl rfl rfl fun cx e hP => ?_
            refine AWP.runL e tab_ok L7 300 rfl (by first | trivial | (simp [] <;> omega) | (simp only [in64, true_and, and_true]; omega)) ?_
            refine AWP.eqT 30 (.i ((strL d).size : Int)) rfl (congrArg (fun z : ByteArray => SV.i (z.size : Int)) hcut) ?_
            refine AWP.eqT 0 (.s (strL d)) rfl (congrArg SV.s hcut) ?_
            repeat (
              first
                | (refine AWP.askT rfl ?_; (first | (refine Told.t rfl ?_) | (refine Told.f rfl ?_) | (refine Told.t ?_ ?_; (focus assumption)) | (refine Told.f ?_ ?_; (focus assumption)) | (refine Told.t ?_ ?_; (focus (first | (simp; omega) | (simp [*]; done)); done)) | (refine Told.f ?_ ?_; (focus (first | (simp; omega) | (simp [*]; done)); done))); refine AWP.runL e tab_ok L7 300 rfl (by first | trivial | (simp [in64] <;> omega) | (simp only [in64, true_and, and_true]; omega)) ?_)
                | (refine AWP.callQ e rfl rfl ?_; (first | refine CallQ.mk (c4) rfl rfl ?_ | refine CallQ.mk (c5) rfl rfl ?_ | refine CallQ.mk (c6) rfl rfl ?_ | refine CallQ.mk (c7) rfl rfl ?_ | refine CallQ.mk (c1) rfl rfl ?_ | refine CallQ.mk (c2) rfl rfl ?_); refine AWP.runL e tab_ok L7 300 rfl (by first | trivial | (simp [in64] <;> omega) | (simp only [in64, true_and, and_true]; omega)) ?_)
                | (refine AWP.eq_agg e tab_ok rfl rfl rfl (.inl ⟨rfl, rfl⟩) ?_ 5 (by omega) rfl ?_ rfl rfl rfl rfl rfl rfl rfl ?_; (focus kernel_rfl); (focus kernel_rfl); refine AWP.runL e tab_ok L7 300 rfl (by first | trivial | (simp [in64] <;> omega) | (simp only [in64, true_and, and_true]; omega)) ?_)
                | (refine AWP.eq_agg e tab_ok rfl rfl rfl (.inr ⟨rfl, rfl⟩) ?_ 5 (by omega) rfl ?_ rfl rfl rfl rfl rfl rfl rfl ?_; (focus kernel_rfl); (focus kernel_rfl); refine AWP.runL e tab_ok L7 300 rfl (by first | trivial | (simp [in64] <;> omega) | (simp only [in64, true_and, and_true]; omega)) ?_)
              )
            refine AWP.ret e tab_ok rfl ?_
            rw [hP]
            all_goals first | rfl | (simp [strip]; done)
        · rw [putR_no ha hd8 qa fa] at c1
          rcases cases_b (fitsB b w) with fb | fb
          · rw [putR_ok hb hd8 qb fb] at c2
            refine eff_of Try.func7 rfl rfl rfl fun cx e hP => ?_
            refine AWP.runL e tab_ok L7 300 rfl (by first | trivial | (simp [] <;> omega) | (simp only [in64, true_and, and_true]; omega)) ?_
            refine AWP.eqT 30 (.i ((strL d).size : Int)) rfl (congrArg (fun z : ByteArray => SV.i (z.size : Int)) hcut) ?_
            refine AWP.eqT 0 (.s (strL d)) rfl (congrArg SV.s hcut) ?_
            repeat (
              first
                | (refine AWP.askT rfl ?_; (first | (refine Told.t rfl ?_) | (refine Told.f rfl ?_) | (refine Told.t ?_ ?_; (focus assumption)) | (refine Told.f ?_ ?_; (focus assumption)) | (refine Told.t ?_ ?_; (focus (first | (simp; omega) | (simp [*]; done)); done)) | (refine Told.f ?_ ?_; (focus (first | (simp; omega) | (simp [*]; done)); done))); refine AWP.runL e tab_ok L7 300 rfl (by first | trivial | (simp [in64] <;> omega) | (simp only [in64, true_and, and_true]; omega)) ?_)
                | (refine AWP.callQ e rfl rfl ?_; (first | refine CallQ.mk (c4) rfl rfl ?_ | refine CallQ.mk (c5) rfl rfl ?_ | refine CallQ.mk (c6) rfl rfl ?_ | refine CallQ.mk (c7) rfl rfl ?_ | refine CallQ.mk (c1) rfl rfl ?_ | refine CallQ.mk (c2) rfl rfl ?_); refine AWP.runL e tab_ok L7 300 rfl (by first | trivial | (simp [in64] <;> omega) | (simp only [in64, true_and, and_true]; omega)) ?_)
                | (refine AWP.eq_agg e tab_ok rfl rfl rfl (.inl ⟨rfl, rfl⟩) ?_ 5 (by omega) rfl ?_ rfl rfl rfl rfl rfl rfl rfl ?_; (focus kernel_rfl); (focus kernel_rfl); refine AWP.runL e tab_ok L7 300 rfl (by first | trivial | (simp [in64] <;> omega) | (simp only [in64, true_and, and_true]; omega)) ?_)
                | (refine AWP.eq_agg e tab_ok rfl rfl rfl (.inr ⟨rfl, rfl⟩) ?_ 5 (by omega) rfl ?_ rfl rfl rfl rfl rfl rfl rfl ?_; (focus kernel_rfl); (focus kernel_rfl); refine AWP.runL e tab_ok L7 300 rfl (by first | trivial | (simp [in64] <;> omega) | (simp only [in64, true_and, and_true]; omega)) ?_)
              )
            refine AWP.ret e tab_ok rfl ?_
            rw [hP]
            all_goals first | rfl | (simp [strip]; done)
          · rw [putR_no hb hd8 qb fb] at c2
            refine eff_of Try.func7 rfl rfl rfl fun cx e hP => ?_
            refine AWP.runL e tab_ok L7 300 rfl (by first | trivial | (simp [] <;> omega) | (simp only [in64, true_and, and_true]; omega)) ?_
            refine AWP.eqT 30 (.i ((strL d).size : Int)) rfl (congrArg (fun z : ByteArray => SV.i (z.size : Int)) hcut) ?_
            refine AWP.eqT 0 (.s (strL d)) rfl (congrArg SV.s hcut) ?_
            repeat (
              first
                | (refine AWP.askT rfl ?_; (first | (refine Told.t rfl ?_) | (refine Told.f rfl ?_) | (refine Told.t ?_ ?_; (focus assumption)) | (refine Told.f ?_ ?_; (focus assumption)) | (refine Told.t ?_ ?_; (focus (first | (simp; omega) | (simp [*]; done)); done)) | (refine Told.f ?_ ?_; (focus (first | (simp; omega) | (simp [*]; done)); done))); refine AWP.runL e tab_ok L7 300 rfl (by first | trivial | (simp [in64] <;> omega) | (simp only [in64, true_and, and_true]; omega)) ?_)
                | (refine AWP.callQ e rfl rfl ?_; (first | refine CallQ.mk (c4) rfl rfl ?_ | refine CallQ.mk (c5) rfl rfl ?_ | refine CallQ.mk (c6) rfl rfl ?_ | refine CallQ.mk (c7) rfl rfl ?_ | refine CallQ.mk (c1) rfl rfl ?_ | refine CallQ.mk (c2) rfl rfl ?_); refine AWP.runL e tab_ok L7 300 rfl (by first | trivial | (simp [in64] <;> omega) | (simp only [in64, true_and, and_true]; omega)) ?_)
                | (refine AWP.eq_agg e tab_ok rfl rfl rfl (.inl ⟨rfl, rfl⟩) ?_ 5 (by omega) rfl ?_ rfl rfl rfl rfl rfl rfl rfl ?_; (focus kernel_rfl); (focus kernel_rfl); refine AWP.runL e tab_ok L7 300 rfl (by first | trivial | (simp [in64] <;> omega) | (simp only [in64, true_and, and_true]; omega)) ?_)
                | (refine AWP.eq_agg e tab_ok rfl rfl rfl (.inr ⟨rfl, rfl⟩) ?_ 5 (by omega) rfl ?_ rfl rfl rfl rfl rfl rfl rfl ?_; (focus kernel_rfl); (focus kernel_rfl); refine AWP.runL e tab_ok L7 300 rfl (by first | trivial | (simp [in64] <;> omega) | (simp only [in64, true_and, and_true]; omega)) ?_)
              )
            refine AWP.ret e tab_ok rfl ?_
            rw [hP]
            all_goals first | rfl | (simp [strip]; done)
    · refine eff_of Try.func7 rfl rfl rfl fun cx e hP => ?_
      refine AWP.runL e tab_ok L7 300 rfl (by first | trivial | (simp [] <;> omega) | (simp only [in64, true_and, and_true]; omega)) ?_
      refine AWP.eqT 30 (.i ((strL d).size : Int)) rfl (congrArg (fun z : ByteArray => SV.i (z.size : Int)) hcut) ?_
      refine AWP.eqT 0 (.s (strL d)) rfl (congrArg SV.s hcut) ?_
      repeat (
        first
          | (refine AWP.askT rfl ?_; (first | (refine Told.t rfl ?_) | (refine Told.f rfl ?_) | (refine Told.t ?_ ?_; (focus assumption)) | (refine Told.f ?_ ?_; (focus assumption)) | (refine Told.t ?_ ?_; (focus (first | (simp; omega) | (simp [*]; done)); done)) | (refine Told.f ?_ ?_; (focus (first | (simp; omega) | (simp [*]; done)); done))); refine AWP.runL e tab_ok L7 300 rfl (by first | trivial | (simp [in64] <;> omega) | (simp only [in64, true_and, and_true]; omega)) ?_)
          | (refine AWP.callQ e rfl rfl ?_; (first | refine CallQ.mk (c4) rfl rfl ?_ | refine CallQ.mk (c5) rfl rfl ?_ | refine CallQ.mk (c6) rfl rfl ?_ | refine CallQ.mk (c7) rfl rfl ?_); refine AWP.runL e tab_ok L7 300 rfl (by first | trivial | (simp [in64] <;> omega) | (simp only [in64, true_and, and_true]; omega)) ?_)
          | (refine AWP.eq_agg e tab_ok rfl rfl rfl (.inl ⟨rfl, rfl⟩) ?_ 5 (by omega) rfl ?_ rfl rfl rfl rfl rfl rfl rfl ?_; (focus kernel_rfl); (focus kernel_rfl); refine AWP.runL e tab_ok L7 300 rfl (by first | trivial | (simp [in64] <;> omega) | (simp only [in64, true_and, and_true]; omega)) ?_)
          | (refine AWP.eq_agg e tab_ok rfl rfl rfl (.inr ⟨rfl, rfl⟩) ?_ 5 (by omega) rfl ?_ rfl rfl rfl rfl rfl rfl rfl ?_; (focus kernel_rfl); (focus kernel_rfl); refine AWP.runL e tab_ok L7 300 rfl (by first | trivial | (simp [in64] <;> omega) | (simp only [in64, true_and, and_true]; omega)) ?_)
        )
      refine AWP.ret e tab_ok rfl ?_
      rw [hP]
      all_goals first | rfl | (simp [strip]; done)
  · refine eff_of Try.func7 rfl rfl rfl fun cx e hP => ?_
    refine AWP.runL e tab_ok L7 300 rfl (by first | trivial | (simp [] <;> omega) | (simp only [in64, true_and, and_true]; omega)) ?_
    refine AWP.eqT 30 (.i ((strL d).size : Int)) rfl (congrArg (fun z : ByteArray => SV.i (z.size : Int)) hcut) ?_
    refine AWP.eqT 0 (.s (strL d)) rfl (congrArg SV.s hcut) ?_
    repeat (
      first
        | (refine AWP.askT rfl ?_; (first | (refine Told.t rfl ?_) | (refine Told.f rfl ?_) | (refine Told.t ?_ ?_; (focus assumption)) | (refine Told.f ?_ ?_; (focus assumption)) | (refine Told.t ?_ ?_; (focus (first | (simp; omega) | (simp [*]; done)); done)) | (refine Told.f ?_ ?_; (focus (first | (simp; omega) | (simp [*]; done)); done))); refine AWP.runL e tab_ok L7 300 rfl (by first | trivial | (simp [in64] <;> omega) | (simp only [in64, true_and, and_true]; omega)) ?_)
        | (refine AWP.callQ e rfl rfl ?_; (first | refine CallQ.mk (c4) rfl rfl ?_ | refine CallQ.mk (c5) rfl rfl ?_ | refine CallQ.mk (c6) rfl rfl ?_ | refine CallQ.mk (c7) rfl rfl ?_); refine AWP.runL e tab_ok L7 300 rfl (by first | trivial | (simp [in64] <;> omega) | (simp only [in64, true_and, and_true]; omega)) ?_)
        | (refine AWP.eq_agg e tab_ok rfl rfl rfl (.inl ⟨rfl, rfl⟩) ?_ 5 (by omega) rfl ?_ rfl rfl rfl rfl rfl rfl rfl ?_; (focus kernel_rfl); (focus kernel_rfl); refine AWP.runL e tab_ok L7 300 rfl (by first | trivial | (simp [in64] <;> omega) | (simp only [in64, true_and, and_true]; omega)) ?_)
        | (refine AWP.eq_agg e tab_ok rfl rfl rfl (.inr ⟨rfl, rfl⟩) ?_ 5 (by omega) rfl ?_ rfl rfl rfl rfl rfl rfl rfl ?_; (focus kernel_rfl); (focus kernel_rfl); refine AWP.runL e tab_ok L7 300 rfl (by first | trivial | (simp [in64] <;> omega) | (simp only [in64, true_and, and_true]; omega)) ?_)
      )
    refine AWP.ret e tab_ok rfl ?_
    rw [hP]
    all_goals first | rfl | (simp [strip]; done)
theorem lapart_args (l : List SV) (h : Args tab 9 [9, 23, 23, 2, 2] l) : Eff Try.prog 7 l [] 0 (fun r _ _ => r = .b true) := by
  obtain ⟨_, _, rfl, ⟨data, rfl, _⟩, x, _, rfl, hx, y, _, rfl, hy, _, _, rfl, ⟨v, rfl, hv1, hv2⟩, _, _, rfl, ⟨w, rfl, hw1, hw2⟩, rfl⟩ := h
  obtain ⟨a, ha⟩ := sig_of (n := 7) x hx
  obtain ⟨b, hb⟩ := sig_of (n := 7) y hy
  rw [show argSV tab 23 x = .agg (sC a) from congrArg SV.agg ha, show argSV tab 23 y = .agg (sC b) from congrArg SV.agg hb, ← strL_of data]
  exact lapart_ok _ a b v w ⟨hv1, hv2⟩ ⟨hw1, hw2⟩
end Go.Proofs.Ythibaeeoegoliaa
