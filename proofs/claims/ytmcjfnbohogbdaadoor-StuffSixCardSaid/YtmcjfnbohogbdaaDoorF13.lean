import Derived.Test.YtmcjfnbohogbdaaDoorF12
open Go Go.Proofs Go.Sy Go.Stuff
namespace Go.Proofs.YtmcjfnbohogbdaaDoor

theorem no_six (l : List UInt8) (hb : ∀ c ∈ l, isB c) (c : UInt8) : Lib.contains (stuffL x0 l) [c, c, c, c, c, c] = false := by
  rcases cases_b (Lib.contains (stuffL x0 l) [c, c, c, c, c, c]) with q | q
  · obtain ⟨u, v, h⟩ := (has_iff _ _).1 q
    exact absurd h (stuff_no_six l hb u v c)
  · exact q
theorem cut_take (l : List UInt8) (k : Nat) : (strL l).extract ((none : Option Int).getD 0).toNat ((some (k : Int)).getD ((strL l).size : Int)).toNat = strL (l.take k) := by
  apply ByteArray.ext
  simp [strL]
theorem cut_drop (l : List UInt8) (k : Nat) : (strL l).extract ((some (k : Int)).getD 0).toNat ((none : Option Int).getD ((strL l).size : Int)).toNat = strL (l.drop k) := by
  apply ByteArray.ext
  simp [strL, List.extract_eq_take_drop, ByteArray.size]
  exact List.take_of_length_le (by simp)
theorem six_eff (A : List UInt8) (k : Nat) (c : UInt8) (hc : isB c) (hA : A.length ≤ 1300) (hb : ∀ d ∈ A, isB d) : Eff Tryd.prog 15 [.s (strL (A.take k ++ [c, c, c, c, c, c] ++ A.drop k))] [] 0 (fun r _ _ => r = .tup [.s ⟨#[]⟩, .i 10]) := by
  have h : unst x0 (A.take k ++ [c, c, c, c, c, c] ++ A.drop k) = none := by
    have := unst_six_in x0 (by decide) (A.take k) (A.drop k) c
    rw [List.append_assoc]
    exact this
  have hw : wellB (A.take k ++ [c, c, c, c, c, c] ++ A.drop k) = true := by
    refine well_of (by simp; omega) fun d hd => ?_
    rcases List.mem_append.1 hd with hd | hd
    · rcases List.mem_append.1 hd with hd | hd
      · exact hb d (List.mem_of_mem_take hd)
      · have : d = c := by simpa using hd
        rw [this]; exact hc
    · exact hb d (List.mem_of_mem_drop hd)
  have := unst_ok _ hw
  unfold unstR at this
  rw [h] at this
  exact this
set_option maxRecDepth 100000 in
set_option maxHeartbeats 2000000 in
theorem lsix_ok (s l : List UInt8) (at' : Int) (bit : Bool) (hl : l.length ≤ 1000) (hcut : (strL s).extract 0 (if (1000 : Int) < ((strL s).size : Int) then (1000 : Int) else ((strL s).size : Int)).toNat = strL l) : EffG Tryd.prog 8 [.s (strL s), .i at', .b bit] (HasInt 0) (fun r _ _ => r = .b true) := by
  have al := alive_eff
  have w := refright_eff l (by omega)
  rcases cases_b (wellB l) with hw | hw <;> rw [hw] at w
  · have c1 := stuff_ok l hw
    have hlen : 4 * (stuffL x0 l).length ≤ 5 * l.length := (stuff_len l x0 (by decide) (well_isB hw)).2
    have hlen2 : l.length ≤ (stuffL x0 l).length := (stuff_len l x0 (by decide) (well_isB hw)).1
    rw [stuffR_ok (by omega)] at c1
    have q0 := no_six l (well_isB hw) 48
    have q1 := no_six l (well_isB hw) 49
    have hz1 : (strL l).size = l.length := strL_size l
    have hz2 : (strL (stuffL x0 l)).size = (stuffL x0 l).length := strL_size _
    have hbits := stuff_bits l x0 (well_isB hw)
    generalize stuffL x0 l = A at *
    refine effG_of Tryd.func8 rfl rfl rfl fun cx e hP hF hG => ?_
    refine AWP.runL e tab_ok L8 300 rfl (by first | trivial | (simp [] <;> omega) | (simp only [in64, true_and, and_true]; omega)) ?_
    refine AWP.eqT 0 (.s (strL l)) rfl (congrArg SV.s hcut) ?_
    refine AWP.eqT 18 (.s (strL l)) rfl (congrArg SV.s hcut) ?_
    clear hcut
    have k0 := gc cx hF hG A ⟨#[48, 48, 48, 48, 48, 48]⟩ (by omega) q0
    have k1 := gc cx hF hG A ⟨#[49, 49, 49, 49, 49, 49]⟩ (by omega) q1
    repeat (
      first
        | (refine AWP.askT rfl ?_; (first | (refine Told.t rfl ?_) | (refine Told.f rfl ?_) | (refine Told.t ?_ ?_; (focus assumption)) | (refine Told.f ?_ ?_; (focus assumption)) | (refine Told.t ?_ ?_; (focus (first | (simp; omega) | (simp [*]; done)); done)) | (refine Told.f ?_ ?_; (focus (first | (simp; omega) | (simp [*]; done)); done))); refine AWP.runL e tab_ok L8 300 rfl (by first | trivial | (simp [in64] <;> omega) | (simp only [in64, true_and, and_true]; omega)) ?_)
        | (refine AWP.callQ e rfl rfl ?_; (first | refine CallQ.mk (c1) rfl rfl ?_ | refine CallQ.mk (al) rfl rfl ?_); refine AWP.runL e tab_ok L8 300 rfl (by first | trivial | (simp [in64] <;> omega) | (simp only [in64, true_and, and_true]; omega)) ?_)
        | (refine AWP.eq_agg e tab_ok rfl rfl rfl (.inl ⟨rfl, rfl⟩) ?_ 5 (by omega) rfl ?_ rfl rfl rfl rfl rfl rfl rfl ?_; (focus kernel_rfl); (focus kernel_rfl); refine AWP.runL e tab_ok L8 300 rfl (by first | trivial | (simp [in64] <;> omega) | (simp only [in64, true_and, and_true]; omega)) ?_)
        | (refine AWP.eq_agg e tab_ok rfl rfl rfl (.inr ⟨rfl, rfl⟩) ?_ 5 (by omega) rfl ?_ rfl rfl rfl rfl rfl rfl rfl ?_; (focus kernel_rfl); (focus kernel_rfl); refine AWP.runL e tab_ok L8 300 rfl (by first | trivial | (simp [in64] <;> omega) | (simp only [in64, true_and, and_true]; omega)) ?_)
        | (refine AWP.callG' e k0 rfl rfl rfl rfl ?_; refine AWP.runL e tab_ok L8 300 rfl (by first | trivial | (simp [in64] <;> omega) | (simp only [in64, true_and, and_true]; omega)) ?_)
        | (refine AWP.callG' e k1 rfl rfl rfl rfl ?_; refine AWP.runL e tab_ok L8 300 rfl (by first | trivial | (simp [in64] <;> omega) | (simp only [in64, true_and, and_true]; omega)) ?_)
      )
    obtain ⟨k, hk, hkA⟩ : ∃ k : Nat, (if ((strL A).size : Int) < if (0 : Int) > at' then 0 else at' then ((strL A).size : Int) else if (0 : Int) > at' then 0 else at') = (k : Int) ∧ k ≤ A.length := by
      refine ⟨(if ((strL A).size : Int) < if (0 : Int) > at' then 0 else at' then ((strL A).size : Int) else if (0 : Int) > at' then 0 else at').toNat, ?_, ?_⟩ <;> (rw [hz2]; repeat' split) <;> omega
    refine AWP.eqT 1 (.i k) rfl (congrArg SV.i hk) ?_
    clear hk
    cases bit
    · have c2 := six_eff A k 49 (by unfold isB; decide) (by omega) hbits
      have m1 : (strL A).extract ((none : Option Int).getD 0).toNat ((some (k : Int)).getD ((strL A).size : Int)).toNat ++ (⟨#[49, 49, 49, 49, 49, 49]⟩ : ByteArray) ++ (strL A).extract ((some (k : Int)).getD 0).toNat ((none : Option Int).getD ((strL A).size : Int)).toNat = strL (A.take k ++ [49, 49, 49, 49, 49, 49] ++ A.drop k) := by
        rw [cut_take, cut_drop, show (⟨#[49, 49, 49, 49, 49, 49]⟩ : ByteArray) = strL [49, 49, 49, 49, 49, 49] from rfl, str_app, str_app]
      have s1 : ((strL A).extract ((none : Option Int).getD 0).toNat ((some (k : Int)).getD ((strL A).size : Int)).toNat ++ (⟨#[49, 49, 49, 49, 49, 49]⟩ : ByteArray)).size ≤ 1400 := by
        rw [cut_take, show (⟨#[49, 49, 49, 49, 49, 49]⟩ : ByteArray) = strL [49, 49, 49, 49, 49, 49] from rfl, str_app, strL_size]; simp; omega
      have s2 : ((strL A).extract ((some (k : Int)).getD 0).toNat ((none : Option Int).getD ((strL A).size : Int)).toNat).size ≤ 1400 := by
        rw [cut_drop, strL_size]; simp; omega
      have s3 : ((strL A).extract ((none : Option Int).getD 0).toNat ((some (k : Int)).getD ((strL A).size : Int)).toNat).size ≤ 1400 := by
        rw [cut_take, strL_size]; simp; omega
      have s4 : (⟨#[49, 49, 49, 49, 49, 49]⟩ : ByteArray).size = 6 := rfl
      rw [← m1] at c2
      clear m1
      repeat (
        first
          | (refine AWP.askT rfl ?_; (first | (refine Told.t rfl ?_) | (refine Told.f rfl ?_) | (refine Told.t ?_ ?_; (focus assumption)) | (refine Told.f ?_ ?_; (focus assumption)) | (refine Told.t ?_ ?_; (focus (first | (simp; omega) | (simp [*]; done)); done)) | (refine Told.f ?_ ?_; (focus (first | (simp; omega) | (simp [*]; done)); done))); refine AWP.runL e tab_ok L8 300 rfl (by first | trivial | (simp [in64] <;> omega) | (simp only [in64, true_and, and_true]; omega)) ?_)
        )
      repeat (
        first
          | (refine AWP.askT rfl ?_; (first | (refine Told.t rfl ?_) | (refine Told.f rfl ?_) | (refine Told.t ?_ ?_; (focus assumption)) | (refine Told.f ?_ ?_; (focus assumption)) | (refine Told.t ?_ ?_; (focus (first | (simp; omega) | (simp [*]; done)); done)) | (refine Told.f ?_ ?_; (focus (first | (simp; omega) | (simp [*]; done)); done))); refine AWP.runL e tab_ok L8 300 rfl (by first | trivial | (simp [in64] <;> omega) | (simp only [in64, true_and, and_true]; omega)) ?_)
          | (refine AWP.callQ e rfl rfl ?_; (first | refine CallQ.mk (c2) rfl rfl ?_ | refine CallQ.mk (al) rfl rfl ?_); refine AWP.runL e tab_ok L8 300 rfl (by first | trivial | (simp [in64] <;> omega) | (simp only [in64, true_and, and_true]; omega)) ?_)
          | (refine AWP.eq_agg e tab_ok rfl rfl rfl (.inl ⟨rfl, rfl⟩) ?_ 5 (by omega) rfl ?_ rfl rfl rfl rfl rfl rfl rfl ?_; (focus kernel_rfl); (focus kernel_rfl); refine AWP.runL e tab_ok L8 300 rfl (by first | trivial | (simp [in64] <;> omega) | (simp only [in64, true_and, and_true]; omega)) ?_)
          | (refine AWP.eq_agg e tab_ok rfl rfl rfl (.inr ⟨rfl, rfl⟩) ?_ 5 (by omega) rfl ?_ rfl rfl rfl rfl rfl rfl rfl ?_; (focus kernel_rfl); (focus kernel_rfl); refine AWP.runL e tab_ok L8 300 rfl (by first | trivial | (simp [in64] <;> omega) | (simp only [in64, true_and, and_true]; omega)) ?_)
          | (refine AWP.keep L8 rfl ?_; refine AWP.drg 100 ?_; (refine DrG.runS e tab_ok 200 rfl (by first | trivial | (simp [] <;> omega) | (simp only [in64, true_and, and_true]; omega)) ?_); (repeat (first | (refine DrG.askT rfl ?_; (first | (refine Told.t rfl ?_) | (refine Told.f rfl ?_) | (refine Told.t ?_ ?_; (focus assumption)) | (refine Told.f ?_ ?_; (focus assumption)) | (refine Told.t ?_ ?_; (focus (first | (simp; omega) | (simp [*]; done)); done)) | (refine Told.f ?_ ?_; (focus (first | (simp; omega) | (simp [*]; done)); done))); (refine DrG.runS e tab_ok 200 rfl (by first | trivial | (simp [in64] <;> omega) | (simp only [in64, true_and, and_true]; omega)) ?_)) | (refine DrG.callQ e rfl rfl ?_; (first | refine CallVQ.mk (c2) rfl rfl ?_ | refine CallVQ.mk (al) rfl rfl ?_); (refine DrG.runS e tab_ok 200 rfl (by first | trivial | (simp [in64] <;> omega) | (simp only [in64, true_and, and_true]; omega)) ?_)) | (refine DrG.callGo e rfl rfl rfl ?_; (first | refine CallVQ.mk (c2) rfl rfl ?_ | refine CallVQ.mk (al) rfl rfl ?_); (refine DrG.runS e tab_ok 200 rfl (by first | trivial | (simp [in64] <;> omega) | (simp only [in64, true_and, and_true]; omega)) ?_)) | (refine DrG.eq_agg e tab_ok rfl rfl rfl (.inl ⟨rfl, rfl⟩) ?_ 5 (by omega) rfl ?_ rfl rfl rfl rfl rfl rfl rfl ?_; (focus kernel_rfl); (focus kernel_rfl); (refine DrG.runS e tab_ok 200 rfl (by first | trivial | (simp [in64] <;> omega) | (simp only [in64, true_and, and_true]; omega)) ?_)) | (refine DrG.eq_aggGo e tab_ok rfl rfl rfl rfl (.inl ⟨rfl, rfl⟩) ?_ 5 (by omega) rfl ?_ rfl rfl rfl rfl rfl rfl rfl ?_; (focus kernel_rfl); (focus kernel_rfl); (refine DrG.runS e tab_ok 200 rfl (by first | trivial | (simp [in64] <;> omega) | (simp only [in64, true_and, and_true]; omega)) ?_)) | (refine DrG.eq_agg e tab_ok rfl rfl rfl (.inr ⟨rfl, rfl⟩) ?_ 5 (by omega) rfl ?_ rfl rfl rfl rfl rfl rfl rfl ?_; (focus kernel_rfl); (focus kernel_rfl); (refine DrG.runS e tab_ok 200 rfl (by first | trivial | (simp [in64] <;> omega) | (simp only [in64, true_and, and_true]; omega)) ?_)) | (refine DrG.eq_aggGo e tab_ok rfl rfl rfl rfl (.inr ⟨rfl, rfl⟩) ?_ 5 (by omega) rfl ?_ rfl rfl rfl rfl rfl rfl rfl ?_; (focus kernel_rfl); (focus kernel_rfl); (refine DrG.runS e tab_ok 200 rfl (by first | trivial | (simp [in64] <;> omega) | (simp only [in64, true_and, and_true]; omega)) ?_)))); refine DrG.finK e rfl ?_ rfl rfl rfl ?_ ?_; (focus kernel_rfl); (focus (repeat' (first | exact True.intro | (refine And.intro ?_ ?_) | rfl | assumption | exact okRow _))); dsimp only [tmS, hpS, tput, effH]; refine AWP.runL e tab_ok L8 300 rfl (by first | trivial | (simp [in64] <;> omega) | (simp only [in64, true_and, and_true]; omega)) ?_)
        )
      repeat (
        first
          | (refine AWP.askT rfl ?_; (first | (refine Told.t rfl ?_) | (refine Told.f rfl ?_) | (refine Told.t ?_ ?_; (focus assumption)) | (refine Told.f ?_ ?_; (focus assumption)) | (refine Told.t ?_ ?_; (focus (first | (simp; omega) | (simp [*]; done)); done)) | (refine Told.f ?_ ?_; (focus (first | (simp; omega) | (simp [*]; done)); done))); refine AWP.runL e tab_ok L8 300 rfl (by first | trivial | (simp [in64] <;> omega) | (simp only [in64, true_and, and_true]; omega)) ?_)
          | (refine AWP.callQ e rfl rfl ?_; (first | refine CallQ.mk (c2) rfl rfl ?_ | refine CallQ.mk (al) rfl rfl ?_); refine AWP.runL e tab_ok L8 300 rfl (by first | trivial | (simp [in64] <;> omega) | (simp only [in64, true_and, and_true]; omega)) ?_)
          | (refine AWP.eq_agg e tab_ok rfl rfl rfl (.inl ⟨rfl, rfl⟩) ?_ 5 (by omega) rfl ?_ rfl rfl rfl rfl rfl rfl rfl ?_; (focus kernel_rfl); (focus kernel_rfl); refine AWP.runL e tab_ok L8 300 rfl (by first | trivial | (simp [in64] <;> omega) | (simp only [in64, true_and, and_true]; omega)) ?_)
          | (refine AWP.eq_agg e tab_ok rfl rfl rfl (.inr ⟨rfl, rfl⟩) ?_ 5 (by omega) rfl ?_ rfl rfl rfl rfl rfl rfl rfl ?_; (focus kernel_rfl); (focus kernel_rfl); refine AWP.runL e tab_ok L8 300 rfl (by first | trivial | (simp [in64] <;> omega) | (simp only [in64, true_and, and_true]; omega)) ?_)
        )
      refine AWP.ret e tab_ok rfl ?_
      rw [hP]
      all_goals first | rfl | (simp [strip]; done)
    · have c2 := six_eff A k 48 (by unfold isB; decide) (by omega) hbits
      have m1 : (strL A).extract ((none : Option Int).getD 0).toNat ((some (k : Int)).getD ((strL A).size : Int)).toNat ++ (⟨#[48, 48, 48, 48, 48, 48]⟩ : ByteArray) ++ (strL A).extract ((some (k : Int)).getD 0).toNat ((none : Option Int).getD ((strL A).size : Int)).toNat = strL (A.take k ++ [48, 48, 48, 48, 48, 48] ++ A.drop k) := by
        rw [cut_take, cut_drop, show (⟨#[48, 48, 48, 48, 48, 48]⟩ : ByteArray) = strL [48, 48, 48, 48, 48, 48] from rfl, str_app, str_app]
      have s1 : ((strL A).extract ((none : Option Int).getD 0).toNat ((some (k : Int)).getD ((strL A).size : Int)).toNat ++ (⟨#[48, 48, 48, 48, 48, 48]⟩ : ByteArray)).size ≤ 1400 := by
        rw [cut_take, show (⟨#[48, 48, 48, 48, 48, 48]⟩ : ByteArray) = strL [48, 48, 48, 48, 48, 48] from rfl, str_app, strL_size]; simp; omega
      have s2 : ((strL A).extract ((some (k : Int)).getD 0).toNat ((none : Option Int).getD ((strL A).size : Int)).toNat).size ≤ 1400 := by
        rw [cut_drop, strL_size]; simp; omega
      have s3 : ((strL A).extract ((none : Option Int).getD 0).toNat ((some (k : Int)).getD ((strL A).size : Int)).toNat).size ≤ 1400 := by
        rw [cut_take, strL_size]; simp; omega
      have s4 : (⟨#[48, 48, 48, 48, 48, 48]⟩ : ByteArray).size = 6 := rfl
      rw [← m1] at c2
      clear m1
      repeat (
        first
          | (refine AWP.askT rfl ?_; (first | (refine Told.t rfl ?_) | (refine Told.f rfl ?_) | (refine Told.t ?_ ?_; (focus assumption)) | (refine Told.f ?_ ?_; (focus assumption)) | (refine Told.t ?_ ?_; (focus (first | (simp; omega) | (simp [*]; done)); done)) | (refine Told.f ?_ ?_; (focus (first | (simp; omega) | (simp [*]; done)); done))); refine AWP.runL e tab_ok L8 300 rfl (by first | trivial | (simp [in64] <;> omega) | (simp only [in64, true_and, and_true]; omega)) ?_)
        )
      repeat (
        first
          | (refine AWP.askT rfl ?_; (first | (refine Told.t rfl ?_) | (refine Told.f rfl ?_) | (refine Told.t ?_ ?_; (focus assumption)) | (refine Told.f ?_ ?_; (focus assumption)) | (refine Told.t ?_ ?_; (focus (first | (simp; omega) | (simp [*]; done)); done)) | (refine Told.f ?_ ?_; (focus (first | (simp; omega) | (simp [*]; done)); done))); refine AWP.runL e tab_ok L8 300 rfl (by first | trivial | (simp [in64] <;> omega) | (simp only [in64, true_and, and_true]; omega)) ?_)
          | (refine AWP.callQ e rfl rfl ?_; (first | refine CallQ.mk (c2) rfl rfl ?_ | refine CallQ.mk (al) rfl rfl ?_); refine AWP.runL e tab_ok L8 300 rfl (by first | trivial | (simp [in64] <;> omega) | (simp only [in64, true_and, and_true]; omega)) ?_)
          | (refine AWP.eq_agg e tab_ok rfl rfl rfl (.inl ⟨rfl, rfl⟩) ?_ 5 (by omega) rfl ?_ rfl rfl rfl rfl rfl rfl rfl ?_; (focus kernel_rfl); (focus kernel_rfl); refine AWP.runL e tab_ok L8 300 rfl (by first | trivial | (simp [in64] <;> omega) | (simp only [in64, true_and, and_true]; omega)) ?_)
          | (refine AWP.eq_agg e tab_ok rfl rfl rfl (.inr ⟨rfl, rfl⟩) ?_ 5 (by omega) rfl ?_ rfl rfl rfl rfl rfl rfl rfl ?_; (focus kernel_rfl); (focus kernel_rfl); refine AWP.runL e tab_ok L8 300 rfl (by first | trivial | (simp [in64] <;> omega) | (simp only [in64, true_and, and_true]; omega)) ?_)
          | (refine AWP.keep L8 rfl ?_; refine AWP.drg 100 ?_; (refine DrG.runS e tab_ok 200 rfl (by first | trivial | (simp [] <;> omega) | (simp only [in64, true_and, and_true]; omega)) ?_); (repeat (first | (refine DrG.askT rfl ?_; (first | (refine Told.t rfl ?_) | (refine Told.f rfl ?_) | (refine Told.t ?_ ?_; (focus assumption)) | (refine Told.f ?_ ?_; (focus assumption)) | (refine Told.t ?_ ?_; (focus (first | (simp; omega) | (simp [*]; done)); done)) | (refine Told.f ?_ ?_; (focus (first | (simp; omega) | (simp [*]; done)); done))); (refine DrG.runS e tab_ok 200 rfl (by first | trivial | (simp [in64] <;> omega) | (simp only [in64, true_and, and_true]; omega)) ?_)) | (refine DrG.callQ e rfl rfl ?_; (first | refine CallVQ.mk (c2) rfl rfl ?_ | refine CallVQ.mk (al) rfl rfl ?_); (refine DrG.runS e tab_ok 200 rfl (by first | trivial | (simp [in64] <;> omega) | (simp only [in64, true_and, and_true]; omega)) ?_)) | (refine DrG.callGo e rfl rfl rfl ?_; (first | refine CallVQ.mk (c2) rfl rfl ?_ | refine CallVQ.mk (al) rfl rfl ?_); (refine DrG.runS e tab_ok 200 rfl (by first | trivial | (simp [in64] <;> omega) | (simp only [in64, true_and, and_true]; omega)) ?_)) | (refine DrG.eq_agg e tab_ok rfl rfl rfl (.inl ⟨rfl, rfl⟩) ?_ 5 (by omega) rfl ?_ rfl rfl rfl rfl rfl rfl rfl ?_; (focus kernel_rfl); (focus kernel_rfl); (refine DrG.runS e tab_ok 200 rfl (by first | trivial | (simp [in64] <;> omega) | (simp only [in64, true_and, and_true]; omega)) ?_)) | (refine DrG.eq_aggGo e tab_ok rfl rfl rfl rfl (.inl ⟨rfl, rfl⟩) ?_ 5 (by omega) rfl ?_ rfl rfl rfl rfl rfl rfl rfl ?_; (focus kernel_rfl); (focus kernel_rfl); (refine DrG.runS e tab_ok 200 rfl (by first | trivial | (simp [in64] <;> omega) | (simp only [in64, true_and, and_true]; omega)) ?_)) | (refine DrG.eq_agg e tab_ok rfl rfl rfl (.inr ⟨rfl, rfl⟩) ?_ 5 (by omega) rfl ?_ rfl rfl rfl rfl rfl rfl rfl ?_; (focus kernel_rfl); (focus kernel_rfl); (refine DrG.runS e tab_ok 200 rfl (by first | trivial | (simp [in64] <;> omega) | (simp only [in64, true_and, and_true]; omega)) ?_)) | (refine DrG.eq_aggGo e tab_ok rfl rfl rfl rfl (.inr ⟨rfl, rfl⟩) ?_ 5 (by omega) rfl ?_ rfl rfl rfl rfl rfl rfl rfl ?_; (focus kernel_rfl); (focus kernel_rfl); (refine DrG.runS e tab_ok 200 rfl (by first | trivial | (simp [in64] <;> omega) | (simp only [in64, true_and, and_true]; omega)) ?_)))); refine DrG.finK e rfl ?_ rfl rfl rfl ?_ ?_; (focus kernel_rfl); (focus (repeat' (first | exact True.intro | (refine And.intro ?_ ?_) | rfl | assumption | exact okRow _))); dsimp only [tmS, hpS, tput, effH]; refine AWP.runL e tab_ok L8 300 rfl (by first | trivial | (simp [in64] <;> omega) | (simp only [in64, true_and, and_true]; omega)) ?_)
        )
      repeat (
        first
          | (refine AWP.askT rfl ?_; (first | (refine Told.t rfl ?_) | (refine Told.f rfl ?_) | (refine Told.t ?_ ?_; (focus assumption)) | (refine Told.f ?_ ?_; (focus assumption)) | (refine Told.t ?_ ?_; (focus (first | (simp; omega) | (simp [*]; done)); done)) | (refine Told.f ?_ ?_; (focus (first | (simp; omega) | (simp [*]; done)); done))); refine AWP.runL e tab_ok L8 300 rfl (by first | trivial | (simp [in64] <;> omega) | (simp only [in64, true_and, and_true]; omega)) ?_)
          | (refine AWP.callQ e rfl rfl ?_; (first | refine CallQ.mk (c2) rfl rfl ?_ | refine CallQ.mk (al) rfl rfl ?_); refine AWP.runL e tab_ok L8 300 rfl (by first | trivial | (simp [in64] <;> omega) | (simp only [in64, true_and, and_true]; omega)) ?_)
          | (refine AWP.eq_agg e tab_ok rfl rfl rfl (.inl ⟨rfl, rfl⟩) ?_ 5 (by omega) rfl ?_ rfl rfl rfl rfl rfl rfl rfl ?_; (focus kernel_rfl); (focus kernel_rfl); refine AWP.runL e tab_ok L8 300 rfl (by first | trivial | (simp [in64] <;> omega) | (simp only [in64, true_and, and_true]; omega)) ?_)
          | (refine AWP.eq_agg e tab_ok rfl rfl rfl (.inr ⟨rfl, rfl⟩) ?_ 5 (by omega) rfl ?_ rfl rfl rfl rfl rfl rfl rfl ?_; (focus kernel_rfl); (focus kernel_rfl); refine AWP.runL e tab_ok L8 300 rfl (by first | trivial | (simp [in64] <;> omega) | (simp only [in64, true_and, and_true]; omega)) ?_)
        )
      refine AWP.ret e tab_ok rfl ?_
      rw [hP]
      all_goals first | rfl | (simp [strip]; done)
  · have c1 := stuff_bad l hw
    refine effG_of Tryd.func8 rfl rfl rfl fun cx e hP hF hG => ?_
    refine AWP.runL e tab_ok L8 300 rfl (by first | trivial | (simp [] <;> omega) | (simp only [in64, true_and, and_true]; omega)) ?_
    refine AWP.eqT 0 (.s (strL l)) rfl (congrArg SV.s hcut) ?_
    refine AWP.eqT 18 (.s (strL l)) rfl (congrArg SV.s hcut) ?_
    clear hcut
    repeat (
      first
        | (refine AWP.askT rfl ?_; (first | (refine Told.t rfl ?_) | (refine Told.f rfl ?_) | (refine Told.t ?_ ?_; (focus assumption)) | (refine Told.f ?_ ?_; (focus assumption)) | (refine Told.t ?_ ?_; (focus (first | (simp; omega) | (simp [*]; done)); done)) | (refine Told.f ?_ ?_; (focus (first | (simp; omega) | (simp [*]; done)); done))); refine AWP.runL e tab_ok L8 300 rfl (by first | trivial | (simp [in64] <;> omega) | (simp only [in64, true_and, and_true]; omega)) ?_)
        | (refine AWP.callQ e rfl rfl ?_; (first | refine CallQ.mk (w) rfl rfl ?_ | refine CallQ.mk (c1) rfl rfl ?_ | refine CallQ.mk (al) rfl rfl ?_); refine AWP.runL e tab_ok L8 300 rfl (by first | trivial | (simp [in64] <;> omega) | (simp only [in64, true_and, and_true]; omega)) ?_)
        | (refine AWP.eq_agg e tab_ok rfl rfl rfl (.inl ⟨rfl, rfl⟩) ?_ 5 (by omega) rfl ?_ rfl rfl rfl rfl rfl rfl rfl ?_; (focus kernel_rfl); (focus kernel_rfl); refine AWP.runL e tab_ok L8 300 rfl (by first | trivial | (simp [in64] <;> omega) | (simp only [in64, true_and, and_true]; omega)) ?_)
        | (refine AWP.eq_agg e tab_ok rfl rfl rfl (.inr ⟨rfl, rfl⟩) ?_ 5 (by omega) rfl ?_ rfl rfl rfl rfl rfl rfl rfl ?_; (focus kernel_rfl); (focus kernel_rfl); refine AWP.runL e tab_ok L8 300 rfl (by first | trivial | (simp [in64] <;> omega) | (simp only [in64, true_and, and_true]; omega)) ?_)
      )
    refine AWP.ret e tab_ok rfl ?_
    rw [hP]
    all_goals first | rfl | (simp [strip]; done)
theorem lsix_args (l : List SV) (h : Args tab 9 [9, 3, 4] l) : EffG Tryd.prog 8 l (HasInt 0) (fun r _ _ => r = .b true) := by
  obtain ⟨_, _, rfl, ⟨s, rfl, _⟩, h⟩ := h
  obtain ⟨_, _, rfl, ⟨a, rfl, _⟩, h⟩ := h
  obtain ⟨_, _, rfl, ⟨b, rfl⟩, rfl⟩ := h
  rw [strL_of s]
  generalize s.data.toList = s
  exact lsix_ok s _ a b (by simp; omega) (cut_str s 1000)
end Go.Proofs.YtmcjfnbohogbdaaDoor
