import Derived.Test.YtlmakgadjjpleaaF6
open Go Go.Proofs Go.Sy
namespace Go.Proofs.Ytlmakgadjjpleaa

theorem mod_succ (c E : Nat) (hE : 1 ≤ E) : (c + 1) % E = if c % E = E - 1 then 0 else c % E + 1 := by
  have h := Nat.div_add_mod c E
  have hl := Nat.mod_lt c hE
  generalize c / E = q at h
  generalize c % E = r at h hl ⊢
  subst h
  split
  · rename_i hr
    rw [show E * q + r + 1 = E * (q + 1) by rw [Nat.mul_add]; omega, Nat.mul_mod_right]
  · rw [Nat.add_assoc, Nat.mul_add_mod, Nat.mod_eq_of_lt (by omega)]

theorem every_pass (E c : Nat) (hE : 1 ≤ E) (old v : Int) : passesB 8 0 0 0 0 E (E - 1) old c v = decide (c % E = E - 1) := by
  show (((c : Int).tmod E) == (E : Int) - 1) = _
  rw [← Int.ofNat_tmod, Bool.eq_iff_iff, beq_iff_eq, decide_eq_true_iff]
  omega

theorem every_row (E : Nat) (hE : 1 ≤ E) : ∀ (l : List Int) (old : Int) (c : Nat), (runL 8 0 0 0 0 E (E - 1) old c l).length = (c % E + l.length) / E ∧ ∀ i, i < (c % E + l.length) / E → (runL 8 0 0 0 0 E (E - 1) old c l)[i]? = l[i * E + (E - 1 - c % E)]?
  | [], old, c => by
    have hl := Nat.mod_lt c hE
    refine ⟨by simp [runL, Nat.div_eq_of_lt hl], fun i hi => ?_⟩
    rw [List.length_nil, Nat.add_zero, Nat.div_eq_of_lt hl] at hi
    omega
  | v :: l, old, c => by
    have hl := Nat.mod_lt c hE
    have hs := mod_succ c E hE
    have e1 : ((c : Int) + 1) = ((c + 1 : Nat) : Int) := by omega
    simp only [runL, every_pass E c hE, e1]
    by_cases hr : c % E = E - 1
    · rw [if_pos hr] at hs
      obtain ⟨h1, h2⟩ := every_row E hE l v (c + 1)
      rw [hs] at h1 h2
      have e2 : (E - 1 + (v :: l).length) / E = (0 + l.length) / E + 1 := by
        rw [List.length_cons, show E - 1 + (l.length + 1) = 0 + l.length + E by omega, Nat.add_div_right _ hE]
      simp only [hr, decide_true, if_true]
      refine ⟨by rw [List.length_cons, h1, e2], fun i hi => ?_⟩
      rw [e2] at hi
      cases i with
      | zero => simp
      | succ i =>
        rw [List.getElem?_cons_succ, h2 i (by omega)]
        rw [show (i + 1) * E + (E - 1 - (E - 1)) = i * E + (E - 1 - 0) + 1 by rw [Nat.add_mul]; omega, List.getElem?_cons_succ]
    · rw [if_neg hr] at hs
      obtain ⟨h1, h2⟩ := every_row E hE l old (c + 1)
      rw [hs] at h1 h2
      have e2 : (c % E + (v :: l).length) / E = (c % E + 1 + l.length) / E := by
        rw [List.length_cons]; congr 1; omega
      simp only [hr, decide_false, Bool.false_eq_true, if_false]
      refine ⟨by rw [h1, e2], fun i hi => ?_⟩
      rw [e2] at hi
      rw [h2 i hi, show i * E + (E - 1 - c % E) = i * E + (E - 1 - (c % E + 1)) + 1 by omega, List.getElem?_cons_succ]

set_option maxRecDepth 100000 in
theorem new_eff (k0 m x mn mx ev fr old cnt0 : Int) (l : List Int) (every : Int) (hl : l.length ≤ 9223372036854775807) : Eff Try.prog 5 [.agg (cells k0 m x mn mx ev fr old cnt0), .d (.sl 1 (ints l)), .i every] [] 0 (fun r _ _ => r = .b true) := by
  refine eff_of Try.func5 rfl rfl rfl fun cx e hP => ?_
  refine AWP.run e tab_ok 300 rfl (by first | trivial | (simp [in64] <;> omega)) ?_
  obtain ⟨l', hl'⟩ : ∃ l', l' = l.take 60 := ⟨_, rfl⟩
  have h60 : l'.length ≤ 60 := by rw [hl']; simp; omega
  have hcut : List.drop ((none : Option Int).getD 0).toNat (List.take ((some (if 60 < ((ints l).length : Int) then 60 else ((ints l).length : Int))).getD ((ints l).length : Int)).toNat (ints l)) = ints l' := by
    rw [cut_a 60 (ints l) (by omega), hl']; exact List.map_take.symm
  refine AWP.less e (tm := [(25, .agg (cells 5 m x mn mx ev fr old 0)), (1, .d (.sl 1 (ints l'))), (2, .i every), (3, .ptr 0 0), (6, .b false)]) (hp := [(0, .box (cells 5 m x mn mx ev fr old 0))]) (nx := 1) ?_ ?_ ?_ ?_ ?_ ?_
  · exact ⟨rfl, congrArg (fun z => some (SV.d (.sl 1 z))) hcut, rfl, rfl, rfl, trivial⟩
  · exact ⟨rfl, trivial⟩
  · rfl
  · exact ⟨rfl, rfl, trivial⟩
  · rfl
  clear hcut hl'
  refine AWP.call e (refRight_eff 5 m x mn mx ev fr old 0) rfl [] (.cons (.refl _) .nil) rfl rfl ?_
  rintro _ _ _ rfl
  refine ⟨rfl, .inl rfl, ?_⟩
  by_cases hright : rightB 5 mn mx ev fr 0 = true
  rotate_left
  · have hright : rightB 5 mn mx ev fr 0 = false := by simpa using hright
    rw [hright]
    refine AWP.run e tab_ok 300 rfl (by first | trivial | (simp [in64] <;> omega)) ?_
    repeat (
      first
        | (refine AWP.guard rfl true ?_ ?_; (focus (first | rfl | (simp; omega) | (simp [*]; done)); done); refine AWP.run e tab_ok 300 rfl (by first | trivial | (simp [in64] <;> omega)) ?_)
        | (refine AWP.guard rfl false ?_ ?_; (focus (first | rfl | (simp; omega) | (simp [*]; done)); done); refine AWP.run e tab_ok 300 rfl (by first | trivial | (simp [in64] <;> omega)) ?_)
        | (refine AWP.cond rfl true ?_ ?_; (focus (first | rfl | (simp; omega) | (simp [*]; done)); done); refine AWP.run e tab_ok 300 rfl (by first | trivial | (simp [in64] <;> omega)) ?_)
        | (refine AWP.cond rfl false ?_ ?_; (focus (first | rfl | (simp; omega) | (simp [*]; done)); done); refine AWP.run e tab_ok 300 rfl (by first | trivial | (simp [in64] <;> omega)) ?_)
        | (refine AWP.pick rfl true ?_ ?_; (focus (first | rfl | (simp; omega) | (simp [*]; done)); done); refine AWP.run e tab_ok 300 rfl (by first | trivial | (simp [in64] <;> omega)) ?_)
        | (refine AWP.pick rfl false ?_ ?_; (focus (first | rfl | (simp; omega) | (simp [*]; done)); done); refine AWP.run e tab_ok 300 rfl (by first | trivial | (simp [in64] <;> omega)) ?_)
      )
    refine AWP.call e alive_eff rfl [] .nil rfl rfl ?_
    rintro _ _ _ rfl
    refine ⟨rfl, .inl rfl, ?_⟩
    refine AWP.run e tab_ok 300 rfl (by first | trivial | (simp [in64] <;> omega)) ?_
    refine AWP.ret e tab_ok rfl ?_
    rw [hP]
    rfl
  rw [hright]
  have hr : (1 : Int) ≤ 5 ∧ (5 : Int) ≤ 8 ∧ mn ≤ mx ∧ (0 : Int) ≤ 0 ∧ (0 : Int) ≤ 1099511627776 ∧ ((5 : Int) = 8 → 1 ≤ ev ∧ ev ≤ 1000000 ∧ 0 ≤ fr ∧ fr < ev) := by
    have := hright; unfold rightB at this; exact of_decide_eq_true this
  have hmm : mn ≤ mx := hr.2.2.1
  refine AWP.run e tab_ok 300 rfl (by first | trivial | (simp [in64] <;> omega)) ?_
  repeat (
    first
      | (refine AWP.guard rfl true ?_ ?_; (focus (first | rfl | (simp; omega) | (simp [*]; done)); done); refine AWP.run e tab_ok 300 rfl (by first | trivial | (simp [in64] <;> omega)) ?_)
      | (refine AWP.guard rfl false ?_ ?_; (focus (first | rfl | (simp; omega) | (simp [*]; done)); done); refine AWP.run e tab_ok 300 rfl (by first | trivial | (simp [in64] <;> omega)) ?_)
      | (refine AWP.cond rfl true ?_ ?_; (focus (first | rfl | (simp; omega) | (simp [*]; done)); done); refine AWP.run e tab_ok 300 rfl (by first | trivial | (simp [in64] <;> omega)) ?_)
      | (refine AWP.cond rfl false ?_ ?_; (focus (first | rfl | (simp; omega) | (simp [*]; done)); done); refine AWP.run e tab_ok 300 rfl (by first | trivial | (simp [in64] <;> omega)) ?_)
      | (refine AWP.pick rfl true ?_ ?_; (focus (first | rfl | (simp; omega) | (simp [*]; done)); done); refine AWP.run e tab_ok 300 rfl (by first | trivial | (simp [in64] <;> omega)) ?_)
      | (refine AWP.pick rfl false ?_ ?_; (focus (first | rfl | (simp; omega) | (simp [*]; done)); done); refine AWP.run e tab_ok 300 rfl (by first | trivial | (simp [in64] <;> omega)) ?_)
    )
  refine AWP.call e alive_eff rfl [] .nil rfl rfl ?_
  rintro _ _ _ rfl
  refine ⟨rfl, .inl rfl, ?_⟩
  refine AWP.run e tab_ok 300 rfl (by first | trivial | (simp [in64] <;> omega)) ?_
  repeat (
    first
      | (refine AWP.guard rfl true ?_ ?_; (focus (first | rfl | (simp; omega) | (simp [*]; done)); done); refine AWP.run e tab_ok 300 rfl (by first | trivial | (simp [in64] <;> omega)) ?_)
      | (refine AWP.guard rfl false ?_ ?_; (focus (first | rfl | (simp; omega) | (simp [*]; done)); done); refine AWP.run e tab_ok 300 rfl (by first | trivial | (simp [in64] <;> omega)) ?_)
      | (refine AWP.cond rfl true ?_ ?_; (focus (first | rfl | (simp; omega) | (simp [*]; done)); done); refine AWP.run e tab_ok 300 rfl (by first | trivial | (simp [in64] <;> omega)) ?_)
      | (refine AWP.cond rfl false ?_ ?_; (focus (first | rfl | (simp; omega) | (simp [*]; done)); done); refine AWP.run e tab_ok 300 rfl (by first | trivial | (simp [in64] <;> omega)) ?_)
      | (refine AWP.pick rfl true ?_ ?_; (focus (first | rfl | (simp; omega) | (simp [*]; done)); done); refine AWP.run e tab_ok 300 rfl (by first | trivial | (simp [in64] <;> omega)) ?_)
      | (refine AWP.pick rfl false ?_ ?_; (focus (first | rfl | (simp; omega) | (simp [*]; done)); done); refine AWP.run e tab_ok 300 rfl (by first | trivial | (simp [in64] <;> omega)) ?_)
    )
  refine AWP.loop (ι := Nat × Int) (fun s => ⟨[(37, .i s.1), (36, .i l'.length), (35, .d (.sl 1 (ints l'))), (7, .i s.2), (1, .d (.sl 1 (ints l'))), (2, .i every), (3, .ptr 0 0), (6, .b false)], [(0, .box (cells 5 m x mn mx ev fr s.2 s.1))], 1⟩)
    (fun s => s.1 ≤ l'.length) (fun s => l'.length - s.1) (0, old) (Nat.zero_le _) ?_ ?_
  · intro g
    refine AWP.less e ?_ ?_ ?_ ?_ ?_ g
    · refine ⟨rfl, ?_, rfl, rfl, rfl, rfl, rfl, rfl, trivial⟩
      show some (SV.i ((ints l').length : Nat)) = some (SV.i (l'.length : Nat))
      rw [List.length_map]
    · exact ⟨rfl, trivial⟩
    · rfl
    · exact ⟨rfl, rfl, trivial⟩
    · rfl
  rintro ⟨i, o'⟩ Φ hI next
  have h1 : i ≤ l'.length := hI
  refine AWP.run e tab_ok 300 rfl (by first | trivial | (simp [in64] <;> omega)) ?_
  refine AWP.cond2 rfl (fun hlt => ?_) (fun hlt => ?_)
  · have hlt : i < l'.length := by simpa using hlt
    refine AWP.run e tab_ok 300 rfl (by first | trivial | (simp [in64] <;> omega)) ?_
    refine AWP.idx e tab_ok rfl rfl rfl rfl i rfl (el := [.v (.int .i64 l'[i])]) (by simp [hlt]) ?_
    refine AWP.run e tab_ok 300 rfl (by first | trivial | (simp [in64] <;> omega)) ?_
    have hright' : rightB 5 mn mx ev fr i = true := by
      unfold rightB; refine decide_eq_true ?_; omega
    have hs := step_ok 5 m x mn mx ev fr o' i l'[i] hright' (by omega) (by omega)
    rw [show passesB 5 m x mn mx ev fr o' i l'[i] = (andI l'[i] m != andI o' m) from rfl] at hs
    refine AWP.call e hs rfl [] (.cons (.refl _) (.cons (.refl _) .nil)) rfl rfl ?_
    rintro _ _ _ rfl
    refine ⟨rfl, .inl rfl, ?_⟩
    refine AWP.run e tab_ok 300 rfl (by first | trivial | (simp [in64] <;> omega)) ?_
    refine AWP.guard rfl false rfl ?_
    refine AWP.run e tab_ok 300 rfl (by first | trivial | (simp [in64] <;> omega)) ?_
    refine AWP.guard rfl false (bne_self_eq_false _) ?_
    refine AWP.run e tab_ok 300 rfl (by first | trivial | (simp [in64] <;> omega)) ?_
    repeat (
      first
        | (refine AWP.guard rfl true ?_ ?_; (focus (first | rfl | (simp; omega) | (simp [*]; done)); done); refine AWP.run e tab_ok 300 rfl (by first | trivial | (simp [in64] <;> omega)) ?_)
        | (refine AWP.guard rfl false ?_ ?_; (focus (first | rfl | (simp; omega) | (simp [*]; done)); done); refine AWP.run e tab_ok 300 rfl (by first | trivial | (simp [in64] <;> omega)) ?_)
        | (refine AWP.cond rfl true ?_ ?_; (focus (first | rfl | (simp; omega) | (simp [*]; done)); done); refine AWP.run e tab_ok 300 rfl (by first | trivial | (simp [in64] <;> omega)) ?_)
        | (refine AWP.cond rfl false ?_ ?_; (focus (first | rfl | (simp; omega) | (simp [*]; done)); done); refine AWP.run e tab_ok 300 rfl (by first | trivial | (simp [in64] <;> omega)) ?_)
        | (refine AWP.pick rfl true ?_ ?_; (focus (first | rfl | (simp; omega) | (simp [*]; done)); done); refine AWP.run e tab_ok 300 rfl (by first | trivial | (simp [in64] <;> omega)) ?_)
        | (refine AWP.pick rfl false ?_ ?_; (focus (first | rfl | (simp; omega) | (simp [*]; done)); done); refine AWP.run e tab_ok 300 rfl (by first | trivial | (simp [in64] <;> omega)) ?_)
      )
    refine AWP.cond2 rfl (fun hq => ?_) (fun hq => ?_)
    · refine AWP.run e tab_ok 300 rfl (by first | trivial | (simp [in64] <;> omega)) ?_
      refine AWP.less e ?_ ?_ ?_ ?_ ?_ (next (i + 1, l'[i]) hlt ?_)
      · exact ⟨rfl, rfl, rfl, rfl, rfl, rfl, rfl, rfl, trivial⟩
      · refine ⟨?_, trivial⟩
        show some (Blk.box (cells 5 m x mn mx ev fr (if (andI l'[i] m != andI o' m) = true then l'[i] else o') (i + 1))) = some (Blk.box (cells 5 m x mn mx ev fr l'[i] ((i + 1 : Nat) : Int)))
        rw [if_pos hq]
        rfl
      · rfl
      · exact ⟨rfl, rfl, trivial⟩
      · rfl
      · show l'.length - (i + 1) < l'.length - i
        omega
    · refine AWP.run e tab_ok 300 rfl (by first | trivial | (simp [in64] <;> omega)) ?_
      refine AWP.less e ?_ ?_ ?_ ?_ ?_ (next (i + 1, o') hlt ?_)
      · exact ⟨rfl, rfl, rfl, rfl, rfl, rfl, rfl, rfl, trivial⟩
      · refine ⟨?_, trivial⟩
        show some (Blk.box (cells 5 m x mn mx ev fr (if (andI l'[i] m != andI o' m) = true then l'[i] else o') (i + 1))) = some (Blk.box (cells 5 m x mn mx ev fr o' ((i + 1 : Nat) : Int)))
        rw [if_neg (by rw [hq]; simp)]
        rfl
      · rfl
      · exact ⟨rfl, rfl, trivial⟩
      · rfl
      · show l'.length - (i + 1) < l'.length - i
        omega
  · refine AWP.run e tab_ok 300 rfl (by first | trivial | (simp [in64] <;> omega)) ?_
    obtain ⟨E, hE⟩ : ∃ E : Nat, (E : Int) = (if 20 < (if 1 > every then 1 else every) then 20 else if 1 > every then 1 else every) := ⟨(if 20 < (if 1 > every then 1 else every) then 20 else if 1 > every then 1 else every).toNat, by split <;> split <;> omega⟩
    have hE1 : 1 ≤ E ∧ E ≤ 20 := by
      revert hE; split <;> split <;> omega
    refine AWP.less e (tm := [(90, .d (.sl 1 (ints l'))), (89, .agg (cells 8 0 0 0 0 E (E - 1) 0 0)), (1, .d (.sl 1 (ints l'))), (2, .i E), (6, .b false)]) (hp := []) (nx := 0) ?_ ?_ ?_ ?_ ?_ ?_
    · exact ⟨rfl, congrArg (fun z => some (SV.agg (cells 8 0 0 0 0 z (z - 1) 0 0))) hE.symm, rfl, congrArg (fun z => some (SV.i z)) hE.symm, rfl, trivial⟩
    · exact trivial
    · rfl
    · exact trivial
    · rfl
    have hr8 : rightB 8 0 0 E (E - 1) 0 = true := by
      unfold rightB; refine decide_eq_true ?_; omega
    refine AWP.call e (run_ok 8 0 0 0 0 E (E - 1) 0 0 l' hr8 (by omega)) rfl [] (.cons (.refl _) (.cons (.refl _) .nil)) rfl rfl ?_
    rintro _ _ _ rfl
    refine ⟨rfl, .inl rfl, ?_⟩
    obtain ⟨hm1, hm2⟩ := every_row E hE1.1 l' 0 0
    simp only [Nat.zero_mod, Nat.zero_add, Nat.sub_zero] at hm1 hm2
    replace hm1 : (runL 8 0 0 0 0 E (E - 1) 0 0 l').length = l'.length / E := hm1
    replace hm2 : ∀ i, i < l'.length / E → (runL 8 0 0 0 0 E (E - 1) 0 0 l')[i]? = l'[i * E + (E - 1)]? := hm2
    generalize runL 8 0 0 0 0 E (E - 1) 0 0 l' = mm at hm1 hm2
    refine AWP.run e tab_ok 300 rfl (by first | trivial | (simp [in64] <;> omega)) ?_
    refine AWP.guard rfl false rfl ?_
    have hq0 : ((l'.length : Int)).tdiv (E : Int) = ((l'.length / E : Nat) : Int) := (Int.ofNat_tdiv _ _).symm
    have hq1 : l'.length / E ≤ l'.length := Nat.div_le_self _ _
    refine AWP.run e tab_ok 300 rfl ?_ ?_
    · simp only [List.length_map, in64, hq0]
      simp
      omega
    have hqq : (((ints mm).length : Int) != (((ints l').length : Int)).tdiv (E : Int)) = false := by
      simp only [List.length_map, hq0, hm1, bne_self_eq_false]
    refine AWP.cond rfl false hqq ?_
    refine AWP.run e tab_ok 300 rfl (by first | trivial | (simp [in64] <;> omega)) ?_
    refine AWP.loop (ι := Nat) (fun i => ⟨[(107, .i i), (106, .i mm.length), (105, .d (.sl 1 (ints mm))), (1, .d (.sl 1 (ints l'))), (2, .i E), (6, .b false)], [], 0⟩) (fun i => i ≤ mm.length) (fun i => mm.length - i) 0 (Nat.zero_le _) ?_ ?_
    · intro g
      refine AWP.less e ?_ ?_ ?_ ?_ ?_ g
      · refine ⟨rfl, ?_, rfl, rfl, rfl, rfl, trivial⟩
        show some (SV.i ((ints mm).length : Nat)) = some (SV.i (mm.length : Nat))
        rw [List.length_map]
      · exact trivial
      · rfl
      · exact trivial
      · rfl
    rintro i Φ hI next
    refine AWP.run e tab_ok 300 rfl (by first | trivial | (simp [in64] <;> omega)) ?_
    refine AWP.cond2 rfl (fun hlt => ?_) (fun hlt => ?_)
    · have hlt : i < mm.length := by simpa using hlt
      have hb : i * E + E ≤ l'.length := by
        have h1 : (i + 1) * E ≤ (l'.length / E) * E := Nat.mul_le_mul_right _ (by omega)
        have h2 := Nat.div_mul_le_self l'.length E
        rw [Nat.add_mul, Nat.one_mul] at h1
        omega
      have hbI : (i : Int) * (E : Int) + E ≤ l'.length := by exact_mod_cast hb
      have hb0 : (0 : Int) ≤ (i : Int) * (E : Int) := by exact_mod_cast Nat.zero_le (i * E)
      have hidx : i * E + (E - 1) < l'.length := by omega
      have hv : mm[i] = l'[i * E + (E - 1)] := by
        have := hm2 i (by omega)
        rw [List.getElem?_eq_getElem hlt, List.getElem?_eq_getElem hidx] at this
        exact Option.some.inj this
      refine AWP.run e tab_ok 300 rfl (by first | trivial | (simp [in64] <;> omega)) ?_
      refine AWP.idx e tab_ok rfl rfl rfl rfl i rfl (el := [.v (.int .i64 mm[i])]) (by simp [hlt]) ?_
      refine AWP.run e tab_ok 300 rfl (by first | trivial | (simp [in64] <;> omega)) ?_
      refine AWP.idx e tab_ok rfl rfl rfl rfl (i * E + (E - 1)) ?_ (el := [.v (.int .i64 l'[i * E + (E - 1)])]) (by simp [hidx]) ?_
      · rw [Int.natCast_add, Int.natCast_mul]; omega
      refine AWP.run e tab_ok 300 rfl (by first | trivial | (simp [in64] <;> omega)) ?_
      refine AWP.cond rfl false ?_ ?_
      · show (mm[i] != l'[i * E + (E - 1)]) = false
        rw [hv, bne_self_eq_false]
      refine AWP.run e tab_ok 300 rfl (by first | trivial | (simp [in64] <;> omega)) ?_
      refine AWP.less e ?_ ?_ ?_ ?_ ?_ (next (i + 1) hlt ?_)
      · exact ⟨rfl, rfl, rfl, rfl, rfl, rfl, trivial⟩
      · exact trivial
      · rfl
      · exact trivial
      · rfl
      · show mm.length - (i + 1) < mm.length - i
        omega
    · refine AWP.run e tab_ok 300 rfl (by first | trivial | (simp [in64] <;> omega)) ?_
      refine AWP.ret e tab_ok rfl ?_
      rw [hP]
      rfl

set_option maxRecDepth 100000 in
theorem new_args (l : List SV) (h : Args tab 9 [23, 24, 3] l) : Eff Try.prog 5 l [] 0 (fun r _ _ => r = .b true) := by
  obtain ⟨_, _, rfl, ⟨_, _, rfl, ⟨k, rfl, _, _⟩, _, _, rfl, ⟨m, rfl, _, _⟩, _, _, rfl, ⟨x, rfl, _, _⟩, _, _, rfl, ⟨mn, rfl, _, _⟩, _, _, rfl, ⟨mx, rfl, _, _⟩, _, _, rfl, ⟨ev, rfl, _, _⟩, _, _, rfl, ⟨fr, rfl, _, _⟩, _, _, rfl, ⟨old, rfl, _, _⟩, _, _, rfl, ⟨cnt, rfl, _, _⟩, rfl⟩,
    _, _, rfl, ⟨ys, rfl, hl, he⟩, _, _, rfl, ⟨every, rfl, _, _⟩, rfl⟩ := h
  obtain ⟨l, rfl, _⟩ := ints_of (T := tab) (t := 2) rfl rfl ys he
  exact new_eff k m x mn mx ev fr old cnt l every (by simpa using hl)

end Go.Proofs.Ytlmakgadjjpleaa
