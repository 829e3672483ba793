import Derived.Test.YthibaeeoegoliaaF23
open Go Go.Proofs Go.RowKit Go.Sy Go.Signal
namespace Go.Proofs.Ythibaeeoegoliaa

theorem vbits_at (n : Nat) : ∀ (v : Int) (m : Nat), m < n → (vbits v n)[m]? = some (bitI v m) := by
  induction n with
  | zero => intro v m h; omega
  | succ n ih =>
    intro v m h
    cases m with
    | zero => show some (v % 2 == 1) = some (v / ((2 ^ 0 : Nat) : Int) % 2 == 1); rw [show ((2 ^ 0 : Nat) : Int) = 1 from rfl, Int.ediv_one]
    | succ m =>
      show (vbits (v / 2) n)[m]? = _
      rw [ih (v / 2) m (by omega)]
      unfold bitI
      rw [bitI_half, Int.ediv_ediv_of_nonneg (by decide), Int.ediv_ediv_of_nonneg (Int.natCast_nonneg _), Int.mul_comm]
theorem bitI_nat (V m : Nat) : bitI (V : Int) m = V.testBit m := by
  unfold bitI
  rw [Nat.testBit_eq_decide_div_mod_eq, Bool.eq_iff_iff, beq_iff_eq, decide_eq_true_eq]
  have : (V : Int) / ((2 ^ m : Nat) : Int) = ((V / 2 ^ m : Nat) : Int) := rfl
  rw [this]
  omega
def lowS (k : Nat) : Sig := ⟨8 * (k : Int), 32, false, false⟩
def highS (k : Nat) : Sig := ⟨8 * (k : Int) + 7, 32, true, false⟩
def lowL (k : Nat) : List Nat := ats false (8 * k) 32
def highL (k : Nat) : List Nat := (ats true (8 * k + 7) 32).reverse
def okK (k : Nat) : Bool := places (lowS k) == some (lowL k) && places (highS k) == some (highL k) && rightB (lowS k) 8 && rightB (highS k) 8 && overB (lowS k) (highS k) &&
  (List.range 4).all fun i => (List.range 8).all fun j => (lowL k)[8 * i + j]? == some (8 * (k + i) + j) && (highL k)[8 * i + j]? == some (8 * (k + 3 - i) + j)
theorem okK_all : (List.range 5).all okK = true := by kernel_rfl
theorem okK_at {k : Nat} (h : k < 5) : okK k = true := List.all_eq_true.1 okK_all k (List.mem_range.2 h)
abbrev zero8 : List UInt8 := [0, 0, 0, 0, 0, 0, 0, 0]
/-- A byte whose bits are a number's. -/
theorem byte_of {P : List UInt8} {p V i : Nat} (h : ∀ j, j < 8 → bitAt P (8 * p + j) = V.testBit (8 * i + j)) : (P.getD p 0).toNat = (V / 2 ^ (8 * i)) % 256 := by
  apply Nat.eq_of_testBit_eq
  intro j
  by_cases hj : j < 8
  · have := h j hj
    unfold bitAt bitU at this
    rw [show (8 * p + j) / 8 = p by omega, show (8 * p + j) % 8 = j by omega] at this
    rw [this, show (256 : Nat) = 2 ^ 8 from rfl, Nat.testBit_mod_two_pow, Nat.testBit_div_two_pow]
    simp [hj, Nat.add_comm]
  · have h1 : (P.getD p 0).toNat < 2 ^ j := Nat.lt_of_lt_of_le (P.getD p 0).toNat_lt (Nat.pow_le_pow_right (n := 2) (by decide) (show 8 ≤ j by omega))
    have h2 : (V / 2 ^ (8 * i)) % 256 < 2 ^ j := Nat.lt_of_lt_of_le (Nat.mod_lt _ (by decide)) (Nat.pow_le_pow_right (n := 2) (by decide) (show 8 ≤ j by omega))
    rw [Nat.testBit_lt_two_pow h1, Nat.testBit_lt_two_pow h2]
/-- A byte of bytes into which a number has been put. -/
theorem byte_put {l : List Nat} {V p i : Nat} (hn : l.Nodup) (hl : ∀ x ∈ l, x < 64) (hlen : l.length = 32) (hi : i < 4) (hp : ∀ j, j < 8 → l[8 * i + j]? = some (8 * p + j)) : ((putL zero8 l (V : Int)).getD p 0).toNat = (V / 2 ^ (8 * i)) % 256 := by
  apply byte_of
  intro j hj
  have h1 := putL_in l zero8 (V : Int) hl hn
  have h2 := congrArg (fun (z : List Bool) => z[8 * i + j]?) h1
  have h2 : (l.map (bitAt (putL zero8 l (V : Int))))[8 * i + j]? = (vbits (V : Int) l.length)[8 * i + j]? := h2
  rw [List.getElem?_map, hp j hj, vbits_at _ _ _ (by omega), bitI_nat] at h2
  exact Option.some.inj h2
theorem shr_byte (V i : Nat) (hi : i < 4) : IntKind.wrap .u8 (((V : Int)).fdiv (2 ^ (min ((8 : Int) * (i : Int)).toNat IntKind.u32.bits))) = (((V / 2 ^ (8 * i)) % 256 : Nat) : Int) := by
  have h1 : min ((8 : Int) * (i : Int)).toNat IntKind.u32.bits = 8 * i := by
    rw [show ((8 : Int) * (i : Int)).toNat = 8 * i by omega]
    exact Nat.min_eq_left (by show 8 * i ≤ 32; omega)
  rw [h1, show (2 : Int) ^ (8 * i) = ((2 ^ (8 * i) : Nat) : Int) from by push_cast; rfl, fdivN, wrapN .u8 rfl]
  rfl

theorem tmod5_in (x : Int) : -5 < x.tmod 5 ∧ x.tmod 5 < 5 := by
  refine ⟨?_, Int.tmod_lt_of_pos x (by decide)⟩
  have := Int.tmod_lt_of_pos (-x) (show (0 : Int) < 5 by decide)
  rw [Int.neg_tmod] at this
  omega
set_option maxRecDepth 100000 in
set_option maxHeartbeats 4000000 in
theorem lbytes_ok (V : Nat) (at' : Int) (hV : V < 4294967296) : Eff Try.prog 6 [.d (.v (.int .u32 (V : Int))), .i at'] [] 0 (fun r _ _ => r = .b true) := by
  have ht := tmod5_in at'
  have ht2 := tmod5_in (at'.tmod 5 + 5)
  obtain ⟨k, hk⟩ : ∃ k : Nat, (at'.tmod 5 + 5).tmod 5 = k := ⟨((at'.tmod 5 + 5).tmod 5).toNat, by
    have : 0 ≤ (at'.tmod 5 + 5).tmod 5 := Int.tmod_nonneg _ (by omega)
    omega⟩
  have hk5 : k < 5 := by omega
  have hok := okK_at hk5
  unfold okK at hok
  simp only [Bool.and_eq_true, beq_iff_eq] at hok
  obtain ⟨⟨⟨⟨⟨k1', k2'⟩, k3'⟩, k4'⟩, k5'⟩, k6'⟩ := hok
  have f1 : fitsB (lowS k) (V : Int) = true := by
    unfold fitsB lowS
    simp only [Bool.false_eq_true, if_false]
    rw [show ((32 : Int)).toNat = 32 from rfl, decide_eq_true (show (0 : Int) ≤ V by omega), decide_eq_true (show (V : Int) < p2 32 by rw [show p2 32 = 4294967296 from by decide]; omega)]
    rfl
  have f2 : fitsB (highS k) (V : Int) = true := f1
  have c1 := Put_eff zero8 (lowS k) V (by decide)
  have c2 := Put_eff zero8 (highS k) V (by decide)
  rw [putR_ok (d := zero8) k1' (by decide) k3' f1] at c1
  rw [putR_ok (d := zero8) k2' (by decide) k4' f2] at c2
  have c3 := alive_eff
  have c4 := Over_eff (lowS k) (highS k)
  rw [k5'] at c4
  have la : (((strL (putL zero8 (lowL k) (V : Int))).size : Int) != 8) = false := by rw [strL_size, putL_len]; rfl
  have sA : (strL (putL zero8 (lowL k) (V : Int))).size = 8 := by rw [strL_size, putL_len]; rfl
  have sB : (strL (putL zero8 (highL k) (V : Int))).size = 8 := by rw [strL_size, putL_len]; rfl
  have lb : (((strL (putL zero8 (highL k) (V : Int))).size : Int) != 8) = false := by rw [strL_size, putL_len]; rfl
  have byA : ∀ i, i < 4 → ((putL zero8 (lowL k) (V : Int)).getD (k + i) 0).toNat = (V / 2 ^ (8 * i)) % 256 := fun i hi =>
    byte_put (places_nodup k1') (places_lt k1') (ats_len _ _ _) hi fun j hj => by
      have := List.all_eq_true.1 (List.all_eq_true.1 k6' i (List.mem_range.2 hi)) j (List.mem_range.2 hj)
      simp only [Bool.and_eq_true, beq_iff_eq] at this
      exact this.1
  have byB : ∀ i, i < 4 → ((putL zero8 (highL k) (V : Int)).getD (k + 3 - i) 0).toNat = (V / 2 ^ (8 * i)) % 256 := fun i hi =>
    byte_put (places_nodup k2') (places_lt k2') ((List.length_reverse).trans (ats_len _ _ _)) hi fun j hj => by
      have := List.all_eq_true.1 (List.all_eq_true.1 k6' i (List.mem_range.2 hi)) j (List.mem_range.2 hj)
      simp only [Bool.and_eq_true, beq_iff_eq] at this
      exact this.2
  clear k1' k2' k3' k4' k5' k6' f1 f2
  generalize putL zero8 (lowL k) (V : Int) = A at *
  generalize putL zero8 (highL k) (V : Int) = B at *
  refine eff_of Try.func6 rfl rfl rfl fun cx e hP => ?_
  refine AWP.runL e tab_ok L6 10 rfl (by first | trivial | (simp [in64] <;> omega) | (simp only [in64, true_and, and_true]; omega)) ?_
  refine AWP.eqT 16 (.i (k : Int)) rfl (congrArg SV.i hk) ?_
  clear ht2 hk
  refine AWP.runL e tab_ok L6 300 rfl (by first | trivial | (simp [in64] <;> omega) | (simp only [in64, true_and, and_true]; omega)) ?_
  refine AWP.make1 e tab_ok 8 rfl rfl rfl rfl rfl rfl rfl rfl rfl (by decide) (by decide) ?_
  refine AWP.bytesStr e tab_ok zero8 rfl rfl rfl rfl rfl rfl rfl rfl rfl rfl ?_ ?_
  · intro q b hb
    rw [Nat.zero_add]
    show (zero8.map u8S)[q]? = _
    rw [List.getElem?_map, hb]
    rfl
  refine AWP.runL e tab_ok L6 300 rfl (by first | trivial | (simp [in64] <;> omega) | (simp only [in64, true_and, and_true]; omega)) ?_
  repeat (
    first
      | (refine AWP.askT rfl ?_; (first | (refine Told.t rfl ?_) | (refine Told.f rfl ?_) | (refine Told.t ?_ ?_; (focus assumption)) | (refine Told.f ?_ ?_; (focus assumption)) | (refine Told.t ?_ ?_; (focus (first | (simp; omega) | (simp [*]; done)); done)) | (refine Told.f ?_ ?_; (focus (first | (simp; omega) | (simp [*]; done)); done))); refine AWP.runL e tab_ok L6 300 rfl (by first | trivial | (simp [in64] <;> omega) | (simp only [in64, true_and, and_true]; omega)) ?_)
      | (refine AWP.callQ e rfl rfl ?_; (first | refine CallQ.mk (c1) rfl rfl ?_ | refine CallQ.mk (c2) rfl rfl ?_ | refine CallQ.mk (c3) rfl rfl ?_ | refine CallQ.mk (c4) rfl rfl ?_); refine AWP.runL e tab_ok L6 300 rfl (by first | trivial | (simp [in64] <;> omega) | (simp only [in64, true_and, and_true]; omega)) ?_)
      | (refine AWP.eq_agg e tab_ok rfl rfl rfl (.inl ⟨rfl, rfl⟩) ?_ 5 (by omega) rfl ?_ rfl rfl rfl rfl rfl rfl rfl ?_; (focus kernel_rfl); (focus kernel_rfl); refine AWP.runL e tab_ok L6 300 rfl (by first | trivial | (simp [in64] <;> omega) | (simp only [in64, true_and, and_true]; omega)) ?_)
      | (refine AWP.eq_agg e tab_ok rfl rfl rfl (.inr ⟨rfl, rfl⟩) ?_ 5 (by omega) rfl ?_ rfl rfl rfl rfl rfl rfl rfl ?_; (focus kernel_rfl); (focus kernel_rfl); refine AWP.runL e tab_ok L6 300 rfl (by first | trivial | (simp [in64] <;> omega) | (simp only [in64, true_and, and_true]; omega)) ?_)
    )
  refine AWP.loop (ι := Nat) (fun i => ⟨[(62, .i i), (8, .s (strL A)), (10, .s (strL B)), (1, .i k), (0, .d (.v (.int .u32 (V : Int)))), (5, .ptr 0 0), (6, .ptr 1 0)], [(0, .box (sC (lowS k))), (1, .box (sC (highS k)))], 2⟩) (fun i => i ≤ 4) (fun i => 4 - i) 0 (by omega) ?_ ?_
  · intro g
    refine AWP.less e ?_ ?_ ?_ ?_ ?_ (g) <;> (repeat' (first | exact True.intro | (refine And.intro ?_ ?_) | rfl | assumption))
  intro i Φ hi next
  refine AWP.runL e tab_ok L6 300 rfl (by first | trivial | (simp [in64] <;> omega) | (simp only [in64, true_and, and_true]; omega)) ?_
  refine AWP.cond2 rfl (fun hil => ?_) (fun hil => ?_)
  · have hil : i < 4 := by have := of_decide_eq_true hil; omega
    have nx := next (i + 1) (by show i + 1 ≤ 4; omega) (by show 4 - (i + 1) < 4 - i; omega)
    have hA := byA i hil
    have hB := byB i hil
    have hS := shr_byte V i hil
    have e1 : (byteAt (strL A) ((k : Int) + (i : Int)) != IntKind.wrap .u8 (((V : Int)).fdiv (2 ^ (min ((8 : Int) * (i : Int)).toNat IntKind.u32.bits)))) = false := by
      rw [hS, ← hA]
      unfold byteAt
      rw [strL_data, show ((k : Int) + (i : Int)).toNat = k + i by omega]
      simp
    have e2 : (byteAt (strL B) ((k : Int) + 3 - (i : Int)) != IntKind.wrap .u8 (((V : Int)).fdiv (2 ^ (min ((8 : Int) * (i : Int)).toNat IntKind.u32.bits)))) = false := by
      rw [hS, ← hB]
      unfold byteAt
      rw [strL_data, show ((k : Int) + 3 - (i : Int)).toNat = k + 3 - i by omega]
      simp
    clear next hA hB hS byA byB
    refine AWP.runL e tab_ok L6 300 rfl (by first | trivial | (simp [in64] <;> omega) | (simp only [in64, true_and, and_true]; omega)) ?_
    repeat (
      first
        | (refine AWP.askT rfl ?_; (first | (refine Told.t rfl ?_) | (refine Told.f rfl ?_) | (refine Told.t ?_ ?_; (focus assumption)) | (refine Told.f ?_ ?_; (focus assumption)) | (refine Told.t ?_ ?_; (focus (first | (simp; omega) | (simp [*]; done)); done)) | (refine Told.f ?_ ?_; (focus (first | (simp; omega) | (simp [*]; done)); done))); refine AWP.runL e tab_ok L6 300 rfl (by first | trivial | (simp [in64] <;> omega) | (simp only [in64, true_and, and_true]; omega)) ?_)
        | (refine AWP.eq_agg e tab_ok rfl rfl rfl (.inl ⟨rfl, rfl⟩) ?_ 5 (by omega) rfl ?_ rfl rfl rfl rfl rfl rfl rfl ?_; (focus kernel_rfl); (focus kernel_rfl); refine AWP.runL e tab_ok L6 300 rfl (by first | trivial | (simp [in64] <;> omega) | (simp only [in64, true_and, and_true]; omega)) ?_)
        | (refine AWP.eq_agg e tab_ok rfl rfl rfl (.inr ⟨rfl, rfl⟩) ?_ 5 (by omega) rfl ?_ rfl rfl rfl rfl rfl rfl rfl ?_; (focus kernel_rfl); (focus kernel_rfl); refine AWP.runL e tab_ok L6 300 rfl (by first | trivial | (simp [in64] <;> omega) | (simp only [in64, true_and, and_true]; omega)) ?_)
        | (refine AWP.keep L6 rfl ?_; refine AWP.drg 100 ?_; (refine DrG.runS e tab_ok 200 rfl (by first | trivial | (simp [in64] <;> omega) | (simp only [in64, true_and, and_true]; omega)) ?_); (repeat (first | (refine DrG.askT rfl ?_; (first | (refine Told.t rfl ?_) | (refine Told.f rfl ?_) | (refine Told.t ?_ ?_; (focus assumption)) | (refine Told.f ?_ ?_; (focus assumption)) | (refine Told.t ?_ ?_; (focus (first | (simp; omega) | (simp [*]; done)); done)) | (refine Told.f ?_ ?_; (focus (first | (simp; omega) | (simp [*]; done)); done))); (refine DrG.runS e tab_ok 200 rfl (by first | trivial | (simp [in64] <;> omega) | (simp only [in64, true_and, and_true]; omega)) ?_)) | (refine DrG.eq_agg e tab_ok rfl rfl rfl (.inl ⟨rfl, rfl⟩) ?_ 5 (by omega) rfl ?_ rfl rfl rfl rfl rfl rfl rfl ?_; (focus kernel_rfl); (focus kernel_rfl); (refine DrG.runS e tab_ok 200 rfl (by first | trivial | (simp [in64] <;> omega) | (simp only [in64, true_and, and_true]; omega)) ?_)) | (refine DrG.eq_aggGo e tab_ok rfl rfl rfl rfl (.inl ⟨rfl, rfl⟩) ?_ 5 (by omega) rfl ?_ rfl rfl rfl rfl rfl rfl rfl ?_; (focus kernel_rfl); (focus kernel_rfl); (refine DrG.runS e tab_ok 200 rfl (by first | trivial | (simp [in64] <;> omega) | (simp only [in64, true_and, and_true]; omega)) ?_)) | (refine DrG.eq_agg e tab_ok rfl rfl rfl (.inr ⟨rfl, rfl⟩) ?_ 5 (by omega) rfl ?_ rfl rfl rfl rfl rfl rfl rfl ?_; (focus kernel_rfl); (focus kernel_rfl); (refine DrG.runS e tab_ok 200 rfl (by first | trivial | (simp [in64] <;> omega) | (simp only [in64, true_and, and_true]; omega)) ?_)) | (refine DrG.eq_aggGo e tab_ok rfl rfl rfl rfl (.inr ⟨rfl, rfl⟩) ?_ 5 (by omega) rfl ?_ rfl rfl rfl rfl rfl rfl rfl ?_; (focus kernel_rfl); (focus kernel_rfl); (refine DrG.runS e tab_ok 200 rfl (by first | trivial | (simp [in64] <;> omega) | (simp only [in64, true_and, and_true]; omega)) ?_)))); refine DrG.finK e rfl ?_ rfl rfl rfl ?_ ?_; (focus kernel_rfl); (focus (repeat' (first | exact True.intro | (refine And.intro ?_ ?_) | rfl | assumption | exact okRow _))); dsimp only [tmS, hpS, tput, effH]; refine AWP.runL e tab_ok L6 300 rfl (by first | trivial | (simp [in64] <;> omega) | (simp only [in64, true_and, and_true]; omega)) ?_)
      )
    refine AWP.less e ?_ ?_ ?_ ?_ ?_ (nx) <;> (repeat' (first | exact True.intro | (refine And.intro ?_ ?_) | rfl | assumption))
  · have hil : ¬ i < 4 := by have := of_decide_eq_false hil; omega
    refine AWP.runL e tab_ok L6 300 rfl (by first | trivial | (simp [in64] <;> omega) | (simp only [in64, true_and, and_true]; omega)) ?_
    repeat (
      first
        | (refine AWP.askT rfl ?_; (first | (refine Told.t rfl ?_) | (refine Told.f rfl ?_) | (refine Told.t ?_ ?_; (focus assumption)) | (refine Told.f ?_ ?_; (focus assumption)) | (refine Told.t ?_ ?_; (focus (first | (simp; omega) | (simp [*]; done)); done)) | (refine Told.f ?_ ?_; (focus (first | (simp; omega) | (simp [*]; done)); done))); refine AWP.runL e tab_ok L6 300 rfl (by first | trivial | (simp [in64] <;> omega) | (simp only [in64, true_and, and_true]; omega)) ?_)
        | (refine AWP.callQ e rfl rfl ?_; (first | refine CallQ.mk (c4) rfl rfl ?_); refine AWP.runL e tab_ok L6 300 rfl (by first | trivial | (simp [in64] <;> omega) | (simp only [in64, true_and, and_true]; omega)) ?_)
        | (refine AWP.eq_agg e tab_ok rfl rfl rfl (.inl ⟨rfl, rfl⟩) ?_ 5 (by omega) rfl ?_ rfl rfl rfl rfl rfl rfl rfl ?_; (focus kernel_rfl); (focus kernel_rfl); refine AWP.runL e tab_ok L6 300 rfl (by first | trivial | (simp [in64] <;> omega) | (simp only [in64, true_and, and_true]; omega)) ?_)
        | (refine AWP.eq_agg e tab_ok rfl rfl rfl (.inr ⟨rfl, rfl⟩) ?_ 5 (by omega) rfl ?_ rfl rfl rfl rfl rfl rfl rfl ?_; (focus kernel_rfl); (focus kernel_rfl); refine AWP.runL e tab_ok L6 300 rfl (by first | trivial | (simp [in64] <;> omega) | (simp only [in64, true_and, and_true]; omega)) ?_)
      )
    refine AWP.ret e tab_ok rfl ?_
    rw [hP]
    all_goals first | rfl | (simp [strip]; done)
theorem lbytes_args (l : List SV) (h : Args tab 9 [44, 3] l) : Eff Try.prog 6 l [] 0 (fun r _ _ => r = .b true) := by
  obtain ⟨_, _, rfl, ⟨v, rfl, hv1, hv2⟩, _, _, rfl, ⟨a, rfl, _, _⟩, rfl⟩ := h
  have hv1 : 0 ≤ v := hv1
  have hv2 : v ≤ 4294967295 := hv2
  obtain ⟨V, rfl⟩ : ∃ V : Nat, v = V := ⟨v.toNat, by omega⟩
  exact lbytes_ok V a (by omega)
end Go.Proofs.Ythibaeeoegoliaa
