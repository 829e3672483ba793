import Derived.Test.YthibaeeoegoliaaEd
import Derived.Test.YthibaeeoegoliaaF24
open Go Go.Proofs Go.RowKit Go.Sy Go.Signal
namespace Go.Proofs.Ythibaeeoegoliaa

theorem fits_val {s : Sig} {l : List Nat} (h : places s = some l) {bs : List Bool} (hb : bs.length = l.length) : fitsB s (valS s bs) = true := by
  have hl := places_len h
  have hg := good_of h
  unfold bad at hg
  simp only [Bool.or_eq_false_iff] at hg
  have h5 := hg.2
  have hwn : s.width.toNat = l.length := by omega
  unfold fitsB valS
  rw [hwn]
  cases hs : s.sgn
  · rw [hs] at h5
    simp at h5
    simp only [Bool.false_eq_true, if_false, Bool.and_eq_true, decide_eq_true_eq, Bool.or_eq_true]
    have h1 := numL_ge bs
    have h2 := numL_lt bs
    rw [hb] at h2
    exact ⟨h1, .inr h2⟩
  · simp only [if_true, Bool.and_eq_true, decide_eq_true_eq]
    cases bs with
    | nil => simp at hb; omega
    | cons b m =>
      have h1 := sgnL_in m b
      have h2 : l.length - 1 = m.length := by rw [← hb]; rfl
      rw [h2]
      exact h1
theorem vbits_val {s : Sig} {l : List Nat} (h : places s = some l) {bs : List Bool} (hb : bs.length = l.length) : vbits (valS s bs) l.length = bs := by
  rw [← hb]
  unfold valS
  split
  · exact vbits_sgn bs
  · exact vbits_num bs
theorem putR_bad {d : List UInt8} {s : Sig} {v : Int} : putR d s v = .tup [.s .empty, .i 1] ∨ putR d s v = .tup [.s .empty, .i 23] ∨ putR d s v = .tup [.s .empty, .i 32] ∨ ∃ l, places s = some l ∧ d.length ≤ 8 ∧ rightB s d.length = true ∧ fitsB s v = true ∧ putR d s v = .tup [.s (strL (putL d l v)), .i 0] := by
  unfold putR
  cases h : places s with
  | none => exact .inl rfl
  | some l =>
    dsimp only
    by_cases h1 : d.length ≤ 8 ∧ rightB s d.length = true
    · rw [if_pos h1]
      by_cases h2 : fitsB s v = true
      · rw [if_pos h2]; exact .inr (.inr (.inr ⟨l, rfl, h1.1, h1.2, h2, rfl⟩))
      · rw [if_neg h2]; exact .inr (.inr (.inl rfl))
    · rw [if_neg h1]; exact .inr (.inl rfl)
/-- The map of places that are one's own. -/
abbrev mineL (l : List Nat) : List (Int × Value) := (intsN l).map fun k => (k, .bool true)
theorem mine_get (l : List Nat) (a : Nat) : (getI (mineL l) (a : Int)).getD (.bool false) = .bool (decide (a ∈ l)) := by
  unfold mineL
  rw [getI_set]
  have : ((a : Int) ∈ intsN l) ↔ a ∈ l := by
    simp only [intsN, List.mem_map]
    constructor
    · rintro ⟨b, hb, h⟩
      rw [show a = b by omega]; exact hb
    · intro h; exact ⟨a, h, rfl⟩
  by_cases h : a ∈ l
  · rw [if_pos (this.2 h), decide_eq_true h]; rfl
  · rw [if_neg (fun hc => h (this.1 hc)), decide_eq_false h]; rfl
theorem mine_new {l : List Nat} (hn : l.Nodup) {i : Nat} (hi : i < l.length) : getI (mineL (l.take i)) (l[i] : Int) = none := by
  unfold mineL
  rw [getI_set, if_neg]
  intro h
  simp only [intsN, List.mem_map] at h
  obtain ⟨b, hb, he⟩ := h
  have hb : b = l[i] := by omega
  subst hb
  rw [List.mem_take_iff_getElem] at hb
  obtain ⟨j, hj, he⟩ := hb
  exact List.pairwise_iff_getElem.1 hn j i (by omega) hi (by omega) he
theorem mine_snoc (l : List Nat) {i : Nat} (hi : i < l.length) : mineL (l.take i) ++ [((l[i] : Int), .bool true)] = mineL (l.take (i + 1)) := by
  unfold mineL intsN
  rw [List.take_succ_eq_append_getElem hi, List.map_append, List.map_append]
  rfl
set_option maxRecDepth 100000 in
set_option maxHeartbeats 4000000 in
theorem lback_ok (data : List UInt8) (s : Sig) (v : Int) (hv : -9223372036854775808 ≤ v ∧ v ≤ 9223372036854775807) : Eff Try.prog 5 [.s (strL data), .agg (sC s), .i v] [] 0 (fun r _ _ => r = .b true) := by
  have hcut := cut_len data 8 rfl
  obtain ⟨d, hd⟩ : ∃ d, d = data.take 8 := ⟨_, rfl⟩
  have hd8 : d.length ≤ 8 := by rw [hd]; simp; omega
  rw [← hd] at hcut
  clear hd
  have hz : (strL d).size = d.length := strL_size d
  have c1 := Put_eff d s v (by omega)
  have c2 := alive_eff
  rcases putR_bad (d := d) (s := s) (v := v) with h | h | h | ⟨l, h, _, hr, hf, hp⟩
  · rw [h] at c1
    refine eff_of Try.func5 rfl rfl rfl fun cx e hP => ?_
    refine AWP.runL e tab_ok L5 300 rfl (by first | trivial | (simp [] <;> omega) | (simp only [in64, true_and, and_true]; omega)) ?_
    refine AWP.eqT 25 (.s (strL d)) rfl (congrArg SV.s hcut) ?_
    refine AWP.eqT 0 (.s (strL d)) rfl (congrArg SV.s hcut) ?_
    repeat (
      first
        | (refine AWP.askT rfl ?_; (first | (refine Told.t rfl ?_) | (refine Told.f rfl ?_) | (refine Told.t ?_ ?_; (focus assumption)) | (refine Told.f ?_ ?_; (focus assumption)) | (refine Told.t ?_ ?_; (focus (first | (simp; omega) | (simp [*]; done)); done)) | (refine Told.f ?_ ?_; (focus (first | (simp; omega) | (simp [*]; done)); done))); refine AWP.runL e tab_ok L5 300 rfl (by first | trivial | (simp [in64] <;> omega) | (simp only [in64, true_and, and_true]; omega)) ?_)
        | (refine AWP.callQ e rfl rfl ?_; (first | refine CallQ.mk (c1) rfl rfl ?_ | refine CallQ.mk (c2) rfl rfl ?_); refine AWP.runL e tab_ok L5 300 rfl (by first | trivial | (simp [in64] <;> omega) | (simp only [in64, true_and, and_true]; omega)) ?_)
        | (refine AWP.eq_agg e tab_ok rfl rfl rfl (.inl ⟨rfl, rfl⟩) ?_ 5 (by omega) rfl ?_ rfl rfl rfl rfl rfl rfl rfl ?_; (focus kernel_rfl); (focus kernel_rfl); refine AWP.runL e tab_ok L5 300 rfl (by first | trivial | (simp [in64] <;> omega) | (simp only [in64, true_and, and_true]; omega)) ?_)
        | (refine AWP.eq_agg e tab_ok rfl rfl rfl (.inr ⟨rfl, rfl⟩) ?_ 5 (by omega) rfl ?_ rfl rfl rfl rfl rfl rfl rfl ?_; (focus kernel_rfl); (focus kernel_rfl); refine AWP.runL e tab_ok L5 300 rfl (by first | trivial | (simp [in64] <;> omega) | (simp only [in64, true_and, and_true]; omega)) ?_)
      )
    refine AWP.ret e tab_ok rfl ?_
    rw [hP]
    all_goals first | rfl | (simp [strip]; done)
  · rw [h] at c1
    refine eff_of Try.func5 rfl rfl rfl fun cx e hP => ?_
    refine AWP.runL e tab_ok L5 300 rfl (by first | trivial | (simp [] <;> omega) | (simp only [in64, true_and, and_true]; omega)) ?_
    refine AWP.eqT 25 (.s (strL d)) rfl (congrArg SV.s hcut) ?_
    refine AWP.eqT 0 (.s (strL d)) rfl (congrArg SV.s hcut) ?_
    repeat (
      first
        | (refine AWP.askT rfl ?_; (first | (refine Told.t rfl ?_) | (refine Told.f rfl ?_) | (refine Told.t ?_ ?_; (focus assumption)) | (refine Told.f ?_ ?_; (focus assumption)) | (refine Told.t ?_ ?_; (focus (first | (simp; omega) | (simp [*]; done)); done)) | (refine Told.f ?_ ?_; (focus (first | (simp; omega) | (simp [*]; done)); done))); refine AWP.runL e tab_ok L5 300 rfl (by first | trivial | (simp [in64] <;> omega) | (simp only [in64, true_and, and_true]; omega)) ?_)
        | (refine AWP.callQ e rfl rfl ?_; (first | refine CallQ.mk (c1) rfl rfl ?_ | refine CallQ.mk (c2) rfl rfl ?_); refine AWP.runL e tab_ok L5 300 rfl (by first | trivial | (simp [in64] <;> omega) | (simp only [in64, true_and, and_true]; omega)) ?_)
        | (refine AWP.eq_agg e tab_ok rfl rfl rfl (.inl ⟨rfl, rfl⟩) ?_ 5 (by omega) rfl ?_ rfl rfl rfl rfl rfl rfl rfl ?_; (focus kernel_rfl); (focus kernel_rfl); refine AWP.runL e tab_ok L5 300 rfl (by first | trivial | (simp [in64] <;> omega) | (simp only [in64, true_and, and_true]; omega)) ?_)
        | (refine AWP.eq_agg e tab_ok rfl rfl rfl (.inr ⟨rfl, rfl⟩) ?_ 5 (by omega) rfl ?_ rfl rfl rfl rfl rfl rfl rfl ?_; (focus kernel_rfl); (focus kernel_rfl); refine AWP.runL e tab_ok L5 300 rfl (by first | trivial | (simp [in64] <;> omega) | (simp only [in64, true_and, and_true]; omega)) ?_)
      )
    refine AWP.ret e tab_ok rfl ?_
    rw [hP]
    all_goals first | rfl | (simp [strip]; done)
  · rw [h] at c1
    refine eff_of Try.func5 rfl rfl rfl fun cx e hP => ?_
    refine AWP.runL e tab_ok L5 300 rfl (by first | trivial | (simp [] <;> omega) | (simp only [in64, true_and, and_true]; omega)) ?_
    refine AWP.eqT 25 (.s (strL d)) rfl (congrArg SV.s hcut) ?_
    refine AWP.eqT 0 (.s (strL d)) rfl (congrArg SV.s hcut) ?_
    repeat (
      first
        | (refine AWP.askT rfl ?_; (first | (refine Told.t rfl ?_) | (refine Told.f rfl ?_) | (refine Told.t ?_ ?_; (focus assumption)) | (refine Told.f ?_ ?_; (focus assumption)) | (refine Told.t ?_ ?_; (focus (first | (simp; omega) | (simp [*]; done)); done)) | (refine Told.f ?_ ?_; (focus (first | (simp; omega) | (simp [*]; done)); done))); refine AWP.runL e tab_ok L5 300 rfl (by first | trivial | (simp [in64] <;> omega) | (simp only [in64, true_and, and_true]; omega)) ?_)
        | (refine AWP.callQ e rfl rfl ?_; (first | refine CallQ.mk (c1) rfl rfl ?_ | refine CallQ.mk (c2) rfl rfl ?_); refine AWP.runL e tab_ok L5 300 rfl (by first | trivial | (simp [in64] <;> omega) | (simp only [in64, true_and, and_true]; omega)) ?_)
        | (refine AWP.eq_agg e tab_ok rfl rfl rfl (.inl ⟨rfl, rfl⟩) ?_ 5 (by omega) rfl ?_ rfl rfl rfl rfl rfl rfl rfl ?_; (focus kernel_rfl); (focus kernel_rfl); refine AWP.runL e tab_ok L5 300 rfl (by first | trivial | (simp [in64] <;> omega) | (simp only [in64, true_and, and_true]; omega)) ?_)
        | (refine AWP.eq_agg e tab_ok rfl rfl rfl (.inr ⟨rfl, rfl⟩) ?_ 5 (by omega) rfl ?_ rfl rfl rfl rfl rfl rfl rfl ?_; (focus kernel_rfl); (focus kernel_rfl); refine AWP.runL e tab_ok L5 300 rfl (by first | trivial | (simp [in64] <;> omega) | (simp only [in64, true_and, and_true]; omega)) ?_)
      )
    refine AWP.ret e tab_ok rfl ?_
    rw [hP]
    all_goals first | rfl | (simp [strip]; done)
  · rw [hp] at c1
    have hl := places_len h
    have hlt := right_lt h hr
    have hnd := places_nodup h
    have lo := putL_len l d v
    have c3 := Get_eff (putL d l v) s (by omega)
    rw [getR_ok h (by omega) (by rw [lo]; exact hr), putL_in l d v hlt hnd, val_bits h hf hv] at c3
    have c4 := refplaces_eff s
    rw [plR_some h] at c4
    have c5 := Get_eff d s (by omega)
    rw [getR_ok h hd8 hr] at c5
    have hbl : (l.map (bitAt d)).length = l.length := List.length_map _
    have c6 := Fits_eff s (valS s (l.map (bitAt d)))
    rw [show fitS s (valS s (l.map (bitAt d))) = true from by unfold fitS; rw [h]; exact fits_val h hbl] at c6
    have c7 := Put_eff (putL d l v) s (valS s (l.map (bitAt d))) (by omega)
    have hout : ∀ a, a ∉ l → bitAt (putL d l v) a = bitAt d a := fun a ha => putL_out l d v hlt ha
    rw [putR_ok h (by omega) (by rw [lo]; exact hr) (fits_val h hbl), put_got lo hlt hnd hout (vbits_val h hbl)] at c7
    have hso : (((strL (putL d l v)).size : Int) != ((strL d).size : Int)) = false := by rw [strL_size, strL_size, lo]; simp
    have hvv : (v != v) = false := by simp
    have hn : (rowI (intsN l)).length = l.length := by simp
    have cb1 : ∀ a : Nat, a < 8 * d.length → Eff Try.prog 22 [.s (strL (putL d l v)), .i a] [] 0 (fun r _ _ => r = .i (bI (bitAt (putL d l v) a))) := fun a ha => Bit_eff _ a (by omega) (by omega)
    have cb2 : ∀ a : Nat, a < 8 * d.length → Eff Try.prog 22 [.s (strL d), .i a] [] 0 (fun r _ _ => r = .i (bI (bitAt d a))) := fun a ha => Bit_eff _ a (by omega) ha
    have e8 := toList_self (strL d)
    generalize valS s (l.map (bitAt d)) = old at *
    generalize putL d l v = o at *
    clear hp hbl hr hf
    refine eff_of Try.func5 rfl rfl rfl fun cx e hP => ?_
    refine AWP.runL e tab_ok L5 300 rfl (by first | trivial | (simp [] <;> omega) | (simp only [in64, true_and, and_true]; omega)) ?_
    refine AWP.eqT 25 (.s (strL d)) rfl (congrArg SV.s hcut) ?_
    refine AWP.eqT 0 (.s (strL d)) rfl (congrArg SV.s hcut) ?_
    repeat (
      first
        | (refine AWP.askT rfl ?_; (first | (refine Told.t rfl ?_) | (refine Told.f rfl ?_) | (refine Told.t ?_ ?_; (focus assumption)) | (refine Told.f ?_ ?_; (focus assumption)) | (refine Told.t ?_ ?_; (focus (first | (simp; omega) | (simp [*]; done)); done)) | (refine Told.f ?_ ?_; (focus (first | (simp; omega) | (simp [*]; done)); done))); refine AWP.runL e tab_ok L5 300 rfl (by first | trivial | (simp [in64] <;> omega) | (simp only [in64, true_and, and_true]; omega)) ?_)
        | (refine AWP.callQ e rfl rfl ?_; (first | refine CallQ.mk (c1) rfl rfl ?_ | refine CallQ.mk (c2) rfl rfl ?_ | refine CallQ.mk (c3) rfl rfl ?_); refine AWP.runL e tab_ok L5 300 rfl (by first | trivial | (simp [in64] <;> omega) | (simp only [in64, true_and, and_true]; omega)) ?_)
        | (refine AWP.eq_agg e tab_ok rfl rfl rfl (.inl ⟨rfl, rfl⟩) ?_ 5 (by omega) rfl ?_ rfl rfl rfl rfl rfl rfl rfl ?_; (focus kernel_rfl); (focus kernel_rfl); refine AWP.runL e tab_ok L5 300 rfl (by first | trivial | (simp [in64] <;> omega) | (simp only [in64, true_and, and_true]; omega)) ?_)
        | (refine AWP.eq_agg e tab_ok rfl rfl rfl (.inr ⟨rfl, rfl⟩) ?_ 5 (by omega) rfl ?_ rfl rfl rfl rfl rfl rfl rfl ?_; (focus kernel_rfl); (focus kernel_rfl); refine AWP.runL e tab_ok L5 300 rfl (by first | trivial | (simp [in64] <;> omega) | (simp only [in64, true_and, and_true]; omega)) ?_)
      )
    refine AWP.makeMap (MapCx.start e) e rfl fun cx2 b m e hP2 hmb _ => ?_
    have hP := hP2.trans hP
    refine AWP.runL e tab_ok L5 300 rfl (by first | trivial | (simp [in64] <;> omega) | (simp only [in64, true_and, and_true]; omega)) ?_
    repeat (
      first
        | (refine AWP.askT rfl ?_; (first | (refine Told.t rfl ?_) | (refine Told.f rfl ?_) | (refine Told.t ?_ ?_; (focus assumption)) | (refine Told.f ?_ ?_; (focus assumption)) | (refine Told.t ?_ ?_; (focus (first | (simp; omega) | (simp [*]; done)); done)) | (refine Told.f ?_ ?_; (focus (first | (simp; omega) | (simp [*]; done)); done))); refine AWP.runL e tab_ok L5 300 rfl (by first | trivial | (simp [in64] <;> omega) | (simp only [in64, true_and, and_true]; omega)) ?_)
        | (refine AWP.callQ e rfl rfl ?_; (first | refine CallQ.mk (c4) rfl rfl ?_); refine AWP.runL e tab_ok L5 300 rfl (by first | trivial | (simp [in64] <;> omega) | (simp only [in64, true_and, and_true]; omega)) ?_)
        | (refine AWP.eq_agg e tab_ok rfl rfl rfl (.inl ⟨rfl, rfl⟩) ?_ 5 (by omega) rfl ?_ rfl rfl rfl rfl rfl rfl rfl ?_; (focus kernel_rfl); (focus kernel_rfl); refine AWP.runL e tab_ok L5 300 rfl (by first | trivial | (simp [in64] <;> omega) | (simp only [in64, true_and, and_true]; omega)) ?_)
        | (refine AWP.eq_agg e tab_ok rfl rfl rfl (.inr ⟨rfl, rfl⟩) ?_ 5 (by omega) rfl ?_ rfl rfl rfl rfl rfl rfl rfl ?_; (focus kernel_rfl); (focus kernel_rfl); refine AWP.runL e tab_ok L5 300 rfl (by first | trivial | (simp [in64] <;> omega) | (simp only [in64, true_and, and_true]; omega)) ?_)
      )
    refine AWP.loopM (ι := Nat) (fun i => ⟨[(66, .i i), (65, .i (rowI (intsN l)).length), (64, slI (intsN l)), (11, .d (.v (.map (some b)))), (7, .s (strL o)), (0, .s (strL d)), (4, .ptr 0 0)], [(0, .box (sC s))], 1⟩)
      (fun i c2 => i ≤ l.length ∧ MapCx cx c2 (fun q => q = b ∨ False) ∧ Env c2 Try.prog Try.f5 1 ∧ c2.Post = (fun r _ _ => r = .b true) ∧ c2.w0.heap[b]? = some (mapI .i64 (mineL (l.take i)))) (fun i => l.length - i) 0 ⟨Nat.zero_le _, m, e, hP, hmb⟩ (fun i c ⟨_, m2, _, _, _⟩ => ⟨m2.P.trans m.P.symm, m2.R.trans m.R.symm⟩) ?_ ?_
    · intro g
      refine AWP.less e ?_ ?_ ?_ ?_ ?_ (g) <;> (repeat' (first | exact True.intro | (refine And.intro ?_ ?_) | rfl | assumption))
    rintro i cx3 Φ ⟨hi, m, e, hP, hmb⟩ next
    refine AWP.runL e tab_ok L5 300 rfl (by first | trivial | (simp [in64] <;> omega) | (simp only [in64, true_and, and_true]; omega)) ?_
    refine AWP.cond2 rfl (fun hil => ?_) (fun hil => ?_)
    · have hil : i < l.length := by have := of_decide_eq_true hil; omega
      have hel := intsN_at hil
      have hnew := mine_new hnd hil
      have hsn := mine_snoc l hil
      generalize l[i] = x at *
      refine AWP.runL e tab_ok L5 300 rfl (by first | trivial | (simp [in64] <;> omega) | (simp only [in64, true_and, and_true]; omega)) ?_
      refine AWP.idx e tab_ok rfl rfl rfl rfl i rfl hel ?_
      refine AWP.runL e tab_ok L5 300 rfl (by first | trivial | (simp [in64] <;> omega) | (simp only [in64, true_and, and_true]; omega)) ?_
      refine AWP.newI m e (.inl rfl) hmb Try.underlying42 Try.underlying3 rfl rfl rfl hnew fun cx4 m e hP2 hmb _ => ?_
      have hP := hP2.trans hP
      rw [hsn] at hmb
      have nx := next (i + 1) cx4 ⟨hil, m, e, hP, hmb⟩ (by show l.length - (i + 1) < l.length - i; omega)
      refine AWP.runL e tab_ok L5 300 rfl (by first | trivial | (simp [in64] <;> omega) | (simp only [in64, true_and, and_true]; omega)) ?_
      refine AWP.less e ?_ ?_ ?_ ?_ ?_ (nx) <;> (repeat' (first | exact True.intro | (refine And.intro ?_ ?_) | rfl | assumption))
    · have hil : ¬ i < l.length := by have := of_decide_eq_false hil; omega
      obtain rfl : i = l.length := by omega
      rw [List.take_length] at hmb
      refine AWP.runL e tab_ok L5 300 rfl (by first | trivial | (simp [in64] <;> omega) | (simp only [in64, true_and, and_true]; omega)) ?_
      refine AWP.loop (ι := Nat) (fun i => ⟨[(76, .i i), (75, .i (8 * ((strL d).size : Int))), (11, .d (.v (.map (some b)))), (7, .s (strL o)), (0, .s (strL d)), (4, .ptr 0 0)], [(0, .box (sC s))], 1⟩) (fun i => i ≤ 8 * d.length) (fun i => 8 * d.length - i) 0 (Nat.zero_le _) ?_ ?_
      · intro g
        refine AWP.less e ?_ ?_ ?_ ?_ ?_ (g) <;> (repeat' (first | exact True.intro | (refine And.intro ?_ ?_) | rfl | assumption))
      intro i Ψ hi nxt
      refine AWP.runL e tab_ok L5 300 rfl (by first | trivial | (simp [in64] <;> omega) | (simp only [in64, true_and, and_true]; omega)) ?_
      refine AWP.cond2 rfl (fun hil => ?_) (fun hil => ?_)
      · have hil : i < 8 * d.length := by have := of_decide_eq_true hil; omega
        have nx := nxt (i + 1) hil (by omega)
        have k1 := cb1 i hil
        have k2 := cb2 i hil
        have hget := mine_get l i
        clear nxt next
        refine AWP.runL e tab_ok L5 300 rfl (by first | trivial | (simp [in64] <;> omega) | (simp only [in64, true_and, and_true]; omega)) ?_
        refine AWP.lookupI m e (.inl rfl) hmb Try.underlying42 Try.underlying3 Try.zeroValue4 rfl rfl rfl _ hget ?_
        by_cases hin : i ∈ l
        · rw [decide_eq_true hin]
          refine AWP.runL e tab_ok L5 300 rfl (by first | trivial | (simp [in64] <;> omega) | (simp only [in64, true_and, and_true]; omega)) ?_
          repeat (
            first
              | (refine AWP.askT rfl ?_; (first | (refine Told.t rfl ?_) | (refine Told.f rfl ?_) | (refine Told.t ?_ ?_; (focus assumption)) | (refine Told.f ?_ ?_; (focus assumption)) | (refine Told.t ?_ ?_; (focus (first | (simp; omega) | (simp [*]; done)); done)) | (refine Told.f ?_ ?_; (focus (first | (simp; omega) | (simp [*]; done)); done))); refine AWP.runL e tab_ok L5 300 rfl (by first | trivial | (simp [in64] <;> omega) | (simp only [in64, true_and, and_true]; omega)) ?_)
              | (refine AWP.eq_agg e tab_ok rfl rfl rfl (.inl ⟨rfl, rfl⟩) ?_ 5 (by omega) rfl ?_ rfl rfl rfl rfl rfl rfl rfl ?_; (focus kernel_rfl); (focus kernel_rfl); refine AWP.runL e tab_ok L5 300 rfl (by first | trivial | (simp [in64] <;> omega) | (simp only [in64, true_and, and_true]; omega)) ?_)
              | (refine AWP.eq_agg e tab_ok rfl rfl rfl (.inr ⟨rfl, rfl⟩) ?_ 5 (by omega) rfl ?_ rfl rfl rfl rfl rfl rfl rfl ?_; (focus kernel_rfl); (focus kernel_rfl); refine AWP.runL e tab_ok L5 300 rfl (by first | trivial | (simp [in64] <;> omega) | (simp only [in64, true_and, and_true]; omega)) ?_)
            )
          refine AWP.less e ?_ ?_ ?_ ?_ ?_ (nx) <;> (repeat' (first | exact True.intro | (refine And.intro ?_ ?_) | rfl | assumption))
        · rw [decide_eq_false hin]
          have hbb : (bI (bitAt o i) != bI (bitAt d i)) = false := by rw [hout i hin]; simp
          refine AWP.runL e tab_ok L5 300 rfl (by first | trivial | (simp [in64] <;> omega) | (simp only [in64, true_and, and_true]; omega)) ?_
          repeat (
            first
              | (refine AWP.askT rfl ?_; (first | (refine Told.t rfl ?_) | (refine Told.f rfl ?_) | (refine Told.t ?_ ?_; (focus assumption)) | (refine Told.f ?_ ?_; (focus assumption)) | (refine Told.t ?_ ?_; (focus (first | (simp; omega) | (simp [*]; done)); done)) | (refine Told.f ?_ ?_; (focus (first | (simp; omega) | (simp [*]; done)); done))); refine AWP.runL e tab_ok L5 300 rfl (by first | trivial | (simp [in64] <;> omega) | (simp only [in64, true_and, and_true]; omega)) ?_)
              | (refine AWP.callQ e rfl rfl ?_; (first | refine CallQ.mk (k1) rfl rfl ?_ | refine CallQ.mk (k2) rfl rfl ?_); refine AWP.runL e tab_ok L5 300 rfl (by first | trivial | (simp [in64] <;> omega) | (simp only [in64, true_and, and_true]; omega)) ?_)
              | (refine AWP.eq_agg e tab_ok rfl rfl rfl (.inl ⟨rfl, rfl⟩) ?_ 5 (by omega) rfl ?_ rfl rfl rfl rfl rfl rfl rfl ?_; (focus kernel_rfl); (focus kernel_rfl); refine AWP.runL e tab_ok L5 300 rfl (by first | trivial | (simp [in64] <;> omega) | (simp only [in64, true_and, and_true]; omega)) ?_)
              | (refine AWP.eq_agg e tab_ok rfl rfl rfl (.inr ⟨rfl, rfl⟩) ?_ 5 (by omega) rfl ?_ rfl rfl rfl rfl rfl rfl rfl ?_; (focus kernel_rfl); (focus kernel_rfl); refine AWP.runL e tab_ok L5 300 rfl (by first | trivial | (simp [in64] <;> omega) | (simp only [in64, true_and, and_true]; omega)) ?_)
            )
          refine AWP.less e ?_ ?_ ?_ ?_ ?_ (nx) <;> (repeat' (first | exact True.intro | (refine And.intro ?_ ?_) | rfl | assumption))
      · have hil : ¬ i < 8 * d.length := by have := of_decide_eq_false hil; omega
        clear next nxt
        refine AWP.runL e tab_ok L5 300 rfl (by first | trivial | (simp [in64] <;> omega) | (simp only [in64, true_and, and_true]; omega)) ?_
        repeat (
          first
            | (refine AWP.askT rfl ?_; (first | (refine Told.t rfl ?_) | (refine Told.f rfl ?_) | (refine Told.t ?_ ?_; (focus assumption)) | (refine Told.f ?_ ?_; (focus assumption)) | (refine Told.t ?_ ?_; (focus (first | (simp; omega) | (simp [*]; done)); done)) | (refine Told.f ?_ ?_; (focus (first | (simp; omega) | (simp [*]; done)); done))); refine AWP.runL e tab_ok L5 300 rfl (by first | trivial | (simp [in64] <;> omega) | (simp only [in64, true_and, and_true]; omega)) ?_)
            | (refine AWP.callQ e rfl rfl ?_; (first | refine CallQ.mk (c5) rfl rfl ?_ | refine CallQ.mk (c6) rfl rfl ?_ | refine CallQ.mk (c7) rfl rfl ?_); refine AWP.runL e tab_ok L5 300 rfl (by first | trivial | (simp [in64] <;> omega) | (simp only [in64, true_and, and_true]; omega)) ?_)
            | (refine AWP.eq_agg e tab_ok rfl rfl rfl (.inl ⟨rfl, rfl⟩) ?_ 5 (by omega) rfl ?_ rfl rfl rfl rfl rfl rfl rfl ?_; (focus kernel_rfl); (focus kernel_rfl); refine AWP.runL e tab_ok L5 300 rfl (by first | trivial | (simp [in64] <;> omega) | (simp only [in64, true_and, and_true]; omega)) ?_)
            | (refine AWP.eq_agg e tab_ok rfl rfl rfl (.inr ⟨rfl, rfl⟩) ?_ 5 (by omega) rfl ?_ rfl rfl rfl rfl rfl rfl rfl ?_; (focus kernel_rfl); (focus kernel_rfl); refine AWP.runL e tab_ok L5 300 rfl (by first | trivial | (simp [in64] <;> omega) | (simp only [in64, true_and, and_true]; omega)) ?_)
          )
        refine AWP.ret e tab_ok rfl ?_
        rw [hP]
        all_goals first | rfl | (simp [strip]; done)
theorem lback_args (l : List SV) (h : Args tab 9 [9, 23, 2] l) : Eff Try.prog 5 l [] 0 (fun r _ _ => r = .b true) := by
  obtain ⟨_, _, rfl, ⟨data, rfl, _⟩, x, _, rfl, hx, _, _, rfl, ⟨v, rfl, hv1, hv2⟩, rfl⟩ := h
  obtain ⟨a, ha⟩ := sig_of (n := 7) x hx
  rw [show argSV tab 23 x = .agg (sC a) from congrArg SV.agg ha, ← strL_of data]
  exact lback_ok _ a v ⟨hv1, hv2⟩
end Go.Proofs.Ythibaeeoegoliaa
