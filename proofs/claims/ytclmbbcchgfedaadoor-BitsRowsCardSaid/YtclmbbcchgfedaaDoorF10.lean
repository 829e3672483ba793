import Derived.Test.YtclmbbcchgfedaaDoorF9
open Go Go.Proofs Go.Sy
namespace Go.Proofs.YtclmbbcchgfedaaDoor

theorem xor_1 (b : UInt8) : IntKind.wrap .u8 (((BitVec.ofInt IntKind.u8.bits (b.toNat : Int) ^^^ BitVec.ofInt IntKind.u8.bits 1).toNat : Nat) : Int) = ((b ^^^ 1).toNat : Int) := u8xor b.toBitVec 1#8
def flip1 (o : List UInt8) (i : Nat) : List UInt8 := o.set i (o.getD i 0 ^^^ 1)
theorem flip1_len (o : List UInt8) (i : Nat) : (flip1 o i).length = o.length := by simp [flip1]
def flipL (o : List UInt8) (ks : List Int) : List UInt8 := ks.foldl (fun o k => flip1 o k.toNat) o
theorem flipL_len (ks : List Int) : ∀ o, (flipL o ks).length = o.length := by
  induction ks with
  | nil => intro o; rfl
  | cons k ks ih => intro o; exact (ih _).trans (flip1_len _ _)
theorem flipL_succ (o : List UInt8) {ks : List Int} {i : Nat} (h : i < ks.length) : flipL o (ks.take (i + 1)) = flip1 (flipL o (ks.take i)) ks[i].toNat := by
  unfold flipL
  rw [List.take_succ_eq_append_getElem h, List.foldl_append]
  rfl
def inN (n : Nat) (k : Int) : Bool := decide (0 ≤ k) && decide (k < n)
def flipR (l : List UInt8) (ks : List Int) : List UInt8 × Int := if wellB l && ks.all (inN l.length) then (flipL l ks, 0) else ([], 1)
abbrev intsV (ks : List Int) : SV := .d (.sl 1 (ks.map fun k => [.v (.int .i64 k)]))
theorem ints_at {ks : List Int} {i : Nat} (h : i < ks.length) : (ks.map fun k => [DV.v (.int .i64 k)])[i]? = some [DV.v (.int .i64 ks[i])] := by simp [h]

set_option maxRecDepth 100000 in
set_option maxHeartbeats 1000000 in
theorem flip_eff (l : List UInt8) (ks : List Int) (hl : l.length ≤ 1000000) (hk : ks.length ≤ 1000000) : Eff Tryd.prog 20 [.s (strL l), intsV ks] [] 0 (fun r _ _ => r = .tup [.s (strL (flipR l ks).1), .i (flipR l ks).2]) := by
  have c1 := right_eff l
  have hsz : (strL l).size = l.length := strL_size l
  have hlen : ((ks.map fun k => [DV.v (Value.int .i64 k)]).length) = ks.length := List.length_map _
  refine eff_of Tryd.func20 rfl rfl rfl fun cx e hP => ?_
  unfold flipR at hP
  rcases cases_b (wellB l) with hw | hw
  · rw [hw] at c1
    rw [hw, Bool.true_and] at hP
    refine AWP.runL e tab_ok L20 300 rfl (by first | trivial | (simp [in64] <;> omega) | (simp only [in64, true_and, and_true]; omega)) ?_
    repeat (
      first
        | (refine AWP.askT rfl ?_; (first | (refine Told.t rfl ?_) | (refine Told.f rfl ?_) | (refine Told.t ?_ ?_; (focus assumption)) | (refine Told.f ?_ ?_; (focus assumption)) | (refine Told.t ?_ ?_; (focus (first | (simp; omega) | (simp [*]; done)); done)) | (refine Told.f ?_ ?_; (focus (first | (simp; omega) | (simp [*]; done)); done))); refine AWP.runL e tab_ok L20 300 rfl (by first | trivial | (simp [in64] <;> omega) | (simp only [in64, true_and, and_true]; omega)) ?_)
        | (refine AWP.callQ e rfl rfl ?_; (first | refine CallQ.mk (c1) rfl rfl ?_); refine AWP.runL e tab_ok L20 300 rfl (by first | trivial | (simp [in64] <;> omega) | (simp only [in64, true_and, and_true]; omega)) ?_)
        | (refine AWP.eq_agg e tab_ok rfl rfl rfl (.inl ⟨rfl, rfl⟩) ?_ 5 (by omega) rfl ?_ rfl rfl rfl rfl rfl rfl rfl ?_; (focus kernel_rfl); (focus kernel_rfl); refine AWP.runL e tab_ok L20 300 rfl (by first | trivial | (simp [in64] <;> omega) | (simp only [in64, true_and, and_true]; omega)) ?_)
        | (refine AWP.eq_agg e tab_ok rfl rfl rfl (.inr ⟨rfl, rfl⟩) ?_ 5 (by omega) rfl ?_ rfl rfl rfl rfl rfl rfl rfl ?_; (focus kernel_rfl); (focus kernel_rfl); refine AWP.runL e tab_ok L20 300 rfl (by first | trivial | (simp [in64] <;> omega) | (simp only [in64, true_and, and_true]; omega)) ?_)
      )
    refine AWP.strBytes e tab_ok rfl rfl rfl rfl rfl rfl rfl rfl (by rw [hsz]; omega) fun C hC => ?_
    rw [hsz, strL_dat]
    rw [hsz] at hC
    refine AWP.runL e tab_ok L20 300 rfl (by first | trivial | (simp [in64] <;> omega) | (simp only [in64, true_and, and_true]; omega)) ?_
    rw [hlen]
    refine AWP.loop (ι := Nat) (fun i => ⟨[(16, .i i), (15, .i ks.length), (14, intsV ks), (6, .own 0 1 0 l.length C)], [(0, .row 5 true 1 ((flipL l (ks.take i)).map u8S) C)], 1⟩) (fun i => i ≤ ks.length ∧ (ks.take i).all (inN l.length) = true) (fun i => ks.length - i) 0 ⟨Nat.zero_le _, rfl⟩ ?_ ?_
    · intro g
      refine AWP.less e ?_ ?_ ?_ ?_ ?_ (g) <;> (repeat' (first | exact True.intro | (refine And.intro ?_ ?_) | rfl | assumption))
      exact u8_ids _ 1
    rintro i Φ ⟨hi, hg⟩ next
    have hi : i ≤ ks.length := hi
    have hg : (ks.take i).all (inN l.length) = true := hg
    refine AWP.runL e tab_ok L20 300 rfl (by first | trivial | (simp [in64] <;> omega) | (simp only [in64, true_and, and_true]; omega)) ?_
    refine AWP.cond2 rfl (fun hlt => ?_) (fun hlt => ?_)
    · have hlt : i < ks.length := by simpa using hlt
      have nx := next (i + 1)
      have key : (ks.take (i + 1)).all (inN l.length) = inN l.length ks[i] := by
        rw [List.take_succ_eq_append_getElem hlt, List.all_append, hg, Bool.true_and, List.all_cons, List.all_nil, Bool.and_true]
      rw [flipL_succ l hlt, key] at nx
      have bad : inN l.length ks[i] = false → ks.all (inN l.length) = false := fun h => List.all_eq_false.2 ⟨_, List.getElem_mem hlt, by rw [h]; decide⟩
      have ho : (flipL l (ks.take i)).length = l.length := flipL_len _ _
      refine AWP.runL e tab_ok L20 300 rfl (by first | trivial | (simp [in64] <;> omega) | (simp only [in64, true_and, and_true]; omega)) ?_
      refine AWP.idx_elt i e tab_ok rfl rfl rfl rfl rfl (ints_at hlt) ?_
      generalize ks[i] = q at *
      generalize flipL l (ks.take i) = o at *
      by_cases h0 : q < 0
      · rw [bad (by unfold inN; simp; omega)] at hP
        refine AWP.runL e tab_ok L20 300 rfl (by first | trivial | (simp [in64] <;> omega) | (simp only [in64, true_and, and_true]; omega)) ?_
        repeat (
          first
            | (refine AWP.askT rfl ?_; (first | (refine Told.t rfl ?_) | (refine Told.f rfl ?_) | (refine Told.t ?_ ?_; (focus assumption)) | (refine Told.f ?_ ?_; (focus assumption)) | (refine Told.t ?_ ?_; (focus (first | (simp; omega) | (simp [*]; done)); done)) | (refine Told.f ?_ ?_; (focus (first | (simp; omega) | (simp [*]; done)); done))); refine AWP.runL e tab_ok L20 300 rfl (by first | trivial | (simp [in64] <;> omega) | (simp only [in64, true_and, and_true]; omega)) ?_)
            | (refine AWP.eq_agg e tab_ok rfl rfl rfl (.inl ⟨rfl, rfl⟩) ?_ 5 (by omega) rfl ?_ rfl rfl rfl rfl rfl rfl rfl ?_; (focus kernel_rfl); (focus kernel_rfl); refine AWP.runL e tab_ok L20 300 rfl (by first | trivial | (simp [in64] <;> omega) | (simp only [in64, true_and, and_true]; omega)) ?_)
            | (refine AWP.eq_agg e tab_ok rfl rfl rfl (.inr ⟨rfl, rfl⟩) ?_ 5 (by omega) rfl ?_ rfl rfl rfl rfl rfl rfl rfl ?_; (focus kernel_rfl); (focus kernel_rfl); refine AWP.runL e tab_ok L20 300 rfl (by first | trivial | (simp [in64] <;> omega) | (simp only [in64, true_and, and_true]; omega)) ?_)
          )
        refine AWP.ret e tab_ok rfl ?_
        rw [hP]
        all_goals first | rfl | (simp [strip]; done)
      · by_cases h1 : q < l.length
        · obtain ⟨q, rfl⟩ : ∃ k : Nat, q = k := ⟨q.toNat, by omega⟩
          have nx := nx ⟨hlt, by unfold inN; simp; omega⟩ (by show ks.length - (i + 1) < ks.length - i; omega)
          rw [Int.toNat_natCast] at nx
          have hq : q < o.length := by omega
          clear next bad key
          refine AWP.runL e tab_ok L20 300 rfl (by first | trivial | (simp [in64] <;> omega) | (simp only [in64, true_and, and_true]; omega)) ?_
          repeat (
            first
              | (refine AWP.askT rfl ?_; (first | (refine Told.t rfl ?_) | (refine Told.f rfl ?_) | (refine Told.t ?_ ?_; (focus assumption)) | (refine Told.f ?_ ?_; (focus assumption)) | (refine Told.t ?_ ?_; (focus (first | (simp; omega) | (simp [*]; done)); done)) | (refine Told.f ?_ ?_; (focus (first | (simp; omega) | (simp [*]; done)); done))); refine AWP.runL e tab_ok L20 300 rfl (by first | trivial | (simp [in64] <;> omega) | (simp only [in64, true_and, and_true]; omega)) ?_)
              | (refine AWP.eq_agg e tab_ok rfl rfl rfl (.inl ⟨rfl, rfl⟩) ?_ 5 (by omega) rfl ?_ rfl rfl rfl rfl rfl rfl rfl ?_; (focus kernel_rfl); (focus kernel_rfl); refine AWP.runL e tab_ok L20 300 rfl (by first | trivial | (simp [in64] <;> omega) | (simp only [in64, true_and, and_true]; omega)) ?_)
              | (refine AWP.eq_agg e tab_ok rfl rfl rfl (.inr ⟨rfl, rfl⟩) ?_ 5 (by omega) rfl ?_ rfl rfl rfl rfl rfl rfl rfl ?_; (focus kernel_rfl); (focus kernel_rfl); refine AWP.runL e tab_ok L20 300 rfl (by first | trivial | (simp [in64] <;> omega) | (simp only [in64, true_and, and_true]; omega)) ?_)
            )
          refine AWP.idx_own e tab_ok rfl rfl rfl rfl q rfl (by omega) ?_
          refine AWP.load_el e tab_ok rfl rfl rfl rfl (by rw [Nat.zero_add]; exact u8_at o hq) rfl ?_
          refine AWP.runL e tab_ok L20 300 rfl (by first | trivial | (simp [in64] <;> omega) | (simp only [in64, true_and, and_true]; omega)) ?_
          refine AWP.eqT 32 (U (o.getD q 0 ^^^ 1)) rfl (congrArg (fun z => SV.d (.v (.int .u8 z))) (xor_1 _)) ?_
          refine AWP.idx_own e tab_ok rfl rfl rfl rfl q rfl (by omega) ?_
          refine AWP.runL e tab_ok L20 300 rfl (by first | trivial | (simp [in64] <;> omega) | (simp only [in64, true_and, and_true]; omega)) ?_
          refine AWP.store_el e tab_ok rfl rfl rfl rfl rfl (by rw [Nat.zero_add]; exact u8_at o hq) rfl rfl rfl rfl ?_
          refine AWP.runL e tab_ok L20 300 rfl (by first | trivial | (simp [in64] <;> omega) | (simp only [in64, true_and, and_true]; omega)) ?_
          refine AWP.less e ?_ ?_ ?_ ?_ ?_ (nx) <;> (repeat' (first | exact True.intro | (refine And.intro ?_ ?_) | rfl | assumption))
          · rw [Nat.zero_add, u8_set]
            rfl
          · exact u8_ids _ 1
        · rw [bad (by unfold inN; simp; omega)] at hP
          refine AWP.runL e tab_ok L20 300 rfl (by first | trivial | (simp [in64] <;> omega) | (simp only [in64, true_and, and_true]; omega)) ?_
          repeat (
            first
              | (refine AWP.askT rfl ?_; (first | (refine Told.t rfl ?_) | (refine Told.f rfl ?_) | (refine Told.t ?_ ?_; (focus assumption)) | (refine Told.f ?_ ?_; (focus assumption)) | (refine Told.t ?_ ?_; (focus (first | (simp; omega) | (simp [*]; done)); done)) | (refine Told.f ?_ ?_; (focus (first | (simp; omega) | (simp [*]; done)); done))); refine AWP.runL e tab_ok L20 300 rfl (by first | trivial | (simp [in64] <;> omega) | (simp only [in64, true_and, and_true]; omega)) ?_)
              | (refine AWP.eq_agg e tab_ok rfl rfl rfl (.inl ⟨rfl, rfl⟩) ?_ 5 (by omega) rfl ?_ rfl rfl rfl rfl rfl rfl rfl ?_; (focus kernel_rfl); (focus kernel_rfl); refine AWP.runL e tab_ok L20 300 rfl (by first | trivial | (simp [in64] <;> omega) | (simp only [in64, true_and, and_true]; omega)) ?_)
              | (refine AWP.eq_agg e tab_ok rfl rfl rfl (.inr ⟨rfl, rfl⟩) ?_ 5 (by omega) rfl ?_ rfl rfl rfl rfl rfl rfl rfl ?_; (focus kernel_rfl); (focus kernel_rfl); refine AWP.runL e tab_ok L20 300 rfl (by first | trivial | (simp [in64] <;> omega) | (simp only [in64, true_and, and_true]; omega)) ?_)
            )
          refine AWP.ret e tab_ok rfl ?_
          rw [hP]
          all_goals first | rfl | (simp [strip]; done)
    · have hlt : ¬ i < ks.length := by simpa using hlt
      obtain rfl : i = ks.length := by omega
      rw [List.take_length] at hg
      rw [hg] at hP
      refine AWP.runL e tab_ok L20 300 rfl (by first | trivial | (simp [in64] <;> omega) | (simp only [in64, true_and, and_true]; omega)) ?_
      refine AWP.bytesStr e tab_ok (flipL l ks) rfl rfl rfl rfl rfl rfl rfl rfl rfl ?_ ?_ ?_
      · rw [flipL_len]
      · intro q b hb
        rw [List.take_length, Nat.zero_add, List.getElem?_map, hb]
        rfl
      refine AWP.runL e tab_ok L20 300 rfl (by first | trivial | (simp [in64] <;> omega) | (simp only [in64, true_and, and_true]; omega)) ?_
      refine AWP.ret e tab_ok rfl ?_
      rw [hP]
      all_goals first | rfl | (simp [strip]; done)
  · rw [hw] at c1
    rw [hw, Bool.false_and] at hP
    refine AWP.runL e tab_ok L20 300 rfl (by first | trivial | (simp [in64] <;> omega) | (simp only [in64, true_and, and_true]; omega)) ?_
    repeat (
      first
        | (refine AWP.askT rfl ?_; (first | (refine Told.t rfl ?_) | (refine Told.f rfl ?_) | (refine Told.t ?_ ?_; (focus assumption)) | (refine Told.f ?_ ?_; (focus assumption)) | (refine Told.t ?_ ?_; (focus (first | (simp; omega) | (simp [*]; done)); done)) | (refine Told.f ?_ ?_; (focus (first | (simp; omega) | (simp [*]; done)); done))); refine AWP.runL e tab_ok L20 300 rfl (by first | trivial | (simp [in64] <;> omega) | (simp only [in64, true_and, and_true]; omega)) ?_)
        | (refine AWP.callQ e rfl rfl ?_; (first | refine CallQ.mk (c1) rfl rfl ?_); refine AWP.runL e tab_ok L20 300 rfl (by first | trivial | (simp [in64] <;> omega) | (simp only [in64, true_and, and_true]; omega)) ?_)
        | (refine AWP.eq_agg e tab_ok rfl rfl rfl (.inl ⟨rfl, rfl⟩) ?_ 5 (by omega) rfl ?_ rfl rfl rfl rfl rfl rfl rfl ?_; (focus kernel_rfl); (focus kernel_rfl); refine AWP.runL e tab_ok L20 300 rfl (by first | trivial | (simp [in64] <;> omega) | (simp only [in64, true_and, and_true]; omega)) ?_)
        | (refine AWP.eq_agg e tab_ok rfl rfl rfl (.inr ⟨rfl, rfl⟩) ?_ 5 (by omega) rfl ?_ rfl rfl rfl rfl rfl rfl rfl ?_; (focus kernel_rfl); (focus kernel_rfl); refine AWP.runL e tab_ok L20 300 rfl (by first | trivial | (simp [in64] <;> omega) | (simp only [in64, true_and, and_true]; omega)) ?_)
      )
    refine AWP.ret e tab_ok rfl ?_
    rw [hP]
    all_goals first | rfl | (simp [strip]; done)

/-- The reference's. -/
theorem str_take (l : List UInt8) (i : Nat) (h : i ≤ l.length) : (strL l).extract 0 i = strL (l.take i) := by
  apply ByteArray.ext
  simp [strL]
theorem str_drop (l : List UInt8) (i : Nat) : (strL l).extract i l.length = strL (l.drop i) := by
  apply ByteArray.ext
  simp [strL]
  exact List.take_of_length_le (by simp)
def opp (c : UInt8) : UInt8 := if c == 48 then 49 else 48
theorem turn_join (l : List UInt8) {i : Nat} (h : i < l.length) (c : UInt8) : (strL l).extract 0 i ++ strL [c] ++ (strL l).extract (i + 1) l.length = strL (l.set i c) := by
  rw [str_take l i (by omega), str_drop, str_app, str_app]
  congr 1
  rw [List.set_eq_take_append_cons_drop, if_pos h]
  simp
set_option maxRecDepth 100000 in
theorem turn_eff (l : List UInt8) (i : Nat) (hi : i < l.length) (hl : l.length ≤ 1000000) : Eff Tryd.prog 22 [.s (strL l), .i i] [] 0 (fun r _ _ => r = .s (strL (l.set i (opp (l.getD i 0))))) := by
  have hsz : (strL l).size = l.length := strL_size l
  have hz1 : (ByteArray.mk #[49]).size = 1 := rfl
  have hz0 : (ByteArray.mk #[48]).size = 1 := rfl
  have hq1 : ((strL l).extract 0 i).size = i := by rw [str_take l i (by omega), strL_size, List.length_take]; omega
  have hq2 : ((strL l).extract (i + 1) l.length).size = l.length - (i + 1) := by rw [str_drop, strL_size, List.length_drop]
  have hb : byteAt (strL l) i = ((l.getD i 0).toNat : Int) := by
    rw [b_at l i hi, List.getD_eq_getElem?_getD, List.getElem?_eq_getElem hi]; rfl
  have h1 : (byteAt (strL l) i == 48) = (l.getD i 0 == 48) := by rw [hb]; exact u_eq _ 48
  have tj : ∀ c, (strL l).extract 0 i ++ strL [c] ++ (strL l).extract (i + 1) (strL l).size = strL (l.set i c) := fun c => by rw [hsz]; exact turn_join l hi c
  unfold opp
  generalize l.getD i 0 = c at *
  refine eff_of Tryd.func22 rfl rfl rfl fun cx e hP => ?_
  rcases cases_b (c == 48) with h | h <;> rw [h] at h1 hP
  · refine AWP.runL e tab_ok L22 300 rfl (by first | trivial | (simp [] <;> omega) | (simp only [in64, true_and, and_true]; omega)) ?_
    repeat (
      first
        | (refine AWP.askT rfl ?_; (first | (refine Told.t rfl ?_) | (refine Told.f rfl ?_) | (refine Told.t ?_ ?_; (focus assumption)) | (refine Told.f ?_ ?_; (focus assumption)) | (refine Told.t ?_ ?_; (focus (first | (simp; omega) | (simp [*]; done)); done)) | (refine Told.f ?_ ?_; (focus (first | (simp; omega) | (simp [*]; done)); done))); refine AWP.runL e tab_ok L22 300 rfl (by first | trivial | (simp [in64] <;> omega) | (simp only [in64, true_and, and_true]; omega)) ?_)
        | (refine AWP.eq_agg e tab_ok rfl rfl rfl (.inl ⟨rfl, rfl⟩) ?_ 5 (by omega) rfl ?_ rfl rfl rfl rfl rfl rfl rfl ?_; (focus kernel_rfl); (focus kernel_rfl); refine AWP.runL e tab_ok L22 300 rfl (by first | trivial | (simp [in64] <;> omega) | (simp only [in64, true_and, and_true]; omega)) ?_)
        | (refine AWP.eq_agg e tab_ok rfl rfl rfl (.inr ⟨rfl, rfl⟩) ?_ 5 (by omega) rfl ?_ rfl rfl rfl rfl rfl rfl rfl ?_; (focus kernel_rfl); (focus kernel_rfl); refine AWP.runL e tab_ok L22 300 rfl (by first | trivial | (simp [in64] <;> omega) | (simp only [in64, true_and, and_true]; omega)) ?_)
      )
    refine AWP.keep L22 rfl ?_
    refine AWP.drg 9 ?_
    (refine DrG.runS e tab_ok 200 rfl (by first | trivial | (simp [in64] <;> omega) | (simp only [in64, true_and, and_true]; omega)) ?_)
    repeat (
      first
        | (refine DrG.askT rfl ?_; (first | (refine Told.t rfl ?_) | (refine Told.f rfl ?_) | (refine Told.t ?_ ?_; (focus assumption)) | (refine Told.f ?_ ?_; (focus assumption)) | (refine Told.t ?_ ?_; (focus (first | (simp; omega) | (simp [*]; done)); done)) | (refine Told.f ?_ ?_; (focus (first | (simp; omega) | (simp [*]; done)); done))); (refine DrG.runS e tab_ok 200 rfl (by first | trivial | (simp [in64] <;> omega) | (simp only [in64, true_and, and_true]; omega)) ?_))
        | (refine DrG.eq_agg e tab_ok rfl rfl rfl (.inl ⟨rfl, rfl⟩) ?_ 5 (by omega) rfl ?_ rfl rfl rfl rfl rfl rfl rfl ?_; (focus kernel_rfl); (focus kernel_rfl); (refine DrG.runS e tab_ok 200 rfl (by first | trivial | (simp [in64] <;> omega) | (simp only [in64, true_and, and_true]; omega)) ?_))
        | (refine DrG.eq_aggGo e tab_ok rfl rfl rfl rfl (.inl ⟨rfl, rfl⟩) ?_ 5 (by omega) rfl ?_ rfl rfl rfl rfl rfl rfl rfl ?_; (focus kernel_rfl); (focus kernel_rfl); (refine DrG.runS e tab_ok 200 rfl (by first | trivial | (simp [in64] <;> omega) | (simp only [in64, true_and, and_true]; omega)) ?_))
        | (refine DrG.eq_agg e tab_ok rfl rfl rfl (.inr ⟨rfl, rfl⟩) ?_ 5 (by omega) rfl ?_ rfl rfl rfl rfl rfl rfl rfl ?_; (focus kernel_rfl); (focus kernel_rfl); (refine DrG.runS e tab_ok 200 rfl (by first | trivial | (simp [in64] <;> omega) | (simp only [in64, true_and, and_true]; omega)) ?_))
        | (refine DrG.eq_aggGo e tab_ok rfl rfl rfl rfl (.inr ⟨rfl, rfl⟩) ?_ 5 (by omega) rfl ?_ rfl rfl rfl rfl rfl rfl rfl ?_; (focus kernel_rfl); (focus kernel_rfl); (refine DrG.runS e tab_ok 200 rfl (by first | trivial | (simp [in64] <;> omega) | (simp only [in64, true_and, and_true]; omega)) ?_))
      )
    refine DrG.finK e rfl ?_ rfl rfl rfl ?_ ?_
    (focus kernel_rfl)
    (focus (repeat' (first | exact True.intro | (refine And.intro ?_ ?_) | rfl | assumption | exact okRow _)))
    dsimp only [tmS, hpS, tput, effH]
    refine AWP.eqT 4 (.s (strL (l.set i 49))) rfl (congrArg SV.s (tj 49)) ?_
    refine AWP.ret e tab_ok rfl ?_
    rw [hP]
    all_goals first | rfl | (simp [strip]; done)
  · refine AWP.runL e tab_ok L22 300 rfl (by first | trivial | (simp [] <;> omega) | (simp only [in64, true_and, and_true]; omega)) ?_
    repeat (
      first
        | (refine AWP.askT rfl ?_; (first | (refine Told.t rfl ?_) | (refine Told.f rfl ?_) | (refine Told.t ?_ ?_; (focus assumption)) | (refine Told.f ?_ ?_; (focus assumption)) | (refine Told.t ?_ ?_; (focus (first | (simp; omega) | (simp [*]; done)); done)) | (refine Told.f ?_ ?_; (focus (first | (simp; omega) | (simp [*]; done)); done))); refine AWP.runL e tab_ok L22 300 rfl (by first | trivial | (simp [in64] <;> omega) | (simp only [in64, true_and, and_true]; omega)) ?_)
        | (refine AWP.eq_agg e tab_ok rfl rfl rfl (.inl ⟨rfl, rfl⟩) ?_ 5 (by omega) rfl ?_ rfl rfl rfl rfl rfl rfl rfl ?_; (focus kernel_rfl); (focus kernel_rfl); refine AWP.runL e tab_ok L22 300 rfl (by first | trivial | (simp [in64] <;> omega) | (simp only [in64, true_and, and_true]; omega)) ?_)
        | (refine AWP.eq_agg e tab_ok rfl rfl rfl (.inr ⟨rfl, rfl⟩) ?_ 5 (by omega) rfl ?_ rfl rfl rfl rfl rfl rfl rfl ?_; (focus kernel_rfl); (focus kernel_rfl); refine AWP.runL e tab_ok L22 300 rfl (by first | trivial | (simp [in64] <;> omega) | (simp only [in64, true_and, and_true]; omega)) ?_)
      )
    refine AWP.keep L22 rfl ?_
    refine AWP.drg 9 ?_
    (refine DrG.runS e tab_ok 200 rfl (by first | trivial | (simp [in64] <;> omega) | (simp only [in64, true_and, and_true]; omega)) ?_)
    repeat (
      first
        | (refine DrG.askT rfl ?_; (first | (refine Told.t rfl ?_) | (refine Told.f rfl ?_) | (refine Told.t ?_ ?_; (focus assumption)) | (refine Told.f ?_ ?_; (focus assumption)) | (refine Told.t ?_ ?_; (focus (first | (simp; omega) | (simp [*]; done)); done)) | (refine Told.f ?_ ?_; (focus (first | (simp; omega) | (simp [*]; done)); done))); (refine DrG.runS e tab_ok 200 rfl (by first | trivial | (simp [in64] <;> omega) | (simp only [in64, true_and, and_true]; omega)) ?_))
        | (refine DrG.eq_agg e tab_ok rfl rfl rfl (.inl ⟨rfl, rfl⟩) ?_ 5 (by omega) rfl ?_ rfl rfl rfl rfl rfl rfl rfl ?_; (focus kernel_rfl); (focus kernel_rfl); (refine DrG.runS e tab_ok 200 rfl (by first | trivial | (simp [in64] <;> omega) | (simp only [in64, true_and, and_true]; omega)) ?_))
        | (refine DrG.eq_aggGo e tab_ok rfl rfl rfl rfl (.inl ⟨rfl, rfl⟩) ?_ 5 (by omega) rfl ?_ rfl rfl rfl rfl rfl rfl rfl ?_; (focus kernel_rfl); (focus kernel_rfl); (refine DrG.runS e tab_ok 200 rfl (by first | trivial | (simp [in64] <;> omega) | (simp only [in64, true_and, and_true]; omega)) ?_))
        | (refine DrG.eq_agg e tab_ok rfl rfl rfl (.inr ⟨rfl, rfl⟩) ?_ 5 (by omega) rfl ?_ rfl rfl rfl rfl rfl rfl rfl ?_; (focus kernel_rfl); (focus kernel_rfl); (refine DrG.runS e tab_ok 200 rfl (by first | trivial | (simp [in64] <;> omega) | (simp only [in64, true_and, and_true]; omega)) ?_))
        | (refine DrG.eq_aggGo e tab_ok rfl rfl rfl rfl (.inr ⟨rfl, rfl⟩) ?_ 5 (by omega) rfl ?_ rfl rfl rfl rfl rfl rfl rfl ?_; (focus kernel_rfl); (focus kernel_rfl); (refine DrG.runS e tab_ok 200 rfl (by first | trivial | (simp [in64] <;> omega) | (simp only [in64, true_and, and_true]; omega)) ?_))
      )
    refine DrG.finK e rfl ?_ rfl rfl rfl ?_ ?_
    (focus kernel_rfl)
    (focus (repeat' (first | exact True.intro | (refine And.intro ?_ ?_) | rfl | assumption | exact okRow _)))
    dsimp only [tmS, hpS, tput, effH]
    refine AWP.eqT 4 (.s (strL (l.set i 48))) rfl (congrArg SV.s (tj 48)) ?_
    refine AWP.ret e tab_ok rfl ?_
    rw [hP]
    all_goals first | rfl | (simp [strip]; done)
end Go.Proofs.YtclmbbcchgfedaaDoor
