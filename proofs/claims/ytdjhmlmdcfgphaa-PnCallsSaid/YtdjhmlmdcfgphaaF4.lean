import Derived.Test.YtdjhmlmdcfgphaaF3
open Go Go.Proofs Go.Sy
namespace Go.Proofs.Ytdjhmlmdcfgphaa

theorem half (n : BitVec 16) (j : Nat) : IntKind.wrap .u16 (Int.tdiv (((n >>> j).toNat : Nat) : Int) 2) = ((n >>> (j + 1)).toNat : Int) := by
  have : Int.tdiv (((n >>> j).toNat : Nat) : Int) 2 = ((n >>> (j + 1)).toNat : Int) := by
    rw [Int.tdiv_eq_ediv_of_nonneg (by omega)]
    rw [BitVec.toNat_ushiftRight, BitVec.toNat_ushiftRight, Nat.shiftRight_succ]
    rfl
  rw [this, u16w]
theorem odd (n : BitVec 16) (j : Nat) : ((Int.tmod (((n >>> j).toNat : Nat) : Int) 2) == 1) = n.getLsbD j := by
  have h1 : Int.tmod (((n >>> j).toNat : Nat) : Int) 2 = (((n >>> j).toNat % 2 : Nat) : Int) := by
    rw [Int.tmod_eq_emod_of_nonneg (by omega)]; rfl
  rw [h1, BitVec.toNat_ushiftRight, BitVec.getLsbD, Nat.testBit, Bool.eq_iff_iff, beq_iff_eq, Nat.and_comm, Nat.and_one_is_mod, bne_iff_ne]
  omega

set_option maxRecDepth 100000 in
theorem rbit_eff (n : BitVec 16) (i : Nat) (hi : i < 16) : Eff Try.prog 10 [U16 n, .i i] [] 0 (fun r _ _ => r = .b (n.getLsbD i)) := by
  refine eff_of Try.func10 rfl rfl rfl fun cx e hP => ?_
  refine AWP.runL e tab_ok L10 300 rfl (by first | trivial | (simp [in64] <;> omega)) ?_
  refine AWP.loop (ι := Nat) (fun j => ⟨[(5, .i j), (0, U16 (n >>> j)), (1, .i i)], [], 0⟩) (fun j => j ≤ i) (fun j => i - j) 0 (Nat.zero_le _) ?_ ?_
  · intro g
    refine AWP.less e ?_ ?_ ?_ ?_ ?_ (g) <;> (repeat' (first | exact True.intro | (refine And.intro ?_ ?_) | rfl | assumption))
  rintro j Φ hI next
  have hI : j ≤ i := hI
  refine AWP.runL e tab_ok L10 300 rfl (by first | trivial | (simp [in64] <;> omega)) ?_
  refine AWP.cond2 rfl (fun hlt => ?_) (fun hlt => ?_)
  · have hlt : j < i := by simp at hlt; omega
    refine AWP.runL e tab_ok L10 300 rfl (by first | trivial | (simp [in64] <;> omega)) ?_
    refine AWP.eqT 0 (U16 (n >>> (j + 1))) rfl (congrArg (fun z => SV.d (.v (.int .u16 z))) (half n j)) ?_
    refine AWP.less e ?_ ?_ ?_ ?_ ?_ (next (j + 1) hlt (by show i - (j + 1) < i - j; omega)) <;> (repeat' (first | exact True.intro | (refine And.intro ?_ ?_) | rfl | assumption))
  · obtain rfl : j = i := by simp at hlt; omega
    refine AWP.runL e tab_ok L10 300 rfl (by first | trivial | (simp [in64] <;> omega)) ?_
    refine AWP.ret e tab_ok rfl ?_
    rw [hP]
    exact congrArg SV.b (odd n j)

abbrev byteB (s : ByteArray) (i : Nat) : BitVec 8 := (s.data.toList.getD i 0).toBitVec
def toldB (s : ByteArray) : BitVec 16 := (byteB s 0).setWidth 16 ||| ((byteB s 1).setWidth 16 <<< 8)
theorem up16 (x : BitVec 8) : IntKind.wrap .u16 (x.toNat : Int) = ((x.setWidth 16).toNat : Int) := by
  have h := x.isLt
  rw [wrapN .u16 rfl, BitVec.toNat_setWidth]
  rfl
theorem or_val (x y : BitVec 16) : (IntKind.wrap .u16 ((BitVec.ofInt 16 (x.toNat : Int) ||| BitVec.ofInt 16 (y.toNat : Int)).toNat : Int)) = ((x ||| y).toNat : Int) := by
  rw [ofInt_toNat, ofInt_toNat, u16w]
theorem told_val (s : ByteArray) : (IntKind.wrap .u16 ((BitVec.ofInt 16 (IntKind.wrap .u16 ((byteB s 0).toNat : Int)) ||| BitVec.ofInt 16 (IntKind.wrap .u16 ((IntKind.wrap .u16 ((byteB s 1).toNat : Int)) * 2 ^ (min (((8 : Nat)) : Int).toNat 16)))).toNat : Int)) = ((toldB s).toNat : Int) := by
  rw [up16, up16, u16shl, or_val]
  rfl

set_option maxRecDepth 100000 in
theorem told_ok (s : ByteArray) (h : 2 ≤ s.size) : Eff Try.prog 17 [.s s] [] 0 (fun r _ _ => r = .tup [U16 (toldB s), .i 0]) := by
  refine eff_of Try.func17 rfl rfl rfl fun cx e hP => ?_
  refine AWP.runL e tab_ok L17 300 rfl (by first | trivial | (simp [in64] <;> omega)) ?_
  repeat (
    first
      | (refine AWP.askT rfl ?_; (first | (refine Told.t rfl ?_) | (refine Told.f rfl ?_) | (refine Told.t ?_ ?_; (focus (first | assumption | (simp; omega) | (simp [*]; done)); done)) | (refine Told.f ?_ ?_; (focus (first | assumption | (simp; omega) | (simp [*]; done)); done))); refine AWP.runL e tab_ok L17 300 rfl (by first | trivial | (simp [in64] <;> omega)) ?_)
      | (refine AWP.eq_agg e tab_ok rfl rfl rfl (.inl ⟨rfl, rfl⟩) ?_ 5 (by omega) rfl ?_ rfl rfl rfl rfl rfl rfl rfl ?_; (focus kernel_rfl); (focus kernel_rfl); refine AWP.runL e tab_ok L17 300 rfl (by first | trivial | (simp [in64] <;> omega)) ?_)
      | (refine AWP.eq_agg e tab_ok rfl rfl rfl (.inr ⟨rfl, rfl⟩) ?_ 5 (by omega) rfl ?_ rfl rfl rfl rfl rfl rfl rfl ?_; (focus kernel_rfl); (focus kernel_rfl); refine AWP.runL e tab_ok L17 300 rfl (by first | trivial | (simp [in64] <;> omega)) ?_)
      | (refine AWP.keep L17 rfl ?_; refine AWP.drg 100 ?_; (refine DrG.runS e tab_ok 200 rfl (by first | trivial | (simp [] <;> omega)) ?_); (repeat (first | (refine DrG.askT rfl ?_; (first | (refine Told.t rfl ?_) | (refine Told.f rfl ?_) | (refine Told.t ?_ ?_; (focus (first | assumption | (simp; omega) | (simp [*]; done)); done)) | (refine Told.f ?_ ?_; (focus (first | assumption | (simp; omega) | (simp [*]; done)); done))); (refine DrG.runS e tab_ok 200 rfl (by first | trivial | (simp [in64] <;> omega)) ?_)) | (refine DrG.eq_agg e tab_ok rfl rfl rfl (.inl ⟨rfl, rfl⟩) ?_ 5 (by omega) rfl ?_ rfl rfl rfl rfl rfl rfl rfl ?_; (focus kernel_rfl); (focus kernel_rfl); (refine DrG.runS e tab_ok 200 rfl (by first | trivial | (simp [in64] <;> omega)) ?_)) | (refine DrG.eq_aggGo e tab_ok rfl rfl rfl rfl (.inl ⟨rfl, rfl⟩) ?_ 5 (by omega) rfl ?_ rfl rfl rfl rfl rfl rfl rfl ?_; (focus kernel_rfl); (focus kernel_rfl); (refine DrG.runS e tab_ok 200 rfl (by first | trivial | (simp [in64] <;> omega)) ?_)) | (refine DrG.eq_agg e tab_ok rfl rfl rfl (.inr ⟨rfl, rfl⟩) ?_ 5 (by omega) rfl ?_ rfl rfl rfl rfl rfl rfl rfl ?_; (focus kernel_rfl); (focus kernel_rfl); (refine DrG.runS e tab_ok 200 rfl (by first | trivial | (simp [in64] <;> omega)) ?_)) | (refine DrG.eq_aggGo e tab_ok rfl rfl rfl rfl (.inr ⟨rfl, rfl⟩) ?_ 5 (by omega) rfl ?_ rfl rfl rfl rfl rfl rfl rfl ?_; (focus kernel_rfl); (focus kernel_rfl); (refine DrG.runS e tab_ok 200 rfl (by first | trivial | (simp [in64] <;> omega)) ?_)))); refine DrG.finK e rfl ?_ rfl rfl rfl ?_ ?_; (focus kernel_rfl); (focus (repeat' (first | exact True.intro | (refine And.intro ?_ ?_) | rfl | assumption | exact okRow _))); dsimp only [tmS, hpS, tput, effH]; refine AWP.runL e tab_ok L17 300 rfl (by first | trivial | (simp [in64] <;> omega)) ?_)
    )
  refine AWP.ret e tab_ok rfl ?_
  rw [hP]
  exact congrArg (fun z => SV.tup [.d (.v (.int .u16 z)), .i 0]) (told_val s)

set_option maxRecDepth 100000 in
theorem told_short (s : ByteArray) (h : s.size < 2) : Eff Try.prog 17 [.s s] [] 0 (fun r _ _ => r = .tup [U16 0#16, .i 23]) := by
  refine eff_of Try.func17 rfl rfl rfl fun cx e hP => ?_
  refine AWP.runL e tab_ok L17 300 rfl (by first | trivial | (simp [in64] <;> omega)) ?_
  repeat (
    first
      | (refine AWP.askT rfl ?_; (first | (refine Told.t rfl ?_) | (refine Told.f rfl ?_) | (refine Told.t ?_ ?_; (focus (first | assumption | (simp; omega) | (simp [*]; done)); done)) | (refine Told.f ?_ ?_; (focus (first | assumption | (simp; omega) | (simp [*]; done)); done))); refine AWP.runL e tab_ok L17 300 rfl (by first | trivial | (simp [in64] <;> omega)) ?_)
      | (refine AWP.eq_agg e tab_ok rfl rfl rfl (.inl ⟨rfl, rfl⟩) ?_ 5 (by omega) rfl ?_ rfl rfl rfl rfl rfl rfl rfl ?_; (focus kernel_rfl); (focus kernel_rfl); refine AWP.runL e tab_ok L17 300 rfl (by first | trivial | (simp [in64] <;> omega)) ?_)
      | (refine AWP.eq_agg e tab_ok rfl rfl rfl (.inr ⟨rfl, rfl⟩) ?_ 5 (by omega) rfl ?_ rfl rfl rfl rfl rfl rfl rfl ?_; (focus kernel_rfl); (focus kernel_rfl); refine AWP.runL e tab_ok L17 300 rfl (by first | trivial | (simp [in64] <;> omega)) ?_)
    )
  refine AWP.ret e tab_ok rfl ?_
  rw [hP]
  all_goals first | rfl | (simp [strip]; done)

def toldN (s : ByteArray) : BitVec 16 := if 2 ≤ s.size then toldB s else 0#16
theorem ne0_val (x y : BitVec 16) : ((IntKind.wrap .u16 ((BitVec.ofInt 16 (x.toNat : Int) &&& BitVec.ofInt 16 (y.toNat : Int)).toNat : Int)) != 0) = !(x &&& y == 0#16) := by
  rw [and_val, bne]
  refine congrArg _ ?_
  rw [Bool.eq_iff_iff, beq_iff_eq, beq_iff_eq, bv_eq0]

set_option maxRecDepth 100000 in
theorem wakes_eff (m o : BitVec 16) (s : Nat → Int) (l : Int) (a : ByteArray) (h : rightB m o s l = true) : Eff Try.prog 15 [pn m o s l, .s a] [] 0 (fun r _ _ => r = .b (!(toldN a &&& m == 0#16))) := by
  have hr := right_eff m o s l
  rw [h] at hr
  refine eff_of Try.func15 rfl rfl rfl fun cx e hP => ?_
  unfold toldN at hP
  by_cases h2 : 2 ≤ a.size
  · have ht := told_ok a h2
    rw [if_pos h2] at hP
    refine AWP.runL e tab_ok L15 300 rfl (by first | trivial | (simp [in64] <;> omega)) ?_
    repeat (
      first
        | (refine AWP.askT rfl ?_; (first | (refine Told.t rfl ?_) | (refine Told.f rfl ?_) | (refine Told.t ?_ ?_; (focus (first | assumption | (simp; omega) | (simp [*]; done)); done)) | (refine Told.f ?_ ?_; (focus (first | assumption | (simp; omega) | (simp [*]; done)); done))); refine AWP.runL e tab_ok L15 300 rfl (by first | trivial | (simp [in64] <;> omega)) ?_)
        | (refine AWP.callQ e rfl rfl ?_; (first | refine CallQ.mk (ht) rfl rfl ?_ | refine CallQ.mk (hr) rfl rfl ?_); refine AWP.runL e tab_ok L15 300 rfl (by first | trivial | (simp [in64] <;> omega)) ?_)
        | (refine AWP.eq_agg e tab_ok rfl rfl rfl (.inl ⟨rfl, rfl⟩) ?_ 5 (by omega) rfl ?_ rfl rfl rfl rfl rfl rfl rfl ?_; (focus kernel_rfl); (focus kernel_rfl); refine AWP.runL e tab_ok L15 300 rfl (by first | trivial | (simp [in64] <;> omega)) ?_)
        | (refine AWP.eq_agg e tab_ok rfl rfl rfl (.inr ⟨rfl, rfl⟩) ?_ 5 (by omega) rfl ?_ rfl rfl rfl rfl rfl rfl rfl ?_; (focus kernel_rfl); (focus kernel_rfl); refine AWP.runL e tab_ok L15 300 rfl (by first | trivial | (simp [in64] <;> omega)) ?_)
      )
    refine AWP.ret e tab_ok rfl ?_
    rw [hP]
    exact congrArg SV.b (ne0_val _ _)
  · have ht := told_short a (by omega)
    rw [if_neg h2] at hP
    refine AWP.runL e tab_ok L15 300 rfl (by first | trivial | (simp [in64] <;> omega)) ?_
    repeat (
      first
        | (refine AWP.askT rfl ?_; (first | (refine Told.t rfl ?_) | (refine Told.f rfl ?_) | (refine Told.t ?_ ?_; (focus (first | assumption | (simp; omega) | (simp [*]; done)); done)) | (refine Told.f ?_ ?_; (focus (first | assumption | (simp; omega) | (simp [*]; done)); done))); refine AWP.runL e tab_ok L15 300 rfl (by first | trivial | (simp [in64] <;> omega)) ?_)
        | (refine AWP.callQ e rfl rfl ?_; (first | refine CallQ.mk (ht) rfl rfl ?_ | refine CallQ.mk (hr) rfl rfl ?_); refine AWP.runL e tab_ok L15 300 rfl (by first | trivial | (simp [in64] <;> omega)) ?_)
        | (refine AWP.eq_agg e tab_ok rfl rfl rfl (.inl ⟨rfl, rfl⟩) ?_ 5 (by omega) rfl ?_ rfl rfl rfl rfl rfl rfl rfl ?_; (focus kernel_rfl); (focus kernel_rfl); refine AWP.runL e tab_ok L15 300 rfl (by first | trivial | (simp [in64] <;> omega)) ?_)
        | (refine AWP.eq_agg e tab_ok rfl rfl rfl (.inr ⟨rfl, rfl⟩) ?_ 5 (by omega) rfl ?_ rfl rfl rfl rfl rfl rfl rfl ?_; (focus kernel_rfl); (focus kernel_rfl); refine AWP.runL e tab_ok L15 300 rfl (by first | trivial | (simp [in64] <;> omega)) ?_)
      )
    refine AWP.ret e tab_ok rfl ?_
    rw [hP]
    exact congrArg SV.b (ne0_val _ _)

set_option maxRecDepth 100000 in
theorem wakes_bad (m o : BitVec 16) (s : Nat → Int) (l : Int) (a : ByteArray) (h : rightB m o s l = false) : Eff Try.prog 15 [pn m o s l, .s a] [] 0 (fun r _ _ => r = .b false) := by
  have hr := right_eff m o s l
  rw [h] at hr
  refine eff_of Try.func15 rfl rfl rfl fun cx e hP => ?_
  by_cases h2 : 2 ≤ a.size
  · have ht := told_ok a h2
    refine AWP.runL e tab_ok L15 300 rfl (by first | trivial | (simp [in64] <;> omega)) ?_
    repeat (
      first
        | (refine AWP.askT rfl ?_; (first | (refine Told.t rfl ?_) | (refine Told.f rfl ?_) | (refine Told.t ?_ ?_; (focus (first | assumption | (simp; omega) | (simp [*]; done)); done)) | (refine Told.f ?_ ?_; (focus (first | assumption | (simp; omega) | (simp [*]; done)); done))); refine AWP.runL e tab_ok L15 300 rfl (by first | trivial | (simp [in64] <;> omega)) ?_)
        | (refine AWP.callQ e rfl rfl ?_; (first | refine CallQ.mk (ht) rfl rfl ?_ | refine CallQ.mk (hr) rfl rfl ?_); refine AWP.runL e tab_ok L15 300 rfl (by first | trivial | (simp [in64] <;> omega)) ?_)
        | (refine AWP.eq_agg e tab_ok rfl rfl rfl (.inl ⟨rfl, rfl⟩) ?_ 5 (by omega) rfl ?_ rfl rfl rfl rfl rfl rfl rfl ?_; (focus kernel_rfl); (focus kernel_rfl); refine AWP.runL e tab_ok L15 300 rfl (by first | trivial | (simp [in64] <;> omega)) ?_)
        | (refine AWP.eq_agg e tab_ok rfl rfl rfl (.inr ⟨rfl, rfl⟩) ?_ 5 (by omega) rfl ?_ rfl rfl rfl rfl rfl rfl rfl ?_; (focus kernel_rfl); (focus kernel_rfl); refine AWP.runL e tab_ok L15 300 rfl (by first | trivial | (simp [in64] <;> omega)) ?_)
      )
    refine AWP.ret e tab_ok rfl ?_
    rw [hP]
    all_goals first | rfl | (simp [strip]; done)
  · have ht := told_short a (by omega)
    refine AWP.runL e tab_ok L15 300 rfl (by first | trivial | (simp [in64] <;> omega)) ?_
    repeat (
      first
        | (refine AWP.askT rfl ?_; (first | (refine Told.t rfl ?_) | (refine Told.f rfl ?_) | (refine Told.t ?_ ?_; (focus (first | assumption | (simp; omega) | (simp [*]; done)); done)) | (refine Told.f ?_ ?_; (focus (first | assumption | (simp; omega) | (simp [*]; done)); done))); refine AWP.runL e tab_ok L15 300 rfl (by first | trivial | (simp [in64] <;> omega)) ?_)
        | (refine AWP.callQ e rfl rfl ?_; (first | refine CallQ.mk (ht) rfl rfl ?_ | refine CallQ.mk (hr) rfl rfl ?_); refine AWP.runL e tab_ok L15 300 rfl (by first | trivial | (simp [in64] <;> omega)) ?_)
        | (refine AWP.eq_agg e tab_ok rfl rfl rfl (.inl ⟨rfl, rfl⟩) ?_ 5 (by omega) rfl ?_ rfl rfl rfl rfl rfl rfl rfl ?_; (focus kernel_rfl); (focus kernel_rfl); refine AWP.runL e tab_ok L15 300 rfl (by first | trivial | (simp [in64] <;> omega)) ?_)
        | (refine AWP.eq_agg e tab_ok rfl rfl rfl (.inr ⟨rfl, rfl⟩) ?_ 5 (by omega) rfl ?_ rfl rfl rfl rfl rfl rfl rfl ?_; (focus kernel_rfl); (focus kernel_rfl); refine AWP.runL e tab_ok L15 300 rfl (by first | trivial | (simp [in64] <;> omega)) ?_)
      )
    refine AWP.ret e tab_ok rfl ?_
    rw [hP]
    all_goals first | rfl | (simp [strip]; done)

def tellS (o : BitVec 16) : ByteArray := strL [⟨o.setWidth 8⟩, ⟨(o >>> 8).setWidth 8⟩]
theorem lo8 (x : BitVec 16) : IntKind.wrap .u8 (x.toNat : Int) = ((x.setWidth 8).toNat : Int) := by
  rw [wrapN .u8 rfl, BitVec.toNat_setWidth]
  rfl

set_option maxRecDepth 100000 in
theorem tell_ok (m o : BitVec 16) (s : Nat → Int) (l : Int) (h : rightB m o s l = true) : Eff Try.prog 16 [pn m o s l] [] 0 (fun r _ _ => r = .tup [.s (tellS o), .i 0]) := by
  have hr := right_eff m o s l
  rw [h] at hr
  refine eff_of Try.func16 rfl rfl rfl fun cx e hP => ?_
  refine AWP.runL e tab_ok L16 300 rfl (by first | trivial | (simp [in64] <;> omega)) ?_
  repeat (
    first
      | (refine AWP.askT rfl ?_; (first | (refine Told.t rfl ?_) | (refine Told.f rfl ?_) | (refine Told.t ?_ ?_; (focus (first | assumption | (simp; omega) | (simp [*]; done)); done)) | (refine Told.f ?_ ?_; (focus (first | assumption | (simp; omega) | (simp [*]; done)); done))); refine AWP.runL e tab_ok L16 300 rfl (by first | trivial | (simp [in64] <;> omega)) ?_)
      | (refine AWP.callQ e rfl rfl ?_; (first | refine CallQ.mk (hr) rfl rfl ?_); refine AWP.runL e tab_ok L16 300 rfl (by first | trivial | (simp [in64] <;> omega)) ?_)
      | (refine AWP.eq_agg e tab_ok rfl rfl rfl (.inl ⟨rfl, rfl⟩) ?_ 5 (by omega) rfl ?_ rfl rfl rfl rfl rfl rfl rfl ?_; (focus kernel_rfl); (focus kernel_rfl); refine AWP.runL e tab_ok L16 300 rfl (by first | trivial | (simp [in64] <;> omega)) ?_)
      | (refine AWP.eq_agg e tab_ok rfl rfl rfl (.inr ⟨rfl, rfl⟩) ?_ 5 (by omega) rfl ?_ rfl rfl rfl rfl rfl rfl rfl ?_; (focus kernel_rfl); (focus kernel_rfl); refine AWP.runL e tab_ok L16 300 rfl (by first | trivial | (simp [in64] <;> omega)) ?_)
    )
  refine AWP.bytesStr e tab_ok [⟨o.setWidth 8⟩, ⟨(o >>> 8).setWidth 8⟩] rfl rfl rfl rfl rfl rfl rfl rfl rfl rfl ?_ ?_
  · intro j b hb
    match j, hb with
    | 0, hb => cases hb; exact congrArg (fun z => some [SV.d (.v (.int .u8 z))]) (lo8 o)
    | 1, hb => cases hb; exact congrArg (fun z => some [SV.d (.v (.int .u8 z))]) ((congrArg _ (u16shr o 8)).trans (lo8 _))
  refine AWP.runL e tab_ok L16 300 rfl (by first | trivial | (simp [in64] <;> omega)) ?_
  refine AWP.ret e tab_ok rfl ?_
  rw [hP]
  all_goals first | rfl | (simp [strip]; done)

set_option maxRecDepth 100000 in
theorem tell_bad (m o : BitVec 16) (s : Nat → Int) (l : Int) (h : rightB m o s l = false) : Eff Try.prog 16 [pn m o s l] [] 0 (fun r _ _ => r = .tup [.s .empty, .i 1]) := by
  have hr := right_eff m o s l
  rw [h] at hr
  refine eff_of Try.func16 rfl rfl rfl fun cx e hP => ?_
  refine AWP.runL e tab_ok L16 300 rfl (by first | trivial | (simp [in64] <;> omega)) ?_
  repeat (
    first
      | (refine AWP.askT rfl ?_; (first | (refine Told.t rfl ?_) | (refine Told.f rfl ?_) | (refine Told.t ?_ ?_; (focus (first | assumption | (simp; omega) | (simp [*]; done)); done)) | (refine Told.f ?_ ?_; (focus (first | assumption | (simp; omega) | (simp [*]; done)); done))); refine AWP.runL e tab_ok L16 300 rfl (by first | trivial | (simp [in64] <;> omega)) ?_)
      | (refine AWP.callQ e rfl rfl ?_; (first | refine CallQ.mk (hr) rfl rfl ?_); refine AWP.runL e tab_ok L16 300 rfl (by first | trivial | (simp [in64] <;> omega)) ?_)
      | (refine AWP.eq_agg e tab_ok rfl rfl rfl (.inl ⟨rfl, rfl⟩) ?_ 5 (by omega) rfl ?_ rfl rfl rfl rfl rfl rfl rfl ?_; (focus kernel_rfl); (focus kernel_rfl); refine AWP.runL e tab_ok L16 300 rfl (by first | trivial | (simp [in64] <;> omega)) ?_)
      | (refine AWP.eq_agg e tab_ok rfl rfl rfl (.inr ⟨rfl, rfl⟩) ?_ 5 (by omega) rfl ?_ rfl rfl rfl rfl rfl rfl rfl ?_; (focus kernel_rfl); (focus kernel_rfl); refine AWP.runL e tab_ok L16 300 rfl (by first | trivial | (simp [in64] <;> omega)) ?_)
    )
  refine AWP.ret e tab_ok rfl ?_
  rw [hP]
  all_goals first | rfl | (simp [strip]; done)
end Go.Proofs.Ytdjhmlmdcfgphaa
