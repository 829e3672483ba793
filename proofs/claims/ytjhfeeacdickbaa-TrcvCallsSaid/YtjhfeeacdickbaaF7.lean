import Derived.Test.YtjhfeeacdickbaaF6
open Go Go.Proofs Go.Sy
namespace Go.Proofs.Ytjhfeeacdickbaa

def lowB (ext : Bool) : BitVec 32 := if ext then 536870911#32 else 2047#32
theorem lowB_bit (ext : Bool) (k : Nat) (hk : k < 32) : (lowB ext).getLsbD k = decide (k < wd ext) := by
  cases ext
  · revert k; decide
  · revert k; decide
theorem shr0_bit {x : BitVec 32} {w : Nat} (h : x >>> w = 0#32) (k : Nat) (hk : w ≤ k) : x.getLsbD k = false := by
  have := congrArg (·.getLsbD (k - w)) h
  simp only [BitVec.getLsbD_ushiftRight, BitVec.getLsbD_zero] at this
  rwa [show w + (k - w) = k by omega] at this
def mixB (t : TV) (f : FV) (o : BitVec 32) : BitVec 32 := ((f.id &&& t.mask) ||| (o &&& ~~~t.mask)) &&& lowB f.ext
theorem mix_right {t : TV} {f : FV} {o : BitVec 32} : mixB t f o >>> wd f.ext = 0#32 := by
  apply BitVec.eq_of_getLsbD_eq
  intro k hk
  rw [BitVec.getLsbD_ushiftRight, BitVec.getLsbD_zero]
  by_cases c : wd f.ext + k < 32
  · unfold mixB
    rw [BitVec.getLsbD_and, lowB_bit _ _ c]
    simp
  · exact BitVec.getLsbD_of_ge _ _ (by omega)
theorem mix_same {t : TV} {f : FV} {o : BitVec 32} (h : t.mask >>> wd f.ext = 0#32) : (mixB t f o ^^^ t.id) &&& t.mask = (f.id ^^^ t.id) &&& t.mask := by
  apply BitVec.eq_of_getLsbD_eq
  intro k hk
  unfold mixB
  simp only [BitVec.getLsbD_and, BitVec.getLsbD_xor, BitVec.getLsbD_or, BitVec.getLsbD_not, lowB_bit _ _ hk]
  cases c : t.mask.getLsbD k
  · simp
  · have : k < wd f.ext := by
      rcases Nat.lt_or_ge k (wd f.ext) with h1 | h1
      · exact h1
      · rw [shr0_bit h k h1] at c; cases c
    simp [this]
theorem frB_mix {t : TV} {f : FV} {o : BitVec 32} (h : frB f = true) : frB { f with id := mixB t f o } = true := by
  have hF := frB_iff.1 h
  exact frB_iff.2 ⟨mix_right, hF.d0, hF.d8, hF.data⟩
theorem match_mix {t : TV} {f : FV} {o : BitVec 32} (ht : rightB t = true) (hf : frB f = true) : (matchB t f == matchB t { f with id := mixB t f o }) = true := by
  rw [beq_iff_eq]
  unfold matchB
  rw [hf, frB_mix hf]
  simp only [Bool.true_and]
  by_cases c : f.ext = t.ext
  · have hR := rightB_iff.1 ht
    have hm : t.mask >>> wd f.ext = 0#32 := by rw [c]; exact hR.mask
    rw [mix_same hm]
    rfl
  · rw [show (f.ext == t.ext) = false by simpa using c]
    rfl

theorem zero_byte (n i : Nat) : byteB (strL (List.replicate n 0)) i = 0#8 := by
  unfold byteB
  rw [strL_data, List.getD_eq_getElem?_getD, List.getElem?_replicate]
  split <;> rfl
theorem zero_any (b : ByteArray) (n : Nat) : ∀ i, anyB (strL (List.replicate n 0)) b i = false
  | 0 => rfl
  | i + 1 => by rw [anyB, zero_any b n i, zero_byte]; simp
theorem match_zero {t : TV} {f : FV} {n : Nat} (h : matchB t { f with data := strL (List.replicate n 0) } = true) : t.dlc = 0 := by
  unfold matchB hitB at h
  rw [zero_any] at h
  simp only [Bool.and_eq_true, Bool.or_false, decide_eq_true_eq] at h
  exact h.2.2.2.2.2
theorem mix_val (x y z : BitVec 32) (w : BitVec 32) : IntKind.wrap .u32 ((BitVec.ofInt 32 (IntKind.wrap .u32 ((BitVec.ofInt 32 (IntKind.wrap .u32 ((BitVec.ofInt 32 (x.toNat : Int) &&& BitVec.ofInt 32 (y.toNat : Int)).toNat : Int)) ||| BitVec.ofInt 32 (IntKind.wrap .u32 ((BitVec.ofInt 32 (z.toNat : Int) &&& ~~~BitVec.ofInt 32 (y.toNat : Int)).toNat : Int))).toNat : Int)) &&& BitVec.ofInt 32 (w.toNat : Int)).toNat : Int) = ((((x &&& y) ||| (z &&& ~~~y)) &&& w).toNat : Int) := by
  simp only [ofInt_toNat, u32w]

set_option maxHeartbeats 2000000 in
set_option maxRecDepth 100000 in
theorem bits_eff (t : TV) (f : FV) (o : BitVec 32) : Eff Try.prog 3 [tv t, fv f, U32 o] [] 0 (fun r _ _ => r = .b true) := by
  obtain ⟨T, hfew⟩ := few_some t
  have hrr := rright_eff T
  obtain ⟨E, hE, hE12⟩ := extract_le f.data
  refine eff_of Try.func3 rfl rfl rfl fun cx e hP => ?_
  refine AWP.runL e tab_ok L3 300 rfl (by first | trivial | (simp [in64] <;> omega)) ?_
  repeat (
    first
      | (refine AWP.askT rfl ?_; (first | (refine Told.t rfl ?_) | (refine Told.f rfl ?_) | (refine Told.t ?_ ?_; (focus assumption)) | (refine Told.f ?_ ?_; (focus assumption)) | (refine Told.t ?_ ?_; (focus (first | (simp; omega) | (simp [*]; done)); done)) | (refine Told.f ?_ ?_; (focus (first | (simp; omega) | (simp [*]; done)); done))); refine AWP.runL e tab_ok L3 300 rfl (by first | trivial | (simp [in64] <;> omega)) ?_)
      | (refine AWP.callQ e rfl rfl ?_; (first | refine CallQ.mk (hfew) rfl rfl ?_); refine AWP.runL e tab_ok L3 300 rfl (by first | trivial | (simp [] <;> omega)) ?_)
      | (refine AWP.eq_agg e tab_ok rfl rfl rfl (.inl ⟨rfl, rfl⟩) ?_ 5 (by omega) rfl ?_ rfl rfl rfl rfl rfl rfl rfl ?_; (focus kernel_rfl); (focus kernel_rfl); refine AWP.runL e tab_ok L3 300 rfl (by first | trivial | (simp [in64] <;> omega)) ?_)
      | (refine AWP.eq_agg e tab_ok rfl rfl rfl (.inr ⟨rfl, rfl⟩) ?_ 5 (by omega) rfl ?_ rfl rfl rfl rfl rfl rfl rfl ?_; (focus kernel_rfl); (focus kernel_rfl); refine AWP.runL e tab_ok L3 300 rfl (by first | trivial | (simp [in64] <;> omega)) ?_)
    )
  refine AWP.eqH 1 (fC { f with data := E }) rfl (congrArg (fun d => fC { f with data := d }) hE) ?_
  clear hE
  obtain ⟨F, hF⟩ : ∃ F, F = { f with data := E } := ⟨_, rfl⟩
  have hF12 : F.data.size ≤ 12 := by rw [hF]; exact hE12
  rw [← hF]
  clear hF hE12
  have hfr := rfright_eff F
  rcases cases_b (rightB T) with h | h <;> rw [h] at hrr
  rotate_left
  · have hm := match_bad T F h
    repeat (
      first
        | (refine AWP.askT rfl ?_; (first | (refine Told.t rfl ?_) | (refine Told.f rfl ?_) | (refine Told.t ?_ ?_; (focus assumption)) | (refine Told.f ?_ ?_; (focus assumption)) | (refine Told.t ?_ ?_; (focus (first | (simp; omega) | (simp [*]; done)); done)) | (refine Told.f ?_ ?_; (focus (first | (simp; omega) | (simp [*]; done)); done))); refine AWP.runL e tab_ok L3 300 rfl (by first | trivial | (simp [in64] <;> omega)) ?_)
        | (refine AWP.callQ e rfl rfl ?_; (first | refine CallQ.mk (hrr) rfl rfl ?_ | refine CallQ.mk (alive_eff) rfl rfl ?_ | refine CallQ.mk (hm) rfl rfl ?_); refine AWP.runL e tab_ok L3 300 rfl (by first | trivial | (simp [in64] <;> omega)) ?_)
        | (refine AWP.eq_agg e tab_ok rfl rfl rfl (.inl ⟨rfl, rfl⟩) ?_ 5 (by omega) rfl ?_ rfl rfl rfl rfl rfl rfl rfl ?_; (focus kernel_rfl); (focus kernel_rfl); refine AWP.runL e tab_ok L3 300 rfl (by first | trivial | (simp [in64] <;> omega)) ?_)
        | (refine AWP.eq_agg e tab_ok rfl rfl rfl (.inr ⟨rfl, rfl⟩) ?_ 5 (by omega) rfl ?_ rfl rfl rfl rfl rfl rfl rfl ?_; (focus kernel_rfl); (focus kernel_rfl); refine AWP.runL e tab_ok L3 300 rfl (by first | trivial | (simp [in64] <;> omega)) ?_)
      )
    refine AWP.ret e tab_ok rfl ?_
    rw [hP]
    all_goals first | rfl | (simp [strip]; done)
  rcases cases_b (frB F) with h2 | h2 <;> rw [h2] at hfr
  rotate_left
  · have hm := match_eff T F h
    rw [show matchB T F = false by unfold matchB; rw [h2]; rfl] at hm
    repeat (
      first
        | (refine AWP.askT rfl ?_; (first | (refine Told.t rfl ?_) | (refine Told.f rfl ?_) | (refine Told.t ?_ ?_; (focus assumption)) | (refine Told.f ?_ ?_; (focus assumption)) | (refine Told.t ?_ ?_; (focus (first | (simp; omega) | (simp [*]; done)); done)) | (refine Told.f ?_ ?_; (focus (first | (simp; omega) | (simp [*]; done)); done))); refine AWP.runL e tab_ok L3 300 rfl (by first | trivial | (simp [in64] <;> omega)) ?_)
        | (refine AWP.callQ e rfl rfl ?_; (first | refine CallQ.mk (hrr) rfl rfl ?_ | refine CallQ.mk (hfr) rfl rfl ?_ | refine CallQ.mk (alive_eff) rfl rfl ?_ | refine CallQ.mk (hm) rfl rfl ?_); refine AWP.runL e tab_ok L3 300 rfl (by first | trivial | (simp [in64] <;> omega)) ?_)
        | (refine AWP.eq_agg e tab_ok rfl rfl rfl (.inl ⟨rfl, rfl⟩) ?_ 5 (by omega) rfl ?_ rfl rfl rfl rfl rfl rfl rfl ?_; (focus kernel_rfl); (focus kernel_rfl); refine AWP.runL e tab_ok L3 300 rfl (by first | trivial | (simp [in64] <;> omega)) ?_)
        | (refine AWP.eq_agg e tab_ok rfl rfl rfl (.inr ⟨rfl, rfl⟩) ?_ 5 (by omega) rfl ?_ rfl rfl rfl rfl rfl rfl rfl ?_; (focus kernel_rfl); (focus kernel_rfl); refine AWP.runL e tab_ok L3 300 rfl (by first | trivial | (simp [in64] <;> omega)) ?_)
      )
    refine AWP.ret e tab_ok rfl ?_
    rw [hP]
    all_goals first | rfl | (simp [strip]; done)
  have m1 := match_eff T F h
  have m2 := match_eff T { F with id := mixB T F o } h
  have m3 := match_eff T { F with data := strL (List.replicate F.data.size 0) } h
  have q1 := match_mix (o := o) h h2
  have q3 : matchB T { F with data := strL (List.replicate F.data.size 0) } = true → T.dlc = 0 := match_zero
  repeat (
    first
      | (refine AWP.askT rfl ?_; (first | (refine Told.t rfl ?_) | (refine Told.f rfl ?_) | (refine Told.t ?_ ?_; (focus assumption)) | (refine Told.f ?_ ?_; (focus assumption)) | (refine Told.t ?_ ?_; (focus (first | (simp; omega) | (simp [*]; done)); done)) | (refine Told.f ?_ ?_; (focus (first | (simp; omega) | (simp [*]; done)); done))); refine AWP.runL e tab_ok L3 300 rfl (by first | trivial | (simp [in64] <;> omega)) ?_)
      | (refine AWP.callQ e rfl rfl ?_; (first | refine CallQ.mk (hrr) rfl rfl ?_ | refine CallQ.mk (hfr) rfl rfl ?_); refine AWP.runL e tab_ok L3 300 rfl (by first | trivial | (simp [in64] <;> omega)) ?_)
      | (refine AWP.eq_agg e tab_ok rfl rfl rfl (.inl ⟨rfl, rfl⟩) ?_ 5 (by omega) rfl ?_ rfl rfl rfl rfl rfl rfl rfl ?_; (focus kernel_rfl); (focus kernel_rfl); refine AWP.runL e tab_ok L3 300 rfl (by first | trivial | (simp [in64] <;> omega)) ?_)
      | (refine AWP.eq_agg e tab_ok rfl rfl rfl (.inr ⟨rfl, rfl⟩) ?_ 5 (by omega) rfl ?_ rfl rfl rfl rfl rfl rfl rfl ?_; (focus kernel_rfl); (focus kernel_rfl); refine AWP.runL e tab_ok L3 300 rfl (by first | trivial | (simp [in64] <;> omega)) ?_)
    )
  refine AWP.joinN 1 (ε := Unit) (fun _ => ⟨[(3, .ptr 0 0), (4, .ptr 1 0), (7, .ptr 2 0)], [(0, .box (tC T)), (1, .box (fC F)), (2, .box (fC { F with id := mixB T F o }))], 3⟩) (fun _ => True) ?_ ?_
  rotate_left
  · intro Ψ join
    rcases cases_b F.ext with hx | hx
    · have e1 : ((F.id &&& T.mask) ||| (o &&& ~~~T.mask)) &&& 536870911#32 = mixB T F o := by unfold mixB lowB; rw [hx]; rfl
      repeat (
        first
          | (refine AWP.askT rfl ?_; (first | (refine Told.t rfl ?_) | (refine Told.f rfl ?_) | (refine Told.t ?_ ?_; (focus assumption)) | (refine Told.f ?_ ?_; (focus assumption)) | (refine Told.t ?_ ?_; (focus (first | (simp; omega) | (simp [*]; done)); done)) | (refine Told.f ?_ ?_; (focus (first | (simp; omega) | (simp [*]; done)); done))); refine AWP.runL e tab_ok L3 300 rfl (by first | trivial | (simp [in64] <;> omega)) ?_)
          | (refine AWP.eq_agg e tab_ok rfl rfl rfl (.inl ⟨rfl, rfl⟩) ?_ 5 (by omega) rfl ?_ rfl rfl rfl rfl rfl rfl rfl ?_; (focus kernel_rfl); (focus kernel_rfl); refine AWP.runL e tab_ok L3 300 rfl (by first | trivial | (simp [in64] <;> omega)) ?_)
          | (refine AWP.eq_agg e tab_ok rfl rfl rfl (.inr ⟨rfl, rfl⟩) ?_ 5 (by omega) rfl ?_ rfl rfl rfl rfl rfl rfl rfl ?_; (focus kernel_rfl); (focus kernel_rfl); refine AWP.runL e tab_ok L3 300 rfl (by first | trivial | (simp [in64] <;> omega)) ?_)
        )
      refine AWP.eqH 2 (fC { F with id := mixB T F o }) rfl ?_ ?_
      · exact congrArg (fun z => SV.d (.v (.int .u32 z)) :: [SV.b F.ext, .b F.rem, .i F.dlc, .s F.data]) ((mix_val _ _ _ 536870911#32).trans (congrArg (fun (z : BitVec 32) => (z.toNat : Int)) e1))
      refine AWP.less e ?_ ?_ ?_ ?_ ?_ (join () trivial) <;> (repeat' (first | exact True.intro | (refine And.intro ?_ ?_) | rfl | assumption))
    · have e1 : ((F.id &&& T.mask) ||| (o &&& ~~~T.mask)) &&& 2047#32 = mixB T F o := by unfold mixB lowB; rw [hx]; rfl
      repeat (
        first
          | (refine AWP.askT rfl ?_; (first | (refine Told.t rfl ?_) | (refine Told.f rfl ?_) | (refine Told.t ?_ ?_; (focus assumption)) | (refine Told.f ?_ ?_; (focus assumption)) | (refine Told.t ?_ ?_; (focus (first | (simp; omega) | (simp [*]; done)); done)) | (refine Told.f ?_ ?_; (focus (first | (simp; omega) | (simp [*]; done)); done))); refine AWP.runL e tab_ok L3 300 rfl (by first | trivial | (simp [in64] <;> omega)) ?_)
          | (refine AWP.eq_agg e tab_ok rfl rfl rfl (.inl ⟨rfl, rfl⟩) ?_ 5 (by omega) rfl ?_ rfl rfl rfl rfl rfl rfl rfl ?_; (focus kernel_rfl); (focus kernel_rfl); refine AWP.runL e tab_ok L3 300 rfl (by first | trivial | (simp [in64] <;> omega)) ?_)
          | (refine AWP.eq_agg e tab_ok rfl rfl rfl (.inr ⟨rfl, rfl⟩) ?_ 5 (by omega) rfl ?_ rfl rfl rfl rfl rfl rfl rfl ?_; (focus kernel_rfl); (focus kernel_rfl); refine AWP.runL e tab_ok L3 300 rfl (by first | trivial | (simp [in64] <;> omega)) ?_)
        )
      refine AWP.eqH 2 (fC { F with id := mixB T F o }) rfl ?_ ?_
      · exact congrArg (fun z => SV.d (.v (.int .u32 z)) :: [SV.b F.ext, .b F.rem, .i F.dlc, .s F.data]) ((mix_val _ _ _ 2047#32).trans (congrArg (fun (z : BitVec 32) => (z.toNat : Int)) e1))
      refine AWP.less e ?_ ?_ ?_ ?_ ?_ (join () trivial) <;> (repeat' (first | exact True.intro | (refine And.intro ?_ ?_) | rfl | assumption))
  intro _ _
  clear hrr hfr hfew
  refine AWP.runL e tab_ok L3 300 rfl (by first | trivial | (simp [in64] <;> omega)) ?_
  refine AWP.make1 e tab_ok F.data.size rfl rfl rfl rfl rfl rfl rfl rfl rfl (by show 1 * F.data.size ≤ _; omega) (by omega) ?_
  refine AWP.runL e tab_ok L3 300 rfl (by first | trivial | (simp [in64] <;> omega)) ?_
  refine AWP.bytesStr e tab_ok (List.replicate F.data.size 0) rfl rfl rfl rfl rfl rfl rfl rfl rfl (by simp) ?_ ?_
  · intro j b hb
    rw [List.getElem?_replicate] at hb
    split at hb
    · rename_i hj
      cases hb
      rw [Nat.zero_add, List.getElem?_replicate, if_pos hj]
      rfl
    · cases hb
  refine AWP.runL e tab_ok L3 300 rfl (by first | trivial | (simp [in64] <;> omega)) ?_
  refine AWP.keep L3 rfl ?_
  refine AWP.keepB [0, 1, 2, 3] rfl ?_
  rcases cases_b (matchB T { F with data := strL (List.replicate F.data.size 0) }) with c | c
  · have d := q3 c
    rw [c] at m3
    clear q3 c
    repeat (
      first
        | (refine AWP.askT rfl ?_; (first | (refine Told.t rfl ?_) | (refine Told.f rfl ?_) | (refine Told.t ?_ ?_; (focus assumption)) | (refine Told.f ?_ ?_; (focus assumption)) | (refine Told.t ?_ ?_; (focus (first | (simp; omega) | (simp [*]; done)); done)) | (refine Told.f ?_ ?_; (focus (first | (simp; omega) | (simp [*]; done)); done))); refine AWP.runL e tab_ok L3 300 rfl (by first | trivial | (simp [in64] <;> omega)) ?_)
        | (refine AWP.callQ e rfl rfl ?_; (first | refine CallQ.mk (alive_eff) rfl rfl ?_ | refine CallQ.mk (m1) rfl rfl ?_ | refine CallQ.mk (m2) rfl rfl ?_ | refine CallQ.mk (m3) rfl rfl ?_); refine AWP.runL e tab_ok L3 300 rfl (by first | trivial | (simp [in64] <;> omega)) ?_)
        | (refine AWP.eq_agg e tab_ok rfl rfl rfl (.inl ⟨rfl, rfl⟩) ?_ 5 (by omega) rfl ?_ rfl rfl rfl rfl rfl rfl rfl ?_; (focus kernel_rfl); (focus kernel_rfl); refine AWP.runL e tab_ok L3 300 rfl (by first | trivial | (simp [in64] <;> omega)) ?_)
        | (refine AWP.eq_agg e tab_ok rfl rfl rfl (.inr ⟨rfl, rfl⟩) ?_ 5 (by omega) rfl ?_ rfl rfl rfl rfl rfl rfl rfl ?_; (focus kernel_rfl); (focus kernel_rfl); refine AWP.runL e tab_ok L3 300 rfl (by first | trivial | (simp [in64] <;> omega)) ?_)
        | (refine AWP.keep L3 rfl ?_; refine AWP.drg 100 ?_; (refine DrG.runS e tab_ok 200 rfl (by first | trivial | (simp [in64] <;> omega)) ?_); (repeat (first | (refine DrG.askT rfl ?_; (first | (refine Told.t rfl ?_) | (refine Told.f rfl ?_) | (refine Told.t ?_ ?_; (focus assumption)) | (refine Told.f ?_ ?_; (focus assumption)) | (refine Told.t ?_ ?_; (focus (first | (simp; omega) | (simp [*]; done)); done)) | (refine Told.f ?_ ?_; (focus (first | (simp; omega) | (simp [*]; done)); done))); (refine DrG.runS e tab_ok 200 rfl (by first | trivial | (simp [in64] <;> omega)) ?_)) | (refine DrG.callQ e rfl rfl ?_; (first | refine CallVQ.mk (alive_eff) rfl rfl ?_ | refine CallVQ.mk (m1) rfl rfl ?_ | refine CallVQ.mk (m2) rfl rfl ?_ | refine CallVQ.mk (m3) rfl rfl ?_); (refine DrG.runS e tab_ok 200 rfl (by first | trivial | (simp [in64] <;> omega)) ?_)) | (refine DrG.callGo e rfl rfl rfl ?_; (first | refine CallVQ.mk (alive_eff) rfl rfl ?_ | refine CallVQ.mk (m1) rfl rfl ?_ | refine CallVQ.mk (m2) rfl rfl ?_ | refine CallVQ.mk (m3) rfl rfl ?_); (refine DrG.runS e tab_ok 200 rfl (by first | trivial | (simp [in64] <;> omega)) ?_)) | (refine DrG.eq_agg e tab_ok rfl rfl rfl (.inl ⟨rfl, rfl⟩) ?_ 5 (by omega) rfl ?_ rfl rfl rfl rfl rfl rfl rfl ?_; (focus kernel_rfl); (focus kernel_rfl); (refine DrG.runS e tab_ok 200 rfl (by first | trivial | (simp [in64] <;> omega)) ?_)) | (refine DrG.eq_aggGo e tab_ok rfl rfl rfl rfl (.inl ⟨rfl, rfl⟩) ?_ 5 (by omega) rfl ?_ rfl rfl rfl rfl rfl rfl rfl ?_; (focus kernel_rfl); (focus kernel_rfl); (refine DrG.runS e tab_ok 200 rfl (by first | trivial | (simp [in64] <;> omega)) ?_)) | (refine DrG.eq_agg e tab_ok rfl rfl rfl (.inr ⟨rfl, rfl⟩) ?_ 5 (by omega) rfl ?_ rfl rfl rfl rfl rfl rfl rfl ?_; (focus kernel_rfl); (focus kernel_rfl); (refine DrG.runS e tab_ok 200 rfl (by first | trivial | (simp [in64] <;> omega)) ?_)) | (refine DrG.eq_aggGo e tab_ok rfl rfl rfl rfl (.inr ⟨rfl, rfl⟩) ?_ 5 (by omega) rfl ?_ rfl rfl rfl rfl rfl rfl rfl ?_; (focus kernel_rfl); (focus kernel_rfl); (refine DrG.runS e tab_ok 200 rfl (by first | trivial | (simp [in64] <;> omega)) ?_)))); refine DrG.finK e rfl ?_ rfl rfl rfl ?_ ?_; (focus kernel_rfl); (focus (repeat' (first | exact True.intro | (refine And.intro ?_ ?_) | rfl | assumption | exact okRow _))); dsimp only [tmS, hpS, tput, effH]; refine AWP.runL e tab_ok L3 300 rfl (by first | trivial | (simp [in64] <;> omega)) ?_)
      )
    refine AWP.ret e tab_ok rfl ?_
    rw [hP]
    exact congrArg SV.b (by simp; omega)
  · rw [c] at m3
    clear q3 c
    repeat (
      first
        | (refine AWP.askT rfl ?_; (first | (refine Told.t rfl ?_) | (refine Told.f rfl ?_) | (refine Told.t ?_ ?_; (focus assumption)) | (refine Told.f ?_ ?_; (focus assumption)) | (refine Told.t ?_ ?_; (focus (first | (simp; omega) | (simp [*]; done)); done)) | (refine Told.f ?_ ?_; (focus (first | (simp; omega) | (simp [*]; done)); done))); refine AWP.runL e tab_ok L3 300 rfl (by first | trivial | (simp [in64] <;> omega)) ?_)
        | (refine AWP.callQ e rfl rfl ?_; (first | refine CallQ.mk (alive_eff) rfl rfl ?_ | refine CallQ.mk (m1) rfl rfl ?_ | refine CallQ.mk (m2) rfl rfl ?_ | refine CallQ.mk (m3) rfl rfl ?_); refine AWP.runL e tab_ok L3 300 rfl (by first | trivial | (simp [in64] <;> omega)) ?_)
        | (refine AWP.eq_agg e tab_ok rfl rfl rfl (.inl ⟨rfl, rfl⟩) ?_ 5 (by omega) rfl ?_ rfl rfl rfl rfl rfl rfl rfl ?_; (focus kernel_rfl); (focus kernel_rfl); refine AWP.runL e tab_ok L3 300 rfl (by first | trivial | (simp [in64] <;> omega)) ?_)
        | (refine AWP.eq_agg e tab_ok rfl rfl rfl (.inr ⟨rfl, rfl⟩) ?_ 5 (by omega) rfl ?_ rfl rfl rfl rfl rfl rfl rfl ?_; (focus kernel_rfl); (focus kernel_rfl); refine AWP.runL e tab_ok L3 300 rfl (by first | trivial | (simp [in64] <;> omega)) ?_)
        | (refine AWP.keep L3 rfl ?_; refine AWP.drg 100 ?_; (refine DrG.runS e tab_ok 200 rfl (by first | trivial | (simp [in64] <;> omega)) ?_); (repeat (first | (refine DrG.askT rfl ?_; (first | (refine Told.t rfl ?_) | (refine Told.f rfl ?_) | (refine Told.t ?_ ?_; (focus assumption)) | (refine Told.f ?_ ?_; (focus assumption)) | (refine Told.t ?_ ?_; (focus (first | (simp; omega) | (simp [*]; done)); done)) | (refine Told.f ?_ ?_; (focus (first | (simp; omega) | (simp [*]; done)); done))); (refine DrG.runS e tab_ok 200 rfl (by first | trivial | (simp [in64] <;> omega)) ?_)) | (refine DrG.callQ e rfl rfl ?_; (first | refine CallVQ.mk (alive_eff) rfl rfl ?_ | refine CallVQ.mk (m1) rfl rfl ?_ | refine CallVQ.mk (m2) rfl rfl ?_ | refine CallVQ.mk (m3) rfl rfl ?_); (refine DrG.runS e tab_ok 200 rfl (by first | trivial | (simp [in64] <;> omega)) ?_)) | (refine DrG.callGo e rfl rfl rfl ?_; (first | refine CallVQ.mk (alive_eff) rfl rfl ?_ | refine CallVQ.mk (m1) rfl rfl ?_ | refine CallVQ.mk (m2) rfl rfl ?_ | refine CallVQ.mk (m3) rfl rfl ?_); (refine DrG.runS e tab_ok 200 rfl (by first | trivial | (simp [in64] <;> omega)) ?_)) | (refine DrG.eq_agg e tab_ok rfl rfl rfl (.inl ⟨rfl, rfl⟩) ?_ 5 (by omega) rfl ?_ rfl rfl rfl rfl rfl rfl rfl ?_; (focus kernel_rfl); (focus kernel_rfl); (refine DrG.runS e tab_ok 200 rfl (by first | trivial | (simp [in64] <;> omega)) ?_)) | (refine DrG.eq_aggGo e tab_ok rfl rfl rfl rfl (.inl ⟨rfl, rfl⟩) ?_ 5 (by omega) rfl ?_ rfl rfl rfl rfl rfl rfl rfl ?_; (focus kernel_rfl); (focus kernel_rfl); (refine DrG.runS e tab_ok 200 rfl (by first | trivial | (simp [in64] <;> omega)) ?_)) | (refine DrG.eq_agg e tab_ok rfl rfl rfl (.inr ⟨rfl, rfl⟩) ?_ 5 (by omega) rfl ?_ rfl rfl rfl rfl rfl rfl rfl ?_; (focus kernel_rfl); (focus kernel_rfl); (refine DrG.runS e tab_ok 200 rfl (by first | trivial | (simp [in64] <;> omega)) ?_)) | (refine DrG.eq_aggGo e tab_ok rfl rfl rfl rfl (.inr ⟨rfl, rfl⟩) ?_ 5 (by omega) rfl ?_ rfl rfl rfl rfl rfl rfl rfl ?_; (focus kernel_rfl); (focus kernel_rfl); (refine DrG.runS e tab_ok 200 rfl (by first | trivial | (simp [in64] <;> omega)) ?_)))); refine DrG.finK e rfl ?_ rfl rfl rfl ?_ ?_; (focus kernel_rfl); (focus (repeat' (first | exact True.intro | (refine And.intro ?_ ?_) | rfl | assumption | exact okRow _))); dsimp only [tmS, hpS, tput, effH]; refine AWP.runL e tab_ok L3 300 rfl (by first | trivial | (simp [in64] <;> omega)) ?_)
      )
    refine AWP.ret e tab_ok rfl ?_
    rw [hP]
    all_goals first | rfl | (simp [strip]; done)

theorem bits_args (l : List SV) (h : Args tab 9 [24, 26, 22] l) : Eff Try.prog 3 l [] 0 (fun r _ _ => r = .b true) := by
  obtain ⟨xs, _, rfl, hp, ys, _, rfl, hq, _, _, rfl, ⟨o, rfl, o1, o2⟩, rfl⟩ := h
  obtain ⟨t, ht⟩ := tv_of hp
  obtain ⟨f, hf⟩ := fv_of (n := 7) hq
  obtain ⟨o, rfl⟩ := u32_of o1 o2
  show Eff Try.prog 3 [.agg (xs.map SV.d), .agg (ys.map SV.d), _] [] 0 _
  rw [ht, hf]
  exact bits_eff t f o
end Go.Proofs.Ytjhfeeacdickbaa
