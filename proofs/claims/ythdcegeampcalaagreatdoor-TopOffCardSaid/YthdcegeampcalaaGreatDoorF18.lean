/-
  The stuffed bits of a frame are found, for every frame that may be. Condition: what the theorems state ahead.
-/
import Derived.Test.YthdcegeampcalaaGreatDoorF17
open Go Go.Proofs Go.Sy Go.Stuff Go.RowKit
namespace Go.Proofs.YthdcegeampcalaaGreatDoor
section
variable {c0 cx : Cx} {fn : Func} {lo : Nat} {k : List It} {tm : List (Nat × SV)} {hp : List (Nat × Blk)} {nx : Nat} {all : Array Oper} {rest : List Oper} {d : Nat} {dst : Option Tmp} {ty : TypeId} {pos : String} {after : Array Edge} {S : Nat → Prop}
theorem AWP.newB85 (m : MapCx c0 cx S) (e : Env cx Tryz.prog fn lo) (hd : Nat.blt d fn.ntmps = true)
    (g : ∀ cx2 b, MapCx c0 cx2 (fun q => q = b ∨ S q) → Env cx2 Tryz.prog fn nx → cx2.Post = cx.Post → HasB 85 b [] (fun q => q = b ∨ S q) cx2.w0 →
      AWP cx2 (.ops all rest :: k) ⟨(d, .d (.v (pB b))) :: tm, hp, nx⟩) : AWP cx (.ops all (⟨some d, .alloc 85, ty, pos, after, none⟩ :: rest) :: k) ⟨tm, hp, nx⟩ := by
  refine AWP.newW m e #[.pointer none, .slice none 0 0] 85 hd (fun μ ok a w hI => ?_) fun cx2 b m2 e2 h2 h3 _ => g cx2 b m2 e2 h2 (HasB.new h3 (.inl rfl))
  obtain ⟨z, h1, h2⟩ := (tab_ok 85 _ rfl).zeroValue (w := w)
  have h3 : z.cells = #[.pointer none, .slice none 0 0] := by
    have h2 : z.cells.toList.map some = [some (.pointer none), some (.slice none 0 0)] := h2
    apply Array.ext'
    have h4 := congrArg (List.map (fun o : Option Value => o.getD undef)) h2
    rw [List.map_map, show ((fun o : Option Value => o.getD undef) ∘ some) = id from rfl, List.map_id] at h4
    exact h4
  simp [execOp, Instr.alloc, h1, h3, newVar, newRow]
end

/-- The length that 'stuffed' looks for, as far as it is known. -/
def endI (f : Frm) (n : Nat) : Int := if n < fixN f then -1 else ((sumF f).length : Int)
theorem rd_right (f : Frm) {i : Nat} (hi : i ≤ (bodyF f).length) : rightS (rd f i).2.1 ((rd f i).2.2 : Int) = true := by
  rcases Nat.eq_zero_or_pos i with rfl | h
  · rfl
  · have R := rd_of f hi
    obtain ⟨h1, h2⟩ := R.good h
    have h3 := R.five
    unfold rightS
    have h0 : ((rd f i).2.1 == 0) = false := by rcases h1 with h | h <;> rw [h] <;> rfl
    have hb : bit (rd f i).2.1 = true := by rcases h1 with h | h <;> rw [h] <;> rfl
    rw [h0, hb]
    simp
    omega
theorem rd_nil (f : Frm) : rd f 0 = ([], x0) := rfl
theorem endI_0 (f : Frm) : endI f 0 = -1 := by
  have := fix_le f
  unfold endI
  rw [if_pos (by omega)]
set_option maxRecDepth 100000 in
set_option maxHeartbeats 8000000 in
theorem stuffed_eff (f : Frm) (hr : rightF f = true) : Eff Tryz.prog 24 [.s (strL (bitsF f))] [] 0 (fun r _ _ => r = .tup [.s (strL (sumF f)), .i (bodyF f).length, .i 0]) := by
  have hnb := body_pos hr
  have hnb2 := (body_len hr).2
  have hsl := sum_len f
  obtain ⟨k1, k2⟩ := head_le hr
  have hfx := fix_le f
  have hfl : fixN f ≤ (headL f).length := by rw [head_len]; omega
  have hBl : (bitsF f).length = (bodyF f).length + 10 := by unfold bitsF; rw [List.length_append]; rfl
  have hsz : (strL (bitsF f)).size = (bitsF f).length := strL_size _
  refine eff_of Tryz.func24 rfl rfl rfl fun cA e hP => ?_
  have hPA := hP
  have eA := e
  refine AWP.runL e tab_ok L24 12 rfl (by trivial ) ?_
  refine AWP.newB85 (MapCx.start e) e rfl fun cx b m e hP2 hB => ?_
  rw [hP] at hP2
  have hP := hP2
  clear hP2
  refine AWP.runL e tab_ok L24 300 rfl (by trivial ) ?_
  refine AWP.lowM m e eA fun cx m e hP2 hw => ?_
  rw [hP] at hP2
  have hP := hP2
  rw [← hw] at hB
  clear hP2 hw
  refine AWP.loopM (ι := Nat) (fun i => ⟨[(16, .i i), (15, .i (bitsF f).length), (7, .i (endI f (rd f i).1.length)), (6, .d (.v (pB b))), (5, .ptr 0 0), (0, .s (strL (bitsF f)))], [(0, .box [U (rd f i).2.1, .i (rd f i).2.2])], 1⟩) (fun i c => ∃ S, MapCx cA c S ∧ Env c Tryz.prog Tryz.f24 0 ∧ c.Post = cA.Post ∧ HasB 85 b (rd f i).1 S c.w0 ∧ i ≤ (bodyF f).length) (fun i => (bodyF f).length - i) 0 ⟨_, m, e, hP.trans hPA.symm, hB, Nat.zero_le _⟩ (fun s c ⟨_, h, _⟩ => ⟨h.P.trans m.P.symm, h.R.trans m.R.symm⟩) ?_ ?_
  · intro g
    refine AWP.less e ?_ ?_ ?_ ?_ ?_ (g) <;> (repeat' (first | exact True.intro | (refine And.intro ?_ ?_) | rfl))
    exact congrArg (fun z => some (SV.i z)) (endI_0 f).symm
  clear hB e m hP cx
  rintro i cx Φ ⟨S, m, e, hP, hB, hi⟩ next
  rw [hPA] at hP
  have R := rd_of f hi
  have hrs := rd_right f hi
  by_cases hlt : i < (bodyF f).length
  · have nx := fun cx' h => next (i + 1) cx' h (by show (bodyF f).length - (i + 1) < (bodyF f).length - i; omega)
    clear next
    obtain ⟨hk3, hrd⟩ := rd_succ f hlt
    have hcb := body_bits f _ (List.getElem_mem hlt)
    have hcc : (bitsF f)[i]'(by omega) = (bodyF f)[i] := by unfold bitsF; exact List.getElem_append_left hlt
    have hb : byteAt (strL (bitsF f)) i = (((bodyF f)[i]).toNat : Int) := by rw [b_at (bitsF f) i (by omega), hcc]
    have R2 := rd_of f (i := i + 1) hlt
    have hbef := R.before hlt
    have hlen := R.len
    have hpre := R2.pre
    have hlen2 := R2.len
    have hz2 := rd_zero hr (i := i + 1) (by omega) hlt
    have h5 := R.five
    rw [hrd] at nx
    rw [hrd] at hpre hlen2 hz2
    generalize (bodyF f)[i] = c at *
    generalize hrdi : rd f i = q at *
    obtain ⟨g, x, n⟩ := q
    dsimp only at *
    have c2 : Eff Tryz.prog 42 [.agg (xC x n), .d (.v (.int .u8 (byteAt (strL (bitsF f)) i)))] [] 0 (fun r _ _ => r = stepR x n c) := by
      rw [hb]
      exact step_ok x n c hrs (by rcases hcb with h | h <;> rw [h] <;> rfl) h5
    unfold stepR at c2
    have hT : g.length < (sumF f).length ∨ n = 5 := hbef
    have hne : endI f g.length = (g.length : Int) → n = 5 := fun h => by
      rcases hT with h1 | h1
      · unfold endI at h
        split at h <;> omega
      · exact h1
    by_cases h5n : n = 5
    · have hk2 : kind (x, n) c = 2 := by
        unfold kind at hk3 ⊢
        rw [if_pos h5n] at hk3 ⊢
        split at hk3
        · exact absurd rfl hk3
        · rename_i h; rw [if_neg h]
      have d5 : decide ((n : Int) < 5) = false := by simp; omega
      rw [hk2] at nx c2
      rw [if_neg (by decide)] at nx
      rcases cases_b ((g.length : Int) == endI f g.length) with q | q
      · refine AWP.runL e tab_ok L24 300 rfl (by trivial ) ?_
        repeat (
          (refine AWP.askT rfl ?_; ( (refine Told.t ?_ ?_; (focus ((simp; omega)); done))); refine AWP.runL e tab_ok L24 300 rfl (by trivial ) ?_)

          )
        refine AWP.lenB m e hB rfl rfl fun cx S m e hP2 hB => ?_
        rw [hP] at hP2
        have hP := hP2
        clear hP2
        refine AWP.runL e tab_ok L24 300 rfl (by trivial ) ?_
        repeat (
          (refine AWP.askT rfl ?_; (first | (refine Told.t ?_ ?_; (focus assumption)) | (refine Told.f ?_ ?_; (focus assumption)) ); refine AWP.runL e tab_ok L24 300 rfl (by trivial ) ?_)

          )
        repeat (
          first
            | (refine AWP.askT rfl ?_; (first | (refine Told.t rfl ?_) | (refine Told.f rfl ?_) ); refine AWP.runL e tab_ok L24 300 rfl (by first | trivial | (simp [in64] <;> omega)) ?_)
            | (refine AWP.keep L24 rfl ?_; refine AWP.drg 100 ?_; (refine DrG.runS e tab_ok 200 rfl (by  (simp [in64] <;> omega)) ?_); (repeat ( (refine DrG.callQ e rfl rfl ?_; (first | refine CallVQ.mk (c2) rfl rfl ?_); (refine DrG.runS e tab_ok 200 rfl (by trivial ) ?_)) )); refine DrG.finK e rfl ?_ rfl rfl rfl ?_ ?_; (focus kernel_rfl); (focus (repeat' (first | exact True.intro | (refine And.intro ?_ ?_) | rfl ))); dsimp only [tmS, hpS, tput, effH]; refine AWP.runL e tab_ok L24 300 rfl (by trivial ) ?_)
          )
        refine AWP.lowM m e eA fun cx m e hP2 hw => ?_
        rw [hP] at hP2
        rw [← hw] at hB
        refine AWP.less e ?_ ?_ ?_ ?_ ?_ (nx cx ⟨S, m, e, hP2.trans hPA.symm, hB, hlt⟩) <;> (repeat' (first | exact True.intro | (refine And.intro ?_ ?_) | rfl))
      · refine AWP.runL e tab_ok L24 300 rfl (by trivial ) ?_
        repeat (
          (refine AWP.askT rfl ?_; ( (refine Told.t ?_ ?_; (focus ((simp; omega)); done))); refine AWP.runL e tab_ok L24 300 rfl (by trivial ) ?_)

          )
        refine AWP.lenB m e hB rfl rfl fun cx S m e hP2 hB => ?_
        rw [hP] at hP2
        have hP := hP2
        clear hP2
        refine AWP.runL e tab_ok L24 300 rfl (by trivial ) ?_
        repeat (
          (refine AWP.askT rfl ?_; ( (refine Told.f ?_ ?_; (focus assumption)) ); refine AWP.runL e tab_ok L24 300 rfl (by trivial ) ?_)

          )
        repeat (
          first
            | (refine AWP.askT rfl ?_; (first | (refine Told.t rfl ?_) | (refine Told.f rfl ?_) ); refine AWP.runL e tab_ok L24 300 rfl (by first | trivial | (simp [in64] <;> omega)) ?_)
            | (refine AWP.keep L24 rfl ?_; refine AWP.drg 100 ?_; (refine DrG.runS e tab_ok 200 rfl (by  (simp [in64] <;> omega)) ?_); (repeat ( (refine DrG.callQ e rfl rfl ?_; (first | refine CallVQ.mk (c2) rfl rfl ?_); (refine DrG.runS e tab_ok 200 rfl (by trivial ) ?_)) )); refine DrG.finK e rfl ?_ rfl rfl rfl ?_ ?_; (focus kernel_rfl); (focus (repeat' (first | exact True.intro | (refine And.intro ?_ ?_) | rfl ))); dsimp only [tmS, hpS, tput, effH]; refine AWP.runL e tab_ok L24 300 rfl (by trivial ) ?_)
          )
        refine AWP.lowM m e eA fun cx m e hP2 hw => ?_
        rw [hP] at hP2
        rw [← hw] at hB
        refine AWP.less e ?_ ?_ ?_ ?_ ?_ (nx cx ⟨S, m, e, hP2.trans hPA.symm, hB, hlt⟩) <;> (repeat' (first | exact True.intro | (refine And.intro ?_ ?_) | rfl))
    · have hk1 : kind (x, n) c = 1 := by unfold kind; rw [if_neg h5n]
      rw [hk1] at nx c2 hpre hlen2 hz2
      rw [if_pos rfl] at nx hpre hlen2 hz2
      have q : ((g.length : Int) == endI f g.length) = false := by
        rw [beq_eq_false_iff_ne]
        exact fun h => h5n (hne h.symm)
      have hl1 : (g ++ [c]).length = g.length + 1 := by simp
      rw [hl1] at nx hpre hlen2 hz2
      have hgn : g ++ [c] ≠ [] := by simp
      refine AWP.runL e tab_ok L24 300 rfl (by trivial ) ?_
      repeat (
        (refine AWP.askT rfl ?_; ( (refine Told.t ?_ ?_; (focus ((simp; omega)); done))); refine AWP.runL e tab_ok L24 300 rfl (by trivial ) ?_)

        )
      refine AWP.lenB m e hB rfl rfl fun cx S m e hP2 hB => ?_
      rw [hP] at hP2
      have hP := hP2
      clear hP2
      refine AWP.runL e tab_ok L24 300 rfl (by trivial ) ?_
      repeat (
        (refine AWP.askT rfl ?_; ( (refine Told.f ?_ ?_; (focus assumption)) ); refine AWP.runL e tab_ok L24 300 rfl (by trivial ) ?_)

        )
      repeat (
        first
          | (refine AWP.askT rfl ?_; ( (refine Told.f rfl ?_) ); refine AWP.runL e tab_ok L24 300 rfl (by first | trivial | (simp [in64] <;> omega)) ?_)
          | (refine AWP.keep L24 rfl ?_; refine AWP.drg 100 ?_; (refine DrG.runS e tab_ok 200 rfl (by  (simp [in64] <;> omega)) ?_); (repeat ( (refine DrG.callQ e rfl rfl ?_; (first | refine CallVQ.mk (c2) rfl rfl ?_); (refine DrG.runS e tab_ok 200 rfl (by trivial ) ?_)) )); refine DrG.finK e rfl ?_ rfl rfl rfl ?_ ?_; (focus kernel_rfl); (focus (repeat' (first | exact True.intro | (refine And.intro ?_ ?_) | rfl ))); dsimp only [tmS, hpS, tput, effH]; refine AWP.runL e tab_ok L24 300 rfl (by trivial ) ?_)
        )
      refine AWP.eqT 46 (U c) rfl (congrArg (fun z => SV.d (.v (.int .u8 z))) hb) ?_
      refine AWP.byteB m e bty85 hB c (by omega) rfl rfl fun cx S m e hP2 hB => ?_
      rw [hP] at hP2
      have hP := hP2
      clear hP2
      refine AWP.runL e tab_ok L24 300 rfl (by trivial ) ?_
      by_cases hf : g.length < fixN f
      · have he : endI f g.length = -1 := by unfold endI; rw [if_pos hf]
        have hs := size_take hr (g.length + 1) (by omega)
        rw [← hpre] at hs
        have hw : wellB (g ++ [c]) = true := by
          rw [hpre]
          exact wellB_of (by rw [List.length_take]; omega) fun b hb => frm_bits (head_bits f) b (List.mem_of_mem_take hb)
        have c4 := size_eff (g ++ [c]) hw
        rw [hs] at c4
        have hd : ((strL (g ++ [c])).toList == (ByteArray.mk #[49]).toList) = false := by
          rw [strL_toList, show (ByteArray.mk #[49]).toList = [49] from strL_toList [49], hpre]
          obtain ⟨l, hl⟩ := sum_cons f
          rw [hl, List.take_succ_cons]
          simp
        rw [he]
        clear hpre hne
        generalize g ++ [c] = g2 at *
        refine AWP.runL e tab_ok L24 300 rfl (by trivial ) ?_
        repeat (
          (refine AWP.askT rfl ?_; ( (refine Told.f rfl ?_) ); refine AWP.runL e tab_ok L24 300 rfl (by trivial ) ?_)

          )
        refine AWP.stringB m e bty85 hB hgn rfl rfl fun cx S m e hP2 hB => ?_
        rw [hP] at hP2
        have hP := hP2
        clear hP2
        refine AWP.runL e tab_ok L24 300 rfl (by trivial ) ?_
        by_cases hf2 : g.length + 1 < fixN f
        · rw [if_pos hf2] at c4
          have he2 : endI f (g.length + 1) = -1 := by unfold endI; rw [if_pos hf2]
          rw [he2] at nx
          repeat (

              (refine AWP.callQ e rfl rfl ?_; (first | refine CallQ.mk (c4) rfl rfl ?_); refine AWP.runL e tab_ok L24 300 rfl (by trivial ) ?_)

            )
          refine AWP.stringB m e bty85 hB hgn rfl rfl fun cx S m e hP2 hB => ?_
          rw [hP] at hP2
          have hP := hP2
          clear hP2
          refine AWP.runL e tab_ok L24 300 rfl (by trivial ) ?_
          repeat (
            (refine AWP.askT rfl ?_; (first | (refine Told.f rfl ?_) | (refine Told.f ?_ ?_; (focus assumption)) ); refine AWP.runL e tab_ok L24 300 rfl (by first | trivial | (simp [in64] <;> omega)) ?_)

            )
          refine AWP.lowM m e eA fun cx m e hP2 hw => ?_
          rw [hP] at hP2
          rw [← hw] at hB
          refine AWP.less e ?_ ?_ ?_ ?_ ?_ (nx cx ⟨S, m, e, hP2.trans hPA.symm, hB, hlt⟩) <;> (repeat' (first | exact True.intro | (refine And.intro ?_ ?_) | rfl))
        · rw [if_neg hf2] at c4
          have he2 : endI f (g.length + 1) = ((sumF f).length : Int) := by unfold endI; rw [if_neg hf2]
          rw [he2] at nx
          repeat (

              (refine AWP.callQ e rfl rfl ?_; (first | refine CallQ.mk (c4) rfl rfl ?_); refine AWP.runL e tab_ok L24 300 rfl (by trivial ) ?_)

            )
          refine AWP.stringB m e bty85 hB hgn rfl rfl fun cx S m e hP2 hB => ?_
          rw [hP] at hP2
          have hP := hP2
          clear hP2
          refine AWP.runL e tab_ok L24 300 rfl (by trivial ) ?_
          repeat (
            (refine AWP.askT rfl ?_; (first | (refine Told.t rfl ?_) | (refine Told.f rfl ?_) | (refine Told.f ?_ ?_; (focus assumption)) ); refine AWP.runL e tab_ok L24 300 rfl (by first | trivial | (simp [in64] <;> omega)) ?_)

            )
          refine AWP.lowM m e eA fun cx m e hP2 hw => ?_
          rw [hP] at hP2
          rw [← hw] at hB
          refine AWP.less e ?_ ?_ ?_ ?_ ?_ (nx cx ⟨S, m, e, hP2.trans hPA.symm, hB, hlt⟩) <;> (repeat' (first | exact True.intro | (refine And.intro ?_ ?_) | rfl))
          exact congrArg (fun z => some (SV.i z)) (show ((headL f).length : Int) + 15 = ((sumF f).length : Int) by omega)
      · have he : endI f g.length = ((sumF f).length : Int) := by unfold endI; rw [if_neg hf]
        have he2 : endI f (g.length + 1) = ((sumF f).length : Int) := by unfold endI; rw [if_neg (by omega)]
        rw [he2] at nx
        rw [he]
        refine AWP.runL e tab_ok L24 300 rfl (by trivial ) ?_
        repeat (
          (refine AWP.askT rfl ?_; ((refine Told.t rfl ?_) ); refine AWP.runL e tab_ok L24 300 rfl (by  (simp [in64] <;> omega)) ?_)

          )
        refine AWP.lowM m e eA fun cx m e hP2 hw => ?_
        rw [hP] at hP2
        rw [← hw] at hB
        refine AWP.less e ?_ ?_ ?_ ?_ ?_ (nx cx ⟨S, m, e, hP2.trans hPA.symm, hB, hlt⟩) <;> (repeat' (first | exact True.intro | (refine And.intro ?_ ?_) | rfl))
  · obtain rfl : i = (bodyF f).length := by omega
    clear next
    obtain ⟨h1, h2⟩ := R.done rfl
    have hpre := R.pre
    rw [h1, List.take_length] at hpre
    have he : endI f (rd f (bodyF f).length).1.length = ((sumF f).length : Int) := by unfold endI; rw [h1, if_neg (by omega)]
    rw [he]
    have hne : (rd f (bodyF f).length).1 ≠ [] := by rw [hpre]; intro h; rw [h] at hsl; simp at hsl
    have hg : (((rd f (bodyF f).length).1.length : Int) == ((sumF f).length : Int)) = true := by rw [h1]; simp
    have h4 : decide (((rd f (bodyF f).length).2.2 : Int) < 5) = true := by simp; omega
    rw [← hpre]
    generalize rd f (bodyF f).length = q at *
    obtain ⟨g, x, n⟩ := q
    dsimp only at *
    refine AWP.runL e tab_ok L24 300 rfl (by trivial ) ?_
    repeat (
      (refine AWP.askT rfl ?_; ( (refine Told.t ?_ ?_; (focus ((simp; omega)); done))); refine AWP.runL e tab_ok L24 300 rfl (by trivial ) ?_)

      )
    refine AWP.lenB m e hB rfl rfl fun cx S m e hP2 hB => ?_
    rw [hP] at hP2
    have hP := hP2
    clear hP2
    refine AWP.runL e tab_ok L24 300 rfl (by trivial ) ?_
    repeat (
      (refine AWP.askT rfl ?_; (first | (refine Told.t ?_ ?_; (focus assumption)) | (refine Told.t ?_ ?_; (focus ( (simp [*]; done)); done))); refine AWP.runL e tab_ok L24 300 rfl (by trivial ) ?_)

      )
    refine AWP.stringB m e bty85 hB hne rfl rfl fun cx S m e hP2 hB => ?_
    rw [hP] at hP2
    have hP := hP2
    clear hP2
    refine AWP.runL e tab_ok L24 300 rfl (by trivial ) ?_
    refine AWP.ret e tab_ok rfl ?_
    rw [hP]
    rw [← hpre]
    rfl
end Go.Proofs.YthdcegeampcalaaGreatDoor
