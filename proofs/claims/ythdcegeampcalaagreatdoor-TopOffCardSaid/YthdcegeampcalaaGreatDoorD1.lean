/-
  TopOff returns true, for every frame and every number of rests: the protocol of 200 bits of which one controller is off. Condition: what the theorems state ahead.
-/
import Derived.Test.YthdcegeampcalaaGreatDoorC11
import Derived.Test.YthdcegeampcalaaGreatDoorC12
import Derived.Test.YthdcegeampcalaaGreatDoorC13
import Derived.Test.YthdcegeampcalaaGreatDoorB5
open Go Go.Proofs Go.Sy Go.Stuff
namespace Go.Proofs.YthdcegeampcalaaGreatDoor
/-- What is known of a frame's bit, behind the first. -/
structure BitF (f : Frm) (i : Nat) (c : UInt8) (z1 z2 sz kd : Int) : Prop where
  c3 : Eff Tryz.prog 42 [.agg (xC (rd f i).2.1 (rd f i).2.2), U c] [] 0 (fun r _ _ => r = .tup [.agg (xC (rd f (i + 1)).2.1 (rd f (i + 1)).2.2), .i kd, .i 0])
  hk : (kd = 1 ∧ (rd f (i + 1)).1 = (rd f i).1 ++ [c]) ∨ (kd = 2 ∧ (rd f (i + 1)).1 = (rd f i).1)
  hcc : isB c
  c4 : Eff Tryz.prog 44 [.s (strL (rd f (i + 1)).1)] [] 0 (fun r _ _ => r = .tup [.i z1, .i z2])
  hz2 : (z2 == 12) = false
  c5 : Eff Tryz.prog 66 [.s (strL (rd f (i + 1)).1)] [] 0 (fun r _ _ => r = .i sz)
  hgl : (rd f i).1.length ≤ 1000
  hend : i + 1 < (bodyF f).length → (((strL (rd f (i + 1)).1).size : Int) == sz) = false ∨ ((((strL (rd f (i + 1)).1).size : Int) == sz) = true ∧ decide (((rd f (i + 1)).2.2 : Int) < 5) = false)
  hfin : i + 1 = (bodyF f).length → (((strL (rd f (i + 1)).1).size : Int) == sz) = true ∧ decide (((rd f (i + 1)).2.2 : Int) < 5) = true ∧ Eff Tryz.prog 67 [.s (strL (rd f (i + 1)).1)] [] 0 (fun r _ _ => r = .b true)
theorem bit_f (f : Frm) (hr : rightF f = true) {i : Nat} (h1 : 1 ≤ i) (hi : i < (bodyF f).length) : ∃ z1 z2 sz kd, BitF f i (bodyF f)[i] z1 z2 sz kd := by
  obtain ⟨hk3, hrd⟩ := rd_succ f hi
  have R := rd_of f (Nat.le_of_lt hi)
  have R2 := rd_of f (i := i + 1) hi
  have hrs := rd_right f (Nat.le_of_lt hi)
  have hcc := body_bits f _ (List.getElem_mem hi)
  have hcb := bitB hcc
  have h5 := R.five
  have hsl := sum_len f
  have hle := head_le hr
  have hg := R.len
  have hlen2 := R2.len
  have hpre2 := R2.pre
  have c2 := step_ok (rd f i).2.1 (rd f i).2.2 (bodyF f)[i] hrs hcb h5
  unfold stepR at c2
  have e2 : (rd f (i + 1)).2 = sst (rd f i).2 (bodyF f)[i] := by rw [hrd]
  have e1 : (rd f (i + 1)).1 = if kind (rd f i).2 (bodyF f)[i] = 1 then (rd f i).1 ++ [(bodyF f)[i]] else (rd f i).1 := by rw [hrd]
  have hs := size_take hr _ hlen2
  have hw := take_well hr (f := f) (rd f (i + 1)).1.length
  have c4 := size_eff (rd f (i + 1)).1 (by rw [hpre2]; exact hw)
  have c5 : Eff Tryz.prog 66 [.s (strL (rd f (i + 1)).1)] [] 0 (fun r _ _ => r = .i (szI f (rd f (i + 1)).1.length)) := by
    have := csize_eff hr _ hlen2
    rw [← hpre2] at this
    exact this
  rw [← hpre2] at hs
  have hsz : (strL (rd f (i + 1)).1).size = (rd f (i + 1)).1.length := strL_size _
  refine ⟨_, _, _, (kind (rd f i).2 (bodyF f)[i] : Int), ⟨?_, ?_, hcc, c4, ?_, c5, by omega, fun h => ?_, fun h => ?_⟩⟩
  · rw [e2]; exact c2
  · rw [e1]
    by_cases h5n : (rd f i).2.2 = 5
    · right
      have hk2 : kind (rd f i).2 (bodyF f)[i] = 2 := by
        unfold kind at hk3 ⊢
        rw [if_pos h5n] at hk3 ⊢
        split at hk3
        · exact absurd rfl hk3
        · rename_i h; rw [if_neg h]
      rw [hk2]
      exact ⟨rfl, rfl⟩
    · left
      have hk1 : kind (rd f i).2 (bodyF f)[i] = 1 := by unfold kind; rw [if_neg h5n]
      rw [hk1]
      exact ⟨rfl, rfl⟩
  · rw [hs]
    split <;> rfl
  · have hb := R2.before h
    rw [hsz]
    unfold szI
    have hfx := fix_le f
    split
    · left
      have := rd_zero hr (i := i + 1) (by omega) hi
      simp
      intro h0
      rw [h0] at this
      simp at this
    · rcases Nat.lt_or_ge (rd f (i + 1)).1.length (sumF f).length with hl | hl
      · left
        simp
        omega
      · right
        simp
        omega
  · obtain ⟨d1, d2⟩ := R2.done h
    have hfx := fix_le f
    have hall : (rd f (i + 1)).1 = sumF f := by rw [hpre2, d1, List.take_length]
    have c6 := good_eff f hr
    refine ⟨?_, by simp; omega, by rw [hall]; exact c6⟩
    rw [hsz]
    unfold szI
    have := head_len f
    split
    · omega
    · simp
      omega
/-- A bit comes. -/
theorem rc_bit (f : Frm) (hr : rightF f = true) {i : Nat} (h1 : 1 ≤ i) (hi : i < (bodyF f).length) : Eff Tryz.prog 30 [.agg (inS false f0 [] 0 (rd f i).2 (rd f i).1 false 0 false), U (bodyF f)[i]] [] 0
    (fun r _ _ => r = .tup [.agg (inS false f0 [] 0 (rd f (i + 1)).2 (rd f (i + 1)).1 (decide (i + 1 = (bodyF f).length)) 0 (decide (i + 1 = (bodyF f).length))), .agg ev0, .i 0]) := by
  obtain ⟨z1, z2, sz, kd, F⟩ := bit_f f hr h1 hi
  have c1 := cr_come f hr i h1 hi
  by_cases he : i + 1 = (bodyF f).length
  · obtain ⟨g1, g2, c6⟩ := F.hfin he
    rw [decide_eq_true he]
    exact co_end _ _ _ _ _ _ _ z1 z2 sz kd c1 F.c3 F.hk F.hcc F.c4 F.hz2 F.c5 F.hgl g1 g2 c6
  · rw [decide_eq_false he]
    exact co_step _ _ _ _ _ _ _ z1 z2 sz kd c1 F.c3 F.hk F.hcc F.c4 F.hz2 F.c5 F.hgl (F.hend (by omega))
/-- A bit is sent. -/
theorem sd_bit (f : Frm) (hr : rightF f = true) {i : Nat} (h1 : 1 ≤ i) (hi : i < (bodyF f).length) : Eff Tryz.prog 30 [.agg (inS true f (bitsF f) (i : Nat) (rd f i).2 (rd f i).1 false 0 false), U (bodyF f)[i]] [] 0
    (fun r _ _ => r = .tup [.agg (inS true f (bitsF f) (i + 1 : Nat) (rd f (i + 1)).2 (rd f (i + 1)).1 (decide (i + 1 = (bodyF f).length)) 0 (decide (i + 1 = (bodyF f).length))), .agg ev0, .i 0]) := by
  obtain ⟨z1, z2, sz, kd, F⟩ := bit_f f hr h1 hi
  have c1 := cr_send f hr i h1 hi
  have hBl : (bitsF f).length = (bodyF f).length + 10 := by unfold bitsF; rw [List.length_append]; rfl
  have hBs : (strL (bitsF f)).size = (bitsF f).length := strL_size _
  have hcc : (bitsF f)[i]'(by omega) = (bodyF f)[i] := by unfold bitsF; exact List.getElem_append_left hi
  have hb : byteAt (strL (bitsF f)) i = (((bodyF f)[i]).toNat : Int) := by rw [b_at (bitsF f) i (by omega), hcc]
  have hbl := body_len hr
  by_cases he : i + 1 = (bodyF f).length
  · obtain ⟨g1, g2, c6⟩ := F.hfin he
    rw [decide_eq_true he]
    exact se_end f _ i _ _ _ _ _ _ _ z1 z2 sz kd c1 F.c3 F.hk F.hcc F.c4 F.hz2 F.c5 F.hgl (by omega) (by omega) hb g1 g2 c6
  · rw [decide_eq_false he]
    exact se_step f _ i _ _ _ _ _ _ _ z1 z2 sz kd c1 F.c3 F.hk F.hcc F.c4 F.hz2 F.c5 F.hgl (by omega) (by omega) hb (F.hend (by omega))
end Go.Proofs.YthdcegeampcalaaGreatDoor

open Go Go.Proofs Go.Sy Go.Stuff
namespace Go.Proofs.YthdcegeampcalaaGreatDoor
/-- One that is in no frame. -/
def outC (off : Bool) (rest st n : Int) (was has : Bool) (fr : Frm) : Ct := ⟨0, 0, off, rest, st, n, was, false, has, (fr.id.toNat : Int), fr.ext, fr.rem, fr.dlc, strL fr.data, false, strL [], 0, 0, 0, strL [], false, 0, false⟩
/-- One that is in a frame. -/
def inC (s : Bool) (fr : Frm) (out : List UInt8) (at_ : Int) (x : X) (got : List UInt8) (fin : Bool) (tl : Int) (good : Bool) : Ct := ⟨0, 0, false, 0, 2, 0, s, false, s, (fr.id.toNat : Int), fr.ext, fr.rem, fr.dlc, strL fr.data, s, strL out, at_, (x.1.toNat : Int), x.2, strL got, fin, tl, good⟩
theorem out_v (off : Bool) (rest st n : Int) (was has : Bool) (fr : Frm) : ctV (outC off rest st n was has fr) = outS off rest st n was has fr := rfl
theorem in_v (s : Bool) (fr : Frm) (out : List UInt8) (at_ : Int) (x : X) (got : List UInt8) (fin : Bool) (tl : Int) (good : Bool) : ctV (inC s fr out at_ x got fin tl good) = inS s fr out at_ x got fin tl good := rfl
def evC (kind : Int) (fr : Frm) (bad : Int) : Ev := ⟨kind, (fr.id.toNat : Int), fr.ext, fr.rem, fr.dlc, strL fr.data, bad⟩
theorem ev_v (kind : Int) (fr : Frm) (bad : Int) : evV (evC kind fr bad) = evS kind fr bad := rfl
abbrev evN : Ev := evC 0 f0 0
/-- A controller's bit: what it drives, what it is then, and what happened. -/
structure Stp (c c' : Ct) (d b : UInt8) (v : Ev) : Prop where
  rt : Eff Tryz.prog 28 [.agg (ctV c)] [] 0 (fun r _ _ => r = .b true)
  dr : Eff Tryz.prog 52 [.agg (ctV c)] [] 0 (fun r _ _ => r = .tup [U d, .i 0])
  sa : Eff Tryz.prog 30 [.agg (ctV c), U b] [] 0 (fun r _ _ => r = .tup [.agg (ctV c'), .agg (evV v), .i 0])
theorem bus_bit {s s' r r' o o' : Ct} {d0 d1 d2 b : UInt8} {v0 v1 v2 : Ev} (A : Stp s s' d0 b v0) (B : Stp r r' d1 b v1) (C : Stp o o' d2 b v2) (hA : andR [[d0], [d1], [d2]] = ([b], 0)) (now : Int) (hn : 0 ≤ now ∧ now ≤ 100000) :
    Eff Tryz.prog 17 [busV [s, r, o] now, .d .nil] [] 0 (fun q h n => ∃ C, 0 ≤ C ∧ q = .tup [.agg [.own 2 23 0 3 C, .i (now + 1)], .d (.sl 7 ([v0, v1, v2].map evD))] ∧ h = [(1, .box [.own 2 23 0 3 C, .i (now + 1)]), (2, .row 38 false 23 ([s', r', o'].map ctV) C)] ∧ n = 4) := by
  have cL := level_eff [s, r, o] now [d0, d1, d2] b (by simp) rfl (fun i h h2 => by
    match i, h, h2 with
    | 0, _, _ => exact A.dr
    | 1, _, _ => exact B.dr
    | 2, _, _ => exact C.dr
    | n + 3, h, _ => exact absurd h (by show ¬ n + 3 < 3; omega)) hA
  exact step_eff' [s, r, o] [s', r', o'] [v0, v1, v2] now b (by simp) rfl rfl hn cL (fun i h h2 h3 => by
    match i, h, h2, h3 with
    | 0, _, _, _ => exact A.sa
    | 1, _, _, _ => exact B.sa
    | 2, _, _, _ => exact C.sa
    | n + 3, h, _, _ => exact absurd h (by show ¬ n + 3 < 3; omega))
theorem bus_right {s s' r r' o o' : Ct} {d0 d1 d2 b : UInt8} {v0 v1 v2 : Ev} (A : Stp s s' d0 b v0) (B : Stp r r' d1 b v1) (C : Stp o o' d2 b v2) (now : Int) (h0 : 0 ≤ now) (h1 : now ≤ 100000) :
    Eff Tryz.prog 14 [busV [s, r, o] now] [] 0 (fun r _ _ => r = .b true) :=
  bright_eff [s, r, o] now (by simp) (by simp) h0 h1 (fun c hc => by
    simp only [List.mem_cons, List.not_mem_nil, or_false] at hc
    rcases hc with rfl | rfl | rfl
    · exact A.rt
    · exact B.rt
    · exact C.rt)
/-- What was not yet there joins. -/
def jC (k : Nat) : Ct := if k < 11 then outC false 0 0 k false false f0 else outC false 0 1 0 false false f0
theorem j_stp (k : Nat) (hk : k < 11) : Stp (jC k) (jC (k + 1)) 49 49 evN := by
  unfold jC
  rw [if_pos hk]
  rcases Nat.lt_or_ge k 10 with h | h
  · rw [if_pos (by omega)]
    exact ⟨cr_join k (by omega) (by omega), dr_join k (by omega) (by omega), sa_join k h⟩
  · obtain rfl : k = 10 := by omega
    rw [if_neg (by omega)]
    exact ⟨cr_join 10 (by decide) (by decide), dr_join 10 (by decide) (by decide), sa_joined⟩
end Go.Proofs.YthdcegeampcalaaGreatDoor

open Go Go.Proofs Go.Sy Go.Stuff
namespace Go.Proofs.YthdcegeampcalaaGreatDoor
theorem out_none (now : Int) (ev : Nat → List Ev) (h : ∀ k, ev k = [evN, evN, evN]) : ∀ k, outF now ev k = []
  | 0 => rfl
  | k + 1 => by
    rw [outF, out_none now ev h k, h]
    rfl
/-- Three that are ready. -/
theorem ready_ok : Eff Tryz.prog 7 [.i 3] [] 0 (fun r h q => ∃ C, 0 ≤ C ∧ r = .tup [.agg [.own 5 23 0 3 C, .i 11], .b true] ∧ h = [(0, .box [.own 5 23 0 3 C, .i 11]), (5, .row 38 false 23 ([jC 11, jC 11, jC 11].map ctV) C)] ∧ q = 6) := by
  have hb := bnew_eff (jC 0) new_eff
  have hA : andR [[49], [49], [49]] = ([49], 0) := by decide
  have hr := run_eff 11 3 (fun k => [jC k, jC k, jC k]) (fun _ => [evN, evN, evN]) 0 (by decide) (by decide) (by decide) (by decide) (by decide) (by decide) (fun _ => rfl) (fun _ => rfl)
    (bus_right (j_stp 0 (by decide)) (j_stp 0 (by decide)) (j_stp 0 (by decide)) 0 (by decide) (by decide))
    (fun k hk => bus_bit (j_stp k hk) (j_stp k hk) (j_stp k hk) hA (0 + (k : Int)) (by omega))
  rw [out_none 0 _ (fun _ => rfl) 11] at hr
  exact T3.ready_eff (jC 0) (jC 11) hb hr
end Go.Proofs.YthdcegeampcalaaGreatDoor

open Go Go.Proofs Go.Sy Go.Stuff
namespace Go.Proofs.YthdcegeampcalaaGreatDoor
/-- What the wire bears: a frame, its end, and rest. -/
def wire (f : Frm) (k : Nat) : UInt8 := if h : k < (bodyF f).length then (bodyF f)[k] else if k = (bodyF f).length + 1 then 48 else 49
/-- The one that takes the frame. -/
def rC (f : Frm) (k : Nat) : Ct :=
  if k = 0 then outC false 0 1 0 false false f0
  else if k < (bodyF f).length then inC false f0 [] 0 (rd f k).2 (rd f k).1 false 0 false
  else if k < (bodyF f).length + 10 then inC false f0 [] 0 (rd f (bodyF f).length).2 (rd f (bodyF f).length).1 true (k - (bodyF f).length : Nat) true
  else if k < (bodyF f).length + 13 then outC false 0 6 (k - (bodyF f).length - 10 : Nat) false false f0
  else outC false 0 1 0 false false f0
def rEv (f : Frm) (k : Nat) : Ev := if k = (bodyF f).length + 8 then evC 2 f 0 else evN
/-- The one that sends the frame. -/
def sC (f : Frm) (k : Nat) : Ct :=
  if k = 0 then outC false 0 1 0 false true f
  else if k < (bodyF f).length then inC true f (bitsF f) (k : Nat) (rd f k).2 (rd f k).1 false 0 false
  else if k < (bodyF f).length + 10 then inC true f (bitsF f) ((bodyF f).length + (k - (bodyF f).length) : Nat) (rd f (bodyF f).length).2 (rd f (bodyF f).length).1 true (k - (bodyF f).length : Nat) true
  else if k < (bodyF f).length + 13 then outC false 0 6 (k - (bodyF f).length - 10 : Nat) true false f0
  else outC false 0 1 0 true false f0
def sEv (f : Frm) (k : Nat) : Ev := if k = (bodyF f).length + 9 then evC 1 f 0 else evN
/-- What each drives. -/
def rD (f : Frm) (k : Nat) : UInt8 := if k = (bodyF f).length + 1 then 48 else 49
def sD (f : Frm) (k : Nat) : UInt8 := if h : k < (bodyF f).length then (bodyF f)[k] else 49
theorem wire_and (f : Frm) (k : Nat) : andR [[sD f k], [rD f k], [49]] = ([wire f k], 0) := by
  unfold sD rD wire
  by_cases h : k < (bodyF f).length
  · rw [dif_pos h, dif_pos h, if_neg (by omega)]
    rcases body_bits f _ (List.getElem_mem h) with g | g <;> rw [g] <;> decide
  · rw [dif_neg h, dif_neg h]
    split <;> decide
theorem rC_in (f : Frm) {k : Nat} (h1 : 1 ≤ k) (h : k < (bodyF f).length) : rC f k = inC false f0 [] 0 (rd f k).2 (rd f k).1 false 0 false := by
  unfold rC
  rw [if_neg (by omega), if_pos h]
theorem rC_next (f : Frm) {k : Nat} (h : k + 1 ≤ (bodyF f).length) : rC f (k + 1) = inC false f0 [] 0 (rd f (k + 1)).2 (rd f (k + 1)).1 (decide (k + 1 = (bodyF f).length)) 0 (decide (k + 1 = (bodyF f).length)) := by
  unfold rC
  rw [if_neg (by omega)]
  by_cases he : k + 1 = (bodyF f).length
  · rw [if_neg (by omega), if_pos (by omega), decide_eq_true he, he, Nat.sub_self]
    rfl
  · rw [if_pos (by omega), decide_eq_false he]
theorem rC_tail (f : Frm) {t : Nat} (hp : 1 ≤ (bodyF f).length) (h : t < 10) : rC f ((bodyF f).length + t) = inC false f0 [] 0 (rd f (bodyF f).length).2 (rd f (bodyF f).length).1 true (t : Nat) true := by
  unfold rC
  rw [if_neg (by omega), if_neg (by omega), if_pos (by omega), Nat.add_sub_cancel_left]
theorem rC_gap (f : Frm) {t : Nat} (hp : 1 ≤ (bodyF f).length) (h : t < 3) : rC f ((bodyF f).length + 10 + t) = outC false 0 6 (t : Nat) false false f0 := by
  unfold rC
  rw [if_neg (by omega), if_neg (by omega), if_neg (by omega), if_pos (by omega), show (bodyF f).length + 10 + t - (bodyF f).length - 10 = t by omega]
theorem rC_idle (f : Frm) {k : Nat} (hp : 1 ≤ (bodyF f).length) (h : (bodyF f).length + 13 ≤ k) : rC f k = outC false 0 1 0 false false f0 := by
  unfold rC
  rw [if_neg (by omega), if_neg (by omega), if_neg (by omega), if_neg (by omega)]
theorem sC_in (f : Frm) {k : Nat} (h1 : 1 ≤ k) (h : k < (bodyF f).length) : sC f k = inC true f (bitsF f) (k : Nat) (rd f k).2 (rd f k).1 false 0 false := by
  unfold sC
  rw [if_neg (by omega), if_pos h]
theorem sC_next (f : Frm) {k : Nat} (h : k + 1 ≤ (bodyF f).length) : sC f (k + 1) = inC true f (bitsF f) (k + 1 : Nat) (rd f (k + 1)).2 (rd f (k + 1)).1 (decide (k + 1 = (bodyF f).length)) 0 (decide (k + 1 = (bodyF f).length)) := by
  unfold sC
  rw [if_neg (by omega)]
  by_cases he : k + 1 = (bodyF f).length
  · rw [if_neg (by omega), if_pos (by omega), decide_eq_true he, he, Nat.sub_self]
    rfl
  · rw [if_pos (by omega), decide_eq_false he]
theorem sC_tail (f : Frm) {t : Nat} (hp : 1 ≤ (bodyF f).length) (h : t < 10) : sC f ((bodyF f).length + t) = inC true f (bitsF f) ((bodyF f).length + t : Nat) (rd f (bodyF f).length).2 (rd f (bodyF f).length).1 true (t : Nat) true := by
  unfold sC
  rw [if_neg (by omega), if_neg (by omega), if_pos (by omega), Nat.add_sub_cancel_left]
theorem sC_gap (f : Frm) {t : Nat} (hp : 1 ≤ (bodyF f).length) (h : t < 3) : sC f ((bodyF f).length + 10 + t) = outC false 0 6 (t : Nat) true false f0 := by
  unfold sC
  rw [if_neg (by omega), if_neg (by omega), if_neg (by omega), if_pos (by omega), show (bodyF f).length + 10 + t - (bodyF f).length - 10 = t by omega]
theorem sC_idle (f : Frm) {k : Nat} (hp : 1 ≤ (bodyF f).length) (h : (bodyF f).length + 13 ≤ k) : sC f k = outC false 0 1 0 true false f0 := by
  unfold sC
  rw [if_neg (by omega), if_neg (by omega), if_neg (by omega), if_neg (by omega)]
end Go.Proofs.YthdcegeampcalaaGreatDoor

open Go Go.Proofs Go.Sy Go.Stuff
namespace Go.Proofs.YthdcegeampcalaaGreatDoor
theorem rD_no (f : Frm) {k : Nat} (h : k ≠ (bodyF f).length + 1) : rD f k = 49 := if_neg h
theorem sD_at (f : Frm) {k : Nat} (h : k < (bodyF f).length) : sD f k = (bodyF f)[k] := dif_pos h
theorem sD_no (f : Frm) {k : Nat} (h : (bodyF f).length ≤ k) : sD f k = 49 := dif_neg (by omega)
theorem wire_at (f : Frm) {k : Nat} (h : k < (bodyF f).length) : wire f k = (bodyF f)[k] := dif_pos h
theorem wire_no (f : Frm) {k : Nat} (h : (bodyF f).length ≤ k) (h1 : k ≠ (bodyF f).length + 1) : wire f k = 49 := by unfold wire; rw [dif_neg (by omega), if_neg h1]
theorem wire_ack (f : Frm) : wire f ((bodyF f).length + 1) = 48 := by unfold wire; rw [dif_neg (by omega), if_pos rfl]
theorem rEv_no (f : Frm) {k : Nat} (h : k ≠ (bodyF f).length + 8) : rEv f k = evN := if_neg h
theorem sEv_no (f : Frm) {k : Nat} (h : k ≠ (bodyF f).length + 9) : sEv f k = evN := if_neg h
/-- Where a bit lies. -/
theorem where_is (L k : Nat) : k = 0 ∨ (1 ≤ k ∧ k < L) ∨ (∃ t, t < 10 ∧ k = L + t) ∨ (∃ t, t < 3 ∧ k = L + 10 + t) ∨ L + 13 ≤ k := by
  by_cases h0 : k = 0
  · exact .inl h0
  by_cases h1 : k < L
  · exact .inr (.inl ⟨by omega, h1⟩)
  by_cases h2 : k < L + 10
  · exact .inr (.inr (.inl ⟨k - L, by omega, by omega⟩))
  by_cases h3 : k < L + 13
  · exact .inr (.inr (.inr (.inl ⟨k - L - 10, by omega, by omega⟩)))
  · exact .inr (.inr (.inr (.inr (by omega))))
theorem r_stp (f : Frm) (hr : rightF f = true) (k : Nat) : Stp (rC f k) (rC f (k + 1)) (rD f k) (wire f k) (rEv f k) := by
  have hp := body_pos hr
  have hl := body_len hr
  have hle := head_le hr
  have hsl := sum_len f
  rcases where_is (bodyF f).length k with rfl | ⟨h1, h⟩ | ⟨t, ht, rfl⟩ | ⟨t, ht, rfl⟩ | h
  · rw [rC_next f (by omega), rd_one hr, rD_no f (by omega), wire_at f (by omega), body_0 (by omega), rEv_no f (by omega), decide_eq_false (by omega)]
    exact ⟨cr_idle false, dr_idle false, sa_begin false⟩
  · rw [rC_in f h1 h, rC_next f h, rD_no f (by omega), wire_at f h, rEv_no f (by omega)]
    exact ⟨cr_come f hr k h1 h, dr_come f hr k h1 h, rc_bit f hr h1 h⟩
  · have c1 := cr_tail f hr t (by omega)
    rw [rC_tail f (by omega) ht]
    by_cases h1 : t = 1
    · subst h1
      rw [Nat.add_assoc, rC_tail f (by omega) (by decide), wire_ack, rEv_no f (by omega)]
      exact ⟨c1, by unfold rD; rw [if_pos rfl]; exact dr_ack f hr, ta_ack _ _ c1⟩
    · have d1 := dr_tail f hr t (by omega) h1
      rw [rD_no f (by omega), wire_no f (by omega) (by omega)]
      by_cases h8 : t = 8
      · subst h8
        have hs : (rd f (bodyF f).length).1 = sumF f := by
          have R := rd_of f (Nat.le_refl (bodyF f).length)
          rw [R.pre, (R.done rfl).1, List.take_length]
        have hz := strL_size (sumF f)
        rw [Nat.add_assoc, rC_tail f (by omega) (by decide), show rEv f ((bodyF f).length + 8) = evC 2 f 0 from if_pos rfl]
        refine ⟨c1, d1, ta_came f _ _ (headL f) c1 (read_eff f hr) ?_ ?_ ?_⟩
        · rw [hs, hz, show (((sumF f).length : Int) - 15).toNat = (headL f).length by omega, str_ext, List.drop_zero, sum_take]
        · rw [hs, hz]; omega
        · rw [hs, hz]; omega
      · rw [rEv_no f (by omega)]
        by_cases h9 : t = 9
        · subst h9
          rw [show (bodyF f).length + 9 + 1 = (bodyF f).length + 10 + 0 by omega, rC_gap f (by omega) (by decide)]
          exact ⟨c1, d1, ta_end _ _ c1⟩
        · rw [Nat.add_assoc, rC_tail f (by omega) (by omega)]
          exact ⟨c1, d1, ta_plain _ _ t c1 (by simp; omega) (by simp; omega) (by simp; omega) (by omega)⟩
  · rw [rC_gap f (by omega) ht, rD_no f (by omega), wire_no f (by omega) (by omega), rEv_no f (by omega)]
    by_cases h2 : t = 2
    · subst h2
      rw [show (bodyF f).length + 10 + 2 + 1 = (bodyF f).length + 13 by omega, rC_idle f (by omega) (Nat.le_refl _)]
      exact ⟨cr_gap 2 false (by decide) (by decide), dr_gap 2 false (by decide) (by decide), sa_gaps false⟩
    · rw [Nat.add_assoc _ t 1, rC_gap f (by omega) (by omega)]
      exact ⟨cr_gap t false (by omega) (by omega), dr_gap t false (by omega) (by omega), sa_gap t false (by omega)⟩
  · rw [rC_idle f (by omega) h, rC_idle f (by omega) (Nat.le_succ_of_le h), rD_no f (by omega), wire_no f (by omega) (by omega), rEv_no f (by omega)]
    exact ⟨cr_idle false, dr_idle false, sa_idle false⟩
theorem s_stp (f : Frm) (hr : rightF f = true) (k : Nat) : Stp (sC f k) (sC f (k + 1)) (sD f k) (wire f k) (sEv f k) := by
  have hp := body_pos hr
  have hl := body_len hr
  rcases where_is (bodyF f).length k with rfl | ⟨h1, h⟩ | ⟨t, ht, rfl⟩ | ⟨t, ht, rfl⟩ | h
  · rw [sC_next f (by omega), rd_one hr, sD_at f (by omega), wire_at f (by omega), body_0 (by omega), sEv_no f (by omega), decide_eq_false (by omega)]
    exact ⟨cr_has false f hr, dr_has false f hr, sa_sends false f hr⟩
  · rw [sC_in f h1 h, sC_next f h, sD_at f h, wire_at f h, sEv_no f (by omega)]
    exact ⟨cr_send f hr k h1 h, dr_send f hr k h1 h, sd_bit f hr h1 h⟩
  · have c1 := cr_stail f hr t (by omega)
    have d1 := dr_stail f hr t (by omega)
    rw [sC_tail f (by omega) ht, sD_no f (by omega)]
    by_cases h1 : t = 1
    · subst h1
      rw [Nat.add_assoc, sC_tail f (by omega) (by decide), wire_ack, sEv_no f (by omega)]
      exact ⟨c1, d1, st_ack f _ _ _ _ c1 (by omega)⟩
    · rw [wire_no f (by omega) (by omega)]
      by_cases h9 : t = 9
      · subst h9
        rw [show (bodyF f).length + 9 + 1 = (bodyF f).length + 10 + 0 by omega, sC_gap f (by omega) (by decide), show sEv f ((bodyF f).length + 9) = evC 1 f 0 from if_pos rfl]
        exact ⟨c1, d1, st_end f _ _ _ _ c1⟩
      · rw [Nat.add_assoc, sC_tail f (by omega) (by omega), sEv_no f (by omega)]
        exact ⟨c1, d1, st_plain f _ _ _ _ t c1 (by simp; omega) (by simp; omega) (by omega) (by omega)⟩
  · rw [sC_gap f (by omega) ht, sD_no f (by omega), wire_no f (by omega) (by omega), sEv_no f (by omega)]
    by_cases h2 : t = 2
    · subst h2
      rw [show (bodyF f).length + 10 + 2 + 1 = (bodyF f).length + 13 by omega, sC_idle f (by omega) (Nat.le_refl _)]
      exact ⟨cr_gap 2 true (by decide) (by decide), dr_gap 2 true (by decide) (by decide), sa_gaps true⟩
    · rw [Nat.add_assoc _ t 1, sC_gap f (by omega) (by omega)]
      exact ⟨cr_gap t true (by omega) (by omega), dr_gap t true (by omega) (by omega), sa_gap t true (by omega)⟩
  · rw [sC_idle f (by omega) h, sC_idle f (by omega) (Nat.le_succ_of_le h), sD_no f (by omega), wire_no f (by omega) (by omega), sEv_no f (by omega)]
    exact ⟨cr_idle true, dr_idle true, sa_idle true⟩
/-- One that is off: so many bits that rest, so many rests. -/
def offN (f : Frm) : Nat → Nat × Nat
  | 0 => (0, 0)
  | k + 1 => if wire f k = 48 then (0, (offN f k).2) else if (offN f k).1 = 10 then (0, (offN f k).2 + 1) else ((offN f k).1 + 1, (offN f k).2)
theorem off_le (f : Frm) : ∀ k, (offN f k).1 ≤ 10 ∧ 11 * (offN f k).2 + (offN f k).1 ≤ k
  | 0 => ⟨Nat.zero_le _, Nat.le_refl _⟩
  | k + 1 => by
    have := off_le f k
    unfold offN
    split
    · exact ⟨Nat.zero_le _, by show 11 * _ + 0 ≤ _; omega⟩
    · split
      · exact ⟨Nat.zero_le _, by show 11 * (_ + 1) + 0 ≤ _; omega⟩
      · exact ⟨by show _ + 1 ≤ _; omega, by show 11 * _ + (_ + 1) ≤ _; omega⟩
def oC (f : Frm) (R : Int) (k : Nat) : Ct := outC true (R - (offN f k).2) 8 ((offN f k).1 : Nat) false true f0
theorem wire_bit (f : Frm) (k : Nat) : wire f k = 48 ∨ wire f k = 49 := by
  unfold wire
  split
  · exact body_bits f _ (List.getElem_mem _)
  · split
    · exact .inl rfl
    · exact .inr rfl
theorem o_stp (f : Frm) (R : Int) (h0 : 20 ≤ R) (h1 : R ≤ 128) (k : Nat) (hk : k < 200) : Stp (oC f R k) (oC f R (k + 1)) 49 (wire f k) evN := by
  obtain ⟨g1, g2⟩ := off_le f k
  have c1 := cr_off (R - (offN f k).2) (offN f k).1 (by omega) (by omega) (by omega) (by omega)
  have d1 := dr_off (R - (offN f k).2) (offN f k).1 (by omega) (by omega) (by omega) (by omega)
  have hn : offN f (k + 1) = if wire f k = 48 then (0, (offN f k).2) else if (offN f k).1 = 10 then (0, (offN f k).2 + 1) else ((offN f k).1 + 1, (offN f k).2) := rfl
  unfold oC
  rw [hn]
  rcases wire_bit f k with h | h
  · rw [h, if_pos rfl]
    exact ⟨c1, d1, sa_off0 (R - (offN f k).2) (offN f k).1 (by omega) (by omega) (by omega) (by omega)⟩
  · rw [h, if_neg (by decide)]
    by_cases h10 : (offN f k).1 = 10
    · rw [if_pos h10]
      rw [h10] at c1 d1 ⊢
      have := sa_off11 (R - (offN f k).2) (by omega) (by omega)
      rw [show R - ((offN f k).2 : Int) - 1 = R - ((offN f k).2 + 1 : Nat) by push_cast; omega] at this
      exact ⟨c1, d1, this⟩
    · rw [if_neg h10]
      exact ⟨c1, d1, sa_off1 (R - (offN f k).2) (offN f k).1 (by omega) (by omega) (by omega)⟩
end Go.Proofs.YthdcegeampcalaaGreatDoor

open Go Go.Proofs Go.Sy Go.Stuff
namespace Go.Proofs.YthdcegeampcalaaGreatDoor
abbrev evs (f : Frm) (k : Nat) : List Ev := [sEv f k, rEv f k, evN]
abbrev cameD (f : Frm) : List DV := snD (11 + ((bodyF f).length + 8 : Nat)) 1 (evC 2 f 0)
abbrev sentD (f : Frm) : List DV := snD (11 + ((bodyF f).length + 9 : Nat)) 0 (evC 1 f 0)
theorem out_two (f : Frm) : ∀ k, outF 11 (evs f) k = (if (bodyF f).length + 8 < k then [cameD f] else []) ++ (if (bodyF f).length + 9 < k then [sentD f] else [])
  | 0 => by rw [if_neg (by omega), if_neg (by omega)]; rfl
  | k + 1 => by
    rw [outF, out_two f k]
    by_cases h8 : k = (bodyF f).length + 8
    · have e : evs f k = [evN, evC 2 f 0, evN] := by
        show [sEv f k, rEv f k, evN] = _
        rw [sEv_no f (by omega), show rEv f k = evC 2 f 0 from if_pos h8]
      rw [e, if_neg (by omega), if_neg (by omega), if_pos (by omega), if_neg (by omega), h8]
      rfl
    · by_cases h9 : k = (bodyF f).length + 9
      · have e : evs f k = [evC 1 f 0, evN, evN] := by
          show [sEv f k, rEv f k, evN] = _
          rw [rEv_no f (by omega), show sEv f k = evC 1 f 0 from if_pos h9]
        rw [e, if_pos (by omega), if_neg (by omega), if_pos (by omega), if_pos (by omega), h9]
        rfl
      · have e : evs f k = [evN, evN, evN] := by
          show [sEv f k, rEv f k, evN] = _
          rw [sEv_no f h9, rEv_no f h8]
        have h0 : seenF (11 + (k : Int)) 0 (evs f k) = [] := by rw [e]; rfl
        rw [h0, List.append_nil]
        congr 1
        · by_cases h : (bodyF f).length + 8 < k
          · rw [if_pos h, if_pos (by omega)]
          · rw [if_neg h, if_neg (by omega)]
        · by_cases h : (bodyF f).length + 9 < k
          · rw [if_pos h, if_pos (by omega)]
          · rw [if_neg h, if_neg (by omega)]
/-- Two hundred bits of a bus of which one is off. -/
theorem run_ok (f : Frm) (hr : rightF f = true) (R : Int) (h0 : 20 ≤ R) (h1 : R ≤ 128) : Eff Tryz.prog 10 [busV [sC f 0, rC f 0, oC f R 0] 11, .i 200] [] 0
    (fun r h q => ∃ C, 0 ≤ C ∧ r = .tup [.agg [.own 3 23 0 3 C, .i 211], .d (.sl 9 [cameD f, sentD f]), .i 0] ∧ h = [(1, .box [.own 3 23 0 3 C, .i 211]), (3, .row 38 false 23 ([sC f 200, rC f 200, oC f R 200].map ctV) C)] ∧ q = 4) := by
  have hl := body_len hr
  have hr' := run_eff 200 3 (fun k => [sC f k, rC f k, oC f R k]) (evs f) 11 (by decide) (by decide) (by decide) (by decide) (by decide) (by decide) (fun _ => rfl) (fun _ => rfl)
    (bus_right (s_stp f hr 0) (r_stp f hr 0) (o_stp f R h0 h1 0 (by decide)) 11 (by decide) (by decide))
    (fun k hk => bus_bit (s_stp f hr k) (r_stp f hr k) (o_stp f R h0 h1 k hk) (wire_and f k) (11 + (k : Int)) (by omega))
  rw [out_two, if_pos (by omega), if_pos (by omega)] at hr'
  exact hr'
end Go.Proofs.YthdcegeampcalaaGreatDoor

open Go Go.Proofs Go.Sy Go.Stuff
namespace Go.Proofs.YthdcegeampcalaaGreatDoor
theorem sub_ok (f : Frm) (hr : rightF f = true) (R : Int) (h0 : 20 ≤ R) (h1 : R ≤ 128) : Eff Tryz.prog 9 [busV [jC 11, jC 11, oC f R 0] 11, .i 0, .agg (fS f)] [] 0 (fun r _ _ => r = .tup [busV [sC f 0, rC f 0, oC f R 0] 11, .i 0]) := by
  have c0 := r_stp f hr 0
  have c2 := o_stp f R h0 h1 0 (by decide)
  exact bsubmit_eff (jC 11) (jC 11) (oC f R 0) (sC f 0) 11 f (bus_right c0 c0 c2 11 (by decide) (by decide)) (csubmit_eff false f hr)
theorem oC_0 (f : Frm) (R : Int) : oC f R 0 = outC true R 8 0 false true f0 := by
  show outC true (R - ((0 : Nat) : Int)) 8 0 false true f0 = _
  rw [show R - ((0 : Nat) : Int) = R by omega]
theorem ev_same (f : Frm) : ((evC 2 f 0).kind == 2 && ((evC 2 f 0).fid == (f.id.toNat : Int) && ((evC 2 f 0).ext == f.ext && ((evC 2 f 0).rem == f.rem && ((evC 2 f 0).dlc == f.dlc && ((evC 2 f 0).data.toList == (strL f.data).toList && ((evC 2 f 0).bad == 0 && true))))))) = true := by
  simp [evC]
set_option maxRecDepth 100000 in
set_option maxHeartbeats 4000000 in
theorem topoff_eff (f : Frm) (rest : Int) : Eff Tryz.prog 3 [.agg (fS f), .i rest] [] 0 (fun r _ _ => r = .b true) := by
  have c1 := few_eff f
  generalize { f with data := f.data.take 12 } = f1 at c1
  have c2 := refright_eff f1
  have c3 := alive_eff
  refine eff_of Tryz.func3 rfl rfl rfl fun cx e hP => ?_
  rcases cases_b (rightF f1) with hr | hr
  · rw [hr] at c2
    have cS := sub_ok f1 hr
    have cR := run_ok f1 hr
    refine AWP.runL e tab_ok L3 300 rfl (by trivial ) ?_
    repeat (
      first
        | (refine AWP.askT rfl ?_; ( (refine Told.f rfl ?_) ); refine AWP.runL e tab_ok L3 300 rfl (by trivial ) ?_)
        | (refine AWP.callQ e rfl rfl ?_; (first | refine CallQ.mk (c1) rfl rfl ?_ | refine CallQ.mk (c2) rfl rfl ?_); refine AWP.runL e tab_ok L3 300 rfl (by trivial ) ?_)

      )
    refine AWP.callC e ready_ok rfl rfl rfl rfl fun C _ => ⟨⟨trivial, ct_ids _ 0, trivial⟩, ?_⟩
    refine AWP.runL e tab_ok L3 300 rfl (by trivial ) ?_
    repeat (
      first
        | (refine AWP.askT rfl ?_; ( (refine Told.f rfl ?_) ); refine AWP.runL e tab_ok L3 300 rfl (by trivial ) ?_)
        | (refine AWP.callQ e rfl rfl ?_; (first | refine CallQ.mk (c3) rfl rfl ?_ | refine CallQ.mk (new_eff) rfl rfl ?_); refine AWP.runL e tab_ok L3 300 rfl (by trivial ) ?_)

      )
    obtain ⟨R, hR, h0, h1⟩ : ∃ R, (if 128 < if 20 > rest then 20 else rest then 128 else if 20 > rest then 20 else rest) = R ∧ 20 ≤ R ∧ R ≤ 128 := ⟨_, rfl, by split <;> split <;> omega, by split <;> split <;> omega⟩
    refine AWP.eqT 40 (.agg (ctV (oC f1 R 0))) rfl (by rw [oC_0, out_v, ← hR]; try rfl) ?_
    refine AWP.lessR e [] (tm := [(40, .agg (ctV (oC f1 R 0))), (39, .own 6 23 0 3 C), (5, .ptr 7 0), (2, .ptr 0 0)]) (hp := [(0, .box (fS f1)), (7, .box [.own 6 23 0 3 C, .i 11]), (6, .row 38 false 23 ([jC 11, jC 11, jC 11].map ctV) C)]) (nx := 8) ?_ ?_ ?_ ?_ ?_ ?_ ?_
    · exact ⟨rfl, rfl, rfl, rfl, trivial⟩
    · exact ⟨rfl, rfl, rfl, trivial⟩
    · rfl
    · (repeat' (first | exact True.intro | (refine And.intro ?_ ?_) | rfl | exact ct_ids _ _))
    · rfl
    · rfl
    have hel2 : ([jC 11, jC 11, jC 11].map ctV)[2]? = some (ctV (jC 11)) := rfl
    refine AWP.idx_own e tab_ok rfl rfl rfl rfl 2 rfl (by simp) ?_
    refine AWP.runL e tab_ok L3 300 rfl (by trivial ) ?_
    refine AWP.store_el e tab_ok rfl rfl rfl rfl rfl hel2 rfl rfl rfl rfl ?_
    refine AWP.lessR e [] (tm := [(5, .ptr 7 0), (2, .ptr 0 0)]) (hp := [(0, .box (fS f1)), (7, .box [.own 6 23 0 3 C, .i 11]), (6, .row 38 false 23 ([jC 11, jC 11, oC f1 R 0].map ctV) C)]) (nx := 8) ?_ ?_ ?_ ?_ ?_ ?_ ?_
    · exact ⟨rfl, rfl, trivial⟩
    · exact ⟨rfl, rfl, rfl, trivial⟩
    · rfl
    · (repeat' (first | exact True.intro | (refine And.intro ?_ ?_) | rfl | exact ct_ids _ _))
    · rfl
    · rfl
    refine AWP.runL e tab_ok L3 300 rfl (by trivial ) ?_
    refine AWP.freezeF (id := 6) ([jC 11, jC 11, oC f1 R 0].map ctD) rfl ?_ rfl rfl ?_ ?_ ?_
    (focus (rfl))
    (focus (first | (simp [lenFT, lenFH, lenF, lenF.go, tput, argT, strip, adel, Nat.beq, frzF, frzF.go]; done) ))
    (focus (first | (simp [lenFT, lenFH, lenF, lenF.go, tput, argT, strip, adel, Nat.beq, frzF, frzF.go]; done) ))
    have cS1 := cS R h0 h1
    have cR1 := cR R h0 h1
    repeat (

        (refine AWP.callQ e rfl rfl ?_; (first | refine CallQ.mk (cS1) rfl rfl ?_); refine AWP.runL e tab_ok L3 300 rfl (by trivial ) ?_)

      )
    refine AWP.callC e cR1 rfl rfl rfl rfl fun C2 _ => ⟨⟨trivial, ct_ids _ 0, trivial⟩, ?_⟩
    refine AWP.runL e tab_ok L3 300 rfl (by trivial ) ?_
    refine AWP.lessR e [] (tm := [(56, .b false), (11, .i 0), (10, .d (.sl 9 [cameD f1, sentD f1])), (9, .ptr 12 0), (2, .ptr 0 0)]) (hp := [(0, .box (fS f1)), (12, .box [.own 11 23 0 3 C2, .i 211]), (11, .row 38 false 23 ([sC f1 200, rC f1 200, oC f1 R 200].map ctV) C2)]) (nx := 13) ?_ ?_ ?_ ?_ ?_ ?_ ?_
    · exact ⟨rfl, rfl, rfl, rfl, rfl, trivial⟩
    · exact ⟨rfl, rfl, rfl, trivial⟩
    · rfl
    · (repeat' (first | exact True.intro | (refine And.intro ?_ ?_) | rfl | exact ct_ids _ _))
    · rfl
    · rfl
    refine AWP.freezeF (id := 11) ([sC f1 200, rC f1 200, oC f1 R 200].map ctD) rfl ?_ rfl rfl ?_ ?_ ?_
    (focus (rfl))
    (focus (first | (simp [lenFT, lenFH, lenF, lenF.go, tput, argT, strip, adel, Nat.beq, frzF, frzF.go]; done) ))
    (focus (first | (simp [lenFT, lenFH, lenF, lenF.go, tput, argT, strip, adel, Nat.beq, frzF, frzF.go]; done) ))
    refine AWP.runL e tab_ok L3 300 rfl (by trivial ) ?_
    repeat (
      (refine AWP.askT rfl ?_; ( (refine Told.f rfl ?_) ); refine AWP.runL e tab_ok L3 300 rfl (by trivial ) ?_)

      )
    refine AWP.idx e tab_ok rfl rfl rfl rfl 2 rfl (el := ctD (oC f1 R 200)) rfl ?_
    refine AWP.runL e tab_ok L3 300 rfl (by trivial ) ?_
    repeat (
      (refine AWP.askT rfl ?_; ( (refine Told.f rfl ?_) ); refine AWP.runL e tab_ok L3 300 rfl (by trivial ) ?_)

      )
    refine AWP.lessR e [] (tm := [(10, .d (.sl 9 [cameD f1, sentD f1])), (2, .ptr 0 0)]) (hp := [(0, .box (fS f1))]) (nx := 13) ?_ ?_ ?_ ?_ ?_ ?_ ?_
    · exact ⟨rfl, rfl, trivial⟩
    · exact ⟨rfl, trivial⟩
    · rfl
    · (repeat' (first | exact True.intro | (refine And.intro ?_ ?_) | rfl))
    · rfl
    · rfl
    have hEq := ev_same f1
    refine AWP.keep L3 rfl ?_
    refine AWP.drg 60 ?_
    (refine DrG.runS e tab_ok 200 rfl (by trivial ) ?_)
    repeat (
      first
        | (refine DrG.askT rfl ?_; (first | (refine Told.t rfl ?_) | (refine Told.t ?_ ?_; (focus assumption)) ); (refine DrG.runS e tab_ok 200 rfl (by trivial ) ?_))
        | (refine DrG.eq_aggGo e tab_ok rfl rfl rfl rfl (.inl ⟨rfl, rfl⟩) ?_ 5 (by omega) rfl ?_ rfl rfl rfl rfl rfl rfl rfl ?_; (focus kernel_rfl); (focus kernel_rfl); (refine DrG.runS e tab_ok 200 rfl (by trivial ) ?_))
        | (refine DrG.v rfl (fun _ => VStep.idx e tab_ok rfl rfl rfl rfl 0 rfl (el := cameD f1) rfl) rfl ?_; (refine DrG.runS e tab_ok 200 rfl (by trivial ) ?_))
        | (refine DrG.v rfl (fun _ => VStep.go rfl (VStep.idx e tab_ok rfl rfl rfl rfl 0 rfl (el := cameD f1) rfl)) rfl ?_; (refine DrG.runS e tab_ok 200 rfl (by trivial ) ?_))
        | (refine DrG.v rfl (fun _ => VStep.go rfl (VStep.idx e tab_ok rfl rfl rfl rfl 1 rfl (el := sentD f1) rfl)) rfl ?_; (refine DrG.runS e tab_ok 200 rfl (by trivial ) ?_))
      )
    refine DrG.finK e rfl ?_ rfl rfl rfl ?_ ?_
    (focus kernel_rfl)
    (focus (repeat' (first | exact True.intro | (refine And.intro ?_ ?_) | rfl )))
    dsimp only [tmS, hpS, tput, effH]
    refine AWP.runL e tab_ok L3 300 rfl (by trivial ) ?_
    refine AWP.ret e tab_ok rfl ?_
    rw [hP]
    all_goals rfl
  · rw [hr] at c2
    refine AWP.runL e tab_ok L3 300 rfl (by trivial ) ?_
    repeat (
      first
        | (refine AWP.askT rfl ?_; ((refine Told.t rfl ?_) ); refine AWP.runL e tab_ok L3 300 rfl (by trivial ) ?_)
        | (refine AWP.callQ e rfl rfl ?_; (first | refine CallQ.mk (c1) rfl rfl ?_ | refine CallQ.mk (c2) rfl rfl ?_ | refine CallQ.mk (c3) rfl rfl ?_); refine AWP.runL e tab_ok L3 300 rfl (by trivial ) ?_)

      )
    refine AWP.ret e tab_ok rfl ?_
    rw [hP]
    all_goals rfl
end Go.Proofs.YthdcegeampcalaaGreatDoor

open Go Go.Proofs Go.Sy Go.Stuff
namespace Go.Proofs.YthdcegeampcalaaGreatDoor
theorem u32_of {z : Int} (h1 : IntKind.min .u32 ≤ z) (h2 : z ≤ IntKind.max .u32) : ∃ x : BitVec 32, z = (x.toNat : Int) := by
  have a1 : 0 ≤ z := h1
  have a2 : z ≤ 4294967295 := h2
  refine ⟨BitVec.ofNat 32 z.toNat, ?_⟩
  rw [BitVec.toNat_ofNat, Nat.mod_eq_of_lt (by omega)]
  omega
theorem topoff_args (l : List SV) (h : Args tab 9 [24, 3] l) : Eff Tryz.prog 3 l [] 0 (fun r _ _ => r = .b true) := by
  obtain ⟨_, _, rfl, ⟨_, _, rfl, ⟨id, rfl, i0, i1⟩, _, _, rfl, ⟨ext, rfl⟩, _, _, rfl, ⟨rem, rfl⟩, _, _, rfl, ⟨dlc, rfl, _, _⟩, _, _, rfl, ⟨s, rfl, _⟩, rfl⟩, _, _, rfl, ⟨rest, rfl, _, _⟩, rfl⟩ := h
  obtain ⟨id, rfl⟩ := u32_of i0 i1
  have := topoff_eff ⟨id, ext, rem, dlc, s.data.toList⟩ rest
  rw [show fS ⟨id, ext, rem, dlc, s.data.toList⟩ = [U32 id, .b ext, .b rem, .i dlc, .s s] by show [_, _, _, _, SV.s (strL s.data.toList)] = _; rw [← strL_of s]] at this
  exact this
end Go.Proofs.YthdcegeampcalaaGreatDoor
