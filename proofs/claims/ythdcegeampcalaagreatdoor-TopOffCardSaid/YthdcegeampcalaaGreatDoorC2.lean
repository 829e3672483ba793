/-
  What is counted as sent, as come and as a rest, for every count. Condition: what the theorems state ahead.
-/
import Derived.Test.YthdcegeampcalaaGreatDoorC1
open Go Go.Proofs Go.Sy Go.Stuff Go.RowKit
namespace Go.Proofs.YthdcegeampcalaaGreatDoor
theorem den_vals {μ : Nat → Option Nat} {ok : Nat → Prop} {w : World} (xs : List Value) : Den μ ok w (.agg (xs.map fun x => .d (.v x))) (.agg xs.toArray) := by
  refine .agg _ (by simp) fun j c u hc hu => ?_
  simp only [List.getElem?_map, Option.map_eq_some_iff] at hc
  obtain ⟨x, hx, rfl⟩ := hc
  have : u = x := by
    have hu : xs[j]? = some u := by simpa using hu
    rw [hx] at hu
    exact (Option.some.inj hu).symm
  subst this
  exact .d (.v _)
theorem vals_den {μ : Nat → Option Nat} {ok : Nat → Prop} {w : World} {xs : List Value} {u : Value} (h : Den μ ok w (.agg (xs.map fun x => .d (.v x))) u) : u = .agg xs.toArray := by
  cases h with
  | agg vs h h1 =>
    congr 1
    apply Array.ext
    · simpa using h
    · intro j h2 h3
      have h4 : j < xs.length := by simpa using h3
      have := (h1 j (.d (.v xs[j])) vs[j] (by simp [h4]) (Array.getElem?_eq_getElem h2)).vv
      simpa using this
/-- A count's cells. -/
abbrev cS (t r : Int) (off : Bool) (s : Int) : List SV := [.i t, .i r, .b off, .i s]
theorem cnt_eff (t r s k : Int) (off : Bool) (t' r' s' : Int) (off' : Bool)
    (h : ∀ w, Calls Tryz.prog 94 #[.agg #[.int .i64 t, .int .i64 r, .bool off, .int .i64 s], .int .i64 k] w fun e w' => e = .returned (.tuple #[.agg #[.int .i64 t', .int .i64 r', .bool off', .int .i64 s'], .int .i64 0]) ∧ Below w.heap.size w w') :
    Eff Tryz.prog 94 [.agg (cS t r off s), .i k] [] 0 (fun q _ _ => q = .tup [.agg (cS t' r' off' s'), .i 0]) := by
  refine ⟨enters Tryz.func94 (by kernel_rfl) (by kernel_rfl), fun cx vs hP hF hH hs hd => ?_⟩
  have hv : vs = #[.agg #[.int .i64 t, .int .i64 r, .bool off, .int .i64 s], .int .i64 k] := by
    apply Array.ext
    · simpa using hs
    · intro j h1 h2
      have h4 : j = 0 ∨ j = 1 := by simp at h2; omega
      rcases h4 with rfl | rfl
      · exact vals_den (xs := [.int .i64 t, .int .i64 r, .bool off, .int .i64 s]) (hd 0 _ _ rfl (Array.getElem?_eq_getElem h1))
      · exact (hd 1 _ _ rfl (Array.getElem?_eq_getElem h1)).vv
  subst hv
  refine (h cx.w0).mono fun e w' hh => ?_
  obtain ⟨he, hw⟩ := hh
  refine ⟨_, cx.μ0, cx.ok0, .tup [.agg (cS t' r' off' s'), .i 0], [], 0, he, ⟨hH.mu, hH.fresh, hH.sub, fun b hb => Nat.lt_of_lt_of_le (hH.lt b hb) hw.size, hH.okNew, fun i B hi => absurd hi (by simp [aget]), fun i j B C b hi => absurd hi (by simp [aget]), fun b hb _ => hw.block b hb, hw.size, hw.os, hw.tape, hw.output⟩, ?_, rfl⟩
  refine .tup _ rfl fun j c u hc hu => ?_
  match j, hc, hu with
  | 0, hc, hu =>
    cases hc; cases hu
    exact den_vals [.int .i64 t', .int .i64 r', .bool off', .int .i64 s']
  | 1, hc, hu =>
    cases hc; cases hu
    exact .d (.v _)
theorem sent_eff : Eff Tryz.prog 94 [.agg (cS 0 0 false 0), .i 1] [] 0 (fun q _ _ => q = .tup [.agg (cS 0 0 false 0), .i 0]) :=
  cnt_eff _ _ _ _ _ _ _ _ _ fun w => step1 0 0 (by decide) (by decide) (by decide) (by decide) w
theorem came_eff : Eff Tryz.prog 94 [.agg (cS 0 0 false 0), .i 2] [] 0 (fun q _ _ => q = .tup [.agg (cS 0 0 false 0), .i 0]) :=
  cnt_eff _ _ _ _ _ _ _ _ _ fun w => step2 0 0 (by decide) (by decide) (by decide) (by decide) w
theorem rest_eff (s : Int) (h1 : 2 ≤ s) (h2 : s ≤ 128) : Eff Tryz.prog 94 [.agg (cS 0 0 true s), .i 7] [] 0 (fun q _ _ => q = .tup [.agg (cS 0 0 true (s - 1)), .i 0]) :=
  cnt_eff _ _ _ _ _ _ _ _ _ fun w => stepoff_more s h1 h2 w
set_option maxRecDepth 100000 in
theorem cright_act : Eff Tryz.prog 49 [.agg (cS 0 0 false 0)] [] 0 (fun r _ _ => r = .b true) := by
  refine eff_of Tryz.func49 rfl rfl rfl fun cx e hP => ?_
  refine AWP.runL e tab_ok L49 300 rfl (by trivial ) ?_
  repeat (
    (refine AWP.askT rfl ?_; (first | (refine Told.t rfl ?_) | (refine Told.f rfl ?_) ); refine AWP.runL e tab_ok L49 300 rfl (by trivial ) ?_)

    )
  refine AWP.ret e tab_ok rfl ?_
  rw [hP]
  all_goals rfl
set_option maxRecDepth 100000 in
theorem cright_off (s : Int) (h1 : 1 ≤ s) (h2 : s ≤ 128) : Eff Tryz.prog 49 [.agg (cS 0 0 true s)] [] 0 (fun r _ _ => r = .b true) := by
  have g1 : decide (s ≥ 1) = true := by simpa using h1
  have g2 : decide (s ≤ 128) = true := by simpa using h2
  refine eff_of Tryz.func49 rfl rfl rfl fun cx e hP => ?_
  refine AWP.runL e tab_ok L49 300 rfl (by trivial ) ?_
  repeat (
    (refine AWP.askT rfl ?_; (first | (refine Told.t rfl ?_) | (refine Told.t ?_ ?_; (focus assumption)) ); refine AWP.runL e tab_ok L49 300 rfl (by trivial ) ?_)

    )
  refine AWP.ret e tab_ok rfl ?_
  rw [hP]
  exact congrArg SV.b g2
set_option maxRecDepth 100000 in
theorem state_act : Eff Tryz.prog 88 [.agg (cS 0 0 false 0)] [] 0 (fun r _ _ => r = .tup [.i 1, .i 0]) := by
  have c1 := cright_act
  refine eff_of Tryz.func88 rfl rfl rfl fun cx e hP => ?_
  refine AWP.runL e tab_ok L88 300 rfl (by trivial ) ?_
  repeat (
    first
      | (refine AWP.askT rfl ?_; ( (refine Told.f rfl ?_) ); refine AWP.runL e tab_ok L88 300 rfl (by trivial ) ?_)
      | (refine AWP.callQ e rfl rfl ?_; (first | refine CallQ.mk (c1) rfl rfl ?_); refine AWP.runL e tab_ok L88 300 rfl (by trivial ) ?_)

    )
  refine AWP.ret e tab_ok rfl ?_
  rw [hP]
  all_goals rfl
set_option maxRecDepth 100000 in
theorem state_off (s : Int) (h1 : 1 ≤ s) (h2 : s ≤ 128) : Eff Tryz.prog 88 [.agg (cS 0 0 true s)] [] 0 (fun r _ _ => r = .tup [.i 3, .i 0]) := by
  have c1 := cright_off s h1 h2
  refine eff_of Tryz.func88 rfl rfl rfl fun cx e hP => ?_
  refine AWP.runL e tab_ok L88 300 rfl (by trivial ) ?_
  repeat (
    first
      | (refine AWP.askT rfl ?_; (first | (refine Told.t rfl ?_) | (refine Told.f rfl ?_) ); refine AWP.runL e tab_ok L88 300 rfl (by trivial ) ?_)
      | (refine AWP.callQ e rfl rfl ?_; (first | refine CallQ.mk (c1) rfl rfl ?_); refine AWP.runL e tab_ok L88 300 rfl (by trivial ) ?_)

    )
  refine AWP.ret e tab_ok rfl ?_
  rw [hP]
  all_goals rfl
end Go.Proofs.YthdcegeampcalaaGreatDoor
