import Derived.Test.YtkilkilejnaflaaSyw
import Derived.Test.YtkilkilejnaflaaL
import Derived.Test.YtkilkilejnaflaaProg
open Go Go.Proofs Go.Sy
namespace Go.Proofs.Ytkilkilejnaflaa
def tab : Tab := [
  (2, ⟨.int .i64, 1, 8, [.v (.int .i64 0)]⟩),
  (3, ⟨.int .i64, 1, 8, [.v (.int .i64 0)]⟩),
  (4, ⟨.bool, 1, 1, [.v (.bool false)]⟩),
  (22, ⟨.slice 2, 1, 24, [.nil]⟩),
  (24, ⟨.struct [(22, 0), (22, 1), (3, 2)], 3, 56, [.nil, .nil, .v (.int .i64 0)]⟩),
  (26, ⟨.int .i64, 1, 8, [.v (.int .i64 0)]⟩),
  (39, ⟨.slice 41, 1, 24, [.nil]⟩),
  (41, ⟨.struct [(3, 0), (2, 1), (4, 2), (4, 3), (22, 4)], 5, 48, [.v (.int .i64 0), .v (.int .i64 0), .v (.bool false), .v (.bool false), .nil]⟩),
  (46, ⟨.slice 2, 1, 24, [.nil]⟩)]
theorem tab_ok : TabOk Try.prog tab := tabChk_ok (by kernel_rfl)

abbrev ints (l : List Int) : List (List DV) := l.map fun v => [.v (.int .i64 v)]
abbrev sl (l : List Int) : SV := .d (.sl 1 (ints l))
abbrev grp (s g : List Int) (t : Int) : List SV := [sl s, sl g, .i t]

theorem take_ints (N : Int) (l : List Int) (h : 0 ≤ N) : List.drop ((none : Option Int).getD 0).toNat (List.take ((some (if N < ((ints l).length : Int) then N else ((ints l).length : Int))).getD ((ints l).length : Int)).toNat (ints l)) = ints (l.take N.toNat) := by
  simp only [Option.getD_none, Option.getD_some, Int.toNat_zero, List.drop_zero, List.length_map]
  split
  · exact List.map_take.symm
  · rw [Int.toNat_natCast, List.take_of_length_le (by simp), List.take_of_length_le (by omega)]

set_option maxRecDepth 100000 in
theorem few_eff (s g : List Int) (t : Int) (hs : s.length ≤ 9223372036854775807) (hg : g.length ≤ 9223372036854775807) : Eff Try.prog 6 [.agg (grp s g t)] [] 0 (fun r _ _ => r = .agg (grp (s.take 20) (g.take 20) t)) := by
  refine eff_of Try.func6 rfl rfl rfl fun cx e hP => ?_
  refine AWP.runL e tab_ok L6 300 rfl (by first | trivial | (simp [in64] <;> omega)) ?_
  refine AWP.keep L6 rfl ?_
  refine AWP.drg 10 ?_
  (refine DrG.runN e tab_ok 200 rfl (by first | trivial | (simp [] <;> omega)) ?_)
  repeat (
    first
      | (refine DrG.v rfl (fun _ => VStep.goA rfl ?_ (VStep.ev e tab_ok rfl rfl ?_)) rfl ?_; (focus (first | assumption | with_reducible trivial | rfl | (simp; omega) | (simp [in64]; omega) | (simp [*]; done))); (focus (first | assumption | with_reducible trivial | rfl | (simp; omega) | (simp [in64]; omega) | (simp [*]; done))); (refine DrG.runN e tab_ok 200 rfl (by first | trivial | (simp [in64] <;> omega)) ?_))
      | (refine DrG.loadGoA e tab_ok rfl ?_ rfl rfl rfl rfl rfl rfl ?_; (focus (first | assumption | with_reducible trivial | rfl | (simp; omega) | (simp [in64]; omega) | (simp [*]; done))); (refine DrG.runN e tab_ok 200 rfl (by first | trivial | (simp [in64] <;> omega)) ?_))
      | (refine DrG.v rfl (fun _ => VStep.notA e rfl rfl ?_) rfl ?_; (focus (first | assumption | with_reducible trivial | rfl | (simp; omega) | (simp [in64]; omega) | (simp [*]; done))); (refine DrG.runN e tab_ok 200 rfl (by first | trivial | (simp [in64] <;> omega)) ?_))
      | (refine DrG.v rfl (fun _ => VStep.pickA e rfl rfl (v := true) ?_ rfl) rfl ?_; (focus (first | assumption | with_reducible trivial | rfl | (simp; omega) | (simp [in64]; omega) | (simp [*]; done))); (refine DrG.runN e tab_ok 200 rfl (by first | trivial | (simp [in64] <;> omega)) ?_))
      | (refine DrG.v rfl (fun _ => VStep.pickA e rfl rfl (v := false) ?_ rfl) rfl ?_; (focus (first | assumption | with_reducible trivial | rfl | (simp; omega) | (simp [in64]; omega) | (simp [*]; done))); (refine DrG.runN e tab_ok 200 rfl (by first | trivial | (simp [in64] <;> omega)) ?_))
    )
  refine DrG.fin e rfl ?_ rfl rfl rfl ?_ ?_
  (focus kernel_rfl)
  (focus (repeat' (first | exact True.intro | (refine And.intro ?_ ?_) | rfl | assumption | exact okRow _)))
  dsimp only [tmS, hpS, tput, effH]
  refine AWP.runL e tab_ok L6 300 rfl (by first | trivial | (simp [in64] <;> omega)) ?_
  refine AWP.ret e tab_ok rfl ?_
  rw [hP]
  show SV.agg _ = SV.agg _
  rw [take_ints 20 s (by omega), take_ints 20 g (by omega)]
  rfl

end Go.Proofs.Ytkilkilejnaflaa
