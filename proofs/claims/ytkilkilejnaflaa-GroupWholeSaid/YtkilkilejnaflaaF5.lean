import Derived.Test.YtkilkilejnaflaaF4
open Go Go.Proofs Go.Sy
namespace Go.Proofs.Ytkilkilejnaflaa

set_option maxRecDepth 100000 in
theorem refSet_eff (l : List Int) (n : Nat) (v : Int) (hl : l.length ≤ 1000) : Eff Try.prog 17 [sl l, .i n, .i v] [] 0 (fun r _ _ => r = sl (l.set n v)) := by
  refine eff_of Try.func17 rfl rfl rfl fun cx e hP => ?_
  refine AWP.runL e tab_ok L17 300 rfl (by first | trivial | (simp [in64] <;> omega)) ?_
  refine AWP.loop (ι := Nat × Nat)
    (fun s => ⟨[(13, .i s.1), (12, .i l.length), (11, sl l), (7, .own 0 1 0 s.1 s.2), (1, .i n), (2, .i v)], [(0, .row 2 false 1 ((ints ((l.set n v).take s.1)).map (·.map SV.d)) s.2)], 1⟩)
    (fun s => s.1 ≤ l.length) (fun s => l.length - s.1) (0, 0) (Nat.zero_le _) ?_ ?_
  · intro g
    refine AWP.less e ?_ ?_ ?_ ?_ ?_ g
    · refine ⟨rfl, ?_, rfl, rfl, rfl, rfl, trivial⟩
      show some (SV.i _) = some (SV.i _)
      rw [ints_len]
    · exact ⟨rfl, trivial⟩
    · rfl
    · exact ⟨rfl, ints_ok _ _, trivial⟩
    · rfl
  rintro ⟨i, C⟩ Φ hI next
  have hI : i ≤ l.length := hI
  refine AWP.runL e tab_ok L17 300 rfl (by first | trivial | (simp [in64] <;> omega)) ?_
  refine AWP.cond2 rfl (fun hlt => ?_) (fun hlt => ?_)
  · have hlt : i < l.length := by simpa using hlt
    have hls : i < (l.set n v).length := by simpa using hlt
    have hget : (l.set n v)[i] = if n = i then v else l[i] := List.getElem_set ..
    refine AWP.runL e tab_ok L17 300 rfl (by first | trivial | (simp [in64] <;> omega)) ?_
    refine AWP.idx e tab_ok rfl rfl rfl rfl i rfl (el := [.v (.int .i64 l[i])]) (by simp [hlt]) ?_
    refine AWP.runL e tab_ok L17 300 rfl (by first | trivial | (simp [in64] <;> omega)) ?_
    refine AWP.cond2 rfl (fun hq => ?_) (fun hq => ?_)
    · have hq : (i : Int) = n := by simpa using hq
      have hv : (l.set n v)[i] = v := by rw [hget, if_pos (by omega)]
      refine AWP.runL e tab_ok L17 300 rfl (by first | trivial | (simp [in64] <;> omega)) ?_
      refine AWP.append e tab_ok rfl rfl rfl rfl rfl rfl rfl rfl (.own rfl rfl) (by simp; omega) (by simp [allCells, isCell]) (by simp; omega) (by simp; omega) fun C2 hC2 => ?_
      refine AWP.runL e tab_ok L17 300 rfl (by first | trivial | (simp [in64] <;> omega)) ?_
      refine AWP.lessR e [(0, 2)] ?_ ?_ ?_ ?_ ?_ ?_ (next (i + 1, C2) hlt ?_)
      · exact ⟨rfl, rfl, rfl, rfl, rfl, rfl, trivial⟩
      · refine ⟨?_, trivial⟩
        show some (Blk.row 2 false 1 ((ints ((l.set n v).take i)).map (·.map SV.d) ++ [[SV.i v]]) C2) = some (Blk.row 2 false 1 ((ints ((l.set n v).take (i + 1))).map (·.map SV.d)) C2)
        rw [List.take_succ_eq_append_getElem hls, hv]
        simp [ints]
      · rfl
      · exact ⟨rfl, ints_ok _ _, trivial⟩
      · rfl
      · rfl
      · show l.length - (i + 1) < l.length - i
        omega
    · have hq : ¬ (i : Int) = n := by simpa using hq
      have hv : (l.set n v)[i] = l[i] := by rw [hget, if_neg (by omega)]
      refine AWP.runL e tab_ok L17 300 rfl (by first | trivial | (simp [in64] <;> omega)) ?_
      refine AWP.append e tab_ok rfl rfl rfl rfl rfl rfl rfl rfl (.own rfl rfl) (by simp; omega) (by simp [allCells, isCell]) (by simp; omega) (by simp; omega) fun C2 hC2 => ?_
      refine AWP.runL e tab_ok L17 300 rfl (by first | trivial | (simp [in64] <;> omega)) ?_
      refine AWP.lessR e [(0, 2)] ?_ ?_ ?_ ?_ ?_ ?_ (next (i + 1, C2) hlt ?_)
      · exact ⟨rfl, rfl, rfl, rfl, rfl, rfl, trivial⟩
      · refine ⟨?_, trivial⟩
        show some (Blk.row 2 false 1 ((ints ((l.set n v).take i)).map (·.map SV.d) ++ [[SV.i l[i]]]) C2) = some (Blk.row 2 false 1 ((ints ((l.set n v).take (i + 1))).map (·.map SV.d)) C2)
        rw [List.take_succ_eq_append_getElem hls, hv]
        simp [ints]
      · rfl
      · exact ⟨rfl, ints_ok _ _, trivial⟩
      · rfl
      · rfl
      · show l.length - (i + 1) < l.length - i
        omega
  · have hle : l.length ≤ i := by simpa using hlt
    obtain rfl : i = l.length := by omega
    refine AWP.runL e tab_ok L17 300 rfl (by first | trivial | (simp [in64] <;> omega)) ?_
    refine AWP.freezeO (id := 0) (ints ((l.set n v).take l.length)) rfl ?_ rfl rfl ?_ ?_ ?_
    (focus (rfl))
    (focus (simp [lenDT, lenD]; done))
    (focus (simp [lenDH]; done))
    refine AWP.ret e tab_ok rfl ?_
    rw [hP]
    simp [strip, List.take_of_length_le]

set_option maxRecDepth 100000 in
theorem alive_eff : Eff Try.prog 16 [] [] 0 (fun r _ _ => r = .b true) := by
  refine eff_of Try.func16 rfl rfl rfl fun cx e hP => ?_
  refine AWP.runL e tab_ok L16 300 rfl (by first | trivial | (simp [in64] <;> omega)) ?_
  refine AWP.freezeO (id := 0) (ints [1, 2]) rfl ?_ rfl rfl ?_ ?_ ?_
  (focus (rfl))
  (focus (simp [lenDT, lenD]; done))
  (focus (simp [lenDH]; done))
  refine AWP.callQ e rfl rfl ?_
  refine CallQ.mk (new_ok [1, 2] (by simp) (by simp)) rfl rfl ?_
  refine AWP.runL e tab_ok L16 300 rfl (by first | trivial | (simp [in64] <;> omega)) ?_
  refine AWP.callQ e rfl rfl ?_
  refine CallQ.mk (set_ok [1, 2] [1, 2] 0 0 5 rfl 0 rfl (by simp)) rfl rfl ?_
  refine AWP.runL e tab_ok L16 300 rfl (by first | trivial | (simp [in64] <;> omega)) ?_
  refine AWP.callQ e rfl rfl ?_
  refine CallQ.mk (get_ok [5, 2] [1, 2] 0 0 rfl 0 rfl (by simp)) rfl rfl ?_
  refine AWP.runL e tab_ok L16 300 rfl (by first | trivial | (simp [in64] <;> omega)) ?_
  refine AWP.callQ e rfl rfl ?_
  refine CallQ.mk (give_ok [5, 2] [1, 2] 0 rfl (by omega)) rfl rfl ?_
  refine AWP.runL e tab_ok L16 300 rfl (by first | trivial | (simp [in64] <;> omega)) ?_
  refine AWP.callQ e rfl rfl ?_
  refine CallQ.mk (get_ok [5, 2] [5, 2] 1 0 rfl 0 rfl (by simp)) rfl rfl ?_
  refine AWP.runL e tab_ok L16 300 rfl (by first | trivial | (simp [in64] <;> omega)) ?_
  repeat (
    first
      | (refine AWP.askT rfl ?_; (first | (refine Told.t rfl ?_) | (refine Told.f rfl ?_) | (refine Told.t ?_ ?_; (focus (first | assumption | (simp; omega) | (simp [*]; done)); done)) | (refine Told.f ?_ ?_; (focus (first | assumption | (simp; omega) | (simp [*]; done)); done))); refine AWP.runL e tab_ok L16 300 rfl (by first | trivial | (simp [in64] <;> omega)) ?_)
    )
  refine AWP.ret e tab_ok rfl ?_
  rw [hP]
  rfl

end Go.Proofs.Ytkilkilejnaflaa
