import Derived.Test.YtclmbbcchgfedaaDoorF7
open Go Go.Proofs Go.Sy
namespace Go.Proofs.YtclmbbcchgfedaaDoor

def mn (a b : UInt8) : UInt8 := if b.toNat < a.toNat then b else a
theorem mn_int (a b : UInt8) : (if (b.toNat : Int) < (a.toNat : Int) then (b.toNat : Int) else (a.toNat : Int)) = ((mn a b).toNat : Int) := by
  unfold mn
  by_cases h : b.toNat < a.toNat
  · rw [if_pos h, if_pos (by omega)]
  · rw [if_neg h, if_neg (by omega)]
/-- The lesser of two rows' bits, for the first j of them. -/
def zipK (o s : List UInt8) (j : Nat) : List UInt8 := (List.range o.length).map fun k => if k < j then mn (o.getD k 0) (s.getD k 0) else o.getD k 0
def zipA (o s : List UInt8) : List UInt8 := zipK o s o.length
theorem zipK_len (o s : List UInt8) (j : Nat) : (zipK o s j).length = o.length := by simp [zipK]
theorem zipK_at (o s : List UInt8) (j : Nat) {k : Nat} (h : k < o.length) : (zipK o s j)[k]? = some (if k < j then mn (o.getD k 0) (s.getD k 0) else o.getD k 0) := by simp [zipK, h]
theorem zipK_0 (o s : List UInt8) : zipK o s 0 = o := by
  apply List.ext_getElem (zipK_len _ _ _)
  intro i h1 h2
  have := zipK_at o s 0 h2
  rw [List.getElem?_eq_getElem h1, if_neg (Nat.not_lt_zero _), List.getD_eq_getElem?_getD, List.getElem?_eq_getElem h2] at this
  exact Option.some.inj this
theorem zipK_set (o s : List UInt8) {j : Nat} (h : j < o.length) : (zipK o s j).set j (mn (o.getD j 0) (s.getD j 0)) = zipK o s (j + 1) := by
  apply List.ext_getElem?
  intro i
  by_cases hi : i < o.length
  · rw [zipK_at _ _ _ hi, List.getElem?_set]
    split
    · rename_i e
      subst e
      rw [if_pos (by rw [zipK_len]; exact h), if_pos (by omega)]
    · rename_i e
      rw [zipK_at _ _ _ hi]
      congr 1
      by_cases g : i < j
      · rw [if_pos g, if_pos (by omega)]
      · rw [if_neg g, if_neg (by omega)]
  · rw [List.getElem?_eq_none (by rw [List.length_set, zipK_len]; omega), List.getElem?_eq_none (by rw [zipK_len]; omega)]
def andL (o : List UInt8) (rs : List (List UInt8)) : List UInt8 := rs.foldl zipA o
theorem andL_len (rs : List (List UInt8)) : ∀ o, (andL o rs).length = o.length := by
  induction rs with
  | nil => intro o; rfl
  | cons r rs ih => intro o; exact (ih _).trans (zipK_len _ _ _)
theorem andL_succ (o : List UInt8) {rs : List (List UInt8)} {i : Nat} (h : i < rs.length) : andL o (rs.take (i + 1)) = zipA (andL o (rs.take i)) rs[i] := by
  unfold andL
  rw [List.take_succ_eq_append_getElem h, List.foldl_append]
  rfl
def andG (n : Nat) (r : List UInt8) : Bool := wellB r && (r.length == n)
def andR (rows : List (List UInt8)) : List UInt8 × Int := match rows with
  | [] => ([], 1)
  | r0 :: rest => if (r0 :: rest).all (andG r0.length) then (andL r0 (r0 :: rest), 0) else ([], 1)
abbrev rowsV (rows : List (List UInt8)) : SV := .d (.sl 1 (rows.map fun r => [.v (.string (strL r))]))
theorem rows_at {rows : List (List UInt8)} {i : Nat} (h : i < rows.length) : (rows.map fun r => [DV.v (.string (strL r))])[i]? = some [DV.v (.string (strL rows[i]))] := by simp [h]
theorem u8_ids (l : List UInt8) (m : Nat) : ∀ e ∈ l.map u8S, SV.idsLt.go m e = true := by
  intro e he
  obtain ⟨b, _, rfl⟩ := List.mem_map.1 he
  rfl
theorem u8_set (l : List UInt8) (j : Nat) (b : UInt8) : (l.map u8S).set j (u8S b) = (l.set j b).map u8S := by rw [List.map_set]
theorem u8_at (l : List UInt8) {j : Nat} (h : j < l.length) : (l.map u8S)[j]? = some (u8S (l.getD j 0)) := by simp [h]
theorem strL_dat (l : List UInt8) : (strL l).data.toList.map u8S = l.map u8S := by rw [strL_data]

set_option maxRecDepth 100000 in
set_option maxHeartbeats 1000000 in
theorem and_eff (rows : List (List UInt8)) (hr : rows.length ≤ 8) (hl : ∀ r ∈ rows, r.length ≤ 4100) : Eff Tryd.prog 17 [rowsV rows] [] 0 (fun r _ _ => r = .tup [.s (strL (andR rows).1), .i (andR rows).2]) := by
  cases rows with
  | nil =>
    refine eff_of Tryd.func17 rfl rfl rfl fun cx e hP => ?_
    refine AWP.runL e tab_ok L17 300 rfl (by first | trivial | (simp [in64] <;> omega) | (simp only [in64, true_and, and_true]; omega)) ?_
    repeat (
      first
        | (refine AWP.askT rfl ?_; (first | (refine Told.t rfl ?_) | (refine Told.f rfl ?_) | (refine Told.t ?_ ?_; (focus assumption)) | (refine Told.f ?_ ?_; (focus assumption)) | (refine Told.t ?_ ?_; (focus (first | (simp; omega) | (simp [*]; done)); done)) | (refine Told.f ?_ ?_; (focus (first | (simp; omega) | (simp [*]; done)); done))); refine AWP.runL e tab_ok L17 300 rfl (by first | trivial | (simp [in64] <;> omega) | (simp only [in64, true_and, and_true]; omega)) ?_)
        | (refine AWP.eq_agg e tab_ok rfl rfl rfl (.inl ⟨rfl, rfl⟩) ?_ 5 (by omega) rfl ?_ rfl rfl rfl rfl rfl rfl rfl ?_; (focus kernel_rfl); (focus kernel_rfl); refine AWP.runL e tab_ok L17 300 rfl (by first | trivial | (simp [in64] <;> omega) | (simp only [in64, true_and, and_true]; omega)) ?_)
        | (refine AWP.eq_agg e tab_ok rfl rfl rfl (.inr ⟨rfl, rfl⟩) ?_ 5 (by omega) rfl ?_ rfl rfl rfl rfl rfl rfl rfl ?_; (focus kernel_rfl); (focus kernel_rfl); refine AWP.runL e tab_ok L17 300 rfl (by first | trivial | (simp [in64] <;> omega) | (simp only [in64, true_and, and_true]; omega)) ?_)
      )
    refine AWP.ret e tab_ok rfl ?_
    rw [hP]
    all_goals first | rfl | (simp [strip]; done)
  | cons r0 rest =>
    generalize hrs : r0 :: rest = rows at *
    have hpos : 0 < rows.length := by rw [← hrs]; simp
    have h00 : rows[0] = r0 := by simp [← hrs]
    have hl0 : r0.length ≤ 4100 := hl r0 (by rw [← hrs]; simp)
    have hne : rows ≠ [] := by rw [← hrs]; simp
    have hR : andR rows = if rows.all (andG r0.length) then (andL r0 rows, 0) else ([], 1) := by rw [← hrs]; rfl
    rw [hR]
    clear hR
    have hsz0 : (strL r0).size = r0.length := strL_size r0
    refine eff_of Tryd.func17 rfl rfl rfl fun cx e hP => ?_
    have g0 : ((((rows.map fun r => [DV.v (Value.string (strL r))]).length : Nat) : Int) == 0) = false := by simp; omega
    refine AWP.runL e tab_ok L17 300 rfl (by first | trivial | (simp [in64] <;> omega) | (simp only [in64, true_and, and_true]; omega)) ?_
    repeat (
      first
        | (refine AWP.askT rfl ?_; (first | (refine Told.t rfl ?_) | (refine Told.f rfl ?_) | (refine Told.t ?_ ?_; (focus assumption)) | (refine Told.f ?_ ?_; (focus assumption)) | (refine Told.t ?_ ?_; (focus (first | (simp; omega) | (simp [*]; done)); done)) | (refine Told.f ?_ ?_; (focus (first | (simp; omega) | (simp [*]; done)); done))); refine AWP.runL e tab_ok L17 300 rfl (by first | trivial | (simp [in64] <;> omega) | (simp only [in64, true_and, and_true]; omega)) ?_)
        | (refine AWP.eq_agg e tab_ok rfl rfl rfl (.inl ⟨rfl, rfl⟩) ?_ 5 (by omega) rfl ?_ rfl rfl rfl rfl rfl rfl rfl ?_; (focus kernel_rfl); (focus kernel_rfl); refine AWP.runL e tab_ok L17 300 rfl (by first | trivial | (simp [in64] <;> omega) | (simp only [in64, true_and, and_true]; omega)) ?_)
        | (refine AWP.eq_agg e tab_ok rfl rfl rfl (.inr ⟨rfl, rfl⟩) ?_ 5 (by omega) rfl ?_ rfl rfl rfl rfl rfl rfl rfl ?_; (focus kernel_rfl); (focus kernel_rfl); refine AWP.runL e tab_ok L17 300 rfl (by first | trivial | (simp [in64] <;> omega) | (simp only [in64, true_and, and_true]; omega)) ?_)
      )
    refine AWP.idx_elt 0 e tab_ok rfl rfl rfl rfl rfl (rows_at hpos) ?_
    rw [h00]
    refine AWP.runL e tab_ok L17 300 rfl (by first | trivial | (simp [in64] <;> omega) | (simp only [in64, true_and, and_true]; omega)) ?_
    refine AWP.strBytes e tab_ok rfl rfl rfl rfl rfl rfl rfl rfl (by rw [hsz0]; omega) fun C hC => ?_
    rw [hsz0, strL_dat]
    rw [hsz0] at hC
    refine AWP.runL e tab_ok L17 300 rfl (by first | trivial | (simp [in64] <;> omega) | (simp only [in64, true_and, and_true]; omega)) ?_
    have hlen : ((rows.map fun r => [DV.v (Value.string (strL r))]).length) = rows.length := List.length_map _
    rw [hlen]
    refine AWP.loop (ι := Nat) (fun i => ⟨[(17, .i i), (16, .i rows.length), (15, rowsV rows), (4, .own 0 1 0 r0.length C)], [(0, .row 5 true 1 ((andL r0 (rows.take i)).map u8S) C)], 1⟩) (fun i => i ≤ rows.length ∧ (rows.take i).all (andG r0.length) = true) (fun i => rows.length - i) 0 ⟨Nat.zero_le _, rfl⟩ ?_ ?_
    · intro g
      refine AWP.less e ?_ ?_ ?_ ?_ ?_ (g) <;> (repeat' (first | exact True.intro | (refine And.intro ?_ ?_) | rfl | assumption))
      exact u8_ids _ 1
    rintro i Φ ⟨hi, hg⟩ next
    have hi : i ≤ rows.length := hi
    have hg : (rows.take i).all (andG r0.length) = true := hg
    refine AWP.runL e tab_ok L17 300 rfl (by first | trivial | (simp [in64] <;> omega) | (simp only [in64, true_and, and_true]; omega)) ?_
    refine AWP.cond2 rfl (fun hlt => ?_) (fun hlt => ?_)
    · have hlt : i < rows.length := by simpa using hlt
      have hs : (rows[i]).length ≤ 4100 := hl _ (List.getElem_mem hlt)
      have nx := next (i + 1)
      have key : (rows.take (i + 1)).all (andG r0.length) = andG r0.length rows[i] := by
        rw [List.take_succ_eq_append_getElem hlt, List.all_append, hg, Bool.true_and, List.all_cons, List.all_nil, Bool.and_true]
      rw [andL_succ r0 hlt, key] at nx
      have bad : andG r0.length rows[i] = false → rows.all (andG r0.length) = false := fun h => List.all_eq_false.2 ⟨_, List.getElem_mem hlt, by rw [h]; decide⟩
      have hz : (strL rows[i]).size = (rows[i]).length := strL_size _
      have ho : (andL r0 (rows.take i)).length = r0.length := andL_len _ _
      refine AWP.runL e tab_ok L17 300 rfl (by first | trivial | (simp [in64] <;> omega) | (simp only [in64, true_and, and_true]; omega)) ?_
      refine AWP.idx_elt i e tab_ok rfl rfl rfl rfl rfl (rows_at hlt) ?_
      have c1 := right_eff rows[i]
      generalize rows[i] = s at *
      generalize andL r0 (rows.take i) = o at *
      rcases cases_b (wellB s) with hw | hw
      · rw [hw] at c1
        rcases cases_b (s.length == r0.length) with hn | hn
        · have hn' : s.length = r0.length := by simpa using hn
          have nx := nx ⟨hlt, by unfold andG; rw [hw, hn]; rfl⟩ (by show rows.length - (i + 1) < rows.length - i; omega)
          clear next bad key
          refine AWP.runL e tab_ok L17 300 rfl (by first | trivial | (simp [in64] <;> omega) | (simp only [in64, true_and, and_true]; omega)) ?_
          repeat (
            first
              | (refine AWP.askT rfl ?_; (first | (refine Told.t rfl ?_) | (refine Told.f rfl ?_) | (refine Told.t ?_ ?_; (focus assumption)) | (refine Told.f ?_ ?_; (focus assumption)) | (refine Told.t ?_ ?_; (focus (first | (simp; omega) | (simp [*]; done)); done)) | (refine Told.f ?_ ?_; (focus (first | (simp; omega) | (simp [*]; done)); done))); refine AWP.runL e tab_ok L17 300 rfl (by first | trivial | (simp [in64] <;> omega) | (simp only [in64, true_and, and_true]; omega)) ?_)
              | (refine AWP.callQ e rfl rfl ?_; (first | refine CallQ.mk (c1) rfl rfl ?_); refine AWP.runL e tab_ok L17 300 rfl (by first | trivial | (simp [in64] <;> omega) | (simp only [in64, true_and, and_true]; omega)) ?_)
              | (refine AWP.eq_agg e tab_ok rfl rfl rfl (.inl ⟨rfl, rfl⟩) ?_ 5 (by omega) rfl ?_ rfl rfl rfl rfl rfl rfl rfl ?_; (focus kernel_rfl); (focus kernel_rfl); refine AWP.runL e tab_ok L17 300 rfl (by first | trivial | (simp [in64] <;> omega) | (simp only [in64, true_and, and_true]; omega)) ?_)
              | (refine AWP.eq_agg e tab_ok rfl rfl rfl (.inr ⟨rfl, rfl⟩) ?_ 5 (by omega) rfl ?_ rfl rfl rfl rfl rfl rfl rfl ?_; (focus kernel_rfl); (focus kernel_rfl); refine AWP.runL e tab_ok L17 300 rfl (by first | trivial | (simp [in64] <;> omega) | (simp only [in64, true_and, and_true]; omega)) ?_)
            )
          refine AWP.loop (ι := Nat) (fun j => ⟨[(33, .i j), (32, .i r0.length), (6, .s (strL s)), (17, .i i), (16, .i rows.length), (15, rowsV rows), (4, .own 0 1 0 r0.length C)], [(0, .row 5 true 1 ((zipK o s j).map u8S) C)], 1⟩) (fun j => j ≤ r0.length) (fun j => r0.length - j) 0 (Nat.zero_le _) ?_ ?_
          · intro g
            rw [zipK_0] at g
            refine AWP.less e ?_ ?_ ?_ ?_ ?_ (g) <;> (repeat' (first | exact True.intro | (refine And.intro ?_ ?_) | rfl | assumption))
            exact u8_ids _ 1
          rintro j Ψ hj nxt
          have hj : j ≤ r0.length := hj
          refine AWP.runL e tab_ok L17 300 rfl (by first | trivial | (simp [in64] <;> omega) | (simp only [in64, true_and, and_true]; omega)) ?_
          refine AWP.cond2 rfl (fun hjl => ?_) (fun hjl => ?_)
          · have hjl : j < r0.length := by simpa using hjl
            have hz' := b_at s j (by omega)
            refine AWP.runL e tab_ok L17 300 rfl (by first | trivial | (simp [in64] <;> omega) | (simp only [in64, true_and, and_true]; omega)) ?_
            refine AWP.keep L17 rfl ?_
            refine AWP.drg 9 ?_
            (refine DrG.runS e tab_ok 200 rfl (by first | trivial | (simp [in64] <;> omega) | (simp only [in64, true_and, and_true]; omega)) ?_)
            repeat (
              first
                | (refine DrG.askT rfl ?_; (first | (refine Told.t rfl ?_) | (refine Told.f rfl ?_) | (refine Told.t ?_ ?_; (focus assumption)) | (refine Told.f ?_ ?_; (focus assumption)) | (refine Told.t ?_ ?_; (focus (first | (simp; omega) | (simp [*]; done)); done)) | (refine Told.f ?_ ?_; (focus (first | (simp; omega) | (simp [*]; done)); done))); (refine DrG.runS e tab_ok 200 rfl (by first | trivial | (simp [in64] <;> omega) | (simp only [in64, true_and, and_true]; omega)) ?_))
                | (refine DrG.eq_agg e tab_ok rfl rfl rfl (.inl ⟨rfl, rfl⟩) ?_ 5 (by omega) rfl ?_ rfl rfl rfl rfl rfl rfl rfl ?_; (focus kernel_rfl); (focus kernel_rfl); (refine DrG.runS e tab_ok 200 rfl (by first | trivial | (simp [in64] <;> omega) | (simp only [in64, true_and, and_true]; omega)) ?_))
                | (refine DrG.eq_aggGo e tab_ok rfl rfl rfl rfl (.inl ⟨rfl, rfl⟩) ?_ 5 (by omega) rfl ?_ rfl rfl rfl rfl rfl rfl rfl ?_; (focus kernel_rfl); (focus kernel_rfl); (refine DrG.runS e tab_ok 200 rfl (by first | trivial | (simp [in64] <;> omega) | (simp only [in64, true_and, and_true]; omega)) ?_))
                | (refine DrG.eq_agg e tab_ok rfl rfl rfl (.inr ⟨rfl, rfl⟩) ?_ 5 (by omega) rfl ?_ rfl rfl rfl rfl rfl rfl rfl ?_; (focus kernel_rfl); (focus kernel_rfl); (refine DrG.runS e tab_ok 200 rfl (by first | trivial | (simp [in64] <;> omega) | (simp only [in64, true_and, and_true]; omega)) ?_))
                | (refine DrG.eq_aggGo e tab_ok rfl rfl rfl rfl (.inr ⟨rfl, rfl⟩) ?_ 5 (by omega) rfl ?_ rfl rfl rfl rfl rfl rfl rfl ?_; (focus kernel_rfl); (focus kernel_rfl); (refine DrG.runS e tab_ok 200 rfl (by first | trivial | (simp [in64] <;> omega) | (simp only [in64, true_and, and_true]; omega)) ?_))
              )
            have hzl : j < (zipK o s j).length := by rw [zipK_len, ho]; exact hjl
            have hzj : (zipK o s j).getD j 0 = o.getD j 0 := by
              rw [List.getD_eq_getElem?_getD, zipK_at o s j (by omega), if_neg (Nat.lt_irrefl _)]; rfl
            have hel := u8_at (zipK o s j) hzl
            rw [hzj] at hel
            have hb : byteAt (strL s) j = ((s.getD j 0).toNat : Int) := by
              rw [hz', List.getD_eq_getElem?_getD, List.getElem?_eq_getElem (by omega)]; rfl
            have hid0 := u8_ids (zipK o s j) 0
            have hid1 := u8_ids (zipK o s (j + 1)) 0
            refine DrG.idx_own j e tab_ok rfl rfl rfl rfl rfl hjl rfl ?_
            refine DrG.load_el (U (o.getD j 0)) e tab_ok rfl rfl rfl rfl (by rw [Nat.zero_add]; exact hel) rfl rfl ?_
            (refine DrG.runS e tab_ok 200 rfl (by first | trivial | (simp [] <;> omega) | (simp only [in64, true_and, and_true]; omega)) ?_)
            repeat (
              first
                | (refine DrG.askT rfl ?_; (first | (refine Told.t rfl ?_) | (refine Told.f rfl ?_) | (refine Told.t ?_ ?_; (focus assumption)) | (refine Told.f ?_ ?_; (focus assumption)) | (refine Told.t ?_ ?_; (focus (first | (simp; omega) | (simp [*]; done)); done)) | (refine Told.f ?_ ?_; (focus (first | (simp; omega) | (simp [*]; done)); done))); (refine DrG.runS e tab_ok 200 rfl (by first | trivial | (simp [in64] <;> omega) | (simp only [in64, true_and, and_true]; omega)) ?_))
                | (refine DrG.eq_agg e tab_ok rfl rfl rfl (.inl ⟨rfl, rfl⟩) ?_ 5 (by omega) rfl ?_ rfl rfl rfl rfl rfl rfl rfl ?_; (focus kernel_rfl); (focus kernel_rfl); (refine DrG.runS e tab_ok 200 rfl (by first | trivial | (simp [in64] <;> omega) | (simp only [in64, true_and, and_true]; omega)) ?_))
                | (refine DrG.eq_aggGo e tab_ok rfl rfl rfl rfl (.inl ⟨rfl, rfl⟩) ?_ 5 (by omega) rfl ?_ rfl rfl rfl rfl rfl rfl rfl ?_; (focus kernel_rfl); (focus kernel_rfl); (refine DrG.runS e tab_ok 200 rfl (by first | trivial | (simp [in64] <;> omega) | (simp only [in64, true_and, and_true]; omega)) ?_))
                | (refine DrG.eq_agg e tab_ok rfl rfl rfl (.inr ⟨rfl, rfl⟩) ?_ 5 (by omega) rfl ?_ rfl rfl rfl rfl rfl rfl rfl ?_; (focus kernel_rfl); (focus kernel_rfl); (refine DrG.runS e tab_ok 200 rfl (by first | trivial | (simp [in64] <;> omega) | (simp only [in64, true_and, and_true]; omega)) ?_))
                | (refine DrG.eq_aggGo e tab_ok rfl rfl rfl rfl (.inr ⟨rfl, rfl⟩) ?_ 5 (by omega) rfl ?_ rfl rfl rfl rfl rfl rfl rfl ?_; (focus kernel_rfl); (focus kernel_rfl); (refine DrG.runS e tab_ok 200 rfl (by first | trivial | (simp [in64] <;> omega) | (simp only [in64, true_and, and_true]; omega)) ?_))
              )
            refine DrG.eqV (x' := U (mn (o.getD j 0) (s.getD j 0))) ?_ ?_
            · exact congrArg (fun z => SV.d (.v (.int .u8 z))) ((congrArg (fun z => if z < ((o.getD j 0).toNat : Int) then z else ((o.getD j 0).toNat : Int)) hb).trans (mn_int _ _))
            refine DrG.idx_own j e tab_ok rfl rfl rfl rfl rfl hjl rfl ?_
            refine DrG.store_el e tab_ok rfl rfl rfl rfl rfl (by rw [Nat.zero_add]; exact hel) rfl rfl rfl rfl (by rw [Nat.zero_add, u8_set, zipK_set o s (by omega)]; exact hid1) rfl ?_
            refine DrG.finK e rfl ?_ rfl rfl rfl ?_ ?_
            (focus kernel_rfl)
            (focus (repeat' (first | exact True.intro | (refine And.intro ?_ ?_) | rfl | assumption | exact okRow _)))
            dsimp only [tmS, hpS, tput, effH]
            refine AWP.runL e tab_ok L17 300 rfl (by first | trivial | (simp [in64] <;> omega) | (simp only [in64, true_and, and_true]; omega)) ?_
            refine AWP.less e ?_ ?_ ?_ ?_ ?_ (nxt (j + 1) hjl (by show r0.length - (j + 1) < r0.length - j; omega)) <;> (repeat' (first | exact True.intro | (refine And.intro ?_ ?_) | rfl | assumption))
            · rw [Nat.zero_add, u8_set, zipK_set o s (by omega)]
              rfl
            · exact u8_ids _ 1
          · have hjl : ¬ j < r0.length := by simpa using hjl
            obtain rfl : j = r0.length := by omega
            refine AWP.runL e tab_ok L17 300 rfl (by first | trivial | (simp [in64] <;> omega) | (simp only [in64, true_and, and_true]; omega)) ?_
            unfold zipA at nx
            rw [ho] at nx
            refine AWP.less e ?_ ?_ ?_ ?_ ?_ (nx) <;> (repeat' (first | exact True.intro | (refine And.intro ?_ ?_) | rfl | assumption))
            exact u8_ids _ 1
        · have hn' : ¬ s.length = r0.length := by simpa using hn
          rw [bad (by unfold andG; rw [hn, Bool.and_false])] at hP
          refine AWP.runL e tab_ok L17 300 rfl (by first | trivial | (simp [in64] <;> omega) | (simp only [in64, true_and, and_true]; omega)) ?_
          repeat (
            first
              | (refine AWP.askT rfl ?_; (first | (refine Told.t rfl ?_) | (refine Told.f rfl ?_) | (refine Told.t ?_ ?_; (focus assumption)) | (refine Told.f ?_ ?_; (focus assumption)) | (refine Told.t ?_ ?_; (focus (first | (simp; omega) | (simp [*]; done)); done)) | (refine Told.f ?_ ?_; (focus (first | (simp; omega) | (simp [*]; done)); done))); refine AWP.runL e tab_ok L17 300 rfl (by first | trivial | (simp [in64] <;> omega) | (simp only [in64, true_and, and_true]; omega)) ?_)
              | (refine AWP.callQ e rfl rfl ?_; (first | refine CallQ.mk (c1) rfl rfl ?_); refine AWP.runL e tab_ok L17 300 rfl (by first | trivial | (simp [in64] <;> omega) | (simp only [in64, true_and, and_true]; omega)) ?_)
              | (refine AWP.eq_agg e tab_ok rfl rfl rfl (.inl ⟨rfl, rfl⟩) ?_ 5 (by omega) rfl ?_ rfl rfl rfl rfl rfl rfl rfl ?_; (focus kernel_rfl); (focus kernel_rfl); refine AWP.runL e tab_ok L17 300 rfl (by first | trivial | (simp [in64] <;> omega) | (simp only [in64, true_and, and_true]; omega)) ?_)
              | (refine AWP.eq_agg e tab_ok rfl rfl rfl (.inr ⟨rfl, rfl⟩) ?_ 5 (by omega) rfl ?_ rfl rfl rfl rfl rfl rfl rfl ?_; (focus kernel_rfl); (focus kernel_rfl); refine AWP.runL e tab_ok L17 300 rfl (by first | trivial | (simp [in64] <;> omega) | (simp only [in64, true_and, and_true]; omega)) ?_)
            )
          refine AWP.ret e tab_ok rfl ?_
          rw [hP]
          all_goals first | rfl | (simp [strip]; done)
      · rw [hw] at c1
        rw [bad (by unfold andG; rw [hw, Bool.false_and])] at hP
        refine AWP.runL e tab_ok L17 300 rfl (by first | trivial | (simp [in64] <;> omega) | (simp only [in64, true_and, and_true]; omega)) ?_
        repeat (
          first
            | (refine AWP.askT rfl ?_; (first | (refine Told.t rfl ?_) | (refine Told.f rfl ?_) | (refine Told.t ?_ ?_; (focus assumption)) | (refine Told.f ?_ ?_; (focus assumption)) | (refine Told.t ?_ ?_; (focus (first | (simp; omega) | (simp [*]; done)); done)) | (refine Told.f ?_ ?_; (focus (first | (simp; omega) | (simp [*]; done)); done))); refine AWP.runL e tab_ok L17 300 rfl (by first | trivial | (simp [in64] <;> omega) | (simp only [in64, true_and, and_true]; omega)) ?_)
            | (refine AWP.callQ e rfl rfl ?_; (first | refine CallQ.mk (c1) rfl rfl ?_); refine AWP.runL e tab_ok L17 300 rfl (by first | trivial | (simp [in64] <;> omega) | (simp only [in64, true_and, and_true]; omega)) ?_)
            | (refine AWP.eq_agg e tab_ok rfl rfl rfl (.inl ⟨rfl, rfl⟩) ?_ 5 (by omega) rfl ?_ rfl rfl rfl rfl rfl rfl rfl ?_; (focus kernel_rfl); (focus kernel_rfl); refine AWP.runL e tab_ok L17 300 rfl (by first | trivial | (simp [in64] <;> omega) | (simp only [in64, true_and, and_true]; omega)) ?_)
            | (refine AWP.eq_agg e tab_ok rfl rfl rfl (.inr ⟨rfl, rfl⟩) ?_ 5 (by omega) rfl ?_ rfl rfl rfl rfl rfl rfl rfl ?_; (focus kernel_rfl); (focus kernel_rfl); refine AWP.runL e tab_ok L17 300 rfl (by first | trivial | (simp [in64] <;> omega) | (simp only [in64, true_and, and_true]; omega)) ?_)
          )
        refine AWP.ret e tab_ok rfl ?_
        rw [hP]
        all_goals first | rfl | (simp [strip]; done)
    · have hlt : ¬ i < rows.length := by simpa using hlt
      obtain rfl : i = rows.length := by omega
      rw [List.take_length] at hg
      rw [hg] at hP
      refine AWP.runL e tab_ok L17 300 rfl (by first | trivial | (simp [in64] <;> omega) | (simp only [in64, true_and, and_true]; omega)) ?_
      refine AWP.bytesStr e tab_ok (andL r0 rows) rfl rfl rfl rfl rfl rfl rfl rfl rfl ?_ ?_ ?_
      · rw [andL_len]
      · intro q b hb
        rw [List.take_length, Nat.zero_add, List.getElem?_map, hb]
        rfl
      refine AWP.runL e tab_ok L17 300 rfl (by first | trivial | (simp [in64] <;> omega) | (simp only [in64, true_and, and_true]; omega)) ?_
      refine AWP.ret e tab_ok rfl ?_
      rw [hP]
      all_goals first | rfl | (simp [strip]; done)
end Go.Proofs.YtclmbbcchgfedaaDoor
