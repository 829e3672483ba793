/-
  A builder of text does what is asked of it, at every call. Condition: what the theorems state ahead.
-/
import Derived.Shelf.Strings.BuilderK
import Derived.Test.YthdcegeampcalaaGreatDoorF8
open Go Go.Proofs Go.Sy Go.RowKit
namespace Go.Proofs.YthdcegeampcalaaGreatDoor

/-- What a pointer to a block of such a type is, seen as a builder. -/
structure Bty (T : TypeId) : Prop where
  lies : liesAt Tryz.prog Tryz.prog.depth T (2 / Tryz.prog.cellsOf T) 0 85 1 = true
  ne : T ≠ 5
theorem bty85 : Bty 85 := ⟨by kernel_rfl, by decide⟩
theorem bty87 : Bty 87 := ⟨by kernel_rfl, by decide⟩
abbrev pB (b : Nat) : Value := .pointer (some ⟨b, 0, none⟩)
theorem f85 : ∃ j, Tryz.prog.info? 85 = some j ∧ j.size ≠ 0 := by
  have h : (Tryz.prog.info? 85).map (·.size) = some 2 := by kernel_rfl
  obtain ⟨j, hj, hs⟩ := Option.map_eq_some_iff.1 h
  exact ⟨j, hj, by omega⟩
set_option maxRecDepth 100000 in
set_option maxHeartbeats 1000000 in
theorem chk_used (b : Nat) (w : World) (h0 : w.cell? ⟨b, 0, none⟩ = some (pB b)) : Calls Tryz.prog 58 #[pB b] w fun e w' => e = .returned (.tuple #[]) ∧ w' = w := by
  obtain ⟨j, hj, _⟩ := f85
  go_enter Tryz.func58, Tryz.ntmps58
  go_wp2
  rw [Lib.run_neq_ptr_same w _ Tryz.underlying82 hj]
  go_wp2
  go_end0
  exact ⟨rfl, rfl⟩
set_option maxRecDepth 100000 in
set_option maxHeartbeats 1000000 in
theorem chk_fresh {T : TypeId} (hT : Bty T) (b : Nat) (w : World) (h0 : w.cell? ⟨b, 0, none⟩ = some (.pointer none)) (hsh : w.shape? b = some (T, 2)) (hfz : w.frozen? ⟨b, 0, none⟩ = false) :
    Calls Tryz.prog 58 #[pB b] w fun e w' => e = .returned (.tuple #[]) ∧ w' = w.setCell ⟨b, 0, none⟩ (pB b) := by
  obtain ⟨j, hj, hjs⟩ := f85
  go_enter Tryz.func58, Tryz.ntmps58
  go_wp2
  rw [Lib.run_to_unsafe w ⟨b, 0, none⟩ Tryz.underlying82 Tryz.underlying140 hj hjs hsh (Nat.zero_lt_succ 1)]
  simp only [Result.andThen]
  rw [Oper.upon_value]
  go_wp2
  rw [run_callFunc_extern Tryz.func79 (by kernel_rfl) (by kernel_rfl) (by kernel_rfl) (e := Extern.AbiNoEscape.same) (by kernel_rfl)]
  rw [Lib.run_noEscape]
  simp only [Result.andThen]
  rw [Oper.upon_value]
  go_wp2
  rw [Lib.run_from_unsafe w ⟨b, 0, none⟩ Tryz.underlying140 Tryz.underlying82 hj hsh hT.lies]
  simp only [Result.andThen]
  rw [Oper.upon_value]
  go_wp2
  go_end0
  exact ⟨rfl, rfl⟩
/-- What a call on a builder leaves as it was: all blocks but the builder's own and its row. -/
def Apart (b : Nat) (v : Value) (w w' : World) : Prop :=
  w.heap.size ≤ w'.heap.size ∧ w'.os = w.os ∧ w'.tape = w.tape ∧ w'.output = w.output ∧ ∀ k, k < w.heap.size → k ≠ b → v.ownBlock ≠ some k → w'.heap[k]? = w.heap[k]?
/-- A builder in a block of such a type, with its row. -/
structure Bld (T : TypeId) (b : Nat) (v : Value) (bs : List Value) (w : World) : Prop where
  at' : ∃ p, (p = .pointer none ∨ p = pB b) ∧ w.heap[b]? = some (.cells #[p, v] T (0, 0))
  own : w.ownsRowF 0 5 1 v bs.length bs
  ne : v.ownBlock ≠ some b
theorem Bld.lt {T b v bs w} (h : Bld T b v bs w) : b < w.heap.size := by
  obtain ⟨p, _, hb⟩ := h.at'
  rcases Nat.lt_or_ge b w.heap.size with h' | h'
  · exact h'
  · simp [Array.getElem?_eq_none h'] at hb
set_option maxRecDepth 100000 in
theorem chk_any {T : TypeId} (hT : Bty T) {b : Nat} {v : Value} {bs : List Value} {w : World} (h : Bld T b v bs w) :
    Calls Tryz.prog 58 #[pB b] w fun e w' => e = .returned (.tuple #[]) ∧ w'.heap[b]? = some (.cells #[pB b, v] T (0, 0)) ∧ Bld T b v bs w' ∧ Apart b v w w' ∧ w'.heap.size = w.heap.size := by
  obtain ⟨p, hp, hb⟩ := h.at'
  rcases hp with rfl | rfl
  · refine (chk_fresh hT b w (by simp [World.cell?, hb]) (by simp [World.shape?, hb]) (by simp [World.frozen?, hb])).mono ?_
    rintro e w' ⟨rfl, rfl⟩
    have hk : ∀ k, k ≠ b → (w.setCell ⟨b, 0, none⟩ (pB b)).heap[k]? = w.heap[k]? := fun k hk => Below.heap_setCell _ _ _ _ hk
    have h1 : (w.setCell ⟨b, 0, none⟩ (pB b)).heap[b]? = some (.cells #[pB b, v] T (0, 0)) := by simp [World.setCell, Array.getElem?_modify, hb]
    refine ⟨rfl, h1, ⟨⟨_, .inr rfl, h1⟩, h.own.kept (row := some b) ⟨rfl, rfl, rfl, by simp [World.setCell], fun k _ hk => Below.heap_setCell _ _ _ _ (fun e => hk (by simp [e]))⟩ (Or.inr h.ne), h.ne⟩, ⟨by simp [World.setCell], rfl, rfl, rfl, fun k _ hk2 _ => hk k hk2⟩, by simp [World.setCell]⟩
  · refine (chk_used b w (by simp [World.cell?, hb])).mono ?_
    rintro e w' ⟨rfl, rfl⟩
    exact ⟨rfl, hb, h, ⟨Nat.le_refl _, rfl, rfl, rfl, fun _ _ _ _ => rfl⟩, rfl⟩
theorem byte5 : (Tryz.prog.info? 5).map (fun i => (i.zero, i.size, i.bytes)) = some (some (.int .u8 0), 1, 1) := by kernel_rfl
/-- Of what block an appended row is: the old one's, or a new one. -/
def Orig (v v' : Value) (w : World) : Prop := ∀ k, v'.ownBlock = some k → v.ownBlock = some k ∨ w.heap.size ≤ k
theorem str_run (w : World) {v : Value} {n : Nat} {xs : List Value} (hown : w.ownsRowF 0 5 1 v n xs) (s : ByteArray) (hb : n + s.size ≤ 140737488355328) :
    ∃ v' w', (Builtin.append_ #[83, 9] 83 #[v, .string s]).run Tryz.prog w = .ok v' w' ∧ w'.ownsRowF 0 5 1 v' (n + s.size) (xs ++ Lib.strCells s) ∧ w.grownBy w' v.ownBlock ∧ Orig v v' w := by
  obtain ⟨i0, hi, hz0, hz1, hz2⟩ := info_parts byte5
  have h63 : n + s.size ≤ maxLen := by unfold maxLen; omega
  obtain ⟨v', w', hr, h2, h3, _⟩ := Lib.run_append_own_stringF (P := Tryz.prog) w 0 83 9 83 5 i0 Tryz.underlying83 Tryz.underlying9 hi hz0 hz1 hz2 v n xs hown s h63 hb (Nat.zero_le _)
  refine ⟨v', w', hr, h2, h3, fun k hk => ?_⟩
  rcases hown.2 with ⟨rfl, rfl⟩ | ⟨g, cap, cur, fz, rfl, _, hg, hfz, hnc, hcm, hcs, htake⟩
  · obtain ⟨v2, w2, r1, r2, _⟩ := Lib.run_append_own_stringF (P := Tryz.prog) w w.heap.size 83 9 83 5 i0 Tryz.underlying83 Tryz.underlying9 hi hz0 hz1 hz2 (.slice none 0 0) 0 xs ⟨hown.1, .inl ⟨rfl, rfl⟩⟩ s h63 hb (Nat.le_refl _)
    rw [hr] at r1
    cases r1
    rcases r2.2 with ⟨rfl, _⟩ | ⟨g, _, _, _, rfl, hge, _⟩
    · simp [Value.ownBlock] at hk
    · simp only [Value.ownBlock, Option.some.injEq] at hk
      exact .inr (hk ▸ hge)
  · have hxl : xs.length = n := by simpa using hown.1
    have hcs : cur.size = cap := by simpa using hcs
    by_cases hroom : n + s.size ≤ cap
    · have := Lib.run_append_room_stringF (P := Tryz.prog) w 83 9 83 5 i0 Tryz.underlying83 Tryz.underlying9 hi hz1 g n cap cur fz hg (by simpa using hfz) s hroom (by omega)
      rw [hr] at this
      cases this
      exact .inl hk
    · have holds : ∀ j u, xs[j]? = some u → w.cell? ((⟨g, 0, none⟩ : Addr).add j) = some u := hown.cells (g := g) rfl
      have := Lib.run_append_grow_string (P := Tryz.prog) w 83 9 83 5 i0 (.int .u8 0) Tryz.underlying83 Tryz.underlying9 hi hz0 ⟨g, 0, none⟩ n cap xs (by rw [hz1]; simpa using hxl) holds s (by omega) (by omega) (by rw [hz2]; exact growslice_fits (by omega) (by omega))
      rw [hr] at this
      cases this
      simp only [Value.ownBlock, Option.some.injEq] at hk
      exact .inr (by omega)
theorem byte_run (w : World) {v : Value} {n : Nat} {xs : List Value} (hown : w.ownsRowF 0 5 1 v n xs) (c : Int) (a : Addr) (ha : w.cell? a = some (.int .u8 c)) (hb : n + 1 ≤ 140737488355328) :
    ∃ v' w', (Builtin.append_ #[83, 83] 83 #[v, .slice (some a) 1 1]).run Tryz.prog w = .ok v' w' ∧ w'.ownsRowF 0 5 1 v' (n + 1) (xs ++ [.int .u8 c]) ∧ w.grownBy w' v.ownBlock ∧ Orig v v' w := by
  obtain ⟨i0, hi, hz0, hz1, hz2⟩ := info_parts byte5
  have h63 : n + 1 ≤ maxLen := by unfold maxLen; omega
  have hnews : ∀ (j : Nat) u, [Value.int .u8 c][j]? = some u → w.cell? (a.add j) = some u := by
    intro j u hj
    match j, hj with
    | 0, hj => simp at hj; subst hj; simpa [Addr.add] using ha
  have h1 : ∀ u ∈ [Value.int .u8 c], u.oneCell' = true := by intro u hu; simp at hu; subst hu; rfl
  obtain ⟨v', w', hr, h2, h3, _⟩ := run_append_ownF (P := Tryz.prog) w 0 83 83 5 i0 (.int .u8 0) 1 1 Tryz.underlying83 hi hz0 hz1 hz2 rfl (by decide) v n xs hown a 1 1 [.int .u8 c] rfl hnews h1 h63 (by omega) (Nat.zero_le _)
  refine ⟨v', w', hr, h2, h3, fun k hk => ?_⟩
  rcases hown.2 with ⟨rfl, rfl⟩ | ⟨g, cap, cur, fz, rfl, _, hg, hfz, hnc, hcm, hcs, htake⟩
  · obtain ⟨v2, w2, r1, r2, _⟩ := run_append_ownF (P := Tryz.prog) w w.heap.size 83 83 5 i0 (.int .u8 0) 1 1 Tryz.underlying83 hi hz0 hz1 hz2 rfl (by decide) (.slice none 0 0) 0 xs ⟨hown.1, .inl ⟨rfl, rfl⟩⟩ a 1 1 [.int .u8 c] rfl hnews h1 h63 (by omega) (Nat.le_refl _)
    rw [hr] at r1
    cases r1
    rcases r2.2 with ⟨rfl, _⟩ | ⟨g, _, _, _, rfl, hge, _⟩
    · simp [Value.ownBlock] at hk
    · simp only [Value.ownBlock, Option.some.injEq] at hk
      exact .inr (hk ▸ hge)
  · have hxl : xs.length = n := by simpa using hown.1
    have hcs : cur.size = cap := by simpa using hcs
    by_cases hroom : n + 1 ≤ cap
    · have := run_append_roomF (P := Tryz.prog) w 83 83 5 i0 Tryz.underlying83 hi g n cap cur fz hg (by rw [hz1]; simpa using hfz) a 1 1 [.int .u8 c] (by rw [hz1]; rfl) hnews h1 hroom (by rw [hz1]; show n * 1 + 1 ≤ cur.size; omega)
      rw [hr] at this
      cases this
      exact .inl hk
    · have holds : ∀ j u, xs[j]? = some u → w.cell? ((⟨g, 0, none⟩ : Addr).add j) = some u := hown.cells (g := g) rfl
      have := run_append_grow (P := Tryz.prog) w 83 83 5 i0 (.int .u8 0) Tryz.underlying83 hi hz0 ⟨g, 0, none⟩ n cap xs (by rw [hz1]; simpa using hxl) holds a 1 1 [.int .u8 c] (by rw [hz1]; rfl) hnews (by omega) (by omega) (by rw [hz2]; exact growslice_fits (by omega) (by omega))
      rw [hr] at this
      cases this
      simp only [Value.ownBlock, Option.some.injEq] at hk
      exact .inr (by omega)
theorem wp_str {ops : Array Oper} {rest : List Oper} {o : Oper} {a : Act} {w : World} {Q : Exit → Act → World → Prop} (hgd : o.guard = none) (sl x : Operand)
    (ho : o.op = .call { callee := .builtin .append, args := #[sl, x], argTypes := #[83, 9] }) (hty : o.type = 83) (v : Value) (n : Nat) (xs : List Value) (hs : a.eval sl = v) (hown : w.ownsRowF 0 5 1 v n xs) (s : ByteArray) (hx : a.eval x = .string s)
    (hb : n + s.size ≤ 140737488355328) (h : ∀ v' w', w'.ownsRowF 0 5 1 v' (n + s.size) (xs ++ Lib.strCells s) → w.grownBy w' v.ownBlock → Orig v v' w → wpList Tryz.prog ops Q rest (a.put o.dst v') w') : wpList Tryz.prog ops Q (o :: rest) a w := by
  refine wpList_plain hgd fun K hK => ?_
  obtain ⟨v', w', hr, h2, h3, h4⟩ := str_run w hown s hb
  unfold Oper.wp execOp
  simp only [ho, hty, resolve, invoke, builtin, Sem.run_bind, Sem.run_pure, Result.andThen_ok, List.map_toArray, List.map_cons, List.map_nil, hs, hx, hr]
  exact hK _ _ (h v' w' h2 h3 h4)
theorem wp_byte {ops : Array Oper} {rest : List Oper} {o : Oper} {a : Act} {w : World} {Q : Exit → Act → World → Prop} (hgd : o.guard = none) (sl x : Operand)
    (ho : o.op = .call { callee := .builtin .append, args := #[sl, x], argTypes := #[83, 83] }) (hty : o.type = 83) (v : Value) (n : Nat) (xs : List Value) (hs : a.eval sl = v) (hown : w.ownsRowF 0 5 1 v n xs) (c : Int) (ad : Addr) (hx : a.eval x = .slice (some ad) 1 1)
    (hc : w.cell? ad = some (.int .u8 c)) (hb : n + 1 ≤ 140737488355328) (h : ∀ v' w', w'.ownsRowF 0 5 1 v' (n + 1) (xs ++ [.int .u8 c]) → w.grownBy w' v.ownBlock → Orig v v' w → wpList Tryz.prog ops Q rest (a.put o.dst v') w') : wpList Tryz.prog ops Q (o :: rest) a w := by
  refine wpList_plain hgd fun K hK => ?_
  obtain ⟨v', w', hr, h2, h3, h4⟩ := byte_run w hown c ad hc hb
  unfold Oper.wp execOp
  simp only [ho, hty, resolve, invoke, builtin, Sem.run_bind, Sem.run_pure, Result.andThen_ok, List.map_toArray, List.map_cons, List.map_nil, hs, hx, hr]
  exact hK _ _ (h v' w' h2 h3 h4)
theorem Bld.put {T : TypeId} (hT : Bty T) {b : Nat} {v v' : Value} {bs bs' : List Value} {w w1 w2 : World} (h : Bld T b v bs w1) (ha : Apart b v w w1) (hbk : w1.heap[b]? = some (.cells #[pB b, v] T (0, 0)))
    (hg : w1.grownBy w2 v.ownBlock) (hown : w2.ownsRowF 0 5 1 v' bs'.length bs') (ho : Orig v v' w1) :
    Bld T b v' bs' (w2.setCell ⟨b, 1, none⟩ v') ∧ Apart b v w (w2.setCell ⟨b, 1, none⟩ v') ∧ Orig v v' w := by
  have hb2 : w2.heap[b]? = some (.cells #[pB b, v] T (0, 0)) := by
    rw [hg.block b h.lt (fun e => h.ne e.symm)]
    exact hbk
  have hne : v'.ownBlock ≠ some b := fun e => by
    rcases ho b e with h1 | h1
    · exact h.ne h1
    · have := h.lt; omega
  have hs : w.heap.size ≤ w1.heap.size := ha.1
  refine ⟨⟨⟨_, .inr rfl, by simp [World.setCell, Array.getElem?_modify, hb2]⟩, ?_, hne⟩, ⟨?_, ?_, ?_, ?_, fun k hk h1 h2 => ?_⟩, fun k hk => ?_⟩
  · exact hown.kept (row := some b) ⟨rfl, rfl, rfl, by simp [World.setCell], fun k _ hk => Below.heap_setCell _ _ _ _ (fun e => hk (by simp [e]))⟩ (Or.inr hne)
  · have := hg.size; simp [World.setCell]; omega
  · exact hg.os.trans ha.2.1
  · exact hg.tape.trans ha.2.2.1
  · exact hg.output.trans ha.2.2.2.1
  · have e1 : (w2.setCell ⟨b, 1, none⟩ v').heap[k]? = w2.heap[k]? := Below.heap_setCell _ _ _ _ h1
    exact e1.trans ((hg.block k (by omega) (fun e => h2 e.symm)).trans (ha.2.2.2.2 k hk h1 h2))
  · rcases ho k hk with h1 | h1
    · exact .inl h1
    · exact .inr (by omega)
set_option maxRecDepth 100000 in
set_option maxHeartbeats 2000000 in
/-- Bytes written behind what is held. -/
theorem write_any {T : TypeId} (hT : Bty T) {b : Nat} {v : Value} {bs : List Value} {w : World} (s : ByteArray) (h : Bld T b v bs w) (hlen : bs.length + s.size ≤ 140737488355328) :
    Calls Tryz.prog 35 #[pB b, .string s] w fun e w' => e = .returned (.tuple #[.int .i64 s.size, .nilIface]) ∧ ∃ v', Bld T b v' (bs ++ Lib.strCells s) w' ∧ Apart b v w w' ∧ Orig v v' w := by
  go_enter Tryz.func35, Tryz.ntmps35
  go_wp2_with (go_at_call 58; refine (chk_any hT h).mono ?_)
  rintro e w1 ⟨rfl, hbk, h1, ha1, hs1⟩
  have c1 : w1.cell? ⟨b, 1, none⟩ = some v := by rw [Lib.cell_of_heap hbk]; rfl
  go_wp2_with (at_builtin; refine wp_str rfl _ _ rfl rfl _ _ _ rfl h1.own s rfl hlen ?_)
  intro v' w2 hown' hgrow hor
  obtain ⟨g1, g2, g3⟩ := h1.put hT ha1 hbk hgrow (bs' := bs ++ Lib.strCells s) (by simpa [Lib.strCells_length] using hown') hor
  have hb2 : w2.heap[b]? = some (.cells #[pB b, v] T (0, 0)) := by
    rw [hgrow.block b h1.lt (fun e => h1.ne e.symm)]
    exact hbk
  have d1 : w2.cell? ⟨b, 1, none⟩ = some v := by rw [Lib.cell_of_heap hb2]; rfl
  have f1 : w2.frozen? ⟨b, 1, none⟩ = false := Lib.frozen_of_heap hb2 1
  obtain ⟨ao, n', cap, rfl⟩ : ∃ ao n' cap, v' = .slice ao n' cap := by
    rcases hown'.2 with ⟨hv, _⟩ | ⟨g, cap, cur, fz, hv, _⟩
    · exact ⟨_, _, _, hv⟩
    · exact ⟨_, _, _, hv⟩
  go_wp2
  go_ret2
  exact ⟨rfl, _, g1, g2, g3⟩
theorem Bld.alloc {T : TypeId} {b : Nat} {v : Value} {bs : List Value} {w w1 : World} (h : Bld T b v bs w1) (ha : Apart b v w w1) (o : Obj) : Bld T b v bs (w1.alloc o) ∧ Apart b v w (w1.alloc o) := by
  obtain ⟨p, hp, hb⟩ := h.at'
  have hl := h.lt
  have ha1 := ha.1
  refine ⟨⟨⟨p, hp, (Below.heap_alloc _ _ _ hl).trans hb⟩, h.own.alloc _, h.ne⟩, ⟨by simp; omega, ha.2.1, ha.2.2.1, ha.2.2.2.1, fun k hk h1 h2 => (Below.heap_alloc _ _ _ (by omega)).trans (ha.2.2.2.2 k hk h1 h2)⟩⟩
set_option maxRecDepth 100000 in
set_option maxHeartbeats 2000000 in
/-- One byte written. -/
theorem byte_any {T : TypeId} (hT : Bty T) {b : Nat} {v : Value} {bs : List Value} {w : World} (c : Int) (h : Bld T b v bs w) (hlen : bs.length + 1 ≤ 140737488355328) :
    Calls Tryz.prog 43 #[pB b, .int .u8 c] w fun e w' => e = .returned .nilIface ∧ ∃ v', Bld T b v' (bs ++ [.int .u8 c]) w' ∧ Apart b v w w' ∧ Orig v v' w := by
  go_enter Tryz.func43, Tryz.ntmps43
  go_wp2_with (go_at_call 58; refine (chk_any hT h).mono ?_)
  rintro e w1 ⟨rfl, hbk, h1, ha1, hs1⟩
  have c1 : w1.cell? ⟨b, 1, none⟩ = some v := by rw [Lib.cell_of_heap hbk]; rfl
  clear hs1
  obtain ⟨h2, ha2⟩ := h1.alloc ha1 (.cells #[.int .u8 c] 5)
  have hbk2 : (w1.alloc (.cells #[.int .u8 c] 5)).heap[b]? = some (.cells #[pB b, v] T (0, 0)) := (Below.heap_alloc _ _ _ h1.lt).trans hbk
  have hc : (w1.alloc (.cells #[.int .u8 c] 5)).cell? ⟨w1.heap.size, 0, none⟩ = some (.int .u8 c) := by rw [Lib.cell_of_heap (World.alloc_heap_new w1 _)]; rfl
  go_wp2_with (at_builtin; refine wp_byte rfl _ _ rfl rfl _ _ _ rfl h2.own c ⟨w1.heap.size, 0, none⟩ rfl hc hlen ?_)
  intro v' w2 hown' hgrow hor
  obtain ⟨g1, g2, g3⟩ := h2.put hT ha2 hbk2 hgrow (bs' := bs ++ [.int .u8 c]) (by simpa using hown') hor
  have hb2 : w2.heap[b]? = some (.cells #[pB b, v] T (0, 0)) := by
    rw [hgrow.block b h2.lt (fun e => h2.ne e.symm)]
    exact hbk2
  have d1 : w2.cell? ⟨b, 1, none⟩ = some v := by rw [Lib.cell_of_heap hb2]; rfl
  have f1 : w2.frozen? ⟨b, 1, none⟩ = false := Lib.frozen_of_heap hb2 1
  obtain ⟨ao, n', cap, rfl⟩ : ∃ ao n' cap, v' = .slice ao n' cap := by
    rcases hown'.2 with ⟨hv, _⟩ | ⟨g, cap, cur, fz, hv, _⟩
    · exact ⟨_, _, _, hv⟩
    · exact ⟨_, _, _, hv⟩
  go_wp2
  go_ret
  exact ⟨rfl, _, g1, g2, g3⟩
set_option maxRecDepth 100000 in
set_option maxHeartbeats 2000000 in
/-- How many bytes are held. -/
theorem len_any {T : TypeId} {b : Nat} {v : Value} {bs : List Value} {w : World} (h : Bld T b v bs w) :
    Calls Tryz.prog 41 #[pB b] w fun e w' => e = .returned (.int .i64 bs.length) ∧ w' = w := by
  obtain ⟨p, hp, hb⟩ := h.at'
  have c1 : w.cell? ⟨b, 1, none⟩ = some v := by rw [Lib.cell_of_heap hb]; rfl
  obtain ⟨ao, cap, rfl⟩ : ∃ ao cap, v = .slice ao bs.length cap := by
    rcases h.own.2 with ⟨hv, h0⟩ | ⟨g, cap, cur, fz, hv, _⟩
    · exact ⟨_, _, by rw [hv, h0]⟩
    · exact ⟨_, _, hv⟩
  go_enter Tryz.func41, Tryz.ntmps41
  go_wp2
  go_ret
  exact ⟨rfl, rfl⟩
set_option maxRecDepth 100000 in
set_option maxHeartbeats 2000000 in
/-- What is held, as a text. -/
theorem string_any {T : TypeId} {b : Nat} {v : Value} {l : List UInt8} {w : World} (h : Bld T b v (Lib.byteCells l) w) (hT : Bty T) (h0 : l ≠ []) :
    Calls Tryz.prog 36 #[pB b] w fun e w' => e = .returned (.string ⟨l.toArray⟩) ∧ Bld T b v (Lib.byteCells l) w' ∧ Apart b v w w' := by
  obtain ⟨p, hp, hb⟩ := h.at'
  have hown := h.own
  have hl0 : l.length ≠ 0 := by simpa using h0
  rw [Lib.byteCells_length] at hown
  obtain ⟨g, cap, cur, fz, rfl, hg, hcm, hlc, hcs⟩ : ∃ g cap cur fz, v = .slice (some ⟨g, 0, none⟩) l.length cap ∧ w.heap[g]? = some (.cells cur 5 fz) ∧ cap ≤ maxLen ∧ l.length ≤ cap ∧ cur.size = cap := by
    rcases hown.2 with ⟨_, hz⟩ | ⟨g, cap, cur, fz, hv, _, r1, _, r2, r3, r4, _⟩
    · exact absurd hz hl0
    · exact ⟨g, cap, cur, fz, hv, r1, r3, r2, by omega⟩
  have hgb : g ≠ b := fun e => h.ne (by rw [e]; rfl)
  have hA : Lib.BuilderAtF T 5 0 b p (Lib.byteCells l) w.drew := ⟨Nat.zero_le _, _, hb, by rw [Lib.byteCells_length]; exact hown, h.ne⟩
  have c1 : w.drew.cell? ⟨b, 1, none⟩ = some (.slice (some ⟨g, 0, none⟩) l.length cap) := by
    have : w.drew.heap[b]? = some (.cells #[p, .slice (some ⟨g, 0, none⟩) l.length cap] T (0, 0)) := hb
    rw [Lib.cell_of_heap this]; rfl
  have hF := hA.froze (g := g) (cap := cap) (by rw [Lib.byteCells_length]; exact c1)
  rw [Lib.byteCells_length] at hF
  have hSD : (Builtin.unsafeSliceData_ #[83] 125 #[.slice (some ⟨g, 0, none⟩) l.length cap]).run Tryz.prog w.drew = .ok (.pointer (some ⟨g, 0, none⟩)) w.drew :=
    Lib.run_unsafeSliceData_row _ _ _ _ _ _ (by omega)
  have hUS : (Builtin.unsafeString_ #[125, 3] 9 #[.pointer (some ⟨g, 0, none⟩), .int .i64 l.length]).run Tryz.prog w.drew = .ok (.string ⟨l.toArray⟩) (w.drew.freeze ⟨g, 0, none⟩ l.length) := by
    refine Lib.run_unsafeString_row w.drew 125 3 9 5 Tryz.underlying125 (by kernel_rfl) g cur.size (by have hg' : w.drew.heap[g]? = some (.cells cur 5 fz) := hg; simp [World.shape?, hg']) l h0 (by omega) (by unfold maxLen at hcm; omega) ?_
    intro j x hx
    exact hown.cells (g := g) rfl j (.int .u8 x.toNat) (by simp [Lib.byteCells, hx])
  have hfr : ∀ k, k ≠ g → (w.drew.freeze ⟨g, 0, none⟩ l.length).heap[k]? = w.heap[k]? := fun k hk => by
    unfold World.freeze
    split
    · rfl
    · show (w.heap.modify g _)[k]? = _
      rw [Array.getElem?_modify, if_neg (Ne.symm hk)]
  have hsz : w.heap.size ≤ (w.drew.freeze ⟨g, 0, none⟩ l.length).heap.size := by
    unfold World.freeze
    split
    · exact Nat.le_refl _
    · show w.heap.size ≤ (w.heap.modify g _).size
      rw [Array.size_modify]
      exact Nat.le_refl _
  have hso : (w.drew.freeze ⟨g, 0, none⟩ l.length).os = w.os := by unfold World.freeze; split <;> rfl
  have hst : (w.drew.freeze ⟨g, 0, none⟩ l.length).tape = w.tape := by unfold World.freeze; split <;> rfl
  have hsu : (w.drew.freeze ⟨g, 0, none⟩ l.length).output = w.output := by unfold World.freeze; split <;> rfl
  have hb2 : (w.drew.freeze ⟨g, 0, none⟩ l.length).heap[b]? = some (.cells #[p, .slice (some ⟨g, 0, none⟩) l.length cap] T (0, 0)) := (hfr b (Ne.symm hgb)).trans hb
  have hB : Bld T b (.slice (some ⟨g, 0, none⟩) l.length cap) (Lib.byteCells l) (w.drew.freeze ⟨g, 0, none⟩ l.length) := by
    obtain ⟨_, v2, e1, e2, e3⟩ := hF
    rw [hb2] at e1
    simp only [Option.some.injEq, Obj.cells.injEq, and_true] at e1
    have e1 : Value.slice (some ⟨g, 0, none⟩) l.length cap = v2 := by simpa using e1
    subst e1
    exact ⟨⟨p, hp, hb2⟩, e2, e3⟩
  have hAp : Apart b (.slice (some ⟨g, 0, none⟩) l.length cap) w (w.drew.freeze ⟨g, 0, none⟩ l.length) :=
    ⟨hsz, hso, hst, hsu, fun k _ _ hk => hfr k (fun e => hk (by rw [e]; rfl))⟩
  clear hF hA hown hfr hsz hso hst hsu hb2
  have mixed : Tryz.prog.follows Departure.mixedOrders = true := by kernel_rfl
  go_enter Tryz.func36, Tryz.ntmps36
  go_wp2
  go_region_o
  all_goals (go_wp2; go_ret; exact ⟨rfl, hB, hAp⟩)
end Go.Proofs.YthdcegeampcalaaGreatDoor
