import Derived.Test.YthibaeeoegoliaaF6
open Go Go.Proofs Go.RowKit Go.Shelf Go.Signal
namespace Go.Proofs.Ythibaeeoegoliaa
attribute [local go_sem] Oper.semAt_some

theorem info3 : (Try.prog.info? 3).map (fun i => (i.zero, i.size, i.bytes)) = some (some (.int .i64 0), 1, 8) := by kernel_rfl
theorem und24 : Try.prog.underlying 24 = some (.slice 3) := by kernel_rfl
abbrev encN (l : List Nat) : List Value := l.map fun (x : Nat) => Value.int .i64 (x : Int)

/-- The law at one loop variable, laid from slot p into slot q. -/
theorem range_one {F : Fence} {n : Nat} {P : Program} {g : Operand} {p q : Tmp} {assign body : Code} {Q : Exit → Act → World → Prop} {a : Act} {w : World}
    (hro : F.round = none) (h1 : 1 ≤ n) {gf : Nat} {lb : Array Value} (hg : a.eval g = .func (.func gf) #[] lb) (hFg : F.fn gf) (eg : ∀ args w, (callFunc gf args).run P w = .ok (.enter gf args) w)
    {Kp : World → World → Prop} {S Sp : List Nat → Prop} {N : Nat} {w0 : World} (hseq : SeqStopsK F (n - 1) P gf lb (fun x : Nat => #[Value.int .i64 (x : Int)]) Kp S Sp N w0)
    (hKt : ∀ {A B C : World}, Kp A B → Kp B C → Kp A C) (hKb : ∀ (W : World) (l : Nat) (o o' : Obj), w.heap.size ≤ l → W.heap[l]? = some o → o.isCells = false → o.isWalk = false → Kp W (W.putObj l o')) (hb0 : Below w0.heap.size w0 w)
    (I : List Nat → World → Prop) (hI : OwnFrom w.heap.size I) (h0 : I [] w)
    (hassign : ∀ (l : Nat) (x : Nat) (W : World) (K : Act → World → Prop), K { tmps := (a.tmps.setIfInBounds p (.int .i64 (x : Int))).setIfInBounds q (.int .i64 (x : Int)), defers := [] } W →
      assign.wpIn (F.inRound l) (n - 1 - 1) P (Exit.then K (fun _ _ _ => False)) { tmps := a.tmps.setIfInBounds p (.int .i64 (x : Int)), defers := [] } W)
    (hbody : ∀ (l : Nat) (pre : List Nat) (x : Nat) (W : World), I pre W → pre.length < N → body.wpIn (F.inRound l) (n - 1 - 1) P (ownPostG w.heap.size Kp I (fun _ _ _ => False) (pre ++ [x]) W) { tmps := (a.tmps.setIfInBounds p (.int .i64 (x : Int))).setIfInBounds q (.int .i64 (x : Int)), defers := [] } W)
    (hdone : ∀ (D : Nat) (xs : List Nat) (W : World), w.heap.size ≤ D → S xs → I xs W → W.heap[D]? = some (.deferred (some [])) → Q .normal { a with defers := { target := .collected D, args := #[] } :: a.defers } W) :
    (Code.rangeFunc g #[p] assign body).wpIn F n P Q a w :=
  wpIn_rangeFunc_ownG hro h1 hg hFg eg hseq hKt hKb hb0 (fun _ => rfl) I (fun _ _ _ => False) hI (fun _ _ _ _ _ hs _ _ => hs) h0
    (fun x => { tmps := (a.tmps.setIfInBounds p (.int .i64 (x : Int))).setIfInBounds q (.int .i64 (x : Int)), defers := [] })
    (fun l x W K hK => by have := hassign l x W K hK; simpa using this) hbody hdone (fun _ _ _ _ _ _ h _ => h.elim)

theorem sig_own {β : Type} (B : Nat) (o : Obj) (ho : o.isCells = true) : Own (fun (_ : β) W => W.heap[B]? = some o) := fun s X Y row hs hg hrow =>
  (hg.block B (Array.getElem?_eq_some_iff.1 hs).1 (fun e' => by obtain ⟨o', ho', hc⟩ := hrow B e'.symm; rw [hs] at ho'; cases ho'; rw [ho] at hc; cases hc)).trans hs

/-- A row of its own in a higher place is one in a lower one. -/
theorem ownsRow_low {W : World} {m base : Nat} {e : TypeId} {size : Nat} {v : Value} {k : Nat} {xs : List Value} (hm : m ≤ base) (h : W.ownsRow base e size v k xs) : W.ownsRow m e size v k xs :=
  ⟨h.1, h.2.imp id fun ⟨g, cap, cur, h1, h2, h3⟩ => ⟨g, cap, cur, h1, Nat.le_trans hm h2, h3⟩⟩

theorem own_ne {W : World} {base : Nat} {e : TypeId} {size : Nat} {v : Value} {k : Nat} {xs : List Value} (h : W.ownsRow base e size v k xs) {D : Nat} {o : Obj} (hD : W.heap[D]? = some o) (ho : o.isCells = false) : some D ≠ v.ownBlock := by
  rcases h.2 with ⟨rfl, _⟩ | ⟨g, cap, cur, rfl, _, hgb, _⟩
  · simp [Value.ownBlock]
  · intro e'
    obtain rfl : D = g := by simpa [Value.ownBlock] using e'
    rw [hgb] at hD; cases hD; cases ho
theorem row_rev {W : World} {b : Nat} {e : TypeId} {s : Nat} {v : Value} {l : List Nat} (h : W.ownsRow b e s v l.length (encN l.reverse)) : W.ownsRow b e s v l.reverse.length (encN l.reverse) := by
  rw [List.length_reverse]; exact h
theorem len_rev {l : List Nat} {n : Nat} (h : l.length = n) : l.reverse.length = n := by rw [List.length_reverse]; exact h
theorem mx_outL (a k : Nat) : mxL (intsN (outL true a k)) = mxL (List.map (fun (z : Nat) => (z : Int)) (ats true a k)).reverse := congrArg mxL List.map_reverse
/-- What the loop keeps: l's box, the signal's. -/
def Keep (w : World) (s : Obj) (pre : List Nat) (W : World) : Prop :=
  (∃ v, Boxed W (w.heap.size + 1) 24 v ∧ W.ownsRow (w.heap.size + 4) 3 1 v pre.length (encN pre) ∧ True) ∧ W.heap[w.heap.size]? = some s ∧ w.heap.size + 4 ≤ W.heap.size ∧ Below w.heap.size w W
theorem keep_own (w : World) (s : Obj) (hs : s.isCells = true) (B : Nat) (hB : w.heap.size ≤ B) : OwnFrom B (Keep w s) :=
  OwnFrom.and (Own.from (holdsRow_own (w.heap.size + 4) (w.heap.size + 1) 24 3 1 (fun pre => pre.length) (fun pre => encN pre) (fun _ _ => True)) _) (OwnFrom.and (Own.from (sig_own _ s hs) _) (OwnFrom.and (fun _ _ _ _ h hg _ => Nat.le_trans h hg.size) (ownFrom_below (Nat.le_refl _) hB)))
/-- Behind an append. -/
theorem keep_app {w W w1 : World} {s : Obj} {pre : List Nat} {x : Nat} {v v' : Value} {tmp : Obj} (hW : w.heap.size + 4 ≤ W.heap.size) (_hs : s.isCells = true) (hsz : W.heap[w.heap.size]? = some s) (hB : Below w.heap.size w W)
    (hv : Boxed W (w.heap.size + 1) 24 v) (hrow : W.ownsRow (w.heap.size + 4) 3 1 v pre.length (encN pre))
    (hown' : w1.ownsRow (w.heap.size + 4) 3 1 v' (pre.length + 1) (encN pre ++ [.int .i64 (x : Int)])) (hgrow : (W.alloc tmp).grownBy w1 v.ownBlock) :
    Boxed w1 (w.heap.size + 1) 24 v ∧ KeepsOthers W (w1.setCell ⟨w.heap.size + 1, 0, none⟩ v') ∧ KK (w.heap.size + 2) (w.heap.size + 4) W (w1.setCell ⟨w.heap.size + 1, 0, none⟩ v') ∧ Keep w s (pre ++ [x]) (w1.setCell ⟨w.heap.size + 1, 0, none⟩ v') := by
  obtain ⟨g1, g2, g3, g4, g5⟩ := hv.appended (by decide) (ownsRow_low (by omega) hrow) (by omega) (show w.heap.size ≤ w.heap.size + 1 by omega) (ownsRow_low (by omega) hown') hgrow
  have hne : ∀ b, b < w.heap.size + 4 → some b ≠ v.ownBlock := fun b hb e => by
    have := (hrow.lt b e.symm).1; omega
  have hsame : ∀ b, b < w.heap.size + 4 → b ≠ w.heap.size + 1 → (w1.setCell ⟨w.heap.size + 1, 0, none⟩ v').heap[b]? = W.heap[b]? := fun b hb h1 => by
    rw [Below.heap_setCell _ _ _ b h1, hgrow.block b (by simp; omega) (hne b hb)]
    exact Below.heap_alloc _ _ _ (by omega)
  refine ⟨g1, g4, fun b h1 h2 => hsame b h2 (by omega), ⟨v', g2, ?_, trivial⟩, (hsame _ (by omega) (by omega)).trans hsz, Nat.le_trans hW g5.size, hB.trans g5⟩
  have := hown'.kept (grownBy_setCell' w1 (w.heap.size + 1) v') (.inr (g1.not_row (by decide) hown').symm)
  simpa [encN] using this

set_option maxRecDepth 100000 in
set_option maxHeartbeats 8000000 in
theorem placesU_in (F : Fence) (n : Nat) (h23 : F.fn 23) (h24 : F.fn 24) (h33 : F.fn 33) (h31 : F.fn 31) (h32 : F.fn 32) (h36 : F.fn 36) (h37 : F.fn 37) (hro : F.round = none) (hn : 3 ≤ n) (a : Nat) (sgn : Bool)(ha : a ≤ 63) (k : Nat) (hk1 : 1 ≤ k) (hk : k ≤ 64) (hs : k < 64) (w : World)
    (hMax : ∀ (base : Nat) (W : World) (v : Value) (l : List Nat), W.ownsRow base 3 1 v l.length (encN l) → 1 ≤ l.length → l.length ≤ 64 → CallsIn F (n - 1) Try.prog 24 #[v] W fun e W' => e = .returned (.int .i64 (mxL (intsN l))) ∧ Below W.heap.size W W')
    (hRev : ∀ (base : Nat) (W : World) (v : Value) (l : List Nat), W.ownsRow base 3 1 v l.length (encN l) → 1 ≤ l.length → l.length ≤ 64 → CallsIn F (n - 1) Try.prog 33 #[v] W fun e W' => (∃ u, e = .returned u) ∧ W'.ownsRow base 3 1 v l.length (encN l.reverse) ∧ W.grownBy W' v.ownBlock) :
    CallsIn F n Try.prog 23 #[.agg #[.int .i64 (a : Int), .int .i64 (k : Int), .bool false, .bool sgn]] w fun e W' => ∃ v, e = .returned v ∧ Below w.heap.size w W' ∧
      ((64 ≤ mxL (intsN (outL false a k)) ∧ v = .slice none 0 0) ∨ (mxL (intsN (outL false a k)) < 64 ∧ W'.ownsRow (w.heap.size + 4) 3 1 v k (encN (outL false a k)))) := by
  have hu := And.intro (And.intro h24 h33) (And.intro (And.intro h31 h32) (And.intro h36 h37))
  have hu' := @hRev
  clear hu hu'
  have h1 : 1 ≤ n := by omega
  obtain ⟨i0, hi, hz0, hz1, hz2⟩ := info_parts info3
  refine callsIn_of_wp_marks Try.func23 rfl h23 ?_ hro
  simp only [Try.ntmps23, List.size_toArray, List.length_cons, List.length_nil, Nat.reduceAdd, Nat.reduceSub, Array.replicate_succ, Array.replicate_zero, List.push_toArray, List.append_toArray, List.nil_append, List.cons_append]
  have t1 : ¬ (64 : Int) ≤ (a : Int) := by omega
  have t2 : ¬ (k : Int) < 1 := by omega
  have t3 : ¬ (64 : Int) < (k : Int) := by omega
  have t4 : ¬ (k : Int) = 64 := by omega
  gi_wp2_with (gi_at_call 31; refine (up_in F (n - 1) h31 hro _ _ _).mono ?_; rintro e w' ⟨rfl, rfl⟩)
  clear t1 t2 t3
  have bL := Boxed.new (w.alloc (.cells #[.int .i64 (a : Int), .int .i64 (k : Int), .bool false, .bool sgn] 23)) 24 (.slice none 0 0)
  rw [World.size_alloc] at bL
  have bS : (w.alloc (.cells #[.int .i64 (a : Int), .int .i64 (k : Int), .bool false, .bool sgn] 23)).heap[w.heap.size]? = some (.cells #[.int .i64 (a : Int), .int .i64 (k : Int), .bool false, .bool sgn] 23) := World.alloc_heap_new w _
  have hB0 : Below w.heap.size w ((((w.alloc (.cells #[.int .i64 (a : Int), .int .i64 (k : Int), .bool false, .bool sgn] 23)).alloc (.cells #[.slice none 0 0] 24)).alloc (.cells #[.int .i64 (a : Int)] 3)).alloc (.cells #[.int .i64 (k : Int)] 3)) :=
    ((((Below.refl _ w).alloc (Nat.le_refl _) _).alloc (by simp) _).alloc (by simp; omega) _).alloc (by simp; omega) _
  obtain ⟨W1, hW1⟩ : ∃ W1, ((((w.alloc (.cells #[.int .i64 (a : Int), .int .i64 (k : Int), .bool false, .bool sgn] 23)).alloc (.cells #[.slice none 0 0] 24)).alloc (.cells #[.int .i64 (a : Int)] 3)).alloc (.cells #[.int .i64 (k : Int)] 3)) = W1 := ⟨_, rfl⟩
  have hz : W1.heap.size = w.heap.size + 4 := by rw [← hW1]; simp
  have hL1 : Boxed W1 (w.heap.size + 1) 24 (.slice none 0 0) := by rw [← hW1]; exact (bL.alloc _).alloc _
  have hS1 : W1.heap[w.heap.size]? = some (.cells #[.int .i64 (a : Int), .int .i64 (k : Int), .bool false, .bool sgn] 23) := by
    rw [← hW1]
    rw [Below.heap_alloc _ _ _ (by simp; omega), Below.heap_alloc _ _ _ (by simp; omega), Below.heap_alloc _ _ _ (by simp)]
    exact bS
  have hc2 : W1.cell? ⟨w.heap.size + 1 + 1, 0, none⟩ = some (.int .i64 (a : Int)) := by
    have := Boxed.new ((w.alloc (.cells #[.int .i64 (a : Int), .int .i64 (k : Int), .bool false, .bool sgn] 23)).alloc (.cells #[.slice none 0 0] 24)) 3 (.int .i64 (a : Int))
    rw [World.size_alloc, World.size_alloc] at this
    rw [← hW1]; exact (this.alloc _).cell
  have hc3 : W1.cell? ⟨w.heap.size + 1 + 1 + 1, 0, none⟩ = some (.int .i64 (k : Int)) := by
    have := Boxed.new (((w.alloc (.cells #[.int .i64 (a : Int), .int .i64 (k : Int), .bool false, .bool sgn] 23)).alloc (.cells #[.slice none 0 0] 24)).alloc (.cells #[.int .i64 (a : Int)] 3)) 3 (.int .i64 (k : Int))
    rw [World.size_alloc, World.size_alloc, World.size_alloc] at this
    rw [← hW1]; exact this.cell
  rw [hW1] at hB0 ⊢
  clear hW1 bL bS
  refine range_one (q := 5) hro h1 (gf := 36) (lb := #[.pointer (some ⟨w.heap.size + 1 + 1 + 1, 0, none⟩), .pointer (some ⟨w.heap.size + 1 + 1, 0, none⟩)]) rfl h36 (enters_of Try.func36 (by kernel_rfl) rfl)
    (up_stops F (n - 1) h36 hro (by omega) (w.heap.size + 1 + 1 + 1) (w.heap.size + 1 + 1) (w.heap.size + 2) (w.heap.size + 4) a k (by omega) (by omega) ha (by omega) W1 (by omega) (by omega) hc3 hc2) KK.t (KK.b (by omega)) (Below.refl _ _)
    (Keep w (.cells #[.int .i64 (a : Int), .int .i64 (k : Int), .bool false, .bool sgn] 23)) (keep_own w _ rfl _ (by omega)) ⟨⟨_, hL1, World.ownsRow_nil _ _ _ _, trivial⟩, hS1, by omega, hB0⟩ ?assign ?body ?done
  case assign =>
    intro l x W K hK
    simp only [List.setIfInBounds_toArray, List.set_cons_succ, List.set_cons_zero] at hK ⊢
    gi_wp2
    exact hK
  case body =>
    rintro l pre x W ⟨⟨v, hv, hrow, -⟩, hsg, hWs, hB⟩ hlt
    have hc := hv.cell
    have m1 : pre.length + 1 ≤ maxLen := by simp only [maxLen]; omega
    have m2 : (pre.length + 1) * 8 ≤ 140737488355328 := by omega
    simp only [List.setIfInBounds_toArray, List.set_cons_succ, List.set_cons_zero]
    gi_wp2_with (gi_at_builtin; refine wpListIn_append_own _ rfl _ _ 24 rfl (w.heap.size + 4) 3 i0 (.int .i64 0) 1 8 und24 hi hz0 hz1 hz2 rfl (by decide) _ _ _ rfl (hrow.alloc _) ⟨W.heap.size, 0, none⟩ 1 1 [.int .i64 (x : Int)] rfl rfl (cell_one_new _ _ _) (by simp [Value.oneCell']) m1 m2 (by simp; omega) ?_; intro v' w1 hown' hgrow _; obtain ⟨g', cap', rfl⟩ := ownsRow_succ hown'; obtain ⟨hv1, hk1, hk2, hk3⟩ := keep_app hWs rfl hsg hB hv hrow hown' hgrow; have hc1 := hv1.cell; have hf1 := hv1.frozen)
    exact ⟨hk1.from _, hk2, hk3⟩
  case done =>
    rintro D ys W hD rfl ⟨⟨v, hv, hrow, -⟩, hsg, hWs, hB⟩ hK
    have hc := hv.cell
    have hsb : W.cell? ⟨w.heap.size, 2, none⟩ = some (.bool false) := by simp [World.cell?, hsg]
    have hlen : (ats false a k).length = k := ats_len _ _ _
    gi_wp2_with (gi_at_call 24; go_loud (refine (hMax _ _ _ _ hrow (by omega) (by omega)).mono ?_; rintro e W3 ⟨rfl, hb3⟩; have hc3 := (World.cell?_of_block (hb3.block _ (by show w.heap.size + 1 < _; omega))).trans hc; have hK3 := (hb3.block _ (Array.getElem?_eq_some_iff.1 hK).1).trans hK; have hr3 := hrow.kept (row := none) ⟨hb3.os, hb3.tape, hb3.output, hb3.size, fun b h _ => hb3.block b h⟩ (by cases v.ownBlock <;> simp)))
    all_goals have hB3 := (hB.trans (hb3.mono (by omega))).trans (belowK_b (w := w) (Nat.le_refl _) W3 D _ (.deferred none) (by omega) hK3 rfl rfl)
    all_goals rw [hlen] at hr3
    · rename_i hmx
      refine ⟨by simp, .inl ⟨_, _, rfl, run_takeDeferred hK3, ?_⟩⟩
      exact ⟨_, results_tmp rfl _ _ _, _, rfl, hB3, .inl ⟨hmx, rfl⟩⟩
    · rename_i hmx
      refine ⟨by simp, .inl ⟨_, _, rfl, run_takeDeferred hK3, ?_⟩⟩
      exact ⟨_, results_tmp rfl _ _ _, _, rfl, hB3, .inr ⟨hmx, ownsRow_putObj hr3 _ hK3 rfl⟩⟩
set_option maxRecDepth 100000 in
set_option maxHeartbeats 8000000 in
theorem placesW_in (F : Fence) (n : Nat) (h23 : F.fn 23) (h24 : F.fn 24) (h33 : F.fn 33) (h31 : F.fn 31) (h32 : F.fn 32) (h36 : F.fn 36) (h37 : F.fn 37) (hro : F.round = none) (hn : 3 ≤ n) (a : Nat) (_v : Unit)(ha : a ≤ 63) (k : Nat) (hk1 : 1 ≤ k) (hk : k ≤ 64) (hs : Unit → k = 64) (w : World)
    (hMax : ∀ (base : Nat) (W : World) (v : Value) (l : List Nat), W.ownsRow base 3 1 v l.length (encN l) → 1 ≤ l.length → l.length ≤ 64 → CallsIn F (n - 1) Try.prog 24 #[v] W fun e W' => e = .returned (.int .i64 (mxL (intsN l))) ∧ Below W.heap.size W W')
    (hRev : ∀ (base : Nat) (W : World) (v : Value) (l : List Nat), W.ownsRow base 3 1 v l.length (encN l) → 1 ≤ l.length → l.length ≤ 64 → CallsIn F (n - 1) Try.prog 33 #[v] W fun e W' => (∃ u, e = .returned u) ∧ W'.ownsRow base 3 1 v l.length (encN l.reverse) ∧ W.grownBy W' v.ownBlock) :
    CallsIn F n Try.prog 23 #[.agg #[.int .i64 (a : Int), .int .i64 64, .bool false, .bool true]] w fun e W' => ∃ v, e = .returned v ∧ Below w.heap.size w W' ∧
      ((64 ≤ mxL (intsN (outL false a k)) ∧ v = .slice none 0 0) ∨ (mxL (intsN (outL false a k)) < 64 ∧ W'.ownsRow (w.heap.size + 4) 3 1 v k (encN (outL false a k)))) := by
  have hu := And.intro (And.intro h24 h33) (And.intro (And.intro h31 h32) (And.intro h36 h37))
  have hu' := @hRev
  clear hu hu'
  have h1 : 1 ≤ n := by omega
  obtain ⟨i0, hi, hz0, hz1, hz2⟩ := info_parts info3
  refine callsIn_of_wp_marks Try.func23 rfl h23 ?_ hro
  simp only [Try.ntmps23, List.size_toArray, List.length_cons, List.length_nil, Nat.reduceAdd, Nat.reduceSub, Array.replicate_succ, Array.replicate_zero, List.push_toArray, List.append_toArray, List.nil_append, List.cons_append]
  have t1 : ¬ (64 : Int) ≤ (a : Int) := by omega
  have t2 : ¬ 64 < 1 := by omega
  have t3 : ¬ (64 : Int) < 64 := by omega
  skip
  gi_wp2_with (gi_at_call 31; refine (up_in F (n - 1) h31 hro _ _ _).mono ?_; rintro e w' ⟨rfl, rfl⟩)
  clear t1 t2 t3
  have bL := Boxed.new (w.alloc (.cells #[.int .i64 (a : Int), .int .i64 64, .bool false, .bool true] 23)) 24 (.slice none 0 0)
  rw [World.size_alloc] at bL
  have bS : (w.alloc (.cells #[.int .i64 (a : Int), .int .i64 64, .bool false, .bool true] 23)).heap[w.heap.size]? = some (.cells #[.int .i64 (a : Int), .int .i64 64, .bool false, .bool true] 23) := World.alloc_heap_new w _
  have hB0 : Below w.heap.size w ((((w.alloc (.cells #[.int .i64 (a : Int), .int .i64 64, .bool false, .bool true] 23)).alloc (.cells #[.slice none 0 0] 24)).alloc (.cells #[.int .i64 (a : Int)] 3)).alloc (.cells #[.int .i64 64] 3)) :=
    ((((Below.refl _ w).alloc (Nat.le_refl _) _).alloc (by simp) _).alloc (by simp; omega) _).alloc (by simp; omega) _
  obtain ⟨W1, hW1⟩ : ∃ W1, ((((w.alloc (.cells #[.int .i64 (a : Int), .int .i64 64, .bool false, .bool true] 23)).alloc (.cells #[.slice none 0 0] 24)).alloc (.cells #[.int .i64 (a : Int)] 3)).alloc (.cells #[.int .i64 64] 3)) = W1 := ⟨_, rfl⟩
  have hz : W1.heap.size = w.heap.size + 4 := by rw [← hW1]; simp
  have hL1 : Boxed W1 (w.heap.size + 1) 24 (.slice none 0 0) := by rw [← hW1]; exact (bL.alloc _).alloc _
  have hS1 : W1.heap[w.heap.size]? = some (.cells #[.int .i64 (a : Int), .int .i64 64, .bool false, .bool true] 23) := by
    rw [← hW1]
    rw [Below.heap_alloc _ _ _ (by simp; omega), Below.heap_alloc _ _ _ (by simp; omega), Below.heap_alloc _ _ _ (by simp)]
    exact bS
  have hc2 : W1.cell? ⟨w.heap.size + 1 + 1, 0, none⟩ = some (.int .i64 (a : Int)) := by
    have := Boxed.new ((w.alloc (.cells #[.int .i64 (a : Int), .int .i64 64, .bool false, .bool true] 23)).alloc (.cells #[.slice none 0 0] 24)) 3 (.int .i64 (a : Int))
    rw [World.size_alloc, World.size_alloc] at this
    rw [← hW1]; exact (this.alloc _).cell
  have hc3 : W1.cell? ⟨w.heap.size + 1 + 1 + 1, 0, none⟩ = some (.int .i64 64) := by
    have := Boxed.new (((w.alloc (.cells #[.int .i64 (a : Int), .int .i64 64, .bool false, .bool true] 23)).alloc (.cells #[.slice none 0 0] 24)).alloc (.cells #[.int .i64 (a : Int)] 3)) 3 (.int .i64 64)
    rw [World.size_alloc, World.size_alloc, World.size_alloc] at this
    rw [← hW1]; exact this.cell
  rw [hW1] at hB0 ⊢
  clear hW1 bL bS
  refine range_one (q := 5) hro h1 (gf := 36) (lb := #[.pointer (some ⟨w.heap.size + 1 + 1 + 1, 0, none⟩), .pointer (some ⟨w.heap.size + 1 + 1, 0, none⟩)]) rfl h36 (enters_of Try.func36 (by kernel_rfl) rfl)
    (up_stops F (n - 1) h36 hro (by omega) (w.heap.size + 1 + 1 + 1) (w.heap.size + 1 + 1) (w.heap.size + 2) (w.heap.size + 4) a k (by omega) (by omega) ha (by omega) W1 (by omega) (by omega) (by rw [hs ()]; exact hc3) hc2) KK.t (KK.b (by omega)) (Below.refl _ _)
    (Keep w (.cells #[.int .i64 (a : Int), .int .i64 64, .bool false, .bool true] 23)) (keep_own w _ rfl _ (by omega)) ⟨⟨_, hL1, World.ownsRow_nil _ _ _ _, trivial⟩, hS1, by omega, hB0⟩ ?assign ?body ?done
  case assign =>
    intro l x W K hK
    simp only [List.setIfInBounds_toArray, List.set_cons_succ, List.set_cons_zero] at hK ⊢
    gi_wp2
    exact hK
  case body =>
    rintro l pre x W ⟨⟨v, hv, hrow, -⟩, hsg, hWs, hB⟩ hlt
    have hc := hv.cell
    have m1 : pre.length + 1 ≤ maxLen := by simp only [maxLen]; omega
    have m2 : (pre.length + 1) * 8 ≤ 140737488355328 := by omega
    simp only [List.setIfInBounds_toArray, List.set_cons_succ, List.set_cons_zero]
    gi_wp2_with (gi_at_builtin; refine wpListIn_append_own _ rfl _ _ 24 rfl (w.heap.size + 4) 3 i0 (.int .i64 0) 1 8 und24 hi hz0 hz1 hz2 rfl (by decide) _ _ _ rfl (hrow.alloc _) ⟨W.heap.size, 0, none⟩ 1 1 [.int .i64 (x : Int)] rfl rfl (cell_one_new _ _ _) (by simp [Value.oneCell']) m1 m2 (by simp; omega) ?_; intro v' w1 hown' hgrow _; obtain ⟨g', cap', rfl⟩ := ownsRow_succ hown'; obtain ⟨hv1, hk1, hk2, hk3⟩ := keep_app hWs rfl hsg hB hv hrow hown' hgrow; have hc1 := hv1.cell; have hf1 := hv1.frozen)
    exact ⟨hk1.from _, hk2, hk3⟩
  case done =>
    rintro D ys W hD rfl ⟨⟨v, hv, hrow, -⟩, hsg, hWs, hB⟩ hK
    have hc := hv.cell
    have hsb : W.cell? ⟨w.heap.size, 2, none⟩ = some (.bool false) := by simp [World.cell?, hsg]
    have hlen : (ats false a k).length = k := ats_len _ _ _
    gi_wp2_with (gi_at_call 24; go_loud (refine (hMax _ _ _ _ hrow (by omega) (by omega)).mono ?_; rintro e W3 ⟨rfl, hb3⟩; have hc3 := (World.cell?_of_block (hb3.block _ (by show w.heap.size + 1 < _; omega))).trans hc; have hK3 := (hb3.block _ (Array.getElem?_eq_some_iff.1 hK).1).trans hK; have hr3 := hrow.kept (row := none) ⟨hb3.os, hb3.tape, hb3.output, hb3.size, fun b h _ => hb3.block b h⟩ (by cases v.ownBlock <;> simp)))
    all_goals have hB3 := (hB.trans (hb3.mono (by omega))).trans (belowK_b (w := w) (Nat.le_refl _) W3 D _ (.deferred none) (by omega) hK3 rfl rfl)
    all_goals rw [hlen] at hr3
    · rename_i hmx
      refine ⟨by simp, .inl ⟨_, _, rfl, run_takeDeferred hK3, ?_⟩⟩
      exact ⟨_, results_tmp rfl _ _ _, _, rfl, hB3, .inl ⟨hmx, rfl⟩⟩
    · rename_i hmx
      refine ⟨by simp, .inl ⟨_, _, rfl, run_takeDeferred hK3, ?_⟩⟩
      exact ⟨_, results_tmp rfl _ _ _, _, rfl, hB3, .inr ⟨hmx, ownsRow_putObj hr3 _ hK3 rfl⟩⟩
set_option maxRecDepth 100000 in
set_option maxHeartbeats 8000000 in
theorem placesD_in (F : Fence) (n : Nat) (h23 : F.fn 23) (h24 : F.fn 24) (h33 : F.fn 33) (h31 : F.fn 31) (h32 : F.fn 32) (h36 : F.fn 36) (h37 : F.fn 37) (hro : F.round = none) (hn : 3 ≤ n) (a : Nat) (sgn : Bool)(ha : a ≤ 63) (k : Nat) (hk1 : 1 ≤ k) (hk : k ≤ 64) (hs : k < 64) (w : World)
    (hMax : ∀ (base : Nat) (W : World) (v : Value) (l : List Nat), W.ownsRow base 3 1 v l.length (encN l) → 1 ≤ l.length → l.length ≤ 64 → CallsIn F (n - 1) Try.prog 24 #[v] W fun e W' => e = .returned (.int .i64 (mxL (intsN l))) ∧ Below W.heap.size W W')
    (hRev : ∀ (base : Nat) (W : World) (v : Value) (l : List Nat), W.ownsRow base 3 1 v l.length (encN l) → 1 ≤ l.length → l.length ≤ 64 → CallsIn F (n - 1) Try.prog 33 #[v] W fun e W' => (∃ u, e = .returned u) ∧ W'.ownsRow base 3 1 v l.length (encN l.reverse) ∧ W.grownBy W' v.ownBlock) :
    CallsIn F n Try.prog 23 #[.agg #[.int .i64 (a : Int), .int .i64 (k : Int), .bool true, .bool sgn]] w fun e W' => ∃ v, e = .returned v ∧ Below w.heap.size w W' ∧
      ((64 ≤ mxL (intsN (outL true a k)) ∧ v = .slice none 0 0) ∨ (mxL (intsN (outL true a k)) < 64 ∧ W'.ownsRow (w.heap.size + 4) 3 1 v k (encN (outL true a k)))) := by
  have hu := And.intro (And.intro h24 h33) (And.intro (And.intro h31 h32) (And.intro h36 h37))
  have hu' := @hRev
  clear hu hu'
  have h1 : 1 ≤ n := by omega
  obtain ⟨i0, hi, hz0, hz1, hz2⟩ := info_parts info3
  refine callsIn_of_wp_marks Try.func23 rfl h23 ?_ hro
  simp only [Try.ntmps23, List.size_toArray, List.length_cons, List.length_nil, Nat.reduceAdd, Nat.reduceSub, Array.replicate_succ, Array.replicate_zero, List.push_toArray, List.append_toArray, List.nil_append, List.cons_append]
  have t1 : ¬ (64 : Int) ≤ (a : Int) := by omega
  have t2 : ¬ (k : Int) < 1 := by omega
  have t3 : ¬ (64 : Int) < (k : Int) := by omega
  have t4 : ¬ (k : Int) = 64 := by omega
  gi_wp2_with (gi_at_call 32; refine (down_in F (n - 1) h32 hro _ _ _).mono ?_; rintro e w' ⟨rfl, rfl⟩)
  clear t1 t2 t3
  have bL := Boxed.new (w.alloc (.cells #[.int .i64 (a : Int), .int .i64 (k : Int), .bool true, .bool sgn] 23)) 24 (.slice none 0 0)
  rw [World.size_alloc] at bL
  have bS : (w.alloc (.cells #[.int .i64 (a : Int), .int .i64 (k : Int), .bool true, .bool sgn] 23)).heap[w.heap.size]? = some (.cells #[.int .i64 (a : Int), .int .i64 (k : Int), .bool true, .bool sgn] 23) := World.alloc_heap_new w _
  have hB0 : Below w.heap.size w ((((w.alloc (.cells #[.int .i64 (a : Int), .int .i64 (k : Int), .bool true, .bool sgn] 23)).alloc (.cells #[.slice none 0 0] 24)).alloc (.cells #[.int .i64 (a : Int)] 3)).alloc (.cells #[.int .i64 (k : Int)] 3)) :=
    ((((Below.refl _ w).alloc (Nat.le_refl _) _).alloc (by simp) _).alloc (by simp; omega) _).alloc (by simp; omega) _
  obtain ⟨W1, hW1⟩ : ∃ W1, ((((w.alloc (.cells #[.int .i64 (a : Int), .int .i64 (k : Int), .bool true, .bool sgn] 23)).alloc (.cells #[.slice none 0 0] 24)).alloc (.cells #[.int .i64 (a : Int)] 3)).alloc (.cells #[.int .i64 (k : Int)] 3)) = W1 := ⟨_, rfl⟩
  have hz : W1.heap.size = w.heap.size + 4 := by rw [← hW1]; simp
  have hL1 : Boxed W1 (w.heap.size + 1) 24 (.slice none 0 0) := by rw [← hW1]; exact (bL.alloc _).alloc _
  have hS1 : W1.heap[w.heap.size]? = some (.cells #[.int .i64 (a : Int), .int .i64 (k : Int), .bool true, .bool sgn] 23) := by
    rw [← hW1]
    rw [Below.heap_alloc _ _ _ (by simp; omega), Below.heap_alloc _ _ _ (by simp; omega), Below.heap_alloc _ _ _ (by simp)]
    exact bS
  have hc2 : W1.cell? ⟨w.heap.size + 1 + 1, 0, none⟩ = some (.int .i64 (a : Int)) := by
    have := Boxed.new ((w.alloc (.cells #[.int .i64 (a : Int), .int .i64 (k : Int), .bool true, .bool sgn] 23)).alloc (.cells #[.slice none 0 0] 24)) 3 (.int .i64 (a : Int))
    rw [World.size_alloc, World.size_alloc] at this
    rw [← hW1]; exact (this.alloc _).cell
  have hc3 : W1.cell? ⟨w.heap.size + 1 + 1 + 1, 0, none⟩ = some (.int .i64 (k : Int)) := by
    have := Boxed.new (((w.alloc (.cells #[.int .i64 (a : Int), .int .i64 (k : Int), .bool true, .bool sgn] 23)).alloc (.cells #[.slice none 0 0] 24)).alloc (.cells #[.int .i64 (a : Int)] 3)) 3 (.int .i64 (k : Int))
    rw [World.size_alloc, World.size_alloc, World.size_alloc] at this
    rw [← hW1]; exact this.cell
  rw [hW1] at hB0 ⊢
  clear hW1 bL bS
  refine range_one (q := 5) hro h1 (gf := 37) (lb := #[.pointer (some ⟨w.heap.size + 1 + 1, 0, none⟩), .pointer (some ⟨w.heap.size + 1 + 1 + 1, 0, none⟩)]) rfl h37 (enters_of Try.func37 (by kernel_rfl) rfl)
    (down_stops F (n - 1) h37 hro (by omega) (w.heap.size + 1 + 1 + 1) (w.heap.size + 1 + 1) (w.heap.size + 2) (w.heap.size + 4) a k (by omega) (by omega) ha (by omega) W1 (by omega) (by omega) hc3 hc2) KK.t (KK.b (by omega)) (Below.refl _ _)
    (Keep w (.cells #[.int .i64 (a : Int), .int .i64 (k : Int), .bool true, .bool sgn] 23)) (keep_own w _ rfl _ (by omega)) ⟨⟨_, hL1, World.ownsRow_nil _ _ _ _, trivial⟩, hS1, by omega, hB0⟩ ?assign ?body ?done
  case assign =>
    intro l x W K hK
    simp only [List.setIfInBounds_toArray, List.set_cons_succ, List.set_cons_zero] at hK ⊢
    gi_wp2
    exact hK
  case body =>
    rintro l pre x W ⟨⟨v, hv, hrow, -⟩, hsg, hWs, hB⟩ hlt
    have hc := hv.cell
    have m1 : pre.length + 1 ≤ maxLen := by simp only [maxLen]; omega
    have m2 : (pre.length + 1) * 8 ≤ 140737488355328 := by omega
    simp only [List.setIfInBounds_toArray, List.set_cons_succ, List.set_cons_zero]
    gi_wp2_with (gi_at_builtin; refine wpListIn_append_own _ rfl _ _ 24 rfl (w.heap.size + 4) 3 i0 (.int .i64 0) 1 8 und24 hi hz0 hz1 hz2 rfl (by decide) _ _ _ rfl (hrow.alloc _) ⟨W.heap.size, 0, none⟩ 1 1 [.int .i64 (x : Int)] rfl rfl (cell_one_new _ _ _) (by simp [Value.oneCell']) m1 m2 (by simp; omega) ?_; intro v' w1 hown' hgrow _; obtain ⟨g', cap', rfl⟩ := ownsRow_succ hown'; obtain ⟨hv1, hk1, hk2, hk3⟩ := keep_app hWs rfl hsg hB hv hrow hown' hgrow; have hc1 := hv1.cell; have hf1 := hv1.frozen)
    exact ⟨hk1.from _, hk2, hk3⟩
  case done =>
    rintro D ys W hD rfl ⟨⟨v, hv, hrow, -⟩, hsg, hWs, hB⟩ hK
    have hc := hv.cell
    have hsb : W.cell? ⟨w.heap.size, 2, none⟩ = some (.bool true) := by simp [World.cell?, hsg]
    have hlen : (ats true a k).length = k := ats_len _ _ _
    have hlr := len_rev hlen
    gi_wp2_with first
      | (gi_at_call 33; go_loud (refine (hRev _ _ _ _ hrow (by omega) (by omega)).mono ?_; rintro e W2 ⟨⟨u, rfl⟩, hr2, hg2⟩; have hne : ∀ b, b < w.heap.size + 4 → some b ≠ v.ownBlock := (fun b hb e => by have := (hrow.lt b e.symm).1; omega); have hc2' := (World.cell?_of_block (hg2.block (w.heap.size + 1) (by omega) (hne _ (by omega)))).trans hc; have hB2 : Below w.heap.size W W2 := ⟨hg2.os, hg2.tape, hg2.output, hg2.size, fun b h => hg2.block b (by omega) (hne b (by omega))⟩; have hK2 := (hg2.block D (Array.getElem?_eq_some_iff.1 hK).1 (own_ne hrow hK rfl)).trans hK; have hs2 := hg2.size; have hr2 := row_rev hr2))
      | (gi_at_call 24; go_loud (refine (hMax _ _ _ _ hr2 (by omega) (by omega)).mono ?_; rintro e W3 ⟨rfl, hb3⟩; have hc3 := (World.cell?_of_block (hb3.block _ (by show w.heap.size + 1 < _; omega))).trans hc2'; have hK3 := (hb3.block _ (Array.getElem?_eq_some_iff.1 hK2).1).trans hK2; have hr3 := hr2.kept (row := none) ⟨hb3.os, hb3.tape, hb3.output, hb3.size, fun b h _ => hb3.block b h⟩ (by cases v.ownBlock <;> simp)))
    all_goals have hB3 := ((hB.trans hB2).trans (hb3.mono (by omega))).trans (belowK_b (w := w) (Nat.le_refl _) W3 D _ (.deferred none) (by omega) hK3 rfl rfl)
    all_goals rw [hlr] at hr3
    · rename_i hmx
      refine ⟨by simp, .inl ⟨_, _, rfl, run_takeDeferred hK3, ?_⟩⟩
      exact ⟨_, results_tmp rfl _ _ _, _, rfl, hB3, .inl ⟨by rw [mx_outL]; exact hmx, rfl⟩⟩
    · rename_i hmx
      refine ⟨by simp, .inl ⟨_, _, rfl, run_takeDeferred hK3, ?_⟩⟩
      exact ⟨_, results_tmp rfl _ _ _, _, rfl, hB3, .inr ⟨by rw [mx_outL]; exact hmx, ownsRow_putObj hr3 _ hK3 rfl⟩⟩
set_option maxRecDepth 100000 in
set_option maxHeartbeats 8000000 in
theorem placesE_in (F : Fence) (n : Nat) (h23 : F.fn 23) (h24 : F.fn 24) (h33 : F.fn 33) (h31 : F.fn 31) (h32 : F.fn 32) (h36 : F.fn 36) (h37 : F.fn 37) (hro : F.round = none) (hn : 3 ≤ n) (a : Nat) (_v : Unit)(ha : a ≤ 63) (k : Nat) (hk1 : 1 ≤ k) (hk : k ≤ 64) (hs : Unit → k = 64) (w : World)
    (hMax : ∀ (base : Nat) (W : World) (v : Value) (l : List Nat), W.ownsRow base 3 1 v l.length (encN l) → 1 ≤ l.length → l.length ≤ 64 → CallsIn F (n - 1) Try.prog 24 #[v] W fun e W' => e = .returned (.int .i64 (mxL (intsN l))) ∧ Below W.heap.size W W')
    (hRev : ∀ (base : Nat) (W : World) (v : Value) (l : List Nat), W.ownsRow base 3 1 v l.length (encN l) → 1 ≤ l.length → l.length ≤ 64 → CallsIn F (n - 1) Try.prog 33 #[v] W fun e W' => (∃ u, e = .returned u) ∧ W'.ownsRow base 3 1 v l.length (encN l.reverse) ∧ W.grownBy W' v.ownBlock) :
    CallsIn F n Try.prog 23 #[.agg #[.int .i64 (a : Int), .int .i64 64, .bool true, .bool true]] w fun e W' => ∃ v, e = .returned v ∧ Below w.heap.size w W' ∧
      ((64 ≤ mxL (intsN (outL true a k)) ∧ v = .slice none 0 0) ∨ (mxL (intsN (outL true a k)) < 64 ∧ W'.ownsRow (w.heap.size + 4) 3 1 v k (encN (outL true a k)))) := by
  have hu := And.intro (And.intro h24 h33) (And.intro (And.intro h31 h32) (And.intro h36 h37))
  have hu' := @hRev
  clear hu hu'
  have h1 : 1 ≤ n := by omega
  obtain ⟨i0, hi, hz0, hz1, hz2⟩ := info_parts info3
  refine callsIn_of_wp_marks Try.func23 rfl h23 ?_ hro
  simp only [Try.ntmps23, List.size_toArray, List.length_cons, List.length_nil, Nat.reduceAdd, Nat.reduceSub, Array.replicate_succ, Array.replicate_zero, List.push_toArray, List.append_toArray, List.nil_append, List.cons_append]
  have t1 : ¬ (64 : Int) ≤ (a : Int) := by omega
  have t2 : ¬ 64 < 1 := by omega
  have t3 : ¬ (64 : Int) < 64 := by omega
  skip
  gi_wp2_with (gi_at_call 32; refine (down_in F (n - 1) h32 hro _ _ _).mono ?_; rintro e w' ⟨rfl, rfl⟩)
  clear t1 t2 t3
  have bL := Boxed.new (w.alloc (.cells #[.int .i64 (a : Int), .int .i64 64, .bool true, .bool true] 23)) 24 (.slice none 0 0)
  rw [World.size_alloc] at bL
  have bS : (w.alloc (.cells #[.int .i64 (a : Int), .int .i64 64, .bool true, .bool true] 23)).heap[w.heap.size]? = some (.cells #[.int .i64 (a : Int), .int .i64 64, .bool true, .bool true] 23) := World.alloc_heap_new w _
  have hB0 : Below w.heap.size w ((((w.alloc (.cells #[.int .i64 (a : Int), .int .i64 64, .bool true, .bool true] 23)).alloc (.cells #[.slice none 0 0] 24)).alloc (.cells #[.int .i64 (a : Int)] 3)).alloc (.cells #[.int .i64 64] 3)) :=
    ((((Below.refl _ w).alloc (Nat.le_refl _) _).alloc (by simp) _).alloc (by simp; omega) _).alloc (by simp; omega) _
  obtain ⟨W1, hW1⟩ : ∃ W1, ((((w.alloc (.cells #[.int .i64 (a : Int), .int .i64 64, .bool true, .bool true] 23)).alloc (.cells #[.slice none 0 0] 24)).alloc (.cells #[.int .i64 (a : Int)] 3)).alloc (.cells #[.int .i64 64] 3)) = W1 := ⟨_, rfl⟩
  have hz : W1.heap.size = w.heap.size + 4 := by rw [← hW1]; simp
  have hL1 : Boxed W1 (w.heap.size + 1) 24 (.slice none 0 0) := by rw [← hW1]; exact (bL.alloc _).alloc _
  have hS1 : W1.heap[w.heap.size]? = some (.cells #[.int .i64 (a : Int), .int .i64 64, .bool true, .bool true] 23) := by
    rw [← hW1]
    rw [Below.heap_alloc _ _ _ (by simp; omega), Below.heap_alloc _ _ _ (by simp; omega), Below.heap_alloc _ _ _ (by simp)]
    exact bS
  have hc2 : W1.cell? ⟨w.heap.size + 1 + 1, 0, none⟩ = some (.int .i64 (a : Int)) := by
    have := Boxed.new ((w.alloc (.cells #[.int .i64 (a : Int), .int .i64 64, .bool true, .bool true] 23)).alloc (.cells #[.slice none 0 0] 24)) 3 (.int .i64 (a : Int))
    rw [World.size_alloc, World.size_alloc] at this
    rw [← hW1]; exact (this.alloc _).cell
  have hc3 : W1.cell? ⟨w.heap.size + 1 + 1 + 1, 0, none⟩ = some (.int .i64 64) := by
    have := Boxed.new (((w.alloc (.cells #[.int .i64 (a : Int), .int .i64 64, .bool true, .bool true] 23)).alloc (.cells #[.slice none 0 0] 24)).alloc (.cells #[.int .i64 (a : Int)] 3)) 3 (.int .i64 64)
    rw [World.size_alloc, World.size_alloc, World.size_alloc] at this
    rw [← hW1]; exact this.cell
  rw [hW1] at hB0 ⊢
  clear hW1 bL bS
  refine range_one (q := 5) hro h1 (gf := 37) (lb := #[.pointer (some ⟨w.heap.size + 1 + 1, 0, none⟩), .pointer (some ⟨w.heap.size + 1 + 1 + 1, 0, none⟩)]) rfl h37 (enters_of Try.func37 (by kernel_rfl) rfl)
    (down_stops F (n - 1) h37 hro (by omega) (w.heap.size + 1 + 1 + 1) (w.heap.size + 1 + 1) (w.heap.size + 2) (w.heap.size + 4) a k (by omega) (by omega) ha (by omega) W1 (by omega) (by omega) (by rw [hs ()]; exact hc3) hc2) KK.t (KK.b (by omega)) (Below.refl _ _)
    (Keep w (.cells #[.int .i64 (a : Int), .int .i64 64, .bool true, .bool true] 23)) (keep_own w _ rfl _ (by omega)) ⟨⟨_, hL1, World.ownsRow_nil _ _ _ _, trivial⟩, hS1, by omega, hB0⟩ ?assign ?body ?done
  case assign =>
    intro l x W K hK
    simp only [List.setIfInBounds_toArray, List.set_cons_succ, List.set_cons_zero] at hK ⊢
    gi_wp2
    exact hK
  case body =>
    rintro l pre x W ⟨⟨v, hv, hrow, -⟩, hsg, hWs, hB⟩ hlt
    have hc := hv.cell
    have m1 : pre.length + 1 ≤ maxLen := by simp only [maxLen]; omega
    have m2 : (pre.length + 1) * 8 ≤ 140737488355328 := by omega
    simp only [List.setIfInBounds_toArray, List.set_cons_succ, List.set_cons_zero]
    gi_wp2_with (gi_at_builtin; refine wpListIn_append_own _ rfl _ _ 24 rfl (w.heap.size + 4) 3 i0 (.int .i64 0) 1 8 und24 hi hz0 hz1 hz2 rfl (by decide) _ _ _ rfl (hrow.alloc _) ⟨W.heap.size, 0, none⟩ 1 1 [.int .i64 (x : Int)] rfl rfl (cell_one_new _ _ _) (by simp [Value.oneCell']) m1 m2 (by simp; omega) ?_; intro v' w1 hown' hgrow _; obtain ⟨g', cap', rfl⟩ := ownsRow_succ hown'; obtain ⟨hv1, hk1, hk2, hk3⟩ := keep_app hWs rfl hsg hB hv hrow hown' hgrow; have hc1 := hv1.cell; have hf1 := hv1.frozen)
    exact ⟨hk1.from _, hk2, hk3⟩
  case done =>
    rintro D ys W hD rfl ⟨⟨v, hv, hrow, -⟩, hsg, hWs, hB⟩ hK
    have hc := hv.cell
    have hsb : W.cell? ⟨w.heap.size, 2, none⟩ = some (.bool true) := by simp [World.cell?, hsg]
    have hlen : (ats true a k).length = k := ats_len _ _ _
    have hlr := len_rev hlen
    gi_wp2_with first
      | (gi_at_call 33; go_loud (refine (hRev _ _ _ _ hrow (by omega) (by omega)).mono ?_; rintro e W2 ⟨⟨u, rfl⟩, hr2, hg2⟩; have hne : ∀ b, b < w.heap.size + 4 → some b ≠ v.ownBlock := (fun b hb e => by have := (hrow.lt b e.symm).1; omega); have hc2' := (World.cell?_of_block (hg2.block (w.heap.size + 1) (by omega) (hne _ (by omega)))).trans hc; have hB2 : Below w.heap.size W W2 := ⟨hg2.os, hg2.tape, hg2.output, hg2.size, fun b h => hg2.block b (by omega) (hne b (by omega))⟩; have hK2 := (hg2.block D (Array.getElem?_eq_some_iff.1 hK).1 (own_ne hrow hK rfl)).trans hK; have hs2 := hg2.size; have hr2 := row_rev hr2))
      | (gi_at_call 24; go_loud (refine (hMax _ _ _ _ hr2 (by omega) (by omega)).mono ?_; rintro e W3 ⟨rfl, hb3⟩; have hc3 := (World.cell?_of_block (hb3.block _ (by show w.heap.size + 1 < _; omega))).trans hc2'; have hK3 := (hb3.block _ (Array.getElem?_eq_some_iff.1 hK2).1).trans hK2; have hr3 := hr2.kept (row := none) ⟨hb3.os, hb3.tape, hb3.output, hb3.size, fun b h _ => hb3.block b h⟩ (by cases v.ownBlock <;> simp)))
    all_goals have hB3 := ((hB.trans hB2).trans (hb3.mono (by omega))).trans (belowK_b (w := w) (Nat.le_refl _) W3 D _ (.deferred none) (by omega) hK3 rfl rfl)
    all_goals rw [hlr] at hr3
    · rename_i hmx
      refine ⟨by simp, .inl ⟨_, _, rfl, run_takeDeferred hK3, ?_⟩⟩
      exact ⟨_, results_tmp rfl _ _ _, _, rfl, hB3, .inl ⟨by rw [mx_outL]; exact hmx, rfl⟩⟩
    · rename_i hmx
      refine ⟨by simp, .inl ⟨_, _, rfl, run_takeDeferred hK3, ?_⟩⟩
      exact ⟨_, results_tmp rfl _ _ _, _, rfl, hB3, .inr ⟨by rw [mx_outL]; exact hmx, ownsRow_putObj hr3 _ hK3 rfl⟩⟩
end Go.Proofs.Ythibaeeoegoliaa
