import Derived.Test.YthibaeeoegoliaaF8
open Go Go.Proofs Go.RowKit Go.Sy Go.Signal
namespace Go.Proofs.Ythibaeeoegoliaa

/-- A row of ints that is owned, as a row that may be read. -/
theorem row_den {ok : Nat → Prop} {W : World} {base : Nat} {v : Value} {l : List Int} (hr : W.ownsRow base 3 1 v l.length (l.map fun v => Value.int .i64 v)) (h1 : 1 ≤ l.length)
    (hok : ∀ b, v.ownBlock = some b → ok b) : DDen ok W (.sl 1 (rowI l)) v := by
  rcases hr.2 with ⟨_, h0⟩ | ⟨g, cap, cur, rfl, hb, hg, hn, hm, hs, ht⟩
  · omega
  have hlen : (rowI l).length = l.length := List.length_map _
  rw [Nat.mul_one] at ht hs
  have key : ∀ (i : Nat) (e : List DV) (j : Nat) (c : DV), (rowI l)[i]? = some e → e[j]? = some c → j = 0 ∧ ∃ x, c = .v (.int .i64 x) ∧ cur[i]? = some (.int .i64 x) := by
    intro i e j c he hc
    rw [List.getElem?_map] at he
    cases hl : l[i]? with
    | none => rw [hl] at he; cases he
    | some x =>
      rw [hl] at he
      cases he
      cases j with
      | succ j => simp at hc
      | zero =>
        cases hc
        refine ⟨rfl, x, rfl, ?_⟩
        have h2 : (cur.toList.take l.length)[i]? = some (Value.int .i64 x) := by rw [ht, List.getElem?_map, hl]; rfl
        rw [List.getElem?_take] at h2
        split at h2
        · rwa [Array.getElem?_toList] at h2
        · cases h2
  have hcell : ∀ i, W.cell? ((⟨g, 0, none⟩ : Addr).add (i * 1 + 0)) = cur[i]? := fun i => by
    rw [add_add', cell_at hg]
    congr 1
    omega
  have := DDen.sl (ok := ok) (w := W) 1 (rowI l) ⟨g, 0, none⟩ cap (by omega) hm (fun i e he => by
      have : e ∈ rowI l := List.mem_of_getElem? he
      simp only [rowI, List.mem_map] at this
      obtain ⟨x, _, rfl⟩ := this
      rfl)
    (fun i e j c he hc => by
      obtain ⟨rfl, x, _, hx⟩ := key i e j c he hc
      exact ⟨hok g rfl, _, (hcell i).trans hx⟩)
    (fun i e j c u he hc hu => by
      obtain ⟨rfl, x, rfl, hx⟩ := key i e j c he hc
      rw [hcell i, hx] at hu
      cases hu
      exact .v _)
  rw [hlen] at this
  exact this
theorem max_calls (base : Nat) (W : World) (v : Value) (l : List Int) (hr : W.ownsRow base 3 1 v l.length (l.map fun v => Value.int .i64 v)) (h1 : 1 ≤ l.length) (hl : l.length ≤ 64) :
    Calls Try.prog 24 #[v] W fun e W' => e = .returned (.int .i64 (mxL l)) ∧ Below W.heap.size W W' := by
  obtain ⟨_, hE⟩ := max_eff l h1 (by omega)
  let cx : Cx := ⟨Try.prog, default, W, fun _ => none, fun b => b < W.heap.size, fun _ => False, fun _ _ _ => True, fun _ _ _ => False⟩
  have hH : HInv cx cx.μ0 cx.ok0 [] 0 W := ⟨fun _ _ h => h, fun _ _ => rfl, fun _ h => h, fun _ h => h, fun _ h => .inl h, fun i B h => by simp [aget] at h, fun i j C D b h => by simp [aget] at h, fun _ _ _ => rfl, Nat.le_refl _, rfl, rfl, rfl⟩
  refine (hE cx #[v] rfl (fun b => ⟨fun h => h.elim, fun ⟨i, B, h, _⟩ => by simp [aget] at h⟩) hH rfl (fun j c u hc hu => ?_)).mono ?_
  · cases j with
    | zero =>
      cases hc; cases hu
      exact .d (row_den hr h1 fun b hb => (hr.lt b hb).2)
    | succ j => simp at hc
  · rintro e W' ⟨v', μ, ok, r, h, n', rfl, g1, g2, rfl⟩
    refine ⟨by rw [g2.int], ⟨g1.os, g1.tape, g1.output, g1.size, fun k hk => g1.frame k hk (fun e => e)⟩⟩
end Go.Proofs.Ythibaeeoegoliaa
