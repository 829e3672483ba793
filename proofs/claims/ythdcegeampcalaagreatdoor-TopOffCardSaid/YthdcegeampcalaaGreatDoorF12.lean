/-
  A frame's head, for every frame that may be. Condition: what the theorems state ahead.
-/
import Derived.Test.YthdcegeampcalaaGreatDoorF10
open Go Go.Proofs Go.Sy Go.RowKit
namespace Go.Proofs.YthdcegeampcalaaGreatDoor
section
variable {c0 cx : Cx} {fn : Func} {lo : Nat} {k : List It} {tm : List (Nat × SV)} {hp : List (Nat × Blk)} {nx : Nat} {all : Array Oper} {rest : List Oper} {d : Nat} {dst : Option Tmp} {ty : TypeId} {pos : String} {after : Array Edge} {S : Nat → Prop}
/-- A truth written. -/
theorem AWP.truthB {b : Nat} {l : List UInt8} (m : MapCx c0 cx S) (e : Env cx Tryz.prog fn lo) (hB : HasB 87 b l S cx.w0) (t : Bool) (hlen : l.length ≤ 100000) {c : Call}
    (hc : acall ⟨tm, hp, nx⟩ c = some (33, [.d (.v (pB b)), .b t])) (hd : dstOk fn.ntmps dst = true)
    (g : ∀ cx2 S2, MapCx c0 cx2 S2 → Env cx2 Tryz.prog fn nx → cx2.Post = cx.Post → HasB 87 b (l ++ [bv t]) S2 cx2.w0 → AWP cx2 (.ops all rest :: k) ⟨tput dst (.d (.v (.tuple #[]))) tm, hp, nx⟩) :
    AWP cx (.ops all (⟨dst, .call c, ty, pos, after, none⟩ :: rest) :: k) ⟨tm, hp, nx⟩ := by
  refine AWP.callW m e Tryz.func33 (by kernel_rfl) (by kernel_rfl) [pB b, .bool t] _ hc hd (HasB 87 b (l ++ [bv t])) (fun w hw => ?_) g
  obtain ⟨v, h1, h2, h3⟩ := hB.moved hw
  refine (truth_any t h1 (by rw [Lib.byteCells_length]; omega)).mono ?_
  rintro ex w' ⟨rfl, v', k1, k2, k3⟩
  rw [cells_app] at k1
  exact ⟨rfl, HasB.next k1 k2 k3 h2 h3 h1.lt⟩
/-- A number written. -/
theorem AWP.numberB {b : Nat} {l : List UInt8} (m : MapCx c0 cx S) (e : Env cx Tryz.prog fn lo) (hB : HasB 87 b l S cx.w0) (n : BitVec 64) (wd : Nat) (hw : wd ≤ 64) (hn : wd < 64 → n >>> wd = 0#64) (hlen : l.length ≤ 100000) {c : Call}
    (hc : acall ⟨tm, hp, nx⟩ c = some (34, [.d (.v (pB b)), U64 n, .i wd])) (hd : dstOk fn.ntmps dst = true)
    (g : ∀ cx2 S2, MapCx c0 cx2 S2 → Env cx2 Tryz.prog fn nx → cx2.Post = cx.Post → HasB 87 b (l ++ bitsOf n wd) S2 cx2.w0 → AWP cx2 (.ops all rest :: k) ⟨tput dst (.d (.v (.tuple #[]))) tm, hp, nx⟩) :
    AWP cx (.ops all (⟨dst, .call c, ty, pos, after, none⟩ :: rest) :: k) ⟨tm, hp, nx⟩ := by
  refine AWP.callW m e Tryz.func34 (by kernel_rfl) (by kernel_rfl) [pB b, .int .u64 n.toNat, .int .i64 wd] _ hc hd (HasB 87 b (l ++ bitsOf n wd)) (fun w hw' => ?_) g
  obtain ⟨v, h1, h2, h3⟩ := hB.moved hw'
  refine (number_any n wd hw hn h1 (by rw [Lib.byteCells_length]; omega)).mono ?_
  rintro ex w' ⟨rfl, v', k1, k2, k3⟩
  rw [cells_app] at k1
  exact ⟨rfl, HasB.next k1 k2 k3 h2 h3 h1.lt⟩
theorem AWP.newB {t : TypeId} (m : MapCx c0 cx S) (e : Env cx Tryz.prog fn lo) {x : Operand} (h1 : opd ⟨tm, hp, nx⟩ x = some (.agg [.d (.v (.pointer none)), .d .nil])) (hd : Nat.blt d fn.ntmps = true)
    (g : ∀ cx2 b, MapCx c0 cx2 (fun q => q = b ∨ S q) → Env cx2 Tryz.prog fn nx → cx2.Post = cx.Post → HasB t b [] (fun q => q = b ∨ S q) cx2.w0 →
      AWP cx2 (.ops all rest :: k) ⟨(d, .d (.v (pB b))) :: tm, hp, nx⟩) : AWP cx (.ops all (⟨some d, .box t x, ty, pos, after, none⟩ :: rest) :: k) ⟨tm, hp, nx⟩ := by
  refine AWP.newW m e #[.pointer none, .slice none 0 0] t hd (fun μ ok a w hI => ?_) fun cx2 b m2 e2 h2 h3 _ => g cx2 b m2 e2 h2 (HasB.new h3 (.inl rfl))
  have hv := opd_den hI.tmps h1
  have : (a.eval x).cells = #[.pointer none, .slice none 0 0] := by
    generalize a.eval x = u at hv
    cases hv with
    | agg vs h h1 =>
      have e1 : vs = #[.pointer none, .slice none 0 0] := by
        apply Array.ext
        · simpa using h
        · intro j q1 q2
          have q3 : j = 0 ∨ j = 1 := by simp at q2; omega
          rcases q3 with rfl | rfl
          · exact (h1 0 _ _ rfl (Array.getElem?_eq_getElem q1)).vv
          · have := h1 1 _ _ rfl (Array.getElem?_eq_getElem q1)
            generalize vs[1] = u at this
            cases this with
            | d h => cases h; rfl
      subst e1
      rfl
  simp [execOp, Instr.box, newVar, newRow, this]
end
/-- A frame's head. -/
def byteB (b : UInt8) : List UInt8 := bitsOf (b.toBitVec.setWidth 64) 8
def idL (f : Frm) : List UInt8 := bif f.ext then bitsOf ((f.id >>> 18).setWidth 64) 11 ++ ([49, 49] ++ bitsOf ((f.id &&& 262143#32).setWidth 64) 18) else bitsOf (f.id.setWidth 64) 11
def headL (f : Frm) : List UInt8 := 48 :: (idL f ++ (bv f.rem :: 48 :: 48 :: (bitsOf (BitVec.ofInt 64 f.dlc) 4 ++ f.data.flatMap byteB)))
theorem small_shr (x : BitVec 32) (w : Nat) (h : x.toNat < 2 ^ w) : x.setWidth 64 >>> w = 0#64 := by
  apply BitVec.eq_of_toNat_eq
  rw [BitVec.toNat_ushiftRight, BitVec.toNat_setWidth, Nat.shiftRight_eq_div_pow]
  have : x.toNat % 2 ^ 64 ≤ x.toNat := Nat.mod_le _ _
  rw [Nat.div_eq_of_lt (by omega)]
  rfl
theorem idx_shr (x : BitVec 32) : IntKind.wrap .u64 ((x.toNat : Int).fdiv (2 ^ (min (18 : Int).toNat IntKind.u32.bits))) = (((x >>> 18).setWidth 64).toNat : Int) := by
  rw [show (x.toNat : Int).fdiv (2 ^ (min (18 : Int).toNat IntKind.u32.bits)) = ((x >>> 18).toNat : Int) from u32shr x 18]
  exact up64 _
theorem idx_and (x : BitVec 32) : IntKind.wrap .u64 (IntKind.wrap .u32 (((BitVec.ofInt IntKind.u32.bits (x.toNat : Int) &&& BitVec.ofInt IntKind.u32.bits 262143).toNat : Nat) : Int)) = (((x &&& 262143#32).setWidth 64).toNat : Int) := by
  rw [show IntKind.wrap .u32 (((BitVec.ofInt IntKind.u32.bits (x.toNat : Int) &&& BitVec.ofInt IntKind.u32.bits 262143).toNat : Nat) : Int) = ((x &&& 262143#32).toNat : Int) from u32and x 262143#32]
  exact up64 _
theorem idx_dlc (n : Int) (h0 : 0 ≤ n) (h8 : n ≤ 8) : IntKind.wrap .u64 n = ((BitVec.ofInt 64 n).toNat : Int) := by
  obtain ⟨k, rfl⟩ : ∃ k : Nat, n = k := ⟨n.toNat, by omega⟩
  have hk : k < 9 := by omega
  have : ∀ k : Fin 9, IntKind.wrap .u64 ((k.1 : Nat) : Int) = ((BitVec.ofInt 64 ((k.1 : Nat) : Int)).toNat : Int) := by decide
  exact this ⟨k, hk⟩
theorem idx_byte (b : UInt8) : IntKind.wrap .u64 (b.toNat : Int) = ((b.toBitVec.setWidth 64).toNat : Int) := by
  rw [wrap_nat .u64 rfl (by have := b.toNat_lt; show _ < 18446744073709551616; omega), BitVec.toNat_setWidth]
  have := b.toNat_lt
  rw [show b.toBitVec.toNat = b.toNat from rfl, Nat.mod_eq_of_lt (by omega)]
theorem small_dlc (n : Int) (h0 : 0 ≤ n) (h8 : n ≤ 8) : BitVec.ofInt 64 n >>> 4 = 0#64 := by
  obtain ⟨k, rfl⟩ : ∃ k : Nat, n = k := ⟨n.toNat, by omega⟩
  have hk : k < 9 := by omega
  have : ∀ k : Fin 9, BitVec.ofInt 64 ((k.1 : Nat) : Int) >>> 4 = 0#64 := by decide
  exact this ⟨k, hk⟩
theorem small_byte (b : UInt8) : b.toBitVec.setWidth 64 >>> 8 = 0#64 := by
  apply BitVec.eq_of_toNat_eq
  have := b.toNat_lt
  rw [BitVec.toNat_ushiftRight, BitVec.toNat_setWidth, Nat.shiftRight_eq_div_pow, show b.toBitVec.toNat = b.toNat from rfl, Nat.mod_eq_of_lt (by omega), Nat.div_eq_of_lt (by omega)]
  rfl
theorem flat_succ {l : List UInt8} {i : Nat} (h : i < l.length) : (l.take (i + 1)).flatMap byteB = (l.take i).flatMap byteB ++ byteB l[i] := by
  rw [List.take_succ_eq_append_getElem h, List.flatMap_append]
  simp
theorem byteB_len (b : UInt8) : (byteB b).length = 8 := bitsOf_len _ _
theorem flat_len (l : List UInt8) : (l.flatMap byteB).length = 8 * l.length := by
  induction l with
  | nil => rfl
  | cons a l ih => rw [List.flatMap_cons, List.length_append, ih, byteB_len, List.length_cons]; omega
theorem right_facts {f : Frm} (h : rightF f = true) : f.id.toNat < (bif f.ext then 536870912 else 2048) ∧ 0 ≤ f.dlc ∧ f.dlc ≤ 8 ∧ f.data.length ≤ 8 := by
  unfold rightF at h
  simp only [Bool.and_eq_true, decide_eq_true_eq] at h
  obtain ⟨h1, h2, h3, h4⟩ := h
  refine ⟨h1, h2, h3, ?_⟩
  cases hq : f.rem <;> rw [hq] at h4
  · have h4 : (f.data.length : Int) = f.dlc := by simpa using h4
    omega
  · have h4 : f.data = [] := by simpa using h4
    rw [h4]; simp
set_option maxRecDepth 100000 in
set_option maxHeartbeats 4000000 in
theorem head_eff (f : Frm) (hr : rightF f = true) : Eff Tryz.prog 20 [.agg (fS f)] [] 0 (fun r _ _ => r = .s (strL (headL f))) := by
  obtain ⟨h1, h2, h3, h4⟩ := right_facts hr
  obtain ⟨id, ext, rem, dlc, data⟩ := f
  unfold headL idL
  dsimp only at h1 h2 h3 h4 ⊢
  refine eff_of Tryz.func20 rfl rfl rfl fun cA e hP => ?_
  have hPA := hP
  refine AWP.runL e tab_ok L20 8 rfl (by trivial ) ?_
  refine AWP.newB (MapCx.start e) e rfl rfl fun cx b m e hP2 hB => ?_
  rw [hP] at hP2
  have hP := hP2
  refine AWP.runL e tab_ok L20 300 rfl (by trivial ) ?_
  refine AWP.truthB m e hB false (by simp) rfl rfl fun cx S m e hP2 hB => ?_
  rw [hP] at hP2
  have hP := hP2
  clear hP2
  refine AWP.runL e tab_ok L20 300 rfl (by trivial ) ?_
  cases ext
  · have hs := small_shr id 11 h1
    refine AWP.runL e tab_ok L20 300 rfl (by trivial ) ?_
    repeat (
      (refine AWP.askT rfl ?_; ( (refine Told.f rfl ?_) ); refine AWP.runL e tab_ok L20 300 rfl (by trivial ) ?_)

      )
    refine AWP.eqT 30 (U64 (id.setWidth 64)) rfl (congrArg (fun z => SV.d (.v (.int .u64 z))) (up64 id)) ?_
    refine AWP.numberB m e hB (id.setWidth 64) 11 (by decide) (fun _ => hs) (by simp) rfl rfl fun cx S m e hP2 hB => ?_
    rw [hP] at hP2
    have hP := hP2
    clear hP2
    refine AWP.runL e tab_ok L20 300 rfl (by trivial ) ?_
    obtain ⟨pre, hpre⟩ : ∃ pre, pre = [] ++ [bv false] ++ bitsOf (id.setWidth 64) 11 ++ [bv rem] ++ [48, 48] ++ bitsOf (BitVec.ofInt 64 dlc) 4 := ⟨_, rfl⟩
    refine AWP.truthB m e hB rem (by simp [bitsOf_len]) rfl rfl fun cx S m e hP2 hB => ?_
    rw [hP] at hP2
    have hP := hP2
    clear hP2
    refine AWP.runL e tab_ok L20 300 rfl (by trivial ) ?_
    refine AWP.nilW e rfl rfl ?_
    refine AWP.fieldW e tab_ok rfl rfl rfl rfl rfl rfl (by decide) ?_
    refine AWP.writeB m e bty87 hB [48, 48] (by simp [bitsOf_len]) rfl rfl fun cx S m e hP2 hB => ?_
    rw [hP] at hP2
    have hP := hP2
    clear hP2
    refine AWP.runL e tab_ok L20 300 rfl (by trivial ) ?_
    refine AWP.eqT 43 (U64 (BitVec.ofInt 64 dlc)) rfl (congrArg (fun z => SV.d (.v (.int .u64 z))) (idx_dlc dlc h2 h3)) ?_
    refine AWP.numberB m e hB (BitVec.ofInt 64 dlc) 4 (by decide) (fun _ => small_dlc dlc h2 h3) (by simp [bitsOf_len]) rfl rfl fun cx S m e hP2 hB => ?_
    rw [hP] at hP2
    have hP := hP2
    clear hP2
    refine AWP.runL e tab_ok L20 300 rfl (by trivial ) ?_
    have hpl : pre.length ≤ 100 := by rw [hpre]; simp [bitsOf_len]
    have hsz : (strL data).size = data.length := strL_size data
    refine AWP.loopM (ι := Nat) (fun i => ⟨[(48, .i i), (47, .i data.length), (3, .d (.v (pB b))), (1, .ptr 0 0)], [(0, .box (fS ⟨id, false, rem, dlc, data⟩))], 1⟩) (fun i c => ∃ S, MapCx cA c S ∧ Env c Tryz.prog Tryz.f20 1 ∧ c.Post = cA.Post ∧ HasB 87 b (pre ++ (data.take i).flatMap byteB) S c.w0 ∧ i ≤ data.length) (fun i => data.length - i) 0 ⟨S, m, e, hP.trans hPA.symm, by rw [List.take_zero, List.flatMap_nil, List.append_nil, hpre]; exact hB, Nat.zero_le _⟩ (fun s c ⟨_, h, _⟩ => ⟨h.P.trans m.P.symm, h.R.trans m.R.symm⟩) ?_ ?_
    · intro g
      refine AWP.less e ?_ ?_ ?_ ?_ ?_ (g) <;> (repeat' (first | exact True.intro | (refine And.intro ?_ ?_) | rfl))
    clear hB e m hP cx
    rintro i cx Φ ⟨S, m, e, hP, hB, hi⟩ next
    rw [hPA] at hP
    refine AWP.runL e tab_ok L20 300 rfl (by trivial ) ?_
    refine AWP.cond2 rfl (fun hlt => ?_) (fun hlt => ?_)
    · have hlt : i < data.length := by have := of_decide_eq_true hlt; omega
      have nx := fun cx' h => next (i + 1) cx' h (by show data.length - (i + 1) < data.length - i; omega)
      rw [flat_succ hlt, ← List.append_assoc] at nx
      have hb := b_at data i hlt
      have hl9 := flat_len (data.take i)
      rw [List.length_take, Nat.min_eq_left hi] at hl9
      clear next
      generalize data[i] = c at *
      refine AWP.runL e tab_ok L20 300 rfl (by  (simp [in64] <;> omega)) ?_
      refine AWP.eqT 56 (U64 (c.toBitVec.setWidth 64)) rfl (congrArg (fun z => SV.d (.v (.int .u64 z))) ((congrArg (IntKind.wrap .u64) hb).trans (idx_byte c))) ?_
      refine AWP.numberB m e hB (c.toBitVec.setWidth 64) 8 (by decide) (fun _ => small_byte c) (by rw [List.length_append]; omega) rfl rfl fun cx S m e hP2 hB => ?_
      rw [hP] at hP2
      have hP := hP2
      clear hP2
      refine AWP.runL e tab_ok L20 300 rfl (by  (simp [in64] <;> omega)) ?_
      refine AWP.less e ?_ ?_ ?_ ?_ ?_ (nx cx ⟨S, m, e, hP.trans hPA.symm, hB, hlt⟩) <;> (repeat' (first | exact True.intro | (refine And.intro ?_ ?_) | rfl))
    · have hlt : ¬ i < data.length := by have := of_decide_eq_false hlt; omega
      obtain rfl : i = data.length := by omega
      rw [List.take_length] at hB
      refine AWP.runL e tab_ok L20 300 rfl (by trivial ) ?_
      refine AWP.nilW e rfl rfl ?_
      refine AWP.fieldW e tab_ok rfl rfl rfl rfl rfl rfl (by decide) ?_
      refine AWP.stringB m e bty87 hB (by rw [hpre]; simp) rfl rfl fun cx S m e hP2 hB => ?_
      rw [hP] at hP2
      have hP := hP2
      clear hP2
      refine AWP.runL e tab_ok L20 300 rfl (by trivial ) ?_
      refine AWP.ret e tab_ok rfl ?_
      rw [hP]
      rw [hpre]
      simp only [List.append_assoc, List.nil_append, List.cons_append, cond_true, cond_false, bv]
      rfl
  · have hs : id >>> 18 < 2048#32 := by
      rw [BitVec.lt_def, BitVec.toNat_ushiftRight, Nat.shiftRight_eq_div_pow]
      have h1 : id.toNat < 536870912 := h1
      show _ < 2048
      omega
    have hs2 : (id &&& 262143#32).toNat < 2 ^ 18 := by
      rw [BitVec.toNat_and]
      exact Nat.lt_of_le_of_lt (Nat.and_le_right) (by decide)
    have hs := small_shr (id >>> 18) 11 hs
    have hs2 := small_shr _ 18 hs2
    refine AWP.runL e tab_ok L20 300 rfl (by trivial ) ?_
    repeat (
      (refine AWP.askT rfl ?_; ((refine Told.t rfl ?_) ); refine AWP.runL e tab_ok L20 300 rfl (by trivial ) ?_)

      )
    refine AWP.eqT 15 (U64 ((id >>> 18).setWidth 64)) rfl (congrArg (fun z => SV.d (.v (.int .u64 z))) (idx_shr id)) ?_
    refine AWP.numberB m e hB ((id >>> 18).setWidth 64) 11 (by decide) (fun _ => hs) (by simp) rfl rfl fun cx S m e hP2 hB => ?_
    rw [hP] at hP2
    have hP := hP2
    clear hP2
    refine AWP.runL e tab_ok L20 300 rfl (by trivial ) ?_
    refine AWP.nilW e rfl rfl ?_
    refine AWP.fieldW e tab_ok rfl rfl rfl rfl rfl rfl (by decide) ?_
    refine AWP.writeB m e bty87 hB [49, 49] (by simp [bitsOf_len]) rfl rfl fun cx S m e hP2 hB => ?_
    rw [hP] at hP2
    have hP := hP2
    clear hP2
    refine AWP.runL e tab_ok L20 300 rfl (by trivial ) ?_
    refine AWP.eqT 25 (U64 ((id &&& 262143#32).setWidth 64)) rfl (congrArg (fun z => SV.d (.v (.int .u64 z))) (idx_and id)) ?_
    refine AWP.numberB m e hB ((id &&& 262143#32).setWidth 64) 18 (by decide) (fun _ => hs2) (by simp [bitsOf_len]) rfl rfl fun cx S m e hP2 hB => ?_
    rw [hP] at hP2
    have hP := hP2
    clear hP2
    refine AWP.runL e tab_ok L20 300 rfl (by trivial ) ?_
    obtain ⟨pre, hpre⟩ : ∃ pre, pre = [] ++ [bv false] ++ bitsOf ((id >>> 18).setWidth 64) 11 ++ [49, 49] ++ bitsOf ((id &&& 262143#32).setWidth 64) 18 ++ [bv rem] ++ [48, 48] ++ bitsOf (BitVec.ofInt 64 dlc) 4 := ⟨_, rfl⟩
    refine AWP.truthB m e hB rem (by simp [bitsOf_len]) rfl rfl fun cx S m e hP2 hB => ?_
    rw [hP] at hP2
    have hP := hP2
    clear hP2
    refine AWP.runL e tab_ok L20 300 rfl (by trivial ) ?_
    refine AWP.nilW e rfl rfl ?_
    refine AWP.fieldW e tab_ok rfl rfl rfl rfl rfl rfl (by decide) ?_
    refine AWP.writeB m e bty87 hB [48, 48] (by simp [bitsOf_len]) rfl rfl fun cx S m e hP2 hB => ?_
    rw [hP] at hP2
    have hP := hP2
    clear hP2
    refine AWP.runL e tab_ok L20 300 rfl (by trivial ) ?_
    refine AWP.eqT 43 (U64 (BitVec.ofInt 64 dlc)) rfl (congrArg (fun z => SV.d (.v (.int .u64 z))) (idx_dlc dlc h2 h3)) ?_
    refine AWP.numberB m e hB (BitVec.ofInt 64 dlc) 4 (by decide) (fun _ => small_dlc dlc h2 h3) (by simp [bitsOf_len]) rfl rfl fun cx S m e hP2 hB => ?_
    rw [hP] at hP2
    have hP := hP2
    clear hP2
    refine AWP.runL e tab_ok L20 300 rfl (by trivial ) ?_
    have hpl : pre.length ≤ 100 := by rw [hpre]; simp [bitsOf_len]
    have hsz : (strL data).size = data.length := strL_size data
    refine AWP.loopM (ι := Nat) (fun i => ⟨[(48, .i i), (47, .i data.length), (3, .d (.v (pB b))), (1, .ptr 0 0)], [(0, .box (fS ⟨id, true, rem, dlc, data⟩))], 1⟩) (fun i c => ∃ S, MapCx cA c S ∧ Env c Tryz.prog Tryz.f20 1 ∧ c.Post = cA.Post ∧ HasB 87 b (pre ++ (data.take i).flatMap byteB) S c.w0 ∧ i ≤ data.length) (fun i => data.length - i) 0 ⟨S, m, e, hP.trans hPA.symm, by rw [List.take_zero, List.flatMap_nil, List.append_nil, hpre]; exact hB, Nat.zero_le _⟩ (fun s c ⟨_, h, _⟩ => ⟨h.P.trans m.P.symm, h.R.trans m.R.symm⟩) ?_ ?_
    · intro g
      refine AWP.less e ?_ ?_ ?_ ?_ ?_ (g) <;> (repeat' (first | exact True.intro | (refine And.intro ?_ ?_) | rfl))
    clear hB e m hP cx
    rintro i cx Φ ⟨S, m, e, hP, hB, hi⟩ next
    rw [hPA] at hP
    refine AWP.runL e tab_ok L20 300 rfl (by trivial ) ?_
    refine AWP.cond2 rfl (fun hlt => ?_) (fun hlt => ?_)
    · have hlt : i < data.length := by have := of_decide_eq_true hlt; omega
      have nx := fun cx' h => next (i + 1) cx' h (by show data.length - (i + 1) < data.length - i; omega)
      rw [flat_succ hlt, ← List.append_assoc] at nx
      have hb := b_at data i hlt
      have hl9 := flat_len (data.take i)
      rw [List.length_take, Nat.min_eq_left hi] at hl9
      clear next
      generalize data[i] = c at *
      refine AWP.runL e tab_ok L20 300 rfl (by  (simp [in64] <;> omega)) ?_
      refine AWP.eqT 56 (U64 (c.toBitVec.setWidth 64)) rfl (congrArg (fun z => SV.d (.v (.int .u64 z))) ((congrArg (IntKind.wrap .u64) hb).trans (idx_byte c))) ?_
      refine AWP.numberB m e hB (c.toBitVec.setWidth 64) 8 (by decide) (fun _ => small_byte c) (by rw [List.length_append]; omega) rfl rfl fun cx S m e hP2 hB => ?_
      rw [hP] at hP2
      have hP := hP2
      clear hP2
      refine AWP.runL e tab_ok L20 300 rfl (by  (simp [in64] <;> omega)) ?_
      refine AWP.less e ?_ ?_ ?_ ?_ ?_ (nx cx ⟨S, m, e, hP.trans hPA.symm, hB, hlt⟩) <;> (repeat' (first | exact True.intro | (refine And.intro ?_ ?_) | rfl))
    · have hlt : ¬ i < data.length := by have := of_decide_eq_false hlt; omega
      obtain rfl : i = data.length := by omega
      rw [List.take_length] at hB
      refine AWP.runL e tab_ok L20 300 rfl (by trivial ) ?_
      refine AWP.nilW e rfl rfl ?_
      refine AWP.fieldW e tab_ok rfl rfl rfl rfl rfl rfl (by decide) ?_
      refine AWP.stringB m e bty87 hB (by rw [hpre]; simp) rfl rfl fun cx S m e hP2 hB => ?_
      rw [hP] at hP2
      have hP := hP2
      clear hP2
      refine AWP.runL e tab_ok L20 300 rfl (by trivial ) ?_
      refine AWP.ret e tab_ok rfl ?_
      rw [hP]
      rw [hpre]
      simp only [List.append_assoc, List.nil_append, List.cons_append, cond_true, cond_false, bv]
      rfl
end Go.Proofs.YthdcegeampcalaaGreatDoor
