/-
  The builder: WriteByte; what is grown keeps room. No condition but the ones that each states.
-/
import Derived.Test.YtojcbhkhfcddnaaDoorBldC
import Derived.Test.YtojcbhkhfcddnaaDoorPf
namespace Go.Proofs.YtojcbhkhfcddnaaDoor
open Go Go.Sh Go.RowKit
set_option maxRecDepth 100000
/-- (*strings.Builder).WriteByte -/
theorem c_WriteByte {B b : Nat} {c : Int} {w : World} {v : Value} {l : List Value} (h : Bld B w b v l) (hl : l.length ≤ 17592186044416) (hB : B ≤ w.heap.size) :
    Calls Tryd.prog 54 #[.pointer (some ⟨b, 0, none⟩), .int .u8 c] w fun e w' => ∃ x, e = .returned x ∧ ∃ v', Bld B w' b v' (l ++ [.int .u8 c]) ∧ Upd (bldS b v) w w' := by
  refine F54.calls ?_
  unfold F54
  obtain ⟨_, ho, hn⟩ := id h
  refine callF_val (c_copyCheck h) fun w1 ⟨h1, s1, u1⟩ => ?_
  refine nilckp ?_
  refine opv_run (fieldAt_eq (off := 1) (by kernel_rfl)) ?_
  refine opv_run (ldC (by kernel_rfl) h1 (by rfl)) ?_
  have ho1 := ho.upd1 u1 hn
  refine buildSlice_intro (e := 5) (m := 1) (z := #[.int .u8 0]) (by kernel_rfl) (by kernel_rfl) (by rfl) (by decide) (by simp [fillL, splice, repL, Value.cells]; rfl) (fun b2 w2 e2 h2 s2 u2 => ?_)
  have ho2 := ho1.upd0 u2
  have h12 := u2.get0 h1
  refine app_intro (bytes := 1) (by kernel_rfl) ho2 (Rd.of_blockL h2) rfl (by simp [Value.oneCell']) (by simp; omega) (by omega) (fun v3 w3 N3 u3 => ?_)
  have h13 := u3.get h12 (fun hk => hn b hk rfl)
  refine nilckp ?_
  refine opv_run (fieldAt_eq (off := 1) (by kernel_rfl)) ?_
  have hlt := h.lt
  have hn3 : ∀ k, ownS v3 k → k ≠ b := by
    intro k hk e
    subst e
    rcases h13' : N3 with ⟨n, _, h' | ⟨g, cap, cur, hv, _, hg, _⟩⟩
    · rw [h'.1] at hk; cases hk
    · rw [hv] at hk
      cases hk
      rw [h13] at hg
      have := (Option.some.inj hg)
      cases this
  have hsz : (Value.cells v3) = #[v3] ∧ v3.oneCell' = true := by
    rcases N3 with ⟨n, _, h' | ⟨g, cap, cur, hv, _⟩⟩
    · rw [h'.1]; exact ⟨rfl, rfl⟩
    · rw [hv]; exact ⟨rfl, rfl⟩
  refine store1_intro (by kernel_rfl) hsz.1 hsz.2 h13 (by simp) rfl (fun w4 h4 s4 u4 => ?_)
  refine ⟨_, rfl, v3, ⟨⟨_, .inr rfl, h4⟩, N3.upd1 u4 hn3, hn3⟩, ?_⟩
  have a := (Fr.refl (bldS b v) _ w).go u1 (fun i _ h => .inl h)
  have a := a.go0 u2
  have a := a.go u3 (fun i _ h => .inr h)
  exact a.go u4 (fun i _ h => .inl h)
theorem c_WriteByteU {B b : Nat} {c : UInt8} {w : World} {v : Value} {l : List UInt8} (h : Bld B w b v (Lib.byteCells l)) (hl : l.length ≤ 17592186044416) (hB : B ≤ w.heap.size) :
    Calls Tryd.prog 54 #[.pointer (some ⟨b, 0, none⟩), .int .u8 c.toNat] w fun e w' => ∃ x, e = .returned x ∧ ∃ v', Bld B w' b v' (Lib.byteCells (l ++ [c])) ∧ Upd (bldS b v) w w' :=
  (c_WriteByte h (by rw [Lib.byteCells_length]; exact hl) hB).mono fun e w' ⟨x, he, v', hb, hu⟩ => ⟨x, he, v', by rw [Lib.byteCells_append]; exact hb, hu⟩
/-- A slice with room. -/
def Roomy (v : Value) : Prop := ∃ a n c, v = .slice a n c ∧ 1 ≤ c
theorem c_WriteString_room {B b : Nat} {s : ByteArray} {w : World} {v : Value} {l : List UInt8} (h : Bld B w b v (Lib.byteCells l)) (hv : Roomy v) (hl : l.length ≤ 17592186044416) (hs : s.size ≤ 17592186044416) (hB : B ≤ w.heap.size) :
    Calls Tryd.prog 52 #[.pointer (some ⟨b, 0, none⟩), .string s] w fun e w' => ∃ x, e = .returned x ∧ ∃ v', Bld B w' b v' (Lib.byteCells (l ++ s.data.toList)) ∧ Roomy v' ∧ Upd (bldS b v) w w' := by
  by_cases h0 : s.size = 0
  · have hd : s.data.toList = [] := List.length_eq_zero_iff.1 (by rw [Array.length_toList]; exact h0)
    obtain ⟨a, n, c, rfl, hc⟩ := hv
    refine F52.calls ?_
    unfold F52
    obtain ⟨_, ho, hn⟩ := id h
    refine callF_val (c_copyCheck h) fun w1 ⟨h1, s1, u1⟩ => ?_
    refine nilckp ?_
    refine opv_run (fieldAt_eq (off := 1) (by kernel_rfl)) ?_
    refine opv_run (ldC (by kernel_rfl) h1 (by rfl)) ?_
    have ho1 := ho.upd1 u1 hn
    obtain ⟨m, hr⟩ := id ho1
    have hm : m = l.length := by have := hr.1; simp [Lib.byteCells] at this; omega
    subst hm
    have hnl : n = l.length ∧ n ≤ c := by
      rcases hr.2 with ⟨hq, _⟩ | ⟨g, cap, cur, hq, _, _, hcc, _⟩
      · cases hq; omega
      · cases hq; exact ⟨rfl, hcc⟩
    obtain ⟨i, hi, hi2⟩ : ∃ i, (Tryd.prog).info? 5 = some i ∧ i.size = 1 := by
      have h : ((Tryd.prog).info? 5).map (·.size) = some 1 := by kernel_rfl
      obtain ⟨j, hj, hjs⟩ := Option.map_eq_some_iff.1 h
      exact ⟨j, hj, hjs⟩
    have r1 : (Builtin.append_ #[87, 9] 87 #[.slice a n c, .string s]).run Tryd.prog w1 = .ok (.slice a n c) w1 := by
      have es : s = ByteArray.empty := by
        obtain ⟨⟨d⟩⟩ := s
        simp only at hd
        subst hd; rfl
      subst es
      cases a with
      | none => simp [Builtin.append_, run_underlying Tryd.underlying87, run_underlying Tryd.underlying9, sizeOf, typeInfo, hi, hi2, Builtin.lenOf, Result.andThen, hnl.2, storeCells, Builtin.firstCells]
      | some a => simp [Builtin.append_, run_underlying Tryd.underlying87, run_underlying Tryd.underlying9, sizeOf, typeInfo, hi, hi2, Builtin.lenOf, Result.andThen, hnl.2, storeCells, Builtin.firstCells]
    refine opv_run r1 ?_
    refine nilckp ?_
    refine opv_run (fieldAt_eq (off := 1) (by kernel_rfl)) ?_
    refine store1_intro (by kernel_rfl) rfl rfl h1 (by simp) rfl (fun w4 h4 s4 u4 => ?_)
    refine opv_run (len_str (by kernel_rfl) _) ?_
    refine ⟨_, rfl, .slice a n c, ⟨⟨_, .inr rfl, h4⟩, by rw [hd, List.append_nil]; exact ho1.upd1 u4 hn, hn⟩, ⟨a, n, c, rfl, hc⟩, ?_⟩
    have a := (Fr.refl (bldS b (.slice a n c)) _ w).go u1 (fun i _ h => .inl h)
    exact a.go u4 (fun i _ h => .inl h)
  · refine (c_WriteString h hl hs hB).mono fun e w' ⟨x, he, v', hb, hu⟩ => ⟨x, he, v', hb, ?_, hu⟩
    obtain ⟨_, ⟨n, hl2, hor⟩, _⟩ := hb
    rw [Lib.byteCells_length, List.length_append, Nat.mul_one] at hl2
    have hp : 0 < s.data.toList.length := by rw [Array.length_toList]; exact Nat.pos_of_ne_zero h0
    rcases hor with ⟨_, hn0⟩ | ⟨g, cap, cur, hq, _, _, hcc, _⟩
    · omega
    · exact ⟨_, _, _, hq, by omega⟩
/-- Grow, of a builder that has not been written. -/
theorem c_Grow {b n : Nat} {B : Nat} {w : World} (hb : w.heap[b]? = some (.cells #[.pointer none, .slice none 0 0] 89 (0, 0))) (hB : B ≤ b) (hn : 1 ≤ n ∧ n ≤ 281474976710656) :
    Calls Tryd.prog 51 #[.pointer (some ⟨b, 0, none⟩), .int .i64 (n : Nat)] w fun e w' => ∃ x, e = .returned x ∧ ∃ v', Bld B w' b v' (Lib.byteCells []) ∧ Roomy v' ∧ Fr no B w w' := by
  have hlt := lt_get hb
  refine (Tryd.Builder_Grow_fresh_cap B b n w hB hb (by omega) hn.2).mono fun e w' h => ?_
  obtain ⟨he, ⟨⟨_, v, h1, h2, h3⟩, hbl⟩, p, cap, h4, h5⟩ := h
  refine ⟨_, he, v, ⟨⟨_, .inr rfl, h1⟩, ⟨_, h2⟩, fun k hk e => h3 (by rw [← e]; exact hk.symm)⟩, ?_, Fr.of_below hbl⟩
  have : w'.cell? ⟨b, 1, none⟩ = some v := by rw [Lib.cell_of_heap h1]; rfl
  rw [this] at h4
  exact ⟨p, 0, cap, Option.some.inj h4, by omega⟩
theorem c_Cap {B b : Nat} {w : World} {v : Value} {l : List Value} (h : Bld B w b v l) (hr : Roomy v) :
    Calls Tryd.prog 53 #[.pointer (some ⟨b, 0, none⟩)] w fun e w' => ∃ x, e = .returned x ∧ ∃ c : Nat, x = .int .i64 c ∧ 1 ≤ c ∧ Upd no w w' := by
  obtain ⟨⟨p, _, hb⟩, _, _⟩ := h
  obtain ⟨a, n, c, rfl, hc⟩ := hr
  exact (c_Builder_Cap hb).mono fun e w' he => ⟨_, he.1, c, rfl, hc, he.2⟩
end Go.Proofs.YtojcbhkhfcddnaaDoor
