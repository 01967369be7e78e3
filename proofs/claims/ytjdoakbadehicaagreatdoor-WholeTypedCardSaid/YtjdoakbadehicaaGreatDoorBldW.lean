/-
  The builder's bytes and signs. No condition but the ones that each states.
-/
import Derived.Test.YtjdoakbadehicaaGreatDoorBldC
import Derived.WalkKit
import Derived.Lib.Builder
import Derived.KernelRfl
import Derived.Laws.Externs
import Derived.Shelf.RegionOpenPlain
namespace Go.Proofs.YtjdoakbadehicaaGreatDoor
open Go Go.Sh Go.RowKit
set_option maxRecDepth 100000
/-- (*strings.Builder).WriteByte -/
theorem c_WriteByte {B b : Nat} {c : Int} {w : World} {v : Value} {l : List Value} (h : Bld B w b v l) (hl : l.length ≤ 17592186044416) (hB : B ≤ w.heap.size) :
    Calls Tryz.prog 59 #[.pointer (some ⟨b, 0, none⟩), .int .u8 c] w fun e w' => ∃ x, e = .returned x ∧ ∃ v', Bld B w' b v' (l ++ [.int .u8 c]) ∧ Upd (bldS b v) w w' := by
  refine F59.calls ?_
  unfold F59
  obtain ⟨_, ho, hn⟩ := id h
  refine callF_val (c_copyCheck h) fun w1 ⟨h1, s1, u1⟩ => ?_
  refine nilckp ?_
  refine opv_run (fieldAt_eq (off := 1) (by kernel_rfl)) ?_
  refine opv_run (ldC (by kernel_rfl) h1 (by rfl)) ?_
  have ho1 := ho.upd1 u1 hn
  refine buildSlice_intro (e := 5) (m := 1) (z := #[.int .u8 0]) (by kernel_rfl) (by kernel_rfl) (by rfl) (by decide) (by simp [fillL, splice, repL, Value.cells]; rfl) (fun b2 w2 e2 h2 s2 u2 => ?_)
  have ho2 := ho1.upd0 u2
  have h12 := u2.get0 h1
  refine app_intro (bytes := 1) (by kernel_rfl) ho2 (Rd.of_blockL h2) rfl (by simp [Value.oneCell']) (by simp; omega) (by omega) (fun v3 w3 N3 u3 => ?_)
  have h13 := u3.get h12 (fun hk => hn b hk rfl)
  refine nilckp ?_
  refine opv_run (fieldAt_eq (off := 1) (by kernel_rfl)) ?_
  have hlt := h.lt
  have hn3 : ∀ k, ownS v3 k → k ≠ b := by
    intro k hk e
    subst e
    rcases h13' : N3 with ⟨n, _, h' | ⟨g, cap, cur, hv, _, hg, _⟩⟩
    · rw [h'.1] at hk; cases hk
    · rw [hv] at hk
      cases hk
      rw [h13] at hg
      have := (Option.some.inj hg)
      cases this
  have hsz : (Value.cells v3) = #[v3] ∧ v3.oneCell' = true := by
    rcases N3 with ⟨n, _, h' | ⟨g, cap, cur, hv, _⟩⟩
    · rw [h'.1]; exact ⟨rfl, rfl⟩
    · rw [hv]; exact ⟨rfl, rfl⟩
  refine store1_intro (by kernel_rfl) hsz.1 hsz.2 h13 (by simp) rfl (fun w4 h4 s4 u4 => ?_)
  refine ⟨_, rfl, v3, ⟨⟨_, .inr rfl, h4⟩, N3.upd1 u4 hn3, hn3⟩, ?_⟩
  have a := (Fr.refl (bldS b v) _ w).go u1 (fun i _ h => .inl h)
  have a := a.go0 u2
  have a := a.go u3 (fun i _ h => .inr h)
  exact a.go u4 (fun i _ h => .inl h)
/-- (*strings.Builder).WriteRune -/
theorem c_WriteRune {B b : Nat} {r : Int} {w : World} {v : Value} {l : List Value} (h : Bld B w b v l) (hl : l.length ≤ 17592186044416) (hB : B ≤ w.heap.size) (hr0 : -2147483648 ≤ r) (hr1 : r ≤ 2147483647) :
    Calls Tryz.prog 58 #[.pointer (some ⟨b, 0, none⟩), .int .i32 r] w fun e w' => ∃ x, e = .returned x ∧ ∃ v', Bld B w' b v' (l ++ Lib.runeCells r) ∧ Upd (bldS b v) w w' := by
  refine F58.calls ?_
  unfold F58
  obtain ⟨_, ho, hn⟩ := id h
  refine callF_val (c_copyCheck h) fun w1 ⟨h1, s1, u1⟩ => ?_
  obtain ⟨A, len, cap, rfl, hlen, _⟩ := ho.rd
  refine nilckp ?_
  refine opv_run (fieldAt_eq (off := 1) (by kernel_rfl)) ?_
  refine opv_run (ldC (by kernel_rfl) h1 (by rfl)) ?_
  refine opv_run (len_sl (by kernel_rfl) _ _ _) ?_
  have ho1 := ho.upd1 u1 hn
  refine nilckp ?_
  refine opv_run (fieldAt_eq (off := 1) (by kernel_rfl)) ?_
  refine opv_run (ldC (by kernel_rfl) h1 (by rfl)) ?_
  obtain ⟨n, hown⟩ := ho1
  have hn1 : n = l.length := by have := hown.1; omega
  refine callF_ex (D := fun v3 w3 => Own B w3 5 1 v3 (l ++ Lib.runeCells r) ∧ Upd (ownS (.slice A len cap)) w1 w3) ((Tryz.utf8_AppendRune_plain B _ n l r hr0 hr1 w1 hown (by omega) (by omega)).mono ?_) ?_
  · rintro e w3 ⟨v', rfl, h3, o, hg⟩
    refine ⟨v', rfl, ⟨_, h3⟩, ?_⟩
    have hs : w1.heap.size ≤ w3.heap.size := by have := hg.size; simp at this; omega
    exact ⟨hg.os, hg.tape, hg.output, hs, fun k hk hs => by rw [hg.block k (by simp; omega) (fun e => hs e)]; exact Go.heap_alloc_old w1 o hk⟩
  rintro v3 w3 ⟨N3, u3⟩
  have h13 := u3.get h1 (fun hk => hn b hk rfl)
  refine nilckp ?_
  refine opv_run (fieldAt_eq (off := 1) (by kernel_rfl)) ?_
  have hlt := h.lt
  have hn3 : ∀ k, ownS v3 k → k ≠ b := by
    intro k hk e
    subst e
    rcases h13' : N3 with ⟨n, _, h' | ⟨g, cap, cur, hv, _, hg, _⟩⟩
    · rw [h'.1] at hk; cases hk
    · rw [hv] at hk
      cases hk
      rw [h13] at hg
      have := (Option.some.inj hg)
      cases this
  obtain ⟨A3, len3, cap3, rfl, hlen3, _⟩ := N3.rd
  refine store1_intro (by kernel_rfl) rfl rfl h13 (by simp) rfl (fun w4 h4 s4 u4 => ?_)
  refine nilckp ?_
  refine opv_run (fieldAt_eq (off := 1) (by kernel_rfl)) ?_
  refine opv_run (ldC (by kernel_rfl) h4 (by rfl)) ?_
  refine opv_run (len_sl (by kernel_rfl) _ _ _) ?_
  refine opv_run (subI _ _ _ _) ?_
  refine ⟨_, rfl, _, ⟨⟨_, .inr rfl, h4⟩, N3.upd1 u4 hn3, hn3⟩, ?_⟩
  have a := (Fr.refl (bldS b (.slice A len cap)) _ w).go u1 (fun i _ h => .inl h)
  have a := a.go u3 (fun i _ h => .inr h)
  exact a.go u4 (fun i _ h => .inl h)
end Go.Proofs.YtjdoakbadehicaaGreatDoor
