/-
  The builder's own check, walked. No condition but the ones that each states.
-/
import Derived.Test.YtaaajfklikccaaaProg
import Derived.Test.YtaaajfklikccaaaMem
import Derived.WalkKit
import Derived.Lib.Builder
import Derived.KernelRfl
import Derived.Test.YtaaajfklikccaaaFb
import Derived.Test.YtaaajfklikccaaaShelf
import Derived.Laws.Externs
import Derived.Shelf.RegionOpenPlain
namespace Go.Proofs.Ytaaajfklikccaaa
open Go Go.Sh Go.RowKit
set_option maxRecDepth 100000
theorem copyCheck_used (b : Nat) (w : World) (h0 : w.cell? ⟨b, 0, none⟩ = some (.pointer (some ⟨b, 0, none⟩))) :
    Calls Try.prog 35 #[.pointer (some ⟨b, 0, none⟩)] w fun e w' => e = .returned (.tuple #[]) ∧ w' = w := by
  obtain ⟨j, hj, hjs⟩ : ∃ j, Try.prog.info? 58 = some j ∧ j.size = 2 := by
    have h : (Try.prog.info? 58).map (·.size) = some 2 := by kernel_rfl
    obtain ⟨j, hj, hjs⟩ := Option.map_eq_some_iff.1 h
    exact ⟨j, hj, hjs⟩
  go_enter Try.func35, Try.ntmps35
  go_wp2
  rw [Lib.run_neq_ptr_same w _ Try.underlying56 hj]
  go_wp2
  go_end0
  exact ⟨rfl, rfl⟩
theorem copyCheck_fresh (b : Nat) (w : World) (h0 : w.cell? ⟨b, 0, none⟩ = some (.pointer none)) (hsh : w.shape? b = some (58, 2)) (hfz : w.frozen? ⟨b, 0, none⟩ = false) :
    Calls Try.prog 35 #[.pointer (some ⟨b, 0, none⟩)] w fun e w' => e = .returned (.tuple #[]) ∧ w' = w.setCell ⟨b, 0, none⟩ (.pointer (some ⟨b, 0, none⟩)) := by
  obtain ⟨j, hj, hjs⟩ : ∃ j, Try.prog.info? 58 = some j ∧ j.size = 2 := by
    have h : (Try.prog.info? 58).map (·.size) = some 2 := by kernel_rfl
    obtain ⟨j, hj, hjs⟩ := Option.map_eq_some_iff.1 h
    exact ⟨j, hj, hjs⟩
  go_enter Try.func35, Try.ntmps35
  go_wp2
  rw [Lib.run_to_unsafe w ⟨b, 0, none⟩ Try.underlying56 Try.underlying66 hj (by rw [hjs]; decide) hsh (Nat.zero_lt_succ 1)]
  simp only [Result.andThen]
  rw [Oper.upon_value]
  go_wp2
  rw [run_callFunc_extern Try.func37 (by kernel_rfl) (by kernel_rfl) (by kernel_rfl) (e := Extern.AbiNoEscape.same) (by kernel_rfl)]
  rw [Lib.run_noEscape]
  simp only [Result.andThen]
  rw [Oper.upon_value]
  go_wp2
  rw [Lib.run_from_unsafe w ⟨b, 0, none⟩ Try.underlying66 Try.underlying56 hj hsh (by kernel_rfl)]
  simp only [Result.andThen]
  rw [Oper.upon_value]
  go_wp2
  go_end0
  exact ⟨rfl, rfl⟩
/-- A builder: its own place, or none; its row. -/
def Bld (B : Nat) (w : World) (b : Nat) (v : Value) (l : List Value) : Prop :=
  (∃ p, (p = .pointer none ∨ p = .pointer (some ⟨b, 0, none⟩)) ∧ w.heap[b]? = some (.cells #[p, v] 58 (0, 0))) ∧ Own B w 5 1 v l ∧ ∀ k, ownS v k → k ≠ b
def bldS (b : Nat) (v : Value) : Nat → Prop := fun k => k = b ∨ ownS v k
theorem Bld.lt {B b : Nat} {w : World} {v : Value} {l : List Value} (h : Bld B w b v l) : b < w.heap.size := by obtain ⟨⟨p, _, hb⟩, _⟩ := h; exact lt_get hb
theorem Bld.ge {B b : Nat} {w : World} {v : Value} {l : List Value} (h : Bld B w b v l) {k : Nat} (hk : ownS v k) : B ≤ k := (h.2.1.ge hk).1
theorem Bld.updS {S : Nat → Prop} {B b : Nat} {w w' : World} {v : Value} {l : List Value} (h : Bld B w b v l) (u : Upd S w w') (hs : ∀ k, bldS b v k → ¬ S k) : Bld B w' b v l := by
  obtain ⟨⟨p, hp, hb⟩, ho, hn⟩ := h
  exact ⟨⟨p, hp, u.get hb (hs b (.inl rfl))⟩, ho.updS u (fun k hk => hs k (.inr hk)), hn⟩
theorem Bld.upd0 {B b : Nat} {w w' : World} {v : Value} {l : List Value} (h : Bld B w b v l) (u : Upd no w w') : Bld B w' b v l := h.updS u (fun _ _ => id)
theorem Bld.upd1 {B b g : Nat} {w w' : World} {v : Value} {l : List Value} (h : Bld B w b v l) (u : Upd (· = g) w w') (hs : ∀ k, bldS b v k → k ≠ g) : Bld B w' b v l := h.updS u hs
theorem Bld.new {w : World} {b : Nat} (hb : w.heap[b]? = some (.cells #[.pointer none, .slice none 0 0] 58 (0, 0))) (B : Nat) : Bld B w b (.slice none 0 0) [] :=
  ⟨⟨_, .inl rfl, hb⟩, Own.nil _ _ _ _, fun k hk => by cases hk⟩
theorem setCell_upd {w : World} {b o : Nat} {v : Value} : Upd (· = b) w (w.setCell ⟨b, o, none⟩ v) :=
  ⟨rfl, rfl, rfl, by simp [World.setCell], fun k _ hs => by simp only [World.setCell, Array.getElem?_modify]; rw [if_neg (fun e => hs e.symm)]⟩
theorem c_copyCheck {B b : Nat} {w : World} {v : Value} {l : List Value} (h : Bld B w b v l) :
    Calls Try.prog 35 #[.pointer (some ⟨b, 0, none⟩)] w fun e w' => e = .returned (.tuple #[]) ∧ w'.heap[b]? = some (.cells #[.pointer (some ⟨b, 0, none⟩), v] 58 (0, 0)) ∧ w'.heap.size = w.heap.size ∧ Upd (· = b) w w' := by
  obtain ⟨⟨p, rfl | rfl, hb⟩, _⟩ := h
  · refine (copyCheck_fresh b w (by simp [World.cell?, hb]) (by simp [World.shape?, hb]) (by simp [World.frozen?, hb])).mono ?_
    rintro e w' ⟨rfl, rfl⟩
    exact ⟨rfl, by simp [World.setCell, Array.getElem?_modify, hb], by simp [World.setCell], setCell_upd⟩
  · refine (copyCheck_used b w (by simp [World.cell?, hb])).mono ?_
    rintro e w' ⟨rfl, rfl⟩
    exact ⟨rfl, hb, rfl, Fr.refl _ _ _⟩
/-- (*strings.Builder).WriteByte -/
theorem c_WriteByte {B b : Nat} {c : Int} {w : World} {v : Value} {l : List Value} (h : Bld B w b v l) (hl : l.length ≤ 17592186044416) (hB : B ≤ w.heap.size) :
    Calls Try.prog 33 #[.pointer (some ⟨b, 0, none⟩), .int .u8 c] w fun e w' => ∃ x, e = .returned x ∧ ∃ v', Bld B w' b v' (l ++ [.int .u8 c]) ∧ Upd (bldS b v) w w' := by
  refine F33.calls ?_
  unfold F33
  obtain ⟨_, ho, hn⟩ := id h
  refine callF_val (c_copyCheck h) fun w1 ⟨h1, s1, u1⟩ => ?_
  refine nilckp ?_
  refine opv_run (fieldAt_eq (off := 1) (by kernel_rfl)) ?_
  refine opv_run (ldC (by kernel_rfl) h1 (by rfl)) ?_
  have ho1 := ho.upd1 u1 hn
  refine buildSlice_intro (e := 5) (m := 1) (z := #[.int .u8 0]) (by kernel_rfl) (by kernel_rfl) (by rfl) (by decide) (by simp [fillL, splice, repL, Value.cells]; rfl) (fun b2 w2 e2 h2 s2 u2 => ?_)
  have ho2 := ho1.upd0 u2
  have h12 := u2.get0 h1
  refine app_intro (bytes := 1) (by kernel_rfl) ho2 (Rd.of_blockL h2) rfl (by simp [Value.oneCell']) (by simp; omega) (by omega) (fun v3 w3 N3 u3 => ?_)
  have h13 := u3.get h12 (fun hk => hn b hk rfl)
  refine nilckp ?_
  refine opv_run (fieldAt_eq (off := 1) (by kernel_rfl)) ?_
  have hlt := h.lt
  have hn3 : ∀ k, ownS v3 k → k ≠ b := by
    intro k hk e
    subst e
    rcases h13' : N3 with ⟨n, _, h' | ⟨g, cap, cur, hv, _, hg, _⟩⟩
    · rw [h'.1] at hk; cases hk
    · rw [hv] at hk
      cases hk
      rw [h13] at hg
      have := (Option.some.inj hg)
      cases this
  have hsz : (Value.cells v3) = #[v3] ∧ v3.oneCell' = true := by
    rcases N3 with ⟨n, _, h' | ⟨g, cap, cur, hv, _⟩⟩
    · rw [h'.1]; exact ⟨rfl, rfl⟩
    · rw [hv]; exact ⟨rfl, rfl⟩
  refine store1_intro (by kernel_rfl) hsz.1 hsz.2 h13 (by simp) rfl (fun w4 h4 s4 u4 => ?_)
  refine ⟨_, rfl, v3, ⟨⟨_, .inr rfl, h4⟩, N3.upd1 u4 hn3, hn3⟩, ?_⟩
  have a := (Fr.refl (bldS b v) _ w).go u1 (fun i _ h => .inl h)
  have a := a.go0 u2
  have a := a.go u3 (fun i _ h => .inr h)
  exact a.go u4 (fun i _ h => .inl h)
/-- (*strings.Builder).WriteRune -/
theorem c_WriteRune {B b : Nat} {r : Int} {w : World} {v : Value} {l : List Value} (h : Bld B w b v l) (hl : l.length ≤ 17592186044416) (hB : B ≤ w.heap.size) (hr0 : -2147483648 ≤ r) (hr1 : r ≤ 2147483647) :
    Calls Try.prog 32 #[.pointer (some ⟨b, 0, none⟩), .int .i32 r] w fun e w' => ∃ x, e = .returned x ∧ ∃ v', Bld B w' b v' (l ++ Lib.runeCells r) ∧ Upd (bldS b v) w w' := by
  refine F32.calls ?_
  unfold F32
  obtain ⟨_, ho, hn⟩ := id h
  refine callF_val (c_copyCheck h) fun w1 ⟨h1, s1, u1⟩ => ?_
  obtain ⟨A, len, cap, rfl, hlen, _⟩ := ho.rd
  refine nilckp ?_
  refine opv_run (fieldAt_eq (off := 1) (by kernel_rfl)) ?_
  refine opv_run (ldC (by kernel_rfl) h1 (by rfl)) ?_
  refine opv_run (len_sl (by kernel_rfl) _ _ _) ?_
  have ho1 := ho.upd1 u1 hn
  refine nilckp ?_
  refine opv_run (fieldAt_eq (off := 1) (by kernel_rfl)) ?_
  refine opv_run (ldC (by kernel_rfl) h1 (by rfl)) ?_
  obtain ⟨n, hown⟩ := ho1
  have hn1 : n = l.length := by have := hown.1; omega
  refine callF_ex (D := fun v3 w3 => Own B w3 5 1 v3 (l ++ Lib.runeCells r) ∧ Upd (ownS (.slice A len cap)) w1 w3) ((Try.utf8_AppendRune_plain B _ n l r hr0 hr1 w1 hown (by omega) (by omega)).mono ?_) ?_
  · rintro e w3 ⟨v', rfl, h3, o, hg⟩
    refine ⟨v', rfl, ⟨_, h3⟩, ?_⟩
    have hs : w1.heap.size ≤ w3.heap.size := by have := hg.size; simp at this; omega
    exact ⟨hg.os, hg.tape, hg.output, hs, fun k hk hs => by rw [hg.block k (by simp; omega) (fun e => hs e)]; exact Go.heap_alloc_old w1 o hk⟩
  rintro v3 w3 ⟨N3, u3⟩
  have h13 := u3.get h1 (fun hk => hn b hk rfl)
  refine nilckp ?_
  refine opv_run (fieldAt_eq (off := 1) (by kernel_rfl)) ?_
  have hlt := h.lt
  have hn3 : ∀ k, ownS v3 k → k ≠ b := by
    intro k hk e
    subst e
    rcases h13' : N3 with ⟨n, _, h' | ⟨g, cap, cur, hv, _, hg, _⟩⟩
    · rw [h'.1] at hk; cases hk
    · rw [hv] at hk
      cases hk
      rw [h13] at hg
      have := (Option.some.inj hg)
      cases this
  obtain ⟨A3, len3, cap3, rfl, hlen3, _⟩ := N3.rd
  refine store1_intro (by kernel_rfl) rfl rfl h13 (by simp) rfl (fun w4 h4 s4 u4 => ?_)
  refine nilckp ?_
  refine opv_run (fieldAt_eq (off := 1) (by kernel_rfl)) ?_
  refine opv_run (ldC (by kernel_rfl) h4 (by rfl)) ?_
  refine opv_run (len_sl (by kernel_rfl) _ _ _) ?_
  refine opv_run (subI _ _ _ _) ?_
  refine ⟨_, rfl, _, ⟨⟨_, .inr rfl, h4⟩, N3.upd1 u4 hn3, hn3⟩, ?_⟩
  have a := (Fr.refl (bldS b (.slice A len cap)) _ w).go u1 (fun i _ h => .inl h)
  have a := a.go u3 (fun i _ h => .inr h)
  exact a.go u4 (fun i _ h => .inl h)
/-- (*strings.Builder).String -/
theorem c_String {B b : Nat} {w : World} {v : Value} {l : List UInt8} (h : Bld B w b v (Lib.byteCells l)) (hB : B ≤ b) :
    Calls Try.prog 34 #[.pointer (some ⟨b, 0, none⟩)] w fun e w' => e = .returned (.string ⟨l.toArray⟩) ∧ Fr no B w w' := by
  have hlt := h.lt
  refine (Try.Builder_String_any B b l w ?_ (by omega)).mono fun e w' he => ⟨he.1, Fr.of_below he.2⟩
  obtain ⟨⟨p, hp, hb⟩, ⟨n, ho⟩, hn⟩ := h
  have hn1 : n = (Lib.byteCells l).length := by have := ho.1; omega
  subst hn1
  have hne : v.ownBlock ≠ some b := fun e => hn b e.symm rfl
  rcases hp with rfl | rfl
  · exact .inl ⟨hB, v, hb, ho, hne⟩
  · exact .inr ⟨hB, v, hb, ho, hne⟩
end Go.Proofs.Ytaaajfklikccaaa
