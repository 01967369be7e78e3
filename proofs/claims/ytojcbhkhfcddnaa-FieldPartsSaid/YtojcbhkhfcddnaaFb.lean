/-
  Contracts of functions of the program, walked over their shallow forms. No condition but the ones that each states.
-/
import Derived.Test.YtojcbhkhfcddnaaFa
namespace Go.Proofs.Ytojcbhkhfcddnaa
open Go Go.Sh
set_option linter.unusedVariables false
set_option maxRecDepth 100000


/-- greenscreen/field.All -/
theorem c_field_All {r c cur : Int} {A : Option Addr} {n cp bp B0 : Nat} {cs : List Gs.Cell} {w : World} (h_bp : w.heap[bp]? = some (.cells #[.int .i64 r, .int .i64 c, .slice A n cp, .int .i64 cur] 102 (0, 0))) (own_p : Own B0 w 45 5 (.slice A n cp) (rows Gs.cv cs)) (hn : n = cs.length)  :
    Calls Try.prog 40 #[.pointer (some ⟨bp, 0, none⟩)] w fun e w' => ∃ v, e = .returned v ∧ ∃ b1, v = .func (.func 65) #[] #[.pointer (some ⟨b1, 0, none⟩)] ∧ w.heap.size ≤ b1 ∧ w'.heap[b1]? = some (.cells #[.pointer (some ⟨bp, 0, none⟩)] 26 (0, 0)) ∧ Upd no w w' := by
  refine F40.calls ?_
  unfold F40
  have lt_h_bp := lt_get h_bp
  have lt_own_p := Own.lt own_p
  have hF : Upd no w w := Fr.refl _ _ _
  refine box_intro (by rfl) (fun b1 w1 e1 h_b1 _ U1 => ?_)
  have ne_bp_b1 : bp ≠ b1 := by have := lt_get h_bp; omega
  have na_own_p_b1 := own_p.apart e1
  have ge_b1 : w.heap.size ≤ b1 := by have := hF.size; omega
  replace own_p := own_p.upd0 U1
  replace h_bp := U1.get0 h_bp
  replace hF := hF.go0 U1
  clear e1
  refine opv_run (mkF _ _ _) ?_
  exact ⟨_, rfl, b1, rfl, ge_b1, h_b1, hF⟩

/-- greenscreen/field.Places -/
theorem c_field_Places {r c cur : Int} {A : Option Addr} {n cp bp B0 : Nat} {cs : List Gs.Cell} {w : World} (h_bp : w.heap[bp]? = some (.cells #[.int .i64 r, .int .i64 c, .slice A n cp, .int .i64 cur] 102 (0, 0))) (own_p : Own B0 w 45 5 (.slice A n cp) (rows Gs.cv cs)) (hn : n = cs.length) {f : Gs.Fld} :
    Calls Try.prog 48 #[.pointer (some ⟨bp, 0, none⟩), .agg (Gs.fv f).toArray] w fun e w' => ∃ v, e = .returned v ∧ ∃ b1 b2, v = .func (.func 66) #[] #[.pointer (some ⟨b2, 0, none⟩), .pointer (some ⟨b1, 0, none⟩)] ∧ w.heap.size ≤ b1 ∧ w.heap.size ≤ b2 ∧ w'.heap[b1]? = some (.cells #[.pointer (some ⟨bp, 0, none⟩)] 26 (0, 0)) ∧ w'.heap[b2]? = some (.cells (Gs.fv f).toArray 39 (0, 0)) ∧ Upd no w w' := by
  refine F48.calls ?_
  unfold F48
  have lt_h_bp := lt_get h_bp
  have lt_own_p := Own.lt own_p
  have hF : Upd no w w := Fr.refl _ _ _
  refine box_intro (by rfl) (fun b1 w1 e1 h_b1 _ U1 => ?_)
  have ne_bp_b1 : bp ≠ b1 := by have := lt_get h_bp; omega
  have na_own_p_b1 := own_p.apart e1
  have ge_b1 : w.heap.size ≤ b1 := by have := hF.size; omega
  replace own_p := own_p.upd0 U1
  replace h_bp := U1.get0 h_bp
  replace hF := hF.go0 U1
  clear e1
  refine box_intro (cs := (Gs.fv f).toArray) (by rfl) (fun b2 w2 e2 h_b2 _ U2 => ?_)
  have ne_bp_b2 : bp ≠ b2 := by have := lt_get h_bp; omega
  have na_own_p_b2 := own_p.apart e2
  have ne_b1_b2 : b1 ≠ b2 := by have := lt_get h_b1; omega
  have ge_b2 : w.heap.size ≤ b2 := by have := hF.size; omega
  replace own_p := own_p.upd0 U2
  replace h_bp := U2.get0 h_bp
  replace h_b1 := U2.get0 h_b1
  replace hF := hF.go0 U2
  clear e2
  refine opv_run (mkF _ _ _) ?_
  exact ⟨_, rfl, b1, b2, rfl, ge_b1, ge_b2, h_b1, h_b2, hF⟩

/-- greenscreen/field.All$1 -/
theorem c_field_All_1 {r c cur : Int} {A : Option Addr} {n cp bp B0 b1 : Nat} {csF : Nat → List Gs.Cell} {y : Value} {J : Nat → World → Prop} {X : World → Prop} {w : World} (hcap : ∀ k w', J k w' → w'.heap[b1]? = some (.cells #[.pointer (some ⟨bp, 0, none⟩)] 26 (0, 0)) ∧ w'.heap[bp]? = some (.cells #[.int .i64 r, .int .i64 c, .slice A n cp, .int .i64 cur] 102 (0, 0)) ∧ Own B0 w' 45 5 (.slice A n cp) (rows Gs.cv (csF k))) (hst : ∀ k w' w'', J k w' → Upd no w' w'' → J k w'') (hsx : ∀ w' w'', X w' → Upd no w' w'' → X w'') (hlen : ∀ k, n = (csF k).length) (hw : ∀ k, Gs.Cws (csF k)) (hst0 : ∀ k i, Gs.stB (csF k) i = Gs.stB (csF 0) i) (hN : Gs.cellsN r c = n) (hb : n ≤ 4096) (hy : ∀ k w' (s : Nat), (Gs.startsN (csF 0))[k]? = some s → J k w' → CallsYd Try.prog y #[.agg (Gs.fv (Gs.atM (csF k) s)).toArray] w' (J (k + 1)) X) (h0 : J 0 w) :
    Calls Try.prog 65 #[y, .pointer (some ⟨b1, 0, none⟩)] w fun e w' => (∃ v, e = .returned v) ∧ (J (Gs.startsN (csF 0)).length w' ∨ X w') := by
  refine F65.calls ?_
  unfold F65
  obtain ⟨h_b1, h_bp, own_p⟩ := hcap _ _ h0
  have hl0 := hlen 0
  have lt_h_b1 := lt_get h_b1
  have lt_h_bp := lt_get h_bp
  have lt_own_p := Own.lt own_p
  refine opv_run (ldC (by kernel_rfl) h_b1 (by rfl)) ?_
  refine callF_val (c_Plane_Len h_bp own_p (hlen 0)) (fun w1 U1 => ?_)
  replace own_p := own_p.upd0 U1
  replace h_b1 := U1.get0 h_b1
  replace h_bp := U1.get0 h_bp
  replace h0 := hst _ _ _ h0 U1
  refine loop_intro (fun g w' => ∃ k : Nat, k ≤ n ∧ g 6 = .int .i64 (k : Int) ∧ J (Gs.cntS (csF 0) k) w') (fun g w' => n - (RowKit.intOf (g 6)).toNat) ?_ (fun g1 wl1 hI => ?_)
  · exact ⟨0, Nat.zero_le _, rfl, h0⟩
  · obtain ⟨k, hk, g6, hJ⟩ := hI
    rw [g6]
    obtain ⟨h_b1, h_bp, own_p⟩ := hcap _ _ hJ
    refine opv_dec (lss _ _ _ _) (fun h2 => ?_) (fun h2 => ?_)
    · refine condt ?_
      refine opv_run (ldC (by kernel_rfl) h_b1 (by rfl)) ?_
      refine callF_val (c_Plane_At h_bp own_p (hlen _) (i := (k : Int))) (fun w3 U3 => ?_)
      replace own_p := own_p.upd0 U3
      replace h_b1 := U3.get0 h_b1
      replace h_bp := U3.get0 h_bp
      replace hJ := hst _ _ _ hJ U3
      refine opv_b (field_one (off := 2) (by kernel_rfl) (by rfl)) (fun h4 => ?_) (fun h4 => ?_)
      · refine gdtt ?_
        refine gdtt ?_
        refine opv_run (ldC (by kernel_rfl) h_b1 (by rfl)) ?_
        refine gdtt ?_
        refine gdtt ?_
        refine callF_val (c_field_at h_bp own_p (hlen _) hN hb (hw _) (i := (k : Int)) ⟨by omega, by rw [← hlen]; omega⟩) (fun w5 U5 => ?_)
        replace own_p := own_p.upd0 U5
        replace h_b1 := U5.get0 h_b1
        replace h_bp := U5.get0 h_bp
        replace hJ := hst _ _ _ hJ U5
        refine gdtt ?_
        refine callYd_i (hy _ _ k (Gs.starts_at (by omega) (by rw [← hst0 (Gs.cntS (csF 0) k) k]; assumption)) hJ) (fun wy6 hJ2 => ?_) (fun wy6 hX => ?_)
        · obtain ⟨h_b1, h_bp, own_p⟩ := hcap _ _ hJ2
          refine gdtt ?_
          refine opv_run (notT) ?_
          refine pickt ?_
          refine condf ?_
          first | refine opv_run (add_i64 _ (by omega)) ?_ | refine opv_run (addI _ _ _ _) ?_
          exact ⟨⟨k + 1, by omega, rfl, by first | (rw [Gs.cnt_T (by rw [← hst0 (Gs.cntS (csF 0) k) k]; assumption)]; exact hJ2) | (rw [Gs.cnt_F (by rw [← hst0 (Gs.cntS (csF 0) k) k]; assumption)]; exact hJ)⟩, cnt_lt (by first | rfl | exact g6) rfl (by omega)⟩
        · refine gdtt ?_
          refine opv_run (notF) ?_
          refine pickt ?_
          refine condt ?_
          first | exact ⟨⟨_, rfl⟩, .inr hX⟩ | exact ⟨⟨_, rfl⟩, .inl (by rw [← Gs.cnt_end, ← hl0, show n = k by omega]; exact hJ)⟩
      · refine gdft ?_
        refine gdft ?_
        refine gdft ?_
        refine gdft ?_
        refine gdft ?_
        refine gdft ?_
        refine pickf ?_
        refine condf ?_
        first | refine opv_run (add_i64 _ (by omega)) ?_ | refine opv_run (addI _ _ _ _) ?_
        exact ⟨⟨k + 1, by omega, rfl, by first | (rw [Gs.cnt_T (by rw [← hst0 (Gs.cntS (csF 0) k) k]; assumption)]; exact hJ2) | (rw [Gs.cnt_F (by rw [← hst0 (Gs.cntS (csF 0) k) k]; assumption)]; exact hJ)⟩, cnt_lt (by first | rfl | exact g6) rfl (by omega)⟩
    · refine condf ?_
      first | exact ⟨⟨_, rfl⟩, .inr hX⟩ | exact ⟨⟨_, rfl⟩, .inl (by rw [← Gs.cnt_end, ← hl0, show n = k by omega]; exact hJ)⟩

/-- greenscreen/field.Places$1 -/
theorem c_field_Places_1 {r c cur : Int} {A : Option Addr} {n cp bp B0 b1 b2 : Nat} {cs : List Gs.Cell} {f : Gs.Fld} {y : Value} {J : Nat → World → Prop} {X : World → Prop} {w : World} (hcap : ∀ k w', J k w' → w'.heap[b1]? = some (.cells #[.pointer (some ⟨bp, 0, none⟩)] 26 (0, 0)) ∧ w'.heap[b2]? = some (.cells (Gs.fv f).toArray 39 (0, 0)) ∧ w'.heap[bp]? = some (.cells #[.int .i64 r, .int .i64 c, .slice A n cp, .int .i64 cur] 102 (0, 0)) ∧ Own B0 w' 45 5 (.slice A n cp) (rows Gs.cv cs)) (hst : ∀ k w' w'', J k w' → Upd no w' w'' → J k w'') (hsx : ∀ w' w'', X w' → Upd no w' w'' → X w'') (hcx : ∀ w', X w' → w'.heap[b1]? = some (.cells #[.pointer (some ⟨bp, 0, none⟩)] 26 (0, 0)) ∧ w'.heap[b2]? = some (.cells (Gs.fv f).toArray 39 (0, 0)) ∧ w'.heap[bp]? = some (.cells #[.int .i64 r, .int .i64 c, .slice A n cp, .int .i64 cur] 102 (0, 0)) ∧ Own B0 w' 45 5 (.slice A n cp) (rows Gs.cv cs)) (hn : n = cs.length) (hN : Gs.cellsN r c = n) (hb : n ≤ 4096) (hy : ∀ k w' x, (Gs.placesL n f)[k]? = some x → J k w' → CallsYd Try.prog y #[.int .i64 x] w' (J (k + 1)) X) (h0 : J 0 w) :
    Calls Try.prog 66 #[y, .pointer (some ⟨b2, 0, none⟩), .pointer (some ⟨b1, 0, none⟩)] w fun e w' => (∃ v, e = .returned v) ∧ (J (Gs.placesL n f).length w' ∨ X w') := by
  refine F66.calls ?_
  unfold F66
  obtain ⟨h_b1, h_b2, h_bp, own_p⟩ := hcap _ _ h0
  have lt_h_b1 := lt_get h_b1
  have lt_h_b2 := lt_get h_b2
  have lt_h_bp := lt_get h_bp
  have lt_own_p := Own.lt own_p
  refine drawn_S (S := no) (fun w1 U1 => ?_)
  replace own_p := own_p.upd0 U1
  replace h_b1 := U1.get0 h_b1
  replace h_b2 := U1.get0 h_b2
  replace h_bp := U1.get0 h_bp
  replace h0 := hst _ _ _ h0 U1
  refine qop_run (fun w' hw' => (fieldAt_eq (off := 0) (by kernel_rfl))) ?_
  refine qop_run (fun w' hw' => by have h_b2 := hw'.get0 h_b2; exact (ldC (by kernel_rfl) h_b2 (by rfl))) ?_
  refine qop_dec (fun w' hw' => (lss _ _ _ _)) (fun h2 => ?_) (fun h2 => ?_)
  · refine qgdtf ?_
    refine qgdtf ?_
    refine qgdtf ?_
    refine qgdtf ?_
    refine qgdtf ?_
    refine qpickt ?_
    refine ext_intro (fun w3 U3 => ?_)
    replace own_p := own_p.upd0 U3
    replace h_b1 := U3.get0 h_b1
    replace h_b2 := U3.get0 h_b2
    replace h_bp := U3.get0 h_bp
    replace h0 := hst _ _ _ h0 U3
    refine condt ?_
    first | exact ⟨⟨_, rfl⟩, .inr hX⟩ | exact ⟨⟨_, rfl⟩, .inl (by rw [Gs.places_no (by omega)]; exact h0)⟩ | exact ⟨⟨_, rfl⟩, .inl (by rw [show (Gs.placesL n f).length = k by omega]; exact hJ)⟩
  · refine qgdff ?_
    refine qop_run (fun w' hw' => (fieldAt_eq (off := 0) (by kernel_rfl))) ?_
    refine qgdff ?_
    refine qop_run (fun w' hw' => by have h_b2 := hw'.get0 h_b2; exact (ldC (by kernel_rfl) h_b2 (by rfl))) ?_
    refine qgdff ?_
    refine qop_run (fun w' hw' => by have h_b1 := hw'.get0 h_b1; exact (ldC (by kernel_rfl) h_b1 (by rfl))) ?_
    refine qgdff ?_
    refine qop_call (fun w' hw' => by have h_bp := hw'.get0 h_bp; have own_p := own_p.upd0 hw'; exact c_Plane_Len h_bp own_p hn) ?_
    refine qgdff ?_
    refine qop_dec (fun w' hw' => (geq _ _ _ _)) (fun h6 => ?_) (fun h6 => ?_)
    · refine qpickf ?_
      refine ext_intro (fun w7 U7 => ?_)
      replace own_p := own_p.upd0 U7
      replace h_b1 := U7.get0 h_b1
      replace h_b2 := U7.get0 h_b2
      replace h_bp := U7.get0 h_bp
      replace h0 := hst _ _ _ h0 U7
      refine condt ?_
      first | exact ⟨⟨_, rfl⟩, .inr hX⟩ | exact ⟨⟨_, rfl⟩, .inl (by rw [Gs.places_no (by omega)]; exact h0)⟩ | exact ⟨⟨_, rfl⟩, .inl (by rw [show (Gs.placesL n f).length = k by omega]; exact hJ)⟩
    · refine qpickf ?_
      refine ext_intro (fun w9 U9 => ?_)
      replace own_p := own_p.upd0 U9
      replace h_b1 := U9.get0 h_b1
      replace h_b2 := U9.get0 h_b2
      replace h_bp := U9.get0 h_bp
      replace h0 := hst _ _ _ h0 U9
      refine condf ?_
      refine drawn_S (S := no) (fun w10 U10 => ?_)
      replace own_p := own_p.upd0 U10
      replace h_b1 := U10.get0 h_b1
      replace h_b2 := U10.get0 h_b2
      replace h_bp := U10.get0 h_bp
      replace h0 := hst _ _ _ h0 U10
      refine qop_run (fun w' hw' => (fieldAt_eq (off := 1) (by kernel_rfl))) ?_
      refine qop_run (fun w' hw' => by have h_b2 := hw'.get0 h_b2; exact (ldC (by kernel_rfl) h_b2 (by rfl))) ?_
      refine qop_run (fun w' hw' => (maxI _ _ _ _ _)) ?_
      refine qop_run (fun w' hw' => by have h_b1 := hw'.get0 h_b1; exact (ldC (by kernel_rfl) h_b1 (by rfl))) ?_
      refine qop_call (fun w' hw' => by have h_bp := hw'.get0 h_bp; have own_p := own_p.upd0 hw'; exact c_Plane_Len h_bp own_p hn) ?_
      refine qop_run (fun w' hw' => (minI _ _ _ _ _)) ?_
      refine ext_intro (fun w12 U12 => ?_)
      replace own_p := own_p.upd0 U12
      replace h_b1 := U12.get0 h_b1
      replace h_b2 := U12.get0 h_b2
      replace h_bp := U12.get0 h_bp
      replace h0 := hst _ _ _ h0 U12
      refine loop_intro (fun g w' => ∃ k : Nat, k ≤ (Gs.placesL n f).length ∧ g 21 = .int .i64 (k : Int) ∧ J k w') (fun g w' => (Gs.placesL n f).length - (RowKit.intOf (g 21)).toNat) ?_ (fun g1 wl1 hI => ?_)
      · have hpl := Gs.places_len (N := n) (f := f) (by omega)
        exact ⟨0, Nat.zero_le _, rfl, h0⟩
      · have hpl := Gs.places_len (N := n) (f := f) (by omega)
        obtain ⟨k, hk, g21, hJ⟩ := hI
        rw [g21]
        obtain ⟨h_b1, h_b2, h_bp, own_p⟩ := hcap _ _ hJ
        refine opv_dec (lss _ _ _ _) (fun h13 => ?_) (fun h13 => ?_)
        · refine condt ?_
          refine drawn_T (C := (fun w' => w'.heap[b1]? = some (.cells #[.pointer (some ⟨bp, 0, none⟩)] 26 (0, 0)) ∧ w'.heap[b2]? = some (.cells (Gs.fv f).toArray 39 (0, 0)) ∧ w'.heap[bp]? = some (.cells #[.int .i64 r, .int .i64 c, .slice A n cp, .int .i64 cur] 102 (0, 0)) ∧ Own B0 w' 45 5 (.slice A n cp) (rows Gs.cv cs))) (fun a b hC U => ⟨U.get0 hC.1, U.get0 hC.2.1, U.get0 hC.2.2.1, hC.2.2.2.upd0 U⟩) (fun w14 U14 => ?_)
          replace own_p := own_p.upd0 U14
          replace h_b1 := U14.get0 h_b1
          replace h_b2 := U14.get0 h_b2
          replace h_bp := U14.get0 h_bp
          replace hJ := hst _ _ _ hJ U14
          refine qop_run (fun w' hw' => by have hC' := hw' ⟨h_b1, h_b2, h_bp, own_p⟩; have h_b1 := hC'.1; exact (ldC (by kernel_rfl) h_b1 (by rfl))) ?_
          refine qop_call (fun w' hw' => by have hC' := hw' ⟨h_b1, h_b2, h_bp, own_p⟩; have h_bp := hC'.2.2.1; have own_p := hC'.2.2.2; exact c_Plane_Size h_bp own_p hn) ?_
          refine qop_run (fun w' hw' => (fieldAt_eq (off := 0) (by kernel_rfl))) ?_
          refine qop_run (fun w' hw' => by have hC' := hw' ⟨h_b1, h_b2, h_bp, own_p⟩; have h_b2 := hC'.2.1; exact (ldC (by kernel_rfl) h_b2 (by rfl))) ?_
          first | refine qop_run (fun w' hw' => (add_i64 _ (by omega))) ?_ | refine qop_run (fun w' hw' => (addI _ _ _ _)) ?_
          refine qop_call (fun w' hw' => c_addr_Move (i := f.s) (j := (k : Int) + 1)) ?_
          rw [hN, Gs.moveN_at (by omega), show ((k : Int) + 1) = ((k + 1 : Nat) : Int) by omega]
          refine ext_intro (fun w17 U17 => ?_)
          replace own_p := own_p.upd0 U17
          replace h_b1 := U17.get0 h_b1
          replace h_b2 := U17.get0 h_b2
          replace h_bp := U17.get0 h_bp
          replace hJ := hst _ _ _ hJ U17
          refine lop_i ?_
          refine callYd_i (hy k _ _ (Gs.places_at (by omega)) hJ) (fun wy18 hJ2 => ?_) (fun wy18 hX => ?_)
          · obtain ⟨h_b1, h_b2, h_bp, own_p⟩ := hcap _ _ hJ2
            refine ⟨fun _ => hcap _ _ hJ2, ?_⟩
            refine qop_run (fun w' hw' => (notT)) ?_
            refine ext_intro (fun w19 U19 => ?_)
            replace own_p := own_p.upd0 U19
            replace h_b1 := U19.get0 h_b1
            replace h_b2 := U19.get0 h_b2
            replace h_bp := U19.get0 h_bp
            replace hJ2 := hst _ _ _ hJ2 U19
            refine condf ?_
            first | refine opv_run (add_i64 _ (by omega)) ?_ | refine opv_run (addI _ _ _ _) ?_
            exact ⟨⟨k + 1, by omega, rfl, hJ2⟩, cnt_lt (by first | rfl | exact g21) rfl (by omega)⟩
          · refine ⟨fun _ => hcx _ hX, ?_⟩
            refine qop_run (fun w' hw' => (notF)) ?_
            refine ext_intro (fun w20 U20 => ?_)
            replace hX := hsx _ _ hX U20
            refine condt ?_
            first | exact ⟨⟨_, rfl⟩, .inr hX⟩ | exact ⟨⟨_, rfl⟩, .inl (by rw [Gs.places_no (by omega)]; exact h0)⟩ | exact ⟨⟨_, rfl⟩, .inl (by rw [show (Gs.placesL n f).length = k by omega]; exact hJ)⟩
        · refine condf ?_
          first | exact ⟨⟨_, rfl⟩, .inr hX⟩ | exact ⟨⟨_, rfl⟩, .inl (by rw [Gs.places_no (by omega)]; exact h0)⟩ | exact ⟨⟨_, rfl⟩, .inl (by rw [show (Gs.placesL n f).length = k by omega]; exact hJ)⟩

end Go.Proofs.Ytojcbhkhfcddnaa
