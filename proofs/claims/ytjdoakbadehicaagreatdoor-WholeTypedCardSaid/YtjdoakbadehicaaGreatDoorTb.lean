/-
  Contracts of functions of the program, walked over their shallow forms. No condition but the ones that each states.
-/
import Derived.Test.YtjdoakbadehicaaGreatDoorTa
import Derived.Test.YtjdoakbadehicaaGreatDoorRay2
import Derived.Test.YtjdoakbadehicaaGreatDoorGe
import Derived.Test.YtjdoakbadehicaaGreatDoorCodeC2
import Derived.Test.YtjdoakbadehicaaGreatDoorTypedA
import Derived.Test.YtjdoakbadehicaaGreatDoorGramTx
import Derived.Test.YtjdoakbadehicaaGreatDoorFL
namespace Go.Proofs.YtjdoakbadehicaaGreatDoor
open Go Go.Sh
set_option linter.unusedVariables false
set_option maxRecDepth 100000


set_option maxHeartbeats 2000000 in
/-- greenscreen/greenscreentop.soundReply -/
theorem c_top_soundReply {gT : Nat} {eT : TypeId} {fT : Nat × Nat} {w : World} (hgT : Tryz.prog.globalNamed "internal/strconv.uint64pow10" = some gT) (h_gT : w.heap[gT]? = some (.cells Gs.powT eT fT))  :
    Calls Tryz.prog 8 #[] w fun e w' => e = .returned (.bool true) ∧ Upd no w w' := by
  refine F8.calls ?_
  unfold F8
  have hgl := lt_get h_gT
  have lt_h_gT := lt_get h_gT
  have hF : Upd no w w := Fr.refl _ _ _
  refine opv_run (build_eq (l := [(0, 1), (1, 1)]) (z := #[.int .i64 0, .int .i64 0]) (by kernel_rfl) (by first | (simp [fillL, splice, repL, Value.cells, Gs.cv, Gs.fv, Gs.ie]; done) | (simp [fillL, splice, repL, Value.cells, Gs.cv, Gs.fv, Gs.ie]; rfl))) ?_
  refine callF_ex (c_plane_New1 (r := 1) (c := 6) (by decide)) (fun v1 w1 D1 => ?_)
  obtain ⟨bp, gp, rfl, gbp, h_bp, own_p, U1⟩ := D1
  rw [show (Gs.cellsN 1 6).toNat = 6 by decide] at h_bp own_p
  have ne_gT_bp : gT ≠ bp := by have := lt_get h_gT; omega
  have ge_bp : w.heap.size ≤ bp := by have := hF.size; omega
  have nx1_h_gT_own_p : ¬ ownS _ gT := fun h => by have := (Own.ge own_p h).1; have := lt_get h_gT; omega
  replace own_p := own_p.mono (B' := w.heap.size) hF.size
  replace h_gT := U1.get0 h_gT
  replace hF := hF.go0 U1
  refine opv_run (ext_t (by rfl)) ?_
  refine opv_run (ext_t (by rfl)) ?_
  refine opv_run (v := .bool false) (eqPN (e := 91) (by kernel_rfl)) ?_
  refine condf ?_
  refine opv_run (build_eq (l := [(0, 1), (1, 1), (2, 1), (3, 1), (4, 1)]) (z := #[.int .u8 0, .bool false, .bool false, .int .u8 0, .int .u8 0]) (cs := Gs.cv ⟨0, false, true, 0, 0⟩) (by kernel_rfl) (by rfl)) ?_
  refine callF_ex (c_Plane_Set h_bp own_p (by rfl) (i := 0) (x := (⟨0, false, true, 0, 0⟩ : Gs.Cell))) (fun v3 w3 D3 => ?_)
  obtain ⟨rfl, N3, U3⟩ := D3
  have own_p_o := own_p
  replace h_gT := U3.get h_gT nx1_h_gT_own_p
  replace h_bp := U3.get h_bp (fun h => by first | (have := Own.ge own_p_o h; omega) | exact Own.ne_blk own_p_o h_bp (by decide) _ h rfl | exact Own.not_loop own_p_o h_bp (by assumption) _ h rfl | exact Own.not_def own_p_o h_bp _ h rfl | simp_all)
  replace own_p := N3
  replace hF := hF.go U3 (fun i h hs => by first | exact hs | exact .inl hs | exact .inr hs | (have := (Own.ge own_p_o hs).1; omega))
  clear own_p_o
  rw [show Gs.setC (List.replicate 6 Gs.zc) 0 (⟨0, false, true, 0, 0⟩ : Gs.Cell) = ([⟨0, false, true, 0, 0⟩, Gs.zc, Gs.zc, Gs.zc, Gs.zc, Gs.zc] : List Gs.Cell) by decide +kernel] at own_p
  refine callF_ex (c_Plane_Point h_bp own_p (by rfl) (i := 1)) (fun v4 w4 D4 => ?_)
  obtain ⟨rfl, N4, U4⟩ := D4
  replace own_p := own_p.upd1 U4 (by first | assumption | exact Own.ne_blk own_p (by assumption) (by decide) | exact Own.not_loop own_p (by assumption) (by assumption) | exact Own.not_def own_p (by assumption) | exact Own.not_loop own_p (by assumption) (lp3 _))
  replace h_gT := U4.get1 h_gT ne_gT_bp
  replace h_bp := N4
  replace hF := hF.go1 U4 ge_bp
  rw [if_pos (by decide)] at h_bp
  refine callF_ex (c_typing_Put0 h_bp own_p (by rfl) (x := 193) (by decide) (by decide) (by decide) (by unfold Gs.Cws Gs.Cw; decide : Gs.Cws ([⟨0, false, true, 0, 0⟩, Gs.zc, Gs.zc, Gs.zc, Gs.zc, Gs.zc] : List Gs.Cell)) (by decide) (by decide +kernel) (by decide +kernel) (by decide +kernel) (by decide +kernel)) (fun v5 w5 D5 => ?_)
  obtain ⟨rfl, M5, N5, U5⟩ := D5
  have own_p_o := own_p
  replace own_p := N5
  replace h_gT := U5.get h_gT (fun hs => Or.elim (show ownS _ _ ∨ _ = _ from hs) nx1_h_gT_own_p (fun hb => absurd hb ne_gT_bp))
  replace h_bp := M5
  replace hF := hF.go U5 (fun i h hs => Or.elim (show ownS _ _ ∨ _ = _ from hs) (fun hs => by first | exact hs | exact .inl hs | exact .inr hs | (have := (Own.ge own_p_o hs).1; omega)) (fun hb => by first | (subst hb; omega) | exact .inr hb))
  clear own_p_o
  rw [show Gs.markC (Gs.setC ([⟨0, false, true, 0, 0⟩, Gs.zc, Gs.zc, Gs.zc, Gs.zc, Gs.zc] : List Gs.Cell) 1 ⟨193, false, false, (Gs.getC ([⟨0, false, true, 0, 0⟩, Gs.zc, Gs.zc, Gs.zc, Gs.zc, Gs.zc] : List Gs.Cell) 1).l, (Gs.getC ([⟨0, false, true, 0, 0⟩, Gs.zc, Gs.zc, Gs.zc, Gs.zc, Gs.zc] : List Gs.Cell) 1).c⟩) 1 = ([⟨1, false, true, 0, 0⟩, ⟨193, false, false, 0, 0⟩, Gs.zc, Gs.zc, Gs.zc, Gs.zc] : List Gs.Cell) by decide +kernel] at own_p
  rw [show ((1 : Int) + 1) % ((6 : Nat) : Int) = 2 by decide] at h_bp
  refine callF_ex (c_rp_Read h_bp own_p (by rfl) (x := 125) (by decide) (by decide) (by decide) (by unfold Gs.Cws Gs.Cw; decide : Gs.Cws ([⟨1, false, true, 0, 0⟩, ⟨193, false, false, 0, 0⟩, Gs.zc, Gs.zc, Gs.zc, Gs.zc] : List Gs.Cell))) (fun v6 w6 D6 => ?_)
  obtain ⟨own22, U6⟩ := D6
  rw [show Gs.readB ([⟨1, false, true, 0, 0⟩, ⟨193, false, false, 0, 0⟩, Gs.zc, Gs.zc, Gs.zc, Gs.zc] : List Gs.Cell) 2 125 = [125, 64, 194, 17, 64, 193, 193] by decide +kernel] at own22
  obtain ⟨A22, c22, rfl, _⟩ := own22.rd1
  have nx6_h_gT_own22 : ¬ ownS _ gT := fun h => by have := (Own.ge own22 h).1; have := lt_get h_gT; omega
  have nx6_h_bp_own22 : ¬ ownS _ bp := fun h => by have := (Own.ge own22 h).1; have := lt_get h_bp; omega
  have nx6_own_p_own22 : ∀ k, ownS _ k → ¬ ownS _ k := fun k hk hs => by have := (Own.ge own_p hk).2; have := (Own.ge own22 hs).1; omega
  replace own22 := own22.mono (B' := w.heap.size) hF.size
  replace own_p := own_p.upd0 U6
  replace h_gT := U6.get0 h_gT
  replace h_bp := U6.get0 h_bp
  replace hF := hF.go0 U6
  refine callF_ex (c_gr_Parse (bs := [125, 64, 194, 17, 64, 193, 193]) own22.rdS rfl own22.le_cap (by intro x hx; simp at hx; omega) (by decide)) (fun v7 w7 D7 => ?_)
  obtain ⟨q23, l23, A23, c23, hq23, hi23, rfl, rd23, rdc23, hw23, gA23, gC23, ha23, U7⟩ := D7
  rw [show Gs.inbV [125, 64, 194, 17, 64, 193, 193] = Gs.aI1 from by unfold Gs.inbV; rw [Gs.al_1]; try rfl] at hq23
  subst hq23
  rw [show Gs.errV (Gs.inbF [125, 64, 194, 17, 64, 193, 193]) = 0 from by rw [Gs.al_1]; rfl]
  replace hi23 : Gs.its l23 = (Gs.aI1 : Gs.Inb).items := hi23.symm
  have na_rd23_gT := gA23.ne (lt_get h_gT)
  have na_rd23_bp := gA23.ne (lt_get h_bp)
  have na_rd23_own_p : _ ∨ ∀ k, _ → ¬ ownS _ k := gA23.imp_right fun h k hk hs => by have := h k hk; have := (Own.ge own_p hs).2; omega
  have na_rd23_own22 : _ ∨ ∀ k, _ → ¬ ownS _ k := gA23.imp_right fun h k hk hs => by have := h k hk; have := (Own.ge own22 hs).2; omega
  have na_rdc23_gT := gC23.ne (lt_get h_gT)
  have na_rdc23_bp := gC23.ne (lt_get h_bp)
  have na_rdc23_own_p : _ ∨ ∀ k, _ → ¬ ownS _ k := gC23.imp_right fun h k hk hs => by have := h k hk; have := (Own.ge own_p hs).2; omega
  have na_rdc23_own22 : _ ∨ ∀ k, _ → ¬ ownS _ k := gC23.imp_right fun h k hk hs => by have := h k hk; have := (Own.ge own22 hs).2; omega
  replace own_p := own_p.upd0 U7
  replace own22 := own22.upd0 U7
  replace h_gT := U7.get0 h_gT
  replace h_bp := U7.get0 h_bp
  replace hF := hF.go0 U7
  refine opv_run (ext_t (by rfl)) ?_
  refine opv_run (ext_t (by rfl)) ?_
  refine alloc_intro (cs := #[.int .u8 0, .bool false, .int .i64 0, .slice none 0 0]) (by kernel_rfl) (fun b8 w8 e8 h_b8 _ U8 => ?_)
  have ne_gT_b8 : gT ≠ b8 := by have := lt_get h_gT; omega
  have ne_bp_b8 : bp ≠ b8 := by have := lt_get h_bp; omega
  have na_own_p_b8 := own_p.apart e8
  have na_own22_b8 := own22.apart e8
  have na_rd23_b8 := rd23.apart e8
  have na_rdc23_b8 := rdc23.apart e8
  have ge_b8 : w.heap.size ≤ b8 := by have := hF.size; omega
  replace own_p := own_p.upd0 U8
  replace own22 := own22.upd0 U8
  replace rd23 := rd23.upd0 U8
  replace rdc23 := rdc23.upd0 U8
  replace h_gT := U8.get0 h_gT
  replace h_bp := U8.get0 h_bp
  replace hF := hF.go0 U8
  clear e8
  refine store_intro (n := 4) (cs' := #[.int .u8 125, .bool false, .int .i64 2, .slice A23 l23.length c23]) (by kernel_rfl) (by rfl) (by first | rfl | (simp [Value.cells, Value.oneCell', Gs.cv, Gs.fv, Gs.ie]; done)) h_b8 (by first | exact Nat.le_of_ble_eq_true rfl | (simp; done) | omega) (by rfl) (fun w9 N9 _ U9 => ?_)
  replace own_p := own_p.upd1 U9 na_own_p_b8
  replace own22 := own22.upd1 U9 na_own22_b8
  replace rd23 := rd23.upd1 U9 na_rd23_b8
  replace rdc23 := rdc23.upd1 U9 na_rdc23_b8
  replace h_gT := U9.get1 h_gT ne_gT_b8
  replace h_bp := U9.get1 h_bp ne_bp_b8
  replace h_b8 := N9
  replace hF := hF.go1 U9 ge_b8
  refine opv_T (eqI _ _ _ _ _) (by first | rfl | decide +kernel) ?_
  refine gdtt ?_
  refine gdtt ?_
  refine opv_T (eqI _ _ _ _ _) (by first | rfl | decide +kernel) ?_
  refine pickt ?_
  refine gdtt ?_
  refine opv_run (ldA (n := 4) (cs' := #[.int .u8 125, .bool false, .int .i64 2, .slice A23 l23.length c23]) (by kernel_rfl) h_b8 (by first | exact Nat.le_of_ble_eq_true rfl | (simp; done) | omega) (by rfl)) ?_
  refine gdtt ?_
  refine callF_val (c_gr_Text (page := 37) rd23 rfl rdc23 hgT h_gT (by decide) (by decide) hw23 (Gs.its_of hi23 (p := fun p _ => -9223372036854775808 ≤ p ∧ p ≤ 9223372036854775807) (by decide)) (by have := congrArg List.length hi23; rw [Gs.its_len] at this; rw [this]; decide) (Gs.its_of hi23 (p := fun _ c => c.length ≤ 100000) (by decide))) (fun w10 U10 => ?_)
  replace own_p := own_p.upd0 U10
  replace own22 := own22.upd0 U10
  replace rd23 := rd23.upd0 U10
  replace rdc23 := rdc23.upd0 U10
  replace h_gT := U10.get0 h_gT
  replace h_bp := U10.get0 h_bp
  replace h_b8 := U10.get0 h_b8
  replace hF := hF.go0 U10
  rw [hi23, show Gs.txtL 37 ⟨125, false, 2, Gs.aI1.items⟩ = _ from Gs.al_t1]
  refine gdtt ?_
  refine opv_T (eqS _ _ _ _) (by first | rfl | decide +kernel) ?_
  refine pickt ?_
  refine gdtt ?_
  refine callF_val (c_code_Sign (page := 37) (b := 193)) (fun w11 U11 => ?_)
  replace own_p := own_p.upd0 U11
  replace own22 := own22.upd0 U11
  replace rd23 := rd23.upd0 U11
  replace rdc23 := rdc23.upd0 U11
  replace h_gT := U11.get0 h_gT
  replace h_bp := U11.get0 h_bp
  replace h_b8 := U11.get0 h_b8
  replace hF := hF.go0 U11
  refine gdtt ?_
  refine opv_T (eqI _ _ _ _ _) (by first | rfl | decide +kernel) ?_
  refine pickt ?_
  exact ⟨rfl, hF⟩

set_option maxHeartbeats 4000000 in
/-- greenscreen/greenscreentop.WholeTyped -/
theorem c_top_WholeTyped {page z0 x : Int} {s : ByteArray} {gT : Nat} {eT : TypeId} {fT : Nat × Nat} {w : World} (hxb : 0 ≤ x ∧ x ≤ 255) (hgT : Tryz.prog.globalNamed "internal/strconv.uint64pow10" = some gT) (h_gT : w.heap[gT]? = some (.cells Gs.powT eT fT))  :
    Calls Tryz.prog 3 #[.int .i64 page, .int .i64 z0, .string s, .int .u8 x] w fun e w' => e = .returned (.bool true) ∧ Upd no w w' := by
  refine F3.calls ?_
  unfold F3
  have lt_h_gT := lt_get h_gT
  have hF : Upd no w w := Fr.refl _ _ _
  refine callF_T (c_top_soundReply hgT h_gT) (rfl) (fun w1 U1 => ?_)
  replace h_gT := U1.get0 h_gT
  replace hF := hF.go0 U1
  refine opv_run (notT) ?_
  refine condf ?_
  refine opv_run (len_str (by kernel_rfl) _) ?_
  refine opv_dec (gtr _ _ _ _) (fun h2 => ?_) (fun h2 => ?_)
  · refine gdtf ?_
    refine gdtf ?_
    refine gdtf ?_
    refine pickt ?_
    refine gdtf ?_
    refine gdtf ?_
    refine pickt ?_
    refine condt ?_
    first | exact ⟨rfl, hF⟩ | exact ⟨by rw [decide_eq_true rfl], hF⟩
  · refine gdff ?_
    refine gdff ?_
    refine callF_bool (c_kb_Attention hxb) (fun w4 U4 h4 => ?_) (fun w4 U4 h4 => ?_)
    · replace h_gT := U4.get0 h_gT
      replace hF := hF.go0 U4
      try simp only [decide_eq_true_eq, decide_eq_false_iff_not] at h4
      refine gdff ?_
      refine opv_run (notT) ?_
      refine pickf ?_
      refine gdff ?_
      refine gdff ?_
      refine callF_bool (c_kb_Short) (fun w5 U5 h5 => ?_) (fun w5 U5 h5 => ?_)
      · replace h_gT := U5.get0 h_gT
        replace hF := hF.go0 U5
        try simp only [decide_eq_true_eq, decide_eq_false_iff_not] at h5
        refine pickf ?_
        refine condt ?_
        first | exact ⟨rfl, hF⟩ | exact ⟨by rw [decide_eq_true rfl], hF⟩
      · replace h_gT := U5.get0 h_gT
        replace hF := hF.go0 U5
        try simp only [decide_eq_true_eq, decide_eq_false_iff_not] at h5
        refine pickf ?_
        refine condf ?_
        have hatt : ¬ Gs.attS x = ⟨#[]⟩ := by assumption
        have hns : ¬ (x = 109 ∨ x = 108 ∨ x = 110 ∨ x = 107) := by assumption
        have hs40 : s.size ≤ 40 := by omega
        refine callF_ex (c_code_Bytes (page := page) (s := s) (by omega)) (fun v7 w7 D7 => ?_)
        obtain ⟨v43, rfl, own43, U7⟩ := D7
        have htl := Gs.bytesOf_len s page
        have hseen := Gs.bytes_rng (page := page) (s := s)
        obtain ⟨tb, htb⟩ : ∃ l, l = (Gs.bytesOf page s).getD [] := ⟨_, rfl⟩
        rw [← htb] at own43 htl hseen
        obtain ⟨A43, c43, rfl, _⟩ := own43.rd1
        have nx7_h_gT_own43 : ¬ ownS _ gT := fun h => by have := (Own.ge own43 h).1; have := lt_get h_gT; omega
        replace own43 := own43.mono (B' := w.heap.size) hF.size
        replace h_gT := U7.get0 h_gT
        replace hF := hF.go0 U7
        refine opv_run (ext_t (by rfl)) ?_
        refine opv_run (ext_t (by rfl)) ?_
        refine opv_run (len_sl (by kernel_rfl) _ _ _) ?_
        first | refine opv_run (add_i64 _ (by omega)) ?_ | refine opv_run (addI _ _ _ _) ?_
        refine opv_run (and_15 _ _) ?_
        first | refine opv_run (add_i64 _ (by omega)) ?_ | refine opv_run (addI _ _ _ _) ?_
        obtain ⟨z, hz⟩ : ∃ z : Nat, (z : Int) = ((tb.length : Nat) : Int) + 1 + z0 % 16 := ⟨(((tb.length : Nat) : Int) + 1 + z0 % 16).toNat, by omega⟩
        rw [← hz]
        have hz1 : tb.length < z ∧ z ≤ 56 := by omega
        have hcs3 : Gs.cellsN 1 ((z : Int) + 3) = (z : Int) + 3 := Gs.cells_1 (by omega)
        first | refine opv_run (add_i64 _ (by omega)) ?_ | refine opv_run (addI _ _ _ _) ?_
        refine opv_run (build_eq (l := [(0, 1), (1, 1)]) (z := #[.int .i64 0, .int .i64 0]) (cs := [.int .i64 1, .int .i64 ((z : Int) + 3)]) (by kernel_rfl) (by rfl)) ?_
        first | refine opv_run (add_i64 _ (by omega)) ?_ | refine opv_run (addI _ _ _ _) ?_
        refine opv_run (build_eq (l := [(0, 1), (1, 1)]) (z := #[.int .i64 0, .int .i64 0]) (cs := [.int .i64 1, .int .i64 ((z : Int) + 3)]) (by kernel_rfl) (by rfl)) ?_
        refine callF_ex (c_scr_New1 (r0 := 1) (c0 := (z : Int) + 3) (r1 := 1) (c1 := (z : Int) + 3) (by rw [hcs3]; omega) (by rw [hcs3]; omega)) (fun v10 w10 D10 => ?_)
        obtain ⟨bs, bp, gg, rfl, gbs, gbp, h_bs, h_bp, own_p, U10⟩ := D10
        rw [show (Gs.cellsN 1 ((z : Int) + 3)).toNat = z + 3 by rw [hcs3]; omega] at h_bp own_p
        have ne_gT_bs : gT ≠ bs := by have := lt_get h_gT; omega
        have na_own43_bs : ∀ k, ownS _ k → k ≠ bs := fun k hk => by have := (Own.ge own43 hk).2; omega
        have ge_bs : w.heap.size ≤ bs := by have := hF.size; omega
        have ne_gT_bp : gT ≠ bp := by have := lt_get h_gT; omega
        have na_own43_bp : ∀ k, ownS _ k → k ≠ bp := fun k hk => by have := (Own.ge own43 hk).2; omega
        have ge_bp : w.heap.size ≤ bp := by have := hF.size; omega
        have nx10_h_gT_own_p : ¬ ownS _ gT := fun h => by have := (Own.ge own_p h).1; have := lt_get h_gT; omega
        have nx10_own43_own_p : ∀ k, ownS _ k → ¬ ownS _ k := fun k hk hs => by have := (Own.ge own43 hk).2; have := (Own.ge own_p hs).1; omega
        replace own_p := own_p.mono (B' := w.heap.size) hF.size
        replace own43 := own43.upd0 U10
        replace h_gT := U10.get0 h_gT
        replace hF := hF.go0 U10
        refine opv_run (ext_t (by rfl)) ?_
        refine opv_run (ext_t (by rfl)) ?_
        refine opv_dec (neI _ _ _ _ _) (fun h11 => ?_) (fun h11 => ?_)
        · refine gdtf ?_
          refine gdtf ?_
          refine pickt ?_
          refine condt ?_
          first | exact ⟨rfl, hF⟩ | exact ⟨by rw [decide_eq_true rfl], hF⟩
        · refine gdff ?_
          refine gdff ?_
          refine opv_F (neI _ _ _ _ _) (fun h => h rfl) ?_
          refine pickf ?_
          refine condf ?_
          refine callF_val (c_scr_Plane h_bs) (fun w13 U13 => ?_)
          replace own43 := own43.upd0 U13
          replace own_p := own_p.upd0 U13
          replace h_gT := U13.get0 h_gT
          replace h_bs := U13.get0 h_bs
          replace h_bp := U13.get0 h_bp
          replace hF := hF.go0 U13
          refine opv_run (build_eq (l := [(0, 1), (1, 1), (2, 1), (3, 1), (4, 1)]) (z := #[.int .u8 0, .bool false, .bool false, .int .u8 0, .int .u8 0]) (cs := Gs.cv ⟨0, false, true, 0, 0⟩) (by kernel_rfl) (by rfl)) ?_
          refine callF_ex (c_Plane_Set h_bp own_p List.length_replicate.symm (i := 0) (x := (⟨0, false, true, 0, 0⟩ : Gs.Cell))) (fun v15 w15 D15 => ?_)
          obtain ⟨rfl, N15, U15⟩ := D15
          have own_p_o := own_p
          replace h_gT := U15.get h_gT nx10_h_gT_own_p
          replace own43 := own43.updS U15 nx10_own43_own_p
          replace h_bs := U15.get h_bs (fun h => by first | (have := Own.ge own_p_o h; omega) | exact Own.ne_blk own_p_o h_bs (by decide) _ h rfl | exact Own.not_loop own_p_o h_bs (by assumption) _ h rfl | exact Own.not_def own_p_o h_bs _ h rfl | simp_all)
          replace h_bp := U15.get h_bp (fun h => by first | (have := Own.ge own_p_o h; omega) | exact Own.ne_blk own_p_o h_bp (by decide) _ h rfl | exact Own.not_loop own_p_o h_bp (by assumption) _ h rfl | exact Own.not_def own_p_o h_bp _ h rfl | simp_all)
          replace own_p := N15
          replace hF := hF.go U15 (fun i h hs => by first | exact hs | exact .inl hs | exact .inr hs | (have := (Own.ge own_p_o hs).1; omega))
          clear own_p_o
          first | refine opv_run (add_i64 _ (by omega)) ?_ | refine opv_run (addI _ _ _ _) ?_
          refine opv_run (build_eq (l := [(0, 1), (1, 1), (2, 1), (3, 1), (4, 1)]) (z := #[.int .u8 0, .bool false, .bool false, .int .u8 0, .int .u8 0]) (cs := Gs.cv ⟨48, false, true, 0, 0⟩) (by kernel_rfl) (by rfl)) ?_
          refine callF_ex (c_Plane_Set h_bp own_p (by rw [Gs.setC_len, List.length_replicate]) (i := (z : Int) + 1) (x := ⟨48, false, true, 0, 0⟩)) (fun v17 w17 D17 => ?_)
          obtain ⟨rfl, N17, U17⟩ := D17
          have own_p_o := own_p
          replace h_gT := U17.get h_gT nx10_h_gT_own_p
          replace own43 := own43.updS U17 nx10_own43_own_p
          replace h_bs := U17.get h_bs (fun h => by first | (have := Own.ge own_p_o h; omega) | exact Own.ne_blk own_p_o h_bs (by decide) _ h rfl | exact Own.not_loop own_p_o h_bs (by assumption) _ h rfl | exact Own.not_def own_p_o h_bs _ h rfl | simp_all)
          replace h_bp := U17.get h_bp (fun h => by first | (have := Own.ge own_p_o h; omega) | exact Own.ne_blk own_p_o h_bp (by decide) _ h rfl | exact Own.not_loop own_p_o h_bp (by assumption) _ h rfl | exact Own.not_def own_p_o h_bp _ h rfl | simp_all)
          replace own_p := N17
          replace hF := hF.go U17 (fun i h hs => by first | exact hs | exact .inl hs | exact .inr hs | (have := (Own.ge own_p_o hs).1; omega))
          clear own_p_o
          obtain ⟨cs, hcs⟩ : ∃ cs, cs = Gs.setC (Gs.setC (List.replicate (z + 3) Gs.zc) 0 ⟨0, false, true, 0, 0⟩) ((z : Int) + 1) ⟨48, false, true, 0, 0⟩ := ⟨_, rfl⟩
          rw [← hcs] at own_p
          have hty : Gs.Typ cs z [] := by rw [hcs]; exact Gs.typ_new z
          clear hcs
          have hcsn := hty.1
          have hcw := hty.cws (by simp) (fun y hy => by cases hy)
          refine callF_ex (c_kb_New (bs := bs)) (fun v18 w18 D18 => ?_)
          obtain ⟨bk, rfl, gbk, h_bk, U18⟩ := D18
          have ne_gT_bk : gT ≠ bk := by have := lt_get h_gT; omega
          have na_own43_bk : ∀ k, ownS _ k → k ≠ bk := fun k hk => by have := (Own.ge own43 hk).2; omega
          have ne_bs_bk : bs ≠ bk := by have := lt_get h_bs; omega
          have ne_bp_bk : bp ≠ bk := by have := lt_get h_bp; omega
          have na_own_p_bk : ∀ k, ownS _ k → k ≠ bk := fun k hk => by have := (Own.ge own_p hk).2; omega
          have ge_bk : w.heap.size ≤ bk := by have := hF.size; omega
          replace own43 := own43.upd0 U18
          replace own_p := own_p.upd0 U18
          replace h_gT := U18.get0 h_gT
          replace h_bs := U18.get0 h_bs
          replace h_bp := U18.get0 h_bp
          replace hF := hF.go0 U18
          refine callF_val (c_kb_Lock h_bk) (fun w19 U19 => ?_)
          replace own43 := own43.upd0 U19
          replace own_p := own_p.upd0 U19
          replace h_gT := U19.get0 h_gT
          replace h_bs := U19.get0 h_bs
          replace h_bp := U19.get0 h_bp
          replace h_bk := U19.get0 h_bk
          replace hF := hF.go0 U19
          refine callF_ex (c_lock_Open h_bk) (fun v20 w20 D20 => ?_)
          obtain ⟨t82, N20, U20⟩ := D20
          replace own43 := own43.upd1 U20 na_own43_bk
          replace own_p := own_p.upd1 U20 na_own_p_bk
          replace h_gT := U20.get1 h_gT ne_gT_bk
          replace h_bs := U20.get1 h_bs ne_bs_bk
          replace h_bp := U20.get1 h_bp ne_bp_bk
          replace h_bk := N20
          replace hF := hF.go1 U20 ge_bk
          refine opv_run (build_eq (l := [(0, 1), (1, 1)]) (z := #[.int .i64 0, .int .u8 0]) (cs := [.int .i64 5, .int .u8 0]) (by kernel_rfl) (by rfl)) ?_
          refine callF_ex (c_Press_Home h_bp own_p hcsn.symm h_bk h_bs (by omega) (by rw [hcs3]; omega) (by omega) hcw (by decide) rfl) (fun v22 w22 D22 => ?_)
          obtain ⟨rfl, N22, U22⟩ := D22
          replace own43 := own43.upd1 U22 na_own43_bp
          replace own_p := own_p.upd1 U22 (by first | assumption | exact Own.ne_blk own_p (by assumption) (by decide) | exact Own.not_loop own_p (by assumption) (by assumption) | exact Own.not_def own_p (by assumption) | exact Own.not_loop own_p (by assumption) (lp3 _))
          replace h_gT := U22.get1 h_gT ne_gT_bp
          replace h_bs := U22.get1 h_bs (by first | omega | exact blk_ne (by assumption) (by assumption) (by decide) | exact blk_not_loop (by assumption) (by assumption) (by assumption) | exact Ne.symm (blk_not_loop (by assumption) (by assumption) (by assumption)) | exact blk_not_def (by assumption) (by assumption) | exact Ne.symm (blk_not_def (by assumption) (by assumption)) | exact def_ne_blk (by assumption) (by assumption) | exact Ne.symm (def_ne_blk (by assumption) (by assumption)))
          replace h_bk := U22.get1 h_bk (Ne.symm ne_bp_bk)
          replace h_bp := N22
          replace hF := hF.go1 U22 ge_bp
          rw [hty.home (by simp) (by omega)] at h_bp
          refine join_cut (fun g w' => ∃ (cs : List Gs.Cell) (tn : Int), (Gs.Typ cs z tb) ∧ (w'.heap[bk]? = some (.cells #[.pointer (some ⟨bs, 0, none⟩), .int .i64 1, .int .i64 0, .int .i64 tn, .bool false, .int .u8 96] 95 (0, 0))) ∧ (w'.heap[bp]? = some (.cells #[.int .i64 1, .int .i64 ((z : Int) + 3), .slice (some ⟨gg, 0, none⟩) (z + 3) (z + 3), .int .i64 ((tb.length : Int) + 1)] 91 (0, 0))) ∧ (Own w.heap.size w' 37 5 (.slice (some ⟨gg, 0, none⟩) (z + 3) (z + 3)) (rows Gs.cv cs)) ∧ (w'.heap[bs]? = some (.cells #[.int .i64 1, .int .i64 ((z : Int) + 3), .int .i64 1, .int .i64 ((z : Int) + 3), .int .i64 0, .pointer (some ⟨bp, 0, none⟩)] 89 (0, 0))) ∧ (Own w.heap.size w' 5 1 (.slice A43 tb.length c43) (vals .u8 tb)) ∧ (Upd no w w')) (fun J1 hJ1 => ?_) (fun gJ1 wJ1 hI => ?_)
          · refine opv_run (len_sl (by kernel_rfl) _ _ _) ?_
            refine loop_intro (fun g w' => ∃ (k : Nat) (cs : List Gs.Cell) (tn : Int), (g 88 = .int .i64 (k : Int)) ∧ (k ≤ tb.length) ∧ (Gs.Typ cs z (tb.take k)) ∧ (w'.heap[bk]? = some (.cells #[.pointer (some ⟨bs, 0, none⟩), .int .i64 1, .int .i64 0, .int .i64 tn, .bool false, .int .u8 96] 95 (0, 0))) ∧ (w'.heap[bp]? = some (.cells #[.int .i64 1, .int .i64 ((z : Int) + 3), .slice (some ⟨gg, 0, none⟩) (z + 3) (z + 3), .int .i64 ((k : Int) + 1)] 91 (0, 0))) ∧ (Own w.heap.size w' 37 5 (.slice (some ⟨gg, 0, none⟩) (z + 3) (z + 3)) (rows Gs.cv cs)) ∧ (w'.heap[bs]? = some (.cells #[.int .i64 1, .int .i64 ((z : Int) + 3), .int .i64 1, .int .i64 ((z : Int) + 3), .int .i64 0, .pointer (some ⟨bp, 0, none⟩)] 89 (0, 0))) ∧ (Own w.heap.size w' 5 1 (.slice A43 tb.length c43) (vals .u8 tb)) ∧ (Upd no w w')) (fun g w' => tb.length - (RowKit.intOf (g 88)).toNat) ?_ (fun g2 wl2 hI => ?_)
            · exact ⟨0, _, _, (by first | exact g88 | rfl), Nat.zero_le _, hty, h_bk, h_bp, own_p, h_bs, own43, hF⟩
            · obtain ⟨k, cs, tn, g88, hk, hty, h_bk, h_bp, own_p, h_bs, own43, hF⟩ := hI
              try rw [g88]
              refine opv_dec (lss _ _ _ _) (fun h23 => ?_) (fun h23 => ?_)
              · refine condt ?_
                refine idx_int (by kernel_rfl) (by kernel_rfl) own43.rdS (by first | rfl | assumption | omega | (simp; done) | (simp [vals_length, *]; done) | (simp [vals_length] at *; omega)) (by omega) (by omega) (fun x24 hx24 => ?_)
                try simp only [Int.toNat_natCast] at hx24
                have hkl := (List.getElem?_eq_some_iff.1 hx24).1
                have hlk : (tb.take k).length = k := by rw [List.length_take]; omega
                have hcsn := hty.1
                have hxs := hseen _ (List.mem_of_getElem? hx24)
                have hcw := hty.cws (by omega) (fun y hy => by have := hseen y (List.mem_of_mem_take hy); omega)
                refine opv_run (build_eq (l := [(0, 1), (1, 1)]) (z := #[.int .i64 0, .int .u8 0]) (cs := [.int .i64 1, .int .u8 x24]) (by kernel_rfl) (by rfl)) ?_
                refine callF_ex (c_Press_Char h_bp own_p hcsn.symm h_bk h_bs (x := x24) (by omega) (by rw [hcs3]; omega) (by omega) hcw (by omega) (hty.of (by omega) (by omega)).2 (hty.open' (by omega) (by omega)) (hty.num (by omega) (by omega)) (hty.next (by omega) (by rw [hlk]) x24) rfl) (fun v26 w26 D26 => ?_)
                obtain ⟨rfl, M26, N26, U26⟩ := D26
                have own_p_o := own_p
                replace own_p := N26
                replace own43 := own43.updS U26 (fun k hk hs => Or.elim (show ownS _ _ ∨ _ = _ from hs) (nx10_own43_own_p k hk) (fun hb => absurd hb ((show ∀ k, ownS _ k → k ≠ bp from na_own43_bp) k hk)))
                replace h_bk := U26.get h_bk (fun hs => Or.elim (show ownS _ _ ∨ _ = _ from hs) (fun h => by first | exact Own.ne_blk own_p_o h_bk (by decide) _ h rfl | (have := Own.ge own_p_o h; omega)) (fun hb => absurd hb (Ne.symm ne_bp_bk)))
                replace h_bs := U26.get h_bs (fun hs => Or.elim (show ownS _ _ ∨ _ = _ from hs) (fun h => by first | exact Own.ne_blk own_p_o h_bs (by decide) _ h rfl | (have := Own.ge own_p_o h; omega)) (fun hb => absurd hb (by first | omega | exact blk_ne (by assumption) (by assumption) (by decide) | exact blk_not_loop (by assumption) (by assumption) (by assumption) | exact Ne.symm (blk_not_loop (by assumption) (by assumption) (by assumption)) | exact blk_not_def (by assumption) (by assumption) | exact Ne.symm (blk_not_def (by assumption) (by assumption)) | exact def_ne_blk (by assumption) (by assumption) | exact Ne.symm (def_ne_blk (by assumption) (by assumption)))))
                replace h_bp := M26
                replace hF := hF.go U26 (fun i h hs => Or.elim (show ownS _ _ ∨ _ = _ from hs) (fun hs => by first | exact hs | exact .inl hs | exact .inr hs | (have := (Own.ge own_p_o hs).1; omega)) (fun hb => by first | (subst hb; omega) | exact .inr hb))
                clear own_p_o
                have hty2 := hty.put (by omega) (i := ((k : Int) + 1)) (by rw [hlk]) x24
                rw [show (((k : Int) + 1) + 1) % ((z + 3 : Nat) : Int) = ((k + 1 : Nat) : Int) + 1 by rw [Int.emod_eq_of_lt (by omega) (by omega)]; omega] at h_bp
                refine opv_run (ext_t (by rfl)) ?_
                refine opv_run (ext_t (by rfl)) ?_
                refine opv_F (neI _ _ _ _ _) (fun h => h rfl) ?_
                refine condf ?_
                first | refine opv_run (add_i64 _ (by omega)) ?_ | refine opv_run (addI _ _ _ _) ?_
                exact ⟨⟨k + 1, _, _, (by first | exact g88 | rfl), by omega, (by rw [← Gs.take_step hx24]; exact hty2), h_bk, h_bp, own_p, h_bs, own43, hF⟩, cnt_lt (by first | rfl | exact g88) rfl (by omega)⟩
              · refine condf ?_
                refine hJ1 _ _ ?_
                exact ⟨_, _, (by rw [List.take_of_length_le (by omega)] at hty; exact hty), h_bk, (by rw [show (tb.length : Int) = (k : Int) by omega]; exact h_bp), own_p, h_bs, own43, hF⟩
          · obtain ⟨cs, tn, hty, h_bk, h_bp, own_p, h_bs, own43, hF⟩ := hI
            have hcsn := hty.1
            have hcw := hty.cws (by omega) (fun y hy => by have := hseen y hy; omega)
            have hib := Gs.readB_inb (cs := cs) (cur := (tb.length : Int) + 1) (x := x) (by omega) (by omega)
            have hrl := Gs.readB_len (cs := cs) (cur := (tb.length : Int) + 1) (x := x) (by omega)
            refine opv_run (build_eq (l := [(0, 1), (1, 1)]) (z := #[.int .i64 0, .int .u8 0]) (cs := [.int .i64 17, .int .u8 x]) (by kernel_rfl) (by rfl)) ?_
            refine callF_ex (c_Press_Aid h_bk rfl (by omega) hxb hatt) (fun v28 w28 D28 => ?_)
            obtain ⟨rfl, t106, N28, U28⟩ := D28
            replace own_p := own_p.upd1 U28 na_own_p_bk
            replace own43 := own43.upd1 U28 na_own43_bk
            replace h_bp := U28.get1 h_bp ne_bp_bk
            replace h_bs := U28.get1 h_bs ne_bs_bk
            replace h_bk := N28
            replace hF := hF.go1 U28 ge_bk
            refine opv_run (ext_t (by rfl)) ?_
            refine opv_run (ext_t (by rfl)) ?_
            refine callF_ex (c_rp_Read h_bp own_p hcsn.symm (x := x) (by omega) (by rw [hcs3]; omega) (by omega) hcw) (fun v29 w29 D29 => ?_)
            obtain ⟨own112, U29⟩ := D29
            obtain ⟨A112, c112, rfl, _⟩ := own112.rd1
            have nx29_h_bk_own112 : ¬ ownS _ bk := fun h => by have := (Own.ge own112 h).1; have := lt_get h_bk; omega
            have nx29_h_bp_own112 : ¬ ownS _ bp := fun h => by have := (Own.ge own112 h).1; have := lt_get h_bp; omega
            have nx29_own_p_own112 : ∀ k, ownS _ k → ¬ ownS _ k := fun k hk hs => by have := (Own.ge own_p hk).2; have := (Own.ge own112 hs).1; omega
            have nx29_h_bs_own112 : ¬ ownS _ bs := fun h => by have := (Own.ge own112 h).1; have := lt_get h_bs; omega
            have nx29_own43_own112 : ∀ k, ownS _ k → ¬ ownS _ k := fun k hk hs => by have := (Own.ge own43 hk).2; have := (Own.ge own112 hs).1; omega
            replace own112 := own112.mono (B' := w.heap.size) hF.size
            replace own_p := own_p.upd0 U29
            replace own43 := own43.upd0 U29
            replace h_bk := U29.get0 h_bk
            replace h_bp := U29.get0 h_bp
            replace h_bs := U29.get0 h_bs
            replace hF := hF.go0 U29
            refine callF_ex (c_gr_Parse (bs := (Gs.readB cs ((tb.length : Int) + 1) x)) own112.rdS rfl own112.le_cap (Gs.readB_bs hcw hxb) (by omega)) (fun v30 w30 D30 => ?_)
            obtain ⟨q113, l113, A113, c113, hq113, hi113, rfl, rd113, rdc113, hw113, gA113, gC113, ha113, U30⟩ := D30
            replace hq113 : q113 = Gs.readQ cs ((tb.length : Int) + 1) x := by rw [hq113]; unfold Gs.inbV; rw [hib]
            rw [show Gs.errV (Gs.inbF (Gs.readB cs ((tb.length : Int) + 1) x)) = 0 by rw [hib]; rfl]
            have hal : q113.alone = false := by rw [hq113, Gs.readQ_al]; exact decide_eq_false hns
            have hqf := Gs.readQ_F (cs := cs) (cur := (tb.length : Int) + 1) (x := x) (by rw [← hq113]; exact hal)
            rw [← hq113] at hqf
            have hwt := hty.want (by omega) (fun y hy => (hseen y hy).1)
            have hit : Gs.its l113 = if tb = [] then [] else [(1, tb.map Gs.ch)] := hi113.symm.trans (hqf.2.trans hwt)
            have hil : l113.length = min tb.length 1 := by rw [← Gs.its_len, hit, Gs.one_len]
            have na_rd113_bk := gA113.ne (lt_get h_bk)
            have na_rd113_bp := gA113.ne (lt_get h_bp)
            have na_rd113_own_p : _ ∨ ∀ k, _ → ¬ ownS _ k := gA113.imp_right fun h k hk hs => by have := h k hk; have := (Own.ge own_p hs).2; omega
            have na_rd113_bs := gA113.ne (lt_get h_bs)
            have na_rd113_own43 : _ ∨ ∀ k, _ → ¬ ownS _ k := gA113.imp_right fun h k hk hs => by have := h k hk; have := (Own.ge own43 hs).2; omega
            have na_rd113_own112 : _ ∨ ∀ k, _ → ¬ ownS _ k := gA113.imp_right fun h k hk hs => by have := h k hk; have := (Own.ge own112 hs).2; omega
            have na_rdc113_bk := gC113.ne (lt_get h_bk)
            have na_rdc113_bp := gC113.ne (lt_get h_bp)
            have na_rdc113_own_p : _ ∨ ∀ k, _ → ¬ ownS _ k := gC113.imp_right fun h k hk hs => by have := h k hk; have := (Own.ge own_p hs).2; omega
            have na_rdc113_bs := gC113.ne (lt_get h_bs)
            have na_rdc113_own43 : _ ∨ ∀ k, _ → ¬ ownS _ k := gC113.imp_right fun h k hk hs => by have := h k hk; have := (Own.ge own43 hs).2; omega
            have na_rdc113_own112 : _ ∨ ∀ k, _ → ¬ ownS _ k := gC113.imp_right fun h k hk hs => by have := h k hk; have := (Own.ge own112 hs).2; omega
            replace own_p := own_p.upd0 U30
            replace own43 := own43.upd0 U30
            replace own112 := own112.upd0 U30
            replace h_bk := U30.get0 h_bk
            replace h_bp := U30.get0 h_bp
            replace h_bs := U30.get0 h_bs
            replace hF := hF.go0 U30
            refine opv_run (ext_t (by rfl)) ?_
            refine opv_run (ext_t (by rfl)) ?_
            refine alloc_intro (cs := #[.int .u8 0, .bool false, .int .i64 0, .slice none 0 0]) (by kernel_rfl) (fun b31 w31 e31 h_b31 _ U31 => ?_)
            have ne_bk_b31 : bk ≠ b31 := by have := lt_get h_bk; omega
            have ne_bp_b31 : bp ≠ b31 := by have := lt_get h_bp; omega
            have na_own_p_b31 := own_p.apart e31
            have ne_bs_b31 : bs ≠ b31 := by have := lt_get h_bs; omega
            have na_own43_b31 := own43.apart e31
            have na_own112_b31 := own112.apart e31
            have na_rd113_b31 := rd113.apart e31
            have na_rdc113_b31 := rdc113.apart e31
            have ge_b31 : w.heap.size ≤ b31 := by have := hF.size; omega
            replace own_p := own_p.upd0 U31
            replace own43 := own43.upd0 U31
            replace own112 := own112.upd0 U31
            replace rd113 := rd113.upd0 U31
            replace rdc113 := rdc113.upd0 U31
            replace h_bk := U31.get0 h_bk
            replace h_bp := U31.get0 h_bp
            replace h_bs := U31.get0 h_bs
            replace hF := hF.go0 U31
            clear e31
            refine store_intro (n := 4) (cs' := #[.int .u8 q113.aid, .bool q113.alone, .int .i64 q113.cur, .slice A113 l113.length c113]) (by kernel_rfl) (by rfl) (by first | rfl | (simp [Value.cells, Value.oneCell', Gs.cv, Gs.fv, Gs.ie]; done)) h_b31 (by first | exact Nat.le_of_ble_eq_true rfl | (simp; done) | omega) (by rfl) (fun w32 N32 _ U32 => ?_)
            replace own_p := own_p.upd1 U32 na_own_p_b31
            replace own43 := own43.upd1 U32 na_own43_b31
            replace own112 := own112.upd1 U32 na_own112_b31
            replace rd113 := rd113.upd1 U32 na_rd113_b31
            replace rdc113 := rdc113.upd1 U32 na_rdc113_b31
            replace h_bk := U32.get1 h_bk ne_bk_b31
            replace h_bp := U32.get1 h_bp ne_bp_b31
            replace h_bs := U32.get1 h_bs ne_bs_b31
            replace h_b31 := N32
            replace hF := hF.go1 U32 ge_b31
            refine opv_run (notT) ?_
            refine gdff ?_
            refine gdff ?_
            refine opv_F (neI _ _ _ _ _) (fun h => h rfl) ?_
            refine pickf ?_
            refine gdff ?_
            refine gdff ?_
            refine opv_F (neI _ _ _ _ _) (fun h => h rfl) ?_
            refine pickf ?_
            refine gdff ?_
            refine opv_run (fieldAt_eq (off := 3) (by kernel_rfl)) ?_
            refine gdff ?_
            refine opv_run (ldC (by kernel_rfl) h_b31 (by rfl)) ?_
            refine gdff ?_
            refine opv_run (len_sl (by kernel_rfl) _ _ _) ?_
            refine gdff ?_
            refine gdff ?_
            refine opv_run (len_sl (by kernel_rfl) _ _ _) ?_
            refine gdff ?_
            refine opv_run (minI _ _ _ _ _) ?_
            refine gdff ?_
            refine opv_F (neI _ _ _ _ _) (fun h => h (by rw [hil]; omega)) ?_
            refine pickf ?_
            refine gdff ?_
            refine opv_run (fieldAt_eq (off := 2) (by kernel_rfl)) ?_
            refine gdff ?_
            refine opv_run (ldC (by kernel_rfl) h_b31 (by rfl)) ?_
            refine gdff ?_
            refine gdff ?_
            refine opv_run (len_sl (by kernel_rfl) _ _ _) ?_
            refine gdff ?_
            first | refine opv_run (add_i64 _ (by omega)) ?_ | refine opv_run (addI _ _ _ _) ?_
            refine gdff ?_
            refine opv_F (neI _ _ _ _ _) (fun h => h (by rw [hqf.1]; omega)) ?_
            refine pickf ?_
            refine condf ?_
            refine opv_run (len_sl (by kernel_rfl) _ _ _) ?_
            refine opv_dec (eqI _ _ _ _ _) (fun h33 => ?_) (fun h33 => ?_)
            · refine condt ?_
              first | exact ⟨rfl, hF⟩ | exact ⟨by rw [decide_eq_true rfl], hF⟩
            · refine condf ?_
              have htn : tb ≠ [] := fun e => absurd (show ((tb.length : Nat) : Int) = 0 by rw [e]; rfl) (by assumption)
              rw [if_neg htn] at hit
              refine buildSlice_intro (e := 5) (m := 1) (z := #[.int .u8 0]) (by kernel_rfl) (by kernel_rfl) (by rfl) (by decide) (by first | (simp [fillL, splice, repL, Value.cells, Gs.cv, Gs.fv, Gs.ie]; done) | (simp [fillL, splice, repL, Value.cells, Gs.cv, Gs.fv, Gs.ie]; rfl)) (fun b35 w35 e35 h_b35 _ U35 => ?_)
              have ne_bk_b35 : bk ≠ b35 := by have := lt_get h_bk; omega
              have ne_bp_b35 : bp ≠ b35 := by have := lt_get h_bp; omega
              have na_own_p_b35 := own_p.apart e35
              have ne_bs_b35 : bs ≠ b35 := by have := lt_get h_bs; omega
              have na_own43_b35 := own43.apart e35
              have na_own112_b35 := own112.apart e35
              have na_rd113_b35 := rd113.apart e35
              have na_rdc113_b35 := rdc113.apart e35
              have ne_b31_b35 : b31 ≠ b35 := by have := lt_get h_b31; omega
              have ge_b35 : w.heap.size ≤ b35 := by have := hF.size; omega
              replace own_p := own_p.upd0 U35
              replace own43 := own43.upd0 U35
              replace own112 := own112.upd0 U35
              replace rd113 := rd113.upd0 U35
              replace rdc113 := rdc113.upd0 U35
              replace h_bk := U35.get0 h_bk
              replace h_bp := U35.get0 h_bp
              replace h_bs := U35.get0 h_bs
              replace h_b31 := U35.get0 h_b31
              replace hF := hF.go0 U35
              clear e35
              have own_b35 := Own.of_block (B := w.heap.size) (n := 0) (xs := vals .u8 []) (size := 1) h_b35 ge_b35 rfl (by decide)
              have na_h_bk_own_b35 := (show ¬ ownS (.slice (some ⟨b35, 0, none⟩) 0 0) bk from (fun hs => by cases hs; exact ne_bk_b35 rfl))
              have na_h_bp_own_b35 := (show ¬ ownS (.slice (some ⟨b35, 0, none⟩) 0 0) bp from (fun hs => by cases hs; exact ne_bp_b35 rfl))
              have na_own_p_own_b35 := (show ∀ k, ownS _ k → ¬ ownS (.slice (some ⟨b35, 0, none⟩) 0 0) k from (fun k hk hs => by cases hs; exact na_own_p_b35 _ hk rfl))
              have na_h_bs_own_b35 := (show ¬ ownS (.slice (some ⟨b35, 0, none⟩) 0 0) bs from (fun hs => by cases hs; exact ne_bs_b35 rfl))
              have na_own43_own_b35 := (show ∀ k, ownS _ k → ¬ ownS (.slice (some ⟨b35, 0, none⟩) 0 0) k from (fun k hk hs => by cases hs; exact na_own43_b35 _ hk rfl))
              have na_own112_own_b35 := (show ∀ k, ownS _ k → ¬ ownS (.slice (some ⟨b35, 0, none⟩) 0 0) k from (fun k hk hs => by cases hs; exact na_own112_b35 _ hk rfl))
              have na_rd113_own_b35 := (show _ ∨ ∀ k, _ → ¬ ownS (.slice (some ⟨b35, 0, none⟩) 0 0) k from (na_rd113_b35.imp_right fun h k hk hs => by cases hs; exact h _ hk rfl))
              have na_rdc113_own_b35 := (show _ ∨ ∀ k, _ → ¬ ownS (.slice (some ⟨b35, 0, none⟩) 0 0) k from (na_rdc113_b35.imp_right fun h k hk hs => by cases hs; exact h _ hk rfl))
              have na_h_b31_own_b35 := (show ¬ ownS (.slice (some ⟨b35, 0, none⟩) 0 0) b31 from (fun hs => by cases hs; exact ne_b31_b35 rfl))
              refine join_cut (fun g w' => ∃ (v23 : Value), (g 23 = v23) ∧ (Own w.heap.size w' 5 1 v23 (vals .u8 tb)) ∧ (Own w.heap.size w' 5 1 (.slice A43 tb.length c43) (vals .u8 tb)) ∧ (w'.heap[b31]? = some (.cells #[.int .u8 q113.aid, .bool q113.alone, .int .i64 q113.cur, .slice A113 l113.length c113] 48 (0, 0))) ∧ (Rd w' A113 (rows Gs.ie l113)) ∧ (Gs.Cl w' l113) ∧ (Upd no w w')) (fun J3 hJ3 => ?_) (fun gJ3 wJ3 hI => ?_)
              · refine opv_run (fieldAt_eq (off := 3) (by kernel_rfl)) ?_
                refine opv_run (ldC (by kernel_rfl) h_b31 (by rfl)) ?_
                refine idx_rowF (off := 1) Gs.encIt (fun x => .slice x.A x.cs.length x.cp) (fun _ => rfl) (by decide) (by kernel_rfl) (by kernel_rfl) (by kernel_rfl) rd113 (by first | rfl | assumption | omega) (by omega) (by omega) (fun x36 hx36 => ?_)
                try simp only [Int.toNat_natCast] at hx36
                have hi1 := Gs.its_one hit hx36
                refine opv_run (len_sl (by kernel_rfl) _ _ _) ?_
                refine loop_intro (fun g w' => ∃ (k : Nat) (v23 : Value), (g 153 = .int .i64 (k : Int)) ∧ (k ≤ (x36).cs.length) ∧ (g 23 = v23) ∧ (Own w.heap.size w' 5 1 v23 (vals .u8 (tb.take k))) ∧ (∀ k, ownS (.slice A43 tb.length c43) k → ¬ ownS v23 k) ∧ (rows Gs.ie l113 = [] ∨ ∀ k, blkOf A113 k → ¬ ownS v23 k) ∧ (l113 = [] ∨ ∀ k, Gs.clB l113 k → ¬ ownS v23 k) ∧ (Own w.heap.size w' 5 1 (.slice A43 tb.length c43) (vals .u8 tb)) ∧ (w'.heap[b31]? = some (.cells #[.int .u8 q113.aid, .bool q113.alone, .int .i64 q113.cur, .slice A113 l113.length c113] 48 (0, 0))) ∧ (Rd w' A113 (rows Gs.ie l113)) ∧ (Gs.Cl w' l113) ∧ (Upd no w w')) (fun g w' => (x36).cs.length - (RowKit.intOf (g 153)).toNat) ?_ (fun g4 wl4 hI => ?_)
                · exact ⟨0, _, (by first | exact g153 | rfl), Nat.zero_le _, (by first | exact g23 | rfl), (by rw [List.take_zero]; assumption), na_own43_own_b35, na_rd113_own_b35, na_rdc113_own_b35, own43, h_b31, rd113, rdc113, hF⟩
                · obtain ⟨k, v23, g153, hk, g23, own23, ho43, hr113, hc113, own43, h_b31, rd113, rdc113, hF⟩ := hI
                  try rw [g153]
                  try rw [g23]
                  have hcl := congrArg List.length hi1.2
                  rw [List.length_map] at hcl
                  refine opv_dec (lss _ _ _ _) (fun h37 => ?_) (fun h37 => ?_)
                  · refine condt ?_
                    refine idx_rows Gs.encC (by kernel_rfl) (by kernel_rfl) (rdc113.get hx36) (by first | rfl | assumption | omega) (by omega) (by omega) (fun x38 hx38 => ?_)
                    try simp only [Int.toNat_natCast] at hx38
                    refine alloc_intro (cs := (Gs.cv Gs.zc).toArray) (by kernel_rfl) (fun b39 w39 e39 h_b39 _ U39 => ?_)
                    have na_own23_b39 := own23.apart e39
                    have na_own43_b39 := own43.apart e39
                    have ne_b31_b39 : b31 ≠ b39 := by have := lt_get h_b31; omega
                    have na_rd113_b39 := rd113.apart e39
                    have na_rdc113_b39 := rdc113.apart e39
                    have ge_b39 : w.heap.size ≤ b39 := by have := hF.size; omega
                    replace own23 := own23.upd0 U39
                    replace own43 := own43.upd0 U39
                    replace rd113 := rd113.upd0 U39
                    replace rdc113 := rdc113.upd0 U39
                    replace h_b31 := U39.get0 h_b31
                    replace hF := hF.go0 U39
                    clear e39
                    refine store_intro (n := 5) (cs' := (Gs.cv x38).toArray) (by kernel_rfl) (by rfl) (by first | rfl | (simp [Value.cells, Value.oneCell', Gs.cv, Gs.fv, Gs.ie]; done)) h_b39 (by first | exact Nat.le_of_ble_eq_true rfl | (simp; done) | omega) (by rfl) (fun w40 N40 _ U40 => ?_)
                    replace own23 := own23.upd1 U40 na_own23_b39
                    replace own43 := own43.upd1 U40 na_own43_b39
                    replace rd113 := rd113.upd1 U40 na_rd113_b39
                    replace rdc113 := rdc113.upd1 U40 na_rdc113_b39
                    replace h_b31 := U40.get1 h_b31 ne_b31_b39
                    replace h_b39 := N40
                    replace hF := hF.go1 U40 ge_b39
                    refine opv_run (fieldAt_eq (off := 0) (by kernel_rfl)) ?_
                    refine opv_run (ldC (by kernel_rfl) h_b39 (by rfl)) ?_
                    refine buildSlice_intro (e := 5) (m := 1) (z := #[.int .u8 0]) (by kernel_rfl) (by kernel_rfl) (by rfl) (by decide) (by first | (simp [fillL, splice, repL, Value.cells, Gs.cv, Gs.fv, Gs.ie]; done) | (simp [fillL, splice, repL, Value.cells, Gs.cv, Gs.fv, Gs.ie]; rfl)) (fun b41 w41 e41 h_b41 _ U41 => ?_)
                    have na_own23_b41 := own23.apart e41
                    have na_own43_b41 := own43.apart e41
                    have ne_b31_b41 : b31 ≠ b41 := by have := lt_get h_b31; omega
                    have na_rd113_b41 := rd113.apart e41
                    have na_rdc113_b41 := rdc113.apart e41
                    have ne_b39_b41 : b39 ≠ b41 := by have := lt_get h_b39; omega
                    have ge_b41 : w.heap.size ≤ b41 := by have := hF.size; omega
                    replace own23 := own23.upd0 U41
                    replace own43 := own43.upd0 U41
                    replace rd113 := rd113.upd0 U41
                    replace rdc113 := rdc113.upd0 U41
                    replace h_b31 := U41.get0 h_b31
                    replace h_b39 := U41.get0 h_b39
                    replace hF := hF.go0 U41
                    clear e41
                    refine app_introA (e := 5) (size := 1) (bytes := 1) (by kernel_rfl) own23 (Rd.of_blockL h_b41) rfl (by first | (simp [Value.oneCell']; done) | (intro u hu; simp only [List.mem_singleton] at hu; subst hu; rfl) | (simp; intros; subst_vars; rfl)) (by simp only [vals_length, List.length_take, List.length_cons, List.length_nil, List.length_append, List.length_map, List.length_range]; omega) (by have := hF.size; omega) (fun v42 w42 N42 hA42 U42 => ?_)
                    have own23_o := own23
                    have nb42_own43 := ap_own (S' := w41) ho43 own43 hA42
                    have nb42_rd113 := ap_rd (S' := w41) hr113 rd113 hA42
                    have nb42_rdc113 := Gs.ap_rdc (S' := w41) hc113 rdc113 hA42
                    have nc42_b39 : ∀ k, ownS v42 k → k ≠ b39 := fun k hk e => Or.elim (hA42 k hk) (fun h => na_own23_b39 k h e) (fun h => by have := lt_get h_b39; omega)
                    have nc42_b41 : ∀ k, ownS v42 k → k ≠ b41 := fun k hk e => Or.elim (hA42 k hk) (fun h => na_own23_b41 k h e) (fun h => by have := lt_get h_b41; omega)
                    replace own23 := N42
                    replace own43 := own43.updS U42 ho43
                    replace h_b31 := U42.get h_b31 (fun h => by first | (have := Own.ge own23_o h; omega) | exact Own.ne_blk own23_o h_b31 (by decide) _ h rfl | exact Own.not_loop own23_o h_b31 (by assumption) _ h rfl | exact Own.not_def own23_o h_b31 _ h rfl | simp_all)
                    replace rd113 := rd113.updS U42 hr113
                    replace rdc113 := rdc113.updS U42 hc113
                    replace h_b39 := U42.get h_b39 (fun h => na_own23_b39 _ h rfl)
                    replace h_b41 := U42.get h_b41 (fun h => na_own23_b41 _ h rfl)
                    replace hF := hF.go U42 (fun i h hs => by first | exact hs | exact .inl hs | exact .inr hs | (have := (Own.ge own23_o hs).1; omega))
                    clear own23_o
                    first | refine opv_run (add_i64 _ (by omega)) ?_ | refine opv_run (addI _ _ _ _) ?_
                    exact ⟨⟨k + 1, _, (by first | exact g153 | rfl), by omega, (by first | exact g23 | rfl), (by rw [← Gs.take_step (Gs.ch_get (hi1.2 ▸ hx38))]; exact own_snoc own23), (by assumption), (by assumption), (by assumption), own43, h_b31, rd113, rdc113, hF⟩, cnt_lt (by first | rfl | exact g153) rfl (by omega)⟩
                  · refine condf ?_
                    refine hJ3 _ _ ?_
                    exact ⟨_, (by first | exact g23 | rfl), (by rw [List.take_of_length_le (by have := congrArg List.length hi1.2; rw [List.length_map] at this; omega)] at own23; exact own23), own43, h_b31, rd113, rdc113, hF⟩
              · obtain ⟨v23, g23, own23, own43, h_b31, rd113, rdc113, hF⟩ := hI
                try rw [g23]
                obtain ⟨A23, c23, rfl, _⟩ := own23.rd1
                refine opv_run (fieldAt_eq (off := 3) (by kernel_rfl)) ?_
                refine opv_run (ldC (by kernel_rfl) h_b31 (by rfl)) ?_
                refine idx_rowF (off := 0) Gs.encIt (fun x => .int .i64 x.at') (fun _ => rfl) (by decide) (by kernel_rfl) (by kernel_rfl) (by kernel_rfl) rd113 (by first | rfl | assumption | omega) (by omega) (by omega) (fun x43 hx43 => ?_)
                try simp only [Int.toNat_natCast] at hx43
                refine opv_T (eqI _ _ _ _ _) ((Gs.its_one hit hx43).1) ?_
                refine gdtt ?_
                refine gdtt ?_
                refine gdtt ?_
                refine callF_val (c_code_Text own23.rdS (fun y hy => by have := hseen y hy; omega) (by omega)) (fun w44 U44 => ?_)
                replace own23 := own23.upd0 U44
                replace own43 := own43.upd0 U44
                replace rd113 := rd113.upd0 U44
                replace rdc113 := rdc113.upd0 U44
                replace h_b31 := U44.get0 h_b31
                replace hF := hF.go0 U44
                refine gdtt ?_
                refine gdtt ?_
                refine gdtt ?_
                refine callF_val (c_code_Text own43.rdS (fun y hy => by have := hseen y hy; omega) (by omega)) (fun w45 U45 => ?_)
                replace own23 := own23.upd0 U45
                replace own43 := own43.upd0 U45
                replace rd113 := rd113.upd0 U45
                replace rdc113 := rdc113.upd0 U45
                replace h_b31 := U45.get0 h_b31
                replace hF := hF.go0 U45
                refine gdtt ?_
                refine opv_run (eqS _ _ _ _) ?_
                refine pickt ?_
                first | exact ⟨rfl, hF⟩ | exact ⟨by rw [decide_eq_true rfl], hF⟩
    · replace h_gT := U4.get0 h_gT
      replace hF := hF.go0 U4
      try simp only [decide_eq_true_eq, decide_eq_false_iff_not] at h4
      refine gdff ?_
      refine opv_run (notF) ?_
      refine pickf ?_
      refine gdtf ?_
      refine gdtf ?_
      refine pickt ?_
      refine condt ?_
      first | exact ⟨rfl, hF⟩ | exact ⟨by rw [decide_eq_true rfl], hF⟩

end Go.Proofs.YtjdoakbadehicaaGreatDoor
