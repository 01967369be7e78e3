/-
  3 texts in one: what each theorem says stands at it. No condition but the ones that each states.
-/
import Derived.Test.YtjdoakbadehicaaGreatDoorGramMem2
import Derived.Test.YtjdoakbadehicaaGreatDoorPlaneText
import Derived.Test.YtjdoakbadehicaaGreatDoorPlaneFind
import Derived.Lib.LaidTab
import Derived.Lib.AppendIntMem
import Derived.KernelRfl
set_option linter.unusedVariables false
namespace Gs
open Go Go.Sh
def itP (p : Int) : ByteArray := if p = -1 then ⟨#[42]⟩ else itoaS p
def sgB (page : Int) (c : Cell) : List UInt8 := (Utf8.encode (sign1 page c)).data.toList
def itHd (p : Int) : ByteArray := ⟨#[32]⟩ ++ itP p ++ ⟨#[61]⟩
def itL (page : Int) (x : Int × List Cell) : List UInt8 := (itHd x.1).data.toList ++ x.2.flatMap (sgB page)
def hdS (a cur : Int) : ByteArray := nameS a ++ ⟨#[32, 64]⟩ ++ itoaS cur
def txtL (page : Int) (i : Inb) : List UInt8 := if i.alone = true then (nameS i.aid).data.toList else (hdS i.aid i.cur).data.toList ++ i.items.flatMap (itL page)
theorem flat_step {α β : Type} {f : α → List β} {l : List α} {k : Nat} {x : α} (hx : l[k]? = some x) : (l.take (k + 1)).flatMap f = (l.take k).flatMap f ++ f x := by
  rw [List.take_add_one, hx]; simp
theorem flat_len {α β : Type} {f : α → List β} {m : Nat} {l : List α} (h : ∀ x ∈ l, (f x).length ≤ m) : (l.flatMap f).length ≤ m * l.length := by
  induction l with
  | nil => simp
  | cons a l ih =>
    have h1 := h a (List.mem_cons_self ..)
    have h2 := ih fun x hx => h x (List.mem_cons_of_mem _ hx)
    simp only [List.flatMap_cons, List.length_append, List.length_cons, Nat.mul_add, Nat.mul_one]; omega
theorem its_tk {l : List It} {k : Nat} {x : It} (hx : l[k]? = some x) (page : Int) : (its (l.take (k + 1))).flatMap (itL page) = (its (l.take k)).flatMap (itL page) ++ ((⟨#[32]⟩ ++ itP x.at' ++ ⟨#[61]⟩ : ByteArray).data.toList ++ x.cs.flatMap (sgB page)) := by
  have e : its (l.take (k + 1)) = its (l.take k) ++ [(x.at', x.cs)] := by rw [List.take_add_one, hx]; simp [its]
  rw [e]; simp [itL, itHd]
theorem itP_size {p : Int} (h : -9223372036854775808 ≤ p ∧ p ≤ 9223372036854775807) : (itP p).size ≤ 21 := by
  unfold itP; split
  · decide
  · exact itoaS_size h
theorem size_app (a b : ByteArray) : (a ++ b).size = a.size + b.size := by simp
theorem size_data (a : ByteArray) : a.data.toList.length = a.size := by simp
theorem size_32 : (⟨#[32]⟩ : ByteArray).size = 1 := rfl
theorem size_61 : (⟨#[61]⟩ : ByteArray).size = 1 := rfl
theorem size_3264 : (⟨#[32, 64]⟩ : ByteArray).size = 2 := rfl
theorem txt_al {page : Int} {i : Inb} (h : i.alone = true) : txtL page i = (nameS i.aid).data.toList := if_pos h
theorem txt_na {page : Int} {i : Inb} (h : i.alone = false) : txtL page i = (hdS i.aid i.cur).data.toList ++ i.items.flatMap (itL page) := if_neg (by rw [h]; decide)
theorem str_eq (s : ByteArray) : s = ⟨s.data.toList.toArray⟩ := by cases s; simp
theorem sgB_len {page : Int} {c : Cell} (h : 0 ≤ c.b ∧ c.b ≤ 255) : (sgB page c).length ≤ 4 := by
  unfold sgB; rw [(sgn_ok (sgn_sign1 h)).1]; exact encode_le _
theorem sgE_size {page : Int} {c : Cell} (h : 0 ≤ c.b ∧ c.b ≤ 255) : (Utf8.encode (sign1 page c)).size ≤ 4 := by have := sgB_len (page := page) h; simpa [sgB] using this
theorem sgs_len {page : Int} {xs : List Cell} {k : Nat} (h : Cws xs) : ((xs.take k).flatMap (sgB page)).length ≤ 4 * k := by
  have h1 := flat_len (f := sgB page) (m := 4) (l := xs.take k) fun x hx => sgB_len (h x (List.mem_of_mem_take hx))
  have h2 := List.length_take_le k xs
  omega
theorem hdS_size {a cur : Int} (ha : 0 ≤ a ∧ a ≤ 255) (hc : -9223372036854775808 ≤ cur ∧ cur ≤ 9223372036854775807) : (hdS a cur).size ≤ 123 := by
  have h1 := nameS_size ha; have h2 := itoaS_size hc
  unfold hdS; simp only [size_app, size_3264]; omega
theorem itL_len {page : Int} {x : It} (hp : -9223372036854775808 ≤ x.at' ∧ x.at' ≤ 9223372036854775807) (hw : Cws x.cs) (hc : x.cs.length ≤ 100000) : (itL page (x.at', x.cs)).length ≤ 400023 := by
  have h1 := itP_size hp
  have h2 := flat_len (f := sgB page) (m := 4) (l := x.cs) fun c hc => sgB_len (hw c hc)
  unfold itL itHd
  simp only [List.length_append, size_data, size_app, size_32, size_61]; omega
theorem itsL_len {page : Int} {l : List It} (hw : Iw l) (hp : ∀ x ∈ l, -9223372036854775808 ≤ x.at' ∧ x.at' ≤ 9223372036854775807) (hc : ∀ x ∈ l, x.cs.length ≤ 100000) (k : Nat) : ((its (l.take k)).flatMap (itL page)).length ≤ 400023 * k := by
  have h1 := flat_len (f := itL page) (m := 400023) (l := its (l.take k)) fun y hy => by
    obtain ⟨x, hx, rfl⟩ := List.mem_map.1 hy
    have hm := List.mem_of_mem_take hx
    exact itL_len (hp x hm) (hw x hm) (hc x hm)
  rw [its_len] at h1
  have h2 := List.length_take_le k l
  omega
theorem ba_app (l : List UInt8) (s : ByteArray) : (⟨l.toArray⟩ : ByteArray) ++ s = ⟨(l ++ s.data.toList).toArray⟩ := by ext1; simp
theorem ba_size (l : List UInt8) : (⟨l.toArray⟩ : ByteArray).size = l.length := rfl
theorem ba_0 (s : ByteArray) : s = ⟨(s.data.toList ++ ([] : List UInt8)).toArray⟩ := (str_eq s).trans (by rw [List.append_nil])
theorem ba_hd (a b c : ByteArray) (l : List UInt8) : ((⟨l.toArray⟩ ++ a) ++ b) ++ c = (⟨(l ++ (a ++ b ++ c).data.toList).toArray⟩ : ByteArray) := by ext1; simp
theorem ba_hd1 {p : Int} (h : p = -1) (l : List UInt8) : (⟨l.toArray⟩ : ByteArray) ++ ⟨#[32, 42, 61]⟩ = ⟨(l ++ (⟨#[32]⟩ ++ itP p ++ ⟨#[61]⟩ : ByteArray).data.toList).toArray⟩ := by
  rw [itP, if_pos h, ba_app]; rfl
theorem ba_hd2 {p : Int} (h : ¬ p = -1) (l : List UInt8) : ((⟨l.toArray⟩ ++ ⟨#[32]⟩) ++ itoaS p) ++ ⟨#[61]⟩ = (⟨(l ++ (⟨#[32]⟩ ++ itP p ++ ⟨#[61]⟩ : ByteArray).data.toList).toArray⟩ : ByteArray) := by
  rw [itP, if_neg h]; exact ba_hd _ _ _ _
theorem name_1 {b : Int} (h : attS b = ⟨#[]⟩) : hexS b = nameS b := by unfold nameS; rw [if_pos h]
theorem name_2 {b : Int} (h : ¬ attS b = ⟨#[]⟩) : attS b = nameS b := by unfold nameS; rw [if_neg h]
def powT : Array Value := (Lib.pow10Tab.map fun z => Value.int .u64 z).toArray
end Gs
namespace Go.Sh
open Go
theorem quo_u8 {P : Program} {w : World} (t : TypeId) {x y : Int} (hx : 0 ≤ x ∧ x ≤ 255) (h : 0 < y ∧ y ≤ 255) : (binOp .quo t (.int .u8 x) (.int .u8 y)).run P w = .ok (.int .u8 (x / y)) w := by
  have hy : ¬ y = 0 := by omega
  have h1 := Int.ediv_nonneg hx.1 (show 0 ≤ y by omega)
  have h2 := Int.ediv_le_self y hx.1
  simp [go_sem, binOp, Op.intArith, hy]
  rw [Int.tdiv_eq_ediv_of_nonneg hx.1, wrap_in (k := .u8) ⟨h1, Int.le_trans h2 hx.2⟩]
theorem tab_of {P : Program} {w : World} {g : Nat} {e : TypeId} {f : Nat × Nat} (hg : P.globalNamed "internal/strconv.uint64pow10" = some g) (h : w.heap[g]? = some (.cells Gs.powT e f)) : Lib.TabIs P w "internal/strconv.uint64pow10" .u64 Lib.pow10Tab := by
  unfold Lib.TabIs World.var?; rw [hg]; simp only [Option.bind_some, h]; rfl
theorem of_tab {P : Program} {w : World} (h : Lib.TabIs P w "internal/strconv.uint64pow10" .u64 Lib.pow10Tab) : ∃ g e f, P.globalNamed "internal/strconv.uint64pow10" = some g ∧ w.heap[g]? = some (.cells Gs.powT e f) := by
  unfold Lib.TabIs World.var? at h
  cases hg : P.globalNamed "internal/strconv.uint64pow10" with
  | none => rw [hg] at h; cases h
  | some g =>
    rw [hg] at h
    simp only [Option.bind_some] at h
    split at h
    · rename_i cs e f hh
      cases h
      exact ⟨g, e, f, rfl, hh⟩
    · cases h
end Go.Sh
set_option linter.unusedVariables false
namespace Gs
open Go Go.Sh
theorem cellsF_sum : ∀ {l : List Int} {xs : List Cell} {r : List Int}, cellsF l = .ok (xs, r) → xs.length + r.length ≤ l.length
  | l, xs, r, h => by
    unfold cellsF at h
    split at h
    · cases h; simp
    · split at h
      · cases h
      · rename_i x r1 h1
        split at h
        · cases h
        · rename_i xs2 r2 h2
          cases h
          have hl := cellF_len h1
          have := cellsF_sum h2
          simp only [List.length_cons]; omega
termination_by l => l.length
decreasing_by assumption
theorem itemF_sum {l : List Int} {x : Int × List Cell} {r : List Int} (h : itemF l = .ok (x, r)) : x.2.length + r.length ≤ l.length := by
  unfold itemF at h
  split at h
  · split at h
    · cases h
    · rename_i h1
      split at h
      · cases h
      · rename_i h2
        cases h
        have a := placeF_len h1
        have b := cellsF_sum h2
        have : l.tail.length ≤ l.length := by simp
        dsimp only; omega
  · split at h
    · cases h
    · rename_i h2
      cases h
      exact cellsF_sum h2
def wsum (xs : List (Int × List Cell)) : Nat := (xs.map fun x => 3 + 2 * x.2.length).sum
theorem itemsF_sum : ∀ {l : List Int} {xs : List (Int × List Cell)}, itemsF l = .ok xs → wsum xs ≤ 5 * l.length
  | l, xs, h => by
    unfold itemsF at h
    split at h
    · cases h; simp [wsum]
    · rename_i hne
      split at h
      · cases h
      · rename_i x r h1
        split at h
        · cases h
        · rename_i xs2 h2
          cases h
          have hl := itemF_len hne h1
          have h3 := itemF_sum h1
          have h4 := itemsF_sum h2
          simp only [wsum, List.map_cons, List.sum_cons] at h4 ⊢; omega
termination_by l => l.length
decreasing_by assumption
theorem inbF_sum {l : List Int} {q : Inb} (h : inbF l = .ok q) : wsum q.items ≤ 5 * l.length := by
  cases l with
  | nil => cases h
  | cons a r =>
    change (if r = [] then Except.ok ⟨a, true, 0, []⟩ else match placeF r with | .error e => .error e | .ok (c, r') => match itemsF r' with | .error e => .error e | .ok xs => .ok ⟨a, false, c, xs⟩) = Except.ok q at h
    split at h
    · cases h; exact Nat.zero_le _
    · split at h
      · cases h
      · rename_i hp
        split at h
        · cases h
        · rename_i hx
          cases h
          have h1 := placeF_len hp
          have h2 := itemsF_sum hx
          simp only [List.length_cons]; omega
theorem wsum_mem {xs : List (Int × List Cell)} {x : Int × List Cell} (h : x ∈ xs) : 3 + 2 * x.2.length ≤ wsum xs := by
  induction xs with
  | nil => cases h
  | cons y xs ih =>
    simp only [wsum, List.map_cons, List.sum_cons] at ih ⊢
    rcases List.mem_cons.1 h with rfl | h
    · omega
    · have := ih h; omega
theorem wsum_len (xs : List (Int × List Cell)) : xs.length ≤ wsum xs := by
  induction xs with
  | nil => simp
  | cons x xs ih => simp only [wsum, List.map_cons, List.sum_cons, List.length_cons] at ih ⊢; omega
theorem wsum_le {m : Nat} {xs : List (Int × List Cell)} (h : ∀ x ∈ xs, x.2.length ≤ m) : wsum xs ≤ (3 + 2 * m) * xs.length := by
  induction xs with
  | nil => simp [wsum]
  | cons x xs ih =>
    have h1 := h x (List.mem_cons_self ..)
    have h2 := ih fun y hy => h y (List.mem_cons_of_mem _ hy)
    simp only [wsum, List.map_cons, List.sum_cons, List.length_cons, Nat.mul_add, Nat.mul_one] at h2 ⊢; omega
theorem itemW_len2 {x : Int × List Cell} {f : Bool} {n : Int} {l : List Int} (h : itemW x f n = .ok l) : l.length ≤ 3 + 2 * x.2.length := by
  have := itemW_len (x := x) (f := f) (n := n); rw [h] at this; simp only [okL] at this; omega
theorem itemsW_len {n : Int} : ∀ {xs : List (Int × List Cell)} {f : Bool} {l : List Int}, itemsW n f xs = .ok l → l.length ≤ wsum xs
  | [], f, l, h => by cases h; simp
  | x :: xs, f, l, h => by
    unfold itemsW at h
    split at h
    · cases h
    · rename_i l1 h1
      split at h
      · cases h
      · rename_i k h2
        cases h
        have a := itemW_len2 h1
        have b := itemsW_len h2
        simp only [wsum, List.map_cons, List.sum_cons, List.length_append] at b ⊢; omega
theorem writeM_len {i : Inb} {n : Int} {l : List Int} (h : writeM i n = .ok l) : l.length ≤ 3 + wsum i.items := by
  unfold writeM at h
  split at h
  · cases h; simp; omega
  · split at h
    · cases h
    · split at h
      · cases h
      · rename_i h2
        cases h
        have := itemsW_len h2
        simp only [List.length_cons]; omega
theorem Bs_app {a b : List Int} (ha : Bs a) (hb : Bs b) : Bs (a ++ b) := fun x hx => (List.mem_append.1 hx).elim (ha x) (hb x)
theorem Bs_cons {a : Int} {b : List Int} (ha : 0 ≤ a ∧ a ≤ 255) (hb : Bs b) : Bs (a :: b) := fun x hx => (List.mem_cons.1 hx).elim (fun e => e ▸ ha) (hb x)
theorem Bs_nil : Bs [] := fun x hx => by cases hx
theorem cellsW_Bs : ∀ {xs : List Cell} {l : List Int}, Cws xs → cellsW xs = .ok l → Bs l
  | [], l, _, h => by cases h; exact Bs_nil
  | c :: xs, l, hw, h => by
    unfold cellsW at h
    split at h
    · split at h
      · cases h
      · rename_i k hk
        cases h
        have hc := hw c (List.mem_cons_self ..)
        refine Bs_app ?_ (cellsW_Bs (fun x hx => hw x (List.mem_cons_of_mem _ hx)) hk)
        unfold cellW; split
        · exact Bs_cons (by decide) (Bs_cons hc Bs_nil)
        · exact Bs_cons hc Bs_nil
    · cases h
theorem enc_Bs {p n a b : Int} {l : List Int} (h : encodeM p n = some (a, b)) (hl : Bs l) : Bs (a :: b :: l) := by
  obtain ⟨_, h1, h2, h3, h4, _⟩ := dec_enc h
  exact Bs_cons ⟨h1, h2⟩ (Bs_cons ⟨h3, h4⟩ hl)
theorem itemW_Bs {x : Int × List Cell} {f : Bool} {n : Int} {l : List Int} (hw : Cws x.2) (h : itemW x f n = .ok l) : Bs l := by
  unfold itemW at h
  split at h
  · split at h
    · cases h
    · rename_i he
      split at h
      · cases h
      · rename_i hk; cases h; exact Bs_cons (by decide) (enc_Bs he (cellsW_Bs hw hk))
  · exact cellsW_Bs hw h
theorem itemsW_Bs {n : Int} : ∀ {xs : List (Int × List Cell)} {f : Bool} {l : List Int}, (∀ x ∈ xs, Cws x.2) → itemsW n f xs = .ok l → Bs l
  | [], f, l, _, h => by cases h; exact Bs_nil
  | x :: xs, f, l, hw, h => by
    unfold itemsW at h
    split at h
    · cases h
    · rename_i l1 h1
      split at h
      · cases h
      · rename_i k h2
        cases h
        exact Bs_app (itemW_Bs (hw x (List.mem_cons_self ..)) h1) (itemsW_Bs (fun y hy => hw y (List.mem_cons_of_mem _ hy)) h2)
theorem writeM_Bs {i : Inb} {n : Int} {l : List Int} (ha : 0 ≤ i.aid ∧ i.aid ≤ 255) (hw : ∀ x ∈ i.items, Cws x.2) (h : writeM i n = .ok l) : Bs l := by
  unfold writeM at h
  split at h
  · cases h; exact Bs_cons ha Bs_nil
  · split at h
    · cases h
    · rename_i he
      split at h
      · cases h
      · rename_i h2; cases h; exact Bs_cons ha (enc_Bs he (itemsW_Bs hw h2))
theorem its_Cws {l : List It} (h : Iw l) : ∀ x ∈ its l, Cws x.2 := fun x hx => by
  obtain ⟨y, hy, rfl⟩ := List.mem_map.1 hx
  exact h y hy
theorem its_mem {l : List It} {x : It} (h : x ∈ l) : (x.at', x.cs) ∈ its l := List.mem_map.2 ⟨x, h, rfl⟩
/-- What is written is put in order: what the law does with what it wrote. -/
theorem norm_al {i : Inb} (h : i.alone = true) : normM i = ⟨i.aid, true, 0, []⟩ := if_pos h
theorem norm_na {i : Inb} (h : i.alone = false) : normM i = ⟨i.aid, false, i.cur, normI i.items⟩ := if_neg (by rw [h]; decide)
theorem normI_0 : normI [] = [] := rfl
theorem normI_c (x : Int × List Cell) (xs : List (Int × List Cell)) : normI (x :: xs) = if x.1 = -1 ∧ x.2 = [] then xs else x :: xs := rfl
theorem cellF_err {l : List Int} {e : Int} (h : cellF l = .error e) : e ≠ 0 := by
  unfold cellF at h
  repeat' split at h
  all_goals first
    | (cases h; decide)
    | cases h
theorem cellsF_err0 : ∀ {l : List Int} {e : Int}, cellsF l = .error e → e ≠ 0
  | l, e, h => by
    unfold cellsF at h
    split at h
    · cases h
    · split at h
      · rename_i h1; cases h; exact cellF_err h1
      · rename_i x r1 h1
        have hl := cellF_len h1
        split at h
        · rename_i h2; cases h; exact cellsF_err0 h2
        · cases h
termination_by l => l.length
decreasing_by assumption
theorem placeF_err {l : List Int} {e : Int} (h : placeF l = .error e) : e ≠ 0 := by
  unfold placeF at h
  split at h
  · cases h
  · cases h; decide
theorem itemF_err0 {l : List Int} {e : Int} (h : itemF l = .error e) : e ≠ 0 := by
  unfold itemF at h
  split at h
  · split at h
    · rename_i h1; cases h; exact placeF_err h1
    · split at h
      · rename_i h2; cases h; exact cellsF_err0 h2
      · cases h
  · split at h
    · rename_i h2; cases h; exact cellsF_err0 h2
    · cases h
theorem itemsF_err0 : ∀ {l : List Int} {e : Int}, itemsF l = .error e → e ≠ 0
  | l, e, h => by
    unfold itemsF at h
    split at h
    · cases h
    · rename_i hne
      split at h
      · rename_i h1; cases h; exact itemF_err0 h1
      · rename_i x r h1
        have hl := itemF_len hne h1
        split at h
        · rename_i h2; cases h; exact itemsF_err0 h2
        · cases h
termination_by l => l.length
decreasing_by assumption
theorem inbF_err0 {l : List Int} {e : Int} (h : inbF l = .error e) : e ≠ 0 := by
  cases l with
  | nil => cases h; decide
  | cons a r =>
    change (if r = [] then (Except.ok (⟨a, true, 0, []⟩ : Inb) : Except Int Inb) else match placeF r with | .error e => .error e | .ok (c, r') => match itemsF r' with | .error e => .error e | .ok xs => .ok ⟨a, false, c, xs⟩) = Except.error e at h
    split at h
    · cases h
    · split at h
      · rename_i hp; cases h; exact placeF_err hp
      · split at h
        · rename_i hx; cases h; exact itemsF_err0 hx
        · cases h
theorem inb_ok0 {l : List Int} (h : errV (inbF l) = 0) : inbF l = .ok (inbV l) := by
  cases hr : inbF l with
  | ok q => unfold inbV; rw [hr]
  | error e => rw [hr] at h; exact absurd h (inbF_err0 hr)
theorem inb_er0 {l : List Int} (h : errV (inbF l) ≠ 0) : inbV l = zinb := by
  cases hr : inbF l with
  | ok q => rw [hr] at h; exact absurd rfl h
  | error e => unfold inbV; rw [hr]
theorem itemsW_err {n : Int} : ∀ {xs : List (Int × List Cell)} {f : Bool} {e : Int}, itemsW n f xs = .error e → e ≠ 0
  | [], f, e, h => by cases h
  | x :: xs, f, e, h => by
    unfold itemsW at h
    split at h
    · rename_i h1; cases h; exact itemW_err h1
    · split at h
      · rename_i h2; cases h; exact itemsW_err h2
      · cases h
theorem writeM_err {i : Inb} {n e : Int} (h : writeM i n = .error e) : e ≠ 0 := by
  unfold writeM at h
  split at h
  · cases h
  · split at h
    · cases h; decide
    · split at h
      · rename_i h2; cases h; exact itemsW_err h2
      · cases h
theorem write_ok0 {i : Inb} {n : Int} (h : errV (writeM i n) = 0) : writeM i n = .ok (okL (writeM i n)) := by
  cases hr : writeM i n with
  | ok l => rfl
  | error e => rw [hr] at h; exact absurd h (writeM_err hr)
theorem norm_z {l : List It} (h : ¬ (0 : Int) < (l.length : Nat)) : normI (its l) = its l := by
  cases l with
  | nil => rfl
  | cons x l => exact absurd (show (0 : Int) < ((x :: l).length : Nat) by simp only [List.length_cons]; omega) h
theorem norm_p {l : List It} {x : It} (hx : l[0]? = some x) (h : ¬ x.at' = -1) : normI (its l) = its l := by
  cases l with
  | nil => rfl
  | cons y l => cases hx; exact if_neg fun e => h e.1
theorem norm_c {l : List It} {x : It} (hx : l[0]? = some x) (h : ¬ ((x.cs.length : Nat) : Int) = 0) : normI (its l) = its l := by
  cases l with
  | nil => rfl
  | cons y l => cases hx; exact if_neg fun e => h (by have := congrArg List.length e.2; simp only [List.length_nil] at this; rw [this]; rfl)
theorem norm_t {l : List It} {x y : It} (hx : l[0]? = some x) (h : x.at' = -1) (hy : l[0]? = some y) (hc : ((y.cs.length : Nat) : Int) = 0) : normI (its l) = its (l.drop 1) := by
  cases l with
  | nil => rfl
  | cons z l => cases hx; cases hy; exact if_pos ⟨h, List.length_eq_zero_iff.1 (by dsimp only; omega)⟩
theorem its_wsum {l : List It} {m : Nat} (h : wsum (its l) ≤ m) : l.length ≤ m ∧ ∀ x ∈ l, x.cs.length ≤ m := by
  refine ⟨?_, fun x hx => ?_⟩
  · have := wsum_len (its l); rw [its_len] at this; omega
  · have := wsum_mem (its_mem hx); dsimp only at this; omega
theorem few_of {l : List It} (h : fewB l = true) : l.length ≤ 20 ∧ ∀ x ∈ l, x.cs.length ≤ 60 := by simpa [fewB] using h
theorem few_wsum {l : List It} (h : l.length ≤ 20 ∧ ∀ x ∈ l, x.cs.length ≤ 60) : wsum (its l) ≤ 2460 := by
  have h2 := wsum_le (xs := its l) (m := 60) fun y hy => by
    obtain ⟨x, hx, rfl⟩ := List.mem_map.1 hy
    exact h.2 x hx
  rw [its_len] at h2; omega
end Gs
namespace Go.Sh
open Go
variable {P : Program} {R : Ending → World → Prop} {K : Value → World → Prop} {w : World}
theorem sliceLoR {α : Type} {f : α → List Value} {t m n cap : Nat} (hf : Enc f m) {A : Option Addr} {l : List α} {k1 : IntKind} {lo : Int} (ht : slN P t = some m) (hr : Rd w A (rows f l)) (hl : n = l.length) (h0 : 0 ≤ lo) (h1 : lo ≤ n) (hc : n ≤ cap)
    (h : ∀ A', Rd w A' (rows f (l.drop lo.toNat)) → (∀ k, blkOf A' k → blkOf A k) → K (.slice A' (n - lo.toNat) (cap - lo.toNat)) w) :
    opv ((Instr.sliceAt t (.slice A n cap) (some (.int k1 lo)) none none).run P w) R K := by
  unfold slN at ht
  split at ht
  · rename_i e hu
    have hel : P.elem t = e := by simp [Program.elem, hu]
    have hu' : P.underlying t = some (.slice (P.elem t)) := by rw [hel]; exact hu
    have hr1 := run_slice_l (P := P) w t A n cap hu' k1 lo h0 h1
    rw [run_cellsN (P := P) (w := w) (by rw [hel]; exact ht)] at hr1
    have hr2 := run_sliceAt_slice (P := P) w t (.slice A n cap) (some (.int k1 lo)) none none hu'
    rw [hr1] at hr2
    refine opv_run (v := sliced A lo.toNat n cap m) (w' := w) hr2 (h _ ?_ ?_)
    · subst hl
      rw [← rows_drop hf]
      by_cases he : cap = lo.toNat
      · have : lo.toNat = l.length := by omega
        left
        exact List.drop_eq_nil_of_le (by rw [rows_len hf, this]; exact Nat.le_refl _)
      · rw [if_neg he]
        cases A with
        | none =>
          rcases hr with hx | ⟨a, ha, _⟩
          · left; rw [hx]; simp
          · cases ha
        | some a => exact hr.drop _
    · intro k hk
      split at hk
      · exact hk
      · obtain ⟨a, ha, rfl⟩ := hk
        cases A with
        | none => cases ha
        | some a0 => cases ha; exact ⟨a0, rfl, by rw [add_block]⟩
  · cases ht
end Go.Sh
set_option linter.unusedVariables false
namespace Gs
open Go Go.Sh
def aL1 : List Int := [125, 64, 194, 17, 64, 193, 193]
def aI1 : Inb := ⟨125, false, 2, [(1, [⟨193, false, false, 0, 0⟩])]⟩
theorem al_1 : inbF [125, 64, 194, 17, 64, 193, 193] = .ok aI1 := by
  rw [inbF_3]
  have h : itemsF [17, 64, 193, 193] = .ok [(1, [⟨193, false, false, 0, 0⟩])] := (itemsF_W (n := 6) (xs := [(1, [⟨193, false, false, 0, 0⟩])]) (by rfl)).1
  rw [h]; rfl
theorem al_2 : inbF [108] = .ok ⟨108, true, 0, []⟩ := rfl
theorem al_3 : inbF [125, 64] = .error 20 := rfl
theorem al_w : writeM aI1 6 = .ok [125, 64, 194, 17, 64, 193, 193] := by kernel_rfl
theorem al_t1 : txtL 37 aI1 = [69, 78, 84, 69, 82, 32, 64, 50, 32, 49, 61, 65] := by decide +kernel
theorem al_t2 : txtL 37 ⟨108, true, 0, []⟩ = [80, 65, 49] := by decide +kernel
theorem al_b : bufF [96, 64, 64, 29, 240, 193] = .ok (96, 0, [⟨48, false, true, 0, 0⟩, ⟨193, false, false, 0, 0⟩]) := by
  have h2 : bcellsF [193] = .ok [⟨193, false, false, 0, 0⟩] := by
    rw [bcellsF_on (l := [193]) (r := []) (x := ⟨193, false, false, 0, 0⟩) (by decide) (by rfl)]
    have : bcellsF [] = .ok [] := by unfold bcellsF; simp
    rw [this]; rfl
  have h1 : bcellsF [29, 240, 193] = .ok [⟨48, false, true, 0, 0⟩, ⟨193, false, false, 0, 0⟩] := by
    rw [bcellsF_on (l := [29, 240, 193]) (r := [193]) (x := ⟨48, false, true, 0, 0⟩) (by decide) (by rfl), h2]; rfl
  exact bufF_ok (r := [64, 64, 29, 240, 193]) (r2 := [29, 240, 193]) rfl rfl h1
theorem its_of {l : List It} {L : List (Int × List Cell)} (h : its l = L) {p : Int → List Cell → Prop} (hp : ∀ y ∈ L, p y.1 y.2) : ∀ x ∈ l, p x.at' x.cs := fun x hx => hp (x.at', x.cs) (by rw [← h]; exact List.mem_map.2 ⟨x, hx, rfl⟩)
end Gs
