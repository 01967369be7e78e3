/-
  Texts of what is sent, in plain Lean. No condition.
-/
import Derived.Test.YtkjkmahpkfbbnaaGreatDoorGramMem2
import Derived.Test.YtkjkmahpkfbbnaaGreatDoorPlaneText
import Derived.Test.YtkjkmahpkfbbnaaGreatDoorPlaneFind
import Derived.Lib.LaidTab
import Derived.Lib.AppendIntMem
set_option linter.unusedVariables false
namespace Gs
open Go Go.Sh
def itP (p : Int) : ByteArray := if p = -1 then ⟨#[42]⟩ else itoaS p
def sgB (page : Int) (c : Cell) : List UInt8 := (Utf8.encode (sign1 page c)).data.toList
def itHd (p : Int) : ByteArray := ⟨#[32]⟩ ++ itP p ++ ⟨#[61]⟩
def itL (page : Int) (x : Int × List Cell) : List UInt8 := (itHd x.1).data.toList ++ x.2.flatMap (sgB page)
def hdS (a cur : Int) : ByteArray := nameS a ++ ⟨#[32, 64]⟩ ++ itoaS cur
def txtL (page : Int) (i : Inb) : List UInt8 := if i.alone = true then (nameS i.aid).data.toList else (hdS i.aid i.cur).data.toList ++ i.items.flatMap (itL page)
theorem flat_step {α β : Type} {f : α → List β} {l : List α} {k : Nat} {x : α} (hx : l[k]? = some x) : (l.take (k + 1)).flatMap f = (l.take k).flatMap f ++ f x := by
  rw [List.take_add_one, hx]; simp
theorem flat_len {α β : Type} {f : α → List β} {m : Nat} {l : List α} (h : ∀ x ∈ l, (f x).length ≤ m) : (l.flatMap f).length ≤ m * l.length := by
  induction l with
  | nil => simp
  | cons a l ih =>
    have h1 := h a (List.mem_cons_self ..)
    have h2 := ih fun x hx => h x (List.mem_cons_of_mem _ hx)
    simp only [List.flatMap_cons, List.length_append, List.length_cons, Nat.mul_add, Nat.mul_one]; omega
theorem its_tk {l : List It} {k : Nat} {x : It} (hx : l[k]? = some x) (page : Int) : (its (l.take (k + 1))).flatMap (itL page) = (its (l.take k)).flatMap (itL page) ++ ((⟨#[32]⟩ ++ itP x.at' ++ ⟨#[61]⟩ : ByteArray).data.toList ++ x.cs.flatMap (sgB page)) := by
  have e : its (l.take (k + 1)) = its (l.take k) ++ [(x.at', x.cs)] := by rw [List.take_add_one, hx]; simp [its]
  rw [e]; simp [itL, itHd]
theorem itP_size {p : Int} (h : -9223372036854775808 ≤ p ∧ p ≤ 9223372036854775807) : (itP p).size ≤ 21 := by
  unfold itP; split
  · decide
  · exact itoaS_size h
theorem size_app (a b : ByteArray) : (a ++ b).size = a.size + b.size := by simp
theorem size_data (a : ByteArray) : a.data.toList.length = a.size := by simp
theorem size_32 : (⟨#[32]⟩ : ByteArray).size = 1 := rfl
theorem size_61 : (⟨#[61]⟩ : ByteArray).size = 1 := rfl
theorem size_3264 : (⟨#[32, 64]⟩ : ByteArray).size = 2 := rfl
theorem txt_al {page : Int} {i : Inb} (h : i.alone = true) : txtL page i = (nameS i.aid).data.toList := if_pos h
theorem txt_na {page : Int} {i : Inb} (h : i.alone = false) : txtL page i = (hdS i.aid i.cur).data.toList ++ i.items.flatMap (itL page) := if_neg (by rw [h]; decide)
theorem str_eq (s : ByteArray) : s = ⟨s.data.toList.toArray⟩ := by cases s; simp
theorem sgB_len {page : Int} {c : Cell} (h : 0 ≤ c.b ∧ c.b ≤ 255) : (sgB page c).length ≤ 4 := by
  unfold sgB; rw [(sgn_ok (sgn_sign1 h)).1]; exact encode_le _
theorem sgE_size {page : Int} {c : Cell} (h : 0 ≤ c.b ∧ c.b ≤ 255) : (Utf8.encode (sign1 page c)).size ≤ 4 := by have := sgB_len (page := page) h; simpa [sgB] using this
theorem sgs_len {page : Int} {xs : List Cell} {k : Nat} (h : Cws xs) : ((xs.take k).flatMap (sgB page)).length ≤ 4 * k := by
  have h1 := flat_len (f := sgB page) (m := 4) (l := xs.take k) fun x hx => sgB_len (h x (List.mem_of_mem_take hx))
  have h2 := List.length_take_le k xs
  omega
theorem hdS_size {a cur : Int} (ha : 0 ≤ a ∧ a ≤ 255) (hc : -9223372036854775808 ≤ cur ∧ cur ≤ 9223372036854775807) : (hdS a cur).size ≤ 123 := by
  have h1 := nameS_size ha; have h2 := itoaS_size hc
  unfold hdS; simp only [size_app, size_3264]; omega
theorem itL_len {page : Int} {x : It} (hp : -9223372036854775808 ≤ x.at' ∧ x.at' ≤ 9223372036854775807) (hw : Cws x.cs) (hc : x.cs.length ≤ 100000) : (itL page (x.at', x.cs)).length ≤ 400023 := by
  have h1 := itP_size hp
  have h2 := flat_len (f := sgB page) (m := 4) (l := x.cs) fun c hc => sgB_len (hw c hc)
  unfold itL itHd
  simp only [List.length_append, size_data, size_app, size_32, size_61]; omega
theorem itsL_len {page : Int} {l : List It} (hw : Iw l) (hp : ∀ x ∈ l, -9223372036854775808 ≤ x.at' ∧ x.at' ≤ 9223372036854775807) (hc : ∀ x ∈ l, x.cs.length ≤ 100000) (k : Nat) : ((its (l.take k)).flatMap (itL page)).length ≤ 400023 * k := by
  have h1 := flat_len (f := itL page) (m := 400023) (l := its (l.take k)) fun y hy => by
    obtain ⟨x, hx, rfl⟩ := List.mem_map.1 hy
    have hm := List.mem_of_mem_take hx
    exact itL_len (hp x hm) (hw x hm) (hc x hm)
  rw [its_len] at h1
  have h2 := List.length_take_le k l
  omega
theorem ba_app (l : List UInt8) (s : ByteArray) : (⟨l.toArray⟩ : ByteArray) ++ s = ⟨(l ++ s.data.toList).toArray⟩ := by ext1; simp
theorem ba_size (l : List UInt8) : (⟨l.toArray⟩ : ByteArray).size = l.length := rfl
theorem ba_0 (s : ByteArray) : s = ⟨(s.data.toList ++ ([] : List UInt8)).toArray⟩ := (str_eq s).trans (by rw [List.append_nil])
theorem ba_hd (a b c : ByteArray) (l : List UInt8) : ((⟨l.toArray⟩ ++ a) ++ b) ++ c = (⟨(l ++ (a ++ b ++ c).data.toList).toArray⟩ : ByteArray) := by ext1; simp
theorem ba_hd1 {p : Int} (h : p = -1) (l : List UInt8) : (⟨l.toArray⟩ : ByteArray) ++ ⟨#[32, 42, 61]⟩ = ⟨(l ++ (⟨#[32]⟩ ++ itP p ++ ⟨#[61]⟩ : ByteArray).data.toList).toArray⟩ := by
  rw [itP, if_pos h, ba_app]; rfl
theorem ba_hd2 {p : Int} (h : ¬ p = -1) (l : List UInt8) : ((⟨l.toArray⟩ ++ ⟨#[32]⟩) ++ itoaS p) ++ ⟨#[61]⟩ = (⟨(l ++ (⟨#[32]⟩ ++ itP p ++ ⟨#[61]⟩ : ByteArray).data.toList).toArray⟩ : ByteArray) := by
  rw [itP, if_neg h]; exact ba_hd _ _ _ _
theorem name_1 {b : Int} (h : attS b = ⟨#[]⟩) : hexS b = nameS b := by unfold nameS; rw [if_pos h]
theorem name_2 {b : Int} (h : ¬ attS b = ⟨#[]⟩) : attS b = nameS b := by unfold nameS; rw [if_neg h]
def powT : Array Value := (Lib.pow10Tab.map fun z => Value.int .u64 z).toArray
end Gs
namespace Go.Sh
open Go
theorem quo_u8 {P : Program} {w : World} (t : TypeId) {x y : Int} (hx : 0 ≤ x ∧ x ≤ 255) (h : 0 < y ∧ y ≤ 255) : (binOp .quo t (.int .u8 x) (.int .u8 y)).run P w = .ok (.int .u8 (x / y)) w := by
  have hy : ¬ y = 0 := by omega
  have h1 := Int.ediv_nonneg hx.1 (show 0 ≤ y by omega)
  have h2 := Int.ediv_le_self y hx.1
  simp [go_sem, binOp, Op.intArith, hy]
  rw [Int.tdiv_eq_ediv_of_nonneg hx.1, wrap_in (k := .u8) ⟨h1, Int.le_trans h2 hx.2⟩]
theorem tab_of {P : Program} {w : World} {g : Nat} {e : TypeId} {f : Nat × Nat} (hg : P.globalNamed "internal/strconv.uint64pow10" = some g) (h : w.heap[g]? = some (.cells Gs.powT e f)) : Lib.TabIs P w "internal/strconv.uint64pow10" .u64 Lib.pow10Tab := by
  unfold Lib.TabIs World.var?; rw [hg]; simp only [Option.bind_some, h]; rfl
theorem of_tab {P : Program} {w : World} (h : Lib.TabIs P w "internal/strconv.uint64pow10" .u64 Lib.pow10Tab) : ∃ g e f, P.globalNamed "internal/strconv.uint64pow10" = some g ∧ w.heap[g]? = some (.cells Gs.powT e f) := by
  unfold Lib.TabIs World.var? at h
  cases hg : P.globalNamed "internal/strconv.uint64pow10" with
  | none => rw [hg] at h; cases h
  | some g =>
    rw [hg] at h
    simp only [Option.bind_some] at h
    split at h
    · rename_i cs e f hh
      cases h
      exact ⟨g, e, f, rfl, hh⟩
    · cases h
end Go.Sh
