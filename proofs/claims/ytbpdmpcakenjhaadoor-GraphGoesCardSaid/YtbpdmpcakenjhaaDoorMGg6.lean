/-
  The law edenlaw12.GraphGoes holds of the given program: no condition.
  Walk: edenlaw12.goes at a way.
  Pieces of a slice of ints: s[k:], s[k:l].
  Walk: the law edenlaw12.GraphGoes.
  Opening what a call is handed: []int, api.Rule, the package-level errors.
  Opening a [][]int that a call is handed.
-/
import Derived.Test.YtbpdmpcakenjhaaDoorMGg5
import Derived.Test.YtbpdmpcakenjhaaDoorRows
import Derived.ProofKit
import Derived.OpenShut
import Derived.ShutString
import Derived.ChangeOld
import Derived.LaidMore
import Derived.Stop.Joined
import Derived.Stop.LaidErr
import Derived.Lib.SmallJoins
import Derived.Test.YtbpdmpcakenjhaaDoorCards
import Derived.Test.YtbpdmpcakenjhaaDoorTie
import Derived.SevenTiedAt
namespace Go.Proofs.YtbpdmpcakenjhaaDoor
open Go.RowKit
set_option maxRecDepth 100000

/-- Vertices, each led to by an arrow from the one ahead. -/
def ChainOk (G : List (List Int)) (u : List Nat) : Prop := ∀ i x, u[i]? = some x → x < G.length ∧ ∀ j y, i = j + 1 → u[j]? = some y → (x : Int) ∈ G.getD y []
theorem adj_mem {G : List (List Int)} (hok : GraphOk G) {y x : Nat} (hy : y < G.length) (h : x ∈ adjOf G y) : (x : Int) ∈ G.getD y [] := by
  obtain ⟨z, hz, rfl⟩ := List.mem_map.1 h
  have := hok y hy z hz
  rwa [Int.toNat_of_nonneg this.1]
theorem way_chain {G : List (List Int)} (hok : GraphOk G) {x y : Nat} {w : List Nat} (h : Way (adjOf G) x y w) (hx : x < G.length) : ChainOk G w := by
  induction h with
  | one x =>
    intro i z hz
    have hi := get_of hz
    simp only [List.length_cons, List.length_nil] at hi
    obtain rfl : i = 0 := by omega
    injection hz with hz; subst hz
    exact ⟨hx, fun j y e => by omega⟩
  | @cons x t y w ht h ih =>
    have htn := hok.lt x hx t ht
    have ih := ih htn
    intro i z hz
    cases i with
    | zero => injection hz with hz; subst hz; exact ⟨hx, fun j y e => by omega⟩
    | succ i =>
      have hz' : w[i]? = some z := hz
      refine ⟨(ih i z hz').1, fun j y e hy => ?_⟩
      have e : j = i := by omega
      subst e
      cases j with
      | zero =>
        injection hy with hy; subst hy
        obtain ⟨w', rfl⟩ := h.ne
        injection hz' with hz'; subst hz'
        exact adj_mem hok hx ht
      | succ j => exact (ih (j + 1) z hz').2 j y rfl hy
theorem ChainOk.dropLast {G : List (List Int)} {u : List Nat} (h : ChainOk G u) : ChainOk G u.dropLast := by
  have up : ∀ i x, u.dropLast[i]? = some x → u[i]? = some x := fun i x hx => by
    rw [List.getElem?_dropLast] at hx
    split at hx
    · exact hx
    · cases hx
  intro i x hx
  exact ⟨(h i x (up i x hx)).1, fun j y e hy => (h i x (up i x hx)).2 j y e (up j y hy)⟩
theorem ChainOk.nil (G : List (List Int)) : ChainOk G [] := fun i x hx => by simp at hx

set_option maxHeartbeats 2000000 in
theorem goes_any (na : Option Addr) (nc : Nat) (G : List (List Int)) (wv : Value) (u : List Nat) (w : World) (h : ListsAt w (.slice na G.length nc) G) (hw : IntsAt w wv (castI u)) (hc : ChainOk G u) (hsz : ∀ k, k < G.length → (G.getD k []).length ≤ 17592186044416) :
    Calls Tryd.prog 22 #[.slice na G.length nc, wv] w (RetB true w) := by
  have lW := hw.len
  rw [castI_len] at lW
  have hul := hw.len_le
  rw [castI_len] at hul
  replace h := Lib.hid h
  replace hw := Lib.hid hw
  replace hc := Lib.hid hc
  replace hsz := Lib.hid hsz
  go_enter Tryd.func22, Tryd.ntmps22
  go_wp2_with fail
  go_loopw [5] (fun kv wr => ∃ k n : Nat, k ≤ u.length ∧ kv = .int .i64 k ∧ wr = w.drewN n) (fun kv _ => u.length - (intOf kv).toNat)
  case atStart => exact ⟨0, 0, by omega, rfl, rfl⟩
  case round =>
    obtain ⟨k, n, hk, rfl, rfl⟩ := hrel
    by_cases hlt : k < u.length
    · obtain ⟨x, hx⟩ : ∃ x, u[k]? = some x := ⟨_, List.getElem?_eq_getElem hlt⟩
      obtain ⟨hxn, hxp⟩ := hc.out k x hx
      have iX := fun w' => hw.out.idx k (by rw [castI_len]; exact hlt) w'
      have cX := (hw.out.drewN n).cellD k (by rw [castI_len]; exact hlt)
      rw [castI_get hx] at cX
      have hd1 : decide ((x : Int) < 0) = false := by simp
      have hd2 : decide (G.length ≤ x) = false := by simp; omega
      cases k with
      | zero =>
        clear hxp
        replace hx := Lib.hid hx
        obtain ⟨xa, hxa⟩ : ∃ xa, valAt wv 0 = xa := ⟨_, rfl⟩
        rw [hxa] at iX cX
        replace hxa := Lib.hid hxa
        have iX0 : ∀ w', (Instr.indexAt 22 wv (.int .i64 0)).run Tryd.prog w' = .ok (.pointer (some xa)) w' := iX
        clear iX
        go_upto_region 4 with fail
        refine wp_region_plan (fun w' => w'.cell? xa = some (.int .i64 (x : Int))) 31 [(0, true), (1, true), (2, true), (3, true), (4, true), (5, true), (6, true), (7, true), (8, true), (9, true), (10, true), (11, true), (12, true), (13, true), (14, true), (15, true), (16, true), (17, true), (18, true), (19, true), (20, true), (21, true), (22, true), (23, true), (24, true), (25, true), (26, true), (27, true), (28, false), (29, true), (30, true)] (by kernel_rfl) (by kernel_rfl) ?_
        have hS : (w.drewN n).drew.cell? xa = some (.int .i64 (x : Int)) := cX
        refine headY (v := ?_) (some 12) rfl rfl (Or.inl ⟨by rfl, ?_⟩) hS ?_
        rotate_left
        · rintro W' s0; go_simp; try with_reducible rfl
        simp only [Act.put, List.setIfInBounds_toArray, List.set_cons_zero, List.set_cons_succ]
        refine headY (v := ?_) (some 13) rfl rfl (Or.inl ⟨by rfl, ?_⟩) hS ?_
        rotate_left
        · rintro W' s0; go_simp; try with_reducible rfl
        simp only [Act.put, List.setIfInBounds_toArray, List.set_cons_zero, List.set_cons_succ]
        refine headY (v := ?_) (some 14) rfl rfl (Or.inl ⟨by rfl, ?_⟩) hS ?_
        rotate_left
        · rintro W' s0; go_simp; try with_reducible rfl
        simp only [Act.put, List.setIfInBounds_toArray, List.set_cons_zero, List.set_cons_succ]
        refine headY (v := ?_) (some 15) rfl rfl (Or.inl ⟨by rfl, ?_⟩) hS ?_
        rotate_left
        · rintro W' s0; go_simp; try with_reducible rfl
        simp only [Act.put, List.setIfInBounds_toArray, List.set_cons_zero, List.set_cons_succ]
        refine headY (v := ?_) (some 16) rfl rfl (Or.inl ⟨by rfl, ?_⟩) hS ?_
        rotate_left
        · rintro W' s0; go_simp; try with_reducible rfl
        simp only [Act.put, List.setIfInBounds_toArray, List.set_cons_zero, List.set_cons_succ]
        refine headY (v := ?_) (some 17) rfl rfl (Or.inl ⟨by rfl, ?_⟩) hS ?_
        rotate_left
        · rintro W' s0; go_simp; try with_reducible rfl
        simp only [Act.put, List.setIfInBounds_toArray, List.set_cons_zero, List.set_cons_succ]
        refine headY (v := ?_) (some 18) rfl rfl (Or.inl ⟨by rfl, ?_⟩) hS ?_
        rotate_left
        · rintro W' s0; go_simp; try with_reducible rfl
        simp only [Act.put, List.setIfInBounds_toArray, List.set_cons_zero, List.set_cons_succ]
        refine headY (v := ?_) (some 19) rfl rfl (Or.inl ⟨by rfl, ?_⟩) hS ?_
        rotate_left
        · rintro W' s0; go_simp; try with_reducible rfl
        simp only [Act.put, List.setIfInBounds_toArray, List.set_cons_zero, List.set_cons_succ]
        refine headY (v := ?_) (some 20) rfl rfl (Or.inl ⟨by rfl, ?_⟩) hS ?_
        rotate_left
        · rintro W' s0; go_simp; try with_reducible rfl
        simp only [Act.put, List.setIfInBounds_toArray, List.set_cons_zero, List.set_cons_succ]
        refine headY (v := ?_) (some 21) rfl rfl (Or.inl ⟨by rfl, ?_⟩) hS ?_
        rotate_left
        · rintro W' s0; go_simp; try with_reducible rfl
        simp only [Act.put, List.setIfInBounds_toArray, List.set_cons_zero, List.set_cons_succ]
        refine headY (v := ?_) (some 22) rfl rfl (Or.inl ⟨by rfl, ?_⟩) hS ?_
        rotate_left
        · rintro W' s0; go_simp; try with_reducible rfl
        simp only [Act.put, List.setIfInBounds_toArray, List.set_cons_zero, List.set_cons_succ]
        refine headY (v := ?_) (some 23) rfl rfl (Or.inl ⟨by rfl, ?_⟩) hS ?_
        rotate_left
        · rintro W' s0; go_simp; try with_reducible rfl
        simp only [Act.put, List.setIfInBounds_toArray, List.set_cons_zero, List.set_cons_succ]
        refine headY (v := ?_) (some 24) rfl rfl (Or.inl ⟨by rfl, ?_⟩) hS ?_
        rotate_left
        · rintro W' s0; go_simp; try with_reducible rfl
        simp only [Act.put, List.setIfInBounds_toArray, List.set_cons_zero, List.set_cons_succ]
        refine headY (v := ?_) (some 25) rfl rfl (Or.inl ⟨by rfl, ?_⟩) hS ?_
        rotate_left
        · rintro W' s0; go_simp; try with_reducible rfl
        simp only [Act.put, List.setIfInBounds_toArray, List.set_cons_zero, List.set_cons_succ]
        refine headY (v := ?_) (some 26) rfl rfl (Or.inl ⟨by rfl, ?_⟩) hS ?_
        rotate_left
        · rintro W' s0; go_simp; try with_reducible rfl
        simp only [Act.put, List.setIfInBounds_toArray, List.set_cons_zero, List.set_cons_succ]
        refine headY (v := ?_) (some 27) rfl rfl (Or.inl ⟨by rfl, ?_⟩) hS ?_
        rotate_left
        · rintro W' s0; go_simp; try with_reducible rfl
        simp only [Act.put, List.setIfInBounds_toArray, List.set_cons_zero, List.set_cons_succ]
        refine headY (v := ?_) (some 28) rfl rfl (Or.inl ⟨by rfl, ?_⟩) hS ?_
        rotate_left
        · rintro W' s0; go_simp; try with_reducible rfl
        simp only [Act.put, List.setIfInBounds_toArray, List.set_cons_zero, List.set_cons_succ]
        refine headY (v := ?_) (some 29) rfl rfl (Or.inl ⟨by rfl, ?_⟩) hS ?_
        rotate_left
        · rintro W' s0; go_simp; try with_reducible rfl
        simp only [Act.put, List.setIfInBounds_toArray, List.set_cons_zero, List.set_cons_succ]
        refine headY (v := undef) (some 30) rfl rfl (Or.inr ⟨by rfl, rfl⟩) hS ?_
        simp only [Act.put, List.setIfInBounds_toArray, List.set_cons_zero, List.set_cons_succ]
        refine headY (v := undef) (some 31) rfl rfl (Or.inr ⟨by rfl, rfl⟩) hS ?_
        simp only [Act.put, List.setIfInBounds_toArray, List.set_cons_zero, List.set_cons_succ]
        refine headY (v := undef) (some 32) rfl rfl (Or.inr ⟨by rfl, rfl⟩) hS ?_
        simp only [Act.put, List.setIfInBounds_toArray, List.set_cons_zero, List.set_cons_succ]
        refine headY (v := undef) (some 33) rfl rfl (Or.inr ⟨by rfl, rfl⟩) hS ?_
        simp only [Act.put, List.setIfInBounds_toArray, List.set_cons_zero, List.set_cons_succ]
        refine headY (v := undef) (some 34) rfl rfl (Or.inr ⟨by rfl, rfl⟩) hS ?_
        simp only [Act.put, List.setIfInBounds_toArray, List.set_cons_zero, List.set_cons_succ]
        refine headY (v := undef) (some 35) rfl rfl (Or.inr ⟨by rfl, rfl⟩) hS ?_
        simp only [Act.put, List.setIfInBounds_toArray, List.set_cons_zero, List.set_cons_succ]
        refine headY (v := undef) (some 36) rfl rfl (Or.inr ⟨by rfl, rfl⟩) hS ?_
        simp only [Act.put, List.setIfInBounds_toArray, List.set_cons_zero, List.set_cons_succ]
        refine headY (v := undef) (some 37) rfl rfl (Or.inr ⟨by rfl, rfl⟩) hS ?_
        simp only [Act.put, List.setIfInBounds_toArray, List.set_cons_zero, List.set_cons_succ]
        refine headY (v := undef) (some 38) rfl rfl (Or.inr ⟨by rfl, rfl⟩) hS ?_
        simp only [Act.put, List.setIfInBounds_toArray, List.set_cons_zero, List.set_cons_succ]
        refine headY (v := undef) (some 39) rfl rfl (Or.inr ⟨by rfl, rfl⟩) hS ?_
        simp only [Act.put, List.setIfInBounds_toArray, List.set_cons_zero, List.set_cons_succ]
        refine headC rfl (fun KK hK => ?_)
        go_simp
        refine hK _ _ hS ?_
        clear hK KK
        refine headY (v := undef) (some 41) rfl rfl (Or.inr ⟨by rfl, rfl⟩) hS ?_
        simp only [Act.put, List.setIfInBounds_toArray, List.set_cons_zero, List.set_cons_succ]
        refine headY (v := ?_) (some 42) rfl rfl (Or.inl ⟨by rfl, ?_⟩) hS ?_
        rotate_left
        · rintro W' s0; go_simp; try with_reducible rfl
        simp only [Act.put, List.setIfInBounds_toArray, List.set_cons_zero, List.set_cons_succ]
        refine head0 ?_
        simp only [List.drop_succ_cons, List.drop_zero]
        clear hS
        go_wp2
        refine NoPanic.normal ?_
        go_wp2
        go_roundw
        case measure => simp [intOf]; omega
        case rel => exact ⟨1, n + 1, by omega, by go_num, rfl⟩
      | succ k =>
        obtain ⟨y, hy⟩ : ∃ y, u[k]? = some y := ⟨_, List.getElem?_eq_getElem (by omega)⟩
        have hyn := (hc.out k y hy).1
        have hmem := hxp k y rfl hy
        have hle := leads_any na nc G y (x : Int) (w.drewN n).drew (h.out.drewN n) hyn hsz.out
        rw [show decide ((x : Int) ∈ G.getD y []) = true by simpa using hmem] at hle
        have iY := fun w' => hw.out.idx k (by rw [castI_len]; omega) w'
        have cY := (hw.out.drewN n).cellD k (by rw [castI_len]; omega)
        rw [castI_get hy] at cY
        clear hxp hmem
        replace hx := Lib.hid hx
        replace hy := Lib.hid hy
        replace hle := Lib.hid hle
        obtain ⟨xa, hxa⟩ : ∃ xa, valAt wv (k + 1) = xa := ⟨_, rfl⟩
        rw [hxa] at iX cX
        replace hxa := Lib.hid hxa
        obtain ⟨ya, hya⟩ : ∃ ya, valAt wv k = ya := ⟨_, rfl⟩
        rw [hya] at iY cY
        replace hya := Lib.hid hya
        have hk1 : (((k + 1 : Nat) : Int)) = (k : Int) + 1 := by omega
        rw [hk1] at iX
        replace hk1 := Lib.hid hk1
        have hwr : IntKind.i64.wrap (k : Int) = k := wrapK (by omega) (by omega)
        go_upto_region 4 with fail
        refine wp_region_plan (fun w' => w'.cell? xa = some (.int .i64 (x : Int)) ∧ w'.cell? ya = some (.int .i64 (y : Int))) 31 [(0, true), (1, true), (2, true), (3, true), (4, true), (5, true), (6, true), (7, true), (8, true), (9, true), (10, true), (11, true), (12, true), (13, true), (14, true), (15, true), (16, true), (17, true), (18, true), (19, true), (20, true), (21, true), (22, true), (23, true), (24, true), (25, true), (26, true), (27, true), (28, false), (29, true), (30, true)] (by kernel_rfl) (by kernel_rfl) ?_
        have hS : (w.drewN n).drew.cell? xa = some (.int .i64 (x : Int)) ∧ (w.drewN n).drew.cell? ya = some (.int .i64 (y : Int)) := ⟨cX, cY⟩
        refine headY (v := ?_) (some 12) rfl rfl (Or.inl ⟨by rfl, ?_⟩) hS ?_
        rotate_left
        · rintro W' ⟨s0, s1⟩; go_simp; try with_reducible rfl
        simp only [Act.put, List.setIfInBounds_toArray, List.set_cons_zero, List.set_cons_succ]
        refine headY (v := ?_) (some 13) rfl rfl (Or.inl ⟨by rfl, ?_⟩) hS ?_
        rotate_left
        · rintro W' ⟨s0, s1⟩; go_simp; try with_reducible rfl
        simp only [Act.put, List.setIfInBounds_toArray, List.set_cons_zero, List.set_cons_succ]
        refine headY (v := ?_) (some 14) rfl rfl (Or.inl ⟨by rfl, ?_⟩) hS ?_
        rotate_left
        · rintro W' ⟨s0, s1⟩; go_simp; try with_reducible rfl
        simp only [Act.put, List.setIfInBounds_toArray, List.set_cons_zero, List.set_cons_succ]
        refine headY (v := ?_) (some 15) rfl rfl (Or.inl ⟨by rfl, ?_⟩) hS ?_
        rotate_left
        · rintro W' ⟨s0, s1⟩; go_simp; try with_reducible rfl
        simp only [Act.put, List.setIfInBounds_toArray, List.set_cons_zero, List.set_cons_succ]
        refine headY (v := ?_) (some 16) rfl rfl (Or.inl ⟨by rfl, ?_⟩) hS ?_
        rotate_left
        · rintro W' ⟨s0, s1⟩; go_simp; try with_reducible rfl
        simp only [Act.put, List.setIfInBounds_toArray, List.set_cons_zero, List.set_cons_succ]
        refine headY (v := ?_) (some 17) rfl rfl (Or.inl ⟨by rfl, ?_⟩) hS ?_
        rotate_left
        · rintro W' ⟨s0, s1⟩; go_simp; try with_reducible rfl
        simp only [Act.put, List.setIfInBounds_toArray, List.set_cons_zero, List.set_cons_succ]
        refine headY (v := ?_) (some 18) rfl rfl (Or.inl ⟨by rfl, ?_⟩) hS ?_
        rotate_left
        · rintro W' ⟨s0, s1⟩; go_simp; try with_reducible rfl
        simp only [Act.put, List.setIfInBounds_toArray, List.set_cons_zero, List.set_cons_succ]
        refine headY (v := ?_) (some 19) rfl rfl (Or.inl ⟨by rfl, ?_⟩) hS ?_
        rotate_left
        · rintro W' ⟨s0, s1⟩; go_simp; try with_reducible rfl
        simp only [Act.put, List.setIfInBounds_toArray, List.set_cons_zero, List.set_cons_succ]
        refine headY (v := ?_) (some 20) rfl rfl (Or.inl ⟨by rfl, ?_⟩) hS ?_
        rotate_left
        · rintro W' ⟨s0, s1⟩; go_simp; try with_reducible rfl
        simp only [Act.put, List.setIfInBounds_toArray, List.set_cons_zero, List.set_cons_succ]
        refine headY (v := ?_) (some 21) rfl rfl (Or.inl ⟨by rfl, ?_⟩) hS ?_
        rotate_left
        · rintro W' ⟨s0, s1⟩; go_simp; try with_reducible rfl
        simp only [Act.put, List.setIfInBounds_toArray, List.set_cons_zero, List.set_cons_succ]
        refine headY (v := ?_) (some 22) rfl rfl (Or.inl ⟨by rfl, ?_⟩) hS ?_
        rotate_left
        · rintro W' ⟨s0, s1⟩; go_simp; try with_reducible rfl
        simp only [Act.put, List.setIfInBounds_toArray, List.set_cons_zero, List.set_cons_succ]
        refine headY (v := ?_) (some 23) rfl rfl (Or.inl ⟨by rfl, ?_⟩) hS ?_
        rotate_left
        · rintro W' ⟨s0, s1⟩; go_simp; try with_reducible rfl
        simp only [Act.put, List.setIfInBounds_toArray, List.set_cons_zero, List.set_cons_succ]
        refine headY (v := ?_) (some 24) rfl rfl (Or.inl ⟨by rfl, ?_⟩) hS ?_
        rotate_left
        · rintro W' ⟨s0, s1⟩; go_simp; try with_reducible rfl
        simp only [Act.put, List.setIfInBounds_toArray, List.set_cons_zero, List.set_cons_succ]
        refine headY (v := ?_) (some 25) rfl rfl (Or.inl ⟨by rfl, ?_⟩) hS ?_
        rotate_left
        · rintro W' ⟨s0, s1⟩; go_simp; try with_reducible rfl
        simp only [Act.put, List.setIfInBounds_toArray, List.set_cons_zero, List.set_cons_succ]
        refine headY (v := ?_) (some 26) rfl rfl (Or.inl ⟨by rfl, ?_⟩) hS ?_
        rotate_left
        · rintro W' ⟨s0, s1⟩; go_simp; try with_reducible rfl
        simp only [Act.put, List.setIfInBounds_toArray, List.set_cons_zero, List.set_cons_succ]
        refine headY (v := ?_) (some 27) rfl rfl (Or.inl ⟨by rfl, ?_⟩) hS ?_
        rotate_left
        · rintro W' ⟨s0, s1⟩; go_simp; try with_reducible rfl
        simp only [Act.put, List.setIfInBounds_toArray, List.set_cons_zero, List.set_cons_succ]
        refine headY (v := ?_) (some 28) rfl rfl (Or.inl ⟨by rfl, ?_⟩) hS ?_
        rotate_left
        · rintro W' ⟨s0, s1⟩; go_simp; try with_reducible rfl
        simp only [Act.put, List.setIfInBounds_toArray, List.set_cons_zero, List.set_cons_succ]
        refine headY (v := ?_) (some 29) rfl rfl (Or.inl ⟨by rfl, ?_⟩) hS ?_
        rotate_left
        · rintro W' ⟨s0, s1⟩; go_simp; try with_reducible rfl
        simp only [Act.put, List.setIfInBounds_toArray, List.set_cons_zero, List.set_cons_succ]
        refine headY (v := ?_) (some 30) rfl rfl (Or.inl ⟨by rfl, ?_⟩) hS ?_
        rotate_left
        · rintro W' ⟨s0, s1⟩; go_simp; try with_reducible rfl
        simp only [Act.put, List.setIfInBounds_toArray, List.set_cons_zero, List.set_cons_succ]
        refine headY (v := ?_) (some 31) rfl rfl (Or.inl ⟨by rfl, ?_⟩) hS ?_
        rotate_left
        · rintro W' ⟨s0, s1⟩; go_simp; try with_reducible rfl
        simp only [Act.put, List.setIfInBounds_toArray, List.set_cons_zero, List.set_cons_succ]
        refine headY (v := ?_) (some 32) rfl rfl (Or.inl ⟨by rfl, ?_⟩) hS ?_
        rotate_left
        · rintro W' ⟨s0, s1⟩; go_simp; try with_reducible rfl
        simp only [Act.put, List.setIfInBounds_toArray, List.set_cons_zero, List.set_cons_succ]
        refine headY (v := ?_) (some 33) rfl rfl (Or.inl ⟨by rfl, ?_⟩) hS ?_
        rotate_left
        · rintro W' ⟨s0, s1⟩; go_simp; try with_reducible rfl
        simp only [Act.put, List.setIfInBounds_toArray, List.set_cons_zero, List.set_cons_succ]
        refine headY (v := ?_) (some 34) rfl rfl (Or.inl ⟨by rfl, ?_⟩) hS ?_
        rotate_left
        · rintro W' ⟨s0, s1⟩; go_simp; try with_reducible rfl
        simp only [Act.put, List.setIfInBounds_toArray, List.set_cons_zero, List.set_cons_succ]
        refine headY (v := ?_) (some 35) rfl rfl (Or.inl ⟨by rfl, ?_⟩) hS ?_
        rotate_left
        · rintro W' ⟨s0, s1⟩; go_simp; try with_reducible rfl
        simp only [Act.put, List.setIfInBounds_toArray, List.set_cons_zero, List.set_cons_succ]
        refine headY (v := ?_) (some 36) rfl rfl (Or.inl ⟨by rfl, ?_⟩) hS ?_
        rotate_left
        · rintro W' ⟨s0, s1⟩; go_simp; try with_reducible rfl
        simp only [Act.put, List.setIfInBounds_toArray, List.set_cons_zero, List.set_cons_succ]
        refine headY (v := ?_) (some 37) rfl rfl (Or.inl ⟨by rfl, ?_⟩) hS ?_
        rotate_left
        · rintro W' ⟨s0, s1⟩; go_simp; try with_reducible rfl
        simp only [Act.put, List.setIfInBounds_toArray, List.set_cons_zero, List.set_cons_succ]
        refine headY (v := ?_) (some 38) rfl rfl (Or.inl ⟨by rfl, ?_⟩) hS ?_
        rotate_left
        · rintro W' ⟨s0, s1⟩; go_simp; try with_reducible rfl
        simp only [Act.put, List.setIfInBounds_toArray, List.set_cons_zero, List.set_cons_succ]
        refine headY (v := ?_) (some 39) rfl rfl (Or.inl ⟨by rfl, ?_⟩) hS ?_
        rotate_left
        · rintro W' ⟨s0, s1⟩; go_simp; try with_reducible rfl
        simp only [Act.put, List.setIfInBounds_toArray, List.set_cons_zero, List.set_cons_succ]
        refine headC rfl (fun KK hK => ?_)
        go_simp
        refine hle.out.mono ?_
        rintro e w2 ⟨n2, rfl, rfl⟩
        refine hK _ _ hS ?_
        clear hK KK
        refine headY (v := ?_) (some 41) rfl rfl (Or.inl ⟨by rfl, ?_⟩) hS ?_
        rotate_left
        · rintro W' ⟨s0, s1⟩; go_simp; try with_reducible rfl
        simp only [Act.put, List.setIfInBounds_toArray, List.set_cons_zero, List.set_cons_succ]
        refine headY (v := ?_) (some 42) rfl rfl (Or.inl ⟨by rfl, ?_⟩) hS ?_
        rotate_left
        · rintro W' ⟨s0, s1⟩; go_simp; try with_reducible rfl
        simp only [Act.put, List.setIfInBounds_toArray, List.set_cons_zero, List.set_cons_succ]
        refine head0 ?_
        simp only [List.drop_succ_cons, List.drop_zero]
        clear hS
        go_wp2
        refine NoPanic.normal ?_
        go_wp2
        go_roundw
        case measure => simp [intOf]; omega
        case rel => exact ⟨k + 2, _, by omega, by go_num, rfl⟩
    · obtain rfl : k = u.length := by omega
      go_wp2
      go_ret
      exact ⟨n, rfl, rfl⟩
end Go.Proofs.YtbpdmpcakenjhaaDoor

namespace Go.Proofs.YtbpdmpcakenjhaaDoor
open Go.RowKit

theorem IntsAt.piece {w : World} {a : Option Addr} {cap : Nat} {xs : List Int} (h : IntsAt w (.slice a xs.length cap) xs) (k l : Nat) (hk : k ≤ l) (hl : l ≤ xs.length) :
    IntsAt w (sliced a k l cap 1) ((xs.take l).drop k) := by
  obtain ⟨a', cap', e, h1, h2, h3, h4⟩ := h
  injection e with e1 _ e3
  subst e1 e3
  have hlen : ((xs.take l).drop k).length = l - k := by simp; omega
  refine ⟨if cap = k then a else a.map (·.add (k * 1)), cap - k, by rw [hlen]; rfl, by rw [hlen]; omega, by omega, ?_, fun i hi => ?_⟩
  · intro hn
    by_cases hc : cap = k
    · omega
    · rw [if_neg hc] at hn
      have := h3 (Option.map_eq_none_iff.1 hn)
      omega
  · rw [hlen] at hi
    have hc : ¬ cap = k := by omega
    show w.cell? (valAt (.slice (if cap = k then a else a.map (·.add (k * 1))) _ _) i) = _
    rw [if_neg hc]
    cases a with
    | none => have := h3 rfl; omega
    | some p =>
      have h5 := h4 (k + i) (by omega)
      simp only [valAt] at h5
      show w.cell? ((p.add (k * 1)).add i) = _
      rw [Nat.mul_one, show (p.add k).add i = p.add (k + i) by unfold Addr.add; by_cases hk0 : k = 0 <;> by_cases hi0 : i = 0 <;> simp [hk0, hi0, Nat.add_assoc], h5]
      simp

/-- s[k:]. -/
theorem IntsAt.post {w : World} {v : Value} {xs : List Int} (h : IntsAt w v xs) (k : Nat) (hk : k ≤ xs.length) :
    ∃ u, (∀ w', (Instr.slice 22 v (some (.int .i64 k)) none none).run Tryd.prog w' = .ok u w') ∧ IntsAt w u (xs.drop k) := by
  have h' := h
  obtain ⟨a, cap, rfl, _⟩ := h'
  refine ⟨sliced a k xs.length cap 1, fun w' => ?_, ?_⟩
  · rw [run_slice_l w' 22 a xs.length cap uIntsE .i64 k (by omega) (by omega), eInts, sInt]
    rfl
  · have := h.piece k xs.length hk (Nat.le_refl _)
    rwa [List.take_length] at this

/-- s[k:l]. -/
theorem IntsAt.mid {w : World} {v : Value} {xs : List Int} (h : IntsAt w v xs) (k l : Nat) (hk : k ≤ l) (hl : l ≤ xs.length) :
    ∃ u, (∀ w', (Instr.slice 22 v (some (.int .i64 k)) (some (.int .i64 l)) none).run Tryd.prog w' = .ok u w') ∧ IntsAt w u ((xs.take l).drop k) := by
  have h' := h
  obtain ⟨a, cap, rfl, h1, _⟩ := h'
  refine ⟨sliced a k l cap 1, fun w' => ?_, h.piece k l hk hl⟩
  rw [run_slice_lh w' 22 a xs.length cap uIntsE .i64 .i64 k l (by omega) (by omega) (by omega), eInts, sInt]
  rfl

/-- s[:l]. -/
theorem IntsAt.front {w : World} {v : Value} {xs : List Int} (h : IntsAt w v xs) (l : Nat) (hl : l ≤ xs.length) :
    ∃ u, (∀ w', (Instr.slice 22 v none (some (.int .i64 l)) none).run Tryd.prog w' = .ok u w') ∧ IntsAt w u (xs.take l) := by
  have h' := h
  obtain ⟨a, cap, rfl, h1, _⟩ := h'
  refine ⟨sliced a 0 l cap 1, fun w' => ?_, ?_⟩
  · rw [run_slice_h w' 22 a xs.length cap uIntsE .i64 l (by omega) (by omega), eInts, sInt]
    rfl
  · have := h.piece 0 l (Nat.zero_le _) hl
    simpa using this
end Go.Proofs.YtbpdmpcakenjhaaDoor

namespace Go.Proofs.YtbpdmpcakenjhaaDoor
open Go.RowKit
set_option maxRecDepth 100000

/-- What Path answers, as one list: the first of the shortest ways, or none. -/
def WayList (adj : Nat → List Nat) (a b : Nat) (u : List Nat) : Prop := (u ≠ [] ∧ IsFirst adj a b u) ∨ (u = [] ∧ ¬ Goes adj a b)
theorem FirstPost.list {w w' : World} {adj : Nat → List Nat} {a b : Nat} {x : Value} (h : FirstPost w adj a b x w') : ∃ u, WayList adj a b u ∧ OwnI w.heap.size w' x (castI u) := by
  rcases h with ⟨u, h1, h2⟩ | ⟨h1, rfl⟩
  · exact ⟨u, .inl ⟨by intro e; subst e; exact absurd h1.way.pos (by simp), h1⟩, h2⟩
  · exact ⟨[], .inr ⟨rfl, h1⟩, OwnI.nil _ _⟩
theorem WayList.goes {adj : Nat → List Nat} {a b : Nat} {u : List Nat} (h : WayList adj a b u) : u ≠ [] ↔ Goes adj a b := by
  rcases h with ⟨h1, h2⟩ | ⟨h1, h2⟩
  · exact ⟨fun _ => h2.way.goes, fun _ => h1⟩
  · exact ⟨fun q => absurd h1 q, fun q => absurd q h2⟩
theorem WayList.chain {G : List (List Int)} (hok : GraphOk G) {a b : Nat} {u : List Nat} (h : WayList (adjOf G) a b u) (ha : a < G.length) : ChainOk G u := by
  rcases h with ⟨_, h2⟩ | ⟨h1, _⟩
  · exact way_chain hok h2.way ha
  · subst h1; exact ChainOk.nil G
theorem WayList.len {G : List (List Int)} (hok : GraphOk G) {a b : Nat} {u : List Nat} (h : WayList (adjOf G) a b u) (ha : a < G.length) : u.length ≤ G.length := by
  have hc := h.chain hok ha
  rcases h with ⟨_, q⟩ | ⟨q, _⟩
  · exact nodup_len G.length u q.nodup (fun x hx => by
      obtain ⟨i, hi⟩ := List.mem_iff_getElem?.1 hx
      exact (hc i x hi).1)
  · subst q; simp
/-- The ends. -/
theorem way_ends {adj : Nat → List Nat} {x y : Nat} {w : List Nat} (h : Way adj x y w) : w[0]? = some x ∧ w[w.length - 1]? = some y := by
  induction h with
  | one x => exact ⟨rfl, rfl⟩
  | @cons x t y w ht h ih =>
    refine ⟨rfl, ?_⟩
    have := h.pos
    rw [List.length_cons, Nat.add_sub_cancel, ← ih.2]
    obtain ⟨n, hn⟩ : ∃ n, w.length = n + 1 := ⟨w.length - 1, by omega⟩
    rw [hn, Nat.add_sub_cancel]; rfl
/-- A way in the graph with the end doubled, its last vertex left away. -/
theorem wide_way {G : List (List Int)} (hok : GraphOk G) {v : Nat} {x e : Nat} {u : List Nat} (h : Way (adjOf (wideG G v)) x e u) (he : e = G.length) (hx : x < G.length) : ∃ y, y < G.length ∧ v ∈ adjOf G y ∧ Way (adjOf G) x y u.dropLast := by
  induction h with
  | one x => omega
  | @cons x t y w ht h ih =>
    rcases (wide_adj hok v hx t).1 ht with ⟨_, h1, h2⟩ | ⟨h1, h2⟩
    · obtain ⟨z, z1, z2, z3⟩ := ih he h2
      have := h.pos
      refine ⟨z, z1, z2, ?_⟩
      rw [List.dropLast_cons_of_ne_nil (by intro q; subst q; simp at this)]
      exact .cons h1 z3
    · subst h1
      refine ⟨x, hx, h2, ?_⟩
      cases h with
      | one => exact .one x
      | cons ht' _ => rw [wide_end] at ht'; cases ht'
/-- What Loop answers, as one list: a way from a to a vertex with an arrow back to a; or none. -/
def LoopList (G : List (List Int)) (a : Nat) (l : List Nat) : Prop := l = [] ∨ ∃ y, y < G.length ∧ a ∈ adjOf G y ∧ Way (adjOf G) a y l
theorem LoopWay.list {w w' : World} {G : List (List Int)} (hok : GraphOk G) {a : Nat} (ha : a < G.length) {x : Value} (h : LoopWay w G a x w') : ∃ l, LoopList G a l ∧ OwnI w.heap.size w' x (castI l) := by
  rcases h with ⟨u, h1, h2⟩ | ⟨_, rfl⟩
  · exact ⟨u.dropLast, .inr (wide_way hok h1.way rfl ha), h2⟩
  · exact ⟨[], .inl rfl, OwnI.nil _ _⟩
theorem LoopList.chain {G : List (List Int)} (hok : GraphOk G) {a : Nat} {l : List Nat} (h : LoopList G a l) (ha : a < G.length) : ChainOk G l := by
  rcases h with h | ⟨y, _, _, h⟩
  · subst h; exact ChainOk.nil G
  · exact way_chain hok h ha

set_option maxHeartbeats 8000000 in
theorem graphGoes_any (r : Nat → Addr) (na : Option Addr) (nc : Nat) (G : List (List Int)) (a b : Int) (w : World) (hg : Glob r w) (h : ListsAt w (.slice na G.length nc) G) (hsz : ∀ k, k < G.length → (G.getD k []).length ≤ 17592186044416) :
    Calls Tryd.prog 4 #[.slice na G.length nc, .int .i64 a, .int .i64 b] w (Ret1 (fun x _ => x = .bool true) w) := by
  replace hg := Lib.hid hg
  replace h := Lib.hid h
  replace hsz := Lib.hid hsz
  go_enter Tryd.func4, Tryd.ntmps4
  go_wp2_with fail
  refine (awake12 r _ hg.out).mono ?_
  rintro e w1 ⟨_, rfl, b1, rfl⟩
  go_wp2_with fail
  refine (vertex_any r na nc G a w1 (hg.out.below b1) (h.out.below b1) hsz.out).mono ?_
  rintro e w2 ⟨x, rfl, b2, v1, rfl, hv1⟩
  have b02 := Below.step b1 b2
  cases v1 with
  | false =>
    clear hv1
    go_wp2
    go_ret
    exact ⟨_, rfl, b02, rfl⟩
  | true =>
    obtain ⟨hn, harr, hck, a, rfl, ha⟩ := hv1 rfl
    clear hv1
    go_wp2_with fail
    refine (vertex_any r na nc G b w2 (hg.out.below b02) (h.out.below b02) hsz.out).mono ?_
    rintro e w3 ⟨x, rfl, b3, v2, rfl, hv2⟩
    have b03 := Below.step b02 b3
    cases v2 with
    | false =>
      clear hv2 hck
      go_wp2
      go_ret
      exact ⟨_, rfl, b03, rfl⟩
    | true =>
      obtain ⟨_, _, _, b, rfl, hb⟩ := hv2 rfl
      clear hv2
      have hok := (checkG_none hck).2.2
      have hpe : ∀ x y : Nat, x < G.length → y < G.length → pathE G x y = none := fun x y hx hy => pathE_ok hck hx hy
      have hle : loopE G (a : Int) = none := loopE_ok hck ha
      have hpath := fun (W : World) (x y : Nat) (hx : x < G.length) (hy : y < G.length) (bW : Below w.heap.size w W) => show Calls Tryd.prog 19 #[.slice na G.length nc, .int .i64 x, .int .i64 y] W (Ret2 (fun z e W' => e = .nilIface ∧ ∃ u, WayList (adjOf G) x y u ∧ OwnI W.heap.size W' z (castI u)) W) from by
        refine (path_any r na nc G x y W (hg.out.below bW) (h.out.below bW) hsz.out).mono ?_
        rintro e W' ⟨z, ev, rfl, bb, he, hf, _⟩
        rw [hpe x y hx hy] at he
        have hf := hf (hpe x y hx hy)
        rw [Int.toNat_natCast, Int.toNat_natCast] at hf
        exact ⟨_, _, rfl, bb, he.none_eq, hf.list⟩
      replace hpath := Lib.hid hpath
      replace hpe := Lib.hid hpe
      replace hle := Lib.hid hle
      replace hck := Lib.hid hck
      replace hok := Lib.hid hok
      go_wp2_with fail
      refine (hpath.out w3 a b ha hb b03).mono ?_
      rintro e w4 ⟨wv, _, rfl, b4, rfl, u, hu, hwo⟩
      have b04 := Below.step b03 b4
      replace hwo := Lib.hid hwo
      replace hu := Lib.hid hu
      go_wp2_with fail
      refine (hpath.out w4 b a hb ha b04).mono ?_
      rintro e w5 ⟨vv, _, rfl, b5, rfl, u2, hu2, hvo⟩
      have b05 := Below.step b04 b5
      replace hvo := Lib.hid hvo
      replace hu2 := Lib.hid hu2
      go_wp2_with fail
      refine (parts_any r na nc G w5 (hg.out.below b05) (h.out.below b05) hsz.out).mono ?_
      rintro e w6 ⟨pv, y, rfl, b6, he, hps0, _⟩
      rw [hck.out] at he hps0
      obtain rfl := he.none_eq
      obtain ⟨ps, hps, hpo⟩ := hps0 rfl
      clear hps0
      have b06 := Below.step b05 b6
      clear he
      replace hps := Lib.hid hps
      replace hpo := Lib.hid hpo
      go_wp2_with fail
      refine (loopG_any r na nc G a w6 (hg.out.below b06) (h.out.below b06) hsz.out).mono ?_
      rintro e w7 ⟨lv, y, rfl, b7, he, hls, _⟩
      rw [hle.out] at he hls
      obtain rfl := he.none_eq
      have hls := hls rfl
      rw [Int.toNat_natCast] at hls
      obtain ⟨l, hl, hlo⟩ := hls.list hok.out ha
      have b07 := Below.step b06 b7
      clear he hls
      have hW := hwo.out.at.below (Below.step b5 (Below.step b6 b7))
      have hV := hvo.out.at.below (Below.step b6 b7)
      have hP := hpo.out.at.below b7
      have hL := hlo.at
      have hpl := hps.out.len
      have lW := hW.len
      rw [castI_len] at lW
      have lV := hV.len
      rw [castI_len] at lV
      have lP := hP.len
      rw [hpl] at lP
      have lL := hL.len
      rw [castI_len] at lL
      have hL7 := h.out.below b07
      have hcu := hu.out.chain hok.out ha
      have hcl := hl.chain hok.out ha
      have hul : u.length ≤ 300 := by
        rcases hu.out with ⟨_, q⟩ | ⟨q, _⟩
        · have hnd := q.nodup
          exact Nat.le_trans (nodup_len G.length u hnd (fun x hx => by
            obtain ⟨i, hi⟩ := List.mem_iff_getElem?.1 hx
            exact (hcu i x hi).1)) hn
        · subst q; simp
      have hll := hL.len_le
      rw [castI_len] at hll
      have hv2l := hV.len_le
      rw [castI_len] at hv2l
      replace hW := Lib.hid hW
      replace hV := Lib.hid hV
      replace hP := Lib.hid hP
      replace hL := Lib.hid hL
      replace hL7 := Lib.hid hL7
      replace hcu := Lib.hid hcu
      replace hcl := Lib.hid hcl
      replace hl := Lib.hid hl
      replace hlo := Lib.hid hlo
      replace hpl := Lib.hid hpl
      go_wp2_with fail
      refine (goes_any na nc G wv u w7 hL7.out hW.out hcu.out hsz.out).mono ?_
      rintro e w8 h8
      obtain ⟨rfl, b8⟩ := h8.below
      clear h8
      go_wp2_with fail
      refine (goes_any na nc G lv l w8 (hL7.out.below b8) (hL.out.below b8) hcl.out hsz.out).mono ?_
      rintro e w9 h9
      obtain ⟨rfl, b9⟩ := h9.below
      clear h9
      have b79 := Below.step b8 b9
      go_upto_region 11 with fail
      go_cut [135] from 22 (fun s wx => s = .bool false ∧ Below w7.heap.size w7 wx)
      case first =>
        as_aux_lemma =>
          have hW9 := hW.out.below b79
          have hL9 := hL.out.below b79
          by_cases hu0 : u = []
          · have lW0 : ∀ w' : World, (Builtin.len_ #[22] 3 #[wv]).run Tryd.prog w' = .ok (.int .i64 0) w' := fun w' => by rw [lW, hu0]; rfl
            clear lW
            replace hu0 := Lib.hid hu0
            by_cases hl0 : l = []
            · have lL0 : ∀ w' : World, (Builtin.len_ #[22] 3 #[lv]).run Tryd.prog w' = .ok (.int .i64 0) w' := fun w' => by rw [lL, hl0]; rfl
              clear lL
              replace hl0 := Lib.hid hl0
              replace hW9 := Lib.hid hW9
              replace hL9 := Lib.hid hL9
              go_wp2
              go_meet
              case rel => exact ⟨rfl, b79⟩
            · obtain ⟨y, hyn, hym, hway⟩ := hl.out.resolve_left hl0
              obtain ⟨q0, q1⟩ := way_ends hway
              obtain ⟨k, hk⟩ : ∃ k, l.length = k + 1 := ⟨l.length - 1, by have := hway.pos; omega⟩
              rw [hk, Nat.add_sub_cancel] at q1
              rw [hk] at lL
              have iL0 : ∀ w', (Instr.indexAt 22 lv (.int .i64 0)).run Tryd.prog w' = .ok (.pointer (some (valAt lv 0))) w' := fun w' => hL9.idx 0 (by rw [castI_len]; omega) w'
              have cL0 := hL9.cellD 0 (by rw [castI_len]; omega)
              rw [castI_get q0] at cL0
              have iL1 := fun w' => hL9.idx k (by rw [castI_len]; omega) w'
              have cL1 := hL9.cellD k (by rw [castI_len]; omega)
              rw [castI_get q1] at cL1
              have hmem := Lib.hid (show decide ((a : Int) ∈ G.getD y []) = true by simpa using adj_mem hok.out hyn hym)
              have hwrk : IntKind.i64.wrap (k : Int) = k := wrapK (by omega) (by omega)
              generalize valAt lv 0 = l0a at *
              generalize valAt lv k = l1a at *
              replace hl0 := Lib.hid hl0
              replace q0 := Lib.hid q0
              replace q1 := Lib.hid q1
              replace hway := Lib.hid hway
              replace hym := Lib.hid hym
              replace hW9 := Lib.hid hW9
              replace hL9 := Lib.hid hL9
              go_wp2_with fail
              refine (leads_any na nc G y a w9 (hL7.out.below b79) hyn hsz.out).mono ?_
              rintro e wz hz
              obtain ⟨rfl, bz⟩ := hz.below
              clear hz
              rw [hmem.out]
              go_wp2
              go_meet
              case rel => exact ⟨rfl, Below.step b79 bz⟩
          · obtain ⟨_, hfi⟩ := hu.out.resolve_right (fun q => hu0 q.1)
            obtain ⟨p0, p1⟩ := way_ends hfi.way
            obtain ⟨m, hm⟩ : ∃ m, u.length = m + 1 := ⟨u.length - 1, by have := hfi.way.pos; omega⟩
            rw [hm, Nat.add_sub_cancel] at p1
            rw [hm] at lW
            have iW0 : ∀ w', (Instr.indexAt 22 wv (.int .i64 0)).run Tryd.prog w' = .ok (.pointer (some (valAt wv 0))) w' := fun w' => hW9.idx 0 (by rw [castI_len]; omega) w'
            have cW0 := hW9.cellD 0 (by rw [castI_len]; omega)
            rw [castI_get p0] at cW0
            have iW1 := fun w' => hW9.idx m (by rw [castI_len]; omega) w'
            have cW1 := hW9.cellD m (by rw [castI_len]; omega)
            rw [castI_get p1] at cW1
            have hwrm : IntKind.i64.wrap (m : Int) = m := wrapK (by omega) (by omega)
            generalize valAt wv 0 = w0a at *
            generalize valAt wv m = w1a at *
            replace hu0 := Lib.hid hu0
            replace hfi := Lib.hid hfi
            replace p0 := Lib.hid p0
            replace p1 := Lib.hid p1
            replace hm := Lib.hid hm
            by_cases hl0 : l = []
            · have lL0 : ∀ w' : World, (Builtin.len_ #[22] 3 #[lv]).run Tryd.prog w' = .ok (.int .i64 0) w' := fun w' => by rw [lL, hl0]; rfl
              clear lL
              replace hl0 := Lib.hid hl0
              replace hW9 := Lib.hid hW9
              replace hL9 := Lib.hid hL9
              go_wp2
              go_meet
              case rel => exact ⟨rfl, b79⟩
            · obtain ⟨y, hyn, hym, hway⟩ := hl.out.resolve_left hl0
              obtain ⟨q0, q1⟩ := way_ends hway
              obtain ⟨k, hk⟩ : ∃ k, l.length = k + 1 := ⟨l.length - 1, by have := hway.pos; omega⟩
              rw [hk, Nat.add_sub_cancel] at q1
              rw [hk] at lL
              have iL0 : ∀ w', (Instr.indexAt 22 lv (.int .i64 0)).run Tryd.prog w' = .ok (.pointer (some (valAt lv 0))) w' := fun w' => hL9.idx 0 (by rw [castI_len]; omega) w'
              have cL0 := hL9.cellD 0 (by rw [castI_len]; omega)
              rw [castI_get q0] at cL0
              have iL1 := fun w' => hL9.idx k (by rw [castI_len]; omega) w'
              have cL1 := hL9.cellD k (by rw [castI_len]; omega)
              rw [castI_get q1] at cL1
              have hmem := Lib.hid (show decide ((a : Int) ∈ G.getD y []) = true by simpa using adj_mem hok.out hyn hym)
              have hwrk : IntKind.i64.wrap (k : Int) = k := wrapK (by omega) (by omega)
              generalize valAt lv 0 = l0a at *
              generalize valAt lv k = l1a at *
              replace hl0 := Lib.hid hl0
              replace q0 := Lib.hid q0
              replace q1 := Lib.hid q1
              replace hway := Lib.hid hway
              replace hym := Lib.hid hym
              replace hW9 := Lib.hid hW9
              replace hL9 := Lib.hid hL9
              go_wp2_with fail
              refine (leads_any na nc G y a w9 (hL7.out.below b79) hyn hsz.out).mono ?_
              rintro e wz hz
              obtain ⟨rfl, bz⟩ := hz.below
              clear hz
              rw [hmem.out]
              go_wp2
              go_meet
              case rel => exact ⟨rfl, Below.step b79 bz⟩
      case rest =>
        obtain ⟨rfl, bc⟩ := hcut
        clear b79 b8 b9
        go_upto_region 13 with fail
        go_cut [163] from 22 (fun s wx => s = .bool false ∧ Below w7.heap.size w7 wx)
        case first =>
          as_aux_lemma =>
            have hPc := hP.out.below bc
            have iPa := fun w' => hPc.idx a (by rw [hpl.out]; exact ha) w'
            have cPa := hPc.cellD a (by rw [hpl.out]; exact ha)
            have iPb := fun w' => hPc.idx b (by rw [hpl.out]; exact hb) w'
            have cPb := hPc.cellD b (by rw [hpl.out]; exact hb)
            have hpeq := hps.out.eq ha hb
            have hgu := hu.out.goes
            have hgv := hu2.out.goes
            obtain ⟨pa, hpa⟩ : ∃ pa, ps.getD a 0 = pa := ⟨_, rfl⟩
            obtain ⟨pb, hpb⟩ : ∃ pb, ps.getD b 0 = pb := ⟨_, rfl⟩
            rw [hpa] at cPa hpeq
            rw [hpb] at cPb hpeq
            generalize valAt pv a = aa at *
            generalize valAt pv b = ba at *
            replace hpa := Lib.hid hpa
            replace hpb := Lib.hid hpb
            replace hPc := Lib.hid hPc
            by_cases hu0 : u = []
            · have hq : (pa == pb) = false := by
                rw [beq_eq_false_iff_ne]; intro e
                exact absurd (hgu.2 (hpeq.1 e).1) (by simpa using hu0)
              have hab : ((a : Int) == (b : Int)) = false := by
                rw [beq_eq_false_iff_ne]; intro e
                have e : a = b := by omega
                subst e
                exact absurd (hgu.2 (.refl a)) (by simpa using hu0)
              have lW0 : ∀ w' : World, (Builtin.len_ #[22] 3 #[wv]).run Tryd.prog w' = .ok (.int .i64 0) w' := fun w' => by rw [lW, hu0]; rfl
              clear lW hpeq hgu hgv
              replace hu0 := Lib.hid hu0
              refine wp_region_plan (fun w' => w'.cell? aa = some (.int .i64 pa) ∧ w'.cell? ba = some (.int .i64 pb)) 27 [(0, true), (1, true), (2, true), (3, true), (4, true), (5, true), (6, true), (7, true), (8, true), (9, true), (10, true), (11, true), (12, true), (13, true), (14, true), (15, true), (16, true), (17, true), (18, true), (19, true), (20, true), (21, true), (22, true), (23, true), (24, true), (25, true), (26, true)] (by kernel_rfl) (by kernel_rfl) ?_
              have hS : wc.drew.cell? aa = some (.int .i64 pa) ∧ wc.drew.cell? ba = some (.int .i64 pb) := ⟨cPa, cPb⟩
              refine headY (v := ?_) (some 136) rfl rfl (Or.inl ⟨by rfl, ?_⟩) hS ?_
              rotate_left
              · rintro W' ⟨s0, s1⟩; go_simp; try with_reducible rfl
              simp only [Act.put, List.setIfInBounds_toArray, List.set_cons_zero, List.set_cons_succ]
              refine headY (v := ?_) (some 137) rfl rfl (Or.inl ⟨by rfl, ?_⟩) hS ?_
              rotate_left
              · rintro W' ⟨s0, s1⟩; go_simp; try with_reducible rfl
              simp only [Act.put, List.setIfInBounds_toArray, List.set_cons_zero, List.set_cons_succ]
              refine headY (v := ?_) (some 138) rfl rfl (Or.inl ⟨by rfl, ?_⟩) hS ?_
              rotate_left
              · rintro W' ⟨s0, s1⟩; go_simp; try with_reducible rfl
              simp only [Act.put, List.setIfInBounds_toArray, List.set_cons_zero, List.set_cons_succ]
              refine headY (v := ?_) (some 139) rfl rfl (Or.inl ⟨by rfl, ?_⟩) hS ?_
              rotate_left
              · rintro W' ⟨s0, s1⟩; go_simp; try with_reducible rfl
              simp only [Act.put, List.setIfInBounds_toArray, List.set_cons_zero, List.set_cons_succ]
              refine headY (v := ?_) (some 140) rfl rfl (Or.inl ⟨by rfl, ?_⟩) hS ?_
              rotate_left
              · rintro W' ⟨s0, s1⟩; go_simp; try with_reducible rfl
              simp only [Act.put, List.setIfInBounds_toArray, List.set_cons_zero, List.set_cons_succ]
              refine headY (v := ?_) (some 141) rfl rfl (Or.inl ⟨by rfl, ?_⟩) hS ?_
              rotate_left
              · rintro W' ⟨s0, s1⟩; go_simp; try with_reducible rfl
              simp only [Act.put, List.setIfInBounds_toArray, List.set_cons_zero, List.set_cons_succ]
              refine headY (v := ?_) (some 142) rfl rfl (Or.inl ⟨by rfl, ?_⟩) hS ?_
              rotate_left
              · rintro W' ⟨s0, s1⟩; go_simp; try with_reducible rfl
              simp only [Act.put, List.setIfInBounds_toArray, List.set_cons_zero, List.set_cons_succ]
              refine headY (v := ?_) (some 143) rfl rfl (Or.inl ⟨by rfl, ?_⟩) hS ?_
              rotate_left
              · rintro W' ⟨s0, s1⟩; go_simp; try with_reducible rfl
              simp only [Act.put, List.setIfInBounds_toArray, List.set_cons_zero, List.set_cons_succ]
              refine headY (v := ?_) (some 144) rfl rfl (Or.inl ⟨by rfl, ?_⟩) hS ?_
              rotate_left
              · rintro W' ⟨s0, s1⟩; go_simp; try with_reducible rfl
              simp only [Act.put, List.setIfInBounds_toArray, List.set_cons_zero, List.set_cons_succ]
              refine headY (v := ?_) (some 145) rfl rfl (Or.inl ⟨by rfl, ?_⟩) hS ?_
              rotate_left
              · rintro W' ⟨s0, s1⟩; go_simp; try with_reducible rfl
              simp only [Act.put, List.setIfInBounds_toArray, List.set_cons_zero, List.set_cons_succ]
              refine headY (v := ?_) (some 146) rfl rfl (Or.inl ⟨by rfl, ?_⟩) hS ?_
              rotate_left
              · rintro W' ⟨s0, s1⟩; go_simp; try with_reducible rfl
              simp only [Act.put, List.setIfInBounds_toArray, List.set_cons_zero, List.set_cons_succ]
              refine headY (v := ?_) (some 147) rfl rfl (Or.inl ⟨by rfl, ?_⟩) hS ?_
              rotate_left
              · rintro W' ⟨s0, s1⟩; go_simp; try with_reducible rfl
              simp only [Act.put, List.setIfInBounds_toArray, List.set_cons_zero, List.set_cons_succ]
              refine headY (v := ?_) (some 148) rfl rfl (Or.inl ⟨by rfl, ?_⟩) hS ?_
              rotate_left
              · rintro W' ⟨s0, s1⟩; go_simp; try with_reducible rfl
              simp only [Act.put, List.setIfInBounds_toArray, List.set_cons_zero, List.set_cons_succ]
              refine headY (v := undef) (some 149) rfl rfl (Or.inr ⟨by rfl, rfl⟩) hS ?_
              simp only [Act.put, List.setIfInBounds_toArray, List.set_cons_zero, List.set_cons_succ]
              refine headY (v := undef) (some 150) rfl rfl (Or.inr ⟨by rfl, rfl⟩) hS ?_
              simp only [Act.put, List.setIfInBounds_toArray, List.set_cons_zero, List.set_cons_succ]
              refine headY (v := undef) (some 151) rfl rfl (Or.inr ⟨by rfl, rfl⟩) hS ?_
              simp only [Act.put, List.setIfInBounds_toArray, List.set_cons_zero, List.set_cons_succ]
              refine headY (v := ?_) (some 152) rfl rfl (Or.inl ⟨by rfl, ?_⟩) hS ?_
              rotate_left
              · rintro W' ⟨s0, s1⟩; go_simp; try with_reducible rfl
              simp only [Act.put, List.setIfInBounds_toArray, List.set_cons_zero, List.set_cons_succ]
              refine headY (v := ?_) (some 153) rfl rfl (Or.inl ⟨by rfl, ?_⟩) hS ?_
              rotate_left
              · rintro W' ⟨s0, s1⟩; go_simp; try with_reducible rfl
              simp only [Act.put, List.setIfInBounds_toArray, List.set_cons_zero, List.set_cons_succ]
              refine headY (v := ?_) (some 154) rfl rfl (Or.inl ⟨by rfl, ?_⟩) hS ?_
              rotate_left
              · rintro W' ⟨s0, s1⟩; go_simp; try with_reducible rfl
              simp only [Act.put, List.setIfInBounds_toArray, List.set_cons_zero, List.set_cons_succ]
              refine headY (v := ?_) (some 155) rfl rfl (Or.inl ⟨by rfl, ?_⟩) hS ?_
              rotate_left
              · rintro W' ⟨s0, s1⟩; go_simp; try with_reducible rfl
              simp only [Act.put, List.setIfInBounds_toArray, List.set_cons_zero, List.set_cons_succ]
              refine headY (v := ?_) (some 156) rfl rfl (Or.inl ⟨by rfl, ?_⟩) hS ?_
              rotate_left
              · rintro W' ⟨s0, s1⟩; go_simp; try with_reducible rfl
              simp only [Act.put, List.setIfInBounds_toArray, List.set_cons_zero, List.set_cons_succ]
              refine headY (v := ?_) (some 157) rfl rfl (Or.inl ⟨by rfl, ?_⟩) hS ?_
              rotate_left
              · rintro W' ⟨s0, s1⟩; go_simp; try with_reducible rfl
              simp only [Act.put, List.setIfInBounds_toArray, List.set_cons_zero, List.set_cons_succ]
              refine headY (v := ?_) (some 158) rfl rfl (Or.inl ⟨by rfl, ?_⟩) hS ?_
              rotate_left
              · rintro W' ⟨s0, s1⟩; go_simp; try with_reducible rfl
              simp only [Act.put, List.setIfInBounds_toArray, List.set_cons_zero, List.set_cons_succ]
              refine headY (v := undef) (some 159) rfl rfl (Or.inr ⟨by rfl, rfl⟩) hS ?_
              simp only [Act.put, List.setIfInBounds_toArray, List.set_cons_zero, List.set_cons_succ]
              refine headY (v := undef) (some 160) rfl rfl (Or.inr ⟨by rfl, rfl⟩) hS ?_
              simp only [Act.put, List.setIfInBounds_toArray, List.set_cons_zero, List.set_cons_succ]
              refine headY (v := undef) (some 161) rfl rfl (Or.inr ⟨by rfl, rfl⟩) hS ?_
              simp only [Act.put, List.setIfInBounds_toArray, List.set_cons_zero, List.set_cons_succ]
              refine headY (v := ?_) (some 162) rfl rfl (Or.inl ⟨by rfl, ?_⟩) hS ?_
              rotate_left
              · rintro W' ⟨s0, s1⟩; go_simp; try with_reducible rfl
              simp only [Act.put, List.setIfInBounds_toArray, List.set_cons_zero, List.set_cons_succ]
              refine head0 ?_
              simp only [List.drop_succ_cons, List.drop_zero]
              clear hS
              go_wp2
              refine NoPanic.normal ?_
              go_wp2
              go_meet
              case rel => exact ⟨rfl, bc.drew⟩
            · have hum : ∃ m, u.length = m + 1 := ⟨u.length - 1, by have : u.length ≠ 0 := fun e => hu0 (List.length_eq_zero_iff.1 e); omega⟩
              obtain ⟨m, hm⟩ := hum
              rw [hm] at lW
              by_cases hv0 : u2 = []
              · have hq : (pa == pb) = false := by
                  rw [beq_eq_false_iff_ne]; intro e
                  exact absurd (hgv.2 (hpeq.1 e).2) (by simpa using hv0)
                have hab : ((a : Int) == (b : Int)) = false := by
                  rw [beq_eq_false_iff_ne]; intro e
                  have e : a = b := by omega
                  subst e
                  exact absurd (hgv.2 (.refl a)) (by simpa using hv0)
                have lV0 : ∀ w' : World, (Builtin.len_ #[22] 3 #[vv]).run Tryd.prog w' = .ok (.int .i64 0) w' := fun w' => by rw [lV, hv0]; rfl
                clear lV hpeq hgu hgv
                replace hv0 := Lib.hid hv0
                replace hu0 := Lib.hid hu0
                replace hm := Lib.hid hm
                refine wp_region_plan (fun w' => w'.cell? aa = some (.int .i64 pa) ∧ w'.cell? ba = some (.int .i64 pb)) 27 [(0, true), (1, true), (2, true), (3, true), (4, true), (5, true), (6, true), (7, true), (8, true), (9, true), (10, true), (11, true), (12, true), (13, true), (14, true), (15, true), (16, true), (17, true), (18, true), (19, true), (20, true), (21, true), (22, true), (23, true), (24, true), (25, true), (26, true)] (by kernel_rfl) (by kernel_rfl) ?_
                have hS : wc.drew.cell? aa = some (.int .i64 pa) ∧ wc.drew.cell? ba = some (.int .i64 pb) := ⟨cPa, cPb⟩
                refine headY (v := ?_) (some 136) rfl rfl (Or.inl ⟨by rfl, ?_⟩) hS ?_
                rotate_left
                · rintro W' ⟨s0, s1⟩; go_simp; try with_reducible rfl
                simp only [Act.put, List.setIfInBounds_toArray, List.set_cons_zero, List.set_cons_succ]
                refine headY (v := ?_) (some 137) rfl rfl (Or.inl ⟨by rfl, ?_⟩) hS ?_
                rotate_left
                · rintro W' ⟨s0, s1⟩; go_simp; try with_reducible rfl
                simp only [Act.put, List.setIfInBounds_toArray, List.set_cons_zero, List.set_cons_succ]
                refine headY (v := ?_) (some 138) rfl rfl (Or.inl ⟨by rfl, ?_⟩) hS ?_
                rotate_left
                · rintro W' ⟨s0, s1⟩; go_simp; try with_reducible rfl
                simp only [Act.put, List.setIfInBounds_toArray, List.set_cons_zero, List.set_cons_succ]
                refine headY (v := ?_) (some 139) rfl rfl (Or.inl ⟨by rfl, ?_⟩) hS ?_
                rotate_left
                · rintro W' ⟨s0, s1⟩; go_simp; try with_reducible rfl
                simp only [Act.put, List.setIfInBounds_toArray, List.set_cons_zero, List.set_cons_succ]
                refine headY (v := ?_) (some 140) rfl rfl (Or.inl ⟨by rfl, ?_⟩) hS ?_
                rotate_left
                · rintro W' ⟨s0, s1⟩; go_simp; try with_reducible rfl
                simp only [Act.put, List.setIfInBounds_toArray, List.set_cons_zero, List.set_cons_succ]
                refine headY (v := ?_) (some 141) rfl rfl (Or.inl ⟨by rfl, ?_⟩) hS ?_
                rotate_left
                · rintro W' ⟨s0, s1⟩; go_simp; try with_reducible rfl
                simp only [Act.put, List.setIfInBounds_toArray, List.set_cons_zero, List.set_cons_succ]
                refine headY (v := ?_) (some 142) rfl rfl (Or.inl ⟨by rfl, ?_⟩) hS ?_
                rotate_left
                · rintro W' ⟨s0, s1⟩; go_simp; try with_reducible rfl
                simp only [Act.put, List.setIfInBounds_toArray, List.set_cons_zero, List.set_cons_succ]
                refine headY (v := ?_) (some 143) rfl rfl (Or.inl ⟨by rfl, ?_⟩) hS ?_
                rotate_left
                · rintro W' ⟨s0, s1⟩; go_simp; try with_reducible rfl
                simp only [Act.put, List.setIfInBounds_toArray, List.set_cons_zero, List.set_cons_succ]
                refine headY (v := ?_) (some 144) rfl rfl (Or.inl ⟨by rfl, ?_⟩) hS ?_
                rotate_left
                · rintro W' ⟨s0, s1⟩; go_simp; try with_reducible rfl
                simp only [Act.put, List.setIfInBounds_toArray, List.set_cons_zero, List.set_cons_succ]
                refine headY (v := ?_) (some 145) rfl rfl (Or.inl ⟨by rfl, ?_⟩) hS ?_
                rotate_left
                · rintro W' ⟨s0, s1⟩; go_simp; try with_reducible rfl
                simp only [Act.put, List.setIfInBounds_toArray, List.set_cons_zero, List.set_cons_succ]
                refine headY (v := ?_) (some 146) rfl rfl (Or.inl ⟨by rfl, ?_⟩) hS ?_
                rotate_left
                · rintro W' ⟨s0, s1⟩; go_simp; try with_reducible rfl
                simp only [Act.put, List.setIfInBounds_toArray, List.set_cons_zero, List.set_cons_succ]
                refine headY (v := ?_) (some 147) rfl rfl (Or.inl ⟨by rfl, ?_⟩) hS ?_
                rotate_left
                · rintro W' ⟨s0, s1⟩; go_simp; try with_reducible rfl
                simp only [Act.put, List.setIfInBounds_toArray, List.set_cons_zero, List.set_cons_succ]
                refine headY (v := ?_) (some 148) rfl rfl (Or.inl ⟨by rfl, ?_⟩) hS ?_
                rotate_left
                · rintro W' ⟨s0, s1⟩; go_simp; try with_reducible rfl
                simp only [Act.put, List.setIfInBounds_toArray, List.set_cons_zero, List.set_cons_succ]
                refine headY (v := ?_) (some 149) rfl rfl (Or.inl ⟨by rfl, ?_⟩) hS ?_
                rotate_left
                · rintro W' ⟨s0, s1⟩; go_simp; try with_reducible rfl
                simp only [Act.put, List.setIfInBounds_toArray, List.set_cons_zero, List.set_cons_succ]
                refine headY (v := ?_) (some 150) rfl rfl (Or.inl ⟨by rfl, ?_⟩) hS ?_
                rotate_left
                · rintro W' ⟨s0, s1⟩; go_simp; try with_reducible rfl
                simp only [Act.put, List.setIfInBounds_toArray, List.set_cons_zero, List.set_cons_succ]
                refine headY (v := ?_) (some 151) rfl rfl (Or.inl ⟨by rfl, ?_⟩) hS ?_
                rotate_left
                · rintro W' ⟨s0, s1⟩; go_simp; try with_reducible rfl
                simp only [Act.put, List.setIfInBounds_toArray, List.set_cons_zero, List.set_cons_succ]
                refine headY (v := ?_) (some 152) rfl rfl (Or.inl ⟨by rfl, ?_⟩) hS ?_
                rotate_left
                · rintro W' ⟨s0, s1⟩; go_simp; try with_reducible rfl
                simp only [Act.put, List.setIfInBounds_toArray, List.set_cons_zero, List.set_cons_succ]
                refine headY (v := ?_) (some 153) rfl rfl (Or.inl ⟨by rfl, ?_⟩) hS ?_
                rotate_left
                · rintro W' ⟨s0, s1⟩; go_simp; try with_reducible rfl
                simp only [Act.put, List.setIfInBounds_toArray, List.set_cons_zero, List.set_cons_succ]
                refine headY (v := ?_) (some 154) rfl rfl (Or.inl ⟨by rfl, ?_⟩) hS ?_
                rotate_left
                · rintro W' ⟨s0, s1⟩; go_simp; try with_reducible rfl
                simp only [Act.put, List.setIfInBounds_toArray, List.set_cons_zero, List.set_cons_succ]
                refine headY (v := ?_) (some 155) rfl rfl (Or.inl ⟨by rfl, ?_⟩) hS ?_
                rotate_left
                · rintro W' ⟨s0, s1⟩; go_simp; try with_reducible rfl
                simp only [Act.put, List.setIfInBounds_toArray, List.set_cons_zero, List.set_cons_succ]
                refine headY (v := ?_) (some 156) rfl rfl (Or.inl ⟨by rfl, ?_⟩) hS ?_
                rotate_left
                · rintro W' ⟨s0, s1⟩; go_simp; try with_reducible rfl
                simp only [Act.put, List.setIfInBounds_toArray, List.set_cons_zero, List.set_cons_succ]
                refine headY (v := ?_) (some 157) rfl rfl (Or.inl ⟨by rfl, ?_⟩) hS ?_
                rotate_left
                · rintro W' ⟨s0, s1⟩; go_simp; try with_reducible rfl
                simp only [Act.put, List.setIfInBounds_toArray, List.set_cons_zero, List.set_cons_succ]
                refine headY (v := ?_) (some 158) rfl rfl (Or.inl ⟨by rfl, ?_⟩) hS ?_
                rotate_left
                · rintro W' ⟨s0, s1⟩; go_simp; try with_reducible rfl
                simp only [Act.put, List.setIfInBounds_toArray, List.set_cons_zero, List.set_cons_succ]
                refine headY (v := undef) (some 159) rfl rfl (Or.inr ⟨by rfl, rfl⟩) hS ?_
                simp only [Act.put, List.setIfInBounds_toArray, List.set_cons_zero, List.set_cons_succ]
                refine headY (v := undef) (some 160) rfl rfl (Or.inr ⟨by rfl, rfl⟩) hS ?_
                simp only [Act.put, List.setIfInBounds_toArray, List.set_cons_zero, List.set_cons_succ]
                refine headY (v := undef) (some 161) rfl rfl (Or.inr ⟨by rfl, rfl⟩) hS ?_
                simp only [Act.put, List.setIfInBounds_toArray, List.set_cons_zero, List.set_cons_succ]
                refine headY (v := ?_) (some 162) rfl rfl (Or.inl ⟨by rfl, ?_⟩) hS ?_
                rotate_left
                · rintro W' ⟨s0, s1⟩; go_simp; try with_reducible rfl
                simp only [Act.put, List.setIfInBounds_toArray, List.set_cons_zero, List.set_cons_succ]
                refine head0 ?_
                simp only [List.drop_succ_cons, List.drop_zero]
                clear hS
                go_wp2
                refine NoPanic.normal ?_
                go_wp2
                go_meet
                case rel => exact ⟨rfl, bc.drew⟩
              · have hvm : ∃ m, u2.length = m + 1 := ⟨u2.length - 1, by have : u2.length ≠ 0 := fun e => hv0 (List.length_eq_zero_iff.1 e); omega⟩
                obtain ⟨m2, hm2⟩ := hvm
                rw [hm2] at lV
                have hq : (pa == pb) = true := by
                  rw [beq_iff_eq]
                  exact hpeq.2 ⟨hgu.1 hu0, hgv.1 hv0⟩
                by_cases hab0 : a = b
                · have hab : ((a : Int) == (b : Int)) = true := by simp [hab0]
                  have hm1 : m = 0 := by
                    rcases hu.out with ⟨_, q⟩ | ⟨q, _⟩
                    · subst hab0
                      have := q.self
                      rw [this] at hm
                      simp at hm; omega
                    · exact absurd q hu0
                  subst hm1
                  clear hpeq hgu hgv
                  replace hab0 := Lib.hid hab0
                  replace hv0 := Lib.hid hv0
                  replace hu0 := Lib.hid hu0
                  replace hm := Lib.hid hm
                  replace hm2 := Lib.hid hm2
                  refine wp_region_plan (fun w' => w'.cell? aa = some (.int .i64 pa) ∧ w'.cell? ba = some (.int .i64 pb)) 27 [(0, true), (1, true), (2, true), (3, true), (4, true), (5, true), (6, true), (7, true), (8, true), (9, true), (10, true), (11, true), (12, true), (13, true), (14, true), (15, true), (16, true), (17, true), (18, true), (19, true), (20, true), (21, true), (22, true), (23, true), (24, true), (25, true), (26, true)] (by kernel_rfl) (by kernel_rfl) ?_
                  have hS : wc.drew.cell? aa = some (.int .i64 pa) ∧ wc.drew.cell? ba = some (.int .i64 pb) := ⟨cPa, cPb⟩
                  refine headY (v := ?_) (some 136) rfl rfl (Or.inl ⟨by rfl, ?_⟩) hS ?_
                  rotate_left
                  · rintro W' ⟨s0, s1⟩; go_simp; try with_reducible rfl
                  simp only [Act.put, List.setIfInBounds_toArray, List.set_cons_zero, List.set_cons_succ]
                  refine headY (v := ?_) (some 137) rfl rfl (Or.inl ⟨by rfl, ?_⟩) hS ?_
                  rotate_left
                  · rintro W' ⟨s0, s1⟩; go_simp; try with_reducible rfl
                  simp only [Act.put, List.setIfInBounds_toArray, List.set_cons_zero, List.set_cons_succ]
                  refine headY (v := ?_) (some 138) rfl rfl (Or.inl ⟨by rfl, ?_⟩) hS ?_
                  rotate_left
                  · rintro W' ⟨s0, s1⟩; go_simp; try with_reducible rfl
                  simp only [Act.put, List.setIfInBounds_toArray, List.set_cons_zero, List.set_cons_succ]
                  refine headY (v := ?_) (some 139) rfl rfl (Or.inl ⟨by rfl, ?_⟩) hS ?_
                  rotate_left
                  · rintro W' ⟨s0, s1⟩; go_simp; try with_reducible rfl
                  simp only [Act.put, List.setIfInBounds_toArray, List.set_cons_zero, List.set_cons_succ]
                  refine headY (v := ?_) (some 140) rfl rfl (Or.inl ⟨by rfl, ?_⟩) hS ?_
                  rotate_left
                  · rintro W' ⟨s0, s1⟩; go_simp; try with_reducible rfl
                  simp only [Act.put, List.setIfInBounds_toArray, List.set_cons_zero, List.set_cons_succ]
                  refine headY (v := ?_) (some 141) rfl rfl (Or.inl ⟨by rfl, ?_⟩) hS ?_
                  rotate_left
                  · rintro W' ⟨s0, s1⟩; go_simp; try with_reducible rfl
                  simp only [Act.put, List.setIfInBounds_toArray, List.set_cons_zero, List.set_cons_succ]
                  refine headY (v := ?_) (some 142) rfl rfl (Or.inl ⟨by rfl, ?_⟩) hS ?_
                  rotate_left
                  · rintro W' ⟨s0, s1⟩; go_simp; try with_reducible rfl
                  simp only [Act.put, List.setIfInBounds_toArray, List.set_cons_zero, List.set_cons_succ]
                  refine headY (v := ?_) (some 143) rfl rfl (Or.inl ⟨by rfl, ?_⟩) hS ?_
                  rotate_left
                  · rintro W' ⟨s0, s1⟩; go_simp; try with_reducible rfl
                  simp only [Act.put, List.setIfInBounds_toArray, List.set_cons_zero, List.set_cons_succ]
                  refine headY (v := ?_) (some 144) rfl rfl (Or.inl ⟨by rfl, ?_⟩) hS ?_
                  rotate_left
                  · rintro W' ⟨s0, s1⟩; go_simp; try with_reducible rfl
                  simp only [Act.put, List.setIfInBounds_toArray, List.set_cons_zero, List.set_cons_succ]
                  refine headY (v := ?_) (some 145) rfl rfl (Or.inl ⟨by rfl, ?_⟩) hS ?_
                  rotate_left
                  · rintro W' ⟨s0, s1⟩; go_simp; try with_reducible rfl
                  simp only [Act.put, List.setIfInBounds_toArray, List.set_cons_zero, List.set_cons_succ]
                  refine headY (v := ?_) (some 146) rfl rfl (Or.inl ⟨by rfl, ?_⟩) hS ?_
                  rotate_left
                  · rintro W' ⟨s0, s1⟩; go_simp; try with_reducible rfl
                  simp only [Act.put, List.setIfInBounds_toArray, List.set_cons_zero, List.set_cons_succ]
                  refine headY (v := ?_) (some 147) rfl rfl (Or.inl ⟨by rfl, ?_⟩) hS ?_
                  rotate_left
                  · rintro W' ⟨s0, s1⟩; go_simp; try with_reducible rfl
                  simp only [Act.put, List.setIfInBounds_toArray, List.set_cons_zero, List.set_cons_succ]
                  refine headY (v := ?_) (some 148) rfl rfl (Or.inl ⟨by rfl, ?_⟩) hS ?_
                  rotate_left
                  · rintro W' ⟨s0, s1⟩; go_simp; try with_reducible rfl
                  simp only [Act.put, List.setIfInBounds_toArray, List.set_cons_zero, List.set_cons_succ]
                  refine headY (v := ?_) (some 149) rfl rfl (Or.inl ⟨by rfl, ?_⟩) hS ?_
                  rotate_left
                  · rintro W' ⟨s0, s1⟩; go_simp; try with_reducible rfl
                  simp only [Act.put, List.setIfInBounds_toArray, List.set_cons_zero, List.set_cons_succ]
                  refine headY (v := ?_) (some 150) rfl rfl (Or.inl ⟨by rfl, ?_⟩) hS ?_
                  rotate_left
                  · rintro W' ⟨s0, s1⟩; go_simp; try with_reducible rfl
                  simp only [Act.put, List.setIfInBounds_toArray, List.set_cons_zero, List.set_cons_succ]
                  refine headY (v := ?_) (some 151) rfl rfl (Or.inl ⟨by rfl, ?_⟩) hS ?_
                  rotate_left
                  · rintro W' ⟨s0, s1⟩; go_simp; try with_reducible rfl
                  simp only [Act.put, List.setIfInBounds_toArray, List.set_cons_zero, List.set_cons_succ]
                  refine headY (v := ?_) (some 152) rfl rfl (Or.inl ⟨by rfl, ?_⟩) hS ?_
                  rotate_left
                  · rintro W' ⟨s0, s1⟩; go_simp; try with_reducible rfl
                  simp only [Act.put, List.setIfInBounds_toArray, List.set_cons_zero, List.set_cons_succ]
                  refine headY (v := ?_) (some 153) rfl rfl (Or.inl ⟨by rfl, ?_⟩) hS ?_
                  rotate_left
                  · rintro W' ⟨s0, s1⟩; go_simp; try with_reducible rfl
                  simp only [Act.put, List.setIfInBounds_toArray, List.set_cons_zero, List.set_cons_succ]
                  refine headY (v := ?_) (some 154) rfl rfl (Or.inl ⟨by rfl, ?_⟩) hS ?_
                  rotate_left
                  · rintro W' ⟨s0, s1⟩; go_simp; try with_reducible rfl
                  simp only [Act.put, List.setIfInBounds_toArray, List.set_cons_zero, List.set_cons_succ]
                  refine headY (v := ?_) (some 155) rfl rfl (Or.inl ⟨by rfl, ?_⟩) hS ?_
                  rotate_left
                  · rintro W' ⟨s0, s1⟩; go_simp; try with_reducible rfl
                  simp only [Act.put, List.setIfInBounds_toArray, List.set_cons_zero, List.set_cons_succ]
                  refine headY (v := ?_) (some 156) rfl rfl (Or.inl ⟨by rfl, ?_⟩) hS ?_
                  rotate_left
                  · rintro W' ⟨s0, s1⟩; go_simp; try with_reducible rfl
                  simp only [Act.put, List.setIfInBounds_toArray, List.set_cons_zero, List.set_cons_succ]
                  refine headY (v := ?_) (some 157) rfl rfl (Or.inl ⟨by rfl, ?_⟩) hS ?_
                  rotate_left
                  · rintro W' ⟨s0, s1⟩; go_simp; try with_reducible rfl
                  simp only [Act.put, List.setIfInBounds_toArray, List.set_cons_zero, List.set_cons_succ]
                  refine headY (v := ?_) (some 158) rfl rfl (Or.inl ⟨by rfl, ?_⟩) hS ?_
                  rotate_left
                  · rintro W' ⟨s0, s1⟩; go_simp; try with_reducible rfl
                  simp only [Act.put, List.setIfInBounds_toArray, List.set_cons_zero, List.set_cons_succ]
                  refine headY (v := ?_) (some 159) rfl rfl (Or.inl ⟨by rfl, ?_⟩) hS ?_
                  rotate_left
                  · rintro W' ⟨s0, s1⟩; go_simp; try with_reducible rfl
                  simp only [Act.put, List.setIfInBounds_toArray, List.set_cons_zero, List.set_cons_succ]
                  refine headY (v := ?_) (some 160) rfl rfl (Or.inl ⟨by rfl, ?_⟩) hS ?_
                  rotate_left
                  · rintro W' ⟨s0, s1⟩; go_simp; try with_reducible rfl
                  simp only [Act.put, List.setIfInBounds_toArray, List.set_cons_zero, List.set_cons_succ]
                  refine headY (v := ?_) (some 161) rfl rfl (Or.inl ⟨by rfl, ?_⟩) hS ?_
                  rotate_left
                  · rintro W' ⟨s0, s1⟩; go_simp; try with_reducible rfl
                  simp only [Act.put, List.setIfInBounds_toArray, List.set_cons_zero, List.set_cons_succ]
                  refine headY (v := ?_) (some 162) rfl rfl (Or.inl ⟨by rfl, ?_⟩) hS ?_
                  rotate_left
                  · rintro W' ⟨s0, s1⟩; go_simp; try with_reducible rfl
                  simp only [Act.put, List.setIfInBounds_toArray, List.set_cons_zero, List.set_cons_succ]
                  refine head0 ?_
                  simp only [List.drop_succ_cons, List.drop_zero]
                  clear hS
                  go_wp2
                  refine NoPanic.normal ?_
                  go_wp2
                  go_meet
                  case rel => exact ⟨rfl, bc.drew⟩
                · have hab : ((a : Int) == (b : Int)) = false := by rw [beq_eq_false_iff_ne]; omega
                  clear hpeq hgu hgv
                  replace hab0 := Lib.hid hab0
                  replace hv0 := Lib.hid hv0
                  replace hu0 := Lib.hid hu0
                  replace hm := Lib.hid hm
                  replace hm2 := Lib.hid hm2
                  refine wp_region_plan (fun w' => w'.cell? aa = some (.int .i64 pa) ∧ w'.cell? ba = some (.int .i64 pb)) 27 [(0, true), (1, true), (2, true), (3, true), (4, true), (5, true), (6, true), (7, true), (8, true), (9, true), (10, true), (11, true), (12, true), (13, true), (14, true), (15, true), (16, true), (17, true), (18, true), (19, true), (20, true), (21, true), (22, true), (23, true), (24, true), (25, true), (26, true)] (by kernel_rfl) (by kernel_rfl) ?_
                  have hS : wc.drew.cell? aa = some (.int .i64 pa) ∧ wc.drew.cell? ba = some (.int .i64 pb) := ⟨cPa, cPb⟩
                  refine headY (v := ?_) (some 136) rfl rfl (Or.inl ⟨by rfl, ?_⟩) hS ?_
                  rotate_left
                  · rintro W' ⟨s0, s1⟩; go_simp; try with_reducible rfl
                  simp only [Act.put, List.setIfInBounds_toArray, List.set_cons_zero, List.set_cons_succ]
                  refine headY (v := ?_) (some 137) rfl rfl (Or.inl ⟨by rfl, ?_⟩) hS ?_
                  rotate_left
                  · rintro W' ⟨s0, s1⟩; go_simp; try with_reducible rfl
                  simp only [Act.put, List.setIfInBounds_toArray, List.set_cons_zero, List.set_cons_succ]
                  refine headY (v := ?_) (some 138) rfl rfl (Or.inl ⟨by rfl, ?_⟩) hS ?_
                  rotate_left
                  · rintro W' ⟨s0, s1⟩; go_simp; try with_reducible rfl
                  simp only [Act.put, List.setIfInBounds_toArray, List.set_cons_zero, List.set_cons_succ]
                  refine headY (v := ?_) (some 139) rfl rfl (Or.inl ⟨by rfl, ?_⟩) hS ?_
                  rotate_left
                  · rintro W' ⟨s0, s1⟩; go_simp; try with_reducible rfl
                  simp only [Act.put, List.setIfInBounds_toArray, List.set_cons_zero, List.set_cons_succ]
                  refine headY (v := ?_) (some 140) rfl rfl (Or.inl ⟨by rfl, ?_⟩) hS ?_
                  rotate_left
                  · rintro W' ⟨s0, s1⟩; go_simp; try with_reducible rfl
                  simp only [Act.put, List.setIfInBounds_toArray, List.set_cons_zero, List.set_cons_succ]
                  refine headY (v := ?_) (some 141) rfl rfl (Or.inl ⟨by rfl, ?_⟩) hS ?_
                  rotate_left
                  · rintro W' ⟨s0, s1⟩; go_simp; try with_reducible rfl
                  simp only [Act.put, List.setIfInBounds_toArray, List.set_cons_zero, List.set_cons_succ]
                  refine headY (v := ?_) (some 142) rfl rfl (Or.inl ⟨by rfl, ?_⟩) hS ?_
                  rotate_left
                  · rintro W' ⟨s0, s1⟩; go_simp; try with_reducible rfl
                  simp only [Act.put, List.setIfInBounds_toArray, List.set_cons_zero, List.set_cons_succ]
                  refine headY (v := ?_) (some 143) rfl rfl (Or.inl ⟨by rfl, ?_⟩) hS ?_
                  rotate_left
                  · rintro W' ⟨s0, s1⟩; go_simp; try with_reducible rfl
                  simp only [Act.put, List.setIfInBounds_toArray, List.set_cons_zero, List.set_cons_succ]
                  refine headY (v := ?_) (some 144) rfl rfl (Or.inl ⟨by rfl, ?_⟩) hS ?_
                  rotate_left
                  · rintro W' ⟨s0, s1⟩; go_simp; try with_reducible rfl
                  simp only [Act.put, List.setIfInBounds_toArray, List.set_cons_zero, List.set_cons_succ]
                  refine headY (v := ?_) (some 145) rfl rfl (Or.inl ⟨by rfl, ?_⟩) hS ?_
                  rotate_left
                  · rintro W' ⟨s0, s1⟩; go_simp; try with_reducible rfl
                  simp only [Act.put, List.setIfInBounds_toArray, List.set_cons_zero, List.set_cons_succ]
                  refine headY (v := ?_) (some 146) rfl rfl (Or.inl ⟨by rfl, ?_⟩) hS ?_
                  rotate_left
                  · rintro W' ⟨s0, s1⟩; go_simp; try with_reducible rfl
                  simp only [Act.put, List.setIfInBounds_toArray, List.set_cons_zero, List.set_cons_succ]
                  refine headY (v := ?_) (some 147) rfl rfl (Or.inl ⟨by rfl, ?_⟩) hS ?_
                  rotate_left
                  · rintro W' ⟨s0, s1⟩; go_simp; try with_reducible rfl
                  simp only [Act.put, List.setIfInBounds_toArray, List.set_cons_zero, List.set_cons_succ]
                  refine headY (v := ?_) (some 148) rfl rfl (Or.inl ⟨by rfl, ?_⟩) hS ?_
                  rotate_left
                  · rintro W' ⟨s0, s1⟩; go_simp; try with_reducible rfl
                  simp only [Act.put, List.setIfInBounds_toArray, List.set_cons_zero, List.set_cons_succ]
                  refine headY (v := ?_) (some 149) rfl rfl (Or.inl ⟨by rfl, ?_⟩) hS ?_
                  rotate_left
                  · rintro W' ⟨s0, s1⟩; go_simp; try with_reducible rfl
                  simp only [Act.put, List.setIfInBounds_toArray, List.set_cons_zero, List.set_cons_succ]
                  refine headY (v := ?_) (some 150) rfl rfl (Or.inl ⟨by rfl, ?_⟩) hS ?_
                  rotate_left
                  · rintro W' ⟨s0, s1⟩; go_simp; try with_reducible rfl
                  simp only [Act.put, List.setIfInBounds_toArray, List.set_cons_zero, List.set_cons_succ]
                  refine headY (v := ?_) (some 151) rfl rfl (Or.inl ⟨by rfl, ?_⟩) hS ?_
                  rotate_left
                  · rintro W' ⟨s0, s1⟩; go_simp; try with_reducible rfl
                  simp only [Act.put, List.setIfInBounds_toArray, List.set_cons_zero, List.set_cons_succ]
                  refine headY (v := ?_) (some 152) rfl rfl (Or.inl ⟨by rfl, ?_⟩) hS ?_
                  rotate_left
                  · rintro W' ⟨s0, s1⟩; go_simp; try with_reducible rfl
                  simp only [Act.put, List.setIfInBounds_toArray, List.set_cons_zero, List.set_cons_succ]
                  refine headY (v := ?_) (some 153) rfl rfl (Or.inl ⟨by rfl, ?_⟩) hS ?_
                  rotate_left
                  · rintro W' ⟨s0, s1⟩; go_simp; try with_reducible rfl
                  simp only [Act.put, List.setIfInBounds_toArray, List.set_cons_zero, List.set_cons_succ]
                  refine headY (v := ?_) (some 154) rfl rfl (Or.inl ⟨by rfl, ?_⟩) hS ?_
                  rotate_left
                  · rintro W' ⟨s0, s1⟩; go_simp; try with_reducible rfl
                  simp only [Act.put, List.setIfInBounds_toArray, List.set_cons_zero, List.set_cons_succ]
                  refine headY (v := ?_) (some 155) rfl rfl (Or.inl ⟨by rfl, ?_⟩) hS ?_
                  rotate_left
                  · rintro W' ⟨s0, s1⟩; go_simp; try with_reducible rfl
                  simp only [Act.put, List.setIfInBounds_toArray, List.set_cons_zero, List.set_cons_succ]
                  refine headY (v := ?_) (some 156) rfl rfl (Or.inl ⟨by rfl, ?_⟩) hS ?_
                  rotate_left
                  · rintro W' ⟨s0, s1⟩; go_simp; try with_reducible rfl
                  simp only [Act.put, List.setIfInBounds_toArray, List.set_cons_zero, List.set_cons_succ]
                  refine headY (v := ?_) (some 157) rfl rfl (Or.inl ⟨by rfl, ?_⟩) hS ?_
                  rotate_left
                  · rintro W' ⟨s0, s1⟩; go_simp; try with_reducible rfl
                  simp only [Act.put, List.setIfInBounds_toArray, List.set_cons_zero, List.set_cons_succ]
                  refine headY (v := ?_) (some 158) rfl rfl (Or.inl ⟨by rfl, ?_⟩) hS ?_
                  rotate_left
                  · rintro W' ⟨s0, s1⟩; go_simp; try with_reducible rfl
                  simp only [Act.put, List.setIfInBounds_toArray, List.set_cons_zero, List.set_cons_succ]
                  refine headY (v := undef) (some 159) rfl rfl (Or.inr ⟨by rfl, rfl⟩) hS ?_
                  simp only [Act.put, List.setIfInBounds_toArray, List.set_cons_zero, List.set_cons_succ]
                  refine headY (v := undef) (some 160) rfl rfl (Or.inr ⟨by rfl, rfl⟩) hS ?_
                  simp only [Act.put, List.setIfInBounds_toArray, List.set_cons_zero, List.set_cons_succ]
                  refine headY (v := undef) (some 161) rfl rfl (Or.inr ⟨by rfl, rfl⟩) hS ?_
                  simp only [Act.put, List.setIfInBounds_toArray, List.set_cons_zero, List.set_cons_succ]
                  refine headY (v := ?_) (some 162) rfl rfl (Or.inl ⟨by rfl, ?_⟩) hS ?_
                  rotate_left
                  · rintro W' ⟨s0, s1⟩; go_simp; try with_reducible rfl
                  simp only [Act.put, List.setIfInBounds_toArray, List.set_cons_zero, List.set_cons_succ]
                  refine head0 ?_
                  simp only [List.drop_succ_cons, List.drop_zero]
                  clear hS
                  go_wp2
                  refine NoPanic.normal ?_
                  go_wp2
                  go_meet
                  case rel => exact ⟨rfl, bc.drew⟩
        case rest =>
          obtain ⟨rfl, bd⟩ := hcut
          as_aux_lemma =>
            have hsd : w.heap.size ≤ wc.heap.size := Nat.le_trans b07.size bd.size
            obtain ⟨sv, w10, mk10, hs10, hb10⟩ := run_makeW oneBoolG (G.length : Int) G.length wc rfl (by omega)
            have hz : tabB G.length (fun _ => false) = List.replicate G.length (.bool false) := by
              unfold tabB; apply List.ext_getElem <;> simp
            rw [← hz] at hs10
            obtain ⟨sa, sn, sc, rfl⟩ := hs10.shape
            replace hz := Lib.hid hz
            replace hs10 := Lib.hid hs10
            have hnd : u.Nodup := by
              rcases hu.out with ⟨_, q⟩ | ⟨q, _⟩
              · exact q.nodup
              · subst q; exact List.nodup_nil
            replace hnd := Lib.hid hnd
            go_wp2_with fail
            clear mk10
            go_loopw [16] (fun kv wr => ∃ (k : Nat) (m : Nat → Bool), k ≤ u.length ∧ kv = .int .i64 k ∧ OwnV 4 wc.heap.size wr (.slice sa sn sc) (tabB G.length m) ∧ Below wc.heap.size wc wr ∧ ∀ x, x < G.length → (m x = true ↔ ∃ j, j < k ∧ u[j]? = some x)) (fun kv _ => u.length - (intOf kv).toNat)
            case atStart => exact ⟨0, _, by omega, rfl, hs10.out, hb10, fun x _ => ⟨fun q => (by cases q), fun ⟨j, hj, _⟩ => (by omega)⟩⟩
            case round =>
              obtain ⟨k, m, hk, rfl, hs, bs, hm⟩ := hrel
              obtain ⟨wo, rfl⟩ : ∃ wo : World, wo = wr := ⟨_, rfl⟩
              have bso := Below.step bd bs
              have hWo := hW.out.below bso
              by_cases hlt : k < u.length
              · obtain ⟨x, hx⟩ : ∃ x, u[k]? = some x := ⟨_, List.getElem?_eq_getElem hlt⟩
                have hxn := (hcu.out k x hx).1
                have iX := fun w' => hWo.idx k (by rw [castI_len]; exact hlt) w'
                have cX := hWo.cellD k (by rw [castI_len]; exact hlt)
                rw [castI_get hx] at cX
                have iS := fun w' => hs.at.idx oneBoolG x (by rw [tabB_len]; exact hxn) w'
                have cS := hs.at.cellV x (by rw [tabB_len]; exact hxn)
                rw [tabB_get _ _ _ hxn] at cS
                have hmx : m x = false := by
                  cases q : m x with
                  | false => rfl
                  | true =>
                    obtain ⟨j, hj, hjx⟩ := (hm x hxn).1 q
                    have := get_inj hnd.out hjx hx
                    omega
                rw [hmx] at cS
                have fS := hs.frz x (by rw [tabB_len]; exact hxn)
                have kS := (hs.blkB x (by rw [tabB_len]; exact hxn)).2
                have hset := hs.set x (by rw [tabB_len]; exact hxn) (.bool true)
                rw [tabB_upd] at hset
                have hm2 : ∀ y, y < G.length → (updN m x true y = true ↔ ∃ j, j < k + 1 ∧ u[j]? = some y) := fun y hy => by
                  by_cases e : y = x
                  · subst e
                    rw [updN_same]
                    exact ⟨fun _ => ⟨k, by omega, hx⟩, fun _ => rfl⟩
                  · rw [updN_other _ _ _ e, hm y hy]
                    constructor
                    · rintro ⟨j, hj, q⟩; exact ⟨j, by omega, q⟩
                    · rintro ⟨j, hj, q⟩
                      by_cases ej : j = k
                      · subst ej; rw [hx] at q; injection q with q; exact absurd q.symm e
                      · exact ⟨j, by omega, q⟩
                have bset : Below wc.heap.size wc (wo.setCell (valAt (.slice sa sn sc) x) (.bool true)) := bs.setCell kS _
                generalize valAt wv k = xa at *
                generalize valAt (.slice sa sn sc) x = xs at *
                replace hm := Lib.hid hm
                replace hm2 := Lib.hid hm2
                replace hs := Lib.hid hs
                replace hset := Lib.hid hset
                replace hWo := Lib.hid hWo
                replace hx := Lib.hid hx
                replace hmx := Lib.hid hmx
                go_wp2
                go_roundw
                case measure => simp [intOf]; omega
                case rel => exact ⟨k + 1, _, by omega, by go_num, hset.out, bset, hm2.out⟩
              · obtain rfl : k = u.length := by omega
                replace hm := Lib.hid hm
                replace hs := Lib.hid hs
                replace hWo := Lib.hid hWo
                go_upto_if 188 with fail
                go_cut [] from 16 (fun wx => Below w7.heap.size w7 wx)
                case first =>
                  by_cases h2 : 2 < u.length
                  · rcases hu.out with ⟨_, hfi⟩ | ⟨q, _⟩
                    · obtain ⟨u0, t, z, u', rfl⟩ : ∃ u0 t z u', u = u0 :: t :: z :: u' := by
                        match u, h2 with
                        | u0 :: t :: z :: u', _ => exact ⟨u0, t, z, u', rfl⟩
                      obtain ⟨_, hue0⟩ := hfi.way.ne
                      injection hue0 with hue0 _
                      obtain rfl : a = u0 := hue0.symm
                      have ht1 : (a :: t :: z :: u')[1]? = some t := rfl
                      have htn := (hcu.out 1 t ht1).1
                      have htail := hfi.tail
                      have iT : ∀ w', (Instr.indexAt 22 wv (.int .i64 1)).run Tryd.prog w' = .ok (.pointer (some (valAt wv 1))) w' := fun w' => hWo.out.idx 1 (by rw [castI_len]; omega) w'
                      have cT := hWo.out.cellD 1 (by rw [castI_len]; omega)
                      rw [castI_get ht1] at cT
                      obtain ⟨pv2, hsl, hp2⟩ := hWo.out.post 1 (by rw [castI_len]; omega)
                      have hsl : ∀ w', (Instr.slice 22 wv (some (.int .i64 1)) none none).run Tryd.prog w' = .ok pv2 w' := hsl
                      have hdr : (castI (a :: t :: z :: u')).drop 1 = castI (t :: z :: u') := rfl
                      rw [hdr] at hp2
                      generalize valAt wv 1 = ta at *
                      replace hdr := Lib.hid hdr
                      replace hp2 := Lib.hid hp2
                      replace htail := Lib.hid htail
                      replace hfi := Lib.hid hfi
                      replace ht1 := Lib.hid ht1
                      go_wp2_with fail
                      refine (hpath.out wo t b htn hb (Below.step b07 bso)).mono ?_
                      rintro e w11 ⟨xv, _, rfl, b11, rfl, u3, hu3, hxo⟩
                      have hue : u3 = t :: z :: u' := by
                        rcases hu3 with ⟨_, q⟩ | ⟨_, q⟩
                        · exact q.unique htail.out
                        · exact absurd htail.out.way.goes q
                      subst hue
                      replace hxo := Lib.hid hxo
                      go_wp2_with fail
                      refine (ints_any xv pv2 _ _ _ hxo.out.at (hp2.out.below b11)).mono ?_
                      rintro e w12 h12
                      obtain ⟨rfl, b12⟩ := h12.below
                      clear h12
                      rw [show decide (castI (t :: z :: u') = castI (t :: z :: u')) = true by simp]
                      go_wp2
                      go_meet
                      case rel => exact Below.step bso (Below.step b11 b12)
                    · subst q; exact absurd h2 (by simp)
                  · go_wp2
                    go_meet
                    case rel => exact bso
                case rest =>
                  have be := hcut
                  obtain ⟨mv, iR, cR0, hM0⟩ := h.out.row a ha
                  have hgp := hok.out a ha
                  have hgl := hsz.out a ha
                  have hadj : adjOf G a = (G.getD a []).map Int.toNat := rfl
                  generalize G.getD a [] = gx at *
                  have lM := hM0.len
                  generalize valAt (.slice na G.length nc) a = ra at *
                  replace hM0 := Lib.hid hM0
                  replace hgp := Lib.hid hgp
                  replace hadj := Lib.hid hadj
                  clear hs hm hnd hWo bso bs
                  go_wp2_with fail
                  go_loopw [19] (fun kv wr => ∃ k : Nat, k ≤ gx.length ∧ kv = .int .i64 k ∧ Below w7.heap.size w7 wr) (fun kv _ => gx.length - (intOf kv).toNat)
                  case atStart => exact ⟨0, by omega, rfl, be⟩
                  case round =>
                    clear be
                    obtain ⟨k, hk, rfl, be⟩ := hrel
                    obtain ⟨wo, rfl⟩ : ∃ wo : World, wo = wr := ⟨_, rfl⟩
                    have bwo := Below.step b07 be
                    have cR := (bwo.cell (World.block_lt_of_cell? _ _ cR0)).trans cR0
                    by_cases hlt : k < gx.length
                    · have hMo := hM0.out.below bwo
                      have hgj := hgp.out gx[k] (List.getElem_mem hlt)
                      obtain ⟨t, htt⟩ : ∃ t : Nat, gx[k] = t := Int.eq_ofNat_of_zero_le hgj.1
                      have htn : t < G.length := by rw [htt] at hgj; omega
                      have hta : t ∈ adjOf G a := by rw [hadj.out]; exact List.mem_map.2 ⟨gx[k], List.getElem_mem hlt, by rw [htt]; rfl⟩
                      have iK := fun w' => hMo.idx k hlt w'
                      have cK := hMo.cell k hlt
                      rw [htt] at cK
                      generalize valAt mv k = ka at *
                      replace hMo := Lib.hid hMo
                      replace htt := Lib.hid htt
                      replace hgj := Lib.hid hgj
                      replace hta := Lib.hid hta
                      go_wp2_with fail
                      refine (hpath.out wo t b htn hb bwo).mono ?_
                      rintro e w13 ⟨xv, _, rfl, b13, rfl, u3, hu3, hxo⟩
                      have lX := hxo.at.len
                      rw [castI_len] at lX
                      have hx3 := hu3.len hok.out htn
                      by_cases h30 : u3 = []
                      · have lX0 : ∀ w' : World, (Builtin.len_ #[22] 3 #[xv]).run Tryd.prog w' = .ok (.int .i64 0) w' := fun w' => by rw [lX, h30]; rfl
                        clear lX
                        replace h30 := Lib.hid h30
                        replace hu3 := Lib.hid hu3
                        replace hxo := Lib.hid hxo
                        go_wp2
                        go_roundw
                        case measure => simp [intOf]; omega
                        case rel => exact ⟨k + 1, by omega, by go_num, Below.step be b13⟩
                      · have hgt := hu3.goes.1 h30
                        have hga : Goes (adjOf G) a b := (Goes.one hta.out).trans hgt
                        have hune := hu.out.goes.2 hga
                        obtain ⟨m, hm⟩ : ∃ m, u.length = m + 1 := ⟨u.length - 1, by have : u.length ≠ 0 := fun e => hune (List.length_eq_zero_iff.1 e); omega⟩
                        obtain ⟨m3, hm3⟩ : ∃ m3, u3.length = m3 + 1 := ⟨u3.length - 1, by have : u3.length ≠ 0 := fun e => h30 (List.length_eq_zero_iff.1 e); omega⟩
                        have hle2 : m ≤ m3 + 1 := by
                          rcases hu.out with ⟨_, q⟩ | ⟨q, _⟩
                          · rcases hu3 with ⟨_, q3⟩ | ⟨q3, _⟩
                            · have := q.le_cons hta.out q3.way; omega
                            · exact absurd q3 h30
                          · exact absurd q hune
                        rw [hm3] at lX hx3
                        have lW2 : ∀ w' : World, (Builtin.len_ #[22] 3 #[wv]).run Tryd.prog w' = .ok (.int .i64 ((m + 1 : Nat) : Int)) w' := fun w' => by rw [lW, hm]
                        replace h30 := Lib.hid h30
                        replace hu3 := Lib.hid hu3
                        replace hxo := Lib.hid hxo
                        replace hune := Lib.hid hune
                        replace hm := Lib.hid hm
                        replace hm3 := Lib.hid hm3
                        replace hgt := Lib.hid hgt
                        replace hga := Lib.hid hga
                        have hnz : ((m : Int) + 1 == 0) = false := by rw [beq_eq_false_iff_ne]; omega
                        have hng : ¬ ((m3 : Int) + 1 < (m : Int)) := by omega
                        have hng2 : decide ((m3 : Int) + 1 < (m : Int)) = false := by simp; omega
                        clear lW
                        go_wp2
                        go_roundw
                        case measure => simp [intOf]; omega
                        case rel => exact ⟨k + 1, by omega, by go_num, Below.step be b13⟩
                    · go_wp2
                      go_ret
                      exact ⟨_, rfl, bwo, rfl⟩
end Go.Proofs.YtbpdmpcakenjhaaDoor

namespace Go.Proofs.YtbpdmpcakenjhaaDoor
open Go.ChangeShapes Go.WideShapes Go.ChangeAt Go.RowKit Go.Joins
set_option maxRecDepth 100000

theorem own : ownKnob Tryd.prog.godebug = none := by kernel_rfl
theorem laidOut : laidOutB Tryd.prog = true := by kernel_rfl
theorem cellsInt : Tryd.prog.cellsOf 3 = 1 := by kernel_rfl
theorem uInt : Tryd.prog.underlying 3 = some (.int .i64) := by kernel_rfl
theorem bytesInt : Tryd.prog.bytesOf 3 = 8 := by kernel_rfl

theorem i64_of_wf {n : Int} (h : (Lit.int .i64 n).wf = true) : I64 n := by
  have := bounds_i64 h
  unfold I64
  omega

/-- A []int that came in. -/
theorem open_intsV {H : Type} {enc : TypeId × Value → H} {W : World} {held : Bool} {fuel : Nat} {v : Value} {y : DataW H × List MemPlace}
    (h : DataW.trod enc Tryd.prog W 0 (fun _ => true) held fuel 22 [v] = some y) (hw : ∀ n ∈ y.1.weights Tryd.prog 22, n ≤ reachBytes) :
    ∃ xs, IntsAt W v xs ∧ xs.length ≤ 17592186043904 ∧ ∀ x ∈ xs, I64 x := by
  rcases open_ints uInts uInt cellsInt h with ⟨hcs, _⟩ | ⟨a, len, cap, zs, hcs, _, hl, hm, hz, hx, hcell, hwz⟩
  · simp at hcs
    subst hcs
    exact ⟨[], (OwnI.nil 0 W).at, by simp, by simp⟩
  · simp at hcs
    subst hcs
    simp only [if_true] at hz
    have hzl : (zs.take len).length = len := by simp; omega
    refine ⟨zs.take len, ⟨some a, cap, by rw [hzl], by rw [hzl]; exact hl, hm, (fun e => by cases e), fun i hi => ?_⟩, ?_, fun x hx => i64_of_wf (hwz x (List.mem_of_mem_take hx))⟩
    · have hi' : i < zs.length := by rw [hzl] at hi; omega
      show W.cell? (a.add i) = _
      rw [hcell i hi']
      simp [List.getD, hi']
    · rw [hx] at hw
      have := hw ((lits (H := H) .i64 (zs.take len)).length * 8 + (lits (H := H) .i64 (zs.drop len)).length * 8) (by
        simp only [DataW.weights, uInts, bytesInt, List.mem_cons]
        left; omega)
      simp only [lits, List.length_map, reachBytes] at this
      omega

theorem open_intsT {H : Type} {enc : TypeId × Value → H} {W : World} {held : Bool} {v : Value} {d : DataW H} {p : List MemPlace} {b0 : Nat}
    (hv : Value.okWide Tryd.prog W .any b0 22 v) (h : DataW.Trod enc Tryd.prog W 0 (fun _ => true) held 22 v d p) (hw : ∀ n ∈ d.weights Tryd.prog 22, n ≤ reachBytes) :
    ∃ xs, IntsAt W v xs ∧ xs.length ≤ 17592186043904 ∧ ∀ x ∈ xs, I64 x := by
  obtain ⟨a, l, c, rfl⟩ := okWide_slice uInts hv
  obtain ⟨fuel, hf⟩ := h
  exact open_intsV (y := (d, p)) (by simpa [Value.cells] using hf) hw

theorem weights_each3 {H : Type} {t0 t1 t2 : TypeId} {y0 y1 y2 : DataW H} {n : Nat} (h : n ∈ y2.weights Tryd.prog t2) : n ∈ DataW.weightsEach Tryd.prog [t0, t1, t2] [y0, y1, y2] := by
  simp only [DataW.weightsEach, List.mem_append]
  exact .inr (.inr (.inl h))

/-- A rule that came in. -/
theorem open_ruleV {H : Type} {enc : TypeId × Value → H} {W : World} {held : Bool} {v : Value} {d : DataW H} {p : List MemPlace} {b0 : Nat}
    (hv : Value.okWide Tryd.prog W .any b0 24 v) (h : DataW.Trod enc Tryd.prog W 0 (fun _ => true) held 24 v d p) (hw : ∀ n ∈ d.weights Tryd.prog 24, n ≤ reachBytes) :
    ∃ (k R : Int) (u : Value) (xs : List Int), v = .agg #[.int .i64 k, .int .i64 R, u] ∧ IntsAt W u xs ∧ xs.length ≤ 17592186043904 ∧ (∀ x ∈ xs, I64 x) ∧ I64 k ∧ I64 R := by
  obtain ⟨v0, v1, v2, y0, y1, y2, n, rfl, rfl, rfl, h0, h1, h2⟩ := open_agg3 Tryd.underlying24 (by kernel_rfl) (by kernel_rfl) hv h
  obtain ⟨a, e0, _, wa⟩ := DataW.trod_int uInt h0
  obtain ⟨b, e1, _, wb⟩ := DataW.trod_int uInt h1
  simp at e0 e1
  subst e0 e1
  obtain ⟨xs, hx, hl, hb⟩ := open_intsV h2 fun n hn => hw n (by
    simp only [DataW.weights, Tryd.underlying24]
    exact weights_each3 (t0 := 3) (t1 := 3) (t2 := 22) hn)
  exact ⟨a, b, v2, xs, rfl, hx, hl, hb, i64_of_wf wa, i64_of_wf wb⟩

/-! The package-level errors. -/
theorem star : "*" ++ "errors.errorString" = "*errors.errorString" := by decide
theorem rowES (u : TypeId) (h : Tryd.prog.typeName? 3 u = some "*errors.errorString") : u = 174 :=
  typeName_ptr_named (nm := "errors.errorString") (by rw [star]; kernel_rfl) (by kernel_rfl) (by decide) u (by rw [star]; exact h)
theorem pES : Tryd.prog.underlying 174 = some (.pointer 195) := by kernel_rfl
theorem cES : Tryd.prog.cellsOf 195 = 1 := by kernel_rfl
theorem cStr : Tryd.prog.cellsOf 9 = 1 := by kernel_rfl

def laid12 : List (String × DataW Unit) := [("eden/api.BadRule", Rows.laid_eden_api_BadRule), ("eden/api.BadWord", Rows.laid_eden_api_BadWord), ("eden/api.BadArg", Rows.laid_eden_api_BadArg), ("eden/api.TooBig", Rows.laid_eden_api_TooBig), ("eden/api.NoBudget", Rows.laid_eden_api_NoBudget), ("eden/api.BadText", Rows.laid_eden_api_BadText), ("eden/api.BadPatch", Rows.laid_eden_api_BadPatch), ("eden/api.BadCert", Rows.laid_eden_api_BadCert), ("eden/api.NoInverse", Rows.laid_eden_api_NoInverse), ("eden/api.BadLine", Rows.laid_eden_api_BadLine), ("eden/api.BadState", Rows.laid_eden_api_BadState), ("eden/api.Unknown", Rows.laid_eden_api_Unknown)]

theorem sentinel {n : String} {text : List UInt8} {r : List (String × DataW Unit)} {W : World} {g : Nat}
    (h : laidMet Tryd.prog ((n, .iface "*errors.errorString" (.ptr (.agg [.lit (.string text)]))) :: r) W)
    (hg : Tryd.prog.globalNamed n = some g) (ht : (Tryd.prog.globals[g]?).map (·.type) = some 27) :
    (∃ a : Addr, W.cell? ⟨g, 0, none⟩ = some (.iface 174 (.pointer (some a))) ∧ ∃ s, W.cell? a = some (.string s) ∧ s.data.toList = text) ∧ laidMet Tryd.prog r W := by
  refine ⟨?_, h.tail⟩
  obtain ⟨a, s, hv, hc, hs, _⟩ := laid_sentinel h hg ht Tryd.underlying27 rowES pES Tryd.underlying195 rfl rfl Tryd.underlying9 cES cStr
  exact ⟨a, by simpa using World.var?_cell hg hv 0, s, hc, hs⟩

def txt : Nat → List UInt8
  | 1 => [98, 97, 100, 32, 114, 117, 108, 101]
  | 2 => [98, 97, 100, 32, 119, 111, 114, 100]
  | 3 => [98, 97, 100, 32, 97, 114, 103, 117, 109, 101, 110, 116]
  | 4 => [116, 111, 111, 32, 98, 105, 103]
  | 5 => [110, 111, 32, 98, 117, 100, 103, 101, 116]
  | 6 => [98, 97, 100, 32, 116, 101, 120, 116]
  | 7 => [98, 97, 100, 32, 112, 97, 116, 99, 104]
  | 8 => [98, 97, 100, 32, 99, 101, 114, 116, 105, 102, 105, 99, 97, 116, 101]
  | 9 => [110, 111, 32, 105, 110, 118, 101, 114, 115, 101]
  | 10 => [98, 97, 100, 32, 108, 105, 110, 101]
  | 11 => [98, 97, 100, 32, 115, 116, 97, 116, 101]
  | 99 => [117, 110, 107, 110, 111, 119, 110]
  | _ => []
theorem txt_apart : ∀ m n : Fin 12, 1 ≤ m.val → 1 ≤ n.val → txt m.val = txt n.val → m = n := by decide

theorem glob_of_laid {W : World} (h : laidMet Tryd.prog laid12 W) : ∃ r, Glob r W := by
  obtain ⟨⟨a1, c1, s1, e1, t1⟩, h⟩ := sentinel (text := txt 1) h (g := 0) (by kernel_rfl) (by kernel_rfl)
  obtain ⟨⟨a2, c2, s2, e2, t2⟩, h⟩ := sentinel (text := txt 2) h (g := 1) (by kernel_rfl) (by kernel_rfl)
  obtain ⟨⟨a3, c3, s3, e3, t3⟩, h⟩ := sentinel (text := txt 3) h (g := 2) (by kernel_rfl) (by kernel_rfl)
  obtain ⟨⟨a4, c4, s4, e4, t4⟩, h⟩ := sentinel (text := txt 4) h (g := 3) (by kernel_rfl) (by kernel_rfl)
  obtain ⟨⟨a5, c5, s5, e5, t5⟩, h⟩ := sentinel (text := txt 5) h (g := 4) (by kernel_rfl) (by kernel_rfl)
  obtain ⟨⟨a6, c6, s6, e6, t6⟩, h⟩ := sentinel (text := txt 6) h (g := 5) (by kernel_rfl) (by kernel_rfl)
  obtain ⟨⟨a7, c7, s7, e7, t7⟩, h⟩ := sentinel (text := txt 7) h (g := 6) (by kernel_rfl) (by kernel_rfl)
  obtain ⟨⟨a8, c8, s8, e8, t8⟩, h⟩ := sentinel (text := txt 8) h (g := 7) (by kernel_rfl) (by kernel_rfl)
  obtain ⟨⟨a9, c9, s9, e9, t9⟩, h⟩ := sentinel (text := txt 9) h (g := 8) (by kernel_rfl) (by kernel_rfl)
  obtain ⟨⟨a10, c10, s10, e10, t10⟩, h⟩ := sentinel (text := txt 10) h (g := 9) (by kernel_rfl) (by kernel_rfl)
  obtain ⟨⟨a11, c11, s11, e11, t11⟩, h⟩ := sentinel (text := txt 11) h (g := 10) (by kernel_rfl) (by kernel_rfl)
  obtain ⟨⟨a99, c99, s99, e99, t99⟩, h⟩ := sentinel (text := txt 99) h (g := 11) (by kernel_rfl) (by kernel_rfl)
  clear h
  have key : ∀ n : Nat, (1 ≤ n ∧ n ≤ 11) ∨ n = 99 → ∃ s, W.cell? ((fun n : Nat => match n with | 1 => a1 | 2 => a2 | 3 => a3 | 4 => a4 | 5 => a5 | 6 => a6 | 7 => a7 | 8 => a8 | 9 => a9 | 10 => a10 | 11 => a11 | _ => a99) n) = some (.string s) ∧ s.data.toList = txt n := by
    intro n hn
    have : n = 1 ∨ n = 2 ∨ n = 3 ∨ n = 4 ∨ n = 5 ∨ n = 6 ∨ n = 7 ∨ n = 8 ∨ n = 9 ∨ n = 10 ∨ n = 11 ∨ n = 99 := by omega
    rcases this with rfl | rfl | rfl | rfl | rfl | rfl | rfl | rfl | rfl | rfl | rfl | rfl
    · exact ⟨s1, e1, t1⟩
    · exact ⟨s2, e2, t2⟩
    · exact ⟨s3, e3, t3⟩
    · exact ⟨s4, e4, t4⟩
    · exact ⟨s5, e5, t5⟩
    · exact ⟨s6, e6, t6⟩
    · exact ⟨s7, e7, t7⟩
    · exact ⟨s8, e8, t8⟩
    · exact ⟨s9, e9, t9⟩
    · exact ⟨s10, e10, t10⟩
    · exact ⟨s11, e11, t11⟩
    · exact ⟨s99, e99, t99⟩
  refine ⟨(fun n : Nat => match n with | 1 => a1 | 2 => a2 | 3 => a3 | 4 => a4 | 5 => a5 | 6 => a6 | 7 => a7 | 8 => a8 | 9 => a9 | 10 => a10 | 11 => a11 | _ => a99), c1, c2, c3, c4, c5, c6, c7, c8, c9, c10, c11, c99, (fun n hn => ?_), fun m n hm1 hm2 hn1 hn2 he => ?_⟩
  · obtain ⟨s, hs, _⟩ := key n hn
    exact ⟨s, hs⟩
  · obtain ⟨s, hs, ts⟩ := key m.toNat (by omega)
    obtain ⟨s', hs', ts'⟩ := key n.toNat (by omega)
    have hss : s = s' := by
      have := hs.symm.trans ((congrArg W.cell? he).trans hs')
      simpa using this
    subst hss
    have := txt_apart ⟨m.toNat, by omega⟩ ⟨n.toNat, by omega⟩ (by simp; omega) (by simp; omega) (ts.symm.trans ts')
    have := congrArg Fin.val this
    simp at this
    omega
end Go.Proofs.YtbpdmpcakenjhaaDoor

namespace Go.Proofs.YtbpdmpcakenjhaaDoor
open Go.ChangeShapes Go.WideShapes Go.ChangeAt Go.RowKit Go.Joins
set_option maxRecDepth 100000

theorem uLists : Tryd.prog.underlying 32 = some (.slice 22) := by kernel_rfl
theorem cellsInts : Tryd.prog.cellsOf 22 = 1 := by kernel_rfl
theorem bytesInts : Tryd.prog.bytesOf 22 = 24 := by kernel_rfl

theorem weightsAll_mem {H : Type} {P : Program} {e : TypeId} : ∀ {l : List (DataW H)} {d : DataW H}, d ∈ l → ∀ n ∈ d.weights P e, n ∈ DataW.weightsAll P e l
  | x :: l, d, hd, n, hn => by
    simp only [DataW.weightsAll]
    rcases List.mem_cons.1 hd with rfl | hd
    · exact List.mem_append_left _ hn
    · exact List.mem_append_right _ (weightsAll_mem hd n hn)

theorem open_listsV {H : Type} {enc : TypeId × Value → H} {W : World} {held : Bool} {fuel : Nat} {v : Value} {y : DataW H × List MemPlace}
    (h : DataW.trod enc Tryd.prog W 0 (fun _ => true) held fuel 32 [v] = some y) (hw : ∀ n ∈ y.1.weights Tryd.prog 32, n ≤ reachBytes) :
    ∃ (na : Option Addr) (nc : Nat) (G : List (List Int)), v = .slice na G.length nc ∧ ListsAt W v G ∧ G.length ≤ 5864062014805 ∧ ∀ k, k < G.length → (G.getD k []).length ≤ 17592186043904 ∧ ∀ x ∈ G.getD k [], I64 x := by
  rcases DataW.trod_slice uLists h with ⟨hcs, _⟩ | ⟨a, len, cap, elems, rest, n, _, hcs, hy, _, hl, hm, hlen, hel, _, _⟩
  · simp at hcs
    subst hcs
    refine ⟨none, 0, [], rfl, ⟨[], ⟨none, 0, rfl, Nat.le_refl 0, by unfold maxLen; omega, fun _ => rfl, fun i hi => absurd hi (by simp)⟩, rfl, fun i hi => absurd hi (by simp)⟩, by simp, fun k hk => absurd hk (by simp)⟩
  · simp only [List.cons.injEq, and_true] at hcs
    subst hcs
    subst hy
    have hone : ∀ i, i < len → ∃ u d p, W.cell? (a.add i) = some u ∧ elems[i]? = some (d, p) ∧ DataW.trod enc Tryd.prog W 0 (fun _ => true) held n 22 [u] = some (d, p) := by
      intro i hi
      have hi' : i < elems.length := by omega
      have := hel i hi
      rw [List.getElem?_eq_getElem hi', cellsInts, Nat.mul_one, Option.bind_eq_some_iff] at this
      obtain ⟨cs', h1, h2⟩ := this
      obtain ⟨_, hcl, hcc⟩ := World.cells?_some h1
      match cs', hcl with
      | [c], _ =>
        have h0 := hcc 0 (by omega)
        exact ⟨c, _, _, by simpa [Addr.add] using h0, List.getElem?_eq_getElem hi', h2⟩
    have hall : ∀ i, i < len → ∃ u xs, W.cell? (a.add i) = some u ∧ IntsAt W u xs ∧ xs.length ≤ 17592186043904 ∧ ∀ x ∈ xs, I64 x := by
      intro i hi
      obtain ⟨u, d, p, h1, h2, h3⟩ := hone i hi
      obtain ⟨xs, q1, q2, q3⟩ := open_intsV (y := (d, p)) h3 (fun m hm' => hw m (by
        simp only [DataW.weights, uLists]
        refine List.mem_cons_of_mem _ (List.mem_append_left _ (weightsAll_mem (d := d) (List.mem_map.2 ⟨(d, p), List.mem_of_getElem? h2, rfl⟩) _ hm'))))
      exact ⟨u, xs, h1, q1, q2, q3⟩
    have hN : len ≤ 5864062014805 := by
      have := hw ((List.map (fun x => x.1) elems).length * 24 + (List.map (fun x => x.1) rest).length * 24) (by
        simp only [DataW.weights, uLists, bytesInts, List.mem_cons]
        left; omega)
      simp only [List.length_map, reachBytes] at this
      omega
    let U : Nat → Value := fun i => if hi : i < len then (hall i hi).choose else undef
    let X : Nat → List Int := fun i => if hi : i < len then (hall i hi).choose_spec.choose else []
    have hUX : ∀ i, i < len → W.cell? (a.add i) = some (U i) ∧ IntsAt W (U i) (X i) ∧ (X i).length ≤ 17592186043904 ∧ ∀ x ∈ X i, I64 x := by
      intro i hi
      simp only [U, X, dif_pos hi]
      exact (hall i hi).choose_spec.choose_spec
    have hGl : ((List.range len).map X).length = len := by simp
    have hG : ∀ i, i < len → ((List.range len).map X).getD i [] = X i := by
      intro i hi
      simp [List.getD, hi]
    have hVl : ((List.range len).map U).length = len := by simp
    refine ⟨some a, cap, (List.range len).map X, by rw [hGl], ⟨(List.range len).map U, ⟨some a, cap, by rw [hVl], by rw [hVl]; exact hl, hm, (fun e => by cases e), fun i hi => ?_⟩, by rw [hVl, hGl], fun i hi => ?_⟩, by rw [hGl]; exact hN, fun k hk => ?_⟩
    · rw [hVl] at hi
      show W.cell? (a.add i) = _
      rw [(hUX i hi).1]
      simp
    · rw [hGl] at hi
      rw [hG i hi]
      have : vAt ((List.range len).map U) i = U i := by simp [vAt, List.getD, hi]
      rw [this]
      exact (hUX i hi).2.1
    · rw [hGl] at hk
      rw [hG k hk]
      exact (hUX k hk).2.2

theorem open_listsT {H : Type} {enc : TypeId × Value → H} {W : World} {held : Bool} {v : Value} {d : DataW H} {p : List MemPlace} {b0 : Nat}
    (hv : Value.okWide Tryd.prog W .any b0 32 v) (h : DataW.Trod enc Tryd.prog W 0 (fun _ => true) held 32 v d p) (hw : ∀ n ∈ d.weights Tryd.prog 32, n ≤ reachBytes) :
    ∃ (na : Option Addr) (nc : Nat) (G : List (List Int)), v = .slice na G.length nc ∧ ListsAt W v G ∧ G.length ≤ 5864062014805 ∧ ∀ k, k < G.length → (G.getD k []).length ≤ 17592186043904 ∧ ∀ x ∈ G.getD k [], I64 x := by
  obtain ⟨a, l, c, rfl⟩ := okWide_slice uLists hv
  obtain ⟨fuel, hf⟩ := h
  exact open_listsV (y := (d, p)) (by simpa [Value.cells] using hf) hw
end Go.Proofs.YtbpdmpcakenjhaaDoor

namespace Go.Proofs.YtbpdmpcakenjhaaDoor
open Go.ChangeShapes Go.WideShapes Go.ChangeAt Go.RowKit Go.Joins
namespace GraphGoesP

set_option maxRecDepth 100000 in
theorem door_met (os : Os) (args : Array Value) : laidMetH Tryd.prog Rows.graphGoesRow.laid ((World.doorLaid Tryd.prog 400 os).forCall (fun _ _ => 0) ⟨#[], args, []⟩).memory :=
  laidMetH_of_parts3 (fuel := 8) (laidMet_of_run' 8 (by kernel_rfl) (by kernel_rfl)) (by kernel_rfl) (by kernel_rfl)

set_option maxRecDepth 100000 in
theorem lifted (os : Os) (started : os.Started) (H : Type) (enc : TypeId × Value → H) :
    ReturnsInHanded {} Tryd.checked os 4 .any (fun w args => (Rows.graphGoesSpec.pre enc Tryd.prog Tryd.f4 [] false w args ∧ laidMetH Tryd.prog Rows.graphGoesRow.laid w) ∧ sizedMet enc Tryd.prog Tryd.f4 (OpenSpec.ofChange Rows.graphGoesSpec) false w args)
      (Rows.graphGoesSpec.post enc Tryd.prog Tryd.f4 false true false false) := by
  refine returnsInHanded_of_change_and (C := Tryd.checked) (X := fun w _ => laidMetH Tryd.prog Rows.graphGoesRow.laid w) (fun _ _ _ hh h => h.of_heap hh) own started (by kernel_rfl) Tryd.func4
    (ChangeSpec.witness_shaped (enc := enc) (C := Tryd.checked) (os := os) (X := fun w _ => laidMetH Tryd.prog Rows.graphGoesRow.laid w) false (World.doorLaid Tryd.prog 400 os) #[.slice none 0 0, .int .i64 0, .int .i64 0] 8 rfl (World.shaped_of_RefB (by kernel_rfl) (by kernel_rfl)) (by kernel_rfl) (by kernel_rfl) (by kernel_rfl) (door_met os _)) ?_
  intro W base args ds gs before hval0 hW _ hsz hL _
  have hval : ∀ (j : Nat) t v, Tryd.f4.params[j]? = some t → args[j]? = some v → Value.okWide Tryd.prog W .any base t v := hval0
  have hW' := hW
  obtain ⟨p, q, hA0, hV, rfl, hfz, hnd⟩ := hW
  have hA : DataW.TrodAll enc Tryd.prog W 0 (fun _ => true) true Tryd.f4.params.toList args.toList ds p := hA0
  rw [Tryd.params4] at hA hval hsz
  obtain ⟨v0, vs0, d0, ds0, p0, q0, hargs, rfl, rfl, g0, t0⟩ := trodAll_cons hA
  obtain ⟨v1, vs1, d1, ds1, p1, q1, rfl, rfl, rfl, g1, t1⟩ := trodAll_cons t0
  obtain ⟨v2, vs2, d2, ds2, p2, q2, rfl, rfl, rfl, g2, t2⟩ := trodAll_cons t1
  obtain ⟨rfl, rfl, rfl⟩ := trodAll_nil t2
  obtain rfl : args = #[v0, v1, v2] := by cases args; simp_all
  obtain ⟨rfl, rfl⟩ := trodVars_none hV
  have kk0 := g0
  have lt0 : ∀ x ∈ p0, x.block < W.heap.size := by obtain ⟨m, hm⟩ := kk0; exact DataW.trod_lt m _ _ _ hm
  obtain ⟨na0, nc0, G0, rfl, h0, l0, b0⟩ := open_listsT (hval 0 32 v0 rfl rfl) g0 (fun n hn => by
    have := List.all_eq_true.1 hsz n (DataW.weights_mem_each (j := 0) (t := 32) rfl rfl n hn)
    simpa using this)
  obtain ⟨k1, rfl, rfl, rfl, w1⟩ := open_int uInt (hval 1 3 v1 rfl rfl) g1
  have b1 := i64_of_wf w1
  obtain ⟨k2, rfl, rfl, rfl, w2⟩ := open_int uInt (hval 2 3 v2 rfl rfl) g2
  have b2 := i64_of_wf w2
  obtain ⟨r, hg⟩ := glob_of_laid (W := W) (by
    rw [MakeChecks.laidMetH_plain _ _ _ (by kernel_rfl)] at hL
    exact hL)
  clear hA0 hval0
  refine (graphGoes_any r na0 nc0 G0 k1 k2 W hg h0 (fun k hk => Nat.le_trans (b0 k hk).1 (by omega))).mono fun e W' ⟨x, he, bel, hxx⟩ => ?_
  subst he; subst hxx
  exact ⟨_, rfl, _, _, _, [], _, [], hW', trodAll_mk1 (shut_bool Tryd.underlying4 _), (trodAll_cons_mk (Below.trod laidOut (by kernel_rfl) (of_decide_eq_true (by kernel_rfl)) kk0 bel lt0) (trodAll_cons_mk (shut_int uInt w1) (trodAll_cons_mk (shut_int uInt w2) trodAll_mk0))), rfl, bel.frame _, fun h => by cases h⟩

theorem over : Rows.GraphGoesSaid :=
  OpenClaim.holds_of_wide 4 Tryd.f4 rfl rfl rfl rfl rfl rfl rfl ⟨rfl, rfl, rfl, rfl, rfl⟩ rfl rfl rfl rfl rfl (by kernel_rfl) Tryd.func4 (by kernel_rfl)
    (of_decide_eq_true (by kernel_rfl)) (by unfold Func.isWrapper; first | (rw [if_pos (by decide +kernel)]; kernel_rfl) | (rw [if_neg (by decide +kernel)]; exact ⟨rfl, rfl⟩))
    (fun os started H enc _ => lifted os started H enc)

/-- The tied card. -/
theorem card_holds : Rows.GraphGoesCardSaid :=
  Claim7.holds_tied_plain_at .later [] [.sentinel, .sentinel, .sentinel, .sentinel, .sentinel, .sentinel, .sentinel, .sentinel, .sentinel, .sentinel, .sentinel, .sentinel] true _ true
    over (fun _ h => by cases h) (by kernel_rfl) (fun _ h => by cases h) graphGoes_row_tie rfl ⟨rfl, rfl⟩ (by kernel_rfl) rfl
    (fun f fn hf hfn => by
      obtain rfl : f = 4 := Option.some.inj ((show Tryd.prog.funcNamed Rows.graphGoesRow.func = some 4 by kernel_rfl).symm.trans hf) |>.symm
      obtain rfl : fn = Tryd.f4 := (Option.some.inj (Tryd.func4.symm.trans hfn)).symm
      exact ⟨by kernel_rfl, fun j t ht => by
        rw [Tryd.params4] at ht
        have hm : t ∈ [32, 3, 3] := by simpa using Array.mem_of_getElem? ht
        have hall : ([32, 3, 3].all fun u => !Tryd.prog.wantsStandIn u) = true := by kernel_rfl
        exact (show Tryd.prog.wantsStandIn t = false by simpa using List.all_eq_true.1 hall t hm)⟩)
    (by kernel_rfl)
end GraphGoesP
#print axioms GraphGoesP.card_holds
end Go.Proofs.YtbpdmpcakenjhaaDoor
