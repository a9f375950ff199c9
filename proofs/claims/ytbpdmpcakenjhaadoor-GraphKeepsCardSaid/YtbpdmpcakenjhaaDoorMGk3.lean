/-
  Walks: slices.ContainsFunc, graph.Check.
  copy onto an owned slice; a slice cut at its front; edenraw.Lent, Kept, LentRule, KeptRule, Rules.
  Walks: slices.Grow of nil, slices.Concat, slices.Reverse at []int; word.Back.
  Walk: rule.Check, at every rule.
  Plain mathematics of layer 18: the table of a sum, the factors of a rule.
  Plain mathematics of layer 19: rules that permute at one end.
  Walks: package permut.
  Walks: permut.check, permut.fits.
  Walk: permut.Right.
  Walk: permut.Left.
  Walk: slices.Repeat of a list of one number.
  Plain mathematics: numbers given one after another, as new ones come.
  A map from ints to ints that the call made: what is looked up, stored; how many keys it has (the kit's laws on maps, at these types).
  edenraw.Err in memory; walks: edenraw.Root, New, Under, (Err).Bad.
-/
import Derived.Test.YtbpdmpcakenjhaaDoorMGk2
import Derived.Deep.DeepCutAuto
import Derived.Laws.CopyOwn
import Derived.Deep.RegionHeld3
import Derived.Lib.AppendZeros
import Derived.RegionTactic
import Derived.BigQuiet
import Derived.Deep.QuietTactic
import Derived.Ground.NamesProg
import Derived.Shelf.Bits.Mul64
import Derived.Maps.OwnSet
import Derived.Deep.RegionLawGrows
namespace Go.Proofs.YtbpdmpcakenjhaaDoor
open Go.RowKit
set_option maxRecDepth 100000

def sGraph : ByteArray := ⟨#[103, 114, 97, 112, 104]⟩
/-- No vertex of n. -/
def oddT (n : Nat) (t : Int) : Bool := decide (t < 0) || decide ((n : Int) ≤ t)
def arrowsTo (G : List (List Int)) : Nat → Nat
  | 0 => 0
  | k + 1 => arrowsTo G k + (G.getD k []).length
def oddTo (G : List (List Int)) : Nat → Int
  | 0 => -1
  | k + 1 => if oddTo G k < 0 then (if 0 ≤ idxOf (oddT G.length) (G.getD k []) then (k : Int) else oddTo G k) else oddTo G k
/-- What Check tells. -/
def checkG (G : List (List Int)) : PErr :=
  if 8192 < G.length then fresh sGraph 0 4
  else if 262144 < arrowsTo G G.length then fresh sGraph 1 4
  else if 0 ≤ oddTo G G.length then fresh sGraph (oddTo G G.length) 1
  else none
theorem arrowsTo_mono (G : List (List Int)) {k l : Nat} (h : k ≤ l) : arrowsTo G k ≤ arrowsTo G l := by
  induction l with
  | zero => obtain rfl : k = 0 := by omega
            exact Nat.le_refl _
  | succ l ih =>
    by_cases e : k = l + 1
    · subst e; exact Nat.le_refl _
    · have := ih (by omega); simp only [arrowsTo]; omega
theorem oddTo_neg (G : List (List Int)) : ∀ k, oddTo G k < 0 → ∀ v, v < k → ∀ t ∈ G.getD v [], oddT G.length t = false
  | 0, _, v, hv => by omega
  | k + 1, h, v, hv => by
    simp only [oddTo] at h
    by_cases hk : oddTo G k < 0
    · rw [if_pos hk] at h
      by_cases hj : 0 ≤ idxOf (oddT G.length) (G.getD k [])
      · rw [if_pos hj] at h; omega
      · by_cases e : v = k
        · subst e
          intro t ht
          rcases idxOf_cases (oddT G.length) (G.getD v []) with ⟨_, q⟩ | ⟨i, q, _⟩
          · exact q t ht
          · omega
        · exact oddTo_neg G k hk v (by omega)
    · rw [if_neg hk] at h; exact absurd h hk
theorem checkG_none {G : List (List Int)} (h : checkG G = none) : G.length ≤ 8192 ∧ arrowsTo G G.length ≤ 262144 ∧ GraphOk G := by
  unfold checkG at h
  by_cases h1 : 8192 < G.length
  · rw [if_pos h1] at h; cases h
  rw [if_neg h1] at h
  by_cases h2 : 262144 < arrowsTo G G.length
  · rw [if_pos h2] at h; cases h
  rw [if_neg h2] at h
  by_cases h3 : 0 ≤ oddTo G G.length
  · rw [if_pos h3] at h; cases h
  refine ⟨by omega, by omega, fun v hv t ht => ?_⟩
  have := oddTo_neg G G.length (by omega) v hv t ht
  simp [oddT] at this
  omega

theorem graph_wrong (r : Nat → Addr) (at_ n : Int) (w : World) (hg : Glob r w) (h1 : 1 ≤ n) (h2 : n ≤ 11) :
    Calls Tryd.prog 51 #[.int .i64 at_, .int .i64 n] w (Ret1 (fun v w' => ErrIs r w' (fresh sGraph at_ n) v) w) := by
  go_enter Tryd.func51, Tryd.ntmps51
  go_wp2_with fail
  refine (new_any r _ at_ n w hg h1 h2).mono ?_
  rintro e w' ⟨v, rfl, hb, he⟩
  go_wp2
  go_ret
  exact ⟨_, rfl, hb, he⟩

theorem check1_any (x : Int) (na : Option Addr) (n nc : Nat) (b : Addr) (w : World) (hb : w.cell? b = some (.slice na n nc)) :
    Calls Tryd.prog 66 #[.int .i64 x, .pointer (some b)] w fun e w' => e = .returned (.bool (oddT n x)) ∧ w = w' := by
  by_cases h : x < 0
  · have e : oddT n x = true := by simp [oddT, h]
    rw [e]
    go_enter Tryd.func66, Tryd.ntmps66
    go_wp2
    go_ret
    exact ⟨rfl, rfl⟩
  · have e : oddT n x = decide ((n : Int) ≤ x) := by simp [oddT, h]
    rw [e]
    go_enter Tryd.func66, Tryd.ntmps66
    go_wp2
    go_ret
    exact ⟨ret_bool (by simp), rfl⟩
theorem eg_check1 (args : Array Value) (w : World) : (callFunc 66 args).run Tryd.prog w = .ok (.enter 66 args) w := by kernel_rfl

theorem containsFunc_any (v b : Value) (F : Nat) (xs : List Int) (p : Int → Bool) (w : World) (h : IntsAt w v xs)
    (eg : ∀ args w, (callFunc F args).run Tryd.prog w = .ok (.enter F args) w)
    (hF : ∀ x : Int, x ∈ xs → Calls Tryd.prog F #[.int .i64 x, b] w fun e w' => e = .returned (.bool (p x)) ∧ w = w') :
    Calls Tryd.prog 65 #[v, .func (.func F) #[] #[b]] w fun e w' => e = .returned (.bool (decide (0 ≤ idxOf p xs))) ∧ w = w' := by
  have hI := indexFunc_any v b F xs p w h eg hF
  clear hF eg
  go_enter Tryd.func65, Tryd.ntmps65
  go_wp2_with fail
  refine hI.mono ?_
  rintro e w' ⟨rfl, rfl⟩
  go_wp2
  go_ret
  exact ⟨ret_bool (by simp), rfl⟩

set_option maxHeartbeats 2000000 in
theorem graph_check (r : Nat → Addr) (na : Option Addr) (nc : Nat) (G : List (List Int)) (w : World) (hg : Glob r w) (h : ListsAt w (.slice na G.length nc) G) (hsz : ∀ k, k < G.length → (G.getD k []).length ≤ 17592186044416) :
    Calls Tryd.prog 32 #[.slice na G.length nc] w (Ret1 (fun v w' => ErrIs r w' (checkG G) v) w) := by
  have b0 : Below w.heap.size w (w.alloc (.cells #[.slice na G.length nc] 32)) := (Below.refl _ _).alloc (Nat.le_refl _) _
  obtain ⟨w0, hw0⟩ : ∃ w0, w0 = w.alloc (.cells #[.slice na G.length nc] 32) := ⟨_, rfl⟩
  have c0 : w0.cell? ⟨w.heap.size, 0, none⟩ = some (.slice na G.length nc) := by simp [hw0, go_sem]
  rw [← hw0] at b0
  replace hsz := Lib.hid hsz
  replace hg := Lib.hid (hg.below b0)
  replace h := Lib.hid (h.below b0)
  have hn63 : G.length ≤ 9223372036854775807 := by
    obtain ⟨vs, h1, h2, _⟩ := h.out
    have := h1.len_le; omega
  by_cases hbig : 8192 < G.length
  · have hp : checkG G = fresh sGraph 0 4 := by unfold checkG; rw [if_pos hbig]
    rw [hp]
    replace hp := Lib.hid hp
    go_enter Tryd.func32, Tryd.ntmps32
    go_wp2_with fail
    rw [← hw0]
    clear hw0
    refine (graph_wrong r _ _ _ hg.out (by decide) (by decide)).mono ?_
    rintro e w' ⟨v, rfl, hb, he⟩
    replace he := Lib.hid he
    go_wp2
    go_ret
    exact ⟨_, rfl, Below.step b0 hb, he.out⟩
  · have hpure : ∀ k, k ≤ G.length → 262144 < arrowsTo G k → checkG G = fresh sGraph 1 4 := fun k hk hq => by
      unfold checkG
      rw [if_neg hbig, if_pos (by have := arrowsTo_mono G hk; omega)]
    have hend : arrowsTo G G.length ≤ 262144 → checkG G = if 0 ≤ oddTo G G.length then fresh sGraph (oddTo G G.length) 1 else none := fun hq => by
      unfold checkG
      rw [if_neg hbig, if_neg (by omega)]
    replace hpure := Lib.hid hpure
    replace hend := Lib.hid hend
    have hgt : decide ((G.length : Int) > 8192) = false := by simp; omega
    go_enter Tryd.func32, Tryd.ntmps32
    go_upto_if 9 with fail
    rw [← hw0]
    clear hw0
    go_wp2_with fail
    go_loopw [3, 4, 13] (fun a o i wr => ∃ k n : Nat, k ≤ G.length ∧ i = .int .i64 k ∧ a = .int .i64 (arrowsTo G k) ∧ o = .int .i64 (oddTo G k) ∧ arrowsTo G k ≤ 262144 ∧ wr = w0.drewN n) (fun _ _ i _ => G.length - (intOf i).toNat)
    case atStart => exact ⟨0, 0, by omega, rfl, rfl, rfl, by simp [arrowsTo], rfl⟩
    case round =>
      obtain ⟨k, q, hk, rfl, rfl, rfl, hle, rfl⟩ := hrel
      by_cases hlt : k < G.length
      · obtain ⟨mv, iR, cR, hM⟩ := h.out.row k hlt
        have hll := hsz.out k hlt
        have ha1 : arrowsTo G (k + 1) = arrowsTo G k + (G.getD k []).length := rfl
        have ho1 : oddTo G (k + 1) = if oddTo G k < 0 then (if 0 ≤ idxOf (oddT G.length) (G.getD k []) then (k : Int) else oddTo G k) else oddTo G k := rfl
        generalize G.getD k [] = gk at *
        have lenM := hM.len
        replace hM := Lib.hid hM
        by_cases hov : 262144 < arrowsTo G k + gk.length
        · have hp := hpure.out (k + 1) (by omega) (by omega)
          replace hp := Lib.hid hp
          replace ho1 := Lib.hid ho1
          replace ha1 := Lib.hid ha1
          go_wp2_with fail
          refine (graph_wrong r _ _ _ (hg.out.below (below_drewN (Below.refl _ _) q)) (by decide) (by decide)).mono ?_
          rintro e w' ⟨v, rfl, hb, he⟩
          replace he := Lib.hid he
          go_wp2
          go_ret
          exact ⟨_, rfl, Below.step b0 (Below.step (below_drewN (Below.refl _ _) q) hb), by rw [hp.out]; exact he.out⟩
        · by_cases hod : oddTo G k < 0
          · rw [if_pos hod] at ho1
            have hcf := Lib.hid (containsFunc_any mv (.pointer (some ⟨w.heap.size, 0, none⟩)) 66 gk (oddT G.length) (w0.drewN q) (hM.out.drewN q) eg_check1 (fun x _ => check1_any x na G.length nc _ _ c0))
            by_cases hx : 0 ≤ idxOf (oddT G.length) gk
            · rw [if_pos hx] at ho1
              replace ho1 := Lib.hid ho1
              replace ha1 := Lib.hid ha1
              go_wp2_with fail
              refine hcf.out.mono ?_
              rintro e w' ⟨rfl, rfl⟩
              rw [show decide (0 ≤ idxOf (oddT G.length) gk) = true by simpa using hx]
              replace hx := Lib.hid hx
              go_wp2
              go_round
              case measure => simp [intOf]; omega
              case rel => exact ⟨k + 1, _, by omega, by go_num, by rw [ha1.out]; go_num, by rw [ho1.out], by rw [ha1.out]; omega, rfl⟩
            · rw [if_neg hx] at ho1
              replace ho1 := Lib.hid ho1
              replace ha1 := Lib.hid ha1
              go_wp2_with fail
              refine hcf.out.mono ?_
              rintro e w' ⟨rfl, rfl⟩
              rw [show decide (0 ≤ idxOf (oddT G.length) gk) = false by simpa using hx]
              replace hx := Lib.hid hx
              go_wp2
              go_round
              case measure => simp [intOf]; omega
              case rel => exact ⟨k + 1, _, by omega, by go_num, by rw [ha1.out]; go_num, by rw [ho1.out], by rw [ha1.out]; omega, rfl⟩
          · rw [if_neg hod] at ho1
            replace ho1 := Lib.hid ho1
            replace ha1 := Lib.hid ha1
            go_wp2
            go_round
            case measure => simp [intOf]; omega
            case rel => exact ⟨k + 1, _, by omega, by go_num, by rw [ha1.out]; go_num, by rw [ho1.out], by rw [ha1.out]; omega, rfl⟩
      · obtain rfl : k = G.length := by omega
        have hp := hend.out hle
        by_cases hod : 0 ≤ oddTo G G.length
        · rw [if_pos hod] at hp
          replace hp := Lib.hid hp
          go_wp2_with fail
          refine (graph_wrong r _ _ _ (hg.out.below (below_drewN (Below.refl _ _) q)) (by decide) (by decide)).mono ?_
          rintro e w' ⟨v, rfl, hb, he⟩
          replace he := Lib.hid he
          go_wp2
          go_ret
          exact ⟨_, rfl, Below.step b0 (Below.step (below_drewN (Below.refl _ _) q) hb), by rw [hp.out]; exact he.out⟩
        · rw [if_neg hod] at hp
          replace hp := Lib.hid hp
          go_wp2
          go_ret
          exact ⟨_, rfl, Below.step b0 (below_drewN (Below.refl _ _) q), by rw [hp.out]; rfl⟩
end Go.Proofs.YtbpdmpcakenjhaaDoor

namespace Go.Proofs.YtbpdmpcakenjhaaDoor
open Go.RowKit
set_option maxRecDepth 100000

theorem sizeInt1 : (Tryd.prog.info? 3).map (·.size) = some 1 := by kernel_rfl

theorem splice_take {α : Type} (C ys : List α) (off n : Nat) (h : off + ys.length ≤ n) (hn : n ≤ C.length) :
    (C.take off ++ ys ++ C.drop (off + ys.length)).take n = (C.take n).take off ++ ys ++ (C.take n).drop (off + ys.length) := by
  have hl : (C.take off ++ ys).length = off + ys.length := by simp; omega
  rw [List.take_append, List.take_of_length_le (by omega), hl, List.drop_take, List.take_take, Nat.min_eq_left (by omega)]

/-- copy(d, u), d at place off of an owned slice. -/
theorem run_copyI {w : World} {B : Nat} {v u d : Value} {xs ys : List Int} (off : Nat) (ty : TypeId) (dp : Option Addr) (dLen dCap : Nat) (hown : OwnI B w v xs) (hu : IntsAt w u ys) (hd : d = .slice dp dLen dCap)
    (hdl : ys.length ≤ dLen) (hfit : off + ys.length ≤ xs.length) (hdp : 0 < ys.length → dp = some (valAt v off)) :
    ∃ w', (Builtin.copy_ #[22, 22] ty #[d, u]).run Tryd.prog w = .ok (.int .i64 ys.length) w' ∧ OwnI B w' v (xs.take off ++ ys ++ xs.drop (off + ys.length)) ∧ Below B w w' ∧ w.grownBy w' v.ownBlock := by
  subst hd
  obtain ⟨sp, sCap, rfl, h1, h2, h3, h4⟩ := hu
  by_cases h0 : ys.length = 0
  · obtain rfl : ys = [] := List.eq_nil_of_length_eq_zero h0
    have hr := run_copy_none (P := Tryd.prog) w 22 22 ty 3 dp sp dLen dCap 0 sCap uInts sizeInt1 (by simp)
    exact ⟨w, hr, by simpa using hown, Below.refl _ _, World.grownBy.refl _ _⟩
  · obtain rfl := hdp (by omega)
    cases sp with
    | none => have := h3 rfl; omega
    | some p =>
      rcases hown.2 with ⟨rfl, hn⟩ | ⟨g, cap, cur, rfl, hb, hg, hn, hm, hcs, ht⟩
      · omega
      · rw [valAt_row]
        have hsrc : ∀ j u, (ys.map (Value.int .i64))[j]? = some u → w.cell? (p.add j) = some u := by
          intro j u hj
          have hjl : j < ys.length := by have := (List.getElem?_eq_some_iff.1 hj).1; simpa using this
          have := h4 j hjl
          simp only [valAt] at this
          rw [this, ← hj]; simp [hjl]
        have hcl : cur.toList.length = cap := by rw [Array.length_toList, hcs]; omega
        have hr := run_copy_row (P := Tryd.prog) w 22 22 ty 3 g off dLen dCap p ys.length sCap cur 3 (ys.map (.int .i64)) uInts sizeInt1 hg (by simp; exact (Nat.min_eq_left hdl).symm) hsrc (by rw [hcs]; simp; omega) (ints_oneCell _ _)
        rw [show goInt (ys.map (Value.int .i64)).length = .int .i64 ys.length by rw [List.length_map]; rfl] at hr
        have hst : w.grownBy (w.setRow g (cur.toList.take off ++ ys.map (Value.int .i64) ++ cur.toList.drop (off + (ys.map (Value.int .i64)).length)).toArray) (some g) :=
          ⟨rfl, rfl, rfl, by simp, fun k _ hk => setRow_other w g k _ (fun e => hk (by simp [e]))⟩
        refine ⟨_, hr, ?_, (Below.refl _ _).grown hst (by have := (Array.getElem?_eq_some_iff.1 hg).1; omega) (by intro k hk; simp at hk; omega), hst⟩
        have hlen : (xs.take off ++ ys ++ xs.drop (off + ys.length)).length = xs.length := by simp; omega
        refine ⟨by simp, .inr ⟨g, cap, _, by rw [hlen], hb, setRow_heap w g cur _ _ _ hg, by rw [hlen]; exact hn, hm, ?_, ?_⟩⟩
        · simp only [List.size_toArray, List.length_append, List.length_take, List.length_drop, List.length_map, hcl]; omega
        · rw [hlen]
          have e := splice_take cur.toList (ys.map (Value.int .i64)) off xs.length (by simpa using hfit) (by omega)
          rw [Nat.mul_one] at ht ⊢
          rw [e, ht]
          simp [List.map_take, List.map_drop]

/-- copy(v, u), v owned and no shorter. -/
theorem run_copy0 {w : World} {B : Nat} {v u : Value} {xs ys : List Int} (ty : TypeId) (hown : OwnI B w v xs) (hu : IntsAt w u ys) (hfit : ys.length ≤ xs.length) :
    ∃ w', (Builtin.copy_ #[22, 22] ty #[v, u]).run Tryd.prog w = .ok (.int .i64 ys.length) w' ∧ OwnI B w' v (ys ++ xs.drop ys.length) ∧ Below B w w' ∧ w.grownBy w' v.ownBlock := by
  obtain ⟨a, cap, e, _⟩ := hown.at
  have := run_copyI 0 ty a xs.length cap hown hu e hfit (by omega) (by
    intro h0
    rcases hown.2 with ⟨rfl, hn⟩ | ⟨g, cap', cur, rfl, _⟩
    · omega
    · simp at e; obtain ⟨rfl, -⟩ := e; rw [valAt_row])
  simpa using this

/-- A slice cut to its first h elements. -/
def preV (v : Value) (h : Nat) : Value := match v with | .slice a _ c => .slice a h c | v => v
theorem preV_at (v : Value) (h i : Nat) : valAt (preV v h) i = valAt v i := by
  cases v with
  | slice a n c => cases a <;> rfl
  | _ => rfl

theorem run_pre {a : Option Addr} {n c : Nat} (h : Nat) (hh : h ≤ c) (w : World) :
    (Instr.slice 22 (.slice a n c) none (some (.int .i64 h)) none).run Tryd.prog w = .ok (preV (.slice a n c) h) w := by
  rw [run_slice_h w 22 a n c uIntsE .i64 h (by omega) (by omega), eInts, sInt]
  simp only [Result.andThen, sliced, preV]
  rw [Int.toNat_natCast]
  have e : Option.map (fun x => x.add 0) a = a := by cases a <;> simp [Addr.add]
  simp [e]

theorem IntsAt.pre {w : World} {v : Value} {xs : List Int} (h : IntsAt w v xs) (k : Nat) (hk : k ≤ xs.length) : IntsAt w (preV v k) (xs.take k) := by
  obtain ⟨a, cap, rfl, h1, h2, h3, h4⟩ := h
  have hl : (xs.take k).length = k := by simp; omega
  refine ⟨a, cap, by rw [hl]; rfl, by omega, h2, h3, fun i hi => ?_⟩
  rw [preV_at, h4 i (by omega)]
  simp
theorem OwnI.runPre {B : Nat} {w : World} {v : Value} {xs : List Int} (h : OwnI B w v xs) (k : Nat) (hk : k ≤ xs.length) (w' : World) :
    (Instr.slice 22 v none (some (.int .i64 k)) none).run Tryd.prog w' = .ok (preV v k) w' := by
  obtain ⟨a, cap, rfl, h1, _⟩ := h.at
  exact run_pre k (by omega) w'
theorem IntsAt.runPre {w : World} {v : Value} {xs : List Int} (h : IntsAt w v xs) (k : Nat) (hk : k ≤ xs.length) (w' : World) :
    (Instr.slice 22 v none (some (.int .i64 k)) none).run Tryd.prog w' = .ok (preV v k) w' := by
  obtain ⟨a, cap, rfl, h1, _⟩ := h
  exact run_pre k (by omega) w'

/-- Numbers lent: two marks lie in the room behind them. -/
def LentI (B : Nat) (w : World) (m : Value) (xs : List Int) : Prop := ∃ v, m = preV v xs.length ∧ OwnI B w v (xs ++ [7001, 7002])
theorem LentI.at {B : Nat} {w : World} {m : Value} {xs : List Int} (h : LentI B w m xs) : IntsAt w m xs := by
  obtain ⟨v, rfl, ho⟩ := h
  have := ho.at.pre xs.length (by simp)
  rwa [List.take_left'] at this
  rfl
theorem LentI.below {B : Nat} {w w' : World} {m : Value} {xs : List Int} (h : LentI B w m xs) (hb : Below w.heap.size w w') : LentI B w' m xs := by
  obtain ⟨v, e, ho⟩ := h
  exact ⟨v, e, ho.below hb⟩
/-- What is kept below a block number. -/
theorem OwnI.belowB {B B' : Nat} {w w' : World} {v : Value} {xs : List Int} (h : OwnI B w v xs) (hb : Below B' w w') (hlt : ∀ k, v.ownBlock = some k → k < B') : OwnI B w' v xs := by
  refine ⟨h.1, ?_⟩
  rcases h.2 with h2 | ⟨g, cap, cur, rfl, hB, hg, r⟩
  · exact .inl h2
  · exact .inr ⟨g, cap, cur, rfl, hB, by rw [hb.block g (hlt g rfl)]; exact hg, r⟩
theorem LentI.belowB {B B' : Nat} {w0 w w' : World} {m : Value} {xs : List Int} (h : LentI B w m xs) (h0 : LentI B w0 m xs) (hs : w0.heap.size ≤ B') (hb : Below B' w w') : LentI B w' m xs := by
  obtain ⟨v, rfl, ho⟩ := h
  obtain ⟨v0, e0, ho0⟩ := h0
  refine ⟨v, rfl, ho.belowB hb fun k hk => ?_⟩
  have hbk : v0.ownBlock = v.ownBlock := by
    obtain ⟨a, n, c, rfl⟩ := ho.at.shape
    obtain ⟨a', n', c', rfl⟩ := ho0.at.shape
    simp [preV] at e0
    obtain ⟨rfl, rfl⟩ := e0
    cases a <;> rfl
  have := (ho0.lt k (hbk.trans hk)).2
  omega

theorem lent_any (v : Value) (xs : List Int) (w : World) (h : IntsAt w v xs) (hl : xs.length ≤ 17592186044414) :
    Calls Tryd.prog 57 #[v] w (Ret1 (fun x w' => LentI w.heap.size w' x xs) w) := by
  have hlen := h.len
  replace h := Lib.hid h
  go_enter Tryd.func57, Tryd.ntmps57
  go_wp2_with (at_make; refine wpl_make rfl _ _ rfl _ rfl rfl (by omega) (by omega) ?_)
  intro m w1 ho hb
  have hn : ((xs.length : Int) + 2).toNat = xs.length + 2 := by omega
  rw [hn] at ho
  clear hn
  obtain ⟨w2, hcp, ho2, hb2, _⟩ := run_copy0 3 ho (h.out.below hb) (by simp)
  have e1 : xs ++ (List.replicate (xs.length + 2) (0 : Int)).drop xs.length = xs ++ [0, 0] := by rw [List.drop_replicate, Nat.add_sub_cancel_left]; rfl
  rw [e1] at ho2
  clear e1
  have i1 := ho2.at.idx xs.length (by simp)
  have c1 := ho2.at.cell xs.length (by simp)
  have f1 := ho2.frz xs.length (by simp)
  have ho3 := ho2.set xs.length (by simp) 7001
  have hb3 := ho2.setBelow (hb.trans hb2) xs.length (by simp) (.int .i64 7001)
  have e2 : (xs ++ [0, 0]).set xs.length 7001 = xs ++ [7001, 0] := by simp
  rw [e2] at ho3
  have i2 : ∀ w', (Instr.indexAt 22 m (.int .i64 ((xs.length : Int) + 1))).run Tryd.prog w' = .ok (.pointer (some (valAt m (xs.length + 1)))) w' := by
    intro w'; exact ho3.at.idx (xs.length + 1) (by simp) w'
  have c2 := ho3.at.cell (xs.length + 1) (by simp)
  have f2 := ho3.frz (xs.length + 1) (by simp)
  have ho4 := ho3.set (xs.length + 1) (by simp) 7002
  have hb4 := Lib.hid (ho3.setBelow hb3 (xs.length + 1) (by simp) (.int .i64 7002))
  have e3 : (xs ++ [7001, 0]).set (xs.length + 1) 7002 = xs ++ [7001, 7002] := by simp
  rw [e3] at ho4
  have hre := ho4.runPre xs.length (by simp)
  replace ho4 := Lib.hid ho4
  clear e2 e3 ho2 ho3 ho hb hb2 hb3
  go_wp2
  go_ret
  exact ⟨_, rfl, hb4.out, m, rfl, ho4.out⟩

theorem LentI.full {B : Nat} {w : World} {m : Value} {xs : List Int} (h : LentI B w m xs) :
    ∃ v, OwnI B w v (xs ++ [7001, 7002]) ∧ ∀ w', (Instr.slice 22 m none (some (.int .i64 ((xs.length : Int) + 2))) none).run Tryd.prog w' = .ok v w' := by
  obtain ⟨v, rfl, ho⟩ := h
  refine ⟨v, ho, fun w' => ?_⟩
  obtain ⟨a, cap, rfl, h1, _⟩ := ho.at
  have := run_pre (a := a) (n := xs.length) (c := cap) (xs.length + 2) (by simpa using h1) w'
  have e : (xs ++ [7001, 7002]).length = xs.length + 2 := by simp
  rw [e]
  exact this

theorem kept_any (B : Nat) (m l : Value) (xs : List Int) (w : World) (h : LentI B w m xs) (k : IntsAt w l xs) (hl : xs.length ≤ 17592186044414) :
    Calls Tryd.prog 58 #[m, l] w (RetB true w) := by
  have hlen := k.len
  obtain ⟨v, ho, hfull⟩ := h.full
  have i1 := ho.at.idx xs.length (by simp)
  have c1 := ho.at.cell xs.length (by simp)
  have i2 : ∀ w', (Instr.indexAt 22 v (.int .i64 ((xs.length : Int) + 1))).run Tryd.prog w' = .ok (.pointer (some (valAt v (xs.length + 1)))) w' := by
    intro w'; exact ho.at.idx (xs.length + 1) (by simp) w'
  have c2 := ho.at.cell (xs.length + 1) (by simp)
  have e1 : (xs ++ [7001, 7002])[xs.length]'(by simp) = 7001 := by simp
  have e2 : (xs ++ [7001, 7002])[xs.length + 1]'(by simp) = 7002 := by simp
  rw [e1] at c1
  rw [e2] at c2
  clear ho e1 e2
  have hm := Lib.hid h.at
  replace k := Lib.hid k
  clear h
  go_enter Tryd.func58, Tryd.ntmps58
  go_wp2_with fail
  refine (ints_any m l xs xs _ hm.out k.out).mono ?_
  rintro e w' ⟨n, rfl, rfl⟩
  rw [show decide (xs = xs) = true by simp]
  go_wp2
  go_ret
  exact ⟨n, rfl, rfl⟩

end Go.Proofs.YtbpdmpcakenjhaaDoor

namespace Go.Proofs.YtbpdmpcakenjhaaDoor
open Go.RowKit
set_option maxRecDepth 100000

theorem size_zeroC (n : Nat) : (Builtin.zeroCells (Value.cells (.int .i64 0)) n).size = n := by
  rw [size_zeroCells]; simp [Value.cells]

theorem grow_nil (n : Nat) (w : World) (hn : n ≤ 1048576) :
    Calls Tryd.prog 93 #[.slice none 0 0, .int .i64 n] w (Ret1 (fun x w' => OwnI w.heap.size w' x []) w) := by
  by_cases h0 : n = 0
  · subst h0
    go_enter Tryd.func93, Tryd.ntmps93
    go_wp2
    go_ret
    exact ⟨_, rfl, Below.refl _ _, OwnI.nil _ _⟩
  · have h1 : 1 ≤ n := by omega
    clear h0
    obtain ⟨i, hi, hz0, hz1, hz2⟩ := info_parts iInt
    have hap := Lib.run_append_nil_zeros (P := Tryd.prog) w 22 3 22 3 i (.int .i64 0) .i64 .i64 uInts (by kernel_rfl) hi hz0 n h1 (by rw [hz1]; decide) (by omega) (by rw [hz2]; omega)
    have hb : Tryd.t3.bytes = 8 := by kernel_rfl
    have hns : ¬ (281474976710656 < Builtin.nextslicecap n 0 * 8) := by rw [nextslicecap_zero (by omega)]; omega
    have hlt : ¬ (281474976710656 < (n : Int) * (Tryd.t3.bytes : Int)) := by rw [hb]; omega
    go_enter Tryd.func93, Tryd.ntmps93
    go_wp2
    go_ret
    have hge := grownCap_ge w n 0 3
    have hcm : grownCap w n 0 3 ≤ maxLen := grownCap_le_maxLen w _ 0 3 (by unfold maxLen; omega)
    refine ⟨_, rfl, (belowAlloc w _).drew, by simp, .inr ⟨w.heap.size, grownCap w n 0 3, _, rfl, Nat.le_refl _, heap_alloc_new w.drew _, by simp, hcm, ?_, by simp⟩⟩
    unfold grownCap at hge ⊢
    simp only [Array.size_append, size_zeroCells]
    simp
    omega

/-- The first n of a list of []ints, one after the other. -/
def catN (xs : Nat → List Int) (n : Nat) : List Int := (List.range n).flatMap xs
theorem catN_succ (xs : Nat → List Int) (n : Nat) : catN xs (n + 1) = catN xs n ++ xs n := by simp [catN, List.range_succ]

/-- The lengths' sum. -/
def lenN (xs : Nat → List Int) : Nat → Nat
  | 0 => 0
  | n + 1 => lenN xs n + (xs n).length
theorem catN_length (xs : Nat → List Int) (n : Nat) : (catN xs n).length = lenN xs n := by
  induction n with
  | zero => rfl
  | succ n ih => rw [catN_succ, List.length_append, ih]; rfl

/-- slices.Concat, at lists that all lie ready. -/
theorem concat_any (v : Value) (vs : List Value) (xs : Nat → List Int) (w : World) (h : ValsAt w v vs) (hx : ∀ t (ht : t < vs.length), IntsAt w vs[t] (xs t)) (hn : vs.length ≤ 100) (hl : ∀ t, t < vs.length → (xs t).length ≤ 8192) :
    Calls Tryd.prog 71 #[v] w (Ret1 (fun x w' => OwnI w.heap.size w' x (catN xs vs.length)) w) := by
  have hlen : ∀ n, n ≤ vs.length → lenN xs n ≤ n * 8192 := by
    intro n
    induction n with
    | zero => intro _; exact Nat.le_refl _
    | succ n ih =>
      intro hn'
      have := ih (by omega)
      have := hl n (by omega)
      show lenN xs n + (xs n).length ≤ _
      omega
  have hll := h.len oneLists
  replace hx := Lib.hid hx
  replace hl := Lib.hid hl
  replace hlen := Lib.hid hlen
  replace h := Lib.hid h
  go_enter Tryd.func71, Tryd.ntmps71
  go_wp2
  go_loop [3, 11] (fun s i => ∃ j : Nat, j ≤ vs.length ∧ i = .int .i64 j ∧ s = .int .i64 (lenN xs j)) (fun _ i => vs.length - (intOf i).toNat)
  case atStart => exact ⟨0, by omega, rfl, rfl⟩
  case round =>
    obtain ⟨j, hj, rfl, rfl⟩ := hrel
    have hj1 := hlen.out j hj
    by_cases hjl : j < vs.length
    · have i1 := h.out.idx oneLists j hjl
      have c1 := h.out.cell j hjl
      have hxj := hx.out j hjl
      have l1 := hxj.len
      have hlj := hl.out j hjl
      obtain ⟨a, n, c, hv⟩ := hxj.shape
      replace hxj := Lib.hid hxj
      rw [hv] at c1 l1
      clear hv
      have e : Hid (lenN xs (j + 1) = lenN xs j + (xs j).length) := rfl
      go_wp2
      go_round
      case rel => exact ⟨j + 1, by omega, by go_num, by rw [e.out]; go_num⟩
      case measure => simp [intOf]; omega
    · obtain rfl : j = vs.length := by omega
      have hL : lenN xs vs.length ≤ 1048576 := by omega
      go_wp2_with fail
      refine (grow_nil _ _ hL).mono ?_
      rintro e w1 ⟨x, rfl, hb, ho⟩
      go_wp2
      go_loopw [6, 27] (fun s i wr => ∃ j : Nat, j ≤ vs.length ∧ i = .int .i64 j ∧ OwnI w.heap.size wr s (catN xs j) ∧ Below w.heap.size w wr) (fun _ i _ => vs.length - (intOf i).toNat)
      case atStart => exact ⟨0, by omega, rfl, by simpa [catN] using ho, hb⟩
      case round =>
        obtain ⟨j, hj, rfl, ho, hb⟩ := hrel
        by_cases hjl : j < vs.length
        · have hv := h.out.below hb
          have i1 := hv.idx oneLists j hjl
          have c1 := hv.cell j hjl
          have hxj := (hx.out j hjl).below hb
          have hlj := hl.out j hjl
          have hcl := hlen.out j (by omega)
          have hcc := catN_length xs j
          clear hv
          generalize vs[j] = u at c1 hxj
          obtain ⟨a, n, c, rfl⟩ := hxj.shape
          replace hxj := Lib.hid hxj
          replace ho := Lib.hid ho
          go_wp2_with (at_builtin; refine wpl_append rfl _ _ rfl w.heap.size _ _ (catN xs j) (xs j) ho.out hxj.out rfl rfl (by omega) hb.size ?_)
          intro v' w' ho' hb' _ _
          go_wp2
          go_roundw
          case rel => exact ⟨j + 1, by omega, by go_num, by rw [catN_succ]; exact ho', hb.trans hb'⟩
          case measure => simp [intOf]; omega
        · obtain rfl : j = vs.length := by omega
          go_wp2
          go_ret
          exact ⟨_, rfl, hb, ho⟩
end Go.Proofs.YtbpdmpcakenjhaaDoor

namespace Go.Proofs.YtbpdmpcakenjhaaDoor
open Go.RowKit

theorem check_k (r : Nat → Addr) (k R : Int) (v : Value) (w : World) (hg : Glob r w) (h : k < 1 ∨ 4 < k) :
    Calls Tryd.prog 40 #[.agg #[.int .i64 k, .int .i64 R, v]] w (Ret1 (fun x w' => ErrIs r w' (fresh sRule 0 1) x) w) := by
  have hg' := Lib.hid (hg.below ((Below.refl _ _).alloc (Nat.le_refl _) (.cells #[.int .i64 k, .int .i64 R, v] 24)))
  clear hg
  rcases h with h | h <;>
  (go_enter Tryd.func40, Tryd.ntmps40
   go_wp2_with fail
   refine (rule_wrong r _ _ _ hg'.out (by decide) (by decide)).mono ?_
   rintro e w' ⟨x, rfl, hb, he⟩
   go_wp2
   go_ret
   exact ⟨_, rfl, ((Below.refl _ _).alloc (Nat.le_refl _) _).trans (hb.mono (by simp)), he⟩)

theorem check_r (r : Nat → Addr) (k R : Int) (v : Value) (w : World) (hg : Glob r w) (h1 : 1 ≤ k) (h4 : k ≤ 4) (h : R < 0 ∨ 3 < R) :
    Calls Tryd.prog 40 #[.agg #[.int .i64 k, .int .i64 R, v]] w (Ret1 (fun x w' => ErrIs r w' (fresh sRule 1 1) x) w) := by
  have hg' := Lib.hid (hg.below ((Below.refl _ _).alloc (Nat.le_refl _) (.cells #[.int .i64 k, .int .i64 R, v] 24)))
  clear hg
  go_enter Tryd.func40, Tryd.ntmps40
  go_wp2_with fail
  refine (size_bad r _ _ _ hg'.out (by omega)).mono ?_
  rintro e w1 ⟨x, y, rfl, hb, rfl, he⟩
  obtain ⟨T, a, rfl⟩ := he.some_shape
  clear he
  go_wp2_with fail
  refine (rule_wrong r _ _ _ (hg'.out.below hb) (by decide) (by decide)).mono ?_
  rintro e w' ⟨x, rfl, hb', he⟩
  go_wp2
  go_ret
  exact ⟨_, rfl, (((Below.refl _ _).alloc (Nat.le_refl _) _).trans (hb.mono (by simp))).trans (hb'.mono (by have := hb.size; simp at this; omega)), he⟩

theorem check_len (r : Nat → Addr) (K R : Nat) (v : Value) (xs : List Int) (w : World) (hg : Glob r w) (h : IntsAt w v xs) (h1 : 1 ≤ K) (h4 : K ≤ 4) (h3 : R ≤ 3) (hl : xs.length ≠ pw K (2 * R + 1)) :
    Calls Tryd.prog 40 #[.agg #[.int .i64 K, .int .i64 R, v]] w (Ret1 (fun x w' => ErrIs r w' (fresh sRule 2 1) x) w) := by
  have hg' := Lib.hid (hg.below ((Below.refl _ _).alloc (Nat.le_refl _) (.cells #[.int .i64 K, .int .i64 R, v] 24)))
  clear hg
  have hlen := h.len
  clear h
  have hne : ((xs.length : Int) != (pw K (2 * R + 1) : Int)) = true := by simp; omega
  clear hl
  go_enter Tryd.func40, Tryd.ntmps40
  go_wp2_with fail
  refine (size_ok K R _ h1 h4 h3).mono ?_
  rintro e w1 ⟨rfl, rfl⟩
  go_wp2_with fail
  refine (rule_wrong r _ _ _ hg'.out (by decide) (by decide)).mono ?_
  rintro e w' ⟨x, rfl, hb', he⟩
  go_wp2
  go_ret
  exact ⟨_, rfl, ((Below.refl _ _).alloc (Nat.le_refl _) _).trans (hb'.mono (by simp)), he⟩

theorem check_odd (r : Nat → Addr) (K R : Nat) (v : Value) (xs : List Int) (i : Nat) (w : World) (hg : Glob r w) (h : IntsAt w v xs) (h1 : 1 ≤ K) (h4 : K ≤ 4) (h3 : R ≤ 3) (hl : xs.length = pw K (2 * R + 1)) (hi : idxOf (odd1 K) xs = i) (hi' : i < xs.length) :
    Calls Tryd.prog 40 #[.agg #[.int .i64 K, .int .i64 R, v]] w (Ret1 (fun x w' => ErrIs r w' (fresh sRule (3 + i) 1) x) w) := by
  have hg' := Lib.hid (hg.below ((Below.refl _ _).alloc (Nat.le_refl _) (.cells #[.int .i64 K, .int .i64 R, v] 24)))
  clear hg
  have hm := h.len_le
  have h' := Lib.hid (h.below ((Below.refl _ _).alloc (Nat.le_refl _) (.cells #[.int .i64 K, .int .i64 R, v] 24)))
  have hlen := h.len
  clear h
  have hne : ((xs.length : Int) != (pw K (2 * R + 1) : Int)) = false := by simp; omega
  clear hl
  replace hi := Lib.hid hi
  go_enter Tryd.func40, Tryd.ntmps40
  go_wp2_with fail
  refine (size_ok K R _ h1 h4 h3).mono ?_
  rintro e w1 ⟨rfl, rfl⟩
  go_wp2_with fail
  refine (rule_odd K v xs _ h'.out).mono ?_
  rintro e w1 ⟨x, rfl, hb, rfl⟩
  rw [hi.out]
  have hlt : i < 9223372036854775807 := by omega
  have hb3 : (3 + (i : Int)) ≤ 9223372036854775807 := by
    have := pw_le (i := 2 * R + 1) h1 h4 (by omega)
    have : ¬ ((xs.length : Int) != (pw K (2 * R + 1) : Int)) = true := by rw [hne]; simp
    simp at this
    omega
  go_wp2_with fail
  refine (rule_wrong r _ _ _ (hg'.out.below hb) (by decide) (by decide)).mono ?_
  rintro e w' ⟨x, rfl, hb', he⟩
  go_wp2
  go_ret
  exact ⟨_, rfl, (((Below.refl _ _).alloc (Nat.le_refl _) _).trans (hb.mono (by simp))).trans (hb'.mono (by have := hb.size; simp at this; omega)), he⟩

theorem check_ok (K R : Nat) (v : Value) (xs : List Int) (w : World) (h : IntsAt w v xs) (hr : RuleOk K R xs) :
    Calls Tryd.prog 40 #[.agg #[.int .i64 K, .int .i64 R, v]] w (Ret1 (fun x _ => x = .nilIface) w) := by
  obtain ⟨h1, h4, h3, hl, hs⟩ := hr
  have h' := Lib.hid (h.below ((Below.refl _ _).alloc (Nat.le_refl _) (.cells #[.int .i64 K, .int .i64 R, v] 24)))
  have hlen := h.len
  clear h
  have hne : ((xs.length : Int) != (pw K (2 * R + 1) : Int)) = false := by simp; omega
  clear hl
  replace hs := Lib.hid hs
  go_enter Tryd.func40, Tryd.ntmps40
  go_wp2_with fail
  refine (size_ok K R _ h1 h4 h3).mono ?_
  rintro e w1 ⟨rfl, rfl⟩
  go_wp2_with fail
  refine (rule_odd K v xs _ h'.out).mono ?_
  rintro e w1 ⟨x, rfl, hb, rfl⟩
  rw [hs.out.odd]
  go_wp2
  go_ret
  exact ⟨_, rfl, (((Below.refl _ _).alloc (Nat.le_refl _) _).trans (hb.mono (by simp))), rfl⟩

/-- rule.Check at every rule. -/
theorem check_any (r : Nat → Addr) (k R : Int) (v : Value) (xs : List Int) (w : World) (hg : Glob r w) (h : IntsAt w v xs) :
    Calls Tryd.prog 40 #[.agg #[.int .i64 k, .int .i64 R, v]] w (Ret1 (fun x w' => ErrIs r w' (checkP k R xs) x) w) := by
  by_cases hk : k < 1 ∨ 4 < k
  · rw [checkP, if_pos hk]; exact check_k r k R v w hg hk
  by_cases hr : R < 0 ∨ 3 < R
  · rw [checkP, if_neg hk, if_pos hr]; exact check_r r k R v w hg (by omega) (by omega) hr
  obtain ⟨K, rfl⟩ := Int.eq_ofNat_of_zero_le (show 0 ≤ k by omega)
  obtain ⟨R, rfl⟩ := Int.eq_ofNat_of_zero_le (show 0 ≤ R by omega)
  by_cases hl : xs.length = pw K (2 * R + 1)
  · rcases syms_or K xs with hs | ⟨i, hi, hlt⟩
    · have hok : RuleOk K R xs := ⟨by omega, by omega, by omega, hl, hs⟩
      rw [hok.check]; exact check_ok K R v xs w h hok
    · have : checkP K R xs = fresh sRule (3 + i) 1 := by
        rw [checkP, if_neg hk, if_neg hr, if_neg (by simp [hl]), if_neg (by omega), hi]
      rw [this]
      exact check_odd r K R v xs i w hg h (by omega) (by omega) (by omega) hl hi hlt
  · have : checkP K R xs = fresh sRule 2 1 := by
      rw [checkP, if_neg hk, if_neg hr, if_pos (by simpa using hl)]
    rw [this]
    exact check_len r K R v xs w hg h (by omega) (by omega) (by omega) hl
end Go.Proofs.YtbpdmpcakenjhaaDoor

namespace Go.Proofs.YtbpdmpcakenjhaaDoor

/-- One entry's followers. -/
def sumRow (K : Nat) (x y : Int) (s : Nat) : List Int := (List.range s).map fun (t : Nat) => (y + x * t) % K
/-- The table's next state. -/
def sumStep (K : Nat) (x : Int) (T : List Int) : List Int := T.flatMap fun y => sumRow K x y K
def sumTable (K : Nat) : List Int → List Int → List Int
  | T, [] => T
  | T, x :: f => sumTable K (sumStep K x T) f
/-- The table of a sum. -/
def sumT (K : Nat) (f : List Int) : List Int := sumTable K [0] f

theorem sumRow_length (K : Nat) (x y : Int) (s : Nat) : (sumRow K x y s).length = s := by simp [sumRow]
theorem sumRow_succ (K : Nat) (x y : Int) (s : Nat) : sumRow K x y (s + 1) = sumRow K x y s ++ [(y + x * s) % K] := by simp [sumRow, List.range_succ]
theorem sumStep_length (K : Nat) (x : Int) (T : List Int) : (sumStep K x T).length = T.length * K := by
  induction T with
  | nil => simp [sumStep]
  | cons y T ih => simp only [sumStep, List.flatMap_cons, List.length_append, sumRow_length, List.length_cons] at *; rw [ih, Nat.succ_mul]; omega
theorem sumStep_snoc (K : Nat) (x y : Int) (T : List Int) : sumStep K x (T ++ [y]) = sumStep K x T ++ sumRow K x y K := by simp [sumStep]
theorem sumStep_nil (K : Nat) (x : Int) : sumStep K x [] = [] := rfl
theorem sumTable_snoc (K : Nat) (T f : List Int) (x : Int) : sumTable K T (f ++ [x]) = sumStep K x (sumTable K T f) := by
  induction f generalizing T with
  | nil => rfl
  | cons y f ih => exact ih _
theorem sumTable_length (K : Nat) (T f : List Int) : (sumTable K T f).length = T.length * pw K f.length := by
  induction f generalizing T with
  | nil => simp [sumTable, pw]
  | cons y f ih => rw [sumTable, ih, sumStep_length, List.length_cons, pw_succ, Nat.mul_assoc, Nat.mul_comm K]
theorem sumT_length (K : Nat) (f : List Int) : (sumT K f).length = pw K f.length := by rw [sumT, sumTable_length]; simp
theorem sumRow_syms {K : Nat} (hK : 1 ≤ K) (x y : Int) (s : Nat) : Syms K (sumRow K x y s) := by
  intro z hz
  obtain ⟨t, _, rfl⟩ := List.mem_map.1 hz
  exact ⟨Int.emod_nonneg _ (by omega), Int.emod_lt_of_pos _ (by omega)⟩
theorem sumStep_syms {K : Nat} (hK : 1 ≤ K) (x : Int) (T : List Int) : Syms K (sumStep K x T) := by
  intro z hz
  obtain ⟨y, _, h⟩ := List.mem_flatMap.1 hz
  exact sumRow_syms hK x y K z h
theorem sumTable_syms {K : Nat} (hK : 1 ≤ K) (T f : List Int) (hT : Syms K T) : Syms K (sumTable K T f) := by
  induction f generalizing T with
  | nil => exact hT
  | cons y f ih => exact ih _ (sumStep_syms hK y T)
theorem sumT_syms {K : Nat} (hK : 1 ≤ K) (f : List Int) : Syms K (sumT K f) := sumTable_syms hK _ _ (by intro x hx; simp at hx; omega)
theorem take_snoc (l : List Int) (k : Nat) (h : k < l.length) : l.take (k + 1) = l.take k ++ [l[k]] := by rw [List.take_succ_eq_append_getElem h]

/-- additive.numbers' answer. -/
def numP (k : Int) (f : List Int) (from_ : Int) : PErr := if idxOf (odd1 k) f = -1 then none else fresh sAdditive (from_ + idxOf (odd1 k) f) 2
def oddP (n : Nat) : Bool := decide (n % 2 = 1) && decide (n ≤ 7)
/-- additive.check's answer. -/
def factP (k : Int) (f : List Int) : PErr :=
  if k < 1 ∨ 4 < k then fresh sAdditive 0 3 else if oddP f.length = false then fresh sAdditive 1 3 else numP k f 0
/-- additive.Make's fault. -/
def makeP (k R : Int) (f : List Int) : PErr :=
  if k < 1 ∨ 4 < k ∨ R < 0 ∨ 3 < R then fresh sAdditive 0 3 else if (f.length : Int) ≠ 2 * R + 1 then fresh sAdditive 1 3 else numP k f 0

theorem numP_none {k : Int} {f : List Int} {a : Int} (h : numP k f a = none) : Syms k f := by
  unfold numP at h
  rcases syms_or k f with hs | ⟨i, hi, _⟩
  · exact hs
  · rw [if_neg (by omega)] at h; cases h
theorem Syms.num {k : Int} {f : List Int} (h : Syms k f) (a : Int) : numP k f a = none := by rw [numP, if_pos h.odd]

/-- The factors that may be, i of them found, the last first. -/
def facL (K n : Nat) (xs : List Int) (i : Nat) : List Int := (List.range n).map fun j => if n ≤ i + j then xs.getD (pw K (n - 1 - j)) 0 else 0
theorem facL_length (K n : Nat) (xs : List Int) (i : Nat) : (facL K n xs i).length = n := by simp [facL]
theorem facL_zero (K n : Nat) (xs : List Int) : facL K n xs 0 = List.replicate n 0 := by
  refine List.ext_getElem (by simp [facL]) fun j h1 h2 => ?_
  simp [facL] at h1 ⊢
  omega
theorem facL_succ (K n : Nat) (xs : List Int) (i : Nat) (hi : i < n) (hx : pw K i < xs.length) : (facL K n xs i).set (n - 1 - i) xs[pw K i] = facL K n xs (i + 1) := by
  refine List.ext_getElem (by simp [facL]) fun j h1 h2 => ?_
  simp only [facL, List.length_set, List.length_map, List.length_range] at h1
  rw [List.getElem_set]
  by_cases e : n - 1 - i = j
  · rw [if_pos e]
    simp only [facL, List.getElem_map, List.getElem_range]
    rw [if_pos (by omega), show n - 1 - j = i by omega]
    simp [List.getD, hx]
  · rw [if_neg e]
    simp only [facL, List.getElem_map, List.getElem_range]
    by_cases c : n ≤ i + j
    · rw [if_pos c, if_pos (by omega)]
    · rw [if_neg c, if_neg (by omega)]
/-- The same, one symbol alone allowed. -/
def facI (K n : Nat) (xs : List Int) (i : Nat) : List Int := if 1 < K then facL K n xs i else List.replicate n 0
def wI (K i : Nat) : Nat := if 1 < K then pw K i else 1
theorem facI_length (K n : Nat) (xs : List Int) (i : Nat) : (facI K n xs i).length = n := by
  unfold facI; split
  · exact facL_length ..
  · simp
theorem facI_zero (K n : Nat) (xs : List Int) : facI K n xs 0 = List.replicate n 0 := by
  unfold facI; split
  · exact facL_zero ..
  · rfl
/-- The factors of a rule, if it is a sum. -/
def facs (K R : Nat) (xs : List Int) : List Int := facI K (2 * R + 1) xs (2 * R + 1)
theorem facs_length (K R : Nat) (xs : List Int) : (facs K R xs).length = 2 * R + 1 := facI_length ..
theorem facs_syms {K R : Nat} {xs : List Int} (h : RuleOk K R xs) : Syms K (facs K R xs) := by
  have hk := h.k1
  intro x hx
  unfold facs facI at hx
  split at hx
  · obtain ⟨j, _, rfl⟩ := List.mem_map.1 hx
    split
    · by_cases hp : pw K (2 * R + 1 - 1 - j) < xs.length
      · simp only [List.getD, List.getElem?_eq_getElem hp, Option.getD_some]
        exact h.syms _ (by simp)
      · simp only [List.getD, List.getElem?_eq_none (Nat.le_of_not_lt hp), Option.getD_none]
        omega
    · omega
  · have := List.eq_of_mem_replicate hx; omega
/-- Is it a sum? -/
def isSum (K R : Nat) (xs : List Int) : Bool := decide (sumT K (facs K R xs) = xs)

/-- How many factors p does not divide. -/
def cnt (p : Int) (f : List Int) : Nat := f.countP fun x => x % p != 0
theorem cnt_snoc (p x : Int) (f : List Int) : cnt p (f ++ [x]) = cnt p f + (if (x % p != 0) = true then 1 else 0) := by
  simp only [cnt, List.countP_append, List.countP_singleton]
theorem cnt_le (p : Int) (f : List Int) : cnt p f ≤ f.length := List.countP_le_length
def primesP (k : Int) : List Int := if k = 2 ∨ k = 4 then [2] else if k = 3 then [3] else []
theorem primesP_mem {k p : Int} (h : p ∈ primesP k) : p = 2 ∨ p = 3 := by
  unfold primesP at h
  split at h
  · simp at h; exact .inl h
  · split at h
    · simp at h; exact .inr h
    · simp at h
/-- additive.whole's answer. -/
def wholeP (may : Int → Bool) (k : Int) (f : List Int) : Bool := (primesP k).all fun p => may (cnt p f)
theorem wholeP_true {may : Int → Bool} {k : Int} {f : List Int} (h : ∀ j (_ : j < (primesP k).length), may (cnt (primesP k)[j] f) = true) : wholeP may k f = true := by
  rw [wholeP, List.all_eq_true]
  intro p hp
  obtain ⟨j, hj, rfl⟩ := List.mem_iff_getElem.1 hp
  exact h j hj
theorem wholeP_false {may : Int → Bool} {k : Int} {f : List Int} (j : Nat) (hj : j < (primesP k).length) (h : may (cnt (primesP k)[j] f) = false) : wholeP may k f = false := by
  rw [wholeP, List.all_eq_false]
  exact ⟨_, List.getElem_mem hj, by simp [h]⟩
def mayOnto (n : Int) : Bool := decide (0 < n)
def mayOne (n : Int) : Bool := n == 1

/-! Products. -/
def addAt (K : Nat) (o : List Int) (p : Nat) (z : Int) : List Int := o.set p ((o.getD p 0 + z) % K)
def mulRow (K i : Nat) (x : Int) (b : List Int) : Nat → List Int → List Int
  | 0, o => o
  | s + 1, o => addAt K (mulRow K i x b s o) (i + s) (x * b.getD s 0)
def mulAll (K : Nat) (a b : List Int) : Nat → List Int
  | 0 => List.replicate (a.length + b.length - 1) 0
  | i + 1 => mulRow K i (a.getD i 0) b b.length (mulAll K a b i)
/-- The factors of one sum behind another. -/
def mulL (K : Nat) (a b : List Int) : List Int := mulAll K a b a.length
theorem addAt_length (K : Nat) (o : List Int) (p : Nat) (z : Int) : (addAt K o p z).length = o.length := by simp [addAt]
theorem mulRow_length (K i : Nat) (x : Int) (b : List Int) (s : Nat) (o : List Int) : (mulRow K i x b s o).length = o.length := by
  induction s with
  | zero => rfl
  | succ s ih => rw [mulRow, addAt_length, ih]
theorem mulAll_length (K : Nat) (a b : List Int) (i : Nat) : (mulAll K a b i).length = a.length + b.length - 1 := by
  induction i with
  | zero => simp [mulAll]
  | succ i ih => rw [mulAll, mulRow_length, ih]
theorem mulL_length (K : Nat) (a b : List Int) : (mulL K a b).length = a.length + b.length - 1 := mulAll_length ..
theorem addAt_syms {K : Nat} (hK : 1 ≤ K) {o : List Int} (h : Syms K o) (p : Nat) (z : Int) : Syms K (addAt K o p z) := by
  intro x hx
  rcases List.mem_or_eq_of_mem_set hx with h1 | h1
  · exact h x h1
  · subst h1
    exact ⟨Int.emod_nonneg _ (by omega), Int.emod_lt_of_pos _ (by omega)⟩
theorem mulRow_syms {K : Nat} (hK : 1 ≤ K) (i : Nat) (x : Int) (b : List Int) (s : Nat) {o : List Int} (h : Syms K o) : Syms K (mulRow K i x b s o) := by
  induction s with
  | zero => exact h
  | succ s ih => exact addAt_syms hK ih _ _
theorem mulAll_syms {K : Nat} (hK : 1 ≤ K) (a b : List Int) (i : Nat) : Syms K (mulAll K a b i) := by
  induction i with
  | zero => intro x hx; have := List.eq_of_mem_replicate hx; omega
  | succ i ih => exact mulRow_syms hK _ _ _ _ ih
theorem Syms.getD {K : Int} {xs : List Int} (hK : 0 < K) (h : Syms K xs) (i : Nat) : 0 ≤ xs.getD i 0 ∧ xs.getD i 0 < K := by
  by_cases c : i < xs.length
  · simp only [List.getD, List.getElem?_eq_getElem c, Option.getD_some]
    exact h _ (by simp)
  · simp only [List.getD, List.getElem?_eq_none (Nat.le_of_not_lt c), Option.getD_none]
    omega
/-- additive.Mul's fault. -/
def mulP (k : Int) (a b : List Int) : PErr :=
  match factP k a with
  | some t => some t
  | none => if oddP b.length = false then fresh sAdditive 2 3 else
    match numP k b a.length with
    | some t => some t
    | none => if oddP (a.length + b.length - 1) = false then fresh sAdditive 2 3 else none
end Go.Proofs.YtbpdmpcakenjhaaDoor

namespace Go.Proofs.YtbpdmpcakenjhaaDoor

def sPermut : ByteArray := ⟨#[112, 101, 114, 109, 117, 116]⟩

/-- The symbols seen in a group of windows, as bits. -/
def seenP (T : List Int) (W i : Nat) : Nat → Nat
  | 0 => 0
  | s + 1 => seenP T W i s ||| 2 ^ (T.getD (i + s * W) 0).toNat
theorem seenP_lt {K : Nat} (hK : 1 ≤ K) {T : List Int} (h : Syms K T) (W i s : Nat) : seenP T W i s < 2 ^ K := by
  induction s with
  | zero => exact Nat.two_pow_pos K
  | succ s ih =>
    have := h.getD (by omega) (i + s * W)
    exact Nat.or_lt_two_pow ih (Nat.pow_lt_pow_right (by decide) (by omega))
theorem two_pow_K {K : Nat} (h : K ≤ 4) : 2 ^ K ≤ 16 := by
  have : K = 0 ∨ K = 1 ∨ K = 2 ∨ K = 3 ∨ K = 4 := by omega
  rcases this with rfl | rfl | rfl | rfl | rfl <;> decide

/-- The group of window i. -/
def fullP (K : Nat) (T : List Int) (W i : Nat) : Bool := seenP T W i K == 2 ^ K - 1
/-- permut.unlike's answer. -/
def unlikeP (K : Nat) (T : List Int) (W : Nat) : Bool := (List.range T.length).all fun i => i / W % K != 0 || fullP K T W i
theorem unlikeP_true {K : Nat} {T : List Int} {W : Nat} (h : ∀ i, i < T.length → i / W % K = 0 → fullP K T W i = true) : unlikeP K T W = true := by
  rw [unlikeP, List.all_eq_true]
  intro i hi
  have hi' := List.mem_range.1 hi
  by_cases c : i / W % K = 0
  · simp [h i hi' c]
  · simp [c]
theorem unlikeP_false {K : Nat} {T : List Int} {W : Nat} (i : Nat) (hi : i < T.length) (hm : i / W % K = 0) (h : fullP K T W i = false) : unlikeP K T W = false := by
  rw [unlikeP, List.all_eq_false]
  exact ⟨i, List.mem_range.2 hi, by simp [hm, h]⟩
theorem unlikeP_full {K : Nat} {T : List Int} {W : Nat} (h : unlikeP K T W = true) (i : Nat) (hi : i < T.length) (hm : i / W % K = 0) : fullP K T W i = true := by
  rw [unlikeP, List.all_eq_true] at h
  have := h i (List.mem_range.2 hi)
  simpa [hm] using this

/-- A bit is seen just if a symbol is. -/
theorem seenP_bit {K : Nat} {T : List Int} (hK : 1 ≤ K) (h : Syms K T) (W i s y : Nat) : (seenP T W i s).testBit y = true ↔ ∃ t, t < s ∧ T.getD (i + t * W) 0 = y := by
  induction s with
  | zero => simp [seenP]
  | succ s ih =>
    have hx := h.getD (by omega) (i + s * W)
    rw [seenP, Nat.testBit_or, Bool.or_eq_true, ih, Nat.testBit_two_pow]
    constructor
    · rintro (⟨t, ht, e⟩ | e)
      · exact ⟨t, by omega, e⟩
      · rw [decide_eq_true_iff] at e; exact ⟨s, by omega, by omega⟩
    · rintro ⟨t, ht, e⟩
      by_cases c : t = s
      · subst c; right; rw [decide_eq_true_iff]; omega
      · left; exact ⟨t, by omega, e⟩

/-- In a full group each symbol stands. -/
theorem fullP_all {K : Nat} {T : List Int} (hK : 1 ≤ K) (h : Syms K T) {W i : Nat} (hf : fullP K T W i = true) (y : Nat) (hy : y < K) : ∃ t, t < K ∧ T.getD (i + t * W) 0 = y := by
  have e : seenP T W i K = 2 ^ K - 1 := by simpa [fullP] using hf
  rw [← seenP_bit hK h, e, Nat.testBit_two_pow_sub_one]
  simpa using hy

/-- permut.fits' answer. -/
def fitP (T : List Int) (rest W : Nat) (image : Int) : Nat → Nat → Nat
  | 0, _ => 0
  | n + 1, s => if T.getD (rest + s * W) 0 = image then s else fitP T rest W image n (s + 1)
def fit (K : Nat) (T : List Int) (rest W : Nat) (image : Int) : Nat := fitP T rest W image K 0
theorem fitP_lt (T : List Int) (rest W : Nat) (image : Int) (n s : Nat) (h : 0 < s + n) : fitP T rest W image n s < s + n := by
  induction n generalizing s with
  | zero => exact h
  | succ n ih =>
    rw [fitP]
    split
    · omega
    · have := ih (s + 1) (by omega); omega
theorem fit_lt {K : Nat} (hK : 1 ≤ K) (T : List Int) (rest W : Nat) (image : Int) : fit K T rest W image < K := by
  have := fitP_lt T rest W image K 0 (by omega); simpa [fit] using this
theorem fitP_at (T : List Int) (rest W : Nat) (image : Int) (n s k : Nat) (hk : k < n) (h : T.getD (rest + (s + k) * W) 0 = image) (hj : ∀ j, j < k → T.getD (rest + (s + j) * W) 0 ≠ image) : fitP T rest W image n s = s + k := by
  induction n generalizing s k with
  | zero => omega
  | succ n ih =>
    rw [fitP]
    by_cases c : k = 0
    · subst c; rw [if_pos (by simpa using h)]; rfl
    · have := hj 0 (by omega)
      rw [if_neg (by simpa using this), ih (s + 1) (k - 1) (by omega) (by rw [show s + 1 + (k - 1) = s + k by omega]; exact h) (fun j hj' => by rw [show s + 1 + j = s + (j + 1) by omega]; exact hj (j + 1) (by omega))]
      omega
theorem fit_at {K : Nat} (T : List Int) (rest W : Nat) (image : Int) (k : Nat) (hk : k < K) (h : T.getD (rest + k * W) 0 = image) (hj : ∀ j, j < k → T.getD (rest + j * W) 0 ≠ image) : fit K T rest W image = k := by
  have := fitP_at T rest W image K 0 k hk (by simpa using h) (by simpa using hj)
  simpa [fit] using this
theorem fitP_none (T : List Int) (rest W : Nat) (image : Int) (n s : Nat) (hj : ∀ j, j < n → T.getD (rest + (s + j) * W) 0 ≠ image) : fitP T rest W image n s = 0 := by
  induction n generalizing s with
  | zero => rfl
  | succ n ih =>
    rw [fitP, if_neg (by simpa using hj 0 (by omega))]
    exact ih (s + 1) (fun j h => by rw [show s + 1 + j = s + (j + 1) by omega]; exact hj (j + 1) (by omega))
theorem fit_none {K : Nat} (T : List Int) (rest W : Nat) (image : Int) (hj : ∀ j, j < K → T.getD (rest + j * W) 0 ≠ image) : fit K T rest W image = 0 :=
  fitP_none T rest W image K 0 (by simpa using hj)
/-- Where some symbol fits, the answer fits. -/
theorem fit_ok {K : Nat} (T : List Int) (rest W : Nat) (image : Int) (h : ∃ t, t < K ∧ T.getD (rest + t * W) 0 = image) : T.getD (rest + fit K T rest W image * W) 0 = image := by
  suffices H : ∀ n s, (∃ t, t < n ∧ T.getD (rest + (s + t) * W) 0 = image) → T.getD (rest + fitP T rest W image n s * W) 0 = image by
    exact H K 0 (by simpa using h)
  intro n
  induction n with
  | zero => rintro s ⟨t, ht, _⟩; omega
  | succ n ih =>
    rintro s ⟨t, ht, e⟩
    rw [fitP]
    split
    · assumption
    · rename_i hne
      refine ih (s + 1) ⟨t - 1, ?_, ?_⟩
      · by_cases c : t = 0
        · subst c; simp at e; exact absurd e hne
        · omega
      · by_cases c : t = 0
        · subst c; simp at e; exact absurd e hne
        · rw [show s + 1 + (t - 1) = s + t by omega]; exact e

/-- The number of a word. -/
def numW (K : Nat) (xs : List Int) : Nat := xs.foldl (fun n x => n * K + x.toNat) 0
theorem numW_snoc (K : Nat) (xs : List Int) (x : Int) : numW K (xs ++ [x]) = numW K xs * K + x.toNat := by simp [numW]
theorem numW_lt {K : Nat} (xs : List Int) (h : Syms K xs) : numW K xs < pw K xs.length := by
  suffices H : ∀ ys zs, xs = ys ++ zs → numW K ys < pw K ys.length from H xs [] (by simp)
  intro ys
  induction hn : ys.length generalizing ys with
  | zero => intro zs _; have := List.eq_nil_of_length_eq_zero hn; subst this; simp [numW, pw]
  | succ n ih =>
    intro zs e
    have hne : ys ≠ [] := by intro e; subst e; simp at hn
    obtain ⟨b, x, rfl⟩ : ∃ b x, ys = b ++ [x] := ⟨ys.dropLast, ys.getLast hne, (List.dropLast_concat_getLast hne).symm⟩
    have hb : b.length = n := by simpa using hn
    have h1 := ih b hb ([x] ++ zs) (by rw [e]; simp)
    have hx := h x (by rw [e]; simp)
    rw [numW_snoc, pw_succ]
    have : (numW K b + 1) * K ≤ pw K n * K := Nat.mul_le_mul_right _ (by omega)
    rw [Nat.succ_mul] at this
    omega

/-- permut.Right's symbols. -/
def rightP (K : Nat) (T : List Int) : Nat → List Int → List Int
  | _, [] => []
  | node, x :: w => (fit K T (node * K) 1 x : Int) :: rightP K T ((node * K + fit K T (node * K) 1 x) % (T.length / K)) w
/-- The node behind them. -/
def rightN (K : Nat) (T : List Int) : Nat → List Int → Nat
  | node, [] => node
  | node, x :: w => rightN K T ((node * K + fit K T (node * K) 1 x) % (T.length / K)) w
theorem rightP_snoc (K : Nat) (T : List Int) (node : Nat) (w : List Int) (x : Int) : rightP K T node (w ++ [x]) = rightP K T node w ++ [(fit K T (rightN K T node w * K) 1 x : Int)] := by
  induction w generalizing node with
  | nil => rfl
  | cons y w ih => simp [rightP, rightN, ih]
theorem rightN_snoc (K : Nat) (T : List Int) (node : Nat) (w : List Int) (x : Int) : rightN K T node (w ++ [x]) = (rightN K T node w * K + fit K T (rightN K T node w * K) 1 x) % (T.length / K) := by
  induction w generalizing node with
  | nil => rfl
  | cons y w ih => simp [rightN, ih]
theorem rightP_length (K : Nat) (T : List Int) (node : Nat) (w : List Int) : (rightP K T node w).length = w.length := by
  induction w generalizing node with
  | nil => rfl
  | cons y w ih => simp [rightP, ih]
theorem rightN_lt {K : Nat} {T : List Int} (h : 0 < T.length / K) (node : Nat) (hn : node < T.length / K) (w : List Int) : rightN K T node w < T.length / K := by
  induction w generalizing node with
  | nil => exact hn
  | cons y w ih => exact ih _ (Nat.mod_lt _ h)

/-- permut.Left's symbols, from the last on: the node behind them and they. -/
def leftS (K : Nat) (T : List Int) : Nat → List Int → Nat × List Int
  | node, [] => (node, [])
  | node, x :: w =>
    let p := leftS K T node w
    let s := fit K T p.1 (T.length / K) x
    ((s * (T.length / K) + p.1) / K, (s : Int) :: p.2)
theorem leftS_length (K : Nat) (T : List Int) (node : Nat) (w : List Int) : (leftS K T node w).2.length = w.length := by
  induction w with
  | nil => rfl
  | cons y w ih => simp [leftS, ih]

/-- permut.check's fault. -/
def checkM (K R : Nat) (w ends : List Int) : PErr :=
  if 4096 < w.length then fresh sPermut 1 4 else if ends.length ≠ 2 * R then fresh sPermut 2 3
  else if idxOf (odd1 K) (w ++ ends) = -1 then none else fresh sPermut (idxOf (odd1 K) (w ++ ends)) 2
theorem checkM_none {K R : Nat} {w ends : List Int} (h : checkM K R w ends = none) : w.length ≤ 4096 ∧ ends.length = 2 * R ∧ Syms K w ∧ Syms K ends := by
  unfold checkM at h
  by_cases h1 : 4096 < w.length
  · rw [if_pos h1] at h; cases h
  rw [if_neg h1] at h
  by_cases h2 : ends.length ≠ 2 * R
  · rw [if_pos h2] at h; cases h
  rw [if_neg h2] at h
  rcases syms_or K (w ++ ends) with hs | ⟨i, hi, _⟩
  · exact ⟨by omega, by omega, fun x hx => hs x (by simp [hx]), fun x hx => hs x (by simp [hx])⟩
  · rw [if_neg (by omega)] at h; cases h
/-- permut.Right's and Left's faults: the side's weight is handed in. -/
def permF (k R : Int) (xs : List Int) (W : Nat) (w ends : List Int) : PErr :=
  match checkP k R xs with
  | some t => under sPermut 0 (some t)
  | none => if unlikeP k.toNat xs W = false then fresh sPermut 0 3 else checkM k.toNat R.toNat w ends

/-- A group of windows lies within the table. -/
theorem group_lt {K W q j s n : Nat} (hW : 1 ≤ W) (hn : n = q * (W * K)) (hj : j < n) (hm : j / W % K = 0) (hs : s < K) : j + s * W < n := by
  have h1 := Nat.div_add_mod j W
  have h2 := Nat.div_add_mod (j / W) K
  have h3 := Nat.mod_lt j hW
  rw [hm, Nat.add_zero] at h2
  have e : j = W * K * (j / W / K) + j % W := by
    rw [Nat.mul_assoc, h2]; omega
  have hc : j / W / K < q := by
    rw [Nat.div_div_eq_div_mul]
    exact Nat.div_lt_of_lt_mul (by rw [Nat.mul_comm]; omega)
  have h4 : W * K * (j / W / K + 1) ≤ W * K * q := Nat.mul_le_mul_left _ hc
  rw [Nat.mul_add, Nat.mul_one] at h4
  have h5 : (s + 1) * W ≤ K * W := Nat.mul_le_mul_right _ hs
  rw [Nat.succ_mul, Nat.mul_comm K W] at h5
  rw [hn, Nat.mul_comm q]
  omega

theorem RuleOk.half {K R : Nat} {xs : List Int} (h : RuleOk K R xs) : xs.length / K = pw K (2 * R) ∧ xs.length = pw K (2 * R) * K := by
  have e := h.len
  rw [pw_succ] at e
  have := h.k1
  exact ⟨by rw [e, Nat.mul_div_cancel _ (by omega)], e⟩
end Go.Proofs.YtbpdmpcakenjhaaDoor

namespace Go.Proofs.YtbpdmpcakenjhaaDoor
open Go.RowKit
set_option maxRecDepth 100000

theorem perm_wrong (r : Nat → Addr) (at_ n : Int) (w : World) (hg : Glob r w) (h1 : 1 ≤ n) (h2 : n ≤ 11) :
    Calls Tryd.prog 36 #[.int .i64 at_, .int .i64 n] w (Ret1 (fun v w' => ErrIs r w' (fresh sPermut at_ n) v) w) := by
  go_enter Tryd.func36, Tryd.ntmps36
  go_wp2_with fail
  refine (new_any r _ at_ n w hg h1 h2).mono ?_
  rintro e w' ⟨v, rfl, hb, he⟩
  go_wp2
  go_ret
  exact ⟨_, rfl, hb, he⟩

theorem wrap64_nat (n : Nat) (h : n < 1048576) : wrap64 (n : Int) = n := wrap64_id (by omega) (by omega)
theorem wrap64_nat1 (n : Nat) (h1 : 1 ≤ n) (h : n < 1048576) : wrap64 ((n : Int) - 1) = ((n - 1 : Nat) : Int) := by
  rw [wrap64_id (by omega) (by omega)]; omega
theorem bits_or_nat (a b : Nat) (ha : a < 1024) (hb : b < 1024) : bits .or .i64 (a : Int) (b : Int) = ((a ||| b : Nat) : Int) := by
  have hx : a ||| b < 2 ^ 10 := Nat.or_lt_two_pow (by omega) (by omega)
  have h1 : (BitVec.ofInt 64 (a : Int)).toNat = a := by
    rw [BitVec.ofInt_natCast, BitVec.toNat_ofNat]; exact Nat.mod_eq_of_lt (by omega)
  have h2 : (BitVec.ofInt 64 (b : Int)).toNat = b := by
    rw [BitVec.ofInt_natCast, BitVec.toNat_ofNat]; exact Nat.mod_eq_of_lt (by omega)
  show IntKind.i64.wrap ((BitVec.ofInt 64 (a : Int) ||| BitVec.ofInt 64 (b : Int)).toNat : Int) = _
  rw [BitVec.toNat_or, h1, h2]
  exact wrapK (by omega) (by omega)

set_option maxHeartbeats 1000000 in
theorem unlike_any (K R : Nat) (va : Option Addr) (vn vc : Nat) (xs : List Int) (W : Nat) (w : World) (h : IntsAt w (.slice va vn vc) xs) (hr : RuleOk K R xs) (hW : 1 ≤ W) (q : Nat) (hdiv : xs.length = q * (W * K)) :
    Calls Tryd.prog 49 #[.agg #[.int .i64 K, .int .i64 R, .slice va vn vc], .int .i64 W] w (Ret1 (fun x _ => x = .bool (unlikeP K xs W)) w) := by
  have hb0 := belowAlloc w (.cells #[.int .i64 K, .int .i64 R, .slice va vn vc] 24)
  have h0 := Lib.hid h
  have hl := h.len
  have hk1 := hr.k1
  have hk4 := hr.k4
  have hlen := hr.len_le
  clear h
  replace hdiv := Lib.hid hdiv
  replace hr := Lib.hid hr
  go_enter Tryd.func49, Tryd.ntmps49
  go_wp2_with fail
  go_loopw [11] (fun i wr => (∃ j : Nat, j ≤ xs.length ∧ i = .int .i64 j ∧ ∀ t, t < j → t / W % K = 0 → fullP K xs W t = true) ∧ ∃ n, wr = (w.alloc (.cells #[.int .i64 K, .int .i64 R, .slice va vn vc] 24)).drewN n) (fun i _ => xs.length - (intOf i).toNat)
  case atStart => exact ⟨⟨0, by omega, rfl, by intro t ht; omega⟩, 0, rfl⟩
  case round =>
    obtain ⟨⟨j, hj, rfl, hp⟩, n, rfl⟩ := hrel
    replace hp := Lib.hid hp
    by_cases hlt : j < xs.length
    · by_cases hm : j / W % K = 0
      · have hqd : 0 ≤ (j : Int) / (W : Int) := Int.ediv_nonneg (by omega) (by omega)
        have hqu : (j : Int) / (W : Int) ≤ 16384 := by
          have : j / W ≤ j := Nat.div_le_self _ _
          have : j / W ≤ 16384 := by omega
          exact_mod_cast this
        have hq : ((j : Int) / (W : Int) % (K : Int) != 0) = false := by
          rw [bne_eq_false_iff_eq]
          exact_mod_cast hm
        replace hm := Lib.hid hm
        go_wp2
        go_quiet (fail)
        go_wp2
        go_loop [6, 23] (fun n i => ∃ s : Nat, s ≤ K ∧ i = .int .i64 s ∧ n = .int .i64 (seenP xs W j s)) (fun _ i => K - (intOf i).toNat)
        case atStart => exact ⟨0, by omega, rfl, rfl⟩
        case round =>
          obtain ⟨s, hs, rfl, rfl⟩ := hrel
          by_cases hsl : s < K
          · have hx := hr.out.syms.getD (by omega) (j + s * W)
            have hin : j + s * W < xs.length := group_lt hW hdiv.out hlt hm.out hsl
            have h1 := h0.out.below hb0
            have i1 : ∀ w', (Instr.indexAt 22 (.slice va vn vc) (.int .i64 ((j : Int) + (s : Int) * (W : Int)))).run Tryd.prog w' = .ok (.pointer (some (valAt (.slice va vn vc) (j + s * W)))) w' := by
              intro w'
              have := h1.idx (j + s * W) hin w'
              rwa [Int.natCast_add, Int.natCast_mul] at this
            have c1 := h1.cellD (j + s * W) hin
            have hsw0 : 0 ≤ (s : Int) * (W : Int) := Int.mul_nonneg (by omega) (by omega)
            have hsw1 : (s : Int) * (W : Int) ≤ 16384 := by
              have : s * W ≤ 16384 := by omega
              exact_mod_cast this
            have hst : Hid (seenP xs W j (s + 1) = seenP xs W j s ||| 2 ^ (xs.getD (j + s * W) 0).toNat) := rfl
            have hsl2 := seenP_lt hk1 hr.out.syms W j s
            have h16 := two_pow_K hk4
            generalize xs.getD (j + s * W) 0 = x at hx c1 hst
            have hbx : 2 ^ x.toNat < 1024 := Nat.lt_of_lt_of_le (Nat.pow_lt_pow_right (by decide) (show x.toNat < 4 by omega)) (by decide)
            have hbit : Hid (bits BinOp.or IntKind.i64 ((seenP xs W j s : Nat) : Int) (wrap64 (2 ^ x.toNat)) = ((seenP xs W j (s + 1) : Nat) : Int)) := by
              show _ = _
              have e : (2 : Int) ^ x.toNat = ((2 ^ x.toNat : Nat) : Int) := by simp
              rw [e, wrap64_nat _ (by omega), bits_or_nat _ _ (by omega) hbx, hst.out]
            go_wp2
            go_round
            case rel => exact ⟨s + 1, by omega, by go_num, by rw [hbit.out]⟩
            case measure => simp [intOf]; omega
          · obtain rfl : K = s := by omega
            have h16 := two_pow_K hk4
            have h1K : 1 ≤ 2 ^ K := Nat.two_pow_pos K
            have e : (2 : Int) ^ K = ((2 ^ K : Nat) : Int) := by simp
            have e2 : wrap64 (wrap64 ((2 : Int) ^ K) - 1) = ((2 ^ K - 1 : Nat) : Int) := by
              rw [e, wrap64_nat _ (by omega), wrap64_nat1 _ h1K (by omega)]
            have hT : Hid (((seenP xs W j K : Nat) : Int) != wrap64 (wrap64 ((2 : Int) ^ K) - 1)) = Hid (fullP K xs W j = false) := by
              show ((((seenP xs W j K : Nat) : Int) != wrap64 (wrap64 ((2 : Int) ^ K) - 1)) = true) = (fullP K xs W j = false)
              rw [e2]
              apply propext
              rw [bne_iff_ne, fullP, beq_eq_false_iff_ne]
              omega
            cases hf : fullP K xs W j
            · have ht : (((seenP xs W j K : Nat) : Int) != wrap64 (wrap64 ((2 : Int) ^ K) - 1)) = true := by
                have := Eq.mpr hT hf; exact this
              have hu := Lib.hid (unlikeP_false (K := K) j hlt hm.out hf)
              clear hT e e2 hf
              go_wp2
              go_ret
              exact ⟨_, rfl, below_drewN hb0 _, (by rw [hu.out]; rfl)⟩
            · have ht : (((seenP xs W j K : Nat) : Int) != wrap64 (wrap64 ((2 : Int) ^ K) - 1)) = false := by
                rw [Bool.eq_false_iff]
                intro c
                have := Eq.mp hT c
                rw [hf] at this
                cases this
              replace hf := Lib.hid hf
              clear hT e e2
              go_wp2
              go_roundw
              case rel =>
                refine ⟨⟨j + 1, by omega, by go_num, ?_⟩, _, rfl⟩
                intro t ht' htm
                by_cases e : t = j
                · subst e; exact hf.out
                · exact hp.out t (by omega) htm
              case measure => simp [intOf]; omega
      · have hqd : 0 ≤ (j : Int) / (W : Int) := Int.ediv_nonneg (by omega) (by omega)
        have hqu : (j : Int) / (W : Int) ≤ 16384 := by
          have : j / W ≤ j := Nat.div_le_self _ _
          have : j / W ≤ 16384 := by omega
          exact_mod_cast this
        have hq : ((j : Int) / (W : Int) % (K : Int) != 0) = true := by
          rw [bne_iff_ne]
          intro e
          apply hm
          exact_mod_cast e
        replace hm := Lib.hid hm
        go_wp2
        go_quiet (fail)
        go_wp2
        go_roundw
        case rel =>
          refine ⟨⟨j + 1, by omega, by go_num, ?_⟩, _, rfl⟩
          intro t ht htm
          by_cases e : t = j
          · subst e; exact absurd htm hm.out
          · exact hp.out t (by omega) htm
        case measure => simp [intOf]; omega
    · have hu : unlikeP K xs W = true := unlikeP_true fun i hi hm => hp.out i (by omega) hm
      replace hu := Lib.hid hu
      go_wp2
      go_ret
      exact ⟨_, rfl, below_drewN hb0 n, (by rw [hu.out]; rfl)⟩

theorem sides_bad (r : Nat → Addr) (k R : Int) (va : Option Addr) (vn vc : Nat) (xs : List Int) (t : Int × List (ByteArray × Int)) (w : World) (hg : Glob r w) (h : IntsAt w (.slice va vn vc) xs) (hc : checkP k R xs = some t) :
    Calls Tryd.prog 15 #[.agg #[.int .i64 k, .int .i64 R, .slice va vn vc]] w (Ret3 (fun x y z w' => x = .bool false ∧ y = .bool false ∧ ErrIs r w' (under sPermut 0 (some t)) z) w) := by
  have hb0 := belowAlloc w (.cells #[.int .i64 k, .int .i64 R, .slice va vn vc] 24)
  replace hg := Lib.hid (hg.below hb0)
  replace h := Lib.hid (h.below hb0)
  replace hc := Lib.hid hc
  go_enter Tryd.func15, Tryd.ntmps15
  go_wp2_with fail
  refine (check_any r k R _ xs _ hg.out h.out).mono ?_
  rintro e w1 ⟨x, rfl, hb, he⟩
  rw [hc.out] at he
  have he' := Lib.hid he
  obtain ⟨T, p, rfl⟩ := he.some_shape
  clear he
  go_wp2_with fail
  refine (under_any r _ _ _ _ _ he'.out).mono ?_
  rintro e w2 ⟨x, rfl, hb', he⟩
  go_wp2
  go_ret3
  exact ⟨_, _, _, rfl, Below.step hb0 (Below.step hb hb'), rfl, rfl, he⟩

theorem unlikeI (K R : Nat) (va : Option Addr) (vn vc : Nat) (xs : List Int) (Wi : Int) (w : World) (hW : 1 ≤ Wi) (hdiv : ∃ q, xs.length = q * (Wi.toNat * K)) (h : IntsAt w (.slice va vn vc) xs) (hr : RuleOk K R xs) :
    Calls Tryd.prog 49 #[.agg #[.int .i64 K, .int .i64 R, .slice va vn vc], .int .i64 Wi] w (Ret1 (fun x _ => x = .bool (unlikeP K xs Wi.toNat)) w) := by
  obtain ⟨W, rfl⟩ := Int.eq_ofNat_of_zero_le (show 0 ≤ Wi by omega)
  obtain ⟨q, hq⟩ := hdiv
  rw [Int.toNat_natCast] at hq ⊢
  exact unlike_any K R va vn vc xs W w h hr (by omega) q hq

set_option maxHeartbeats 1000000 in
theorem sides_ok (K R : Nat) (va : Option Addr) (vn vc : Nat) (xs : List Int) (w : World) (h : IntsAt w (.slice va vn vc) xs) (hr : RuleOk K R xs) :
    Calls Tryd.prog 15 #[.agg #[.int .i64 K, .int .i64 R, .slice va vn vc]] w (Ret3 (fun x y z _ => x = .bool (unlikeP K xs (xs.length / K)) ∧ y = .bool (unlikeP K xs 1) ∧ z = .nilIface) w) := by
  have hb0 := belowAlloc w (.cells #[.int .i64 K, .int .i64 R, .slice va vn vc] 24)
  have hl := h.len
  have hk1 := hr.k1
  have hlen := hr.len_le
  have hhf := hr.half
  have hp1 := pw_pos (2 * R) hk1
  replace h := Lib.hid (h.below hb0)
  replace hr := Lib.hid hr
  replace hhf := Lib.hid hhf
  have hq0 : 0 ≤ (xs.length : Int) / (K : Int) := Int.ediv_nonneg (by omega) (by omega)
  have hq1 : (xs.length : Int) / (K : Int) ≤ 16384 := by
    have : xs.length / K ≤ 16384 := Nat.le_trans (Nat.div_le_self _ _) hlen
    exact_mod_cast this
  have hqw : IntKind.i64.wrap ((xs.length : Int) / (K : Int)) = (xs.length : Int) / (K : Int) := wrapK (by omega) (by omega)
  have hdc : Hid ((xs.length : Int) / (K : Int) = ((xs.length / K : Nat) : Int)) := by show _ = _; simp
  go_enter Tryd.func15, Tryd.ntmps15
  go_wp2_with fail
  refine (check_ok K R _ xs _ h.out hr.out).mono ?_
  rintro e w1 ⟨x, rfl, hb, rfl⟩
  obtain ⟨z0, z1, z2, f0, f1, f2⟩ := cells3 hb
  have hx := h.out.below hb
  have hsz : w.heap.size < w1.heap.size := World.block_lt_of_cell? _ _ z0
  replace hx := Lib.hid hx
  have hK0 : ((K : Int) == 0) = false := by rw [beq_eq_false_iff_ne]; omega
  have hK1 : ¬ (K : Int) = 0 := by omega
  have hK2 : (0 : Int) < K := by omega
  have hK3 : ¬ K = 0 := by omega
  have hdc2 : Hid (((xs.length : Int) / (K : Int)).toNat = xs.length / K) := by show _ = _; rw [hdc.out, Int.toNat_natCast]
  have hW1 : 1 ≤ (xs.length : Int) / (K : Int) := by
    rw [hdc.out, hhf.out.1]; omega
  have hd1 : Hid (∃ q, xs.length = q * (((xs.length : Int) / (K : Int)).toNat * K)) := ⟨1, by rw [hdc.out, Int.toNat_natCast, hhf.out.1, Nat.one_mul]; exact hhf.out.2⟩
  have hd2 : Hid (∃ q, xs.length = q * ((1 : Int).toNat * K)) := ⟨pw K (2 * R), by simpa using hhf.out.2⟩
  go_wp2
  go_region_held3 (fun w' => w'.cell? ⟨w.heap.size, 0, none⟩ = some (.int .i64 K) ∧ w'.cell? ⟨w.heap.size, 1, none⟩ = some (.int .i64 R) ∧ w'.cell? ⟨w.heap.size, 2, none⟩ = some (.slice va vn vc)) (go_keep)
    (first | (go_at_call 49; refine (unlikeI K R va vn vc xs _ _ (by first | exact hW1 | decide) (by first | exact hd1.out | exact hd2.out) (by first | exact hx.out.drew | exact hx.out.drew.below hb') hr.out).mono ?_; rintro e w2 ⟨x2, rfl, hb', rfl⟩; have S := keep3 hb' (by first | exact S | exact ⟨z0, z1, z2⟩); have y0 := S.1; have y1 := S.2.1; have y2 := S.2.2; have bb : Below w1.heap.size w1 w2 := (by first | exact bb.trans (hb'.mono bb.size) | exact ((Below.refl _ _).drew).trans hb')))
  go_wp2
  go_ret3
  exact ⟨_, _, _, rfl, Below.step hb0 (Below.step hb bb), (by rw [← hdc2.out]; rfl), rfl, rfl⟩
end Go.Proofs.YtbpdmpcakenjhaaDoor

namespace Go.Proofs.YtbpdmpcakenjhaaDoor
open Go.RowKit
set_option maxRecDepth 100000

theorem perm_check1 (x k : Int) (b : Nat) (w : World) (hb : w.cell? ⟨b, 0, none⟩ = some (.int .i64 k)) :
    Calls Tryd.prog 72 #[.int .i64 x, .pointer (some ⟨b, 0, none⟩)] w fun e w' => e = .returned (.bool (odd1 k x)) ∧ w = w' := by
  by_cases h : x < 0
  · have e : odd1 k x = true := by simp [odd1, h]
    rw [e]
    go_enter Tryd.func72, Tryd.ntmps72
    go_wp2
    go_ret
    exact ⟨rfl, rfl⟩
  · have e : odd1 k x = decide (k ≤ x) := by simp [odd1, h]
    rw [e]
    go_enter Tryd.func72, Tryd.ntmps72
    go_wp2
    go_ret
    exact ⟨ret_bool (by simp), rfl⟩
theorem eg_perm_check1 (args : Array Value) (w : World) : (callFunc 72 args).run Tryd.prog w = .ok (.enter 72 args) w := by kernel_rfl

theorem catN_two (vs : Nat → List Int) : catN vs 2 = vs 0 ++ vs 1 := by simp [catN, List.range, List.range.loop]

theorem concat2 (u v : Value) (xs ys : List Int) (w : World) (hu : IntsAt w u xs) (hv : IntsAt w v ys) (hx : xs.length ≤ 8192) (hy : ys.length ≤ 8192) (b : Nat) (hb : b = w.heap.size) :
    Calls Tryd.prog 71 #[.slice (some ⟨b, 0, none⟩) 2 2] (w.alloc (.cells #[u, v] 22)) (Ret1 (fun x w' => OwnI (w.heap.size + 1) w' x (xs ++ ys)) (w.alloc (.cells #[u, v] 22))) := by
  subst hb
  have hv2 : ValsAt (w.alloc (.cells #[u, v] 22)) (.slice (some ⟨w.heap.size, 0, none⟩) 2 2) [u, v] :=
    OwnV.at (E := 22) (B := 0) (World.ownsRow_lit (base := 0) (e := 22) (size := 1) w #[u, v] 2 (Nat.zero_le _) (by decide) rfl)
  have := concat_any _ _ (fun t => if t = 0 then xs else ys) _ hv2 (by
    intro t ht
    have : t = 0 ∨ t = 1 := by simp at ht; omega
    rcases this with rfl | rfl
    · exact hu.below (belowAlloc w _)
    · exact hv.below (belowAlloc w _)) (by simp) (by intro t _; split <;> assumption)
  rw [show [u, v].length = 2 from rfl, catN_two] at this
  simpa using this

theorem perm_fits (K R : Nat) (va : Option Addr) (vn vc : Nat) (xs : List Int) (rest W : Nat) (image : Int) (w : World) (h : IntsAt w (.slice va vn vc) xs) (hr : RuleOk K R xs) (hin : rest + (K - 1) * W < xs.length) :
    Calls Tryd.prog 39 #[.agg #[.int .i64 K, .int .i64 R, .slice va vn vc], .int .i64 rest, .int .i64 W, .int .i64 image] w fun e w' => e = .returned (.int .i64 (fit K xs rest W image)) ∧ w' = w.alloc (.cells #[.int .i64 K, .int .i64 R, .slice va vn vc] 24) := by
  have hb0 := belowAlloc w (.cells #[.int .i64 K, .int .i64 R, .slice va vn vc] 24)
  have hlen := hr.len_le
  have hk1 := hr.k1
  have hk4 := hr.k4
  replace h := Lib.hid (h.below hb0)
  go_enter Tryd.func39, Tryd.ntmps39
  go_wp2
  go_loop [12] (fun i => ∃ s : Nat, s ≤ K ∧ i = .int .i64 s ∧ fit K xs rest W image = fitP xs rest W image (K - s) s) (fun i => K - (intOf i).toNat)
  case atStart => exact ⟨0, by omega, rfl, rfl⟩
  case round =>
    obtain ⟨s, hs, rfl, hf⟩ := hrel
    by_cases hsl : s < K
    · have hsW : s * W ≤ (K - 1) * W := Nat.mul_le_mul_right _ (by omega)
      have hj : rest + s * W < xs.length := by omega
      have i1 : ∀ w', (Instr.indexAt 22 (.slice va vn vc) (.int .i64 ((rest : Int) + (s : Int) * (W : Int)))).run Tryd.prog w' = .ok (.pointer (some (valAt (.slice va vn vc) (rest + s * W)))) w' := by
        intro w'
        have := h.out.idx (rest + s * W) hj w'
        rwa [Int.natCast_add, Int.natCast_mul] at this
      have c1 := h.out.cellD (rest + s * W) hj
      have hsw0 : 0 ≤ (s : Int) * (W : Int) := Int.mul_nonneg (by omega) (by omega)
      have hsw1 : (s : Int) * (W : Int) ≤ 16384 := by
        have : s * W ≤ 16384 := by omega
        exact_mod_cast this
      have e : K - s = (K - (s + 1)) + 1 := by omega
      rw [e, fitP] at hf
      by_cases hq : xs.getD (rest + s * W) 0 = image
      · have hq2 : (xs.getD (rest + s * W) 0 == image) = true := by rw [beq_iff_eq]; exact hq
        rw [if_pos hq] at hf
        replace hf := Lib.hid hf
        clear hq
        generalize xs.getD (rest + s * W) 0 = y at hq2 c1
        go_wp2
        go_ret
        exact ⟨by rw [hf.out]; rfl, rfl⟩
      · have hq2 : (xs.getD (rest + s * W) 0 == image) = false := by rw [beq_eq_false_iff_ne]; exact hq
        rw [if_neg hq] at hf
        replace hf := Lib.hid hf
        clear hq
        generalize xs.getD (rest + s * W) 0 = y at hq2 c1
        go_wp2
        go_round
        case rel => exact ⟨s + 1, by omega, by go_num, hf.out⟩
        case measure => simp [intOf]; omega
    · obtain rfl : K = s := by omega
      rw [Nat.sub_self] at hf
      replace hf := Lib.hid hf
      go_wp2
      go_ret
      exact ⟨by rw [hf.out]; rfl, rfl⟩

set_option maxHeartbeats 1000000 in
theorem perm_check (r : Nat → Addr) (K R : Nat) (va : Option Addr) (vn vc : Nat) (u v : Value) (xs ys : List Int) (w : World) (hg : Glob r w) (hu : IntsAt w u xs) (hv : IntsAt w v ys) (hR : R ≤ 3) :
    Calls Tryd.prog 37 #[.agg #[.int .i64 K, .int .i64 R, .slice va vn vc], u, v] w (Ret1 (fun x w' => ErrIs r w' (checkM K R xs ys) x) w) := by
  have hb0 := belowAlloc w (.cells #[.int .i64 K, .int .i64 R, .slice va vn vc] 24)
  have l1 := hu.len
  have l2 := hv.len
  obtain ⟨a1, n1, c1, rfl⟩ := hu.shape
  obtain ⟨a2, n2, c2, rfl⟩ := hv.shape
  replace hg := Lib.hid (hg.below hb0)
  replace hu := Lib.hid (hu.below hb0)
  replace hv := Lib.hid (hv.below hb0)
  by_cases h1 : 4096 < xs.length
  · rw [checkM, if_pos h1]
    go_enter Tryd.func37, Tryd.ntmps37
    go_wp2_with fail
    refine (perm_wrong r _ _ _ hg.out (by decide) (by decide)).mono ?_
    rintro e w2 ⟨x, rfl, hb', he⟩
    go_wp2
    go_ret
    exact ⟨_, rfl, Below.step hb0 hb', he⟩
  by_cases h2 : ys.length ≠ 2 * R
  · rw [checkM, if_neg h1, if_pos h2]
    have hne : ((ys.length : Int) != 2 * (R : Int)) = true := by rw [bne_iff_ne]; omega
    clear h2
    go_enter Tryd.func37, Tryd.ntmps37
    go_wp2_with fail
    refine (perm_wrong r _ _ _ hg.out (by decide) (by decide)).mono ?_
    rintro e w2 ⟨x, rfl, hb', he⟩
    go_wp2
    go_ret
    exact ⟨_, rfl, Below.step hb0 hb', he⟩
  have hne : ((ys.length : Int) != 2 * (R : Int)) = false := by rw [bne_eq_false_iff_eq]; omega
  rw [checkM, if_neg h1, if_neg h2]
  have hy : ys.length ≤ 6 := by omega
  clear h2
  rcases idxOf_cases (odd1 K) (xs ++ ys) with ⟨hi, _⟩ | ⟨i, hi, hi', _⟩
  · rw [if_pos hi]
    replace hi := Lib.hid hi
    go_enter Tryd.func37, Tryd.ntmps37
    go_wp2_with fail
    refine (concat2 _ _ xs ys _ hu.out hv.out (by omega) (by omega) _ (by simp)).mono ?_
    rintro e w1 ⟨x, rfl, hb1, ho⟩
    have hb2 := Below.step hb0 (Below.step (belowAlloc _ _) hb1)
    have z0 : w1.cell? ⟨w.heap.size, 0, none⟩ = some (.int .i64 K) := by rw [hb1.cell (by simp; omega)]; simp
    replace ho := Lib.hid ho
    go_wp2_with fail
    refine (indexFunc_any x _ 72 (xs ++ ys) (odd1 K) _ ho.out.at eg_perm_check1 (fun x _ => perm_check1 x K _ _ z0)).mono ?_
    rintro e w' ⟨rfl, rfl⟩
    rw [hi.out]
    go_wp2
    go_ret
    exact ⟨_, rfl, hb2, rfl⟩
  · rw [if_neg (by omega), hi]
    replace hi := Lib.hid hi
    go_enter Tryd.func37, Tryd.ntmps37
    go_wp2_with fail
    refine (concat2 _ _ xs ys _ hu.out hv.out (by omega) (by omega) _ (by simp)).mono ?_
    rintro e w1 ⟨x, rfl, hb1, ho⟩
    have hb2 := Below.step hb0 (Below.step (belowAlloc _ _) hb1)
    have hb3 := Below.step (belowAlloc _ _) hb1
    have z0 : w1.cell? ⟨w.heap.size, 0, none⟩ = some (.int .i64 K) := by rw [hb1.cell (by simp; omega)]; simp
    replace ho := Lib.hid ho
    go_wp2_with fail
    refine (indexFunc_any x _ 72 (xs ++ ys) (odd1 K) _ ho.out.at eg_perm_check1 (fun x _ => perm_check1 x K _ _ z0)).mono ?_
    rintro e w' ⟨rfl, rfl⟩
    rw [hi.out]
    go_wp2_with fail
    refine (perm_wrong r _ _ _ (hg.out.below hb3) (by decide) (by decide)).mono ?_
    rintro e w2 ⟨x, rfl, hb', he⟩
    go_wp2
    go_ret
    exact ⟨_, rfl, Below.step hb2 hb', he⟩
end Go.Proofs.YtbpdmpcakenjhaaDoor

namespace Go.Proofs.YtbpdmpcakenjhaaDoor
open Go.RowKit
set_option maxRecDepth 100000

theorem right_bad1 (r : Nat → Addr) (k R : Int) (va : Option Addr) (vn vc : Nat) (xs : List Int) (u v : Value) (t : Int × List (ByteArray × Int)) (w : World) (hg : Glob r w) (h : IntsAt w (.slice va vn vc) xs) (hc : checkP k R xs = some t) :
    Calls Tryd.prog 10 #[.agg #[.int .i64 k, .int .i64 R, .slice va vn vc], u, v] w (Ret2 (fun x y w' => x = .slice none 0 0 ∧ ErrIs r w' (under sPermut 0 (some t)) y) w) := by
  have hb0 := belowAlloc w (.cells #[.int .i64 k, .int .i64 R, .slice va vn vc] 24)
  replace hg := Lib.hid (hg.below hb0)
  replace h := Lib.hid (h.below hb0)
  replace hc := Lib.hid hc
  go_enter Tryd.func10, Tryd.ntmps10
  go_wp2_with fail
  refine (sides_bad r k R va vn vc xs t _ hg.out h.out hc.out).mono ?_
  rintro e w1 ⟨x, y, z, rfl, hb, rfl, rfl, he⟩
  have he' := Lib.hid he
  obtain ⟨T, p, rfl⟩ := he.some_shape
  clear he
  go_wp2
  go_ret2
  exact ⟨_, _, rfl, Below.step hb0 hb, rfl, he'.out⟩

theorem right_bad2 (r : Nat → Addr) (K R : Nat) (va : Option Addr) (vn vc : Nat) (xs : List Int) (u v : Value) (w : World) (hg : Glob r w) (h : IntsAt w (.slice va vn vc) xs) (hr : RuleOk K R xs) (hu : unlikeP K xs 1 = false) :
    Calls Tryd.prog 10 #[.agg #[.int .i64 K, .int .i64 R, .slice va vn vc], u, v] w (Ret2 (fun x y w' => x = .slice none 0 0 ∧ ErrIs r w' (fresh sPermut 0 3) y) w) := by
  have hb0 := belowAlloc w (.cells #[.int .i64 K, .int .i64 R, .slice va vn vc] 24)
  replace hg := Lib.hid (hg.below hb0)
  replace h := Lib.hid (h.below hb0)
  replace hr := Lib.hid hr
  replace hu := Lib.hid hu
  go_enter Tryd.func10, Tryd.ntmps10
  go_wp2_with fail
  refine (sides_ok K R va vn vc xs _ h.out hr.out).mono ?_
  rintro e w1 ⟨x, y, z, rfl, hb, rfl, rfl, rfl⟩
  rw [hu.out]
  generalize unlikeP K xs (xs.length / K) = q
  go_wp2_with fail
  refine (perm_wrong r _ _ _ (hg.out.below hb) (by decide) (by decide)).mono ?_
  rintro e w2 ⟨x, rfl, hb', he⟩
  go_wp2
  go_ret2
  exact ⟨_, _, rfl, Below.step hb0 (Below.step hb hb'), rfl, he⟩

theorem right_bad3 (r : Nat → Addr) (K R : Nat) (va : Option Addr) (vn vc : Nat) (xs : List Int) (u v : Value) (ys zs : List Int) (t : Int × List (ByteArray × Int)) (w : World) (hg : Glob r w) (h : IntsAt w (.slice va vn vc) xs) (hr : RuleOk K R xs) (hp : unlikeP K xs 1 = true)
    (hu : IntsAt w u ys) (hv : IntsAt w v zs) (hc : checkM K R ys zs = some t) :
    Calls Tryd.prog 10 #[.agg #[.int .i64 K, .int .i64 R, .slice va vn vc], u, v] w (Ret2 (fun x y w' => x = .slice none 0 0 ∧ ErrIs r w' (some t) y) w) := by
  have hb0 := belowAlloc w (.cells #[.int .i64 K, .int .i64 R, .slice va vn vc] 24)
  have hR := hr.r3
  replace hg := Lib.hid (hg.below hb0)
  replace h := Lib.hid (h.below hb0)
  replace hr := Lib.hid hr
  replace hp := Lib.hid hp
  replace hc := Lib.hid hc
  replace hu := Lib.hid (hu.below hb0)
  replace hv := Lib.hid (hv.below hb0)
  go_enter Tryd.func10, Tryd.ntmps10
  go_wp2_with fail
  refine (sides_ok K R va vn vc xs _ h.out hr.out).mono ?_
  rintro e w1 ⟨x, y, z, rfl, hb, rfl, rfl, rfl⟩
  rw [hp.out]
  obtain ⟨z0, z1, z2, f0, f1, f2⟩ := cells3 hb
  generalize unlikeP K xs (xs.length / K) = q
  go_wp2_with fail
  refine (perm_check r K R va vn vc u v ys zs _ (hg.out.below hb) (hu.out.below hb) (hv.out.below hb) hR).mono ?_
  rintro e w2 ⟨x, rfl, hb', he⟩
  rw [hc.out] at he
  have he' := Lib.hid he
  obtain ⟨T, p, rfl⟩ := he.some_shape
  clear he
  go_wp2
  go_ret2
  exact ⟨_, _, rfl, Below.step hb0 (Below.step hb hb'), rfl, he'.out⟩

theorem wpl_append1b {w : World} {ops : Array Oper} {rest : List Oper} {o : Oper} {a : Act} {Q : Exit → Act → World → Prop} (hgd : o.guard = none) (s x : Operand)
    (ho : o.op = .call { callee := .builtin .append, args := #[s, x], argTypes := #[22, 22] })
    (B : Nat) (v : Value) (xs : List Int) (y : Int) (hown : OwnI B w v xs) (hs : a.eval s = v) (b : Nat) (hx : a.eval x = .slice (some ⟨b, 0, none⟩) 1 1) (hb : b = w.heap.size)
    (hlen : xs.length < 17592186044415) (hB : B ≤ w.heap.size)
    (h : ∀ v' w', OwnI B w' v' (xs ++ [y]) → Below B w w' → w.grownBy w' v.ownBlock → (v'.ownBlock = v.ownBlock ∨ ∃ k, v'.ownBlock = some k ∧ w.heap.size ≤ k) → wpList Tryd.prog ops Q rest (a.put o.dst v') w') :
    wpList Tryd.prog ops Q (o :: rest) a (w.alloc (.cells #[.int .i64 y] 3)) := by
  subst hb
  exact wpl_append1 hgd s x ho B v xs y hown hs hx hlen hB h

set_option maxHeartbeats 2000000 in
theorem right_ok (r : Nat → Addr) (K R : Nat) (va : Option Addr) (vn vc : Nat) (xs : List Int) (u v : Value) (ys zs : List Int) (w : World) (hg : Glob r w) (h : IntsAt w (.slice va vn vc) xs) (hr : RuleOk K R xs) (hp : unlikeP K xs 1 = true)
    (hu : IntsAt w u ys) (hv : IntsAt w v zs) (hc : checkM K R ys zs = none) :
    Calls Tryd.prog 10 #[.agg #[.int .i64 K, .int .i64 R, .slice va vn vc], u, v] w (Ret2 (fun x y w' => OwnI w.heap.size w' x (zs ++ rightP K xs (numW K zs) ys) ∧ y = .nilIface) w) := by
  have hb0 := belowAlloc w (.cells #[.int .i64 K, .int .i64 R, .slice va vn vc] 24)
  have hR := hr.r3
  have hk1 := hr.k1
  have hk4 := hr.k4
  have hlen := hr.len_le
  have hhf := hr.half
  obtain ⟨hy4, hzl, hys, hzs⟩ := checkM_none hc
  have l1 := hu.len
  have l2 := hv.len
  replace hg := Lib.hid (hg.below hb0)
  replace h := Lib.hid (h.below hb0)
  replace hr := Lib.hid hr
  replace hhf := Lib.hid hhf
  replace hp := Lib.hid hp
  replace hc := Lib.hid hc
  have hz6 : zs.length ≤ 6 := by omega
  replace hzl := Lib.hid hzl
  replace hys := Lib.hid hys
  replace hzs := Lib.hid hzs
  obtain ⟨a1, n1, c1, rfl⟩ := hu.shape
  obtain ⟨a2, n2, c2, rfl⟩ := hv.shape
  replace hu := Lib.hid (hu.below hb0)
  replace hv := Lib.hid (hv.below hb0)
  go_enter Tryd.func10, Tryd.ntmps10
  go_wp2_with fail
  refine (sides_ok K R va vn vc xs _ h.out hr.out).mono ?_
  rintro e w1 ⟨x, y, z, rfl, hb, rfl, rfl, rfl⟩
  rw [hp.out]
  obtain ⟨z0, z1, z2, f0, f1, f2⟩ := cells3 hb
  generalize unlikeP K xs (xs.length / K) = q
  go_wp2_with fail
  refine (perm_check r K R va vn vc _ _ ys zs _ (hg.out.below hb) (hu.out.below hb) (hv.out.below hb) hR).mono ?_
  rintro e w2 ⟨x, rfl, hb', he⟩
  rw [hc.out] at he
  obtain rfl := he.none_eq
  clear he z0 z1 z2 f0 f1 f2
  replace hb := Below.step hb hb'
  clear hb'
  obtain ⟨z0, z1, z2, f0, f1, f2⟩ := cells3 hb
  go_wp2_with fail
  refine (clone_any _ zs _ (hv.out.below hb) (by omega)).mono ?_
  rintro e w3 ⟨x, rfl, hb', ho⟩
  have hsz : w.heap.size < w2.heap.size := World.block_lt_of_cell? _ _ z0
  have hvi := Lib.hid ((hv.out.below hb).below hb')
  have hui := Lib.hid (hu.out.below hb)
  have zz := Lib.hid (And.intro z0 (And.intro z1 z2))
  clear z0 z1 z2 f0 f1 f2
  obtain ⟨z0, z1, z2⟩ := keep3 hb' zz.out
  replace ho := Lib.hid ho
  go_wp2
  go_loop [13, 42] (fun n i => ∃ j : Nat, j ≤ zs.length ∧ i = .int .i64 j ∧ n = .int .i64 (numW K (zs.take j))) (fun _ i => zs.length - (intOf i).toNat)
  case atStart => exact ⟨0, by omega, rfl, rfl⟩
  case round =>
    obtain ⟨j, hj, rfl, rfl⟩ := hrel
    by_cases hjl : j < zs.length
    · have i1 := hvi.out.idx j hjl
      have c1 := hvi.out.cell j hjl
      have hx := hzs.out zs[j] (by simp)
      have hn : Hid (numW K (zs.take (j + 1)) = numW K (zs.take j) * K + zs[j].toNat) := by
        show _ = _
        rw [take_snoc zs j hjl, numW_snoc]
      have hn2 : numW K (zs.take j) ≤ 16384 := by
        have h1 := numW_lt (zs.take j) (fun x hx => hzs.out x (List.mem_of_mem_take hx))
        have h2 := pw_le hk1 hk4 (i := (zs.take j).length) (by simp; omega)
        omega
      generalize zs[j] = x at c1 hx hn
      generalize numW K (zs.take j) = N at hn hn2
      have hm1 : 0 ≤ (N : Int) * (K : Int) := Int.mul_nonneg (by omega) (by omega)
      have hm2 : (N : Int) * (K : Int) ≤ 65536 := by
        have : N * K ≤ 65536 := Nat.mul_le_mul hn2 hk4
        have h2 := Int.ofNat_le.2 this
        rw [Int.natCast_mul] at h2
        exact h2
      go_wp2
      go_round
      case rel => exact ⟨j + 1, by omega, by go_num, by rw [hn.out]; go_num⟩
      case measure => simp [intOf]; omega
    · obtain rfl : j = zs.length := by omega
      rw [List.take_length]
      have hN : numW K zs < xs.length / K := by
        rw [hhf.out.1, ← hzl.out]; exact numW_lt zs hzs.out
      have hlK : xs.length / K ≤ 16384 := Nat.le_trans (Nat.div_le_self _ _) hlen
      have hlKK : xs.length / K * K = xs.length := by rw [hhf.out.1]; exact hhf.out.2.symm
      have hlx := h.out.len
      have hK0 : ((K : Int) == 0) = false := by rw [beq_eq_false_iff_ne]; omega
      have hK1 : ¬ (K : Int) = 0 := by omega
      have hK2 : (0 : Int) < K := by omega
      have hK3 : ¬ K = 0 := by omega
      generalize hN0 : numW K zs = N at hN
      replace hN0 := Lib.hid hN0
      have hq0 : 0 ≤ (xs.length : Int) / (K : Int) := Int.ediv_nonneg (by omega) (by omega)
      have hqc : (xs.length : Int) / (K : Int) = ((xs.length / K : Nat) : Int) := by simp
      have hq1 : (xs.length : Int) / (K : Int) ≤ 16384 := by rw [hqc]; omega
      have hq2 : 0 < (xs.length : Int) / (K : Int) := by rw [hqc]; omega
      have hq3 : ((xs.length : Int) / (K : Int) == 0) = false := by rw [beq_eq_false_iff_ne]; omega
      replace hqc := Lib.hid hqc
      have hul := hui.out.len
      replace hN := Lib.hid hN
      have hlK0 := Lib.hid hlK
      replace hlKK := Lib.hid hlKK
      clear z0 z1 z2 hlK
      go_wp2
      go_loopw [12, 13, 55] (fun o n i wr => ∃ j : Nat, j ≤ ys.length ∧ i = .int .i64 j ∧ n = .int .i64 (rightN K xs N (ys.take j)) ∧ OwnI w2.heap.size wr o (zs ++ rightP K xs N (ys.take j)) ∧ Below w2.heap.size w2 wr) (fun _ _ i _ => ys.length - (intOf i).toNat)
      case atStart => exact ⟨0, by omega, rfl, rfl, by simpa [rightP] using ho.out, hb'⟩
      case round =>
        obtain ⟨j, hj, rfl, rfl, hO, hbO⟩ := hrel
        obtain ⟨wo, rfl⟩ : ∃ wo : World, wo = wr := ⟨_, rfl⟩
        by_cases hjl : j < ys.length
        · have hyi := hui.out.below hbO
          have i1 := hyi.idx j hjl
          have c1 := hyi.cell j hjl
          obtain ⟨z0, z1, z2⟩ := keep3 hbO zz.out
          have hN' : rightN K xs N (ys.take j) < xs.length / K := rightN_lt (by have := hN.out; omega) N hN.out _
          have hP : Hid (zs ++ rightP K xs N (ys.take (j + 1)) = (zs ++ rightP K xs N (ys.take j)) ++ [(fit K xs (rightN K xs N (ys.take j) * K) 1 ys[j] : Int)]) := by
            show _ = _
            rw [take_snoc ys j hjl, rightP_snoc, List.append_assoc]
          have hN2 : Hid (rightN K xs N (ys.take (j + 1)) = (rightN K xs N (ys.take j) * K + fit K xs (rightN K xs N (ys.take j) * K) 1 ys[j]) % (xs.length / K)) := by
            show _ = _
            rw [take_snoc ys j hjl, rightN_snoc]
          have hPl : (zs ++ rightP K xs N (ys.take j)).length ≤ 5000 := by simp [rightP_length]; omega
          generalize ys[j] = x at c1 hP hN2
          have hfl := fit_lt hk1 xs (rightN K xs N (ys.take j) * K) 1 x
          generalize rightN K xs N (ys.take j) = M at hN' hP hN2 hfl
          have hin : M * K + (K - 1) * 1 < xs.length := by
            have h1 : (M + 1) * K ≤ xs.length / K * K := Nat.mul_le_mul_right _ hN'
            rw [hlKK.out, Nat.succ_mul] at h1
            omega
          have hM1 : M ≤ 16384 := by have := hlK0.out; omega
          have hm1 : 0 ≤ (M : Int) * (K : Int) := Int.mul_nonneg (by omega) (by omega)
          have hm2 : (M : Int) * (K : Int) ≤ 65536 := by
            have : M * K ≤ 65536 := Nat.mul_le_mul hM1 hk4
            have h2 := Int.ofNat_le.2 this
            rw [Int.natCast_mul] at h2
            exact h2
          have hf := perm_fits K R va vn vc xs (M * K) 1 x wo ((h.out.below hb).below hbO) hr.out hin
          rw [Int.natCast_mul] at hf
          generalize fit K xs (M * K) 1 x = s at hP hN2 hfl hf
          have hmod : Hid (((M : Int) * (K : Int) + (s : Int)) % ((xs.length : Int) / (K : Int)) = (((M * K + s) % (xs.length / K) : Nat) : Int)) := by show _ = _; simp
          replace hN' := Lib.hid hN'
          replace hO := Lib.hid hO
          replace hf := Lib.hid hf
          replace hin := Lib.hid hin
          generalize zs ++ rightP K xs N (ys.take j) = O at hO hPl hP
          go_wp2_with fail
          refine hf.out.mono ?_
          rintro e w' ⟨rfl, rfl⟩
          go_wp2_with (at_builtin; refine wpl_append1b rfl _ _ rfl w2.heap.size _ O (s : Int) (hO.out.alloc _) rfl _ rfl (by simp) (by omega) (by have := hbO.size; simp; omega) ?_)
          intro nv w4 hO4 hb4 _ _
          have hbT : Below w2.heap.size w2 w4 := (hbO.alloc hbO.size _).trans hb4
          clear z0 z1 z2
          obtain ⟨z0, z1, z2⟩ := keep3 hbT zz.out
          replace hO4 := Lib.hid hO4
          go_wp2
          go_quiet (fail)
          go_wp2
          go_roundw
          case rel =>
            refine ⟨j + 1, by omega, by go_num, ?_, by rw [hP.out]; exact hO4.out, below_drewN hbT _⟩
            rw [hN2.out, ← hmod.out]
          case measure => simp [intOf]; omega
        · obtain rfl : j = ys.length := by omega
          go_wp2
          go_ret2
          rw [List.take_length] at hO
          exact ⟨_, _, rfl, Below.step hb0 (Below.step hb hbO), (by rw [hN0.out]; exact hO.mono (by omega)), rfl⟩

/-- permut.Right at all operands. -/
theorem right_any (r : Nat → Addr) (k R : Int) (va : Option Addr) (vn vc : Nat) (xs : List Int) (u v : Value) (ys zs : List Int) (w : World) (hg : Glob r w) (h : IntsAt w (.slice va vn vc) xs) (hu : IntsAt w u ys) (hv : IntsAt w v zs) :
    Calls Tryd.prog 10 #[.agg #[.int .i64 k, .int .i64 R, .slice va vn vc], u, v] w (Ret2 (fun x y w' => ErrIs r w' (permF k R xs 1 ys zs) y ∧ (permF k R xs 1 ys zs = none → OwnI w.heap.size w' x (zs ++ rightP k.toNat xs (numW k.toNat zs) ys)) ∧ (permF k R xs 1 ys zs ≠ none → x = .slice none 0 0)) w) := by
  cases hc : checkP k R xs with
  | some t =>
    have e : permF k R xs 1 ys zs = under sPermut 0 (some t) := by simp [permF, hc]
    refine (right_bad1 r k R va vn vc xs u v t w hg h hc).mono ?_
    rintro e1 w' ⟨x, y, he, hb, hx, hy⟩
    exact ⟨x, y, he, hb, by rw [e]; exact hy, (fun h => by rw [e] at h; cases h), fun _ => hx⟩
  | none =>
    obtain ⟨K, R, rfl, rfl, hr⟩ := checkP_none hc
    cases hp : unlikeP K xs 1 with
    | false =>
      have e : permF K R xs 1 ys zs = fresh sPermut 0 3 := by simp [permF, hc, hp]
      refine (right_bad2 r K R va vn vc xs u v w hg h hr hp).mono ?_
      rintro e1 w' ⟨x, y, he, hb, hx, hy⟩
      exact ⟨x, y, he, hb, by rw [e]; exact hy, (fun h => by rw [e] at h; cases h), fun _ => hx⟩
    | true =>
      have e : permF K R xs 1 ys zs = checkM K R ys zs := by simp [permF, hc, hp]
      cases hm : checkM K R ys zs with
      | some t =>
        rw [hm] at e
        refine (right_bad3 r K R va vn vc xs u v ys zs t w hg h hr hp hu hv hm).mono ?_
        rintro e1 w' ⟨x, y, he, hb, hx, hy⟩
        exact ⟨x, y, he, hb, by rw [e]; exact hy, (fun h => by rw [e] at h; cases h), fun _ => hx⟩
      | none =>
        rw [hm] at e
        refine (right_ok r K R va vn vc xs u v ys zs w hg h hr hp hu hv hm).mono ?_
        rintro e1 w' ⟨x, y, he, hb, hx, hy⟩
        exact ⟨x, y, he, hb, by rw [e]; exact hy, fun _ => by rw [Int.toNat_natCast]; exact hx, fun h => absurd e h⟩
end Go.Proofs.YtbpdmpcakenjhaaDoor

namespace Go.Proofs.YtbpdmpcakenjhaaDoor
open Go.RowKit
set_option maxRecDepth 100000

theorem leftS_lt {K : Nat} {T : List Int} (hK : 1 ≤ K) (node : Nat) (hn : node < T.length / K) (w : List Int) : (leftS K T node w).1 < T.length / K := by
  induction w with
  | nil => exact hn
  | cons y w ih =>
    have hf := fit_lt hK T (leftS K T node w).1 (T.length / K) y
    show (fit K T (leftS K T node w).1 (T.length / K) y * (T.length / K) + (leftS K T node w).1) / K < T.length / K
    rw [Nat.div_lt_iff_lt_mul hK]
    have h1 : (fit K T (leftS K T node w).1 (T.length / K) y + 1) * (T.length / K) ≤ K * (T.length / K) := Nat.mul_le_mul_right _ hf
    rw [Nat.succ_mul] at h1
    rw [Nat.mul_comm (T.length / K) K]
    omega

theorem run_makeI (C : Int) (n : Nat) (w : World) (hC : C = n) (hn : n ≤ 17592186044416) :
    ∃ v w', (Instr.makeSlice 22 (.int .i64 C) (.int .i64 C)).run Tryd.prog w = .ok v w' ∧ OwnI w.heap.size w' v (List.replicate n 0) ∧ Below w.heap.size w w' := by
  subst hC
  obtain ⟨i, hi, hz0, hz1, hz2⟩ := info_parts iInt
  obtain ⟨w', hrun, r1, r2⟩ := run_make_full (P := Tryd.prog) w w.heap.size 22 3 i (.int .i64 0) 1 uInts hi hz0 hz1 .i64 .i64 n (by rw [hz2]; omega) (by unfold maxLen; omega) (Nat.le_refl _)
  refine ⟨_, w', hrun, ?_, (Below.refl _ _).grown r2 (Nat.le_refl _) (by intro k hk; cases hk)⟩
  have e : (madeCells (Value.cells (.int .i64 0)) (n * 1)).toList = (List.replicate n (0 : Int)).map (Value.int .i64) := by
    rw [show Value.cells (.int .i64 0) = #[.int .i64 0] from rfl, toList_madeCells_one]; simp
  rw [e] at r1
  simpa [OwnI] using r1

/-- What is left of an owned slice from a place on. -/
theorem OwnI.post {B : Nat} {w : World} {v : Value} {xs : List Int} (h : OwnI B w v xs) (off : Nat) (ho : off ≤ xs.length) :
    ∃ dp dLen dCap, (∀ w', (Instr.slice 22 v (some (.int .i64 off)) none none).run Tryd.prog w' = .ok (.slice dp dLen dCap) w') ∧ dLen = xs.length - off ∧ (0 < xs.length - off → dp = some (valAt v off)) := by
  rcases h.2 with ⟨rfl, hn⟩ | ⟨g, cap, cur, rfl, hB, hg, hn, hm, hs, ht⟩
  · have hr : ∀ w', (Instr.slice 22 (.slice none 0 0) (some (.int .i64 off)) none none).run Tryd.prog w' = .ok (sliced none off 0 0 1) w' := by
      intro w'
      rw [run_slice_l w' 22 none 0 0 uIntsE .i64 off (by omega) (by omega), eInts, sInt]
      rfl
    exact ⟨_, _, _, hr, by omega, by intro hh; omega⟩
  · have hr : ∀ w', (Instr.slice 22 (.slice (some ⟨g, 0, none⟩) xs.length cap) (some (.int .i64 off)) none none).run Tryd.prog w' = .ok (sliced (some ⟨g, 0, none⟩) off xs.length cap 1) w' := by
      intro w'
      rw [run_slice_l w' 22 (some ⟨g, 0, none⟩) xs.length cap uIntsE .i64 off (by omega) (by omega), eInts, sInt]
      rfl
    refine ⟨_, _, _, hr, rfl, fun hh => ?_⟩
    rw [if_neg (by omega), valAt_row]
    simp [Addr.add]
    intro e; exact e.symm

theorem left_bad1 (r : Nat → Addr) (k R : Int) (va : Option Addr) (vn vc : Nat) (xs : List Int) (u v : Value) (t : Int × List (ByteArray × Int)) (w : World) (hg : Glob r w) (h : IntsAt w (.slice va vn vc) xs) (hc : checkP k R xs = some t) :
    Calls Tryd.prog 11 #[.agg #[.int .i64 k, .int .i64 R, .slice va vn vc], u, v] w (Ret2 (fun x y w' => x = .slice none 0 0 ∧ ErrIs r w' (under sPermut 0 (some t)) y) w) := by
  have hb0 := belowAlloc w (.cells #[.int .i64 k, .int .i64 R, .slice va vn vc] 24)
  replace hg := Lib.hid (hg.below hb0)
  replace h := Lib.hid (h.below hb0)
  replace hc := Lib.hid hc
  go_enter Tryd.func11, Tryd.ntmps11
  go_wp2_with fail
  refine (sides_bad r k R va vn vc xs t _ hg.out h.out hc.out).mono ?_
  rintro e w1 ⟨x, y, z, rfl, hb, rfl, rfl, he⟩
  have he' := Lib.hid he
  obtain ⟨T, p, rfl⟩ := he.some_shape
  clear he
  go_wp2
  go_ret2
  exact ⟨_, _, rfl, Below.step hb0 hb, rfl, he'.out⟩

theorem left_bad2 (r : Nat → Addr) (K R : Nat) (va : Option Addr) (vn vc : Nat) (xs : List Int) (u v : Value) (w : World) (hg : Glob r w) (h : IntsAt w (.slice va vn vc) xs) (hr : RuleOk K R xs) (hu : unlikeP K xs (xs.length / K) = false) :
    Calls Tryd.prog 11 #[.agg #[.int .i64 K, .int .i64 R, .slice va vn vc], u, v] w (Ret2 (fun x y w' => x = .slice none 0 0 ∧ ErrIs r w' (fresh sPermut 0 3) y) w) := by
  have hb0 := belowAlloc w (.cells #[.int .i64 K, .int .i64 R, .slice va vn vc] 24)
  replace hg := Lib.hid (hg.below hb0)
  replace h := Lib.hid (h.below hb0)
  replace hr := Lib.hid hr
  replace hu := Lib.hid hu
  go_enter Tryd.func11, Tryd.ntmps11
  go_wp2_with fail
  refine (sides_ok K R va vn vc xs _ h.out hr.out).mono ?_
  rintro e w1 ⟨x, y, z, rfl, hb, rfl, rfl, rfl⟩
  rw [hu.out]
  generalize unlikeP K xs 1 = q
  go_wp2_with fail
  refine (perm_wrong r _ _ _ (hg.out.below hb) (by decide) (by decide)).mono ?_
  rintro e w2 ⟨x, rfl, hb', he⟩
  go_wp2
  go_ret2
  exact ⟨_, _, rfl, Below.step hb0 (Below.step hb hb'), rfl, he⟩

theorem left_bad3 (r : Nat → Addr) (K R : Nat) (va : Option Addr) (vn vc : Nat) (xs : List Int) (u v : Value) (ys zs : List Int) (t : Int × List (ByteArray × Int)) (w : World) (hg : Glob r w) (h : IntsAt w (.slice va vn vc) xs) (hr : RuleOk K R xs) (hp : unlikeP K xs (xs.length / K) = true)
    (hu : IntsAt w u ys) (hv : IntsAt w v zs) (hc : checkM K R ys zs = some t) :
    Calls Tryd.prog 11 #[.agg #[.int .i64 K, .int .i64 R, .slice va vn vc], u, v] w (Ret2 (fun x y w' => x = .slice none 0 0 ∧ ErrIs r w' (some t) y) w) := by
  have hb0 := belowAlloc w (.cells #[.int .i64 K, .int .i64 R, .slice va vn vc] 24)
  have hR := hr.r3
  replace hg := Lib.hid (hg.below hb0)
  replace h := Lib.hid (h.below hb0)
  replace hr := Lib.hid hr
  replace hp := Lib.hid hp
  replace hc := Lib.hid hc
  replace hu := Lib.hid (hu.below hb0)
  replace hv := Lib.hid (hv.below hb0)
  go_enter Tryd.func11, Tryd.ntmps11
  go_wp2_with fail
  refine (sides_ok K R va vn vc xs _ h.out hr.out).mono ?_
  rintro e w1 ⟨x, y, z, rfl, hb, rfl, rfl, rfl⟩
  rw [hp.out]
  obtain ⟨z0, z1, z2, f0, f1, f2⟩ := cells3 hb
  generalize unlikeP K xs 1 = q
  go_wp2_with fail
  refine (perm_check r K R va vn vc u v ys zs _ (hg.out.below hb) (hu.out.below hb) (hv.out.below hb) hR).mono ?_
  rintro e w2 ⟨x, rfl, hb', he⟩
  rw [hc.out] at he
  have he' := Lib.hid he
  obtain ⟨T, p, rfl⟩ := he.some_shape
  clear he
  go_wp2
  go_ret2
  exact ⟨_, _, rfl, Below.step hb0 (Below.step hb hb'), rfl, he'.out⟩

set_option maxHeartbeats 2000000 in
theorem left_ok (r : Nat → Addr) (K R : Nat) (va : Option Addr) (vn vc : Nat) (xs : List Int) (u v : Value) (ys zs : List Int) (w : World) (hg : Glob r w) (h : IntsAt w (.slice va vn vc) xs) (hr : RuleOk K R xs) (hp : unlikeP K xs (xs.length / K) = true)
    (hu : IntsAt w u ys) (hv : IntsAt w v zs) (hc : checkM K R ys zs = none) :
    Calls Tryd.prog 11 #[.agg #[.int .i64 K, .int .i64 R, .slice va vn vc], u, v] w (Ret2 (fun x y w' => OwnI w.heap.size w' x ((leftS K xs (numW K zs) ys).2 ++ zs) ∧ y = .nilIface) w) := by
  have hb0 := belowAlloc w (.cells #[.int .i64 K, .int .i64 R, .slice va vn vc] 24)
  have hR := hr.r3
  have hk1 := hr.k1
  have hk4 := hr.k4
  have hlen := hr.len_le
  have hhf := hr.half
  obtain ⟨hy4, hzl, hys, hzs⟩ := checkM_none hc
  have l1 := hu.len
  have l2 := hv.len
  replace hg := Lib.hid (hg.below hb0)
  replace h := Lib.hid (h.below hb0)
  replace hr := Lib.hid hr
  replace hhf := Lib.hid hhf
  replace hp := Lib.hid hp
  replace hc := Lib.hid hc
  have hz6 : zs.length ≤ 6 := by omega
  replace hzl := Lib.hid hzl
  replace hys := Lib.hid hys
  replace hzs := Lib.hid hzs
  obtain ⟨ua, un, uc, rfl⟩ := hu.shape
  obtain ⟨a2, n2, c2, rfl⟩ := hv.shape
  replace hu := Lib.hid (hu.below hb0)
  replace hv := Lib.hid (hv.below hb0)
  go_enter Tryd.func11, Tryd.ntmps11
  go_wp2_with fail
  refine (sides_ok K R va vn vc xs _ h.out hr.out).mono ?_
  rintro e w1 ⟨x, y, z, rfl, hb, rfl, rfl, rfl⟩
  rw [hp.out]
  obtain ⟨z0, z1, z2, f0, f1, f2⟩ := cells3 hb
  generalize unlikeP K xs 1 = q
  go_wp2_with fail
  refine (perm_check r K R va vn vc _ _ ys zs _ (hg.out.below hb) (hu.out.below hb) (hv.out.below hb) hR).mono ?_
  rintro e w2 ⟨x, rfl, hb', he⟩
  rw [hc.out] at he
  obtain rfl := he.none_eq
  clear he z0 z1 z2 f0 f1 f2
  replace hb := Below.step hb hb'
  clear hb'
  obtain ⟨z0, z1, z2, f0, f1, f2⟩ := cells3 hb
  go_wp2_with fail
  have hsz : w.heap.size < w2.heap.size := World.block_lt_of_cell? _ _ z0
  have hv2 := Lib.hid (hv.out.below hb)
  have hui := Lib.hid (hu.out.below hb)
  have hxi := Lib.hid (h.out.below hb)
  have zz := Lib.hid (And.intro z0 (And.intro z1 z2))
  clear z0 z1 z2 f0 f1 f2
  obtain ⟨ov, w3, hmk, hout, hb3⟩ := run_makeI ((ys.length : Int) + (zs.length : Int)) (ys.length + zs.length) w2 (by omega) (by omega)
  have hK0 : ((K : Int) == 0) = false := by rw [beq_eq_false_iff_ne]; omega
  have hK1 : ¬ (K : Int) = 0 := by omega
  have hK2 : (0 : Int) < K := by omega
  have hK3 : ¬ K = 0 := by omega
  have hq0 : 0 ≤ (xs.length : Int) / (K : Int) := Int.ediv_nonneg (by omega) (by omega)
  have hqc : (xs.length : Int) / (K : Int) = ((xs.length / K : Nat) : Int) := by simp
  have hqw : IntKind.i64.wrap ((xs.length : Int) / (K : Int)) = (xs.length : Int) / (K : Int) := by
    have : xs.length / K ≤ 16384 := Nat.le_trans (Nat.div_le_self _ _) hlen
    exact wrapK (by omega) (by rw [hqc]; omega)
  replace hqc := Lib.hid hqc
  have hlx := h.out.len
  have hol : (List.replicate (ys.length + zs.length) (0 : Int)).length = ys.length + zs.length := by simp
  obtain ⟨dp, dLen, dCap, hsl, hd1, hd2⟩ := hout.post ys.length (by omega)
  obtain ⟨w4, hcp, ho4, hb4, _⟩ := run_copyI ys.length 3 dp dLen dCap hout (hv2.out.below hb3) rfl (by omega) (by omega) (fun hh => hd2 (by omega))
  have e1 : (List.replicate (ys.length + zs.length) (0 : Int)).take ys.length ++ zs ++ (List.replicate (ys.length + zs.length) (0 : Int)).drop (ys.length + zs.length) = List.replicate ys.length 0 ++ zs := by
    rw [List.take_replicate, List.drop_replicate]; simp
  rw [e1] at ho4
  clear e1 hol hd1 hd2 hout
  have hbA : Below w2.heap.size w2 w4 := hb3.trans hb4
  replace ho4 := Lib.hid ho4
  clear hb3 hb4
  obtain ⟨z0, z1, z2⟩ := keep3 hbA zz.out
  have hvi := Lib.hid (hv2.out.below hbA)
  go_wp2_with fail
  rw [hmk]
  simp only [Result.andThen]
  go_wp2
  go_loop [14, 58] (fun n i => ∃ j : Nat, j ≤ zs.length ∧ i = .int .i64 j ∧ n = .int .i64 (numW K (zs.take j))) (fun _ i => zs.length - (intOf i).toNat)
  case atStart => exact ⟨0, by omega, rfl, rfl⟩
  case round =>
    obtain ⟨j, hj, rfl, rfl⟩ := hrel
    by_cases hjl : j < zs.length
    · have i1 := hvi.out.idx j hjl
      have c1 := hvi.out.cell j hjl
      have hx := hzs.out zs[j] (by simp)
      have hn : Hid (numW K (zs.take (j + 1)) = numW K (zs.take j) * K + zs[j].toNat) := by
        show _ = _
        rw [take_snoc zs j hjl, numW_snoc]
      have hn2 : numW K (zs.take j) ≤ 16384 := by
        have h1 := numW_lt (zs.take j) (fun x hx => hzs.out x (List.mem_of_mem_take hx))
        have h2 := pw_le hk1 hk4 (i := (zs.take j).length) (by simp; omega)
        omega
      generalize zs[j] = x at c1 hx hn
      generalize numW K (zs.take j) = N at hn hn2
      have hm1 : 0 ≤ (N : Int) * (K : Int) := Int.mul_nonneg (by omega) (by omega)
      have hm2 : (N : Int) * (K : Int) ≤ 65536 := by
        have : N * K ≤ 65536 := Nat.mul_le_mul hn2 hk4
        have h2 := Int.ofNat_le.2 this
        rw [Int.natCast_mul] at h2
        exact h2
      go_wp2
      go_round
      case rel => exact ⟨j + 1, by omega, by go_num, by rw [hn.out]; go_num⟩
      case measure => simp [intOf]; omega
    · obtain rfl : j = zs.length := by omega
      rw [List.take_length]
      have hN : numW K zs < xs.length / K := by
        rw [hhf.out.1, ← hzl.out]; exact numW_lt zs hzs.out
      have hlK : xs.length / K ≤ 16384 := Nat.le_trans (Nat.div_le_self _ _) hlen
      have hlKK : xs.length / K * K = xs.length := by rw [hhf.out.1]; exact hhf.out.2.symm
      have hlx := h.out.len
      generalize hN0 : numW K zs = N at hN
      replace hN0 := Lib.hid hN0
      have hq1 : (xs.length : Int) / (K : Int) ≤ 16384 := by rw [hqc.out]; omega
      have hq2 : 0 < (xs.length : Int) / (K : Int) := by rw [hqc.out]; omega
      replace hN := Lib.hid hN
      have hlK0 := Lib.hid hlK
      replace hlKK := Lib.hid hlKK
      clear z0 z1 z2 hlK hcp hsl hmk
      have hul := hui.out.len
      go_wp2
      go_loopw [14, 17] (fun n i wr => ∃ j : Nat, j ≤ ys.length ∧ i = .int .i64 ((j : Int) - 1) ∧ n = .int .i64 (leftS K xs N (ys.drop j)).1 ∧ OwnI w2.heap.size wr ov (List.replicate j 0 ++ (leftS K xs N (ys.drop j)).2 ++ zs) ∧ Below w2.heap.size w2 wr) (fun _ i _ => (intOf i + 1).toNat)
      case atStart => exact ⟨ys.length, by omega, rfl, by rw [List.drop_length]; rfl, by rw [List.drop_length]; simpa [leftS] using ho4.out, hbA⟩
      case round =>
        obtain ⟨j, hj, rfl, rfl, hO, hbO⟩ := hrel
        obtain ⟨wo, rfl⟩ : ∃ wo : World, wo = wr := ⟨_, rfl⟩
        cases j with
        | zero =>
          rw [show ((0 : Nat) : Int) - 1 = -1 from rfl]
          rw [List.drop_zero, List.replicate_zero, List.nil_append] at hO
          go_wp2
          go_ret2
          exact ⟨_, _, rfl, Below.step hb0 (Below.step hb hbO), (by rw [hN0.out]; exact hO.mono (by omega)), rfl⟩
        | succ j =>
          rw [show ((j + 1 : Nat) : Int) - 1 = (j : Int) by omega]
          have hjl : j < ys.length := by omega
          have hyi := hui.out.below hbO
          have i1 := hyi.idx j hjl
          have c1 := hyi.cell j hjl
          have b1 := hyi.blk j hjl
          obtain ⟨z0, z1, z2⟩ := keep3 hbO zz.out
          have hM := leftS_lt (T := xs) hk1 N hN.out (ys.drop (j + 1))
          have hD : Hid (leftS K xs N (ys.drop j) = ((fit K xs (leftS K xs N (ys.drop (j + 1))).1 (xs.length / K) ys[j] * (xs.length / K) + (leftS K xs N (ys.drop (j + 1))).1) / K, (fit K xs (leftS K xs N (ys.drop (j + 1))).1 (xs.length / K) ys[j] : Int) :: (leftS K xs N (ys.drop (j + 1))).2)) := by
            show _ = _
            rw [List.drop_eq_getElem_cons hjl]; rfl
          generalize ys[j] = x at c1 hD
          have hfl := fit_lt hk1 xs (leftS K xs N (ys.drop (j + 1))).1 (xs.length / K) x
          have hPl : (leftS K xs N (ys.drop (j + 1))).2.length ≤ 4096 := by rw [leftS_length]; simp; omega
          generalize leftS K xs N (ys.drop (j + 1)) = p at hO hM hD hfl hPl
          obtain ⟨M, P⟩ := p
          simp only [] at hO hM hD hfl hPl
          have hOl : j < (List.replicate (j + 1) (0 : Int) ++ P ++ zs).length := by simp; omega
          have hset : (List.replicate (j + 1) (0 : Int) ++ P ++ zs).set j (fit K xs M (xs.length / K) x : Int) = List.replicate j 0 ++ ((fit K xs M (xs.length / K) x : Int) :: P) ++ zs := by
            rw [List.replicate_succ', List.append_assoc, List.append_assoc, List.append_assoc, List.set_append_right _ _ (by simp)]
            simp
          have hin : M + (K - 1) * (xs.length / K) < xs.length := by
            have h1 : (K - 1 + 1) * (xs.length / K) = xs.length := by rw [Nat.sub_add_cancel hk1, Nat.mul_comm]; exact hlKK.out
            rw [Nat.succ_mul] at h1
            omega
          have hM1 : M ≤ 16384 := by have := hlK0.out; omega
          have hsm : fit K xs M (xs.length / K) x * (xs.length / K) ≤ 65536 := Nat.mul_le_mul (show _ ≤ 4 by omega) hlK0.out
          have hf : ∀ w_, IntsAt w_ (.slice va vn vc) xs → Calls Tryd.prog 39 #[.agg #[.int .i64 K, .int .i64 R, .slice va vn vc], .int .i64 M, .int .i64 ((xs.length : Int) / (K : Int)), .int .i64 x] w_ fun e w' => e = .returned (.int .i64 (fit K xs M (xs.length / K) x)) ∧ Below w_.heap.size w_ w' := by
            intro w_ h_
            rw [hqc.out]
            refine (perm_fits K R va vn vc xs M (xs.length / K) x w_ h_ hr.out hin).mono ?_
            rintro e w' ⟨h1, rfl⟩
            exact ⟨h1, belowAlloc _ _⟩
          generalize fit K xs M (xs.length / K) x = s at hset hD hfl hf hsm
          have hm1 : 0 ≤ (s : Int) * ((xs.length : Int) / (K : Int)) := Int.mul_nonneg (by omega) (by omega)
          have hm2 : (s : Int) * ((xs.length : Int) / (K : Int)) ≤ 65536 := by
            rw [hqc.out]
            have h2 := Int.ofNat_le.2 hsm
            rw [Int.natCast_mul] at h2
            exact h2
          have hdv0 : 0 ≤ ((s : Int) * ((xs.length : Int) / (K : Int)) + (M : Int)) / (K : Int) := Int.ediv_nonneg (by omega) (by omega)
          have hdvc : ((s : Int) * ((xs.length : Int) / (K : Int)) + (M : Int)) / (K : Int) = (((s * (xs.length / K) + M) / K : Nat) : Int) := by simp
          have hdv1 : ((s : Int) * ((xs.length : Int) / (K : Int)) + (M : Int)) / (K : Int) ≤ 131072 := by
            rw [hdvc]
            have : (s * (xs.length / K) + M) / K ≤ s * (xs.length / K) + M := Nat.div_le_self _ _
            omega
          have hdvw : IntKind.i64.wrap (((s : Int) * ((xs.length : Int) / (K : Int)) + (M : Int)) / (K : Int)) = ((s : Int) * ((xs.length : Int) / (K : Int)) + (M : Int)) / (K : Int) := wrapK (by omega) (by omega)
          replace hdvc := Lib.hid hdvc
          replace hset := Lib.hid hset
          replace hM := Lib.hid hM
          replace hO := Lib.hid hO
          replace hf := Lib.hid hf
          replace hin := Lib.hid hin
          have hxw := Lib.hid (hxi.out.below hbO)
          generalize List.replicate (j + 1) (0 : Int) ++ P ++ zs = O at hO hOl hset
          go_wp2
          go_region_held3 (fun w' => w'.cell? ⟨w.heap.size, 0, none⟩ = some (.int .i64 K) ∧ w'.cell? ⟨w.heap.size, 1, none⟩ = some (.int .i64 R) ∧ w'.cell? ⟨w.heap.size, 2, none⟩ = some (.slice va vn vc) ∧ w'.cell? (valAt (.slice ua un uc) j) = some (.int .i64 x)) (go_keep)
            (first | (go_at_call 39; refine (hf.out _ (by first | exact hxw.out.drew | exact hxw.out)).mono ?_; rintro e w5 ⟨rfl, hb'⟩; have S := keep3 hb' ⟨z0, z1, z2⟩; have y0 := S.1; have y1 := S.2.1; have y2 := S.2.2; have y3 := (hb'.cell b1).trans c1; have bb : Below wo.heap.size wo w5 := ((Below.refl _ _).drew).trans hb'))
          have hO5 := hO.out.below bb
          have hbT := hbO.trans (bb.mono hbO.size)
          have i3 := hO5.at.idx j hOl
          have c3 := hO5.at.cell j hOl
          have f3 := hO5.frz j hOl
          have hO6 := hO5.set j hOl (s : Int)
          have hb6 := hO5.setBelow hbT j hOl (.int .i64 (s : Int))
          obtain ⟨x0, x1, x2⟩ := keep3 hb6 zz.out
          rw [hset.out] at hO6
          replace hO6 := Lib.hid hO6
          generalize O[j] = o at c3
          clear hset hO5 hO y1 y2 y3 z0 z1 z2 c1 i1 x1 x2
          go_wp2
          go_roundw
          case rel =>
            refine ⟨j, by omega, by go_num, ?_, by rw [hD.out]; exact hO6.out, hb6⟩
            rw [hD.out, ← hdvc.out]
          case measure => simp [intOf]

/-- permut.Left at all operands. -/
theorem left_any (r : Nat → Addr) (k R : Int) (va : Option Addr) (vn vc : Nat) (xs : List Int) (u v : Value) (ys zs : List Int) (w : World) (hg : Glob r w) (h : IntsAt w (.slice va vn vc) xs) (hu : IntsAt w u ys) (hv : IntsAt w v zs) :
    Calls Tryd.prog 11 #[.agg #[.int .i64 k, .int .i64 R, .slice va vn vc], u, v] w (Ret2 (fun x y w' => ErrIs r w' (permF k R xs (xs.length / k.toNat) ys zs) y ∧ (permF k R xs (xs.length / k.toNat) ys zs = none → OwnI w.heap.size w' x ((leftS k.toNat xs (numW k.toNat zs) ys).2 ++ zs)) ∧ (permF k R xs (xs.length / k.toNat) ys zs ≠ none → x = .slice none 0 0)) w) := by
  cases hc : checkP k R xs with
  | some t =>
    have e : permF k R xs (xs.length / k.toNat) ys zs = under sPermut 0 (some t) := by simp [permF, hc]
    refine (left_bad1 r k R va vn vc xs u v t w hg h hc).mono ?_
    rintro e1 w' ⟨x, y, he, hb, hx, hy⟩
    exact ⟨x, y, he, hb, by rw [e]; exact hy, (fun h => by rw [e] at h; cases h), fun _ => hx⟩
  | none =>
    obtain ⟨K, R, rfl, rfl, hr⟩ := checkP_none hc
    rw [Int.toNat_natCast]
    cases hp : unlikeP K xs (xs.length / K) with
    | false =>
      have e : permF K R xs (xs.length / K) ys zs = fresh sPermut 0 3 := by simp [permF, hc, hp]
      refine (left_bad2 r K R va vn vc xs u v w hg h hr hp).mono ?_
      rintro e1 w' ⟨x, y, he, hb, hx, hy⟩
      exact ⟨x, y, he, hb, by rw [e]; exact hy, (fun h => by rw [e] at h; cases h), fun _ => hx⟩
    | true =>
      have e : permF K R xs (xs.length / K) ys zs = checkM K R ys zs := by simp [permF, hc, hp]
      cases hm : checkM K R ys zs with
      | some t =>
        rw [hm] at e
        refine (left_bad3 r K R va vn vc xs u v ys zs t w hg h hr hp hu hv hm).mono ?_
        rintro e1 w' ⟨x, y, he, hb, hx, hy⟩
        exact ⟨x, y, he, hb, by rw [e]; exact hy, (fun h => by rw [e] at h; cases h), fun _ => hx⟩
      | none =>
        rw [hm] at e
        refine (left_ok r K R va vn vc xs u v ys zs w hg h hr hp hu hv hm).mono ?_
        rintro e1 w' ⟨x, y, he, hb, hx, hy⟩
        exact ⟨x, y, he, hb, by rw [e]; exact hy, fun _ => hx, fun h => absurd e h⟩
end Go.Proofs.YtbpdmpcakenjhaaDoor

namespace Go.Proofs.YtbpdmpcakenjhaaDoor
open Go.RowKit Go.Shelf
set_option maxRecDepth 100000

def Tryd.laysMul_ren : Go.Shelf.Ren := ⟨fun | 212 => 82 | 263 => 100 | 264 => 101 | n => n, fun | 46 => 109 | 51 => 131 | 146 => 132 | 53 => 134 | 148 => 135 | n => n, fun | n => n⟩
theorem Tryd.laysMul : Go.Proofs.Lays.n212 Tryd.prog Tryd.laysMul_ren := {
  mixed := by kernel_rfl
  f212 := Tryd.func82.trans (congrArg some (by kernel_rfl))
  f263 := Tryd.func100.trans (congrArg some (by kernel_rfl))
  f264 := Tryd.func101.trans (congrArg some (by kernel_rfl))
  t46 := Tryd.underlying109
  a46 := Tryd.isAgg109
  z46 := Tryd.sizeOf109
  v46 := Tryd.zeroValue109
  t51 := Tryd.underlying131
  a51 := Tryd.isAgg131
  z51 := Tryd.sizeOf131
  v51 := Tryd.zeroValue131
  t53 := Tryd.underlying134
  a53 := Tryd.isAgg134
  z53 := Tryd.sizeOf134
  v53 := Tryd.zeroValue134
  t146 := Tryd.underlying132
  a146 := Tryd.isAgg132
  z146 := Tryd.sizeOf132
  v146 := Tryd.zeroValue132
  t148 := Tryd.underlying135
  a148 := Tryd.isAgg135
  z148 := Tryd.sizeOf135
  v148 := Tryd.zeroValue135 }

/-- copy(d, u), d at place off of an owned slice, u longer perhaps than the room. -/
theorem run_copyMin {w : World} {B : Nat} {v u d : Value} {xs ys : List Int} (off : Nat) (ty : TypeId) (dp : Option Addr) (dLen dCap : Nat) (hown : OwnI B w v xs) (hu : IntsAt w u ys) (hd : d = .slice dp dLen dCap)
    (hfit : off + dLen ≤ xs.length) (h0 : 0 < dLen) (h1 : 0 < ys.length) (hdp : dp = some (valAt v off)) :
    ∃ w', (Builtin.copy_ #[22, 22] ty #[d, u]).run Tryd.prog w = .ok (.int .i64 ((ys.take dLen).length : Int)) w' ∧ OwnI B w' v (xs.take off ++ ys.take dLen ++ xs.drop (off + (ys.take dLen).length)) ∧ Below B w w' := by
  subst hd
  obtain ⟨sp, sCap, rfl, hc1, h2, h3, h4⟩ := hu
  subst hdp
  cases sp with
  | none => have := h3 rfl; omega
  | some p =>
    rcases hown.2 with ⟨rfl, hn⟩ | ⟨g, cap, cur, rfl, hb, hg, hn, hm, hcs, ht⟩
    · omega
    · rw [valAt_row]
      obtain ⟨zs, hzs⟩ : ∃ zs, zs = ys.take dLen := ⟨_, rfl⟩
      have hzl : zs.length = Nat.min ys.length dLen := by rw [hzs, List.length_take, Nat.min_comm]
      have hzd : zs.length ≤ dLen := by rw [hzl]; exact Nat.min_le_right _ _
      rw [← hzs]
      have hsrc : ∀ j u, (zs.map (Value.int .i64))[j]? = some u → w.cell? (p.add j) = some u := by
        intro j u hj
        have hjl : j < zs.length := by have := (List.getElem?_eq_some_iff.1 hj).1; simpa using this
        have hjy : j < ys.length := by rw [hzl] at hjl; exact Nat.lt_of_lt_of_le hjl (Nat.min_le_left _ _)
        have := h4 j hjy
        simp only [valAt] at this
        rw [this, ← hj, List.getElem?_map, List.getElem?_eq_getElem hjl]
        simp [hzs]
      have hcl : cur.toList.length = cap := by rw [Array.length_toList, hcs]; omega
      have hr := run_copy_row (P := Tryd.prog) w 22 22 ty 3 g off dLen dCap p ys.length sCap cur 3 (zs.map (.int .i64)) uInts sizeInt1 hg (by rw [List.length_map]; exact hzl) hsrc (by rw [hcs, List.length_map]; omega) (ints_oneCell _ _)
      rw [show goInt (zs.map (Value.int .i64)).length = .int .i64 zs.length by rw [List.length_map]; rfl] at hr
      have hst : w.grownBy (w.setRow g (cur.toList.take off ++ zs.map (Value.int .i64) ++ cur.toList.drop (off + (zs.map (Value.int .i64)).length)).toArray) (some g) :=
        ⟨rfl, rfl, rfl, by simp, fun k _ hk => setRow_other w g k _ (fun e => hk (by simp [e]))⟩
      refine ⟨_, hr, ?_, (Below.refl _ _).grown hst (by have := (Array.getElem?_eq_some_iff.1 hg).1; omega) (by intro k hk; simp at hk; omega)⟩
      have hlen : (xs.take off ++ zs ++ xs.drop (off + zs.length)).length = xs.length := by simp; omega
      refine ⟨by simp, .inr ⟨g, cap, _, by rw [hlen], hb, setRow_heap w g cur _ _ _ hg, by rw [hlen]; exact hn, hm, ?_, ?_⟩⟩
      · simp only [List.size_toArray, List.length_append, List.length_take, List.length_drop, List.length_map, hcl]; omega
      · rw [hlen]
        have e := splice_take cur.toList (zs.map (Value.int .i64)) off xs.length (by rw [List.length_map]; omega) (by omega)
        rw [Nat.mul_one] at ht ⊢
        rw [e, ht]
        simp [List.map_take, List.map_drop]

/-- Some copies, zeros behind. -/
def reps (x : Int) (m n : Nat) : List Int := List.replicate m x ++ List.replicate (n - m) 0
theorem reps_len (x : Int) {m n : Nat} (h : m ≤ n) : (reps x m n).length = n := by simp [reps]; omega
theorem reps_full (x : Int) (n : Nat) : reps x n n = List.replicate n x := by simp [reps]
theorem reps_splice (x : Int) {m n k : Nat} (hk : m + k ≤ n) : (reps x m n).take m ++ List.replicate k x ++ (reps x m n).drop (m + k) = reps x (m + k) n := by
  unfold reps
  rw [List.take_left' (by simp), List.drop_append, List.drop_eq_nil_of_le (by simp), List.nil_append, List.length_replicate, List.drop_replicate, List.replicate_append_replicate]
  congr 2
  omega

theorem mul_any (x y : Nat) (hx : x < 100000) (hy : y < 100000) (w : World) :
    Calls Tryd.prog 82 #[.int .u64 x, .int .u64 y] w fun e w' => e = .returned (.tuple #[.int .u64 0, .int .u64 ((x * y : Nat) : Int)]) ∧ w = w' := by
  refine (Any.bits_Mul Tryd.laysMul x y (by omega) (by omega) w).mono ?_
  rintro e w' ⟨rfl, rfl⟩
  have h : x * y < 10000000000 := by
    calc x * y ≤ 99999 * 99999 := Nat.mul_le_mul (by omega) (by omega)
      _ < _ := by decide
  rw [Nat.div_eq_of_lt (by omega), Nat.mod_eq_of_lt (by omega)]
  exact ⟨rfl, rfl⟩

set_option maxHeartbeats 1000000 in
theorem repeat_any (v : Value) (x : Int) (n : Nat) (w : World) (h : IntsAt w v [x]) (hn : n ≤ 10000) :
    Calls Tryd.prog 53 #[v, .int .i64 n] w (Ret1 (fun u w' => OwnI w.heap.size w' u (List.replicate n x)) w) := by
  have hl := h.len
  obtain ⟨u, w1, hmk, hu, hb1⟩ := run_makeI (n : Int) n w rfl (by omega)
  have hM := mul_any 1 n (by omega) (by omega) w
  rw [Nat.one_mul] at hM
  replace hM := Lib.hid hM
  obtain ⟨ua, un, uc, rfl⟩ := hu.at.shape
  go_enter Tryd.func53, Tryd.ntmps53
  have hcp : ∃ w2, (Builtin.copy_ #[22, 22] 3 #[.slice ua un uc, v]).run Tryd.prog w1 = .ok (.int .i64 ((min 1 n : Nat) : Int)) w2 ∧ OwnI w.heap.size w2 (.slice ua un uc) (reps x (min 1 n) n) ∧ Below w.heap.size w1 w2 := by
    have hun : un = n := by
      obtain ⟨a, c, e, _⟩ := hu.at
      injection e with _ e _
      rw [e]; simp
    have hv := h.below hb1
    by_cases h0 : n = 0
    · subst h0; subst hun
      obtain ⟨sp, sc, rfl, _⟩ := hv
      refine ⟨w1, run_copy_none (P := Tryd.prog) w1 22 22 3 3 ua sp 0 uc 1 sc uInts sizeInt1 (by simp), ?_, Below.refl _ _⟩
      simpa [reps] using hu
    · subst hun
      have hva : ua = some (valAt (.slice ua un uc) 0) := by
        rcases hu.2 with ⟨e, hn0⟩ | ⟨g, cap, cur, e, _⟩
        · rw [List.length_replicate] at hn0; exact absurd hn0 h0
        · injection e with e1 e2 e3
          subst e1; rfl
      obtain ⟨w2, h1, h2, h3⟩ := run_copyMin (ys := [x]) 0 3 ua un uc hu hv rfl (by rw [List.length_replicate]; omega) (by omega) (by simp) hva
      have ht : ([x] : List Int).take un = [x] := List.take_of_length_le (by show 1 ≤ un; omega)
      rw [ht] at h1 h2
      refine ⟨w2, ?_, ?_, h3⟩
      · rw [h1, Nat.min_eq_left (by omega)]; rfl
      · rw [Nat.min_eq_left (by omega)]
        have e := reps_splice x (m := 0) (n := un) (k := 1) (by omega)
        have e2 : reps x 0 un = List.replicate un 0 := by simp [reps]
        rw [e2] at e
        rw [← e]
        exact h2
  obtain ⟨w2, hcp, ho2, hb2⟩ := hcp
  replace hu := Lib.hid hu
  replace ho2 := Lib.hid ho2
  have hb := Lib.hid (hb1.trans hb2)
  go_wp2_with fail
  refine hM.out.mono ?_
  rintro e w' ⟨rfl, rfl⟩
  go_wp2_with fail
  go_loopw [8] (fun mv wr => ∃ m : Nat, min 1 n ≤ m ∧ m ≤ n ∧ mv = .int .i64 m ∧ OwnI w.heap.size wr (.slice ua un uc) (reps x m n) ∧ Below w.heap.size w wr) (fun mv _ => n - (intOf mv).toNat)
  case atStart => exact ⟨min 1 n, Nat.le_refl _, Nat.min_le_right _ _, rfl, ho2.out, hb.out⟩
  case round =>
    obtain ⟨m, hm1, hm2, rfl, ho, hbr⟩ := hrel
    obtain ⟨wo, rfl⟩ : ∃ wo : World, wo = wr := ⟨_, rfl⟩
    have hl2 := ho.at.len
    rw [reps_len x hm2] at hl2
    by_cases hlt : m < n
    · have hm0 : 1 ≤ m := by omega
      obtain ⟨g, cap, cur, e, hgB, _, hnc, _⟩ : ∃ g cap cur, Value.slice ua un uc = .slice (some ⟨g, 0, none⟩) (reps x m n).length cap ∧ w.heap.size ≤ g ∧ wo.heap[g]? = some (.cells cur 3 (0, 0)) ∧ (reps x m n).length ≤ cap ∧ True := by
        rcases ho.2 with ⟨_, hn0⟩ | ⟨g, cap, cur, e, h1, h2, h3, _⟩
        · rw [reps_len x hm2] at hn0; omega
        · exact ⟨g, cap, cur, e, h1, h2, h3, trivial⟩
      rw [reps_len x hm2] at e hnc
      injection e with e1 e2 e3
      subst e1; subst e2; subst e3
      have hfull := Lib.hid hu
      clear hfull hu ho2 hcp hmk
      have hu2 := ho.at.pre m (by rw [reps_len x hm2]; exact hm2)
      have htk : (reps x m un).take m = List.replicate m x := by unfold reps; exact List.take_left' (by simp)
      rw [htk] at hu2
      obtain ⟨k, hk⟩ : ∃ k, k = ((List.replicate m x).take (un - m)).length := ⟨_, rfl⟩
      have hkk : k = min (un - m) m := by rw [hk]; simp
      have hkr : (List.replicate m x).take (un - m) = List.replicate k x := by rw [hkk, List.take_replicate]
      have hcp : ∀ W : World, OwnI w.heap.size W (.slice (some ⟨g, 0, none⟩) un uc) (reps x m un) → IntsAt W (.slice (some ⟨g, 0, none⟩) m uc) (List.replicate m x) → ∃ w2, (Builtin.copy_ #[22, 22] 3 #[.slice (some ⟨g, m, none⟩) (un - m) (uc - m), .slice (some ⟨g, 0, none⟩) m uc]).run Tryd.prog W = .ok (.int .i64 (k : Int)) w2 ∧ OwnI w.heap.size w2 (.slice (some ⟨g, 0, none⟩) un uc) (reps x (m + k) un) ∧ Below w.heap.size W w2 := by
        intro W hW hW2
        obtain ⟨w2, a, b, c⟩ := run_copyMin m 3 (some ⟨g, m, none⟩) (un - m) (uc - m) hW hW2 rfl (by rw [reps_len x hm2]; omega) (by omega) (by rw [List.length_replicate]; omega) (by rw [valAt_row])
        rw [← hk] at a b
        rw [hkr, reps_splice x (by omega)] at b
        exact ⟨w2, a, b, c⟩
      obtain ⟨w3, hc3, ho3, hb3⟩ := hcp wo.drew ho hu2
      have hwr : IntKind.i64.wrap ((m : Int) + (k : Int)) = (m : Int) + k := wrapK (by omega) (by omega)
      have hb4 : Below w.heap.size w w3 := hbr.drew.trans hb3
      have hk1 : 1 ≤ k := by omega
      have hk2 : m + k ≤ un := by omega
      have hsl1 : (0 ≤ (m : Int) ∧ (m : Int) ≤ (un : Int)) := ⟨by omega, by omega⟩
      have hsl2 : (0 ≤ (m : Int) ∧ (m : Int) ≤ (uc : Int)) := ⟨by omega, by omega⟩
      have hmc : ¬ uc = m := by omega
      replace ho3 := Lib.hid ho3
      replace ho := Lib.hid ho
      clear hcp hu2 htk hk hkr hkk
      go_upto_region 9 with fail
      refine wp_region_plan (fun _ => True) 9 [(0, true), (1, true), (2, true), (3, true), (4, true), (5, true), (6, true), (7, false), (8, true)] (by kernel_rfl) (by kernel_rfl) ?_
      have hS := trivial
      refine headY (v := ?_) (some 38) rfl rfl (Or.inl ⟨by rfl, ?_⟩) hS ?_
      rotate_left
      · rintro W' _; go_simp; try with_reducible rfl
      simp only [Act.put, List.setIfInBounds_toArray, List.set_cons_zero, List.set_cons_succ]
      refine headY (v := ?_) (some 39) rfl rfl (Or.inl ⟨by rfl, ?_⟩) hS ?_
      rotate_left
      · rintro W' _; go_simp; try with_reducible rfl
      simp only [Act.put, List.setIfInBounds_toArray, List.set_cons_zero, List.set_cons_succ]
      refine headY (v := ?_) (some 40) rfl rfl (Or.inl ⟨by rfl, ?_⟩) hS ?_
      rotate_left
      · rintro W' _; go_simp; try with_reducible rfl
      simp only [Act.put, List.setIfInBounds_toArray, List.set_cons_zero, List.set_cons_succ]
      refine headY (v := ?_) (some 41) rfl rfl (Or.inl ⟨by rfl, ?_⟩) hS ?_
      rotate_left
      · rintro W' _; go_simp; try with_reducible rfl
      simp only [Act.put, List.setIfInBounds_toArray, List.set_cons_zero, List.set_cons_succ]
      refine headY (v := ?_) (some 42) rfl rfl (Or.inl ⟨by rfl, ?_⟩) hS ?_
      rotate_left
      · rintro W' _; go_simp; try with_reducible rfl
      simp only [Act.put, List.setIfInBounds_toArray, List.set_cons_zero, List.set_cons_succ]
      refine headY (v := ?_) (some 43) rfl rfl (Or.inl ⟨by rfl, ?_⟩) hS ?_
      rotate_left
      · rintro W' _; go_simp; try with_reducible rfl
      simp only [Act.put, List.setIfInBounds_toArray, List.set_cons_zero, List.set_cons_succ]
      refine headY (v := ?_) (some 44) rfl rfl (Or.inl ⟨by rfl, ?_⟩) hS ?_
      rotate_left
      · rintro W' _; go_simp; try with_reducible rfl
      simp only [Act.put, List.setIfInBounds_toArray, List.set_cons_zero, List.set_cons_succ]
      refine headC rfl (fun KK hK => ?_)
      -- CALL 7 slot (some 45)
      go_simp
      refine hK _ _ hS ?_
      clear hK KK
      refine headY (v := ?_) (some 46) rfl rfl (Or.inl ⟨by rfl, ?_⟩) hS ?_
      rotate_left
      · rintro W' _; go_simp; try with_reducible rfl
      simp only [Act.put, List.setIfInBounds_toArray, List.set_cons_zero, List.set_cons_succ]
      refine head0 ?_
      simp only [List.drop_succ_cons, List.drop_zero]
      go_wp2
      refine NoPanic.normal ?_
      go_wp2
      go_round
      case measure => simp [intOf]; omega
      case rel => exact ⟨m + k, by omega, hk2, by go_num, ho3.out, hb4⟩
    · obtain rfl : m = n := by omega
      rw [reps_full] at ho
      replace ho := Lib.hid ho
      go_wp2
      go_ret
      exact ⟨_, rfl, hbr, ho.out⟩
end Go.Proofs.YtbpdmpcakenjhaaDoor

namespace Go.Proofs.YtbpdmpcakenjhaaDoor

def updM (M : Int → Option Int) (p x : Int) : Int → Option Int := fun q => if q = p then some x else M q
/-- Behind the first k: what has a number, and how many have. -/
def numM (p : Nat → Int) : Nat → (Int → Option Int) × Nat
  | 0 => (fun _ => none, 0)
  | k + 1 => if ((numM p k).1 (p k)).isSome then numM p k else (updM (numM p k).1 (p k) ((numM p k).2 : Int), (numM p k).2 + 1)
/-- The number of the k-th. -/
def numO (p : Nat → Int) (k : Nat) : Int := ((numM p (k + 1)).1 (p k)).getD 0
theorem numM_size (p : Nat → Int) : ∀ k, (numM p k).2 ≤ k
  | 0 => Nat.le_refl _
  | k + 1 => by
    have := numM_size p k
    simp only [numM]; split <;> simp <;> omega
theorem numM_keep (p : Nat → Int) {q x : Int} (k : Nat) (h : (numM p k).1 q = some x) : ∀ d, (numM p (k + d)).1 q = some x
  | 0 => h
  | d + 1 => by
    have ih := numM_keep p k h d
    show (numM p (k + d + 1)).1 q = some x
    simp only [numM]
    split
    · exact ih
    · next hn =>
      show updM _ _ _ q = some x
      unfold updM
      by_cases e : q = p (k + d)
      · subst e; rw [ih] at hn; exact absurd rfl hn
      · rw [if_neg e]; exact ih
theorem numM_own (p : Nat → Int) (k : Nat) : (numM p (k + 1)).1 (p k) = some (numO p k) := by
  unfold numO
  have : ((numM p (k + 1)).1 (p k)).isSome := by
    simp only [numM]
    split
    · next h => exact h
    · simp [updM]
  obtain ⟨x, hx⟩ := Option.isSome_iff_exists.1 this
  rw [hx]; rfl
theorem numM_below (p : Nat → Int) : ∀ k q x, (numM p k).1 q = some x → 0 ≤ x ∧ x < (numM p k).2
  | 0, q, x, h => by cases h
  | k + 1, q, x, h => by
    have ih := numM_below p k q x
    simp only [numM] at h ⊢
    split at h
    · next hs => rw [if_pos hs]; exact ih h
    · next hs =>
      rw [if_neg hs]
      simp only [updM] at h ⊢
      by_cases e : q = p k
      · rw [if_pos e] at h; injection h with h; omega
      · rw [if_neg e] at h; have := ih h; omega
theorem numM_inj (p : Nat → Int) : ∀ k q q' x, (numM p k).1 q = some x → (numM p k).1 q' = some x → q = q'
  | 0, q, q', x, h, _ => by cases h
  | k + 1, q, q', x, h, h' => by
    have ih := numM_inj p k q q' x
    simp only [numM] at h h'
    split at h
    · next hs => rw [if_pos hs] at h'; exact ih h h'
    · next hs =>
      rw [if_neg hs] at h'
      simp only [updM] at h h'
      by_cases e : q = p k <;> by_cases e' : q' = p k
      · rw [e, e']
      · rw [if_pos e] at h; rw [if_neg e'] at h'
        have := numM_below p k q' x h'
        injection h with h; omega
      · rw [if_neg e] at h; rw [if_pos e'] at h'
        have := numM_below p k q x h
        injection h' with h'; omega
      · rw [if_neg e] at h; rw [if_neg e'] at h'; exact ih h h'
/-- One number just where it is one thing. -/
theorem numO_eq (p : Nat → Int) (i j : Nat) : numO p i = numO p j ↔ p i = p j := by
  have key : ∀ i d, (numM p (i + 1 + d)).1 (p i) = some (numO p i) := fun i d => numM_keep p (i + 1) (numM_own p i) d
  have hi := key i j
  have hj := key j i
  rw [show j + 1 + i = i + 1 + j by omega] at hj
  constructor
  · intro h; rw [h] at hi; exact numM_inj p _ _ _ _ hi hj
  · intro h; rw [h] at hi; rw [hi] at hj; injection hj
theorem numO_bound (p : Nat → Int) (k : Nat) : 0 ≤ numO p k ∧ numO p k ≤ k := by
  have h1 := numM_below p (k + 1) _ _ (numM_own p k)
  have h2 := numM_size p (k + 1)
  omega
/-- What the numbers tell: one number just where there are ways both ways. -/
def PartsOf (n : Nat) (adj : Nat → List Nat) (ps : List Int) : Prop :=
  ∃ p : Nat → Int, (∀ x y, x < n → y < n → (p x = p y ↔ Goes adj x y ∧ Goes adj y x)) ∧ ps = (List.range n).map (numO p)
theorem PartsOf.len {n : Nat} {adj : Nat → List Nat} {ps : List Int} (h : PartsOf n adj ps) : ps.length = n := by
  obtain ⟨p, _, rfl⟩ := h; simp
theorem PartsOf.eq {n : Nat} {adj : Nat → List Nat} {ps : List Int} (h : PartsOf n adj ps) {x y : Nat} (hx : x < n) (hy : y < n) : ps.getD x 0 = ps.getD y 0 ↔ Goes adj x y ∧ Goes adj y x := by
  obtain ⟨p, hp, rfl⟩ := h
  simp only [List.getD_eq_getElem?_getD, List.getElem?_map, List.getElem?_range hx, List.getElem?_range hy, Option.map_some, Option.getD_some]
  rw [numO_eq, hp x y hx hy]
end Go.Proofs.YtbpdmpcakenjhaaDoor

namespace Go.Proofs.YtbpdmpcakenjhaaDoor
open Go.RowKit Go.Maps
set_option maxRecDepth 100000

theorem uIntN : Tryd.prog.underlying 3 = some (.int .i64) := by kernel_rfl
theorem uMapN : Tryd.prog.underlying 84 = some (.map 3 3) := by kernel_rfl
theorem keyedN : Keyed Tryd.prog 3 := int_keyed uIntN
theorem zeroN (w : World) : (zeroValue 3).run Tryd.prog w = .ok (.int .i64 0) w := by kernel_rfl

/-- Block b is a map that has these numbers under these keys, s in all. -/
def NumMap (w : World) (b n : Nat) (M : Int → Option Int) (s : Nat) : Prop :=
  ∃ D : DataW Unit, w.ownsMap Tryd.prog 3 (plainElem Tryd.prog 3) b n D ∧ Maps.size D = s ∧
    ∀ k, (Lit.int .i64 k).wf = true → Maps.has D (.int .i64 k) = (M k).isSome ∧ ∀ x, M k = some x → D.atKey (.int .i64 k) (.lit (.int .i64 0)) = .lit (.int .i64 x)
theorem NumMap.made (w : World) : NumMap (w.alloc (.map #[] 0)) w.heap.size 0 (fun _ => none) 0 :=
  ⟨_, World.ownsMap_made w Tryd.prog 3 _, rfl, fun k _ => ⟨rfl, fun x h => by cases h⟩⟩
theorem NumMap.blk {w : World} {b n s : Nat} {M : Int → Option Int} (h : NumMap w b n M s) : ∃ es c, w.heap[b]? = some (.map es c) := by
  obtain ⟨D, ⟨es, c, hb, _⟩, _⟩ := h
  exact ⟨es, c, hb⟩
theorem NumMap.kept {w w' : World} {b n s : Nat} {M : Int → Option Int} {row : Option Nat} (h : NumMap w b n M s) (hg : w.grownBy w' row) (hne : some b ≠ row) : NumMap w' b n M s := by
  obtain ⟨D, h1, h2⟩ := h
  exact ⟨D, h1.kept hg hne, h2⟩
theorem NumMap.drew {w : World} {b n s : Nat} {M : Int → Option Int} (h : NumMap w b n M s) : NumMap w.drew b n M s := h
theorem NumMap.drewN {w : World} {b n s : Nat} {M : Int → Option Int} (h : NumMap w b n M s) (q : Nat) : NumMap (w.drewN q) b n M s := h
theorem NumMap.len {w : World} {b n s : Nat} {M : Int → Option Int} (h : NumMap w b n M s) (ty : TypeId) : (Builtin.len_ #[84] ty #[.map (some b)]).run Tryd.prog w = .ok (.int .i64 s) w := by
  obtain ⟨D, h1, rfl, _⟩ := h
  exact h1.len uMapN ty
theorem NumMap.lookOk {w : World} {b n s : Nat} {M : Int → Option Int} (h : NumMap w b n M s) (k : Int) (hk : (Lit.int .i64 k).wf = true) :
    ∃ c : Int, (Instr.lookup 84 (.map (some b)) (.int .i64 k) true).run Tryd.prog w = .ok (.tuple #[.int .i64 c, .bool (M k).isSome]) w := by
  obtain ⟨D, h1, _, h3⟩ := h
  obtain ⟨v, ps, hr, hv⟩ := h1.look_ok keyedN uMapN (zeroN w) (plainElem_int uIntN (by decide)) (keyOf_int_mk uIntN hk)
  obtain ⟨c, rfl, _, _⟩ := plainElem_int_inv uIntN hv
  exact ⟨c, by rw [hr, (h3 k hk).1]⟩
theorem NumMap.look {w : World} {b n s : Nat} {M : Int → Option Int} (h : NumMap w b n M s) (k x : Int) (hk : (Lit.int .i64 k).wf = true) (hx : M k = some x) :
    (Instr.lookup 84 (.map (some b)) (.int .i64 k) false).run Tryd.prog w = .ok (.int .i64 x) w := by
  obtain ⟨D, h1, _, h3⟩ := h
  obtain ⟨c, hr, hc, _⟩ := h1.lookup_int keyedN uMapN uIntN (zeroN w) (keyOf_int_mk uIntN hk)
  rw [(h3 k hk).2 x hx] at hc
  injection hc with hc
  injection hc with _ hc
  rw [hr, hc]
theorem NumMap.store {w : World} {b n s : Nat} {M : Int → Option Int} (h : NumMap w b n M s) (k x : Int) (hk : (Lit.int .i64 k).wf = true) (hx : (Lit.int .i64 x).wf = true) (hM : M k = none) (hn : n < 1000000) :
    ∃ w', (Instr.mapUpdate 84 (.map (some b)) (.int .i64 k) (.int .i64 x)).run Tryd.prog w = .ok () w' ∧ NumMap w' b (n + 1) (updM M k x) (s + 1) ∧ w.grownBy w' (some b) := by
  obtain ⟨D, h1, h2, h3⟩ := h
  have hT := h1.tidy keyedN
  have hI := h1.isMap
  obtain ⟨w', hr, ho, hg⟩ := h1.update keyedN uMapN (by unfold maxLen; omega) (keyOf_int_mk uIntN hk) (plainElem_int uIntN hx)
  have hkl : WideAt.IsKeyLit (Lit.int .i64 k) := keyedN.key (keyOf_int_mk uIntN hk)
  refine ⟨w', hr, ⟨_, ho, ?_, fun q hq => ?_⟩, hg⟩
  · rw [Maps.size_put hT, (h3 k hk).1, hM, h2]; rfl
  · by_cases e : q = k
    · subst e
      refine ⟨by rw [Maps.has_put_same hI hkl]; simp [updM], fun y hy => ?_⟩
      simp [updM] at hy
      subst hy
      exact Maps.atKey_put_same hI hkl _ _
    · have hne : (Lit.int .i64 q) ≠ (Lit.int .i64 k) := fun h => e (by injection h)
      refine ⟨by rw [Maps.has_put_other hne, (h3 q hq).1]; simp [updM, e], fun y hy => ?_⟩
      rw [Maps.atKey_put_other hne]
      exact (h3 q hq).2 y (by simpa [updM, e] using hy)
/-- Rows stay while a map's block is written. -/
theorem ownI_map {B : Nat} {w w' : World} {b : Nat} {es : Array MapEntry} {c : Nat} {v : Value} {xs : List Int} (h : OwnI B w v xs) (hb : w.heap[b]? = some (.map es c)) (hg : w.grownBy w' (some b)) : OwnI B w' v xs := by
  refine World.ownsRow.kept h hg ?_
  rcases h.2 with ⟨e, _⟩ | ⟨g, cap, cur, e, _, hh, _⟩
  · left; rw [e]; rfl
  · right; rw [e]; intro q
    have : g = b := by injection q
    subst this; rw [hh] at hb; cases hb
end Go.Proofs.YtbpdmpcakenjhaaDoor

namespace Go.Proofs.YtbpdmpcakenjhaaDoor
open Go.RowKit
set_option maxRecDepth 100000

theorem oneStrs : OneCell 50 9 (.string ⟨#[]⟩) 16 := ⟨by kernel_rfl, by kernel_rfl, rfl, by decide, fun _ => by kernel_rfl⟩

/-- What an edenraw.Err is in memory. -/
def EAt (w : World) (t : PErr) (v : Value) : Prop :=
  match t with
  | none => v = .agg #[.int .i64 0, .slice none 0 0, .slice none 0 0]
  | some (n, l) => ∃ a1 n1 c1 a2 n2 c2, v = .agg #[.int .i64 n, .slice a1 n1 c1, .slice a2 n2 c2] ∧ ValsAt w (.slice a1 n1 c1) (l.map fun x => Value.string x.1) ∧ IntsAt w (.slice a2 n2 c2) (l.map (·.2))

theorem EAt.below {w w' : World} {t : PErr} {v : Value} (h : EAt w t v) (hb : Below w.heap.size w w') : EAt w' t v := by
  match t, h with
  | none, h => exact h
  | some (n, l), ⟨a1, n1, c1, a2, n2, c2, e, h1, h2⟩ => exact ⟨a1, n1, c1, a2, n2, c2, e, h1.below hb, h2.below hb⟩

/-- An edenraw.Err whose lists this call made, from block B on. -/
def EOwn (B : Nat) (w : World) (t : PErr) (v : Value) : Prop :=
  match t with
  | none => v = .agg #[.int .i64 0, .slice none 0 0, .slice none 0 0]
  | some (n, l) => ∃ a1 n1 c1 a2 n2 c2, v = .agg #[.int .i64 n, .slice a1 n1 c1, .slice a2 n2 c2] ∧ OwnV 9 B w (.slice a1 n1 c1) (l.map fun x => Value.string x.1) ∧ OwnV 3 B w (.slice a2 n2 c2) ((l.map (·.2)).map (Value.int .i64))

theorem OwnV.setBelowBase {E : TypeId} {B : Nat} {w : World} {v : Value} {vs : List Value} (h : OwnV E B w v vs) {a : Addr} (ha : a.block < B) (u : Value) : OwnV E B (w.setCell a u) v vs := ownsRow_setCell_below h ha u
theorem EOwn.at {B : Nat} {w : World} {t : PErr} {v : Value} (h : EOwn B w t v) : EAt w t v := by
  match t, h with
  | none, h => exact h
  | some (n, l), ⟨a1, n1, c1, a2, n2, c2, e, h1, h2⟩ => exact ⟨a1, n1, c1, a2, n2, c2, e, h1.at, OwnI.at (OwnV.toI h2)⟩
theorem EOwn.mono {B B' : Nat} {w : World} {t : PErr} {v : Value} (h : EOwn B w t v) (hB : B' ≤ B) : EOwn B' w t v := by
  match t, h with
  | none, h => exact h
  | some (n, l), ⟨a1, n1, c1, a2, n2, c2, e, h1, h2⟩ => exact ⟨a1, n1, c1, a2, n2, c2, e, h1.mono hB, h2.mono hB⟩
theorem EOwn.below {B : Nat} {w w' : World} {t : PErr} {v : Value} (h : EOwn B w t v) (hb : Below w.heap.size w w') : EOwn B w' t v := by
  match t, h with
  | none, h => exact h
  | some (n, l), ⟨a1, n1, c1, a2, n2, c2, e, h1, h2⟩ => exact ⟨a1, n1, c1, a2, n2, c2, e, h1.below hb, h2.below hb⟩
theorem EOwn.set {B : Nat} {w : World} {t : PErr} {v : Value} (h : EOwn B w t v) {a : Addr} (ha : a.block < B) (u : Value) : EOwn B (w.setCell a u) t v := by
  match t, h with
  | none, h => exact h
  | some (n, l), ⟨a1, n1, c1, a2, n2, c2, e, h1, h2⟩ => exact ⟨a1, n1, c1, a2, n2, c2, e, h1.setBelowBase ha u, h2.setBelowBase ha u⟩
theorem EOwn.set3 {B b : Nat} {w : World} {t : PErr} {v : Value} (h : EOwn B w t v) (hb : b < B) (x y z : Value) : EOwn B (((w.setCell ⟨b, 0, none⟩ x).setCell ⟨b, 1, none⟩ y).setCell ⟨b, 2, none⟩ z) t v :=
  ((h.set (a := ⟨b, 0, none⟩) hb x).set (a := ⟨b, 1, none⟩) hb y).set (a := ⟨b, 2, none⟩) hb z
theorem Below.set3 {B b : Nat} {w0 w : World} (h : Below B w0 w) (hb : B ≤ b) (x y z : Value) : Below B w0 (((w.setCell ⟨b, 0, none⟩ x).setCell ⟨b, 1, none⟩ y).setCell ⟨b, 2, none⟩ z) :=
  ((h.setCell (p := ⟨b, 0, none⟩) hb x).setCell (p := ⟨b, 1, none⟩) hb y).setCell (p := ⟨b, 2, none⟩) hb z
theorem OwnV.lit {E : TypeId} (B : Nat) (w : World) (hB : B ≤ w.heap.size) (x : Value) : OwnV E B (w.alloc (.cells #[x] E)) (.slice (some ⟨w.heap.size, 0, none⟩) 1 1) [x] :=
  World.ownsRow_lit (base := B) (e := E) (size := 1) w #[x] 1 hB (by unfold maxLen; omega) rfl

theorem EAt.shape {w : World} {t : PErr} {v : Value} (h : EAt w t v) : ∃ n a1 n1 c1 a2 n2 c2, v = .agg #[.int .i64 n, .slice a1 n1 c1, .slice a2 n2 c2] := by
  match t, h with
  | none, h => exact ⟨0, none, 0, 0, none, 0, 0, h⟩
  | some (n, l), ⟨a1, n1, c1, a2, n2, c2, e, _⟩ => exact ⟨n, a1, n1, c1, a2, n2, c2, e⟩

abbrev zErr : Value := .agg #[.int .i64 0, .slice none 0 0, .slice none 0 0]
theorem EAt.none (w : World) : EAt w none zErr := rfl

set_option maxHeartbeats 1000000 in
theorem raw_root (r : Nat → Addr) (n : Int) (w : World) (hg : Glob r w) (h1 : 1 ≤ n) (h2 : n ≤ 11) :
    Calls Tryd.prog 63 #[.int .i64 n] w fun e w' => e = .returned (rootV r n) ∧ w = w' := by
  obtain ⟨c1, c2, c3, c4, c5, c6, c7, c8, c9, c10, c11, _, _, _⟩ := hg
  have hn : n = 1 ∨ n = 2 ∨ n = 3 ∨ n = 4 ∨ n = 5 ∨ n = 6 ∨ n = 7 ∨ n = 8 ∨ n = 9 ∨ n = 10 ∨ n = 11 := by omega
  rcases hn with rfl | rfl | rfl | rfl | rfl | rfl | rfl | rfl | rfl | rfl | rfl <;>
  (clear h1 h2
   go_enter Tryd.func63, Tryd.ntmps63
   go_wp2
   go_ret
   exact ⟨rfl, rfl⟩)

theorem err_bad (n : Int) (a1 : Option Addr) (n1 c1 : Nat) (a2 : Option Addr) (n2 c2 : Nat) (w : World) :
    Calls Tryd.prog 59 #[.agg #[.int .i64 n, .slice a1 n1 c1, .slice a2 n2 c2]] w (Ret1 (fun x _ => x = .bool (n != 0)) w) := by
  go_enter Tryd.func59, Tryd.ntmps59
  go_wp2
  go_ret
  exact ⟨_, rfl, (Below.refl _ _).alloc (Nat.le_refl _) _, rfl⟩

theorem vals1 {w : World} {b : Nat} {u : Value} (h : w.cell? ⟨b, 0, none⟩ = some u) : ValsAt w (.slice (some ⟨b, 0, none⟩) 1 1) [u] :=
  ⟨some ⟨b, 0, none⟩, 1, rfl, by simp, by unfold maxLen; omega, (fun e => by cases e), fun i hi => by
    obtain rfl : i = 0 := by simpa using hi
    rw [valAt_row]; simpa using h⟩
theorem ints1 {w : World} {b : Nat} {x : Int} (h : w.cell? ⟨b, 0, none⟩ = some (.int .i64 x)) : IntsAt w (.slice (some ⟨b, 0, none⟩) 1 1) [x] :=
  ⟨some ⟨b, 0, none⟩, 1, rfl, by simp, by unfold maxLen; omega, (fun e => by cases e), fun i hi => by
    obtain rfl : i = 0 := by simpa using hi
    rw [valAt_row]; simpa using h⟩

set_option maxHeartbeats 800000 in
theorem raw_new (op : ByteArray) (at_ n : Int) (w : World) :
    Calls Tryd.prog 67 #[.string op, .int .i64 at_, .int .i64 n] w (Ret1 (fun x w' => EOwn w.heap.size w' (fresh op at_ n) x) w) := by
  go_enter Tryd.func67, Tryd.ntmps67
  go_wp2
  refine bodyPost_ret (v := .agg #[.int .i64 n, .slice (some ⟨w.heap.size + 1, 0, none⟩) 1 1, .slice (some ⟨w.heap.size + 1 + 1, 0, none⟩) 1 1]) (by simp [results, Tryd.results67, go_sem]) rfl ⟨_, rfl, ?_, ?_⟩
  · exact (((Below.refl _ _).alloc (Nat.le_refl _) _).alloc (by simp) _).alloc (by simp; omega) _
  · have h1 := (OwnV.lit (E := 9) w.heap.size (w.alloc (.cells #[.int .i64 n, .slice (some ⟨w.heap.size + 1, 0, none⟩) 1 1, .slice (some ⟨w.heap.size + 1 + 1, 0, none⟩) 1 1] 52)) (by simp) (.string op)).alloc (.cells #[.int .i64 at_] 3)
    have h2 := OwnV.lit (E := 3) w.heap.size ((w.alloc (.cells #[.int .i64 n, .slice (some ⟨w.heap.size + 1, 0, none⟩) 1 1, .slice (some ⟨w.heap.size + 1 + 1, 0, none⟩) 1 1] 52)).alloc (.cells #[.string op] 9)) (by simp; omega) (.int .i64 at_)
    simp only [World.size_alloc] at h1 h2
    exact ⟨_, _, _, _, _, _, rfl, h1, h2⟩

theorem ValsAt.alloc {w : World} {v : Value} {vs : List Value} (h : ValsAt w v vs) (o : Obj) : ValsAt (w.alloc o) v vs := h.below ((Below.refl _ _).alloc (Nat.le_refl _) _)
theorem ValsAt.drew {w : World} {v : Value} {vs : List Value} (h : ValsAt w v vs) : ValsAt w.drew v vs := h
theorem ValsAt.split {w : World} {v : Value} {vs : List Value} (h : ValsAt w v vs) : (v = .slice none 0 0 ∧ vs = []) ∨ ∃ p cap, v = .slice (some p) vs.length cap ∧ ∀ j u, vs[j]? = some u → w.cell? (p.add j) = some u := by
  obtain ⟨a, cap, rfl, h1, h2, h3, h4⟩ := h
  cases a with
  | none =>
    obtain rfl := h3 rfl
    obtain rfl := List.length_eq_zero_iff.1 (show vs.length = 0 by omega)
    exact .inl ⟨rfl, rfl⟩
  | some p =>
    refine .inr ⟨p, cap, rfl, fun j u hj => ?_⟩
    have hjl : j < vs.length := (List.getElem?_eq_some_iff.1 hj).1
    have := h4 j hjl
    simp only [valAt] at this
    rw [this, ← hj]; simp [hjl]
theorem IntsAt.alloc {w : World} {v : Value} {xs : List Int} (h : IntsAt w v xs) (o : Obj) : IntsAt (w.alloc o) v xs := h.below ((Below.refl _ _).alloc (Nat.le_refl _) _)

/-- append([]T{x}, ys...) in a region that draws. -/
theorem step_under {T E : TypeId} {z : Value} {bytes : Nat} (oc : OneCell T E z bytes) {ops : Array Oper} {o : Oper} {a : Act} {w : World} {K : Act → World → Prop} {Q : Exit → Act → World → Prop} {Ep : Prop}
    (hg : o.guard = none) (s x : Operand) (hop : o.op = Op.call { callee := Callee.builtin Builtin.append, args := #[s, x], argTypes := #[T, T] })
    (b : Nat) (x0 : Value) (hs : a.eval s = .slice (some ⟨b, 0, none⟩) 1 1) (hb : w.cell? ⟨b, 0, none⟩ = some x0)
    (u : Value) (ys : List Value) (hx : a.eval x = u) (hu : ValsAt w u ys) (h0 : 0 < ys.length) (hl : ys.length ≤ 1000) (h1 : ∀ u ∈ ys, u.oneCell' = true)
    (hK : ∀ v' w', OwnV E w.heap.size w' v' (x0 :: ys) → Below w.heap.size w w' → K (a.put o.dst v') w') :
    if Region.wanted o (yielded ops a.tmps) = true then Oper.wp Tryd.prog o a w K Q else Ep := by
  obtain ⟨i, hi, hz0, hz1, hz2⟩ := info_parts oc.hi
  rcases hu.split with ⟨_, rfl⟩ | ⟨p, cap, rfl, hc⟩
  · simp at h0
  · have hb' := oc.hb
    refine step_append_grows hg s x T hop E i z 1 bytes oc.ht hi hz0 hz1 hz2 (by rw [oc.hz]; rfl) (by decide) (some ⟨b, 0, none⟩) 1 1 [x0] hs (fun h => by cases h) rfl
      (fun b' hb2 j u hj => by
        obtain rfl := Option.some.inj hb2
        obtain ⟨hj1, hj2⟩ := List.getElem?_eq_some_iff.1 hj
        obtain rfl : j = 0 := by simpa using hj1
        simp at hj2; subst hj2
        exact hb) p ys.length cap ys hx (by simp) hc h1 (by omega) (by unfold maxLen; omega) (by
          calc (1 + ys.length) * bytes ≤ 1001 * 32 := Nat.mul_le_mul (by omega) hb'
            _ ≤ _ := by decide) ?_
    intro v' w' hown hgr
    have hv : OwnV E w.heap.size w' v' (x0 :: ys) := by
      unfold OwnV
      rw [show (x0 :: ys).length = 1 + ys.length by simp; omega]
      exact hown
    exact hK v' w' hv ((Below.refl _ _).grown hgr (Nat.le_refl _) (by intro k hk; cases hk))

end Go.Proofs.YtbpdmpcakenjhaaDoor
